/- Words, rules and walks of several kinds, laid together. No conditions but those that each theorem states. -/
import Derived.Test.YtfcoaagbccmahaaGreatQh9681e6b3
set_option linter.unusedSimpArgs false
set_option linter.unusedVariables false
namespace Go.Proofs.YtfcoaagbccmahaaGreat.W
set_option maxRecDepth 100000
set_option maxHeartbeats 40000000
noncomputable section
open Tryz Go.RowKit Go.Proofs
attribute [local irreducible] lt
abbrev CV:=aA→Option Int
def CU(m:CV):Prop:= ∀(pt:aA) (r:Int),m pt=some r→bQ Tryz.prog 109 [(aA.pv pt)] (pI r:PV)
def O0(fu:Nat)(p3:CV)(pt:aA):Nat→Int→Option (LR Int Int):=fun i1 v2=>bd (p3 (aR pt.aCa i1)) fun x6=>some (.next (aX (v2+x6)))
def IL(fu:Nat)(p3:CV)(pt:aA):Option Int:=so (loopN (O0 fu p3 pt) (pt.aCa.length-0) 0 1) fun v2=>some v2
theorem WV(fu:Nat)(p3:CV)(pD:CU p3):CU (IL fu p3):=by
 intro pt r H
 refine qJ func109 H (fun C hC H=>?_)
 refine gQ 2 ?_;refine q1 (fD (bR pt)) ?_;refine gQ 11 ?_;refine cV.fact (cI 0 2 rfl rfl rfl (aA.trs_len _)) (fun hl3=>?_)
 try dsimp only at hl3
 refine bS (σ:=Int) (fun i1 v2=>⟨[(1,.ptr 0 0),(2,pI 0),(3,pI v2),(4,pN i1)],⟨[some ⟨30,bR pt⟩],[]⟩⟩) (fun v2=>⟨[(2,pI 0),(3,pI v2)],⟨[some ⟨30,bR pt⟩],[]⟩⟩) (eM H) ?_ ?_
 ·rintro i1 v2 H
  refine gQ 9 ?_;refine cS H (fun h4 h4l H=>?_) (fun h4 H=>?_)
  ·refine gQ 9 ?_;refine q1 (iK (aA.cs (aR pt.aCa i1))) (bK H fun x6 z5 H=>(q1 (bE func109 (pD (aR pt.aCa i1) _ z5)) ?_))
   exact gE 8
  exact gE 0
 rintro v2 H
 exact gE 5
def lK:Nat→aA→Option Int
 |0,_=>none
 |fu+1,pt=>IL fu (lK fu) pt
theorem Y4(fu:Nat):CU (lK fu):=by
 induction fu with
 |zero=>exact(fun pt r H=>by simp only [lK] at H;cases H)
 |succ fu ih=>exact(fun pt r H=>by simp only [lK] at H;exact WV fu (lK fu) ih pt r H)
theorem O1(fu:Nat):CU (lK fu):=(Y4 fu)
abbrev CJ:=aA→Option Int
def CI(m:CJ):Prop:= ∀(pt:aA) (r:Int),m pt=some r→bQ Tryz.prog 105 [(aA.pv pt)] (pI r:PV)
def N9(fu:Nat)(p4:CJ)(pt:aA):Nat→Int→Option (LR Int Int):=fun i1 v2=>bd (p4 (aR pt.aCa i1)) fun x6=>some (.next (aX (v2+x6)))
def H4(fu:Nat)(p4:CJ)(pt:aA):Option Int:=so (loopN (N9 fu p4 pt) (pt.aCa.length-0) 0 1) fun v2=>some v2
theorem VI(fu:Nat)(p4:CJ)(pE:CI p4):CI (H4 fu p4):=by
 intro pt r H
 refine qJ func105 H (fun C hC H=>?_)
 refine gQ 2 ?_;refine q1 (fD (bR pt)) ?_;refine gQ 14 ?_;refine gP 7 (aA.trs_len _) (fun hl3=>?_)
 try dsimp only at hl3
 refine bS (σ:=Int) (fun i1 v2=>⟨[(2,pI 0),(3,pI v2),(7,aT pt.aCa),(8,pN pt.aCa.length),(9,pN i1)],⟨[some ⟨30,bR pt⟩],[]⟩⟩) (fun v2=>⟨[(2,pI 0),(3,pI v2)],⟨[some ⟨30,bR pt⟩],[]⟩⟩) (eM H) ?_ ?_
 ·rintro i1 v2 H
  refine gQ 5 ?_;refine cS H (fun h4 h4l H=>?_) (fun h4 H=>?_)
  ·refine gQ 6 ?_;refine q1 (iK (aA.cs (aR pt.aCa i1))) ?_;refine gQ 5 ?_;refine q1 (bZ [pI ((aR pt.aCa i1).aCb),pS ((aR pt.aCa i1).aB9),aT ((aR pt.aCa i1).aCa)]) (bK H fun x6 z5 H=>(q1 (bE func105 (pE (aR pt.aCa i1) _ z5)) ?_))
   exact gE 7
  exact gE 0
 rintro v2 H
 exact gE 5
def lJ:Nat→aA→Option Int
 |0,_=>none
 |fu+1,pt=>H4 fu (lJ fu) pt
theorem YF(fu:Nat):CI (lJ fu):=by
 induction fu with
 |zero=>exact(fun pt r H=>by simp only [lJ] at H;cases H)
 |succ fu ih=>exact(fun pt r H=>by simp only [lJ] at H;exact VI fu (lJ fu) ih pt r H)
theorem OA(fu:Nat):CI (lJ fu):=(YF fu)
abbrev oU:=aF→(List aJ)→aG→(List aA)→Option Int
def GE(m:oU):Prop:= ∀(p9:aF) (p5:List aJ) (p0:aG) (a3:List aA) (r:Int),m p9 p5 p0 a3=some r→bQ Tryz.prog 52 [(aF.pv p9),bN p5,(aG.pv p0),aT a3] (pI r:PV)
def IW(fu:Nat)(p1:oU)(p9:aF)(p5:List aJ)(p0:aG)(a3:List aA):Option (Int⊕Unit):=sw (decide (p0.aCd.aCb=2)) (bd (AY fu p0.aCd.aB9) fun x3=>sw x3 (some (.inl 0)) (bd (k7 fu p5 p0) fun x6=>sw (decide (x6≥0)) (some (.inl 0)) (some (.inr ())))) (bd (k7 fu p5 p0) fun x9=>sw (decide (x9≥0)) (some (.inl 0)) (some (.inr ())))
def IX(fu:Nat)(p1:oU)(p9:aF)(p5:List aJ)(p0:aG)(a3:List aA):Nat→Unit→Option (LR Unit Int):=fun i11 _=>sw (aA.eq (aR a3 i11) p0.aCd) (some (.ret 0)) (some (.next ()))
def SX(fu:Nat)(p1:oU)(p9:aF)(p5:List aJ)(p0:aG)(a3:List aA)(x16:aN)(x17:Int)(x18:Bool)(x24:Int):Nat→((List aK))→Option (LR ((List aK)) Int):=fun i26 v28=>gd (i26<(p0.aCd.aCa).length) (gd ((v28).length+(([(aK.mk (aR x16.aCm i26) (aR p0.aCd.aCa i26))]:List aK)).length≤68719476736) (some (.next (v28++([(aK.mk (aR x16.aCm i26) (aR p0.aCd.aCa i26))]:List aK)))))
def S0(fu:Nat)(p1:oU)(p9:aF)(p5:List aJ)(p0:aG)(a3:List aA)(x16:aN)(x17:Int)(x18:Bool)(x24:Int)(v28:List aK)(i35:Nat):Nat→Unit→Option (LR Unit (LR Unit Int)):=fun i38 _=>gd (qT v28) (gd (iG (aR ((aR x16.aCe i35).aCs) i38)) (bd (p1 p9 p5 (aG.mk p0.aCg (jV v28 (aR ((aR x16.aCe i35).aCs) i38))) ((([])++a3)++([p0.aCd]:List aA))) fun x44=>sw (!decide (x44=0)) (some (.ret (.ret x44))) (some (.next ()))))
def SY(fu:Nat)(p1:oU)(p9:aF)(p5:List aJ)(p0:aG)(a3:List aA)(x16:aN)(x17:Int)(x18:Bool)(x24:Int)(v28:List aK):Nat→Unit→Option (LR Unit Int):=fun i35 _=>so (loopN (S0 fu p1 p9 p5 p0 a3 x16 x17 x18 x24 v28 i35) (((aR x16.aCe i35).aCs).length-0) 0 ()) fun _=>some (.next ())
def GD(fu:Nat)(p1:oU)(p9:aF)(p5:List aJ)(p0:aG)(a3:List aA):Option Int:=so (IW fu p1 p9 p5 p0 a3) fun _=>so (loopN (IX fu p1 p9 p5 p0 a3) (a3.length-0) 0 ()) fun _=>bd (AC fu p9 p0.aCd.aB9) fun(x16,x17,x18)=>sw (!decide (p0.aCd.aCb=2)) (some 1) (sw (!(x18)) (some 1) (sw (!decide ((x16.aCm.length:Int)=(p0.aCd.aCa.length:Int))) (some 1) (sw (decide ((a3.length:Int)>30)) (some 3) (bd (lK fu p0.aCd) fun x24=>sw (decide (x24>400)) (some 3) (so (loopN (SX fu p1 p9 p5 p0 a3 x16 x17 x18 x24) (x16.aCm.length-0) 0 ([])) fun v28=>gd (([]:List aA).length+(a3).length≤68719476736) (gd ((([])++a3).length+(([p0.aCd]:List aA)).length≤68719476736) (so (loopN (SY fu p1 p9 p5 p0 a3 x16 x17 x18 x24 v28) (x16.aCe.length-0) 0 ()) fun _=>some 0)))))))
theorem ZJ(fu:Nat)(p1:oU)(pG:GE p1):GE (GD fu p1):=by
 intro p9 p5 p0 a3 r H
 refine qJ func52 H (fun C hC H=>?_)
 refine gQ 2 ?_;refine q1 (fD ([aP p9.aB8])) (q1 (fD (dK p0)) ?_)
 refine gQ 3 ?_;refine n3 (σ:=Unit) (fun _=>⟨[(1,bN p5),(3,aT a3),(4,.ptr 0 0),(6,.ptr 1 0),(8,pI 0)],⟨[some ⟨26,[aP p9.aB8]⟩,some ⟨32,dK p0⟩],[]⟩⟩) (eM H) (fun H=>?_) ?_
 ·refine gQ 7 ?_;refine dL 23 H (fun g1 H=>?_) fun g1 H=>?_
  ·refine gQ 3 ?_;refine bK H fun x3 z2 H=>(qg g1 (bE func108 (M5 fu p0.aCd.aB9 _ z2)) ?_)
   refine gQ 2 ?_;refine dL 29 H (fun g4 H=>gE 11) fun g4 H=>?_;refine qg g4 bF (qg g4 (bZ [pS p0.aCg,pI p0.aCd.aCb,pS p0.aCd.aB9,aT p0.aCd.aCa]) (bK H fun x6 z5 H=>(qg g4 (bE func14 (t1 fu p5 p0 _ z5)) ?_)))
   refine gQ 3 ?_;refine bC H (fun h7 H=>gE 4) fun h7 H=>?_;exact gE 1
  refine gQ 7 ?_;refine qg rfl (bZ [pS p0.aCg,pI p0.aCd.aCb,pS p0.aCd.aB9,aT p0.aCd.aCa]) (bK H fun x9 z8 H=>(qg rfl (bE func14 (t1 fu p5 p0 _ z8)) ?_))
  refine gQ 3 ?_;refine bC H (fun h10 H=>gE 4) fun h10 H=>?_;exact gE 1
 rintro⟨⟩ H
 refine gQ 5 ?_;refine gP 3 (aA.trs_len _) (fun hl12=>?_)
 try dsimp only at hl12
 refine bS (σ:=Unit) (fun i11 _=>⟨[(1,bN p5),(3,aT a3),(4,.ptr 0 0),(6,.ptr 1 0),(8,pI 0),(9,pN i11)],⟨[some ⟨26,[aP p9.aB8]⟩,some ⟨32,dK p0⟩],[]⟩⟩) (fun _=>⟨[(1,bN p5),(3,aT a3),(4,.ptr 0 0),(6,.ptr 1 0),(8,pI 0)],⟨[some ⟨26,[aP p9.aB8]⟩,some ⟨32,dK p0⟩],[]⟩⟩) (eM H) ?_ ?_
 ·rintro i11 ⟨⟩ H
  refine gQ 8 ?_;refine cS H (fun h13 h13l H=>?_) (fun h13 H=>?_)
  ·refine gQ 4 ?_;refine dW (dI [3] bF (dI [9] bF (dI [41,42] qQ (dI [43] (iK (aA.cs (aR a3 i11))) (dI [6] bW (dD [45] (bZ [pI p0.aCd.aCb,pS p0.aCd.aB9,aT p0.aCd.aCa]) (dI [44,46] (bE func38 (nC (aR a3 i11) p0.aCd)) (dN ?_))))))))
   refine bC H (fun h14 H=>gE 4) fun h14 H=>?_;exact gE 6
  exact gE 0
 rintro⟨⟩ H
 refine gQ 2 ?_;refine q1 (bZ [aP p9.aB8]) ?_;refine gQ 3 ?_;refine LU H fun x16 x17 x18 z15 H=>(q1 (bE func53 (ZC fu p9 p0.aCd.aB9 _ z15)) ?_)
 refine gQ 17 ?_;refine dL 61 H (fun g19 H=>gE 19) fun g19 H=>?_;refine gQ 4 ?_;refine dL 65 H (fun g20 H=>gE 15) fun g20 H=>?_;refine gQ 10 ?_;refine bC H (fun h21 H=>gE 4) fun h21 H=>?_;refine gQ 8 ?_;refine dL 78 H (fun g22 H=>gE 11) fun g22 H=>?_;refine qg g22 bW (qg g22 (bZ [pI p0.aCd.aCb,pS p0.aCd.aB9,aT p0.aCd.aCa]) (bK H fun x24 z23 H=>(qg g22 (bE func109 (O1 fu p0.aCd _ z23)) ?_)))
 refine gQ 3 ?_;refine bC H (fun h25 H=>gE 4) fun h25 H=>?_;refine gQ 3 ?_;refine q1 (qP ([]:List aK)) ?_;refine gQ 7 ?_;refine gP 67 (bV _) (fun hl29=>?_)
 try dsimp only at hl29
 refine bS (σ:=(List aK)) (fun i26 v28=>⟨[(1,bN p5),(3,aT a3),(4,.ptr 0 0),(6,.ptr 1 0),(8,pI 0),(10,.ptr 2 0),(13,lV v28 0),(14,pN i26)],⟨[some ⟨26,[aP p9.aB8]⟩,some ⟨32,dK p0⟩,some ⟨39,jH x16⟩],[⟨44,4,aK.trs (v28),false⟩]⟩⟩) (fun v28=>⟨[(1,bN p5),(3,aT a3),(4,.ptr 0 0),(6,.ptr 1 0),(8,pI 0),(10,.ptr 2 0),(13,lV v28 0)],⟨[some ⟨26,[aP p9.aB8]⟩,some ⟨32,dK p0⟩,some ⟨39,jH x16⟩],[⟨44,4,aK.trs (v28),false⟩]⟩⟩) (eM H) ?_ ?_
 ·rintro i26 v28 H
  refine gQ 9 ?_;refine cS H (fun h30 h30l H=>?_) (fun h30 H=>?_)
  ·refine gQ 3 ?_;refine cF H fun z31 H=>(cF H fun z32 H=>(dW (dI [13] bF (dI [10] bW (dD [93] eE (dI [14] bF (dI [94,95] qQ (dI [96] vQ (dI [6] bW (dI [98] bW (dD [99] eE (dI [14] bF (dI [100,101] qQ ?_)))))))))))))
   refine dI [102] (iK (aA.cs (aR p0.aCd.aCa i26))) (dI [97,103] r9 (dI [104] (hH ([(aK.mk (aR x16.aCm i26) (aR p0.aCd.aCa i26))]:List aK)) (dE [92,105] (lE z32) (dI [106] bF (dN ?_)))))
   exact gE 5
  exact gE 0
 rintro v28 H
 refine qS (cF H fun z33 H=>(cF H fun z34 H=>(dW (dE [] (qP ([]:List aA)) (dI [3] bF (dE [107,108] (lE z33) (dI [6] bW (dB [110] 0 2 (GO [pI p0.aCd.aCb,pS p0.aCd.aB9,aT p0.aCd.aCa]) (dI [111] (hH ([p0.aCd]:List aA)) (dE [109,112] (lE z34) (dI [113] bF (dN ?_))))))))))))
 refine gQ 5 ?_;refine cV.fact (cI 2 2 rfl rfl rfl (aD.trs_len _)) (fun hl36=>?_)
 try dsimp only at hl36
 refine bS (σ:=Unit) (fun i35 _=>⟨[(1,bN p5),(4,.ptr 0 0),(6,.ptr 1 0),(8,pI 0),(10,.ptr 2 0),(13,lV v28 0),(15,fK ((([])++a3)++([p0.aCd]:List aA)) 1),(16,pN i35)],⟨[some ⟨26,[aP p9.aB8]⟩,some ⟨32,dK p0⟩,some ⟨39,jH x16⟩],[⟨44,4,aK.trs (v28),false⟩,⟨30,3,aA.trs ((([])++a3)++([p0.aCd]:List aA)),false⟩]⟩⟩) (fun _=>⟨[(8,pI 0)],⟨[some ⟨26,[aP p9.aB8]⟩,some ⟨32,dK p0⟩,some ⟨39,jH x16⟩],[⟨44,4,aK.trs (v28),false⟩,⟨30,3,aA.trs ((([])++a3)++([p0.aCd]:List aA)),false⟩]⟩⟩) (eM H) ?_ ?_
 ·rintro i35 ⟨⟩ H
  refine gQ 9 ?_;refine cS H (fun h37 h37l H=>?_) (fun h37 H=>?_)
  ·refine gQ 7 ?_;refine bS (σ:=Unit) (fun i38 _=>⟨[(1,bN p5),(4,.ptr 0 0),(6,.ptr 1 0),(8,pI 0),(10,.ptr 2 0),(13,lV v28 0),(15,fK ((([])++a3)++([p0.aCd]:List aA)) 1),(16,pN i35),(17,pN i38),(114,pN i35),(115,.ptr 2 2),(116,dF x16.aCe),(117,pN x16.aCe.length),(118,pB (decide ((i35:Int)<(x16.aCe.length:Int))))],⟨[some ⟨26,[aP p9.aB8]⟩,some ⟨32,dK p0⟩,some ⟨39,jH x16⟩],[⟨44,4,aK.trs (v28),false⟩,⟨30,3,aA.trs ((([])++a3)++([p0.aCd]:List aA)),false⟩]⟩⟩) (fun _=>⟨[(1,bN p5),(4,.ptr 0 0),(6,.ptr 1 0),(8,pI 0),(10,.ptr 2 0),(13,lV v28 0),(15,fK ((([])++a3)++([p0.aCd]:List aA)) 1),(16,pN i35),(114,pN i35),(115,.ptr 2 2),(116,dF x16.aCe),(117,pN x16.aCe.length),(118,pB (decide ((i35:Int)<(x16.aCe.length:Int))))],⟨[some ⟨26,[aP p9.aB8]⟩,some ⟨32,dK p0⟩,some ⟨39,jH x16⟩],[⟨44,4,aK.trs (v28),false⟩,⟨30,3,aA.trs ((([])++a3)++([p0.aCd]:List aA)),false⟩]⟩⟩) (eM H) ?_ ?_
   ·rintro i38 ⟨⟩ H
    refine gQ 10 ?_;refine YM 127 (aA.trs_len _) (fun hl39=>?_)
    try dsimp only at hl39
    refine gQ 3 ?_;refine cS H (fun h40 h40l H=>?_) (fun h40 H=>?_)
    ·refine gQ 4 ?_;refine cF H fun z41 H=>(cF H fun z42 H=>(bK H fun x44 z43 H=>(dW (dD [4] (bZ [aP p9.aB8]) (dI [1] bF (dI [6] bW (dD [134] eE (dI [13] bF (dI [10] bW (dD [137] eE (dI [16] bF (dI [138,139] qQ (dI [140] w7 ?_)))))))))))))
     refine dI [141] vQ (dI [17] bF (dI [142,143] qQ (dI [144] (iK (aA.cs (aR ((aR x16.aCe i35).aCs) i38))) (dI [136,145] (bE func110 (Q5 v28 (aR ((aR x16.aCe i35).aCs) i38) z41 z42)) (dI [135,146] r9 (dI [15] bF (dI [132,133,147,148] (bE func52 (pG p9 p5 (aG.mk p0.aCg (jV v28 (aR ((aR x16.aCe i35).aCs) i38))) ((([])++a3)++([p0.aCd]:List aA)) _ z43)) (dI [149] bF (dN ?_)))))))))
     refine gQ 5 ?_;refine bC H (fun h45 H=>?_) (fun h45 H=>?_)
     ·refine gQ 5 ?_;refine cV.ret ?_
      obtain rfl:_=r:=(lkR (skL (lkR (vP H))):)
      exact V4
     exact gE 6
    exact gE 0
   rintro⟨⟩ H
   exact gE 5
  exact gE 0
 rintro⟨⟩ H
 exact gE 4
def kE:Nat→aF→(List aJ)→aG→(List aA)→Option Int
 |0,_,_,_,_=>none
 |fu+1,p9,p5,p0,a3=>GD fu (kE fu) p9 p5 p0 a3
theorem adH(fu:Nat):GE (kE fu):=by
 induction fu with
 |zero=>exact(fun p9 p5 p0 a3 r H=>by simp only [kE] at H;cases H)
 |succ fu ih=>exact(fun p9 p5 p0 a3 r H=>by simp only [kE] at H;exact ZJ fu (kE fu) ih p9 p5 p0 a3 r H)
theorem ag1(fu:Nat):GE (kE fu):=(adH fu)
def FM(fu:Nat)(pF:ByteArray):Option Bool:=sw (decide (pF=dR)) (some true) (some (decide (pF=dP)))
theorem YJ(fu:Nat)(pF:ByteArray)(r:Bool)(H:FM fu pF=some r):bQ Tryz.prog 100 [pS pF] (pB r):=by
 refine qJ func100 H (fun C hC H=>?_)
 refine gQ 9 ?_;refine dL 5 H (fun g1 H=>gE 5) fun g1 H=>?_;exact gE 5
def L4(fu:Nat)(pu c1:aA):Option Bool:=some (aA.eq pu c1)
theorem afA(fu:Nat)(pu:aA)(c1:aA)(r:Bool)(H:L4 fu pu c1=some r):b6 Tryz.prog 104 [(aA.pv pu),.ptr 0 0] ⟨[some ⟨30,bR c1⟩],[]⟩ (fun q t=>q=(pB r)∧t=⟨[some ⟨30,bR c1⟩],[]⟩):=by
 refine qJ func104 H (fun C hC H=>?_)
 refine gQ 2 ?_;refine q1 (fD (bR pu)) ?_;refine gQ 4 ?_;refine q1 (bZ [pI pu.aCb,pS pu.aB9,aT pu.aCa]) (q1 (bZ [pI c1.aCb,pS c1.aB9,aT c1.aCa]) (q1 (bE func95 (DC pu c1)) ?_))
 exact gE 2
def o5(fu:Nat)(ps:List aA)(c1_0:aA):Nat→Unit→Option (LR Unit Int):=fun i1 _=>bd (L4 fu (aR ps i1) c1_0) fun x5=>sw x5 (some (.ret (i1:Int))) (some (.next ()))
def iW(fu:Nat)(ps:List aA)(c1_0:aA):Option Int:=so (loopN (o5 fu ps c1_0) (ps.length-0) 0 ()) fun _=>some (-1)
theorem yN(fu:Nat)(ps:List aA)(c1_0:aA)(r:Int)(H:iW fu ps c1_0=some r):b6 Tryz.prog 150 [aT ps,.fn 104 [.ptr 0 0]] ⟨[some ⟨30,bR c1_0⟩],[]⟩ (fun q t=>q=(pI r)∧t=⟨[some ⟨30,bR c1_0⟩],[]⟩):=by
 refine qJ func150 H (fun C hC H=>?_)
 refine gQ 11 ?_;refine gP 0 (aA.trs_len _) (fun hl2=>?_)
 try dsimp only at hl2
 refine bS (σ:=Unit) (fun i1 _=>⟨[(0,aT ps),(1,.fn 104 [.ptr 0 0]),(4,pI 0),(7,pN ps.length),(8,pN i1)],⟨[some ⟨30,bR c1_0⟩],[]⟩⟩) (fun _=>⟨[(4,pI 0)],⟨[some ⟨30,bR c1_0⟩],[]⟩⟩) (eM H) ?_ ?_
 ·rintro i1 ⟨⟩ H
  refine gQ 5 ?_;refine cS H (fun h3 h3l H=>?_) (fun h3 H=>?_)
  ·refine gQ 14 ?_;refine q1 (iK (aA.cs (aR ps i1))) (bK H fun x5 z4 H=>(q1 (bB.callVPE (pre:=⟨[some ⟨30,bR c1_0⟩],[]⟩) (st':=⟨[some ⟨30,bR c1_0⟩],[]⟩) (ps:= [_]) (cs:= [.ptr 0 0]) (qs:= [(aA.pv (aR ps i1)),.ptr 0 0]) [0] [] rfl rfl rfl func104 (by kernel_rfl) rfl rfl rfl (eV.of ⟨⟨_,rfl,rfl,jK,rfl⟩,trivial⟩ trivial (by decide) (by decide)) jK rfl rfl rfl (afA fu (aR ps i1) c1_0 _ z4)) (qN ?_)))
   refine bC H (fun h6 H=>gE 5) fun h6 H=>?_;exact gE 5
  exact gE 0
 rintro⟨⟩ H
 exact gE 4
def gR(fu:Nat)(ps:List aA)(c1_0:aA):Option Bool:=bd (iW fu ps c1_0) fun x2=>some (decide (x2≥0))
theorem vN(fu:Nat)(ps:List aA)(c1_0:aA)(r:Bool)(H:gR fu ps c1_0=some r):b6 Tryz.prog 103 [aT ps,.fn 104 [.ptr 0 0]] ⟨[some ⟨30,bR c1_0⟩],[]⟩ (fun q t=>q=(pB r)∧t=⟨[some ⟨30,bR c1_0⟩],[]⟩):=by
 refine qJ func103 H (fun C hC H=>?_)
 refine gQ 8 ?_;refine bK H fun x2 z1 H=>(q1 (eW [0] [] func150 (yN fu ps c1_0 _ z1)) ?_)
 exact gE 3
def Z6(fu:Nat)(p8:LB)(p7:List aA):Nat→((List aK))→Option (LR ((List aK)) ((List aK))):=fun i1 v3=>gd (i1<(p8).length) (gd (i1<(p7).length) (gd ((v3).length+(([(aK.mk (aR p8 i1) (aR p7 i1))]:List aK)).length≤68719476736) (some (.next (v3++([(aK.mk (aR p8 i1) (aR p7 i1))]:List aK))))))
def OD(fu:Nat)(p8:LB)(p7:List aA):Option ((List aK)):=so (loopN (Z6 fu p8 p7) (min p8.length p7.length-0) 0 ([])) fun v3=>some v3
theorem al7(fu:Nat)(p8:LB)(p7:List aA)(r:(List aK))(H:OD fu p8 p7=some r):bQ Tryz.prog 106 [rS p8,aT p7] (fL r):=by
 refine qJ func106 H (fun C hC H=>?_)
 refine gQ 6 ?_;refine q1 (qP ([]:List aK)) ?_;refine gQ 9 ?_;refine q1 (rMn) ?_;refine gQ 2 ?_;refine gP 0 (bV _) (fun hl4=>?_)
 try dsimp only at hl4
 refine bS (σ:=(List aK)) (fun i1 v3=>⟨[(0,rS p8),(1,aT p7),(4,.nil),(5,lV v3 0),(12,pN (min p8.length p7.length)),(13,pN i1)],⟨[],[⟨44,4,aK.trs (v3),false⟩]⟩⟩) (fun v3=>⟨[(4,.nil),(5,lV v3 0)],⟨[],[⟨44,4,aK.trs (v3),false⟩]⟩⟩) (eM H) ?_ ?_
 ·rintro i1 v3 H
  refine gQ 5 ?_;refine cS H (fun h5 h5l H=>?_) (fun h5 H=>?_)
  ·refine gQ 8 ?_;refine cF H fun z6 H=>(cF H fun z7 H=>(cF H fun z8 H=>(dW (dI [5] bF (dI [0] bF (dI [6] bF (dI [17,18] qQ (dI [19] vQ (dI [1] bF (dI [6] bF (dI [21,22] qQ (dI [23] (iK (aA.cs (aR p7 i1))) (dI [20,24] r9 ?_)))))))))))))
   refine dI [25] (hH ([(aK.mk (aR p8 i1) (aR p7 i1))]:List aK)) (dE [16,26] (lE z8) (dI [27] bF (dN ?_)))
   exact gE 4
  exact gE 0
 rintro v3 H
 exact gE 5
abbrev BE:=bH→ByteArray→aA→(List aA)→Option Int
def OK(m:BE):Prop:= ∀(pA:bH) (p5:ByteArray) (p6:aA) (pC:List aA) (r:Int),m pA p5 p6 pC=some r→b6 Tryz.prog 51 [.ptr 0 0,pS p5,(aA.pv p6),aT pC] ⟨[some ⟨145,[aP pA.aCT.aB8,bN pA.aCw]⟩],[]⟩ (fun q t=>q=(pI r:PV)∧t=⟨[some ⟨145,[aP pA.aCT.aB8,bN pA.aCw]⟩],[]⟩)
def QK(fu:Nat)(p2:BE)(pA:bH)(p5:ByteArray)(p6:aA)(pC:List aA):Option (Int⊕Unit):=sw (decide (p6.aCb=2)) (bd (FM fu p6.aB9) fun x3=>sw x3 (sw (decide ((p6.aCa.length:Int)=0)) (some (.inl 0)) (some (.inr ()))) (some (.inr ()))) (some (.inr ()))
def Z9(fu:Nat)(p2:BE)(pA:bH)(p5:ByteArray)(p6:aA)(pC:List aA)(x7:Int)(x10:aN)(x11:Int)(x12 x17:Bool)(x21:Int)(x24:List aK)(i27:Nat):Nat→Unit→Option (LR Unit (LR Unit Int)):=fun i31 _=>gd (qT x24) (gd (iG (aR ((aR x10.aCe i27).aCs) i31)) (bd (p2 pA p5 (jV x24 (aR ((aR x10.aCe i27).aCs) i31)) (pC++([p6]:List aA))) fun x36=>sw (!decide (x36=0)) (some (.ret (.ret x36))) (some (.next ()))))
def Z8(fu:Nat)(p2:BE)(pA:bH)(p5:ByteArray)(p6:aA)(pC:List aA)(x7:Int)(x10:aN)(x11:Int)(x12 x17:Bool)(x21:Int)(x24:List aK):Nat→Unit→Option (LR Unit Int):=fun i27 _=>so (loopN (Z9 fu p2 pA p5 p6 pC x7 x10 x11 x12 x17 x21 x24 i27) (((aR x10.aCe i27).aCs).length-0) 0 ()) fun _=>some (.next ())
def OJ(fu:Nat)(p2:BE)(pA:bH)(p5:ByteArray)(p6:aA)(pC:List aA):Option Int:=so (QK fu p2 pA p5 p6 pC) fun _=>bd (mO fu pA.aCw (aG.mk p5 p6)) fun x7=>sw (decide (x7≥0)) (some 0) (bd (UD fu pA.aCT p6.aB9) fun(x10,x11,x12)=>sw (!decide (p6.aCb=2)) (some 1) (sw (!(x12)) (some 1) (sw (!decide ((x10.aCm.length:Int)=(p6.aCa.length:Int))) (some 1) (bd (gR fu pC p6) fun x17=>sw x17 (some 0) (sw (decide ((pC.length:Int)>30)) (some 3) (bd (lJ fu p6) fun x21=>sw (decide (x21>400)) (some 3) (bd (OD fu x10.aCm p6.aCa) fun x24=>gd ((pC).length≤68719476735) (gd ((pC).length+(([p6]:List aA)).length≤68719476736) (so (loopN (Z8 fu p2 pA p5 p6 pC x7 x10 x11 x12 x17 x21 x24) (x10.aCe.length-0) 0 ()) fun _=>some 0)))))))))
theorem afB(fu:Nat)(p2:BE)(pH:OK p2):OK (OJ fu p2):=by
 intro pA p5 p6 pC r H
 refine qJ func51 H (fun C hC H=>?_)
 refine gQ 2 ?_;refine q1 (fD (bR p6)) ?_;refine gQ 3 ?_;refine n3 (σ:=Unit) (fun _=>⟨[(0,.ptr 0 0),(1,pS p5),(3,aT pC),(6,.ptr 1 0),(8,pI 0)],⟨[some ⟨145,[aP pA.aCT.aB8,bN pA.aCw]⟩,some ⟨30,bR p6⟩],[]⟩⟩) (eM H) (fun H=>?_) ?_
 ·refine gQ 6 ?_;refine dL 22 H (fun g1 H=>?_) fun g1 H=>?_
  ·refine gQ 2 ?_;refine bK H fun x3 z2 H=>(qg g1 (bE func100 (YJ fu p6.aB9 _ z2)) ?_)
   refine gQ 2 ?_;refine dL 27 H (fun g4 H=>?_) fun g4 H=>?_
   ·refine gQ 6 ?_;refine bC H (fun h5 H=>gE 4) fun h5 H=>?_;exact gE 1
   exact gE 8
  exact gE 13
 rintro⟨⟩ H
 refine gQ 2 ?_;refine bK H fun x7 z6 H=>(dW (dI [0] bF (dI [33] uQ (dI [34] bW (dD [35] eE (dI [1] bF (dD [6] (bZ [pI p6.aCb,pS p6.aB9,aT p6.aCa]) (dI [37,38] r9 (dI [36,39] (bE func101 (A9 fu pA.aCw (aG.mk p5 p6) _ z6)) (dI [40] rGe (dN ?_)))))))))))
 refine bC H (fun h8 H=>gE 4) fun h8 H=>?_;refine gQ 2 ?_;refine LU H fun x10 x11 x12 z9 H=>(dW (dI [0] bF (dI [43] uQ (dI [44] bW (dB [45] 0 1 (GO [aP pA.aCT.aB8]) (dI [6] bW (dB [47] 0 1 uP (dI [46,48] (bE func102 (an1 fu pA.aCT p6.aB9 _ z9)) (dI [49] bF ?_)))))))))
 iterate 3 refine dI [42] YN ?_
 refine dE [] tAl (lB [9,50] kG (dI [51] bF (dI [52] bF (dN ?_))))
 refine gQ 7 ?_;refine dL 56 H (fun g13 H=>gE 18) fun g13 H=>?_;refine gQ 4 ?_;refine dL 60 H (fun g14 H=>gE 14) fun g14 H=>?_;refine gQ 9 ?_;refine bC H (fun h15 H=>gE 4) fun h15 H=>?_;refine gQ 5 ?_;refine q1 rMf (bK H fun x17 z16 H=>(q1 (eW [1] [] func103 (vN fu pC p6 _ z16)) (qN ?_)))
 refine bC H (fun h18 H=>gE 4) fun h18 H=>?_;refine gQ 8 ?_;refine dL 75 H (fun g19 H=>gE 10) fun g19 H=>?_;refine qg g19 (bZ [pI p6.aCb,pS p6.aB9,aT p6.aCa]) (bK H fun x21 z20 H=>(qg g19 (bE func105 (OA fu p6 _ z20)) ?_))
 refine gQ 3 ?_;refine bC H (fun h22 H=>gE 4) fun h22 H=>?_;refine gQ 7 ?_;refine bK H fun x24 z23 H=>(q1 (bE func106 (al7 fu x10.aCm p6.aCa _ z23)) ?_)
 refine gQ 3 ?_;refine cF H fun z25 H=>(cF H fun z26 H=>(dW (dI [3] bF (dE [85] (bB.callOwn (pre:=⟨[],[]⟩) (B:= []) (R:=fun k=>fK pC k) (ps:= [_]) (qs:= [aT pC]) [] rfl rfl func107 (by kernel_rfl) rfl rfl rfl (eV.of trivial trivial (by decide) (by decide)) rfl jK rfl rfl rfl (fun k k'=>Mv.acc) (aeX pC z25)) (dB [6] 0 1 (GO [pI p6.aCb,pS p6.aB9,aT p6.aCa]) (dI [87] (hH ([p6]:List aA)) (dE [86,88] (lE z26) (dI [89] bF (dN ?_)))))))))
 refine gQ 8 ?_;refine gP 91 (aD.trs_len _) (fun hl28=>?_)
 try dsimp only at hl28
 refine bS (σ:=Unit) (fun i27 _=>⟨[(0,.ptr 0 0),(1,pS p5),(8,pI 0),(12,fL x24),(13,fK (pC++([p6]:List aA)) 0),(91,dF x10.aCe),(92,pN x10.aCe.length),(93,pN i27)],⟨[some ⟨145,[aP pA.aCT.aB8,bN pA.aCw]⟩,some ⟨30,bR p6⟩,some ⟨39,jH x10⟩],[⟨30,3,aA.trs (pC++([p6]:List aA)),false⟩]⟩⟩) (fun _=>⟨[(8,pI 0)],⟨[some ⟨145,[aP pA.aCT.aB8,bN pA.aCw]⟩,some ⟨30,bR p6⟩,some ⟨39,jH x10⟩],[⟨30,3,aA.trs (pC++([p6]:List aA)),false⟩]⟩⟩) (eM H) ?_ ?_
 ·rintro i27 ⟨⟩ H
  refine gQ 5 ?_;refine cS H (fun h29 h29l H=>?_) (fun h29 H=>?_)
  ·refine gQ 6 ?_;refine q1 (iK (aD.cs (aR x10.aCe i27))) ?_;refine gQ 7 ?_;refine YM 98 (aA.trs_len _) (fun hl30=>?_)
   try dsimp only at hl30
   refine gQ 3 ?_;refine bS (σ:=Unit) (fun i31 _=>⟨[(0,.ptr 0 0),(1,pS p5),(8,pI 0),(12,fL x24),(13,fK (pC++([p6]:List aA)) 0),(15,.ptr 3 0),(91,dF x10.aCe),(92,pN x10.aCe.length),(93,pN i27),(94,pB (decide ((i27:Int)<(x10.aCe.length:Int)))),(95,.eptr (aD.cs (aR x10.aCe i27))),(96,(aD.pv (aR x10.aCe i27))),(97,.ptr 3 1),(98,aT ((aR x10.aCe i27).aCs)),(99,pN (((aR x10.aCe i27).aCs).length)),(100,pN i31)],⟨[some ⟨145,[aP pA.aCT.aB8,bN pA.aCw]⟩,some ⟨30,bR p6⟩,some ⟨39,jH x10⟩,some ⟨46,[pS ((aR x10.aCe i27).aB9),aT ((aR x10.aCe i27).aCs)]⟩],[⟨30,3,aA.trs (pC++([p6]:List aA)),false⟩]⟩⟩) (fun _=>⟨[(0,.ptr 0 0),(1,pS p5),(8,pI 0),(12,fL x24),(13,fK (pC++([p6]:List aA)) 0),(15,.ptr 3 0),(91,dF x10.aCe),(92,pN x10.aCe.length),(93,pN i27),(94,pB (decide ((i27:Int)<(x10.aCe.length:Int)))),(95,.eptr (aD.cs (aR x10.aCe i27))),(96,(aD.pv (aR x10.aCe i27))),(97,.ptr 3 1),(98,aT ((aR x10.aCe i27).aCs)),(99,pN (((aR x10.aCe i27).aCs).length))],⟨[some ⟨145,[aP pA.aCT.aB8,bN pA.aCw]⟩,some ⟨30,bR p6⟩,some ⟨39,jH x10⟩,some ⟨46,[pS ((aR x10.aCe i27).aB9),aT ((aR x10.aCe i27).aCs)]⟩],[⟨30,3,aA.trs (pC++([p6]:List aA)),false⟩]⟩⟩) (eM H) ?_ ?_
   ·rintro i31 ⟨⟩ H
    refine gQ 5 ?_;refine cS H (fun h32 h32l H=>?_) (fun h32 H=>?_)
    ·refine gQ 6 ?_;refine q1 (iK (aA.cs (aR ((aR x10.aCe i27).aCs) i31))) ?_;refine gQ 8 ?_;refine q1 (bZ [pI ((aR ((aR x10.aCe i27).aCs) i31).aCb),pS ((aR ((aR x10.aCe i27).aCs) i31).aB9),aT ((aR ((aR x10.aCe i27).aCs) i31).aCa)]) (cF H fun z33 H=>(cF H fun z34 H=>(q1 (bE func16 (P9 x24 (aR ((aR x10.aCe i27).aCs) i31) z33 z34)) (q1 bF (bK H fun x36 z35 H=>(q1 (eW [0] [] func51 (pH pA p5 (jV x24 (aR ((aR x10.aCe i27).aCs) i31)) (pC++([p6]:List aA)) _ z35)) ?_))))))
     refine gQ 7 ?_;refine bC H (fun h37 H=>?_) (fun h37 H=>?_)
     ·refine gQ 5 ?_;refine cV.ret ?_
      obtain rfl:_=r:=(lkR (skL (lkR (vP H))):)
      exact V4
     exact gE 5
    exact gE 0
   rintro⟨⟩ H
   exact gE 4
  exact gE 0
 rintro⟨⟩ H
 exact gE 4
def rN:Nat→bH→ByteArray→aA→(List aA)→Option Int
 |0,_,_,_,_=>none
 |fu+1,pA,p5,p6,pC=>OJ fu (rN fu) pA p5 p6 pC
theorem aiL(fu:Nat):OK (rN fu):=by
 induction fu with
 |zero=>exact(fun pA p5 p6 pC r H=>by simp only [rN] at H;cases H)
 |succ fu ih=>exact(fun pA p5 p6 pC r H=>by simp only [rN] at H;exact afB fu (rN fu) ih pA p5 p6 pC r H)
theorem amB(fu:Nat):OK (rN fu):=(aiL fu)
end
end Go.Proofs.YtfcoaagbccmahaaGreat.W

namespace Go.Proofs.YtfcoaagbccmahaaGreat.W
set_option maxRecDepth 100000
set_option maxHeartbeats 40000000
noncomputable section
open Tryz Go.RowKit Go.Proofs
attribute [local irreducible] lt
abbrev uM:=aF→(List aJ)→aG→Int→Option (aH×Int)
abbrev wY:=aF→(List aJ)→aG→Int→Option (aH×Int)
def yF(m:uM):Prop:= ∀(p7:aF) (p1:List aJ) (p5:aG) (p9:Int) (r:aH×Int),m p7 p1 p5 p9=some r→bQ Tryz.prog 62 [(aF.pv p7),bN p1,(aG.pv p5),pI p9] (.tup [(aH.pv r.1),pI r.2]:PV)
def GF(m:wY):Prop:= ∀(p7:aF) (p1:List aJ) (p5:aG) (p9:Int) (r:aH×Int),m p7 p1 p5 p9=some r→bQ Tryz.prog 122 [(aF.pv p7),bN p1,(aG.pv p5),pI p9] (.tup [(aH.pv r.1),pI r.2]:PV)
def C4(fu:Nat)(p2:uM)(p3:wY)(p7:aF)(p1:List aJ)(p5:aG)(p9:Int):Option (aH×Int):=bd (k7 fu p1 p5) fun x2=>sw (decide (x2≥0)) (gd (0≤x2∧x2.toNat<(p1).length) (lt (aR p1 (x2.toNat)) fun y5=>bd (jI fu (aH.mk 2 y5.aCL (aC.mk 0 0) []) y5.aCM) fun x8=>some (x8,0))) (sw (decide (p9≤0)) (some ((aH.mk 0 0 (aC.mk 0 0) []),3)) (bd (qF fu p7 p5.aCg) fun(x11,x12,x13)=>sw (x11.aCG) (bd (kE fu p7 p1 p5 ([])) fun x16=>sw (!decide (x16=0)) (some ((aH.mk 0 0 (aC.mk 0 0) []),x16)) (some ((aH.mk 5 0 (aC.mk 0 0) []),0))) (sw (decide (p5.aCd.aCb=1)) (some ((aH.mk 0 0 (aC.mk 0 0) []),1)) (sw (decide (p5.aCd.aCb=3)) (some ((aH.mk 0 0 (aC.mk 0 0) []),1)) (sw (decide (p5.aCd.aCb=4)) (bd (m3 fu p7 p5.aCd.aB9 p5.aCg) fun(x22,x23)=>sw x23 (bd (jI fu (aH.mk 4 0 (aC.mk 0 0) []) x22) fun x26=>some (x26,0)) (bd (p3 p7 p1 p5 p9) fun(x28,x29)=>some (x28,x29))) (bd (p3 p7 p1 p5 p9) fun(x31,x32)=>some (x31,x32)))))))
theorem XA(fu:Nat)(p2:uM)(p3:wY)(pA:yF p2)(p8:GF p3):yF (C4 fu p2 p3):=by
 intro p7 p1 p5 p9 r H
 refine qJ func62 H (fun C hC H=>?_)
 refine gQ 2 ?_;refine q1 (fD ([aP p7.aB8])) (q1 (fD (dK p5)) ?_)
 refine gQ 6 ?_;refine q1 (bZ [pS p5.aCg,pI p5.aCd.aCb,pS p5.aCd.aB9,aT p5.aCd.aCa]) (bK H fun x2 z1 H=>(q1 (bE func14 (t1 fu p1 p5 _ z1)) ?_))
 refine gQ 8 ?_;refine bC H (fun h3 H=>?_) (fun h3 H=>?_)
 ·refine qS (cF H fun z4 H=>(fV H fun y5 h6 H=>(bK H fun x8 z7 H=>(dW (dI [1] bF (dI [10] bF (dI [22,23] (rIm h6 z4 arB.h) (dI [24] w7 (dI [25] vQ (dI [26] r9 (dI [1] bF (dI [10] bF (dI [28,29] (rIm h6 z4 arB.h) ?_)))))))))))))
  refine dI [30] w7 (dI [31] vQ (dI [27,32] (bE func120 (xX fu (aH.mk 2 y5.aCL (aC.mk 0 0) []) y5.aCM _ z7)) (lB [8,33] kG (dI [] bF (dN ?_)))))
  exact gE 0
 refine gQ 7 ?_;refine bC H (fun h9 H=>gE 6) fun h9 H=>?_;refine gQ 3 ?_;refine q1 (bZ [aP p7.aB8]) ?_;refine gQ 2 ?_;refine LU H fun x11 x12 x13 z10 H=>(q1 (bE func121 (BY fu p7 p5.aCg _ z10)) ?_)
 refine gQ 15 ?_;refine bC H (fun h14 H=>?_) (fun h14 H=>?_)
 ·refine gQ 2 ?_;refine q1 (bZ [aP p7.aB8]) (q1 bF (q1 (bZ [pS p5.aCg,pI p5.aCd.aCb,pS p5.aCd.aB9,aT p5.aCd.aCa]) (q1 (qP ([]:List aA)) (bK H fun x16 z15 H=>(q1 (bE func52 (ag1 fu p7 p1 p5 ([]) _ z15)) ?_)))))
  refine gQ 8 ?_;refine bC H (fun h17 H=>gE 7) fun h17 H=>?_;exact gE 7
 refine gQ 9 ?_;refine dL 61 H (fun g18 H=>gE 13) fun g18 H=>?_;refine gQ 6 ?_;refine bC H (fun h19 H=>gE 6) fun h19 H=>?_;refine gQ 9 ?_;refine bC H (fun h20 H=>?_) (fun h20 H=>?_)
 ·refine gQ 2 ?_;refine q1 (bZ [aP p7.aB8]) ?_;refine gQ 5 ?_;refine dU H fun x22 x23 z21 H=>(q1 (bE func58 (BR fu p7 p5.aCd.aB9 p5.aCg _ z21)) ?_)
  refine gQ 10 ?_;refine bC H (fun h24 H=>?_) (fun h24 H=>?_)
  ·refine gQ 4 ?_;refine bK H fun x26 z25 H=>(q1 (bE func120 (xX fu (aH.mk 4 0 (aC.mk 0 0) []) x22 _ z25)) ?_)
   exact gE 3
  refine gQ 3 ?_;refine q1 (bZ [aP p7.aB8]) (q1 bF (q1 (bZ [pS p5.aCg,pI p5.aCd.aCb,pS p5.aCd.aB9,aT p5.aCd.aCa]) (q1 bF (dU H fun x28 x29 z27 H=>(q1 (bE func122 (p8 p7 p1 p5 p9 _ z27)) ?_)))))
  exact gE 5
 refine gQ 3 ?_;refine q1 (bZ [aP p7.aB8]) (q1 bF (q1 (bZ [pS p5.aCg,pI p5.aCd.aCb,pS p5.aCd.aB9,aT p5.aCd.aCa]) (q1 bF (dU H fun x31 x32 z30 H=>(q1 (bE func122 (p8 p7 p1 p5 p9 _ z30)) ?_)))))
 exact gE 5
def S1(fu:Nat)(p2:uM)(p3:wY)(p7:aF)(p1:List aJ)(p5:aG)(p9:Int)(x2:aC)(x3:Int)(y6:aM)(y9:aI):Nat→((List aH))→Option (LR ((List aH)) (aH×Int)):=fun i13 v15=>gd (qT (eT y9.aCn p5.aCd)) (gd (iG ((aR y9.aCq i13).aCd)) (bd (p2 p7 p1 (aG.mk ((aR y9.aCq i13).aCg) (jV (eT y9.aCn p5.aCd) ((aR y9.aCq i13).aCd))) (aX (p9-1))) fun(x21,x22)=>sw (!decide (x22=0)) (some (.ret ((aH.mk 0 0 (aC.mk 0 0) []),x22))) (gd ((v15).length+(([x21]:List aH)).length≤68719476736) (some (.next (v15++([x21]:List aH)))))))
def M3(fu:Nat)(p2:uM)(p3:wY)(p7:aF)(p1:List aJ)(p5:aG)(p9:Int):Option (aH×Int):=bd (rB fu p7 p5) fun(x2,x3)=>sw (!decide (x3=0)) (some ((aH.mk 0 0 (aC.mk 0 0) []),x3)) (gd (0≤x2.aCl∧(x2.aCl).toNat<(p7.aB8).length) (lt (aR p7.aB8 ((x2.aCl).toNat)) fun y6=>gd (0≤x2.aCz∧(x2.aCz).toNat<(y6.aCk).length) (lt (aR y6.aCk ((x2.aCz).toNat)) fun y9=>gd (Tr.bulkL (aA.tr y9.aCn)≤68719476735) (gd (iG p5.aCd) (so (loopN (S1 fu p2 p3 p7 p1 p5 p9 x2 x3 y6 y9) (y9.aCq.length-0) 0 ([])) fun v15=>some ((aH.mk 1 0 x2 v15),0))))))
theorem ZK(fu:Nat)(p2:uM)(p3:wY)(pA:yF p2)(p8:GF p3):GF (M3 fu p2 p3):=by
 intro p7 p1 p5 p9 r H
 refine qJ func122 H (fun C hC H=>?_)
 refine gQ 2 ?_;refine q1 (fD ([aP p7.aB8])) (q1 (fD (dK p5)) ?_)
 refine gQ 5 ?_;refine q1 (bZ [aP p7.aB8]) (q1 (bZ [pS p5.aCg,pI p5.aCd.aCb,pS p5.aCd.aB9,aT p5.aCd.aCa]) (dU H fun x2 x3 z1 H=>(q1 (bE func160 (MR fu p7 p5 _ z1)) ?_)))
 refine gQ 13 ?_;refine bC H (fun h4 H=>gE 7) fun h4 H=>?_;refine gQ 2 ?_;refine cF H fun z5 H=>(fV H fun y6 h7 H=>(cF H fun z8 H=>(fV H fun y9 h10 H=>(dW (dI [4] bW (dB [29] 0 1 uP (dI [10] bW (dB [31] 0 1 uP (dI [30,32] (rIm h7 z5 aeU.h) (dI [33] w7 (dI [34] vQ (dI [10] bW (dB [36] 0 1 uP ?_)))))))))))))
 refine dI [35,37] (rIm h10 z8 Z0.h) (dI [38] (iK (aI.cs y9)) (dE [] tAl (lB [12,39] kG (dN ?_))))
 refine gQ 3 ?_;refine q1 (bZ [pI y9.aCn.aCb,pS y9.aCn.aB9,aT y9.aCn.aCa]) (q1 bW (q1 (bZ [pI p5.aCd.aCb,pS p5.aCd.aB9,aT p5.aCd.aCa]) (cF H fun z11 H=>(cF H fun z12 H=>(q1 (bE func161 (aaO y9.aCn p5.aCd z11 z12)) ?_)))))
 refine gQ 8 ?_;refine q1 (bZ [pI x2.aCl,pI x2.aCz]) ?_;refine gQ 9 ?_;refine cV.wk (Wk.regBox (k:=5) (j:=4) 55 5 (by decide) rfl rfl) ?_;refine cV.fact (cI 4 5 rfl rfl rfl (aG.trs_len _)) (fun hl16=>?_)
 try dsimp only at hl16
 refine bS (σ:=(List aH)) (fun i13 v15=>⟨[(1,bN p1),(3,pI p9),(4,.ptr 0 0),(8,.ptr 2 0),(9,pI 0),(12,.ptr 4 0),(13,fL (eT y9.aCn p5.aCd)),(15,.ptr 5 0),(16,pN i13)],⟨[some ⟨26,[aP p7.aB8]⟩,some ⟨32,dK p5⟩,some ⟨55,[pI 0,pI 0,pI 0,pI 0,.nil]⟩,some ⟨52,[pI x2.aCl,pI x2.aCz]⟩,some ⟨163,c8 y9⟩,some ⟨55,[pI 1,pI 0,pI x2.aCl,pI x2.aCz,sB v15 0]⟩],[⟨55,5,aH.trs (v15),false⟩]⟩⟩) (fun v15=>⟨[(8,.ptr 2 0),(9,pI 0),(15,.ptr 5 0)],⟨[some ⟨26,[aP p7.aB8]⟩,some ⟨32,dK p5⟩,some ⟨55,[pI 0,pI 0,pI 0,pI 0,.nil]⟩,some ⟨52,[pI x2.aCl,pI x2.aCz]⟩,some ⟨163,c8 y9⟩,some ⟨55,[pI 1,pI 0,pI x2.aCl,pI x2.aCz,sB v15 0]⟩],[⟨55,5,aH.trs (v15),false⟩]⟩⟩) (eM H) ?_ ?_
 ·rintro i13 v15 H
  refine gQ 9 ?_;refine cS H (fun h17 h17l H=>?_) (fun h17 H=>?_)
  ·refine gQ 4 ?_;refine cF H fun z18 H=>(cF H fun z19 H=>(dU H fun x21 x22 z20 H=>(dW (dB [4] 0 1 (GO [aP p7.aB8]) (dI [1] bF (dI [12] bW (dB [60] 0 1 uP (dI [16] bF (dI [61,62] qQ (dI [63] w7 (dI [64] vQ (dI [13] bF (dI [12] bW ?_)))))))))))))
   refine dB [67] 0 1 uP (dI [16] bF (dI [68,69] qQ (dI [70] w7 (dI [71] (iK (aA.cs ((aR y9.aCq i13).aCd))) (dI [66,72] (bE func110 (Q5 (eT y9.aCn p5.aCd) ((aR y9.aCq i13).aCd) z18 z19)) (dI [65,73] r9 (dI [3] bF (dI [75] rSw (dI [58,59,74,76] (bE func62 (pA p7 p1 (aG.mk ((aR y9.aCq i13).aCg) (jV (eT y9.aCn p5.aCd) ((aR y9.aCq i13).aCd))) (aX (p9-1)) _ z20)) (dI [77] bF ?_))))))))))
   iterate 2 refine dI [57] YN ?_
   refine dE [] tAl (lB [17,78] kG (dI [79] bF (dN ?_)))
   refine gQ 6 ?_;refine bC H (fun h23 H=>gE 7) fun h23 H=>?_;refine gQ 4 ?_;refine q1 (bZ [pI x21.aCb,pI x21.aCR,pI x21.aCz.aCl,pI x21.aCz.aCz,fP x21.aCa]) (q1 (hH ([x21]:List aH)) (cF H fun z24 H=>(q1 (lE z24) ?_)))
   exact gE 8
  exact gE 0
 rintro v15 H
 refine gQ 2 ?_;refine q1 (bZ [pI 1,pI 0,pI x2.aCl,pI x2.aCz,sB v15 0]) ?_;exact gE 3
mutual
def iV:Nat→aF→(List aJ)→aG→Int→Option (aH×Int)
 |0,_,_,_,_=>none
 |fu+1,p7,p1,p5,p9=>C4 fu (iV fu) (oV fu) p7 p1 p5 p9
def oV:Nat→aF→(List aJ)→aG→Int→Option (aH×Int)
 |0,_,_,_,_=>none
 |fu+1,p7,p1,p5,p9=>M3 fu (iV fu) (oV fu) p7 p1 p5 p9
end
theorem ZL(fu:Nat):yF (iV fu)∧GF (oV fu):=by
 induction fu with
 |zero=>exact⟨(fun p7 p1 p5 p9 r H=>by simp only [iV] at H;cases H),(fun p7 p1 p5 p9 r H=>by simp only [oV] at H;cases H)⟩
 |succ fu ih=>exact⟨(fun p7 p1 p5 p9 r H=>by simp only [iV] at H;exact XA fu (iV fu) (oV fu) ih.1 ih.2 p7 p1 p5 p9 r H),(fun p7 p1 p5 p9 r H=>by simp only [oV] at H;exact ZK fu (iV fu) (oV fu) ih.1 ih.2 p7 p1 p5 p9 r H)⟩
theorem adI(fu:Nat):yF (iV fu):=(ZL fu).1
abbrev wE:=bH→aG→Int→Option (aH×Int)
def JG(m:wE):Prop:= ∀(p6:bH) (p1:aG) (p0:Int) (r:aH×Int),m p6 p1 p0=some r→b6 Tryz.prog 61 [.ptr 0 0,(aG.pv p1),pI p0] ⟨[some ⟨145,[aP p6.aCT.aB8,bN p6.aCw]⟩],[]⟩ (fun q t=>q=(.tup [(aH.pv r.1),pI r.2]:PV)∧t=⟨[some ⟨145,[aP p6.aCT.aB8,bN p6.aCw]⟩],[]⟩)
def VR(fu:Nat)(p4:wE)(p6:bH)(p1:aG)(p0 x2:Int):Option ((aH×Int)⊕(ByteArray×(LB)×Bool×Bool×(List aE))):=bd (EM fu p6.aCT p1.aCg) fun(x16,x17,x18)=>sw x18 (sw (x16.aCG) (bd (rN fu p6 p1.aCg p1.aCd ([])) fun x22=>sw (!decide (x22=0)) (some (.inl ((aH.mk 0 0 (aC.mk 0 0) []),x22))) (some (.inl ((aH.mk 5 0 (aC.mk 0 0) []),0)))) (some (.inr (x16.aB9,x16.aCi,x16.aCG,x16.aCp,x16.aCv)))) (some (.inr (x16.aB9,x16.aCi,x16.aCG,x16.aCp,x16.aCv)))
def L6(fu:Nat)(p4:wE)(p6:bH)(p1:aG)(p0 x2:Int)(v10:ByteArray)(v11:LB)(v12 v13:Bool)(v14:List aE):Option (((aH×Int)⊕Unit)⊕Bool):=sw (decide (p1.aCd.aCb=1)) (some (.inr (decide (p1.aCd.aCb=1)))) (some (.inr (decide (p1.aCd.aCb=3))))
def L5(fu:Nat)(p4:wE)(p6:bH)(p1:aG)(p0 x2:Int)(v10:ByteArray)(v11:LB)(v12 v13:Bool)(v14:List aE):Option ((aH×Int)⊕Unit):=so (L6 fu p4 p6 p1 p0 x2 v10 v11 v12 v13 v14) fun v24=>sw (v24) (some (.inl ((aH.mk 0 0 (aC.mk 0 0) []),1))) (sw (decide (p1.aCd.aCb=4)) (bd (kY fu p6.aCT p1.aCd.aB9 p1.aCg) fun(x29,x30)=>sw x30 (bd (gY fu (aH.mk 4 0 (aC.mk 0 0) []) x29) fun x33=>some (.inl (x33,0))) (some (.inr ()))) (some (.inr ())))
def VS(fu:Nat)(p4:wE)(p6:bH)(p1:aG)(p0 x2:Int)(v10:ByteArray)(v11:LB)(v12 v13:Bool)(v14:List aE)(x35:aC)(x36:Int)(x39:aI)(x40:Bool):Nat→((List aH))→Option (LR ((List aH)) (aH×Int)):=fun i43 v45=>gd (qT (eT x39.aCn p1.aCd)) (gd (iG ((aR x39.aCq i43).aCd)) (bd (p4 p6 (aG.mk ((aR x39.aCq i43).aCg) (jV (eT x39.aCn p1.aCd) ((aR x39.aCq i43).aCd))) (aX (p0+1))) fun(x51,x52)=>sw (!decide (x52=0)) (some (.ret ((aH.mk 0 0 (aC.mk 0 0) []),x52))) (gd ((v45).length+(([x51]:List aH)).length≤68719476736) (some (.next (v45++([x51]:List aH)))))))
def JF(fu:Nat)(p4:wE)(p6:bH)(p1:aG)(p0:Int):Option (aH×Int):=bd (mO fu p6.aCw p1) fun x2=>sw (decide (x2≥0)) (gd (0≤x2∧x2.toNat<(p6.aCw).length) (lt (aR p6.aCw (x2.toNat)) fun y5=>bd (gY fu (aH.mk 2 y5.aCL (aC.mk 0 0) []) y5.aCM) fun x8=>some (x8,0))) (sw (decide (p0≥12)) (some ((aH.mk 0 0 (aC.mk 0 0) []),3)) (so (VR fu p4 p6 p1 p0 x2) fun(v10,v11,v12,v13,v14)=>so (L5 fu p4 p6 p1 p0 x2 v10 v11 v12 v13 v14) fun _=>bd (q8 fu p6.aCT p1) fun(x35,x36)=>sw (!decide (x36=0)) (some ((aH.mk 0 0 (aC.mk 0 0) []),x36)) (bd (rM fu p6.aCT x35) fun(x39,x40)=>gd (Tr.bulkL (aA.tr x39.aCn)≤68719476735) (gd (iG p1.aCd) (so (loopN (VS fu p4 p6 p1 p0 x2 v10 v11 v12 v13 v14 x35 x36 x39 x40) (x39.aCq.length-0) 0 ([])) fun v45=>some ((aH.mk 1 0 x35 v45),0))))))
theorem ab5(fu:Nat)(p4:wE)(pD:JG p4):JG (JF fu p4):=by
 intro p6 p1 p0 r H
 refine qJ func61 H (fun C hC H=>?_)
 refine gQ 2 ?_;refine q1 (fD (dK p1)) ?_;refine gQ 5 ?_;refine bK H fun x2 z1 H=>(dW (dI [0] bF (dI [27] uQ (dI [28] bW (dD [29] eE (dD [4] (bZ [pS p1.aCg,pI p1.aCd.aCb,pS p1.aCd.aB9,aT p1.aCd.aCa]) (dI [30,31] (bE func101 (A9 fu p6.aCw p1 _ z1)) (dI [32] bF (dN ?_)))))))))
 refine gQ 5 ?_;refine bC H (fun h3 H=>?_) (fun h3 H=>?_)
 ·refine gQ 7 ?_;refine cF H fun z4 H=>(fV H fun y5 h6 H=>(q1 (rIm h6 z4 arB.h) (q1 (iK (aJ.cs y5)) ?_)))
  refine gQ 10 ?_;refine bK H fun x8 z7 H=>(q1 (bE func114 (xL fu (aH.mk 2 y5.aCL (aC.mk 0 0) []) y5.aCM _ z7)) ?_)
  exact gE 3
 refine gQ 7 ?_;refine bC H (fun h9 H=>gE 6) fun h9 H=>?_;refine gQ 2 ?_;refine n3 (σ:=ByteArray×(LB)×Bool×Bool×(List aE)) (fun(v10,v11,v12,v13,v14)=>⟨[(0,.ptr 0 0),(2,pI p0),(4,.ptr 1 0),(6,.ptr 2 0),(7,pI 0)],⟨[some ⟨145,[aP p6.aCT.aB8,bN p6.aCw]⟩,some ⟨32,dK p1⟩,some ⟨55,[pI 0,pI 0,pI 0,pI 0,.nil]⟩,some ⟨156,[pS v10,rS v11,pB v12,pB v13,gF v14]⟩],[]⟩⟩) (eM H) (fun H=>?_) ?_
 ·refine qS (LU H fun x16 x17 x18 z15 H=>(dW (dI [0] bF (dI [52] uQ (dI [53] bW (dB [54] 0 1 (GO [aP p6.aCT.aB8]) (dI [4] bW (dB [56] 0 1 uP (dI [55,57] (bE func115 (QJ fu p6.aCT p1.aCg _ z15)) (dI [58] bF ?_))))))))))
  iterate 3 refine dI [51] YN ?_
  refine dE [] tAl (lB [10,59] kG (dI [60] bF (dI [61] bF (dN ?_))))
  refine gQ 4 ?_;refine dL 63 H (fun g19 H=>?_) fun g19 H=>?_
  ·refine gQ 4 ?_;refine bC H (fun h20 H=>?_) (fun h20 H=>?_)
   ·refine gQ 7 ?_;refine q1 (bZ [pI p1.aCd.aCb,pS p1.aCd.aB9,aT p1.aCd.aCa]) (bK H fun x22 z21 H=>(q1 (eW [0] [] func51 (amB fu p6 p1.aCg p1.aCd ([]) _ z21)) ?_))
    refine gQ 7 ?_;refine bC H (fun h23 H=>gE 7) fun h23 H=>?_;exact gE 7
   exact gE 1
  exact gE 6
 rintro⟨v10,v11,v12,v13,v14⟩ H
 refine qS ?_;refine n3 (σ:=Unit) (fun _=>⟨[(0,.ptr 0 0),(2,pI p0),(4,.ptr 1 0),(6,.ptr 2 0),(7,pI 0)],⟨[some ⟨145,[aP p6.aCT.aB8,bN p6.aCw]⟩,some ⟨32,dK p1⟩,some ⟨55,[pI 0,pI 0,pI 0,pI 0,.nil]⟩,some ⟨156,[pS v10,rS v11,pB v12,pB v13,gF v14]⟩],[]⟩⟩) (eM H) (fun H=>?_) ?_
 ·refine gQ 8 ?_;refine n3 (σ:=Bool) (fun v24=>⟨[(0,.ptr 0 0),(2,pI p0),(4,.ptr 1 0),(6,.ptr 2 0),(7,pI 0),(80,pI p1.aCd.aCb),(81,pB v24)],⟨[some ⟨145,[aP p6.aCT.aB8,bN p6.aCw]⟩,some ⟨32,dK p1⟩,some ⟨55,[pI 0,pI 0,pI 0,pI 0,.nil]⟩,some ⟨156,[pS v10,rS v11,pB v12,pB v13,gF v14]⟩],[]⟩⟩) (eM H) (fun H=>?_) ?_
  ·refine gQ 5 ?_;refine bC H (fun h25 H=>gE 1) fun h25 H=>?_;exact gE 4
  rintro v24 H
  refine bC H (fun h26 H=>gE 6) fun h26 H=>?_;refine gQ 5 ?_;refine bC H (fun h27 H=>?_) (fun h27 H=>?_)
  ·refine qS (dU H fun x29 x30 z28 H=>(dW (dI [0] bF (dI [88] uQ (dI [89] bW (dD [90] (bZ [aP p6.aCT.aB8]) (dI [4] bW (dI [92] bW (dD [93] eE (dI [4] bW (dD [95] eE (dI [91,94,96] (bE func116 (BB fu p6.aCT p1.aCd.aB9 p1.aCg _ z28)) (dI [97] bF ?_)))))))))))))
   iterate 2 refine dI [87] YN ?_
   refine dI [98] bF (dI [99] bF (dN ?_))
   refine gQ 4 ?_;refine bC H (fun h31 H=>?_) (fun h31 H=>?_)
   ·refine gQ 4 ?_;refine bK H fun x33 z32 H=>(q1 (bE func114 (xL fu (aH.mk 4 0 (aC.mk 0 0) []) x29 _ z32)) ?_)
    exact gE 3
   exact gE 1
  exact gE 1
 rintro⟨⟩ H
 refine qS (dU H fun x35 x36 z34 H=>(dW (dI [0] bF (dI [105] uQ (dI [106] bW (dB [107] 0 1 (GO [aP p6.aCT.aB8]) (dB [4] 0 1 (GO [pS p1.aCg,pI p1.aCd.aCb,pS p1.aCd.aB9,aT p1.aCd.aCa]) (dI [108,109] (bE func117 (LX fu p6.aCT p1 _ z34)) (dI [110] bF ?_)))))))))
 iterate 2 refine dI [104] YN ?_
 refine dE [] tAl (lB [16,111] kG (dI [112] bF (dN ?_)))
 refine gQ 6 ?_;refine bC H (fun h37 H=>gE 7) fun h37 H=>?_;refine gQ 2 ?_;refine dU H fun x39 x40 z38 H=>(dW (dI [0] bF (dI [118] uQ (dI [119] bW (dB [120] 0 1 (GO [aP p6.aCT.aB8]) (dB [16] 0 1 (GO [pI x35.aCl,pI x35.aCz]) (dI [121,122] (bE func118 (u0 fu p6.aCT x35 _ z38)) (dI [123] bF ?_))))))))
 iterate 2 refine dI [117] YN ?_
 refine dE [] tAl (lB [18,124] kG (dI [125] bF (dN ?_)))
 refine gQ 3 ?_;refine q1 (bZ [pI x39.aCn.aCb,pS x39.aCn.aB9,aT x39.aCn.aCa]) (q1 bW (q1 (bZ [pI p1.aCd.aCb,pS p1.aCd.aB9,aT p1.aCd.aCa]) (cF H fun z41 H=>(cF H fun z42 H=>(q1 (bE func119 (Z4 x39.aCn p1.aCd z41 z42)) ?_)))))
 refine gQ 8 ?_;refine q1 (bZ [pI x35.aCl,pI x35.aCz]) ?_;refine gQ 12 ?_;refine cV.wk (Wk.regBox (k:=6) (j:=4) 55 5 (by decide) rfl rfl) ?_;refine gP 137 (aG.trs_len _) (fun hl46=>?_)
 try dsimp only at hl46
 refine bS (σ:=(List aH)) (fun i43 v45=>⟨[(0,.ptr 0 0),(2,pI p0),(6,.ptr 2 0),(7,pI 0),(20,fL (eT x39.aCn p1.aCd)),(22,.ptr 6 0),(137,cK x39.aCq),(138,pN x39.aCq.length),(139,pN i43)],⟨[some ⟨145,[aP p6.aCT.aB8,bN p6.aCw]⟩,some ⟨32,dK p1⟩,some ⟨55,[pI 0,pI 0,pI 0,pI 0,.nil]⟩,some ⟨156,[pS v10,rS v11,pB v12,pB v13,gF v14]⟩,some ⟨52,[pI x35.aCl,pI x35.aCz]⟩,some ⟨163,c8 x39⟩,some ⟨55,[pI 1,pI 0,pI x35.aCl,pI x35.aCz,sB v45 0]⟩],[⟨55,5,aH.trs (v45),false⟩]⟩⟩) (fun v45=>⟨[(6,.ptr 2 0),(7,pI 0),(22,.ptr 6 0)],⟨[some ⟨145,[aP p6.aCT.aB8,bN p6.aCw]⟩,some ⟨32,dK p1⟩,some ⟨55,[pI 0,pI 0,pI 0,pI 0,.nil]⟩,some ⟨156,[pS v10,rS v11,pB v12,pB v13,gF v14]⟩,some ⟨52,[pI x35.aCl,pI x35.aCz]⟩,some ⟨163,c8 x39⟩,some ⟨55,[pI 1,pI 0,pI x35.aCl,pI x35.aCz,sB v45 0]⟩],[⟨55,5,aH.trs (v45),false⟩]⟩⟩) (eM H) ?_ ?_
 ·rintro i43 v45 H
  refine gQ 5 ?_;refine cS H (fun h47 h47l H=>?_) (fun h47 H=>?_)
  ·refine gQ 6 ?_;refine q1 (iK (aG.cs (aR x39.aCq i43))) ?_;refine gQ 4 ?_;refine cF H fun z48 H=>(cF H fun z49 H=>(dU H fun x51 x52 z50 H=>(dWa (dI [0] bF (dI [24] bW (dBz [145] 0 0 uP (dI [20] bF (dI [24] bW (dBz [148] 0 0 (GO [pI (((aR x39.aCq i43).aCd).aCb),pS (((aR x39.aCq i43).aCd).aB9),aT (((aR x39.aCq i43).aCd).aCa)]) (dI [147,149] (bE func16 (P9 (eT x39.aCn p1.aCd) ((aR x39.aCq i43).aCd) z48 z49)) (dI [146,150] r9 (dI [2] bF (dI [152] rAw ?_)))))))))))))
   refine dEz [144,151,153] (fun _ z=>by cases z<;>exact eW [0] [] func61 (pD p6 (aG.mk ((aR x39.aCq i43).aCg) (jV (eT x39.aCn p1.aCd) ((aR x39.aCq i43).aCd))) (aX (p0+1)) _ z50)) ?_;refine dI [154] bF ?_
   iterate 2 refine dI [143] YN ?_
   refine dA (fun _ st h=>vAl h atK.h) (dZ 25 [25,155] kG (dI [156] bF (dN ?_)))
   refine gQ 6 ?_;refine bC H (fun h53 H=>gE 7) fun h53 H=>?_;refine gQ 4 ?_;refine q1 (bZ [pI x51.aCb,pI x51.aCR,pI x51.aCz.aCl,pI x51.aCz.aCz,fP x51.aCa]) (q1 (hH ([x51]:List aH)) (cF H fun z54 H=>(q1 (lE z54) ?_)))
   exact gE 7
  exact gE 0
 rintro v45 H
 refine gQ 2 ?_;refine q1 (bZ [pI 1,pI 0,pI x35.aCl,pI x35.aCz,sB v45 0]) ?_;exact gE 3
def lO:Nat→bH→aG→Int→Option (aH×Int)
 |0,_,_,_=>none
 |fu+1,p6,p1,p0=>JF fu (lO fu) p6 p1 p0
theorem afC(fu:Nat):JG (lO fu):=by
 induction fu with
 |zero=>exact(fun p6 p1 p0 r H=>by simp only [lO] at H;cases H)
 |succ fu ih=>exact(fun p6 p1 p0 r H=>by simp only [lO] at H;exact ab5 fu (lO fu) ih p6 p1 p0 r H)
theorem aiM(fu:Nat):JG (lO fu):=(afC fu)
def af2(fu:Nat)(pw:aF)(pC:List aG)(pg:aG):Option (aH×Int):=bd (vD fu pw pC) fun x2=>bd (iV fu pw x2 pg 12) fun(x4,x5)=>some (x4,x5)
theorem amS(fu:Nat)(pw:aF)(pC:List aG)(pg:aG)(r:aH×Int)(H:af2 fu pw pC pg=some r):bQ Tryz.prog 19 [(aF.pv pw),cK pC,(aG.pv pg)] (.tup [(aH.pv r.1),pI r.2]):=by
 refine qJ func19 H (fun C hC H=>?_)
 refine gQ 2 ?_;refine q1 (fD ([aP pw.aB8])) (q1 (fD (dK pg)) ?_)
 refine gQ 4 ?_;refine bK H fun x2 z1 H=>(dU H fun x4 x5 z3 H=>(dW ?_))
 iterate 2 refine dD [3] (bZ [aP pw.aB8]) ?_
 refine dI [1] bF (dI [9,10] (bE func15 (TP fu pw pC _ z1)) (dD [5] (bZ [pS pg.aCg,pI pg.aCd.aCb,pS pg.aCd.aB9,aT pg.aCd.aCa]) (dI [8,11,12] (bE func62 (adI fu pw x2 pg 12 _ z3)) ?_)))
 iterate 2 refine dI [13] YN ?_
 refine lB [6,14] kG (dI [15] bF (dN ?_))
 exact gE 0
end
end Go.Proofs.YtfcoaagbccmahaaGreat.W

namespace Go.Proofs.YtfcoaagbccmahaaGreat.W
attribute [local irreducible] lt
open Go.RowKit Go.Proofs
def fX(w:aF)(g:aG):List aC:=(fG w).filter fun o=>rG w g o
def yM(w:aF)(l:List aC)(o:aC):Bool:=l.any fun p=>ES (b5 w p).aCn (b5 w o).aCn
def DL(w:aF)(g:aG)(o:aC):aC×Int:=bif ((b5 w o).aCB&& !uV g.aCd) then(.mk 0 0,2) else(o,0)
def f9(w:aF)(g:aG):aC×Int:=match(fX w g).find? (fun o=> !yM w (fX w g) o) with
 |some o=>DL w g o
 |none=>(.mk 0 0,1)
theorem D2{w:aF}{g:aG}{o:aC}(h:o∈fX w g):mP w o:=UH (List.mem_filter.1 h).1
theorem aaZ{α β:Type}{p:α→Bool}{r:α→β}{l:List α}{m:Option (β⊕Unit)}{f:Unit→Option β}(hm:m=some (match l.find? p with|some x=> .inl (r x)|none=> .inr ())){b:β}(hf:f ()=some b):so m f=some (match l.find? p with|some x=>r x|none=>b):=by
 cases hq:l.find? p with
 |none=>
  rw [hq] at hm
  exact X0 hm hf
 |some x=>
  rw [hq] at hm
  exact soL hm
theorem akN{α:Type}(q:α→Bool): ∀(l:List α) (b:Bool),l.foldl (fun v x=>v&& !q x) b=(b&& !l.any q)
 | [],b=>by simp
 |a::l,b=>by
  rw [List.foldl_cons,akN q l,List.any_cons]
  cases b<;>cases q a<;>simp
theorem UB{β:Type}{w:aF}{o:aC}(h:mP w o){f:aM→aI→Option β}{z:Option β}(k: ∀p,f p (b5 w o)=z):gd (0≤o.aCl∧(o.aCl).toNat<(w.aB8).length) (lt (aR w.aB8 ((o.aCl).toNat)) (fun y=>gd (0≤o.aCz∧(o.aCz).toNat<(y.aCk).length) (lt (aR y.aCk ((o.aCz).toNat)) (fun z=>f y z))))=z:=by
 obtain⟨p,q,rfl,hp,hq⟩:=h
 exact iJ ⟨by show(0:Int)≤p;omega,by show((p:Nat):Int).toNat<_;omega⟩ (UE rfl (iJ ⟨by show(0:Int)≤q;omega,by show((q:Nat):Int).toNat<(aR w.aB8 p).aCk.length;omega⟩ (UE rfl (k _))))
section
variable {fu:Nat} {w:aF} (hw:wt w≤13000000) {g:aG} (hg:iG g.aCd)
include hw hg
theorem amQ(hf:13000000<fu):l9 fu w g=some (fX w g):=by
 have hl:=UY hw
 have hr:=OS (fun o=> !rG w g o) (fG w) (fG w).length 0 rfl
 rw [List.drop_zero] at hr
 simp only [Bool.not_not] at hr
 have h:=wK (F:=oF fu w g (fG w)) (n:=(fG w).length) (g:=fun i=>bif !rG w g (aR (fG w) i) then [] else [aR (fG w) i]) (M:=68719476736) (fun i v hi hv=>by
  have hR:=UH (cC hi)
  unfold oF
  generalize aR (fG w) i=o at hR hv ⊢
  refine UB hR fun p=>?_
  have hB:=sC hw hR
  unfold rG at hv ⊢
  cases h1:decide ((b5 w o).aCg=g.aCg) with
  |false=>exact g0 rfl (by rw [Bool.false_and,Bool.not_false,cond_true,List.append_nil])
  |true=>
   cases h2:jB (b5 w o).aCn g.aCd with
   |false=>exact jP rfl (iJ hB (iJ hg (g0 rfl (by rw [Bool.and_false,Bool.not_false,cond_true,List.append_nil]))))
   |true=>
    rw [h1,h2] at hv
    exact jP rfl (iJ hB (iJ hg (jP rfl (iJ hv rfl))))) _ 0 [] rfl (by
  rw [Nat.sub_zero,hr,List.length_nil,Nat.zero_add]
  have:=List.length_filter_le (fun o=>rG w g o) (fG w)
  omega)
 rw [Nat.sub_zero,hr] at h
 unfold l9
 rw [ap3 fu w (by omega) (aF.small_wt hw hf) (fun i hi=>(aF.len_at hw i hi).2.2)]
 refine(congrArg (fun x=>so x _) h).trans rfl
omit hg in
theorem ai1(i:Nat)(p:aM)(o:aC)(ho:mP w o):
 t7 fu w g (fX w g) i p (b5 w o)=some (.inr (!yM w (fX w g) o)):=by
 unfold t7
 rw [kR (l:=fX w g) (g:=fun v p=>v&& !ES (b5 w p).aCn (b5 w o).aCn) (fun _ _=>True) (fun j v hj _=>⟨?_,trivial⟩) trivial,akN,Bool.true_and]
 ·rfl
 ·have hR:=D2 (cC hj)
  unfold BP
  generalize aR (fX w g) j=r at hR ⊢
  have h1:=sC hw hR
  have h2:=sC hw ho
  refine UB hR fun p=>?_
  cases v with
  |true=>exact jP rfl (iJ h1 (iJ h2 rfl))
  |false=>exact g0 rfl rfl
theorem ap7(hf:13000000<fu):rB fu w g=some (f9 w g):=by
 unfold rB
 refine gO (amQ hw hg hf) ?_
 unfold f9
 refine(aaZ (l:=fX w g) (p:=fun o=> !yM w (fX w g) o) (r:=DL w g) (b:=(aC.mk 0 0,1)) ?_ rfl).trans (by cases(fX w g).find? (fun o=> !yM w (fX w g) o)<;>rfl)
 refine mS (l:=fX w g) (p:=fun o=> !yM w (fX w g) o) (r:=DL w g) (fun i hi=>?_)
 have hR:=D2 (cC hi)
 unfold BO DL
 generalize aR (fX w g) i=o at hR ⊢
 refine UB hR fun p=>?_;refine X0 (ai1 hw i p o hR) ?_
 unfold BN
 cases yM w (fX w g) o with
 |true=>exact X0 (s:=(false,false,false)) (g0 rfl rfl) (g0 rfl rfl)
 |false=>
  cases hd:(b5 w o).aCB with
  |false=>exact X0 (s:=(false,false,false)) (jP rfl (g0 rfl rfl)) (jP rfl rfl)
  |true=>
   cases hgr:uV g.aCd with
   |true=>exact X0 (s:=(true,true,false)) (jP rfl (jP rfl (iJ hg (g0 rfl rfl)))) (jP rfl rfl)
   |false=>exact soL (jP rfl (jP rfl (iJ hg (jP rfl rfl))))
omit hg in
theorem al5(l:List aC)(hl: ∀p∈l,mP w p)(o:aC)(ho:mP w o):cL fu l w (b5 w o)=some (yM w l o):=by
 have h1:dT fu l w (b5 w o)=some (match l.findIdx? (fun p=>ES (b5 w p).aCn (b5 w o).aCn) with|some i=>((i:Nat):Int)|none=> -1):=by
  unfold dT
  rw [xS (l:=l) (p:=fun p=>ES (b5 w p).aCn (b5 w o).aCn) fun i hi=>by
   have hR:=hl _ (cC hi)
   unfold iQ s7
   rw [H6 fu w _ hR]
   refine gO (iJ (sC hw hR) (iJ (sC hw ho) rfl)) ?_
   show sw (ES (b5 w (aR l i)).aCn (b5 w o).aCn) _ _=_
   cases ES (b5 w (aR l i)).aCn (b5 w o).aCn<;>rfl]
  cases l.findIdx? fun p=>ES (b5 w p).aCn (b5 w o).aCn<;>rfl
 unfold cL
 exact gO h1 (congrArg some QF)
theorem apO:q8 fu w g=some (f9 w g):=by
 unfold q8
 refine iJ hw (iJ hg ?_)
 unfold f9
 refine(aaZ (l:=fX w g) (p:=fun o=> !yM w (fX w g) o) (r:=DL w g) (b:=(aC.mk 0 0,1)) ?_ rfl).trans (by cases(fX w g).find? (fun o=> !yM w (fX w g) o)<;>rfl)
 rw [show List.filter (fun o=>rG w g o) (fG w)=fX w g from rfl]
 refine mS (l:=fX w g) (p:=fun o=> !yM w (fX w g) o) (r:=DL w g) (fun i hi=>?_)
 have hR:=D2 (cC hi)
 unfold BA DL
 rw [show List.filter (fun o=>rG w g o) (fG w)=fX w g from rfl]
 generalize aR (fX w g) i=o at hR ⊢
 refine UE rfl ?_
 rw [H6 fu w o hR]
 show bd (cL fu (fX w g) w (b5 w o)) _=_
 refine gO (al5 hw _ (fun p hp=>D2 hp) o hR) ?_
 show sw _ _ (sw (b5 w o).aCB _ _)=_
 cases yM w (fX w g) o with
 |true=>exact jP rfl rfl
 |false=>
  refine g0 rfl ?_
  cases hd:(b5 w o).aCB with
  |false=>exact g0 rfl rfl
  |true=>
   refine jP rfl (iJ hg ?_)
   cases hgr:uV g.aCd with
   |true=>exact g0 rfl rfl
   |false=>exact jP rfl rfl
end
end Go.Proofs.YtfcoaagbccmahaaGreat.W

namespace Go.Proofs.YtfcoaagbccmahaaGreat.W
open Go.RowKit Go.WalkArith Go.Proofs
attribute [local irreducible] lt
def X6(Q:aA→Prop)(R:Int→ByteArray→Nat→Prop):Prop:= ∀k n xs,Q (.mk k n xs)↔R k n xs.length∧ ∀x∈xs,Q x
def RU(U:LB)(k:Int)(n:ByteArray)(m:Nat):Prop:=(k=1→n∈U)∧m≤68719476735
theorem l8(U:LB):X6 (Gd U) (RU U):=fun k n xs=>by
 rw [Gd,w9]
 unfold RU
 constructor
 ·rintro⟨h1,h2,h3⟩;exact⟨⟨h1,h2⟩,h3⟩
 ·rintro⟨⟨h1,h2⟩,h3⟩;exact⟨h1,h2,h3⟩
section
variable {Q:aA→Prop} {R:Int→ByteArray→Nat→Prop}
theorem X6.args(hQ:X6 Q R){t:aA}(h:Q t): ∀x∈t.aCa,Q x:=by
 obtain⟨k,n,xs⟩:=t
 exact((hQ k n xs).1 h).2
def BQ(Q:aA→Prop)(l:List aK):Prop:= ∀b∈l,Q b.aCd
theorem BQ.nil:BQ Q []:=fun b hb=>by simp at hb
theorem afI: ∀(ps:List aA),(∀x∈ps,∀t s s',j7 x t s=some s'→BQ Q s→Q t→BQ Q s')→ ∀ts s s',lZ ps ts s=some s'→BQ Q s→(∀t∈ts,Q t)→BQ Q s'
 | [],_,ts,s,s',h,hb,_=>by
  rw [lZ] at h
  obtain rfl:=Option.some.inj h
  exact hb
 |p::ps,hp,ts,s,s',h,hb,ht=>by
  cases ts with
  |nil=>simp [lZ] at h
  |cons t ts=>
   rw [lZ] at h
   cases hq:j7 p t s with
   |none=>rw [hq] at h;cases h
   |some s1=>
    rw [hq] at h
    exact afI ps (fun x hx=>hp x (List.mem_cons_of_mem _ hx)) ts s1 s' h (hp p (by simp) t s s1 hq hb (ht t (by simp))) (fun x hx=>ht x (List.mem_cons_of_mem _ hx))
theorem an5(hQ:X6 Q R): ∀(p t:aA) (s s':List aK),j7 p t s=some s'→BQ Q s→Q t→BQ Q s':=by
 refine aA.ind fun k n ps ih t s s' h hb ht=>?_
 rw [j7] at h
 split at h
 ·split at h
  ·split at h
   ·obtain rfl:=Option.some.inj h
    exact hb
   ·cases h
  ·obtain rfl:=Option.some.inj h
   intro b hb'
   rcases List.mem_append.1 hb' with h1|h1
   ·exact hb b h1
   ·obtain rfl:=List.mem_singleton.1 h1
    exact ht
 ·split at h
  ·split at h
   ·split at h
    ·exact afI ps ih _ _ _ h hb (hQ.args ht)
    ·cases h
   ·cases h
  ·cases h
theorem wL(hQ:X6 Q R)(p t:aA)(ht:Q t):BQ Q (eT p t):=by
 unfold eT
 cases hq:j7 p t [] with
 |none=>exact BQ.nil
 |some s=>exact an5 hQ p t [] s hq BQ.nil ht
theorem UZ(hQ:X6 Q R){l:List aK}(hl:BQ Q l): ∀t,Q t→Q (jV l t):=by
 refine aA.ind fun k n xs ih h=>?_
 have h1:=(hQ k n xs).1 h
 have h2:Q (.mk k n (HK l xs)):=by
  rw [hQ,FE,List.length_map]
  refine⟨h1.1,fun y hy=>?_⟩
  obtain⟨x,hx,rfl⟩:=List.mem_map.1 hy
  exact ih x hx (h1.2 x hx)
 rw [jV]
 split
 ·split
  ·rename_i hk
   unfold IE D1 at hk
   unfold DI D1
   cases hq:l.find? fun b=>decide (b.aCN=n) with
   |none=>rw [hq] at hk;cases hk
   |some b=>exact hl b (List.mem_of_find?_eq_some hq)
  ·exact h2
 ·exact h2
end
mutual
def szT:aA→Int
 | .mk _ _ xs=>szL 1 xs
def szL:Int→List aA→Int
 |a,[]=>a
 |a,x::l=>szL (aX (a+szT x)) l
end
theorem XV: ∀(l:List aA) (a:Int),szL a l=l.foldl (fun a x=>aX (a+szT x)) a
 | [],a=>rfl
 |x::l,a=>by rw [szL,XV l,List.foldl_cons]
def U1(vs:LB)(ts:List aA):List aK:=(List.range' 0 vs.length).map fun i=>aK.mk (aR vs i) (aR ts i)
theorem abP{Q:aA→Prop}{vs:LB}{ts:List aA}(hl:vs.length=ts.length)(ht: ∀t∈ts,Q t):BQ Q (U1 vs ts):=fun b hb=>by
 obtain⟨i,hi,rfl⟩:=List.mem_map.1 hb
 rw [List.mem_range'_1] at hi
 exact ht _ (cC (by omega))
theorem ZY{U:LB}(hU:U.length≤68719476736){l:List aK}(h:BQ (Gd U) l):qT l:=fun b hb=>⟨U,hU,h b hb⟩
def PY(n:ByteArray):Bool:=decide (n=dR)||decide (n=dP)
def mL{α:Type}(f:α→Int):List α→Int
 | []=>0
 |t::l=>if f t=0 then mL f l else f t
def uB(w:aF)(t:aA):Bool:=decide (t.aCb=2)&&((KD w t.aB9).2.2&&decide ((KD w t.aB9).1.aCm.length=t.aCa.length))
def yL(b:Bool)(t:aA):Bool:=decide (t.aCb=2)&&(PY t.aB9&&(b||decide (t.aCa.length=0)))
def T6(w:aF)(t f:aA):aA:=jV (U1 (KD w t.aB9).1.aCm t.aCa) f
def rE(b:Bool)(w:aF)(l:List aJ)(tr:ByteArray):Nat→List aA→aA→Int
 |0,_,_=>3
 |k+1,op,t=>
  bif yL b t then 0 else
  bif decide (tD l (.mk tr t)≥0) then 0 else
  bif !uB w t then 1 else
  bif op.any (fun u=>aA.eq u t) then 0 else
  bif decide (30<op.length)||decide (szT t>400) then 3 else
  mL (fun c=>mL (fun f=>rE b w l tr k (op++ [t]) (T6 w t f)) (aD.aCs c)) (KD w t.aB9).1.aCe
def zEv:aH:= .mk 0 0 (.mk 0 0) []
def VV(out:aH)(n:Int):aH:= .mk 3 n (.mk 0 0) [out]
def ab8(x:aH)(steps:List Int):aH:=steps.foldl VV x
def GZ(f:aG→aH×Int):List aG→List aH→List aH×Int
 | [],out=>(out,0)
 |b::r,out=>if(f b).2=0 then GZ f r (out++ [(f b).1]) else([],(f b).2)
def apB(l:List aJ)(g:aG):aH:=ab8 (.mk 2 (aR l (tD l g).toNat).aCL (.mk 0 0) []) (aR l (tD l g).toNat).aCM
def SA(w:aF)(o:aC)(g b:aG):aG:= .mk b.aCg (jV (eT (b5 w o).aCn g.aCd) b.aCd)
def kX(b:Bool)(w:aF)(l:List aJ):Nat→aG→aH×Int
 |0,g=>bif decide (tD l g≥0) then(apB l g,0) else(zEv,3)
 |k+1,g=>
  bif decide (tD l g≥0) then(apB l g,0) else
  bif (tT w g.aCg).1.aCG then(if rE b w l g.aCg 32 [] g.aCd=0 then(.mk 5 0 (.mk 0 0) [],0) else(zEv,rE b w l g.aCg 32 [] g.aCd)) else
  bif decide (g.aCd.aCb=1)||decide (g.aCd.aCb=3) then(zEv,1) else
  bif decide (g.aCd.aCb=4)&&(jS w 8 g.aCd.aB9 g.aCg).2 then(ab8 (.mk 4 0 (.mk 0 0) []) (jS w 8 g.aCd.aB9 g.aCg).1,0) else
  if(f9 w g).2=0 then
   (if(GZ (fun x=>kX b w l k (SA w (f9 w g).1 g x)) (b5 w (f9 w g).1).aCq []).2=0 then
    (.mk 1 0 (f9 w g).1 (GZ (fun x=>kX b w l k (SA w (f9 w g).1 g x)) (b5 w (f9 w g).1).aCq []).1,0)
   else(zEv,(GZ (fun x=>kX b w l k (SA w (f9 w g).1 g x)) (b5 w (f9 w g).1).aCq []).2))
  else(zEv,(f9 w g).2)
structure WQ (Q:aA→Prop) (w:aF):Prop where
 wh: ∀o,mP w o→ ∀b∈(b5 w o).aCq,Q b.aCd
 fl: ∀n,∀c∈(KD w n).1.aCe,∀f∈c.aCs,Q f
 ac: ∀o,mP w o→Q (b5 w o).aCp
def aiO(x:aI):LB:=(x.aCq.flatMap fun b=>FW b.aCd)++FW x.aCp
def amI(d:aN):LB:=d.aCe.flatMap fun c=>c.aCs.flatMap FW
def wM(w:aF):LB:=w.aB8.flatMap fun p=>p.aCk.flatMap aiO++p.aCh.flatMap amI
theorem A8{α β:Type}[Wt α](f:α→List β)(h: ∀x,(f x).length≤wt x+1): ∀l:List α,(l.flatMap f).length≤wl l
 | []=>Nat.zero_le _
 |x::l=>by
  rw [List.flatMap_cons,List.length_append,ad0]
  have:=h x
  have:=A8 f h l
  omega
theorem acD(t:aA):(FW t).length≤wt t+1:=by
 have h:=afM t
 rw [NP] at h
 omega
theorem an7(w:aF):(wM w).length≤wt w:=by
 have hI: ∀x:aI,(aiO x).length≤wt x+1:=fun x=>by
  have h1:=A8 (fun b:aG=>FW b.aCd) (fun b=>by
   have:=acD b.aCd
   have:=aG.wt_eq b
   show(FW b.aCd).length≤_
   omega) x.aCq
  have h2:=acD x.aCp
  have h3:=aI.wt_eq x
  unfold aiO
  rw [List.length_append]
  omega
 have hD: ∀d:aN,(amI d).length≤wt d+1:=fun d=>by
  have h1:=A8 (fun c:aD=>c.aCs.flatMap FW) (fun c=>by
   have h2:=A8 FW acD c.aCs
   have:=aD.wt_eq c
   show(c.aCs.flatMap FW).length≤_
   omega) d.aCe
  have:=aN.wt_eq d
  unfold amI
  omega
 have h:=A8 (fun p:aM=>p.aCk.flatMap aiO++p.aCh.flatMap amI) (fun p=>by
  have h1:=A8 aiO hI p.aCk
  have h2:=A8 amI hD p.aCh
  have:=aM.wt_eq p
  show(p.aCk.flatMap aiO++p.aCh.flatMap amI).length≤_
  rw [List.length_append]
  omega) w.aB8
 have:=aF.wt_eq w
 unfold wM
 omega
theorem akP(w:aF)(n:ByteArray):(KD w n).1=aN.mk s_ [] []∨ ∃p∈w.aB8,(KD w n).1∈p.aCh:=by
 unfold KD
 cases hq:(List.range' 0 w.aB8.length).findSome? (dQ w n) with
 |none=>exact .inl rfl
 |some r=>
  obtain⟨i,hi,hq⟩:=List.exists_of_findSome?_eq_some hq
  unfold dQ at hq
  obtain⟨k,hk,hq⟩:=List.exists_of_findSome?_eq_some hq
  rw [List.mem_range'_1] at hi hk
  split at hq
  ·cases hq
   exact .inr ⟨_,cC (by omega:i<w.aB8.length),cC (by omega:k<(aR w.aB8 i).aCh.length)⟩
  ·cases hq
theorem VO{w:aF}{o:aC}(h:mP w o): ∃p∈w.aB8,b5 w o∈p.aCk:=by
 obtain⟨i,k,rfl,hi,hk⟩:=h
 exact⟨_,cC hi,cC (l:=(aR w.aB8 i).aCk) hk⟩
theorem WQ.of{Q:aA→Prop}{w:aF}(hI: ∀p∈w.aB8,∀x∈p.aCk,(∀b∈x.aCq,Q b.aCd)∧Q x.aCp)(hD: ∀p∈w.aB8,∀d∈p.aCh,∀c∈d.aCe,∀f∈c.aCs,Q f):WQ Q w where
 wh:=fun o ho=>by obtain⟨p,hp,hx⟩:=VO ho;exact(hI p hp _ hx).1
 fl:=fun n c hc f hf=>by
  rcases akP w n with h|⟨p,hp,hd⟩
  ·rw [h] at hc;simp at hc
  ·exact hD p hp _ hd c hc f hf
 ac:=fun o ho=>by obtain⟨p,hp,hx⟩:=VO ho;exact(hI p hp _ hx).2
theorem vM{w:aF}(hw:wt w≤13000000){V:LB}:WQ (Gd (wM w++V)) w:=by
 have key: ∀t:aA,wt t≤13000000→(∀n∈FW t,n∈wM w)→Gd (wM w++V) t:=fun t ht hn=>
  (Gd.own t (by rw [NP];omega)).mono (fun n h=>List.mem_append_left _ (hn n h)) t
 have hP: ∀p∈w.aB8,wt p≤13000000:=fun p hp=>by
  have:=aF.wt_eq w
  have:=B7 hp
  omega
 refine WQ.of (fun p hp x hx=>?_) (fun p hp d hd c hc f hf=>?_)
 ·have h1:=hP p hp
  have h2:=aM.wt_eq p
  have h3:=B7 hx
  have h4:=aI.wt_eq x
  have hin: ∀n∈aiO x,n∈wM w:=fun n hn=>List.mem_flatMap.2 ⟨p,hp,List.mem_append_left _ (List.mem_flatMap.2 ⟨x,hx,hn⟩)⟩
  refine⟨fun b hb=>key _ ?_ fun n hn=>hin n (List.mem_append_left _ (List.mem_flatMap.2 ⟨b,hb,hn⟩)),key _ (by omega) fun n hn=>hin n (List.mem_append_right _ hn)⟩
  have h5:=B7 hb
  have h6:=aG.wt_eq b
  omega
 ·have h1:=hP p hp
  have h2:=aM.wt_eq p
  have h3:=B7 hd
  have h4:=aN.wt_eq d
  have h5:=B7 hc
  have h6:=aD.wt_eq c
  have h7:=B7 hf
  refine key _ (by omega) fun n hn=>List.mem_flatMap.2 ⟨p,hp,List.mem_append_right _ (List.mem_flatMap.2 ⟨d,hd,List.mem_flatMap.2 ⟨c,hc,List.mem_flatMap.2 ⟨f,hf,hn⟩⟩⟩)⟩
theorem akG{Q:aA→Prop}{R:Int→ByteArray→Nat→Prop}(hQ:X6 Q R){w:aF}(hW:WQ Q w){o:aC}(ho:mP w o){g b:aG}(hg:Q g.aCd)(hb:b∈(b5 w o).aCq):Q (SA w o g b).aCd:=
 UZ hQ (wL hQ _ _ hg) _ (hW.wh o ho b hb)
theorem aoZ{Q:aA→Prop}{R:Int→ByteArray→Nat→Prop}(hQ:X6 Q R){w:aF}(hW:WQ Q w){t:aA}(ht:Q t)(hc:uB w t=true){c:aD}(hm:c∈(KD w t.aB9).1.aCe){f:aA}(hf:f∈c.aCs):Q (T6 w t f):=by
 unfold uB at hc
 rw [Bool.and_eq_true,Bool.and_eq_true,decide_eq_true_eq,decide_eq_true_eq] at hc
 exact UZ hQ (abP hc.2.2 (hQ.args ht)) _ (hW.fl _ c hm f hf)
theorem JQ{w:aF}{g:aG}(h:(f9 w g).2=0):mP w (f9 w g).1:=by
 unfold f9 at h ⊢
 cases hq:(fX w g).find? fun o=> !yM w (fX w g) o with
 |none=>rw [hq] at h;cases h
 |some o=>
  rw [hq] at h
  show mP w (DL w g o).1
  replace h:(DL w g o).2=0:=h
  unfold DL at h ⊢
  cases hp:(b5 w o).aCB&& !uV g.aCd with
  |true=>rw [hp] at h;cases h
  |false=>exact D2 (List.mem_of_find?_eq_some hq)
end Go.Proofs.YtfcoaagbccmahaaGreat.W

namespace Go.Proofs.YtfcoaagbccmahaaGreat.W
open Go.RowKit Go.WalkArith Go.Proofs
attribute [local irreducible] lt
theorem F3: ∀t:aA,bP fun fu=>lK fu t=some (szT t):=by
 refine aA.ind fun k n xs ih=>?_;refine bP.succ ((bP.list ih).imp fun fu hf=>?_)
 simp only [lK,IL,aA.aCa.eq_1]
 rw [kR (l:=xs) (g:=fun a x=>aX (a+szT x)) (fun _ _=>True) (fun i s hi _=>⟨?_,trivial⟩) trivial,szT,XV]
 ·rfl
 ·rw [O0]
  exact gO (hf _ (cC hi)) rfl
theorem FK: ∀t:aA,bP fun fu=>lJ fu t=some (szT t):=by
 refine aA.ind fun k n xs ih=>?_;refine bP.succ ((bP.list ih).imp fun fu hf=>?_)
 simp only [lJ,H4,aA.aCa.eq_1]
 rw [kR (l:=xs) (g:=fun a x=>aX (a+szT x)) (fun _ _=>True) (fun i s hi _=>⟨?_,trivial⟩) trivial,szT,XV]
 ·rfl
 ·rw [N9]
  exact gO (hf _ (cC hi)) rfl
mutual
def aa9:aH→Prop
 | .mk _ _ _ xs=>xs.length≤68719476735∧ad7 xs
def ad7:List aH→Prop
 | []=>True
 |x::l=>aa9 x∧ad7 l
end
theorem Z1: ∀ {l:List aH},ad7 l↔ ∀x∈l,aa9 x
 | []=>by simp [ad7]
 |a::l=>by rw [ad7,Z1 (l:=l)];simp
theorem abS{k n:Int}{o:aC}{xs:List aH}:aa9 (.mk k n o xs)↔xs.length≤68719476735∧ ∀x∈xs,aa9 x:=by rw [aa9,Z1]
theorem AM{k n:Int}{o:aC}:aa9 (.mk k n o []):=abS.2 ⟨by simp,by simp⟩
theorem VY{α β:Type}[Inhabited α]{f:Nat→List α→Option (LR (List α) β)}{l:List α}(hs: ∀i,i<l.length→(l.take i).length=i→f i (l.take i)=some (.next (l.take i++ [aR l i]))):loopN f (l.length-0) 0 []=some (.inr l):=by
 have key: ∀k i,l.length-i=k→i≤l.length→loopN f k i (l.take i)=some (.inr l):=by
  intro k
  induction k with
  |zero=>
   intro i hk hi
   rw [loopN,List.take_of_length_le (by omega)]
  |succ k ih=>
   intro i hk hi
   have h:i<l.length:=by omega
   rw [loopN,hs i h (by rw [List.length_take];omega),← I1 h]
   exact ih (i+1) (by omega) (by omega)
 exact key _ 0 (by omega) (Nat.zero_le _)
theorem aiZ{fu:Nat}{xs:List aH}(hl:xs.length≤68719476735)(hf: ∀x∈xs,kD fu x=some x):lI (fu+1) xs=some xs:=by
 simp only [lI,GC]
 rw [VY (l:=xs) fun i hi hn=>?_]
 ·rfl
 ·rw [K7]
  exact gO (hf _ (cC hi)) (iJ (by rw [hn];simp;omega) rfl)
theorem Q6: ∀e:aH,aa9 e→bP fun fu=>kD fu e=some e:=by
 refine aH.ind fun k n o xs ih h=>?_
 rw [abS] at h
 refine bP.succ (bP.succ ((bP.list fun x hx=>ih x hx (h.2 x hx)).imp fun fu hf=>?_))
 simp only [kD,M2]
 exact gO (aiZ h.1 hf) rfl
theorem aiH{fu:Nat}{xs:List aH}(hl:xs.length≤68719476735)(hf: ∀x∈xs,eH fu x=some x):gT (fu+1) xs=some xs:=by
 simp only [gT,wA]
 refine iJ (by omega) ?_
 rw [VY (l:=xs) fun i hi hn=>?_]
 ·exact iJ rfl rfl
 ·rw [CK]
  exact gO (hf _ (cC hi)) (iJ hn.symm rfl)
theorem QA: ∀e:aH,aa9 e→bP fun fu=>eH fu e=some e:=by
 refine aH.ind fun k n o xs ih h=>?_
 rw [abS] at h
 refine bP.succ (bP.succ ((bP.list fun x hx=>ih x hx (h.2 x hx)).imp fun fu hf=>?_))
 simp only [eH,yP]
 exact gO (aiH h.1 hf) rfl
def D3(e:aH):Int×Int×Int×Int×List aH:=(e.aCb,e.aCR,e.aCz.aCl,e.aCz.aCz,e.aCa)
theorem NQ(e:aH):aH.mk (D3 e).1 (D3 e).2.1 (.mk (D3 e).2.2.1 (D3 e).2.2.2.1) (D3 e).2.2.2.2=e:=by
 obtain⟨k,n,⟨p,a⟩,xs⟩:=e
 rfl
theorem aaD{β:Type}{f:Nat→(Int×Int×Int×Int×List aH)→Option (LR (Int×Int×Int×Int×List aH) β)}{l:List Int}(hs: ∀i e,i<l.length→f i (D3 e)=some (.next (D3 (VV e (aR l i)))))(e:aH):loopN f (l.length-0) 0 (D3 e)=some (.inr (D3 (ab8 e l))):=by
 have key: ∀k i e,l.length-i=k→i≤l.length→loopN f k i (D3 e)=some (.inr (D3 (ab8 e (l.drop i)))):=by
  intro k
  induction k with
  |zero=>
   intro i e hk hi
   rw [loopN,List.drop_of_length_le (by omega)]
   rfl
  |succ k ih=>
   intro i e hk hi
   have h:i<l.length:=by omega
   rw [loopN,hs i e h,o4 h]
   exact ih (i+1) _ (by omega) (by omega)
 have:=key _ 0 e rfl (Nat.zero_le _)
 rwa [List.drop_zero] at this
theorem WI{fu:Nat}{e:aH}(h:kD fu e=some e)(l:List Int):jI fu e l=some (ab8 e l):=by
 unfold jI
 refine gO h ?_
 rw [show(e.aCb,e.aCR,e.aCz.aCl,e.aCz.aCz,e.aCa)=D3 e from rfl,aaD (l:=l) fun i e' hi=>by rw [xW,NQ];rfl]
 exact congrArg some (NQ _)
theorem VC{fu:Nat}{e:aH}(h:eH fu e=some e)(l:List Int):gY fu e l=some (ab8 e l):=by
 unfold gY
 refine gO h ?_
 rw [show(e.aCb,e.aCR,e.aCz.aCl,e.aCz.aCz,e.aCa)=D3 e from rfl,aaD (l:=l) fun i e' hi=>by rw [xK,NQ];rfl]
 exact congrArg some (NQ _)
structure awL (l:List aH):Prop where
 n:l.length≤68719476735
 v: ∀x∈l,aa9 x
end Go.Proofs.YtfcoaagbccmahaaGreat.W

namespace Go.Proofs.YtfcoaagbccmahaaGreat.W
open Go.RowKit Go.WalkArith Go.Proofs
attribute [local irreducible] lt KD
theorem ai0(fu:Nat)(a b:aG):zZ fu a b=some (aG.eq a b):=by
 obtain⟨n,x⟩:=a
 obtain⟨m,y⟩:=b
 unfold zZ
 rw [aG.eq,PX]
 show sw (decide (n=m)) (some (aA.eq x y)) (some false)=_
 cases decide (n=m)<;>rfl
theorem bP.succ'{P:Nat→Prop}(h:bP P):bP fun n=>P (n+1):=by
 obtain⟨a,h⟩:=h
 exact⟨a,fun n hn=>h (n+1) (by omega)⟩
theorem Q8(fu:Nat)(l:List aJ)(g:aG):k7 fu l g=some (tD l g):=by
 unfold k7 tD
 rw [xS (p:=fun a=>aG.eq a.aCE g) (fun i hi=>by
  unfold BJ
  refine UE rfl ?_
  rw [ai0]
  show sw (aG.eq (aR l i).aCE g) _ _=_
  cases aG.eq (aR l i).aCE g<;>rfl)]
 cases l.findIdx? fun a=>aG.eq a.aCE g<;>rfl
theorem UA{l:List aJ}{g:aG}(h:tD l g≥0):(tD l g).toNat<l.length:=by
 unfold tD at h ⊢
 cases hq:l.findIdx? fun a=>aG.eq a.aCE g with
 |none=>rw [hq] at h;exact absurd h (by decide)
 |some i=>
  rw [List.findIdx?_eq_some_iff_getElem] at hq
  exact hq.1
theorem NO{α β:Type}[Inhabited α]{f:α→Int}{l:List α}{F:Nat→Unit→Option (LR Unit β)}(g:Int→β)(hs: ∀i,i<l.length→F i ()=some (if f (aR l i)=0 then .next () else .ret (g (f (aR l i))))):loopN F (l.length-0) 0 ()=some (if mL f l=0 then .inr () else .inl (g (mL f l))):=by
 have key: ∀k i,l.length-i=k→loopN F k i ()=some (if mL f (l.drop i)=0 then .inr () else .inl (g (mL f (l.drop i)))):=by
  intro k
  induction k with
  |zero=>
   intro i hk
   rw [loopN,List.drop_of_length_le (by omega)]
   rfl
  |succ k ih=>
   intro i hk
   have h:i<l.length:=by omega
   rw [loopN,hs i h,o4 h,mL]
   by_cases h0:f (aR l i)=0
   ·rw [if_pos h0,if_pos h0]
    exact ih (i+1) (by omega)
   ·rw [if_neg h0,if_neg h0,if_neg h0]
 have:=key _ 0 rfl
 rwa [List.drop_zero] at this
theorem aoX{x:Int}:so (some (if x=0 then(.inr ():Int⊕Unit) else .inl x)) (fun _=>some 0)=some x:=by
 by_cases h:x=0
 ·rw [if_pos h,h];rfl
 ·rw [if_neg h];rfl
theorem ak8{x:Int}:so (some (if x=0 then(.inr ():(LR Unit Int)⊕Unit) else .inl (.ret x))) (fun _=>some (.next ()))=some (if x=0 then(.next ():LR Unit Int) else .ret x):=by
 by_cases h:x=0
 ·rw [if_pos h,if_pos h];rfl
 ·rw [if_neg h,if_neg h];rfl
theorem ao2{x:Int}:sw (!decide (x=0)) (some (.ret (.ret x))) (some (.next ()))=some (if x=0 then(.next ():LR Unit (LR Unit Int)) else .ret (.ret x)):=by
 by_cases h:x=0
 ·rw [if_pos h];exact g0 (by simp [h]) rfl
 ·rw [if_neg h];exact jP (by simp [h]) rfl
theorem sw3{α:Type}{b1 b2 b3 c:Bool}{x y z:α}(h:(b1&&(b2&&b3))=c)(k:(bif !c then x else y)=z):sw (!b1) x (sw (!b2) x (sw (!b3) x y))=z:=by
 subst h
 rw [← k]
 cases b1<;>cases b2<;>cases b3<;>rfl
theorem abQ(w:aF)(t:aA):(decide ((t.aCb:Int)=2)&&((KD w t.aB9).2.2&&decide ((((KD w t.aB9).1.aCm.length:Nat):Int)=((t.aCa.length:Nat):Int))))=uB w t:=
 congrArg (fun b=>decide (t.aCb=2)&&((KD w t.aB9).2.2&&b)) (decide_eq_decide.2 Int.ofNat_inj)
theorem ZX{β:Type}{vs:LB}{ts:List aA}(hv:vs.length≤68719476736){F:Nat→List aK→Option (LR (List aK) β)}(hs: ∀i v,i<vs.length→v.length+1≤68719476736→F i v=some (.next (v++ [aK.mk (aR vs i) (aR ts i)]))):loopN F (vs.length-0) 0 []=some (.inr (U1 vs ts)):=by
 have h:=ER (F:=F) (g:=fun i=>aK.mk (aR vs i) (aR ts i)) (n:=vs.length) (M:=68719476736) hs (vs.length-0) 0 [] rfl (by rw [List.length_nil];omega)
 rw [List.nil_append] at h
 exact h
theorem al3(fu:Nat){vs:LB}{ts:List aA}(hl:vs.length=ts.length)(hv:vs.length≤68719476736):OD fu vs ts=some (U1 vs ts):=by
 unfold OD
 rw [show min vs.length ts.length=vs.length by omega,ZX (ts:=ts) hv fun i v hi hn=>by
  unfold Z6
  exact iJ hi (iJ (by omega) (iJ (by simpa using hn) rfl))]
 rfl
theorem ae4(fu:Nat)(l:List aA)(t:aA):gR fu l t=some (l.any fun u=>aA.eq u t):=by
 have h1:iW fu l t=some (match l.findIdx? (fun u=>aA.eq u t) with|some i=>((i:Nat):Int)|none=> -1):=by
  unfold iW
  rw [xS (l:=l) (p:=fun u=>aA.eq u t) fun i hi=>by
   unfold o5 L4
   show sw (aA.eq (aR l i) t) _ _=_
   cases aA.eq (aR l i) t<;>rfl]
  cases l.findIdx? fun u=>aA.eq u t<;>rfl
 unfold gR
 exact gO h1 (congrArg some QF)
theorem ae0(fu:Nat)(r:BE)(q:bH)(tr:ByteArray)(t:aA)(op:List aA):QK fu r q tr t op=some (bif yL false t then .inl 0 else .inr ()):=by
 unfold QK FM yL PY
 rw [show decide ((((t.aCa.length:Nat):Int):Int)=0)=decide (t.aCa.length=0) from decide_eq_decide.2 (by omega)]
 cases decide (t.aCb=2)<;>cases decide (t.aB9=dR)<;>cases decide (t.aB9=dP)<;>cases decide (t.aCa.length=0)<;>rfl
theorem afW(fu:Nat)(r:oU)(w:aF)(l:List aJ)(g:aG)(op:List aA):IW fu r w l g op=some (bif yL true g.aCd then .inl 0 else bif decide (tD l g≥0) then .inl 0 else .inr ()):=by
 unfold IW AY yL PY
 rw [Q8]
 cases decide (g.aCd.aCb=2)<;>cases decide (g.aCd.aB9=dR)<;>cases decide (g.aCd.aB9=dP)<;>cases h:decide (tD l g≥0)<;>simp [sw,bd,h]
section
variable {U:LB} (hU:U.length≤68719476736) {w:aF} (hw:wt w≤13000000) (hW:WQ (Gd U) w) (l:List aJ) (tr:ByteArray)
include hU hw hW
theorem ahM{n:ByteArray}:(KD w n).1.aCm.length≤68719476736:=by
 have _:=hU;have _:=hW
 rcases akP w n with h|⟨p,hp,hd⟩
 ·rw [h];simp
 ·have:=aF.wt_eq w
  have:=B7 hp
  have:=aM.wt_eq p
  have:=B7 hd
  have:=aN.wt_eq (KD w n).1
  have:=aZ (KD w n).1.aCm
  omega
theorem ao0{M:Nat→aA→Option Int}{f:aA→Int}{t:aA}(ht:Gd U t)(h: ∀x,Gd U x→bP fun fu=>M fu x=some (f x)):bP fun fu=>uB w t=true→ ∀c∈(KD w t.aB9).1.aCe,∀x∈c.aCs,M fu (T6 w t x)=some (f (T6 w t x)):=by
 have _:=hU;have _:=hw
 by_cases hc:uB w t=true
 ·exact(bP.list (l:=(KD w t.aB9).1.aCe) (P:=fun c fu=> ∀x∈c.aCs,M fu (T6 w t x)=some (f (T6 w t x))) fun c hm=>bP.list fun x hx=>h _ (aoZ (l8 U) hW ht hc hm hx)).imp fun fu h _=>h
 ·exact .all fun fu hk=>absurd hk hc
theorem an0: ∀(k:Nat) (op:List aA) (t:aA),op.length+k=31→Gd U t→bP fun fu=>rN fu (bH.mk w l) tr t op=some (rE false w l tr (k+1) op t):=by
 intro k
 induction k with
 |zero=>
  intro op t hk ht
  refine bP.succ ((FK t).imp fun fu hs=>?_)
  rw [rN,rE]
  unfold OJ
  rw [ae0]
  cases h1:yL false t with
  |true=>rfl
  |false=>
   refine X0 rfl (gO (JC fu l _) ?_)
   cases h2:decide (tD l (.mk tr t)≥0) with
   |true=>exact jP rfl rfl
   |false=>
    refine g0 rfl (gO (ae7 fu w t.aB9) (sw3 (c:=uB w t) (abQ w t) ?_))
    cases h3:uB w t with
    |false=>rfl
    |true=>
     refine gO (ae4 fu op t) ?_
     cases h4:op.any fun u=>aA.eq u t with
     |true=>rfl
     |false=>
      rw [decide_eq_true (show 30<op.length by omega)]
      exact g0 rfl (jP (decide_eq_true (by omega)) rfl)
 |succ k ih=>
  intro op t hk ht
  have hsub:=ao0 (w:=w) hU hw hW (M:=fun fu x=>rN fu (bH.mk w l) tr x (op++ [t])) (f:=fun x=>rE false w l tr (k+1) (op++ [t]) x) ht fun x hx=>ih (op++ [t]) x (by rw [List.length_append,List.length_singleton];omega) hx
  refine bP.succ (((FK t).and hsub).imp fun fu hf=>?_)
  obtain⟨hs,hf⟩:=hf
  rw [rN,rE]
  unfold OJ
  rw [ae0]
  cases h1:yL false t with
  |true=>rfl
  |false=>
   refine X0 rfl (gO (JC fu l _) ?_)
   cases h2:decide (tD l (.mk tr t)≥0) with
   |true=>exact jP rfl rfl
   |false=>
    refine g0 rfl (gO (ae7 fu w t.aB9) (sw3 (c:=uB w t) (abQ w t) ?_))
    cases h3:uB w t with
    |false=>rfl
    |true=>
     refine gO (ae4 fu op t) ?_
     cases h4:op.any fun u=>aA.eq u t with
     |true=>rfl
     |false=>
      rw [decide_eq_false (show ¬30<op.length by omega)]
      refine g0 rfl (g0 (decide_eq_false (by omega)) (gO hs ?_))
      cases h5:decide (szT t>400) with
      |true=>exact jP rfl rfl
      |false=>
       have hl:(KD w t.aB9).1.aCm.length=t.aCa.length:=by
        have:=h3
        unfold uB at this
        rw [Bool.and_eq_true,Bool.and_eq_true,decide_eq_true_eq,decide_eq_true_eq] at this
        exact this.2.2
       refine g0 rfl (gO (al3 fu hl (ahM hU hw hW)) (iJ (by omega) (iJ (by rw [List.length_singleton];omega) ?_)))
       have hb:qT (U1 (KD w t.aB9).1.aCm t.aCa):=ZY hU (abP hl ((l8 U).args ht))
       rw [NO (l:=(KD w t.aB9).1.aCe) (f:=fun c=>mL (fun x=>rE false w l tr (k+1) (op++ [t]) (T6 w t x)) c.aCs) (fun x=>x) fun i hi=>?_]
       ·exact aoX
       ·unfold Z8
        have hc:=cC hi
        have hf2:=hf h3 _ hc
        have hg2:=fun x hx=>hW.fl t.aB9 _ hc x hx
        generalize hgc:aR (KD w t.aB9).1.aCe i=c at hf2 hg2 ⊢
        rw [NO (l:=c.aCs) (f:=fun x=>rE false w l tr (k+1) (op++ [t]) (T6 w t x)) (fun x=> .ret x) fun j hj=>?_]
        ·exact ak8
        ·unfold Z9
         rw [hgc]
         refine iJ hb (iJ ⟨U,hU,hg2 _ (cC hj)⟩ (gO (hf2 _ (cC hj)) ao2))
theorem aoL: ∀(k:Nat) (op:List aA) (t:aA),op.length+k=31→Gd U t→(∀u∈op,uB w u=true)→bP fun fu=>kE fu w l (.mk tr t) op=some (rE true w l tr (k+1) op t):=by
 intro k
 induction k with
 |zero=>
  intro op t hk ht ho
  refine bP.succ (((F3 t).and (bP.ge 13000001)).imp fun fu hs=>?_)
  rw [kE,rE]
  unfold GD
  rw [afW]
  cases h1:yL true t with
  |true=>simp only [aG.aCd.eq_1,h1];rfl
  |false=>
   simp only [aG.aCd.eq_1,h1]
   cases h2:decide (tD l (.mk tr t)≥0) with
   |true=>rfl
   |false=>
    refine X0 rfl ?_
    rw [mS (l:=op) (p:=fun u=>aA.eq u t) (r:=fun _=>0) (fun i hi=>by unfold IX;show sw (aA.eq (aR op i) t) _ _=_;cases aA.eq (aR op i) t<;>rfl)]
    cases h4:op.find? fun u=>aA.eq u t with
    |some u=>
     have hm:=List.mem_of_find?_eq_some h4
     have he:=(aA.eq_iff _ _).1 (List.find?_some (p:=fun u=>aA.eq u t) h4)
     have hc:=ho u hm
     rw [he] at hc
     rw [hc,List.any_eq_true.2 ⟨u,hm,List.find?_some (p:=fun u=>aA.eq u t) h4⟩]
     rfl
    |none=>
     rw [show op.any (fun u=>aA.eq u t)=false from List.any_eq_false.2 fun u hu=>List.find?_eq_none.1 h4 u hu]
     refine X0 rfl (gO (WB fu w t.aB9 (aF.small_wt hw (by omega))) (sw3 (c:=uB w t) (abQ w t) ?_))
     cases h3:uB w t with
     |false=>rfl
     |true=>
      rw [decide_eq_true (show 30<op.length by omega)]
      exact jP (decide_eq_true (by omega)) rfl
 |succ k ih=>
  intro op t hk ht ho
  have hsub:bP fun fu=>uB w t=true→ ∀c∈(KD w t.aB9).1.aCe,∀x∈c.aCs,kE fu w l (.mk tr (T6 w t x)) (op++ [t])=some (rE true w l tr (k+1) (op++ [t]) (T6 w t x)):=by
   by_cases hc:uB w t=true
   ·refine ao0 (w:=w) hU hw hW (M:=fun fu x=>kE fu w l (.mk tr x) (op++ [t])) (f:=fun x=>rE true w l tr (k+1) (op++ [t]) x) ht fun x hx=>ih (op++ [t]) x (by rw [List.length_append,List.length_singleton];omega) hx fun u hu=>?_
    rcases List.mem_append.1 hu with h|h
    ·exact ho u h
    ·rw [List.mem_singleton.1 h];exact hc
   ·exact .all fun fu h=>absurd h hc
  refine bP.succ ((((F3 t).and (bP.ge 13000001)).and hsub).imp fun fu hf=>?_)
  obtain⟨⟨hs,hfu⟩,hf⟩:=hf
  rw [kE,rE]
  unfold GD
  rw [afW]
  cases h1:yL true t with
  |true=>simp only [aG.aCd.eq_1,h1];rfl
  |false=>
   simp only [aG.aCd.eq_1,h1]
   cases h2:decide (tD l (.mk tr t)≥0) with
   |true=>rfl
   |false=>
    refine X0 rfl ?_
    rw [mS (l:=op) (p:=fun u=>aA.eq u t) (r:=fun _=>0) (fun i hi=>by unfold IX;show sw (aA.eq (aR op i) t) _ _=_;cases aA.eq (aR op i) t<;>rfl)]
    cases h4:op.find? fun u=>aA.eq u t with
    |some u=>
     have hm:=List.mem_of_find?_eq_some h4
     have he:=(aA.eq_iff _ _).1 (List.find?_some (p:=fun u=>aA.eq u t) h4)
     have hc:=ho u hm
     rw [he] at hc
     rw [hc,List.any_eq_true.2 ⟨u,hm,List.find?_some (p:=fun u=>aA.eq u t) h4⟩]
     rfl
    |none=>
     rw [show op.any (fun u=>aA.eq u t)=false from List.any_eq_false.2 fun u hu=>List.find?_eq_none.1 h4 u hu]
     refine X0 rfl (gO (WB fu w t.aB9 (aF.small_wt hw (by omega))) (sw3 (c:=uB w t) (abQ w t) ?_))
     cases h3:uB w t with
     |false=>rfl
     |true=>
      rw [decide_eq_false (show ¬30<op.length by omega)]
      refine g0 (decide_eq_false (by omega)) (gO hs ?_)
      cases h5:decide (szT t>400) with
      |true=>exact jP rfl rfl
      |false=>
       have hl:(KD w t.aB9).1.aCm.length=t.aCa.length:=by
        have:=h3
        unfold uB at this
        rw [Bool.and_eq_true,Bool.and_eq_true,decide_eq_true_eq,decide_eq_true_eq] at this
        exact this.2.2
       have hb:qT (U1 (KD w t.aB9).1.aCm t.aCa):=ZY hU (abP hl ((l8 U).args ht))
       refine g0 rfl (X0 (s:=U1 (KD w t.aB9).1.aCm t.aCa) (ZX (ts:=t.aCa) (ahM hU hw hW) fun i v hi hn=>?_) (iJ (by rw [List.length_nil];omega) (iJ (by simp only [List.nil_append,List.length_singleton];omega) ?_)))
       ·unfold SX
        exact iJ (by show i<t.aCa.length;omega) (iJ (by simpa using hn) rfl)
       ·rw [NO (l:=(KD w t.aB9).1.aCe) (f:=fun c=>mL (fun x=>rE true w l tr (k+1) (op++ [t]) (T6 w t x)) c.aCs) (fun x=>x) fun i hi=>?_]
        ·exact aoX
        ·unfold SY
         have hc:=cC hi
         have hf2:=hf h3 _ hc
         have hg2:=fun x hx=>hW.fl t.aB9 _ hc x hx
         generalize hgc:aR (KD w t.aB9).1.aCe i=c at hf2 hg2 ⊢
         rw [NO (l:=c.aCs) (f:=fun x=>rE true w l tr (k+1) (op++ [t]) (T6 w t x)) (fun x=> .ret x) fun j hj=>?_]
         ·exact ak8
         ·unfold S0
          rw [hgc]
          refine iJ hb (iJ ⟨U,hU,hg2 _ (cC hj)⟩ (gO (hf2 _ (cC hj)) ao2))
end
end Go.Proofs.YtfcoaagbccmahaaGreat.W

namespace Go.Proofs.YtfcoaagbccmahaaGreat.W
open Go.RowKit Go.WalkArith Go.Proofs
attribute [local irreducible] lt KD tT
theorem aeP{f:aG→aH×Int}{l:List aG}{F:Nat→List aH→Option (LR (List aH) (aH×Int))}(hl:l.length≤68719476736)(hs: ∀i v,i<l.length→v.length=i→F i v=some (if(f (aR l i)).2=0 then .next (v++ [(f (aR l i)).1]) else .ret (zEv,(f (aR l i)).2))):loopN F (l.length-0) 0 []=some (if(GZ f l []).2=0 then .inr (GZ f l []).1 else .inl (zEv,(GZ f l []).2)):=by
 have key: ∀k i v,l.length-i=k→i≤l.length→v.length=i→loopN F k i v=some (if(GZ f (l.drop i) v).2=0 then .inr (GZ f (l.drop i) v).1 else .inl (zEv,(GZ f (l.drop i) v).2)):=by
  intro k
  induction k with
  |zero=>
   intro i v hk hi hv
   rw [loopN,List.drop_of_length_le (by omega)]
   rfl
  |succ k ih=>
   intro i v hk hi hv
   have h:i<l.length:=by omega
   rw [loopN,hs i v h hv,o4 h,GZ]
   by_cases h0:(f (aR l i)).2=0
   ·rw [if_pos h0,if_pos h0]
    exact ih (i+1) _ (by omega) (by omega) (by rw [List.length_append,List.length_singleton];omega)
   ·rw [if_neg h0,if_neg h0,if_neg h0]
 have:=key _ 0 [] rfl (Nat.zero_le _) rfl
 rwa [List.drop_zero] at this
theorem ao1{v:List aH}{x:aH}{c:Int}{i:Nat}(hn:v.length=i)(hi:i+1≤68719476736):sw (!decide (c=0)) (some (.ret (zEv,c))) (gd (v.length+([x]:List aH).length≤68719476736) (some (.next (v++ [x]))))=some (if c=0 then(.next (v++ [x]):LR (List aH) (aH×Int)) else .ret (zEv,c)):=by
 by_cases h:c=0
 ·rw [if_pos h];exact g0 (by simp [h]) (iJ (by rw [List.length_singleton];omega) rfl)
 ·rw [if_neg h];exact jP (by simp [h]) rfl
theorem aoW{r:List aH×Int}{o:aC}:so (some (if r.2=0 then(.inr r.1:(aH×Int)⊕List aH) else .inl (zEv,r.2))) (fun v=>some (aH.mk 1 0 o v,0))=some (if r.2=0 then(aH.mk 1 0 o r.1,0) else(zEv,r.2)):=by
 by_cases h:r.2=0
 ·rw [if_pos h,if_pos h];rfl
 ·rw [if_neg h,if_neg h];rfl
theorem nd0{c:Int}(h:c=0):(!decide (c=0))=false:=by rw [decide_eq_true h];rfl
theorem nd1{c:Int}(h: ¬c=0):(!decide (c=0))=true:=by rw [decide_eq_false h];rfl
theorem ahL{w:aF}{n:ByteArray}(h:(tT w n).1.aCG=true):(tT w n).2.2=true:=by
 unfold tT at h ⊢
 cases hq:(List.range' 0 w.aB8.length).findSome? (tQ w n) with
 |none=>rw [hq] at h;cases h
 |some r=>
  obtain⟨i,hi,hq⟩:=List.exists_of_findSome?_eq_some hq
  unfold tQ at hq
  obtain⟨k,hk,hq⟩:=List.exists_of_findSome?_eq_some hq
  split at hq
  ·cases hq;rfl
  ·cases hq
section
variable {U:LB} (hU:U.length≤68719476736) {w:aF} (hw:wt w≤13000000) (hW:WQ (Gd U) w) (l:List aJ)
include hU hw hW
theorem al6: ∀(k:Nat) (n:Int),n+k=12→0≤n→ ∀g:aG,Gd U g.aCd→bP fun fu=>lO fu (bH.mk w l) g n=some (kX false w l k g):=by
 intro k
 induction k with
 |zero=>
  intro n hk hn g hg
  refine bP.succ ((QA (.mk 2 (aR l (tD l g).toNat).aCL (.mk 0 0) []) AM).imp fun fu hs=>?_)
  rw [lO,kX]
  unfold JF
  refine gO (JC fu l g) ?_
  cases h2:decide (tD l g≥0) with
  |true=>exact jP rfl (iJ ⟨of_decide_eq_true h2,UA (of_decide_eq_true h2)⟩ (UE rfl (gO (VC hs _) rfl)))
  |false=>exact g0 rfl (jP (decide_eq_true (by omega)) rfl)
 |succ k ih=>
  intro n hk hn g hg
  have hg':iG g.aCd:=⟨U,hU,hg⟩
  have hsub:bP fun fu=>(f9 w g).2=0→ ∀b∈(b5 w (f9 w g).1).aCq,lO fu (bH.mk w l) (SA w (f9 w g).1 g b) (n+1)=some (kX false w l k (SA w (f9 w g).1 g b)):=by
   by_cases hs:(f9 w g).2=0
   ·exact(bP.list fun b hb=>ih (n+1) (by omega) (by omega) _ (akG (l8 U) hW (JQ hs) hg hb)).imp fun fu h _=>h
   ·exact .all fun fu h=>absurd h hs
  refine bP.succ (((((QA (.mk 2 (aR l (tD l g).toNat).aCL (.mk 0 0) []) AM).and (QA (.mk 4 0 (.mk 0 0) []) AM)).and (an0 hU hw hW l g.aCg 31 [] g.aCd rfl hg)).and (hsub.and (bP.ge 100))).imp fun fu hf=>?_)
  obtain⟨⟨⟨hs,hs4⟩,hau⟩,hf,hfu⟩:=hf
  rw [lO,kX]
  unfold JF
  refine gO (JC fu l g) ?_
  cases h2:decide (tD l g≥0) with
  |true=>exact jP rfl (iJ ⟨of_decide_eq_true h2,UA (of_decide_eq_true h2)⟩ (UE rfl (gO (VC hs _) rfl)))
  |false=>
   refine g0 rfl (g0 (decide_eq_false (by omega)) ?_)
   unfold VR
   cases h3:(tT w g.aCg).1.aCG with
   |true=>
    rw [cond_false,cond_true]
    by_cases h4:rE false w l g.aCg 32 [] g.aCd=0
    ·rw [if_pos h4]
     exact soL (gO (EN fu w g.aCg) (jP (ahL h3) (jP h3 (gO hau (g0 (nd0 h4) rfl)))))
    ·rw [if_neg h4]
     exact soL (gO (EN fu w g.aCg) (jP (ahL h3) (jP h3 (gO hau (jP (nd1 h4) rfl)))))
   |false=>
    rw [cond_false,cond_false]
    refine X0 (s:=((tT w g.aCg).1.aB9,(tT w g.aCg).1.aCi,(tT w g.aCg).1.aCG,(tT w g.aCg).1.aCp,(tT w g.aCg).1.aCv)) (gO (EN fu w g.aCg) ?_) ?_
    ·show sw (tT w g.aCg).2.2 (sw (tT w g.aCg).1.aCG _ _) _=_
     cases(tT w g.aCg).2.2 with
     |true=>exact jP rfl (g0 h3 rfl)
     |false=>exact g0 rfl rfl
    ·show so (L5 fu _ (bH.mk w l) g n (tD l g) _ _ _ _ _) _=_
     unfold L5
     have hC3: ∀r a1 a2 a3 a4 a5,L6 fu r (bH.mk w l) g n (tD l g) a1 a2 a3 a4 a5=some (.inr (decide (g.aCd.aCb=1)||decide (g.aCd.aCb=3))):=fun r a1 a2 a3 a4 a5=>by
      unfold L6
      cases decide (g.aCd.aCb=1)<;>rfl
     rw [hC3]
     cases h4:decide (g.aCd.aCb=1)||decide (g.aCd.aCb=3) with
     |true=>rfl
     |false=>
      rw [cond_false]
      have hP:=ae5 fu hfu w g.aCd.aB9 g.aCg
      have hC2: ∀(X:Unit→Option (aH×Int)) (R:aH×Int),X ()=some R→so (so (some (.inr false:((aH×Int)⊕Unit)⊕Bool)) (fun v24=>sw v24 (some (.inl ((aH.mk 0 0 (aC.mk 0 0) [],1):aH×Int))) (sw (decide ((g.aCd.aCb:Int)=4)) (bd (kY fu w g.aCd.aB9 g.aCg) (fun(x29,x30)=>sw (x30) (bd (gY fu (aH.mk 4 0 (aC.mk 0 0) []) x29) (fun x33=>some (.inl (x33,0)))) (some (.inr ())))) (some (.inr ()))))) X=some (bif decide (g.aCd.aCb=4)&&(jS w 8 g.aCd.aB9 g.aCg).2 then(ab8 (.mk 4 0 (.mk 0 0) []) (jS w 8 g.aCd.aB9 g.aCg).1,0) else R):=fun X R hX=>by
       cases h5:decide (g.aCd.aCb=4) with
       |false=>exact hX
       |true=>
        rw [hP]
        show so (sw (jS w 8 g.aCd.aB9 g.aCg).2 (bd (gY fu _ (jS w 8 g.aCd.aB9 g.aCg).1) _) _) _=_
        cases h6:(jS w 8 g.aCd.aB9 g.aCg).2 with
        |false=>exact hX
        |true=>exact soL (jP rfl (gO (VC hs4 _) rfl))
      refine hC2 _ _ (gO (apO hw hg') ?_)
      by_cases h7:(f9 w g).2=0
      ·rw [if_pos h7]
       have hR:=JQ h7
       have hf:=hf h7
       refine g0 (nd0 h7) (gO (H6 fu w (f9 w g).1 hR) (iJ (sC hw hR) (iJ hg' ?_)))
       have h1:=ab3 hw hR
       have h2:=aI.wt_eq (b5 w (f9 w g).1)
       have h3:=aZ (b5 w (f9 w g).1).aCq
       rw [aeP (l:=(b5 w (f9 w g).1).aCq) (f:=fun x=>kX false w l k (SA w (f9 w g).1 g x)) (by omega) fun i v hi hv=>?_]
       ·exact aoW
       ·unfold VS
        have hm:=cC hi
        refine iJ (ZY hU (wL (l8 U) _ _ hg)) (iJ ⟨U,hU,hW.wh _ hR _ hm⟩ ?_)
        rw [C8 (by omega) (by omega)]
        exact gO (hf _ hm) (ao1 hv (by omega))
      ·rw [if_neg h7]
       exact jP (nd1 h7) rfl
theorem amR: ∀(k:Nat),k≤12→ ∀g:aG,Gd U g.aCd→bP fun fu=>iV fu w l g (k:Int)=some (kX true w l k g):=by
 intro k
 induction k with
 |zero=>
  intro hk g hg
  refine bP.succ ((Q6 (.mk 2 (aR l (tD l g).toNat).aCL (.mk 0 0) []) AM).imp fun fu hs=>?_)
  rw [iV,kX]
  unfold C4
  refine gO (Q8 fu l g) ?_
  cases h2:decide (tD l g≥0) with
  |true=>exact jP rfl (iJ ⟨of_decide_eq_true h2,UA (of_decide_eq_true h2)⟩ (UE rfl (gO (WI hs _) rfl)))
  |false=>exact g0 rfl (jP (decide_eq_true (by omega)) rfl)
 |succ k ih=>
  intro hk g hg
  have hg':iG g.aCd:=⟨U,hU,hg⟩
  have hsub:bP fun fu=>(f9 w g).2=0→ ∀b∈(b5 w (f9 w g).1).aCq,iV fu w l (SA w (f9 w g).1 g b) (k:Int)=some (kX true w l k (SA w (f9 w g).1 g b)):=by
   by_cases hs:(f9 w g).2=0
   ·exact(bP.list fun b hb=>ih (by omega) _ (akG (l8 U) hW (JQ hs) hg hb)).imp fun fu h _=>h
   ·exact .all fun fu h=>absurd h hs
  refine bP.succ (bP.succ ((hsub.and (bP.ge 27000000)).imp2 (bP.succ' (((Q6 (.mk 2 (aR l (tD l g).toNat).aCL (.mk 0 0) []) AM).and (Q6 (.mk 4 0 (.mk 0 0) []) AM)).and (aoL hU hw hW l g.aCg 31 [] g.aCd rfl hg (by simp)))) fun fu hf hf1=>?_))
  obtain⟨hf,hfu⟩:=hf
  obtain⟨⟨hs,hs4⟩,hau⟩:=hf1
  have hau':kE (fu+1) w l g []=some (rE true w l g.aCg 32 [] g.aCd):=by cases g;exact hau
  have hI:oV (fu+1) w l g ((k+1:Nat):Int)=some (if(f9 w g).2=0 then(if(GZ (fun x=>kX true w l k (SA w (f9 w g).1 g x)) (b5 w (f9 w g).1).aCq []).2=0 then(aH.mk 1 0 (f9 w g).1 (GZ (fun x=>kX true w l k (SA w (f9 w g).1 g x)) (b5 w (f9 w g).1).aCq []).1,0) else(zEv,(GZ (fun x=>kX true w l k (SA w (f9 w g).1 g x)) (b5 w (f9 w g).1).aCq []).2)) else(zEv,(f9 w g).2)):=by
   rw [oV]
   unfold M3
   refine gO (ap7 hw hg' (by omega)) ?_
   by_cases h7:(f9 w g).2=0
   ·rw [if_pos h7]
    have hR:=JQ h7
    have hf:=hf h7
    refine g0 (nd0 h7) (UB hR fun p=>iJ (sC hw hR) (iJ hg' ?_))
    have h1:=ab3 hw hR
    have h2:=aI.wt_eq (b5 w (f9 w g).1)
    have h3:=aZ (b5 w (f9 w g).1).aCq
    rw [aeP (l:=(b5 w (f9 w g).1).aCq) (f:=fun x=>kX true w l k (SA w (f9 w g).1 g x)) (by omega) fun i v hi hv=>?_]
    ·exact aoW
    ·unfold S1
     have hm:=cC hi
     refine iJ (ZY hU (wL (l8 U) _ _ hg)) (iJ ⟨U,hU,hW.wh _ hR _ hm⟩ ?_)
     rw [show aX (((k+1:Nat):Int)-1)=(k:Int) by rw [C8 (by omega) (by omega)];omega]
     exact gO (hf _ hm) (ao1 hv (by omega))
   ·rw [if_neg h7]
    exact jP (nd1 h7) rfl
  rw [iV,kX]
  unfold C4
  refine gO (Q8 _ l g) ?_
  cases h2:decide (tD l g≥0) with
  |true=>exact jP rfl (iJ ⟨of_decide_eq_true h2,UA (of_decide_eq_true h2)⟩ (UE rfl (gO (WI hs _) rfl)))
  |false=>
   refine g0 rfl (g0 (decide_eq_false (by omega)) (gO (CT _ w g.aCg (aF.small_wt hw (by omega))) ?_))
   show sw (tT w g.aCg).1.aCG _ _=_
   cases h3:(tT w g.aCg).1.aCG with
   |true=>
    rw [cond_false,cond_true]
    by_cases h4:rE true w l g.aCg 32 [] g.aCd=0
    ·rw [if_pos h4]
     exact jP rfl (gO hau' (g0 (nd0 h4) rfl))
    ·rw [if_neg h4]
     exact jP rfl (gO hau' (jP (nd1 h4) rfl))
   |false=>
    rw [cond_false,cond_false]
    refine g0 rfl ?_
    cases h4:decide (g.aCd.aCb=1) with
    |true=>rfl
    |false=>
     cases h5:decide (g.aCd.aCb=3) with
     |true=>rfl
     |false=>
      refine g0 rfl (g0 rfl ?_)
      show _=some (bif _ then _ else _)
      cases h6:decide (g.aCd.aCb=4) with
      |false=>exact g0 rfl (gO hI rfl)
      |true=>
       refine jP rfl (gO (af0 hw (by omega) g.aCd.aB9 g.aCg) ?_)
       show sw (jS w 8 g.aCd.aB9 g.aCg).2 (bd (jI _ _ (jS w 8 g.aCd.aB9 g.aCg).1) _) _=_
       cases h8:(jS w 8 g.aCd.aB9 g.aCg).2 with
       |false=>exact g0 rfl (gO hI rfl)
       |true=>exact jP rfl (gO (WI hs4 _) rfl)
end
section
variable {w:aF} (hw:wt w≤13000000) {l:List aG} (hl:l.length≤1000) (hb: ∀b∈l,iG b.aCd) {g:aG} (hg:wt g.aCd≤13000000)
include hw hl hb hg
end
def AI(w:aF)(l:List aG)(g:aG):aH×Int:=kX false w (HO w l) 12 g
def qY(w:aF)(l:List aG)(g:aG):aH×Int:=kX true w (HO w l) 12 g
end Go.Proofs.YtfcoaagbccmahaaGreat.W

namespace Go.Proofs.YtfcoaagbccmahaaGreat.W
open Go.RowKit Go.WalkArith Go.Proofs
def Pt{α:Type}(o:Option α)(P:α→Prop):Prop:= ∀r,o=some r→P r
theorem Pt.some{α:Type}{P:α→Prop}{a:α}(h:P a):Pt (some a) P:=fun r e=>by cases e;exact h
theorem Pt.bd{α β:Type}{P:α→Prop}{o:Option β}{f:β→Option α}{Q:β→Prop}(h:Pt o Q)(k: ∀a,Q a→Pt (f a) P):Pt (bd o f) P:=fun r e=>by
 cases o with
 |none=>cases e
 |some a=>exact k a (h a rfl) r e
theorem Pt.any{α β:Type}{P:α→Prop}{o:Option β}{f:β→Option α}(k: ∀a,Pt (f a) P):Pt (Go.Proofs.YtfcoaagbccmahaaGreat.bd o f) P:=Pt.bd (Q:=fun _=>True) (fun _ _=>trivial) fun a _=>k a
theorem Pt.sw{α:Type}{P:α→Prop}{c:Bool}{a b:Option α}(ht:c=true→Pt a P)(hf:c=false→Pt b P):Pt (sw c a b) P:=by
 cases c
 ·exact hf rfl
 ·exact ht rfl
theorem Pt.gd{α:Type}{P:α→Prop}{g:Prop}{a:Option α}(k:Pt a P):Pt (gd g a) P:=fun r e=>by
 by_cases h:g
 ·rw [iJ h rfl] at e;exact k r e
 ·rw [gdF h] at e;cases e
theorem Pt.lt{α β:Type}{P:α→Prop}{x:β}{f:β→Option α}(k: ∀y,y=x→Pt (f y) P):Pt (lt x f) P:=k x rfl
theorem Pt.so{α σ:Type}{P:α→Prop}{o:Option (α⊕σ)}{f:σ→Option α}{E:σ→Prop}(h:Pt o (PS P E))(k: ∀s,E s→Pt (f s) P):Pt (so o f) P:=fun r e=>by
 cases o with
 |none=>cases e
 |some x=>
  cases x with
  |inl y=>cases e;exact h _ rfl
  |inr s=>exact k s (h _ rfl) r e
theorem Pt.loop{α σ:Type}{P:α→Prop}{E:σ→Prop}{F:Nat→σ→Option (LR σ α)}{n:Nat}(I:Nat→σ→Prop)(hE: ∀s,I n s→E s)(hs: ∀i s,i<n→I i s→Pt (F i s) (PL P (I (i+1)) E)): ∀k i s,n-i=k→i≤n→I i s→Pt (loopN F k i s) (PS P E)
 |0,i,s,hk,hi,h=>by
  obtain rfl:i=n:=by omega
  exact Pt.some (hE s h)
 |k+1,i,s,hk,hi,h=>fun r e=>by
  rw [loopN] at e
  cases hq:F i s with
  |none=>rw [hq] at e;cases e
  |some x=>
   rw [hq] at e
   have hx:=hs i s (by omega) h x hq
   cases x with
   |next s'=>exact Pt.loop I hE hs k (i+1) s' (by omega) (by omega) hx r e
   |brk s'=>cases e;exact hx
   |ret x=>cases e;exact hx
theorem Pt.all{γ σ:Type}[Inhabited γ]{P:Bool→Prop}{l:List γ}{F:Nat→σ→Option (LR σ Bool)}{s:σ}(R:γ→Prop)(hs: ∀i v,i<l.length→Pt (F i v) (PL P (fun _=>R (aR l i)) fun _=>False)):Pt (loopN F (l.length-0) 0 s) (PS P fun _=> ∀x∈l,R x):=
 Pt.loop (fun i _=> ∀x∈l.take i,R x) (fun s h=>by rwa [List.take_length] at h) (fun i v hi h r e=>by
  have h1:=hs i v hi r e
  cases r with
  |next s'=>
   intro x hx
   rw [I1 hi] at hx
   rcases List.mem_append.1 hx with h2|h2
   ·exact h x h2
   ·rw [List.mem_singleton.1 h2];exact h1
  |brk s'=>exact h1.elim
  |ret x=>exact h1) _ 0 s rfl (Nat.zero_le _) (by simp)
theorem no{X:Prop}:false=true→X:=fun h=>nomatch h
theorem OQ{b:Bool}(h:(!b)=false):b=true:=by cases b<;>first|rfl|cases h
def RN(k:Int)(n:ByteArray)(m:Nat):Prop:=k=2→PY n=true→m=0
mutual
def NI:aA→Prop
 | .mk k n xs=>RN k n xs.length∧NIL xs
def NIL:List aA→Prop
 | []=>True
 |x::l=>NI x∧NIL l
end
theorem akX: ∀l:List aA,NIL l↔ ∀x∈l,NI x
 | []=>by rw [NIL];simp
 |x::l=>by rw [NIL,akX l,List.forall_mem_cons]
theorem oE:X6 NI RN:=fun k n xs=>by rw [NI,akX]
theorem nR{t:aA}(h:NI t):NI (.mk t.aCb t.aB9 t.aCa):=by cases t;exact h
theorem JK{s:ByteArray}:NI (.mk 2 s []):=(oE _ _ _).2 ⟨fun _ _=>rfl,by simp⟩
theorem DJ{s:ByteArray}{xs:List aA}(h:PY s=false)(hx: ∀x∈xs,NI x):NI (.mk 2 s xs):=(oE _ _ _).2 ⟨fun _ e=>(by rw [h] at e;cases e),hx⟩
theorem V0{k:Int}{s:ByteArray}{xs:List aA}(h:k≠2)(hx: ∀x∈xs,NI x):NI (.mk k s xs):=(oE _ _ _).2 ⟨fun e=>absurd e h,hx⟩
theorem acC{s:ByteArray}:NI (.mk 1 s []):=V0 (by decide) (by simp)
theorem FV{P:aA→Prop}{x:aA}(h:P x): ∀y∈ [x],P y:=fun y hy=>by rw [List.mem_singleton.1 hy];exact h
theorem V1{P:aA→Prop}{x y:aA}(h:P x)(k:P y): ∀z∈ [x,y],P z:=fun z hz=>by
 rcases List.mem_cons.1 hz with rfl|hz
 ·exact h
 ·rw [List.mem_singleton.1 hz];exact k
structure IOk (x:aI):Prop where
 w: ∀b∈x.aCq,NI b.aCd
 n:x.aCq.length≤4
 a:NI x.aCp
def DOk(d:aN):Prop:=PY d.aB9=false∧ ∀c∈d.aCe,∀f∈c.aCs,NI f
def POk(p:aM):Prop:=(∀d∈p.aCh,DOk d)∧ ∀x∈p.aCk,IOk x
def WOk(w:aF):Prop:= ∀p∈w.aB8,POk p
theorem aoH(fu:Nat)(s:ByteArray):Pt (c7 fu s) fun b=>b=true→PY s=false:=by
 unfold c7
 refine Pt.any fun x2=>Pt.sw (fun _=>Pt.some no) fun _=>?_
 unfold xC
 refine Pt.bd (Q:=fun b=>b=false→PY s=false) ?_ fun x5 h=>Pt.sw (fun _=>Pt.some no) fun e r _ _=>h e
 rw [R1]
 refine Pt.bd (Q:=fun b=>b=false→PY s=false) (Pt.some fun h=>?_) fun x h=>Pt.some h
 have h1:s≠dR:=by
  rintro rfl
  cases h
 have h2:s≠dP:=by
  rintro rfl
  cases h
 unfold PY
 rw [decide_eq_false h1,decide_eq_false h2]
 rfl
theorem aoG: ∀fu t,Pt (lT fu t) fun b=>b=true→NI t
 |0,t=>fun r e=>by rw [lT] at e;cases e
 |fu+1,t=>by
  rw [lT]
  unfold J0
  refine Pt.bd (aoH fu _) fun x2 h2=>?_;refine Pt.so (E:=fun v=>v=true→RN t.aCb t.aB9 t.aCa.length) ?_ fun v3 h3=>?_
  ·unfold XK
   refine Pt.so (E:=fun v=>v=true→t.aCb≠2) ?_ fun v4 h4=>?_
   ·unfold XL
    refine Pt.sw (fun h=>Pt.some fun h e=>?_) fun h=>Pt.some fun h e=>?_
    ·have:=of_decide_eq_true h;omega
    ·have:=of_decide_eq_true h;omega
   ·have hz: ∀x:Bool,Pt (sw x (some (.inr (decide ((((t.aCa.length:Nat):Int):Int)=0)))) (some (.inr false)):Option (Bool⊕Bool)) (PS (fun b=>b=true→NI t) fun v=>v=true→RN t.aCb t.aB9 t.aCa.length):=fun x=>
     Pt.sw (fun _=>Pt.some fun h _ _=>by have:=of_decide_eq_true h;omega) fun _=>Pt.some no
    refine Pt.sw (fun e4=>Pt.sw (fun _=>Pt.some fun _ e=>absurd e (h4 e4)) fun _=>Pt.some no) fun _=>Pt.sw (fun e=>Pt.sw (fun _=>Pt.some fun _ e2=>?_) fun _=>Pt.some no) fun _=>Pt.sw (fun _=>Pt.sw (fun e=>Pt.sw (fun _=>Pt.some fun _ _ k=>?_) fun _=>Pt.any hz) fun _=>Pt.any hz) fun _=>Pt.some no
    ·have:=of_decide_eq_true e;omega
    ·rw [h2 e] at k;cases k
  ·refine Pt.so (E:=fun v=>v=true→v3=true∧ ∀x∈t.aCa,NI x) (Pt.loop (fun i v=>v=true→v3=true∧ ∀x∈t.aCa.take i,NI x) (fun s h=>by rwa [List.take_length] at h) (fun i v hi h=>?_) _ 0 v3 rfl (Nat.zero_le _) fun h=>⟨h,by simp⟩) fun v h=>Pt.some fun e=>?_
   ·unfold XM
    refine Pt.sw (fun ev=>Pt.bd (aoG fu _) fun x hx=>Pt.some fun ex=>⟨(h ev).1,fun y hy=>?_⟩) fun _=>Pt.some no
    rw [I1 hi] at hy
    rcases List.mem_append.1 hy with h1|h1
    ·exact(h ev).2 y h1
    ·rw [List.mem_singleton.1 h1];exact hx ex
   ·obtain⟨h1,h2⟩:=h e
    have:=(oE t.aCb t.aB9 t.aCa).2 ⟨h3 h1,h2⟩
    cases t
    exact this
theorem arR(fu:Nat)(t:aA):Pt (iI fu t) fun b=>b=true→NI t:=by
 unfold iI
 exact Pt.any fun _=>Pt.sw (fun _=>Pt.any fun _=>Pt.sw (fun _=>Pt.bd (aoG fu t) fun _ h=>Pt.some h) fun _=>Pt.some no) fun _=>Pt.some no
theorem aiU(fu:Nat)(t:aA)(vs:LB):Pt (l6 fu t vs) fun b=>b=true→NI t:=by
 unfold l6 SW
 exact Pt.any fun _=>Pt.so (Pt.all (fun _=>True) fun _ _ _=>Pt.any fun _=>Pt.sw (fun _=>Pt.some no) fun _=>Pt.some trivial) fun _ _=>Pt.bd (arR fu t) fun _ h=>Pt.some h
theorem as2(fu:Nat)(l:List aA)(vs:LB):Pt (AR fu l vs) fun b=>b=true→ ∀t∈l,NI t:=by
 unfold AR WZ
 exact Pt.so (Pt.all NI fun _ _ _=>Pt.bd (aiU fu _ vs) fun _ h=>Pt.sw (fun _=>Pt.some no) fun e=>Pt.some (h (OQ e))) fun _ h=>Pt.some fun _=>h
theorem apW(fu:Nat)(l:List aG)(vs:LB):Pt (uL fu l vs) fun b=>b=true→(∀x∈l,NI x.aCd)∧l.length≤4:=by
 unfold uL O3
 exact Pt.so (Pt.all (γ:=aG) (fun b=>NI b.aCd) fun _ _ _=>Pt.any fun _=>Pt.sw (fun _=>Pt.some no) fun _=>Pt.bd (aiU fu _ vs) fun _ h=>Pt.sw (fun _=>Pt.some no) fun e=>Pt.any fun _=>Pt.sw (fun _=>Pt.some no) fun _=>Pt.some (h (OQ e))) fun _ h=>Pt.some fun e=>⟨h,by have:=of_decide_eq_true e;omega⟩
theorem arL(fu:Nat)(d:aN):Pt (j8 fu d) fun b=>b=true→DOk d:=by
 unfold j8 zI
 exact Pt.so (Pt.all (γ:=aD) (fun c=> ∀f∈c.aCs,NI f) fun _ _ _=>Pt.sw (fun _=>Pt.some no) fun _=>Pt.bd (as2 fu _ _) fun _ h=>Pt.sw (fun _=>Pt.some no) fun e=>Pt.gd (Pt.some (h (OQ e)))) fun _ h=>Pt.bd (aoH fu _) fun _ hn=>Pt.sw (fun e=>Pt.any fun _=>Pt.sw (fun _=>Pt.sw (fun _=>Pt.any fun _=>Pt.some fun _=>⟨hn e,h⟩) fun _=>Pt.some no) fun _=>Pt.some no) fun _=>Pt.some no
theorem arS(fu:Nat)(t:aA):Pt (oO fu t) fun b=>b=true→NI t:=by
 unfold oO
 refine Pt.sw (fun e=>Pt.sw (fun _=>Pt.some fun h=>?_) fun _=>Pt.some no) fun _=>Pt.some no
 have h1:=of_decide_eq_true e
 have h2:=of_decide_eq_true h
 cases t with
 |mk k n xs=>
  replace h2:((xs.length:Nat):Int)=0:=h2
  replace h1:k=0:=h1
  obtain rfl:xs= []:=List.eq_nil_of_length_eq_zero (by omega)
  exact V0 (by omega) (by simp)
theorem arN(fu:Nat)(x:aI):Pt (j9 fu x) fun b=>b=true→IOk x:=by
 unfold j9
 refine Pt.any fun _=>Pt.sw (fun _=>Pt.some no) fun _=>Pt.any fun _=>Pt.sw (fun _=>Pt.some no) fun _=>Pt.any fun _=>Pt.sw (fun _=>Pt.some no) fun _=>Pt.any fun _=>Pt.sw (fun _=>Pt.some no) fun _=>Pt.sw (fun _=>Pt.some no) fun _=>Pt.bd (apW fu _ _) fun _ hw=>Pt.sw (fun _=>Pt.some no) fun ew=>?_
 obtain⟨h1,h2⟩:=hw (OQ ew)
 unfold zM zL zN
 refine Pt.so (Pt.all (fun _=>True) fun _ _ _=>Pt.any fun _=>Pt.sw (fun _=>Pt.some no) fun _=>Pt.some trivial) fun _ _=>Pt.so (E:=fun _=>NI x.aCp) ?_ fun _ ha=>?_
 ·exact Pt.sw (fun _=>Pt.bd (aiU fu _ _) fun _ h=>Pt.sw (fun _=>Pt.some no) fun e=>Pt.some (h (OQ e))) fun _=>Pt.bd (arS fu _) fun _ h=>Pt.sw (fun _=>Pt.some no) fun e=>Pt.some (h (OQ e))
 ·exact Pt.so (Pt.all (fun _=>True) fun _ _ _=>Pt.lt fun _ _=>Pt.sw (fun _=>Pt.some no) fun _=>Pt.any fun _=>Pt.sw (fun _=>Pt.some no) fun _=>Pt.any fun _=>Pt.sw (fun _=>Pt.some no) fun _=>Pt.gd (Pt.some trivial)) fun _ _=>Pt.any fun _=>Pt.some fun _=>⟨h1,h2,ha⟩
theorem apV(fu:Nat)(p:aM):Pt (yB fu p) fun b=>b=true→POk p:=by
 unfold yB O7 O8 O9 PB
 refine Pt.so (Pt.all (fun _=>True) fun _ _ _=>Pt.any fun _=>Pt.sw (fun _=>Pt.some no) fun _=>Pt.some trivial) fun _ _=>Pt.so (Pt.all DOk fun _ _ _=>Pt.bd (arL fu _) fun _ h=>Pt.sw (fun _=>Pt.some no) fun e=>Pt.some (h (OQ e))) fun _ hd=>Pt.so (Pt.all IOk fun _ _ _=>Pt.lt fun y hy=>Pt.bd (arN fu y) fun _ h=>Pt.sw (fun _=>Pt.some no) fun e=>Pt.some (hy ▸ h (OQ e))) fun _ hi=>Pt.so (Pt.all (fun _=>True) fun _ _ _=>Pt.lt fun _ _=>Pt.any fun _=>Pt.sw (fun _=>Pt.some no) fun _=>Pt.some trivial) fun _ _=>Pt.some fun _=>⟨hd,hi⟩
theorem arO(fu:Nat)(p:aM):Pt (mY fu p) fun b=>b=true→POk p:=by
 unfold mY
 exact Pt.any fun⟨_,_,_,_⟩=>Pt.any fun _=>Pt.sw (fun _=>Pt.some no) fun _=>Pt.any fun _=>Pt.sw (fun _=>Pt.some no) fun _=>Pt.any fun _=>Pt.sw (fun _=>Pt.some no) fun _=>Pt.sw (fun _=>Pt.some no) fun _=>Pt.any fun _=>Pt.sw (fun _=>Pt.any fun _=>Pt.sw (fun _=>Pt.any fun _=>Pt.sw (fun _=>Pt.any fun _=>Pt.sw (fun _=>Pt.bd (apV fu p) fun _ h=>Pt.some h) fun _=>Pt.some no) fun _=>Pt.some no) fun _=>Pt.some no) fun _=>Pt.some no
theorem afR{n:ByteArray}{l:LB}{a:List aU}{f:List aO}:POk (.mk n l a [] [] f):=⟨fun d hd=>by simp [aM.aCh] at hd,fun d hd=>by simp [aM.aCk] at hd⟩
theorem awC(fu:Nat)(x:aB):Pt (mZ fu x) fun r=>POk r.1:=by
 unfold mZ BM
 refine Pt.any fun _=>Pt.any fun⟨_,_⟩=>Pt.any fun _=>Pt.any fun _=>Pt.sw (fun _=>Pt.some afR) fun _=>Pt.sw (fun _=>Pt.some afR) fun _=>Pt.gd (Pt.sw (fun _=>Pt.some afR) fun _=>Pt.gd (Pt.sw (fun _=>Pt.some afR) fun _=>Pt.sw (fun _=>Pt.some afR) fun _=>Pt.so (E:=fun _=>True) ?_ fun⟨_,_,_,_,_,_⟩ _=>Pt.bd (arO fu _) fun _ h=>Pt.sw (fun _=>Pt.some afR) fun e=>Pt.some (h (OQ e))))
 by_cases hn:3≤x.aCc.length
 ·exact Pt.loop (fun _ _=>True) (fun _ _=>trivial) (fun i ⟨_,_,_,_,_,_⟩ _ _=>Pt.any fun⟨_,_⟩=>Pt.sw (fun _=>Pt.some afR) fun _=>Pt.some trivial) _ 3 _ rfl hn trivial
 ·rw [show x.aCc.length-3=0 by omega]
  exact Pt.some trivial
theorem arP(fu:Nat)(s:ByteArray):Pt (pV fu s) fun r=>WOk r.1:=by
 unfold pV EW
 have h0:WOk (.mk []):=fun p hp=>by simp [aF.aB8] at hp
 refine Pt.any fun l=>Pt.so (E:=fun v=> ∀p∈v,POk p) (Pt.loop (fun _ v=> ∀p∈v,POk p) (fun _ h=>h) (fun i v _ h=>?_) _ 0 _ rfl (Nat.zero_le _) (by simp)) fun v h=>Pt.some h
 refine Pt.any fun _=>Pt.sw (fun _=>Pt.some h) fun _=>Pt.bd (Q:=fun r=>POk r.1) ?_ fun⟨p,_⟩ hp=>Pt.sw (fun _=>Pt.some h0) fun _=>Pt.sw (fun _=>Pt.some h0) fun _=>Pt.gd (Pt.some fun q hq=>?_)
 ·unfold tS
  exact Pt.any fun⟨_,_⟩=>Pt.sw (fun _=>Pt.some afR) fun _=>Pt.bd (awC fu _) fun⟨_,_⟩ h=>Pt.some h
 ·rcases List.mem_append.1 hq with h1|h1
  ·exact h q h1
  ·rw [List.mem_singleton.1 h1];exact hp
theorem zH(fu:Nat)(s:ByteArray)(l:List aA):Pt (eK fu s l) fun t=>t= .mk 2 s l:=Pt.gd (Pt.some rfl)
theorem aoF: ∀fu,(∀t,Pt (iF fu t) fun r=>r=t)∧ ∀l,Pt (iE fu l) fun r=>r=l
 |0=>⟨fun t r e=>(by rw [iF] at e;cases e),fun l r e=>(by rw [iE] at e;cases e)⟩
 |fu+1=>by
  obtain⟨h1,h2⟩:=aoF fu
  refine⟨fun t=>?_,fun l=>?_⟩
  ·rw [iF]
   exact Pt.bd (h2 _) fun x hx=>Pt.some (by subst hx;cases t;rfl)
  ·rw [iE]
   unfold yG GJ
   refine Pt.so (E:=fun v=>v=l) (Pt.loop (fun i v=>v=l.take i) (fun s h=>by rwa [List.take_length] at h) (fun i v hi h=>Pt.bd (h1 _) fun x hx=>Pt.gd (Pt.some ?_)) _ 0 _ rfl (Nat.zero_le _) rfl) fun v h=>Pt.some h
   show v++ [x]=l.take (i+1)
   rw [I1 hi,h,hx]
theorem arQ: ∀fu c vs d,Pt (mB fu c vs d) fun r=>NI r.1
 |0,c,vs,d=>fun r e=>by rw [mB] at e;cases e
 |fu+1,c,vs,d=>by
  have L0: ∀ {e:DS} {l:LB},Pt (lt (e.after l.length) fun d5=>lt (e.pick l) fun y=>bd (eK fu y []) fun x=>some (aA.mk x.aCb x.aB9 x.aCa,d5)) fun r=>NI r.1:=Pt.lt fun _ _=>Pt.lt fun _ _=>Pt.bd (zH fu _ _) fun x hx=>Pt.some (nR (hx ▸ JK))
  rw [mB]
  unfold UJ
  have ih:=arQ fu
  have L1: ∀ {e:DS} {k:Int},Pt (lt (e.after ([cA,cA,pW]:LB).length) fun d33=>lt (e.pick ([cA,cA,pW]:LB)) fun y35=>bd (mB fu d33 vs k) fun(x38,x39)=>bd (eK fu y35 ([(aA.mk x38.aCb x38.aB9 x38.aCa)]:List aA)) fun x41=>some ((aA.mk x41.aCb x41.aB9 x41.aCa),x39)) fun r=>NI r.1:=fun {e k}=>Pt.lt fun _ _=>Pt.lt fun y hy=>Pt.bd (ih _ _ _) fun⟨x,_⟩ hx=>Pt.bd (zH fu _ _) fun z hz=>Pt.some (nR (hz ▸ DJ (hy ▸ by
   have:=e.pick_mem (l:= [cA,cA,pW]) (by decide)
   simp only [List.mem_cons,List.not_mem_nil,or_false] at this
   rcases this with h|h|h<;>rw [h]<;>rfl) (FV (nR hx))))
  have L2: ∀ {e:DS} {k k2:Int},Pt (bd (mB fu e vs k) fun(x26,x27)=>bd (mB fu x27 vs k2) fun(x29,x30)=>bd (eK fu l3 ([(aA.mk x26.aCb x26.aB9 x26.aCa),(aA.mk x29.aCb x29.aB9 x29.aCa)]:List aA)) fun x32=>some ((aA.mk x32.aCb x32.aB9 x32.aCa),x30)) fun r=>NI r.1:=Pt.bd (ih _ _ _) fun⟨x,_⟩ hx=>Pt.bd (ih _ _ _) fun⟨y,_⟩ hy=>Pt.bd (zH fu _ _) fun z hz=>Pt.some (nR (hz ▸ DJ rfl (V1 (nR hx) (nR hy))))
  exact Pt.lt fun _ _=>Pt.sw (fun _=>Pt.sw (fun _=>Pt.lt fun _ _=>Pt.gd (Pt.some acC)) fun _=>Pt.sw (fun _=>L0) fun _=>Pt.sw (fun _=>L0) fun _=>Pt.sw (fun _=>L2) fun _=>L1) fun _=>Pt.sw (fun _=>L0) fun _=>Pt.sw (fun _=>L0) fun _=>Pt.sw (fun _=>L2) fun _=>L1
theorem V3(fu:Nat)(s:ByteArray){t:aA}(h:NI t):Pt (uO fu s t) NI:=Pt.bd ((aoF fu).1 _) fun x hx=>Pt.some (V0 (by decide) (FV (hx ▸ h)))
theorem aiT(fu:Nat)(c:DS)(d:Int):Pt (qL fu c d) fun r=>NI r.1:=by
 unfold qL
 exact Pt.bd (arQ fu _ _ _) fun⟨x,_⟩ hx=>Pt.lt fun _ _=>Pt.sw (fun _=>Pt.lt fun _ _=>Pt.lt fun _ _=>Pt.bd (V3 fu _ (nR hx)) fun _ h=>Pt.some (nR h)) fun _=>Pt.sw (fun _=>Pt.bd (V3 fu _ (nR hx)) fun _ h=>Pt.bd (zH fu _ _) fun _ hz=>Pt.some (nR (hz ▸ DJ rfl (FV (nR h))))) fun _=>Pt.sw (fun _=>Pt.some (V0 (by decide) (by simp))) fun _=>Pt.some (nR hx)
theorem apT(fu:Nat)(c:DS):Pt (BV fu c) fun r=>DOk r.1:=by
 unfold BV
 refine Pt.bd (Q:=NI) (Pt.some acC) fun x hx=>Pt.bd (zH fu _ _) fun y hy=>?_
 replace hy:NI y:=hy ▸ DJ rfl (FV hx)
 have h2: ∀ {n m:ByteArray} {l:List aA},(∀f∈l,NI f)→ ∀c∈([.mk n l,.mk m [x,y]]:List aD),∀f∈c.aCs,NI f:=fun {n m l} hl c hc f hf=>by
  rcases List.mem_cons.1 hc with rfl|hc
  ·exact hl f hf
  ·rw [List.mem_singleton.1 hc] at hf
   exact V1 hx hy f hf
 exact Pt.lt fun _ _=>Pt.sw (fun _=>Pt.lt fun _ _=>Pt.lt fun _ _=>Pt.gd (Pt.some ⟨rfl,h2 (by simp)⟩)) fun _=>Pt.sw (fun _=>Pt.lt fun _ _=>Pt.gd (Pt.some ⟨rfl,fun c hc=>h2 (by simp) c (List.mem_of_mem_take (List.mem_of_mem_drop hc))⟩)) fun _=>Pt.sw (fun _=>Pt.bd (aiT fu _ _) fun⟨_,_⟩ hf=>Pt.some ⟨rfl,h2 (FV hf)⟩) fun _=>Pt.sw (fun _=>Pt.lt fun _ _=>Pt.lt fun _ _=>Pt.some ⟨rfl,h2 (by simp)⟩) fun _=>Pt.some ⟨rfl,h2 (by simp)⟩
theorem apU(fu:Nat)(c:DS):Pt (BW fu c) fun r=>IOk r.1:=by
 unfold BW
 refine Pt.lt fun _ _=>Pt.lt fun _ _=>Pt.lt fun _ _=>Pt.any fun _=>Pt.so (E:=fun v=>(∀b∈v.2.2.2.2.1,NI b.aCd)∧v.2.2.2.2.1.length≤1) ?_ fun⟨v9,v10,v11,v12,v13,v14⟩ ⟨h1,h2⟩=>Pt.so (E:=fun v=>NI (.mk v.2.2.1 v.2.2.2.1 v.1)) ?_ fun⟨v38,v35,v36,v37,v34⟩ h3=>?_
 ·unfold SU
  have hb: ∀ {n s:ByteArray},(∀b∈([.mk n (.mk 1 s [])]:List aG),NI b.aCd)∧([.mk n (.mk 1 s [])]:List aG).length≤1:=fun {n s}=>⟨fun b hb=>by rw [List.mem_singleton.1 hb];exact acC,Nat.le_refl _⟩
  have h0:(∀b∈([]:List aG),NI b.aCd)∧([]:List aG).length≤1:=⟨by simp,by simp⟩
  exact Pt.lt fun _ _=>Pt.sw (fun _=>Pt.any fun _=>Pt.some h0) fun _=>Pt.sw (fun _=>Pt.bd (Q:=fun t=>t= .mk 1 f6 []) (Pt.some rfl) fun _ e=>Pt.any fun _=>Pt.some (e ▸ hb)) fun _=>Pt.sw (fun _=>Pt.any fun _=>Pt.any fun _=>Pt.any fun _=>Pt.some h0) fun _=>Pt.bd (Q:=fun t=>t= .mk 1 f6 []) (Pt.some rfl) fun _ e=>Pt.some (e ▸ hb)
 ·unfold SV
  exact Pt.lt fun _ _=>Pt.sw (fun _=>Pt.bd (arQ fu _ _ _) fun⟨_,_⟩ h=>Pt.some (nR h)) fun _=>Pt.some (V0 (show(0:Int)≠2 by decide) (by simp))
 ·have hI: ∀ {a:ByteArray} {v:LB} {t:aA} {b b2:Bool} {m:List aQ},IOk (.mk a v t v13 b b2 (.mk v36 v37 v38) m):=⟨h1,Nat.le_trans h2 (by decide),h3⟩
  refine Pt.lt fun _ _=>Pt.lt fun _ _=>Pt.sw (fun _=>Pt.any fun⟨_,_⟩=>Pt.some hI) fun _=>Pt.sw (fun _=>Pt.lt fun _ _=>Pt.lt fun _ _=>Pt.gd (Pt.some hI)) fun _=>Pt.sw (fun _=>Pt.bd (aiT fu _ _) fun⟨x,_⟩ hx=>Pt.gd (Pt.some ⟨fun b hb=>?_,?_,h3⟩)) fun _=>Pt.sw (fun _=>Pt.any fun⟨_,_⟩=>Pt.some hI) fun _=>Pt.sw (fun _=>Pt.bd (Q:=NI) (Pt.bd (zH fu _ _) fun _ e=>Pt.some (e ▸ JK)) fun _ h=>Pt.some ⟨h1,Nat.le_trans h2 (by decide),h⟩) fun _=>Pt.sw (fun _=>Pt.some hI) fun _=>Pt.some hI
  ·rcases List.mem_append.1 hb with h|h
   ·exact h1 b h
   ·rw [List.mem_singleton.1 h];exact hx
  ·show(v13++_).length≤4
   replace h2:v13.length≤1:=h2
   rw [List.length_append,List.length_singleton]
   omega
theorem adW{α:Type}{P:α→Prop}{l:List α}{x:α}(h: ∀a∈l,P a)(hx:P x): ∀a∈l++ [x],P a:=fun a ha=>by
 rcases List.mem_append.1 ha with h1|h1
 ·exact h a h1
 ·rw [List.mem_singleton.1 h1];exact hx
def PkS(v:List aU×List aN×List aI×List aO×DS):Prop:=(∀d∈v.2.1,DOk d)∧ ∀x∈v.2.2.1,IOk x
theorem arM(fu:Nat)(c:DS):Pt (EZ fu c) fun r=>POk r.1:=by
 unfold EZ W3
 refine Pt.lt fun _ _=>Pt.so (E:=PkS) (Pt.loop (fun _=>PkS) (fun _ h=>h) (fun i ⟨v9,v10,v11,v12,v4⟩ _ ⟨h1,h2⟩=>?_) _ 0 _ rfl (Nat.zero_le _) ⟨by simp,by simp⟩) fun⟨v9,v10,v11,v12,v4⟩ ⟨h1,h2⟩=>?_
 ·exact Pt.lt fun _ _=>Pt.sw (fun _=>Pt.any fun⟨_,_⟩=>Pt.gd (Pt.some ⟨h1,h2⟩)) fun _=>Pt.sw (fun _=>Pt.bd (apT fu _) fun⟨_,_⟩ h=>Pt.gd (Pt.some ⟨adW h1 h,h2⟩)) fun _=>Pt.sw (fun _=>Pt.bd (apU fu _) fun⟨_,_⟩ h=>Pt.gd (Pt.some ⟨h1,adW h2 h⟩)) fun _=>Pt.any fun⟨_,_⟩=>Pt.gd (Pt.some ⟨h1,h2⟩)
 ·exact Pt.lt fun _ _=>Pt.sw (fun _=>Pt.lt fun _ _=>Pt.lt fun _ _=>Pt.some ⟨h1,h2⟩) fun _=>Pt.sw (fun _=>Pt.lt fun _ _=>Pt.lt fun _ _=>Pt.gd (Pt.some ⟨h1,h2⟩)) fun _=>Pt.some ⟨h1,h2⟩
theorem apX(fu:Nat)(c:DS):Pt (yC fu c) fun r=>WOk r.1:=by
 unfold yC GA
 exact Pt.bd (Q:=fun r=>WOk r.1) (Pt.any fun⟨_,_⟩=>Pt.bd (arP fu _) fun⟨_,_⟩ h=>Pt.some h) fun⟨_,_⟩ h=>Pt.lt fun _ _=>Pt.sw (fun _=>Pt.bd (arM fu _) fun⟨_,_⟩ hp=>Pt.gd (Pt.some (adW h hp))) fun _=>Pt.some h
theorem ao4{w:aF}(h:WOk w):WQ NI w:=WQ.of (fun p hp x hx=>⟨((h p hp).2 x hx).w,((h p hp).2 x hx).a⟩) fun p hp d hd=>((h p hp).1 d hd).2
end Go.Proofs.YtfcoaagbccmahaaGreat.W

namespace Go.Proofs.YtfcoaagbccmahaaGreat.W
open Go.RowKit Go.WalkArith Go.Proofs
theorem U0{α:Type}{f g:α→Int}: ∀ {l:List α},(∀x∈l,f x=g x)→mL f l=mL g l
 | [],_=>rfl
 |x::l,h=>by rw [mL,mL,h x (by simp),U0 fun y hy=>h y (List.mem_cons_of_mem _ hy)]
theorem ZV{f g:aG→aH×Int}: ∀ {l:List aG} {out:List aH},(∀x∈l,f x=g x)→GZ f l out=GZ g l out
 | [],_,_=>rfl
 |x::l,out,h=>by rw [GZ,GZ,h x (by simp),ZV fun y hy=>h y (List.mem_cons_of_mem _ hy)]
theorem apF{t:aA}(h:NI t):yL true t=yL false t:=by
 cases t with
 |mk k n xs=>
  have hr:=((oE k n xs).1 h).1
  unfold yL
  show(decide (k=2)&&(PY n&&(true||decide (xs.length=0))))=(decide (k=2)&&(PY n&&(false||decide (xs.length=0))))
  by_cases hk:k=2
  ·cases hn:PY n
   ·rw [Bool.false_and,Bool.false_and]
   ·rw [decide_eq_true (hr hk hn)];rfl
  ·rw [decide_eq_false hk];rfl
section
variable {w:aF} (hW:WQ NI w) (l:List aJ)
include hW
theorem akO(tr:ByteArray): ∀k op t,NI t→rE true w l tr k op t=rE false w l tr k op t
 |0,_,_,_=>rfl
 |k+1,op,t,h=>by
  rw [rE,rE,apF h]
  cases hc:uB w t with
  |false=>rfl
  |true=>rw [U0 fun c hm=>U0 fun f hf=>akO tr k (op++ [t]) _ (aoZ oE hW h hc hm hf)]
theorem ahG: ∀k g,NI g.aCd→kX true w l k g=kX false w l k g
 |0,_,_=>rfl
 |k+1,g,h=>by
  rw [kX,kX,akO hW l _ _ _ _ h]
  by_cases hs:(f9 w g).2=0
  ·rw [ZV fun x hx=>ahG k _ (akG oE hW (JQ hs) h hx)]
  ·rw [if_neg hs,if_neg hs]
end
theorem ar4{w:aF}(hW:WQ NI w)(l:List aG){g:aG}(h:NI g.aCd):qY w l g=AI w l g:=ahG hW _ 12 g h
def KA(w:aF)(t:aA):Prop:= ∃V:LB,V.length≤13000000∧Gd (wM w++V) t
theorem KA.of{w:aF}{t:aA}(h:wt t≤1000000):KA w t:=⟨FW t,by
 have:=acD t
 omega,(Gd.own t (by rw [NP];omega)).mono (fun n h=>List.mem_append_right _ h) t⟩
theorem U8{w:aF}(hw:wt w≤13000000){V:LB}(h:V.length≤13000000):(wM w++V).length≤68719476736:=by
 have:=an7 w
 rw [List.length_append]
 omega
theorem KA.ty{w:aF}(hw:wt w≤13000000){t:aA}(h:KA w t):iG t:=let⟨_,h1,h2⟩:=h;⟨_,U8 hw h1,h2⟩
theorem aiJ{w:aF}{l:List aG}(h:GP w l){g:aG}(hg:KA w g.aCd):bP fun fu=>lO fu (bH.mk w (HO w l)) g 0=some (AI w l g):=by
 obtain⟨V,h1,h2⟩:=hg
 exact al6 (U8 h.hw h1) h.hw (vM h.hw) (HO w l) 12 0 rfl (Int.le_refl _) g h2
theorem ai2(w:aF)(l:List aG)(g:aG)(h:GP w l)(hg:KA w g.aCd):bQ Tryz.prog 19 [(aF.pv w),cK l,(aG.pv g)] (.tup [(aH.pv (qY w l g).1),pI (qY w l g).2]):=by
 obtain⟨V,h1,h2⟩:=hg
 obtain⟨fu,hf⟩:=((amR (U8 h.hw h1) h.hw (vM h.hw) (HO w l) 12 (Nat.le_refl _) g h2).and (bP.ge 27000000)).get
 refine amS fu w l g (qY w l g) ?_
 unfold af2
 exact gO ((ap4 h.hw hf.2 h.hl h.ht).trans (congrArg some (alW h.hw hf.2 l))) (gO hf.1 rfl)
theorem QW: ∀(l:List Int) (e:aH),(ab8 e l).aCb=e.aCb∨(ab8 e l).aCb=3
 | [],e=> .inl rfl
 |n::l,e=>by
  rcases QW l (VV e n) with h|h
  ·exact .inr h
  ·exact .inr h
theorem J8{b:Bool}{w:aF}{l:List aJ}{k:Nat}{g:aG}(h:(kX b w l k g).1.aCb=1):mP w (kX b w l k g).1.aCz:=by
 have hA:(apB l g).aCb≠1:=by
  unfold apB
  rcases QW (aR l (tD l g).toNat).aCM (.mk 2 (aR l (tD l g).toNat).aCL (.mk 0 0) []) with h|h<;>rw [h]
  ·exact show(2:Int)≠1 by decide
  ·decide
 cases k with
 |zero=>
  rw [kX] at h
  cases hq:decide (tD l g≥0) with
  |true=>rw [hq] at h;exact absurd h hA
  |false=>rw [hq] at h;cases h
 |succ k=>
  rw [kX] at h ⊢
  cases h1:decide (tD l g≥0) with
  |true=>rw [h1] at h;exact absurd h hA
  |false=>
   rw [h1,cond_false] at h
   rw [cond_false]
   cases h2:(tT w g.aCg).1.aCG with
   |true=>
    rw [h2,cond_true] at h
    split at h<;>cases h
   |false=>
    rw [h2,cond_false] at h
    rw [cond_false]
    cases h3:decide (g.aCd.aCb=1)||decide (g.aCd.aCb=3) with
    |true=>rw [h3] at h;cases h
    |false=>
     rw [h3,cond_false] at h
     rw [cond_false]
     cases h4:decide (g.aCd.aCb=4)&&(jS w 8 g.aCd.aB9 g.aCg).2 with
     |true=>
      rw [h4,cond_true] at h
      rcases QW (jS w 8 g.aCd.aB9 g.aCg).1 (.mk 4 0 (.mk 0 0) []) with h5|h5<;>rw [h5] at h<;>cases h
     |false=>
      rw [h4,cond_false] at h
      rw [cond_false]
      by_cases h5:(f9 w g).2=0
      ·rw [if_pos h5] at h ⊢
       split at h
       ·rename_i h6
        rw [if_pos h6]
        exact JQ h5
       ·cases h
      ·rw [if_neg h5] at h
       cases h
end Go.Proofs.YtfcoaagbccmahaaGreat.W

namespace Go.Proofs.YtfcoaagbccmahaaGreat.W
set_option maxRecDepth 100000
set_option maxHeartbeats 40000000
noncomputable section
open Tryz Go.RowKit Go.Proofs
attribute [local irreducible] lt
def rV(fu:Nat)(pw:aF)(po:aC)(p5:aA):Option (aA×Bool):=bd (AD fu pw po) fun(x2,x3)=>gd (Tr.bulkL (aA.tr x2.aCn)≤68719476735) (gd (iG p5) (sw (!(x3)) (some ((aA.mk 0 s_ []),false)) (sw (!(x2.aCD)) (some ((aA.mk 0 s_ []),false)) (sw (!(jB x2.aCn p5)) (some ((aA.mk 0 s_ []),false)) (gd (qT (eT x2.aCn p5)) (gd (iG x2.aCp) (some ((jV (eT x2.aCn p5) x2.aCp),true))))))))
theorem TO(fu:Nat)(pw:aF)(po:aC)(p5:aA)(r:aA×Bool)(H:rV fu pw po p5=some r):bQ Tryz.prog 143 [(aF.pv pw),(aC.pv po),(aA.pv p5)] (.tup [(aA.pv r.1),pB r.2]):=by
 refine qJ func143 H (fun C hC H=>?_)
 refine gQ 2 ?_;refine q1 (fD ([aP pw.aB8])) (q1 (fD ([pI po.aCl,pI po.aCz])) (q1 (fD (bR p5)) ?_))
 refine gQ 5 ?_;refine q1 (bZ [aP pw.aB8]) (q1 (bZ [pI po.aCl,pI po.aCz]) (dU H fun x2 x3 z1 H=>(q1 (bE func170 (ZD fu pw po _ z1)) ?_)))
 refine gQ 10 ?_;refine q1 (bZ [pI x2.aCn.aCb,pS x2.aCn.aB9,aT x2.aCn.aCa]) (q1 (bZ [pI p5.aCb,pS p5.aB9,aT p5.aCa]) (cF H fun z4 H=>(cF H fun z5 H=>(q1 (bE func161 (aaO x2.aCn p5 z4 z5)) ?_))))
 refine gQ 12 ?_;refine AL.weak (s':=⟨[(6,.ptr 3 0),(7,pB false),(8,.ptr 4 0),(10,fL (eT x2.aCn p5)),(11,pB (jB x2.aCn p5)),(27,pB (!(x3)))],⟨[some ⟨26,[aP pw.aB8]⟩,some ⟨52,[pI po.aCl,pI po.aCz]⟩,some ⟨30,bR p5⟩,some ⟨30,[pI 0,pS s_,.nil]⟩,some ⟨163,c8 x2⟩],[]⟩⟩) wkA ?_;refine dL 27 H (fun g6 H=>gE 16) fun g6 H=>?_;refine gQ 5 ?_;refine AL.weak (s':=⟨[(6,.ptr 3 0),(7,pB false),(8,.ptr 4 0),(10,fL (eT x2.aCn p5)),(11,pB (jB x2.aCn p5)),(32,pB (!(x2.aCD)))],⟨[some ⟨26,[aP pw.aB8]⟩,some ⟨52,[pI po.aCl,pI po.aCz]⟩,some ⟨30,bR p5⟩,some ⟨30,[pI 0,pS s_,.nil]⟩,some ⟨163,c8 x2⟩],[]⟩⟩) wkA ?_;refine dL 32 H (fun g7 H=>gE 11) fun g7 H=>?_;refine gQ 4 ?_;refine bC H (fun h8 H=>gE 6) fun h8 H=>?_;refine gQ 5 ?_;refine q1 (bZ [pI x2.aCp.aCb,pS x2.aCp.aB9,aT x2.aCp.aCa]) (cF H fun z9 H=>(cF H fun z10 H=>(q1 (bE func110 (Q5 (eT x2.aCn p5) x2.aCp z9 z10)) ?_)))
 exact gE 3
abbrev sU:=aF→(List aG)→aA→Int→Option (aA×Int)
abbrev AT:=aF→(List aG)→(List aA)→Int→Option ((List aA)×Int)
def vL(m:sU):Prop:= ∀(pF:aF) (p7:List aG) (p8:aA) (pJ:Int) (r:aA×Int),m pF p7 p8 pJ=some r→bQ Tryz.prog 91 [(aF.pv pF),cK p7,(aA.pv p8),pI pJ] (.tup [(aA.pv r.1),pI r.2]:PV)
def JT(m:AT):Prop:= ∀(pw:aF) (p4:List aG) (p9:List aA) (pA:Int) (r:(List aA)×Int),m pw p4 p9 pA=some r→bQ Tryz.prog 142 [(aF.pv pw),cK p4,aT p9,pI pA] (.tup [aT r.1,pI r.2]:PV)
def AH(fu:Nat)(p3:sU)(p6:AT)(pF:aF)(p7:List aG)(p8:aA)(pJ:Int):Option (aA×Int):=bd (p6 pF p7 p8.aCa pJ) fun(x2,x3)=>sw (!decide (x3=0)) (some ((aA.mk 0 s_ []),x3)) (bd (lK fu (aA.mk p8.aCb p8.aB9 x2)) fun x6=>sw (decide (x6>400)) (some ((aA.mk 0 s_ []),2)) (sw (!decide (p8.aCb=3)) (some ((aA.mk p8.aCb p8.aB9 x2),0)) (sw (!decide ((x2.length:Int)=1)) (some ((aA.mk p8.aCb p8.aB9 x2),0)) (sw (decide (pJ=0)) (some ((aA.mk 0 s_ []),2)) (gd (0<x2.length) (gd (GP pF p7) (gd (KA pF (aG.aCd (aG.mk p8.aB9 (aR x2 0)))) (sw (!decide (((qY pF p7 (aG.mk p8.aB9 (aR x2 0))).2:Int)=0)) (some ((aA.mk 0 s_ []),1)) (sw (!decide ((((qY pF p7 (aG.mk p8.aB9 (aR x2 0))).1).aCb:Int)=1)) (some ((aA.mk p8.aCb p8.aB9 x2),0)) (bd (rV fu pF (((qY pF p7 (aG.mk p8.aB9 (aR x2 0))).1).aCz) (aR x2 0)) fun(x17,x18)=>sw (!(x18)) (some ((aA.mk 0 s_ []),1)) (bd (p3 pF p7 x17 (aX (pJ-1))) fun(x21,x22)=>some (x21,x22))))))))))))
theorem T5(fu:Nat)(p3:sU)(p6:AT)(pE:vL p3)(pH:JT p6):vL (AH fu p3 p6):=by
 intro pF p7 p8 pJ r H
 refine qJ func91 H (fun C hC H=>?_)
 refine gQ 2 ?_;refine q1 (fD ([aP pF.aB8])) (q1 (fD (bR p8)) ?_)
 refine gQ 5 ?_;refine q1 (bZ [aP pF.aB8]) ?_;refine gQ 4 ?_;refine dU H fun x2 x3 z1 H=>(q1 (bE func142 (pH pF p7 p8.aCa pJ _ z1)) ?_)
 refine gQ 12 ?_;refine bC H (fun h4 H=>gE 7) fun h4 H=>?_;refine gQ 15 ?_;refine q1 (bZ [pI p8.aCb,pS p8.aB9,aT x2]) (bK H fun x6 z5 H=>(q1 (bE func109 (O1 fu (aA.mk p8.aCb p8.aB9 x2) _ z5)) ?_))
 refine gQ 2 ?_;refine bC H (fun h7 H=>gE 6) fun h7 H=>?_;refine gQ 8 ?_;refine AL.weak (s':=⟨[(1,cK p7),(3,pI pJ),(4,.ptr 0 0),(6,.ptr 1 0),(8,.ptr 2 0),(9,pI 0),(10,aT x2),(12,.ptr 3 0),(43,pB (!decide (p8.aCb=3)))],⟨[some ⟨26,[aP pF.aB8]⟩,some ⟨30,bR p8⟩,some ⟨30,[pI 0,pS s_,.nil]⟩,some ⟨30,[pI p8.aCb,pS p8.aB9,aT x2]⟩],[]⟩⟩) wkA ?_;refine dL 43 H (fun g8 H=>?_) fun g8 H=>?_
 ·refine gQ 8 ?_;refine q1 (bZ [pI p8.aCb,pS p8.aB9,aT x2]) ?_;exact gE 3
 refine gQ 5 ?_;refine bC H (fun h9 H=>?_) (fun h9 H=>?_)
 ·refine gQ 2 ?_;refine q1 (bZ [pI p8.aCb,pS p8.aB9,aT x2]) ?_;exact gE 3
 refine gQ 7 ?_;refine bC H (fun h10 H=>gE 6) fun h10 H=>?_;refine gQ 2 ?_;refine cF H fun z11 H=>(cF H fun z12 H=>(cF H fun z13 H=>(dW (dB [4] 0 1 (GO [aP pF.aB8]) (dI [1] bF (dI [6] bW (dB [55] 0 1 uP (dI [10] bF (dI [57] qQ (dI [58] (iK (aA.cs (aR x2 0))) (dI [56,59] r9 (dI [53,54,60] (bE func19 (ai2 pF p7 (aG.mk p8.aB9 (aR x2 0)) z12 z13)) (dI [61] bF ?_)))))))))))))
 iterate 2 refine dI [52] YN ?_
 refine dE [] tAl (lB [13,62] kG (dI [63] bF (dN ?_)))
 refine gQ 6 ?_;refine bC H (fun h14 H=>gE 6) fun h14 H=>?_;refine gQ 8 ?_;refine bC H (fun h15 H=>?_) (fun h15 H=>?_)
 ·refine gQ 2 ?_;refine q1 (bZ [pI p8.aCb,pS p8.aB9,aT x2]) ?_;exact gE 3
 refine gQ 2 ?_;refine dU H fun x17 x18 z16 H=>(dW (dB [4] 0 1 (GO [aP pF.aB8]) (dI [13] bW (dB [73] 0 1 (GO [pI ((((qY pF p7 (aG.mk p8.aB9 (aR x2 0))).1).aCz).aCl),pI ((((qY pF p7 (aG.mk p8.aB9 (aR x2 0))).1).aCz).aCz)]) (dI [10] bF (dI [75] qQ (dI [76] (iK (aA.cs (aR x2 0))) (dI [72,74,77] (bE func143 (TO fu pF (((qY pF p7 (aG.mk p8.aB9 (aR x2 0))).1).aCz) (aR x2 0) _ z16)) (dI [78] bF ?_)))))))))
 iterate 2 refine dI [71] YN ?_
 refine dE [] tAl (lB [15,79] kG (dI [80] bF (dN ?_)))
 refine gQ 6 ?_;refine bC H (fun h19 H=>gE 6) fun h19 H=>?_;refine gQ 3 ?_;refine q1 (bZ [aP pF.aB8]) (q1 bF (q1 (bZ [pI x17.aCb,pS x17.aB9,aT x17.aCa]) ?_))
 refine gQ 2 ?_;refine dU H fun x21 x22 z20 H=>(q1 (bE func91 (pE pF p7 x17 (aX (pJ-1)) _ z20)) ?_)
 exact gE 5
def XB(fu:Nat)(p3:sU)(p6:AT)(pw:aF)(p4:List aG)(p9:List aA)(pA:Int):Nat→((List aA))→Option (LR ((List aA)) ((List aA)×Int)):=fun i1 v3=>bd (p3 pw p4 (aR p9 i1) pA) fun(x7,x8)=>sw (!decide (x8=0)) (some (.ret (([]),x8))) (gd ((v3).length+(([x7]:List aA)).length≤68719476736) (some (.next (v3++([x7]:List aA)))))
def R3(fu:Nat)(p3:sU)(p6:AT)(pw:aF)(p4:List aG)(p9:List aA)(pA:Int):Option ((List aA)×Int):=so (loopN (XB fu p3 p6 pw p4 p9 pA) (p9.length-0) 0 ([])) fun v3=>some (v3,0)
theorem adJ(fu:Nat)(p3:sU)(p6:AT)(pE:vL p3)(pH:JT p6):JT (R3 fu p3 p6):=by
 intro pw p4 p9 pA r H
 refine qJ func142 H (fun C hC H=>?_)
 refine gQ 2 ?_;refine q1 (fD ([aP pw.aB8])) ?_;refine gQ 5 ?_;refine q1 (qP ([]:List aA)) ?_;refine gQ 7 ?_;refine gP 2 (aA.trs_len _) (fun hl4=>?_)
 try dsimp only at hl4
 refine bS (σ:=(List aA)) (fun i1 v3=>⟨[(1,cK p4),(2,aT p9),(3,pI pA),(4,.ptr 0 0),(8,.nil),(9,pI 0),(10,fK v3 0),(11,pN i1)],⟨[some ⟨26,[aP pw.aB8]⟩],[⟨30,3,aA.trs (v3),false⟩]⟩⟩) (fun v3=>⟨[(8,.nil),(9,pI 0),(10,fK v3 0)],⟨[some ⟨26,[aP pw.aB8]⟩],[⟨30,3,aA.trs (v3),false⟩]⟩⟩) (eM H) ?_ ?_
 ·rintro i1 v3 H
  refine gQ 8 ?_;refine cS H (fun h5 h5l H=>?_) (fun h5 H=>?_)
  ·refine gQ 4 ?_;refine dU H fun x7 x8 z6 H=>(dW (dB [4] 0 1 (GO [aP pw.aB8]) (dI [1] bF (dI [2] bF (dI [11] bF (dI [24,25] qQ (dI [26] (iK (aA.cs (aR p9 i1))) (dI [3] bF (dI [22,23,27,28] (bE func91 (pE pw p4 (aR p9 i1) pA _ z6)) (dI [29] bF ?_))))))))))
   iterate 2 refine dI [21] YN ?_
   refine dE [] tAl (lB [12,30] kG (dI [31] bF (dN ?_)))
   refine gQ 6 ?_;refine bC H (fun h9 H=>?_) (fun h9 H=>?_)
   ·refine gQ 2 ?_;refine q1 (qP ([]:List aA)) ?_;exact gE 4
   refine gQ 3 ?_;refine q1 (bZ [pI x7.aCb,pS x7.aB9,aT x7.aCa]) (q1 (hH ([x7]:List aA)) (cF H fun z10 H=>(q1 (lE z10) ?_)))
   exact gE 7
  exact gE 0
 rintro v3 H
 exact gE 6
mutual
def fJ:Nat→aF→(List aG)→aA→Int→Option (aA×Int)
 |0,_,_,_,_=>none
 |fu+1,pF,p7,p8,pJ=>AH fu (fJ fu) (sT fu) pF p7 p8 pJ
def sT:Nat→aF→(List aG)→(List aA)→Int→Option ((List aA)×Int)
 |0,_,_,_,_=>none
 |fu+1,pw,p4,p9,pA=>R3 fu (fJ fu) (sT fu) pw p4 p9 pA
end
theorem XC(fu:Nat):vL (fJ fu)∧JT (sT fu):=by
 induction fu with
 |zero=>exact⟨(fun pF p7 p8 pJ r H=>by simp only [fJ] at H;cases H),(fun pw p4 p9 pA r H=>by simp only [sT] at H;cases H)⟩
 |succ fu ih=>exact⟨(fun pF p7 p8 pJ r H=>by simp only [fJ] at H;exact T5 fu (fJ fu) (sT fu) ih.1 ih.2 pF p7 p8 pJ r H),(fun pw p4 p9 pA r H=>by simp only [sT] at H;exact adJ fu (fJ fu) (sT fu) ih.1 ih.2 pw p4 p9 pA r H)⟩
theorem ZM(fu:Nat):vL (fJ fu):=(XC fu).1
def OY(fu:Nat)(pw:aF)(p4:List aG)(pt:aA):Option (aA×Int):=bd (fJ fu pw p4 pt 12) fun(x2,x3)=>some (x2,x3)
theorem YX(fu:Nat)(pw:aF)(p4:List aG)(pt:aA)(r:aA×Int)(H:OY fu pw p4 pt=some r):bQ Tryz.prog 37 [(aF.pv pw),cK p4,(aA.pv pt)] (.tup [(aA.pv r.1),pI r.2]):=by
 refine qJ func37 H (fun C hC H=>?_)
 refine gQ 2 ?_;refine q1 (fD ([aP pw.aB8])) (q1 (fD (bR pt)) ?_)
 refine gQ 5 ?_;refine q1 (bZ [aP pw.aB8]) (q1 bF (q1 (bZ [pI pt.aCb,pS pt.aB9,aT pt.aCa]) (dU H fun x2 x3 z1 H=>(q1 (bE func91 (ZM fu pw p4 pt 12 _ z1)) ?_))))
 exact gE 5
def rK(fu:Nat)(pw:aF)(po:aC)(p5:aA):Option (aA×Bool):=bd (rM fu pw po) fun(x2,x3)=>sw (!(x3)) (some ((aA.mk 0 s_ []),false)) (sw (!(x2.aCD)) (some ((aA.mk 0 s_ []),false)) (gd (Tr.bulkL (aA.tr x2.aCn)≤68719476735) (gd (iG p5) (sw (!(jB x2.aCn p5)) (some ((aA.mk 0 s_ []),false)) (gd (qT (eT x2.aCn p5)) (gd (iG x2.aCp) (some ((jV (eT x2.aCn p5) x2.aCp),true))))))))
theorem TG(fu:Nat)(pw:aF)(po:aC)(p5:aA)(r:aA×Bool)(H:rK fu pw po p5=some r):bQ Tryz.prog 141 [(aF.pv pw),(aC.pv po),(aA.pv p5)] (.tup [(aA.pv r.1),pB r.2]):=by
 refine qJ func141 H (fun C hC H=>?_)
 refine gQ 2 ?_;refine q1 (fD ([aP pw.aB8])) (q1 (fD ([pI po.aCl,pI po.aCz])) (q1 (fD (bR p5)) ?_))
 refine gQ 5 ?_;refine q1 (bZ [aP pw.aB8]) (q1 (bZ [pI po.aCl,pI po.aCz]) (dU H fun x2 x3 z1 H=>(q1 (bE func118 (u0 fu pw po _ z1)) ?_)))
 refine gQ 13 ?_;refine AL.weak (s':=⟨[(5,.ptr 2 0),(6,.ptr 3 0),(7,pB false),(8,.ptr 4 0),(20,pB (!(x3)))],⟨[some ⟨26,[aP pw.aB8]⟩,some ⟨52,[pI po.aCl,pI po.aCz]⟩,some ⟨30,bR p5⟩,some ⟨30,[pI 0,pS s_,.nil]⟩,some ⟨163,c8 x2⟩],[]⟩⟩) wkA ?_;refine dL 20 H (fun g4 H=>gE 12) fun g4 H=>?_;refine gQ 5 ?_;refine bC H (fun h5 H=>gE 6) fun h5 H=>?_;refine gQ 4 ?_;refine q1 (bZ [pI x2.aCn.aCb,pS x2.aCn.aB9,aT x2.aCn.aCa]) (q1 (bZ [pI p5.aCb,pS p5.aB9,aT p5.aCa]) (cF H fun z6 H=>(cF H fun z7 H=>(q1 (bE func119 (Z4 x2.aCn p5 z6 z7)) ?_))))
 refine gQ 12 ?_;refine bC H (fun h8 H=>gE 6) fun h8 H=>?_;refine gQ 5 ?_;refine q1 (bZ [pI x2.aCp.aCb,pS x2.aCp.aB9,aT x2.aCp.aCa]) (cF H fun z9 H=>(cF H fun z10 H=>(q1 (bE func16 (P9 (eT x2.aCn p5) x2.aCp z9 z10)) ?_)))
 exact gE 3
abbrev qB:=bH→aA→Int→Option (aA×Int)
abbrev lN:=bH→(List aA)→Int→Option ((List aA)×Int)
def tH(m:qB):Prop:= ∀(pG:bH) (p7:aA) (p8:Int) (r:aA×Int),m pG p7 p8=some r→b6 Tryz.prog 90 [.ptr 0 0,(aA.pv p7),pI p8] ⟨[some ⟨145,[aP pG.aCT.aB8,bN pG.aCw]⟩],[]⟩ (fun q t=>q=(.tup [(aA.pv r.1),pI r.2]:PV)∧t=⟨[some ⟨145,[aP pG.aCT.aB8,bN pG.aCw]⟩],[]⟩)
def sH(m:lN):Prop:= ∀(ps:bH) (pl:List aA) (p1:Int) (r:(List aA)×Int),m ps pl p1=some r→b6 Tryz.prog 140 [.ptr 0 0,aT pl,pI p1] ⟨[some ⟨145,[aP ps.aCT.aB8,bN ps.aCw]⟩],[]⟩ (fun q t=>q=(.tup [aT r.1,pI r.2]:PV)∧t=⟨[some ⟨145,[aP ps.aCT.aB8,bN ps.aCw]⟩],[]⟩)
def xA(fu:Nat)(p2:qB)(p0:lN)(pG:bH)(p7:aA)(p8:Int):Option (aA×Int):=bd (p0 pG p7.aCa p8) fun(x2,x3)=>sw (!decide (x3=0)) (some ((aA.mk 0 s_ []),x3)) (bd (lJ fu (aA.mk p7.aCb p7.aB9 x2)) fun x6=>sw (decide (x6>400)) (some ((aA.mk 0 s_ []),2)) (sw (!decide (p7.aCb=3)) (some ((aA.mk p7.aCb p7.aB9 x2),0)) (sw (!decide ((x2.length:Int)=1)) (some ((aA.mk p7.aCb p7.aB9 x2),0)) (sw (decide (p8≥12)) (some ((aA.mk 0 s_ []),2)) (gd (0<x2.length) (bd (lO fu pG (aG.mk p7.aB9 (aR x2 0)) 0) fun(x13,x14)=>sw (!decide (x14=0)) (some ((aA.mk 0 s_ []),1)) (sw (!decide (x13.aCb=1)) (some ((aA.mk p7.aCb p7.aB9 x2),0)) (bd (rK fu pG.aCT x13.aCz (aR x2 0)) fun(x18,x19)=>sw (!(x19)) (some ((aA.mk 0 s_ []),1)) (bd (p2 pG x18 (aX (p8+1))) fun(x22,x23)=>some (x22,x23))))))))))
theorem QL(fu:Nat)(p2:qB)(p0:lN)(pC:tH p2)(pD:sH p0):tH (xA fu p2 p0):=by
 intro pG p7 p8 r H
 refine qJ func90 H (fun C hC H=>?_)
 refine gQ 2 ?_;refine q1 (fD (bR p7)) ?_;refine gQ 9 ?_;refine dU H fun x2 x3 z1 H=>(q1 (eW [0] [] func140 (pD pG p7.aCa p8 _ z1)) ?_)
 refine gQ 12 ?_;refine bC H (fun h4 H=>gE 7) fun h4 H=>?_;refine gQ 15 ?_;refine q1 (bZ [pI p7.aCb,pS p7.aB9,aT x2]) (bK H fun x6 z5 H=>(q1 (bE func105 (OA fu (aA.mk p7.aCb p7.aB9 x2) _ z5)) ?_))
 refine gQ 2 ?_;refine bC H (fun h7 H=>gE 6) fun h7 H=>?_;refine gQ 8 ?_;refine AL.weak (s':=⟨[(0,.ptr 0 0),(2,pI p8),(4,.ptr 1 0),(6,.ptr 2 0),(7,pI 0),(8,aT x2),(10,.ptr 3 0),(40,pB (!decide (p7.aCb=3)))],⟨[some ⟨145,[aP pG.aCT.aB8,bN pG.aCw]⟩,some ⟨30,bR p7⟩,some ⟨30,[pI 0,pS s_,.nil]⟩,some ⟨30,[pI p7.aCb,pS p7.aB9,aT x2]⟩],[]⟩⟩) wkA ?_;refine dL 40 H (fun g8 H=>?_) fun g8 H=>?_
 ·refine gQ 8 ?_;refine q1 (bZ [pI p7.aCb,pS p7.aB9,aT x2]) ?_;exact gE 3
 refine gQ 5 ?_;refine bC H (fun h9 H=>?_) (fun h9 H=>?_)
 ·refine gQ 2 ?_;refine q1 (bZ [pI p7.aCb,pS p7.aB9,aT x2]) ?_;exact gE 3
 refine gQ 7 ?_;refine bC H (fun h10 H=>gE 6) fun h10 H=>?_;refine gQ 2 ?_;refine cF H fun z11 H=>(dU H fun x13 x14 z12 H=>(dWa (dI [0] bF (dI [4] bW (dBz [51] 0 0 uP (dI [8] bF (dI [53] qQ (dI [54] (iK (aA.cs (aR x2 0))) (dI [52,55] r9 ?_)))))))))
 refine dEz [50,56] (fun _ z=>by cases z<;>exact eW [0] [] func61 (aiM fu pG (aG.mk p7.aB9 (aR x2 0)) 0 _ z12)) ?_;refine dI [57] bF ?_
 iterate 2 refine dI [49] YN ?_
 refine dA (fun _ st h=>vAl h atK.h) (dZ 11 [11,58] kG (dI [59] bF (dN ?_)))
 refine gQ 6 ?_;refine bC H (fun h15 H=>gE 6) fun h15 H=>?_;refine gQ 8 ?_;refine bC H (fun h16 H=>?_) (fun h16 H=>?_)
 ·refine gQ 2 ?_;refine q1 (bZ [pI p7.aCb,pS p7.aB9,aT x2]) ?_;exact gE 3
 refine gQ 2 ?_;refine dU H fun x18 x19 z17 H=>(dW (dI [0] bF (dI [68] uQ (dI [69] bW (dB [70] 0 1 (GO [aP pG.aCT.aB8]) (dI [11] bW (dB [72] 0 1 (GO [pI x13.aCz.aCl,pI x13.aCz.aCz]) (dI [8] bF (dI [74] qQ (dI [75] (iK (aA.cs (aR x2 0))) (dI [71,73,76] (bE func141 (TG fu pG.aCT x13.aCz (aR x2 0) _ z17)) (dI [77] bF ?_))))))))))))
 iterate 2 refine dI [67] YN ?_
 refine dE [] tAl (lB [13,78] kG (dI [79] bF (dN ?_)))
 refine gQ 6 ?_;refine bC H (fun h20 H=>gE 6) fun h20 H=>?_;refine gQ 4 ?_;refine q1 (bZ [pI x18.aCb,pS x18.aB9,aT x18.aCa]) ?_;refine gQ 2 ?_;refine dU H fun x22 x23 z21 H=>(q1 (eW [0] [] func90 (pC pG x18 (aX (p8+1)) _ z21)) ?_)
 exact gE 5
def CL(fu:Nat)(p2:qB)(p0:lN)(ps:bH)(pl:List aA)(p1:Int):Nat→((List aA))→Option (LR ((List aA)) ((List aA)×Int)):=fun i1 v3=>bd (p2 ps (aR pl i1) p1) fun(x7,x8)=>sw (!decide (x8=0)) (some (.ret ([],x8))) (gd ((v3).length+(([x7]:List aA)).length≤68719476736) (some (.next (v3++([x7]:List aA)))))
def wD(fu:Nat)(p2:qB)(p0:lN)(ps:bH)(pl:List aA)(p1:Int):Option ((List aA)×Int):=so (loopN (CL fu p2 p0 ps pl p1) (pl.length-0) 0 ([])) fun v3=>some (v3,0)
theorem KG(fu:Nat)(p2:qB)(p0:lN)(pC:tH p2)(pD:sH p0):sH (wD fu p2 p0):=by
 intro ps pl p1 r H
 refine qJ func140 H (fun C hC H=>?_)
 refine gQ 7 ?_;refine q1 (qP ([]:List aA)) ?_;refine gQ 9 ?_;refine gP 1 (aA.trs_len _) (fun hl4=>?_)
 try dsimp only at hl4
 refine bS (σ:=(List aA)) (fun i1 v3=>⟨[(0,.ptr 0 0),(2,pI p1),(6,.nil),(7,pI 0),(8,fK v3 0),(14,aT pl),(15,pN pl.length),(16,pN i1)],⟨[some ⟨145,[aP ps.aCT.aB8,bN ps.aCw]⟩],[⟨30,3,aA.trs (v3),false⟩]⟩⟩) (fun v3=>⟨[(6,.nil),(7,pI 0),(8,fK v3 0)],⟨[some ⟨145,[aP ps.aCT.aB8,bN ps.aCw]⟩],[⟨30,3,aA.trs (v3),false⟩]⟩⟩) (eM H) ?_ ?_
 ·rintro i1 v3 H
  refine gQ 5 ?_;refine cS H (fun h5 h5l H=>?_) (fun h5 H=>?_)
  ·refine gQ 6 ?_;refine q1 (iK (aA.cs (aR pl i1))) ?_;refine gQ 6 ?_;refine q1 (bZ [pI ((aR pl i1).aCb),pS ((aR pl i1).aB9),aT ((aR pl i1).aCa)]) (q1 bF (dU H fun x7 x8 z6 H=>(q1 (eW [0] [] func90 (pC ps (aR pl i1) p1 _ z6)) ?_)))
   refine gQ 13 ?_;refine bC H (fun h9 H=>gE 6) fun h9 H=>?_;refine gQ 3 ?_;refine q1 (bZ [pI x7.aCb,pS x7.aB9,aT x7.aCa]) (q1 (hH ([x7]:List aA)) (cF H fun z10 H=>(q1 (lE z10) ?_)))
   exact gE 6
  exact gE 0
 rintro v3 H
 exact gE 6
mutual
def eN:Nat→bH→aA→Int→Option (aA×Int)
 |0,_,_,_=>none
 |fu+1,pG,p7,p8=>xA fu (eN fu) (gU fu) pG p7 p8
def gU:Nat→bH→(List aA)→Int→Option ((List aA)×Int)
 |0,_,_,_=>none
 |fu+1,ps,pl,p1=>wD fu (eN fu) (gU fu) ps pl p1
end
theorem TM(fu:Nat):tH (eN fu)∧sH (gU fu):=by
 induction fu with
 |zero=>exact⟨(fun pG p7 p8 r H=>by simp only [eN] at H;cases H),(fun ps pl p1 r H=>by simp only [gU] at H;cases H)⟩
 |succ fu ih=>exact⟨(fun pG p7 p8 r H=>by simp only [eN] at H;exact QL fu (eN fu) (gU fu) ih.1 ih.2 pG p7 p8 r H),(fun ps pl p1 r H=>by simp only [gU] at H;exact KG fu (eN fu) (gU fu) ih.1 ih.2 ps pl p1 r H)⟩
theorem VQ(fu:Nat):tH (eN fu):=(TM fu).1
def N8(fu:Nat)(pw:aF)(p4:List aG)(pt:aA):Option (aA×Int):=gd (GP pw p4) (bd (eN fu (bH.mk pw (HO pw p4)) pt 0) fun(x3,x4)=>some (x3,x4))
theorem YE(fu:Nat)(pw:aF)(p4:List aG)(pt:aA)(r:aA×Int)(H:N8 fu pw p4 pt=some r):bQ Tryz.prog 36 [(aF.pv pw),cK p4,(aA.pv pt)] (.tup [(aA.pv r.1),pI r.2]):=by
 refine qJ func36 H (fun C hC H=>?_)
 refine gQ 2 ?_;refine q1 (fD ([aP pw.aB8])) (q1 (fD (bR pt)) ?_)
 refine gQ 4 ?_;refine cF H fun z1 H=>(dU H fun x3 x4 z2 H=>(dW (dD [3] (bZ [aP pw.aB8]) (dI [1] bF (dE [8,9] (bB.callNew (ps:= [_,_]) rfl rfl func50 (by kernel_rfl) rfl rfl jK rfl rfl (acB pw p4 z1)) (dB [5] 0 1 (GO [pI pt.aCb,pS pt.aB9,aT pt.aCa]) (dE [10,11] (eW [3] [] func90 (VQ fu (bH.mk pw (HO pw p4)) pt 0 _ z2)) ?_)))))))
 iterate 2 refine dI [12] YN ?_
 refine lB [6,13] kG (dI [14] bF (dN ?_))
 exact gE 0
end
end Go.Proofs.YtfcoaagbccmahaaGreat.W

namespace Go.Proofs.YtfcoaagbccmahaaGreat.W
open Go.RowKit Go.WalkArith Go.Proofs
attribute [local irreducible] lt
def zT:aA:= .mk 0 s_ []
def LS(w:aF)(o:aC)(h:aA):aA×Bool:=
 if(b5 w o).aCD=true then(if jB (b5 w o).aCn h=true then(jV (eT (b5 w o).aCn h) (b5 w o).aCp,true) else(zT,false)) else(zT,false)
def K8(w:aF)(f:aG→aH×Int)(r:Option (aA→aA×Int))(k:Int)(n:ByteArray)(xs:List aA):aA×Int:=match r with
 |none=>(zT,2)
 |some r=>if(f (.mk n (aR xs 0))).2=0 then(if(f (.mk n (aR xs 0))).1.aCb=1 then(if(LS w (f (.mk n (aR xs 0))).1.aCz (aR xs 0)).2=true then r (LS w (f (.mk n (aR xs 0))).1.aCz (aR xs 0)).1 else(zT,1)) else(.mk k n xs,0)) else(zT,1)
def CN(w:aF)(f:aG→aH×Int)(r:Option (aA→aA×Int))(k:Int)(n:ByteArray)(xs:List aA):aA×Int:=
 if 400<szT (.mk k n xs) then(zT,2) else if k=3∧xs.length=1 then K8 w f r k n xs else(.mk k n xs,0)
def nl(f:aA→aA×Int):List aA→List aA×Int
 | []=>([],0)
 |x::l=>if(f x).2=0 then(if(nl f l).2=0 then((f x).1::(nl f l).1,0) else([],(nl f l).2)) else([],(f x).2)
mutual
def eG(w:aF)(f:aG→aH×Int)(r:Option (aA→aA×Int)):aA→aA×Int
 | .mk k n xs=>if(OO w f r xs).2=0 then CN w f r k n (OO w f r xs).1 else(zT,(OO w f r xs).2)
def OO(w:aF)(f:aG→aH×Int)(r:Option (aA→aA×Int)):List aA→List aA×Int
 | []=>([],0)
 |x::l=>if(eG w f r x).2=0 then(if(OO w f r l).2=0 then((eG w f r x).1::(OO w f r l).1,0) else([],(OO w f r l).2)) else([],(eG w f r x).2)
end
def xT(w:aF)(f:aG→aH×Int):Nat→aA→aA×Int
 |0=>eG w f none
 |k+1=>eG w f (some (xT w f k))
section
variable {w:aF} {f:aG→aH×Int} {r:Option (aA→aA×Int)}
theorem afO: ∀l,OO w f r l=nl (eG w f r) l
 | []=>by rw [OO,nl]
 |x::l=>by rw [OO,nl,afO l]
theorem rR(k:Int)(n:ByteArray)(xs:List aA):eG w f r (.mk k n xs)=if(nl (eG w f r) xs).2=0 then CN w f r k n (nl (eG w f r) xs).1 else(zT,(nl (eG w f r) xs).2):=by rw [eG,afO]
end
theorem MK{f:aA→aA×Int}: ∀ {l:List aA},(nl f l).2=0→(nl f l).1=l.map (fun x=>(f x).1)∧ ∀x∈l,(f x).2=0
 | [],_=>⟨rfl,by simp⟩
 |x::l,h=>by
  rw [nl] at h ⊢
  by_cases h1:(f x).2=0
  ·rw [if_pos h1] at h ⊢
   by_cases h2:(nl f l).2=0
   ·obtain⟨h3,h4⟩:=MK h2
    rw [if_pos h2,h3]
    refine⟨rfl,fun y hy=>?_⟩
    rcases List.mem_cons.1 hy with rfl|hy
    ·exact h1
    ·exact h4 y hy
   ·rw [if_neg h2] at h;exact absurd h h2
  ·rw [if_neg h1] at h;exact absurd h h1
theorem akZ{f g:aA→aA×Int}: ∀ {l:List aA},(∀x∈l,f x=g x)→nl f l=nl g l
 | [],_=>rfl
 |x::l,h=>by rw [nl,nl,h x (by simp),akZ fun y hy=>h y (List.mem_cons_of_mem _ hy)]
theorem aqQ{f:aA→aA×Int}: ∀ {l:List aA},(∀x∈l,f x=(x,0))→nl f l=(l,0)
 | [],_=>rfl
 |x::l,h=>by
  rw [nl,h x (by simp),aqQ fun y hy=>h y (List.mem_cons_of_mem _ hy)]
  rfl
section
variable {Q:aA→Prop} {R:Int→ByteArray→Nat→Prop} (hQ:X6 Q R) {w:aF} (hW:WQ Q w) {f:aG→aH×Int} (hf: ∀g,(f g).1.aCb=1→mP w (f g).1.aCz)
include hQ hW
theorem abN{o:aC}(ho:mP w o){h:aA}(hh:Q h)(h0:(LS w o h).2=true):Q (LS w o h).1:=by
 unfold LS at h0 ⊢
 by_cases h1:(b5 w o).aCD=true
 ·rw [if_pos h1] at h0 ⊢
  by_cases h2:jB (b5 w o).aCn h=true
  ·rw [if_pos h2]
   exact UZ hQ (wL hQ _ _ hh) _ (hW.ac o ho)
  ·rw [if_neg h2] at h0;cases h0
 ·rw [if_neg h1] at h0;cases h0
include hf
theorem apR{r:Option (aA→aA×Int)}(hr: ∀r',r=some r'→ ∀t,Q t→(r' t).2=0→Q (r' t).1){k:Int}{n:ByteArray}{xs:List aA}(h:Q (.mk k n xs))(h0:(CN w f r k n xs).2=0):Q (CN w f r k n xs).1:=by
 unfold CN at h0 ⊢
 by_cases h1:400<szT (.mk k n xs)
 ·rw [if_pos h1] at h0;cases h0
 ·rw [if_neg h1] at h0 ⊢
  by_cases h2:k=3∧xs.length=1
  ·rw [if_pos h2] at h0 ⊢
   have hx:Q (aR xs 0):=hQ.args h _ (cC (show 0<xs.length by omega))
   cases r with
   |none=>cases h0
   |some r=>
    unfold K8 at h0 ⊢
    dsimp only at h0 ⊢
    by_cases h3:(f (.mk n (aR xs 0))).2=0
    ·rw [if_pos h3] at h0 ⊢
     by_cases h4:(f (.mk n (aR xs 0))).1.aCb=1
     ·rw [if_pos h4] at h0 ⊢
      by_cases h5:(LS w (f (.mk n (aR xs 0))).1.aCz (aR xs 0)).2=true
      ·rw [if_pos h5] at h0 ⊢
       exact hr r rfl _ (abN hQ hW (hf _ h4) hx h5) h0
      ·rw [if_neg h5] at h0;cases h0
     ·rw [if_neg h4];exact h
    ·rw [if_neg h3] at h0;cases h0
  ·rw [if_neg h2];exact h
theorem OP{r:Option (aA→aA×Int)}(hr: ∀r',r=some r'→ ∀t,Q t→(r' t).2=0→Q (r' t).1): ∀t,Q t→(eG w f r t).2=0→Q (eG w f r t).1:=by
 refine aA.ind fun k n xs ih h h0=>?_
 rw [rR] at h0 ⊢
 by_cases h1:(nl (eG w f r) xs).2=0
 ·rw [if_pos h1] at h0 ⊢
  obtain⟨h2,h3⟩:=MK h1
  have h4:=(hQ k n xs).1 h
  refine apR hQ hW hf hr ((hQ _ _ _).2 ⟨by rw [h2,List.length_map];exact h4.1,fun y hy=>?_⟩) h0
  rw [h2] at hy
  obtain⟨x,hx,rfl⟩:=List.mem_map.1 hy
  exact ih x hx (h4.2 x hx) (h3 x hx)
 ·rw [if_neg h1] at h0;exact absurd h0 h1
theorem ON: ∀k t,Q t→(xT w f k t).2=0→Q (xT w f k t).1
 |0=>OP hQ hW hf fun _ e=>nomatch e
 |k+1=>OP hQ hW hf fun r' e=>by cases e;exact ON k
end
inductive Nrm (f:aG→aH×Int):aA→Prop
 |mk {k:Int} {n:ByteArray} {xs:List aA} (h: ∀x∈xs,Nrm f x) (hs: ¬400<szT (.mk k n xs)) (hp:k=3→xs.length=1→(f (.mk n (aR xs 0))).2=0∧(f (.mk n (aR xs 0))).1.aCb≠1):Nrm f (.mk k n xs)
section
variable {w:aF} {f:aG→aH×Int}
theorem aoC{r:aA→aA×Int}: ∀t,Nrm f t→eG w f (some r) t=(t,0):=by
 refine aA.ind fun k n xs ih h=>?_
 cases h with
 |mk h hs hp=>
  rw [rR,aqQ fun x hx=>ih x hx (h x hx),if_pos rfl]
  unfold CN
  rw [if_neg hs]
  by_cases h2:k=3∧xs.length=1
  ·obtain⟨h3,h4⟩:=hp h2.1 h2.2
   rw [if_pos h2]
   unfold K8
   dsimp only
   rw [if_pos h3,if_neg h4]
  ·rw [if_neg h2]
theorem aaM{r:Option (aA→aA×Int)}(hr: ∀r',r=some r'→ ∀t,(r' t).2=0→Nrm f (r' t).1): ∀t,(eG w f r t).2=0→Nrm f (eG w f r t).1:=by
 refine aA.ind fun k n xs ih h0=>?_
 rw [rR] at h0 ⊢
 by_cases h1:(nl (eG w f r) xs).2=0
 ·rw [if_pos h1] at h0 ⊢
  obtain⟨h2,h3⟩:=MK h1
  have h4: ∀y∈(nl (eG w f r) xs).1,Nrm f y:=fun y hy=>by
   rw [h2] at hy
   obtain⟨x,hx,rfl⟩:=List.mem_map.1 hy
   exact ih x hx (h3 x hx)
  generalize(nl (eG w f r) xs).1=ys at h0 h4 ⊢
  unfold CN at h0 ⊢
  by_cases h5:400<szT (.mk k n ys)
  ·rw [if_pos h5] at h0;cases h0
  ·rw [if_neg h5] at h0 ⊢
   by_cases h6:k=3∧ys.length=1
   ·rw [if_pos h6] at h0 ⊢
    cases r with
    |none=>cases h0
    |some r=>
     unfold K8 at h0 ⊢
     dsimp only at h0 ⊢
     by_cases h7:(f (.mk n (aR ys 0))).2=0
     ·rw [if_pos h7] at h0 ⊢
      by_cases h8:(f (.mk n (aR ys 0))).1.aCb=1
      ·rw [if_pos h8] at h0 ⊢
       by_cases h9:(LS w (f (.mk n (aR ys 0))).1.aCz (aR ys 0)).2=true
       ·rw [if_pos h9] at h0 ⊢
        exact hr r rfl _ h0
       ·rw [if_neg h9] at h0;cases h0
      ·rw [if_neg h8]
       exact .mk h4 h5 fun _ _=>⟨h7,h8⟩
     ·rw [if_neg h7] at h0;cases h0
   ·rw [if_neg h6]
    exact .mk h4 h5 fun a b=>absurd ⟨a,b⟩ h6
 ·rw [if_neg h1] at h0;exact absurd h0 h1
theorem aaK: ∀k t,(xT w f k t).2=0→Nrm f (xT w f k t).1
 |0=>aaM fun _ e=>nomatch e
 |k+1=>aaM fun r' e=>by cases e;exact aaK k
theorem aaL{r:Option (aA→aA×Int)}(hr: ∀r',r=some r'→ ∀t,(r' t).2≠0→(r' t).1=zT): ∀t,(eG w f r t).2≠0→(eG w f r t).1=zT:=by
 refine aA.ind fun k n xs _ h0=>?_
 rw [rR] at h0 ⊢
 by_cases h1:(nl (eG w f r) xs).2=0
 ·rw [if_pos h1] at h0 ⊢
  generalize(nl (eG w f r) xs).1=ys at h0 ⊢
  unfold CN at h0 ⊢
  by_cases h5:400<szT (.mk k n ys)
  ·rw [if_pos h5]
  ·rw [if_neg h5] at h0 ⊢
   by_cases h6:k=3∧ys.length=1
   ·rw [if_pos h6] at h0 ⊢
    cases r with
    |none=>rfl
    |some r=>
     unfold K8 at h0 ⊢
     dsimp only at h0 ⊢
     by_cases h7:(f (.mk n (aR ys 0))).2=0
     ·rw [if_pos h7] at h0 ⊢
      by_cases h8:(f (.mk n (aR ys 0))).1.aCb=1
      ·rw [if_pos h8] at h0 ⊢
       by_cases h9:(LS w (f (.mk n (aR ys 0))).1.aCz (aR ys 0)).2=true
       ·rw [if_pos h9] at h0 ⊢
        exact hr r rfl _ h0
       ·rw [if_neg h9]
      ·rw [if_neg h8] at h0;exact absurd rfl h0
     ·rw [if_neg h7]
   ·rw [if_neg h6] at h0;exact absurd rfl h0
 ·rw [if_neg h1]
theorem aaJ: ∀k t,(xT w f k t).2≠0→(xT w f k t).1=zT
 |0=>aaL fun _ e=>nomatch e
 |k+1=>aaL fun r' e=>by cases e;exact aaJ k
theorem afQ{r:Option (aA→aA×Int)}: ∀t,hpT t=false→(eG w f r t).2=0→(eG w f r t).1=t:=by
 refine aA.ind fun k n xs ih hp h0=>?_
 rw [rR] at h0 ⊢
 rw [hpT,Bool.or_eq_false_iff,N4] at hp
 by_cases h1:(nl (eG w f r) xs).2=0
 ·rw [if_pos h1] at h0 ⊢
  obtain⟨h2,h3⟩:=MK h1
  have h4:(nl (eG w f r) xs).1=xs:=by
   rw [h2]
   exact(List.map_congr_left fun x hx=>ih x hx (by simpa using List.any_eq_false.1 hp.1 x hx) (h3 x hx)).trans (List.map_id _)
  rw [h4] at h0 ⊢
  unfold CN at h0 ⊢
  by_cases h5:400<szT (.mk k n xs)
  ·rw [if_pos h5] at h0;cases h0
  ·rw [if_neg h5,if_neg fun h=>absurd h.1 (of_decide_eq_false hp.2)]
 ·rw [if_neg h1] at h0;exact absurd h0 h1
theorem aoA: ∀k t,hpT t=false→(xT w f k t).2=0→(xT w f k t).1=t
 |0=>afQ
 |k+1=>afQ
end
section
variable {w:aF} (hW:WQ NI w) {f g:aG→aH×Int} (hf: ∀g,(f g).1.aCb=1→mP w (f g).1.aCz) (hs: ∀b:aG,NI b.aCd→f b=g b)
include hW hf hs
theorem an9{r r':Option (aA→aA×Int)}(hr:r=none∧r'=none∨ ∃p q,r=some p∧r'=some q∧ ∀t,NI t→p t=q t)(k:Int)(n:ByteArray){xs:List aA}(hx: ∀x∈xs,NI x):CN w f r k n xs=CN w g r' k n xs:=by
 unfold CN
 by_cases h1:400<szT (.mk k n xs)
 ·rw [if_pos h1,if_pos h1]
 ·rw [if_neg h1,if_neg h1]
  by_cases h2:k=3∧xs.length=1
  ·rw [if_pos h2,if_pos h2]
   have hx:=hx _ (cC (show 0<xs.length by omega))
   rcases hr with⟨rfl,rfl⟩|⟨p,q,rfl,rfl,hr⟩
   ·rfl
   ·unfold K8
    dsimp only
    rw [← hs (.mk n (aR xs 0)) hx]
    by_cases h3:(f (.mk n (aR xs 0))).2=0
    ·rw [if_pos h3,if_pos h3]
     by_cases h4:(f (.mk n (aR xs 0))).1.aCb=1
     ·rw [if_pos h4,if_pos h4]
      by_cases h5:(LS w (f (.mk n (aR xs 0))).1.aCz (aR xs 0)).2=true
      ·rw [if_pos h5,if_pos h5]
       exact hr _ (abN oE hW (hf _ h4) hx h5)
      ·rw [if_neg h5,if_neg h5]
     ·rw [if_neg h4,if_neg h4]
    ·rw [if_neg h3,if_neg h3]
  ·rw [if_neg h2,if_neg h2]
theorem afP{r r':Option (aA→aA×Int)}(hr:r=none∧r'=none∨ ∃p q,r=some p∧r'=some q∧ ∀t,NI t→p t=q t)(hq: ∀p,r=some p→ ∀t,NI t→(p t).2=0→NI (p t).1): ∀t,(∀x∈t.aCa,NI x)→eG w f r t=eG w g r' t:=by
 refine aA.ind fun k n xs ih hx=>?_
 replace hx: ∀x∈xs,NI x:=hx
 rw [rR,rR,← akZ fun x h=>ih x h (oE.args (hx x h))]
 by_cases h1:(nl (eG w f r) xs).2=0
 ·rw [if_pos h1,if_pos h1]
  obtain⟨h2,h3⟩:=MK h1
  refine an9 hW hf hs hr k n fun y hy=>?_
  rw [h2] at hy
  obtain⟨x,h,rfl⟩:=List.mem_map.1 hy
  exact OP oE hW hf hq x (hx x h) (h3 x h)
 ·rw [if_neg h1,if_neg h1]
theorem afN: ∀k t,(∀x∈t.aCa,NI x)→xT w f k t=xT w g k t
 |0=>afP hW hf hs (.inl ⟨rfl,rfl⟩) fun _ e=>nomatch e
 |k+1=>afP hW hf hs (.inr ⟨_,_,rfl,rfl,fun t h=>afN k t (oE.args h)⟩) fun r' e=>by cases e;exact ON oE hW hf k
end
theorem akY{f:aA→aA×Int}{l:List aA}{F:Nat→List aA→Option (LR (List aA) (List aA×Int))}(hs: ∀i v,i<l.length→v.length=i→F i v=some (if(f (aR l i)).2=0 then .next (v++ [(f (aR l i)).1]) else .ret ([],(f (aR l i)).2))):so (loopN F (l.length-0) 0 []) (fun v=>some (v,(0:Int)))=some (nl f l):=by
 have key: ∀k i v,l.length-i=k→i≤l.length→v.length=i→loopN F k i v=some (if(nl f (l.drop i)).2=0 then .inr (v++(nl f (l.drop i)).1) else .inl ([],(nl f (l.drop i)).2)):=by
  intro k
  induction k with
  |zero=>
   intro i v hk hi hv
   rw [loopN,List.drop_of_length_le (by omega)]
   exact congrArg (fun x=>some (Sum.inr x)) (List.append_nil v).symm
  |succ k ih=>
   intro i v hk hi hv
   have h:i<l.length:=by omega
   rw [loopN,hs i v h hv,o4 h,nl]
   by_cases h0:(f (aR l i)).2=0
   ·rw [if_pos h0,if_pos h0]
    refine(ih (i+1) _ (by omega) (by omega) (by rw [List.length_append,List.length_singleton];omega)).trans ?_
    by_cases h1:(nl f (l.drop (i+1))).2=0
    ·rw [if_pos h1,if_pos h1,if_pos rfl,List.append_assoc];rfl
    ·rw [if_neg h1,if_neg h1,if_neg h1]
   ·rw [if_neg h0,if_neg h0,if_neg h0]
 have:=key _ 0 [] rfl (Nat.zero_le _) rfl
 rw [List.drop_zero] at this
 rw [this]
 by_cases h:(nl f l).2=0
 ·rw [if_pos h]
  show some ([]++(nl f l).1,(0:Int))=_
  rw [List.nil_append,← h]
 ·rw [if_neg h]
  have: ∀l:List aA,(nl f l).2≠0→(nl f l).1= []:=fun l=>by
   cases l with
   |nil=>intro h;exact absurd rfl h
   |cons x l=>
    rw [nl]
    intro h
    by_cases h1:(f x).2=0
    ·rw [if_pos h1] at h ⊢
     by_cases h2:(nl f l).2=0
     ·rw [if_pos h2] at h;exact absurd rfl h
     ·rw [if_neg h2]
    ·rw [if_neg h1]
  rw [← this l h]
  rfl
theorem aqW{v:List aA}{x:aA}{c:Int}{i:Nat}(hn:v.length=i)(hi:i+1≤68719476736):sw (!decide (c=0)) (some (.ret ([],c))) (gd (v.length+([x]:List aA).length≤68719476736) (some (.next (v++ [x]))))=some (if c=0 then(.next (v++ [x]):LR (List aA) (List aA×Int)) else .ret ([],c)):=by
 by_cases h:c=0
 ·rw [if_pos h];exact g0 (by simp [h]) (iJ (by rw [List.length_singleton];omega) rfl)
 ·rw [if_neg h];exact jP (by simp [h]) rfl
section
variable {w:aF} {l:List aG} (h:GP w l) {V:LB} (hV:V.length≤13000000)
include h hV
theorem apN(fu:Nat){o:aC}(ho:mP w o){x:aA}(hx:Gd (wM w++V) x):rK fu w o x=some (LS w o x):=by
 have hU:=U8 h.hw hV
 unfold rK LS
 refine gO (H6 fu w o ho) (g0 rfl ?_)
 by_cases h1:(b5 w o).aCD=true
 ·rw [if_pos h1]
  refine g0 (by rw [h1];rfl) (iJ (sC h.hw ho) (iJ ⟨_,hU,hx⟩ ?_))
  by_cases h2:jB (b5 w o).aCn x=true
  ·rw [if_pos h2]
   exact g0 (by rw [h2];rfl) (iJ (ZY hU (wL (l8 _) _ _ hx)) (iJ ⟨_,hU,(vM h.hw).ac o ho⟩ rfl))
  ·rw [if_neg h2]
   exact jP (by rw [Bool.eq_false_iff.2 h2];rfl) rfl
 ·rw [if_neg h1]
  exact jP (by rw [Bool.eq_false_iff.2 h1];rfl) rfl
theorem ap5(fu:Nat){o:aC}(ho:mP w o){x:aA}(hx:Gd (wM w++V) x):rV fu w o x=some (LS w o x):=by
 have hU:=U8 h.hw hV
 unfold rV LS
 refine gO (aoN fu w o ho (aF.len_wt h.hw) fun i hi=>(aF.len_at h.hw i hi).2.2) (iJ (sC h.hw ho) (iJ ⟨_,hU,hx⟩ (g0 rfl ?_)))
 by_cases h1:(b5 w o).aCD=true
 ·rw [if_pos h1]
  refine g0 (by rw [h1];rfl) ?_
  by_cases h2:jB (b5 w o).aCn x=true
  ·rw [if_pos h2]
   exact g0 (by rw [h2];rfl) (iJ (ZY hU (wL (l8 _) _ _ hx)) (iJ ⟨_,hU,(vM h.hw).ac o ho⟩ rfl))
  ·rw [if_neg h2]
   exact jP (by rw [Bool.eq_false_iff.2 h2];rfl) rfl
 ·rw [if_neg h1]
  exact jP (by rw [Bool.eq_false_iff.2 h1];rfl) rfl
omit h hV in
theorem ak0{f:aG→aH×Int}(hf: ∀g,(f g).1.aCb=1→mP w (f g).1.aCz){r:Option (aA→aA×Int)}{k:Int}{n:ByteArray}{xs:List aA}(hx: ∀x∈xs,Gd (wM w++V) x){S:Nat→Option Int}(hS:bP fun fu=>S fu=some (szT (.mk k n xs))){L:Bool}(hL:L=true↔r=none){T:Nat→Option (aA×Int)}(hT:k=3→xs.length=1→L=false→bP fun fu=>T fu=some (K8 w f r k n xs)):bP fun fu=>bd (S fu) (fun x6=>sw (decide ((x6:Int)>400)) (some ((aA.mk 0 s_ []),2)) (sw (!decide ((k:Int)=3)) (some ((aA.mk k n xs),0)) (sw (!decide ((((xs.length:Nat):Int):Int)=1)) (some ((aA.mk k n xs),0)) (sw L (some ((aA.mk 0 s_ []),2)) (gd (0<xs.length) (T fu))))))=some (CN w f r k n xs):=by
 have hT':bP fun fu=>k=3→xs.length=1→L=false→T fu=some (K8 w f r k n xs):=by
  by_cases h1:k=3∧xs.length=1∧L=false
  ·exact(hT h1.1 h1.2.1 h1.2.2).imp fun fu h _ _ _=>h
  ·exact .all fun fu a b c=>absurd ⟨a,b,c⟩ h1
 refine(hS.and hT').imp fun fu ⟨hS,hT⟩=>gO hS ?_
 unfold CN
 by_cases h1:400<szT (.mk k n xs)
 ·rw [if_pos h1];exact jP (decide_eq_true h1) rfl
 ·rw [if_neg h1]
  refine g0 (decide_eq_false h1) ?_
  by_cases h2:k=3
  ·refine g0 (by rw [decide_eq_true h2];rfl) ?_
   by_cases h3:xs.length=1
   ·rw [if_pos ⟨h2,h3⟩]
    refine g0 (by rw [decide_eq_true (by omega)];rfl) ?_
    cases L with
    |true=>rw [hL.1 rfl];exact jP rfl rfl
    |false=>exact g0 rfl (iJ (by omega) (hT h2 h3 rfl))
   ·rw [if_neg fun h=>h3 h.2]
    exact jP (by rw [decide_eq_false (by omega)];rfl) rfl
  ·rw [if_neg fun h=>h2 h.1]
   exact jP (by rw [decide_eq_false h2];rfl) rfl
theorem VH{n:Int}{r:Option (aA→aA×Int)}(hL:decide (n≥12)=true↔r=none)(hq: ∀r',r=some r'→ ∀t,Gd (wM w++V) t→(r' t).2=0→Gd (wM w++V) (r' t).1)(hr: ∀r',r=some r'→ ∀t,Gd (wM w++V) t→bP fun fu=>eN fu (bH.mk w (HO w l)) t (aX (n+1))=some (r' t)): ∀t,Gd (wM w++V) t→bP fun fu=>eN fu (bH.mk w (HO w l)) t n=some (eG w (AI w l) r t):=by
 have hf: ∀g,((AI w l) g).1.aCb=1→mP w ((AI w l) g).1.aCz:=fun g=>J8
 have hW:WQ (Gd (wM w++V)) w:=vM h.hw
 refine aA.ind fun k nm xs ih ht=>?_
 obtain⟨hR,hx⟩:=(l8 _ k nm xs).1 ht
 have hlen:xs.length≤68719476735:=hR.2
 have hA:bP fun fu=>gU fu (bH.mk w (HO w l)) xs n=some (nl (eG w (AI w l) r) xs):=bP.succ ((bP.list fun x hm=>ih x hm (hx x hm)).imp fun fu hh=>by
  rw [gU]
  unfold wD CL
  exact akY fun i v hi hv=>gO (hh _ (cC hi)) (aqW hv (by omega)))
 by_cases h1:(nl (eG w (AI w l) r) xs).2=0
 ·have hys: ∀y∈(nl (eG w (AI w l) r) xs).1,Gd (wM w++V) y:=fun y hy=>by
   obtain⟨h2,h3⟩:=MK h1
   rw [h2] at hy
   obtain⟨x,hm,rfl⟩:=List.mem_map.1 hy
   exact OP (l8 _) hW hf hq x (hx x hm) (h3 x hm)
  have hN:=ak0 (k:=k) (n:=nm) hf hys (FK _) hL (T:=fun fu=>bd (lO fu (bH.mk w (HO w l)) (aG.mk nm (aR (nl (eG w (AI w l) r) xs).1 0)) 0) (fun(x13,x14)=>sw (!decide ((x14:Int)=0)) (some ((aA.mk 0 s_ []),1)) (sw (!decide ((x13.aCb:Int)=1)) (some ((aA.mk k nm (nl (eG w (AI w l) r) xs).1),0)) (bd (rK fu w x13.aCz (aR (nl (eG w (AI w l) r) xs).1 0)) (fun(x18,x19)=>sw (!(x19)) (some ((aA.mk 0 s_ []),1)) (bd (eN fu (bH.mk w (HO w l)) x18 (aX (n+1))) (fun(x22,x23)=>some (x22,x23)))))))) fun hk hl hLf=>by
   cases r with
   |none=>rw [hL.2 rfl] at hLf;cases hLf
   |some r=>
    have hg:Gd (wM w++V) (aR (nl (eG w (AI w l) (some r)) xs).1 0):=hys _ (cC (show 0<(nl (eG w (AI w l) (some r)) xs).1.length by omega))
    have hS:=aiJ h (g:= .mk nm (aR (nl (eG w (AI w l) (some r)) xs).1 0)) ⟨V,hV,hg⟩
    unfold K8
    dsimp only
    by_cases c1:((AI w l) (.mk nm (aR (nl (eG w (AI w l) (some r)) xs).1 0))).2=0
    ·rw [if_pos c1]
     by_cases c2:((AI w l) (.mk nm (aR (nl (eG w (AI w l) (some r)) xs).1 0))).1.aCb=1
     ·rw [if_pos c2]
      have hass:=fun fu=>apN h hV fu (hf _ c2) hg
      by_cases c3:(LS w ((AI w l) (.mk nm (aR (nl (eG w (AI w l) (some r)) xs).1 0))).1.aCz (aR (nl (eG w (AI w l) (some r)) xs).1 0)).2=true
      ·rw [if_pos c3]
       exact(hS.and (hr r rfl _ (abN (l8 _) hW (hf _ c2) hg c3))).imp fun fu ⟨a,b⟩=>gO a (g0 (nd0 c1) (g0 (by rw [decide_eq_true c2];rfl) (gO (hass fu) (g0 (by rw [c3];rfl) (gO b rfl)))))
      ·rw [if_neg c3]
       exact hS.imp fun fu a=>gO a (g0 (nd0 c1) (g0 (by rw [decide_eq_true c2];rfl) (gO (hass fu) (jP (by rw [Bool.eq_false_iff.2 c3];rfl) rfl))))
     ·rw [if_neg c2]
      exact hS.imp fun fu a=>gO a (g0 (nd0 c1) (jP (by rw [decide_eq_false c2];rfl) rfl))
    ·rw [if_neg c1]
     exact hS.imp fun fu a=>gO a (jP (nd1 c1) rfl)
  refine bP.succ ((hA.and hN).imp fun fu ⟨hA,hN⟩=>?_)
  rw [eN,rR,if_pos h1]
  unfold xA
  exact gO hA (g0 (nd0 h1) hN)
 ·refine bP.succ (hA.imp fun fu hA=>?_)
  rw [eN,rR,if_neg h1]
  unfold xA
  exact gO hA (jP (nd1 h1) rfl)
theorem WN{n:Int}{r:Option (aA→aA×Int)}(hL:decide (n=0)=true↔r=none)(hq: ∀r',r=some r'→ ∀t,Gd (wM w++V) t→(r' t).2=0→Gd (wM w++V) (r' t).1)(hr: ∀r',r=some r'→ ∀t,Gd (wM w++V) t→bP fun fu=>fJ fu w l t (aX (n-1))=some (r' t)): ∀t,Gd (wM w++V) t→bP fun fu=>fJ fu w l t n=some (eG w (qY w l) r t):=by
 have hf: ∀g,((qY w l) g).1.aCb=1→mP w ((qY w l) g).1.aCz:=fun g=>J8
 have hW:WQ (Gd (wM w++V)) w:=vM h.hw
 refine aA.ind fun k nm xs ih ht=>?_
 obtain⟨hR,hx⟩:=(l8 _ k nm xs).1 ht
 have hlen:xs.length≤68719476735:=hR.2
 have hA:bP fun fu=>sT fu w l xs n=some (nl (eG w (qY w l) r) xs):=bP.succ ((bP.list fun x hm=>ih x hm (hx x hm)).imp fun fu hh=>by
  rw [sT]
  unfold R3 XB
  exact akY fun i v hi hv=>gO (hh _ (cC hi)) (aqW hv (by omega)))
 by_cases h1:(nl (eG w (qY w l) r) xs).2=0
 ·have hys: ∀y∈(nl (eG w (qY w l) r) xs).1,Gd (wM w++V) y:=fun y hy=>by
   obtain⟨h2,h3⟩:=MK h1
   rw [h2] at hy
   obtain⟨x,hm,rfl⟩:=List.mem_map.1 hy
   exact OP (l8 _) hW hf hq x (hx x hm) (h3 x hm)
  have hN:=ak0 (k:=k) (n:=nm) hf hys (F3 _) hL (T:=fun fu=>gd (GP w l) (gd (KA w (aG.aCd (aG.mk nm (aR (nl (eG w (qY w l) r) xs).1 0)))) (sw (!decide (((qY w l (aG.mk nm (aR (nl (eG w (qY w l) r) xs).1 0))).2:Int)=0)) (some ((aA.mk 0 s_ []),1)) (sw (!decide ((((qY w l (aG.mk nm (aR (nl (eG w (qY w l) r) xs).1 0))).1).aCb:Int)=1)) (some ((aA.mk k nm (nl (eG w (qY w l) r) xs).1),0)) (bd (rV fu w (((qY w l (aG.mk nm (aR (nl (eG w (qY w l) r) xs).1 0))).1).aCz) (aR (nl (eG w (qY w l) r) xs).1 0)) (fun(x18,x19)=>sw (!(x19)) (some ((aA.mk 0 s_ []),1)) (bd (fJ fu w l x18 (aX (n-1))) (fun(x22,x23)=>some (x22,x23))))))))) fun hk hl hLf=>by
   cases r with
   |none=>rw [hL.2 rfl] at hLf;cases hLf
   |some r=>
    have hg:Gd (wM w++V) (aR (nl (eG w (qY w l) (some r)) xs).1 0):=hys _ (cC (show 0<(nl (eG w (qY w l) (some r)) xs).1.length by omega))
    have hS:bP fun _=>True:= .all fun _=>trivial
    unfold K8
    dsimp only
    by_cases c1:((qY w l) (.mk nm (aR (nl (eG w (qY w l) (some r)) xs).1 0))).2=0
    ·rw [if_pos c1]
     by_cases c2:((qY w l) (.mk nm (aR (nl (eG w (qY w l) (some r)) xs).1 0))).1.aCb=1
     ·rw [if_pos c2]
      have hass:=fun fu=>ap5 h hV fu (hf _ c2) hg
      by_cases c3:(LS w ((qY w l) (.mk nm (aR (nl (eG w (qY w l) (some r)) xs).1 0))).1.aCz (aR (nl (eG w (qY w l) (some r)) xs).1 0)).2=true
      ·rw [if_pos c3]
       exact(hS.and (hr r rfl _ (abN (l8 _) hW (hf _ c2) hg c3))).imp fun fu ⟨a,b⟩=>iJ h (iJ ⟨V,hV,hg⟩ (g0 (nd0 c1) (g0 (by rw [decide_eq_true c2];rfl) (gO (hass fu) (g0 (by rw [c3];rfl) (gO b rfl))))))
      ·rw [if_neg c3]
       exact hS.imp fun fu a=>iJ h (iJ ⟨V,hV,hg⟩ (g0 (nd0 c1) (g0 (by rw [decide_eq_true c2];rfl) (gO (hass fu) (jP (by rw [Bool.eq_false_iff.2 c3];rfl) rfl)))))
     ·rw [if_neg c2]
      exact hS.imp fun fu a=>iJ h (iJ ⟨V,hV,hg⟩ (g0 (nd0 c1) (jP (by rw [decide_eq_false c2];rfl) rfl)))
    ·rw [if_neg c1]
     exact hS.imp fun fu a=>iJ h (iJ ⟨V,hV,hg⟩ (jP (nd1 c1) rfl))
  refine bP.succ ((hA.and hN).imp fun fu ⟨hA,hN⟩=>?_)
  rw [fJ,rR,if_pos h1]
  unfold AH
  exact gO hA (g0 (nd0 h1) hN)
 ·refine bP.succ (hA.imp fun fu hA=>?_)
  rw [fJ,rR,if_neg h1]
  unfold AH
  exact gO hA (jP (nd1 h1) rfl)
theorem ae3: ∀(k:Nat) (n:Int),n+k=12→0≤n→ ∀t,Gd (wM w++V) t→bP fun fu=>eN fu (bH.mk w (HO w l)) t n=some (xT w (AI w l) k t)
 |0,n,hk,_=>VH h hV (r:=none) ⟨fun _=>rfl,fun _=>decide_eq_true (by omega)⟩ (fun _ e=>nomatch e) fun _ e=>nomatch e
 |k+1,n,hk,hn=>VH h hV (r:=some (xT w (AI w l) k)) ⟨fun e=>by have:=of_decide_eq_true e;omega,fun e=>nomatch e⟩ (fun r' e=>by cases e;exact ON (l8 _) (vM h.hw) (fun g=>J8) k) fun r' e=>by
  cases e
  rw [C8 (by omega) (by omega)]
  exact ae3 k (n+1) (by omega) (by omega)
theorem afZ: ∀k:Nat,k≤12→ ∀t,Gd (wM w++V) t→bP fun fu=>fJ fu w l t (k:Int)=some (xT w (qY w l) k t)
 |0,_=>WN h hV (r:=none) ⟨fun _=>rfl,fun _=>rfl⟩ (fun _ e=>nomatch e) fun _ e=>nomatch e
 |k+1,hk=>WN h hV (r:=some (xT w (qY w l) k)) ⟨fun e=>by have:=of_decide_eq_true e;omega,fun e=>nomatch e⟩ (fun r' e=>by cases e;exact ON (l8 _) (vM h.hw) (fun g=>J8) k) fun r' e=>by
  cases e
  rw [show aX (((k+1:Nat):Int)-1)=(k:Int) by rw [C8 (by omega) (by omega)];omega]
  exact afZ k (by omega)
end
def gA(w:aF)(l:List aG)(t:aA):aA×Int:=xT w (AI w l) 12 t
def ML(w:aF)(l:List aG)(t:aA):aA×Int:=xT w (qY w l) 12 t
theorem akT(w:aF)(l:List aG)(t:aA)(h:GP w l)(ht:KA w t):bQ Tryz.prog 36 [(aF.pv w),cK l,(aA.pv t)] (.tup [(aA.pv (gA w l t).1),pI (gA w l t).2]):=by
 obtain⟨V,h1,h2⟩:=ht
 obtain⟨fu,hf⟩:=(ae3 h h1 12 0 rfl (Int.le_refl _) t h2).get
 refine YE fu w l t (gA w l t) ?_
 unfold N8
 exact iJ h (gO hf rfl)
theorem ap6(w:aF)(l:List aG)(t:aA)(h:GP w l)(ht:KA w t):bQ Tryz.prog 37 [(aF.pv w),cK l,(aA.pv t)] (.tup [(aA.pv (ML w l t).1),pI (ML w l t).2]):=by
 obtain⟨V,h1,h2⟩:=ht
 obtain⟨fu,hf⟩:=(afZ h h1 12 (Nat.le_refl _) t h2).get
 refine YX fu w l t (ML w l t) ?_
 unfold OY
 exact gO hf rfl
theorem ae1(t:aA):bQ Tryz.prog 39 [(aA.pv t)] (pB (hpT t)):=by
 obtain⟨fu,hf⟩:=(K3 t).get
 refine CH fu t (hpT t) ?_
 unfold sD
 exact gO (hf false) rfl
theorem arI{w:aF}{l:List aG}(h:GP w l){t:aA}(ht:KA w t)(h0:(gA w l t).2=0):KA w (gA w l t).1:=let⟨V,h1,h2⟩:=ht;⟨V,h1,ON (l8 _) (vM h.hw) (fun g=>J8) 12 t h2 h0⟩
theorem aoB{w:aF}{l:List aG}{t:aA}(h0:(gA w l t).2=0):gA w l (gA w l t).1=((gA w l t).1,0):=aoC _ (aaK 12 t h0)
theorem arJ{w:aF}(hW:WQ NI w){l:List aG}{t:aA}(h: ∀x∈t.aCa,NI x):gA w l t=ML w l t:=afN hW (fun g=>J8) (fun b hb=>(ar4 hW l hb).symm) 12 t h
end Go.Proofs.YtfcoaagbccmahaaGreat.W

namespace Go.Proofs.YtfcoaagbccmahaaGreat.W
set_option maxRecDepth 100000
set_option maxHeartbeats 40000000
noncomputable section
open Tryz Go.RowKit Go.Proofs
attribute [local irreducible] lt
def R6(fu:Nat):Option aA:=bd (eK fu dP ([])) fun x2=>some x2
theorem ajY(fu:Nat)(r:aA)(H:R6 fu=some r):bQ Tryz.prog 138 [] ((aA.pv r)):=by
 refine qJ func138 H (fun C hC H=>?_)
 refine gQ 6 ?_;refine bK H fun x2 z1 H=>(q1 (bE func47 (lS (fA fu) dP ([]) _ z1)) ?_)
 exact gE 2
def XH(fu:Nat)(pc:DS)(x2:aA)(x3 d4:DS):Nat→(Int×ByteArray×(List aA))→Option (LR (Int×ByteArray×(List aA)) (aA×DS)):=fun i21 (v22,v23,v24)=>bd (eK fu cA ([(aA.mk v22 v23 v24)]:List aA)) fun x27=>some (.next (x27.aCb,x27.aB9,x27.aCa))
def E4(fu:Nat)(pc:DS):Option (aA×DS):=bd (qL fu pc 3) fun(x2,x3)=>lt (x3.after 12) fun d4=>sw (decide ((x3.below 12:Int)=0)) (lt (d4.after 7) fun d7=>some ((aA.mk (aX ((d4.below 7:Int)-1)) x2.aB9 x2.aCa),d7)) (sw (decide ((x3.below 12:Int)=1)) (lt (d4.after ([s_,dR,s_A,fM,rX]:LB).length) fun d10=>lt (d4.pick ([s_,dR,s_A,fM,rX]:LB)) fun y12=>some ((aA.mk x2.aCb y12 x2.aCa),d10)) (sw (decide ((x3.below 12:Int)=2)) (bd (yH fu) fun x16=>bd (R6 fu) fun x18=>gd ((x2.aCa).length+(([x16,x18,x16]:List aA)).length≤68719476736) (some ((aA.mk x2.aCb x2.aB9 (x2.aCa++([x16,x18,x16]:List aA))),d4))) (sw (decide ((x3.below 12:Int)=3)) (so (loopN (XH fu pc x2 x3 d4) (6-0) 0 (x2.aCb,x2.aB9,x2.aCa)) fun(v22,v23,v24)=>some ((aA.mk v22 v23 v24),d4)) (some ((aA.mk x2.aCb x2.aB9 x2.aCa),d4)))))
theorem ajX(fu:Nat)(pc:DS)(r:aA×DS)(H:E4 fu pc=some r):b6 Tryz.prog 88 [.ptr 0 0] ⟨[some ⟨133,dC pc⟩],[]⟩ (fun q t=>q=((aA.pv r.1))∧t=⟨[some ⟨133,dC r.2⟩],[]⟩):=by
 refine qJ func88 H (fun C hC H=>?_)
 refine gQ 7 ?_;refine dU H fun x2 x3 z1 H=>(q1 (bB.callOwn (pre:=⟨[some ⟨133,dC pc⟩],[]⟩) (B:= [some ⟨133,dC x3⟩]) (R:=fun k=> .agg [pI x2.aCb,pS x2.aB9,fK x2.aCa k]) (ps:= [_,_]) (qs:= [.ptr 0 0,pI 3]) [0] rfl rfl func132 (by kernel_rfl) rfl rfl rfl (eV.of ⟨⟨_,rfl,rfl,jK,rfl⟩,trivial⟩ trivial (by decide) (by decide)) rfl jK rfl rfl rfl (fun k k'=>(.agg (.cons (.free _ rfl) (.cons (.free _ rfl) (.cons Mv.acc E8.nil))))) (wZ fu pc 3 _ z1)) ?_)
 refine gQ 7 ?_;refine fV H fun d4 h5 H=>(q1 (eW [0] [] func73 (DT h5 (eY x3 12))) ?_)
 refine gQ 7 ?_;refine bC H (fun h6 H=>?_) (fun h6 H=>?_)
 ·refine gQ 2 ?_;refine fV H fun d7 h8 H=>(q1 (eW [0] [] func73 (DT h8 (eY d4 7))) ?_)
  refine gQ 6 ?_;refine q1 (bZ [pI (aX ((d4.below 7:Int)-1)),pS x2.aB9,fK x2.aCa 0]) ?_;exact gE 2
 refine gQ 5 ?_;refine bC H (fun h9 H=>?_) (fun h9 H=>?_)
 ·refine gQ 2 ?_;refine q1 (hH ([s_,dR,s_A,fM,rX]:LB)) (fV H fun d10 h11 H=>(fV H fun y12 h13 H=>(q1 (eW [0] [] func48 (OM h11 h13 (fZ d4 ([s_,dR,s_A,fM,rX]:LB) (by decide)))) ?_)))
  refine gQ 5 ?_;refine q1 (bZ [pI x2.aCb,pS y12,fK x2.aCa 0]) ?_;exact gE 2
 refine gQ 5 ?_;refine bC H (fun h14 H=>?_) (fun h14 H=>?_)
 ·refine bK H fun x16 z15 H=>(bK H fun x18 z17 H=>(cF H fun z19 H=>(dW (dI [3] bW (dD [23] eE (dI [] (bE func49 (sY fu _ z15)) (dI [] (bE func138 (ajY fu _ z17)) (dI [] (bE func49 (sY fu _ z15)) (dI [25,26,27] (hH ([x16,x18,x16]:List aA)) (dE [24,28] (lE z19) (dI [3] bW (lB [30,29] kG (dN ?_)))))))))))))
  refine gQ 2 ?_;refine q1 (bZ [pI x2.aCb,pS x2.aB9,fK (x2.aCa++([x16,x18,x16]:List aA)) 0]) ?_;exact gE 2
 refine gQ 5 ?_;refine bC H (fun h20 H=>?_) (fun h20 H=>?_)
 ·refine gQ 4 ?_;refine bS (σ:=Int×ByteArray×(List aA)) (fun i21 (v22,v23,v24)=>⟨[(2,.ptr 1 0),(3,.ptr 2 0),(4,pN i21)],⟨[some ⟨133,dC d4⟩,some ⟨30,[pI 0,pS s_,.nil]⟩,some ⟨30,[pI v22,pS v23,aT v24]⟩],[⟨30,3,aA.trs (x2.aCa),false⟩]⟩⟩) (fun(v22,v23,v24)=>⟨[(2,.ptr 1 0),(3,.ptr 2 0)],⟨[some ⟨133,dC d4⟩,some ⟨30,[pI 0,pS s_,.nil]⟩,some ⟨30,[pI v22,pS v23,aT v24]⟩],[⟨30,3,aA.trs (x2.aCa),false⟩]⟩⟩) (eM H) ?_ ?_
  ·rintro i21 ⟨v22,v23,v24⟩ H
   refine gQ 6 ?_;refine cS H (fun h25 h25l H=>?_) (fun h25 H=>?_)
   ·have h25n:i21<6:=by have:=of_decide_eq_true h25;omega
    refine gQ 4 ?_;refine q1 (bZ [pI v22,pS v23,aT v24]) (q1 (hH ([(aA.mk v22 v23 v24)]:List aA)) (bK H fun x27 z26 H=>(q1 (bB.callOwn (pre:=⟨[],[]⟩) (B:= []) (R:=fun k=> .agg [pI x27.aCb,pS x27.aB9,fK x27.aCa k]) (ps:= [_,_]) (qs:= [pS cA,aT ([(aA.mk v22 v23 v24)]:List aA)]) [] rfl rfl func47 (by kernel_rfl) rfl rfl rfl (eV.of trivial trivial (by decide) (by decide)) rfl jK rfl rfl rfl (fun k k'=>(.agg (.cons (.free _ rfl) (.cons (.free _ rfl) (.cons Mv.acc E8.nil))))) (fA fu cA ([(aA.mk v22 v23 v24)]:List aA) _ z26)) ?_)))
    exact gE 7
   exact gE 0
  rintro⟨v22,v23,v24⟩ H
  refine gQ 2 ?_;refine q1 (bZ [pI v22,pS v23,aT v24]) ?_;exact gE 2
 refine gQ 3 ?_;refine q1 (bZ [pI x2.aCb,pS x2.aB9,fK x2.aCa 0]) ?_;exact gE 2
def aaU(fu:Nat)(pc d1:DS)(y3:ByteArray)(x6:aA)(d7:DS):Nat→(Int×ByteArray×(List aA)×DS)→Option (LR (Int×ByteArray×(List aA)×DS) (aA×DS)):=fun i9 (v11,v12,v13,v10)=>lt (v10.after 4) fun d16=>sw (decide ((v10.below 4:Int)=0)) (bd (eK fu pW ([(aA.mk v11 v12 v13)]:List aA)) fun x20=>some (.next (x20.aCb,x20.aB9,x20.aCa,d16))) (sw (decide ((v10.below 4:Int)=1)) (bd (uO fu fE (aA.mk v11 v12 v13)) fun x23=>some (.next (x23.aCb,x23.aB9,x23.aCa,d16))) (sw (decide ((v10.below 4:Int)=2)) (bd (eK fu dR ([])) fun x26=>bd (uO fu fE x26) fun x28=>bd (eK fu l3 ([(aA.mk v11 v12 v13),x28]:List aA)) fun x30=>some (.next (x30.aCb,x30.aB9,x30.aCa,d16))) (bd (eK fu cA ([(aA.mk v11 v12 v13)]:List aA)) fun x32=>some (.next (x32.aCb,x32.aB9,x32.aCa,d16)))))
def IY(fu:Nat)(pc:DS):Option (aA×DS):=lt (pc.after ([dR,dP,gI]:LB).length) fun d1=>lt (pc.pick ([dR,dP,gI]:LB)) fun y3=>bd (eK fu y3 ([])) fun x6=>lt (d1.after 4) fun d7=>so (loopN (aaU fu pc d1 y3 x6 d7) (d1.below 4-0) 0 (x6.aCb,x6.aB9,x6.aCa,d7)) fun(v11,v12,v13,v10)=>lt (v10.after 4) fun d33=>sw (decide (v10.below 4=0)) (bd (l7 fu f6) fun x37=>bd (eK fu pW ([x37]:List aA)) fun x39=>bd (uO fu fE x39) fun x41=>bd (eK fu l3 ([(aA.mk v11 v12 v13),x41]:List aA)) fun x43=>some (x43,d33)) (some ((aA.mk v11 v12 v13),d33))
theorem amY(fu:Nat)(pc:DS)(r:aA×DS)(H:IY fu pc=some r):b6 Tryz.prog 89 [.ptr 0 0] ⟨[some ⟨133,dC pc⟩],[]⟩ (fun q t=>q=((aA.pv r.1))∧t=⟨[some ⟨133,dC r.2⟩],[]⟩):=by
 refine qJ func89 H (fun C hC H=>?_)
 refine gQ 7 ?_;refine q1 (hH ([dR,dP,gI]:LB)) (fV H fun d1 h2 H=>(fV H fun y3 h4 H=>(q1 (eW [0] [] func48 (OM h2 h4 (fZ pc ([dR,dP,gI]:LB) (by decide)))) (bK H fun x6 z5 H=>(q1 (bE func47 (lS (fA fu) y3 ([]) _ z5)) ?_)))))
 refine gQ 6 ?_;refine fV H fun d7 h8 H=>(q1 (eW [0] [] func73 (DT h8 (eY d1 4))) ?_)
 refine gQ 7 ?_
 have hb14:=DS.below_lt (d:=d1) (n:=4) (by decide)
 refine bS (σ:=Int×ByteArray×(List aA)×DS) (fun i9 (v11,v12,v13,v10)=>⟨[(0,.ptr 0 0),(2,.ptr 1 0),(3,.ptr 2 0),(4,pN (d1.below 4)),(5,pN i9)],⟨[some ⟨133,dC v10⟩,some ⟨30,[pI 0,pS s_,.nil]⟩,some ⟨30,[pI v11,pS v12,aT v13]⟩],[]⟩⟩) (fun(v11,v12,v13,v10)=>⟨[(0,.ptr 0 0),(2,.ptr 1 0),(3,.ptr 2 0)],⟨[some ⟨133,dC v10⟩,some ⟨30,[pI 0,pS s_,.nil]⟩,some ⟨30,[pI v11,pS v12,aT v13]⟩],[]⟩⟩) (eM H) ?_ ?_
 ·rintro i9 ⟨v11,v12,v13,v10⟩ H
  refine gQ 7 ?_;refine cS H (fun h15 h15l H=>?_) (fun h15 H=>?_)
  ·have h15n:i9<d1.below 4:=by have:=of_decide_eq_true h15;omega
   refine gQ 6 ?_;refine fV H fun d16 h17 H=>(q1 (eW [0] [] func73 (DT h17 (eY v10 4))) ?_)
   refine gQ 7 ?_;refine bC H (fun h18 H=>?_) (fun h18 H=>?_)
   ·refine qR (q1 (bZ [pI v11,pS v12,aT v13]) (q1 (hH ([(aA.mk v11 v12 v13)]:List aA)) (bK H fun x20 z19 H=>(q1 (bE func47 (lS (fA fu) pW ([(aA.mk v11 v12 v13)]:List aA) _ z19)) ?_))))
    exact gE 7
   refine gQ 5 ?_;refine bC H (fun h21 H=>?_) (fun h21 H=>?_)
   ·refine qR (q1 (bZ [pI v11,pS v12,aT v13]) (bK H fun x23 z22 H=>(q1 (bE func139 (M6 (B5 fu) fE (aA.mk v11 v12 v13) _ z22)) ?_)))
    exact gE 7
   refine gQ 5 ?_;refine bC H (fun h24 H=>?_) (fun h24 H=>?_)
   ·refine bK H fun x26 z25 H=>(bK H fun x28 z27 H=>(bK H fun x30 z29 H=>(dW (dD [3] (bZ [pI v11,pS v12,aT v13]) (dI [] (bE func47 (lS (fA fu) dR ([]) _ z25)) (dI [34] (bE func139 (M6 (B5 fu) fE x26 _ z27)) (dI [33,35] (hH ([(aA.mk v11 v12 v13),x28]:List aA)) (dI [36] (bE func47 (lS (fA fu) l3 ([(aA.mk v11 v12 v13),x28]:List aA) _ z29)) (lB [3,37] kG (dN ?_))))))))))
    exact gE 5
   refine qR (q1 (bZ [pI v11,pS v12,aT v13]) (q1 (hH ([(aA.mk v11 v12 v13)]:List aA)) (bK H fun x32 z31 H=>(q1 (bE func47 (lS (fA fu) cA ([(aA.mk v11 v12 v13)]:List aA) _ z31)) ?_))))
   exact gE 7
  exact gE 0
 rintro⟨v11,v12,v13,v10⟩ H
 refine gQ 4 ?_;refine fV H fun d33 h34 H=>(q1 (eW [0] [] func45 (DT h34 (mT v10 4))) (qN ?_))
 refine bC H (fun h35 H=>?_) (fun h35 H=>?_)
 ·refine bK H fun x37 z36 H=>(bK H fun x39 z38 H=>(bK H fun x41 z40 H=>(bK H fun x43 z42 H=>(dW (dD [3] (bZ [pI v11,pS v12,aT v13]) (dI [] (bE func137 (kF (jJ fu) f6 _ z36)) (dI [41] (hH ([x37]:List aA)) (dI [42] (bE func47 (lS (fA fu) pW ([x37]:List aA) _ z38)) (dI [43] (bE func139 (M6 (B5 fu) fE x39 _ z40)) (dI [40,44] (hH ([(aA.mk v11 v12 v13),x41]:List aA)) (dI [45] (bE func47 (lS (fA fu) l3 ([(aA.mk v11 v12 v13),x41]:List aA) _ z42)) (lB [3,46] kG (dN ?_)))))))))))))
  refine gQ 2 ?_;refine q1 (bZ [pI x43.aCb,pS x43.aB9,aT x43.aCa]) ?_;exact gE 2
 refine gQ 3 ?_;refine q1 (bZ [pI v11,pS v12,aT v13]) ?_;exact gE 2
def nT(fu:Nat)(p0:List UInt8):Option (aF×(List aG)×aA):=gd ((p0).length≤1048576) (bd (yC fu (DS.start p0)) fun(x3,x4)=>bd (IV fu x4) fun(x6,x7)=>lt (x7.after 6) fun d8=>sw (decide (x7.below 6=0)) (bd (E4 fu d8) fun(x12,x13)=>some (x3,x6,x12)) (bd (IY fu d8) fun(x15,x16)=>some (x3,x6,x15)))
theorem OU(fu:Nat)(p0:List UInt8)(r:aF×(List aG)×aA)(H:nT fu p0=some r):bQ Tryz.prog 35 [rU p0] (.tup [(aF.pv r.1),cK r.2.1,(aA.pv r.2.2)]):=by
 refine qJ func35 H (fun C hC H=>?_)
 refine gQ 9 ?_;refine cF H fun z1 H=>(q1 (bB.callNew (ps:= [_]) rfl rfl func43 (by kernel_rfl) rfl rfl jK rfl rfl (arH p0 z1)) ?_)
 refine gQ 5 ?_;refine dU H fun x3 x4 z2 H=>(q1 (eW [2] [] func69 (adC fu (DS.start p0) _ z2)) ?_)
 refine gQ 6 ?_;refine dU H fun x6 x7 z5 H=>(q1 (eW [2] [] func87 (adF fu x4 _ z5)) ?_)
 refine gQ 6 ?_;refine fV H fun d8 h9 H=>(q1 (eW [2] [] func45 (DT h9 (mT x7 6))) (qN ?_))
 refine bC H (fun h10 H=>?_) (fun h10 H=>?_)
 ·refine qS (dU H fun x12 x13 z11 H=>(dW (dB [6] 0 1 (GO [aP x3.aB8]) (dI [7] bF (dI [5] bF (dE [18] (eW [2] [] func88 (ajX fu d8 _ z11)) (lB [2,16] kG (dI [17] bF (lB [4,19] kG (dN (cV.ret ?_)))))))))))
  cases vP H
  exact qe3 (hr:=⟨⟨_,_,_,rfl,rfl,amU.h,rfl,rfl⟩,rfl,⟨_,_,_,rfl,rfl,G6.h,rfl,rfl⟩,trivial⟩)
 refine gQ 2 ?_;refine dU H fun x15 x16 z14 H=>(dW (dB [6] 0 1 (GO [aP x3.aB8]) (dI [7] bF (dI [5] bF (dE [22] (eW [2] [] func89 (amY fu d8 _ z14)) (lB [2,20] kG (dI [21] bF (lB [4,23] kG (dN (cV.ret ?_))))))))))
 cases vP H
 exact qe3 (hr:=⟨⟨_,_,_,rfl,rfl,amU.h,rfl,rfl⟩,rfl,⟨_,_,_,rfl,rfl,G6.h,rfl,rfl⟩,trivial⟩)
def IC(fu:Nat)(p1:List UInt8):Option Bool:=bd (aiN fu p1) fun x2=>sw x2 (some true) (bd (nT fu p1) fun(x5,x6,x7)=>gd (GP x5 x6) (gd (KA x5 x7) (sw (!decide (((gA x5 x6 x7).2:Int)=(ML x5 x6 x7).2)) (some false) (sw (!(aA.eq ((gA x5 x6 x7).1) ((ML x5 x6 x7).1))) (some false) (sw (!decide (((gA x5 x6 x7).2:Int)=0)) (some (aA.eq ((gA x5 x6 x7).1) (aA.mk 0 s_ []))) (gd (KA x5 ((gA x5 x6 x7).1)) (sw (decide (((gA x5 x6 ((gA x5 x6 x7).1)).2:Int)=0)) (sw (aA.eq ((gA x5 x6 ((gA x5 x6 x7).1)).1) ((gA x5 x6 x7).1)) (sw (hpT x7) (some true) (some (aA.eq ((gA x5 x6 x7).1) x7))) (some false)) (some false))))))))
theorem ab6(fu:Nat)(p1:List UInt8)(r:Bool)(H:IC fu p1=some r):bQ Tryz.prog 7 [rU p1] (pB r):=by
 refine qJ func7 H (fun C hC H=>?_)
 refine gQ 8 ?_;refine bK H fun x2 z1 H=>(q1 (bE func9 (apP fu p1 _ z1)) (qN ?_))
 refine bC H (fun h3 H=>gE 4) fun h3 H=>?_;refine gQ 4 ?_;refine LU H fun x5 x6 x7 z4 H=>(q1 (bE func35 (OU fu p1 _ z4)) ?_)
 refine gQ 12 ?_;refine q1 (bZ [aP x5.aB8]) (q1 bF (q1 (bZ [pI x7.aCb,pS x7.aB9,aT x7.aCa]) (cF H fun z8 H=>(cF H fun z9 H=>(q1 (bE func36 (akT x5 x6 x7 z8 z9)) ?_)))))
 refine gQ 9 ?_;refine q1 (bZ [aP x5.aB8]) (q1 bF (q1 (bZ [pI x7.aCb,pS x7.aB9,aT x7.aCa]) (q1 (bE func37 (ap6 x5 x6 x7 z8 z9)) ?_)))
 refine gQ 14 ?_;refine AL.weak (s':=⟨[(2,pB false),(3,.ptr 0 0),(4,cK x6),(5,.ptr 1 0),(6,.ptr 2 0),(7,pI ((gA x5 x6 x7).2)),(8,.ptr 3 0),(37,pB (!decide (((gA x5 x6 x7).2:Int)=(ML x5 x6 x7).2)))],⟨[some ⟨26,[aP x5.aB8]⟩,some ⟨30,bR x7⟩,some ⟨30,bR ((gA x5 x6 x7).1)⟩,some ⟨30,bR ((ML x5 x6 x7).1)⟩],[]⟩⟩) wkA ?_;refine dL 37 H (fun g10 H=>gE 11) fun g10 H=>?_;refine qg g10 (bZ [pI (((gA x5 x6 x7).1).aCb),pS (((gA x5 x6 x7).1).aB9),aT (((gA x5 x6 x7).1).aCa)]) (qg g10 (bZ [pI (((ML x5 x6 x7).1).aCb),pS (((ML x5 x6 x7).1).aB9),aT (((ML x5 x6 x7).1).aCa)]) (qg g10 (bE func38 (nC ((gA x5 x6 x7).1) ((ML x5 x6 x7).1))) ?_))
 refine gQ 3 ?_;refine bC H (fun h11 H=>gE 4) fun h11 H=>?_;refine gQ 7 ?_;refine bC H (fun h12 H=>?_) (fun h12 H=>?_)
 ·refine gQ 2 ?_;refine q1 (bZ [pI (((gA x5 x6 x7).1).aCb),pS (((gA x5 x6 x7).1).aB9),aT (((gA x5 x6 x7).1).aCa)]) (q1 r9 (q1 (bE func38 (nC ((gA x5 x6 x7).1) (aA.mk 0 s_ []))) ?_))
  exact gE 2
 refine gQ 3 ?_;refine q1 (bZ [aP x5.aB8]) (q1 bF (q1 (bZ [pI (((gA x5 x6 x7).1).aCb),pS (((gA x5 x6 x7).1).aB9),aT (((gA x5 x6 x7).1).aCa)]) (cF H fun z13 H=>(q1 (bE func36 (akT x5 x6 ((gA x5 x6 x7).1) z8 z13)) ?_))))
 refine gQ 12 ?_;refine AL.weak (s':=⟨[(2,pB false),(5,.ptr 1 0),(6,.ptr 2 0),(10,.ptr 4 0),(57,pB (decide (((gA x5 x6 ((gA x5 x6 x7).1)).2:Int)=0)))],⟨[some ⟨26,[aP x5.aB8]⟩,some ⟨30,bR x7⟩,some ⟨30,bR ((gA x5 x6 x7).1)⟩,some ⟨30,bR ((ML x5 x6 x7).1)⟩,some ⟨30,bR ((gA x5 x6 ((gA x5 x6 x7).1)).1)⟩],[]⟩⟩) wkA ?_;refine dL 57 H (fun g14 H=>?_) fun g14 H=>?_
 ·refine qg g14 (bZ [pI (((gA x5 x6 ((gA x5 x6 x7).1)).1).aCb),pS (((gA x5 x6 ((gA x5 x6 x7).1)).1).aB9),aT (((gA x5 x6 ((gA x5 x6 x7).1)).1).aCa)]) (qg g14 (bZ [pI (((gA x5 x6 x7).1).aCb),pS (((gA x5 x6 x7).1).aB9),aT (((gA x5 x6 x7).1).aCa)]) (qg g14 (bE func38 (nC ((gA x5 x6 ((gA x5 x6 x7).1)).1) ((gA x5 x6 x7).1))) ?_))
  refine gQ 2 ?_;refine AL.weak (s':=⟨[(2,pB false),(5,.ptr 1 0),(6,.ptr 2 0),(62,pB (aA.eq ((gA x5 x6 ((gA x5 x6 x7).1)).1) ((gA x5 x6 x7).1)))],⟨[some ⟨26,[aP x5.aB8]⟩,some ⟨30,bR x7⟩,some ⟨30,bR ((gA x5 x6 x7).1)⟩,some ⟨30,bR ((ML x5 x6 x7).1)⟩,some ⟨30,bR ((gA x5 x6 ((gA x5 x6 x7).1)).1)⟩],[]⟩⟩) wkA ?_;refine dL 62 H (fun g15 H=>?_) fun g15 H=>?_
  ·refine qg g15 (bZ [pI x7.aCb,pS x7.aB9,aT x7.aCa]) (qg g15 (bE func39 (ae1 x7)) (qg g15 bF ?_))
   refine AL.weak (s':=⟨[(2,pB false),(5,.ptr 1 0),(6,.ptr 2 0),(62,pB (aA.eq ((gA x5 x6 ((gA x5 x6 x7).1)).1) ((gA x5 x6 x7).1))),(65,pB (hpT x7))],⟨[some ⟨26,[aP x5.aB8]⟩,some ⟨30,bR x7⟩,some ⟨30,bR ((gA x5 x6 x7).1)⟩,some ⟨30,bR ((ML x5 x6 x7).1)⟩,some ⟨30,bR ((gA x5 x6 ((gA x5 x6 x7).1)).1)⟩],[]⟩⟩) wkA ?_;refine dL 65 H (fun g16 H=>gE 7) fun g16 H=>?_;refine qg g16 (bZ [pI (((gA x5 x6 x7).1).aCb),pS (((gA x5 x6 x7).1).aB9),aT (((gA x5 x6 x7).1).aCa)]) (qg g16 (bZ [pI x7.aCb,pS x7.aB9,aT x7.aCa]) (qg g16 (bE func38 (nC ((gA x5 x6 x7).1) x7)) ?_))
   exact gE 4
  exact gE 10
 exact gE 15
end
end Go.Proofs.YtfcoaagbccmahaaGreat.W

namespace Go.Proofs.YtfcoaagbccmahaaGreat.W
set_option maxRecDepth 20000
set_option maxHeartbeats 4000000
open Go.RowKit Go.WalkArith Go.IntWalk
attribute [local irreducible] wt wl lt
def aeM(fu:Nat):Prop:= ∀(pc:DS),Ok (IV fu pc) (fun r=>wl r.1≤900)
theorem afE:bP aeM:=((bP.ge 2147483648).and dX).imp fun fu ⟨hfu,dX⟩ pc=>by
 refine Ok.lt fun d1 h1=>?_
 have:=DS.below_lt pc (n:=3) (by decide)
 have:=(aW:wl ([]:List aG)=0∧_)
 refine Ok.sok (E:=fun(v6,v5)=>wl v6≤300) ?_ ?_
 ·refine Ok.loop0 (fun i3 (v6,v5)=>wl v6≤100*i3∧i3≤3) (by exact bO) (by rintro i3 ⟨v6,v5⟩-hI;(try dsimp only at hI ⊢);omega) ?_;rintro i3 ⟨v6,v5⟩ hl3 hI4
  dsimp only at hI4
  have:bJ.size=4:=rfl
  have:jN.size=3:=rfl
  have:fE.size=3:=rfl
  have:=EP bJ jN fE
  have:=bA bJ
  have:=bA jN
  have:=bA fE
  refine Ok.lt fun d9 h5=>Ok.lt fun y11 h6=>?_
  have:=congrArg wt h6
  simp only [bA] at this
  have:y11.size≤4:=by rw [h6];exact DS.pick_size _ (by decide) (by decide)
  have:f6.size=1:=rfl
  have:CX.size=1:=rfl
  have:=kQ f6 CX
  have:=bA f6
  have:=bA CX
  refine Ok.lt fun d13 h7=>Ok.lt fun y15 h8=>?_
  have:=congrArg wt h8
  simp only [bA] at this
  have:y15.size≤1:=by rw [h8];exact DS.pick_size _ (by decide) (by decide)
  refine oB (dX y15) fun x18 h9=>?_
  have:=aZ (v6)
  have:=aG.wt_mk y11 x18
  have:=b9 (aG.mk y11 x18)
  refine oG fun z10=>?_
  have:=b0 v6 ([(aG.mk y11 x18)]:List aG)
  exact nY
 rintro⟨v6,v5⟩ h2
 dsimp only at h2
 exact oS
end Go.Proofs.YtfcoaagbccmahaaGreat.W

namespace Go.Proofs.YtfcoaagbccmahaaGreat.W
set_option maxRecDepth 20000
set_option maxHeartbeats 4000000
open Go.RowKit Go.WalkArith Go.IntWalk
attribute [local irreducible] wt wl lt
def alM(fu:Nat):Prop:=Ok (R6 fu) (fun r=>wt r≤4)
theorem QR:bP alM:=((bP.ge 2147483648).and cG).imp fun fu ⟨hfu,cG⟩=>by
 have:dP.size=4:=rfl
 have:=(aW:wl ([]:List aA)=0∧_)
 exact oB (cG dP ([]:List aA) bO) fun x2 h1=>oS
def alL(fu:Nat):Prop:= ∀(pc:DS),Ok (E4 fu pc) (fun r=>wt r.1≤1000000)
theorem amC:bP alL:=(((((bP.ge 2147483648).and kZ).and nP).and QR).and cG).imp fun fu ⟨⟨⟨⟨hfu,kZ⟩,nP⟩,QR⟩,cG⟩ pc=>by
 have:=anR 3 (by decide)
 have:=aeR (3:Int).toNat
 refine vS (kZ pc 3 bO) fun x2 x3 h1=>?_
 dsimp only at h1
 refine Ok.lt fun d4 h2=>?_;refine oC (fun g3=>?_) fun g3=>?_
 ·refine Ok.lt fun d7 h4=>?_
  have:=DS.below_lt d4 (n:=7) (by decide)
  have:=eL ((d4.below 7:Int)-1)
  have:=aA.wt_eq x2
  have:=aA.wt_mk (aX ((d4.below 7:Int)-1)) x2.aB9 x2.aCa
  exact oS
 refine oC (fun g5=>?_) fun g5=>?_
 ·have:s_.size=0:=rfl
  have:dR.size=3:=rfl
  have:s_A.size=1:=rfl
  have:fM.size=5:=rfl
  have:rX.size=9:=rfl
  have:=arD s_ dR s_A fM rX
  have:=bA s_
  have:=bA dR
  have:=bA s_A
  have:=bA fM
  have:=bA rX
  refine Ok.lt fun d10 h6=>Ok.lt fun y12 h7=>?_
  have:=congrArg wt h7
  simp only [bA] at this
  have:y12.size≤9:=by rw [h7];exact DS.pick_size _ (by decide) (by decide)
  have:=aA.wt_eq x2
  have:=aA.wt_mk x2.aCb y12 x2.aCa
  exact oS
 refine oC (fun g8=>?_) fun g8=>?_
 ·refine oB (nP) fun x16 h9=>oB (QR) fun x18 h10=>?_
  have:=aA.wt_eq x2
  have:=aZ (x2.aCa)
  have:=EP x16 x18 x16
  refine oG fun z11=>?_
  have:=b0 x2.aCa ([x16,x18,x16]:List aA)
  have:=aA.wt_mk x2.aCb x2.aB9 (x2.aCa++([x16,x18,x16]:List aA))
  exact oS
 refine oC (fun g12=>?_) fun g12=>?_
 ·refine Ok.sok (E:=fun(v22,v23,v24)=>v23.size+wl v24≤200000) ?_ ?_
  ·refine Ok.loop0 (fun i21 (v22,v23,v24)=>v23.size+wl v24≤100000+1000*i21∧i21≤6) (by have:=aA.wt_eq x2;exact bO) (by rintro i21 ⟨v22,v23,v24⟩-hI;(try dsimp only at hI ⊢);omega) ?_;rintro i21 ⟨v22,v23,v24⟩ hl14 hI15
   dsimp only at hI15
   have:cA.size=4:=rfl
   have:=aA.wt_mk v22 v23 v24
   have:=b9 (aA.mk v22 v23 v24)
   refine oB (cG cA ([(aA.mk v22 v23 v24)]:List aA) bO) fun x27 h16=>?_
   have:=aA.wt_eq x27
   exact nY
  rintro⟨v22,v23,v24⟩ h13
  dsimp only at h13
  have:=aA.wt_mk v22 v23 v24
  exact oS
 have:=aA.wt_eq x2
 have:=aA.wt_mk x2.aCb x2.aB9 x2.aCa
 exact oS
def anJ(fu:Nat):Prop:= ∀(pc:DS),Ok (IY fu pc) (fun r=>wt r.1≤1000000)
theorem an2:bP anJ:=((((bP.ge 2147483648).and cG).and sK).and dX).imp fun fu ⟨⟨⟨hfu,cG⟩,sK⟩,dX⟩ pc=>by
 have:dR.size=3:=rfl
 have:dP.size=4:=rfl
 have:gI.size=4:=rfl
 have:=EP dR dP gI
 have:=bA dR
 have:=bA dP
 have:=bA gI
 refine Ok.lt fun d1 h1=>Ok.lt fun y3 h2=>?_
 have:=congrArg wt h2
 simp only [bA] at this
 have:y3.size≤4:=by rw [h2];exact DS.pick_size _ (by decide) (by decide)
 have:=(aW:wl ([]:List aA)=0∧_)
 refine oB (cG y3 ([]:List aA) bO) fun x6 h3=>Ok.lt fun d7 h4=>?_
 have:=DS.below_lt d1 (n:=4) (by decide)
 refine Ok.sok (E:=fun(v11,v12,v13,v10)=>v12.size+wl v13≤6000) ?_ ?_
 ·refine Ok.loop0 (fun i9 (v11,v12,v13,v10)=>v12.size+wl v13≤1000+1000*i9∧i9≤4) (by have:=aA.wt_eq x6;exact bO) (by rintro i9 ⟨v11,v12,v13,v10⟩-hI;(try dsimp only at hI ⊢);omega) ?_;rintro i9 ⟨v11,v12,v13,v10⟩ hl6 hI7
  dsimp only at hI7
  refine Ok.lt fun d16 h8=>?_;refine oC (fun g9=>?_) fun g9=>?_
  ·have:pW.size=3:=rfl
   have:=aA.wt_mk v11 v12 v13
   have:=b9 (aA.mk v11 v12 v13)
   refine oB (cG pW ([(aA.mk v11 v12 v13)]:List aA) bO) fun x20 h10=>?_
   have:=aA.wt_eq x20
   exact nY
  refine oC (fun g11=>?_) fun g11=>?_
  ·have:fE.size=3:=rfl
   have:=aA.wt_mk v11 v12 v13
   refine oB (sK fE (aA.mk v11 v12 v13) bO) fun x23 h12=>?_
   have:=aA.wt_eq x23
   exact nY
  refine oC (fun g13=>?_) fun g13=>?_
  ·refine oB (cG dR ([]:List aA) bO) fun x26 h14=>?_
   have:fE.size=3:=rfl
   refine oB (sK fE x26 bO) fun x28 h15=>?_
   have:l3.size=4:=rfl
   have:=aA.wt_mk v11 v12 v13
   have:=kQ (aA.mk v11 v12 v13) x28
   refine oB (cG l3 ([(aA.mk v11 v12 v13),x28]:List aA) bO) fun x30 h16=>?_
   have:=aA.wt_eq x30
   exact nY
  have:cA.size=4:=rfl
  have:=aA.wt_mk v11 v12 v13
  have:=b9 (aA.mk v11 v12 v13)
  refine oB (cG cA ([(aA.mk v11 v12 v13)]:List aA) bO) fun x32 h17=>?_
  have:=aA.wt_eq x32
  exact nY
 rintro⟨v11,v12,v13,v10⟩ h5
 dsimp only at h5
 refine Ok.lt fun d33 h18=>?_;refine oC (fun g19=>?_) fun g19=>?_
 ·have:f6.size=1:=rfl
  refine oB (dX f6) fun x37 h20=>?_
  have:pW.size=3:=rfl
  have:=b9 x37
  refine oB (cG pW ([x37]:List aA) bO) fun x39 h21=>?_
  have:fE.size=3:=rfl
  refine oB (sK fE x39 bO) fun x41 h22=>?_
  have:l3.size=4:=rfl
  have:=aA.wt_mk v11 v12 v13
  have:=kQ (aA.mk v11 v12 v13) x41
  exact oB (cG l3 ([(aA.mk v11 v12 v13),x41]:List aA) bO) fun x43 h23=>oS
 have:=aA.wt_mk v11 v12 v13
 exact oS
end Go.Proofs.YtfcoaagbccmahaaGreat.W

namespace Go.Proofs.YtfcoaagbccmahaaGreat.W
open Go.RowKit Go.WalkArith Go.Proofs
theorem as3(fu:Nat):Pt (yH fu) NI:=Pt.bd (zH fu _ _) fun _ e=>Pt.some (e ▸ JK)
theorem arK(fu:Nat)(c:DS):Pt (E4 fu c) fun r=> ∀x∈r.1.aCa,NI x:=by
 unfold E4 XH
 refine Pt.bd (aiT fu _ _) fun⟨t,_⟩ h=>?_
 replace h:NI t:=h
 have ha:=oE.args h
 refine Pt.lt fun _ _=>Pt.sw (fun _=>Pt.lt fun _ _=>Pt.some ha) fun _=>Pt.sw (fun _=>Pt.lt fun _ _=>Pt.lt fun _ _=>Pt.some ha) fun _=>Pt.sw (fun _=>Pt.bd (as3 fu) fun a h1=>Pt.bd (Q:=NI) (Pt.bd (zH fu _ _) fun _ e=>Pt.some (e ▸ JK)) fun b h2=>Pt.gd (Pt.some fun x hx=>?_)) fun _=>Pt.sw (fun _=>Pt.so (E:=fun v:Int×ByteArray×List aA=>NI (.mk v.1 v.2.1 v.2.2)) (Pt.loop (fun _ (v:Int×ByteArray×List aA)=>NI (.mk v.1 v.2.1 v.2.2)) (fun _ h=>h) (fun i ⟨_,_,_⟩ _ hv=>?_) _ 0 _ rfl (Nat.zero_le _) (nR h)) fun⟨_,_,_⟩ hv=>Pt.some (oE.args hv)) fun _=>Pt.some ha
 ·rcases List.mem_append.1 hx with h3|h3
  ·exact ha x h3
  ·rcases List.mem_cons.1 h3 with rfl|h3
   ·exact h1
   ·exact V1 h2 h1 x h3
 ·exact Pt.bd (zH fu _ _) fun _ e=>Pt.some (nR (e ▸ DJ rfl (FV hv)))
theorem awB(fu:Nat)(c:DS):Pt (IY fu c) fun r=>NI r.1:=by
 unfold IY aaU
 refine Pt.lt fun _ _=>Pt.lt fun _ _=>Pt.bd (zH fu _ _) fun x e=>Pt.lt fun _ _=>Pt.so (E:=fun v:Int×ByteArray×List aA×DS=>NI (.mk v.1 v.2.1 v.2.2.1)) (Pt.loop (fun _ (v:Int×ByteArray×List aA×DS)=>NI (.mk v.1 v.2.1 v.2.2.1)) (fun _ h=>h) (fun i ⟨_,_,_,_⟩ _ hv=>?_) _ 0 _ rfl (Nat.zero_le _) (nR (e ▸ JK))) fun⟨_,_,_,_⟩ hv=>Pt.lt fun _ _=>Pt.sw (fun _=>Pt.bd (Q:=NI) (Pt.some acC) fun _ h1=>Pt.bd (zH fu _ _) fun _ h2=>Pt.bd (V3 fu _ (h2 ▸ DJ rfl (FV h1))) fun _ h3=>Pt.bd (zH fu _ _) fun _ h4=>Pt.some (h4 ▸ DJ rfl (V1 hv h3))) fun _=>Pt.some hv
 exact Pt.lt fun _ _=>Pt.sw (fun _=>Pt.bd (zH fu _ _) fun _ e=>Pt.some (nR (e ▸ DJ rfl (FV hv)))) fun _=>Pt.sw (fun _=>Pt.bd (V3 fu _ hv) fun _ h=>Pt.some (nR h)) fun _=>Pt.sw (fun _=>Pt.bd (zH fu _ _) fun _ h1=>Pt.bd (V3 fu _ (h1 ▸ JK)) fun _ h2=>Pt.bd (zH fu _ _) fun _ e=>Pt.some (nR (e ▸ DJ rfl (V1 hv h2)))) fun _=>Pt.bd (zH fu _ _) fun _ e=>Pt.some (nR (e ▸ DJ rfl (FV hv)))
theorem ar3{w:aF}(hw:wt w≤13000000){l:List aG}(hl:wl l≤900):GP w l:=⟨hw,by have:=aZ l;omega,fun b hb=>iG.of (by
 have h1:=B7 hb
 have h2:=aG.wt_eq b
 rw [NP]
 omega)⟩
theorem aiS(code:List UInt8): ∃fu,IC fu code=some true:=by
 obtain⟨fu,⟨⟨⟨hfu,kW⟩,kL⟩,kB⟩,kT⟩:=(((((bP.ge 2147483648).and afD).and afE).and amC).and an2).get
 refine⟨fu,?_⟩
 unfold IC aiN
 by_cases hb:code.length≤1048576
 ·refine g0 (decide_eq_false (by omega)) ?_
  obtain⟨⟨w,d⟩,hr,hw⟩:=kW (DS.start code)
  replace hw:wt w≤13000000:=hw
  obtain⟨⟨l,d2⟩,hl,hl2⟩:=kL d
  replace hl2:wl l≤900:=hl2
  have hdraw: ∃t,nT fu code=some (w,l,t)∧wt t≤1000000∧ ∀x∈t.aCa,NI x:=by
   by_cases hc:d2.below 6=0
   ·obtain⟨⟨t,d3⟩,ht,ht2⟩:=kB (d2.after 6)
    refine⟨t,?_,ht2,arK fu _ _ ht⟩
    unfold nT
    exact iJ hb (gO hr (gO hl (UE rfl (jP (decide_eq_true hc) (gO ht rfl)))))
   ·obtain⟨⟨t,d3⟩,ht,ht2⟩:=kT (d2.after 6)
    refine⟨t,?_,ht2,oE.args (awB fu _ _ ht)⟩
    unfold nT
    exact iJ hb (gO hr (gO hl (UE rfl (g0 (decide_eq_false hc) (gO ht rfl)))))
  obtain⟨t,hd,ht,hn⟩:=hdraw
  have hS:=ar3 hw hl2
  have hG:KA w t:=KA.of ht
  have hs: ∀x:aA,aA.eq x x=true:=fun x=>(aA.eq_iff x x).2 rfl
  refine gO hd (iJ hS (iJ hG ?_))
  rw [← arJ (ao4 (apX fu _ _ hr)) (l:=l) hn]
  refine g0 (by simp) (g0 (by rw [hs];rfl) ?_)
  by_cases h0:(gA w l t).2=0
  ·refine g0 (nd0 h0) (iJ (arI hS hG h0) ?_)
   rw [aoB h0]
   refine jP rfl (jP (hs _) ?_)
   cases hp:hpT t with
   |true=>rfl
   |false=>
    have:(gA w l t).1=t:=aoA 12 t hp h0
    rw [this]
    exact congrArg some (hs _)
  ·have:(gA w l t).1=zT:=aaJ 12 t h0
   rw [this]
   exact jP (nd1 h0) (congrArg some (hs _))
 ·exact jP (decide_eq_true (by omega)) rfl
theorem amM(code:List UInt8):bQ Tryz.prog 7 [rU code] (pB true):=let⟨fu,h⟩:=aiS code;ab6 fu code true h
end Go.Proofs.YtfcoaagbccmahaaGreat.W
