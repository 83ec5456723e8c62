/- Words, rules and walks of several kinds, laid together. No conditions but those that each theorem states. -/
import Derived.Test.YtfcoaagbccmahaaGreatQhefa96bb9
set_option linter.unusedSimpArgs false
set_option linter.unusedVariables false
namespace Go.Proofs.YtfcoaagbccmahaaGreat.W
set_option maxRecDepth 100000
set_option maxHeartbeats 40000000
noncomputable section
open Tryz Go.RowKit Go.Proofs
attribute [local irreducible] lt
abbrev D1:=aA→Option Int
def D0(m:D1):Prop:= ∀(pt:aA) (r:Int),m pt=some r→bS prog 109 [(aA.pv pt)] (pI r:PV)
def QH(fu:Nat)(p3:D1)(pt:aA):Nat→Int→J (LR Int Int):=fun i1 v2=>bd (p3 (aR pt.aD5 i1)) fun x6=>some (.next (aW (v2+x6)))
def JM(fu:Nat)(p3:D1)(pt:aA):J Int:=so (loopN (QH fu p3 pt) (pt.aD5.length-0) 0 1) fun v2=>some v2
theorem X5(fu:Nat)(p3:D1)(pE:D0 p3):D0 (JM fu p3):=by
 intro pt r H
 refine qJ func109 H (fun C hC H=>?_)
 refine gQ 2 ?_;refine q1 (fN (b7 pt)) ?_;refine gQ 11 ?_;refine c7.fact (cQ 0 2 rfl rfl rfl (aA.trs_len _)) (fun hl3=>?_)
 try dsimp only at hl3
 refine bV (σ:=Int) (fun i1 v2=>⟨[(1,.ptr 0 0),(2,pI 0),(3,pI v2),(4,pN i1)],⟨[some ⟨30,b7 pt⟩],[]⟩⟩) (fun v2=>⟨[(2,pI 0),(3,pI v2)],⟨[some ⟨30,b7 pt⟩],[]⟩⟩) (eX H) ?_ ?_
 ·rintro i1 v2 H
  refine gQ 9 ?_;refine c5 H (fun h4 h4l H=>?_) (fun h4 H=>?_)
  ·refine gQ 9 ?_;refine q1 (iR (aA.cs (aR pt.aD5 i1))) (bM H fun x6 z5 H=>(q1 (bI func109 (pE (aR pt.aD5 i1) _ z5)) ?_))
   exact gE 8
  exact gE 0
 rintro v2 H
 exact gE 5
def nJ:Nat→aA→J Int
 |0,_=>none
 |fu+1,pt=>JM fu (nJ fu) pt
theorem aaD(fu:Nat):D0 (nJ fu):=by
 induction fu with
 |zero=>exact(fun pt r H=>by simp only [nJ] at H;cases H)
 |succ fu ih=>exact(fun pt r H=>by simp only [nJ] at H;exact X5 fu (nJ fu) ih pt r H)
theorem adR(fu:Nat):D0 (nJ fu):=(aaD fu)
abbrev DP:=aA→Option Int
def DO(m:DP):Prop:= ∀(pt:aA) (r:Int),m pt=some r→bS prog 105 [(aA.pv pt)] (pI r:PV)
def PO(fu:Nat)(p4:DP)(pt:aA):Nat→Int→J (LR Int Int):=fun i1 v2=>bd (p4 (aR pt.aD5 i1)) fun x6=>some (.next (aW (v2+x6)))
def I4(fu:Nat)(p4:DP)(pt:aA):J Int:=so (loopN (PO fu p4 pt) (pt.aD5.length-0) 0 1) fun v2=>some v2
theorem WY(fu:Nat)(p4:DP)(pF:DO p4):DO (I4 fu p4):=by
 intro pt r H
 refine qJ func105 H (fun C hC H=>?_)
 refine gQ 2 ?_;refine q1 (fN (b7 pt)) ?_;refine gQ 14 ?_;refine gM 7 (aA.trs_len _) (fun hl3=>?_)
 try dsimp only at hl3
 refine bV (σ:=Int) (fun i1 v2=>⟨[(2,pI 0),(3,pI v2),(7,aT pt.aD5),(8,pN pt.aD5.length),(9,pN i1)],⟨[some ⟨30,b7 pt⟩],[]⟩⟩) (fun v2=>⟨[(2,pI 0),(3,pI v2)],⟨[some ⟨30,b7 pt⟩],[]⟩⟩) (eX H) ?_ ?_
 ·rintro i1 v2 H
  refine gQ 5 ?_;refine c5 H (fun h4 h4l H=>?_) (fun h4 H=>?_)
  ·refine gQ 6 ?_;refine q1 (iR (aA.cs (aR pt.aD5 i1))) ?_;refine gQ 5 ?_;refine q1 (b5 [pI ((aR pt.aD5 i1).aD8),pS ((aR pt.aD5 i1).aD4),aT ((aR pt.aD5 i1).aD5)]) (bM H fun x6 z5 H=>(q1 (bI func105 (pF (aR pt.aD5 i1) _ z5)) ?_))
   exact gE 7
  exact gE 0
 rintro v2 H
 exact gE 5
def m9:Nat→aA→J Int
 |0,_=>none
 |fu+1,pt=>I4 fu (m9 fu) pt
theorem ZN(fu:Nat):DO (m9 fu):=by
 induction fu with
 |zero=>exact(fun pt r H=>by simp only [m9] at H;cases H)
 |succ fu ih=>exact(fun pt r H=>by simp only [m9] at H;exact WY fu (m9 fu) ih pt r H)
theorem ac2(fu:Nat):DO (m9 fu):=(ZN fu)
abbrev qD:=aH→(List aJ)→aF→(List aA)→Option Int
def HF(m:qD):Prop:= ∀(p9:aH) (p5:Z aJ) (p0:aF) (a3:Z aA) (r:Int),m p9 p5 p0 a3=some r→bS prog 52 [(aH.pv p9),bZ p5,(aF.pv p0),aT a3] (pI r:PV)
def JW(fu:Nat)(p1:qD)(p9:aH)(p5:Z aJ)(p0:aF)(a3:Z aA):J (Int⊕Unit):=sw (decide (p0.aD6.aD8=2)) (bd (BM fu p0.aD6.aD4) fun x3=>sw x3 (some (.inl 0)) (bd (lM fu p5 p0) fun x6=>sw (decide (x6≥0)) (some (.inl 0)) (some (.inr ())))) (bd (lM fu p5 p0) fun x9=>sw (decide (x9≥0)) (some (.inl 0)) (some (.inr ())))
def JX(fu:Nat)(p1:qD)(p9:aH)(p5:Z aJ)(p0:aF)(a3:Z aA):Nat→Unit→J (LR Unit Int):=fun i11 _=>sw (aA.eq (aR a3 i11) p0.aD6) (some (.ret 0)) (some (.next ()))
def T8(fu:Nat)(p1:qD)(p9:aH)(p5:Z aJ)(p0:aF)(a3:Z aA)(x16:aM)(x17:Int)(x18:Bool)(x24:Int):Nat→((Z aK))→J (LR ((Z aK)) Int):=fun i26 v28=>gd (i26<(p0.aD6.aD5).length) (gd ((v28).length+(([(aK.mk (aR x16.aEh i26) (aR p0.aD6.aD5 i26))]:Z aK)).length≤68719476736) (some (.next (v28++([(aK.mk (aR x16.aEh i26) (aR p0.aD6.aD5 i26))]:Z aK)))))
def UA(fu:Nat)(p1:qD)(p9:aH)(p5:Z aJ)(p0:aF)(a3:Z aA)(x16:aM)(x17:Int)(x18:Bool)(x24:Int)(v28:Z aK)(i35:Nat):Nat→Unit→J (LR Unit (LR Unit Int)):=fun i38 _=>gd (r7 v28) (gd (iV (aR ((aR x16.aD9 i35).aEm) i38)) (bd (p1 p9 p5 (aF.mk p0.aEb (lC v28 (aR ((aR x16.aD9 i35).aEm) i38))) ((([])++a3)++([p0.aD6]:Z aA))) fun x44=>sw (!decide (x44=0)) (some (.ret (.ret x44))) (some (.next ()))))
def T9(fu:Nat)(p1:qD)(p9:aH)(p5:Z aJ)(p0:aF)(a3:Z aA)(x16:aM)(x17:Int)(x18:Bool)(x24:Int)(v28:Z aK):Nat→Unit→J (LR Unit Int):=fun i35 _=>so (loopN (UA fu p1 p9 p5 p0 a3 x16 x17 x18 x24 v28 i35) (((aR x16.aD9 i35).aEm).length-0) 0 ()) fun _=>some (.next ())
def HB(fu:Nat)(p1:qD)(p9:aH)(p5:Z aJ)(p0:aF)(a3:Z aA):J Int:=so (JW fu p1 p9 p5 p0 a3) fun _=>so (loopN (JX fu p1 p9 p5 p0 a3) (a3.length-0) 0 ()) fun _=>bd (A6 fu p9 p0.aD6.aD4) fun(x16,x17,x18)=>sw (!decide (p0.aD6.aD8=2)) (some 1) (sw (!(x18)) (some 1) (sw (!decide ((x16.aEh.length:Int)=(p0.aD6.aD5.length:Int))) (some 1) (sw (decide ((a3.length:Int)>30)) (some 3) (bd (nJ fu p0.aD6) fun x24=>sw (decide (x24>400)) (some 3) (so (loopN (T8 fu p1 p9 p5 p0 a3 x16 x17 x18 x24) (x16.aEh.length-0) 0 ([])) fun v28=>gd (([]:Z aA).length+(a3).length≤68719476736) (gd ((([])++a3).length+(([p0.aD6]:Z aA)).length≤68719476736) (so (loopN (T9 fu p1 p9 p5 p0 a3 x16 x17 x18 x24 v28) (x16.aD9.length-0) 0 ()) fun _=>some 0)))))))
theorem aaR(fu:Nat)(p1:qD)(pH:HF p1):HF (HB fu p1):=by
 intro p9 p5 p0 a3 r H
 refine qJ func52 H (fun C hC H=>?_)
 refine gQ 2 ?_;refine q1 (fN ([aQ p9.aD3])) (q1 (fN (dG p0)) ?_)
 refine gQ 3 ?_;refine oT (σ:=Unit) (fun _=>⟨[(1,bZ p5),(3,aT a3),(4,.ptr 0 0),(6,.ptr 1 0),(8,pI 0)],⟨[some ⟨26,[aQ p9.aD3]⟩,some ⟨32,dG p0⟩],[]⟩⟩) (eX H) (fun H=>?_) ?_
 ·refine gQ 7 ?_;refine dK 23 H (fun g1 H=>?_) fun g1 H=>?_
  ·refine gQ 3 ?_;refine bM H fun x3 z2 H=>(qg g1 (bI func108 (OI fu p0.aD6.aD4 _ z2)) ?_)
   refine gQ 2 ?_;refine dK 29 H (fun g4 H=>gE 11) fun g4 H=>?_;refine qg g4 bG (qg g4 (b5 [pS p0.aEb,pI p0.aD6.aD8,pS p0.aD6.aD4,aT p0.aD6.aD5]) (bM H fun x6 z5 H=>(qg g4 (bI func14 (uI fu p5 p0 _ z5)) ?_)))
   refine gQ 3 ?_;refine bE H (fun h7 H=>gE 4) fun h7 H=>?_;exact gE 1
  refine gQ 7 ?_;refine qg rfl (b5 [pS p0.aEb,pI p0.aD6.aD8,pS p0.aD6.aD4,aT p0.aD6.aD5]) (bM H fun x9 z8 H=>(qg rfl (bI func14 (uI fu p5 p0 _ z8)) ?_))
  refine gQ 3 ?_;refine bE H (fun h10 H=>gE 4) fun h10 H=>?_;exact gE 1
 rintro⟨⟩ H
 refine gQ 5 ?_;refine gM 3 (aA.trs_len _) (fun hl12=>?_)
 try dsimp only at hl12
 refine bV (σ:=Unit) (fun i11 _=>⟨[(1,bZ p5),(3,aT a3),(4,.ptr 0 0),(6,.ptr 1 0),(8,pI 0),(9,pN i11)],⟨[some ⟨26,[aQ p9.aD3]⟩,some ⟨32,dG p0⟩],[]⟩⟩) (fun _=>⟨[(1,bZ p5),(3,aT a3),(4,.ptr 0 0),(6,.ptr 1 0),(8,pI 0)],⟨[some ⟨26,[aQ p9.aD3]⟩,some ⟨32,dG p0⟩],[]⟩⟩) (eX H) ?_ ?_
 ·rintro i11 ⟨⟩ H
  refine gQ 8 ?_;refine c5 H (fun h13 h13l H=>?_) (fun h13 H=>?_)
  ·refine gQ 4 ?_;refine dW (dI [3] bG (dI [9] bG (dI [41,42] rB (dI [43] (iR (aA.cs (aR a3 i11))) (dI [6] bY (dD [45] (b5 [pI p0.aD6.aD8,pS p0.aD6.aD4,aT p0.aD6.aD5]) (dI [44,46] (bI func38 (ET (aR a3 i11) p0.aD6)) (dN ?_))))))))
   refine bE H (fun h14 H=>gE 4) fun h14 H=>?_;exact gE 6
  exact gE 0
 rintro⟨⟩ H
 refine gQ 2 ?_;refine q1 (b5 [aQ p9.aD3]) ?_;refine gQ 3 ?_;refine IC H fun x16 x17 x18 z15 H=>(q1 (bI func53 (aaL fu p9 p0.aD6.aD4 _ z15)) ?_)
 refine gQ 17 ?_;refine dK 61 H (fun g19 H=>gE 19) fun g19 H=>?_;refine gQ 4 ?_;refine dK 65 H (fun g20 H=>gE 15) fun g20 H=>?_;refine gQ 10 ?_;refine bE H (fun h21 H=>gE 4) fun h21 H=>?_;refine gQ 8 ?_;refine dK 78 H (fun g22 H=>gE 11) fun g22 H=>?_;refine qg g22 bY (qg g22 (b5 [pI p0.aD6.aD8,pS p0.aD6.aD4,aT p0.aD6.aD5]) (bM H fun x24 z23 H=>(qg g22 (bI func109 (adR fu p0.aD6 _ z23)) ?_)))
 refine gQ 3 ?_;refine bE H (fun h25 H=>gE 4) fun h25 H=>?_;refine gQ 3 ?_;refine q1 (sA ([]:Z aK)) ?_;refine gQ 7 ?_;refine gM 67 (b0 _) (fun hl29=>?_)
 try dsimp only at hl29
 refine bV (σ:=(Z aK)) (fun i26 v28=>⟨[(1,bZ p5),(3,aT a3),(4,.ptr 0 0),(6,.ptr 1 0),(8,pI 0),(10,.ptr 2 0),(13,mB v28 0),(14,pN i26)],⟨[some ⟨26,[aQ p9.aD3]⟩,some ⟨32,dG p0⟩,some ⟨39,jX x16⟩],[⟨44,4,aK.trs (v28),false⟩]⟩⟩) (fun v28=>⟨[(1,bZ p5),(3,aT a3),(4,.ptr 0 0),(6,.ptr 1 0),(8,pI 0),(10,.ptr 2 0),(13,mB v28 0)],⟨[some ⟨26,[aQ p9.aD3]⟩,some ⟨32,dG p0⟩,some ⟨39,jX x16⟩],[⟨44,4,aK.trs (v28),false⟩]⟩⟩) (eX H) ?_ ?_
 ·rintro i26 v28 H
  refine gQ 9 ?_;refine c5 H (fun h30 h30l H=>?_) (fun h30 H=>?_)
  ·refine gQ 3 ?_;refine cK H fun z31 H=>(cK H fun z32 H=>(dW (dI [13] bG (dI [10] bY (dD [93] eI (dI [14] bG (dI [94,95] rB (dI [96] yB (dI [6] bY (dI [98] bY (dD [99] eI (dI [14] bG (dI [100,101] rB ?_)))))))))))))
   refine dI [102] (iR (aA.cs (aR p0.aD6.aD5 i26))) (dI [97,103] rR (dI [104] (iQ ([(aK.mk (aR x16.aEh i26) (aR p0.aD6.aD5 i26))]:Z aK)) (dE [92,105] (mA z32) (dI [106] bG (dN ?_)))))
   exact gE 5
  exact gE 0
 rintro v28 H
 refine qS (cK H fun z33 H=>(cK H fun z34 H=>(dW (dE [] (sA ([]:Z aA)) (dI [3] bG (dE [107,108] (mA z33) (dI [6] bY (dB [110] 0 2 (IM [pI p0.aD6.aD8,pS p0.aD6.aD4,aT p0.aD6.aD5]) (dI [111] (iQ ([p0.aD6]:Z aA)) (dE [109,112] (mA z34) (dI [113] bG (dN ?_))))))))))))
 refine gQ 5 ?_;refine c7.fact (cQ 2 2 rfl rfl rfl (aC.trs_len _)) (fun hl36=>?_)
 try dsimp only at hl36
 refine bV (σ:=Unit) (fun i35 _=>⟨[(1,bZ p5),(4,.ptr 0 0),(6,.ptr 1 0),(8,pI 0),(10,.ptr 2 0),(13,mB v28 0),(15,iY ((([])++a3)++([p0.aD6]:Z aA)) 1),(16,pN i35)],⟨[some ⟨26,[aQ p9.aD3]⟩,some ⟨32,dG p0⟩,some ⟨39,jX x16⟩],[⟨44,4,aK.trs (v28),false⟩,⟨30,3,aA.trs ((([])++a3)++([p0.aD6]:Z aA)),false⟩]⟩⟩) (fun _=>⟨[(8,pI 0)],⟨[some ⟨26,[aQ p9.aD3]⟩,some ⟨32,dG p0⟩,some ⟨39,jX x16⟩],[⟨44,4,aK.trs (v28),false⟩,⟨30,3,aA.trs ((([])++a3)++([p0.aD6]:Z aA)),false⟩]⟩⟩) (eX H) ?_ ?_
 ·rintro i35 ⟨⟩ H
  refine gQ 9 ?_;refine c5 H (fun h37 h37l H=>?_) (fun h37 H=>?_)
  ·refine gQ 7 ?_;refine bV (σ:=Unit) (fun i38 _=>⟨[(1,bZ p5),(4,.ptr 0 0),(6,.ptr 1 0),(8,pI 0),(10,.ptr 2 0),(13,mB v28 0),(15,iY ((([])++a3)++([p0.aD6]:Z aA)) 1),(16,pN i35),(17,pN i38),(114,pN i35),(115,.ptr 2 2),(116,dT x16.aD9),(117,pN x16.aD9.length),(118,pB (decide ((i35:Int)<(x16.aD9.length:Int))))],⟨[some ⟨26,[aQ p9.aD3]⟩,some ⟨32,dG p0⟩,some ⟨39,jX x16⟩],[⟨44,4,aK.trs (v28),false⟩,⟨30,3,aA.trs ((([])++a3)++([p0.aD6]:Z aA)),false⟩]⟩⟩) (fun _=>⟨[(1,bZ p5),(4,.ptr 0 0),(6,.ptr 1 0),(8,pI 0),(10,.ptr 2 0),(13,mB v28 0),(15,iY ((([])++a3)++([p0.aD6]:Z aA)) 1),(16,pN i35),(114,pN i35),(115,.ptr 2 2),(116,dT x16.aD9),(117,pN x16.aD9.length),(118,pB (decide ((i35:Int)<(x16.aD9.length:Int))))],⟨[some ⟨26,[aQ p9.aD3]⟩,some ⟨32,dG p0⟩,some ⟨39,jX x16⟩],[⟨44,4,aK.trs (v28),false⟩,⟨30,3,aA.trs ((([])++a3)++([p0.aD6]:Z aA)),false⟩]⟩⟩) (eX H) ?_ ?_
   ·rintro i38 ⟨⟩ H
    refine gQ 10 ?_;refine ZW 127 (aA.trs_len _) (fun hl39=>?_)
    try dsimp only at hl39
    refine gQ 3 ?_;refine c5 H (fun h40 h40l H=>?_) (fun h40 H=>?_)
    ·refine gQ 4 ?_;refine cK H fun z41 H=>(cK H fun z42 H=>(bM H fun x44 z43 H=>(dW (dD [4] (b5 [aQ p9.aD3]) (dI [1] bG (dI [6] bY (dD [134] eI (dI [13] bG (dI [10] bY (dD [137] eI (dI [16] bG (dI [138,139] rB (dI [140] zL ?_)))))))))))))
     refine dI [141] yB (dI [17] bG (dI [142,143] rB (dI [144] (iR (aA.cs (aR ((aR x16.aD9 i35).aEm) i38))) (dI [136,145] (bI func110 (abQ v28 (aR ((aR x16.aD9 i35).aEm) i38) z41 z42)) (dI [135,146] rR (dI [15] bG (dI [132,133,147,148] (bI func52 (pH p9 p5 (aF.mk p0.aEb (lC v28 (aR ((aR x16.aD9 i35).aEm) i38))) ((([])++a3)++([p0.aD6]:Z aA)) _ z43)) (dI [149] bG (dN ?_)))))))))
     refine gQ 5 ?_;refine bE H (fun h45 H=>?_) (fun h45 H=>?_)
     ·refine gQ 5 ?_;refine c7.ret ?_
      obtain rfl:_=r:=(lkR (skL (lkR (wL H))):)
      exact XH
     exact gE 6
    exact gE 0
   rintro⟨⟩ H
   exact gE 5
  exact gE 0
 rintro⟨⟩ H
 exact gE 4
def kV:Nat→aH→(Z aJ)→aF→(Z aA)→J Int
 |0,_,_,_,_=>none
 |fu+1,p9,p5,p0,a3=>HB fu (kV fu) p9 p5 p0 a3
theorem aeL(fu:Nat):HF (kV fu):=by
 induction fu with
 |zero=>exact(fun p9 p5 p0 a3 r H=>by simp only [kV] at H;cases H)
 |succ fu ih=>exact(fun p9 p5 p0 a3 r H=>by simp only [kV] at H;exact aaR fu (kV fu) ih p9 p5 p0 a3 r H)
theorem ah9(fu:Nat):HF (kV fu):=(aeL fu)
def GK(fu:Nat)(pG:Y):J Bool:=sw (decide (pG=eY)) (some true) (some (decide (pG=eQ)))
theorem ZT(fu:Nat)(pG:Y)(r:Bool)(H:GK fu pG=some r):bS prog 100 [pS pG] (pB r):=by
 refine qJ func100 H (fun C hC H=>?_)
 refine gQ 9 ?_;refine dK 5 H (fun g1 H=>gE 5) fun g1 H=>?_;exact gE 5
def NB(fu:Nat)(pu c1:aA):J Bool:=some (aA.eq pu c1)
theorem agI(fu:Nat)(pu:aA)(c1:aA)(r:Bool)(H:NB fu pu c1=some r):cF prog 104 [(aA.pv pu),.ptr 0 0] ⟨[some ⟨30,b7 c1⟩],[]⟩ (fun q t=>q=(pB r)∧t=⟨[some ⟨30,b7 c1⟩],[]⟩):=by
 refine qJ func104 H (fun C hC H=>?_)
 refine gQ 2 ?_;refine q1 (fN (b7 pu)) ?_;refine gQ 4 ?_;refine q1 (b5 [pI pu.aD8,pS pu.aD4,aT pu.aD5]) (q1 (b5 [pI c1.aD8,pS c1.aD4,aT c1.aD5]) (q1 (bI func95 (EH pu c1)) ?_))
 exact gE 2
def qM(fu:Nat)(ps:Z aA)(c1_0:aA):Nat→Unit→J (LR Unit Int):=fun i1 _=>bd (NB fu (aR ps i1) c1_0) fun x5=>sw x5 (some (.ret (i1:Int))) (some (.next ()))
def jK(fu:Nat)(ps:Z aA)(c1_0:aA):J Int:=so (loopN (qM fu ps c1_0) (ps.length-0) 0 ()) fun _=>some (-1)
theorem zP(fu:Nat)(ps:Z aA)(c1_0:aA)(r:Int)(H:jK fu ps c1_0=some r):cF prog 150 [aT ps,.fn 104 [.ptr 0 0]] ⟨[some ⟨30,b7 c1_0⟩],[]⟩ (fun q t=>q=(pI r)∧t=⟨[some ⟨30,b7 c1_0⟩],[]⟩):=by
 refine qJ func150 H (fun C hC H=>?_)
 refine gQ 11 ?_;refine gM 0 (aA.trs_len _) (fun hl2=>?_)
 try dsimp only at hl2
 refine bV (σ:=Unit) (fun i1 _=>⟨[(0,aT ps),(1,.fn 104 [.ptr 0 0]),(4,pI 0),(7,pN ps.length),(8,pN i1)],⟨[some ⟨30,b7 c1_0⟩],[]⟩⟩) (fun _=>⟨[(4,pI 0)],⟨[some ⟨30,b7 c1_0⟩],[]⟩⟩) (eX H) ?_ ?_
 ·rintro i1 ⟨⟩ H
  refine gQ 5 ?_;refine c5 H (fun h3 h3l H=>?_) (fun h3 H=>?_)
  ·refine gQ 14 ?_;refine q1 (iR (aA.cs (aR ps i1))) (bM H fun x5 z4 H=>(q1 (bC.callVPE (pre:=⟨[some ⟨30,b7 c1_0⟩],[]⟩) (st':=⟨[some ⟨30,b7 c1_0⟩],[]⟩) (ps:= [_]) (cs:= [.ptr 0 0]) (qs:= [(aA.pv (aR ps i1)),.ptr 0 0]) [0] [] rfl rfl rfl func104 (by kernel_rfl) rfl rfl rfl (fK.of ⟨⟨_,rfl,rfl,kA,rfl⟩,trivial⟩ trivial (by decide) (by decide)) kA rfl rfl rfl (agI fu (aR ps i1) c1_0 _ z4)) (qN ?_)))
   refine bE H (fun h6 H=>gE 5) fun h6 H=>?_;exact gE 5
  exact gE 0
 rintro⟨⟩ H
 exact gE 4
def hM(fu:Nat)(ps:Z aA)(c1_0:aA):J Bool:=bd (jK fu ps c1_0) fun x2=>some (decide (x2≥0))
theorem wH(fu:Nat)(ps:Z aA)(c1_0:aA)(r:Bool)(H:hM fu ps c1_0=some r):cF prog 103 [aT ps,.fn 104 [.ptr 0 0]] ⟨[some ⟨30,b7 c1_0⟩],[]⟩ (fun q t=>q=(pB r)∧t=⟨[some ⟨30,b7 c1_0⟩],[]⟩):=by
 refine qJ func103 H (fun C hC H=>?_)
 refine gQ 8 ?_;refine bM H fun x2 z1 H=>(q1 (fJ [0] [] func150 (zP fu ps c1_0 _ z1)) ?_)
 exact gE 3
def aa9(fu:Nat)(p8:LB)(p7:Z aA):Nat→((Z aK))→J (LR ((Z aK)) ((Z aK))):=fun i1 v3=>gd (i1<(p8).length) (gd (i1<(p7).length) (gd ((v3).length+(([(aK.mk (aR p8 i1) (aR p7 i1))]:Z aK)).length≤68719476736) (some (.next (v3++([(aK.mk (aR p8 i1) (aR p7 i1))]:Z aK))))))
def PR(fu:Nat)(p8:LB)(p7:Z aA):J ((Z aK)):=so (loopN (aa9 fu p8 p7) (min p8.length p7.length-0) 0 ([])) fun v3=>some v3
theorem anV(fu:Nat)(p8:LB)(p7:Z aA)(r:(Z aK))(H:PR fu p8 p7=some r):bS prog 106 [rS p8,aT p7] (gK r):=by
 refine qJ func106 H (fun C hC H=>?_)
 refine gQ 6 ?_;refine q1 (sA ([]:Z aK)) ?_;refine gQ 9 ?_;refine q1 (rMn) ?_;refine gQ 2 ?_;refine gM 0 (b0 _) (fun hl4=>?_)
 try dsimp only at hl4
 refine bV (σ:=(Z aK)) (fun i1 v3=>⟨[(0,rS p8),(1,aT p7),(4,.nil),(5,mB v3 0),(12,pN (min p8.length p7.length)),(13,pN i1)],⟨[],[⟨44,4,aK.trs (v3),false⟩]⟩⟩) (fun v3=>⟨[(4,.nil),(5,mB v3 0)],⟨[],[⟨44,4,aK.trs (v3),false⟩]⟩⟩) (eX H) ?_ ?_
 ·rintro i1 v3 H
  refine gQ 5 ?_;refine c5 H (fun h5 h5l H=>?_) (fun h5 H=>?_)
  ·refine gQ 8 ?_;refine cK H fun z6 H=>(cK H fun z7 H=>(cK H fun z8 H=>(dW (dI [5] bG (dI [0] bG (dI [6] bG (dI [17,18] rB (dI [19] yB (dI [1] bG (dI [6] bG (dI [21,22] rB (dI [23] (iR (aA.cs (aR p7 i1))) (dI [20,24] rR ?_)))))))))))))
   refine dI [25] (iQ ([(aK.mk (aR p8 i1) (aR p7 i1))]:Z aK)) (dE [16,26] (mA z8) (dI [27] bG (dN ?_)))
   exact gE 4
  exact gE 0
 rintro v3 H
 exact gE 5
abbrev CI:=bQ→ByteArray→aA→(List aA)→Option Int
def P0(m:CI):Prop:= ∀(pA:bQ) (p5:Y) (p6:aA) (pC:Z aA) (r:Int),m pA p5 p6 pC=some r→cF prog 51 [.ptr 0 0,pS p5,(aA.pv p6),aT pC] ⟨[some ⟨145,[aQ pA.aEO.aD3,bZ pA.aEu]⟩],[]⟩ (fun q t=>q=(pI r:PV)∧t=⟨[some ⟨145,[aQ pA.aEO.aD3,bZ pA.aEu]⟩],[]⟩)
def R2(fu:Nat)(p2:CI)(pA:bQ)(p5:Y)(p6:aA)(pC:Z aA):J (Int⊕Unit):=sw (decide (p6.aD8=2)) (bd (GK fu p6.aD4) fun x3=>sw x3 (sw (decide ((p6.aD5.length:Int)=0)) (some (.inl 0)) (some (.inr ()))) (some (.inr ()))) (some (.inr ()))
def abC(fu:Nat)(p2:CI)(pA:bQ)(p5:Y)(p6:aA)(pC:Z aA)(x7:Int)(x10:aM)(x11:Int)(x12 x17:Bool)(x21:Int)(x24:Z aK)(i27:Nat):Nat→Unit→J (LR Unit (LR Unit Int)):=fun i31 _=>gd (r7 x24) (gd (iV (aR ((aR x10.aD9 i27).aEm) i31)) (bd (p2 pA p5 (lC x24 (aR ((aR x10.aD9 i27).aEm) i31)) (pC++([p6]:Z aA))) fun x36=>sw (!decide (x36=0)) (some (.ret (.ret x36))) (some (.next ()))))
def abB(fu:Nat)(p2:CI)(pA:bQ)(p5:Y)(p6:aA)(pC:Z aA)(x7:Int)(x10:aM)(x11:Int)(x12 x17:Bool)(x21:Int)(x24:Z aK):Nat→Unit→J (LR Unit Int):=fun i27 _=>so (loopN (abC fu p2 pA p5 p6 pC x7 x10 x11 x12 x17 x21 x24 i27) (((aR x10.aD9 i27).aEm).length-0) 0 ()) fun _=>some (.next ())
def PZ(fu:Nat)(p2:CI)(pA:bQ)(p5:Y)(p6:aA)(pC:Z aA):J Int:=so (R2 fu p2 pA p5 p6 pC) fun _=>bd (m7 fu pA.aEu (aF.mk p5 p6)) fun x7=>sw (decide (x7≥0)) (some 0) (bd (VI fu pA.aEO p6.aD4) fun(x10,x11,x12)=>sw (!decide (p6.aD8=2)) (some 1) (sw (!(x12)) (some 1) (sw (!decide ((x10.aEh.length:Int)=(p6.aD5.length:Int))) (some 1) (bd (hM fu pC p6) fun x17=>sw x17 (some 0) (sw (decide ((pC.length:Int)>30)) (some 3) (bd (m9 fu p6) fun x21=>sw (decide (x21>400)) (some 3) (bd (PR fu x10.aEh p6.aD5) fun x24=>gd ((pC).length≤68719476735) (gd ((pC).length+(([p6]:Z aA)).length≤68719476736) (so (loopN (abB fu p2 pA p5 p6 pC x7 x10 x11 x12 x17 x21 x24) (x10.aD9.length-0) 0 ()) fun _=>some 0)))))))))
theorem agJ(fu:Nat)(p2:CI)(pJ:P0 p2):P0 (PZ fu p2):=by
 intro pA p5 p6 pC r H
 refine qJ func51 H (fun C hC H=>?_)
 refine gQ 2 ?_;refine q1 (fN (b7 p6)) ?_;refine gQ 3 ?_;refine oT (σ:=Unit) (fun _=>⟨[(0,.ptr 0 0),(1,pS p5),(3,aT pC),(6,.ptr 1 0),(8,pI 0)],⟨[some ⟨145,[aQ pA.aEO.aD3,bZ pA.aEu]⟩,some ⟨30,b7 p6⟩],[]⟩⟩) (eX H) (fun H=>?_) ?_
 ·refine gQ 6 ?_;refine dK 22 H (fun g1 H=>?_) fun g1 H=>?_
  ·refine gQ 2 ?_;refine bM H fun x3 z2 H=>(qg g1 (bI func100 (ZT fu p6.aD4 _ z2)) ?_)
   refine gQ 2 ?_;refine dK 27 H (fun g4 H=>?_) fun g4 H=>?_
   ·refine gQ 6 ?_;refine bE H (fun h5 H=>gE 4) fun h5 H=>?_;exact gE 1
   exact gE 8
  exact gE 13
 rintro⟨⟩ H
 refine gQ 2 ?_;refine bM H fun x7 z6 H=>(dW (dI [0] bG (dI [33] vW (dI [34] bY (dD [35] eI (dI [1] bG (dD [6] (b5 [pI p6.aD8,pS p6.aD4,aT p6.aD5]) (dI [37,38] rR (dI [36,39] (bI func101 (CC fu pA.aEu (aF.mk p5 p6) _ z6)) (dI [40] rGe (dN ?_)))))))))))
 refine bE H (fun h8 H=>gE 4) fun h8 H=>?_;refine gQ 2 ?_;refine IC H fun x10 x11 x12 z9 H=>(dW (dI [0] bG (dI [43] vW (dI [44] bY (dB [45] 0 1 (IM [aQ pA.aEO.aD3]) (dI [6] bY (dB [47] 0 1 vE (dI [46,48] (bI func102 (ap3 fu pA.aEO p6.aD4 _ z9)) (dI [49] bG ?_)))))))))
 iterate 3 refine dI [42] rEx ?_
 refine dE [] tAl (mK [9,50] lT (dI [51] bG (dI [52] bG (dN ?_))))
 refine gQ 7 ?_;refine dK 56 H (fun g13 H=>gE 18) fun g13 H=>?_;refine gQ 4 ?_;refine dK 60 H (fun g14 H=>gE 14) fun g14 H=>?_;refine gQ 9 ?_;refine bE H (fun h15 H=>gE 4) fun h15 H=>?_;refine gQ 5 ?_;refine q1 rMf (bM H fun x17 z16 H=>(q1 (fJ [1] [] func103 (wH fu pC p6 _ z16)) (qN ?_)))
 refine bE H (fun h18 H=>gE 4) fun h18 H=>?_;refine gQ 8 ?_;refine dK 75 H (fun g19 H=>gE 10) fun g19 H=>?_;refine qg g19 (b5 [pI p6.aD8,pS p6.aD4,aT p6.aD5]) (bM H fun x21 z20 H=>(qg g19 (bI func105 (ac2 fu p6 _ z20)) ?_))
 refine gQ 3 ?_;refine bE H (fun h22 H=>gE 4) fun h22 H=>?_;refine gQ 7 ?_;refine bM H fun x24 z23 H=>(q1 (bI func106 (anV fu x10.aEh p6.aD5 _ z23)) ?_)
 refine gQ 3 ?_;refine cK H fun z25 H=>(cK H fun z26 H=>(dW (dI [3] bG (dE [85] (bC.callOwn (pre:=⟨[],[]⟩) (B:= []) (R:=fun k=>iY pC k) (ps:= [_]) (qs:= [aT pC]) [] rfl rfl func107 (by kernel_rfl) rfl rfl rfl (fK.of trivial trivial (by decide) (by decide)) rfl kA rfl rfl rfl (fun k k'=>Mv.acc) (af4 pC z25)) (dB [6] 0 1 (IM [pI p6.aD8,pS p6.aD4,aT p6.aD5]) (dI [87] (iQ ([p6]:Z aA)) (dE [86,88] (mA z26) (dI [89] bG (dN ?_)))))))))
 refine gQ 8 ?_;refine gM 91 (aC.trs_len _) (fun hl28=>?_)
 try dsimp only at hl28
 refine bV (σ:=Unit) (fun i27 _=>⟨[(0,.ptr 0 0),(1,pS p5),(8,pI 0),(12,gK x24),(13,iY (pC++([p6]:Z aA)) 0),(91,dT x10.aD9),(92,pN x10.aD9.length),(93,pN i27)],⟨[some ⟨145,[aQ pA.aEO.aD3,bZ pA.aEu]⟩,some ⟨30,b7 p6⟩,some ⟨39,jX x10⟩],[⟨30,3,aA.trs (pC++([p6]:Z aA)),false⟩]⟩⟩) (fun _=>⟨[(8,pI 0)],⟨[some ⟨145,[aQ pA.aEO.aD3,bZ pA.aEu]⟩,some ⟨30,b7 p6⟩,some ⟨39,jX x10⟩],[⟨30,3,aA.trs (pC++([p6]:Z aA)),false⟩]⟩⟩) (eX H) ?_ ?_
 ·rintro i27 ⟨⟩ H
  refine gQ 5 ?_;refine c5 H (fun h29 h29l H=>?_) (fun h29 H=>?_)
  ·refine gQ 6 ?_;refine q1 (iR (aC.cs (aR x10.aD9 i27))) ?_;refine gQ 7 ?_;refine ZW 98 (aA.trs_len _) (fun hl30=>?_)
   try dsimp only at hl30
   refine gQ 3 ?_;refine bV (σ:=Unit) (fun i31 _=>⟨[(0,.ptr 0 0),(1,pS p5),(8,pI 0),(12,gK x24),(13,iY (pC++([p6]:Z aA)) 0),(15,.ptr 3 0),(91,dT x10.aD9),(92,pN x10.aD9.length),(93,pN i27),(94,pB (decide ((i27:Int)<(x10.aD9.length:Int)))),(95,.eptr (aC.cs (aR x10.aD9 i27))),(96,(aC.pv (aR x10.aD9 i27))),(97,.ptr 3 1),(98,aT ((aR x10.aD9 i27).aEm)),(99,pN (((aR x10.aD9 i27).aEm).length)),(100,pN i31)],⟨[some ⟨145,[aQ pA.aEO.aD3,bZ pA.aEu]⟩,some ⟨30,b7 p6⟩,some ⟨39,jX x10⟩,some ⟨46,[pS ((aR x10.aD9 i27).aD4),aT ((aR x10.aD9 i27).aEm)]⟩],[⟨30,3,aA.trs (pC++([p6]:Z aA)),false⟩]⟩⟩) (fun _=>⟨[(0,.ptr 0 0),(1,pS p5),(8,pI 0),(12,gK x24),(13,iY (pC++([p6]:Z aA)) 0),(15,.ptr 3 0),(91,dT x10.aD9),(92,pN x10.aD9.length),(93,pN i27),(94,pB (decide ((i27:Int)<(x10.aD9.length:Int)))),(95,.eptr (aC.cs (aR x10.aD9 i27))),(96,(aC.pv (aR x10.aD9 i27))),(97,.ptr 3 1),(98,aT ((aR x10.aD9 i27).aEm)),(99,pN (((aR x10.aD9 i27).aEm).length))],⟨[some ⟨145,[aQ pA.aEO.aD3,bZ pA.aEu]⟩,some ⟨30,b7 p6⟩,some ⟨39,jX x10⟩,some ⟨46,[pS ((aR x10.aD9 i27).aD4),aT ((aR x10.aD9 i27).aEm)]⟩],[⟨30,3,aA.trs (pC++([p6]:Z aA)),false⟩]⟩⟩) (eX H) ?_ ?_
   ·rintro i31 ⟨⟩ H
    refine gQ 5 ?_;refine c5 H (fun h32 h32l H=>?_) (fun h32 H=>?_)
    ·refine gQ 6 ?_;refine q1 (iR (aA.cs (aR ((aR x10.aD9 i27).aEm) i31))) ?_;refine gQ 8 ?_;refine q1 (b5 [pI ((aR ((aR x10.aD9 i27).aEm) i31).aD8),pS ((aR ((aR x10.aD9 i27).aEm) i31).aD4),aT ((aR ((aR x10.aD9 i27).aEm) i31).aD5)]) (cK H fun z33 H=>(cK H fun z34 H=>(q1 (bI func16 (RQ x24 (aR ((aR x10.aD9 i27).aEm) i31) z33 z34)) (q1 bG (bM H fun x36 z35 H=>(q1 (fJ [0] [] func51 (pJ pA p5 (lC x24 (aR ((aR x10.aD9 i27).aEm) i31)) (pC++([p6]:Z aA)) _ z35)) ?_))))))
     refine gQ 7 ?_;refine bE H (fun h37 H=>?_) (fun h37 H=>?_)
     ·refine gQ 5 ?_;refine c7.ret ?_
      obtain rfl:_=r:=(lkR (skL (lkR (wL H))):)
      exact XH
     exact gE 5
    exact gE 0
   rintro⟨⟩ H
   exact gE 4
  exact gE 0
 rintro⟨⟩ H
 exact gE 4
def qT:Nat→bQ→Y→aA→(Z aA)→J Int
 |0,_,_,_,_=>none
 |fu+1,pA,p5,p6,pC=>PZ fu (qT fu) pA p5 p6 pC
theorem ajU(fu:Nat):P0 (qT fu):=by
 induction fu with
 |zero=>exact(fun pA p5 p6 pC r H=>by simp only [qT] at H;cases H)
 |succ fu ih=>exact(fun pA p5 p6 pC r H=>by simp only [qT] at H;exact agJ fu (qT fu) ih pA p5 p6 pC r H)
theorem abD(fu:Nat):P0 (qT fu):=(ajU fu)
def GI(fu:Nat)(pw:aH)(pD:Z aF)(pg:aF):J Int:=gd (OX pw pD) (bd (qT fu (bQ.mk pw (uA pw pD)) pg.aEb pg.aD6 ([])) fun x3=>some x3)
theorem ZM(fu:Nat)(pw:aH)(pD:Z aF)(pg:aF)(r:Int)(H:GI fu pw pD pg=some r):bS prog 11 [(aH.pv pw),cP pD,(aF.pv pg)] (pI r):=by
 refine qJ func11 H (fun C hC H=>?_)
 refine gQ 2 ?_;refine q1 (fN ([aQ pw.aD3])) (q1 (fN (dG pg)) ?_)
 refine gQ 3 ?_;refine cK H fun z1 H=>(bM H fun x3 z2 H=>(dW (dD [3] (b5 [aQ pw.aD3]) (dI [1] bG (dE [7,8] (bC.callNew (ps:= [_,_]) rfl rfl func50 (by kernel_rfl) rfl rfl kA rfl rfl (P4 pw pD z1)) (dI [5] bY (dB [10] 0 1 vE (dI [5] bY (dB [12] 0 1 (IM [pI pg.aD6.aD8,pS pg.aD6.aD4,aT pg.aD6.aD5]) (dE [9,11,13] (fJ [2] [] func51 (abD fu (bQ.mk pw (uA pw pD)) pg.aEb pg.aD6 ([]) _ z2)) (dI [14] bG (dN ?_))))))))))))
 exact gE 0
abbrev vB:=aH→(List aJ)→aF→Int→Option (aD×Int)
abbrev xU:=aH→(List aJ)→aF→Int→Option (aD×Int)
def zH(m:vB):Prop:= ∀(p8:aH) (p1:Z aJ) (p5:aF) (pA:Int) (r:aD×Int),m p8 p1 p5 pA=some r→bS prog 62 [(aH.pv p8),bZ p1,(aF.pv p5),pI pA] (.tup [(aD.pv r.1),pI r.2]:PV)
def HJ(m:xU):Prop:= ∀(p8:aH) (p1:Z aJ) (p5:aF) (pA:Int) (r:aD×Int),m p8 p1 p5 pA=some r→bS prog 122 [(aH.pv p8),bZ p1,(aF.pv p5),pI pA] (.tup [(aD.pv r.1),pI r.2]:PV)
def D9(fu:Nat)(p2:vB)(p3:xU)(p8:aH)(p1:Z aJ)(p5:aF)(pA:Int):J (aD×Int):=bd (lM fu p1 p5) fun x2=>sw (decide (x2≥0)) (gd (0≤x2∧x2.toNat<(p1).length) (lt (aR p1 (x2.toNat)) fun y5=>bd (jY fu (aD.mk 2 y5.aEG (aE.mk 0 0) []) y5.aEH) fun x8=>some (x8,0))) (sw (decide (pA≤0)) (some ((aD.mk 0 0 (aE.mk 0 0) []),3)) (bd (rK fu p8 p5.aEb) fun(x11,x12,x13)=>sw (x11.aEA) (bd (kV fu p8 p1 p5 ([])) fun x16=>sw (!decide (x16=0)) (some ((aD.mk 0 0 (aE.mk 0 0) []),x16)) (some ((aD.mk 5 0 (aE.mk 0 0) []),0))) (sw (decide (p5.aD6.aD8=1)) (some ((aD.mk 0 0 (aE.mk 0 0) []),1)) (sw (decide (p5.aD6.aD8=3)) (some ((aD.mk 0 0 (aE.mk 0 0) []),1)) (sw (decide (p5.aD6.aD8=4)) (bd (nI fu p8 p5.aD6.aD4 p5.aEb) fun(x22,x23)=>sw x23 (bd (jY fu (aD.mk 4 0 (aE.mk 0 0) []) x22) fun x26=>some (x26,0)) (bd (p3 p8 p1 p5 pA) fun(x28,x29)=>some (x28,x29))) (bd (p3 p8 p1 p5 pA) fun(x31,x32)=>some (x31,x32)))))))
theorem YM(fu:Nat)(p2:vB)(p3:xU)(pC:zH p2)(p9:HJ p3):zH (D9 fu p2 p3):=by
 intro p8 p1 p5 pA r H
 refine qJ func62 H (fun C hC H=>?_)
 refine gQ 2 ?_;refine q1 (fN ([aQ p8.aD3])) (q1 (fN (dG p5)) ?_)
 refine gQ 6 ?_;refine q1 (b5 [pS p5.aEb,pI p5.aD6.aD8,pS p5.aD6.aD4,aT p5.aD6.aD5]) (bM H fun x2 z1 H=>(q1 (bI func14 (uI fu p1 p5 _ z1)) ?_))
 refine gQ 8 ?_;refine bE H (fun h3 H=>?_) (fun h3 H=>?_)
 ·refine qS (cK H fun z4 H=>(gI H fun y5 h6 H=>(bM H fun x8 z7 H=>(dW (dI [1] bG (dI [10] bG (dI [22,23] (rIm h6 z4 at9.h) (dI [24] zL (dI [25] yB (dI [26] rR (dI [1] bG (dI [10] bG (dI [28,29] (rIm h6 z4 at9.h) ?_)))))))))))))
  refine dI [30] zL (dI [31] yB (dI [27,32] (bI func120 (zA fu (aD.mk 2 y5.aEG (aE.mk 0 0) []) y5.aEH _ z7)) (mK [8,33] lT (dI [] bG (dN ?_)))))
  exact gE 0
 refine gQ 7 ?_;refine bE H (fun h9 H=>gE 6) fun h9 H=>?_;refine gQ 3 ?_;refine q1 (b5 [aQ p8.aD3]) ?_;refine gQ 2 ?_;refine IC H fun x11 x12 x13 z10 H=>(q1 (bI func121 (C5 fu p8 p5.aEb _ z10)) ?_)
 refine gQ 15 ?_;refine bE H (fun h14 H=>?_) (fun h14 H=>?_)
 ·refine gQ 2 ?_;refine q1 (b5 [aQ p8.aD3]) (q1 bG (q1 (b5 [pS p5.aEb,pI p5.aD6.aD8,pS p5.aD6.aD4,aT p5.aD6.aD5]) (q1 (sA ([]:Z aA)) (bM H fun x16 z15 H=>(q1 (bI func52 (ah9 fu p8 p1 p5 ([]) _ z15)) ?_)))))
  refine gQ 8 ?_;refine bE H (fun h17 H=>gE 7) fun h17 H=>?_;exact gE 7
 refine gQ 9 ?_;refine dK 61 H (fun g18 H=>gE 13) fun g18 H=>?_;refine gQ 6 ?_;refine bE H (fun h19 H=>gE 6) fun h19 H=>?_;refine gQ 9 ?_;refine bE H (fun h20 H=>?_) (fun h20 H=>?_)
 ·refine gQ 2 ?_;refine q1 (b5 [aQ p8.aD3]) ?_;refine gQ 5 ?_;refine eO H fun x22 x23 z21 H=>(q1 (bI func58 (CV fu p8 p5.aD6.aD4 p5.aEb _ z21)) ?_)
  refine gQ 10 ?_;refine bE H (fun h24 H=>?_) (fun h24 H=>?_)
  ·refine gQ 4 ?_;refine bM H fun x26 z25 H=>(q1 (bI func120 (zA fu (aD.mk 4 0 (aE.mk 0 0) []) x22 _ z25)) ?_)
   exact gE 3
  refine gQ 3 ?_;refine q1 (b5 [aQ p8.aD3]) (q1 bG (q1 (b5 [pS p5.aEb,pI p5.aD6.aD8,pS p5.aD6.aD4,aT p5.aD6.aD5]) (q1 bG (eO H fun x28 x29 z27 H=>(q1 (bI func122 (p9 p8 p1 p5 pA _ z27)) ?_)))))
  exact gE 5
 refine gQ 3 ?_;refine q1 (b5 [aQ p8.aD3]) (q1 bG (q1 (b5 [pS p5.aEb,pI p5.aD6.aD8,pS p5.aD6.aD4,aT p5.aD6.aD5]) (q1 bG (eO H fun x31 x32 z30 H=>(q1 (bI func122 (p9 p8 p1 p5 pA _ z30)) ?_)))))
 exact gE 5
def UB(fu:Nat)(p2:vB)(p3:xU)(p8:aH)(p1:Z aJ)(p5:aF)(pA:Int)(x2:aE)(x3:Int)(y6:aN)(y9:aI):Nat→((Z aD))→J (LR ((Z aD)) (aD×Int)):=fun i13 v15=>gd (r7 (gJ y9.aEj p5.aD6)) (gd (iV ((aR y9.aEk i13).aD6)) (bd (p2 p8 p1 (aF.mk ((aR y9.aEk i13).aEb) (lC (gJ y9.aEj p5.aD6) ((aR y9.aEk i13).aD6))) (aW (pA-1))) fun(x21,x22)=>sw (!decide (x22=0)) (some (.ret ((aD.mk 0 0 (aE.mk 0 0) []),x22))) (gd ((v15).length+(([x21]:Z aD)).length≤68719476736) (some (.next (v15++([x21]:Z aD)))))))
def OE(fu:Nat)(p2:vB)(p3:xU)(p8:aH)(p1:Z aJ)(p5:aF)(pA:Int):J (aD×Int):=bd (rX fu p8 p5) fun(x2,x3)=>sw (!decide (x3=0)) (some ((aD.mk 0 0 (aE.mk 0 0) []),x3)) (gd (0≤x2.aEf∧(x2.aEf).toNat<(p8.aD3).length) (lt (aR p8.aD3 ((x2.aEf).toNat)) fun y6=>gd (0≤x2.aEr∧(x2.aEr).toNat<(y6.aEg).length) (lt (aR y6.aEg ((x2.aEr).toNat)) fun y9=>gd (Tr.bulkL (aA.tr y9.aEj)≤68719476735) (gd (iV p5.aD6) (so (loopN (UB fu p2 p3 p8 p1 p5 pA x2 x3 y6 y9) (y9.aEk.length-0) 0 ([])) fun v15=>some ((aD.mk 1 0 x2 v15),0))))))
theorem aaS(fu:Nat)(p2:vB)(p3:xU)(pC:zH p2)(p9:HJ p3):HJ (OE fu p2 p3):=by
 intro p8 p1 p5 pA r H
 refine qJ func122 H (fun C hC H=>?_)
 refine gQ 2 ?_;refine q1 (fN ([aQ p8.aD3])) (q1 (fN (dG p5)) ?_)
 refine gQ 5 ?_;refine q1 (b5 [aQ p8.aD3]) (q1 (b5 [pS p5.aEb,pI p5.aD6.aD8,pS p5.aD6.aD4,aT p5.aD6.aD5]) (eO H fun x2 x3 z1 H=>(q1 (bI func160 (N0 fu p8 p5 _ z1)) ?_)))
 refine gQ 13 ?_;refine bE H (fun h4 H=>gE 7) fun h4 H=>?_;refine gQ 2 ?_;refine cK H fun z5 H=>(gI H fun y6 h7 H=>(cK H fun z8 H=>(gI H fun y9 h10 H=>(dW (dI [4] bY (dB [29] 0 1 vE (dI [10] bY (dB [31] 0 1 vE (dI [30,32] (rIm h7 z5 anJ.h) (dI [33] zL (dI [34] yB (dI [10] bY (dB [36] 0 1 vE ?_)))))))))))))
 refine dI [35,37] (rIm h10 z8 af1.h) (dI [38] (iR (aI.cs y9)) (dE [] tAl (mK [12,39] lT (dN ?_))))
 refine gQ 3 ?_;refine q1 (b5 [pI y9.aEj.aD8,pS y9.aEj.aD4,aT y9.aEj.aD5]) (q1 bY (q1 (b5 [pI p5.aD6.aD8,pS p5.aD6.aD4,aT p5.aD6.aD5]) (cK H fun z11 H=>(cK H fun z12 H=>(q1 (bI func161 (aoD y9.aEj p5.aD6 z11 z12)) ?_)))))
 refine gQ 8 ?_;refine q1 (b5 [pI x2.aEf,pI x2.aEr]) ?_;refine gQ 9 ?_;refine c7.wk (Wk.regBox (k:=5) (j:=4) 55 5 (by decide) rfl rfl) ?_;refine c7.fact (cQ 4 5 rfl rfl rfl (aF.trs_len _)) (fun hl16=>?_)
 try dsimp only at hl16
 refine bV (σ:=(Z aD)) (fun i13 v15=>⟨[(1,bZ p1),(3,pI pA),(4,.ptr 0 0),(8,.ptr 2 0),(9,pI 0),(12,.ptr 4 0),(13,gK (gJ y9.aEj p5.aD6)),(15,.ptr 5 0),(16,pN i13)],⟨[some ⟨26,[aQ p8.aD3]⟩,some ⟨32,dG p5⟩,some ⟨55,[pI 0,pI 0,pI 0,pI 0,.nil]⟩,some ⟨52,[pI x2.aEf,pI x2.aEr]⟩,some ⟨163,dU y9⟩,some ⟨55,[pI 1,pI 0,pI x2.aEf,pI x2.aEr,sW v15 0]⟩],[⟨55,5,aD.trs (v15),false⟩]⟩⟩) (fun v15=>⟨[(8,.ptr 2 0),(9,pI 0),(15,.ptr 5 0)],⟨[some ⟨26,[aQ p8.aD3]⟩,some ⟨32,dG p5⟩,some ⟨55,[pI 0,pI 0,pI 0,pI 0,.nil]⟩,some ⟨52,[pI x2.aEf,pI x2.aEr]⟩,some ⟨163,dU y9⟩,some ⟨55,[pI 1,pI 0,pI x2.aEf,pI x2.aEr,sW v15 0]⟩],[⟨55,5,aD.trs (v15),false⟩]⟩⟩) (eX H) ?_ ?_
 ·rintro i13 v15 H
  refine gQ 9 ?_;refine c5 H (fun h17 h17l H=>?_) (fun h17 H=>?_)
  ·refine gQ 4 ?_;refine cK H fun z18 H=>(cK H fun z19 H=>(eO H fun x21 x22 z20 H=>(dW (dB [4] 0 1 (IM [aQ p8.aD3]) (dI [1] bG (dI [12] bY (dB [60] 0 1 vE (dI [16] bG (dI [61,62] rB (dI [63] zL (dI [64] yB (dI [13] bG (dI [12] bY ?_)))))))))))))
   refine dB [67] 0 1 vE (dI [16] bG (dI [68,69] rB (dI [70] zL (dI [71] (iR (aA.cs ((aR y9.aEk i13).aD6))) (dI [66,72] (bI func110 (abQ (gJ y9.aEj p5.aD6) ((aR y9.aEk i13).aD6) z18 z19)) (dI [65,73] rR (dI [3] bG (dI [75] rSw (dI [58,59,74,76] (bI func62 (pC p8 p1 (aF.mk ((aR y9.aEk i13).aEb) (lC (gJ y9.aEj p5.aD6) ((aR y9.aEk i13).aD6))) (aW (pA-1)) _ z20)) (dI [77] bG ?_))))))))))
   iterate 2 refine dI [57] rEx ?_
   refine dE [] tAl (mK [17,78] lT (dI [79] bG (dN ?_)))
   refine gQ 6 ?_;refine bE H (fun h23 H=>gE 7) fun h23 H=>?_;refine gQ 4 ?_;refine q1 (b5 [pI x21.aD8,pI x21.aEM,pI x21.aEr.aEf,pI x21.aEr.aEr,cO x21.aD5]) (q1 (iQ ([x21]:Z aD)) (cK H fun z24 H=>(q1 (mA z24) ?_)))
   exact gE 8
  exact gE 0
 rintro v15 H
 refine gQ 2 ?_;refine q1 (b5 [pI 1,pI 0,pI x2.aEf,pI x2.aEr,sW v15 0]) ?_;exact gE 3
mutual
def jI:Nat→aH→(Z aJ)→aF→Int→J (aD×Int)
 |0,_,_,_,_=>none
 |fu+1,p8,p1,p5,pA=>D9 fu (jI fu) (qE fu) p8 p1 p5 pA
def qE:Nat→aH→(Z aJ)→aF→Int→J (aD×Int)
 |0,_,_,_,_=>none
 |fu+1,p8,p1,p5,pA=>OE fu (jI fu) (qE fu) p8 p1 p5 pA
end
theorem aaT(fu:Nat):zH (jI fu)∧HJ (qE fu):=by
 induction fu with
 |zero=>exact⟨(fun p8 p1 p5 pA r H=>by simp only [jI] at H;cases H),(fun p8 p1 p5 pA r H=>by simp only [qE] at H;cases H)⟩
 |succ fu ih=>exact⟨(fun p8 p1 p5 pA r H=>by simp only [jI] at H;exact YM fu (jI fu) (qE fu) ih.1 ih.2 p8 p1 p5 pA r H),(fun p8 p1 p5 pA r H=>by simp only [qE] at H;exact aaS fu (jI fu) (qE fu) ih.1 ih.2 p8 p1 p5 pA r H)⟩
theorem aeM(fu:Nat):zH (jI fu):=(aaT fu).1
abbrev w7:=bQ→aF→Int→Option (aD×Int)
def KL(m:w7):Prop:= ∀(p7:bQ) (p1:aF) (p0:Int) (r:aD×Int),m p7 p1 p0=some r→cF prog 61 [.ptr 0 0,(aF.pv p1),pI p0] ⟨[some ⟨145,[aQ p7.aEO.aD3,bZ p7.aEu]⟩],[]⟩ (fun q t=>q=(.tup [(aD.pv r.1),pI r.2]:PV)∧t=⟨[some ⟨145,[aQ p7.aEO.aD3,bZ p7.aEu]⟩],[]⟩)
def W6(fu:Nat)(p4:w7)(p7:bQ)(p1:aF)(p0 x2:Int):J ((aD×Int)⊕(Y×(LB)×Bool×Bool×(Z aG))):=bd (yU fu p7.aEO p1.aEb) fun(x16,x17,x18)=>sw x18 (sw (x16.aEA) (bd (qT fu p7 p1.aEb p1.aD6 ([])) fun x22=>sw (!decide (x22=0)) (some (.inl ((aD.mk 0 0 (aE.mk 0 0) []),x22))) (some (.inl ((aD.mk 5 0 (aE.mk 0 0) []),0)))) (some (.inr (x16.aD4,x16.aEc,x16.aEA,x16.aEq,x16.aEp)))) (some (.inr (x16.aD4,x16.aEc,x16.aEA,x16.aEq,x16.aEp)))
def NE(fu:Nat)(p4:w7)(p7:bQ)(p1:aF)(p0 x2:Int)(v10:Y)(v11:LB)(v12 v13:Bool)(v14:Z aG):J (((aD×Int)⊕Unit)⊕Bool):=sw (decide (p1.aD6.aD8=1)) (some (.inr (decide (p1.aD6.aD8=1)))) (some (.inr (decide (p1.aD6.aD8=3))))
def ND(fu:Nat)(p4:w7)(p7:bQ)(p1:aF)(p0 x2:Int)(v10:Y)(v11:LB)(v12 v13:Bool)(v14:Z aG):J ((aD×Int)⊕Unit):=so (NE fu p4 p7 p1 p0 x2 v10 v11 v12 v13 v14) fun v24=>sw (v24) (some (.inl ((aD.mk 0 0 (aE.mk 0 0) []),1))) (sw (decide (p1.aD6.aD8=4)) (bd (lK fu p7.aEO p1.aD6.aD4 p1.aEb) fun(x29,x30)=>sw x30 (bd (iF fu (aD.mk 4 0 (aE.mk 0 0) []) x29) fun x33=>some (.inl (x33,0))) (some (.inr ()))) (some (.inr ())))
def W7(fu:Nat)(p4:w7)(p7:bQ)(p1:aF)(p0 x2:Int)(v10:Y)(v11:LB)(v12 v13:Bool)(v14:Z aG)(x35:aE)(x36:Int)(x39:aI)(x40:Bool):Nat→((Z aD))→J (LR ((Z aD)) (aD×Int)):=fun i43 v45=>gd (r7 (gJ x39.aEj p1.aD6)) (gd (iV ((aR x39.aEk i43).aD6)) (bd (p4 p7 (aF.mk ((aR x39.aEk i43).aEb) (lC (gJ x39.aEj p1.aD6) ((aR x39.aEk i43).aD6))) (aW (p0+1))) fun(x51,x52)=>sw (!decide (x52=0)) (some (.ret ((aD.mk 0 0 (aE.mk 0 0) []),x52))) (gd ((v45).length+(([x51]:Z aD)).length≤68719476736) (some (.next (v45++([x51]:Z aD)))))))
def KK(fu:Nat)(p4:w7)(p7:bQ)(p1:aF)(p0:Int):J (aD×Int):=bd (m7 fu p7.aEu p1) fun x2=>sw (decide (x2≥0)) (gd (0≤x2∧x2.toNat<(p7.aEu).length) (lt (aR p7.aEu (x2.toNat)) fun y5=>bd (iF fu (aD.mk 2 y5.aEG (aE.mk 0 0) []) y5.aEH) fun x8=>some (x8,0))) (sw (decide (p0≥12)) (some ((aD.mk 0 0 (aE.mk 0 0) []),3)) (so (W6 fu p4 p7 p1 p0 x2) fun(v10,v11,v12,v13,v14)=>so (ND fu p4 p7 p1 p0 x2 v10 v11 v12 v13 v14) fun _=>bd (m8 fu p7.aEO p1) fun(x35,x36)=>sw (!decide (x36=0)) (some ((aD.mk 0 0 (aE.mk 0 0) []),x36)) (bd (oV fu p7.aEO x35) fun(x39,x40)=>gd (Tr.bulkL (aA.tr x39.aEj)≤68719476735) (gd (iV p1.aD6) (so (loopN (W7 fu p4 p7 p1 p0 x2 v10 v11 v12 v13 v14 x35 x36 x39 x40) (x39.aEk.length-0) 0 ([])) fun v45=>some ((aD.mk 1 0 x35 v45),0))))))
theorem adA(fu:Nat)(p4:w7)(pD:KL p4):KL (KK fu p4):=by
 intro p7 p1 p0 r H
 refine qJ func61 H (fun C hC H=>?_)
 refine gQ 2 ?_;refine q1 (fN (dG p1)) ?_;refine gQ 5 ?_;refine bM H fun x2 z1 H=>(dW (dI [0] bG (dI [27] vW (dI [28] bY (dD [29] eI (dD [4] (b5 [pS p1.aEb,pI p1.aD6.aD8,pS p1.aD6.aD4,aT p1.aD6.aD5]) (dI [30,31] (bI func101 (CC fu p7.aEu p1 _ z1)) (dI [32] bG (dN ?_)))))))))
 refine gQ 5 ?_;refine bE H (fun h3 H=>?_) (fun h3 H=>?_)
 ·refine gQ 7 ?_;refine cK H fun z4 H=>(gI H fun y5 h6 H=>(q1 (rIm h6 z4 at9.h) (q1 (iR (aJ.cs y5)) ?_)))
  refine gQ 10 ?_;refine bM H fun x8 z7 H=>(q1 (bI func114 (yN fu (aD.mk 2 y5.aEG (aE.mk 0 0) []) y5.aEH _ z7)) ?_)
  exact gE 3
 refine gQ 7 ?_;refine bE H (fun h9 H=>gE 6) fun h9 H=>?_;refine gQ 2 ?_;refine oT (σ:=Y×(LB)×Bool×Bool×(Z aG)) (fun(v10,v11,v12,v13,v14)=>⟨[(0,.ptr 0 0),(2,pI p0),(4,.ptr 1 0),(6,.ptr 2 0),(7,pI 0)],⟨[some ⟨145,[aQ p7.aEO.aD3,bZ p7.aEu]⟩,some ⟨32,dG p1⟩,some ⟨55,[pI 0,pI 0,pI 0,pI 0,.nil]⟩,some ⟨156,[pS v10,rS v11,pB v12,pB v13,gS v14]⟩],[]⟩⟩) (eX H) (fun H=>?_) ?_
 ·refine qS (IC H fun x16 x17 x18 z15 H=>(dW (dI [0] bG (dI [52] vW (dI [53] bY (dB [54] 0 1 (IM [aQ p7.aEO.aD3]) (dI [4] bY (dB [56] 0 1 vE (dI [55,57] (bI func115 (FK fu p7.aEO p1.aEb _ z15)) (dI [58] bG ?_))))))))))
  iterate 3 refine dI [51] rEx ?_
  refine dE [] tAl (mK [10,59] lT (dI [60] bG (dI [61] bG (dN ?_))))
  refine gQ 4 ?_;refine dK 63 H (fun g19 H=>?_) fun g19 H=>?_
  ·refine gQ 4 ?_;refine bE H (fun h20 H=>?_) (fun h20 H=>?_)
   ·refine gQ 7 ?_;refine q1 (b5 [pI p1.aD6.aD8,pS p1.aD6.aD4,aT p1.aD6.aD5]) (bM H fun x22 z21 H=>(q1 (fJ [0] [] func51 (abD fu p7 p1.aEb p1.aD6 ([]) _ z21)) ?_))
    refine gQ 7 ?_;refine bE H (fun h23 H=>gE 7) fun h23 H=>?_;exact gE 7
   exact gE 1
  exact gE 6
 rintro⟨v10,v11,v12,v13,v14⟩ H
 refine qS ?_;refine oT (σ:=Unit) (fun _=>⟨[(0,.ptr 0 0),(2,pI p0),(4,.ptr 1 0),(6,.ptr 2 0),(7,pI 0)],⟨[some ⟨145,[aQ p7.aEO.aD3,bZ p7.aEu]⟩,some ⟨32,dG p1⟩,some ⟨55,[pI 0,pI 0,pI 0,pI 0,.nil]⟩,some ⟨156,[pS v10,rS v11,pB v12,pB v13,gS v14]⟩],[]⟩⟩) (eX H) (fun H=>?_) ?_
 ·refine gQ 8 ?_;refine oT (σ:=Bool) (fun v24=>⟨[(0,.ptr 0 0),(2,pI p0),(4,.ptr 1 0),(6,.ptr 2 0),(7,pI 0),(80,pI p1.aD6.aD8),(81,pB v24)],⟨[some ⟨145,[aQ p7.aEO.aD3,bZ p7.aEu]⟩,some ⟨32,dG p1⟩,some ⟨55,[pI 0,pI 0,pI 0,pI 0,.nil]⟩,some ⟨156,[pS v10,rS v11,pB v12,pB v13,gS v14]⟩],[]⟩⟩) (eX H) (fun H=>?_) ?_
  ·refine gQ 5 ?_;refine bE H (fun h25 H=>gE 1) fun h25 H=>?_;exact gE 4
  rintro v24 H
  refine bE H (fun h26 H=>gE 6) fun h26 H=>?_;refine gQ 5 ?_;refine bE H (fun h27 H=>?_) (fun h27 H=>?_)
  ·refine qS (eO H fun x29 x30 z28 H=>(dW (dI [0] bG (dI [88] vW (dI [89] bY (dD [90] (b5 [aQ p7.aEO.aD3]) (dI [4] bY (dI [92] bY (dD [93] eI (dI [4] bY (dD [95] eI (dI [91,94,96] (bI func116 (CF fu p7.aEO p1.aD6.aD4 p1.aEb _ z28)) (dI [97] bG ?_)))))))))))))
   iterate 2 refine dI [87] rEx ?_
   refine dI [98] bG (dI [99] bG (dN ?_))
   refine gQ 4 ?_;refine bE H (fun h31 H=>?_) (fun h31 H=>?_)
   ·refine gQ 4 ?_;refine bM H fun x33 z32 H=>(q1 (bI func114 (yN fu (aD.mk 4 0 (aE.mk 0 0) []) x29 _ z32)) ?_)
    exact gE 3
   exact gE 1
  exact gE 1
 rintro⟨⟩ H
 refine qS (eO H fun x35 x36 z34 H=>(dW (dI [0] bG (dI [105] vW (dI [106] bY (dB [107] 0 1 (IM [aQ p7.aEO.aD3]) (dB [4] 0 1 (IM [pS p1.aEb,pI p1.aD6.aD8,pS p1.aD6.aD4,aT p1.aD6.aD5]) (dI [108,109] (bI func117 (CE fu p7.aEO p1 _ z34)) (dI [110] bG ?_)))))))))
 iterate 2 refine dI [104] rEx ?_
 refine dE [] tAl (mK [16,111] lT (dI [112] bG (dN ?_)))
 refine gQ 6 ?_;refine bE H (fun h37 H=>gE 7) fun h37 H=>?_;refine gQ 2 ?_;refine eO H fun x39 x40 z38 H=>(dW (dI [0] bG (dI [118] vW (dI [119] bY (dB [120] 0 1 (IM [aQ p7.aEO.aD3]) (dB [16] 0 1 (IM [pI x35.aEf,pI x35.aEr]) (dI [121,122] (bI func118 (s6 fu p7.aEO x35 _ z38)) (dI [123] bG ?_))))))))
 iterate 2 refine dI [117] rEx ?_
 refine dE [] tAl (mK [18,124] lT (dI [125] bG (dN ?_)))
 refine gQ 3 ?_;refine q1 (b5 [pI x39.aEj.aD8,pS x39.aEj.aD4,aT x39.aEj.aD5]) (q1 bY (q1 (b5 [pI p1.aD6.aD8,pS p1.aD6.aD4,aT p1.aD6.aD5]) (cK H fun z41 H=>(cK H fun z42 H=>(q1 (bI func119 (aa7 x39.aEj p1.aD6 z41 z42)) ?_)))))
 refine gQ 8 ?_;refine q1 (b5 [pI x35.aEf,pI x35.aEr]) ?_;refine gQ 12 ?_;refine c7.wk (Wk.regBox (k:=6) (j:=4) 55 5 (by decide) rfl rfl) ?_;refine gM 137 (aF.trs_len _) (fun hl46=>?_)
 try dsimp only at hl46
 refine bV (σ:=(Z aD)) (fun i43 v45=>⟨[(0,.ptr 0 0),(2,pI p0),(6,.ptr 2 0),(7,pI 0),(20,gK (gJ x39.aEj p1.aD6)),(22,.ptr 6 0),(137,cP x39.aEk),(138,pN x39.aEk.length),(139,pN i43)],⟨[some ⟨145,[aQ p7.aEO.aD3,bZ p7.aEu]⟩,some ⟨32,dG p1⟩,some ⟨55,[pI 0,pI 0,pI 0,pI 0,.nil]⟩,some ⟨156,[pS v10,rS v11,pB v12,pB v13,gS v14]⟩,some ⟨52,[pI x35.aEf,pI x35.aEr]⟩,some ⟨163,dU x39⟩,some ⟨55,[pI 1,pI 0,pI x35.aEf,pI x35.aEr,sW v45 0]⟩],[⟨55,5,aD.trs (v45),false⟩]⟩⟩) (fun v45=>⟨[(6,.ptr 2 0),(7,pI 0),(22,.ptr 6 0)],⟨[some ⟨145,[aQ p7.aEO.aD3,bZ p7.aEu]⟩,some ⟨32,dG p1⟩,some ⟨55,[pI 0,pI 0,pI 0,pI 0,.nil]⟩,some ⟨156,[pS v10,rS v11,pB v12,pB v13,gS v14]⟩,some ⟨52,[pI x35.aEf,pI x35.aEr]⟩,some ⟨163,dU x39⟩,some ⟨55,[pI 1,pI 0,pI x35.aEf,pI x35.aEr,sW v45 0]⟩],[⟨55,5,aD.trs (v45),false⟩]⟩⟩) (eX H) ?_ ?_
 ·rintro i43 v45 H
  refine gQ 5 ?_;refine c5 H (fun h47 h47l H=>?_) (fun h47 H=>?_)
  ·refine gQ 6 ?_;refine q1 (iR (aF.cs (aR x39.aEk i43))) ?_;refine gQ 4 ?_;refine cK H fun z48 H=>(cK H fun z49 H=>(eO H fun x51 x52 z50 H=>(dWa (dI [0] bG (dI [24] bY (dBz [145] 0 0 vE (dI [20] bG (dI [24] bY (dBz [148] 0 0 (IM [pI (((aR x39.aEk i43).aD6).aD8),pS (((aR x39.aEk i43).aD6).aD4),aT (((aR x39.aEk i43).aD6).aD5)]) (dI [147,149] (bI func16 (RQ (gJ x39.aEj p1.aD6) ((aR x39.aEk i43).aD6) z48 z49)) (dI [146,150] rR (dI [2] bG (dI [152] rAw ?_)))))))))))))
   refine dEz [144,151,153] (fun _ z=>by cases z<;>exact fJ [0] [] func61 (pD p7 (aF.mk ((aR x39.aEk i43).aEb) (lC (gJ x39.aEj p1.aD6) ((aR x39.aEk i43).aD6))) (aW (p0+1)) _ z50)) ?_;refine dI [154] bG ?_
   iterate 2 refine dI [143] rEx ?_
   refine dA (fun _ st h=>vAl h azY.h) (dZ 25 [25,155] lT (dI [156] bG (dN ?_)))
   refine gQ 6 ?_;refine bE H (fun h53 H=>gE 7) fun h53 H=>?_;refine gQ 4 ?_;refine q1 (b5 [pI x51.aD8,pI x51.aEM,pI x51.aEr.aEf,pI x51.aEr.aEr,cO x51.aD5]) (q1 (iQ ([x51]:Z aD)) (cK H fun z54 H=>(q1 (mA z54) ?_)))
   exact gE 7
  exact gE 0
 rintro v45 H
 refine gQ 2 ?_;refine q1 (b5 [pI 1,pI 0,pI x35.aEf,pI x35.aEr,sW v45 0]) ?_;exact gE 3
def oE:Nat→bQ→aF→Int→J (aD×Int)
 |0,_,_,_=>none
 |fu+1,p7,p1,p0=>KK fu (oE fu) p7 p1 p0
theorem agK(fu:Nat):KL (oE fu):=by
 induction fu with
 |zero=>exact(fun p7 p1 p0 r H=>by simp only [oE] at H;cases H)
 |succ fu ih=>exact(fun p7 p1 p0 r H=>by simp only [oE] at H;exact adA fu (oE fu) ih p7 p1 p0 r H)
theorem ajV(fu:Nat):KL (oE fu):=(agK fu)
def X3(fu:Nat)(pw:aH)(p6:Z aF)(pg:aF):J (aD×Int):=bd (vX fu pw p6) fun x2=>bd (jI fu pw x2 pg 12) fun(x4,x5)=>some (x4,x5)
theorem aoG(fu:Nat)(pw:aH)(p6:Z aF)(pg:aF)(r:aD×Int)(H:X3 fu pw p6 pg=some r):bS prog 19 [(aH.pv pw),cP p6,(aF.pv pg)] (.tup [(aD.pv r.1),pI r.2]):=by
 refine qJ func19 H (fun C hC H=>?_)
 refine gQ 2 ?_;refine q1 (fN ([aQ pw.aD3])) (q1 (fN (dG pg)) ?_)
 refine gQ 4 ?_;refine bM H fun x2 z1 H=>(eO H fun x4 x5 z3 H=>(dW ?_))
 iterate 2 refine dD [3] (b5 [aQ pw.aD3]) ?_
 refine dI [1] bG (dI [9,10] (bI func15 (UY fu pw p6 _ z1)) (dD [5] (b5 [pS pg.aEb,pI pg.aD6.aD8,pS pg.aD6.aD4,aT pg.aD6.aD5]) (dI [8,11,12] (bI func62 (aeM fu pw x2 pg 12 _ z3)) ?_)))
 iterate 2 refine dI [13] rEx ?_
 refine mK [6,14] lT (dI [15] bG (dN ?_))
 exact gE 0
def WX(fu:Nat)(pw:aH)(p6:Z aF)(pg:aF):J (aD×Int):=gd (OX pw p6) (bd (oE fu (bQ.mk pw (uA pw p6)) pg 0) fun(x3,x4)=>some (x3,x4))
theorem anU(fu:Nat)(pw:aH)(p6:Z aF)(pg:aF)(r:aD×Int)(H:WX fu pw p6 pg=some r):bS prog 18 [(aH.pv pw),cP p6,(aF.pv pg)] (.tup [(aD.pv r.1),pI r.2]):=by
 refine qJ func18 H (fun C hC H=>?_)
 refine gQ 2 ?_;refine q1 (fN ([aQ pw.aD3])) (q1 (fN (dG pg)) ?_)
 refine gQ 4 ?_;refine cK H fun z1 H=>(eO H fun x3 x4 z2 H=>(dW (dD [3] (b5 [aQ pw.aD3]) (dI [1] bG (dE [8,9] (bC.callNew (ps:= [_,_]) rfl rfl func50 (by kernel_rfl) rfl rfl kA rfl rfl (P4 pw p6 z1)) (dB [5] 0 1 (IM [pS pg.aEb,pI pg.aD6.aD8,pS pg.aD6.aD4,aT pg.aD6.aD5]) (dE [10,11] (fJ [3] [] func61 (ajV fu (bQ.mk pw (uA pw p6)) pg 0 _ z2)) ?_)))))))
 iterate 2 refine dI [12] rEx ?_
 refine mK [6,13] lT (dI [14] bG (dN ?_))
 exact gE 0
end
end Go.Proofs.YtfcoaagbccmahaaGreat.W

namespace Go.Proofs.YtfcoaagbccmahaaGreat.W
attribute [local irreducible] lt
open Go.RowKit Go.Proofs
def gG(w:aH)(g:aF):Z aE:=(fQ w).filter fun o=>sE w g o
def zO(w:aH)(l:Z aE)(o:aE):Bool:=l.any fun p=>FP (b9 w p).aEj (b9 w o).aEj
def EP(w:aH)(g:aF)(o:aE):aE×Int:=bif ((b9 w o).aEy&& !vJ g.aD6) then(.mk 0 0,2) else(o,0)
def eD(w:aH)(g:aF):aE×Int:=match(gG w g).find? (fun o=> !zO w (gG w g) o) with
 |some o=>EP w g o
 |none=>(.mk 0 0,1)
theorem E7{w:aH}{g:aF}{o:aE}(h:o∈gG w g):tW w o:=VM (List.mem_filter.1 h).1
theorem ab0{α β:Type}{p:α→Bool}{r:α→β}{l:Z α}{m:J (β⊕Unit)}{f:Unit→J β}(hm:m=some (match l.find? p with|some x=> .inl (r x)|none=> .inr ())){b:β}(hf:f ()=some b):so m f=some (match l.find? p with|some x=>r x|none=>b):=by
 cases hq:l.find? p with
 |none=>
  rw [hq] at hm
  exact UF hm hf
 |some x=>
  rw [hq] at hm
  exact soL hm
theorem alV{α:Type}(q:α→Bool): ∀(l:Z α) (b:Bool),l.foldl (fun v x=>v&& !q x) b=(b&& !l.any q)
 | [],b=>by simp
 |a::l,b=>by
  rw [List.foldl_cons,alV q l,List.any_cons]
  cases b<;>cases q a<;>simp
theorem VG{β:Type}{w:aH}{o:aE}(h:tW w o){f:aN→aI→J β}{z:J β}(k: ∀p,f p (b9 w o)=z):gd (0≤o.aEf∧(o.aEf).toNat<(w.aD3).length) (lt (aR w.aD3 ((o.aEf).toNat)) (fun y=>gd (0≤o.aEr∧(o.aEr).toNat<(y.aEg).length) (lt (aR y.aEg ((o.aEr).toNat)) (fun z=>f y z))))=z:=by
 obtain⟨p,q,rfl,hp,hq⟩:=h
 exact jC ⟨by show(0:Int)≤p;omega,by show((p:Nat):Int).toNat<_;omega⟩ (ltE rfl (jC ⟨by show(0:Int)≤q;omega,by show((q:Nat):Int).toNat<(aR w.aD3 p).aEg.length;omega⟩ (ltE rfl (k _))))
section
variable {fu:Nat} {w:aH} (hw:wt w≤13000000) {g:aF} (hg:iV g.aD6)
include hw hg
theorem aoC(hf:13000000<fu):mL fu w g=some (gG w g):=by
 have hl:=V7 hw
 have hr:=P8 (fun o=> !sE w g o) (fQ w) (fQ w).length 0 rfl
 rw [List.drop_zero] at hr
 simp only [Bool.not_not] at hr
 have h:=xD (F:=pV fu w g (fQ w)) (n:=(fQ w).length) (g:=fun i=>bif !sE w g (aR (fQ w) i) then [] else [aR (fQ w) i]) (M:=68719476736) (fun i v hi hv=>by
  have hR:=VM (cB hi)
  unfold pV
  generalize aR (fQ w) i=o at hR hv ⊢
  refine VG hR fun p=>?_
  have hB:=uU hw hR
  unfold sE at hv ⊢
  cases h1:decide ((b9 w o).aEb=g.aEb) with
  |false=>exact fZ rfl (by rw [Bool.false_and,Bool.not_false,cond_true,List.append_nil])
  |true=>
   cases h2:mO (b9 w o).aEj g.aD6 with
   |false=>exact hH rfl (jC hB (jC hg (fZ rfl (by rw [Bool.and_false,Bool.not_false,cond_true,List.append_nil]))))
   |true=>
    rw [h1,h2] at hv
    exact hH rfl (jC hB (jC hg (hH rfl (jC hv rfl))))) _ 0 [] rfl (by
  rw [Nat.sub_zero,hr,List.length_nil,Nat.zero_add]
  have:=List.length_filter_le (fun o=>sE w g o) (fQ w)
  omega)
 rw [Nat.sub_zero,hr] at h
 unfold mL
 rw [asT fu w (by omega) (aH.small_wt hw hf) (fun i hi=>(aH.len_at hw i hi).2.2)]
 refine(congrArg (fun x=>so x _) h).trans rfl
omit hg in
theorem akC(i:Nat)(p:aN)(o:aE)(ho:tW w o):
 uP fu w g (gG w g) i p (b9 w o)=some (.inr (!zO w (gG w g) o)):=by
 unfold uP
 rw [lF (l:=gG w g) (g:=fun v p=>v&& !FP (b9 w p).aEj (b9 w o).aEj) (fun _ _=>True) (fun j v hj _=>⟨?_,trivial⟩) trivial,alV,Bool.true_and]
 ·rfl
 ·have hR:=E7 (cB hj)
  unfold CU
  generalize aR (gG w g) j=r at hR ⊢
  have h1:=uU hw hR
  have h2:=uU hw ho
  refine VG hR fun p=>?_
  cases v with
  |true=>exact hH rfl (jC h1 (jC h2 rfl))
  |false=>exact fZ rfl rfl
theorem asV(hf:13000000<fu):rX fu w g=some (eD w g):=by
 unfold rX
 refine gD (aoC hw hg hf) ?_
 unfold eD
 refine(ab0 (l:=gG w g) (p:=fun o=> !zO w (gG w g) o) (r:=EP w g) (b:=(aE.mk 0 0,1)) ?_ rfl).trans (by cases(gG w g).find? (fun o=> !zO w (gG w g) o)<;>rfl)
 refine nC (l:=gG w g) (p:=fun o=> !zO w (gG w g) o) (r:=EP w g) (fun i hi=>?_)
 have hR:=E7 (cB hi)
 unfold CT EP
 generalize aR (gG w g) i=o at hR ⊢
 refine VG hR fun p=>?_;refine UF (akC hw i p o hR) ?_
 unfold CS
 cases zO w (gG w g) o with
 |true=>exact UF (s:=(false,false,false)) (fZ rfl rfl) (fZ rfl rfl)
 |false=>
  cases hd:(b9 w o).aEy with
  |false=>exact UF (s:=(false,false,false)) (hH rfl (fZ rfl rfl)) (hH rfl rfl)
  |true=>
   cases hgr:vJ g.aD6 with
   |true=>exact UF (s:=(true,true,false)) (hH rfl (hH rfl (jC hg (fZ rfl rfl)))) (hH rfl rfl)
   |false=>exact soL (hH rfl (hH rfl (jC hg (hH rfl rfl))))
omit hg in
theorem anR(l:Z aE)(hl: ∀p∈l,tW w p)(o:aE)(ho:tW w o):cT fu l w (b9 w o)=some (zO w l o):=by
 have h1:eF fu l w (b9 w o)=some (match l.findIdx? (fun p=>FP (b9 w p).aEj (b9 w o).aEj) with|some i=>((i:Nat):Int)|none=> -1):=by
  unfold eF
  rw [yW (l:=l) (p:=fun p=>FP (b9 w p).aEj (b9 w o).aEj) fun i hi=>by
   have hR:=hl _ (cB hi)
   unfold jB tO
   rw [I6 fu w _ hR]
   refine gD (jC (uU hw hR) (jC (uU hw ho) rfl)) ?_
   show sw (FP (b9 w (aR l i)).aEj (b9 w o).aEj) _ _=_
   cases FP (b9 w (aR l i)).aEj (b9 w o).aEj<;>rfl]
  cases l.findIdx? fun p=>FP (b9 w p).aEj (b9 w o).aEj<;>rfl
 unfold cT
 exact gD h1 (congrArg some RX)
theorem al6:m8 fu w g=some (eD w g):=by
 unfold m8
 refine jC hw (jC hg ?_)
 unfold eD
 refine(ab0 (l:=gG w g) (p:=fun o=> !zO w (gG w g) o) (r:=EP w g) (b:=(aE.mk 0 0,1)) ?_ rfl).trans (by cases(gG w g).find? (fun o=> !zO w (gG w g) o)<;>rfl)
 rw [show List.filter (fun o=>sE w g o) (fQ w)=gG w g from rfl]
 refine nC (l:=gG w g) (p:=fun o=> !zO w (gG w g) o) (r:=EP w g) (fun i hi=>?_)
 have hR:=E7 (cB hi)
 unfold CD EP
 rw [show List.filter (fun o=>sE w g o) (fQ w)=gG w g from rfl]
 generalize aR (gG w g) i=o at hR ⊢
 refine ltE rfl ?_
 rw [I6 fu w o hR]
 show bd (cT fu (gG w g) w (b9 w o)) _=_
 refine gD (anR hw _ (fun p hp=>E7 hp) o hR) ?_
 show sw _ _ (sw (b9 w o).aEy _ _)=_
 cases zO w (gG w g) o with
 |true=>exact hH rfl rfl
 |false=>
  refine fZ rfl ?_
  cases hd:(b9 w o).aEy with
  |false=>exact fZ rfl rfl
  |true=>
   refine hH rfl (jC hg ?_)
   cases hgr:vJ g.aD6 with
   |true=>exact fZ rfl rfl
   |false=>exact hH rfl rfl
end
end Go.Proofs.YtfcoaagbccmahaaGreat.W

namespace Go.Proofs.YtfcoaagbccmahaaGreat.W
open Go.RowKit Go.WalkArith Go.Proofs
attribute [local irreducible] lt
def acJ(Q:aA→Prop)(R:Int→Y→Nat→Prop):Prop:= ∀k n xs,Q (.mk k n xs)↔R k n xs.length∧ ∀x∈xs,Q x
def RU(U:LB)(k:Int)(n:Y)(m:Nat):Prop:=(k=1→n∈U)∧m≤68719476735
theorem AV(U:LB):acJ (Gd U) (RU U):=fun k n xs=>by
 rw [Gd,yD]
 unfold RU
 constructor
 ·rintro⟨h1,h2,h3⟩;exact⟨⟨h1,h2⟩,h3⟩
 ·rintro⟨⟨h1,h2⟩,h3⟩;exact⟨h1,h2,h3⟩
section
variable {Q:aA→Prop} {R:Int→Y→Nat→Prop}
theorem acJ.args(hQ:acJ Q R){t:aA}(h:Q t): ∀x∈t.aD5,Q x:=by
 obtain⟨k,n,xs⟩:=t
 exact((hQ k n xs).1 h).2
def BQ(Q:aA→Prop)(l:Z aK):Prop:= ∀b∈l,Q b.aD6
theorem BQ.nil:BQ Q []:=fun b hb=>by simp at hb
theorem agS: ∀(ps:Z aA),(∀x∈ps,∀t s s',kP x t s=some s'→BQ Q s→Q t→BQ Q s')→ ∀ts s s',mF ps ts s=some s'→BQ Q s→(∀t∈ts,Q t)→BQ Q s'
 | [],_,ts,s,s',h,hb,_=>by
  rw [mF] at h
  obtain rfl:=Option.some.inj h
  exact hb
 |p::ps,hp,ts,s,s',h,hb,ht=>by
  cases ts with
  |nil=>simp [mF] at h
  |cons t ts=>
   rw [mF] at h
   cases hq:kP p t s with
   |none=>rw [hq] at h;cases h
   |some s1=>
    rw [hq] at h
    exact agS ps (fun x hx=>hp x (List.mem_cons_of_mem _ hx)) ts s1 s' h (hp p (by simp) t s s1 hq hb (ht t (by simp))) (fun x hx=>ht x (List.mem_cons_of_mem _ hx))
theorem ap6(hQ:acJ Q R): ∀(p t:aA) (s s':Z aK),kP p t s=some s'→BQ Q s→Q t→BQ Q s':=by
 refine aA.ind fun k n ps ih t s s' h hb ht=>?_
 rw [kP] at h
 split at h
 ·split at h
  ·split at h
   ·obtain rfl:=Option.some.inj h
    exact hb
   ·cases h
  ·obtain rfl:=Option.some.inj h
   intro b hb'
   rcases List.mem_append.1 hb' with h1|h1
   ·exact hb b h1
   ·obtain rfl:=List.mem_singleton.1 h1
    exact ht
 ·split at h
  ·split at h
   ·split at h
    ·exact agS ps ih _ _ _ h hb (hQ.args ht)
    ·cases h
   ·cases h
  ·cases h
theorem GS(hQ:acJ Q R)(p t:aA)(ht:Q t):BQ Q (gJ p t):=by
 unfold gJ
 cases hq:kP p t [] with
 |none=>exact BQ.nil
 |some s=>exact ap6 hQ p t [] s hq BQ.nil ht
theorem afV(hQ:acJ Q R){l:Z aK}(hl:BQ Q l): ∀t,Q t→Q (lC l t):=by
 refine aA.ind fun k n xs ih h=>?_
 have h1:=(hQ k n xs).1 h
 have h2:Q (.mk k n (IT l xs)):=by
  rw [hQ,GD,List.length_map]
  refine⟨h1.1,fun y hy=>?_⟩
  obtain⟨x,hx,rfl⟩:=List.mem_map.1 hy
  exact ih x hx (h1.2 x hx)
 rw [lC]
 split
 ·split
  ·rename_i hk
   unfold JD E6 at hk
   unfold EN E6
   cases hq:l.find? fun b=>decide (b.aEI=n) with
   |none=>rw [hq] at hk;cases hk
   |some b=>exact hl b (List.mem_of_find?_eq_some hq)
  ·exact h2
 ·exact h2
end
mutual
def szT:aA→Int
 | .mk _ _ xs=>szL 1 xs
def szL:Int→Z aA→Int
 |a,[]=>a
 |a,x::l=>szL (aW (a+szT x)) l
end
theorem Y3: ∀(l:Z aA) (a:Int),szL a l=l.foldl (fun a x=>aW (a+szT x)) a
 | [],a=>rfl
 |x::l,a=>by rw [szL,Y3 l,List.foldl_cons]
def WB(vs:LB)(ts:Z aA):Z aK:=(List.range' 0 vs.length).map fun i=>aK.mk (aR vs i) (aR ts i)
theorem acQ{Q:aA→Prop}{vs:LB}{ts:Z aA}(hl:vs.length=ts.length)(ht: ∀t∈ts,Q t):BQ Q (WB vs ts):=fun b hb=>by
 obtain⟨i,hi,rfl⟩:=List.mem_map.1 hb
 rw [List.mem_range'_1] at hi
 exact ht _ (cB (by omega))
theorem afX{U:LB}(hU:U.length≤68719476736){l:Z aK}(h:BQ (Gd U) l):r7 l:=fun b hb=>⟨U,hU,h b hb⟩
def RE(n:Y):Bool:=decide (n=eY)||decide (n=eQ)
def m3{α:Type}(f:α→Int):Z α→Int
 | []=>0
 |t::l=>if f t=0 then m3 f l else f t
def uV(w:aH)(t:aA):Bool:=decide (t.aD8=2)&&((J9 w t.aD4).2.2&&decide ((J9 w t.aD4).1.aEh.length=t.aD5.length))
def zN(b:Bool)(t:aA):Bool:=decide (t.aD8=2)&&(RE t.aD4&&(b||decide (t.aD5.length=0)))
def VB(w:aH)(t f:aA):aA:=lC (WB (J9 w t.aD4).1.aEh t.aD5) f
def qL(b:Bool)(w:aH)(l:Z aJ)(tr:Y):Nat→Z aA→aA→Int
 |0,_,_=>3
 |k+1,op,t=>
  bif zN b t then 0 else
  bif decide (sC l (.mk tr t)≥0) then 0 else
  bif !uV w t then 1 else
  bif op.any (fun u=>aA.eq u t) then 0 else
  bif decide (30<op.length)||decide (szT t>400) then 3 else
  m3 (fun c=>m3 (fun f=>qL b w l tr k (op++ [t]) (VB w t f)) (aC.aEm c)) (J9 w t.aD4).1.aD9
def zEv:aD:= .mk 0 0 (.mk 0 0) []
def CL(out:aD)(n:Int):aD:= .mk 3 n (.mk 0 0) [out]
def agP(x:aD)(steps:Z Int):aD:=steps.foldl CL x
def BU(f:aF→aD×Int):Z aF→Z aD→Z aD×Int
 | [],out=>(out,0)
 |b::r,out=>if(f b).2=0 then BU f r (out++ [(f b).1]) else([],(f b).2)
def arS(l:Z aJ)(g:aF):aD:=agP (.mk 2 (aR l (sC l g).toNat).aEG (.mk 0 0) []) (aR l (sC l g).toNat).aEH
def F7(w:aH)(o:aE)(g b:aF):aF:= .mk b.aEb (lC (gJ (b9 w o).aEj g.aD6) b.aD6)
def iH(b:Bool)(w:aH)(l:Z aJ):Nat→aF→aD×Int
 |0,g=>bif decide (sC l g≥0) then(arS l g,0) else(zEv,3)
 |k+1,g=>
  bif decide (sC l g≥0) then(arS l g,0) else
  bif (nZ w g.aEb).1.aEA then(if qL b w l g.aEb 32 [] g.aD6=0 then(.mk 5 0 (.mk 0 0) [],0) else(zEv,qL b w l g.aEb 32 [] g.aD6)) else
  bif decide (g.aD6.aD8=1)||decide (g.aD6.aD8=3) then(zEv,1) else
  bif decide (g.aD6.aD8=4)&&(f9 w 8 g.aD6.aD4 g.aEb).2 then(agP (.mk 4 0 (.mk 0 0) []) (f9 w 8 g.aD6.aD4 g.aEb).1,0) else
  if(eD w g).2=0 then
   (if(BU (fun x=>iH b w l k (F7 w (eD w g).1 g x)) (b9 w (eD w g).1).aEk []).2=0 then
    (.mk 1 0 (eD w g).1 (BU (fun x=>iH b w l k (F7 w (eD w g).1 g x)) (b9 w (eD w g).1).aEk []).1,0)
   else(zEv,(BU (fun x=>iH b w l k (F7 w (eD w g).1 g x)) (b9 w (eD w g).1).aEk []).2))
  else(zEv,(eD w g).2)
structure WQ (Q:aA→Prop) (w:aH):Prop where
 wh: ∀o,tW w o→ ∀b∈(b9 w o).aEk,Q b.aD6
 fl: ∀n,∀c∈(J9 w n).1.aD9,∀f∈c.aEm,Q f
 ac: ∀o,tW w o→Q (b9 w o).aEq
def ajY(x:aI):LB:=(x.aEk.flatMap fun b=>FR b.aD6)++FR x.aEq
def an5(d:aM):LB:=d.aD9.flatMap fun c=>c.aEm.flatMap FR
def ZX(w:aH):LB:=w.aD3.flatMap fun p=>p.aEg.flatMap ajY++p.aEd.flatMap an5
theorem BY{α β:Type}[Wt α](f:α→Z β)(h: ∀x,(f x).length≤wt x+1): ∀l:Z α,(l.flatMap f).length≤wl l
 | []=>Nat.zero_le _
 |x::l=>by
  rw [List.flatMap_cons,List.length_append,ae4]
  have:=h x
  have:=BY f h l
  omega
theorem adF(t:aA):(FR t).length≤wt t+1:=by
 have h:=agX t
 rw [O0] at h
 omega
theorem agT(w:aH):(ZX w).length≤wt w:=by
 have hI: ∀x:aI,(ajY x).length≤wt x+1:=fun x=>by
  have h1:=BY (fun b:aF=>FR b.aD6) (fun b=>by
   have:=adF b.aD6
   have:=aF.wt_eq b
   show(FR b.aD6).length≤_
   omega) x.aEk
  have h2:=adF x.aEq
  have h3:=aI.wt_eq x
  unfold ajY
  rw [List.length_append]
  omega
 have hD: ∀d:aM,(an5 d).length≤wt d+1:=fun d=>by
  have h1:=BY (fun c:aC=>c.aEm.flatMap FR) (fun c=>by
   have h2:=BY FR adF c.aEm
   have:=aC.wt_eq c
   show(c.aEm.flatMap FR).length≤_
   omega) d.aD9
  have:=aM.wt_eq d
  unfold an5
  omega
 have h:=BY (fun p:aN=>p.aEg.flatMap ajY++p.aEd.flatMap an5) (fun p=>by
  have h1:=BY ajY hI p.aEg
  have h2:=BY an5 hD p.aEd
  have:=aN.wt_eq p
  show(p.aEg.flatMap ajY++p.aEd.flatMap an5).length≤_
  rw [List.length_append]
  omega) w.aD3
 have:=aH.wt_eq w
 unfold ZX
 omega
theorem al2(w:aH)(n:Y):(J9 w n).1=aM.mk s_ [] []∨ ∃p∈w.aD3,(J9 w n).1∈p.aEd:=by
 unfold J9
 cases hq:(List.range' 0 w.aD3.length).findSome? (dQ w n) with
 |none=>exact .inl rfl
 |some r=>
  obtain⟨i,hi,hq⟩:=List.exists_of_findSome?_eq_some hq
  unfold dQ at hq
  obtain⟨k,hk,hq⟩:=List.exists_of_findSome?_eq_some hq
  rw [List.mem_range'_1] at hi hk
  split at hq
  ·cases hq
   exact .inr ⟨_,cB (by omega:i<w.aD3.length),cB (by omega:k<(aR w.aD3 i).aEd.length)⟩
  ·cases hq
theorem M8{w:aH}{o:aE}(h:tW w o): ∃p∈w.aD3,b9 w o∈p.aEg:=by
 obtain⟨i,k,rfl,hi,hk⟩:=h
 exact⟨_,cB hi,cB (l:=(aR w.aD3 i).aEg) hk⟩
theorem WQ.of{Q:aA→Prop}{w:aH}(hI: ∀p∈w.aD3,∀x∈p.aEg,(∀b∈x.aEk,Q b.aD6)∧Q x.aEq)(hD: ∀p∈w.aD3,∀d∈p.aEd,∀c∈d.aD9,∀f∈c.aEm,Q f):WQ Q w where
 wh:=fun o ho=>by obtain⟨p,hp,hx⟩:=M8 ho;exact(hI p hp _ hx).1
 fl:=fun n c hc f hf=>by
  rcases al2 w n with h|⟨p,hp,hd⟩
  ·rw [h] at hc;simp at hc
  ·exact hD p hp _ hd c hc f hf
 ac:=fun o ho=>by obtain⟨p,hp,hx⟩:=M8 ho;exact(hI p hp _ hx).2
theorem Y6{w:aH}(hw:wt w≤13000000){V:LB}:WQ (Gd (ZX w++V)) w:=by
 have key: ∀t:aA,wt t≤13000000→(∀n∈FR t,n∈ZX w)→Gd (ZX w++V) t:=fun t ht hn=>
  (Gd.own t (by rw [O0];omega)).mono (fun n h=>List.mem_append_left _ (hn n h)) t
 have hP: ∀p∈w.aD3,wt p≤13000000:=fun p hp=>by
  have:=aH.wt_eq w
  have:=C9 hp
  omega
 refine WQ.of (fun p hp x hx=>?_) (fun p hp d hd c hc f hf=>?_)
 ·have h1:=hP p hp
  have h2:=aN.wt_eq p
  have h3:=C9 hx
  have h4:=aI.wt_eq x
  have hin: ∀n∈ajY x,n∈ZX w:=fun n hn=>List.mem_flatMap.2 ⟨p,hp,List.mem_append_left _ (List.mem_flatMap.2 ⟨x,hx,hn⟩)⟩
  refine⟨fun b hb=>key _ ?_ fun n hn=>hin n (List.mem_append_left _ (List.mem_flatMap.2 ⟨b,hb,hn⟩)),key _ (by omega) fun n hn=>hin n (List.mem_append_right _ hn)⟩
  have h5:=C9 hb
  have h6:=aF.wt_eq b
  omega
 ·have h1:=hP p hp
  have h2:=aN.wt_eq p
  have h3:=C9 hd
  have h4:=aM.wt_eq d
  have h5:=C9 hc
  have h6:=aC.wt_eq c
  have h7:=C9 hf
  refine key _ (by omega) fun n hn=>List.mem_flatMap.2 ⟨p,hp,List.mem_append_right _ (List.mem_flatMap.2 ⟨d,hd,List.mem_flatMap.2 ⟨c,hc,List.mem_flatMap.2 ⟨f,hf,hn⟩⟩⟩)⟩
theorem ae0{Q:aA→Prop}{R:Int→Y→Nat→Prop}(hQ:acJ Q R){w:aH}(hW:WQ Q w){o:aE}(ho:tW w o){g b:aF}(hg:Q g.aD6)(hb:b∈(b9 w o).aEk):Q (F7 w o g b).aD6:=
 afV hQ (GS hQ _ _ hg) _ (hW.wh o ho b hb)
theorem aq8{Q:aA→Prop}{R:Int→Y→Nat→Prop}(hQ:acJ Q R){w:aH}(hW:WQ Q w){t:aA}(ht:Q t)(hc:uV w t=true){c:aC}(hm:c∈(J9 w t.aD4).1.aD9){f:aA}(hf:f∈c.aEm):Q (VB w t f):=by
 unfold uV at hc
 rw [Bool.and_eq_true,Bool.and_eq_true,decide_eq_true_eq,decide_eq_true_eq] at hc
 exact afV hQ (acQ hc.2.2 (hQ.args ht)) _ (hW.fl _ c hm f hf)
theorem KU{w:aH}{g:aF}(h:(eD w g).2=0):tW w (eD w g).1:=by
 unfold eD at h ⊢
 cases hq:(gG w g).find? fun o=> !zO w (gG w g) o with
 |none=>rw [hq] at h;cases h
 |some o=>
  rw [hq] at h
  show tW w (EP w g o).1
  replace h:(EP w g o).2=0:=h
  unfold EP at h ⊢
  cases hp:(b9 w o).aEy&& !vJ g.aD6 with
  |true=>rw [hp] at h;cases h
  |false=>exact E7 (List.mem_of_find?_eq_some hq)
theorem QI: ∀t:aA,bR fun fu=>nJ fu t=some (szT t):=by
 refine aA.ind fun k n xs ih=>?_;refine bR.succ ((bR.list ih).imp fun fu hf=>?_)
 simp only [nJ,JM,aA.aD5.eq_1]
 rw [lF (l:=xs) (g:=fun a x=>aW (a+szT x)) (fun _ _=>True) (fun i s hi _=>⟨?_,trivial⟩) trivial,szT,Y3]
 ·rfl
 ·rw [QH]
  exact gD (hf _ (cB hi)) rfl
theorem PP: ∀t:aA,bR fun fu=>m9 fu t=some (szT t):=by
 refine aA.ind fun k n xs ih=>?_;refine bR.succ ((bR.list ih).imp fun fu hf=>?_)
 simp only [m9,I4,aA.aD5.eq_1]
 rw [lF (l:=xs) (g:=fun a x=>aW (a+szT x)) (fun _ _=>True) (fun i s hi _=>⟨?_,trivial⟩) trivial,szT,Y3]
 ·rfl
 ·rw [PO]
  exact gD (hf _ (cB hi)) rfl
mutual
def ab9:aD→Prop
 | .mk _ _ _ xs=>xs.length≤68719476735∧afB xs
def afB:Z aD→Prop
 | []=>True
 |x::l=>ab9 x∧afB l
end
theorem aa5: ∀ {l:Z aD},afB l↔ ∀x∈l,ab9 x
 | []=>by simp [afB]
 |a::l=>by rw [afB,aa5 (l:=l)];simp
theorem acU{k n:Int}{o:aE}{xs:Z aD}:ab9 (.mk k n o xs)↔xs.length≤68719476735∧ ∀x∈xs,ab9 x:=by rw [ab9,aa5]
theorem BD{k n:Int}{o:aE}:ab9 (.mk k n o []):=acU.2 ⟨by simp,by simp⟩
theorem XB{α β:Type}[Inhabited α]{f:Nat→Z α→J (LR (Z α) β)}{l:Z α}(hs: ∀i,i<l.length→(l.take i).length=i→f i (l.take i)=some (.next (l.take i++ [aR l i]))):loopN f (l.length-0) 0 []=some (.inr l):=by
 have key: ∀k i,l.length-i=k→i≤l.length→loopN f k i (l.take i)=some (.inr l):=by
  intro k
  induction k with
  |zero=>
   intro i hk hi
   rw [loopN,List.take_of_length_le (by omega)]
  |succ k ih=>
   intro i hk hi
   have h:i<l.length:=by omega
   rw [loopN,hs i h (by rw [List.length_take];omega),← J0 h]
   exact ih (i+1) (by omega) (by omega)
 exact key _ 0 (by omega) (Nat.zero_le _)
theorem akA{fu:Nat}{xs:Z aD}(hl:xs.length≤68719476735)(hf: ∀x∈xs,kU fu x=some x):lX (fu+1) xs=some xs:=by
 simp only [lX,G7]
 rw [XB (l:=xs) fun i hi hn=>?_]
 ·rfl
 ·rw [ML]
  exact gD (hf _ (cB hi)) (jC (by rw [hn];simp;omega) rfl)
theorem SM: ∀e:aD,ab9 e→bR fun fu=>kU fu e=some e:=by
 refine aD.ind fun k n o xs ih h=>?_
 rw [acU] at h
 refine bR.succ (bR.succ ((bR.list fun x hx=>ih x hx (h.2 x hx)).imp fun fu hf=>?_))
 simp only [kU,OC]
 exact gD (akA h.1 hf) rfl
theorem ajO{fu:Nat}{xs:Z aD}(hl:xs.length≤68719476735)(hf: ∀x∈xs,eU fu x=some x):iA (fu+1) xs=some xs:=by
 simp only [iA,wY]
 refine jC (by omega) ?_
 rw [XB (l:=xs) fun i hi hn=>?_]
 ·exact jC rfl rfl
 ·rw [DQ]
  exact gD (hf _ (cB hi)) (jC hn.symm rfl)
theorem RR: ∀e:aD,ab9 e→bR fun fu=>eU fu e=some e:=by
 refine aD.ind fun k n o xs ih h=>?_
 rw [acU] at h
 refine bR.succ (bR.succ ((bR.list fun x hx=>ih x hx (h.2 x hx)).imp fun fu hf=>?_))
 simp only [eU,zR]
 exact gD (ajO h.1 hf) rfl
def E9(e:aD):Int×Int×Int×Int×Z aD:=(e.aD8,e.aEM,e.aEr.aEf,e.aEr.aEr,e.aD5)
theorem O1(e:aD):aD.mk (E9 e).1 (E9 e).2.1 (.mk (E9 e).2.2.1 (E9 e).2.2.2.1) (E9 e).2.2.2.2=e:=by
 obtain⟨k,n,⟨p,a⟩,xs⟩:=e
 rfl
theorem abH{β:Type}{f:Nat→(Int×Int×Int×Int×Z aD)→J (LR (Int×Int×Int×Int×Z aD) β)}{l:Z Int}(hs: ∀i e,i<l.length→f i (E9 e)=some (.next (E9 (CL e (aR l i)))))(e:aD):loopN f (l.length-0) 0 (E9 e)=some (.inr (E9 (agP e l))):=by
 have key: ∀k i e,l.length-i=k→i≤l.length→loopN f k i (E9 e)=some (.inr (E9 (agP e (l.drop i)))):=by
  intro k
  induction k with
  |zero=>
   intro i e hk hi
   rw [loopN,List.drop_of_length_le (by omega)]
   rfl
  |succ k ih=>
   intro i e hk hi
   have h:i<l.length:=by omega
   rw [loopN,hs i e h,sF h]
   exact ih (i+1) _ (by omega) (by omega)
 have:=key _ 0 e rfl (Nat.zero_le _)
 rwa [List.drop_zero] at this
theorem XU{fu:Nat}{e:aD}(h:kU fu e=some e)(l:Z Int):jY fu e l=some (agP e l):=by
 unfold jY
 refine gD h ?_
 rw [show(e.aD8,e.aEM,e.aEr.aEf,e.aEr.aEr,e.aD5)=E9 e from rfl,abH (l:=l) fun i e' hi=>by rw [yZ,O1];rfl]
 exact congrArg some (O1 _)
theorem WR{fu:Nat}{e:aD}(h:eU fu e=some e)(l:Z Int):iF fu e l=some (agP e l):=by
 unfold iF
 refine gD h ?_
 rw [show(e.aD8,e.aEM,e.aEr.aEf,e.aEr.aEr,e.aD5)=E9 e from rfl,abH (l:=l) fun i e' hi=>by rw [yM,O1];rfl]
 exact congrArg some (O1 _)
mutual
def M4:aD→aD→Bool
 | .mk k n o xs,y=>decide (k=y.aD8)&&(decide (n=y.aEM)&&((decide (o.aEf=y.aEr.aEf)&&decide (o.aEr=y.aEr.aEr))&&E8 xs y.aD5))
def E8:Z aD→Z aD→Bool
 | [],ys=>ys.isEmpty
 |x::xs,ys=>match ys with
  | []=>false
  |y::ys=>M4 x y&&E8 xs ys
end
theorem aa4: ∀ {l r:Z aD},E8 l r=true→l.length=r.length
 | [],[],_=>rfl
 | [],_::_,h=>by simp [E8] at h
 |_::_,[],h=>by simp [E8] at h
 |a::l,b::r,h=>by
  simp only [E8,Bool.and_eq_true] at h
  simp [aa4 h.2]
theorem TQ: ∀ {l r:Z aD},l.length=r.length→E8 l r=(List.range l.length).all fun i=>M4 (aR l i) (aR r i)
 | [],[],_=>rfl
 | [],_::_,h=>by simp at h
 |_::_,[],h=>by simp at h
 |a::l,b::r,h=>by
  rw [E8,List.length_cons,List.range_succ_eq_map,List.all_cons,List.all_map,TQ (l:=l) (r:=r) (by simpa using h)]
  rfl
theorem WI: ∀(l:Z aD),(∀x∈l,M4 x x=true)→E8 l l=true
 | [],_=>rfl
 |a::l,h=>by rw [E8,h a (by simp),WI l fun x hx=>h x (List.mem_cons_of_mem _ hx)];rfl
theorem anK: ∀e:aD,M4 e e=true:=by
 refine aD.ind fun k n o xs ih=>?_
 rw [M4,aD.aD5.eq_1,WI xs ih]
 simp
theorem apZ{β:Type}{F:Nat→Unit→J (LR Unit Bool)}{xs ys:Z aD}(hl:xs.length=ys.length)(hs: ∀i,i<xs.length→F i ()=some (if M4 (aR xs i) (aR ys i) then .next () else .ret false)):so (loopN F (xs.length-0) 0 ()) (fun _=>some true)=some (E8 xs ys):=by
 have:=JE (l:=List.range xs.length) (f:=F) (p:=fun i=>M4 (aR xs i) (aR ys i)) (r:=false) (s:=()) fun i hi=>by
  have hi':i<xs.length:=by simpa using hi
  rw [RD hi',hs i hi']
  cases M4 (aR xs i) (aR ys i)<;>rfl
 rw [List.length_range] at this
 rw [this,TQ hl]
 cases(List.range xs.length).all fun i=>M4 (aR xs i) (aR ys i)<;>rfl
theorem aqR: ∀a b:aD,bR fun fu=>fI fu a b=some (M4 a b):=by
 refine aD.ind fun k n o xs ih b=>?_;refine bR.succ (bR.succ ((bR.below (k:=xs.length) (P:=fun i fu=>fI fu (aR xs i) (aR b.aD5 i)=some (M4 (aR xs i) (aR b.aD5 i))) fun i hi=>ih _ (cB hi) _).imp fun fu hf=>?_))
 have hS:nW (fu+1) xs b.aD5=some (E8 xs b.aD5):=by
  simp only [nW,OD]
  by_cases hl:xs.length=b.aD5.length
  ·refine fZ (by simp [hl]) (apZ (β:=Bool) hl fun i hi=>?_)
   rw [T7]
   refine jC (by omega) (gD (hf i hi) ?_)
   cases M4 (aR xs i) (aR b.aD5 i)<;>rfl
  ·cases hq:E8 xs b.aD5 with
   |true=>exact absurd (aa4 hq) hl
   |false=>exact hH (by simp;omega) rfl
 rw [fI,M4]
 unfold xI
 show sw (decide (k=b.aD8)) (sw (decide (n=b.aEM)) (sw (decide (o.aEf=b.aEr.aEf)&&decide (o.aEr=b.aEr.aEr)) (bd (nW (fu+1) xs b.aD5) _) _) _) _=_
 by_cases h1:k=b.aD8
 ·rw [decide_eq_true h1,Bool.true_and]
  refine hH rfl ?_
  by_cases h2:n=b.aEM
  ·rw [decide_eq_true h2,Bool.true_and]
   refine hH rfl ?_
   by_cases h3:o.aEf=b.aEr.aEf∧o.aEr=b.aEr.aEr
   ·rw [decide_eq_true h3.1,decide_eq_true h3.2,Bool.true_and,Bool.true_and]
    exact hH rfl (gD hS rfl)
   ·have h4:(decide (o.aEf=b.aEr.aEf)&&decide (o.aEr=b.aEr.aEr))=false:=by
     rw [Bool.and_eq_false_iff,decide_eq_false_iff_not,decide_eq_false_iff_not]
     exact Classical.not_and_iff_not_or_not.1 h3
    rw [h4,Bool.false_and]
    exact fZ rfl rfl
  ·rw [decide_eq_false h2,Bool.false_and]
   exact fZ rfl rfl
 ·rw [decide_eq_false h1,Bool.false_and]
  exact fZ rfl rfl
structure azZ (l:List aD):Prop where
 n:l.length≤68719476735
 v: ∀x∈l,ab9 x
theorem aqS(a b:aD):bS Tryz.prog 20 [(aD.pv a),(aD.pv b)] (.t (.leaf (.bool (M4 a b)))):=by
 obtain⟨fu,h⟩:=(aqR a b).get
 exact QA fu a b _ h
attribute [local irreducible] J9
theorem akB(fu:Nat)(a b:aF):A2 fu a b=some (aF.eq a b):=by
 obtain⟨n,x⟩:=a
 obtain⟨m,y⟩:=b
 unfold A2
 rw [aF.eq,J7]
 show sw (decide (n=m)) (some (aA.eq x y)) (some false)=_
 cases decide (n=m)<;>rfl
theorem bR.succ'{P:Nat→Prop}(h:bR P):bR fun n=>P (n+1):=by
 obtain⟨a,h⟩:=h
 exact⟨a,fun n hn=>h (n+1) (by omega)⟩
theorem SO(fu:Nat)(l:Z aJ)(g:aF):lM fu l g=some (sC l g):=by
 unfold lM sC
 rw [yW (p:=fun a=>aF.eq a.aEz g) (fun i hi=>by
  unfold CP
  refine ltE rfl ?_
  rw [akB]
  show sw (aF.eq (aR l i).aEz g) _ _=_
  cases aF.eq (aR l i).aEz g<;>rfl)]
 cases l.findIdx? fun a=>aF.eq a.aEz g<;>rfl
theorem OY{l:Z aJ}{g:aF}(h:sC l g≥0):(sC l g).toNat<l.length:=by
 unfold sC at h ⊢
 cases hq:l.findIdx? fun a=>aF.eq a.aEz g with
 |none=>rw [hq] at h;exact absurd h (by decide)
 |some i=>
  rw [List.findIdx?_eq_some_iff_getElem] at hq
  exact hq.1
theorem OZ{α β:Type}[Inhabited α]{f:α→Int}{l:Z α}{F:Nat→Unit→J (LR Unit β)}(g:Int→β)(hs: ∀i,i<l.length→F i ()=some (if f (aR l i)=0 then .next () else .ret (g (f (aR l i))))):loopN F (l.length-0) 0 ()=some (if m3 f l=0 then .inr () else .inl (g (m3 f l))):=by
 have key: ∀k i,l.length-i=k→loopN F k i ()=some (if m3 f (l.drop i)=0 then .inr () else .inl (g (m3 f (l.drop i)))):=by
  intro k
  induction k with
  |zero=>
   intro i hk
   rw [loopN,List.drop_of_length_le (by omega)]
   rfl
  |succ k ih=>
   intro i hk
   have h:i<l.length:=by omega
   rw [loopN,hs i h,sF h,m3]
   by_cases h0:f (aR l i)=0
   ·rw [if_pos h0,if_pos h0]
    exact ih (i+1) (by omega)
   ·rw [if_neg h0,if_neg h0,if_neg h0]
 have:=key _ 0 rfl
 rwa [List.drop_zero] at this
theorem aq5{x:Int}:so (some (if x=0 then(.inr ():Int⊕Unit) else .inl x)) (fun _=>some 0)=some x:=by
 by_cases h:x=0
 ·rw [if_pos h,h];rfl
 ·rw [if_neg h];rfl
theorem amM{x:Int}:so (some (if x=0 then(.inr ():(LR Unit Int)⊕Unit) else .inl (.ret x))) (fun _=>some (.next ()))=some (if x=0 then(.next ():LR Unit Int) else .ret x):=by
 by_cases h:x=0
 ·rw [if_pos h,if_pos h];rfl
 ·rw [if_neg h,if_neg h];rfl
theorem arC{x:Int}:sw (!decide (x=0)) (some (.ret (.ret x))) (some (.next ()))=some (if x=0 then(.next ():LR Unit (LR Unit Int)) else .ret (.ret x)):=by
 by_cases h:x=0
 ·rw [if_pos h];exact fZ (by simp [h]) rfl
 ·rw [if_neg h];exact hH (by simp [h]) rfl
theorem sw3{α:Type}{b1 b2 b3 c:Bool}{x y z:α}(h:(b1&&(b2&&b3))=c)(k:(bif !c then x else y)=z):sw (!b1) x (sw (!b2) x (sw (!b3) x y))=z:=by
 subst h
 rw [← k]
 cases b1<;>cases b2<;>cases b3<;>rfl
theorem acR(w:aH)(t:aA):(decide ((t.aD8:Int)=2)&&((J9 w t.aD4).2.2&&decide ((((J9 w t.aD4).1.aEh.length:Nat):Int)=((t.aD5.length:Nat):Int))))=uV w t:=
 congrArg (fun b=>decide (t.aD8=2)&&((J9 w t.aD4).2.2&&b)) (decide_eq_decide.2 Int.ofNat_inj)
theorem aa2{β:Type}{vs:LB}{ts:Z aA}(hv:vs.length≤68719476736){F:Nat→Z aK→J (LR (Z aK) β)}(hs: ∀i v,i<vs.length→v.length+1≤68719476736→F i v=some (.next (v++ [aK.mk (aR vs i) (aR ts i)]))):loopN F (vs.length-0) 0 []=some (.inr (WB vs ts)):=by
 have h:=FN (F:=F) (g:=fun i=>aK.mk (aR vs i) (aR ts i)) (n:=vs.length) (M:=68719476736) hs (vs.length-0) 0 [] rfl (by rw [List.length_nil];omega)
 rw [List.nil_append] at h
 exact h
theorem anO(fu:Nat){vs:LB}{ts:Z aA}(hl:vs.length=ts.length)(hv:vs.length≤68719476736):PR fu vs ts=some (WB vs ts):=by
 unfold PR
 rw [show min vs.length ts.length=vs.length by omega,aa2 (ts:=ts) hv fun i v hi hn=>by
  unfold aa9
  exact jC hi (jC (by omega) (jC (by simpa using hn) rfl))]
 rfl
theorem agA(fu:Nat)(l:Z aA)(t:aA):hM fu l t=some (l.any fun u=>aA.eq u t):=by
 have h1:jK fu l t=some (match l.findIdx? (fun u=>aA.eq u t) with|some i=>((i:Nat):Int)|none=> -1):=by
  unfold jK
  rw [yW (l:=l) (p:=fun u=>aA.eq u t) fun i hi=>by
   unfold qM NB
   show sw (aA.eq (aR l i) t) _ _=_
   cases aA.eq (aR l i) t<;>rfl]
  cases l.findIdx? fun u=>aA.eq u t<;>rfl
 unfold hM
 exact gD h1 (congrArg some RX)
theorem af8(fu:Nat)(r:CI)(q:bQ)(tr:Y)(t:aA)(op:Z aA):R2 fu r q tr t op=some (bif zN false t then .inl 0 else .inr ()):=by
 unfold R2 GK zN RE
 rw [show decide ((((t.aD5.length:Nat):Int):Int)=0)=decide (t.aD5.length=0) from decide_eq_decide.2 (by omega)]
 cases decide (t.aD8=2)<;>cases decide (t.aD4=eY)<;>cases decide (t.aD4=eQ)<;>cases decide (t.aD5.length=0)<;>rfl
theorem ag5(fu:Nat)(r:qD)(w:aH)(l:Z aJ)(g:aF)(op:Z aA):JW fu r w l g op=some (bif zN true g.aD6 then .inl 0 else bif decide (sC l g≥0) then .inl 0 else .inr ()):=by
 unfold JW BM zN RE
 rw [SO]
 cases decide (g.aD6.aD8=2)<;>cases decide (g.aD6.aD4=eY)<;>cases decide (g.aD6.aD4=eQ)<;>cases h:decide (sC l g≥0)<;>simp [sw,bd,h]
section
variable {U:LB} (hU:U.length≤68719476736) {w:aH} (hw:wt w≤13000000) (hW:WQ (Gd U) w) (l:Z aJ) (tr:Y)
include hU hw hW
theorem aiT{n:Y}:(J9 w n).1.aEh.length≤68719476736:=by
 have _:=hU;have _:=hW
 rcases al2 w n with h|⟨p,hp,hd⟩
 ·rw [h];simp
 ·have:=aH.wt_eq w
  have:=C9 hp
  have:=aN.wt_eq p
  have:=C9 hd
  have:=aM.wt_eq (J9 w n).1
  have:=bA (J9 w n).1.aEh
  omega
theorem aq9{M:Nat→aA→J Int}{f:aA→Int}{t:aA}(ht:Gd U t)(h: ∀x,Gd U x→bR fun fu=>M fu x=some (f x)):bR fun fu=>uV w t=true→ ∀c∈(J9 w t.aD4).1.aD9,∀x∈c.aEm,M fu (VB w t x)=some (f (VB w t x)):=by
 have _:=hU;have _:=hw
 by_cases hc:uV w t=true
 ·exact(bR.list (l:=(J9 w t.aD4).1.aD9) (P:=fun c fu=> ∀x∈c.aEm,M fu (VB w t x)=some (f (VB w t x))) fun c hm=>bR.list fun x hx=>h _ (aq8 (AV U) hW ht hc hm hx)).imp fun fu h _=>h
 ·exact .all fun fu hk=>absurd hk hc
theorem af7: ∀(k:Nat) (op:Z aA) (t:aA),op.length+k=31→Gd U t→bR fun fu=>qT fu (bQ.mk w l) tr t op=some (qL false w l tr (k+1) op t):=by
 intro k
 induction k with
 |zero=>
  intro op t hk ht
  refine bR.succ ((PP t).imp fun fu hs=>?_)
  rw [qT,qL]
  unfold PZ
  rw [af8]
  cases h1:zN false t with
  |true=>rfl
  |false=>
   refine UF rfl (gD (KE fu l _) ?_)
   cases h2:decide (sC l (.mk tr t)≥0) with
   |true=>exact hH rfl rfl
   |false=>
    refine fZ rfl (gD (agE fu w t.aD4) (sw3 (c:=uV w t) (acR w t) ?_))
    cases h3:uV w t with
    |false=>rfl
    |true=>
     refine gD (agA fu op t) ?_
     cases h4:op.any fun u=>aA.eq u t with
     |true=>rfl
     |false=>
      rw [decide_eq_true (show 30<op.length by omega)]
      exact fZ rfl (hH (decide_eq_true (by omega)) rfl)
 |succ k ih=>
  intro op t hk ht
  have hsub:=aq9 (w:=w) hU hw hW (M:=fun fu x=>qT fu (bQ.mk w l) tr x (op++ [t])) (f:=fun x=>qL false w l tr (k+1) (op++ [t]) x) ht fun x hx=>ih (op++ [t]) x (by rw [List.length_append,List.length_singleton];omega) hx
  refine bR.succ (((PP t).and hsub).imp fun fu hf=>?_)
  obtain⟨hs,hf⟩:=hf
  rw [qT,qL]
  unfold PZ
  rw [af8]
  cases h1:zN false t with
  |true=>rfl
  |false=>
   refine UF rfl (gD (KE fu l _) ?_)
   cases h2:decide (sC l (.mk tr t)≥0) with
   |true=>exact hH rfl rfl
   |false=>
    refine fZ rfl (gD (agE fu w t.aD4) (sw3 (c:=uV w t) (acR w t) ?_))
    cases h3:uV w t with
    |false=>rfl
    |true=>
     refine gD (agA fu op t) ?_
     cases h4:op.any fun u=>aA.eq u t with
     |true=>rfl
     |false=>
      rw [decide_eq_false (show ¬30<op.length by omega)]
      refine fZ rfl (fZ (decide_eq_false (by omega)) (gD hs ?_))
      cases h5:decide (szT t>400) with
      |true=>exact hH rfl rfl
      |false=>
       have hl:(J9 w t.aD4).1.aEh.length=t.aD5.length:=by
        have:=h3
        unfold uV at this
        rw [Bool.and_eq_true,Bool.and_eq_true,decide_eq_true_eq,decide_eq_true_eq] at this
        exact this.2.2
       refine fZ rfl (gD (anO fu hl (aiT hU hw hW)) (jC (by omega) (jC (by rw [List.length_singleton];omega) ?_)))
       have hb:r7 (WB (J9 w t.aD4).1.aEh t.aD5):=afX hU (acQ hl ((AV U).args ht))
       rw [OZ (l:=(J9 w t.aD4).1.aD9) (f:=fun c=>m3 (fun x=>qL false w l tr (k+1) (op++ [t]) (VB w t x)) c.aEm) (fun x=>x) fun i hi=>?_]
       ·exact aq5
       ·unfold abB
        have hc:=cB hi
        have hf2:=hf h3 _ hc
        have hg2:=fun x hx=>hW.fl t.aD4 _ hc x hx
        generalize hgc:aR (J9 w t.aD4).1.aD9 i=c at hf2 hg2 ⊢
        rw [OZ (l:=c.aEm) (f:=fun x=>qL false w l tr (k+1) (op++ [t]) (VB w t x)) (fun x=> .ret x) fun j hj=>?_]
        ·exact amM
        ·unfold abC
         rw [hgc]
         refine jC hb (jC ⟨U,hU,hg2 _ (cB hj)⟩ (gD (hf2 _ (cB hj)) arC))
theorem aqQ: ∀(k:Nat) (op:Z aA) (t:aA),op.length+k=31→Gd U t→(∀u∈op,uV w u=true)→bR fun fu=>kV fu w l (.mk tr t) op=some (qL true w l tr (k+1) op t):=by
 intro k
 induction k with
 |zero=>
  intro op t hk ht ho
  refine bR.succ (((QI t).and (bR.ge 13000001)).imp fun fu hs=>?_)
  rw [kV,qL]
  unfold HB
  rw [ag5]
  cases h1:zN true t with
  |true=>simp only [aF.aD6.eq_1,h1];rfl
  |false=>
   simp only [aF.aD6.eq_1,h1]
   cases h2:decide (sC l (.mk tr t)≥0) with
   |true=>rfl
   |false=>
    refine UF rfl ?_
    rw [nC (l:=op) (p:=fun u=>aA.eq u t) (r:=fun _=>0) (fun i hi=>by unfold JX;show sw (aA.eq (aR op i) t) _ _=_;cases aA.eq (aR op i) t<;>rfl)]
    cases h4:op.find? fun u=>aA.eq u t with
    |some u=>
     have hm:=List.mem_of_find?_eq_some h4
     have he:=(aA.eq_iff _ _).1 (List.find?_some (p:=fun u=>aA.eq u t) h4)
     have hc:=ho u hm
     rw [he] at hc
     rw [hc,List.any_eq_true.2 ⟨u,hm,List.find?_some (p:=fun u=>aA.eq u t) h4⟩]
     rfl
    |none=>
     rw [show op.any (fun u=>aA.eq u t)=false from List.any_eq_false.2 fun u hu=>List.find?_eq_none.1 h4 u hu]
     refine UF rfl (gD (XO fu w t.aD4 (aH.small_wt hw (by omega))) (sw3 (c:=uV w t) (acR w t) ?_))
     cases h3:uV w t with
     |false=>rfl
     |true=>
      rw [decide_eq_true (show 30<op.length by omega)]
      exact hH (decide_eq_true (by omega)) rfl
 |succ k ih=>
  intro op t hk ht ho
  have hsub:bR fun fu=>uV w t=true→ ∀c∈(J9 w t.aD4).1.aD9,∀x∈c.aEm,kV fu w l (.mk tr (VB w t x)) (op++ [t])=some (qL true w l tr (k+1) (op++ [t]) (VB w t x)):=by
   by_cases hc:uV w t=true
   ·refine aq9 (w:=w) hU hw hW (M:=fun fu x=>kV fu w l (.mk tr x) (op++ [t])) (f:=fun x=>qL true w l tr (k+1) (op++ [t]) x) ht fun x hx=>ih (op++ [t]) x (by rw [List.length_append,List.length_singleton];omega) hx fun u hu=>?_
    rcases List.mem_append.1 hu with h|h
    ·exact ho u h
    ·rw [List.mem_singleton.1 h];exact hc
   ·exact .all fun fu h=>absurd h hc
  refine bR.succ ((((QI t).and (bR.ge 13000001)).and hsub).imp fun fu hf=>?_)
  obtain⟨⟨hs,hfu⟩,hf⟩:=hf
  rw [kV,qL]
  unfold HB
  rw [ag5]
  cases h1:zN true t with
  |true=>simp only [aF.aD6.eq_1,h1];rfl
  |false=>
   simp only [aF.aD6.eq_1,h1]
   cases h2:decide (sC l (.mk tr t)≥0) with
   |true=>rfl
   |false=>
    refine UF rfl ?_
    rw [nC (l:=op) (p:=fun u=>aA.eq u t) (r:=fun _=>0) (fun i hi=>by unfold JX;show sw (aA.eq (aR op i) t) _ _=_;cases aA.eq (aR op i) t<;>rfl)]
    cases h4:op.find? fun u=>aA.eq u t with
    |some u=>
     have hm:=List.mem_of_find?_eq_some h4
     have he:=(aA.eq_iff _ _).1 (List.find?_some (p:=fun u=>aA.eq u t) h4)
     have hc:=ho u hm
     rw [he] at hc
     rw [hc,List.any_eq_true.2 ⟨u,hm,List.find?_some (p:=fun u=>aA.eq u t) h4⟩]
     rfl
    |none=>
     rw [show op.any (fun u=>aA.eq u t)=false from List.any_eq_false.2 fun u hu=>List.find?_eq_none.1 h4 u hu]
     refine UF rfl (gD (XO fu w t.aD4 (aH.small_wt hw (by omega))) (sw3 (c:=uV w t) (acR w t) ?_))
     cases h3:uV w t with
     |false=>rfl
     |true=>
      rw [decide_eq_false (show ¬30<op.length by omega)]
      refine fZ (decide_eq_false (by omega)) (gD hs ?_)
      cases h5:decide (szT t>400) with
      |true=>exact hH rfl rfl
      |false=>
       have hl:(J9 w t.aD4).1.aEh.length=t.aD5.length:=by
        have:=h3
        unfold uV at this
        rw [Bool.and_eq_true,Bool.and_eq_true,decide_eq_true_eq,decide_eq_true_eq] at this
        exact this.2.2
       have hb:r7 (WB (J9 w t.aD4).1.aEh t.aD5):=afX hU (acQ hl ((AV U).args ht))
       refine fZ rfl (UF (s:=WB (J9 w t.aD4).1.aEh t.aD5) (aa2 (ts:=t.aD5) (aiT hU hw hW) fun i v hi hn=>?_) (jC (by rw [List.length_nil];omega) (jC (by simp only [List.nil_append,List.length_singleton];omega) ?_)))
       ·unfold T8
        exact jC (by show i<t.aD5.length;omega) (jC (by simpa using hn) rfl)
       ·rw [OZ (l:=(J9 w t.aD4).1.aD9) (f:=fun c=>m3 (fun x=>qL true w l tr (k+1) (op++ [t]) (VB w t x)) c.aEm) (fun x=>x) fun i hi=>?_]
        ·exact aq5
        ·unfold T9
         have hc:=cB hi
         have hf2:=hf h3 _ hc
         have hg2:=fun x hx=>hW.fl t.aD4 _ hc x hx
         generalize hgc:aR (J9 w t.aD4).1.aD9 i=c at hf2 hg2 ⊢
         rw [OZ (l:=c.aEm) (f:=fun x=>qL true w l tr (k+1) (op++ [t]) (VB w t x)) (fun x=> .ret x) fun j hj=>?_]
         ·exact amM
         ·unfold UA
          rw [hgc]
          refine jC hb (jC ⟨U,hU,hg2 _ (cB hj)⟩ (gD (hf2 _ (cB hj)) arC))
end
attribute [local irreducible] nZ
theorem afU{f:aF→aD×Int}{l:Z aF}{F:Nat→Z aD→J (LR (Z aD) (aD×Int))}(hl:l.length≤68719476736)(hs: ∀i v,i<l.length→v.length=i→F i v=some (if(f (aR l i)).2=0 then .next (v++ [(f (aR l i)).1]) else .ret (zEv,(f (aR l i)).2))):loopN F (l.length-0) 0 []=some (if(BU f l []).2=0 then .inr (BU f l []).1 else .inl (zEv,(BU f l []).2)):=by
 have key: ∀k i v,l.length-i=k→i≤l.length→v.length=i→loopN F k i v=some (if(BU f (l.drop i) v).2=0 then .inr (BU f (l.drop i) v).1 else .inl (zEv,(BU f (l.drop i) v).2)):=by
  intro k
  induction k with
  |zero=>
   intro i v hk hi hv
   rw [loopN,List.drop_of_length_le (by omega)]
   rfl
  |succ k ih=>
   intro i v hk hi hv
   have h:i<l.length:=by omega
   rw [loopN,hs i v h hv,sF h,BU]
   by_cases h0:(f (aR l i)).2=0
   ·rw [if_pos h0,if_pos h0]
    exact ih (i+1) _ (by omega) (by omega) (by rw [List.length_append,List.length_singleton];omega)
   ·rw [if_neg h0,if_neg h0,if_neg h0]
 have:=key _ 0 [] rfl (Nat.zero_le _) rfl
 rwa [List.drop_zero] at this
theorem arB{v:Z aD}{x:aD}{c:Int}{i:Nat}(hn:v.length=i)(hi:i+1≤68719476736):sw (!decide (c=0)) (some (.ret (zEv,c))) (gd (v.length+([x]:Z aD).length≤68719476736) (some (.next (v++ [x]))))=some (if c=0 then(.next (v++ [x]):LR (Z aD) (aD×Int)) else .ret (zEv,c)):=by
 by_cases h:c=0
 ·rw [if_pos h];exact fZ (by simp [h]) (jC (by rw [List.length_singleton];omega) rfl)
 ·rw [if_neg h];exact hH (by simp [h]) rfl
theorem aq4{r:Z aD×Int}{o:aE}:so (some (if r.2=0 then(.inr r.1:(aD×Int)⊕Z aD) else .inl (zEv,r.2))) (fun v=>some (aD.mk 1 0 o v,0))=some (if r.2=0 then(aD.mk 1 0 o r.1,0) else(zEv,r.2)):=by
 by_cases h:r.2=0
 ·rw [if_pos h,if_pos h];rfl
 ·rw [if_neg h,if_neg h];rfl
theorem nd0{c:Int}(h:c=0):(!decide (c=0))=false:=by rw [decide_eq_true h];rfl
theorem nd1{c:Int}(h: ¬c=0):(!decide (c=0))=true:=by rw [decide_eq_false h];rfl
theorem Y4{w:aH}{n:Y}(h:(nZ w n).1.aEA=true):(nZ w n).2.2=true:=by
 unfold nZ at h ⊢
 cases hq:(List.range' 0 w.aD3.length).findSome? (tQ w n) with
 |none=>rw [hq] at h;cases h
 |some r=>
  obtain⟨i,hi,hq⟩:=List.exists_of_findSome?_eq_some hq
  unfold tQ at hq
  obtain⟨k,hk,hq⟩:=List.exists_of_findSome?_eq_some hq
  split at hq
  ·cases hq;rfl
  ·cases hq
section
variable {U:LB} (hU:U.length≤68719476736) {w:aH} (hw:wt w≤13000000) (hW:WQ (Gd U) w) (l:Z aJ)
include hU hw hW
theorem anS: ∀(k:Nat) (n:Int),n+k=12→0≤n→ ∀g:aF,Gd U g.aD6→bR fun fu=>oE fu (bQ.mk w l) g n=some (iH false w l k g):=by
 intro k
 induction k with
 |zero=>
  intro n hk hn g hg
  refine bR.succ ((RR (.mk 2 (aR l (sC l g).toNat).aEG (.mk 0 0) []) BD).imp fun fu hs=>?_)
  rw [oE,iH]
  unfold KK
  refine gD (KE fu l g) ?_
  cases h2:decide (sC l g≥0) with
  |true=>exact hH rfl (jC ⟨of_decide_eq_true h2,OY (of_decide_eq_true h2)⟩ (ltE rfl (gD (WR hs _) rfl)))
  |false=>exact fZ rfl (hH (decide_eq_true (by omega)) rfl)
 |succ k ih=>
  intro n hk hn g hg
  have hg':iV g.aD6:=⟨U,hU,hg⟩
  have hsub:bR fun fu=>(eD w g).2=0→ ∀b∈(b9 w (eD w g).1).aEk,oE fu (bQ.mk w l) (F7 w (eD w g).1 g b) (n+1)=some (iH false w l k (F7 w (eD w g).1 g b)):=by
   by_cases hs:(eD w g).2=0
   ·exact(bR.list fun b hb=>ih (n+1) (by omega) (by omega) _ (ae0 (AV U) hW (KU hs) hg hb)).imp fun fu h _=>h
   ·exact .all fun fu h=>absurd h hs
  refine bR.succ (((((RR (.mk 2 (aR l (sC l g).toNat).aEG (.mk 0 0) []) BD).and (RR (.mk 4 0 (.mk 0 0) []) BD)).and (af7 hU hw hW l g.aEb 31 [] g.aD6 rfl hg)).and (hsub.and (bR.ge 100))).imp fun fu hf=>?_)
  obtain⟨⟨⟨hs,hs4⟩,hau⟩,hf,hfu⟩:=hf
  rw [oE,iH]
  unfold KK
  refine gD (KE fu l g) ?_
  cases h2:decide (sC l g≥0) with
  |true=>exact hH rfl (jC ⟨of_decide_eq_true h2,OY (of_decide_eq_true h2)⟩ (ltE rfl (gD (WR hs _) rfl)))
  |false=>
   refine fZ rfl (fZ (decide_eq_false (by omega)) ?_)
   unfold W6
   cases h3:(nZ w g.aEb).1.aEA with
   |true=>
    rw [cond_false,cond_true]
    by_cases h4:qL false w l g.aEb 32 [] g.aD6=0
    ·rw [if_pos h4]
     exact soL (gD (w6 fu w g.aEb) (hH (Y4 h3) (hH h3 (gD hau (fZ (nd0 h4) rfl)))))
    ·rw [if_neg h4]
     exact soL (gD (w6 fu w g.aEb) (hH (Y4 h3) (hH h3 (gD hau (hH (nd1 h4) rfl)))))
   |false=>
    rw [cond_false,cond_false]
    refine UF (s:=((nZ w g.aEb).1.aD4,(nZ w g.aEb).1.aEc,(nZ w g.aEb).1.aEA,(nZ w g.aEb).1.aEq,(nZ w g.aEb).1.aEp)) (gD (w6 fu w g.aEb) ?_) ?_
    ·show sw (nZ w g.aEb).2.2 (sw (nZ w g.aEb).1.aEA _ _) _=_
     cases(nZ w g.aEb).2.2 with
     |true=>exact hH rfl (fZ h3 rfl)
     |false=>exact fZ rfl rfl
    ·show so (ND fu _ (bQ.mk w l) g n (sC l g) _ _ _ _ _) _=_
     unfold ND
     have hC3: ∀r a1 a2 a3 a4 a5,NE fu r (bQ.mk w l) g n (sC l g) a1 a2 a3 a4 a5=some (.inr (decide (g.aD6.aD8=1)||decide (g.aD6.aD8=3))):=fun r a1 a2 a3 a4 a5=>by
      unfold NE
      cases decide (g.aD6.aD8=1)<;>rfl
     rw [hC3]
     cases h4:decide (g.aD6.aD8=1)||decide (g.aD6.aD8=3) with
     |true=>rfl
     |false=>
      rw [cond_false]
      have hP:=agB fu hfu w g.aD6.aD4 g.aEb
      have hC2: ∀(X:Unit→J (aD×Int)) (R:aD×Int),X ()=some R→so (so (some (.inr false:((aD×Int)⊕Unit)⊕Bool)) (fun v24=>sw v24 (some (.inl ((aD.mk 0 0 (aE.mk 0 0) [],1):aD×Int))) (sw (decide ((g.aD6.aD8:Int)=4)) (bd (lK fu w g.aD6.aD4 g.aEb) (fun(x29,x30)=>sw (x30) (bd (iF fu (aD.mk 4 0 (aE.mk 0 0) []) x29) (fun x33=>some (.inl (x33,0)))) (some (.inr ())))) (some (.inr ()))))) X=some (bif decide (g.aD6.aD8=4)&&(f9 w 8 g.aD6.aD4 g.aEb).2 then(agP (.mk 4 0 (.mk 0 0) []) (f9 w 8 g.aD6.aD4 g.aEb).1,0) else R):=fun X R hX=>by
       cases h5:decide (g.aD6.aD8=4) with
       |false=>exact hX
       |true=>
        rw [hP]
        show so (sw (f9 w 8 g.aD6.aD4 g.aEb).2 (bd (iF fu _ (f9 w 8 g.aD6.aD4 g.aEb).1) _) _) _=_
        cases h6:(f9 w 8 g.aD6.aD4 g.aEb).2 with
        |false=>exact hX
        |true=>exact soL (hH rfl (gD (WR hs4 _) rfl))
      refine hC2 _ _ (gD (al6 hw hg') ?_)
      by_cases h7:(eD w g).2=0
      ·rw [if_pos h7]
       have hR:=KU h7
       have hf:=hf h7
       refine fZ (nd0 h7) (gD (I6 fu w (eD w g).1 hR) (jC (uU hw hR) (jC hg' ?_)))
       have h1:=ac7 hw hR
       have h2:=aI.wt_eq (b9 w (eD w g).1)
       have h3:=bA (b9 w (eD w g).1).aEk
       rw [afU (l:=(b9 w (eD w g).1).aEk) (f:=fun x=>iH false w l k (F7 w (eD w g).1 g x)) (by omega) fun i v hi hv=>?_]
       ·exact aq4
       ·unfold W7
        have hm:=cB hi
        refine jC (afX hU (GS (AV U) _ _ hg)) (jC ⟨U,hU,hW.wh _ hR _ hm⟩ ?_)
        rw [LC (by omega) (by omega)]
        exact gD (hf _ hm) (arB hv (by omega))
      ·rw [if_neg h7]
       exact hH (nd1 h7) rfl
theorem aoE: ∀(k:Nat),k≤12→ ∀g:aF,Gd U g.aD6→bR fun fu=>jI fu w l g (k:Int)=some (iH true w l k g):=by
 intro k
 induction k with
 |zero=>
  intro hk g hg
  refine bR.succ ((SM (.mk 2 (aR l (sC l g).toNat).aEG (.mk 0 0) []) BD).imp fun fu hs=>?_)
  rw [jI,iH]
  unfold D9
  refine gD (SO fu l g) ?_
  cases h2:decide (sC l g≥0) with
  |true=>exact hH rfl (jC ⟨of_decide_eq_true h2,OY (of_decide_eq_true h2)⟩ (ltE rfl (gD (XU hs _) rfl)))
  |false=>exact fZ rfl (hH (decide_eq_true (by omega)) rfl)
 |succ k ih=>
  intro hk g hg
  have hg':iV g.aD6:=⟨U,hU,hg⟩
  have hsub:bR fun fu=>(eD w g).2=0→ ∀b∈(b9 w (eD w g).1).aEk,jI fu w l (F7 w (eD w g).1 g b) (k:Int)=some (iH true w l k (F7 w (eD w g).1 g b)):=by
   by_cases hs:(eD w g).2=0
   ·exact(bR.list fun b hb=>ih (by omega) _ (ae0 (AV U) hW (KU hs) hg hb)).imp fun fu h _=>h
   ·exact .all fun fu h=>absurd h hs
  refine bR.succ (bR.succ ((hsub.and (bR.ge 27000000)).imp2 (bR.succ' (((SM (.mk 2 (aR l (sC l g).toNat).aEG (.mk 0 0) []) BD).and (SM (.mk 4 0 (.mk 0 0) []) BD)).and (aqQ hU hw hW l g.aEb 31 [] g.aD6 rfl hg (by simp)))) fun fu hf hf1=>?_))
  obtain⟨hf,hfu⟩:=hf
  obtain⟨⟨hs,hs4⟩,hau⟩:=hf1
  have hau':kV (fu+1) w l g []=some (qL true w l g.aEb 32 [] g.aD6):=by cases g;exact hau
  have hI:qE (fu+1) w l g ((k+1:Nat):Int)=some (if(eD w g).2=0 then(if(BU (fun x=>iH true w l k (F7 w (eD w g).1 g x)) (b9 w (eD w g).1).aEk []).2=0 then(aD.mk 1 0 (eD w g).1 (BU (fun x=>iH true w l k (F7 w (eD w g).1 g x)) (b9 w (eD w g).1).aEk []).1,0) else(zEv,(BU (fun x=>iH true w l k (F7 w (eD w g).1 g x)) (b9 w (eD w g).1).aEk []).2)) else(zEv,(eD w g).2)):=by
   rw [qE]
   unfold OE
   refine gD (asV hw hg' (by omega)) ?_
   by_cases h7:(eD w g).2=0
   ·rw [if_pos h7]
    have hR:=KU h7
    have hf:=hf h7
    refine fZ (nd0 h7) (VG hR fun p=>jC (uU hw hR) (jC hg' ?_))
    have h1:=ac7 hw hR
    have h2:=aI.wt_eq (b9 w (eD w g).1)
    have h3:=bA (b9 w (eD w g).1).aEk
    rw [afU (l:=(b9 w (eD w g).1).aEk) (f:=fun x=>iH true w l k (F7 w (eD w g).1 g x)) (by omega) fun i v hi hv=>?_]
    ·exact aq4
    ·unfold UB
     have hm:=cB hi
     refine jC (afX hU (GS (AV U) _ _ hg)) (jC ⟨U,hU,hW.wh _ hR _ hm⟩ ?_)
     rw [show aW (((k+1:Nat):Int)-1)=(k:Int) by rw [LC (by omega) (by omega)];omega]
     exact gD (hf _ hm) (arB hv (by omega))
   ·rw [if_neg h7]
    exact hH (nd1 h7) rfl
  rw [jI,iH]
  unfold D9
  refine gD (SO _ l g) ?_
  cases h2:decide (sC l g≥0) with
  |true=>exact hH rfl (jC ⟨of_decide_eq_true h2,OY (of_decide_eq_true h2)⟩ (ltE rfl (gD (XU hs _) rfl)))
  |false=>
   refine fZ rfl (fZ (decide_eq_false (by omega)) (gD (DZ _ w g.aEb (aH.small_wt hw (by omega))) ?_))
   show sw (nZ w g.aEb).1.aEA _ _=_
   cases h3:(nZ w g.aEb).1.aEA with
   |true=>
    rw [cond_false,cond_true]
    by_cases h4:qL true w l g.aEb 32 [] g.aD6=0
    ·rw [if_pos h4]
     exact hH rfl (gD hau' (fZ (nd0 h4) rfl))
    ·rw [if_neg h4]
     exact hH rfl (gD hau' (hH (nd1 h4) rfl))
   |false=>
    rw [cond_false,cond_false]
    refine fZ rfl ?_
    cases h4:decide (g.aD6.aD8=1) with
    |true=>rfl
    |false=>
     cases h5:decide (g.aD6.aD8=3) with
     |true=>rfl
     |false=>
      refine fZ rfl (fZ rfl ?_)
      show _=some (bif _ then _ else _)
      cases h6:decide (g.aD6.aD8=4) with
      |false=>exact fZ rfl (gD hI rfl)
      |true=>
       refine hH rfl (gD (ag8 hw (by omega) g.aD6.aD4 g.aEb) ?_)
       show sw (f9 w 8 g.aD6.aD4 g.aEb).2 (bd (jY _ _ (f9 w 8 g.aD6.aD4 g.aEb).1) _) _=_
       cases h8:(f9 w 8 g.aD6.aD4 g.aEb).2 with
       |false=>exact fZ rfl (gD hI rfl)
       |true=>exact hH rfl (gD (XU hs4 _) rfl)
end
section
variable {w:aH} (hw:wt w≤13000000) {l:Z aF} (hl:l.length≤1000) (hb: ∀b∈l,iV b.aD6) {g:aF} (hg:wt g.aD6≤13000000)
include hw hl hb hg
theorem acW:(ZX w++FR g.aD6).length≤68719476736∧Gd (ZX w++FR g.aD6) g.aD6:=by
 have _:=hl;have _:=hb
 have h1:=agT w
 have h2:=adF g.aD6
 refine⟨by rw [List.length_append];omega,(Gd.own _ (by rw [O0];omega)).mono (fun n h=>List.mem_append_right _ h) _⟩
theorem ajP:bR fun fu=>WX fu w l g=some (iH false w (uA w l) 12 g):=by
 obtain⟨h1,h2⟩:=acW hw hl hb hg
 refine(anS h1 hw (Y6 hw) (uA w l) 12 0 rfl (Int.le_refl _) g h2).imp fun fu h=>?_
 unfold WX
 exact jC ⟨hw,hl,hb⟩ (gD h rfl)
theorem akD:bR fun fu=>X3 fu w l g=some (iH true w (uA w l) 12 g):=by
 obtain⟨h1,h2⟩:=acW hw hl hb hg
 refine((aoE h1 hw (Y6 hw) (uA w l) 12 (Nat.le_refl _) g h2).and (bR.ge 27000000)).imp fun fu h=>?_
 unfold X3
 exact gD ((asU hw h.2 hl hb).trans (congrArg some (anD hw h.2 l))) (gD h.1 rfl)
end
def sT(w:aH)(l:Z aF)(g:aF):aD×Int:=iH false w (uA w l) 12 g
def YX(w:aH)(l:Z aF)(g:aF):aD×Int:=iH true w (uA w l) 12 g
theorem anT(w:aH)(l:Z aF)(g:aF)(h:OX w l)(hg:wt g.aD6≤13000000):bS Tryz.prog 18 [(aH.pv w),cP l,(aF.pv g)] (.tup [(aD.pv (sT w l g).1),pI (sT w l g).2]):=by
 obtain⟨fu,hf⟩:=(ajP h.hw h.hl h.ht hg).get
 exact anU fu w l g _ hf
theorem aoF(w:aH)(l:Z aF)(g:aF)(h:OX w l)(hg:wt g.aD6≤13000000):bS Tryz.prog 19 [(aH.pv w),cP l,(aF.pv g)] (.tup [(aD.pv (YX w l g).1),pI (YX w l g).2]):=by
 obtain⟨fu,hf⟩:=(akD h.hw h.hl h.ht hg).get
 exact aoG fu w l g _ hf
end Go.Proofs.YtfcoaagbccmahaaGreat.W

namespace Go.Proofs.YtfcoaagbccmahaaGreat.W
set_option maxRecDepth 100000
set_option maxHeartbeats 40000000
noncomputable section
open Tryz Go.RowKit Go.Proofs
attribute [local irreducible] lt
abbrev eP:=aD→Option Bool
abbrev dX:=aD→Option Bool
abbrev bL:=(List aD)→Option Bool
abbrev bN:=(List aD)→Option Int
def iZ(m:eP):Prop:= ∀(p7:aD) (r:Bool),m p7=some r→bS prog 23 [(aD.pv p7)] (pB r:PV)
def jE(m:dX):Prop:= ∀(pa:aD) (r:Bool),m pa=some r→bS prog 66 [(aD.pv pa)] (pB r:PV)
def cG(m:bL):Prop:= ∀(ps:Z aD) (r:Bool),m ps=some r→bS prog 65 [cO ps,.fn 66 []] (pB r:PV)
def cN(m:bN):Prop:= ∀(ps:Z aD) (r:Int),m ps=some r→bS prog 123 [cO ps,.fn 66 []] (pI r:PV)
def AH(fu:Nat)(p3:eP)(p2:dX)(p0:bL)(p1:bN)(p7:aD):J (Bool⊕Bool):=sw (decide (p7.aD8=4)) (some (.inr (decide (p7.aD8=4)))) (some (.inr (decide (p7.aD8=5))))
def kI(fu:Nat)(p3:eP)(p2:dX)(p0:bL)(p1:bN)(p7:aD):J Bool:=sw (decide (p7.aD8=1)) (sw (decide (p7.aEr.aEf≥0)) (sw (decide (p7.aEr.aEr≥0)) (sw (decide (p7.aEM=0)) (sw (decide ((p7.aD5.length:Int)≤4)) (bd (p0 p7.aD5) fun x7=>some (!(x7))) (some false)) (some false)) (some false)) (some false)) (sw (decide (p7.aD8=2)) (sw (decide (p7.aEr.aEf=0)&&decide (p7.aEr.aEr=0)) (sw (decide (p7.aEM≥0)) (sw (decide ((p7.aD5.length:Int)=0)) (bd (p0 p7.aD5) fun x13=>some (!(x13))) (some false)) (some false)) (some false)) (sw (decide (p7.aD8=3)) (sw (decide (p7.aEr.aEf=0)&&decide (p7.aEr.aEr=0)) (sw (decide (p7.aEM≥0)) (sw (decide ((p7.aD5.length:Int)=1)) (bd (p0 p7.aD5) fun x19=>some (!(x19))) (some false)) (some false)) (some false)) (so (AH fu p3 p2 p0 p1 p7) fun v20=>sw (v20) (sw (decide (p7.aEr.aEf=0)&&decide (p7.aEr.aEr=0)) (sw (decide (p7.aEM=0)) (sw (decide ((p7.aD5.length:Int)=0)) (bd (p0 p7.aD5) fun x27=>some (!(x27))) (some false)) (some false)) (some false)) (some false))))
theorem IE(fu:Nat)(p3:eP)(p2:dX)(p0:bL)(p1:bN)(pA:iZ p3)(p9:jE p2)(p4:cG p0)(p6:cN p1):iZ (kI fu p3 p2 p0 p1):=by
 intro p7 r H
 refine qJ func23 H (fun C hC H=>?_)
 refine gQ 2 ?_;refine q1 (fN (fW p7)) ?_;refine gQ 3 ?_;refine dW (dI [1] bY (dD [6] (b5 [pI p7.aEr.aEf,pI p7.aEr.aEr]) (dI [] rR (dI [7,8] (bC.eqlP rfl rfl rfl rfl apX apY) (dI [1] bY (dD [10] eI (dI [11] rEq (dI [1] bY (dD [13] eI (dI [14] UH (dI [15] rEq (dI [9] bG (dI [12] bG ?_)))))))))))))
 refine dI [16] bG (dN ?_)
 refine gQ 12 ?_;refine bE H (fun h1 H=>?_) (fun h1 H=>?_)
 ·rcases n0 (decide (p7.aEr.aEf≥0)) with g2|g2
  ·have H:=r9 H g2
   refine dW (dI [1] bY (dI [21] bY (dD [22] eI (dI [23] rGe (dI [24] bG (dI (hg:=bB g2) [1] bY (dI (hg:=bB g2) [26] bY (dD (hg:=bB g2) [27] eI (dI (hg:=bB g2) [28] rGe (dI [25,29] (DB g2) (dI [1] bY (dD [31] eI (dI [32] UH ?_)))))))))))))
   refine dI [33] rLe (dI [30] bG (dI [34] bG (dN ?_)))
   refine gQ 4 ?_;refine dK 53 H (fun g3 H=>?_) fun g3 H=>?_
   ·refine gQ 3 ?_;refine dK 56 H (fun g4 H=>?_) fun g4 H=>?_
    ·refine gQ 3 ?_;refine dK 59 H (fun g5 H=>?_) fun g5 H=>?_
     ·refine gQ 2 ?_;refine bM H fun x7 z6 H=>(qg g5 (bI func65 (p4 p7.aD5 _ z6)) ?_)
      exact gE 4
     exact gE 7
    exact gE 10
   exact gE 13
  have H:=r8 H g2
  refine dW (dI [1] bY (dI [21] bY (dD [22] eI (dI [23] rGe (dI [24] bG ?_)))))
  iterate 4 refine KA g2 ?_
  refine dI [25] (EQ g2) (dI [1] bY (dD [31] eI (dI [32] UH (dI [33] rLe (dI [30] bG (dI [34] bG (dN ?_)))))))
  exact gE 17
 refine gQ 5 ?_;refine bE H (fun h8 H=>?_) (fun h8 H=>?_)
 ·refine gQ 10 ?_;refine dK 53 H (fun g9 H=>?_) fun g9 H=>?_
  ·refine gQ 3 ?_;refine dK 56 H (fun g10 H=>?_) fun g10 H=>?_
   ·refine gQ 3 ?_;refine dK 59 H (fun g11 H=>?_) fun g11 H=>?_
    ·refine gQ 2 ?_;refine bM H fun x13 z12 H=>(qg g11 (bI func65 (p4 p7.aD5 _ z12)) ?_)
     exact gE 4
    exact gE 7
   exact gE 10
  exact gE 13
 refine gQ 5 ?_;refine bE H (fun h14 H=>?_) (fun h14 H=>?_)
 ·refine dW (dI [1] bY (dD [42] eI (dI [43] rGe (dI [1] bY (dD [45] eI (dI [46] UH (dI [47] rEq (dI [44] bG (dI [48] bG (dN ?_))))))))))
  refine gQ 4 ?_;refine dK 53 H (fun g15 H=>?_) fun g15 H=>?_
  ·refine gQ 3 ?_;refine dK 56 H (fun g16 H=>?_) fun g16 H=>?_
   ·refine gQ 3 ?_;refine dK 59 H (fun g17 H=>?_) fun g17 H=>?_
    ·refine gQ 2 ?_;refine bM H fun x19 z18 H=>(qg g17 (bI func65 (p4 p7.aD5 _ z18)) ?_)
     exact gE 4
    exact gE 7
   exact gE 10
  exact gE 13
 refine qS ?_;refine oT (σ:=Bool) (fun v20=>⟨[(1,.ptr 0 0),(2,pB false),(3,pB (decide (p7.aEr.aEf=0)&&decide (p7.aEr.aEr=0))),(4,pB (decide (p7.aEM=0))),(5,pB (decide ((p7.aD5.length:Int)=0))),(49,pB v20)],⟨[some ⟨55,fW p7⟩],[]⟩⟩) (eX H) (fun H=>?_) ?_
 ·refine gQ 5 ?_;refine bE H (fun h21 H=>gE 1) fun h21 H=>?_;exact gE 4
 rintro v20 H
 refine bE H (fun h22 H=>?_) (fun h22 H=>?_)
 ·refine gQ 5 ?_;refine dK 53 H (fun g23 H=>?_) fun g23 H=>?_
  ·refine gQ 3 ?_;refine dK 56 H (fun g24 H=>?_) fun g24 H=>?_
   ·refine gQ 3 ?_;refine dK 59 H (fun g25 H=>?_) fun g25 H=>?_
    ·refine gQ 2 ?_;refine bM H fun x27 z26 H=>(qg g25 (bI func65 (p4 p7.aD5 _ z26)) ?_)
     exact gE 4
    exact gE 7
   exact gE 10
  exact gE 13
 exact gE 4
def sJ(fu:Nat)(p3:eP)(p2:dX)(p0:bL)(p1:bN)(pa:aD):J Bool:=bd (p3 pa) fun x2=>some (!(x2))
theorem FF(fu:Nat)(p3:eP)(p2:dX)(p0:bL)(p1:bN)(pA:iZ p3)(p9:jE p2)(p4:cG p0)(p6:cN p1):jE (sJ fu p3 p2 p0 p1):=by
 intro pa r H
 refine qJ func66 H (fun C hC H=>?_)
 refine gQ 2 ?_;refine q1 (fN (fW pa)) ?_;refine gQ 4 ?_;refine q1 (b5 [pI pa.aD8,pI pa.aEM,pI pa.aEr.aEf,pI pa.aEr.aEr,cO pa.aD5]) (bM H fun x2 z1 H=>(q1 (bI func23 (pA pa _ z1)) ?_))
 exact gE 3
def fH(fu:Nat)(p3:eP)(p2:dX)(p0:bL)(p1:bN)(ps:Z aD):J Bool:=bd (p1 ps) fun x2=>some (decide (x2≥0))
theorem m4(fu:Nat)(p3:eP)(p2:dX)(p0:bL)(p1:bN)(pA:iZ p3)(p9:jE p2)(p4:cG p0)(p6:cN p1):cG (fH fu p3 p2 p0 p1):=by
 intro ps r H
 refine qJ func65 H (fun C hC H=>?_)
 refine gQ 8 ?_;refine bM H fun x2 z1 H=>(q1 (bI func123 (p6 ps _ z1)) ?_)
 exact gE 3
def jS(fu:Nat)(p3:eP)(p2:dX)(p0:bL)(p1:bN)(ps:Z aD):Nat→Unit→J (LR Unit Int):=fun i1 _=>bd (p2 (aR ps i1)) fun x5=>sw x5 (some (.ret (i1:Int))) (some (.next ()))
def fT(fu:Nat)(p3:eP)(p2:dX)(p0:bL)(p1:bN)(ps:Z aD):J Int:=so (loopN (jS fu p3 p2 p0 p1 ps) (ps.length-0) 0 ()) fun _=>some (-1)
theorem n6(fu:Nat)(p3:eP)(p2:dX)(p0:bL)(p1:bN)(pA:iZ p3)(p9:jE p2)(p4:cG p0)(p6:cN p1):cN (fT fu p3 p2 p0 p1):=by
 intro ps r H
 refine qJ func123 H (fun C hC H=>?_)
 refine gQ 11 ?_;refine gM 0 (aD.trs_len _) (fun hl2=>?_)
 try dsimp only at hl2
 refine bV (σ:=Unit) (fun i1 _=>⟨[(0,cO ps),(1,.fn 66 []),(4,pI 0),(7,pN ps.length),(8,pN i1)],⟨[],[]⟩⟩) (fun _=>⟨[(4,pI 0)],⟨[],[]⟩⟩) (eX H) ?_ ?_
 ·rintro i1 ⟨⟩ H
  refine gQ 5 ?_;refine c5 H (fun h3 h3l H=>?_) (fun h3 H=>?_)
  ·refine gQ 14 ?_;refine q1 (iR (aD.cs (aR ps i1))) (bM H fun x5 z4 H=>(q1 (rCv func66 (p9 (aR ps i1) _ z4)) (qN ?_)))
   refine bE H (fun h6 H=>gE 5) fun h6 H=>?_;exact gE 5
  exact gE 0
 rintro⟨⟩ H
 exact gE 4
mutual
def cE:Nat→aD→J Bool
 |0,_=>none
 |fu+1,p7=>kI fu (cE fu) (cY fu) (bF fu) (bH fu) p7
def cY:Nat→aD→J Bool
 |0,_=>none
 |fu+1,pa=>sJ fu (cE fu) (cY fu) (bF fu) (bH fu) pa
def bF:Nat→(Z aD)→J Bool
 |0,_=>none
 |fu+1,ps=>fH fu (cE fu) (cY fu) (bF fu) (bH fu) ps
def bH:Nat→(Z aD)→J Int
 |0,_=>none
 |fu+1,ps=>fT fu (cE fu) (cY fu) (bF fu) (bH fu) ps
end
theorem I1(fu:Nat):iZ (cE fu)∧jE (cY fu)∧cG (bF fu)∧cN (bH fu):=by
 induction fu with
 |zero=>exact⟨(fun p7 r H=>by simp only [cE] at H;cases H),(fun pa r H=>by simp only [cY] at H;cases H),(fun ps r H=>by simp only [bF] at H;cases H),(fun ps r H=>by simp only [bH] at H;cases H)⟩
 |succ fu ih=>exact⟨(fun p7 r H=>by simp only [cE] at H;exact IE fu (cE fu) (cY fu) (bF fu) (bH fu) ih.1 ih.2.1 ih.2.2.1 ih.2.2.2 p7 r H),(fun pa r H=>by simp only [cY] at H;exact FF fu (cE fu) (cY fu) (bF fu) (bH fu) ih.1 ih.2.1 ih.2.2.1 ih.2.2.2 pa r H),(fun ps r H=>by simp only [bF] at H;exact m4 fu (cE fu) (cY fu) (bF fu) (bH fu) ih.1 ih.2.1 ih.2.2.1 ih.2.2.2 ps r H),(fun ps r H=>by simp only [bH] at H;exact n6 fu (cE fu) (cY fu) (bF fu) (bH fu) ih.1 ih.2.1 ih.2.2.1 ih.2.2.2 ps r H)⟩
theorem AI(fu:Nat):iZ (cE fu):=(I1 fu).1
abbrev sZ:=aD→Option Int
def sY(m:sZ):Prop:= ∀(pe:aD) (r:Int),m pe=some r→bS prog 67 [(aD.pv pe)] (pI r:PV)
def DN(fu:Nat)(p8:sZ)(pe:aD):Nat→Int→J (LR Int Int):=fun i1 v2=>bd (p8 (aR pe.aD5 i1)) fun x6=>some (.next (max v2 (aW (x6+1))))
def wV(fu:Nat)(p8:sZ)(pe:aD):J Int:=so (loopN (DN fu p8 pe) (pe.aD5.length-0) 0 0) fun v2=>some v2
theorem LF(fu:Nat)(p8:sZ)(pG:sY p8):sY (wV fu p8):=by
 intro pe r H
 refine qJ func67 H (fun C hC H=>?_)
 refine gQ 2 ?_;refine q1 (fN (fW pe)) ?_;refine gQ 14 ?_;refine gM 7 (aD.trs_len _) (fun hl3=>?_)
 try dsimp only at hl3
 refine bV (σ:=Int) (fun i1 v2=>⟨[(2,pI 0),(3,pI v2),(7,cO pe.aD5),(8,pN pe.aD5.length),(9,pN i1)],⟨[some ⟨55,fW pe⟩],[]⟩⟩) (fun v2=>⟨[(2,pI 0),(3,pI v2)],⟨[some ⟨55,fW pe⟩],[]⟩⟩) (eX H) ?_ ?_
 ·rintro i1 v2 H
  refine gQ 5 ?_;refine c5 H (fun h4 h4l H=>?_) (fun h4 H=>?_)
  ·refine gQ 6 ?_;refine q1 (iR (aD.cs (aR pe.aD5 i1))) ?_;refine gQ 5 ?_;refine q1 (b5 [pI ((aR pe.aD5 i1).aD8),pI ((aR pe.aD5 i1).aEM),pI ((aR pe.aD5 i1).aEr.aEf),pI ((aR pe.aD5 i1).aEr.aEr),cO ((aR pe.aD5 i1).aD5)]) (bM H fun x6 z5 H=>(q1 (bI func67 (pG (aR pe.aD5 i1) _ z5)) (q1 rAw (q1 (bC.maxI rfl rfl rfl rfl) ?_))))
   exact gE 6
  exact gE 0
 rintro v2 H
 exact gE 5
def hZ:Nat→aD→J Int
 |0,_=>none
 |fu+1,pe=>wV fu (hZ fu) pe
theorem M6(fu:Nat):sY (hZ fu):=by
 induction fu with
 |zero=>exact(fun pe r H=>by simp only [hZ] at H;cases H)
 |succ fu ih=>exact(fun pe r H=>by simp only [hZ] at H;exact LF fu (hZ fu) ih pe r H)
theorem PJ(fu:Nat):sY (hZ fu):=(M6 fu)
def tX(fu:Nat)(pw:aH)(pK:Y)(pn:Int):J (Y×Bool):=bd (yU fu pw pK) fun(x2,x3,x4)=>sw (!(x4)) (some (s_,false)) (sw (decide (pn<0)) (some (s_,false)) (sw (decide (pn≥(x2.aEc.length:Int))) (some (s_,false)) (gd (0≤pn∧(pn).toNat<(x2.aEc).length) (some ((aR x2.aEc ((pn).toNat)),true)))))
theorem I7(fu:Nat)(pw:aH)(pK:Y)(pn:Int)(r:Y×Bool)(H:tX fu pw pK pn=some r):bS prog 125 [(aH.pv pw),pS pK,pI pn] (.tup [pS r.1,pB r.2]):=by
 refine qJ func125 H (fun C hC H=>?_)
 refine gQ 2 ?_;refine q1 (fN ([aQ pw.aD3])) ?_;refine gQ 5 ?_;refine q1 (b5 [aQ pw.aD3]) (q1 bG (IC H fun x2 x3 x4 z1 H=>(q1 (bI func115 (FK fu pw pK _ z1)) ?_)))
 refine gQ 15 ?_;refine dK 20 H (fun g5 H=>gE 17) fun g5 H=>?_;refine gQ 4 ?_;refine dK 24 H (fun g6 H=>gE 13) fun g6 H=>?_;refine gQ 7 ?_;refine bE H (fun h7 H=>gE 5) fun h7 H=>?_;refine gQ 6 ?_;refine cK H fun z8 H=>(q1 (rIy z8 ZI.h) ?_)
 exact gE 4
abbrev RY:=aH→(List aF)→aD→aA→Option (ByteArray×Bool)
def KJ(m:RY):Prop:= ∀(p7:aH) (pD:Z aF) (pF:aD) (pL:aA) (r:Y×Bool),m p7 pD pF pL=some r→bS prog 124 [(aH.pv p7),cP pD,(aD.pv pF),(aA.pv pL)] (.tup [pS r.1,pB r.2]:PV)
def FJ(fu:Nat)(pE:RY)(p7:aH)(pD:Z aF)(pF:aD)(pL:aA):J (Y×Bool):=sw (decide (pF.aD8=4)) (some (pL.aD4,(decide (pL.aD8=4)))) (sw (decide (pF.aD8=3)) (sw (decide ((pF.aD5.length:Int)=0)) (some (s_,false)) (gd (0<(pF.aD5).length) (bd (pE p7 pD (aR pF.aD5 0) pL) fun(x6,x7)=>sw (!(x7)) (some (s_,false)) (bd (tX fu p7 x6 pF.aEM) fun(x10,x11)=>some (x10,x11))))) (sw (decide (pF.aD8=2)) (sw (decide (pF.aEM<0)) (some (s_,false)) (sw (decide (pF.aEM≥(pD.length:Int))) (some (s_,false)) (gd (0≤pF.aEM∧(pF.aEM).toNat<(pD).length) (some (((aR pD ((pF.aEM).toNat)).aEb),true))))) (sw (decide (pF.aD8=1)) (bd (oV fu p7 pF.aEr) fun(x18,x19)=>some (x18.aEb,x19)) (some (s_,false)))))
theorem ac9(fu:Nat)(pE:RY)(pM:KJ pE):KJ (FJ fu pE):=by
 intro p7 pD pF pL r H
 refine qJ func124 H (fun C hC H=>?_)
 refine gQ 2 ?_;refine q1 (fN ([aQ p7.aD3])) (q1 (fN (fW pF)) (q1 (fN (b7 pL)) ?_))
 refine gQ 15 ?_;refine bE H (fun h1 H=>?_) (fun h1 H=>?_)
 ·refine qS (dW (dI [7] bY (dD [18] eI (dI [7] bY (dD [20] eI (dI [21] rEq (dI [19] bG (dI [22] bG (dN ?_)))))))))
  exact gE 0
 refine gQ 5 ?_;refine bE H (fun h2 H=>?_) (fun h2 H=>?_)
 ·refine gQ 8 ?_;refine bE H (fun h3 H=>gE 5) fun h3 H=>?_;refine gQ 2 ?_;refine cK H fun z4 H=>(eO H fun x6 x7 z5 H=>(dW (dD [4] (b5 [aQ p7.aD3]) (dI [1] bG (dI [6] bY (dD [32] eI (dI [33] rB (dI [34] (iR (aD.cs (aR pF.aD5 0))) (dD [7] (b5 [pI pL.aD8,pS pL.aD4,aT pL.aD5]) (dI [30,31,35,36] (bI func124 (pM p7 pD (aR pF.aD5 0) pL _ z5)) (dI [37] bG ?_)))))))))))
  iterate 2 refine dI [29] rEx ?_
  refine dI [38] bG (dI [39] bG (dN ?_))
  refine gQ 6 ?_;refine bE H (fun h8 H=>gE 5) fun h8 H=>?_;refine gQ 3 ?_;refine q1 (b5 [aQ p7.aD3]) ?_;refine gQ 3 ?_;refine eO H fun x10 x11 z9 H=>(q1 (bI func125 (I7 fu p7 x6 pF.aEM _ z9)) ?_)
  exact gE 5
 refine gQ 5 ?_;refine bE H (fun h12 H=>?_) (fun h12 H=>?_)
 ·refine gQ 7 ?_;refine dK 54 H (fun g13 H=>gE 13) fun g13 H=>?_;refine gQ 7 ?_;refine bE H (fun h14 H=>gE 5) fun h14 H=>?_;refine gQ 6 ?_;refine cK H fun z15 H=>(q1 (rIy z15 apT.h) ?_)
  exact gE 5
 refine gQ 5 ?_;refine bE H (fun h16 H=>?_) (fun h16 H=>?_)
 ·refine gQ 2 ?_;refine q1 (b5 [aQ p7.aD3]) (q1 bY (q1 (b5 [pI pF.aEr.aEf,pI pF.aEr.aEr]) (eO H fun x18 x19 z17 H=>(q1 (bI func118 (s6 fu p7 pF.aEr _ z17)) ?_))))
  exact gE 15
 exact gE 6
def oA:Nat→aH→(Z aF)→aD→aA→J (Y×Bool)
 |0,_,_,_,_=>none
 |fu+1,p7,pD,pF,pL=>FJ fu (oA fu) p7 pD pF pL
theorem agH(fu:Nat):KJ (oA fu):=by
 induction fu with
 |zero=>exact(fun p7 pD pF pL r H=>by simp only [oA] at H;cases H)
 |succ fu ih=>exact(fun p7 pD pF pL r H=>by simp only [oA] at H;exact ac9 fu (oA fu) ih p7 pD pF pL r H)
theorem ajT(fu:Nat):KJ (oA fu):=(agH fu)
abbrev KG:=aH→(List aF)→aD→aF→Option Bool
def KF(m:KG):Prop:= ∀(p7:aH) (pD:Z aF) (p5:aD) (a3:aF) (r:Bool),m p7 pD p5 a3=some r→bS prog 68 [(aH.pv p7),cP pD,(aD.pv p5),(aF.pv a3)] (pB r:PV)
def WZ(fu:Nat)(pC:KG)(p7:aH)(pD:Z aF)(p5:aD)(a3:aF)(x31:aE)(x32:Int)(x34:aI)(x35:Bool):Nat→Unit→J (LR Unit Bool):=fun i41 _=>gd (i41<(p5.aD5).length) (gd (r7 (gJ x34.aEj a3.aD6)) (gd (iV ((aR x34.aEk i41).aD6)) (bd (pC p7 pD (aR p5.aD5 i41) (aF.mk ((aR x34.aEk i41).aEb) (lC (gJ x34.aEj a3.aD6) ((aR x34.aEk i41).aD6)))) fun x48=>sw (!(x48)) (some (.ret false)) (some (.next ())))))
def wX(fu:Nat)(pC:KG)(p7:aH)(pD:Z aF)(p5:aD)(a3:aF):J Bool:=sw (decide (p5.aD8=2)) (sw (decide (p5.aEM<(pD.length:Int))) (gd (0≤p5.aEM∧(p5.aEM).toNat<(pD).length) (bd (vM fu (aR pD ((p5.aEM).toNat)) a3) fun x5=>some x5)) (some false)) (sw (decide (p5.aD8=5)) (bd (yU fu p7 a3.aEb) fun(x8,x9,x10)=>sw x10 (sw (x8.aEA) (bd (GI fu p7 pD a3) fun x14=>some (decide (x14=0))) (some false)) (some false)) (sw (decide (p5.aD8=4)) (sw (decide (a3.aD6.aD8=4)) (some (decide (a3.aD6.aD4=a3.aEb))) (some false)) (sw (decide (p5.aD8=3)) (gd (0<(p5.aD5).length) (bd (oA fu p7 pD (aR p5.aD5 0) a3.aD6) fun(x20,x21)=>sw (!(x21)) (some false) (bd (tX fu p7 x20 p5.aEM) fun(x24,x25)=>sw x25 (sw (decide (x24=a3.aEb)) (bd (pC p7 pD (aR p5.aD5 0) (aF.mk x20 a3.aD6)) fun x29=>some x29) (some false)) (some false)))) (bd (m8 fu p7 a3) fun(x31,x32)=>bd (oV fu p7 x31) fun(x34,x35)=>sw (!decide (x32=0)) (some false) (sw (!(decide (x31.aEf=p5.aEr.aEf)&&decide (x31.aEr=p5.aEr.aEr))) (some false) (sw (!decide ((p5.aD5.length:Int)=(x34.aEk.length:Int))) (some false) (gd (Tr.bulkL (aA.tr x34.aEj)≤68719476735) (gd (iV a3.aD6) (so (loopN (WZ fu pC p7 pD p5 a3 x31 x32 x34 x35) (x34.aEk.length-0) 0 ()) fun _=>some true)))))))))
theorem ac3(fu:Nat)(pC:KG)(pJ:KF pC):KF (wX fu pC):=by
 intro p7 pD p5 a3 r H
 refine qJ func68 H (fun C hC H=>?_)
 refine gQ 2 ?_;refine q1 (fN ([aQ p7.aD3])) (q1 (fN (fW p5)) (q1 (fN (dG a3)) ?_))
 refine gQ 14 ?_;refine bE H (fun h1 H=>?_) (fun h1 H=>?_)
 ·refine qS ?_
  rcases n0 (decide (p5.aEM<(pD.length:Int))) with g2|g2
  ·have H:=r9 H g2
   refine cK H fun z3 H=>(bM H fun x5 z4 H=>(dW (dI [6] bY (dD [28] eI (dI [1] bG (dI [30] UH (dI [29,31] rLt (dI [32] bG (dI (hg:=bB g2) [1] bG (dI (hg:=bB g2) [6] bY (dD (hg:=bB g2) [35] eI (dI (hg:=bB g2) [34,36] (rIy z3 apT.h) (dI (hg:=bB g2) [37] (iR (aF.cs (aR pD ((p5.aEM).toNat)))) ?_)))))))))))))
   refine dD (hg:=bB g2) [7] (b5 [pS a3.aEb,pI a3.aD6.aD8,pS a3.aD6.aD4,aT a3.aD6.aD5]) (dI (hg:=bB g2) [38,39] (bI func84 (MD fu (aR pD ((p5.aEM).toNat)) a3 _ z4)) (dI [33,40] (DB g2) (dI [41] bG (dN ?_))))
   exact gE 0
  have H:=r8 H g2
  refine dW (dI [6] bY (dD [28] eI (dI [1] bG (dI [30] UH (dI [29,31] rLt (dI [32] bG ?_))))))
  iterate 7 refine KA g2 ?_
  refine dI [33] (EQ g2) (dI [41] bG (dN ?_))
  exact gE 0
 refine gQ 5 ?_;refine bE H (fun h6 H=>?_) (fun h6 H=>?_)
 ·refine gQ 2 ?_;refine q1 (b5 [aQ p7.aD3]) ?_;refine gQ 2 ?_;refine IC H fun x8 x9 x10 z7 H=>(q1 (bI func115 (FK fu p7 a3.aEb _ z7)) ?_)
  refine gQ 13 ?_;refine dK 53 H (fun g11 H=>?_) fun g11 H=>?_
  ·refine gQ 4 ?_;refine dK 57 H (fun g12 H=>?_) fun g12 H=>?_
   ·refine qg g12 (b5 [aQ p7.aD3]) (qg g12 bG (qg g12 (b5 [pS a3.aEb,pI a3.aD6.aD8,pS a3.aD6.aD4,aT a3.aD6.aD5]) (bM H fun x14 z13 H=>(qg g12 (bI func11 (ZM fu p7 pD a3 _ z13)) ?_))))
    exact gE 4
   exact gE 8
  exact gE 12
 refine gQ 5 ?_;refine bE H (fun h15 H=>?_) (fun h15 H=>?_)
 ·refine gQ 7 ?_;refine dK 70 H (fun g16 H=>gE 9) fun g16 H=>?_;exact gE 9
 refine gQ 5 ?_;refine bE H (fun h17 H=>?_) (fun h17 H=>?_)
 ·refine qS (cK H fun z18 H=>(eO H fun x20 x21 z19 H=>(dW (dD [4] (b5 [aQ p7.aD3]) (dI [1] bG (dI [6] bY (dD [83] eI (dI [84] rB (dI [85] (iR (aD.cs (aR p5.aD5 0))) (dI [7] bY (dD [87] (b5 [pI a3.aD6.aD8,pS a3.aD6.aD4,aT a3.aD6.aD5]) (dI [81,82,86,88] (bI func124 (ajT fu p7 pD (aR p5.aD5 0) a3.aD6 _ z19)) (dI [89] bG ?_)))))))))))))
  iterate 2 refine dI [80] rEx ?_
  refine dI [90] bG (dI [91] bG (dN ?_))
  refine gQ 6 ?_;refine bE H (fun h22 H=>gE 4) fun h22 H=>?_;refine gQ 3 ?_;refine q1 (b5 [aQ p7.aD3]) ?_;refine gQ 3 ?_;refine eO H fun x24 x25 z23 H=>(q1 (bI func125 (I7 fu p7 x20 p5.aEM _ z23)) ?_)
  refine gQ 7 ?_
  rcases n0 (x25) with g26|g26
  ·have H:=r9 H g26
   rcases n0 (decide (x24=a3.aEb)) with g27|g27
   ·have H:=r9 H g27
    refine bM H fun x29 z28 H=>(dW (dI [15] bG (dI [102] bG (dI (hg:=bB g26) [14] bG (dI (hg:=bB g26) [7] bY (dD (hg:=bB g26) [105] eI (dI (hg:=bB g26) [104,106] rSe (dI [103,107] (DB g26) (dI [108] bG (dD (hg:=bB g27) [4] (b5 [aQ p7.aD3]) (dI (hg:=bB g27) [1] bG (dI (hg:=bB g27) [6] bY (dD (hg:=bB g27) [112] eI ?_)))))))))))))
    refine dI (hg:=bB g27) [113] rB (dI (hg:=bB g27) [114] (iR (aD.cs (aR p5.aD5 0))) (dI (hg:=bB g27) [12] bG (dI (hg:=bB g27) [7] bY (dD (hg:=bB g27) [117] (b5 [pI a3.aD6.aD8,pS a3.aD6.aD4,aT a3.aD6.aD5]) (dI (hg:=bB g27) [116,118] rR (dI (hg:=bB g27) [110,111,115,119] (bI func68 (pJ p7 pD (aR p5.aD5 0) (aF.mk x20 a3.aD6) _ z28)) (dI [109,120] (DB g27) (dI [121] bG (dN ?_)))))))))
    exact gE 0
   have H:=r8 H g27
   refine dW (dI [15] bG (dI [102] bG (dI (hg:=bB g26) [14] bG (dI (hg:=bB g26) [7] bY (dD (hg:=bB g26) [105] eI (dI (hg:=bB g26) [104,106] rSe (dI [103,107] (DB g26) (dI [108] bG ?_))))))))
   iterate 11 refine KA g27 ?_
   refine dI [109] (EQ g27) (dI [121] bG (dN ?_))
   exact gE 0
  have H:=r8 H g26
  refine dW (dI [15] bG (dI [102] bG ?_))
  iterate 4 refine KA g26 ?_
  refine dI [103] (EQ g26) (dI [108] bG ?_)
  iterate 11 refine KA rfl ?_
  refine dI [109] (EQ rfl) (dI [121] bG (dN ?_))
  exact gE 0
 refine gQ 3 ?_;refine q1 (b5 [aQ p7.aD3]) (q1 (b5 [pS a3.aEb,pI a3.aD6.aD8,pS a3.aD6.aD4,aT a3.aD6.aD5]) (eO H fun x31 x32 z30 H=>(q1 (bI func117 (CE fu p7 a3 _ z30)) ?_)))
 refine gQ 9 ?_;refine q1 (b5 [aQ p7.aD3]) (q1 (b5 [pI x31.aEf,pI x31.aEr]) (eO H fun x34 x35 z33 H=>(q1 (bI func118 (s6 fu p7 x31 _ z33)) ?_)))
 refine gQ 13 ?_;refine dK 136 H (fun g36 H=>gE 20) fun g36 H=>?_;refine qg g36 (b5 [pI x31.aEf,pI x31.aEr]) (qg g36 bY (qg g36 (b5 [pI p5.aEr.aEf,pI p5.aEr.aEr]) (qg g36 (bC.neqP rfl rfl rfl rfl apX apY) ?_)))
 refine gQ 2 ?_;refine dK 142 H (fun g37 H=>gE 14) fun g37 H=>?_;refine gQ 9 ?_;refine bE H (fun h38 H=>gE 4) fun h38 H=>?_;refine gQ 4 ?_;refine q1 (b5 [pI x34.aEj.aD8,pS x34.aEj.aD4,aT x34.aEj.aD5]) (q1 bY (q1 (b5 [pI a3.aD6.aD8,pS a3.aD6.aD4,aT a3.aD6.aD5]) (cK H fun z39 H=>(cK H fun z40 H=>(q1 (bI func119 (aa7 x34.aEj a3.aD6 z39 z40)) ?_)))))
 refine gQ 14 ?_;refine gM 147 (aF.trs_len _) (fun hl42=>?_)
 try dsimp only at hl42
 refine bV (σ:=Unit) (fun i41 _=>⟨[(1,cP pD),(4,.ptr 0 0),(6,.ptr 1 0),(8,pB false),(20,gK (gJ x34.aEj a3.aD6)),(160,cP x34.aEk),(161,pN x34.aEk.length),(162,pN i41)],⟨[some ⟨26,[aQ p7.aD3]⟩,some ⟨55,fW p5⟩,some ⟨32,dG a3⟩,some ⟨52,[pI x31.aEf,pI x31.aEr]⟩,some ⟨163,dU x34⟩],[]⟩⟩) (fun _=>⟨[(8,pB false)],⟨[some ⟨26,[aQ p7.aD3]⟩,some ⟨55,fW p5⟩,some ⟨32,dG a3⟩,some ⟨52,[pI x31.aEf,pI x31.aEr]⟩,some ⟨163,dU x34⟩],[]⟩⟩) (eX H) ?_ ?_
 ·rintro i41 ⟨⟩ H
  refine gQ 5 ?_;refine c5 H (fun h43 h43l H=>?_) (fun h43 H=>?_)
  ·refine gQ 7 ?_;refine q1 (iR (aF.cs (aR x34.aEk i41))) ?_;refine gQ 5 ?_;refine cK H fun z44 H=>(cK H fun z45 H=>(cK H fun z46 H=>(bM H fun x48 z47 H=>(dW (dD [4] (b5 [aQ p7.aD3]) (dI [1] bG (dI [6] bY (dD [169] eI (dI [22] bG (dI [170,171] rB (dI [172] (iR (aD.cs (aR p5.aD5 i41))) (dI [23] bY (dD [174] eI ?_)))))))))))))
   refine dI [20] bG (dI [23] bY (dD [177] (b5 [pI (((aR x34.aEk i41).aD6).aD8),pS (((aR x34.aEk i41).aD6).aD4),aT (((aR x34.aEk i41).aD6).aD5)]) (dI [176,178] (bI func16 (RQ (gJ x34.aEj a3.aD6) ((aR x34.aEk i41).aD6) z45 z46)) (dI [175,179] rR (dI [167,168,173,180] (bI func68 (pJ p7 pD (aR p5.aD5 i41) (aF.mk ((aR x34.aEk i41).aEb) (lC (gJ x34.aEj a3.aD6) ((aR x34.aEk i41).aD6))) _ z47)) (dI [181] LI (dN ?_)))))))
   refine bE H (fun h49 H=>gE 4) fun h49 H=>?_;exact gE 5
  exact gE 0
 rintro⟨⟩ H
 exact gE 4
def kJ:Nat→aH→(Z aF)→aD→aF→J Bool
 |0,_,_,_,_=>none
 |fu+1,p7,pD,p5,a3=>wX fu (kJ fu) p7 pD p5 a3
theorem agD(fu:Nat):KF (kJ fu):=by
 induction fu with
 |zero=>exact(fun p7 pD p5 a3 r H=>by simp only [kJ] at H;cases H)
 |succ fu ih=>exact(fun p7 pD p5 a3 r H=>by simp only [kJ] at H;exact ac3 fu (kJ fu) ih p7 pD p5 a3 r H)
theorem ajR(fu:Nat):KF (kJ fu):=(agD fu)
def FE(fu:Nat)(pw:aH)(pH:Z aF)(pe:aD)(pg:aF):J Bool:=bd (cE fu pe) fun x2=>sw x2 (bd (hZ fu pe) fun x5=>sw (decide (x5≤24)) (bd (kJ fu pw pH pe pg) fun x8=>some x8) (some false)) (some false)
theorem PI(fu:Nat)(pw:aH)(pH:Z aF)(pe:aD)(pg:aF)(r:Bool)(H:FE fu pw pH pe pg=some r):bS prog 24 [(aH.pv pw),cP pH,(aD.pv pe),(aF.pv pg)] (pB r):=by
 refine qJ func24 H (fun C hC H=>?_)
 refine gQ 2 ?_;refine q1 (fN ([aQ pw.aD3])) (q1 (fN (fW pe)) (q1 (fN (dG pg)) ?_))
 refine gQ 4 ?_;refine q1 (b5 [pI pe.aD8,pI pe.aEM,pI pe.aEr.aEf,pI pe.aEr.aEr,cO pe.aD5]) (bM H fun x2 z1 H=>(q1 (bI func23 (AI fu pe _ z1)) (q1 bG ?_)))
 refine dK 11 H (fun g3 H=>?_) fun g3 H=>?_
 ·refine qg g3 (b5 [pI pe.aD8,pI pe.aEM,pI pe.aEr.aEf,pI pe.aEr.aEr,cO pe.aD5]) (bM H fun x5 z4 H=>(qg g3 (bI func67 (PJ fu pe _ z4)) ?_))
  refine gQ 3 ?_;refine dK 16 H (fun g6 H=>?_) fun g6 H=>?_
  ·refine qg g6 (b5 [aQ pw.aD3]) (qg g6 bG (qg g6 (b5 [pI pe.aD8,pI pe.aEM,pI pe.aEr.aEf,pI pe.aEr.aEr,cO pe.aD5]) (qg g6 (b5 [pS pg.aEb,pI pg.aD6.aD8,pS pg.aD6.aD4,aT pg.aD6.aD5]) (bM H fun x8 z7 H=>(qg g6 (bI func68 (ajR fu pw pH pe pg _ z7)) ?_)))))
   exact gE 3
  exact gE 8
 exact gE 13
end
end Go.Proofs.YtfcoaagbccmahaaGreat.W

namespace Go.Proofs.YtfcoaagbccmahaaGreat.W
open Go.RowKit Go.Proofs
attribute [local irreducible] lt
def EO(s:Y):Prop:=s=jZ∨s=eC
def MA(w:aH):Prop:= ∀n,∀s∈(nZ w n).1.aEc,EO s
theorem auF{α:Type}[Inhabited α]{l:Z α}{x:α}(h:x∈l): ∃i,i<l.length∧aR l i=x:=by
 obtain⟨i,hi,e⟩:=List.getElem_of_mem h
 exact⟨i,hi,(iE hi).trans e⟩
theorem abO(w:aH)(s:Y): ∀k,(f9 w k s s).2=true
 |0=>by rw [f9,if_pos rfl]
 |k+1=>by rw [f9,if_pos rfl]
theorem SG{w:aH}{k:Nat}{a s m:Y}(hm:m∈(nZ w a).1.aEc)(h:(f9 w k m s).2=true):(f9 w (k+1) a s).2=true:=by
 rw [f9]
 split
 ·rfl
 ·obtain⟨i,hi,e⟩:=auF hm
  cases hq:(List.range' 0 (nZ w a).1.aEc.length).findSome? (ED w a fun s'=>f9 w k s' s) with
  |none=>
   rw [List.findSome?_eq_none_iff] at hq
   have:=hq i (List.mem_range'_1.2 ⟨Nat.zero_le _,by omega⟩)
   unfold ED at this
   rw [e,if_pos h] at this
   cases this
  |some r=>
   obtain⟨j,_,hj⟩:=List.exists_of_findSome?_eq_some hq
   unfold ED at hj
   split at hj
   ·cases hj;rfl
   ·cases hj
def Two(w:aH)(a s:Y):Prop:=EO s∧(s∈(nZ w a).1.aEc∨ ∃m∈(nZ w a).1.aEc,s∈(nZ w m).1.aEc)
theorem arH{w:aH}{a s:Y}(h:Two w a s):(f9 w 8 a s).2=true:=by
 obtain⟨_,h|⟨m,hm,h⟩⟩:=h
 ·exact SG h (abO w s 7)
 ·exact SG hm (SG h (abO w s 6))
theorem arG{w:aH}(hS:MA w){a n s:Y}(hn:n=a∨Two w a n)(hs:s∈(nZ w n).1.aEc):Two w a s:=by
 refine⟨hS n s hs,?_⟩
 rcases hn with rfl|⟨en,h|⟨m,hm,h⟩⟩
 ·exact .inl hs
 ·exact .inr ⟨n,h,hs⟩
 ·by_cases h1:s=m
  ·exact .inl (h1 ▸ hm)
  by_cases h2:n=m
  ·exact .inr ⟨m,hm,h2 ▸ hs⟩
  have h3:s=n:=by
   rcases hS n s hs with e1|e1<;>rcases en with e2|e2<;>rcases hS a m hm with e3|e3<;>first|exact e1.trans e2.symm|exact absurd (e1.trans e3.symm) h1|exact absurd (e2.trans e3.symm) h2
  exact .inr ⟨m,hm,h3 ▸ h⟩
theorem aiS{w:aH}(hS:MA w)(a:Y): ∀k out n,(n=a∨Two w a n)→(∀s∈out,Two w a s)→ ∀s∈L8 w k out n,Two w a s
 |0,out,n,_,h=>h
 |k+1,out,n,hn,h=>by
  rw [L8]
  refine RM (fun v:LB=> ∀s∈v,Two w a s) (fun v s hs hv=>?_) h
  have h1:=arG hS hn hs
  split
  ·exact hv
  ·exact aiS hS a k _ s (.inr h1) fun x hx=>by
    rcases List.mem_append.1 hx with h2|h2
    ·exact hv x h2
    ·rw [List.mem_singleton.1 h2];exact h1
theorem arA{w:aH}(hS:MA w){fu:Nat}{a s:Y}(h:s∈wM fu w a):(f9 w 8 a s).2=true:=
 arH (aiS hS a fu [] a (.inl rfl) (by simp) s h)
def afR(w:aH):Y→Z Int→Y→Prop
 |a,[],s=>a=s
 |a,n::r,s=> ∃i:Nat,n=(i:Int)∧i<(nZ w a).1.aEc.length∧afR w (aR (nZ w a).1.aEc i) r s
theorem SF{w:aH}: ∀k a s,(f9 w k a s).2=true→afR w a (f9 w k a s).1 s
 |0,a,s,h=>by
  rw [f9] at h ⊢
  split
  ·rename_i e;exact e
  ·rename_i e;rw [if_neg e] at h;cases h
 |k+1,a,s,h=>by
  rw [f9] at h ⊢
  split
  ·rename_i e;exact e
  ·rename_i e
   rw [if_neg e] at h
   cases hq:(List.range' 0 (nZ w a).1.aEc.length).findSome? (ED w a fun s'=>f9 w k s' s) with
   |none=>rw [hq] at h;cases h
   |some r=>
    obtain⟨j,hj1,hj⟩:=List.exists_of_findSome?_eq_some hq
    rw [List.mem_range'_1] at hj1
    unfold ED at hj
    split at hj
    ·rename_i hp
     cases hj
     exact⟨j,rfl,by omega,SF k _ s hp⟩
    ·cases hj
theorem ao0{w:aH}{n:Y}(h:0<(nZ w n).1.aEc.length):(nZ w n).2.2=true:=by
 unfold nZ at h ⊢
 cases hq:(List.range' 0 w.aD3.length).findSome? (tQ w n) with
 |none=>rw [hq] at h;exact absurd h (Nat.lt_irrefl 0)
 |some r=>
  obtain⟨i,hi,hq⟩:=List.exists_of_findSome?_eq_some hq
  unfold tQ at hq
  obtain⟨k,hk,hq⟩:=List.exists_of_findSome?_eq_some hq
  split at hq
  ·cases hq;rfl
  ·cases hq
theorem MA.of{w:aH}(h: ∀p∈w.aD3,∀t∈p.aEi,∀s∈t.aEc,EO s):MA w:=fun n s hs=>by
 unfold nZ at hs
 cases hq:(List.range' 0 w.aD3.length).findSome? (tQ w n) with
 |none=>rw [hq] at hs;cases hs
 |some r=>
  rw [hq] at hs
  obtain⟨i,hi,hq⟩:=List.exists_of_findSome?_eq_some hq
  unfold tQ at hq
  obtain⟨k,hk,hq⟩:=List.exists_of_findSome?_eq_some hq
  rw [List.mem_range'_1] at hi hk
  split at hq
  ·cases hq
   exact h _ (cB (by omega:i<w.aD3.length)) _ (cB (by omega:k<(aR w.aD3 i).aEi.length)) s hs
  ·cases hq
end Go.Proofs.YtfcoaagbccmahaaGreat.W

namespace Go.Proofs.YtfcoaagbccmahaaGreat.W
open Go.RowKit Go.WalkArith Go.Proofs
attribute [local irreducible] lt J9 nZ wt wl
def Vl(e:aD):Prop:=bR fun fu=>cE fu e=some true
theorem VS{xs:Z aD}(h: ∀x∈xs,Vl x):bR fun fu=>bF fu xs=some false:=
 bR.succ (bR.succ (bR.succ ((bR.list h).imp fun fu hf=>by
  have h1: ∀x∈xs,cY (fu+1) x=some false:=fun x hx=>by
   rw [cY]
   unfold sJ
   exact gD (hf x hx) rfl
  have h2:bH (fu+2) xs=some (-1):=by
   rw [bH]
   unfold fT
   refine UF (s:=()) (CM (fun i hi=>?_) _ 0 rfl) rfl
   unfold jS
   exact gD (h1 _ (cB hi)) rfl
  rw [bF]
  unfold fH
  exact gD h2 rfl)))
theorem arI{i:Nat}:Vl (.mk 2 (i:Int) (.mk 0 0) []):=bR.succ ((VS (xs:= []) (by simp)).imp fun fu h=>by
 rw [cE]
 unfold kI
 exact fZ rfl (hH rfl (hH rfl (hH (decide_eq_true (Int.natCast_nonneg i)) (hH rfl (gD h rfl)))))
 )
theorem as6{i:Nat}{e:aD}(he:Vl e):Vl (CL e (i:Int)):=bR.succ ((VS (xs:= [e]) fun x hx=>by rw [List.mem_singleton.1 hx];exact he).imp fun fu h=>by
 rw [cE]
 unfold kI CL
 exact fZ rfl (fZ rfl (hH rfl (hH rfl (hH (decide_eq_true (Int.natCast_nonneg i)) (hH rfl (gD h rfl)))))))
theorem amQ{k:Int}(hk:k=4∨k=5):Vl (.mk k 0 (.mk 0 0) []):=bR.succ ((VS (xs:= []) (by simp)).imp fun fu h=>by
 rw [cE]
 unfold kI AH
 rcases hk with rfl|rfl
 ·exact fZ rfl (fZ rfl (fZ rfl (UF (s:=true) rfl (hH rfl (hH rfl (hH rfl (hH rfl (gD h rfl))))))))
 ·exact fZ rfl (fZ rfl (fZ rfl (UF (s:=true) rfl (hH rfl (hH rfl (hH rfl (hH rfl (gD h rfl)))))))))
theorem as5{i j:Nat}{xs:Z aD}(hn:xs.length≤4)(hx: ∀x∈xs,Vl x):Vl (.mk 1 0 (.mk (i:Int) (j:Int)) xs):=bR.succ ((VS hx).imp fun fu h=>by
 rw [cE]
 unfold kI
 refine hH rfl (hH (decide_eq_true (Int.natCast_nonneg i)) (hH (decide_eq_true (Int.natCast_nonneg j)) (hH rfl (hH (decide_eq_true ?_) (gD h rfl)))))
 show((xs.length:Nat):Int)≤4
 omega)
def Dp(n:Nat)(e:aD):Prop:=bR fun fu=>Ok (hZ fu e) fun d=>0≤d∧d≤(n:Int)
theorem atG{n:Nat}(hn:n≤1000){k m:Int}{o:aE}{xs:Z aD}(h: ∀x∈xs,Dp n x):Dp (n+1) (.mk k m o xs):=bR.succ ((bR.list h).imp fun fu hf=>by
 rw [hZ]
 unfold wV
 refine Ok.sok (E:=fun d=>0≤d∧d≤((n+1:Nat):Int)) (Ok.loopN0 (fun _ d=>0≤d∧d≤((n+1:Nat):Int)) ⟨Int.le_refl _,by omega⟩ (fun _ _ _ h=>h) fun i d hi hd=>?_) fun d hd=>⟨d,rfl,hd⟩
 unfold DN
 refine Ok.bd (hf _ (cB hi)) fun x hx=>⟨_,rfl,?_⟩
 show 0≤max d (aW (x+1))∧max d (aW (x+1))≤_
 rw [LC (by omega) (by omega)]
 omega)
theorem af0{n m:Nat}{e:aD}(h:Dp n e)(hm:n≤m):Dp m e:=h.imp fun fu ⟨d,h1,h2⟩=>⟨d,h1,h2.1,by omega⟩
theorem acS{k m:Int}{o:aE}:Dp 0 (.mk k m o []):=bR.succ (.all fun fu=>⟨0,rfl,by decide⟩)
structure Drv (w:aH) (lw:List aF) (e:aD) (a:ByteArray) (t:aA) (n:Nat):Prop where
 pv:bR fun fu=>oA fu w lw e t=some (a,true)
 ck:bR fun fu=>kJ fu w lw e (.mk a t)=some true
 vl:Vl e
 dp:Dp n e
structure Chk (w:aH) (lw:List aF) (e:aD) (g:aF) (n:Nat):Prop where
 ck:bR fun fu=>kJ fu w lw e g=some true
 vl:Vl e
 dp:Dp n e
theorem al8(fu:Nat){w:aH}{a:Y}{i:Nat}(hi:i<(nZ w a).1.aEc.length):tX fu w a (i:Int)=some (aR (nZ w a).1.aEc i,true):=by
 unfold tX
 refine gD (w6 fu w a) ?_
 show sw (!(nZ w a).2.2) _ (sw _ _ (sw (decide ((i:Int)≥(((nZ w a).1.aEc.length:Nat):Int))) _ _))=_
 rw [ao0 (by omega)]
 exact fZ rfl (fZ (decide_eq_false (by omega)) (fZ (decide_eq_false (by omega)) (jC ⟨Int.natCast_nonneg i,hi⟩ rfl)))
section
variable {w:aH} {lw:Z aF} {t:aA}
theorem apR{e:aD}{a:Y}{n i:Nat}(h:Drv w lw e a t n)(hn:n≤100)(hi:i<(nZ w a).1.aEc.length):Drv w lw (CL e (i:Int)) (aR (nZ w a).1.aEc i) t (n+1) where
 pv:=bR.succ (h.pv.imp fun fu hf=>by
  rw [oA]
  unfold FJ CL
  exact fZ rfl (hH rfl (fZ rfl (jC Nat.one_pos (gD hf (fZ rfl (gD (al8 fu hi) rfl)))))))
 ck:=bR.succ ((h.pv.and h.ck).imp fun fu hf=>by
  rw [kJ]
  unfold wX CL
  exact fZ rfl (fZ rfl (fZ rfl (hH rfl (jC Nat.one_pos (gD hf.1 (fZ rfl (gD (al8 fu hi) (hH rfl (hH (decide_eq_true rfl) (gD hf.2 rfl)))))))))))
 vl:=as6 h.vl
 dp:=atG (by omega) fun x hx=>by rw [List.mem_singleton.1 hx];exact h.dp
theorem WG: ∀ {l:Z Int} {e:aD} {a s:Y} {n:Nat},Drv w lw e a t n→n+l.length≤100→afR w a l s→Drv w lw (agP e l) s t (n+l.length)
 | [],e,a,s,n,h,_,hp=>by
  rw [afR] at hp
  exact hp ▸ h
 |m::l,e,a,s,n,h,hn,hp=>by
  rw [afR] at hp
  rw [List.length_cons] at hn
  obtain⟨i,rfl,hi,hp⟩:=hp
  have:=WG (l:=l) (apR h (by omega) hi) (by omega) hp
  rw [List.length_cons,show n+(l.length+1)=n+1+l.length by omega]
  exact this
theorem anI{i:Nat}(hi:i<lw.length):Drv w lw (.mk 2 (i:Int) (.mk 0 0) []) (aR lw i).aEb (aR lw i).aD6 0 where
 pv:=bR.succ (.all fun fu=>by
  rw [oA]
  unfold FJ
  exact fZ rfl (fZ rfl (hH rfl (fZ (decide_eq_false (show ¬(i:Int)<0 by omega)) (fZ (decide_eq_false (show ¬(i:Int)≥((lw.length:Nat):Int) by omega)) (jC ⟨Int.natCast_nonneg i,hi⟩ rfl))))))
 ck:=bR.succ (.all fun fu=>by
  rw [kJ]
  unfold wX
  refine hH rfl (hH (decide_eq_true (show(i:Int)<((lw.length:Nat):Int) by omega)) (jC ⟨Int.natCast_nonneg i,hi⟩ (gD (WO fu _ _) ?_)))
  show some (aF.eq (aR lw (i:Int).toNat) (.mk (aR lw i).aEb (aR lw i).aD6))=some true
  rw [Int.toNat_natCast,show aF.mk (aR lw i).aEb (aR lw i).aD6=aR lw i by cases aR lw i;rfl,aF.eq_self])
 vl:=arI
 dp:=acS
theorem ar0(ht:t.aD8=4):Drv w lw (.mk 4 0 (.mk 0 0) []) t.aD4 t 0 where
 pv:=bR.succ (.all fun fu=>by
  rw [oA]
  unfold FJ
  exact hH rfl (by rw [decide_eq_true ht]))
 ck:=bR.succ (.all fun fu=>by
  rw [kJ]
  unfold wX
  exact fZ rfl (fZ rfl (hH rfl (hH (decide_eq_true ht) (congrArg some (decide_eq_true rfl))))))
 vl:=amQ (.inl rfl)
 dp:=acS
theorem Drv.chk{e:aD}{a:Y}{n:Nat}(h:Drv w lw e a t n):Chk w lw e (.mk a t) n:=⟨h.ck,h.vl,h.dp⟩
end
theorem anC{l:Z aJ}{g:aF}(h:sC l g≥0):(aR l (sC l g).toNat).aEz=g:=by
 unfold sC at h ⊢
 cases hq:l.findIdx? fun a=>aF.eq a.aEz g with
 |none=>rw [hq] at h;exact absurd h (by decide)
 |some i=>
  rw [List.findIdx?_eq_some_iff_getElem] at hq
  obtain⟨hi,he,-⟩:=hq
  show(aR l ((i:Nat):Int).toNat).aEz=g
  rw [Int.toNat_natCast,iE hi]
  exact(aF.eq_iff _ _).1 he
theorem alW{w:aH}{lw:Z aF}{g:aF}(hS:MA w)(h:sC (uA w lw) g≥0):Chk w lw (arS (uA w lw) g) g 8:=by
 have h1:=anC h
 have h2:=cB (OY h)
 unfold arS
 generalize aR (uA w lw) (sC (uA w lw) g).toNat=a at h1 h2 ⊢
 unfold uA V8 at h2
 obtain⟨i,hi,h2⟩:=List.mem_flatMap.1 h2
 rw [List.mem_range'_1] at hi
 have hB:=anI (w:=w) (lw:=lw) (i:=i) (by omega)
 unfold DJ at h2
 rcases List.mem_append.1 h2 with h3|h3
 ·obtain rfl:=List.mem_singleton.1 h3
  subst h1
  exact⟨hB.ck,hB.vl,af0 hB.dp (by omega)⟩
 ·obtain⟨k,hk,rfl⟩:=List.mem_map.1 h3
  rw [List.mem_range'_1] at hk
  subst h1
  have hs:=arA hS (cB (l:=wM 27000000 w (aR lw i).aEb) (i:=k) (by omega))
  have hl:=FS w 8 (aR lw i).aEb (aR (wM 27000000 w (aR lw i).aEb) k)
  have hD:=WG hB (by omega) (SF 8 _ _ hs)
  exact⟨hD.ck,hD.vl,af0 hD.dp (by omega)⟩
theorem alT{f:aF→aD×Int}: ∀(l:Z aF) (out:Z aD),(BU f l out).2=0→(BU f l out).1=out++l.map (fun b=>(f b).1)∧ ∀b∈l,(f b).2=0
 | [],out,_=>by rw [BU];simp
 |b::r,out,h=>by
  rw [BU] at h ⊢
  by_cases h0:(f b).2=0
  ·rw [if_pos h0] at h ⊢
   obtain⟨h1,h2⟩:=alT r _ h
   refine⟨by rw [h1,List.append_assoc];rfl,fun x hx=>?_⟩
   rcases List.mem_cons.1 hx with rfl|hx
   ·exact h0
   ·exact h2 x hx
  ·rw [if_neg h0] at h
   exact absurd h h0
theorem apK{α β:Type}[Inhabited α][Inhabited β](f:α→β){l:Z α}{i:Nat}(h:i<l.length):aR (l.map f) i=f (aR l i):=by
 rw [iE (by rw [List.length_map];exact h),iE h,List.getElem_map]
theorem arX(g:aF):aF.mk g.aEb g.aD6=g:=by cases g;rfl
section
variable {U:LB} (hU:U.length≤68719476736) {w:aH} (hW:WQ (Gd U) w) {lw:Z aF} (hL:OX w lw) (hS:MA w) (h4: ∀o,tW w o→(b9 w o).aEk.length≤4)
include hU hW hL hS h4
theorem apQ: ∀(k:Nat),k≤12→ ∀g:aF,Gd U g.aD6→(iH false w (uA w lw) k g).2=0→Chk w lw (iH false w (uA w lw) k g).1 g (k+8)
 |0,hk,g,hg,h=>by
  rw [iH] at h ⊢
  cases h2:decide (sC (uA w lw) g≥0) with
  |true=>exact alW hS (of_decide_eq_true h2)
  |false=>rw [h2] at h;cases h
 |k+1,hk,g,hg,h=>by
  have ih:=apQ k (by omega)
  have hg':iV g.aD6:=⟨U,hU,hg⟩
  rw [iH] at h ⊢
  cases h2:decide (sC (uA w lw) g≥0) with
  |true=>
   have:=alW hS (of_decide_eq_true h2)
   exact⟨this.ck,this.vl,af0 this.dp (by omega)⟩
  |false=>
   rw [h2,cond_false] at h
   rw [cond_false]
   cases h3:(nZ w g.aEb).1.aEA with
   |true=>
    rw [h3,cond_true] at h
    rw [cond_true]
    by_cases ha:qL false w (uA w lw) g.aEb 32 [] g.aD6=0
    ·rw [if_pos ha]
     refine⟨bR.succ ((af7 hU hL.hw hW (uA w lw) g.aEb 31 [] g.aD6 rfl hg).imp fun fu hf=>?_),amQ (.inr rfl),af0 acS (by omega)⟩
     rw [kJ]
     unfold wX
     refine fZ rfl (hH rfl (gD (w6 fu w g.aEb) ?_))
     show sw (nZ w g.aEb).2.2 (sw (nZ w g.aEb).1.aEA _ _) _=_
     rw [Y4 h3,h3]
     unfold GI
     refine hH rfl (hH rfl (gD (jC hL (gD hf rfl)) ?_))
     show some (decide (qL false w (uA w lw) g.aEb 32 [] g.aD6=0))=_
     rw [decide_eq_true ha]
    ·rw [if_neg ha] at h
     exact absurd h ha
   |false=>
    rw [h3,cond_false] at h
    rw [cond_false]
    cases h5:decide (g.aD6.aD8=1)||decide (g.aD6.aD8=3) with
    |true=>rw [h5] at h;cases h
    |false=>
     rw [h5,cond_false] at h
     rw [cond_false]
     cases h6:decide (g.aD6.aD8=4)&&(f9 w 8 g.aD6.aD4 g.aEb).2 with
     |true=>
      rw [cond_true]
      rw [Bool.and_eq_true,decide_eq_true_eq] at h6
      have hl:=FS w 8 g.aD6.aD4 g.aEb
      have hD:=WG (ar0 (w:=w) (lw:=lw) h6.1) (by omega) (SF 8 _ _ h6.2)
      have hC:=hD.chk
      rw [arX] at hC
      exact⟨hC.ck,hC.vl,af0 hC.dp (by omega)⟩
     |false=>
      rw [h6,cond_false] at h
      rw [cond_false]
      by_cases h7:(eD w g).2=0
      ·rw [if_pos h7] at h ⊢
       by_cases h8:(BU (fun x=>iH false w (uA w lw) k (F7 w (eD w g).1 g x)) (b9 w (eD w g).1).aEk []).2=0
       ·rw [if_pos h8]
        obtain⟨e1,e2⟩:=alT _ _ h8
        rw [e1,List.nil_append]
        have hR:=KU h7
        have hsub: ∀b∈(b9 w (eD w g).1).aEk,Chk w lw (iH false w (uA w lw) k (F7 w (eD w g).1 g b)).1 (F7 w (eD w g).1 g b) (k+8):=fun b hb=>ih _ (ae0 (AV U) hW hR hg hb) (e2 b hb)
        have hall: ∀ {P:aD→Prop},(∀b∈(b9 w (eD w g).1).aEk,P (iH false w (uA w lw) k (F7 w (eD w g).1 g b)).1)→ ∀x∈(b9 w (eD w g).1).aEk.map (fun b=>(iH false w (uA w lw) k (F7 w (eD w g).1 g b)).1),P x:=fun hP x hx=>by
         obtain⟨b,hb,rfl⟩:=List.mem_map.1 hx
         exact hP b hb
        refine⟨bR.succ ((bR.list fun b hb=>(hsub b hb).ck).imp fun fu hf=>?_),?_,?_⟩
        ·rw [kJ]
         unfold wX
         refine fZ rfl (fZ rfl (fZ rfl (fZ rfl (gD (al6 hL.hw hg') ?_))))
         refine(gD (I6 fu w (eD w g).1 hR) ?_)
         refine fZ (nd0 h7) (fZ ?_ (fZ ?_ (jC (uU hL.hw hR) (jC hg' ?_))))
         ·show(!(decide ((eD w g).1.aEf=(eD w g).1.aEf)&&decide ((eD w g).1.aEr=(eD w g).1.aEr)))=false
          simp
         ·show(!decide (((List.map _ (b9 w (eD w g).1).aEk).length:Int)=(((b9 w (eD w g).1).aEk.length:Nat):Int)))=false
          rw [List.length_map];simp
         ·refine UF (s:=()) (CM (fun i hi=>?_) _ 0 rfl) rfl
          unfold WZ
          have hm:=cB hi
          refine jC (by show i<(List.map _ (b9 w (eD w g).1).aEk).length;rw [List.length_map];exact hi) (jC (afX hU (GS (AV U) _ _ hg)) (jC ⟨U,hU,hW.wh _ hR _ hm⟩ ?_))
          show bd (kJ fu w lw (aR (List.map (fun b=>(iH false w (uA w lw) k (F7 w (eD w g).1 g b)).1) (b9 w (eD w g).1).aEk) i) (F7 w (eD w g).1 g (aR (b9 w (eD w g).1).aEk i))) _=_
          rw [apK _ hi]
          exact gD (hf _ hm) rfl
        ·have hn:=h4 _ hR
         obtain⟨i,j,ho,-,-⟩:=hR
         rw [ho] at hn hsub hall ⊢
         exact as5 (by rw [List.length_map];exact hn) (hall fun b hb=>(hsub b hb).vl)
        ·exact atG (by omega) (hall fun b hb=>(hsub b hb).dp)
       ·rw [if_neg h8] at h
        exact absurd h h8
      ·rw [if_neg h7] at h
       exact absurd h h7
end
structure alQ (w:aH) (l:List aF) (e:aD) (g:aF):Prop where
 sl:OX w l
 hg:wt g.aD6≤13000000
 su:MA w
 h4: ∀o,tW w o→(b9 w o).aEk.length≤4
 e1:e=(sT w l g).1
 e2:(sT w l g).2=0
theorem amO{w:aH}{l:Z aF}{e:aD}{g:aF}(h:alQ w l e g):Chk w l e g 20:=by
 obtain⟨h1,h2⟩:=acW h.sl.hw h.sl.hl h.sl.ht h.hg
 rw [h.e1]
 exact apQ h1 (Y6 h.sl.hw) h.sl h.su h.h4 12 (Nat.le_refl _) g h2 h.e2
def yes:Bool:=true
theorem ajQ(e:aD)(h:Vl e):bS Tryz.prog 23 [(aD.pv e)] (pB yes):=by
 obtain⟨fu,hf⟩:=h.get
 exact AI fu e true hf
theorem anQ(w:aH)(l:Z aF)(e:aD)(g:aF)(h:alQ w l e g):bS Tryz.prog 24 [(aH.pv w),cP l,(aD.pv e),(aF.pv g)] (pB yes):=by
 obtain⟨h1,h2,h3⟩:=amO h
 obtain⟨fu,⟨h1,h2⟩,d,h3,h4⟩:=((h1.and h2).and h3).get
 refine PI fu w l e g true ?_
 unfold FE
 exact gD h2 (hH rfl (gD h3 (hH (decide_eq_true (by omega)) (gD h1 rfl))))
end Go.Proofs.YtfcoaagbccmahaaGreat.W

namespace Go.Proofs.YtfcoaagbccmahaaGreat.W
set_option maxRecDepth 100000
set_option maxHeartbeats 40000000
noncomputable section
open Tryz Go.RowKit Go.Proofs
attribute [local irreducible] lt
def s3(fu:Nat)(p0:Int):J Y:=sw (decide (p0<0)) (some arN) (sw (decide (p0≥((([X6,sH,fU,eR]:LB).length:Nat):Int))) (some arN) (gd (0≤p0∧(p0).toNat<(([X6,sH,fU,eR]:LB)).length) (some (aR ([X6,sH,fU,eR]:LB) ((p0).toNat)))))
theorem PN(fu:Nat)(p0:Int)(r:Y)(H:s3 fu p0=some r):bS prog 21 [pI p0] (pS r):=by
 refine qJ func21 H (fun C hC H=>?_)
 refine gQ 6 ?_;refine q1 (iQ ([X6,sH,fU,eR]:LB)) ?_;refine gQ 8 ?_;refine AL.weak (s':=⟨[(0,pI p0),(2,pS s_),(3,rS ([X6,sH,fU,eR]:LB)),(7,pB (decide (p0<0)))],⟨[],[]⟩⟩) wkA ?_;refine dK 7 H (fun g1 H=>gE 11) fun g1 H=>?_;refine gQ 6 ?_;refine c7.weak (s':=⟨[(0,pI p0),(2,pS s_),(3,rS ([X6,sH,fU,eR]:LB)),(12,pB (decide (p0≥((([X6,sH,fU,eR]:LB).length:Nat):Int))))],⟨[],[]⟩⟩) wkA ?_;refine bE H (fun h2 H=>gE 4) fun h2 H=>?_;refine gQ 5 ?_;refine cK H fun z3 H=>(q1 (rIy z3 ZI.h) ?_)
 exact gE 3
def G9(fu:Nat)(p0:Z UInt8):J (aH×(Z aF)×aF):=gd ((p0).length≤1048576) (bd (oZ fu (DS.start p0)) fun(x3,x4)=>bd (JV fu x4) fun(x6,x7)=>bd (C7 fu x7) fun(x9,x10)=>some (x3,x6,x9))
theorem ah8(fu:Nat)(p0:Z UInt8)(r:aH×(Z aF)×aF)(H:G9 fu p0=some r):bS prog 44 [rU p0] (.tup [(aH.pv r.1),cP r.2.1,(aF.pv r.2.2)]):=by
 refine qJ func44 H (fun C hC H=>?_)
 refine gQ 9 ?_;refine cK H fun z1 H=>(q1 (bC.callNew (ps:= [_]) rfl rfl func43 (by kernel_rfl) rfl rfl kA rfl rfl (auH p0 z1)) ?_)
 refine gQ 5 ?_;refine eO H fun x3 x4 z2 H=>(q1 (fJ [2] [] func69 (aeG fu (DS.start p0) _ z2)) (q1 bG (eO H fun x6 x7 z5 H=>(q1 (fJ [2] [] func87 (aeJ fu x4 _ z5)) (q1 bG (eO H fun x9 x10 z8 H=>(q1 (fJ [2] [] func74 (aiA fu x7 _ z8)) ?_)))))))
 refine gQ 4 ?_;refine c7.ret ?_
 cases wL H
 exact qe3 (hr:=⟨⟨_,_,_,rfl,rfl,aoI.h,rfl,rfl⟩,rfl,⟨_,_,_,rfl,rfl,awN.h,rfl,rfl⟩,trivial⟩)
def A0(fu:Nat)(p0:Z UInt8):J (aH×(Z aF)×aF):=bd (G9 fu p0) fun(x2,x3,x4)=>some (x2,x3,x4)
theorem ZZ(fu:Nat)(p0:Z UInt8)(r:aH×(Z aF)×aF)(H:A0 fu p0=some r):bS prog 17 [rU p0] (.tup [(aH.pv r.1),cP r.2.1,(aF.pv r.2.2)]):=by
 refine qJ func17 H (fun C hC H=>?_)
 refine gQ 9 ?_;refine IC H fun x2 x3 x4 z1 H=>(q1 (bI func44 (ah8 fu p0 _ z1)) ?_)
 refine gQ 7 ?_;refine c7.ret ?_
 cases wL H
 exact qe3 (hr:=⟨⟨_,_,_,rfl,rfl,aoI.h,rfl,rfl⟩,rfl,⟨_,_,_,rfl,rfl,awN.h,rfl,rfl⟩,trivial⟩)
def tE(fu:Nat)(p0:Int):J Y:=bd (BA fu p0 0 3) fun x2=>sw (!(x2)) (some arN) (gd (0≤p0∧(p0).toNat<(([X6,sH,fU,eR]:LB)).length) (some (aR ([X6,sH,fU,eR]:LB) ((p0).toNat))))
theorem QG(fu:Nat)(p0:Int)(r:Y)(H:tE fu p0=some r):bS prog 22 [pI p0] (pS r):=by
 refine qJ func22 H (fun C hC H=>?_)
 refine gQ 8 ?_;refine bM H fun x2 z1 H=>(q1 (bI func64 (F0 fu p0 0 3 _ z1)) ?_)
 refine gQ 2 ?_;refine bE H (fun h3 H=>gE 4) fun h3 H=>?_;refine gQ 3 ?_;refine q1 (iQ ([X6,sH,fU,eR]:LB)) (q1 bG (cK H fun z4 H=>(q1 (rIy z4 ZI.h) ?_)))
 exact gE 3
def NP(fu:Nat)(p1:Z UInt8):J Bool:=bd (ajX fu p1) fun x2=>sw x2 (some true) (bd (A0 fu p1) fun(x5,x6,x7)=>gd (OX x5 x6) (gd (wt (aF.aD6 x7)≤13000000) (sw (!decide (((sT x5 x6 x7).2:Int)=(YX x5 x6 x7).2)) (some false) (sw (!(M4 ((sT x5 x6 x7).1) ((YX x5 x6 x7).1))) (some false) (bd (s3 fu ((sT x5 x6 x7).2)) fun x13=>bd (tE fu ((sT x5 x6 x7).2)) fun x15=>sw (!decide (x13=x15)) (some false) (sw (!decide (((sT x5 x6 x7).2:Int)=0)) (some true) (gd (Vl ((sT x5 x6 x7).1)) (sw (yes) (sw (decide ((x6.length:Int)>4)) (some true) (gd (alQ x5 x6 ((sT x5 x6 x7).1) x7) (some yes))) (some false)))))))))
theorem agN(fu:Nat)(p1:Z UInt8)(r:Bool)(H:NP fu p1=some r):bS prog 4 [rU p1] (pB r):=by
 refine qJ func4 H (fun C hC H=>?_)
 refine gQ 8 ?_;refine bM H fun x2 z1 H=>(q1 (bI func9 (ar8 fu p1 _ z1)) (qN ?_))
 refine bE H (fun h3 H=>gE 4) fun h3 H=>?_;refine gQ 4 ?_;refine IC H fun x5 x6 x7 z4 H=>(q1 (bI func17 (ZZ fu p1 _ z4)) ?_)
 refine gQ 12 ?_;refine q1 (b5 [aQ x5.aD3]) (q1 bG (q1 (b5 [pS x7.aEb,pI x7.aD6.aD8,pS x7.aD6.aD4,aT x7.aD6.aD5]) (cK H fun z8 H=>(cK H fun z9 H=>(q1 (bI func18 (anT x5 x6 x7 z8 z9)) ?_)))))
 refine gQ 9 ?_;refine q1 (b5 [aQ x5.aD3]) (q1 bG (q1 (b5 [pS x7.aEb,pI x7.aD6.aD8,pS x7.aD6.aD4,aT x7.aD6.aD5]) (q1 (bI func19 (aoF x5 x6 x7 z8 z9)) ?_)))
 refine gQ 14 ?_;refine dK 35 H (fun g10 H=>gE 18) fun g10 H=>?_;refine qg g10 (b5 [pI (((sT x5 x6 x7).1).aD8),pI (((sT x5 x6 x7).1).aEM),pI (((sT x5 x6 x7).1).aEr.aEf),pI (((sT x5 x6 x7).1).aEr.aEr),cO (((sT x5 x6 x7).1).aD5)]) (qg g10 (b5 [pI (((YX x5 x6 x7).1).aD8),pI (((YX x5 x6 x7).1).aEM),pI (((YX x5 x6 x7).1).aEr.aEf),pI (((YX x5 x6 x7).1).aEr.aEr),cO (((YX x5 x6 x7).1).aD5)]) (qg g10 (bI func20 (aqS ((sT x5 x6 x7).1) ((YX x5 x6 x7).1))) ?_))
 refine gQ 3 ?_;refine dK 41 H (fun g11 H=>gE 12) fun g11 H=>?_;refine qg g11 bG (bM H fun x13 z12 H=>(qg g11 (bI func21 (PN fu ((sT x5 x6 x7).2) _ z12)) (qg g11 bG (bM H fun x15 z14 H=>(qg g11 (bI func22 (QG fu ((sT x5 x6 x7).2) _ z14)) ?_)))))
 refine gQ 3 ?_;refine bE H (fun h16 H=>gE 4) fun h16 H=>?_;refine gQ 6 ?_;refine dK 50 H (fun g17 H=>gE 17) fun g17 H=>?_;refine qg g17 (b5 [pI (((sT x5 x6 x7).1).aD8),pI (((sT x5 x6 x7).1).aEM),pI (((sT x5 x6 x7).1).aEr.aEf),pI (((sT x5 x6 x7).1).aEr.aEr),cO (((sT x5 x6 x7).1).aD5)]) (cK H fun z18 H=>(qg g17 (bI func23 (ajQ ((sT x5 x6 x7).1) z18)) (qg g17 bG ?_)))
 refine dK 53 H (fun g19 H=>?_) fun g19 H=>?_
 ·refine gQ 4 ?_;refine dK 57 H (fun g20 H=>gE 10) fun g20 H=>?_;refine qg g20 (b5 [aQ x5.aD3]) (qg g20 bG (qg g20 (b5 [pI (((sT x5 x6 x7).1).aD8),pI (((sT x5 x6 x7).1).aEM),pI (((sT x5 x6 x7).1).aEr.aEf),pI (((sT x5 x6 x7).1).aEr.aEr),cO (((sT x5 x6 x7).1).aD5)]) (qg g20 (b5 [pS x7.aEb,pI x7.aD6.aD8,pS x7.aD6.aD4,aT x7.aD6.aD5]) (cK H fun z21 H=>(qg g20 (bI func24 (anQ x5 x6 ((sT x5 x6 x7).1) x7 z21)) ?_)))))
  exact gE 5
 exact absurd (g19:true=false) (by decide)
end
end Go.Proofs.YtfcoaagbccmahaaGreat.W

namespace Go.Proofs.YtfcoaagbccmahaaGreat.W
open Go.RowKit Go.WalkArith Go.Proofs
def Pt{α:Type}(o:J α)(P:α→Prop):Prop:= ∀r,o=some r→P r
theorem Pt.some{α:Type}{P:α→Prop}{a:α}(h:P a):Pt (some a) P:=fun r e=>by cases e;exact h
theorem Pt.bd{α β:Type}{P:α→Prop}{o:J β}{f:β→J α}{Q:β→Prop}(h:Pt o Q)(k: ∀a,Q a→Pt (f a) P):Pt (bd o f) P:=fun r e=>by
 cases o with
 |none=>cases e
 |some a=>exact k a (h a rfl) r e
theorem Pt.any{α β:Type}{P:α→Prop}{o:J β}{f:β→J α}(k: ∀a,Pt (f a) P):Pt (Go.Proofs.YtfcoaagbccmahaaGreat.bd o f) P:=Pt.bd (Q:=fun _=>True) (fun _ _=>trivial) fun a _=>k a
theorem Pt.sw{α:Type}{P:α→Prop}{c:Bool}{a b:J α}(ht:c=true→Pt a P)(hf:c=false→Pt b P):Pt (sw c a b) P:=by
 cases c
 ·exact hf rfl
 ·exact ht rfl
theorem Pt.gd{α:Type}{P:α→Prop}{g:Prop}{a:J α}(k:Pt a P):Pt (gd g a) P:=fun r e=>by
 by_cases h:g
 ·rw [jC h rfl] at e;exact k r e
 ·rw [gdF h] at e;cases e
theorem Pt.lt{α β:Type}{P:α→Prop}{x:β}{f:β→J α}(k: ∀y,y=x→Pt (f y) P):Pt (lt x f) P:=k x rfl
theorem Pt.so{α σ:Type}{P:α→Prop}{o:J (α⊕σ)}{f:σ→J α}{E:σ→Prop}(h:Pt o (PS P E))(k: ∀s,E s→Pt (f s) P):Pt (so o f) P:=fun r e=>by
 cases o with
 |none=>cases e
 |some x=>
  cases x with
  |inl y=>cases e;exact h _ rfl
  |inr s=>exact k s (h _ rfl) r e
theorem Pt.loop{α σ:Type}{P:α→Prop}{E:σ→Prop}{F:Nat→σ→J (LR σ α)}{n:Nat}(I:Nat→σ→Prop)(hE: ∀s,I n s→E s)(hs: ∀i s,i<n→I i s→Pt (F i s) (PL P (I (i+1)) E)): ∀k i s,n-i=k→i≤n→I i s→Pt (loopN F k i s) (PS P E)
 |0,i,s,hk,hi,h=>by
  obtain rfl:i=n:=by omega
  exact Pt.some (hE s h)
 |k+1,i,s,hk,hi,h=>fun r e=>by
  rw [loopN] at e
  cases hq:F i s with
  |none=>rw [hq] at e;cases e
  |some x=>
   rw [hq] at e
   have hx:=hs i s (by omega) h x hq
   cases x with
   |next s'=>exact Pt.loop I hE hs k (i+1) s' (by omega) (by omega) hx r e
   |brk s'=>cases e;exact hx
   |ret x=>cases e;exact hx
theorem Pt.all{γ σ:Type}[Inhabited γ]{P:Bool→Prop}{l:Z γ}{F:Nat→σ→J (LR σ Bool)}{s:σ}(R:γ→Prop)(hs: ∀i v,i<l.length→Pt (F i v) (PL P (fun _=>R (aR l i)) fun _=>False)):Pt (loopN F (l.length-0) 0 s) (PS P fun _=> ∀x∈l,R x):=
 Pt.loop (fun i _=> ∀x∈l.take i,R x) (fun s h=>by rwa [List.take_length] at h) (fun i v hi h r e=>by
  have h1:=hs i v hi r e
  cases r with
  |next s'=>
   intro x hx
   rw [J0 hi] at hx
   rcases List.mem_append.1 hx with h2|h2
   ·exact h x h2
   ·rw [List.mem_singleton.1 h2];exact h1
  |brk s'=>exact h1.elim
  |ret x=>exact h1) _ 0 s rfl (Nat.zero_le _) (by simp)
theorem no{X:Prop}:false=true→X:=fun h=>nomatch h
theorem MG{b:Bool}(h:(!b)=false):b=true:=by cases b<;>first|rfl|cases h
theorem Pt.gdk{α:Type}{P:α→Prop}{g:Prop}{a:J α}(k:g→Pt a P):Pt (Go.Proofs.YtfcoaagbccmahaaGreat.gd g a) P:=fun r e=>by
 by_cases h:g
 ·rw [jC h rfl] at e;exact k h r e
 ·rw [gdF h] at e;cases e
theorem Pt.swd{α:Type}{P:α→Prop}{p:Prop}[Decidable p]{a b:J α}(ht:p→Pt a P)(hf: ¬p→Pt b P):Pt (Go.Proofs.YtfcoaagbccmahaaGreat.sw (decide p) a b) P:=Pt.sw (fun h=>ht (of_decide_eq_true h)) fun h=>hf (of_decide_eq_false h)
theorem Pt.loopW{α σ:Type}{P:α→Prop}{E:σ→Prop}{F:σ→J (LR σ α)}(I:σ→Prop)(hs: ∀s,I s→Pt (F s) (PL P I E)): ∀k s,I s→Pt (Go.Proofs.YtfcoaagbccmahaaGreat.loopW F k s) (PS P E)
 |0,s,h=>fun r e=>by cases e
 |k+1,s,h=>fun r e=>by
  unfold Go.Proofs.YtfcoaagbccmahaaGreat.loopW at e
  cases hq:F s with
  |none=>rw [hq] at e;cases e
  |some x=>
   rw [hq] at e
   have hx:=hs s h x hq
   cases x with
   |next s'=>exact Pt.loopW I hs k s' hx r e
   |brk s'=>cases e;exact hx
   |ret x=>cases e;exact hx
theorem Pt.mono{α:Type}{P Q:α→Prop}{o:J α}(h:Pt o P)(k: ∀a,P a→Q a):Pt o Q:=fun r e=>k r (h r e)
def RN(k:Int)(n:Y)(m:Nat):Prop:=k=2→RE n=true→m=0
mutual
def NI:aA→Prop
 | .mk k n xs=>RN k n xs.length∧NIL xs
def NIL:Z aA→Prop
 | []=>True
 |x::l=>NI x∧NIL l
end
theorem amB: ∀l:Z aA,NIL l↔ ∀x∈l,NI x
 | []=>by rw [NIL];simp
 |x::l=>by rw [NIL,amB l,List.forall_mem_cons]
theorem GU:acJ NI RN:=fun k n xs=>by rw [NI,amB]
theorem xG{t:aA}(h:NI t):NI (.mk t.aD8 t.aD4 t.aD5):=by cases t;exact h
theorem VJ{s:Y}:NI (.mk 2 s []):=(GU _ _ _).2 ⟨fun _ _=>rfl,by simp⟩
theorem XD{s:Y}{xs:Z aA}(h:RE s=false)(hx: ∀x∈xs,NI x):NI (.mk 2 s xs):=(GU _ _ _).2 ⟨fun _ e=>(by rw [h] at e;cases e),hx⟩
theorem XE{k:Int}{s:Y}{xs:Z aA}(h:k≠2)(hx: ∀x∈xs,NI x):NI (.mk k s xs):=(GU _ _ _).2 ⟨fun e=>absurd e h,hx⟩
theorem aj1{s:Y}:NI (.mk 1 s []):=XE (by decide) (by simp)
theorem SC{P:aA→Prop}{x:aA}(h:P x): ∀y∈ [x],P y:=fun y hy=>by rw [List.mem_singleton.1 hy];exact h
theorem ap9{P:aA→Prop}{x y:aA}(h:P x)(k:P y): ∀z∈ [x,y],P z:=fun z hz=>by
 rcases List.mem_cons.1 hz with rfl|hz
 ·exact h
 ·rw [List.mem_singleton.1 hz];exact k
structure IOk (x:aI):Prop where
 w: ∀b∈x.aEk,NI b.aD6
 n:x.aEk.length≤4
 a:NI x.aEq
def DOk(d:aM):Prop:=RE d.aD4=false∧ ∀c∈d.aD9,∀f∈c.aEm,NI f
def POk(p:aN):Prop:=(∀d∈p.aEd,DOk d)∧ ∀x∈p.aEg,IOk x
def WOk(w:aH):Prop:= ∀p∈w.aD3,POk p
theorem aqI(fu:Nat)(s:Y):Pt (dM fu s) fun b=>b=true→RE s=false:=by
 unfold dM
 refine Pt.any fun x2=>Pt.sw (fun _=>Pt.some no) fun _=>?_
 unfold yF
 refine Pt.bd (Q:=fun b=>b=false→RE s=false) ?_ fun x5 h=>Pt.sw (fun _=>Pt.some no) fun e r _ _=>h e
 rw [TB]
 refine Pt.bd (Q:=fun b=>b=false→RE s=false) (Pt.some fun h=>?_) fun x h=>Pt.some h
 have h1:s≠eY:=by
  rintro rfl
  cases h
 have h2:s≠eQ:=by
  rintro rfl
  cases h
 unfold RE
 rw [decide_eq_false h1,decide_eq_false h2]
 rfl
theorem aqH: ∀fu t,Pt (l8 fu t) fun b=>b=true→NI t
 |0,t=>fun r e=>by rw [l8] at e;cases e
 |fu+1,t=>by
  rw [l8]
  unfold K2
  refine Pt.bd (aqI fu _) fun x2 h2=>?_;refine Pt.so (E:=fun v=>v=true→RN t.aD8 t.aD4 t.aD5.length) ?_ fun v3 h3=>?_
  ·unfold YQ
   refine Pt.so (E:=fun v=>v=true→t.aD8≠2) ?_ fun v4 h4=>?_
   ·unfold YR
    refine Pt.sw (fun h=>Pt.some fun h e=>?_) fun h=>Pt.some fun h e=>?_
    ·have:=of_decide_eq_true h;omega
    ·have:=of_decide_eq_true h;omega
   ·have hz: ∀x:Bool,Pt (sw x (some (.inr (decide ((((t.aD5.length:Nat):Int):Int)=0)))) (some (.inr false)):J (Bool⊕Bool)) (PS (fun b=>b=true→NI t) fun v=>v=true→RN t.aD8 t.aD4 t.aD5.length):=fun x=>
     Pt.sw (fun _=>Pt.some fun h _ _=>by have:=of_decide_eq_true h;omega) fun _=>Pt.some no
    refine Pt.sw (fun e4=>Pt.sw (fun _=>Pt.some fun _ e=>absurd e (h4 e4)) fun _=>Pt.some no) fun _=>Pt.sw (fun e=>Pt.sw (fun _=>Pt.some fun _ e2=>?_) fun _=>Pt.some no) fun _=>Pt.sw (fun _=>Pt.sw (fun e=>Pt.sw (fun _=>Pt.some fun _ _ k=>?_) fun _=>Pt.any hz) fun _=>Pt.any hz) fun _=>Pt.some no
    ·have:=of_decide_eq_true e;omega
    ·rw [h2 e] at k;cases k
  ·refine Pt.so (E:=fun v=>v=true→v3=true∧ ∀x∈t.aD5,NI x) (Pt.loop (fun i v=>v=true→v3=true∧ ∀x∈t.aD5.take i,NI x) (fun s h=>by rwa [List.take_length] at h) (fun i v hi h=>?_) _ 0 v3 rfl (Nat.zero_le _) fun h=>⟨h,by simp⟩) fun v h=>Pt.some fun e=>?_
   ·unfold YS
    refine Pt.sw (fun ev=>Pt.bd (aqH fu _) fun x hx=>Pt.some fun ex=>⟨(h ev).1,fun y hy=>?_⟩) fun _=>Pt.some no
    rw [J0 hi] at hy
    rcases List.mem_append.1 hy with h1|h1
    ·exact(h ev).2 y h1
    ·rw [List.mem_singleton.1 h1];exact hx ex
   ·obtain⟨h1,h2⟩:=h e
    have:=(GU t.aD8 t.aD4 t.aD5).2 ⟨h3 h1,h2⟩
    cases t
    exact this
theorem auR(fu:Nat)(t:aA):Pt (iU fu t) fun b=>b=true→NI t:=by
 unfold iU
 exact Pt.any fun _=>Pt.sw (fun _=>Pt.any fun _=>Pt.sw (fun _=>Pt.bd (aqH fu t) fun _ h=>Pt.some h) fun _=>Pt.some no) fun _=>Pt.some no
theorem aj5(fu:Nat)(t:aA)(vs:LB):Pt (mJ fu t vs) fun b=>b=true→NI t:=by
 unfold mJ T6
 exact Pt.any fun _=>Pt.so (Pt.all (fun _=>True) fun _ _ _=>Pt.any fun _=>Pt.sw (fun _=>Pt.some no) fun _=>Pt.some trivial) fun _ _=>Pt.bd (auR fu t) fun _ h=>Pt.some h
theorem awB(fu:Nat)(l:Z aA)(vs:LB):Pt (BI fu l vs) fun b=>b=true→ ∀t∈l,NI t:=by
 unfold BI YA
 exact Pt.so (Pt.all NI fun _ _ _=>Pt.bd (aj5 fu _ vs) fun _ h=>Pt.sw (fun _=>Pt.some no) fun e=>Pt.some (h (MG e))) fun _ h=>Pt.some fun _=>h
theorem asM(fu:Nat)(l:Z aF)(vs:LB):Pt (vA fu l vs) fun b=>b=true→(∀x∈l,NI x.aD6)∧l.length≤4:=by
 unfold vA QL
 exact Pt.so (Pt.all (γ:=aF) (fun b=>NI b.aD6) fun _ _ _=>Pt.any fun _=>Pt.sw (fun _=>Pt.some no) fun _=>Pt.bd (aj5 fu _ vs) fun _ h=>Pt.sw (fun _=>Pt.some no) fun e=>Pt.any fun _=>Pt.sw (fun _=>Pt.some no) fun _=>Pt.some (h (MG e))) fun _ h=>Pt.some fun e=>⟨h,by have:=of_decide_eq_true e;omega⟩
theorem auK(fu:Nat)(d:aM):Pt (kQ fu d) fun b=>b=true→DOk d:=by
 unfold kQ AJ
 exact Pt.so (Pt.all (γ:=aC) (fun c=> ∀f∈c.aEm,NI f) fun _ _ _=>Pt.sw (fun _=>Pt.some no) fun _=>Pt.bd (awB fu _ _) fun _ h=>Pt.sw (fun _=>Pt.some no) fun e=>Pt.gd (Pt.some (h (MG e)))) fun _ h=>Pt.bd (aqI fu _) fun _ hn=>Pt.sw (fun e=>Pt.any fun _=>Pt.sw (fun _=>Pt.sw (fun _=>Pt.any fun _=>Pt.some fun _=>⟨hn e,h⟩) fun _=>Pt.some no) fun _=>Pt.some no) fun _=>Pt.some no
theorem auS(fu:Nat)(t:aA):Pt (pZ fu t) fun b=>b=true→NI t:=by
 unfold pZ
 refine Pt.sw (fun e=>Pt.sw (fun _=>Pt.some fun h=>?_) fun _=>Pt.some no) fun _=>Pt.some no
 have h1:=of_decide_eq_true e
 have h2:=of_decide_eq_true h
 cases t with
 |mk k n xs=>
  replace h2:((xs.length:Nat):Int)=0:=h2
  replace h1:k=0:=h1
  obtain rfl:xs= []:=List.eq_nil_of_length_eq_zero (by omega)
  exact XE (by omega) (by simp)
theorem auN(fu:Nat)(x:aI):Pt (kR fu x) fun b=>b=true→IOk x:=by
 unfold kR
 refine Pt.any fun _=>Pt.sw (fun _=>Pt.some no) fun _=>Pt.any fun _=>Pt.sw (fun _=>Pt.some no) fun _=>Pt.any fun _=>Pt.sw (fun _=>Pt.some no) fun _=>Pt.any fun _=>Pt.sw (fun _=>Pt.some no) fun _=>Pt.sw (fun _=>Pt.some no) fun _=>Pt.bd (asM fu _ _) fun _ hw=>Pt.sw (fun _=>Pt.some no) fun ew=>?_
 obtain⟨h1,h2⟩:=hw (MG ew)
 unfold AO AN AP
 refine Pt.so (Pt.all (fun _=>True) fun _ _ _=>Pt.any fun _=>Pt.sw (fun _=>Pt.some no) fun _=>Pt.some trivial) fun _ _=>Pt.so (E:=fun _=>NI x.aEq) ?_ fun _ ha=>?_
 ·exact Pt.sw (fun _=>Pt.bd (aj5 fu _ _) fun _ h=>Pt.sw (fun _=>Pt.some no) fun e=>Pt.some (h (MG e))) fun _=>Pt.bd (auS fu _) fun _ h=>Pt.sw (fun _=>Pt.some no) fun e=>Pt.some (h (MG e))
 ·exact Pt.so (Pt.all (fun _=>True) fun _ _ _=>Pt.lt fun _ _=>Pt.sw (fun _=>Pt.some no) fun _=>Pt.any fun _=>Pt.sw (fun _=>Pt.some no) fun _=>Pt.any fun _=>Pt.sw (fun _=>Pt.some no) fun _=>Pt.gd (Pt.some trivial)) fun _ _=>Pt.any fun _=>Pt.some fun _=>⟨h1,h2,ha⟩
theorem asH(fu:Nat)(p:aN):Pt (zF fu p) fun b=>b=true→POk p:=by
 unfold zF QP QQ QR QS
 refine Pt.so (Pt.all (fun _=>True) fun _ _ _=>Pt.any fun _=>Pt.sw (fun _=>Pt.some no) fun _=>Pt.some trivial) fun _ _=>Pt.so (Pt.all DOk fun _ _ _=>Pt.bd (auK fu _) fun _ h=>Pt.sw (fun _=>Pt.some no) fun e=>Pt.some (h (MG e))) fun _ hd=>Pt.so (Pt.all IOk fun _ _ _=>Pt.lt fun y hy=>Pt.bd (auN fu y) fun _ h=>Pt.sw (fun _=>Pt.some no) fun e=>Pt.some (hy ▸ h (MG e))) fun _ hi=>Pt.so (Pt.all (fun _=>True) fun _ _ _=>Pt.lt fun _ _=>Pt.any fun _=>Pt.sw (fun _=>Pt.some no) fun _=>Pt.some trivial) fun _ _=>Pt.some fun _=>⟨hd,hi⟩
theorem auP(fu:Nat)(p:aN):Pt (nH fu p) fun b=>b=true→POk p:=by
 unfold nH
 exact Pt.any fun⟨_,_,_,_⟩=>Pt.any fun _=>Pt.sw (fun _=>Pt.some no) fun _=>Pt.any fun _=>Pt.sw (fun _=>Pt.some no) fun _=>Pt.any fun _=>Pt.sw (fun _=>Pt.some no) fun _=>Pt.sw (fun _=>Pt.some no) fun _=>Pt.any fun _=>Pt.sw (fun _=>Pt.any fun _=>Pt.sw (fun _=>Pt.any fun _=>Pt.sw (fun _=>Pt.any fun _=>Pt.sw (fun _=>Pt.bd (asH fu p) fun _ h=>Pt.some h) fun _=>Pt.some no) fun _=>Pt.some no) fun _=>Pt.some no) fun _=>Pt.some no
theorem agZ{n:Y}{l:LB}{a:Z aU}{f:Z aO}:POk (.mk n l a [] [] f):=⟨fun d hd=>by simp [aN.aEd] at hd,fun d hd=>by simp [aN.aEg] at hd⟩
theorem azM(fu:Nat)(x:aB):Pt (jU fu x) fun r=>POk r.1:=by
 unfold jU uO
 refine Pt.any fun _=>Pt.any fun⟨_,_⟩=>Pt.any fun _=>Pt.any fun _=>Pt.sw (fun _=>Pt.some agZ) fun _=>Pt.sw (fun _=>Pt.some agZ) fun _=>Pt.gd (Pt.sw (fun _=>Pt.some agZ) fun _=>Pt.gd (Pt.sw (fun _=>Pt.some agZ) fun _=>Pt.sw (fun _=>Pt.some agZ) fun _=>Pt.so (E:=fun _=>True) ?_ fun⟨_,_,_,_,_,_⟩ _=>Pt.bd (auP fu _) fun _ h=>Pt.sw (fun _=>Pt.some agZ) fun e=>Pt.some (h (MG e))))
 by_cases hn:3≤x.aD7.length
 ·exact Pt.loop (fun _ _=>True) (fun _ _=>trivial) (fun i ⟨_,_,_,_,_,_⟩ _ _=>Pt.any fun⟨_,_⟩=>Pt.sw (fun _=>Pt.some agZ) fun _=>Pt.some trivial) _ 3 _ rfl hn trivial
 ·rw [show x.aD7.length-3=0 by omega]
  exact Pt.some trivial
theorem auQ(fu:Nat)(s:Y):Pt (lP fu s) fun r=>WOk r.1:=by
 unfold lP xK
 have h0:WOk (.mk []):=fun p hp=>by simp [aH.aD3] at hp
 refine Pt.any fun l=>Pt.so (E:=fun v=> ∀p∈v,POk p) (Pt.loop (fun _ v=> ∀p∈v,POk p) (fun _ h=>h) (fun i v _ h=>?_) _ 0 _ rfl (Nat.zero_le _) (by simp)) fun v h=>Pt.some h
 refine Pt.any fun _=>Pt.sw (fun _=>Pt.some h) fun _=>Pt.bd (Q:=fun r=>POk r.1) ?_ fun⟨p,_⟩ hp=>Pt.sw (fun _=>Pt.some h0) fun _=>Pt.sw (fun _=>Pt.some h0) fun _=>Pt.gd (Pt.some fun q hq=>?_)
 ·unfold mV
  exact Pt.any fun⟨_,_⟩=>Pt.sw (fun _=>Pt.some agZ) fun _=>Pt.bd (azM fu _) fun⟨_,_⟩ h=>Pt.some h
 ·rcases List.mem_append.1 hq with h1|h1
  ·exact h q h1
  ·rw [List.mem_singleton.1 h1];exact hp
theorem P6(fu:Nat)(s:Y)(l:Z aA):Pt (gW fu s l) fun t=>t= .mk 2 s l:=Pt.gd (Pt.some rfl)
theorem aqF: ∀fu,(∀t,Pt (iS fu t) fun r=>r=t)∧ ∀l,Pt (iP fu l) fun r=>r=l
 |0=>⟨fun t r e=>(by rw [iS] at e;cases e),fun l r e=>(by rw [iP] at e;cases e)⟩
 |fu+1=>by
  obtain⟨h1,h2⟩:=aqF fu
  refine⟨fun t=>?_,fun l=>?_⟩
  ·rw [iS]
   exact Pt.bd (h2 _) fun x hx=>Pt.some (by subst hx;cases t;rfl)
  ·rw [iP]
   unfold zI HU
   refine Pt.so (E:=fun v=>v=l) (Pt.loop (fun i v=>v=l.take i) (fun s h=>by rwa [List.take_length] at h) (fun i v hi h=>Pt.bd (h1 _) fun x hx=>Pt.gd (Pt.some ?_)) _ 0 _ rfl (Nat.zero_le _) rfl) fun v h=>Pt.some h
   show v++ [x]=l.take (i+1)
   rw [J0 hi,h,hx]
theorem asL: ∀fu c vs d,Pt (lY fu c vs d) fun r=>NI r.1
 |0,c,vs,d=>fun r e=>by rw [lY] at e;cases e
 |fu+1,c,vs,d=>by
  have L0: ∀ {e:DS} {l:LB},Pt (lt (e.after l.length) fun d5=>lt (e.pick l) fun y=>bd (gW fu y []) fun x=>some (aA.mk x.aD8 x.aD4 x.aD5,d5)) fun r=>NI r.1:=Pt.lt fun _ _=>Pt.lt fun _ _=>Pt.bd (P6 fu _ _) fun x hx=>Pt.some (xG (hx ▸ VJ))
  rw [lY]
  unfold VP
  have ih:=asL fu
  have L1: ∀ {e:DS} {k:Int},Pt (lt (e.after ([cM,cM,zB]:LB).length) fun d33=>lt (e.pick ([cM,cM,zB]:LB)) fun y35=>bd (lY fu d33 vs k) fun(x38,x39)=>bd (gW fu y35 ([(aA.mk x38.aD8 x38.aD4 x38.aD5)]:Z aA)) fun x41=>some ((aA.mk x41.aD8 x41.aD4 x41.aD5),x39)) fun r=>NI r.1:=fun {e k}=>Pt.lt fun _ _=>Pt.lt fun y hy=>Pt.bd (ih _ _ _) fun⟨x,_⟩ hx=>Pt.bd (P6 fu _ _) fun z hz=>Pt.some (xG (hz ▸ XD (hy ▸ by
   have:=e.pick_mem (l:= [cM,cM,zB]) (by decide)
   simp only [List.mem_cons,List.not_mem_nil,or_false] at this
   rcases this with h|h|h<;>rw [h]<;>rfl) (SC (xG hx))))
  have L2: ∀ {e:DS} {k k2:Int},Pt (bd (lY fu e vs k) fun(x26,x27)=>bd (lY fu x27 vs k2) fun(x29,x30)=>bd (gW fu uQ ([(aA.mk x26.aD8 x26.aD4 x26.aD5),(aA.mk x29.aD8 x29.aD4 x29.aD5)]:Z aA)) fun x32=>some ((aA.mk x32.aD8 x32.aD4 x32.aD5),x30)) fun r=>NI r.1:=Pt.bd (ih _ _ _) fun⟨x,_⟩ hx=>Pt.bd (ih _ _ _) fun⟨y,_⟩ hy=>Pt.bd (P6 fu _ _) fun z hz=>Pt.some (xG (hz ▸ XD rfl (ap9 (xG hx) (xG hy))))
  exact Pt.lt fun _ _=>Pt.sw (fun _=>Pt.sw (fun _=>Pt.lt fun _ _=>Pt.gd (Pt.some aj1)) fun _=>Pt.sw (fun _=>L0) fun _=>Pt.sw (fun _=>L0) fun _=>Pt.sw (fun _=>L2) fun _=>L1) fun _=>Pt.sw (fun _=>L0) fun _=>Pt.sw (fun _=>L0) fun _=>Pt.sw (fun _=>L2) fun _=>L1
theorem aqJ(fu:Nat)(s:Y){t:aA}(h:NI t):Pt (F4 fu s t) NI:=Pt.bd ((aqF fu).1 _) fun x hx=>Pt.some (XE (by decide) (SC (hx ▸ h)))
theorem aj4(fu:Nat)(c:DS)(d:Int):Pt (rN fu c d) fun r=>NI r.1:=by
 unfold rN
 exact Pt.bd (asL fu _ _ _) fun⟨x,_⟩ hx=>Pt.lt fun _ _=>Pt.sw (fun _=>Pt.lt fun _ _=>Pt.lt fun _ _=>Pt.bd (aqJ fu _ (xG hx)) fun _ h=>Pt.some (xG h)) fun _=>Pt.sw (fun _=>Pt.bd (aqJ fu _ (xG hx)) fun _ h=>Pt.bd (P6 fu _ _) fun _ hz=>Pt.some (xG (hz ▸ XD rfl (SC (xG h))))) fun _=>Pt.sw (fun _=>Pt.some (XE (by decide) (by simp))) fun _=>Pt.some (xG hx)
theorem asC(fu:Nat)(c:DS):Pt (CZ fu c) fun r=>DOk r.1:=by
 unfold CZ
 refine Pt.bd (Q:=NI) (Pt.some aj1) fun x hx=>Pt.bd (P6 fu _ _) fun y hy=>?_
 replace hy:NI y:=hy ▸ XD rfl (SC hx)
 have h2: ∀ {n m:Y} {l:Z aA},(∀f∈l,NI f)→ ∀c∈([.mk n l,.mk m [x,y]]:Z aC),∀f∈c.aEm,NI f:=fun {n m l} hl c hc f hf=>by
  rcases List.mem_cons.1 hc with rfl|hc
  ·exact hl f hf
  ·rw [List.mem_singleton.1 hc] at hf
   exact ap9 hx hy f hf
 exact Pt.lt fun _ _=>Pt.sw (fun _=>Pt.lt fun _ _=>Pt.lt fun _ _=>Pt.gd (Pt.some ⟨rfl,h2 (by simp)⟩)) fun _=>Pt.sw (fun _=>Pt.lt fun _ _=>Pt.gd (Pt.some ⟨rfl,fun c hc=>h2 (by simp) c (List.mem_of_mem_take (List.mem_of_mem_drop hc))⟩)) fun _=>Pt.sw (fun _=>Pt.bd (aj4 fu _ _) fun⟨_,_⟩ hf=>Pt.some ⟨rfl,h2 (SC hf)⟩) fun _=>Pt.sw (fun _=>Pt.lt fun _ _=>Pt.lt fun _ _=>Pt.some ⟨rfl,h2 (by simp)⟩) fun _=>Pt.some ⟨rfl,h2 (by simp)⟩
theorem asD(fu:Nat)(c:DS):Pt (C0 fu c) fun r=>IOk r.1:=by
 unfold C0
 refine Pt.lt fun _ _=>Pt.lt fun _ _=>Pt.lt fun _ _=>Pt.any fun _=>Pt.so (E:=fun v=>(∀b∈v.2.2.2.2.1,NI b.aD6)∧v.2.2.2.2.1.length≤1) ?_ fun⟨v9,v10,v11,v12,v13,v14⟩ ⟨h1,h2⟩=>Pt.so (E:=fun v=>NI (.mk v.2.2.1 v.2.2.2.1 v.1)) ?_ fun⟨v38,v35,v36,v37,v34⟩ h3=>?_
 ·unfold T4
  have hb: ∀ {n s:Y},(∀b∈([.mk n (.mk 1 s [])]:Z aF),NI b.aD6)∧([.mk n (.mk 1 s [])]:Z aF).length≤1:=fun {n s}=>⟨fun b hb=>by rw [List.mem_singleton.1 hb];exact aj1,Nat.le_refl _⟩
  have h0:(∀b∈([]:Z aF),NI b.aD6)∧([]:Z aF).length≤1:=⟨by simp,by simp⟩
  exact Pt.lt fun _ _=>Pt.sw (fun _=>Pt.any fun _=>Pt.some h0) fun _=>Pt.sw (fun _=>Pt.bd (Q:=fun t=>t= .mk 1 gA []) (Pt.some rfl) fun _ e=>Pt.any fun _=>Pt.some (e ▸ hb)) fun _=>Pt.sw (fun _=>Pt.any fun _=>Pt.any fun _=>Pt.any fun _=>Pt.some h0) fun _=>Pt.bd (Q:=fun t=>t= .mk 1 gA []) (Pt.some rfl) fun _ e=>Pt.some (e ▸ hb)
 ·unfold T5
  exact Pt.lt fun _ _=>Pt.sw (fun _=>Pt.bd (asL fu _ _ _) fun⟨_,_⟩ h=>Pt.some (xG h)) fun _=>Pt.some (XE (show(0:Int)≠2 by decide) (by simp))
 ·have hI: ∀ {a:Y} {v:LB} {t:aA} {b b2:Bool} {m:Z aP},IOk (.mk a v t v13 b b2 (.mk v36 v37 v38) m):=⟨h1,Nat.le_trans h2 (by decide),h3⟩
  refine Pt.lt fun _ _=>Pt.lt fun _ _=>Pt.sw (fun _=>Pt.any fun⟨_,_⟩=>Pt.some hI) fun _=>Pt.sw (fun _=>Pt.lt fun _ _=>Pt.lt fun _ _=>Pt.gd (Pt.some hI)) fun _=>Pt.sw (fun _=>Pt.bd (aj4 fu _ _) fun⟨x,_⟩ hx=>Pt.gd (Pt.some ⟨fun b hb=>?_,?_,h3⟩)) fun _=>Pt.sw (fun _=>Pt.any fun⟨_,_⟩=>Pt.some hI) fun _=>Pt.sw (fun _=>Pt.bd (Q:=NI) (Pt.bd (P6 fu _ _) fun _ e=>Pt.some (e ▸ VJ)) fun _ h=>Pt.some ⟨h1,Nat.le_trans h2 (by decide),h⟩) fun _=>Pt.sw (fun _=>Pt.some hI) fun _=>Pt.some hI
  ·rcases List.mem_append.1 hb with h|h
   ·exact h1 b h
   ·rw [List.mem_singleton.1 h];exact hx
  ·show(v13++_).length≤4
   replace h2:v13.length≤1:=h2
   rw [List.length_append,List.length_singleton]
   omega
theorem aeZ{α:Type}{P:α→Prop}{l:Z α}{x:α}(h: ∀a∈l,P a)(hx:P x): ∀a∈l++ [x],P a:=fun a ha=>by
 rcases List.mem_append.1 ha with h1|h1
 ·exact h a h1
 ·rw [List.mem_singleton.1 h1];exact hx
def PkS(v:Z aU×Z aM×Z aI×Z aO×DS):Prop:=(∀d∈v.2.1,DOk d)∧ ∀x∈v.2.2.1,IOk x
theorem auL(fu:Nat)(c:DS):Pt (xR fu c) fun r=>POk r.1:=by
 unfold xR OA
 refine Pt.lt fun _ _=>Pt.so (E:=PkS) (Pt.loop (fun _=>PkS) (fun _ h=>h) (fun i ⟨v9,v10,v11,v12,v4⟩ _ ⟨h1,h2⟩=>?_) _ 0 _ rfl (Nat.zero_le _) ⟨by simp,by simp⟩) fun⟨v9,v10,v11,v12,v4⟩ ⟨h1,h2⟩=>?_
 ·exact Pt.lt fun _ _=>Pt.sw (fun _=>Pt.any fun⟨_,_⟩=>Pt.gd (Pt.some ⟨h1,h2⟩)) fun _=>Pt.sw (fun _=>Pt.bd (asC fu _) fun⟨_,_⟩ h=>Pt.gd (Pt.some ⟨aeZ h1 h,h2⟩)) fun _=>Pt.sw (fun _=>Pt.bd (asD fu _) fun⟨_,_⟩ h=>Pt.gd (Pt.some ⟨h1,aeZ h2 h⟩)) fun _=>Pt.any fun⟨_,_⟩=>Pt.gd (Pt.some ⟨h1,h2⟩)
 ·exact Pt.lt fun _ _=>Pt.sw (fun _=>Pt.lt fun _ _=>Pt.lt fun _ _=>Pt.some ⟨h1,h2⟩) fun _=>Pt.sw (fun _=>Pt.lt fun _ _=>Pt.lt fun _ _=>Pt.gd (Pt.some ⟨h1,h2⟩)) fun _=>Pt.some ⟨h1,h2⟩
theorem asN(fu:Nat)(c:DS):Pt (oZ fu c) fun r=>WOk r.1:=by
 unfold oZ C3
 exact Pt.bd (Q:=fun r=>WOk r.1) (Pt.any fun⟨_,_⟩=>Pt.bd (auQ fu _) fun⟨_,_⟩ h=>Pt.some h) fun⟨_,_⟩ h=>Pt.lt fun _ _=>Pt.sw (fun _=>Pt.bd (auL fu _) fun⟨_,_⟩ hp=>Pt.gd (Pt.some (aeZ h hp))) fun _=>Pt.some h
theorem auM(fu:Nat)(c:DS):Pt (C7 fu c) fun r=>NI r.1.aD6:=by
 unfold C7
 exact Pt.bd (asL fu _ _ _) fun⟨_,_⟩ h=>Pt.lt fun _ _=>Pt.sw (fun _=>Pt.bd (aj4 fu _ _) fun⟨_,_⟩ h=>Pt.lt fun _ _=>Pt.lt fun _ _=>Pt.some h) fun _=>Pt.sw (fun _=>Pt.bd (P6 fu _ _) fun _ e=>Pt.lt fun _ _=>Pt.lt fun _ _=>Pt.some (e ▸ VJ)) fun _=>Pt.sw (fun _=>Pt.lt fun _ _=>Pt.lt fun _ _=>Pt.bd (P6 fu _ _) fun _ e=>Pt.bd (P6 fu _ _) fun _ k=>Pt.lt fun _ _=>Pt.lt fun _ _=>Pt.some (k ▸ XD rfl (SC (e ▸ VJ)))) fun _=>Pt.lt fun _ _=>Pt.lt fun _ _=>Pt.some h
theorem arK{w:aH}(h:WOk w):WQ NI w:=WQ.of (fun p hp x hx=>⟨((h p hp).2 x hx).w,((h p hp).2 x hx).a⟩) fun p hp d hd=>((h p hp).1 d hd).2
theorem WA{α:Type}{f g:α→Int}: ∀ {l:Z α},(∀x∈l,f x=g x)→m3 f l=m3 g l
 | [],_=>rfl
 |x::l,h=>by rw [m3,m3,h x (by simp),WA fun y hy=>h y (List.mem_cons_of_mem _ hy)]
theorem aa1{f g:aF→aD×Int}: ∀ {l:Z aF} {out:Z aD},(∀x∈l,f x=g x)→BU f l out=BU g l out
 | [],_,_=>rfl
 |x::l,out,h=>by rw [BU,BU,h x (by simp),aa1 fun y hy=>h y (List.mem_cons_of_mem _ hy)]
theorem arW{t:aA}(h:NI t):zN true t=zN false t:=by
 cases t with
 |mk k n xs=>
  have hr:=((GU k n xs).1 h).1
  unfold zN
  show(decide (k=2)&&(RE n&&(true||decide (xs.length=0))))=(decide (k=2)&&(RE n&&(false||decide (xs.length=0))))
  by_cases hk:k=2
  ·cases hn:RE n
   ·rw [Bool.false_and,Bool.false_and]
   ·rw [decide_eq_true (hr hk hn)];rfl
  ·rw [decide_eq_false hk];rfl
section
variable {w:aH} (hW:WQ NI w) (l:Z aJ)
include hW
theorem alY(tr:Y): ∀k op t,NI t→qL true w l tr k op t=qL false w l tr k op t
 |0,_,_,_=>rfl
 |k+1,op,t,h=>by
  rw [qL,qL,arW h]
  cases hc:uV w t with
  |false=>rfl
  |true=>rw [WA fun c hm=>WA fun f hf=>alY tr k (op++ [t]) _ (aq8 GU hW h hc hm hf)]
theorem aiN: ∀k g,NI g.aD6→iH true w l k g=iH false w l k g
 |0,_,_=>rfl
 |k+1,g,h=>by
  rw [iH,iH,alY hW l _ _ _ _ h]
  by_cases hs:(eD w g).2=0
  ·rw [aa1 fun x hx=>aiN k _ (ae0 GU hW (KU hs) h hx)]
  ·rw [if_neg hs,if_neg hs]
end
theorem au4{w:aH}(hW:WQ NI w)(l:Z aF){g:aF}(h:NI g.aD6):YX w l g=sT w l g:=aiN hW _ 12 g h
def avN(w:aH)(t:aA):Prop:= ∃V:LB,V.length≤13000000∧Gd (ZX w++V) t
theorem auA{w:aH}(hw:wt w≤13000000){V:LB}(h:V.length≤13000000):(ZX w++V).length≤68719476736:=by
 have:=agT w
 rw [List.length_append]
 omega
theorem avN.ty{w:aH}(hw:wt w≤13000000){t:aA}(h:avN w t):iV t:=let⟨_,h1,h2⟩:=h;⟨_,auA hw h1,h2⟩
end Go.Proofs.YtfcoaagbccmahaaGreat.W

namespace Go.Proofs.YtfcoaagbccmahaaGreat.W
open Go.RowKit Go.Proofs
def ab(b:UInt8):Bool:=(Nat.ble 97 b.toNat&&Nat.ble b.toNat 122)||((Nat.ble 48 b.toNat&&Nat.ble b.toNat 57)||(Nat.beq b.toNat 39||(Nat.beq b.toNat 45||(Nat.beq b.toNat 43||(Nat.beq b.toNat 42||(Nat.beq b.toNat 60||(Nat.beq b.toNat 61||Nat.beq b.toNat 46)))))))
def wsp(b:UInt8):Bool:=Nat.beq b.toNat 32||Nat.beq b.toNat 10
def sk(l:Z UInt8):Z UInt8:=l.dropWhile wsp
def isC:Z UInt8→Bool
 | []=>false
 |b::_=>Nat.beq b.toNat 41
def rdB:Nat→(Z UInt8→aB×Z UInt8)×(Z UInt8→Z aB×Z UInt8)
 |0=>(fun l=>(.mk s_ [],l),fun l=>([],l))
 |n+1=>
  (fun l=>match(sk l).takeWhile ab with
   | []=>(.mk s_ ((rdB n).2 (sk l).tail).1,((rdB n).2 (sk l).tail).2)
   |a::r=>(.mk ⟨⟨a::r⟩⟩ [],(sk l).dropWhile ab),
   fun l=>bif isC (sk l) then([],(sk l).tail) else(((rdB n).1 (sk l)).1::((rdB n).2 ((rdB n).1 (sk l)).2).1,((rdB n).2 ((rdB n).1 (sk l)).2).2))
def rd(n:Nat)(l:Z UInt8):aB×Z UInt8:=(rdB n).1 l
def rdL(n:Nat)(l:Z UInt8):Z aB×Z UInt8:=(rdB n).2 l
theorem amF{n:Nat}{l a r:Z UInt8}(ha:(sk l).takeWhile ab=a)(hr:(sk l).dropWhile ab=r)(h0:a≠ []):rd (n+1) l=(.mk ⟨⟨a⟩⟩ [],r):=by
 unfold rd
 rw [rdB]
 show(match(sk l).takeWhile ab with
  | []=>_
  |a::r=>_)=_
 rw [ha]
 cases a with
 |nil=>exact absurd rfl h0
 |cons x xs=>rw [← hr]
theorem amG{n:Nat}{l:Z UInt8}(ha:(sk l).takeWhile ab= []):rd (n+1) l=(.mk s_ (rdL n (sk l).tail).1,(rdL n (sk l).tail).2):=by
 unfold rd
 rw [rdB]
 show(match(sk l).takeWhile ab with
  | []=>_
  |a::r=>_)=_
 rw [ha]
 rfl
theorem amE{n:Nat}{l:Z UInt8}(h:isC (sk l)=true):rdL (n+1) l=([],(sk l).tail):=by
 unfold rdL
 rw [rdB]
 show(bif isC (sk l) then _ else _)=_
 rw [h]
 rfl
theorem ag0{n:Nat}{l:Z UInt8}(h:isC (sk l)=false):rdL (n+1) l=((rd n (sk l)).1::(rdL n (rd n (sk l)).2).1,(rdL n (rd n (sk l)).2).2):=by
 unfold rdL
 rw [rdB]
 show(bif isC (sk l) then _ else _)=_
 rw [h]
 rfl
theorem asX{b:UInt8}{l:Z UInt8}(h:wsp b=true):sk (b::l)=sk l:=by
 unfold sk
 rw [List.dropWhile_cons,if_pos h]
theorem asY{b:UInt8}{l:Z UInt8}(h:wsp b=false):sk (b::l)=b::l:=by
 unfold sk
 rw [List.dropWhile_cons,if_neg (by rw [h];simp)]
theorem amP{p:UInt8→Bool}: ∀ {a r:Z UInt8},(∀x∈a,p x=true)→(∀b l,r=b::l→p b=false)→(a++r).takeWhile p=a∧(a++r).dropWhile p=r
 | [],r,_,hr=>by
  cases r with
  |nil=>exact⟨rfl,rfl⟩
  |cons b l=>
   have h:=hr b l rfl
   rw [List.nil_append,List.takeWhile_cons,List.dropWhile_cons,h]
   exact⟨rfl,rfl⟩
 |x::a,r,ha,hr=>by
  have h:=amP (a:=a) (fun y hy=>ha y (List.mem_cons_of_mem _ hy)) hr
  rw [List.cons_append,List.takeWhile_cons,List.dropWhile_cons,ha x (by simp)]
  exact⟨by simp [h.1],h.2⟩
def hdA:Z UInt8→Bool
 | []=>false
 |b::_=>Nat.beq b.toNat 97
def NT:Z UInt8→Bool
 | []=>true
 |b::l=> !Nat.beq b.toNat 10&&(!(Nat.beq b.toNat 114&&hdA l)&&NT l)
theorem JF{b:UInt8}{l:Z UInt8}:NT (b::l)=(!Nat.beq b.toNat 10&&(!(Nat.beq b.toNat 114&&hdA l)&&NT l)):=by rw [NT]
theorem P5{b:UInt8}{l:Z UInt8}(h:NT (b::l)=true):NT l=true:=by
 rw [JF,Bool.and_eq_true,Bool.and_eq_true] at h
 exact h.2.2
theorem SD: ∀ {a r:Z UInt8},NT (a++r)=true→NT r=true
 | [],_,h=>h
 |_::a,_,h=>SD (a:=a) (P5 h)
theorem XF: ∀ {a r:Z UInt8},NT (a++r)=true→NT a=true
 | [],_,_=>rfl
 |b::a,r,h=>by
  have h1:=XF (a:=a) (P5 h)
  rw [List.cons_append,JF,Bool.and_eq_true,Bool.and_eq_true] at h
  rw [JF,h.1,h1]
  cases a with
  |nil=>simp [hdA]
  |cons c a=>rw [show hdA (c::a)=hdA (c::a++r) from rfl,h.2.1];rfl
theorem amC: ∀ {a r:Z UInt8},NT a=true→NT r=true→hdA r=false→NT (a++r)=true
 | [],_,_,h,_=>h
 |b::a,r,h,k,hr=>by
  have h1:=amC (P5 h) k hr
  rw [JF,Bool.and_eq_true,Bool.and_eq_true] at h
  rw [List.cons_append,JF,h.1,h1]
  cases a with
  |nil=>rw [List.nil_append,hr];simp
  |cons c a=>rw [show hdA (c::a++r)=hdA (c::a) from rfl,h.2.1];rfl
theorem aqA{l:Z UInt8}(h:NT l=true)(n:Nat):NT (l.drop n)=true:=by
 rw [← List.take_append_drop n l] at h
 exact SD h
theorem aqB{l:Z UInt8}(h:NT l=true)(n:Nat):NT (l.take n)=true:=by
 rw [← List.take_append_drop n l] at h
 exact XF h
theorem aj3{p:UInt8→Bool}{l:Z UInt8}(h:NT l=true):NT (l.takeWhile p)=true∧NT (l.dropWhile p)=true:=by
 rw [← List.takeWhile_append_dropWhile (p:=p) (l:=l)] at h
 exact⟨XF h,SD h⟩
theorem aqC{l:Z UInt8}(h:NT l=true):NT l.tail=true:=by
 cases l with
 |nil=>rfl
 |cons b l=>exact P5 h
inductive V5:aB→Prop
 |mk {a:Y} {l:Z aB} (h:a≠rY) (hl: ∀x∈l,V5 x):V5 (.mk a l)
theorem V5.atom{x:aB}(h:V5 x):x.aEa≠rY:=by cases h;assumption
theorem V5.sub{x:aB}(h:V5 x): ∀y∈x.aD7,V5 y:=by cases h;assumption
theorem atR: ∀n,(∀l,NT l=true→V5 (rd n l).1∧NT (rd n l).2=true)∧ ∀l,NT l=true→(∀x∈(rdL n l).1,V5 x)∧NT (rdL n l).2=true
 |0=>⟨fun l h=>⟨.mk (by decide) (by simp),h⟩,fun l h=>⟨fun x hx=>(by cases hx),h⟩⟩
 |n+1=>by
  obtain⟨h1,h2⟩:=atR n
  refine⟨fun l h=>?_,fun l h=>?_⟩
  ·have hs:NT (sk l)=true:=(aj3 h).2
   by_cases ha:(sk l).takeWhile ab= []
   ·rw [amG ha]
    obtain⟨k1,k2⟩:=h2 _ (aqC hs)
    exact⟨.mk (by decide) k1,k2⟩
   ·rw [amF rfl rfl ha]
    obtain⟨k1,k2⟩:=aj3 (p:=ab) hs
    refine⟨.mk (fun e=>?_) (by simp),k2⟩
    have e2:(sk l).takeWhile ab=rY.data.toList:=congrArg (fun b:Y=>b.data.toList) e
    rw [e2] at k1
    exact absurd k1 (by decide)
  ·have hs:NT (sk l)=true:=(aj3 h).2
   cases hc:isC (sk l) with
   |true=>
    rw [amE hc]
    exact⟨fun x hx=>(by cases hx),aqC hs⟩
   |false=>
    rw [ag0 hc]
    obtain⟨k1,k2⟩:=h1 _ hs
    obtain⟨k3,k4⟩:=h2 _ k2
    exact⟨fun x hx=>by
     rcases List.mem_cons.1 hx with rfl|hx
     ·exact k1
     ·exact k3 x hx,k4⟩
def atX(x:aB)(i:Nat):aB:=(x.aD7[i]?).getD (.mk s_ [])
def apG(x:aB):Prop:= ∀y∈x.aD7.drop 3,(atX y 0).aEa=rY→ ∀z∈(atX y 2).aD7,z.aEa=jZ
theorem as4{x:aB}(h:V5 x):apG x:=fun y hy e=>by
 have h1:=h.sub y (List.mem_of_mem_drop hy)
 have h2:V5 (atX y 0):=by
  unfold atX
  cases hq:y.aD7[0]? with
  |none=>exact .mk (by decide) (by simp)
  |some z=>exact h1.sub z (List.mem_of_getElem? hq)
 exact absurd e h2.atom
def eqB:Z UInt8→Z UInt8→Bool
 | [],[]=>true
 |a::l,b::r=>Nat.beq a.toNat b.toNat&&eqB l r
 |_,_=>false
theorem apW: ∀ {l r:Z UInt8},eqB l r=true→l=r
 | [],[],_=>rfl
 | [],_::_,h=>by simp [eqB] at h
 |_::_,[],h=>by simp [eqB] at h
 |a::l,b::r,h=>by
  rw [eqB,Bool.and_eq_true] at h
  rw [UInt8.toNat_inj.1 (Nat.eq_of_beq_eq_true h.1),apW h.2]
def itB:aB→Bool
 | .mk _ (.mk n _::_:: .mk _ s::_)=>bif eqB n.data.toList [116,114,97,105,116] then s.all (fun z=>eqB z.aEa.data.toList [101,113]) else true
 | .mk _ (.mk n _::_)=> !eqB n.data.toList [116,114,97,105,116]
 |_=>true
def trB:aB→Bool
 | .mk _ (_::_::_::l)=>l.all itB
 |_=>true
theorem auB: ∀y:aB,itB y=true→(atX y 0).aEa=rY→ ∀z∈(atX y 2).aD7,z.aEa=jZ
 | .mk a [],h,e,z,hz=>by cases hz
 | .mk a [x],h,e,z,hz=>by cases hz
 | .mk a [x,x'],h,e,z,hz=>by cases hz
 | .mk a (.mk n l::x:: .mk m s::r),h,e,z,hz=>by
  replace e:n=rY:=e
  replace hz:z∈s:=hz
  subst e
  rw [itB,show eqB (rY.data.toList) [116,114,97,105,116]=true from rfl,cond_true,List.all_eq_true] at h
  have h1:=apW (h z hz)
  show z.aEa=_
  exact ByteArray.ext (Array.toList_inj.1 h1)
theorem au7: ∀x:aB,trB x=true→apG x
 | .mk a [],h=>fun y hy=>by cases hy
 | .mk a [x],h=>fun y hy=>by cases hy
 | .mk a [x,x'],h=>fun y hy=>by cases hy
 | .mk a (x::x'::x''::l),h=>fun y hy e z hz=>by
  rw [trB,List.all_eq_true] at h
  exact auB y (h y hy) e z hz
theorem eG(a b:Y):(a++b).data.toList=a.data.toList++b.data.toList:=by
 rw [ByteArray.data_append,Array.toList_append]
theorem acP(s:Y)(i j:Nat):(s.extract i j).data.toList=(s.data.toList.take j).drop i:=by
 rw [ByteArray.data_extract,Array.toList_extract,List.extract_eq_take_drop]
 rw [List.drop_take]
def ZA(s:Y):Prop:=NT s.data.toList=true∧hdA s.data.toList=false
theorem ZA.app{a b:Y}(h:ZA a)(k:ZA b):ZA (a++b):=by
 unfold ZA at h k ⊢
 rw [eG]
 refine⟨amC h.1 k.1 k.2,?_⟩
 cases hq:a.data.toList with
 |nil=>exact k.2
 |cons c l=>rw [hq] at h;exact h.2
instance(s:ByteArray):Decidable (ZA s):=by unfold ZA;infer_instance
end Go.Proofs.YtfcoaagbccmahaaGreat.W

namespace Go.Proofs.YtfcoaagbccmahaaGreat.W
open Go.RowKit Go.WalkArith Go.IntWalk Go.Proofs
theorem TK(E:Int): -9223372036854775808≤E∧E≤9223372036854775807→aW E=E:=fun h=>by
 unfold aW IntKind.wrap
 simp [IntKind.bits,IntKind.signed]
 omega
def sf(s:Y)(i:Int):Z UInt8:=s.data.toList.drop i.toNat
theorem VO{s:Y}{i:Int}(h:0≤i∧i.toNat<s.size):sf s i=wG s i.toNat::sf s (i+1):=by
 unfold sf
 have hl:i.toNat<s.data.toList.length:=h.2
 rw [List.drop_eq_getElem_cons hl,show(i+1).toNat=i.toNat+1 by omega]
 have:s.data.toList[i.toNat]=wG s i.toNat:=by
  unfold wG
  rw [getElem?_pos s i.toNat h.2]
  rfl
 rw [this]
theorem akG{s:Y}{i:Int}(h:((s.size:Nat):Int)≤i):sf s i= []:=by
 unfold sf
 refine List.drop_of_length_le ?_
 show s.size≤_
 omega
theorem au2{s:Y}{i:Int}:(sf s i).length=s.size-i.toNat:=by
 unfold sf
 rw [List.length_drop]
 rfl
theorem apO: ∀n:Fin 256,xV 0 (UInt8.ofBitVec (BitVec.ofFin n))=some (ab (UInt8.ofBitVec (BitVec.ofFin n))):=by decide+kernel
theorem auI(fu:Nat)(c:UInt8):Pt (xV fu c) fun b=>b=ab c:=fun r e=>by
 have h:xV 0 c=some (ab c):=by
  cases c with
  |ofBitVec b=>cases b with
   |ofFin n=>exact apO n
 exact(Option.some.inj (h.symm.trans e)).symm
def In(s:Y)(i:Int):Prop:=0≤i∧i≤((s.size:Nat):Int)
def SkP(p r:c4):Prop:=r.aEN=p.aEN∧r.aEC=p.aEC∧In p.aEN r.aEv∧sf p.aEN r.aEv=sk (sf p.aEN p.aEv)
theorem aqL(fu:Nat){p:c4}(hz:p.aEN.size≤1099511627776)(hp:In p.aEN p.aEv):Pt (mZ fu p) (SkP p):=by
 unfold mZ
 refine Pt.so (E:=fun v=>In p.aEN v∧sf p.aEN v=sk (sf p.aEN p.aEv)) (Pt.loopW (fun v=>In p.aEN v∧sk (sf p.aEN v)=sk (sf p.aEN p.aEv)) (fun v hv=>?_) fu p.aEv ⟨hp,rfl⟩) fun v hv=>Pt.some ⟨rfl,rfl,hv.1,hv.2⟩
 obtain⟨⟨h0,h1⟩,h2⟩:=hv
 unfold HN
 refine Pt.swd (fun g=>?_) fun g=>Pt.some ⟨⟨h0,h1⟩,?_⟩
 ·refine Pt.gdk fun z=>?_
  have hc:=VO z
  have hw:aW (v+1)=v+1:=TK _ (by omega)
  have nx:wsp (wG p.aEN v.toNat)=true→In p.aEN (aW (v+1))∧sk (sf p.aEN (aW (v+1)))=sk (sf p.aEN p.aEv):=fun hb=>by
   rw [hw]
   refine⟨⟨by omega,by omega⟩,?_⟩
   rw [← h2,hc,asX hb]
  refine Pt.swd (fun e=>Pt.some (nx ?_)) fun e=>Pt.swd (fun e2=>Pt.some (nx ?_)) fun e2=>Pt.some ⟨⟨h0,h1⟩,?_⟩
  ·unfold wsp
   rw [show(wG p.aEN v.toNat).toNat=32 by omega]
   rfl
  ·unfold wsp
   rw [show(wG p.aEN v.toNat).toNat=10 by omega]
   rfl
  ·rw [← h2,hc,asY]
   unfold wsp
   rw [Bool.or_eq_false_iff]
   refine⟨Bool.eq_false_iff.2 fun h=>?_,Bool.eq_false_iff.2 fun h=>?_⟩
   ·exact e (by rw [Nat.eq_of_beq_eq_true h];rfl)
   ·exact e2 (by rw [Nat.eq_of_beq_eq_true h];rfl)
 ·rw [← h2,akG (by omega)]
  rfl
def RdP(p:c4)(r:aB×c4):Prop:=r.2.aEN=p.aEN∧(r.2.aEC=false→In p.aEN r.2.aEv∧(sf p.aEN r.2.aEv).length<(sf p.aEN p.aEv).length∧ ∀n,2*(sf p.aEN p.aEv).length+1≤n→rd n (sf p.aEN p.aEv)=(r.1,sf p.aEN r.2.aEv))
theorem aqU(l:Z UInt8):(sk l).length≤l.length:=by
 unfold sk
 exact(List.dropWhile_sublist _).length_le
theorem aqK: ∀(fu:Nat) (p:c4),p.aEN.size≤1099511627776→In p.aEN p.aEv→Pt (mY fu p) (RdP p)
 |0,p,_,_=>fun r e=>by cases e
 |fu+1,p,hz,hp=>by
  rw [mY]
  unfold F1
  refine Pt.bd (aqL fu hz hp) ?_;rintro x ⟨e1,e2,e3,e4⟩
  have bad: ∀ {v d z:Int},Pt (some ((aB.mk s_ []),(c4.mk x.aEN v d z true))) (RdP p):=Pt.some ⟨e1,fun h=>by cases h⟩
  refine Pt.swd (fun _=>bad) fun g1=>Pt.swd (fun _=>bad) fun g2=>?_
  have hxl:=aqU (sf p.aEN p.aEv)
  rw [← e4] at hxl
  refine Pt.so (E:=fun v=>x.aEv≤v∧In p.aEN v∧ ∃a,sf p.aEN x.aEv=a++sf p.aEN v∧(a.length:Int)=v-x.aEv∧(∀b∈a,ab b=true)∧ ∀b l,sf p.aEN v=b::l→ab b=false) ?_ ?_
  ·refine Pt.loopW (fun v=>x.aEv≤v∧In p.aEN v∧ ∃a,sf p.aEN x.aEv=a++sf p.aEN v∧(a.length:Int)=v-x.aEv∧(∀b∈a,ab b=true)) (fun v hv=>?_) fu x.aEv ⟨Int.le_refl _,e3,[],rfl,by simp,by simp⟩
   obtain⟨h0,h1,a,h2,h3,h4⟩:=hv
   unfold OF
   rw [e1]
   obtain⟨h5,h6⟩:=h1
   refine Pt.swd (fun g=>Pt.gdk fun z=>Pt.bd (auI fu _) fun b hb=>?_) fun g=>Pt.some ⟨h0,⟨h5,h6⟩,a,h2,h3,h4,fun b l hl=>by rw [akG (by omega)] at hl;cases hl⟩
   have hc:=VO z
   have hw:aW (v+1)=v+1:=TK _ (by omega)
   refine Pt.sw (fun e=>Pt.some ?_) fun e=>Pt.some ⟨h0,⟨h5,h6⟩,a,h2,h3,h4,fun b' l hl=>?_⟩
   ·show x.aEv≤aW (v+1)∧In p.aEN (aW (v+1))∧_
    rw [hw]
    refine⟨by omega,⟨by omega,by omega⟩,a++ [wG p.aEN v.toNat],by rw [h2,hc,List.append_assoc];rfl,by rw [List.length_append,List.length_singleton];omega,fun b' hb'=>?_⟩
    rcases List.mem_append.1 hb' with h|h
    ·exact h4 b' h
    ·rw [List.mem_singleton.1 h,← hb,e]
   ·rw [hc] at hl
    cases hl
    rw [← hb,e]
  ·rintro v ⟨h0,⟨h5,h6⟩,a,h2,h3,h4,h7⟩
   obtain⟨t1,t2⟩:=amP h4 h7
   rw [← h2,e4] at t1 t2
   have hlen:=congrArg List.length h2
   rw [List.length_append] at hlen
   refine Pt.swd (fun g3=>Pt.gdk fun z=>Pt.some ⟨e1,fun _=>⟨⟨h5,h6⟩,?_,fun n hn=>?_⟩⟩) fun g3=>?_
   ·show(sf p.aEN v).length<_
    omega
   ·obtain⟨m,rfl⟩: ∃m,n=m+1:=⟨n-1,by omega⟩
    rw [amF t1 t2 (by rintro rfl;simp at h3;omega)]
    have:(x.aEN.extract x.aEv.toNat v.toNat)=⟨⟨a⟩⟩:=by
     refine ByteArray.ext (Array.toList_inj.1 ?_)
     rw [acP,e1,List.drop_take]
     show List.take _ (sf p.aEN x.aEv)=a
     rw [h2,List.take_left' (by omega)]
    rw [this]
    rfl
   ·have ha:a= []:=List.eq_nil_of_length_eq_zero (by omega)
    subst ha
    obtain rfl:v=x.aEv:=by simp at h3;omega
    refine Pt.gdk fun z=>Pt.sw (fun _=>bad) fun g4=>Pt.swd (fun _=>bad) fun g5=>?_
    rw [e1] at z
    have hc:=VO z
    have hw:aW (x.aEv+1)=x.aEv+1:=TK _ (by omega)
    have htl:(sk (sf p.aEN p.aEv)).tail=sf p.aEN (x.aEv+1):=by rw [← e4,hc];rfl
    have hl1:=congrArg List.length hc
    rw [List.length_cons] at hl1
    refine Pt.so (E:=fun(q:Y×Int×Int×Int×Bool×Z aB)=>q.1=p.aEN∧q.2.2.2.2.1=true) ?_ ?_
    ·refine Pt.loopW (fun(q:Y×Int×Int×Int×Bool×Z aB)=>q.1=p.aEN∧(q.2.2.2.2.1=false→In p.aEN q.2.1∧(sf p.aEN q.2.1).length≤(sf p.aEN (x.aEv+1)).length∧ ∀n,2*(sf p.aEN (x.aEv+1)).length+2≤n→ ∃m,2*(sf p.aEN q.2.1).length+2≤m∧rdL n (sf p.aEN (x.aEv+1))=(q.2.2.2.2.2++(rdL m (sf p.aEN q.2.1)).1,(rdL m (sf p.aEN q.2.1)).2))) ?_ fu _ ⟨e1,fun _=>?_⟩
     ·rintro⟨v17,v18,v19,v20,v21,v23⟩ ⟨i1,i2⟩
      dsimp only at i1 i2
      subst i1
      unfold OG
      refine Pt.sw (fun g6=>?_) fun g6=>Pt.some ⟨rfl,by simpa using g6⟩
      obtain⟨i3,i4,i5⟩:=i2 (by simpa using g6)
      refine Pt.bd (aqL fu (p:=c4.mk p.aEN v18 v19 v20 v21) hz i3) ?_;rintro y ⟨f1,f2,f3,f4⟩
      replace f1:y.aEN=p.aEN:=f1
      replace f3:In p.aEN y.aEv:=f3
      replace f4:sf p.aEN y.aEv=sk (sf p.aEN v18):=f4
      have hyl:=aqU (sf p.aEN v18)
      rw [← f4] at hyl
      have step:isC (sf p.aEN y.aEv)=false→ ∀q:aB×c4,RdP y q→Pt (gd ((v23).length+(([q.1]:Z aB)).length≤68719476736) (some (LR.next (q.2.aEN,q.2.aEv,q.2.aEx,q.2.aEB,q.2.aEC,(v23++([q.1]:Z aB)))))) (PL (RdP p) (fun(q:Y×Int×Int×Int×Bool×Z aB)=>q.1=p.aEN∧(q.2.2.2.2.1=false→In p.aEN q.2.1∧(sf p.aEN q.2.1).length≤(sf p.aEN (x.aEv+1)).length∧ ∀n,2*(sf p.aEN (x.aEv+1)).length+2≤n→ ∃m,2*(sf p.aEN q.2.1).length+2≤m∧rdL n (sf p.aEN (x.aEv+1))=(q.2.2.2.2.2++(rdL m (sf p.aEN q.2.1)).1,(rdL m (sf p.aEN q.2.1)).2))) (fun(q:Y×Int×Int×Int×Bool×Z aB)=>q.1=p.aEN∧q.2.2.2.2.1=true)):=by
       rintro hC ⟨c,b⟩ ⟨j1,j2⟩
       dsimp only at j1 j2
       rw [f1] at j1 j2
       refine Pt.gdk fun _=>Pt.some ⟨j1,fun hb=>?_⟩
       obtain⟨j3,j4,j5⟩:=j2 hb
       refine⟨j3,by show(sf p.aEN b.aEv).length≤_;omega,fun n hn=>?_⟩
       obtain⟨m,hm,he⟩:=i5 n hn
       obtain⟨k,rfl⟩: ∃k,m=k+1:=⟨m-1,by omega⟩
       refine⟨k,by show 2*(sf p.aEN b.aEv).length+2≤k;omega,?_⟩
       rw [he,ag0 (by rw [← f4];exact hC),← f4,j5 k (by omega)]
       show(v23++(c::(rdL k (sf p.aEN b.aEv)).1),_)=(v23++ [c]++_,_)
       rw [List.append_assoc]
       rfl
      have call:Pt (mY fu y) (RdP y):=aqK fu y (by rw [f1];exact hz) (by rw [f1];exact f3)
      refine Pt.swd (fun g7=>Pt.gdk fun z2=>?_) fun g7=>Pt.bd call (step ?_)
      ·rw [f1] at z2
       have hc2:=VO z2
       have hw2:aW (y.aEv+1)=y.aEv+1:=TK _ (by omega)
       rw [f1]
       refine Pt.swd (fun g8=>Pt.some ⟨rfl,fun _=>?_⟩) fun g8=>Pt.bd call (step ?_)
       ·have hC:isC (sk (sf p.aEN v18))=true:=by
         rw [← f4,hc2]
         show Nat.beq (wG p.aEN y.aEv.toNat).toNat 41=true
         rw [show(wG p.aEN y.aEv.toNat).toNat=41 by omega]
         rfl
        have hl2:=congrArg List.length hc2
        rw [List.length_cons] at hl2
        show In p.aEN (aW (y.aEv+1))∧(sf p.aEN (aW (y.aEv+1))).length<_∧ ∀n,_→rd n (sf p.aEN p.aEv)=(aB.mk s_ v23,sf p.aEN (aW (y.aEv+1)))
        rw [hw2]
        refine⟨⟨by omega,by omega⟩,by omega,fun n hn=>?_⟩
        obtain⟨n',rfl⟩: ∃n',n=n'+1:=⟨n-1,by omega⟩
        obtain⟨m,hm,he⟩:=i5 n' (by omega)
        obtain⟨k,rfl⟩: ∃k,m=k+1:=⟨m-1,by omega⟩
        rw [amG t1,htl,he,amE hC,← f4,hc2]
        simp
       ·rw [hc2]
        show Nat.beq (wG p.aEN y.aEv.toNat).toNat 41=false
        exact Bool.eq_false_iff.2 fun h=>g8 (by rw [Nat.eq_of_beq_eq_true h];rfl)
      ·rw [f1] at g7
       rw [akG (by omega)]
       rfl
     ·show In p.aEN (aW (x.aEv+1))∧(sf p.aEN (aW (x.aEv+1))).length≤_∧ ∀n,_→ ∃m,2*(sf p.aEN (aW (x.aEv+1))).length+2≤m∧rdL n (sf p.aEN (x.aEv+1))=([]++(rdL m (sf p.aEN (aW (x.aEv+1)))).1,(rdL m (sf p.aEN (aW (x.aEv+1)))).2)
      rw [hw]
      exact⟨⟨by omega,by omega⟩,Nat.le_refl _,fun n hn=>⟨n,hn,rfl⟩⟩
    ·rintro⟨v17,v18,v19,v20,v21,v23⟩ ⟨i1,i2⟩
     dsimp only at i1 i2
     exact Pt.some ⟨i1,fun h=>by rw [show v21=false from h] at i2;cases i2⟩
theorem aqV(fu:Nat)(y:c4):Pt (mZ fu y) fun z=>z.aEC=y.aEC:=by
 unfold mZ
 refine Pt.so (E:=fun _=>True) (Pt.loopW (fun _=>True) (fun v _=>?_) fu _ trivial) fun v _=>Pt.some rfl
 unfold HN
 exact Pt.sw (fun _=>Pt.gd (Pt.sw (fun _=>Pt.some trivial) fun _=>Pt.sw (fun _=>Pt.some trivial) fun _=>Pt.some trivial)) fun _=>Pt.some trivial
theorem asI(fu:Nat){s:Y}(hz:s.size≤1099511627776):Pt (rH fu s) fun r=>r.2=true→ ∀n,2*s.size+1≤n→(rd n s.data.toList).1=r.1:=by
 unfold rH
 have hI:In s 0:=⟨Int.le_refl _,by omega⟩
 refine Pt.bd (aqK fu (c4.mk s 0 0 0 false) hz hI) ?_;rintro⟨x,y⟩ ⟨h1,h2⟩
 replace h1:y.aEN=s:=h1
 by_cases hb:y.aEC=false
 ·obtain⟨h3,h4,h5⟩:=h2 hb
  refine Pt.bd (Q:=fun _=>True) (fun _ _=>trivial) fun z _=>Pt.sw (fun _=>Pt.some no) fun _=>Pt.sw (fun _=>Pt.some no) fun _=>Pt.bd (Q:=fun _=>True) (fun _ _=>trivial) fun _ _=>Pt.sw (fun _=>Pt.some no) fun _=>Pt.some fun _ n hn=>?_
  have h6:=h5 n (by
   show 2*(sf s 0).length+1≤n
   rw [au2]
   exact hn)
  replace h6:rd n (sf s 0)=(x,sf s y.aEv):=h6
  rw [show s.data.toList=sf s 0 from rfl,h6]
 ·intro r e
  replace e:bd (mZ fu y) _=some r:=e
  cases hq:mZ fu y with
  |none=>rw [hq] at e;cases e
  |some z=>
   have hzb:z.aEC=y.aEC:=aqV fu y z hq
   have ht:z.aEC=true:=by rw [hzb];simpa using hb
   rw [hq] at e
   replace e:sw z.aEC (some (aB.mk s_ [],false)) _=some r:=e
   rw [ht] at e
   cases e
   exact no
end Go.Proofs.YtfcoaagbccmahaaGreat.W

namespace Go.Proofs.YtfcoaagbccmahaaGreat.W
open Go.RowKit Go.WalkArith Go.Proofs
theorem awD(fu:Nat)(x:aB)(i:Nat):Pt (dO fu x (i:Int)) fun y=>y=atX x i:=by
 unfold dO atX
 refine Pt.swd (fun h=>Pt.some ?_) fun h=>Pt.gdk fun z=>Pt.some ?_
 ·rw [List.getElem?_eq_none (by omega)];rfl
 ·rw [Int.toNat_natCast]
  unfold aR
  cases hq:x.aD7[i]? with
  |none=>rw [List.getElem?_eq_none_iff] at hq;omega
  |some y=>rfl
theorem asB(fu:Nat)(l:Z aB):Pt (uT fu l) fun r=> ∀q∈r.1,∃z∈l,z.aEa=q:=by
 unfold uT UC
 have h0: ∀q∈([]:LB),∃z∈l,z.aEa=q:=by simp
 refine Pt.so (E:=fun v=> ∀q∈v,∃z∈l,z.aEa=q) (Pt.loop (fun _ v=> ∀q∈v,∃z∈l,z.aEa=q) (fun _ h=>h) (fun i v hi h=>?_) _ 0 _ rfl (Nat.zero_le _) h0) fun v h=>Pt.some h
 refine Pt.sw (fun _=>Pt.some h0) fun _=>Pt.gd (Pt.some ?_)
 intro q hq
 rcases List.mem_append.1 hq with h1|h1
 ·exact h q h1
 ·exact⟨_,cB hi,(List.mem_singleton.1 h1).symm⟩
theorem asK(fu:Nat)(x:aB):Pt (qY fu x) fun r=> ∀q∈r.1.aEc,∃z∈(atX x 2).aD7,z.aEa=q:=by
 unfold qY
 have h0: ∀ {n:Y} {a b:Bool} {s:Z aG},∀q∈(aU.mk n [] a b s).aEc,∃z∈(atX x 2).aD7,z.aEa=q:=fun q hq=>by cases hq
 refine Pt.any fun _=>Pt.any fun _=>Pt.any fun _=>Pt.bd (awD fu x 2) fun x8 h8=>Pt.bd (Q:=fun l=> ∀q∈l,∃z∈(atX x 2).aD7,z.aEa=q) ?_ fun x10 h10=>Pt.any fun _=>Pt.any fun _=>Pt.any fun x16=>Pt.so (E:=fun _=>True) ?_ fun v19 _=>Pt.any fun _=>Pt.sw (fun _=>Pt.some h0) fun _=>Pt.sw (fun _=>Pt.some h0) fun _=>Pt.any fun _=>Pt.any fun _=>Pt.sw (fun _=>Pt.some h0) fun _=>Pt.some h10
 ·unfold lZ
  subst h8
  exact Pt.bd (asB fu _) fun⟨_,_⟩ h=>Pt.some h
 ·unfold FW
  refine Pt.loop (fun _ _=>True) (fun _ _=>trivial) (fun i v _ _=>?_) _ 0 _ rfl (Nat.zero_le _) trivial
  exact Pt.any fun _=>Pt.any fun _=>Pt.any fun _=>Pt.any fun _=>Pt.any fun _=>Pt.sw (fun _=>Pt.any fun _=>Pt.any fun _=>Pt.any fun _=>Pt.any fun _=>Pt.gd (Pt.some trivial)) fun _=>Pt.gd (Pt.some trivial)
def IB(l:Z aU):Prop:= ∀t∈l,∀q∈t.aEc,EO q
theorem ab4{l:Z aU}{t:aU}(h:IB l)(ht: ∀q∈t.aEc,EO q):IB (l++ [t]):=fun a ha=>by
 rcases List.mem_append.1 ha with h1|h1
 ·exact h a h1
 ·rw [List.mem_singleton.1 h1];exact ht
theorem auO(fu:Nat)(v:Y×(LB)×(Z aU)×(Z aM)×(Z aI)×(Z aO))(x:aB)(hv:IB v.2.2.1)(hx:(atX x 0).aEa=rY→ ∀z∈(atX x 2).aD7,z.aEa=jZ):Pt (C2 fu v x) fun r=>IB r.2.2.2.1:=by
 unfold C2
 refine Pt.bd (awD fu x 0) fun y hy=>Pt.swd (fun e=>Pt.bd (asK fu x) fun⟨t,_⟩ ht=>Pt.gd (Pt.some (ab4 hv fun q hq=>?_))) fun _=>Pt.sw (fun _=>Pt.any fun⟨_,_⟩=>Pt.gd (Pt.some hv)) fun _=>Pt.sw (fun _=>Pt.any fun⟨_,_⟩=>Pt.gd (Pt.some hv)) fun _=>Pt.sw (fun _=>Pt.any fun⟨_,_⟩=>Pt.gd (Pt.some hv)) fun _=>Pt.some hv
 obtain⟨z,hz,e2⟩:=ht q hq
 exact .inl (e2.symm.trans (hx (hy ▸ e) z hz))
theorem awE(fu:Nat)(x:aB)(hx:apG x):Pt (jU fu x) fun r=>IB r.1.aEi:=by
 have h0:IB (aN.mk s_ [] [] [] [] []).aEi:=fun t ht=>by cases ht
 unfold jU uO
 refine Pt.any fun _=>Pt.any fun⟨_,_⟩=>Pt.any fun _=>Pt.any fun _=>Pt.sw (fun _=>Pt.some h0) fun _=>Pt.sw (fun _=>Pt.some h0) fun _=>Pt.gd (Pt.sw (fun _=>Pt.some h0) fun _=>Pt.gdk fun hn=>(Pt.sw (fun _=>Pt.some h0) fun _=>Pt.sw (fun _=>Pt.some h0) fun _=>Pt.so (E:=fun v:Y×(LB)×(Z aU)×(Z aM)×(Z aI)×(Z aO)=>IB v.2.2.1) ?_ fun⟨_,_,_,_,_,_⟩ h=>Pt.any fun _=>Pt.sw (fun _=>Pt.some h0) fun _=>Pt.some h))
 refine Pt.loop (fun i (v:Y×(LB)×(Z aU)×(Z aM)×(Z aI)×(Z aO))=>3≤i∧IB v.2.2.1) (fun _ h=>h.2) (fun i ⟨v1,v2,v3,v4,v5,v6⟩ hi h=>?_) _ 3 _ rfl (by omega) ⟨Nat.le_refl _,fun t ht=>by cases ht⟩
 refine Pt.bd (auO fu (v1,v2,v3,v4,v5,v6) _ h.2 (hx _ ?_)) fun⟨_,_⟩ k=>Pt.sw (fun _=>Pt.some h0) fun _=>Pt.some ⟨Nat.le_succ_of_le h.1,k⟩
 have h3:=h.1
 rw [List.mem_drop_iff_getElem]
 exact⟨i-3,by omega,by rw [iE hi];congr 1;omega⟩
def M2(s:Y):Prop:=s.size≤1099511627776∧apG (rd (2*s.size+1) s.data.toList).1
theorem asF(fu:Nat)(s:Y)(hs:M2 s):Pt (mV fu s) fun r=>IB r.1.aEi:=by
 unfold mV
 refine Pt.bd (asI fu hs.1) fun⟨x,b⟩ h=>Pt.sw (fun _=>Pt.some fun t ht=>by cases ht) fun e=>Pt.bd (awE fu x ?_) fun⟨_,_⟩ h=>Pt.some h
 replace h:(rd (2*s.size+1) s.data.toList).1=x:=h (MG e) _ (Nat.le_refl _)
 rw [← h]
 exact hs.2
theorem ar9{s:Y}(hs:s.size≤1099511627776)(h:NT s.data.toList=true):M2 s:=⟨hs,as4 ((atR _).1 _ h).1⟩
structure V6 (s:ByteArray) (c:Nat):Prop where
 n:s.size≤1099511627776
 le:c≤s.size
 nl: ∀j,j<c→(wG s j).toNat≠10
 st:c=s.size∨(wG s c).toNat=10
 fst:M2 (s.extract 0 c)
 rest:NT (s.data.toList.drop (c+1))=true
theorem asJ(fu:Nat){s:Y}{c:Nat}(hs:V6 s c):Pt (wB fu s 10) fun l=> ∀x∈l,M2 x:=by
 obtain⟨hn,hle,hnl,hst,hf,hr⟩:=hs
 unfold wB
 refine Pt.so (E:=fun v=> ∀x∈v.1,M2 x) (Pt.loopW (fun v=>(∀x∈v.1,M2 x)∧((v.2.1=0∧0≤v.2.2∧v.2.2≤(c:Int))∨(c:Int)<v.2.1)) ?_ fu _ ⟨by simp,.inl ⟨rfl,Int.le_refl _,by show(0:Int)≤_;omega⟩⟩) fun⟨_,_,_⟩ h=>Pt.some h
 rintro⟨v4,v2,v3⟩ ⟨h1,h2⟩
 dsimp only at h1 h2
 unfold MJ
 have cut:(v2=0→v3=(c:Int))→((0:Int)≤v2∧(v2:Int)≤v3∧(v3:Int)≤((s.size:Nat):Int))→(∀x∈v4++ [s.extract v2.toNat v3.toNat],M2 x)∧((aW (v3+1)=0∧0≤aW (v3+1)∧aW (v3+1)≤(c:Int))∨(c:Int)<aW (v3+1)):=fun hc hb=>by
  have hw:aW (v3+1)=v3+1:=TK _ (by omega)
  rw [hw]
  refine⟨fun x hx=>?_,.inr ?_⟩
  ·rcases List.mem_append.1 hx with h|h
   ·exact h1 x h
   ·rw [List.mem_singleton.1 h]
    rcases h2 with h2|h2
    ·rw [h2.1,hc h2.1]
     exact hf
    ·refine ar9 ?_ ?_
     ·rw [ByteArray.size_extract];omega
     ·rw [acP,List.drop_take]
      refine aqB ?_ _
      have:=aqA hr (v2.toNat-(c+1))
      rwa [List.drop_drop,show c+1+(v2.toNat-(c+1))=v2.toNat by omega] at this
  ·rcases h2 with h2|h2
   ·have:=hc h2.1;omega
   ·omega
 refine Pt.swd (fun g=>?_) fun g=>Pt.some h1
 refine Pt.swd (fun g2=>Pt.gdk fun hb=>Pt.gd (Pt.some (cut (fun e=>?_) hb))) fun g2=>Pt.gdk fun z=>Pt.swd (fun g3=>Pt.gdk fun hb=>Pt.gd (Pt.some (cut (fun e=>?_) hb))) fun g3=>Pt.some ⟨h1,?_⟩
 ·rcases h2 with h2|h2
  ·omega
  ·omega
 ·rcases h2 with h2|h2
  ·by_cases h4:v3.toNat<c
   ·have:=hnl _ h4
    have h5:(((wG s v3.toNat).toNat:Nat):Int)=10:=g3
    omega
   ·omega
  ·omega
 ·have hw:aW (v3+1)=v3+1:=TK _ (by omega)
  show(v2=0∧0≤aW (v3+1)∧aW (v3+1)≤(c:Int))∨_
  rw [hw]
  rcases h2 with h2|h2
  ·refine .inl ⟨h2.1,by omega,?_⟩
   by_cases h4:v3=(c:Int)
   ·rcases hst with h5|h5
    ·omega
    ·rw [h4,Int.toNat_natCast] at g3
     exact absurd (by rw [h5];rfl) g3
   ·omega
  ·exact .inr h2
theorem asG(fu:Nat){s:Y}{c:Nat}(hs:V6 s c):Pt (lP fu s) fun r=> ∀p∈r.1.aD3,IB p.aEi:=by
 unfold lP xK
 have h0: ∀p∈(aH.mk []).aD3,IB p.aEi:=fun p hp=>by cases hp
 refine Pt.bd (asJ fu hs) fun l hl=>Pt.so (E:=fun v:Z aN=> ∀p∈v,IB p.aEi) (Pt.loop (fun _ (v:Z aN)=> ∀p∈v,IB p.aEi) (fun _ h=>h) (fun i v hi h=>?_) _ 0 _ rfl (Nat.zero_le _) (by simp)) fun v h=>Pt.some h
 refine Pt.any fun _=>Pt.sw (fun _=>Pt.some h) fun _=>Pt.bd (asF fu _ (hl _ (cB hi))) fun⟨p,_⟩ hp=>Pt.sw (fun _=>Pt.some h0) fun _=>Pt.sw (fun _=>Pt.some h0) fun _=>Pt.gd (Pt.some fun q hq=>?_)
 rcases List.mem_append.1 hq with h1|h1
 ·exact h q h1
 ·rw [List.mem_singleton.1 h1];exact hp
structure ab7 (s:ByteArray):Prop where
 n:s.size≤3000
 nl: ∀b∈s.data.toList,b.toNat≠10
 tr:apG (rd (2*s.size+1) s.data.toList).1
def atF(l:Z UInt8):Bool:=Nat.ble l.length 3000&&(l.all (fun b=> !Nat.beq b.toNat 10)&&trB (rd (2*l.length+1) l).1)
theorem anH{s:Y}{l:Z UInt8}(hs:s.data.toList=l)(h:atF l=true):ab7 s:=by
 unfold atF at h
 rw [Bool.and_eq_true,Bool.and_eq_true,List.all_eq_true] at h
 have e:s.size=l.length:=by rw [← hs];rfl
 refine⟨by rw [e];exact Nat.le_of_ble_eq_true h.1,fun b hb e2=>?_,?_⟩
 ·rw [hs] at hb
  have:=h.2.1 b hb
  rw [e2] at this
  cases this
 ·rw [e,hs]
  exact au7 _ h.2.2
set_option maxRecDepth 100000 in
theorem auJ(fu:Nat)(c:DS):Pt (C1 fu c) fun r=>ab7 r.1:=by
 unfold C1
 refine Pt.gd (Pt.gd (Pt.gd (Pt.lt fun _ _=>Pt.sw (fun _=>?_) fun _=>?_)))
 all_goals
  repeat refine Pt.gd ?_
  refine Pt.some (anH (by
   simp only [eG,List.append_assoc]
   rfl) ?_)
  decide+kernel
theorem atZ(fu:Nat)(c:DS):Pt (N9 fu c) (PS (fun _=>False) fun r=>ZA r.1):=by
 unfold N9
 refine Pt.lt fun _ _=>Pt.sw (fun _=>?_) fun _=>Pt.sw (fun _=>?_) fun _=>Pt.sw (fun _=>?_) fun _=>Pt.sw (fun _=>?_) fun _=>Pt.sw (fun _=>?_) fun _=>Pt.sw (fun _=>?_) fun _=>?_
 all_goals exact Pt.gd (Pt.some (ZA.app (by decide+kernel) (by decide+kernel)))
theorem awC(fu:Nat)(c:DS):Pt (FZ fu c) fun r=>ZA r.1:=by
 unfold FZ
 have hp:ZA DA:=by decide+kernel
 refine Pt.so (E:=fun r=>ZA r.1) ((atZ fu c).mono fun a h=>by cases a<;>first|exact h.elim|exact h) fun⟨v1,v2⟩ h1=>Pt.gd (Pt.lt fun _ _=>Pt.lt fun y hy=>Pt.gd (Pt.gd (Pt.so (E:=fun r=>ZA r.1) ?_ fun⟨v25,v26⟩ h25=>Pt.so (E:=fun r=>ZA r.1) ?_ fun⟨v31,v32⟩ h31=>Pt.lt fun _ _=>Pt.sw (fun _=>Pt.gd (Pt.gd (Pt.some ((ZA.app h31 (by decide+kernel)).app hp)))) fun _=>Pt.gd (Pt.some (ZA.app h31 hp)))))
 ·have hg:ZA y:=by
   have key: ∀z∈([B6,B5,B4,B7,B3,CA,CB,B8,B9,BZ]:LB),ZA z:=by decide+kernel
   rw [hy]
   exact key _ (DS.pick_mem _ (by decide))
  have hm:=((ZA.app h1 (b:=n8) (by decide+kernel)).app hg).app hp
  unfold YE
  exact Pt.lt fun _ _=>Pt.sw (fun _=>Pt.gd (Pt.some (hm.app (by decide+kernel)))) fun _=>Pt.some hm
 ·unfold YF
  exact Pt.lt fun _ _=>Pt.sw (fun _=>Pt.gd (Pt.some (ZA.app h25 (by decide+kernel)))) fun _=>Pt.some h25
theorem alZ{s:Y}{j:Nat}(h:j<s.size):wG s j∈s.data.toList:=by
 unfold wG
 rw [getElem?_pos s j h]
 exact List.getElem_mem (l:=s.data.toList) h
theorem V9{a b:Y}{j:Nat}(h:j<a.size):wG (a++b) j=wG a j:=by
 unfold wG
 have h2:j<(a++b).size:=by rw [ByteArray.size_append];omega
 rw [getElem?_pos _ j h2,getElem?_pos a j h]
 show(some ((a++b).data.toList[j]'h2)).getD 0=(some (a.data.toList[j]'h)).getD 0
 simp only [eG,Option.getD_some]
 exact List.getElem_append_left h
theorem arE{s:Y}(h:ab7 s):V6 s s.size where
 n:=by have:=h.n;omega
 le:=Nat.le_refl _
 nl:=fun j hj=>h.nl _ (alZ hj)
 st:= .inl rfl
 fst:=by
  have:s.extract 0 s.size=s:=ByteArray.ext (Array.toList_inj.1 (by rw [acP,List.drop_zero];exact List.take_of_length_le (Nat.le_refl s.data.toList.length)))
  rw [this]
  exact⟨by have:=h.n;omega,h.tr⟩
 rest:=by
  have:s.data.toList.drop (s.size+1)= []:=List.drop_of_length_le (Nat.le_succ s.data.toList.length)
  rw [this];rfl
theorem arF{s a:Y}(h:ab7 s)(ha:ZA a)(hn:((s++VC)++a).size≤1099511627776):V6 ((s++VC)++a) s.size where
 n:=hn
 le:=by rw [ByteArray.size_append,ByteArray.size_append];omega
 nl:=fun j hj=>by
  rw [V9 (by rw [ByteArray.size_append];omega),V9 hj]
  exact h.nl _ (alZ hj)
 st:= .inr (by
  have h1:s.size<(s++VC).size:=by rw [ByteArray.size_append];exact Nat.lt_succ_self _
  rw [V9 h1]
  unfold wG
  rw [getElem?_pos (s++VC) s.size h1]
  show(((s++VC).data.toList[s.size]'h1:UInt8)).toNat=10
  simp only [eG]
  rw [List.getElem_append_right (show s.data.toList.length≤s.size from Nat.le_refl s.data.toList.length)]
  simp [show s.data.toList.length=s.size from rfl])
 fst:=by
  have:((s++VC)++a).extract 0 s.size=s:=ByteArray.ext (Array.toList_inj.1 (by
   rw [acP,List.drop_zero,eG,eG,List.append_assoc]
   exact List.take_left' rfl))
  rw [this]
  exact⟨by have:=h.n;omega,h.tr⟩
 rest:=by
  rw [eG,eG,List.append_assoc]
  rw [show s.size+1=s.data.toList.length+1 from rfl,← List.drop_drop,List.drop_left' rfl]
  exact ha.1
theorem agY(fu:Nat)(c:DS):Pt (q8 fu c) fun r=> ∃k,V6 r.1 k:=by
 unfold q8
 exact Pt.bd (auJ fu c) fun⟨x2,x3⟩ h=>Pt.lt fun _ _=>Pt.sw (fun _=>Pt.some ⟨_,arE h⟩) fun _=>Pt.gd (Pt.bd (awC fu _) fun⟨x9,x10⟩ ha=>Pt.gdk fun hn=>Pt.some ⟨_,arF h ha (by rw [ByteArray.size_append];exact hn)⟩)
theorem apV: ∀q∈([eC]:LB),EO q:=fun q hq=> .inr (List.mem_singleton.1 hq)
theorem aqG(fu:Nat)(c:DS):Pt (zE fu c) fun r=> ∀q∈r.1.aEc,EO q:=by
 unfold zE
 have hC: ∀ {α:Type} {d:DS} {k:Bool} {P:α→Prop},Pt (lt d fun _=>sw k (some (.inr ([eC]:LB):α⊕LB)) (some (.inr ([])))) (PS P fun v=> ∀q∈v,EO q):=Pt.lt fun _ _=>Pt.sw (fun _=>Pt.some apV) fun _=>Pt.some fun q hq=>by cases hq
 refine Pt.any fun _=>Pt.lt fun _ _=>Pt.lt fun _ _=>Pt.lt fun _ _=>Pt.any fun _=>Pt.sw (fun _=>Pt.sw (fun _=>Pt.lt fun _ _=>Pt.any fun _=>Pt.any fun _=>Pt.any fun _=>Pt.gd (Pt.so hC fun v h=>Pt.lt fun _ _=>Pt.sw (fun _=>Pt.lt fun _ _=>Pt.lt fun _ _=>Pt.any fun _=>Pt.some h) fun _=>Pt.some h)) fun _=>Pt.lt fun _ _=>Pt.so hC fun v h=>Pt.lt fun _ _=>Pt.sw (fun _=>Pt.lt fun _ _=>Pt.lt fun _ _=>Pt.any fun _=>Pt.some h) fun _=>Pt.some h) fun _=>Pt.so (E:=fun _=>True) ?_ fun v55 _=>Pt.so hC fun v h=>Pt.lt fun _ _=>Pt.sw (fun _=>Pt.some h) fun _=>Pt.sw (fun _=>Pt.lt fun _ _=>Pt.lt fun _ _=>Pt.some h) fun _=>Pt.sw (fun _=>Pt.gd (Pt.some fun q hq=>?_)) fun _=>Pt.sw (fun _=>Pt.gd (Pt.lt fun _ _=>Pt.gd (Pt.some h))) fun _=>Pt.some h
 ·unfold QK
  exact Pt.lt fun _ _=>Pt.sw (fun _=>Pt.any fun _=>Pt.any fun _=>Pt.any fun _=>Pt.gd (Pt.some trivial)) fun _=>Pt.some trivial
 ·rcases List.mem_append.1 hq with h1|h1
  ·exact h q h1
  ·exact apV q h1
theorem asE(fu:Nat)(c:DS):Pt (xR fu c) fun r=>IB r.1.aEi:=by
 unfold xR OA
 refine Pt.lt fun _ _=>Pt.so (E:=fun v:(Z aU)×(Z aM)×(Z aI)×(Z aO)×DS=>IB v.1) (Pt.loop (fun _ (v:(Z aU)×(Z aM)×(Z aI)×(Z aO)×DS)=>IB v.1) (fun _ h=>h) (fun i ⟨v9,v10,v11,v12,v4⟩ _ h=>?_) _ 0 _ rfl (Nat.zero_le _) (fun t ht=>by cases ht)) fun⟨v9,v10,v11,v12,v4⟩ h=>?_
 ·exact Pt.lt fun _ _=>Pt.sw (fun _=>Pt.bd (aqG fu _) fun⟨_,_⟩ ht=>Pt.gd (Pt.some (ab4 h ht))) fun _=>Pt.sw (fun _=>Pt.any fun⟨_,_⟩=>Pt.gd (Pt.some h)) fun _=>Pt.sw (fun _=>Pt.any fun⟨_,_⟩=>Pt.gd (Pt.some h)) fun _=>Pt.any fun⟨_,_⟩=>Pt.gd (Pt.some h)
 ·exact Pt.lt fun _ _=>Pt.sw (fun _=>Pt.lt fun _ _=>Pt.lt fun _ _=>Pt.some h) fun _=>Pt.sw (fun _=>Pt.lt fun _ _=>Pt.lt fun _ _=>Pt.gd (Pt.some h)) fun _=>Pt.some h
theorem aqM(fu:Nat)(c:DS):Pt (oZ fu c) fun r=> ∀p∈r.1.aD3,IB p.aEi:=by
 unfold oZ C3
 refine Pt.bd (Q:=fun r=> ∀p∈r.1.aD3,IB p.aEi) (Pt.bd (agY fu c) fun⟨_,_⟩ ⟨k,hk⟩=>Pt.bd (asG fu hk) fun⟨_,_⟩ h=>Pt.some h) fun⟨_,_⟩ h=>Pt.lt fun _ _=>Pt.sw (fun _=>Pt.bd (asE fu _) fun⟨_,_⟩ hp=>Pt.gd (Pt.some fun q hq=>?_)) fun _=>Pt.some h
 rcases List.mem_append.1 hq with h1|h1
 ·exact h q h1
 ·rw [List.mem_singleton.1 h1];exact hp
theorem ao3{fu:Nat}{c:DS}{r:aH×DS}(h:oZ fu c=some r):MA r.1:=MA.of (aqM fu c r h)
end Go.Proofs.YtfcoaagbccmahaaGreat.W

namespace Go.Proofs.YtfcoaagbccmahaaGreat.W
set_option maxRecDepth 20000
set_option maxHeartbeats 4000000
open Go.RowKit Go.WalkArith Go.IntWalk
attribute [local irreducible] wt wl lt
def afQ(fu:Nat):Prop:= ∀(pc:DS),Ok (JV fu pc) (fun r=>wl r.1≤900)
theorem agM:bR afQ:=((bR.ge 2147483648).and eT).imp fun fu ⟨hfu,eT⟩ pc=>by
 refine Ok.lt fun d1 h1=>?_
 have:=DS.below_lt pc (n:=3) (by decide)
 have:=(aX:wl ([]:Z aF)=0∧_)
 refine Ok.sok (E:=fun(v6,v5)=>wl v6≤300) ?_ ?_
 ·refine Ok.loop0 (fun i3 (v6,v5)=>wl v6≤100*i3∧i3≤3) (by exact bU) (by rintro i3 ⟨v6,v5⟩-hI;(try dsimp only at hI ⊢);omega) ?_;rintro i3 ⟨v6,v5⟩ hl3 hI4
  dsimp only at hI4
  have:bD.size=4:=rfl
  have:eC.size=3:=rfl
  have:eB.size=3:=rfl
  have:=GP bD eC eB
  have:=aZ bD
  have:=aZ eC
  have:=aZ eB
  refine Ok.lt fun d9 h5=>Ok.lt fun y11 h6=>?_
  have:=congrArg wt h6
  simp only [aZ] at this
  have:y11.size≤4:=by rw [h6];exact DS.pick_size _ (by decide) (by decide)
  have:gA.size=1:=rfl
  have:AD.size=1:=rfl
  have:=lJ gA AD
  have:=aZ gA
  have:=aZ AD
  refine Ok.lt fun d13 h7=>Ok.lt fun y15 h8=>?_
  have:=congrArg wt h8
  simp only [aZ] at this
  have:y15.size≤1:=by rw [h8];exact DS.pick_size _ (by decide) (by decide)
  refine oB (eT y15) fun x18 h9=>?_
  have:=bA (v6)
  have:=aF.wt_mk y11 x18
  have:=cH (aF.mk y11 x18)
  refine oG fun z10=>?_
  have:=b6 v6 ([(aF.mk y11 x18)]:Z aF)
  exact rE
 rintro⟨v6,v5⟩ h2
 dsimp only at h2
 exact oS
def ajB(fu:Nat):Prop:= ∀(pc:DS),Ok (C7 fu pc) (fun r=>wt r.1≤100000)
theorem ajW:bR ajB:=((((bR.ge 2147483648).and rV).and lL).and dY).imp fun fu ⟨⟨⟨hfu,rV⟩,lL⟩,dY⟩ pc=>by
 have:=al1 3 (by decide)
 have:=al1 2 (by decide)
 have:gA.size=1:=rfl
 have:AD.size=1:=rfl
 have:=lJ gA AD
 have:=aZ gA
 have:=aZ AD
 refine wJ (rV pc ([gA,AD]:LB) 3 bU) fun x2 x3 h1=>?_
 dsimp only at h1
 refine Ok.lt fun d4 h2=>?_;refine oC (fun g3=>?_) fun g3=>?_
 ·refine wJ (lL d4 2 bU) fun x8 x9 h4=>?_
  dsimp only at h4
  have:bD.size=4:=rfl
  have:jZ.size=2:=rfl
  have:eC.size=3:=rfl
  have:eB.size=3:=rfl
  have:j8.size=4:=rfl
  have:wK.size=2:=rfl
  have:=anZ bD bD jZ eC eB j8 wK
  have:=aZ bD
  have:=aZ jZ
  have:=aZ eC
  have:=aZ eB
  have:=aZ j8
  have:=aZ wK
  refine Ok.lt fun d10 h5=>Ok.lt fun y12 h6=>?_
  have:=congrArg wt h6
  simp only [aZ] at this
  have:y12.size≤4:=by rw [h6];exact DS.pick_size _ (by decide) (by decide)
  have:=aF.wt_mk y12 x8
  exact oS
 refine oC (fun g7=>?_) fun g7=>?_
 ·have:JN.size=3:=rfl
  have:=(aX:wl ([]:Z aA)=0∧_)
  refine oB (dY JN ([]:Z aA) bU) fun x16 h8=>?_
  have:bD.size=4:=rfl
  have:jZ.size=2:=rfl
  have:eC.size=3:=rfl
  have:eB.size=3:=rfl
  have:j8.size=4:=rfl
  have:wK.size=2:=rfl
  have:=anZ bD bD jZ eC eB j8 wK
  have:=aZ bD
  have:=aZ jZ
  have:=aZ eC
  have:=aZ eB
  have:=aZ j8
  have:=aZ wK
  refine Ok.lt fun d17 h9=>Ok.lt fun y19 h10=>?_
  have:=congrArg wt h10
  simp only [aZ] at this
  have:y19.size≤4:=by rw [h10];exact DS.pick_size _ (by decide) (by decide)
  have:=aF.wt_mk y19 x16
  exact oS
 refine oC (fun g11=>?_) fun g11=>?_
 ·have:JN.size=3:=rfl
  have:eY.size=3:=rfl
  have:eQ.size=4:=rfl
  have:=GP JN eY eQ
  have:=aZ JN
  have:=aZ eY
  have:=aZ eQ
  refine Ok.lt fun d22 h12=>Ok.lt fun y24 h13=>?_
  have:=congrArg wt h13
  simp only [aZ] at this
  have:y24.size≤4:=by rw [h13];exact DS.pick_size _ (by decide) (by decide)
  have:=(aX:wl ([]:Z aA)=0∧_)
  refine oB (dY y24 ([]:Z aA) bU) fun x27 h14=>?_
  have:cM.size=4:=rfl
  have:=cH x27
  refine oB (dY cM ([x27]:Z aA) bU) fun x29 h15=>?_
  have:bD.size=4:=rfl
  have:jZ.size=2:=rfl
  have:eC.size=3:=rfl
  have:eB.size=3:=rfl
  have:j8.size=4:=rfl
  have:wK.size=2:=rfl
  have:=anZ bD bD jZ eC eB j8 wK
  have:=aZ bD
  have:=aZ jZ
  have:=aZ eC
  have:=aZ eB
  have:=aZ j8
  have:=aZ wK
  refine Ok.lt fun d30 h16=>Ok.lt fun y32 h17=>?_
  have:=congrArg wt h17
  simp only [aZ] at this
  have:y32.size≤4:=by rw [h17];exact DS.pick_size _ (by decide) (by decide)
  have:=aF.wt_mk y32 x29
  exact oS
 have:bD.size=4:=rfl
 have:jZ.size=2:=rfl
 have:eC.size=3:=rfl
 have:eB.size=3:=rfl
 have:j8.size=4:=rfl
 have:wK.size=2:=rfl
 have:=anZ bD bD jZ eC eB j8 wK
 have:=aZ bD
 have:=aZ jZ
 have:=aZ eC
 have:=aZ eB
 have:=aZ j8
 have:=aZ wK
 refine Ok.lt fun d34 h18=>Ok.lt fun y36 h19=>?_
 have:=congrArg wt h19
 simp only [aZ] at this
 have:y36.size≤4:=by rw [h19];exact DS.pick_size _ (by decide) (by decide)
 have:=aF.wt_mk y36 x2
 exact oS
end Go.Proofs.YtfcoaagbccmahaaGreat.W

namespace Go.Proofs.YtfcoaagbccmahaaGreat.W
open Go.RowKit Go.WalkArith Go.Proofs
theorem au3{w:aH}(hw:wt w≤13000000){l:Z aF}(hl:wl l≤900):OX w l:=⟨hw,by have:=bA l;omega,fun b hb=>iV.of (by
 have h1:=C9 hb
 have h2:=aF.wt_eq b
 rw [O0]
 omega)⟩
theorem avU(fu:Nat)(c:Int): ∃y,s3 fu c=some y∧tE fu c=some y:=by
 unfold s3 tE BA
 by_cases h1:c<0
 ·refine⟨arN,hH (decide_eq_true h1) rfl,gD (fZ (decide_eq_false (by omega)) rfl) rfl⟩
 ·by_cases h2:c≥4
  ·refine⟨arN,fZ (decide_eq_false h1) (hH (decide_eq_true h2) rfl),gD (hH (decide_eq_true (by omega)) (congrArg some (decide_eq_false (by omega)))) rfl⟩
  ·refine⟨aR ([X6,sH,fU,eR]:LB) c.toNat,fZ (decide_eq_false h1) (fZ (decide_eq_false h2) (jC ⟨by omega,by show _<4;omega⟩ rfl)),gD (hH (decide_eq_true (by omega)) (congrArg some (decide_eq_true (by omega)))) (fZ rfl (jC ⟨by omega,by show _<4;omega⟩ rfl))⟩
theorem aoX(code:Z UInt8): ∃fu,NP fu code=some true:=by
 obtain⟨fu,⟨⟨hfu,kW⟩,kL⟩,kG⟩:=((((bR.ge 2147483648).and agL).and agM).and ajW).get
 refine⟨fu,?_⟩
 unfold NP ajX
 by_cases hb:code.length≤1048576
 ·refine fZ (decide_eq_false (by omega)) ?_
  obtain⟨⟨w,d⟩,hr,hw⟩:=kW (DS.start code)
  replace hw:wt w≤13000000:=hw
  obtain⟨⟨l,d2⟩,hl,hl2⟩:=kL d
  replace hl2:wl l≤900:=hl2
  obtain⟨⟨g,d3⟩,hg,hg2⟩:=kG d2
  replace hg2:wt g≤100000:=hg2
  have hgt:=aF.wt_eq g
  have hd:A0 fu code=some (w,l,g):=by
   have hA:G9 fu code=some (w,l,g):=by
    unfold G9
    exact jC hb (gD hr (gD hl (gD hg rfl)))
   unfold A0
   exact gD hA rfl
  have hS:=au3 hw hl2
  have hO:WOk w:=asN fu _ _ hr
  have hn:NI g.aD6:=auM fu _ _ hg
  have he:=au4 (arK hO) l hn
  have hz:wt (aF.aD6 g)≤13000000:=by omega
  refine gD hd (jC hS (jC hz ?_))
  rw [he]
  obtain⟨y,y1,y2⟩:=avU fu (sT w l g).2
  refine fZ (by simp) (fZ (by rw [anK];rfl) (gD y1 (gD y2 (fZ (by simp) ?_))))
  by_cases h0:(sT w l g).2=0
  ·have hC:alQ w l (sT w l g).1 g:=⟨hS,hz,ao3 hr,fun o ho=>by
    obtain⟨p,hp,hx⟩:=M8 ho
    exact((hO p hp).2 _ hx).n,rfl,h0⟩
   refine fZ (nd0 h0) (jC (amO hC).vl (hH rfl ?_))
   by_cases h4:((l.length:Nat):Int)>4
   ·exact hH (decide_eq_true h4) rfl
   ·exact fZ (decide_eq_false h4) (jC hC rfl)
  ·exact hH (nd1 h0) rfl
 ·exact hH (decide_eq_true (by omega)) rfl
theorem aq6(code:Z UInt8):bS Tryz.prog 4 [rU code] (pB true):=let⟨fu,h⟩:=aoX code;agN fu code true h
end Go.Proofs.YtfcoaagbccmahaaGreat.W
