/- Rules. No conditions. -/
import Derived.Test.YtfcoaagbccmahaaGreatQhac8e210e
set_option linter.unusedSimpArgs false
set_option linter.unusedVariables false
namespace Go.Proofs.YtfcoaagbccmahaaGreat.W
set_option maxRecDepth 100000
set_option maxHeartbeats 40000000
noncomputable section
open Tryz Go.RowKit Go.Proofs
attribute [local irreducible] lt
def eF(fu:Nat)(px:aB)(pi:Int):J aB:=sw (decide (pi≥(px.aFv.length:Int))) (some (aB.mk s_ [])) (gd (0≤pi∧(pi).toNat<(px.aFv).length) (some (aR px.aFv ((pi).toNat))))
theorem dP(fu:Nat)(px:aB)(pi:Int)(r:aB)(H:eF fu px pi=some r):bU prog 175 [(aB.pv px),pI pi] ((aB.pv r)):=by
 refine qJ func175 H (fun C hC H=>?_)
 refine gQ 2 ?_;refine q1 (fQ ([pS px.aFy,bM px.aFv])) ?_;refine gQ 11 ?_;refine bG H (fun h1 H=>gE 5) fun h1 H=>?_;refine gQ 6 ?_;refine cB H fun z2 H=>(q1 (rIy z2 EB.h) (q1 (gZ (aB.cs (aR px.aFv ((pi).toNat)))) ?_))
 exact gE 2
def oP(fu:Nat)(px:aB):J ((LB)):=bd (D0 fu px.aFv) fun(x2,x3)=>some x2
theorem rM(fu:Nat)(px:aB)(r:(LB))(H:oP fu px=some r):bU prog 216 [(aB.pv px)] (rS r):=by
 refine qJ func216 H (fun C hC H=>?_)
 refine gQ 2 ?_;refine q1 (fQ ([pS px.aFy,bM px.aFv])) ?_;refine gQ 6 ?_;refine eX H fun x2 x3 z1 H=>(q1 (bJ func174 (LG fu px.aFv _ z1)) ?_)
 exact gE 11
def yU(fu:Nat)(px:aB)(pi:Int):J ((Z aB)):=bd (tL fu pi (px.aFv.length:Int)) fun x2=>gd ((0:Int)≤x2∧(x2:Int)≤(px.aFv.length:Int)∧(px.aFv.length:Int)≤(px.aFv.length:Int)) (some (List.drop (x2:Int).toNat (List.take (px.aFv.length:Int).toNat px.aFv)))
theorem EU(fu:Nat)(px:aB)(pi:Int)(r:(Z aB))(H:yU fu px pi=some r):bU prog 217 [(aB.pv px),pI pi] (bM r):=by
 refine qJ func217 H (fun C hC H=>?_)
 refine gQ 2 ?_;refine q1 (fQ ([pS px.aFy,bM px.aFv])) ?_;refine gQ 3 ?_;refine bN H fun x2 z1 H=>(cB H fun z3 H=>(dW (dI [2] bW (dD [5] eG (dI [1] bI (dI [2] bW (dD [8] eG (dI [9] tLn (dI [7,10] (bJ func234 (t3 fu pi (px.aFv.length:Int) _ z1)) ?_)))))))))
 refine dI [6,11] (jP (jQ (es:=aB.trs (px.aFv)) (l:=x2) (k:=(px.aFv.length:Int)) rfl rfl rfl rfl rfl (by rw [aB.tl];exact rfl) (by rw [aB.tl];exact z3) EB.h) (aB.tq _ _ _)) ?_;refine dI [12] bI (dN ?_)
 exact gE 0
def anY(fu:Nat)(p1:Z aB):Nat→((Z aA))→J (LR ((Z aA)) ((Z aA))):=fun i1 v3=>bd (oV fu (aR p1 i1)) fun x7=>gd ((v3).length+(([x7]:Z aA)).length≤68719476736) (some (.next (v3++([x7]:Z aA))))
def ML(fu:Nat)(p1:Z aB):J ((Z aA)):=so (loopN (anY fu p1) (p1.length-0) 0 ([])) fun v3=>some v3
theorem aa1(fu:Nat)(p1:Z aB)(r:(Z aA))(H:ML fu p1=some r):bU prog 218 [bM p1] (aV r):=by
 refine qJ func218 H (fun C hC H=>?_)
 refine gQ 6 ?_;refine q1 (sM ([]:Z aA)) ?_;refine gQ 7 ?_;refine gV 0 (aB.tl _) (fun hl4=>?_)
 refine bV (σ:=(Z aA)) (fun i1 v3=>⟨[(0,bM p1),(2,.nil),(3,jO v3 0),(4,pN i1)],⟨[],[⟨30,3,aA.trs (v3),false⟩]⟩⟩) (fun v3=>⟨[(2,.nil),(3,jO v3 0)],⟨[],[⟨30,3,aA.trs (v3),false⟩]⟩⟩) (fA H) ?_ ?_
 ·rintro i1 v3 H
  refine gQ 8 ?_;refine cZ H (fun h5 h5l H=>?_) (fun h5 H=>?_)
  ·refine gQ 8 ?_;refine q1 (gZ (aB.cs (aR p1 i1))) (bN H fun x7 z6 H=>(q1 (bJ func219 (AQ fu (aR p1 i1) _ z6)) (q1 (iL ([x7]:Z aA)) (cB H fun z8 H=>(q1 (lO z8) ?_)))))
   exact gE 7
  exact gE 0
 rintro v3 H
 exact gE 5
def mT(fu:Nat)(p1:LB):J aB:=bd (I7 fu p1) fun x2=>some (aB.mk s_ x2)
theorem oQ(fu:Nat)(p1:LB)(r:aB)(H:mT fu p1=some r):bU prog 240 [rS p1] ((aB.pv r)):=by
 refine qJ func240 H (fun C hC H=>?_)
 refine gQ 7 ?_;refine bN H fun x2 z1 H=>(q1 (bJ func254 (V7 fu p1 _ z1)) ?_)
 exact gE 3
def agZ(fu:Nat)(p1:Z aA):Nat→((Z aB))→J (LR ((Z aB)) ((Z aB))):=fun i1 v3=>bd (oU fu (aR p1 i1)) fun x7=>gd ((v3).length+(([x7]:Z aB)).length≤68719476736) (some (.next (v3++([x7]:Z aB))))
def EV(fu:Nat)(p1:Z aA):J ((Z aB)):=so (loopN (agZ fu p1) (p1.length-0) 0 ([])) fun v3=>some v3
theorem SB(fu:Nat)(p1:Z aA)(r:(Z aB))(H:EV fu p1=some r):bU prog 241 [aV p1] (bM r):=by
 refine qJ func241 H (fun C hC H=>?_)
 refine gQ 6 ?_;refine q1 (sM ([]:Z aB)) ?_;refine gQ 7 ?_;refine gV 0 (aA.tl _) (fun hl4=>?_)
 refine bV (σ:=(Z aB)) (fun i1 v3=>⟨[(0,aV p1),(2,.nil),(3,eW v3 0),(4,pN i1)],⟨[],[⟨189,2,aB.trs (v3),false⟩]⟩⟩) (fun v3=>⟨[(2,.nil),(3,eW v3 0)],⟨[],[⟨189,2,aB.trs (v3),false⟩]⟩⟩) (fA H) ?_ ?_
 ·rintro i1 v3 H
  refine gQ 8 ?_;refine cZ H (fun h5 h5l H=>?_) (fun h5 H=>?_)
  ·refine gQ 8 ?_;refine q1 (gZ (aA.cs (aR p1 i1))) (bN H fun x7 z6 H=>(q1 (bJ func242 (AP fu (aR p1 i1) _ z6)) (q1 (iL ([x7]:Z aB)) (cB H fun z8 H=>(q1 (lO z8) ?_)))))
   exact gE 7
  exact gE 0
 rintro v3 H
 exact gE 5
def G6(fu:Nat)(p2:Bool)(px:aB):J aB:=sw (!(p2)) (some (aB.mk s_ [])) (bd (jM fu px) fun x3=>sw (!(x3)) (some (aB.mk s_ [])) (some px))
theorem MK(fu:Nat)(p2:Bool)(px:aB)(r:aB)(H:G6 fu p2 px=some r):bU prog 244 [pB p2,(aB.pv px)] ((aB.pv r)):=by
 refine qJ func244 H (fun C hC H=>?_)
 refine gQ 2 ?_;refine q1 (fQ ([pS px.aFy,bM px.aFv])) ?_;refine gQ 8 ?_;refine dY 7 H (fun g1 H=>gE 11) fun g1 H=>?_;refine qg g1 (b4 [pS px.aFy,bM px.aFv]) (bN H fun x3 z2 H=>(qg g1 (bJ func173 (eA fu px _ z2)) ?_))
 refine gQ 3 ?_;refine bG H (fun h4 H=>gE 5) fun h4 H=>?_;refine gQ 3 ?_;refine q1 (b4 [pS px.aFy,bM px.aFv]) ?_;exact gE 2
def UQ(fu:Nat)(p0:aZ)(x2:Bool):J (aB⊕((LB))):=sw (p0.aF1) (gd (([]:LB).length+(([DP]:LB)).length≤68719476736) (some (.inr (([])++([DP]:LB))))) (some (.inr ([])))
def UR(fu:Nat)(p0:aZ)(x2:Bool)(v5:LB):J (aB⊕((LB))):=sw (p0.aFR) (gd ((v5).length+(([kK]:LB)).length≤68719476736) (some (.inr (v5++([kK]:LB))))) (some (.inr v5))
def US(fu:Nat)(p0:aZ)(x2:Bool)(v5 v9:LB)(x13 x15 x17 x19 x21:aB):Nat→((Z aB))→J (LR ((Z aB)) aB):=fun i22 v24=>lt (aR p0.aFQ i22) fun y27=>bd (cN fu y27.aFs) fun x30=>bd (EV fu y27.aFO) fun x32=>bd (oU fu y27.aFM) fun x34=>bd (nU fu ([x30,(aB.mk s_ x32),x34]:Z aB)) fun x36=>sw (y27.aF3) (bd (mT fu y27.aFH) fun x39=>bd (oO fu y27.aFE) fun x41=>gd ((x36.aFv).length+(([x39,x41]:Z aB)).length≤68719476736) (gd ((v24).length+(([(aB.mk x36.aFy (x36.aFv++([x39,x41]:Z aB)))]:Z aB)).length≤68719476736) (some (.next (v24++([(aB.mk x36.aFy (x36.aFv++([x39,x41]:Z aB)))]:Z aB)))))) (gd ((v24).length+(([(aB.mk x36.aFy x36.aFv)]:Z aB)).length≤68719476736) (some (.next (v24++([(aB.mk x36.aFy x36.aFv)]:Z aB)))))
def BB(fu:Nat)(p0:aZ):J aB:=bd (uV fu p0) fun x2=>sw (!(x2)) (some (aB.mk s_ [])) (so (UQ fu p0 x2) fun v5=>so (UR fu p0 x2 v5) fun v9=>bd (cN fu MI) fun x13=>bd (cN fu p0.aFs) fun x15=>bd (mT fu p0.aFD) fun x17=>bd (mT fu v9) fun x19=>bd (nU fu ([x13,x15,x17,x19]:Z aB)) fun x21=>so (loopN (US fu p0 x2 v5 v9 x13 x15 x17 x19 x21) (p0.aFQ.length-0) 0 x21.aFv) fun v24=>bd (G6 fu true (aB.mk x21.aFy v24)) fun x46=>some x46)
theorem UT(fu:Nat)(p0:aZ)(r:aB)(H:BB fu p0=some r):bU prog 222 [(aZ.pv p0)] ((aB.pv r)):=by
 refine qJ func222 H (fun C hC H=>?_)
 refine gQ 2 ?_;refine q1 (fQ (t9 p0)) ?_;refine gQ 5 ?_;refine q1 (b4 [pS p0.aFs,rS p0.aFD,pB p0.aF1,pB p0.aFR,iF p0.aFQ]) (bN H fun x2 z1 H=>(q1 (bJ func229 (G2 fu p0 _ z1)) ?_))
 refine gQ 2 ?_;refine bG H (fun h3 H=>gE 5) fun h3 H=>?_;refine gQ 3 ?_;refine q1 (sM ([]:LB)) ?_;refine gQ 3 ?_;refine qY (σ:=(LB)) (fun v5=>⟨[(1,.ptr 0 0),(2,.ptr 1 0),(3,aS v5 0)],⟨[some ⟨156,t9 p0⟩,some ⟨189,[pS s_,.nil]⟩],[⟨9,1,bA (v5),false⟩]⟩⟩) (fA H) (fun H=>?_) ?_
 ·refine gQ 5 ?_;refine bG H (fun h6 H=>?_) (fun h6 H=>?_)
  ·refine gQ 2 ?_;refine q1 (iL ([DP]:LB)) (cB H fun z7 H=>(q1 (lO z7) ?_))
   exact gE 2
  exact gE 1
 rintro v5 H
 refine qS ?_;refine qY (σ:=(LB)) (fun v9=>⟨[(1,.ptr 0 0),(2,.ptr 1 0),(3,aS v9 0)],⟨[some ⟨156,t9 p0⟩,some ⟨189,[pS s_,.nil]⟩],[⟨9,1,bA (v9),false⟩]⟩⟩) (fA H) (fun H=>?_) ?_
 ·refine gQ 5 ?_;refine bG H (fun h10 H=>?_) (fun h10 H=>?_)
  ·refine gQ 2 ?_;refine q1 (iL ([kK]:LB)) (cB H fun z11 H=>(q1 (lO z11) ?_))
   exact gE 2
  exact gE 1
 rintro v9 H
 refine qS (bN H fun x13 z12 H=>(bN H fun x15 z14 H=>(bN H fun x17 z16 H=>(bN H fun x19 z18 H=>(bN H fun x21 z20 H=>(dWa (dI [] (bJ func239 (cD fu MI _ z12)) (dI [1] bW (dBz [24] 0 0 tP (dI [25] (bJ func239 (cD fu p0.aFs _ z14)) (dI [1] bW (dBz [27] 0 0 tP (dI [28] (bJ func240 (oQ fu p0.aFD _ z16)) ?_)))))))))))))
 refine dI [3] bI (dI [30] (bJ func240 (oQ fu v9 _ z18)) (dI [23,26,29,31] (iL ([x13,x15,x17,x19]:Z aB)) ?_))
 refine dEz [32] (fun _ z=>by cases z<;>exact WT (B:= []) (R:=fun k=> .agg [pS x21.aFy,eW x21.aFv k]) (ps:= [_]) (qs:= [bM ([x13,x15,x17,x19]:Z aB)]) func238 (fun k k'=>(.agg (.cons (.free _ rfl) (.cons Mv.acc JE.nil)))) (o9 fu ([x13,x15,x17,x19]:Z aB) _ z20) rfl rfl rfl rfl rfl rfl) ?_;refine dA (fun _ st h=>vAl h aeW.h) (dZ 4 [4,33] hY (dN ?_))
 refine gQ 5 ?_;refine dR.fact (cP 0 4 rfl rfl rfl (aG.tl _)) (fun hl25=>?_)
 refine bV (σ:=(Z aB)) (fun i22 v24=>⟨[(1,.ptr 0 0),(2,.ptr 1 0),(4,.ptr 2 0),(5,pN i22)],⟨[some ⟨156,t9 p0⟩,some ⟨189,[pS s_,.nil]⟩,some ⟨189,[pS x21.aFy,eW v24 1]⟩],[⟨9,1,bA (v9),false⟩,⟨189,2,aB.trs (v24),false⟩]⟩⟩) (fun v24=>⟨[(2,.ptr 1 0),(4,.ptr 2 0)],⟨[some ⟨156,t9 p0⟩,some ⟨189,[pS s_,.nil]⟩,some ⟨189,[pS x21.aFy,eW v24 1]⟩],[⟨9,1,bA (v9),false⟩,⟨189,2,aB.trs (v24),false⟩]⟩⟩) (fA H) ?_ ?_
 ·rintro i22 v24 H
  refine gQ 9 ?_;refine cZ H (fun h26 h26l H=>?_) (fun h26 H=>?_)
  ·refine gQ 8 ?_;refine gM H fun y27 h28 H=>(q1 (AR h28 h26l) (q1 (gZ (aG.cs y27)) ?_))
   refine gQ 4 ?_;refine bN H fun x30 z29 H=>(bN H fun x32 z31 H=>(bN H fun x34 z33 H=>(bN H fun x36 z35 H=>(dWa (dI [6] bW (dBz [46] 0 0 tP (dI [47] (bJ func239 (cD fu y27.aFs _ z29)) (dI [6] bW (dBz [49] 0 0 tP (dI [50] (bJ func241 (SB fu y27.aFO _ z31)) (dI [51] rQ (dI [6] bW (dBz [53] 0 0 (BG [pI y27.aFM.aFw,pS y27.aFM.aFs,aV y27.aFM.aFt]) ?_)))))))))))))
   refine dI [54] (bJ func242 (AP fu y27.aFM _ z33)) (dI [48,52,55] (iL ([x30,(aB.mk s_ x32),x34]:Z aB)) ?_)
   refine dEz [56] (fun _ z=>by cases z<;>exact WT (B:= []) (R:=fun k=> .agg [pS x36.aFy,eW x36.aFv k]) (ps:= [_]) (qs:= [bM ([x30,(aB.mk s_ x32),x34]:Z aB)]) func238 (fun k k'=>(.agg (.cons (.free _ rfl) (.cons Mv.acc JE.nil)))) (o9 fu ([x30,(aB.mk s_ x32),x34]:Z aB) _ z35) rfl rfl rfl rfl rfl rfl) ?_;refine dA (fun _ st h=>vAl h aeW.h) (dZ 7 [7,57] hY (dN ?_))
   refine gQ 6 ?_;refine bG H (fun h37 H=>?_) (fun h37 H=>?_)
   ·refine bN H fun x39 z38 H=>(bN H fun x41 z40 H=>(cB H fun z42 H=>(dW (dI [7] bW (dD [60] eG (dI [6] bW (dD [62] eG (dI [63] (bJ func240 (oQ fu y27.aFH _ z38)) (dI [6] bW (dD [65] (b4 [pI y27.aFE.aFw,pS y27.aFE.aFz,pS y27.aFE.aFs,pI y27.aFE.aGa,pI y27.aFE.aFu.aFw,pS y27.aFE.aFu.aFs,aV y27.aFE.aFu.aFt,jV y27.aFE.aFt,tX y27.aFE.aFP]) (dI [66] (bJ func243 (UZ fu y27.aFE _ z40)) (dI [64,67] (iL ([x39,x41]:Z aB)) (dE [61,68] (lO z42) ?_)))))))))))))
    refine dI [7] bW (iW [70,69] hY (dN ?_))
    refine gQ 3 ?_;refine q1 (b4 [pS x36.aFy,eW (x36.aFv++([x39,x41]:Z aB)) 2]) (q1 (iL ([(aB.mk x36.aFy (x36.aFv++([x39,x41]:Z aB)))]:Z aB)) (cB H fun z43 H=>(q1 (lO z43) ?_)))
    exact gE 8
   refine gQ 4 ?_;refine q1 (b4 [pS x36.aFy,eW x36.aFv 2]) (q1 (iL ([(aB.mk x36.aFy x36.aFv)]:Z aB)) (cB H fun z44 H=>(q1 (lO z44) ?_)))
   exact gE 8
  exact gE 0
 rintro v24 H
 refine gQ 2 ?_;refine q1 (b4 [pS x21.aFy,eW v24 1]) (bN H fun x46 z45 H=>(q1 (bJ func244 (MK fu true (aB.mk x21.aFy v24) _ z45)) ?_))
 exact gE 2
def UO(fu:Nat)(p0 x2:aB)(x4:LB)(x6 x8:aB)(x10:LB)(x12 x14:Bool)(x16:Z aB):Nat→((Z aG))→J (LR ((Z aG)) (aZ×Bool)):=fun i17 v19=>bd (eF fu (aR x16 i17) 0) fun x23=>bd (eF fu (aR x16 i17) 1) fun x25=>bd (ML fu x25.aFv) fun x27=>bd (eF fu (aR x16 i17) 2) fun x29=>bd (oV fu x29) fun x31=>sw (decide ((((((aR x16 i17).aFv).length:Nat):Int):Int)>3)) (bd (eF fu (aR x16 i17) 3) fun x34=>bd (oP fu x34) fun x36=>bd (eF fu (aR x16 i17) 4) fun x38=>bd (iZ fu x38) fun x40=>gd ((v19).length+(([(aG.mk x23.aFy x27 x31 true x36 x40)]:Z aG)).length≤68719476736) (some (.next (v19++([(aG.mk x23.aFy x27 x31 true x36 x40)]:Z aG))))) (gd ((v19).length+(([(aG.mk x23.aFy x27 x31 false [] (aM.mk 0 s_ s_ 0 (aA.mk 0 s_ []) [] []))]:Z aG)).length≤68719476736) (some (.next (v19++([(aG.mk x23.aFy x27 x31 false [] (aM.mk 0 s_ s_ 0 (aA.mk 0 s_ []) [] []))]:Z aG)))))
def BA(fu:Nat)(p0:aB):J (aZ×Bool):=bd (eF fu p0 3) fun x2=>bd (oP fu x2) fun x4=>bd (eF fu p0 1) fun x6=>bd (eF fu p0 2) fun x8=>bd (oP fu x8) fun x10=>bd (mL fu x4 DP) fun x12=>bd (mL fu x4 kK) fun x14=>bd (yU fu p0 4) fun x16=>so (loopN (UO fu p0 x2 x4 x6 x8 x10 x12 x14 x16) (x16.length-0) 0 ([])) fun v19=>bd (jM fu p0) fun x44=>sw (!(x44)) (some ((aZ.mk s_ [] false false []),false)) (sw (decide ((p0.aFv.length:Int)=0)) (some ((aZ.mk s_ [] false false []),false)) (bd (BB fu (aZ.mk x6.aFy x10 x12 x14 v19)) fun x48=>bd (gI fu x48 p0) fun x50=>sw (!(x50)) (some ((aZ.mk s_ [] false false []),false)) (some ((aZ.mk x6.aFy x10 x12 x14 v19),true))))
theorem UP(fu:Nat)(p0:aB)(r:aZ×Bool)(H:BA fu p0=some r):bU prog 200 [(aB.pv p0)] (.tup [(aZ.pv r.1),pB r.2]):=by
 refine qJ func200 H (fun C hC H=>?_)
 refine gQ 2 ?_;refine q1 (fQ ([pS p0.aFy,bM p0.aFv])) ?_;refine gQ 5 ?_;refine q1 (b4 [pS p0.aFy,bM p0.aFv]) (bN H fun x2 z1 H=>(q1 (bJ func175 (dP fu p0 3 _ z1)) (bN H fun x4 z3 H=>(q1 (bJ func216 (rM fu x2 _ z3)) ?_))))
 refine gQ 3 ?_;refine bN H fun x6 z5 H=>(bN H fun x8 z7 H=>(bN H fun x10 z9 H=>(bN H fun x12 z11 H=>(bN H fun x14 z13 H=>(dW (dB [1] 0 1 (BG [pS p0.aFy,bM p0.aFv]) (dI [12] (bJ func175 (dP fu p0 1 _ z5)) (dI [13] tF1 (dB [1] 0 1 (BG [pS p0.aFy,bM p0.aFv]) (dI [15] (bJ func175 (dP fu p0 2 _ z7)) (dI [16] (bJ func216 (rM fu x8 _ z9)) (dI [4] bI (dI [18] (bJ func153 (nT fu x4 DP _ z11)) ?_)))))))))))))
 refine dI [4] bI (dI [20] (bJ func153 (nT fu x4 kK _ z13)) (dI [14,17,19,21] rQ (dE [] tAl (iW [5,22] hY (dN ?_)))))
 refine gQ 2 ?_;refine q1 (b4 [pS p0.aFy,bM p0.aFv]) (bN H fun x16 z15 H=>(q1 (bJ func217 (EU fu p0 4 _ z15)) ?_))
 refine gQ 7 ?_;refine kC (eY (k:=2) (j:=4) 237 16 (by decide) rfl rfl) ?_;refine gV 6 (aB.tl _) (fun hl20=>?_)
 refine bV (σ:=(Z aG)) (fun i17 v19=>⟨[(1,.ptr 0 0),(2,.ptr 1 0),(3,pB false),(5,.ptr 2 0),(6,bM x16),(7,pN i17)],⟨[some ⟨189,[pS p0.aFy,bM p0.aFv]⟩,some ⟨156,[pS s_,.nil,pB false,pB false,.nil]⟩,some ⟨156,[pS x6.aFy,rS x10,pB x12,pB x14,m9 v19 0]⟩],[⟨237,16,aG.trs (v19),false⟩]⟩⟩) (fun v19=>⟨[(1,.ptr 0 0),(2,.ptr 1 0),(3,pB false),(5,.ptr 2 0)],⟨[some ⟨189,[pS p0.aFy,bM p0.aFv]⟩,some ⟨156,[pS s_,.nil,pB false,pB false,.nil]⟩,some ⟨156,[pS x6.aFy,rS x10,pB x12,pB x14,m9 v19 0]⟩],[⟨237,16,aG.trs (v19),false⟩]⟩⟩) (fA H) ?_ ?_
 ·rintro i17 v19 H
  refine gQ 8 ?_;refine cZ H (fun h21 h21l H=>?_) (fun h21 H=>?_)
  ·refine gQ 4 ?_;refine bN H fun x23 z22 H=>(bN H fun x25 z24 H=>(bN H fun x27 z26 H=>(bN H fun x29 z28 H=>(bN H fun x31 z30 H=>(dW (dI [6] bI (dI [7] bI (dI [31,32] mU (dI [33] (gZ (aB.cs (aR x16 i17))) (dI [34] (bJ func175 (dP fu (aR x16 i17) 0 _ z22)) (dI [35] tF1 (dI [6] bI (dI [7] bI ?_)))))))))))))
   refine dI [37,38] mU (dI [39] (gZ (aB.cs (aR x16 i17))) (dI [40] (bJ func175 (dP fu (aR x16 i17) 1 _ z24)) (dI [41] tF1 (dI [42] (bJ func218 (aa1 fu x25.aFv _ z26)) (dI [6] bI (dI [7] bI (dI [44,45] mU (dI [46] (gZ (aB.cs (aR x16 i17))) (dI [47] (bJ func175 (dP fu (aR x16 i17) 2 _ z28)) (dI [48] (bJ func219 (AQ fu x29 _ z30)) (dI [36,43,49] rQ (dE [] tAl (iW [8,50] hY ?_)))))))))))))
   refine dN ?_;refine gQ 11 ?_;refine bG H (fun h32 H=>?_) (fun h32 H=>?_)
   ·refine gQ 10 ?_;refine q1 (gZ (aB.cs (aR x16 i17))) (bN H fun x34 z33 H=>(q1 (bJ func175 (dP fu (aR x16 i17) 3 _ z33)) (bN H fun x36 z35 H=>(q1 (bJ func216 (rM fu x34 _ z35)) ?_))))
    refine gQ 7 ?_;refine q1 (gZ (aB.cs (aR x16 i17))) (bN H fun x38 z37 H=>(q1 (bJ func175 (dP fu (aR x16 i17) 4 _ z37)) (bN H fun x40 z39 H=>(q1 (bJ func220 (K4 fu x38 _ z39)) ?_))))
    refine gQ 6 ?_;refine q1 (b4 [pS x23.aFy,aV x27,pI x31.aFw,pS x31.aFs,aV x31.aFt,pB true,rS x36,pI x40.aFw,pS x40.aFz,pS x40.aFs,pI x40.aGa,pI x40.aFu.aFw,pS x40.aFu.aFs,aV x40.aFu.aFt,jV x40.aFt,tX x40.aFP]) (q1 (iL ([(aG.mk x23.aFy x27 x31 true x36 x40)]:Z aG)) (cB H fun z41 H=>(q1 (lO z41) ?_)))
    exact gE 8
   refine gQ 4 ?_;refine q1 (b4 [pS x23.aFy,aV x27,pI x31.aFw,pS x31.aFs,aV x31.aFt,pB false,.nil,pI 0,pS s_,pS s_,pI 0,pI 0,pS s_,.nil,.nil,.nil]) (q1 (iL ([(aG.mk x23.aFy x27 x31 false [] (aM.mk 0 s_ s_ 0 (aA.mk 0 s_ []) [] []))]:Z aG)) (cB H fun z42 H=>(q1 (lO z42) ?_)))
   exact gE 8
  exact gE 0
 rintro v19 H
 refine gQ 2 ?_;refine bN H fun x44 z43 H=>?_
 rcases nA (!(x44)) with g45|g45
 ·have H:=sS H g45
  refine dW (dD [1] (b4 [pS p0.aFy,bM p0.aFv]) (dI [79] (bJ func173 (eA fu p0 _ z43)) (dI [80] JP (dI [81] bI ?_))))
  iterate 4 refine JV g45 ?_
  refine dI [82] (CJ g45) (dI [87] bI ?_)
  iterate 5 refine JV rfl ?_
  refine dI [88] (CJ rfl) (dN ?_)
  exact gE 7
 have H:=sR H g45
 rcases nA (decide ((p0.aFv.length:Int)=0)) with g46|g46
 ·have H:=sS H g46
  refine dW (dD [1] (b4 [pS p0.aFy,bM p0.aFv]) (dI [79] (bJ func173 (eA fu p0 _ z43)) (dI [80] JP (dI [81] bI (dI (hg:=bD g45) [1] bW (dD (hg:=bD g45) [83] eG (dI (hg:=bD g45) [84] tLn (dI (hg:=bD g45) [85] rEq (dI [82,86] (D3 g45) (dI [87] bI ?_))))))))))
  iterate 5 refine JV g46 ?_
  refine dI [88] (CJ g46) (dN ?_)
  exact gE 7
 have H:=sR H g46
 refine bN H fun x48 z47 H=>(bN H fun x50 z49 H=>(dW (dD [1] (b4 [pS p0.aFy,bM p0.aFv]) (dI [79] (bJ func173 (eA fu p0 _ z43)) (dI [80] JP (dI [81] bI (dI (hg:=bD g45) [1] bW (dD (hg:=bD g45) [83] eG (dI (hg:=bD g45) [84] tLn (dI (hg:=bD g45) [85] rEq (dI [82,86] (D3 g45) (dI [87] bI (dD (hg:=bD g46) [5] (b4 [pS x6.aFy,rS x10,pB x12,pB x14,m9 v19 0]) ?_)))))))))))))
 refine dI (hg:=bD g46) [89] (bJ func222 (UT fu (aZ.mk x6.aFy x10 x12 x14 v19) _ z47)) (dD (hg:=bD g46) [1] (b4 [pS p0.aFy,bM p0.aFv]) (dI (hg:=bD g46) [90,91] (bJ func221 (w7 fu x48 p0 _ z49)) (dI (hg:=bD g46) [92] JP (dI [88,93] (D3 g46) (dN ?_)))))
 refine bG H (fun h51 H=>gE 6) fun h51 H=>?_;refine gQ 3 ?_;refine q1 (b4 [pS x6.aFy,rS x10,pB x12,pB x14,m9 v19 0]) ?_;exact gE 3
def M8(fu:Nat)(pd:aO)(x2 x4 x6 x8:aB):Nat→((Z aB))→J (LR ((Z aB)) aB):=fun i9 v11=>bd (cN fu ((aR pd.aFx i9).aFs)) fun x15=>bd (EV fu ((aR pd.aFx i9).aFN)) fun x17=>gd ((([x15]:Z aB)).length+x17.length≤68719476736) (gd ((v11).length+(([(aB.mk s_ (([x15]:Z aB)++x17))]:Z aB)).length≤68719476736) (some (.next (v11++([(aB.mk s_ (([x15]:Z aB)++x17))]:Z aB)))))
def vB(fu:Nat)(pd:aO):J aB:=bd (cN fu UV) fun x2=>bd (cN fu pd.aFs) fun x4=>bd (mT fu pd.aFH) fun x6=>bd (nU fu ([x2,x4,x6]:Z aB)) fun x8=>so (loopN (M8 fu pd x2 x4 x6 x8) (pd.aFx.length-0) 0 x8.aFv) fun v11=>bd (lG fu pd) fun x21=>bd (G6 fu x21 (aB.mk x8.aFy v11)) fun x23=>some x23
theorem M9(fu:Nat)(pd:aO)(r:aB)(H:vB fu pd=some r):bU prog 223 [(aO.pv pd)] ((aB.pv r)):=by
 refine qJ func223 H (fun C hC H=>?_)
 refine gQ 2 ?_;refine q1 (fQ (kO pd)) ?_;refine gQ 3 ?_;refine bN H fun x2 z1 H=>(bN H fun x4 z3 H=>(bN H fun x6 z5 H=>(bN H fun x8 z7 H=>(dWa (dI [] (bJ func239 (cD fu UV _ z1)) (dI [1] bW (dBz [6] 0 0 tP (dI [7] (bJ func239 (cD fu pd.aFs _ z3)) (dI [1] bW (dBz [9] 0 0 tP (dI [10] (bJ func240 (oQ fu pd.aFH _ z5)) (dI [5,8,11] (iL ([x2,x4,x6]:Z aB)) ?_))))))))))))
 refine dEz [12] (fun _ z=>by cases z<;>exact WT (B:= []) (R:=fun k=> .agg [pS x8.aFy,eW x8.aFv k]) (ps:= [_]) (qs:= [bM ([x2,x4,x6]:Z aB)]) func238 (fun k k'=>(.agg (.cons (.free _ rfl) (.cons Mv.acc JE.nil)))) (o9 fu ([x2,x4,x6]:Z aB) _ z7) rfl rfl rfl rfl rfl rfl) ?_;refine dA (fun _ st h=>vAl h aeW.h) (dZ 3 [3,13] hY (dN ?_))
 refine gQ 5 ?_;refine dR.fact (cP 0 2 rfl rfl rfl (aE.tl _)) (fun hl12=>?_)
 refine bV (σ:=(Z aB)) (fun i9 v11=>⟨[(1,.ptr 0 0),(2,.ptr 1 0),(3,.ptr 2 0),(4,pN i9)],⟨[some ⟨39,kO pd⟩,some ⟨189,[pS s_,.nil]⟩,some ⟨189,[pS x8.aFy,eW v11 0]⟩],[⟨189,2,aB.trs (v11),false⟩]⟩⟩) (fun v11=>⟨[(1,.ptr 0 0),(2,.ptr 1 0),(3,.ptr 2 0)],⟨[some ⟨39,kO pd⟩,some ⟨189,[pS s_,.nil]⟩,some ⟨189,[pS x8.aFy,eW v11 0]⟩],[⟨189,2,aB.trs (v11),false⟩]⟩⟩) (fA H) ?_ ?_
 ·rintro i9 v11 H
  refine gQ 9 ?_;refine cZ H (fun h13 h13l H=>?_) (fun h13 H=>?_)
  ·refine gQ 3 ?_;refine bN H fun x15 z14 H=>(bN H fun x17 z16 H=>(cB H fun z18 H=>(cB H fun z19 H=>(dW (dI [3] bW (dB [21] 0 2 tP (dI [1] bW (dD [23] eG (dI [4] bI (dI [24,25] mU (dI [26] xE (dI [27] wH (dI [28] (bJ func239 (cD fu ((aR pd.aFx i9).aFs) _ z14)) ?_)))))))))))))
   refine dE [29] (sM ([x15]:Z aB)) (dI [1] bW (dB [31] 0 1 tP (dI [4] bI (dI [32,33] mU (dI [34] xE (dI [35] wH (dI [36] (bJ func241 (SB fu ((aR pd.aFx i9).aFN) _ z16)) (dE [30,37] (lO z18) (dI [38] rQ (dI [39] (iL ([(aB.mk s_ (([x15]:Z aB)++x17))]:Z aB)) (dE [22,40] (lO z19) (dI [3] bW (iW [42,41] hY ?_)))))))))))))
   refine dN ?_;exact gE 5
  exact gE 0
 rintro v11 H
 refine qS (bN H fun x21 z20 H=>(bN H fun x23 z22 H=>(dW (dD [1] (b4 [pS pd.aFs,rS pd.aFH,eB pd.aFx]) (dI [43] (bJ func230 (BJ fu pd _ z20)) (dD [3] (b4 [pS x8.aFy,eW v11 0]) (dI [44,45] (bJ func244 (MK fu x21 (aB.mk x8.aFy v11) _ z22)) (iW [2,46] hY (dN ?_)))))))))
 exact gE 0
def NM(fu:Nat)(px x2 x4:aB)(x6:LB)(x8:Z aB):Nat→((Z aE))→J (LR ((Z aE)) (aO×Bool)):=fun i9 v11=>bd (eF fu (aR x8 i9) 0) fun x15=>bd (yU fu (aR x8 i9) 1) fun x17=>bd (ML fu x17) fun x19=>gd ((v11).length+(([(aE.mk x15.aFy x19)]:Z aE)).length≤68719476736) (some (.next (v11++([(aE.mk x15.aFy x19)]:Z aE))))
def vF(fu:Nat)(px:aB):J (aO×Bool):=bd (eF fu px 1) fun x2=>bd (eF fu px 2) fun x4=>bd (oP fu x4) fun x6=>bd (yU fu px 3) fun x8=>so (loopN (NM fu px x2 x4 x6 x8) (x8.length-0) 0 ([])) fun v11=>bd (jM fu px) fun x22=>sw (!(x22)) (some ((aO.mk s_ [] []),false)) (sw (decide ((px.aFv.length:Int)=0)) (some ((aO.mk s_ [] []),false)) (bd (vB fu (aO.mk x2.aFy x6 v11)) fun x26=>bd (gI fu x26 px) fun x28=>sw (!(x28)) (some ((aO.mk s_ [] []),false)) (some ((aO.mk x2.aFy x6 v11),true))))
theorem NN(fu:Nat)(px:aB)(r:aO×Bool)(H:vF fu px=some r):bU prog 201 [(aB.pv px)] (.tup [(aO.pv r.1),pB r.2]):=by
 refine qJ func201 H (fun C hC H=>?_)
 refine gQ 2 ?_;refine q1 (fQ ([pS px.aFy,bM px.aFv])) ?_;refine gQ 4 ?_;refine bN H fun x2 z1 H=>(bN H fun x4 z3 H=>(bN H fun x6 z5 H=>(dW (dB [1] 0 1 (BG [pS px.aFy,bM px.aFv]) (dI [7] (bJ func175 (dP fu px 1 _ z1)) (dI [8] tF1 (dB [1] 0 1 (BG [pS px.aFy,bM px.aFv]) (dI [10] (bJ func175 (dP fu px 2 _ z3)) (dI [11] (bJ func216 (rM fu x4 _ z5)) (dI [9,12] rQ (dE [] tAl (iW [4,13] hY (dN ?_)))))))))))))
 refine gQ 2 ?_;refine q1 (b4 [pS px.aFy,bM px.aFv]) (bN H fun x8 z7 H=>(q1 (bJ func217 (EU fu px 3 _ z7)) ?_))
 refine gQ 7 ?_;refine kC (eY (k:=2) (j:=2) 46 2 (by decide) rfl rfl) ?_;refine gV 5 (aB.tl _) (fun hl12=>?_)
 refine bV (σ:=(Z aE)) (fun i9 v11=>⟨[(1,.ptr 0 0),(2,.ptr 1 0),(3,pB false),(4,.ptr 2 0),(5,bM x8),(6,pN i9)],⟨[some ⟨189,[pS px.aFy,bM px.aFv]⟩,some ⟨39,[pS s_,.nil,.nil]⟩,some ⟨39,[pS x2.aFy,rS x6,BU v11 0]⟩],[⟨46,2,aE.trs (v11),false⟩]⟩⟩) (fun v11=>⟨[(1,.ptr 0 0),(2,.ptr 1 0),(3,pB false),(4,.ptr 2 0)],⟨[some ⟨189,[pS px.aFy,bM px.aFv]⟩,some ⟨39,[pS s_,.nil,.nil]⟩,some ⟨39,[pS x2.aFy,rS x6,BU v11 0]⟩],[⟨46,2,aE.trs (v11),false⟩]⟩⟩) (fA H) ?_ ?_
 ·rintro i9 v11 H
  refine gQ 8 ?_;refine cZ H (fun h13 h13l H=>?_) (fun h13 H=>?_)
  ·refine gQ 3 ?_;refine bN H fun x15 z14 H=>(bN H fun x17 z16 H=>(bN H fun x19 z18 H=>(cB H fun z20 H=>(dW (dI [4] bW (dD [22] eG (dI [5] bI (dI [6] bI (dI [24,25] mU (dI [26] (gZ (aB.cs (aR x8 i9))) (dI [27] (bJ func175 (dP fu (aR x8 i9) 0 _ z14)) (dI [28] tF1 (dI [5] bI ?_)))))))))))))
   refine dI [6] bI (dI [30,31] mU (dI [32] (gZ (aB.cs (aR x8 i9))) (dI [33] (bJ func217 (EU fu (aR x8 i9) 1 _ z16)) (dI [34] (bJ func218 (aa1 fu x17 _ z18)) (dI [29,35] rQ (dI [36] (iL ([(aE.mk x15.aFy x19)]:Z aE)) (dE [23,37] (lO z20) (dI [4] bW (iW [39,38] hY (dN ?_))))))))))
   exact gE 5
  exact gE 0
 rintro v11 H
 refine gQ 2 ?_;refine bN H fun x22 z21 H=>?_
 rcases nA (!(x22)) with g23|g23
 ·have H:=sS H g23
  refine dW (dD [1] (b4 [pS px.aFy,bM px.aFv]) (dI [40] (bJ func173 (eA fu px _ z21)) (dI [41] JP (dI [42] bI ?_))))
  iterate 4 refine JV g23 ?_
  refine dI [43] (CJ g23) (dI [48] bI ?_)
  iterate 5 refine JV rfl ?_
  refine dI [49] (CJ rfl) (dN ?_)
  exact gE 7
 have H:=sR H g23
 rcases nA (decide ((px.aFv.length:Int)=0)) with g24|g24
 ·have H:=sS H g24
  refine dW (dD [1] (b4 [pS px.aFy,bM px.aFv]) (dI [40] (bJ func173 (eA fu px _ z21)) (dI [41] JP (dI [42] bI (dI (hg:=bD g23) [1] bW (dD (hg:=bD g23) [44] eG (dI (hg:=bD g23) [45] tLn (dI (hg:=bD g23) [46] rEq (dI [43,47] (D3 g23) (dI [48] bI ?_))))))))))
  iterate 5 refine JV g24 ?_
  refine dI [49] (CJ g24) (dN ?_)
  exact gE 7
 have H:=sR H g24
 refine bN H fun x26 z25 H=>(bN H fun x28 z27 H=>(dW (dD [1] (b4 [pS px.aFy,bM px.aFv]) (dI [40] (bJ func173 (eA fu px _ z21)) (dI [41] JP (dI [42] bI (dI (hg:=bD g23) [1] bW (dD (hg:=bD g23) [44] eG (dI (hg:=bD g23) [45] tLn (dI (hg:=bD g23) [46] rEq (dI [43,47] (D3 g23) (dI [48] bI (dD (hg:=bD g24) [4] (b4 [pS x2.aFy,rS x6,BU v11 0]) ?_)))))))))))))
 refine dI (hg:=bD g24) [50] (bJ func223 (M9 fu (aO.mk x2.aFy x6 v11) _ z25)) (dD (hg:=bD g24) [1] (b4 [pS px.aFy,bM px.aFv]) (dI (hg:=bD g24) [51,52] (bJ func221 (w7 fu x26 px _ z27)) (dI (hg:=bD g24) [53] JP (dI [49,54] (D3 g24) (dN ?_)))))
 refine bG H (fun h29 H=>gE 6) fun h29 H=>?_;refine gQ 3 ?_;refine q1 (b4 [pS x2.aFy,rS x6,BU v11 0]) ?_;exact gE 3
def ac6(fu:Nat)(px:aB):Nat→((Z aD))→J (LR ((Z aD)) ((Z aD))):=fun i1 v3=>bd (eF fu (aR px.aFv i1) 0) fun x7=>bd (eF fu (aR px.aFv i1) 1) fun x9=>bd (oV fu x9) fun x11=>gd ((v3).length+(([(aD.mk x7.aFy x11)]:Z aD)).length≤68719476736) (some (.next (v3++([(aD.mk x7.aFy x11)]:Z aD))))
def B8(fu:Nat)(px:aB):J ((Z aD)):=so (loopN (ac6 fu px) (px.aFv.length-0) 0 ([])) fun v3=>some v3
theorem N5(fu:Nat)(px:aB)(r:(Z aD))(H:B8 fu px=some r):bU prog 224 [(aB.pv px)] (b0 r):=by
 refine qJ func224 H (fun C hC H=>?_)
 refine gQ 2 ?_;refine q1 (fQ ([pS px.aFy,bM px.aFv])) ?_;refine gQ 4 ?_;refine q1 (sM ([]:Z aD)) ?_;refine gQ 7 ?_;refine dR.fact (cP 0 1 rfl rfl rfl (aB.tl _)) (fun hl4=>?_)
 refine bV (σ:=(Z aD)) (fun i1 v3=>⟨[(1,.ptr 0 0),(2,.nil),(3,fZ v3 0),(4,pN i1)],⟨[some ⟨189,[pS px.aFy,bM px.aFv]⟩],[⟨32,4,aD.trs (v3),false⟩]⟩⟩) (fun v3=>⟨[(2,.nil),(3,fZ v3 0)],⟨[some ⟨189,[pS px.aFy,bM px.aFv]⟩],[⟨32,4,aD.trs (v3),false⟩]⟩⟩) (fA H) ?_ ?_
 ·rintro i1 v3 H
  refine gQ 9 ?_;refine cZ H (fun h5 h5l H=>?_) (fun h5 H=>?_)
  ·refine gQ 3 ?_;refine bN H fun x7 z6 H=>(bN H fun x9 z8 H=>(bN H fun x11 z10 H=>(cB H fun z12 H=>(dW (dI [3] bI (dI [1] bW (dD [14] eG (dI [4] bI (dI [15,16] mU (dI [17] (gZ (aB.cs (aR px.aFv i1))) (dI [18] (bJ func175 (dP fu (aR px.aFv i1) 0 _ z6)) (dI [19] tF1 (dI [1] bW ?_)))))))))))))
   refine dD [21] eG (dI [4] bI (dI [22,23] mU (dI [24] (gZ (aB.cs (aR px.aFv i1))) (dI [25] (bJ func175 (dP fu (aR px.aFv i1) 1 _ z8)) (dI [26] (bJ func219 (AQ fu x9 _ z10)) (dI [20,27] rQ (dI [28] (iL ([(aD.mk x7.aFy x11)]:Z aD)) (dE [13,29] (lO z12) (dI [30] bI (dN ?_))))))))))
   exact gE 5
  exact gE 0
 rintro v3 H
 exact gE 5
def ag0(fu:Nat)(p1:Z aD):Nat→((Z aB))→J (LR ((Z aB)) aB):=fun i1 v3=>bd (cN fu ((aR p1 i1).aFz)) fun x7=>bd (oU fu ((aR p1 i1).aFu)) fun x9=>bd (nU fu ([x7,x9]:Z aB)) fun x11=>gd ((v3).length+(([x11]:Z aB)).length≤68719476736) (some (.next (v3++([x11]:Z aB))))
def EW(fu:Nat)(p1:Z aD):J aB:=so (loopN (ag0 fu p1) (p1.length-0) 0 ([])) fun v3=>some (aB.mk s_ v3)
theorem SC(fu:Nat)(p1:Z aD)(r:aB)(H:EW fu p1=some r):bU prog 245 [b0 p1] ((aB.pv r)):=by
 refine qJ func245 H (fun C hC H=>?_)
 refine gQ 15 ?_;refine kC (eY (k:=1) (j:=1) 189 2 (by decide) rfl rfl) ?_;refine gV 0 (aD.tl _) (fun hl4=>?_)
 refine bV (σ:=(Z aB)) (fun i1 v3=>⟨[(0,b0 p1),(2,.ptr 0 0),(3,.ptr 1 0),(4,pN i1)],⟨[some ⟨189,[pS s_,.nil]⟩,some ⟨189,[pS s_,eW v3 0]⟩],[⟨189,2,aB.trs (v3),false⟩]⟩⟩) (fun v3=>⟨[(2,.ptr 0 0),(3,.ptr 1 0)],⟨[some ⟨189,[pS s_,.nil]⟩,some ⟨189,[pS s_,eW v3 0]⟩],[⟨189,2,aB.trs (v3),false⟩]⟩⟩) (fA H) ?_ ?_
 ·rintro i1 v3 H
  refine gQ 8 ?_;refine cZ H (fun h5 h5l H=>?_) (fun h5 H=>?_)
  ·refine gQ 3 ?_;refine bN H fun x7 z6 H=>(bN H fun x9 z8 H=>(bN H fun x11 z10 H=>(cB H fun z12 H=>(dW (dI [3] bW (dD [12] eG (dI [0] bI (dI [4] bI (dI [14,15] mU (dI [16] xE (dI [17] wH (dI [18] (bJ func239 (cD fu ((aR p1 i1).aFz) _ z6)) (dI [0] bI ?_)))))))))))))
   refine dI [4] bI (dI [20,21] mU (dI [22] xE (dI [23] (gZ (aA.cs ((aR p1 i1).aFu))) (dI [24] (bJ func242 (AP fu ((aR p1 i1).aFu) _ z8)) (dI [19,25] (iL ([x7,x9]:Z aB)) (dI [26] (bJ func238 (I6 (o9 fu) ([x7,x9]:Z aB) _ z10)) (dI [27] (iL ([x11]:Z aB)) (dE [13,28] (lO z12) (dI [3] bW (iW [30,29] hY (dN ?_)))))))))))
   exact gE 5
  exact gE 0
 rintro v3 H
 refine gQ 2 ?_;refine q1 (b4 [pS s_,eW v3 0]) ?_;exact gE 2
def NG(fu:Nat)(p0:aL)(x2:Bool):J (aB⊕((LB))):=sw (p0.aFX) (gd (([]:LB).length+(([yO]:LB)).length≤68719476736) (some (.inr (([])++([yO]:LB))))) (some (.inr ([])))
def NH(fu:Nat)(p0:aL)(x2:Bool)(v5:LB):J (aB⊕(Y×(Z aB))):=sw (p0.aF4) (bd (oU fu p0.aFR) fun x12=>bd (nU fu ([x12]:Z aB)) fun x14=>some (.inr (x14.aFy,x14.aFv))) (some (.inr (s_,([]))))
def NJ(fu:Nat)(p0:aL)(x2:Bool)(v5:LB)(v8:Y)(v9:Z aB)(x16 x18 x20 x22 x24 x26 x28:aB):Nat→((Z aB))→J (LR ((Z aB)) aB):=fun i29 v31=>lt (aR p0.aFW i29) fun y34=>bd (cN fu y34.aFs) fun x37=>bd (mT fu y34.aFH) fun x39=>bd (oO fu y34.aFE) fun x41=>bd (nU fu ([x37,x39,x41]:Z aB)) fun x43=>gd ((v31).length+(([(aB.mk x43.aFy x43.aFv)]:Z aB)).length≤68719476736) (some (.next (v31++([(aB.mk x43.aFy x43.aFv)]:Z aB))))
def vE(fu:Nat)(p0:aL):J aB:=bd (lH fu p0) fun x2=>sw (!(x2)) (some (aB.mk s_ [])) (so (NG fu p0 x2) fun v5=>so (NH fu p0 x2 v5) fun(v8,v9)=>bd (cN fu UW) fun x16=>bd (cN fu p0.aFz) fun x18=>bd (mT fu p0.aFH) fun x20=>bd (oU fu p0.aFJ) fun x22=>bd (EW fu p0.aFL) fun x24=>bd (mT fu v5) fun x26=>bd (nU fu ([x16,x18,x20,x22,x24,x26,(aB.mk v8 v9)]:Z aB)) fun x28=>so (loopN (NJ fu p0 x2 v5 v8 v9 x16 x18 x20 x22 x24 x26 x28) (p0.aFW.length-0) 0 x28.aFv) fun v31=>bd (G6 fu true (aB.mk x28.aFy v31)) fun x46=>some x46)
theorem NK(fu:Nat)(p0:aL)(r:aB)(H:vE fu p0=some r):bU prog 225 [(aL.pv p0)] ((aB.pv r)):=by
 refine qJ func225 H (fun C hC H=>?_)
 refine gQ 2 ?_;refine q1 (fQ (eO p0)) ?_;refine gQ 5 ?_;refine q1 (b4 [pS p0.aFz,rS p0.aFH,pI p0.aFJ.aFw,pS p0.aFJ.aFs,aV p0.aFJ.aFt,b0 p0.aFL,pB p0.aFX,pB p0.aF4,pI p0.aFR.aFw,pS p0.aFR.aFs,aV p0.aFR.aFt,n7 p0.aFW]) (bN H fun x2 z1 H=>(q1 (bJ func231 (BO fu p0 _ z1)) ?_))
 refine gQ 2 ?_;refine bG H (fun h3 H=>gE 5) fun h3 H=>?_;refine gQ 3 ?_;refine q1 (sM ([]:LB)) ?_;refine gQ 3 ?_;refine qY (σ:=(LB)) (fun v5=>⟨[(1,.ptr 0 0),(2,.ptr 1 0),(3,aS v5 0)],⟨[some ⟨163,eO p0⟩,some ⟨189,[pS s_,.nil]⟩],[⟨9,1,bA (v5),false⟩]⟩⟩) (fA H) (fun H=>?_) ?_
 ·refine gQ 5 ?_;refine bG H (fun h6 H=>?_) (fun h6 H=>?_)
  ·refine gQ 2 ?_;refine q1 (iL ([yO]:LB)) (cB H fun z7 H=>(q1 (lO z7) ?_))
   exact gE 2
  exact gE 1
 rintro v5 H
 refine gQ 7 ?_;refine kC (eY (k:=2) (j:=1) 189 2 (by decide) rfl rfl) ?_;refine qY (σ:=Y×(Z aB)) (fun(v8,v9)=>⟨[(1,.ptr 0 0),(2,.ptr 1 0),(3,aS v5 0),(4,.ptr 2 0)],⟨[some ⟨163,eO p0⟩,some ⟨189,[pS s_,.nil]⟩,some ⟨189,[pS v8,bM v9]⟩],[⟨9,1,bA (v5),false⟩,⟨189,2,aB.trs ([]),false⟩]⟩⟩) (fA H) (fun H=>?_) ?_
 ·refine gQ 5 ?_;refine bG H (fun h10 H=>?_) (fun h10 H=>?_)
  ·refine gQ 2 ?_;refine q1 (b4 [pI p0.aFR.aFw,pS p0.aFR.aFs,aV p0.aFR.aFt]) (bN H fun x12 z11 H=>(q1 (bJ func242 (AP fu p0.aFR _ z11)) (q1 (iL ([x12]:Z aB)) (bN H fun x14 z13 H=>(q1 (WT (B:= []) (R:=fun k=> .agg [pS x14.aFy,eW x14.aFv k]) (ps:= [_]) (qs:= [bM ([x12]:Z aB)]) func238 (fun k k'=>(.agg (.cons (.free _ rfl) (.cons Mv.acc JE.nil)))) (o9 fu ([x12]:Z aB) _ z13)) ?_)))))
   exact gE 2
  exact gE 1
 rintro⟨v8,v9⟩ H
 refine qS (bN H fun x16 z15 H=>(bN H fun x18 z17 H=>(bN H fun x20 z19 H=>(bN H fun x22 z21 H=>(bN H fun x24 z23 H=>(bN H fun x26 z25 H=>(bN H fun x28 z27 H=>(dWa (dI [] (bJ func239 (cD fu UW _ z15)) (dI [1] bW (dBz [27] 0 0 tP (dI [28] (bJ func239 (cD fu p0.aFz _ z17)) (dI [1] bW ?_)))))))))))))
 refine dBz [30] 0 0 tP (dI [31] (bJ func240 (oQ fu p0.aFH _ z19)) (dI [1] bW (dBz [33] 0 0 (BG [pI p0.aFJ.aFw,pS p0.aFJ.aFs,aV p0.aFJ.aFt]) (dI [34] (bJ func242 (AP fu p0.aFJ _ z21)) (dI [1] bW (dBz [36] 0 0 tP (dI [37] (bJ func245 (SC fu p0.aFL _ z23)) (dI [3] bI (dI [39] (bJ func240 (oQ fu v5 _ z25)) (dBz [4] 0 0 (BG [pS v8,bM v9]) (dI [26,29,32,35,38,40,41] (iL ([x16,x18,x20,x22,x24,x26,(aB.mk v8 v9)]:Z aB)) ?_)))))))))))
 refine dEz [42] (fun _ z=>by cases z<;>exact WT (B:= []) (R:=fun k=> .agg [pS x28.aFy,eW x28.aFv k]) (ps:= [_]) (qs:= [bM ([x16,x18,x20,x22,x24,x26,(aB.mk v8 v9)]:Z aB)]) func238 (fun k k'=>(.agg (.cons (.free _ rfl) (.cons Mv.acc JE.nil)))) (o9 fu ([x16,x18,x20,x22,x24,x26,(aB.mk v8 v9)]:Z aB) _ z27) rfl rfl rfl rfl rfl rfl) ?_;refine dA (fun _ st h=>vAl h aeW.h) (dZ 5 [5,43] hY (dN ?_))
 refine gQ 5 ?_;refine dR.fact (cP 0 11 rfl rfl rfl (aT.tl _)) (fun hl32=>?_)
 refine bV (σ:=(Z aB)) (fun i29 v31=>⟨[(1,.ptr 0 0),(2,.ptr 1 0),(5,.ptr 3 0),(6,pN i29)],⟨[some ⟨163,eO p0⟩,some ⟨189,[pS s_,.nil]⟩,some ⟨189,[pS v8,bM v9]⟩,some ⟨189,[pS x28.aFy,eW v31 2]⟩],[⟨9,1,bA (v5),false⟩,⟨189,2,aB.trs ([]),false⟩,⟨189,2,aB.trs (v31),false⟩]⟩⟩) (fun v31=>⟨[(2,.ptr 1 0),(5,.ptr 3 0)],⟨[some ⟨163,eO p0⟩,some ⟨189,[pS s_,.nil]⟩,some ⟨189,[pS v8,bM v9]⟩,some ⟨189,[pS x28.aFy,eW v31 2]⟩],[⟨9,1,bA (v5),false⟩,⟨189,2,aB.trs ([]),false⟩,⟨189,2,aB.trs (v31),false⟩]⟩⟩) (fA H) ?_ ?_
 ·rintro i29 v31 H
  refine gQ 9 ?_;refine cZ H (fun h33 h33l H=>?_) (fun h33 H=>?_)
  ·refine gQ 8 ?_;refine gM H fun y34 h35 H=>(q1 (AR h35 h33l) (q1 (gZ (aT.cs y34)) ?_))
   refine gQ 3 ?_;refine bN H fun x37 z36 H=>(bN H fun x39 z38 H=>(bN H fun x41 z40 H=>(bN H fun x43 z42 H=>(cB H fun z44 H=>(dW (dI [5] bW (dB [56] 0 1 tP (dI [7] bW (dD [58] eG (dI [59] (bJ func239 (cD fu y34.aFs _ z36)) (dI [7] bW (dD [61] eG (dI [62] (bJ func240 (oQ fu y34.aFH _ z38)) ?_)))))))))))))
   refine dI [7] bW (dD [64] (b4 [pI y34.aFE.aFw,pS y34.aFE.aFz,pS y34.aFE.aFs,pI y34.aFE.aGa,pI y34.aFE.aFu.aFw,pS y34.aFE.aFu.aFs,aV y34.aFE.aFu.aFt,jV y34.aFE.aFt,tX y34.aFE.aFP]) (dI [65] (bJ func243 (UZ fu y34.aFE _ z40)) (dI [60,63,66] (iL ([x37,x39,x41]:Z aB)) (dE [67] (WT (B:= []) (R:=fun k=> .agg [pS x43.aFy,eW x43.aFv k]) (ps:= [_]) (qs:= [bM ([x37,x39,x41]:Z aB)]) func238 (fun k k'=>(.agg (.cons (.free _ rfl) (.cons Mv.acc JE.nil)))) (o9 fu ([x37,x39,x41]:Z aB) _ z42)) (dI [68] (iL ([(aB.mk x43.aFy x43.aFv)]:Z aB)) (dE [57,69] (lO z44) (dI [5] bW (iW [71,70] hY (dN ?_)))))))))
   exact gE 5
  exact gE 0
 rintro v31 H
 refine gQ 2 ?_;refine q1 (b4 [pS x28.aFy,eW v31 2]) (bN H fun x46 z45 H=>(q1 (bJ func244 (MK fu true (aB.mk x28.aFy v31) _ z45)) ?_))
 exact gE 2
def NQ(fu:Nat)(p0 x2 x4:aB)(x6:LB)(x8:aB)(x10:aA)(x12:aB)(x14:Z aD)(x16 x18:aB):J ((aL×Bool)⊕((Z aA)×Bool×Int×Y)):=sw (decide ((x18.aFv.length:Int)>0)) (gd (0<(x18.aFv).length) (bd (oV fu (aR x18.aFv 0)) fun x26=>some (.inr (x26.aFt,true,x26.aFw,x26.aFs)))) (some (.inr ([],false,0,s_)))
def NR(fu:Nat)(p0 x2 x4:aB)(x6:LB)(x8:aB)(x10:aA)(x12:aB)(x14:Z aD)(x16 x18:aB)(v22:Z aA)(v19:Bool)(v20:Int)(v21:Y)(x28:Z aB):Nat→((Z aT))→J (LR ((Z aT)) (aL×Bool)):=fun i29 v31=>bd (eF fu (aR x28 i29) 0) fun x35=>bd (eF fu (aR x28 i29) 1) fun x37=>bd (oP fu x37) fun x39=>bd (eF fu (aR x28 i29) 2) fun x41=>bd (iZ fu x41) fun x43=>gd ((v31).length+(([(aT.mk x35.aFy x39 x43)]:Z aT)).length≤68719476736) (some (.next (v31++([(aT.mk x35.aFy x39 x43)]:Z aT))))
def vH(fu:Nat)(p0:aB):J (aL×Bool):=bd (eF fu p0 1) fun x2=>bd (eF fu p0 2) fun x4=>bd (oP fu x4) fun x6=>bd (eF fu p0 3) fun x8=>bd (oV fu x8) fun x10=>bd (eF fu p0 4) fun x12=>bd (B8 fu x12) fun x14=>bd (eF fu p0 5) fun x16=>bd (eF fu p0 6) fun x18=>so (NQ fu p0 x2 x4 x6 x8 x10 x12 x14 x16 x18) fun(v22,v19,v20,v21)=>bd (yU fu p0 7) fun x28=>so (loopN (NR fu p0 x2 x4 x6 x8 x10 x12 x14 x16 x18 v22 v19 v20 v21 x28) (x28.length-0) 0 ([])) fun v31=>bd (jM fu p0) fun x46=>sw (!(x46)) (some ((aL.mk s_ [] (aA.mk 0 s_ []) [] false false (aA.mk 0 s_ []) []),false)) (sw (decide ((p0.aFv.length:Int)=0)) (some ((aL.mk s_ [] (aA.mk 0 s_ []) [] false false (aA.mk 0 s_ []) []),false)) (bd (vE fu (aL.mk x2.aFy x6 x10 x14 (decide ((x16.aFv.length:Int)>0)) v19 (aA.mk v20 v21 v22) v31)) fun x50=>bd (gI fu x50 p0) fun x52=>sw (!(x52)) (some ((aL.mk s_ [] (aA.mk 0 s_ []) [] false false (aA.mk 0 s_ []) []),false)) (some ((aL.mk x2.aFy x6 x10 x14 (decide ((x16.aFv.length:Int)>0)) v19 (aA.mk v20 v21 v22) v31),true))))
theorem NS(fu:Nat)(p0:aB)(r:aL×Bool)(H:vH fu p0=some r):bU prog 202 [(aB.pv p0)] (.tup [(aL.pv r.1),pB r.2]):=by
 refine qJ func202 H (fun C hC H=>?_)
 refine gQ 2 ?_;refine q1 (fQ ([pS p0.aFy,bM p0.aFv])) ?_;refine gQ 4 ?_;refine bN H fun x2 z1 H=>(bN H fun x4 z3 H=>(bN H fun x6 z5 H=>(bN H fun x8 z7 H=>(bN H fun x10 z9 H=>(bN H fun x12 z11 H=>(bN H fun x14 z13 H=>(bN H fun x16 z15 H=>(dW (dB [1] 0 1 (BG [pS p0.aFy,bM p0.aFv]) (dI [8] (bJ func175 (dP fu p0 1 _ z1)) (dI [9] tF1 (dB [1] 0 1 (BG [pS p0.aFy,bM p0.aFv]) (dI [11] (bJ func175 (dP fu p0 2 _ z3)) ?_)))))))))))))
 refine dI [12] (bJ func216 (rM fu x4 _ z5)) (dB [1] 0 1 (BG [pS p0.aFy,bM p0.aFv]) (dI [14] (bJ func175 (dP fu p0 3 _ z7)) (dI [15] (bJ func219 (AQ fu x8 _ z9)) (dB [1] 0 1 (BG [pS p0.aFy,bM p0.aFv]) (dI [17] (bJ func175 (dP fu p0 4 _ z11)) (dI [18] (bJ func224 (N5 fu x12 _ z13)) (dB [1] 0 1 (BG [pS p0.aFy,bM p0.aFv]) (dI [20] (bJ func175 (dP fu p0 5 _ z15)) (dI [21] tF1 (dI [22] tLn (dI [23] rGt (dI [10,13,16,19,24] rQ (dE [] tAl ?_)))))))))))))
 refine iW [4,25] hY (dN ?_)
 refine gQ 2 ?_;refine q1 (b4 [pS p0.aFy,bM p0.aFv]) (bN H fun x18 z17 H=>(q1 (bJ func175 (dP fu p0 6 _ z17)) ?_))
 refine gQ 4 ?_;refine qY (σ:=(Z aA)×Bool×Int×Y) (fun(v22,v19,v20,v21)=>⟨[(1,.ptr 0 0),(2,.ptr 1 0),(3,pB false),(4,.ptr 2 0)],⟨[some ⟨189,[pS p0.aFy,bM p0.aFv]⟩,some ⟨163,[pS s_,.nil,pI 0,pS s_,.nil,.nil,pB false,pB false,pI 0,pS s_,.nil,.nil]⟩,some ⟨163,[pS x2.aFy,rS x6,pI x10.aFw,pS x10.aFs,aV x10.aFt,b0 x14,pB (decide ((x16.aFv.length:Int)>0)),pB v19,pI v20,pS v21,aV v22,.nil]⟩,some ⟨189,[pS x18.aFy,bM x18.aFv]⟩],[]⟩⟩) (fA H) (fun H=>?_) ?_
 ·refine gQ 7 ?_;refine bG H (fun h23 H=>?_) (fun h23 H=>?_)
  ·refine gQ 8 ?_;refine cB H fun z24 H=>(q1 mU (q1 (gZ (aB.cs (aR x18.aFv 0))) (bN H fun x26 z25 H=>(q1 (bJ func219 (AQ fu (aR x18.aFv 0) _ z25)) ?_))))
   exact gE 3
  exact gE 1
 rintro⟨v22,v19,v20,v21⟩ H
 refine gQ 2 ?_;refine q1 (b4 [pS p0.aFy,bM p0.aFv]) (bN H fun x28 z27 H=>(q1 (bJ func217 (EU fu p0 7 _ z27)) ?_))
 refine gQ 7 ?_;refine kC (eY (k:=2) (j:=11) 242 11 (by decide) rfl rfl) ?_;refine gV 6 (aB.tl _) (fun hl32=>?_)
 refine bV (σ:=(Z aT)) (fun i29 v31=>⟨[(1,.ptr 0 0),(2,.ptr 1 0),(3,pB false),(4,.ptr 2 0),(6,bM x28),(7,pN i29)],⟨[some ⟨189,[pS p0.aFy,bM p0.aFv]⟩,some ⟨163,[pS s_,.nil,pI 0,pS s_,.nil,.nil,pB false,pB false,pI 0,pS s_,.nil,.nil]⟩,some ⟨163,[pS x2.aFy,rS x6,pI x10.aFw,pS x10.aFs,aV x10.aFt,b0 x14,pB (decide ((x16.aFv.length:Int)>0)),pB v19,pI v20,pS v21,aV v22,XL v31 0]⟩,some ⟨189,[pS x18.aFy,bM x18.aFv]⟩],[⟨242,11,aT.trs (v31),false⟩]⟩⟩) (fun v31=>⟨[(1,.ptr 0 0),(2,.ptr 1 0),(3,pB false),(4,.ptr 2 0)],⟨[some ⟨189,[pS p0.aFy,bM p0.aFv]⟩,some ⟨163,[pS s_,.nil,pI 0,pS s_,.nil,.nil,pB false,pB false,pI 0,pS s_,.nil,.nil]⟩,some ⟨163,[pS x2.aFy,rS x6,pI x10.aFw,pS x10.aFs,aV x10.aFt,b0 x14,pB (decide ((x16.aFv.length:Int)>0)),pB v19,pI v20,pS v21,aV v22,XL v31 0]⟩,some ⟨189,[pS x18.aFy,bM x18.aFv]⟩],[⟨242,11,aT.trs (v31),false⟩]⟩⟩) (fA H) ?_ ?_
 ·rintro i29 v31 H
  refine gQ 8 ?_;refine cZ H (fun h33 h33l H=>?_) (fun h33 H=>?_)
  ·refine gQ 3 ?_;refine bN H fun x35 z34 H=>(bN H fun x37 z36 H=>(bN H fun x39 z38 H=>(bN H fun x41 z40 H=>(bN H fun x43 z42 H=>(cB H fun z44 H=>(dW (dI [4] bW (dD [47] eG (dI [6] bI (dI [7] bI (dI [49,50] mU (dI [51] (gZ (aB.cs (aR x28 i29))) (dI [52] (bJ func175 (dP fu (aR x28 i29) 0 _ z34)) ?_)))))))))))))
   refine dI [53] tF1 (dI [6] bI (dI [7] bI (dI [55,56] mU (dI [57] (gZ (aB.cs (aR x28 i29))) (dI [58] (bJ func175 (dP fu (aR x28 i29) 1 _ z36)) (dI [59] (bJ func216 (rM fu x37 _ z38)) (dI [6] bI (dI [7] bI (dI [61,62] mU (dI [63] (gZ (aB.cs (aR x28 i29))) (dI [64] (bJ func175 (dP fu (aR x28 i29) 2 _ z40)) (dI [65] (bJ func220 (K4 fu x41 _ z42)) (dI [54,60,66] rQ ?_)))))))))))))
   refine dI [67] (iL ([(aT.mk x35.aFy x39 x43)]:Z aT)) (dE [48,68] (lO z44) (dI [4] bW (iW [70,69] hY (dN ?_))))
   exact gE 5
  exact gE 0
 rintro v31 H
 refine gQ 2 ?_;refine bN H fun x46 z45 H=>?_
 rcases nA (!(x46)) with g47|g47
 ·have H:=sS H g47
  refine dW (dD [1] (b4 [pS p0.aFy,bM p0.aFv]) (dI [71] (bJ func173 (eA fu p0 _ z45)) (dI [72] JP (dI [73] bI ?_))))
  iterate 4 refine JV g47 ?_
  refine dI [74] (CJ g47) (dI [79] bI ?_)
  iterate 5 refine JV rfl ?_
  refine dI [80] (CJ rfl) (dN ?_)
  exact gE 7
 have H:=sR H g47
 rcases nA (decide ((p0.aFv.length:Int)=0)) with g48|g48
 ·have H:=sS H g48
  refine dW (dD [1] (b4 [pS p0.aFy,bM p0.aFv]) (dI [71] (bJ func173 (eA fu p0 _ z45)) (dI [72] JP (dI [73] bI (dI (hg:=bD g47) [1] bW (dD (hg:=bD g47) [75] eG (dI (hg:=bD g47) [76] tLn (dI (hg:=bD g47) [77] rEq (dI [74,78] (D3 g47) (dI [79] bI ?_))))))))))
  iterate 5 refine JV g48 ?_
  refine dI [80] (CJ g48) (dN ?_)
  exact gE 7
 have H:=sR H g48
 refine bN H fun x50 z49 H=>(bN H fun x52 z51 H=>(dW (dD [1] (b4 [pS p0.aFy,bM p0.aFv]) (dI [71] (bJ func173 (eA fu p0 _ z45)) (dI [72] JP (dI [73] bI (dI (hg:=bD g47) [1] bW (dD (hg:=bD g47) [75] eG (dI (hg:=bD g47) [76] tLn (dI (hg:=bD g47) [77] rEq (dI [74,78] (D3 g47) (dI [79] bI (dD (hg:=bD g48) [4] (b4 [pS x2.aFy,rS x6,pI x10.aFw,pS x10.aFs,aV x10.aFt,b0 x14,pB (decide ((x16.aFv.length:Int)>0)),pB v19,pI v20,pS v21,aV v22,XL v31 0]) ?_)))))))))))))
 refine dI (hg:=bD g48) [81] (bJ func225 (NK fu (aL.mk x2.aFy x6 x10 x14 (decide ((x16.aFv.length:Int)>0)) v19 (aA.mk v20 v21 v22) v31) _ z49)) (dD (hg:=bD g48) [1] (b4 [pS p0.aFy,bM p0.aFv]) (dI (hg:=bD g48) [82,83] (bJ func221 (w7 fu x50 p0 _ z51)) (dI (hg:=bD g48) [84] JP (dI [80,85] (D3 g48) (dN ?_)))))
 refine bG H (fun h53 H=>gE 6) fun h53 H=>?_;refine gQ 3 ?_;refine q1 (b4 [pS x2.aFy,rS x6,pI x10.aFw,pS x10.aFs,aV x10.aFt,b0 x14,pB (decide ((x16.aFv.length:Int)>0)),pB v19,pI v20,pS v21,aV v22,XL v31 0]) ?_;exact gE 3
def ND(fu:Nat)(pf:aQ)(x2:Bool):Nat→((Z aB))→J (LR ((Z aB)) aB):=fun i4 v6=>bd (cN fu ((aR pf.aFO i4).aFs)) fun x10=>bd (oU fu ((aR pf.aFO i4).aFu)) fun x12=>bd (nU fu ([x10,x12]:Z aB)) fun x14=>gd ((v6).length+(([x14]:Z aB)).length≤68719476736) (some (.next (v6++([x14]:Z aB))))
def vD(fu:Nat)(pf:aQ):J aB:=bd (rJ fu pf) fun x2=>sw (!(x2)) (some (aB.mk s_ [])) (so (loopN (ND fu pf x2) (pf.aFO.length-0) 0 ([])) fun v6=>bd (cN fu arQ) fun x17=>bd (cN fu pf.aFs) fun x19=>bd (mT fu pf.aFH) fun x21=>bd (EW fu pf.aFL) fun x23=>bd (oU fu pf.aFM) fun x25=>bd (oO fu pf.aFE) fun x27=>bd (nU fu ([x17,x19,x21,x23,(aB.mk s_ v6),x25,x27]:Z aB)) fun x29=>bd (G6 fu true x29) fun x31=>some x31)
theorem NE(fu:Nat)(pf:aQ)(r:aB)(H:vD fu pf=some r):bU prog 226 [(aQ.pv pf)] ((aB.pv r)):=by
 refine qJ func226 H (fun C hC H=>?_)
 refine gQ 2 ?_;refine q1 (fQ (CF pf)) ?_;refine gQ 5 ?_;refine q1 (b4 [pS pf.aFs,rS pf.aFH,b0 pf.aFL,Z3 pf.aFO,pI pf.aFM.aFw,pS pf.aFM.aFs,aV pf.aFM.aFt,pI pf.aFE.aFw,pS pf.aFE.aFz,pS pf.aFE.aFs,pI pf.aFE.aGa,pI pf.aFE.aFu.aFw,pS pf.aFE.aFu.aFs,aV pf.aFE.aFu.aFt,jV pf.aFE.aFt,tX pf.aFE.aFP]) (bN H fun x2 z1 H=>(q1 (bJ func232 (BK fu pf _ z1)) ?_))
 refine gQ 2 ?_;refine bG H (fun h3 H=>gE 5) fun h3 H=>?_;refine gQ 12 ?_;refine kC (eY (k:=2) (j:=1) 189 2 (by decide) rfl rfl) ?_;refine dR.fact (cP 0 3 rfl rfl rfl (aY.tl _)) (fun hl7=>?_)
 refine bV (σ:=(Z aB)) (fun i4 v6=>⟨[(1,.ptr 0 0),(2,.ptr 1 0),(3,.ptr 2 0),(4,pN i4)],⟨[some ⟨213,CF pf⟩,some ⟨189,[pS s_,.nil]⟩,some ⟨189,[pS s_,eW v6 0]⟩],[⟨189,2,aB.trs (v6),false⟩]⟩⟩) (fun v6=>⟨[(1,.ptr 0 0),(2,.ptr 1 0),(3,.ptr 2 0)],⟨[some ⟨213,CF pf⟩,some ⟨189,[pS s_,.nil]⟩,some ⟨189,[pS s_,eW v6 0]⟩],[⟨189,2,aB.trs (v6),false⟩]⟩⟩) (fA H) ?_ ?_
 ·rintro i4 v6 H
  refine gQ 9 ?_;refine cZ H (fun h8 h8l H=>?_) (fun h8 H=>?_)
  ·refine gQ 3 ?_;refine bN H fun x10 z9 H=>(bN H fun x12 z11 H=>(bN H fun x14 z13 H=>(cB H fun z15 H=>(dW (dI [3] bW (dD [17] eG (dI [1] bW (dD [19] eG (dI [4] bI (dI [20,21] mU (dI [22] xE (dI [23] wH (dI [24] (bJ func239 (cD fu ((aR pf.aFO i4).aFs) _ z9)) ?_)))))))))))))
   refine dI [1] bW (dD [26] eG (dI [4] bI (dI [27,28] mU (dI [29] xE (dI [30] (gZ (aA.cs ((aR pf.aFO i4).aFu))) (dI [31] (bJ func242 (AP fu ((aR pf.aFO i4).aFu) _ z11)) (dI [25,32] (iL ([x10,x12]:Z aB)) (dI [33] (bJ func238 (I6 (o9 fu) ([x10,x12]:Z aB) _ z13)) (dI [34] (iL ([x14]:Z aB)) (dE [18,35] (lO z15) (dI [3] bW (iW [37,36] hY (dN ?_)))))))))))))
   exact gE 5
  exact gE 0
 rintro v6 H
 refine qS (bN H fun x17 z16 H=>(bN H fun x19 z18 H=>(bN H fun x21 z20 H=>(bN H fun x23 z22 H=>(bN H fun x25 z24 H=>(bN H fun x27 z26 H=>(bN H fun x29 z28 H=>(bN H fun x31 z30 H=>(dW (dI [] (bJ func239 (cD fu arQ _ z16)) (dI [1] bW (dD [39] eG (dI [40] (bJ func239 (cD fu pf.aFs _ z18)) ?_)))))))))))))
 refine dI [1] bW (dD [42] eG (dI [43] (bJ func240 (oQ fu pf.aFH _ z20)) (dI [1] bW (dD [45] eG (dI [46] (bJ func245 (SC fu pf.aFL _ z22)) (dD [3] (b4 [pS s_,eW v6 0]) (dI [1] bW (dD [49] (b4 [pI pf.aFM.aFw,pS pf.aFM.aFs,aV pf.aFM.aFt]) (dI [50] (bJ func242 (AP fu pf.aFM _ z24)) (dI [1] bW (dD [52] (b4 [pI pf.aFE.aFw,pS pf.aFE.aFz,pS pf.aFE.aFs,pI pf.aFE.aGa,pI pf.aFE.aFu.aFw,pS pf.aFE.aFu.aFs,aV pf.aFE.aFu.aFt,jV pf.aFE.aFt,tX pf.aFE.aFP]) (dI [53] (bJ func243 (UZ fu pf.aFE _ z26)) (dI [38,41,44,47,48,51,54] (iL ([x17,x19,x21,x23,(aB.mk s_ v6),x25,x27]:Z aB)) ?_)))))))))))))
 refine dI [55] (bJ func238 (I6 (o9 fu) ([x17,x19,x21,x23,(aB.mk s_ v6),x25,x27]:Z aB) _ z28)) (dI [56] (bJ func244 (MK fu true x29 _ z30)) (iW [2,57] hY (dN ?_)))
 exact gE 0
def NO(fu:Nat)(p0 x2 x4:aB)(x6:LB)(x8:aB)(x10:Z aD)(x12:aB)(x14:aA)(x16:aB)(x18:aM)(x20:aB):Nat→((Z aY))→J (LR ((Z aY)) (aQ×Bool)):=fun i21 v23=>bd (eF fu (aR x20.aFv i21) 0) fun x27=>bd (eF fu (aR x20.aFv i21) 1) fun x29=>bd (oV fu x29) fun x31=>gd ((v23).length+(([(aY.mk x27.aFy x31)]:Z aY)).length≤68719476736) (some (.next (v23++([(aY.mk x27.aFy x31)]:Z aY))))
def vG(fu:Nat)(p0:aB):J (aQ×Bool):=bd (eF fu p0 1) fun x2=>bd (eF fu p0 2) fun x4=>bd (oP fu x4) fun x6=>bd (eF fu p0 3) fun x8=>bd (B8 fu x8) fun x10=>bd (eF fu p0 5) fun x12=>bd (oV fu x12) fun x14=>bd (eF fu p0 6) fun x16=>bd (iZ fu x16) fun x18=>bd (eF fu p0 4) fun x20=>so (loopN (NO fu p0 x2 x4 x6 x8 x10 x12 x14 x16 x18 x20) (x20.aFv.length-0) 0 ([])) fun v23=>bd (jM fu p0) fun x34=>sw (!(x34)) (some ((aQ.mk s_ [] [] [] (aA.mk 0 s_ []) (aM.mk 0 s_ s_ 0 (aA.mk 0 s_ []) [] [])),false)) (sw (decide ((p0.aFv.length:Int)=0)) (some ((aQ.mk s_ [] [] [] (aA.mk 0 s_ []) (aM.mk 0 s_ s_ 0 (aA.mk 0 s_ []) [] [])),false)) (bd (vD fu (aQ.mk x2.aFy x6 x10 v23 x14 x18)) fun x38=>bd (gI fu x38 p0) fun x40=>sw (!(x40)) (some ((aQ.mk s_ [] [] [] (aA.mk 0 s_ []) (aM.mk 0 s_ s_ 0 (aA.mk 0 s_ []) [] [])),false)) (some ((aQ.mk x2.aFy x6 x10 v23 x14 x18),true))))
theorem NP(fu:Nat)(p0:aB)(r:aQ×Bool)(H:vG fu p0=some r):bU prog 203 [(aB.pv p0)] (.tup [(aQ.pv r.1),pB r.2]):=by
 refine qJ func203 H (fun C hC H=>?_)
 refine gQ 2 ?_;refine q1 (fQ ([pS p0.aFy,bM p0.aFv])) ?_;refine gQ 4 ?_;refine bN H fun x2 z1 H=>(bN H fun x4 z3 H=>(bN H fun x6 z5 H=>(bN H fun x8 z7 H=>(bN H fun x10 z9 H=>(bN H fun x12 z11 H=>(bN H fun x14 z13 H=>(bN H fun x16 z15 H=>(bN H fun x18 z17 H=>(dW (dB [1] 0 1 (BG [pS p0.aFy,bM p0.aFv]) (dI [7] (bJ func175 (dP fu p0 1 _ z1)) (dI [8] tF1 (dB [1] 0 1 (BG [pS p0.aFy,bM p0.aFv]) ?_)))))))))))))
 refine dI [10] (bJ func175 (dP fu p0 2 _ z3)) (dI [11] (bJ func216 (rM fu x4 _ z5)) (dB [1] 0 1 (BG [pS p0.aFy,bM p0.aFv]) (dI [13] (bJ func175 (dP fu p0 3 _ z7)) (dI [14] (bJ func224 (N5 fu x8 _ z9)) (dB [1] 0 1 (BG [pS p0.aFy,bM p0.aFv]) (dI [16] (bJ func175 (dP fu p0 5 _ z11)) (dI [17] (bJ func219 (AQ fu x12 _ z13)) (dB [1] 0 1 (BG [pS p0.aFy,bM p0.aFv]) (dI [19] (bJ func175 (dP fu p0 6 _ z15)) (dI [20] (bJ func220 (K4 fu x16 _ z17)) (dI [9,12,15,18,21] rQ (dE [] tAl (iW [4,22] hY ?_)))))))))))))
 refine dN ?_;refine gQ 2 ?_;refine q1 (b4 [pS p0.aFy,bM p0.aFv]) (bN H fun x20 z19 H=>(q1 (bJ func175 (dP fu p0 4 _ z19)) ?_))
 refine gQ 8 ?_;refine kC (eY (k:=2) (j:=3) 245 4 (by decide) rfl rfl) ?_;refine dR.fact (cP 3 1 rfl rfl rfl (aB.tl _)) (fun hl24=>?_)
 refine bV (σ:=(Z aY)) (fun i21 v23=>⟨[(1,.ptr 0 0),(2,.ptr 1 0),(3,pB false),(4,.ptr 2 0),(5,.ptr 3 0),(6,pN i21)],⟨[some ⟨189,[pS p0.aFy,bM p0.aFv]⟩,some ⟨213,[pS s_,.nil,.nil,.nil,pI 0,pS s_,.nil,pI 0,pS s_,pS s_,pI 0,pI 0,pS s_,.nil,.nil,.nil]⟩,some ⟨213,[pS x2.aFy,rS x6,b0 x10,afH v23 0,pI x14.aFw,pS x14.aFs,aV x14.aFt,pI x18.aFw,pS x18.aFz,pS x18.aFs,pI x18.aGa,pI x18.aFu.aFw,pS x18.aFu.aFs,aV x18.aFu.aFt,jV x18.aFt,tX x18.aFP]⟩,some ⟨189,[pS x20.aFy,bM x20.aFv]⟩],[⟨245,4,aY.trs (v23),false⟩]⟩⟩) (fun v23=>⟨[(1,.ptr 0 0),(2,.ptr 1 0),(3,pB false),(4,.ptr 2 0)],⟨[some ⟨189,[pS p0.aFy,bM p0.aFv]⟩,some ⟨213,[pS s_,.nil,.nil,.nil,pI 0,pS s_,.nil,pI 0,pS s_,pS s_,pI 0,pI 0,pS s_,.nil,.nil,.nil]⟩,some ⟨213,[pS x2.aFy,rS x6,b0 x10,afH v23 0,pI x14.aFw,pS x14.aFs,aV x14.aFt,pI x18.aFw,pS x18.aFz,pS x18.aFs,pI x18.aGa,pI x18.aFu.aFw,pS x18.aFu.aFs,aV x18.aFu.aFt,jV x18.aFt,tX x18.aFP]⟩,some ⟨189,[pS x20.aFy,bM x20.aFv]⟩],[⟨245,4,aY.trs (v23),false⟩]⟩⟩) (fA H) ?_ ?_
 ·rintro i21 v23 H
  refine gQ 9 ?_;refine cZ H (fun h25 h25l H=>?_) (fun h25 H=>?_)
  ·refine gQ 3 ?_;refine bN H fun x27 z26 H=>(bN H fun x29 z28 H=>(bN H fun x31 z30 H=>(cB H fun z32 H=>(dW (dI [4] bW (dD [32] eG (dI [5] bW (dD [34] eG (dI [6] bI (dI [35,36] mU (dI [37] (gZ (aB.cs (aR x20.aFv i21))) (dI [38] (bJ func175 (dP fu (aR x20.aFv i21) 0 _ z26)) (dI [39] tF1 ?_)))))))))))))
   refine dI [5] bW (dD [41] eG (dI [6] bI (dI [42,43] mU (dI [44] (gZ (aB.cs (aR x20.aFv i21))) (dI [45] (bJ func175 (dP fu (aR x20.aFv i21) 1 _ z28)) (dI [46] (bJ func219 (AQ fu x29 _ z30)) (dI [40,47] rQ (dI [48] (iL ([(aY.mk x27.aFy x31)]:Z aY)) (dE [33,49] (lO z32) (dI [4] bW (iW [51,50] hY (dN ?_))))))))))))
   exact gE 5
  exact gE 0
 rintro v23 H
 refine gQ 2 ?_;refine bN H fun x34 z33 H=>?_
 rcases nA (!(x34)) with g35|g35
 ·have H:=sS H g35
  refine dW (dD [1] (b4 [pS p0.aFy,bM p0.aFv]) (dI [52] (bJ func173 (eA fu p0 _ z33)) (dI [53] JP (dI [54] bI ?_))))
  iterate 4 refine JV g35 ?_
  refine dI [55] (CJ g35) (dI [60] bI ?_)
  iterate 5 refine JV rfl ?_
  refine dI [61] (CJ rfl) (dN ?_)
  exact gE 7
 have H:=sR H g35
 rcases nA (decide ((p0.aFv.length:Int)=0)) with g36|g36
 ·have H:=sS H g36
  refine dW (dD [1] (b4 [pS p0.aFy,bM p0.aFv]) (dI [52] (bJ func173 (eA fu p0 _ z33)) (dI [53] JP (dI [54] bI (dI (hg:=bD g35) [1] bW (dD (hg:=bD g35) [56] eG (dI (hg:=bD g35) [57] tLn (dI (hg:=bD g35) [58] rEq (dI [55,59] (D3 g35) (dI [60] bI ?_))))))))))
  iterate 5 refine JV g36 ?_
  refine dI [61] (CJ g36) (dN ?_)
  exact gE 7
 have H:=sR H g36
 refine bN H fun x38 z37 H=>(bN H fun x40 z39 H=>(dW (dD [1] (b4 [pS p0.aFy,bM p0.aFv]) (dI [52] (bJ func173 (eA fu p0 _ z33)) (dI [53] JP (dI [54] bI (dI (hg:=bD g35) [1] bW (dD (hg:=bD g35) [56] eG (dI (hg:=bD g35) [57] tLn (dI (hg:=bD g35) [58] rEq (dI [55,59] (D3 g35) (dI [60] bI (dD (hg:=bD g36) [4] (b4 [pS x2.aFy,rS x6,b0 x10,afH v23 0,pI x14.aFw,pS x14.aFs,aV x14.aFt,pI x18.aFw,pS x18.aFz,pS x18.aFs,pI x18.aGa,pI x18.aFu.aFw,pS x18.aFu.aFs,aV x18.aFu.aFt,jV x18.aFt,tX x18.aFP]) ?_)))))))))))))
 refine dI (hg:=bD g36) [62] (bJ func226 (NE fu (aQ.mk x2.aFy x6 x10 v23 x14 x18) _ z37)) (dD (hg:=bD g36) [1] (b4 [pS p0.aFy,bM p0.aFv]) (dI (hg:=bD g36) [63,64] (bJ func221 (w7 fu x38 p0 _ z39)) (dI (hg:=bD g36) [65] JP (dI [61,66] (D3 g36) (dN ?_)))))
 refine bG H (fun h41 H=>gE 6) fun h41 H=>?_;refine gQ 3 ?_;refine q1 (b4 [pS x2.aFy,rS x6,b0 x10,afH v23 0,pI x14.aFw,pS x14.aFs,aV x14.aFt,pI x18.aFw,pS x18.aFz,pS x18.aFs,pI x18.aGa,pI x18.aFu.aFw,pS x18.aFu.aFs,aV x18.aFu.aFt,jV x18.aFt,tX x18.aFP]) ?_;exact gE 3
def ag1(fu:Nat)(ps:Y):Nat→Unit→J (LR Unit Bool):=fun i1 _=>gd (i1<(ps).size) (sw (!decide ((((HX ps i1).toNat:Int):Int)=32)) (some (.ret false)) (some (.next ())))
def K9(fu:Nat)(ps:Y):J Bool:=so (loopN (ag1 fu ps) (ps.size-0) 0 ()) fun _=>some true
theorem ag2(fu:Nat)(ps:Y)(r:Bool)(H:K9 fu ps=some r):bU prog 97 [pS ps] (pB r):=by
 refine qJ func97 H (fun C hC H=>?_)
 refine gQ 9 ?_;refine szF 0 (fun hl2=>?_)
 refine bV (σ:=Unit) (fun i1 _=>⟨[(0,pS ps),(2,pB false),(3,pN i1)],⟨[],[]⟩⟩) (fun _=>⟨[(2,pB false)],⟨[],[]⟩⟩) (fA H) ?_ ?_
 ·rintro i1 ⟨⟩ H
  refine gQ 5 ?_;refine q1 (gP rfl rfl rfl underlying9) ?_;refine gQ 2 ?_;refine cZ H (fun h3 h3l H=>?_) (fun h3 H=>?_)
  ·have h3n:i1<ps.size:=by have:=of_decide_eq_true h3;omega
   refine gQ 7 ?_;refine cB H fun z4 H=>(q1 (hZ (k:=i1) rfl rfl rfl rfl z4 underlying9) ?_)
   refine gQ 2 ?_;refine bG H (fun h5 H=>gE 4) fun h5 H=>?_;exact gE 6
  exact gE 0
 rintro⟨⟩ H
 exact gE 4
def PZ(fu:Nat)(p1:Y×(LB)×(Z aZ)×(Z aO)×(Z aL)×(Z aQ))(p2:aB):J (Bool×(Y×(LB)×(Z aZ)×(Z aO)×(Z aL)×(Z aQ))):=bd (eF fu p2 0) fun x2=>sw (decide (x2.aFy=MI)) (bd (BA fu p2) fun(x5,x6)=>gd ((p1.2.2.1).length+(([x5]:Z aZ)).length≤68719476736) (some (x6,(p1.1,p1.2.1,p1.2.2.1++([x5]:Z aZ),p1.2.2.2.1,p1.2.2.2.2.1,p1.2.2.2.2.2)))) (sw (decide (x2.aFy=UV)) (bd (vF fu p2) fun(x10,x11)=>gd ((p1.2.2.2.1).length+(([x10]:Z aO)).length≤68719476736) (some (x11,(p1.1,p1.2.1,p1.2.2.1,p1.2.2.2.1++([x10]:Z aO),p1.2.2.2.2.1,p1.2.2.2.2.2)))) (sw (decide (x2.aFy=UW)) (bd (vH fu p2) fun(x15,x16)=>gd ((p1.2.2.2.2.1).length+(([x15]:Z aL)).length≤68719476736) (some (x16,(p1.1,p1.2.1,p1.2.2.1,p1.2.2.2.1,p1.2.2.2.2.1++([x15]:Z aL),p1.2.2.2.2.2)))) (sw (decide (x2.aFy=arQ)) (bd (vG fu p2) fun(x20,x21)=>gd ((p1.2.2.2.2.2).length+(([x20]:Z aQ)).length≤68719476736) (some (x21,(p1.1,p1.2.1,p1.2.2.1,p1.2.2.2.1,p1.2.2.2.2.1,p1.2.2.2.2.2++([x20]:Z aQ))))) (some (false,p1)))))
theorem ak0(fu:Nat)(p1:Y×(LB)×(Z aZ)×(Z aO)×(Z aL)×(Z aQ))(p2:aB)(r:Bool×(Y×(LB)×(Z aZ)×(Z aO)×(Z aL)×(Z aQ)))(H:PZ fu p1 p2=some r):cM prog 176 [.ptr 0 0,(aB.pv p2)] ⟨[some ⟨141,[pS p1.1,rS p1.2.1,CZ p1.2.2.1 0,pV p1.2.2.2.1 1,pX p1.2.2.2.2.1 2,pW p1.2.2.2.2.2 3]⟩],[⟨156,5,aZ.trs (p1.2.2.1),false⟩,⟨39,3,aO.trs (p1.2.2.2.1),false⟩,⟨163,12,aL.trs (p1.2.2.2.2.1),false⟩,⟨213,16,aQ.trs (p1.2.2.2.2.2),false⟩]⟩ (fun q t=>q=(pB r.1)∧t=⟨[some ⟨141,[pS r.2.1,rS r.2.2.1,CZ r.2.2.2.1 0,pV r.2.2.2.2.1 1,pX r.2.2.2.2.2.1 2,pW r.2.2.2.2.2.2 3]⟩],[⟨156,5,aZ.trs (r.2.2.2.1),false⟩,⟨39,3,aO.trs (r.2.2.2.2.1),false⟩,⟨163,12,aL.trs (r.2.2.2.2.2.1),false⟩,⟨213,16,aQ.trs (r.2.2.2.2.2.2),false⟩]⟩):=by
 refine qJ func176 H (fun C hC H=>?_)
 refine gQ 2 ?_;refine q1 (fQ ([pS p2.aFy,bM p2.aFv])) ?_;refine gQ 5 ?_;refine q1 (b4 [pS p2.aFy,bM p2.aFv]) (bN H fun x2 z1 H=>(q1 (bJ func175 (dP fu p2 0 _ z1)) ?_))
 refine gQ 8 ?_;refine bG H (fun h3 H=>?_) (fun h3 H=>?_)
 ·refine gQ 2 ?_;refine q1 (b4 [pS p2.aFy,bM p2.aFv]) (eX H fun x5 x6 z4 H=>(q1 (bJ func200 (UP fu p2 _ z4)) ?_))
  refine gQ 8 ?_;refine cB H fun z7 H=>(dW ?_)
  iterate 2 refine dI [0] bI ?_
  refine dI [24] wZ (dI [25] bW (dD [26] eG (dD [5] (b4 [pS x5.aFs,rS x5.aFD,pB x5.aF1,pB x5.aFR,iF x5.aFQ]) (dI [28] (iL ([x5]:Z aZ)) (dE [27,29] (lO z7) (dI [23] wZ (dI [31] bW (iW [32,30] hY (dN ?_)))))))))
  exact gE 5
 refine gQ 5 ?_;refine bG H (fun h8 H=>?_) (fun h8 H=>?_)
 ·refine gQ 2 ?_;refine q1 (b4 [pS p2.aFy,bM p2.aFv]) (eX H fun x10 x11 z9 H=>(q1 (bJ func201 (NN fu p2 _ z9)) ?_))
  refine gQ 8 ?_;refine cB H fun z12 H=>(dW ?_)
  iterate 2 refine dI [0] bI ?_
  refine dI [42] wZ (dI [43] bW (dD [44] eG (dD [7] (b4 [pS x10.aFs,rS x10.aFH,eB x10.aFx]) (dI [46] (iL ([x10]:Z aO)) (dE [45,47] (lO z12) (dI [41] wZ (dI [49] bW (iW [50,48] hY (dN ?_)))))))))
  exact gE 5
 refine gQ 5 ?_;refine bG H (fun h13 H=>?_) (fun h13 H=>?_)
 ·refine gQ 2 ?_;refine q1 (b4 [pS p2.aFy,bM p2.aFv]) (eX H fun x15 x16 z14 H=>(q1 (bJ func202 (NS fu p2 _ z14)) ?_))
  refine gQ 8 ?_;refine cB H fun z17 H=>(dW ?_)
  iterate 2 refine dI [0] bI ?_
  refine dI [60] wZ (dI [61] bW (dD [62] eG (dD [9] (b4 [pS x15.aFz,rS x15.aFH,pI x15.aFJ.aFw,pS x15.aFJ.aFs,aV x15.aFJ.aFt,b0 x15.aFL,pB x15.aFX,pB x15.aF4,pI x15.aFR.aFw,pS x15.aFR.aFs,aV x15.aFR.aFt,n7 x15.aFW]) (dI [64] (iL ([x15]:Z aL)) (dE [63,65] (lO z17) (dI [59] wZ (dI [67] bW (iW [68,66] hY (dN ?_)))))))))
  exact gE 5
 refine gQ 5 ?_;refine bG H (fun h18 H=>?_) (fun h18 H=>?_)
 ·refine gQ 2 ?_;refine q1 (b4 [pS p2.aFy,bM p2.aFv]) (eX H fun x20 x21 z19 H=>(q1 (bJ func203 (NP fu p2 _ z19)) ?_))
  refine gQ 8 ?_;refine cB H fun z22 H=>(dW ?_)
  iterate 2 refine dI [0] bI ?_
  refine dI [78] wZ (dI [79] bW (dD [80] eG (dD [11] (b4 [pS x20.aFs,rS x20.aFH,b0 x20.aFL,Z3 x20.aFO,pI x20.aFM.aFw,pS x20.aFM.aFs,aV x20.aFM.aFt,pI x20.aFE.aFw,pS x20.aFE.aFz,pS x20.aFE.aFs,pI x20.aFE.aGa,pI x20.aFE.aFu.aFw,pS x20.aFE.aFu.aFs,aV x20.aFE.aFu.aFt,jV x20.aFE.aFt,tX x20.aFE.aFP]) (dI [82] (iL ([x20]:Z aQ)) (dE [81,83] (lO z22) (dI [77] wZ (dI [85] bW (iW [86,84] hY (dN ?_)))))))))
  exact gE 5
 exact gE 5
def ag3(fu:Nat)(p0:aN):Nat→((LB))→J (LR ((LB)) ((LB)×(LB)×(LB)×(LB))):=fun i1 v3=>gd ((v3).length+(([((aR p0.aFK i1).aFs)]:LB)).length≤68719476736) (some (.next (v3++([((aR p0.aFK i1).aFs)]:LB))))
def ag5(fu:Nat)(p0:aN)(v3:LB)(i7:Nat)(v10 v11:LB):Nat→((LB))→J (LR ((LB)) (LR ((LB)×(LB)) ((LB)×(LB)×(LB)×(LB)))):=fun i15 v17=>gd ((v17).length+(([((aR ((aR p0.aFB i7).aFx) i15).aFs)]:LB)).length≤68719476736) (some (.next (v17++([((aR ((aR p0.aFB i7).aFx) i15).aFs)]:LB))))
def ag4(fu:Nat)(p0:aN)(v3:LB):Nat→((LB)×(LB))→J (LR ((LB)×(LB)) ((LB)×(LB)×(LB)×(LB))):=fun i7 (v10,v11)=>gd ((v10).length+(([((aR p0.aFB i7).aFs)]:LB)).length≤68719476736) (so (loopN (ag5 fu p0 v3 i7 v10 v11) (((aR p0.aFB i7).aFx).length-0) 0 v11) fun v17=>some (.next ((v10++([((aR p0.aFB i7).aFs)]:LB)),v17)))
def ag6(fu:Nat)(p0:aN)(v3 v10 v11:LB):Nat→((LB))→J (LR ((LB)) ((LB)×(LB)×(LB)×(LB))):=fun i21 v23=>lt (aR p0.aFT i21) fun y26=>gd ((v23).length+(([y26.aFs]:LB)).length≤68719476736) (some (.next (v23++([y26.aFs]:LB))))
def LA(fu:Nat)(p0:aN):J ((LB)×(LB)×(LB)×(LB)):=so (loopN (ag3 fu p0) (p0.aFK.length-0) 0 ([])) fun v3=>so (loopN (ag4 fu p0 v3) (p0.aFB.length-0) 0 (([]),([]))) fun(v10,v11)=>so (loopN (ag6 fu p0 v3 v10 v11) (p0.aFT.length-0) 0 ([])) fun v23=>some (v3,v10,v11,v23)
theorem ag7(fu:Nat)(p0:aN)(r:(LB)×(LB)×(LB)×(LB))(H:LA fu p0=some r):bU prog 204 [(aN.pv p0)] (.tup [rS r.1,rS r.2.1,rS r.2.2.1,rS r.2.2.2]):=by
 refine qJ func204 H (fun C hC H=>?_)
 refine gQ 2 ?_;refine q1 (fQ (fS p0)) ?_;refine gQ 7 ?_;refine q1 (sM ([]:LB)) ?_;refine gQ 4 ?_;refine q1 (sM ([]:LB)) ?_;refine gQ 4 ?_;refine q1 (sM ([]:LB)) ?_;refine gQ 4 ?_;refine q1 (sM ([]:LB)) ?_;refine gQ 7 ?_;refine dR.fact (cP 0 2 rfl rfl rfl (aZ.tl _)) (fun hl4=>?_)
 refine bV (σ:=(LB)) (fun i1 v3=>⟨[(1,.ptr 0 0),(2,.nil),(3,.nil),(4,.nil),(5,.nil),(6,aS v3 0),(7,aS [] 1),(8,aS [] 2),(9,aS [] 3),(10,pN i1)],⟨[some ⟨141,fS p0⟩],[⟨9,1,bA (v3),false⟩,⟨9,1,bA ([]),false⟩,⟨9,1,bA ([]),false⟩,⟨9,1,bA ([]),false⟩]⟩⟩) (fun v3=>⟨[(1,.ptr 0 0),(2,.nil),(3,.nil),(4,.nil),(5,.nil),(6,aS v3 0),(7,aS [] 1),(8,aS [] 2),(9,aS [] 3)],⟨[some ⟨141,fS p0⟩],[⟨9,1,bA (v3),false⟩,⟨9,1,bA ([]),false⟩,⟨9,1,bA ([]),false⟩,⟨9,1,bA ([]),false⟩]⟩⟩) (fA H) ?_ ?_
 ·rintro i1 v3 H
  refine gQ 9 ?_;refine cZ H (fun h5 h5l H=>?_) (fun h5 H=>?_)
  ·refine gQ 11 ?_;refine q1 (iL ([((aR p0.aFK i1).aFs)]:LB)) (cB H fun z6 H=>(q1 (lO z6) ?_))
   exact gE 7
  exact gE 0
 rintro v3 H
 refine gQ 5 ?_;refine dR.fact (cP 0 3 rfl rfl rfl (aO.tl _)) (fun hl12=>?_)
 refine bV (σ:=(LB)×(LB)) (fun i7 (v10,v11)=>⟨[(1,.ptr 0 0),(2,.nil),(3,.nil),(4,.nil),(5,.nil),(6,aS v3 0),(7,aS v10 1),(8,aS v11 2),(9,aS [] 3),(11,pN i7)],⟨[some ⟨141,fS p0⟩],[⟨9,1,bA (v3),false⟩,⟨9,1,bA (v10),false⟩,⟨9,1,bA (v11),false⟩,⟨9,1,bA ([]),false⟩]⟩⟩) (fun(v10,v11)=>⟨[(1,.ptr 0 0),(2,.nil),(3,.nil),(4,.nil),(5,.nil),(6,aS v3 0),(7,aS v10 1),(8,aS v11 2),(9,aS [] 3)],⟨[some ⟨141,fS p0⟩],[⟨9,1,bA (v3),false⟩,⟨9,1,bA (v10),false⟩,⟨9,1,bA (v11),false⟩,⟨9,1,bA ([]),false⟩]⟩⟩) (fA H) ?_ ?_
 ·rintro i7 ⟨v10,v11⟩ H
  refine gQ 9 ?_;refine cZ H (fun h13 h13l H=>?_) (fun h13 H=>?_)
  ·refine gQ 12 ?_;refine q1 (iL ([((aR p0.aFB i7).aFs)]:LB)) (cB H fun z14 H=>(q1 (lO z14) ?_))
   refine gQ 6 ?_;refine bV (σ:=(LB)) (fun i15 v17=>⟨[(1,.ptr 0 0),(2,.nil),(3,.nil),(4,.nil),(5,.nil),(6,aS v3 0),(7,aS (v10++([((aR p0.aFB i7).aFs)]:LB)) 1),(8,aS v17 2),(9,aS [] 3),(11,pN i7),(12,pN i15),(34,pN i7),(35,.ptr 0 3),(36,sD p0.aFB),(37,pN p0.aFB.length),(38,pB (decide ((i7:Int)<(p0.aFB.length:Int)))),(41,aS v10 1),(42,.ptr 0 3),(43,sD p0.aFB),(44,pN i7),(45,.eptr (aO.cs (aR p0.aFB i7))),(46,.eptr (aO.cs (aR p0.aFB i7))),(47,pS ((aR p0.aFB i7).aFs)),(48,rS ([((aR p0.aFB i7).aFs)]:LB)),(49,aS (v10++([((aR p0.aFB i7).aFs)]:LB)) 1)],⟨[some ⟨141,fS p0⟩],[⟨9,1,bA (v3),false⟩,⟨9,1,bA (v10++([((aR p0.aFB i7).aFs)]:LB)),false⟩,⟨9,1,bA (v17),false⟩,⟨9,1,bA ([]),false⟩]⟩⟩) (fun v17=>⟨[(1,.ptr 0 0),(2,.nil),(3,.nil),(4,.nil),(5,.nil),(6,aS v3 0),(7,aS (v10++([((aR p0.aFB i7).aFs)]:LB)) 1),(8,aS v17 2),(9,aS [] 3),(11,pN i7),(34,pN i7),(35,.ptr 0 3),(36,sD p0.aFB),(37,pN p0.aFB.length),(38,pB (decide ((i7:Int)<(p0.aFB.length:Int)))),(41,aS v10 1),(42,.ptr 0 3),(43,sD p0.aFB),(44,pN i7),(45,.eptr (aO.cs (aR p0.aFB i7))),(46,.eptr (aO.cs (aR p0.aFB i7))),(47,pS ((aR p0.aFB i7).aFs)),(48,rS ([((aR p0.aFB i7).aFs)]:LB)),(49,aS (v10++([((aR p0.aFB i7).aFs)]:LB)) 1)],⟨[some ⟨141,fS p0⟩],[⟨9,1,bA (v3),false⟩,⟨9,1,bA (v10++([((aR p0.aFB i7).aFs)]:LB)),false⟩,⟨9,1,bA (v17),false⟩,⟨9,1,bA ([]),false⟩]⟩⟩) (fA H) ?_ ?_
   ·rintro i15 v17 H
    refine gQ 10 ?_;refine acJ 56 (aE.tl _) (fun hl18=>?_)
    refine gQ 3 ?_;refine cZ H (fun h19 h19l H=>?_) (fun h19 H=>?_)
    ·refine gQ 15 ?_;refine q1 (iL ([((aR ((aR p0.aFB i7).aFx) i15).aFs)]:LB)) (cB H fun z20 H=>(q1 (lO z20) ?_))
     exact gE 7
    exact gE 0
   rintro v17 H
   exact gE 5
  exact gE 0
 rintro⟨v10,v11⟩ H
 refine gQ 5 ?_;refine dR.fact (cP 0 5 rfl rfl rfl (aQ.tl _)) (fun hl24=>?_)
 refine bV (σ:=(LB)) (fun i21 v23=>⟨[(1,.ptr 0 0),(2,.nil),(3,.nil),(4,.nil),(5,.nil),(6,aS v3 0),(7,aS v10 1),(8,aS v11 2),(9,aS v23 3),(13,pN i21)],⟨[some ⟨141,fS p0⟩],[⟨9,1,bA (v3),false⟩,⟨9,1,bA (v10),false⟩,⟨9,1,bA (v11),false⟩,⟨9,1,bA (v23),false⟩]⟩⟩) (fun v23=>⟨[(2,.nil),(3,.nil),(4,.nil),(5,.nil),(6,aS v3 0),(7,aS v10 1),(8,aS v11 2),(9,aS v23 3)],⟨[some ⟨141,fS p0⟩],[⟨9,1,bA (v3),false⟩,⟨9,1,bA (v10),false⟩,⟨9,1,bA (v11),false⟩,⟨9,1,bA (v23),false⟩]⟩⟩) (fA H) ?_ ?_
 ·rintro i21 v23 H
  refine gQ 9 ?_;refine cZ H (fun h25 h25l H=>?_) (fun h25 H=>?_)
  ·refine gQ 8 ?_;refine gM H fun y26 h27 H=>(q1 (AR h27 h25l) ?_)
   refine gQ 2 ?_;refine q1 (iL ([y26.aFs]:LB)) (cB H fun z28 H=>(q1 (lO z28) ?_))
   exact gE 7
  exact gE 0
 rintro v23 H
 exact gE 11
def SD(fu:Nat)(pp:aN):Nat→Unit→J (LR Unit Bool):=fun i1 _=>bd (uV fu (aR pp.aFK i1)) fun x5=>sw (!(x5)) (some (.ret false)) (some (.next ()))
def SE(fu:Nat)(pp:aN):Nat→Unit→J (LR Unit Bool):=fun i7 _=>bd (lG fu (aR pp.aFB i7)) fun x11=>sw (!(x11)) (some (.ret false)) (some (.next ()))
def SF(fu:Nat)(pp:aN):Nat→Unit→J (LR Unit Bool):=fun i13 _=>lt (aR pp.aFG i13) fun y16=>bd (lH fu y16) fun x19=>sw (!(x19)) (some (.ret false)) (some (.next ()))
def SG(fu:Nat)(pp:aN):Nat→Unit→J (LR Unit Bool):=fun i21 _=>lt (aR pp.aFT i21) fun y24=>bd (rJ fu y24) fun x27=>sw (!(x27)) (some (.ret false)) (some (.next ()))
def AJ(fu:Nat)(pp:aN):J Bool:=so (loopN (SD fu pp) (pp.aFK.length-0) 0 ()) fun _=>so (loopN (SE fu pp) (pp.aFB.length-0) 0 ()) fun _=>so (loopN (SF fu pp) (pp.aFG.length-0) 0 ()) fun _=>so (loopN (SG fu pp) (pp.aFT.length-0) 0 ()) fun _=>some true
theorem ag8(fu:Nat)(pp:aN)(r:Bool)(H:AJ fu pp=some r):bU prog 208 [(aN.pv pp)] (pB r):=by
 refine qJ func208 H (fun C hC H=>?_)
 refine gQ 2 ?_;refine q1 (fQ (fS pp)) ?_;refine gQ 7 ?_;refine dR.fact (cP 0 2 rfl rfl rfl (aZ.tl _)) (fun hl2=>?_)
 refine bV (σ:=Unit) (fun i1 _=>⟨[(1,.ptr 0 0),(2,pB false),(3,pN i1)],⟨[some ⟨141,fS pp⟩],[]⟩⟩) (fun _=>⟨[(1,.ptr 0 0),(2,pB false)],⟨[some ⟨141,fS pp⟩],[]⟩⟩) (fA H) ?_ ?_
 ·rintro i1 ⟨⟩ H
  refine gQ 9 ?_;refine cZ H (fun h3 h3l H=>?_) (fun h3 H=>?_)
  ·refine gQ 9 ?_;refine q1 (gZ (aZ.cs (aR pp.aFK i1))) (bN H fun x5 z4 H=>(q1 (bJ func229 (G2 fu (aR pp.aFK i1) _ z4)) ?_))
   refine gQ 2 ?_;refine bG H (fun h6 H=>gE 4) fun h6 H=>?_;exact gE 6
  exact gE 0
 rintro⟨⟩ H
 refine gQ 5 ?_;refine dR.fact (cP 0 3 rfl rfl rfl (aO.tl _)) (fun hl8=>?_)
 refine bV (σ:=Unit) (fun i7 _=>⟨[(1,.ptr 0 0),(2,pB false),(4,pN i7)],⟨[some ⟨141,fS pp⟩],[]⟩⟩) (fun _=>⟨[(1,.ptr 0 0),(2,pB false)],⟨[some ⟨141,fS pp⟩],[]⟩⟩) (fA H) ?_ ?_
 ·rintro i7 ⟨⟩ H
  refine gQ 9 ?_;refine cZ H (fun h9 h9l H=>?_) (fun h9 H=>?_)
  ·refine gQ 9 ?_;refine q1 (gZ (aO.cs (aR pp.aFB i7))) (bN H fun x11 z10 H=>(q1 (bJ func230 (BJ fu (aR pp.aFB i7) _ z10)) ?_))
   refine gQ 2 ?_;refine bG H (fun h12 H=>gE 4) fun h12 H=>?_;exact gE 6
  exact gE 0
 rintro⟨⟩ H
 refine gQ 5 ?_;refine dR.fact (cP 0 4 rfl rfl rfl (aL.tl _)) (fun hl14=>?_)
 refine bV (σ:=Unit) (fun i13 _=>⟨[(1,.ptr 0 0),(2,pB false),(5,pN i13)],⟨[some ⟨141,fS pp⟩],[]⟩⟩) (fun _=>⟨[(1,.ptr 0 0),(2,pB false)],⟨[some ⟨141,fS pp⟩],[]⟩⟩) (fA H) ?_ ?_
 ·rintro i13 ⟨⟩ H
  refine gQ 9 ?_;refine cZ H (fun h15 h15l H=>?_) (fun h15 H=>?_)
  ·refine gQ 8 ?_;refine gM H fun y16 h17 H=>(q1 (AR h17 h15l) (q1 (gZ (aL.cs y16)) (bN H fun x19 z18 H=>(q1 (bJ func231 (BO fu y16 _ z18)) ?_))))
   refine gQ 2 ?_;refine bG H (fun h20 H=>gE 4) fun h20 H=>?_;exact gE 6
  exact gE 0
 rintro⟨⟩ H
 refine gQ 5 ?_;refine dR.fact (cP 0 5 rfl rfl rfl (aQ.tl _)) (fun hl22=>?_)
 refine bV (σ:=Unit) (fun i21 _=>⟨[(1,.ptr 0 0),(2,pB false),(6,pN i21)],⟨[some ⟨141,fS pp⟩],[]⟩⟩) (fun _=>⟨[(2,pB false)],⟨[some ⟨141,fS pp⟩],[]⟩⟩) (fA H) ?_ ?_
 ·rintro i21 ⟨⟩ H
  refine gQ 9 ?_;refine cZ H (fun h23 h23l H=>?_) (fun h23 H=>?_)
  ·refine gQ 8 ?_;refine gM H fun y24 h25 H=>(q1 (AR h25 h23l) (q1 (gZ (aQ.cs y24)) (bN H fun x27 z26 H=>(q1 (bJ func232 (BK fu y24 _ z26)) ?_))))
   refine gQ 2 ?_;refine bG H (fun h28 H=>gE 4) fun h28 H=>?_;exact gE 6
  exact gE 0
 rintro⟨⟩ H
 exact gE 4
def oF(fu:Nat)(p0:aN):J Bool:=bd (LA fu p0) fun(x2,x3,x4,x5)=>bd (dX fu p0.aFs) fun x7=>sw (!(x7)) (some false) (bd (iI fu p0.aF6 5) fun x10=>sw (!(x10)) (some false) (bd (mL fu p0.aF6 p0.aFs) fun x13=>sw x13 (some false) (sw (decide ((bB ((bB ((bB ((p0.aFK.length:Int)+(p0.aFB.length:Int)))+(p0.aFG.length:Int)))+(p0.aFT.length:Int)):Int)>24)) (some false) (bd (l0 fu x2) fun x17=>sw x17 (bd (l0 fu x3) fun x20=>sw x20 (bd (l0 fu x4) fun x23=>sw x23 (bd (l0 fu x5) fun x26=>sw x26 (bd (AJ fu p0) fun x29=>some x29) (some false)) (some false)) (some false)) (some false)))))
theorem PK(fu:Nat)(p0:aN)(r:Bool)(H:oF fu p0=some r):bU prog 177 [(aN.pv p0)] (pB r):=by
 refine qJ func177 H (fun C hC H=>?_)
 refine gQ 2 ?_;refine q1 (fQ (fS p0)) ?_;refine gQ 4 ?_;refine q1 (b4 [pS p0.aFs,rS p0.aF6,UA p0.aFK,sD p0.aFB,qG p0.aFG,ME p0.aFT]) (aAM H fun x2 x3 x4 x5 z1 H=>(q1 (bJ func204 (ag7 fu p0 _ z1)) ?_))
 refine gQ 15 ?_;refine bN H fun x7 z6 H=>(q1 (bJ func205 (eT fu p0.aFs _ z6)) ?_)
 refine gQ 2 ?_;refine dY 18 H (fun g8 H=>gE 36) fun g8 H=>?_;refine gQ 2 ?_;refine bN H fun x10 z9 H=>(qg g8 (bJ func206 (iU fu p0.aF6 5 _ z9)) ?_)
 refine gQ 3 ?_;refine dY 24 H (fun g11 H=>gE 30) fun g11 H=>?_;refine gQ 4 ?_;refine bN H fun x13 z12 H=>(qg g11 (bJ func153 (nT fu p0.aF6 p0.aFs _ z12)) ?_)
 refine gQ 2 ?_;refine dY 31 H (fun g14 H=>gE 23) fun g14 H=>?_;refine gQ 6 ?_;refine qg g14 rAw ?_;refine gQ 3 ?_;refine qg g14 rAw ?_;refine gQ 3 ?_;refine qg g14 rAw ?_;refine gQ 3 ?_;refine bG H (fun h15 H=>gE 4) fun h15 H=>?_;refine gQ 4 ?_;refine bN H fun x17 z16 H=>(q1 (bJ func207 (nR fu x2 _ z16)) (q1 bI ?_))
 refine dY 51 H (fun g18 H=>?_) fun g18 H=>?_
 ·refine qg g18 bI (bN H fun x20 z19 H=>(qg g18 (bJ func207 (nR fu x3 _ z19)) ?_))
  refine gQ 2 ?_;refine dY 55 H (fun g21 H=>?_) fun g21 H=>?_
  ·refine qg g21 bI (bN H fun x23 z22 H=>(qg g21 (bJ func207 (nR fu x4 _ z22)) ?_))
   refine gQ 2 ?_;refine dY 59 H (fun g24 H=>?_) fun g24 H=>?_
   ·refine qg g24 bI (bN H fun x26 z25 H=>(qg g24 (bJ func207 (nR fu x5 _ z25)) ?_))
    refine gQ 2 ?_;refine dY 63 H (fun g27 H=>?_) fun g27 H=>?_
    ·refine qg g27 (b4 [pS p0.aFs,rS p0.aF6,UA p0.aFK,sD p0.aFB,qG p0.aFG,ME p0.aFT]) (bN H fun x29 z28 H=>(qg g27 (bJ func208 (ag8 fu p0 _ z28)) ?_))
     exact gE 3
    exact gE 5
   exact gE 9
  exact gE 13
 exact gE 17
def DJ(fu:Nat)(p0 x2:aB)(x4:LB)(x5:Bool)(x7:aB)(x9:Bool):Nat→(Y×(LB)×(Z aZ)×(Z aO)×(Z aL)×(Z aQ))→J (LR (Y×(LB)×(Z aZ)×(Z aO)×(Z aL)×(Z aQ)) (aN×Bool)):=fun i17 (v18,v19,v24,v25,v26,v27)=>bd (PZ fu (v18,v19,v24,v25,v26,v27) (aR p0.aFv i17)) fun(x31,x32)=>sw (!(x31)) (some (.ret ((aN.mk s_ [] [] [] [] []),false))) (some (.next (x32.1,x32.2.1,x32.2.2.1,x32.2.2.2.1,x32.2.2.2.2.1,x32.2.2.2.2.2)))
def oH(fu:Nat)(p0:aB):J (aN×Bool):=bd (eF fu p0 2) fun x2=>bd (D0 fu x2.aFv) fun(x4,x5)=>bd (eF fu p0 1) fun x7=>bd (jM fu p0) fun x9=>sw (!(x9)) (some ((aN.mk s_ [] [] [] [] []),false)) (sw (decide ((p0.aFv.length:Int)<3)) (some ((aN.mk s_ [] [] [] [] []),false)) (gd (0<(p0.aFv).length) (sw (!decide ((aR p0.aFv 0).aFy=aeK)) (some ((aN.mk s_ [] [] [] [] []),false)) (gd (2<(p0.aFv).length) (sw (!decide ((aR p0.aFv 2).aFy=s_)) (some ((aN.mk s_ [] [] [] [] []),false)) (sw (!(x5)) (some ((aN.mk s_ [] [] [] [] []),false)) (so (loopN (DJ fu p0 x2 x4 x5 x7 x9) (p0.aFv.length-3) 3 (x7.aFy,x4,([]),([]),([]),([]))) fun(v18,v19,v24,v25,v26,v27)=>bd (oF fu (aN.mk v18 v19 v24 v25 v26 v27)) fun x35=>sw (!(x35)) (some ((aN.mk s_ [] [] [] [] []),false)) (some ((aN.mk v18 v19 v24 v25 v26 v27),true)))))))))
theorem PM(fu:Nat)(p0:aB)(r:aN×Bool)(H:oH fu p0=some r):bU prog 146 [(aB.pv p0)] (.tup [(aN.pv r.1),pB r.2]):=by
 refine qJ func146 H (fun C hC H=>?_)
 refine gQ 2 ?_;refine q1 (fQ ([pS p0.aFy,bM p0.aFv])) ?_;refine gQ 5 ?_;refine q1 (b4 [pS p0.aFy,bM p0.aFv]) (bN H fun x2 z1 H=>(q1 (bJ func175 (dP fu p0 2 _ z1)) (q1 tF1 (eX H fun x4 x5 z3 H=>(q1 (bJ func174 (LG fu x2.aFv _ z3)) ?_)))))
 refine gQ 8 ?_;refine q1 (b4 [pS p0.aFy,bM p0.aFv]) (bN H fun x7 z6 H=>(q1 (bJ func175 (dP fu p0 1 _ z6)) ?_))
 refine gQ 9 ?_;refine q1 (b4 [pS p0.aFy,bM p0.aFv]) (bN H fun x9 z8 H=>(q1 (bJ func173 (eA fu p0 _ z8)) ?_))
 refine gQ 2 ?_;refine dY 23 H (fun g10 H=>gE 33) fun g10 H=>?_;refine gQ 6 ?_;refine dY 29 H (fun g11 H=>?_) fun g11 H=>?_
 ·have g11n:p0.aFv.length<3:=by have:=of_decide_eq_true g11;omega
  exact gE 27
 refine gQ 2 ?_;refine cB H fun z12 H=>?_;refine gQ 6 ?_;refine dY 37 H (fun g13 H=>gE 19) fun g13 H=>?_;refine gQ 2 ?_;refine cB H fun z14 H=>?_;refine gQ 6 ?_;refine dY 45 H (fun g15 H=>gE 11) fun g15 H=>?_;refine gQ 4 ?_;refine bG H (fun h16 H=>gE 6) fun h16 H=>?_;refine gQ 6 ?_;refine kC (eY (k:=2) (j:=2) 156 5 (by decide) rfl rfl) (kC (eY (k:=2) (j:=3) 39 3 (by decide) rfl rfl) (kC (eY (k:=2) (j:=4) 163 12 (by decide) rfl rfl) (kC (eY (k:=2) (j:=5) 213 16 (by decide) rfl rfl) ?_)))
 refine gV 25 (aB.tl _) (fun hl28=>?_)
 refine bV (σ:=Y×(LB)×(Z aZ)×(Z aO)×(Z aL)×(Z aQ)) (fun i17 (v18,v19,v24,v25,v26,v27)=>⟨[(1,.ptr 0 0),(2,.ptr 1 0),(3,pB false),(6,.ptr 2 0),(7,pN i17)],⟨[some ⟨189,[pS p0.aFy,bM p0.aFv]⟩,some ⟨141,[pS s_,.nil,.nil,.nil,.nil,.nil]⟩,some ⟨141,[pS v18,rS v19,CZ v24 0,pV v25 1,pX v26 2,pW v27 3]⟩],[⟨156,5,aZ.trs (v24),false⟩,⟨39,3,aO.trs (v25),false⟩,⟨163,12,aL.trs (v26),false⟩,⟨213,16,aQ.trs (v27),false⟩]⟩⟩) (fun(v18,v19,v24,v25,v26,v27)=>⟨[(2,.ptr 1 0),(3,pB false),(6,.ptr 2 0)],⟨[some ⟨189,[pS p0.aFy,bM p0.aFv]⟩,some ⟨141,[pS s_,.nil,.nil,.nil,.nil,.nil]⟩,some ⟨141,[pS v18,rS v19,CZ v24 0,pV v25 1,pX v26 2,pW v27 3]⟩],[⟨156,5,aZ.trs (v24),false⟩,⟨39,3,aO.trs (v25),false⟩,⟨163,12,aL.trs (v26),false⟩,⟨213,16,aQ.trs (v27),false⟩]⟩⟩) (fA H) ?_ ?_
 ·rintro i17 ⟨v18,v19,v24,v25,v26,v27⟩ H
  refine gQ 9 ?_;refine cZ H (fun h29 h29l H=>?_) (fun h29 H=>?_)
  ·refine gQ 9 ?_;refine q1 (gZ (aB.cs (aR p0.aFv i17))) (eX H fun x31 x32 z30 H=>(q1 (fO [2] [0,1,2,3] func176 (ak0 fu (v18,v19,v24,v25,v26,v27) (aR p0.aFv i17) _ z30)) ?_))
   refine gQ 2 ?_;refine bG H (fun h33 H=>gE 6) fun h33 H=>?_;exact gE 6
  exact gE 0
 rintro⟨v18,v19,v24,v25,v26,v27⟩ H
 refine gQ 3 ?_;refine q1 (b4 [pS v18,rS v19,CZ v24 0,pV v25 1,pX v26 2,pW v27 3]) (bN H fun x35 z34 H=>(q1 (bJ func177 (PK fu (aN.mk v18 v19 v24 v25 v26 v27) _ z34)) ?_))
 refine gQ 2 ?_;refine bG H (fun h36 H=>gE 6) fun h36 H=>?_;refine gQ 3 ?_;refine q1 (b4 [pS v18,rS v19,CZ v24 0,pV v25 1,pX v26 2,pW v27 3]) ?_;exact gE 3
def uW(fu:Nat)(ps:Y):J (aN×Bool):=bd (zN fu ps) fun(x2,x3)=>sw (!(x3)) (some ((aN.mk s_ [] [] [] [] []),false)) (bd (oH fu x2) fun(x6,x7)=>some (x6,x7))
theorem UL(fu:Nat)(ps:Y)(r:aN×Bool)(H:uW fu ps=some r):bU prog 98 [pS ps] (.tup [(aN.pv r.1),pB r.2]):=by
 refine qJ func98 H (fun C hC H=>?_)
 refine gQ 8 ?_;refine eX H fun x2 x3 z1 H=>(q1 (bJ func145 (aaO fu ps _ z1)) ?_)
 refine gQ 13 ?_;refine bG H (fun h4 H=>gE 6) fun h4 H=>?_;refine gQ 3 ?_;refine q1 (b4 [pS x2.aFy,bM x2.aFv]) (eX H fun x6 x7 z5 H=>(q1 (bJ func146 (PM fu x2 _ z5)) ?_))
 exact gE 5
def XA(m:Y→J (aH×Int)):Prop:= ∀(ps:Y) (r:aH×Int),m ps=some r→xF prog 46 [pS ps] ⟨[],[]⟩ [] 141 6 (aN.trs (r.1.aFr)) (fun k=> .tup [.agg [uE r.1.aFr k],pI r.2])
def G3(fu:Nat)(ps:Y)(x2:LB):Nat→((Z aN))→J (LR ((Z aN)) (aH×Int)):=fun i3 v5=>bd (K9 fu (aR x2 i3)) fun x9=>sw x9 (some (.next v5)) (bd (uW fu (aR x2 i3)) fun(x12,x13)=>sw (!(x13)) (some (.ret ((aH.mk []),(v5.length:Int)))) (sw (decide ((v5.length:Int)=5)) (some (.ret ((aH.mk []),(v5.length:Int)))) (gd ((v5).length+(([x12]:Z aN)).length≤68719476736) (some (.next (v5++([x12]:Z aN)))))))
def r9(fu:Nat)(ps:Y):J (aH×Int):=bd (IN fu ps (10:UInt8)) fun x2=>so (loopN (G3 fu ps x2) (x2.length-0) 0 ([])) fun v5=>some ((aH.mk v5),(-1))
theorem UM(fu:Nat):XA (r9 fu):=by
 intro ps r H
 unfold xF
 refine qJ func46 H (fun C hC H=>?_)
 refine gQ 14 ?_;refine bN H fun x2 z1 H=>(q1 (bJ func96 (acV fu ps (10:UInt8) _ z1)) ?_)
 refine gQ 7 ?_;refine kC (eY (k:=1) (j:=0) 141 6 (by decide) rfl rfl) ?_;refine gV 5 (b6 _) (fun hl6=>?_)
 refine bV (σ:=(Z aN)) (fun i3 v5=>⟨[(2,.ptr 0 0),(3,pI 0),(4,.ptr 1 0),(5,rS x2),(6,pN i3)],⟨[some ⟨26,[.nil]⟩,some ⟨26,[uE v5 0]⟩],[⟨141,6,aN.trs (v5),false⟩]⟩⟩) (fun v5=>⟨[(2,.ptr 0 0),(3,pI 0),(4,.ptr 1 0)],⟨[some ⟨26,[.nil]⟩,some ⟨26,[uE v5 0]⟩],[⟨141,6,aN.trs (v5),false⟩]⟩⟩) (fA H) ?_ ?_
 ·rintro i3 v5 H
  refine gQ 8 ?_;refine cZ H (fun h7 h7l H=>?_) (fun h7 H=>?_)
  ·refine gQ 10 ?_;refine bN H fun x9 z8 H=>(q1 (bJ func97 (ag2 fu (aR x2 i3) _ z8)) (qN ?_))
   refine bG H (fun h10 H=>?_) (fun h10 H=>?_)
   ·refine dR.exit ?_;exact gE 5
   refine gQ 7 ?_;refine eX H fun x12 x13 z11 H=>(q1 (bJ func98 (UL fu (aR x2 i3) _ z11)) ?_)
   refine gQ 13 ?_;refine dY 33 H (fun g14 H=>?_) fun g14 H=>?_
   ·refine gQ 8 ?_;refine dW (dI [] rQ (dI [4] bW (dB [40] 0 1 tP (dI [41] tLn (iW [2,39] hY (dI [42] bI (dN (kC (eY (k:=0) (j:=0) 141 6 (by decide) rfl rfl) (dR.ret ?_)))))))))
    obtain rfl:_=r:=(lkR (tO H):)
    exact qe2 (st':=⟨[],[⟨141,6,aN.trs (v5),false⟩,⟨141,6,aN.trs ([]),false⟩]⟩) ⟨1,rfl,rfl,rfl⟩ (hr:=⟨⟨_,_,_,rfl,rfl,anL.h,rfl,rfl⟩,rfl,trivial⟩)
   refine gQ 6 ?_;refine bG H (fun h15 H=>?_) (fun h15 H=>?_)
   ·refine qS (dW (dI [] rQ (dI [4] bW (dB [40] 0 1 tP (dI [41] tLn (iW [2,39] hY (dI [42] bI (dN (kC (eY (k:=0) (j:=0) 141 6 (by decide) rfl rfl) (dR.ret ?_))))))))))
    obtain rfl:_=r:=(lkR (tO H):)
    exact qe2 (st':=⟨[],[⟨141,6,aN.trs (v5),false⟩,⟨141,6,aN.trs ([]),false⟩]⟩) ⟨1,rfl,rfl,rfl⟩ (hr:=⟨⟨_,_,_,rfl,rfl,anL.h,rfl,rfl⟩,rfl,trivial⟩)
   refine gQ 4 ?_;refine q1 (b4 [pS x12.aFs,rS x12.aF6,UA x12.aFK,sD x12.aFB,qG x12.aFG,ME x12.aFT]) (q1 (sM ([x12]:Z aN)) (cB H fun z16 H=>(q1 (lO z16) ?_)))
   exact gE 8
  exact gE 0
 rintro v5 H
 refine gQ 2 ?_;refine q1 (b4 [uE v5 0]) ?_;refine gQ 3 ?_;refine dR.ret ?_
 obtain rfl:_=r:=(tO H:)
 exact qe2 (st':=⟨[],[⟨141,6,aN.trs (v5),false⟩]⟩) ⟨0,rfl,rfl,rfl⟩ (hr:=⟨⟨_,_,_,rfl,rfl,anL.h,rfl,rfl⟩,rfl,trivial⟩)
def PY(fu:Nat)(pc:DS):J (Y×DS):=gd ((c5).size+(c6).size≤1099511627776) (gd ((c5++c6).size+(dG).size≤1099511627776) (gd (((c5++c6)++dG).size+(dT).size≤1099511627776) (lt (pc.after 2) fun d4=>sw (decide (pc.below 2=0)) (gd ((((c5++c6)++dG)++dT).size+(k7).size≤1099511627776) (gd (((((c5++c6)++dG)++dT)++k7).size+(eQ).size≤1099511627776) (gd ((((((c5++c6)++dG)++dT)++k7)++eQ).size+(fN).size≤1099511627776) (gd (((((((c5++c6)++dG)++dT)++k7)++eQ)++fN).size+(gU).size≤1099511627776) (gd ((((((((c5++c6)++dG)++dT)++k7)++eQ)++fN)++gU).size+(jU).size≤1099511627776) (gd (((((((((c5++c6)++dG)++dT)++k7)++eQ)++fN)++gU)++jU).size+(mH).size≤1099511627776) (gd ((((((((((c5++c6)++dG)++dT)++k7)++eQ)++fN)++gU)++jU)++mH).size+(rY).size≤1099511627776) (gd (((((((((((c5++c6)++dG)++dT)++k7)++eQ)++fN)++gU)++jU)++mH)++rY).size+(D4).size≤1099511627776) (some ((((((((((((c5++c6)++dG)++dT)++k7)++eQ)++fN)++gU)++jU)++mH)++rY)++D4),d4)))))))))) (gd ((((c5++c6)++dG)++dT).size+(k8).size≤1099511627776) (gd (((((c5++c6)++dG)++dT)++k8).size+(eQ).size≤1099511627776) (gd ((((((c5++c6)++dG)++dT)++k8)++eQ).size+(fN).size≤1099511627776) (gd (((((((c5++c6)++dG)++dT)++k8)++eQ)++fN).size+(gU).size≤1099511627776) (gd ((((((((c5++c6)++dG)++dT)++k8)++eQ)++fN)++gU).size+(jU).size≤1099511627776) (gd (((((((((c5++c6)++dG)++dT)++k8)++eQ)++fN)++gU)++jU).size+(mH).size≤1099511627776) (gd ((((((((((c5++c6)++dG)++dT)++k8)++eQ)++fN)++gU)++jU)++mH).size+(rY).size≤1099511627776) (gd (((((((((((c5++c6)++dG)++dT)++k8)++eQ)++fN)++gU)++jU)++mH)++rY).size+(D4).size≤1099511627776) (some ((((((((((((c5++c6)++dG)++dT)++k8)++eQ)++fN)++gU)++jU)++mH)++rY)++D4),d4)))))))))))))
theorem akZ(fu:Nat)(pc:DS)(r:Y×DS)(H:PY fu pc=some r):cM prog 188 [.ptr 0 0] ⟨[some ⟨133,dC pc⟩],[]⟩ (fun q t=>q=(pS r.1)∧t=⟨[some ⟨133,dC r.2⟩],[]⟩):=by
 refine qJ func188 H (fun C hC H=>?_)
 refine gQ 11 ?_;refine cB H fun z1 H=>(q1 (dF rfl rfl rfl rfl (Nat.le_trans z1 (by decide))) ?_)
 refine gQ 5 ?_;refine cB H fun z2 H=>(q1 (dF rfl rfl rfl rfl (Nat.le_trans z2 (by decide))) ?_)
 refine gQ 5 ?_;refine cB H fun z3 H=>(q1 (dF rfl rfl rfl rfl (Nat.le_trans z3 (by decide))) ?_)
 refine gQ 6 ?_;refine gM H fun d4 h5 H=>(q1 (fO [0] [] func45 (FJ h5 (n6 pc 2))) (qN ?_))
 refine bG H (fun h6 H=>?_) (fun h6 H=>?_)
 ·refine gQ 2 ?_;refine cB H fun z7 H=>(q1 (dF rfl rfl rfl rfl (Nat.le_trans z7 (by decide))) ?_)
  refine gQ 5 ?_;refine cB H fun z8 H=>(q1 (dF rfl rfl rfl rfl (Nat.le_trans z8 (by decide))) ?_)
  refine gQ 5 ?_;refine cB H fun z9 H=>(q1 (dF rfl rfl rfl rfl (Nat.le_trans z9 (by decide))) ?_)
  refine gQ 5 ?_;refine cB H fun z10 H=>(q1 (dF rfl rfl rfl rfl (Nat.le_trans z10 (by decide))) ?_)
  refine gQ 5 ?_;refine cB H fun z11 H=>(q1 (dF rfl rfl rfl rfl (Nat.le_trans z11 (by decide))) ?_)
  refine gQ 5 ?_;refine cB H fun z12 H=>(q1 (dF rfl rfl rfl rfl (Nat.le_trans z12 (by decide))) ?_)
  refine gQ 5 ?_;refine cB H fun z13 H=>(q1 (dF rfl rfl rfl rfl (Nat.le_trans z13 (by decide))) ?_)
  refine gQ 5 ?_;refine cB H fun z14 H=>(q1 (dF rfl rfl rfl rfl (Nat.le_trans z14 (by decide))) ?_)
  exact gE 2
 refine gQ 2 ?_;refine cB H fun z15 H=>(q1 (dF rfl rfl rfl rfl (Nat.le_trans z15 (by decide))) ?_)
 refine gQ 5 ?_;refine cB H fun z16 H=>(q1 (dF rfl rfl rfl rfl (Nat.le_trans z16 (by decide))) ?_)
 refine gQ 5 ?_;refine cB H fun z17 H=>(q1 (dF rfl rfl rfl rfl (Nat.le_trans z17 (by decide))) ?_)
 refine gQ 5 ?_;refine cB H fun z18 H=>(q1 (dF rfl rfl rfl rfl (Nat.le_trans z18 (by decide))) ?_)
 refine gQ 5 ?_;refine cB H fun z19 H=>(q1 (dF rfl rfl rfl rfl (Nat.le_trans z19 (by decide))) ?_)
 refine gQ 5 ?_;refine cB H fun z20 H=>(q1 (dF rfl rfl rfl rfl (Nat.le_trans z20 (by decide))) ?_)
 refine gQ 5 ?_;refine cB H fun z21 H=>(q1 (dF rfl rfl rfl rfl (Nat.le_trans z21 (by decide))) ?_)
 refine gQ 5 ?_;refine cB H fun z22 H=>(q1 (dF rfl rfl rfl rfl (Nat.le_trans z22 (by decide))) ?_)
 exact gE 2
def anZ(fu:Nat)(pc:DS):J ((Y×DS)⊕(Y×DS)):=lt (pc.after 8) fun d3=>sw (decide ((pc.below 8:Int)=0)) (gd ((fM).size+(Q6).size≤1099511627776) (some (.inr ((fM++Q6),d3)))) (sw (decide ((pc.below 8:Int)=1)) (gd ((fM).size+(Q4).size≤1099511627776) (some (.inr ((fM++Q4),d3)))) (sw (decide ((pc.below 8:Int)=2)) (gd ((fM).size+(QW).size≤1099511627776) (some (.inr ((fM++QW),d3)))) (sw (decide ((pc.below 8:Int)=3)) (gd ((fM).size+(QY).size≤1099511627776) (some (.inr ((fM++QY),d3)))) (sw (decide ((pc.below 8:Int)=4)) (gd ((fM).size+(QX).size≤1099511627776) (some (.inr ((fM++QX),d3)))) (sw (decide ((pc.below 8:Int)=5)) (gd ((fM).size+(Q3).size≤1099511627776) (some (.inr ((fM++Q3),d3)))) (gd ((fM).size+(QZ).size≤1099511627776) (some (.inr ((fM++QZ),d3)))))))))
def an0(fu:Nat)(pc:DS)(v1:Y)(v2 d19:DS)(y21:Y):J ((Y×DS)⊕(Y×DS)):=lt (d19.after 2) fun d27=>sw (decide (d19.below 2=0)) (gd ((((v1++rX)++y21)++D4).size+(Q0).size≤1099511627776) (some (.inr (((((v1++rX)++y21)++D4)++Q0),d27)))) (some (.inr ((((v1++rX)++y21)++D4),d27)))
def an1(fu:Nat)(pc:DS)(v1:Y)(v2 d19:DS)(y21 v25:Y)(v26:DS):J ((Y×DS)⊕(Y×DS)):=lt (v26.after 3) fun d33=>sw (decide (v26.below 3=0)) (gd ((v25).size+(Q5).size≤1099511627776) (some (.inr ((v25++Q5),d33)))) (some (.inr (v25,d33)))
def U1(fu:Nat)(pc:DS):J (Y×DS):=so (anZ fu pc) fun(v1,v2)=>gd ((v1).size+(rX).size≤1099511627776) (lt (v2.after ([GB,GA,F8,GC,F7,GF,GG,GD,GE,F6]:LB).length) fun d19=>lt (v2.pick ([GB,GA,F8,GC,F7,GF,GG,GD,GE,F6]:LB)) fun y21=>gd ((v1++rX).size+(y21).size≤1099511627776) (gd (((v1++rX)++y21).size+(D4).size≤1099511627776) (so (an0 fu pc v1 v2 d19 y21) fun(v25,v26)=>so (an1 fu pc v1 v2 d19 y21 v25 v26) fun(v31,v32)=>lt (v32.after 4) fun d37=>sw (decide (v32.below 4=0)) (gd ((v31).size+(F9).size≤1099511627776) (gd ((v31++F9).size+(D4).size≤1099511627776) (some (((v31++F9)++D4),d37)))) (gd ((v31).size+(D4).size≤1099511627776) (some ((v31++D4),d37))))))
theorem an2(fu:Nat)(pc:DS)(r:Y×DS)(H:U1 fu pc=some r):cM prog 189 [.ptr 0 0] ⟨[some ⟨133,dC pc⟩],[]⟩ (fun q t=>q=(pS r.1)∧t=⟨[some ⟨133,dC r.2⟩],[]⟩):=by
 refine qJ func189 H (fun C hC H=>?_)
 refine gQ 9 ?_;refine qY (σ:=Y×DS) (fun(v1,v2)=>⟨[(0,.ptr 0 0),(2,pS s_),(3,pS v1)],⟨[some ⟨133,dC v2⟩],[]⟩⟩) (fA H) (fun H=>?_) ?_
 ·refine gQ 3 ?_;refine gM H fun d3 h4 H=>(q1 (fO [0] [] func73 (FJ h4 (fL pc 8))) ?_)
  refine gQ 7 ?_;refine bG H (fun h5 H=>?_) (fun h5 H=>?_)
  ·refine gQ 2 ?_;refine cB H fun z6 H=>(q1 (dF rfl rfl rfl rfl (Nat.le_trans z6 (by decide))) ?_)
   exact gE 2
  refine gQ 5 ?_;refine bG H (fun h7 H=>?_) (fun h7 H=>?_)
  ·refine gQ 2 ?_;refine cB H fun z8 H=>(q1 (dF rfl rfl rfl rfl (Nat.le_trans z8 (by decide))) ?_)
   exact gE 2
  refine gQ 5 ?_;refine bG H (fun h9 H=>?_) (fun h9 H=>?_)
  ·refine gQ 2 ?_;refine cB H fun z10 H=>(q1 (dF rfl rfl rfl rfl (Nat.le_trans z10 (by decide))) ?_)
   exact gE 2
  refine gQ 5 ?_;refine bG H (fun h11 H=>?_) (fun h11 H=>?_)
  ·refine gQ 2 ?_;refine cB H fun z12 H=>(q1 (dF rfl rfl rfl rfl (Nat.le_trans z12 (by decide))) ?_)
   exact gE 2
  refine gQ 5 ?_;refine bG H (fun h13 H=>?_) (fun h13 H=>?_)
  ·refine gQ 2 ?_;refine cB H fun z14 H=>(q1 (dF rfl rfl rfl rfl (Nat.le_trans z14 (by decide))) ?_)
   exact gE 2
  refine gQ 5 ?_;refine bG H (fun h15 H=>?_) (fun h15 H=>?_)
  ·refine gQ 2 ?_;refine cB H fun z16 H=>(q1 (dF rfl rfl rfl rfl (Nat.le_trans z16 (by decide))) ?_)
   exact gE 2
  refine gQ 2 ?_;refine cB H fun z17 H=>(q1 (dF rfl rfl rfl rfl (Nat.le_trans z17 (by decide))) ?_)
  exact gE 2
 rintro⟨v1,v2⟩ H
 refine gQ 3 ?_;refine cB H fun z18 H=>(q1 (dF rfl rfl rfl rfl (Nat.le_trans z18 (by decide))) (q1 bI (q1 (iL ([GB,GA,F8,GC,F7,GF,GG,GD,GE,F6]:LB)) (gM H fun d19 h20 H=>(gM H fun y21 h22 H=>(q1 (fO [0] [] func48 (QE h20 h22 (gF v2 ([GB,GA,F8,GC,F7,GF,GG,GD,GE,F6]:LB) (by decide)))) (cB H fun z23 H=>(q1 (dF rfl rfl rfl rfl (Nat.le_trans z23 (by decide))) (cB H fun z24 H=>(q1 (dF rfl rfl rfl rfl (Nat.le_trans z24 (by decide))) ?_))))))))))
 refine gQ 3 ?_;refine qY (σ:=Y×DS) (fun(v25,v26)=>⟨[(0,.ptr 0 0),(2,pS s_),(3,pS v25)],⟨[some ⟨133,dC v26⟩],[]⟩⟩) (fA H) (fun H=>?_) ?_
 ·refine gQ 3 ?_;refine gM H fun d27 h28 H=>(q1 (fO [0] [] func45 (FJ h28 (n6 d19 2))) (qN ?_))
  refine bG H (fun h29 H=>?_) (fun h29 H=>?_)
  ·refine gQ 2 ?_;refine cB H fun z30 H=>(q1 (dF rfl rfl rfl rfl (Nat.le_trans z30 (by decide))) ?_)
   exact gE 2
  exact gE 1
 rintro⟨v25,v26⟩ H
 refine qS ?_;refine qY (σ:=Y×DS) (fun(v31,v32)=>⟨[(0,.ptr 0 0),(2,pS s_),(3,pS v31)],⟨[some ⟨133,dC v32⟩],[]⟩⟩) (fA H) (fun H=>?_) ?_
 ·refine gQ 3 ?_;refine gM H fun d33 h34 H=>(q1 (fO [0] [] func45 (FJ h34 (n6 v26 3))) (qN ?_))
  refine bG H (fun h35 H=>?_) (fun h35 H=>?_)
  ·refine gQ 2 ?_;refine cB H fun z36 H=>(q1 (dF rfl rfl rfl rfl (Nat.le_trans z36 (by decide))) ?_)
   exact gE 2
  exact gE 1
 rintro⟨v31,v32⟩ H
 refine gQ 4 ?_;refine gM H fun d37 h38 H=>(q1 (fO [0] [] func45 (FJ h38 (n6 v32 4))) (qN ?_))
 refine bG H (fun h39 H=>?_) (fun h39 H=>?_)
 ·refine gQ 2 ?_;refine cB H fun z40 H=>(q1 (dF rfl rfl rfl rfl (Nat.le_trans z40 (by decide))) ?_)
  refine gQ 5 ?_;refine cB H fun z41 H=>(q1 (dF rfl rfl rfl rfl (Nat.le_trans z41 (by decide))) ?_)
  exact gE 2
 refine gQ 4 ?_;refine cB H fun z42 H=>(q1 (dF rfl rfl rfl rfl (Nat.le_trans z42 (by decide))) ?_)
 exact gE 2
def BE(fu:Nat)(pc:DS):J (Y×DS):=bd (PY fu pc) fun(x2,x3)=>lt (x3.after 5) fun d4=>sw (decide (x3.below 5=0)) (some (x2,d4)) (gd (x2.size+(asA).size≤1099511627776) (bd (U1 fu d4) fun(x9,x10)=>gd ((x2++asA).size+x9.size≤1099511627776) (some (((x2++asA)++x9),x10))))
theorem U2(fu:Nat)(pc:DS)(r:Y×DS)(H:BE fu pc=some r):cM prog 162 [.ptr 0 0] ⟨[some ⟨133,dC pc⟩],[]⟩ (fun q t=>q=(pS r.1)∧t=⟨[some ⟨133,dC r.2⟩],[]⟩):=by
 refine qJ func162 H (fun C hC H=>?_)
 refine gQ 7 ?_;refine eX H fun x2 x3 z1 H=>(q1 (fO [0] [] func188 (akZ fu pc _ z1)) ?_)
 refine gQ 6 ?_;refine gM H fun d4 h5 H=>(q1 (fO [0] [] func45 (FJ h5 (n6 x3 5))) (qN ?_))
 refine bG H (fun h6 H=>gE 5) fun h6 H=>?_;refine gQ 4 ?_;refine cB H fun z7 H=>(q1 (dF rfl rfl rfl rfl (Nat.le_trans z7 (by decide))) (q1 bI (eX H fun x9 x10 z8 H=>(q1 (fO [0] [] func189 (an2 fu d4 _ z8)) (cB H fun z11 H=>(q1 (dF rfl rfl rfl rfl (Nat.le_trans z11 (by decide))) ?_))))))
 exact gE 2
def an4(m:DS→J (aH×DS)):Prop:= ∀(pc:DS) (r:aH×DS),m pc=some r→xF prog 126 [.ptr 0 0] ⟨[some ⟨133,dC pc⟩],[]⟩ [some ⟨133,dC r.2⟩] 141 6 (aN.trs (r.1.aFr)) (fun k=> .agg [uE r.1.aFr k])
def IX(fu:Nat)(pc:DS):J (aH×DS):=bd (BE fu pc) fun(x2,x3)=>bd (r9 fu x2) fun(x5,x6)=>some ((aH.mk x5.aFr),x3)
theorem ak1(fu:Nat):an4 (IX fu):=by
 intro pc r H
 unfold xF
 refine qJ func126 H (fun C hC H=>?_)
 refine gQ 7 ?_;refine eX H fun x2 x3 z1 H=>(q1 (fO [0] [] func162 (U2 fu pc _ z1)) (eX H fun x5 x6 z4 H=>(q1 (WT (B:= []) (R:=fun k=> .tup [.agg [uE x5.aFr k],pI x6]) (ps:= [_]) (qs:= [pS x2]) func46 (fun k k'=>(.tup (.cons (.agg (.cons Mv.acc JE.nil)) (.cons (.free _ rfl) JE.nil)))) (UM fu x2 _ z4)) ?_)))
 refine gQ 9 ?_;refine q1 (b4 [uE x5.aFr 0]) ?_;refine gQ 2 ?_;refine dR.ret ?_
 obtain rfl:_=r:=(tO H:)
 exact SX (st':=⟨[some ⟨133,dC x3⟩],[⟨141,6,aN.trs (x5.aFr),false⟩]⟩) ⟨0,rfl,rfl,rfl⟩ (hr:=⟨⟨_,_,_,rfl,rfl,anL.h,rfl,rfl⟩,trivial⟩)
end
end Go.Proofs.YtfcoaagbccmahaaGreat.W
