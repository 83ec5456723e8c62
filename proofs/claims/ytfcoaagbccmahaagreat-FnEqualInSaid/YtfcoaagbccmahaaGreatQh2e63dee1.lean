/- Words, rules and walks of several kinds, laid together. No conditions but those that each theorem states. -/
import Derived.Test.YtfcoaagbccmahaaGreatQhe0d6e5d6
set_option linter.unusedSimpArgs false
set_option linter.unusedVariables false
namespace Go.Proofs.YtfcoaagbccmahaaGreat.W
set_option maxRecDepth 100000
set_option maxHeartbeats 40000000
noncomputable section
open Tryz Go.RowKit Go.Proofs
attribute [local irreducible] lt
def dK(fu:Nat)(px:aB)(pi:Int):Option aB:=sw (decide (pi≥(px.aB6.length:Int))) (some (aB.mk s_ [])) (gd (0≤pi∧(pi).toNat<(px.aB6).length) (some (aT px.aB6 ((pi).toNat))))
theorem cY(fu:Nat)(px:aB)(pi:Int)(r:aB)(H:dK fu px pi=some r):bR Tryz.prog 175 [(aB.pv px),pI pi] ((aB.pv r)):=by
 refine qJ func175 H (fun C hC H=>?_)
 refine gQ 2 ?_;refine q1 (eX ([pS px.aB9,bH px.aB6])) ?_;refine gQ 11 ?_;refine bC H (fun h1 H=>gE 5) fun h1 H=>?_;refine gQ 6 ?_;refine cC H fun z2 H=>(q1 (rIy z2 CJ.h) (q1 (iI (aB.cs (aT px.aB6 ((pi).toNat)))) ?_))
 exact gE 2
def m3(fu:Nat)(px:aB):Option ((LB)):=bd (B5 fu px.aB6) fun(x2,x3)=>some x2
theorem oE(fu:Nat)(px:aB)(r:(LB))(H:m3 fu px=some r):bR Tryz.prog 216 [(aB.pv px)] (rS r):=by
 refine qJ func216 H (fun C hC H=>?_)
 refine gQ 2 ?_;refine q1 (eX ([pS px.aB9,bH px.aB6])) ?_;refine gQ 6 ?_;refine dP H fun x2 x3 z1 H=>(q1 (bE func174 (I3 fu px.aB6 _ z1)) ?_)
 exact gE 11
def wT(fu:Nat)(px:aB)(pi:Int):Option ((List aB)):=bd (rT fu pi (px.aB6.length:Int)) fun x2=>gd ((0:Int)≤x2∧(x2:Int)≤(px.aB6.length:Int)∧(px.aB6.length:Int)≤(px.aB6.length:Int)) (some (List.drop (x2:Int).toNat (List.take (px.aB6.length:Int).toNat px.aB6)))
theorem C1(fu:Nat)(px:aB)(pi:Int)(r:(List aB))(H:wT fu px pi=some r):bR Tryz.prog 217 [(aB.pv px),pI pi] (bH r):=by
 refine qJ func217 H (fun C hC H=>?_)
 refine gQ 2 ?_;refine q1 (eX ([pS px.aB9,bH px.aB6])) ?_;refine gQ 3 ?_;refine bK H fun x2 z1 H=>(cC H fun z3 H=>(dW (dI [2] bZ (dD [5] eE (dI [1] bF (dI [2] bZ (dD [8] eE (dI [9] XY (dI [7,10] (bE func234 (sL fu pi (px.aB6.length:Int) _ z1)) ?_)))))))))
 refine dI [6,11] (bB.congrP (bB.sliceR (es:=aB.trs (px.aB6)) (l:=x2) (k:=(px.aB6.length:Int)) rfl rfl rfl rfl rfl (by rw [aB.trs_len];exact rfl) (by rw [aB.trs_len];exact z3) CJ.h) (aB.trs_part _ _ _)) ?_;refine dI [12] bF (dN ?_)
 exact gE 0
def ajI(fu:Nat)(p1:List aB):Nat→((List aA))→Option (LR ((List aA)) ((List aA))):=fun i1 v3=>bd (m7 fu (aT p1 i1)) fun x7=>gd ((v3).length+(([x7]:List aA)).length≤68719476736) (some (.next (v3++([x7]:List aA))))
def JX(fu:Nat)(p1:List aB):Option ((List aA)):=so (loopN (ajI fu p1) (p1.length-0) 0 ([])) fun v3=>some v3
theorem W4(fu:Nat)(p1:List aB)(r:(List aA))(H:JX fu p1=some r):bR Tryz.prog 218 [bH p1] (aR r):=by
 refine qJ func218 H (fun C hC H=>?_)
 refine gQ 6 ?_;refine q1 (qE ([]:List aA)) ?_;refine gQ 7 ?_;refine gL 0 (aB.trs_len _) (fun hl4=>?_)
 refine bU (σ:=(List aA)) (fun i1 v3=>⟨[(0,bH p1),(2,.nil),(3,gM v3 0),(4,pN i1)],⟨[],[⟨30,3,aA.trs (v3),false⟩]⟩⟩) (fun v3=>⟨[(2,.nil),(3,gM v3 0)],⟨[],[⟨30,3,aA.trs (v3),false⟩]⟩⟩) (eK H) ?_ ?_
 ·rintro i1 v3 H
  refine gQ 8 ?_;refine cS H (fun h5 h5l H=>?_) (fun h5 H=>?_)
  ·refine gQ 8 ?_;refine q1 (iI (aB.cs (aT p1 i1))) (bK H fun x7 z6 H=>(q1 (bE func219 (yH fu (aT p1 i1) _ z6)) (q1 (iF ([x7]:List aA)) (cC H fun z8 H=>(q1 (lG z8) ?_)))))
   exact gE 7
  exact gE 0
 rintro v3 H
 exact gE 5
def lJ(fu:Nat)(p1:LB):Option aB:=bd (GP fu p1) fun x2=>some (aB.mk s_ x2)
theorem m4(fu:Nat)(p1:LB)(r:aB)(H:lJ fu p1=some r):bR Tryz.prog 240 [rS p1] ((aB.pv r)):=by
 refine qJ func240 H (fun C hC H=>?_)
 refine gQ 7 ?_;refine bK H fun x2 z1 H=>(q1 (bE func254 (S6 fu p1 _ z1)) ?_)
 exact gE 3
def ac4(fu:Nat)(p1:List aA):Nat→((List aB))→Option (LR ((List aB)) ((List aB))):=fun i1 v3=>bd (m6 fu (aT p1 i1)) fun x7=>gd ((v3).length+(([x7]:List aB)).length≤68719476736) (some (.next (v3++([x7]:List aB))))
def C2(fu:Nat)(p1:List aA):Option ((List aB)):=so (loopN (ac4 fu p1) (p1.length-0) 0 ([])) fun v3=>some v3
theorem O8(fu:Nat)(p1:List aA)(r:(List aB))(H:C2 fu p1=some r):bR Tryz.prog 241 [aR p1] (bH r):=by
 refine qJ func241 H (fun C hC H=>?_)
 refine gQ 6 ?_;refine q1 (qE ([]:List aB)) ?_;refine gQ 7 ?_;refine gL 0 (aA.trs_len _) (fun hl4=>?_)
 refine bU (σ:=(List aB)) (fun i1 v3=>⟨[(0,aR p1),(2,.nil),(3,eF v3 0),(4,pN i1)],⟨[],[⟨189,2,aB.trs (v3),false⟩]⟩⟩) (fun v3=>⟨[(2,.nil),(3,eF v3 0)],⟨[],[⟨189,2,aB.trs (v3),false⟩]⟩⟩) (eK H) ?_ ?_
 ·rintro i1 v3 H
  refine gQ 8 ?_;refine cS H (fun h5 h5l H=>?_) (fun h5 H=>?_)
  ·refine gQ 8 ?_;refine q1 (iI (aA.cs (aT p1 i1))) (bK H fun x7 z6 H=>(q1 (bE func242 (yG fu (aT p1 i1) _ z6)) (q1 (iF ([x7]:List aB)) (cC H fun z8 H=>(q1 (lG z8) ?_)))))
   exact gE 7
  exact gE 0
 rintro v3 H
 exact gE 5
def E7(fu:Nat)(p2:Bool)(px:aB):Option aB:=sw (!(p2)) (some (aB.mk s_ [])) (bd (iJ fu px) fun x3=>sw (!(x3)) (some (aB.mk s_ [])) (some px))
theorem JW(fu:Nat)(p2:Bool)(px:aB)(r:aB)(H:E7 fu p2 px=some r):bR Tryz.prog 244 [pB p2,(aB.pv px)] ((aB.pv r)):=by
 refine qJ func244 H (fun C hC H=>?_)
 refine gQ 2 ?_;refine q1 (eX ([pS px.aB9,bH px.aB6])) ?_;refine gQ 8 ?_;refine dH 7 H (fun g1 H=>gE 11) fun g1 H=>?_;refine qg g1 (bW [pS px.aB9,bH px.aB6]) (bK H fun x3 z2 H=>(qg g1 (bE func173 (c9 fu px _ z2)) ?_))
 refine gQ 3 ?_;refine bC H (fun h4 H=>gE 5) fun h4 H=>?_;refine gQ 3 ?_;refine q1 (bW [pS px.aB9,bH px.aB6]) ?_;exact gE 2
def RS(fu:Nat)(p0:aU)(x2:Bool):Option (aB⊕((LB))):=sw (p0.aCA) (gd (([]:LB).length+(([BU]:LB)).length≤68719476736) (some (.inr (([])++([BU]:LB))))) (some (.inr ([])))
def RT(fu:Nat)(p0:aU)(x2:Bool)(v5:LB):Option (aB⊕((LB))):=sw (p0.aCj) (gd ((v5).length+(([jD]:LB)).length≤68719476736) (some (.inr (v5++([jD]:LB))))) (some (.inr v5))
def RW(fu:Nat)(p0:aU)(x2:Bool)(v5 v9:LB)(x13 x15 x17 x19 x21:aB):Nat→((List aB))→Option (LR ((List aB)) aB):=fun i22 v24=>lt (aT p0.aCp i22) fun y27=>bd (cB fu y27.aB3) fun x30=>bd (C2 fu y27.aCn) fun x32=>bd (m6 fu y27.aCl) fun x34=>bd (mI fu ([x30,(aB.mk s_ x32),x34]:List aB)) fun x36=>sw (y27.aCC) (bd (lJ fu y27.aCg) fun x39=>bd (mZ fu y27.aCd) fun x41=>gd ((x36.aB6).length+(([x39,x41]:List aB)).length≤68719476736) (gd ((v24).length+(([(aB.mk x36.aB9 (x36.aB6++([x39,x41]:List aB)))]:List aB)).length≤68719476736) (some (.next (v24++([(aB.mk x36.aB9 (x36.aB6++([x39,x41]:List aB)))]:List aB)))))) (gd ((v24).length+(([(aB.mk x36.aB9 x36.aB6)]:List aB)).length≤68719476736) (some (.next (v24++([(aB.mk x36.aB9 x36.aB6)]:List aB)))))
def y2(fu:Nat)(p0:aU):Option aB:=bd (tK fu p0) fun x2=>sw (!(x2)) (some (aB.mk s_ [])) (so (RS fu p0 x2) fun v5=>so (RT fu p0 x2 v5) fun v9=>bd (cB fu JU) fun x13=>bd (cB fu p0.aB3) fun x15=>bd (lJ fu p0.aCc) fun x17=>bd (lJ fu v9) fun x19=>bd (mI fu ([x13,x15,x17,x19]:List aB)) fun x21=>so (loopN (RW fu p0 x2 v5 v9 x13 x15 x17 x19 x21) (p0.aCp.length-0) 0 x21.aB6) fun v24=>bd (E7 fu true (aB.mk x21.aB9 v24)) fun x46=>some x46)
theorem RX(fu:Nat)(p0:aU)(r:aB)(H:y2 fu p0=some r):bR Tryz.prog 222 [(aU.pv p0)] ((aB.pv r)):=by
 refine qJ func222 H (fun C hC H=>?_)
 refine gQ 2 ?_;refine q1 (eX (sU p0)) ?_;refine gQ 5 ?_;refine q1 (bW [pS p0.aB3,rS p0.aCc,pB p0.aCA,pB p0.aCj,gC p0.aCp]) (bK H fun x2 z1 H=>(q1 (bE func229 (E4 fu p0 _ z1)) ?_))
 refine gQ 2 ?_;refine bC H (fun h3 H=>gE 5) fun h3 H=>?_;refine gQ 3 ?_;refine q1 (qE ([]:LB)) ?_;refine gQ 3 ?_;refine nV (σ:=(LB)) (fun v5=>⟨[(1,.ptr 0 0),(2,.ptr 1 0),(3,aS v5 0)],⟨[some ⟨156,sU p0⟩,some ⟨189,[pS s_,.nil]⟩],[⟨9,1,aY (v5),false⟩]⟩⟩) (eK H) (fun H=>?_) ?_
 ·refine gQ 5 ?_;refine bC H (fun h6 H=>?_) (fun h6 H=>?_)
  ·refine gQ 2 ?_;refine q1 (iF ([BU]:LB)) (cC H fun z7 H=>(q1 (lG z7) ?_))
   exact gE 2
  exact gE 1
 rintro v5 H
 refine qS ?_;refine nV (σ:=(LB)) (fun v9=>⟨[(1,.ptr 0 0),(2,.ptr 1 0),(3,aS v9 0)],⟨[some ⟨156,sU p0⟩,some ⟨189,[pS s_,.nil]⟩],[⟨9,1,aY (v9),false⟩]⟩⟩) (eK H) (fun H=>?_) ?_
 ·refine gQ 5 ?_;refine bC H (fun h10 H=>?_) (fun h10 H=>?_)
  ·refine gQ 2 ?_;refine q1 (iF ([jD]:LB)) (cC H fun z11 H=>(q1 (lG z11) ?_))
   exact gE 2
  exact gE 1
 rintro v9 H
 refine qS (bK H fun x13 z12 H=>(bK H fun x15 z14 H=>(bK H fun x17 z16 H=>(bK H fun x19 z18 H=>(bK H fun x21 z20 H=>(dWa (dI [] (bE func239 (b5 fu JU _ z12)) (dI [1] bZ (dBz [24] 0 0 uK (dI [25] (bE func239 (b5 fu p0.aB3 _ z14)) (dI [1] bZ (dBz [27] 0 0 uK (dI [28] (bE func240 (m4 fu p0.aCc _ z16)) ?_)))))))))))))
 refine dI [3] bF (dI [30] (bE func240 (m4 fu v9 _ z18)) (dI [23,26,29,31] (iF ([x13,x15,x17,x19]:List aB)) ?_))
 refine dEz [32] (fun _ z=>by cases z<;>exact bB.callOwn (pre:=⟨[],[]⟩) (B:= []) (R:=fun k=> .agg [pS x21.aB9,eF x21.aB6 k]) (ps:= [_]) (qs:= [bH ([x13,x15,x17,x19]:List aB)]) [] rfl rfl func238 (by kernel_rfl) rfl rfl rfl (eZ.of trivial trivial (by decide) (by decide)) rfl jN rfl rfl rfl (fun k k'=>(.agg (.cons (.free _ rfl) (.cons Mv.acc GX.nil)))) (nE fu ([x13,x15,x17,x19]:List aB) _ z20)) ?_;refine dA (fun _ st h=>vAl h abA.h) (dZ 4 [4,33] jO (dN ?_))
 refine gQ 5 ?_;refine cQ.fact (cI 0 4 rfl rfl rfl (aF.trs_len _)) (fun hl25=>?_)
 refine bU (σ:=(List aB)) (fun i22 v24=>⟨[(1,.ptr 0 0),(2,.ptr 1 0),(4,.ptr 2 0),(5,pN i22)],⟨[some ⟨156,sU p0⟩,some ⟨189,[pS s_,.nil]⟩,some ⟨189,[pS x21.aB9,eF v24 1]⟩],[⟨9,1,aY (v9),false⟩,⟨189,2,aB.trs (v24),false⟩]⟩⟩) (fun v24=>⟨[(2,.ptr 1 0),(4,.ptr 2 0)],⟨[some ⟨156,sU p0⟩,some ⟨189,[pS s_,.nil]⟩,some ⟨189,[pS x21.aB9,eF v24 1]⟩],[⟨9,1,aY (v9),false⟩,⟨189,2,aB.trs (v24),false⟩]⟩⟩) (eK H) ?_ ?_
 ·rintro i22 v24 H
  refine gQ 9 ?_;refine cS H (fun h26 h26l H=>?_) (fun h26 H=>?_)
  ·refine gQ 8 ?_;refine fZ H fun y27 h28 H=>(q1 (yI h28 h26l) (q1 (iI (aF.cs y27)) ?_))
   refine gQ 4 ?_;refine bK H fun x30 z29 H=>(bK H fun x32 z31 H=>(bK H fun x34 z33 H=>(bK H fun x36 z35 H=>(dWa (dI [6] bZ (dBz [46] 0 0 uK (dI [47] (bE func239 (b5 fu y27.aB3 _ z29)) (dI [6] bZ (dBz [49] 0 0 uK (dI [50] (bE func241 (O8 fu y27.aCn _ z31)) (dI [51] rW (dI [6] bZ (dBz [53] 0 0 (DU [pI y27.aCl.aB5,pS y27.aCl.aB3,aR y27.aCl.aB4]) ?_)))))))))))))
   refine dI [54] (bE func242 (yG fu y27.aCl _ z33)) (dI [48,52,55] (iF ([x30,(aB.mk s_ x32),x34]:List aB)) ?_)
   refine dEz [56] (fun _ z=>by cases z<;>exact bB.callOwn (pre:=⟨[],[]⟩) (B:= []) (R:=fun k=> .agg [pS x36.aB9,eF x36.aB6 k]) (ps:= [_]) (qs:= [bH ([x30,(aB.mk s_ x32),x34]:List aB)]) [] rfl rfl func238 (by kernel_rfl) rfl rfl rfl (eZ.of trivial trivial (by decide) (by decide)) rfl jN rfl rfl rfl (fun k k'=>(.agg (.cons (.free _ rfl) (.cons Mv.acc GX.nil)))) (nE fu ([x30,(aB.mk s_ x32),x34]:List aB) _ z35)) ?_;refine dA (fun _ st h=>vAl h abA.h) (dZ 7 [7,57] jO (dN ?_))
   refine gQ 6 ?_;refine bC H (fun h37 H=>?_) (fun h37 H=>?_)
   ·refine bK H fun x39 z38 H=>(bK H fun x41 z40 H=>(cC H fun z42 H=>(dW (dI [7] bZ (dD [60] eE (dI [6] bZ (dD [62] eE (dI [63] (bE func240 (m4 fu y27.aCg _ z38)) (dI [6] bZ (dD [65] (bW [pI y27.aCd.aB5,pS y27.aCd.aCa,pS y27.aCd.aB3,pI y27.aCd.aCL,pI y27.aCd.aB7.aB5,pS y27.aCd.aB7.aB3,aR y27.aCd.aB7.aB4,iP y27.aCd.aB4,sE y27.aCd.aCo]) (dI [66] (bE func243 (R3 fu y27.aCd _ z40)) (dI [64,67] (iF ([x39,x41]:List aB)) (dE [61,68] (lG z42) ?_)))))))))))))
    refine dI [7] bZ (kU [70,69] jO (dN ?_))
    refine gQ 3 ?_;refine q1 (bW [pS x36.aB9,eF (x36.aB6++([x39,x41]:List aB)) 2]) (q1 (iF ([(aB.mk x36.aB9 (x36.aB6++([x39,x41]:List aB)))]:List aB)) (cC H fun z43 H=>(q1 (lG z43) ?_)))
    exact gE 8
   refine gQ 4 ?_;refine q1 (bW [pS x36.aB9,eF x36.aB6 2]) (q1 (iF ([(aB.mk x36.aB9 x36.aB6)]:List aB)) (cC H fun z44 H=>(q1 (lG z44) ?_)))
   exact gE 8
  exact gE 0
 rintro v24 H
 refine gQ 2 ?_;refine q1 (bW [pS x21.aB9,eF v24 1]) (bK H fun x46 z45 H=>(q1 (bE func244 (JW fu true (aB.mk x21.aB9 v24) _ z45)) ?_))
 exact gE 2
def RQ(fu:Nat)(p0 x2:aB)(x4:LB)(x6 x8:aB)(x10:LB)(x12 x14:Bool)(x16:List aB):Nat→((List aF))→Option (LR ((List aF)) (aU×Bool)):=fun i17 v19=>bd (dK fu (aT x16 i17) 0) fun x23=>bd (dK fu (aT x16 i17) 1) fun x25=>bd (JX fu x25.aB6) fun x27=>bd (dK fu (aT x16 i17) 2) fun x29=>bd (m7 fu x29) fun x31=>sw (decide ((((((aT x16 i17).aB6).length:Nat):Int):Int)>3)) (bd (dK fu (aT x16 i17) 3) fun x34=>bd (m3 fu x34) fun x36=>bd (dK fu (aT x16 i17) 4) fun x38=>bd (gZ fu x38) fun x40=>gd ((v19).length+(([(aF.mk x23.aB9 x27 x31 true x36 x40)]:List aF)).length≤68719476736) (some (.next (v19++([(aF.mk x23.aB9 x27 x31 true x36 x40)]:List aF))))) (gd ((v19).length+(([(aF.mk x23.aB9 x27 x31 false [] (aL.mk 0 s_ s_ 0 (aA.mk 0 s_ []) [] []))]:List aF)).length≤68719476736) (some (.next (v19++([(aF.mk x23.aB9 x27 x31 false [] (aL.mk 0 s_ s_ 0 (aA.mk 0 s_ []) [] []))]:List aF)))))
def y1(fu:Nat)(p0:aB):Option (aU×Bool):=bd (dK fu p0 3) fun x2=>bd (m3 fu x2) fun x4=>bd (dK fu p0 1) fun x6=>bd (dK fu p0 2) fun x8=>bd (m3 fu x8) fun x10=>bd (lA fu x4 BU) fun x12=>bd (lA fu x4 jD) fun x14=>bd (wT fu p0 4) fun x16=>so (loopN (RQ fu p0 x2 x4 x6 x8 x10 x12 x14 x16) (x16.length-0) 0 ([])) fun v19=>bd (iJ fu p0) fun x44=>sw (!(x44)) (some ((aU.mk s_ [] false false []),false)) (sw (decide ((p0.aB6.length:Int)=0)) (some ((aU.mk s_ [] false false []),false)) (bd (y2 fu (aU.mk x6.aB9 x10 x12 x14 v19)) fun x48=>bd (fN fu x48 p0) fun x50=>sw (!(x50)) (some ((aU.mk s_ [] false false []),false)) (some ((aU.mk x6.aB9 x10 x12 x14 v19),true))))
theorem RR(fu:Nat)(p0:aB)(r:aU×Bool)(H:y1 fu p0=some r):bR Tryz.prog 200 [(aB.pv p0)] (.tup [(aU.pv r.1),pB r.2]):=by
 refine qJ func200 H (fun C hC H=>?_)
 refine gQ 2 ?_;refine q1 (eX ([pS p0.aB9,bH p0.aB6])) ?_;refine gQ 5 ?_;refine q1 (bW [pS p0.aB9,bH p0.aB6]) (bK H fun x2 z1 H=>(q1 (bE func175 (cY fu p0 3 _ z1)) (bK H fun x4 z3 H=>(q1 (bE func216 (oE fu x2 _ z3)) ?_))))
 refine gQ 3 ?_;refine bK H fun x6 z5 H=>(bK H fun x8 z7 H=>(bK H fun x10 z9 H=>(bK H fun x12 z11 H=>(bK H fun x14 z13 H=>(dW (dB [1] 0 1 (DU [pS p0.aB9,bH p0.aB6]) (dI [12] (bE func175 (cY fu p0 1 _ z5)) (dI [13] tF1 (dB [1] 0 1 (DU [pS p0.aB9,bH p0.aB6]) (dI [15] (bE func175 (cY fu p0 2 _ z7)) (dI [16] (bE func216 (oE fu x8 _ z9)) (dI [4] bF (dI [18] (bE func153 (mH fu x4 BU _ z11)) ?_)))))))))))))
 refine dI [4] bF (dI [20] (bE func153 (mH fu x4 jD _ z13)) (dI [14,17,19,21] rW (dE [] tAl (kU [5,22] jO (dN ?_)))))
 refine gQ 2 ?_;refine q1 (bW [pS p0.aB9,bH p0.aB6]) (bK H fun x16 z15 H=>(q1 (bE func217 (C1 fu p0 4 _ z15)) ?_))
 refine gQ 7 ?_;refine cQ.wk (Wk.regBox (k:=2) (j:=4) 237 16 (by decide) rfl rfl) ?_;refine gL 6 (aB.trs_len _) (fun hl20=>?_)
 refine bU (σ:=(List aF)) (fun i17 v19=>⟨[(1,.ptr 0 0),(2,.ptr 1 0),(3,pB false),(5,.ptr 2 0),(6,bH x16),(7,pN i17)],⟨[some ⟨189,[pS p0.aB9,bH p0.aB6]⟩,some ⟨156,[pS s_,.nil,pB false,pB false,.nil]⟩,some ⟨156,[pS x6.aB9,rS x10,pB x12,pB x14,lT v19 0]⟩],[⟨237,16,aF.trs (v19),false⟩]⟩⟩) (fun v19=>⟨[(1,.ptr 0 0),(2,.ptr 1 0),(3,pB false),(5,.ptr 2 0)],⟨[some ⟨189,[pS p0.aB9,bH p0.aB6]⟩,some ⟨156,[pS s_,.nil,pB false,pB false,.nil]⟩,some ⟨156,[pS x6.aB9,rS x10,pB x12,pB x14,lT v19 0]⟩],[⟨237,16,aF.trs (v19),false⟩]⟩⟩) (eK H) ?_ ?_
 ·rintro i17 v19 H
  refine gQ 8 ?_;refine cS H (fun h21 h21l H=>?_) (fun h21 H=>?_)
  ·refine gQ 4 ?_;refine bK H fun x23 z22 H=>(bK H fun x25 z24 H=>(bK H fun x27 z26 H=>(bK H fun x29 z28 H=>(bK H fun x31 z30 H=>(dW (dI [6] bF (dI [7] bF (dI [31,32] qF (dI [33] (iI (aB.cs (aT x16 i17))) (dI [34] (bE func175 (cY fu (aT x16 i17) 0 _ z22)) (dI [35] tF1 (dI [6] bF (dI [7] bF ?_)))))))))))))
   refine dI [37,38] qF (dI [39] (iI (aB.cs (aT x16 i17))) (dI [40] (bE func175 (cY fu (aT x16 i17) 1 _ z24)) (dI [41] tF1 (dI [42] (bE func218 (W4 fu x25.aB6 _ z26)) (dI [6] bF (dI [7] bF (dI [44,45] qF (dI [46] (iI (aB.cs (aT x16 i17))) (dI [47] (bE func175 (cY fu (aT x16 i17) 2 _ z28)) (dI [48] (bE func219 (yH fu x29 _ z30)) (dI [36,43,49] rW (dE [] tAl (kU [8,50] jO ?_)))))))))))))
   refine dN ?_;refine gQ 11 ?_;refine bC H (fun h32 H=>?_) (fun h32 H=>?_)
   ·refine gQ 10 ?_;refine q1 (iI (aB.cs (aT x16 i17))) (bK H fun x34 z33 H=>(q1 (bE func175 (cY fu (aT x16 i17) 3 _ z33)) (bK H fun x36 z35 H=>(q1 (bE func216 (oE fu x34 _ z35)) ?_))))
    refine gQ 7 ?_;refine q1 (iI (aB.cs (aT x16 i17))) (bK H fun x38 z37 H=>(q1 (bE func175 (cY fu (aT x16 i17) 4 _ z37)) (bK H fun x40 z39 H=>(q1 (bE func220 (IT fu x38 _ z39)) ?_))))
    refine gQ 6 ?_;refine q1 (bW [pS x23.aB9,aR x27,pI x31.aB5,pS x31.aB3,aR x31.aB4,pB true,rS x36,pI x40.aB5,pS x40.aCa,pS x40.aB3,pI x40.aCL,pI x40.aB7.aB5,pS x40.aB7.aB3,aR x40.aB7.aB4,iP x40.aB4,sE x40.aCo]) (q1 (iF ([(aF.mk x23.aB9 x27 x31 true x36 x40)]:List aF)) (cC H fun z41 H=>(q1 (lG z41) ?_)))
    exact gE 8
   refine gQ 4 ?_;refine q1 (bW [pS x23.aB9,aR x27,pI x31.aB5,pS x31.aB3,aR x31.aB4,pB false,.nil,pI 0,pS s_,pS s_,pI 0,pI 0,pS s_,.nil,.nil,.nil]) (q1 (iF ([(aF.mk x23.aB9 x27 x31 false [] (aL.mk 0 s_ s_ 0 (aA.mk 0 s_ []) [] []))]:List aF)) (cC H fun z42 H=>(q1 (lG z42) ?_)))
   exact gE 8
  exact gE 0
 rintro v19 H
 refine gQ 2 ?_;refine bK H fun x44 z43 H=>?_
 rcases oQ (!(x44)) with g45|g45
 ·have H:=sZ H g45
  refine dW (dD [1] (bW [pS p0.aB9,bH p0.aB6]) (dI [79] (bE func173 (c9 fu p0 _ z43)) (dI [80] JS (dI [81] bF ?_))))
  iterate 4 refine NH g45 ?_
  refine dI [82] (DV g45) (dI [87] bF ?_)
  iterate 5 refine NH rfl ?_
  refine dI [88] (DV rfl) (dN ?_)
  exact gE 7
 have H:=sY H g45
 rcases oQ (decide ((p0.aB6.length:Int)=0)) with g46|g46
 ·have H:=sZ H g46
  refine dW (dD [1] (bW [pS p0.aB9,bH p0.aB6]) (dI [79] (bE func173 (c9 fu p0 _ z43)) (dI [80] JS (dI [81] bF (dI (hg:=bD g45) [1] bZ (dD (hg:=bD g45) [83] eE (dI (hg:=bD g45) [84] XY (dI (hg:=bD g45) [85] rEq (dI [82,86] (F5 g45) (dI [87] bF ?_))))))))))
  iterate 5 refine NH g46 ?_
  refine dI [88] (DV g46) (dN ?_)
  exact gE 7
 have H:=sY H g46
 refine bK H fun x48 z47 H=>(bK H fun x50 z49 H=>(dW (dD [1] (bW [pS p0.aB9,bH p0.aB6]) (dI [79] (bE func173 (c9 fu p0 _ z43)) (dI [80] JS (dI [81] bF (dI (hg:=bD g45) [1] bZ (dD (hg:=bD g45) [83] eE (dI (hg:=bD g45) [84] XY (dI (hg:=bD g45) [85] rEq (dI [82,86] (F5 g45) (dI [87] bF (dD (hg:=bD g46) [5] (bW [pS x6.aB9,rS x10,pB x12,pB x14,lT v19 0]) ?_)))))))))))))
 refine dI (hg:=bD g46) [89] (bE func222 (RX fu (aU.mk x6.aB9 x10 x12 x14 v19) _ z47)) (dD (hg:=bD g46) [1] (bW [pS p0.aB9,bH p0.aB6]) (dI (hg:=bD g46) [90,91] (bE func221 (u9 fu x48 p0 _ z49)) (dI (hg:=bD g46) [92] JS (dI [88,93] (F5 g46) (dN ?_)))))
 refine bC H (fun h51 H=>gE 6) fun h51 H=>?_;refine gQ 3 ?_;refine q1 (bW [pS x6.aB9,rS x10,pB x12,pB x14,lT v19 0]) ?_;exact gE 3
def KL(fu:Nat)(pd:aN)(x2 x4 x6 x8:aB):Nat→((List aB))→Option (LR ((List aB)) aB):=fun i9 v11=>bd (cB fu ((aT pd.aB8 i9).aB3)) fun x15=>bd (C2 fu ((aT pd.aB8 i9).aCm)) fun x17=>gd ((([x15]:List aB)).length+x17.length≤68719476736) (gd ((v11).length+(([(aB.mk s_ (([x15]:List aB)++x17))]:List aB)).length≤68719476736) (some (.next (v11++([(aB.mk s_ (([x15]:List aB)++x17))]:List aB)))))
def tV(fu:Nat)(pd:aN):Option aB:=bd (cB fu RZ) fun x2=>bd (cB fu pd.aB3) fun x4=>bd (lJ fu pd.aCg) fun x6=>bd (mI fu ([x2,x4,x6]:List aB)) fun x8=>so (loopN (KL fu pd x2 x4 x6 x8) (pd.aB8.length-0) 0 x8.aB6) fun v11=>bd (j7 fu pd) fun x21=>bd (E7 fu x21 (aB.mk x8.aB9 v11)) fun x23=>some x23
theorem KM(fu:Nat)(pd:aN)(r:aB)(H:tV fu pd=some r):bR Tryz.prog 223 [(aN.pv pd)] ((aB.pv r)):=by
 refine qJ func223 H (fun C hC H=>?_)
 refine gQ 2 ?_;refine q1 (eX (jF pd)) ?_;refine gQ 3 ?_;refine bK H fun x2 z1 H=>(bK H fun x4 z3 H=>(bK H fun x6 z5 H=>(bK H fun x8 z7 H=>(dWa (dI [] (bE func239 (b5 fu RZ _ z1)) (dI [1] bZ (dBz [6] 0 0 uK (dI [7] (bE func239 (b5 fu pd.aB3 _ z3)) (dI [1] bZ (dBz [9] 0 0 uK (dI [10] (bE func240 (m4 fu pd.aCg _ z5)) (dI [5,8,11] (iF ([x2,x4,x6]:List aB)) ?_))))))))))))
 refine dEz [12] (fun _ z=>by cases z<;>exact bB.callOwn (pre:=⟨[],[]⟩) (B:= []) (R:=fun k=> .agg [pS x8.aB9,eF x8.aB6 k]) (ps:= [_]) (qs:= [bH ([x2,x4,x6]:List aB)]) [] rfl rfl func238 (by kernel_rfl) rfl rfl rfl (eZ.of trivial trivial (by decide) (by decide)) rfl jN rfl rfl rfl (fun k k'=>(.agg (.cons (.free _ rfl) (.cons Mv.acc GX.nil)))) (nE fu ([x2,x4,x6]:List aB) _ z7)) ?_;refine dA (fun _ st h=>vAl h abA.h) (dZ 3 [3,13] jO (dN ?_))
 refine gQ 5 ?_;refine cQ.fact (cI 0 2 rfl rfl rfl (aD.trs_len _)) (fun hl12=>?_)
 refine bU (σ:=(List aB)) (fun i9 v11=>⟨[(1,.ptr 0 0),(2,.ptr 1 0),(3,.ptr 2 0),(4,pN i9)],⟨[some ⟨39,jF pd⟩,some ⟨189,[pS s_,.nil]⟩,some ⟨189,[pS x8.aB9,eF v11 0]⟩],[⟨189,2,aB.trs (v11),false⟩]⟩⟩) (fun v11=>⟨[(1,.ptr 0 0),(2,.ptr 1 0),(3,.ptr 2 0)],⟨[some ⟨39,jF pd⟩,some ⟨189,[pS s_,.nil]⟩,some ⟨189,[pS x8.aB9,eF v11 0]⟩],[⟨189,2,aB.trs (v11),false⟩]⟩⟩) (eK H) ?_ ?_
 ·rintro i9 v11 H
  refine gQ 9 ?_;refine cS H (fun h13 h13l H=>?_) (fun h13 H=>?_)
  ·refine gQ 3 ?_;refine bK H fun x15 z14 H=>(bK H fun x17 z16 H=>(cC H fun z18 H=>(cC H fun z19 H=>(dW (dI [3] bZ (dB [21] 0 2 uK (dI [1] bZ (dD [23] eE (dI [4] bF (dI [24,25] qF (dI [26] wZ (dI [27] vM (dI [28] (bE func239 (b5 fu ((aT pd.aB8 i9).aB3) _ z14)) ?_)))))))))))))
   refine dE [29] (qE ([x15]:List aB)) (dI [1] bZ (dB [31] 0 1 uK (dI [4] bF (dI [32,33] qF (dI [34] wZ (dI [35] vM (dI [36] (bE func241 (O8 fu ((aT pd.aB8 i9).aCm) _ z16)) (dE [30,37] (lG z18) (dI [38] rW (dI [39] (iF ([(aB.mk s_ (([x15]:List aB)++x17))]:List aB)) (dE [22,40] (lG z19) (dI [3] bZ (kU [42,41] jO ?_)))))))))))))
   refine dN ?_;exact gE 5
  exact gE 0
 rintro v11 H
 refine qS (bK H fun x21 z20 H=>(bK H fun x23 z22 H=>(dW (dD [1] (bW [pS pd.aB3,rS pd.aCg,dF pd.aB8]) (dI [43] (bE func230 (zG fu pd _ z20)) (dD [3] (bW [pS x8.aB9,eF v11 0]) (dI [44,45] (bE func244 (JW fu x21 (aB.mk x8.aB9 v11) _ z22)) (kU [2,46] jO (dN ?_)))))))))
 exact gE 0
def KW(fu:Nat)(px x2 x4:aB)(x6:LB)(x8:List aB):Nat→((List aD))→Option (LR ((List aD)) (aN×Bool)):=fun i9 v11=>bd (dK fu (aT x8 i9) 0) fun x15=>bd (wT fu (aT x8 i9) 1) fun x17=>bd (JX fu x17) fun x19=>gd ((v11).length+(([(aD.mk x15.aB9 x19)]:List aD)).length≤68719476736) (some (.next (v11++([(aD.mk x15.aB9 x19)]:List aD))))
def tZ(fu:Nat)(px:aB):Option (aN×Bool):=bd (dK fu px 1) fun x2=>bd (dK fu px 2) fun x4=>bd (m3 fu x4) fun x6=>bd (wT fu px 3) fun x8=>so (loopN (KW fu px x2 x4 x6 x8) (x8.length-0) 0 ([])) fun v11=>bd (iJ fu px) fun x22=>sw (!(x22)) (some ((aN.mk s_ [] []),false)) (sw (decide ((px.aB6.length:Int)=0)) (some ((aN.mk s_ [] []),false)) (bd (tV fu (aN.mk x2.aB9 x6 v11)) fun x26=>bd (fN fu x26 px) fun x28=>sw (!(x28)) (some ((aN.mk s_ [] []),false)) (some ((aN.mk x2.aB9 x6 v11),true))))
theorem KX(fu:Nat)(px:aB)(r:aN×Bool)(H:tZ fu px=some r):bR Tryz.prog 201 [(aB.pv px)] (.tup [(aN.pv r.1),pB r.2]):=by
 refine qJ func201 H (fun C hC H=>?_)
 refine gQ 2 ?_;refine q1 (eX ([pS px.aB9,bH px.aB6])) ?_;refine gQ 4 ?_;refine bK H fun x2 z1 H=>(bK H fun x4 z3 H=>(bK H fun x6 z5 H=>(dW (dB [1] 0 1 (DU [pS px.aB9,bH px.aB6]) (dI [7] (bE func175 (cY fu px 1 _ z1)) (dI [8] tF1 (dB [1] 0 1 (DU [pS px.aB9,bH px.aB6]) (dI [10] (bE func175 (cY fu px 2 _ z3)) (dI [11] (bE func216 (oE fu x4 _ z5)) (dI [9,12] rW (dE [] tAl (kU [4,13] jO (dN ?_)))))))))))))
 refine gQ 2 ?_;refine q1 (bW [pS px.aB9,bH px.aB6]) (bK H fun x8 z7 H=>(q1 (bE func217 (C1 fu px 3 _ z7)) ?_))
 refine gQ 7 ?_;refine cQ.wk (Wk.regBox (k:=2) (j:=2) 46 2 (by decide) rfl rfl) ?_;refine gL 5 (aB.trs_len _) (fun hl12=>?_)
 refine bU (σ:=(List aD)) (fun i9 v11=>⟨[(1,.ptr 0 0),(2,.ptr 1 0),(3,pB false),(4,.ptr 2 0),(5,bH x8),(6,pN i9)],⟨[some ⟨189,[pS px.aB9,bH px.aB6]⟩,some ⟨39,[pS s_,.nil,.nil]⟩,some ⟨39,[pS x2.aB9,rS x6,zO v11 0]⟩],[⟨46,2,aD.trs (v11),false⟩]⟩⟩) (fun v11=>⟨[(1,.ptr 0 0),(2,.ptr 1 0),(3,pB false),(4,.ptr 2 0)],⟨[some ⟨189,[pS px.aB9,bH px.aB6]⟩,some ⟨39,[pS s_,.nil,.nil]⟩,some ⟨39,[pS x2.aB9,rS x6,zO v11 0]⟩],[⟨46,2,aD.trs (v11),false⟩]⟩⟩) (eK H) ?_ ?_
 ·rintro i9 v11 H
  refine gQ 8 ?_;refine cS H (fun h13 h13l H=>?_) (fun h13 H=>?_)
  ·refine gQ 3 ?_;refine bK H fun x15 z14 H=>(bK H fun x17 z16 H=>(bK H fun x19 z18 H=>(cC H fun z20 H=>(dW (dI [4] bZ (dD [22] eE (dI [5] bF (dI [6] bF (dI [24,25] qF (dI [26] (iI (aB.cs (aT x8 i9))) (dI [27] (bE func175 (cY fu (aT x8 i9) 0 _ z14)) (dI [28] tF1 (dI [5] bF ?_)))))))))))))
   refine dI [6] bF (dI [30,31] qF (dI [32] (iI (aB.cs (aT x8 i9))) (dI [33] (bE func217 (C1 fu (aT x8 i9) 1 _ z16)) (dI [34] (bE func218 (W4 fu x17 _ z18)) (dI [29,35] rW (dI [36] (iF ([(aD.mk x15.aB9 x19)]:List aD)) (dE [23,37] (lG z20) (dI [4] bZ (kU [39,38] jO (dN ?_))))))))))
   exact gE 5
  exact gE 0
 rintro v11 H
 refine gQ 2 ?_;refine bK H fun x22 z21 H=>?_
 rcases oQ (!(x22)) with g23|g23
 ·have H:=sZ H g23
  refine dW (dD [1] (bW [pS px.aB9,bH px.aB6]) (dI [40] (bE func173 (c9 fu px _ z21)) (dI [41] JS (dI [42] bF ?_))))
  iterate 4 refine NH g23 ?_
  refine dI [43] (DV g23) (dI [48] bF ?_)
  iterate 5 refine NH rfl ?_
  refine dI [49] (DV rfl) (dN ?_)
  exact gE 7
 have H:=sY H g23
 rcases oQ (decide ((px.aB6.length:Int)=0)) with g24|g24
 ·have H:=sZ H g24
  refine dW (dD [1] (bW [pS px.aB9,bH px.aB6]) (dI [40] (bE func173 (c9 fu px _ z21)) (dI [41] JS (dI [42] bF (dI (hg:=bD g23) [1] bZ (dD (hg:=bD g23) [44] eE (dI (hg:=bD g23) [45] XY (dI (hg:=bD g23) [46] rEq (dI [43,47] (F5 g23) (dI [48] bF ?_))))))))))
  iterate 5 refine NH g24 ?_
  refine dI [49] (DV g24) (dN ?_)
  exact gE 7
 have H:=sY H g24
 refine bK H fun x26 z25 H=>(bK H fun x28 z27 H=>(dW (dD [1] (bW [pS px.aB9,bH px.aB6]) (dI [40] (bE func173 (c9 fu px _ z21)) (dI [41] JS (dI [42] bF (dI (hg:=bD g23) [1] bZ (dD (hg:=bD g23) [44] eE (dI (hg:=bD g23) [45] XY (dI (hg:=bD g23) [46] rEq (dI [43,47] (F5 g23) (dI [48] bF (dD (hg:=bD g24) [4] (bW [pS x2.aB9,rS x6,zO v11 0]) ?_)))))))))))))
 refine dI (hg:=bD g24) [50] (bE func223 (KM fu (aN.mk x2.aB9 x6 v11) _ z25)) (dD (hg:=bD g24) [1] (bW [pS px.aB9,bH px.aB6]) (dI (hg:=bD g24) [51,52] (bE func221 (u9 fu x26 px _ z27)) (dI (hg:=bD g24) [53] JS (dI [49,54] (F5 g24) (dN ?_)))))
 refine bC H (fun h29 H=>gE 6) fun h29 H=>?_;refine gQ 3 ?_;refine q1 (bW [pS x2.aB9,rS x6,zO v11 0]) ?_;exact gE 3
def ZG(fu:Nat)(px:aB):Nat→((List aG))→Option (LR ((List aG)) ((List aG))):=fun i1 v3=>bd (dK fu (aT px.aB6 i1) 0) fun x7=>bd (dK fu (aT px.aB6 i1) 1) fun x9=>bd (m7 fu x9) fun x11=>gd ((v3).length+(([(aG.mk x7.aB9 x11)]:List aG)).length≤68719476736) (some (.next (v3++([(aG.mk x7.aB9 x11)]:List aG))))
def z0(fu:Nat)(px:aB):Option ((List aG)):=so (loopN (ZG fu px) (px.aB6.length-0) 0 ([])) fun v3=>some v3
theorem LA(fu:Nat)(px:aB)(r:(List aG))(H:z0 fu px=some r):bR Tryz.prog 224 [(aB.pv px)] (bY r):=by
 refine qJ func224 H (fun C hC H=>?_)
 refine gQ 2 ?_;refine q1 (eX ([pS px.aB9,bH px.aB6])) ?_;refine gQ 4 ?_;refine q1 (qE ([]:List aG)) ?_;refine gQ 7 ?_;refine cQ.fact (cI 0 1 rfl rfl rfl (aB.trs_len _)) (fun hl4=>?_)
 refine bU (σ:=(List aG)) (fun i1 v3=>⟨[(1,.ptr 0 0),(2,.nil),(3,abM v3 0),(4,pN i1)],⟨[some ⟨189,[pS px.aB9,bH px.aB6]⟩],[⟨32,4,aG.trs (v3),false⟩]⟩⟩) (fun v3=>⟨[(2,.nil),(3,abM v3 0)],⟨[some ⟨189,[pS px.aB9,bH px.aB6]⟩],[⟨32,4,aG.trs (v3),false⟩]⟩⟩) (eK H) ?_ ?_
 ·rintro i1 v3 H
  refine gQ 9 ?_;refine cS H (fun h5 h5l H=>?_) (fun h5 H=>?_)
  ·refine gQ 3 ?_;refine bK H fun x7 z6 H=>(bK H fun x9 z8 H=>(bK H fun x11 z10 H=>(cC H fun z12 H=>(dW (dI [3] bF (dI [1] bZ (dD [14] eE (dI [4] bF (dI [15,16] qF (dI [17] (iI (aB.cs (aT px.aB6 i1))) (dI [18] (bE func175 (cY fu (aT px.aB6 i1) 0 _ z6)) (dI [19] tF1 (dI [1] bZ ?_)))))))))))))
   refine dD [21] eE (dI [4] bF (dI [22,23] qF (dI [24] (iI (aB.cs (aT px.aB6 i1))) (dI [25] (bE func175 (cY fu (aT px.aB6 i1) 1 _ z8)) (dI [26] (bE func219 (yH fu x9 _ z10)) (dI [20,27] rW (dI [28] (iF ([(aG.mk x7.aB9 x11)]:List aG)) (dE [13,29] (lG z12) (dI [30] bF (dN ?_))))))))))
   exact gE 5
  exact gE 0
 rintro v3 H
 exact gE 5
def ac5(fu:Nat)(p1:List aG):Nat→((List aB))→Option (LR ((List aB)) aB):=fun i1 v3=>bd (cB fu ((aT p1 i1).aCa)) fun x7=>bd (m6 fu ((aT p1 i1).aB7)) fun x9=>bd (mI fu ([x7,x9]:List aB)) fun x11=>gd ((v3).length+(([x11]:List aB)).length≤68719476736) (some (.next (v3++([x11]:List aB))))
def C3(fu:Nat)(p1:List aG):Option aB:=so (loopN (ac5 fu p1) (p1.length-0) 0 ([])) fun v3=>some (aB.mk s_ v3)
theorem O9(fu:Nat)(p1:List aG)(r:aB)(H:C3 fu p1=some r):bR Tryz.prog 245 [bY p1] ((aB.pv r)):=by
 refine qJ func245 H (fun C hC H=>?_)
 refine gQ 15 ?_;refine cQ.wk (Wk.regBox (k:=1) (j:=1) 189 2 (by decide) rfl rfl) ?_;refine gL 0 (aG.trs_len _) (fun hl4=>?_)
 refine bU (σ:=(List aB)) (fun i1 v3=>⟨[(0,bY p1),(2,.ptr 0 0),(3,.ptr 1 0),(4,pN i1)],⟨[some ⟨189,[pS s_,.nil]⟩,some ⟨189,[pS s_,eF v3 0]⟩],[⟨189,2,aB.trs (v3),false⟩]⟩⟩) (fun v3=>⟨[(2,.ptr 0 0),(3,.ptr 1 0)],⟨[some ⟨189,[pS s_,.nil]⟩,some ⟨189,[pS s_,eF v3 0]⟩],[⟨189,2,aB.trs (v3),false⟩]⟩⟩) (eK H) ?_ ?_
 ·rintro i1 v3 H
  refine gQ 8 ?_;refine cS H (fun h5 h5l H=>?_) (fun h5 H=>?_)
  ·refine gQ 3 ?_;refine bK H fun x7 z6 H=>(bK H fun x9 z8 H=>(bK H fun x11 z10 H=>(cC H fun z12 H=>(dW (dI [3] bZ (dD [12] eE (dI [0] bF (dI [4] bF (dI [14,15] qF (dI [16] wZ (dI [17] vM (dI [18] (bE func239 (b5 fu ((aT p1 i1).aCa) _ z6)) (dI [0] bF ?_)))))))))))))
   refine dI [4] bF (dI [20,21] qF (dI [22] wZ (dI [23] (iI (aA.cs ((aT p1 i1).aB7))) (dI [24] (bE func242 (yG fu ((aT p1 i1).aB7) _ z8)) (dI [19,25] (iF ([x7,x9]:List aB)) (dI [26] (bE func238 (GO (nE fu) ([x7,x9]:List aB) _ z10)) (dI [27] (iF ([x11]:List aB)) (dE [13,28] (lG z12) (dI [3] bZ (kU [30,29] jO (dN ?_)))))))))))
   exact gE 5
  exact gE 0
 rintro v3 H
 refine gQ 2 ?_;refine q1 (bW [pS s_,eF v3 0]) ?_;exact gE 2
def KR(fu:Nat)(p0:aI)(x2:Bool):Option (aB⊕((LB))):=sw (p0.aCv) (gd (([]:LB).length+(([wO]:LB)).length≤68719476736) (some (.inr (([])++([wO]:LB))))) (some (.inr ([])))
def KS(fu:Nat)(p0:aI)(x2:Bool)(v5:LB):Option (aB⊕(ByteArray×(List aB))):=sw (p0.aCx) (bd (m6 fu p0.aCj) fun x12=>bd (mI fu ([x12]:List aB)) fun x14=>some (.inr (x14.aB9,x14.aB6))) (some (.inr (s_,([]))))
def KT(fu:Nat)(p0:aI)(x2:Bool)(v5:LB)(v8:ByteArray)(v9:List aB)(x16 x18 x20 x22 x24 x26 x28:aB):Nat→((List aB))→Option (LR ((List aB)) aB):=fun i29 v31=>lt (aT p0.aCu i29) fun y34=>bd (cB fu y34.aB3) fun x37=>bd (lJ fu y34.aCg) fun x39=>bd (mZ fu y34.aCd) fun x41=>bd (mI fu ([x37,x39,x41]:List aB)) fun x43=>gd ((v31).length+(([(aB.mk x43.aB9 x43.aB6)]:List aB)).length≤68719476736) (some (.next (v31++([(aB.mk x43.aB9 x43.aB6)]:List aB))))
def tY(fu:Nat)(p0:aI):Option aB:=bd (j8 fu p0) fun x2=>sw (!(x2)) (some (aB.mk s_ [])) (so (KR fu p0 x2) fun v5=>so (KS fu p0 x2 v5) fun(v8,v9)=>bd (cB fu R0) fun x16=>bd (cB fu p0.aCa) fun x18=>bd (lJ fu p0.aCg) fun x20=>bd (m6 fu p0.aCh) fun x22=>bd (C3 fu p0.aCk) fun x24=>bd (lJ fu v5) fun x26=>bd (mI fu ([x16,x18,x20,x22,x24,x26,(aB.mk v8 v9)]:List aB)) fun x28=>so (loopN (KT fu p0 x2 v5 v8 v9 x16 x18 x20 x22 x24 x26 x28) (p0.aCu.length-0) 0 x28.aB6) fun v31=>bd (E7 fu true (aB.mk x28.aB9 v31)) fun x46=>some x46)
theorem KU(fu:Nat)(p0:aI)(r:aB)(H:tY fu p0=some r):bR Tryz.prog 225 [(aI.pv p0)] ((aB.pv r)):=by
 refine qJ func225 H (fun C hC H=>?_)
 refine gQ 2 ?_;refine q1 (eX (c8 p0)) ?_;refine gQ 5 ?_;refine q1 (bW [pS p0.aCa,rS p0.aCg,pI p0.aCh.aB5,pS p0.aCh.aB3,aR p0.aCh.aB4,bY p0.aCk,pB p0.aCv,pB p0.aCx,pI p0.aCj.aB5,pS p0.aCj.aB3,aR p0.aCj.aB4,mS p0.aCu]) (bK H fun x2 z1 H=>(q1 (bE func231 (zL fu p0 _ z1)) ?_))
 refine gQ 2 ?_;refine bC H (fun h3 H=>gE 5) fun h3 H=>?_;refine gQ 3 ?_;refine q1 (qE ([]:LB)) ?_;refine gQ 3 ?_;refine nV (σ:=(LB)) (fun v5=>⟨[(1,.ptr 0 0),(2,.ptr 1 0),(3,aS v5 0)],⟨[some ⟨163,c8 p0⟩,some ⟨189,[pS s_,.nil]⟩],[⟨9,1,aY (v5),false⟩]⟩⟩) (eK H) (fun H=>?_) ?_
 ·refine gQ 5 ?_;refine bC H (fun h6 H=>?_) (fun h6 H=>?_)
  ·refine gQ 2 ?_;refine q1 (iF ([wO]:LB)) (cC H fun z7 H=>(q1 (lG z7) ?_))
   exact gE 2
  exact gE 1
 rintro v5 H
 refine gQ 7 ?_;refine cQ.wk (Wk.regBox (k:=2) (j:=1) 189 2 (by decide) rfl rfl) ?_;refine nV (σ:=ByteArray×(List aB)) (fun(v8,v9)=>⟨[(1,.ptr 0 0),(2,.ptr 1 0),(3,aS v5 0),(4,.ptr 2 0)],⟨[some ⟨163,c8 p0⟩,some ⟨189,[pS s_,.nil]⟩,some ⟨189,[pS v8,bH v9]⟩],[⟨9,1,aY (v5),false⟩,⟨189,2,aB.trs ([]),false⟩]⟩⟩) (eK H) (fun H=>?_) ?_
 ·refine gQ 5 ?_;refine bC H (fun h10 H=>?_) (fun h10 H=>?_)
  ·refine gQ 2 ?_;refine q1 (bW [pI p0.aCj.aB5,pS p0.aCj.aB3,aR p0.aCj.aB4]) (bK H fun x12 z11 H=>(q1 (bE func242 (yG fu p0.aCj _ z11)) (q1 (iF ([x12]:List aB)) (bK H fun x14 z13 H=>(q1 (bB.callOwn (pre:=⟨[],[]⟩) (B:= []) (R:=fun k=> .agg [pS x14.aB9,eF x14.aB6 k]) (ps:= [_]) (qs:= [bH ([x12]:List aB)]) [] rfl rfl func238 (by kernel_rfl) rfl rfl rfl (eZ.of trivial trivial (by decide) (by decide)) rfl jN rfl rfl rfl (fun k k'=>(.agg (.cons (.free _ rfl) (.cons Mv.acc GX.nil)))) (nE fu ([x12]:List aB) _ z13)) ?_)))))
   exact gE 2
  exact gE 1
 rintro⟨v8,v9⟩ H
 refine qS (bK H fun x16 z15 H=>(bK H fun x18 z17 H=>(bK H fun x20 z19 H=>(bK H fun x22 z21 H=>(bK H fun x24 z23 H=>(bK H fun x26 z25 H=>(bK H fun x28 z27 H=>(dWa (dI [] (bE func239 (b5 fu R0 _ z15)) (dI [1] bZ (dBz [27] 0 0 uK (dI [28] (bE func239 (b5 fu p0.aCa _ z17)) (dI [1] bZ ?_)))))))))))))
 refine dBz [30] 0 0 uK (dI [31] (bE func240 (m4 fu p0.aCg _ z19)) (dI [1] bZ (dBz [33] 0 0 (DU [pI p0.aCh.aB5,pS p0.aCh.aB3,aR p0.aCh.aB4]) (dI [34] (bE func242 (yG fu p0.aCh _ z21)) (dI [1] bZ (dBz [36] 0 0 uK (dI [37] (bE func245 (O9 fu p0.aCk _ z23)) (dI [3] bF (dI [39] (bE func240 (m4 fu v5 _ z25)) (dBz [4] 0 0 (DU [pS v8,bH v9]) (dI [26,29,32,35,38,40,41] (iF ([x16,x18,x20,x22,x24,x26,(aB.mk v8 v9)]:List aB)) ?_)))))))))))
 refine dEz [42] (fun _ z=>by cases z<;>exact bB.callOwn (pre:=⟨[],[]⟩) (B:= []) (R:=fun k=> .agg [pS x28.aB9,eF x28.aB6 k]) (ps:= [_]) (qs:= [bH ([x16,x18,x20,x22,x24,x26,(aB.mk v8 v9)]:List aB)]) [] rfl rfl func238 (by kernel_rfl) rfl rfl rfl (eZ.of trivial trivial (by decide) (by decide)) rfl jN rfl rfl rfl (fun k k'=>(.agg (.cons (.free _ rfl) (.cons Mv.acc GX.nil)))) (nE fu ([x16,x18,x20,x22,x24,x26,(aB.mk v8 v9)]:List aB) _ z27)) ?_;refine dA (fun _ st h=>vAl h abA.h) (dZ 5 [5,43] jO (dN ?_))
 refine gQ 5 ?_;refine cQ.fact (cI 0 11 rfl rfl rfl (aQ.trs_len _)) (fun hl32=>?_)
 refine bU (σ:=(List aB)) (fun i29 v31=>⟨[(1,.ptr 0 0),(2,.ptr 1 0),(5,.ptr 3 0),(6,pN i29)],⟨[some ⟨163,c8 p0⟩,some ⟨189,[pS s_,.nil]⟩,some ⟨189,[pS v8,bH v9]⟩,some ⟨189,[pS x28.aB9,eF v31 2]⟩],[⟨9,1,aY (v5),false⟩,⟨189,2,aB.trs ([]),false⟩,⟨189,2,aB.trs (v31),false⟩]⟩⟩) (fun v31=>⟨[(2,.ptr 1 0),(5,.ptr 3 0)],⟨[some ⟨163,c8 p0⟩,some ⟨189,[pS s_,.nil]⟩,some ⟨189,[pS v8,bH v9]⟩,some ⟨189,[pS x28.aB9,eF v31 2]⟩],[⟨9,1,aY (v5),false⟩,⟨189,2,aB.trs ([]),false⟩,⟨189,2,aB.trs (v31),false⟩]⟩⟩) (eK H) ?_ ?_
 ·rintro i29 v31 H
  refine gQ 9 ?_;refine cS H (fun h33 h33l H=>?_) (fun h33 H=>?_)
  ·refine gQ 8 ?_;refine fZ H fun y34 h35 H=>(q1 (yI h35 h33l) (q1 (iI (aQ.cs y34)) ?_))
   refine gQ 3 ?_;refine bK H fun x37 z36 H=>(bK H fun x39 z38 H=>(bK H fun x41 z40 H=>(bK H fun x43 z42 H=>(cC H fun z44 H=>(dW (dI [5] bZ (dB [56] 0 1 uK (dI [7] bZ (dD [58] eE (dI [59] (bE func239 (b5 fu y34.aB3 _ z36)) (dI [7] bZ (dD [61] eE (dI [62] (bE func240 (m4 fu y34.aCg _ z38)) ?_)))))))))))))
   refine dI [7] bZ (dD [64] (bW [pI y34.aCd.aB5,pS y34.aCd.aCa,pS y34.aCd.aB3,pI y34.aCd.aCL,pI y34.aCd.aB7.aB5,pS y34.aCd.aB7.aB3,aR y34.aCd.aB7.aB4,iP y34.aCd.aB4,sE y34.aCd.aCo]) (dI [65] (bE func243 (R3 fu y34.aCd _ z40)) (dI [60,63,66] (iF ([x37,x39,x41]:List aB)) (dE [67] (bB.callOwn (pre:=⟨[],[]⟩) (B:= []) (R:=fun k=> .agg [pS x43.aB9,eF x43.aB6 k]) (ps:= [_]) (qs:= [bH ([x37,x39,x41]:List aB)]) [] rfl rfl func238 (by kernel_rfl) rfl rfl rfl (eZ.of trivial trivial (by decide) (by decide)) rfl jN rfl rfl rfl (fun k k'=>(.agg (.cons (.free _ rfl) (.cons Mv.acc GX.nil)))) (nE fu ([x37,x39,x41]:List aB) _ z42)) (dI [68] (iF ([(aB.mk x43.aB9 x43.aB6)]:List aB)) (dE [57,69] (lG z44) (dI [5] bZ (kU [71,70] jO (dN ?_)))))))))
   exact gE 5
  exact gE 0
 rintro v31 H
 refine gQ 2 ?_;refine q1 (bW [pS x28.aB9,eF v31 2]) (bK H fun x46 z45 H=>(q1 (bE func244 (JW fu true (aB.mk x28.aB9 v31) _ z45)) ?_))
 exact gE 2
def K0(fu:Nat)(p0 x2 x4:aB)(x6:LB)(x8:aB)(x10:aA)(x12:aB)(x14:List aG)(x16 x18:aB):Option ((aI×Bool)⊕((List aA)×Bool×Int×ByteArray)):=sw (decide ((x18.aB6.length:Int)>0)) (gd (0<(x18.aB6).length) (bd (m7 fu (aT x18.aB6 0)) fun x26=>some (.inr (x26.aB4,true,x26.aB5,x26.aB3)))) (some (.inr ([],false,0,s_)))
def K2(fu:Nat)(p0 x2 x4:aB)(x6:LB)(x8:aB)(x10:aA)(x12:aB)(x14:List aG)(x16 x18:aB)(v22:List aA)(v19:Bool)(v20:Int)(v21:ByteArray)(x28:List aB):Nat→((List aQ))→Option (LR ((List aQ)) (aI×Bool)):=fun i29 v31=>bd (dK fu (aT x28 i29) 0) fun x35=>bd (dK fu (aT x28 i29) 1) fun x37=>bd (m3 fu x37) fun x39=>bd (dK fu (aT x28 i29) 2) fun x41=>bd (gZ fu x41) fun x43=>gd ((v31).length+(([(aQ.mk x35.aB9 x39 x43)]:List aQ)).length≤68719476736) (some (.next (v31++([(aQ.mk x35.aB9 x39 x43)]:List aQ))))
def t1(fu:Nat)(p0:aB):Option (aI×Bool):=bd (dK fu p0 1) fun x2=>bd (dK fu p0 2) fun x4=>bd (m3 fu x4) fun x6=>bd (dK fu p0 3) fun x8=>bd (m7 fu x8) fun x10=>bd (dK fu p0 4) fun x12=>bd (z0 fu x12) fun x14=>bd (dK fu p0 5) fun x16=>bd (dK fu p0 6) fun x18=>so (K0 fu p0 x2 x4 x6 x8 x10 x12 x14 x16 x18) fun(v22,v19,v20,v21)=>bd (wT fu p0 7) fun x28=>so (loopN (K2 fu p0 x2 x4 x6 x8 x10 x12 x14 x16 x18 v22 v19 v20 v21 x28) (x28.length-0) 0 ([])) fun v31=>bd (iJ fu p0) fun x46=>sw (!(x46)) (some ((aI.mk s_ [] (aA.mk 0 s_ []) [] false false (aA.mk 0 s_ []) []),false)) (sw (decide ((p0.aB6.length:Int)=0)) (some ((aI.mk s_ [] (aA.mk 0 s_ []) [] false false (aA.mk 0 s_ []) []),false)) (bd (tY fu (aI.mk x2.aB9 x6 x10 x14 (decide ((x16.aB6.length:Int)>0)) v19 (aA.mk v20 v21 v22) v31)) fun x50=>bd (fN fu x50 p0) fun x52=>sw (!(x52)) (some ((aI.mk s_ [] (aA.mk 0 s_ []) [] false false (aA.mk 0 s_ []) []),false)) (some ((aI.mk x2.aB9 x6 x10 x14 (decide ((x16.aB6.length:Int)>0)) v19 (aA.mk v20 v21 v22) v31),true))))
theorem K3(fu:Nat)(p0:aB)(r:aI×Bool)(H:t1 fu p0=some r):bR Tryz.prog 202 [(aB.pv p0)] (.tup [(aI.pv r.1),pB r.2]):=by
 refine qJ func202 H (fun C hC H=>?_)
 refine gQ 2 ?_;refine q1 (eX ([pS p0.aB9,bH p0.aB6])) ?_;refine gQ 4 ?_;refine bK H fun x2 z1 H=>(bK H fun x4 z3 H=>(bK H fun x6 z5 H=>(bK H fun x8 z7 H=>(bK H fun x10 z9 H=>(bK H fun x12 z11 H=>(bK H fun x14 z13 H=>(bK H fun x16 z15 H=>(dW (dB [1] 0 1 (DU [pS p0.aB9,bH p0.aB6]) (dI [8] (bE func175 (cY fu p0 1 _ z1)) (dI [9] tF1 (dB [1] 0 1 (DU [pS p0.aB9,bH p0.aB6]) (dI [11] (bE func175 (cY fu p0 2 _ z3)) ?_)))))))))))))
 refine dI [12] (bE func216 (oE fu x4 _ z5)) (dB [1] 0 1 (DU [pS p0.aB9,bH p0.aB6]) (dI [14] (bE func175 (cY fu p0 3 _ z7)) (dI [15] (bE func219 (yH fu x8 _ z9)) (dB [1] 0 1 (DU [pS p0.aB9,bH p0.aB6]) (dI [17] (bE func175 (cY fu p0 4 _ z11)) (dI [18] (bE func224 (LA fu x12 _ z13)) (dB [1] 0 1 (DU [pS p0.aB9,bH p0.aB6]) (dI [20] (bE func175 (cY fu p0 5 _ z15)) (dI [21] tF1 (dI [22] XY (dI [23] rGt (dI [10,13,16,19,24] rW (dE [] tAl ?_)))))))))))))
 refine kU [4,25] jO (dN ?_)
 refine gQ 2 ?_;refine q1 (bW [pS p0.aB9,bH p0.aB6]) (bK H fun x18 z17 H=>(q1 (bE func175 (cY fu p0 6 _ z17)) ?_))
 refine gQ 4 ?_;refine nV (σ:=(List aA)×Bool×Int×ByteArray) (fun(v22,v19,v20,v21)=>⟨[(1,.ptr 0 0),(2,.ptr 1 0),(3,pB false),(4,.ptr 2 0)],⟨[some ⟨189,[pS p0.aB9,bH p0.aB6]⟩,some ⟨163,[pS s_,.nil,pI 0,pS s_,.nil,.nil,pB false,pB false,pI 0,pS s_,.nil,.nil]⟩,some ⟨163,[pS x2.aB9,rS x6,pI x10.aB5,pS x10.aB3,aR x10.aB4,bY x14,pB (decide ((x16.aB6.length:Int)>0)),pB v19,pI v20,pS v21,aR v22,.nil]⟩,some ⟨189,[pS x18.aB9,bH x18.aB6]⟩],[]⟩⟩) (eK H) (fun H=>?_) ?_
 ·refine gQ 7 ?_;refine bC H (fun h23 H=>?_) (fun h23 H=>?_)
  ·refine gQ 8 ?_;refine cC H fun z24 H=>(q1 qF (q1 (iI (aB.cs (aT x18.aB6 0))) (bK H fun x26 z25 H=>(q1 (bE func219 (yH fu (aT x18.aB6 0) _ z25)) ?_))))
   exact gE 3
  exact gE 1
 rintro⟨v22,v19,v20,v21⟩ H
 refine gQ 2 ?_;refine q1 (bW [pS p0.aB9,bH p0.aB6]) (bK H fun x28 z27 H=>(q1 (bE func217 (C1 fu p0 7 _ z27)) ?_))
 refine gQ 7 ?_;refine cQ.wk (Wk.regBox (k:=2) (j:=11) 242 11 (by decide) rfl rfl) ?_;refine gL 6 (aB.trs_len _) (fun hl32=>?_)
 refine bU (σ:=(List aQ)) (fun i29 v31=>⟨[(1,.ptr 0 0),(2,.ptr 1 0),(3,pB false),(4,.ptr 2 0),(6,bH x28),(7,pN i29)],⟨[some ⟨189,[pS p0.aB9,bH p0.aB6]⟩,some ⟨163,[pS s_,.nil,pI 0,pS s_,.nil,.nil,pB false,pB false,pI 0,pS s_,.nil,.nil]⟩,some ⟨163,[pS x2.aB9,rS x6,pI x10.aB5,pS x10.aB3,aR x10.aB4,bY x14,pB (decide ((x16.aB6.length:Int)>0)),pB v19,pI v20,pS v21,aR v22,UB v31 0]⟩,some ⟨189,[pS x18.aB9,bH x18.aB6]⟩],[⟨242,11,aQ.trs (v31),false⟩]⟩⟩) (fun v31=>⟨[(1,.ptr 0 0),(2,.ptr 1 0),(3,pB false),(4,.ptr 2 0)],⟨[some ⟨189,[pS p0.aB9,bH p0.aB6]⟩,some ⟨163,[pS s_,.nil,pI 0,pS s_,.nil,.nil,pB false,pB false,pI 0,pS s_,.nil,.nil]⟩,some ⟨163,[pS x2.aB9,rS x6,pI x10.aB5,pS x10.aB3,aR x10.aB4,bY x14,pB (decide ((x16.aB6.length:Int)>0)),pB v19,pI v20,pS v21,aR v22,UB v31 0]⟩,some ⟨189,[pS x18.aB9,bH x18.aB6]⟩],[⟨242,11,aQ.trs (v31),false⟩]⟩⟩) (eK H) ?_ ?_
 ·rintro i29 v31 H
  refine gQ 8 ?_;refine cS H (fun h33 h33l H=>?_) (fun h33 H=>?_)
  ·refine gQ 3 ?_;refine bK H fun x35 z34 H=>(bK H fun x37 z36 H=>(bK H fun x39 z38 H=>(bK H fun x41 z40 H=>(bK H fun x43 z42 H=>(cC H fun z44 H=>(dW (dI [4] bZ (dD [47] eE (dI [6] bF (dI [7] bF (dI [49,50] qF (dI [51] (iI (aB.cs (aT x28 i29))) (dI [52] (bE func175 (cY fu (aT x28 i29) 0 _ z34)) ?_)))))))))))))
   refine dI [53] tF1 (dI [6] bF (dI [7] bF (dI [55,56] qF (dI [57] (iI (aB.cs (aT x28 i29))) (dI [58] (bE func175 (cY fu (aT x28 i29) 1 _ z36)) (dI [59] (bE func216 (oE fu x37 _ z38)) (dI [6] bF (dI [7] bF (dI [61,62] qF (dI [63] (iI (aB.cs (aT x28 i29))) (dI [64] (bE func175 (cY fu (aT x28 i29) 2 _ z40)) (dI [65] (bE func220 (IT fu x41 _ z42)) (dI [54,60,66] rW ?_)))))))))))))
   refine dI [67] (iF ([(aQ.mk x35.aB9 x39 x43)]:List aQ)) (dE [48,68] (lG z44) (dI [4] bZ (kU [70,69] jO (dN ?_))))
   exact gE 5
  exact gE 0
 rintro v31 H
 refine gQ 2 ?_;refine bK H fun x46 z45 H=>?_
 rcases oQ (!(x46)) with g47|g47
 ·have H:=sZ H g47
  refine dW (dD [1] (bW [pS p0.aB9,bH p0.aB6]) (dI [71] (bE func173 (c9 fu p0 _ z45)) (dI [72] JS (dI [73] bF ?_))))
  iterate 4 refine NH g47 ?_
  refine dI [74] (DV g47) (dI [79] bF ?_)
  iterate 5 refine NH rfl ?_
  refine dI [80] (DV rfl) (dN ?_)
  exact gE 7
 have H:=sY H g47
 rcases oQ (decide ((p0.aB6.length:Int)=0)) with g48|g48
 ·have H:=sZ H g48
  refine dW (dD [1] (bW [pS p0.aB9,bH p0.aB6]) (dI [71] (bE func173 (c9 fu p0 _ z45)) (dI [72] JS (dI [73] bF (dI (hg:=bD g47) [1] bZ (dD (hg:=bD g47) [75] eE (dI (hg:=bD g47) [76] XY (dI (hg:=bD g47) [77] rEq (dI [74,78] (F5 g47) (dI [79] bF ?_))))))))))
  iterate 5 refine NH g48 ?_
  refine dI [80] (DV g48) (dN ?_)
  exact gE 7
 have H:=sY H g48
 refine bK H fun x50 z49 H=>(bK H fun x52 z51 H=>(dW (dD [1] (bW [pS p0.aB9,bH p0.aB6]) (dI [71] (bE func173 (c9 fu p0 _ z45)) (dI [72] JS (dI [73] bF (dI (hg:=bD g47) [1] bZ (dD (hg:=bD g47) [75] eE (dI (hg:=bD g47) [76] XY (dI (hg:=bD g47) [77] rEq (dI [74,78] (F5 g47) (dI [79] bF (dD (hg:=bD g48) [4] (bW [pS x2.aB9,rS x6,pI x10.aB5,pS x10.aB3,aR x10.aB4,bY x14,pB (decide ((x16.aB6.length:Int)>0)),pB v19,pI v20,pS v21,aR v22,UB v31 0]) ?_)))))))))))))
 refine dI (hg:=bD g48) [81] (bE func225 (KU fu (aI.mk x2.aB9 x6 x10 x14 (decide ((x16.aB6.length:Int)>0)) v19 (aA.mk v20 v21 v22) v31) _ z49)) (dD (hg:=bD g48) [1] (bW [pS p0.aB9,bH p0.aB6]) (dI (hg:=bD g48) [82,83] (bE func221 (u9 fu x50 p0 _ z51)) (dI (hg:=bD g48) [84] JS (dI [80,85] (F5 g48) (dN ?_)))))
 refine bC H (fun h53 H=>gE 6) fun h53 H=>?_;refine gQ 3 ?_;refine q1 (bW [pS x2.aB9,rS x6,pI x10.aB5,pS x10.aB3,aR x10.aB4,bY x14,pB (decide ((x16.aB6.length:Int)>0)),pB v19,pI v20,pS v21,aR v22,UB v31 0]) ?_;exact gE 3
def KO(fu:Nat)(pf:aP)(x2:Bool):Nat→((List aB))→Option (LR ((List aB)) aB):=fun i4 v6=>bd (cB fu ((aT pf.aCn i4).aB3)) fun x10=>bd (m6 fu ((aT pf.aCn i4).aB7)) fun x12=>bd (mI fu ([x10,x12]:List aB)) fun x14=>gd ((v6).length+(([x14]:List aB)).length≤68719476736) (some (.next (v6++([x14]:List aB))))
def tX(fu:Nat)(pf:aP):Option aB:=bd (n8 fu pf) fun x2=>sw (!(x2)) (some (aB.mk s_ [])) (so (loopN (KO fu pf x2) (pf.aCn.length-0) 0 ([])) fun v6=>bd (cB fu amN) fun x17=>bd (cB fu pf.aB3) fun x19=>bd (lJ fu pf.aCg) fun x21=>bd (C3 fu pf.aCk) fun x23=>bd (m6 fu pf.aCl) fun x25=>bd (mZ fu pf.aCd) fun x27=>bd (mI fu ([x17,x19,x21,x23,(aB.mk s_ v6),x25,x27]:List aB)) fun x29=>bd (E7 fu true x29) fun x31=>some x31)
theorem KP(fu:Nat)(pf:aP)(r:aB)(H:tX fu pf=some r):bR Tryz.prog 226 [(aP.pv pf)] ((aB.pv r)):=by
 refine qJ func226 H (fun C hC H=>?_)
 refine gQ 2 ?_;refine q1 (eX (AI pf)) ?_;refine gQ 5 ?_;refine q1 (bW [pS pf.aB3,rS pf.aCg,bY pf.aCk,V7 pf.aCn,pI pf.aCl.aB5,pS pf.aCl.aB3,aR pf.aCl.aB4,pI pf.aCd.aB5,pS pf.aCd.aCa,pS pf.aCd.aB3,pI pf.aCd.aCL,pI pf.aCd.aB7.aB5,pS pf.aCd.aB7.aB3,aR pf.aCd.aB7.aB4,iP pf.aCd.aB4,sE pf.aCd.aCo]) (bK H fun x2 z1 H=>(q1 (bE func232 (zH fu pf _ z1)) ?_))
 refine gQ 2 ?_;refine bC H (fun h3 H=>gE 5) fun h3 H=>?_;refine gQ 12 ?_;refine cQ.wk (Wk.regBox (k:=2) (j:=1) 189 2 (by decide) rfl rfl) ?_;refine cQ.fact (cI 0 3 rfl rfl rfl (aV.trs_len _)) (fun hl7=>?_)
 refine bU (σ:=(List aB)) (fun i4 v6=>⟨[(1,.ptr 0 0),(2,.ptr 1 0),(3,.ptr 2 0),(4,pN i4)],⟨[some ⟨213,AI pf⟩,some ⟨189,[pS s_,.nil]⟩,some ⟨189,[pS s_,eF v6 0]⟩],[⟨189,2,aB.trs (v6),false⟩]⟩⟩) (fun v6=>⟨[(1,.ptr 0 0),(2,.ptr 1 0),(3,.ptr 2 0)],⟨[some ⟨213,AI pf⟩,some ⟨189,[pS s_,.nil]⟩,some ⟨189,[pS s_,eF v6 0]⟩],[⟨189,2,aB.trs (v6),false⟩]⟩⟩) (eK H) ?_ ?_
 ·rintro i4 v6 H
  refine gQ 9 ?_;refine cS H (fun h8 h8l H=>?_) (fun h8 H=>?_)
  ·refine gQ 3 ?_;refine bK H fun x10 z9 H=>(bK H fun x12 z11 H=>(bK H fun x14 z13 H=>(cC H fun z15 H=>(dW (dI [3] bZ (dD [17] eE (dI [1] bZ (dD [19] eE (dI [4] bF (dI [20,21] qF (dI [22] wZ (dI [23] vM (dI [24] (bE func239 (b5 fu ((aT pf.aCn i4).aB3) _ z9)) ?_)))))))))))))
   refine dI [1] bZ (dD [26] eE (dI [4] bF (dI [27,28] qF (dI [29] wZ (dI [30] (iI (aA.cs ((aT pf.aCn i4).aB7))) (dI [31] (bE func242 (yG fu ((aT pf.aCn i4).aB7) _ z11)) (dI [25,32] (iF ([x10,x12]:List aB)) (dI [33] (bE func238 (GO (nE fu) ([x10,x12]:List aB) _ z13)) (dI [34] (iF ([x14]:List aB)) (dE [18,35] (lG z15) (dI [3] bZ (kU [37,36] jO (dN ?_)))))))))))))
   exact gE 5
  exact gE 0
 rintro v6 H
 refine qS (bK H fun x17 z16 H=>(bK H fun x19 z18 H=>(bK H fun x21 z20 H=>(bK H fun x23 z22 H=>(bK H fun x25 z24 H=>(bK H fun x27 z26 H=>(bK H fun x29 z28 H=>(bK H fun x31 z30 H=>(dW (dI [] (bE func239 (b5 fu amN _ z16)) (dI [1] bZ (dD [39] eE (dI [40] (bE func239 (b5 fu pf.aB3 _ z18)) ?_)))))))))))))
 refine dI [1] bZ (dD [42] eE (dI [43] (bE func240 (m4 fu pf.aCg _ z20)) (dI [1] bZ (dD [45] eE (dI [46] (bE func245 (O9 fu pf.aCk _ z22)) (dD [3] (bW [pS s_,eF v6 0]) (dI [1] bZ (dD [49] (bW [pI pf.aCl.aB5,pS pf.aCl.aB3,aR pf.aCl.aB4]) (dI [50] (bE func242 (yG fu pf.aCl _ z24)) (dI [1] bZ (dD [52] (bW [pI pf.aCd.aB5,pS pf.aCd.aCa,pS pf.aCd.aB3,pI pf.aCd.aCL,pI pf.aCd.aB7.aB5,pS pf.aCd.aB7.aB3,aR pf.aCd.aB7.aB4,iP pf.aCd.aB4,sE pf.aCd.aCo]) (dI [53] (bE func243 (R3 fu pf.aCd _ z26)) (dI [38,41,44,47,48,51,54] (iF ([x17,x19,x21,x23,(aB.mk s_ v6),x25,x27]:List aB)) ?_)))))))))))))
 refine dI [55] (bE func238 (GO (nE fu) ([x17,x19,x21,x23,(aB.mk s_ v6),x25,x27]:List aB) _ z28)) (dI [56] (bE func244 (JW fu true x29 _ z30)) (kU [2,57] jO (dN ?_)))
 exact gE 0
def KY(fu:Nat)(p0 x2 x4:aB)(x6:LB)(x8:aB)(x10:List aG)(x12:aB)(x14:aA)(x16:aB)(x18:aL)(x20:aB):Nat→((List aV))→Option (LR ((List aV)) (aP×Bool)):=fun i21 v23=>bd (dK fu (aT x20.aB6 i21) 0) fun x27=>bd (dK fu (aT x20.aB6 i21) 1) fun x29=>bd (m7 fu x29) fun x31=>gd ((v23).length+(([(aV.mk x27.aB9 x31)]:List aV)).length≤68719476736) (some (.next (v23++([(aV.mk x27.aB9 x31)]:List aV))))
def t0(fu:Nat)(p0:aB):Option (aP×Bool):=bd (dK fu p0 1) fun x2=>bd (dK fu p0 2) fun x4=>bd (m3 fu x4) fun x6=>bd (dK fu p0 3) fun x8=>bd (z0 fu x8) fun x10=>bd (dK fu p0 5) fun x12=>bd (m7 fu x12) fun x14=>bd (dK fu p0 6) fun x16=>bd (gZ fu x16) fun x18=>bd (dK fu p0 4) fun x20=>so (loopN (KY fu p0 x2 x4 x6 x8 x10 x12 x14 x16 x18 x20) (x20.aB6.length-0) 0 ([])) fun v23=>bd (iJ fu p0) fun x34=>sw (!(x34)) (some ((aP.mk s_ [] [] [] (aA.mk 0 s_ []) (aL.mk 0 s_ s_ 0 (aA.mk 0 s_ []) [] [])),false)) (sw (decide ((p0.aB6.length:Int)=0)) (some ((aP.mk s_ [] [] [] (aA.mk 0 s_ []) (aL.mk 0 s_ s_ 0 (aA.mk 0 s_ []) [] [])),false)) (bd (tX fu (aP.mk x2.aB9 x6 x10 v23 x14 x18)) fun x38=>bd (fN fu x38 p0) fun x40=>sw (!(x40)) (some ((aP.mk s_ [] [] [] (aA.mk 0 s_ []) (aL.mk 0 s_ s_ 0 (aA.mk 0 s_ []) [] [])),false)) (some ((aP.mk x2.aB9 x6 x10 v23 x14 x18),true))))
theorem KZ(fu:Nat)(p0:aB)(r:aP×Bool)(H:t0 fu p0=some r):bR Tryz.prog 203 [(aB.pv p0)] (.tup [(aP.pv r.1),pB r.2]):=by
 refine qJ func203 H (fun C hC H=>?_)
 refine gQ 2 ?_;refine q1 (eX ([pS p0.aB9,bH p0.aB6])) ?_;refine gQ 4 ?_;refine bK H fun x2 z1 H=>(bK H fun x4 z3 H=>(bK H fun x6 z5 H=>(bK H fun x8 z7 H=>(bK H fun x10 z9 H=>(bK H fun x12 z11 H=>(bK H fun x14 z13 H=>(bK H fun x16 z15 H=>(bK H fun x18 z17 H=>(dW (dB [1] 0 1 (DU [pS p0.aB9,bH p0.aB6]) (dI [7] (bE func175 (cY fu p0 1 _ z1)) (dI [8] tF1 (dB [1] 0 1 (DU [pS p0.aB9,bH p0.aB6]) ?_)))))))))))))
 refine dI [10] (bE func175 (cY fu p0 2 _ z3)) (dI [11] (bE func216 (oE fu x4 _ z5)) (dB [1] 0 1 (DU [pS p0.aB9,bH p0.aB6]) (dI [13] (bE func175 (cY fu p0 3 _ z7)) (dI [14] (bE func224 (LA fu x8 _ z9)) (dB [1] 0 1 (DU [pS p0.aB9,bH p0.aB6]) (dI [16] (bE func175 (cY fu p0 5 _ z11)) (dI [17] (bE func219 (yH fu x12 _ z13)) (dB [1] 0 1 (DU [pS p0.aB9,bH p0.aB6]) (dI [19] (bE func175 (cY fu p0 6 _ z15)) (dI [20] (bE func220 (IT fu x16 _ z17)) (dI [9,12,15,18,21] rW (dE [] tAl (kU [4,22] jO ?_)))))))))))))
 refine dN ?_;refine gQ 2 ?_;refine q1 (bW [pS p0.aB9,bH p0.aB6]) (bK H fun x20 z19 H=>(q1 (bE func175 (cY fu p0 4 _ z19)) ?_))
 refine gQ 8 ?_;refine cQ.wk (Wk.regBox (k:=2) (j:=3) 245 4 (by decide) rfl rfl) ?_;refine cQ.fact (cI 3 1 rfl rfl rfl (aB.trs_len _)) (fun hl24=>?_)
 refine bU (σ:=(List aV)) (fun i21 v23=>⟨[(1,.ptr 0 0),(2,.ptr 1 0),(3,pB false),(4,.ptr 2 0),(5,.ptr 3 0),(6,pN i21)],⟨[some ⟨189,[pS p0.aB9,bH p0.aB6]⟩,some ⟨213,[pS s_,.nil,.nil,.nil,pI 0,pS s_,.nil,pI 0,pS s_,pS s_,pI 0,pI 0,pS s_,.nil,.nil,.nil]⟩,some ⟨213,[pS x2.aB9,rS x6,bY x10,abN v23 0,pI x14.aB5,pS x14.aB3,aR x14.aB4,pI x18.aB5,pS x18.aCa,pS x18.aB3,pI x18.aCL,pI x18.aB7.aB5,pS x18.aB7.aB3,aR x18.aB7.aB4,iP x18.aB4,sE x18.aCo]⟩,some ⟨189,[pS x20.aB9,bH x20.aB6]⟩],[⟨245,4,aV.trs (v23),false⟩]⟩⟩) (fun v23=>⟨[(1,.ptr 0 0),(2,.ptr 1 0),(3,pB false),(4,.ptr 2 0)],⟨[some ⟨189,[pS p0.aB9,bH p0.aB6]⟩,some ⟨213,[pS s_,.nil,.nil,.nil,pI 0,pS s_,.nil,pI 0,pS s_,pS s_,pI 0,pI 0,pS s_,.nil,.nil,.nil]⟩,some ⟨213,[pS x2.aB9,rS x6,bY x10,abN v23 0,pI x14.aB5,pS x14.aB3,aR x14.aB4,pI x18.aB5,pS x18.aCa,pS x18.aB3,pI x18.aCL,pI x18.aB7.aB5,pS x18.aB7.aB3,aR x18.aB7.aB4,iP x18.aB4,sE x18.aCo]⟩,some ⟨189,[pS x20.aB9,bH x20.aB6]⟩],[⟨245,4,aV.trs (v23),false⟩]⟩⟩) (eK H) ?_ ?_
 ·rintro i21 v23 H
  refine gQ 9 ?_;refine cS H (fun h25 h25l H=>?_) (fun h25 H=>?_)
  ·refine gQ 3 ?_;refine bK H fun x27 z26 H=>(bK H fun x29 z28 H=>(bK H fun x31 z30 H=>(cC H fun z32 H=>(dW (dI [4] bZ (dD [32] eE (dI [5] bZ (dD [34] eE (dI [6] bF (dI [35,36] qF (dI [37] (iI (aB.cs (aT x20.aB6 i21))) (dI [38] (bE func175 (cY fu (aT x20.aB6 i21) 0 _ z26)) (dI [39] tF1 ?_)))))))))))))
   refine dI [5] bZ (dD [41] eE (dI [6] bF (dI [42,43] qF (dI [44] (iI (aB.cs (aT x20.aB6 i21))) (dI [45] (bE func175 (cY fu (aT x20.aB6 i21) 1 _ z28)) (dI [46] (bE func219 (yH fu x29 _ z30)) (dI [40,47] rW (dI [48] (iF ([(aV.mk x27.aB9 x31)]:List aV)) (dE [33,49] (lG z32) (dI [4] bZ (kU [51,50] jO (dN ?_))))))))))))
   exact gE 5
  exact gE 0
 rintro v23 H
 refine gQ 2 ?_;refine bK H fun x34 z33 H=>?_
 rcases oQ (!(x34)) with g35|g35
 ·have H:=sZ H g35
  refine dW (dD [1] (bW [pS p0.aB9,bH p0.aB6]) (dI [52] (bE func173 (c9 fu p0 _ z33)) (dI [53] JS (dI [54] bF ?_))))
  iterate 4 refine NH g35 ?_
  refine dI [55] (DV g35) (dI [60] bF ?_)
  iterate 5 refine NH rfl ?_
  refine dI [61] (DV rfl) (dN ?_)
  exact gE 7
 have H:=sY H g35
 rcases oQ (decide ((p0.aB6.length:Int)=0)) with g36|g36
 ·have H:=sZ H g36
  refine dW (dD [1] (bW [pS p0.aB9,bH p0.aB6]) (dI [52] (bE func173 (c9 fu p0 _ z33)) (dI [53] JS (dI [54] bF (dI (hg:=bD g35) [1] bZ (dD (hg:=bD g35) [56] eE (dI (hg:=bD g35) [57] XY (dI (hg:=bD g35) [58] rEq (dI [55,59] (F5 g35) (dI [60] bF ?_))))))))))
  iterate 5 refine NH g36 ?_
  refine dI [61] (DV g36) (dN ?_)
  exact gE 7
 have H:=sY H g36
 refine bK H fun x38 z37 H=>(bK H fun x40 z39 H=>(dW (dD [1] (bW [pS p0.aB9,bH p0.aB6]) (dI [52] (bE func173 (c9 fu p0 _ z33)) (dI [53] JS (dI [54] bF (dI (hg:=bD g35) [1] bZ (dD (hg:=bD g35) [56] eE (dI (hg:=bD g35) [57] XY (dI (hg:=bD g35) [58] rEq (dI [55,59] (F5 g35) (dI [60] bF (dD (hg:=bD g36) [4] (bW [pS x2.aB9,rS x6,bY x10,abN v23 0,pI x14.aB5,pS x14.aB3,aR x14.aB4,pI x18.aB5,pS x18.aCa,pS x18.aB3,pI x18.aCL,pI x18.aB7.aB5,pS x18.aB7.aB3,aR x18.aB7.aB4,iP x18.aB4,sE x18.aCo]) ?_)))))))))))))
 refine dI (hg:=bD g36) [62] (bE func226 (KP fu (aP.mk x2.aB9 x6 x10 v23 x14 x18) _ z37)) (dD (hg:=bD g36) [1] (bW [pS p0.aB9,bH p0.aB6]) (dI (hg:=bD g36) [63,64] (bE func221 (u9 fu x38 p0 _ z39)) (dI (hg:=bD g36) [65] JS (dI [61,66] (F5 g36) (dN ?_)))))
 refine bC H (fun h41 H=>gE 6) fun h41 H=>?_;refine gQ 3 ?_;refine q1 (bW [pS x2.aB9,rS x6,bY x10,abN v23 0,pI x14.aB5,pS x14.aB3,aR x14.aB4,pI x18.aB5,pS x18.aCa,pS x18.aB3,pI x18.aCL,pI x18.aB7.aB5,pS x18.aB7.aB3,aR x18.aB7.aB4,iP x18.aB4,sE x18.aCo]) ?_;exact gE 3
end
end Go.Proofs.YtfcoaagbccmahaaGreat.W

namespace Go.Proofs.YtfcoaagbccmahaaGreat.W
set_option maxRecDepth 100000
set_option maxHeartbeats 40000000
noncomputable section
open Tryz Go.RowKit Go.Proofs
attribute [local irreducible] lt
def ac6(fu:Nat)(ps:ByteArray):Nat→Unit→Option (LR Unit Bool):=fun i1 _=>gd (i1<(ps).size) (sw (!decide ((((FL ps i1).toNat:Int):Int)=32)) (some (.ret false)) (some (.next ())))
def IY(fu:Nat)(ps:ByteArray):Option Bool:=so (loopN (ac6 fu ps) (ps.size-0) 0 ()) fun _=>some true
theorem ac7(fu:Nat)(ps:ByteArray)(r:Bool)(H:IY fu ps=some r):bR Tryz.prog 97 [pS ps] (pB r):=by
 refine qJ func97 H (fun C hC H=>?_)
 refine gQ 9 ?_;refine szF 0 (fun hl2=>?_)
 refine bU (σ:=Unit) (fun i1 _=>⟨[(0,pS ps),(2,pB false),(3,pN i1)],⟨[],[]⟩⟩) (fun _=>⟨[(2,pB false)],⟨[],[]⟩⟩) (eK H) ?_ ?_
 ·rintro i1 ⟨⟩ H
  refine gQ 5 ?_;refine q1 (bB.lenS rfl rfl rfl Tryz.underlying9) ?_;refine gQ 2 ?_;refine cS H (fun h3 h3l H=>?_) (fun h3 H=>?_)
  ·have h3n:i1<ps.size:=by have:=of_decide_eq_true h3;omega
   refine gQ 7 ?_;refine cC H fun z4 H=>(q1 (bB.indexS (k:=i1) rfl rfl rfl rfl z4 Tryz.underlying9) ?_)
   refine gQ 2 ?_;refine bC H (fun h5 H=>gE 4) fun h5 H=>?_;exact gE 6
  exact gE 0
 rintro⟨⟩ H
 exact gE 4
def M3(fu:Nat)(p1:ByteArray×(LB)×(List aU)×(List aN)×(List aI)×(List aP))(p2:aB):Option (Bool×(ByteArray×(LB)×(List aU)×(List aN)×(List aI)×(List aP))):=bd (dK fu p2 0) fun x2=>sw (decide (x2.aB9=JU)) (bd (y1 fu p2) fun(x5,x6)=>gd ((p1.2.2.1).length+(([x5]:List aU)).length≤68719476736) (some (x6,(p1.1,p1.2.1,p1.2.2.1++([x5]:List aU),p1.2.2.2.1,p1.2.2.2.2.1,p1.2.2.2.2.2)))) (sw (decide (x2.aB9=RZ)) (bd (tZ fu p2) fun(x10,x11)=>gd ((p1.2.2.2.1).length+(([x10]:List aN)).length≤68719476736) (some (x11,(p1.1,p1.2.1,p1.2.2.1,p1.2.2.2.1++([x10]:List aN),p1.2.2.2.2.1,p1.2.2.2.2.2)))) (sw (decide (x2.aB9=R0)) (bd (t1 fu p2) fun(x15,x16)=>gd ((p1.2.2.2.2.1).length+(([x15]:List aI)).length≤68719476736) (some (x16,(p1.1,p1.2.1,p1.2.2.1,p1.2.2.2.1,p1.2.2.2.2.1++([x15]:List aI),p1.2.2.2.2.2)))) (sw (decide (x2.aB9=amN)) (bd (t0 fu p2) fun(x20,x21)=>gd ((p1.2.2.2.2.2).length+(([x20]:List aP)).length≤68719476736) (some (x21,(p1.1,p1.2.1,p1.2.2.1,p1.2.2.2.1,p1.2.2.2.2.1,p1.2.2.2.2.2++([x20]:List aP))))) (some (false,p1)))))
theorem agZ(fu:Nat)(p1:ByteArray×(LB)×(List aU)×(List aN)×(List aI)×(List aP))(p2:aB)(r:Bool×(ByteArray×(LB)×(List aU)×(List aN)×(List aI)×(List aP)))(H:M3 fu p1 p2=some r):b7 Tryz.prog 176 [.ptr 0 0,(aB.pv p2)] ⟨[some ⟨141,[pS p1.1,rS p1.2.1,A2 p1.2.2.1 0,nG p1.2.2.2.1 1,nI p1.2.2.2.2.1 2,nH p1.2.2.2.2.2 3]⟩],[⟨156,5,aU.trs (p1.2.2.1),false⟩,⟨39,3,aN.trs (p1.2.2.2.1),false⟩,⟨163,12,aI.trs (p1.2.2.2.2.1),false⟩,⟨213,16,aP.trs (p1.2.2.2.2.2),false⟩]⟩ (fun q t=>q=(pB r.1)∧t=⟨[some ⟨141,[pS r.2.1,rS r.2.2.1,A2 r.2.2.2.1 0,nG r.2.2.2.2.1 1,nI r.2.2.2.2.2.1 2,nH r.2.2.2.2.2.2 3]⟩],[⟨156,5,aU.trs (r.2.2.2.1),false⟩,⟨39,3,aN.trs (r.2.2.2.2.1),false⟩,⟨163,12,aI.trs (r.2.2.2.2.2.1),false⟩,⟨213,16,aP.trs (r.2.2.2.2.2.2),false⟩]⟩):=by
 refine qJ func176 H (fun C hC H=>?_)
 refine gQ 2 ?_;refine q1 (eX ([pS p2.aB9,bH p2.aB6])) ?_;refine gQ 5 ?_;refine q1 (bW [pS p2.aB9,bH p2.aB6]) (bK H fun x2 z1 H=>(q1 (bE func175 (cY fu p2 0 _ z1)) ?_))
 refine gQ 8 ?_;refine bC H (fun h3 H=>?_) (fun h3 H=>?_)
 ·refine gQ 2 ?_;refine q1 (bW [pS p2.aB9,bH p2.aB6]) (dP H fun x5 x6 z4 H=>(q1 (bE func200 (RR fu p2 _ z4)) ?_))
  refine gQ 8 ?_;refine cC H fun z7 H=>(dW ?_)
  iterate 2 refine dI [0] bF ?_
  refine dI [24] uL (dI [25] bZ (dD [26] eE (dD [5] (bW [pS x5.aB3,rS x5.aCc,pB x5.aCA,pB x5.aCj,gC x5.aCp]) (dI [28] (iF ([x5]:List aU)) (dE [27,29] (lG z7) (dI [23] uL (dI [31] bZ (kU [32,30] jO (dN ?_)))))))))
  exact gE 5
 refine gQ 5 ?_;refine bC H (fun h8 H=>?_) (fun h8 H=>?_)
 ·refine gQ 2 ?_;refine q1 (bW [pS p2.aB9,bH p2.aB6]) (dP H fun x10 x11 z9 H=>(q1 (bE func201 (KX fu p2 _ z9)) ?_))
  refine gQ 8 ?_;refine cC H fun z12 H=>(dW ?_)
  iterate 2 refine dI [0] bF ?_
  refine dI [42] uL (dI [43] bZ (dD [44] eE (dD [7] (bW [pS x10.aB3,rS x10.aCg,dF x10.aB8]) (dI [46] (iF ([x10]:List aN)) (dE [45,47] (lG z12) (dI [41] uL (dI [49] bZ (kU [50,48] jO (dN ?_)))))))))
  exact gE 5
 refine gQ 5 ?_;refine bC H (fun h13 H=>?_) (fun h13 H=>?_)
 ·refine gQ 2 ?_;refine q1 (bW [pS p2.aB9,bH p2.aB6]) (dP H fun x15 x16 z14 H=>(q1 (bE func202 (K3 fu p2 _ z14)) ?_))
  refine gQ 8 ?_;refine cC H fun z17 H=>(dW ?_)
  iterate 2 refine dI [0] bF ?_
  refine dI [60] uL (dI [61] bZ (dD [62] eE (dD [9] (bW [pS x15.aCa,rS x15.aCg,pI x15.aCh.aB5,pS x15.aCh.aB3,aR x15.aCh.aB4,bY x15.aCk,pB x15.aCv,pB x15.aCx,pI x15.aCj.aB5,pS x15.aCj.aB3,aR x15.aCj.aB4,mS x15.aCu]) (dI [64] (iF ([x15]:List aI)) (dE [63,65] (lG z17) (dI [59] uL (dI [67] bZ (kU [68,66] jO (dN ?_)))))))))
  exact gE 5
 refine gQ 5 ?_;refine bC H (fun h18 H=>?_) (fun h18 H=>?_)
 ·refine gQ 2 ?_;refine q1 (bW [pS p2.aB9,bH p2.aB6]) (dP H fun x20 x21 z19 H=>(q1 (bE func203 (KZ fu p2 _ z19)) ?_))
  refine gQ 8 ?_;refine cC H fun z22 H=>(dW ?_)
  iterate 2 refine dI [0] bF ?_
  refine dI [78] uL (dI [79] bZ (dD [80] eE (dD [11] (bW [pS x20.aB3,rS x20.aCg,bY x20.aCk,V7 x20.aCn,pI x20.aCl.aB5,pS x20.aCl.aB3,aR x20.aCl.aB4,pI x20.aCd.aB5,pS x20.aCd.aCa,pS x20.aCd.aB3,pI x20.aCd.aCL,pI x20.aCd.aB7.aB5,pS x20.aCd.aB7.aB3,aR x20.aCd.aB7.aB4,iP x20.aCd.aB4,sE x20.aCd.aCo]) (dI [82] (iF ([x20]:List aP)) (dE [81,83] (lG z22) (dI [77] uL (dI [85] bZ (kU [86,84] jO (dN ?_)))))))))
  exact gE 5
 exact gE 5
def ac8(fu:Nat)(p0:aM):Nat→((LB))→Option (LR ((LB)) ((LB)×(LB)×(LB)×(LB))):=fun i1 v3=>gd ((v3).length+(([((aT p0.aCi i1).aB3)]:LB)).length≤68719476736) (some (.next (v3++([((aT p0.aCi i1).aB3)]:LB))))
def adA(fu:Nat)(p0:aM)(v3:LB)(i7:Nat)(v10 v11:LB):Nat→((LB))→Option (LR ((LB)) (LR ((LB)×(LB)) ((LB)×(LB)×(LB)×(LB)))):=fun i15 v17=>gd ((v17).length+(([((aT ((aT p0.aCb i7).aB8) i15).aB3)]:LB)).length≤68719476736) (some (.next (v17++([((aT ((aT p0.aCb i7).aB8) i15).aB3)]:LB))))
def ac9(fu:Nat)(p0:aM)(v3:LB):Nat→((LB)×(LB))→Option (LR ((LB)×(LB)) ((LB)×(LB)×(LB)×(LB))):=fun i7 (v10,v11)=>gd ((v10).length+(([((aT p0.aCb i7).aB3)]:LB)).length≤68719476736) (so (loopN (adA fu p0 v3 i7 v10 v11) (((aT p0.aCb i7).aB8).length-0) 0 v11) fun v17=>some (.next ((v10++([((aT p0.aCb i7).aB3)]:LB)),v17)))
def adB(fu:Nat)(p0:aM)(v3 v10 v11:LB):Nat→((LB))→Option (LR ((LB)) ((LB)×(LB)×(LB)×(LB))):=fun i21 v23=>lt (aT p0.aCr i21) fun y26=>gd ((v23).length+(([y26.aB3]:LB)).length≤68719476736) (some (.next (v23++([y26.aB3]:LB))))
def IZ(fu:Nat)(p0:aM):Option ((LB)×(LB)×(LB)×(LB)):=so (loopN (ac8 fu p0) (p0.aCi.length-0) 0 ([])) fun v3=>so (loopN (ac9 fu p0 v3) (p0.aCb.length-0) 0 (([]),([]))) fun(v10,v11)=>so (loopN (adB fu p0 v3 v10 v11) (p0.aCr.length-0) 0 ([])) fun v23=>some (v3,v10,v11,v23)
theorem adC(fu:Nat)(p0:aM)(r:(LB)×(LB)×(LB)×(LB))(H:IZ fu p0=some r):bR Tryz.prog 204 [(aM.pv p0)] (.tup [rS r.1,rS r.2.1,rS r.2.2.1,rS r.2.2.2]):=by
 refine qJ func204 H (fun C hC H=>?_)
 refine gQ 2 ?_;refine q1 (eX (eW p0)) ?_;refine gQ 7 ?_;refine q1 (qE ([]:LB)) ?_;refine gQ 4 ?_;refine q1 (qE ([]:LB)) ?_;refine gQ 4 ?_;refine q1 (qE ([]:LB)) ?_;refine gQ 4 ?_;refine q1 (qE ([]:LB)) ?_;refine gQ 7 ?_;refine cQ.fact (cI 0 2 rfl rfl rfl (aU.trs_len _)) (fun hl4=>?_)
 refine bU (σ:=(LB)) (fun i1 v3=>⟨[(1,.ptr 0 0),(2,.nil),(3,.nil),(4,.nil),(5,.nil),(6,aS v3 0),(7,aS [] 1),(8,aS [] 2),(9,aS [] 3),(10,pN i1)],⟨[some ⟨141,eW p0⟩],[⟨9,1,aY (v3),false⟩,⟨9,1,aY ([]),false⟩,⟨9,1,aY ([]),false⟩,⟨9,1,aY ([]),false⟩]⟩⟩) (fun v3=>⟨[(1,.ptr 0 0),(2,.nil),(3,.nil),(4,.nil),(5,.nil),(6,aS v3 0),(7,aS [] 1),(8,aS [] 2),(9,aS [] 3)],⟨[some ⟨141,eW p0⟩],[⟨9,1,aY (v3),false⟩,⟨9,1,aY ([]),false⟩,⟨9,1,aY ([]),false⟩,⟨9,1,aY ([]),false⟩]⟩⟩) (eK H) ?_ ?_
 ·rintro i1 v3 H
  refine gQ 9 ?_;refine cS H (fun h5 h5l H=>?_) (fun h5 H=>?_)
  ·refine gQ 11 ?_;refine q1 (iF ([((aT p0.aCi i1).aB3)]:LB)) (cC H fun z6 H=>(q1 (lG z6) ?_))
   exact gE 7
  exact gE 0
 rintro v3 H
 refine gQ 5 ?_;refine cQ.fact (cI 0 3 rfl rfl rfl (aN.trs_len _)) (fun hl12=>?_)
 refine bU (σ:=(LB)×(LB)) (fun i7 (v10,v11)=>⟨[(1,.ptr 0 0),(2,.nil),(3,.nil),(4,.nil),(5,.nil),(6,aS v3 0),(7,aS v10 1),(8,aS v11 2),(9,aS [] 3),(11,pN i7)],⟨[some ⟨141,eW p0⟩],[⟨9,1,aY (v3),false⟩,⟨9,1,aY (v10),false⟩,⟨9,1,aY (v11),false⟩,⟨9,1,aY ([]),false⟩]⟩⟩) (fun(v10,v11)=>⟨[(1,.ptr 0 0),(2,.nil),(3,.nil),(4,.nil),(5,.nil),(6,aS v3 0),(7,aS v10 1),(8,aS v11 2),(9,aS [] 3)],⟨[some ⟨141,eW p0⟩],[⟨9,1,aY (v3),false⟩,⟨9,1,aY (v10),false⟩,⟨9,1,aY (v11),false⟩,⟨9,1,aY ([]),false⟩]⟩⟩) (eK H) ?_ ?_
 ·rintro i7 ⟨v10,v11⟩ H
  refine gQ 9 ?_;refine cS H (fun h13 h13l H=>?_) (fun h13 H=>?_)
  ·refine gQ 12 ?_;refine q1 (iF ([((aT p0.aCb i7).aB3)]:LB)) (cC H fun z14 H=>(q1 (lG z14) ?_))
   refine gQ 6 ?_;refine bU (σ:=(LB)) (fun i15 v17=>⟨[(1,.ptr 0 0),(2,.nil),(3,.nil),(4,.nil),(5,.nil),(6,aS v3 0),(7,aS (v10++([((aT p0.aCb i7).aB3)]:LB)) 1),(8,aS v17 2),(9,aS [] 3),(11,pN i7),(12,pN i15),(34,pN i7),(35,.ptr 0 3),(36,pW p0.aCb),(37,pN p0.aCb.length),(38,pB (decide ((i7:Int)<(p0.aCb.length:Int)))),(41,aS v10 1),(42,.ptr 0 3),(43,pW p0.aCb),(44,pN i7),(45,.eptr (aN.cs (aT p0.aCb i7))),(46,.eptr (aN.cs (aT p0.aCb i7))),(47,pS ((aT p0.aCb i7).aB3)),(48,rS ([((aT p0.aCb i7).aB3)]:LB)),(49,aS (v10++([((aT p0.aCb i7).aB3)]:LB)) 1)],⟨[some ⟨141,eW p0⟩],[⟨9,1,aY (v3),false⟩,⟨9,1,aY (v10++([((aT p0.aCb i7).aB3)]:LB)),false⟩,⟨9,1,aY (v17),false⟩,⟨9,1,aY ([]),false⟩]⟩⟩) (fun v17=>⟨[(1,.ptr 0 0),(2,.nil),(3,.nil),(4,.nil),(5,.nil),(6,aS v3 0),(7,aS (v10++([((aT p0.aCb i7).aB3)]:LB)) 1),(8,aS v17 2),(9,aS [] 3),(11,pN i7),(34,pN i7),(35,.ptr 0 3),(36,pW p0.aCb),(37,pN p0.aCb.length),(38,pB (decide ((i7:Int)<(p0.aCb.length:Int)))),(41,aS v10 1),(42,.ptr 0 3),(43,pW p0.aCb),(44,pN i7),(45,.eptr (aN.cs (aT p0.aCb i7))),(46,.eptr (aN.cs (aT p0.aCb i7))),(47,pS ((aT p0.aCb i7).aB3)),(48,rS ([((aT p0.aCb i7).aB3)]:LB)),(49,aS (v10++([((aT p0.aCb i7).aB3)]:LB)) 1)],⟨[some ⟨141,eW p0⟩],[⟨9,1,aY (v3),false⟩,⟨9,1,aY (v10++([((aT p0.aCb i7).aB3)]:LB)),false⟩,⟨9,1,aY (v17),false⟩,⟨9,1,aY ([]),false⟩]⟩⟩) (eK H) ?_ ?_
   ·rintro i15 v17 H
    refine gQ 10 ?_;refine YQ 56 (aD.trs_len _) (fun hl18=>?_)
    refine gQ 3 ?_;refine cS H (fun h19 h19l H=>?_) (fun h19 H=>?_)
    ·refine gQ 15 ?_;refine q1 (iF ([((aT ((aT p0.aCb i7).aB8) i15).aB3)]:LB)) (cC H fun z20 H=>(q1 (lG z20) ?_))
     exact gE 7
    exact gE 0
   rintro v17 H
   exact gE 5
  exact gE 0
 rintro⟨v10,v11⟩ H
 refine gQ 5 ?_;refine cQ.fact (cI 0 5 rfl rfl rfl (aP.trs_len _)) (fun hl24=>?_)
 refine bU (σ:=(LB)) (fun i21 v23=>⟨[(1,.ptr 0 0),(2,.nil),(3,.nil),(4,.nil),(5,.nil),(6,aS v3 0),(7,aS v10 1),(8,aS v11 2),(9,aS v23 3),(13,pN i21)],⟨[some ⟨141,eW p0⟩],[⟨9,1,aY (v3),false⟩,⟨9,1,aY (v10),false⟩,⟨9,1,aY (v11),false⟩,⟨9,1,aY (v23),false⟩]⟩⟩) (fun v23=>⟨[(2,.nil),(3,.nil),(4,.nil),(5,.nil),(6,aS v3 0),(7,aS v10 1),(8,aS v11 2),(9,aS v23 3)],⟨[some ⟨141,eW p0⟩],[⟨9,1,aY (v3),false⟩,⟨9,1,aY (v10),false⟩,⟨9,1,aY (v11),false⟩,⟨9,1,aY (v23),false⟩]⟩⟩) (eK H) ?_ ?_
 ·rintro i21 v23 H
  refine gQ 9 ?_;refine cS H (fun h25 h25l H=>?_) (fun h25 H=>?_)
  ·refine gQ 8 ?_;refine fZ H fun y26 h27 H=>(q1 (yI h27 h25l) ?_)
   refine gQ 2 ?_;refine q1 (iF ([y26.aB3]:LB)) (cC H fun z28 H=>(q1 (lG z28) ?_))
   exact gE 7
  exact gE 0
 rintro v23 H
 exact gE 11
def PB(fu:Nat)(pp:aM):Nat→Unit→Option (LR Unit Bool):=fun i1 _=>bd (tK fu (aT pp.aCi i1)) fun x5=>sw (!(x5)) (some (.ret false)) (some (.next ()))
def PC(fu:Nat)(pp:aM):Nat→Unit→Option (LR Unit Bool):=fun i7 _=>bd (j7 fu (aT pp.aCb i7)) fun x11=>sw (!(x11)) (some (.ret false)) (some (.next ()))
def PD(fu:Nat)(pp:aM):Nat→Unit→Option (LR Unit Bool):=fun i13 _=>lt (aT pp.aCe i13) fun y16=>bd (j8 fu y16) fun x19=>sw (!(x19)) (some (.ret false)) (some (.next ()))
def PE(fu:Nat)(pp:aM):Nat→Unit→Option (LR Unit Bool):=fun i21 _=>lt (aT pp.aCr i21) fun y24=>bd (n8 fu y24) fun x27=>sw (!(x27)) (some (.ret false)) (some (.next ()))
def yA(fu:Nat)(pp:aM):Option Bool:=so (loopN (PB fu pp) (pp.aCi.length-0) 0 ()) fun _=>so (loopN (PC fu pp) (pp.aCb.length-0) 0 ()) fun _=>so (loopN (PD fu pp) (pp.aCe.length-0) 0 ()) fun _=>so (loopN (PE fu pp) (pp.aCr.length-0) 0 ()) fun _=>some true
theorem adD(fu:Nat)(pp:aM)(r:Bool)(H:yA fu pp=some r):bR Tryz.prog 208 [(aM.pv pp)] (pB r):=by
 refine qJ func208 H (fun C hC H=>?_)
 refine gQ 2 ?_;refine q1 (eX (eW pp)) ?_;refine gQ 7 ?_;refine cQ.fact (cI 0 2 rfl rfl rfl (aU.trs_len _)) (fun hl2=>?_)
 refine bU (σ:=Unit) (fun i1 _=>⟨[(1,.ptr 0 0),(2,pB false),(3,pN i1)],⟨[some ⟨141,eW pp⟩],[]⟩⟩) (fun _=>⟨[(1,.ptr 0 0),(2,pB false)],⟨[some ⟨141,eW pp⟩],[]⟩⟩) (eK H) ?_ ?_
 ·rintro i1 ⟨⟩ H
  refine gQ 9 ?_;refine cS H (fun h3 h3l H=>?_) (fun h3 H=>?_)
  ·refine gQ 9 ?_;refine q1 (iI (aU.cs (aT pp.aCi i1))) (bK H fun x5 z4 H=>(q1 (bE func229 (E4 fu (aT pp.aCi i1) _ z4)) ?_))
   refine gQ 2 ?_;refine bC H (fun h6 H=>gE 4) fun h6 H=>?_;exact gE 6
  exact gE 0
 rintro⟨⟩ H
 refine gQ 5 ?_;refine cQ.fact (cI 0 3 rfl rfl rfl (aN.trs_len _)) (fun hl8=>?_)
 refine bU (σ:=Unit) (fun i7 _=>⟨[(1,.ptr 0 0),(2,pB false),(4,pN i7)],⟨[some ⟨141,eW pp⟩],[]⟩⟩) (fun _=>⟨[(1,.ptr 0 0),(2,pB false)],⟨[some ⟨141,eW pp⟩],[]⟩⟩) (eK H) ?_ ?_
 ·rintro i7 ⟨⟩ H
  refine gQ 9 ?_;refine cS H (fun h9 h9l H=>?_) (fun h9 H=>?_)
  ·refine gQ 9 ?_;refine q1 (iI (aN.cs (aT pp.aCb i7))) (bK H fun x11 z10 H=>(q1 (bE func230 (zG fu (aT pp.aCb i7) _ z10)) ?_))
   refine gQ 2 ?_;refine bC H (fun h12 H=>gE 4) fun h12 H=>?_;exact gE 6
  exact gE 0
 rintro⟨⟩ H
 refine gQ 5 ?_;refine cQ.fact (cI 0 4 rfl rfl rfl (aI.trs_len _)) (fun hl14=>?_)
 refine bU (σ:=Unit) (fun i13 _=>⟨[(1,.ptr 0 0),(2,pB false),(5,pN i13)],⟨[some ⟨141,eW pp⟩],[]⟩⟩) (fun _=>⟨[(1,.ptr 0 0),(2,pB false)],⟨[some ⟨141,eW pp⟩],[]⟩⟩) (eK H) ?_ ?_
 ·rintro i13 ⟨⟩ H
  refine gQ 9 ?_;refine cS H (fun h15 h15l H=>?_) (fun h15 H=>?_)
  ·refine gQ 8 ?_;refine fZ H fun y16 h17 H=>(q1 (yI h17 h15l) (q1 (iI (aI.cs y16)) (bK H fun x19 z18 H=>(q1 (bE func231 (zL fu y16 _ z18)) ?_))))
   refine gQ 2 ?_;refine bC H (fun h20 H=>gE 4) fun h20 H=>?_;exact gE 6
  exact gE 0
 rintro⟨⟩ H
 refine gQ 5 ?_;refine cQ.fact (cI 0 5 rfl rfl rfl (aP.trs_len _)) (fun hl22=>?_)
 refine bU (σ:=Unit) (fun i21 _=>⟨[(1,.ptr 0 0),(2,pB false),(6,pN i21)],⟨[some ⟨141,eW pp⟩],[]⟩⟩) (fun _=>⟨[(2,pB false)],⟨[some ⟨141,eW pp⟩],[]⟩⟩) (eK H) ?_ ?_
 ·rintro i21 ⟨⟩ H
  refine gQ 9 ?_;refine cS H (fun h23 h23l H=>?_) (fun h23 H=>?_)
  ·refine gQ 8 ?_;refine fZ H fun y24 h25 H=>(q1 (yI h25 h23l) (q1 (iI (aP.cs y24)) (bK H fun x27 z26 H=>(q1 (bE func232 (zH fu y24 _ z26)) ?_))))
   refine gQ 2 ?_;refine bC H (fun h28 H=>gE 4) fun h28 H=>?_;exact gE 6
  exact gE 0
 rintro⟨⟩ H
 exact gE 4
def mW(fu:Nat)(p0:aM):Option Bool:=bd (IZ fu p0) fun(x2,x3,x4,x5)=>bd (c6 fu p0.aB3) fun x7=>sw (!(x7)) (some false) (bd (gH fu p0.aCE 5) fun x10=>sw (!(x10)) (some false) (bd (lA fu p0.aCE p0.aB3) fun x13=>sw x13 (some false) (sw (decide ((aX ((aX ((aX ((p0.aCi.length:Int)+(p0.aCb.length:Int)))+(p0.aCe.length:Int)))+(p0.aCr.length:Int)):Int)>24)) (some false) (bd (kQ fu x2) fun x17=>sw x17 (bd (kQ fu x3) fun x20=>sw x20 (bd (kQ fu x4) fun x23=>sw x23 (bd (kQ fu x5) fun x26=>sw x26 (bd (yA fu p0) fun x29=>some x29) (some false)) (some false)) (some false)) (some false)))))
theorem MR(fu:Nat)(p0:aM)(r:Bool)(H:mW fu p0=some r):bR Tryz.prog 177 [(aM.pv p0)] (pB r):=by
 refine qJ func177 H (fun C hC H=>?_)
 refine gQ 2 ?_;refine q1 (eX (eW p0)) ?_;refine gQ 4 ?_;refine q1 (bW [pS p0.aB3,rS p0.aCE,Q7 p0.aCi,pW p0.aCb,nO p0.aCe,JR p0.aCr]) (asJ H fun x2 x3 x4 x5 z1 H=>(q1 (bE func204 (adC fu p0 _ z1)) ?_))
 refine gQ 15 ?_;refine bK H fun x7 z6 H=>(q1 (bE func205 (eC fu p0.aB3 _ z6)) ?_)
 refine gQ 2 ?_;refine dH 18 H (fun g8 H=>gE 36) fun g8 H=>?_;refine gQ 2 ?_;refine bK H fun x10 z9 H=>(qg g8 (bE func206 (gV fu p0.aCE 5 _ z9)) ?_)
 refine gQ 3 ?_;refine dH 24 H (fun g11 H=>gE 30) fun g11 H=>?_;refine gQ 4 ?_;refine bK H fun x13 z12 H=>(qg g11 (bE func153 (mH fu p0.aCE p0.aB3 _ z12)) ?_)
 refine gQ 2 ?_;refine dH 31 H (fun g14 H=>gE 23) fun g14 H=>?_;refine gQ 6 ?_;refine qg g14 rAw ?_;refine gQ 3 ?_;refine qg g14 rAw ?_;refine gQ 3 ?_;refine qg g14 rAw ?_;refine gQ 3 ?_;refine bC H (fun h15 H=>gE 4) fun h15 H=>?_;refine gQ 4 ?_;refine bK H fun x17 z16 H=>(q1 (bE func207 (mF fu x2 _ z16)) (q1 bF ?_))
 refine dH 51 H (fun g18 H=>?_) fun g18 H=>?_
 ·refine qg g18 bF (bK H fun x20 z19 H=>(qg g18 (bE func207 (mF fu x3 _ z19)) ?_))
  refine gQ 2 ?_;refine dH 55 H (fun g21 H=>?_) fun g21 H=>?_
  ·refine qg g21 bF (bK H fun x23 z22 H=>(qg g21 (bE func207 (mF fu x4 _ z22)) ?_))
   refine gQ 2 ?_;refine dH 59 H (fun g24 H=>?_) fun g24 H=>?_
   ·refine qg g24 bF (bK H fun x26 z25 H=>(qg g24 (bE func207 (mF fu x5 _ z25)) ?_))
    refine gQ 2 ?_;refine dH 63 H (fun g27 H=>?_) fun g27 H=>?_
    ·refine qg g27 (bW [pS p0.aB3,rS p0.aCE,Q7 p0.aCi,pW p0.aCb,nO p0.aCe,JR p0.aCr]) (bK H fun x29 z28 H=>(qg g27 (bE func208 (adD fu p0 _ z28)) ?_))
     exact gE 3
    exact gE 5
   exact gE 9
  exact gE 13
 exact gE 17
def BO(fu:Nat)(p0 x2:aB)(x4:LB)(x5:Bool)(x7:aB)(x9:Bool):Nat→(ByteArray×(LB)×(List aU)×(List aN)×(List aI)×(List aP))→Option (LR (ByteArray×(LB)×(List aU)×(List aN)×(List aI)×(List aP)) (aM×Bool)):=fun i17 (v18,v19,v24,v25,v26,v27)=>bd (M3 fu (v18,v19,v24,v25,v26,v27) (aT p0.aB6 i17)) fun(x31,x32)=>sw (!(x31)) (some (.ret ((aM.mk s_ [] [] [] [] []),false))) (some (.next (x32.1,x32.2.1,x32.2.2.1,x32.2.2.2.1,x32.2.2.2.2.1,x32.2.2.2.2.2)))
def mX(fu:Nat)(p0:aB):Option (aM×Bool):=bd (dK fu p0 2) fun x2=>bd (B5 fu x2.aB6) fun(x4,x5)=>bd (dK fu p0 1) fun x7=>bd (iJ fu p0) fun x9=>sw (!(x9)) (some ((aM.mk s_ [] [] [] [] []),false)) (sw (decide ((p0.aB6.length:Int)<3)) (some ((aM.mk s_ [] [] [] [] []),false)) (gd (0<(p0.aB6).length) (sw (!decide ((aT p0.aB6 0).aB9=aaU)) (some ((aM.mk s_ [] [] [] [] []),false)) (gd (2<(p0.aB6).length) (sw (!decide ((aT p0.aB6 2).aB9=s_)) (some ((aM.mk s_ [] [] [] [] []),false)) (sw (!(x5)) (some ((aM.mk s_ [] [] [] [] []),false)) (so (loopN (BO fu p0 x2 x4 x5 x7 x9) (p0.aB6.length-3) 3 (x7.aB9,x4,([]),([]),([]),([]))) fun(v18,v19,v24,v25,v26,v27)=>bd (mW fu (aM.mk v18 v19 v24 v25 v26 v27)) fun x35=>sw (!(x35)) (some ((aM.mk s_ [] [] [] [] []),false)) (some ((aM.mk v18 v19 v24 v25 v26 v27),true)))))))))
theorem MS(fu:Nat)(p0:aB)(r:aM×Bool)(H:mX fu p0=some r):bR Tryz.prog 146 [(aB.pv p0)] (.tup [(aM.pv r.1),pB r.2]):=by
 refine qJ func146 H (fun C hC H=>?_)
 refine gQ 2 ?_;refine q1 (eX ([pS p0.aB9,bH p0.aB6])) ?_;refine gQ 5 ?_;refine q1 (bW [pS p0.aB9,bH p0.aB6]) (bK H fun x2 z1 H=>(q1 (bE func175 (cY fu p0 2 _ z1)) (q1 tF1 (dP H fun x4 x5 z3 H=>(q1 (bE func174 (I3 fu x2.aB6 _ z3)) ?_)))))
 refine gQ 8 ?_;refine q1 (bW [pS p0.aB9,bH p0.aB6]) (bK H fun x7 z6 H=>(q1 (bE func175 (cY fu p0 1 _ z6)) ?_))
 refine gQ 9 ?_;refine q1 (bW [pS p0.aB9,bH p0.aB6]) (bK H fun x9 z8 H=>(q1 (bE func173 (c9 fu p0 _ z8)) ?_))
 refine gQ 2 ?_;refine dH 23 H (fun g10 H=>gE 33) fun g10 H=>?_;refine gQ 6 ?_;refine dH 29 H (fun g11 H=>?_) fun g11 H=>?_
 ·have g11n:p0.aB6.length<3:=by have:=of_decide_eq_true g11;omega
  exact gE 27
 refine gQ 2 ?_;refine cC H fun z12 H=>?_;refine gQ 6 ?_;refine dH 37 H (fun g13 H=>gE 19) fun g13 H=>?_;refine gQ 2 ?_;refine cC H fun z14 H=>?_;refine gQ 6 ?_;refine dH 45 H (fun g15 H=>gE 11) fun g15 H=>?_;refine gQ 4 ?_;refine bC H (fun h16 H=>gE 6) fun h16 H=>?_;refine gQ 6 ?_;refine cQ.wk (Wk.regBox (k:=2) (j:=2) 156 5 (by decide) rfl rfl) (cQ.wk (Wk.regBox (k:=2) (j:=3) 39 3 (by decide) rfl rfl) (cQ.wk (Wk.regBox (k:=2) (j:=4) 163 12 (by decide) rfl rfl) (cQ.wk (Wk.regBox (k:=2) (j:=5) 213 16 (by decide) rfl rfl) ?_)))
 refine gL 25 (aB.trs_len _) (fun hl28=>?_)
 refine bU (σ:=ByteArray×(LB)×(List aU)×(List aN)×(List aI)×(List aP)) (fun i17 (v18,v19,v24,v25,v26,v27)=>⟨[(1,.ptr 0 0),(2,.ptr 1 0),(3,pB false),(6,.ptr 2 0),(7,pN i17)],⟨[some ⟨189,[pS p0.aB9,bH p0.aB6]⟩,some ⟨141,[pS s_,.nil,.nil,.nil,.nil,.nil]⟩,some ⟨141,[pS v18,rS v19,A2 v24 0,nG v25 1,nI v26 2,nH v27 3]⟩],[⟨156,5,aU.trs (v24),false⟩,⟨39,3,aN.trs (v25),false⟩,⟨163,12,aI.trs (v26),false⟩,⟨213,16,aP.trs (v27),false⟩]⟩⟩) (fun(v18,v19,v24,v25,v26,v27)=>⟨[(2,.ptr 1 0),(3,pB false),(6,.ptr 2 0)],⟨[some ⟨189,[pS p0.aB9,bH p0.aB6]⟩,some ⟨141,[pS s_,.nil,.nil,.nil,.nil,.nil]⟩,some ⟨141,[pS v18,rS v19,A2 v24 0,nG v25 1,nI v26 2,nH v27 3]⟩],[⟨156,5,aU.trs (v24),false⟩,⟨39,3,aN.trs (v25),false⟩,⟨163,12,aI.trs (v26),false⟩,⟨213,16,aP.trs (v27),false⟩]⟩⟩) (eK H) ?_ ?_
 ·rintro i17 ⟨v18,v19,v24,v25,v26,v27⟩ H
  refine gQ 9 ?_;refine cS H (fun h29 h29l H=>?_) (fun h29 H=>?_)
  ·refine gQ 9 ?_;refine q1 (iI (aB.cs (aT p0.aB6 i17))) (dP H fun x31 x32 z30 H=>(q1 (eU [2] [0,1,2,3] func176 (agZ fu (v18,v19,v24,v25,v26,v27) (aT p0.aB6 i17) _ z30)) ?_))
   refine gQ 2 ?_;refine bC H (fun h33 H=>gE 6) fun h33 H=>?_;exact gE 6
  exact gE 0
 rintro⟨v18,v19,v24,v25,v26,v27⟩ H
 refine gQ 3 ?_;refine q1 (bW [pS v18,rS v19,A2 v24 0,nG v25 1,nI v26 2,nH v27 3]) (bK H fun x35 z34 H=>(q1 (bE func177 (MR fu (aM.mk v18 v19 v24 v25 v26 v27) _ z34)) ?_))
 refine gQ 2 ?_;refine bC H (fun h36 H=>gE 6) fun h36 H=>?_;refine gQ 3 ?_;refine q1 (bW [pS v18,rS v19,A2 v24 0,nG v25 1,nI v26 2,nH v27 3]) ?_;exact gE 3
def tL(fu:Nat)(ps:ByteArray):Option (aM×Bool):=bd (xC fu ps) fun(x2,x3)=>sw (!(x3)) (some ((aM.mk s_ [] [] [] [] []),false)) (bd (mX fu x2) fun(x6,x7)=>some (x6,x7))
theorem RM(fu:Nat)(ps:ByteArray)(r:aM×Bool)(H:tL fu ps=some r):bR Tryz.prog 98 [pS ps] (.tup [(aM.pv r.1),pB r.2]):=by
 refine qJ func98 H (fun C hC H=>?_)
 refine gQ 8 ?_;refine dP H fun x2 x3 z1 H=>(q1 (bE func145 (WR fu ps _ z1)) ?_)
 refine gQ 13 ?_;refine bC H (fun h4 H=>gE 6) fun h4 H=>?_;refine gQ 3 ?_;refine q1 (bW [pS x2.aB9,bH x2.aB6]) (dP H fun x6 x7 z5 H=>(q1 (bE func146 (MS fu x2 _ z5)) ?_))
 exact gE 5
def TZ(m:ByteArray→Option (aE×Int)):Prop:= ∀(ps:ByteArray) (r:aE×Int),m ps=some r→AY Tryz.prog 46 [pS ps] ⟨[],[]⟩ [] 141 6 (aM.trs (r.1.aB2)) (fun k=> .tup [.agg [s4 r.1.aB2 k],pI r.2])
def E5(fu:Nat)(ps:ByteArray)(x2:LB):Nat→((List aM))→Option (LR ((List aM)) (aE×Int)):=fun i3 v5=>bd (IY fu (aT x2 i3)) fun x9=>sw x9 (some (.next v5)) (bd (tL fu (aT x2 i3)) fun(x12,x13)=>sw (!(x13)) (some (.ret ((aE.mk []),(v5.length:Int)))) (sw (decide ((v5.length:Int)=5)) (some (.ret ((aE.mk []),(v5.length:Int)))) (gd ((v5).length+(([x12]:List aM)).length≤68719476736) (some (.next (v5++([x12]:List aM)))))))
def o5(fu:Nat)(ps:ByteArray):Option (aE×Int):=bd (F9 fu ps (10:UInt8)) fun x2=>so (loopN (E5 fu ps x2) (x2.length-0) 0 ([])) fun v5=>some ((aE.mk v5),(-1))
theorem RO(fu:Nat):TZ (o5 fu):=by
 intro ps r H
 unfold AY
 refine qJ func46 H (fun C hC H=>?_)
 refine gQ 14 ?_;refine bK H fun x2 z1 H=>(q1 (bE func96 (Y4 fu ps (10:UInt8) _ z1)) ?_)
 refine gQ 7 ?_;refine cQ.wk (Wk.regBox (k:=1) (j:=0) 141 6 (by decide) rfl rfl) ?_;refine gL 5 (bV _) (fun hl6=>?_)
 refine bU (σ:=(List aM)) (fun i3 v5=>⟨[(2,.ptr 0 0),(3,pI 0),(4,.ptr 1 0),(5,rS x2),(6,pN i3)],⟨[some ⟨26,[.nil]⟩,some ⟨26,[s4 v5 0]⟩],[⟨141,6,aM.trs (v5),false⟩]⟩⟩) (fun v5=>⟨[(2,.ptr 0 0),(3,pI 0),(4,.ptr 1 0)],⟨[some ⟨26,[.nil]⟩,some ⟨26,[s4 v5 0]⟩],[⟨141,6,aM.trs (v5),false⟩]⟩⟩) (eK H) ?_ ?_
 ·rintro i3 v5 H
  refine gQ 8 ?_;refine cS H (fun h7 h7l H=>?_) (fun h7 H=>?_)
  ·refine gQ 10 ?_;refine bK H fun x9 z8 H=>(q1 (bE func97 (ac7 fu (aT x2 i3) _ z8)) (qN ?_))
   refine bC H (fun h10 H=>?_) (fun h10 H=>?_)
   ·refine cQ.exit ?_;exact gE 5
   refine gQ 7 ?_;refine dP H fun x12 x13 z11 H=>(q1 (bE func98 (RM fu (aT x2 i3) _ z11)) ?_)
   refine gQ 13 ?_;refine dH 33 H (fun g14 H=>?_) fun g14 H=>?_
   ·refine gQ 8 ?_;refine dW (dI [] rW (dI [4] bZ (dB [40] 0 1 uK (dI [41] XY (kU [2,39] jO (dI [42] bF (dN (cQ.wk (Wk.regBox (k:=0) (j:=0) 141 6 (by decide) rfl rfl) (cQ.ret ?_)))))))))
    obtain rfl:_=r:=(lkR (vI H):)
    exact qe2 (st':=⟨[],[⟨141,6,aM.trs (v5),false⟩,⟨141,6,aM.trs ([]),false⟩]⟩) ⟨1,rfl,rfl,rfl⟩ (hr:=⟨⟨_,_,_,rfl,rfl,ai5.h,rfl,rfl⟩,rfl,trivial⟩)
   refine gQ 6 ?_;refine bC H (fun h15 H=>?_) (fun h15 H=>?_)
   ·refine qS (dW (dI [] rW (dI [4] bZ (dB [40] 0 1 uK (dI [41] XY (kU [2,39] jO (dI [42] bF (dN (cQ.wk (Wk.regBox (k:=0) (j:=0) 141 6 (by decide) rfl rfl) (cQ.ret ?_))))))))))
    obtain rfl:_=r:=(lkR (vI H):)
    exact qe2 (st':=⟨[],[⟨141,6,aM.trs (v5),false⟩,⟨141,6,aM.trs ([]),false⟩]⟩) ⟨1,rfl,rfl,rfl⟩ (hr:=⟨⟨_,_,_,rfl,rfl,ai5.h,rfl,rfl⟩,rfl,trivial⟩)
   refine gQ 4 ?_;refine q1 (bW [pS x12.aB3,rS x12.aCE,Q7 x12.aCi,pW x12.aCb,nO x12.aCe,JR x12.aCr]) (q1 (qE ([x12]:List aM)) (cC H fun z16 H=>(q1 (lG z16) ?_)))
   exact gE 8
  exact gE 0
 rintro v5 H
 refine gQ 2 ?_;refine q1 (bW [s4 v5 0]) ?_;refine gQ 3 ?_;refine cQ.ret ?_
 obtain rfl:_=r:=(vI H:)
 exact qe2 (st':=⟨[],[⟨141,6,aM.trs (v5),false⟩]⟩) ⟨0,rfl,rfl,rfl⟩ (hr:=⟨⟨_,_,_,rfl,rfl,ai5.h,rfl,rfl⟩,rfl,trivial⟩)
def M2(fu:Nat)(pc:DS):Option (ByteArray×DS):=gd ((cM).size+(cN).size≤1099511627776) (gd ((cM++cN).size+(cU).size≤1099511627776) (gd (((cM++cN)++cU).size+(cZ).size≤1099511627776) (lt (pc.after 2) fun d4=>sw (decide (pc.below 2=0)) (gd ((((cM++cN)++cU)++cZ).size+(jQ).size≤1099511627776) (gd (((((cM++cN)++cU)++cZ)++jQ).size+(dX).size≤1099511627776) (gd ((((((cM++cN)++cU)++cZ)++jQ)++dX).size+(eQ).size≤1099511627776) (gd (((((((cM++cN)++cU)++cZ)++jQ)++dX)++eQ).size+(fV).size≤1099511627776) (gd ((((((((cM++cN)++cU)++cZ)++jQ)++dX)++eQ)++fV).size+(iN).size≤1099511627776) (gd (((((((((cM++cN)++cU)++cZ)++jQ)++dX)++eQ)++fV)++iN).size+(k8).size≤1099511627776) (gd ((((((((((cM++cN)++cU)++cZ)++jQ)++dX)++eQ)++fV)++iN)++k8).size+(oY).size≤1099511627776) (gd (((((((((((cM++cN)++cU)++cZ)++jQ)++dX)++eQ)++fV)++iN)++k8)++oY).size+(CD).size≤1099511627776) (some ((((((((((((cM++cN)++cU)++cZ)++jQ)++dX)++eQ)++fV)++iN)++k8)++oY)++CD),d4)))))))))) (gd ((((cM++cN)++cU)++cZ).size+(jR).size≤1099511627776) (gd (((((cM++cN)++cU)++cZ)++jR).size+(dX).size≤1099511627776) (gd ((((((cM++cN)++cU)++cZ)++jR)++dX).size+(eQ).size≤1099511627776) (gd (((((((cM++cN)++cU)++cZ)++jR)++dX)++eQ).size+(fV).size≤1099511627776) (gd ((((((((cM++cN)++cU)++cZ)++jR)++dX)++eQ)++fV).size+(iN).size≤1099511627776) (gd (((((((((cM++cN)++cU)++cZ)++jR)++dX)++eQ)++fV)++iN).size+(k8).size≤1099511627776) (gd ((((((((((cM++cN)++cU)++cZ)++jR)++dX)++eQ)++fV)++iN)++k8).size+(oY).size≤1099511627776) (gd (((((((((((cM++cN)++cU)++cZ)++jR)++dX)++eQ)++fV)++iN)++k8)++oY).size+(CD).size≤1099511627776) (some ((((((((((((cM++cN)++cU)++cZ)++jR)++dX)++eQ)++fV)++iN)++k8)++oY)++CD),d4)))))))))))))
theorem agY(fu:Nat)(pc:DS)(r:ByteArray×DS)(H:M2 fu pc=some r):b7 Tryz.prog 188 [.ptr 0 0] ⟨[some ⟨133,dC pc⟩],[]⟩ (fun q t=>q=(pS r.1)∧t=⟨[some ⟨133,dC r.2⟩],[]⟩):=by
 refine qJ func188 H (fun C hC H=>?_)
 refine gQ 11 ?_;refine cC H fun z1 H=>(q1 (bB.addS rfl rfl rfl rfl (Nat.le_trans z1 (by decide))) ?_)
 refine gQ 5 ?_;refine cC H fun z2 H=>(q1 (bB.addS rfl rfl rfl rfl (Nat.le_trans z2 (by decide))) ?_)
 refine gQ 5 ?_;refine cC H fun z3 H=>(q1 (bB.addS rfl rfl rfl rfl (Nat.le_trans z3 (by decide))) ?_)
 refine gQ 6 ?_;refine fZ H fun d4 h5 H=>(q1 (eU [0] [] func45 (EU h5 (l6 pc 2))) (qN ?_))
 refine bC H (fun h6 H=>?_) (fun h6 H=>?_)
 ·refine gQ 2 ?_;refine cC H fun z7 H=>(q1 (bB.addS rfl rfl rfl rfl (Nat.le_trans z7 (by decide))) ?_)
  refine gQ 5 ?_;refine cC H fun z8 H=>(q1 (bB.addS rfl rfl rfl rfl (Nat.le_trans z8 (by decide))) ?_)
  refine gQ 5 ?_;refine cC H fun z9 H=>(q1 (bB.addS rfl rfl rfl rfl (Nat.le_trans z9 (by decide))) ?_)
  refine gQ 5 ?_;refine cC H fun z10 H=>(q1 (bB.addS rfl rfl rfl rfl (Nat.le_trans z10 (by decide))) ?_)
  refine gQ 5 ?_;refine cC H fun z11 H=>(q1 (bB.addS rfl rfl rfl rfl (Nat.le_trans z11 (by decide))) ?_)
  refine gQ 5 ?_;refine cC H fun z12 H=>(q1 (bB.addS rfl rfl rfl rfl (Nat.le_trans z12 (by decide))) ?_)
  refine gQ 5 ?_;refine cC H fun z13 H=>(q1 (bB.addS rfl rfl rfl rfl (Nat.le_trans z13 (by decide))) ?_)
  refine gQ 5 ?_;refine cC H fun z14 H=>(q1 (bB.addS rfl rfl rfl rfl (Nat.le_trans z14 (by decide))) ?_)
  exact gE 2
 refine gQ 2 ?_;refine cC H fun z15 H=>(q1 (bB.addS rfl rfl rfl rfl (Nat.le_trans z15 (by decide))) ?_)
 refine gQ 5 ?_;refine cC H fun z16 H=>(q1 (bB.addS rfl rfl rfl rfl (Nat.le_trans z16 (by decide))) ?_)
 refine gQ 5 ?_;refine cC H fun z17 H=>(q1 (bB.addS rfl rfl rfl rfl (Nat.le_trans z17 (by decide))) ?_)
 refine gQ 5 ?_;refine cC H fun z18 H=>(q1 (bB.addS rfl rfl rfl rfl (Nat.le_trans z18 (by decide))) ?_)
 refine gQ 5 ?_;refine cC H fun z19 H=>(q1 (bB.addS rfl rfl rfl rfl (Nat.le_trans z19 (by decide))) ?_)
 refine gQ 5 ?_;refine cC H fun z20 H=>(q1 (bB.addS rfl rfl rfl rfl (Nat.le_trans z20 (by decide))) ?_)
 refine gQ 5 ?_;refine cC H fun z21 H=>(q1 (bB.addS rfl rfl rfl rfl (Nat.le_trans z21 (by decide))) ?_)
 refine gQ 5 ?_;refine cC H fun z22 H=>(q1 (bB.addS rfl rfl rfl rfl (Nat.le_trans z22 (by decide))) ?_)
 exact gE 2
def ajJ(fu:Nat)(pc:DS):Option ((ByteArray×DS)⊕(ByteArray×DS)):=lt (pc.after 8) fun d3=>sw (decide ((pc.below 8:Int)=0)) (gd ((eP).size+(N5).size≤1099511627776) (some (.inr ((eP++N5),d3)))) (sw (decide ((pc.below 8:Int)=1)) (gd ((eP).size+(N3).size≤1099511627776) (some (.inr ((eP++N3),d3)))) (sw (decide ((pc.below 8:Int)=2)) (gd ((eP).size+(NX).size≤1099511627776) (some (.inr ((eP++NX),d3)))) (sw (decide ((pc.below 8:Int)=3)) (gd ((eP).size+(NZ).size≤1099511627776) (some (.inr ((eP++NZ),d3)))) (sw (decide ((pc.below 8:Int)=4)) (gd ((eP).size+(NY).size≤1099511627776) (some (.inr ((eP++NY),d3)))) (sw (decide ((pc.below 8:Int)=5)) (gd ((eP).size+(N2).size≤1099511627776) (some (.inr ((eP++N2),d3)))) (gd ((eP).size+(N0).size≤1099511627776) (some (.inr ((eP++N0),d3)))))))))
def ajK(fu:Nat)(pc:DS)(v1:ByteArray)(v2 d19:DS)(y21:ByteArray):Option ((ByteArray×DS)⊕(ByteArray×DS)):=lt (d19.after 2) fun d27=>sw (decide (d19.below 2=0)) (gd ((((v1++oV)++y21)++CD).size+(N1).size≤1099511627776) (some (.inr (((((v1++oV)++y21)++CD)++N1),d27)))) (some (.inr ((((v1++oV)++y21)++CD),d27)))
def ajL(fu:Nat)(pc:DS)(v1:ByteArray)(v2 d19:DS)(y21 v25:ByteArray)(v26:DS):Option ((ByteArray×DS)⊕(ByteArray×DS)):=lt (v26.after 3) fun d33=>sw (decide (v26.below 3=0)) (gd ((v25).size+(N4).size≤1099511627776) (some (.inr ((v25++N4),d33)))) (some (.inr (v25,d33)))
def R5(fu:Nat)(pc:DS):Option (ByteArray×DS):=so (ajJ fu pc) fun(v1,v2)=>gd ((v1).size+(oV).size≤1099511627776) (lt (v2.after ([EC,EB,D9,ED,D8,EG,EH,EE,EF,D7]:LB).length) fun d19=>lt (v2.pick ([EC,EB,D9,ED,D8,EG,EH,EE,EF,D7]:LB)) fun y21=>gd ((v1++oV).size+(y21).size≤1099511627776) (gd (((v1++oV)++y21).size+(CD).size≤1099511627776) (so (ajK fu pc v1 v2 d19 y21) fun(v25,v26)=>so (ajL fu pc v1 v2 d19 y21 v25 v26) fun(v31,v32)=>lt (v32.after 4) fun d37=>sw (decide (v32.below 4=0)) (gd ((v31).size+(EA).size≤1099511627776) (gd ((v31++EA).size+(CD).size≤1099511627776) (some (((v31++EA)++CD),d37)))) (gd ((v31).size+(CD).size≤1099511627776) (some ((v31++CD),d37))))))
theorem ajM(fu:Nat)(pc:DS)(r:ByteArray×DS)(H:R5 fu pc=some r):b7 Tryz.prog 189 [.ptr 0 0] ⟨[some ⟨133,dC pc⟩],[]⟩ (fun q t=>q=(pS r.1)∧t=⟨[some ⟨133,dC r.2⟩],[]⟩):=by
 refine qJ func189 H (fun C hC H=>?_)
 refine gQ 9 ?_;refine nV (σ:=ByteArray×DS) (fun(v1,v2)=>⟨[(0,.ptr 0 0),(2,pS s_),(3,pS v1)],⟨[some ⟨133,dC v2⟩],[]⟩⟩) (eK H) (fun H=>?_) ?_
 ·refine gQ 3 ?_;refine fZ H fun d3 h4 H=>(q1 (eU [0] [] func73 (EU h4 (fI pc 8))) ?_)
  refine gQ 7 ?_;refine bC H (fun h5 H=>?_) (fun h5 H=>?_)
  ·refine gQ 2 ?_;refine cC H fun z6 H=>(q1 (bB.addS rfl rfl rfl rfl (Nat.le_trans z6 (by decide))) ?_)
   exact gE 2
  refine gQ 5 ?_;refine bC H (fun h7 H=>?_) (fun h7 H=>?_)
  ·refine gQ 2 ?_;refine cC H fun z8 H=>(q1 (bB.addS rfl rfl rfl rfl (Nat.le_trans z8 (by decide))) ?_)
   exact gE 2
  refine gQ 5 ?_;refine bC H (fun h9 H=>?_) (fun h9 H=>?_)
  ·refine gQ 2 ?_;refine cC H fun z10 H=>(q1 (bB.addS rfl rfl rfl rfl (Nat.le_trans z10 (by decide))) ?_)
   exact gE 2
  refine gQ 5 ?_;refine bC H (fun h11 H=>?_) (fun h11 H=>?_)
  ·refine gQ 2 ?_;refine cC H fun z12 H=>(q1 (bB.addS rfl rfl rfl rfl (Nat.le_trans z12 (by decide))) ?_)
   exact gE 2
  refine gQ 5 ?_;refine bC H (fun h13 H=>?_) (fun h13 H=>?_)
  ·refine gQ 2 ?_;refine cC H fun z14 H=>(q1 (bB.addS rfl rfl rfl rfl (Nat.le_trans z14 (by decide))) ?_)
   exact gE 2
  refine gQ 5 ?_;refine bC H (fun h15 H=>?_) (fun h15 H=>?_)
  ·refine gQ 2 ?_;refine cC H fun z16 H=>(q1 (bB.addS rfl rfl rfl rfl (Nat.le_trans z16 (by decide))) ?_)
   exact gE 2
  refine gQ 2 ?_;refine cC H fun z17 H=>(q1 (bB.addS rfl rfl rfl rfl (Nat.le_trans z17 (by decide))) ?_)
  exact gE 2
 rintro⟨v1,v2⟩ H
 refine gQ 3 ?_;refine cC H fun z18 H=>(q1 (bB.addS rfl rfl rfl rfl (Nat.le_trans z18 (by decide))) (q1 bF (q1 (iF ([EC,EB,D9,ED,D8,EG,EH,EE,EF,D7]:LB)) (fZ H fun d19 h20 H=>(fZ H fun y21 h22 H=>(q1 (eU [0] [] func48 (PP h20 h22 (f7 v2 ([EC,EB,D9,ED,D8,EG,EH,EE,EF,D7]:LB) (by decide)))) (cC H fun z23 H=>(q1 (bB.addS rfl rfl rfl rfl (Nat.le_trans z23 (by decide))) (cC H fun z24 H=>(q1 (bB.addS rfl rfl rfl rfl (Nat.le_trans z24 (by decide))) ?_))))))))))
 refine gQ 3 ?_;refine nV (σ:=ByteArray×DS) (fun(v25,v26)=>⟨[(0,.ptr 0 0),(2,pS s_),(3,pS v25)],⟨[some ⟨133,dC v26⟩],[]⟩⟩) (eK H) (fun H=>?_) ?_
 ·refine gQ 3 ?_;refine fZ H fun d27 h28 H=>(q1 (eU [0] [] func45 (EU h28 (l6 d19 2))) (qN ?_))
  refine bC H (fun h29 H=>?_) (fun h29 H=>?_)
  ·refine gQ 2 ?_;refine cC H fun z30 H=>(q1 (bB.addS rfl rfl rfl rfl (Nat.le_trans z30 (by decide))) ?_)
   exact gE 2
  exact gE 1
 rintro⟨v25,v26⟩ H
 refine qS ?_;refine nV (σ:=ByteArray×DS) (fun(v31,v32)=>⟨[(0,.ptr 0 0),(2,pS s_),(3,pS v31)],⟨[some ⟨133,dC v32⟩],[]⟩⟩) (eK H) (fun H=>?_) ?_
 ·refine gQ 3 ?_;refine fZ H fun d33 h34 H=>(q1 (eU [0] [] func45 (EU h34 (l6 v26 3))) (qN ?_))
  refine bC H (fun h35 H=>?_) (fun h35 H=>?_)
  ·refine gQ 2 ?_;refine cC H fun z36 H=>(q1 (bB.addS rfl rfl rfl rfl (Nat.le_trans z36 (by decide))) ?_)
   exact gE 2
  exact gE 1
 rintro⟨v31,v32⟩ H
 refine gQ 4 ?_;refine fZ H fun d37 h38 H=>(q1 (eU [0] [] func45 (EU h38 (l6 v32 4))) (qN ?_))
 refine bC H (fun h39 H=>?_) (fun h39 H=>?_)
 ·refine gQ 2 ?_;refine cC H fun z40 H=>(q1 (bB.addS rfl rfl rfl rfl (Nat.le_trans z40 (by decide))) ?_)
  refine gQ 5 ?_;refine cC H fun z41 H=>(q1 (bB.addS rfl rfl rfl rfl (Nat.le_trans z41 (by decide))) ?_)
  exact gE 2
 refine gQ 4 ?_;refine cC H fun z42 H=>(q1 (bB.addS rfl rfl rfl rfl (Nat.le_trans z42 (by decide))) ?_)
 exact gE 2
def zC(fu:Nat)(pc:DS):Option (ByteArray×DS):=bd (M2 fu pc) fun(x2,x3)=>lt (x3.after 5) fun d4=>sw (decide (x3.below 5=0)) (some (x2,d4)) (gd (x2.size+(am4).size≤1099511627776) (bd (R5 fu d4) fun(x9,x10)=>gd ((x2++am4).size+x9.size≤1099511627776) (some (((x2++am4)++x9),x10))))
theorem R6(fu:Nat)(pc:DS)(r:ByteArray×DS)(H:zC fu pc=some r):b7 Tryz.prog 162 [.ptr 0 0] ⟨[some ⟨133,dC pc⟩],[]⟩ (fun q t=>q=(pS r.1)∧t=⟨[some ⟨133,dC r.2⟩],[]⟩):=by
 refine qJ func162 H (fun C hC H=>?_)
 refine gQ 7 ?_;refine dP H fun x2 x3 z1 H=>(q1 (eU [0] [] func188 (agY fu pc _ z1)) ?_)
 refine gQ 6 ?_;refine fZ H fun d4 h5 H=>(q1 (eU [0] [] func45 (EU h5 (l6 x3 5))) (qN ?_))
 refine bC H (fun h6 H=>gE 5) fun h6 H=>?_;refine gQ 4 ?_;refine cC H fun z7 H=>(q1 (bB.addS rfl rfl rfl rfl (Nat.le_trans z7 (by decide))) (q1 bF (dP H fun x9 x10 z8 H=>(q1 (eU [0] [] func189 (ajM fu d4 _ z8)) (cC H fun z11 H=>(q1 (bB.addS rfl rfl rfl rfl (Nat.le_trans z11 (by decide))) ?_))))))
 exact gE 2
def ajO(m:DS→Option (aE×DS)):Prop:= ∀(pc:DS) (r:aE×DS),m pc=some r→AY Tryz.prog 126 [.ptr 0 0] ⟨[some ⟨133,dC pc⟩],[]⟩ [some ⟨133,dC r.2⟩] 141 6 (aM.trs (r.1.aB2)) (fun k=> .agg [s4 r.1.aB2 k])
def GI(fu:Nat)(pc:DS):Option (aE×DS):=bd (zC fu pc) fun(x2,x3)=>bd (o5 fu x2) fun(x5,x6)=>some ((aE.mk x5.aB2),x3)
theorem ag0(fu:Nat):ajO (GI fu):=by
 intro pc r H
 unfold AY
 refine qJ func126 H (fun C hC H=>?_)
 refine gQ 7 ?_;refine dP H fun x2 x3 z1 H=>(q1 (eU [0] [] func162 (R6 fu pc _ z1)) (dP H fun x5 x6 z4 H=>(q1 (bB.callOwn (pre:=⟨[],[]⟩) (B:= []) (R:=fun k=> .tup [.agg [s4 x5.aB2 k],pI x6]) (ps:= [_]) (qs:= [pS x2]) [] rfl rfl func46 (by kernel_rfl) rfl rfl rfl (eZ.of trivial trivial (by decide) (by decide)) rfl jN rfl rfl rfl (fun k k'=>(.tup (.cons (.agg (.cons Mv.acc GX.nil)) (.cons (.free _ rfl) GX.nil)))) (RO fu x2 _ z4)) ?_)))
 refine gQ 9 ?_;refine q1 (bW [s4 x5.aB2 0]) ?_;refine gQ 2 ?_;refine cQ.ret ?_
 obtain rfl:_=r:=(vI H:)
 exact V6 (st':=⟨[some ⟨133,dC x3⟩],[⟨141,6,aM.trs (x5.aB2),false⟩]⟩) ⟨0,rfl,rfl,rfl⟩ (hr:=⟨⟨_,_,_,rfl,rfl,ai5.h,rfl,rfl⟩,trivial⟩)
end
end Go.Proofs.YtfcoaagbccmahaaGreat.W
