/- Words, rules and walks of several kinds, laid together. No conditions but those that each theorem states. -/
import Derived.Test.YtfcoaagbccmahaaGreatQh33bde6e6
set_option linter.unusedSimpArgs false
set_option linter.unusedVariables false
namespace Go.Proofs.YtfcoaagbccmahaaGreat.W
set_option maxRecDepth 100000
set_option maxHeartbeats 40000000
noncomputable section
open Tryz Go.RowKit Go.Proofs
attribute [local irreducible] lt
def dJ(fu:Nat)(px:aB)(pi:Int):Option aB:=sw (decide (pi≥(px.aCc.length:Int))) (some (aB.mk s_ [])) (gd (0≤pi∧(pi).toNat<(px.aCc).length) (some (aR px.aCc ((pi).toNat))))
theorem cY(fu:Nat)(px:aB)(pi:Int)(r:aB)(H:dJ fu px pi=some r):bQ Tryz.prog 175 [(aB.pv px),pI pi] ((aB.pv r)):=by
 refine qJ func175 H (fun C hC H=>?_)
 refine gQ 2 ?_;refine q1 (fD ([pS px.aCf,bG px.aCc])) ?_;refine gQ 11 ?_;refine bC H (fun h1 H=>gE 5) fun h1 H=>?_;refine gQ 6 ?_;refine cF H fun z2 H=>(q1 (rIy z2 CF.h) (q1 (iK (aB.cs (aR px.aCc ((pi).toNat)))) ?_))
 exact gE 2
def m5(fu:Nat)(px:aB):Option ((LB)):=bd (B3 fu px.aCc) fun(x2,x3)=>some x2
theorem oQ(fu:Nat)(px:aB)(r:(LB))(H:m5 fu px=some r):bQ Tryz.prog 216 [(aB.pv px)] (rS r):=by
 refine qJ func216 H (fun C hC H=>?_)
 refine gQ 2 ?_;refine q1 (fD ([pS px.aCf,bG px.aCc])) ?_;refine gQ 6 ?_;refine dU H fun x2 x3 z1 H=>(q1 (bE func174 (IZ fu px.aCc _ z1)) ?_)
 exact gE 11
def wW(fu:Nat)(px:aB)(pi:Int):Option ((List aB)):=bd (r7 fu pi (px.aCc.length:Int)) fun x2=>gd ((0:Int)≤x2∧(x2:Int)≤(px.aCc.length:Int)∧(px.aCc.length:Int)≤(px.aCc.length:Int)) (some (List.drop (x2:Int).toNat (List.take (px.aCc.length:Int).toNat px.aCc)))
theorem CZ(fu:Nat)(px:aB)(pi:Int)(r:(List aB))(H:wW fu px pi=some r):bQ Tryz.prog 217 [(aB.pv px),pI pi] (bG r):=by
 refine qJ func217 H (fun C hC H=>?_)
 refine gQ 2 ?_;refine q1 (fD ([pS px.aCf,bG px.aCc])) ?_;refine gQ 3 ?_;refine bK H fun x2 z1 H=>(cF H fun z3 H=>(dW (dI [2] bW (dD [5] eE (dI [1] bF (dI [2] bW (dD [8] eE (dI [9] XW (dI [7,10] (bE func234 (sS fu pi (px.aCc.length:Int) _ z1)) ?_)))))))))
 refine dI [6,11] (bB.congrP (bB.sliceR (es:=aB.trs (px.aCc)) (l:=x2) (k:=(px.aCc.length:Int)) rfl rfl rfl rfl rfl (by rw [aB.trs_len];exact rfl) (by rw [aB.trs_len];exact z3) CF.h) (aB.trs_part _ _ _)) ?_;refine dI [12] bF (dN ?_)
 exact gE 0
def ajH(fu:Nat)(p1:List aB):Nat→((List aA))→Option (LR ((List aA)) ((List aA))):=fun i1 v3=>bd (m9 fu (aR p1 i1)) fun x7=>gd ((v3).length+(([x7]:List aA)).length≤68719476736) (some (.next (v3++([x7]:List aA))))
def JS(fu:Nat)(p1:List aB):Option ((List aA)):=so (loopN (ajH fu p1) (p1.length-0) 0 ([])) fun v3=>some v3
theorem W2(fu:Nat)(p1:List aB)(r:(List aA))(H:JS fu p1=some r):bQ Tryz.prog 218 [bG p1] (aT r):=by
 refine qJ func218 H (fun C hC H=>?_)
 refine gQ 6 ?_;refine q1 (qP ([]:List aA)) ?_;refine gQ 7 ?_;refine gP 0 (aB.trs_len _) (fun hl4=>?_)
 refine bS (σ:=(List aA)) (fun i1 v3=>⟨[(0,bG p1),(2,.nil),(3,fK v3 0),(4,pN i1)],⟨[],[⟨30,3,aA.trs (v3),false⟩]⟩⟩) (fun v3=>⟨[(2,.nil),(3,fK v3 0)],⟨[],[⟨30,3,aA.trs (v3),false⟩]⟩⟩) (eM H) ?_ ?_
 ·rintro i1 v3 H
  refine gQ 8 ?_;refine cS H (fun h5 h5l H=>?_) (fun h5 H=>?_)
  ·refine gQ 8 ?_;refine q1 (iK (aB.cs (aR p1 i1))) (bK H fun x7 z6 H=>(q1 (bE func219 (yJ fu (aR p1 i1) _ z6)) (q1 (hH ([x7]:List aA)) (cF H fun z8 H=>(q1 (lE z8) ?_)))))
   exact gE 7
  exact gE 0
 rintro v3 H
 exact gE 5
def lL(fu:Nat)(p1:LB):Option aB:=bd (GH fu p1) fun x2=>some (aB.mk s_ x2)
theorem m6(fu:Nat)(p1:LB)(r:aB)(H:lL fu p1=some r):bQ Tryz.prog 240 [rS p1] ((aB.pv r)):=by
 refine qJ func240 H (fun C hC H=>?_)
 refine gQ 7 ?_;refine bK H fun x2 z1 H=>(q1 (bE func254 (S2 fu p1 _ z1)) ?_)
 exact gE 3
def ac2(fu:Nat)(p1:List aA):Nat→((List aB))→Option (LR ((List aB)) ((List aB))):=fun i1 v3=>bd (m8 fu (aR p1 i1)) fun x7=>gd ((v3).length+(([x7]:List aB)).length≤68719476736) (some (.next (v3++([x7]:List aB))))
def C0(fu:Nat)(p1:List aA):Option ((List aB)):=so (loopN (ac2 fu p1) (p1.length-0) 0 ([])) fun v3=>some v3
theorem O5(fu:Nat)(p1:List aA)(r:(List aB))(H:C0 fu p1=some r):bQ Tryz.prog 241 [aT p1] (bG r):=by
 refine qJ func241 H (fun C hC H=>?_)
 refine gQ 6 ?_;refine q1 (qP ([]:List aB)) ?_;refine gQ 7 ?_;refine gP 0 (aA.trs_len _) (fun hl4=>?_)
 refine bS (σ:=(List aB)) (fun i1 v3=>⟨[(0,aT p1),(2,.nil),(3,eF v3 0),(4,pN i1)],⟨[],[⟨189,2,aB.trs (v3),false⟩]⟩⟩) (fun v3=>⟨[(2,.nil),(3,eF v3 0)],⟨[],[⟨189,2,aB.trs (v3),false⟩]⟩⟩) (eM H) ?_ ?_
 ·rintro i1 v3 H
  refine gQ 8 ?_;refine cS H (fun h5 h5l H=>?_) (fun h5 H=>?_)
  ·refine gQ 8 ?_;refine q1 (iK (aA.cs (aR p1 i1))) (bK H fun x7 z6 H=>(q1 (bE func242 (yI fu (aR p1 i1) _ z6)) (q1 (hH ([x7]:List aB)) (cF H fun z8 H=>(q1 (lE z8) ?_)))))
   exact gE 7
  exact gE 0
 rintro v3 H
 exact gE 5
def EY(fu:Nat)(p2:Bool)(px:aB):Option aB:=sw (!(p2)) (some (aB.mk s_ [])) (bd (iM fu px) fun x3=>sw (!(x3)) (some (aB.mk s_ [])) (some px))
theorem JR(fu:Nat)(p2:Bool)(px:aB)(r:aB)(H:EY fu p2 px=some r):bQ Tryz.prog 244 [pB p2,(aB.pv px)] ((aB.pv r)):=by
 refine qJ func244 H (fun C hC H=>?_)
 refine gQ 2 ?_;refine q1 (fD ([pS px.aCf,bG px.aCc])) ?_;refine gQ 8 ?_;refine dL 7 H (fun g1 H=>gE 11) fun g1 H=>?_;refine qg g1 (bZ [pS px.aCf,bG px.aCc]) (bK H fun x3 z2 H=>(qg g1 (bE func173 (c9 fu px _ z2)) ?_))
 refine gQ 3 ?_;refine bC H (fun h4 H=>gE 5) fun h4 H=>?_;refine gQ 3 ?_;refine q1 (bZ [pS px.aCf,bG px.aCc]) ?_;exact gE 2
def RK(fu:Nat)(p0:aU)(x2:Bool):Option (aB⊕((LB))):=sw (p0.aCG) (gd (([]:LB).length+(([BS]:LB)).length≤68719476736) (some (.inr (([])++([BS]:LB))))) (some (.inr ([])))
def RM(fu:Nat)(p0:aU)(x2:Bool)(v5:LB):Option (aB⊕((LB))):=sw (p0.aCp) (gd ((v5).length+(([fM]:LB)).length≤68719476736) (some (.inr (v5++([fM]:LB))))) (some (.inr v5))
def RO(fu:Nat)(p0:aU)(x2:Bool)(v5 v9:LB)(x13 x15 x17 x19 x21:aB):Nat→((List aB))→Option (LR ((List aB)) aB):=fun i22 v24=>lt (aR p0.aCv i22) fun y27=>bd (cB fu y27.aB9) fun x30=>bd (C0 fu y27.aCt) fun x32=>bd (m8 fu y27.aCr) fun x34=>bd (mK fu ([x30,(aB.mk s_ x32),x34]:List aB)) fun x36=>sw (y27.aCI) (bd (lL fu y27.aCm) fun x39=>bd (m4 fu y27.aCj) fun x41=>gd ((x36.aCc).length+(([x39,x41]:List aB)).length≤68719476736) (gd ((v24).length+(([(aB.mk x36.aCf (x36.aCc++([x39,x41]:List aB)))]:List aB)).length≤68719476736) (some (.next (v24++([(aB.mk x36.aCf (x36.aCc++([x39,x41]:List aB)))]:List aB)))))) (gd ((v24).length+(([(aB.mk x36.aCf x36.aCc)]:List aB)).length≤68719476736) (some (.next (v24++([(aB.mk x36.aCf x36.aCc)]:List aB)))))
def zB(fu:Nat)(p0:aU):Option aB:=bd (tR fu p0) fun x2=>sw (!(x2)) (some (aB.mk s_ [])) (so (RK fu p0 x2) fun v5=>so (RM fu p0 x2 v5) fun v9=>bd (cB fu JP) fun x13=>bd (cB fu p0.aB9) fun x15=>bd (lL fu p0.aCi) fun x17=>bd (lL fu v9) fun x19=>bd (mK fu ([x13,x15,x17,x19]:List aB)) fun x21=>so (loopN (RO fu p0 x2 v5 v9 x13 x15 x17 x19 x21) (p0.aCv.length-0) 0 x21.aCc) fun v24=>bd (EY fu true (aB.mk x21.aCf v24)) fun x46=>some x46)
theorem RP(fu:Nat)(p0:aU)(r:aB)(H:zB fu p0=some r):bQ Tryz.prog 222 [(aU.pv p0)] ((aB.pv r)):=by
 refine qJ func222 H (fun C hC H=>?_)
 refine gQ 2 ?_;refine q1 (fD (s5 p0)) ?_;refine gQ 5 ?_;refine q1 (bZ [pS p0.aB9,rS p0.aCi,pB p0.aCG,pB p0.aCp,gF p0.aCv]) (bK H fun x2 z1 H=>(q1 (bE func229 (EV fu p0 _ z1)) ?_))
 refine gQ 2 ?_;refine bC H (fun h3 H=>gE 5) fun h3 H=>?_;refine gQ 3 ?_;refine q1 (qP ([]:LB)) ?_;refine gQ 3 ?_;refine n3 (σ:=(LB)) (fun v5=>⟨[(1,.ptr 0 0),(2,.ptr 1 0),(3,aS v5 0)],⟨[some ⟨156,s5 p0⟩,some ⟨189,[pS s_,.nil]⟩],[⟨9,1,aY (v5),false⟩]⟩⟩) (eM H) (fun H=>?_) ?_
 ·refine gQ 5 ?_;refine bC H (fun h6 H=>?_) (fun h6 H=>?_)
  ·refine gQ 2 ?_;refine q1 (hH ([BS]:LB)) (cF H fun z7 H=>(q1 (lE z7) ?_))
   exact gE 2
  exact gE 1
 rintro v5 H
 refine qS ?_;refine n3 (σ:=(LB)) (fun v9=>⟨[(1,.ptr 0 0),(2,.ptr 1 0),(3,aS v9 0)],⟨[some ⟨156,s5 p0⟩,some ⟨189,[pS s_,.nil]⟩],[⟨9,1,aY (v9),false⟩]⟩⟩) (eM H) (fun H=>?_) ?_
 ·refine gQ 5 ?_;refine bC H (fun h10 H=>?_) (fun h10 H=>?_)
  ·refine gQ 2 ?_;refine q1 (hH ([fM]:LB)) (cF H fun z11 H=>(q1 (lE z11) ?_))
   exact gE 2
  exact gE 1
 rintro v9 H
 refine qS (bK H fun x13 z12 H=>(bK H fun x15 z14 H=>(bK H fun x17 z16 H=>(bK H fun x19 z18 H=>(bK H fun x21 z20 H=>(dWa (dI [] (bE func239 (b4 fu JP _ z12)) (dI [1] bW (dBz [24] 0 0 uP (dI [25] (bE func239 (b4 fu p0.aB9 _ z14)) (dI [1] bW (dBz [27] 0 0 uP (dI [28] (bE func240 (m6 fu p0.aCi _ z16)) ?_)))))))))))))
 refine dI [3] bF (dI [30] (bE func240 (m6 fu v9 _ z18)) (dI [23,26,29,31] (hH ([x13,x15,x17,x19]:List aB)) ?_))
 refine dEz [32] (fun _ z=>by cases z<;>exact bB.callOwn (pre:=⟨[],[]⟩) (B:= []) (R:=fun k=> .agg [pS x21.aCf,eF x21.aCc k]) (ps:= [_]) (qs:= [bG ([x13,x15,x17,x19]:List aB)]) [] rfl rfl func238 (by kernel_rfl) rfl rfl rfl (eV.of trivial trivial (by decide) (by decide)) rfl jK rfl rfl rfl (fun k k'=>(.agg (.cons (.free _ rfl) (.cons Mv.acc E8.nil)))) (nH fu ([x13,x15,x17,x19]:List aB) _ z20)) ?_;refine dA (fun _ st h=>vAl h aa7.h) (dZ 4 [4,33] kG (dN ?_))
 refine gQ 5 ?_;refine cV.fact (cI 0 4 rfl rfl rfl (aE.trs_len _)) (fun hl25=>?_)
 refine bS (σ:=(List aB)) (fun i22 v24=>⟨[(1,.ptr 0 0),(2,.ptr 1 0),(4,.ptr 2 0),(5,pN i22)],⟨[some ⟨156,s5 p0⟩,some ⟨189,[pS s_,.nil]⟩,some ⟨189,[pS x21.aCf,eF v24 1]⟩],[⟨9,1,aY (v9),false⟩,⟨189,2,aB.trs (v24),false⟩]⟩⟩) (fun v24=>⟨[(2,.ptr 1 0),(4,.ptr 2 0)],⟨[some ⟨156,s5 p0⟩,some ⟨189,[pS s_,.nil]⟩,some ⟨189,[pS x21.aCf,eF v24 1]⟩],[⟨9,1,aY (v9),false⟩,⟨189,2,aB.trs (v24),false⟩]⟩⟩) (eM H) ?_ ?_
 ·rintro i22 v24 H
  refine gQ 9 ?_;refine cS H (fun h26 h26l H=>?_) (fun h26 H=>?_)
  ·refine gQ 8 ?_;refine fV H fun y27 h28 H=>(q1 (yK h28 h26l) (q1 (iK (aE.cs y27)) ?_))
   refine gQ 4 ?_;refine bK H fun x30 z29 H=>(bK H fun x32 z31 H=>(bK H fun x34 z33 H=>(bK H fun x36 z35 H=>(dWa (dI [6] bW (dBz [46] 0 0 uP (dI [47] (bE func239 (b4 fu y27.aB9 _ z29)) (dI [6] bW (dBz [49] 0 0 uP (dI [50] (bE func241 (O5 fu y27.aCt _ z31)) (dI [51] r9 (dI [6] bW (dBz [53] 0 0 (GO [pI y27.aCr.aCb,pS y27.aCr.aB9,aT y27.aCr.aCa]) ?_)))))))))))))
   refine dI [54] (bE func242 (yI fu y27.aCr _ z33)) (dI [48,52,55] (hH ([x30,(aB.mk s_ x32),x34]:List aB)) ?_)
   refine dEz [56] (fun _ z=>by cases z<;>exact bB.callOwn (pre:=⟨[],[]⟩) (B:= []) (R:=fun k=> .agg [pS x36.aCf,eF x36.aCc k]) (ps:= [_]) (qs:= [bG ([x30,(aB.mk s_ x32),x34]:List aB)]) [] rfl rfl func238 (by kernel_rfl) rfl rfl rfl (eV.of trivial trivial (by decide) (by decide)) rfl jK rfl rfl rfl (fun k k'=>(.agg (.cons (.free _ rfl) (.cons Mv.acc E8.nil)))) (nH fu ([x30,(aB.mk s_ x32),x34]:List aB) _ z35)) ?_;refine dA (fun _ st h=>vAl h aa7.h) (dZ 7 [7,57] kG (dN ?_))
   refine gQ 6 ?_;refine bC H (fun h37 H=>?_) (fun h37 H=>?_)
   ·refine bK H fun x39 z38 H=>(bK H fun x41 z40 H=>(cF H fun z42 H=>(dW (dI [7] bW (dD [60] eE (dI [6] bW (dD [62] eE (dI [63] (bE func240 (m6 fu y27.aCm _ z38)) (dI [6] bW (dD [65] (bZ [pI y27.aCj.aCb,pS y27.aCj.aCg,pS y27.aCj.aB9,pI y27.aCj.aCR,pI y27.aCj.aCd.aCb,pS y27.aCj.aCd.aB9,aT y27.aCj.aCd.aCa,iS y27.aCj.aCa,sL y27.aCj.aCu]) (dI [66] (bE func243 (RX fu y27.aCj _ z40)) (dI [64,67] (hH ([x39,x41]:List aB)) (dE [61,68] (lE z42) ?_)))))))))))))
    refine dI [7] bW (lB [70,69] kG (dN ?_))
    refine gQ 3 ?_;refine q1 (bZ [pS x36.aCf,eF (x36.aCc++([x39,x41]:List aB)) 2]) (q1 (hH ([(aB.mk x36.aCf (x36.aCc++([x39,x41]:List aB)))]:List aB)) (cF H fun z43 H=>(q1 (lE z43) ?_)))
    exact gE 8
   refine gQ 4 ?_;refine q1 (bZ [pS x36.aCf,eF x36.aCc 2]) (q1 (hH ([(aB.mk x36.aCf x36.aCc)]:List aB)) (cF H fun z44 H=>(q1 (lE z44) ?_)))
   exact gE 8
  exact gE 0
 rintro v24 H
 refine gQ 2 ?_;refine q1 (bZ [pS x21.aCf,eF v24 1]) (bK H fun x46 z45 H=>(q1 (bE func244 (JR fu true (aB.mk x21.aCf v24) _ z45)) ?_))
 exact gE 2
def RI(fu:Nat)(p0 x2:aB)(x4:LB)(x6 x8:aB)(x10:LB)(x12 x14:Bool)(x16:List aB):Nat→((List aE))→Option (LR ((List aE)) (aU×Bool)):=fun i17 v19=>bd (dJ fu (aR x16 i17) 0) fun x23=>bd (dJ fu (aR x16 i17) 1) fun x25=>bd (JS fu x25.aCc) fun x27=>bd (dJ fu (aR x16 i17) 2) fun x29=>bd (m9 fu x29) fun x31=>sw (decide ((((((aR x16 i17).aCc).length:Nat):Int):Int)>3)) (bd (dJ fu (aR x16 i17) 3) fun x34=>bd (m5 fu x34) fun x36=>bd (dJ fu (aR x16 i17) 4) fun x38=>bd (gZ fu x38) fun x40=>gd ((v19).length+(([(aE.mk x23.aCf x27 x31 true x36 x40)]:List aE)).length≤68719476736) (some (.next (v19++([(aE.mk x23.aCf x27 x31 true x36 x40)]:List aE))))) (gd ((v19).length+(([(aE.mk x23.aCf x27 x31 false [] (aL.mk 0 s_ s_ 0 (aA.mk 0 s_ []) [] []))]:List aE)).length≤68719476736) (some (.next (v19++([(aE.mk x23.aCf x27 x31 false [] (aL.mk 0 s_ s_ 0 (aA.mk 0 s_ []) [] []))]:List aE)))))
def zA(fu:Nat)(p0:aB):Option (aU×Bool):=bd (dJ fu p0 3) fun x2=>bd (m5 fu x2) fun x4=>bd (dJ fu p0 1) fun x6=>bd (dJ fu p0 2) fun x8=>bd (m5 fu x8) fun x10=>bd (lD fu x4 BS) fun x12=>bd (lD fu x4 fM) fun x14=>bd (wW fu p0 4) fun x16=>so (loopN (RI fu p0 x2 x4 x6 x8 x10 x12 x14 x16) (x16.length-0) 0 ([])) fun v19=>bd (iM fu p0) fun x44=>sw (!(x44)) (some ((aU.mk s_ [] false false []),false)) (sw (decide ((p0.aCc.length:Int)=0)) (some ((aU.mk s_ [] false false []),false)) (bd (zB fu (aU.mk x6.aCf x10 x12 x14 v19)) fun x48=>bd (fQ fu x48 p0) fun x50=>sw (!(x50)) (some ((aU.mk s_ [] false false []),false)) (some ((aU.mk x6.aCf x10 x12 x14 v19),true))))
theorem RJ(fu:Nat)(p0:aB)(r:aU×Bool)(H:zA fu p0=some r):bQ Tryz.prog 200 [(aB.pv p0)] (.tup [(aU.pv r.1),pB r.2]):=by
 refine qJ func200 H (fun C hC H=>?_)
 refine gQ 2 ?_;refine q1 (fD ([pS p0.aCf,bG p0.aCc])) ?_;refine gQ 5 ?_;refine q1 (bZ [pS p0.aCf,bG p0.aCc]) (bK H fun x2 z1 H=>(q1 (bE func175 (cY fu p0 3 _ z1)) (bK H fun x4 z3 H=>(q1 (bE func216 (oQ fu x2 _ z3)) ?_))))
 refine gQ 3 ?_;refine bK H fun x6 z5 H=>(bK H fun x8 z7 H=>(bK H fun x10 z9 H=>(bK H fun x12 z11 H=>(bK H fun x14 z13 H=>(dW (dB [1] 0 1 (GO [pS p0.aCf,bG p0.aCc]) (dI [12] (bE func175 (cY fu p0 1 _ z5)) (dI [13] tF1 (dB [1] 0 1 (GO [pS p0.aCf,bG p0.aCc]) (dI [15] (bE func175 (cY fu p0 2 _ z7)) (dI [16] (bE func216 (oQ fu x8 _ z9)) (dI [4] bF (dI [18] (bE func153 (mJ fu x4 BS _ z11)) ?_)))))))))))))
 refine dI [4] bF (dI [20] (bE func153 (mJ fu x4 fM _ z13)) (dI [14,17,19,21] r9 (dE [] tAl (lB [5,22] kG (dN ?_)))))
 refine gQ 2 ?_;refine q1 (bZ [pS p0.aCf,bG p0.aCc]) (bK H fun x16 z15 H=>(q1 (bE func217 (CZ fu p0 4 _ z15)) ?_))
 refine gQ 7 ?_;refine cV.wk (Wk.regBox (k:=2) (j:=4) 237 16 (by decide) rfl rfl) ?_;refine gP 6 (aB.trs_len _) (fun hl20=>?_)
 refine bS (σ:=(List aE)) (fun i17 v19=>⟨[(1,.ptr 0 0),(2,.ptr 1 0),(3,pB false),(5,.ptr 2 0),(6,bG x16),(7,pN i17)],⟨[some ⟨189,[pS p0.aCf,bG p0.aCc]⟩,some ⟨156,[pS s_,.nil,pB false,pB false,.nil]⟩,some ⟨156,[pS x6.aCf,rS x10,pB x12,pB x14,lW v19 0]⟩],[⟨237,16,aE.trs (v19),false⟩]⟩⟩) (fun v19=>⟨[(1,.ptr 0 0),(2,.ptr 1 0),(3,pB false),(5,.ptr 2 0)],⟨[some ⟨189,[pS p0.aCf,bG p0.aCc]⟩,some ⟨156,[pS s_,.nil,pB false,pB false,.nil]⟩,some ⟨156,[pS x6.aCf,rS x10,pB x12,pB x14,lW v19 0]⟩],[⟨237,16,aE.trs (v19),false⟩]⟩⟩) (eM H) ?_ ?_
 ·rintro i17 v19 H
  refine gQ 8 ?_;refine cS H (fun h21 h21l H=>?_) (fun h21 H=>?_)
  ·refine gQ 4 ?_;refine bK H fun x23 z22 H=>(bK H fun x25 z24 H=>(bK H fun x27 z26 H=>(bK H fun x29 z28 H=>(bK H fun x31 z30 H=>(dW (dI [6] bF (dI [7] bF (dI [31,32] qQ (dI [33] (iK (aB.cs (aR x16 i17))) (dI [34] (bE func175 (cY fu (aR x16 i17) 0 _ z22)) (dI [35] tF1 (dI [6] bF (dI [7] bF ?_)))))))))))))
   refine dI [37,38] qQ (dI [39] (iK (aB.cs (aR x16 i17))) (dI [40] (bE func175 (cY fu (aR x16 i17) 1 _ z24)) (dI [41] tF1 (dI [42] (bE func218 (W2 fu x25.aCc _ z26)) (dI [6] bF (dI [7] bF (dI [44,45] qQ (dI [46] (iK (aB.cs (aR x16 i17))) (dI [47] (bE func175 (cY fu (aR x16 i17) 2 _ z28)) (dI [48] (bE func219 (yJ fu x29 _ z30)) (dI [36,43,49] r9 (dE [] tAl (lB [8,50] kG ?_)))))))))))))
   refine dN ?_;refine gQ 11 ?_;refine bC H (fun h32 H=>?_) (fun h32 H=>?_)
   ·refine gQ 10 ?_;refine q1 (iK (aB.cs (aR x16 i17))) (bK H fun x34 z33 H=>(q1 (bE func175 (cY fu (aR x16 i17) 3 _ z33)) (bK H fun x36 z35 H=>(q1 (bE func216 (oQ fu x34 _ z35)) ?_))))
    refine gQ 7 ?_;refine q1 (iK (aB.cs (aR x16 i17))) (bK H fun x38 z37 H=>(q1 (bE func175 (cY fu (aR x16 i17) 4 _ z37)) (bK H fun x40 z39 H=>(q1 (bE func220 (IN fu x38 _ z39)) ?_))))
    refine gQ 6 ?_;refine q1 (bZ [pS x23.aCf,aT x27,pI x31.aCb,pS x31.aB9,aT x31.aCa,pB true,rS x36,pI x40.aCb,pS x40.aCg,pS x40.aB9,pI x40.aCR,pI x40.aCd.aCb,pS x40.aCd.aB9,aT x40.aCd.aCa,iS x40.aCa,sL x40.aCu]) (q1 (hH ([(aE.mk x23.aCf x27 x31 true x36 x40)]:List aE)) (cF H fun z41 H=>(q1 (lE z41) ?_)))
    exact gE 8
   refine gQ 4 ?_;refine q1 (bZ [pS x23.aCf,aT x27,pI x31.aCb,pS x31.aB9,aT x31.aCa,pB false,.nil,pI 0,pS s_,pS s_,pI 0,pI 0,pS s_,.nil,.nil,.nil]) (q1 (hH ([(aE.mk x23.aCf x27 x31 false [] (aL.mk 0 s_ s_ 0 (aA.mk 0 s_ []) [] []))]:List aE)) (cF H fun z42 H=>(q1 (lE z42) ?_)))
   exact gE 8
  exact gE 0
 rintro v19 H
 refine gQ 2 ?_;refine bK H fun x44 z43 H=>?_
 rcases o3 (!(x44)) with g45|g45
 ·have H:=s9 H g45
  refine dW (dD [1] (bZ [pS p0.aCf,bG p0.aCc]) (dI [79] (bE func173 (c9 fu p0 _ z43)) (dI [80] JN (dI [81] bF ?_))))
  iterate 4 refine NF g45 ?_
  refine dI [82] (DU g45) (dI [87] bF ?_)
  iterate 5 refine NF rfl ?_
  refine dI [88] (DU rfl) (dN ?_)
  exact gE 7
 have H:=s8 H g45
 rcases o3 (decide ((p0.aCc.length:Int)=0)) with g46|g46
 ·have H:=s9 H g46
  refine dW (dD [1] (bZ [pS p0.aCf,bG p0.aCc]) (dI [79] (bE func173 (c9 fu p0 _ z43)) (dI [80] JN (dI [81] bF (dI (hg:=bD g45) [1] bW (dD (hg:=bD g45) [83] eE (dI (hg:=bD g45) [84] XW (dI (hg:=bD g45) [85] rEq (dI [82,86] (FX g45) (dI [87] bF ?_))))))))))
  iterate 5 refine NF g46 ?_
  refine dI [88] (DU g46) (dN ?_)
  exact gE 7
 have H:=s8 H g46
 refine bK H fun x48 z47 H=>(bK H fun x50 z49 H=>(dW (dD [1] (bZ [pS p0.aCf,bG p0.aCc]) (dI [79] (bE func173 (c9 fu p0 _ z43)) (dI [80] JN (dI [81] bF (dI (hg:=bD g45) [1] bW (dD (hg:=bD g45) [83] eE (dI (hg:=bD g45) [84] XW (dI (hg:=bD g45) [85] rEq (dI [82,86] (FX g45) (dI [87] bF (dD (hg:=bD g46) [5] (bZ [pS x6.aCf,rS x10,pB x12,pB x14,lW v19 0]) ?_)))))))))))))
 refine dI (hg:=bD g46) [89] (bE func222 (RP fu (aU.mk x6.aCf x10 x12 x14 v19) _ z47)) (dD (hg:=bD g46) [1] (bZ [pS p0.aCf,bG p0.aCc]) (dI (hg:=bD g46) [90,91] (bE func221 (vE fu x48 p0 _ z49)) (dI (hg:=bD g46) [92] JN (dI [88,93] (FX g46) (dN ?_)))))
 refine bC H (fun h51 H=>gE 6) fun h51 H=>?_;refine gQ 3 ?_;refine q1 (bZ [pS x6.aCf,rS x10,pB x12,pB x14,lW v19 0]) ?_;exact gE 3
def KH(fu:Nat)(pd:aN)(x2 x4 x6 x8:aB):Nat→((List aB))→Option (LR ((List aB)) aB):=fun i9 v11=>bd (cB fu ((aR pd.aCe i9).aB9)) fun x15=>bd (C0 fu ((aR pd.aCe i9).aCs)) fun x17=>gd ((([x15]:List aB)).length+x17.length≤68719476736) (gd ((v11).length+(([(aB.mk s_ (([x15]:List aB)++x17))]:List aB)).length≤68719476736) (some (.next (v11++([(aB.mk s_ (([x15]:List aB)++x17))]:List aB)))))
def t0(fu:Nat)(pd:aN):Option aB:=bd (cB fu RR) fun x2=>bd (cB fu pd.aB9) fun x4=>bd (lL fu pd.aCm) fun x6=>bd (mK fu ([x2,x4,x6]:List aB)) fun x8=>so (loopN (KH fu pd x2 x4 x6 x8) (pd.aCe.length-0) 0 x8.aCc) fun v11=>bd (j8 fu pd) fun x21=>bd (EY fu x21 (aB.mk x8.aCf v11)) fun x23=>some x23
theorem KI(fu:Nat)(pd:aN)(r:aB)(H:t0 fu pd=some r):bQ Tryz.prog 223 [(aN.pv pd)] ((aB.pv r)):=by
 refine qJ func223 H (fun C hC H=>?_)
 refine gQ 2 ?_;refine q1 (fD (jH pd)) ?_;refine gQ 3 ?_;refine bK H fun x2 z1 H=>(bK H fun x4 z3 H=>(bK H fun x6 z5 H=>(bK H fun x8 z7 H=>(dWa (dI [] (bE func239 (b4 fu RR _ z1)) (dI [1] bW (dBz [6] 0 0 uP (dI [7] (bE func239 (b4 fu pd.aB9 _ z3)) (dI [1] bW (dBz [9] 0 0 uP (dI [10] (bE func240 (m6 fu pd.aCm _ z5)) (dI [5,8,11] (hH ([x2,x4,x6]:List aB)) ?_))))))))))))
 refine dEz [12] (fun _ z=>by cases z<;>exact bB.callOwn (pre:=⟨[],[]⟩) (B:= []) (R:=fun k=> .agg [pS x8.aCf,eF x8.aCc k]) (ps:= [_]) (qs:= [bG ([x2,x4,x6]:List aB)]) [] rfl rfl func238 (by kernel_rfl) rfl rfl rfl (eV.of trivial trivial (by decide) (by decide)) rfl jK rfl rfl rfl (fun k k'=>(.agg (.cons (.free _ rfl) (.cons Mv.acc E8.nil)))) (nH fu ([x2,x4,x6]:List aB) _ z7)) ?_;refine dA (fun _ st h=>vAl h aa7.h) (dZ 3 [3,13] kG (dN ?_))
 refine gQ 5 ?_;refine cV.fact (cI 0 2 rfl rfl rfl (aD.trs_len _)) (fun hl12=>?_)
 refine bS (σ:=(List aB)) (fun i9 v11=>⟨[(1,.ptr 0 0),(2,.ptr 1 0),(3,.ptr 2 0),(4,pN i9)],⟨[some ⟨39,jH pd⟩,some ⟨189,[pS s_,.nil]⟩,some ⟨189,[pS x8.aCf,eF v11 0]⟩],[⟨189,2,aB.trs (v11),false⟩]⟩⟩) (fun v11=>⟨[(1,.ptr 0 0),(2,.ptr 1 0),(3,.ptr 2 0)],⟨[some ⟨39,jH pd⟩,some ⟨189,[pS s_,.nil]⟩,some ⟨189,[pS x8.aCf,eF v11 0]⟩],[⟨189,2,aB.trs (v11),false⟩]⟩⟩) (eM H) ?_ ?_
 ·rintro i9 v11 H
  refine gQ 9 ?_;refine cS H (fun h13 h13l H=>?_) (fun h13 H=>?_)
  ·refine gQ 3 ?_;refine bK H fun x15 z14 H=>(bK H fun x17 z16 H=>(cF H fun z18 H=>(cF H fun z19 H=>(dW (dI [3] bW (dB [21] 0 2 uP (dI [1] bW (dD [23] eE (dI [4] bF (dI [24,25] qQ (dI [26] w7 (dI [27] vQ (dI [28] (bE func239 (b4 fu ((aR pd.aCe i9).aB9) _ z14)) ?_)))))))))))))
   refine dE [29] (qP ([x15]:List aB)) (dI [1] bW (dB [31] 0 1 uP (dI [4] bF (dI [32,33] qQ (dI [34] w7 (dI [35] vQ (dI [36] (bE func241 (O5 fu ((aR pd.aCe i9).aCs) _ z16)) (dE [30,37] (lE z18) (dI [38] r9 (dI [39] (hH ([(aB.mk s_ (([x15]:List aB)++x17))]:List aB)) (dE [22,40] (lE z19) (dI [3] bW (lB [42,41] kG ?_)))))))))))))
   refine dN ?_;exact gE 5
  exact gE 0
 rintro v11 H
 refine qS (bK H fun x21 z20 H=>(bK H fun x23 z22 H=>(dW (dD [1] (bZ [pS pd.aB9,rS pd.aCm,dF pd.aCe]) (dI [43] (bE func230 (zJ fu pd _ z20)) (dD [3] (bZ [pS x8.aCf,eF v11 0]) (dI [44,45] (bE func244 (JR fu x21 (aB.mk x8.aCf v11) _ z22)) (lB [2,46] kG (dN ?_)))))))))
 exact gE 0
def KR(fu:Nat)(px x2 x4:aB)(x6:LB)(x8:List aB):Nat→((List aD))→Option (LR ((List aD)) (aN×Bool)):=fun i9 v11=>bd (dJ fu (aR x8 i9) 0) fun x15=>bd (wW fu (aR x8 i9) 1) fun x17=>bd (JS fu x17) fun x19=>gd ((v11).length+(([(aD.mk x15.aCf x19)]:List aD)).length≤68719476736) (some (.next (v11++([(aD.mk x15.aCf x19)]:List aD))))
def t4(fu:Nat)(px:aB):Option (aN×Bool):=bd (dJ fu px 1) fun x2=>bd (dJ fu px 2) fun x4=>bd (m5 fu x4) fun x6=>bd (wW fu px 3) fun x8=>so (loopN (KR fu px x2 x4 x6 x8) (x8.length-0) 0 ([])) fun v11=>bd (iM fu px) fun x22=>sw (!(x22)) (some ((aN.mk s_ [] []),false)) (sw (decide ((px.aCc.length:Int)=0)) (some ((aN.mk s_ [] []),false)) (bd (t0 fu (aN.mk x2.aCf x6 v11)) fun x26=>bd (fQ fu x26 px) fun x28=>sw (!(x28)) (some ((aN.mk s_ [] []),false)) (some ((aN.mk x2.aCf x6 v11),true))))
theorem KS(fu:Nat)(px:aB)(r:aN×Bool)(H:t4 fu px=some r):bQ Tryz.prog 201 [(aB.pv px)] (.tup [(aN.pv r.1),pB r.2]):=by
 refine qJ func201 H (fun C hC H=>?_)
 refine gQ 2 ?_;refine q1 (fD ([pS px.aCf,bG px.aCc])) ?_;refine gQ 4 ?_;refine bK H fun x2 z1 H=>(bK H fun x4 z3 H=>(bK H fun x6 z5 H=>(dW (dB [1] 0 1 (GO [pS px.aCf,bG px.aCc]) (dI [7] (bE func175 (cY fu px 1 _ z1)) (dI [8] tF1 (dB [1] 0 1 (GO [pS px.aCf,bG px.aCc]) (dI [10] (bE func175 (cY fu px 2 _ z3)) (dI [11] (bE func216 (oQ fu x4 _ z5)) (dI [9,12] r9 (dE [] tAl (lB [4,13] kG (dN ?_)))))))))))))
 refine gQ 2 ?_;refine q1 (bZ [pS px.aCf,bG px.aCc]) (bK H fun x8 z7 H=>(q1 (bE func217 (CZ fu px 3 _ z7)) ?_))
 refine gQ 7 ?_;refine cV.wk (Wk.regBox (k:=2) (j:=2) 46 2 (by decide) rfl rfl) ?_;refine gP 5 (aB.trs_len _) (fun hl12=>?_)
 refine bS (σ:=(List aD)) (fun i9 v11=>⟨[(1,.ptr 0 0),(2,.ptr 1 0),(3,pB false),(4,.ptr 2 0),(5,bG x8),(6,pN i9)],⟨[some ⟨189,[pS px.aCf,bG px.aCc]⟩,some ⟨39,[pS s_,.nil,.nil]⟩,some ⟨39,[pS x2.aCf,rS x6,zR v11 0]⟩],[⟨46,2,aD.trs (v11),false⟩]⟩⟩) (fun v11=>⟨[(1,.ptr 0 0),(2,.ptr 1 0),(3,pB false),(4,.ptr 2 0)],⟨[some ⟨189,[pS px.aCf,bG px.aCc]⟩,some ⟨39,[pS s_,.nil,.nil]⟩,some ⟨39,[pS x2.aCf,rS x6,zR v11 0]⟩],[⟨46,2,aD.trs (v11),false⟩]⟩⟩) (eM H) ?_ ?_
 ·rintro i9 v11 H
  refine gQ 8 ?_;refine cS H (fun h13 h13l H=>?_) (fun h13 H=>?_)
  ·refine gQ 3 ?_;refine bK H fun x15 z14 H=>(bK H fun x17 z16 H=>(bK H fun x19 z18 H=>(cF H fun z20 H=>(dW (dI [4] bW (dD [22] eE (dI [5] bF (dI [6] bF (dI [24,25] qQ (dI [26] (iK (aB.cs (aR x8 i9))) (dI [27] (bE func175 (cY fu (aR x8 i9) 0 _ z14)) (dI [28] tF1 (dI [5] bF ?_)))))))))))))
   refine dI [6] bF (dI [30,31] qQ (dI [32] (iK (aB.cs (aR x8 i9))) (dI [33] (bE func217 (CZ fu (aR x8 i9) 1 _ z16)) (dI [34] (bE func218 (W2 fu x17 _ z18)) (dI [29,35] r9 (dI [36] (hH ([(aD.mk x15.aCf x19)]:List aD)) (dE [23,37] (lE z20) (dI [4] bW (lB [39,38] kG (dN ?_))))))))))
   exact gE 5
  exact gE 0
 rintro v11 H
 refine gQ 2 ?_;refine bK H fun x22 z21 H=>?_
 rcases o3 (!(x22)) with g23|g23
 ·have H:=s9 H g23
  refine dW (dD [1] (bZ [pS px.aCf,bG px.aCc]) (dI [40] (bE func173 (c9 fu px _ z21)) (dI [41] JN (dI [42] bF ?_))))
  iterate 4 refine NF g23 ?_
  refine dI [43] (DU g23) (dI [48] bF ?_)
  iterate 5 refine NF rfl ?_
  refine dI [49] (DU rfl) (dN ?_)
  exact gE 7
 have H:=s8 H g23
 rcases o3 (decide ((px.aCc.length:Int)=0)) with g24|g24
 ·have H:=s9 H g24
  refine dW (dD [1] (bZ [pS px.aCf,bG px.aCc]) (dI [40] (bE func173 (c9 fu px _ z21)) (dI [41] JN (dI [42] bF (dI (hg:=bD g23) [1] bW (dD (hg:=bD g23) [44] eE (dI (hg:=bD g23) [45] XW (dI (hg:=bD g23) [46] rEq (dI [43,47] (FX g23) (dI [48] bF ?_))))))))))
  iterate 5 refine NF g24 ?_
  refine dI [49] (DU g24) (dN ?_)
  exact gE 7
 have H:=s8 H g24
 refine bK H fun x26 z25 H=>(bK H fun x28 z27 H=>(dW (dD [1] (bZ [pS px.aCf,bG px.aCc]) (dI [40] (bE func173 (c9 fu px _ z21)) (dI [41] JN (dI [42] bF (dI (hg:=bD g23) [1] bW (dD (hg:=bD g23) [44] eE (dI (hg:=bD g23) [45] XW (dI (hg:=bD g23) [46] rEq (dI [43,47] (FX g23) (dI [48] bF (dD (hg:=bD g24) [4] (bZ [pS x2.aCf,rS x6,zR v11 0]) ?_)))))))))))))
 refine dI (hg:=bD g24) [50] (bE func223 (KI fu (aN.mk x2.aCf x6 v11) _ z25)) (dD (hg:=bD g24) [1] (bZ [pS px.aCf,bG px.aCc]) (dI (hg:=bD g24) [51,52] (bE func221 (vE fu x26 px _ z27)) (dI (hg:=bD g24) [53] JN (dI [49,54] (FX g24) (dN ?_)))))
 refine bC H (fun h29 H=>gE 6) fun h29 H=>?_;refine gQ 3 ?_;refine q1 (bZ [pS x2.aCf,rS x6,zR v11 0]) ?_;exact gE 3
def ZB(fu:Nat)(px:aB):Nat→((List aG))→Option (LR ((List aG)) ((List aG))):=fun i1 v3=>bd (dJ fu (aR px.aCc i1) 0) fun x7=>bd (dJ fu (aR px.aCc i1) 1) fun x9=>bd (m9 fu x9) fun x11=>gd ((v3).length+(([(aG.mk x7.aCf x11)]:List aG)).length≤68719476736) (some (.next (v3++([(aG.mk x7.aCf x11)]:List aG))))
def AB(fu:Nat)(px:aB):Option ((List aG)):=so (loopN (ZB fu px) (px.aCc.length-0) 0 ([])) fun v3=>some v3
theorem K6(fu:Nat)(px:aB)(r:(List aG))(H:AB fu px=some r):bQ Tryz.prog 224 [(aB.pv px)] (cK r):=by
 refine qJ func224 H (fun C hC H=>?_)
 refine gQ 2 ?_;refine q1 (fD ([pS px.aCf,bG px.aCc])) ?_;refine gQ 4 ?_;refine q1 (qP ([]:List aG)) ?_;refine gQ 7 ?_;refine cV.fact (cI 0 1 rfl rfl rfl (aB.trs_len _)) (fun hl4=>?_)
 refine bS (σ:=(List aG)) (fun i1 v3=>⟨[(1,.ptr 0 0),(2,.nil),(3,abJ v3 0),(4,pN i1)],⟨[some ⟨189,[pS px.aCf,bG px.aCc]⟩],[⟨32,4,aG.trs (v3),false⟩]⟩⟩) (fun v3=>⟨[(2,.nil),(3,abJ v3 0)],⟨[some ⟨189,[pS px.aCf,bG px.aCc]⟩],[⟨32,4,aG.trs (v3),false⟩]⟩⟩) (eM H) ?_ ?_
 ·rintro i1 v3 H
  refine gQ 9 ?_;refine cS H (fun h5 h5l H=>?_) (fun h5 H=>?_)
  ·refine gQ 3 ?_;refine bK H fun x7 z6 H=>(bK H fun x9 z8 H=>(bK H fun x11 z10 H=>(cF H fun z12 H=>(dW (dI [3] bF (dI [1] bW (dD [14] eE (dI [4] bF (dI [15,16] qQ (dI [17] (iK (aB.cs (aR px.aCc i1))) (dI [18] (bE func175 (cY fu (aR px.aCc i1) 0 _ z6)) (dI [19] tF1 (dI [1] bW ?_)))))))))))))
   refine dD [21] eE (dI [4] bF (dI [22,23] qQ (dI [24] (iK (aB.cs (aR px.aCc i1))) (dI [25] (bE func175 (cY fu (aR px.aCc i1) 1 _ z8)) (dI [26] (bE func219 (yJ fu x9 _ z10)) (dI [20,27] r9 (dI [28] (hH ([(aG.mk x7.aCf x11)]:List aG)) (dE [13,29] (lE z12) (dI [30] bF (dN ?_))))))))))
   exact gE 5
  exact gE 0
 rintro v3 H
 exact gE 5
def ac3(fu:Nat)(p1:List aG):Nat→((List aB))→Option (LR ((List aB)) aB):=fun i1 v3=>bd (cB fu ((aR p1 i1).aCg)) fun x7=>bd (m8 fu ((aR p1 i1).aCd)) fun x9=>bd (mK fu ([x7,x9]:List aB)) fun x11=>gd ((v3).length+(([x11]:List aB)).length≤68719476736) (some (.next (v3++([x11]:List aB))))
def C1(fu:Nat)(p1:List aG):Option aB:=so (loopN (ac3 fu p1) (p1.length-0) 0 ([])) fun v3=>some (aB.mk s_ v3)
theorem O6(fu:Nat)(p1:List aG)(r:aB)(H:C1 fu p1=some r):bQ Tryz.prog 245 [cK p1] ((aB.pv r)):=by
 refine qJ func245 H (fun C hC H=>?_)
 refine gQ 15 ?_;refine cV.wk (Wk.regBox (k:=1) (j:=1) 189 2 (by decide) rfl rfl) ?_;refine gP 0 (aG.trs_len _) (fun hl4=>?_)
 refine bS (σ:=(List aB)) (fun i1 v3=>⟨[(0,cK p1),(2,.ptr 0 0),(3,.ptr 1 0),(4,pN i1)],⟨[some ⟨189,[pS s_,.nil]⟩,some ⟨189,[pS s_,eF v3 0]⟩],[⟨189,2,aB.trs (v3),false⟩]⟩⟩) (fun v3=>⟨[(2,.ptr 0 0),(3,.ptr 1 0)],⟨[some ⟨189,[pS s_,.nil]⟩,some ⟨189,[pS s_,eF v3 0]⟩],[⟨189,2,aB.trs (v3),false⟩]⟩⟩) (eM H) ?_ ?_
 ·rintro i1 v3 H
  refine gQ 8 ?_;refine cS H (fun h5 h5l H=>?_) (fun h5 H=>?_)
  ·refine gQ 3 ?_;refine bK H fun x7 z6 H=>(bK H fun x9 z8 H=>(bK H fun x11 z10 H=>(cF H fun z12 H=>(dW (dI [3] bW (dD [12] eE (dI [0] bF (dI [4] bF (dI [14,15] qQ (dI [16] w7 (dI [17] vQ (dI [18] (bE func239 (b4 fu ((aR p1 i1).aCg) _ z6)) (dI [0] bF ?_)))))))))))))
   refine dI [4] bF (dI [20,21] qQ (dI [22] w7 (dI [23] (iK (aA.cs ((aR p1 i1).aCd))) (dI [24] (bE func242 (yI fu ((aR p1 i1).aCd) _ z8)) (dI [19,25] (hH ([x7,x9]:List aB)) (dI [26] (bE func238 (GG (nH fu) ([x7,x9]:List aB) _ z10)) (dI [27] (hH ([x11]:List aB)) (dE [13,28] (lE z12) (dI [3] bW (lB [30,29] kG (dN ?_)))))))))))
   exact gE 5
  exact gE 0
 rintro v3 H
 refine gQ 2 ?_;refine q1 (bZ [pS s_,eF v3 0]) ?_;exact gE 2
def KM(fu:Nat)(p0:aI)(x2:Bool):Option (aB⊕((LB))):=sw (p0.aCB) (gd (([]:LB).length+(([wR]:LB)).length≤68719476736) (some (.inr (([])++([wR]:LB))))) (some (.inr ([])))
def KN(fu:Nat)(p0:aI)(x2:Bool)(v5:LB):Option (aB⊕(ByteArray×(List aB))):=sw (p0.aCD) (bd (m8 fu p0.aCp) fun x12=>bd (mK fu ([x12]:List aB)) fun x14=>some (.inr (x14.aCf,x14.aCc))) (some (.inr (s_,([]))))
def KO(fu:Nat)(p0:aI)(x2:Bool)(v5:LB)(v8:ByteArray)(v9:List aB)(x16 x18 x20 x22 x24 x26 x28:aB):Nat→((List aB))→Option (LR ((List aB)) aB):=fun i29 v31=>lt (aR p0.aCA i29) fun y34=>bd (cB fu y34.aB9) fun x37=>bd (lL fu y34.aCm) fun x39=>bd (m4 fu y34.aCj) fun x41=>bd (mK fu ([x37,x39,x41]:List aB)) fun x43=>gd ((v31).length+(([(aB.mk x43.aCf x43.aCc)]:List aB)).length≤68719476736) (some (.next (v31++([(aB.mk x43.aCf x43.aCc)]:List aB))))
def t3(fu:Nat)(p0:aI):Option aB:=bd (j9 fu p0) fun x2=>sw (!(x2)) (some (aB.mk s_ [])) (so (KM fu p0 x2) fun v5=>so (KN fu p0 x2 v5) fun(v8,v9)=>bd (cB fu RS) fun x16=>bd (cB fu p0.aCg) fun x18=>bd (lL fu p0.aCm) fun x20=>bd (m8 fu p0.aCn) fun x22=>bd (C1 fu p0.aCq) fun x24=>bd (lL fu v5) fun x26=>bd (mK fu ([x16,x18,x20,x22,x24,x26,(aB.mk v8 v9)]:List aB)) fun x28=>so (loopN (KO fu p0 x2 v5 v8 v9 x16 x18 x20 x22 x24 x26 x28) (p0.aCA.length-0) 0 x28.aCc) fun v31=>bd (EY fu true (aB.mk x28.aCf v31)) fun x46=>some x46)
theorem KP(fu:Nat)(p0:aI)(r:aB)(H:t3 fu p0=some r):bQ Tryz.prog 225 [(aI.pv p0)] ((aB.pv r)):=by
 refine qJ func225 H (fun C hC H=>?_)
 refine gQ 2 ?_;refine q1 (fD (c8 p0)) ?_;refine gQ 5 ?_;refine q1 (bZ [pS p0.aCg,rS p0.aCm,pI p0.aCn.aCb,pS p0.aCn.aB9,aT p0.aCn.aCa,cK p0.aCq,pB p0.aCB,pB p0.aCD,pI p0.aCp.aCb,pS p0.aCp.aB9,aT p0.aCp.aCa,mU p0.aCA]) (bK H fun x2 z1 H=>(q1 (bE func231 (zO fu p0 _ z1)) ?_))
 refine gQ 2 ?_;refine bC H (fun h3 H=>gE 5) fun h3 H=>?_;refine gQ 3 ?_;refine q1 (qP ([]:LB)) ?_;refine gQ 3 ?_;refine n3 (σ:=(LB)) (fun v5=>⟨[(1,.ptr 0 0),(2,.ptr 1 0),(3,aS v5 0)],⟨[some ⟨163,c8 p0⟩,some ⟨189,[pS s_,.nil]⟩],[⟨9,1,aY (v5),false⟩]⟩⟩) (eM H) (fun H=>?_) ?_
 ·refine gQ 5 ?_;refine bC H (fun h6 H=>?_) (fun h6 H=>?_)
  ·refine gQ 2 ?_;refine q1 (hH ([wR]:LB)) (cF H fun z7 H=>(q1 (lE z7) ?_))
   exact gE 2
  exact gE 1
 rintro v5 H
 refine gQ 7 ?_;refine cV.wk (Wk.regBox (k:=2) (j:=1) 189 2 (by decide) rfl rfl) ?_;refine n3 (σ:=ByteArray×(List aB)) (fun(v8,v9)=>⟨[(1,.ptr 0 0),(2,.ptr 1 0),(3,aS v5 0),(4,.ptr 2 0)],⟨[some ⟨163,c8 p0⟩,some ⟨189,[pS s_,.nil]⟩,some ⟨189,[pS v8,bG v9]⟩],[⟨9,1,aY (v5),false⟩,⟨189,2,aB.trs ([]),false⟩]⟩⟩) (eM H) (fun H=>?_) ?_
 ·refine gQ 5 ?_;refine bC H (fun h10 H=>?_) (fun h10 H=>?_)
  ·refine gQ 2 ?_;refine q1 (bZ [pI p0.aCp.aCb,pS p0.aCp.aB9,aT p0.aCp.aCa]) (bK H fun x12 z11 H=>(q1 (bE func242 (yI fu p0.aCp _ z11)) (q1 (hH ([x12]:List aB)) (bK H fun x14 z13 H=>(q1 (bB.callOwn (pre:=⟨[],[]⟩) (B:= []) (R:=fun k=> .agg [pS x14.aCf,eF x14.aCc k]) (ps:= [_]) (qs:= [bG ([x12]:List aB)]) [] rfl rfl func238 (by kernel_rfl) rfl rfl rfl (eV.of trivial trivial (by decide) (by decide)) rfl jK rfl rfl rfl (fun k k'=>(.agg (.cons (.free _ rfl) (.cons Mv.acc E8.nil)))) (nH fu ([x12]:List aB) _ z13)) ?_)))))
   exact gE 2
  exact gE 1
 rintro⟨v8,v9⟩ H
 refine qS (bK H fun x16 z15 H=>(bK H fun x18 z17 H=>(bK H fun x20 z19 H=>(bK H fun x22 z21 H=>(bK H fun x24 z23 H=>(bK H fun x26 z25 H=>(bK H fun x28 z27 H=>(dWa (dI [] (bE func239 (b4 fu RS _ z15)) (dI [1] bW (dBz [27] 0 0 uP (dI [28] (bE func239 (b4 fu p0.aCg _ z17)) (dI [1] bW ?_)))))))))))))
 refine dBz [30] 0 0 uP (dI [31] (bE func240 (m6 fu p0.aCm _ z19)) (dI [1] bW (dBz [33] 0 0 (GO [pI p0.aCn.aCb,pS p0.aCn.aB9,aT p0.aCn.aCa]) (dI [34] (bE func242 (yI fu p0.aCn _ z21)) (dI [1] bW (dBz [36] 0 0 uP (dI [37] (bE func245 (O6 fu p0.aCq _ z23)) (dI [3] bF (dI [39] (bE func240 (m6 fu v5 _ z25)) (dBz [4] 0 0 (GO [pS v8,bG v9]) (dI [26,29,32,35,38,40,41] (hH ([x16,x18,x20,x22,x24,x26,(aB.mk v8 v9)]:List aB)) ?_)))))))))))
 refine dEz [42] (fun _ z=>by cases z<;>exact bB.callOwn (pre:=⟨[],[]⟩) (B:= []) (R:=fun k=> .agg [pS x28.aCf,eF x28.aCc k]) (ps:= [_]) (qs:= [bG ([x16,x18,x20,x22,x24,x26,(aB.mk v8 v9)]:List aB)]) [] rfl rfl func238 (by kernel_rfl) rfl rfl rfl (eV.of trivial trivial (by decide) (by decide)) rfl jK rfl rfl rfl (fun k k'=>(.agg (.cons (.free _ rfl) (.cons Mv.acc E8.nil)))) (nH fu ([x16,x18,x20,x22,x24,x26,(aB.mk v8 v9)]:List aB) _ z27)) ?_;refine dA (fun _ st h=>vAl h aa7.h) (dZ 5 [5,43] kG (dN ?_))
 refine gQ 5 ?_;refine cV.fact (cI 0 11 rfl rfl rfl (aQ.trs_len _)) (fun hl32=>?_)
 refine bS (σ:=(List aB)) (fun i29 v31=>⟨[(1,.ptr 0 0),(2,.ptr 1 0),(5,.ptr 3 0),(6,pN i29)],⟨[some ⟨163,c8 p0⟩,some ⟨189,[pS s_,.nil]⟩,some ⟨189,[pS v8,bG v9]⟩,some ⟨189,[pS x28.aCf,eF v31 2]⟩],[⟨9,1,aY (v5),false⟩,⟨189,2,aB.trs ([]),false⟩,⟨189,2,aB.trs (v31),false⟩]⟩⟩) (fun v31=>⟨[(2,.ptr 1 0),(5,.ptr 3 0)],⟨[some ⟨163,c8 p0⟩,some ⟨189,[pS s_,.nil]⟩,some ⟨189,[pS v8,bG v9]⟩,some ⟨189,[pS x28.aCf,eF v31 2]⟩],[⟨9,1,aY (v5),false⟩,⟨189,2,aB.trs ([]),false⟩,⟨189,2,aB.trs (v31),false⟩]⟩⟩) (eM H) ?_ ?_
 ·rintro i29 v31 H
  refine gQ 9 ?_;refine cS H (fun h33 h33l H=>?_) (fun h33 H=>?_)
  ·refine gQ 8 ?_;refine fV H fun y34 h35 H=>(q1 (yK h35 h33l) (q1 (iK (aQ.cs y34)) ?_))
   refine gQ 3 ?_;refine bK H fun x37 z36 H=>(bK H fun x39 z38 H=>(bK H fun x41 z40 H=>(bK H fun x43 z42 H=>(cF H fun z44 H=>(dW (dI [5] bW (dB [56] 0 1 uP (dI [7] bW (dD [58] eE (dI [59] (bE func239 (b4 fu y34.aB9 _ z36)) (dI [7] bW (dD [61] eE (dI [62] (bE func240 (m6 fu y34.aCm _ z38)) ?_)))))))))))))
   refine dI [7] bW (dD [64] (bZ [pI y34.aCj.aCb,pS y34.aCj.aCg,pS y34.aCj.aB9,pI y34.aCj.aCR,pI y34.aCj.aCd.aCb,pS y34.aCj.aCd.aB9,aT y34.aCj.aCd.aCa,iS y34.aCj.aCa,sL y34.aCj.aCu]) (dI [65] (bE func243 (RX fu y34.aCj _ z40)) (dI [60,63,66] (hH ([x37,x39,x41]:List aB)) (dE [67] (bB.callOwn (pre:=⟨[],[]⟩) (B:= []) (R:=fun k=> .agg [pS x43.aCf,eF x43.aCc k]) (ps:= [_]) (qs:= [bG ([x37,x39,x41]:List aB)]) [] rfl rfl func238 (by kernel_rfl) rfl rfl rfl (eV.of trivial trivial (by decide) (by decide)) rfl jK rfl rfl rfl (fun k k'=>(.agg (.cons (.free _ rfl) (.cons Mv.acc E8.nil)))) (nH fu ([x37,x39,x41]:List aB) _ z42)) (dI [68] (hH ([(aB.mk x43.aCf x43.aCc)]:List aB)) (dE [57,69] (lE z44) (dI [5] bW (lB [71,70] kG (dN ?_)))))))))
   exact gE 5
  exact gE 0
 rintro v31 H
 refine gQ 2 ?_;refine q1 (bZ [pS x28.aCf,eF v31 2]) (bK H fun x46 z45 H=>(q1 (bE func244 (JR fu true (aB.mk x28.aCf v31) _ z45)) ?_))
 exact gE 2
def KV(fu:Nat)(p0 x2 x4:aB)(x6:LB)(x8:aB)(x10:aA)(x12:aB)(x14:List aG)(x16 x18:aB):Option ((aI×Bool)⊕((List aA)×Bool×Int×ByteArray)):=sw (decide ((x18.aCc.length:Int)>0)) (gd (0<(x18.aCc).length) (bd (m9 fu (aR x18.aCc 0)) fun x26=>some (.inr (x26.aCa,true,x26.aCb,x26.aB9)))) (some (.inr ([],false,0,s_)))
def KW(fu:Nat)(p0 x2 x4:aB)(x6:LB)(x8:aB)(x10:aA)(x12:aB)(x14:List aG)(x16 x18:aB)(v22:List aA)(v19:Bool)(v20:Int)(v21:ByteArray)(x28:List aB):Nat→((List aQ))→Option (LR ((List aQ)) (aI×Bool)):=fun i29 v31=>bd (dJ fu (aR x28 i29) 0) fun x35=>bd (dJ fu (aR x28 i29) 1) fun x37=>bd (m5 fu x37) fun x39=>bd (dJ fu (aR x28 i29) 2) fun x41=>bd (gZ fu x41) fun x43=>gd ((v31).length+(([(aQ.mk x35.aCf x39 x43)]:List aQ)).length≤68719476736) (some (.next (v31++([(aQ.mk x35.aCf x39 x43)]:List aQ))))
def t6(fu:Nat)(p0:aB):Option (aI×Bool):=bd (dJ fu p0 1) fun x2=>bd (dJ fu p0 2) fun x4=>bd (m5 fu x4) fun x6=>bd (dJ fu p0 3) fun x8=>bd (m9 fu x8) fun x10=>bd (dJ fu p0 4) fun x12=>bd (AB fu x12) fun x14=>bd (dJ fu p0 5) fun x16=>bd (dJ fu p0 6) fun x18=>so (KV fu p0 x2 x4 x6 x8 x10 x12 x14 x16 x18) fun(v22,v19,v20,v21)=>bd (wW fu p0 7) fun x28=>so (loopN (KW fu p0 x2 x4 x6 x8 x10 x12 x14 x16 x18 v22 v19 v20 v21 x28) (x28.length-0) 0 ([])) fun v31=>bd (iM fu p0) fun x46=>sw (!(x46)) (some ((aI.mk s_ [] (aA.mk 0 s_ []) [] false false (aA.mk 0 s_ []) []),false)) (sw (decide ((p0.aCc.length:Int)=0)) (some ((aI.mk s_ [] (aA.mk 0 s_ []) [] false false (aA.mk 0 s_ []) []),false)) (bd (t3 fu (aI.mk x2.aCf x6 x10 x14 (decide ((x16.aCc.length:Int)>0)) v19 (aA.mk v20 v21 v22) v31)) fun x50=>bd (fQ fu x50 p0) fun x52=>sw (!(x52)) (some ((aI.mk s_ [] (aA.mk 0 s_ []) [] false false (aA.mk 0 s_ []) []),false)) (some ((aI.mk x2.aCf x6 x10 x14 (decide ((x16.aCc.length:Int)>0)) v19 (aA.mk v20 v21 v22) v31),true))))
theorem KX(fu:Nat)(p0:aB)(r:aI×Bool)(H:t6 fu p0=some r):bQ Tryz.prog 202 [(aB.pv p0)] (.tup [(aI.pv r.1),pB r.2]):=by
 refine qJ func202 H (fun C hC H=>?_)
 refine gQ 2 ?_;refine q1 (fD ([pS p0.aCf,bG p0.aCc])) ?_;refine gQ 4 ?_;refine bK H fun x2 z1 H=>(bK H fun x4 z3 H=>(bK H fun x6 z5 H=>(bK H fun x8 z7 H=>(bK H fun x10 z9 H=>(bK H fun x12 z11 H=>(bK H fun x14 z13 H=>(bK H fun x16 z15 H=>(dW (dB [1] 0 1 (GO [pS p0.aCf,bG p0.aCc]) (dI [8] (bE func175 (cY fu p0 1 _ z1)) (dI [9] tF1 (dB [1] 0 1 (GO [pS p0.aCf,bG p0.aCc]) (dI [11] (bE func175 (cY fu p0 2 _ z3)) ?_)))))))))))))
 refine dI [12] (bE func216 (oQ fu x4 _ z5)) (dB [1] 0 1 (GO [pS p0.aCf,bG p0.aCc]) (dI [14] (bE func175 (cY fu p0 3 _ z7)) (dI [15] (bE func219 (yJ fu x8 _ z9)) (dB [1] 0 1 (GO [pS p0.aCf,bG p0.aCc]) (dI [17] (bE func175 (cY fu p0 4 _ z11)) (dI [18] (bE func224 (K6 fu x12 _ z13)) (dB [1] 0 1 (GO [pS p0.aCf,bG p0.aCc]) (dI [20] (bE func175 (cY fu p0 5 _ z15)) (dI [21] tF1 (dI [22] XW (dI [23] rGt (dI [10,13,16,19,24] r9 (dE [] tAl ?_)))))))))))))
 refine lB [4,25] kG (dN ?_)
 refine gQ 2 ?_;refine q1 (bZ [pS p0.aCf,bG p0.aCc]) (bK H fun x18 z17 H=>(q1 (bE func175 (cY fu p0 6 _ z17)) ?_))
 refine gQ 4 ?_;refine n3 (σ:=(List aA)×Bool×Int×ByteArray) (fun(v22,v19,v20,v21)=>⟨[(1,.ptr 0 0),(2,.ptr 1 0),(3,pB false),(4,.ptr 2 0)],⟨[some ⟨189,[pS p0.aCf,bG p0.aCc]⟩,some ⟨163,[pS s_,.nil,pI 0,pS s_,.nil,.nil,pB false,pB false,pI 0,pS s_,.nil,.nil]⟩,some ⟨163,[pS x2.aCf,rS x6,pI x10.aCb,pS x10.aB9,aT x10.aCa,cK x14,pB (decide ((x16.aCc.length:Int)>0)),pB v19,pI v20,pS v21,aT v22,.nil]⟩,some ⟨189,[pS x18.aCf,bG x18.aCc]⟩],[]⟩⟩) (eM H) (fun H=>?_) ?_
 ·refine gQ 7 ?_;refine bC H (fun h23 H=>?_) (fun h23 H=>?_)
  ·refine gQ 8 ?_;refine cF H fun z24 H=>(q1 qQ (q1 (iK (aB.cs (aR x18.aCc 0))) (bK H fun x26 z25 H=>(q1 (bE func219 (yJ fu (aR x18.aCc 0) _ z25)) ?_))))
   exact gE 3
  exact gE 1
 rintro⟨v22,v19,v20,v21⟩ H
 refine gQ 2 ?_;refine q1 (bZ [pS p0.aCf,bG p0.aCc]) (bK H fun x28 z27 H=>(q1 (bE func217 (CZ fu p0 7 _ z27)) ?_))
 refine gQ 7 ?_;refine cV.wk (Wk.regBox (k:=2) (j:=11) 242 11 (by decide) rfl rfl) ?_;refine gP 6 (aB.trs_len _) (fun hl32=>?_)
 refine bS (σ:=(List aQ)) (fun i29 v31=>⟨[(1,.ptr 0 0),(2,.ptr 1 0),(3,pB false),(4,.ptr 2 0),(6,bG x28),(7,pN i29)],⟨[some ⟨189,[pS p0.aCf,bG p0.aCc]⟩,some ⟨163,[pS s_,.nil,pI 0,pS s_,.nil,.nil,pB false,pB false,pI 0,pS s_,.nil,.nil]⟩,some ⟨163,[pS x2.aCf,rS x6,pI x10.aCb,pS x10.aB9,aT x10.aCa,cK x14,pB (decide ((x16.aCc.length:Int)>0)),pB v19,pI v20,pS v21,aT v22,T9 v31 0]⟩,some ⟨189,[pS x18.aCf,bG x18.aCc]⟩],[⟨242,11,aQ.trs (v31),false⟩]⟩⟩) (fun v31=>⟨[(1,.ptr 0 0),(2,.ptr 1 0),(3,pB false),(4,.ptr 2 0)],⟨[some ⟨189,[pS p0.aCf,bG p0.aCc]⟩,some ⟨163,[pS s_,.nil,pI 0,pS s_,.nil,.nil,pB false,pB false,pI 0,pS s_,.nil,.nil]⟩,some ⟨163,[pS x2.aCf,rS x6,pI x10.aCb,pS x10.aB9,aT x10.aCa,cK x14,pB (decide ((x16.aCc.length:Int)>0)),pB v19,pI v20,pS v21,aT v22,T9 v31 0]⟩,some ⟨189,[pS x18.aCf,bG x18.aCc]⟩],[⟨242,11,aQ.trs (v31),false⟩]⟩⟩) (eM H) ?_ ?_
 ·rintro i29 v31 H
  refine gQ 8 ?_;refine cS H (fun h33 h33l H=>?_) (fun h33 H=>?_)
  ·refine gQ 3 ?_;refine bK H fun x35 z34 H=>(bK H fun x37 z36 H=>(bK H fun x39 z38 H=>(bK H fun x41 z40 H=>(bK H fun x43 z42 H=>(cF H fun z44 H=>(dW (dI [4] bW (dD [47] eE (dI [6] bF (dI [7] bF (dI [49,50] qQ (dI [51] (iK (aB.cs (aR x28 i29))) (dI [52] (bE func175 (cY fu (aR x28 i29) 0 _ z34)) ?_)))))))))))))
   refine dI [53] tF1 (dI [6] bF (dI [7] bF (dI [55,56] qQ (dI [57] (iK (aB.cs (aR x28 i29))) (dI [58] (bE func175 (cY fu (aR x28 i29) 1 _ z36)) (dI [59] (bE func216 (oQ fu x37 _ z38)) (dI [6] bF (dI [7] bF (dI [61,62] qQ (dI [63] (iK (aB.cs (aR x28 i29))) (dI [64] (bE func175 (cY fu (aR x28 i29) 2 _ z40)) (dI [65] (bE func220 (IN fu x41 _ z42)) (dI [54,60,66] r9 ?_)))))))))))))
   refine dI [67] (hH ([(aQ.mk x35.aCf x39 x43)]:List aQ)) (dE [48,68] (lE z44) (dI [4] bW (lB [70,69] kG (dN ?_))))
   exact gE 5
  exact gE 0
 rintro v31 H
 refine gQ 2 ?_;refine bK H fun x46 z45 H=>?_
 rcases o3 (!(x46)) with g47|g47
 ·have H:=s9 H g47
  refine dW (dD [1] (bZ [pS p0.aCf,bG p0.aCc]) (dI [71] (bE func173 (c9 fu p0 _ z45)) (dI [72] JN (dI [73] bF ?_))))
  iterate 4 refine NF g47 ?_
  refine dI [74] (DU g47) (dI [79] bF ?_)
  iterate 5 refine NF rfl ?_
  refine dI [80] (DU rfl) (dN ?_)
  exact gE 7
 have H:=s8 H g47
 rcases o3 (decide ((p0.aCc.length:Int)=0)) with g48|g48
 ·have H:=s9 H g48
  refine dW (dD [1] (bZ [pS p0.aCf,bG p0.aCc]) (dI [71] (bE func173 (c9 fu p0 _ z45)) (dI [72] JN (dI [73] bF (dI (hg:=bD g47) [1] bW (dD (hg:=bD g47) [75] eE (dI (hg:=bD g47) [76] XW (dI (hg:=bD g47) [77] rEq (dI [74,78] (FX g47) (dI [79] bF ?_))))))))))
  iterate 5 refine NF g48 ?_
  refine dI [80] (DU g48) (dN ?_)
  exact gE 7
 have H:=s8 H g48
 refine bK H fun x50 z49 H=>(bK H fun x52 z51 H=>(dW (dD [1] (bZ [pS p0.aCf,bG p0.aCc]) (dI [71] (bE func173 (c9 fu p0 _ z45)) (dI [72] JN (dI [73] bF (dI (hg:=bD g47) [1] bW (dD (hg:=bD g47) [75] eE (dI (hg:=bD g47) [76] XW (dI (hg:=bD g47) [77] rEq (dI [74,78] (FX g47) (dI [79] bF (dD (hg:=bD g48) [4] (bZ [pS x2.aCf,rS x6,pI x10.aCb,pS x10.aB9,aT x10.aCa,cK x14,pB (decide ((x16.aCc.length:Int)>0)),pB v19,pI v20,pS v21,aT v22,T9 v31 0]) ?_)))))))))))))
 refine dI (hg:=bD g48) [81] (bE func225 (KP fu (aI.mk x2.aCf x6 x10 x14 (decide ((x16.aCc.length:Int)>0)) v19 (aA.mk v20 v21 v22) v31) _ z49)) (dD (hg:=bD g48) [1] (bZ [pS p0.aCf,bG p0.aCc]) (dI (hg:=bD g48) [82,83] (bE func221 (vE fu x50 p0 _ z51)) (dI (hg:=bD g48) [84] JN (dI [80,85] (FX g48) (dN ?_)))))
 refine bC H (fun h53 H=>gE 6) fun h53 H=>?_;refine gQ 3 ?_;refine q1 (bZ [pS x2.aCf,rS x6,pI x10.aCb,pS x10.aB9,aT x10.aCa,cK x14,pB (decide ((x16.aCc.length:Int)>0)),pB v19,pI v20,pS v21,aT v22,T9 v31 0]) ?_;exact gE 3
def KJ(fu:Nat)(pf:aO)(x2:Bool):Nat→((List aB))→Option (LR ((List aB)) aB):=fun i4 v6=>bd (cB fu ((aR pf.aCt i4).aB9)) fun x10=>bd (m8 fu ((aR pf.aCt i4).aCd)) fun x12=>bd (mK fu ([x10,x12]:List aB)) fun x14=>gd ((v6).length+(([x14]:List aB)).length≤68719476736) (some (.next (v6++([x14]:List aB))))
def t2(fu:Nat)(pf:aO):Option aB:=bd (oM fu pf) fun x2=>sw (!(x2)) (some (aB.mk s_ [])) (so (loopN (KJ fu pf x2) (pf.aCt.length-0) 0 ([])) fun v6=>bd (cB fu amT) fun x17=>bd (cB fu pf.aB9) fun x19=>bd (lL fu pf.aCm) fun x21=>bd (C1 fu pf.aCq) fun x23=>bd (m8 fu pf.aCr) fun x25=>bd (m4 fu pf.aCj) fun x27=>bd (mK fu ([x17,x19,x21,x23,(aB.mk s_ v6),x25,x27]:List aB)) fun x29=>bd (EY fu true x29) fun x31=>some x31)
theorem KK(fu:Nat)(pf:aO)(r:aB)(H:t2 fu pf=some r):bQ Tryz.prog 226 [(aO.pv pf)] ((aB.pv r)):=by
 refine qJ func226 H (fun C hC H=>?_)
 refine gQ 2 ?_;refine q1 (fD (AK pf)) ?_;refine gQ 5 ?_;refine q1 (bZ [pS pf.aB9,rS pf.aCm,cK pf.aCq,V5 pf.aCt,pI pf.aCr.aCb,pS pf.aCr.aB9,aT pf.aCr.aCa,pI pf.aCj.aCb,pS pf.aCj.aCg,pS pf.aCj.aB9,pI pf.aCj.aCR,pI pf.aCj.aCd.aCb,pS pf.aCj.aCd.aB9,aT pf.aCj.aCd.aCa,iS pf.aCj.aCa,sL pf.aCj.aCu]) (bK H fun x2 z1 H=>(q1 (bE func232 (zK fu pf _ z1)) ?_))
 refine gQ 2 ?_;refine bC H (fun h3 H=>gE 5) fun h3 H=>?_;refine gQ 12 ?_;refine cV.wk (Wk.regBox (k:=2) (j:=1) 189 2 (by decide) rfl rfl) ?_;refine cV.fact (cI 0 3 rfl rfl rfl (aV.trs_len _)) (fun hl7=>?_)
 refine bS (σ:=(List aB)) (fun i4 v6=>⟨[(1,.ptr 0 0),(2,.ptr 1 0),(3,.ptr 2 0),(4,pN i4)],⟨[some ⟨213,AK pf⟩,some ⟨189,[pS s_,.nil]⟩,some ⟨189,[pS s_,eF v6 0]⟩],[⟨189,2,aB.trs (v6),false⟩]⟩⟩) (fun v6=>⟨[(1,.ptr 0 0),(2,.ptr 1 0),(3,.ptr 2 0)],⟨[some ⟨213,AK pf⟩,some ⟨189,[pS s_,.nil]⟩,some ⟨189,[pS s_,eF v6 0]⟩],[⟨189,2,aB.trs (v6),false⟩]⟩⟩) (eM H) ?_ ?_
 ·rintro i4 v6 H
  refine gQ 9 ?_;refine cS H (fun h8 h8l H=>?_) (fun h8 H=>?_)
  ·refine gQ 3 ?_;refine bK H fun x10 z9 H=>(bK H fun x12 z11 H=>(bK H fun x14 z13 H=>(cF H fun z15 H=>(dW (dI [3] bW (dD [17] eE (dI [1] bW (dD [19] eE (dI [4] bF (dI [20,21] qQ (dI [22] w7 (dI [23] vQ (dI [24] (bE func239 (b4 fu ((aR pf.aCt i4).aB9) _ z9)) ?_)))))))))))))
   refine dI [1] bW (dD [26] eE (dI [4] bF (dI [27,28] qQ (dI [29] w7 (dI [30] (iK (aA.cs ((aR pf.aCt i4).aCd))) (dI [31] (bE func242 (yI fu ((aR pf.aCt i4).aCd) _ z11)) (dI [25,32] (hH ([x10,x12]:List aB)) (dI [33] (bE func238 (GG (nH fu) ([x10,x12]:List aB) _ z13)) (dI [34] (hH ([x14]:List aB)) (dE [18,35] (lE z15) (dI [3] bW (lB [37,36] kG (dN ?_)))))))))))))
   exact gE 5
  exact gE 0
 rintro v6 H
 refine qS (bK H fun x17 z16 H=>(bK H fun x19 z18 H=>(bK H fun x21 z20 H=>(bK H fun x23 z22 H=>(bK H fun x25 z24 H=>(bK H fun x27 z26 H=>(bK H fun x29 z28 H=>(bK H fun x31 z30 H=>(dW (dI [] (bE func239 (b4 fu amT _ z16)) (dI [1] bW (dD [39] eE (dI [40] (bE func239 (b4 fu pf.aB9 _ z18)) ?_)))))))))))))
 refine dI [1] bW (dD [42] eE (dI [43] (bE func240 (m6 fu pf.aCm _ z20)) (dI [1] bW (dD [45] eE (dI [46] (bE func245 (O6 fu pf.aCq _ z22)) (dD [3] (bZ [pS s_,eF v6 0]) (dI [1] bW (dD [49] (bZ [pI pf.aCr.aCb,pS pf.aCr.aB9,aT pf.aCr.aCa]) (dI [50] (bE func242 (yI fu pf.aCr _ z24)) (dI [1] bW (dD [52] (bZ [pI pf.aCj.aCb,pS pf.aCj.aCg,pS pf.aCj.aB9,pI pf.aCj.aCR,pI pf.aCj.aCd.aCb,pS pf.aCj.aCd.aB9,aT pf.aCj.aCd.aCa,iS pf.aCj.aCa,sL pf.aCj.aCu]) (dI [53] (bE func243 (RX fu pf.aCj _ z26)) (dI [38,41,44,47,48,51,54] (hH ([x17,x19,x21,x23,(aB.mk s_ v6),x25,x27]:List aB)) ?_)))))))))))))
 refine dI [55] (bE func238 (GG (nH fu) ([x17,x19,x21,x23,(aB.mk s_ v6),x25,x27]:List aB) _ z28)) (dI [56] (bE func244 (JR fu true x29 _ z30)) (lB [2,57] kG (dN ?_)))
 exact gE 0
def KT(fu:Nat)(p0 x2 x4:aB)(x6:LB)(x8:aB)(x10:List aG)(x12:aB)(x14:aA)(x16:aB)(x18:aL)(x20:aB):Nat→((List aV))→Option (LR ((List aV)) (aO×Bool)):=fun i21 v23=>bd (dJ fu (aR x20.aCc i21) 0) fun x27=>bd (dJ fu (aR x20.aCc i21) 1) fun x29=>bd (m9 fu x29) fun x31=>gd ((v23).length+(([(aV.mk x27.aCf x31)]:List aV)).length≤68719476736) (some (.next (v23++([(aV.mk x27.aCf x31)]:List aV))))
def t5(fu:Nat)(p0:aB):Option (aO×Bool):=bd (dJ fu p0 1) fun x2=>bd (dJ fu p0 2) fun x4=>bd (m5 fu x4) fun x6=>bd (dJ fu p0 3) fun x8=>bd (AB fu x8) fun x10=>bd (dJ fu p0 5) fun x12=>bd (m9 fu x12) fun x14=>bd (dJ fu p0 6) fun x16=>bd (gZ fu x16) fun x18=>bd (dJ fu p0 4) fun x20=>so (loopN (KT fu p0 x2 x4 x6 x8 x10 x12 x14 x16 x18 x20) (x20.aCc.length-0) 0 ([])) fun v23=>bd (iM fu p0) fun x34=>sw (!(x34)) (some ((aO.mk s_ [] [] [] (aA.mk 0 s_ []) (aL.mk 0 s_ s_ 0 (aA.mk 0 s_ []) [] [])),false)) (sw (decide ((p0.aCc.length:Int)=0)) (some ((aO.mk s_ [] [] [] (aA.mk 0 s_ []) (aL.mk 0 s_ s_ 0 (aA.mk 0 s_ []) [] [])),false)) (bd (t2 fu (aO.mk x2.aCf x6 x10 v23 x14 x18)) fun x38=>bd (fQ fu x38 p0) fun x40=>sw (!(x40)) (some ((aO.mk s_ [] [] [] (aA.mk 0 s_ []) (aL.mk 0 s_ s_ 0 (aA.mk 0 s_ []) [] [])),false)) (some ((aO.mk x2.aCf x6 x10 v23 x14 x18),true))))
theorem KU(fu:Nat)(p0:aB)(r:aO×Bool)(H:t5 fu p0=some r):bQ Tryz.prog 203 [(aB.pv p0)] (.tup [(aO.pv r.1),pB r.2]):=by
 refine qJ func203 H (fun C hC H=>?_)
 refine gQ 2 ?_;refine q1 (fD ([pS p0.aCf,bG p0.aCc])) ?_;refine gQ 4 ?_;refine bK H fun x2 z1 H=>(bK H fun x4 z3 H=>(bK H fun x6 z5 H=>(bK H fun x8 z7 H=>(bK H fun x10 z9 H=>(bK H fun x12 z11 H=>(bK H fun x14 z13 H=>(bK H fun x16 z15 H=>(bK H fun x18 z17 H=>(dW (dB [1] 0 1 (GO [pS p0.aCf,bG p0.aCc]) (dI [7] (bE func175 (cY fu p0 1 _ z1)) (dI [8] tF1 (dB [1] 0 1 (GO [pS p0.aCf,bG p0.aCc]) ?_)))))))))))))
 refine dI [10] (bE func175 (cY fu p0 2 _ z3)) (dI [11] (bE func216 (oQ fu x4 _ z5)) (dB [1] 0 1 (GO [pS p0.aCf,bG p0.aCc]) (dI [13] (bE func175 (cY fu p0 3 _ z7)) (dI [14] (bE func224 (K6 fu x8 _ z9)) (dB [1] 0 1 (GO [pS p0.aCf,bG p0.aCc]) (dI [16] (bE func175 (cY fu p0 5 _ z11)) (dI [17] (bE func219 (yJ fu x12 _ z13)) (dB [1] 0 1 (GO [pS p0.aCf,bG p0.aCc]) (dI [19] (bE func175 (cY fu p0 6 _ z15)) (dI [20] (bE func220 (IN fu x16 _ z17)) (dI [9,12,15,18,21] r9 (dE [] tAl (lB [4,22] kG ?_)))))))))))))
 refine dN ?_;refine gQ 2 ?_;refine q1 (bZ [pS p0.aCf,bG p0.aCc]) (bK H fun x20 z19 H=>(q1 (bE func175 (cY fu p0 4 _ z19)) ?_))
 refine gQ 8 ?_;refine cV.wk (Wk.regBox (k:=2) (j:=3) 245 4 (by decide) rfl rfl) ?_;refine cV.fact (cI 3 1 rfl rfl rfl (aB.trs_len _)) (fun hl24=>?_)
 refine bS (σ:=(List aV)) (fun i21 v23=>⟨[(1,.ptr 0 0),(2,.ptr 1 0),(3,pB false),(4,.ptr 2 0),(5,.ptr 3 0),(6,pN i21)],⟨[some ⟨189,[pS p0.aCf,bG p0.aCc]⟩,some ⟨213,[pS s_,.nil,.nil,.nil,pI 0,pS s_,.nil,pI 0,pS s_,pS s_,pI 0,pI 0,pS s_,.nil,.nil,.nil]⟩,some ⟨213,[pS x2.aCf,rS x6,cK x10,abK v23 0,pI x14.aCb,pS x14.aB9,aT x14.aCa,pI x18.aCb,pS x18.aCg,pS x18.aB9,pI x18.aCR,pI x18.aCd.aCb,pS x18.aCd.aB9,aT x18.aCd.aCa,iS x18.aCa,sL x18.aCu]⟩,some ⟨189,[pS x20.aCf,bG x20.aCc]⟩],[⟨245,4,aV.trs (v23),false⟩]⟩⟩) (fun v23=>⟨[(1,.ptr 0 0),(2,.ptr 1 0),(3,pB false),(4,.ptr 2 0)],⟨[some ⟨189,[pS p0.aCf,bG p0.aCc]⟩,some ⟨213,[pS s_,.nil,.nil,.nil,pI 0,pS s_,.nil,pI 0,pS s_,pS s_,pI 0,pI 0,pS s_,.nil,.nil,.nil]⟩,some ⟨213,[pS x2.aCf,rS x6,cK x10,abK v23 0,pI x14.aCb,pS x14.aB9,aT x14.aCa,pI x18.aCb,pS x18.aCg,pS x18.aB9,pI x18.aCR,pI x18.aCd.aCb,pS x18.aCd.aB9,aT x18.aCd.aCa,iS x18.aCa,sL x18.aCu]⟩,some ⟨189,[pS x20.aCf,bG x20.aCc]⟩],[⟨245,4,aV.trs (v23),false⟩]⟩⟩) (eM H) ?_ ?_
 ·rintro i21 v23 H
  refine gQ 9 ?_;refine cS H (fun h25 h25l H=>?_) (fun h25 H=>?_)
  ·refine gQ 3 ?_;refine bK H fun x27 z26 H=>(bK H fun x29 z28 H=>(bK H fun x31 z30 H=>(cF H fun z32 H=>(dW (dI [4] bW (dD [32] eE (dI [5] bW (dD [34] eE (dI [6] bF (dI [35,36] qQ (dI [37] (iK (aB.cs (aR x20.aCc i21))) (dI [38] (bE func175 (cY fu (aR x20.aCc i21) 0 _ z26)) (dI [39] tF1 ?_)))))))))))))
   refine dI [5] bW (dD [41] eE (dI [6] bF (dI [42,43] qQ (dI [44] (iK (aB.cs (aR x20.aCc i21))) (dI [45] (bE func175 (cY fu (aR x20.aCc i21) 1 _ z28)) (dI [46] (bE func219 (yJ fu x29 _ z30)) (dI [40,47] r9 (dI [48] (hH ([(aV.mk x27.aCf x31)]:List aV)) (dE [33,49] (lE z32) (dI [4] bW (lB [51,50] kG (dN ?_))))))))))))
   exact gE 5
  exact gE 0
 rintro v23 H
 refine gQ 2 ?_;refine bK H fun x34 z33 H=>?_
 rcases o3 (!(x34)) with g35|g35
 ·have H:=s9 H g35
  refine dW (dD [1] (bZ [pS p0.aCf,bG p0.aCc]) (dI [52] (bE func173 (c9 fu p0 _ z33)) (dI [53] JN (dI [54] bF ?_))))
  iterate 4 refine NF g35 ?_
  refine dI [55] (DU g35) (dI [60] bF ?_)
  iterate 5 refine NF rfl ?_
  refine dI [61] (DU rfl) (dN ?_)
  exact gE 7
 have H:=s8 H g35
 rcases o3 (decide ((p0.aCc.length:Int)=0)) with g36|g36
 ·have H:=s9 H g36
  refine dW (dD [1] (bZ [pS p0.aCf,bG p0.aCc]) (dI [52] (bE func173 (c9 fu p0 _ z33)) (dI [53] JN (dI [54] bF (dI (hg:=bD g35) [1] bW (dD (hg:=bD g35) [56] eE (dI (hg:=bD g35) [57] XW (dI (hg:=bD g35) [58] rEq (dI [55,59] (FX g35) (dI [60] bF ?_))))))))))
  iterate 5 refine NF g36 ?_
  refine dI [61] (DU g36) (dN ?_)
  exact gE 7
 have H:=s8 H g36
 refine bK H fun x38 z37 H=>(bK H fun x40 z39 H=>(dW (dD [1] (bZ [pS p0.aCf,bG p0.aCc]) (dI [52] (bE func173 (c9 fu p0 _ z33)) (dI [53] JN (dI [54] bF (dI (hg:=bD g35) [1] bW (dD (hg:=bD g35) [56] eE (dI (hg:=bD g35) [57] XW (dI (hg:=bD g35) [58] rEq (dI [55,59] (FX g35) (dI [60] bF (dD (hg:=bD g36) [4] (bZ [pS x2.aCf,rS x6,cK x10,abK v23 0,pI x14.aCb,pS x14.aB9,aT x14.aCa,pI x18.aCb,pS x18.aCg,pS x18.aB9,pI x18.aCR,pI x18.aCd.aCb,pS x18.aCd.aB9,aT x18.aCd.aCa,iS x18.aCa,sL x18.aCu]) ?_)))))))))))))
 refine dI (hg:=bD g36) [62] (bE func226 (KK fu (aO.mk x2.aCf x6 x10 v23 x14 x18) _ z37)) (dD (hg:=bD g36) [1] (bZ [pS p0.aCf,bG p0.aCc]) (dI (hg:=bD g36) [63,64] (bE func221 (vE fu x38 p0 _ z39)) (dI (hg:=bD g36) [65] JN (dI [61,66] (FX g36) (dN ?_)))))
 refine bC H (fun h41 H=>gE 6) fun h41 H=>?_;refine gQ 3 ?_;refine q1 (bZ [pS x2.aCf,rS x6,cK x10,abK v23 0,pI x14.aCb,pS x14.aB9,aT x14.aCa,pI x18.aCb,pS x18.aCg,pS x18.aB9,pI x18.aCR,pI x18.aCd.aCb,pS x18.aCd.aB9,aT x18.aCd.aCa,iS x18.aCa,sL x18.aCu]) ?_;exact gE 3
end
end Go.Proofs.YtfcoaagbccmahaaGreat.W

namespace Go.Proofs.YtfcoaagbccmahaaGreat.W
set_option maxRecDepth 100000
set_option maxHeartbeats 40000000
noncomputable section
open Tryz Go.RowKit Go.Proofs
attribute [local irreducible] lt
def ac4(fu:Nat)(ps:ByteArray):Nat→Unit→Option (LR Unit Bool):=fun i1 _=>gd (i1<(ps).size) (sw (!decide ((((FF ps i1).toNat:Int):Int)=32)) (some (.ret false)) (some (.next ())))
def IT(fu:Nat)(ps:ByteArray):Option Bool:=so (loopN (ac4 fu ps) (ps.size-0) 0 ()) fun _=>some true
theorem ac5(fu:Nat)(ps:ByteArray)(r:Bool)(H:IT fu ps=some r):bQ Tryz.prog 97 [pS ps] (pB r):=by
 refine qJ func97 H (fun C hC H=>?_)
 refine gQ 9 ?_;refine szF 0 (fun hl2=>?_)
 refine bS (σ:=Unit) (fun i1 _=>⟨[(0,pS ps),(2,pB false),(3,pN i1)],⟨[],[]⟩⟩) (fun _=>⟨[(2,pB false)],⟨[],[]⟩⟩) (eM H) ?_ ?_
 ·rintro i1 ⟨⟩ H
  refine gQ 5 ?_;refine q1 (bB.lenS rfl rfl rfl Tryz.underlying9) ?_;refine gQ 2 ?_;refine cS H (fun h3 h3l H=>?_) (fun h3 H=>?_)
  ·have h3n:i1<ps.size:=by have:=of_decide_eq_true h3;omega
   refine gQ 7 ?_;refine cF H fun z4 H=>(q1 (bB.indexS (k:=i1) rfl rfl rfl rfl z4 Tryz.underlying9) ?_)
   refine gQ 2 ?_;refine bC H (fun h5 H=>gE 4) fun h5 H=>?_;exact gE 6
  exact gE 0
 rintro⟨⟩ H
 exact gE 4
def M1(fu:Nat)(p1:ByteArray×(LB)×(List aU)×(List aN)×(List aI)×(List aO))(p2:aB):Option (Bool×(ByteArray×(LB)×(List aU)×(List aN)×(List aI)×(List aO))):=bd (dJ fu p2 0) fun x2=>sw (decide (x2.aCf=JP)) (bd (zA fu p2) fun(x5,x6)=>gd ((p1.2.2.1).length+(([x5]:List aU)).length≤68719476736) (some (x6,(p1.1,p1.2.1,p1.2.2.1++([x5]:List aU),p1.2.2.2.1,p1.2.2.2.2.1,p1.2.2.2.2.2)))) (sw (decide (x2.aCf=RR)) (bd (t4 fu p2) fun(x10,x11)=>gd ((p1.2.2.2.1).length+(([x10]:List aN)).length≤68719476736) (some (x11,(p1.1,p1.2.1,p1.2.2.1,p1.2.2.2.1++([x10]:List aN),p1.2.2.2.2.1,p1.2.2.2.2.2)))) (sw (decide (x2.aCf=RS)) (bd (t6 fu p2) fun(x15,x16)=>gd ((p1.2.2.2.2.1).length+(([x15]:List aI)).length≤68719476736) (some (x16,(p1.1,p1.2.1,p1.2.2.1,p1.2.2.2.1,p1.2.2.2.2.1++([x15]:List aI),p1.2.2.2.2.2)))) (sw (decide (x2.aCf=amT)) (bd (t5 fu p2) fun(x20,x21)=>gd ((p1.2.2.2.2.2).length+(([x20]:List aO)).length≤68719476736) (some (x21,(p1.1,p1.2.1,p1.2.2.1,p1.2.2.2.1,p1.2.2.2.2.1,p1.2.2.2.2.2++([x20]:List aO))))) (some (false,p1)))))
theorem agY(fu:Nat)(p1:ByteArray×(LB)×(List aU)×(List aN)×(List aI)×(List aO))(p2:aB)(r:Bool×(ByteArray×(LB)×(List aU)×(List aN)×(List aI)×(List aO)))(H:M1 fu p1 p2=some r):b6 Tryz.prog 176 [.ptr 0 0,(aB.pv p2)] ⟨[some ⟨141,[pS p1.1,rS p1.2.1,A4 p1.2.2.1 0,nJ p1.2.2.2.1 1,nL p1.2.2.2.2.1 2,nK p1.2.2.2.2.2 3]⟩],[⟨156,5,aU.trs (p1.2.2.1),false⟩,⟨39,3,aN.trs (p1.2.2.2.1),false⟩,⟨163,12,aI.trs (p1.2.2.2.2.1),false⟩,⟨213,16,aO.trs (p1.2.2.2.2.2),false⟩]⟩ (fun q t=>q=(pB r.1)∧t=⟨[some ⟨141,[pS r.2.1,rS r.2.2.1,A4 r.2.2.2.1 0,nJ r.2.2.2.2.1 1,nL r.2.2.2.2.2.1 2,nK r.2.2.2.2.2.2 3]⟩],[⟨156,5,aU.trs (r.2.2.2.1),false⟩,⟨39,3,aN.trs (r.2.2.2.2.1),false⟩,⟨163,12,aI.trs (r.2.2.2.2.2.1),false⟩,⟨213,16,aO.trs (r.2.2.2.2.2.2),false⟩]⟩):=by
 refine qJ func176 H (fun C hC H=>?_)
 refine gQ 2 ?_;refine q1 (fD ([pS p2.aCf,bG p2.aCc])) ?_;refine gQ 5 ?_;refine q1 (bZ [pS p2.aCf,bG p2.aCc]) (bK H fun x2 z1 H=>(q1 (bE func175 (cY fu p2 0 _ z1)) ?_))
 refine gQ 8 ?_;refine bC H (fun h3 H=>?_) (fun h3 H=>?_)
 ·refine gQ 2 ?_;refine q1 (bZ [pS p2.aCf,bG p2.aCc]) (dU H fun x5 x6 z4 H=>(q1 (bE func200 (RJ fu p2 _ z4)) ?_))
  refine gQ 8 ?_;refine cF H fun z7 H=>(dW ?_)
  iterate 2 refine dI [0] bF ?_
  refine dI [24] uQ (dI [25] bW (dD [26] eE (dD [5] (bZ [pS x5.aB9,rS x5.aCi,pB x5.aCG,pB x5.aCp,gF x5.aCv]) (dI [28] (hH ([x5]:List aU)) (dE [27,29] (lE z7) (dI [23] uQ (dI [31] bW (lB [32,30] kG (dN ?_)))))))))
  exact gE 5
 refine gQ 5 ?_;refine bC H (fun h8 H=>?_) (fun h8 H=>?_)
 ·refine gQ 2 ?_;refine q1 (bZ [pS p2.aCf,bG p2.aCc]) (dU H fun x10 x11 z9 H=>(q1 (bE func201 (KS fu p2 _ z9)) ?_))
  refine gQ 8 ?_;refine cF H fun z12 H=>(dW ?_)
  iterate 2 refine dI [0] bF ?_
  refine dI [42] uQ (dI [43] bW (dD [44] eE (dD [7] (bZ [pS x10.aB9,rS x10.aCm,dF x10.aCe]) (dI [46] (hH ([x10]:List aN)) (dE [45,47] (lE z12) (dI [41] uQ (dI [49] bW (lB [50,48] kG (dN ?_)))))))))
  exact gE 5
 refine gQ 5 ?_;refine bC H (fun h13 H=>?_) (fun h13 H=>?_)
 ·refine gQ 2 ?_;refine q1 (bZ [pS p2.aCf,bG p2.aCc]) (dU H fun x15 x16 z14 H=>(q1 (bE func202 (KX fu p2 _ z14)) ?_))
  refine gQ 8 ?_;refine cF H fun z17 H=>(dW ?_)
  iterate 2 refine dI [0] bF ?_
  refine dI [60] uQ (dI [61] bW (dD [62] eE (dD [9] (bZ [pS x15.aCg,rS x15.aCm,pI x15.aCn.aCb,pS x15.aCn.aB9,aT x15.aCn.aCa,cK x15.aCq,pB x15.aCB,pB x15.aCD,pI x15.aCp.aCb,pS x15.aCp.aB9,aT x15.aCp.aCa,mU x15.aCA]) (dI [64] (hH ([x15]:List aI)) (dE [63,65] (lE z17) (dI [59] uQ (dI [67] bW (lB [68,66] kG (dN ?_)))))))))
  exact gE 5
 refine gQ 5 ?_;refine bC H (fun h18 H=>?_) (fun h18 H=>?_)
 ·refine gQ 2 ?_;refine q1 (bZ [pS p2.aCf,bG p2.aCc]) (dU H fun x20 x21 z19 H=>(q1 (bE func203 (KU fu p2 _ z19)) ?_))
  refine gQ 8 ?_;refine cF H fun z22 H=>(dW ?_)
  iterate 2 refine dI [0] bF ?_
  refine dI [78] uQ (dI [79] bW (dD [80] eE (dD [11] (bZ [pS x20.aB9,rS x20.aCm,cK x20.aCq,V5 x20.aCt,pI x20.aCr.aCb,pS x20.aCr.aB9,aT x20.aCr.aCa,pI x20.aCj.aCb,pS x20.aCj.aCg,pS x20.aCj.aB9,pI x20.aCj.aCR,pI x20.aCj.aCd.aCb,pS x20.aCj.aCd.aB9,aT x20.aCj.aCd.aCa,iS x20.aCj.aCa,sL x20.aCj.aCu]) (dI [82] (hH ([x20]:List aO)) (dE [81,83] (lE z22) (dI [77] uQ (dI [85] bW (lB [86,84] kG (dN ?_)))))))))
  exact gE 5
 exact gE 5
def ac6(fu:Nat)(p0:aM):Nat→((LB))→Option (LR ((LB)) ((LB)×(LB)×(LB)×(LB))):=fun i1 v3=>gd ((v3).length+(([((aR p0.aCo i1).aB9)]:LB)).length≤68719476736) (some (.next (v3++([((aR p0.aCo i1).aB9)]:LB))))
def ac8(fu:Nat)(p0:aM)(v3:LB)(i7:Nat)(v10 v11:LB):Nat→((LB))→Option (LR ((LB)) (LR ((LB)×(LB)) ((LB)×(LB)×(LB)×(LB)))):=fun i15 v17=>gd ((v17).length+(([((aR ((aR p0.aCh i7).aCe) i15).aB9)]:LB)).length≤68719476736) (some (.next (v17++([((aR ((aR p0.aCh i7).aCe) i15).aB9)]:LB))))
def ac7(fu:Nat)(p0:aM)(v3:LB):Nat→((LB)×(LB))→Option (LR ((LB)×(LB)) ((LB)×(LB)×(LB)×(LB))):=fun i7 (v10,v11)=>gd ((v10).length+(([((aR p0.aCh i7).aB9)]:LB)).length≤68719476736) (so (loopN (ac8 fu p0 v3 i7 v10 v11) (((aR p0.aCh i7).aCe).length-0) 0 v11) fun v17=>some (.next ((v10++([((aR p0.aCh i7).aB9)]:LB)),v17)))
def ac9(fu:Nat)(p0:aM)(v3 v10 v11:LB):Nat→((LB))→Option (LR ((LB)) ((LB)×(LB)×(LB)×(LB))):=fun i21 v23=>lt (aR p0.aCx i21) fun y26=>gd ((v23).length+(([y26.aB9]:LB)).length≤68719476736) (some (.next (v23++([y26.aB9]:LB))))
def IU(fu:Nat)(p0:aM):Option ((LB)×(LB)×(LB)×(LB)):=so (loopN (ac6 fu p0) (p0.aCo.length-0) 0 ([])) fun v3=>so (loopN (ac7 fu p0 v3) (p0.aCh.length-0) 0 (([]),([]))) fun(v10,v11)=>so (loopN (ac9 fu p0 v3 v10 v11) (p0.aCx.length-0) 0 ([])) fun v23=>some (v3,v10,v11,v23)
theorem adA(fu:Nat)(p0:aM)(r:(LB)×(LB)×(LB)×(LB))(H:IU fu p0=some r):bQ Tryz.prog 204 [(aM.pv p0)] (.tup [rS r.1,rS r.2.1,rS r.2.2.1,rS r.2.2.2]):=by
 refine qJ func204 H (fun C hC H=>?_)
 refine gQ 2 ?_;refine q1 (fD (eZ p0)) ?_;refine gQ 7 ?_;refine q1 (qP ([]:LB)) ?_;refine gQ 4 ?_;refine q1 (qP ([]:LB)) ?_;refine gQ 4 ?_;refine q1 (qP ([]:LB)) ?_;refine gQ 4 ?_;refine q1 (qP ([]:LB)) ?_;refine gQ 7 ?_;refine cV.fact (cI 0 2 rfl rfl rfl (aU.trs_len _)) (fun hl4=>?_)
 refine bS (σ:=(LB)) (fun i1 v3=>⟨[(1,.ptr 0 0),(2,.nil),(3,.nil),(4,.nil),(5,.nil),(6,aS v3 0),(7,aS [] 1),(8,aS [] 2),(9,aS [] 3),(10,pN i1)],⟨[some ⟨141,eZ p0⟩],[⟨9,1,aY (v3),false⟩,⟨9,1,aY ([]),false⟩,⟨9,1,aY ([]),false⟩,⟨9,1,aY ([]),false⟩]⟩⟩) (fun v3=>⟨[(1,.ptr 0 0),(2,.nil),(3,.nil),(4,.nil),(5,.nil),(6,aS v3 0),(7,aS [] 1),(8,aS [] 2),(9,aS [] 3)],⟨[some ⟨141,eZ p0⟩],[⟨9,1,aY (v3),false⟩,⟨9,1,aY ([]),false⟩,⟨9,1,aY ([]),false⟩,⟨9,1,aY ([]),false⟩]⟩⟩) (eM H) ?_ ?_
 ·rintro i1 v3 H
  refine gQ 9 ?_;refine cS H (fun h5 h5l H=>?_) (fun h5 H=>?_)
  ·refine gQ 11 ?_;refine q1 (hH ([((aR p0.aCo i1).aB9)]:LB)) (cF H fun z6 H=>(q1 (lE z6) ?_))
   exact gE 7
  exact gE 0
 rintro v3 H
 refine gQ 5 ?_;refine cV.fact (cI 0 3 rfl rfl rfl (aN.trs_len _)) (fun hl12=>?_)
 refine bS (σ:=(LB)×(LB)) (fun i7 (v10,v11)=>⟨[(1,.ptr 0 0),(2,.nil),(3,.nil),(4,.nil),(5,.nil),(6,aS v3 0),(7,aS v10 1),(8,aS v11 2),(9,aS [] 3),(11,pN i7)],⟨[some ⟨141,eZ p0⟩],[⟨9,1,aY (v3),false⟩,⟨9,1,aY (v10),false⟩,⟨9,1,aY (v11),false⟩,⟨9,1,aY ([]),false⟩]⟩⟩) (fun(v10,v11)=>⟨[(1,.ptr 0 0),(2,.nil),(3,.nil),(4,.nil),(5,.nil),(6,aS v3 0),(7,aS v10 1),(8,aS v11 2),(9,aS [] 3)],⟨[some ⟨141,eZ p0⟩],[⟨9,1,aY (v3),false⟩,⟨9,1,aY (v10),false⟩,⟨9,1,aY (v11),false⟩,⟨9,1,aY ([]),false⟩]⟩⟩) (eM H) ?_ ?_
 ·rintro i7 ⟨v10,v11⟩ H
  refine gQ 9 ?_;refine cS H (fun h13 h13l H=>?_) (fun h13 H=>?_)
  ·refine gQ 12 ?_;refine q1 (hH ([((aR p0.aCh i7).aB9)]:LB)) (cF H fun z14 H=>(q1 (lE z14) ?_))
   refine gQ 6 ?_;refine bS (σ:=(LB)) (fun i15 v17=>⟨[(1,.ptr 0 0),(2,.nil),(3,.nil),(4,.nil),(5,.nil),(6,aS v3 0),(7,aS (v10++([((aR p0.aCh i7).aB9)]:LB)) 1),(8,aS v17 2),(9,aS [] 3),(11,pN i7),(12,pN i15),(34,pN i7),(35,.ptr 0 3),(36,qC p0.aCh),(37,pN p0.aCh.length),(38,pB (decide ((i7:Int)<(p0.aCh.length:Int)))),(41,aS v10 1),(42,.ptr 0 3),(43,qC p0.aCh),(44,pN i7),(45,.eptr (aN.cs (aR p0.aCh i7))),(46,.eptr (aN.cs (aR p0.aCh i7))),(47,pS ((aR p0.aCh i7).aB9)),(48,rS ([((aR p0.aCh i7).aB9)]:LB)),(49,aS (v10++([((aR p0.aCh i7).aB9)]:LB)) 1)],⟨[some ⟨141,eZ p0⟩],[⟨9,1,aY (v3),false⟩,⟨9,1,aY (v10++([((aR p0.aCh i7).aB9)]:LB)),false⟩,⟨9,1,aY (v17),false⟩,⟨9,1,aY ([]),false⟩]⟩⟩) (fun v17=>⟨[(1,.ptr 0 0),(2,.nil),(3,.nil),(4,.nil),(5,.nil),(6,aS v3 0),(7,aS (v10++([((aR p0.aCh i7).aB9)]:LB)) 1),(8,aS v17 2),(9,aS [] 3),(11,pN i7),(34,pN i7),(35,.ptr 0 3),(36,qC p0.aCh),(37,pN p0.aCh.length),(38,pB (decide ((i7:Int)<(p0.aCh.length:Int)))),(41,aS v10 1),(42,.ptr 0 3),(43,qC p0.aCh),(44,pN i7),(45,.eptr (aN.cs (aR p0.aCh i7))),(46,.eptr (aN.cs (aR p0.aCh i7))),(47,pS ((aR p0.aCh i7).aB9)),(48,rS ([((aR p0.aCh i7).aB9)]:LB)),(49,aS (v10++([((aR p0.aCh i7).aB9)]:LB)) 1)],⟨[some ⟨141,eZ p0⟩],[⟨9,1,aY (v3),false⟩,⟨9,1,aY (v10++([((aR p0.aCh i7).aB9)]:LB)),false⟩,⟨9,1,aY (v17),false⟩,⟨9,1,aY ([]),false⟩]⟩⟩) (eM H) ?_ ?_
   ·rintro i15 v17 H
    refine gQ 10 ?_;refine YM 56 (aD.trs_len _) (fun hl18=>?_)
    refine gQ 3 ?_;refine cS H (fun h19 h19l H=>?_) (fun h19 H=>?_)
    ·refine gQ 15 ?_;refine q1 (hH ([((aR ((aR p0.aCh i7).aCe) i15).aB9)]:LB)) (cF H fun z20 H=>(q1 (lE z20) ?_))
     exact gE 7
    exact gE 0
   rintro v17 H
   exact gE 5
  exact gE 0
 rintro⟨v10,v11⟩ H
 refine gQ 5 ?_;refine cV.fact (cI 0 5 rfl rfl rfl (aO.trs_len _)) (fun hl24=>?_)
 refine bS (σ:=(LB)) (fun i21 v23=>⟨[(1,.ptr 0 0),(2,.nil),(3,.nil),(4,.nil),(5,.nil),(6,aS v3 0),(7,aS v10 1),(8,aS v11 2),(9,aS v23 3),(13,pN i21)],⟨[some ⟨141,eZ p0⟩],[⟨9,1,aY (v3),false⟩,⟨9,1,aY (v10),false⟩,⟨9,1,aY (v11),false⟩,⟨9,1,aY (v23),false⟩]⟩⟩) (fun v23=>⟨[(2,.nil),(3,.nil),(4,.nil),(5,.nil),(6,aS v3 0),(7,aS v10 1),(8,aS v11 2),(9,aS v23 3)],⟨[some ⟨141,eZ p0⟩],[⟨9,1,aY (v3),false⟩,⟨9,1,aY (v10),false⟩,⟨9,1,aY (v11),false⟩,⟨9,1,aY (v23),false⟩]⟩⟩) (eM H) ?_ ?_
 ·rintro i21 v23 H
  refine gQ 9 ?_;refine cS H (fun h25 h25l H=>?_) (fun h25 H=>?_)
  ·refine gQ 8 ?_;refine fV H fun y26 h27 H=>(q1 (yK h27 h25l) ?_)
   refine gQ 2 ?_;refine q1 (hH ([y26.aB9]:LB)) (cF H fun z28 H=>(q1 (lE z28) ?_))
   exact gE 7
  exact gE 0
 rintro v23 H
 exact gE 11
def O7(fu:Nat)(pp:aM):Nat→Unit→Option (LR Unit Bool):=fun i1 _=>bd (tR fu (aR pp.aCo i1)) fun x5=>sw (!(x5)) (some (.ret false)) (some (.next ()))
def O8(fu:Nat)(pp:aM):Nat→Unit→Option (LR Unit Bool):=fun i7 _=>bd (j8 fu (aR pp.aCh i7)) fun x11=>sw (!(x11)) (some (.ret false)) (some (.next ()))
def O9(fu:Nat)(pp:aM):Nat→Unit→Option (LR Unit Bool):=fun i13 _=>lt (aR pp.aCk i13) fun y16=>bd (j9 fu y16) fun x19=>sw (!(x19)) (some (.ret false)) (some (.next ()))
def PB(fu:Nat)(pp:aM):Nat→Unit→Option (LR Unit Bool):=fun i21 _=>lt (aR pp.aCx i21) fun y24=>bd (oM fu y24) fun x27=>sw (!(x27)) (some (.ret false)) (some (.next ()))
def yB(fu:Nat)(pp:aM):Option Bool:=so (loopN (O7 fu pp) (pp.aCo.length-0) 0 ()) fun _=>so (loopN (O8 fu pp) (pp.aCh.length-0) 0 ()) fun _=>so (loopN (O9 fu pp) (pp.aCk.length-0) 0 ()) fun _=>so (loopN (PB fu pp) (pp.aCx.length-0) 0 ()) fun _=>some true
theorem adB(fu:Nat)(pp:aM)(r:Bool)(H:yB fu pp=some r):bQ Tryz.prog 208 [(aM.pv pp)] (pB r):=by
 refine qJ func208 H (fun C hC H=>?_)
 refine gQ 2 ?_;refine q1 (fD (eZ pp)) ?_;refine gQ 7 ?_;refine cV.fact (cI 0 2 rfl rfl rfl (aU.trs_len _)) (fun hl2=>?_)
 refine bS (σ:=Unit) (fun i1 _=>⟨[(1,.ptr 0 0),(2,pB false),(3,pN i1)],⟨[some ⟨141,eZ pp⟩],[]⟩⟩) (fun _=>⟨[(1,.ptr 0 0),(2,pB false)],⟨[some ⟨141,eZ pp⟩],[]⟩⟩) (eM H) ?_ ?_
 ·rintro i1 ⟨⟩ H
  refine gQ 9 ?_;refine cS H (fun h3 h3l H=>?_) (fun h3 H=>?_)
  ·refine gQ 9 ?_;refine q1 (iK (aU.cs (aR pp.aCo i1))) (bK H fun x5 z4 H=>(q1 (bE func229 (EV fu (aR pp.aCo i1) _ z4)) ?_))
   refine gQ 2 ?_;refine bC H (fun h6 H=>gE 4) fun h6 H=>?_;exact gE 6
  exact gE 0
 rintro⟨⟩ H
 refine gQ 5 ?_;refine cV.fact (cI 0 3 rfl rfl rfl (aN.trs_len _)) (fun hl8=>?_)
 refine bS (σ:=Unit) (fun i7 _=>⟨[(1,.ptr 0 0),(2,pB false),(4,pN i7)],⟨[some ⟨141,eZ pp⟩],[]⟩⟩) (fun _=>⟨[(1,.ptr 0 0),(2,pB false)],⟨[some ⟨141,eZ pp⟩],[]⟩⟩) (eM H) ?_ ?_
 ·rintro i7 ⟨⟩ H
  refine gQ 9 ?_;refine cS H (fun h9 h9l H=>?_) (fun h9 H=>?_)
  ·refine gQ 9 ?_;refine q1 (iK (aN.cs (aR pp.aCh i7))) (bK H fun x11 z10 H=>(q1 (bE func230 (zJ fu (aR pp.aCh i7) _ z10)) ?_))
   refine gQ 2 ?_;refine bC H (fun h12 H=>gE 4) fun h12 H=>?_;exact gE 6
  exact gE 0
 rintro⟨⟩ H
 refine gQ 5 ?_;refine cV.fact (cI 0 4 rfl rfl rfl (aI.trs_len _)) (fun hl14=>?_)
 refine bS (σ:=Unit) (fun i13 _=>⟨[(1,.ptr 0 0),(2,pB false),(5,pN i13)],⟨[some ⟨141,eZ pp⟩],[]⟩⟩) (fun _=>⟨[(1,.ptr 0 0),(2,pB false)],⟨[some ⟨141,eZ pp⟩],[]⟩⟩) (eM H) ?_ ?_
 ·rintro i13 ⟨⟩ H
  refine gQ 9 ?_;refine cS H (fun h15 h15l H=>?_) (fun h15 H=>?_)
  ·refine gQ 8 ?_;refine fV H fun y16 h17 H=>(q1 (yK h17 h15l) (q1 (iK (aI.cs y16)) (bK H fun x19 z18 H=>(q1 (bE func231 (zO fu y16 _ z18)) ?_))))
   refine gQ 2 ?_;refine bC H (fun h20 H=>gE 4) fun h20 H=>?_;exact gE 6
  exact gE 0
 rintro⟨⟩ H
 refine gQ 5 ?_;refine cV.fact (cI 0 5 rfl rfl rfl (aO.trs_len _)) (fun hl22=>?_)
 refine bS (σ:=Unit) (fun i21 _=>⟨[(1,.ptr 0 0),(2,pB false),(6,pN i21)],⟨[some ⟨141,eZ pp⟩],[]⟩⟩) (fun _=>⟨[(2,pB false)],⟨[some ⟨141,eZ pp⟩],[]⟩⟩) (eM H) ?_ ?_
 ·rintro i21 ⟨⟩ H
  refine gQ 9 ?_;refine cS H (fun h23 h23l H=>?_) (fun h23 H=>?_)
  ·refine gQ 8 ?_;refine fV H fun y24 h25 H=>(q1 (yK h25 h23l) (q1 (iK (aO.cs y24)) (bK H fun x27 z26 H=>(q1 (bE func232 (zK fu y24 _ z26)) ?_))))
   refine gQ 2 ?_;refine bC H (fun h28 H=>gE 4) fun h28 H=>?_;exact gE 6
  exact gE 0
 rintro⟨⟩ H
 exact gE 4
def mY(fu:Nat)(p0:aM):Option Bool:=bd (IU fu p0) fun(x2,x3,x4,x5)=>bd (c7 fu p0.aB9) fun x7=>sw (!(x7)) (some false) (bd (gJ fu p0.aCK 5) fun x10=>sw (!(x10)) (some false) (bd (lD fu p0.aCK p0.aB9) fun x13=>sw x13 (some false) (sw (decide ((aX ((aX ((aX ((p0.aCo.length:Int)+(p0.aCh.length:Int)))+(p0.aCk.length:Int)))+(p0.aCx.length:Int)):Int)>24)) (some false) (bd (kU fu x2) fun x17=>sw x17 (bd (kU fu x3) fun x20=>sw x20 (bd (kU fu x4) fun x23=>sw x23 (bd (kU fu x5) fun x26=>sw x26 (bd (yB fu p0) fun x29=>some x29) (some false)) (some false)) (some false)) (some false)))))
theorem MP(fu:Nat)(p0:aM)(r:Bool)(H:mY fu p0=some r):bQ Tryz.prog 177 [(aM.pv p0)] (pB r):=by
 refine qJ func177 H (fun C hC H=>?_)
 refine gQ 2 ?_;refine q1 (fD (eZ p0)) ?_;refine gQ 4 ?_;refine q1 (bZ [pS p0.aB9,rS p0.aCK,QZ p0.aCo,qC p0.aCh,nS p0.aCk,JM p0.aCx]) (avE H fun x2 x3 x4 x5 z1 H=>(q1 (bE func204 (adA fu p0 _ z1)) ?_))
 refine gQ 15 ?_;refine bK H fun x7 z6 H=>(q1 (bE func205 (eD fu p0.aB9 _ z6)) ?_)
 refine gQ 2 ?_;refine dL 18 H (fun g8 H=>gE 36) fun g8 H=>?_;refine gQ 2 ?_;refine bK H fun x10 z9 H=>(qg g8 (bE func206 (gW fu p0.aCK 5 _ z9)) ?_)
 refine gQ 3 ?_;refine dL 24 H (fun g11 H=>gE 30) fun g11 H=>?_;refine gQ 4 ?_;refine bK H fun x13 z12 H=>(qg g11 (bE func153 (mJ fu p0.aCK p0.aB9 _ z12)) ?_)
 refine gQ 2 ?_;refine dL 31 H (fun g14 H=>gE 23) fun g14 H=>?_;refine gQ 6 ?_;refine qg g14 rAw ?_;refine gQ 3 ?_;refine qg g14 rAw ?_;refine gQ 3 ?_;refine qg g14 rAw ?_;refine gQ 3 ?_;refine bC H (fun h15 H=>gE 4) fun h15 H=>?_;refine gQ 4 ?_;refine bK H fun x17 z16 H=>(q1 (bE func207 (mH fu x2 _ z16)) (q1 bF ?_))
 refine dL 51 H (fun g18 H=>?_) fun g18 H=>?_
 ·refine qg g18 bF (bK H fun x20 z19 H=>(qg g18 (bE func207 (mH fu x3 _ z19)) ?_))
  refine gQ 2 ?_;refine dL 55 H (fun g21 H=>?_) fun g21 H=>?_
  ·refine qg g21 bF (bK H fun x23 z22 H=>(qg g21 (bE func207 (mH fu x4 _ z22)) ?_))
   refine gQ 2 ?_;refine dL 59 H (fun g24 H=>?_) fun g24 H=>?_
   ·refine qg g24 bF (bK H fun x26 z25 H=>(qg g24 (bE func207 (mH fu x5 _ z25)) ?_))
    refine gQ 2 ?_;refine dL 63 H (fun g27 H=>?_) fun g27 H=>?_
    ·refine qg g27 (bZ [pS p0.aB9,rS p0.aCK,QZ p0.aCo,qC p0.aCh,nS p0.aCk,JM p0.aCx]) (bK H fun x29 z28 H=>(qg g27 (bE func208 (adB fu p0 _ z28)) ?_))
     exact gE 3
    exact gE 5
   exact gE 9
  exact gE 13
 exact gE 17
def BM(fu:Nat)(p0 x2:aB)(x4:LB)(x5:Bool)(x7:aB)(x9:Bool):Nat→(ByteArray×(LB)×(List aU)×(List aN)×(List aI)×(List aO))→Option (LR (ByteArray×(LB)×(List aU)×(List aN)×(List aI)×(List aO)) (aM×Bool)):=fun i17 (v18,v19,v24,v25,v26,v27)=>bd (M1 fu (v18,v19,v24,v25,v26,v27) (aR p0.aCc i17)) fun(x31,x32)=>sw (!(x31)) (some (.ret ((aM.mk s_ [] [] [] [] []),false))) (some (.next (x32.1,x32.2.1,x32.2.2.1,x32.2.2.2.1,x32.2.2.2.2.1,x32.2.2.2.2.2)))
def mZ(fu:Nat)(p0:aB):Option (aM×Bool):=bd (dJ fu p0 2) fun x2=>bd (B3 fu x2.aCc) fun(x4,x5)=>bd (dJ fu p0 1) fun x7=>bd (iM fu p0) fun x9=>sw (!(x9)) (some ((aM.mk s_ [] [] [] [] []),false)) (sw (decide ((p0.aCc.length:Int)<3)) (some ((aM.mk s_ [] [] [] [] []),false)) (gd (0<(p0.aCc).length) (sw (!decide ((aR p0.aCc 0).aCf=aaQ)) (some ((aM.mk s_ [] [] [] [] []),false)) (gd (2<(p0.aCc).length) (sw (!decide ((aR p0.aCc 2).aCf=s_)) (some ((aM.mk s_ [] [] [] [] []),false)) (sw (!(x5)) (some ((aM.mk s_ [] [] [] [] []),false)) (so (loopN (BM fu p0 x2 x4 x5 x7 x9) (p0.aCc.length-3) 3 (x7.aCf,x4,([]),([]),([]),([]))) fun(v18,v19,v24,v25,v26,v27)=>bd (mY fu (aM.mk v18 v19 v24 v25 v26 v27)) fun x35=>sw (!(x35)) (some ((aM.mk s_ [] [] [] [] []),false)) (some ((aM.mk v18 v19 v24 v25 v26 v27),true)))))))))
theorem MQ(fu:Nat)(p0:aB)(r:aM×Bool)(H:mZ fu p0=some r):bQ Tryz.prog 146 [(aB.pv p0)] (.tup [(aM.pv r.1),pB r.2]):=by
 refine qJ func146 H (fun C hC H=>?_)
 refine gQ 2 ?_;refine q1 (fD ([pS p0.aCf,bG p0.aCc])) ?_;refine gQ 5 ?_;refine q1 (bZ [pS p0.aCf,bG p0.aCc]) (bK H fun x2 z1 H=>(q1 (bE func175 (cY fu p0 2 _ z1)) (q1 tF1 (dU H fun x4 x5 z3 H=>(q1 (bE func174 (IZ fu x2.aCc _ z3)) ?_)))))
 refine gQ 8 ?_;refine q1 (bZ [pS p0.aCf,bG p0.aCc]) (bK H fun x7 z6 H=>(q1 (bE func175 (cY fu p0 1 _ z6)) ?_))
 refine gQ 9 ?_;refine q1 (bZ [pS p0.aCf,bG p0.aCc]) (bK H fun x9 z8 H=>(q1 (bE func173 (c9 fu p0 _ z8)) ?_))
 refine gQ 2 ?_;refine dL 23 H (fun g10 H=>gE 33) fun g10 H=>?_;refine gQ 6 ?_;refine dL 29 H (fun g11 H=>?_) fun g11 H=>?_
 ·have g11n:p0.aCc.length<3:=by have:=of_decide_eq_true g11;omega
  exact gE 27
 refine gQ 2 ?_;refine cF H fun z12 H=>?_;refine gQ 6 ?_;refine dL 37 H (fun g13 H=>gE 19) fun g13 H=>?_;refine gQ 2 ?_;refine cF H fun z14 H=>?_;refine gQ 6 ?_;refine dL 45 H (fun g15 H=>gE 11) fun g15 H=>?_;refine gQ 4 ?_;refine bC H (fun h16 H=>gE 6) fun h16 H=>?_;refine gQ 6 ?_;refine cV.wk (Wk.regBox (k:=2) (j:=2) 156 5 (by decide) rfl rfl) (cV.wk (Wk.regBox (k:=2) (j:=3) 39 3 (by decide) rfl rfl) (cV.wk (Wk.regBox (k:=2) (j:=4) 163 12 (by decide) rfl rfl) (cV.wk (Wk.regBox (k:=2) (j:=5) 213 16 (by decide) rfl rfl) ?_)))
 refine gP 25 (aB.trs_len _) (fun hl28=>?_)
 refine bS (σ:=ByteArray×(LB)×(List aU)×(List aN)×(List aI)×(List aO)) (fun i17 (v18,v19,v24,v25,v26,v27)=>⟨[(1,.ptr 0 0),(2,.ptr 1 0),(3,pB false),(6,.ptr 2 0),(7,pN i17)],⟨[some ⟨189,[pS p0.aCf,bG p0.aCc]⟩,some ⟨141,[pS s_,.nil,.nil,.nil,.nil,.nil]⟩,some ⟨141,[pS v18,rS v19,A4 v24 0,nJ v25 1,nL v26 2,nK v27 3]⟩],[⟨156,5,aU.trs (v24),false⟩,⟨39,3,aN.trs (v25),false⟩,⟨163,12,aI.trs (v26),false⟩,⟨213,16,aO.trs (v27),false⟩]⟩⟩) (fun(v18,v19,v24,v25,v26,v27)=>⟨[(2,.ptr 1 0),(3,pB false),(6,.ptr 2 0)],⟨[some ⟨189,[pS p0.aCf,bG p0.aCc]⟩,some ⟨141,[pS s_,.nil,.nil,.nil,.nil,.nil]⟩,some ⟨141,[pS v18,rS v19,A4 v24 0,nJ v25 1,nL v26 2,nK v27 3]⟩],[⟨156,5,aU.trs (v24),false⟩,⟨39,3,aN.trs (v25),false⟩,⟨163,12,aI.trs (v26),false⟩,⟨213,16,aO.trs (v27),false⟩]⟩⟩) (eM H) ?_ ?_
 ·rintro i17 ⟨v18,v19,v24,v25,v26,v27⟩ H
  refine gQ 9 ?_;refine cS H (fun h29 h29l H=>?_) (fun h29 H=>?_)
  ·refine gQ 9 ?_;refine q1 (iK (aB.cs (aR p0.aCc i17))) (dU H fun x31 x32 z30 H=>(q1 (eW [2] [0,1,2,3] func176 (agY fu (v18,v19,v24,v25,v26,v27) (aR p0.aCc i17) _ z30)) ?_))
   refine gQ 2 ?_;refine bC H (fun h33 H=>gE 6) fun h33 H=>?_;exact gE 6
  exact gE 0
 rintro⟨v18,v19,v24,v25,v26,v27⟩ H
 refine gQ 3 ?_;refine q1 (bZ [pS v18,rS v19,A4 v24 0,nJ v25 1,nL v26 2,nK v27 3]) (bK H fun x35 z34 H=>(q1 (bE func177 (MP fu (aM.mk v18 v19 v24 v25 v26 v27) _ z34)) ?_))
 refine gQ 2 ?_;refine bC H (fun h36 H=>gE 6) fun h36 H=>?_;refine gQ 3 ?_;refine q1 (bZ [pS v18,rS v19,A4 v24 0,nJ v25 1,nL v26 2,nK v27 3]) ?_;exact gE 3
def tS(fu:Nat)(ps:ByteArray):Option (aM×Bool):=bd (xD fu ps) fun(x2,x3)=>sw (!(x3)) (some ((aM.mk s_ [] [] [] [] []),false)) (bd (mZ fu x2) fun(x6,x7)=>some (x6,x7))
theorem RF(fu:Nat)(ps:ByteArray)(r:aM×Bool)(H:tS fu ps=some r):bQ Tryz.prog 98 [pS ps] (.tup [(aM.pv r.1),pB r.2]):=by
 refine qJ func98 H (fun C hC H=>?_)
 refine gQ 8 ?_;refine dU H fun x2 x3 z1 H=>(q1 (bE func145 (WO fu ps _ z1)) ?_)
 refine gQ 13 ?_;refine bC H (fun h4 H=>gE 6) fun h4 H=>?_;refine gQ 3 ?_;refine q1 (bZ [pS x2.aCf,bG x2.aCc]) (dU H fun x6 x7 z5 H=>(q1 (bE func146 (MQ fu x2 _ z5)) ?_))
 exact gE 5
def TX(m:ByteArray→Option (aF×Int)):Prop:= ∀(ps:ByteArray) (r:aF×Int),m ps=some r→A0 Tryz.prog 46 [pS ps] ⟨[],[]⟩ [] 141 6 (aM.trs (r.1.aB8)) (fun k=> .tup [.agg [tC r.1.aB8 k],pI r.2])
def EW(fu:Nat)(ps:ByteArray)(x2:LB):Nat→((List aM))→Option (LR ((List aM)) (aF×Int)):=fun i3 v5=>bd (IT fu (aR x2 i3)) fun x9=>sw x9 (some (.next v5)) (bd (tS fu (aR x2 i3)) fun(x12,x13)=>sw (!(x13)) (some (.ret ((aF.mk []),(v5.length:Int)))) (sw (decide ((v5.length:Int)=5)) (some (.ret ((aF.mk []),(v5.length:Int)))) (gd ((v5).length+(([x12]:List aM)).length≤68719476736) (some (.next (v5++([x12]:List aM)))))))
def pV(fu:Nat)(ps:ByteArray):Option (aF×Int):=bd (F1 fu ps (10:UInt8)) fun x2=>so (loopN (EW fu ps x2) (x2.length-0) 0 ([])) fun v5=>some ((aF.mk v5),(-1))
theorem RG(fu:Nat):TX (pV fu):=by
 intro ps r H
 unfold A0
 refine qJ func46 H (fun C hC H=>?_)
 refine gQ 14 ?_;refine bK H fun x2 z1 H=>(q1 (bE func96 (Y0 fu ps (10:UInt8) _ z1)) ?_)
 refine gQ 7 ?_;refine cV.wk (Wk.regBox (k:=1) (j:=0) 141 6 (by decide) rfl rfl) ?_;refine gP 5 (bV _) (fun hl6=>?_)
 refine bS (σ:=(List aM)) (fun i3 v5=>⟨[(2,.ptr 0 0),(3,pI 0),(4,.ptr 1 0),(5,rS x2),(6,pN i3)],⟨[some ⟨26,[.nil]⟩,some ⟨26,[tC v5 0]⟩],[⟨141,6,aM.trs (v5),false⟩]⟩⟩) (fun v5=>⟨[(2,.ptr 0 0),(3,pI 0),(4,.ptr 1 0)],⟨[some ⟨26,[.nil]⟩,some ⟨26,[tC v5 0]⟩],[⟨141,6,aM.trs (v5),false⟩]⟩⟩) (eM H) ?_ ?_
 ·rintro i3 v5 H
  refine gQ 8 ?_;refine cS H (fun h7 h7l H=>?_) (fun h7 H=>?_)
  ·refine gQ 10 ?_;refine bK H fun x9 z8 H=>(q1 (bE func97 (ac5 fu (aR x2 i3) _ z8)) (qN ?_))
   refine bC H (fun h10 H=>?_) (fun h10 H=>?_)
   ·refine cV.exit ?_;exact gE 5
   refine gQ 7 ?_;refine dU H fun x12 x13 z11 H=>(q1 (bE func98 (RF fu (aR x2 i3) _ z11)) ?_)
   refine gQ 13 ?_;refine dL 33 H (fun g14 H=>?_) fun g14 H=>?_
   ·refine gQ 8 ?_;refine dW (dI [] r9 (dI [4] bW (dB [40] 0 1 uP (dI [41] XW (lB [2,39] kG (dI [42] bF (dN (cV.wk (Wk.regBox (k:=0) (j:=0) 141 6 (by decide) rfl rfl) (cV.ret ?_)))))))))
    obtain rfl:_=r:=(lkR (vP H):)
    exact qe2 (st':=⟨[],[⟨141,6,aM.trs (v5),false⟩,⟨141,6,aM.trs ([]),false⟩]⟩) ⟨1,rfl,rfl,rfl⟩ (hr:=⟨⟨_,_,_,rfl,rfl,amU.h,rfl,rfl⟩,rfl,trivial⟩)
   refine gQ 6 ?_;refine bC H (fun h15 H=>?_) (fun h15 H=>?_)
   ·refine qS (dW (dI [] r9 (dI [4] bW (dB [40] 0 1 uP (dI [41] XW (lB [2,39] kG (dI [42] bF (dN (cV.wk (Wk.regBox (k:=0) (j:=0) 141 6 (by decide) rfl rfl) (cV.ret ?_))))))))))
    obtain rfl:_=r:=(lkR (vP H):)
    exact qe2 (st':=⟨[],[⟨141,6,aM.trs (v5),false⟩,⟨141,6,aM.trs ([]),false⟩]⟩) ⟨1,rfl,rfl,rfl⟩ (hr:=⟨⟨_,_,_,rfl,rfl,amU.h,rfl,rfl⟩,rfl,trivial⟩)
   refine gQ 4 ?_;refine q1 (bZ [pS x12.aB9,rS x12.aCK,QZ x12.aCo,qC x12.aCh,nS x12.aCk,JM x12.aCx]) (q1 (qP ([x12]:List aM)) (cF H fun z16 H=>(q1 (lE z16) ?_)))
   exact gE 8
  exact gE 0
 rintro v5 H
 refine gQ 2 ?_;refine q1 (bZ [tC v5 0]) ?_;refine gQ 3 ?_;refine cV.ret ?_
 obtain rfl:_=r:=(vP H:)
 exact qe2 (st':=⟨[],[⟨141,6,aM.trs (v5),false⟩]⟩) ⟨0,rfl,rfl,rfl⟩ (hr:=⟨⟨_,_,_,rfl,rfl,amU.h,rfl,rfl⟩,rfl,trivial⟩)
def M0(fu:Nat)(pc:DS):Option (ByteArray×DS):=gd ((cN).size+(cO).size≤1099511627776) (gd ((cN++cO).size+(cU).size≤1099511627776) (gd (((cN++cO)++cU).size+(cZ).size≤1099511627776) (lt (pc.after 2) fun d4=>sw (decide (pc.below 2=0)) (gd ((((cN++cO)++cU)++cZ).size+(jQ).size≤1099511627776) (gd (((((cN++cO)++cU)++cZ)++jQ).size+(eA).size≤1099511627776) (gd ((((((cN++cO)++cU)++cZ)++jQ)++eA).size+(eS).size≤1099511627776) (gd (((((((cN++cO)++cU)++cZ)++jQ)++eA)++eS).size+(fY).size≤1099511627776) (gd ((((((((cN++cO)++cU)++cZ)++jQ)++eA)++eS)++fY).size+(iR).size≤1099511627776) (gd (((((((((cN++cO)++cU)++cZ)++jQ)++eA)++eS)++fY)++iR).size+(lC).size≤1099511627776) (gd ((((((((((cN++cO)++cU)++cZ)++jQ)++eA)++eS)++fY)++iR)++lC).size+(o7).size≤1099511627776) (gd (((((((((((cN++cO)++cU)++cZ)++jQ)++eA)++eS)++fY)++iR)++lC)++o7).size+(B9).size≤1099511627776) (some ((((((((((((cN++cO)++cU)++cZ)++jQ)++eA)++eS)++fY)++iR)++lC)++o7)++B9),d4)))))))))) (gd ((((cN++cO)++cU)++cZ).size+(jR).size≤1099511627776) (gd (((((cN++cO)++cU)++cZ)++jR).size+(eA).size≤1099511627776) (gd ((((((cN++cO)++cU)++cZ)++jR)++eA).size+(eS).size≤1099511627776) (gd (((((((cN++cO)++cU)++cZ)++jR)++eA)++eS).size+(fY).size≤1099511627776) (gd ((((((((cN++cO)++cU)++cZ)++jR)++eA)++eS)++fY).size+(iR).size≤1099511627776) (gd (((((((((cN++cO)++cU)++cZ)++jR)++eA)++eS)++fY)++iR).size+(lC).size≤1099511627776) (gd ((((((((((cN++cO)++cU)++cZ)++jR)++eA)++eS)++fY)++iR)++lC).size+(o7).size≤1099511627776) (gd (((((((((((cN++cO)++cU)++cZ)++jR)++eA)++eS)++fY)++iR)++lC)++o7).size+(B9).size≤1099511627776) (some ((((((((((((cN++cO)++cU)++cZ)++jR)++eA)++eS)++fY)++iR)++lC)++o7)++B9),d4)))))))))))))
theorem agX(fu:Nat)(pc:DS)(r:ByteArray×DS)(H:M0 fu pc=some r):b6 Tryz.prog 188 [.ptr 0 0] ⟨[some ⟨133,dC pc⟩],[]⟩ (fun q t=>q=(pS r.1)∧t=⟨[some ⟨133,dC r.2⟩],[]⟩):=by
 refine qJ func188 H (fun C hC H=>?_)
 refine gQ 11 ?_;refine cF H fun z1 H=>(q1 (bB.addS rfl rfl rfl rfl (Nat.le_trans z1 (by decide))) ?_)
 refine gQ 5 ?_;refine cF H fun z2 H=>(q1 (bB.addS rfl rfl rfl rfl (Nat.le_trans z2 (by decide))) ?_)
 refine gQ 5 ?_;refine cF H fun z3 H=>(q1 (bB.addS rfl rfl rfl rfl (Nat.le_trans z3 (by decide))) ?_)
 refine gQ 6 ?_;refine fV H fun d4 h5 H=>(q1 (eW [0] [] func45 (DT h5 (mT pc 2))) (qN ?_))
 refine bC H (fun h6 H=>?_) (fun h6 H=>?_)
 ·refine gQ 2 ?_;refine cF H fun z7 H=>(q1 (bB.addS rfl rfl rfl rfl (Nat.le_trans z7 (by decide))) ?_)
  refine gQ 5 ?_;refine cF H fun z8 H=>(q1 (bB.addS rfl rfl rfl rfl (Nat.le_trans z8 (by decide))) ?_)
  refine gQ 5 ?_;refine cF H fun z9 H=>(q1 (bB.addS rfl rfl rfl rfl (Nat.le_trans z9 (by decide))) ?_)
  refine gQ 5 ?_;refine cF H fun z10 H=>(q1 (bB.addS rfl rfl rfl rfl (Nat.le_trans z10 (by decide))) ?_)
  refine gQ 5 ?_;refine cF H fun z11 H=>(q1 (bB.addS rfl rfl rfl rfl (Nat.le_trans z11 (by decide))) ?_)
  refine gQ 5 ?_;refine cF H fun z12 H=>(q1 (bB.addS rfl rfl rfl rfl (Nat.le_trans z12 (by decide))) ?_)
  refine gQ 5 ?_;refine cF H fun z13 H=>(q1 (bB.addS rfl rfl rfl rfl (Nat.le_trans z13 (by decide))) ?_)
  refine gQ 5 ?_;refine cF H fun z14 H=>(q1 (bB.addS rfl rfl rfl rfl (Nat.le_trans z14 (by decide))) ?_)
  exact gE 2
 refine gQ 2 ?_;refine cF H fun z15 H=>(q1 (bB.addS rfl rfl rfl rfl (Nat.le_trans z15 (by decide))) ?_)
 refine gQ 5 ?_;refine cF H fun z16 H=>(q1 (bB.addS rfl rfl rfl rfl (Nat.le_trans z16 (by decide))) ?_)
 refine gQ 5 ?_;refine cF H fun z17 H=>(q1 (bB.addS rfl rfl rfl rfl (Nat.le_trans z17 (by decide))) ?_)
 refine gQ 5 ?_;refine cF H fun z18 H=>(q1 (bB.addS rfl rfl rfl rfl (Nat.le_trans z18 (by decide))) ?_)
 refine gQ 5 ?_;refine cF H fun z19 H=>(q1 (bB.addS rfl rfl rfl rfl (Nat.le_trans z19 (by decide))) ?_)
 refine gQ 5 ?_;refine cF H fun z20 H=>(q1 (bB.addS rfl rfl rfl rfl (Nat.le_trans z20 (by decide))) ?_)
 refine gQ 5 ?_;refine cF H fun z21 H=>(q1 (bB.addS rfl rfl rfl rfl (Nat.le_trans z21 (by decide))) ?_)
 refine gQ 5 ?_;refine cF H fun z22 H=>(q1 (bB.addS rfl rfl rfl rfl (Nat.le_trans z22 (by decide))) ?_)
 exact gE 2
def ajI(fu:Nat)(pc:DS):Option ((ByteArray×DS)⊕(ByteArray×DS)):=lt (pc.after 8) fun d3=>sw (decide ((pc.below 8:Int)=0)) (gd ((eR).size+(N2).size≤1099511627776) (some (.inr ((eR++N2),d3)))) (sw (decide ((pc.below 8:Int)=1)) (gd ((eR).size+(N0).size≤1099511627776) (some (.inr ((eR++N0),d3)))) (sw (decide ((pc.below 8:Int)=2)) (gd ((eR).size+(NU).size≤1099511627776) (some (.inr ((eR++NU),d3)))) (sw (decide ((pc.below 8:Int)=3)) (gd ((eR).size+(NW).size≤1099511627776) (some (.inr ((eR++NW),d3)))) (sw (decide ((pc.below 8:Int)=4)) (gd ((eR).size+(NV).size≤1099511627776) (some (.inr ((eR++NV),d3)))) (sw (decide ((pc.below 8:Int)=5)) (gd ((eR).size+(NZ).size≤1099511627776) (some (.inr ((eR++NZ),d3)))) (gd ((eR).size+(NX).size≤1099511627776) (some (.inr ((eR++NX),d3)))))))))
def ajJ(fu:Nat)(pc:DS)(v1:ByteArray)(v2 d19:DS)(y21:ByteArray):Option ((ByteArray×DS)⊕(ByteArray×DS)):=lt (d19.after 2) fun d27=>sw (decide (d19.below 2=0)) (gd ((((v1++o6)++y21)++B9).size+(NY).size≤1099511627776) (some (.inr (((((v1++o6)++y21)++B9)++NY),d27)))) (some (.inr ((((v1++o6)++y21)++B9),d27)))
def ajK(fu:Nat)(pc:DS)(v1:ByteArray)(v2 d19:DS)(y21 v25:ByteArray)(v26:DS):Option ((ByteArray×DS)⊕(ByteArray×DS)):=lt (v26.after 3) fun d33=>sw (decide (v26.below 3=0)) (gd ((v25).size+(N1).size≤1099511627776) (some (.inr ((v25++N1),d33)))) (some (.inr (v25,d33)))
def RZ(fu:Nat)(pc:DS):Option (ByteArray×DS):=so (ajI fu pc) fun(v1,v2)=>gd ((v1).size+(o6).size≤1099511627776) (lt (v2.after ([EA,D9,D7,EB,D6,EE,EF,EC,ED,D5]:LB).length) fun d19=>lt (v2.pick ([EA,D9,D7,EB,D6,EE,EF,EC,ED,D5]:LB)) fun y21=>gd ((v1++o6).size+(y21).size≤1099511627776) (gd (((v1++o6)++y21).size+(B9).size≤1099511627776) (so (ajJ fu pc v1 v2 d19 y21) fun(v25,v26)=>so (ajK fu pc v1 v2 d19 y21 v25 v26) fun(v31,v32)=>lt (v32.after 4) fun d37=>sw (decide (v32.below 4=0)) (gd ((v31).size+(D8).size≤1099511627776) (gd ((v31++D8).size+(B9).size≤1099511627776) (some (((v31++D8)++B9),d37)))) (gd ((v31).size+(B9).size≤1099511627776) (some ((v31++B9),d37))))))
theorem ajL(fu:Nat)(pc:DS)(r:ByteArray×DS)(H:RZ fu pc=some r):b6 Tryz.prog 189 [.ptr 0 0] ⟨[some ⟨133,dC pc⟩],[]⟩ (fun q t=>q=(pS r.1)∧t=⟨[some ⟨133,dC r.2⟩],[]⟩):=by
 refine qJ func189 H (fun C hC H=>?_)
 refine gQ 9 ?_;refine n3 (σ:=ByteArray×DS) (fun(v1,v2)=>⟨[(0,.ptr 0 0),(2,pS s_),(3,pS v1)],⟨[some ⟨133,dC v2⟩],[]⟩⟩) (eM H) (fun H=>?_) ?_
 ·refine gQ 3 ?_;refine fV H fun d3 h4 H=>(q1 (eW [0] [] func73 (DT h4 (eY pc 8))) ?_)
  refine gQ 7 ?_;refine bC H (fun h5 H=>?_) (fun h5 H=>?_)
  ·refine gQ 2 ?_;refine cF H fun z6 H=>(q1 (bB.addS rfl rfl rfl rfl (Nat.le_trans z6 (by decide))) ?_)
   exact gE 2
  refine gQ 5 ?_;refine bC H (fun h7 H=>?_) (fun h7 H=>?_)
  ·refine gQ 2 ?_;refine cF H fun z8 H=>(q1 (bB.addS rfl rfl rfl rfl (Nat.le_trans z8 (by decide))) ?_)
   exact gE 2
  refine gQ 5 ?_;refine bC H (fun h9 H=>?_) (fun h9 H=>?_)
  ·refine gQ 2 ?_;refine cF H fun z10 H=>(q1 (bB.addS rfl rfl rfl rfl (Nat.le_trans z10 (by decide))) ?_)
   exact gE 2
  refine gQ 5 ?_;refine bC H (fun h11 H=>?_) (fun h11 H=>?_)
  ·refine gQ 2 ?_;refine cF H fun z12 H=>(q1 (bB.addS rfl rfl rfl rfl (Nat.le_trans z12 (by decide))) ?_)
   exact gE 2
  refine gQ 5 ?_;refine bC H (fun h13 H=>?_) (fun h13 H=>?_)
  ·refine gQ 2 ?_;refine cF H fun z14 H=>(q1 (bB.addS rfl rfl rfl rfl (Nat.le_trans z14 (by decide))) ?_)
   exact gE 2
  refine gQ 5 ?_;refine bC H (fun h15 H=>?_) (fun h15 H=>?_)
  ·refine gQ 2 ?_;refine cF H fun z16 H=>(q1 (bB.addS rfl rfl rfl rfl (Nat.le_trans z16 (by decide))) ?_)
   exact gE 2
  refine gQ 2 ?_;refine cF H fun z17 H=>(q1 (bB.addS rfl rfl rfl rfl (Nat.le_trans z17 (by decide))) ?_)
  exact gE 2
 rintro⟨v1,v2⟩ H
 refine gQ 3 ?_;refine cF H fun z18 H=>(q1 (bB.addS rfl rfl rfl rfl (Nat.le_trans z18 (by decide))) (q1 bF (q1 (hH ([EA,D9,D7,EB,D6,EE,EF,EC,ED,D5]:LB)) (fV H fun d19 h20 H=>(fV H fun y21 h22 H=>(q1 (eW [0] [] func48 (OM h20 h22 (fZ v2 ([EA,D9,D7,EB,D6,EE,EF,EC,ED,D5]:LB) (by decide)))) (cF H fun z23 H=>(q1 (bB.addS rfl rfl rfl rfl (Nat.le_trans z23 (by decide))) (cF H fun z24 H=>(q1 (bB.addS rfl rfl rfl rfl (Nat.le_trans z24 (by decide))) ?_))))))))))
 refine gQ 3 ?_;refine n3 (σ:=ByteArray×DS) (fun(v25,v26)=>⟨[(0,.ptr 0 0),(2,pS s_),(3,pS v25)],⟨[some ⟨133,dC v26⟩],[]⟩⟩) (eM H) (fun H=>?_) ?_
 ·refine gQ 3 ?_;refine fV H fun d27 h28 H=>(q1 (eW [0] [] func45 (DT h28 (mT d19 2))) (qN ?_))
  refine bC H (fun h29 H=>?_) (fun h29 H=>?_)
  ·refine gQ 2 ?_;refine cF H fun z30 H=>(q1 (bB.addS rfl rfl rfl rfl (Nat.le_trans z30 (by decide))) ?_)
   exact gE 2
  exact gE 1
 rintro⟨v25,v26⟩ H
 refine qS ?_;refine n3 (σ:=ByteArray×DS) (fun(v31,v32)=>⟨[(0,.ptr 0 0),(2,pS s_),(3,pS v31)],⟨[some ⟨133,dC v32⟩],[]⟩⟩) (eM H) (fun H=>?_) ?_
 ·refine gQ 3 ?_;refine fV H fun d33 h34 H=>(q1 (eW [0] [] func45 (DT h34 (mT v26 3))) (qN ?_))
  refine bC H (fun h35 H=>?_) (fun h35 H=>?_)
  ·refine gQ 2 ?_;refine cF H fun z36 H=>(q1 (bB.addS rfl rfl rfl rfl (Nat.le_trans z36 (by decide))) ?_)
   exact gE 2
  exact gE 1
 rintro⟨v31,v32⟩ H
 refine gQ 4 ?_;refine fV H fun d37 h38 H=>(q1 (eW [0] [] func45 (DT h38 (mT v32 4))) (qN ?_))
 refine bC H (fun h39 H=>?_) (fun h39 H=>?_)
 ·refine gQ 2 ?_;refine cF H fun z40 H=>(q1 (bB.addS rfl rfl rfl rfl (Nat.le_trans z40 (by decide))) ?_)
  refine gQ 5 ?_;refine cF H fun z41 H=>(q1 (bB.addS rfl rfl rfl rfl (Nat.le_trans z41 (by decide))) ?_)
  exact gE 2
 refine gQ 4 ?_;refine cF H fun z42 H=>(q1 (bB.addS rfl rfl rfl rfl (Nat.le_trans z42 (by decide))) ?_)
 exact gE 2
def zE(fu:Nat)(pc:DS):Option (ByteArray×DS):=bd (M0 fu pc) fun(x2,x3)=>lt (x3.after 5) fun d4=>sw (decide (x3.below 5=0)) (some (x2,d4)) (gd (x2.size+(anC).size≤1099511627776) (bd (RZ fu d4) fun(x9,x10)=>gd ((x2++anC).size+x9.size≤1099511627776) (some (((x2++anC)++x9),x10))))
theorem R0(fu:Nat)(pc:DS)(r:ByteArray×DS)(H:zE fu pc=some r):b6 Tryz.prog 162 [.ptr 0 0] ⟨[some ⟨133,dC pc⟩],[]⟩ (fun q t=>q=(pS r.1)∧t=⟨[some ⟨133,dC r.2⟩],[]⟩):=by
 refine qJ func162 H (fun C hC H=>?_)
 refine gQ 7 ?_;refine dU H fun x2 x3 z1 H=>(q1 (eW [0] [] func188 (agX fu pc _ z1)) ?_)
 refine gQ 6 ?_;refine fV H fun d4 h5 H=>(q1 (eW [0] [] func45 (DT h5 (mT x3 5))) (qN ?_))
 refine bC H (fun h6 H=>gE 5) fun h6 H=>?_;refine gQ 4 ?_;refine cF H fun z7 H=>(q1 (bB.addS rfl rfl rfl rfl (Nat.le_trans z7 (by decide))) (q1 bF (dU H fun x9 x10 z8 H=>(q1 (eW [0] [] func189 (ajL fu d4 _ z8)) (cF H fun z11 H=>(q1 (bB.addS rfl rfl rfl rfl (Nat.le_trans z11 (by decide))) ?_))))))
 exact gE 2
def ajN(m:DS→Option (aF×DS)):Prop:= ∀(pc:DS) (r:aF×DS),m pc=some r→A0 Tryz.prog 126 [.ptr 0 0] ⟨[some ⟨133,dC pc⟩],[]⟩ [some ⟨133,dC r.2⟩] 141 6 (aM.trs (r.1.aB8)) (fun k=> .agg [tC r.1.aB8 k])
def GA(fu:Nat)(pc:DS):Option (aF×DS):=bd (zE fu pc) fun(x2,x3)=>bd (pV fu x2) fun(x5,x6)=>some ((aF.mk x5.aB8),x3)
theorem agZ(fu:Nat):ajN (GA fu):=by
 intro pc r H
 unfold A0
 refine qJ func126 H (fun C hC H=>?_)
 refine gQ 7 ?_;refine dU H fun x2 x3 z1 H=>(q1 (eW [0] [] func162 (R0 fu pc _ z1)) (dU H fun x5 x6 z4 H=>(q1 (bB.callOwn (pre:=⟨[],[]⟩) (B:= []) (R:=fun k=> .tup [.agg [tC x5.aB8 k],pI x6]) (ps:= [_]) (qs:= [pS x2]) [] rfl rfl func46 (by kernel_rfl) rfl rfl rfl (eV.of trivial trivial (by decide) (by decide)) rfl jK rfl rfl rfl (fun k k'=>(.tup (.cons (.agg (.cons Mv.acc E8.nil)) (.cons (.free _ rfl) E8.nil)))) (RG fu x2 _ z4)) ?_)))
 refine gQ 9 ?_;refine q1 (bZ [tC x5.aB8 0]) ?_;refine gQ 2 ?_;refine cV.ret ?_
 obtain rfl:_=r:=(vP H:)
 exact V4 (st':=⟨[some ⟨133,dC x3⟩],[⟨141,6,aM.trs (x5.aB8),false⟩]⟩) ⟨0,rfl,rfl,rfl⟩ (hr:=⟨⟨_,_,_,rfl,rfl,amU.h,rfl,rfl⟩,trivial⟩)
end
end Go.Proofs.YtfcoaagbccmahaaGreat.W
