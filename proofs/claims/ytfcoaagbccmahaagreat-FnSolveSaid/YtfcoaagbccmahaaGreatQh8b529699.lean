/- Words, rules and walks of several kinds, laid together. No conditions but those that each theorem states. -/
import Derived.Test.YtfcoaagbccmahaaGreatQhc7459d62
set_option linter.unusedSimpArgs false
set_option linter.unusedVariables false
namespace Go.Proofs.YtfcoaagbccmahaaGreat.W
set_option maxRecDepth 100000
set_option maxHeartbeats 40000000
noncomputable section
open Tryz Go.RowKit Go.Proofs
attribute [local irreducible] lt
def dO(fu:Nat)(px:aB)(pi:Int):J aB:=sw (decide (pi≥(px.aD7.length:Int))) (some (aB.mk s_ [])) (gd (0≤pi∧(pi).toNat<(px.aD7).length) (some (aR px.aD7 ((pi).toNat))))
theorem dF(fu:Nat)(px:aB)(pi:Int)(r:aB)(H:dO fu px pi=some r):bS prog 175 [(aB.pv px),pI pi] ((aB.pv r)):=by
 refine qJ func175 H (fun C hC H=>?_)
 refine gQ 2 ?_;refine q1 (fN ([pS px.aEa,bJ px.aD7])) ?_;refine gQ 11 ?_;refine bE H (fun h1 H=>gE 5) fun h1 H=>?_;refine gQ 6 ?_;refine cK H fun z2 H=>(q1 (rIy z2 DL.h) (q1 (iR (aB.cs (aR px.aD7 ((pi).toNat)))) ?_))
 exact gE 2
def lZ(fu:Nat)(px:aB):J ((LB)):=bd (uT fu px.aD7) fun(x2,x3)=>some x2
theorem qB(fu:Nat)(px:aB)(r:(LB))(H:lZ fu px=some r):bS prog 216 [(aB.pv px)] (rS r):=by
 refine qJ func216 H (fun C hC H=>?_)
 refine gQ 2 ?_;refine q1 (fN ([pS px.aEa,bJ px.aD7])) ?_;refine gQ 6 ?_;refine eO H fun x2 x3 z1 H=>(q1 (bI func174 (JY fu px.aD7 _ z1)) ?_)
 exact gE 11
def xQ(fu:Nat)(px:aB)(pi:Int):J ((Z aB)):=bd (sS fu pi (px.aD7.length:Int)) fun x2=>gd ((0:Int)≤x2∧(x2:Int)≤(px.aD7.length:Int)∧(px.aD7.length:Int)≤(px.aD7.length:Int)) (some (List.drop (x2:Int).toNat (List.take (px.aD7.length:Int).toNat px.aD7)))
theorem D4(fu:Nat)(px:aB)(pi:Int)(r:(Z aB))(H:xQ fu px pi=some r):bS prog 217 [(aB.pv px),pI pi] (bJ r):=by
 refine qJ func217 H (fun C hC H=>?_)
 refine gQ 2 ?_;refine q1 (fN ([pS px.aEa,bJ px.aD7])) ?_;refine gQ 3 ?_;refine bM H fun x2 z1 H=>(cK H fun z3 H=>(dW (dI [2] bY (dD [5] eI (dI [1] bG (dI [2] bY (dD [8] eI (dI [9] UH (dI [7,10] (bI func234 (tH fu pi (px.aD7.length:Int) _ z1)) ?_)))))))))
 refine dI [6,11] (bC.congrP (bC.sliceR (es:=aB.trs (px.aD7)) (l:=x2) (k:=(px.aD7.length:Int)) rfl rfl rfl rfl rfl (by rw [aB.trs_len];exact rfl) (by rw [aB.trs_len];exact z3) DL.h) (aB.trs_part _ _ _)) ?_;refine dI [12] bG (dN ?_)
 exact gE 0
def akT(fu:Nat)(p1:Z aB):Nat→((Z aA))→J (LR ((Z aA)) ((Z aA))):=fun i1 v3=>bd (nP fu (aR p1 i1)) fun x7=>gd ((v3).length+(([x7]:Z aA)).length≤68719476736) (some (.next (v3++([x7]:Z aA))))
def KW(fu:Nat)(p1:Z aB):J ((Z aA)):=so (loopN (akT fu p1) (p1.length-0) 0 ([])) fun v3=>some v3
theorem YD(fu:Nat)(p1:Z aB)(r:(Z aA))(H:KW fu p1=some r):bS prog 218 [bJ p1] (aT r):=by
 refine qJ func218 H (fun C hC H=>?_)
 refine gQ 6 ?_;refine q1 (sA ([]:Z aA)) ?_;refine gQ 7 ?_;refine gM 0 (aB.trs_len _) (fun hl4=>?_)
 refine bV (σ:=(Z aA)) (fun i1 v3=>⟨[(0,bJ p1),(2,.nil),(3,iY v3 0),(4,pN i1)],⟨[],[⟨30,3,aA.trs (v3),false⟩]⟩⟩) (fun v3=>⟨[(2,.nil),(3,iY v3 0)],⟨[],[⟨30,3,aA.trs (v3),false⟩]⟩⟩) (eX H) ?_ ?_
 ·rintro i1 v3 H
  refine gQ 8 ?_;refine c5 H (fun h5 h5l H=>?_) (fun h5 H=>?_)
  ·refine gQ 8 ?_;refine q1 (iR (aB.cs (aR p1 i1))) (bM H fun x7 z6 H=>(q1 (bI func219 (zK fu (aR p1 i1) _ z6)) (q1 (iQ ([x7]:Z aA)) (cK H fun z8 H=>(q1 (mA z8) ?_)))))
   exact gE 7
  exact gE 0
 rintro v3 H
 exact gE 5
def l0(fu:Nat)(p1:LB):J aB:=bd (HO fu p1) fun x2=>some (aB.mk s_ x2)
theorem nL(fu:Nat)(p1:LB)(r:aB)(H:l0 fu p1=some r):bS prog 240 [rS p1] ((aB.pv r)):=by
 refine qJ func240 H (fun C hC H=>?_)
 refine gQ 7 ?_;refine bM H fun x2 z1 H=>(q1 (bI func254 (UD fu p1 _ z1)) ?_)
 exact gE 3
def ad6(fu:Nat)(p1:Z aA):Nat→((Z aB))→J (LR ((Z aB)) ((Z aB))):=fun i1 v3=>bd (nO fu (aR p1 i1)) fun x7=>gd ((v3).length+(([x7]:Z aB)).length≤68719476736) (some (.next (v3++([x7]:Z aB))))
def D5(fu:Nat)(p1:Z aA):J ((Z aB)):=so (loopN (ad6 fu p1) (p1.length-0) 0 ([])) fun v3=>some v3
theorem QN(fu:Nat)(p1:Z aA)(r:(Z aB))(H:D5 fu p1=some r):bS prog 241 [aT p1] (bJ r):=by
 refine qJ func241 H (fun C hC H=>?_)
 refine gQ 6 ?_;refine q1 (sA ([]:Z aB)) ?_;refine gQ 7 ?_;refine gM 0 (aA.trs_len _) (fun hl4=>?_)
 refine bV (σ:=(Z aB)) (fun i1 v3=>⟨[(0,aT p1),(2,.nil),(3,eS v3 0),(4,pN i1)],⟨[],[⟨189,2,aB.trs (v3),false⟩]⟩⟩) (fun v3=>⟨[(2,.nil),(3,eS v3 0)],⟨[],[⟨189,2,aB.trs (v3),false⟩]⟩⟩) (eX H) ?_ ?_
 ·rintro i1 v3 H
  refine gQ 8 ?_;refine c5 H (fun h5 h5l H=>?_) (fun h5 H=>?_)
  ·refine gQ 8 ?_;refine q1 (iR (aA.cs (aR p1 i1))) (bM H fun x7 z6 H=>(q1 (bI func242 (zJ fu (aR p1 i1) _ z6)) (q1 (iQ ([x7]:Z aB)) (cK H fun z8 H=>(q1 (mA z8) ?_)))))
   exact gE 7
  exact gE 0
 rintro v3 H
 exact gE 5
def FY(fu:Nat)(p2:Bool)(px:aB):J aB:=sw (!(p2)) (some (aB.mk s_ [])) (bd (iW fu px) fun x3=>sw (!(x3)) (some (aB.mk s_ [])) (some px))
theorem KV(fu:Nat)(p2:Bool)(px:aB)(r:aB)(H:FY fu p2 px=some r):bS prog 244 [pB p2,(aB.pv px)] ((aB.pv r)):=by
 refine qJ func244 H (fun C hC H=>?_)
 refine gQ 2 ?_;refine q1 (fN ([pS px.aEa,bJ px.aD7])) ?_;refine gQ 8 ?_;refine dK 7 H (fun g1 H=>gE 11) fun g1 H=>?_;refine qg g1 (b5 [pS px.aEa,bJ px.aD7]) (bM H fun x3 z2 H=>(qg g1 (bI func173 (dR fu px _ z2)) ?_))
 refine gQ 3 ?_;refine bE H (fun h4 H=>gE 5) fun h4 H=>?_;refine gQ 3 ?_;refine q1 (b5 [pS px.aEa,bJ px.aD7]) ?_;exact gE 2
def SY(fu:Nat)(p0:aU)(x2:Bool):J (aB⊕((LB))):=sw (p0.aEA) (gd (([]:LB).length+(([CW]:LB)).length≤68719476736) (some (.inr (([])++([CW]:LB))))) (some (.inr ([])))
def S0(fu:Nat)(p0:aU)(x2:Bool)(v5:LB):J (aB⊕((LB))):=sw (p0.aEq) (gd ((v5).length+(([jV]:LB)).length≤68719476736) (some (.inr (v5++([jV]:LB))))) (some (.inr v5))
def S1(fu:Nat)(p0:aU)(x2:Bool)(v5 v9:LB)(x13 x15 x17 x19 x21:aB):Nat→((Z aB))→J (LR ((Z aB)) aB):=fun i22 v24=>lt (aR p0.aEp i22) fun y27=>bd (cI fu y27.aD4) fun x30=>bd (D5 fu y27.aEn) fun x32=>bd (nO fu y27.aEl) fun x34=>bd (mX fu ([x30,(aB.mk s_ x32),x34]:Z aB)) fun x36=>sw (y27.aED) (bd (l0 fu y27.aEh) fun x39=>bd (nK fu y27.aEe) fun x41=>gd ((x36.aD7).length+(([x39,x41]:Z aB)).length≤68719476736) (gd ((v24).length+(([(aB.mk x36.aEa (x36.aD7++([x39,x41]:Z aB)))]:Z aB)).length≤68719476736) (some (.next (v24++([(aB.mk x36.aEa (x36.aD7++([x39,x41]:Z aB)))]:Z aB)))))) (gd ((v24).length+(([(aB.mk x36.aEa x36.aD7)]:Z aB)).length≤68719476736) (some (.next (v24++([(aB.mk x36.aEa x36.aD7)]:Z aB)))))
def AC(fu:Nat)(p0:aU):J aB:=bd (t9 fu p0) fun x2=>sw (!(x2)) (some (aB.mk s_ [])) (so (SY fu p0 x2) fun v5=>so (S0 fu p0 x2 v5) fun v9=>bd (cI fu rY) fun x13=>bd (cI fu p0.aD4) fun x15=>bd (l0 fu p0.aEc) fun x17=>bd (l0 fu v9) fun x19=>bd (mX fu ([x13,x15,x17,x19]:Z aB)) fun x21=>so (loopN (S1 fu p0 x2 v5 v9 x13 x15 x17 x19 x21) (p0.aEp.length-0) 0 x21.aD7) fun v24=>bd (FY fu true (aB.mk x21.aEa v24)) fun x46=>some x46)
theorem S2(fu:Nat)(p0:aU)(r:aB)(H:AC fu p0=some r):bS prog 222 [(aU.pv p0)] ((aB.pv r)):=by
 refine qJ func222 H (fun C hC H=>?_)
 refine gQ 2 ?_;refine q1 (fN (tM p0)) ?_;refine gQ 5 ?_;refine q1 (b5 [pS p0.aD4,rS p0.aEc,pB p0.aEA,pB p0.aEq,gS p0.aEp]) (bM H fun x2 z1 H=>(q1 (bI func229 (FV fu p0 _ z1)) ?_))
 refine gQ 2 ?_;refine bE H (fun h3 H=>gE 5) fun h3 H=>?_;refine gQ 3 ?_;refine q1 (sA ([]:LB)) ?_;refine gQ 3 ?_;refine oT (σ:=(LB)) (fun v5=>⟨[(1,.ptr 0 0),(2,.ptr 1 0),(3,aS v5 0)],⟨[some ⟨156,tM p0⟩,some ⟨189,[pS s_,.nil]⟩],[⟨9,1,aY (v5),false⟩]⟩⟩) (eX H) (fun H=>?_) ?_
 ·refine gQ 5 ?_;refine bE H (fun h6 H=>?_) (fun h6 H=>?_)
  ·refine gQ 2 ?_;refine q1 (iQ ([CW]:LB)) (cK H fun z7 H=>(q1 (mA z7) ?_))
   exact gE 2
  exact gE 1
 rintro v5 H
 refine qS ?_;refine oT (σ:=(LB)) (fun v9=>⟨[(1,.ptr 0 0),(2,.ptr 1 0),(3,aS v9 0)],⟨[some ⟨156,tM p0⟩,some ⟨189,[pS s_,.nil]⟩],[⟨9,1,aY (v9),false⟩]⟩⟩) (eX H) (fun H=>?_) ?_
 ·refine gQ 5 ?_;refine bE H (fun h10 H=>?_) (fun h10 H=>?_)
  ·refine gQ 2 ?_;refine q1 (iQ ([jV]:LB)) (cK H fun z11 H=>(q1 (mA z11) ?_))
   exact gE 2
  exact gE 1
 rintro v9 H
 refine qS (bM H fun x13 z12 H=>(bM H fun x15 z14 H=>(bM H fun x17 z16 H=>(bM H fun x19 z18 H=>(bM H fun x21 z20 H=>(dWa (dI [] (bI func239 (b8 fu rY _ z12)) (dI [1] bY (dBz [24] 0 0 vE (dI [25] (bI func239 (b8 fu p0.aD4 _ z14)) (dI [1] bY (dBz [27] 0 0 vE (dI [28] (bI func240 (nL fu p0.aEc _ z16)) ?_)))))))))))))
 refine dI [3] bG (dI [30] (bI func240 (nL fu v9 _ z18)) (dI [23,26,29,31] (iQ ([x13,x15,x17,x19]:Z aB)) ?_))
 refine dEz [32] (fun _ z=>by cases z<;>exact bC.callOwn (pre:=⟨[],[]⟩) (B:= []) (R:=fun k=> .agg [pS x21.aEa,eS x21.aD7 k]) (ps:= [_]) (qs:= [bJ ([x13,x15,x17,x19]:Z aB)]) [] rfl rfl func238 (by kernel_rfl) rfl rfl rfl (fK.of trivial trivial (by decide) (by decide)) rfl kA rfl rfl rfl (fun k k'=>(.agg (.cons (.free _ rfl) (.cons Mv.acc HZ.nil)))) (nX fu ([x13,x15,x17,x19]:Z aB) _ z20)) ?_;refine dA (fun _ st h=>vAl h ab6.h) (dZ 4 [4,33] lT (dN ?_))
 refine gQ 5 ?_;refine c7.fact (cQ 0 4 rfl rfl rfl (aG.trs_len _)) (fun hl25=>?_)
 refine bV (σ:=(Z aB)) (fun i22 v24=>⟨[(1,.ptr 0 0),(2,.ptr 1 0),(4,.ptr 2 0),(5,pN i22)],⟨[some ⟨156,tM p0⟩,some ⟨189,[pS s_,.nil]⟩,some ⟨189,[pS x21.aEa,eS v24 1]⟩],[⟨9,1,aY (v9),false⟩,⟨189,2,aB.trs (v24),false⟩]⟩⟩) (fun v24=>⟨[(2,.ptr 1 0),(4,.ptr 2 0)],⟨[some ⟨156,tM p0⟩,some ⟨189,[pS s_,.nil]⟩,some ⟨189,[pS x21.aEa,eS v24 1]⟩],[⟨9,1,aY (v9),false⟩,⟨189,2,aB.trs (v24),false⟩]⟩⟩) (eX H) ?_ ?_
 ·rintro i22 v24 H
  refine gQ 9 ?_;refine c5 H (fun h26 h26l H=>?_) (fun h26 H=>?_)
  ·refine gQ 8 ?_;refine gI H fun y27 h28 H=>(q1 (zM h28 h26l) (q1 (iR (aG.cs y27)) ?_))
   refine gQ 4 ?_;refine bM H fun x30 z29 H=>(bM H fun x32 z31 H=>(bM H fun x34 z33 H=>(bM H fun x36 z35 H=>(dWa (dI [6] bY (dBz [46] 0 0 vE (dI [47] (bI func239 (b8 fu y27.aD4 _ z29)) (dI [6] bY (dBz [49] 0 0 vE (dI [50] (bI func241 (QN fu y27.aEn _ z31)) (dI [51] rR (dI [6] bY (dBz [53] 0 0 (IM [pI y27.aEl.aD8,pS y27.aEl.aD4,aT y27.aEl.aD5]) ?_)))))))))))))
   refine dI [54] (bI func242 (zJ fu y27.aEl _ z33)) (dI [48,52,55] (iQ ([x30,(aB.mk s_ x32),x34]:Z aB)) ?_)
   refine dEz [56] (fun _ z=>by cases z<;>exact bC.callOwn (pre:=⟨[],[]⟩) (B:= []) (R:=fun k=> .agg [pS x36.aEa,eS x36.aD7 k]) (ps:= [_]) (qs:= [bJ ([x30,(aB.mk s_ x32),x34]:Z aB)]) [] rfl rfl func238 (by kernel_rfl) rfl rfl rfl (fK.of trivial trivial (by decide) (by decide)) rfl kA rfl rfl rfl (fun k k'=>(.agg (.cons (.free _ rfl) (.cons Mv.acc HZ.nil)))) (nX fu ([x30,(aB.mk s_ x32),x34]:Z aB) _ z35)) ?_;refine dA (fun _ st h=>vAl h ab6.h) (dZ 7 [7,57] lT (dN ?_))
   refine gQ 6 ?_;refine bE H (fun h37 H=>?_) (fun h37 H=>?_)
   ·refine bM H fun x39 z38 H=>(bM H fun x41 z40 H=>(cK H fun z42 H=>(dW (dI [7] bY (dD [60] eI (dI [6] bY (dD [62] eI (dI [63] (bI func240 (nL fu y27.aEh _ z38)) (dI [6] bY (dD [65] (b5 [pI y27.aEe.aD8,pS y27.aEe.aEb,pS y27.aEe.aD4,pI y27.aEe.aEM,pI y27.aEe.aD6.aD8,pS y27.aEe.aD6.aD4,aT y27.aEe.aD6.aD5,jF y27.aEe.aD5,tA y27.aEe.aEo]) (dI [66] (bI func243 (S8 fu y27.aEe _ z40)) (dI [64,67] (iQ ([x39,x41]:Z aB)) (dE [61,68] (mA z42) ?_)))))))))))))
    refine dI [7] bY (mK [70,69] lT (dN ?_))
    refine gQ 3 ?_;refine q1 (b5 [pS x36.aEa,eS (x36.aD7++([x39,x41]:Z aB)) 2]) (q1 (iQ ([(aB.mk x36.aEa (x36.aD7++([x39,x41]:Z aB)))]:Z aB)) (cK H fun z43 H=>(q1 (mA z43) ?_)))
    exact gE 8
   refine gQ 4 ?_;refine q1 (b5 [pS x36.aEa,eS x36.aD7 2]) (q1 (iQ ([(aB.mk x36.aEa x36.aD7)]:Z aB)) (cK H fun z44 H=>(q1 (mA z44) ?_)))
   exact gE 8
  exact gE 0
 rintro v24 H
 refine gQ 2 ?_;refine q1 (b5 [pS x21.aEa,eS v24 1]) (bM H fun x46 z45 H=>(q1 (bI func244 (KV fu true (aB.mk x21.aEa v24) _ z45)) ?_))
 exact gE 2
def FW(fu:Nat)(p0 x2:aB)(x4:LB)(x6 x8:aB)(x10:LB)(x12 x14:Bool)(x16:Z aB):Nat→((Z aG))→J (LR ((Z aG)) (aU×Bool)):=fun i17 v19=>bd (dO fu (aR x16 i17) 0) fun x23=>bd (dO fu (aR x16 i17) 1) fun x25=>bd (KW fu x25.aD7) fun x27=>bd (dO fu (aR x16 i17) 2) fun x29=>bd (nP fu x29) fun x31=>sw (decide ((((((aR x16 i17).aD7).length:Nat):Int):Int)>3)) (bd (dO fu (aR x16 i17) 3) fun x34=>bd (lZ fu x34) fun x36=>bd (dO fu (aR x16 i17) 4) fun x38=>bd (iG fu x38) fun x40=>gd ((v19).length+(([(aG.mk x23.aEa x27 x31 true x36 x40)]:Z aG)).length≤68719476736) (some (.next (v19++([(aG.mk x23.aEa x27 x31 true x36 x40)]:Z aG))))) (gd ((v19).length+(([(aG.mk x23.aEa x27 x31 false [] (aL.mk 0 s_ s_ 0 (aA.mk 0 s_ []) [] []))]:Z aG)).length≤68719476736) (some (.next (v19++([(aG.mk x23.aEa x27 x31 false [] (aL.mk 0 s_ s_ 0 (aA.mk 0 s_ []) [] []))]:Z aG)))))
def qY(fu:Nat)(p0:aB):J (aU×Bool):=bd (dO fu p0 3) fun x2=>bd (lZ fu x2) fun x4=>bd (dO fu p0 1) fun x6=>bd (dO fu p0 2) fun x8=>bd (lZ fu x8) fun x10=>bd (lS fu x4 CW) fun x12=>bd (lS fu x4 jV) fun x14=>bd (xQ fu p0 4) fun x16=>so (loopN (FW fu p0 x2 x4 x6 x8 x10 x12 x14 x16) (x16.length-0) 0 ([])) fun v19=>bd (iW fu p0) fun x44=>sw (!(x44)) (some ((aU.mk s_ [] false false []),false)) (sw (decide ((p0.aD7.length:Int)=0)) (some ((aU.mk s_ [] false false []),false)) (bd (AC fu (aU.mk x6.aEa x10 x12 x14 v19)) fun x48=>bd (fY fu x48 p0) fun x50=>sw (!(x50)) (some ((aU.mk s_ [] false false []),false)) (some ((aU.mk x6.aEa x10 x12 x14 v19),true))))
theorem SX(fu:Nat)(p0:aB)(r:aU×Bool)(H:qY fu p0=some r):bS prog 200 [(aB.pv p0)] (.tup [(aU.pv r.1),pB r.2]):=by
 refine qJ func200 H (fun C hC H=>?_)
 refine gQ 2 ?_;refine q1 (fN ([pS p0.aEa,bJ p0.aD7])) ?_;refine gQ 5 ?_;refine q1 (b5 [pS p0.aEa,bJ p0.aD7]) (bM H fun x2 z1 H=>(q1 (bI func175 (dF fu p0 3 _ z1)) (bM H fun x4 z3 H=>(q1 (bI func216 (qB fu x2 _ z3)) ?_))))
 refine gQ 3 ?_;refine bM H fun x6 z5 H=>(bM H fun x8 z7 H=>(bM H fun x10 z9 H=>(bM H fun x12 z11 H=>(bM H fun x14 z13 H=>(dW (dB [1] 0 1 (IM [pS p0.aEa,bJ p0.aD7]) (dI [12] (bI func175 (dF fu p0 1 _ z5)) (dI [13] tF1 (dB [1] 0 1 (IM [pS p0.aEa,bJ p0.aD7]) (dI [15] (bI func175 (dF fu p0 2 _ z7)) (dI [16] (bI func216 (qB fu x8 _ z9)) (dI [4] bG (dI [18] (bI func153 (mW fu x4 CW _ z11)) ?_)))))))))))))
 refine dI [4] bG (dI [20] (bI func153 (mW fu x4 jV _ z13)) (dI [14,17,19,21] rR (dE [] tAl (mK [5,22] lT (dN ?_)))))
 refine gQ 2 ?_;refine q1 (b5 [pS p0.aEa,bJ p0.aD7]) (bM H fun x16 z15 H=>(q1 (bI func217 (D4 fu p0 4 _ z15)) ?_))
 refine gQ 7 ?_;refine c7.wk (Wk.regBox (k:=2) (j:=4) 237 16 (by decide) rfl rfl) ?_;refine gM 6 (aB.trs_len _) (fun hl20=>?_)
 refine bV (σ:=(Z aG)) (fun i17 v19=>⟨[(1,.ptr 0 0),(2,.ptr 1 0),(3,pB false),(5,.ptr 2 0),(6,bJ x16),(7,pN i17)],⟨[some ⟨189,[pS p0.aEa,bJ p0.aD7]⟩,some ⟨156,[pS s_,.nil,pB false,pB false,.nil]⟩,some ⟨156,[pS x6.aEa,rS x10,pB x12,pB x14,mC v19 0]⟩],[⟨237,16,aG.trs (v19),false⟩]⟩⟩) (fun v19=>⟨[(1,.ptr 0 0),(2,.ptr 1 0),(3,pB false),(5,.ptr 2 0)],⟨[some ⟨189,[pS p0.aEa,bJ p0.aD7]⟩,some ⟨156,[pS s_,.nil,pB false,pB false,.nil]⟩,some ⟨156,[pS x6.aEa,rS x10,pB x12,pB x14,mC v19 0]⟩],[⟨237,16,aG.trs (v19),false⟩]⟩⟩) (eX H) ?_ ?_
 ·rintro i17 v19 H
  refine gQ 8 ?_;refine c5 H (fun h21 h21l H=>?_) (fun h21 H=>?_)
  ·refine gQ 4 ?_;refine bM H fun x23 z22 H=>(bM H fun x25 z24 H=>(bM H fun x27 z26 H=>(bM H fun x29 z28 H=>(bM H fun x31 z30 H=>(dW (dI [6] bG (dI [7] bG (dI [31,32] rB (dI [33] (iR (aB.cs (aR x16 i17))) (dI [34] (bI func175 (dF fu (aR x16 i17) 0 _ z22)) (dI [35] tF1 (dI [6] bG (dI [7] bG ?_)))))))))))))
   refine dI [37,38] rB (dI [39] (iR (aB.cs (aR x16 i17))) (dI [40] (bI func175 (dF fu (aR x16 i17) 1 _ z24)) (dI [41] tF1 (dI [42] (bI func218 (YD fu x25.aD7 _ z26)) (dI [6] bG (dI [7] bG (dI [44,45] rB (dI [46] (iR (aB.cs (aR x16 i17))) (dI [47] (bI func175 (dF fu (aR x16 i17) 2 _ z28)) (dI [48] (bI func219 (zK fu x29 _ z30)) (dI [36,43,49] rR (dE [] tAl (mK [8,50] lT ?_)))))))))))))
   refine dN ?_;refine gQ 11 ?_;refine bE H (fun h32 H=>?_) (fun h32 H=>?_)
   ·refine gQ 10 ?_;refine q1 (iR (aB.cs (aR x16 i17))) (bM H fun x34 z33 H=>(q1 (bI func175 (dF fu (aR x16 i17) 3 _ z33)) (bM H fun x36 z35 H=>(q1 (bI func216 (qB fu x34 _ z35)) ?_))))
    refine gQ 7 ?_;refine q1 (iR (aB.cs (aR x16 i17))) (bM H fun x38 z37 H=>(q1 (bI func175 (dF fu (aR x16 i17) 4 _ z37)) (bM H fun x40 z39 H=>(q1 (bI func220 (JP fu x38 _ z39)) ?_))))
    refine gQ 6 ?_;refine q1 (b5 [pS x23.aEa,aT x27,pI x31.aD8,pS x31.aD4,aT x31.aD5,pB true,rS x36,pI x40.aD8,pS x40.aEb,pS x40.aD4,pI x40.aEM,pI x40.aD6.aD8,pS x40.aD6.aD4,aT x40.aD6.aD5,jF x40.aD5,tA x40.aEo]) (q1 (iQ ([(aG.mk x23.aEa x27 x31 true x36 x40)]:Z aG)) (cK H fun z41 H=>(q1 (mA z41) ?_)))
    exact gE 8
   refine gQ 4 ?_;refine q1 (b5 [pS x23.aEa,aT x27,pI x31.aD8,pS x31.aD4,aT x31.aD5,pB false,.nil,pI 0,pS s_,pS s_,pI 0,pI 0,pS s_,.nil,.nil,.nil]) (q1 (iQ ([(aG.mk x23.aEa x27 x31 false [] (aL.mk 0 s_ s_ 0 (aA.mk 0 s_ []) [] []))]:Z aG)) (cK H fun z42 H=>(q1 (mA z42) ?_)))
   exact gE 8
  exact gE 0
 rintro v19 H
 refine gQ 2 ?_;refine bM H fun x44 z43 H=>?_
 rcases n0 (!(x44)) with g45|g45
 ·have H:=r9 H g45
  refine dW (dD [1] (b5 [pS p0.aEa,bJ p0.aD7]) (dI [79] (bI func173 (dR fu p0 _ z43)) (dI [80] LI (dI [81] bG ?_))))
  iterate 4 refine KA g45 ?_
  refine dI [82] (DB g45) (dI [87] bG ?_)
  iterate 5 refine KA rfl ?_
  refine dI [88] (DB rfl) (dN ?_)
  exact gE 7
 have H:=r8 H g45
 rcases n0 (decide ((p0.aD7.length:Int)=0)) with g46|g46
 ·have H:=r9 H g46
  refine dW (dD [1] (b5 [pS p0.aEa,bJ p0.aD7]) (dI [79] (bI func173 (dR fu p0 _ z43)) (dI [80] LI (dI [81] bG (dI (hg:=bB g45) [1] bY (dD (hg:=bB g45) [83] eI (dI (hg:=bB g45) [84] UH (dI (hg:=bB g45) [85] rEq (dI [82,86] (EQ g45) (dI [87] bG ?_))))))))))
  iterate 5 refine KA g46 ?_
  refine dI [88] (DB g46) (dN ?_)
  exact gE 7
 have H:=r8 H g46
 refine bM H fun x48 z47 H=>(bM H fun x50 z49 H=>(dW (dD [1] (b5 [pS p0.aEa,bJ p0.aD7]) (dI [79] (bI func173 (dR fu p0 _ z43)) (dI [80] LI (dI [81] bG (dI (hg:=bB g45) [1] bY (dD (hg:=bB g45) [83] eI (dI (hg:=bB g45) [84] UH (dI (hg:=bB g45) [85] rEq (dI [82,86] (EQ g45) (dI [87] bG (dD (hg:=bB g46) [5] (b5 [pS x6.aEa,rS x10,pB x12,pB x14,mC v19 0]) ?_)))))))))))))
 refine dI (hg:=bB g46) [89] (bI func222 (S2 fu (aU.mk x6.aEa x10 x12 x14 v19) _ z47)) (dD (hg:=bB g46) [1] (b5 [pS p0.aEa,bJ p0.aD7]) (dI (hg:=bB g46) [90,91] (bI func221 (vY fu x48 p0 _ z49)) (dI (hg:=bB g46) [92] LI (dI [88,93] (EQ g46) (dN ?_)))))
 refine bE H (fun h51 H=>gE 6) fun h51 H=>?_;refine gQ 3 ?_;refine q1 (b5 [pS x6.aEa,rS x10,pB x12,pB x14,mC v19 0]) ?_;exact gE 3
def LJ(fu:Nat)(pd:aM)(x2 x4 x6 x8:aB):Nat→((Z aB))→J (LR ((Z aB)) aB):=fun i9 v11=>bd (cI fu ((aR pd.aD9 i9).aD4)) fun x15=>bd (D5 fu ((aR pd.aD9 i9).aEm)) fun x17=>gd ((([x15]:Z aB)).length+x17.length≤68719476736) (gd ((v11).length+(([(aB.mk s_ (([x15]:Z aB)++x17))]:Z aB)).length≤68719476736) (some (.next (v11++([(aB.mk s_ (([x15]:Z aB)++x17))]:Z aB)))))
def uH(fu:Nat)(pd:aM):J aB:=bd (cI fu S4) fun x2=>bd (cI fu pd.aD4) fun x4=>bd (l0 fu pd.aEh) fun x6=>bd (mX fu ([x2,x4,x6]:Z aB)) fun x8=>so (loopN (LJ fu pd x2 x4 x6 x8) (pd.aD9.length-0) 0 x8.aD7) fun v11=>bd (kQ fu pd) fun x21=>bd (FY fu x21 (aB.mk x8.aEa v11)) fun x23=>some x23
theorem LL(fu:Nat)(pd:aM)(r:aB)(H:uH fu pd=some r):bS prog 223 [(aM.pv pd)] ((aB.pv r)):=by
 refine qJ func223 H (fun C hC H=>?_)
 refine gQ 2 ?_;refine q1 (fN (jX pd)) ?_;refine gQ 3 ?_;refine bM H fun x2 z1 H=>(bM H fun x4 z3 H=>(bM H fun x6 z5 H=>(bM H fun x8 z7 H=>(dWa (dI [] (bI func239 (b8 fu S4 _ z1)) (dI [1] bY (dBz [6] 0 0 vE (dI [7] (bI func239 (b8 fu pd.aD4 _ z3)) (dI [1] bY (dBz [9] 0 0 vE (dI [10] (bI func240 (nL fu pd.aEh _ z5)) (dI [5,8,11] (iQ ([x2,x4,x6]:Z aB)) ?_))))))))))))
 refine dEz [12] (fun _ z=>by cases z<;>exact bC.callOwn (pre:=⟨[],[]⟩) (B:= []) (R:=fun k=> .agg [pS x8.aEa,eS x8.aD7 k]) (ps:= [_]) (qs:= [bJ ([x2,x4,x6]:Z aB)]) [] rfl rfl func238 (by kernel_rfl) rfl rfl rfl (fK.of trivial trivial (by decide) (by decide)) rfl kA rfl rfl rfl (fun k k'=>(.agg (.cons (.free _ rfl) (.cons Mv.acc HZ.nil)))) (nX fu ([x2,x4,x6]:Z aB) _ z7)) ?_;refine dA (fun _ st h=>vAl h ab6.h) (dZ 3 [3,13] lT (dN ?_))
 refine gQ 5 ?_;refine c7.fact (cQ 0 2 rfl rfl rfl (aC.trs_len _)) (fun hl12=>?_)
 refine bV (σ:=(Z aB)) (fun i9 v11=>⟨[(1,.ptr 0 0),(2,.ptr 1 0),(3,.ptr 2 0),(4,pN i9)],⟨[some ⟨39,jX pd⟩,some ⟨189,[pS s_,.nil]⟩,some ⟨189,[pS x8.aEa,eS v11 0]⟩],[⟨189,2,aB.trs (v11),false⟩]⟩⟩) (fun v11=>⟨[(1,.ptr 0 0),(2,.ptr 1 0),(3,.ptr 2 0)],⟨[some ⟨39,jX pd⟩,some ⟨189,[pS s_,.nil]⟩,some ⟨189,[pS x8.aEa,eS v11 0]⟩],[⟨189,2,aB.trs (v11),false⟩]⟩⟩) (eX H) ?_ ?_
 ·rintro i9 v11 H
  refine gQ 9 ?_;refine c5 H (fun h13 h13l H=>?_) (fun h13 H=>?_)
  ·refine gQ 3 ?_;refine bM H fun x15 z14 H=>(bM H fun x17 z16 H=>(cK H fun z18 H=>(cK H fun z19 H=>(dW (dI [3] bY (dB [21] 0 2 vE (dI [1] bY (dD [23] eI (dI [4] bG (dI [24,25] rB (dI [26] zL (dI [27] yB (dI [28] (bI func239 (b8 fu ((aR pd.aD9 i9).aD4) _ z14)) ?_)))))))))))))
   refine dE [29] (sA ([x15]:Z aB)) (dI [1] bY (dB [31] 0 1 vE (dI [4] bG (dI [32,33] rB (dI [34] zL (dI [35] yB (dI [36] (bI func241 (QN fu ((aR pd.aD9 i9).aEm) _ z16)) (dE [30,37] (mA z18) (dI [38] rR (dI [39] (iQ ([(aB.mk s_ (([x15]:Z aB)++x17))]:Z aB)) (dE [22,40] (mA z19) (dI [3] bY (mK [42,41] lT ?_)))))))))))))
   refine dN ?_;exact gE 5
  exact gE 0
 rintro v11 H
 refine qS (bM H fun x21 z20 H=>(bM H fun x23 z22 H=>(dW (dD [1] (b5 [pS pd.aD4,rS pd.aEh,dT pd.aD9]) (dI [43] (bI func230 (AK fu pd _ z20)) (dD [3] (b5 [pS x8.aEa,eS v11 0]) (dI [44,45] (bI func244 (KV fu x21 (aB.mk x8.aEa v11) _ z22)) (mK [2,46] lT (dN ?_)))))))))
 exact gE 0
def LX(fu:Nat)(px x2 x4:aB)(x6:LB)(x8:Z aB):Nat→((Z aC))→J (LR ((Z aC)) (aM×Bool)):=fun i9 v11=>bd (dO fu (aR x8 i9) 0) fun x15=>bd (xQ fu (aR x8 i9) 1) fun x17=>bd (KW fu x17) fun x19=>gd ((v11).length+(([(aC.mk x15.aEa x19)]:Z aC)).length≤68719476736) (some (.next (v11++([(aC.mk x15.aEa x19)]:Z aC))))
def uL(fu:Nat)(px:aB):J (aM×Bool):=bd (dO fu px 1) fun x2=>bd (dO fu px 2) fun x4=>bd (lZ fu x4) fun x6=>bd (xQ fu px 3) fun x8=>so (loopN (LX fu px x2 x4 x6 x8) (x8.length-0) 0 ([])) fun v11=>bd (iW fu px) fun x22=>sw (!(x22)) (some ((aM.mk s_ [] []),false)) (sw (decide ((px.aD7.length:Int)=0)) (some ((aM.mk s_ [] []),false)) (bd (uH fu (aM.mk x2.aEa x6 v11)) fun x26=>bd (fY fu x26 px) fun x28=>sw (!(x28)) (some ((aM.mk s_ [] []),false)) (some ((aM.mk x2.aEa x6 v11),true))))
theorem LY(fu:Nat)(px:aB)(r:aM×Bool)(H:uL fu px=some r):bS prog 201 [(aB.pv px)] (.tup [(aM.pv r.1),pB r.2]):=by
 refine qJ func201 H (fun C hC H=>?_)
 refine gQ 2 ?_;refine q1 (fN ([pS px.aEa,bJ px.aD7])) ?_;refine gQ 4 ?_;refine bM H fun x2 z1 H=>(bM H fun x4 z3 H=>(bM H fun x6 z5 H=>(dW (dB [1] 0 1 (IM [pS px.aEa,bJ px.aD7]) (dI [7] (bI func175 (dF fu px 1 _ z1)) (dI [8] tF1 (dB [1] 0 1 (IM [pS px.aEa,bJ px.aD7]) (dI [10] (bI func175 (dF fu px 2 _ z3)) (dI [11] (bI func216 (qB fu x4 _ z5)) (dI [9,12] rR (dE [] tAl (mK [4,13] lT (dN ?_)))))))))))))
 refine gQ 2 ?_;refine q1 (b5 [pS px.aEa,bJ px.aD7]) (bM H fun x8 z7 H=>(q1 (bI func217 (D4 fu px 3 _ z7)) ?_))
 refine gQ 7 ?_;refine c7.wk (Wk.regBox (k:=2) (j:=2) 46 2 (by decide) rfl rfl) ?_;refine gM 5 (aB.trs_len _) (fun hl12=>?_)
 refine bV (σ:=(Z aC)) (fun i9 v11=>⟨[(1,.ptr 0 0),(2,.ptr 1 0),(3,pB false),(4,.ptr 2 0),(5,bJ x8),(6,pN i9)],⟨[some ⟨189,[pS px.aEa,bJ px.aD7]⟩,some ⟨39,[pS s_,.nil,.nil]⟩,some ⟨39,[pS x2.aEa,rS x6,AU v11 0]⟩],[⟨46,2,aC.trs (v11),false⟩]⟩⟩) (fun v11=>⟨[(1,.ptr 0 0),(2,.ptr 1 0),(3,pB false),(4,.ptr 2 0)],⟨[some ⟨189,[pS px.aEa,bJ px.aD7]⟩,some ⟨39,[pS s_,.nil,.nil]⟩,some ⟨39,[pS x2.aEa,rS x6,AU v11 0]⟩],[⟨46,2,aC.trs (v11),false⟩]⟩⟩) (eX H) ?_ ?_
 ·rintro i9 v11 H
  refine gQ 8 ?_;refine c5 H (fun h13 h13l H=>?_) (fun h13 H=>?_)
  ·refine gQ 3 ?_;refine bM H fun x15 z14 H=>(bM H fun x17 z16 H=>(bM H fun x19 z18 H=>(cK H fun z20 H=>(dW (dI [4] bY (dD [22] eI (dI [5] bG (dI [6] bG (dI [24,25] rB (dI [26] (iR (aB.cs (aR x8 i9))) (dI [27] (bI func175 (dF fu (aR x8 i9) 0 _ z14)) (dI [28] tF1 (dI [5] bG ?_)))))))))))))
   refine dI [6] bG (dI [30,31] rB (dI [32] (iR (aB.cs (aR x8 i9))) (dI [33] (bI func217 (D4 fu (aR x8 i9) 1 _ z16)) (dI [34] (bI func218 (YD fu x17 _ z18)) (dI [29,35] rR (dI [36] (iQ ([(aC.mk x15.aEa x19)]:Z aC)) (dE [23,37] (mA z20) (dI [4] bY (mK [39,38] lT (dN ?_))))))))))
   exact gE 5
  exact gE 0
 rintro v11 H
 refine gQ 2 ?_;refine bM H fun x22 z21 H=>?_
 rcases n0 (!(x22)) with g23|g23
 ·have H:=r9 H g23
  refine dW (dD [1] (b5 [pS px.aEa,bJ px.aD7]) (dI [40] (bI func173 (dR fu px _ z21)) (dI [41] LI (dI [42] bG ?_))))
  iterate 4 refine KA g23 ?_
  refine dI [43] (DB g23) (dI [48] bG ?_)
  iterate 5 refine KA rfl ?_
  refine dI [49] (DB rfl) (dN ?_)
  exact gE 7
 have H:=r8 H g23
 rcases n0 (decide ((px.aD7.length:Int)=0)) with g24|g24
 ·have H:=r9 H g24
  refine dW (dD [1] (b5 [pS px.aEa,bJ px.aD7]) (dI [40] (bI func173 (dR fu px _ z21)) (dI [41] LI (dI [42] bG (dI (hg:=bB g23) [1] bY (dD (hg:=bB g23) [44] eI (dI (hg:=bB g23) [45] UH (dI (hg:=bB g23) [46] rEq (dI [43,47] (EQ g23) (dI [48] bG ?_))))))))))
  iterate 5 refine KA g24 ?_
  refine dI [49] (DB g24) (dN ?_)
  exact gE 7
 have H:=r8 H g24
 refine bM H fun x26 z25 H=>(bM H fun x28 z27 H=>(dW (dD [1] (b5 [pS px.aEa,bJ px.aD7]) (dI [40] (bI func173 (dR fu px _ z21)) (dI [41] LI (dI [42] bG (dI (hg:=bB g23) [1] bY (dD (hg:=bB g23) [44] eI (dI (hg:=bB g23) [45] UH (dI (hg:=bB g23) [46] rEq (dI [43,47] (EQ g23) (dI [48] bG (dD (hg:=bB g24) [4] (b5 [pS x2.aEa,rS x6,AU v11 0]) ?_)))))))))))))
 refine dI (hg:=bB g24) [50] (bI func223 (LL fu (aM.mk x2.aEa x6 v11) _ z25)) (dD (hg:=bB g24) [1] (b5 [pS px.aEa,bJ px.aD7]) (dI (hg:=bB g24) [51,52] (bI func221 (vY fu x26 px _ z27)) (dI (hg:=bB g24) [53] LI (dI [49,54] (EQ g24) (dN ?_)))))
 refine bE H (fun h29 H=>gE 6) fun h29 H=>?_;refine gQ 3 ?_;refine q1 (b5 [pS x2.aEa,rS x6,AU v11 0]) ?_;exact gE 3
def aaK(fu:Nat)(px:aB):Nat→((Z aF))→J (LR ((Z aF)) ((Z aF))):=fun i1 v3=>bd (dO fu (aR px.aD7 i1) 0) fun x7=>bd (dO fu (aR px.aD7 i1) 1) fun x9=>bd (nP fu x9) fun x11=>gd ((v3).length+(([(aF.mk x7.aEa x11)]:Z aF)).length≤68719476736) (some (.next (v3++([(aF.mk x7.aEa x11)]:Z aF))))
def A5(fu:Nat)(px:aB):J ((Z aF)):=so (loopN (aaK fu px) (px.aD7.length-0) 0 ([])) fun v3=>some v3
theorem MK(fu:Nat)(px:aB)(r:(Z aF))(H:A5 fu px=some r):bS prog 224 [(aB.pv px)] (cP r):=by
 refine qJ func224 H (fun C hC H=>?_)
 refine gQ 2 ?_;refine q1 (fN ([pS px.aEa,bJ px.aD7])) ?_;refine gQ 4 ?_;refine q1 (sA ([]:Z aF)) ?_;refine gQ 7 ?_;refine c7.fact (cQ 0 1 rfl rfl rfl (aB.trs_len _)) (fun hl4=>?_)
 refine bV (σ:=(Z aF)) (fun i1 v3=>⟨[(1,.ptr 0 0),(2,.nil),(3,acK v3 0),(4,pN i1)],⟨[some ⟨189,[pS px.aEa,bJ px.aD7]⟩],[⟨32,4,aF.trs (v3),false⟩]⟩⟩) (fun v3=>⟨[(2,.nil),(3,acK v3 0)],⟨[some ⟨189,[pS px.aEa,bJ px.aD7]⟩],[⟨32,4,aF.trs (v3),false⟩]⟩⟩) (eX H) ?_ ?_
 ·rintro i1 v3 H
  refine gQ 9 ?_;refine c5 H (fun h5 h5l H=>?_) (fun h5 H=>?_)
  ·refine gQ 3 ?_;refine bM H fun x7 z6 H=>(bM H fun x9 z8 H=>(bM H fun x11 z10 H=>(cK H fun z12 H=>(dW (dI [3] bG (dI [1] bY (dD [14] eI (dI [4] bG (dI [15,16] rB (dI [17] (iR (aB.cs (aR px.aD7 i1))) (dI [18] (bI func175 (dF fu (aR px.aD7 i1) 0 _ z6)) (dI [19] tF1 (dI [1] bY ?_)))))))))))))
   refine dD [21] eI (dI [4] bG (dI [22,23] rB (dI [24] (iR (aB.cs (aR px.aD7 i1))) (dI [25] (bI func175 (dF fu (aR px.aD7 i1) 1 _ z8)) (dI [26] (bI func219 (zK fu x9 _ z10)) (dI [20,27] rR (dI [28] (iQ ([(aF.mk x7.aEa x11)]:Z aF)) (dE [13,29] (mA z12) (dI [30] bG (dN ?_))))))))))
   exact gE 5
  exact gE 0
 rintro v3 H
 exact gE 5
def ad7(fu:Nat)(p1:Z aF):Nat→((Z aB))→J (LR ((Z aB)) aB):=fun i1 v3=>bd (cI fu ((aR p1 i1).aEb)) fun x7=>bd (nO fu ((aR p1 i1).aD6)) fun x9=>bd (mX fu ([x7,x9]:Z aB)) fun x11=>gd ((v3).length+(([x11]:Z aB)).length≤68719476736) (some (.next (v3++([x11]:Z aB))))
def D6(fu:Nat)(p1:Z aF):J aB:=so (loopN (ad7 fu p1) (p1.length-0) 0 ([])) fun v3=>some (aB.mk s_ v3)
theorem QO(fu:Nat)(p1:Z aF)(r:aB)(H:D6 fu p1=some r):bS prog 245 [cP p1] ((aB.pv r)):=by
 refine qJ func245 H (fun C hC H=>?_)
 refine gQ 15 ?_;refine c7.wk (Wk.regBox (k:=1) (j:=1) 189 2 (by decide) rfl rfl) ?_;refine gM 0 (aF.trs_len _) (fun hl4=>?_)
 refine bV (σ:=(Z aB)) (fun i1 v3=>⟨[(0,cP p1),(2,.ptr 0 0),(3,.ptr 1 0),(4,pN i1)],⟨[some ⟨189,[pS s_,.nil]⟩,some ⟨189,[pS s_,eS v3 0]⟩],[⟨189,2,aB.trs (v3),false⟩]⟩⟩) (fun v3=>⟨[(2,.ptr 0 0),(3,.ptr 1 0)],⟨[some ⟨189,[pS s_,.nil]⟩,some ⟨189,[pS s_,eS v3 0]⟩],[⟨189,2,aB.trs (v3),false⟩]⟩⟩) (eX H) ?_ ?_
 ·rintro i1 v3 H
  refine gQ 8 ?_;refine c5 H (fun h5 h5l H=>?_) (fun h5 H=>?_)
  ·refine gQ 3 ?_;refine bM H fun x7 z6 H=>(bM H fun x9 z8 H=>(bM H fun x11 z10 H=>(cK H fun z12 H=>(dW (dI [3] bY (dD [12] eI (dI [0] bG (dI [4] bG (dI [14,15] rB (dI [16] zL (dI [17] yB (dI [18] (bI func239 (b8 fu ((aR p1 i1).aEb) _ z6)) (dI [0] bG ?_)))))))))))))
   refine dI [4] bG (dI [20,21] rB (dI [22] zL (dI [23] (iR (aA.cs ((aR p1 i1).aD6))) (dI [24] (bI func242 (zJ fu ((aR p1 i1).aD6) _ z8)) (dI [19,25] (iQ ([x7,x9]:Z aB)) (dI [26] (bI func238 (HK (nX fu) ([x7,x9]:Z aB) _ z10)) (dI [27] (iQ ([x11]:Z aB)) (dE [13,28] (mA z12) (dI [3] bY (mK [30,29] lT (dN ?_)))))))))))
   exact gE 5
  exact gE 0
 rintro v3 H
 refine gQ 2 ?_;refine q1 (b5 [pS s_,eS v3 0]) ?_;exact gE 2
def LQ(fu:Nat)(p0:aI)(x2:Bool):J (aB⊕((LB))):=sw (p0.aEy) (gd (([]:LB).length+(([xL]:LB)).length≤68719476736) (some (.inr (([])++([xL]:LB))))) (some (.inr ([])))
def LS(fu:Nat)(p0:aI)(x2:Bool)(v5:LB):J (aB⊕(Y×(Z aB))):=sw (p0.aEE) (bd (nO fu p0.aEq) fun x12=>bd (mX fu ([x12]:Z aB)) fun x14=>some (.inr (x14.aEa,x14.aD7))) (some (.inr (s_,([]))))
def LT(fu:Nat)(p0:aI)(x2:Bool)(v5:LB)(v8:Y)(v9:Z aB)(x16 x18 x20 x22 x24 x26 x28:aB):Nat→((Z aB))→J (LR ((Z aB)) aB):=fun i29 v31=>lt (aR p0.aEw i29) fun y34=>bd (cI fu y34.aD4) fun x37=>bd (l0 fu y34.aEh) fun x39=>bd (nK fu y34.aEe) fun x41=>bd (mX fu ([x37,x39,x41]:Z aB)) fun x43=>gd ((v31).length+(([(aB.mk x43.aEa x43.aD7)]:Z aB)).length≤68719476736) (some (.next (v31++([(aB.mk x43.aEa x43.aD7)]:Z aB))))
def uK(fu:Nat)(p0:aI):J aB:=bd (kR fu p0) fun x2=>sw (!(x2)) (some (aB.mk s_ [])) (so (LQ fu p0 x2) fun v5=>so (LS fu p0 x2 v5) fun(v8,v9)=>bd (cI fu S5) fun x16=>bd (cI fu p0.aEb) fun x18=>bd (l0 fu p0.aEh) fun x20=>bd (nO fu p0.aEj) fun x22=>bd (D6 fu p0.aEk) fun x24=>bd (l0 fu v5) fun x26=>bd (mX fu ([x16,x18,x20,x22,x24,x26,(aB.mk v8 v9)]:Z aB)) fun x28=>so (loopN (LT fu p0 x2 v5 v8 v9 x16 x18 x20 x22 x24 x26 x28) (p0.aEw.length-0) 0 x28.aD7) fun v31=>bd (FY fu true (aB.mk x28.aEa v31)) fun x46=>some x46)
theorem LU(fu:Nat)(p0:aI)(r:aB)(H:uK fu p0=some r):bS prog 225 [(aI.pv p0)] ((aB.pv r)):=by
 refine qJ func225 H (fun C hC H=>?_)
 refine gQ 2 ?_;refine q1 (fN (dU p0)) ?_;refine gQ 5 ?_;refine q1 (b5 [pS p0.aEb,rS p0.aEh,pI p0.aEj.aD8,pS p0.aEj.aD4,aT p0.aEj.aD5,cP p0.aEk,pB p0.aEy,pB p0.aEE,pI p0.aEq.aD8,pS p0.aEq.aD4,aT p0.aEq.aD5,nD p0.aEw]) (bM H fun x2 z1 H=>(q1 (bI func231 (AQ fu p0 _ z1)) ?_))
 refine gQ 2 ?_;refine bE H (fun h3 H=>gE 5) fun h3 H=>?_;refine gQ 3 ?_;refine q1 (sA ([]:LB)) ?_;refine gQ 3 ?_;refine oT (σ:=(LB)) (fun v5=>⟨[(1,.ptr 0 0),(2,.ptr 1 0),(3,aS v5 0)],⟨[some ⟨163,dU p0⟩,some ⟨189,[pS s_,.nil]⟩],[⟨9,1,aY (v5),false⟩]⟩⟩) (eX H) (fun H=>?_) ?_
 ·refine gQ 5 ?_;refine bE H (fun h6 H=>?_) (fun h6 H=>?_)
  ·refine gQ 2 ?_;refine q1 (iQ ([xL]:LB)) (cK H fun z7 H=>(q1 (mA z7) ?_))
   exact gE 2
  exact gE 1
 rintro v5 H
 refine gQ 7 ?_;refine c7.wk (Wk.regBox (k:=2) (j:=1) 189 2 (by decide) rfl rfl) ?_;refine oT (σ:=Y×(Z aB)) (fun(v8,v9)=>⟨[(1,.ptr 0 0),(2,.ptr 1 0),(3,aS v5 0),(4,.ptr 2 0)],⟨[some ⟨163,dU p0⟩,some ⟨189,[pS s_,.nil]⟩,some ⟨189,[pS v8,bJ v9]⟩],[⟨9,1,aY (v5),false⟩,⟨189,2,aB.trs ([]),false⟩]⟩⟩) (eX H) (fun H=>?_) ?_
 ·refine gQ 5 ?_;refine bE H (fun h10 H=>?_) (fun h10 H=>?_)
  ·refine gQ 2 ?_;refine q1 (b5 [pI p0.aEq.aD8,pS p0.aEq.aD4,aT p0.aEq.aD5]) (bM H fun x12 z11 H=>(q1 (bI func242 (zJ fu p0.aEq _ z11)) (q1 (iQ ([x12]:Z aB)) (bM H fun x14 z13 H=>(q1 (bC.callOwn (pre:=⟨[],[]⟩) (B:= []) (R:=fun k=> .agg [pS x14.aEa,eS x14.aD7 k]) (ps:= [_]) (qs:= [bJ ([x12]:Z aB)]) [] rfl rfl func238 (by kernel_rfl) rfl rfl rfl (fK.of trivial trivial (by decide) (by decide)) rfl kA rfl rfl rfl (fun k k'=>(.agg (.cons (.free _ rfl) (.cons Mv.acc HZ.nil)))) (nX fu ([x12]:Z aB) _ z13)) ?_)))))
   exact gE 2
  exact gE 1
 rintro⟨v8,v9⟩ H
 refine qS (bM H fun x16 z15 H=>(bM H fun x18 z17 H=>(bM H fun x20 z19 H=>(bM H fun x22 z21 H=>(bM H fun x24 z23 H=>(bM H fun x26 z25 H=>(bM H fun x28 z27 H=>(dWa (dI [] (bI func239 (b8 fu S5 _ z15)) (dI [1] bY (dBz [27] 0 0 vE (dI [28] (bI func239 (b8 fu p0.aEb _ z17)) (dI [1] bY ?_)))))))))))))
 refine dBz [30] 0 0 vE (dI [31] (bI func240 (nL fu p0.aEh _ z19)) (dI [1] bY (dBz [33] 0 0 (IM [pI p0.aEj.aD8,pS p0.aEj.aD4,aT p0.aEj.aD5]) (dI [34] (bI func242 (zJ fu p0.aEj _ z21)) (dI [1] bY (dBz [36] 0 0 vE (dI [37] (bI func245 (QO fu p0.aEk _ z23)) (dI [3] bG (dI [39] (bI func240 (nL fu v5 _ z25)) (dBz [4] 0 0 (IM [pS v8,bJ v9]) (dI [26,29,32,35,38,40,41] (iQ ([x16,x18,x20,x22,x24,x26,(aB.mk v8 v9)]:Z aB)) ?_)))))))))))
 refine dEz [42] (fun _ z=>by cases z<;>exact bC.callOwn (pre:=⟨[],[]⟩) (B:= []) (R:=fun k=> .agg [pS x28.aEa,eS x28.aD7 k]) (ps:= [_]) (qs:= [bJ ([x16,x18,x20,x22,x24,x26,(aB.mk v8 v9)]:Z aB)]) [] rfl rfl func238 (by kernel_rfl) rfl rfl rfl (fK.of trivial trivial (by decide) (by decide)) rfl kA rfl rfl rfl (fun k k'=>(.agg (.cons (.free _ rfl) (.cons Mv.acc HZ.nil)))) (nX fu ([x16,x18,x20,x22,x24,x26,(aB.mk v8 v9)]:Z aB) _ z27)) ?_;refine dA (fun _ st h=>vAl h ab6.h) (dZ 5 [5,43] lT (dN ?_))
 refine gQ 5 ?_;refine c7.fact (cQ 0 11 rfl rfl rfl (aP.trs_len _)) (fun hl32=>?_)
 refine bV (σ:=(Z aB)) (fun i29 v31=>⟨[(1,.ptr 0 0),(2,.ptr 1 0),(5,.ptr 3 0),(6,pN i29)],⟨[some ⟨163,dU p0⟩,some ⟨189,[pS s_,.nil]⟩,some ⟨189,[pS v8,bJ v9]⟩,some ⟨189,[pS x28.aEa,eS v31 2]⟩],[⟨9,1,aY (v5),false⟩,⟨189,2,aB.trs ([]),false⟩,⟨189,2,aB.trs (v31),false⟩]⟩⟩) (fun v31=>⟨[(2,.ptr 1 0),(5,.ptr 3 0)],⟨[some ⟨163,dU p0⟩,some ⟨189,[pS s_,.nil]⟩,some ⟨189,[pS v8,bJ v9]⟩,some ⟨189,[pS x28.aEa,eS v31 2]⟩],[⟨9,1,aY (v5),false⟩,⟨189,2,aB.trs ([]),false⟩,⟨189,2,aB.trs (v31),false⟩]⟩⟩) (eX H) ?_ ?_
 ·rintro i29 v31 H
  refine gQ 9 ?_;refine c5 H (fun h33 h33l H=>?_) (fun h33 H=>?_)
  ·refine gQ 8 ?_;refine gI H fun y34 h35 H=>(q1 (zM h35 h33l) (q1 (iR (aP.cs y34)) ?_))
   refine gQ 3 ?_;refine bM H fun x37 z36 H=>(bM H fun x39 z38 H=>(bM H fun x41 z40 H=>(bM H fun x43 z42 H=>(cK H fun z44 H=>(dW (dI [5] bY (dB [56] 0 1 vE (dI [7] bY (dD [58] eI (dI [59] (bI func239 (b8 fu y34.aD4 _ z36)) (dI [7] bY (dD [61] eI (dI [62] (bI func240 (nL fu y34.aEh _ z38)) ?_)))))))))))))
   refine dI [7] bY (dD [64] (b5 [pI y34.aEe.aD8,pS y34.aEe.aEb,pS y34.aEe.aD4,pI y34.aEe.aEM,pI y34.aEe.aD6.aD8,pS y34.aEe.aD6.aD4,aT y34.aEe.aD6.aD5,jF y34.aEe.aD5,tA y34.aEe.aEo]) (dI [65] (bI func243 (S8 fu y34.aEe _ z40)) (dI [60,63,66] (iQ ([x37,x39,x41]:Z aB)) (dE [67] (bC.callOwn (pre:=⟨[],[]⟩) (B:= []) (R:=fun k=> .agg [pS x43.aEa,eS x43.aD7 k]) (ps:= [_]) (qs:= [bJ ([x37,x39,x41]:Z aB)]) [] rfl rfl func238 (by kernel_rfl) rfl rfl rfl (fK.of trivial trivial (by decide) (by decide)) rfl kA rfl rfl rfl (fun k k'=>(.agg (.cons (.free _ rfl) (.cons Mv.acc HZ.nil)))) (nX fu ([x37,x39,x41]:Z aB) _ z42)) (dI [68] (iQ ([(aB.mk x43.aEa x43.aD7)]:Z aB)) (dE [57,69] (mA z44) (dI [5] bY (mK [71,70] lT (dN ?_)))))))))
   exact gE 5
  exact gE 0
 rintro v31 H
 refine gQ 2 ?_;refine q1 (b5 [pS x28.aEa,eS v31 2]) (bM H fun x46 z45 H=>(q1 (bI func244 (KV fu true (aB.mk x28.aEa v31) _ z45)) ?_))
 exact gE 2
def L4(fu:Nat)(p0 x2 x4:aB)(x6:LB)(x8:aB)(x10:aA)(x12:aB)(x14:Z aF)(x16 x18:aB):J ((aI×Bool)⊕((Z aA)×Bool×Int×Y)):=sw (decide ((x18.aD7.length:Int)>0)) (gd (0<(x18.aD7).length) (bd (nP fu (aR x18.aD7 0)) fun x26=>some (.inr (x26.aD5,true,x26.aD8,x26.aD4)))) (some (.inr ([],false,0,s_)))
def L5(fu:Nat)(p0 x2 x4:aB)(x6:LB)(x8:aB)(x10:aA)(x12:aB)(x14:Z aF)(x16 x18:aB)(v22:Z aA)(v19:Bool)(v20:Int)(v21:Y)(x28:Z aB):Nat→((Z aP))→J (LR ((Z aP)) (aI×Bool)):=fun i29 v31=>bd (dO fu (aR x28 i29) 0) fun x35=>bd (dO fu (aR x28 i29) 1) fun x37=>bd (lZ fu x37) fun x39=>bd (dO fu (aR x28 i29) 2) fun x41=>bd (iG fu x41) fun x43=>gd ((v31).length+(([(aP.mk x35.aEa x39 x43)]:Z aP)).length≤68719476736) (some (.next (v31++([(aP.mk x35.aEa x39 x43)]:Z aP))))
def uN(fu:Nat)(p0:aB):J (aI×Bool):=bd (dO fu p0 1) fun x2=>bd (dO fu p0 2) fun x4=>bd (lZ fu x4) fun x6=>bd (dO fu p0 3) fun x8=>bd (nP fu x8) fun x10=>bd (dO fu p0 4) fun x12=>bd (A5 fu x12) fun x14=>bd (dO fu p0 5) fun x16=>bd (dO fu p0 6) fun x18=>so (L4 fu p0 x2 x4 x6 x8 x10 x12 x14 x16 x18) fun(v22,v19,v20,v21)=>bd (xQ fu p0 7) fun x28=>so (loopN (L5 fu p0 x2 x4 x6 x8 x10 x12 x14 x16 x18 v22 v19 v20 v21 x28) (x28.length-0) 0 ([])) fun v31=>bd (iW fu p0) fun x46=>sw (!(x46)) (some ((aI.mk s_ [] (aA.mk 0 s_ []) [] false false (aA.mk 0 s_ []) []),false)) (sw (decide ((p0.aD7.length:Int)=0)) (some ((aI.mk s_ [] (aA.mk 0 s_ []) [] false false (aA.mk 0 s_ []) []),false)) (bd (uK fu (aI.mk x2.aEa x6 x10 x14 (decide ((x16.aD7.length:Int)>0)) v19 (aA.mk v20 v21 v22) v31)) fun x50=>bd (fY fu x50 p0) fun x52=>sw (!(x52)) (some ((aI.mk s_ [] (aA.mk 0 s_ []) [] false false (aA.mk 0 s_ []) []),false)) (some ((aI.mk x2.aEa x6 x10 x14 (decide ((x16.aD7.length:Int)>0)) v19 (aA.mk v20 v21 v22) v31),true))))
theorem L6(fu:Nat)(p0:aB)(r:aI×Bool)(H:uN fu p0=some r):bS prog 202 [(aB.pv p0)] (.tup [(aI.pv r.1),pB r.2]):=by
 refine qJ func202 H (fun C hC H=>?_)
 refine gQ 2 ?_;refine q1 (fN ([pS p0.aEa,bJ p0.aD7])) ?_;refine gQ 4 ?_;refine bM H fun x2 z1 H=>(bM H fun x4 z3 H=>(bM H fun x6 z5 H=>(bM H fun x8 z7 H=>(bM H fun x10 z9 H=>(bM H fun x12 z11 H=>(bM H fun x14 z13 H=>(bM H fun x16 z15 H=>(dW (dB [1] 0 1 (IM [pS p0.aEa,bJ p0.aD7]) (dI [8] (bI func175 (dF fu p0 1 _ z1)) (dI [9] tF1 (dB [1] 0 1 (IM [pS p0.aEa,bJ p0.aD7]) (dI [11] (bI func175 (dF fu p0 2 _ z3)) ?_)))))))))))))
 refine dI [12] (bI func216 (qB fu x4 _ z5)) (dB [1] 0 1 (IM [pS p0.aEa,bJ p0.aD7]) (dI [14] (bI func175 (dF fu p0 3 _ z7)) (dI [15] (bI func219 (zK fu x8 _ z9)) (dB [1] 0 1 (IM [pS p0.aEa,bJ p0.aD7]) (dI [17] (bI func175 (dF fu p0 4 _ z11)) (dI [18] (bI func224 (MK fu x12 _ z13)) (dB [1] 0 1 (IM [pS p0.aEa,bJ p0.aD7]) (dI [20] (bI func175 (dF fu p0 5 _ z15)) (dI [21] tF1 (dI [22] UH (dI [23] rGt (dI [10,13,16,19,24] rR (dE [] tAl ?_)))))))))))))
 refine mK [4,25] lT (dN ?_)
 refine gQ 2 ?_;refine q1 (b5 [pS p0.aEa,bJ p0.aD7]) (bM H fun x18 z17 H=>(q1 (bI func175 (dF fu p0 6 _ z17)) ?_))
 refine gQ 4 ?_;refine oT (σ:=(Z aA)×Bool×Int×Y) (fun(v22,v19,v20,v21)=>⟨[(1,.ptr 0 0),(2,.ptr 1 0),(3,pB false),(4,.ptr 2 0)],⟨[some ⟨189,[pS p0.aEa,bJ p0.aD7]⟩,some ⟨163,[pS s_,.nil,pI 0,pS s_,.nil,.nil,pB false,pB false,pI 0,pS s_,.nil,.nil]⟩,some ⟨163,[pS x2.aEa,rS x6,pI x10.aD8,pS x10.aD4,aT x10.aD5,cP x14,pB (decide ((x16.aD7.length:Int)>0)),pB v19,pI v20,pS v21,aT v22,.nil]⟩,some ⟨189,[pS x18.aEa,bJ x18.aD7]⟩],[]⟩⟩) (eX H) (fun H=>?_) ?_
 ·refine gQ 7 ?_;refine bE H (fun h23 H=>?_) (fun h23 H=>?_)
  ·refine gQ 8 ?_;refine cK H fun z24 H=>(q1 rB (q1 (iR (aB.cs (aR x18.aD7 0))) (bM H fun x26 z25 H=>(q1 (bI func219 (zK fu (aR x18.aD7 0) _ z25)) ?_))))
   exact gE 3
  exact gE 1
 rintro⟨v22,v19,v20,v21⟩ H
 refine gQ 2 ?_;refine q1 (b5 [pS p0.aEa,bJ p0.aD7]) (bM H fun x28 z27 H=>(q1 (bI func217 (D4 fu p0 7 _ z27)) ?_))
 refine gQ 7 ?_;refine c7.wk (Wk.regBox (k:=2) (j:=11) 242 11 (by decide) rfl rfl) ?_;refine gM 6 (aB.trs_len _) (fun hl32=>?_)
 refine bV (σ:=(Z aP)) (fun i29 v31=>⟨[(1,.ptr 0 0),(2,.ptr 1 0),(3,pB false),(4,.ptr 2 0),(6,bJ x28),(7,pN i29)],⟨[some ⟨189,[pS p0.aEa,bJ p0.aD7]⟩,some ⟨163,[pS s_,.nil,pI 0,pS s_,.nil,.nil,pB false,pB false,pI 0,pS s_,.nil,.nil]⟩,some ⟨163,[pS x2.aEa,rS x6,pI x10.aD8,pS x10.aD4,aT x10.aD5,cP x14,pB (decide ((x16.aD7.length:Int)>0)),pB v19,pI v20,pS v21,aT v22,VF v31 0]⟩,some ⟨189,[pS x18.aEa,bJ x18.aD7]⟩],[⟨242,11,aP.trs (v31),false⟩]⟩⟩) (fun v31=>⟨[(1,.ptr 0 0),(2,.ptr 1 0),(3,pB false),(4,.ptr 2 0)],⟨[some ⟨189,[pS p0.aEa,bJ p0.aD7]⟩,some ⟨163,[pS s_,.nil,pI 0,pS s_,.nil,.nil,pB false,pB false,pI 0,pS s_,.nil,.nil]⟩,some ⟨163,[pS x2.aEa,rS x6,pI x10.aD8,pS x10.aD4,aT x10.aD5,cP x14,pB (decide ((x16.aD7.length:Int)>0)),pB v19,pI v20,pS v21,aT v22,VF v31 0]⟩,some ⟨189,[pS x18.aEa,bJ x18.aD7]⟩],[⟨242,11,aP.trs (v31),false⟩]⟩⟩) (eX H) ?_ ?_
 ·rintro i29 v31 H
  refine gQ 8 ?_;refine c5 H (fun h33 h33l H=>?_) (fun h33 H=>?_)
  ·refine gQ 3 ?_;refine bM H fun x35 z34 H=>(bM H fun x37 z36 H=>(bM H fun x39 z38 H=>(bM H fun x41 z40 H=>(bM H fun x43 z42 H=>(cK H fun z44 H=>(dW (dI [4] bY (dD [47] eI (dI [6] bG (dI [7] bG (dI [49,50] rB (dI [51] (iR (aB.cs (aR x28 i29))) (dI [52] (bI func175 (dF fu (aR x28 i29) 0 _ z34)) ?_)))))))))))))
   refine dI [53] tF1 (dI [6] bG (dI [7] bG (dI [55,56] rB (dI [57] (iR (aB.cs (aR x28 i29))) (dI [58] (bI func175 (dF fu (aR x28 i29) 1 _ z36)) (dI [59] (bI func216 (qB fu x37 _ z38)) (dI [6] bG (dI [7] bG (dI [61,62] rB (dI [63] (iR (aB.cs (aR x28 i29))) (dI [64] (bI func175 (dF fu (aR x28 i29) 2 _ z40)) (dI [65] (bI func220 (JP fu x41 _ z42)) (dI [54,60,66] rR ?_)))))))))))))
   refine dI [67] (iQ ([(aP.mk x35.aEa x39 x43)]:Z aP)) (dE [48,68] (mA z44) (dI [4] bY (mK [70,69] lT (dN ?_))))
   exact gE 5
  exact gE 0
 rintro v31 H
 refine gQ 2 ?_;refine bM H fun x46 z45 H=>?_
 rcases n0 (!(x46)) with g47|g47
 ·have H:=r9 H g47
  refine dW (dD [1] (b5 [pS p0.aEa,bJ p0.aD7]) (dI [71] (bI func173 (dR fu p0 _ z45)) (dI [72] LI (dI [73] bG ?_))))
  iterate 4 refine KA g47 ?_
  refine dI [74] (DB g47) (dI [79] bG ?_)
  iterate 5 refine KA rfl ?_
  refine dI [80] (DB rfl) (dN ?_)
  exact gE 7
 have H:=r8 H g47
 rcases n0 (decide ((p0.aD7.length:Int)=0)) with g48|g48
 ·have H:=r9 H g48
  refine dW (dD [1] (b5 [pS p0.aEa,bJ p0.aD7]) (dI [71] (bI func173 (dR fu p0 _ z45)) (dI [72] LI (dI [73] bG (dI (hg:=bB g47) [1] bY (dD (hg:=bB g47) [75] eI (dI (hg:=bB g47) [76] UH (dI (hg:=bB g47) [77] rEq (dI [74,78] (EQ g47) (dI [79] bG ?_))))))))))
  iterate 5 refine KA g48 ?_
  refine dI [80] (DB g48) (dN ?_)
  exact gE 7
 have H:=r8 H g48
 refine bM H fun x50 z49 H=>(bM H fun x52 z51 H=>(dW (dD [1] (b5 [pS p0.aEa,bJ p0.aD7]) (dI [71] (bI func173 (dR fu p0 _ z45)) (dI [72] LI (dI [73] bG (dI (hg:=bB g47) [1] bY (dD (hg:=bB g47) [75] eI (dI (hg:=bB g47) [76] UH (dI (hg:=bB g47) [77] rEq (dI [74,78] (EQ g47) (dI [79] bG (dD (hg:=bB g48) [4] (b5 [pS x2.aEa,rS x6,pI x10.aD8,pS x10.aD4,aT x10.aD5,cP x14,pB (decide ((x16.aD7.length:Int)>0)),pB v19,pI v20,pS v21,aT v22,VF v31 0]) ?_)))))))))))))
 refine dI (hg:=bB g48) [81] (bI func225 (LU fu (aI.mk x2.aEa x6 x10 x14 (decide ((x16.aD7.length:Int)>0)) v19 (aA.mk v20 v21 v22) v31) _ z49)) (dD (hg:=bB g48) [1] (b5 [pS p0.aEa,bJ p0.aD7]) (dI (hg:=bB g48) [82,83] (bI func221 (vY fu x50 p0 _ z51)) (dI (hg:=bB g48) [84] LI (dI [80,85] (EQ g48) (dN ?_)))))
 refine bE H (fun h53 H=>gE 6) fun h53 H=>?_;refine gQ 3 ?_;refine q1 (b5 [pS x2.aEa,rS x6,pI x10.aD8,pS x10.aD4,aT x10.aD5,cP x14,pB (decide ((x16.aD7.length:Int)>0)),pB v19,pI v20,pS v21,aT v22,VF v31 0]) ?_;exact gE 3
def LN(fu:Nat)(pf:aO)(x2:Bool):Nat→((Z aB))→J (LR ((Z aB)) aB):=fun i4 v6=>bd (cI fu ((aR pf.aEn i4).aD4)) fun x10=>bd (nO fu ((aR pf.aEn i4).aD6)) fun x12=>bd (mX fu ([x10,x12]:Z aB)) fun x14=>gd ((v6).length+(([x14]:Z aB)).length≤68719476736) (some (.next (v6++([x14]:Z aB))))
def uJ(fu:Nat)(pf:aO):J aB:=bd (pY fu pf) fun x2=>sw (!(x2)) (some (aB.mk s_ [])) (so (loopN (LN fu pf x2) (pf.aEn.length-0) 0 ([])) fun v6=>bd (cI fu aoH) fun x17=>bd (cI fu pf.aD4) fun x19=>bd (l0 fu pf.aEh) fun x21=>bd (D6 fu pf.aEk) fun x23=>bd (nO fu pf.aEl) fun x25=>bd (nK fu pf.aEe) fun x27=>bd (mX fu ([x17,x19,x21,x23,(aB.mk s_ v6),x25,x27]:Z aB)) fun x29=>bd (FY fu true x29) fun x31=>some x31)
theorem LO(fu:Nat)(pf:aO)(r:aB)(H:uJ fu pf=some r):bS prog 226 [(aO.pv pf)] ((aB.pv r)):=by
 refine qJ func226 H (fun C hC H=>?_)
 refine gQ 2 ?_;refine q1 (fN (BC pf)) ?_;refine gQ 5 ?_;refine q1 (b5 [pS pf.aD4,rS pf.aEh,cP pf.aEk,XI pf.aEn,pI pf.aEl.aD8,pS pf.aEl.aD4,aT pf.aEl.aD5,pI pf.aEe.aD8,pS pf.aEe.aEb,pS pf.aEe.aD4,pI pf.aEe.aEM,pI pf.aEe.aD6.aD8,pS pf.aEe.aD6.aD4,aT pf.aEe.aD6.aD5,jF pf.aEe.aD5,tA pf.aEe.aEo]) (bM H fun x2 z1 H=>(q1 (bI func232 (AM fu pf _ z1)) ?_))
 refine gQ 2 ?_;refine bE H (fun h3 H=>gE 5) fun h3 H=>?_;refine gQ 12 ?_;refine c7.wk (Wk.regBox (k:=2) (j:=1) 189 2 (by decide) rfl rfl) ?_;refine c7.fact (cQ 0 3 rfl rfl rfl (aV.trs_len _)) (fun hl7=>?_)
 refine bV (σ:=(Z aB)) (fun i4 v6=>⟨[(1,.ptr 0 0),(2,.ptr 1 0),(3,.ptr 2 0),(4,pN i4)],⟨[some ⟨213,BC pf⟩,some ⟨189,[pS s_,.nil]⟩,some ⟨189,[pS s_,eS v6 0]⟩],[⟨189,2,aB.trs (v6),false⟩]⟩⟩) (fun v6=>⟨[(1,.ptr 0 0),(2,.ptr 1 0),(3,.ptr 2 0)],⟨[some ⟨213,BC pf⟩,some ⟨189,[pS s_,.nil]⟩,some ⟨189,[pS s_,eS v6 0]⟩],[⟨189,2,aB.trs (v6),false⟩]⟩⟩) (eX H) ?_ ?_
 ·rintro i4 v6 H
  refine gQ 9 ?_;refine c5 H (fun h8 h8l H=>?_) (fun h8 H=>?_)
  ·refine gQ 3 ?_;refine bM H fun x10 z9 H=>(bM H fun x12 z11 H=>(bM H fun x14 z13 H=>(cK H fun z15 H=>(dW (dI [3] bY (dD [17] eI (dI [1] bY (dD [19] eI (dI [4] bG (dI [20,21] rB (dI [22] zL (dI [23] yB (dI [24] (bI func239 (b8 fu ((aR pf.aEn i4).aD4) _ z9)) ?_)))))))))))))
   refine dI [1] bY (dD [26] eI (dI [4] bG (dI [27,28] rB (dI [29] zL (dI [30] (iR (aA.cs ((aR pf.aEn i4).aD6))) (dI [31] (bI func242 (zJ fu ((aR pf.aEn i4).aD6) _ z11)) (dI [25,32] (iQ ([x10,x12]:Z aB)) (dI [33] (bI func238 (HK (nX fu) ([x10,x12]:Z aB) _ z13)) (dI [34] (iQ ([x14]:Z aB)) (dE [18,35] (mA z15) (dI [3] bY (mK [37,36] lT (dN ?_)))))))))))))
   exact gE 5
  exact gE 0
 rintro v6 H
 refine qS (bM H fun x17 z16 H=>(bM H fun x19 z18 H=>(bM H fun x21 z20 H=>(bM H fun x23 z22 H=>(bM H fun x25 z24 H=>(bM H fun x27 z26 H=>(bM H fun x29 z28 H=>(bM H fun x31 z30 H=>(dW (dI [] (bI func239 (b8 fu aoH _ z16)) (dI [1] bY (dD [39] eI (dI [40] (bI func239 (b8 fu pf.aD4 _ z18)) ?_)))))))))))))
 refine dI [1] bY (dD [42] eI (dI [43] (bI func240 (nL fu pf.aEh _ z20)) (dI [1] bY (dD [45] eI (dI [46] (bI func245 (QO fu pf.aEk _ z22)) (dD [3] (b5 [pS s_,eS v6 0]) (dI [1] bY (dD [49] (b5 [pI pf.aEl.aD8,pS pf.aEl.aD4,aT pf.aEl.aD5]) (dI [50] (bI func242 (zJ fu pf.aEl _ z24)) (dI [1] bY (dD [52] (b5 [pI pf.aEe.aD8,pS pf.aEe.aEb,pS pf.aEe.aD4,pI pf.aEe.aEM,pI pf.aEe.aD6.aD8,pS pf.aEe.aD6.aD4,aT pf.aEe.aD6.aD5,jF pf.aEe.aD5,tA pf.aEe.aEo]) (dI [53] (bI func243 (S8 fu pf.aEe _ z26)) (dI [38,41,44,47,48,51,54] (iQ ([x17,x19,x21,x23,(aB.mk s_ v6),x25,x27]:Z aB)) ?_)))))))))))))
 refine dI [55] (bI func238 (HK (nX fu) ([x17,x19,x21,x23,(aB.mk s_ v6),x25,x27]:Z aB) _ z28)) (dI [56] (bI func244 (KV fu true x29 _ z30)) (mK [2,57] lT (dN ?_)))
 exact gE 0
def LZ(fu:Nat)(p0 x2 x4:aB)(x6:LB)(x8:aB)(x10:Z aF)(x12:aB)(x14:aA)(x16:aB)(x18:aL)(x20:aB):Nat→((Z aV))→J (LR ((Z aV)) (aO×Bool)):=fun i21 v23=>bd (dO fu (aR x20.aD7 i21) 0) fun x27=>bd (dO fu (aR x20.aD7 i21) 1) fun x29=>bd (nP fu x29) fun x31=>gd ((v23).length+(([(aV.mk x27.aEa x31)]:Z aV)).length≤68719476736) (some (.next (v23++([(aV.mk x27.aEa x31)]:Z aV))))
def uM(fu:Nat)(p0:aB):J (aO×Bool):=bd (dO fu p0 1) fun x2=>bd (dO fu p0 2) fun x4=>bd (lZ fu x4) fun x6=>bd (dO fu p0 3) fun x8=>bd (A5 fu x8) fun x10=>bd (dO fu p0 5) fun x12=>bd (nP fu x12) fun x14=>bd (dO fu p0 6) fun x16=>bd (iG fu x16) fun x18=>bd (dO fu p0 4) fun x20=>so (loopN (LZ fu p0 x2 x4 x6 x8 x10 x12 x14 x16 x18 x20) (x20.aD7.length-0) 0 ([])) fun v23=>bd (iW fu p0) fun x34=>sw (!(x34)) (some ((aO.mk s_ [] [] [] (aA.mk 0 s_ []) (aL.mk 0 s_ s_ 0 (aA.mk 0 s_ []) [] [])),false)) (sw (decide ((p0.aD7.length:Int)=0)) (some ((aO.mk s_ [] [] [] (aA.mk 0 s_ []) (aL.mk 0 s_ s_ 0 (aA.mk 0 s_ []) [] [])),false)) (bd (uJ fu (aO.mk x2.aEa x6 x10 v23 x14 x18)) fun x38=>bd (fY fu x38 p0) fun x40=>sw (!(x40)) (some ((aO.mk s_ [] [] [] (aA.mk 0 s_ []) (aL.mk 0 s_ s_ 0 (aA.mk 0 s_ []) [] [])),false)) (some ((aO.mk x2.aEa x6 x10 v23 x14 x18),true))))
theorem L3(fu:Nat)(p0:aB)(r:aO×Bool)(H:uM fu p0=some r):bS prog 203 [(aB.pv p0)] (.tup [(aO.pv r.1),pB r.2]):=by
 refine qJ func203 H (fun C hC H=>?_)
 refine gQ 2 ?_;refine q1 (fN ([pS p0.aEa,bJ p0.aD7])) ?_;refine gQ 4 ?_;refine bM H fun x2 z1 H=>(bM H fun x4 z3 H=>(bM H fun x6 z5 H=>(bM H fun x8 z7 H=>(bM H fun x10 z9 H=>(bM H fun x12 z11 H=>(bM H fun x14 z13 H=>(bM H fun x16 z15 H=>(bM H fun x18 z17 H=>(dW (dB [1] 0 1 (IM [pS p0.aEa,bJ p0.aD7]) (dI [7] (bI func175 (dF fu p0 1 _ z1)) (dI [8] tF1 (dB [1] 0 1 (IM [pS p0.aEa,bJ p0.aD7]) ?_)))))))))))))
 refine dI [10] (bI func175 (dF fu p0 2 _ z3)) (dI [11] (bI func216 (qB fu x4 _ z5)) (dB [1] 0 1 (IM [pS p0.aEa,bJ p0.aD7]) (dI [13] (bI func175 (dF fu p0 3 _ z7)) (dI [14] (bI func224 (MK fu x8 _ z9)) (dB [1] 0 1 (IM [pS p0.aEa,bJ p0.aD7]) (dI [16] (bI func175 (dF fu p0 5 _ z11)) (dI [17] (bI func219 (zK fu x12 _ z13)) (dB [1] 0 1 (IM [pS p0.aEa,bJ p0.aD7]) (dI [19] (bI func175 (dF fu p0 6 _ z15)) (dI [20] (bI func220 (JP fu x16 _ z17)) (dI [9,12,15,18,21] rR (dE [] tAl (mK [4,22] lT ?_)))))))))))))
 refine dN ?_;refine gQ 2 ?_;refine q1 (b5 [pS p0.aEa,bJ p0.aD7]) (bM H fun x20 z19 H=>(q1 (bI func175 (dF fu p0 4 _ z19)) ?_))
 refine gQ 8 ?_;refine c7.wk (Wk.regBox (k:=2) (j:=3) 245 4 (by decide) rfl rfl) ?_;refine c7.fact (cQ 3 1 rfl rfl rfl (aB.trs_len _)) (fun hl24=>?_)
 refine bV (σ:=(Z aV)) (fun i21 v23=>⟨[(1,.ptr 0 0),(2,.ptr 1 0),(3,pB false),(4,.ptr 2 0),(5,.ptr 3 0),(6,pN i21)],⟨[some ⟨189,[pS p0.aEa,bJ p0.aD7]⟩,some ⟨213,[pS s_,.nil,.nil,.nil,pI 0,pS s_,.nil,pI 0,pS s_,pS s_,pI 0,pI 0,pS s_,.nil,.nil,.nil]⟩,some ⟨213,[pS x2.aEa,rS x6,cP x10,acL v23 0,pI x14.aD8,pS x14.aD4,aT x14.aD5,pI x18.aD8,pS x18.aEb,pS x18.aD4,pI x18.aEM,pI x18.aD6.aD8,pS x18.aD6.aD4,aT x18.aD6.aD5,jF x18.aD5,tA x18.aEo]⟩,some ⟨189,[pS x20.aEa,bJ x20.aD7]⟩],[⟨245,4,aV.trs (v23),false⟩]⟩⟩) (fun v23=>⟨[(1,.ptr 0 0),(2,.ptr 1 0),(3,pB false),(4,.ptr 2 0)],⟨[some ⟨189,[pS p0.aEa,bJ p0.aD7]⟩,some ⟨213,[pS s_,.nil,.nil,.nil,pI 0,pS s_,.nil,pI 0,pS s_,pS s_,pI 0,pI 0,pS s_,.nil,.nil,.nil]⟩,some ⟨213,[pS x2.aEa,rS x6,cP x10,acL v23 0,pI x14.aD8,pS x14.aD4,aT x14.aD5,pI x18.aD8,pS x18.aEb,pS x18.aD4,pI x18.aEM,pI x18.aD6.aD8,pS x18.aD6.aD4,aT x18.aD6.aD5,jF x18.aD5,tA x18.aEo]⟩,some ⟨189,[pS x20.aEa,bJ x20.aD7]⟩],[⟨245,4,aV.trs (v23),false⟩]⟩⟩) (eX H) ?_ ?_
 ·rintro i21 v23 H
  refine gQ 9 ?_;refine c5 H (fun h25 h25l H=>?_) (fun h25 H=>?_)
  ·refine gQ 3 ?_;refine bM H fun x27 z26 H=>(bM H fun x29 z28 H=>(bM H fun x31 z30 H=>(cK H fun z32 H=>(dW (dI [4] bY (dD [32] eI (dI [5] bY (dD [34] eI (dI [6] bG (dI [35,36] rB (dI [37] (iR (aB.cs (aR x20.aD7 i21))) (dI [38] (bI func175 (dF fu (aR x20.aD7 i21) 0 _ z26)) (dI [39] tF1 ?_)))))))))))))
   refine dI [5] bY (dD [41] eI (dI [6] bG (dI [42,43] rB (dI [44] (iR (aB.cs (aR x20.aD7 i21))) (dI [45] (bI func175 (dF fu (aR x20.aD7 i21) 1 _ z28)) (dI [46] (bI func219 (zK fu x29 _ z30)) (dI [40,47] rR (dI [48] (iQ ([(aV.mk x27.aEa x31)]:Z aV)) (dE [33,49] (mA z32) (dI [4] bY (mK [51,50] lT (dN ?_))))))))))))
   exact gE 5
  exact gE 0
 rintro v23 H
 refine gQ 2 ?_;refine bM H fun x34 z33 H=>?_
 rcases n0 (!(x34)) with g35|g35
 ·have H:=r9 H g35
  refine dW (dD [1] (b5 [pS p0.aEa,bJ p0.aD7]) (dI [52] (bI func173 (dR fu p0 _ z33)) (dI [53] LI (dI [54] bG ?_))))
  iterate 4 refine KA g35 ?_
  refine dI [55] (DB g35) (dI [60] bG ?_)
  iterate 5 refine KA rfl ?_
  refine dI [61] (DB rfl) (dN ?_)
  exact gE 7
 have H:=r8 H g35
 rcases n0 (decide ((p0.aD7.length:Int)=0)) with g36|g36
 ·have H:=r9 H g36
  refine dW (dD [1] (b5 [pS p0.aEa,bJ p0.aD7]) (dI [52] (bI func173 (dR fu p0 _ z33)) (dI [53] LI (dI [54] bG (dI (hg:=bB g35) [1] bY (dD (hg:=bB g35) [56] eI (dI (hg:=bB g35) [57] UH (dI (hg:=bB g35) [58] rEq (dI [55,59] (EQ g35) (dI [60] bG ?_))))))))))
  iterate 5 refine KA g36 ?_
  refine dI [61] (DB g36) (dN ?_)
  exact gE 7
 have H:=r8 H g36
 refine bM H fun x38 z37 H=>(bM H fun x40 z39 H=>(dW (dD [1] (b5 [pS p0.aEa,bJ p0.aD7]) (dI [52] (bI func173 (dR fu p0 _ z33)) (dI [53] LI (dI [54] bG (dI (hg:=bB g35) [1] bY (dD (hg:=bB g35) [56] eI (dI (hg:=bB g35) [57] UH (dI (hg:=bB g35) [58] rEq (dI [55,59] (EQ g35) (dI [60] bG (dD (hg:=bB g36) [4] (b5 [pS x2.aEa,rS x6,cP x10,acL v23 0,pI x14.aD8,pS x14.aD4,aT x14.aD5,pI x18.aD8,pS x18.aEb,pS x18.aD4,pI x18.aEM,pI x18.aD6.aD8,pS x18.aD6.aD4,aT x18.aD6.aD5,jF x18.aD5,tA x18.aEo]) ?_)))))))))))))
 refine dI (hg:=bB g36) [62] (bI func226 (LO fu (aO.mk x2.aEa x6 x10 v23 x14 x18) _ z37)) (dD (hg:=bB g36) [1] (b5 [pS p0.aEa,bJ p0.aD7]) (dI (hg:=bB g36) [63,64] (bI func221 (vY fu x38 p0 _ z39)) (dI (hg:=bB g36) [65] LI (dI [61,66] (EQ g36) (dN ?_)))))
 refine bE H (fun h41 H=>gE 6) fun h41 H=>?_;refine gQ 3 ?_;refine q1 (b5 [pS x2.aEa,rS x6,cP x10,acL v23 0,pI x14.aD8,pS x14.aD4,aT x14.aD5,pI x18.aD8,pS x18.aEb,pS x18.aD4,pI x18.aEM,pI x18.aD6.aD8,pS x18.aD6.aD4,aT x18.aD6.aD5,jF x18.aD5,tA x18.aEo]) ?_;exact gE 3
def ad8(fu:Nat)(ps:Y):Nat→Unit→J (LR Unit Bool):=fun i1 _=>gd (i1<(ps).size) (sw (!decide ((((wG ps i1).toNat:Int):Int)=32)) (some (.ret false)) (some (.next ())))
def JT(fu:Nat)(ps:Y):J Bool:=so (loopN (ad8 fu ps) (ps.size-0) 0 ()) fun _=>some true
theorem ad9(fu:Nat)(ps:Y)(r:Bool)(H:JT fu ps=some r):bS prog 97 [pS ps] (pB r):=by
 refine qJ func97 H (fun C hC H=>?_)
 refine gQ 9 ?_;refine szF 0 (fun hl2=>?_)
 refine bV (σ:=Unit) (fun i1 _=>⟨[(0,pS ps),(2,pB false),(3,pN i1)],⟨[],[]⟩⟩) (fun _=>⟨[(2,pB false)],⟨[],[]⟩⟩) (eX H) ?_ ?_
 ·rintro i1 ⟨⟩ H
  refine gQ 5 ?_;refine q1 (bC.lenS rfl rfl rfl underlying9) ?_;refine gQ 2 ?_;refine c5 H (fun h3 h3l H=>?_) (fun h3 H=>?_)
  ·have h3n:i1<ps.size:=by have:=of_decide_eq_true h3;omega
   refine gQ 7 ?_;refine cK H fun z4 H=>(q1 (bC.indexS (k:=i1) rfl rfl rfl rfl z4 underlying9) ?_)
   refine gQ 2 ?_;refine bE H (fun h5 H=>gE 4) fun h5 H=>?_;exact gE 6
  exact gE 0
 rintro⟨⟩ H
 exact gE 4
def C2(fu:Nat)(p1:Y×(LB)×(Z aU)×(Z aM)×(Z aI)×(Z aO))(p2:aB):J (Bool×(Y×(LB)×(Z aU)×(Z aM)×(Z aI)×(Z aO))):=bd (dO fu p2 0) fun x2=>sw (decide (x2.aEa=rY)) (bd (qY fu p2) fun(x5,x6)=>gd ((p1.2.2.1).length+(([x5]:Z aU)).length≤68719476736) (some (x6,(p1.1,p1.2.1,p1.2.2.1++([x5]:Z aU),p1.2.2.2.1,p1.2.2.2.2.1,p1.2.2.2.2.2)))) (sw (decide (x2.aEa=S4)) (bd (uL fu p2) fun(x10,x11)=>gd ((p1.2.2.2.1).length+(([x10]:Z aM)).length≤68719476736) (some (x11,(p1.1,p1.2.1,p1.2.2.1,p1.2.2.2.1++([x10]:Z aM),p1.2.2.2.2.1,p1.2.2.2.2.2)))) (sw (decide (x2.aEa=S5)) (bd (uN fu p2) fun(x15,x16)=>gd ((p1.2.2.2.2.1).length+(([x15]:Z aI)).length≤68719476736) (some (x16,(p1.1,p1.2.1,p1.2.2.1,p1.2.2.2.1,p1.2.2.2.2.1++([x15]:Z aI),p1.2.2.2.2.2)))) (sw (decide (x2.aEa=aoH)) (bd (uM fu p2) fun(x20,x21)=>gd ((p1.2.2.2.2.2).length+(([x20]:Z aO)).length≤68719476736) (some (x21,(p1.1,p1.2.1,p1.2.2.1,p1.2.2.2.1,p1.2.2.2.2.1,p1.2.2.2.2.2++([x20]:Z aO))))) (some (false,p1)))))
theorem ah5(fu:Nat)(p1:Y×(LB)×(Z aU)×(Z aM)×(Z aI)×(Z aO))(p2:aB)(r:Bool×(Y×(LB)×(Z aU)×(Z aM)×(Z aI)×(Z aO)))(H:C2 fu p1 p2=some r):cF prog 176 [.ptr 0 0,(aB.pv p2)] ⟨[some ⟨141,[pS p1.1,rS p1.2.1,BT p1.2.2.1 0,n3 p1.2.2.2.1 1,n5 p1.2.2.2.2.1 2,n4 p1.2.2.2.2.2 3]⟩],[⟨156,5,aU.trs (p1.2.2.1),false⟩,⟨39,3,aM.trs (p1.2.2.2.1),false⟩,⟨163,12,aI.trs (p1.2.2.2.2.1),false⟩,⟨213,16,aO.trs (p1.2.2.2.2.2),false⟩]⟩ (fun q t=>q=(pB r.1)∧t=⟨[some ⟨141,[pS r.2.1,rS r.2.2.1,BT r.2.2.2.1 0,n3 r.2.2.2.2.1 1,n5 r.2.2.2.2.2.1 2,n4 r.2.2.2.2.2.2 3]⟩],[⟨156,5,aU.trs (r.2.2.2.1),false⟩,⟨39,3,aM.trs (r.2.2.2.2.1),false⟩,⟨163,12,aI.trs (r.2.2.2.2.2.1),false⟩,⟨213,16,aO.trs (r.2.2.2.2.2.2),false⟩]⟩):=by
 refine qJ func176 H (fun C hC H=>?_)
 refine gQ 2 ?_;refine q1 (fN ([pS p2.aEa,bJ p2.aD7])) ?_;refine gQ 5 ?_;refine q1 (b5 [pS p2.aEa,bJ p2.aD7]) (bM H fun x2 z1 H=>(q1 (bI func175 (dF fu p2 0 _ z1)) ?_))
 refine gQ 8 ?_;refine bE H (fun h3 H=>?_) (fun h3 H=>?_)
 ·refine gQ 2 ?_;refine q1 (b5 [pS p2.aEa,bJ p2.aD7]) (eO H fun x5 x6 z4 H=>(q1 (bI func200 (SX fu p2 _ z4)) ?_))
  refine gQ 8 ?_;refine cK H fun z7 H=>(dW ?_)
  iterate 2 refine dI [0] bG ?_
  refine dI [24] vW (dI [25] bY (dD [26] eI (dD [5] (b5 [pS x5.aD4,rS x5.aEc,pB x5.aEA,pB x5.aEq,gS x5.aEp]) (dI [28] (iQ ([x5]:Z aU)) (dE [27,29] (mA z7) (dI [23] vW (dI [31] bY (mK [32,30] lT (dN ?_)))))))))
  exact gE 5
 refine gQ 5 ?_;refine bE H (fun h8 H=>?_) (fun h8 H=>?_)
 ·refine gQ 2 ?_;refine q1 (b5 [pS p2.aEa,bJ p2.aD7]) (eO H fun x10 x11 z9 H=>(q1 (bI func201 (LY fu p2 _ z9)) ?_))
  refine gQ 8 ?_;refine cK H fun z12 H=>(dW ?_)
  iterate 2 refine dI [0] bG ?_
  refine dI [42] vW (dI [43] bY (dD [44] eI (dD [7] (b5 [pS x10.aD4,rS x10.aEh,dT x10.aD9]) (dI [46] (iQ ([x10]:Z aM)) (dE [45,47] (mA z12) (dI [41] vW (dI [49] bY (mK [50,48] lT (dN ?_)))))))))
  exact gE 5
 refine gQ 5 ?_;refine bE H (fun h13 H=>?_) (fun h13 H=>?_)
 ·refine gQ 2 ?_;refine q1 (b5 [pS p2.aEa,bJ p2.aD7]) (eO H fun x15 x16 z14 H=>(q1 (bI func202 (L6 fu p2 _ z14)) ?_))
  refine gQ 8 ?_;refine cK H fun z17 H=>(dW ?_)
  iterate 2 refine dI [0] bG ?_
  refine dI [60] vW (dI [61] bY (dD [62] eI (dD [9] (b5 [pS x15.aEb,rS x15.aEh,pI x15.aEj.aD8,pS x15.aEj.aD4,aT x15.aEj.aD5,cP x15.aEk,pB x15.aEy,pB x15.aEE,pI x15.aEq.aD8,pS x15.aEq.aD4,aT x15.aEq.aD5,nD x15.aEw]) (dI [64] (iQ ([x15]:Z aI)) (dE [63,65] (mA z17) (dI [59] vW (dI [67] bY (mK [68,66] lT (dN ?_)))))))))
  exact gE 5
 refine gQ 5 ?_;refine bE H (fun h18 H=>?_) (fun h18 H=>?_)
 ·refine gQ 2 ?_;refine q1 (b5 [pS p2.aEa,bJ p2.aD7]) (eO H fun x20 x21 z19 H=>(q1 (bI func203 (L3 fu p2 _ z19)) ?_))
  refine gQ 8 ?_;refine cK H fun z22 H=>(dW ?_)
  iterate 2 refine dI [0] bG ?_
  refine dI [78] vW (dI [79] bY (dD [80] eI (dD [11] (b5 [pS x20.aD4,rS x20.aEh,cP x20.aEk,XI x20.aEn,pI x20.aEl.aD8,pS x20.aEl.aD4,aT x20.aEl.aD5,pI x20.aEe.aD8,pS x20.aEe.aEb,pS x20.aEe.aD4,pI x20.aEe.aEM,pI x20.aEe.aD6.aD8,pS x20.aEe.aD6.aD4,aT x20.aEe.aD6.aD5,jF x20.aEe.aD5,tA x20.aEe.aEo]) (dI [82] (iQ ([x20]:Z aO)) (dE [81,83] (mA z22) (dI [77] vW (dI [85] bY (mK [86,84] lT (dN ?_)))))))))
  exact gE 5
 exact gE 5
def aeA(fu:Nat)(p0:aN):Nat→((LB))→J (LR ((LB)) ((LB)×(LB)×(LB)×(LB))):=fun i1 v3=>gd ((v3).length+(([((aR p0.aEi i1).aD4)]:LB)).length≤68719476736) (some (.next (v3++([((aR p0.aEi i1).aD4)]:LB))))
def aeC(fu:Nat)(p0:aN)(v3:LB)(i7:Nat)(v10 v11:LB):Nat→((LB))→J (LR ((LB)) (LR ((LB)×(LB)) ((LB)×(LB)×(LB)×(LB)))):=fun i15 v17=>gd ((v17).length+(([((aR ((aR p0.aEd i7).aD9) i15).aD4)]:LB)).length≤68719476736) (some (.next (v17++([((aR ((aR p0.aEd i7).aD9) i15).aD4)]:LB))))
def aeB(fu:Nat)(p0:aN)(v3:LB):Nat→((LB)×(LB))→J (LR ((LB)×(LB)) ((LB)×(LB)×(LB)×(LB))):=fun i7 (v10,v11)=>gd ((v10).length+(([((aR p0.aEd i7).aD4)]:LB)).length≤68719476736) (so (loopN (aeC fu p0 v3 i7 v10 v11) (((aR p0.aEd i7).aD9).length-0) 0 v11) fun v17=>some (.next ((v10++([((aR p0.aEd i7).aD4)]:LB)),v17)))
def aeD(fu:Nat)(p0:aN)(v3 v10 v11:LB):Nat→((LB))→J (LR ((LB)) ((LB)×(LB)×(LB)×(LB))):=fun i21 v23=>lt (aR p0.aEs i21) fun y26=>gd ((v23).length+(([y26.aD4]:LB)).length≤68719476736) (some (.next (v23++([y26.aD4]:LB))))
def JU(fu:Nat)(p0:aN):J ((LB)×(LB)×(LB)×(LB)):=so (loopN (aeA fu p0) (p0.aEi.length-0) 0 ([])) fun v3=>so (loopN (aeB fu p0 v3) (p0.aEd.length-0) 0 (([]),([]))) fun(v10,v11)=>so (loopN (aeD fu p0 v3 v10 v11) (p0.aEs.length-0) 0 ([])) fun v23=>some (v3,v10,v11,v23)
theorem aeE(fu:Nat)(p0:aN)(r:(LB)×(LB)×(LB)×(LB))(H:JU fu p0=some r):bS prog 204 [(aN.pv p0)] (.tup [rS r.1,rS r.2.1,rS r.2.2.1,rS r.2.2.2]):=by
 refine qJ func204 H (fun C hC H=>?_)
 refine gQ 2 ?_;refine q1 (fN (fG p0)) ?_;refine gQ 7 ?_;refine q1 (sA ([]:LB)) ?_;refine gQ 4 ?_;refine q1 (sA ([]:LB)) ?_;refine gQ 4 ?_;refine q1 (sA ([]:LB)) ?_;refine gQ 4 ?_;refine q1 (sA ([]:LB)) ?_;refine gQ 7 ?_;refine c7.fact (cQ 0 2 rfl rfl rfl (aU.trs_len _)) (fun hl4=>?_)
 refine bV (σ:=(LB)) (fun i1 v3=>⟨[(1,.ptr 0 0),(2,.nil),(3,.nil),(4,.nil),(5,.nil),(6,aS v3 0),(7,aS [] 1),(8,aS [] 2),(9,aS [] 3),(10,pN i1)],⟨[some ⟨141,fG p0⟩],[⟨9,1,aY (v3),false⟩,⟨9,1,aY ([]),false⟩,⟨9,1,aY ([]),false⟩,⟨9,1,aY ([]),false⟩]⟩⟩) (fun v3=>⟨[(1,.ptr 0 0),(2,.nil),(3,.nil),(4,.nil),(5,.nil),(6,aS v3 0),(7,aS [] 1),(8,aS [] 2),(9,aS [] 3)],⟨[some ⟨141,fG p0⟩],[⟨9,1,aY (v3),false⟩,⟨9,1,aY ([]),false⟩,⟨9,1,aY ([]),false⟩,⟨9,1,aY ([]),false⟩]⟩⟩) (eX H) ?_ ?_
 ·rintro i1 v3 H
  refine gQ 9 ?_;refine c5 H (fun h5 h5l H=>?_) (fun h5 H=>?_)
  ·refine gQ 11 ?_;refine q1 (iQ ([((aR p0.aEi i1).aD4)]:LB)) (cK H fun z6 H=>(q1 (mA z6) ?_))
   exact gE 7
  exact gE 0
 rintro v3 H
 refine gQ 5 ?_;refine c7.fact (cQ 0 3 rfl rfl rfl (aM.trs_len _)) (fun hl12=>?_)
 refine bV (σ:=(LB)×(LB)) (fun i7 (v10,v11)=>⟨[(1,.ptr 0 0),(2,.nil),(3,.nil),(4,.nil),(5,.nil),(6,aS v3 0),(7,aS v10 1),(8,aS v11 2),(9,aS [] 3),(11,pN i7)],⟨[some ⟨141,fG p0⟩],[⟨9,1,aY (v3),false⟩,⟨9,1,aY (v10),false⟩,⟨9,1,aY (v11),false⟩,⟨9,1,aY ([]),false⟩]⟩⟩) (fun(v10,v11)=>⟨[(1,.ptr 0 0),(2,.nil),(3,.nil),(4,.nil),(5,.nil),(6,aS v3 0),(7,aS v10 1),(8,aS v11 2),(9,aS [] 3)],⟨[some ⟨141,fG p0⟩],[⟨9,1,aY (v3),false⟩,⟨9,1,aY (v10),false⟩,⟨9,1,aY (v11),false⟩,⟨9,1,aY ([]),false⟩]⟩⟩) (eX H) ?_ ?_
 ·rintro i7 ⟨v10,v11⟩ H
  refine gQ 9 ?_;refine c5 H (fun h13 h13l H=>?_) (fun h13 H=>?_)
  ·refine gQ 12 ?_;refine q1 (iQ ([((aR p0.aEd i7).aD4)]:LB)) (cK H fun z14 H=>(q1 (mA z14) ?_))
   refine gQ 6 ?_;refine bV (σ:=(LB)) (fun i15 v17=>⟨[(1,.ptr 0 0),(2,.nil),(3,.nil),(4,.nil),(5,.nil),(6,aS v3 0),(7,aS (v10++([((aR p0.aEd i7).aD4)]:LB)) 1),(8,aS v17 2),(9,aS [] 3),(11,pN i7),(12,pN i15),(34,pN i7),(35,.ptr 0 3),(36,rF p0.aEd),(37,pN p0.aEd.length),(38,pB (decide ((i7:Int)<(p0.aEd.length:Int)))),(41,aS v10 1),(42,.ptr 0 3),(43,rF p0.aEd),(44,pN i7),(45,.eptr (aM.cs (aR p0.aEd i7))),(46,.eptr (aM.cs (aR p0.aEd i7))),(47,pS ((aR p0.aEd i7).aD4)),(48,rS ([((aR p0.aEd i7).aD4)]:LB)),(49,aS (v10++([((aR p0.aEd i7).aD4)]:LB)) 1)],⟨[some ⟨141,fG p0⟩],[⟨9,1,aY (v3),false⟩,⟨9,1,aY (v10++([((aR p0.aEd i7).aD4)]:LB)),false⟩,⟨9,1,aY (v17),false⟩,⟨9,1,aY ([]),false⟩]⟩⟩) (fun v17=>⟨[(1,.ptr 0 0),(2,.nil),(3,.nil),(4,.nil),(5,.nil),(6,aS v3 0),(7,aS (v10++([((aR p0.aEd i7).aD4)]:LB)) 1),(8,aS v17 2),(9,aS [] 3),(11,pN i7),(34,pN i7),(35,.ptr 0 3),(36,rF p0.aEd),(37,pN p0.aEd.length),(38,pB (decide ((i7:Int)<(p0.aEd.length:Int)))),(41,aS v10 1),(42,.ptr 0 3),(43,rF p0.aEd),(44,pN i7),(45,.eptr (aM.cs (aR p0.aEd i7))),(46,.eptr (aM.cs (aR p0.aEd i7))),(47,pS ((aR p0.aEd i7).aD4)),(48,rS ([((aR p0.aEd i7).aD4)]:LB)),(49,aS (v10++([((aR p0.aEd i7).aD4)]:LB)) 1)],⟨[some ⟨141,fG p0⟩],[⟨9,1,aY (v3),false⟩,⟨9,1,aY (v10++([((aR p0.aEd i7).aD4)]:LB)),false⟩,⟨9,1,aY (v17),false⟩,⟨9,1,aY ([]),false⟩]⟩⟩) (eX H) ?_ ?_
   ·rintro i15 v17 H
    refine gQ 10 ?_;refine ZW 56 (aC.trs_len _) (fun hl18=>?_)
    refine gQ 3 ?_;refine c5 H (fun h19 h19l H=>?_) (fun h19 H=>?_)
    ·refine gQ 15 ?_;refine q1 (iQ ([((aR ((aR p0.aEd i7).aD9) i15).aD4)]:LB)) (cK H fun z20 H=>(q1 (mA z20) ?_))
     exact gE 7
    exact gE 0
   rintro v17 H
   exact gE 5
  exact gE 0
 rintro⟨v10,v11⟩ H
 refine gQ 5 ?_;refine c7.fact (cQ 0 5 rfl rfl rfl (aO.trs_len _)) (fun hl24=>?_)
 refine bV (σ:=(LB)) (fun i21 v23=>⟨[(1,.ptr 0 0),(2,.nil),(3,.nil),(4,.nil),(5,.nil),(6,aS v3 0),(7,aS v10 1),(8,aS v11 2),(9,aS v23 3),(13,pN i21)],⟨[some ⟨141,fG p0⟩],[⟨9,1,aY (v3),false⟩,⟨9,1,aY (v10),false⟩,⟨9,1,aY (v11),false⟩,⟨9,1,aY (v23),false⟩]⟩⟩) (fun v23=>⟨[(2,.nil),(3,.nil),(4,.nil),(5,.nil),(6,aS v3 0),(7,aS v10 1),(8,aS v11 2),(9,aS v23 3)],⟨[some ⟨141,fG p0⟩],[⟨9,1,aY (v3),false⟩,⟨9,1,aY (v10),false⟩,⟨9,1,aY (v11),false⟩,⟨9,1,aY (v23),false⟩]⟩⟩) (eX H) ?_ ?_
 ·rintro i21 v23 H
  refine gQ 9 ?_;refine c5 H (fun h25 h25l H=>?_) (fun h25 H=>?_)
  ·refine gQ 8 ?_;refine gI H fun y26 h27 H=>(q1 (zM h27 h25l) ?_)
   refine gQ 2 ?_;refine q1 (iQ ([y26.aD4]:LB)) (cK H fun z28 H=>(q1 (mA z28) ?_))
   exact gE 7
  exact gE 0
 rintro v23 H
 exact gE 11
def QP(fu:Nat)(pp:aN):Nat→Unit→J (LR Unit Bool):=fun i1 _=>bd (t9 fu (aR pp.aEi i1)) fun x5=>sw (!(x5)) (some (.ret false)) (some (.next ()))
def QQ(fu:Nat)(pp:aN):Nat→Unit→J (LR Unit Bool):=fun i7 _=>bd (kQ fu (aR pp.aEd i7)) fun x11=>sw (!(x11)) (some (.ret false)) (some (.next ()))
def QR(fu:Nat)(pp:aN):Nat→Unit→J (LR Unit Bool):=fun i13 _=>lt (aR pp.aEg i13) fun y16=>bd (kR fu y16) fun x19=>sw (!(x19)) (some (.ret false)) (some (.next ()))
def QS(fu:Nat)(pp:aN):Nat→Unit→J (LR Unit Bool):=fun i21 _=>lt (aR pp.aEs i21) fun y24=>bd (pY fu y24) fun x27=>sw (!(x27)) (some (.ret false)) (some (.next ()))
def zF(fu:Nat)(pp:aN):J Bool:=so (loopN (QP fu pp) (pp.aEi.length-0) 0 ()) fun _=>so (loopN (QQ fu pp) (pp.aEd.length-0) 0 ()) fun _=>so (loopN (QR fu pp) (pp.aEg.length-0) 0 ()) fun _=>so (loopN (QS fu pp) (pp.aEs.length-0) 0 ()) fun _=>some true
theorem aeF(fu:Nat)(pp:aN)(r:Bool)(H:zF fu pp=some r):bS prog 208 [(aN.pv pp)] (pB r):=by
 refine qJ func208 H (fun C hC H=>?_)
 refine gQ 2 ?_;refine q1 (fN (fG pp)) ?_;refine gQ 7 ?_;refine c7.fact (cQ 0 2 rfl rfl rfl (aU.trs_len _)) (fun hl2=>?_)
 refine bV (σ:=Unit) (fun i1 _=>⟨[(1,.ptr 0 0),(2,pB false),(3,pN i1)],⟨[some ⟨141,fG pp⟩],[]⟩⟩) (fun _=>⟨[(1,.ptr 0 0),(2,pB false)],⟨[some ⟨141,fG pp⟩],[]⟩⟩) (eX H) ?_ ?_
 ·rintro i1 ⟨⟩ H
  refine gQ 9 ?_;refine c5 H (fun h3 h3l H=>?_) (fun h3 H=>?_)
  ·refine gQ 9 ?_;refine q1 (iR (aU.cs (aR pp.aEi i1))) (bM H fun x5 z4 H=>(q1 (bI func229 (FV fu (aR pp.aEi i1) _ z4)) ?_))
   refine gQ 2 ?_;refine bE H (fun h6 H=>gE 4) fun h6 H=>?_;exact gE 6
  exact gE 0
 rintro⟨⟩ H
 refine gQ 5 ?_;refine c7.fact (cQ 0 3 rfl rfl rfl (aM.trs_len _)) (fun hl8=>?_)
 refine bV (σ:=Unit) (fun i7 _=>⟨[(1,.ptr 0 0),(2,pB false),(4,pN i7)],⟨[some ⟨141,fG pp⟩],[]⟩⟩) (fun _=>⟨[(1,.ptr 0 0),(2,pB false)],⟨[some ⟨141,fG pp⟩],[]⟩⟩) (eX H) ?_ ?_
 ·rintro i7 ⟨⟩ H
  refine gQ 9 ?_;refine c5 H (fun h9 h9l H=>?_) (fun h9 H=>?_)
  ·refine gQ 9 ?_;refine q1 (iR (aM.cs (aR pp.aEd i7))) (bM H fun x11 z10 H=>(q1 (bI func230 (AK fu (aR pp.aEd i7) _ z10)) ?_))
   refine gQ 2 ?_;refine bE H (fun h12 H=>gE 4) fun h12 H=>?_;exact gE 6
  exact gE 0
 rintro⟨⟩ H
 refine gQ 5 ?_;refine c7.fact (cQ 0 4 rfl rfl rfl (aI.trs_len _)) (fun hl14=>?_)
 refine bV (σ:=Unit) (fun i13 _=>⟨[(1,.ptr 0 0),(2,pB false),(5,pN i13)],⟨[some ⟨141,fG pp⟩],[]⟩⟩) (fun _=>⟨[(1,.ptr 0 0),(2,pB false)],⟨[some ⟨141,fG pp⟩],[]⟩⟩) (eX H) ?_ ?_
 ·rintro i13 ⟨⟩ H
  refine gQ 9 ?_;refine c5 H (fun h15 h15l H=>?_) (fun h15 H=>?_)
  ·refine gQ 8 ?_;refine gI H fun y16 h17 H=>(q1 (zM h17 h15l) (q1 (iR (aI.cs y16)) (bM H fun x19 z18 H=>(q1 (bI func231 (AQ fu y16 _ z18)) ?_))))
   refine gQ 2 ?_;refine bE H (fun h20 H=>gE 4) fun h20 H=>?_;exact gE 6
  exact gE 0
 rintro⟨⟩ H
 refine gQ 5 ?_;refine c7.fact (cQ 0 5 rfl rfl rfl (aO.trs_len _)) (fun hl22=>?_)
 refine bV (σ:=Unit) (fun i21 _=>⟨[(1,.ptr 0 0),(2,pB false),(6,pN i21)],⟨[some ⟨141,fG pp⟩],[]⟩⟩) (fun _=>⟨[(2,pB false)],⟨[some ⟨141,fG pp⟩],[]⟩⟩) (eX H) ?_ ?_
 ·rintro i21 ⟨⟩ H
  refine gQ 9 ?_;refine c5 H (fun h23 h23l H=>?_) (fun h23 H=>?_)
  ·refine gQ 8 ?_;refine gI H fun y24 h25 H=>(q1 (zM h25 h23l) (q1 (iR (aO.cs y24)) (bM H fun x27 z26 H=>(q1 (bI func232 (AM fu y24 _ z26)) ?_))))
   refine gQ 2 ?_;refine bE H (fun h28 H=>gE 4) fun h28 H=>?_;exact gE 6
  exact gE 0
 rintro⟨⟩ H
 exact gE 4
def nH(fu:Nat)(p0:aN):J Bool:=bd (JU fu p0) fun(x2,x3,x4,x5)=>bd (dM fu p0.aD4) fun x7=>sw (!(x7)) (some false) (bd (gV fu p0.aEF 5) fun x10=>sw (!(x10)) (some false) (bd (lS fu p0.aEF p0.aD4) fun x13=>sw x13 (some false) (sw (decide ((aW ((aW ((aW ((p0.aEi.length:Int)+(p0.aEd.length:Int)))+(p0.aEg.length:Int)))+(p0.aEs.length:Int)):Int)>24)) (some false) (bd (lH fu x2) fun x17=>sw x17 (bd (lH fu x3) fun x20=>sw x20 (bd (lH fu x4) fun x23=>sw x23 (bd (lH fu x5) fun x26=>sw x26 (bd (zF fu p0) fun x29=>some x29) (some false)) (some false)) (some false)) (some false)))))
theorem NY(fu:Nat)(p0:aN)(r:Bool)(H:nH fu p0=some r):bS prog 177 [(aN.pv p0)] (pB r):=by
 refine qJ func177 H (fun C hC H=>?_)
 refine gQ 2 ?_;refine q1 (fN (fG p0)) ?_;refine gQ 4 ?_;refine q1 (b5 [pS p0.aD4,rS p0.aEF,SI p0.aEi,rF p0.aEd,oJ p0.aEg,KR p0.aEs]) (ayO H fun x2 x3 x4 x5 z1 H=>(q1 (bI func204 (aeE fu p0 _ z1)) ?_))
 refine gQ 15 ?_;refine bM H fun x7 z6 H=>(q1 (bI func205 (eN fu p0.aD4 _ z6)) ?_)
 refine gQ 2 ?_;refine dK 18 H (fun g8 H=>gE 36) fun g8 H=>?_;refine gQ 2 ?_;refine bM H fun x10 z9 H=>(qg g8 (bI func206 (iC fu p0.aEF 5 _ z9)) ?_)
 refine gQ 3 ?_;refine dK 24 H (fun g11 H=>gE 30) fun g11 H=>?_;refine gQ 4 ?_;refine bM H fun x13 z12 H=>(qg g11 (bI func153 (mW fu p0.aEF p0.aD4 _ z12)) ?_)
 refine gQ 2 ?_;refine dK 31 H (fun g14 H=>gE 23) fun g14 H=>?_;refine gQ 6 ?_;refine qg g14 rAw ?_;refine gQ 3 ?_;refine qg g14 rAw ?_;refine gQ 3 ?_;refine qg g14 rAw ?_;refine gQ 3 ?_;refine bE H (fun h15 H=>gE 4) fun h15 H=>?_;refine gQ 4 ?_;refine bM H fun x17 z16 H=>(q1 (bI func207 (mT fu x2 _ z16)) (q1 bG ?_))
 refine dK 51 H (fun g18 H=>?_) fun g18 H=>?_
 ·refine qg g18 bG (bM H fun x20 z19 H=>(qg g18 (bI func207 (mT fu x3 _ z19)) ?_))
  refine gQ 2 ?_;refine dK 55 H (fun g21 H=>?_) fun g21 H=>?_
  ·refine qg g21 bG (bM H fun x23 z22 H=>(qg g21 (bI func207 (mT fu x4 _ z22)) ?_))
   refine gQ 2 ?_;refine dK 59 H (fun g24 H=>?_) fun g24 H=>?_
   ·refine qg g24 bG (bM H fun x26 z25 H=>(qg g24 (bI func207 (mT fu x5 _ z25)) ?_))
    refine gQ 2 ?_;refine dK 63 H (fun g27 H=>?_) fun g27 H=>?_
    ·refine qg g27 (b5 [pS p0.aD4,rS p0.aEF,SI p0.aEi,rF p0.aEd,oJ p0.aEg,KR p0.aEs]) (bM H fun x29 z28 H=>(qg g27 (bI func208 (aeF fu p0 _ z28)) ?_))
     exact gE 3
    exact gE 5
   exact gE 9
  exact gE 13
 exact gE 17
def uO(fu:Nat)(p0 x2:aB)(x4:LB)(x5:Bool)(x7:aB)(x9:Bool):Nat→(Y×(LB)×(Z aU)×(Z aM)×(Z aI)×(Z aO))→J (LR (Y×(LB)×(Z aU)×(Z aM)×(Z aI)×(Z aO)) (aN×Bool)):=fun i17 (v18,v19,v24,v25,v26,v27)=>bd (C2 fu (v18,v19,v24,v25,v26,v27) (aR p0.aD7 i17)) fun(x31,x32)=>sw (!(x31)) (some (.ret ((aN.mk s_ [] [] [] [] []),false))) (some (.next (x32.1,x32.2.1,x32.2.2.1,x32.2.2.2.1,x32.2.2.2.2.1,x32.2.2.2.2.2)))
def jU(fu:Nat)(p0:aB):J (aN×Bool):=bd (dO fu p0 2) fun x2=>bd (uT fu x2.aD7) fun(x4,x5)=>bd (dO fu p0 1) fun x7=>bd (iW fu p0) fun x9=>sw (!(x9)) (some ((aN.mk s_ [] [] [] [] []),false)) (sw (decide ((p0.aD7.length:Int)<3)) (some ((aN.mk s_ [] [] [] [] []),false)) (gd (0<(p0.aD7).length) (sw (!decide ((aR p0.aD7 0).aEa=abT)) (some ((aN.mk s_ [] [] [] [] []),false)) (gd (2<(p0.aD7).length) (sw (!decide ((aR p0.aD7 2).aEa=s_)) (some ((aN.mk s_ [] [] [] [] []),false)) (sw (!(x5)) (some ((aN.mk s_ [] [] [] [] []),false)) (so (loopN (uO fu p0 x2 x4 x5 x7 x9) (p0.aD7.length-3) 3 (x7.aEa,x4,([]),([]),([]),([]))) fun(v18,v19,v24,v25,v26,v27)=>bd (nH fu (aN.mk v18 v19 v24 v25 v26 v27)) fun x35=>sw (!(x35)) (some ((aN.mk s_ [] [] [] [] []),false)) (some ((aN.mk v18 v19 v24 v25 v26 v27),true)))))))))
theorem NZ(fu:Nat)(p0:aB)(r:aN×Bool)(H:jU fu p0=some r):bS prog 146 [(aB.pv p0)] (.tup [(aN.pv r.1),pB r.2]):=by
 refine qJ func146 H (fun C hC H=>?_)
 refine gQ 2 ?_;refine q1 (fN ([pS p0.aEa,bJ p0.aD7])) ?_;refine gQ 5 ?_;refine q1 (b5 [pS p0.aEa,bJ p0.aD7]) (bM H fun x2 z1 H=>(q1 (bI func175 (dF fu p0 2 _ z1)) (q1 tF1 (eO H fun x4 x5 z3 H=>(q1 (bI func174 (JY fu x2.aD7 _ z3)) ?_)))))
 refine gQ 8 ?_;refine q1 (b5 [pS p0.aEa,bJ p0.aD7]) (bM H fun x7 z6 H=>(q1 (bI func175 (dF fu p0 1 _ z6)) ?_))
 refine gQ 9 ?_;refine q1 (b5 [pS p0.aEa,bJ p0.aD7]) (bM H fun x9 z8 H=>(q1 (bI func173 (dR fu p0 _ z8)) ?_))
 refine gQ 2 ?_;refine dK 23 H (fun g10 H=>gE 33) fun g10 H=>?_;refine gQ 6 ?_;refine dK 29 H (fun g11 H=>?_) fun g11 H=>?_
 ·have g11n:p0.aD7.length<3:=by have:=of_decide_eq_true g11;omega
  exact gE 27
 refine gQ 2 ?_;refine cK H fun z12 H=>?_;refine gQ 6 ?_;refine dK 37 H (fun g13 H=>gE 19) fun g13 H=>?_;refine gQ 2 ?_;refine cK H fun z14 H=>?_;refine gQ 6 ?_;refine dK 45 H (fun g15 H=>gE 11) fun g15 H=>?_;refine gQ 4 ?_;refine bE H (fun h16 H=>gE 6) fun h16 H=>?_;refine gQ 6 ?_;refine c7.wk (Wk.regBox (k:=2) (j:=2) 156 5 (by decide) rfl rfl) (c7.wk (Wk.regBox (k:=2) (j:=3) 39 3 (by decide) rfl rfl) (c7.wk (Wk.regBox (k:=2) (j:=4) 163 12 (by decide) rfl rfl) (c7.wk (Wk.regBox (k:=2) (j:=5) 213 16 (by decide) rfl rfl) ?_)))
 refine gM 25 (aB.trs_len _) (fun hl28=>?_)
 refine bV (σ:=Y×(LB)×(Z aU)×(Z aM)×(Z aI)×(Z aO)) (fun i17 (v18,v19,v24,v25,v26,v27)=>⟨[(1,.ptr 0 0),(2,.ptr 1 0),(3,pB false),(6,.ptr 2 0),(7,pN i17)],⟨[some ⟨189,[pS p0.aEa,bJ p0.aD7]⟩,some ⟨141,[pS s_,.nil,.nil,.nil,.nil,.nil]⟩,some ⟨141,[pS v18,rS v19,BT v24 0,n3 v25 1,n5 v26 2,n4 v27 3]⟩],[⟨156,5,aU.trs (v24),false⟩,⟨39,3,aM.trs (v25),false⟩,⟨163,12,aI.trs (v26),false⟩,⟨213,16,aO.trs (v27),false⟩]⟩⟩) (fun(v18,v19,v24,v25,v26,v27)=>⟨[(2,.ptr 1 0),(3,pB false),(6,.ptr 2 0)],⟨[some ⟨189,[pS p0.aEa,bJ p0.aD7]⟩,some ⟨141,[pS s_,.nil,.nil,.nil,.nil,.nil]⟩,some ⟨141,[pS v18,rS v19,BT v24 0,n3 v25 1,n5 v26 2,n4 v27 3]⟩],[⟨156,5,aU.trs (v24),false⟩,⟨39,3,aM.trs (v25),false⟩,⟨163,12,aI.trs (v26),false⟩,⟨213,16,aO.trs (v27),false⟩]⟩⟩) (eX H) ?_ ?_
 ·rintro i17 ⟨v18,v19,v24,v25,v26,v27⟩ H
  refine gQ 9 ?_;refine c5 H (fun h29 h29l H=>?_) (fun h29 H=>?_)
  ·refine gQ 9 ?_;refine q1 (iR (aB.cs (aR p0.aD7 i17))) (eO H fun x31 x32 z30 H=>(q1 (fJ [2] [0,1,2,3] func176 (ah5 fu (v18,v19,v24,v25,v26,v27) (aR p0.aD7 i17) _ z30)) ?_))
   refine gQ 2 ?_;refine bE H (fun h33 H=>gE 6) fun h33 H=>?_;exact gE 6
  exact gE 0
 rintro⟨v18,v19,v24,v25,v26,v27⟩ H
 refine gQ 3 ?_;refine q1 (b5 [pS v18,rS v19,BT v24 0,n3 v25 1,n5 v26 2,n4 v27 3]) (bM H fun x35 z34 H=>(q1 (bI func177 (NY fu (aN.mk v18 v19 v24 v25 v26 v27) _ z34)) ?_))
 refine gQ 2 ?_;refine bE H (fun h36 H=>gE 6) fun h36 H=>?_;refine gQ 3 ?_;refine q1 (b5 [pS v18,rS v19,BT v24 0,n3 v25 1,n5 v26 2,n4 v27 3]) ?_;exact gE 3
def mV(fu:Nat)(ps:Y):J (aN×Bool):=bd (rH fu ps) fun(x2,x3)=>sw (!(x3)) (some ((aN.mk s_ [] [] [] [] []),false)) (bd (jU fu x2) fun(x6,x7)=>some (x6,x7))
theorem SU(fu:Nat)(ps:Y)(r:aN×Bool)(H:mV fu ps=some r):bS prog 98 [pS ps] (.tup [(aN.pv r.1),pB r.2]):=by
 refine qJ func98 H (fun C hC H=>?_)
 refine gQ 8 ?_;refine eO H fun x2 x3 z1 H=>(q1 (bI func145 (XZ fu ps _ z1)) ?_)
 refine gQ 13 ?_;refine bE H (fun h4 H=>gE 6) fun h4 H=>?_;refine gQ 3 ?_;refine q1 (b5 [pS x2.aEa,bJ x2.aD7]) (eO H fun x6 x7 z5 H=>(q1 (bI func146 (NZ fu x2 _ z5)) ?_))
 exact gE 5
def U6(m:Y→J (aH×Int)):Prop:= ∀(ps:Y) (r:aH×Int),m ps=some r→BO prog 46 [pS ps] ⟨[],[]⟩ [] 141 6 (aN.trs (r.1.aD3)) (fun k=> .tup [.agg [tS r.1.aD3 k],pI r.2])
def xK(fu:Nat)(ps:Y)(x2:LB):Nat→((Z aN))→J (LR ((Z aN)) (aH×Int)):=fun i3 v5=>bd (JT fu (aR x2 i3)) fun x9=>sw x9 (some (.next v5)) (bd (mV fu (aR x2 i3)) fun(x12,x13)=>sw (!(x13)) (some (.ret ((aH.mk []),(v5.length:Int)))) (sw (decide ((v5.length:Int)=5)) (some (.ret ((aH.mk []),(v5.length:Int)))) (gd ((v5).length+(([x12]:Z aN)).length≤68719476736) (some (.next (v5++([x12]:Z aN)))))))
def lP(fu:Nat)(ps:Y):J (aH×Int):=bd (wB fu ps (10:UInt8)) fun x2=>so (loopN (xK fu ps x2) (x2.length-0) 0 ([])) fun v5=>some ((aH.mk v5),(-1))
theorem SV(fu:Nat):U6 (lP fu):=by
 intro ps r H
 unfold BO
 refine qJ func46 H (fun C hC H=>?_)
 refine gQ 14 ?_;refine bM H fun x2 z1 H=>(q1 (bI func96 (Z9 fu ps (10:UInt8) _ z1)) ?_)
 refine gQ 7 ?_;refine c7.wk (Wk.regBox (k:=1) (j:=0) 141 6 (by decide) rfl rfl) ?_;refine gM 5 (b0 _) (fun hl6=>?_)
 refine bV (σ:=(Z aN)) (fun i3 v5=>⟨[(2,.ptr 0 0),(3,pI 0),(4,.ptr 1 0),(5,rS x2),(6,pN i3)],⟨[some ⟨26,[.nil]⟩,some ⟨26,[tS v5 0]⟩],[⟨141,6,aN.trs (v5),false⟩]⟩⟩) (fun v5=>⟨[(2,.ptr 0 0),(3,pI 0),(4,.ptr 1 0)],⟨[some ⟨26,[.nil]⟩,some ⟨26,[tS v5 0]⟩],[⟨141,6,aN.trs (v5),false⟩]⟩⟩) (eX H) ?_ ?_
 ·rintro i3 v5 H
  refine gQ 8 ?_;refine c5 H (fun h7 h7l H=>?_) (fun h7 H=>?_)
  ·refine gQ 10 ?_;refine bM H fun x9 z8 H=>(q1 (bI func97 (ad9 fu (aR x2 i3) _ z8)) (qN ?_))
   refine bE H (fun h10 H=>?_) (fun h10 H=>?_)
   ·refine c7.exit ?_;exact gE 5
   refine gQ 7 ?_;refine eO H fun x12 x13 z11 H=>(q1 (bI func98 (SU fu (aR x2 i3) _ z11)) ?_)
   refine gQ 13 ?_;refine dK 33 H (fun g14 H=>?_) fun g14 H=>?_
   ·refine gQ 8 ?_;refine dW (dI [] rR (dI [4] bY (dB [40] 0 1 vE (dI [41] UH (mK [2,39] lT (dI [42] bG (dN (c7.wk (Wk.regBox (k:=0) (j:=0) 141 6 (by decide) rfl rfl) (c7.ret ?_)))))))))
    obtain rfl:_=r:=(lkR (wL H):)
    exact qe2 (st':=⟨[],[⟨141,6,aN.trs (v5),false⟩,⟨141,6,aN.trs ([]),false⟩]⟩) ⟨1,rfl,rfl,rfl⟩ (hr:=⟨⟨_,_,_,rfl,rfl,aoI.h,rfl,rfl⟩,rfl,trivial⟩)
   refine gQ 6 ?_;refine bE H (fun h15 H=>?_) (fun h15 H=>?_)
   ·refine qS (dW (dI [] rR (dI [4] bY (dB [40] 0 1 vE (dI [41] UH (mK [2,39] lT (dI [42] bG (dN (c7.wk (Wk.regBox (k:=0) (j:=0) 141 6 (by decide) rfl rfl) (c7.ret ?_))))))))))
    obtain rfl:_=r:=(lkR (wL H):)
    exact qe2 (st':=⟨[],[⟨141,6,aN.trs (v5),false⟩,⟨141,6,aN.trs ([]),false⟩]⟩) ⟨1,rfl,rfl,rfl⟩ (hr:=⟨⟨_,_,_,rfl,rfl,aoI.h,rfl,rfl⟩,rfl,trivial⟩)
   refine gQ 4 ?_;refine q1 (b5 [pS x12.aD4,rS x12.aEF,SI x12.aEi,rF x12.aEd,oJ x12.aEg,KR x12.aEs]) (q1 (sA ([x12]:Z aN)) (cK H fun z16 H=>(q1 (mA z16) ?_)))
   exact gE 8
  exact gE 0
 rintro v5 H
 refine gQ 2 ?_;refine q1 (b5 [tS v5 0]) ?_;refine gQ 3 ?_;refine c7.ret ?_
 obtain rfl:_=r:=(wL H:)
 exact qe2 (st':=⟨[],[⟨141,6,aN.trs (v5),false⟩]⟩) ⟨0,rfl,rfl,rfl⟩ (hr:=⟨⟨_,_,_,rfl,rfl,aoI.h,rfl,rfl⟩,rfl,trivial⟩)
def C1(fu:Nat)(pc:DS):J (Y×DS):=gd ((cV).size+(cW).size≤1099511627776) (gd ((cV++cW).size+(c6).size≤1099511627776) (gd (((cV++cW)++c6).size+(dH).size≤1099511627776) (lt (pc.after 2) fun d4=>sw (decide (pc.below 2=0)) (gd ((((cV++cW)++c6)++dH).size+(kC).size≤1099511627776) (gd (((((cV++cW)++c6)++dH)++kC).size+(eK).size≤1099511627776) (gd ((((((cV++cW)++c6)++dH)++kC)++eK).size+(fE).size≤1099511627776) (gd (((((((cV++cW)++c6)++dH)++kC)++eK)++fE).size+(gH).size≤1099511627776) (gd ((((((((cV++cW)++c6)++dH)++kC)++eK)++fE)++gH).size+(jD).size≤1099511627776) (gd (((((((((cV++cW)++c6)++dH)++kC)++eK)++fE)++gH)++jD).size+(lR).size≤1099511627776) (gd ((((((((((cV++cW)++c6)++dH)++kC)++eK)++fE)++gH)++jD)++lR).size+(qO).size≤1099511627776) (gd (((((((((((cV++cW)++c6)++dH)++kC)++eK)++fE)++gH)++jD)++lR)++qO).size+(DA).size≤1099511627776) (some ((((((((((((cV++cW)++c6)++dH)++kC)++eK)++fE)++gH)++jD)++lR)++qO)++DA),d4)))))))))) (gd ((((cV++cW)++c6)++dH).size+(kD).size≤1099511627776) (gd (((((cV++cW)++c6)++dH)++kD).size+(eK).size≤1099511627776) (gd ((((((cV++cW)++c6)++dH)++kD)++eK).size+(fE).size≤1099511627776) (gd (((((((cV++cW)++c6)++dH)++kD)++eK)++fE).size+(gH).size≤1099511627776) (gd ((((((((cV++cW)++c6)++dH)++kD)++eK)++fE)++gH).size+(jD).size≤1099511627776) (gd (((((((((cV++cW)++c6)++dH)++kD)++eK)++fE)++gH)++jD).size+(lR).size≤1099511627776) (gd ((((((((((cV++cW)++c6)++dH)++kD)++eK)++fE)++gH)++jD)++lR).size+(qO).size≤1099511627776) (gd (((((((((((cV++cW)++c6)++dH)++kD)++eK)++fE)++gH)++jD)++lR)++qO).size+(DA).size≤1099511627776) (some ((((((((((((cV++cW)++c6)++dH)++kD)++eK)++fE)++gH)++jD)++lR)++qO)++DA),d4)))))))))))))
theorem ah4(fu:Nat)(pc:DS)(r:Y×DS)(H:C1 fu pc=some r):cF prog 188 [.ptr 0 0] ⟨[some ⟨133,dC pc⟩],[]⟩ (fun q t=>q=(pS r.1)∧t=⟨[some ⟨133,dC r.2⟩],[]⟩):=by
 refine qJ func188 H (fun C hC H=>?_)
 refine gQ 11 ?_;refine cK H fun z1 H=>(q1 (bC.addS rfl rfl rfl rfl (Nat.le_trans z1 (by decide))) ?_)
 refine gQ 5 ?_;refine cK H fun z2 H=>(q1 (bC.addS rfl rfl rfl rfl (Nat.le_trans z2 (by decide))) ?_)
 refine gQ 5 ?_;refine cK H fun z3 H=>(q1 (bC.addS rfl rfl rfl rfl (Nat.le_trans z3 (by decide))) ?_)
 refine gQ 6 ?_;refine gI H fun d4 h5 H=>(q1 (fJ [0] [] func45 (IF h5 (pT pc 2))) (qN ?_))
 refine bE H (fun h6 H=>?_) (fun h6 H=>?_)
 ·refine gQ 2 ?_;refine cK H fun z7 H=>(q1 (bC.addS rfl rfl rfl rfl (Nat.le_trans z7 (by decide))) ?_)
  refine gQ 5 ?_;refine cK H fun z8 H=>(q1 (bC.addS rfl rfl rfl rfl (Nat.le_trans z8 (by decide))) ?_)
  refine gQ 5 ?_;refine cK H fun z9 H=>(q1 (bC.addS rfl rfl rfl rfl (Nat.le_trans z9 (by decide))) ?_)
  refine gQ 5 ?_;refine cK H fun z10 H=>(q1 (bC.addS rfl rfl rfl rfl (Nat.le_trans z10 (by decide))) ?_)
  refine gQ 5 ?_;refine cK H fun z11 H=>(q1 (bC.addS rfl rfl rfl rfl (Nat.le_trans z11 (by decide))) ?_)
  refine gQ 5 ?_;refine cK H fun z12 H=>(q1 (bC.addS rfl rfl rfl rfl (Nat.le_trans z12 (by decide))) ?_)
  refine gQ 5 ?_;refine cK H fun z13 H=>(q1 (bC.addS rfl rfl rfl rfl (Nat.le_trans z13 (by decide))) ?_)
  refine gQ 5 ?_;refine cK H fun z14 H=>(q1 (bC.addS rfl rfl rfl rfl (Nat.le_trans z14 (by decide))) ?_)
  exact gE 2
 refine gQ 2 ?_;refine cK H fun z15 H=>(q1 (bC.addS rfl rfl rfl rfl (Nat.le_trans z15 (by decide))) ?_)
 refine gQ 5 ?_;refine cK H fun z16 H=>(q1 (bC.addS rfl rfl rfl rfl (Nat.le_trans z16 (by decide))) ?_)
 refine gQ 5 ?_;refine cK H fun z17 H=>(q1 (bC.addS rfl rfl rfl rfl (Nat.le_trans z17 (by decide))) ?_)
 refine gQ 5 ?_;refine cK H fun z18 H=>(q1 (bC.addS rfl rfl rfl rfl (Nat.le_trans z18 (by decide))) ?_)
 refine gQ 5 ?_;refine cK H fun z19 H=>(q1 (bC.addS rfl rfl rfl rfl (Nat.le_trans z19 (by decide))) ?_)
 refine gQ 5 ?_;refine cK H fun z20 H=>(q1 (bC.addS rfl rfl rfl rfl (Nat.le_trans z20 (by decide))) ?_)
 refine gQ 5 ?_;refine cK H fun z21 H=>(q1 (bC.addS rfl rfl rfl rfl (Nat.le_trans z21 (by decide))) ?_)
 refine gQ 5 ?_;refine cK H fun z22 H=>(q1 (bC.addS rfl rfl rfl rfl (Nat.le_trans z22 (by decide))) ?_)
 exact gE 2
def N9(fu:Nat)(pc:DS):J ((Y×DS)⊕(Y×DS)):=lt (pc.after 8) fun d3=>sw (decide ((pc.below 8:Int)=0)) (gd ((fD).size+(PE).size≤1099511627776) (some (.inr ((fD++PE),d3)))) (sw (decide ((pc.below 8:Int)=1)) (gd ((fD).size+(PC).size≤1099511627776) (some (.inr ((fD++PC),d3)))) (sw (decide ((pc.below 8:Int)=2)) (gd ((fD).size+(O5).size≤1099511627776) (some (.inr ((fD++O5),d3)))) (sw (decide ((pc.below 8:Int)=3)) (gd ((fD).size+(O7).size≤1099511627776) (some (.inr ((fD++O7),d3)))) (sw (decide ((pc.below 8:Int)=4)) (gd ((fD).size+(O6).size≤1099511627776) (some (.inr ((fD++O6),d3)))) (sw (decide ((pc.below 8:Int)=5)) (gd ((fD).size+(PB).size≤1099511627776) (some (.inr ((fD++PB),d3)))) (gd ((fD).size+(O8).size≤1099511627776) (some (.inr ((fD++O8),d3)))))))))
def YE(fu:Nat)(pc:DS)(v1:Y)(v2 d19:DS)(y21:Y):J ((Y×DS)⊕(Y×DS)):=lt (d19.after 2) fun d27=>sw (decide (d19.below 2=0)) (gd ((((v1++n8)++y21)++DA).size+(O9).size≤1099511627776) (some (.inr (((((v1++n8)++y21)++DA)++O9),d27)))) (some (.inr ((((v1++n8)++y21)++DA),d27)))
def YF(fu:Nat)(pc:DS)(v1:Y)(v2 d19:DS)(y21 v25:Y)(v26:DS):J ((Y×DS)⊕(Y×DS)):=lt (v26.after 3) fun d33=>sw (decide (v26.below 3=0)) (gd ((v25).size+(PD).size≤1099511627776) (some (.inr ((v25++PD),d33)))) (some (.inr (v25,d33)))
def FZ(fu:Nat)(pc:DS):J (Y×DS):=so (N9 fu pc) fun(v1,v2)=>gd ((v1).size+(n8).size≤1099511627776) (lt (v2.after ([B6,B5,B4,B7,B3,CA,CB,B8,B9,BZ]:LB).length) fun d19=>lt (v2.pick ([B6,B5,B4,B7,B3,CA,CB,B8,B9,BZ]:LB)) fun y21=>gd ((v1++n8).size+(y21).size≤1099511627776) (gd (((v1++n8)++y21).size+(DA).size≤1099511627776) (so (YE fu pc v1 v2 d19 y21) fun(v25,v26)=>so (YF fu pc v1 v2 d19 y21 v25 v26) fun(v31,v32)=>lt (v32.after 4) fun d37=>sw (decide (v32.below 4=0)) (gd ((v31).size+(FB).size≤1099511627776) (gd ((v31++FB).size+(DA).size≤1099511627776) (some (((v31++FB)++DA),d37)))) (gd ((v31).size+(DA).size≤1099511627776) (some ((v31++DA),d37))))))
theorem akU(fu:Nat)(pc:DS)(r:Y×DS)(H:FZ fu pc=some r):cF prog 189 [.ptr 0 0] ⟨[some ⟨133,dC pc⟩],[]⟩ (fun q t=>q=(pS r.1)∧t=⟨[some ⟨133,dC r.2⟩],[]⟩):=by
 refine qJ func189 H (fun C hC H=>?_)
 refine gQ 9 ?_;refine oT (σ:=Y×DS) (fun(v1,v2)=>⟨[(0,.ptr 0 0),(2,pS s_),(3,pS v1)],⟨[some ⟨133,dC v2⟩],[]⟩⟩) (eX H) (fun H=>?_) ?_
 ·refine gQ 3 ?_;refine gI H fun d3 h4 H=>(q1 (fJ [0] [] func73 (IF h4 (gF pc 8))) ?_)
  refine gQ 7 ?_;refine bE H (fun h5 H=>?_) (fun h5 H=>?_)
  ·refine gQ 2 ?_;refine cK H fun z6 H=>(q1 (bC.addS rfl rfl rfl rfl (Nat.le_trans z6 (by decide))) ?_)
   exact gE 2
  refine gQ 5 ?_;refine bE H (fun h7 H=>?_) (fun h7 H=>?_)
  ·refine gQ 2 ?_;refine cK H fun z8 H=>(q1 (bC.addS rfl rfl rfl rfl (Nat.le_trans z8 (by decide))) ?_)
   exact gE 2
  refine gQ 5 ?_;refine bE H (fun h9 H=>?_) (fun h9 H=>?_)
  ·refine gQ 2 ?_;refine cK H fun z10 H=>(q1 (bC.addS rfl rfl rfl rfl (Nat.le_trans z10 (by decide))) ?_)
   exact gE 2
  refine gQ 5 ?_;refine bE H (fun h11 H=>?_) (fun h11 H=>?_)
  ·refine gQ 2 ?_;refine cK H fun z12 H=>(q1 (bC.addS rfl rfl rfl rfl (Nat.le_trans z12 (by decide))) ?_)
   exact gE 2
  refine gQ 5 ?_;refine bE H (fun h13 H=>?_) (fun h13 H=>?_)
  ·refine gQ 2 ?_;refine cK H fun z14 H=>(q1 (bC.addS rfl rfl rfl rfl (Nat.le_trans z14 (by decide))) ?_)
   exact gE 2
  refine gQ 5 ?_;refine bE H (fun h15 H=>?_) (fun h15 H=>?_)
  ·refine gQ 2 ?_;refine cK H fun z16 H=>(q1 (bC.addS rfl rfl rfl rfl (Nat.le_trans z16 (by decide))) ?_)
   exact gE 2
  refine gQ 2 ?_;refine cK H fun z17 H=>(q1 (bC.addS rfl rfl rfl rfl (Nat.le_trans z17 (by decide))) ?_)
  exact gE 2
 rintro⟨v1,v2⟩ H
 refine gQ 3 ?_;refine cK H fun z18 H=>(q1 (bC.addS rfl rfl rfl rfl (Nat.le_trans z18 (by decide))) (q1 bG (q1 (iQ ([B6,B5,B4,B7,B3,CA,CB,B8,B9,BZ]:LB)) (gI H fun d19 h20 H=>(gI H fun y21 h22 H=>(q1 (fJ [0] [] func48 (MF h20 h22 (fM v2 ([B6,B5,B4,B7,B3,CA,CB,B8,B9,BZ]:LB) (by decide)))) (cK H fun z23 H=>(q1 (bC.addS rfl rfl rfl rfl (Nat.le_trans z23 (by decide))) (cK H fun z24 H=>(q1 (bC.addS rfl rfl rfl rfl (Nat.le_trans z24 (by decide))) ?_))))))))))
 refine gQ 3 ?_;refine oT (σ:=Y×DS) (fun(v25,v26)=>⟨[(0,.ptr 0 0),(2,pS s_),(3,pS v25)],⟨[some ⟨133,dC v26⟩],[]⟩⟩) (eX H) (fun H=>?_) ?_
 ·refine gQ 3 ?_;refine gI H fun d27 h28 H=>(q1 (fJ [0] [] func45 (IF h28 (pT d19 2))) (qN ?_))
  refine bE H (fun h29 H=>?_) (fun h29 H=>?_)
  ·refine gQ 2 ?_;refine cK H fun z30 H=>(q1 (bC.addS rfl rfl rfl rfl (Nat.le_trans z30 (by decide))) ?_)
   exact gE 2
  exact gE 1
 rintro⟨v25,v26⟩ H
 refine qS ?_;refine oT (σ:=Y×DS) (fun(v31,v32)=>⟨[(0,.ptr 0 0),(2,pS s_),(3,pS v31)],⟨[some ⟨133,dC v32⟩],[]⟩⟩) (eX H) (fun H=>?_) ?_
 ·refine gQ 3 ?_;refine gI H fun d33 h34 H=>(q1 (fJ [0] [] func45 (IF h34 (pT v26 3))) (qN ?_))
  refine bE H (fun h35 H=>?_) (fun h35 H=>?_)
  ·refine gQ 2 ?_;refine cK H fun z36 H=>(q1 (bC.addS rfl rfl rfl rfl (Nat.le_trans z36 (by decide))) ?_)
   exact gE 2
  exact gE 1
 rintro⟨v31,v32⟩ H
 refine gQ 4 ?_;refine gI H fun d37 h38 H=>(q1 (fJ [0] [] func45 (IF h38 (pT v32 4))) (qN ?_))
 refine bE H (fun h39 H=>?_) (fun h39 H=>?_)
 ·refine gQ 2 ?_;refine cK H fun z40 H=>(q1 (bC.addS rfl rfl rfl rfl (Nat.le_trans z40 (by decide))) ?_)
  refine gQ 5 ?_;refine cK H fun z41 H=>(q1 (bC.addS rfl rfl rfl rfl (Nat.le_trans z41 (by decide))) ?_)
  exact gE 2
 refine gQ 4 ?_;refine cK H fun z42 H=>(q1 (bC.addS rfl rfl rfl rfl (Nat.le_trans z42 (by decide))) ?_)
 exact gE 2
def q8(fu:Nat)(pc:DS):J (Y×DS):=bd (C1 fu pc) fun(x2,x3)=>lt (x3.after 5) fun d4=>sw (decide (x3.below 5=0)) (some (x2,d4)) (gd (x2.size+(VC).size≤1099511627776) (bd (FZ fu d4) fun(x9,x10)=>gd ((x2++VC).size+x9.size≤1099511627776) (some (((x2++VC)++x9),x10))))
theorem TA(fu:Nat)(pc:DS)(r:Y×DS)(H:q8 fu pc=some r):cF prog 162 [.ptr 0 0] ⟨[some ⟨133,dC pc⟩],[]⟩ (fun q t=>q=(pS r.1)∧t=⟨[some ⟨133,dC r.2⟩],[]⟩):=by
 refine qJ func162 H (fun C hC H=>?_)
 refine gQ 7 ?_;refine eO H fun x2 x3 z1 H=>(q1 (fJ [0] [] func188 (ah4 fu pc _ z1)) ?_)
 refine gQ 6 ?_;refine gI H fun d4 h5 H=>(q1 (fJ [0] [] func45 (IF h5 (pT x3 5))) (qN ?_))
 refine bE H (fun h6 H=>gE 5) fun h6 H=>?_;refine gQ 4 ?_;refine cK H fun z7 H=>(q1 (bC.addS rfl rfl rfl rfl (Nat.le_trans z7 (by decide))) (q1 bG (eO H fun x9 x10 z8 H=>(q1 (fJ [0] [] func189 (akU fu d4 _ z8)) (cK H fun z11 H=>(q1 (bC.addS rfl rfl rfl rfl (Nat.le_trans z11 (by decide))) ?_))))))
 exact gE 2
def akW(m:DS→J (aH×DS)):Prop:= ∀(pc:DS) (r:aH×DS),m pc=some r→BO prog 126 [.ptr 0 0] ⟨[some ⟨133,dC pc⟩],[]⟩ [some ⟨133,dC r.2⟩] 141 6 (aN.trs (r.1.aD3)) (fun k=> .agg [tS r.1.aD3 k])
def C3(fu:Nat)(pc:DS):J (aH×DS):=bd (q8 fu pc) fun(x2,x3)=>bd (lP fu x2) fun(x5,x6)=>some ((aH.mk x5.aD3),x3)
theorem ah6(fu:Nat):akW (C3 fu):=by
 intro pc r H
 unfold BO
 refine qJ func126 H (fun C hC H=>?_)
 refine gQ 7 ?_;refine eO H fun x2 x3 z1 H=>(q1 (fJ [0] [] func162 (TA fu pc _ z1)) (eO H fun x5 x6 z4 H=>(q1 (bC.callOwn (pre:=⟨[],[]⟩) (B:= []) (R:=fun k=> .tup [.agg [tS x5.aD3 k],pI x6]) (ps:= [_]) (qs:= [pS x2]) [] rfl rfl func46 (by kernel_rfl) rfl rfl rfl (fK.of trivial trivial (by decide) (by decide)) rfl kA rfl rfl rfl (fun k k'=>(.tup (.cons (.agg (.cons Mv.acc HZ.nil)) (.cons (.free _ rfl) HZ.nil)))) (SV fu x2 _ z4)) ?_)))
 refine gQ 9 ?_;refine q1 (b5 [tS x5.aD3 0]) ?_;refine gQ 2 ?_;refine c7.ret ?_
 obtain rfl:_=r:=(wL H:)
 exact XH (st':=⟨[some ⟨133,dC x3⟩],[⟨141,6,aN.trs (x5.aD3),false⟩]⟩) ⟨0,rfl,rfl,rfl⟩ (hr:=⟨⟨_,_,_,rfl,rfl,aoI.h,rfl,rfl⟩,trivial⟩)
end
end Go.Proofs.YtfcoaagbccmahaaGreat.W
