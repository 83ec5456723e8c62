/- Words, rules and walks of several kinds, laid together. No conditions but those that each theorem states. -/
import Derived.Test.YtfcoaagbccmahaaGreatQhd111bfda
set_option linter.unusedSimpArgs false
set_option linter.unusedVariables false
namespace Go.Proofs.YtfcoaagbccmahaaGreat.W
set_option maxRecDepth 100000
set_option maxHeartbeats 40000000
noncomputable section
open Tryz Go.RowKit Go.Proofs
attribute [local irreducible] lt
def cV(fu:Nat)(px:aB)(pi:Int):Option aB:=sw (decide (pi≥(px.asF.length:Int))) (some (aB.mk s_ [])) (gd (0≤pi∧(pi).toNat<(px.asF).length) (some (aP px.asF ((pi).toNat))))
theorem cG(fu:Nat)(px:aB)(pi:Int)(r:aB)(H:cV fu px pi=some r):bP Tryz.prog 175 [(aB.pv px),pI pi] ((aB.pv r)):=by
 refine qJ func175 H (fun C hC H=>?_)
 refine gQ 2 ?_;refine q1 (iR ([pS px.asK,a9 px.asF])) ?_;refine gQ 11 ?_;refine a7 H (fun h1 H=>gE 5) fun h1 H=>?_;refine gQ 6 ?_;refine cQ H fun z2 H=>(q1 (rIy z2 wM.h) (q1 (jB (aB.cs (aP px.asF ((pi).toNat)))) ?_))
 exact gE 2
def kJ(fu:Nat)(px:aB):Option ((LB)):=bd (wA fu px.asF) fun(x2,x3)=>some x2
theorem l0(fu:Nat)(px:aB)(r:(LB))(H:kJ fu px=some r):bP Tryz.prog 216 [(aB.pv px)] (rS r):=by
 refine qJ func216 H (fun C hC H=>?_)
 refine gQ 2 ?_;refine q1 (iR ([pS px.asK,a9 px.asF])) ?_;refine gQ 6 ?_;refine eY H fun x2 x3 z1 H=>(q1 (bC func174 (CK fu px.asF _ z1)) ?_)
 exact gE 11
def sP(fu:Nat)(px:aB)(pi:Int):Option ((List aB)):=bd (nG fu pi (px.asF.length:Int)) fun x2=>gd ((0:Int)≤x2∧(x2:Int)≤(px.asF.length:Int)∧(px.asF.length:Int)≤(px.asF.length:Int)) (some (List.drop (x2:Int).toNat (List.take (px.asF.length:Int).toNat px.asF)))
theorem wY(fu:Nat)(px:aB)(pi:Int)(r:(List aB))(H:sP fu px pi=some r):bP Tryz.prog 217 [(aB.pv px),pI pi] (a9 r):=by
 refine qJ func217 H (fun C hC H=>?_)
 refine gQ 2 ?_;refine q1 (iR ([pS px.asK,a9 px.asF])) ?_;refine gQ 3 ?_;refine bD H fun x2 z1 H=>(cQ H fun z3 H=>(dW (dI [2] bS (dD [5] eE (dI [1] bG (dI [2] bS (dD [8] eE (dI [9] XL (dI [7,10] (bC func234 (nQ fu pi (px.asF.length:Int) _ z1)) ?_)))))))))
 refine dI [6,11] (a5.congrP (a5.sliceR (es:=aB.trs (px.asF)) (l:=x2) (k:=(px.asF.length:Int)) rfl rfl rfl rfl rfl (by rw [aB.trs_len];exact rfl) (by rw [aB.trs_len];exact z3) wM.h) (aB.trs_part _ _ _)) ?_;refine dI [12] bG (dN ?_)
 exact gE 0
def ZH(fu:Nat)(p1:List aB):Nat→((List aA))→Option (LR ((List aA)) ((List aA))):=fun i1 v3=>bd (kR fu (aP p1 i1)) fun x7=>gd ((v3).length+(([x7]:List aA)).length≤68719476736) (some (.next (v3++([x7]:List aA))))
def DA(fu:Nat)(p1:List aB):Option ((List aA)):=so (loopN (ZH fu p1) (p1.length-0) 0 ([])) fun v3=>some v3
theorem OF(fu:Nat)(p1:List aB)(r:(List aA))(H:DA fu p1=some r):bP Tryz.prog 218 [a9 p1] (aX r):=by
 refine qJ func218 H (fun C hC H=>?_)
 refine gQ 6 ?_;refine q1 (n0 ([]:List aA)) ?_;refine gQ 7 ?_;refine iG 0 (aB.trs_len _) (fun hl4=>?_)
 refine bM (σ:=(List aA)) (fun i1 v3=>⟨[(0,a9 p1),(2,.nil),(3,fW v3 0),(4,pN i1)],⟨[],[⟨30,3,aA.trs (v3),false⟩]⟩⟩) (fun v3=>⟨[(2,.nil),(3,fW v3 0)],⟨[],[⟨30,3,aA.trs (v3),false⟩]⟩⟩) (eR H) ?_ ?_
 ·rintro i1 v3 H
  refine gQ 8 ?_;refine cW H (fun h5 h5l H=>?_) (fun h5 H=>?_)
  ·refine gQ 8 ?_;refine q1 (jB (aB.cs (aP p1 i1))) (bD H fun x7 z6 H=>(q1 (bC func219 (tM fu (aP p1 i1) _ z6)) (q1 (gC ([x7]:List aA)) (cQ H fun z8 H=>(q1 (jS z8) ?_)))))
   exact gE 7
  exact gE 0
 rintro v3 H
 exact gE 5
def jC(fu:Nat)(p1:LB):Option aB:=bd (AO fu p1) fun x2=>some (aB.mk s_ x2)
theorem kK(fu:Nat)(p1:LB)(r:aB)(H:jC fu p1=some r):bP Tryz.prog 240 [rS p1] ((aB.pv r)):=by
 refine qJ func240 H (fun C hC H=>?_)
 refine gQ 7 ?_;refine bD H fun x2 z1 H=>(q1 (bC func254 (LC fu p1 _ z1)) ?_)
 exact gE 3
def TL(fu:Nat)(p1:List aA):Nat→((List aB))→Option (LR ((List aB)) ((List aB))):=fun i1 v3=>bd (kQ fu (aP p1 i1)) fun x7=>gd ((v3).length+(([x7]:List aB)).length≤68719476736) (some (.next (v3++([x7]:List aB))))
def wZ(fu:Nat)(p1:List aA):Option ((List aB)):=so (loopN (TL fu p1) (p1.length-0) 0 ([])) fun v3=>some v3
theorem IA(fu:Nat)(p1:List aA)(r:(List aB))(H:wZ fu p1=some r):bP Tryz.prog 241 [aX p1] (a9 r):=by
 refine qJ func241 H (fun C hC H=>?_)
 refine gQ 6 ?_;refine q1 (n0 ([]:List aB)) ?_;refine gQ 7 ?_;refine iG 0 (aA.trs_len _) (fun hl4=>?_)
 refine bM (σ:=(List aB)) (fun i1 v3=>⟨[(0,aX p1),(2,.nil),(3,dH v3 0),(4,pN i1)],⟨[],[⟨189,2,aB.trs (v3),false⟩]⟩⟩) (fun v3=>⟨[(2,.nil),(3,dH v3 0)],⟨[],[⟨189,2,aB.trs (v3),false⟩]⟩⟩) (eR H) ?_ ?_
 ·rintro i1 v3 H
  refine gQ 8 ?_;refine cW H (fun h5 h5l H=>?_) (fun h5 H=>?_)
  ·refine gQ 8 ?_;refine q1 (jB (aA.cs (aP p1 i1))) (bD H fun x7 z6 H=>(q1 (bC func242 (tL fu (aP p1 i1) _ z6)) (q1 (gC ([x7]:List aB)) (cQ H fun z8 H=>(q1 (jS z8) ?_)))))
   exact gE 7
  exact gE 0
 rintro v3 H
 exact gE 5
def yW(fu:Nat)(p2:Bool)(px:aB):Option aB:=sw (!(p2)) (some (aB.mk s_ [])) (bd (fU fu px) fun x3=>sw (!(x3)) (some (aB.mk s_ [])) (some px))
theorem C9(fu:Nat)(p2:Bool)(px:aB)(r:aB)(H:yW fu p2 px=some r):bP Tryz.prog 244 [pB p2,(aB.pv px)] ((aB.pv r)):=by
 refine qJ func244 H (fun C hC H=>?_)
 refine gQ 2 ?_;refine q1 (iR ([pS px.asK,a9 px.asF])) ?_;refine gQ 8 ?_;refine dF 7 H (fun g1 H=>gE 11) fun g1 H=>?_;refine qg g1 (cK [pS px.asK,a9 px.asF]) (bD H fun x3 z2 H=>(qg g1 (bC func173 (cP fu px _ z2)) ?_))
 refine gQ 3 ?_;refine a7 H (fun h4 H=>gE 5) fun h4 H=>?_;refine gQ 3 ?_;refine q1 (cK [pS px.asK,a9 px.asF]) ?_;exact gE 2
def J6(fu:Nat)(p0:aQ)(x2:Bool):Option (aB⊕((LB))):=sw (p0.atF) (gd (([]:LB).length+(([vT]:LB)).length≤68719476736) (some (.inr (([])++([vT]:LB))))) (some (.inr ([])))
def J7(fu:Nat)(p0:aQ)(x2:Bool)(v5:LB):Option (aB⊕((LB))):=sw (p0.asW) (gd ((v5).length+(([gI]:LB)).length≤68719476736) (some (.inr (v5++([gI]:LB))))) (some (.inr v5))
def J8(fu:Nat)(p0:aQ)(x2:Bool)(v5 v9:LB)(x13 x15 x17 x19 x21:aB):Nat→((List aB))→Option (LR ((List aB)) aB):=fun i22 v24=>lt (aP p0.asX i22) fun y27=>bd (bV fu y27.asD) fun x30=>bd (wZ fu y27.asU) fun x32=>bd (kQ fu y27.asT) fun x34=>bd (jZ fu ([x30,(aB.mk s_ x32),x34]:List aB)) fun x36=>sw (y27.as8) (bd (jC fu y27.asP) fun x39=>bd (kI fu y27.asM) fun x41=>gd ((x36.asF).length+(([x39,x41]:List aB)).length≤68719476736) (gd ((v24).length+(([(aB.mk x36.asK (x36.asF++([x39,x41]:List aB)))]:List aB)).length≤68719476736) (some (.next (v24++([(aB.mk x36.asK (x36.asF++([x39,x41]:List aB)))]:List aB)))))) (gd ((v24).length+(([(aB.mk x36.asK x36.asF)]:List aB)).length≤68719476736) (some (.next (v24++([(aB.mk x36.asK x36.asF)]:List aB)))))
def t1(fu:Nat)(p0:aQ):Option aB:=bd (oP fu p0) fun x2=>sw (!(x2)) (some (aB.mk s_ [])) (so (J6 fu p0 x2) fun v5=>so (J7 fu p0 x2 v5) fun v9=>bd (bV fu C8) fun x13=>bd (bV fu p0.asD) fun x15=>bd (jC fu p0.asO) fun x17=>bd (jC fu v9) fun x19=>bd (jZ fu ([x13,x15,x17,x19]:List aB)) fun x21=>so (loopN (J8 fu p0 x2 v5 v9 x13 x15 x17 x19 x21) (p0.asX.length-0) 0 x21.asF) fun v24=>bd (yW fu true (aB.mk x21.asK v24)) fun x46=>some x46)
theorem J9(fu:Nat)(p0:aQ)(r:aB)(H:t1 fu p0=some r):bP Tryz.prog 222 [(aQ.pv p0)] ((aB.pv r)):=by
 refine qJ func222 H (fun C hC H=>?_)
 refine gQ 2 ?_;refine q1 (iR (nX p0)) ?_;refine gQ 5 ?_;refine q1 (cK [pS p0.asD,rS p0.asO,pB p0.atF,pB p0.asW,iS p0.asX]) (bD H fun x2 z1 H=>(q1 (bC func229 (yQ fu p0 _ z1)) ?_))
 refine gQ 2 ?_;refine a7 H (fun h3 H=>gE 5) fun h3 H=>?_;refine gQ 3 ?_;refine q1 (n0 ([]:LB)) ?_;refine gQ 3 ?_;refine m3 (σ:=(LB)) (fun v5=>⟨[(1,.ptr 0 0),(2,.ptr 1 0),(3,aS v5 0)],⟨[some ⟨156,nX p0⟩,some ⟨189,[pS s_,.nil]⟩],[⟨9,1,aW (v5),false⟩]⟩⟩) (eR H) (fun H=>?_) ?_
 ·refine gQ 5 ?_;refine a7 H (fun h6 H=>?_) (fun h6 H=>?_)
  ·refine gQ 2 ?_;refine q1 (gC ([vT]:LB)) (cQ H fun z7 H=>(q1 (jS z7) ?_))
   exact gE 2
  exact gE 1
 rintro v5 H
 refine qS ?_;refine m3 (σ:=(LB)) (fun v9=>⟨[(1,.ptr 0 0),(2,.ptr 1 0),(3,aS v9 0)],⟨[some ⟨156,nX p0⟩,some ⟨189,[pS s_,.nil]⟩],[⟨9,1,aW (v9),false⟩]⟩⟩) (eR H) (fun H=>?_) ?_
 ·refine gQ 5 ?_;refine a7 H (fun h10 H=>?_) (fun h10 H=>?_)
  ·refine gQ 2 ?_;refine q1 (gC ([gI]:LB)) (cQ H fun z11 H=>(q1 (jS z11) ?_))
   exact gE 2
  exact gE 1
 rintro v9 H
 refine qS (bD H fun x13 z12 H=>(bD H fun x15 z14 H=>(bD H fun x17 z16 H=>(bD H fun x19 z18 H=>(bD H fun x21 z20 H=>(dWa (dI [] (bC func239 (bO fu C8 _ z12)) (dI [1] bS (dBz [24] 0 0 t7 (dI [25] (bC func239 (bO fu p0.asD _ z14)) (dI [1] bS (dBz [27] 0 0 t7 (dI [28] (bC func240 (kK fu p0.asO _ z16)) ?_)))))))))))))
 refine dI [3] bG (dI [30] (bC func240 (kK fu v9 _ z18)) (dI [23,26,29,31] (gC ([x13,x15,x17,x19]:List aB)) ?_))
 refine dEz [32] (fun _ z=>by cases z<;>exact a5.callOwn (pre:=⟨[],[]⟩) (B:= []) (R:=fun k=> .agg [pS x21.asK,dH x21.asF k]) (ps:= [_]) (qs:= [a9 ([x13,x15,x17,x19]:List aB)]) [] rfl rfl func238 (by kernel_rfl) rfl rfl rfl (eX.of trivial trivial (by decide) (by decide)) rfl jH rfl rfl rfl (fun k k'=>(.agg (.cons (.free _ rfl) (.cons Mv.acc AT.nil)))) (k7 fu ([x13,x15,x17,x19]:List aB) _ z20)) ?_;refine dA (fun _ st h=>vAl h RT.h) (dZ 4 [4,33] jP (dN ?_))
 refine gQ 5 ?_;refine cF.fact (b6 0 4 rfl rfl rfl (aD.trs_len _)) (fun hl25=>?_)
 refine bM (σ:=(List aB)) (fun i22 v24=>⟨[(1,.ptr 0 0),(2,.ptr 1 0),(4,.ptr 2 0),(5,pN i22)],⟨[some ⟨156,nX p0⟩,some ⟨189,[pS s_,.nil]⟩,some ⟨189,[pS x21.asK,dH v24 1]⟩],[⟨9,1,aW (v9),false⟩,⟨189,2,aB.trs (v24),false⟩]⟩⟩) (fun v24=>⟨[(2,.ptr 1 0),(4,.ptr 2 0)],⟨[some ⟨156,nX p0⟩,some ⟨189,[pS s_,.nil]⟩,some ⟨189,[pS x21.asK,dH v24 1]⟩],[⟨9,1,aW (v9),false⟩,⟨189,2,aB.trs (v24),false⟩]⟩⟩) (eR H) ?_ ?_
 ·rintro i22 v24 H
  refine gQ 9 ?_;refine cW H (fun h26 h26l H=>?_) (fun h26 H=>?_)
  ·refine gQ 8 ?_;refine fI H fun y27 h28 H=>(q1 (uG h28 h26l) (q1 (jB (aD.cs y27)) ?_))
   refine gQ 4 ?_;refine bD H fun x30 z29 H=>(bD H fun x32 z31 H=>(bD H fun x34 z33 H=>(bD H fun x36 z35 H=>(dWa (dI [6] bS (dBz [46] 0 0 t7 (dI [47] (bC func239 (bO fu y27.asD _ z29)) (dI [6] bS (dBz [49] 0 0 t7 (dI [50] (bC func241 (IA fu y27.asU _ z31)) (dI [51] nU (dI [6] bS (dBz [53] 0 0 (GP [pI y27.asT.asJ,pS y27.asT.asD,aX y27.asT.asG]) ?_)))))))))))))
   refine dI [54] (bC func242 (tL fu y27.asT _ z33)) (dI [48,52,55] (gC ([x30,(aB.mk s_ x32),x34]:List aB)) ?_)
   refine dEz [56] (fun _ z=>by cases z<;>exact a5.callOwn (pre:=⟨[],[]⟩) (B:= []) (R:=fun k=> .agg [pS x36.asK,dH x36.asF k]) (ps:= [_]) (qs:= [a9 ([x30,(aB.mk s_ x32),x34]:List aB)]) [] rfl rfl func238 (by kernel_rfl) rfl rfl rfl (eX.of trivial trivial (by decide) (by decide)) rfl jH rfl rfl rfl (fun k k'=>(.agg (.cons (.free _ rfl) (.cons Mv.acc AT.nil)))) (k7 fu ([x30,(aB.mk s_ x32),x34]:List aB) _ z35)) ?_;refine dA (fun _ st h=>vAl h RT.h) (dZ 7 [7,57] jP (dN ?_))
   refine gQ 6 ?_;refine a7 H (fun h37 H=>?_) (fun h37 H=>?_)
   ·refine bD H fun x39 z38 H=>(bD H fun x41 z40 H=>(cQ H fun z42 H=>(dW (dI [7] bS (dD [60] eE (dI [6] bS (dD [62] eE (dI [63] (bC func240 (kK fu y27.asP _ z38)) (dI [6] bS (dD [65] (cK [pI y27.asM.asJ,pS y27.asM.asN,pS y27.asM.asD,pI y27.asM.atN,pI y27.asM.asH.asJ,pS y27.asM.asH.asD,aX y27.asM.asH.asG,fZ y27.asM.asG,nL y27.asM.asV]) (dI [66] (bC func243 (KF fu y27.asM _ z40)) (dI [64,67] (gC ([x39,x41]:List aB)) (dE [61,68] (jS z42) ?_)))))))))))))
    refine dI [7] bS (kS [70,69] jP (dN ?_))
    refine gQ 3 ?_;refine q1 (cK [pS x36.asK,dH (x36.asF++([x39,x41]:List aB)) 2]) (q1 (gC ([(aB.mk x36.asK (x36.asF++([x39,x41]:List aB)))]:List aB)) (cQ H fun z43 H=>(q1 (jS z43) ?_)))
    exact gE 8
   refine gQ 4 ?_;refine q1 (cK [pS x36.asK,dH x36.asF 2]) (q1 (gC ([(aB.mk x36.asK x36.asF)]:List aB)) (cQ H fun z44 H=>(q1 (jS z44) ?_)))
   exact gE 8
  exact gE 0
 rintro v24 H
 refine gQ 2 ?_;refine q1 (cK [pS x21.asK,dH v24 1]) (bD H fun x46 z45 H=>(q1 (bC func244 (C9 fu true (aB.mk x21.asK v24) _ z45)) ?_))
 exact gE 2
def J4(fu:Nat)(p0 x2:aB)(x4:LB)(x6 x8:aB)(x10:LB)(x12 x14:Bool)(x16:List aB):Nat→((List aD))→Option (LR ((List aD)) (aQ×Bool)):=fun i17 v19=>bd (cV fu (aP x16 i17) 0) fun x23=>bd (cV fu (aP x16 i17) 1) fun x25=>bd (DA fu x25.asF) fun x27=>bd (cV fu (aP x16 i17) 2) fun x29=>bd (kR fu x29) fun x31=>sw (decide ((((((aP x16 i17).asF).length:Nat):Int):Int)>3)) (bd (cV fu (aP x16 i17) 3) fun x34=>bd (kJ fu x34) fun x36=>bd (cV fu (aP x16 i17) 4) fun x38=>bd (fK fu x38) fun x40=>gd ((v19).length+(([(aD.mk x23.asK x27 x31 true x36 x40)]:List aD)).length≤68719476736) (some (.next (v19++([(aD.mk x23.asK x27 x31 true x36 x40)]:List aD))))) (gd ((v19).length+(([(aD.mk x23.asK x27 x31 false [] (aG.mk 0 s_ s_ 0 (aA.mk 0 s_ []) [] []))]:List aD)).length≤68719476736) (some (.next (v19++([(aD.mk x23.asK x27 x31 false [] (aG.mk 0 s_ s_ 0 (aA.mk 0 s_ []) [] []))]:List aD)))))
def t0(fu:Nat)(p0:aB):Option (aQ×Bool):=bd (cV fu p0 3) fun x2=>bd (kJ fu x2) fun x4=>bd (cV fu p0 1) fun x6=>bd (cV fu p0 2) fun x8=>bd (kJ fu x8) fun x10=>bd (iW fu x4 vT) fun x12=>bd (iW fu x4 gI) fun x14=>bd (sP fu p0 4) fun x16=>so (loopN (J4 fu p0 x2 x4 x6 x8 x10 x12 x14 x16) (x16.length-0) 0 ([])) fun v19=>bd (fU fu p0) fun x44=>sw (!(x44)) (some ((aQ.mk s_ [] false false []),false)) (sw (decide ((p0.asF.length:Int)=0)) (some ((aQ.mk s_ [] false false []),false)) (bd (t1 fu (aQ.mk x6.asK x10 x12 x14 v19)) fun x48=>bd (eM fu x48 p0) fun x50=>sw (!(x50)) (some ((aQ.mk s_ [] false false []),false)) (some ((aQ.mk x6.asK x10 x12 x14 v19),true))))
theorem J5(fu:Nat)(p0:aB)(r:aQ×Bool)(H:t0 fu p0=some r):bP Tryz.prog 200 [(aB.pv p0)] (.tup [(aQ.pv r.1),pB r.2]):=by
 refine qJ func200 H (fun C hC H=>?_)
 refine gQ 2 ?_;refine q1 (iR ([pS p0.asK,a9 p0.asF])) ?_;refine gQ 5 ?_;refine q1 (cK [pS p0.asK,a9 p0.asF]) (bD H fun x2 z1 H=>(q1 (bC func175 (cG fu p0 3 _ z1)) (bD H fun x4 z3 H=>(q1 (bC func216 (l0 fu x2 _ z3)) ?_))))
 refine gQ 3 ?_;refine bD H fun x6 z5 H=>(bD H fun x8 z7 H=>(bD H fun x10 z9 H=>(bD H fun x12 z11 H=>(bD H fun x14 z13 H=>(dW (dB [1] 0 1 (GP [pS p0.asK,a9 p0.asF]) (dI [12] (bC func175 (cG fu p0 1 _ z5)) (dI [13] tF1 (dB [1] 0 1 (GP [pS p0.asK,a9 p0.asF]) (dI [15] (bC func175 (cG fu p0 2 _ z7)) (dI [16] (bC func216 (l0 fu x8 _ z9)) (dI [4] bG (dI [18] (bC func153 (jY fu x4 vT _ z11)) ?_)))))))))))))
 refine dI [4] bG (dI [20] (bC func153 (jY fu x4 gI _ z13)) (dI [14,17,19,21] nU (dE [] tAl (kS [5,22] jP (dN ?_)))))
 refine gQ 2 ?_;refine q1 (cK [pS p0.asK,a9 p0.asF]) (bD H fun x16 z15 H=>(q1 (bC func217 (wY fu p0 4 _ z15)) ?_))
 refine gQ 7 ?_;refine cF.wk (Wk.regBox (k:=2) (j:=4) 237 16 (by decide) rfl rfl) ?_;refine iG 6 (aB.trs_len _) (fun hl20=>?_)
 refine bM (σ:=(List aD)) (fun i17 v19=>⟨[(1,.ptr 0 0),(2,.ptr 1 0),(3,pB false),(5,.ptr 2 0),(6,a9 x16),(7,pN i17)],⟨[some ⟨189,[pS p0.asK,a9 p0.asF]⟩,some ⟨156,[pS s_,.nil,pB false,pB false,.nil]⟩,some ⟨156,[pS x6.asK,rS x10,pB x12,pB x14,jI v19 0]⟩],[⟨237,16,aD.trs (v19),false⟩]⟩⟩) (fun v19=>⟨[(1,.ptr 0 0),(2,.ptr 1 0),(3,pB false),(5,.ptr 2 0)],⟨[some ⟨189,[pS p0.asK,a9 p0.asF]⟩,some ⟨156,[pS s_,.nil,pB false,pB false,.nil]⟩,some ⟨156,[pS x6.asK,rS x10,pB x12,pB x14,jI v19 0]⟩],[⟨237,16,aD.trs (v19),false⟩]⟩⟩) (eR H) ?_ ?_
 ·rintro i17 v19 H
  refine gQ 8 ?_;refine cW H (fun h21 h21l H=>?_) (fun h21 H=>?_)
  ·refine gQ 4 ?_;refine bD H fun x23 z22 H=>(bD H fun x25 z24 H=>(bD H fun x27 z26 H=>(bD H fun x29 z28 H=>(bD H fun x31 z30 H=>(dW (dI [6] bG (dI [7] bG (dI [31,32] qY (dI [33] (jB (aB.cs (aP x16 i17))) (dI [34] (bC func175 (cG fu (aP x16 i17) 0 _ z22)) (dI [35] tF1 (dI [6] bG (dI [7] bG ?_)))))))))))))
   refine dI [37,38] qY (dI [39] (jB (aB.cs (aP x16 i17))) (dI [40] (bC func175 (cG fu (aP x16 i17) 1 _ z24)) (dI [41] tF1 (dI [42] (bC func218 (OF fu x25.asF _ z26)) (dI [6] bG (dI [7] bG (dI [44,45] qY (dI [46] (jB (aB.cs (aP x16 i17))) (dI [47] (bC func175 (cG fu (aP x16 i17) 2 _ z28)) (dI [48] (bC func219 (tM fu x29 _ z30)) (dI [36,43,49] nU (dE [] tAl (kS [8,50] jP ?_)))))))))))))
   refine dN ?_;refine gQ 11 ?_;refine a7 H (fun h32 H=>?_) (fun h32 H=>?_)
   ·refine gQ 10 ?_;refine q1 (jB (aB.cs (aP x16 i17))) (bD H fun x34 z33 H=>(q1 (bC func175 (cG fu (aP x16 i17) 3 _ z33)) (bD H fun x36 z35 H=>(q1 (bC func216 (l0 fu x34 _ z35)) ?_))))
    refine gQ 7 ?_;refine q1 (jB (aB.cs (aP x16 i17))) (bD H fun x38 z37 H=>(q1 (bC func175 (cG fu (aP x16 i17) 4 _ z37)) (bD H fun x40 z39 H=>(q1 (bC func220 (B8 fu x38 _ z39)) ?_))))
    refine gQ 6 ?_;refine q1 (cK [pS x23.asK,aX x27,pI x31.asJ,pS x31.asD,aX x31.asG,pB true,rS x36,pI x40.asJ,pS x40.asN,pS x40.asD,pI x40.atN,pI x40.asH.asJ,pS x40.asH.asD,aX x40.asH.asG,fZ x40.asG,nL x40.asV]) (q1 (gC ([(aD.mk x23.asK x27 x31 true x36 x40)]:List aD)) (cQ H fun z41 H=>(q1 (jS z41) ?_)))
    exact gE 8
   refine gQ 4 ?_;refine q1 (cK [pS x23.asK,aX x27,pI x31.asJ,pS x31.asD,aX x31.asG,pB false,.nil,pI 0,pS s_,pS s_,pI 0,pI 0,pS s_,.nil,.nil,.nil]) (q1 (gC ([(aD.mk x23.asK x27 x31 false [] (aG.mk 0 s_ s_ 0 (aA.mk 0 s_ []) [] []))]:List aD)) (cQ H fun z42 H=>(q1 (jS z42) ?_)))
   exact gE 8
  exact gE 0
 rintro v19 H
 refine gQ 2 ?_;refine bD H fun x44 z43 H=>?_
 rcases qB (!(x44)) with g45|g45
 ·have H:=wF H g45
  refine dW (dD [1] (cK [pS p0.asK,a9 p0.asF]) (dI [79] (bC func173 (cP fu p0 _ z43)) (dI [80] F0 (dI [81] bG ?_))))
  iterate 4 refine ME g45 ?_
  refine dI [82] (A6 g45) (dI [87] bG ?_)
  iterate 5 refine ME rfl ?_
  refine dI [88] (A6 rfl) (dN ?_)
  exact gE 7
 have H:=wE H g45
 rcases qB (decide ((p0.asF.length:Int)=0)) with g46|g46
 ·have H:=wF H g46
  refine dW (dD [1] (cK [pS p0.asK,a9 p0.asF]) (dI [79] (bC func173 (cP fu p0 _ z43)) (dI [80] F0 (dI [81] bG (dI (hg:=a6 g45) [1] bS (dD (hg:=a6 g45) [83] eE (dI (hg:=a6 g45) [84] XL (dI (hg:=a6 g45) [85] XJ (dI [82,86] (DZ g45) (dI [87] bG ?_))))))))))
  iterate 5 refine ME g46 ?_
  refine dI [88] (A6 g46) (dN ?_)
  exact gE 7
 have H:=wE H g46
 refine bD H fun x48 z47 H=>(bD H fun x50 z49 H=>(dW (dD [1] (cK [pS p0.asK,a9 p0.asF]) (dI [79] (bC func173 (cP fu p0 _ z43)) (dI [80] F0 (dI [81] bG (dI (hg:=a6 g45) [1] bS (dD (hg:=a6 g45) [83] eE (dI (hg:=a6 g45) [84] XL (dI (hg:=a6 g45) [85] XJ (dI [82,86] (DZ g45) (dI [87] bG (dD (hg:=a6 g46) [5] (cK [pS x6.asK,rS x10,pB x12,pB x14,jI v19 0]) ?_)))))))))))))
 refine dI (hg:=a6 g46) [89] (bC func222 (J9 fu (aQ.mk x6.asK x10 x12 x14 v19) _ z47)) (dD (hg:=a6 g46) [1] (cK [pS p0.asK,a9 p0.asF]) (dI (hg:=a6 g46) [90,91] (bC func221 (rK fu x48 p0 _ z49)) (dI (hg:=a6 g46) [92] F0 (dI [88,93] (DZ g46) (dN ?_)))))
 refine a7 H (fun h51 H=>gE 6) fun h51 H=>?_;refine gQ 3 ?_;refine q1 (cK [pS x6.asK,rS x10,pB x12,pB x14,jI v19 0]) ?_;exact gE 3
def D0(fu:Nat)(pd:aI)(x2 x4 x6 x8:aB):Nat→((List aB))→Option (LR ((List aB)) aB):=fun i9 v11=>bd (bV fu ((aP pd.asI i9).asD)) fun x15=>bd (wZ fu ((aP pd.asI i9).asR)) fun x17=>gd ((([x15]:List aB)).length+x17.length≤68719476736) (gd ((v11).length+(([(aB.mk s_ (([x15]:List aB)++x17))]:List aB)).length≤68719476736) (some (.next (v11++([(aB.mk s_ (([x15]:List aB)++x17))]:List aB)))))
def o6(fu:Nat)(pd:aI):Option aB:=bd (bV fu KB) fun x2=>bd (bV fu pd.asD) fun x4=>bd (jC fu pd.asP) fun x6=>bd (jZ fu ([x2,x4,x6]:List aB)) fun x8=>so (loopN (D0 fu pd x2 x4 x6 x8) (pd.asI.length-0) 0 x8.asF) fun v11=>bd (gY fu pd) fun x21=>bd (yW fu x21 (aB.mk x8.asK v11)) fun x23=>some x23
theorem D1(fu:Nat)(pd:aI)(r:aB)(H:o6 fu pd=some r):bP Tryz.prog 223 [(aI.pv pd)] ((aB.pv r)):=by
 refine qJ func223 H (fun C hC H=>?_)
 refine gQ 2 ?_;refine q1 (iR (dG pd)) ?_;refine gQ 3 ?_;refine bD H fun x2 z1 H=>(bD H fun x4 z3 H=>(bD H fun x6 z5 H=>(bD H fun x8 z7 H=>(dWa (dI [] (bC func239 (bO fu KB _ z1)) (dI [1] bS (dBz [6] 0 0 t7 (dI [7] (bC func239 (bO fu pd.asD _ z3)) (dI [1] bS (dBz [9] 0 0 t7 (dI [10] (bC func240 (kK fu pd.asP _ z5)) (dI [5,8,11] (gC ([x2,x4,x6]:List aB)) ?_))))))))))))
 refine dEz [12] (fun _ z=>by cases z<;>exact a5.callOwn (pre:=⟨[],[]⟩) (B:= []) (R:=fun k=> .agg [pS x8.asK,dH x8.asF k]) (ps:= [_]) (qs:= [a9 ([x2,x4,x6]:List aB)]) [] rfl rfl func238 (by kernel_rfl) rfl rfl rfl (eX.of trivial trivial (by decide) (by decide)) rfl jH rfl rfl rfl (fun k k'=>(.agg (.cons (.free _ rfl) (.cons Mv.acc AT.nil)))) (k7 fu ([x2,x4,x6]:List aB) _ z7)) ?_;refine dA (fun _ st h=>vAl h RT.h) (dZ 3 [3,13] jP (dN ?_))
 refine gQ 5 ?_;refine cF.fact (b6 0 2 rfl rfl rfl (aC.trs_len _)) (fun hl12=>?_)
 refine bM (σ:=(List aB)) (fun i9 v11=>⟨[(1,.ptr 0 0),(2,.ptr 1 0),(3,.ptr 2 0),(4,pN i9)],⟨[some ⟨39,dG pd⟩,some ⟨189,[pS s_,.nil]⟩,some ⟨189,[pS x8.asK,dH v11 0]⟩],[⟨189,2,aB.trs (v11),false⟩]⟩⟩) (fun v11=>⟨[(1,.ptr 0 0),(2,.ptr 1 0),(3,.ptr 2 0)],⟨[some ⟨39,dG pd⟩,some ⟨189,[pS s_,.nil]⟩,some ⟨189,[pS x8.asK,dH v11 0]⟩],[⟨189,2,aB.trs (v11),false⟩]⟩⟩) (eR H) ?_ ?_
 ·rintro i9 v11 H
  refine gQ 9 ?_;refine cW H (fun h13 h13l H=>?_) (fun h13 H=>?_)
  ·refine gQ 3 ?_;refine bD H fun x15 z14 H=>(bD H fun x17 z16 H=>(cQ H fun z18 H=>(cQ H fun z19 H=>(dW (dI [3] bS (dB [21] 0 2 t7 (dI [1] bS (dD [23] eE (dI [4] bG (dI [24,25] qY (dI [26] y2 (dI [27] xR (dI [28] (bC func239 (bO fu ((aP pd.asI i9).asD) _ z14)) ?_)))))))))))))
   refine dE [29] (n0 ([x15]:List aB)) (dI [1] bS (dB [31] 0 1 t7 (dI [4] bG (dI [32,33] qY (dI [34] y2 (dI [35] xR (dI [36] (bC func241 (IA fu ((aP pd.asI i9).asR) _ z16)) (dE [30,37] (jS z18) (dI [38] nU (dI [39] (gC ([(aB.mk s_ (([x15]:List aB)++x17))]:List aB)) (dE [22,40] (jS z19) (dI [3] bS (kS [42,41] jP ?_)))))))))))))
   refine dN ?_;exact gE 5
  exact gE 0
 rintro v11 H
 refine qS (bD H fun x21 z20 H=>(bD H fun x23 z22 H=>(dW (dD [1] (cK [pS pd.asD,rS pd.asP,cB pd.asI]) (dI [43] (bC func230 (t9 fu pd _ z20)) (dD [3] (cK [pS x8.asK,dH v11 0]) (dI [44,45] (bC func244 (C9 fu x21 (aB.mk x8.asK v11) _ z22)) (kS [2,46] jP (dN ?_)))))))))
 exact gE 0
def EA(fu:Nat)(px x2 x4:aB)(x6:LB)(x8:List aB):Nat→((List aC))→Option (LR ((List aC)) (aI×Bool)):=fun i9 v11=>bd (cV fu (aP x8 i9) 0) fun x15=>bd (sP fu (aP x8 i9) 1) fun x17=>bd (DA fu x17) fun x19=>gd ((v11).length+(([(aC.mk x15.asK x19)]:List aC)).length≤68719476736) (some (.next (v11++([(aC.mk x15.asK x19)]:List aC))))
def o9(fu:Nat)(px:aB):Option (aI×Bool):=bd (cV fu px 1) fun x2=>bd (cV fu px 2) fun x4=>bd (kJ fu x4) fun x6=>bd (sP fu px 3) fun x8=>so (loopN (EA fu px x2 x4 x6 x8) (x8.length-0) 0 ([])) fun v11=>bd (fU fu px) fun x22=>sw (!(x22)) (some ((aI.mk s_ [] []),false)) (sw (decide ((px.asF.length:Int)=0)) (some ((aI.mk s_ [] []),false)) (bd (o6 fu (aI.mk x2.asK x6 v11)) fun x26=>bd (eM fu x26 px) fun x28=>sw (!(x28)) (some ((aI.mk s_ [] []),false)) (some ((aI.mk x2.asK x6 v11),true))))
theorem EB(fu:Nat)(px:aB)(r:aI×Bool)(H:o9 fu px=some r):bP Tryz.prog 201 [(aB.pv px)] (.tup [(aI.pv r.1),pB r.2]):=by
 refine qJ func201 H (fun C hC H=>?_)
 refine gQ 2 ?_;refine q1 (iR ([pS px.asK,a9 px.asF])) ?_;refine gQ 4 ?_;refine bD H fun x2 z1 H=>(bD H fun x4 z3 H=>(bD H fun x6 z5 H=>(dW (dB [1] 0 1 (GP [pS px.asK,a9 px.asF]) (dI [7] (bC func175 (cG fu px 1 _ z1)) (dI [8] tF1 (dB [1] 0 1 (GP [pS px.asK,a9 px.asF]) (dI [10] (bC func175 (cG fu px 2 _ z3)) (dI [11] (bC func216 (l0 fu x4 _ z5)) (dI [9,12] nU (dE [] tAl (kS [4,13] jP (dN ?_)))))))))))))
 refine gQ 2 ?_;refine q1 (cK [pS px.asK,a9 px.asF]) (bD H fun x8 z7 H=>(q1 (bC func217 (wY fu px 3 _ z7)) ?_))
 refine gQ 7 ?_;refine cF.wk (Wk.regBox (k:=2) (j:=2) 46 2 (by decide) rfl rfl) ?_;refine iG 5 (aB.trs_len _) (fun hl12=>?_)
 refine bM (σ:=(List aC)) (fun i9 v11=>⟨[(1,.ptr 0 0),(2,.ptr 1 0),(3,pB false),(4,.ptr 2 0),(5,a9 x8),(6,pN i9)],⟨[some ⟨189,[pS px.asK,a9 px.asF]⟩,some ⟨39,[pS s_,.nil,.nil]⟩,some ⟨39,[pS x2.asK,rS x6,lM v11 0]⟩],[⟨46,2,aC.trs (v11),false⟩]⟩⟩) (fun v11=>⟨[(1,.ptr 0 0),(2,.ptr 1 0),(3,pB false),(4,.ptr 2 0)],⟨[some ⟨189,[pS px.asK,a9 px.asF]⟩,some ⟨39,[pS s_,.nil,.nil]⟩,some ⟨39,[pS x2.asK,rS x6,lM v11 0]⟩],[⟨46,2,aC.trs (v11),false⟩]⟩⟩) (eR H) ?_ ?_
 ·rintro i9 v11 H
  refine gQ 8 ?_;refine cW H (fun h13 h13l H=>?_) (fun h13 H=>?_)
  ·refine gQ 3 ?_;refine bD H fun x15 z14 H=>(bD H fun x17 z16 H=>(bD H fun x19 z18 H=>(cQ H fun z20 H=>(dW (dI [4] bS (dD [22] eE (dI [5] bG (dI [6] bG (dI [24,25] qY (dI [26] (jB (aB.cs (aP x8 i9))) (dI [27] (bC func175 (cG fu (aP x8 i9) 0 _ z14)) (dI [28] tF1 (dI [5] bG ?_)))))))))))))
   refine dI [6] bG (dI [30,31] qY (dI [32] (jB (aB.cs (aP x8 i9))) (dI [33] (bC func217 (wY fu (aP x8 i9) 1 _ z16)) (dI [34] (bC func218 (OF fu x17 _ z18)) (dI [29,35] nU (dI [36] (gC ([(aC.mk x15.asK x19)]:List aC)) (dE [23,37] (jS z20) (dI [4] bS (kS [39,38] jP (dN ?_))))))))))
   exact gE 5
  exact gE 0
 rintro v11 H
 refine gQ 2 ?_;refine bD H fun x22 z21 H=>?_
 rcases qB (!(x22)) with g23|g23
 ·have H:=wF H g23
  refine dW (dD [1] (cK [pS px.asK,a9 px.asF]) (dI [40] (bC func173 (cP fu px _ z21)) (dI [41] F0 (dI [42] bG ?_))))
  iterate 4 refine ME g23 ?_
  refine dI [43] (A6 g23) (dI [48] bG ?_)
  iterate 5 refine ME rfl ?_
  refine dI [49] (A6 rfl) (dN ?_)
  exact gE 7
 have H:=wE H g23
 rcases qB (decide ((px.asF.length:Int)=0)) with g24|g24
 ·have H:=wF H g24
  refine dW (dD [1] (cK [pS px.asK,a9 px.asF]) (dI [40] (bC func173 (cP fu px _ z21)) (dI [41] F0 (dI [42] bG (dI (hg:=a6 g23) [1] bS (dD (hg:=a6 g23) [44] eE (dI (hg:=a6 g23) [45] XL (dI (hg:=a6 g23) [46] XJ (dI [43,47] (DZ g23) (dI [48] bG ?_))))))))))
  iterate 5 refine ME g24 ?_
  refine dI [49] (A6 g24) (dN ?_)
  exact gE 7
 have H:=wE H g24
 refine bD H fun x26 z25 H=>(bD H fun x28 z27 H=>(dW (dD [1] (cK [pS px.asK,a9 px.asF]) (dI [40] (bC func173 (cP fu px _ z21)) (dI [41] F0 (dI [42] bG (dI (hg:=a6 g23) [1] bS (dD (hg:=a6 g23) [44] eE (dI (hg:=a6 g23) [45] XL (dI (hg:=a6 g23) [46] XJ (dI [43,47] (DZ g23) (dI [48] bG (dD (hg:=a6 g24) [4] (cK [pS x2.asK,rS x6,lM v11 0]) ?_)))))))))))))
 refine dI (hg:=a6 g24) [50] (bC func223 (D1 fu (aI.mk x2.asK x6 v11) _ z25)) (dD (hg:=a6 g24) [1] (cK [pS px.asK,a9 px.asF]) (dI (hg:=a6 g24) [51,52] (bC func221 (rK fu x26 px _ z27)) (dI (hg:=a6 g24) [53] F0 (dI [49,54] (DZ g24) (dN ?_)))))
 refine a7 H (fun h29 H=>gE 6) fun h29 H=>?_;refine gQ 3 ?_;refine q1 (cK [pS x2.asK,rS x6,lM v11 0]) ?_;exact gE 3
def QK(fu:Nat)(px:aB):Nat→((List aE))→Option (LR ((List aE)) ((List aE))):=fun i1 v3=>bd (cV fu (aP px.asF i1) 0) fun x7=>bd (cV fu (aP px.asF i1) 1) fun x9=>bd (kR fu x9) fun x11=>gd ((v3).length+(([(aE.mk x7.asK x11)]:List aE)).length≤68719476736) (some (.next (v3++([(aE.mk x7.asK x11)]:List aE))))
def uR(fu:Nat)(px:aB):Option ((List aE)):=so (loopN (QK fu px) (px.asF.length-0) 0 ([])) fun v3=>some v3
theorem ER(fu:Nat)(px:aB)(r:(List aE))(H:uR fu px=some r):bP Tryz.prog 224 [(aB.pv px)] (b4 r):=by
 refine qJ func224 H (fun C hC H=>?_)
 refine gQ 2 ?_;refine q1 (iR ([pS px.asK,a9 px.asF])) ?_;refine gQ 4 ?_;refine q1 (n0 ([]:List aE)) ?_;refine gQ 7 ?_;refine cF.fact (b6 0 1 rfl rfl rfl (aB.trs_len _)) (fun hl4=>?_)
 refine bM (σ:=(List aE)) (fun i1 v3=>⟨[(1,.ptr 0 0),(2,.nil),(3,R6 v3 0),(4,pN i1)],⟨[some ⟨189,[pS px.asK,a9 px.asF]⟩],[⟨32,4,aE.trs (v3),false⟩]⟩⟩) (fun v3=>⟨[(2,.nil),(3,R6 v3 0)],⟨[some ⟨189,[pS px.asK,a9 px.asF]⟩],[⟨32,4,aE.trs (v3),false⟩]⟩⟩) (eR H) ?_ ?_
 ·rintro i1 v3 H
  refine gQ 9 ?_;refine cW H (fun h5 h5l H=>?_) (fun h5 H=>?_)
  ·refine gQ 3 ?_;refine bD H fun x7 z6 H=>(bD H fun x9 z8 H=>(bD H fun x11 z10 H=>(cQ H fun z12 H=>(dW (dI [3] bG (dI [1] bS (dD [14] eE (dI [4] bG (dI [15,16] qY (dI [17] (jB (aB.cs (aP px.asF i1))) (dI [18] (bC func175 (cG fu (aP px.asF i1) 0 _ z6)) (dI [19] tF1 (dI [1] bS ?_)))))))))))))
   refine dD [21] eE (dI [4] bG (dI [22,23] qY (dI [24] (jB (aB.cs (aP px.asF i1))) (dI [25] (bC func175 (cG fu (aP px.asF i1) 1 _ z8)) (dI [26] (bC func219 (tM fu x9 _ z10)) (dI [20,27] nU (dI [28] (gC ([(aE.mk x7.asK x11)]:List aE)) (dE [13,29] (jS z12) (dI [30] bG (dN ?_))))))))))
   exact gE 5
  exact gE 0
 rintro v3 H
 exact gE 5
def TM(fu:Nat)(p1:List aE):Nat→((List aB))→Option (LR ((List aB)) aB):=fun i1 v3=>bd (bV fu ((aP p1 i1).asN)) fun x7=>bd (kQ fu ((aP p1 i1).asH)) fun x9=>bd (jZ fu ([x7,x9]:List aB)) fun x11=>gd ((v3).length+(([x11]:List aB)).length≤68719476736) (some (.next (v3++([x11]:List aB))))
def w5(fu:Nat)(p1:List aE):Option aB:=so (loopN (TM fu p1) (p1.length-0) 0 ([])) fun v3=>some (aB.mk s_ v3)
theorem IB(fu:Nat)(p1:List aE)(r:aB)(H:w5 fu p1=some r):bP Tryz.prog 245 [b4 p1] ((aB.pv r)):=by
 refine qJ func245 H (fun C hC H=>?_)
 refine gQ 15 ?_;refine cF.wk (Wk.regBox (k:=1) (j:=1) 189 2 (by decide) rfl rfl) ?_;refine iG 0 (aE.trs_len _) (fun hl4=>?_)
 refine bM (σ:=(List aB)) (fun i1 v3=>⟨[(0,b4 p1),(2,.ptr 0 0),(3,.ptr 1 0),(4,pN i1)],⟨[some ⟨189,[pS s_,.nil]⟩,some ⟨189,[pS s_,dH v3 0]⟩],[⟨189,2,aB.trs (v3),false⟩]⟩⟩) (fun v3=>⟨[(2,.ptr 0 0),(3,.ptr 1 0)],⟨[some ⟨189,[pS s_,.nil]⟩,some ⟨189,[pS s_,dH v3 0]⟩],[⟨189,2,aB.trs (v3),false⟩]⟩⟩) (eR H) ?_ ?_
 ·rintro i1 v3 H
  refine gQ 8 ?_;refine cW H (fun h5 h5l H=>?_) (fun h5 H=>?_)
  ·refine gQ 3 ?_;refine bD H fun x7 z6 H=>(bD H fun x9 z8 H=>(bD H fun x11 z10 H=>(cQ H fun z12 H=>(dW (dI [3] bS (dD [12] eE (dI [0] bG (dI [4] bG (dI [14,15] qY (dI [16] y2 (dI [17] xR (dI [18] (bC func239 (bO fu ((aP p1 i1).asN) _ z6)) (dI [0] bG ?_)))))))))))))
   refine dI [4] bG (dI [20,21] qY (dI [22] y2 (dI [23] (jB (aA.cs ((aP p1 i1).asH))) (dI [24] (bC func242 (tL fu ((aP p1 i1).asH) _ z8)) (dI [19,25] (gC ([x7,x9]:List aB)) (dI [26] (bC func238 (AN (k7 fu) ([x7,x9]:List aB) _ z10)) (dI [27] (gC ([x11]:List aB)) (dE [13,28] (jS z12) (dI [3] bS (kS [30,29] jP (dN ?_)))))))))))
   exact gE 5
  exact gE 0
 rintro v3 H
 refine gQ 2 ?_;refine q1 (cK [pS s_,dH v3 0]) ?_;exact gE 2
def D5(fu:Nat)(p0:aJ)(x2:Bool):Option (aB⊕((LB))):=sw (p0.atB) (gd (([]:LB).length+(([sJ]:LB)).length≤68719476736) (some (.inr (([])++([sJ]:LB))))) (some (.inr ([])))
def D6(fu:Nat)(p0:aJ)(x2:Bool)(v5:LB):Option (aB⊕(ByteArray×(List aB))):=sw (p0.as9) (bd (kQ fu p0.asW) fun x12=>bd (jZ fu ([x12]:List aB)) fun x14=>some (.inr (x14.asK,x14.asF))) (some (.inr (s_,([]))))
def D7(fu:Nat)(p0:aJ)(x2:Bool)(v5:LB)(v8:ByteArray)(v9:List aB)(x16 x18 x20 x22 x24 x26 x28:aB):Nat→((List aB))→Option (LR ((List aB)) aB):=fun i29 v31=>lt (aP p0.as2 i29) fun y34=>bd (bV fu y34.asD) fun x37=>bd (jC fu y34.asP) fun x39=>bd (kI fu y34.asM) fun x41=>bd (jZ fu ([x37,x39,x41]:List aB)) fun x43=>gd ((v31).length+(([(aB.mk x43.asK x43.asF)]:List aB)).length≤68719476736) (some (.next (v31++([(aB.mk x43.asK x43.asF)]:List aB))))
def o8(fu:Nat)(p0:aJ):Option aB:=bd (gZ fu p0) fun x2=>sw (!(x2)) (some (aB.mk s_ [])) (so (D5 fu p0 x2) fun v5=>so (D6 fu p0 x2 v5) fun(v8,v9)=>bd (bV fu KC) fun x16=>bd (bV fu p0.asN) fun x18=>bd (jC fu p0.asP) fun x20=>bd (kQ fu p0.as1) fun x22=>bd (w5 fu p0.as0) fun x24=>bd (jC fu v5) fun x26=>bd (jZ fu ([x16,x18,x20,x22,x24,x26,(aB.mk v8 v9)]:List aB)) fun x28=>so (loopN (D7 fu p0 x2 v5 v8 v9 x16 x18 x20 x22 x24 x26 x28) (p0.as2.length-0) 0 x28.asF) fun v31=>bd (yW fu true (aB.mk x28.asK v31)) fun x46=>some x46)
theorem D8(fu:Nat)(p0:aJ)(r:aB)(H:o8 fu p0=some r):bP Tryz.prog 225 [(aJ.pv p0)] ((aB.pv r)):=by
 refine qJ func225 H (fun C hC H=>?_)
 refine gQ 2 ?_;refine q1 (iR (lD p0)) ?_;refine gQ 5 ?_;refine q1 (cK [pS p0.asN,rS p0.asP,pI p0.as1.asJ,pS p0.as1.asD,aX p0.as1.asG,b4 p0.as0,pB p0.atB,pB p0.as9,pI p0.asW.asJ,pS p0.asW.asD,aX p0.asW.asG,kB p0.as2]) (bD H fun x2 z1 H=>(q1 (bC func231 (uE fu p0 _ z1)) ?_))
 refine gQ 2 ?_;refine a7 H (fun h3 H=>gE 5) fun h3 H=>?_;refine gQ 3 ?_;refine q1 (n0 ([]:LB)) ?_;refine gQ 3 ?_;refine m3 (σ:=(LB)) (fun v5=>⟨[(1,.ptr 0 0),(2,.ptr 1 0),(3,aS v5 0)],⟨[some ⟨163,lD p0⟩,some ⟨189,[pS s_,.nil]⟩],[⟨9,1,aW (v5),false⟩]⟩⟩) (eR H) (fun H=>?_) ?_
 ·refine gQ 5 ?_;refine a7 H (fun h6 H=>?_) (fun h6 H=>?_)
  ·refine gQ 2 ?_;refine q1 (gC ([sJ]:LB)) (cQ H fun z7 H=>(q1 (jS z7) ?_))
   exact gE 2
  exact gE 1
 rintro v5 H
 refine gQ 7 ?_;refine cF.wk (Wk.regBox (k:=2) (j:=1) 189 2 (by decide) rfl rfl) ?_;refine m3 (σ:=ByteArray×(List aB)) (fun(v8,v9)=>⟨[(1,.ptr 0 0),(2,.ptr 1 0),(3,aS v5 0),(4,.ptr 2 0)],⟨[some ⟨163,lD p0⟩,some ⟨189,[pS s_,.nil]⟩,some ⟨189,[pS v8,a9 v9]⟩],[⟨9,1,aW (v5),false⟩,⟨189,2,aB.trs ([]),false⟩]⟩⟩) (eR H) (fun H=>?_) ?_
 ·refine gQ 5 ?_;refine a7 H (fun h10 H=>?_) (fun h10 H=>?_)
  ·refine gQ 2 ?_;refine q1 (cK [pI p0.asW.asJ,pS p0.asW.asD,aX p0.asW.asG]) (bD H fun x12 z11 H=>(q1 (bC func242 (tL fu p0.asW _ z11)) (q1 (gC ([x12]:List aB)) (bD H fun x14 z13 H=>(q1 (a5.callOwn (pre:=⟨[],[]⟩) (B:= []) (R:=fun k=> .agg [pS x14.asK,dH x14.asF k]) (ps:= [_]) (qs:= [a9 ([x12]:List aB)]) [] rfl rfl func238 (by kernel_rfl) rfl rfl rfl (eX.of trivial trivial (by decide) (by decide)) rfl jH rfl rfl rfl (fun k k'=>(.agg (.cons (.free _ rfl) (.cons Mv.acc AT.nil)))) (k7 fu ([x12]:List aB) _ z13)) ?_)))))
   exact gE 2
  exact gE 1
 rintro⟨v8,v9⟩ H
 refine qS (bD H fun x16 z15 H=>(bD H fun x18 z17 H=>(bD H fun x20 z19 H=>(bD H fun x22 z21 H=>(bD H fun x24 z23 H=>(bD H fun x26 z25 H=>(bD H fun x28 z27 H=>(dWa (dI [] (bC func239 (bO fu KC _ z15)) (dI [1] bS (dBz [27] 0 0 t7 (dI [28] (bC func239 (bO fu p0.asN _ z17)) (dI [1] bS ?_)))))))))))))
 refine dBz [30] 0 0 t7 (dI [31] (bC func240 (kK fu p0.asP _ z19)) (dI [1] bS (dBz [33] 0 0 (GP [pI p0.as1.asJ,pS p0.as1.asD,aX p0.as1.asG]) (dI [34] (bC func242 (tL fu p0.as1 _ z21)) (dI [1] bS (dBz [36] 0 0 t7 (dI [37] (bC func245 (IB fu p0.as0 _ z23)) (dI [3] bG (dI [39] (bC func240 (kK fu v5 _ z25)) (dBz [4] 0 0 (GP [pS v8,a9 v9]) (dI [26,29,32,35,38,40,41] (gC ([x16,x18,x20,x22,x24,x26,(aB.mk v8 v9)]:List aB)) ?_)))))))))))
 refine dEz [42] (fun _ z=>by cases z<;>exact a5.callOwn (pre:=⟨[],[]⟩) (B:= []) (R:=fun k=> .agg [pS x28.asK,dH x28.asF k]) (ps:= [_]) (qs:= [a9 ([x16,x18,x20,x22,x24,x26,(aB.mk v8 v9)]:List aB)]) [] rfl rfl func238 (by kernel_rfl) rfl rfl rfl (eX.of trivial trivial (by decide) (by decide)) rfl jH rfl rfl rfl (fun k k'=>(.agg (.cons (.free _ rfl) (.cons Mv.acc AT.nil)))) (k7 fu ([x16,x18,x20,x22,x24,x26,(aB.mk v8 v9)]:List aB) _ z27)) ?_;refine dA (fun _ st h=>vAl h RT.h) (dZ 5 [5,43] jP (dN ?_))
 refine gQ 5 ?_;refine cF.fact (b6 0 11 rfl rfl rfl (aM.trs_len _)) (fun hl32=>?_)
 refine bM (σ:=(List aB)) (fun i29 v31=>⟨[(1,.ptr 0 0),(2,.ptr 1 0),(5,.ptr 3 0),(6,pN i29)],⟨[some ⟨163,lD p0⟩,some ⟨189,[pS s_,.nil]⟩,some ⟨189,[pS v8,a9 v9]⟩,some ⟨189,[pS x28.asK,dH v31 2]⟩],[⟨9,1,aW (v5),false⟩,⟨189,2,aB.trs ([]),false⟩,⟨189,2,aB.trs (v31),false⟩]⟩⟩) (fun v31=>⟨[(2,.ptr 1 0),(5,.ptr 3 0)],⟨[some ⟨163,lD p0⟩,some ⟨189,[pS s_,.nil]⟩,some ⟨189,[pS v8,a9 v9]⟩,some ⟨189,[pS x28.asK,dH v31 2]⟩],[⟨9,1,aW (v5),false⟩,⟨189,2,aB.trs ([]),false⟩,⟨189,2,aB.trs (v31),false⟩]⟩⟩) (eR H) ?_ ?_
 ·rintro i29 v31 H
  refine gQ 9 ?_;refine cW H (fun h33 h33l H=>?_) (fun h33 H=>?_)
  ·refine gQ 8 ?_;refine fI H fun y34 h35 H=>(q1 (uG h35 h33l) (q1 (jB (aM.cs y34)) ?_))
   refine gQ 3 ?_;refine bD H fun x37 z36 H=>(bD H fun x39 z38 H=>(bD H fun x41 z40 H=>(bD H fun x43 z42 H=>(cQ H fun z44 H=>(dW (dI [5] bS (dB [56] 0 1 t7 (dI [7] bS (dD [58] eE (dI [59] (bC func239 (bO fu y34.asD _ z36)) (dI [7] bS (dD [61] eE (dI [62] (bC func240 (kK fu y34.asP _ z38)) ?_)))))))))))))
   refine dI [7] bS (dD [64] (cK [pI y34.asM.asJ,pS y34.asM.asN,pS y34.asM.asD,pI y34.asM.atN,pI y34.asM.asH.asJ,pS y34.asM.asH.asD,aX y34.asM.asH.asG,fZ y34.asM.asG,nL y34.asM.asV]) (dI [65] (bC func243 (KF fu y34.asM _ z40)) (dI [60,63,66] (gC ([x37,x39,x41]:List aB)) (dE [67] (a5.callOwn (pre:=⟨[],[]⟩) (B:= []) (R:=fun k=> .agg [pS x43.asK,dH x43.asF k]) (ps:= [_]) (qs:= [a9 ([x37,x39,x41]:List aB)]) [] rfl rfl func238 (by kernel_rfl) rfl rfl rfl (eX.of trivial trivial (by decide) (by decide)) rfl jH rfl rfl rfl (fun k k'=>(.agg (.cons (.free _ rfl) (.cons Mv.acc AT.nil)))) (k7 fu ([x37,x39,x41]:List aB) _ z42)) (dI [68] (gC ([(aB.mk x43.asK x43.asF)]:List aB)) (dE [57,69] (jS z44) (dI [5] bS (kS [71,70] jP (dN ?_)))))))))
   exact gE 5
  exact gE 0
 rintro v31 H
 refine gQ 2 ?_;refine q1 (cK [pS x28.asK,dH v31 2]) (bD H fun x46 z45 H=>(q1 (bC func244 (C9 fu true (aB.mk x28.asK v31) _ z45)) ?_))
 exact gE 2
def EE(fu:Nat)(p0 x2 x4:aB)(x6:LB)(x8:aB)(x10:aA)(x12:aB)(x14:List aE)(x16 x18:aB):Option ((aJ×Bool)⊕((List aA)×Bool×Int×ByteArray)):=sw (decide ((x18.asF.length:Int)>0)) (gd (0<(x18.asF).length) (bd (kR fu (aP x18.asF 0)) fun x26=>some (.inr (x26.asG,true,x26.asJ,x26.asD)))) (some (.inr ([],false,0,s_)))
def EF(fu:Nat)(p0 x2 x4:aB)(x6:LB)(x8:aB)(x10:aA)(x12:aB)(x14:List aE)(x16 x18:aB)(v22:List aA)(v19:Bool)(v20:Int)(v21:ByteArray)(x28:List aB):Nat→((List aM))→Option (LR ((List aM)) (aJ×Bool)):=fun i29 v31=>bd (cV fu (aP x28 i29) 0) fun x35=>bd (cV fu (aP x28 i29) 1) fun x37=>bd (kJ fu x37) fun x39=>bd (cV fu (aP x28 i29) 2) fun x41=>bd (fK fu x41) fun x43=>gd ((v31).length+(([(aM.mk x35.asK x39 x43)]:List aM)).length≤68719476736) (some (.next (v31++([(aM.mk x35.asK x39 x43)]:List aM))))
def pV(fu:Nat)(p0:aB):Option (aJ×Bool):=bd (cV fu p0 1) fun x2=>bd (cV fu p0 2) fun x4=>bd (kJ fu x4) fun x6=>bd (cV fu p0 3) fun x8=>bd (kR fu x8) fun x10=>bd (cV fu p0 4) fun x12=>bd (uR fu x12) fun x14=>bd (cV fu p0 5) fun x16=>bd (cV fu p0 6) fun x18=>so (EE fu p0 x2 x4 x6 x8 x10 x12 x14 x16 x18) fun(v22,v19,v20,v21)=>bd (sP fu p0 7) fun x28=>so (loopN (EF fu p0 x2 x4 x6 x8 x10 x12 x14 x16 x18 v22 v19 v20 v21 x28) (x28.length-0) 0 ([])) fun v31=>bd (fU fu p0) fun x46=>sw (!(x46)) (some ((aJ.mk s_ [] (aA.mk 0 s_ []) [] false false (aA.mk 0 s_ []) []),false)) (sw (decide ((p0.asF.length:Int)=0)) (some ((aJ.mk s_ [] (aA.mk 0 s_ []) [] false false (aA.mk 0 s_ []) []),false)) (bd (o8 fu (aJ.mk x2.asK x6 x10 x14 (decide ((x16.asF.length:Int)>0)) v19 (aA.mk v20 v21 v22) v31)) fun x50=>bd (eM fu x50 p0) fun x52=>sw (!(x52)) (some ((aJ.mk s_ [] (aA.mk 0 s_ []) [] false false (aA.mk 0 s_ []) []),false)) (some ((aJ.mk x2.asK x6 x10 x14 (decide ((x16.asF.length:Int)>0)) v19 (aA.mk v20 v21 v22) v31),true))))
theorem EG(fu:Nat)(p0:aB)(r:aJ×Bool)(H:pV fu p0=some r):bP Tryz.prog 202 [(aB.pv p0)] (.tup [(aJ.pv r.1),pB r.2]):=by
 refine qJ func202 H (fun C hC H=>?_)
 refine gQ 2 ?_;refine q1 (iR ([pS p0.asK,a9 p0.asF])) ?_;refine gQ 4 ?_;refine bD H fun x2 z1 H=>(bD H fun x4 z3 H=>(bD H fun x6 z5 H=>(bD H fun x8 z7 H=>(bD H fun x10 z9 H=>(bD H fun x12 z11 H=>(bD H fun x14 z13 H=>(bD H fun x16 z15 H=>(dW (dB [1] 0 1 (GP [pS p0.asK,a9 p0.asF]) (dI [8] (bC func175 (cG fu p0 1 _ z1)) (dI [9] tF1 (dB [1] 0 1 (GP [pS p0.asK,a9 p0.asF]) (dI [11] (bC func175 (cG fu p0 2 _ z3)) ?_)))))))))))))
 refine dI [12] (bC func216 (l0 fu x4 _ z5)) (dB [1] 0 1 (GP [pS p0.asK,a9 p0.asF]) (dI [14] (bC func175 (cG fu p0 3 _ z7)) (dI [15] (bC func219 (tM fu x8 _ z9)) (dB [1] 0 1 (GP [pS p0.asK,a9 p0.asF]) (dI [17] (bC func175 (cG fu p0 4 _ z11)) (dI [18] (bC func224 (ER fu x12 _ z13)) (dB [1] 0 1 (GP [pS p0.asK,a9 p0.asF]) (dI [20] (bC func175 (cG fu p0 5 _ z15)) (dI [21] tF1 (dI [22] XL (dI [23] rGt (dI [10,13,16,19,24] nU (dE [] tAl ?_)))))))))))))
 refine kS [4,25] jP (dN ?_)
 refine gQ 2 ?_;refine q1 (cK [pS p0.asK,a9 p0.asF]) (bD H fun x18 z17 H=>(q1 (bC func175 (cG fu p0 6 _ z17)) ?_))
 refine gQ 4 ?_;refine m3 (σ:=(List aA)×Bool×Int×ByteArray) (fun(v22,v19,v20,v21)=>⟨[(1,.ptr 0 0),(2,.ptr 1 0),(3,pB false),(4,.ptr 2 0)],⟨[some ⟨189,[pS p0.asK,a9 p0.asF]⟩,some ⟨163,[pS s_,.nil,pI 0,pS s_,.nil,.nil,pB false,pB false,pI 0,pS s_,.nil,.nil]⟩,some ⟨163,[pS x2.asK,rS x6,pI x10.asJ,pS x10.asD,aX x10.asG,b4 x14,pB (decide ((x16.asF.length:Int)>0)),pB v19,pI v20,pS v21,aX v22,.nil]⟩,some ⟨189,[pS x18.asK,a9 x18.asF]⟩],[]⟩⟩) (eR H) (fun H=>?_) ?_
 ·refine gQ 7 ?_;refine a7 H (fun h23 H=>?_) (fun h23 H=>?_)
  ·refine gQ 8 ?_;refine cQ H fun z24 H=>(q1 qY (q1 (jB (aB.cs (aP x18.asF 0))) (bD H fun x26 z25 H=>(q1 (bC func219 (tM fu (aP x18.asF 0) _ z25)) ?_))))
   exact gE 3
  exact gE 1
 rintro⟨v22,v19,v20,v21⟩ H
 refine gQ 2 ?_;refine q1 (cK [pS p0.asK,a9 p0.asF]) (bD H fun x28 z27 H=>(q1 (bC func217 (wY fu p0 7 _ z27)) ?_))
 refine gQ 7 ?_;refine cF.wk (Wk.regBox (k:=2) (j:=11) 242 11 (by decide) rfl rfl) ?_;refine iG 6 (aB.trs_len _) (fun hl32=>?_)
 refine bM (σ:=(List aM)) (fun i29 v31=>⟨[(1,.ptr 0 0),(2,.ptr 1 0),(3,pB false),(4,.ptr 2 0),(6,a9 x28),(7,pN i29)],⟨[some ⟨189,[pS p0.asK,a9 p0.asF]⟩,some ⟨163,[pS s_,.nil,pI 0,pS s_,.nil,.nil,pB false,pB false,pI 0,pS s_,.nil,.nil]⟩,some ⟨163,[pS x2.asK,rS x6,pI x10.asJ,pS x10.asD,aX x10.asG,b4 x14,pB (decide ((x16.asF.length:Int)>0)),pB v19,pI v20,pS v21,aX v22,MC v31 0]⟩,some ⟨189,[pS x18.asK,a9 x18.asF]⟩],[⟨242,11,aM.trs (v31),false⟩]⟩⟩) (fun v31=>⟨[(1,.ptr 0 0),(2,.ptr 1 0),(3,pB false),(4,.ptr 2 0)],⟨[some ⟨189,[pS p0.asK,a9 p0.asF]⟩,some ⟨163,[pS s_,.nil,pI 0,pS s_,.nil,.nil,pB false,pB false,pI 0,pS s_,.nil,.nil]⟩,some ⟨163,[pS x2.asK,rS x6,pI x10.asJ,pS x10.asD,aX x10.asG,b4 x14,pB (decide ((x16.asF.length:Int)>0)),pB v19,pI v20,pS v21,aX v22,MC v31 0]⟩,some ⟨189,[pS x18.asK,a9 x18.asF]⟩],[⟨242,11,aM.trs (v31),false⟩]⟩⟩) (eR H) ?_ ?_
 ·rintro i29 v31 H
  refine gQ 8 ?_;refine cW H (fun h33 h33l H=>?_) (fun h33 H=>?_)
  ·refine gQ 3 ?_;refine bD H fun x35 z34 H=>(bD H fun x37 z36 H=>(bD H fun x39 z38 H=>(bD H fun x41 z40 H=>(bD H fun x43 z42 H=>(cQ H fun z44 H=>(dW (dI [4] bS (dD [47] eE (dI [6] bG (dI [7] bG (dI [49,50] qY (dI [51] (jB (aB.cs (aP x28 i29))) (dI [52] (bC func175 (cG fu (aP x28 i29) 0 _ z34)) ?_)))))))))))))
   refine dI [53] tF1 (dI [6] bG (dI [7] bG (dI [55,56] qY (dI [57] (jB (aB.cs (aP x28 i29))) (dI [58] (bC func175 (cG fu (aP x28 i29) 1 _ z36)) (dI [59] (bC func216 (l0 fu x37 _ z38)) (dI [6] bG (dI [7] bG (dI [61,62] qY (dI [63] (jB (aB.cs (aP x28 i29))) (dI [64] (bC func175 (cG fu (aP x28 i29) 2 _ z40)) (dI [65] (bC func220 (B8 fu x41 _ z42)) (dI [54,60,66] nU ?_)))))))))))))
   refine dI [67] (gC ([(aM.mk x35.asK x39 x43)]:List aM)) (dE [48,68] (jS z44) (dI [4] bS (kS [70,69] jP (dN ?_))))
   exact gE 5
  exact gE 0
 rintro v31 H
 refine gQ 2 ?_;refine bD H fun x46 z45 H=>?_
 rcases qB (!(x46)) with g47|g47
 ·have H:=wF H g47
  refine dW (dD [1] (cK [pS p0.asK,a9 p0.asF]) (dI [71] (bC func173 (cP fu p0 _ z45)) (dI [72] F0 (dI [73] bG ?_))))
  iterate 4 refine ME g47 ?_
  refine dI [74] (A6 g47) (dI [79] bG ?_)
  iterate 5 refine ME rfl ?_
  refine dI [80] (A6 rfl) (dN ?_)
  exact gE 7
 have H:=wE H g47
 rcases qB (decide ((p0.asF.length:Int)=0)) with g48|g48
 ·have H:=wF H g48
  refine dW (dD [1] (cK [pS p0.asK,a9 p0.asF]) (dI [71] (bC func173 (cP fu p0 _ z45)) (dI [72] F0 (dI [73] bG (dI (hg:=a6 g47) [1] bS (dD (hg:=a6 g47) [75] eE (dI (hg:=a6 g47) [76] XL (dI (hg:=a6 g47) [77] XJ (dI [74,78] (DZ g47) (dI [79] bG ?_))))))))))
  iterate 5 refine ME g48 ?_
  refine dI [80] (A6 g48) (dN ?_)
  exact gE 7
 have H:=wE H g48
 refine bD H fun x50 z49 H=>(bD H fun x52 z51 H=>(dW (dD [1] (cK [pS p0.asK,a9 p0.asF]) (dI [71] (bC func173 (cP fu p0 _ z45)) (dI [72] F0 (dI [73] bG (dI (hg:=a6 g47) [1] bS (dD (hg:=a6 g47) [75] eE (dI (hg:=a6 g47) [76] XL (dI (hg:=a6 g47) [77] XJ (dI [74,78] (DZ g47) (dI [79] bG (dD (hg:=a6 g48) [4] (cK [pS x2.asK,rS x6,pI x10.asJ,pS x10.asD,aX x10.asG,b4 x14,pB (decide ((x16.asF.length:Int)>0)),pB v19,pI v20,pS v21,aX v22,MC v31 0]) ?_)))))))))))))
 refine dI (hg:=a6 g48) [81] (bC func225 (D8 fu (aJ.mk x2.asK x6 x10 x14 (decide ((x16.asF.length:Int)>0)) v19 (aA.mk v20 v21 v22) v31) _ z49)) (dD (hg:=a6 g48) [1] (cK [pS p0.asK,a9 p0.asF]) (dI (hg:=a6 g48) [82,83] (bC func221 (rK fu x50 p0 _ z51)) (dI (hg:=a6 g48) [84] F0 (dI [80,85] (DZ g48) (dN ?_)))))
 refine a7 H (fun h53 H=>gE 6) fun h53 H=>?_;refine gQ 3 ?_;refine q1 (cK [pS x2.asK,rS x6,pI x10.asJ,pS x10.asD,aX x10.asG,b4 x14,pB (decide ((x16.asF.length:Int)>0)),pB v19,pI v20,pS v21,aX v22,MC v31 0]) ?_;exact gE 3
def D2(fu:Nat)(pf:aL)(x2:Bool):Nat→((List aB))→Option (LR ((List aB)) aB):=fun i4 v6=>bd (bV fu ((aP pf.asU i4).asD)) fun x10=>bd (kQ fu ((aP pf.asU i4).asH)) fun x12=>bd (jZ fu ([x10,x12]:List aB)) fun x14=>gd ((v6).length+(([x14]:List aB)).length≤68719476736) (some (.next (v6++([x14]:List aB))))
def o7(fu:Nat)(pf:aL):Option aB:=bd (lX fu pf) fun x2=>sw (!(x2)) (some (aB.mk s_ [])) (so (loopN (D2 fu pf x2) (pf.asU.length-0) 0 ([])) fun v6=>bd (bV fu ab8) fun x17=>bd (bV fu pf.asD) fun x19=>bd (jC fu pf.asP) fun x21=>bd (w5 fu pf.as0) fun x23=>bd (kQ fu pf.asT) fun x25=>bd (kI fu pf.asM) fun x27=>bd (jZ fu ([x17,x19,x21,x23,(aB.mk s_ v6),x25,x27]:List aB)) fun x29=>bd (yW fu true x29) fun x31=>some x31)
theorem D3(fu:Nat)(pf:aL)(r:aB)(H:o7 fu pf=some r):bP Tryz.prog 226 [(aL.pv pf)] ((aB.pv r)):=by
 refine qJ func226 H (fun C hC H=>?_)
 refine gQ 2 ?_;refine q1 (iR (uV pf)) ?_;refine gQ 5 ?_;refine q1 (cK [pS pf.asD,rS pf.asP,b4 pf.as0,NR pf.asU,pI pf.asT.asJ,pS pf.asT.asD,aX pf.asT.asG,pI pf.asM.asJ,pS pf.asM.asN,pS pf.asM.asD,pI pf.asM.atN,pI pf.asM.asH.asJ,pS pf.asM.asH.asD,aX pf.asM.asH.asG,fZ pf.asM.asG,nL pf.asM.asV]) (bD H fun x2 z1 H=>(q1 (bC func232 (uA fu pf _ z1)) ?_))
 refine gQ 2 ?_;refine a7 H (fun h3 H=>gE 5) fun h3 H=>?_;refine gQ 12 ?_;refine cF.wk (Wk.regBox (k:=2) (j:=1) 189 2 (by decide) rfl rfl) ?_;refine cF.fact (b6 0 3 rfl rfl rfl (aR.trs_len _)) (fun hl7=>?_)
 refine bM (σ:=(List aB)) (fun i4 v6=>⟨[(1,.ptr 0 0),(2,.ptr 1 0),(3,.ptr 2 0),(4,pN i4)],⟨[some ⟨213,uV pf⟩,some ⟨189,[pS s_,.nil]⟩,some ⟨189,[pS s_,dH v6 0]⟩],[⟨189,2,aB.trs (v6),false⟩]⟩⟩) (fun v6=>⟨[(1,.ptr 0 0),(2,.ptr 1 0),(3,.ptr 2 0)],⟨[some ⟨213,uV pf⟩,some ⟨189,[pS s_,.nil]⟩,some ⟨189,[pS s_,dH v6 0]⟩],[⟨189,2,aB.trs (v6),false⟩]⟩⟩) (eR H) ?_ ?_
 ·rintro i4 v6 H
  refine gQ 9 ?_;refine cW H (fun h8 h8l H=>?_) (fun h8 H=>?_)
  ·refine gQ 3 ?_;refine bD H fun x10 z9 H=>(bD H fun x12 z11 H=>(bD H fun x14 z13 H=>(cQ H fun z15 H=>(dW (dI [3] bS (dD [17] eE (dI [1] bS (dD [19] eE (dI [4] bG (dI [20,21] qY (dI [22] y2 (dI [23] xR (dI [24] (bC func239 (bO fu ((aP pf.asU i4).asD) _ z9)) ?_)))))))))))))
   refine dI [1] bS (dD [26] eE (dI [4] bG (dI [27,28] qY (dI [29] y2 (dI [30] (jB (aA.cs ((aP pf.asU i4).asH))) (dI [31] (bC func242 (tL fu ((aP pf.asU i4).asH) _ z11)) (dI [25,32] (gC ([x10,x12]:List aB)) (dI [33] (bC func238 (AN (k7 fu) ([x10,x12]:List aB) _ z13)) (dI [34] (gC ([x14]:List aB)) (dE [18,35] (jS z15) (dI [3] bS (kS [37,36] jP (dN ?_)))))))))))))
   exact gE 5
  exact gE 0
 rintro v6 H
 refine qS (bD H fun x17 z16 H=>(bD H fun x19 z18 H=>(bD H fun x21 z20 H=>(bD H fun x23 z22 H=>(bD H fun x25 z24 H=>(bD H fun x27 z26 H=>(bD H fun x29 z28 H=>(bD H fun x31 z30 H=>(dW (dI [] (bC func239 (bO fu ab8 _ z16)) (dI [1] bS (dD [39] eE (dI [40] (bC func239 (bO fu pf.asD _ z18)) ?_)))))))))))))
 refine dI [1] bS (dD [42] eE (dI [43] (bC func240 (kK fu pf.asP _ z20)) (dI [1] bS (dD [45] eE (dI [46] (bC func245 (IB fu pf.as0 _ z22)) (dD [3] (cK [pS s_,dH v6 0]) (dI [1] bS (dD [49] (cK [pI pf.asT.asJ,pS pf.asT.asD,aX pf.asT.asG]) (dI [50] (bC func242 (tL fu pf.asT _ z24)) (dI [1] bS (dD [52] (cK [pI pf.asM.asJ,pS pf.asM.asN,pS pf.asM.asD,pI pf.asM.atN,pI pf.asM.asH.asJ,pS pf.asM.asH.asD,aX pf.asM.asH.asG,fZ pf.asM.asG,nL pf.asM.asV]) (dI [53] (bC func243 (KF fu pf.asM _ z26)) (dI [38,41,44,47,48,51,54] (gC ([x17,x19,x21,x23,(aB.mk s_ v6),x25,x27]:List aB)) ?_)))))))))))))
 refine dI [55] (bC func238 (AN (k7 fu) ([x17,x19,x21,x23,(aB.mk s_ v6),x25,x27]:List aB) _ z28)) (dI [56] (bC func244 (C9 fu true x29 _ z30)) (kS [2,57] jP (dN ?_)))
 exact gE 0
def EC(fu:Nat)(p0 x2 x4:aB)(x6:LB)(x8:aB)(x10:List aE)(x12:aB)(x14:aA)(x16:aB)(x18:aG)(x20:aB):Nat→((List aR))→Option (LR ((List aR)) (aL×Bool)):=fun i21 v23=>bd (cV fu (aP x20.asF i21) 0) fun x27=>bd (cV fu (aP x20.asF i21) 1) fun x29=>bd (kR fu x29) fun x31=>gd ((v23).length+(([(aR.mk x27.asK x31)]:List aR)).length≤68719476736) (some (.next (v23++([(aR.mk x27.asK x31)]:List aR))))
def pT(fu:Nat)(p0:aB):Option (aL×Bool):=bd (cV fu p0 1) fun x2=>bd (cV fu p0 2) fun x4=>bd (kJ fu x4) fun x6=>bd (cV fu p0 3) fun x8=>bd (uR fu x8) fun x10=>bd (cV fu p0 5) fun x12=>bd (kR fu x12) fun x14=>bd (cV fu p0 6) fun x16=>bd (fK fu x16) fun x18=>bd (cV fu p0 4) fun x20=>so (loopN (EC fu p0 x2 x4 x6 x8 x10 x12 x14 x16 x18 x20) (x20.asF.length-0) 0 ([])) fun v23=>bd (fU fu p0) fun x34=>sw (!(x34)) (some ((aL.mk s_ [] [] [] (aA.mk 0 s_ []) (aG.mk 0 s_ s_ 0 (aA.mk 0 s_ []) [] [])),false)) (sw (decide ((p0.asF.length:Int)=0)) (some ((aL.mk s_ [] [] [] (aA.mk 0 s_ []) (aG.mk 0 s_ s_ 0 (aA.mk 0 s_ []) [] [])),false)) (bd (o7 fu (aL.mk x2.asK x6 x10 v23 x14 x18)) fun x38=>bd (eM fu x38 p0) fun x40=>sw (!(x40)) (some ((aL.mk s_ [] [] [] (aA.mk 0 s_ []) (aG.mk 0 s_ s_ 0 (aA.mk 0 s_ []) [] [])),false)) (some ((aL.mk x2.asK x6 x10 v23 x14 x18),true))))
theorem ED(fu:Nat)(p0:aB)(r:aL×Bool)(H:pT fu p0=some r):bP Tryz.prog 203 [(aB.pv p0)] (.tup [(aL.pv r.1),pB r.2]):=by
 refine qJ func203 H (fun C hC H=>?_)
 refine gQ 2 ?_;refine q1 (iR ([pS p0.asK,a9 p0.asF])) ?_;refine gQ 4 ?_;refine bD H fun x2 z1 H=>(bD H fun x4 z3 H=>(bD H fun x6 z5 H=>(bD H fun x8 z7 H=>(bD H fun x10 z9 H=>(bD H fun x12 z11 H=>(bD H fun x14 z13 H=>(bD H fun x16 z15 H=>(bD H fun x18 z17 H=>(dW (dB [1] 0 1 (GP [pS p0.asK,a9 p0.asF]) (dI [7] (bC func175 (cG fu p0 1 _ z1)) (dI [8] tF1 (dB [1] 0 1 (GP [pS p0.asK,a9 p0.asF]) ?_)))))))))))))
 refine dI [10] (bC func175 (cG fu p0 2 _ z3)) (dI [11] (bC func216 (l0 fu x4 _ z5)) (dB [1] 0 1 (GP [pS p0.asK,a9 p0.asF]) (dI [13] (bC func175 (cG fu p0 3 _ z7)) (dI [14] (bC func224 (ER fu x8 _ z9)) (dB [1] 0 1 (GP [pS p0.asK,a9 p0.asF]) (dI [16] (bC func175 (cG fu p0 5 _ z11)) (dI [17] (bC func219 (tM fu x12 _ z13)) (dB [1] 0 1 (GP [pS p0.asK,a9 p0.asF]) (dI [19] (bC func175 (cG fu p0 6 _ z15)) (dI [20] (bC func220 (B8 fu x16 _ z17)) (dI [9,12,15,18,21] nU (dE [] tAl (kS [4,22] jP ?_)))))))))))))
 refine dN ?_;refine gQ 2 ?_;refine q1 (cK [pS p0.asK,a9 p0.asF]) (bD H fun x20 z19 H=>(q1 (bC func175 (cG fu p0 4 _ z19)) ?_))
 refine gQ 8 ?_;refine cF.wk (Wk.regBox (k:=2) (j:=3) 245 4 (by decide) rfl rfl) ?_;refine cF.fact (b6 3 1 rfl rfl rfl (aB.trs_len _)) (fun hl24=>?_)
 refine bM (σ:=(List aR)) (fun i21 v23=>⟨[(1,.ptr 0 0),(2,.ptr 1 0),(3,pB false),(4,.ptr 2 0),(5,.ptr 3 0),(6,pN i21)],⟨[some ⟨189,[pS p0.asK,a9 p0.asF]⟩,some ⟨213,[pS s_,.nil,.nil,.nil,pI 0,pS s_,.nil,pI 0,pS s_,pS s_,pI 0,pI 0,pS s_,.nil,.nil,.nil]⟩,some ⟨213,[pS x2.asK,rS x6,b4 x10,R7 v23 0,pI x14.asJ,pS x14.asD,aX x14.asG,pI x18.asJ,pS x18.asN,pS x18.asD,pI x18.atN,pI x18.asH.asJ,pS x18.asH.asD,aX x18.asH.asG,fZ x18.asG,nL x18.asV]⟩,some ⟨189,[pS x20.asK,a9 x20.asF]⟩],[⟨245,4,aR.trs (v23),false⟩]⟩⟩) (fun v23=>⟨[(1,.ptr 0 0),(2,.ptr 1 0),(3,pB false),(4,.ptr 2 0)],⟨[some ⟨189,[pS p0.asK,a9 p0.asF]⟩,some ⟨213,[pS s_,.nil,.nil,.nil,pI 0,pS s_,.nil,pI 0,pS s_,pS s_,pI 0,pI 0,pS s_,.nil,.nil,.nil]⟩,some ⟨213,[pS x2.asK,rS x6,b4 x10,R7 v23 0,pI x14.asJ,pS x14.asD,aX x14.asG,pI x18.asJ,pS x18.asN,pS x18.asD,pI x18.atN,pI x18.asH.asJ,pS x18.asH.asD,aX x18.asH.asG,fZ x18.asG,nL x18.asV]⟩,some ⟨189,[pS x20.asK,a9 x20.asF]⟩],[⟨245,4,aR.trs (v23),false⟩]⟩⟩) (eR H) ?_ ?_
 ·rintro i21 v23 H
  refine gQ 9 ?_;refine cW H (fun h25 h25l H=>?_) (fun h25 H=>?_)
  ·refine gQ 3 ?_;refine bD H fun x27 z26 H=>(bD H fun x29 z28 H=>(bD H fun x31 z30 H=>(cQ H fun z32 H=>(dW (dI [4] bS (dD [32] eE (dI [5] bS (dD [34] eE (dI [6] bG (dI [35,36] qY (dI [37] (jB (aB.cs (aP x20.asF i21))) (dI [38] (bC func175 (cG fu (aP x20.asF i21) 0 _ z26)) (dI [39] tF1 ?_)))))))))))))
   refine dI [5] bS (dD [41] eE (dI [6] bG (dI [42,43] qY (dI [44] (jB (aB.cs (aP x20.asF i21))) (dI [45] (bC func175 (cG fu (aP x20.asF i21) 1 _ z28)) (dI [46] (bC func219 (tM fu x29 _ z30)) (dI [40,47] nU (dI [48] (gC ([(aR.mk x27.asK x31)]:List aR)) (dE [33,49] (jS z32) (dI [4] bS (kS [51,50] jP (dN ?_))))))))))))
   exact gE 5
  exact gE 0
 rintro v23 H
 refine gQ 2 ?_;refine bD H fun x34 z33 H=>?_
 rcases qB (!(x34)) with g35|g35
 ·have H:=wF H g35
  refine dW (dD [1] (cK [pS p0.asK,a9 p0.asF]) (dI [52] (bC func173 (cP fu p0 _ z33)) (dI [53] F0 (dI [54] bG ?_))))
  iterate 4 refine ME g35 ?_
  refine dI [55] (A6 g35) (dI [60] bG ?_)
  iterate 5 refine ME rfl ?_
  refine dI [61] (A6 rfl) (dN ?_)
  exact gE 7
 have H:=wE H g35
 rcases qB (decide ((p0.asF.length:Int)=0)) with g36|g36
 ·have H:=wF H g36
  refine dW (dD [1] (cK [pS p0.asK,a9 p0.asF]) (dI [52] (bC func173 (cP fu p0 _ z33)) (dI [53] F0 (dI [54] bG (dI (hg:=a6 g35) [1] bS (dD (hg:=a6 g35) [56] eE (dI (hg:=a6 g35) [57] XL (dI (hg:=a6 g35) [58] XJ (dI [55,59] (DZ g35) (dI [60] bG ?_))))))))))
  iterate 5 refine ME g36 ?_
  refine dI [61] (A6 g36) (dN ?_)
  exact gE 7
 have H:=wE H g36
 refine bD H fun x38 z37 H=>(bD H fun x40 z39 H=>(dW (dD [1] (cK [pS p0.asK,a9 p0.asF]) (dI [52] (bC func173 (cP fu p0 _ z33)) (dI [53] F0 (dI [54] bG (dI (hg:=a6 g35) [1] bS (dD (hg:=a6 g35) [56] eE (dI (hg:=a6 g35) [57] XL (dI (hg:=a6 g35) [58] XJ (dI [55,59] (DZ g35) (dI [60] bG (dD (hg:=a6 g36) [4] (cK [pS x2.asK,rS x6,b4 x10,R7 v23 0,pI x14.asJ,pS x14.asD,aX x14.asG,pI x18.asJ,pS x18.asN,pS x18.asD,pI x18.atN,pI x18.asH.asJ,pS x18.asH.asD,aX x18.asH.asG,fZ x18.asG,nL x18.asV]) ?_)))))))))))))
 refine dI (hg:=a6 g36) [62] (bC func226 (D3 fu (aL.mk x2.asK x6 x10 v23 x14 x18) _ z37)) (dD (hg:=a6 g36) [1] (cK [pS p0.asK,a9 p0.asF]) (dI (hg:=a6 g36) [63,64] (bC func221 (rK fu x38 p0 _ z39)) (dI (hg:=a6 g36) [65] F0 (dI [61,66] (DZ g36) (dN ?_)))))
 refine a7 H (fun h41 H=>gE 6) fun h41 H=>?_;refine gQ 3 ?_;refine q1 (cK [pS x2.asK,rS x6,b4 x10,R7 v23 0,pI x14.asJ,pS x14.asD,aX x14.asG,pI x18.asJ,pS x18.asN,pS x18.asD,pI x18.atN,pI x18.asH.asJ,pS x18.asH.asD,aX x18.asH.asG,fZ x18.asG,nL x18.asV]) ?_;exact gE 3
end
end Go.Proofs.YtfcoaagbccmahaaGreat.W

namespace Go.Proofs.YtfcoaagbccmahaaGreat.W
set_option maxRecDepth 100000
set_option maxHeartbeats 40000000
noncomputable section
open Tryz Go.RowKit Go.Proofs
attribute [local irreducible] lt
def TN(fu:Nat)(ps:ByteArray):Nat→Unit→Option (LR Unit Bool):=fun i1 _=>gd (i1<(ps).size) (sw (!decide ((((zF ps i1).toNat:Int):Int)=32)) (some (.ret false)) (some (.next ())))
def CD(fu:Nat)(ps:ByteArray):Option Bool:=so (loopN (TN fu ps) (ps.size-0) 0 ()) fun _=>some true
theorem TO(fu:Nat)(ps:ByteArray)(r:Bool)(H:CD fu ps=some r):bP Tryz.prog 97 [pS ps] (pB r):=by
 refine qJ func97 H (fun C hC H=>?_)
 refine gQ 9 ?_;refine szF 0 (fun hl2=>?_)
 refine bM (σ:=Unit) (fun i1 _=>⟨[(0,pS ps),(2,pB false),(3,pN i1)],⟨[],[]⟩⟩) (fun _=>⟨[(2,pB false)],⟨[],[]⟩⟩) (eR H) ?_ ?_
 ·rintro i1 ⟨⟩ H
  refine gQ 5 ?_;refine q1 (a5.lenS rfl rfl rfl Tryz.underlying9) ?_;refine gQ 2 ?_;refine cW H (fun h3 h3l H=>?_) (fun h3 H=>?_)
  ·have h3n:i1<ps.size:=by have:=of_decide_eq_true h3;omega
   refine gQ 7 ?_;refine cQ H fun z4 H=>(q1 (a5.indexS (k:=i1) rfl rfl rfl rfl z4 Tryz.underlying9) ?_)
   refine gQ 2 ?_;refine a7 H (fun h5 H=>gE 4) fun h5 H=>?_;exact gE 6
  exact gE 0
 rintro⟨⟩ H
 exact gE 4
def GG(fu:Nat)(p1:ByteArray×(LB)×(List aQ)×(List aI)×(List aJ)×(List aL))(p2:aB):Option (Bool×(ByteArray×(LB)×(List aQ)×(List aI)×(List aJ)×(List aL))):=bd (cV fu p2 0) fun x2=>sw (decide (x2.asK=C8)) (bd (t0 fu p2) fun(x5,x6)=>gd ((p1.2.2.1).length+(([x5]:List aQ)).length≤68719476736) (some (x6,(p1.1,p1.2.1,p1.2.2.1++([x5]:List aQ),p1.2.2.2.1,p1.2.2.2.2.1,p1.2.2.2.2.2)))) (sw (decide (x2.asK=KB)) (bd (o9 fu p2) fun(x10,x11)=>gd ((p1.2.2.2.1).length+(([x10]:List aI)).length≤68719476736) (some (x11,(p1.1,p1.2.1,p1.2.2.1,p1.2.2.2.1++([x10]:List aI),p1.2.2.2.2.1,p1.2.2.2.2.2)))) (sw (decide (x2.asK=KC)) (bd (pV fu p2) fun(x15,x16)=>gd ((p1.2.2.2.2.1).length+(([x15]:List aJ)).length≤68719476736) (some (x16,(p1.1,p1.2.1,p1.2.2.1,p1.2.2.2.1,p1.2.2.2.2.1++([x15]:List aJ),p1.2.2.2.2.2)))) (sw (decide (x2.asK=ab8)) (bd (pT fu p2) fun(x20,x21)=>gd ((p1.2.2.2.2.2).length+(([x20]:List aL)).length≤68719476736) (some (x21,(p1.1,p1.2.1,p1.2.2.1,p1.2.2.2.1,p1.2.2.2.2.1,p1.2.2.2.2.2++([x20]:List aL))))) (some (false,p1)))))
theorem WX(fu:Nat)(p1:ByteArray×(LB)×(List aQ)×(List aI)×(List aJ)×(List aL))(p2:aB)(r:Bool×(ByteArray×(LB)×(List aQ)×(List aI)×(List aJ)×(List aL)))(H:GG fu p1 p2=some r):cJ Tryz.prog 176 [.ptr 0 0,(aB.pv p2)] ⟨[some ⟨141,[pS p1.1,rS p1.2.1,vF p1.2.2.1 0,lA p1.2.2.2.1 1,lC p1.2.2.2.2.1 2,lB p1.2.2.2.2.2 3]⟩],[⟨156,5,aQ.trs (p1.2.2.1),false⟩,⟨39,3,aI.trs (p1.2.2.2.1),false⟩,⟨163,12,aJ.trs (p1.2.2.2.2.1),false⟩,⟨213,16,aL.trs (p1.2.2.2.2.2),false⟩]⟩ (fun q t=>q=(pB r.1)∧t=⟨[some ⟨141,[pS r.2.1,rS r.2.2.1,vF r.2.2.2.1 0,lA r.2.2.2.2.1 1,lC r.2.2.2.2.2.1 2,lB r.2.2.2.2.2.2 3]⟩],[⟨156,5,aQ.trs (r.2.2.2.1),false⟩,⟨39,3,aI.trs (r.2.2.2.2.1),false⟩,⟨163,12,aJ.trs (r.2.2.2.2.2.1),false⟩,⟨213,16,aL.trs (r.2.2.2.2.2.2),false⟩]⟩):=by
 refine qJ func176 H (fun C hC H=>?_)
 refine gQ 2 ?_;refine q1 (iR ([pS p2.asK,a9 p2.asF])) ?_;refine gQ 5 ?_;refine q1 (cK [pS p2.asK,a9 p2.asF]) (bD H fun x2 z1 H=>(q1 (bC func175 (cG fu p2 0 _ z1)) ?_))
 refine gQ 8 ?_;refine a7 H (fun h3 H=>?_) (fun h3 H=>?_)
 ·refine gQ 2 ?_;refine q1 (cK [pS p2.asK,a9 p2.asF]) (eY H fun x5 x6 z4 H=>(q1 (bC func200 (J5 fu p2 _ z4)) ?_))
  refine gQ 8 ?_;refine cQ H fun z7 H=>(dW ?_)
  iterate 2 refine dI [0] bG ?_
  refine dI [24] sU (dI [25] bS (dD [26] eE (dD [5] (cK [pS x5.asD,rS x5.asO,pB x5.atF,pB x5.asW,iS x5.asX]) (dI [28] (gC ([x5]:List aQ)) (dE [27,29] (jS z7) (dI [23] sU (dI [31] bS (kS [32,30] jP (dN ?_)))))))))
  exact gE 5
 refine gQ 5 ?_;refine a7 H (fun h8 H=>?_) (fun h8 H=>?_)
 ·refine gQ 2 ?_;refine q1 (cK [pS p2.asK,a9 p2.asF]) (eY H fun x10 x11 z9 H=>(q1 (bC func201 (EB fu p2 _ z9)) ?_))
  refine gQ 8 ?_;refine cQ H fun z12 H=>(dW ?_)
  iterate 2 refine dI [0] bG ?_
  refine dI [42] sU (dI [43] bS (dD [44] eE (dD [7] (cK [pS x10.asD,rS x10.asP,cB x10.asI]) (dI [46] (gC ([x10]:List aI)) (dE [45,47] (jS z12) (dI [41] sU (dI [49] bS (kS [50,48] jP (dN ?_)))))))))
  exact gE 5
 refine gQ 5 ?_;refine a7 H (fun h13 H=>?_) (fun h13 H=>?_)
 ·refine gQ 2 ?_;refine q1 (cK [pS p2.asK,a9 p2.asF]) (eY H fun x15 x16 z14 H=>(q1 (bC func202 (EG fu p2 _ z14)) ?_))
  refine gQ 8 ?_;refine cQ H fun z17 H=>(dW ?_)
  iterate 2 refine dI [0] bG ?_
  refine dI [60] sU (dI [61] bS (dD [62] eE (dD [9] (cK [pS x15.asN,rS x15.asP,pI x15.as1.asJ,pS x15.as1.asD,aX x15.as1.asG,b4 x15.as0,pB x15.atB,pB x15.as9,pI x15.asW.asJ,pS x15.asW.asD,aX x15.asW.asG,kB x15.as2]) (dI [64] (gC ([x15]:List aJ)) (dE [63,65] (jS z17) (dI [59] sU (dI [67] bS (kS [68,66] jP (dN ?_)))))))))
  exact gE 5
 refine gQ 5 ?_;refine a7 H (fun h18 H=>?_) (fun h18 H=>?_)
 ·refine gQ 2 ?_;refine q1 (cK [pS p2.asK,a9 p2.asF]) (eY H fun x20 x21 z19 H=>(q1 (bC func203 (ED fu p2 _ z19)) ?_))
  refine gQ 8 ?_;refine cQ H fun z22 H=>(dW ?_)
  iterate 2 refine dI [0] bG ?_
  refine dI [78] sU (dI [79] bS (dD [80] eE (dD [11] (cK [pS x20.asD,rS x20.asP,b4 x20.as0,NR x20.asU,pI x20.asT.asJ,pS x20.asT.asD,aX x20.asT.asG,pI x20.asM.asJ,pS x20.asM.asN,pS x20.asM.asD,pI x20.asM.atN,pI x20.asM.asH.asJ,pS x20.asM.asH.asD,aX x20.asM.asH.asG,fZ x20.asM.asG,nL x20.asM.asV]) (dI [82] (gC ([x20]:List aL)) (dE [81,83] (jS z22) (dI [77] sU (dI [85] bS (kS [86,84] jP (dN ?_)))))))))
  exact gE 5
 exact gE 5
def TP(fu:Nat)(p0:aK):Nat→((LB))→Option (LR ((LB)) ((LB)×(LB)×(LB)×(LB))):=fun i1 v3=>gd ((v3).length+(([((aP p0.asQ i1).asD)]:LB)).length≤68719476736) (some (.next (v3++([((aP p0.asQ i1).asD)]:LB))))
def TR(fu:Nat)(p0:aK)(v3:LB)(i7:Nat)(v10 v11:LB):Nat→((LB))→Option (LR ((LB)) (LR ((LB)×(LB)) ((LB)×(LB)×(LB)×(LB)))):=fun i15 v17=>gd ((v17).length+(([((aP ((aP p0.asL i7).asI) i15).asD)]:LB)).length≤68719476736) (some (.next (v17++([((aP ((aP p0.asL i7).asI) i15).asD)]:LB))))
def TQ(fu:Nat)(p0:aK)(v3:LB):Nat→((LB)×(LB))→Option (LR ((LB)×(LB)) ((LB)×(LB)×(LB)×(LB))):=fun i7 (v10,v11)=>gd ((v10).length+(([((aP p0.asL i7).asD)]:LB)).length≤68719476736) (so (loopN (TR fu p0 v3 i7 v10 v11) (((aP p0.asL i7).asI).length-0) 0 v11) fun v17=>some (.next ((v10++([((aP p0.asL i7).asD)]:LB)),v17)))
def TS(fu:Nat)(p0:aK)(v3 v10 v11:LB):Nat→((LB))→Option (LR ((LB)) ((LB)×(LB)×(LB)×(LB))):=fun i21 v23=>lt (aP p0.asY i21) fun y26=>gd ((v23).length+(([y26.asD]:LB)).length≤68719476736) (some (.next (v23++([y26.asD]:LB))))
def CE(fu:Nat)(p0:aK):Option ((LB)×(LB)×(LB)×(LB)):=so (loopN (TP fu p0) (p0.asQ.length-0) 0 ([])) fun v3=>so (loopN (TQ fu p0 v3) (p0.asL.length-0) 0 (([]),([]))) fun(v10,v11)=>so (loopN (TS fu p0 v3 v10 v11) (p0.asY.length-0) 0 ([])) fun v23=>some (v3,v10,v11,v23)
theorem TT(fu:Nat)(p0:aK)(r:(LB)×(LB)×(LB)×(LB))(H:CE fu p0=some r):bP Tryz.prog 204 [(aK.pv p0)] (.tup [rS r.1,rS r.2.1,rS r.2.2.1,rS r.2.2.2]):=by
 refine qJ func204 H (fun C hC H=>?_)
 refine gQ 2 ?_;refine q1 (iR (eI p0)) ?_;refine gQ 7 ?_;refine q1 (n0 ([]:LB)) ?_;refine gQ 4 ?_;refine q1 (n0 ([]:LB)) ?_;refine gQ 4 ?_;refine q1 (n0 ([]:LB)) ?_;refine gQ 4 ?_;refine q1 (n0 ([]:LB)) ?_;refine gQ 7 ?_;refine cF.fact (b6 0 2 rfl rfl rfl (aQ.trs_len _)) (fun hl4=>?_)
 refine bM (σ:=(LB)) (fun i1 v3=>⟨[(1,.ptr 0 0),(2,.nil),(3,.nil),(4,.nil),(5,.nil),(6,aS v3 0),(7,aS [] 1),(8,aS [] 2),(9,aS [] 3),(10,pN i1)],⟨[some ⟨141,eI p0⟩],[⟨9,1,aW (v3),false⟩,⟨9,1,aW ([]),false⟩,⟨9,1,aW ([]),false⟩,⟨9,1,aW ([]),false⟩]⟩⟩) (fun v3=>⟨[(1,.ptr 0 0),(2,.nil),(3,.nil),(4,.nil),(5,.nil),(6,aS v3 0),(7,aS [] 1),(8,aS [] 2),(9,aS [] 3)],⟨[some ⟨141,eI p0⟩],[⟨9,1,aW (v3),false⟩,⟨9,1,aW ([]),false⟩,⟨9,1,aW ([]),false⟩,⟨9,1,aW ([]),false⟩]⟩⟩) (eR H) ?_ ?_
 ·rintro i1 v3 H
  refine gQ 9 ?_;refine cW H (fun h5 h5l H=>?_) (fun h5 H=>?_)
  ·refine gQ 11 ?_;refine q1 (gC ([((aP p0.asQ i1).asD)]:LB)) (cQ H fun z6 H=>(q1 (jS z6) ?_))
   exact gE 7
  exact gE 0
 rintro v3 H
 refine gQ 5 ?_;refine cF.fact (b6 0 3 rfl rfl rfl (aI.trs_len _)) (fun hl12=>?_)
 refine bM (σ:=(LB)×(LB)) (fun i7 (v10,v11)=>⟨[(1,.ptr 0 0),(2,.nil),(3,.nil),(4,.nil),(5,.nil),(6,aS v3 0),(7,aS v10 1),(8,aS v11 2),(9,aS [] 3),(11,pN i7)],⟨[some ⟨141,eI p0⟩],[⟨9,1,aW (v3),false⟩,⟨9,1,aW (v10),false⟩,⟨9,1,aW (v11),false⟩,⟨9,1,aW ([]),false⟩]⟩⟩) (fun(v10,v11)=>⟨[(1,.ptr 0 0),(2,.nil),(3,.nil),(4,.nil),(5,.nil),(6,aS v3 0),(7,aS v10 1),(8,aS v11 2),(9,aS [] 3)],⟨[some ⟨141,eI p0⟩],[⟨9,1,aW (v3),false⟩,⟨9,1,aW (v10),false⟩,⟨9,1,aW (v11),false⟩,⟨9,1,aW ([]),false⟩]⟩⟩) (eR H) ?_ ?_
 ·rintro i7 ⟨v10,v11⟩ H
  refine gQ 9 ?_;refine cW H (fun h13 h13l H=>?_) (fun h13 H=>?_)
  ·refine gQ 12 ?_;refine q1 (gC ([((aP p0.asL i7).asD)]:LB)) (cQ H fun z14 H=>(q1 (jS z14) ?_))
   refine gQ 6 ?_;refine bM (σ:=(LB)) (fun i15 v17=>⟨[(1,.ptr 0 0),(2,.nil),(3,.nil),(4,.nil),(5,.nil),(6,aS v3 0),(7,aS (v10++([((aP p0.asL i7).asD)]:LB)) 1),(8,aS v17 2),(9,aS [] 3),(11,pN i7),(12,pN i15),(34,pN i7),(35,.ptr 0 3),(36,mG p0.asL),(37,pN p0.asL.length),(38,pB (decide ((i7:Int)<(p0.asL.length:Int)))),(41,aS v10 1),(42,.ptr 0 3),(43,mG p0.asL),(44,pN i7),(45,.eptr (aI.cs (aP p0.asL i7))),(46,.eptr (aI.cs (aP p0.asL i7))),(47,pS ((aP p0.asL i7).asD)),(48,rS ([((aP p0.asL i7).asD)]:LB)),(49,aS (v10++([((aP p0.asL i7).asD)]:LB)) 1)],⟨[some ⟨141,eI p0⟩],[⟨9,1,aW (v3),false⟩,⟨9,1,aW (v10++([((aP p0.asL i7).asD)]:LB)),false⟩,⟨9,1,aW (v17),false⟩,⟨9,1,aW ([]),false⟩]⟩⟩) (fun v17=>⟨[(1,.ptr 0 0),(2,.nil),(3,.nil),(4,.nil),(5,.nil),(6,aS v3 0),(7,aS (v10++([((aP p0.asL i7).asD)]:LB)) 1),(8,aS v17 2),(9,aS [] 3),(11,pN i7),(34,pN i7),(35,.ptr 0 3),(36,mG p0.asL),(37,pN p0.asL.length),(38,pB (decide ((i7:Int)<(p0.asL.length:Int)))),(41,aS v10 1),(42,.ptr 0 3),(43,mG p0.asL),(44,pN i7),(45,.eptr (aI.cs (aP p0.asL i7))),(46,.eptr (aI.cs (aP p0.asL i7))),(47,pS ((aP p0.asL i7).asD)),(48,rS ([((aP p0.asL i7).asD)]:LB)),(49,aS (v10++([((aP p0.asL i7).asD)]:LB)) 1)],⟨[some ⟨141,eI p0⟩],[⟨9,1,aW (v3),false⟩,⟨9,1,aW (v10++([((aP p0.asL i7).asD)]:LB)),false⟩,⟨9,1,aW (v17),false⟩,⟨9,1,aW ([]),false⟩]⟩⟩) (eR H) ?_ ?_
   ·rintro i15 v17 H
    refine gQ 10 ?_;refine SR 56 (aC.trs_len _) (fun hl18=>?_)
    refine gQ 3 ?_;refine cW H (fun h19 h19l H=>?_) (fun h19 H=>?_)
    ·refine gQ 15 ?_;refine q1 (gC ([((aP ((aP p0.asL i7).asI) i15).asD)]:LB)) (cQ H fun z20 H=>(q1 (jS z20) ?_))
     exact gE 7
    exact gE 0
   rintro v17 H
   exact gE 5
  exact gE 0
 rintro⟨v10,v11⟩ H
 refine gQ 5 ?_;refine cF.fact (b6 0 5 rfl rfl rfl (aL.trs_len _)) (fun hl24=>?_)
 refine bM (σ:=(LB)) (fun i21 v23=>⟨[(1,.ptr 0 0),(2,.nil),(3,.nil),(4,.nil),(5,.nil),(6,aS v3 0),(7,aS v10 1),(8,aS v11 2),(9,aS v23 3),(13,pN i21)],⟨[some ⟨141,eI p0⟩],[⟨9,1,aW (v3),false⟩,⟨9,1,aW (v10),false⟩,⟨9,1,aW (v11),false⟩,⟨9,1,aW (v23),false⟩]⟩⟩) (fun v23=>⟨[(2,.nil),(3,.nil),(4,.nil),(5,.nil),(6,aS v3 0),(7,aS v10 1),(8,aS v11 2),(9,aS v23 3)],⟨[some ⟨141,eI p0⟩],[⟨9,1,aW (v3),false⟩,⟨9,1,aW (v10),false⟩,⟨9,1,aW (v11),false⟩,⟨9,1,aW (v23),false⟩]⟩⟩) (eR H) ?_ ?_
 ·rintro i21 v23 H
  refine gQ 9 ?_;refine cW H (fun h25 h25l H=>?_) (fun h25 H=>?_)
  ·refine gQ 8 ?_;refine fI H fun y26 h27 H=>(q1 (uG h27 h25l) ?_)
   refine gQ 2 ?_;refine q1 (gC ([y26.asD]:LB)) (cQ H fun z28 H=>(q1 (jS z28) ?_))
   exact gE 7
  exact gE 0
 rintro v23 H
 exact gE 11
def IC(fu:Nat)(pp:aK):Nat→Unit→Option (LR Unit Bool):=fun i1 _=>bd (oP fu (aP pp.asQ i1)) fun x5=>sw (!(x5)) (some (.ret false)) (some (.next ()))
def IE(fu:Nat)(pp:aK):Nat→Unit→Option (LR Unit Bool):=fun i7 _=>bd (gY fu (aP pp.asL i7)) fun x11=>sw (!(x11)) (some (.ret false)) (some (.next ()))
def IF(fu:Nat)(pp:aK):Nat→Unit→Option (LR Unit Bool):=fun i13 _=>lt (aP pp.asS i13) fun y16=>bd (gZ fu y16) fun x19=>sw (!(x19)) (some (.ret false)) (some (.next ()))
def IG(fu:Nat)(pp:aK):Nat→Unit→Option (LR Unit Bool):=fun i21 _=>lt (aP pp.asY i21) fun y24=>bd (lX fu y24) fun x27=>sw (!(x27)) (some (.ret false)) (some (.next ()))
def tG(fu:Nat)(pp:aK):Option Bool:=so (loopN (IC fu pp) (pp.asQ.length-0) 0 ()) fun _=>so (loopN (IE fu pp) (pp.asL.length-0) 0 ()) fun _=>so (loopN (IF fu pp) (pp.asS.length-0) 0 ()) fun _=>so (loopN (IG fu pp) (pp.asY.length-0) 0 ()) fun _=>some true
theorem TU(fu:Nat)(pp:aK)(r:Bool)(H:tG fu pp=some r):bP Tryz.prog 208 [(aK.pv pp)] (pB r):=by
 refine qJ func208 H (fun C hC H=>?_)
 refine gQ 2 ?_;refine q1 (iR (eI pp)) ?_;refine gQ 7 ?_;refine cF.fact (b6 0 2 rfl rfl rfl (aQ.trs_len _)) (fun hl2=>?_)
 refine bM (σ:=Unit) (fun i1 _=>⟨[(1,.ptr 0 0),(2,pB false),(3,pN i1)],⟨[some ⟨141,eI pp⟩],[]⟩⟩) (fun _=>⟨[(1,.ptr 0 0),(2,pB false)],⟨[some ⟨141,eI pp⟩],[]⟩⟩) (eR H) ?_ ?_
 ·rintro i1 ⟨⟩ H
  refine gQ 9 ?_;refine cW H (fun h3 h3l H=>?_) (fun h3 H=>?_)
  ·refine gQ 9 ?_;refine q1 (jB (aQ.cs (aP pp.asQ i1))) (bD H fun x5 z4 H=>(q1 (bC func229 (yQ fu (aP pp.asQ i1) _ z4)) ?_))
   refine gQ 2 ?_;refine a7 H (fun h6 H=>gE 4) fun h6 H=>?_;exact gE 6
  exact gE 0
 rintro⟨⟩ H
 refine gQ 5 ?_;refine cF.fact (b6 0 3 rfl rfl rfl (aI.trs_len _)) (fun hl8=>?_)
 refine bM (σ:=Unit) (fun i7 _=>⟨[(1,.ptr 0 0),(2,pB false),(4,pN i7)],⟨[some ⟨141,eI pp⟩],[]⟩⟩) (fun _=>⟨[(1,.ptr 0 0),(2,pB false)],⟨[some ⟨141,eI pp⟩],[]⟩⟩) (eR H) ?_ ?_
 ·rintro i7 ⟨⟩ H
  refine gQ 9 ?_;refine cW H (fun h9 h9l H=>?_) (fun h9 H=>?_)
  ·refine gQ 9 ?_;refine q1 (jB (aI.cs (aP pp.asL i7))) (bD H fun x11 z10 H=>(q1 (bC func230 (t9 fu (aP pp.asL i7) _ z10)) ?_))
   refine gQ 2 ?_;refine a7 H (fun h12 H=>gE 4) fun h12 H=>?_;exact gE 6
  exact gE 0
 rintro⟨⟩ H
 refine gQ 5 ?_;refine cF.fact (b6 0 4 rfl rfl rfl (aJ.trs_len _)) (fun hl14=>?_)
 refine bM (σ:=Unit) (fun i13 _=>⟨[(1,.ptr 0 0),(2,pB false),(5,pN i13)],⟨[some ⟨141,eI pp⟩],[]⟩⟩) (fun _=>⟨[(1,.ptr 0 0),(2,pB false)],⟨[some ⟨141,eI pp⟩],[]⟩⟩) (eR H) ?_ ?_
 ·rintro i13 ⟨⟩ H
  refine gQ 9 ?_;refine cW H (fun h15 h15l H=>?_) (fun h15 H=>?_)
  ·refine gQ 8 ?_;refine fI H fun y16 h17 H=>(q1 (uG h17 h15l) (q1 (jB (aJ.cs y16)) (bD H fun x19 z18 H=>(q1 (bC func231 (uE fu y16 _ z18)) ?_))))
   refine gQ 2 ?_;refine a7 H (fun h20 H=>gE 4) fun h20 H=>?_;exact gE 6
  exact gE 0
 rintro⟨⟩ H
 refine gQ 5 ?_;refine cF.fact (b6 0 5 rfl rfl rfl (aL.trs_len _)) (fun hl22=>?_)
 refine bM (σ:=Unit) (fun i21 _=>⟨[(1,.ptr 0 0),(2,pB false),(6,pN i21)],⟨[some ⟨141,eI pp⟩],[]⟩⟩) (fun _=>⟨[(2,pB false)],⟨[some ⟨141,eI pp⟩],[]⟩⟩) (eR H) ?_ ?_
 ·rintro i21 ⟨⟩ H
  refine gQ 9 ?_;refine cW H (fun h23 h23l H=>?_) (fun h23 H=>?_)
  ·refine gQ 8 ?_;refine fI H fun y24 h25 H=>(q1 (uG h25 h23l) (q1 (jB (aL.cs y24)) (bD H fun x27 z26 H=>(q1 (bC func232 (uA fu y24 _ z26)) ?_))))
   refine gQ 2 ?_;refine a7 H (fun h28 H=>gE 4) fun h28 H=>?_;exact gE 6
  exact gE 0
 rintro⟨⟩ H
 exact gE 4
def kE(fu:Nat)(p0:aK):Option Bool:=bd (CE fu p0) fun(x2,x3,x4,x5)=>bd (cO fu p0.asD) fun x7=>sw (!(x7)) (some false) (bd (fA fu p0.atC 5) fun x10=>sw (!(x10)) (some false) (bd (iW fu p0.atC p0.asD) fun x13=>sw x13 (some false) (sw (decide ((aY ((aY ((aY ((p0.asQ.length:Int)+(p0.asL.length:Int)))+(p0.asS.length:Int)))+(p0.asY.length:Int)):Int)>24)) (some false) (bd (iH fu x2) fun x17=>sw x17 (bd (iH fu x3) fun x20=>sw x20 (bd (iH fu x4) fun x23=>sw x23 (bd (iH fu x5) fun x26=>sw x26 (bd (tG fu p0) fun x29=>some x29) (some false)) (some false)) (some false)) (some false)))))
theorem F4(fu:Nat)(p0:aK)(r:Bool)(H:kE fu p0=some r):bP Tryz.prog 177 [(aK.pv p0)] (pB r):=by
 refine qJ func177 H (fun C hC H=>?_)
 refine gQ 2 ?_;refine q1 (iR (eI p0)) ?_;refine gQ 4 ?_;refine q1 (cK [pS p0.asD,rS p0.atC,JT p0.asQ,mG p0.asL,u0 p0.asS,C7 p0.asY]) (ajV H fun x2 x3 x4 x5 z1 H=>(q1 (bC func204 (TT fu p0 _ z1)) ?_))
 refine gQ 15 ?_;refine bD H fun x7 z6 H=>(q1 (bC func205 (c8 fu p0.asD _ z6)) ?_)
 refine gQ 2 ?_;refine dF 18 H (fun g8 H=>gE 36) fun g8 H=>?_;refine gQ 2 ?_;refine bD H fun x10 z9 H=>(qg g8 (bC func206 (fH fu p0.atC 5 _ z9)) ?_)
 refine gQ 3 ?_;refine dF 24 H (fun g11 H=>gE 30) fun g11 H=>?_;refine gQ 4 ?_;refine bD H fun x13 z12 H=>(qg g11 (bC func153 (jY fu p0.atC p0.asD _ z12)) ?_)
 refine gQ 2 ?_;refine dF 31 H (fun g14 H=>gE 23) fun g14 H=>?_;refine gQ 6 ?_;refine qg g14 rAw ?_;refine gQ 3 ?_;refine qg g14 rAw ?_;refine gQ 3 ?_;refine qg g14 rAw ?_;refine gQ 3 ?_;refine a7 H (fun h15 H=>gE 4) fun h15 H=>?_;refine gQ 4 ?_;refine bD H fun x17 z16 H=>(q1 (bC func207 (jV fu x2 _ z16)) (q1 bG ?_))
 refine dF 51 H (fun g18 H=>?_) fun g18 H=>?_
 ·refine qg g18 bG (bD H fun x20 z19 H=>(qg g18 (bC func207 (jV fu x3 _ z19)) ?_))
  refine gQ 2 ?_;refine dF 55 H (fun g21 H=>?_) fun g21 H=>?_
  ·refine qg g21 bG (bD H fun x23 z22 H=>(qg g21 (bC func207 (jV fu x4 _ z22)) ?_))
   refine gQ 2 ?_;refine dF 59 H (fun g24 H=>?_) fun g24 H=>?_
   ·refine qg g24 bG (bD H fun x26 z25 H=>(qg g24 (bC func207 (jV fu x5 _ z25)) ?_))
    refine gQ 2 ?_;refine dF 63 H (fun g27 H=>?_) fun g27 H=>?_
    ·refine qg g27 (cK [pS p0.asD,rS p0.atC,JT p0.asQ,mG p0.asL,u0 p0.asS,C7 p0.asY]) (bD H fun x29 z28 H=>(qg g27 (bC func208 (TU fu p0 _ z28)) ?_))
     exact gE 3
    exact gE 5
   exact gE 9
  exact gE 13
 exact gE 17
def vS(fu:Nat)(p0 x2:aB)(x4:LB)(x5:Bool)(x7:aB)(x9:Bool):Nat→(ByteArray×(LB)×(List aQ)×(List aI)×(List aJ)×(List aL))→Option (LR (ByteArray×(LB)×(List aQ)×(List aI)×(List aJ)×(List aL)) (aK×Bool)):=fun i17 (v18,v19,v24,v25,v26,v27)=>bd (GG fu (v18,v19,v24,v25,v26,v27) (aP p0.asF i17)) fun(x31,x32)=>sw (!(x31)) (some (.ret ((aK.mk s_ [] [] [] [] []),false))) (some (.next (x32.1,x32.2.1,x32.2.2.1,x32.2.2.2.1,x32.2.2.2.2.1,x32.2.2.2.2.2)))
def kF(fu:Nat)(p0:aB):Option (aK×Bool):=bd (cV fu p0 2) fun x2=>bd (wA fu x2.asF) fun(x4,x5)=>bd (cV fu p0 1) fun x7=>bd (fU fu p0) fun x9=>sw (!(x9)) (some ((aK.mk s_ [] [] [] [] []),false)) (sw (decide ((p0.asF.length:Int)<3)) (some ((aK.mk s_ [] [] [] [] []),false)) (gd (0<(p0.asF).length) (sw (!decide ((aP p0.asF 0).asK=RH)) (some ((aK.mk s_ [] [] [] [] []),false)) (gd (2<(p0.asF).length) (sw (!decide ((aP p0.asF 2).asK=s_)) (some ((aK.mk s_ [] [] [] [] []),false)) (sw (!(x5)) (some ((aK.mk s_ [] [] [] [] []),false)) (so (loopN (vS fu p0 x2 x4 x5 x7 x9) (p0.asF.length-3) 3 (x7.asK,x4,([]),([]),([]),([]))) fun(v18,v19,v24,v25,v26,v27)=>bd (kE fu (aK.mk v18 v19 v24 v25 v26 v27)) fun x35=>sw (!(x35)) (some ((aK.mk s_ [] [] [] [] []),false)) (some ((aK.mk v18 v19 v24 v25 v26 v27),true)))))))))
theorem F5(fu:Nat)(p0:aB)(r:aK×Bool)(H:kF fu p0=some r):bP Tryz.prog 146 [(aB.pv p0)] (.tup [(aK.pv r.1),pB r.2]):=by
 refine qJ func146 H (fun C hC H=>?_)
 refine gQ 2 ?_;refine q1 (iR ([pS p0.asK,a9 p0.asF])) ?_;refine gQ 5 ?_;refine q1 (cK [pS p0.asK,a9 p0.asF]) (bD H fun x2 z1 H=>(q1 (bC func175 (cG fu p0 2 _ z1)) (q1 tF1 (eY H fun x4 x5 z3 H=>(q1 (bC func174 (CK fu x2.asF _ z3)) ?_)))))
 refine gQ 8 ?_;refine q1 (cK [pS p0.asK,a9 p0.asF]) (bD H fun x7 z6 H=>(q1 (bC func175 (cG fu p0 1 _ z6)) ?_))
 refine gQ 9 ?_;refine q1 (cK [pS p0.asK,a9 p0.asF]) (bD H fun x9 z8 H=>(q1 (bC func173 (cP fu p0 _ z8)) ?_))
 refine gQ 2 ?_;refine dF 23 H (fun g10 H=>gE 33) fun g10 H=>?_;refine gQ 6 ?_;refine dF 29 H (fun g11 H=>?_) fun g11 H=>?_
 ·have g11n:p0.asF.length<3:=by have:=of_decide_eq_true g11;omega
  exact gE 27
 refine gQ 2 ?_;refine cQ H fun z12 H=>?_;refine gQ 6 ?_;refine dF 37 H (fun g13 H=>gE 19) fun g13 H=>?_;refine gQ 2 ?_;refine cQ H fun z14 H=>?_;refine gQ 6 ?_;refine dF 45 H (fun g15 H=>gE 11) fun g15 H=>?_;refine gQ 4 ?_;refine a7 H (fun h16 H=>gE 6) fun h16 H=>?_;refine gQ 6 ?_;refine cF.wk (Wk.regBox (k:=2) (j:=2) 156 5 (by decide) rfl rfl) (cF.wk (Wk.regBox (k:=2) (j:=3) 39 3 (by decide) rfl rfl) (cF.wk (Wk.regBox (k:=2) (j:=4) 163 12 (by decide) rfl rfl) (cF.wk (Wk.regBox (k:=2) (j:=5) 213 16 (by decide) rfl rfl) ?_)))
 refine iG 25 (aB.trs_len _) (fun hl28=>?_)
 refine bM (σ:=ByteArray×(LB)×(List aQ)×(List aI)×(List aJ)×(List aL)) (fun i17 (v18,v19,v24,v25,v26,v27)=>⟨[(1,.ptr 0 0),(2,.ptr 1 0),(3,pB false),(6,.ptr 2 0),(7,pN i17)],⟨[some ⟨189,[pS p0.asK,a9 p0.asF]⟩,some ⟨141,[pS s_,.nil,.nil,.nil,.nil,.nil]⟩,some ⟨141,[pS v18,rS v19,vF v24 0,lA v25 1,lC v26 2,lB v27 3]⟩],[⟨156,5,aQ.trs (v24),false⟩,⟨39,3,aI.trs (v25),false⟩,⟨163,12,aJ.trs (v26),false⟩,⟨213,16,aL.trs (v27),false⟩]⟩⟩) (fun(v18,v19,v24,v25,v26,v27)=>⟨[(2,.ptr 1 0),(3,pB false),(6,.ptr 2 0)],⟨[some ⟨189,[pS p0.asK,a9 p0.asF]⟩,some ⟨141,[pS s_,.nil,.nil,.nil,.nil,.nil]⟩,some ⟨141,[pS v18,rS v19,vF v24 0,lA v25 1,lC v26 2,lB v27 3]⟩],[⟨156,5,aQ.trs (v24),false⟩,⟨39,3,aI.trs (v25),false⟩,⟨163,12,aJ.trs (v26),false⟩,⟨213,16,aL.trs (v27),false⟩]⟩⟩) (eR H) ?_ ?_
 ·rintro i17 ⟨v18,v19,v24,v25,v26,v27⟩ H
  refine gQ 9 ?_;refine cW H (fun h29 h29l H=>?_) (fun h29 H=>?_)
  ·refine gQ 9 ?_;refine q1 (jB (aB.cs (aP p0.asF i17))) (eY H fun x31 x32 z30 H=>(q1 (eW [2] [0,1,2,3] func176 (WX fu (v18,v19,v24,v25,v26,v27) (aP p0.asF i17) _ z30)) ?_))
   refine gQ 2 ?_;refine a7 H (fun h33 H=>gE 6) fun h33 H=>?_;exact gE 6
  exact gE 0
 rintro⟨v18,v19,v24,v25,v26,v27⟩ H
 refine gQ 3 ?_;refine q1 (cK [pS v18,rS v19,vF v24 0,lA v25 1,lC v26 2,lB v27 3]) (bD H fun x35 z34 H=>(q1 (bC func177 (F4 fu (aK.mk v18 v19 v24 v25 v26 v27) _ z34)) ?_))
 refine gQ 2 ?_;refine a7 H (fun h36 H=>gE 6) fun h36 H=>?_;refine gQ 3 ?_;refine q1 (cK [pS v18,rS v19,vF v24 0,lA v25 1,lC v26 2,lB v27 3]) ?_;exact gE 3
def oQ(fu:Nat)(ps:ByteArray):Option (aK×Bool):=bd (sY fu ps) fun(x2,x3)=>sw (!(x3)) (some ((aK.mk s_ [] [] [] [] []),false)) (bd (kF fu x2) fun(x6,x7)=>some (x6,x7))
theorem J1(fu:Nat)(ps:ByteArray)(r:aK×Bool)(H:oQ fu ps=some r):bP Tryz.prog 98 [pS ps] (.tup [(aK.pv r.1),pB r.2]):=by
 refine qJ func98 H (fun C hC H=>?_)
 refine gQ 8 ?_;refine eY H fun x2 x3 z1 H=>(q1 (bC func145 (N2 fu ps _ z1)) ?_)
 refine gQ 13 ?_;refine a7 H (fun h4 H=>gE 6) fun h4 H=>?_;refine gQ 3 ?_;refine q1 (cK [pS x2.asK,a9 x2.asF]) (eY H fun x6 x7 z5 H=>(q1 (bC func146 (F5 fu x2 _ z5)) ?_))
 exact gE 5
def AX(m:ByteArray→Option (aF×Int)):Prop:= ∀(ps:ByteArray) (r:aF×Int),m ps=some r→xA Tryz.prog 46 [pS ps] ⟨[],[]⟩ [] 141 6 (aK.trs (r.1.asE)) (fun k=> .tup [.agg [n4 r.1.asE k],pI r.2])
theorem J2{m:ByteArray→Option (aF×Int)}(h:AX m)(ps:ByteArray)(r:aF×Int)(H:m ps=some r):bP Tryz.prog 46 [pS ps] (.tup [(aF.pv r.1),pI r.2]:PV):=(h ps r H).plain (fun _=>jH) (hp:=SQ)
def yR(fu:Nat)(ps:ByteArray)(x2:LB):Nat→((List aK))→Option (LR ((List aK)) (aF×Int)):=fun i3 v5=>bd (CD fu (aP x2 i3)) fun x9=>sw x9 (some (.next v5)) (bd (oQ fu (aP x2 i3)) fun(x12,x13)=>sw (!(x13)) (some (.ret ((aF.mk []),(v5.length:Int)))) (sw (decide ((v5.length:Int)=5)) (some (.ret ((aF.mk []),(v5.length:Int)))) (gd ((v5).length+(([x12]:List aK)).length≤68719476736) (some (.next (v5++([x12]:List aK)))))))
def jX(fu:Nat)(ps:ByteArray):Option (aF×Int):=bd (zY fu ps (10:UInt8)) fun x2=>so (loopN (yR fu ps x2) (x2.length-0) 0 ([])) fun v5=>some ((aF.mk v5),(-1))
theorem yS(fu:Nat):AX (jX fu):=by
 intro ps r H
 unfold xA
 refine qJ func46 H (fun C hC H=>?_)
 refine gQ 14 ?_;refine bD H fun x2 z1 H=>(q1 (bC func96 (P8 fu ps (10:UInt8) _ z1)) ?_)
 refine gQ 7 ?_;refine cF.wk (Wk.regBox (k:=1) (j:=0) 141 6 (by decide) rfl rfl) ?_;refine iG 5 (bI _) (fun hl6=>?_)
 refine bM (σ:=(List aK)) (fun i3 v5=>⟨[(2,.ptr 0 0),(3,pI 0),(4,.ptr 1 0),(5,rS x2),(6,pN i3)],⟨[some ⟨26,[.nil]⟩,some ⟨26,[n4 v5 0]⟩],[⟨141,6,aK.trs (v5),false⟩]⟩⟩) (fun v5=>⟨[(2,.ptr 0 0),(3,pI 0),(4,.ptr 1 0)],⟨[some ⟨26,[.nil]⟩,some ⟨26,[n4 v5 0]⟩],[⟨141,6,aK.trs (v5),false⟩]⟩⟩) (eR H) ?_ ?_
 ·rintro i3 v5 H
  refine gQ 8 ?_;refine cW H (fun h7 h7l H=>?_) (fun h7 H=>?_)
  ·refine gQ 10 ?_;refine bD H fun x9 z8 H=>(q1 (bC func97 (TO fu (aP x2 i3) _ z8)) (qN ?_))
   refine a7 H (fun h10 H=>?_) (fun h10 H=>?_)
   ·refine cF.exit ?_;exact gE 5
   refine gQ 7 ?_;refine eY H fun x12 x13 z11 H=>(q1 (bC func98 (J1 fu (aP x2 i3) _ z11)) ?_)
   refine gQ 13 ?_;refine dF 33 H (fun g14 H=>?_) fun g14 H=>?_
   ·refine gQ 8 ?_;refine dW (dI [] nU (dI [4] bS (dB [40] 0 1 t7 (dI [41] XL (kS [2,39] jP (dI [42] bG (dN (cF.wk (Wk.regBox (k:=0) (j:=0) 141 6 (by decide) rfl rfl) (cF.ret ?_)))))))))
    obtain rfl:_=r:=(YL (xQ H):)
    exact qe2 (st':=⟨[],[⟨141,6,aK.trs (v5),false⟩,⟨141,6,aK.trs ([]),false⟩]⟩) ⟨1,rfl,rfl,rfl⟩ (hr:=⟨⟨_,_,_,rfl,rfl,VY.h,rfl,rfl⟩,rfl,trivial⟩)
   refine gQ 6 ?_;refine a7 H (fun h15 H=>?_) (fun h15 H=>?_)
   ·refine qS (dW (dI [] nU (dI [4] bS (dB [40] 0 1 t7 (dI [41] XL (kS [2,39] jP (dI [42] bG (dN (cF.wk (Wk.regBox (k:=0) (j:=0) 141 6 (by decide) rfl rfl) (cF.ret ?_))))))))))
    obtain rfl:_=r:=(YL (xQ H):)
    exact qe2 (st':=⟨[],[⟨141,6,aK.trs (v5),false⟩,⟨141,6,aK.trs ([]),false⟩]⟩) ⟨1,rfl,rfl,rfl⟩ (hr:=⟨⟨_,_,_,rfl,rfl,VY.h,rfl,rfl⟩,rfl,trivial⟩)
   refine gQ 4 ?_;refine q1 (cK [pS x12.asD,rS x12.atC,JT x12.asQ,mG x12.asL,u0 x12.asS,C7 x12.asY]) (q1 (n0 ([x12]:List aK)) (cQ H fun z16 H=>(q1 (jS z16) ?_)))
   exact gE 8
  exact gE 0
 rintro v5 H
 refine gQ 2 ?_;refine q1 (cK [n4 v5 0]) ?_;refine gQ 3 ?_;refine cF.ret ?_
 obtain rfl:_=r:=(xQ H:)
 exact qe2 (st':=⟨[],[⟨141,6,aK.trs (v5),false⟩]⟩) ⟨0,rfl,rfl,rfl⟩ (hr:=⟨⟨_,_,_,rfl,rfl,VY.h,rfl,rfl⟩,rfl,trivial⟩)
def GF(fu:Nat)(pc:DS):Option (ByteArray×DS):=gd ((b8).size+(b9).size≤1099511627776) (gd ((b8++b9).size+(cC).size≤1099511627776) (gd (((b8++b9)++cC).size+(cH).size≤1099511627776) (lt (pc.after 2) fun d4=>sw (decide (pc.below 2=0)) (gd ((((b8++b9)++cC)++cH).size+(gO).size≤1099511627776) (gd (((((b8++b9)++cC)++cH)++gO).size+(c5).size≤1099511627776) (gd ((((((b8++b9)++cC)++cH)++gO)++c5).size+(dX).size≤1099511627776) (gd (((((((b8++b9)++cC)++cH)++gO)++c5)++dX).size+(eU).size≤1099511627776) (gd ((((((((b8++b9)++cC)++cH)++gO)++c5)++dX)++eU).size+(fY).size≤1099511627776) (gd (((((((((b8++b9)++cC)++cH)++gO)++c5)++dX)++eU)++fY).size+(iV).size≤1099511627776) (gd ((((((((((b8++b9)++cC)++cH)++gO)++c5)++dX)++eU)++fY)++iV).size+(l9).size≤1099511627776) (gd (((((((((((b8++b9)++cC)++cH)++gO)++c5)++dX)++eU)++fY)++iV)++l9).size+(wG).size≤1099511627776) (some ((((((((((((b8++b9)++cC)++cH)++gO)++c5)++dX)++eU)++fY)++iV)++l9)++wG),d4)))))))))) (gd ((((b8++b9)++cC)++cH).size+(gP).size≤1099511627776) (gd (((((b8++b9)++cC)++cH)++gP).size+(c5).size≤1099511627776) (gd ((((((b8++b9)++cC)++cH)++gP)++c5).size+(dX).size≤1099511627776) (gd (((((((b8++b9)++cC)++cH)++gP)++c5)++dX).size+(eU).size≤1099511627776) (gd ((((((((b8++b9)++cC)++cH)++gP)++c5)++dX)++eU).size+(fY).size≤1099511627776) (gd (((((((((b8++b9)++cC)++cH)++gP)++c5)++dX)++eU)++fY).size+(iV).size≤1099511627776) (gd ((((((((((b8++b9)++cC)++cH)++gP)++c5)++dX)++eU)++fY)++iV).size+(l9).size≤1099511627776) (gd (((((((((((b8++b9)++cC)++cH)++gP)++c5)++dX)++eU)++fY)++iV)++l9).size+(wG).size≤1099511627776) (some ((((((((((((b8++b9)++cC)++cH)++gP)++c5)++dX)++eU)++fY)++iV)++l9)++wG),d4)))))))))))))
theorem WW(fu:Nat)(pc:DS)(r:ByteArray×DS)(H:GF fu pc=some r):cJ Tryz.prog 188 [.ptr 0 0] ⟨[some ⟨133,dC pc⟩],[]⟩ (fun q t=>q=(pS r.1)∧t=⟨[some ⟨133,dC r.2⟩],[]⟩):=by
 refine qJ func188 H (fun C hC H=>?_)
 refine gQ 11 ?_;refine cQ H fun z1 H=>(q1 (a5.addS rfl rfl rfl rfl (Nat.le_trans z1 (by decide))) ?_)
 refine gQ 5 ?_;refine cQ H fun z2 H=>(q1 (a5.addS rfl rfl rfl rfl (Nat.le_trans z2 (by decide))) ?_)
 refine gQ 5 ?_;refine cQ H fun z3 H=>(q1 (a5.addS rfl rfl rfl rfl (Nat.le_trans z3 (by decide))) ?_)
 refine gQ 6 ?_;refine fI H fun d4 h5 H=>(q1 (eW [0] [] func45 (AU h5 (k9 pc 2))) (qN ?_))
 refine a7 H (fun h6 H=>?_) (fun h6 H=>?_)
 ·refine gQ 2 ?_;refine cQ H fun z7 H=>(q1 (a5.addS rfl rfl rfl rfl (Nat.le_trans z7 (by decide))) ?_)
  refine gQ 5 ?_;refine cQ H fun z8 H=>(q1 (a5.addS rfl rfl rfl rfl (Nat.le_trans z8 (by decide))) ?_)
  refine gQ 5 ?_;refine cQ H fun z9 H=>(q1 (a5.addS rfl rfl rfl rfl (Nat.le_trans z9 (by decide))) ?_)
  refine gQ 5 ?_;refine cQ H fun z10 H=>(q1 (a5.addS rfl rfl rfl rfl (Nat.le_trans z10 (by decide))) ?_)
  refine gQ 5 ?_;refine cQ H fun z11 H=>(q1 (a5.addS rfl rfl rfl rfl (Nat.le_trans z11 (by decide))) ?_)
  refine gQ 5 ?_;refine cQ H fun z12 H=>(q1 (a5.addS rfl rfl rfl rfl (Nat.le_trans z12 (by decide))) ?_)
  refine gQ 5 ?_;refine cQ H fun z13 H=>(q1 (a5.addS rfl rfl rfl rfl (Nat.le_trans z13 (by decide))) ?_)
  refine gQ 5 ?_;refine cQ H fun z14 H=>(q1 (a5.addS rfl rfl rfl rfl (Nat.le_trans z14 (by decide))) ?_)
  exact gE 2
 refine gQ 2 ?_;refine cQ H fun z15 H=>(q1 (a5.addS rfl rfl rfl rfl (Nat.le_trans z15 (by decide))) ?_)
 refine gQ 5 ?_;refine cQ H fun z16 H=>(q1 (a5.addS rfl rfl rfl rfl (Nat.le_trans z16 (by decide))) ?_)
 refine gQ 5 ?_;refine cQ H fun z17 H=>(q1 (a5.addS rfl rfl rfl rfl (Nat.le_trans z17 (by decide))) ?_)
 refine gQ 5 ?_;refine cQ H fun z18 H=>(q1 (a5.addS rfl rfl rfl rfl (Nat.le_trans z18 (by decide))) ?_)
 refine gQ 5 ?_;refine cQ H fun z19 H=>(q1 (a5.addS rfl rfl rfl rfl (Nat.le_trans z19 (by decide))) ?_)
 refine gQ 5 ?_;refine cQ H fun z20 H=>(q1 (a5.addS rfl rfl rfl rfl (Nat.le_trans z20 (by decide))) ?_)
 refine gQ 5 ?_;refine cQ H fun z21 H=>(q1 (a5.addS rfl rfl rfl rfl (Nat.le_trans z21 (by decide))) ?_)
 refine gQ 5 ?_;refine cQ H fun z22 H=>(q1 (a5.addS rfl rfl rfl rfl (Nat.le_trans z22 (by decide))) ?_)
 exact gE 2
def ZI(fu:Nat)(pc:DS):Option ((ByteArray×DS)⊕(ByteArray×DS)):=lt (pc.after 8) fun d3=>sw (decide ((pc.below 8:Int)=0)) (gd ((dV).size+(HI).size≤1099511627776) (some (.inr ((dV++HI),d3)))) (sw (decide ((pc.below 8:Int)=1)) (gd ((dV).size+(HG).size≤1099511627776) (some (.inr ((dV++HG),d3)))) (sw (decide ((pc.below 8:Int)=2)) (gd ((dV).size+(HA).size≤1099511627776) (some (.inr ((dV++HA),d3)))) (sw (decide ((pc.below 8:Int)=3)) (gd ((dV).size+(HC).size≤1099511627776) (some (.inr ((dV++HC),d3)))) (sw (decide ((pc.below 8:Int)=4)) (gd ((dV).size+(HB).size≤1099511627776) (some (.inr ((dV++HB),d3)))) (sw (decide ((pc.below 8:Int)=5)) (gd ((dV).size+(HF).size≤1099511627776) (some (.inr ((dV++HF),d3)))) (gd ((dV).size+(HD).size≤1099511627776) (some (.inr ((dV++HD),d3)))))))))
def ZJ(fu:Nat)(pc:DS)(v1:ByteArray)(v2 d19:DS)(y21:ByteArray):Option ((ByteArray×DS)⊕(ByteArray×DS)):=lt (d19.after 2) fun d27=>sw (decide (d19.below 2=0)) (gd ((((v1++l8)++y21)++wG).size+(HE).size≤1099511627776) (some (.inr (((((v1++l8)++y21)++wG)++HE),d27)))) (some (.inr ((((v1++l8)++y21)++wG),d27)))
def ZK(fu:Nat)(pc:DS)(v1:ByteArray)(v2 d19:DS)(y21 v25:ByteArray)(v26:DS):Option ((ByteArray×DS)⊕(ByteArray×DS)):=lt (v26.after 3) fun d33=>sw (decide (v26.below 3=0)) (gd ((v25).size+(HH).size≤1099511627776) (some (.inr ((v25++HH),d33)))) (some (.inr (v25,d33)))
def KH(fu:Nat)(pc:DS):Option (ByteArray×DS):=so (ZI fu pc) fun(v1,v2)=>gd ((v1).size+(l8).size≤1099511627776) (lt (v2.after ([yE,yD,yB,yF,yA,yI,yJ,yG,yH,xZ]:LB).length) fun d19=>lt (v2.pick ([yE,yD,yB,yF,yA,yI,yJ,yG,yH,xZ]:LB)) fun y21=>gd ((v1++l8).size+(y21).size≤1099511627776) (gd (((v1++l8)++y21).size+(wG).size≤1099511627776) (so (ZJ fu pc v1 v2 d19 y21) fun(v25,v26)=>so (ZK fu pc v1 v2 d19 y21 v25 v26) fun(v31,v32)=>lt (v32.after 4) fun d37=>sw (decide (v32.below 4=0)) (gd ((v31).size+(yC).size≤1099511627776) (gd ((v31++yC).size+(wG).size≤1099511627776) (some (((v31++yC)++wG),d37)))) (gd ((v31).size+(wG).size≤1099511627776) (some ((v31++wG),d37))))))
theorem ZL(fu:Nat)(pc:DS)(r:ByteArray×DS)(H:KH fu pc=some r):cJ Tryz.prog 189 [.ptr 0 0] ⟨[some ⟨133,dC pc⟩],[]⟩ (fun q t=>q=(pS r.1)∧t=⟨[some ⟨133,dC r.2⟩],[]⟩):=by
 refine qJ func189 H (fun C hC H=>?_)
 refine gQ 9 ?_;refine m3 (σ:=ByteArray×DS) (fun(v1,v2)=>⟨[(0,.ptr 0 0),(2,pS s_),(3,pS v1)],⟨[some ⟨133,dC v2⟩],[]⟩⟩) (eR H) (fun H=>?_) ?_
 ·refine gQ 3 ?_;refine fI H fun d3 h4 H=>(q1 (eW [0] [] func73 (AU h4 (eT pc 8))) ?_)
  refine gQ 7 ?_;refine a7 H (fun h5 H=>?_) (fun h5 H=>?_)
  ·refine gQ 2 ?_;refine cQ H fun z6 H=>(q1 (a5.addS rfl rfl rfl rfl (Nat.le_trans z6 (by decide))) ?_)
   exact gE 2
  refine gQ 5 ?_;refine a7 H (fun h7 H=>?_) (fun h7 H=>?_)
  ·refine gQ 2 ?_;refine cQ H fun z8 H=>(q1 (a5.addS rfl rfl rfl rfl (Nat.le_trans z8 (by decide))) ?_)
   exact gE 2
  refine gQ 5 ?_;refine a7 H (fun h9 H=>?_) (fun h9 H=>?_)
  ·refine gQ 2 ?_;refine cQ H fun z10 H=>(q1 (a5.addS rfl rfl rfl rfl (Nat.le_trans z10 (by decide))) ?_)
   exact gE 2
  refine gQ 5 ?_;refine a7 H (fun h11 H=>?_) (fun h11 H=>?_)
  ·refine gQ 2 ?_;refine cQ H fun z12 H=>(q1 (a5.addS rfl rfl rfl rfl (Nat.le_trans z12 (by decide))) ?_)
   exact gE 2
  refine gQ 5 ?_;refine a7 H (fun h13 H=>?_) (fun h13 H=>?_)
  ·refine gQ 2 ?_;refine cQ H fun z14 H=>(q1 (a5.addS rfl rfl rfl rfl (Nat.le_trans z14 (by decide))) ?_)
   exact gE 2
  refine gQ 5 ?_;refine a7 H (fun h15 H=>?_) (fun h15 H=>?_)
  ·refine gQ 2 ?_;refine cQ H fun z16 H=>(q1 (a5.addS rfl rfl rfl rfl (Nat.le_trans z16 (by decide))) ?_)
   exact gE 2
  refine gQ 2 ?_;refine cQ H fun z17 H=>(q1 (a5.addS rfl rfl rfl rfl (Nat.le_trans z17 (by decide))) ?_)
  exact gE 2
 rintro⟨v1,v2⟩ H
 refine gQ 3 ?_;refine cQ H fun z18 H=>(q1 (a5.addS rfl rfl rfl rfl (Nat.le_trans z18 (by decide))) (q1 bG (q1 (gC ([yE,yD,yB,yF,yA,yI,yJ,yG,yH,xZ]:LB)) (fI H fun d19 h20 H=>(fI H fun y21 h22 H=>(q1 (eW [0] [] func48 (DY h20 h22 (eA v2 ([yE,yD,yB,yF,yA,yI,yJ,yG,yH,xZ]:LB) (by decide)))) (cQ H fun z23 H=>(q1 (a5.addS rfl rfl rfl rfl (Nat.le_trans z23 (by decide))) (cQ H fun z24 H=>(q1 (a5.addS rfl rfl rfl rfl (Nat.le_trans z24 (by decide))) ?_))))))))))
 refine gQ 3 ?_;refine m3 (σ:=ByteArray×DS) (fun(v25,v26)=>⟨[(0,.ptr 0 0),(2,pS s_),(3,pS v25)],⟨[some ⟨133,dC v26⟩],[]⟩⟩) (eR H) (fun H=>?_) ?_
 ·refine gQ 3 ?_;refine fI H fun d27 h28 H=>(q1 (eW [0] [] func45 (AU h28 (k9 d19 2))) (qN ?_))
  refine a7 H (fun h29 H=>?_) (fun h29 H=>?_)
  ·refine gQ 2 ?_;refine cQ H fun z30 H=>(q1 (a5.addS rfl rfl rfl rfl (Nat.le_trans z30 (by decide))) ?_)
   exact gE 2
  exact gE 1
 rintro⟨v25,v26⟩ H
 refine qS ?_;refine m3 (σ:=ByteArray×DS) (fun(v31,v32)=>⟨[(0,.ptr 0 0),(2,pS s_),(3,pS v31)],⟨[some ⟨133,dC v32⟩],[]⟩⟩) (eR H) (fun H=>?_) ?_
 ·refine gQ 3 ?_;refine fI H fun d33 h34 H=>(q1 (eW [0] [] func45 (AU h34 (k9 v26 3))) (qN ?_))
  refine a7 H (fun h35 H=>?_) (fun h35 H=>?_)
  ·refine gQ 2 ?_;refine cQ H fun z36 H=>(q1 (a5.addS rfl rfl rfl rfl (Nat.le_trans z36 (by decide))) ?_)
   exact gE 2
  exact gE 1
 rintro⟨v31,v32⟩ H
 refine gQ 4 ?_;refine fI H fun d37 h38 H=>(q1 (eW [0] [] func45 (AU h38 (k9 v32 4))) (qN ?_))
 refine a7 H (fun h39 H=>?_) (fun h39 H=>?_)
 ·refine gQ 2 ?_;refine cQ H fun z40 H=>(q1 (a5.addS rfl rfl rfl rfl (Nat.le_trans z40 (by decide))) ?_)
  refine gQ 5 ?_;refine cQ H fun z41 H=>(q1 (a5.addS rfl rfl rfl rfl (Nat.le_trans z41 (by decide))) ?_)
  exact gE 2
 refine gQ 4 ?_;refine cQ H fun z42 H=>(q1 (a5.addS rfl rfl rfl rfl (Nat.le_trans z42 (by decide))) ?_)
 exact gE 2
def t5(fu:Nat)(pc:DS):Option (ByteArray×DS):=bd (GF fu pc) fun(x2,x3)=>lt (x3.after 5) fun d4=>sw (decide (x3.below 5=0)) (some (x2,d4)) (gd (x2.size+(acR).size≤1099511627776) (bd (KH fu d4) fun(x9,x10)=>gd ((x2++acR).size+x9.size≤1099511627776) (some (((x2++acR)++x9),x10))))
theorem KI(fu:Nat)(pc:DS)(r:ByteArray×DS)(H:t5 fu pc=some r):cJ Tryz.prog 162 [.ptr 0 0] ⟨[some ⟨133,dC pc⟩],[]⟩ (fun q t=>q=(pS r.1)∧t=⟨[some ⟨133,dC r.2⟩],[]⟩):=by
 refine qJ func162 H (fun C hC H=>?_)
 refine gQ 7 ?_;refine eY H fun x2 x3 z1 H=>(q1 (eW [0] [] func188 (WW fu pc _ z1)) ?_)
 refine gQ 6 ?_;refine fI H fun d4 h5 H=>(q1 (eW [0] [] func45 (AU h5 (k9 x3 5))) (qN ?_))
 refine a7 H (fun h6 H=>gE 5) fun h6 H=>?_;refine gQ 4 ?_;refine cQ H fun z7 H=>(q1 (a5.addS rfl rfl rfl rfl (Nat.le_trans z7 (by decide))) (q1 bG (eY H fun x9 x10 z8 H=>(q1 (eW [0] [] func189 (ZL fu d4 _ z8)) (cQ H fun z11 H=>(q1 (a5.addS rfl rfl rfl rfl (Nat.le_trans z11 (by decide))) ?_))))))
 exact gE 2
def ZN(m:DS→Option (aF×DS)):Prop:= ∀(pc:DS) (r:aF×DS),m pc=some r→xA Tryz.prog 126 [.ptr 0 0] ⟨[some ⟨133,dC pc⟩],[]⟩ [some ⟨133,dC r.2⟩] 141 6 (aK.trs (r.1.asE)) (fun k=> .agg [n4 r.1.asE k])
def AF(fu:Nat)(pc:DS):Option (aF×DS):=bd (t5 fu pc) fun(x2,x3)=>bd (jX fu x2) fun(x5,x6)=>some ((aF.mk x5.asE),x3)
theorem WY(fu:Nat):ZN (AF fu):=by
 intro pc r H
 unfold xA
 refine qJ func126 H (fun C hC H=>?_)
 refine gQ 7 ?_;refine eY H fun x2 x3 z1 H=>(q1 (eW [0] [] func162 (KI fu pc _ z1)) (eY H fun x5 x6 z4 H=>(q1 (a5.callOwn (pre:=⟨[],[]⟩) (B:= []) (R:=fun k=> .tup [.agg [n4 x5.asE k],pI x6]) (ps:= [_]) (qs:= [pS x2]) [] rfl rfl func46 (by kernel_rfl) rfl rfl rfl (eX.of trivial trivial (by decide) (by decide)) rfl jH rfl rfl rfl (fun k k'=>(.tup (.cons (.agg (.cons Mv.acc AT.nil)) (.cons (.free _ rfl) AT.nil)))) (yS fu x2 _ z4)) ?_)))
 refine gQ 9 ?_;refine q1 (cK [n4 x5.asE 0]) ?_;refine gQ 2 ?_;refine cF.ret ?_
 obtain rfl:_=r:=(xQ H:)
 exact NQ (st':=⟨[some ⟨133,dC x3⟩],[⟨141,6,aK.trs (x5.asE),false⟩]⟩) ⟨0,rfl,rfl,rfl⟩ (hr:=⟨⟨_,_,_,rfl,rfl,VY.h,rfl,rfl⟩,trivial⟩)
end
end Go.Proofs.YtfcoaagbccmahaaGreat.W
