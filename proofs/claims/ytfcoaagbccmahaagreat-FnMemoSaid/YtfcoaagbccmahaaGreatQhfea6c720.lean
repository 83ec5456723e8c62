/- Words, rules and walks of several kinds, laid together: MaMat, WMatch, Reg, WAll, WCands, MaGnd, WGround, MaSel2, OkF4, MaSup, MaAsm, WMat2, MaMt2, Pr, OwnL, MaEv, Clone, WMt2, WSup, WEq, WAsm, WSlv, MaAuto, MaSolve, WSel. No conditions but those that each theorem states. -/
import Derived.Test.YtfcoaagbccmahaaGreatQh43cb035d
import Derived.Test.YtfcoaagbccmahaaGreatQhb99b45eb
import Derived.Deep.RegionHeld3
import Derived.Laws.IdiomStrings
import Derived.Test.YtfcoaagbccmahaaGreatQhfd937320
import Derived.Test.YtfcoaagbccmahaaGreatQh524c6f93
import Derived.Lib.SliceRun
import Derived.Test.YtfcoaagbccmahaaGreatQh4b16361d
set_option linter.unusedSimpArgs false
set_option linter.unusedVariables false
namespace Go.Proofs.YtfcoaagbccmahaaGreat.W
set_option maxRecDepth 100000
set_option maxHeartbeats 40000000
noncomputable section
open Tryz Go.RowKit Go.Proofs
attribute [local irreducible] lt
def WA(fu:Nat)(p0:List aJ)(pv:ByteArray):Nat→Unit→Option (LR Unit (aA×Bool)):=fun i1 _=>sw (decide ((aT p0 i1).aB9=pv)) (gd (gK ((aT p0 i1).aBu)) (some (.ret (((aT p0 i1).aBu),true)))) (some (.next ()))
def JE(fu:Nat)(p0:List aJ)(pv:ByteArray):Option (aA×Bool):=so (loopN (WA fu p0 pv) (p0.length-0) 0 ()) fun _=>some ((aA.mk 0 s_ []),false)
theorem WC(fu:Nat)(p0:List aJ)(pv:ByteArray)(r:aA×Bool)(H:JE fu p0 pv=some r):bQ Tryz.prog 151 [gB p0,pS pv] (.tup [(aA.pv r.1),pB r.2]):=by
 refine qJ func151 H (fun C hC H=>?_)
 refine gQ 10 ?_;refine fS 0 (aJ.trs_len _) (fun hl2=>?_)
 refine bU (σ:=Unit) (fun i1 _=>⟨[(0,gB p0),(1,pS pv),(4,.ptr 0 0),(5,pB false),(6,pN i1)],⟨[some ⟨30,[pI 0,pS s_,.nil]⟩],[]⟩⟩) (fun _=>⟨[(4,.ptr 0 0),(5,pB false)],⟨[some ⟨30,[pI 0,pS s_,.nil]⟩],[]⟩⟩) (eJ H) ?_ ?_
 ·rintro i1 ⟨⟩ H
  refine gQ 8 ?_;refine cT H (fun h3 h3l H=>?_) (fun h3 H=>?_)
  ·refine gQ 13 ?_;refine bF H (fun h4 H=>?_) (fun h4 H=>?_)
   ·refine gQ 6 ?_;refine q1 (gS (aA.cs ((aT p0 i1).aBu))) (cA H fun z5 H=>(q1 (bI func56 (tW ((aT p0 i1).aBu) z5)) ?_))
    exact gE 3
   exact gE 6
  exact gE 0
 rintro⟨⟩ H
 exact gE 6
abbrev EM:=(List aA)→(List aA)→(List aJ)→Option ((List aJ)×Bool×(List aJ))
abbrev wV:=aA→aA→(List aJ)→Option ((List aJ)×Bool×(List aJ))
def IR(m:EM):Prop:= ∀(pp:List aA) (p2:List aA) (p0:List aJ) (r:(List aJ)×Bool×(List aJ)),m pp p2 p0=some r→cB Tryz.prog 212 [aU pp,aU p2,lR p0 0] ⟨[],[⟨44,4,aJ.trs (p0),false⟩]⟩ (fun q t=>q=(.tup [(bif r.2.1 then .acc 4 (aJ.trs (r.1)) 0 else .t (.row 4 (aJ.trs (r.1)))),pB r.2.1]:PV)∧t=⟨[],[⟨44,4,aJ.trs (r.2.2),false⟩]⟩)
def F7(m:wV):Prop:= ∀(pp:aA) (pt:aA) (p0:List aJ) (r:(List aJ)×Bool×(List aJ)),m pp pt p0=some r→cB Tryz.prog 233 [(aA.pv pp),(aA.pv pt),lR p0 0] ⟨[],[⟨44,4,aJ.trs (p0),false⟩]⟩ (fun q t=>q=(.tup [(bif r.2.1 then .acc 4 (aJ.trs (r.1)) 0 else .t (.row 4 (aJ.trs (r.1)))),pB r.2.1]:PV)∧t=⟨[],[⟨44,4,aJ.trs (r.2.2),false⟩]⟩)
def RX(fu:Nat)(p4:EM)(p3:wV)(pp p2:List aA)(p0:List aJ):Nat→((List aJ))→Option (LR ((List aJ)) ((List aJ)×Bool×(List aJ))):=fun i1 v3=>gd (i1<(p2).length) (bd (p3 (aT pp i1) (aT p2 i1) v3) fun(x8,x9,x10)=>sw x9 (gd (x8=x10) (some (.next x8))) (some (.ret (v3,false,x10))))
def XA(fu:Nat)(p4:EM)(p3:wV)(pp p2:List aA)(p0:List aJ):Option ((List aJ)×Bool×(List aJ)):=so (loopN (RX fu p4 p3 pp p2 p0) (pp.length-0) 0 p0) fun v3=>some (v3,true,v3)
theorem agW(fu:Nat)(p4:EM)(p3:wV)(p8:IR p4)(p7:F7 p3):IR (XA fu p4 p3):=by
 intro pp p2 p0 r H
 refine qJ func212 H (fun C hC H=>?_)
 refine gQ 10 ?_;refine fS 0 (aA.trs_len _) (fun hl4=>?_)
 refine bU (σ:=(List aJ)) (fun i1 v3=>⟨[(0,aU pp),(1,aU p2),(2,lR v3 0),(6,.nil),(7,pB false),(8,pN i1)],⟨[],[⟨44,4,aJ.trs (v3),false⟩]⟩⟩) (fun v3=>⟨[(2,lR v3 0),(6,.nil),(7,pB false)],⟨[],[⟨44,4,aJ.trs (v3),false⟩]⟩⟩) (eJ H) ?_ ?_
 ·rintro i1 v3 H
  refine gQ 8 ?_;refine cT H (fun h5 h5l H=>?_) (fun h5 H=>?_)
  ·refine gQ 4 ?_;refine cA H fun z6 H=>(DC H fun x8 x9 x10 z7 H=>?_)
   cases x9
   ·have H:=sD H rfl
    refine dW (dI [0] bH (dI [8] bH (dI [18,19] m9 (dI [20] (gS (aA.cs (aT pp i1))) (dI [1] bH (dI [8] bH (dI [22,23] m9 (dI [24] (gS (aA.cs (aT p2 i1))) (dI [2] bH (dE [21,25,26] (fD [] [0] func233 (p7 (aT pp i1) (aT p2 i1) v3 _ z7)) (dI [27] bH ?_)))))))))))
    iterate 2 refine dI [17] rEx ?_
    refine dI [28] bH (dI [29] bH (dN ?_))
    refine gQ 6 ?_;refine ahV (congrArg (fun b=> !b) (rfl:false=false)) ?_;exact gE 6
   have H:=sE H rfl
   obtain⟨z11,H1⟩:=gdI H
   subst z11
   have H:=H1
   refine dW (dI [0] bH (dI [8] bH (dI [18,19] m9 (dI [20] (gS (aA.cs (aT pp i1))) (dI [1] bH (dI [8] bH (dI [22,23] m9 (dI [24] (gS (aA.cs (aT p2 i1))) (dI [2] bH (dE [21,25,26] (fD [] [0] func233 (p7 (aT pp i1) (aT p2 i1) v3 _ z7)) (dI [27] bH ?_)))))))))))
   iterate 2 refine dI [17] rEx ?_
   refine dI [28] bH (dI [29] bH (dN ?_))
   refine gQ 6 ?_;refine UP (congrArg (fun b=> !b) (rfl:true=true)) ?_;exact gE 10
  exact gE 0
 rintro v3 H
 exact gE 6
def M8(fu:Nat)(p4:EM)(p3:wV)(pp pt:aA)(p0:List aJ):Option ((List aJ)×Bool×(List aJ)):=sw (decide (pp.aBw=1)) (bd (JE fu p0 pp.aBs) fun(x3,x4)=>sw x4 (sw (aA.eq x3 pt) (some (p0,(aA.eq x3 pt),p0)) (some (p0,(aA.eq x3 pt),p0))) (gd (gK pt) (gd ((p0).length+(([(aJ.mk pp.aBs pt)]:List aJ)).length≤68719476736) (some ((p0++([(aJ.mk pp.aBs pt)]:List aJ)),true,(p0++([(aJ.mk pp.aBs pt)]:List aJ))))))) (sw (!decide (pp.aBw=pt.aBw)) (some (p0,false,p0)) (sw (!decide (pp.aBs=pt.aBs)) (some (p0,false,p0)) (sw (!decide ((pp.aBt.length:Int)=(pt.aBt.length:Int))) (some (p0,false,p0)) (bd (p4 pp.aBt pt.aBt p0) fun(x13,x14,x15)=>sw x14 (gd (x13=x15) (some (x13,true,x13))) (some (x13,false,x15))))))
theorem Y3(fu:Nat)(p4:EM)(p3:wV)(p8:IR p4)(p7:F7 p3):F7 (M8 fu p4 p3):=by
 intro pp pt p0 r H
 refine qJ func233 H (fun C hC H=>?_)
 refine gQ 2 ?_;refine q1 (fE (b9 pp)) (q1 (fE (b9 pt)) ?_)
 refine gQ 10 ?_;refine bF H (fun h1 H=>?_) (fun h1 H=>?_)
 ·refine gQ 5 ?_;refine eF H fun x3 x4 z2 H=>(q1 (bI func151 (WC fu p0 pp.aBs _ z2)) ?_)
  refine gQ 12 ?_;refine bF H (fun h5 H=>?_) (fun h5 H=>?_)
  ·refine gQ 3 ?_;refine q1 (b6 [pI x3.aBw,pS x3.aBs,aU x3.aBt]) (q1 (b6 [pI pt.aBw,pS pt.aBs,aU pt.aBt]) (q1 (bI func38 (CW x3 pt)) ?_))
   refine gQ 3 ?_;refine cO.ret ?_
   rcases nS (aA.eq x3 pt) with g6|g6
   ·have H:=sE H g6
    cases s3 H
    exact qe2 (hle:=by rw [g6];exact iX) (hk:=by rw [g6];rfl)
   have H:=sD H g6
   cases s3 H
   exact qe2 (hle:=by rw [g6];exact iX) (hk:=by rw [g6];rfl)
  refine gQ 2 ?_;refine cA H fun z7 H=>(cA H fun z8 H=>(dW (dI [2] bH (dI [3] bZ (dD [26] eB (dD [4] (b6 [pI pt.aBw,pS pt.aBs,aU pt.aBt]) (dI [28] (bI func56 (tW pt z7)) (dI [27,29] oP (dI [30] (fY ([(aJ.mk pp.aBs pt)]:List aJ)) (dE [25,31] (jO z8) (dI [32] bH (dI [] bH (dN ?_)))))))))))))
  exact gE 0
 refine gQ 10 ?_;refine dL 38 H (fun g9 H=>gE 23) fun g9 H=>?_;refine gQ 7 ?_;refine dL 45 H (fun g10 H=>gE 16) fun g10 H=>?_;refine gQ 9 ?_;refine bF H (fun h11 H=>gE 6) fun h11 H=>?_;refine gQ 8 ?_;refine DC H fun x13 x14 x15 z12 H=>?_
 cases x14
 ·have H:=sD H rfl
  refine q1 (fD [] [0] func212 (p8 pp.aBt pt.aBt p0 _ z12)) ?_;exact gE 5
 have H:=sE H rfl
 obtain⟨z16,H1⟩:=gdI H
 subst z16
 have H:=H1
 refine q1 (fD [] [0] func212 (p8 pp.aBt pt.aBt p0 _ z12)) ?_;exact gE 5
mutual
def o6:Nat→(List aA)→(List aA)→(List aJ)→Option ((List aJ)×Bool×(List aJ))
 |0,_,_,_=>none
 |fu+1,pp,p2,p0=>XA fu (o6 fu) (m7 fu) pp p2 p0
def m7:Nat→aA→aA→(List aJ)→Option ((List aJ)×Bool×(List aJ))
 |0,_,_,_=>none
 |fu+1,pp,pt,p0=>M8 fu (o6 fu) (m7 fu) pp pt p0
end
theorem aj1(fu:Nat):IR (o6 fu)∧F7 (m7 fu):=by
 induction fu with
 |zero=>exact⟨(fun pp p2 p0 r H=>by simp only [o6] at H;cases H),(fun pp pt p0 r H=>by simp only [m7] at H;cases H)⟩
 |succ fu ih=>exact⟨(fun pp p2 p0 r H=>by simp only [o6] at H;exact agW fu (o6 fu) (m7 fu) ih.1 ih.2 pp p2 p0 r H),(fun pp pt p0 r H=>by simp only [m7] at H;exact Y3 fu (o6 fu) (m7 fu) ih.1 ih.2 pp pt p0 r H)⟩
theorem aaC(fu:Nat):IR (o6 fu):=(aj1 fu).1
def BV(fu:Nat)(pp p2:List aA):Option ((List aJ)×Bool):=sw (!decide ((pp.length:Int)=(p2.length:Int))) (some (([]),false)) (bd (o6 fu pp p2 ([])) fun(x3,x4,x5)=>sw x4 (gd (x3=x5) (some (x3,true))) (some (([]),false)))
theorem abS(fu:Nat)(pp:List aA)(p2:List aA)(r:(List aJ)×Bool)(H:BV fu pp p2=some r):bQ Tryz.prog 187 [aU pp,aU p2] (.tup [gB r.1,pB r.2]):=by
 refine qJ func187 H (fun C hC H=>?_)
 refine gQ 14 ?_;refine bF H (fun h1 H=>?_) (fun h1 H=>?_)
 ·refine gQ 2 ?_;refine q1 (nU ([]:List aJ)) ?_;exact gE 3
 refine gQ 5 ?_;refine q1 (nU ([]:List aJ)) (DC H fun x3 x4 x5 z2 H=>?_)
 cases x4
 ·have H:=sD H rfl
  refine q1 (fD [] [0] func212 (aaC fu pp p2 ([]) _ z2)) ?_;refine gQ 12 ?_;refine ahV (congrArg (fun b=> !b) (rfl:false=false)) ?_;refine gQ 2 ?_;refine q1 (nU ([]:List aJ)) ?_;exact gE 3
 have H:=sE H rfl
 obtain⟨z6,H1⟩:=gdI H
 subst z6
 have H:=H1
 refine q1 (fD [] [0] func212 (aaC fu pp p2 ([]) _ z2)) ?_;refine gQ 12 ?_;refine UP (congrArg (fun b=> !b) (rfl:true=true)) ?_;exact gE 7
def OT(fu:Nat)(pp pt:aA):Option ((List aJ)×Bool):=bd (BV fu ([pp]:List aA) ([pt]:List aA)) fun(x2,x3)=>some (x2,x3)
theorem Z3(fu:Nat)(pp:aA)(pt:aA)(r:(List aJ)×Bool)(H:OT fu pp pt=some r):bQ Tryz.prog 161 [(aA.pv pp),(aA.pv pt)] (.tup [gB r.1,pB r.2]):=by
 refine qJ func161 H (fun C hC H=>?_)
 refine gQ 2 ?_;refine q1 (fE (b9 pp)) (q1 (fE (b9 pt)) ?_)
 refine gQ 5 ?_;refine q1 (b6 [pI pp.aBw,pS pp.aBs,aU pp.aBt]) (q1 (fY ([pp]:List aA)) (q1 (b6 [pI pt.aBw,pS pt.aBs,aU pt.aBt]) (q1 (fY ([pt]:List aA)) (eF H fun x2 x3 z1 H=>(q1 (bI func187 (abS fu ([pp]:List aA) ([pt]:List aA) _ z1)) ?_)))))
 exact gE 5
def WE(fu:Nat)(pp pt:aA):Option Bool:=bd (OT fu pp pt) fun(x2,x3)=>some x3
theorem afG(fu:Nat)(pp:aA)(pt:aA)(r:Bool)(H:WE fu pp pt=some r):bQ Tryz.prog 210 [(aA.pv pp),(aA.pv pt)] (pB r):=by
 refine qJ func210 H (fun C hC H=>?_)
 refine gQ 2 ?_;refine q1 (fE (b9 pp)) (q1 (fE (b9 pt)) ?_)
 refine gQ 4 ?_;refine q1 (b6 [pI pp.aBw,pS pp.aBs,aU pp.aBt]) (q1 (b6 [pI pt.aBw,pS pt.aBs,aU pt.aBt]) (eF H fun x2 x3 z1 H=>(q1 (bI func161 (Z3 fu pp pt _ z1)) ?_)))
 exact gE 11
def U4(fu:Nat)(p0:List aJ)(pv:ByteArray):Nat→Unit→Option (LR Unit (aA×Bool)):=fun i1 _=>sw (decide ((aT p0 i1).aB9=pv)) (gd (gK ((aT p0 i1).aBu)) (some (.ret (((aT p0 i1).aBu),true)))) (some (.next ()))
def D0(fu:Nat)(p0:List aJ)(pv:ByteArray):Option (aA×Bool):=so (loopN (U4 fu p0 pv) (p0.length-0) 0 ()) fun _=>some ((aA.mk 0 s_ []),false)
theorem U6(fu:Nat)(p0:List aJ)(pv:ByteArray)(r:aA×Bool)(H:D0 fu p0 pv=some r):bQ Tryz.prog 59 [gB p0,pS pv] (.tup [(aA.pv r.1),pB r.2]):=by
 refine qJ func59 H (fun C hC H=>?_)
 refine gQ 12 ?_;refine fS 0 (aJ.trs_len _) (fun hl2=>?_)
 refine bU (σ:=Unit) (fun i1 _=>⟨[(1,pS pv),(4,.ptr 0 0),(5,pB false),(8,gB p0),(9,pN p0.length),(10,pN i1)],⟨[some ⟨30,[pI 0,pS s_,.nil]⟩],[]⟩⟩) (fun _=>⟨[(4,.ptr 0 0),(5,pB false)],⟨[some ⟨30,[pI 0,pS s_,.nil]⟩],[]⟩⟩) (eJ H) ?_ ?_
 ·rintro i1 ⟨⟩ H
  refine gQ 5 ?_;refine cT H (fun h3 h3l H=>?_) (fun h3 H=>?_)
  ·refine gQ 6 ?_;refine q1 (gS (aJ.cs (aT p0 i1))) ?_;refine gQ 10 ?_;refine bF H (fun h4 H=>?_) (fun h4 H=>?_)
   ·refine gQ 3 ?_;refine q1 (b6 [pI (((aT p0 i1).aBu).aBw),pS (((aT p0 i1).aBu).aBs),aU (((aT p0 i1).aBu).aBt)]) (cA H fun z5 H=>(q1 (bI func79 (rP ((aT p0 i1).aBu) z5)) ?_))
    exact gE 3
   exact gE 5
  exact gE 0
 rintro⟨⟩ H
 exact gE 6
abbrev t0:=(List aJ)→(List aA)→(List aA)→Option ((List aJ)×Bool×(List aJ))
abbrev D2:=(List aJ)→aA→aA→Option ((List aJ)×Bool×(List aJ))
def xK(m:t0):Prop:= ∀(ps:List aJ) (pp:List aA) (p2:List aA) (r:(List aJ)×Bool×(List aJ)),m ps pp p2=some r→cB Tryz.prog 159 [lR ps 0,aU pp,aU p2] ⟨[],[⟨44,4,aJ.trs (ps),false⟩]⟩ (fun q t=>q=(.tup [(bif r.2.1 then .acc 4 (aJ.trs (r.1)) 0 else .t (.row 4 (aJ.trs (r.1)))),pB r.2.1]:PV)∧t=⟨[],[⟨44,4,aJ.trs (r.2.2),false⟩]⟩)
def OH(m:D2):Prop:= ∀(ps:List aJ) (pp:aA) (pt:aA) (r:(List aJ)×Bool×(List aJ)),m ps pp pt=some r→cB Tryz.prog 184 [lR ps 0,(aA.pv pp),(aA.pv pt)] ⟨[],[⟨44,4,aJ.trs (ps),false⟩]⟩ (fun q t=>q=(.tup [(bif r.2.1 then .acc 4 (aJ.trs (r.1)) 0 else .t (.row 4 (aJ.trs (r.1)))),pB r.2.1]:PV)∧t=⟨[],[⟨44,4,aJ.trs (r.2.2),false⟩]⟩)
def zD(fu:Nat)(p1:t0)(p5:D2)(ps:List aJ)(pp p2:List aA):Nat→((List aJ))→Option (LR ((List aJ)) ((List aJ)×Bool×(List aJ))):=fun i2 v4=>gd (i2<(p2).length) (bd (p5 v4 (aT pp i2) (aT p2 i2)) fun(x9,x10,x11)=>sw x10 (gd (x9=x11) (some (.next x9))) (some (.ret ([],false,x11))))
def xJ(fu:Nat)(p1:t0)(p5:D2)(ps:List aJ)(pp p2:List aA):Option ((List aJ)×Bool×(List aJ)):=sw (!decide ((pp.length:Int)=(p2.length:Int))) (some ([],false,ps)) (so (loopN (zD fu p1 p5 ps pp p2) (pp.length-0) 0 ps) fun v4=>some (v4,true,v4))
theorem VE(fu:Nat)(p1:t0)(p5:D2)(p6:xK p1)(p9:OH p5):xK (xJ fu p1 p5):=by
 intro ps pp p2 r H
 refine qJ func159 H (fun C hC H=>?_)
 refine gQ 14 ?_;refine bF H (fun h1 H=>gE 5) fun h1 H=>?_;refine gQ 8 ?_;refine fS 1 (aA.trs_len _) (fun hl5=>?_)
 refine bU (σ:=(List aJ)) (fun i2 v4=>⟨[(0,lR v4 0),(1,aU pp),(2,aU p2),(6,.nil),(7,pB false),(17,pN pp.length),(18,pN i2)],⟨[],[⟨44,4,aJ.trs (v4),false⟩]⟩⟩) (fun v4=>⟨[(0,lR v4 0),(6,.nil),(7,pB false)],⟨[],[⟨44,4,aJ.trs (v4),false⟩]⟩⟩) (eJ H) ?_ ?_
 ·rintro i2 v4 H
  refine gQ 5 ?_;refine cT H (fun h6 h6l H=>?_) (fun h6 H=>?_)
  ·refine gQ 9 ?_;refine cA H fun z7 H=>(DC H fun x9 x10 x11 z8 H=>?_)
   cases x10
   ·have H:=sD H rfl
    refine dW (dI [0] bH (dI [1] bH (dI [8] bH (dI [23,24] m9 (dI [25] (gS (aA.cs (aT pp i2))) (dI [2] bH (dI [8] bH (dI [27,28] m9 (dI [29] (gS (aA.cs (aT p2 i2))) (dE [22,26,30] (fD [] [0] func184 (p9 v4 (aT pp i2) (aT p2 i2) _ z8)) (dI [31] bH ?_)))))))))))
    iterate 2 refine dI [21] rEx ?_
    refine dI [32] bH (dI [33] bH (dN ?_))
    refine gQ 6 ?_;refine ahV (congrArg (fun b=> !b) (rfl:false=false)) ?_;exact gE 5
   have H:=sE H rfl
   obtain⟨z12,H1⟩:=gdI H
   subst z12
   have H:=H1
   refine dW (dI [0] bH (dI [1] bH (dI [8] bH (dI [23,24] m9 (dI [25] (gS (aA.cs (aT pp i2))) (dI [2] bH (dI [8] bH (dI [27,28] m9 (dI [29] (gS (aA.cs (aT p2 i2))) (dE [22,26,30] (fD [] [0] func184 (p9 v4 (aT pp i2) (aT p2 i2) _ z8)) (dI [31] bH ?_)))))))))))
   iterate 2 refine dI [21] rEx ?_
   refine dI [32] bH (dI [33] bH (dN ?_))
   refine gQ 6 ?_;refine UP (congrArg (fun b=> !b) (rfl:true=true)) ?_;exact gE 9
  exact gE 0
 rintro v4 H
 exact gE 6
def VF(fu:Nat)(p1:t0)(p5:D2)(ps:List aJ)(pp pt:aA):Option ((List aJ)×Bool×(List aJ)):=sw (decide (pp.aBw=1)) (bd (D0 fu ps pp.aBs) fun(x3,x4)=>sw x4 (sw (aA.eq x3 pt) (some (ps,(aA.eq x3 pt),ps)) (some (ps,(aA.eq x3 pt),ps))) (gd (gK pt) (gd ((ps).length+(([(aJ.mk pp.aBs pt)]:List aJ)).length≤68719476736) (some ((ps++([(aJ.mk pp.aBs pt)]:List aJ)),true,(ps++([(aJ.mk pp.aBs pt)]:List aJ))))))) (sw (!decide (pp.aBw=pt.aBw)) (some ([],false,ps)) (sw (!decide (pp.aBs=pt.aBs)) (some ([],false,ps)) (bd (p1 ps pp.aBt pt.aBt) fun(x12,x13,x14)=>sw x13 (gd (x12=x14) (some (x12,true,x12))) (some (x12,false,x14)))))
theorem aeP(fu:Nat)(p1:t0)(p5:D2)(p6:xK p1)(p9:OH p5):OH (VF fu p1 p5):=by
 intro ps pp pt r H
 refine qJ func184 H (fun C hC H=>?_)
 refine gQ 2 ?_;refine q1 (fE (b9 pp)) (q1 (fE (b9 pt)) ?_)
 refine gQ 10 ?_;refine bF H (fun h1 H=>?_) (fun h1 H=>?_)
 ·refine gQ 6 ?_;refine eF H fun x3 x4 z2 H=>(q1 (bI func59 (U6 fu ps pp.aBs _ z2)) ?_)
  refine gQ 11 ?_;refine bF H (fun h5 H=>?_) (fun h5 H=>?_)
  ·refine gQ 3 ?_;refine q1 (b6 [pI x3.aBw,pS x3.aBs,aU x3.aBt]) (q1 (b6 [pI pt.aBw,pS pt.aBs,aU pt.aBt]) (q1 (bI func95 (CO x3 pt)) ?_))
   refine gQ 3 ?_;refine cO.ret ?_
   rcases nS (aA.eq x3 pt) with g6|g6
   ·have H:=sE H g6
    cases s3 H
    exact qe2 (hle:=by rw [g6];exact iX) (hk:=by rw [g6];rfl)
   have H:=sD H g6
   cases s3 H
   exact qe2 (hle:=by rw [g6];exact iX) (hk:=by rw [g6];rfl)
  refine gQ 2 ?_;refine cA H fun z7 H=>(cA H fun z8 H=>(dW (dI [0] bH (dI [4] bZ (dD [26] eB (dD [5] (b6 [pI pt.aBw,pS pt.aBs,aU pt.aBt]) (dI [28] (bI func79 (rP pt z7)) (dI [27,29] oP (dI [30] (fY ([(aJ.mk pp.aBs pt)]:List aJ)) (dE [25,31] (jO z8) (dI [32] bH (dI [] bH (dN ?_)))))))))))))
  exact gE 0
 refine gQ 10 ?_;refine dL 38 H (fun g9 H=>gE 13) fun g9 H=>?_;refine gQ 7 ?_;refine bF H (fun h10 H=>gE 5) fun h10 H=>?_;refine gQ 8 ?_;refine DC H fun x12 x13 x14 z11 H=>?_
 cases x13
 ·have H:=sD H rfl
  refine q1 (fD [] [0] func159 (p6 ps pp.aBt pt.aBt _ z11)) ?_;exact gE 5
 have H:=sE H rfl
 obtain⟨z15,H1⟩:=gdI H
 subst z15
 have H:=H1
 refine q1 (fD [] [0] func159 (p6 ps pp.aBt pt.aBt _ z11)) ?_;exact gE 5
mutual
def fF:Nat→(List aJ)→(List aA)→(List aA)→Option ((List aJ)×Bool×(List aJ))
 |0,_,_,_=>none
 |fu+1,ps,pp,p2=>xJ fu (fF fu) (sT fu) ps pp p2
def sT:Nat→(List aJ)→aA→aA→Option ((List aJ)×Bool×(List aJ))
 |0,_,_,_=>none
 |fu+1,ps,pp,pt=>VF fu (fF fu) (sT fu) ps pp pt
end
theorem X4(fu:Nat):xK (fF fu)∧OH (sT fu):=by
 induction fu with
 |zero=>exact⟨(fun ps pp p2 r H=>by simp only [fF] at H;cases H),(fun ps pp pt r H=>by simp only [sT] at H;cases H)⟩
 |succ fu ih=>exact⟨(fun ps pp p2 r H=>by simp only [fF] at H;exact VE fu (fF fu) (sT fu) ih.1 ih.2 ps pp p2 r H),(fun ps pp pt r H=>by simp only [sT] at H;exact aeP fu (fF fu) (sT fu) ih.1 ih.2 ps pp pt r H)⟩
theorem OG(fu:Nat):xK (fF fu):=(X4 fu).1
def N8(fu:Nat)(pp pt:aA):Option ((List aJ)×Bool):=bd (fF fu ([]) ([pp]:List aA) ([pt]:List aA)) fun(x2,x3,x4)=>sw x3 (gd (x2=x4) (some (x2,true))) (some (x2,false))
theorem ZJ(fu:Nat)(pp:aA)(pt:aA)(r:(List aJ)×Bool)(H:N8 fu pp pt=some r):bQ Tryz.prog 119 [(aA.pv pp),(aA.pv pt)] (.tup [gB r.1,pB r.2]):=by
 refine qJ func119 H (fun C hC H=>?_)
 refine gQ 2 ?_;refine q1 (fE (b9 pp)) (q1 (fE (b9 pt)) ?_)
 refine gQ 5 ?_;refine q1 (b6 [pI pp.aBw,pS pp.aBs,aU pp.aBt]) (q1 (fY ([pp]:List aA)) (q1 (b6 [pI pt.aBw,pS pt.aBs,aU pt.aBt]) (q1 (fY ([pt]:List aA)) (DC H fun x2 x3 x4 z1 H=>?_))))
 cases x3
 ·have H:=sD H rfl
  refine q1 (bD.callF (res:= .tup [gB x2,pB false]) (ps:= [_,_,_]) (qs:= [.nil,aU ([pp]:List aA),aU ([pt]:List aA)]) rfl rfl func159 (by kernel_rfl) rfl rfl iX rfl rfl (cB.regNil (l1:= []) (l2:= [aU ([pp]:List aA),aU ([pt]:List aA)]) (E:=44) (sz:=4) (q:= .tup [gB x2,pB false]) (by decide) (OG fu ([]) ([pp]:List aA) ([pt]:List aA) _ z1) iX rfl)) ?_;exact gE 5
 have H:=sE H rfl
 obtain⟨z5,H1⟩:=gdI H
 subst z5
 have H:=H1
 refine q1 (bD.callF (res:= .tup [gB x2,pB true]) (ps:= [_,_,_]) (qs:= [.nil,aU ([pp]:List aA),aU ([pt]:List aA)]) rfl rfl func159 (by kernel_rfl) rfl rfl iX rfl rfl (cB.regNil (l1:= []) (l2:= [aU ([pp]:List aA),aU ([pt]:List aA)]) (E:=44) (sz:=4) (q:= .tup [gB x2,pB true]) (by decide) (OG fu ([]) ([pp]:List aA) ([pt]:List aA) _ z1) iX rfl)) ?_;exact gE 5
def U7(fu:Nat)(pp pt:aA):Option Bool:=bd (N8 fu pp pt) fun(x2,x3)=>some x3
theorem aeK(fu:Nat)(pp:aA)(pt:aA)(r:Bool)(H:U7 fu pp pt=some r):bQ Tryz.prog 182 [(aA.pv pp),(aA.pv pt)] (pB r):=by
 refine qJ func182 H (fun C hC H=>?_)
 refine gQ 2 ?_;refine q1 (fE (b9 pp)) (q1 (fE (b9 pt)) ?_)
 refine gQ 4 ?_;refine q1 (b6 [pI pp.aBw,pS pp.aBs,aU pp.aBt]) (q1 (b6 [pI pt.aBw,pS pt.aBs,aU pt.aBt]) (eF H fun x2 x3 z1 H=>(q1 (bI func119 (ZJ fu pp pt _ z1)) ?_)))
 exact gE 11
end
end Go.Proofs.YtfcoaagbccmahaaGreat.W

namespace Go.Proofs.YtfcoaagbccmahaaGreat.W
open Go.RowKit Go.WalkArith
def DB(l:List aJ)(v:ByteArray):Option aJ:=l.find? (fun b=>decide (b.aB9=v))
mutual
def jY:aA→aA→List aJ→Option (List aJ)
 | .mk k n ps,t,s=>
  if k=1 then(match DB s n with
   |some b=>if aA.eq b.aBu t=true then some s else none
   |none=>some (s++ [aJ.mk n t]))
  else if k=t.aBw then(if n=t.aBs then(if ps.length=t.aBt.length then lW ps t.aBt s else none) else none) else none
def lW:List aA→List aA→List aJ→Option (List aJ)
 | [],_,s=>some s
 |p::ps,ts,s=>match ts with
  | []=>none
  |t::ts=>match jY p t s with
   |none=>none
   |some s'=>lW ps ts s'
end
theorem nd{p:Prop}[Decidable p](h: ¬p):(!decide p)=true:=by simp [h]
def wtl(l:List aA):Nat:=l.length+Tr.bulkAll (aA.trs l)
theorem XK(x:aA)(l:List aA):wtl (x::l)=1+Tr.bulkL x.tr+wtl l:=by simp only [wtl,aA.trs,Tr.bulkAll,List.length_cons];omega
theorem XJ(k:Int)(n:ByteArray)(ps:List aA):wtl ps≤Tr.bulkL (aA.mk k n ps).tr:=PU k n ps
def qP(s:List aJ):Prop:= ∀b∈s,gK b.aBu
theorem SE: ∀(ps:List aA),(∀x∈ps,∀t s s',jY x t s=some s'→qP s→gK t→qP s'∧s'.length≤s.length+1+Tr.bulkL x.tr)→
 ∀ts s s',lW ps ts s=some s'→qP s→(∀t∈ts,gK t)→qP s'∧s'.length≤s.length+wtl ps
 | [],_,ts,s,s',h,hb,_=>by
  rw [lW] at h
  obtain rfl:=Option.some.inj h
  exact⟨hb,by omega⟩
 |p::ps,hp,ts,s,s',h,hb,ht=>by
  cases ts with
  |nil=>simp [lW] at h
  |cons t ts=>
   rw [lW] at h
   cases hq:jY p t s with
   |none=>rw [hq] at h;cases h
   |some s1=>
    rw [hq] at h
    have h1:=hp p (by simp) t s s1 hq hb (ht t (by simp))
    have h2:=SE ps (fun x hx=>hp x (List.mem_cons_of_mem _ hx)) ts s1 s' h h1.1 (fun x hx=>ht x (List.mem_cons_of_mem _ hx))
    have h3:=XK p ps
    exact⟨h2.1,by omega⟩
theorem al7: ∀(p t:aA) (s s':List aJ),jY p t s=some s'→qP s→gK t→qP s'∧s'.length≤s.length+1+Tr.bulkL p.tr:=by
 refine aA.ind fun k n ps ih t s s' h hb ht=>?_
 have hw:=XJ k n ps
 rw [jY] at h
 split at h
 ·split at h
  ·split at h
   ·obtain rfl:=Option.some.inj h
    exact⟨hb,by omega⟩
   ·cases h
  ·obtain rfl:=Option.some.inj h
   refine⟨fun b hb'=>?_,by simp only [List.length_append,List.length_singleton];omega⟩
   rcases List.mem_append.1 hb' with h1|h1
   ·exact hb b h1
   ·obtain rfl:=List.mem_singleton.1 h1
    exact ht
 ·split at h
  ·split at h
   ·split at h
    ·have h1:=SE ps ih _ _ _ h hb (fun x hx=>AD hx ht)
     exact⟨h1.1,by omega⟩
    ·cases h
   ·cases h
  ·cases h
def Res(o:Option (List aJ))(m:Option (List aJ×Bool×List aJ)):Prop:=match o with
 |some s'=>m=some (s',true,s')
 |none=> ∃a b,m=some (a,false,b)
def arM(o:Option (List aJ))(m:Option ((List aJ×Bool×List aJ)⊕List aJ)):Prop:=match o with
 |some s'=>m=some (.inr s')
 |none=> ∃a b,m=some (.inl (a,false,b))
def arL(o:Option (List aJ))(m:Option (LR (List aJ) (List aJ×Bool×List aJ))):Prop:=match o with
 |some s'=>m=some (.next s')
 |none=> ∃a b,m=some (.ret (a,false,b))
theorem ZY{F:Nat→List aJ→Option (LR (List aJ) (List aJ×Bool×List aJ))}{ps ts:List aA}(hlen:ps.length=ts.length)(ht: ∀t∈ts,gK t)
 (hs: ∀i s,i<ps.length→qP s→s.length+1+Tr.bulkL (aT ps i).tr≤68719476736→arL (jY (aT ps i) (aT ts i) s) (F i s)):
 ∀(k i:Nat) (s:List aJ),ps.length-i=k→qP s→s.length+wtl (ps.drop i)≤68719476736→arM (lW (ps.drop i) (ts.drop i) s) (loopN F (ps.length-i) i s)
 |0,i,s,hk,_,_=>by
  rw [List.drop_of_length_le (show ps.length≤i by omega),lW]
  exact D7 (by omega)
 |k+1,i,s,hk,hb,hw=>by
  have hi:i<ps.length:=by omega
  have hi2:i<ts.length:=by omega
  rw [qY hi,XK] at hw
  have h1:=hs i s hi hb (by omega)
  rw [qY hi,qY hi2,lW]
  cases hq:jY (aT ps i) (aT ts i) s with
  |none=>
   rw [hq] at h1
   obtain⟨a,b,h1⟩:=h1
   exact⟨a,b,JA hi h1⟩
  |some s'=>
   rw [hq] at h1
   have h2:=al7 _ _ _ _ hq hb (ht _ (cE hi2))
   have h3:=ZY hlen ht hs k (i+1) s' (by omega) h2.1 (by omega)
   rw [AT hi h1]
   exact h3
theorem VQ{F:Nat→List aJ→Option (LR (List aJ) (List aJ×Bool×List aJ))}{ps ts:List aA}(hlen:ps.length=ts.length)(ht: ∀t∈ts,gK t)
 (hs: ∀i s,i<ps.length→qP s→s.length+1+Tr.bulkL (aT ps i).tr≤68719476736→arL (jY (aT ps i) (aT ts i) s) (F i s)) {s:List aJ} (hb:qP s) (hw:s.length+wtl ps≤68719476736):arM (lW ps ts s) (loopN F (ps.length-0) 0 s):=by
 have:=ZY hlen ht hs ps.length 0 s (by omega) hb (by rwa [List.drop_zero])
 rwa [List.drop_zero,List.drop_zero] at this
theorem WB(fu:Nat)(l:List aJ)(v:ByteArray)(hb:qP l):JE fu l v=some (match DB l v with
 |some b=>(b.aBu,true)
 |none=>(aA.mk 0 (⟨#[]⟩) [],false)):=by
 unfold JE
 rw [mJ (p:=fun b=>decide (b.aB9=v)) (r:=fun b=>(b.aBu,true)) (fun i hi=>by
  unfold WA
  cases h:decide ((aT l i).aB9=v)
  ·simp [sw,h]
  ·simp only [sw,h]
   rw [fT (hb _ (cE hi)) rfl]
   simp)]
 unfold DB
 cases l.find? (fun b=>decide (b.aB9=v))<;>rfl
def SMS(fu:Nat)(p:aA):Prop:= ∀(t:aA) (s:List aJ),gK t→qP s→s.length+1+Tr.bulkL p.tr≤68719476736→Res (jY p t s) (m7 fu p t s)
theorem abM{fu:Nat}{ps:List aA}(hf: ∀x∈ps,SMS fu x){ts:List aA}{s:List aJ}(hlen:ps.length=ts.length)(ht: ∀t∈ts,gK t)(hb:qP s)(hw:s.length+wtl ps≤68719476736):Res (lW ps ts s) (o6 (fu+1) ps ts s):=by
 have hl:=VQ (F:=RX fu (o6 fu) (m7 fu) ps ts s) hlen ht (fun i s hi hb hw=>by
  have h1:=hf (aT ps i) (cE hi) (aT ts i) s (ht _ (cE (by omega))) hb hw
  unfold RX
  cases hq:jY (aT ps i) (aT ts i) s with
  |none=>
   rw [hq] at h1
   obtain⟨a,b,h1⟩:=h1
   exact⟨_,b,fT (by omega) (hY h1 rfl)⟩
  |some s'=>
   rw [hq] at h1
   exact fT (by omega) (hY h1 (kS rfl (fT rfl rfl)))) hb hw
 rw [o6,XA]
 cases hq:lW ps ts s with
 |none=>
  rw [hq] at hl
  obtain⟨a,b,hl⟩:=hl
  exact⟨a,b,soL hl⟩
 |some s'=>
  rw [hq] at hl
  exact UA hl rfl
theorem Z2: ∀p:aA,bS fun fu=>SMS fu p:=by
 refine aA.ind fun k n ps ih=>?_;refine bS.succ (bS.succ ((bS.list ih).imp fun fu hf t s ht hb hw=>?_))
 have hwa:=XJ k n ps
 rw [m7,M8,jY]
 simp only [aA.aBw.eq_1,aA.aBs.eq_1,aA.aBt.eq_1]
 by_cases hk:k=1
 ·rw [if_pos hk,WB _ s n hb]
  cases hq:DB s n with
  |some b=>
   cases he:aA.eq b.aBu t with
   |true=>
    show Res (if aA.eq b.aBu t=true then some s else none) _
    rw [if_pos he]
    show _=some (s,true,s)
    refine kS (decide_eq_true hk) (hY rfl (kS rfl (kS he ?_)))
    simp only [he]
   |false=>
    show Res (if aA.eq b.aBu t=true then some s else none) _
    rw [if_neg (by simp [he])]
    refine⟨s,s,?_⟩
    refine kS (decide_eq_true hk) (hY rfl (kS rfl (jA he ?_)))
    simp only [he]
  |none=>
   show _=some (s++ [aJ.mk n t],true,s++ [aJ.mk n t])
   exact kS (decide_eq_true hk) (hY rfl (jA rfl (fT ht (fT (by simp only [List.length_singleton];omega) rfl))))
 ·rw [if_neg hk]
  by_cases h1:k=t.aBw
  ·rw [if_pos h1]
   by_cases h2:n=t.aBs
   ·rw [if_pos h2]
    by_cases h3:ps.length=t.aBt.length
    ·rw [if_pos h3]
     have ha:=abM hf (s:=s) h3 (fun x hx=>AD hx ht) hb (by omega)
     cases hq:lW ps t.aBt s with
     |none=>
      rw [hq] at ha
      obtain⟨a,b,ha⟩:=ha
      exact⟨_,_,jA (by simp [hk]) (jA (by simp [h1]) (jA (by simp [h2]) (jA (by simp [h3])<|hY ha (jA rfl rfl))))⟩
     |some s'=>
      rw [hq] at ha
      exact jA (by simp [hk]) (jA (by simp [h1]) (jA (by simp [h2]) (jA (by simp [h3])<|hY ha (kS rfl (fT rfl rfl)))))
    ·rw [if_neg h3]
     exact⟨_,_,jA (by simp [hk]) (jA (by simp [h1]) (jA (by simp [h2]) (kS (nd (fun h=>h3 (Int.ofNat_inj.1 h))) rfl)))⟩
   ·rw [if_neg h2]
    exact⟨_,_,jA (by simp [hk]) (jA (by simp [h1]) (kS (by simp [h2]) rfl))⟩
  ·rw [if_neg h1]
   exact⟨_,_,jA (by simp [hk]) (kS (by simp [h1]) rfl)⟩
theorem U5(fu:Nat)(l:List aJ)(v:ByteArray)(hb:qP l):D0 fu l v=some (match DB l v with
 |some b=>(b.aBu,true)
 |none=>(aA.mk 0 (⟨#[]⟩) [],false)):=by
 unfold D0
 rw [mJ (p:=fun b=>decide (b.aB9=v)) (r:=fun b=>(b.aBu,true)) (fun i hi=>by
  unfold U4
  cases h:decide ((aT l i).aB9=v)
  ·simp [sw,h]
  ·simp only [sw,h]
   rw [fT (hb _ (cE hi)) rfl]
   simp)]
 unfold DB
 cases l.find? (fun b=>decide (b.aB9=v))<;>rfl
def IMS(fu:Nat)(p:aA):Prop:= ∀(t:aA) (s:List aJ),gK t→qP s→s.length+1+Tr.bulkL p.tr≤68719476736→Res (jY p t s) (sT fu s p t)
theorem aa3{fu:Nat}{ps:List aA}(hf: ∀x∈ps,IMS fu x){ts:List aA}{s:List aJ}(hlen:ps.length=ts.length)(ht: ∀t∈ts,gK t)(hb:qP s)(hw:s.length+wtl ps≤68719476736):Res (lW ps ts s) (fF (fu+1) s ps ts):=by
 have hl:=VQ (F:=zD fu (fF fu) (sT fu) s ps ts) hlen ht (fun i s hi hb hw=>by
  have h1:=hf (aT ps i) (cE hi) (aT ts i) s (ht _ (cE (by omega))) hb hw
  unfold zD
  cases hq:jY (aT ps i) (aT ts i) s with
  |none=>
   rw [hq] at h1
   obtain⟨a,b,h1⟩:=h1
   exact⟨_,b,fT (by omega) (hY h1 rfl)⟩
  |some s'=>
   rw [hq] at h1
   exact fT (by omega) (hY h1 (kS rfl (fT rfl rfl)))) hb hw
 rw [fF,xJ]
 rw [show sw (!decide (((ps.length:Nat):Int)=((ts.length:Nat):Int)))=fun(x y:Option (List aJ×Bool×List aJ))=>y by funext x y;exact jA (by simp [hlen]) rfl]
 cases hq:lW ps ts s with
 |none=>
  rw [hq] at hl
  obtain⟨a,b,hl⟩:=hl
  exact⟨a,b,soL hl⟩
 |some s'=>
  rw [hq] at hl
  exact UA hl rfl
theorem ZI: ∀p:aA,bS fun fu=>IMS fu p:=by
 refine aA.ind fun k n ps ih=>?_;refine bS.succ (bS.succ ((bS.list ih).imp fun fu hf t s ht hb hw=>?_))
 have hwa:=XJ k n ps
 rw [sT,VF,jY]
 simp only [aA.aBw.eq_1,aA.aBs.eq_1,aA.aBt.eq_1]
 by_cases hk:k=1
 ·rw [if_pos hk,U5 _ s n hb]
  cases hq:DB s n with
  |some b=>
   cases he:aA.eq b.aBu t with
   |true=>
    show Res (if aA.eq b.aBu t=true then some s else none) _
    rw [if_pos he]
    show _=some (s,true,s)
    refine kS (decide_eq_true hk) (hY rfl (kS rfl (kS he ?_)))
    simp only [he]
   |false=>
    show Res (if aA.eq b.aBu t=true then some s else none) _
    rw [if_neg (by simp [he])]
    refine⟨s,s,?_⟩
    refine kS (decide_eq_true hk) (hY rfl (kS rfl (jA he ?_)))
    simp only [he]
  |none=>
   show _=some (s++ [aJ.mk n t],true,s++ [aJ.mk n t])
   exact kS (decide_eq_true hk) (hY rfl (jA rfl (fT ht (fT (by simp only [List.length_singleton];omega) rfl))))
 ·rw [if_neg hk]
  by_cases h1:k=t.aBw
  ·rw [if_pos h1]
   by_cases h2:n=t.aBs
   ·rw [if_pos h2]
    by_cases h3:ps.length=t.aBt.length
    ·rw [if_pos h3]
     have ha:=aa3 hf (s:=s) h3 (fun x hx=>AD hx ht) hb (by omega)
     cases hq:lW ps t.aBt s with
     |none=>
      rw [hq] at ha
      obtain⟨a,b,ha⟩:=ha
      exact⟨_,_,jA (by simp [hk]) (jA (by simp [h1]) (jA (by simp [h2]) (hY ha (jA rfl rfl))))⟩
     |some s'=>
      rw [hq] at ha
      exact jA (by simp [hk]) (jA (by simp [h1]) (jA (by simp [h2]) (hY ha (kS rfl (fT rfl rfl)))))
    ·rw [if_neg h3]
     have ha:fF (fu+1) s ps t.aBt=some ([],false,s):=by
      rw [fF,xJ]
      exact kS (nd (fun h=>h3 (Int.ofNat_inj.1 h))) rfl
     exact⟨_,_,jA (by simp [hk]) (jA (by simp [h1]) (jA (by simp [h2]) (hY ha (jA rfl rfl))))⟩
   ·rw [if_neg h2]
    exact⟨_,_,jA (by simp [hk]) (jA (by simp [h1]) (kS (by simp [h2]) rfl))⟩
  ·rw [if_neg h1]
   exact⟨_,_,jA (by simp [hk]) (kS (by simp [h1]) rfl)⟩
def l4(p t:aA):Bool:=(jY p t []).isSome
theorem qP.nil:qP []:=fun b hb=>by simp at hb
theorem FD(p t:aA):lW [p] [t] []=jY p t []:=by
 rw [lW]
 cases hq:jY p t [] with
 |none=>simp [hq]
 |some s=>simp [hq,lW]
theorem UC(p:aA):wtl [p]=1+Tr.bulkL p.tr:=by rw [XK];simp [wtl,aA.trs,Tr.bulkAll]
theorem SI(p t:aA)(hp:Tr.bulkL p.tr≤68719476735)(ht:gK t):bQ Tryz.prog 210 [(aA.pv p),(aA.pv t)] (.t (.leaf (.bool (l4 p t)))):=by
 obtain⟨fu,hf⟩:=(Z2 p).get
 refine afG (fu+1) p t _ ?_
 have h1:=abM (fu:=fu) (ps:= [p]) (by simpa using hf) (ts:= [t]) (s:= []) rfl (by simpa using ht) qP.nil (by rw [UC];simp only [List.length_nil];omega)
 rw [FD] at h1
 unfold WE OT BV l4
 cases hq:jY p t [] with
 |none=>
  rw [hq] at h1
  obtain⟨a,b,h1⟩:=h1
  exact hY (hY (jA rfl (hY h1 (jA rfl rfl))) rfl) rfl
 |some s=>
  rw [hq] at h1
  exact hY (hY (jA rfl (hY h1 (kS rfl (fT rfl rfl)))) rfl) rfl
theorem G9(p t:aA)(hp:Tr.bulkL p.tr≤68719476735)(ht:gK t):bQ Tryz.prog 182 [(aA.pv p),(aA.pv t)] (.t (.leaf (.bool (l4 p t)))):=by
 obtain⟨fu,hf⟩:=(ZI p).get
 refine aeK (fu+1) p t _ ?_
 have h1:=aa3 (fu:=fu) (ps:= [p]) (by simpa using hf) (ts:= [t]) (s:= []) rfl (by simpa using ht) qP.nil (by rw [UC];simp only [List.length_nil];omega)
 rw [FD] at h1
 unfold U7 N8 l4
 cases hq:jY p t [] with
 |none=>
  rw [hq] at h1
  obtain⟨a,b,h1⟩:=h1
  exact hY (hY h1 (jA rfl rfl)) rfl
 |some s=>
  rw [hq] at h1
  exact hY (hY h1 (kS rfl (fT rfl rfl))) rfl
end Go.Proofs.YtfcoaagbccmahaaGreat.W

namespace Go.Proofs.YtfcoaagbccmahaaGreat
open Go.RowKit
section
variable {P:Program} {ops:Array Oper} {Q:Exit→Act→World→Prop} {md:Region.Mode} {S:World→Prop}
theorem qO{rest:List Oper}{o:Oper}{a:Act}{w:World}(hwd:Region.wanted o (yielded ops a.tmps)=true)(ty:TypeId)(x:Operand)(ho:o.op= .load ty x)
 (b off:Nat) (hx:a.eval x= .pointer (some ⟨b,off,none⟩)) (cs:List Value) (fs:Array Field) (hu:P.underlying ty=some (.struct fs)) (hi:(P.info? ty).map (·.size)=some cs.length)
 (hc: ∀j v,cs[j]?=some v→w.cell? ⟨b,off+j,none⟩=some v) (h:wpList P ops Q rest (a.put o.dst (.agg ⟨cs⟩)) w):wpList P ops Q (o::rest) a w:=
 wpList_step fun _ hK=>by
  rw [if_pos hwd]
  unfold Oper.wp execOp
  simp only [ho,hx,Instr.loadAt,Instr.sureAddr,Sem.run_bind,Sem.run_pure,Result.andThen_ok,GG w b off ty cs fs hu hi hc]
  exact hK _ _ h
end
end Go.Proofs.YtfcoaagbccmahaaGreat

namespace Go.Proofs.YtfcoaagbccmahaaGreat.W
open Go.RowKit Go.Proofs
theorem arZ:(Tryz.prog.info? 26).map (·.size)=some 1:=by kernel_rfl
theorem avC:(Tryz.prog.info? 52).map (·.size)=some 2:=by kernel_rfl
theorem afA(l:List aF): ∀e∈aF.trs l,∀d∈e,∃u,d= .leaf u:=by
 intro e he d hd
 rw [aF.trs_map] at he
 obtain⟨x,_,rfl⟩:=List.mem_map.1 he
 exact VU x d hd
theorem anE(x0:aH)(w:World)(c0:List Value)(h0:gJ w x0.tr c0)(hb:(fH x0).length≤68719476736):Calls Tryz.prog 180 #[.agg ⟨c0⟩] w fun e w'=> ∃v,e= .returned v∧uB w w'∧AB w' (.row 2 (aF.trs (fH x0))) v (NE w w'):=by
 rw [aH.tr_cs] at h0
 exact(N4 0 x0 _ (ao7 0 x0 hb)).own (afA _) (GY.cons (RV0.agg h0) GY.nil)
end Go.Proofs.YtfcoaagbccmahaaGreat.W

namespace Go.Proofs.YtfcoaagbccmahaaGreat.W
open Go.RowKit Go.Proofs
theorem izT:(Tryz.prog.info? 30).map (·.size)=some 3:=by kernel_rfl
theorem izI:(Tryz.prog.info? 163).map (·.size)=some 12:=by kernel_rfl
theorem bQ.plainAB{P:Program}{f:FuncId}{args:List PV}{ts:List Tr}{d:Value}(h:bQ P f args (.tup [.agg (ts.map PV.t),.t (.leaf d)])){w:World}{vals:List Value}(hv:GY w args vals):Calls P f ⟨vals⟩ w fun e w'=> ∃cs,e= .returned (.tuple #[.agg ⟨cs⟩,d])∧uB w w'∧gJ w' ts cs:=
 (h av0 abG w vals (aq8 w) hv).mono fun e w'=>by
  rintro⟨res,st',m',v,rfl,⟨rfl,rfl⟩,-,he,vs,rfl,hr⟩
  match vs,hr with
  | [u,x],hr=>
   obtain⟨rfl,-⟩:=(cD.rep (show cD _ _ (.leaf d) x from hr.2.1)).leaf_eq
   obtain⟨cs,rfl,hl⟩:=hr.1
   exact⟨cs,rfl,he.ext,f6.ofTr hl⟩
theorem arY(x0:aH)(o:aF)(hO:uN x0 o)(w:World)(c0 cs:List Value)(h0:gJ w x0.tr c0)(hr:gJ w o.tr cs):Calls Tryz.prog 118 #[.agg ⟨c0⟩,.agg ⟨cs⟩] w fun e w'=> ∃ci,e= .returned (.tuple #[.agg ⟨ci⟩,.bool true])∧uB w w'∧gJ w' (cJ x0 o).cs ci:=by
 rw [aH.tr_cs] at h0
 rw [aF.tr_cs] at hr
 exact bQ.plainAB (ts:=(cJ x0 o).cs) (zC 0 x0 o _ (OF 0 x0 o hO)) (GY.cons (RV0.agg h0) (GY.cons (RV0.agg hr) GY.nil))
theorem anW(p t:aA)(w:World)(c0 c1:List Value)(h0:gJ w p.tr c0)(h1:gJ w t.tr c1)(hp:Tr.bulkL p.tr≤68719476735)(ht:gK t):Calls Tryz.prog 182 #[.agg ⟨c0⟩,.agg ⟨c1⟩] w fun e w'=>e= .returned (.bool (l4 p t))∧uB w w':=by
 rw [aA.tr_cs] at h0 h1
 exact bQ.plain (G9 p t hp ht) (GY.cons (RV0.agg h0) (GY.cons (RV0.agg h1) GY.nil))
set_option maxRecDepth 100000 in
set_option maxHeartbeats 2000000 in
theorem aeA(x0:aH)(g:aD)(c0 cg:List Value)(B0 B1:Nat)(o:aF)(cs:List Value)(w:World)(hob0:OB w B0 26 ⟨c0⟩)(hob1:OB w B1 32 ⟨cg⟩)(h0:gJ w x0.tr c0)(hg:gJ w g.tr cg)(hr:gJ w o.tr cs)(hO:uN x0 o)
 (hB0:Tr.bulkL (cJ x0 o).aBH.tr≤68719476735) (hB1:gK g.aBu):
 Calls Tryz.prog 181 (#[.agg ⟨cs⟩]++ #[.pointer (some ⟨B0,0,none⟩),.pointer (some ⟨B1,0,none⟩)]) w fun e w'=>e= .returned (.bool (!(decide ((cJ x0 o).aBz=g.aBz)&&l4 (cJ x0 o).aBH g.aBu)))∧uB w w':=by
 have HI0:Hid ((Tryz.prog.info? 26).map (·.size)=some c0.length):=by rw [← h0.length,aH.tr_len];exact arZ
 have HI1:Hid ((Tryz.prog.info? 52).map (·.size)=some cs.length):=by rw [← hr.length,aF.tr_len];exact avC
 rw [aD.tr_cs] at hg
 obtain⟨d0,d1,d2,d3,rfl⟩:=ar1 hg.length.symm
 obtain⟨rfl,-⟩:=hg.1.leaf_eq
 have HG:Hid (gJ w g.aBu.tr [d1,d2,d3]):=by rw [aA.tr_cs];exact hg.2
 have HOB0:=Lib.hid hob0
 have HOB1:=Lib.hid hob1
 have H0:=Lib.hid h0
 have HR:=Lib.hid hr
 have HB0:=Lib.hid hB0
 have HB1:=Lib.hid hB1
 clear hob0 hob1 h0 hr hg hB0 hB1
 go_enter Tryz.func181,Tryz.ntmps181
 go_wp2_with (first
  |(refine k8 rfl 26 (.tmp 1) rfl B0 0 rfl c0 _ Tryz.underlying26 HI0.out (HOB0.out.ext (.alloc (.refl _) _)).cells0 ?_)
  |(refine k8 rfl 52 (.tmp 3) rfl w.heap.size 0 rfl cs _ Tryz.underlying52 HI1.out (OB.new w _ _).cells0 ?_))
 refine(arY x0 o hO _ c0 cs (H0.out.ext (.alloc (.refl _) _)) (HR.out.ext (.alloc (.refl _) _))).mono ?_;rintro e w1 ⟨ci,rfl,hw1,hci⟩
 have HW1:=Lib.hid (uB.trans (.alloc (.refl w) _) hw1)
 clear hw1
 have HCI:=Lib.hid hci
 have HCL:Hid (ci.length=12):=by rw [← hci.length];rfl
 have HII:Hid ((Tryz.prog.info? 163).map (·.size)=some ci.length):=by rw [HCL.out];exact izI
 clear hci
 by_cases ht:(cJ x0 o).aBz=g.aBz
 ·have HT:=Lib.hid ht
  clear ht
  go_wp2_with (first
   |(refine sF rfl 163 (.tmp 5) (.tmp 11) rfl w1.heap.size 0 rfl ci rfl 163 _ (OB.new w1 _ _) HII.out (by rw [HCL.out];exact Nat.le_refl _) HCI.out.one ?_;intro w2 hob hgb hzb;rw [F9 (by rw [HCL.out];rfl)] at hob;have HOBI:=Lib.hid hob;have HX2:=Lib.hid (P4 (.alloc (.refl w1) _) hgb (Nat.le_refl _));clear hob hgb hzb;obtain⟨e0,e1,e2,e3,e4,e5,e6,e7,e8,e9,e10,e11,rfl⟩:=anU HCL.out;obtain⟨rfl,-⟩:=HCI.out.1.leaf_eq;have HH:Hid (gJ w1 (cJ x0 o).aBH.tr [e2,e3,e4]):=(by rw [aA.tr_cs];exact⟨HCI.out.2.2.1,HCI.out.2.2.2.1,HCI.out.2.2.2.2.1,trivial⟩);have HXX:=Lib.hid (HW1.out.trans HX2.out);have hcI:w2.cell? ⟨w1.heap.size,0,none⟩=some (.string (cJ x0 o).aBz):=(by rw [HOBI.out.cell];rfl);have hcG:w2.cell? ⟨B1,0,none⟩=some (.string g.aBz):=(by rw [(HOB1.out.ext HXX.out).cell];rfl);rw [HT.out] at hcI)
   |(refine qO (by rfl) 30 (.tmp 19) rfl w1.heap.size 2 rfl [e2,e3,e4] _ Tryz.underlying30 izT (fun j v hv=>by rw [HOBI.out.cell];rcases j with _|_|_|j<;>first|(simp at hv;done)|simpa using hv) ?_)
   |(refine qO (by rfl) 30 (.tmp 21) rfl B1 1 rfl [d1,d2,d3] _ Tryz.underlying30 izT (fun j v hv=>by rw [(HOB1.out.ext HXX.out).cell];rcases j with _|_|_|j<;>first|(simp at hv;done)|simpa using hv) ?_))
  refine(anW _ _ w2 _ _ (HH.out.ext HX2.out) (HG.out.ext HXX.out) HB0.out HB1.out).mono ?_;rintro e w3 ⟨rfl,hw3⟩
  have HX3:=Lib.hid (HXX.out.trans hw3)
  clear hw3
  go_wp2_with fail
  go_ret
  refine⟨?_,HX3.out⟩
  rw [decide_eq_true HT.out]
  rfl
 ·have hne: ¬(cJ x0 o).aBz.toList=g.aBz.toList:=fun h=>ht (alI h)
  have HD:Hid (decide ((cJ x0 o).aBz=g.aBz)=false):=decide_eq_false ht
  have HT:Hid ((cJ x0 o).aBz=(cJ x0 o).aBz):=rfl
  clear ht
  go_wp2_with (first
   |(refine sF rfl 163 (.tmp 5) (.tmp 11) rfl w1.heap.size 0 rfl ci rfl 163 _ (OB.new w1 _ _) HII.out (by rw [HCL.out];exact Nat.le_refl _) HCI.out.one ?_;intro w2 hob hgb hzb;rw [F9 (by rw [HCL.out];rfl)] at hob;have HOBI:=Lib.hid hob;have HX2:=Lib.hid (P4 (.alloc (.refl w1) _) hgb (Nat.le_refl _));clear hob hgb hzb;obtain⟨e0,e1,e2,e3,e4,e5,e6,e7,e8,e9,e10,e11,rfl⟩:=anU HCL.out;obtain⟨rfl,-⟩:=HCI.out.1.leaf_eq;have HH:Hid (gJ w1 (cJ x0 o).aBH.tr [e2,e3,e4]):=(by rw [aA.tr_cs];exact⟨HCI.out.2.2.1,HCI.out.2.2.2.1,HCI.out.2.2.2.2.1,trivial⟩);have HXX:=Lib.hid (HW1.out.trans HX2.out);have hcI:w2.cell? ⟨w1.heap.size,0,none⟩=some (.string (cJ x0 o).aBz):=(by rw [HOBI.out.cell];rfl);have hcG:w2.cell? ⟨B1,0,none⟩=some (.string g.aBz):=(by rw [(HOB1.out.ext HXX.out).cell];rfl))
   |(refine qO (by rfl) 30 (.tmp 19) rfl w1.heap.size 2 rfl [e2,e3,e4] _ Tryz.underlying30 izT (fun j v hv=>by rw [HOBI.out.cell];rcases j with _|_|_|j<;>first|(simp at hv;done)|simpa using hv) ?_)
   |(refine qO (by rfl) 30 (.tmp 21) rfl B1 1 rfl [d1,d2,d3] _ Tryz.underlying30 izT (fun j v hv=>by rw [(HOB1.out.ext HXX.out).cell];rcases j with _|_|_|j<;>first|(simp at hv;done)|simpa using hv) ?_))
  go_ret
  refine⟨?_,HXX.out⟩
  rw [HD.out]
  rfl
def qX(w:aH)(g:aD)(o:aF):Bool:=decide ((cJ w o).aBz=g.aBz)&&l4 (cJ w o).aBH g.aBu
set_option maxRecDepth 100000 in
set_option maxHeartbeats 2000000 in
theorem aeB(x0:aH)(g:aD)(w:World)(c0 cg:List Value)(h0:gJ w x0.tr c0)(hg:gJ w g.tr cg)(hb:(fH x0).length≤68719476736)(hB0: ∀o,uN x0 o→Tr.bulkL (cJ x0 o).aBH.tr≤68719476735)(hB1:gK g.aBu):
 Calls Tryz.prog 155 #[.agg ⟨c0⟩,.agg ⟨cg⟩] w fun e w'=> ∃v,e= .returned v∧uB w w'∧AB w' (.row 2 (aF.trs ((fH x0).filter fun o=>qX x0 g o))) v (NE w w'):=by
 have H0:=Lib.hid h0
 have HG:=Lib.hid hg
 have HB0:=Lib.hid hB0
 have HI0:Hid ((Tryz.prog.info? 26).map (·.size)=some c0.length):=by rw [← h0.length,aH.tr_len];exact arZ
 clear h0 hg hB0
 go_enter Tryz.func155,Tryz.ntmps155
 go_wp2_with (refine k8 rfl 26 (.tmp 2) rfl w.heap.size 0 rfl c0 _ Tryz.underlying26 HI0.out (Two.new w _ _ _ _).o0.cells0 ?_)
 refine(anE x0 _ c0 (H0.out.ext (.alloc (.alloc (.refl _) _) _)) hb).mono ?_;rintro e w1 ⟨v,rfl,hw1,ho1⟩
 have HW1:=Lib.hid hw1
 have HO1:=Lib.hid ho1
 clear hw1 ho1
 go_wp2_with fail
 refine(UR (fH x0) (fun o=> !qX x0 g o) 181 #[.pointer (some ⟨w.heap.size,0,none⟩),.pointer (some ⟨w.heap.size+1,0,none⟩)] (hH Tryz.func181 (by kernel_rfl) (by kernel_rfl)) v w1 (NE ((w.alloc _).alloc _) w1) (fun x hx=>hx.2) (fun o ho cs W hW hr=>by
  have hx:=NF.ext HW1.out hW (fun x hx=>hx.1)
  exact aeA x0 g c0 cg w.heap.size (w.heap.size+1) o cs W ((Two.new w _ _ _ _).o0.ext hx) ((Two.new w _ _ _ _).o1.ext hx) (H0.out.ext (uB.trans (.alloc (.alloc (.refl _) _) _) hx)) (HG.out.ext (uB.trans (.alloc (.alloc (.refl _) _) _) hx)) hr (T6 ho) (HB0.out o (T6 ho)) hB1) (by rw [← aF.trs_map];exact HO1.out)).mono ?_
 rintro e w2 ⟨v2,rfl,hc2,ho2⟩
 have hx2:=NF.ext HW1.out hc2 (fun x hx=>hx.1)
 have HX2:=Lib.hid (uB.trans (.alloc (.alloc (.refl _) _) _) hx2)
 have hz:w1.heap.size≤w2.heap.size:=hc2.size
 have HO2:=Lib.hid ho2
 clear hc2 hx2 ho2
 go_wp2_with fail
 go_ret
 refine⟨_,rfl,HX2.out,?_⟩
 rw [aF.trs_map]
 have ho:=HO2.out
 simp only [Bool.not_not] at ho
 exact ho.mono fun x hx=>⟨by have h1:=hx.1;simp only [World.size_alloc] at h1;omega,by have h1:=hx.2;omega⟩
theorem alQ(w:aH)(g:aD)(hw:wt w≤13000000)(hg:gK g.aBu):bQ Tryz.prog 155 [(aH.pv w),(aD.pv g)] (cZ ((fH w).filter fun o=>qX w g o)):=
 bQ.ofFresh rfl fun W vals hv=>by
  match vals,hv with
  | [v0,v1],hv=>
   obtain⟨c0,rfl,h0⟩:=hv.1
   obtain⟨c1,rfl,h1⟩:=hv.2.1
   exact aeB w g W c0 c1 (f6.ofTr (ts:=w.tr) (by rw [aH.tr_cs];exact h0)) (f6.ofTr (ts:=g.tr) (by rw [aD.tr_cs];exact h1)) (Nat.le_trans (UM hw) (by decide)) (fun o ho=>Nat.le_trans (akJ hw ho) (by decide)) hg
end Go.Proofs.YtfcoaagbccmahaaGreat.W

namespace Go.Proofs.YtfcoaagbccmahaaGreat.W
set_option maxRecDepth 100000
set_option maxHeartbeats 40000000
noncomputable section
open Tryz Go.RowKit Go.Proofs
attribute [local irreducible] lt
def SG(fu:Nat)(pt:aA):Option Bool:=bd (nN fu pt) fun x2=>sw (decide ((x2.length:Int)=0)) (bd (dM fu pt) fun x5=>some (!(x5))) (some false)
theorem abR(fu:Nat)(pt:aA)(r:Bool)(H:SG fu pt=some r):bQ Tryz.prog 34 [(aA.pv pt)] (pB r):=by
 refine qJ func34 H (fun C hC H=>?_)
 refine gQ 2 ?_;refine q1 (fE (b9 pt)) ?_;refine gQ 4 ?_;refine q1 (b6 [pI pt.aBw,pS pt.aBs,aU pt.aBt]) (bM H fun x2 z1 H=>(q1 (bI func85 (B4 fu pt _ z1)) ?_))
 refine gQ 3 ?_;refine dL 7 H (fun g3 H=>?_) fun g3 H=>?_
 ·refine qg g3 (b6 [pI pt.aBw,pS pt.aBs,aU pt.aBt]) (bM H fun x5 z4 H=>(qg g3 (bI func86 (u5 fu pt _ z4)) ?_))
  exact gE 4
 exact gE 6
def DI(fu:Nat)(ps:LB)(pv:ByteArray):Nat→Unit→Option (LR Unit Int):=fun i1 _=>sw (decide (pv=aT ps i1)) (some (.ret (i1:Int))) (some (.next ()))
def s4(fu:Nat)(ps:LB)(pv:ByteArray):Option Int:=so (loopN (DI fu ps pv) (ps.length-0) 0 ()) fun _=>some (-1)
theorem P3(fu:Nat)(ps:LB)(pv:ByteArray)(r:Int)(H:s4 fu ps pv=some r):bQ Tryz.prog 213 [rS ps,pS pv] (pI r):=by
 refine qJ func213 H (fun C hC H=>?_)
 refine gQ 11 ?_;refine fS 0 (b0 _) (fun hl2=>?_)
 refine bU (σ:=Unit) (fun i1 _=>⟨[(0,rS ps),(1,pS pv),(4,pI 0),(7,pN ps.length),(8,pN i1)],⟨[],[]⟩⟩) (fun _=>⟨[(4,pI 0)],⟨[],[]⟩⟩) (eJ H) ?_ ?_
 ·rintro i1 ⟨⟩ H
  refine gQ 5 ?_;refine cT H (fun h3 h3l H=>?_) (fun h3 H=>?_)
  ·refine gQ 17 ?_;refine bF H (fun h4 H=>gE 5) fun h4 H=>?_;exact gE 5
  exact gE 0
 rintro⟨⟩ H
 exact gE 4
def lT(fu:Nat)(ps:LB)(pv:ByteArray):Option Bool:=bd (s4 fu ps pv) fun x2=>some (decide (x2≥0))
theorem yW(fu:Nat)(ps:LB)(pv:ByteArray)(r:Bool)(H:lT fu ps pv=some r):bQ Tryz.prog 195 [rS ps,pS pv] (pB r):=by
 refine qJ func195 H (fun C hC H=>?_)
 refine gQ 8 ?_;refine bM H fun x2 z1 H=>(q1 (bI func213 (P3 fu ps pv _ z1)) ?_)
 exact gE 3
def rQ(fu:Nat)(pu:aA)(c1:LB):Option ((LB)):=sw (decide (pu.aBw=1)) (bd (lT fu c1 pu.aBs) fun x3=>sw (!(x3)) (gd ((c1).length+(([pu.aBs]:LB)).length≤68719476736) (some (c1++([pu.aBs]:LB)))) (some c1)) (some c1)
theorem OJ(fu:Nat)(pu:aA)(c1:LB)(r:(LB))(H:rQ fu pu c1=some r):cB Tryz.prog 194 [(aA.pv pu),.ptr 0 0] ⟨[some ⟨36,[aS c1 0]⟩],[⟨9,1,aY (c1),false⟩]⟩ (fun q t=>q=(.tup [])∧t=⟨[some ⟨36,[aS r 0]⟩],[⟨9,1,aY (r),false⟩]⟩):=by
 refine qJ func194 H (fun C hC H=>?_)
 refine gQ 2 ?_;refine q1 (fE (b9 pu)) ?_;refine gQ 7 ?_;refine dL 6 H (fun g1 H=>?_) fun g1 H=>?_
 ·refine gQ 3 ?_;refine bM H fun x3 z2 H=>(qg g1 (bI func195 (yW fu c1 pu.aBs _ z2)) ?_)
  refine gQ 3 ?_;refine bF H (fun h4 H=>?_) (fun h4 H=>?_)
  ·refine gQ 4 ?_;refine q1 (fY ([pu.aBs]:LB)) (cA H fun z5 H=>(q1 (jO z5) ?_))
   refine gQ 2 ?_
   cases s3 H
   exact qe (ps:= []) ⟨rfl,rfl⟩ trivial
  refine cO.skip ?_
  cases s3 H
  exact qe (ps:= []) ⟨rfl,rfl⟩ trivial
 refine gQ 9 ?_
 cases s3 H
 exact qe (ps:= []) ⟨rfl,rfl⟩ trivial
abbrev iS:=aA→(LB)→Option ((LB))
def iR(m:iS):Prop:= ∀(pt:aA) (c1_0:LB) (r:(LB)),m pt c1_0=some r→cB Tryz.prog 93 [(aA.pv pt),.fn 194 [.ptr 0 0]] ⟨[some ⟨36,[aS c1_0 0]⟩],[⟨9,1,aY (c1_0),false⟩]⟩ (fun q t=>q=(.tup []:PV)∧t=⟨[some ⟨36,[aS r 0]⟩],[⟨9,1,aY (r),false⟩]⟩)
def o3(fu:Nat)(p1:iS)(pt:aA)(c1_0 x2:LB):Nat→((LB))→Option (LR ((LB)) ((LB))):=fun i3 v5=>bd (p1 (aT pt.aBt i3) v5) fun x9=>some (.next x9)
def lG(fu:Nat)(p1:iS)(pt:aA)(c1_0:LB):Option ((LB)):=bd (rQ fu pt c1_0) fun x2=>so (loopN (o3 fu p1 pt c1_0 x2) (pt.aBt.length-0) 0 x2) fun v5=>some v5
theorem vV(fu:Nat)(p1:iS)(p3:iR p1):iR (lG fu p1):=by
 intro pt c1_0 r H
 refine qJ func93 H (fun C hC H=>?_)
 refine gQ 2 ?_;refine q1 (fE (b9 pt)) ?_;refine gQ 4 ?_;refine q1 (b6 [pI pt.aBw,pS pt.aBs,aU pt.aBt]) (bM H fun x2 z1 H=>(q1 (bD.callVPE (pre:=⟨[some ⟨36,[aS c1_0 0]⟩],[⟨9,1,aY (c1_0),false⟩]⟩) (st':=⟨[some ⟨36,[aS x2 0]⟩],[⟨9,1,aY (x2),false⟩]⟩) (ps:= [_]) (cs:= [.ptr 0 0]) (qs:= [(aA.pv pt),.ptr 0 0]) [0] [0] rfl rfl rfl func194 (by kernel_rfl) rfl rfl rfl (eH.of ⟨⟨_,rfl,rfl,iX,rfl⟩,trivial⟩ ⟨rfl,trivial⟩ (by decide) (by decide)) iX rfl rfl rfl (OJ fu pt c1_0 _ z1)) ?_))
 refine gQ 8 ?_;refine fS 10 (aA.trs_len _) (fun hl6=>?_)
 refine bU (σ:=(LB)) (fun i3 v5=>⟨[(1,.fn 194 [.ptr 0 0]),(10,aU pt.aBt),(11,pN pt.aBt.length),(12,pN i3)],⟨[some ⟨36,[aS v5 0]⟩,some ⟨30,b9 pt⟩],[⟨9,1,aY (v5),false⟩]⟩⟩) (fun v5=>⟨[],⟨[some ⟨36,[aS v5 0]⟩,some ⟨30,b9 pt⟩],[⟨9,1,aY (v5),false⟩]⟩⟩) (eJ H) ?_ ?_
 ·rintro i3 v5 H
  refine gQ 5 ?_;refine cT H (fun h7 h7l H=>?_) (fun h7 H=>?_)
  ·refine gQ 6 ?_;refine q1 (gS (aA.cs (aT pt.aBt i3))) ?_;refine gQ 4 ?_;refine q1 (b6 [pI ((aT pt.aBt i3).aBw),pS ((aT pt.aBt i3).aBs),aU ((aT pt.aBt i3).aBt)]) (q1 bH (bM H fun x9 z8 H=>(q1 (fD [0] [0] func93 (p3 (aT pt.aBt i3) v5 _ z8)) ?_)))
   exact gE 5
  exact gE 0
 rintro v5 H
 cases s3 H
 exact qe (ps:= []) ⟨rfl,rfl⟩ trivial
def cX:Nat→aA→(LB)→Option ((LB))
 |0,_,_=>none
 |fu+1,pt,c1_0=>lG fu (cX fu) pt c1_0
theorem xI(fu:Nat):iR (cX fu):=by
 induction fu with
 |zero=>exact(fun pt c1_0 r H=>by simp only [cX] at H;cases H)
 |succ fu ih=>exact(fun pt c1_0 r H=>by simp only [cX] at H;exact vV fu (cX fu) ih pt c1_0 r H)
theorem yC(fu:Nat):iR (cX fu):=(xI fu)
def GE(fu:Nat)(p4:List aA):Nat→((LB))→Option (LR ((LB)) ((LB))):=fun i1 v3=>bd (cX fu (aT p4 i1) v3) fun x7=>some (.next x7)
def AO(fu:Nat)(p4:List aA):Option ((LB)):=so (loopN (GE fu p4) (p4.length-0) 0 ([])) fun v3=>some v3
theorem TB(fu:Nat)(p4:List aA)(r:(LB))(H:AO fu p4=some r):bQ Tryz.prog 169 [aU p4] (rS r):=by
 refine qJ func169 H (fun C hC H=>?_)
 refine gQ 6 ?_;refine q1 (nU ([]:LB)) ?_;refine gQ 10 ?_;refine fS 0 (aA.trs_len _) (fun hl4=>?_)
 refine bU (σ:=(LB)) (fun i1 v3=>⟨[(2,.nil),(3,.ptr 0 0),(7,aU p4),(8,pN p4.length),(9,pN i1)],⟨[some ⟨36,[aS v3 0]⟩],[⟨9,1,aY (v3),false⟩]⟩⟩) (fun v3=>⟨[(2,.nil),(3,.ptr 0 0)],⟨[some ⟨36,[aS v3 0]⟩],[⟨9,1,aY (v3),false⟩]⟩⟩) (eJ H) ?_ ?_
 ·rintro i1 v3 H
  refine gQ 5 ?_;refine cT H (fun h5 h5l H=>?_) (fun h5 H=>?_)
  ·refine gQ 6 ?_;refine q1 (gS (aA.cs (aT p4 i1))) ?_;refine gQ 4 ?_;refine q1 (b6 [pI ((aT p4 i1).aBw),pS ((aT p4 i1).aBs),aU ((aT p4 i1).aBt)]) (q1 rMf (bM H fun x7 z6 H=>(q1 (fD [0] [0] func93 (yC fu (aT p4 i1) v3 _ z6)) ?_)))
   exact gE 5
  exact gE 0
 rintro v3 H
 exact gE 5
def rO(fu:Nat)(pt:aA):Option ((LB)):=bd (AO fu ([pt]:List aA)) fun x2=>some x2
theorem OC(fu:Nat)(pt:aA)(r:(LB))(H:rO fu pt=some r):bQ Tryz.prog 133 [(aA.pv pt)] (rS r):=by
 refine qJ func133 H (fun C hC H=>?_)
 refine gQ 2 ?_;refine q1 (fE (b9 pt)) ?_;refine gQ 4 ?_;refine q1 (b6 [pI pt.aBw,pS pt.aBs,aU pt.aBt]) (q1 (fY ([pt]:List aA)) (bM H fun x2 z1 H=>(q1 (bI func169 (TB fu ([pt]:List aA) _ z1)) ?_)))
 exact gE 2
def nY(fu:Nat)(pu:aA)(c1:Bool):Option Bool:=sw (c1) (some true) (some (decide (pu.aBw=3)))
theorem J4(fu:Nat)(pu:aA)(c1:Bool)(r:Bool)(H:nY fu pu c1=some r):cB Tryz.prog 94 [(aA.pv pu),.ptr 0 0] ⟨[some ⟨4,[pB c1]⟩],[]⟩ (fun q t=>q=(.tup [])∧t=⟨[some ⟨4,[pB r]⟩],[]⟩):=by
 refine qJ func94 H (fun C hC H=>?_)
 refine gQ 2 ?_;refine q1 (fE (b9 pu)) ?_;refine gQ 4 ?_;refine dL 4 H (fun g1 H=>?_) fun g1 H=>?_
 ·refine gQ 6 ?_
  cases s3 H
  exact qe (ps:= []) ⟨rfl,rfl⟩ trivial
 refine gQ 6 ?_
 cases s3 H
 exact qe (ps:= []) ⟨rfl,rfl⟩ trivial
abbrev gZ:=aA→Bool→Option Bool
def gY(m:gZ):Prop:= ∀(pt:aA) (c1_0:Bool) (r:Bool),m pt c1_0=some r→cB Tryz.prog 93 [(aA.pv pt),.fn 94 [.ptr 0 0]] ⟨[some ⟨4,[pB c1_0]⟩],[]⟩ (fun q t=>q=(.tup []:PV)∧t=⟨[some ⟨4,[pB r]⟩],[]⟩)
def nG(fu:Nat)(p0:gZ)(pt:aA)(c1_0 x2:Bool):Nat→Bool→Option (LR Bool Bool):=fun i3 v4=>bd (p0 (aT pt.aBt i3) v4) fun x8=>some (.next x8)
def kL(fu:Nat)(p0:gZ)(pt:aA)(c1_0:Bool):Option Bool:=bd (nY fu pt c1_0) fun x2=>so (loopN (nG fu p0 pt c1_0 x2) (pt.aBt.length-0) 0 x2) fun v4=>some v4
theorem uM(fu:Nat)(p0:gZ)(p2:gY p0):gY (kL fu p0):=by
 intro pt c1_0 r H
 refine qJ func93 H (fun C hC H=>?_)
 refine gQ 2 ?_;refine q1 (fE (b9 pt)) ?_;refine gQ 4 ?_;refine q1 (b6 [pI pt.aBw,pS pt.aBs,aU pt.aBt]) (bM H fun x2 z1 H=>(q1 (bD.callVPE (pre:=⟨[some ⟨4,[pB c1_0]⟩],[]⟩) (st':=⟨[some ⟨4,[pB x2]⟩],[]⟩) (ps:= [_]) (cs:= [.ptr 0 0]) (qs:= [(aA.pv pt),.ptr 0 0]) [0] [] rfl rfl rfl func94 (by kernel_rfl) rfl rfl rfl (eH.of ⟨⟨_,rfl,rfl,iX,rfl⟩,trivial⟩ trivial (by decide) (by decide)) iX rfl rfl rfl (J4 fu pt c1_0 _ z1)) ?_))
 refine gQ 8 ?_;refine fS 10 (aA.trs_len _) (fun hl5=>?_)
 refine bU (σ:=Bool) (fun i3 v4=>⟨[(1,.fn 94 [.ptr 0 0]),(10,aU pt.aBt),(11,pN pt.aBt.length),(12,pN i3)],⟨[some ⟨4,[pB v4]⟩,some ⟨30,b9 pt⟩],[]⟩⟩) (fun v4=>⟨[],⟨[some ⟨4,[pB v4]⟩,some ⟨30,b9 pt⟩],[]⟩⟩) (eJ H) ?_ ?_
 ·rintro i3 v4 H
  refine gQ 5 ?_;refine cT H (fun h6 h6l H=>?_) (fun h6 H=>?_)
  ·refine gQ 6 ?_;refine q1 (gS (aA.cs (aT pt.aBt i3))) ?_;refine gQ 4 ?_;refine q1 (b6 [pI ((aT pt.aBt i3).aBw),pS ((aT pt.aBt i3).aBs),aU ((aT pt.aBt i3).aBt)]) (q1 bH (bM H fun x8 z7 H=>(q1 (fD [0] [] func93 (p2 (aT pt.aBt i3) v4 _ z7)) ?_)))
   exact gE 5
  exact gE 0
 rintro v4 H
 cases s3 H
 exact qe (ps:= []) ⟨rfl,rfl⟩ trivial
def cM:Nat→aA→Bool→Option Bool
 |0,_,_=>none
 |fu+1,pt,c1_0=>kL fu (cM fu) pt c1_0
theorem vG(fu:Nat):gY (cM fu):=by
 induction fu with
 |zero=>exact(fun pt c1_0 r H=>by simp only [cM] at H;cases H)
 |succ fu ih=>exact(fun pt c1_0 r H=>by simp only [cM] at H;exact uM fu (cM fu) ih pt c1_0 r H)
theorem vU(fu:Nat):gY (cM fu):=(vG fu)
def vS(fu:Nat)(pt:aA):Option Bool:=bd (cM fu pt false) fun x2=>some x2
theorem N6(fu:Nat)(pt:aA)(r:Bool)(H:vS fu pt=some r):bQ Tryz.prog 39 [(aA.pv pt)] (pB r):=by
 refine qJ func39 H (fun C hC H=>?_)
 refine gQ 2 ?_;refine q1 (fE (b9 pt)) ?_;refine gQ 9 ?_;refine q1 (b6 [pI pt.aBw,pS pt.aBs,aU pt.aBt]) (q1 rMf (bM H fun x2 z1 H=>(q1 (fD [1] [] func93 (vU fu pt false _ z1)) ?_)))
 exact gE 6
def R9(fu:Nat)(pt:aA):Option Bool:=bd (rO fu pt) fun x2=>sw (decide ((x2.length:Int)=0)) (bd (vS fu pt) fun x5=>some (!(x5))) (some false)
theorem aa6(fu:Nat)(pt:aA)(r:Bool)(H:R9 fu pt=some r):bQ Tryz.prog 78 [(aA.pv pt)] (pB r):=by
 refine qJ func78 H (fun C hC H=>?_)
 refine gQ 2 ?_;refine q1 (fE (b9 pt)) ?_;refine gQ 4 ?_;refine q1 (b6 [pI pt.aBw,pS pt.aBs,aU pt.aBt]) (bM H fun x2 z1 H=>(q1 (bI func133 (OC fu pt _ z1)) ?_))
 refine gQ 3 ?_;refine dL 7 H (fun g3 H=>?_) fun g3 H=>?_
 ·refine qg g3 (b6 [pI pt.aBw,pS pt.aBs,aU pt.aBt]) (bM H fun x5 z4 H=>(qg g3 (bI func39 (N6 fu pt _ z4)) ?_))
  exact gE 4
 exact gE 6
def mM(fu:Nat)(pa pb:aA):Option Bool:=gd (Tr.bulkL (aA.tr pb)≤68719476735) (gd (gK pa) (some (l4 pb pa)))
theorem vK(fu:Nat)(pa:aA)(pb:aA)(r:Bool)(H:mM fu pa pb=some r):bQ Tryz.prog 211 [(aA.pv pa),(aA.pv pb)] (pB r):=by
 refine qJ func211 H (fun C hC H=>?_)
 refine gQ 2 ?_;refine q1 (fE (b9 pa)) (q1 (fE (b9 pb)) ?_)
 refine gQ 4 ?_;refine q1 (b6 [pI pb.aBw,pS pb.aBs,aU pb.aBt]) (q1 (b6 [pI pa.aBw,pS pa.aBs,aU pa.aBt]) (cA H fun z1 H=>(cA H fun z2 H=>(q1 (bI func210 (SI pb pa z1 z2)) ?_))))
 exact gE 2
def GI(fu:Nat)(pa pb:aA):Option Bool:=bd (mM fu pa pb) fun x2=>sw x2 (bd (mM fu pb pa) fun x5=>some (!(x5))) (some false)
theorem Q3(fu:Nat)(pa:aA)(pb:aA)(r:Bool)(H:GI fu pa pb=some r):bQ Tryz.prog 186 [(aA.pv pa),(aA.pv pb)] (pB r):=by
 refine qJ func186 H (fun C hC H=>?_)
 refine gQ 2 ?_;refine q1 (fE (b9 pa)) (q1 (fE (b9 pb)) ?_)
 refine gQ 4 ?_;refine q1 (b6 [pI pa.aBw,pS pa.aBs,aU pa.aBt]) (q1 (b6 [pI pb.aBw,pS pb.aBs,aU pb.aBt]) (bM H fun x2 z1 H=>(q1 (bI func211 (vK fu pa pb _ z1)) (q1 bH ?_))))
 refine dL 8 H (fun g3 H=>?_) fun g3 H=>?_
 ·refine qg g3 (b6 [pI pb.aBw,pS pb.aBs,aU pb.aBt]) (qg g3 (b6 [pI pa.aBw,pS pa.aBs,aU pa.aBt]) (bM H fun x5 z4 H=>(qg g3 (bI func211 (vK fu pb pa _ z4)) ?_)))
  exact gE 4
 exact gE 7
def GC(fu:Nat)(pa pb:aA):Option Bool:=gd (Tr.bulkL (aA.tr pb)≤68719476735) (gd (gK pa) (sw (l4 pb pa) (gd (Tr.bulkL (aA.tr pa)≤68719476735) (gd (gK pb) (some (!(l4 pa pb))))) (some false)))
theorem P7(fu:Nat)(pa:aA)(pb:aA)(r:Bool)(H:GC fu pa pb=some r):bQ Tryz.prog 158 [(aA.pv pa),(aA.pv pb)] (pB r):=by
 refine qJ func158 H (fun C hC H=>?_)
 refine gQ 2 ?_;refine q1 (fE (b9 pa)) (q1 (fE (b9 pb)) ?_)
 refine gQ 4 ?_;refine q1 (b6 [pI pb.aBw,pS pb.aBs,aU pb.aBt]) (q1 (b6 [pI pa.aBw,pS pa.aBs,aU pa.aBt]) (cA H fun z1 H=>(cA H fun z2 H=>(q1 (bI func182 (G9 pb pa z1 z2)) (q1 bH ?_)))))
 refine dL 8 H (fun g3 H=>?_) fun g3 H=>?_
 ·refine qg g3 (b6 [pI pa.aBw,pS pa.aBs,aU pa.aBt]) (qg g3 (b6 [pI pb.aBw,pS pb.aBs,aU pb.aBt]) (cA H fun z4 H=>(cA H fun z5 H=>(qg g3 (bI func182 (G9 pa pb z4 z5)) ?_))))
  exact gE 4
 exact gE 7
end
end Go.Proofs.YtfcoaagbccmahaaGreat.W

namespace Go.Proofs.YtfcoaagbccmahaaGreat.W
attribute [local irreducible] lt
open Go.RowKit Go.WalkArith
theorem aeD{α:Type}{p:α→Bool}: ∀l:List α,(l.find? p).isSome=l.any p
 | []=>rfl
 |a::l=>by
  rw [List.find?_cons,List.any_cons]
  cases p a with
  |true=>rfl
  |false=>exact aeD l
theorem akU{α:Type}{p:α→Bool}{l:List α}{m:Option (Bool⊕Unit)}{f:Unit→Option Bool}(hm:m=some (match l.find? p with|some _=> .inl true|none=> .inr ())){b:Bool}(hf:f ()=some b):so m f=some (l.any p||b):=by
 have h:=aeD (p:=p) l
 cases hq:l.find? p with
 |none=>
  rw [hq] at hm h
  rw [← h]
  exact UA hm hf
 |some x=>
  rw [hq] at hm h
  rw [← h]
  exact soL hm
def uI(l:LB)(s:ByteArray):Bool:=l.any fun x=>decide (x=s)
theorem Z8(fu:Nat)(l:LB)(s:ByteArray):lC fu l s=some (uI l s):=by
 unfold lC
 rw [akU (l:=l) (p:=fun x=>decide (x=s)) (b:=false) ?_ rfl,Bool.or_false]
 ·rfl
 ·exact mJ (p:=fun x=>decide (x=s)) (r:=fun _=>true) (fun i hi=>by unfold Z7;cases decide (aT l i=s)<;>rfl)
theorem NT(fu:Nat)(l:LB)(s:ByteArray):lT fu l s=some (uI l s):=by
 have h1:s4 fu l s=some (match l.findIdx? (fun x=>decide (s=x)) with|some i=>((i:Nat):Int)|none=> -1):=by
  unfold s4
  rw [rF (l:=l) (p:=fun x=>decide (s=x)) fun i hi=>by
   unfold DI
   cases decide (s=aT l i)<;>rfl]
  cases l.findIdx? fun x=>decide (s=x)<;>rfl
 have h2:(fun x=>decide (s=x))=fun x=>decide (x=s):=funext fun x=>decide_eq_decide.2 ⟨Eq.symm,Eq.symm⟩
 unfold lT
 refine hY h1 (congrArg some ?_)
 refine P8.trans ?_
 rw [h2]
 rfl
def zO(k:Int)(n:ByteArray)(o:LB):LB:=if k=1 then(bif uI o n then o else o++ [n]) else o
mutual
def vsO:aA→LB→LB
 | .mk k n xs,o=>ag5 xs (zO k n o)
def ag5:List aA→LB→LB
 | [],o=>o
 |x::r,o=>ag5 r (vsO x o)
end
theorem R0: ∀(xs:List aA) (o:LB),ag5 xs o=xs.foldl (fun s x=>vsO x s) o
 | [],o=>rfl
 |x::r,o=>by rw [ag5,List.foldl_cons,R0 r]
theorem ZZ: ∀(l U:LB),l.Nodup→(∀x∈l,x∈U)→l.length≤U.length
 | [],U,_,_=>by simp
 |a::l,U,hn,h=>by
  rw [List.nodup_cons] at hn
  have ha:a∈U:=h a (by simp)
  have h1:=ZZ l (U.filter fun x=> !decide (x=a)) hn.2 fun x hx=>List.mem_filter.2 ⟨h x (List.mem_cons_of_mem _ hx),by
   have:x≠a:=fun e=>hn.1 (e ▸ hx)
   simp [this]⟩
  have h2:(U.filter fun x=> !decide (x=a)).length<U.length:=List.length_filter_lt_length_iff_exists.2 ⟨a,ha,by simp⟩
  rw [List.length_cons]
  omega
def InU(U o:LB):Prop:=o.Nodup∧ ∀x∈o,x∈U
theorem ao4{o:LB}{n:ByteArray}(h:uI o n=false):n∉o:=fun hn=>by
 have:uI o n=true:=List.any_eq_true.2 ⟨n,hn,decide_eq_true rfl⟩
 rw [h] at this
 cases this
theorem InU.snoc{U o:LB}{n:ByteArray}(h:InU U o)(hn:n∈U)(hh:uI o n=false):InU U (o++ [n]):=by
 refine⟨List.nodup_append.2 ⟨h.1,by simp,fun a ha b hb e=>ao4 hh ?_⟩,fun x hx=>?_⟩
 ·rw [List.mem_singleton.1 hb] at e
  exact e ▸ ha
 ·rcases List.mem_append.1 hx with h1|h1
  ·exact h.2 x h1
  ·rw [List.mem_singleton.1 h1];exact hn
theorem InU.room{U o:LB}{n:ByteArray}(h:InU U o)(hn:n∈U)(hh:uI o n=false)(hU:U.length≤68719476736):o.length+1≤68719476736:=by
 have h1:=h.snoc hn hh
 have:=ZZ _ _ h1.1 h1.2
 simp only [List.length_append,List.length_singleton] at this
 omega
theorem NA{U:LB}{k:Int}{n:ByteArray}{o:LB}(hn:k=1→n∈U)(h:InU U o):InU U (zO k n o):=by
 unfold zO
 split
 ·cases hq:uI o n with
  |true=>exact h
  |false=>exact h.snoc (hn ‹_›) hq
 ·exact h
theorem aaI{U:LB}: ∀(xs:List aA),(∀x∈xs,∀o,Gd U x→InU U o→InU U (vsO x o))→GdL U xs→ ∀o,InU U o→InU U (ag5 xs o)
 | [],_,_,o,h=>h
 |x::r,hx,hg,o,h=>by
  rw [GdL] at hg
  rw [ag5]
  exact aaI r (fun y hy=>hx y (List.mem_cons_of_mem _ hy)) hg.2 _ (hx x (by simp) o hg.1 h)
theorem aoQ{U:LB}: ∀(t:aA) (o:LB),Gd U t→InU U o→InU U (vsO t o):=by
 refine aA.ind fun k n xs ih o hg h=>?_
 rw [Gd] at hg
 rw [vsO]
 exact aaI xs ih hg.2.2 _ (NA hg.1 h)
theorem ajW: ∀t:aA,bS fun fu=> ∀U o:LB,U.length≤68719476736→Gd U t→InU U o→lQ fu t o=some (vsO t o):=by
 refine aA.ind fun k n xs ih=>?_;refine bS.succ ((bS.list ih).imp fun fu hf U o hU hg ho=>?_)
 have hg':=hg
 rw [Gd] at hg'
 simp only [lQ,JU]
 have hC:M7 fu (lQ fu) (.mk k n xs) o=some (.inr (zO k n o)):=by
  unfold M7 zO
  simp only [aA.aBw.eq_1,aA.aBs.eq_1]
  by_cases hk:k=1
  ·rw [if_pos hk]
   refine kS (by simp [hk]) (hY (Z8 fu o n) ?_)
   cases hq:uI o n with
   |true=>exact jA rfl rfl
   |false=>exact kS rfl (fT (ho.room (hg'.1 hk) hq hU) rfl)
  ·rw [if_neg hk]
   exact jA (by simp [hk]) rfl
 have hl:=NA hg'.1 ho
 refine UA hC (UA (s:=ag5 xs (zO k n o)) ?_ rfl)
 simp only [aA.aBt.eq_1]
 rw [kM (l:=xs) (g:=fun s x=>vsO x s) (fun i s=>InU U s) (fun i s hi hp=>?_) hl,R0]
 refine⟨?_,?_⟩
 ·unfold W9
  simp only [aA.aBt.eq_1]
  exact hY (hf _ (cE hi) U s hU (wZ.1 hg'.2.2 _ (cE hi)) hp) rfl
 ·exact aoQ _ s (wZ.1 hg'.2.2 _ (cE hi)) hp
theorem abC: ∀t:aA,bS fun fu=> ∀U o:LB,U.length≤68719476736→Gd U t→InU U o→cX fu t o=some (vsO t o):=by
 refine aA.ind fun k n xs ih=>?_;refine bS.succ ((bS.list ih).imp fun fu hf U o hU hg ho=>?_)
 have hg':=hg
 rw [Gd] at hg'
 simp only [cX,lG]
 have hC:rQ fu (.mk k n xs) o=some (zO k n o):=by
  unfold rQ zO
  simp only [aA.aBw.eq_1,aA.aBs.eq_1]
  by_cases hk:k=1
  ·rw [if_pos hk]
   refine kS (by simp [hk]) (hY (NT fu o n) ?_)
   cases hq:uI o n with
   |true=>exact jA rfl rfl
   |false=>exact kS rfl (fT (ho.room (hg'.1 hk) hq hU) rfl)
  ·rw [if_neg hk]
   exact jA (by simp [hk]) rfl
 have hl:=NA hg'.1 ho
 refine hY hC (UA (s:=ag5 xs (zO k n o)) ?_ rfl)
 simp only [aA.aBt.eq_1]
 rw [kM (l:=xs) (g:=fun s x=>vsO x s) (fun i s=>InU U s) (fun i s hi hp=>?_) hl,R0]
 refine⟨?_,?_⟩
 ·unfold o3
  simp only [aA.aBt.eq_1]
  exact hY (hf _ (cE hi) U s hU (wZ.1 hg'.2.2 _ (cE hi)) hp) rfl
 ·exact aoQ _ s (wZ.1 hg'.2.2 _ (cE hi)) hp
mutual
def hpT:aA→Bool
 | .mk k _ xs=>ao5 xs||decide (k=3)
def ao5:List aA→Bool
 | []=>false
 |x::r=>hpT x||ao5 r
end
theorem UW: ∀xs:List aA,ao5 xs=xs.any hpT
 | []=>rfl
 |x::r=>by rw [ao5,UW r,List.any_cons]
theorem afF: ∀t:aA,bS fun fu=>dM fu t=some (hpT t):=by
 refine aA.ind fun k n xs ih=>?_;refine bS.succ ((bS.list ih).imp fun fu hf=>?_)
 simp only [dM,rX]
 rw [akU (l:=xs) (p:=hpT) (b:=decide (k=3)) ?_ rfl,← UW]
 ·rfl
 ·simp only [aA.aBt.eq_1]
  exact mJ (p:=hpT) (r:=fun _=>true) (fun i hi=>by
   unfold BU
   simp only [aA.aBt.eq_1]
   refine hY (hf _ (cE hi)) ?_
   cases hpT (aT xs i)<;>rfl)
theorem akN{α:Type}(p:α→Bool): ∀(l:List α) (b:Bool),l.foldl (fun b x=>b||p x) b=(b||l.any p)
 | [],b=>by simp
 |a::l,b=>by rw [List.foldl_cons,akN p l,List.any_cons,Bool.or_assoc]
theorem X2: ∀t:aA,bS fun fu=> ∀c:Bool,cM fu t c=some (c||hpT t):=by
 refine aA.ind fun k n xs ih=>?_;refine bS.succ ((bS.list ih).imp fun fu hf c=>?_)
 simp only [cM,kL]
 have hC:nY fu (.mk k n xs) c=some (c||decide (k=3)):=by
  unfold nY
  simp only [aA.aBw.eq_1]
  cases c<;>rfl
 refine hY hC (UA (s:=((c||decide (k=3))||xs.any hpT)) ?_ ?_)
 ·simp only [aA.aBt.eq_1]
  rw [kM (l:=xs) (g:=fun s x=>s||hpT x) (fun _ _=>True) (fun i s hi _=>⟨?_,trivial⟩) trivial,akN]
  unfold nG
  simp only [aA.aBt.eq_1]
  exact hY (hf _ (cE hi) s) rfl
 ·rw [hpT,UW]
  cases c<;>cases decide (k=3)<;>simp
def iQ(t:aA):Bool:=decide ((((vsO t []).length:Nat):Int)=0)&& !hpT t
theorem FK(t:aA)(hb:gK t):bQ Tryz.prog 34 [(aA.pv t)] (.t (.leaf (.bool (iQ t)))):=by
 obtain⟨U,hU,hg⟩:=hb
 obtain⟨fu,h1,h2⟩:=((ajW t).and (afF t)).get
 refine abR fu t _ ?_
 unfold SG nN iQ
 refine hY (hY (h1 U [] hU hg ⟨List.nodup_nil,fun x hx=>by simp at hx⟩) rfl) ?_
 cases hd:decide ((((vsO t []).length:Nat):Int)=0) with
 |true=>exact kS rfl (hY h2 rfl)
 |false=>exact jA rfl rfl
theorem N7(t:aA)(hb:gK t):bQ Tryz.prog 78 [(aA.pv t)] (.t (.leaf (.bool (iQ t)))):=by
 obtain⟨U,hU,hg⟩:=hb
 obtain⟨fu,h1,h2⟩:=((abC t).and (X2 t)).get
 refine aa6 fu t _ ?_
 have hv:rO fu t=some (vsO t []):=by
  unfold rO AO
  refine hY (UA (s:=vsO t []) ?_ rfl) rfl
  rw [kM (l:= [t]) (g:=fun s x=>vsO x s) (fun i s=>i=0→s= []) (fun i s hi hp=>?_) (fun _=>rfl)]
  ·rfl
  ·obtain rfl:i=0:=by simp only [List.length_cons,List.length_nil] at hi;omega
   obtain rfl:=hp rfl
   refine⟨?_,fun h=>by omega⟩
   unfold GE
   exact hY (h1 U [] hU hg ⟨List.nodup_nil,fun x hx=>by simp at hx⟩) rfl
 unfold R9 iQ vS
 refine hY hv ?_
 cases hd:decide ((((vsO t []).length:Nat):Int)=0) with
 |true=>exact kS rfl (hY (hY (h2 false) rfl) (by simp))
 |false=>exact jA rfl rfl
def EA(a b:aA):Bool:=l4 b a&& !l4 a b
theorem Q0(a b:aA)(ha:Tr.bulkL (aA.tr a)≤68719476735)(hb:Tr.bulkL (aA.tr b)≤68719476735):bQ Tryz.prog 186 [(aA.pv a),(aA.pv b)] (.t (.leaf (.bool (EA a b)))):=by
 refine Q3 0 a b _ ?_
 unfold GI mM EA
 refine hY (fT hb (fT (.of ha) rfl)) ?_
 cases hd:l4 b a with
 |true=>exact kS rfl (hY (fT ha (fT (.of hb) rfl)) rfl)
 |false=>exact jA rfl rfl
theorem P6(a b:aA)(ha:Tr.bulkL (aA.tr a)≤68719476735)(hb:Tr.bulkL (aA.tr b)≤68719476735):bQ Tryz.prog 158 [(aA.pv a),(aA.pv b)] (.t (.leaf (.bool (EA a b)))):=by
 refine P7 0 a b _ ?_
 unfold GC EA
 refine fT hb (fT (.of ha) ?_)
 cases hd:l4 b a with
 |true=>exact kS rfl (fT ha (fT (.of hb) rfl))
 |false=>exact jA rfl rfl
end Go.Proofs.YtfcoaagbccmahaaGreat.W

namespace Go.Proofs.YtfcoaagbccmahaaGreat.W
set_option maxRecDepth 100000
set_option maxHeartbeats 40000000
noncomputable section
open Tryz Go.RowKit Go.Proofs
attribute [local irreducible] lt
def n5(fu:Nat)(pw:aH)(pg:aD)(x2:List aF):Nat→((List aF))→Option (LR ((List aF)) ((List aF))):=fun i3 v5=>gd (0≤(aT x2 i3).aBD∧((aT x2 i3).aBD).toNat<(pw.aBr).length) (lt (aT pw.aBr (((aT x2 i3).aBD).toNat)) fun y9=>gd (0≤(aT x2 i3).aBS∧((aT x2 i3).aBS).toNat<(y9.aBE).length) (lt (aT y9.aBE (((aT x2 i3).aBS).toNat)) fun y12=>sw (decide (y12.aBz=pg.aBz)) (gd (Tr.bulkL (aA.tr y12.aBH)≤68719476735) (gd (gK pg.aBu) (sw (l4 y12.aBH pg.aBu) (gd ((v5).length+(([(aT x2 i3)]:List aF)).length≤68719476736) (some (.next (v5++([(aT x2 i3)]:List aF))))) (some (.next v5))))) (some (.next v5))))
def lZ(fu:Nat)(pw:aH)(pg:aD):Option ((List aF)):=bd (s8 fu pw) fun x2=>so (loopN (n5 fu pw pg x2) (x2.length-0) 0 ([])) fun v5=>some v5
theorem FH(fu:Nat)(pw:aH)(pg:aD)(r:(List aF))(H:lZ fu pw pg=some r):bQ Tryz.prog 185 [(aH.pv pw),(aD.pv pg)] (cZ r):=by
 refine qJ func185 H (fun C hC H=>?_)
 refine gQ 2 ?_;refine q1 (fE ([aR pw.aBr])) (q1 (fE (cH pg)) ?_)
 refine gQ 4 ?_;refine q1 (nU ([]:List aF)) ?_;refine gQ 4 ?_;refine q1 (b6 [aR pw.aBr]) (bM H fun x2 z1 H=>(q1 (bI func209 (QT fu pw _ z1)) ?_))
 refine gQ 7 ?_;refine fS 6 (aF.trs_len _) (fun hl6=>?_)
 refine bU (σ:=(List aF)) (fun i3 v5=>⟨[(2,.ptr 0 0),(3,.ptr 1 0),(4,.nil),(5,fU v5 0),(6,cZ x2),(7,pN i3)],⟨[some ⟨26,[aR pw.aBr]⟩,some ⟨32,cH pg⟩],[⟨52,2,aF.trs (v5),false⟩]⟩⟩) (fun v5=>⟨[(4,.nil),(5,fU v5 0)],⟨[some ⟨26,[aR pw.aBr]⟩,some ⟨32,cH pg⟩],[⟨52,2,aF.trs (v5),false⟩]⟩⟩) (eJ H) ?_ ?_
 ·rintro i3 v5 H
  refine gQ 8 ?_;refine cT H (fun h7 h7l H=>?_) (fun h7 H=>?_)
  ·refine gQ 4 ?_;refine cA H fun z8 H=>(fZ H fun y9 h10 H=>(cA H fun z11 H=>(fZ H fun y12 h13 H=>(dW (dI [2] bZ (dB [18] 0 1 sM (dI [6] bH (dI [7] bH (dI [20,21] m9 (dI [22] wX (dI [23] vE (dI [19,24] (rIm h10 z8 alJ.h) (dI [25] wX ?_)))))))))))))
   refine dI [26] vE (dI [6] bH (dI [7] bH (dI [28,29] m9 (dI [30] wX (dI [31] vE (dI [27,32] (rIm h13 z11 aeC.h) (dI [33] (gS (aL.cs y12)) (dE [] tAl (iY [8,34] hM (dN ?_))))))))))
   refine gQ 8 ?_;refine dL 40 H (fun g14 H=>?_) fun g14 H=>?_
   ·refine qg g14 bZ (qg g14 (b6 [pI y12.aBH.aBw,pS y12.aBH.aBs,aU y12.aBH.aBt]) (qg g14 bZ (qg g14 (b6 [pI pg.aBu.aBw,pS pg.aBu.aBs,aU pg.aBu.aBt]) (cA H fun z15 H=>(cA H fun z16 H=>(qg g14 (bI func210 (SI y12.aBH pg.aBu z15 z16)) ?_))))))
    refine gQ 2 ?_;refine bF H (fun h17 H=>?_) (fun h17 H=>?_)
    ·refine gQ 5 ?_;refine q1 (gS (aF.cs (aT x2 i3))) (q1 (fY ([(aT x2 i3)]:List aF)) (cA H fun z18 H=>(q1 (jO z18) ?_)))
     exact gE 7
    exact gE 6
   exact gE 14
  exact gE 0
 rintro v5 H
 exact gE 5
def A2(fu:Nat)(p2:aH)(p1:aD)(x2:List aF)(i3:Nat)(y7:aN)(y10:aL):Nat→Bool→Option (LR Bool (LR Unit (aF×Int))):=fun i12 v13=>gd (0≤(aT x2 i12).aBD∧((aT x2 i12).aBD).toNat<(p2.aBr).length) (lt (aT p2.aBr (((aT x2 i12).aBD).toNat)) fun y16=>gd (0≤(aT x2 i12).aBS∧((aT x2 i12).aBS).toNat<(y16.aBE).length) (lt (aT y16.aBE (((aT x2 i12).aBS).toNat)) fun y19=>sw (v13) (gd (Tr.bulkL (aA.tr y19.aBH)≤68719476735) (gd (Tr.bulkL (aA.tr y10.aBH)≤68719476735) (some (.next (!(EA y19.aBH y10.aBH)))))) (some (.next false))))
def tS(fu:Nat)(p2:aH)(p1:aD)(x2:List aF)(i3:Nat)(y7:aN)(y10:aL):Option ((LR Unit (aF×Int))⊕Bool):=loopN (A2 fu p2 p1 x2 i3 y7 y10) (x2.length-0) 0 true
def A0(fu:Nat)(p2:aH)(p1:aD)(x2:List aF)(i3:Nat)(y7:aN)(y10:aL)(v13:Bool):Option ((LR Unit (aF×Int))⊕(Bool×Bool×Bool)):=sw (v13) (sw (y10.aBX) (gd (gK p1.aBu) (sw (!(iQ p1.aBu)) (some (.inl (.ret ((aF.mk 0 0),2)))) (some (.inr (y10.aBX,y10.aBX,(!(iQ p1.aBu))))))) (some (.inr (y10.aBX,y10.aBX,false)))) (some (.inr (false,false,false)))
def A1(fu:Nat)(p2:aH)(p1:aD)(x2:List aF):Nat→Unit→Option (LR Unit (aF×Int)):=fun i3 _=>gd (0≤(aT x2 i3).aBD∧((aT x2 i3).aBD).toNat<(p2.aBr).length) (lt (aT p2.aBr (((aT x2 i3).aBD).toNat)) fun y7=>gd (0≤(aT x2 i3).aBS∧((aT x2 i3).aBS).toNat<(y7.aBE).length) (lt (aT y7.aBE (((aT x2 i3).aBS).toNat)) fun y10=>so (tS fu p2 p1 x2 i3 y7 y10) fun v13=>so (A0 fu p2 p1 x2 i3 y7 y10 v13) fun(v24,v25,v26)=>sw (v13) (some (.ret ((aT x2 i3),0))) (some (.next ()))))
def qM(fu:Nat)(p2:aH)(p1:aD):Option (aF×Int):=bd (lZ fu p2 p1) fun x2=>so (loopN (A1 fu p2 p1 x2) (x2.length-0) 0 ()) fun _=>some ((aF.mk 0 0),1)
theorem MM(fu:Nat)(p2:aH)(p1:aD)(r:aF×Int)(H:qM fu p2 p1=some r):bQ Tryz.prog 160 [(aH.pv p2),(aD.pv p1)] (.tup [(aF.pv r.1),pI r.2]):=by
 refine qJ func160 H (fun C hC H=>?_)
 refine gQ 2 ?_;refine q1 (fE ([aR p2.aBr])) (q1 (fE (cH p1)) ?_)
 refine gQ 5 ?_;refine q1 (b6 [aR p2.aBr]) (q1 (b6 [pS p1.aBz,pI p1.aBu.aBw,pS p1.aBu.aBs,aU p1.aBu.aBt]) (bM H fun x2 z1 H=>(q1 (bI func185 (FH fu p2 p1 _ z1)) ?_)))
 refine gQ 7 ?_;refine fS 6 (aF.trs_len _) (fun hl4=>?_)
 refine bU (σ:=Unit) (fun i3 _=>⟨[(2,.ptr 0 0),(3,.ptr 1 0),(4,.ptr 2 0),(5,pI 0),(6,cZ x2),(7,pN i3)],⟨[some ⟨26,[aR p2.aBr]⟩,some ⟨32,cH p1⟩,some ⟨52,[pI 0,pI 0]⟩],[]⟩⟩) (fun _=>⟨[(4,.ptr 2 0),(5,pI 0)],⟨[some ⟨26,[aR p2.aBr]⟩,some ⟨32,cH p1⟩,some ⟨52,[pI 0,pI 0]⟩],[]⟩⟩) (eJ H) ?_ ?_
 ·rintro i3 ⟨⟩ H
  refine gQ 8 ?_;refine cT H (fun h5 h5l H=>?_) (fun h5 H=>?_)
  ·refine gQ 4 ?_;refine cA H fun z6 H=>(fZ H fun y7 h8 H=>(cA H fun z9 H=>(fZ H fun y10 h11 H=>(dW (dI [2] bZ (dB [21] 0 1 sM (dI [6] bH (dI [7] bH (dI [23,24] m9 (dI [25] wX (dI [26] vE (dI [22,27] (rIm h8 z6 alJ.h) (dI [28] wX ?_)))))))))))))
   refine dI [29] vE (dI [6] bH (dI [7] bH (dI [31,32] m9 (dI [33] wX (dI [34] vE (dI [30,35] (rIm h11 z9 aeC.h) (dI [36] (gS (aL.cs y10)) (dE [] tAl (iY [8,37] hM (dN ?_))))))))))
   refine gQ 9 ?_;refine bU (σ:=Bool) (fun i12 v13=>⟨[(2,.ptr 0 0),(3,.ptr 1 0),(4,.ptr 2 0),(5,pI 0),(6,cZ x2),(7,pN i3),(8,.ptr 3 0),(9,pB v13),(10,pN i12),(15,pN i3),(16,cZ x2),(17,pN x2.length),(18,pB (decide ((i3:Int)<(x2.length:Int)))),(21,.ptr 0 0),(22,aR p2.aBr),(23,cZ x2),(24,pN i3),(25,.eptr (aF.cs (aT x2 i3))),(26,.eptr (aF.cs (aT x2 i3))),(27,pI ((aT x2 i3).aBD)),(28,.eptr (aN.cs y7)),(29,.eptr ((aN.cs y7).drop 4)),(30,nK y7.aBE),(31,cZ x2),(32,pN i3),(33,.eptr (aF.cs (aT x2 i3))),(34,.eptr ((aF.cs (aT x2 i3)).drop 1)),(35,pI ((aT x2 i3).aBS)),(36,.eptr (aL.cs y10)),(37,(aL.pv y10))],⟨[some ⟨26,[aR p2.aBr]⟩,some ⟨32,cH p1⟩,some ⟨52,[pI 0,pI 0]⟩,some ⟨163,dU y10⟩],[]⟩⟩) (fun v13=>⟨[(2,.ptr 0 0),(3,.ptr 1 0),(4,.ptr 2 0),(5,pI 0),(6,cZ x2),(7,pN i3),(8,.ptr 3 0),(9,pB v13),(15,pN i3),(16,cZ x2),(17,pN x2.length),(18,pB (decide ((i3:Int)<(x2.length:Int)))),(21,.ptr 0 0),(22,aR p2.aBr),(23,cZ x2),(24,pN i3),(25,.eptr (aF.cs (aT x2 i3))),(26,.eptr (aF.cs (aT x2 i3))),(27,pI ((aT x2 i3).aBD)),(28,.eptr (aN.cs y7)),(29,.eptr ((aN.cs y7).drop 4)),(30,nK y7.aBE),(31,cZ x2),(32,pN i3),(33,.eptr (aF.cs (aT x2 i3))),(34,.eptr ((aF.cs (aT x2 i3)).drop 1)),(35,pI ((aT x2 i3).aBS)),(36,.eptr (aL.cs y10)),(37,(aL.pv y10))],⟨[some ⟨26,[aR p2.aBr]⟩,some ⟨32,cH p1⟩,some ⟨52,[pI 0,pI 0]⟩,some ⟨163,dU y10⟩],[]⟩⟩) (eJ H) ?_ ?_
   ·rintro i12 v13 H
    refine gQ 8 ?_;refine cT H (fun h14 h14l H=>?_) (fun h14 H=>?_)
    ·refine gQ 4 ?_;refine cA H fun z15 H=>(fZ H fun y16 h17 H=>(cA H fun z18 H=>(fZ H fun y19 h20 H=>(dW (dI [2] bZ (dB [44] 0 1 sM (dI [6] bH (dI [10] bH (dI [46,47] m9 (dI [48] wX (dI [49] vE (dI [45,50] (rIm h17 z15 alJ.h) (dI [51] wX ?_)))))))))))))
     refine dI [52] vE (dI [6] bH (dI [10] bH (dI [54,55] m9 (dI [56] wX (dI [57] vE (dI [53,58] (rIm h20 z18 aeC.h) (dI [59] (gS (aL.cs y19)) (dE [] tAl (iY [11,60] hM (dN ?_))))))))))
     refine gQ 3 ?_;refine dL 62 H (fun g21 H=>?_) fun g21 H=>?_
     ·refine qg g21 bZ (qg g21 (b6 [pI y19.aBH.aBw,pS y19.aBH.aBs,aU y19.aBH.aBt]) (qg g21 bZ (qg g21 (b6 [pI y10.aBH.aBw,pS y10.aBH.aBs,aU y10.aBH.aBt]) (cA H fun z22 H=>(cA H fun z23 H=>(qg g21 (bI func186 (Q0 y19.aBH y10.aBH z22 z23)) ?_))))))
      exact gE 9
     exact gE 14
    exact gE 0
   rintro v13 H
   refine qS ?_;refine nW (σ:=Bool×Bool×Bool) (fun(v24,v25,v26)=>⟨[(2,.ptr 0 0),(3,.ptr 1 0),(4,.ptr 2 0),(5,pI 0),(6,cZ x2),(7,pN i3),(8,.ptr 3 0),(9,pB v13),(15,pN i3),(16,cZ x2),(17,pN x2.length),(18,pB (decide ((i3:Int)<(x2.length:Int)))),(21,.ptr 0 0),(22,aR p2.aBr),(23,cZ x2),(24,pN i3),(25,.eptr (aF.cs (aT x2 i3))),(26,.eptr (aF.cs (aT x2 i3))),(27,pI ((aT x2 i3).aBD)),(28,.eptr (aN.cs y7)),(29,.eptr ((aN.cs y7).drop 4)),(30,nK y7.aBE),(31,cZ x2),(32,pN i3),(33,.eptr (aF.cs (aT x2 i3))),(34,.eptr ((aF.cs (aT x2 i3)).drop 1)),(35,pI ((aT x2 i3).aBS)),(36,.eptr (aL.cs y10)),(37,(aL.pv y10)),(70,pB v13),(71,pB v13),(74,pB v24),(75,pB v25),(80,pB v26)],⟨[some ⟨26,[aR p2.aBr]⟩,some ⟨32,cH p1⟩,some ⟨52,[pI 0,pI 0]⟩,some ⟨163,dU y10⟩],[]⟩⟩) (eJ H) (fun H=>?_) ?_
   ·refine gQ 4 ?_;refine dL 71 H (fun g27 H=>?_) fun g27 H=>?_
    ·refine gQ 4 ?_;refine dL 75 H (fun g28 H=>?_) fun g28 H=>?_
     ·refine qg g28 bZ (qg g28 (b6 [pI p1.aBu.aBw,pS p1.aBu.aBs,aU p1.aBu.aBt]) (cA H fun z29 H=>(qg g28 (bI func34 (FK p1.aBu z29)) ?_)))
      refine gQ 3 ?_;refine bF H (fun h30 H=>?_) (fun h30 H=>?_)
      ·refine gQ 6 ?_;refine cO.ret ?_
       obtain rfl:_=r:=(lkR (skL (s3 H)):)
       exact qf2
      exact gE 1
     exact gE 8
    exact gE 12
   rintro⟨v24,v25,v26⟩ H
   refine gQ 4 ?_;refine bF H (fun h31 H=>?_) (fun h31 H=>?_)
   ·refine gQ 5 ?_;refine q1 (gS (aF.cs (aT x2 i3))) ?_;exact gE 3
   exact gE 6
  exact gE 0
 rintro⟨⟩ H
 exact gE 6
def sL(fu:Nat)(p0:aF)(c1:aH)(c2:aL):Option Bool:=bd (tZ fu c1 p0) fun(x2,x3)=>gd (Tr.bulkL (aA.tr x2.aBH)≤68719476735) (gd (Tr.bulkL (aA.tr c2.aBH)≤68719476735) (some (EA x2.aBH c2.aBH)))
theorem HB(fu:Nat)(p0:aF)(c1:aH)(c2:aL)(r:Bool)(H:sL fu p0 c1 c2=some r):cB Tryz.prog 157 [(aF.pv p0),.ptr 0 0,.ptr 1 0] ⟨[some ⟨26,[aR c1.aBr]⟩,some ⟨163,dU c2⟩],[]⟩ (fun q t=>q=(pB r)∧t=⟨[some ⟨26,[aR c1.aBr]⟩,some ⟨163,dU c2⟩],[]⟩):=by
 refine qJ func157 H (fun C hC H=>?_)
 refine gQ 2 ?_;refine q1 (fE ([pI p0.aBD,pI p0.aBS])) ?_;refine gQ 4 ?_;refine q1 (b6 [aR c1.aBr]) (q1 (b6 [pI p0.aBD,pI p0.aBS]) (eF H fun x2 x3 z1 H=>(q1 (bI func118 (zC fu c1 p0 _ z1)) ?_)))
 refine gQ 10 ?_;refine q1 (b6 [pI x2.aBH.aBw,pS x2.aBH.aBs,aU x2.aBH.aBt]) (q1 bZ (q1 (b6 [pI c2.aBH.aBw,pS c2.aBH.aBs,aU c2.aBH.aBt]) (cA H fun z4 H=>(cA H fun z5 H=>(q1 (bI func158 (P6 x2.aBH c2.aBH z4 z5)) ?_)))))
 exact gE 2
def iG(fu:Nat)(ps:List aF)(c1_0:aH)(c1_1:aL):Nat→Unit→Option (LR Unit Int):=fun i1 _=>bd (sL fu (aT ps i1) c1_0 c1_1) fun x5=>sw x5 (some (.ret (i1:Int))) (some (.next ()))
def dP(fu:Nat)(ps:List aF)(c1_0:aH)(c1_1:aL):Option Int:=so (loopN (iG fu ps c1_0 c1_1) (ps.length-0) 0 ()) fun _=>some (-1)
theorem nD(fu:Nat)(ps:List aF)(c1_0:aH)(c1_1:aL)(r:Int)(H:dP fu ps c1_0 c1_1=some r):cB Tryz.prog 183 [cZ ps,.fn 157 [.ptr 0 0,.ptr 1 0]] ⟨[some ⟨26,[aR c1_0.aBr]⟩,some ⟨163,dU c1_1⟩],[]⟩ (fun q t=>q=(pI r)∧t=⟨[some ⟨26,[aR c1_0.aBr]⟩,some ⟨163,dU c1_1⟩],[]⟩):=by
 refine qJ func183 H (fun C hC H=>?_)
 refine gQ 11 ?_;refine fS 0 (aF.trs_len _) (fun hl2=>?_)
 refine bU (σ:=Unit) (fun i1 _=>⟨[(0,cZ ps),(1,.fn 157 [.ptr 0 0,.ptr 1 0]),(4,pI 0),(7,pN ps.length),(8,pN i1)],⟨[some ⟨26,[aR c1_0.aBr]⟩,some ⟨163,dU c1_1⟩],[]⟩⟩) (fun _=>⟨[(4,pI 0)],⟨[some ⟨26,[aR c1_0.aBr]⟩,some ⟨163,dU c1_1⟩],[]⟩⟩) (eJ H) ?_ ?_
 ·rintro i1 ⟨⟩ H
  refine gQ 5 ?_;refine cT H (fun h3 h3l H=>?_) (fun h3 H=>?_)
  ·refine gQ 14 ?_;refine q1 (gS (aF.cs (aT ps i1))) (bM H fun x5 z4 H=>(q1 (bD.callVPE (pre:=⟨[some ⟨26,[aR c1_0.aBr]⟩,some ⟨163,dU c1_1⟩],[]⟩) (st':=⟨[some ⟨26,[aR c1_0.aBr]⟩,some ⟨163,dU c1_1⟩],[]⟩) (ps:= [_]) (cs:= [.ptr 0 0,.ptr 1 0]) (qs:= [(aF.pv (aT ps i1)),.ptr 0 0,.ptr 1 0]) [0,1] [] rfl rfl rfl func157 (by kernel_rfl) rfl rfl rfl (eH.of ⟨⟨_,rfl,rfl,iX,rfl⟩,⟨⟨_,rfl,rfl,iX,rfl⟩,trivial⟩⟩ trivial (by decide) (by decide)) iX rfl rfl rfl (HB fu (aT ps i1) c1_0 c1_1 _ z4)) (qN ?_)))
   refine bF H (fun h6 H=>gE 5) fun h6 H=>?_;exact gE 5
  exact gE 0
 rintro⟨⟩ H
 exact gE 4
def cN(fu:Nat)(ps:List aF)(c1_0:aH)(c1_1:aL):Option Bool:=bd (dP fu ps c1_0 c1_1) fun x2=>some (decide (x2≥0))
theorem mD(fu:Nat)(ps:List aF)(c1_0:aH)(c1_1:aL)(r:Bool)(H:cN fu ps c1_0 c1_1=some r):cB Tryz.prog 156 [cZ ps,.fn 157 [.ptr 0 0,.ptr 1 0]] ⟨[some ⟨26,[aR c1_0.aBr]⟩,some ⟨163,dU c1_1⟩],[]⟩ (fun q t=>q=(pB r)∧t=⟨[some ⟨26,[aR c1_0.aBr]⟩,some ⟨163,dU c1_1⟩],[]⟩):=by
 refine qJ func156 H (fun C hC H=>?_)
 refine gQ 8 ?_;refine bM H fun x2 z1 H=>(q1 (fD [0,1] [] func183 (nD fu ps c1_0 c1_1 _ z1)) ?_)
 exact gE 3
def AK(fu:Nat)(pw:aH)(pg:aD):Nat→Unit→Option (LR Unit (aF×Int)):=fun i3 _=>lt (aT (List.filter (fun o=>qX pw pg o) (fH pw)) i3) fun y6=>bd (tZ fu pw y6) fun(x9,x10)=>bd (cN fu (List.filter (fun o=>qX pw pg o) (fH pw)) pw x9) fun x12=>sw x12 (some (.next ())) (sw (x9.aBX) (gd (gK pg.aBu) (sw (!(iQ pg.aBu)) (some (.ret ((aF.mk 0 0),2))) (some (.ret (y6,0))))) (some (.ret (y6,0))))
def qG(fu:Nat)(pw:aH)(pg:aD):Option (aF×Int):=gd (wt pw≤13000000) (gd (gK (aD.aBu pg)) (so (loopN (AK fu pw pg) ((List.filter (fun o=>qX pw pg o) (fH pw)).length-0) 0 ()) fun _=>some ((aF.mk 0 0),1)))
theorem LU(fu:Nat)(pw:aH)(pg:aD)(r:aF×Int)(H:qG fu pw pg=some r):bQ Tryz.prog 117 [(aH.pv pw),(aD.pv pg)] (.tup [(aF.pv r.1),pI r.2]):=by
 refine qJ func117 H (fun C hC H=>?_)
 refine gQ 2 ?_;refine q1 (fE ([aR pw.aBr])) (q1 (fE (cH pg)) ?_)
 refine gQ 5 ?_;refine q1 (b6 [aR pw.aBr]) (q1 (b6 [pS pg.aBz,pI pg.aBu.aBw,pS pg.aBu.aBs,aU pg.aBu.aBt]) (cA H fun z1 H=>(cA H fun z2 H=>(q1 (bI func155 (alQ pw pg z1 z2)) ?_))))
 refine gQ 9 ?_;refine fS 6 (aF.trs_len _) (fun hl4=>?_)
 refine bU (σ:=Unit) (fun i3 _=>⟨[(2,.ptr 0 0),(3,.ptr 1 0),(4,.ptr 2 0),(5,pI 0),(6,cZ (List.filter (fun o=>qX pw pg o) (fH pw))),(15,cZ (List.filter (fun o=>qX pw pg o) (fH pw))),(16,pN ((List.filter (fun o=>qX pw pg o) (fH pw)).length)),(17,pN i3)],⟨[some ⟨26,[aR pw.aBr]⟩,some ⟨32,cH pg⟩,some ⟨52,[pI 0,pI 0]⟩],[]⟩⟩) (fun _=>⟨[(4,.ptr 2 0),(5,pI 0)],⟨[some ⟨26,[aR pw.aBr]⟩,some ⟨32,cH pg⟩,some ⟨52,[pI 0,pI 0]⟩],[]⟩⟩) (eJ H) ?_ ?_
 ·rintro i3 ⟨⟩ H
  refine gQ 5 ?_;refine cT H (fun h5 h5l H=>?_) (fun h5 H=>?_)
  ·refine gQ 5 ?_;refine fZ H fun y6 h7 H=>(q1 (xW h7 h5l) (q1 (gS (aF.cs y6)) ?_))
   refine gQ 5 ?_;refine q1 (b6 [aR pw.aBr]) (q1 (b6 [pI y6.aBD,pI y6.aBS]) (eF H fun x9 x10 z8 H=>(q1 (bI func118 (zC fu pw y6 _ z8)) ?_)))
   refine gQ 10 ?_;refine q1 rMf (bM H fun x12 z11 H=>(q1 (fD [0,4] [] func156 (mD fu (List.filter (fun o=>qX pw pg o) (fH pw)) pw x9 _ z11)) ?_))
   refine gQ 7 ?_;refine bF H (fun h13 H=>?_) (fun h13 H=>?_)
   ·refine cO.exit ?_;exact gE 4
   refine gQ 7 ?_;refine dL 33 H (fun g14 H=>?_) fun g14 H=>?_
   ·refine qg g14 bZ (qg g14 (b6 [pI pg.aBu.aBw,pS pg.aBu.aBs,aU pg.aBu.aBt]) (cA H fun z15 H=>(qg g14 (bI func78 (N7 pg.aBu z15)) ?_)))
    refine gQ 3 ?_;refine bF H (fun h16 H=>gE 6) fun h16 H=>?_;refine gQ 3 ?_;refine q1 (b6 [pI y6.aBD,pI y6.aBS]) ?_;exact gE 3
   refine gQ 10 ?_;refine q1 (b6 [pI y6.aBD,pI y6.aBS]) ?_;exact gE 3
  exact gE 0
 rintro⟨⟩ H
 exact gE 6
def BA(fu:Nat)(pc:DS):Option (aD×DS):=bd (sC fu pc ([gF,B5]:LB) 3) fun(x2,x3)=>lt (x3.after 8) fun d4=>sw (decide ((x3.below 8:Int)=0)) (bd (uA fu d4 2) fun(x8,x9)=>lt (x9.after ([bE,bE,kH,eM,eC,jM,vI]:LB).length) fun d10=>lt (x9.pick ([bE,bE,kH,eM,eC,jM,vI]:LB)) fun y12=>some ((aD.mk y12 x8),d10)) (sw (decide ((x3.below 8:Int)=1)) (bd (jH fu IA ([])) fun x16=>lt (d4.after ([bE,bE,kH,eM,eC,jM,vI]:LB).length) fun d17=>lt (d4.pick ([bE,bE,kH,eM,eC,jM,vI]:LB)) fun y19=>some ((aD.mk y19 x16),d17)) (sw (decide ((x3.below 8:Int)=2)) (lt (d4.after ([IA,eU,eE]:LB).length) fun d22=>lt (d4.pick ([IA,eU,eE]:LB)) fun y24=>bd (jH fu y24 ([])) fun x27=>bd (jH fu cV ([x27]:List aA)) fun x29=>lt (d22.after ([bE,bE,kH,eM,eC,jM,vI]:LB).length) fun d30=>lt (d22.pick ([bE,bE,kH,eM,eC,jM,vI]:LB)) fun y32=>some ((aD.mk y32 x29),d30)) (lt (d4.after ([bE,bE,kH,eM,eC,jM,vI]:LB).length) fun d34=>lt (d4.pick ([bE,bE,kH,eM,eC,jM,vI]:LB)) fun y36=>some ((aD.mk y36 x2),d34))))
theorem SQ(fu:Nat)(pc:DS)(r:aD×DS)(H:BA fu pc=some r):cB Tryz.prog 74 [.ptr 0 0] ⟨[some ⟨133,dC pc⟩],[]⟩ (fun q t=>q=((aD.pv r.1))∧t=⟨[some ⟨133,dC r.2⟩],[]⟩):=by
 refine qJ func74 H (fun C hC H=>?_)
 refine gQ 7 ?_;refine q1 (fY ([gF,B5]:LB)) (eF H fun x2 x3 z1 H=>(q1 (fD [0] [] func131 (W8 (O7 fu) pc ([gF,B5]:LB) 3 _ z1)) ?_))
 refine gQ 7 ?_;refine fZ H fun d4 h5 H=>(q1 (fD [0] [] func73 (FF h5 (fK x3 8))) ?_)
 refine gQ 7 ?_;refine bF H (fun h6 H=>?_) (fun h6 H=>?_)
 ·refine gQ 2 ?_;refine eF H fun x8 x9 z7 H=>(q1 (fD [0] [] func132 (wS (wR fu) d4 2 _ z7)) ?_)
  refine gQ 3 ?_;refine fZ H fun d10 h11 H=>(fZ H fun y12 h13 H=>(dW (dI [0] bH (dI [] (fY ([bE,bE,kH,eM,eC,jM,vI]:LB)) (dE [24,25] (fD [0] [] func48 (ND h11 h13 (fL x9 ([bE,bE,kH,eM,eC,jM,vI]:LB) (by decide)))) (dB [3] 0 1 (zN [pI x8.aBw,pS x8.aBs,aU x8.aBt]) (dI [26,27] oP (iY [2,28] hM (dN ?_)))))))))
  exact gE 0
 refine gQ 5 ?_;refine bF H (fun h14 H=>?_) (fun h14 H=>?_)
 ·refine qR (bM H fun x16 z15 H=>(q1 (bI func47 (t8 (iM fu) IA ([]) _ z15)) ?_))
  refine gQ 3 ?_;refine fZ H fun d17 h18 H=>(fZ H fun y19 h20 H=>(dW (dI [0] bH (dI [] (fY ([bE,bE,kH,eM,eC,jM,vI]:LB)) (dE [24,25] (fD [0] [] func48 (ND h18 h20 (fL d4 ([bE,bE,kH,eM,eC,jM,vI]:LB) (by decide)))) (dB [3] 0 1 (zN [pI x16.aBw,pS x16.aBs,aU x16.aBt]) (dI [26,27] oP (iY [2,28] hM (dN ?_)))))))))
  exact gE 0
 refine gQ 5 ?_;refine bF H (fun h21 H=>?_) (fun h21 H=>?_)
 ·refine gQ 2 ?_;refine q1 (fY ([IA,eU,eE]:LB)) (fZ H fun d22 h23 H=>(fZ H fun y24 h25 H=>(q1 (fD [0] [] func48 (ND h23 h25 (fL d4 ([IA,eU,eE]:LB) (by decide)))) (bM H fun x27 z26 H=>(q1 (bI func47 (t8 (iM fu) y24 ([]) _ z26)) (q1 (fY ([x27]:List aA)) (bM H fun x29 z28 H=>(q1 (bI func47 (t8 (iM fu) cV ([x27]:List aA) _ z28)) ?_))))))))
  refine gQ 3 ?_;refine fZ H fun d30 h31 H=>(fZ H fun y32 h33 H=>(dW (dI [0] bH (dI [] (fY ([bE,bE,kH,eM,eC,jM,vI]:LB)) (dE [24,25] (fD [0] [] func48 (ND h31 h33 (fL d22 ([bE,bE,kH,eM,eC,jM,vI]:LB) (by decide)))) (dB [3] 0 1 (zN [pI x29.aBw,pS x29.aBs,aU x29.aBt]) (dI [26,27] oP (iY [2,28] hM (dN ?_)))))))))
  exact gE 0
 refine gQ 2 ?_;refine fZ H fun d34 h35 H=>(fZ H fun y36 h37 H=>(dW (dI [0] bH (dI [] (fY ([bE,bE,kH,eM,eC,jM,vI]:LB)) (dE [24,25] (fD [0] [] func48 (ND h35 h37 (fL d4 ([bE,bE,kH,eM,eC,jM,vI]:LB) (by decide)))) (dB [3] 0 1 (zN [pI x2.aBw,pS x2.aBs,aU x2.aBt]) (dI [26,27] oP (iY [2,28] hM (dN ?_)))))))))
 exact gE 0
end
end Go.Proofs.YtfcoaagbccmahaaGreat.W

namespace Go.Proofs.YtfcoaagbccmahaaGreat.W
set_option maxRecDepth 20000
set_option maxHeartbeats 4000000
open Go.RowKit Go.WalkArith Go.IntWalk
attribute [local irreducible] wt wl lt
def ahP(fu:Nat):Prop:= ∀(pc:DS),Ok (BA fu pc) (fun r=>wt r.1≤100000)
theorem ah8:bS ahP:=((((bS.ge 2147483648).and qH).and kV).and dJ).imp fun fu ⟨⟨⟨hfu,qH⟩,kV⟩,dJ⟩ pc=>by
 have:=akC 3 (by decide)
 have:=akC 2 (by decide)
 have:gF.size=1:=rfl
 have:B5.size=1:=rfl
 have:=k7 gF B5
 have:=bA gF
 have:=bA B5
 refine vH (qH pc ([gF,B5]:LB) 3 bR) fun x2 x3 h1=>?_
 dsimp only at h1
 refine Ok.lt fun d4 h2=>?_;refine oC (fun g3=>?_) fun g3=>?_
 ·refine vH (kV d4 2 bR) fun x8 x9 h4=>?_
  dsimp only at h4
  have:bE.size=4:=rfl
  have:kH.size=2:=rfl
  have:eM.size=3:=rfl
  have:eC.size=3:=rfl
  have:jM.size=4:=rfl
  have:vI.size=2:=rfl
  have:=al2 bE bE kH eM eC jM vI
  have:=bA bE
  have:=bA kH
  have:=bA eM
  have:=bA eC
  have:=bA jM
  have:=bA vI
  refine Ok.lt fun d10 h5=>Ok.lt fun y12 h6=>?_
  have:=congrArg wt h6
  simp only [bA] at this
  have:y12.size≤4:=by rw [h6];exact DS.pick_size _ (by decide) (by decide)
  have:=aD.wt_mk y12 x8
  exact oS
 refine oC (fun g7=>?_) fun g7=>?_
 ·have:IA.size=3:=rfl
  have:=(aX:wl ([]:List aA)=0∧_)
  refine oB (dJ IA ([]:List aA) bR) fun x16 h8=>?_
  have:bE.size=4:=rfl
  have:kH.size=2:=rfl
  have:eM.size=3:=rfl
  have:eC.size=3:=rfl
  have:jM.size=4:=rfl
  have:vI.size=2:=rfl
  have:=al2 bE bE kH eM eC jM vI
  have:=bA bE
  have:=bA kH
  have:=bA eM
  have:=bA eC
  have:=bA jM
  have:=bA vI
  refine Ok.lt fun d17 h9=>Ok.lt fun y19 h10=>?_
  have:=congrArg wt h10
  simp only [bA] at this
  have:y19.size≤4:=by rw [h10];exact DS.pick_size _ (by decide) (by decide)
  have:=aD.wt_mk y19 x16
  exact oS
 refine oC (fun g11=>?_) fun g11=>?_
 ·have:IA.size=3:=rfl
  have:eU.size=3:=rfl
  have:eE.size=4:=rfl
  have:=GM IA eU eE
  have:=bA IA
  have:=bA eU
  have:=bA eE
  refine Ok.lt fun d22 h12=>Ok.lt fun y24 h13=>?_
  have:=congrArg wt h13
  simp only [bA] at this
  have:y24.size≤4:=by rw [h13];exact DS.pick_size _ (by decide) (by decide)
  have:=(aX:wl ([]:List aA)=0∧_)
  refine oB (dJ y24 ([]:List aA) bR) fun x27 h14=>?_
  have:cV.size=4:=rfl
  have:=cG x27
  refine oB (dJ cV ([x27]:List aA) bR) fun x29 h15=>?_
  have:bE.size=4:=rfl
  have:kH.size=2:=rfl
  have:eM.size=3:=rfl
  have:eC.size=3:=rfl
  have:jM.size=4:=rfl
  have:vI.size=2:=rfl
  have:=al2 bE bE kH eM eC jM vI
  have:=bA bE
  have:=bA kH
  have:=bA eM
  have:=bA eC
  have:=bA jM
  have:=bA vI
  refine Ok.lt fun d30 h16=>Ok.lt fun y32 h17=>?_
  have:=congrArg wt h17
  simp only [bA] at this
  have:y32.size≤4:=by rw [h17];exact DS.pick_size _ (by decide) (by decide)
  have:=aD.wt_mk y32 x29
  exact oS
 have:bE.size=4:=rfl
 have:kH.size=2:=rfl
 have:eM.size=3:=rfl
 have:eC.size=3:=rfl
 have:jM.size=4:=rfl
 have:vI.size=2:=rfl
 have:=al2 bE bE kH eM eC jM vI
 have:=bA bE
 have:=bA kH
 have:=bA eM
 have:=bA eC
 have:=bA jM
 have:=bA vI
 refine Ok.lt fun d34 h18=>Ok.lt fun y36 h19=>?_
 have:=congrArg wt h19
 simp only [bA] at this
 have:y36.size≤4:=by rw [h19];exact DS.pick_size _ (by decide) (by decide)
 have:=aD.wt_mk y36 x2
 exact oS
end Go.Proofs.YtfcoaagbccmahaaGreat.W

namespace Go.Proofs.YtfcoaagbccmahaaGreat.W
set_option maxRecDepth 100000
set_option maxHeartbeats 40000000
noncomputable section
open Tryz Go.RowKit Go.Proofs
attribute [local irreducible] lt
abbrev zM:=aH→ByteArray→(LB)→Option ((LB))
def zL(m:zM):Prop:= ∀(pw:aH) (p1:ByteArray) (p6:LB) (r:(LB)),m pw p1 p6=some r→cB Tryz.prog 112 [(aH.pv pw),pS p1,aS p6 0] ⟨[],[⟨9,1,aY (p6),false⟩]⟩ (fun q t=>q=(aS r 0:PV)∧t=⟨[],[⟨9,1,aY (r),false⟩]⟩)
def C1(fu:Nat)(p4:zM)(pw:aH)(p1:ByteArray)(p6:LB)(x2:aV)(x3:Int)(x4:Bool):Nat→((LB))→Option (LR ((LB)) ((LB))):=fun i5 v7=>bd (lC fu v7 (aT x2.aBB i5)) fun x11=>sw (!(x11)) (gd ((v7).length+(([(aT x2.aBB i5)]:LB)).length≤68719476736) (bd (p4 pw (aT x2.aBB i5) (v7++([(aT x2.aBB i5)]:LB))) fun x15=>some (.next x15))) (some (.next v7))
def FX(fu:Nat)(p4:zM)(pw:aH)(p1:ByteArray)(p6:LB):Option ((LB)):=bd (pX fu pw p1) fun(x2,x3,x4)=>so (loopN (C1 fu p4 pw p1 p6 x2 x3 x4) (x2.aBB.length-0) 0 p6) fun v7=>some v7
theorem TP(fu:Nat)(p4:zM)(pC:zL p4):zL (FX fu p4):=by
 intro pw p1 p6 r H
 refine qJ func112 H (fun C hC H=>?_)
 refine gQ 2 ?_;refine q1 (fE ([aR pw.aBr])) ?_;refine gQ 4 ?_;refine q1 (b6 [aR pw.aBr]) (q1 bH (DC H fun x2 x3 x4 z1 H=>(q1 (bI func121 (A8 fu pw p1 _ z1)) ?_)))
 refine gQ 14 ?_;refine cO.fact (cK 1 1 rfl rfl rfl (b0 _)) (fun hl8=>?_)
 try dsimp only at hl8
 refine bU (σ:=(LB)) (fun i5 v7=>⟨[(2,aS v7 0),(3,.ptr 0 0),(6,.nil),(7,.ptr 1 0),(10,pN i5)],⟨[some ⟨26,[aR pw.aBr]⟩,some ⟨156,sJ x2⟩],[⟨9,1,aY (v7),false⟩]⟩⟩) (fun v7=>⟨[(2,aS v7 0),(6,.nil)],⟨[some ⟨26,[aR pw.aBr]⟩,some ⟨156,sJ x2⟩],[⟨9,1,aY (v7),false⟩]⟩⟩) (eJ H) ?_ ?_
 ·rintro i5 v7 H
  refine gQ 9 ?_;refine cT H (fun h9 h9l H=>?_) (fun h9 H=>?_)
  ·refine gQ 11 ?_;refine bM H fun x11 z10 H=>(q1 (bI func153 (mB fu v7 (aT x2.aBB i5) _ z10)) ?_)
   refine gQ 2 ?_;refine bF H (fun h12 H=>?_) (fun h12 H=>?_)
   ·refine cA H fun z13 H=>(bM H fun x15 z14 H=>(dW (dB [3] 0 1 (zN [aR pw.aBr]) (dI [7] bZ (dB [34] 0 1 sM (dI [10] bH (dI [35,36] m9 (dI [37] vE (dI [2] bH (dI [7] bZ (dD [40] eB (dI [10] bH (dI [41,42] m9 ?_)))))))))))))
    refine dI [43] vE (dI [44] (fY ([(aT x2.aBB i5)]:LB)) (dE [39,45] (jO z13) (dE [33,38,46] (fD [] [0] func112 (pC pw (aT x2.aBB i5) (v7++([(aT x2.aBB i5)]:LB)) _ z14)) (dI [47] bH (dN ?_)))))
    exact gE 5
   exact gE 6
  exact gE 0
 rintro v7 H
 exact gE 5
def kI:Nat→aH→ByteArray→(LB)→Option ((LB))
 |0,_,_,_=>none
 |fu+1,pw,p1,p6=>FX fu (kI fu) pw p1 p6
theorem WV(fu:Nat):zL (kI fu):=by
 induction fu with
 |zero=>exact(fun pw p1 p6 r H=>by simp only [kI] at H;cases H)
 |succ fu ih=>exact(fun pw p1 p6 r H=>by simp only [kI] at H;exact TP fu (kI fu) ih pw p1 p6 r H)
theorem YW(fu:Nat):zL (kI fu):=(WV fu)
def qL(fu:Nat)(pw:aH)(p1:ByteArray):Option ((LB)):=bd (kI fu pw p1 ([])) fun x2=>some x2
theorem MG(fu:Nat)(pw:aH)(p1:ByteArray)(r:(LB))(H:qL fu pw p1=some r):bQ Tryz.prog 57 [(aH.pv pw),pS p1] (rS r):=by
 refine qJ func57 H (fun C hC H=>?_)
 refine gQ 2 ?_;refine q1 (fE ([aR pw.aBr])) ?_;refine gQ 4 ?_;refine q1 (b6 [aR pw.aBr]) (q1 bH (q1 (nU ([]:LB)) (bM H fun x2 z1 H=>(q1 (fD [] [0] func112 (YW fu pw p1 ([]) _ z1)) ?_))))
 exact gE 2
abbrev uP:=aH→(LB)→ByteArray→Option ((LB))
def uO(m:uP):Prop:= ∀(pw:aH) (p6:LB) (p1:ByteArray) (r:(LB)),m pw p6 p1=some r→cB Tryz.prog 178 [(aH.pv pw),aS p6 0,pS p1] ⟨[],[⟨9,1,aY (p6),false⟩]⟩ (fun q t=>q=(aS r 0:PV)∧t=⟨[],[⟨9,1,aY (r),false⟩]⟩)
def yD(fu:Nat)(p2:uP)(pw:aH)(p6:LB)(p1:ByteArray)(x2:aV)(x3:Int)(x4:Bool):Nat→((LB))→Option (LR ((LB)) ((LB))):=fun i5 v7=>bd (lT fu v7 (aT x2.aBB i5)) fun x11=>sw (!(x11)) (gd ((v7).length+(([(aT x2.aBB i5)]:LB)).length≤68719476736) (bd (p2 pw (v7++([(aT x2.aBB i5)]:LB)) (aT x2.aBB i5)) fun x15=>some (.next x15))) (some (.next v7))
def AN(fu:Nat)(p2:uP)(pw:aH)(p6:LB)(p1:ByteArray):Option ((LB)):=bd (D4 fu pw p1) fun(x2,x3,x4)=>so (loopN (yD fu p2 pw p6 p1 x2 x3 x4) (x2.aBB.length-0) 0 p6) fun v7=>some v7
theorem OI(fu:Nat)(p2:uP)(pA:uO p2):uO (AN fu p2):=by
 intro pw p6 p1 r H
 refine qJ func178 H (fun C hC H=>?_)
 refine gQ 2 ?_;refine q1 (fE ([aR pw.aBr])) ?_;refine gQ 4 ?_;refine q1 (b6 [aR pw.aBr]) (q1 bH (DC H fun x2 x3 x4 z1 H=>(q1 (bI func115 (QD fu pw p1 _ z1)) ?_)))
 refine gQ 17 ?_;refine fS 20 (b0 _) (fun hl8=>?_)
 try dsimp only at hl8
 refine bU (σ:=(LB)) (fun i5 v7=>⟨[(1,aS v7 0),(3,.ptr 0 0),(6,.nil),(20,rS x2.aBB),(21,pN x2.aBB.length),(22,pN i5)],⟨[some ⟨26,[aR pw.aBr]⟩,some ⟨156,sJ x2⟩],[⟨9,1,aY (v7),false⟩]⟩⟩) (fun v7=>⟨[(1,aS v7 0),(6,.nil)],⟨[some ⟨26,[aR pw.aBr]⟩,some ⟨156,sJ x2⟩],[⟨9,1,aY (v7),false⟩]⟩⟩) (eJ H) ?_ ?_
 ·rintro i5 v7 H
  refine gQ 5 ?_;refine cT H (fun h9 h9l H=>?_) (fun h9 H=>?_)
  ·refine gQ 13 ?_;refine bM H fun x11 z10 H=>(q1 (bI func195 (yW fu v7 (aT x2.aBB i5) _ z10)) ?_)
   refine gQ 2 ?_;refine bF H (fun h12 H=>?_) (fun h12 H=>?_)
   ·refine cA H fun z13 H=>(bM H fun x15 z14 H=>(dW (dB [3] 0 1 (zN [aR pw.aBr]) (dI [1] bH (dI [11] bH (dI [32] (fY ([(aT x2.aBB i5)]:LB)) (dE [31,33] (jO z13) (dI [11] bH (dE [30,34,35] (fD [] [0] func178 (pA pw (v7++([(aT x2.aBB i5)]:LB)) (aT x2.aBB i5) _ z14)) (dI [36] bH (dN ?_)))))))))))
    exact gE 4
   exact gE 5
  exact gE 0
 rintro v7 H
 exact gE 5
def hZ:Nat→aH→(LB)→ByteArray→Option ((LB))
 |0,_,_,_=>none
 |fu+1,pw,p6,p1=>AN fu (hZ fu) pw p6 p1
theorem P9(fu:Nat):uO (hZ fu):=by
 induction fu with
 |zero=>exact(fun pw p6 p1 r H=>by simp only [hZ] at H;cases H)
 |succ fu ih=>exact(fun pw p6 p1 r H=>by simp only [hZ] at H;exact OI fu (hZ fu) ih pw p6 p1 r H)
theorem TA(fu:Nat):uO (hZ fu):=(P9 fu)
def qF(fu:Nat)(pw:aH)(p1:ByteArray):Option ((LB)):=bd (hZ fu pw ([]) p1) fun x2=>some x2
theorem LT(fu:Nat)(pw:aH)(p1:ByteArray)(r:(LB))(H:qF fu pw p1=some r):bQ Tryz.prog 147 [(aH.pv pw),pS p1] (rS r):=by
 refine qJ func147 H (fun C hC H=>?_)
 refine gQ 2 ?_;refine q1 (fE ([aR pw.aBr])) ?_;refine gQ 4 ?_;refine q1 (b6 [aR pw.aBr]) (q1 bH (bM H fun x2 z1 H=>(q1 (bD.callF (res:=rS x2) (ps:= [_,_,_]) (qs:= [(aH.pv pw),.nil,pS p1]) rfl rfl func178 (by kernel_rfl) rfl rfl iX rfl rfl (cB.regNil (l1:= [(aH.pv pw)]) (l2:= [pS p1]) (E:=9) (sz:=1) (q:=rS x2) (by decide) (TA fu pw ([]) p1 _ z1) iX rfl)) ?_)))
 exact gE 2
abbrev xS:=aH→ByteArray→ByteArray→Int→Option ((List Int)×Bool)
def CD(m:xS):Prop:= ∀(pw:aH) (p0:ByteArray) (p9:ByteArray) (p7:Int) (r:(List Int)×Bool),m pw p0 p9 p7=some r→bQ Tryz.prog 113 [(aH.pv pw),pS p0,pS p9,pI p7] (.tup [rI r.1,pB r.2]:PV)
def zK(fu:Nat)(p3:xS)(pw:aH)(p0 p9:ByteArray)(p7:Int)(x3:aV)(x4:Int)(x5:Bool):Nat→Unit→Option (LR Unit ((List Int)×Bool)):=fun i6 _=>sw (decide (p7>0)) (bd (p3 pw (aT x3.aBB i6) p9 (aZ (p7-1))) fun(x11,x12)=>sw x12 (gd ((([(i6:Int)]:List Int)).length+x11.length≤68719476736) (some (.ret ((([(i6:Int)]:List Int)++x11),true)))) (some (.next ()))) (some (.brk ()))
def vC(fu:Nat)(p3:xS)(pw:aH)(p0 p9:ByteArray)(p7:Int)(x3:aV)(x4:Int)(x5:Bool):Option (((List Int)×Bool)⊕Unit):=loopN (zK fu p3 pw p0 p9 p7 x3 x4 x5) (x3.aBB.length-0) 0 ()
def CC(fu:Nat)(p3:xS)(pw:aH)(p0 p9:ByteArray)(p7:Int):Option ((List Int)×Bool):=sw (decide (p0=p9)) (some (([]),true)) (bd (pX fu pw p0) fun(x3,x4,x5)=>so (vC fu p3 pw p0 p9 p7 x3 x4 x5) fun _=>some (([]),false))
theorem WU(fu:Nat)(p3:xS)(pD:CD p3):CD (CC fu p3):=by
 intro pw p0 p9 p7 r H
 refine qJ func113 H (fun C hC H=>?_)
 refine gQ 2 ?_;refine q1 (fE ([aR pw.aBr])) ?_;refine gQ 10 ?_;refine bF H (fun h1 H=>?_) (fun h1 H=>?_)
 ·refine gQ 2 ?_;refine q1 (nU ([]:List Int)) ?_;exact gE 3
 refine gQ 3 ?_;refine q1 (b6 [aR pw.aBr]) (q1 bH (DC H fun x3 x4 x5 z2 H=>(q1 (bI func121 (A8 fu pw p0 _ z2)) ?_)))
 refine gQ 14 ?_;refine cO.fact (cK 1 1 rfl rfl rfl (b0 _)) (fun hl7=>?_)
 try dsimp only at hl7
 refine bU (σ:=Unit) (fun i6 _=>⟨[(2,pS p9),(3,pI p7),(4,.ptr 0 0),(8,.nil),(9,pB false),(10,.ptr 1 0),(13,pN i6)],⟨[some ⟨26,[aR pw.aBr]⟩,some ⟨156,sJ x3⟩],[]⟩⟩) (fun _=>⟨[(8,.nil),(9,pB false)],⟨[some ⟨26,[aR pw.aBr]⟩,some ⟨156,sJ x3⟩],[]⟩⟩) (eJ H) ?_ ?_
 ·rintro i6 ⟨⟩ H
  refine gQ 9 ?_;refine AL.splitB 32 rfl (fun g8=>?_) (fun g8=>?_)
  ·have g8l:=wE g8
   have H:=lnT g8l H
   have g8n:=zT g8
   refine gQ 4 ?_;refine bF H (fun h9 H=>?_) (fun h9 H=>?_)
   ·refine gQ 4 ?_;refine eF H fun x11 x12 z10 H=>(dW (dD [4] (b6 [aR pw.aBr]) (dI [10] bZ (dD [40] eB (dI [13] bH (dI [41,42] m9 (dI [43] vE (dI [2] bH (dI [3] bH (dI [46] rSw (dI [39,44,45,47] (bI func113 (pD pw (aT x3.aBB i6) p9 (aZ (p7-1)) _ z10)) (dI [48] bH ?_))))))))))))
    iterate 2 refine dI [38] rEx ?_
    refine dI [49] bH (dI [50] bH (dN ?_))
    refine gQ 4 ?_;refine bF H (fun h13 H=>?_) (fun h13 H=>?_)
    ·refine gQ 3 ?_;refine q1 (nU ([(i6:Int)]:List Int)) (q1 bH (cA H fun z14 H=>(q1 (jO z14) ?_)))
     exact gE 3
    exact gE 6
   exact gE 0
  have H:=lnE (wD g8) H
  exact gE 5
 rintro⟨⟩ H
 refine gQ 2 ?_;refine q1 (nU ([]:List Int)) ?_;exact gE 3
def iK:Nat→aH→ByteArray→ByteArray→Int→Option ((List Int)×Bool)
 |0,_,_,_,_=>none
 |fu+1,pw,p0,p9,p7=>CC fu (iK fu) pw p0 p9 p7
theorem YV(fu:Nat):CD (iK fu):=by
 induction fu with
 |zero=>exact(fun pw p0 p9 p7 r H=>by simp only [iK] at H;cases H)
 |succ fu ih=>exact(fun pw p0 p9 p7 r H=>by simp only [iK] at H;exact WU fu (iK fu) ih pw p0 p9 p7 r H)
theorem acV(fu:Nat):CD (iK fu):=(YV fu)
def mO(fu:Nat)(pw:aH)(p0 p9:ByteArray):Option ((List Int)×Bool):=bd (iK fu pw p0 p9 8) fun(x2,x3)=>some (x2,x3)
theorem A3(fu:Nat)(pw:aH)(p0:ByteArray)(p9:ByteArray)(r:(List Int)×Bool)(H:mO fu pw p0 p9=some r):bQ Tryz.prog 58 [(aH.pv pw),pS p0,pS p9] (.tup [rI r.1,pB r.2]):=by
 refine qJ func58 H (fun C hC H=>?_)
 refine gQ 2 ?_;refine q1 (fE ([aR pw.aBr])) ?_;refine gQ 5 ?_;refine q1 (b6 [aR pw.aBr]) ?_;refine gQ 2 ?_;refine eF H fun x2 x3 z1 H=>(q1 (bI func113 (acV fu pw p0 p9 8 _ z1)) ?_)
 exact gE 5
abbrev D3:=aH→ByteArray→ByteArray→Int→Option ((List Int)×Bool)
def I4(m:D3):Prop:= ∀(pw:aH) (p0:ByteArray) (p9:ByteArray) (p8:Int) (r:(List Int)×Bool),m pw p0 p9 p8=some r→bQ Tryz.prog 154 [(aH.pv pw),pS p0,pS p9,pI p8] (.tup [rI r.1,pB r.2]:PV)
def LX(fu:Nat)(p5:D3)(pw:aH)(p0 p9:ByteArray)(p8:Int)(x4:aV)(x5:Int)(x6:Bool):Nat→Unit→Option (LR Unit ((List Int)×Bool)):=fun i7 _=>bd (p5 pw (aT x4.aBB i7) p9 (aZ (p8-1))) fun(x11,x12)=>sw x12 (gd ((([(i7:Int)]:List Int)).length+x11.length≤68719476736) (some (.ret ((([(i7:Int)]:List Int)++x11),true)))) (some (.next ()))
def LY(fu:Nat)(p5:D3)(pw:aH)(p0 p9:ByteArray)(p8:Int)(x4:aV)(x5:Int)(x6:Bool):Option (((List Int)×Bool)⊕Unit):=loopN (LX fu p5 pw p0 p9 p8 x4 x5 x6) (x4.aBB.length-0) 0 ()
def I3(fu:Nat)(p5:D3)(pw:aH)(p0 p9:ByteArray)(p8:Int):Option ((List Int)×Bool):=sw (decide (p0=p9)) (some (([]),true)) (sw (decide (p8=0)) (some ([],false)) (bd (D4 fu pw p0) fun(x4,x5,x6)=>so (LY fu p5 pw p0 p9 p8 x4 x5 x6) fun _=>some ([],false)))
theorem abD(fu:Nat)(p5:D3)(pE:I4 p5):I4 (I3 fu p5):=by
 intro pw p0 p9 p8 r H
 refine qJ func154 H (fun C hC H=>?_)
 refine gQ 2 ?_;refine q1 (fE ([aR pw.aBr])) ?_;refine gQ 10 ?_;refine bF H (fun h1 H=>?_) (fun h1 H=>?_)
 ·refine gQ 2 ?_;refine q1 (nU ([]:List Int)) ?_;exact gE 3
 refine gQ 7 ?_;refine bF H (fun h2 H=>gE 5) fun h2 H=>?_;refine gQ 3 ?_;refine q1 (b6 [aR pw.aBr]) (q1 bH (DC H fun x4 x5 x6 z3 H=>(q1 (bI func115 (QD fu pw p0 _ z3)) ?_)))
 refine gQ 17 ?_;refine fS 31 (b0 _) (fun hl8=>?_)
 try dsimp only at hl8
 refine bU (σ:=Unit) (fun i7 _=>⟨[(2,pS p9),(3,pI p8),(4,.ptr 0 0),(8,.nil),(9,pB false),(31,rS x4.aBB),(32,pN x4.aBB.length),(33,pN i7)],⟨[some ⟨26,[aR pw.aBr]⟩,some ⟨156,sJ x4⟩],[]⟩⟩) (fun _=>⟨[(8,.nil),(9,pB false)],⟨[some ⟨26,[aR pw.aBr]⟩,some ⟨156,sJ x4⟩],[]⟩⟩) (eJ H) ?_ ?_
 ·rintro i7 ⟨⟩ H
  refine gQ 5 ?_;refine cT H (fun h9 h9l H=>?_) (fun h9 H=>?_)
  ·refine gQ 13 ?_;refine q1 (b6 [aR pw.aBr]) ?_;refine gQ 4 ?_;refine eF H fun x11 x12 z10 H=>(q1 (bI func154 (pE pw (aT x4.aBB i7) p9 (aZ (p8-1)) _ z10)) ?_)
   refine gQ 10 ?_;refine bF H (fun h13 H=>?_) (fun h13 H=>?_)
   ·refine gQ 3 ?_;refine q1 (nU ([(i7:Int)]:List Int)) (q1 bH (cA H fun z14 H=>(q1 (jO z14) ?_)))
    exact gE 3
   exact gE 5
  exact gE 0
 rintro⟨⟩ H
 exact gE 5
def l7:Nat→aH→ByteArray→ByteArray→Int→Option ((List Int)×Bool)
 |0,_,_,_,_=>none
 |fu+1,pw,p0,p9,p8=>I3 fu (l7 fu) pw p0 p9 p8
theorem aeQ(fu:Nat):I4 (l7 fu):=by
 induction fu with
 |zero=>exact(fun pw p0 p9 p8 r H=>by simp only [l7] at H;cases H)
 |succ fu ih=>exact(fun pw p0 p9 p8 r H=>by simp only [l7] at H;exact abD fu (l7 fu) ih pw p0 p9 p8 r H)
theorem ah5(fu:Nat):I4 (l7 fu):=(aeQ fu)
def kU(fu:Nat)(pw:aH)(p0 p9:ByteArray):Option ((List Int)×Bool):=bd (l7 fu pw p0 p9 8) fun(x2,x3)=>some (x2,x3)
theorem AM(fu:Nat)(pw:aH)(p0:ByteArray)(p9:ByteArray)(r:(List Int)×Bool)(H:kU fu pw p0 p9=some r):bQ Tryz.prog 116 [(aH.pv pw),pS p0,pS p9] (.tup [rI r.1,pB r.2]):=by
 refine qJ func116 H (fun C hC H=>?_)
 refine gQ 2 ?_;refine q1 (fE ([aR pw.aBr])) ?_;refine gQ 5 ?_;refine q1 (b6 [aR pw.aBr]) ?_;refine gQ 2 ?_;refine eF H fun x2 x3 z1 H=>(q1 (bI func154 (ah5 fu pw p0 p9 8 _ z1)) ?_)
 exact gE 5
end
end Go.Proofs.YtfcoaagbccmahaaGreat.W

namespace Go.Proofs.YtfcoaagbccmahaaGreat.W
set_option maxRecDepth 100000
set_option maxHeartbeats 40000000
noncomputable section
open Tryz Go.RowKit Go.Proofs
attribute [local irreducible] lt
def s9(fu:Nat)(p3:aH)(p1:List aD)(i1:Nat)(v3:List aK)(x9:LB):Nat→((List aK))→Option (LR ((List aK)) (LR ((List aK)) ((List aK)))):=fun i10 v12=>bd (mO fu p3 ((aT p1 i1).aBz) (aT x9 i10)) fun(x16,x17)=>gd ((v12).length+(([(aK.mk (aD.mk (aT x9 i10) ((aT p1 i1).aBu)) (i1:Int) x16)]:List aK)).length≤68719476736) (some (.next (v12++([(aK.mk (aD.mk (aT x9 i10) ((aT p1 i1).aBu)) (i1:Int) x16)]:List aK))))
def yL(fu:Nat)(p3:aH)(p1:List aD):Nat→((List aK))→Option (LR ((List aK)) ((List aK))):=fun i1 v3=>gd (gK ((aT p1 i1).aBu)) (gd ((v3).length+(([(aK.mk (aD.mk ((aT p1 i1).aBz) ((aT p1 i1).aBu)) (i1:Int) [])]:List aK)).length≤68719476736) (bd (qL fu p3 ((aT p1 i1).aBz)) fun x9=>so (loopN (s9 fu p3 p1 i1 v3 x9) (x9.length-0) 0 (v3++([(aK.mk (aD.mk ((aT p1 i1).aBz) ((aT p1 i1).aBu)) (i1:Int) [])]:List aK))) fun v12=>some (.next v12)))
def uX(fu:Nat)(p3:aH)(p1:List aD):Option ((List aK)):=so (loopN (yL fu p3 p1) (p1.length-0) 0 ([])) fun v3=>some v3
theorem TE(fu:Nat)(p3:aH)(p1:List aD)(r:(List aK))(H:uX fu p3 p1=some r):bQ Tryz.prog 15 [(aH.pv p3),bW p1] (bY r):=by
 refine qJ func15 H (fun C hC H=>?_)
 refine gQ 2 ?_;refine q1 (fE ([aR p3.aBr])) ?_;refine gQ 4 ?_;refine q1 (nU ([]:List aK)) ?_;refine gQ 7 ?_;refine fS 1 (aD.trs_len _) (fun hl4=>?_)
 try dsimp only at hl4
 refine bU (σ:=(List aK)) (fun i1 v3=>⟨[(1,bW p1),(2,.ptr 0 0),(4,.nil),(5,fP v3 0),(6,pN i1)],⟨[some ⟨26,[aR p3.aBr]⟩],[⟨99,6,aK.trs (v3),false⟩]⟩⟩) (fun v3=>⟨[(4,.nil),(5,fP v3 0)],⟨[some ⟨26,[aR p3.aBr]⟩],[⟨99,6,aK.trs (v3),false⟩]⟩⟩) (eJ H) ?_ ?_
 ·rintro i1 v3 H
  refine gQ 8 ?_;refine cT H (fun h5 h5l H=>?_) (fun h5 H=>?_)
  ·refine gQ 4 ?_;refine cA H fun z6 H=>(cA H fun z7 H=>(dW (dI [5] bH (dI [1] bH (dI [6] bH (dI [19,20] m9 (dI [21] wX (dI [22] vE (dI [1] bH (dI [6] bH (dI [24,25] m9 (dI [26] wX (dI [27] (gS (aA.cs ((aT p1 i1).aBu))) ?_)))))))))))))
   refine dI [28] (bI func56 (tW ((aT p1 i1).aBu) z6)) (dI [23,29] oP (dI [6] bH (dI [30,31] oP (dI [32] (fY ([(aK.mk (aD.mk ((aT p1 i1).aBz) ((aT p1 i1).aBu)) (i1:Int) [])]:List aK)) (dE [18,33] (jO z7) (dI [34] bH (dN (qS (bM H fun x9 z8 H=>(dW (dD [2] (b6 [aR p3.aBr]) (dI [1] bH (dI [6] bH ?_)))))))))))))
   refine dI [36,37] m9 (dI [38] wX (dI [39] vE (dI [35,40] (bI func57 (MG fu p3 ((aT p1 i1).aBz) _ z8)) (dI [41] bH (dN ?_)))))
   refine gQ 4 ?_;refine fS 7 (b0 _) (fun hl13=>?_)
   try dsimp only at hl13
   refine bU (σ:=(List aK)) (fun i10 v12=>⟨[(1,bW p1),(2,.ptr 0 0),(4,.nil),(5,fP v12 0),(6,pN i1),(7,rS x9),(8,pN i10),(12,pN i1),(13,bW p1),(14,pN p1.length),(15,pB (decide ((i1:Int)<(p1.length:Int)))),(18,fP v3 0),(19,bW p1),(20,pN i1),(21,.eptr (aD.cs (aT p1 i1))),(22,.eptr (aD.cs (aT p1 i1))),(23,pS ((aT p1 i1).aBz)),(24,bW p1),(25,pN i1),(26,.eptr (aD.cs (aT p1 i1))),(27,.eptr ((aD.cs (aT p1 i1)).drop 1)),(28,(aA.pv ((aT p1 i1).aBu))),(29,(aA.pv ((aT p1 i1).aBu))),(30,.agg [pS ((aT p1 i1).aBz),pI (((aT p1 i1).aBu).aBw),pS (((aT p1 i1).aBu).aBs),aU (((aT p1 i1).aBu).aBt)]),(31,pN i1),(32,.agg [pS ((aT p1 i1).aBz),pI (((aT p1 i1).aBu).aBw),pS (((aT p1 i1).aBu).aBs),aU (((aT p1 i1).aBu).aBt),pN i1,.nil]),(33,bY ([(aK.mk (aD.mk ((aT p1 i1).aBz) ((aT p1 i1).aBu)) (i1:Int) [])]:List aK)),(34,fP (v3++([(aK.mk (aD.mk ((aT p1 i1).aBz) ((aT p1 i1).aBu)) (i1:Int) [])]:List aK)) 0),(35,(aH.pv p3)),(36,bW p1),(37,pN i1),(38,.eptr (aD.cs (aT p1 i1))),(39,.eptr (aD.cs (aT p1 i1))),(40,pS ((aT p1 i1).aBz)),(41,rS x9)],⟨[some ⟨26,[aR p3.aBr]⟩],[⟨99,6,aK.trs (v12),false⟩]⟩⟩) (fun v12=>⟨[(1,bW p1),(2,.ptr 0 0),(4,.nil),(5,fP v12 0),(6,pN i1),(7,rS x9),(12,pN i1),(13,bW p1),(14,pN p1.length),(15,pB (decide ((i1:Int)<(p1.length:Int)))),(18,fP v3 0),(19,bW p1),(20,pN i1),(21,.eptr (aD.cs (aT p1 i1))),(22,.eptr (aD.cs (aT p1 i1))),(23,pS ((aT p1 i1).aBz)),(24,bW p1),(25,pN i1),(26,.eptr (aD.cs (aT p1 i1))),(27,.eptr ((aD.cs (aT p1 i1)).drop 1)),(28,(aA.pv ((aT p1 i1).aBu))),(29,(aA.pv ((aT p1 i1).aBu))),(30,.agg [pS ((aT p1 i1).aBz),pI (((aT p1 i1).aBu).aBw),pS (((aT p1 i1).aBu).aBs),aU (((aT p1 i1).aBu).aBt)]),(31,pN i1),(32,.agg [pS ((aT p1 i1).aBz),pI (((aT p1 i1).aBu).aBw),pS (((aT p1 i1).aBu).aBs),aU (((aT p1 i1).aBu).aBt),pN i1,.nil]),(33,bY ([(aK.mk (aD.mk ((aT p1 i1).aBz) ((aT p1 i1).aBu)) (i1:Int) [])]:List aK)),(34,fP (v3++([(aK.mk (aD.mk ((aT p1 i1).aBz) ((aT p1 i1).aBu)) (i1:Int) [])]:List aK)) 0),(35,(aH.pv p3)),(36,bW p1),(37,pN i1),(38,.eptr (aD.cs (aT p1 i1))),(39,.eptr (aD.cs (aT p1 i1))),(40,pS ((aT p1 i1).aBz)),(41,rS x9)],⟨[some ⟨26,[aR p3.aBr]⟩],[⟨99,6,aK.trs (v12),false⟩]⟩⟩) (eJ H) ?_ ?_
   ·rintro i10 v12 H
    refine gQ 8 ?_;refine cT H (fun h14 h14l H=>?_) (fun h14 H=>?_)
    ·refine gQ 4 ?_;refine eF H fun x16 x17 z15 H=>(dW (dD [2] (b6 [aR p3.aBr]) (dI [1] bH (dI [6] bH (dI [50,51] m9 (dI [52] wX (dI [53] vE (dI [7] bH (dI [8] bH (dI [55,56] m9 (dI [57] vE (dI [49,54,58] (bI func58 (A3 fu p3 ((aT p1 i1).aBz) (aT x9 i10) _ z15)) (dI [59] bH ?_)))))))))))))
     iterate 2 refine dI [48] rEx ?_
     refine dI [60] bH (dI [61] bH (dN (cA H fun z18 H=>(dW (dI [5] bH (dI [7] bH (dI [8] bH (dI [63,64] m9 (dI [65] vE (dI [1] bH (dI [6] bH (dI [67,68] m9 (dI [69] wX ?_)))))))))))))
     refine dI [70] (gS (aA.cs ((aT p1 i1).aBu))) (dI [71] (bI func56 (tW ((aT p1 i1).aBu) z6)) (dI [66,72] oP (dI [6] bH (dI [9] bH (dI [73,74,75] oP (dI [76] (fY ([(aK.mk (aD.mk (aT x9 i10) ((aT p1 i1).aBu)) (i1:Int) x16)]:List aK)) (dE [62,77] (jO z18) (dI [78] bH (dN ?_)))))))))
     exact gE 5
    exact gE 0
   rintro v12 H
   exact gE 5
  exact gE 0
 rintro v3 H
 exact gE 5
def s7(fu:Nat)(pw:aH)(p0:List aD)(i1:Nat)(v3:List aK)(x9:LB):Nat→((List aK))→Option (LR ((List aK)) (LR ((List aK)) ((List aK)))):=fun i10 v12=>bd (kU fu pw ((aT p0 i1).aBz) (aT x9 i10)) fun(x16,x17)=>gd ((v12).length+(([(aK.mk (aD.mk (aT x9 i10) ((aT p0 i1).aBu)) (i1:Int) x16)]:List aK)).length≤68719476736) (some (.next (v12++([(aK.mk (aD.mk (aT x9 i10) ((aT p0 i1).aBu)) (i1:Int) x16)]:List aK))))
def xZ(fu:Nat)(pw:aH)(p0:List aD):Nat→((List aK))→Option (LR ((List aK)) ((List aK))):=fun i1 v3=>gd (gK ((aT p0 i1).aBu)) (gd ((v3).length+(([(aK.mk (aD.mk ((aT p0 i1).aBz) ((aT p0 i1).aBu)) (i1:Int) [])]:List aK)).length≤68719476736) (bd (qF fu pw ((aT p0 i1).aBz)) fun x9=>so (loopN (s7 fu pw p0 i1 v3 x9) (x9.length-0) 0 (v3++([(aK.mk (aD.mk ((aT p0 i1).aBz) ((aT p0 i1).aBu)) (i1:Int) [])]:List aK))) fun v12=>some (.next v12)))
def uJ(fu:Nat)(pw:aH)(p0:List aD):Option ((List aK)):=so (loopN (xZ fu pw p0) (p0.length-0) 0 ([])) fun v3=>some v3
theorem S7(fu:Nat)(pw:aH)(p0:List aD)(r:(List aK))(H:uJ fu pw p0=some r):bQ Tryz.prog 99 [(aH.pv pw),bW p0] (bY r):=by
 refine qJ func99 H (fun C hC H=>?_)
 refine gQ 2 ?_;refine q1 (fE ([aR pw.aBr])) ?_;refine gQ 4 ?_;refine q1 (nU ([]:List aK)) ?_;refine gQ 9 ?_;refine fS 1 (aD.trs_len _) (fun hl4=>?_)
 try dsimp only at hl4
 refine bU (σ:=(List aK)) (fun i1 v3=>⟨[(2,.ptr 0 0),(4,.nil),(5,fP v3 0),(13,bW p0),(14,pN p0.length),(15,pN i1)],⟨[some ⟨26,[aR pw.aBr]⟩],[⟨99,6,aK.trs (v3),false⟩]⟩⟩) (fun v3=>⟨[(4,.nil),(5,fP v3 0)],⟨[some ⟨26,[aR pw.aBr]⟩],[⟨99,6,aK.trs (v3),false⟩]⟩⟩) (eJ H) ?_ ?_
 ·rintro i1 v3 H
  refine gQ 5 ?_;refine cT H (fun h5 h5l H=>?_) (fun h5 H=>?_)
  ·refine gQ 7 ?_;refine q1 (gS (aD.cs (aT p0 i1))) ?_;refine gQ 5 ?_;refine cA H fun z6 H=>(cA H fun z7 H=>(dW (dI [5] bH (dI [7] bZ (dD [21] eB (dI [7] bZ (dD [23] (b6 [pI (((aT p0 i1).aBu).aBw),pS (((aT p0 i1).aBu).aBs),aU (((aT p0 i1).aBu).aBt)]) (dI [24] (bI func79 (rP ((aT p0 i1).aBu) z6)) (dI [22,25] oP (dI [6] bH (dI [26,27] oP (dI [28] (fY ([(aK.mk (aD.mk ((aT p0 i1).aBz) ((aT p0 i1).aBu)) (i1:Int) [])]:List aK)) (dE [20,29] (jO z7) ?_)))))))))))))
   refine dI [30] bH (dN ?_)
   refine gQ 2 ?_;refine q1 (b6 [aR pw.aBr]) ?_;refine gQ 2 ?_;refine bM H fun x9 z8 H=>(q1 (bI func147 (LT fu pw ((aT p0 i1).aBz) _ z8)) ?_)
   refine gQ 3 ?_;refine fS 34 (b0 _) (fun hl13=>?_)
   try dsimp only at hl13
   refine bU (σ:=(List aK)) (fun i10 v12=>⟨[(2,.ptr 0 0),(4,.nil),(5,fP v12 0),(6,pN i1),(7,.ptr 1 0),(13,bW p0),(14,pN p0.length),(15,pN i1),(16,pB (decide ((i1:Int)<(p0.length:Int)))),(17,pN i1),(18,.eptr (aD.cs (aT p0 i1))),(19,(aD.pv (aT p0 i1))),(20,fP v3 0),(21,.ptr 1 0),(22,pS ((aT p0 i1).aBz)),(23,.ptr 1 1),(24,(aA.pv ((aT p0 i1).aBu))),(25,(aA.pv ((aT p0 i1).aBu))),(26,.agg [pS ((aT p0 i1).aBz),pI (((aT p0 i1).aBu).aBw),pS (((aT p0 i1).aBu).aBs),aU (((aT p0 i1).aBu).aBt)]),(27,pN i1),(28,.agg [pS ((aT p0 i1).aBz),pI (((aT p0 i1).aBu).aBw),pS (((aT p0 i1).aBu).aBs),aU (((aT p0 i1).aBu).aBt),pN i1,.nil]),(29,bY ([(aK.mk (aD.mk ((aT p0 i1).aBz) ((aT p0 i1).aBu)) (i1:Int) [])]:List aK)),(30,fP (v3++([(aK.mk (aD.mk ((aT p0 i1).aBz) ((aT p0 i1).aBu)) (i1:Int) [])]:List aK)) 0),(31,(aH.pv pw)),(32,.ptr 1 0),(33,pS ((aT p0 i1).aBz)),(34,rS x9),(35,pN x9.length),(36,pN i10)],⟨[some ⟨26,[aR pw.aBr]⟩,some ⟨32,cH (aT p0 i1)⟩],[⟨99,6,aK.trs (v12),false⟩]⟩⟩) (fun v12=>⟨[(2,.ptr 0 0),(4,.nil),(5,fP v12 0),(6,pN i1),(7,.ptr 1 0),(13,bW p0),(14,pN p0.length),(15,pN i1),(16,pB (decide ((i1:Int)<(p0.length:Int)))),(17,pN i1),(18,.eptr (aD.cs (aT p0 i1))),(19,(aD.pv (aT p0 i1))),(20,fP v3 0),(21,.ptr 1 0),(22,pS ((aT p0 i1).aBz)),(23,.ptr 1 1),(24,(aA.pv ((aT p0 i1).aBu))),(25,(aA.pv ((aT p0 i1).aBu))),(26,.agg [pS ((aT p0 i1).aBz),pI (((aT p0 i1).aBu).aBw),pS (((aT p0 i1).aBu).aBs),aU (((aT p0 i1).aBu).aBt)]),(27,pN i1),(28,.agg [pS ((aT p0 i1).aBz),pI (((aT p0 i1).aBu).aBw),pS (((aT p0 i1).aBu).aBs),aU (((aT p0 i1).aBu).aBt),pN i1,.nil]),(29,bY ([(aK.mk (aD.mk ((aT p0 i1).aBz) ((aT p0 i1).aBu)) (i1:Int) [])]:List aK)),(30,fP (v3++([(aK.mk (aD.mk ((aT p0 i1).aBz) ((aT p0 i1).aBu)) (i1:Int) [])]:List aK)) 0),(31,(aH.pv pw)),(32,.ptr 1 0),(33,pS ((aT p0 i1).aBz)),(34,rS x9),(35,pN x9.length)],⟨[some ⟨26,[aR pw.aBr]⟩,some ⟨32,cH (aT p0 i1)⟩],[⟨99,6,aK.trs (v12),false⟩]⟩⟩) (eJ H) ?_ ?_
   ·rintro i10 v12 H
    refine gQ 5 ?_;refine cT H (fun h14 h14l H=>?_) (fun h14 H=>?_)
    ·refine gQ 11 ?_;refine q1 (b6 [aR pw.aBr]) ?_;refine gQ 3 ?_;refine eF H fun x16 x17 z15 H=>(q1 (bI func116 (AM fu pw ((aT p0 i1).aBz) (aT x9 i10) _ z15)) ?_)
     refine gQ 10 ?_;refine q1 (b6 [pI (((aT p0 i1).aBu).aBw),pS (((aT p0 i1).aBu).aBs),aU (((aT p0 i1).aBu).aBt)]) (q1 (bI func79 (rP ((aT p0 i1).aBu) z6)) ?_)
     refine gQ 4 ?_;refine q1 (fY ([(aK.mk (aD.mk (aT x9 i10) ((aT p0 i1).aBu)) (i1:Int) x16)]:List aK)) (cA H fun z18 H=>(q1 (jO z18) ?_))
     exact gE 6
    exact gE 0
   rintro v12 H
   exact gE 4
  exact gE 0
 rintro v3 H
 exact gE 5
def uY(fu:Nat)(pa pb:aD):Option Bool:=sw (decide (pa.aBz=pb.aBz)) (some (aA.eq pa.aBu pb.aBu)) (some false)
theorem KZ(fu:Nat)(pa:aD)(pb:aD)(r:Bool)(H:uY fu pa pb=some r):bQ Tryz.prog 55 [(aD.pv pa),(aD.pv pb)] (pB r):=by
 refine qJ func55 H (fun C hC H=>?_)
 refine gQ 2 ?_;refine q1 (fE (cH pa)) (q1 (fE (cH pb)) ?_)
 refine gQ 10 ?_;refine dL 10 H (fun g1 H=>?_) fun g1 H=>?_
 ·refine qg g1 bZ (qg g1 (b6 [pI pa.aBu.aBw,pS pa.aBu.aBs,aU pa.aBu.aBt]) (qg g1 bZ (qg g1 (b6 [pI pb.aBu.aBw,pS pb.aBu.aBs,aU pb.aBu.aBt]) (qg g1 (bI func38 (CW pa.aBu pb.aBu)) ?_))))
  exact gE 3
 exact gE 8
def AX(fu:Nat)(p2:List aK)(pg:aD):Nat→Unit→Option (LR Unit Int):=fun i1 _=>lt (aT p2 i1) fun y4=>bd (uY fu y4.aBZ pg) fun x7=>sw x7 (some (.ret (i1:Int))) (some (.next ()))
def kX(fu:Nat)(p2:List aK)(pg:aD):Option Int:=so (loopN (AX fu p2 pg) (p2.length-0) 0 ()) fun _=>some (-1)
theorem tL(fu:Nat)(p2:List aK)(pg:aD)(r:Int)(H:kX fu p2 pg=some r):bQ Tryz.prog 14 [bY p2,(aD.pv pg)] (pI r):=by
 refine qJ func14 H (fun C hC H=>?_)
 refine gQ 2 ?_;refine q1 (fE (cH pg)) ?_;refine gQ 7 ?_;refine fS 0 (aK.trs_len _) (fun hl2=>?_)
 try dsimp only at hl2
 refine bU (σ:=Unit) (fun i1 _=>⟨[(0,bY p2),(3,.ptr 0 0),(4,pI 0),(5,pN i1)],⟨[some ⟨32,cH pg⟩],[]⟩⟩) (fun _=>⟨[(4,pI 0)],⟨[some ⟨32,cH pg⟩],[]⟩⟩) (eJ H) ?_ ?_
 ·rintro i1 ⟨⟩ H
  refine gQ 8 ?_;refine cT H (fun h3 h3l H=>?_) (fun h3 H=>?_)
  ·refine gQ 4 ?_;refine fZ H fun y4 h5 H=>(bM H fun x7 z6 H=>(dW (dI [0] bH (dI [5] bH (dI [12,13] (xW h5 h3l) (dI [14] wX (dI [15] (gS (aD.cs y4.aBZ)) (dD [3] (b6 [pS pg.aBz,pI pg.aBu.aBw,pS pg.aBu.aBs,aU pg.aBu.aBt]) (dI [16,17] (bI func55 (KZ fu y4.aBZ pg _ z6)) (dN ?_))))))))))
   refine bF H (fun h8 H=>gE 5) fun h8 H=>?_;exact gE 6
  exact gE 0
 rintro⟨⟩ H
 exact gE 4
def uK(fu:Nat)(pa pb:aD):Option Bool:=sw (decide (pa.aBz=pb.aBz)) (some (aA.eq pa.aBu pb.aBu)) (some false)
theorem KX(fu:Nat)(pa:aD)(pb:aD)(r:Bool)(H:uK fu pa pb=some r):bQ Tryz.prog 84 [(aD.pv pa),(aD.pv pb)] (pB r):=by
 refine qJ func84 H (fun C hC H=>?_)
 refine gQ 2 ?_;refine q1 (fE (cH pa)) (q1 (fE (cH pb)) ?_)
 refine gQ 10 ?_;refine dL 10 H (fun g1 H=>?_) fun g1 H=>?_
 ·refine qg g1 bZ (qg g1 (b6 [pI pa.aBu.aBw,pS pa.aBu.aBs,aU pa.aBu.aBt]) (qg g1 bZ (qg g1 (b6 [pI pb.aBu.aBw,pS pb.aBu.aBs,aU pb.aBu.aBt]) (qg g1 (bI func95 (CO pa.aBu pb.aBu)) ?_))))
  exact gE 3
 exact gE 8
def sK(fu:Nat)(pa:aK)(c1:aD):Option Bool:=bd (uK fu pa.aBZ c1) fun x2=>some x2
theorem G8(fu:Nat)(pa:aK)(c1:aD)(r:Bool)(H:sK fu pa c1=some r):cB Tryz.prog 149 [(aK.pv pa),.ptr 0 0] ⟨[some ⟨32,cH c1⟩],[]⟩ (fun q t=>q=(pB r)∧t=⟨[some ⟨32,cH c1⟩],[]⟩):=by
 refine qJ func149 H (fun C hC H=>?_)
 refine gQ 2 ?_;refine q1 (fE ([pS pa.aBZ.aBz,pI pa.aBZ.aBu.aBw,pS pa.aBZ.aBu.aBs,aU pa.aBZ.aBu.aBt,pI pa.aB7,rI pa.aB8])) ?_;refine gQ 5 ?_;refine q1 (b6 [pS pa.aBZ.aBz,pI pa.aBZ.aBu.aBw,pS pa.aBZ.aBu.aBs,aU pa.aBZ.aBu.aBt]) (q1 (b6 [pS c1.aBz,pI c1.aBu.aBw,pS c1.aBu.aBs,aU c1.aBu.aBt]) (bM H fun x2 z1 H=>(q1 (bI func84 (KX fu pa.aBZ c1 _ z1)) ?_)))
 exact gE 2
def iZ(fu:Nat)(ps:List aK)(c1_0:aD):Nat→Unit→Option (LR Unit Int):=fun i1 _=>lt (aT ps i1) fun y4=>bd (sK fu y4 c1_0) fun x7=>sw x7 (some (.ret (i1:Int))) (some (.next ()))
def fI(fu:Nat)(ps:List aK)(c1_0:aD):Option Int:=so (loopN (iZ fu ps c1_0) (ps.length-0) 0 ()) fun _=>some (-1)
theorem nQ(fu:Nat)(ps:List aK)(c1_0:aD)(r:Int)(H:fI fu ps c1_0=some r):cB Tryz.prog 148 [bY ps,.fn 149 [.ptr 0 0]] ⟨[some ⟨32,cH c1_0⟩],[]⟩ (fun q t=>q=(pI r)∧t=⟨[some ⟨32,cH c1_0⟩],[]⟩):=by
 refine qJ func148 H (fun C hC H=>?_)
 refine gQ 11 ?_;refine fS 0 (aK.trs_len _) (fun hl2=>?_)
 try dsimp only at hl2
 refine bU (σ:=Unit) (fun i1 _=>⟨[(0,bY ps),(1,.fn 149 [.ptr 0 0]),(4,pI 0),(7,pN ps.length),(8,pN i1)],⟨[some ⟨32,cH c1_0⟩],[]⟩⟩) (fun _=>⟨[(4,pI 0)],⟨[some ⟨32,cH c1_0⟩],[]⟩⟩) (eJ H) ?_ ?_
 ·rintro i1 ⟨⟩ H
  refine gQ 5 ?_;refine cT H (fun h3 h3l H=>?_) (fun h3 H=>?_)
  ·refine gQ 13 ?_;refine fZ H fun y4 h5 H=>(q1 (xW h5 h3l) (q1 (gS (aK.cs y4)) (bM H fun x7 z6 H=>(q1 (bD.callVPE (pre:=⟨[some ⟨32,cH c1_0⟩],[]⟩) (st':=⟨[some ⟨32,cH c1_0⟩],[]⟩) (ps:= [_]) (cs:= [.ptr 0 0]) (qs:= [(aK.pv y4),.ptr 0 0]) [0] [] rfl rfl rfl func149 (by kernel_rfl) rfl rfl rfl (eH.of ⟨⟨_,rfl,rfl,iX,rfl⟩,trivial⟩ trivial (by decide) (by decide)) iX rfl rfl rfl (G8 fu y4 c1_0 _ z6)) (qN ?_)))))
   refine bF H (fun h8 H=>gE 5) fun h8 H=>?_;exact gE 5
  exact gE 0
 rintro⟨⟩ H
 exact gE 4
def mF(fu:Nat)(p2:List aK)(pg:aD):Option Int:=bd (fI fu p2 pg) fun x2=>some x2
theorem AJ(fu:Nat)(p2:List aK)(pg:aD)(r:Int)(H:mF fu p2 pg=some r):bQ Tryz.prog 101 [bY p2,(aD.pv pg)] (pI r):=by
 refine qJ func101 H (fun C hC H=>?_)
 refine gQ 2 ?_;refine q1 (fE (cH pg)) ?_;refine gQ 5 ?_;refine q1 rMf (bM H fun x2 z1 H=>(q1 (fD [0] [] func148 (nQ fu p2 pg _ z1)) ?_))
 exact gE 2
end
end Go.Proofs.YtfcoaagbccmahaaGreat.W

namespace Go.Proofs.YtfcoaagbccmahaaGreat.W
open Go.RowKit Go.WalkArith
def CT(l:List aJ)(v:ByteArray):aA:=match DB l v with
 |some b=>b.aBu
 |none=> .mk 0 ⟨#[]⟩ []
def HW(l:List aJ)(v:ByteArray):Bool:=(DB l v).isSome
def jE(p t:aA):List aJ:=(jY p t []).getD []
theorem an8(l:List aJ)(v:ByteArray)(hb:qP l):bQ Tryz.prog 151 [.t (.row 4 (aJ.trs l)),.t (.leaf (.string v))] (.tup [(aA.pv (CT l v)),.t (.leaf (.bool (HW l v)))]):=by
 refine WC 0 l v (CT l v,HW l v) ?_
 rw [WB 0 l v hb]
 unfold CT HW
 cases DB l v<;>rfl
theorem amF(p t:aA)(hp:Tr.bulkL p.tr≤68719476735)(ht:gK t):bQ Tryz.prog 161 [(aA.pv p),(aA.pv t)] (.tup [.t (.row 4 (aJ.trs (jE p t))),.t (.leaf (.bool (l4 p t)))]):=by
 obtain⟨fu,hf⟩:=(Z2 p).get
 refine Z3 (fu+1) p t (jE p t,l4 p t) ?_
 have h1:=abM (fu:=fu) (ps:= [p]) (by simpa using hf) (ts:= [t]) (s:= []) rfl (by simpa using ht) qP.nil (by rw [UC];simp only [List.length_nil];omega)
 rw [FD] at h1
 unfold OT BV l4 jE
 cases hq:jY p t [] with
 |none=>
  rw [hq] at h1
  obtain⟨a,b,h1⟩:=h1
  exact hY (jA rfl (hY h1 (jA rfl rfl))) rfl
 |some s=>
  rw [hq] at h1
  exact hY (jA rfl (hY h1 (kS rfl (fT rfl rfl)))) rfl
end Go.Proofs.YtfcoaagbccmahaaGreat.W

namespace Go.Proofs.YtfcoaagbccmahaaGreat.W
set_option maxRecDepth 100000
set_option maxHeartbeats 40000000
noncomputable section
open Tryz Go.RowKit Go.Proofs
attribute [local irreducible] lt
abbrev DY:=(List aJ)→aA→Option aA
abbrev tY:=(List aJ)→(List aA)→Option ((List aA))
def G6(m:DY):Prop:= ∀(p0:List aJ) (pt:aA) (r:aA),m p0 pt=some r→bQ Tryz.prog 16 [gB p0,(aA.pv pt)] ((aA.pv r):PV)
def BL(m:tY):Prop:= ∀(p0:List aJ) (p3:List aA) (r:(List aA)),m p0 p3=some r→bQ Tryz.prog 60 [gB p0,aU p3] (aU r:PV)
def UY(fu:Nat)(p4:DY)(p1:tY)(p0:List aJ)(pt:aA):Option aA:=sw (decide (pt.aBw=1)) (bd (D0 fu p0 pt.aBs) fun(x3,x4)=>sw x4 (some x3) (bd (p1 p0 pt.aBt) fun x7=>some (aA.mk pt.aBw pt.aBs x7))) (bd (p1 p0 pt.aBt) fun x9=>some (aA.mk pt.aBw pt.aBs x9))
theorem aeH(fu:Nat)(p4:DY)(p1:tY)(p8:G6 p4)(p6:BL p1):G6 (UY fu p4 p1):=by
 intro p0 pt r H
 refine qJ func16 H (fun C hC H=>?_)
 refine gQ 2 ?_;refine q1 (fE (b9 pt)) ?_;refine gQ 9 ?_;refine bF H (fun h1 H=>?_) (fun h1 H=>?_)
 ·refine gQ 5 ?_;refine eF H fun x3 x4 z2 H=>(q1 (bI func59 (U6 fu p0 pt.aBs _ z2)) ?_)
  refine gQ 11 ?_;refine bF H (fun h5 H=>?_) (fun h5 H=>?_)
  ·refine gQ 2 ?_;refine q1 (b6 [pI x3.aBw,pS x3.aBs,aU x3.aBt]) ?_;exact gE 2
  refine gQ 2 ?_;refine bM H fun x7 z6 H=>(dW (dI [3] bZ (dD [19] eB (dI [3] bZ (dD [21] eB (dI [0] bH (dI [3] bZ (dD [24] eB (dI [23,25] (bI func60 (p6 p0 pt.aBt _ z6)) (dI [20,22,26] oP (iY [4,27] hM (dN ?_))))))))))))
  exact gE 0
 refine gQ 2 ?_;refine bM H fun x9 z8 H=>(dW (dI [3] bZ (dD [19] eB (dI [3] bZ (dD [21] eB (dI [0] bH (dI [3] bZ (dD [24] eB (dI [23,25] (bI func60 (p6 p0 pt.aBt _ z8)) (dI [20,22,26] oP (iY [4,27] hM (dN ?_))))))))))))
 exact gE 0
def N5(fu:Nat)(p4:DY)(p1:tY)(p0:List aJ)(p3:List aA):Nat→((List aA))→Option (LR ((List aA)) ((List aA))):=fun i2 v3=>bd (p4 p0 (aT p3 i2)) fun x7=>gd (i2=(v3).length) (some (.next (v3++([x7]:List aA))))
def G5(fu:Nat)(p4:DY)(p1:tY)(p0:List aJ)(p3:List aA):Option ((List aA)):=gd (p3.length≤68719476736) (so (loopN (N5 fu p4 p1 p0 p3) (p3.length-0) 0 ([])) fun v3=>gd ((v3).length=p3.length) (some v3))
theorem UX(fu:Nat)(p4:DY)(p1:tY)(p8:G6 p4)(p6:BL p1):BL (G5 fu p4 p1):=by
 intro p0 p3 r H
 refine qJ func60 H (fun C hC H=>?_)
 refine gQ 8 ?_;refine cA H fun z1 H=>(q1 (bD.makeSlice (N:=p3.length) rfl rfl rfl rfl anM.h asK.h (by decide) (Nat.le_trans (Nat.mul_le_mul_left _ z1) (by decide)) (Nat.le_trans z1 (by decide))) ?_)
 refine gQ 9 ?_;refine fS 1 (aA.trs_len _) (fun hl4=>?_)
 refine bU (σ:=(List aA)) (fun i2 v3=>⟨[(0,gB p0),(4,.nil),(5,.full 3 (p3.length) 0),(11,aU p3),(12,pN p3.length),(13,pN i2)],⟨[],[⟨30,3,aA.trs (v3),true⟩]⟩⟩) (fun v3=>⟨[(4,.nil),(5,.full 3 (p3.length) 0)],⟨[],[⟨30,3,aA.trs (v3),true⟩]⟩⟩) (eJ H) ?_ ?_
 ·rintro i2 v3 H
  refine gQ 5 ?_;refine cT H (fun h5 h5l H=>?_) (fun h5 H=>?_)
  ·refine gQ 7 ?_;refine q1 (gS (aA.cs (aT p3 i2))) ?_;refine gQ 8 ?_;refine q1 (b6 [pI ((aT p3 i2).aBw),pS ((aT p3 i2).aBs),aU ((aT p3 i2).aBt)]) (bM H fun x7 z6 H=>(q1 (bI func16 (p8 p0 (aT p3 i2) _ z6)) (q1 (bD.indexFull (k:=i2) rfl rfl rfl rfl h5l anM.h) (cA H fun z8 H=>?_))))
   refine q1 (bD.storeRptr (e:=aA.cs x7) (es2:=aA.trs (v3++([x7]:List aA))) 18 rfl rfl rfl rfl rfl rfl iX rfl rfl asF.h (by rw [aA.trs_len];exact z8) h5l (by rw [aA.trs_map,aA.trs_map,List.map_append];simp [aA.tr_cs])) ?_;exact gE 5
  exact gE 0
 rintro v3 H
 refine gQ 3 ?_;refine cA H fun z9 H=>?_;refine AL.weak (Wk.full (i:=25) rfl rfl (by rw [aA.trs_len];exact z9)) ?_;exact gE 2
mutual
def q8:Nat→(List aJ)→aA→Option aA
 |0,_,_=>none
 |fu+1,p0,pt=>UY fu (q8 fu) (mE fu) p0 pt
def mE:Nat→(List aJ)→(List aA)→Option ((List aA))
 |0,_,_=>none
 |fu+1,p0,p3=>G5 fu (q8 fu) (mE fu) p0 p3
end
theorem ah1(fu:Nat):G6 (q8 fu)∧BL (mE fu):=by
 induction fu with
 |zero=>exact⟨(fun p0 pt r H=>by simp only [q8] at H;cases H),(fun p0 p3 r H=>by simp only [mE] at H;cases H)⟩
 |succ fu ih=>exact⟨(fun p0 pt r H=>by simp only [q8] at H;exact aeH fu (q8 fu) (mE fu) ih.1 ih.2 p0 pt r H),(fun p0 p3 r H=>by simp only [mE] at H;exact UX fu (q8 fu) (mE fu) ih.1 ih.2 p0 p3 r H)⟩
theorem alO(fu:Nat):G6 (q8 fu):=(ah1 fu).1
abbrev EC:=(List aJ)→aA→Option aA
abbrev t4:=(List aJ)→(List aA)→Option ((List aA))
def H5(m:EC):Prop:= ∀(p0:List aJ) (pt:aA) (r:aA),m p0 pt=some r→bQ Tryz.prog 110 [gB p0,(aA.pv pt)] ((aA.pv r):PV)
def BT(m:t4):Prop:= ∀(p0:List aJ) (p3:List aA) (r:(List aA)),m p0 p3=some r→bQ Tryz.prog 152 [gB p0,aU p3] (aU r:PV)
def VY(fu:Nat)(p5:EC)(p2:t4)(p0:List aJ)(pt:aA):Option aA:=sw (decide (pt.aBw=1)) (gd (qP p0) (sw (HW p0 pt.aBs) (some (CT p0 pt.aBs)) (bd (p2 p0 pt.aBt) fun x5=>some (aA.mk pt.aBw pt.aBs x5)))) (bd (p2 p0 pt.aBt) fun x7=>some (aA.mk pt.aBw pt.aBs x7))
theorem afD(fu:Nat)(p5:EC)(p2:t4)(p9:H5 p5)(p7:BT p2):H5 (VY fu p5 p2):=by
 intro p0 pt r H
 refine qJ func110 H (fun C hC H=>?_)
 refine gQ 2 ?_;refine q1 (fE (b9 pt)) ?_;refine gQ 9 ?_;refine bF H (fun h1 H=>?_) (fun h1 H=>?_)
 ·refine gQ 5 ?_;refine cA H fun z2 H=>(q1 (bI func151 (an8 p0 pt.aBs z2)) ?_)
  refine gQ 11 ?_;refine bF H (fun h3 H=>?_) (fun h3 H=>?_)
  ·refine gQ 2 ?_;refine q1 (b6 [pI ((CT p0 pt.aBs).aBw),pS ((CT p0 pt.aBs).aBs),aU ((CT p0 pt.aBs).aBt)]) ?_;exact gE 2
  refine gQ 2 ?_;refine bM H fun x5 z4 H=>(dW (dI [3] bZ (dD [19] eB (dI [3] bZ (dD [21] eB (dI [0] bH (dI [3] bZ (dD [24] eB (dI [23,25] (bI func152 (p7 p0 pt.aBt _ z4)) (dI [20,22,26] oP (iY [4,27] hM (dN ?_))))))))))))
  exact gE 0
 refine gQ 2 ?_;refine bM H fun x7 z6 H=>(dW (dI [3] bZ (dD [19] eB (dI [3] bZ (dD [21] eB (dI [0] bH (dI [3] bZ (dD [24] eB (dI [23,25] (bI func152 (p7 p0 pt.aBt _ z6)) (dI [20,22,26] oP (iY [4,27] hM (dN ?_))))))))))))
 exact gE 0
def OP(fu:Nat)(p5:EC)(p2:t4)(p0:List aJ)(p3:List aA):Nat→((List aA))→Option (LR ((List aA)) ((List aA))):=fun i1 v3=>bd (p5 p0 (aT p3 i1)) fun x7=>gd ((v3).length+(([x7]:List aA)).length≤68719476736) (some (.next (v3++([x7]:List aA))))
def H4(fu:Nat)(p5:EC)(p2:t4)(p0:List aJ)(p3:List aA):Option ((List aA)):=so (loopN (OP fu p5 p2 p0 p3) (p3.length-0) 0 ([])) fun v3=>some v3
theorem VX(fu:Nat)(p5:EC)(p2:t4)(p9:H5 p5)(p7:BT p2):BT (H4 fu p5 p2):=by
 intro p0 p3 r H
 refine qJ func152 H (fun C hC H=>?_)
 refine gQ 6 ?_;refine q1 (nU ([]:List aA)) ?_;refine gQ 7 ?_;refine fS 1 (aA.trs_len _) (fun hl4=>?_)
 refine bU (σ:=(List aA)) (fun i1 v3=>⟨[(0,gB p0),(1,aU p3),(4,.nil),(5,iE v3 0),(6,pN i1)],⟨[],[⟨30,3,aA.trs (v3),false⟩]⟩⟩) (fun v3=>⟨[(4,.nil),(5,iE v3 0)],⟨[],[⟨30,3,aA.trs (v3),false⟩]⟩⟩) (eJ H) ?_ ?_
 ·rintro i1 v3 H
  refine gQ 8 ?_;refine cT H (fun h5 h5l H=>?_) (fun h5 H=>?_)
  ·refine gQ 9 ?_;refine q1 (gS (aA.cs (aT p3 i1))) (bM H fun x7 z6 H=>(q1 (bI func110 (p9 p0 (aT p3 i1) _ z6)) (q1 (fY ([x7]:List aA)) (cA H fun z8 H=>(q1 (jO z8) ?_)))))
   exact gE 7
  exact gE 0
 rintro v3 H
 exact gE 5
mutual
def rG:Nat→(List aJ)→aA→Option aA
 |0,_,_=>none
 |fu+1,p0,pt=>VY fu (rG fu) (mL fu) p0 pt
def mL:Nat→(List aJ)→(List aA)→Option ((List aA))
 |0,_,_=>none
 |fu+1,p0,p3=>H4 fu (rG fu) (mL fu) p0 p3
end
theorem aiJ(fu:Nat):H5 (rG fu)∧BT (mL fu):=by
 induction fu with
 |zero=>exact⟨(fun p0 pt r H=>by simp only [rG] at H;cases H),(fun p0 p3 r H=>by simp only [mL] at H;cases H)⟩
 |succ fu ih=>exact⟨(fun p0 pt r H=>by simp only [rG] at H;exact afD fu (rG fu) (mL fu) ih.1 ih.2 p0 pt r H),(fun p0 p3 r H=>by simp only [mL] at H;exact VX fu (rG fu) (mL fu) ih.1 ih.2 p0 p3 r H)⟩
theorem amD(fu:Nat):H5 (rG fu):=(aiJ fu).1
end
end Go.Proofs.YtfcoaagbccmahaaGreat.W

namespace Go.Proofs.YtfcoaagbccmahaaGreat
open Go.RowKit Go.WalkArith Go.IntWalk Go.WideShapes
section
variable {P:Program} {C:nR} {n:Nat} {s:AS} {o:Oper} {x y:Operand} {T T':TypeId}
theorem bD.minI{a b:Int}(ho:o.op= .call { callee:= .builtin .min,args:= #[x,y],argTypes:= #[T,T'] })(hd:bJ o.dst n=true)(hx:s.ev x=some (pI a))(hy:s.ev y=some (pI b)):bD P C n o s (s.putO o.dst (pI (min a b))):=
 bD.quiet (cQ hd) fun m a' w h=>by
  obtain⟨h1,h3⟩:=cD.leaf_eq (h.eval hx)
  obtain⟨h2,h4⟩:=cD.leaf_eq (h.eval hy)
  have he:(if b<a then b else a)=min a b:=by rw [Int.min_def];split<;>split<;>omega
  refine⟨.int .i64 (min a b),?_,cD.leaf ?_⟩
  ·unfold execOp
   simp [ho,resolve,invoke,builtin,h1,h2,Builtin.min_,Builtin.min2,he]
  ·rw [← he]
   split
   ·exact h4
   ·exact h3
end
section
variable {P:Program} {C:nR} {n:Nat} {s:AS} {o:Oper} {x y:Operand} {T T':TypeId}
theorem rMn{a b:Nat}(ho:o.op= .call { callee:= .builtin .min,args:= #[x,y],argTypes:= #[T,T'] }:=by exact rfl)(hd:bJ o.dst n=true:=by exact rfl)(hx:s.ev x=some (pN a):=by exact rfl)(hy:s.ev y=some (pN b):=by exact rfl):bD P C n o s (s.putO o.dst (pN (min a b))):=by
 have h:=bD.minI (P:=P) (C:=C) ho hd hx hy
 have e:(min (a:Int) (b:Int))=((min a b:Nat):Int):=by omega
 rw [e] at h
 exact h
end
section
variable {P:Program} {C:nR} {n:Nat} {s:AS} {o:Oper} {Q:Exit→AS→Prop}
theorem AL.nilQ{ops:Array Oper}{rest:List Oper}{T yT t:TypeId}{x:Operand}{sz:Nat}{es:List (List Tr)}(hT:P.underlying T=some (.slice t))(h: ∀b:Bool,(b=true→es= [])→AL P C n ops rest Q (s.putO o.dst (.t (.leaf (.bool b)))))
 (ho:o.op= .binOp .eql T x (.const (.slice none 0 0)) yT:=by exact rfl) (hd:bJ o.dst n=true:=by exact rfl) (hx:s.ev x=some (.t (.row sz es)):=by exact rfl) (hg:o.guard=none:=by exact rfl):AL P C n ops (o::rest) Q s:=fun m a w hr=>by
 have hv:=hr.eval hx
 have hv':cD _ w (.row sz es) (a.eval x):=hv
 have key: ∃A cap,a.eval x= .slice A es.length cap∧(A.isNone=true→es= []):=by
  generalize a.eval x=v at hv'
  cases hv' with
  |row c h1 h2 h3 h4=>
   refine⟨_,_,rfl,fun hn=>?_⟩
   cases es with
   |nil=>rfl
   |cons e l=>
    obtain⟨b,off,ha,_⟩:=h3 (by simp)
    rw [ha] at hn
    cases hn
 obtain⟨A,cap,hA,hb⟩:=key
 refine wpList_plain hg fun K hK=>?_
 have hrun:(execOp a.eval o).run P w= .ok (.value (.bool A.isNone)) w:=by
  have h1:=Lib.run_eql_slice_nil (P:=P) w T t A es.length cap 0 0 hT
  unfold execOp
  simp only [ho,hA]
  have h2:a.eval (.const (.slice none 0 0))= .slice none 0 0:=rfl
  simp only [h2]
  rw [Sem.run_bind]
  simp [eqGuard,h1]
 unfold Oper.wp
 rw [hrun]
 exact hK _ w (h A.isNone hb m _ w (hr.put (cQ hd) (cD.leaf (by trivial))))
end
section
variable {P:Program} {C:nR} {n:Nat} {s:AS}
theorem Wk.fullLit{i E sz N r:Nat}{es:List (List Tr)}{b:Bool}(hx:s.lk i=some (.full sz N r))(hrow:s.st.rows[r]?=some ⟨E,sz,es,b⟩)(hl:es.length=N):Wk C n s (s.put i (.lit sz es)):=fun m a w h=>by
 refine⟨m,h.dfr,h.tsz,h.sto,fun j q hq=>?_,h.ev⟩
 rw [AS.lk_put] at hq
 split at hq
 ·rename_i e
  subst e
  cases hq
  obtain⟨v,hv,row,g,q1,q2,q3,q4,q5⟩:=h.env j _ hx
  refine⟨v,hv,?_⟩
  rw [hrow] at q1
  cases q1
  obtain⟨-,-,hplace⟩:=h.sto.row r _ hrow
  rcases hplace with⟨z1,-⟩|⟨g',c',cur,z1,hob,hcs,hfit,hmax,hrep⟩
  ·rw [q4] at z1;cases z1
  rw [q4] at z1
  injection z1 with z1
  injection z1 with e1 e2
  subst e1 e2
  subst q5
  have:cD (kJ C.av s.st m) w (.row sz es) (.slice (some ⟨g,0,none⟩) es.length N):=hrep
  rw [hl] at this
  exact⟨this,some ⟨g,0,none⟩,by rw [hl]⟩
 ·exact h.env j q hq
end
end Go.Proofs.YtfcoaagbccmahaaGreat

namespace Go.Proofs.YtfcoaagbccmahaaGreat
open Go.RowKit Go.WalkArith Go.IntWalk Go.WideShapes
section
variable {av:Nat→Nat→Prop} {s st':c4} {m m':jP} {w w':World} {ks:List Nat} {rs:List l3}
def S6(s:c4)(m m':jP)(ks:List Nat)(i:Nat):Option (Nat×Nat):=if i<s.rows.length then m.γ i else m'.γ (ks.getD (i-s.rows.length) 0)
theorem amB(h:eH s ⟨[],[]⟩ [] [])(hs:eW av s m w)(hst:eW (B7 av s ⟨[],[]⟩ m [] [] w) st' m' w')(he:Ev ⟨[],[]⟩ (m.via [] []) w st' m' w')
 (hrow: ∀i row,rs[i]?=some row→st'.rows[ks.getD i 0]?=some row) (hks: ∀i j,i<rs.length→j<rs.length→ks.getD i 0=ks.getD j 0→i=j):
 Ev s m w ⟨s.boxes,s.rows++rs⟩ ⟨m.ρ,S6 s m m' ks⟩ w'∧eW av ⟨s.boxes,s.rows++rs⟩ ⟨m.ρ,S6 s m m' ks⟩ w'∧
 (∀b o,b<w'.heap.size→kJ (B7 av s ⟨[],[]⟩ m [] [] w) st' m' b o→kJ av ⟨s.boxes,s.rows++rs⟩ ⟨m.ρ,S6 s m m' ks⟩ b o):=by
 have old: ∀i,i<s.rows.length→S6 s m m' ks i=m.γ i:=fun i hi=>if_pos hi
 have new: ∀i,S6 s m m' ks (s.rows.length+i)=m'.γ (ks.getD i 0):=fun i=>by
  unfold S6
  rw [if_neg (by omega),show s.rows.length+i-s.rows.length=i by omega]
 have hfresh: ∀i row g c,rs[i]?=some row→m'.γ (ks.getD i 0)=some (g,c)→w.heap.size≤g:=fun i row g c hi hg=>by
  rcases he.rfresh _ row g c (hrow i row hi) hg with⟨row0,c0,hr,-⟩|hf
  ·simp at hr
  ·exact hf
 have rk: ∀(i:Nat) (z:l3) (g c:Nat),(s.rows++rs)[i]?=some z→S6 s m m' ks i=some (g,c)→(s.rows[i]?=some z∧m.γ i=some (g,c))∨ ∃j,i=s.rows.length+j∧rs[j]?=some z∧m'.γ (ks.getD j 0)=some (g,c):=fun i z g c hi hg=>by
  rcases Nat.lt_or_ge i s.rows.length with hl|hl
  ·rw [List.getElem?_append_left hl] at hi
   rw [old i hl] at hg
   exact .inl ⟨hi,hg⟩
  ·obtain⟨j,rfl⟩: ∃j,i=s.rows.length+j:=⟨i-s.rows.length,by omega⟩
   rw [List.getElem?_append_right hl,show s.rows.length+j-s.rows.length=j by omega] at hi
   rw [new] at hg
   exact .inr ⟨j,rfl,hi,hg⟩
 have okk: ∀b o,b<w.heap.size→s.ok m b o→c4.ok ⟨s.boxes,s.rows++rs⟩ ⟨m.ρ,S6 s m m' ks⟩ b o:=fun b o hb hk=>by
  refine⟨fun i z hi=>hk.1 i z hi,fun i z g c hi hg e=>?_⟩
  rcases rk i z g c hi hg with⟨h1,h2⟩|⟨j,-,h2,h3⟩
  ·exact hk.2 i z g c h1 h2 e
  ·have:=hfresh j z g c h2 h3;omega
 have ev:Ev s m w ⟨s.boxes,s.rows++rs⟩ ⟨m.ρ,S6 s m m' ks⟩ w':=by
  refine⟨he.os,he.tape,he.output,he.size,fun b hb h1 h2=>he.blk b hb (fun i x hi=>by simp at hi) (fun r row0 g c hr _=>by simp at hr),fun b o hb hk=>he.cell b o hb (h.ok (av:=fun _ _=>False) (w:=w) ⟨id,hk⟩).2,okk,fun i y hi=>⟨⟨y,hi⟩,rfl⟩,fun i z hi=> .inl ⟨z,hi⟩,fun i row0 hi=>⟨row0,?_,rfl,Nat.le_refl _,?_⟩,fun i z g c hi hg=>?_⟩
  ·show(s.rows++rs)[i]?=_
   rw [List.getElem?_append_left (cU hi)];exact hi
  ·exact⟨fun _=>old i (cU hi),fun hw=>⟨hw,old i (cU hi)⟩⟩
  ·rcases rk i z g c hi hg with⟨h1,h2⟩|⟨j,-,h2,h3⟩
   ·exact .inl ⟨z,c,h1,h2⟩
   ·exact .inr (hfresh j z g c h2 h3)
 have back: ∀b o,b<w'.heap.size→kJ (B7 av s ⟨[],[]⟩ m [] [] w) st' m' b o→kJ av ⟨s.boxes,s.rows++rs⟩ ⟨m.ρ,S6 s m m' ks⟩ b o:=fun b o _ hk=>by
  rcases Nat.lt_or_ge b w.heap.size with hlt|hge
  ·by_cases hA:kJ av s m b o
   ·exact⟨hA.1,okk b o hlt hA.2⟩
   ·exact absurd ⟨hlt,hA,fun i x h1 h2=>by simp at h1,fun r row0 g c h1 h2 h3=>by simp at h1⟩ hk.1
  ·refine⟨fun ho=>by have:=hs.avlt _ _ ho;omega,fun i z hi=>?_,fun i z g c hi hg e=>?_⟩
   ·have:=hs.box_lt hi
    show m.ρ i≠b
    omega
   ·rcases rk i z g c hi hg with⟨h1,h2⟩|⟨j,-,h2,h3⟩
    ·have:=hs.row_lt h1 h2
     omega
    ·exact hk.2.2 _ _ g c (hrow j z h2) h3 e
 refine⟨ev,⟨fun i z hi=>?_,fun i i' z z' hi hi' hne=>hs.binj i i' z z' hi hi' hne,fun i z hi=>?_,fun i i' z z' g c c' hi hi' hg hg'=>?_,fun i z r row0 g c hi hr hg=>?_,fun b o hb=>Nat.lt_of_lt_of_le (hs.avlt b o hb) he.size,fun i z g c hi hg o ho=>?_,fun i z hi=>hs.avb i z hi⟩,back⟩
 ·obtain⟨vs,k1,k2⟩:=hs.box i z hi
  exact⟨vs,k1.keep (he.blk _ k1.lt (fun j x hj=>by simp at hj) (fun r row0 g c hr _=>by simp at hr)),f6.mono ev _ _ k2⟩
 ·rcases Nat.lt_or_ge i s.rows.length with hl|hl
  ·have hi':s.rows[i]?=some z:=by
    have h0:(s.rows++rs)[i]?=some z:=hi
    rwa [List.getElem?_append_left hl] at h0
   obtain⟨k1,k2,k3⟩:=hs.row i z hi'
   refine⟨k1,k2,?_⟩
   simp only [old i hl]
   rcases k3 with k3|⟨g,c,cur,q1,q2,q3,q4,q5,q6⟩
   ·exact .inl k3
   ·exact .inr ⟨g,c,cur,q1,(he.blk g q2.lt (fun j x hj e=>by simp at hj) (fun r row0 g' c' hr _=>by simp at hr)).trans q2,q3,q4,q5,RV.mono ev (.t _) _ q6⟩
  ·obtain⟨j,rfl⟩: ∃j,i=s.rows.length+j:=⟨i-s.rows.length,by omega⟩
   have hj:rs[j]?=some z:=by
    have h0:(s.rows++rs)[s.rows.length+j]?=some z:=hi
    rwa [List.getElem?_append_right hl,show s.rows.length+j-s.rows.length=j by omega] at h0
   obtain⟨k1,k2,k3⟩:=hst.row _ _ (hrow j z hj)
   refine⟨k1,k2,?_⟩
   simp only [new]
   rcases k3 with k3|⟨g,c,cur,q1,q2,q3,q4,q5,q6⟩
   ·exact .inl k3
   ·exact .inr ⟨g,c,cur,q1,q2,q3,q4,q5,cD.mono q6 (Nat.le_refl _) back (fun _ _ _ _=>rfl)⟩
 ·rcases rk i z g c hi hg with⟨h1,h2⟩|⟨j,rfl,h2,h3⟩<;>rcases rk i' z' g c' hi' hg' with⟨h1',h2'⟩|⟨j',rfl,h2',h3'⟩
  ·exact hs.rinj i i' z z' g c c' h1 h1' h2 h2'
  ·have:=hs.row_lt h1 h2
   have:=hfresh j' z' g c' h2' h3'
   omega
  ·have:=hs.row_lt h1' h2'
   have:=hfresh j z g c h2 h3
   omega
  ·have h4:=hst.rinj _ _ z z' g c c' (hrow j z h2) (hrow j' z' h2') h3 h3'
   rw [hks j j' (cU h2) (cU h2') h4]
 ·rcases rk r row0 g c hr hg with⟨h1,h2⟩|⟨j,-,h2,h3⟩
  ·exact hs.br i z r row0 g c hi h1 h2
  ·have:=hs.box_lt hi
   have:=hfresh j row0 g c h2 h3
   show m.ρ i≠g
   omega
 ·rcases rk i z g c hi hg with⟨h1,h2⟩|⟨j,-,h2,h3⟩
  ·exact hs.avr i z g c h1 h2 o ho
  ·have:=hs.avlt _ _ ho
   have:=hfresh j z g c h2 h3
   omega
end
def adJ(P:Program)(f:FuncId)(args:List PV)(rs:List l3)(R:List Nat→PV):Prop:=
 cB P f args ⟨[],[]⟩ (fun r t=> ∃ks:List Nat,r=R ks∧(∀i row,rs[i]?=some row→t.rows[ks.getD i 0]?=some row)∧(∀i j,i<rs.length→j<rs.length→ks.getD i 0=ks.getD j 0→i=j))
theorem C8{ok ok':Nat→Nat→Prop}{st st':c4}{m m':jP}{w:World}{sz k k':Nat}{es:List (List Tr)}{row:l3}{v:Value}(h:RV ok st m w (.acc sz es k) v)(hr:st.rows[k]?=some row)(hr':st'.rows[k']?=some row)(hg:m'.γ k'=m.γ k)(hk: ∀b o,b<w.heap.size→ok b o→ok' b o):RV ok' st' m' w (.acc sz es k') v:=by
 obtain⟨row0,h1,h2,h3,h4,h5⟩:=h
 rw [hr] at h1
 obtain rfl:=Option.some.inj h1
 exact⟨row,hr',h2,h3,cD.mono h4 (Nat.le_refl _) hk (fun _ _ _ _=>rfl),fun e=>by rw [hg];exact h5 e⟩
section
variable {P:Program} {C:nR} {n:Nat} {s:AS} {o:Oper}
theorem bD.callOwnG{f:FuncId}{fn:Func}{xs:List Operand}{ts:Array TypeId}{ps qs:List PV}{rs:List l3}{R:List Nat→PV}{q:PV}(ho:o.op= .call { callee:= .value (.func f),args:=⟨xs⟩,argTypes:=ts })(hd:bJ o.dst n=true)(hf:P.funcs[f]?=some fn)(hnm:(fn.name== "runtime.NumGoroutine")=false)(hb:fn.body.isNone=false)
 (hx:xs.map s.ev=ps.map some) (hle:sH ps (AV [] [] qs)) (hok:lH ⟨[],[]⟩ qs=true) (hc:adJ P f qs rs R)
 (hmv: ∀(ok ok':Nat→Nat→Prop) (st st':c4) (m m':jP) (w:World) (v:Value) (ks:List Nat),(∀i row,rs[i]?=some row→st.rows[ks.getD i 0]?=some row∧st'.rows[s.st.rows.length+i]?=some row∧m'.γ (s.st.rows.length+i)=m.γ (ks.getD i 0))→(∀b o,b<w.heap.size→ok b o→ok' b o)→RV ok st m w (R ks) v→RV ok' st' m' w q v):
 bD P C n o s ((⟨s.env,⟨s.st.boxes,s.st.rows++rs⟩⟩:AS).putO o.dst q):=fun m a w h K Q hK=>by
 have hp:eH s.st ⟨[],[]⟩ [] []:=eH.of trivial trivial (by decide) (by decide)
 have h2:=evL h hx
 have h1:(execOp a.eval o).run P w= .ok (.enter f ⟨xs.map a.eval⟩) w:=by
  have hcf:=hH (P:=P) hf hnm hb
  unfold execOp
  simp only [ho]
  simp [resolve,invoke,Deferred.ofValue,Act.eval,hcf]
 unfold Oper.wp
 rw [h1]
 have h3:=hc (B7 C.av s.st ⟨[],[]⟩ m [] [] w) (m.via [] []) w _ (hp.sto h.sto) (f6.unren hp (fun b o _ k=>hp.ok k) _ _ hok (sH.rv hle h2))
 refine Calls.mono h3 fun e w'=>?_;rintro⟨r,st',m',v,rfl,⟨ks,rfl,hrow,hks⟩,h4,h5,h6⟩
 obtain⟨q1,q2,q3⟩:=amB hp h.sto h4 h5 hrow hks
 refine hK _ _ w' ((h.step q1 q2).put (cQ hd) (hmv _ _ _ _ _ _ _ _ ks (fun i row hi=>⟨hrow i row hi,?_,?_⟩) q3 h6))
 ·show(s.st.rows++rs)[s.st.rows.length+i]?=_
  rw [List.getElem?_append_right (by omega),show s.st.rows.length+i-s.st.rows.length=i by omega]
  exact hi
 ·show S6 s.st m m' ks (s.st.rows.length+i)=_
  unfold S6
  rw [if_neg (by omega),show s.st.rows.length+i-s.st.rows.length=i by omega]
theorem RV.three{ok ok':Nat→Nat→Prop}{st st':c4}{m m':jP}{w:World}{v:Value}{a b c a' b' c':PV}(ha: ∀u,RV ok st m w a u→RV ok' st' m' w a' u)(hb: ∀u,RV ok st m w b u→RV ok' st' m' w b' u)(hc: ∀u,RV ok st m w c u→RV ok' st' m' w c' u)(h:RV ok st m w (.agg [a,b,c]) v):RV ok' st' m' w (.agg [a',b',c']) v:=by
 obtain⟨vs,rfl,hvs⟩:=h
 refine⟨vs,rfl,?_⟩
 rcases vs with _|⟨v0,_|⟨v1,_|⟨v2,_|⟨v3,vs⟩⟩⟩⟩<;>simp only [f6] at hvs
 ·exact hvs.2.elim
 ·exact hvs.2.2.elim
 ·exact⟨ha _ hvs.1,hb _ hvs.2.1,hc _ hvs.2.2.1,trivial⟩
 ·exact hvs.2.2.2.elim
abbrev am4(P:Program)(f:FuncId)(args:List PV)(r0 r1 r2:l3):Prop:=adJ P f args [r0,r1,r2] fun ks=> .agg [.acc r0.sz r0.es (ks.getD 0 0),.acc r1.sz r1.es (ks.getD 1 0),.acc r2.sz r2.es (ks.getD 2 0)]
abbrev am3(P:Program)(f:FuncId)(args:List PV)(r0:l3)(sz:Nat)(es:List (List Tr))(r2:l3):Prop:=adJ P f args [r0,r2] fun ks=> .agg [.acc r0.sz r0.es (ks.getD 0 0),.lit sz es,.acc r2.sz r2.es (ks.getD 1 0)]
section
variable {f:FuncId} {fn:Func} {xs:List Operand} {ts:Array TypeId} {ps qs:List PV} {r0 r1 r2:l3}
theorem bD.callOwn3(ho:o.op= .call { callee:= .value (.func f),args:=⟨xs⟩,argTypes:=ts })(hd:bJ o.dst n=true)(hf:P.funcs[f]?=some fn)(hnm:(fn.name== "runtime.NumGoroutine")=false)(hb:fn.body.isNone=false)
 (hx:xs.map s.ev=ps.map some) (hle:sH ps (AV [] [] qs)) (hok:lH ⟨[],[]⟩ qs=true) (hc:am4 P f qs r0 r1 r2):
 bD P C n o s ((⟨s.env,⟨s.st.boxes,s.st.rows++ [r0,r1,r2]⟩⟩:AS).putO o.dst (.agg [.acc r0.sz r0.es s.st.rows.length,.acc r1.sz r1.es (s.st.rows.length+1),.acc r2.sz r2.es (s.st.rows.length+2)])):=
 bD.callOwnG ho hd hf hnm hb hx hle hok hc fun ok ok' st st' m m' w v ks hr hk=>
  RV.three (fun u h=>C8 h (hr 0 r0 rfl).1 (hr 0 r0 rfl).2.1 (hr 0 r0 rfl).2.2 hk) (fun u h=>C8 h (hr 1 r1 rfl).1 (hr 1 r1 rfl).2.1 (hr 1 r1 rfl).2.2 hk) (fun u h=>C8 h (hr 2 r2 rfl).1 (hr 2 r2 rfl).2.1 (hr 2 r2 rfl).2.2 hk)
theorem bD.callOwn2{sz:Nat}{es:List (List Tr)}(ho:o.op= .call { callee:= .value (.func f),args:=⟨xs⟩,argTypes:=ts })(hd:bJ o.dst n=true)(hf:P.funcs[f]?=some fn)(hnm:(fn.name== "runtime.NumGoroutine")=false)(hb:fn.body.isNone=false)
 (hx:xs.map s.ev=ps.map some) (hle:sH ps (AV [] [] qs)) (hok:lH ⟨[],[]⟩ qs=true) (hc:am3 P f qs r0 sz es r2):
 bD P C n o s ((⟨s.env,⟨s.st.boxes,s.st.rows++ [r0,r2]⟩⟩:AS).putO o.dst (.agg [.acc r0.sz r0.es s.st.rows.length,.lit sz es,.acc r2.sz r2.es (s.st.rows.length+1)])):=
 bD.callOwnG ho hd hf hnm hb hx hle hok hc fun ok ok' st st' m m' w v ks hr hk=>
  RV.three (fun u h=>C8 h (hr 0 r0 rfl).1 (hr 0 r0 rfl).2.1 (hr 0 r0 rfl).2.2 hk) (fun u h=>⟨cD.mono h.1 (Nat.le_refl _) hk (fun _ _ _ _=>rfl),h.2⟩) (fun u h=>C8 h (hr 1 r2 rfl).1 (hr 1 r2 rfl).2.1 (hr 1 r2 rfl).2.2 hk)
end
end
section
variable {P:Program} {C:nR} {n:Nat} {s:AS} {o:Oper}
theorem rCl{f:FuncId}{fn:Func}{xs:List Operand}{ts:Array TypeId}{ps qs:List PV}{sz:Nat}{es:List (List Tr)}(hf:P.funcs[f]?=some fn)(hc:bQ P f qs (.lit sz es))(ho:o.op= .call { callee:= .value (.func f),args:=⟨xs⟩,argTypes:=ts }:=by exact rfl)(hd:bJ o.dst n=true:=by exact rfl)(hnm:(fn.name== "runtime.NumGoroutine")=false:=by kernel_rfl)(hb:fn.body.isNone=false:=by exact rfl)
 (hx:evA s xs=some ps:=by exact rfl) (hle:sH ps (AV [] [] qs):=by exact iX) (h1:lH ⟨[],[]⟩ qs=true:=by exact rfl):bD P C n o s (s.putO o.dst (.lit sz es)):=
 bD.congr (bD.callOwnG (rs:= []) (R:=fun _=> .lit sz es) (q:= .lit sz es) ho hd hf hnm hb (IZ hx) hle h1 (cB.mono hc fun r t ⟨h,_⟩=>⟨[],h,fun i row hi=>by simp at hi,fun i j hi=>by simp at hi⟩) fun ok ok' st st' m m' w v ks _ hk h=>⟨cD.mono h.1 (Nat.le_refl _) hk (fun _ _ _ _=>rfl),h.2⟩) (by simp)
end
section
variable {P:Program} {C:nR} {n:Nat} {s:AS} {o:Oper}
theorem bD.appendLit0{T E sz by_:Nat}{x y:Operand}{es:List (List Tr)}{p:PV}(ho:o.op= .call { callee:= .builtin .append,args:= #[x,y],argTypes:= #[T,T] })(hd:bJ o.dst n=true)
 (hx:s.ev x=some (.lit sz es)) (hy:s.ev y=some p) (hp:lB p=some (sz,[])) (hT:elemOf? P T=some (E,sz,by_)):bD P C n o s (s.putO o.dst (.lit sz es)):=
 bD.quiet (cQ hd) fun m a w h=>by
  obtain⟨i,hu,hi,hs,hby⟩:=elemOf?.spec hT
  have hl:=h.eval hx
  obtain⟨hr1,ad,hv1⟩:=hl
  obtain⟨ad2,cap2,hv2,-,-⟩:=(sY hp (h.eval hy)).shape
  refine⟨a.eval x,?_,hr1,ad,hv1⟩
  unfold execOp
  simp only [ho,resolve,invoke,builtin,Sem.run_bind,Sem.run_pure,Result.andThen_ok,List.map_toArray,List.map_cons,List.map_nil,hv1,hv2]
  have hfc: ∀W,(Builtin.firstCells i.size 0 (.slice ad2 0 cap2)).run P W= .ok #[] W:=fun W=>by
   cases ad2 with
   |none=>simp [Builtin.firstCells]
   |some q=>simp [Builtin.firstCells,loadCells,loadCellsFrom]
  cases ad with
  |none=>simp [Builtin.append_,run_underlying hu,Go.sizeOf,typeInfo,hi,Builtin.lenOf,hfc]
  |some q=>simp [Builtin.append_,run_underlying hu,Go.sizeOf,typeInfo,hi,Builtin.lenOf,hfc,storeCells]
theorem bD.appendLitA{T E sz by_:Nat}{x y:Operand}{es2:List (List Tr)}{p:PV}(ho:o.op= .call { callee:= .builtin .append,args:= #[x,y],argTypes:= #[T,T] })(hd:bJ o.dst n=true)
 (hx:s.ev x=some (.lit sz [])) (hy:s.ev y=some p) (hp:lB p=some (sz,es2)) (h2: ∀e∈es2,e.length=sz) (hne:es2≠ []) (hsz:0<sz)
 (hT:elemOf? P T=some (E,sz,by_)) (hz:(P.info? E).bind (fun i=>i.zero.map (fun z=>z.cells.size))=some sz) (hb:0<by_) (hlen:es2.length*by_≤140737488355328):
 bD P C n o s ((⟨s.env,s.st.addRow ⟨E,sz,es2,false⟩⟩:AS).putO o.dst (.acc sz es2 s.st.rows.length)):=
 bD.run hd (s1:=⟨s.env,s.st.addRow ⟨E,sz,es2,false⟩⟩) (fun m a w h=>by
  obtain⟨i,hu,hi,hs,hby⟩:=elemOf?.spec hT
  have hE:=DH (row:=⟨E,sz,[],false⟩) h.sto
  have hS:=GA (row:=⟨E,sz,[],false⟩) h.sto hsz rfl
  have h':=h.step hE hS
  obtain⟨-,ad,hv1⟩:=h'.eval hx
  replace hv1:a.eval x= .slice ad 0 0:=hv1
  have h3:=sY hp (h'.eval hy)
  obtain⟨b,off,c2,news,hv2,hnl,hnews,hone,hnd⟩:=h3.news h2 hne hsz
  have hpos2:0<es2.length:=List.length_pos_iff.2 hne
  have hlen:es2.length*i.bytes≤140737488355328:=by rw [hby];exact hlen
  have h63:es2.length≤140737488355328:=Nat.le_trans (Nat.le_mul_of_pos_right _ (by omega)) hlen
  cases hzz:i.zero with
  |none=>simp [hi,hzz] at hz
  |some z=>
   have hzs:z.cells.size=sz:=by simpa [hi,hzz] using hz
   have hrun: ∀v w1,(Builtin.append_ #[T,T] o.type #[a.eval x,a.eval y]).run P w= .ok v w1→(execOp a.eval o).run P w= .ok (.value v) w1:=fun v w1 hr=>by
    unfold execOp
    simp only [ho,resolve,invoke,builtin,Sem.run_bind,Sem.run_pure,Result.andThen_ok,List.map_toArray,List.map_cons,List.map_nil,hr]
   have happ:(Builtin.append_ #[T,T] o.type #[a.eval x,a.eval y]).run P w= .ok (.slice (some ⟨w.heap.size,0,none⟩) es2.length (grownCap w es2.length 0 E)) (w.drew.alloc (.cells (news.toArray++Builtin.zeroCells z.cells (grownCap w es2.length 0 E-es2.length)) E)):=by
    rw [hv1,hv2]
    cases ad with
    |none=>exact run_append_nil (P:=P) w T o.type E i z hu hi hzz ⟨b,off,none⟩ es2.length c2 news (by rw [hnl,hs]) hnews (by omega) (by omega) (by omega)
    |some A=>
     have:=run_append_grow (P:=P) w T o.type E i z hu hi hzz A 0 0 [] (by simp) (fun j v hj=>by simp at hj) ⟨b,off,none⟩ es2.length c2 news (by rw [hnl,hs]) hnews (by omega) (by omega) (growslice_fits (by omega) (by rw [Nat.zero_add];exact hlen))
     simpa only [Nat.zero_add,List.nil_append,Array.empty_append,List.size_toArray,show([]:List Value).toArray= #[] from rfl] using this
   have hG:SV C.av (s.st.addRow ⟨E,sz,[],false⟩) ⟨m.ρ,xC m.γ s.st.rows.length none⟩ w s.st.rows.length ⟨E,sz,[],false⟩ es2 w.heap.size (grownCap w es2.length 0 E) (news.toArray++Builtin.zeroCells z.cells (grownCap w es2.length 0 E-es2.length)) (w.drew.alloc (.cells (news.toArray++Builtin.zeroCells z.cells (grownCap w es2.length 0 E-es2.length)) E)):=by
    have hge:=grownCap_ge w es2.length 0 E
    refine⟨by show(s.st.rows++ [_])[s.st.rows.length]?=_;simp,rfl,rfl,rfl,by simp,fun b hb _=>Below.heap_alloc w.drew _ b hb,heap_alloc_new w.drew _,?_,by show 0+_≤_;omega,grownCap_le_maxLen w _ _ _ (by unfold maxLen;omega),h2,fun q e hq=>by simp at hq,fun q e hq j d hd=>?_,.inr (Nat.le_refl _),fun hc=>?_⟩
    ·show _=_*sz
     rw [Array.size_append,size_zeroCells,hzs]
     simp only [List.size_toArray,hnl]
     rw [← Nat.add_mul]
     congr 1
     omega
    ·obtain⟨v,hv,hr⟩:=hnd q e hq j d hd
     refine⟨v,?_,hr⟩
     show(news.toArray++_)[(0+q)*sz+j]?=_
     rw [Nat.zero_add,← Array.getElem?_toList,Array.toList_append,List.getElem?_append_left (cU hv),hv]
    ·rcases hc with hc|hc
     ·cases hc
     ·exact absurd hc hne
   have hst1:(s.st.addRow ⟨E,sz,[],false⟩).setRow s.st.rows.length { (⟨E,sz,[],false⟩:l3) with es:=([]:List (List Tr))++es2 }=s.st.addRow ⟨E,sz,es2,false⟩:=by
    simp [c4.setRow,c4.addRow,List.set_append_right]
   have hE1:=hE.trans (hG.ev hS)
   have hS1:=hG.sto hS
   have hA1:=hG.acc hS
   rw [hst1] at hE1 hS1 hA1
   refine⟨_,_,_,hrun _ _ happ,hE1,hS1,?_⟩
   simpa using hA1) rfl
end
end Go.Proofs.YtfcoaagbccmahaaGreat

namespace Go.Proofs.YtfcoaagbccmahaaGreat.W
set_option maxRecDepth 100000
set_option maxHeartbeats 40000000
noncomputable section
open Tryz Go.RowKit Go.Proofs
attribute [local irreducible] lt
abbrev lM:=aC→aC→Option Bool
abbrev wP:=(List aC)→(List aC)→Option Bool
def nL(m:lM):Prop:= ∀(pa:aC) (pb:aC) (r:Bool),m pa pb=some r→bQ Tryz.prog 20 [(aC.pv pa),(aC.pv pb)] (pB r:PV)
def F0(m:wP):Prop:= ∀(pa:List aC) (pb:List aC) (r:Bool),m pa pb=some r→bQ Tryz.prog 63 [bL pa,bL pb] (pB r:PV)
def wG(fu:Nat)(p0:lM)(p5:wP)(pa pb:aC):Option Bool:=sw (decide (pa.aBw=pb.aBw)) (sw (decide (pa.aCa=pb.aCa)) (sw (decide (pa.aBS.aBD=pb.aBS.aBD)&&decide (pa.aBS.aBS=pb.aBS.aBS)) (bd (p5 pa.aBt pb.aBt) fun x5=>some x5) (some false)) (some false)) (some false)
theorem J9(fu:Nat)(p0:lM)(p5:wP)(p8:nL p0)(pD:F0 p5):nL (wG fu p0 p5):=by
 intro pa pb r H
 refine qJ func20 H (fun C hC H=>?_)
 refine gQ 2 ?_;refine q1 (fE (lJ pa)) (q1 (fE (lJ pb)) ?_)
 refine gQ 10 ?_;refine dL 10 H (fun g1 H=>?_) fun g1 H=>?_
 ·refine gQ 7 ?_;refine dL 17 H (fun g2 H=>?_) fun g2 H=>?_
  ·refine qg g2 bZ (qg g2 (b6 [pI pa.aBS.aBD,pI pa.aBS.aBS]) (qg g2 bZ (qg g2 (b6 [pI pb.aBS.aBD,pI pb.aBS.aBS]) (qg g2 (bD.eqlP rfl rfl rfl rfl arU arV) ?_))))
   refine gQ 2 ?_;refine dL 24 H (fun g3 H=>?_) fun g3 H=>?_
   ·refine gQ 4 ?_;refine bM H fun x5 z4 H=>(qg g3 (bI func63 (pD pa.aBt pb.aBt _ z4)) ?_)
    exact gE 3
   exact gE 8
  exact gE 15
 exact gE 22
def SM(fu:Nat)(p0:lM)(p5:wP)(pa pb:List aC):Nat→Unit→Option (LR Unit Bool):=fun i2 _=>gd (i2<(pb).length) (bd (p0 (aT pa i2) (aT pb i2)) fun x7=>sw (!(x7)) (some (.ret false)) (some (.next ())))
def M1(fu:Nat)(p0:lM)(p5:wP)(pa pb:List aC):Option Bool:=sw (!decide ((pa.length:Int)=(pb.length:Int))) (some false) (so (loopN (SM fu p0 p5 pa pb) (pa.length-0) 0 ()) fun _=>some true)
theorem YZ(fu:Nat)(p0:lM)(p5:wP)(p8:nL p0)(pD:F0 p5):F0 (M1 fu p0 p5):=by
 intro pa pb r H
 refine qJ func63 H (fun C hC H=>?_)
 refine gQ 13 ?_;refine bF H (fun h1 H=>gE 4) fun h1 H=>?_;refine gQ 6 ?_;refine fS 0 (aC.trs_len _) (fun hl3=>?_)
 try dsimp only at hl3
 refine bU (σ:=Unit) (fun i2 _=>⟨[(0,bL pa),(1,bL pb),(4,pB false),(5,pN i2)],⟨[],[]⟩⟩) (fun _=>⟨[(4,pB false)],⟨[],[]⟩⟩) (eJ H) ?_ ?_
 ·rintro i2 ⟨⟩ H
  refine gQ 8 ?_;refine cT H (fun h4 h4l H=>?_) (fun h4 H=>?_)
  ·refine gQ 4 ?_;refine cA H fun z5 H=>(bM H fun x7 z6 H=>(dW (dI [0] bH (dI [5] bH (dI [17,18] m9 (dI [19] (gS (aC.cs (aT pa i2))) (dI [1] bH (dI [5] bH (dI [21,22] m9 (dI [23] (gS (aC.cs (aT pb i2))) (dI [20,24] (bI func20 (p8 (aT pa i2) (aT pb i2) _ z6)) (dI [25] J6 (dN ?_)))))))))))))
   refine bF H (fun h8 H=>gE 4) fun h8 H=>?_;exact gE 6
  exact gE 0
 rintro⟨⟩ H
 exact gE 4
mutual
def fC:Nat→aC→aC→Option Bool
 |0,_,_=>none
 |fu+1,pa,pb=>wG fu (fC fu) (m5 fu) pa pb
def m5:Nat→(List aC)→(List aC)→Option Bool
 |0,_,_=>none
 |fu+1,pa,pb=>M1 fu (fC fu) (m5 fu) pa pb
end
theorem MH(fu:Nat):nL (fC fu)∧F0 (m5 fu):=by
 induction fu with
 |zero=>exact⟨(fun pa pb r H=>by simp only [fC] at H;cases H),(fun pa pb r H=>by simp only [m5] at H;cases H)⟩
 |succ fu ih=>exact⟨(fun pa pb r H=>by simp only [fC] at H;exact J9 fu (fC fu) (m5 fu) ih.1 ih.2 pa pb r H),(fun pa pb r H=>by simp only [m5] at H;exact YZ fu (fC fu) (m5 fu) ih.1 ih.2 pa pb r H)⟩
theorem OQ(fu:Nat):nL (fC fu):=(MH fu).1
abbrev wO:=aC→Option aC
abbrev oJ:=(List aC)→Option ((List aC))
def A9(m:wO):Prop:= ∀(pe:aC) (r:aC),m pe=some r→bQ Tryz.prog 129 [(aC.pv pe)] ((aC.pv r):PV)
def r9(m:oJ):Prop:= ∀(p3:List aC) (r:(List aC)),m p3=some r→vL Tryz.prog 168 [bL p3] ⟨[],[]⟩ [] 55 5 (aC.trs (r)) (fun k=>eX r k)
theorem YX{m:oJ}(h:r9 m)(p3:List aC)(r:(List aC))(H:m p3=some r):bQ Tryz.prog 168 [bL p3] (bL r:PV):=(h p3 r H).plain (fun _=>iX) (hp:=abF)
def M0(fu:Nat)(p6:wO)(p4:oJ)(pe:aC):Option aC:=bd (p4 pe.aBt) fun x2=>some (aC.mk pe.aBw pe.aCa pe.aBS x2)
theorem YY(fu:Nat)(p6:wO)(p4:oJ)(pE:A9 p6)(pC:r9 p4):A9 (M0 fu p6 p4):=by
 intro pe r H
 refine qJ func129 H (fun C hC H=>?_)
 refine gQ 2 ?_;refine q1 (fE (lJ pe)) ?_;refine gQ 6 ?_;refine bM H fun x2 z1 H=>(q1 (bI func168 (YX (pC) pe.aBt _ z1)) ?_)
 refine gQ 5 ?_;refine q1 (b6 [pI pe.aBw,pI pe.aCa,pI pe.aBS.aBD,pI pe.aBS.aBS,bL x2]) ?_;exact gE 2
def K6(fu:Nat)(p6:wO)(p4:oJ)(p3:List aC):Nat→((List aC))→Option (LR ((List aC)) ((List aC))):=fun i1 v3=>bd (p6 (aT p3 i1)) fun x7=>gd ((v3).length+(([x7]:List aC)).length≤68719476736) (some (.next (v3++([x7]:List aC))))
def FZ(fu:Nat)(p6:wO)(p4:oJ)(p3:List aC):Option ((List aC)):=so (loopN (K6 fu p6 p4 p3) (p3.length-0) 0 ([])) fun v3=>some v3
theorem TQ(fu:Nat)(p6:wO)(p4:oJ)(pE:A9 p6)(pC:r9 p4):r9 (FZ fu p6 p4):=by
 intro p3 r H
 unfold vL
 refine qJ func168 H (fun C hC H=>?_)
 refine gQ 6 ?_;refine q1 (nU ([]:List aC)) ?_;refine gQ 7 ?_;refine fS 0 (aC.trs_len _) (fun hl4=>?_)
 try dsimp only at hl4
 refine bU (σ:=(List aC)) (fun i1 v3=>⟨[(0,bL p3),(2,.nil),(3,eX v3 0),(4,pN i1)],⟨[],[⟨55,5,aC.trs (v3),false⟩]⟩⟩) (fun v3=>⟨[(2,.nil),(3,eX v3 0)],⟨[],[⟨55,5,aC.trs (v3),false⟩]⟩⟩) (eJ H) ?_ ?_
 ·rintro i1 v3 H
  refine gQ 8 ?_;refine cT H (fun h5 h5l H=>?_) (fun h5 H=>?_)
  ·refine gQ 8 ?_;refine q1 (gS (aC.cs (aT p3 i1))) (bM H fun x7 z6 H=>(q1 (bI func129 (pE (aT p3 i1) _ z6)) (q1 (nU ([x7]:List aC)) (cA H fun z8 H=>(q1 (jO z8) ?_)))))
   exact gE 7
  exact gE 0
 rintro v3 H
 refine gQ 5 ?_;refine cO.ret ?_
 obtain rfl:_=r:=(s3 H:)
 exact PG (st':=⟨[],[⟨55,5,aC.trs (v3),false⟩]⟩) ⟨0,rfl,rfl,rfl⟩
mutual
def j7:Nat→aC→Option aC
 |0,_=>none
 |fu+1,pe=>M0 fu (j7 fu) (jG fu) pe
def jG:Nat→(List aC)→Option ((List aC))
 |0,_=>none
 |fu+1,p3=>FZ fu (j7 fu) (jG fu) p3
end
theorem O3(fu:Nat):A9 (j7 fu)∧r9 (jG fu):=by
 induction fu with
 |zero=>exact⟨(fun pe r H=>by simp only [j7] at H;cases H),(fun p3 r H=>by simp only [jG] at H;cases H)⟩
 |succ fu ih=>exact⟨(fun pe r H=>by simp only [j7] at H;exact YY fu (j7 fu) (jG fu) ih.1 ih.2 pe r H),(fun p3 r H=>by simp only [jG] at H;exact TQ fu (j7 fu) (jG fu) ih.1 ih.2 p3 r H)⟩
theorem SL(fu:Nat):A9 (j7 fu):=(O3 fu).1
theorem K7(fu:Nat):r9 (jG fu):=(O3 fu).2
def xO(fu:Nat)(pe:aC)(p7:List Int)(x2:aC):Nat→(Int×Int×Int×Int×(List aC))→Option (LR (Int×Int×Int×Int×(List aC)) aC):=fun i3 (v4,v5,v6,v7,v8)=>some (.next (3,(aT p7 i3),0,0,([(aC.mk v4 v5 (aF.mk v6 v7) v8)]:List aC)))
def jK(fu:Nat)(pe:aC)(p7:List Int):Option aC:=bd (j7 fu pe) fun x2=>so (loopN (xO fu pe p7 x2) (p7.length-0) 0 (x2.aBw,x2.aCa,x2.aBS.aBD,x2.aBS.aBS,x2.aBt)) fun(v4,v5,v6,v7,v8)=>some (aC.mk v4 v5 (aF.mk v6 v7) v8)
theorem xP(fu:Nat)(pe:aC)(p7:List Int)(r:aC)(H:jK fu pe p7=some r):bQ Tryz.prog 120 [(aC.pv pe),rI p7] ((aC.pv r)):=by
 refine qJ func120 H (fun C hC H=>?_)
 refine gQ 2 ?_;refine q1 (fE (lJ pe)) ?_;refine gQ 4 ?_;refine q1 (b6 [pI pe.aBw,pI pe.aCa,pI pe.aBS.aBD,pI pe.aBS.aBS,bL pe.aBt]) (bM H fun x2 z1 H=>(q1 (bI func129 (SL fu pe _ z1)) ?_))
 refine gQ 8 ?_;refine fS 1 (eG _) (fun hl9=>?_)
 try dsimp only at hl9
 refine bU (σ:=Int×Int×Int×Int×(List aC)) (fun i3 (v4,v5,v6,v7,v8)=>⟨[(1,rI p7),(4,.ptr 1 0),(5,.ptr 2 0),(6,pN i3)],⟨[some ⟨55,lJ pe⟩,some ⟨55,[pI 0,pI 0,pI 0,pI 0,.nil]⟩,some ⟨55,[pI v4,pI v5,pI v6,pI v7,bL v8]⟩],[]⟩⟩) (fun(v4,v5,v6,v7,v8)=>⟨[(4,.ptr 1 0),(5,.ptr 2 0)],⟨[some ⟨55,lJ pe⟩,some ⟨55,[pI 0,pI 0,pI 0,pI 0,.nil]⟩,some ⟨55,[pI v4,pI v5,pI v6,pI v7,bL v8]⟩],[]⟩⟩) (eJ H) ?_ ?_
 ·rintro i3 ⟨v4,v5,v6,v7,v8⟩ H
  refine gQ 8 ?_;refine cT H (fun h10 h10l H=>?_) (fun h10 H=>?_)
  ·refine gQ 3 ?_;refine dW (dI [1] bH (dI [6] bH (dI [15,16] m9 (dI [17] vE (dD [5] (b6 [pI v4,pI v5,pI v6,pI v7,bL v8]) (dI [19] (fY ([(aC.mk v4 v5 (aF.mk v6 v7) v8)]:List aC)) (dI [18,20] oP (iY [5,21] hM (dN ?_)))))))))
   exact gE 5
  exact gE 0
 rintro⟨v4,v5,v6,v7,v8⟩ H
 refine gQ 2 ?_;refine q1 (b6 [pI v4,pI v5,pI v6,pI v7,bL v8]) ?_;exact gE 2
abbrev l6:=aC→Option aC
abbrev lK:=(List aC)→Option ((List aC))
def oZ(m:l6):Prop:= ∀(pe:aC) (r:aC),m pe=some r→bQ Tryz.prog 80 [(aC.pv pe)] ((aC.pv r):PV)
def nF(m:lK):Prop:= ∀(pl:List aC) (r:(List aC)),m pl=some r→bQ Tryz.prog 77 [bL pl] (.lit 5 (aC.trs (r)):PV)
def yB(fu:Nat)(p2:l6)(p1:lK)(pe:aC):Option aC:=bd (p1 pe.aBt) fun x2=>some (aC.mk pe.aBw pe.aCa pe.aBS x2)
theorem LV(fu:Nat)(p2:l6)(p1:lK)(pA:oZ p2)(p9:nF p1):oZ (yB fu p2 p1):=by
 intro pe r H
 refine qJ func80 H (fun C hC H=>?_)
 refine gQ 2 ?_;refine q1 (fE (lJ pe)) ?_;refine gQ 6 ?_;refine bM H fun x2 z1 H=>(q1 (rCl func77 (p9 pe.aBt _ z1)) ?_)
 refine gQ 5 ?_;refine q1 (b6 [pI pe.aBw,pI pe.aCa,pI pe.aBS.aBD,pI pe.aBS.aBS,.lit 5 (aC.trs (x2))]) ?_;exact gE 2
def BR(fu:Nat)(p2:l6)(p1:lK)(pl:List aC):Nat→((List aC))→Option (LR ((List aC)) ((List aC))):=fun i2 v3=>bd (p2 (aT pl i2)) fun x7=>gd (i2=(v3).length) (some (.next (v3++([x7]:List aC))))
def vT(fu:Nat)(p2:l6)(p1:lK)(pl:List aC):Option ((List aC)):=gd (pl.length≤68719476736) (so (loopN (BR fu p2 p1 pl) (pl.length-0) 0 ([])) fun v3=>gd ((v3).length=pl.length) (some v3))
theorem J5(fu:Nat)(p2:l6)(p1:lK)(pA:oZ p2)(p9:nF p1):nF (vT fu p2 p1):=by
 intro pl r H
 refine qJ func77 H (fun C hC H=>?_)
 refine gQ 8 ?_;refine cA H fun z1 H=>(q1 (bD.makeSlice (N:=pl.length) rfl rfl rfl rfl aqQ.h asL.h (by decide) (Nat.le_trans (Nat.mul_le_mul_left _ z1) (by decide)) (Nat.le_trans z1 (by decide))) ?_)
 refine gQ 9 ?_;refine fS 0 (aC.trs_len _) (fun hl4=>?_)
 try dsimp only at hl4
 refine bU (σ:=(List aC)) (fun i2 v3=>⟨[(2,.nil),(3,.full 5 (pl.length) 0),(9,bL pl),(10,pN pl.length),(11,pN i2)],⟨[],[⟨55,5,aC.trs (v3),true⟩]⟩⟩) (fun v3=>⟨[(2,.nil),(3,.full 5 (pl.length) 0)],⟨[],[⟨55,5,aC.trs (v3),true⟩]⟩⟩) (eJ H) ?_ ?_
 ·rintro i2 v3 H
  refine gQ 5 ?_;refine cT H (fun h5 h5l H=>?_) (fun h5 H=>?_)
  ·refine gQ 7 ?_;refine q1 (gS (aC.cs (aT pl i2))) ?_;refine gQ 7 ?_;refine q1 (b6 [pI ((aT pl i2).aBw),pI ((aT pl i2).aCa),pI ((aT pl i2).aBS.aBD),pI ((aT pl i2).aBS.aBS),bL ((aT pl i2).aBt)]) (bM H fun x7 z6 H=>(q1 (bI func80 (pA (aT pl i2) _ z6)) (q1 (bD.indexFull (k:=i2) rfl rfl rfl rfl h5l aqQ.h) (cA H fun z8 H=>?_))))
   refine q1 (bD.storeRptr (e:=aC.cs x7) (es2:=aC.trs (v3++([x7]:List aC))) 16 rfl rfl rfl rfl rfl rfl iX rfl rfl avK.h (by rw [aC.trs_len];exact z8) h5l (by rw [aC.trs_map,aC.trs_map,List.map_append];simp [aC.tr_cs])) ?_;exact gE 5
  exact gE 0
 rintro v3 H
 refine gQ 3 ?_;refine cA H fun z9 H=>?_;refine AL.weak (Wk.fullLit (i:=22) rfl rfl (by rw [aC.trs_len];exact z9)) ?_;exact gE 2
mutual
def eI:Nat→aC→Option aC
 |0,_=>none
 |fu+1,pe=>yB fu (eI fu) (fA fu) pe
def fA:Nat→(List aC)→Option ((List aC))
 |0,_=>none
 |fu+1,pl=>vT fu (eI fu) (fA fu) pl
end
theorem BP(fu:Nat):oZ (eI fu)∧nF (fA fu):=by
 induction fu with
 |zero=>exact⟨(fun pe r H=>by simp only [eI] at H;cases H),(fun pl r H=>by simp only [fA] at H;cases H)⟩
 |succ fu ih=>exact⟨(fun pe r H=>by simp only [eI] at H;exact LV fu (eI fu) (fA fu) ih.1 ih.2 pe r H),(fun pl r H=>by simp only [fA] at H;exact J5 fu (eI fu) (fA fu) ih.1 ih.2 pl r H)⟩
theorem D1(fu:Nat):oZ (eI fu):=(BP fu).1
theorem OE(fu:Nat):nF (fA fu):=(BP fu).2
def xF(fu:Nat)(pe:aC)(p7:List Int)(x2:aC):Nat→(Int×Int×Int×Int×(List aC))→Option (LR (Int×Int×Int×Int×(List aC)) aC):=fun i3 (v4,v5,v6,v7,v8)=>some (.next (3,(aT p7 i3),0,0,([(aC.mk v4 v5 (aF.mk v6 v7) v8)]:List aC)))
def gT(fu:Nat)(pe:aC)(p7:List Int):Option aC:=bd (eI fu pe) fun x2=>so (loopN (xF fu pe p7 x2) (p7.length-0) 0 (x2.aBw,x2.aCa,x2.aBS.aBD,x2.aBS.aBS,x2.aBt)) fun(v4,v5,v6,v7,v8)=>some (aC.mk v4 v5 (aF.mk v6 v7) v8)
theorem xG(fu:Nat)(pe:aC)(p7:List Int)(r:aC)(H:gT fu pe p7=some r):bQ Tryz.prog 114 [(aC.pv pe),rI p7] ((aC.pv r)):=by
 refine qJ func114 H (fun C hC H=>?_)
 refine gQ 2 ?_;refine q1 (fE (lJ pe)) ?_;refine gQ 4 ?_;refine q1 (b6 [pI pe.aBw,pI pe.aCa,pI pe.aBS.aBD,pI pe.aBS.aBS,bL pe.aBt]) (bM H fun x2 z1 H=>(q1 (bI func80 (D1 fu pe _ z1)) ?_))
 refine gQ 10 ?_;refine fS 1 (eG _) (fun hl9=>?_)
 try dsimp only at hl9
 refine bU (σ:=Int×Int×Int×Int×(List aC)) (fun i3 (v4,v5,v6,v7,v8)=>⟨[(4,.ptr 1 0),(5,.ptr 2 0),(10,rI p7),(11,pN p7.length),(12,pN i3)],⟨[some ⟨55,lJ pe⟩,some ⟨55,[pI 0,pI 0,pI 0,pI 0,.nil]⟩,some ⟨55,[pI v4,pI v5,pI v6,pI v7,bL v8]⟩],[]⟩⟩) (fun(v4,v5,v6,v7,v8)=>⟨[(4,.ptr 1 0),(5,.ptr 2 0)],⟨[some ⟨55,lJ pe⟩,some ⟨55,[pI 0,pI 0,pI 0,pI 0,.nil]⟩,some ⟨55,[pI v4,pI v5,pI v6,pI v7,bL v8]⟩],[]⟩⟩) (eJ H) ?_ ?_
 ·rintro i3 ⟨v4,v5,v6,v7,v8⟩ H
  refine gQ 5 ?_;refine cT H (fun h10 h10l H=>?_) (fun h10 H=>?_)
  ·refine gQ 11 ?_;refine q1 (b6 [pI v4,pI v5,pI v6,pI v7,bL v8]) (q1 (fY ([(aC.mk v4 v5 (aF.mk v6 v7) v8)]:List aC)) ?_)
   exact gE 7
  exact gE 0
 rintro⟨v4,v5,v6,v7,v8⟩ H
 refine gQ 2 ?_;refine q1 (b6 [pI v4,pI v5,pI v6,pI v7,bL v8]) ?_;exact gE 2
def ab9(m:(List aD)→Option ((List aD))):Prop:= ∀(p3:List aD) (r:(List aD)),m p3=some r→vL Tryz.prog 167 [bW p3] ⟨[],[]⟩ [] 32 4 (aD.trs (r)) (fun k=>nV r k)
def K3(fu:Nat)(p3:List aD):Nat→((List aD))→Option (LR ((List aD)) ((List aD))):=fun i1 v3=>gd (gK ((aT p3 i1).aBu)) (gd ((v3).length+(([(aD.mk ((aT p3 i1).aBz) ((aT p3 i1).aBu))]:List aD)).length≤68719476736) (some (.next (v3++([(aD.mk ((aT p3 i1).aBz) ((aT p3 i1).aBu))]:List aD)))))
def FW(fu:Nat)(p3:List aD):Option ((List aD)):=so (loopN (K3 fu p3) (p3.length-0) 0 ([])) fun v3=>some v3
theorem K4(fu:Nat):ab9 (FW fu):=by
 intro p3 r H
 unfold vL
 refine qJ func167 H (fun C hC H=>?_)
 refine gQ 6 ?_;refine q1 (nU ([]:List aD)) ?_;refine gQ 7 ?_;refine fS 0 (aD.trs_len _) (fun hl4=>?_)
 try dsimp only at hl4
 refine bU (σ:=(List aD)) (fun i1 v3=>⟨[(0,bW p3),(2,.nil),(3,nV v3 0),(4,pN i1)],⟨[],[⟨32,4,aD.trs (v3),false⟩]⟩⟩) (fun v3=>⟨[(2,.nil),(3,nV v3 0)],⟨[],[⟨32,4,aD.trs (v3),false⟩]⟩⟩) (eJ H) ?_ ?_
 ·rintro i1 v3 H
  refine gQ 8 ?_;refine cT H (fun h5 h5l H=>?_) (fun h5 H=>?_)
  ·refine gQ 3 ?_;refine cA H fun z6 H=>(cA H fun z7 H=>(dW (dI [3] bH (dI [0] bH (dI [4] bH (dI [13,14] m9 (dI [15] wX (dI [16] vE (dI [0] bH (dI [4] bH (dI [18,19] m9 (dI [20] wX (dI [21] (gS (aA.cs ((aT p3 i1).aBu))) ?_)))))))))))))
   refine dI [22] (bI func56 (tW ((aT p3 i1).aBu) z6)) (dI [17,23] oP (dE [24] (nU ([(aD.mk ((aT p3 i1).aBz) ((aT p3 i1).aBu))]:List aD)) (dE [12,25] (jO z7) (dI [26] bH (dN ?_)))))
   exact gE 5
  exact gE 0
 rintro v3 H
 refine gQ 5 ?_;refine cO.ret ?_
 obtain rfl:_=r:=(s3 H:)
 exact PG (st':=⟨[],[⟨32,4,aD.trs (v3),false⟩]⟩) ⟨0,rfl,rfl,rfl⟩
end
end Go.Proofs.YtfcoaagbccmahaaGreat.W

namespace Go.Proofs.YtfcoaagbccmahaaGreat
open Go.RowKit Go.WalkArith Go.IntWalk Go.WideShapes
theorem aeF(l:List aA)(hl:l.length≤68719476735):vL Tryz.prog 107 [aU l] ⟨[],[]⟩ [] 30 3 (aA.trs l) (fun k=> .acc 3 (aA.trs l) k):=by
 unfold vL
 refine qI Tryz.func107 (fun C hC=>?_)
 refine gQ 8 ?_;refine AL.nilQ Tryz.underlying28 (fun b hb=>?_)
 refine gQ 1 ?_;refine cO.cond (b:=b) rfl (fun hb'=>?_) (fun hb'=>?_)
 ·obtain rfl:l= []:=by
   have:=hb hb'
   cases l with
   |nil=>rfl
   |cons a l=>simp [aA.trs] at this
  refine gQ 4 ?_;refine cO.wk (Wk.reg (i:=2) 30 3 (by decide) rfl) (cO.ret ?_)
  exact PG (st':=⟨[],[⟨30,3,aA.trs [],false⟩]⟩) ⟨0,rfl,rfl,rfl⟩
 refine gQ 3 ?_;refine q1 (nU ([]:List aA)) (q1 bH (q1 (jO (a:= []) (b:=l) (by simpa using Nat.le_succ_of_le hl)) ?_))
 refine gQ 2 ?_;refine cO.ret ?_;exact PG (st':=⟨[],[⟨30,3,aA.trs l,false⟩]⟩) ⟨0,rfl,rfl,rfl⟩
theorem aa2(l:List Int)(hl:l.length≤68719476735):vL Tryz.prog 76 [rI l] ⟨[],[]⟩ [] 3 1 (d9 l) (fun k=> .acc 1 (d9 l) k):=by
 unfold vL
 refine qI Tryz.func76 (fun C hC=>?_)
 refine gQ 8 ?_;refine AL.nilQ Tryz.underlying64 (fun b hb=>?_)
 refine gQ 1 ?_;refine cO.cond (b:=b) rfl (fun hb'=>?_) (fun hb'=>?_)
 ·obtain rfl:l= []:=by
   have:=hb hb'
   cases l with
   |nil=>rfl
   |cons a l=>simp [d9] at this
  refine gQ 4 ?_;refine cO.wk (Wk.reg (i:=2) 3 1 (by decide) rfl) (cO.ret ?_)
  exact PG (st':=⟨[],[⟨3,1,d9 [],false⟩]⟩) ⟨0,rfl,rfl,rfl⟩
 refine gQ 3 ?_;refine q1 (nU ([]:List Int)) (q1 bH (q1 (jO (a:= []) (b:=l) (by simpa using Nat.le_succ_of_le hl)) ?_))
 refine gQ 2 ?_;refine cO.ret ?_;exact PG (st':=⟨[],[⟨3,1,d9 l,false⟩]⟩) ⟨0,rfl,rfl,rfl⟩
end Go.Proofs.YtfcoaagbccmahaaGreat

namespace Go.Proofs.YtfcoaagbccmahaaGreat.W
open Go.RowKit Go.Proofs
mutual
def lD(l:List aJ):aA→aA
 | .mk k n xs=>if k=1 then(if HW l n=true then CT l n else .mk k n (GZ l xs)) else .mk k n (GZ l xs)
def GZ(l:List aJ):List aA→List aA
 | []=> []
 |x::r=>lD l x::GZ l r
end
theorem ES(l:List aJ): ∀xs,GZ l xs=xs.map (lD l)
 | []=>rfl
 |x::r=>by rw [GZ,ES l r,List.map_cons]
theorem abN{l:List aJ}{xs:List aA}(hb:xs.length≤68719476735)(h: ∀x∈xs,bS fun fu=>rG fu l x=some (lD l x)):bS fun fu=>mL fu l xs=some (GZ l xs):=by
 refine bS.succ ((bS.list h).imp fun fu hf=>?_)
 simp only [mL,H4]
 rw [MC (g:=lD l) fun i s hi hp=>?_,ES]
 ·rfl
 ·rw [OP,hY (hf _ (cE hi)) rfl,fT (by simp;omega) rfl]
theorem amC{l:List aJ}(hl:qP l): ∀t:aA,gK t→bS fun fu=>rG fu l t=some (lD l t):=by
 refine aA.ind fun k n xs ih hb=>?_
 have h1:=hb.len
 refine bS.succ ((abN (l:=l) (xs:=xs) h1 fun x hx=>ih x hx (AD (t:= .mk k n xs) hx hb)).imp fun fu hf=>?_)
 simp only [rG,VY,aA.aBw.eq_1,aA.aBs.eq_1,aA.aBt.eq_1,hf,lD]
 by_cases hk:k=1
 ·rw [if_pos hk]
  refine kS (decide_eq_true hk) (fT hl ?_)
  cases HW l n<;>rfl
 ·rw [if_neg hk]
  exact jA (decide_eq_false hk) rfl
theorem Z0(l:List aJ)(t:aA)(hl:qP l)(hb:gK t):bQ Tryz.prog 110 [.t (.row 4 (aJ.trs l)),(aA.pv t)] (aA.pv (lD l t)):=by
 obtain⟨fu,h⟩:=(amC hl t hb).get
 exact amD fu l t _ h
theorem aa4{l:List aJ}{xs:List aA}(hb:xs.length≤68719476735)(h: ∀x∈xs,bS fun fu=>q8 fu l x=some (lD l x)):bS fun fu=>mE fu l xs=some (GZ l xs):=by
 refine bS.succ ((bS.list h).imp fun fu hf=>?_)
 simp only [mE,G5]
 refine fT (by omega) ?_
 rw [MC (g:=lD l) fun i s hi hp=>?_,ES]
 ·exact fT (by simp) rfl
 ·rw [N5,hY (hf _ (cE hi)) rfl,fT hp.symm rfl]
theorem alN{l:List aJ}(hl:qP l): ∀t:aA,gK t→bS fun fu=>q8 fu l t=some (lD l t):=by
 refine aA.ind fun k n xs ih hb=>?_
 have h1:=hb.len
 refine bS.succ ((aa4 (l:=l) (xs:=xs) h1 fun x hx=>ih x hx (AD (t:= .mk k n xs) hx hb)).imp fun fu hf=>?_)
 simp only [q8,UY,aA.aBw.eq_1,aA.aBs.eq_1,aA.aBt.eq_1,hf,lD]
 by_cases hk:k=1
 ·rw [if_pos hk,U5 fu l n hl]
  refine kS (decide_eq_true hk) ?_
  unfold HW CT
  cases DB l n<;>rfl
 ·rw [if_neg hk]
  exact jA (decide_eq_false hk) rfl
theorem ZH(l:List aJ)(t:aA)(hl:qP l)(hb:gK t):bQ Tryz.prog 16 [.t (.row 4 (aJ.trs l)),(aA.pv t)] (aA.pv (lD l t)):=by
 obtain⟨fu,h⟩:=(alN hl t hb).get
 exact alO fu l t _ h
theorem ZU{σ β:Type}{F:Nat→σ→Option (LR σ β)}{x:β}: ∀k i v,loopN F k i v=some (.inl x)→ ∃j u,F j u=some (.ret x)
 |0,i,v,h=>by rw [loopN] at h;cases h
 |k+1,i,v,h=>by
  rw [loopN] at h
  cases hf:F i v with
  |none=>rw [hf] at h;cases h
  |some y=>
   rw [hf] at h
   cases y with
   |next s=>exact ZU k (i+1) s h
   |brk s=>cases h
   |ret z=>cases h;exact⟨i,v,hf⟩
theorem ae1{fu:Nat}{s a b:List aJ}{ps ts:List aA}(h:fF fu s ps ts=some (a,false,b)):a= []:=by
 cases fu with
 |zero=>rw [fF] at h;cases h
 |succ fu=>
  rw [fF] at h
  unfold xJ at h
  cases hd:(!decide ((((ps.length:Nat):Int):Int)=((ts.length:Nat):Int))) with
  |true=>rw [hd] at h;cases h;rfl
  |false=>
   rw [hd] at h
   obtain⟨y,hy,H⟩:=eJ (hd0 (show so _ _=some (a,false,b) from h))
   cases y with
   |inr v=>
    have H2:Hd (some (v,true,v)) (fun r=>r=(a,false,b)):=H
    have e:(v,true,v)=(a,false,b):=s3 (K:=fun r=>r=(a,false,b)) H2
    cases e
   |inl r=>
    obtain⟨j,u,hf⟩:=ZU _ _ _ hy
    have hr:r=(a,false,b):=H
    subst hr
    unfold zD at hf
    obtain⟨z,hz,H⟩:=bdI (gdI (hd0 hf)).2
    obtain⟨z1,z2,z3⟩:=z
    cases z2 with
    |true=>exact absurd (s3 (gdI H).2) (by simp)
    |false=>
     have e:=s3 H
     cases e
     rfl
theorem alS(p t:aA)(hp:Tr.bulkL p.tr≤68719476735)(ht:gK t):bQ Tryz.prog 119 [(aA.pv p),(aA.pv t)] (.tup [.t (.row 4 (aJ.trs (jE p t))),.t (.leaf (.bool (l4 p t)))]):=by
 obtain⟨fu,hf⟩:=(ZI p).get
 refine ZJ (fu+1) p t (jE p t,l4 p t) ?_
 have h1:=aa3 (fu:=fu) (ps:= [p]) (by simpa using hf) (ts:= [t]) (s:= []) rfl (by simpa using ht) qP.nil (by rw [UC];simp only [List.length_nil];omega)
 rw [FD] at h1
 unfold N8 l4 jE
 cases hq:jY p t [] with
 |none=>
  rw [hq] at h1
  obtain⟨a,b,h1⟩:=h1
  obtain rfl:=ae1 h1
  exact hY h1 (jA rfl rfl)
 |some s=>
  rw [hq] at h1
  exact hY h1 (kS rfl (fT rfl rfl))
end Go.Proofs.YtfcoaagbccmahaaGreat.W

namespace Go.Proofs.YtfcoaagbccmahaaGreat.W
open Go.RowKit Go.Proofs
attribute [local irreducible] lt
theorem N3{l:LB}{s:ByteArray}:uI l s=true↔s∈l:=by
 unfold uI
 rw [List.any_eq_true]
 constructor
 ·rintro⟨x,hx,h⟩
  rw [decide_eq_true_eq] at h
  exact h ▸ hx
 ·exact fun h=>⟨s,h,decide_eq_true rfl⟩
def BJ(w:aH):LB:=w.aBr.flatMap fun p=>p.aBI.flatMap fun t=>t.aBB
theorem aa1{α β:Type}[Wt α](f:α→List β)(h: ∀x,(f x).length≤wt x): ∀l:List α,(l.flatMap f).length≤wl l
 | []=>Nat.zero_le _
 |x::l=>by
  rw [List.flatMap_cons,List.length_append,adF]
  have:=h x
  have:=aa1 f h l
  omega
theorem ad3{w:aH}(hw:wt w≤13000000):(BJ w).length≤13000000:=by
 have h:=aa1 (fun p:aN=>p.aBI.flatMap fun t=>t.aBB) (fun p=>by
  have h1:=aa1 (fun t:aV=>t.aBB) (fun t=>by
   have:=aV.wt_eq t
   have:=bB t.aBB
   omega) p.aBI
  have:=aN.wt_eq p
  omega) w.aBr
 have:=aH.wt_eq w
 unfold BJ
 omega
theorem PC{w:aH}{n s:ByteArray}(h:s∈(tC w n).1.aBB):s∈BJ w:=by
 unfold tC at h
 cases hq:(List.range' 0 w.aBr.length).findSome? (tQ w n) with
 |none=>rw [hq] at h;cases h
 |some r=>
  rw [hq] at h
  obtain⟨i,hi,hq⟩:=List.exists_of_findSome?_eq_some hq
  unfold tQ at hq
  obtain⟨k,hk,hq⟩:=List.exists_of_findSome?_eq_some hq
  rw [List.mem_range'_1] at hi hk
  split at hq
  ·cases hq
   exact List.mem_flatMap.2 ⟨_,cE (by omega:i<w.aBr.length),List.mem_flatMap.2 ⟨_,cE (by omega:k<(aT w.aBr i).aBI.length),h⟩⟩
  ·cases hq
def FA(U:LB)(v:LB):Nat:=U.countP fun s=> !uI v s
theorem aeY{U v v':LB}(h: ∀x∈v,x∈v'):FA U v'≤FA U v:=by
 refine List.countP_mono_left fun x _ hx=>?_
 rw [Bool.not_eq_true',Bool.eq_false_iff,ne_eq,N3] at hx ⊢
 exact fun k=>hx (h x k)
theorem ZS{v:LB}{s:ByteArray}(hn:uI v s=false): ∀ {U:LB},s∈U→FA U (v++ [s])<FA U v
 |x::U,h=>by
  have hm:=aeY (U:=U) (v:=v) (v':=v++ [s]) fun x hx=>List.mem_append_left _ hx
  unfold FA at hm ⊢
  rw [List.countP_cons,List.countP_cons]
  by_cases hx:x=s
  ·subst hx
   have h1:uI (v++ [x]) x=true:=N3.2 (by simp)
   rw [h1,hn]
   simp only [Bool.not_true,Bool.not_false,if_true]
   simp
   omega
  ·have ih:=ZS hn (U:=U) (by
    rcases List.mem_cons.1 h with h|h
    ·exact absurd h.symm hx
    ·exact h)
   unfold FA at ih
   have h1:(if(!uI (v++ [s]) x)=true then 1 else 0)≤(if(!uI v x)=true then 1 else 0:Nat):=by
    cases hq:uI v x with
    |true=>
     have:uI (v++ [s]) x=true:=N3.2 (List.mem_append_left _ (N3.1 hq))
     rw [this]
     exact Nat.le_refl _
    |false=>cases uI (v++ [s]) x<;>simp
   omega
def O9(w:aH):Nat→LB→ByteArray→LB
 |0,out,_=>out
 |n+1,out,name=>(tC w name).1.aBB.foldl (fun v s=>if uI v s=true then v else O9 w n (v++ [s]) s) out
def SOk(w:aH)(m:Nat)(v:LB):Prop:=v.length+FA (BJ w) v≤13000000∧FA (BJ w) v≤m
theorem ZG{σ α:Type}(P:σ→Prop){g:σ→α→σ}: ∀ {l:List α} {v:σ},(∀v x,x∈l→P v→P (g v x))→P v→P (l.foldl g v)
 | [],v,_,h=>h
 |x::l,v,hs,h=>ZG P (l:=l) (fun v y hy=>hs v y (List.mem_cons_of_mem _ hy)) (hs v x (by simp) h)
theorem OU{w:aH}{m:Nat}{v:LB}{s:ByteArray}(h:SOk w m v)(hs:s∈BJ w)(hn:uI v s=false):SOk w (m-1) (v++ [s])∧0<m∧v.length<13000000:=by
 have h1:=ZS hn hs
 obtain⟨h2,h3⟩:=h
 refine⟨⟨?_,by omega⟩,by omega,by omega⟩
 rw [List.length_append,List.length_singleton]
 omega
theorem SOk.le{w:aH}{m k:Nat}{v:LB}(h:SOk w m v)(hk:m≤k):SOk w k v:=⟨h.1,Nat.le_trans h.2 hk⟩
theorem PB{w:aH}: ∀n m out name,SOk w m out→SOk w m (O9 w n out name)
 |0,m,out,name,h=>h
 |n+1,m,out,name,h=>by
  rw [O9]
  refine ZG (SOk w m) (fun v s hs hv=>?_) h
  split
  ·exact hv
  ·rename_i hn
   exact(PB n (m-1) _ s (OU hv (PC hs) (by simpa using hn)).1).le (by omega)
theorem akK{w:aH}: ∀n m out name,SOk w m out→13000001+m<n→hZ n w out name=some (O9 w n out name)
 |0,m,out,name,_,h=>by omega
 |n+1,m,out,name,h,hn=>by
  rw [hZ,O9]
  unfold AN
  rw [D5]
  show so (loopN (yD n (hZ n) w out name (tC w name).1 (tC w name).2.1 (tC w name).2.2) ((tC w name).1.aBB.length-0) 0 out) _=_
  rw [kM (l:=(tC w name).1.aBB) (g:=fun v s=>if uI v s=true then v else O9 w n (v++ [s]) s) (fun _ v=>SOk w m v) (fun i v hi hv=>by
   unfold yD
   have hs:=PC (cE hi)
   generalize aT (tC w name).1.aBB i=s at hs ⊢
   rw [NT]
   show sw (!uI v s) _ _=_∧_
   cases hq:uI v s with
   |true=>exact⟨rfl,hv⟩
   |false=>
    obtain⟨k1,k2,k3⟩:=OU hv hs hq
    exact⟨fT (by simp only [List.length_singleton];omega) (hY (akK n (m-1) _ s k1 (by omega)) rfl),(PB n (m-1) _ s k1).le (by omega)⟩) h]
  rfl
theorem akQ{w:aH}(hw:wt w≤13000000): ∀n m out name,SOk w m out→13000001+m<n→kI n w name out=some (O9 w n out name)
 |0,m,out,name,_,h=>by omega
 |n+1,m,out,name,h,hn=>by
  rw [kI,O9]
  unfold FX
  rw [BY n w name (aH.small_wt hw (by omega))]
  show so (loopN (C1 n (kI n) w name out (tC w name).1 (tC w name).2.1 (tC w name).2.2) ((tC w name).1.aBB.length-0) 0 out) _=_
  rw [kM (l:=(tC w name).1.aBB) (g:=fun v s=>if uI v s=true then v else O9 w n (v++ [s]) s) (fun _ v=>SOk w m v) (fun i v hi hv=>by
   unfold C1
   have hs:=PC (cE hi)
   generalize aT (tC w name).1.aBB i=s at hs ⊢
   rw [Z8]
   show sw (!uI v s) _ _=_∧_
   cases hq:uI v s with
   |true=>exact⟨rfl,hv⟩
   |false=>
    obtain⟨k1,k2,k3⟩:=OU hv hs hq
    exact⟨fT (by simp only [List.length_singleton];omega) (hY (akQ hw n (m-1) _ s k1 (by omega)) rfl),(PB n (m-1) _ s k1).le (by omega)⟩) h]
  rfl
def yV(fu:Nat)(w:aH)(name:ByteArray):LB:=O9 w fu [] name
theorem T7{w:aH}(hw:wt w≤13000000):SOk w 13000000 []:=by
 have h:=ad3 hw
 have h1:FA (BJ w) []≤(BJ w).length:=List.countP_le_length
 refine⟨?_,?_⟩
 ·rw [List.length_nil];omega
 ·omega
theorem ahZ{fu:Nat}{w:aH}(hw:wt w≤13000000)(hf:27000000≤fu)(name:ByteArray):qF fu w name=some (yV fu w name):=by
 unfold qF yV
 rw [akK fu 13000000 [] name (T7 hw) (by omega)]
 rfl
theorem aiI{fu:Nat}{w:aH}(hw:wt w≤13000000)(hf:27000000≤fu)(name:ByteArray):qL fu w name=some (yV fu w name):=by
 unfold qL yV
 rw [akQ hw fu 13000000 [] name (T7 hw) (by omega)]
 rfl
theorem XF{fu:Nat}{w:aH}(hw:wt w≤13000000)(name:ByteArray):(yV fu w name).length≤13000000:=by
 have h:=(PB fu 13000000 [] name (T7 hw)).1
 unfold yV
 omega
def O8(w:aH)(a:ByteArray)(f:ByteArray→List Int×Bool)(i:Nat):Option (List Int×Bool):=if(f (aT (tC w a).1.aBB i)).2=true then some ([((i:Nat):Int)]++(f (aT (tC w a).1.aBB i)).1,true) else none
def kB(w:aH):Nat→ByteArray→ByteArray→List Int×Bool
 |0,a,b=>if a=b then([],true) else([],false)
 |k+1,a,b=>if a=b then([],true) else((List.range' 0 (tC w a).1.aBB.length).findSome? (O8 w a fun s=>kB w k s b)).getD ([],false)
theorem QQ(w:aH): ∀k a b,(kB w k a b).1.length≤k
 |0,a,b=>by rw [kB];split<;>exact Nat.le_refl _
 |k+1,a,b=>by
  rw [kB]
  split
  ·exact Nat.zero_le _
  ·cases h:(List.range' 0 (tC w a).1.aBB.length).findSome? (O8 w a fun s=>kB w k s b) with
   |none=>exact Nat.zero_le _
   |some r=>
    obtain⟨i,hi,h⟩:=List.exists_of_findSome?_eq_some h
    unfold O8 at h
    split at h
    ·cases h
     have:=QQ w k (aT (tC w a).1.aBB i) b
     show([((i:Nat):Int)]++(kB w k (aT (tC w a).1.aBB i) b).1).length≤_
     rw [List.length_append,List.length_singleton]
     omega
    ·cases h
theorem aeN{w:aH}: ∀k n a b,k≤8→k<n→l7 n w a b ((k:Nat):Int)=some (kB w k a b)
 |k,0,a,b,_,h=>by omega
 |0,n+1,a,b,hk,hn=>by
  rw [l7,kB]
  unfold I3
  by_cases h:a=b
  ·rw [if_pos h];exact kS (decide_eq_true h) rfl
  ·rw [if_neg h];exact jA (decide_eq_false h) (kS rfl rfl)
 |k+1,n+1,a,b,hk,hn=>by
  rw [l7,kB]
  unfold I3
  by_cases h:a=b
  ·rw [if_pos h];exact kS (decide_eq_true h) rfl
  ·rw [if_neg h]
   refine jA (decide_eq_false h) (jA (decide_eq_false (by omega)) ?_)
   rw [D5]
   have hl:=n4 (f:=LX n (l7 n) w a b ((k+1:Nat):Int) (tC w a).1 (tC w a).2.1 (tC w a).2.2) (q:=O8 w a fun s=>kB w k s b) (fun r=>r) (s:=()) (n:=(tC w a).1.aBB.length) (fun i hi=>by
    unfold LX O8
    generalize aT (tC w a).1.aBB i=s
    have h1:=QQ w k s b
    rw [show aZ (((k+1:Nat):Int)-1)=((k:Nat):Int) from by rw [JZ (by omega) (by omega)];omega,aeN k n s b (by omega) (by omega)]
    show sw (kB w k s b).2 _ _=_
    cases h2:(kB w k s b).2 with
    |true=>exact fT (by simp only [List.length_singleton];omega) (by rw [if_pos rfl])
    |false=>rw [if_neg (by simp)];rfl) _ 0 rfl
   show so (LY n (l7 n) w a b ((k+1:Nat):Int) (tC w a).1 (tC w a).2.1 (tC w a).2.2) _=_
   unfold LY
   refine(congrArg (fun x=>so x _) hl).trans ?_
   simp only [Nat.sub_zero]
   cases(List.range' 0 (tC w a).1.aBB.length).findSome? (O8 w a fun s=>kB w k s b)<;>rfl
theorem aeM(fu:Nat)(hf:100≤fu)(w:aH)(a b:ByteArray):kU fu w a b=some (kB w 8 a b):=by
 unfold kU
 rw [show(8:Int)=((8:Nat):Int) from rfl,aeN 8 fu a b (by omega) (by omega)]
 rfl
theorem afI{w:aH}(hw:wt w≤13000000): ∀k n a b,k≤8→13000001+k<n→iK n w a b ((k:Nat):Int)=some (kB w k a b)
 |k,0,a,b,_,h=>by omega
 |0,n+1,a,b,hk,hn=>by
  rw [iK,kB]
  unfold CC
  by_cases h:a=b
  ·rw [if_pos h];exact kS (decide_eq_true h) rfl
  ·rw [if_neg h]
   refine jA (decide_eq_false h) ?_
   rw [BY n w a (aH.small_wt hw (by omega))]
   show so (vC n (iK n) w a b ((0:Nat):Int) (tC w a).1 (tC w a).2.1 (tC w a).2.2) _=_
   unfold vC
   cases hz:(tC w a).1.aBB.length-0 with
   |zero=>rw [loopN];rfl
   |succ m=>
    rw [loopN]
    unfold zK
    rfl
 |k+1,n+1,a,b,hk,hn=>by
  rw [iK,kB]
  unfold CC
  by_cases h:a=b
  ·rw [if_pos h];exact kS (decide_eq_true h) rfl
  ·rw [if_neg h]
   refine jA (decide_eq_false h) ?_
   rw [BY n w a (aH.small_wt hw (by omega))]
   have hl:=n4 (f:=zK n (iK n) w a b ((k+1:Nat):Int) (tC w a).1 (tC w a).2.1 (tC w a).2.2) (q:=O8 w a fun s=>kB w k s b) (fun r=>r) (s:=()) (n:=(tC w a).1.aBB.length) (fun i hi=>by
    unfold zK O8
    generalize aT (tC w a).1.aBB i=s
    have h1:=QQ w k s b
    refine kS (decide_eq_true (by omega)) ?_
    rw [show aZ (((k+1:Nat):Int)-1)=((k:Nat):Int) from by rw [JZ (by omega) (by omega)];omega,afI hw k n s b (by omega) (by omega)]
    show sw (kB w k s b).2 _ _=_
    cases h2:(kB w k s b).2 with
    |true=>exact fT (by simp only [List.length_singleton];omega) (by rw [if_pos rfl])
    |false=>rw [if_neg (by simp)];rfl) _ 0 rfl
   show so (vC n (iK n) w a b ((k+1:Nat):Int) (tC w a).1 (tC w a).2.1 (tC w a).2.2) _=_
   unfold vC
   refine(congrArg (fun x=>so x _) hl).trans ?_
   simp only [Nat.sub_zero]
   cases(List.range' 0 (tC w a).1.aBB.length).findSome? (O8 w a fun s=>kB w k s b)<;>rfl
theorem afH{fu:Nat}{w:aH}(hw:wt w≤13000000)(hf:27000000≤fu)(a b:ByteArray):mO fu w a b=some (kB w 8 a b):=by
 unfold mO
 rw [show(8:Int)=((8:Nat):Int) from rfl,afI hw 8 fu a b (by omega) (by omega)]
 rfl
end Go.Proofs.YtfcoaagbccmahaaGreat.W

namespace Go.Proofs.YtfcoaagbccmahaaGreat.W
open Go.RowKit Go.Proofs
theorem PT(a b:ByteArray):(a==b)=decide (a=b):=by
 by_cases h:a=b
 ·subst h
  rw [AF]
  simp
 ·rw [EW h]
  simp [h]
theorem aA.eq_iff: ∀a b:aA,aA.eq a b=true↔a=b:=by
 refine aA.ind fun k n xs ih b=>?_
 obtain⟨l,m,ys⟩:=b
 have hL: ∀(l r:List aA),(∀x∈l,∀y,aA.eq x y=true↔x=y)→(aA.eqs l r=true↔l=r):=by
  intro l
  induction l with
  |nil=>intro r _;cases r<;>simp [aA.eqs]
  |cons x l ihl=>
   intro r hx
   cases r with
   |nil=>simp [aA.eqs]
   |cons y r=>
    rw [aA.eqs,Bool.and_eq_true,hx x (by simp) y,ihl r (fun z hz=>hx z (List.mem_cons_of_mem _ hz)),List.cons.injEq]
 rw [aA.eq,Bool.and_eq_true,Bool.and_eq_true,hL xs ys ih,PT,decide_eq_true_eq,beq_iff_eq]
 constructor
 ·rintro⟨rfl,rfl,rfl⟩;rfl
 ·intro h;cases h;exact⟨rfl,rfl,rfl⟩
end Go.Proofs.YtfcoaagbccmahaaGreat.W

namespace Go.Proofs.YtfcoaagbccmahaaGreat.W
open Go.RowKit Go.Proofs
attribute [local irreducible] lt
def DA(fu:Nat)(w:aH)(i:Nat)(b:aD):List aK:=
 [aK.mk (aD.mk b.aBz b.aBu) ((i:Nat):Int) []]++(List.range' 0 (yV fu w b.aBz).length).map fun k=>aK.mk (aD.mk (aT (yV fu w b.aBz) k) b.aBu) ((i:Nat):Int) (kB w 8 b.aBz (aT (yV fu w b.aBz) k)).1
def XS(fu:Nat)(w:aH)(l:List aD):List aK:=(List.range' 0 l.length).flatMap fun i=>DA fu w i (aT l i)
theorem alF{fu:Nat}{w:aH}(hw:wt w≤13000000)(i:Nat)(b:aD):(DA fu w i b).length≤13000001:=by
 have h:=XF (fu:=fu) hw b.aBz
 unfold DA
 rw [List.length_append,List.length_singleton,List.length_map,List.length_range']
 omega
theorem aeE{α:Type}{f:Nat→List α}{M:Nat}(h: ∀i,(f i).length≤M): ∀k j,((List.range' j k).flatMap f).length≤M*k
 |0,j=>by simp
 |k+1,j=>by
  rw [List.range'_succ,List.flatMap_cons,List.length_append,Nat.mul_succ]
  have:=h j
  have:=aeE h k (j+1)
  omega
theorem ad8{fu:Nat}{w:aH}(hw:wt w≤13000000){l:List aD}(hl:l.length≤1000):(XS fu w l).length≤13000001*1000:=by
 have h:=aeE (f:=fun i=>DA fu w i (aT l i)) (M:=13000001) (fun i=>alF hw i _) l.length 0
 unfold XS
 exact Nat.le_trans h (Nat.mul_le_mul_left _ hl)
section
variable {fu:Nat} {w:aH} (hw:wt w≤13000000) (hf:27000000≤fu) {l:List aD} (hl:l.length≤1000) (hb: ∀b∈l,gK b.aBu)
include hw hf hl hb
theorem ao8:uJ fu w l=some (XS fu w l):=by
 have h:=wC (F:=xZ fu w l) (g:=fun i=>DA fu w i (aT l i)) (n:=l.length) (M:=68719476736) (fun i v hi hv=>by
  have hB:=hb _ (cE hi)
  have hs:=XF (fu:=fu) hw (aT l i).aBz
  have h2:=D8 (F:=s7 fu w l i v (yV fu w (aT l i).aBz)) (g:=fun k=>aK.mk (aD.mk (aT (yV fu w (aT l i).aBz) k) (aT l i).aBu) ((i:Nat):Int) (kB w 8 (aT l i).aBz (aT (yV fu w (aT l i).aBz) k)).1) (n:=(yV fu w (aT l i).aBz).length) (M:=68719476736) (fun k u hk hu=>by
   unfold s7
   rw [aeM fu (by omega)]
   exact fT hu rfl) _ 0 (v++ [aK.mk (aD.mk (aT l i).aBz (aT l i).aBu) ((i:Nat):Int) []]) rfl (by
   unfold DA at hv
   rw [List.length_append,List.length_singleton,List.length_map,List.length_range'] at hv
   rw [List.length_append,List.length_singleton]
   omega)
  unfold xZ
  refine fT hB (fT (by
   unfold DA at hv
   rw [List.length_append,List.length_singleton] at hv
   rw [List.length_singleton]
   omega) ?_)
  rw [ahZ hw hf]
  show so (loopN (s7 fu w l i v (yV fu w (aT l i).aBz)) ((yV fu w (aT l i).aBz).length-0) 0 _) _=_
  rw [h2]
  unfold DA
  rw [List.append_assoc]
  rfl) _ 0 [] rfl (by
  have:=ad8 (fu:=fu) hw hl
  unfold XS at this
  rw [List.length_nil,Nat.zero_add,Nat.sub_zero]
  omega)
 unfold uJ
 rw [h]
 rfl
theorem apM:uX fu w l=some (XS fu w l):=by
 have h:=wC (F:=yL fu w l) (g:=fun i=>DA fu w i (aT l i)) (n:=l.length) (M:=68719476736) (fun i v hi hv=>by
  have hB:=hb _ (cE hi)
  have hs:=XF (fu:=fu) hw (aT l i).aBz
  have h2:=D8 (F:=s9 fu w l i v (yV fu w (aT l i).aBz)) (g:=fun k=>aK.mk (aD.mk (aT (yV fu w (aT l i).aBz) k) (aT l i).aBu) ((i:Nat):Int) (kB w 8 (aT l i).aBz (aT (yV fu w (aT l i).aBz) k)).1) (n:=(yV fu w (aT l i).aBz).length) (M:=68719476736) (fun k u hk hu=>by
   unfold s9
   rw [afH hw hf]
   exact fT hu rfl) _ 0 (v++ [aK.mk (aD.mk (aT l i).aBz (aT l i).aBu) ((i:Nat):Int) []]) rfl (by
   unfold DA at hv
   rw [List.length_append,List.length_singleton,List.length_map,List.length_range'] at hv
   rw [List.length_append,List.length_singleton]
   omega)
  unfold yL
  refine fT hB (fT (by
   unfold DA at hv
   rw [List.length_append,List.length_singleton] at hv
   rw [List.length_singleton]
   omega) ?_)
  rw [aiI hw hf]
  show so (loopN (s9 fu w l i v (yV fu w (aT l i).aBz)) ((yV fu w (aT l i).aBz).length-0) 0 _) _=_
  rw [h2]
  unfold DA
  rw [List.append_assoc]
  rfl) _ 0 [] rfl (by
  have:=ad8 (fu:=fu) hw hl
  unfold XS at this
  rw [List.length_nil,Nat.zero_add,Nat.sub_zero]
  omega)
 unfold uX
 rw [h]
 rfl
end
def uC(l:List aK)(g:aD):Int:=match l.findIdx? (fun a=>aD.eq a.aBZ g) with
 |some i=>((i:Nat):Int)
 |none=> -1
theorem U1(fu:Nat)(a b:aD):uK fu a b=some (aD.eq a b):=by
 obtain⟨n,x⟩:=a
 obtain⟨m,y⟩:=b
 unfold uK
 rw [aD.eq,PT]
 show sw (decide (n=m)) (some (aA.eq x y)) (some false)=_
 cases decide (n=m)<;>rfl
theorem I2(fu:Nat)(l:List aK)(g:aD):mF fu l g=some (uC l g):=by
 unfold mF fI uC
 rw [rF (p:=fun a=>aD.eq a.aBZ g) (fun i hi=>by
  unfold iZ sK
  refine ZW rfl ?_
  rw [U1]
  show sw (aD.eq (aT l i).aBZ g) _ _=_
  cases aD.eq (aT l i).aBZ g<;>rfl)]
 cases l.findIdx? fun a=>aD.eq a.aBZ g<;>rfl
end Go.Proofs.YtfcoaagbccmahaaGreat.W

namespace Go.Proofs.YtfcoaagbccmahaaGreat.W
open Go.RowKit Go.WalkArith Go.IntWalk Go.WideShapes Go.Proofs
attribute [local irreducible] lt
theorem UU{σ α:Type}(P:σ→Prop){g h:σ→α→σ}: ∀ {l:List α} {v:σ},(∀v x,x∈l→P v→g v x=h v x∧P (g v x))→P v→l.foldl g v=l.foldl h v
 | [],v,_,_=>rfl
 |x::l,v,hs,hv=>by
  obtain⟨e,hp⟩:=hs v x (by simp) hv
  rw [List.foldl_cons,List.foldl_cons,← e]
  exact UU P (fun v y hy=>hs v y (List.mem_cons_of_mem _ hy)) hp
theorem aaF{w:aH}: ∀n m out name,SOk w m out→m<n→O9 w (n+1) out name=O9 w n out name
 |0,m,out,name,_,h=>by omega
 |n+1,m,out,name,h,hn=>by
  rw [O9,O9]
  refine UU (SOk w m) (fun v s hs hv=>?_) h
  cases hq:uI v s with
  |true=>exact⟨rfl,hv⟩
  |false=>
   obtain⟨k1,k2,k3⟩:=OU hv (PC hs) hq
   refine⟨?_,?_⟩
   ·rw [if_neg (by simp),if_neg (by simp)]
    exact aaF n (m-1) _ s k1 (by omega)
   ·rw [if_neg (by simp)]
    exact(PB (n+1) (m-1) _ s k1).le (by omega)
theorem aaG{w:aH}(hw:wt w≤13000000)(name:ByteArray): ∀k,yV (27000000+k) w name=yV 27000000 w name
 |0=>rfl
 |k+1=>(aaF (27000000+k) 13000000 [] name (T7 hw) (by omega)).trans (aaG hw name k)
theorem alG{fu:Nat}{w:aH}(hw:wt w≤13000000)(hf:27000000≤fu)(l:List aD):XS fu w l=XS 27000000 w l:=by
 have h:yV fu w=yV 27000000 w:=funext fun name=>by
  have:=aaG hw name (fu-27000000)
  rwa [show 27000000+(fu-27000000)=fu by omega] at this
 unfold XS DA
 rw [h]
def J2(w:aH)(l:List aD):List aK:=XS 27000000 w l
structure R4 (w:aH) (l:List aD):Prop where
 hw:wt w≤13000000
 hl:l.length≤1000
 ht: ∀b∈l,gK b.aBu
set_option maxRecDepth 100000 in
theorem abJ(w:aH)(l:List aD)(h:R4 w l):am2 Tryz.prog 50 [(aH.pv w),bW l] 145 [aR w.aBr,bY (J2 w l)]:=by
 have hA:uJ 27000000 w l=some (J2 w l):=ao8 h.hw (Nat.le_refl _) h.hl h.ht
 unfold am2
 refine qI Tryz.func50 (fun C hC=>?_)
 refine gQ 2 ?_;refine q1 (fE ([aR w.aBr])) (q1 (bD.moveAny (.inl rfl)) ?_)
 refine gQ 2 ?_;refine dW (dD [2] (b6 [aR w.aBr]) (dD [2] (b6 [aR w.aBr]) (dI [1] bH (dI [6,7] (bI Tryz.func99 (S7 27000000 w l _ hA)) (dI [5,8] oP (dE [9] (fE [aR w.aBr,bY (J2 w l)]) (dI [10] bH (dN ?_))))))))
 refine cO.ret ?_;exact BD.mk (ps:= [_]) (.inr rfl) ⟨rfl,trivial⟩ rfl (sN.mk' (st':=⟨[none,some ⟨145,[aR w.aBr,bY (J2 w l)]⟩],[]⟩) ⟨⟨rfl,iX,rfl⟩,trivial⟩ rfl) (ZQ hC) (q:= .ptr 1 0) (.refl _) rfl ⟨1,rfl,rfl,fun i x hx=>by rcases i with _|_|i<;>simp at hx<;>simp,rfl⟩
end Go.Proofs.YtfcoaagbccmahaaGreat.W

namespace Go.Proofs.YtfcoaagbccmahaaGreat.W
set_option maxRecDepth 100000
set_option maxHeartbeats 40000000
noncomputable section
open Tryz Go.RowKit Go.Proofs
attribute [local irreducible] lt
abbrev B3:=aA→Option Int
def BZ(m:B3):Prop:= ∀(pt:aA) (r:Int),m pt=some r→bQ Tryz.prog 109 [(aA.pv pt)] (pI r:PV)
def OV(fu:Nat)(p3:B3)(pt:aA):Nat→Int→Option (LR Int Int):=fun i1 v2=>bd (p3 (aT pt.aBt i1)) fun x6=>some (.next (aZ (v2+x6)))
def H9(fu:Nat)(p3:B3)(pt:aA):Option Int:=so (loopN (OV fu p3 pt) (pt.aBt.length-0) 0 1) fun v2=>some v2
theorem WL(fu:Nat)(p3:B3)(pD:BZ p3):BZ (H9 fu p3):=by
 intro pt r H
 refine qJ func109 H (fun C hC H=>?_)
 refine gQ 2 ?_;refine q1 (fE (b9 pt)) ?_;refine gQ 11 ?_;refine cO.fact (cK 0 2 rfl rfl rfl (aA.trs_len _)) (fun hl3=>?_)
 try dsimp only at hl3
 refine bU (σ:=Int) (fun i1 v2=>⟨[(1,.ptr 0 0),(2,pI 0),(3,pI v2),(4,pN i1)],⟨[some ⟨30,b9 pt⟩],[]⟩⟩) (fun v2=>⟨[(2,pI 0),(3,pI v2)],⟨[some ⟨30,b9 pt⟩],[]⟩⟩) (eJ H) ?_ ?_
 ·rintro i1 v2 H
  refine gQ 9 ?_;refine cT H (fun h4 h4l H=>?_) (fun h4 H=>?_)
  ·refine gQ 9 ?_;refine q1 (gS (aA.cs (aT pt.aBt i1))) (bM H fun x6 z5 H=>(q1 (bI func109 (pD (aT pt.aBt i1) _ z5)) ?_))
   exact gE 8
  exact gE 0
 rintro v2 H
 exact gE 5
def mP:Nat→aA→Option Int
 |0,_=>none
 |fu+1,pt=>H9 fu (mP fu) pt
theorem YM(fu:Nat):BZ (mP fu):=by
 induction fu with
 |zero=>exact(fun pt r H=>by simp only [mP] at H;cases H)
 |succ fu ih=>exact(fun pt r H=>by simp only [mP] at H;exact WL fu (mP fu) ih pt r H)
theorem abX(fu:Nat):BZ (mP fu):=(YM fu)
abbrev BO:=aA→Option Int
def BN(m:BO):Prop:= ∀(pt:aA) (r:Int),m pt=some r→bQ Tryz.prog 105 [(aA.pv pt)] (pI r:PV)
def N9(fu:Nat)(p4:BO)(pt:aA):Nat→Int→Option (LR Int Int):=fun i1 v2=>bd (p4 (aT pt.aBt i1)) fun x6=>some (.next (aZ (v2+x6)))
def HF(fu:Nat)(p4:BO)(pt:aA):Option Int:=so (loopN (N9 fu p4 pt) (pt.aBt.length-0) 0 1) fun v2=>some v2
theorem U9(fu:Nat)(p4:BO)(pE:BN p4):BN (HF fu p4):=by
 intro pt r H
 refine qJ func105 H (fun C hC H=>?_)
 refine gQ 2 ?_;refine q1 (fE (b9 pt)) ?_;refine gQ 14 ?_;refine fS 7 (aA.trs_len _) (fun hl3=>?_)
 try dsimp only at hl3
 refine bU (σ:=Int) (fun i1 v2=>⟨[(2,pI 0),(3,pI v2),(7,aU pt.aBt),(8,pN pt.aBt.length),(9,pN i1)],⟨[some ⟨30,b9 pt⟩],[]⟩⟩) (fun v2=>⟨[(2,pI 0),(3,pI v2)],⟨[some ⟨30,b9 pt⟩],[]⟩⟩) (eJ H) ?_ ?_
 ·rintro i1 v2 H
  refine gQ 5 ?_;refine cT H (fun h4 h4l H=>?_) (fun h4 H=>?_)
  ·refine gQ 6 ?_;refine q1 (gS (aA.cs (aT pt.aBt i1))) ?_;refine gQ 5 ?_;refine q1 (b6 [pI ((aT pt.aBt i1).aBw),pS ((aT pt.aBt i1).aBs),aU ((aT pt.aBt i1).aBt)]) (bM H fun x6 z5 H=>(q1 (bI func105 (pE (aT pt.aBt i1) _ z5)) ?_))
   exact gE 7
  exact gE 0
 rintro v2 H
 exact gE 5
def mG:Nat→aA→Option Int
 |0,_=>none
 |fu+1,pt=>HF fu (mG fu) pt
theorem XY(fu:Nat):BN (mG fu):=by
 induction fu with
 |zero=>exact(fun pt r H=>by simp only [mG] at H;cases H)
 |succ fu ih=>exact(fun pt r H=>by simp only [mG] at H;exact U9 fu (mG fu) ih pt r H)
theorem aa9(fu:Nat):BN (mG fu):=(XY fu)
abbrev oM:=aH→(List aK)→aD→(List aA)→Option Int
def F2(m:oM):Prop:= ∀(p9:aH) (p5:List aK) (p0:aD) (a3:List aA) (r:Int),m p9 p5 p0 a3=some r→bQ Tryz.prog 52 [(aH.pv p9),bY p5,(aD.pv p0),aU a3] (pI r:PV)
def IN(fu:Nat)(p1:oM)(p9:aH)(p5:List aK)(p0:aD)(a3:List aA):Option (Int⊕Unit):=sw (decide (p0.aBu.aBw=2)) (bd (zY fu p0.aBu.aBs) fun x3=>sw x3 (some (.inl 0)) (bd (kX fu p5 p0) fun x6=>sw (decide (x6≥0)) (some (.inl 0)) (some (.inr ())))) (bd (kX fu p5 p0) fun x9=>sw (decide (x9≥0)) (some (.inl 0)) (some (.inr ())))
def IP(fu:Nat)(p1:oM)(p9:aH)(p5:List aK)(p0:aD)(a3:List aA):Nat→Unit→Option (LR Unit Int):=fun i11 _=>sw (aA.eq (aT a3 i11) p0.aBu) (some (.ret 0)) (some (.next ()))
def SN(fu:Nat)(p1:oM)(p9:aH)(p5:List aK)(p0:aD)(a3:List aA)(x16:aO)(x17:Int)(x18:Bool)(x24:Int):Nat→((List aJ))→Option (LR ((List aJ)) Int):=fun i26 v28=>gd (i26<(p0.aBu.aBt).length) (gd ((v28).length+(([(aJ.mk (aT x16.aBF i26) (aT p0.aBu.aBt i26))]:List aJ)).length≤68719476736) (some (.next (v28++([(aJ.mk (aT x16.aBF i26) (aT p0.aBu.aBt i26))]:List aJ)))))
def SP(fu:Nat)(p1:oM)(p9:aH)(p5:List aK)(p0:aD)(a3:List aA)(x16:aO)(x17:Int)(x18:Bool)(x24:Int)(v28:List aJ)(i35:Nat):Nat→Unit→Option (LR Unit (LR Unit Int)):=fun i38 _=>gd (qP v28) (gd (gK (aT ((aT x16.aBx i35).aBM) i38)) (bd (p1 p9 p5 (aD.mk p0.aBz (lD v28 (aT ((aT x16.aBx i35).aBM) i38))) ((([])++a3)++([p0.aBu]:List aA))) fun x44=>sw (!decide (x44=0)) (some (.ret (.ret x44))) (some (.next ()))))
def SO(fu:Nat)(p1:oM)(p9:aH)(p5:List aK)(p0:aD)(a3:List aA)(x16:aO)(x17:Int)(x18:Bool)(x24:Int)(v28:List aJ):Nat→Unit→Option (LR Unit Int):=fun i35 _=>so (loopN (SP fu p1 p9 p5 p0 a3 x16 x17 x18 x24 v28 i35) (((aT x16.aBx i35).aBM).length-0) 0 ()) fun _=>some (.next ())
def F1(fu:Nat)(p1:oM)(p9:aH)(p5:List aK)(p0:aD)(a3:List aA):Option Int:=so (IN fu p1 p9 p5 p0 a3) fun _=>so (loopN (IP fu p1 p9 p5 p0 a3) (a3.length-0) 0 ()) fun _=>bd (zJ fu p9 p0.aBu.aBs) fun(x16,x17,x18)=>sw (!decide (p0.aBu.aBw=2)) (some 1) (sw (!(x18)) (some 1) (sw (!decide ((x16.aBF.length:Int)=(p0.aBu.aBt.length:Int))) (some 1) (sw (decide ((a3.length:Int)>30)) (some 3) (bd (mP fu p0.aBu) fun x24=>sw (decide (x24>400)) (some 3) (so (loopN (SN fu p1 p9 p5 p0 a3 x16 x17 x18 x24) (x16.aBF.length-0) 0 ([])) fun v28=>gd (([]:List aA).length+(a3).length≤68719476736) (gd ((([])++a3).length+(([p0.aBu]:List aA)).length≤68719476736) (so (loopN (SO fu p1 p9 p5 p0 a3 x16 x17 x18 x24 v28) (x16.aBx.length-0) 0 ()) fun _=>some 0)))))))
theorem Y0(fu:Nat)(p1:oM)(pG:F2 p1):F2 (F1 fu p1):=by
 intro p9 p5 p0 a3 r H
 refine qJ func52 H (fun C hC H=>?_)
 refine gQ 2 ?_;refine q1 (fE ([aR p9.aBr])) (q1 (fE (cH p0)) ?_)
 refine gQ 3 ?_;refine nW (σ:=Unit) (fun _=>⟨[(1,bY p5),(3,aU a3),(4,.ptr 0 0),(6,.ptr 1 0),(8,pI 0)],⟨[some ⟨26,[aR p9.aBr]⟩,some ⟨32,cH p0⟩],[]⟩⟩) (eJ H) (fun H=>?_) ?_
 ·refine gQ 7 ?_;refine dL 23 H (fun g1 H=>?_) fun g1 H=>?_
  ·refine gQ 3 ?_;refine bM H fun x3 z2 H=>(qg g1 (bI func108 (M4 fu p0.aBu.aBs _ z2)) ?_)
   refine gQ 2 ?_;refine dL 29 H (fun g4 H=>gE 11) fun g4 H=>?_;refine qg g4 bH (qg g4 (b6 [pS p0.aBz,pI p0.aBu.aBw,pS p0.aBu.aBs,aU p0.aBu.aBt]) (bM H fun x6 z5 H=>(qg g4 (bI func14 (tL fu p5 p0 _ z5)) ?_)))
   refine gQ 3 ?_;refine bF H (fun h7 H=>gE 4) fun h7 H=>?_;exact gE 1
  refine gQ 7 ?_;refine qg rfl (b6 [pS p0.aBz,pI p0.aBu.aBw,pS p0.aBu.aBs,aU p0.aBu.aBt]) (bM H fun x9 z8 H=>(qg rfl (bI func14 (tL fu p5 p0 _ z8)) ?_))
  refine gQ 3 ?_;refine bF H (fun h10 H=>gE 4) fun h10 H=>?_;exact gE 1
 rintro⟨⟩ H
 refine gQ 5 ?_;refine fS 3 (aA.trs_len _) (fun hl12=>?_)
 try dsimp only at hl12
 refine bU (σ:=Unit) (fun i11 _=>⟨[(1,bY p5),(3,aU a3),(4,.ptr 0 0),(6,.ptr 1 0),(8,pI 0),(9,pN i11)],⟨[some ⟨26,[aR p9.aBr]⟩,some ⟨32,cH p0⟩],[]⟩⟩) (fun _=>⟨[(1,bY p5),(3,aU a3),(4,.ptr 0 0),(6,.ptr 1 0),(8,pI 0)],⟨[some ⟨26,[aR p9.aBr]⟩,some ⟨32,cH p0⟩],[]⟩⟩) (eJ H) ?_ ?_
 ·rintro i11 ⟨⟩ H
  refine gQ 8 ?_;refine cT H (fun h13 h13l H=>?_) (fun h13 H=>?_)
  ·refine gQ 4 ?_;refine dW (dI [3] bH (dI [9] bH (dI [41,42] m9 (dI [43] (gS (aA.cs (aT a3 i11))) (dI [6] bZ (dD [45] (b6 [pI p0.aBu.aBw,pS p0.aBu.aBs,aU p0.aBu.aBt]) (dI [44,46] (bI func38 (CW (aT a3 i11) p0.aBu)) (dN ?_))))))))
   refine bF H (fun h14 H=>gE 4) fun h14 H=>?_;exact gE 6
  exact gE 0
 rintro⟨⟩ H
 refine gQ 2 ?_;refine q1 (b6 [aR p9.aBr]) ?_;refine gQ 3 ?_;refine DC H fun x16 x17 x18 z15 H=>(q1 (bI func53 (YU fu p9 p0.aBu.aBs _ z15)) ?_)
 refine gQ 17 ?_;refine dL 61 H (fun g19 H=>gE 19) fun g19 H=>?_;refine gQ 4 ?_;refine dL 65 H (fun g20 H=>gE 15) fun g20 H=>?_;refine gQ 10 ?_;refine bF H (fun h21 H=>gE 4) fun h21 H=>?_;refine gQ 8 ?_;refine dL 78 H (fun g22 H=>gE 11) fun g22 H=>?_;refine qg g22 bZ (qg g22 (b6 [pI p0.aBu.aBw,pS p0.aBu.aBs,aU p0.aBu.aBt]) (bM H fun x24 z23 H=>(qg g22 (bI func109 (abX fu p0.aBu _ z23)) ?_)))
 refine gQ 3 ?_;refine bF H (fun h25 H=>gE 4) fun h25 H=>?_;refine gQ 3 ?_;refine q1 (nU ([]:List aJ)) ?_;refine gQ 7 ?_;refine fS 67 (b0 _) (fun hl29=>?_)
 try dsimp only at hl29
 refine bU (σ:=(List aJ)) (fun i26 v28=>⟨[(1,bY p5),(3,aU a3),(4,.ptr 0 0),(6,.ptr 1 0),(8,pI 0),(10,.ptr 2 0),(13,lR v28 0),(14,pN i26)],⟨[some ⟨26,[aR p9.aBr]⟩,some ⟨32,cH p0⟩,some ⟨39,jJ x16⟩],[⟨44,4,aJ.trs (v28),false⟩]⟩⟩) (fun v28=>⟨[(1,bY p5),(3,aU a3),(4,.ptr 0 0),(6,.ptr 1 0),(8,pI 0),(10,.ptr 2 0),(13,lR v28 0)],⟨[some ⟨26,[aR p9.aBr]⟩,some ⟨32,cH p0⟩,some ⟨39,jJ x16⟩],[⟨44,4,aJ.trs (v28),false⟩]⟩⟩) (eJ H) ?_ ?_
 ·rintro i26 v28 H
  refine gQ 9 ?_;refine cT H (fun h30 h30l H=>?_) (fun h30 H=>?_)
  ·refine gQ 3 ?_;refine cA H fun z31 H=>(cA H fun z32 H=>(dW (dI [13] bH (dI [10] bZ (dD [93] eB (dI [14] bH (dI [94,95] m9 (dI [96] vE (dI [6] bZ (dI [98] bZ (dD [99] eB (dI [14] bH (dI [100,101] m9 ?_)))))))))))))
   refine dI [102] (gS (aA.cs (aT p0.aBu.aBt i26))) (dI [97,103] oP (dI [104] (fY ([(aJ.mk (aT x16.aBF i26) (aT p0.aBu.aBt i26))]:List aJ)) (dE [92,105] (jO z32) (dI [106] bH (dN ?_)))))
   exact gE 5
  exact gE 0
 rintro v28 H
 refine qS (cA H fun z33 H=>(cA H fun z34 H=>(dW (dE [] (nU ([]:List aA)) (dI [3] bH (dE [107,108] (jO z33) (dI [6] bZ (dB [110] 0 2 (zN [pI p0.aBu.aBw,pS p0.aBu.aBs,aU p0.aBu.aBt]) (dI [111] (fY ([p0.aBu]:List aA)) (dE [109,112] (jO z34) (dI [113] bH (dN ?_))))))))))))
 refine gQ 5 ?_;refine cO.fact (cK 2 2 rfl rfl rfl (aE.trs_len _)) (fun hl36=>?_)
 try dsimp only at hl36
 refine bU (σ:=Unit) (fun i35 _=>⟨[(1,bY p5),(4,.ptr 0 0),(6,.ptr 1 0),(8,pI 0),(10,.ptr 2 0),(13,lR v28 0),(15,iE ((([])++a3)++([p0.aBu]:List aA)) 1),(16,pN i35)],⟨[some ⟨26,[aR p9.aBr]⟩,some ⟨32,cH p0⟩,some ⟨39,jJ x16⟩],[⟨44,4,aJ.trs (v28),false⟩,⟨30,3,aA.trs ((([])++a3)++([p0.aBu]:List aA)),false⟩]⟩⟩) (fun _=>⟨[(8,pI 0)],⟨[some ⟨26,[aR p9.aBr]⟩,some ⟨32,cH p0⟩,some ⟨39,jJ x16⟩],[⟨44,4,aJ.trs (v28),false⟩,⟨30,3,aA.trs ((([])++a3)++([p0.aBu]:List aA)),false⟩]⟩⟩) (eJ H) ?_ ?_
 ·rintro i35 ⟨⟩ H
  refine gQ 9 ?_;refine cT H (fun h37 h37l H=>?_) (fun h37 H=>?_)
  ·refine gQ 7 ?_;refine bU (σ:=Unit) (fun i38 _=>⟨[(1,bY p5),(4,.ptr 0 0),(6,.ptr 1 0),(8,pI 0),(10,.ptr 2 0),(13,lR v28 0),(15,iE ((([])++a3)++([p0.aBu]:List aA)) 1),(16,pN i35),(17,pN i38),(114,pN i35),(115,.ptr 2 2),(116,dF x16.aBx),(117,pN x16.aBx.length),(118,pB (decide ((i35:Int)<(x16.aBx.length:Int))))],⟨[some ⟨26,[aR p9.aBr]⟩,some ⟨32,cH p0⟩,some ⟨39,jJ x16⟩],[⟨44,4,aJ.trs (v28),false⟩,⟨30,3,aA.trs ((([])++a3)++([p0.aBu]:List aA)),false⟩]⟩⟩) (fun _=>⟨[(1,bY p5),(4,.ptr 0 0),(6,.ptr 1 0),(8,pI 0),(10,.ptr 2 0),(13,lR v28 0),(15,iE ((([])++a3)++([p0.aBu]:List aA)) 1),(16,pN i35),(114,pN i35),(115,.ptr 2 2),(116,dF x16.aBx),(117,pN x16.aBx.length),(118,pB (decide ((i35:Int)<(x16.aBx.length:Int))))],⟨[some ⟨26,[aR p9.aBr]⟩,some ⟨32,cH p0⟩,some ⟨39,jJ x16⟩],[⟨44,4,aJ.trs (v28),false⟩,⟨30,3,aA.trs ((([])++a3)++([p0.aBu]:List aA)),false⟩]⟩⟩) (eJ H) ?_ ?_
   ·rintro i38 ⟨⟩ H
    refine gQ 10 ?_;refine X7 127 (aA.trs_len _) (fun hl39=>?_)
    try dsimp only at hl39
    refine gQ 3 ?_;refine cT H (fun h40 h40l H=>?_) (fun h40 H=>?_)
    ·refine gQ 4 ?_;refine cA H fun z41 H=>(cA H fun z42 H=>(bM H fun x44 z43 H=>(dW (dD [4] (b6 [aR p9.aBr]) (dI [1] bH (dI [6] bZ (dD [134] eB (dI [13] bH (dI [10] bZ (dD [137] eB (dI [16] bH (dI [138,139] m9 (dI [140] wX ?_)))))))))))))
     refine dI [141] vE (dI [17] bH (dI [142,143] m9 (dI [144] (gS (aA.cs (aT ((aT x16.aBx i35).aBM) i38))) (dI [136,145] (bI func110 (Z0 v28 (aT ((aT x16.aBx i35).aBM) i38) z41 z42)) (dI [135,146] oP (dI [15] bH (dI [132,133,147,148] (bI func52 (pG p9 p5 (aD.mk p0.aBz (lD v28 (aT ((aT x16.aBx i35).aBM) i38))) ((([])++a3)++([p0.aBu]:List aA)) _ z43)) (dI [149] bH (dN ?_)))))))))
     refine gQ 5 ?_;refine bF H (fun h45 H=>?_) (fun h45 H=>?_)
     ·refine gQ 5 ?_;refine cO.ret ?_
      obtain rfl:_=r:=(lkR (skL (lkR (s3 H))):)
      exact PG
     exact gE 6
    exact gE 0
   rintro⟨⟩ H
   exact gE 5
  exact gE 0
 rintro⟨⟩ H
 exact gE 4
def j8:Nat→aH→(List aK)→aD→(List aA)→Option Int
 |0,_,_,_,_=>none
 |fu+1,p9,p5,p0,a3=>F1 fu (j8 fu) p9 p5 p0 a3
theorem acW(fu:Nat):F2 (j8 fu):=by
 induction fu with
 |zero=>exact(fun p9 p5 p0 a3 r H=>by simp only [j8] at H;cases H)
 |succ fu ih=>exact(fun p9 p5 p0 a3 r H=>by simp only [j8] at H;exact Y0 fu (j8 fu) ih p9 p5 p0 a3 r H)
theorem agJ(fu:Nat):F2 (j8 fu):=(acW fu)
def E6(fu:Nat)(pF:ByteArray):Option Bool:=sw (decide (pF=eU)) (some true) (some (decide (pF=eE)))
theorem X3(fu:Nat)(pF:ByteArray)(r:Bool)(H:E6 fu pF=some r):bQ Tryz.prog 100 [pS pF] (pB r):=by
 refine qJ func100 H (fun C hC H=>?_)
 refine gQ 9 ?_;refine dL 5 H (fun g1 H=>gE 5) fun g1 H=>?_;exact gE 5
def LZ(fu:Nat)(pu c1:aA):Option Bool:=some (aA.eq pu c1)
theorem aeR(fu:Nat)(pu:aA)(c1:aA)(r:Bool)(H:LZ fu pu c1=some r):cB Tryz.prog 104 [(aA.pv pu),.ptr 0 0] ⟨[some ⟨30,b9 c1⟩],[]⟩ (fun q t=>q=(pB r)∧t=⟨[some ⟨30,b9 c1⟩],[]⟩):=by
 refine qJ func104 H (fun C hC H=>?_)
 refine gQ 2 ?_;refine q1 (fE (b9 pu)) ?_;refine gQ 4 ?_;refine q1 (b6 [pI pu.aBw,pS pu.aBs,aU pu.aBt]) (q1 (b6 [pI c1.aBw,pS c1.aBs,aU c1.aBt]) (q1 (bI func95 (CO pu c1)) ?_))
 exact gE 2
def oU(fu:Nat)(ps:List aA)(c1_0:aA):Nat→Unit→Option (LR Unit Int):=fun i1 _=>bd (LZ fu (aT ps i1) c1_0) fun x5=>sw x5 (some (.ret (i1:Int))) (some (.next ()))
def iP(fu:Nat)(ps:List aA)(c1_0:aA):Option Int:=so (loopN (oU fu ps c1_0) (ps.length-0) 0 ()) fun _=>some (-1)
theorem xY(fu:Nat)(ps:List aA)(c1_0:aA)(r:Int)(H:iP fu ps c1_0=some r):cB Tryz.prog 150 [aU ps,.fn 104 [.ptr 0 0]] ⟨[some ⟨30,b9 c1_0⟩],[]⟩ (fun q t=>q=(pI r)∧t=⟨[some ⟨30,b9 c1_0⟩],[]⟩):=by
 refine qJ func150 H (fun C hC H=>?_)
 refine gQ 11 ?_;refine fS 0 (aA.trs_len _) (fun hl2=>?_)
 try dsimp only at hl2
 refine bU (σ:=Unit) (fun i1 _=>⟨[(0,aU ps),(1,.fn 104 [.ptr 0 0]),(4,pI 0),(7,pN ps.length),(8,pN i1)],⟨[some ⟨30,b9 c1_0⟩],[]⟩⟩) (fun _=>⟨[(4,pI 0)],⟨[some ⟨30,b9 c1_0⟩],[]⟩⟩) (eJ H) ?_ ?_
 ·rintro i1 ⟨⟩ H
  refine gQ 5 ?_;refine cT H (fun h3 h3l H=>?_) (fun h3 H=>?_)
  ·refine gQ 14 ?_;refine q1 (gS (aA.cs (aT ps i1))) (bM H fun x5 z4 H=>(q1 (bD.callVPE (pre:=⟨[some ⟨30,b9 c1_0⟩],[]⟩) (st':=⟨[some ⟨30,b9 c1_0⟩],[]⟩) (ps:= [_]) (cs:= [.ptr 0 0]) (qs:= [(aA.pv (aT ps i1)),.ptr 0 0]) [0] [] rfl rfl rfl func104 (by kernel_rfl) rfl rfl rfl (eH.of ⟨⟨_,rfl,rfl,iX,rfl⟩,trivial⟩ trivial (by decide) (by decide)) iX rfl rfl rfl (aeR fu (aT ps i1) c1_0 _ z4)) (qN ?_)))
   refine bF H (fun h6 H=>gE 5) fun h6 H=>?_;exact gE 5
  exact gE 0
 rintro⟨⟩ H
 exact gE 4
def gL(fu:Nat)(ps:List aA)(c1_0:aA):Option Bool:=bd (iP fu ps c1_0) fun x2=>some (decide (x2≥0))
theorem vF(fu:Nat)(ps:List aA)(c1_0:aA)(r:Bool)(H:gL fu ps c1_0=some r):cB Tryz.prog 103 [aU ps,.fn 104 [.ptr 0 0]] ⟨[some ⟨30,b9 c1_0⟩],[]⟩ (fun q t=>q=(pB r)∧t=⟨[some ⟨30,b9 c1_0⟩],[]⟩):=by
 refine qJ func103 H (fun C hC H=>?_)
 refine gQ 8 ?_;refine bM H fun x2 z1 H=>(q1 (fD [0] [] func150 (xY fu ps c1_0 _ z1)) ?_)
 exact gE 3
def ZL(fu:Nat)(p8:LB)(p7:List aA):Nat→((List aJ))→Option (LR ((List aJ)) ((List aJ))):=fun i1 v3=>gd (i1<(p8).length) (gd (i1<(p7).length) (gd ((v3).length+(([(aJ.mk (aT p8 i1) (aT p7 i1))]:List aJ)).length≤68719476736) (some (.next (v3++([(aJ.mk (aT p8 i1) (aT p7 i1))]:List aJ))))))
def OD(fu:Nat)(p8:LB)(p7:List aA):Option ((List aJ)):=so (loopN (ZL fu p8 p7) (min p8.length p7.length-0) 0 ([])) fun v3=>some v3
theorem alW(fu:Nat)(p8:LB)(p7:List aA)(r:(List aJ))(H:OD fu p8 p7=some r):bQ Tryz.prog 106 [rS p8,aU p7] (gB r):=by
 refine qJ func106 H (fun C hC H=>?_)
 refine gQ 6 ?_;refine q1 (nU ([]:List aJ)) ?_;refine gQ 9 ?_;refine q1 (rMn) ?_;refine gQ 2 ?_;refine fS 0 (b0 _) (fun hl4=>?_)
 try dsimp only at hl4
 refine bU (σ:=(List aJ)) (fun i1 v3=>⟨[(0,rS p8),(1,aU p7),(4,.nil),(5,lR v3 0),(12,pN (min p8.length p7.length)),(13,pN i1)],⟨[],[⟨44,4,aJ.trs (v3),false⟩]⟩⟩) (fun v3=>⟨[(4,.nil),(5,lR v3 0)],⟨[],[⟨44,4,aJ.trs (v3),false⟩]⟩⟩) (eJ H) ?_ ?_
 ·rintro i1 v3 H
  refine gQ 5 ?_;refine cT H (fun h5 h5l H=>?_) (fun h5 H=>?_)
  ·refine gQ 8 ?_;refine cA H fun z6 H=>(cA H fun z7 H=>(cA H fun z8 H=>(dW (dI [5] bH (dI [0] bH (dI [6] bH (dI [17,18] m9 (dI [19] vE (dI [1] bH (dI [6] bH (dI [21,22] m9 (dI [23] (gS (aA.cs (aT p7 i1))) (dI [20,24] oP ?_)))))))))))))
   refine dI [25] (fY ([(aJ.mk (aT p8 i1) (aT p7 i1))]:List aJ)) (dE [16,26] (jO z8) (dI [27] bH (dN ?_)))
   exact gE 4
  exact gE 0
 rintro v3 H
 exact gE 5
abbrev AP:=bP→ByteArray→aA→(List aA)→Option Int
def OL(m:AP):Prop:= ∀(pA:bP) (p5:ByteArray) (p6:aA) (pC:List aA) (r:Int),m pA p5 p6 pC=some r→cB Tryz.prog 51 [.ptr 0 0,pS p5,(aA.pv p6),aU pC] ⟨[some ⟨145,[aR pA.aCc.aBr,bY pA.aBV]⟩],[]⟩ (fun q t=>q=(pI r:PV)∧t=⟨[some ⟨145,[aR pA.aCc.aBr,bY pA.aBV]⟩],[]⟩)
def QE(fu:Nat)(p2:AP)(pA:bP)(p5:ByteArray)(p6:aA)(pC:List aA):Option (Int⊕Unit):=sw (decide (p6.aBw=2)) (bd (E6 fu p6.aBs) fun x3=>sw x3 (sw (decide ((p6.aBt.length:Int)=0)) (some (.inl 0)) (some (.inr ()))) (some (.inr ()))) (some (.inr ()))
def ZO(fu:Nat)(p2:AP)(pA:bP)(p5:ByteArray)(p6:aA)(pC:List aA)(x7:Int)(x10:aO)(x11:Int)(x12 x17:Bool)(x21:Int)(x24:List aJ)(i27:Nat):Nat→Unit→Option (LR Unit (LR Unit Int)):=fun i31 _=>gd (qP x24) (gd (gK (aT ((aT x10.aBx i27).aBM) i31)) (bd (p2 pA p5 (lD x24 (aT ((aT x10.aBx i27).aBM) i31)) (pC++([p6]:List aA))) fun x36=>sw (!decide (x36=0)) (some (.ret (.ret x36))) (some (.next ()))))
def ZN(fu:Nat)(p2:AP)(pA:bP)(p5:ByteArray)(p6:aA)(pC:List aA)(x7:Int)(x10:aO)(x11:Int)(x12 x17:Bool)(x21:Int)(x24:List aJ):Nat→Unit→Option (LR Unit Int):=fun i27 _=>so (loopN (ZO fu p2 pA p5 p6 pC x7 x10 x11 x12 x17 x21 x24 i27) (((aT x10.aBx i27).aBM).length-0) 0 ()) fun _=>some (.next ())
def OK(fu:Nat)(p2:AP)(pA:bP)(p5:ByteArray)(p6:aA)(pC:List aA):Option Int:=so (QE fu p2 pA p5 p6 pC) fun _=>bd (mF fu pA.aBV (aD.mk p5 p6)) fun x7=>sw (decide (x7≥0)) (some 0) (bd (TZ fu pA.aCc p6.aBs) fun(x10,x11,x12)=>sw (!decide (p6.aBw=2)) (some 1) (sw (!(x12)) (some 1) (sw (!decide ((x10.aBF.length:Int)=(p6.aBt.length:Int))) (some 1) (bd (gL fu pC p6) fun x17=>sw x17 (some 0) (sw (decide ((pC.length:Int)>30)) (some 3) (bd (mG fu p6) fun x21=>sw (decide (x21>400)) (some 3) (bd (OD fu x10.aBF p6.aBt) fun x24=>gd ((pC).length≤68719476735) (gd ((pC).length+(([p6]:List aA)).length≤68719476736) (so (loopN (ZN fu p2 pA p5 p6 pC x7 x10 x11 x12 x17 x21 x24) (x10.aBx.length-0) 0 ()) fun _=>some 0)))))))))
theorem aeS(fu:Nat)(p2:AP)(pH:OL p2):OL (OK fu p2):=by
 intro pA p5 p6 pC r H
 refine qJ func51 H (fun C hC H=>?_)
 refine gQ 2 ?_;refine q1 (fE (b9 p6)) ?_;refine gQ 3 ?_;refine nW (σ:=Unit) (fun _=>⟨[(0,.ptr 0 0),(1,pS p5),(3,aU pC),(6,.ptr 1 0),(8,pI 0)],⟨[some ⟨145,[aR pA.aCc.aBr,bY pA.aBV]⟩,some ⟨30,b9 p6⟩],[]⟩⟩) (eJ H) (fun H=>?_) ?_
 ·refine gQ 6 ?_;refine dL 22 H (fun g1 H=>?_) fun g1 H=>?_
  ·refine gQ 2 ?_;refine bM H fun x3 z2 H=>(qg g1 (bI func100 (X3 fu p6.aBs _ z2)) ?_)
   refine gQ 2 ?_;refine dL 27 H (fun g4 H=>?_) fun g4 H=>?_
   ·refine gQ 6 ?_;refine bF H (fun h5 H=>gE 4) fun h5 H=>?_;exact gE 1
   exact gE 8
  exact gE 13
 rintro⟨⟩ H
 refine gQ 2 ?_;refine bM H fun x7 z6 H=>(dW (dI [0] bH (dI [33] uV (dI [34] bZ (dD [35] eB (dI [1] bH (dD [6] (b6 [pI p6.aBw,pS p6.aBs,aU p6.aBt]) (dI [37,38] oP (dI [36,39] (bI func101 (AJ fu pA.aBV (aD.mk p5 p6) _ z6)) (dI [40] rGe (dN ?_)))))))))))
 refine bF H (fun h8 H=>gE 4) fun h8 H=>?_;refine gQ 2 ?_;refine DC H fun x10 x11 x12 z9 H=>(dW (dI [0] bH (dI [43] uV (dI [44] bZ (dB [45] 0 1 (zN [aR pA.aCc.aBr]) (dI [6] bZ (dB [47] 0 1 sM (dI [46,48] (bI func102 (anS fu pA.aCc p6.aBs _ z9)) (dI [49] bH ?_)))))))))
 iterate 3 refine dI [42] rEx ?_
 refine dE [] tAl (iY [9,50] hM (dI [51] bH (dI [52] bH (dN ?_))))
 refine gQ 7 ?_;refine dL 56 H (fun g13 H=>gE 18) fun g13 H=>?_;refine gQ 4 ?_;refine dL 60 H (fun g14 H=>gE 14) fun g14 H=>?_;refine gQ 9 ?_;refine bF H (fun h15 H=>gE 4) fun h15 H=>?_;refine gQ 5 ?_;refine q1 rMf (bM H fun x17 z16 H=>(q1 (fD [1] [] func103 (vF fu pC p6 _ z16)) (qN ?_)))
 refine bF H (fun h18 H=>gE 4) fun h18 H=>?_;refine gQ 8 ?_;refine dL 75 H (fun g19 H=>gE 10) fun g19 H=>?_;refine qg g19 (b6 [pI p6.aBw,pS p6.aBs,aU p6.aBt]) (bM H fun x21 z20 H=>(qg g19 (bI func105 (aa9 fu p6 _ z20)) ?_))
 refine gQ 3 ?_;refine bF H (fun h22 H=>gE 4) fun h22 H=>?_;refine gQ 7 ?_;refine bM H fun x24 z23 H=>(q1 (bI func106 (alW fu x10.aBF p6.aBt _ z23)) ?_)
 refine gQ 3 ?_;refine cA H fun z25 H=>(cA H fun z26 H=>(dW (dI [3] bH (dE [85] (bD.callOwn (pre:=⟨[],[]⟩) (B:= []) (R:=fun k=>iE pC k) (ps:= [_]) (qs:= [aU pC]) [] rfl rfl func107 (by kernel_rfl) rfl rfl rfl (eH.of trivial trivial (by decide) (by decide)) rfl iX rfl rfl rfl (fun k k'=>Mv.acc) (aeF pC z25)) (dB [6] 0 1 (zN [pI p6.aBw,pS p6.aBs,aU p6.aBt]) (dI [87] (fY ([p6]:List aA)) (dE [86,88] (jO z26) (dI [89] bH (dN ?_)))))))))
 refine gQ 8 ?_;refine fS 91 (aE.trs_len _) (fun hl28=>?_)
 try dsimp only at hl28
 refine bU (σ:=Unit) (fun i27 _=>⟨[(0,.ptr 0 0),(1,pS p5),(8,pI 0),(12,gB x24),(13,iE (pC++([p6]:List aA)) 0),(91,dF x10.aBx),(92,pN x10.aBx.length),(93,pN i27)],⟨[some ⟨145,[aR pA.aCc.aBr,bY pA.aBV]⟩,some ⟨30,b9 p6⟩,some ⟨39,jJ x10⟩],[⟨30,3,aA.trs (pC++([p6]:List aA)),false⟩]⟩⟩) (fun _=>⟨[(8,pI 0)],⟨[some ⟨145,[aR pA.aCc.aBr,bY pA.aBV]⟩,some ⟨30,b9 p6⟩,some ⟨39,jJ x10⟩],[⟨30,3,aA.trs (pC++([p6]:List aA)),false⟩]⟩⟩) (eJ H) ?_ ?_
 ·rintro i27 ⟨⟩ H
  refine gQ 5 ?_;refine cT H (fun h29 h29l H=>?_) (fun h29 H=>?_)
  ·refine gQ 6 ?_;refine q1 (gS (aE.cs (aT x10.aBx i27))) ?_;refine gQ 7 ?_;refine X7 98 (aA.trs_len _) (fun hl30=>?_)
   try dsimp only at hl30
   refine gQ 3 ?_;refine bU (σ:=Unit) (fun i31 _=>⟨[(0,.ptr 0 0),(1,pS p5),(8,pI 0),(12,gB x24),(13,iE (pC++([p6]:List aA)) 0),(15,.ptr 3 0),(91,dF x10.aBx),(92,pN x10.aBx.length),(93,pN i27),(94,pB (decide ((i27:Int)<(x10.aBx.length:Int)))),(95,.eptr (aE.cs (aT x10.aBx i27))),(96,(aE.pv (aT x10.aBx i27))),(97,.ptr 3 1),(98,aU ((aT x10.aBx i27).aBM)),(99,pN (((aT x10.aBx i27).aBM).length)),(100,pN i31)],⟨[some ⟨145,[aR pA.aCc.aBr,bY pA.aBV]⟩,some ⟨30,b9 p6⟩,some ⟨39,jJ x10⟩,some ⟨46,[pS ((aT x10.aBx i27).aBs),aU ((aT x10.aBx i27).aBM)]⟩],[⟨30,3,aA.trs (pC++([p6]:List aA)),false⟩]⟩⟩) (fun _=>⟨[(0,.ptr 0 0),(1,pS p5),(8,pI 0),(12,gB x24),(13,iE (pC++([p6]:List aA)) 0),(15,.ptr 3 0),(91,dF x10.aBx),(92,pN x10.aBx.length),(93,pN i27),(94,pB (decide ((i27:Int)<(x10.aBx.length:Int)))),(95,.eptr (aE.cs (aT x10.aBx i27))),(96,(aE.pv (aT x10.aBx i27))),(97,.ptr 3 1),(98,aU ((aT x10.aBx i27).aBM)),(99,pN (((aT x10.aBx i27).aBM).length))],⟨[some ⟨145,[aR pA.aCc.aBr,bY pA.aBV]⟩,some ⟨30,b9 p6⟩,some ⟨39,jJ x10⟩,some ⟨46,[pS ((aT x10.aBx i27).aBs),aU ((aT x10.aBx i27).aBM)]⟩],[⟨30,3,aA.trs (pC++([p6]:List aA)),false⟩]⟩⟩) (eJ H) ?_ ?_
   ·rintro i31 ⟨⟩ H
    refine gQ 5 ?_;refine cT H (fun h32 h32l H=>?_) (fun h32 H=>?_)
    ·refine gQ 6 ?_;refine q1 (gS (aA.cs (aT ((aT x10.aBx i27).aBM) i31))) ?_;refine gQ 8 ?_;refine q1 (b6 [pI ((aT ((aT x10.aBx i27).aBM) i31).aBw),pS ((aT ((aT x10.aBx i27).aBM) i31).aBs),aU ((aT ((aT x10.aBx i27).aBM) i31).aBt)]) (cA H fun z33 H=>(cA H fun z34 H=>(q1 (bI func16 (ZH x24 (aT ((aT x10.aBx i27).aBM) i31) z33 z34)) (q1 bH (bM H fun x36 z35 H=>(q1 (fD [0] [] func51 (pH pA p5 (lD x24 (aT ((aT x10.aBx i27).aBM) i31)) (pC++([p6]:List aA)) _ z35)) ?_))))))
     refine gQ 7 ?_;refine bF H (fun h37 H=>?_) (fun h37 H=>?_)
     ·refine gQ 5 ?_;refine cO.ret ?_
      obtain rfl:_=r:=(lkR (skL (lkR (s3 H))):)
      exact PG
     exact gE 5
    exact gE 0
   rintro⟨⟩ H
   exact gE 4
  exact gE 0
 rintro⟨⟩ H
 exact gE 4
def rB:Nat→bP→ByteArray→aA→(List aA)→Option Int
 |0,_,_,_,_=>none
 |fu+1,pA,p5,p6,pC=>OK fu (rB fu) pA p5 p6 pC
theorem ah6(fu:Nat):OL (rB fu):=by
 induction fu with
 |zero=>exact(fun pA p5 p6 pC r H=>by simp only [rB] at H;cases H)
 |succ fu ih=>exact(fun pA p5 p6 pC r H=>by simp only [rB] at H;exact aeS fu (rB fu) ih pA p5 p6 pC r H)
theorem al1(fu:Nat):OL (rB fu):=(ah6 fu)
end
end Go.Proofs.YtfcoaagbccmahaaGreat.W

namespace Go.Proofs.YtfcoaagbccmahaaGreat.W
set_option maxRecDepth 100000
set_option maxHeartbeats 40000000
noncomputable section
open Tryz Go.RowKit Go.Proofs
attribute [local irreducible] lt
abbrev t7:=aH→(List aK)→aD→Int→Option (aC×Int)
abbrev wQ:=aH→(List aK)→aD→Int→Option (aC×Int)
def xT(m:t7):Prop:= ∀(p8:aH) (p1:List aK) (p5:aD) (pA:Int) (r:aC×Int),m p8 p1 p5 pA=some r→bQ Tryz.prog 62 [(aH.pv p8),bY p1,(aD.pv p5),pI pA] (.tup [(aC.pv r.1),pI r.2]:PV)
def F3(m:wQ):Prop:= ∀(p8:aH) (p1:List aK) (p5:aD) (pA:Int) (r:aC×Int),m p8 p1 p5 pA=some r→bQ Tryz.prog 122 [(aH.pv p8),bY p1,(aD.pv p5),pI pA] (.tup [(aC.pv r.1),pI r.2]:PV)
def CE(fu:Nat)(p2:t7)(p3:wQ)(p8:aH)(p1:List aK)(p5:aD)(pA:Int):Option (aC×Int):=bd (kX fu p1 p5) fun x2=>sw (decide (x2≥0)) (gd (0≤x2∧x2.toNat<(p1).length) (lt (aT p1 (x2.toNat)) fun y5=>bd (jK fu (aC.mk 2 y5.aB7 (aF.mk 0 0) []) y5.aB8) fun x8=>some (x8,0))) (sw (decide (pA≤0)) (some ((aC.mk 0 0 (aF.mk 0 0) []),3)) (bd (pX fu p8 p5.aBz) fun(x11,x12,x13)=>sw (x11.aB1) (bd (j8 fu p8 p1 p5 ([])) fun x16=>sw (!decide (x16=0)) (some ((aC.mk 0 0 (aF.mk 0 0) []),x16)) (some ((aC.mk 5 0 (aF.mk 0 0) []),0))) (sw (decide (p5.aBu.aBw=1)) (some ((aC.mk 0 0 (aF.mk 0 0) []),1)) (sw (decide (p5.aBu.aBw=3)) (some ((aC.mk 0 0 (aF.mk 0 0) []),1)) (sw (decide (p5.aBu.aBw=4)) (bd (mO fu p8 p5.aBu.aBs p5.aBz) fun(x22,x23)=>sw x23 (bd (jK fu (aC.mk 4 0 (aF.mk 0 0) []) x22) fun x26=>some (x26,0)) (bd (p3 p8 p1 p5 pA) fun(x28,x29)=>some (x28,x29))) (bd (p3 p8 p1 p5 pA) fun(x31,x32)=>some (x31,x32)))))))
theorem W0(fu:Nat)(p2:t7)(p3:wQ)(pC:xT p2)(p9:F3 p3):xT (CE fu p2 p3):=by
 intro p8 p1 p5 pA r H
 refine qJ func62 H (fun C hC H=>?_)
 refine gQ 2 ?_;refine q1 (fE ([aR p8.aBr])) (q1 (fE (cH p5)) ?_)
 refine gQ 6 ?_;refine q1 (b6 [pS p5.aBz,pI p5.aBu.aBw,pS p5.aBu.aBs,aU p5.aBu.aBt]) (bM H fun x2 z1 H=>(q1 (bI func14 (tL fu p1 p5 _ z1)) ?_))
 refine gQ 8 ?_;refine bF H (fun h3 H=>?_) (fun h3 H=>?_)
 ·refine qS (cA H fun z4 H=>(fZ H fun y5 h6 H=>(bM H fun x8 z7 H=>(dW (dI [1] bH (dI [10] bH (dI [22,23] (rIm h6 z4 aqP.h) (dI [24] wX (dI [25] vE (dI [26] oP (dI [1] bH (dI [10] bH (dI [28,29] (rIm h6 z4 aqP.h) ?_)))))))))))))
  refine dI [30] wX (dI [31] vE (dI [27,32] (bI func120 (xP fu (aC.mk 2 y5.aB7 (aF.mk 0 0) []) y5.aB8 _ z7)) (iY [8,33] hM (dI [] bH (dN ?_)))))
  exact gE 0
 refine gQ 7 ?_;refine bF H (fun h9 H=>gE 6) fun h9 H=>?_;refine gQ 3 ?_;refine q1 (b6 [aR p8.aBr]) ?_;refine gQ 2 ?_;refine DC H fun x11 x12 x13 z10 H=>(q1 (bI func121 (A8 fu p8 p5.aBz _ z10)) ?_)
 refine gQ 15 ?_;refine bF H (fun h14 H=>?_) (fun h14 H=>?_)
 ·refine gQ 2 ?_;refine q1 (b6 [aR p8.aBr]) (q1 bH (q1 (b6 [pS p5.aBz,pI p5.aBu.aBw,pS p5.aBu.aBs,aU p5.aBu.aBt]) (q1 (nU ([]:List aA)) (bM H fun x16 z15 H=>(q1 (bI func52 (agJ fu p8 p1 p5 ([]) _ z15)) ?_)))))
  refine gQ 8 ?_;refine bF H (fun h17 H=>gE 7) fun h17 H=>?_;exact gE 7
 refine gQ 9 ?_;refine dL 61 H (fun g18 H=>gE 13) fun g18 H=>?_;refine gQ 6 ?_;refine bF H (fun h19 H=>gE 6) fun h19 H=>?_;refine gQ 9 ?_;refine bF H (fun h20 H=>?_) (fun h20 H=>?_)
 ·refine gQ 2 ?_;refine q1 (b6 [aR p8.aBr]) ?_;refine gQ 5 ?_;refine eF H fun x22 x23 z21 H=>(q1 (bI func58 (A3 fu p8 p5.aBu.aBs p5.aBz _ z21)) ?_)
  refine gQ 10 ?_;refine bF H (fun h24 H=>?_) (fun h24 H=>?_)
  ·refine gQ 4 ?_;refine bM H fun x26 z25 H=>(q1 (bI func120 (xP fu (aC.mk 4 0 (aF.mk 0 0) []) x22 _ z25)) ?_)
   exact gE 3
  refine gQ 3 ?_;refine q1 (b6 [aR p8.aBr]) (q1 bH (q1 (b6 [pS p5.aBz,pI p5.aBu.aBw,pS p5.aBu.aBs,aU p5.aBu.aBt]) (q1 bH (eF H fun x28 x29 z27 H=>(q1 (bI func122 (p9 p8 p1 p5 pA _ z27)) ?_)))))
  exact gE 5
 refine gQ 3 ?_;refine q1 (b6 [aR p8.aBr]) (q1 bH (q1 (b6 [pS p5.aBz,pI p5.aBu.aBw,pS p5.aBu.aBs,aU p5.aBu.aBt]) (q1 bH (eF H fun x31 x32 z30 H=>(q1 (bI func122 (p9 p8 p1 p5 pA _ z30)) ?_)))))
 exact gE 5
def SR(fu:Nat)(p2:t7)(p3:wQ)(p8:aH)(p1:List aK)(p5:aD)(pA:Int)(x2:aF)(x3:Int)(y6:aN)(y9:aL):Nat→((List aC))→Option (LR ((List aC)) (aC×Int)):=fun i13 v15=>gd (qP (jE y9.aBH p5.aBu)) (gd (gK ((aT y9.aBK i13).aBu)) (bd (p2 p8 p1 (aD.mk ((aT y9.aBK i13).aBz) (lD (jE y9.aBH p5.aBu) ((aT y9.aBK i13).aBu))) (aZ (pA-1))) fun(x21,x22)=>sw (!decide (x22=0)) (some (.ret ((aC.mk 0 0 (aF.mk 0 0) []),x22))) (gd ((v15).length+(([x21]:List aC)).length≤68719476736) (some (.next (v15++([x21]:List aC)))))))
def M2(fu:Nat)(p2:t7)(p3:wQ)(p8:aH)(p1:List aK)(p5:aD)(pA:Int):Option (aC×Int):=bd (qM fu p8 p5) fun(x2,x3)=>sw (!decide (x3=0)) (some ((aC.mk 0 0 (aF.mk 0 0) []),x3)) (gd (0≤x2.aBD∧(x2.aBD).toNat<(p8.aBr).length) (lt (aT p8.aBr ((x2.aBD).toNat)) fun y6=>gd (0≤x2.aBS∧(x2.aBS).toNat<(y6.aBE).length) (lt (aT y6.aBE ((x2.aBS).toNat)) fun y9=>gd (Tr.bulkL (aA.tr y9.aBH)≤68719476735) (gd (gK p5.aBu) (so (loopN (SR fu p2 p3 p8 p1 p5 pA x2 x3 y6 y9) (y9.aBK.length-0) 0 ([])) fun v15=>some ((aC.mk 1 0 x2 v15),0))))))
theorem Y1(fu:Nat)(p2:t7)(p3:wQ)(pC:xT p2)(p9:F3 p3):F3 (M2 fu p2 p3):=by
 intro p8 p1 p5 pA r H
 refine qJ func122 H (fun C hC H=>?_)
 refine gQ 2 ?_;refine q1 (fE ([aR p8.aBr])) (q1 (fE (cH p5)) ?_)
 refine gQ 5 ?_;refine q1 (b6 [aR p8.aBr]) (q1 (b6 [pS p5.aBz,pI p5.aBu.aBw,pS p5.aBu.aBs,aU p5.aBu.aBt]) (eF H fun x2 x3 z1 H=>(q1 (bI func160 (MM fu p8 p5 _ z1)) ?_)))
 refine gQ 13 ?_;refine bF H (fun h4 H=>gE 7) fun h4 H=>?_;refine gQ 2 ?_;refine cA H fun z5 H=>(fZ H fun y6 h7 H=>(cA H fun z8 H=>(fZ H fun y9 h10 H=>(dW (dI [4] bZ (dB [29] 0 1 sM (dI [10] bZ (dB [31] 0 1 sM (dI [30,32] (rIm h7 z5 alJ.h) (dI [33] wX (dI [34] vE (dI [10] bZ (dB [36] 0 1 sM ?_)))))))))))))
 refine dI [35,37] (rIm h10 z8 aeC.h) (dI [38] (gS (aL.cs y9)) (dE [] tAl (iY [12,39] hM (dN ?_))))
 refine gQ 3 ?_;refine q1 (b6 [pI y9.aBH.aBw,pS y9.aBH.aBs,aU y9.aBH.aBt]) (q1 bZ (q1 (b6 [pI p5.aBu.aBw,pS p5.aBu.aBs,aU p5.aBu.aBt]) (cA H fun z11 H=>(cA H fun z12 H=>(q1 (bI func161 (amF y9.aBH p5.aBu z11 z12)) ?_)))))
 refine gQ 8 ?_;refine q1 (b6 [pI x2.aBD,pI x2.aBS]) ?_;refine gQ 9 ?_;refine cO.wk (Wk.regBox (k:=5) (j:=4) 55 5 (by decide) rfl rfl) ?_;refine cO.fact (cK 4 5 rfl rfl rfl (aD.trs_len _)) (fun hl16=>?_)
 try dsimp only at hl16
 refine bU (σ:=(List aC)) (fun i13 v15=>⟨[(1,bY p1),(3,pI pA),(4,.ptr 0 0),(8,.ptr 2 0),(9,pI 0),(12,.ptr 4 0),(13,gB (jE y9.aBH p5.aBu)),(15,.ptr 5 0),(16,pN i13)],⟨[some ⟨26,[aR p8.aBr]⟩,some ⟨32,cH p5⟩,some ⟨55,[pI 0,pI 0,pI 0,pI 0,.nil]⟩,some ⟨52,[pI x2.aBD,pI x2.aBS]⟩,some ⟨163,dU y9⟩,some ⟨55,[pI 1,pI 0,pI x2.aBD,pI x2.aBS,eX v15 0]⟩],[⟨55,5,aC.trs (v15),false⟩]⟩⟩) (fun v15=>⟨[(8,.ptr 2 0),(9,pI 0),(15,.ptr 5 0)],⟨[some ⟨26,[aR p8.aBr]⟩,some ⟨32,cH p5⟩,some ⟨55,[pI 0,pI 0,pI 0,pI 0,.nil]⟩,some ⟨52,[pI x2.aBD,pI x2.aBS]⟩,some ⟨163,dU y9⟩,some ⟨55,[pI 1,pI 0,pI x2.aBD,pI x2.aBS,eX v15 0]⟩],[⟨55,5,aC.trs (v15),false⟩]⟩⟩) (eJ H) ?_ ?_
 ·rintro i13 v15 H
  refine gQ 9 ?_;refine cT H (fun h17 h17l H=>?_) (fun h17 H=>?_)
  ·refine gQ 4 ?_;refine cA H fun z18 H=>(cA H fun z19 H=>(eF H fun x21 x22 z20 H=>(dW (dB [4] 0 1 (zN [aR p8.aBr]) (dI [1] bH (dI [12] bZ (dB [60] 0 1 sM (dI [16] bH (dI [61,62] m9 (dI [63] wX (dI [64] vE (dI [13] bH (dI [12] bZ ?_)))))))))))))
   refine dB [67] 0 1 sM (dI [16] bH (dI [68,69] m9 (dI [70] wX (dI [71] (gS (aA.cs ((aT y9.aBK i13).aBu))) (dI [66,72] (bI func110 (Z0 (jE y9.aBH p5.aBu) ((aT y9.aBK i13).aBu) z18 z19)) (dI [65,73] oP (dI [3] bH (dI [75] rSw (dI [58,59,74,76] (bI func62 (pC p8 p1 (aD.mk ((aT y9.aBK i13).aBz) (lD (jE y9.aBH p5.aBu) ((aT y9.aBK i13).aBu))) (aZ (pA-1)) _ z20)) (dI [77] bH ?_))))))))))
   iterate 2 refine dI [57] rEx ?_
   refine dE [] tAl (iY [17,78] hM (dI [79] bH (dN ?_)))
   refine gQ 6 ?_;refine bF H (fun h23 H=>gE 7) fun h23 H=>?_;refine gQ 4 ?_;refine q1 (b6 [pI x21.aBw,pI x21.aCa,pI x21.aBS.aBD,pI x21.aBS.aBS,bL x21.aBt]) (q1 (fY ([x21]:List aC)) (cA H fun z24 H=>(q1 (jO z24) ?_)))
   exact gE 8
  exact gE 0
 rintro v15 H
 refine gQ 2 ?_;refine q1 (b6 [pI 1,pI 0,pI x2.aBD,pI x2.aBS,eX v15 0]) ?_;exact gE 3
mutual
def iL:Nat→aH→(List aK)→aD→Int→Option (aC×Int)
 |0,_,_,_,_=>none
 |fu+1,p8,p1,p5,pA=>CE fu (iL fu) (oO fu) p8 p1 p5 pA
def oO:Nat→aH→(List aK)→aD→Int→Option (aC×Int)
 |0,_,_,_,_=>none
 |fu+1,p8,p1,p5,pA=>M2 fu (iL fu) (oO fu) p8 p1 p5 pA
end
theorem Y2(fu:Nat):xT (iL fu)∧F3 (oO fu):=by
 induction fu with
 |zero=>exact⟨(fun p8 p1 p5 pA r H=>by simp only [iL] at H;cases H),(fun p8 p1 p5 pA r H=>by simp only [oO] at H;cases H)⟩
 |succ fu ih=>exact⟨(fun p8 p1 p5 pA r H=>by simp only [iL] at H;exact W0 fu (iL fu) (oO fu) ih.1 ih.2 p8 p1 p5 pA r H),(fun p8 p1 p5 pA r H=>by simp only [oO] at H;exact Y1 fu (iL fu) (oO fu) ih.1 ih.2 p8 p1 p5 pA r H)⟩
theorem acX(fu:Nat):xT (iL fu):=(Y2 fu).1
abbrev vW:=bP→aD→Int→Option (aC×Int)
def I6(m:vW):Prop:= ∀(p7:bP) (p1:aD) (p0:Int) (r:aC×Int),m p7 p1 p0=some r→cB Tryz.prog 61 [.ptr 0 0,(aD.pv p1),pI p0] ⟨[some ⟨145,[aR p7.aCc.aBr,bY p7.aBV]⟩],[]⟩ (fun q t=>q=(.tup [(aC.pv r.1),pI r.2]:PV)∧t=⟨[some ⟨145,[aR p7.aCc.aBr,bY p7.aBV]⟩],[]⟩)
def VJ(fu:Nat)(p4:vW)(p7:bP)(p1:aD)(p0 x2:Int):Option ((aC×Int)⊕(ByteArray×(LB)×Bool×Bool×(List aG))):=bd (D4 fu p7.aCc p1.aBz) fun(x16,x17,x18)=>sw x18 (sw (x16.aB1) (bd (rB fu p7 p1.aBz p1.aBu ([])) fun x22=>sw (!decide (x22=0)) (some (.inl ((aC.mk 0 0 (aF.mk 0 0) []),x22))) (some (.inl ((aC.mk 5 0 (aF.mk 0 0) []),0)))) (some (.inr (x16.aBs,x16.aBB,x16.aB1,x16.aBR,x16.aBP)))) (some (.inr (x16.aBs,x16.aBB,x16.aB1,x16.aBR,x16.aBP)))
def L1(fu:Nat)(p4:vW)(p7:bP)(p1:aD)(p0 x2:Int)(v10:ByteArray)(v11:LB)(v12 v13:Bool)(v14:List aG):Option (((aC×Int)⊕Unit)⊕Bool):=sw (decide (p1.aBu.aBw=1)) (some (.inr (decide (p1.aBu.aBw=1)))) (some (.inr (decide (p1.aBu.aBw=3))))
def L0(fu:Nat)(p4:vW)(p7:bP)(p1:aD)(p0 x2:Int)(v10:ByteArray)(v11:LB)(v12 v13:Bool)(v14:List aG):Option ((aC×Int)⊕Unit):=so (L1 fu p4 p7 p1 p0 x2 v10 v11 v12 v13 v14) fun v24=>sw (v24) (some (.inl ((aC.mk 0 0 (aF.mk 0 0) []),1))) (sw (decide (p1.aBu.aBw=4)) (bd (kU fu p7.aCc p1.aBu.aBs p1.aBz) fun(x29,x30)=>sw x30 (bd (gT fu (aC.mk 4 0 (aF.mk 0 0) []) x29) fun x33=>some (.inl (x33,0))) (some (.inr ()))) (some (.inr ())))
def VK(fu:Nat)(p4:vW)(p7:bP)(p1:aD)(p0 x2:Int)(v10:ByteArray)(v11:LB)(v12 v13:Bool)(v14:List aG)(x35:aF)(x36:Int)(x39:aL)(x40:Bool):Nat→((List aC))→Option (LR ((List aC)) (aC×Int)):=fun i43 v45=>gd (qP (jE x39.aBH p1.aBu)) (gd (gK ((aT x39.aBK i43).aBu)) (bd (p4 p7 (aD.mk ((aT x39.aBK i43).aBz) (lD (jE x39.aBH p1.aBu) ((aT x39.aBK i43).aBu))) (aZ (p0+1))) fun(x51,x52)=>sw (!decide (x52=0)) (some (.ret ((aC.mk 0 0 (aF.mk 0 0) []),x52))) (gd ((v45).length+(([x51]:List aC)).length≤68719476736) (some (.next (v45++([x51]:List aC)))))))
def I5(fu:Nat)(p4:vW)(p7:bP)(p1:aD)(p0:Int):Option (aC×Int):=bd (mF fu p7.aBV p1) fun x2=>sw (decide (x2≥0)) (gd (0≤x2∧x2.toNat<(p7.aBV).length) (lt (aT p7.aBV (x2.toNat)) fun y5=>bd (gT fu (aC.mk 2 y5.aB7 (aF.mk 0 0) []) y5.aB8) fun x8=>some (x8,0))) (sw (decide (p0≥12)) (some ((aC.mk 0 0 (aF.mk 0 0) []),3)) (so (VJ fu p4 p7 p1 p0 x2) fun(v10,v11,v12,v13,v14)=>so (L0 fu p4 p7 p1 p0 x2 v10 v11 v12 v13 v14) fun _=>bd (qG fu p7.aCc p1) fun(x35,x36)=>sw (!decide (x36=0)) (some ((aC.mk 0 0 (aF.mk 0 0) []),x36)) (bd (tZ fu p7.aCc x35) fun(x39,x40)=>gd (Tr.bulkL (aA.tr x39.aBH)≤68719476735) (gd (gK p1.aBu) (so (loopN (VK fu p4 p7 p1 p0 x2 v10 v11 v12 v13 v14 x35 x36 x39 x40) (x39.aBK.length-0) 0 ([])) fun v45=>some ((aC.mk 1 0 x35 v45),0))))))
theorem abE(fu:Nat)(p4:vW)(pD:I6 p4):I6 (I5 fu p4):=by
 intro p7 p1 p0 r H
 refine qJ func61 H (fun C hC H=>?_)
 refine gQ 2 ?_;refine q1 (fE (cH p1)) ?_;refine gQ 5 ?_;refine bM H fun x2 z1 H=>(dW (dI [0] bH (dI [27] uV (dI [28] bZ (dD [29] eB (dD [4] (b6 [pS p1.aBz,pI p1.aBu.aBw,pS p1.aBu.aBs,aU p1.aBu.aBt]) (dI [30,31] (bI func101 (AJ fu p7.aBV p1 _ z1)) (dI [32] bH (dN ?_)))))))))
 refine gQ 5 ?_;refine bF H (fun h3 H=>?_) (fun h3 H=>?_)
 ·refine gQ 7 ?_;refine cA H fun z4 H=>(fZ H fun y5 h6 H=>(q1 (rIm h6 z4 aqP.h) (q1 (gS (aK.cs y5)) ?_)))
  refine gQ 10 ?_;refine bM H fun x8 z7 H=>(q1 (bI func114 (xG fu (aC.mk 2 y5.aB7 (aF.mk 0 0) []) y5.aB8 _ z7)) ?_)
  exact gE 3
 refine gQ 7 ?_;refine bF H (fun h9 H=>gE 6) fun h9 H=>?_;refine gQ 2 ?_;refine nW (σ:=ByteArray×(LB)×Bool×Bool×(List aG)) (fun(v10,v11,v12,v13,v14)=>⟨[(0,.ptr 0 0),(2,pI p0),(4,.ptr 1 0),(6,.ptr 2 0),(7,pI 0)],⟨[some ⟨145,[aR p7.aCc.aBr,bY p7.aBV]⟩,some ⟨32,cH p1⟩,some ⟨55,[pI 0,pI 0,pI 0,pI 0,.nil]⟩,some ⟨156,[pS v10,rS v11,pB v12,pB v13,gC v14]⟩],[]⟩⟩) (eJ H) (fun H=>?_) ?_
 ·refine qS (DC H fun x16 x17 x18 z15 H=>(dW (dI [0] bH (dI [52] uV (dI [53] bZ (dB [54] 0 1 (zN [aR p7.aCc.aBr]) (dI [4] bZ (dB [56] 0 1 sM (dI [55,57] (bI func115 (QD fu p7.aCc p1.aBz _ z15)) (dI [58] bH ?_))))))))))
  iterate 3 refine dI [51] rEx ?_
  refine dE [] tAl (iY [10,59] hM (dI [60] bH (dI [61] bH (dN ?_))))
  refine gQ 4 ?_;refine dL 63 H (fun g19 H=>?_) fun g19 H=>?_
  ·refine gQ 4 ?_;refine bF H (fun h20 H=>?_) (fun h20 H=>?_)
   ·refine gQ 7 ?_;refine q1 (b6 [pI p1.aBu.aBw,pS p1.aBu.aBs,aU p1.aBu.aBt]) (bM H fun x22 z21 H=>(q1 (fD [0] [] func51 (al1 fu p7 p1.aBz p1.aBu ([]) _ z21)) ?_))
    refine gQ 7 ?_;refine bF H (fun h23 H=>gE 7) fun h23 H=>?_;exact gE 7
   exact gE 1
  exact gE 6
 rintro⟨v10,v11,v12,v13,v14⟩ H
 refine qS ?_;refine nW (σ:=Unit) (fun _=>⟨[(0,.ptr 0 0),(2,pI p0),(4,.ptr 1 0),(6,.ptr 2 0),(7,pI 0)],⟨[some ⟨145,[aR p7.aCc.aBr,bY p7.aBV]⟩,some ⟨32,cH p1⟩,some ⟨55,[pI 0,pI 0,pI 0,pI 0,.nil]⟩,some ⟨156,[pS v10,rS v11,pB v12,pB v13,gC v14]⟩],[]⟩⟩) (eJ H) (fun H=>?_) ?_
 ·refine gQ 8 ?_;refine nW (σ:=Bool) (fun v24=>⟨[(0,.ptr 0 0),(2,pI p0),(4,.ptr 1 0),(6,.ptr 2 0),(7,pI 0),(80,pI p1.aBu.aBw),(81,pB v24)],⟨[some ⟨145,[aR p7.aCc.aBr,bY p7.aBV]⟩,some ⟨32,cH p1⟩,some ⟨55,[pI 0,pI 0,pI 0,pI 0,.nil]⟩,some ⟨156,[pS v10,rS v11,pB v12,pB v13,gC v14]⟩],[]⟩⟩) (eJ H) (fun H=>?_) ?_
  ·refine gQ 5 ?_;refine bF H (fun h25 H=>gE 1) fun h25 H=>?_;exact gE 4
  rintro v24 H
  refine bF H (fun h26 H=>gE 6) fun h26 H=>?_;refine gQ 5 ?_;refine bF H (fun h27 H=>?_) (fun h27 H=>?_)
  ·refine qS (eF H fun x29 x30 z28 H=>(dW (dI [0] bH (dI [88] uV (dI [89] bZ (dD [90] (b6 [aR p7.aCc.aBr]) (dI [4] bZ (dI [92] bZ (dD [93] eB (dI [4] bZ (dD [95] eB (dI [91,94,96] (bI func116 (AM fu p7.aCc p1.aBu.aBs p1.aBz _ z28)) (dI [97] bH ?_)))))))))))))
   iterate 2 refine dI [87] rEx ?_
   refine dI [98] bH (dI [99] bH (dN ?_))
   refine gQ 4 ?_;refine bF H (fun h31 H=>?_) (fun h31 H=>?_)
   ·refine gQ 4 ?_;refine bM H fun x33 z32 H=>(q1 (bI func114 (xG fu (aC.mk 4 0 (aF.mk 0 0) []) x29 _ z32)) ?_)
    exact gE 3
   exact gE 1
  exact gE 1
 rintro⟨⟩ H
 refine qS (eF H fun x35 x36 z34 H=>(dW (dI [0] bH (dI [105] uV (dI [106] bZ (dB [107] 0 1 (zN [aR p7.aCc.aBr]) (dB [4] 0 1 (zN [pS p1.aBz,pI p1.aBu.aBw,pS p1.aBu.aBs,aU p1.aBu.aBt]) (dI [108,109] (bI func117 (LU fu p7.aCc p1 _ z34)) (dI [110] bH ?_)))))))))
 iterate 2 refine dI [104] rEx ?_
 refine dE [] tAl (iY [16,111] hM (dI [112] bH (dN ?_)))
 refine gQ 6 ?_;refine bF H (fun h37 H=>gE 7) fun h37 H=>?_;refine gQ 2 ?_;refine eF H fun x39 x40 z38 H=>(dW (dI [0] bH (dI [118] uV (dI [119] bZ (dB [120] 0 1 (zN [aR p7.aCc.aBr]) (dB [16] 0 1 (zN [pI x35.aBD,pI x35.aBS]) (dI [121,122] (bI func118 (zC fu p7.aCc x35 _ z38)) (dI [123] bH ?_))))))))
 iterate 2 refine dI [117] rEx ?_
 refine dE [] tAl (iY [18,124] hM (dI [125] bH (dN ?_)))
 refine gQ 3 ?_;refine q1 (b6 [pI x39.aBH.aBw,pS x39.aBH.aBs,aU x39.aBH.aBt]) (q1 bZ (q1 (b6 [pI p1.aBu.aBw,pS p1.aBu.aBs,aU p1.aBu.aBt]) (cA H fun z41 H=>(cA H fun z42 H=>(q1 (bI func119 (alS x39.aBH p1.aBu z41 z42)) ?_)))))
 refine gQ 8 ?_;refine q1 (b6 [pI x35.aBD,pI x35.aBS]) ?_;refine gQ 12 ?_;refine cO.wk (Wk.regBox (k:=6) (j:=4) 55 5 (by decide) rfl rfl) ?_;refine fS 137 (aD.trs_len _) (fun hl46=>?_)
 try dsimp only at hl46
 refine bU (σ:=(List aC)) (fun i43 v45=>⟨[(0,.ptr 0 0),(2,pI p0),(6,.ptr 2 0),(7,pI 0),(20,gB (jE x39.aBH p1.aBu)),(22,.ptr 6 0),(137,bW x39.aBK),(138,pN x39.aBK.length),(139,pN i43)],⟨[some ⟨145,[aR p7.aCc.aBr,bY p7.aBV]⟩,some ⟨32,cH p1⟩,some ⟨55,[pI 0,pI 0,pI 0,pI 0,.nil]⟩,some ⟨156,[pS v10,rS v11,pB v12,pB v13,gC v14]⟩,some ⟨52,[pI x35.aBD,pI x35.aBS]⟩,some ⟨163,dU x39⟩,some ⟨55,[pI 1,pI 0,pI x35.aBD,pI x35.aBS,eX v45 0]⟩],[⟨55,5,aC.trs (v45),false⟩]⟩⟩) (fun v45=>⟨[(6,.ptr 2 0),(7,pI 0),(22,.ptr 6 0)],⟨[some ⟨145,[aR p7.aCc.aBr,bY p7.aBV]⟩,some ⟨32,cH p1⟩,some ⟨55,[pI 0,pI 0,pI 0,pI 0,.nil]⟩,some ⟨156,[pS v10,rS v11,pB v12,pB v13,gC v14]⟩,some ⟨52,[pI x35.aBD,pI x35.aBS]⟩,some ⟨163,dU x39⟩,some ⟨55,[pI 1,pI 0,pI x35.aBD,pI x35.aBS,eX v45 0]⟩],[⟨55,5,aC.trs (v45),false⟩]⟩⟩) (eJ H) ?_ ?_
 ·rintro i43 v45 H
  refine gQ 5 ?_;refine cT H (fun h47 h47l H=>?_) (fun h47 H=>?_)
  ·refine gQ 6 ?_;refine q1 (gS (aD.cs (aT x39.aBK i43))) ?_;refine gQ 4 ?_;refine cA H fun z48 H=>(cA H fun z49 H=>(eF H fun x51 x52 z50 H=>(dWa (dI [0] bH (dI [24] bZ (XL [145] 0 0 sM (dI [20] bH (dI [24] bZ (XL [148] 0 0 (zN [pI (((aT x39.aBK i43).aBu).aBw),pS (((aT x39.aBK i43).aBu).aBs),aU (((aT x39.aBK i43).aBu).aBt)]) (dI [147,149] (bI func16 (ZH (jE x39.aBH p1.aBu) ((aT x39.aBK i43).aBu) z48 z49)) (dI [146,150] oP (dI [2] bH (dI [152] rAw ?_)))))))))))))
   refine dEz [144,151,153] (fun _ z=>by cases z<;>exact fD [0] [] func61 (pD p7 (aD.mk ((aT x39.aBK i43).aBz) (lD (jE x39.aBH p1.aBu) ((aT x39.aBK i43).aBu))) (aZ (p0+1)) _ z50)) ?_;refine dI [154] bH ?_
   iterate 2 refine dI [143] rEx ?_
   refine dA (fun _ st h=>vAl h arC.h) (dZ 25 [25,155] hM (dI [156] bH (dN ?_)))
   refine gQ 6 ?_;refine bF H (fun h53 H=>gE 7) fun h53 H=>?_;refine gQ 4 ?_;refine q1 (b6 [pI x51.aBw,pI x51.aCa,pI x51.aBS.aBD,pI x51.aBS.aBS,bL x51.aBt]) (q1 (fY ([x51]:List aC)) (cA H fun z54 H=>(q1 (jO z54) ?_)))
   exact gE 7
  exact gE 0
 rintro v45 H
 refine gQ 2 ?_;refine q1 (b6 [pI 1,pI 0,pI x35.aBD,pI x35.aBS,eX v45 0]) ?_;exact gE 3
def nH:Nat→bP→aD→Int→Option (aC×Int)
 |0,_,_,_=>none
 |fu+1,p7,p1,p0=>I5 fu (nH fu) p7 p1 p0
theorem aeT(fu:Nat):I6 (nH fu):=by
 induction fu with
 |zero=>exact(fun p7 p1 p0 r H=>by simp only [nH] at H;cases H)
 |succ fu ih=>exact(fun p7 p1 p0 r H=>by simp only [nH] at H;exact abE fu (nH fu) ih p7 p1 p0 r H)
theorem ah7(fu:Nat):I6 (nH fu):=(aeT fu)
def WJ(fu:Nat)(pw:aH)(p6:List aD)(pg:aD):Option (aC×Int):=bd (uX fu pw p6) fun x2=>bd (iL fu pw x2 pg 12) fun(x4,x5)=>some (x4,x5)
theorem amH(fu:Nat)(pw:aH)(p6:List aD)(pg:aD)(r:aC×Int)(H:WJ fu pw p6 pg=some r):bQ Tryz.prog 19 [(aH.pv pw),bW p6,(aD.pv pg)] (.tup [(aC.pv r.1),pI r.2]):=by
 refine qJ func19 H (fun C hC H=>?_)
 refine gQ 2 ?_;refine q1 (fE ([aR pw.aBr])) (q1 (fE (cH pg)) ?_)
 refine gQ 4 ?_;refine bM H fun x2 z1 H=>(eF H fun x4 x5 z3 H=>(dW ?_))
 iterate 2 refine dD [3] (b6 [aR pw.aBr]) ?_
 refine dI [1] bH (dI [9,10] (bI func15 (TE fu pw p6 _ z1)) (dD [5] (b6 [pS pg.aBz,pI pg.aBu.aBw,pS pg.aBu.aBs,aU pg.aBu.aBt]) (dI [8,11,12] (bI func62 (acX fu pw x2 pg 12 _ z3)) ?_)))
 iterate 2 refine dI [13] rEx ?_
 refine iY [6,14] hM (dI [15] bH (dN ?_))
 exact gE 0
def U8(fu:Nat)(pw:aH)(p6:List aD)(pg:aD):Option (aC×Int):=gd (R4 pw p6) (bd (nH fu (bP.mk pw (J2 pw p6)) pg 0) fun(x3,x4)=>some (x3,x4))
theorem alV(fu:Nat)(pw:aH)(p6:List aD)(pg:aD)(r:aC×Int)(H:U8 fu pw p6 pg=some r):bQ Tryz.prog 18 [(aH.pv pw),bW p6,(aD.pv pg)] (.tup [(aC.pv r.1),pI r.2]):=by
 refine qJ func18 H (fun C hC H=>?_)
 refine gQ 2 ?_;refine q1 (fE ([aR pw.aBr])) (q1 (fE (cH pg)) ?_)
 refine gQ 4 ?_;refine cA H fun z1 H=>(eF H fun x3 x4 z2 H=>(dW (dD [3] (b6 [aR pw.aBr]) (dI [1] bH (dE [8,9] (bD.callNew (ps:= [_,_]) rfl rfl func50 (by kernel_rfl) rfl rfl iX rfl rfl (abJ pw p6 z1)) (dB [5] 0 1 (zN [pS pg.aBz,pI pg.aBu.aBw,pS pg.aBu.aBs,aU pg.aBu.aBt]) (dE [10,11] (fD [3] [] func61 (ah7 fu (bP.mk pw (J2 pw p6)) pg 0 _ z2)) ?_)))))))
 iterate 2 refine dI [12] rEx ?_
 refine iY [6,13] hM (dI [14] bH (dN ?_))
 exact gE 0
end
end Go.Proofs.YtfcoaagbccmahaaGreat.W

namespace Go.Proofs.YtfcoaagbccmahaaGreat.W
attribute [local irreducible] lt
open Go.RowKit Go.Proofs
def fV(w:aH)(g:aD):List aF:=(fH w).filter fun o=>qX w g o
def xX(w:aH)(l:List aF)(o:aF):Bool:=l.any fun p=>EA (cJ w p).aBH (cJ w o).aBH
def CU(w:aH)(g:aD)(o:aF):aF×Int:=bif ((cJ w o).aBX&& !iQ g.aBu) then(.mk 0 0,2) else(o,0)
def f7(w:aH)(g:aD):aF×Int:=match(fV w g).find? (fun o=> !xX w (fV w g) o) with
 |some o=>CU w g o
 |none=>(.mk 0 0,1)
theorem DE{w:aH}{g:aD}{o:aF}(h:o∈fV w g):uN w o:=T6 (List.mem_filter.1 h).1
theorem aaD{α β:Type}{p:α→Bool}{r:α→β}{l:List α}{m:Option (β⊕Unit)}{f:Unit→Option β}(hm:m=some (match l.find? p with|some x=> .inl (r x)|none=> .inr ())){b:β}(hf:f ()=some b):so m f=some (match l.find? p with|some x=>r x|none=>b):=by
 cases hq:l.find? p with
 |none=>
  rw [hq] at hm
  exact UA hm hf
 |some x=>
  rw [hq] at hm
  exact soL hm
theorem aj9{α:Type}(q:α→Bool): ∀(l:List α) (b:Bool),l.foldl (fun v x=>v&& !q x) b=(b&& !l.any q)
 | [],b=>by simp
 |a::l,b=>by
  rw [List.foldl_cons,aj9 q l,List.any_cons]
  cases b<;>cases q a<;>simp
theorem TX{β:Type}{w:aH}{o:aF}(h:uN w o){f:aN→aL→Option β}{z:Option β}(k: ∀p,f p (cJ w o)=z):gd (0≤o.aBD∧(o.aBD).toNat<(w.aBr).length) (lt (aT w.aBr ((o.aBD).toNat)) (fun y=>gd (0≤o.aBS∧(o.aBS).toNat<(y.aBE).length) (lt (aT y.aBE ((o.aBS).toNat)) (fun z=>f y z))))=z:=by
 obtain⟨p,q,rfl,hp,hq⟩:=h
 exact fT ⟨by show(0:Int)≤p;omega,by show((p:Nat):Int).toNat<_;omega⟩ (ZW rfl (fT ⟨by show(0:Int)≤q;omega,by show((q:Nat):Int).toNat<(aT w.aBr p).aBE.length;omega⟩ (ZW rfl (k _))))
section
variable {fu:Nat} {w:aH} (hw:wt w≤13000000) {g:aD} (hg:gK g.aBu)
include hw hg
theorem amE(hf:13000000<fu):lZ fu w g=some (fV w g):=by
 have hl:=UM hw
 have hr:=OO (fun o=> !qX w g o) (fH w) (fH w).length 0 rfl
 rw [List.drop_zero] at hr
 simp only [Bool.not_not] at hr
 have h:=wC (F:=n5 fu w g (fH w)) (n:=(fH w).length) (g:=fun i=>bif !qX w g (aT (fH w) i) then [] else [aT (fH w) i]) (M:=68719476736) (fun i v hi hv=>by
  have hR:=T6 (cE hi)
  unfold n5
  generalize aT (fH w) i=o at hR hv ⊢
  refine TX hR fun p=>?_
  have hB:=vN hw hR
  unfold qX at hv ⊢
  cases h1:decide ((cJ w o).aBz=g.aBz) with
  |false=>exact jA rfl (by rw [Bool.false_and,Bool.not_false,cond_true,List.append_nil])
  |true=>
   cases h2:l4 (cJ w o).aBH g.aBu with
   |false=>exact kS rfl (fT hB (fT hg (jA rfl (by rw [Bool.and_false,Bool.not_false,cond_true,List.append_nil]))))
   |true=>
    rw [h1,h2] at hv
    exact kS rfl (fT hB (fT hg (kS rfl (fT hv rfl))))) _ 0 [] rfl (by
  rw [Nat.sub_zero,hr,List.length_nil,Nat.zero_add]
  have:=List.length_filter_le (fun o=>qX w g o) (fH w)
  omega)
 rw [Nat.sub_zero,hr] at h
 unfold lZ
 rw [apL fu w (by omega) (aH.small_wt hw hf) (fun i hi=>(aH.len_at hw i hi).2.2)]
 refine(congrArg (fun x=>so x _) h).trans rfl
omit hg in
theorem aiL(i:Nat)(p:aN)(o:aF)(ho:uN w o):
 tS fu w g (fV w g) i p (cJ w o)=some (.inr (!xX w (fV w g) o)):=by
 unfold tS
 rw [kM (l:=fV w g) (g:=fun v p=>v&& !EA (cJ w p).aBH (cJ w o).aBH) (fun _ _=>True) (fun j v hj _=>⟨?_,trivial⟩) trivial,aj9,Bool.true_and]
 ·rfl
 ·have hR:=DE (cE hj)
  unfold A2
  generalize aT (fV w g) j=r at hR ⊢
  have h1:=vN hw hR
  have h2:=vN hw ho
  refine TX hR fun p=>?_
  cases v with
  |true=>exact kS rfl (fT h1 (fT h2 rfl))
  |false=>exact jA rfl rfl
theorem apN(hf:13000000<fu):qM fu w g=some (f7 w g):=by
 unfold qM
 refine hY (amE hw hg hf) ?_
 unfold f7
 refine(aaD (l:=fV w g) (p:=fun o=> !xX w (fV w g) o) (r:=CU w g) (b:=(aF.mk 0 0,1)) ?_ rfl).trans (by cases(fV w g).find? (fun o=> !xX w (fV w g) o)<;>rfl)
 refine mJ (l:=fV w g) (p:=fun o=> !xX w (fV w g) o) (r:=CU w g) (fun i hi=>?_)
 have hR:=DE (cE hi)
 unfold A1 CU
 generalize aT (fV w g) i=o at hR ⊢
 refine TX hR fun p=>?_;refine UA (aiL hw i p o hR) ?_
 unfold A0
 cases xX w (fV w g) o with
 |true=>exact UA (s:=(false,false,false)) (jA rfl rfl) (jA rfl rfl)
 |false=>
  cases hd:(cJ w o).aBX with
  |false=>exact UA (s:=(false,false,false)) (kS rfl (jA rfl rfl)) (kS rfl rfl)
  |true=>
   cases hgr:iQ g.aBu with
   |true=>exact UA (s:=(true,true,false)) (kS rfl (kS rfl (fT hg (jA rfl rfl)))) (kS rfl rfl)
   |false=>exact soL (kS rfl (kS rfl (fT hg (kS rfl rfl))))
omit hg in
theorem alT(l:List aF)(hl: ∀p∈l,uN w p)(o:aF)(ho:uN w o):cN fu l w (cJ w o)=some (xX w l o):=by
 have h1:dP fu l w (cJ w o)=some (match l.findIdx? (fun p=>EA (cJ w p).aBH (cJ w o).aBH) with|some i=>((i:Nat):Int)|none=> -1):=by
  unfold dP
  rw [rF (l:=l) (p:=fun p=>EA (cJ w p).aBH (cJ w o).aBH) fun i hi=>by
   have hR:=hl _ (cE hi)
   unfold iG sL
   rw [OF fu w _ hR]
   refine hY (fT (vN hw hR) (fT (vN hw ho) rfl)) ?_
   show sw (EA (cJ w (aT l i)).aBH (cJ w o).aBH) _ _=_
   cases EA (cJ w (aT l i)).aBH (cJ w o).aBH<;>rfl]
  cases l.findIdx? fun p=>EA (cJ w p).aBH (cJ w o).aBH<;>rfl
 unfold cN
 exact hY h1 (congrArg some P8)
theorem ao9:qG fu w g=some (f7 w g):=by
 unfold qG
 refine fT hw (fT hg ?_)
 unfold f7
 refine(aaD (l:=fV w g) (p:=fun o=> !xX w (fV w g) o) (r:=CU w g) (b:=(aF.mk 0 0,1)) ?_ rfl).trans (by cases(fV w g).find? (fun o=> !xX w (fV w g) o)<;>rfl)
 rw [show List.filter (fun o=>qX w g o) (fH w)=fV w g from rfl]
 refine mJ (l:=fV w g) (p:=fun o=> !xX w (fV w g) o) (r:=CU w g) (fun i hi=>?_)
 have hR:=DE (cE hi)
 unfold AK CU
 rw [show List.filter (fun o=>qX w g o) (fH w)=fV w g from rfl]
 generalize aT (fV w g) i=o at hR ⊢
 refine ZW rfl ?_
 rw [OF fu w o hR]
 show bd (cN fu (fV w g) w (cJ w o)) _=_
 refine hY (alT hw _ (fun p hp=>DE hp) o hR) ?_
 show sw _ _ (sw (cJ w o).aBX _ _)=_
 cases xX w (fV w g) o with
 |true=>exact kS rfl rfl
 |false=>
  refine jA rfl ?_
  cases hd:(cJ w o).aBX with
  |false=>exact jA rfl rfl
  |true=>
   refine kS rfl (fT hg ?_)
   cases hgr:iQ g.aBu with
   |true=>exact jA rfl rfl
   |false=>exact kS rfl rfl
end
end Go.Proofs.YtfcoaagbccmahaaGreat.W
