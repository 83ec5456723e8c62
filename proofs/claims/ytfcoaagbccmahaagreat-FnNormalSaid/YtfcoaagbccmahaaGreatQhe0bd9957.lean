/- Words, rules and walks of several kinds, laid together. No conditions but those that each theorem states. -/
import Derived.Test.YtfcoaagbccmahaaGreatQh7a799bc7
set_option linter.unusedSimpArgs false
set_option linter.unusedVariables false
namespace Go.Proofs.YtfcoaagbccmahaaGreat.W
set_option maxRecDepth 100000
set_option maxHeartbeats 40000000
noncomputable section
open Tryz Go.RowKit Go.Proofs
attribute [local irreducible] lt
abbrev J4:=DS→(LB)→Int→Option (aA×DS)
def PD(m:J4):Prop:= ∀(pc:DS) (p4:LB) (p3:Int) (r:aA×DS),m pc p4 p3=some r→A0 Tryz.prog 131 [.ptr 0 0,rS p4,pI p3] ⟨[some ⟨133,dC pc⟩],[]⟩ [some ⟨133,dC r.2⟩] 30 3 (aA.trs (r.1.aCa)) (fun k=> .agg [pI r.1.aCb,pS r.1.aB9,fK r.1.aCa k])
theorem ahC{m:J4}(h:PD m)(pc:DS)(p4:LB)(p3:Int)(r:aA×DS)(H:m pc p4 p3=some r):b6 Tryz.prog 131 [.ptr 0 0,rS p4,pI p3] ⟨[some ⟨133,dC pc⟩],[]⟩ (fun q t=>q=((aA.pv r.1):PV)∧t=⟨[some ⟨133,dC r.2⟩],[]⟩):=(h pc p4 p3 r H).plain (fun _=>jK) (hp:=an3)
def UJ(fu:Nat)(p9:J4)(pc:DS)(p4:LB)(p3:Int):Option (aA×DS):=lt (pc.after 8) fun d1=>sw (decide ((pc.below 8:Int)<3)) (sw (decide ((p4.length:Int)>0)) (lt (d1.after p4.length) fun d5=>gd (d1.below p4.length<(p4).length) (bd (l7 fu (aR p4 (d1.below p4.length))) fun x9=>some ((aA.mk x9.aCb x9.aB9 x9.aCa),d5))) (sw (decide ((pc.below 8:Int)<5)) (lt (d1.after ([dR,dP,gI]:LB).length) fun d11=>lt (d1.pick ([dR,dP,gI]:LB)) fun y13=>bd (eK fu y13 ([])) fun x16=>some ((aA.mk x16.aCb x16.aB9 x16.aCa),d11)) (sw (decide (p3≤0)) (lt (d1.after ([dR,dP,gI]:LB).length) fun d18=>lt (d1.pick ([dR,dP,gI]:LB)) fun y20=>bd (eK fu y20 ([])) fun x23=>some ((aA.mk x23.aCb x23.aB9 x23.aCa),d18)) (sw (decide ((pc.below 8:Int)=5)) (bd (p9 d1 p4 (aX (p3-1))) fun(x26,x27)=>bd (p9 x27 p4 (aX (p3-1))) fun(x29,x30)=>bd (eK fu l3 ([(aA.mk x26.aCb x26.aB9 x26.aCa),(aA.mk x29.aCb x29.aB9 x29.aCa)]:List aA)) fun x32=>some ((aA.mk x32.aCb x32.aB9 x32.aCa),x30)) (lt (d1.after ([cA,cA,pW]:LB).length) fun d33=>lt (d1.pick ([cA,cA,pW]:LB)) fun y35=>bd (p9 d33 p4 (aX (p3-1))) fun(x38,x39)=>bd (eK fu y35 ([(aA.mk x38.aCb x38.aB9 x38.aCa)]:List aA)) fun x41=>some ((aA.mk x41.aCb x41.aB9 x41.aCa),x39)))))) (sw (decide ((pc.below 8:Int)<5)) (lt (d1.after ([dR,dP,gI]:LB).length) fun d43=>lt (d1.pick ([dR,dP,gI]:LB)) fun y45=>bd (eK fu y45 ([])) fun x48=>some ((aA.mk x48.aCb x48.aB9 x48.aCa),d43)) (sw (decide (p3≤0)) (lt (d1.after ([dR,dP,gI]:LB).length) fun d50=>lt (d1.pick ([dR,dP,gI]:LB)) fun y52=>bd (eK fu y52 ([])) fun x55=>some ((aA.mk x55.aCb x55.aB9 x55.aCa),d50)) (sw (decide ((pc.below 8:Int)=5)) (bd (p9 d1 p4 (aX (p3-1))) fun(x58,x59)=>bd (p9 x59 p4 (aX (p3-1))) fun(x61,x62)=>bd (eK fu l3 ([(aA.mk x58.aCb x58.aB9 x58.aCa),(aA.mk x61.aCb x61.aB9 x61.aCa)]:List aA)) fun x64=>some ((aA.mk x64.aCb x64.aB9 x64.aCa),x62)) (lt (d1.after ([cA,cA,pW]:LB).length) fun d65=>lt (d1.pick ([cA,cA,pW]:LB)) fun y67=>bd (p9 d65 p4 (aX (p3-1))) fun(x70,x71)=>bd (eK fu y67 ([(aA.mk x70.aCb x70.aB9 x70.aCa)]:List aA)) fun x73=>some ((aA.mk x73.aCb x73.aB9 x73.aCa),x71)))))
theorem aj8(fu:Nat)(p9:J4)(pC:PD p9):PD (UJ fu p9):=by
 intro pc p4 p3 r H
 unfold A0
 refine qJ func131 H (fun C hC H=>?_)
 refine gQ 7 ?_;refine fV H fun d1 h2 H=>(q1 (eW [0] [] func73 (DT h2 (eY pc 8))) ?_)
 refine gQ 9 ?_;refine dL 13 H (fun g3 H=>?_) fun g3 H=>?_
 ·have g3n:pc.below 8<3:=by have:=of_decide_eq_true g3;omega
  refine gQ 6 ?_;refine bC H (fun h4 H=>?_) (fun h4 H=>?_)
  ·refine gQ 6 ?_;refine fV H fun d5 h6 H=>(q1 (eW [0] [] func73 (DT h6 (eY d1 p4.length))) (cF H fun z7 H=>?_))
   refine gQ 2 ?_;refine bK H fun x9 z8 H=>(q1 (bB.callOwn (pre:=⟨[],[]⟩) (B:= []) (R:=fun k=> .agg [pI x9.aCb,pS x9.aB9,fK x9.aCa k]) (ps:= [_]) (qs:= [pS (aR p4 (d1.below p4.length))]) [] rfl rfl func137 (by kernel_rfl) rfl rfl rfl (eV.of trivial trivial (by decide) (by decide)) rfl jK rfl rfl rfl (fun k k'=>(.agg (.cons (.free _ rfl) (.cons (.free _ rfl) (.cons Mv.acc E8.nil))))) (jJ fu (aR p4 (d1.below p4.length)) _ z8)) ?_)
   refine gQ 2 ?_;refine cV.ret ?_
   obtain rfl:_=r:=(vP H:)
   exact V4 (st':=⟨[some ⟨133,dC d5⟩],[⟨30,3,aA.trs (x9.aCa),false⟩]⟩) ⟨0,rfl,rfl,rfl⟩ (hr:=⟨⟨_,_,_,rfl,rfl,G6.h,rfl,rfl⟩,trivial⟩)
  refine gQ 5 ?_;refine dL 29 H (fun g10 H=>?_) fun g10 H=>?_
  ·have g10n:pc.below 8<5:=by have:=of_decide_eq_true g10;omega
   refine gQ 9 ?_;refine q1 (hH ([dR,dP,gI]:LB)) (fV H fun d11 h12 H=>(fV H fun y13 h14 H=>(q1 (eW [0] [] func48 (OM h12 h14 (fZ d1 ([dR,dP,gI]:LB) (by decide)))) (bK H fun x16 z15 H=>(q1 (bB.callOwn (pre:=⟨[],[]⟩) (B:= []) (R:=fun k=> .agg [pI x16.aCb,pS x16.aB9,fK x16.aCa k]) (ps:= [_,_]) (qs:= [pS y13,_]) [] rfl rfl func47 (by kernel_rfl) rfl rfl rfl (eV.of trivial trivial (by decide) (by decide)) rfl jK rfl rfl rfl (fun k k'=>(.agg (.cons (.free _ rfl) (.cons (.free _ rfl) (.cons Mv.acc E8.nil))))) (fA fu y13 ([]) _ z15)) ?_)))))
   refine gQ 2 ?_;refine cV.ret ?_
   obtain rfl:_=r:=(vP H:)
   exact V4 (st':=⟨[some ⟨133,dC d11⟩],[⟨30,3,aA.trs (x16.aCa),false⟩]⟩) ⟨0,rfl,rfl,rfl⟩ (hr:=⟨⟨_,_,_,rfl,rfl,G6.h,rfl,rfl⟩,trivial⟩)
  refine gQ 5 ?_;refine bC H (fun h17 H=>?_) (fun h17 H=>?_)
  ·refine gQ 3 ?_;refine q1 (hH ([dR,dP,gI]:LB)) (fV H fun d18 h19 H=>(fV H fun y20 h21 H=>(q1 (eW [0] [] func48 (OM h19 h21 (fZ d1 ([dR,dP,gI]:LB) (by decide)))) (bK H fun x23 z22 H=>(q1 (bB.callOwn (pre:=⟨[],[]⟩) (B:= []) (R:=fun k=> .agg [pI x23.aCb,pS x23.aB9,fK x23.aCa k]) (ps:= [_,_]) (qs:= [pS y20,_]) [] rfl rfl func47 (by kernel_rfl) rfl rfl rfl (eV.of trivial trivial (by decide) (by decide)) rfl jK rfl rfl rfl (fun k k'=>(.agg (.cons (.free _ rfl) (.cons (.free _ rfl) (.cons Mv.acc E8.nil))))) (fA fu y20 ([]) _ z22)) ?_)))))
   refine gQ 2 ?_;refine cV.ret ?_
   obtain rfl:_=r:=(vP H:)
   exact V4 (st':=⟨[some ⟨133,dC d18⟩],[⟨30,3,aA.trs (x23.aCa),false⟩]⟩) ⟨0,rfl,rfl,rfl⟩ (hr:=⟨⟨_,_,_,rfl,rfl,G6.h,rfl,rfl⟩,trivial⟩)
  refine gQ 6 ?_;refine bC H (fun h24 H=>?_) (fun h24 H=>?_)
  ·refine gQ 6 ?_;refine dU H fun x26 x27 z25 H=>(q1 (bB.callOwn (pre:=⟨[some ⟨133,dC d1⟩],[]⟩) (B:= [some ⟨133,dC x27⟩]) (R:=fun k=> .agg [pI x26.aCb,pS x26.aB9,fK x26.aCa k]) (ps:= [_,_,_]) (qs:= [.ptr 0 0,rS p4,pI (aX (p3-1))]) [0] rfl rfl func131 (by kernel_rfl) rfl rfl rfl (eV.of ⟨⟨_,rfl,rfl,jK,rfl⟩,trivial⟩ trivial (by decide) (by decide)) rfl jK rfl rfl rfl (fun k k'=>(.agg (.cons (.free _ rfl) (.cons (.free _ rfl) (.cons Mv.acc E8.nil))))) (pC d1 p4 (aX (p3-1)) _ z25)) ?_)
   refine gQ 4 ?_;refine dU H fun x29 x30 z28 H=>(q1 (bB.callOwn (pre:=⟨[some ⟨133,dC x27⟩],[]⟩) (B:= [some ⟨133,dC x30⟩]) (R:=fun k=> .agg [pI x29.aCb,pS x29.aB9,fK x29.aCa k]) (ps:= [_,_,_]) (qs:= [.ptr 0 0,rS p4,pI (aX (p3-1))]) [0] rfl rfl func131 (by kernel_rfl) rfl rfl rfl (eV.of ⟨⟨_,rfl,rfl,jK,rfl⟩,trivial⟩ trivial (by decide) (by decide)) rfl jK rfl rfl rfl (fun k k'=>(.agg (.cons (.free _ rfl) (.cons (.free _ rfl) (.cons Mv.acc E8.nil))))) (pC x27 p4 (aX (p3-1)) _ z28)) (q1 (qP ([(aA.mk x26.aCb x26.aB9 x26.aCa),(aA.mk x29.aCb x29.aB9 x29.aCa)]:List aA)) (bK H fun x32 z31 H=>(q1 (bB.callOwn (pre:=⟨[],[]⟩) (B:= []) (R:=fun k=> .agg [pI x32.aCb,pS x32.aB9,fK x32.aCa k]) (ps:= [_,_]) (qs:= [pS l3,aT ([(aA.mk x26.aCb x26.aB9 x26.aCa),(aA.mk x29.aCb x29.aB9 x29.aCa)]:List aA)]) [] rfl rfl func47 (by kernel_rfl) rfl rfl rfl (eV.of trivial trivial (by decide) (by decide)) rfl jK rfl rfl rfl (fun k k'=>(.agg (.cons (.free _ rfl) (.cons (.free _ rfl) (.cons Mv.acc E8.nil))))) (fA fu l3 ([(aA.mk x26.aCb x26.aB9 x26.aCa),(aA.mk x29.aCb x29.aB9 x29.aCa)]:List aA) _ z31)) ?_))))
   refine gQ 2 ?_;refine cV.ret ?_
   obtain rfl:_=r:=(vP H:)
   exact V4 (st':=⟨[some ⟨133,dC x30⟩],[⟨30,3,aA.trs (x26.aCa),false⟩,⟨30,3,aA.trs (x29.aCa),false⟩,⟨30,3,aA.trs (([(aA.mk x26.aCb x26.aB9 x26.aCa),(aA.mk x29.aCb x29.aB9 x29.aCa)]:List aA)),false⟩,⟨30,3,aA.trs (x32.aCa),false⟩]⟩) ⟨3,rfl,rfl,rfl⟩ (hr:=⟨⟨_,_,_,rfl,rfl,G6.h,rfl,rfl⟩,trivial⟩)
  refine gQ 4 ?_;refine q1 (hH ([cA,cA,pW]:LB)) (fV H fun d33 h34 H=>(fV H fun y35 h36 H=>(q1 (eW [0] [] func48 (OM h34 h36 (fZ d1 ([cA,cA,pW]:LB) (by decide)))) ?_)))
  refine gQ 4 ?_;refine dU H fun x38 x39 z37 H=>(q1 (bB.callOwn (pre:=⟨[some ⟨133,dC d33⟩],[]⟩) (B:= [some ⟨133,dC x39⟩]) (R:=fun k=> .agg [pI x38.aCb,pS x38.aB9,fK x38.aCa k]) (ps:= [_,_,_]) (qs:= [.ptr 0 0,rS p4,pI (aX (p3-1))]) [0] rfl rfl func131 (by kernel_rfl) rfl rfl rfl (eV.of ⟨⟨_,rfl,rfl,jK,rfl⟩,trivial⟩ trivial (by decide) (by decide)) rfl jK rfl rfl rfl (fun k k'=>(.agg (.cons (.free _ rfl) (.cons (.free _ rfl) (.cons Mv.acc E8.nil))))) (pC d33 p4 (aX (p3-1)) _ z37)) (q1 (qP ([(aA.mk x38.aCb x38.aB9 x38.aCa)]:List aA)) (bK H fun x41 z40 H=>(q1 (bB.callOwn (pre:=⟨[],[]⟩) (B:= []) (R:=fun k=> .agg [pI x41.aCb,pS x41.aB9,fK x41.aCa k]) (ps:= [_,_]) (qs:= [pS y35,aT ([(aA.mk x38.aCb x38.aB9 x38.aCa)]:List aA)]) [] rfl rfl func47 (by kernel_rfl) rfl rfl rfl (eV.of trivial trivial (by decide) (by decide)) rfl jK rfl rfl rfl (fun k k'=>(.agg (.cons (.free _ rfl) (.cons (.free _ rfl) (.cons Mv.acc E8.nil))))) (fA fu y35 ([(aA.mk x38.aCb x38.aB9 x38.aCa)]:List aA) _ z40)) ?_))))
  refine gQ 2 ?_;refine cV.ret ?_
  obtain rfl:_=r:=(vP H:)
  exact V4 (st':=⟨[some ⟨133,dC x39⟩],[⟨30,3,aA.trs (x38.aCa),false⟩,⟨30,3,aA.trs (([(aA.mk x38.aCb x38.aB9 x38.aCa)]:List aA)),false⟩,⟨30,3,aA.trs (x41.aCa),false⟩]⟩) ⟨2,rfl,rfl,rfl⟩ (hr:=⟨⟨_,_,_,rfl,rfl,G6.h,rfl,rfl⟩,trivial⟩)
 refine gQ 12 ?_;refine dL 29 H (fun g42 H=>?_) fun g42 H=>?_
 ·have g42n:pc.below 8<5:=by have:=of_decide_eq_true g42;omega
  refine gQ 9 ?_;refine q1 (hH ([dR,dP,gI]:LB)) (fV H fun d43 h44 H=>(fV H fun y45 h46 H=>(q1 (eW [0] [] func48 (OM h44 h46 (fZ d1 ([dR,dP,gI]:LB) (by decide)))) (bK H fun x48 z47 H=>(q1 (bB.callOwn (pre:=⟨[],[]⟩) (B:= []) (R:=fun k=> .agg [pI x48.aCb,pS x48.aB9,fK x48.aCa k]) (ps:= [_,_]) (qs:= [pS y45,_]) [] rfl rfl func47 (by kernel_rfl) rfl rfl rfl (eV.of trivial trivial (by decide) (by decide)) rfl jK rfl rfl rfl (fun k k'=>(.agg (.cons (.free _ rfl) (.cons (.free _ rfl) (.cons Mv.acc E8.nil))))) (fA fu y45 ([]) _ z47)) ?_)))))
  refine gQ 2 ?_;refine cV.ret ?_
  obtain rfl:_=r:=(vP H:)
  exact V4 (st':=⟨[some ⟨133,dC d43⟩],[⟨30,3,aA.trs (x48.aCa),false⟩]⟩) ⟨0,rfl,rfl,rfl⟩ (hr:=⟨⟨_,_,_,rfl,rfl,G6.h,rfl,rfl⟩,trivial⟩)
 refine gQ 5 ?_;refine bC H (fun h49 H=>?_) (fun h49 H=>?_)
 ·refine gQ 3 ?_;refine q1 (hH ([dR,dP,gI]:LB)) (fV H fun d50 h51 H=>(fV H fun y52 h53 H=>(q1 (eW [0] [] func48 (OM h51 h53 (fZ d1 ([dR,dP,gI]:LB) (by decide)))) (bK H fun x55 z54 H=>(q1 (bB.callOwn (pre:=⟨[],[]⟩) (B:= []) (R:=fun k=> .agg [pI x55.aCb,pS x55.aB9,fK x55.aCa k]) (ps:= [_,_]) (qs:= [pS y52,_]) [] rfl rfl func47 (by kernel_rfl) rfl rfl rfl (eV.of trivial trivial (by decide) (by decide)) rfl jK rfl rfl rfl (fun k k'=>(.agg (.cons (.free _ rfl) (.cons (.free _ rfl) (.cons Mv.acc E8.nil))))) (fA fu y52 ([]) _ z54)) ?_)))))
  refine gQ 2 ?_;refine cV.ret ?_
  obtain rfl:_=r:=(vP H:)
  exact V4 (st':=⟨[some ⟨133,dC d50⟩],[⟨30,3,aA.trs (x55.aCa),false⟩]⟩) ⟨0,rfl,rfl,rfl⟩ (hr:=⟨⟨_,_,_,rfl,rfl,G6.h,rfl,rfl⟩,trivial⟩)
 refine gQ 6 ?_;refine bC H (fun h56 H=>?_) (fun h56 H=>?_)
 ·refine gQ 6 ?_;refine dU H fun x58 x59 z57 H=>(q1 (bB.callOwn (pre:=⟨[some ⟨133,dC d1⟩],[]⟩) (B:= [some ⟨133,dC x59⟩]) (R:=fun k=> .agg [pI x58.aCb,pS x58.aB9,fK x58.aCa k]) (ps:= [_,_,_]) (qs:= [.ptr 0 0,rS p4,pI (aX (p3-1))]) [0] rfl rfl func131 (by kernel_rfl) rfl rfl rfl (eV.of ⟨⟨_,rfl,rfl,jK,rfl⟩,trivial⟩ trivial (by decide) (by decide)) rfl jK rfl rfl rfl (fun k k'=>(.agg (.cons (.free _ rfl) (.cons (.free _ rfl) (.cons Mv.acc E8.nil))))) (pC d1 p4 (aX (p3-1)) _ z57)) ?_)
  refine gQ 4 ?_;refine dU H fun x61 x62 z60 H=>(q1 (bB.callOwn (pre:=⟨[some ⟨133,dC x59⟩],[]⟩) (B:= [some ⟨133,dC x62⟩]) (R:=fun k=> .agg [pI x61.aCb,pS x61.aB9,fK x61.aCa k]) (ps:= [_,_,_]) (qs:= [.ptr 0 0,rS p4,pI (aX (p3-1))]) [0] rfl rfl func131 (by kernel_rfl) rfl rfl rfl (eV.of ⟨⟨_,rfl,rfl,jK,rfl⟩,trivial⟩ trivial (by decide) (by decide)) rfl jK rfl rfl rfl (fun k k'=>(.agg (.cons (.free _ rfl) (.cons (.free _ rfl) (.cons Mv.acc E8.nil))))) (pC x59 p4 (aX (p3-1)) _ z60)) (q1 (qP ([(aA.mk x58.aCb x58.aB9 x58.aCa),(aA.mk x61.aCb x61.aB9 x61.aCa)]:List aA)) (bK H fun x64 z63 H=>(q1 (bB.callOwn (pre:=⟨[],[]⟩) (B:= []) (R:=fun k=> .agg [pI x64.aCb,pS x64.aB9,fK x64.aCa k]) (ps:= [_,_]) (qs:= [pS l3,aT ([(aA.mk x58.aCb x58.aB9 x58.aCa),(aA.mk x61.aCb x61.aB9 x61.aCa)]:List aA)]) [] rfl rfl func47 (by kernel_rfl) rfl rfl rfl (eV.of trivial trivial (by decide) (by decide)) rfl jK rfl rfl rfl (fun k k'=>(.agg (.cons (.free _ rfl) (.cons (.free _ rfl) (.cons Mv.acc E8.nil))))) (fA fu l3 ([(aA.mk x58.aCb x58.aB9 x58.aCa),(aA.mk x61.aCb x61.aB9 x61.aCa)]:List aA) _ z63)) ?_))))
  refine gQ 2 ?_;refine cV.ret ?_
  obtain rfl:_=r:=(vP H:)
  exact V4 (st':=⟨[some ⟨133,dC x62⟩],[⟨30,3,aA.trs (x58.aCa),false⟩,⟨30,3,aA.trs (x61.aCa),false⟩,⟨30,3,aA.trs (([(aA.mk x58.aCb x58.aB9 x58.aCa),(aA.mk x61.aCb x61.aB9 x61.aCa)]:List aA)),false⟩,⟨30,3,aA.trs (x64.aCa),false⟩]⟩) ⟨3,rfl,rfl,rfl⟩ (hr:=⟨⟨_,_,_,rfl,rfl,G6.h,rfl,rfl⟩,trivial⟩)
 refine gQ 4 ?_;refine q1 (hH ([cA,cA,pW]:LB)) (fV H fun d65 h66 H=>(fV H fun y67 h68 H=>(q1 (eW [0] [] func48 (OM h66 h68 (fZ d1 ([cA,cA,pW]:LB) (by decide)))) ?_)))
 refine gQ 4 ?_;refine dU H fun x70 x71 z69 H=>(q1 (bB.callOwn (pre:=⟨[some ⟨133,dC d65⟩],[]⟩) (B:= [some ⟨133,dC x71⟩]) (R:=fun k=> .agg [pI x70.aCb,pS x70.aB9,fK x70.aCa k]) (ps:= [_,_,_]) (qs:= [.ptr 0 0,rS p4,pI (aX (p3-1))]) [0] rfl rfl func131 (by kernel_rfl) rfl rfl rfl (eV.of ⟨⟨_,rfl,rfl,jK,rfl⟩,trivial⟩ trivial (by decide) (by decide)) rfl jK rfl rfl rfl (fun k k'=>(.agg (.cons (.free _ rfl) (.cons (.free _ rfl) (.cons Mv.acc E8.nil))))) (pC d65 p4 (aX (p3-1)) _ z69)) (q1 (qP ([(aA.mk x70.aCb x70.aB9 x70.aCa)]:List aA)) (bK H fun x73 z72 H=>(q1 (bB.callOwn (pre:=⟨[],[]⟩) (B:= []) (R:=fun k=> .agg [pI x73.aCb,pS x73.aB9,fK x73.aCa k]) (ps:= [_,_]) (qs:= [pS y67,aT ([(aA.mk x70.aCb x70.aB9 x70.aCa)]:List aA)]) [] rfl rfl func47 (by kernel_rfl) rfl rfl rfl (eV.of trivial trivial (by decide) (by decide)) rfl jK rfl rfl rfl (fun k k'=>(.agg (.cons (.free _ rfl) (.cons (.free _ rfl) (.cons Mv.acc E8.nil))))) (fA fu y67 ([(aA.mk x70.aCb x70.aB9 x70.aCa)]:List aA) _ z72)) ?_))))
 refine gQ 2 ?_;refine cV.ret ?_
 obtain rfl:_=r:=(vP H:)
 exact V4 (st':=⟨[some ⟨133,dC x71⟩],[⟨30,3,aA.trs (x70.aCa),false⟩,⟨30,3,aA.trs (([(aA.mk x70.aCb x70.aB9 x70.aCa)]:List aA)),false⟩,⟨30,3,aA.trs (x73.aCa),false⟩]⟩) ⟨2,rfl,rfl,rfl⟩ (hr:=⟨⟨_,_,_,rfl,rfl,G6.h,rfl,rfl⟩,trivial⟩)
def mB:Nat→DS→(LB)→Int→Option (aA×DS)
 |0,_,_,_=>none
 |fu+1,pc,p4,p3=>UJ fu (mB fu) pc p4 p3
theorem am5(fu:Nat):PD (mB fu):=by
 induction fu with
 |zero=>exact(fun pc p4 p3 r H=>by simp only [mB] at H;cases H)
 |succ fu ih=>exact(fun pc p4 p3 r H=>by simp only [mB] at H;exact aj8 fu (mB fu) ih pc p4 p3 r H)
theorem XN(fu:Nat):PD (mB fu):=(am5 fu)
abbrev sW:=aA→Option aA
abbrev m7:=(List aA)→Option ((List aA))
def E5(m:sW):Prop:= ∀(pt:aA) (r:aA),m pt=some r→bQ Tryz.prog 56 [(aA.pv pt)] ((aA.pv r):PV)
def C5(m:m7):Prop:= ∀(p8:List aA) (r:(List aA)),m p8=some r→bQ Tryz.prog 111 [aT p8] (aT r:PV)
def JZ(fu:Nat)(p6:sW)(p5:m7)(pt:aA):Option aA:=bd (p5 pt.aCa) fun x2=>some (aA.mk pt.aCb pt.aB9 x2)
theorem adP(fu:Nat)(p6:sW)(p5:m7)(pF:E5 p6)(pE:C5 p5):E5 (JZ fu p6 p5):=by
 intro pt r H
 refine qJ func56 H (fun C hC H=>?_)
 refine gQ 2 ?_;refine q1 (fD (bR pt)) ?_;refine gQ 3 ?_;refine bK H fun x2 z1 H=>(dW (dI [1] bW (dD [3] eE (dI [1] bW (dD [5] eE (dI [1] bW (dD [7] eE (dI [8] (bE func111 (pE pt.aCa _ z1)) (dI [4,6,9] r9 (lB [2,10] kG (dN ?_)))))))))))
 exact gE 0
def GJ(fu:Nat)(p6:sW)(p5:m7)(p8:List aA):Nat→((List aA))→Option (LR ((List aA)) ((List aA))):=fun i1 v3=>bd (p6 (aR p8 i1)) fun x7=>gd ((v3).length+(([x7]:List aA)).length≤68719476736) (some (.next (v3++([x7]:List aA))))
def yG(fu:Nat)(p6:sW)(p5:m7)(p8:List aA):Option ((List aA)):=so (loopN (GJ fu p6 p5 p8) (p8.length-0) 0 ([])) fun v3=>some v3
theorem XI(fu:Nat)(p6:sW)(p5:m7)(pF:E5 p6)(pE:C5 p5):C5 (yG fu p6 p5):=by
 intro p8 r H
 refine qJ func111 H (fun C hC H=>?_)
 refine gQ 6 ?_;refine q1 (qP ([]:List aA)) ?_;refine gQ 7 ?_;refine gP 0 (aA.trs_len _) (fun hl4=>?_)
 refine bS (σ:=(List aA)) (fun i1 v3=>⟨[(0,aT p8),(2,.nil),(3,fK v3 0),(4,pN i1)],⟨[],[⟨30,3,aA.trs (v3),false⟩]⟩⟩) (fun v3=>⟨[(2,.nil),(3,fK v3 0)],⟨[],[⟨30,3,aA.trs (v3),false⟩]⟩⟩) (eM H) ?_ ?_
 ·rintro i1 v3 H
  refine gQ 8 ?_;refine cS H (fun h5 h5l H=>?_) (fun h5 H=>?_)
  ·refine gQ 8 ?_;refine q1 (iK (aA.cs (aR p8 i1))) (bK H fun x7 z6 H=>(q1 (bE func56 (pF (aR p8 i1) _ z6)) (q1 (hH ([x7]:List aA)) (cF H fun z8 H=>(q1 (lE z8) ?_)))))
   exact gE 7
  exact gE 0
 rintro v3 H
 exact gE 5
mutual
def iF:Nat→aA→Option aA
 |0,_=>none
 |fu+1,pt=>JZ fu (iF fu) (iE fu) pt
def iE:Nat→(List aA)→Option ((List aA))
 |0,_=>none
 |fu+1,p8=>yG fu (iF fu) (iE fu) p8
end
theorem ag9(fu:Nat):E5 (iF fu)∧C5 (iE fu):=by
 induction fu with
 |zero=>exact⟨(fun pt r H=>by simp only [iF] at H;cases H),(fun p8 r H=>by simp only [iE] at H;cases H)⟩
 |succ fu ih=>exact⟨(fun pt r H=>by simp only [iF] at H;exact adP fu (iF fu) (iE fu) ih.1 ih.2 pt r H),(fun p8 r H=>by simp only [iE] at H;exact XI fu (iF fu) (iE fu) ih.1 ih.2 p8 r H)⟩
theorem XJ(fu:Nat):E5 (iF fu):=(ag9 fu).1
def aaX(m:ByteArray→aA→Option aA):Prop:= ∀(pA:ByteArray) (pt:aA) (r:aA),m pA pt=some r→A0 Tryz.prog 139 [pS pA,(aA.pv pt)] ⟨[],[]⟩ [] 30 3 (aA.trs (r.aCa)) (fun k=> .agg [pI r.aCb,pS r.aB9,fK r.aCa k])
theorem M6{m:ByteArray→aA→Option aA}(h:aaX m)(pA:ByteArray)(pt:aA)(r:aA)(H:m pA pt=some r):bQ Tryz.prog 139 [pS pA,(aA.pv pt)] ((aA.pv r):PV):=(h pA pt r H).plain (fun _=>jK) (hp:=VU)
def uO(fu:Nat)(pA:ByteArray)(pt:aA):Option aA:=bd (iF fu pt) fun x2=>some (aA.mk 3 pA ([x2]:List aA))
theorem B5(fu:Nat):aaX (uO fu):=by
 intro pA pt r H
 unfold A0
 refine qJ func139 H (fun C hC H=>?_)
 refine gQ 2 ?_;refine q1 (fD (bR pt)) ?_;refine gQ 5 ?_;refine q1 (bZ [pI pt.aCb,pS pt.aB9,aT pt.aCa]) (bK H fun x2 z1 H=>(q1 (bE func56 (XJ fu pt _ z1)) (q1 (qP ([x2]:List aA)) ?_)))
 refine gQ 3 ?_;refine cV.ret ?_
 obtain rfl:_=r:=(vP H:)
 exact V4 (st':=⟨[],[⟨30,3,aA.trs (([x2]:List aA)),false⟩]⟩) ⟨0,rfl,rfl,rfl⟩ (hr:=⟨⟨_,_,_,rfl,rfl,G6.h,rfl,rfl⟩,trivial⟩)
def aaW(m:DS→Int→Option (aA×DS)):Prop:= ∀(pc:DS) (p3:Int) (r:aA×DS),m pc p3=some r→A0 Tryz.prog 132 [.ptr 0 0,pI p3] ⟨[some ⟨133,dC pc⟩],[]⟩ [some ⟨133,dC r.2⟩] 30 3 (aA.trs (r.1.aCa)) (fun k=> .agg [pI r.1.aCb,pS r.1.aB9,fK r.1.aCa k])
theorem B4{m:DS→Int→Option (aA×DS)}(h:aaW m)(pc:DS)(p3:Int)(r:aA×DS)(H:m pc p3=some r):b6 Tryz.prog 132 [.ptr 0 0,pI p3] ⟨[some ⟨133,dC pc⟩],[]⟩ (fun q t=>q=((aA.pv r.1):PV)∧t=⟨[some ⟨133,dC r.2⟩],[]⟩):=(h pc p3 r H).plain (fun _=>jK) (hp:=an3)
def qL(fu:Nat)(pc:DS)(p3:Int):Option (aA×DS):=bd (mB fu pc ([f6,CX]:LB) p3) fun(x2,x3)=>lt (x3.after 8) fun d4=>sw (decide ((x3.below 8:Int)=0)) (lt (d4.after ([fE,bJ]:LB).length) fun d7=>lt (d4.pick ([fE,bJ]:LB)) fun y9=>bd (uO fu y9 (aA.mk x2.aCb x2.aB9 x2.aCa)) fun x12=>some ((aA.mk x12.aCb x12.aB9 x12.aCa),d7)) (sw (decide ((x3.below 8:Int)=1)) (bd (uO fu fE (aA.mk x2.aCb x2.aB9 x2.aCa)) fun x15=>bd (eK fu cA ([(aA.mk x15.aCb x15.aB9 x15.aCa)]:List aA)) fun x17=>some ((aA.mk x17.aCb x17.aB9 x17.aCa),d4)) (sw (decide ((x3.below 8:Int)=2)) (some ((aA.mk 4 bJ []),d4)) (some ((aA.mk x2.aCb x2.aB9 x2.aCa),d4))))
theorem wZ(fu:Nat):aaW (qL fu):=by
 intro pc p3 r H
 unfold A0
 refine qJ func132 H (fun C hC H=>?_)
 refine gQ 7 ?_;refine q1 (hH ([f6,CX]:LB)) (q1 bF (dU H fun x2 x3 z1 H=>(q1 (bB.callOwn (pre:=⟨[some ⟨133,dC pc⟩],[]⟩) (B:= [some ⟨133,dC x3⟩]) (R:=fun k=> .agg [pI x2.aCb,pS x2.aB9,fK x2.aCa k]) (ps:= [_,_,_]) (qs:= [.ptr 0 0,rS ([f6,CX]:LB),pI p3]) [0] rfl rfl func131 (by kernel_rfl) rfl rfl rfl (eV.of ⟨⟨_,rfl,rfl,jK,rfl⟩,trivial⟩ trivial (by decide) (by decide)) rfl jK rfl rfl rfl (fun k k'=>(.agg (.cons (.free _ rfl) (.cons (.free _ rfl) (.cons Mv.acc E8.nil))))) (XN fu pc ([f6,CX]:LB) p3 _ z1)) ?_)))
 refine gQ 7 ?_;refine fV H fun d4 h5 H=>(q1 (eW [0] [] func73 (DT h5 (eY x3 8))) ?_)
 refine gQ 7 ?_;refine bC H (fun h6 H=>?_) (fun h6 H=>?_)
 ·refine qS (fV H fun d7 h8 H=>(fV H fun y9 h10 H=>(bK H fun x12 z11 H=>(dW (dI [0] bF (dI [] (hH ([fE,bJ]:LB)) (dE [14,15] (eW [0] [] func48 (OM h8 h10 (fZ d4 ([fE,bJ]:LB) (by decide)))) (dB [5] 0 1 (GO [pI x2.aCb,pS x2.aB9,fK x2.aCa 0]) (dE [16,17] (bB.callOwn (pre:=⟨[],[]⟩) (B:= []) (R:=fun k=> .agg [pI x12.aCb,pS x12.aB9,fK x12.aCa k]) (ps:= [_,_]) (qs:= [pS y9,.agg [pI x2.aCb,pS x2.aB9,aT x2.aCa]]) [] rfl rfl func139 (by kernel_rfl) rfl rfl rfl (eV.of trivial trivial (by decide) (by decide)) rfl jK rfl rfl rfl (fun k k'=>(.agg (.cons (.free _ rfl) (.cons (.free _ rfl) (.cons Mv.acc E8.nil))))) (B5 fu y9 (aA.mk x2.aCb x2.aB9 x2.aCa) _ z11)) (lB [4,18] kG (dN (cV.ret ?_))))))))))))
  obtain rfl:_=r:=(vP H:)
  exact V4 (st':=⟨[some ⟨133,dC d7⟩],[⟨30,3,aA.trs (x2.aCa),false⟩,⟨30,3,aA.trs (x12.aCa),false⟩]⟩) ⟨1,rfl,rfl,rfl⟩ (hr:=⟨⟨_,_,_,rfl,rfl,G6.h,rfl,rfl⟩,trivial⟩)
 refine gQ 5 ?_;refine bC H (fun h13 H=>?_) (fun h13 H=>?_)
 ·refine gQ 2 ?_;refine q1 (bZ [pI x2.aCb,pS x2.aB9,fK x2.aCa 0]) (bK H fun x15 z14 H=>(q1 (bB.callOwn (pre:=⟨[],[]⟩) (B:= []) (R:=fun k=> .agg [pI x15.aCb,pS x15.aB9,fK x15.aCa k]) (ps:= [_,_]) (qs:= [pS fE,.agg [pI x2.aCb,pS x2.aB9,aT x2.aCa]]) [] rfl rfl func139 (by kernel_rfl) rfl rfl rfl (eV.of trivial trivial (by decide) (by decide)) rfl jK rfl rfl rfl (fun k k'=>(.agg (.cons (.free _ rfl) (.cons (.free _ rfl) (.cons Mv.acc E8.nil))))) (B5 fu fE (aA.mk x2.aCb x2.aB9 x2.aCa) _ z14)) (q1 (qP ([(aA.mk x15.aCb x15.aB9 x15.aCa)]:List aA)) (bK H fun x17 z16 H=>(q1 (bB.callOwn (pre:=⟨[],[]⟩) (B:= []) (R:=fun k=> .agg [pI x17.aCb,pS x17.aB9,fK x17.aCa k]) (ps:= [_,_]) (qs:= [pS cA,aT ([(aA.mk x15.aCb x15.aB9 x15.aCa)]:List aA)]) [] rfl rfl func47 (by kernel_rfl) rfl rfl rfl (eV.of trivial trivial (by decide) (by decide)) rfl jK rfl rfl rfl (fun k k'=>(.agg (.cons (.free _ rfl) (.cons (.free _ rfl) (.cons Mv.acc E8.nil))))) (fA fu cA ([(aA.mk x15.aCb x15.aB9 x15.aCa)]:List aA) _ z16)) ?_)))))
  refine gQ 2 ?_;refine cV.ret ?_
  obtain rfl:_=r:=(vP H:)
  exact V4 (st':=⟨[some ⟨133,dC d4⟩],[⟨30,3,aA.trs (x2.aCa),false⟩,⟨30,3,aA.trs (x15.aCa),false⟩,⟨30,3,aA.trs (([(aA.mk x15.aCb x15.aB9 x15.aCa)]:List aA)),false⟩,⟨30,3,aA.trs (x17.aCa),false⟩]⟩) ⟨3,rfl,rfl,rfl⟩ (hr:=⟨⟨_,_,_,rfl,rfl,G6.h,rfl,rfl⟩,trivial⟩)
 refine gQ 5 ?_;refine bC H (fun h18 H=>?_) (fun h18 H=>?_)
 ·refine gQ 5 ?_;refine cV.wk (Wk.regBox (k:=1) (j:=2) 30 3 (by decide) rfl rfl) (cV.ret ?_)
  obtain rfl:_=r:=(vP H:)
  exact V4 (st':=⟨[some ⟨133,dC d4⟩],[⟨30,3,aA.trs (x2.aCa),false⟩,⟨30,3,aA.trs ([]),false⟩]⟩) ⟨1,rfl,rfl,rfl⟩ (hr:=⟨⟨_,_,_,rfl,rfl,G6.h,rfl,rfl⟩,trivial⟩)
 refine gQ 3 ?_;refine q1 (bZ [pI x2.aCb,pS x2.aB9,fK x2.aCa 0]) ?_;refine gQ 2 ?_;refine cV.ret ?_
 obtain rfl:_=r:=(vP H:)
 exact V4 (st':=⟨[some ⟨133,dC d4⟩],[⟨30,3,aA.trs (x2.aCa),false⟩]⟩) ⟨0,rfl,rfl,rfl⟩ (hr:=⟨⟨_,_,_,rfl,rfl,G6.h,rfl,rfl⟩,trivial⟩)
def vH(fu:Nat)(pk:Int)(pH:ByteArray)(pG:List aL):Option aL:=gd (([]:List aL).length+(pG).length≤68719476736) (some (aL.mk pk s_ pH 0 (aA.mk 0 s_ []) (([])++pG) []))
theorem wT(fu:Nat)(pk:Int)(pH:ByteArray)(pG:List aL)(r:aL)(H:vH fu pk pH pG=some r):bQ Tryz.prog 190 [pI pk,pS pH,iS pG] ((aL.pv r)):=by
 refine qJ func190 H (fun C hC H=>?_)
 refine gQ 8 ?_;refine q1 (qP ([]:List aL)) (q1 bF (cF H fun z1 H=>(q1 (lE z1) ?_)))
 exact gE 3
abbrev t8:=DS→(LB)→Int→Option (aL×DS)
def F5(m:t8):Prop:= ∀(pD:DS) (p7:LB) (p0:Int) (r:aL×DS),m pD p7 p0=some r→b6 Tryz.prog 193 [.ptr 0 0,rS p7,pI p0] ⟨[some ⟨133,dC pD⟩],[]⟩ (fun q t=>q=((aL.pv r.1):PV)∧t=⟨[some ⟨133,dC r.2⟩],[]⟩)
def af3(fu:Nat)(p1:t8)(pD:DS)(p7:LB)(p0:Int)(d1:DS):Option ((aL×DS)⊕Int):=sw (decide (p0≤0)) (some (.inr (((pD.below 13)%3:Nat):Int))) (some (.inr (pD.below 13:Int)))
def af4(fu:Nat)(p1:t8)(pD:DS)(p7:LB)(p0:Int)(d1:DS)(v3:Int):Option ((aL×DS)⊕Bool):=sw (decide (v3=2)) (some (.inr (decide (v3=2)))) (some (.inr (decide (v3=3))))
def MS(fu:Nat)(p1:t8)(pD:DS)(p7:LB)(p0:Int):Option (aL×DS):=lt (pD.after 13) fun d1=>so (af3 fu p1 pD p7 p0 d1) fun v3=>sw (decide (v3=1)) (lt (d1.after 2) fun d6=>some ((aL.mk 2 s_ s_ (d1.below 2:Int) (aA.mk 0 s_ []) [] []),d6)) (so (af4 fu p1 pD p7 p0 d1 v3) fun v8=>sw (v8) (sw (decide ((p7.length:Int)>0)) (gd (0<(p7).length) (lt (d1.after p7.length) fun d13=>lt (d1.pick p7) fun y15=>bd (wU fu y15) fun x18=>some (x18,d13))) (lt (d1.after 20) fun d19=>bd (uK fu (aX ((d1.below 20:Int)-5))) fun x22=>some (x22,d19))) (sw (decide (v3=4)) (lt (d1.after ([s_f,s_g]:LB).length) fun d24=>lt (d1.pick ([s_f,s_g]:LB)) fun y26=>bd (p1 d24 p7 (aX (p0-1))) fun(x29,x30)=>bd (vH fu 4 y26 ([x29]:List aL)) fun x32=>some (x32,x30)) (sw (decide (v3=5)) (lt (d1.after ([bJ,fE]:LB).length) fun d34=>lt (d1.pick ([bJ,fE]:LB)) fun y36=>bd (p1 d34 p7 (aX (p0-1))) fun(x39,x40)=>bd (p1 x40 p7 (aX (p0-1))) fun(x42,x43)=>some ((aL.mk 5 y36 eU 0 (aA.mk 0 s_ []) ([x39,x42]:List aL) []),x43)) (sw (decide (v3=6)) (bd (p1 d1 p7 (aX (p0-1))) fun(x46,x47)=>bd (p1 x47 p7 (aX (p0-1))) fun(x49,x50)=>bd (vH fu 6 cH ([x46,x49]:List aL)) fun x52=>some (x52,x50)) (sw (decide (v3=7)) (gd (([]:LB).length+(p7).length≤68719476736) (gd ((([])++p7).length+(([s_h,s_t]:LB)).length≤68719476736) (bd (p1 d1 p7 (aX (p0-1))) fun(x57,x58)=>bd (p1 x58 p7 (aX (p0-1))) fun(x60,x61)=>bd (p1 x61 ((([])++p7)++([s_h,s_t]:LB)) (aX (p0-1))) fun(x63,x64)=>some ((aL.mk 7 s_ s_ 0 (aA.mk 0 s_ []) ([x57]:List aL) ([(bU.mk f8 [] x60),(bU.mk cH ([s_h,s_t]:LB) x63)]:List bU)),x64)))) (sw (decide (v3=8)) (bd (p1 d1 p7 (aX (p0-1))) fun(x67,x68)=>gd (([]:LB).length+(p7).length≤68719476736) (gd ((([])++p7).length+(([sQ]:LB)).length≤68719476736) (bd (p1 x68 ((([])++p7)++([sQ]:LB)) (aX (p0-1))) fun(x72,x73)=>bd (vH fu 8 sQ ([x67,x72]:List aL)) fun x75=>some (x75,x73)))) (sw (decide (v3=9)) (bd (p1 d1 p7 (aX (p0-1))) fun(x78,x79)=>bd (p1 x79 p7 (aX (p0-1))) fun(x81,x82)=>bd (p1 x82 p7 (aX (p0-1))) fun(x84,x85)=>bd (vH fu 9 s_ ([x78,x81,x84]:List aL)) fun x87=>some (x87,x85)) (sw (decide (v3=10)) (lt (d1.after ([CA,G7,PI,PJ,PK]:LB).length) fun d89=>lt (d1.pick ([CA,G7,PI,PJ,PK]:LB)) fun y91=>bd (p1 d89 p7 (aX (p0-1))) fun(x94,x95)=>bd (p1 x95 p7 (aX (p0-1))) fun(x97,x98)=>bd (vH fu 10 y91 ([x94,x97]:List aL)) fun x100=>some (x100,x98)) (sw (decide (v3=11)) (bd (p1 d1 p7 (aX (p0-1))) fun(x103,x104)=>some ((aL.mk 11 bJ s_ 0 (aA.mk 0 s_ []) ([x103]:List aL) []),x104)) (sw (decide (v3=12)) (bd (mB fu d1 ([f6]:LB) 1) fun(x107,x108)=>bd (p1 x108 p7 (aX (p0-1))) fun(x110,x111)=>some ((aL.mk 12 s_ s_ 0 x107 ([x110]:List aL) []),x111)) (lt (d1.after 20) fun d112=>bd (uK fu (aX ((d1.below 20:Int)-5))) fun x115=>some (x115,d112))))))))))))
theorem Y5(fu:Nat)(p1:t8)(p2:F5 p1):F5 (MS fu p1):=by
 intro pD p7 p0 r H
 refine qJ func193 H (fun C hC H=>?_)
 refine gQ 7 ?_;refine fV H fun d1 h2 H=>(q1 (eW [0] [] func73 (DT h2 (eY pD 13))) ?_)
 refine gQ 3 ?_;refine n3 (σ:=Int) (fun v3=>⟨[(0,.ptr 0 0),(1,rS p7),(2,pI p0),(6,.ptr 1 0),(7,pI v3)],⟨[some ⟨133,dC d1⟩,some ⟨211,[pI 0,pS s_,pS s_,pI 0,pI 0,pS s_,.nil,.nil,.nil]⟩],[]⟩⟩) (eM H) (fun H=>?_) ?_
 ·refine gQ 5 ?_;refine bC H (fun h4 H=>?_) (fun h4 H=>?_)
  ·refine gQ 2 ?_;refine q1 (bB.remN (a:=pD.below 13) (b:=3) rfl rfl rfl rfl (by have:=DS.below_lt (d:=pD) (n:=13) (by decide);omega) (by have:=DS.below_lt (d:=pD) (n:=13) (by decide);omega)) ?_;exact gE 2
  exact gE 1
 rintro v3 H
 refine gQ 11 ?_;refine bC H (fun h5 H=>?_) (fun h5 H=>?_)
 ·refine gQ 3 ?_;refine fV H fun d6 h7 H=>(q1 (eW [0] [] func73 (DT h7 (eY d1 2))) ?_)
  exact gE 3
 refine qS ?_;refine n3 (σ:=Bool) (fun v8=>⟨[(0,.ptr 0 0),(1,rS p7),(2,pI p0),(6,.ptr 1 0),(15,pI v3),(21,pB v8)],⟨[some ⟨133,dC d1⟩,some ⟨211,[pI 0,pS s_,pS s_,pI 0,pI 0,pS s_,.nil,.nil,.nil]⟩],[]⟩⟩) (eM H) (fun H=>?_) ?_
 ·refine gQ 5 ?_;refine bC H (fun h9 H=>gE 1) fun h9 H=>?_;exact gE 4
 rintro v8 H
 refine bC H (fun h10 H=>?_) (fun h10 H=>?_)
 ·refine gQ 6 ?_;refine bC H (fun h11 H=>?_) (fun h11 H=>?_)
  ·refine gQ 4 ?_;refine cF H fun z12 H=>(fV H fun d13 h14 H=>(fV H fun y15 h16 H=>(q1 (eW [0] [] func48 (OM h14 h16 (fZ d1 p7 z12))) (bK H fun x18 z17 H=>(q1 (bE func191 (BT fu y15 _ z17)) ?_)))))
   exact gE 2
  refine gQ 4 ?_;refine fV H fun d19 h20 H=>(q1 (eW [0] [] func73 (DT h20 (eY d1 20))) (q1 rSw (bK H fun x22 z21 H=>(q1 (bE func192 (wS fu (aX ((d1.below 20:Int)-5)) _ z21)) ?_))))
  exact gE 2
 refine gQ 5 ?_;refine bC H (fun h23 H=>?_) (fun h23 H=>?_)
 ·refine gQ 3 ?_;refine q1 (hH ([s_f,s_g]:LB)) (fV H fun d24 h25 H=>(fV H fun y26 h27 H=>(q1 (eW [0] [] func48 (OM h25 h27 (fZ d1 ([s_f,s_g]:LB) (by decide)))) ?_)))
  refine gQ 4 ?_;refine dU H fun x29 x30 z28 H=>(q1 (eW [0] [] func193 (p2 d24 p7 (aX (p0-1)) _ z28)) (q1 (hH ([x29]:List aL)) (bK H fun x32 z31 H=>(q1 (bE func190 (wT fu 4 y26 ([x29]:List aL) _ z31)) ?_))))
  exact gE 2
 refine gQ 5 ?_;refine bC H (fun h33 H=>?_) (fun h33 H=>?_)
 ·refine gQ 3 ?_;refine q1 (hH ([bJ,fE]:LB)) (fV H fun d34 h35 H=>(fV H fun y36 h37 H=>(q1 (eW [0] [] func48 (OM h35 h37 (fZ d1 ([bJ,fE]:LB) (by decide)))) ?_)))
  refine gQ 4 ?_;refine dU H fun x39 x40 z38 H=>(q1 (eW [0] [] func193 (p2 d34 p7 (aX (p0-1)) _ z38)) ?_)
  refine gQ 4 ?_;refine dU H fun x42 x43 z41 H=>(q1 (eW [0] [] func193 (p2 x40 p7 (aX (p0-1)) _ z41)) (q1 (hH ([x39,x42]:List aL)) ?_))
  exact gE 3
 refine gQ 5 ?_;refine bC H (fun h44 H=>?_) (fun h44 H=>?_)
 ·refine gQ 6 ?_;refine dU H fun x46 x47 z45 H=>(q1 (eW [0] [] func193 (p2 d1 p7 (aX (p0-1)) _ z45)) ?_)
  refine gQ 4 ?_;refine dU H fun x49 x50 z48 H=>(q1 (eW [0] [] func193 (p2 x47 p7 (aX (p0-1)) _ z48)) (q1 (hH ([x46,x49]:List aL)) (bK H fun x52 z51 H=>(q1 (bE func190 (wT fu 6 cH ([x46,x49]:List aL) _ z51)) ?_))))
  exact gE 2
 refine gQ 5 ?_;refine bC H (fun h53 H=>?_) (fun h53 H=>?_)
 ·refine gQ 2 ?_;refine q1 (qP ([]:LB)) (q1 bF (cF H fun z54 H=>(q1 (lE z54) (q1 (hH ([s_h,s_t]:LB)) (cF H fun z55 H=>(q1 (lE z55) ?_))))))
  refine gQ 8 ?_;refine dU H fun x57 x58 z56 H=>(q1 (eW [0] [] func193 (p2 d1 p7 (aX (p0-1)) _ z56)) (q1 (hH ([x57]:List aL)) ?_))
  refine gQ 4 ?_;refine dU H fun x60 x61 z59 H=>(q1 (eW [0] [] func193 (p2 x58 p7 (aX (p0-1)) _ z59)) (q1 r9 (q1 (hH ([s_h,s_t]:LB)) ?_)))
  refine gQ 4 ?_;refine dU H fun x63 x64 z62 H=>(q1 (eW [0] [] func193 (p2 x61 ((([])++p7)++([s_h,s_t]:LB)) (aX (p0-1)) _ z62)) (q1 r9 (q1 (hH ([(bU.mk f8 [] x60),(bU.mk cH ([s_h,s_t]:LB) x63)]:List bU)) ?_)))
  exact gE 3
 refine gQ 5 ?_;refine bC H (fun h65 H=>?_) (fun h65 H=>?_)
 ·refine gQ 6 ?_;refine dU H fun x67 x68 z66 H=>(q1 (eW [0] [] func193 (p2 d1 p7 (aX (p0-1)) _ z66)) (q1 bF (q1 (qP ([]:LB)) (q1 bF (cF H fun z69 H=>(q1 (lE z69) (q1 (hH ([sQ]:LB)) (cF H fun z70 H=>(q1 (lE z70) ?_)))))))))
  refine gQ 2 ?_;refine dU H fun x72 x73 z71 H=>(q1 (eW [0] [] func193 (p2 x68 ((([])++p7)++([sQ]:LB)) (aX (p0-1)) _ z71)) (q1 (hH ([x67,x72]:List aL)) (bK H fun x75 z74 H=>(q1 (bE func190 (wT fu 8 sQ ([x67,x72]:List aL) _ z74)) ?_))))
  exact gE 2
 refine gQ 5 ?_;refine bC H (fun h76 H=>?_) (fun h76 H=>?_)
 ·refine gQ 6 ?_;refine dU H fun x78 x79 z77 H=>(q1 (eW [0] [] func193 (p2 d1 p7 (aX (p0-1)) _ z77)) ?_)
  refine gQ 4 ?_;refine dU H fun x81 x82 z80 H=>(q1 (eW [0] [] func193 (p2 x79 p7 (aX (p0-1)) _ z80)) ?_)
  refine gQ 4 ?_;refine dU H fun x84 x85 z83 H=>(q1 (eW [0] [] func193 (p2 x82 p7 (aX (p0-1)) _ z83)) (q1 (hH ([x78,x81,x84]:List aL)) (bK H fun x87 z86 H=>(q1 (bE func190 (wT fu 9 s_ ([x78,x81,x84]:List aL) _ z86)) ?_))))
  exact gE 2
 refine gQ 5 ?_;refine bC H (fun h88 H=>?_) (fun h88 H=>?_)
 ·refine gQ 3 ?_;refine q1 (hH ([CA,G7,PI,PJ,PK]:LB)) (fV H fun d89 h90 H=>(fV H fun y91 h92 H=>(q1 (eW [0] [] func48 (OM h90 h92 (fZ d1 ([CA,G7,PI,PJ,PK]:LB) (by decide)))) ?_)))
  refine gQ 4 ?_;refine dU H fun x94 x95 z93 H=>(q1 (eW [0] [] func193 (p2 d89 p7 (aX (p0-1)) _ z93)) ?_)
  refine gQ 4 ?_;refine dU H fun x97 x98 z96 H=>(q1 (eW [0] [] func193 (p2 x95 p7 (aX (p0-1)) _ z96)) (q1 (hH ([x94,x97]:List aL)) (bK H fun x100 z99 H=>(q1 (bE func190 (wT fu 10 y91 ([x94,x97]:List aL) _ z99)) ?_))))
  exact gE 2
 refine gQ 5 ?_;refine bC H (fun h101 H=>?_) (fun h101 H=>?_)
 ·refine gQ 6 ?_;refine dU H fun x103 x104 z102 H=>(q1 (eW [0] [] func193 (p2 d1 p7 (aX (p0-1)) _ z102)) (q1 (hH ([x103]:List aL)) ?_))
  exact gE 3
 refine gQ 5 ?_;refine bC H (fun h105 H=>?_) (fun h105 H=>?_)
 ·refine gQ 3 ?_;refine q1 (hH ([f6]:LB)) (dU H fun x107 x108 z106 H=>(q1 (eW [0] [] func131 (ahC (XN fu) d1 ([f6]:LB) 1 _ z106)) ?_))
  refine gQ 4 ?_;refine dU H fun x110 x111 z109 H=>(q1 (eW [0] [] func193 (p2 x108 p7 (aX (p0-1)) _ z109)) (q1 (hH ([x110]:List aL)) ?_))
  exact gE 3
 refine gQ 4 ?_;refine fV H fun d112 h113 H=>(q1 (eW [0] [] func73 (DT h113 (eY d1 20))) (q1 rSw (bK H fun x115 z114 H=>(q1 (bE func192 (wS fu (aX ((d1.below 20:Int)-5)) _ z114)) ?_))))
 exact gE 2
def l4:Nat→DS→(LB)→Int→Option (aL×DS)
 |0,_,_,_=>none
 |fu+1,pD,p7,p0=>MS fu (l4 fu) pD p7 p0
theorem acO(fu:Nat):F5 (l4 fu):=by
 induction fu with
 |zero=>exact(fun pD p7 p0 r H=>by simp only [l4] at H;cases H)
 |succ fu ih=>exact(fun pD p7 p0 r H=>by simp only [l4] at H;exact Y5 fu (l4 fu) ih pD p7 p0 r H)
theorem ST(fu:Nat):F5 (l4 fu):=(acO fu)
def yH(fu:Nat):Option aA:=bd (eK fu dR ([])) fun x2=>some x2
theorem sY(fu:Nat)(r:aA)(H:yH fu=some r):bQ Tryz.prog 49 [] ((aA.pv r)):=by
 refine qJ func49 H (fun C hC H=>?_)
 refine gQ 6 ?_;refine bK H fun x2 z1 H=>(q1 (bE func47 (lS (fA fu) dR ([]) _ z1)) ?_)
 exact gE 2
def SU(fu:Nat)(pD d1:DS)(y3:ByteArray)(d5:DS)(x8:aL):Option ((aI×DS)⊕((LB)×Int×ByteArray×(List aA)×(List aG)×DS)):=lt (d5.after 4) fun d15=>sw (decide ((d5.below 4:Int)=0)) (bd (yH fu) fun x19=>some (.inr ([],x19.aCb,x19.aB9,x19.aCa,[],d15))) (sw (decide ((d5.below 4:Int)=1)) (bd (l7 fu f6) fun x22=>bd (eK fu cA ([x22]:List aA)) fun x24=>some (.inr (([f6]:LB),x24.aCb,x24.aB9,x24.aCa,([(aG.mk y3 x22)]:List aG),d15))) (sw (decide ((d5.below 4:Int)=2)) (bd (l7 fu f6) fun x27=>bd (l7 fu CX) fun x29=>bd (eK fu l3 ([x27,x29]:List aA)) fun x31=>some (.inr (([f6,CX]:LB),x31.aCb,x31.aB9,x31.aCa,[],d15))) (bd (l7 fu f6) fun x33=>some (.inr (([f6]:LB),x33.aCb,x33.aB9,x33.aCa,([(aG.mk jN x33)]:List aG),d15)))))
def SV(fu:Nat)(pD d1:DS)(y3:ByteArray)(d5:DS)(x8:aL)(v9:LB)(v10:Int)(v11:ByteArray)(v12:List aA)(v13:List aG)(v14:DS):Option ((aI×DS)⊕((List aA)×Bool×Int×ByteArray×DS)):=lt (v14.after 3) fun d39=>sw (decide (v14.below 3=0)) (bd (mB fu d39 v9 1) fun(x43,x44)=>some (.inr (x43.aCa,true,x43.aCb,x43.aB9,x44))) (some (.inr ([],false,0,s_,d39)))
def BW(fu:Nat)(pD:DS):Option (aI×DS):=lt (pD.after ([bJ,xY,fE]:LB).length) fun d1=>lt (pD.pick ([bJ,xY,fE]:LB)) fun y3=>lt (d1.after 9) fun d5=>bd (uK fu (d1.below 9:Int)) fun x8=>so (SU fu pD d1 y3 d5 x8) fun(v9,v10,v11,v12,v13,v14)=>so (SV fu pD d1 y3 d5 x8 v9 v10 v11 v12 v13 v14) fun(v38,v35,v36,v37,v34)=>lt (v34.after 4) fun d45=>lt (d45.after 12) fun d47=>sw (decide ((d45.below 12:Int)=0)) (bd (qL fu d47 2) fun(x51,x52)=>some ((aI.mk y3 v9 x51 v13 (decide (v34.below 4=0)) v35 (aA.mk v36 v37 v38) ([(aQ.mk eU ([eQ]:LB) x8)]:List aQ)),x52)) (sw (decide ((d45.below 12:Int)=1)) (lt (d47.after ([f6,s_c]:LB).length) fun d54=>lt (d47.pick ([f6,s_c]:LB)) fun y56=>gd ((v9).length+(([y56]:LB)).length≤68719476736) (some ((aI.mk y3 (v9++([y56]:LB)) (aA.mk v10 v11 v12) v13 (decide (v34.below 4=0)) v35 (aA.mk v36 v37 v38) ([(aQ.mk eU ([eQ]:LB) x8)]:List aQ)),d54))) (sw (decide ((d45.below 12:Int)=2)) (bd (qL fu d47 1) fun(x61,x62)=>gd ((v13).length+(([(aG.mk xY x61)]:List aG)).length≤68719476736) (some ((aI.mk y3 v9 (aA.mk v10 v11 v12) (v13++([(aG.mk xY x61)]:List aG)) (decide (v34.below 4=0)) v35 (aA.mk v36 v37 v38) ([(aQ.mk eU ([eQ]:LB) x8)]:List aQ)),x62))) (sw (decide ((d45.below 12:Int)=3)) (bd (l4 fu d47 ([eQ,sQ]:LB) 2) fun(x66,x67)=>some ((aI.mk y3 v9 (aA.mk v10 v11 v12) v13 (decide (v34.below 4=0)) v35 (aA.mk v36 v37 v38) ([(aQ.mk eU ([eQ]:LB) x66)]:List aQ)),x67)) (sw (decide ((d45.below 12:Int)=4)) (bd (yH fu) fun x70=>some ((aI.mk y3 v9 (aA.mk v10 v11 v12) v13 (decide (v34.below 4=0)) v35 x70 ([(aQ.mk eU ([eQ]:LB) x8)]:List aQ)),d47)) (sw (decide ((d45.below 12:Int)=5)) (some ((aI.mk y3 v9 (aA.mk v10 v11 v12) v13 (decide (v34.below 4=0)) v35 (aA.mk v36 v37 v38) ([(aQ.mk eU ([]) x8)]:List aQ)),d47)) (some ((aI.mk y3 v9 (aA.mk v10 v11 v12) v13 (decide (v34.below 4=0)) v35 (aA.mk v36 v37 v38) ([(aQ.mk eU ([eQ]:LB) x8)]:List aQ)),d47)))))))
theorem agV(fu:Nat)(pD:DS)(r:aI×DS)(H:BW fu pD=some r):b6 Tryz.prog 165 [.ptr 0 0] ⟨[some ⟨133,dC pD⟩],[]⟩ (fun q t=>q=((aI.pv r.1))∧t=⟨[some ⟨133,dC r.2⟩],[]⟩):=by
 refine qJ func165 H (fun C hC H=>?_)
 refine gQ 7 ?_;refine q1 (vU ([bJ,xY,fE]:LB)) (fV H fun d1 h2 H=>(fV H fun y3 h4 H=>(q1 (eW [0] [] func48 (OM h2 h4 (fZ pD ([bJ,xY,fE]:LB) (by decide)))) (q1 (vU ([eQ]:LB)) (q1 bF (fV H fun d5 h6 H=>(q1 (eW [0] [] func73 (DT h6 (eY d1 9))) (bK H fun x8 z7 H=>(q1 (bE func192 (wS fu (d1.below 9:Int) _ z7)) (q1 r9 (q1 (bB.buildSliceB (cs:= [pS eU,.lit 1 (aY (([eQ]:LB))),pI x8.aCb,pS x8.aCg,pS x8.aB9,pI x8.aCR,pI x8.aCd.aCb,pS x8.aCd.aB9,aT x8.aCd.aCa,iS x8.aCa,sL x8.aCu]) rfl rfl anW.h atJ.h rfl rfl rfl (by decide) rfl (by decide)) ?_)))))))))))
 refine gQ 5 ?_;refine n3 (σ:=(LB)×Int×ByteArray×(List aA)×(List aG)×DS) (fun(v9,v10,v11,v12,v13,v14)=>⟨[(0,.ptr 0 0),(2,.ptr 1 0),(3,.ptr 3 0)],⟨[some ⟨133,dC v14⟩,some ⟨163,[pS s_,.nil,pI 0,pS s_,.nil,.nil,pB false,pB false,pI 0,pS s_,.nil,.nil]⟩,some ⟨242,[pS eU,.lit 1 (aY (([eQ]:LB))),pI x8.aCb,pS x8.aCg,pS x8.aB9,pI x8.aCR,pI x8.aCd.aCb,pS x8.aCd.aB9,aT x8.aCd.aCa,iS x8.aCa,sL x8.aCu]⟩,some ⟨163,[pS y3,.lit 1 (aY (v9)),pI v10,pS v11,aT v12,.lit 4 (aG.trs (v13)),pB false,pB false,pI 0,pS s_,.nil,.bsl 2 1]⟩],[]⟩⟩) (eM H) (fun H=>?_) ?_
 ·refine gQ 3 ?_;refine fV H fun d15 h16 H=>(q1 (eW [0] [] func73 (DT h16 (eY d5 4))) ?_)
  refine gQ 7 ?_;refine bC H (fun h17 H=>?_) (fun h17 H=>?_)
  ·refine qR (bK H fun x19 z18 H=>(q1 (bE func49 (sY fu _ z18)) ?_))
   exact gE 3
  refine gQ 5 ?_;refine bC H (fun h20 H=>?_) (fun h20 H=>?_)
  ·refine gQ 2 ?_;refine q1 (vU ([f6]:LB)) ?_;refine gQ 5 ?_;refine bK H fun x22 z21 H=>(q1 (bE func137 (kF (jJ fu) f6 _ z21)) (q1 (vU ([x22]:List aA)) (bK H fun x24 z23 H=>(q1 (bE func47 (lS (fA fu) cA ([x22]:List aA) _ z23)) ?_))))
   refine gQ 3 ?_;refine dW (dI [3] bW (dD [36] eE (dI [] (bE func137 (kF (jJ fu) f6 _ z21)) (dI [37,38] r9 (dI [39] (vU ([(aG.mk y3 x22)]:List aG)) (dI [3] bW (lB [41,40] kG (dN ?_))))))))
   exact gE 0
  refine gQ 5 ?_;refine bC H (fun h25 H=>?_) (fun h25 H=>?_)
  ·refine gQ 2 ?_;refine q1 (vU ([f6,CX]:LB)) ?_;refine gQ 4 ?_;refine bK H fun x27 z26 H=>(q1 (bE func137 (kF (jJ fu) f6 _ z26)) (bK H fun x29 z28 H=>(q1 (bE func137 (kF (jJ fu) CX _ z28)) (q1 (vU ([x27,x29]:List aA)) (bK H fun x31 z30 H=>(q1 (bE func47 (lS (fA fu) l3 ([x27,x29]:List aA) _ z30)) ?_))))))
   exact gE 3
  refine gQ 2 ?_;refine q1 (vU ([f6]:LB)) ?_;refine gQ 5 ?_;refine bK H fun x33 z32 H=>(q1 (bE func137 (kF (jJ fu) f6 _ z32)) ?_)
  refine gQ 4 ?_;refine q1 (bE func137 (kF (jJ fu) f6 _ z32)) (q1 r9 (q1 (vU ([(aG.mk jN x33)]:List aG)) ?_))
  exact gE 3
 rintro⟨v9,v10,v11,v12,v13,v14⟩ H
 refine qS ?_;refine n3 (σ:=(List aA)×Bool×Int×ByteArray×DS) (fun(v38,v35,v36,v37,v34)=>⟨[(0,.ptr 0 0),(2,.ptr 1 0),(3,.ptr 3 0)],⟨[some ⟨133,dC v34⟩,some ⟨163,[pS s_,.nil,pI 0,pS s_,.nil,.nil,pB false,pB false,pI 0,pS s_,.nil,.nil]⟩,some ⟨242,[pS eU,.lit 1 (aY (([eQ]:LB))),pI x8.aCb,pS x8.aCg,pS x8.aB9,pI x8.aCR,pI x8.aCd.aCb,pS x8.aCd.aB9,aT x8.aCd.aCa,iS x8.aCa,sL x8.aCu]⟩,some ⟨163,[pS y3,.lit 1 (aY (v9)),pI v10,pS v11,aT v12,.lit 4 (aG.trs (v13)),pB false,pB v35,pI v36,pS v37,aT v38,.bsl 2 1]⟩],[]⟩⟩) (eM H) (fun H=>?_) ?_
 ·refine gQ 3 ?_;refine fV H fun d39 h40 H=>(q1 (eW [0] [] func45 (DT h40 (mT v14 3))) (qN ?_))
  refine bC H (fun h41 H=>?_) (fun h41 H=>?_)
  ·refine gQ 9 ?_;refine dU H fun x43 x44 z42 H=>(q1 (eW [0] [] func131 (ahC (XN fu) d39 v9 1 _ z42)) ?_)
   exact gE 3
  exact gE 1
 rintro⟨v38,v35,v36,v37,v34⟩ H
 refine gQ 3 ?_;refine fV H fun d45 h46 H=>(q1 (eW [0] [] func45 (DT h46 (mT v34 4))) ?_)
 refine gQ 7 ?_;refine fV H fun d47 h48 H=>(q1 (eW [0] [] func73 (DT h48 (eY d45 12))) ?_)
 refine gQ 7 ?_;refine bC H (fun h49 H=>?_) (fun h49 H=>?_)
 ·refine gQ 2 ?_;refine dU H fun x51 x52 z50 H=>(q1 (eW [0] [] func132 (B4 (wZ fu) d47 2 _ z50)) ?_)
  refine gQ 5 ?_;refine AL.weak (Wk.freezeE (k:=2) (sz:=11) (es:= [aQ.cs (aQ.mk eU ([eQ]:LB) x8)]) (es':=aQ.trs (([(aQ.mk eU ([eQ]:LB) x8)]:List aQ))) (s':=⟨[(0,.ptr 0 0),(2,.ptr 1 0),(3,.ptr 3 0),(63,pN (d45.below 12))],⟨[some ⟨133,dC x52⟩,some ⟨163,[pS s_,.nil,pI 0,pS s_,.nil,.nil,pB false,pB false,pI 0,pS s_,.nil,.nil]⟩,none,some ⟨163,[pS y3,.lit 1 (aY (v9)),pI x51.aCb,pS x51.aB9,aT x51.aCa,.lit 4 (aG.trs (v13)),pB (decide (v34.below 4=0)),pB v35,pI v36,pS v37,aT v38,mU ([(aQ.mk eU ([eQ]:LB) x8)]:List aQ)]⟩],[]⟩⟩) (by simp [aQ.trs_map,aQ.tr_cs]) rfl jK (by simp [aQ.cs]) (Nat.le_of_ble_eq_true rfl) ⟨⟨rfl,eC,rfl⟩,⟨⟨rfl,eC,rfl⟩,⟨⟨rfl,eC,rfl⟩,trivial⟩⟩⟩ rfl rfl (eP hC (lF rfl) (Nat.le_of_ble_eq_true rfl)) (by repeat' first|exact trivial|refine⟨⟨_,rfl,eC,rfl⟩,?_⟩)) ?_;refine q1 (bZ [pS y3,.lit 1 (aY (v9)),pI x51.aCb,pS x51.aB9,aT x51.aCa,.lit 4 (aG.trs (v13)),pB (decide (v34.below 4=0)),pB v35,pI v36,pS v37,aT v38,mU ([(aQ.mk eU ([eQ]:LB) x8)]:List aQ)]) ?_;exact gE 2
 refine gQ 5 ?_;refine bC H (fun h53 H=>?_) (fun h53 H=>?_)
 ·refine fV H fun d54 h55 H=>(fV H fun y56 h57 H=>(cF H fun z58 H=>(dW (dI [3] bW (dB [71] 0 1 uP (dI [0] bF (dI [] (vU ([f6,s_c]:LB)) (dE [73,74] (eW [0] [] func48 (OM h55 h57 (fZ d47 ([f6,s_c]:LB) (by decide)))) (dI [75] (vU ([y56]:LB)) ?_)))))))))
  refine dI [72,76] (bB.appendLit (es1:=aY (v9)) (es2:=aY (([y56]:LB))) (es3:=aY (v9++([y56]:LB))) rfl rfl rfl rfl rfl (r8 _) (r8 _) (by exact List.cons_ne_nil _ _) (by decide) aiC.h aqE.h (by decide) (by rw [bV,bV];exact CO z58 (by decide)) (xG _ _)) ?_;refine dI [3] bW (lB [78,77] kG (dN ?_))
  refine gQ 2 ?_;refine AL.weak (Wk.freezeE (k:=2) (sz:=11) (es:= [aQ.cs (aQ.mk eU ([eQ]:LB) x8)]) (es':=aQ.trs (([(aQ.mk eU ([eQ]:LB) x8)]:List aQ))) (s':=⟨[(0,.ptr 0 0),(2,.ptr 1 0),(3,.ptr 3 0),(63,pN (d45.below 12))],⟨[some ⟨133,dC d54⟩,some ⟨163,[pS s_,.nil,pI 0,pS s_,.nil,.nil,pB false,pB false,pI 0,pS s_,.nil,.nil]⟩,none,some ⟨163,[pS y3,rS (v9++([y56]:LB)),pI v10,pS v11,aT v12,.lit 4 (aG.trs (v13)),pB (decide (v34.below 4=0)),pB v35,pI v36,pS v37,aT v38,mU ([(aQ.mk eU ([eQ]:LB) x8)]:List aQ)]⟩],[]⟩⟩) (by simp [aQ.trs_map,aQ.tr_cs]) rfl jK (by simp [aQ.cs]) (Nat.le_of_ble_eq_true rfl) ⟨⟨rfl,eC,rfl⟩,⟨⟨rfl,eC,rfl⟩,⟨⟨rfl,eC,rfl⟩,trivial⟩⟩⟩ rfl rfl (eP hC (lF rfl) (Nat.le_of_ble_eq_true rfl)) (by repeat' first|exact trivial|refine⟨⟨_,rfl,eC,rfl⟩,?_⟩)) ?_;refine q1 (bZ [pS y3,rS (v9++([y56]:LB)),pI v10,pS v11,aT v12,.lit 4 (aG.trs (v13)),pB (decide (v34.below 4=0)),pB v35,pI v36,pS v37,aT v38,mU ([(aQ.mk eU ([eQ]:LB) x8)]:List aQ)]) ?_;exact gE 2
 refine gQ 5 ?_;refine bC H (fun h59 H=>?_) (fun h59 H=>?_)
 ·refine dU H fun x61 x62 z60 H=>(cF H fun z63 H=>(dW (dI [3] bW (dB [81] 0 1 uP (dI [0] bF (dE [83] (eW [0] [] func132 (B4 (wZ fu) d47 1 _ z60)) (dI [84] r9 (dI [85] (vU ([(aG.mk xY x61)]:List aG)) ?_))))))))
  refine dI [82,86] (bB.appendLit (es1:=aG.trs (v13)) (es2:=aG.trs (([(aG.mk xY x61)]:List aG))) (es3:=aG.trs (v13++([(aG.mk xY x61)]:List aG))) rfl rfl rfl rfl rfl (fun e he=>by rw [aG.trs_map] at he;obtain⟨x,_,rfl⟩:=List.mem_map.1 he;rw [aG.tr_cs];rfl) (fun e he=>by rw [aG.trs_map] at he;obtain⟨x,_,rfl⟩:=List.mem_map.1 he;rw [aG.tr_cs];rfl) (by rw [aG.trs_map];exact List.cons_ne_nil _ _) (by decide) arA.h awH.h (by decide) (by rw [aG.trs_len,aG.trs_len];exact CO z63 (by decide)) (by rw [aG.trs_map,aG.trs_map,aG.trs_map,List.map_append])) ?_;refine dI [3] bW (lB [88,87] kG (dN ?_))
  refine gQ 2 ?_;refine AL.weak (Wk.freezeE (k:=2) (sz:=11) (es:= [aQ.cs (aQ.mk eU ([eQ]:LB) x8)]) (es':=aQ.trs (([(aQ.mk eU ([eQ]:LB) x8)]:List aQ))) (s':=⟨[(0,.ptr 0 0),(2,.ptr 1 0),(3,.ptr 3 0),(63,pN (d45.below 12))],⟨[some ⟨133,dC x62⟩,some ⟨163,[pS s_,.nil,pI 0,pS s_,.nil,.nil,pB false,pB false,pI 0,pS s_,.nil,.nil]⟩,none,some ⟨163,[pS y3,.lit 1 (aY (v9)),pI v10,pS v11,aT v12,cK (v13++([(aG.mk xY x61)]:List aG)),pB (decide (v34.below 4=0)),pB v35,pI v36,pS v37,aT v38,mU ([(aQ.mk eU ([eQ]:LB) x8)]:List aQ)]⟩],[]⟩⟩) (by simp [aQ.trs_map,aQ.tr_cs]) rfl jK (by simp [aQ.cs]) (Nat.le_of_ble_eq_true rfl) ⟨⟨rfl,eC,rfl⟩,⟨⟨rfl,eC,rfl⟩,⟨⟨rfl,eC,rfl⟩,trivial⟩⟩⟩ rfl rfl (eP hC (lF rfl) (Nat.le_of_ble_eq_true rfl)) (by repeat' first|exact trivial|refine⟨⟨_,rfl,eC,rfl⟩,?_⟩)) ?_;refine q1 (bZ [pS y3,.lit 1 (aY (v9)),pI v10,pS v11,aT v12,cK (v13++([(aG.mk xY x61)]:List aG)),pB (decide (v34.below 4=0)),pB v35,pI v36,pS v37,aT v38,mU ([(aQ.mk eU ([eQ]:LB) x8)]:List aQ)]) ?_;exact gE 2
 refine gQ 5 ?_;refine bC H (fun h64 H=>?_) (fun h64 H=>?_)
 ·refine dU H fun x66 x67 z65 H=>(dW (dI [3] bW (dB [91] 0 1 uP (dI [0] bF (dI [] (vU ([eQ,sQ]:LB)) (dE [93,94] (eW [0] [] func193 (ST fu d47 ([eQ,sQ]:LB) 2 _ z65)) (dI [92] (bB.indexB (sz:=11) (k:=2) (N:=1) (i:=0) rfl rfl rfl rfl (by decide) anW.h) (dI [96] bW (lB [97,95] kG (dN ?_))))))))))
  refine gQ 2 ?_;refine AL.weak (Wk.freezeE (k:=2) (sz:=11) (es:= [aQ.cs (aQ.mk eU ([eQ]:LB) x66)]) (es':=aQ.trs (([(aQ.mk eU ([eQ]:LB) x66)]:List aQ))) (s':=⟨[(0,.ptr 0 0),(2,.ptr 1 0),(3,.ptr 3 0),(63,pN (d45.below 12))],⟨[some ⟨133,dC x67⟩,some ⟨163,[pS s_,.nil,pI 0,pS s_,.nil,.nil,pB false,pB false,pI 0,pS s_,.nil,.nil]⟩,none,some ⟨163,[pS y3,.lit 1 (aY (v9)),pI v10,pS v11,aT v12,.lit 4 (aG.trs (v13)),pB (decide (v34.below 4=0)),pB v35,pI v36,pS v37,aT v38,mU ([(aQ.mk eU ([eQ]:LB) x66)]:List aQ)]⟩],[]⟩⟩) (by simp [aQ.trs_map,aQ.tr_cs]) rfl jK (by simp [aQ.cs]) (Nat.le_of_ble_eq_true rfl) ⟨⟨rfl,eC,rfl⟩,⟨⟨rfl,eC,rfl⟩,⟨⟨rfl,eC,rfl⟩,trivial⟩⟩⟩ rfl rfl (eP hC (lF rfl) (Nat.le_of_ble_eq_true rfl)) (by repeat' first|exact trivial|refine⟨⟨_,rfl,eC,rfl⟩,?_⟩)) ?_;refine q1 (bZ [pS y3,.lit 1 (aY (v9)),pI v10,pS v11,aT v12,.lit 4 (aG.trs (v13)),pB (decide (v34.below 4=0)),pB v35,pI v36,pS v37,aT v38,mU ([(aQ.mk eU ([eQ]:LB) x66)]:List aQ)]) ?_;exact gE 2
 refine gQ 5 ?_;refine bC H (fun h68 H=>?_) (fun h68 H=>?_)
 ·refine qR (bK H fun x70 z69 H=>(q1 (bE func49 (sY fu _ z69)) ?_))
  refine gQ 5 ?_;refine AL.weak (Wk.freezeE (k:=2) (sz:=11) (es:= [aQ.cs (aQ.mk eU ([eQ]:LB) x8)]) (es':=aQ.trs (([(aQ.mk eU ([eQ]:LB) x8)]:List aQ))) (s':=⟨[(0,.ptr 0 0),(2,.ptr 1 0),(3,.ptr 3 0),(63,pN (d45.below 12))],⟨[some ⟨133,dC d47⟩,some ⟨163,[pS s_,.nil,pI 0,pS s_,.nil,.nil,pB false,pB false,pI 0,pS s_,.nil,.nil]⟩,none,some ⟨163,[pS y3,.lit 1 (aY (v9)),pI v10,pS v11,aT v12,.lit 4 (aG.trs (v13)),pB (decide (v34.below 4=0)),pB v35,pI x70.aCb,pS x70.aB9,aT x70.aCa,mU ([(aQ.mk eU ([eQ]:LB) x8)]:List aQ)]⟩],[]⟩⟩) (by simp [aQ.trs_map,aQ.tr_cs]) rfl jK (by simp [aQ.cs]) (Nat.le_of_ble_eq_true rfl) ⟨⟨rfl,eC,rfl⟩,⟨⟨rfl,eC,rfl⟩,⟨⟨rfl,eC,rfl⟩,trivial⟩⟩⟩ rfl rfl (eP hC (lF rfl) (Nat.le_of_ble_eq_true rfl)) (by repeat' first|exact trivial|refine⟨⟨_,rfl,eC,rfl⟩,?_⟩)) ?_;refine q1 (bZ [pS y3,.lit 1 (aY (v9)),pI v10,pS v11,aT v12,.lit 4 (aG.trs (v13)),pB (decide (v34.below 4=0)),pB v35,pI x70.aCb,pS x70.aB9,aT x70.aCa,mU ([(aQ.mk eU ([eQ]:LB) x8)]:List aQ)]) ?_;exact gE 2
 refine gQ 5 ?_;refine bC H (fun h71 H=>?_) (fun h71 H=>?_)
 ·refine gQ 3 ?_;refine q1 (vU ([]:LB)) (q1 (bB.indexB (sz:=11) (k:=2) (N:=1) (i:=0) rfl rfl rfl rfl (by decide) anW.h) ?_)
  refine gQ 5 ?_;refine AL.weak (Wk.freezeE (k:=2) (sz:=11) (es:= [aQ.cs (aQ.mk eU ([]) x8)]) (es':=aQ.trs (([(aQ.mk eU ([]) x8)]:List aQ))) (s':=⟨[(0,.ptr 0 0),(2,.ptr 1 0),(3,.ptr 3 0),(63,pN (d45.below 12))],⟨[some ⟨133,dC d47⟩,some ⟨163,[pS s_,.nil,pI 0,pS s_,.nil,.nil,pB false,pB false,pI 0,pS s_,.nil,.nil]⟩,none,some ⟨163,[pS y3,.lit 1 (aY (v9)),pI v10,pS v11,aT v12,.lit 4 (aG.trs (v13)),pB (decide (v34.below 4=0)),pB v35,pI v36,pS v37,aT v38,mU ([(aQ.mk eU ([]) x8)]:List aQ)]⟩],[]⟩⟩) (by simp [aQ.trs_map,aQ.tr_cs]) rfl jK (by simp [aQ.cs]) (Nat.le_of_ble_eq_true rfl) ⟨⟨rfl,eC,rfl⟩,⟨⟨rfl,eC,rfl⟩,⟨⟨rfl,eC,rfl⟩,trivial⟩⟩⟩ rfl rfl (eP hC (lF rfl) (Nat.le_of_ble_eq_true rfl)) (by repeat' first|exact trivial|refine⟨⟨_,rfl,eC,rfl⟩,?_⟩)) ?_;refine q1 (bZ [pS y3,.lit 1 (aY (v9)),pI v10,pS v11,aT v12,.lit 4 (aG.trs (v13)),pB (decide (v34.below 4=0)),pB v35,pI v36,pS v37,aT v38,mU ([(aQ.mk eU ([]) x8)]:List aQ)]) ?_;exact gE 2
 refine gQ 3 ?_;refine AL.weak (Wk.freezeE (k:=2) (sz:=11) (es:= [aQ.cs (aQ.mk eU ([eQ]:LB) x8)]) (es':=aQ.trs (([(aQ.mk eU ([eQ]:LB) x8)]:List aQ))) (s':=⟨[(0,.ptr 0 0),(2,.ptr 1 0),(3,.ptr 3 0),(63,pN (d45.below 12))],⟨[some ⟨133,dC d47⟩,some ⟨163,[pS s_,.nil,pI 0,pS s_,.nil,.nil,pB false,pB false,pI 0,pS s_,.nil,.nil]⟩,none,some ⟨163,[pS y3,.lit 1 (aY (v9)),pI v10,pS v11,aT v12,.lit 4 (aG.trs (v13)),pB (decide (v34.below 4=0)),pB v35,pI v36,pS v37,aT v38,mU ([(aQ.mk eU ([eQ]:LB) x8)]:List aQ)]⟩],[]⟩⟩) (by simp [aQ.trs_map,aQ.tr_cs]) rfl jK (by simp [aQ.cs]) (Nat.le_of_ble_eq_true rfl) ⟨⟨rfl,eC,rfl⟩,⟨⟨rfl,eC,rfl⟩,⟨⟨rfl,eC,rfl⟩,trivial⟩⟩⟩ rfl rfl (eP hC (lF rfl) (Nat.le_of_ble_eq_true rfl)) (by repeat' first|exact trivial|refine⟨⟨_,rfl,eC,rfl⟩,?_⟩)) ?_;refine q1 (bZ [pS y3,.lit 1 (aY (v9)),pI v10,pS v11,aT v12,.lit 4 (aG.trs (v13)),pB (decide (v34.below 4=0)),pB v35,pI v36,pS v37,aT v38,mU ([(aQ.mk eU ([eQ]:LB) x8)]:List aQ)]) ?_;exact gE 2
def W1(fu:Nat)(pc:DS):Option (aO×DS):=lt (pc.after ([s_f,s_g]:LB).length) fun d1=>lt (pc.pick ([s_f,s_g]:LB)) fun y3=>bd (l7 fu f6) fun x6=>bd (yH fu) fun x8=>bd (wU fu eQ) fun x10=>lt (d1.after 10) fun d11=>sw (decide ((d1.below 10:Int)=0)) (bd (qL fu d11 2) fun(x15,x16)=>some ((aO.mk y3 ([f6]:LB) ([(aG.mk bJ x6)]:List aG) ([(aV.mk eQ x6)]:List aV) x15 (aL.mk 5 bJ eU 0 (aA.mk 0 s_ []) ([x10]:List aL) [])),x16)) (sw (decide ((d1.below 10:Int)=1)) (lt (d11.after ([eQ,sQ]:LB).length) fun d18=>lt (d11.pick ([eQ,sQ]:LB)) fun y20=>gd ((([(aV.mk eQ x6)]:List aV)).length+(([(aV.mk y20 x8)]:List aV)).length≤68719476736) (some ((aO.mk y3 ([f6]:LB) ([(aG.mk bJ x6)]:List aG) (([(aV.mk eQ x6)]:List aV)++([(aV.mk y20 x8)]:List aV)) x8 (aL.mk 5 bJ eU 0 (aA.mk 0 s_ []) ([x10]:List aL) [])),d18))) (sw (decide ((d1.below 10:Int)=2)) (bd (l4 fu d11 ([eQ,sQ]:LB) 3) fun(x25,x26)=>some ((aO.mk y3 ([f6]:LB) ([(aG.mk bJ x6)]:List aG) ([(aV.mk eQ x6)]:List aV) x8 x25),x26)) (sw (decide ((d1.below 10:Int)=3)) (bd (qL fu d11 1) fun(x29,x30)=>some ((aO.mk y3 ([f6]:LB) ([(aG.mk bJ x29)]:List aG) ([(aV.mk eQ x6)]:List aV) x8 (aL.mk 5 bJ eU 0 (aA.mk 0 s_ []) ([x10]:List aL) [])),x30)) (sw (decide ((d1.below 10:Int)=4)) (lt (d11.after ([s_,F4]:LB).length) fun d32=>lt (d11.pick ([s_,F4]:LB)) fun y34=>some ((aO.mk y34 ([f6]:LB) ([(aG.mk bJ x6)]:List aG) ([(aV.mk eQ x6)]:List aV) x8 (aL.mk 5 bJ eU 0 (aA.mk 0 s_ []) ([x10]:List aL) [])),d32)) (some ((aO.mk y3 ([f6]:LB) ([(aG.mk bJ x6)]:List aG) ([(aV.mk eQ x6)]:List aV) x8 (aL.mk 5 bJ eU 0 (aA.mk 0 s_ []) ([x10]:List aL) [])),d11))))))
theorem amX(fu:Nat)(pc:DS)(r:aO×DS)(H:W1 fu pc=some r):b6 Tryz.prog 166 [.ptr 0 0] ⟨[some ⟨133,dC pc⟩],[]⟩ (fun q t=>q=((aO.pv r.1))∧t=⟨[some ⟨133,dC r.2⟩],[]⟩):=by
 refine qJ func166 H (fun C hC H=>?_)
 refine gQ 7 ?_;refine q1 (vU ([s_f,s_g]:LB)) (fV H fun d1 h2 H=>(fV H fun y3 h4 H=>(q1 (eW [0] [] func48 (OM h2 h4 (fZ pc ([s_f,s_g]:LB) (by decide)))) (q1 (vU ([f6]:LB)) (bK H fun x6 z5 H=>(q1 (bE func137 (kF (jJ fu) f6 _ z5)) (q1 r9 (q1 (bB.buildSliceB (cs:= [pS bJ,pI x6.aCb,pS x6.aB9,aT x6.aCa]) rfl rfl arA.h awJ.h rfl rfl rfl (by decide) rfl (by decide)) (q1 (bE func137 (kF (jJ fu) f6 _ z5)) (q1 r9 (q1 (vU ([(aV.mk eQ x6)]:List aV)) (bK H fun x8 z7 H=>(q1 (bE func49 (sY fu _ z7)) ?_)))))))))))))
 refine bK H fun x10 z9 H=>(q1 (bE func191 (BT fu eQ _ z9)) (q1 (vU ([x10]:List aL)) ?_))
 refine gQ 9 ?_;refine fV H fun d11 h12 H=>(q1 (eW [0] [] func73 (DT h12 (eY d1 10))) ?_)
 refine gQ 7 ?_;refine bC H (fun h13 H=>?_) (fun h13 H=>?_)
 ·refine gQ 2 ?_;refine dU H fun x15 x16 z14 H=>(q1 (eW [0] [] func132 (B4 (wZ fu) d11 2 _ z14)) ?_)
  refine gQ 5 ?_;refine AL.weak (Wk.freezeE (k:=2) (sz:=4) (es:= [aG.cs (aG.mk bJ x6)]) (es':=aG.trs (([(aG.mk bJ x6)]:List aG))) (s':=⟨[(0,.ptr 0 0),(2,.ptr 1 0),(3,.ptr 3 0),(20,pN (d1.below 10))],⟨[some ⟨133,dC x16⟩,some ⟨213,[pS s_,.nil,.nil,.nil,pI 0,pS s_,.nil,pI 0,pS s_,pS s_,pI 0,pI 0,pS s_,.nil,.nil,.nil]⟩,none,some ⟨213,[pS y3,.lit 1 (aY (([f6]:LB))),cK ([(aG.mk bJ x6)]:List aG),.lit 4 (aV.trs (([(aV.mk eQ x6)]:List aV))),pI x15.aCb,pS x15.aB9,aT x15.aCa,pI 5,pS bJ,pS eU,pI 0,pI 0,pS s_,.nil,.lit 9 (aL.trs (([x10]:List aL))),.nil]⟩],[]⟩⟩) (by simp [aG.trs_map,aG.tr_cs]) rfl jK (by simp [aG.cs]) (Nat.le_of_ble_eq_true rfl) ⟨⟨rfl,eC,rfl⟩,⟨⟨rfl,eC,rfl⟩,⟨⟨rfl,eC,rfl⟩,trivial⟩⟩⟩ rfl rfl (eP hC (lF rfl) (Nat.le_of_ble_eq_true rfl)) (by repeat' first|exact trivial|refine⟨⟨_,rfl,eC,rfl⟩,?_⟩)) ?_;refine q1 (bZ [pS y3,.lit 1 (aY (([f6]:LB))),cK ([(aG.mk bJ x6)]:List aG),.lit 4 (aV.trs (([(aV.mk eQ x6)]:List aV))),pI x15.aCb,pS x15.aB9,aT x15.aCa,pI 5,pS bJ,pS eU,pI 0,pI 0,pS s_,.nil,.lit 9 (aL.trs (([x10]:List aL))),.nil]) ?_;exact gE 2
 refine gQ 5 ?_;refine bC H (fun h17 H=>?_) (fun h17 H=>?_)
 ·refine fV H fun d18 h19 H=>(fV H fun y20 h21 H=>(cF H fun z22 H=>(dW (dI [3] bW (dB [28] 0 1 uP (dI [0] bF (dI [] (vU ([eQ,sQ]:LB)) (dE [30,31] (eW [0] [] func48 (OM h19 h21 (fZ d11 ([eQ,sQ]:LB) (by decide)))) (dI [] (bE func49 (sY fu _ z7)) (dI [32,33] r9 (dI [34] (vU ([(aV.mk y20 x8)]:List aV)) ?_)))))))))))
  refine dI [29,35] (bB.appendLit (es1:=aV.trs (([(aV.mk eQ x6)]:List aV))) (es2:=aV.trs (([(aV.mk y20 x8)]:List aV))) (es3:=aV.trs (([(aV.mk eQ x6)]:List aV)++([(aV.mk y20 x8)]:List aV))) rfl rfl rfl rfl rfl (fun e he=>by rw [aV.trs_map] at he;obtain⟨x,_,rfl⟩:=List.mem_map.1 he;rw [aV.tr_cs];rfl) (fun e he=>by rw [aV.trs_map] at he;obtain⟨x,_,rfl⟩:=List.mem_map.1 he;rw [aV.tr_cs];rfl) (by rw [aV.trs_map];exact List.cons_ne_nil _ _) (by decide) asO.h atH.h (by decide) (by rw [aV.trs_len,aV.trs_len];exact CO z22 (by decide)) (by rw [aV.trs_map,aV.trs_map,aV.trs_map,List.map_append])) ?_;refine dI [3] bW (lB [37,36] kG (dN ?_))
  refine gQ 2 ?_;refine AL.weak (Wk.freezeE (k:=2) (sz:=4) (es:= [aG.cs (aG.mk bJ x6)]) (es':=aG.trs (([(aG.mk bJ x6)]:List aG))) (s':=⟨[(0,.ptr 0 0),(2,.ptr 1 0),(3,.ptr 3 0),(20,pN (d1.below 10))],⟨[some ⟨133,dC d18⟩,some ⟨213,[pS s_,.nil,.nil,.nil,pI 0,pS s_,.nil,pI 0,pS s_,pS s_,pI 0,pI 0,pS s_,.nil,.nil,.nil]⟩,none,some ⟨213,[pS y3,.lit 1 (aY (([f6]:LB))),cK ([(aG.mk bJ x6)]:List aG),V5 (([(aV.mk eQ x6)]:List aV)++([(aV.mk y20 x8)]:List aV)),pI x8.aCb,pS x8.aB9,aT x8.aCa,pI 5,pS bJ,pS eU,pI 0,pI 0,pS s_,.nil,.lit 9 (aL.trs (([x10]:List aL))),.nil]⟩],[]⟩⟩) (by simp [aG.trs_map,aG.tr_cs]) rfl jK (by simp [aG.cs]) (Nat.le_of_ble_eq_true rfl) ⟨⟨rfl,eC,rfl⟩,⟨⟨rfl,eC,rfl⟩,⟨⟨rfl,eC,rfl⟩,trivial⟩⟩⟩ rfl rfl (eP hC (lF rfl) (Nat.le_of_ble_eq_true rfl)) (by repeat' first|exact trivial|refine⟨⟨_,rfl,eC,rfl⟩,?_⟩)) ?_;refine q1 (bZ [pS y3,.lit 1 (aY (([f6]:LB))),cK ([(aG.mk bJ x6)]:List aG),V5 (([(aV.mk eQ x6)]:List aV)++([(aV.mk y20 x8)]:List aV)),pI x8.aCb,pS x8.aB9,aT x8.aCa,pI 5,pS bJ,pS eU,pI 0,pI 0,pS s_,.nil,.lit 9 (aL.trs (([x10]:List aL))),.nil]) ?_;exact gE 2
 refine gQ 5 ?_;refine bC H (fun h23 H=>?_) (fun h23 H=>?_)
 ·refine gQ 2 ?_;refine q1 (vU ([eQ,sQ]:LB)) (dU H fun x25 x26 z24 H=>(q1 (eW [0] [] func193 (ST fu d11 ([eQ,sQ]:LB) 3 _ z24)) ?_))
  refine gQ 5 ?_;refine AL.weak (Wk.freezeE (k:=2) (sz:=4) (es:= [aG.cs (aG.mk bJ x6)]) (es':=aG.trs (([(aG.mk bJ x6)]:List aG))) (s':=⟨[(0,.ptr 0 0),(2,.ptr 1 0),(3,.ptr 3 0),(20,pN (d1.below 10))],⟨[some ⟨133,dC x26⟩,some ⟨213,[pS s_,.nil,.nil,.nil,pI 0,pS s_,.nil,pI 0,pS s_,pS s_,pI 0,pI 0,pS s_,.nil,.nil,.nil]⟩,none,some ⟨213,[pS y3,.lit 1 (aY (([f6]:LB))),cK ([(aG.mk bJ x6)]:List aG),.lit 4 (aV.trs (([(aV.mk eQ x6)]:List aV))),pI x8.aCb,pS x8.aB9,aT x8.aCa,pI x25.aCb,pS x25.aCg,pS x25.aB9,pI x25.aCR,pI x25.aCd.aCb,pS x25.aCd.aB9,aT x25.aCd.aCa,iS x25.aCa,sL x25.aCu]⟩],[]⟩⟩) (by simp [aG.trs_map,aG.tr_cs]) rfl jK (by simp [aG.cs]) (Nat.le_of_ble_eq_true rfl) ⟨⟨rfl,eC,rfl⟩,⟨⟨rfl,eC,rfl⟩,⟨⟨rfl,eC,rfl⟩,trivial⟩⟩⟩ rfl rfl (eP hC (lF rfl) (Nat.le_of_ble_eq_true rfl)) (by repeat' first|exact trivial|refine⟨⟨_,rfl,eC,rfl⟩,?_⟩)) ?_;refine q1 (bZ [pS y3,.lit 1 (aY (([f6]:LB))),cK ([(aG.mk bJ x6)]:List aG),.lit 4 (aV.trs (([(aV.mk eQ x6)]:List aV))),pI x8.aCb,pS x8.aB9,aT x8.aCa,pI x25.aCb,pS x25.aCg,pS x25.aB9,pI x25.aCR,pI x25.aCd.aCb,pS x25.aCd.aB9,aT x25.aCd.aCa,iS x25.aCa,sL x25.aCu]) ?_;exact gE 2
 refine gQ 5 ?_;refine bC H (fun h27 H=>?_) (fun h27 H=>?_)
 ·refine dU H fun x29 x30 z28 H=>(dW (dI [3] bW (dB [46] 0 1 uP (dI [0] bF (dE [48] (eW [0] [] func132 (B4 (wZ fu) d11 1 _ z28)) (dI [47] (bB.indexB (sz:=4) (k:=2) (N:=1) (i:=0) rfl rfl rfl rfl (by decide) arA.h) (dI [50] bW (lB [51,49] kG (dN ?_)))))))))
  refine gQ 2 ?_;refine AL.weak (Wk.freezeE (k:=2) (sz:=4) (es:= [aG.cs (aG.mk bJ x29)]) (es':=aG.trs (([(aG.mk bJ x29)]:List aG))) (s':=⟨[(0,.ptr 0 0),(2,.ptr 1 0),(3,.ptr 3 0),(20,pN (d1.below 10))],⟨[some ⟨133,dC x30⟩,some ⟨213,[pS s_,.nil,.nil,.nil,pI 0,pS s_,.nil,pI 0,pS s_,pS s_,pI 0,pI 0,pS s_,.nil,.nil,.nil]⟩,none,some ⟨213,[pS y3,.lit 1 (aY (([f6]:LB))),cK ([(aG.mk bJ x29)]:List aG),.lit 4 (aV.trs (([(aV.mk eQ x6)]:List aV))),pI x8.aCb,pS x8.aB9,aT x8.aCa,pI 5,pS bJ,pS eU,pI 0,pI 0,pS s_,.nil,.lit 9 (aL.trs (([x10]:List aL))),.nil]⟩],[]⟩⟩) (by simp [aG.trs_map,aG.tr_cs]) rfl jK (by simp [aG.cs]) (Nat.le_of_ble_eq_true rfl) ⟨⟨rfl,eC,rfl⟩,⟨⟨rfl,eC,rfl⟩,⟨⟨rfl,eC,rfl⟩,trivial⟩⟩⟩ rfl rfl (eP hC (lF rfl) (Nat.le_of_ble_eq_true rfl)) (by repeat' first|exact trivial|refine⟨⟨_,rfl,eC,rfl⟩,?_⟩)) ?_;refine q1 (bZ [pS y3,.lit 1 (aY (([f6]:LB))),cK ([(aG.mk bJ x29)]:List aG),.lit 4 (aV.trs (([(aV.mk eQ x6)]:List aV))),pI x8.aCb,pS x8.aB9,aT x8.aCa,pI 5,pS bJ,pS eU,pI 0,pI 0,pS s_,.nil,.lit 9 (aL.trs (([x10]:List aL))),.nil]) ?_;exact gE 2
 refine gQ 5 ?_;refine bC H (fun h31 H=>?_) (fun h31 H=>?_)
 ·refine gQ 2 ?_;refine q1 (vU ([s_,F4]:LB)) (fV H fun d32 h33 H=>(fV H fun y34 h35 H=>(q1 (eW [0] [] func48 (OM h33 h35 (fZ d11 ([s_,F4]:LB) (by decide)))) ?_)))
  refine gQ 5 ?_;refine AL.weak (Wk.freezeE (k:=2) (sz:=4) (es:= [aG.cs (aG.mk bJ x6)]) (es':=aG.trs (([(aG.mk bJ x6)]:List aG))) (s':=⟨[(0,.ptr 0 0),(2,.ptr 1 0),(3,.ptr 3 0),(20,pN (d1.below 10))],⟨[some ⟨133,dC d32⟩,some ⟨213,[pS s_,.nil,.nil,.nil,pI 0,pS s_,.nil,pI 0,pS s_,pS s_,pI 0,pI 0,pS s_,.nil,.nil,.nil]⟩,none,some ⟨213,[pS y34,.lit 1 (aY (([f6]:LB))),cK ([(aG.mk bJ x6)]:List aG),.lit 4 (aV.trs (([(aV.mk eQ x6)]:List aV))),pI x8.aCb,pS x8.aB9,aT x8.aCa,pI 5,pS bJ,pS eU,pI 0,pI 0,pS s_,.nil,.lit 9 (aL.trs (([x10]:List aL))),.nil]⟩],[]⟩⟩) (by simp [aG.trs_map,aG.tr_cs]) rfl jK (by simp [aG.cs]) (Nat.le_of_ble_eq_true rfl) ⟨⟨rfl,eC,rfl⟩,⟨⟨rfl,eC,rfl⟩,⟨⟨rfl,eC,rfl⟩,trivial⟩⟩⟩ rfl rfl (eP hC (lF rfl) (Nat.le_of_ble_eq_true rfl)) (by repeat' first|exact trivial|refine⟨⟨_,rfl,eC,rfl⟩,?_⟩)) ?_;refine q1 (bZ [pS y34,.lit 1 (aY (([f6]:LB))),cK ([(aG.mk bJ x6)]:List aG),.lit 4 (aV.trs (([(aV.mk eQ x6)]:List aV))),pI x8.aCb,pS x8.aB9,aT x8.aCa,pI 5,pS bJ,pS eU,pI 0,pI 0,pS s_,.nil,.lit 9 (aL.trs (([x10]:List aL))),.nil]) ?_;exact gE 2
 refine gQ 3 ?_;refine AL.weak (Wk.freezeE (k:=2) (sz:=4) (es:= [aG.cs (aG.mk bJ x6)]) (es':=aG.trs (([(aG.mk bJ x6)]:List aG))) (s':=⟨[(0,.ptr 0 0),(2,.ptr 1 0),(3,.ptr 3 0),(20,pN (d1.below 10))],⟨[some ⟨133,dC d11⟩,some ⟨213,[pS s_,.nil,.nil,.nil,pI 0,pS s_,.nil,pI 0,pS s_,pS s_,pI 0,pI 0,pS s_,.nil,.nil,.nil]⟩,none,some ⟨213,[pS y3,.lit 1 (aY (([f6]:LB))),cK ([(aG.mk bJ x6)]:List aG),.lit 4 (aV.trs (([(aV.mk eQ x6)]:List aV))),pI x8.aCb,pS x8.aB9,aT x8.aCa,pI 5,pS bJ,pS eU,pI 0,pI 0,pS s_,.nil,.lit 9 (aL.trs (([x10]:List aL))),.nil]⟩],[]⟩⟩) (by simp [aG.trs_map,aG.tr_cs]) rfl jK (by simp [aG.cs]) (Nat.le_of_ble_eq_true rfl) ⟨⟨rfl,eC,rfl⟩,⟨⟨rfl,eC,rfl⟩,⟨⟨rfl,eC,rfl⟩,trivial⟩⟩⟩ rfl rfl (eP hC (lF rfl) (Nat.le_of_ble_eq_true rfl)) (by repeat' first|exact trivial|refine⟨⟨_,rfl,eC,rfl⟩,?_⟩)) ?_;refine q1 (bZ [pS y3,.lit 1 (aY (([f6]:LB))),cK ([(aG.mk bJ x6)]:List aG),.lit 4 (aV.trs (([(aV.mk eQ x6)]:List aV))),pI x8.aCb,pS x8.aB9,aT x8.aCa,pI 5,pS bJ,pS eU,pI 0,pI 0,pS s_,.nil,.lit 9 (aL.trs (([x10]:List aL))),.nil]) ?_;exact gE 2
end
end Go.Proofs.YtfcoaagbccmahaaGreat.W

namespace Go.Proofs.YtfcoaagbccmahaaGreat.W
set_option maxRecDepth 100000
set_option maxHeartbeats 40000000
noncomputable section
open Tryz Go.RowKit Go.Proofs
attribute [local irreducible] lt
def acX(fu:Nat)(p0:DS)(x2:aA)(d3:DS)(y5:ByteArray)(d7:DS)(x10:aA)(d13:DS)(x17 x19 x21:aL):Option ((aU×DS)⊕((LB))):=lt (d13.after 3) fun d24=>sw (decide (d13.below 3=0)) (some (.inr ([jN]:LB))) (some (.inr ([])))
def acY(fu:Nat)(p0:DS)(x2:aA)(d3:DS)(y5:ByteArray)(d7:DS)(x10:aA)(d37:DS):Option ((aU×DS)⊕((LB))):=lt (d37.after 3) fun d41=>sw (decide (d37.below 3=0)) (some (.inr ([jN]:LB))) (some (.inr ([])))
def acZ(fu:Nat)(p0:DS)(x2:aA)(d3:DS)(y5:ByteArray)(d7:DS)(x10:aA):Option ((aU×DS)⊕((List aE))):=lt (d7.after 2) fun d56=>sw (decide (d7.below 2=0)) (bd (wU fu eQ) fun x61=>bd (uK fu 1) fun x63=>bd (vH fu 10 CA ([(aL.mk 5 y5 eU 0 (aA.mk 0 s_ []) ([x61]:List aL) []),x63]:List aL)) fun x65=>gd ((([(aE.mk eU [] x10 false [] (aL.mk 0 s_ s_ 0 (aA.mk 0 s_ []) [] []))]:List aE)).length+(([(aE.mk fN ([x2]:List aA) x10 true ([eQ,sQ]:LB) x65)]:List aE)).length≤68719476736) (some (.inr (([(aE.mk eU [] x10 false [] (aL.mk 0 s_ s_ 0 (aA.mk 0 s_ []) [] []))]:List aE)++([(aE.mk fN ([x2]:List aA) x10 true ([eQ,sQ]:LB) x65)]:List aE))))) (some (.inr ([(aE.mk eU [] x10 false [] (aL.mk 0 s_ s_ 0 (aA.mk 0 s_ []) [] []))]:List aE)))
def ac0(fu:Nat)(p0:DS)(x2:aA)(d3:DS)(y5:ByteArray)(d7:DS)(x10:aA)(v55:List aE):Option ((aU×DS)⊕((LB))):=lt ((d7.after 2).after 3) fun d68=>sw (decide ((d7.after 2).below 3=0)) (some (.inr ([jN]:LB))) (some (.inr ([])))
def IS(fu:Nat)(p0:DS):Option (aU×DS):=bd (l7 fu kA) fun x2=>lt (p0.after ([bJ,xY,fE]:LB).length) fun d3=>lt (p0.pick ([bJ,xY,fE]:LB)) fun y5=>lt (d3.after 3) fun d7=>bd (yH fu) fun x10=>sw (decide ((((((d7.after 2).after 3).below 12:Nat):Int):Int)=2)||decide ((((((d7.after 2).after 3).below 12:Nat):Int):Int)=3)) (sw (decide (d7.below 2=0)) (lt (d7.after 2) fun d13=>bd (wU fu eQ) fun x17=>bd (uK fu 1) fun x19=>bd (vH fu 10 CA ([(aL.mk 5 y5 eU 0 (aA.mk 0 s_ []) ([x17]:List aL) []),x19]:List aL)) fun x21=>gd ((([(aE.mk eU [] x10 false [] (aL.mk 0 s_ s_ 0 (aA.mk 0 s_ []) [] []))]:List aE)).length+(([(aE.mk fN ([x2]:List aA) x10 true ([eQ,sQ]:LB) x21)]:List aE)).length≤68719476736) (so (acX fu p0 x2 d3 y5 d7 x10 d13 x17 x19 x21) fun v23=>lt ((d13.after 3).after 12) fun d28=>sw (decide (((((d13.after 3).below 12:Nat):Int):Int)=2)) (lt (d28.after ([kA,CX]:LB).length) fun d31=>lt (d28.pick ([kA,CX]:LB)) fun y33=>bd (l7 fu y33) fun x36=>some ((aU.mk y5 v23 false (decide (d3.below 3=0)) ([(aE.mk eU ([]) x36 false ([]) (aL.mk 0 s_ s_ 0 (aA.mk 0 s_ ([])) ([]) ([]))),(aE.mk fN ([x2]:List aA) x10 true ([eQ,sQ]:LB) x21)]:List aE)),d31)) (some ((aU.mk y5 v23 false (decide (d3.below 3=0)) ([(aE.mk eU ([]) x10 true ([]) (aL.mk 0 s_ s_ 0 (aA.mk 0 s_ ([])) ([]) ([]))),(aE.mk fN ([x2]:List aA) x10 true ([eQ,sQ]:LB) x21)]:List aE)),d28)))) (lt (d7.after 2) fun d37=>so (acY fu p0 x2 d3 y5 d7 x10 d37) fun v40=>lt ((d37.after 3).after 12) fun d45=>sw (decide (((((d37.after 3).below 12:Nat):Int):Int)=2)) (lt (d45.after ([kA,CX]:LB).length) fun d48=>lt (d45.pick ([kA,CX]:LB)) fun y50=>bd (l7 fu y50) fun x53=>some ((aU.mk y5 v40 false (decide (d3.below 3=0)) ([(aE.mk eU [] x53 false [] (aL.mk 0 s_ s_ 0 (aA.mk 0 s_ []) [] []))]:List aE)),d48)) (some ((aU.mk y5 v40 false (decide (d3.below 3=0)) ([(aE.mk eU [] x10 true [] (aL.mk 0 s_ s_ 0 (aA.mk 0 s_ []) [] []))]:List aE)),d45)))) (so (acZ fu p0 x2 d3 y5 d7 x10) fun v55=>so (ac0 fu p0 x2 d3 y5 d7 x10 v55) fun v67=>lt (((d7.after 2).after 3).after 12) fun d72=>sw (decide ((((((d7.after 2).after 3).below 12:Nat):Int):Int)=0)) (some ((aU.mk y5 v67 true (decide (d3.below 3=0)) v55),d72)) (sw (decide ((((((d7.after 2).after 3).below 12:Nat):Int):Int)=1)) (lt (d72.after ([s_,dR,s_A]:LB).length) fun d76=>lt (d72.pick ([s_,dR,s_A]:LB)) fun y78=>some ((aU.mk y78 v67 false (decide (d3.below 3=0)) v55),d76)) (sw (decide ((((((d7.after 2).after 3).below 12:Nat):Int):Int)=4)) (gd ((v67).length+(([jN]:LB)).length≤68719476736) (some ((aU.mk y5 (v67++([jN]:LB)) false (decide (d3.below 3=0)) v55),d72))) (sw (decide ((((((d7.after 2).after 3).below 12:Nat):Int):Int)=5)) (gd (0<(v55).length) (lt (aR v55 0) fun y84=>gd ((v55).length+(([y84]:List aE)).length≤68719476736) (some ((aU.mk y5 v67 false (decide (d3.below 3=0)) (v55++([y84]:List aE))),d72)))) (some ((aU.mk y5 v67 false (decide (d3.below 3=0)) v55),d72))))))
theorem ac1(fu:Nat)(p0:DS)(r:aU×DS)(H:IS fu p0=some r):b6 Tryz.prog 163 [.ptr 0 0] ⟨[some ⟨133,dC p0⟩],[]⟩ (fun q t=>q=((aU.pv r.1))∧t=⟨[some ⟨133,dC r.2⟩],[]⟩):=by
 refine qJ func163 H (fun C hC H=>?_)
 refine gQ 6 ?_;refine bK H fun x2 z1 H=>(q1 (bE func137 (kF (jJ fu) kA _ z1)) ?_)
 refine gQ 6 ?_;refine q1 (vU ([bJ,xY,fE]:LB)) (fV H fun d3 h4 H=>(fV H fun y5 h6 H=>(q1 (eW [0] [] func48 (OM h4 h6 (fZ p0 ([bJ,xY,fE]:LB) (by decide)))) (q1 bF (fV H fun d7 h8 H=>(q1 (eW [0] [] func45 (DT h8 (mT d3 3))) (bK H fun x10 z9 H=>(q1 (bE func49 (sY fu _ z9)) (q1 r9 ?_)))))))))
 rcases o3 (decide ((((((d7.after 2).after 3).below 12:Nat):Int):Int)=2)||decide ((((((d7.after 2).after 3).below 12:Nat):Int):Int)=3)) with g11|g11
 ·have H:=s9 H g11
  rcases o3 (decide (d7.below 2=0)) with g12|g12
  ·have H:=s9 H g12
   refine q1 (bB.buildSliceB (cs:= [pS eU,.nil,pI x10.aCb,pS x10.aB9,aT x10.aCa,pB false,.nil,pI 0,pS s_,pS s_,pI 0,pI 0,pS s_,.nil,.nil,.nil]) rfl rfl U5.h aqX.h rfl rfl rfl (by decide) rfl (by decide)) ?_;refine gQ 8 ?_;refine fV H fun d13 h14 H=>?_
   have g15:=g11
   rw [← h14] at g15
   refine q1 (eW [0] [] func45 (DT h14 (mT d7 2))) (qN (aiA g12 (bK H fun x17 z16 H=>(bK H fun x19 z18 H=>(bK H fun x21 z20 H=>?_)))))
   refine cV.wk (Wk.freezeE (k:=3) (sz:=16) (es:= [aE.cs (aE.mk eU [] x10 false [] (aL.mk 0 s_ s_ 0 (aA.mk 0 s_ []) [] []))]) (es':=aE.trs (([(aE.mk eU [] x10 false [] (aL.mk 0 s_ s_ 0 (aA.mk 0 s_ []) [] []))]:List aE))) (s':=⟨[(0,.ptr 0 0),(2,.ptr 1 0),(3,.ptr 2 0),(4,.ptr 4 0),(5,(aA.pv x2)),(6,.ptr 0 0),(7,.lit 1 (aY (([bJ,xY,fE]:LB)))),(8,pS y5),(9,.ptr 0 0),(10,pB (decide (d3.below 3=0))),(11,(aA.pv x10)),(12,.agg [pS eU,.nil,pI x10.aCb,pS x10.aB9,aT x10.aCa,pB false,.nil,pI 0,pS s_,pS s_,pI 0,pI 0,pS s_,.nil,.nil,.nil]),(13,.lit 16 (aE.trs (([(aE.mk eU [] x10 false [] (aL.mk 0 s_ s_ 0 (aA.mk 0 s_ []) [] []))]:List aE)))),(14,.agg [pS y5,.nil,pB false,pB (decide (d3.below 3=0)),.lit 16 (aE.trs (([(aE.mk eU [] x10 false [] (aL.mk 0 s_ s_ 0 (aA.mk 0 s_ []) [] []))]:List aE)))]),(15,.ptr 0 0),(16,pB (decide (d7.below 2=0)))],⟨[some ⟨133,dC d13⟩,some ⟨156,[pS s_,.nil,pB false,pB false,.nil]⟩,some ⟨30,bR x2⟩,none,some ⟨156,[pS y5,.nil,pB false,pB (decide (d3.below 3=0)),.lit 16 (aE.trs (([(aE.mk eU [] x10 false [] (aL.mk 0 s_ s_ 0 (aA.mk 0 s_ []) [] []))]:List aE)))]⟩],[]⟩⟩) (by simp [aE.trs_map,aE.tr_cs]) rfl jK (by simp [aE.cs]) (Nat.le_of_ble_eq_true rfl) ⟨⟨rfl,eC,rfl⟩,⟨⟨rfl,eC,rfl⟩,⟨⟨rfl,eC,rfl⟩,⟨⟨rfl,eC,rfl⟩,trivial⟩⟩⟩⟩ rfl rfl (eP hC (lF rfl) (Nat.le_of_ble_eq_true rfl)) (by repeat' first|exact trivial|refine⟨⟨_,rfl,eC,rfl⟩,?_⟩)) ?_;refine cF H fun z22 H=>(dW (dI [4] bW (dD [17] eE (dD [3] (bZ [pI x2.aCb,pS x2.aB9,aT x2.aCa]) (dI [19] (vU ([x2]:List aA)) (dI [] (bE func49 (sY fu _ z9)) (dI [] (vU ([eQ,sQ]:LB)) (dI [4] bW (dD [23] eE (dI [] (bE func191 (BT fu eQ _ z16)) (dI [25] (vU ([x17]:List aL)) (dI [24,26] r9 (dI [] (bE func192 (wS fu 1 _ z18)) ?_)))))))))))))
   refine dI [27,28] (vU ([(aL.mk 5 y5 eU 0 (aA.mk 0 s_ []) ([x17]:List aL) []),x19]:List aL)) (dI [29] (bE func190 (wT fu 10 CA ([(aL.mk 5 y5 eU 0 (aA.mk 0 s_ []) ([x17]:List aL) []),x19]:List aL) _ z20)) (dI [20,21,22,30] r9 (dI [31] (vU ([(aE.mk fN ([x2]:List aA) x10 true ([eQ,sQ]:LB) x21)]:List aE)) ?_)))
   refine dE [18,32] (bB.appendLitBE (es1:=aE.trs (([(aE.mk eU [] x10 false [] (aL.mk 0 s_ s_ 0 (aA.mk 0 s_ []) [] []))]:List aE))) (es2:=aE.trs (([(aE.mk fN ([x2]:List aA) x10 true ([eQ,sQ]:LB) x21)]:List aE))) (es3:= [aE.cs (aE.mk eU [] x10 false [] (aL.mk 0 s_ s_ 0 (aA.mk 0 s_ []) [] [])),aE.cs (aE.mk fN ([x2]:List aA) x10 true ([eQ,sQ]:LB) x21)]) (cs:= [pS eU,aT [],pI x10.aCb,pS x10.aB9,aT x10.aCa,pB false,rS [],pI 0,pS s_,pS s_,pI 0,pI 0,pS s_,aT [],iS [],sL [],pS fN,aT ([x2]:List aA),pI x10.aCb,pS x10.aB9,aT x10.aCa,pB true,rS ([eQ,sQ]:LB),pI x21.aCb,pS x21.aCg,pS x21.aB9,pI x21.aCR,pI x21.aCd.aCb,pS x21.aCd.aB9,aT x21.aCd.aCa,iS x21.aCa,sL x21.aCu]) rfl rfl rfl rfl rfl (fun e he=>by rw [aE.trs_map] at he;obtain⟨x,_,rfl⟩:=List.mem_map.1 he;rw [aE.tr_cs];rfl) (fun e he=>by rw [aE.trs_map] at he;obtain⟨x,_,rfl⟩:=List.mem_map.1 he;rw [aE.tr_cs];rfl) (by rw [aE.trs_map];exact List.cons_ne_nil _ _) (by decide) U5.h atG.h (by decide) (by rw [aE.trs_len,aE.trs_len];exact CO z22 (by decide)) (by simp [aE.trs_map,aE.tr_cs]) rfl rfl) ?_;refine dI [4] bW (lB [34,33] kG (dN (qS ?_)))
   refine n3 (σ:=(LB)) (fun v23=>⟨[(0,.ptr 0 0),(2,.ptr 1 0),(4,.ptr 4 0)],⟨[some ⟨133,dC (d13.after 3)⟩,some ⟨156,[pS s_,.nil,pB false,pB false,.nil]⟩,some ⟨30,bR x2⟩,none,some ⟨156,[pS y5,.lit 1 (aY (v23)),pB false,pB (decide (d3.below 3=0)),.gsl 5 2]⟩,some ⟨237,[pS eU,aT [],pI x10.aCb,pS x10.aB9,aT x10.aCa,pB false,rS [],pI 0,pS s_,pS s_,pI 0,pI 0,pS s_,aT [],iS [],sL [],pS fN,aT ([x2]:List aA),pI x10.aCb,pS x10.aB9,aT x10.aCa,pB true,rS ([eQ,sQ]:LB),pI x21.aCb,pS x21.aCg,pS x21.aB9,pI x21.aCR,pI x21.aCd.aCb,pS x21.aCd.aB9,aT x21.aCd.aCa,iS x21.aCa,sL x21.aCu]⟩],[]⟩⟩) (eM H) (fun H=>?_) ?_
   ·refine gQ 3 ?_;refine fV H fun d24 h25 H=>?_
    have g26:=g15
    rw [← h25] at g26
    refine q1 (eW [0] [] func45 (DT h25 (mT d13 3))) (qN ?_)
    refine bC H (fun h27 H=>?_) (fun h27 H=>?_)
    ·refine qR (q1 (vU ([jN]:LB)) ?_)
     refine gQ 3 ?_
     subst h25
     exact gE 0
    refine cV.skip ?_
    subst h25
    exact gE 0
   rintro v23 H
   refine gQ 4 ?_;refine fV H fun d28 h29 H=>(q1 (eW [0] [] func73 (DT h29 (eY (d13.after 3) 12))) ?_)
   refine gQ 7 ?_;refine U2 (akQ (b:=0) g15 (by decide) (by decide)) ?_;refine gQ 5 ?_;refine U2 (akQ (b:=1) g15 (by decide) (by decide)) ?_;refine gQ 5 ?_;refine bC H (fun h30 H=>?_) (fun h30 H=>?_)
   ·refine fV H fun d31 h32 H=>(fV H fun y33 h34 H=>(bK H fun x36 z35 H=>(dW (dI [4] bW (dB [52] 0 1 uP (dI [0] bF (dI [] (vU ([kA,CX]:LB)) (dE [54,55] (eW [0] [] func48 (OM h32 h34 (fZ d28 ([kA,CX]:LB) (by decide)))) (dI [56] (bE func137 (kF (jJ fu) y33 _ z35)) (dI [53] (bB.indexG (sz:=16) (k:=5) (N:=2) (i:=0) rfl rfl rfl rfl (by decide) U5.h) (dI [58] bW (lB [59,57] kG (dN ?_)))))))))))))
    refine gQ 2 ?_;refine AL.weak (Wk.freezeE (k:=5) (sz:=16) (es:= [aE.cs (aE.mk eU ([]) x36 false ([]) (aL.mk 0 s_ s_ 0 (aA.mk 0 s_ ([])) ([]) ([]))),aE.cs (aE.mk fN ([x2]:List aA) x10 true ([eQ,sQ]:LB) x21)]) (es':=aE.trs (([(aE.mk eU ([]) x36 false ([]) (aL.mk 0 s_ s_ 0 (aA.mk 0 s_ ([])) ([]) ([]))),(aE.mk fN ([x2]:List aA) x10 true ([eQ,sQ]:LB) x21)]:List aE))) (s':=⟨[(0,.ptr 0 0),(2,.ptr 1 0),(4,.ptr 4 0),(40,pN ((d13.after 3).below 12))],⟨[some ⟨133,dC d31⟩,some ⟨156,[pS s_,.nil,pB false,pB false,.nil]⟩,some ⟨30,bR x2⟩,none,some ⟨156,[pS y5,.lit 1 (aY (v23)),pB false,pB (decide (d3.below 3=0)),gF ([(aE.mk eU ([]) x36 false ([]) (aL.mk 0 s_ s_ 0 (aA.mk 0 s_ ([])) ([]) ([]))),(aE.mk fN ([x2]:List aA) x10 true ([eQ,sQ]:LB) x21)]:List aE)]⟩,none],[]⟩⟩) (by simp [aE.trs_map,aE.tr_cs]) rfl jK (by simp [aE.cs]) (Nat.le_of_ble_eq_true rfl) ⟨⟨rfl,eC,rfl⟩,⟨⟨rfl,eC,rfl⟩,⟨⟨rfl,eC,rfl⟩,⟨⟨rfl,eC,rfl⟩,trivial⟩⟩⟩⟩ rfl rfl (eP hC (lF rfl) (Nat.le_of_ble_eq_true rfl)) (by repeat' first|exact trivial|refine⟨⟨_,rfl,eC,rfl⟩,?_⟩)) ?_;refine q1 (bZ [pS y5,.lit 1 (aY (v23)),pB false,pB (decide (d3.below 3=0)),gF ([(aE.mk eU ([]) x36 false ([]) (aL.mk 0 s_ s_ 0 (aA.mk 0 s_ ([])) ([]) ([]))),(aE.mk fN ([x2]:List aA) x10 true ([eQ,sQ]:LB) x21)]:List aE)]) ?_;exact gE 2
   refine gQ 5 ?_;refine aiA (aqS g15 h30) ?_;refine gQ 3 ?_;refine q1 (bB.indexG (sz:=16) (k:=5) (N:=2) (i:=0) rfl rfl rfl rfl (by decide) U5.h) ?_;refine gQ 5 ?_;refine AL.weak (Wk.freezeE (k:=5) (sz:=16) (es:= [aE.cs (aE.mk eU ([]) x10 true ([]) (aL.mk 0 s_ s_ 0 (aA.mk 0 s_ ([])) ([]) ([]))),aE.cs (aE.mk fN ([x2]:List aA) x10 true ([eQ,sQ]:LB) x21)]) (es':=aE.trs (([(aE.mk eU ([]) x10 true ([]) (aL.mk 0 s_ s_ 0 (aA.mk 0 s_ ([])) ([]) ([]))),(aE.mk fN ([x2]:List aA) x10 true ([eQ,sQ]:LB) x21)]:List aE))) (s':=⟨[(0,.ptr 0 0),(2,.ptr 1 0),(4,.ptr 4 0),(40,pN ((d13.after 3).below 12))],⟨[some ⟨133,dC d28⟩,some ⟨156,[pS s_,.nil,pB false,pB false,.nil]⟩,some ⟨30,bR x2⟩,none,some ⟨156,[pS y5,.lit 1 (aY (v23)),pB false,pB (decide (d3.below 3=0)),gF ([(aE.mk eU ([]) x10 true ([]) (aL.mk 0 s_ s_ 0 (aA.mk 0 s_ ([])) ([]) ([]))),(aE.mk fN ([x2]:List aA) x10 true ([eQ,sQ]:LB) x21)]:List aE)]⟩,none],[]⟩⟩) (by simp [aE.trs_map,aE.tr_cs]) rfl jK (by simp [aE.cs]) (Nat.le_of_ble_eq_true rfl) ⟨⟨rfl,eC,rfl⟩,⟨⟨rfl,eC,rfl⟩,⟨⟨rfl,eC,rfl⟩,⟨⟨rfl,eC,rfl⟩,trivial⟩⟩⟩⟩ rfl rfl (eP hC (lF rfl) (Nat.le_of_ble_eq_true rfl)) (by repeat' first|exact trivial|refine⟨⟨_,rfl,eC,rfl⟩,?_⟩)) ?_;refine q1 (bZ [pS y5,.lit 1 (aY (v23)),pB false,pB (decide (d3.below 3=0)),gF ([(aE.mk eU ([]) x10 true ([]) (aL.mk 0 s_ s_ 0 (aA.mk 0 s_ ([])) ([]) ([]))),(aE.mk fN ([x2]:List aA) x10 true ([eQ,sQ]:LB) x21)]:List aE)]) ?_;exact gE 2
  have H:=s8 H g12
  refine q1 (bB.buildSliceB (cs:= [pS eU,.nil,pI x10.aCb,pS x10.aB9,aT x10.aCa,pB false,.nil,pI 0,pS s_,pS s_,pI 0,pI 0,pS s_,.nil,.nil,.nil]) rfl rfl U5.h aqX.h rfl rfl rfl (by decide) rfl (by decide)) ?_;refine gQ 8 ?_;refine fV H fun d37 h38 H=>?_
  have g39:=g11
  rw [← h38] at g39
  refine q1 (eW [0] [] func45 (DT h38 (mT d7 2))) (qN (U2 g12 ?_))
  refine gQ 2 ?_;refine n3 (σ:=(LB)) (fun v40=>⟨[(0,.ptr 0 0),(2,.ptr 1 0),(4,.ptr 4 0)],⟨[some ⟨133,dC (d37.after 3)⟩,some ⟨156,[pS s_,.nil,pB false,pB false,.nil]⟩,some ⟨30,bR x2⟩,some ⟨237,[pS eU,.nil,pI x10.aCb,pS x10.aB9,aT x10.aCa,pB false,.nil,pI 0,pS s_,pS s_,pI 0,pI 0,pS s_,.nil,.nil,.nil]⟩,some ⟨156,[pS y5,.lit 1 (aY (v40)),pB false,pB (decide (d3.below 3=0)),.bsl 3 1]⟩],[]⟩⟩) (eM H) (fun H=>?_) ?_
  ·refine gQ 3 ?_;refine fV H fun d41 h42 H=>?_
   have g43:=g39
   rw [← h42] at g43
   refine q1 (eW [0] [] func45 (DT h42 (mT d37 3))) (qN ?_)
   refine bC H (fun h44 H=>?_) (fun h44 H=>?_)
   ·refine qR (q1 (vU ([jN]:LB)) ?_)
    refine gQ 3 ?_
    subst h42
    exact gE 0
   refine cV.skip ?_
   subst h42
   exact gE 0
  rintro v40 H
  refine gQ 4 ?_;refine fV H fun d45 h46 H=>(q1 (eW [0] [] func73 (DT h46 (eY (d37.after 3) 12))) ?_)
  refine gQ 7 ?_;refine U2 (akQ (b:=0) g39 (by decide) (by decide)) ?_;refine gQ 5 ?_;refine U2 (akQ (b:=1) g39 (by decide) (by decide)) ?_;refine gQ 5 ?_;refine bC H (fun h47 H=>?_) (fun h47 H=>?_)
  ·refine fV H fun d48 h49 H=>(fV H fun y50 h51 H=>(bK H fun x53 z52 H=>(dW (dI [4] bW (dB [52] 0 1 uP (dI [0] bF (dI [] (vU ([kA,CX]:LB)) (dE [54,55] (eW [0] [] func48 (OM h49 h51 (fZ d45 ([kA,CX]:LB) (by decide)))) (dI [56] (bE func137 (kF (jJ fu) y50 _ z52)) (dI [53] (bB.indexB (sz:=16) (k:=3) (N:=1) (i:=0) rfl rfl rfl rfl (by decide) U5.h) (dI [58] bW (lB [59,57] kG (dN ?_)))))))))))))
   refine gQ 2 ?_;refine AL.weak (Wk.freezeE (k:=3) (sz:=16) (es:= [aE.cs (aE.mk eU [] x53 false [] (aL.mk 0 s_ s_ 0 (aA.mk 0 s_ []) [] []))]) (es':=aE.trs (([(aE.mk eU [] x53 false [] (aL.mk 0 s_ s_ 0 (aA.mk 0 s_ []) [] []))]:List aE))) (s':=⟨[(0,.ptr 0 0),(2,.ptr 1 0),(4,.ptr 4 0),(40,pN ((d37.after 3).below 12))],⟨[some ⟨133,dC d48⟩,some ⟨156,[pS s_,.nil,pB false,pB false,.nil]⟩,some ⟨30,bR x2⟩,none,some ⟨156,[pS y5,.lit 1 (aY (v40)),pB false,pB (decide (d3.below 3=0)),gF ([(aE.mk eU [] x53 false [] (aL.mk 0 s_ s_ 0 (aA.mk 0 s_ []) [] []))]:List aE)]⟩],[]⟩⟩) (by simp [aE.trs_map,aE.tr_cs]) rfl jK (by simp [aE.cs]) (Nat.le_of_ble_eq_true rfl) ⟨⟨rfl,eC,rfl⟩,⟨⟨rfl,eC,rfl⟩,⟨⟨rfl,eC,rfl⟩,⟨⟨rfl,eC,rfl⟩,trivial⟩⟩⟩⟩ rfl rfl (eP hC (lF rfl) (Nat.le_of_ble_eq_true rfl)) (by repeat' first|exact trivial|refine⟨⟨_,rfl,eC,rfl⟩,?_⟩)) ?_;refine q1 (bZ [pS y5,.lit 1 (aY (v40)),pB false,pB (decide (d3.below 3=0)),gF ([(aE.mk eU [] x53 false [] (aL.mk 0 s_ s_ 0 (aA.mk 0 s_ []) [] []))]:List aE)]) ?_;exact gE 2
  refine gQ 5 ?_;refine aiA (aqS g39 h47) ?_;refine gQ 3 ?_;refine q1 (bB.indexB (sz:=16) (k:=3) (N:=1) (i:=0) rfl rfl rfl rfl (by decide) U5.h) ?_;refine gQ 5 ?_;refine AL.weak (Wk.freezeE (k:=3) (sz:=16) (es:= [aE.cs (aE.mk eU [] x10 true [] (aL.mk 0 s_ s_ 0 (aA.mk 0 s_ []) [] []))]) (es':=aE.trs (([(aE.mk eU [] x10 true [] (aL.mk 0 s_ s_ 0 (aA.mk 0 s_ []) [] []))]:List aE))) (s':=⟨[(0,.ptr 0 0),(2,.ptr 1 0),(4,.ptr 4 0),(40,pN ((d37.after 3).below 12))],⟨[some ⟨133,dC d45⟩,some ⟨156,[pS s_,.nil,pB false,pB false,.nil]⟩,some ⟨30,bR x2⟩,none,some ⟨156,[pS y5,.lit 1 (aY (v40)),pB false,pB (decide (d3.below 3=0)),gF ([(aE.mk eU [] x10 true [] (aL.mk 0 s_ s_ 0 (aA.mk 0 s_ []) [] []))]:List aE)]⟩],[]⟩⟩) (by simp [aE.trs_map,aE.tr_cs]) rfl jK (by simp [aE.cs]) (Nat.le_of_ble_eq_true rfl) ⟨⟨rfl,eC,rfl⟩,⟨⟨rfl,eC,rfl⟩,⟨⟨rfl,eC,rfl⟩,⟨⟨rfl,eC,rfl⟩,trivial⟩⟩⟩⟩ rfl rfl (eP hC (lF rfl) (Nat.le_of_ble_eq_true rfl)) (by repeat' first|exact trivial|refine⟨⟨_,rfl,eC,rfl⟩,?_⟩)) ?_;refine q1 (bZ [pS y5,.lit 1 (aY (v40)),pB false,pB (decide (d3.below 3=0)),gF ([(aE.mk eU [] x10 true [] (aL.mk 0 s_ s_ 0 (aA.mk 0 s_ []) [] []))]:List aE)]) ?_;exact gE 2
 have H:=s8 H g11
 refine q1 (qP ([(aE.mk eU [] x10 false [] (aL.mk 0 s_ s_ 0 (aA.mk 0 s_ []) [] []))]:List aE)) ?_;refine gQ 5 ?_;refine n3 (σ:=(List aE)) (fun v55=>⟨[(0,.ptr 0 0),(2,.ptr 1 0),(4,.ptr 3 0)],⟨[some ⟨133,dC (d7.after 2)⟩,some ⟨156,[pS s_,.nil,pB false,pB false,.nil]⟩,some ⟨30,bR x2⟩,some ⟨156,[pS y5,.nil,pB false,pB (decide (d3.below 3=0)),lW v55 0]⟩],[⟨237,16,aE.trs (v55),false⟩]⟩⟩) (eM H) (fun H=>?_) ?_
 ·refine gQ 3 ?_;refine fV H fun d56 h57 H=>?_
  have g58:=g11
  rw [← h57] at g58
  refine q1 (eW [0] [] func45 (DT h57 (mT d7 2))) (qN ?_)
  refine bC H (fun h59 H=>?_) (fun h59 H=>?_)
  ·refine bK H fun x61 z60 H=>(bK H fun x63 z62 H=>(bK H fun x65 z64 H=>(cF H fun z66 H=>(dW (dI [4] bW (dD [17] eE (dD [3] (bZ [pI x2.aCb,pS x2.aB9,aT x2.aCa]) (dI [19] (vU ([x2]:List aA)) (dI [] (bE func49 (sY fu _ z9)) (dI [] (vU ([eQ,sQ]:LB)) (dI [4] bW (dD [23] eE (dI [] (bE func191 (BT fu eQ _ z60)) ?_)))))))))))))
   refine dI [25] (vU ([x61]:List aL)) (dI [24,26] r9 (dI [] (bE func192 (wS fu 1 _ z62)) (dI [27,28] (vU ([(aL.mk 5 y5 eU 0 (aA.mk 0 s_ []) ([x61]:List aL) []),x63]:List aL)) (dI [29] (bE func190 (wT fu 10 CA ([(aL.mk 5 y5 eU 0 (aA.mk 0 s_ []) ([x61]:List aL) []),x63]:List aL) _ z64)) (dI [20,21,22,30] r9 (dI [31] (vU ([(aE.mk fN ([x2]:List aA) x10 true ([eQ,sQ]:LB) x65)]:List aE)) (dE [18,32] (lE z66) (dI [4] bW (lB [34,33] kG (dN ?_))))))))))
   subst h57
   exact gE 0
  refine cV.skip ?_
  subst h57
  exact gE 0
 rintro v55 H
 refine qS ?_;refine n3 (σ:=(LB)) (fun v67=>⟨[(0,.ptr 0 0),(2,.ptr 1 0),(4,.ptr 3 0)],⟨[some ⟨133,dC ((d7.after 2).after 3)⟩,some ⟨156,[pS s_,.nil,pB false,pB false,.nil]⟩,some ⟨30,bR x2⟩,some ⟨156,[pS y5,.lit 1 (aY (v67)),pB false,pB (decide (d3.below 3=0)),lW v55 0]⟩],[⟨237,16,aE.trs (v55),false⟩]⟩⟩) (eM H) (fun H=>?_) ?_
 ·refine gQ 3 ?_;refine fV H fun d68 h69 H=>?_
  have g70:=g11
  rw [← h69] at g70
  refine q1 (eW [0] [] func45 (DT h69 (mT (d7.after 2) 3))) (qN ?_)
  refine bC H (fun h71 H=>?_) (fun h71 H=>?_)
  ·refine qR (q1 (vU ([jN]:LB)) ?_)
   refine gQ 3 ?_
   subst h69
   exact gE 0
  refine cV.skip ?_
  subst h69
  exact gE 0
 rintro v67 H
 refine gQ 4 ?_;refine fV H fun d72 h73 H=>(q1 (eW [0] [] func73 (DT h73 (eY ((d7.after 2).after 3) 12))) ?_)
 refine gQ 7 ?_;refine bC H (fun h74 H=>?_) (fun h74 H=>?_)
 ·refine gQ 6 ?_;refine q1 (bZ [pS y5,.lit 1 (aY (v67)),pB true,pB (decide (d3.below 3=0)),lW v55 0]) ?_;exact gE 2
 refine gQ 5 ?_;refine bC H (fun h75 H=>?_) (fun h75 H=>?_)
 ·refine gQ 2 ?_;refine q1 (vU ([s_,dR,s_A]:LB)) (fV H fun d76 h77 H=>(fV H fun y78 h79 H=>(q1 (eW [0] [] func48 (OM h77 h79 (fZ d72 ([s_,dR,s_A]:LB) (by decide)))) ?_)))
  refine gQ 5 ?_;refine q1 (bZ [pS y78,.lit 1 (aY (v67)),pB false,pB (decide (d3.below 3=0)),lW v55 0]) ?_;exact gE 2
 refine gQ 5 ?_;refine U2 (as0 g11) ?_;refine gQ 5 ?_;refine U2 (as1 g11) ?_;refine gQ 5 ?_;refine bC H (fun h80 H=>?_) (fun h80 H=>?_)
 ·refine gQ 3 ?_;refine q1 (vU ([jN]:LB)) (cF H fun z81 H=>?_)
  refine q1 (bB.appendLit (es1:=aY (v67)) (es2:=aY (([jN]:LB))) (es3:=aY (v67++([jN]:LB))) rfl rfl rfl rfl rfl (r8 _) (r8 _) (by exact List.cons_ne_nil _ _) (by decide) aiC.h aqE.h (by decide) (by rw [bV,bV];exact CO z81 (by decide)) (xG _ _)) ?_;refine gQ 5 ?_;refine q1 (bZ [pS y5,rS (v67++([jN]:LB)),pB false,pB (decide (d3.below 3=0)),lW v55 0]) ?_;exact gE 2
 refine gQ 5 ?_;refine bC H (fun h82 H=>?_) (fun h82 H=>?_)
 ·refine cF H fun z83 H=>(fV H fun y84 h85 H=>(cF H fun z86 H=>(dW (dI [4] bW (dD [75] eE (dI [4] bW (dD [77] eE (dI [78] (yK h85 z83) (dI [79] (iK (aE.cs y84)) (dI [80] (vU ([y84]:List aE)) (dE [76,81] (lE z86) (dI [4] bW (lB [83,82] kG ?_)))))))))))))
  refine dN ?_;refine gQ 2 ?_;refine q1 (bZ [pS y5,.lit 1 (aY (v67)),pB false,pB (decide (d3.below 3=0)),lW (v55++([y84]:List aE)) 0]) ?_;exact gE 2
 refine gQ 3 ?_;refine q1 (bZ [pS y5,.lit 1 (aY (v67)),pB false,pB (decide (d3.below 3=0)),lW v55 0]) ?_;exact gE 2
def BV(fu:Nat)(pc:DS):Option (aN×DS):=bd (l7 fu f6) fun x2=>bd (eK fu cA ([x2]:List aA)) fun x4=>lt (pc.after 10) fun d5=>sw (decide ((pc.below 10:Int)=0)) (lt (d5.after ([f6,CX]:LB).length) fun d8=>lt (d5.pick ([f6,CX]:LB)) fun y10=>gd ((([f6]:LB)).length+(([y10]:LB)).length≤68719476736) (some ((aN.mk cA (([f6]:LB)++([y10]:LB)) ([(aD.mk f8 []),(aD.mk cH ([x2,x4]:List aA))]:List aD)),d8))) (sw (decide ((pc.below 10:Int)=1)) (lt (d5.after 2) fun d14=>gd ((0:Int)≤0∧(0:Int)≤(d5.below 2:Int)∧(d5.below 2:Int)≤((([(aD.mk f8 []),(aD.mk cH ([x2,x4]:List aA))]:List aD).length:Nat):Int)) (some ((aN.mk cA ([f6]:LB) (List.drop (0:Int).toNat (List.take (d5.below 2:Int).toNat ([(aD.mk f8 []),(aD.mk cH ([x2,x4]:List aA))]:List aD)))),d14))) (sw (decide ((pc.below 10:Int)=2)) (bd (qL fu d5 2) fun(x19,x20)=>some ((aN.mk cA ([f6]:LB) ([(aD.mk f8 ([x19]:List aA)),(aD.mk cH ([x2,x4]:List aA))]:List aD)),x20)) (sw (decide ((pc.below 10:Int)=3)) (lt (d5.after ([cH,s_,WW]:LB).length) fun d22=>lt (d5.pick ([cH,s_,WW]:LB)) fun y24=>some ((aN.mk cA ([f6]:LB) ([(aD.mk y24 []),(aD.mk cH ([x2,x4]:List aA))]:List aD)),d22)) (some ((aN.mk cA ([f6]:LB) ([(aD.mk f8 []),(aD.mk cH ([x2,x4]:List aA))]:List aD)),d5)))))
theorem agU(fu:Nat)(pc:DS)(r:aN×DS)(H:BV fu pc=some r):b6 Tryz.prog 164 [.ptr 0 0] ⟨[some ⟨133,dC pc⟩],[]⟩ (fun q t=>q=((aN.pv r.1))∧t=⟨[some ⟨133,dC r.2⟩],[]⟩):=by
 refine qJ func164 H (fun C hC H=>?_)
 refine gQ 6 ?_;refine q1 (vU ([f6]:LB)) (q1 r9 (bK H fun x2 z1 H=>?_))
 iterate 2 refine q1 (bE func137 (kF (jJ fu) f6 _ z1)) ?_
 refine q1 (vU ([x2]:List aA)) (bK H fun x4 z3 H=>(q1 (bE func47 (lS (fA fu) cA ([x2]:List aA) _ z3)) (q1 (vU ([x2,x4]:List aA)) (q1 r9 (q1 (bB.buildSliceB (cs:= [pS f8,.nil,pS cH,.lit 3 (aA.trs (([x2,x4]:List aA)))]) rfl rfl apI.h awK.h rfl rfl rfl (by decide) rfl (by decide)) ?_)))))
 refine gQ 8 ?_;refine fV H fun d5 h6 H=>(q1 (eW [0] [] func73 (DT h6 (eY pc 10))) ?_)
 refine gQ 7 ?_;refine bC H (fun h7 H=>?_) (fun h7 H=>?_)
 ·refine fV H fun d8 h9 H=>(fV H fun y10 h11 H=>(cF H fun z12 H=>(dW (dI [3] bW (dB [18] 0 1 uP (dI [0] bF (dI [] (vU ([f6,CX]:LB)) (dE [20,21] (eW [0] [] func48 (OM h9 h11 (fZ d5 ([f6,CX]:LB) (by decide)))) (dI [22] (vU ([y10]:LB)) ?_)))))))))
  refine dI [19,23] (bB.appendLit (es1:=aY (([f6]:LB))) (es2:=aY (([y10]:LB))) (es3:=aY (([f6]:LB)++([y10]:LB))) rfl rfl rfl rfl rfl (r8 _) (r8 _) (by exact List.cons_ne_nil _ _) (by decide) aiC.h aqE.h (by decide) (by rw [bV,bV];exact CO z12 (by decide)) (xG _ _)) ?_;refine dI [3] bW (lB [25,24] kG (dN ?_))
  refine gQ 2 ?_;refine AL.weak (Wk.freezeE (k:=2) (sz:=2) (es:= [aD.cs (aD.mk f8 []),aD.cs (aD.mk cH ([x2,x4]:List aA))]) (es':=aD.trs (([(aD.mk f8 []),(aD.mk cH ([x2,x4]:List aA))]:List aD))) (s':=⟨[(0,.ptr 0 0),(2,.ptr 1 0),(3,.ptr 3 0),(15,pN (pc.below 10))],⟨[some ⟨133,dC d8⟩,some ⟨39,[pS s_,.nil,.nil]⟩,none,some ⟨39,[pS cA,rS (([f6]:LB)++([y10]:LB)),dF ([(aD.mk f8 []),(aD.mk cH ([x2,x4]:List aA))]:List aD)]⟩],[]⟩⟩) (by simp [aD.trs_map,aD.tr_cs]) rfl jK (by simp [aD.cs]) (Nat.le_of_ble_eq_true rfl) ⟨⟨rfl,eC,rfl⟩,⟨⟨rfl,eC,rfl⟩,⟨⟨rfl,eC,rfl⟩,trivial⟩⟩⟩ rfl rfl (eP hC (lF rfl) (Nat.le_of_ble_eq_true rfl)) (by repeat' first|exact trivial|refine⟨⟨_,rfl,eC,rfl⟩,?_⟩)) ?_;refine q1 (bZ [pS cA,rS (([f6]:LB)++([y10]:LB)),dF ([(aD.mk f8 []),(aD.mk cH ([x2,x4]:List aA))]:List aD)]) ?_;exact gE 2
 refine gQ 5 ?_;refine bC H (fun h13 H=>?_) (fun h13 H=>?_)
 ·refine fV H fun d14 h15 H=>?_;refine cV.wk (Wk.freezeE (k:=2) (sz:=2) (es:= [aD.cs (aD.mk f8 []),aD.cs (aD.mk cH ([x2,x4]:List aA))]) (es':=aD.trs (([(aD.mk f8 []),(aD.mk cH ([x2,x4]:List aA))]:List aD))) (s':=⟨[(0,.ptr 0 0),(2,.ptr 1 0),(3,.ptr 3 0),(4,.lit 1 (aY (([f6]:LB)))),(5,.agg [pS f8,.nil]),(6,(aA.pv x2)),(7,(aA.pv x2)),(8,.lit 3 (aA.trs (([x2]:List aA)))),(9,(aA.pv x4)),(10,.lit 3 (aA.trs (([x2,x4]:List aA)))),(11,.agg [pS cH,.lit 3 (aA.trs (([x2,x4]:List aA)))]),(12,dF ([(aD.mk f8 []),(aD.mk cH ([x2,x4]:List aA))]:List aD)),(13,.agg [pS cA,.lit 1 (aY (([f6]:LB))),dF ([(aD.mk f8 []),(aD.mk cH ([x2,x4]:List aA))]:List aD)]),(14,.ptr 0 0),(15,pN (pc.below 10)),(16,pB (decide ((pc.below 10:Int)=0))),(17,pB (decide ((pc.below 10:Int)=0))),(26,pB (decide ((pc.below 10:Int)=1))),(27,pB (decide ((pc.below 10:Int)=1)))],⟨[some ⟨133,dC d5⟩,some ⟨39,[pS s_,.nil,.nil]⟩,none,some ⟨39,[pS cA,.lit 1 (aY (([f6]:LB))),dF ([(aD.mk f8 []),(aD.mk cH ([x2,x4]:List aA))]:List aD)]⟩],[]⟩⟩) (by simp [aD.trs_map,aD.tr_cs]) rfl jK (by simp [aD.cs]) (Nat.le_of_ble_eq_true rfl) ⟨⟨rfl,eC,rfl⟩,⟨⟨rfl,eC,rfl⟩,⟨⟨rfl,eC,rfl⟩,trivial⟩⟩⟩ rfl rfl (eP hC (lF rfl) (Nat.le_of_ble_eq_true rfl)) (by repeat' first|exact trivial|refine⟨⟨_,rfl,eC,rfl⟩,?_⟩)) ?_;refine cF H fun z16 H=>(dW (dI [3] bW (dB [28] 0 1 uP (dI [0] bF (dE [30] (eW [0] [] func73 (DT h15 (eY d5 2))) ?_)))))
  refine dI [29,31] (bB.congrP (bB.sliceR (es:=aD.trs (([(aD.mk f8 []),(aD.mk cH ([x2,x4]:List aA))]:List aD))) (l:=0) (k:=(d5.below 2:Int)) rfl rfl rfl rfl rfl (by rw [aD.trs_len];exact rfl) (by rw [aD.trs_len];exact z16) apI.h) (aD.trs_part _ _ _)) ?_;refine dI [3] bW (lB [33,32] kG (dN ?_))
  refine gQ 2 ?_;refine q1 (bZ [pS cA,.lit 1 (aY (([f6]:LB))),dF (List.drop (0:Int).toNat (List.take (d5.below 2:Int).toNat ([(aD.mk f8 []),(aD.mk cH ([x2,x4]:List aA))]:List aD)))]) ?_;exact gE 2
 refine gQ 5 ?_;refine bC H (fun h17 H=>?_) (fun h17 H=>?_)
 ·refine dU H fun x19 x20 z18 H=>(dW (dI [3] bW (dB [36] 0 1 uP (dI [0] bF (dE [38] (eW [0] [] func132 (B4 (wZ fu) d5 2 _ z18)) (dI [39] (vU ([x19]:List aA)) (dI [37] (bB.indexB (sz:=2) (k:=2) (N:=2) (i:=0) rfl rfl rfl rfl (by decide) apI.h) (dI [41] bW (lB [42,40] kG (dN ?_))))))))))
  refine gQ 2 ?_;refine AL.weak (Wk.freezeE (k:=2) (sz:=2) (es:= [aD.cs (aD.mk f8 ([x19]:List aA)),aD.cs (aD.mk cH ([x2,x4]:List aA))]) (es':=aD.trs (([(aD.mk f8 ([x19]:List aA)),(aD.mk cH ([x2,x4]:List aA))]:List aD))) (s':=⟨[(0,.ptr 0 0),(2,.ptr 1 0),(3,.ptr 3 0),(15,pN (pc.below 10))],⟨[some ⟨133,dC x20⟩,some ⟨39,[pS s_,.nil,.nil]⟩,none,some ⟨39,[pS cA,.lit 1 (aY (([f6]:LB))),dF ([(aD.mk f8 ([x19]:List aA)),(aD.mk cH ([x2,x4]:List aA))]:List aD)]⟩],[]⟩⟩) (by simp [aD.trs_map,aD.tr_cs]) rfl jK (by simp [aD.cs]) (Nat.le_of_ble_eq_true rfl) ⟨⟨rfl,eC,rfl⟩,⟨⟨rfl,eC,rfl⟩,⟨⟨rfl,eC,rfl⟩,trivial⟩⟩⟩ rfl rfl (eP hC (lF rfl) (Nat.le_of_ble_eq_true rfl)) (by repeat' first|exact trivial|refine⟨⟨_,rfl,eC,rfl⟩,?_⟩)) ?_;refine q1 (bZ [pS cA,.lit 1 (aY (([f6]:LB))),dF ([(aD.mk f8 ([x19]:List aA)),(aD.mk cH ([x2,x4]:List aA))]:List aD)]) ?_;exact gE 2
 refine gQ 5 ?_;refine bC H (fun h21 H=>?_) (fun h21 H=>?_)
 ·refine fV H fun d22 h23 H=>(fV H fun y24 h25 H=>(dW (dI [3] bW (dB [45] 0 1 uP (dI [0] bF (dI [] (vU ([cH,s_,WW]:LB)) (dE [47,48] (eW [0] [] func48 (OM h23 h25 (fZ d5 ([cH,s_,WW]:LB) (by decide)))) (dI [46] (bB.indexB (sz:=2) (k:=2) (N:=2) (i:=0) rfl rfl rfl rfl (by decide) apI.h) (dI [50] bW (lB [51,49] kG (dN ?_)))))))))))
  refine gQ 2 ?_;refine AL.weak (Wk.freezeE (k:=2) (sz:=2) (es:= [aD.cs (aD.mk y24 []),aD.cs (aD.mk cH ([x2,x4]:List aA))]) (es':=aD.trs (([(aD.mk y24 []),(aD.mk cH ([x2,x4]:List aA))]:List aD))) (s':=⟨[(0,.ptr 0 0),(2,.ptr 1 0),(3,.ptr 3 0),(15,pN (pc.below 10))],⟨[some ⟨133,dC d22⟩,some ⟨39,[pS s_,.nil,.nil]⟩,none,some ⟨39,[pS cA,.lit 1 (aY (([f6]:LB))),dF ([(aD.mk y24 []),(aD.mk cH ([x2,x4]:List aA))]:List aD)]⟩],[]⟩⟩) (by simp [aD.trs_map,aD.tr_cs]) rfl jK (by simp [aD.cs]) (Nat.le_of_ble_eq_true rfl) ⟨⟨rfl,eC,rfl⟩,⟨⟨rfl,eC,rfl⟩,⟨⟨rfl,eC,rfl⟩,trivial⟩⟩⟩ rfl rfl (eP hC (lF rfl) (Nat.le_of_ble_eq_true rfl)) (by repeat' first|exact trivial|refine⟨⟨_,rfl,eC,rfl⟩,?_⟩)) ?_;refine q1 (bZ [pS cA,.lit 1 (aY (([f6]:LB))),dF ([(aD.mk y24 []),(aD.mk cH ([x2,x4]:List aA))]:List aD)]) ?_;exact gE 2
 refine gQ 3 ?_;refine AL.weak (Wk.freezeE (k:=2) (sz:=2) (es:= [aD.cs (aD.mk f8 []),aD.cs (aD.mk cH ([x2,x4]:List aA))]) (es':=aD.trs (([(aD.mk f8 []),(aD.mk cH ([x2,x4]:List aA))]:List aD))) (s':=⟨[(0,.ptr 0 0),(2,.ptr 1 0),(3,.ptr 3 0),(15,pN (pc.below 10))],⟨[some ⟨133,dC d5⟩,some ⟨39,[pS s_,.nil,.nil]⟩,none,some ⟨39,[pS cA,.lit 1 (aY (([f6]:LB))),dF ([(aD.mk f8 []),(aD.mk cH ([x2,x4]:List aA))]:List aD)]⟩],[]⟩⟩) (by simp [aD.trs_map,aD.tr_cs]) rfl jK (by simp [aD.cs]) (Nat.le_of_ble_eq_true rfl) ⟨⟨rfl,eC,rfl⟩,⟨⟨rfl,eC,rfl⟩,⟨⟨rfl,eC,rfl⟩,trivial⟩⟩⟩ rfl rfl (eP hC (lF rfl) (Nat.le_of_ble_eq_true rfl)) (by repeat' first|exact trivial|refine⟨⟨_,rfl,eC,rfl⟩,?_⟩)) ?_;refine q1 (bZ [pS cA,.lit 1 (aY (([f6]:LB))),dF ([(aD.mk f8 []),(aD.mk cH ([x2,x4]:List aA))]:List aD)]) ?_;exact gE 2
end
end Go.Proofs.YtfcoaagbccmahaaGreat.W

namespace Go.Proofs.YtfcoaagbccmahaaGreat.W
set_option maxRecDepth 100000
set_option maxHeartbeats 40000000
noncomputable section
open Tryz Go.RowKit Go.Proofs
attribute [local irreducible] lt
def W3(fu:Nat)(p0 d1:DS):Nat→((List aU)×(List aN)×(List aI)×(List aO)×DS)→Option (LR ((List aU)×(List aN)×(List aI)×(List aO)×DS) (aM×DS)):=fun i3 (v9,v10,v11,v12,v4)=>lt (v4.after 4) fun d15=>sw (decide ((v4.below 4:Int)=0)) (bd (IS fu d15) fun(x19,x20)=>gd ((v9).length+(([x19]:List aU)).length≤68719476736) (some (.next ((v9++([x19]:List aU)),v10,v11,v12,x20)))) (sw (decide ((v4.below 4:Int)=1)) (bd (BV fu d15) fun(x24,x25)=>gd ((v10).length+(([x24]:List aN)).length≤68719476736) (some (.next (v9,(v10++([x24]:List aN)),v11,v12,x25)))) (sw (decide ((v4.below 4:Int)=2)) (bd (BW fu d15) fun(x29,x30)=>gd ((v11).length+(([x29]:List aI)).length≤68719476736) (some (.next (v9,v10,(v11++([x29]:List aI)),v12,x30)))) (bd (W1 fu d15) fun(x33,x34)=>gd ((v12).length+(([x33]:List aO)).length≤68719476736) (some (.next (v9,v10,v11,(v12++([x33]:List aO)),x34))))))
def EZ(fu:Nat)(p0:DS):Option (aM×DS):=lt (p0.after 5) fun d1=>so (loopN (W3 fu p0 d1) (p0.below 5-0) 0 (([]),([]),([]),([]),d1)) fun(v9,v10,v11,v12,v4)=>lt (v4.after 10) fun d36=>sw (decide ((v4.below 10:Int)=0)) (lt (d36.after ([s_,gH]:LB).length) fun d39=>lt (d36.pick ([s_,gH]:LB)) fun y41=>some ((aM.mk y41 ([gH]:LB) v9 v10 v11 v12),d39)) (sw (decide ((v4.below 10:Int)=1)) (lt (d36.after ([gH,s_q,s_p]:LB).length) fun d44=>lt (d36.pick ([gH,s_q,s_p]:LB)) fun y46=>gd ((([gH]:LB)).length+(([y46]:LB)).length≤68719476736) (some ((aM.mk s_p (([gH]:LB)++([y46]:LB)) v9 v10 v11 v12),d44))) (some ((aM.mk s_p ([gH]:LB) v9 v10 v11 v12),d36)))
theorem ajM(fu:Nat)(p0:DS)(r:aM×DS)(H:EZ fu p0=some r):b6 Tryz.prog 127 [.ptr 0 0] ⟨[some ⟨133,dC p0⟩],[]⟩ (fun q t=>q=((aM.pv r.1))∧t=⟨[some ⟨133,dC r.2⟩],[]⟩):=by
 refine qJ func127 H (fun C hC H=>?_)
 refine gQ 6 ?_;refine q1 (vU ([gH]:LB)) ?_;refine gQ 7 ?_;refine fV H fun d1 h2 H=>(q1 (eW [0] [] func73 (DT h2 (eY p0 5))) ?_)
 refine gQ 7 ?_;refine cV.wk (Wk.regBox (k:=2) (j:=2) 156 5 (by decide) rfl rfl) (cV.wk (Wk.regBox (k:=2) (j:=3) 39 3 (by decide) rfl rfl) (cV.wk (Wk.regBox (k:=2) (j:=4) 163 12 (by decide) rfl rfl) (cV.wk (Wk.regBox (k:=2) (j:=5) 213 16 (by decide) rfl rfl) ?_)))
 have hb13:=DS.below_lt (d:=p0) (n:=5) (by decide)
 refine bS (σ:=(List aU)×(List aN)×(List aI)×(List aO)×DS) (fun i3 (v9,v10,v11,v12,v4)=>⟨[(0,.ptr 0 0),(2,.ptr 1 0),(3,.ptr 2 0),(4,pN (p0.below 5)),(5,pN i3)],⟨[some ⟨133,dC v4⟩,some ⟨141,[pS s_,.nil,.nil,.nil,.nil,.nil]⟩,some ⟨141,[pS s_p,.lit 1 (aY (([gH]:LB))),A4 v9 0,nJ v10 1,nL v11 2,nK v12 3]⟩],[⟨156,5,aU.trs (v9),false⟩,⟨39,3,aN.trs (v10),false⟩,⟨163,12,aI.trs (v11),false⟩,⟨213,16,aO.trs (v12),false⟩]⟩⟩) (fun(v9,v10,v11,v12,v4)=>⟨[(0,.ptr 0 0),(2,.ptr 1 0),(3,.ptr 2 0)],⟨[some ⟨133,dC v4⟩,some ⟨141,[pS s_,.nil,.nil,.nil,.nil,.nil]⟩,some ⟨141,[pS s_p,.lit 1 (aY (([gH]:LB))),A4 v9 0,nJ v10 1,nL v11 2,nK v12 3]⟩],[⟨156,5,aU.trs (v9),false⟩,⟨39,3,aN.trs (v10),false⟩,⟨163,12,aI.trs (v11),false⟩,⟨213,16,aO.trs (v12),false⟩]⟩⟩) (eM H) ?_ ?_
 ·rintro i3 ⟨v9,v10,v11,v12,v4⟩ H
  refine gQ 7 ?_;refine cS H (fun h14 h14l H=>?_) (fun h14 H=>?_)
  ·have h14n:i3<p0.below 5:=by have:=of_decide_eq_true h14;omega
   refine gQ 6 ?_;refine fV H fun d15 h16 H=>(q1 (eW [0] [] func73 (DT h16 (eY v4 4))) ?_)
   refine gQ 7 ?_;refine bC H (fun h17 H=>?_) (fun h17 H=>?_)
   ·refine dU H fun x19 x20 z18 H=>(cF H fun z21 H=>(dW (dI [3] bW (dB [26] 0 1 uP (dI [0] bF (dE [28] (eW [0] [] func163 (ac1 fu d15 _ z18)) (dI [29] (vU ([x19]:List aU)) (dE [27,30] (lE z21) (dI [3] bW (lB [32,31] kG (dN ?_)))))))))))
    exact gE 5
   refine gQ 5 ?_;refine bC H (fun h22 H=>?_) (fun h22 H=>?_)
   ·refine dU H fun x24 x25 z23 H=>(cF H fun z26 H=>(dW (dI [3] bW (dB [35] 0 1 uP (dI [0] bF (dE [37] (eW [0] [] func164 (agU fu d15 _ z23)) (dI [38] (vU ([x24]:List aN)) (dE [36,39] (lE z26) (dI [3] bW (lB [41,40] kG (dN ?_)))))))))))
    exact gE 5
   refine gQ 5 ?_;refine bC H (fun h27 H=>?_) (fun h27 H=>?_)
   ·refine dU H fun x29 x30 z28 H=>(cF H fun z31 H=>(dW (dI [3] bW (dB [44] 0 1 uP (dI [0] bF (dE [46] (eW [0] [] func165 (agV fu d15 _ z28)) (dI [47] (vU ([x29]:List aI)) (dE [45,48] (lE z31) (dI [3] bW (lB [50,49] kG (dN ?_)))))))))))
    exact gE 5
   refine dU H fun x33 x34 z32 H=>(cF H fun z35 H=>(dW (dI [3] bW (dB [17] 0 1 uP (dI [0] bF (dE [19] (eW [0] [] func166 (amX fu d15 _ z32)) (dI [20] (vU ([x33]:List aO)) (dE [18,21] (lE z35) (dI [3] bW (lB [23,22] kG (dN ?_)))))))))))
   exact gE 5
  exact gE 0
 rintro⟨v9,v10,v11,v12,v4⟩ H
 refine gQ 4 ?_;refine fV H fun d36 h37 H=>(q1 (eW [0] [] func73 (DT h37 (eY v4 10))) ?_)
 refine gQ 7 ?_;refine bC H (fun h38 H=>?_) (fun h38 H=>?_)
 ·refine gQ 2 ?_;refine q1 (vU ([s_,gH]:LB)) (fV H fun d39 h40 H=>(fV H fun y41 h42 H=>(q1 (eW [0] [] func48 (OM h40 h42 (fZ d36 ([s_,gH]:LB) (by decide)))) ?_)))
  refine gQ 5 ?_;refine q1 (bZ [pS y41,.lit 1 (aY (([gH]:LB))),A4 v9 0,nJ v10 1,nL v11 2,nK v12 3]) ?_;exact gE 2
 refine gQ 5 ?_;refine bC H (fun h43 H=>?_) (fun h43 H=>?_)
 ·refine fV H fun d44 h45 H=>(fV H fun y46 h47 H=>(cF H fun z48 H=>(dW (dI [3] bW (dB [61] 0 1 uP (dI [0] bF (dI [] (vU ([gH,s_q,s_p]:LB)) (dE [63,64] (eW [0] [] func48 (OM h45 h47 (fZ d36 ([gH,s_q,s_p]:LB) (by decide)))) (dI [65] (vU ([y46]:LB)) ?_)))))))))
  refine dI [62,66] (bB.appendLit (es1:=aY (([gH]:LB))) (es2:=aY (([y46]:LB))) (es3:=aY (([gH]:LB)++([y46]:LB))) rfl rfl rfl rfl rfl (r8 _) (r8 _) (by exact List.cons_ne_nil _ _) (by decide) aiC.h aqE.h (by decide) (by rw [bV,bV];exact CO z48 (by decide)) (xG _ _)) ?_;refine dI [3] bW (lB [68,67] kG (dN ?_))
  refine gQ 2 ?_;refine q1 (bZ [pS s_p,rS (([gH]:LB)++([y46]:LB)),A4 v9 0,nJ v10 1,nL v11 2,nK v12 3]) ?_;exact gE 2
 refine gQ 3 ?_;refine q1 (bZ [pS s_p,.lit 1 (aY (([gH]:LB))),A4 v9 0,nJ v10 1,nL v11 2,nK v12 3]) ?_;exact gE 2
def yC(fu:Nat)(pc:DS):Option (aF×DS):=bd (GA fu pc) fun(x2,x3)=>lt (x3.after 5) fun d4=>sw (decide (x3.below 5=0)) (bd (EZ fu d4) fun(x8,x9)=>gd ((x2.aB8).length+(([x8]:List aM)).length≤68719476736) (some ((aF.mk (x2.aB8++([x8]:List aM))),x9))) (some ((aF.mk x2.aB8),d4))
theorem adC(fu:Nat)(pc:DS)(r:aF×DS)(H:yC fu pc=some r):b6 Tryz.prog 69 [.ptr 0 0] ⟨[some ⟨133,dC pc⟩],[]⟩ (fun q t=>q=((aF.pv r.1))∧t=⟨[some ⟨133,dC r.2⟩],[]⟩):=by
 refine qJ func69 H (fun C hC H=>?_)
 refine gQ 7 ?_;refine dU H fun x2 x3 z1 H=>(q1 (bB.callOwn (pre:=⟨[some ⟨133,dC pc⟩],[]⟩) (B:= [some ⟨133,dC x3⟩]) (R:=fun k=> .agg [tC x2.aB8 k]) (ps:= [_]) (qs:= [.ptr 0 0]) [0] rfl rfl func126 (by kernel_rfl) rfl rfl rfl (eV.of ⟨⟨_,rfl,rfl,jK,rfl⟩,trivial⟩ trivial (by decide) (by decide)) rfl jK rfl rfl rfl (fun k k'=>(.agg (.cons Mv.acc E8.nil))) (agZ fu pc _ z1)) ?_)
 refine gQ 7 ?_;refine fV H fun d4 h5 H=>(q1 (eW [0] [] func45 (DT h5 (mT x3 5))) (qN ?_))
 refine bC H (fun h6 H=>?_) (fun h6 H=>?_)
 ·refine dU H fun x8 x9 z7 H=>(cF H fun z10 H=>(dW (dI [3] bW (dB [8] 0 1 uP (dI [0] bF (dE [10] (eW [0] [] func127 (ajM fu d4 _ z7)) (dI [11] (hH ([x8]:List aM)) (dE [9,12] (lE z10) (dI [3] bW (lB [14,13] kG (dN ?_)))))))))))
  refine gQ 2 ?_;refine q1 (bZ [tC (x2.aB8++([x8]:List aM)) 0]) ?_;exact gE 2
 refine gQ 3 ?_;refine q1 (bZ [tC x2.aB8 0]) ?_;exact gE 2
end
end Go.Proofs.YtfcoaagbccmahaaGreat.W

namespace Go.Proofs.YtfcoaagbccmahaaGreat.W
set_option maxRecDepth 100000
set_option maxHeartbeats 40000000
noncomputable section
open Tryz Go.RowKit Go.Proofs
attribute [local irreducible] lt
def sM(fu:Nat)(pw:aF)(i1:Nat)(v3:List aC):((List aC)×Int)→Option (LR ((List aC)×Int) (LR ((List aC)) ((List aC)))):=fun(v8,v7)=>lt (aR pw.aB8 i1) fun y11=>sw (decide (v7<(y11.aCk.length:Int))) (gd ((v8).length+(([(aC.mk (i1:Int) v7)]:List aC)).length≤68719476736) (some (.next ((v8++([(aC.mk (i1:Int) v7)]:List aC)),(aX (v7+1)))))) (some (.brk (v8,v7)))
def wP(fu:Nat)(pw:aF):Nat→((List aC))→Option (LR ((List aC)) ((List aC))):=fun i1 v3=>so (loopW (sM fu pw i1 v3) fu (v3,0)) fun(v8,v7)=>some (.next v8)
def tO(fu:Nat)(pw:aF):Option ((List aC)):=so (loopN (wP fu pw) (pw.aB8.length-0) 0 ([])) fun v3=>some v3
theorem Q4(fu:Nat)(pw:aF)(r:(List aC))(H:tO fu pw=some r):bQ Tryz.prog 209 [(aF.pv pw)] (cX r):=by
 refine qJ func209 H (fun C hC H=>?_)
 refine gQ 2 ?_;refine q1 (fD ([aP pw.aB8])) ?_;refine gQ 4 ?_;refine q1 (qP ([]:List aC)) ?_;refine gQ 7 ?_;refine cV.fact (cI 0 0 rfl rfl rfl (aM.trs_len _)) (fun hl4=>?_)
 refine bS (σ:=(List aC)) (fun i1 v3=>⟨[(1,.ptr 0 0),(2,.nil),(3,fW v3 0),(4,pN i1)],⟨[some ⟨26,[aP pw.aB8]⟩],[⟨52,2,aC.trs (v3),false⟩]⟩⟩) (fun v3=>⟨[(2,.nil),(3,fW v3 0)],⟨[some ⟨26,[aP pw.aB8]⟩],[⟨52,2,aC.trs (v3),false⟩]⟩⟩) (eM H) ?_ ?_
 ·rintro i1 v3 H
  refine gQ 9 ?_;refine cS H (fun h5 h5l H=>?_) (fun h5 H=>?_)
  ·refine gQ 7 ?_;refine gP 3 (aC.trs_len _) (fun hl10=>?_)
   refine SN (σ:=(List aC)×Int) (fun(v8,v7)=>⟨[(1,.ptr 0 0),(2,.nil),(3,fW v8 0),(4,pN i1),(5,pI v7),(7,pN i1),(8,.ptr 0 0),(9,aP pw.aB8),(10,pN pw.aB8.length),(11,pB (decide ((i1:Int)<(pw.aB8.length:Int))))],⟨[some ⟨26,[aP pw.aB8]⟩],[⟨52,2,aC.trs (v8),false⟩]⟩⟩) (fun(v8,v7)=>⟨[(1,.ptr 0 0),(2,.nil),(3,fW v8 0),(4,pN i1),(5,pI v7),(7,pN i1),(8,.ptr 0 0),(9,aP pw.aB8),(10,pN pw.aB8.length),(11,pB (decide ((i1:Int)<(pw.aB8.length:Int))))],⟨[some ⟨26,[aP pw.aB8]⟩],[⟨52,2,aC.trs (v8),false⟩]⟩⟩) (eM H) ?_ ?_
   ·rintro k9 ⟨v8,v7⟩ H
    refine gQ 7 ?_;refine fV H fun y11 h12 H=>(q1 (yK h12 h5l) ?_)
    refine gQ 2 ?_;refine YM 20 (aI.trs_len _) (fun hl13=>?_)
    refine gQ 3 ?_;refine bC H (fun h14 H=>?_) (fun h14 H=>?_)
    ·refine gQ 8 ?_;refine q1 (hH ([(aC.mk (i1:Int) v7)]:List aC)) (cF H fun z15 H=>(q1 (lE z15) ?_))
     exact gE 7
    exact gE 0
   rintro⟨v8,v7⟩ H
   exact gE 5
  exact gE 0
 rintro v3 H
 exact gE 5
def EG(fu:Nat)(pw:aF)(i1:Nat)(v3:List aC)(y6:aM):Nat→((List aC))→Option (LR ((List aC)) (LR ((List aC)) ((List aC)))):=fun i9 v11=>gd ((v11).length+(([(aC.mk (i1:Int) (i9:Int))]:List aC)).length≤68719476736) (some (.next (v11++([(aC.mk (i1:Int) (i9:Int))]:List aC))))
def vZ(fu:Nat)(pw:aF):Nat→((List aC))→Option (LR ((List aC)) ((List aC))):=fun i1 v3=>lt (aR pw.aB8 i1) fun y6=>so (loopN (EG fu pw i1 v3 y6) (y6.aCk.length-0) 0 v3) fun v11=>some (.next v11)
def tM(fu:Nat)(pw:aF):Option ((List aC)):=so (loopN (vZ fu pw) (pw.aB8.length-0) 0 ([])) fun v3=>some v3
theorem al0(fu:Nat)(pw:aF)(r:(List aC))(H:tM fu pw=some r):bQ Tryz.prog 180 [(aF.pv pw)] (cX r):=by
 refine qJ func180 H (fun C hC H=>?_)
 refine gQ 2 ?_;refine q1 (fD ([aP pw.aB8])) ?_;refine gQ 4 ?_;refine q1 (qP ([]:List aC)) ?_;refine gQ 10 ?_;refine gP 9 (aM.trs_len _) (fun hl4=>?_)
 refine bS (σ:=(List aC)) (fun i1 v3=>⟨[(2,.nil),(3,fW v3 0),(9,aP pw.aB8),(10,pN pw.aB8.length),(11,pN i1)],⟨[some ⟨26,[aP pw.aB8]⟩],[⟨52,2,aC.trs (v3),false⟩]⟩⟩) (fun v3=>⟨[(2,.nil),(3,fW v3 0)],⟨[some ⟨26,[aP pw.aB8]⟩],[⟨52,2,aC.trs (v3),false⟩]⟩⟩) (eM H) ?_ ?_
 ·rintro i1 v3 H
  refine gQ 5 ?_;refine cS H (fun h5 h5l H=>?_) (fun h5 H=>?_)
  ·refine gQ 6 ?_;refine fV H fun y6 h7 H=>(q1 (yK h7 h5l) (q1 (iK (aM.cs y6)) ?_))
   refine gQ 8 ?_;refine YM 17 (aI.trs_len _) (fun hl8=>?_)
   refine gQ 3 ?_;refine bS (σ:=(List aC)) (fun i9 v11=>⟨[(2,.nil),(3,fW v11 0),(4,pN i1),(5,.ptr 1 0),(9,aP pw.aB8),(10,pN pw.aB8.length),(11,pN i1),(12,pB (decide ((i1:Int)<(pw.aB8.length:Int)))),(13,pN i1),(14,.eptr (aM.cs y6)),(15,(aM.pv y6)),(16,.ptr 1 4),(17,nS y6.aCk),(18,pN y6.aCk.length),(19,pN i9)],⟨[some ⟨26,[aP pw.aB8]⟩,some ⟨141,eZ y6⟩],[⟨52,2,aC.trs (v11),false⟩]⟩⟩) (fun v11=>⟨[(2,.nil),(3,fW v11 0),(4,pN i1),(5,.ptr 1 0),(9,aP pw.aB8),(10,pN pw.aB8.length),(11,pN i1),(12,pB (decide ((i1:Int)<(pw.aB8.length:Int)))),(13,pN i1),(14,.eptr (aM.cs y6)),(15,(aM.pv y6)),(16,.ptr 1 4),(17,nS y6.aCk),(18,pN y6.aCk.length)],⟨[some ⟨26,[aP pw.aB8]⟩,some ⟨141,eZ y6⟩],[⟨52,2,aC.trs (v11),false⟩]⟩⟩) (eM H) ?_ ?_
   ·rintro i9 v11 H
    refine gQ 5 ?_;refine cS H (fun h12 h12l H=>?_) (fun h12 H=>?_)
    ·refine gQ 13 ?_;refine q1 (hH ([(aC.mk (i1:Int) (i9:Int))]:List aC)) (cF H fun z13 H=>(q1 (lE z13) ?_))
     exact gE 6
    exact gE 0
   rintro v11 H
   exact gE 4
  exact gE 0
 rintro v3 H
 exact gE 5
theorem N5(fu:Nat)(pw:aF)(r:(List aC))(H:tM fu pw=some r):ao8 Tryz.prog 180 [(aF.pv pw)] 52 2 (aC.trs (r)) none:=by
 unfold ao8
 refine qJ func180 H (fun C hC H=>?_)
 refine gQ 2 ?_;refine q1 (fD ([aP pw.aB8])) ?_;refine gQ 4 ?_;refine q1 (qP ([]:List aC)) ?_;refine gQ 10 ?_;refine gP 9 (aM.trs_len _) (fun hl4=>?_)
 refine bS (σ:=(List aC)) (fun i1 v3=>⟨[(2,.nil),(3,fW v3 0),(9,aP pw.aB8),(10,pN pw.aB8.length),(11,pN i1)],⟨[some ⟨26,[aP pw.aB8]⟩],[⟨52,2,aC.trs (v3),false⟩]⟩⟩) (fun v3=>⟨[(2,.nil),(3,fW v3 0)],⟨[some ⟨26,[aP pw.aB8]⟩],[⟨52,2,aC.trs (v3),false⟩]⟩⟩) (eM H) ?_ ?_
 ·rintro i1 v3 H
  refine gQ 5 ?_;refine cS H (fun h5 h5l H=>?_) (fun h5 H=>?_)
  ·refine gQ 6 ?_;refine fV H fun y6 h7 H=>(q1 (yK h7 h5l) (q1 (iK (aM.cs y6)) ?_))
   refine gQ 8 ?_;refine YM 17 (aI.trs_len _) (fun hl8=>?_)
   refine gQ 3 ?_;refine bS (σ:=(List aC)) (fun i9 v11=>⟨[(2,.nil),(3,fW v11 0),(4,pN i1),(5,.ptr 1 0),(9,aP pw.aB8),(10,pN pw.aB8.length),(11,pN i1),(12,pB (decide ((i1:Int)<(pw.aB8.length:Int)))),(13,pN i1),(14,.eptr (aM.cs y6)),(15,(aM.pv y6)),(16,.ptr 1 4),(17,nS y6.aCk),(18,pN y6.aCk.length),(19,pN i9)],⟨[some ⟨26,[aP pw.aB8]⟩,some ⟨141,eZ y6⟩],[⟨52,2,aC.trs (v11),false⟩]⟩⟩) (fun v11=>⟨[(2,.nil),(3,fW v11 0),(4,pN i1),(5,.ptr 1 0),(9,aP pw.aB8),(10,pN pw.aB8.length),(11,pN i1),(12,pB (decide ((i1:Int)<(pw.aB8.length:Int)))),(13,pN i1),(14,.eptr (aM.cs y6)),(15,(aM.pv y6)),(16,.ptr 1 4),(17,nS y6.aCk),(18,pN y6.aCk.length)],⟨[some ⟨26,[aP pw.aB8]⟩,some ⟨141,eZ y6⟩],[⟨52,2,aC.trs (v11),false⟩]⟩⟩) (eM H) ?_ ?_
   ·rintro i9 v11 H
    refine gQ 5 ?_;refine cS H (fun h12 h12l H=>?_) (fun h12 H=>?_)
    ·refine gQ 13 ?_;refine q1 (hH ([(aC.mk (i1:Int) (i9:Int))]:List aC)) (cF H fun z13 H=>(q1 (lE z13) ?_))
     exact gE 6
    exact gE 0
   rintro v11 H
   exact gE 4
  exact gE 0
 rintro v3 H
 refine gQ 5 ?_;refine cV.ret ?_
 obtain rfl:_=r:=(vP H:)
 exact B8.mk (ps:= [_]) (by first|exact .inr rfl|exact .inl rfl) ⟨rfl,trivial⟩ rfl (tB.mk' (st':=⟨[],[⟨52,2,aC.trs (v3),false⟩]⟩) trivial (by first|rfl|simp)) ⟨fun k x h=>by simp [hC] at h,fun r row h=>by simp [hC] at h⟩ (q:= .acc 2 (aC.trs (v3)) 0) jK rfl ⟨0,rfl,rfl⟩
def aiN(fu:Nat)(p1:List UInt8):Option Bool:=some (decide ((p1.length:Int)>1048576))
theorem apP(fu:Nat)(p1:List UInt8)(r:Bool)(H:aiN fu p1=some r):bQ Tryz.prog 9 [rU p1] (pB r):=by
 refine qJ func9 H (fun C hC H=>?_)
 exact gE 11
def QI(fu:Nat)(pw:aF)(p0:ByteArray)(i1:Nat)(y4:aM):Nat→Unit→Option (LR Unit (LR Unit (aU×Int×Bool))):=fun i7 _=>sw (decide ((aR y4.aCo i7).aB9=p0)) (some (.ret (.ret ((aR y4.aCo i7),(i1:Int),true)))) (some (.next ()))
def QH(fu:Nat)(pw:aF)(p0:ByteArray):Nat→Unit→Option (LR Unit (aU×Int×Bool)):=fun i1 _=>lt (aR pw.aB8 i1) fun y4=>so (loopN (QI fu pw p0 i1 y4) (y4.aCo.length-0) 0 ()) fun _=>some (.next ())
def EM(fu:Nat)(pw:aF)(p0:ByteArray):Option (aU×Int×Bool):=so (loopN (QH fu pw p0) (pw.aB8.length-0) 0 ()) fun _=>some ((aU.mk s_ [] false false []),0,false)
theorem QJ(fu:Nat)(pw:aF)(p0:ByteArray)(r:aU×Int×Bool)(H:EM fu pw p0=some r):bQ Tryz.prog 115 [(aF.pv pw),pS p0] (.tup [(aU.pv r.1),pI r.2.1,pB r.2.2]):=by
 refine qJ func115 H (fun C hC H=>?_)
 refine gQ 2 ?_;refine q1 (fD ([aP pw.aB8])) ?_;refine gQ 12 ?_;refine gP 12 (aM.trs_len _) (fun hl2=>?_)
 refine bS (σ:=Unit) (fun i1 _=>⟨[(1,pS p0),(4,.ptr 1 0),(5,pI 0),(6,pB false),(12,aP pw.aB8),(13,pN pw.aB8.length),(14,pN i1)],⟨[some ⟨26,[aP pw.aB8]⟩,some ⟨156,[pS s_,.nil,pB false,pB false,.nil]⟩],[]⟩⟩) (fun _=>⟨[(4,.ptr 1 0),(5,pI 0),(6,pB false)],⟨[some ⟨26,[aP pw.aB8]⟩,some ⟨156,[pS s_,.nil,pB false,pB false,.nil]⟩],[]⟩⟩) (eM H) ?_ ?_
 ·rintro i1 ⟨⟩ H
  refine gQ 5 ?_;refine cS H (fun h3 h3l H=>?_) (fun h3 H=>?_)
  ·refine gQ 6 ?_;refine fV H fun y4 h5 H=>(q1 (yK h5 h3l) (q1 (iK (aM.cs y4)) ?_))
   refine gQ 8 ?_;refine YM 20 (aU.trs_len _) (fun hl6=>?_)
   refine gQ 3 ?_;refine bS (σ:=Unit) (fun i7 _=>⟨[(1,pS p0),(4,.ptr 1 0),(5,pI 0),(6,pB false),(7,pN i1),(8,.ptr 2 0),(12,aP pw.aB8),(13,pN pw.aB8.length),(14,pN i1),(15,pB (decide ((i1:Int)<(pw.aB8.length:Int)))),(16,pN i1),(17,.eptr (aM.cs y4)),(18,(aM.pv y4)),(19,.ptr 2 2),(20,QZ y4.aCo),(21,pN y4.aCo.length),(22,pN i7)],⟨[some ⟨26,[aP pw.aB8]⟩,some ⟨156,[pS s_,.nil,pB false,pB false,.nil]⟩,some ⟨141,eZ y4⟩],[]⟩⟩) (fun _=>⟨[(1,pS p0),(4,.ptr 1 0),(5,pI 0),(6,pB false),(7,pN i1),(8,.ptr 2 0),(12,aP pw.aB8),(13,pN pw.aB8.length),(14,pN i1),(15,pB (decide ((i1:Int)<(pw.aB8.length:Int)))),(16,pN i1),(17,.eptr (aM.cs y4)),(18,(aM.pv y4)),(19,.ptr 2 2),(20,QZ y4.aCo),(21,pN y4.aCo.length)],⟨[some ⟨26,[aP pw.aB8]⟩,some ⟨156,[pS s_,.nil,pB false,pB false,.nil]⟩,some ⟨141,eZ y4⟩],[]⟩⟩) (eM H) ?_ ?_
   ·rintro i7 ⟨⟩ H
    refine gQ 5 ?_;refine cS H (fun h8 h8l H=>?_) (fun h8 H=>?_)
    ·refine gQ 6 ?_;refine q1 (iK (aU.cs (aR y4.aCo i7))) ?_;refine gQ 10 ?_;refine bC H (fun h9 H=>?_) (fun h9 H=>?_)
     ·refine gQ 2 ?_;refine q1 (bZ [pS ((aR y4.aCo i7).aB9),rS ((aR y4.aCo i7).aCi),pB ((aR y4.aCo i7).aCG),pB ((aR y4.aCo i7).aCp),gF ((aR y4.aCo i7).aCv)]) ?_;refine gQ 5 ?_;refine cV.ret ?_
      obtain rfl:_=r:=(lkR (skL (lkR (vP H))):)
      exact qf3
     exact gE 5
    exact gE 0
   rintro⟨⟩ H
   exact gE 4
  exact gE 0
 rintro⟨⟩ H
 exact gE 7
def VL(fu:Nat)(pw:aF)(p0:ByteArray)(i1:Nat)(y4:aM):Nat→Unit→Option (LR Unit (LR Unit (aN×Int×Bool))):=fun i7 _=>sw (decide ((aR y4.aCh i7).aB9=p0)) (some (.ret (.ret ((aR y4.aCh i7),(i1:Int),true)))) (some (.next ()))
def VK(fu:Nat)(pw:aF)(p0:ByteArray):Nat→Unit→Option (LR Unit (aN×Int×Bool)):=fun i1 _=>lt (aR pw.aB8 i1) fun y4=>so (loopN (VL fu pw p0 i1 y4) (y4.aCh.length-0) 0 ()) fun _=>some (.next ())
def UD(fu:Nat)(pw:aF)(p0:ByteArray):Option (aN×Int×Bool):=so (loopN (VK fu pw p0) (pw.aB8.length-0) 0 ()) fun _=>some ((aN.mk s_ [] []),0,false)
theorem an1(fu:Nat)(pw:aF)(p0:ByteArray)(r:aN×Int×Bool)(H:UD fu pw p0=some r):bQ Tryz.prog 102 [(aF.pv pw),pS p0] (.tup [(aN.pv r.1),pI r.2.1,pB r.2.2]):=by
 refine qJ func102 H (fun C hC H=>?_)
 refine gQ 2 ?_;refine q1 (fD ([aP pw.aB8])) ?_;refine gQ 12 ?_;refine gP 12 (aM.trs_len _) (fun hl2=>?_)
 refine bS (σ:=Unit) (fun i1 _=>⟨[(1,pS p0),(4,.ptr 1 0),(5,pI 0),(6,pB false),(12,aP pw.aB8),(13,pN pw.aB8.length),(14,pN i1)],⟨[some ⟨26,[aP pw.aB8]⟩,some ⟨39,[pS s_,.nil,.nil]⟩],[]⟩⟩) (fun _=>⟨[(4,.ptr 1 0),(5,pI 0),(6,pB false)],⟨[some ⟨26,[aP pw.aB8]⟩,some ⟨39,[pS s_,.nil,.nil]⟩],[]⟩⟩) (eM H) ?_ ?_
 ·rintro i1 ⟨⟩ H
  refine gQ 5 ?_;refine cS H (fun h3 h3l H=>?_) (fun h3 H=>?_)
  ·refine gQ 6 ?_;refine fV H fun y4 h5 H=>(q1 (yK h5 h3l) (q1 (iK (aM.cs y4)) ?_))
   refine gQ 8 ?_;refine YM 20 (aN.trs_len _) (fun hl6=>?_)
   refine gQ 3 ?_;refine bS (σ:=Unit) (fun i7 _=>⟨[(1,pS p0),(4,.ptr 1 0),(5,pI 0),(6,pB false),(7,pN i1),(8,.ptr 2 0),(12,aP pw.aB8),(13,pN pw.aB8.length),(14,pN i1),(15,pB (decide ((i1:Int)<(pw.aB8.length:Int)))),(16,pN i1),(17,.eptr (aM.cs y4)),(18,(aM.pv y4)),(19,.ptr 2 3),(20,qC y4.aCh),(21,pN y4.aCh.length),(22,pN i7)],⟨[some ⟨26,[aP pw.aB8]⟩,some ⟨39,[pS s_,.nil,.nil]⟩,some ⟨141,eZ y4⟩],[]⟩⟩) (fun _=>⟨[(1,pS p0),(4,.ptr 1 0),(5,pI 0),(6,pB false),(7,pN i1),(8,.ptr 2 0),(12,aP pw.aB8),(13,pN pw.aB8.length),(14,pN i1),(15,pB (decide ((i1:Int)<(pw.aB8.length:Int)))),(16,pN i1),(17,.eptr (aM.cs y4)),(18,(aM.pv y4)),(19,.ptr 2 3),(20,qC y4.aCh),(21,pN y4.aCh.length)],⟨[some ⟨26,[aP pw.aB8]⟩,some ⟨39,[pS s_,.nil,.nil]⟩,some ⟨141,eZ y4⟩],[]⟩⟩) (eM H) ?_ ?_
   ·rintro i7 ⟨⟩ H
    refine gQ 5 ?_;refine cS H (fun h8 h8l H=>?_) (fun h8 H=>?_)
    ·refine gQ 6 ?_;refine q1 (iK (aN.cs (aR y4.aCh i7))) ?_;refine gQ 10 ?_;refine bC H (fun h9 H=>?_) (fun h9 H=>?_)
     ·refine gQ 2 ?_;refine q1 (bZ [pS ((aR y4.aCh i7).aB9),rS ((aR y4.aCh i7).aCm),dF ((aR y4.aCh i7).aCe)]) ?_;refine gQ 5 ?_;refine cV.ret ?_
      obtain rfl:_=r:=(lkR (skL (lkR (vP H))):)
      exact qf3
     exact gE 5
    exact gE 0
   rintro⟨⟩ H
   exact gE 4
  exact gE 0
 rintro⟨⟩ H
 exact gE 7
def rM(fu:Nat)(pw:aF)(po:aC):Option (aI×Bool):=sw (decide (po.aCl<0)) (some ((aI.mk s_ [] (aA.mk 0 s_ []) [] false false (aA.mk 0 s_ []) []),false)) (sw (decide (po.aCl≥(pw.aB8.length:Int))) (some ((aI.mk s_ [] (aA.mk 0 s_ []) [] false false (aA.mk 0 s_ []) []),false)) (sw (decide (po.aCz<0)) (some ((aI.mk s_ [] (aA.mk 0 s_ []) [] false false (aA.mk 0 s_ []) []),false)) (gd (0≤po.aCl∧(po.aCl).toNat<(pw.aB8).length) (lt (aR pw.aB8 ((po.aCl).toNat)) fun y5=>sw (decide (po.aCz≥(y5.aCk.length:Int))) (some ((aI.mk s_ [] (aA.mk 0 s_ []) [] false false (aA.mk 0 s_ []) []),false)) (gd (0≤po.aCz∧(po.aCz).toNat<(y5.aCk).length) (lt (aR y5.aCk ((po.aCz).toNat)) fun y9=>some (y9,true)))))))
theorem u0(fu:Nat)(pw:aF)(po:aC)(r:aI×Bool)(H:rM fu pw po=some r):bQ Tryz.prog 118 [(aF.pv pw),(aC.pv po)] (.tup [(aI.pv r.1),pB r.2]):=by
 refine qJ func118 H (fun C hC H=>?_)
 refine gQ 2 ?_;refine q1 (fD ([aP pw.aB8])) (q1 (fD ([pI po.aCl,pI po.aCz])) ?_)
 refine gQ 5 ?_
 rcases o3 (decide (po.aCl<0)) with g1|g1
 ·have H:=s9 H g1
  refine dW (dI [3] bW (dD [6] eE (dI [7] rLt (dI [8] bF ?_))))
  iterate 6 refine NF g1 ?_
  refine dI [9] (DU g1) (dI [16] bF ?_)
  iterate 3 refine NF rfl ?_
  refine dI [17] (DU rfl) (dI [21] bF ?_)
  iterate 11 refine NF rfl ?_
  refine dI [22] (DU rfl) (dN ?_)
  exact gE 7
 have H:=s8 H g1
 rcases o3 (decide (po.aCl≥(pw.aB8.length:Int))) with g2|g2
 ·have H:=s9 H g2
  refine dW (dI [3] bW (dD [6] eE (dI [7] rLt (dI [8] bF (dI (hg:=bD g1) [3] bW (dD (hg:=bD g1) [10] eE (dI (hg:=bD g1) [2] bW (dD (hg:=bD g1) [12] eE (dI (hg:=bD g1) [13] XW (dI (hg:=bD g1) [11,14] rGe (dI [9,15] (FX g1) (dI [16] bF ?_))))))))))))
  iterate 3 refine NF g2 ?_
  refine dI [17] (DU g2) (dI [21] bF ?_)
  iterate 11 refine NF rfl ?_
  refine dI [22] (DU rfl) (dN ?_)
  exact gE 7
 have H:=s8 H g2
 rcases o3 (decide (po.aCz<0)) with g3|g3
 ·have H:=s9 H g3
  refine dW (dI [3] bW (dD [6] eE (dI [7] rLt (dI [8] bF (dI (hg:=bD g1) [3] bW (dD (hg:=bD g1) [10] eE (dI (hg:=bD g1) [2] bW (dD (hg:=bD g1) [12] eE (dI (hg:=bD g1) [13] XW (dI (hg:=bD g1) [11,14] rGe (dI [9,15] (FX g1) (dI [16] bF (dI (hg:=bD g2) [3] bW ?_)))))))))))))
  refine dD (hg:=bD g2) [18] eE (dI (hg:=bD g2) [19] rLt (dI [17,20] (FX g2) (dI [21] bF ?_)))
  iterate 11 refine NF g3 ?_
  refine dI [22] (DU g3) (dN ?_)
  exact gE 7
 have H:=s8 H g3
 refine cF H fun z4 H=>(fV H fun y5 h6 H=>(dW (dI [3] bW (dD [6] eE (dI [7] rLt (dI [8] bF (dI (hg:=bD g1) [3] bW (dD (hg:=bD g1) [10] eE (dI (hg:=bD g1) [2] bW (dD (hg:=bD g1) [12] eE (dI (hg:=bD g1) [13] XW (dI (hg:=bD g1) [11,14] rGe (dI [9,15] (FX g1) ?_)))))))))))))
 refine dI [16] bF (dI (hg:=bD g2) [3] bW (dD (hg:=bD g2) [18] eE (dI (hg:=bD g2) [19] rLt (dI [17,20] (FX g2) (dI [21] bF (dI (hg:=bD g3) [3] bW (dD (hg:=bD g3) [23] eE (dI (hg:=bD g3) [2] bW (dD (hg:=bD g3) [25] eE (dI (hg:=bD g3) [3] bW (dD (hg:=bD g3) [27] eE (dI (hg:=bD g3) [26,28] (rIm h6 z4 aeU.h) (dI (hg:=bD g3) [29] w7 ?_)))))))))))))
 refine dI (hg:=bD g3) [30] vQ (dI (hg:=bD g3) [31] XW (dI (hg:=bD g3) [24,32] rGe (dI [22,33] (FX g3) (dN ?_))))
 refine bC H (fun h7 H=>gE 6) fun h7 H=>?_;refine gQ 2 ?_;refine cF H fun z8 H=>(fV H fun y9 h10 H=>(dW (dI [2] bW (dD [36] eE (dI [3] bW (dD [38] eE (dI [37,39] (rIm h6 z4 aeU.h) (dI [40] w7 (dI [41] vQ (dI [3] bW (dD [43] eE (dI [42,44] (rIm h10 z8 Z0.h) (dI [45] (iK (aI.cs y9)) ?_)))))))))))))
 refine lB [4,46] kG (dI [] bF (dN ?_))
 exact gE 0
def vI(fu:Nat)(pw:aF)(p0:ByteArray)(i1:Nat):Int→Option (LR Int (LR Unit (aU×Int×Bool))):=fun v4=>lt (aR pw.aB8 i1) fun y6=>sw (decide (v4<(y6.aCo.length:Int))) (gd (0≤v4∧(v4).toNat<(y6.aCo).length) (sw (decide ((aR y6.aCo ((v4).toNat)).aB9=p0)) (some (.ret (.ret ((aR y6.aCo ((v4).toNat)),(i1:Int),true)))) (some (.next (v4+1))))) (some (.brk v4))
def BX(fu:Nat)(pw:aF)(p0:ByteArray):Nat→Unit→Option (LR Unit (aU×Int×Bool)):=fun i1 _=>so (loopW (vI fu pw p0 i1) fu 0) fun v4=>some (.next ())
def qF(fu:Nat)(pw:aF)(p0:ByteArray):Option (aU×Int×Bool):=so (loopN (BX fu pw p0) (pw.aB8.length-0) 0 ()) fun _=>some ((aU.mk s_ [] false false []),0,false)
theorem BY(fu:Nat)(pw:aF)(p0:ByteArray)(r:aU×Int×Bool)(H:qF fu pw p0=some r):bQ Tryz.prog 121 [(aF.pv pw),pS p0] (.tup [(aU.pv r.1),pI r.2.1,pB r.2.2]):=by
 refine qJ func121 H (fun C hC H=>?_)
 refine gQ 2 ?_;refine q1 (fD ([aP pw.aB8])) ?_;refine gQ 9 ?_;refine cV.fact (cI 0 0 rfl rfl rfl (aM.trs_len _)) (fun hl2=>?_)
 refine bS (σ:=Unit) (fun i1 _=>⟨[(1,pS p0),(2,.ptr 0 0),(4,.ptr 1 0),(5,pI 0),(6,pB false),(7,pN i1)],⟨[some ⟨26,[aP pw.aB8]⟩,some ⟨156,[pS s_,.nil,pB false,pB false,.nil]⟩],[]⟩⟩) (fun _=>⟨[(4,.ptr 1 0),(5,pI 0),(6,pB false)],⟨[some ⟨26,[aP pw.aB8]⟩,some ⟨156,[pS s_,.nil,pB false,pB false,.nil]⟩],[]⟩⟩) (eM H) ?_ ?_
 ·rintro i1 ⟨⟩ H
  refine gQ 9 ?_;refine cS H (fun h3 h3l H=>?_) (fun h3 H=>?_)
  ·refine gQ 7 ?_;refine SN (σ:=Int) (fun v4=>⟨[(1,pS p0),(2,.ptr 0 0),(4,.ptr 1 0),(5,pI 0),(6,pB false),(7,pN i1),(8,pI v4),(9,pN i1),(10,.ptr 0 0),(11,aP pw.aB8),(12,pN pw.aB8.length),(13,pB (decide ((i1:Int)<(pw.aB8.length:Int))))],⟨[some ⟨26,[aP pw.aB8]⟩,some ⟨156,[pS s_,.nil,pB false,pB false,.nil]⟩],[]⟩⟩) (fun v4=>⟨[(1,pS p0),(2,.ptr 0 0),(4,.ptr 1 0),(5,pI 0),(6,pB false),(7,pN i1),(8,pI v4),(9,pN i1),(10,.ptr 0 0),(11,aP pw.aB8),(12,pN pw.aB8.length),(13,pB (decide ((i1:Int)<(pw.aB8.length:Int))))],⟨[some ⟨26,[aP pw.aB8]⟩,some ⟨156,[pS s_,.nil,pB false,pB false,.nil]⟩],[]⟩⟩) (eM H) ?_ ?_
   ·rintro k5 v4 H
    refine gQ 7 ?_;refine fV H fun y6 h7 H=>(q1 (yK h7 h3l) ?_)
    refine gQ 2 ?_;refine YM 22 (aU.trs_len _) (fun hl8=>?_)
    refine gQ 3 ?_;refine bC H (fun h9 H=>?_) (fun h9 H=>?_)
    ·refine gQ 8 ?_;refine q1 (yK h7 h3l) ?_;refine gQ 3 ?_;refine cF H fun z10 H=>(q1 (rIy z10 aqK.h) ?_)
     refine gQ 5 ?_;refine bC H (fun h11 H=>?_) (fun h11 H=>?_)
     ·refine gQ 5 ?_;refine q1 (yK h7 h3l) ?_;refine gQ 3 ?_;refine q1 (rIy z10 aqK.h) (q1 (iK (aU.cs (aR y6.aCo ((v4).toNat)))) ?_)
      refine gQ 5 ?_;refine cV.ret ?_
      obtain rfl:_=r:=(lkR (skL (lwR (vP H))):)
      exact qf3
     refine gQ 3 ?_;refine q1 (bB.addI rfl rfl rfl rfl (c:=v4+1) (by omega) (by omega)) ?_;exact gE 2
    exact gE 0
   rintro v4 H
   exact gE 5
  exact gE 0
 rintro⟨⟩ H
 exact gE 7
def xF(fu:Nat)(pw:aF)(p0:ByteArray)(i1:Nat):Int→Option (LR Int (LR Unit (aN×Int×Bool))):=fun v4=>lt (aR pw.aB8 i1) fun y6=>sw (decide (v4<(y6.aCh.length:Int))) (gd (0≤v4∧(v4).toNat<(y6.aCh).length) (sw (decide ((aR y6.aCh ((v4).toNat)).aB9=p0)) (some (.ret (.ret ((aR y6.aCh ((v4).toNat)),(i1:Int),true)))) (some (.next (v4+1))))) (some (.brk v4))
def DQ(fu:Nat)(pw:aF)(p0:ByteArray):Nat→Unit→Option (LR Unit (aN×Int×Bool)):=fun i1 _=>so (loopW (xF fu pw p0 i1) fu 0) fun v4=>some (.next ())
def AC(fu:Nat)(pw:aF)(p0:ByteArray):Option (aN×Int×Bool):=so (loopN (DQ fu pw p0) (pw.aB8.length-0) 0 ()) fun _=>some ((aN.mk s_ [] []),0,false)
theorem ZC(fu:Nat)(pw:aF)(p0:ByteArray)(r:aN×Int×Bool)(H:AC fu pw p0=some r):bQ Tryz.prog 53 [(aF.pv pw),pS p0] (.tup [(aN.pv r.1),pI r.2.1,pB r.2.2]):=by
 refine qJ func53 H (fun C hC H=>?_)
 refine gQ 2 ?_;refine q1 (fD ([aP pw.aB8])) ?_;refine gQ 9 ?_;refine cV.fact (cI 0 0 rfl rfl rfl (aM.trs_len _)) (fun hl2=>?_)
 refine bS (σ:=Unit) (fun i1 _=>⟨[(1,pS p0),(2,.ptr 0 0),(4,.ptr 1 0),(5,pI 0),(6,pB false),(7,pN i1)],⟨[some ⟨26,[aP pw.aB8]⟩,some ⟨39,[pS s_,.nil,.nil]⟩],[]⟩⟩) (fun _=>⟨[(4,.ptr 1 0),(5,pI 0),(6,pB false)],⟨[some ⟨26,[aP pw.aB8]⟩,some ⟨39,[pS s_,.nil,.nil]⟩],[]⟩⟩) (eM H) ?_ ?_
 ·rintro i1 ⟨⟩ H
  refine gQ 9 ?_;refine cS H (fun h3 h3l H=>?_) (fun h3 H=>?_)
  ·refine gQ 7 ?_;refine SN (σ:=Int) (fun v4=>⟨[(1,pS p0),(2,.ptr 0 0),(4,.ptr 1 0),(5,pI 0),(6,pB false),(7,pN i1),(8,pI v4),(9,pN i1),(10,.ptr 0 0),(11,aP pw.aB8),(12,pN pw.aB8.length),(13,pB (decide ((i1:Int)<(pw.aB8.length:Int))))],⟨[some ⟨26,[aP pw.aB8]⟩,some ⟨39,[pS s_,.nil,.nil]⟩],[]⟩⟩) (fun v4=>⟨[(1,pS p0),(2,.ptr 0 0),(4,.ptr 1 0),(5,pI 0),(6,pB false),(7,pN i1),(8,pI v4),(9,pN i1),(10,.ptr 0 0),(11,aP pw.aB8),(12,pN pw.aB8.length),(13,pB (decide ((i1:Int)<(pw.aB8.length:Int))))],⟨[some ⟨26,[aP pw.aB8]⟩,some ⟨39,[pS s_,.nil,.nil]⟩],[]⟩⟩) (eM H) ?_ ?_
   ·rintro k5 v4 H
    refine gQ 7 ?_;refine fV H fun y6 h7 H=>(q1 (yK h7 h3l) ?_)
    refine gQ 2 ?_;refine YM 22 (aN.trs_len _) (fun hl8=>?_)
    refine gQ 3 ?_;refine bC H (fun h9 H=>?_) (fun h9 H=>?_)
    ·refine gQ 8 ?_;refine q1 (yK h7 h3l) ?_;refine gQ 3 ?_;refine cF H fun z10 H=>(q1 (rIy z10 aqL.h) ?_)
     refine gQ 5 ?_;refine bC H (fun h11 H=>?_) (fun h11 H=>?_)
     ·refine gQ 5 ?_;refine q1 (yK h7 h3l) ?_;refine gQ 3 ?_;refine q1 (rIy z10 aqL.h) (q1 (iK (aN.cs (aR y6.aCh ((v4).toNat)))) ?_)
      refine gQ 5 ?_;refine cV.ret ?_
      obtain rfl:_=r:=(lkR (skL (lwR (vP H))):)
      exact qf3
     refine gQ 3 ?_;refine q1 (bB.addI rfl rfl rfl rfl (c:=v4+1) (by omega) (by omega)) ?_;exact gE 2
    exact gE 0
   rintro v4 H
   exact gE 5
  exact gE 0
 rintro⟨⟩ H
 exact gE 7
def AD(fu:Nat)(pw:aF)(po:aC):Option (aI×Bool):=bd (sR fu po.aCl 0 (aX ((pw.aB8.length:Int)-1))) fun x2=>sw (!(x2)) (some ((aI.mk s_ [] (aA.mk 0 s_ []) [] false false (aA.mk 0 s_ []) []),false)) (gd (0≤po.aCl∧(po.aCl).toNat<(pw.aB8).length) (lt (aR pw.aB8 ((po.aCl).toNat)) fun y5=>bd (sR fu po.aCz 0 (aX ((y5.aCk.length:Int)-1))) fun x8=>sw (!(x8)) (some ((aI.mk s_ [] (aA.mk 0 s_ []) [] false false (aA.mk 0 s_ []) []),false)) (gd (0≤po.aCz∧(po.aCz).toNat<(y5.aCk).length) (lt (aR y5.aCk ((po.aCz).toNat)) fun y11=>some (y11,true)))))
theorem ZD(fu:Nat)(pw:aF)(po:aC)(r:aI×Bool)(H:AD fu pw po=some r):bQ Tryz.prog 170 [(aF.pv pw),(aC.pv po)] (.tup [(aI.pv r.1),pB r.2]):=by
 refine qJ func170 H (fun C hC H=>?_)
 refine gQ 2 ?_;refine q1 (fD ([aP pw.aB8])) (q1 (fD ([pI po.aCl,pI po.aCz])) ?_)
 refine gQ 5 ?_;refine bK H fun x2 z1 H=>?_
 rcases o3 (!(x2)) with g3|g3
 ·have H:=s9 H g3
  refine dW (dI [3] bW (dD [6] eE (dI [2] bW (dD [8] eE (dI [9] XW (dI [10] rSw (dI [7,11] (bE func64 (yE fu po.aCl 0 (aX ((pw.aB8.length:Int)-1)) _ z1)) (dI [12] JN (dI [13] bF ?_)))))))))
  iterate 13 refine NF g3 ?_
  refine dI [14] (DU g3) (dN ?_)
  exact gE 7
 have H:=s8 H g3
 refine cF H fun z4 H=>(fV H fun y5 h6 H=>(bK H fun x8 z7 H=>(dW (dI [3] bW (dD [6] eE (dI [2] bW (dD [8] eE (dI [9] XW (dI [10] rSw (dI [7,11] (bE func64 (yE fu po.aCl 0 (aX ((pw.aB8.length:Int)-1)) _ z1)) (dI [12] JN (dI [13] bF (dI (hg:=bD g3) [3] bW ?_)))))))))))))
 refine dD (hg:=bD g3) [15] eE (dI (hg:=bD g3) [2] bW (dD (hg:=bD g3) [17] eE (dI (hg:=bD g3) [3] bW (dD (hg:=bD g3) [19] eE (dI (hg:=bD g3) [18,20] (rIm h6 z4 aeU.h) (dI (hg:=bD g3) [21] w7 (dI (hg:=bD g3) [22] vQ (dI (hg:=bD g3) [23] XW (dI (hg:=bD g3) [24] rSw (dI (hg:=bD g3) [16,25] (bE func64 (yE fu po.aCz 0 (aX ((y5.aCk.length:Int)-1)) _ z7)) (dI (hg:=bD g3) [26] JN (dI [14,27] (FX g3) (dN ?_)))))))))))))
 refine bC H (fun h9 H=>gE 6) fun h9 H=>?_;refine gQ 2 ?_;refine cF H fun z10 H=>(fV H fun y11 h12 H=>(dW (dI [2] bW (dD [30] eE (dI [3] bW (dD [32] eE (dI [31,33] (rIm h6 z4 aeU.h) (dI [34] w7 (dI [35] vQ (dI [3] bW (dD [37] eE (dI [36,38] (rIm h12 z10 Z0.h) (dI [39] (iK (aI.cs y11)) ?_)))))))))))))
 refine lB [4,40] kG (dI [] bF (dN ?_))
 exact gE 0
end
end Go.Proofs.YtfcoaagbccmahaaGreat.W

namespace Go.Proofs.YtfcoaagbccmahaaGreat
open Go.RowKit
theorem jG: ∀(a b:List Tr),Tr.bulkL (a++b)=Tr.bulkL a+Tr.bulkL b
 | [],b=>by simp [Tr.bulkL]
 |t::a,b=>by simp [Tr.bulkL,jG a b,Nat.add_assoc]
theorem aqC:Tr.bulkAll (aY [])=0:=rfl
theorem aoY(a:ByteArray)(l:List ByteArray):Tr.bulkAll (aY (a::l))=a.size+Tr.bulkAll (aY l):=by simp [aY,Tr.bulkAll,Tr.bulkL,Tr.bulk]
theorem aA.bk_mk(v0:Int)(v1:ByteArray)(v2:List aA):Tr.bulkL (aA.tr (.mk v0 v1 v2))=v1.size+(v2.length+Tr.bulkAll (aA.trs v2)):=by
 simp only [aA.tr,jG,Tr.bulkL,Tr.bulk,bV,fU,fS,aA.trs_len]
 first|done|omega
theorem aA.bks_nil:Tr.bulkAll (aA.trs [])=0:=by simp [aA.trs_map,Tr.bulkAll]
theorem aA.bks_cons(a:aA)(l:List aA):Tr.bulkAll (aA.trs (a::l))=Tr.bulkL (aA.tr a)+Tr.bulkAll (aA.trs l):=by simp [aA.trs_map,Tr.bulkAll]
theorem aL.bk_mk(v0:Int)(v1:ByteArray)(v2:ByteArray)(v3:Int)(v4:aA)(v5:List aL)(v6:List bU):Tr.bulkL (aL.tr (.mk v0 v1 v2 v3 v4 v5 v6))=v1.size+v2.size+Tr.bulkL (aA.tr v4)+(v5.length+Tr.bulkAll (aL.trs v5))+(v6.length+Tr.bulkAll (bU.trs v6)):=by
 simp only [aL.tr,jG,Tr.bulkL,Tr.bulk,bV,fU,fS,aL.trs_len,bU.trs_len]
 first|done|omega
theorem aL.bks_nil:Tr.bulkAll (aL.trs [])=0:=by simp [aL.trs_map,Tr.bulkAll]
theorem aL.bks_cons(a:aL)(l:List aL):Tr.bulkAll (aL.trs (a::l))=Tr.bulkL (aL.tr a)+Tr.bulkAll (aL.trs l):=by simp [aL.trs_map,Tr.bulkAll]
theorem bU.bk_mk(v0:ByteArray)(v1:List ByteArray)(v2:aL):Tr.bulkL (bU.tr (.mk v0 v1 v2))=v0.size+(v1.length+Tr.bulkAll (aY v1))+Tr.bulkL (aL.tr v2):=by
 simp only [bU.tr,jG,Tr.bulkL,Tr.bulk,bV,fU,fS]
 first|done|omega
theorem bU.bks_nil:Tr.bulkAll (bU.trs [])=0:=by simp [bU.trs_map,Tr.bulkAll]
theorem bU.bks_cons(a:bU)(l:List bU):Tr.bulkAll (bU.trs (a::l))=Tr.bulkL (bU.tr a)+Tr.bulkAll (bU.trs l):=by simp [bU.trs_map,Tr.bulkAll]
theorem aG.bk_mk(v0:ByteArray)(v1:aA):Tr.bulkL (aG.tr (.mk v0 v1))=v0.size+Tr.bulkL (aA.tr v1):=by
 simp only [aG.tr,jG,Tr.bulkL,Tr.bulk,bV,fU,fS]
 first|done|omega
theorem aG.bks_nil:Tr.bulkAll (aG.trs [])=0:=by simp [aG.trs_map,Tr.bulkAll]
theorem aG.bks_cons(a:aG)(l:List aG):Tr.bulkAll (aG.trs (a::l))=Tr.bulkL (aG.tr a)+Tr.bulkAll (aG.trs l):=by simp [aG.trs_map,Tr.bulkAll]
theorem aV.bk_mk(v0:ByteArray)(v1:aA):Tr.bulkL (aV.tr (.mk v0 v1))=v0.size+Tr.bulkL (aA.tr v1):=by
 simp only [aV.tr,jG,Tr.bulkL,Tr.bulk,bV,fU,fS]
 first|done|omega
theorem aV.bks_nil:Tr.bulkAll (aV.trs [])=0:=by simp [aV.trs_map,Tr.bulkAll]
theorem aV.bks_cons(a:aV)(l:List aV):Tr.bulkAll (aV.trs (a::l))=Tr.bulkL (aV.tr a)+Tr.bulkAll (aV.trs l):=by simp [aV.trs_map,Tr.bulkAll]
theorem aQ.bk_mk(v0:ByteArray)(v1:List ByteArray)(v2:aL):Tr.bulkL (aQ.tr (.mk v0 v1 v2))=v0.size+(v1.length+Tr.bulkAll (aY v1))+Tr.bulkL (aL.tr v2):=by
 simp only [aQ.tr,jG,Tr.bulkL,Tr.bulk,bV,fU,fS]
 first|done|omega
theorem aQ.bks_nil:Tr.bulkAll (aQ.trs [])=0:=by simp [aQ.trs_map,Tr.bulkAll]
theorem aQ.bks_cons(a:aQ)(l:List aQ):Tr.bulkAll (aQ.trs (a::l))=Tr.bulkL (aQ.tr a)+Tr.bulkAll (aQ.trs l):=by simp [aQ.trs_map,Tr.bulkAll]
theorem aD.bk_mk(v0:ByteArray)(v1:List aA):Tr.bulkL (aD.tr (.mk v0 v1))=v0.size+(v1.length+Tr.bulkAll (aA.trs v1)):=by
 simp only [aD.tr,jG,Tr.bulkL,Tr.bulk,bV,fU,fS,aA.trs_len]
 first|done|omega
theorem aD.bks_nil:Tr.bulkAll (aD.trs [])=0:=by simp [aD.trs_map,Tr.bulkAll]
theorem aD.bks_cons(a:aD)(l:List aD):Tr.bulkAll (aD.trs (a::l))=Tr.bulkL (aD.tr a)+Tr.bulkAll (aD.trs l):=by simp [aD.trs_map,Tr.bulkAll]
theorem aE.bk_mk(v0:ByteArray)(v1:List aA)(v2:aA)(v3:Bool)(v4:List ByteArray)(v5:aL):Tr.bulkL (aE.tr (.mk v0 v1 v2 v3 v4 v5))=v0.size+(v1.length+Tr.bulkAll (aA.trs v1))+Tr.bulkL (aA.tr v2)+(v4.length+Tr.bulkAll (aY v4))+Tr.bulkL (aL.tr v5):=by
 simp only [aE.tr,jG,Tr.bulkL,Tr.bulk,bV,fU,fS,aA.trs_len]
 first|done|omega
theorem aE.bks_nil:Tr.bulkAll (aE.trs [])=0:=by simp [aE.trs_map,Tr.bulkAll]
theorem aE.bks_cons(a:aE)(l:List aE):Tr.bulkAll (aE.trs (a::l))=Tr.bulkL (aE.tr a)+Tr.bulkAll (aE.trs l):=by simp [aE.trs_map,Tr.bulkAll]
theorem aU.bk_mk(v0:ByteArray)(v1:List ByteArray)(v2:Bool)(v3:Bool)(v4:List aE):Tr.bulkL (aU.tr (.mk v0 v1 v2 v3 v4))=v0.size+(v1.length+Tr.bulkAll (aY v1))+(v4.length+Tr.bulkAll (aE.trs v4)):=by
 simp only [aU.tr,jG,Tr.bulkL,Tr.bulk,bV,fU,fS,aE.trs_len]
 first|done|omega
theorem aU.bks_nil:Tr.bulkAll (aU.trs [])=0:=by simp [aU.trs_map,Tr.bulkAll]
theorem aU.bks_cons(a:aU)(l:List aU):Tr.bulkAll (aU.trs (a::l))=Tr.bulkL (aU.tr a)+Tr.bulkAll (aU.trs l):=by simp [aU.trs_map,Tr.bulkAll]
theorem aN.bk_mk(v0:ByteArray)(v1:List ByteArray)(v2:List aD):Tr.bulkL (aN.tr (.mk v0 v1 v2))=v0.size+(v1.length+Tr.bulkAll (aY v1))+(v2.length+Tr.bulkAll (aD.trs v2)):=by
 simp only [aN.tr,jG,Tr.bulkL,Tr.bulk,bV,fU,fS,aD.trs_len]
 first|done|omega
theorem aN.bks_nil:Tr.bulkAll (aN.trs [])=0:=by simp [aN.trs_map,Tr.bulkAll]
theorem aN.bks_cons(a:aN)(l:List aN):Tr.bulkAll (aN.trs (a::l))=Tr.bulkL (aN.tr a)+Tr.bulkAll (aN.trs l):=by simp [aN.trs_map,Tr.bulkAll]
theorem aI.bk_mk(v0:ByteArray)(v1:List ByteArray)(v2:aA)(v3:List aG)(v4:Bool)(v5:Bool)(v6:aA)(v7:List aQ):Tr.bulkL (aI.tr (.mk v0 v1 v2 v3 v4 v5 v6 v7))=v0.size+(v1.length+Tr.bulkAll (aY v1))+Tr.bulkL (aA.tr v2)+(v3.length+Tr.bulkAll (aG.trs v3))+Tr.bulkL (aA.tr v6)+(v7.length+Tr.bulkAll (aQ.trs v7)):=by
 simp only [aI.tr,jG,Tr.bulkL,Tr.bulk,bV,fU,fS,aG.trs_len,aQ.trs_len]
 first|done|omega
theorem aI.bks_nil:Tr.bulkAll (aI.trs [])=0:=by simp [aI.trs_map,Tr.bulkAll]
theorem aI.bks_cons(a:aI)(l:List aI):Tr.bulkAll (aI.trs (a::l))=Tr.bulkL (aI.tr a)+Tr.bulkAll (aI.trs l):=by simp [aI.trs_map,Tr.bulkAll]
theorem aO.bk_mk(v0:ByteArray)(v1:List ByteArray)(v2:List aG)(v3:List aV)(v4:aA)(v5:aL):Tr.bulkL (aO.tr (.mk v0 v1 v2 v3 v4 v5))=v0.size+(v1.length+Tr.bulkAll (aY v1))+(v2.length+Tr.bulkAll (aG.trs v2))+(v3.length+Tr.bulkAll (aV.trs v3))+Tr.bulkL (aA.tr v4)+Tr.bulkL (aL.tr v5):=by
 simp only [aO.tr,jG,Tr.bulkL,Tr.bulk,bV,fU,fS,aG.trs_len,aV.trs_len]
 first|done|omega
theorem aO.bks_nil:Tr.bulkAll (aO.trs [])=0:=by simp [aO.trs_map,Tr.bulkAll]
theorem aO.bks_cons(a:aO)(l:List aO):Tr.bulkAll (aO.trs (a::l))=Tr.bulkL (aO.tr a)+Tr.bulkAll (aO.trs l):=by simp [aO.trs_map,Tr.bulkAll]
theorem aM.bk_mk(v0:ByteArray)(v1:List ByteArray)(v2:List aU)(v3:List aN)(v4:List aI)(v5:List aO):Tr.bulkL (aM.tr (.mk v0 v1 v2 v3 v4 v5))=v0.size+(v1.length+Tr.bulkAll (aY v1))+(v2.length+Tr.bulkAll (aU.trs v2))+(v3.length+Tr.bulkAll (aN.trs v3))+(v4.length+Tr.bulkAll (aI.trs v4))+(v5.length+Tr.bulkAll (aO.trs v5)):=by
 simp only [aM.tr,jG,Tr.bulkL,Tr.bulk,bV,fU,fS,aU.trs_len,aN.trs_len,aI.trs_len,aO.trs_len]
 first|done|omega
theorem aM.bks_nil:Tr.bulkAll (aM.trs [])=0:=by simp [aM.trs_map,Tr.bulkAll]
theorem aM.bks_cons(a:aM)(l:List aM):Tr.bulkAll (aM.trs (a::l))=Tr.bulkL (aM.tr a)+Tr.bulkAll (aM.trs l):=by simp [aM.trs_map,Tr.bulkAll]
theorem aF.bk_mk(v0:List aM):Tr.bulkL (aF.tr (.mk v0))=(v0.length+Tr.bulkAll (aM.trs v0)):=by
 simp only [aF.tr,jG,Tr.bulkL,Tr.bulk,bV,fU,fS,aM.trs_len]
 first|done|omega
theorem aB.bk_mk(v0:ByteArray)(v1:List aB):Tr.bulkL (aB.tr (.mk v0 v1))=v0.size+(v1.length+Tr.bulkAll (aB.trs v1)):=by
 simp only [aB.tr,jG,Tr.bulkL,Tr.bulk,bV,fU,fS,aB.trs_len]
 first|done|omega
theorem aB.bks_nil:Tr.bulkAll (aB.trs [])=0:=by simp [aB.trs_map,Tr.bulkAll]
theorem aB.bks_cons(a:aB)(l:List aB):Tr.bulkAll (aB.trs (a::l))=Tr.bulkL (aB.tr a)+Tr.bulkAll (aB.trs l):=by simp [aB.trs_map,Tr.bulkAll]
end Go.Proofs.YtfcoaagbccmahaaGreat

namespace Go.Proofs.YtfcoaagbccmahaaGreat
def bP(P:Nat→Prop):Prop:= ∃N,∀n,N≤n→P n
theorem bP.all{P:Nat→Prop}(h: ∀n,P n):bP P:=⟨0,fun n _=>h n⟩
theorem bP.and{P Q:Nat→Prop}(h:bP P)(k:bP Q):bP fun n=>P n∧Q n:=by
 obtain⟨a,h⟩:=h
 obtain⟨b,k⟩:=k
 exact⟨max a b,fun n hn=>⟨h n (by omega),k n (by omega)⟩⟩
theorem bP.imp{P Q:Nat→Prop}(h:bP P)(k: ∀n,P n→Q n):bP Q:=by
 obtain⟨a,h⟩:=h
 exact⟨a,fun n hn=>k n (h n hn)⟩
theorem bP.imp2{P Q R:Nat→Prop}(h:bP P)(h2:bP Q)(k: ∀n,P n→Q n→R n):bP R:=(h.and h2).imp fun n hn=>k n hn.1 hn.2
theorem bP.succ{P:Nat→Prop}(h:bP fun n=>P (n+1)):bP P:=by
 obtain⟨a,h⟩:=h
 exact⟨a+1,fun n hn=>by
  obtain⟨m,rfl⟩: ∃m,n=m+1:=⟨n-1,by omega⟩
  exact h m (by omega)⟩
theorem bP.list{α:Type}{P:α→Nat→Prop}: ∀ {l:List α},(∀x∈l,bP (P x))→bP fun n=> ∀x∈l,P x n
 | [],_=> .all fun n x hx=>by simp at hx
 |a::l,h=>((h a (by simp)).and (bP.list (l:=l) fun x hx=>h x (List.mem_cons_of_mem _ hx))).imp fun n hn x hx=>by
  rcases List.mem_cons.1 hx with rfl|hx
  ·exact hn.1
  ·exact hn.2 x hx
theorem bP.below{P:Nat→Nat→Prop}: ∀ {k:Nat},(∀i,i<k→bP (P i))→bP fun n=> ∀i,i<k→P i n
 |0,_=> .all fun n i hi=>by omega
 |k+1,h=>((h k (by omega)).and (bP.below (k:=k) fun i hi=>h i (Nat.lt_succ_of_lt hi))).imp fun n hn i hi=>by
  rcases Nat.lt_or_ge i k with h1|h1
  ·exact hn.2 i h1
  ·obtain rfl:i=k:=by omega
   exact hn.1
theorem bP.get{P:Nat→Prop}(h:bP P): ∃n,P n:=by
 obtain⟨a,h⟩:=h
 exact⟨a,h a (Nat.le_refl _)⟩
section
variable {α σ β:Type} [Inhabited α] {f:Nat→σ→Option (LR σ β)}
theorem cC{l:List α}{i:Nat}(h:i<l.length):aR l i∈l:=by rw [jO h];exact List.getElem_mem h
theorem o4{l:List α}{i:Nat}(h:i<l.length):l.drop i=aR l i::l.drop (i+1):=by rw [jO h];exact List.drop_eq_getElem_cons h
theorem I1{l:List α}{i:Nat}(h:i<l.length):l.take (i+1)=l.take i++ [aR l i]:=by rw [jO h];exact List.take_succ_eq_append_getElem h
theorem BH{n i:Nat}{s s':σ}(h:i<n)(e:f i s=some (.next s')):loopN f (n-i) i s=loopN f (n-(i+1)) (i+1) s':=MI h rfl e
theorem JJ{n i:Nat}{s:σ}{x:β}(h:i<n)(e:f i s=some (.ret x)):loopN f (n-i) i s=some (.inl x):=amG h rfl e
theorem amF{n i:Nat}{s s':σ}(h:i<n)(e:f i s=some (.brk s')):loopN f (n-i) i s=some (.inr s'):=amD h rfl e
theorem EQ{n i:Nat}{s:σ}(h:n≤i):loopN f (n-i) i s=some (.inr s):=amE h rfl
theorem VX{l:List α}{g:σ→α→σ}(P:Nat→σ→Prop)(hs: ∀i s,i<l.length→P i s→f i s=some (.next (g s (aR l i)))∧P (i+1) (g s (aR l i))):
 ∀(k i:Nat) (s:σ),l.length-i=k→P i s→loopN f (l.length-i) i s=some (.inr ((l.drop i).foldl g s))
 |0,i,s,hk,_=>by
  rw [EQ (by omega),List.drop_of_length_le (by omega),List.foldl_nil]
 |k+1,i,s,hk,hp=>by
  have hi:i<l.length:=by omega
  obtain⟨h1,h2⟩:=hs i s hi hp
  rw [BH hi h1,o4 hi,List.foldl_cons]
  exact VX P hs k (i+1) _ (by omega) h2
theorem kR{l:List α}{g:σ→α→σ}(P:Nat→σ→Prop)(hs: ∀i s,i<l.length→P i s→f i s=some (.next (g s (aR l i)))∧P (i+1) (g s (aR l i))){s:σ}(h0:P 0 s):loopN f (l.length-0) 0 s=some (.inr (l.foldl g s)):=by
 have:=VX P hs l.length 0 s (by omega) h0
 rwa [List.drop_zero] at this
theorem VW{l:List α}{p:α→Bool}{r:α→β}{s:σ}(hs: ∀i,i<l.length→f i s=if p (aR l i) then some (.ret (r (aR l i))) else some (.next s)):
 ∀(k i:Nat),l.length-i=k→loopN f (l.length-i) i s=some (match(l.drop i).find? p with|some x=> .inl (r x)|none=> .inr s)
 |0,i,hk=>by
  rw [EQ (by omega),List.drop_of_length_le (by omega),List.find?_nil]
 |k+1,i,hk=>by
  have hi:i<l.length:=by omega
  have h1:=hs i hi
  rw [o4 hi,List.find?_cons]
  cases hp:p (aR l i)
  ·rw [hp] at h1
   rw [BH hi (by simpa using h1)]
   exact VW hs k (i+1) (by omega)
  ·rw [hp] at h1
   rw [JJ hi (by simpa using h1)]
theorem mS{l:List α}{p:α→Bool}{r:α→β}{s:σ}(hs: ∀i,i<l.length→f i s=if p (aR l i) then some (.ret (r (aR l i))) else some (.next s)):loopN f (l.length-0) 0 s=some (match l.find? p with|some x=> .inl (r x)|none=> .inr s):=by
 have:=VW hs l.length 0 (by omega)
 rwa [List.drop_zero] at this
theorem SM{l:List α}{p:α→Bool}{r:β}{s:σ}(hs: ∀i,i<l.length→f i s=if p (aR l i) then some (.next s) else some (.ret r)):loopN f (l.length-0) 0 s=some (if l.all p then .inr s else .inl r):=by
 rw [mS (p:=fun x=> !p x) (r:=fun _=>r) (fun i hi=>by rw [hs i hi];cases p (aR l i)<;>rfl)]
 cases h:l.find? (fun x=> !p x) with
 |none=>
  rw [List.find?_eq_none] at h
  rw [if_pos (by rw [List.all_eq_true];intro x hx;have:=h x hx;simpa using this)]
 |some x=>
  have h1:=List.find?_some h
  have h2:=List.mem_of_find?_eq_some h
  rw [if_neg (by rw [List.all_eq_true];intro hc;have:=hc x h2;simp [this] at h1)]
theorem xS{f:Nat→Unit→Option (LR Unit Int)}{l:List α}{p:α→Bool}(hs: ∀i,i<l.length→f i ()=if p (aR l i) then some (.ret ((i:Nat):Int)) else some (.next ())):
 loopN f (l.length-0) 0 ()=some (match l.findIdx? p with|some i=> .inl ((i:Nat):Int)|none=> .inr ()):=by
 have key: ∀(k i:Nat),l.length-i=k→loopN f (l.length-i) i ()=some (match(l.drop i).findIdx? p with|some j=> .inl (((i+j:Nat)):Int)|none=> .inr ()):=by
  intro k
  induction k with
  |zero=>
   intro i hk
   rw [EQ (by omega),List.drop_of_length_le (by omega)]
   rfl
  |succ k ih=>
   intro i hk
   have hi:i<l.length:=by omega
   have h1:=hs i hi
   rw [o4 hi,List.findIdx?_cons]
   cases hp:p (aR l i)
   ·rw [hp] at h1
    rw [BH hi (by simpa using h1),ih (i+1) (by omega)]
    cases(l.drop (i+1)).findIdx? p with
    |none=>simp
    |some j=>simp;omega
   ·rw [hp] at h1
    rw [JJ hi (by simpa using h1)]
    simp
 have:=key l.length 0 (by omega)
 simpa using this
omit [Inhabited α] in
theorem QF{l:List α}{p:α→Bool}:decide ((match l.findIdx? p with|some i=>((i:Nat):Int)|none=> -1)≥0)=l.any p:=by
 cases h:l.findIdx? p with
 |none=>
  rw [List.findIdx?_eq_none_iff] at h
  have:l.any p=false:=by rw [List.any_eq_false];intro x hx;simp [h x hx]
  rw [this];rfl
 |some i=>
  obtain⟨h1,h2,-⟩:=List.findIdx?_eq_some_iff_getElem.1 h
  have:l.any p=true:=List.any_eq_true.2 ⟨_,List.getElem_mem h1,h2⟩
  rw [this]
  simp
end
end Go.Proofs.YtfcoaagbccmahaaGreat

namespace Go.Proofs.YtfcoaagbccmahaaGreat
open Go.RowKit Go.WalkArith Go.IntWalk
def Ok{α:Type}(o:Option α)(P:α→Prop):Prop:= ∃a,o=some a∧P a
theorem Ok.some{α:Type}{P:α→Prop}{a:α}(h:P a):Ok (Option.some a) P:=⟨a,rfl,h⟩
theorem Ok.mono{α:Type}{P Q:α→Prop}{o:Option α}(h:Ok o P)(k: ∀a,P a→Q a):Ok o Q:=by
 obtain⟨a,e,h⟩:=h
 exact⟨a,e,k a h⟩
theorem Ok.bd{α β:Type}{o:Option α}{f:α→Option β}{Q:α→Prop}{P:β→Prop}(h:Ok o Q)(k: ∀a,Q a→Ok (f a) P):Ok (bd o f) P:=by
 obtain⟨a,rfl,h⟩:=h
 exact k a h
theorem Ok.sw{α:Type}{c:Bool}{a b:Option α}{P:α→Prop}(ht:c=true→Ok a P)(hf:c=false→Ok b P):Ok (sw c a b) P:=by
 cases c
 ·exact hf rfl
 ·exact ht rfl
theorem Ok.gd{α:Type}{g:Prop}{a:Option α}{P:α→Prop}(h:g)(k:Ok a P):Ok (gd g a) P:=by
 rw [iJ h rfl]
 exact k
theorem Ok.so{σ β:Type}{o:Option (β⊕σ)}{f:σ→Option β}{Q:β⊕σ→Prop}{P:β→Prop}(h:Ok o Q)(k1: ∀x,Q (.inl x)→P x)(k2: ∀s,Q (.inr s)→Ok (f s) P):Ok (so o f) P:=by
 obtain⟨a,rfl,h⟩:=h
 cases a with
 |inl x=>exact⟨x,rfl,k1 x h⟩
 |inr s=>exact k2 s h
theorem Ok.lt{α β:Type}{x:α}{f:α→Option β}{P:β→Prop}(k: ∀y,y=x→Ok (f y) P):Ok (lt x f) P:=k x rfl
theorem DS.pick_mem(d:DS){l:LB}(h:0<l.length):d.pick l∈l:=by
 rw [DS.pick_eq (d.below_lt h)]
 exact List.getElem_mem _
theorem DS.pick_size(d:DS){l:LB}{k:Nat}(h:0<l.length)(hs: ∀v∈l,v.size≤k):(d.pick l).size≤k:=hs _ (d.pick_mem h)
def PS{σ β:Type}(Q:β→Prop)(E:σ→Prop):β⊕σ→Prop
 | .inl x=>Q x
 | .inr s=>E s
def PL{σ β:Type}(Q:β→Prop)(N E:σ→Prop):LR σ β→Prop
 | .next s=>N s
 | .brk s=>E s
 | .ret x=>Q x
theorem Ok.gdk{α:Type}{g:Prop}{a:Option α}{P:α→Prop}(h:g)(k:g→Ok a P):Ok (Go.Proofs.YtfcoaagbccmahaaGreat.gd g a) P:=Ok.gd h (k h)
theorem Ok.sok{σ β:Type}{o:Option (β⊕σ)}{f:σ→Option β}{P:β→Prop}{E:σ→Prop}(h:Ok o (PS P E))(k: ∀s,E s→Ok (f s) P):Ok (Go.Proofs.YtfcoaagbccmahaaGreat.so o f) P:=Ok.so h (fun _ hx=>hx) k
theorem Ok.loopN{σ β:Type}{f:Nat→σ→Option (LR σ β)}{n:Nat}{Q:β→Prop}{E:σ→Prop}(I:Nat→σ→Prop)(hE: ∀i s,n≤i→I i s→E s)(hs: ∀i s,i<n→I i s→Ok (f i s) (PL Q (I (i+1)) E)):
 ∀(k i:Nat) (s:σ),n-i=k→I i s→Ok (Go.Proofs.YtfcoaagbccmahaaGreat.loopN f (n-i) i s) (PS Q E)
 |0,i,s,hk,hi=>by rw [EQ (by omega)];exact Ok.some (hE i s (by omega) hi)
 |k+1,i,s,hk,hi=>by
  have hlt:i<n:=by omega
  obtain⟨r,hr,hp⟩:=hs i s hlt hi
  cases r with
  |next s'=>rw [BH hlt hr];exact Ok.loopN I hE hs k (i+1) s' (by omega) hp
  |brk s'=>rw [amF hlt hr];exact Ok.some hp
  |ret x=>rw [JJ hlt hr];exact Ok.some hp
theorem Ok.loopN0{σ β:Type}{f:Nat→σ→Option (LR σ β)}{n i:Nat}{s:σ}{Q:β→Prop}{E:σ→Prop}(I:Nat→σ→Prop)(h0:I i s)(hE: ∀i s,n≤i→I i s→E s)(hs: ∀i s,i<n→I i s→Ok (f i s) (PL Q (I (i+1)) E)):Ok (Go.Proofs.YtfcoaagbccmahaaGreat.loopN f (n-i) i s) (PS Q E):=
 Ok.loopN I hE hs (n-i) i s rfl h0
theorem Ok.loopW{σ β:Type}{f:σ→Option (LR σ β)}{Q:β→Prop}{E:σ→Prop}(I:σ→Prop)(μ:σ→Nat)(hs: ∀s,I s→Ok (f s) (PL Q (fun s'=>I s'∧μ s'<μ s) E)):
 ∀(k:Nat) (s:σ),μ s<k→I s→Ok (Go.Proofs.YtfcoaagbccmahaaGreat.loopW f k s) (PS Q E)
 |0,s,hk,_=>absurd hk (Nat.not_lt_zero _)
 |k+1,s,hk,hi=>by
  obtain⟨r,hr,hp⟩:=hs s hi
  unfold Go.Proofs.YtfcoaagbccmahaaGreat.loopW
  rw [hr]
  cases r with
  |next s'=>exact Ok.loopW I μ hs k s' (by have:=hp.2;omega) hp.1
  |brk s'=>exact Ok.some hp
  |ret x=>exact Ok.some hp
theorem bP.ge(k:Nat):bP fun fu=>k≤fu:=⟨k,fun _ h=>h⟩
end Go.Proofs.YtfcoaagbccmahaaGreat

namespace Go.Proofs.YtfcoaagbccmahaaGreat
open Go.RowKit Go.WalkArith Go.IntWalk
class Wt (α:Type) where
 wtOf:α→Nat
def wt{α:Type}[Wt α](x:α):Nat:=Wt.wtOf x
def wl{α:Type}[Wt α]:List α→Nat
 | []=>0
 |a::l=>wt a+1+wl l
instance:Wt ByteArray:=⟨ByteArray.size⟩
theorem bA(b:ByteArray):wt b=b.size:=rfl
theorem I4(l:LB):wl l=l.length+Tr.bulkAll (aY l):=by
 induction l with
 |nil=>rw [aqC];rfl
 |cons a l ih=>rw [aoY];simp only [wl,List.length_cons,bA];omega
section
variable {α:Type} [Wt α]
theorem aW:wl ([]:List α)=0∧([]:List α).length=0:=⟨rfl,rfl⟩
theorem ad0(a:α)(l:List α):wl (a::l)=wt a+1+wl l:=rfl
theorem b0(a b:List α):wl (a++b)=wl a+wl b∧(a++b).length=a.length+b.length:=by
 refine⟨?_,List.length_append⟩
 induction a with
 |nil=>simp [wl]
 |cons x a ih=>simp only [List.cons_append,wl];omega
theorem b9(a:α):wl [a]=wt a+1∧ [a].length=1:=⟨rfl,rfl⟩
theorem kQ(a b:α):wl [a,b]=wt a+wt b+2∧ [a,b].length=2:=⟨by simp only [wl];omega,rfl⟩
theorem EP(a b c:α):wl [a,b,c]=wt a+wt b+wt c+3∧ [a,b,c].length=3:=⟨by simp only [wl];omega,rfl⟩
theorem av8(a b c d:α):wl [a,b,c,d]=wt a+wt b+wt c+wt d+4∧ [a,b,c,d].length=4:=⟨by simp only [wl];omega,rfl⟩
theorem arD(a b c d e:α):wl [a,b,c,d,e]=wt a+wt b+wt c+wt d+wt e+5∧ [a,b,c,d,e].length=5:=⟨by simp only [wl];omega,rfl⟩
theorem asX(a b c d e f g:α):wl [a,b,c,d,e,f,g]=wt a+wt b+wt c+wt d+wt e+wt f+wt g+7∧ [a,b,c,d,e,f,g].length=7:=⟨by simp only [wl];omega,rfl⟩
theorem aZ(l:List α):l.length≤wl l:=by
 induction l with
 |nil=>simp
 |cons a l ih=>simp only [wl,List.length_cons];omega
theorem I3(k:Nat)(l:List α):wl (l.take k)+wl (l.drop k)=wl l:=by
 have:=(b0 (l.take k) (l.drop k)).1
 rw [List.take_append_drop] at this
 omega
theorem oY(l:List α)(k:Nat):wl (l.take k)≤wl l:=by have:=I3 k l;omega
theorem aqD(k:Nat)(l:List α):wl (l.drop k)≤wl l:=by have:=I3 k l;omega
theorem UM(a b:Nat)(l:List α):wl (List.drop a (List.take b l))≤wl l∧(List.drop a (List.take b l)).length=min b l.length-a:=by
 have h1:=aqD a (l.take b)
 have h2:=oY l b
 exact⟨by omega,by simp⟩
theorem B7{l:List α}{x:α}(h:x∈l):wt x+1≤wl l:=by
 induction l with
 |nil=>simp at h
 |cons a l ih=>
  simp only [wl]
  rcases List.mem_cons.1 h with rfl|h
  ·omega
  ·have:=ih h;omega
theorem ad1(l:List α)(a b:Nat):a≤b→wl (l.take a)≤wl (l.take b):=fun h=>by
 have:=oY (l.take b) a
 rwa [List.take_take,Nat.min_eq_left h] at this
theorem arT(L:List α)(b:Nat):1≤b→wl (List.drop (1:Int).toNat (List.take b L))+wl (List.take 1 L)≤wl (List.take b L):=fun h=>by
 have:=I3 1 (L.take b)
 rw [List.take_take,Nat.min_eq_left h] at this
 show wl (List.drop 1 _)+_≤_
 omega
variable [Inhabited α]
theorem cQ(l:List α)(i:Nat):i<l.length→wt (aR l i)+1≤wl l:=fun h=>B7 (cC h)
theorem oZ(l:List α)(i:Nat)(h:i<l.length):wl (l.take (i+1))=wl (l.take i)+wt (aR l i)+1:=by
 rw [I1 h,(b0 _ _).1,(b9 _).1]
 omega
theorem K9(l:List α)(i:Nat):i<l.length→wl (l.take (i+1))=wl (l.take i)+wt (aR l i)+1:=oZ l i
end
theorem eL(E:Int): -9223372036854775808≤E∧E≤9223372036854775807→aX E=E:=fun h=>by
 unfold aX IntKind.wrap
 simp [IntKind.bits,IntKind.signed]
 omega
theorem FG(b:ByteArray)(i j:Nat):(b.extract i j).size=min j b.size-i:=by simp [ByteArray.size_extract]
theorem eX(a b:ByteArray):(a++b).size=a.size+b.size:=ByteArray.size_append
theorem anT(l:List UInt8):(bytesStr l).size=l.length:=by simp [bytesStr,ByteArray.size]
theorem HQ{b:ByteArray}(h: ¬b=⟨#[]⟩):0<b.size:=by
 rcases Nat.eq_zero_or_pos b.size with h0|h0
 ·refine absurd ?_ h
  obtain⟨a⟩:=b
  have h1:a.size=0:=h0
  rw [Array.eq_empty_of_size_eq_zero h1]
 ·exact h0
theorem bO{p:Prop}(h:p:=by first|omega|(dsimp only;omega)|trivial|(dsimp only;trivial)):p:=h
theorem Ok.next{σ β:Type}{N E:σ→Prop}{Q:β→Prop}{s:σ}(h:N s):Ok (Option.some (LR.next s)) (PL Q N E):=⟨_,rfl,h⟩
theorem Ok.brk{σ β:Type}{N E:σ→Prop}{Q:β→Prop}{s:σ}(h:E s):Ok (Option.some (LR.brk s)) (PL Q N E):=⟨_,rfl,h⟩
theorem Ok.ret{σ β:Type}{N E:σ→Prop}{Q:β→Prop}{x:β}(h:Q x):Ok (Option.some (LR.ret (σ:=σ) x)) (PL Q N E):=⟨_,rfl,h⟩
theorem Ok.inr{σ β:Type}{E:σ→Prop}{Q:β→Prop}{s:σ}(h:E s):Ok (Option.some (Sum.inr (α:=β) s)) (PS Q E):=⟨_,rfl,h⟩
theorem Ok.swd{α:Type}{p:Prop}[Decidable p]{a b:Option α}{P:α→Prop}(ht:p→Ok a P)(hf: ¬p→Ok b P):Ok (Go.Proofs.YtfcoaagbccmahaaGreat.sw (decide p) a b) P:=Ok.sw (fun h=>ht (of_decide_eq_true h)) (fun h=>hf (of_decide_eq_false h))
theorem Ok.swn{α:Type}{p:Prop}[Decidable p]{a b:Option α}{P:α→Prop}(ht: ¬p→Ok a P)(hf:p→Ok b P):Ok (Go.Proofs.YtfcoaagbccmahaaGreat.sw (!decide p) a b) P:=Ok.sw (fun h=>ht (by simpa using h)) (fun h=>hf (by simpa using h))
theorem Ok.swb{α:Type}{x:Bool}{a b:Option α}{P:α→Prop}(ht:x=false→Ok a P)(hf:x=true→Ok b P):Ok (Go.Proofs.YtfcoaagbccmahaaGreat.sw (!x) a b) P:=Ok.sw (fun h=>ht (by simpa using h)) (fun h=>hf (by simpa using h))
theorem Ok.loop0{σ β:Type}{f:Nat→σ→Option (LR σ β)}{n i:Nat}{s:σ}{Q:β→Prop}{E:σ→Prop}(I:Nat→σ→Prop)(h0:I i s)(hE: ∀i s,n≤i→I i s→E s)(hs: ∀i s,i<n→I i s→Ok (f i s) (PL Q (I (i+1)) E)):Ok (Go.Proofs.YtfcoaagbccmahaaGreat.loopN f (n-i) i s) (PS Q E):=Ok.loopN0 I h0 hE hs
theorem Ok.loop1{σ β:Type}{f:Nat→σ→Option (LR σ β)}{n i:Nat}{s:σ}{Q:β→Prop}(hs: ∀i s,i<n→Ok (f i s) (PL Q (fun _=>True) (fun _=>True))):Ok (Go.Proofs.YtfcoaagbccmahaaGreat.loopN f (n-i) i s) (PS Q (fun _=>True)):=Ok.loopN0 (fun _ _=>True) trivial (fun _ _ _ _=>trivial) (fun i s hi _=>hs i s hi)
theorem oG{α:Type}{g:Prop}{a:Option α}{P:α→Prop}(k:g→Ok a P)(h:g:=by first|omega|trivial):Ok (Go.Proofs.YtfcoaagbccmahaaGreat.gd g a) P:=Ok.gdk h k
theorem oD{α:Type}{p:Prop}[Decidable p]{a b:Option α}{P:α→Prop}(ht:p→Ok a P)(hf: ¬p→Ok b P):Ok (Go.Proofs.YtfcoaagbccmahaaGreat.sw (decide p) a b) P:=Ok.swd ht hf
theorem oN{α:Type}{p:Prop}[Decidable p]{a b:Option α}{P:α→Prop}(ht: ¬p→Ok a P)(hf:p→Ok b P):Ok (Go.Proofs.YtfcoaagbccmahaaGreat.sw (!decide p) a b) P:=Ok.swn ht hf
theorem oW{α:Type}{x:Bool}{a b:Option α}{P:α→Prop}(ht:x=false→Ok a P)(hf:x=true→Ok b P):Ok (Go.Proofs.YtfcoaagbccmahaaGreat.sw (!x) a b) P:=Ok.swb ht hf
theorem oC{α:Type}{c:Bool}{a b:Option α}{P:α→Prop}(ht:c=true→Ok a P)(hf:c=false→Ok b P):Ok (Go.Proofs.YtfcoaagbccmahaaGreat.sw c a b) P:=Ok.sw ht hf
theorem oB{α β:Type}{o:Option α}{f:α→Option β}{Q:α→Prop}{P:β→Prop}(h:Ok o Q)(k: ∀a,Q a→Ok (f a) P):Ok (Go.Proofs.YtfcoaagbccmahaaGreat.bd o f) P:=Ok.bd h k
theorem SQ{α β:Type}{o:Option α}{f:α→Option β}{Q1 Q2:α→Prop}{P:β→Prop}(h:Ok o (fun r=>Q1 r∧Q2 r))(k: ∀a,Q1 a→Q2 a→Ok (f a) P):Ok (Go.Proofs.YtfcoaagbccmahaaGreat.bd o f) P:=Ok.bd h fun a q=>k a q.1 q.2
theorem vS{A B β:Type}{o:Option (A×B)}{f:A×B→Option β}{Q:A×B→Prop}{P:β→Prop}(h:Ok o Q)(k: ∀a b,Q (a,b)→Ok (f (a,b)) P):Ok (Go.Proofs.YtfcoaagbccmahaaGreat.bd o f) P:=Ok.bd h fun _ q=>k _ _ q
theorem oB4{A B C D β:Type}{o:Option (A×B×C×D)}{f:A×B×C×D→Option β}{Q:A×B×C×D→Prop}{P:β→Prop}(h:Ok o Q)(k: ∀a b c d,Q (a,b,c,d)→Ok (f (a,b,c,d)) P):Ok (Go.Proofs.YtfcoaagbccmahaaGreat.bd o f) P:=Ok.bd h fun _ q=>k _ _ _ _ q
theorem oB6{A B C D E F β:Type}{o:Option (A×B×C×D×E×F)}{f:A×B×C×D×E×F→Option β}{Q:A×B×C×D×E×F→Prop}{P:β→Prop}(h:Ok o Q)(k: ∀a b c d e g,Q (a,b,c,d,e,g)→Ok (f (a,b,c,d,e,g)) P):Ok (Go.Proofs.YtfcoaagbccmahaaGreat.bd o f) P:=Ok.bd h fun _ q=>k _ _ _ _ _ _ q
theorem oS{α:Type}{P:α→Prop}{a:α}(h:P a:=by first|trivial|omega|(dsimp only;omega)):Ok (Option.some a) P:=⟨a,rfl,h⟩
theorem nY{σ β:Type}{N E:σ→Prop}{Q:β→Prop}{s:σ}(h:N s:=by first|trivial|omega|(dsimp only;omega)):Ok (Option.some (LR.next s)) (PL Q N E):=⟨_,rfl,h⟩
theorem oK{σ β:Type}{N E:σ→Prop}{Q:β→Prop}{s:σ}(h:E s:=by first|trivial|omega|(dsimp only;omega)):Ok (Option.some (LR.brk s)) (PL Q N E):=⟨_,rfl,h⟩
theorem oR{σ β:Type}{N E:σ→Prop}{Q:β→Prop}{x:β}(h:Q x:=by first|trivial|omega|(dsimp only;omega)):Ok (Option.some (LR.ret (σ:=σ) x)) (PL Q N E):=⟨_,rfl,h⟩
theorem oL{σ β:Type}{E:σ→Prop}{Q:β→Prop}{x:β}(h:Q x:=by first|trivial|omega|(dsimp only;omega)):Ok (Option.some (Sum.inl (β:=σ) x)) (PS Q E):=⟨_,rfl,h⟩
theorem oI{σ β:Type}{E:σ→Prop}{Q:β→Prop}{s:σ}(h:E s:=by first|trivial|omega|(dsimp only;omega)):Ok (Option.some (Sum.inr (α:=β) s)) (PS Q E):=⟨_,rfl,h⟩
theorem G0{σ β:Type}{o:Option (β⊕σ)}{f:σ→Option β}{P:β→Prop}(h:Ok o (PS P fun _=>True))(k: ∀s,True→Ok (f s) P):Ok (Go.Proofs.YtfcoaagbccmahaaGreat.so o f) P:=Ok.sok h k
theorem oEN{σ β:Type}{n i0:Nat}{s0:σ}{F:Nat→σ→Option (LR σ β)}{f:σ→Option β}{P:β→Prop}(hs: ∀i s,i<n→Ok (F i s) (PL P (fun _=>True) (fun _=>True)))(k: ∀s,True→Ok (f s) P):Ok (Go.Proofs.YtfcoaagbccmahaaGreat.so (Go.Proofs.YtfcoaagbccmahaaGreat.loopN F (n-i0) i0 s0) f) P:=Ok.sok (Ok.loop1 hs) k
theorem QX{A B β:Type}[Wt A][Wt B][Inhabited A]{F:Nat→List B→Option (LR (List B) β)}{f:List B→Option β}{i0:Nat}{v0:List B}{Q:β→Prop}(L:List A)(c:Nat)
 (hs: ∀i v,i<L.length→wl v+c*wl (List.take i0 L)≤wl v0+c*wl (List.take i L)→wl (L.take (i+1))=wl (L.take i)+wt (aR L i)+1→wl (L.take (i+1))≤wl L→
  Ok (F i v) (PL Q (fun v=>wl v+c*wl (List.take i0 L)≤wl v0+c*wl (List.take (i+1) L)) (fun v=>wl v+c*wl (List.take i0 L)≤wl v0+c*wl L)))
 (k: ∀v,wl v+c*wl (List.take i0 L)≤wl v0+c*wl L→Ok (f v) Q):Ok (Go.Proofs.YtfcoaagbccmahaaGreat.so (Go.Proofs.YtfcoaagbccmahaaGreat.loopN F (L.length-i0) i0 v0) f) Q:=
 Ok.sok (Ok.loopN0 (fun i v=>wl v+c*wl (List.take i0 L)≤wl v0+c*wl (List.take i L)) (Nat.le_refl _) (fun i v _ h=>Nat.le_trans h (Nat.add_le_add_left (Nat.mul_le_mul_left _ (oY L i)) _)) (fun i v hi h=>hs i v hi h (oZ L i hi) (oY L _))) k
theorem apS{A B β:Type}[Wt A][Wt B][Inhabited A]{F:Nat→List B→Option (LR (List B) β)}{f:List B→Option β}{i0:Nat}{Q:β→Prop}{PA:B→Prop}(L:List A)(c:Nat)
 (hs: ∀i v,i<L.length→wl v+c*wl (List.take i0 L)≤wl ([]:List B)+c*wl (List.take i L)→(∀a∈v,PA a)→wl (L.take (i+1))=wl (L.take i)+wt (aR L i)+1→wl (L.take (i+1))≤wl L→
  Ok (F i v) (PL Q (fun v=>wl v+c*wl (List.take i0 L)≤wl ([]:List B)+c*wl (List.take (i+1) L)∧ ∀a∈v,PA a) (fun v=>wl v+c*wl (List.take i0 L)≤wl ([]:List B)+c*wl L∧ ∀a∈v,PA a)))
 (k: ∀v,(wl v+c*wl (List.take i0 L)≤wl ([]:List B)+c*wl L∧ ∀a∈v,PA a)→Ok (f v) Q):Ok (Go.Proofs.YtfcoaagbccmahaaGreat.so (Go.Proofs.YtfcoaagbccmahaaGreat.loopN F (L.length-i0) i0 []) f) Q:=
 Ok.sok (Ok.loopN0 (fun i v=>wl v+c*wl (List.take i0 L)≤wl ([]:List B)+c*wl (List.take i L)∧ ∀a∈v,PA a) ⟨Nat.le_refl _,by simp⟩ (fun i v _ h=>⟨Nat.le_trans h.1 (Nat.add_le_add_left (Nat.mul_le_mul_left _ (oY L i)) _),h.2⟩) (fun i v hi h=>hs i v hi h.1 h.2 (oZ L i hi) (oY L _))) k
instance:Wt aC:=⟨fun x=>Tr.bulkL (aC.tr x)⟩
instance:Wt aA:=⟨fun x=>Tr.bulkL (aA.tr x)⟩
instance:Wt aL:=⟨fun x=>Tr.bulkL (aL.tr x)⟩
instance:Wt bU:=⟨fun x=>Tr.bulkL (bU.tr x)⟩
instance:Wt aG:=⟨fun x=>Tr.bulkL (aG.tr x)⟩
instance:Wt aV:=⟨fun x=>Tr.bulkL (aV.tr x)⟩
instance:Wt aQ:=⟨fun x=>Tr.bulkL (aQ.tr x)⟩
instance:Wt aD:=⟨fun x=>Tr.bulkL (aD.tr x)⟩
instance:Wt aE:=⟨fun x=>Tr.bulkL (aE.tr x)⟩
instance:Wt aU:=⟨fun x=>Tr.bulkL (aU.tr x)⟩
instance:Wt aN:=⟨fun x=>Tr.bulkL (aN.tr x)⟩
instance:Wt aI:=⟨fun x=>Tr.bulkL (aI.tr x)⟩
instance:Wt aO:=⟨fun x=>Tr.bulkL (aO.tr x)⟩
instance:Wt aM:=⟨fun x=>Tr.bulkL (aM.tr x)⟩
instance:Wt aF:=⟨fun x=>Tr.bulkL (aF.tr x)⟩
instance:Wt aB:=⟨fun x=>Tr.bulkL (aB.tr x)⟩
instance:Wt aJ:=⟨fun x=>Tr.bulkL (aJ.tr x)⟩
instance:Wt aK:=⟨fun x=>Tr.bulkL (aK.tr x)⟩
instance:Wt aH:=⟨fun x=>Tr.bulkL (aH.tr x)⟩
instance:Wt cP:=⟨fun x=>Tr.bulkL (cP.tr x)⟩
instance:Wt bH:=⟨fun x=>Tr.bulkL (bH.tr x)⟩
theorem aA.wl_bulk(l:List aA):wl l=l.length+Tr.bulkAll (aA.trs l):=by
 induction l with
 |nil=>rw [aA.bks_nil];rfl
 |cons a l ih=>
  rw [aA.bks_cons]
  simp only [wl,List.length_cons,ih]
  show Tr.bulkL (aA.tr a)+1+_=_
  omega
theorem aL.wl_bulk(l:List aL):wl l=l.length+Tr.bulkAll (aL.trs l):=by
 induction l with
 |nil=>rw [aL.bks_nil];rfl
 |cons a l ih=>
  rw [aL.bks_cons]
  simp only [wl,List.length_cons,ih]
  show Tr.bulkL (aL.tr a)+1+_=_
  omega
theorem bU.wl_bulk(l:List bU):wl l=l.length+Tr.bulkAll (bU.trs l):=by
 induction l with
 |nil=>rw [bU.bks_nil];rfl
 |cons a l ih=>
  rw [bU.bks_cons]
  simp only [wl,List.length_cons,ih]
  show Tr.bulkL (bU.tr a)+1+_=_
  omega
theorem aG.wl_bulk(l:List aG):wl l=l.length+Tr.bulkAll (aG.trs l):=by
 induction l with
 |nil=>rw [aG.bks_nil];rfl
 |cons a l ih=>
  rw [aG.bks_cons]
  simp only [wl,List.length_cons,ih]
  show Tr.bulkL (aG.tr a)+1+_=_
  omega
theorem aV.wl_bulk(l:List aV):wl l=l.length+Tr.bulkAll (aV.trs l):=by
 induction l with
 |nil=>rw [aV.bks_nil];rfl
 |cons a l ih=>
  rw [aV.bks_cons]
  simp only [wl,List.length_cons,ih]
  show Tr.bulkL (aV.tr a)+1+_=_
  omega
theorem aQ.wl_bulk(l:List aQ):wl l=l.length+Tr.bulkAll (aQ.trs l):=by
 induction l with
 |nil=>rw [aQ.bks_nil];rfl
 |cons a l ih=>
  rw [aQ.bks_cons]
  simp only [wl,List.length_cons,ih]
  show Tr.bulkL (aQ.tr a)+1+_=_
  omega
theorem aD.wl_bulk(l:List aD):wl l=l.length+Tr.bulkAll (aD.trs l):=by
 induction l with
 |nil=>rw [aD.bks_nil];rfl
 |cons a l ih=>
  rw [aD.bks_cons]
  simp only [wl,List.length_cons,ih]
  show Tr.bulkL (aD.tr a)+1+_=_
  omega
theorem aE.wl_bulk(l:List aE):wl l=l.length+Tr.bulkAll (aE.trs l):=by
 induction l with
 |nil=>rw [aE.bks_nil];rfl
 |cons a l ih=>
  rw [aE.bks_cons]
  simp only [wl,List.length_cons,ih]
  show Tr.bulkL (aE.tr a)+1+_=_
  omega
theorem aU.wl_bulk(l:List aU):wl l=l.length+Tr.bulkAll (aU.trs l):=by
 induction l with
 |nil=>rw [aU.bks_nil];rfl
 |cons a l ih=>
  rw [aU.bks_cons]
  simp only [wl,List.length_cons,ih]
  show Tr.bulkL (aU.tr a)+1+_=_
  omega
theorem aN.wl_bulk(l:List aN):wl l=l.length+Tr.bulkAll (aN.trs l):=by
 induction l with
 |nil=>rw [aN.bks_nil];rfl
 |cons a l ih=>
  rw [aN.bks_cons]
  simp only [wl,List.length_cons,ih]
  show Tr.bulkL (aN.tr a)+1+_=_
  omega
theorem aI.wl_bulk(l:List aI):wl l=l.length+Tr.bulkAll (aI.trs l):=by
 induction l with
 |nil=>rw [aI.bks_nil];rfl
 |cons a l ih=>
  rw [aI.bks_cons]
  simp only [wl,List.length_cons,ih]
  show Tr.bulkL (aI.tr a)+1+_=_
  omega
theorem aO.wl_bulk(l:List aO):wl l=l.length+Tr.bulkAll (aO.trs l):=by
 induction l with
 |nil=>rw [aO.bks_nil];rfl
 |cons a l ih=>
  rw [aO.bks_cons]
  simp only [wl,List.length_cons,ih]
  show Tr.bulkL (aO.tr a)+1+_=_
  omega
theorem aM.wl_bulk(l:List aM):wl l=l.length+Tr.bulkAll (aM.trs l):=by
 induction l with
 |nil=>rw [aM.bks_nil];rfl
 |cons a l ih=>
  rw [aM.bks_cons]
  simp only [wl,List.length_cons,ih]
  show Tr.bulkL (aM.tr a)+1+_=_
  omega
theorem aB.wl_bulk(l:List aB):wl l=l.length+Tr.bulkAll (aB.trs l):=by
 induction l with
 |nil=>rw [aB.bks_nil];rfl
 |cons a l ih=>
  rw [aB.bks_cons]
  simp only [wl,List.length_cons,ih]
  show Tr.bulkL (aB.tr a)+1+_=_
  omega
theorem aA.wt_mk(v0:Int)(v1:ByteArray)(v2:List aA):wt (aA.mk v0 v1 v2)=v1.size+wl v2:=by
 show Tr.bulkL (aA.tr (.mk v0 v1 v2))=_
 rw [aA.bk_mk]
 simp only [aA.wl_bulk]
 try rfl
theorem aA.wt_eq(x:aA):wt x=x.aB9.size+wl x.aCa:=by
 obtain⟨v0,v1,v2⟩:=x
 exact aA.wt_mk v0 v1 v2
theorem aL.wt_mk(v0:Int)(v1:ByteArray)(v2:ByteArray)(v3:Int)(v4:aA)(v5:List aL)(v6:List bU):wt (aL.mk v0 v1 v2 v3 v4 v5 v6)=v1.size+v2.size+wt v4+wl v5+wl v6:=by
 show Tr.bulkL (aL.tr (.mk v0 v1 v2 v3 v4 v5 v6))=_
 rw [aL.bk_mk]
 simp only [aL.wl_bulk,bU.wl_bulk]
 try rfl
theorem aL.wt_eq(x:aL):wt x=x.aCg.size+x.aB9.size+wt x.aCd+wl x.aCa+wl x.aCu:=by
 obtain⟨v0,v1,v2,v3,v4,v5,v6⟩:=x
 exact aL.wt_mk v0 v1 v2 v3 v4 v5 v6
theorem bU.wt_mk(v0:ByteArray)(v1:LB)(v2:aL):wt (bU.mk v0 v1 v2)=v0.size+wl v1+wt v2:=by
 show Tr.bulkL (bU.tr (.mk v0 v1 v2))=_
 rw [bU.bk_mk]
 simp only [I4]
 try rfl
theorem bU.wt_eq(x:bU):wt x=x.aCy.size+wl x.aCm+wt x.aCj:=by
 obtain⟨v0,v1,v2⟩:=x
 exact bU.wt_mk v0 v1 v2
theorem aG.wt_mk(v0:ByteArray)(v1:aA):wt (aG.mk v0 v1)=v0.size+wt v1:=by
 show Tr.bulkL (aG.tr (.mk v0 v1))=_
 rw [aG.bk_mk]
 try rfl
theorem aG.wt_eq(x:aG):wt x=x.aCg.size+wt x.aCd:=by
 obtain⟨v0,v1⟩:=x
 exact aG.wt_mk v0 v1
theorem aV.wt_mk(v0:ByteArray)(v1:aA):wt (aV.mk v0 v1)=v0.size+wt v1:=by
 show Tr.bulkL (aV.tr (.mk v0 v1))=_
 rw [aV.bk_mk]
 try rfl
theorem aV.wt_eq(x:aV):wt x=x.aB9.size+wt x.aCd:=by
 obtain⟨v0,v1⟩:=x
 exact aV.wt_mk v0 v1
theorem aQ.wt_mk(v0:ByteArray)(v1:LB)(v2:aL):wt (aQ.mk v0 v1 v2)=v0.size+wl v1+wt v2:=by
 show Tr.bulkL (aQ.tr (.mk v0 v1 v2))=_
 rw [aQ.bk_mk]
 simp only [I4]
 try rfl
theorem aQ.wt_eq(x:aQ):wt x=x.aB9.size+wl x.aCm+wt x.aCj:=by
 obtain⟨v0,v1,v2⟩:=x
 exact aQ.wt_mk v0 v1 v2
theorem aD.wt_mk(v0:ByteArray)(v1:List aA):wt (aD.mk v0 v1)=v0.size+wl v1:=by
 show Tr.bulkL (aD.tr (.mk v0 v1))=_
 rw [aD.bk_mk]
 simp only [aA.wl_bulk]
 try rfl
theorem aD.wt_eq(x:aD):wt x=x.aB9.size+wl x.aCs:=by
 obtain⟨v0,v1⟩:=x
 exact aD.wt_mk v0 v1
theorem aE.wt_mk(v0:ByteArray)(v1:List aA)(v2:aA)(v3:Bool)(v4:LB)(v5:aL):wt (aE.mk v0 v1 v2 v3 v4 v5)=v0.size+wl v1+wt v2+wl v4+wt v5:=by
 show Tr.bulkL (aE.tr (.mk v0 v1 v2 v3 v4 v5))=_
 rw [aE.bk_mk]
 simp only [aA.wl_bulk,I4]
 try rfl
theorem aE.wt_eq(x:aE):wt x=x.aB9.size+wl x.aCt+wt x.aCr+wl x.aCm+wt x.aCj:=by
 obtain⟨v0,v1,v2,v3,v4,v5⟩:=x
 exact aE.wt_mk v0 v1 v2 v3 v4 v5
theorem aU.wt_mk(v0:ByteArray)(v1:LB)(v2:Bool)(v3:Bool)(v4:List aE):wt (aU.mk v0 v1 v2 v3 v4)=v0.size+wl v1+wl v4:=by
 show Tr.bulkL (aU.tr (.mk v0 v1 v2 v3 v4))=_
 rw [aU.bk_mk]
 simp only [I4,aE.wl_bulk]
 try rfl
theorem aU.wt_eq(x:aU):wt x=x.aB9.size+wl x.aCi+wl x.aCv:=by
 obtain⟨v0,v1,v2,v3,v4⟩:=x
 exact aU.wt_mk v0 v1 v2 v3 v4
theorem aN.wt_mk(v0:ByteArray)(v1:LB)(v2:List aD):wt (aN.mk v0 v1 v2)=v0.size+wl v1+wl v2:=by
 show Tr.bulkL (aN.tr (.mk v0 v1 v2))=_
 rw [aN.bk_mk]
 simp only [I4,aD.wl_bulk]
 try rfl
theorem aN.wt_eq(x:aN):wt x=x.aB9.size+wl x.aCm+wl x.aCe:=by
 obtain⟨v0,v1,v2⟩:=x
 exact aN.wt_mk v0 v1 v2
theorem aI.wt_mk(v0:ByteArray)(v1:LB)(v2:aA)(v3:List aG)(v4:Bool)(v5:Bool)(v6:aA)(v7:List aQ):wt (aI.mk v0 v1 v2 v3 v4 v5 v6 v7)=v0.size+wl v1+wt v2+wl v3+wt v6+wl v7:=by
 show Tr.bulkL (aI.tr (.mk v0 v1 v2 v3 v4 v5 v6 v7))=_
 rw [aI.bk_mk]
 simp only [I4,aG.wl_bulk,aQ.wl_bulk]
 try rfl
theorem aI.wt_eq(x:aI):wt x=x.aCg.size+wl x.aCm+wt x.aCn+wl x.aCq+wt x.aCp+wl x.aCA:=by
 obtain⟨v0,v1,v2,v3,v4,v5,v6,v7⟩:=x
 exact aI.wt_mk v0 v1 v2 v3 v4 v5 v6 v7
theorem aO.wt_mk(v0:ByteArray)(v1:LB)(v2:List aG)(v3:List aV)(v4:aA)(v5:aL):wt (aO.mk v0 v1 v2 v3 v4 v5)=v0.size+wl v1+wl v2+wl v3+wt v4+wt v5:=by
 show Tr.bulkL (aO.tr (.mk v0 v1 v2 v3 v4 v5))=_
 rw [aO.bk_mk]
 simp only [I4,aG.wl_bulk,aV.wl_bulk]
 try rfl
theorem aO.wt_eq(x:aO):wt x=x.aB9.size+wl x.aCm+wl x.aCq+wl x.aCt+wt x.aCr+wt x.aCj:=by
 obtain⟨v0,v1,v2,v3,v4,v5⟩:=x
 exact aO.wt_mk v0 v1 v2 v3 v4 v5
theorem aM.wt_mk(v0:ByteArray)(v1:LB)(v2:List aU)(v3:List aN)(v4:List aI)(v5:List aO):wt (aM.mk v0 v1 v2 v3 v4 v5)=v0.size+wl v1+wl v2+wl v3+wl v4+wl v5:=by
 show Tr.bulkL (aM.tr (.mk v0 v1 v2 v3 v4 v5))=_
 rw [aM.bk_mk]
 simp only [I4,aU.wl_bulk,aN.wl_bulk,aI.wl_bulk,aO.wl_bulk]
 try rfl
theorem aM.wt_eq(x:aM):wt x=x.aB9.size+wl x.aCK+wl x.aCo+wl x.aCh+wl x.aCk+wl x.aCx:=by
 obtain⟨v0,v1,v2,v3,v4,v5⟩:=x
 exact aM.wt_mk v0 v1 v2 v3 v4 v5
theorem aF.wt_mk(v0:List aM):wt (aF.mk v0)=wl v0:=by
 show Tr.bulkL (aF.tr (.mk v0))=_
 rw [aF.bk_mk]
 simp only [aM.wl_bulk]
 try rfl
theorem aF.wt_eq(x:aF):wt x=wl x.aB8:=by
 obtain⟨v0⟩:=x
 exact aF.wt_mk v0
theorem aB.wt_mk(v0:ByteArray)(v1:List aB):wt (aB.mk v0 v1)=v0.size+wl v1:=by
 show Tr.bulkL (aB.tr (.mk v0 v1))=_
 rw [aB.bk_mk]
 simp only [aB.wl_bulk]
 try rfl
theorem aB.wt_eq(x:aB):wt x=x.aCf.size+wl x.aCc:=by
 obtain⟨v0,v1⟩:=x
 exact aB.wt_mk v0 v1
end Go.Proofs.YtfcoaagbccmahaaGreat
