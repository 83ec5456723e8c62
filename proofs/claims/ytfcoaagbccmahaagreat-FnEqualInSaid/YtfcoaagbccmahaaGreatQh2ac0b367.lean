/- Words, rules and walks of several kinds, laid together. No conditions but those that each theorem states. -/
import Derived.Test.YtfcoaagbccmahaaGreatQh2e63dee1
set_option linter.unusedSimpArgs false
set_option linter.unusedVariables false
namespace Go.Proofs.YtfcoaagbccmahaaGreat.W
set_option maxRecDepth 100000
set_option maxHeartbeats 40000000
noncomputable section
open Tryz Go.RowKit Go.Proofs
attribute [local irreducible] lt
abbrev J9:=DS→(LB)→Int→Option (aA×DS)
def PG(m:J9):Prop:= ∀(pc:DS) (p4:LB) (p3:Int) (r:aA×DS),m pc p4 p3=some r→AY Tryz.prog 131 [.ptr 0 0,rS p4,pI p3] ⟨[some ⟨133,dC pc⟩],[]⟩ [some ⟨133,dC r.2⟩] 30 3 (aA.trs (r.1.aB4)) (fun k=> .agg [pI r.1.aB5,pS r.1.aB3,gM r.1.aB4 k])
theorem ahD{m:J9}(h:PG m)(pc:DS)(p4:LB)(p3:Int)(r:aA×DS)(H:m pc p4 p3=some r):b7 Tryz.prog 131 [.ptr 0 0,rS p4,pI p3] ⟨[some ⟨133,dC pc⟩],[]⟩ (fun q t=>q=((aA.pv r.1):PV)∧t=⟨[some ⟨133,dC r.2⟩],[]⟩):=(h pc p4 p3 r H).plain (fun _=>jN) (hp:=anW)
def UL(fu:Nat)(p9:J9)(pc:DS)(p4:LB)(p3:Int):Option (aA×DS):=lt (pc.after 8) fun d1=>sw (decide ((pc.below 8:Int)<3)) (sw (decide ((p4.length:Int)>0)) (lt (d1.after p4.length) fun d5=>gd (d1.below p4.length<(p4).length) (bd (l4 fu (aT p4 (d1.below p4.length))) fun x9=>some ((aA.mk x9.aB5 x9.aB3 x9.aB4),d5))) (sw (decide ((pc.below 8:Int)<5)) (lt (d1.after ([eG,eD,gG]:LB).length) fun d11=>lt (d1.pick ([eG,eD,gG]:LB)) fun y13=>bd (eY fu y13 ([])) fun x16=>some ((aA.mk x16.aB5 x16.aB3 x16.aB4),d11)) (sw (decide (p3≤0)) (lt (d1.after ([eG,eD,gG]:LB).length) fun d18=>lt (d1.pick ([eG,eD,gG]:LB)) fun y20=>bd (eY fu y20 ([])) fun x23=>some ((aA.mk x23.aB5 x23.aB3 x23.aB4),d18)) (sw (decide ((pc.below 8:Int)=5)) (bd (p9 d1 p4 (aX (p3-1))) fun(x26,x27)=>bd (p9 x27 p4 (aX (p3-1))) fun(x29,x30)=>bd (eY fu lY ([(aA.mk x26.aB5 x26.aB3 x26.aB4),(aA.mk x29.aB5 x29.aB3 x29.aB4)]:List aA)) fun x32=>some ((aA.mk x32.aB5 x32.aB3 x32.aB4),x30)) (lt (d1.after ([cH,cH,o6]:LB).length) fun d33=>lt (d1.pick ([cH,cH,o6]:LB)) fun y35=>bd (p9 d33 p4 (aX (p3-1))) fun(x38,x39)=>bd (eY fu y35 ([(aA.mk x38.aB5 x38.aB3 x38.aB4)]:List aA)) fun x41=>some ((aA.mk x41.aB5 x41.aB3 x41.aB4),x39)))))) (sw (decide ((pc.below 8:Int)<5)) (lt (d1.after ([eG,eD,gG]:LB).length) fun d43=>lt (d1.pick ([eG,eD,gG]:LB)) fun y45=>bd (eY fu y45 ([])) fun x48=>some ((aA.mk x48.aB5 x48.aB3 x48.aB4),d43)) (sw (decide (p3≤0)) (lt (d1.after ([eG,eD,gG]:LB).length) fun d50=>lt (d1.pick ([eG,eD,gG]:LB)) fun y52=>bd (eY fu y52 ([])) fun x55=>some ((aA.mk x55.aB5 x55.aB3 x55.aB4),d50)) (sw (decide ((pc.below 8:Int)=5)) (bd (p9 d1 p4 (aX (p3-1))) fun(x58,x59)=>bd (p9 x59 p4 (aX (p3-1))) fun(x61,x62)=>bd (eY fu lY ([(aA.mk x58.aB5 x58.aB3 x58.aB4),(aA.mk x61.aB5 x61.aB3 x61.aB4)]:List aA)) fun x64=>some ((aA.mk x64.aB5 x64.aB3 x64.aB4),x62)) (lt (d1.after ([cH,cH,o6]:LB).length) fun d65=>lt (d1.pick ([cH,cH,o6]:LB)) fun y67=>bd (p9 d65 p4 (aX (p3-1))) fun(x70,x71)=>bd (eY fu y67 ([(aA.mk x70.aB5 x70.aB3 x70.aB4)]:List aA)) fun x73=>some ((aA.mk x73.aB5 x73.aB3 x73.aB4),x71)))))
theorem aj7(fu:Nat)(p9:J9)(pC:PG p9):PG (UL fu p9):=by
 intro pc p4 p3 r H
 unfold AY
 refine qJ func131 H (fun C hC H=>?_)
 refine gQ 7 ?_;refine fZ H fun d1 h2 H=>(q1 (eU [0] [] func73 (EU h2 (fI pc 8))) ?_)
 refine gQ 9 ?_;refine dH 13 H (fun g3 H=>?_) fun g3 H=>?_
 ·have g3n:pc.below 8<3:=by have:=of_decide_eq_true g3;omega
  refine gQ 6 ?_;refine bC H (fun h4 H=>?_) (fun h4 H=>?_)
  ·refine gQ 6 ?_;refine fZ H fun d5 h6 H=>(q1 (eU [0] [] func73 (EU h6 (fI d1 p4.length))) (cC H fun z7 H=>?_))
   refine gQ 2 ?_;refine bK H fun x9 z8 H=>(q1 (bB.callOwn (pre:=⟨[],[]⟩) (B:= []) (R:=fun k=> .agg [pI x9.aB5,pS x9.aB3,gM x9.aB4 k]) (ps:= [_]) (qs:= [pS (aT p4 (d1.below p4.length))]) [] rfl rfl func137 (by kernel_rfl) rfl rfl rfl (eZ.of trivial trivial (by decide) (by decide)) rfl jN rfl rfl rfl (fun k k'=>(.agg (.cons (.free _ rfl) (.cons (.free _ rfl) (.cons Mv.acc GX.nil))))) (jH fu (aT p4 (d1.below p4.length)) _ z8)) ?_)
   refine gQ 2 ?_;refine cQ.ret ?_
   obtain rfl:_=r:=(vI H:)
   exact V6 (st':=⟨[some ⟨133,dC d5⟩],[⟨30,3,aA.trs (x9.aB4),false⟩]⟩) ⟨0,rfl,rfl,rfl⟩ (hr:=⟨⟨_,_,_,rfl,rfl,CC.h,rfl,rfl⟩,trivial⟩)
  refine gQ 5 ?_;refine dH 29 H (fun g10 H=>?_) fun g10 H=>?_
  ·have g10n:pc.below 8<5:=by have:=of_decide_eq_true g10;omega
   refine gQ 9 ?_;refine q1 (iF ([eG,eD,gG]:LB)) (fZ H fun d11 h12 H=>(fZ H fun y13 h14 H=>(q1 (eU [0] [] func48 (PP h12 h14 (f7 d1 ([eG,eD,gG]:LB) (by decide)))) (bK H fun x16 z15 H=>(q1 (bB.callOwn (pre:=⟨[],[]⟩) (B:= []) (R:=fun k=> .agg [pI x16.aB5,pS x16.aB3,gM x16.aB4 k]) (ps:= [_,_]) (qs:= [pS y13,_]) [] rfl rfl func47 (by kernel_rfl) rfl rfl rfl (eZ.of trivial trivial (by decide) (by decide)) rfl jN rfl rfl rfl (fun k k'=>(.agg (.cons (.free _ rfl) (.cons (.free _ rfl) (.cons Mv.acc GX.nil))))) (fO fu y13 ([]) _ z15)) ?_)))))
   refine gQ 2 ?_;refine cQ.ret ?_
   obtain rfl:_=r:=(vI H:)
   exact V6 (st':=⟨[some ⟨133,dC d11⟩],[⟨30,3,aA.trs (x16.aB4),false⟩]⟩) ⟨0,rfl,rfl,rfl⟩ (hr:=⟨⟨_,_,_,rfl,rfl,CC.h,rfl,rfl⟩,trivial⟩)
  refine gQ 5 ?_;refine bC H (fun h17 H=>?_) (fun h17 H=>?_)
  ·refine gQ 3 ?_;refine q1 (iF ([eG,eD,gG]:LB)) (fZ H fun d18 h19 H=>(fZ H fun y20 h21 H=>(q1 (eU [0] [] func48 (PP h19 h21 (f7 d1 ([eG,eD,gG]:LB) (by decide)))) (bK H fun x23 z22 H=>(q1 (bB.callOwn (pre:=⟨[],[]⟩) (B:= []) (R:=fun k=> .agg [pI x23.aB5,pS x23.aB3,gM x23.aB4 k]) (ps:= [_,_]) (qs:= [pS y20,_]) [] rfl rfl func47 (by kernel_rfl) rfl rfl rfl (eZ.of trivial trivial (by decide) (by decide)) rfl jN rfl rfl rfl (fun k k'=>(.agg (.cons (.free _ rfl) (.cons (.free _ rfl) (.cons Mv.acc GX.nil))))) (fO fu y20 ([]) _ z22)) ?_)))))
   refine gQ 2 ?_;refine cQ.ret ?_
   obtain rfl:_=r:=(vI H:)
   exact V6 (st':=⟨[some ⟨133,dC d18⟩],[⟨30,3,aA.trs (x23.aB4),false⟩]⟩) ⟨0,rfl,rfl,rfl⟩ (hr:=⟨⟨_,_,_,rfl,rfl,CC.h,rfl,rfl⟩,trivial⟩)
  refine gQ 6 ?_;refine bC H (fun h24 H=>?_) (fun h24 H=>?_)
  ·refine gQ 6 ?_;refine dP H fun x26 x27 z25 H=>(q1 (bB.callOwn (pre:=⟨[some ⟨133,dC d1⟩],[]⟩) (B:= [some ⟨133,dC x27⟩]) (R:=fun k=> .agg [pI x26.aB5,pS x26.aB3,gM x26.aB4 k]) (ps:= [_,_,_]) (qs:= [.ptr 0 0,rS p4,pI (aX (p3-1))]) [0] rfl rfl func131 (by kernel_rfl) rfl rfl rfl (eZ.of ⟨⟨_,rfl,rfl,jN,rfl⟩,trivial⟩ trivial (by decide) (by decide)) rfl jN rfl rfl rfl (fun k k'=>(.agg (.cons (.free _ rfl) (.cons (.free _ rfl) (.cons Mv.acc GX.nil))))) (pC d1 p4 (aX (p3-1)) _ z25)) ?_)
   refine gQ 4 ?_;refine dP H fun x29 x30 z28 H=>(q1 (bB.callOwn (pre:=⟨[some ⟨133,dC x27⟩],[]⟩) (B:= [some ⟨133,dC x30⟩]) (R:=fun k=> .agg [pI x29.aB5,pS x29.aB3,gM x29.aB4 k]) (ps:= [_,_,_]) (qs:= [.ptr 0 0,rS p4,pI (aX (p3-1))]) [0] rfl rfl func131 (by kernel_rfl) rfl rfl rfl (eZ.of ⟨⟨_,rfl,rfl,jN,rfl⟩,trivial⟩ trivial (by decide) (by decide)) rfl jN rfl rfl rfl (fun k k'=>(.agg (.cons (.free _ rfl) (.cons (.free _ rfl) (.cons Mv.acc GX.nil))))) (pC x27 p4 (aX (p3-1)) _ z28)) (q1 (qE ([(aA.mk x26.aB5 x26.aB3 x26.aB4),(aA.mk x29.aB5 x29.aB3 x29.aB4)]:List aA)) (bK H fun x32 z31 H=>(q1 (bB.callOwn (pre:=⟨[],[]⟩) (B:= []) (R:=fun k=> .agg [pI x32.aB5,pS x32.aB3,gM x32.aB4 k]) (ps:= [_,_]) (qs:= [pS lY,aR ([(aA.mk x26.aB5 x26.aB3 x26.aB4),(aA.mk x29.aB5 x29.aB3 x29.aB4)]:List aA)]) [] rfl rfl func47 (by kernel_rfl) rfl rfl rfl (eZ.of trivial trivial (by decide) (by decide)) rfl jN rfl rfl rfl (fun k k'=>(.agg (.cons (.free _ rfl) (.cons (.free _ rfl) (.cons Mv.acc GX.nil))))) (fO fu lY ([(aA.mk x26.aB5 x26.aB3 x26.aB4),(aA.mk x29.aB5 x29.aB3 x29.aB4)]:List aA) _ z31)) ?_))))
   refine gQ 2 ?_;refine cQ.ret ?_
   obtain rfl:_=r:=(vI H:)
   exact V6 (st':=⟨[some ⟨133,dC x30⟩],[⟨30,3,aA.trs (x26.aB4),false⟩,⟨30,3,aA.trs (x29.aB4),false⟩,⟨30,3,aA.trs (([(aA.mk x26.aB5 x26.aB3 x26.aB4),(aA.mk x29.aB5 x29.aB3 x29.aB4)]:List aA)),false⟩,⟨30,3,aA.trs (x32.aB4),false⟩]⟩) ⟨3,rfl,rfl,rfl⟩ (hr:=⟨⟨_,_,_,rfl,rfl,CC.h,rfl,rfl⟩,trivial⟩)
  refine gQ 4 ?_;refine q1 (iF ([cH,cH,o6]:LB)) (fZ H fun d33 h34 H=>(fZ H fun y35 h36 H=>(q1 (eU [0] [] func48 (PP h34 h36 (f7 d1 ([cH,cH,o6]:LB) (by decide)))) ?_)))
  refine gQ 4 ?_;refine dP H fun x38 x39 z37 H=>(q1 (bB.callOwn (pre:=⟨[some ⟨133,dC d33⟩],[]⟩) (B:= [some ⟨133,dC x39⟩]) (R:=fun k=> .agg [pI x38.aB5,pS x38.aB3,gM x38.aB4 k]) (ps:= [_,_,_]) (qs:= [.ptr 0 0,rS p4,pI (aX (p3-1))]) [0] rfl rfl func131 (by kernel_rfl) rfl rfl rfl (eZ.of ⟨⟨_,rfl,rfl,jN,rfl⟩,trivial⟩ trivial (by decide) (by decide)) rfl jN rfl rfl rfl (fun k k'=>(.agg (.cons (.free _ rfl) (.cons (.free _ rfl) (.cons Mv.acc GX.nil))))) (pC d33 p4 (aX (p3-1)) _ z37)) (q1 (qE ([(aA.mk x38.aB5 x38.aB3 x38.aB4)]:List aA)) (bK H fun x41 z40 H=>(q1 (bB.callOwn (pre:=⟨[],[]⟩) (B:= []) (R:=fun k=> .agg [pI x41.aB5,pS x41.aB3,gM x41.aB4 k]) (ps:= [_,_]) (qs:= [pS y35,aR ([(aA.mk x38.aB5 x38.aB3 x38.aB4)]:List aA)]) [] rfl rfl func47 (by kernel_rfl) rfl rfl rfl (eZ.of trivial trivial (by decide) (by decide)) rfl jN rfl rfl rfl (fun k k'=>(.agg (.cons (.free _ rfl) (.cons (.free _ rfl) (.cons Mv.acc GX.nil))))) (fO fu y35 ([(aA.mk x38.aB5 x38.aB3 x38.aB4)]:List aA) _ z40)) ?_))))
  refine gQ 2 ?_;refine cQ.ret ?_
  obtain rfl:_=r:=(vI H:)
  exact V6 (st':=⟨[some ⟨133,dC x39⟩],[⟨30,3,aA.trs (x38.aB4),false⟩,⟨30,3,aA.trs (([(aA.mk x38.aB5 x38.aB3 x38.aB4)]:List aA)),false⟩,⟨30,3,aA.trs (x41.aB4),false⟩]⟩) ⟨2,rfl,rfl,rfl⟩ (hr:=⟨⟨_,_,_,rfl,rfl,CC.h,rfl,rfl⟩,trivial⟩)
 refine gQ 12 ?_;refine dH 29 H (fun g42 H=>?_) fun g42 H=>?_
 ·have g42n:pc.below 8<5:=by have:=of_decide_eq_true g42;omega
  refine gQ 9 ?_;refine q1 (iF ([eG,eD,gG]:LB)) (fZ H fun d43 h44 H=>(fZ H fun y45 h46 H=>(q1 (eU [0] [] func48 (PP h44 h46 (f7 d1 ([eG,eD,gG]:LB) (by decide)))) (bK H fun x48 z47 H=>(q1 (bB.callOwn (pre:=⟨[],[]⟩) (B:= []) (R:=fun k=> .agg [pI x48.aB5,pS x48.aB3,gM x48.aB4 k]) (ps:= [_,_]) (qs:= [pS y45,_]) [] rfl rfl func47 (by kernel_rfl) rfl rfl rfl (eZ.of trivial trivial (by decide) (by decide)) rfl jN rfl rfl rfl (fun k k'=>(.agg (.cons (.free _ rfl) (.cons (.free _ rfl) (.cons Mv.acc GX.nil))))) (fO fu y45 ([]) _ z47)) ?_)))))
  refine gQ 2 ?_;refine cQ.ret ?_
  obtain rfl:_=r:=(vI H:)
  exact V6 (st':=⟨[some ⟨133,dC d43⟩],[⟨30,3,aA.trs (x48.aB4),false⟩]⟩) ⟨0,rfl,rfl,rfl⟩ (hr:=⟨⟨_,_,_,rfl,rfl,CC.h,rfl,rfl⟩,trivial⟩)
 refine gQ 5 ?_;refine bC H (fun h49 H=>?_) (fun h49 H=>?_)
 ·refine gQ 3 ?_;refine q1 (iF ([eG,eD,gG]:LB)) (fZ H fun d50 h51 H=>(fZ H fun y52 h53 H=>(q1 (eU [0] [] func48 (PP h51 h53 (f7 d1 ([eG,eD,gG]:LB) (by decide)))) (bK H fun x55 z54 H=>(q1 (bB.callOwn (pre:=⟨[],[]⟩) (B:= []) (R:=fun k=> .agg [pI x55.aB5,pS x55.aB3,gM x55.aB4 k]) (ps:= [_,_]) (qs:= [pS y52,_]) [] rfl rfl func47 (by kernel_rfl) rfl rfl rfl (eZ.of trivial trivial (by decide) (by decide)) rfl jN rfl rfl rfl (fun k k'=>(.agg (.cons (.free _ rfl) (.cons (.free _ rfl) (.cons Mv.acc GX.nil))))) (fO fu y52 ([]) _ z54)) ?_)))))
  refine gQ 2 ?_;refine cQ.ret ?_
  obtain rfl:_=r:=(vI H:)
  exact V6 (st':=⟨[some ⟨133,dC d50⟩],[⟨30,3,aA.trs (x55.aB4),false⟩]⟩) ⟨0,rfl,rfl,rfl⟩ (hr:=⟨⟨_,_,_,rfl,rfl,CC.h,rfl,rfl⟩,trivial⟩)
 refine gQ 6 ?_;refine bC H (fun h56 H=>?_) (fun h56 H=>?_)
 ·refine gQ 6 ?_;refine dP H fun x58 x59 z57 H=>(q1 (bB.callOwn (pre:=⟨[some ⟨133,dC d1⟩],[]⟩) (B:= [some ⟨133,dC x59⟩]) (R:=fun k=> .agg [pI x58.aB5,pS x58.aB3,gM x58.aB4 k]) (ps:= [_,_,_]) (qs:= [.ptr 0 0,rS p4,pI (aX (p3-1))]) [0] rfl rfl func131 (by kernel_rfl) rfl rfl rfl (eZ.of ⟨⟨_,rfl,rfl,jN,rfl⟩,trivial⟩ trivial (by decide) (by decide)) rfl jN rfl rfl rfl (fun k k'=>(.agg (.cons (.free _ rfl) (.cons (.free _ rfl) (.cons Mv.acc GX.nil))))) (pC d1 p4 (aX (p3-1)) _ z57)) ?_)
  refine gQ 4 ?_;refine dP H fun x61 x62 z60 H=>(q1 (bB.callOwn (pre:=⟨[some ⟨133,dC x59⟩],[]⟩) (B:= [some ⟨133,dC x62⟩]) (R:=fun k=> .agg [pI x61.aB5,pS x61.aB3,gM x61.aB4 k]) (ps:= [_,_,_]) (qs:= [.ptr 0 0,rS p4,pI (aX (p3-1))]) [0] rfl rfl func131 (by kernel_rfl) rfl rfl rfl (eZ.of ⟨⟨_,rfl,rfl,jN,rfl⟩,trivial⟩ trivial (by decide) (by decide)) rfl jN rfl rfl rfl (fun k k'=>(.agg (.cons (.free _ rfl) (.cons (.free _ rfl) (.cons Mv.acc GX.nil))))) (pC x59 p4 (aX (p3-1)) _ z60)) (q1 (qE ([(aA.mk x58.aB5 x58.aB3 x58.aB4),(aA.mk x61.aB5 x61.aB3 x61.aB4)]:List aA)) (bK H fun x64 z63 H=>(q1 (bB.callOwn (pre:=⟨[],[]⟩) (B:= []) (R:=fun k=> .agg [pI x64.aB5,pS x64.aB3,gM x64.aB4 k]) (ps:= [_,_]) (qs:= [pS lY,aR ([(aA.mk x58.aB5 x58.aB3 x58.aB4),(aA.mk x61.aB5 x61.aB3 x61.aB4)]:List aA)]) [] rfl rfl func47 (by kernel_rfl) rfl rfl rfl (eZ.of trivial trivial (by decide) (by decide)) rfl jN rfl rfl rfl (fun k k'=>(.agg (.cons (.free _ rfl) (.cons (.free _ rfl) (.cons Mv.acc GX.nil))))) (fO fu lY ([(aA.mk x58.aB5 x58.aB3 x58.aB4),(aA.mk x61.aB5 x61.aB3 x61.aB4)]:List aA) _ z63)) ?_))))
  refine gQ 2 ?_;refine cQ.ret ?_
  obtain rfl:_=r:=(vI H:)
  exact V6 (st':=⟨[some ⟨133,dC x62⟩],[⟨30,3,aA.trs (x58.aB4),false⟩,⟨30,3,aA.trs (x61.aB4),false⟩,⟨30,3,aA.trs (([(aA.mk x58.aB5 x58.aB3 x58.aB4),(aA.mk x61.aB5 x61.aB3 x61.aB4)]:List aA)),false⟩,⟨30,3,aA.trs (x64.aB4),false⟩]⟩) ⟨3,rfl,rfl,rfl⟩ (hr:=⟨⟨_,_,_,rfl,rfl,CC.h,rfl,rfl⟩,trivial⟩)
 refine gQ 4 ?_;refine q1 (iF ([cH,cH,o6]:LB)) (fZ H fun d65 h66 H=>(fZ H fun y67 h68 H=>(q1 (eU [0] [] func48 (PP h66 h68 (f7 d1 ([cH,cH,o6]:LB) (by decide)))) ?_)))
 refine gQ 4 ?_;refine dP H fun x70 x71 z69 H=>(q1 (bB.callOwn (pre:=⟨[some ⟨133,dC d65⟩],[]⟩) (B:= [some ⟨133,dC x71⟩]) (R:=fun k=> .agg [pI x70.aB5,pS x70.aB3,gM x70.aB4 k]) (ps:= [_,_,_]) (qs:= [.ptr 0 0,rS p4,pI (aX (p3-1))]) [0] rfl rfl func131 (by kernel_rfl) rfl rfl rfl (eZ.of ⟨⟨_,rfl,rfl,jN,rfl⟩,trivial⟩ trivial (by decide) (by decide)) rfl jN rfl rfl rfl (fun k k'=>(.agg (.cons (.free _ rfl) (.cons (.free _ rfl) (.cons Mv.acc GX.nil))))) (pC d65 p4 (aX (p3-1)) _ z69)) (q1 (qE ([(aA.mk x70.aB5 x70.aB3 x70.aB4)]:List aA)) (bK H fun x73 z72 H=>(q1 (bB.callOwn (pre:=⟨[],[]⟩) (B:= []) (R:=fun k=> .agg [pI x73.aB5,pS x73.aB3,gM x73.aB4 k]) (ps:= [_,_]) (qs:= [pS y67,aR ([(aA.mk x70.aB5 x70.aB3 x70.aB4)]:List aA)]) [] rfl rfl func47 (by kernel_rfl) rfl rfl rfl (eZ.of trivial trivial (by decide) (by decide)) rfl jN rfl rfl rfl (fun k k'=>(.agg (.cons (.free _ rfl) (.cons (.free _ rfl) (.cons Mv.acc GX.nil))))) (fO fu y67 ([(aA.mk x70.aB5 x70.aB3 x70.aB4)]:List aA) _ z72)) ?_))))
 refine gQ 2 ?_;refine cQ.ret ?_
 obtain rfl:_=r:=(vI H:)
 exact V6 (st':=⟨[some ⟨133,dC x71⟩],[⟨30,3,aA.trs (x70.aB4),false⟩,⟨30,3,aA.trs (([(aA.mk x70.aB5 x70.aB3 x70.aB4)]:List aA)),false⟩,⟨30,3,aA.trs (x73.aB4),false⟩]⟩) ⟨2,rfl,rfl,rfl⟩ (hr:=⟨⟨_,_,_,rfl,rfl,CC.h,rfl,rfl⟩,trivial⟩)
def l9:Nat→DS→(LB)→Int→Option (aA×DS)
 |0,_,_,_=>none
 |fu+1,pc,p4,p3=>UL fu (l9 fu) pc p4 p3
theorem amX(fu:Nat):PG (l9 fu):=by
 induction fu with
 |zero=>exact(fun pc p4 p3 r H=>by simp only [l9] at H;cases H)
 |succ fu ih=>exact(fun pc p4 p3 r H=>by simp only [l9] at H;exact aj7 fu (l9 fu) ih pc p4 p3 r H)
theorem XO(fu:Nat):PG (l9 fu):=(amX fu)
abbrev sP:=aA→Option aA
abbrev m5:=(List aA)→Option ((List aA))
def FA(m:sP):Prop:= ∀(pt:aA) (r:aA),m pt=some r→bR Tryz.prog 56 [(aA.pv pt)] ((aA.pv r):PV)
def C7(m:m5):Prop:= ∀(p8:List aA) (r:(List aA)),m p8=some r→bR Tryz.prog 111 [aR p8] (aR r:PV)
def J4(fu:Nat)(p6:sP)(p5:m5)(pt:aA):Option aA:=bd (p5 pt.aB4) fun x2=>some (aA.mk pt.aB5 pt.aB3 x2)
theorem adR(fu:Nat)(p6:sP)(p5:m5)(pF:FA p6)(pE:C7 p5):FA (J4 fu p6 p5):=by
 intro pt r H
 refine qJ func56 H (fun C hC H=>?_)
 refine gQ 2 ?_;refine q1 (eX (bM pt)) ?_;refine gQ 3 ?_;refine bK H fun x2 z1 H=>(dW (dI [1] bZ (dD [3] eE (dI [1] bZ (dD [5] eE (dI [1] bZ (dD [7] eE (dI [8] (bE func111 (pE pt.aB4 _ z1)) (dI [4,6,9] rW (kU [2,10] jO (dN ?_)))))))))))
 exact gE 0
def GS(fu:Nat)(p6:sP)(p5:m5)(p8:List aA):Nat→((List aA))→Option (LR ((List aA)) ((List aA))):=fun i1 v3=>bd (p6 (aT p8 i1)) fun x7=>gd ((v3).length+(([x7]:List aA)).length≤68719476736) (some (.next (v3++([x7]:List aA))))
def yF(fu:Nat)(p6:sP)(p5:m5)(p8:List aA):Option ((List aA)):=so (loopN (GS fu p6 p5 p8) (p8.length-0) 0 ([])) fun v3=>some v3
theorem XJ(fu:Nat)(p6:sP)(p5:m5)(pF:FA p6)(pE:C7 p5):C7 (yF fu p6 p5):=by
 intro p8 r H
 refine qJ func111 H (fun C hC H=>?_)
 refine gQ 6 ?_;refine q1 (qE ([]:List aA)) ?_;refine gQ 7 ?_;refine gL 0 (aA.trs_len _) (fun hl4=>?_)
 refine bU (σ:=(List aA)) (fun i1 v3=>⟨[(0,aR p8),(2,.nil),(3,gM v3 0),(4,pN i1)],⟨[],[⟨30,3,aA.trs (v3),false⟩]⟩⟩) (fun v3=>⟨[(2,.nil),(3,gM v3 0)],⟨[],[⟨30,3,aA.trs (v3),false⟩]⟩⟩) (eK H) ?_ ?_
 ·rintro i1 v3 H
  refine gQ 8 ?_;refine cS H (fun h5 h5l H=>?_) (fun h5 H=>?_)
  ·refine gQ 8 ?_;refine q1 (iI (aA.cs (aT p8 i1))) (bK H fun x7 z6 H=>(q1 (bE func56 (pF (aT p8 i1) _ z6)) (q1 (iF ([x7]:List aA)) (cC H fun z8 H=>(q1 (lG z8) ?_)))))
   exact gE 7
  exact gE 0
 rintro v3 H
 exact gE 5
mutual
def iE:Nat→aA→Option aA
 |0,_=>none
 |fu+1,pt=>J4 fu (iE fu) (iB fu) pt
def iB:Nat→(List aA)→Option ((List aA))
 |0,_=>none
 |fu+1,p8=>yF fu (iE fu) (iB fu) p8
end
theorem ahA(fu:Nat):FA (iE fu)∧C7 (iB fu):=by
 induction fu with
 |zero=>exact⟨(fun pt r H=>by simp only [iE] at H;cases H),(fun p8 r H=>by simp only [iB] at H;cases H)⟩
 |succ fu ih=>exact⟨(fun pt r H=>by simp only [iE] at H;exact adR fu (iE fu) (iB fu) ih.1 ih.2 pt r H),(fun p8 r H=>by simp only [iB] at H;exact XJ fu (iE fu) (iB fu) ih.1 ih.2 p8 r H)⟩
theorem XK(fu:Nat):FA (iE fu):=(ahA fu).1
def aa2(m:ByteArray→aA→Option aA):Prop:= ∀(pA:ByteArray) (pt:aA) (r:aA),m pA pt=some r→AY Tryz.prog 139 [pS pA,(aA.pv pt)] ⟨[],[]⟩ [] 30 3 (aA.trs (r.aB4)) (fun k=> .agg [pI r.aB5,pS r.aB3,gM r.aB4 k])
theorem M8{m:ByteArray→aA→Option aA}(h:aa2 m)(pA:ByteArray)(pt:aA)(r:aA)(H:m pA pt=some r):bR Tryz.prog 139 [pS pA,(aA.pv pt)] ((aA.pv r):PV):=(h pA pt r H).plain (fun _=>jN) (hp:=VX)
def uJ(fu:Nat)(pA:ByteArray)(pt:aA):Option aA:=bd (iE fu pt) fun x2=>some (aA.mk 3 pA ([x2]:List aA))
theorem B9(fu:Nat):aa2 (uJ fu):=by
 intro pA pt r H
 unfold AY
 refine qJ func139 H (fun C hC H=>?_)
 refine gQ 2 ?_;refine q1 (eX (bM pt)) ?_;refine gQ 5 ?_;refine q1 (bW [pI pt.aB5,pS pt.aB3,aR pt.aB4]) (bK H fun x2 z1 H=>(q1 (bE func56 (XK fu pt _ z1)) (q1 (qE ([x2]:List aA)) ?_)))
 refine gQ 3 ?_;refine cQ.ret ?_
 obtain rfl:_=r:=(vI H:)
 exact V6 (st':=⟨[],[⟨30,3,aA.trs (([x2]:List aA)),false⟩]⟩) ⟨0,rfl,rfl,rfl⟩ (hr:=⟨⟨_,_,_,rfl,rfl,CC.h,rfl,rfl⟩,trivial⟩)
def aa1(m:DS→Int→Option (aA×DS)):Prop:= ∀(pc:DS) (p3:Int) (r:aA×DS),m pc p3=some r→AY Tryz.prog 132 [.ptr 0 0,pI p3] ⟨[some ⟨133,dC pc⟩],[]⟩ [some ⟨133,dC r.2⟩] 30 3 (aA.trs (r.1.aB4)) (fun k=> .agg [pI r.1.aB5,pS r.1.aB3,gM r.1.aB4 k])
theorem B8{m:DS→Int→Option (aA×DS)}(h:aa1 m)(pc:DS)(p3:Int)(r:aA×DS)(H:m pc p3=some r):b7 Tryz.prog 132 [.ptr 0 0,pI p3] ⟨[some ⟨133,dC pc⟩],[]⟩ (fun q t=>q=((aA.pv r.1):PV)∧t=⟨[some ⟨133,dC r.2⟩],[]⟩):=(h pc p3 r H).plain (fun _=>jN) (hp:=anW)
def sQ(fu:Nat)(pc:DS)(p3:Int):Option (aA×DS):=bd (l9 fu pc ([fW,CZ]:LB) p3) fun(x2,x3)=>lt (x3.after 8) fun d4=>sw (decide ((x3.below 8:Int)=0)) (lt (d4.after ([fC,bJ]:LB).length) fun d7=>lt (d4.pick ([fC,bJ]:LB)) fun y9=>bd (uJ fu y9 (aA.mk x2.aB5 x2.aB3 x2.aB4)) fun x12=>some ((aA.mk x12.aB5 x12.aB3 x12.aB4),d7)) (sw (decide ((x3.below 8:Int)=1)) (bd (uJ fu fC (aA.mk x2.aB5 x2.aB3 x2.aB4)) fun x15=>bd (eY fu cH ([(aA.mk x15.aB5 x15.aB3 x15.aB4)]:List aA)) fun x17=>some ((aA.mk x17.aB5 x17.aB3 x17.aB4),d4)) (sw (decide ((x3.below 8:Int)=2)) (some ((aA.mk 4 bJ []),d4)) (some ((aA.mk x2.aB5 x2.aB3 x2.aB4),d4))))
theorem B7(fu:Nat):aa1 (sQ fu):=by
 intro pc p3 r H
 unfold AY
 refine qJ func132 H (fun C hC H=>?_)
 refine gQ 7 ?_;refine q1 (iF ([fW,CZ]:LB)) (q1 bF (dP H fun x2 x3 z1 H=>(q1 (bB.callOwn (pre:=⟨[some ⟨133,dC pc⟩],[]⟩) (B:= [some ⟨133,dC x3⟩]) (R:=fun k=> .agg [pI x2.aB5,pS x2.aB3,gM x2.aB4 k]) (ps:= [_,_,_]) (qs:= [.ptr 0 0,rS ([fW,CZ]:LB),pI p3]) [0] rfl rfl func131 (by kernel_rfl) rfl rfl rfl (eZ.of ⟨⟨_,rfl,rfl,jN,rfl⟩,trivial⟩ trivial (by decide) (by decide)) rfl jN rfl rfl rfl (fun k k'=>(.agg (.cons (.free _ rfl) (.cons (.free _ rfl) (.cons Mv.acc GX.nil))))) (XO fu pc ([fW,CZ]:LB) p3 _ z1)) ?_)))
 refine gQ 7 ?_;refine fZ H fun d4 h5 H=>(q1 (eU [0] [] func73 (EU h5 (fI x3 8))) ?_)
 refine gQ 7 ?_;refine bC H (fun h6 H=>?_) (fun h6 H=>?_)
 ·refine qS (fZ H fun d7 h8 H=>(fZ H fun y9 h10 H=>(bK H fun x12 z11 H=>(dW (dI [0] bF (dI [] (iF ([fC,bJ]:LB)) (dE [14,15] (eU [0] [] func48 (PP h8 h10 (f7 d4 ([fC,bJ]:LB) (by decide)))) (dB [5] 0 1 (DU [pI x2.aB5,pS x2.aB3,gM x2.aB4 0]) (dE [16,17] (bB.callOwn (pre:=⟨[],[]⟩) (B:= []) (R:=fun k=> .agg [pI x12.aB5,pS x12.aB3,gM x12.aB4 k]) (ps:= [_,_]) (qs:= [pS y9,.agg [pI x2.aB5,pS x2.aB3,aR x2.aB4]]) [] rfl rfl func139 (by kernel_rfl) rfl rfl rfl (eZ.of trivial trivial (by decide) (by decide)) rfl jN rfl rfl rfl (fun k k'=>(.agg (.cons (.free _ rfl) (.cons (.free _ rfl) (.cons Mv.acc GX.nil))))) (B9 fu y9 (aA.mk x2.aB5 x2.aB3 x2.aB4) _ z11)) (kU [4,18] jO (dN (cQ.ret ?_))))))))))))
  obtain rfl:_=r:=(vI H:)
  exact V6 (st':=⟨[some ⟨133,dC d7⟩],[⟨30,3,aA.trs (x2.aB4),false⟩,⟨30,3,aA.trs (x12.aB4),false⟩]⟩) ⟨1,rfl,rfl,rfl⟩ (hr:=⟨⟨_,_,_,rfl,rfl,CC.h,rfl,rfl⟩,trivial⟩)
 refine gQ 5 ?_;refine bC H (fun h13 H=>?_) (fun h13 H=>?_)
 ·refine gQ 2 ?_;refine q1 (bW [pI x2.aB5,pS x2.aB3,gM x2.aB4 0]) (bK H fun x15 z14 H=>(q1 (bB.callOwn (pre:=⟨[],[]⟩) (B:= []) (R:=fun k=> .agg [pI x15.aB5,pS x15.aB3,gM x15.aB4 k]) (ps:= [_,_]) (qs:= [pS fC,.agg [pI x2.aB5,pS x2.aB3,aR x2.aB4]]) [] rfl rfl func139 (by kernel_rfl) rfl rfl rfl (eZ.of trivial trivial (by decide) (by decide)) rfl jN rfl rfl rfl (fun k k'=>(.agg (.cons (.free _ rfl) (.cons (.free _ rfl) (.cons Mv.acc GX.nil))))) (B9 fu fC (aA.mk x2.aB5 x2.aB3 x2.aB4) _ z14)) (q1 (qE ([(aA.mk x15.aB5 x15.aB3 x15.aB4)]:List aA)) (bK H fun x17 z16 H=>(q1 (bB.callOwn (pre:=⟨[],[]⟩) (B:= []) (R:=fun k=> .agg [pI x17.aB5,pS x17.aB3,gM x17.aB4 k]) (ps:= [_,_]) (qs:= [pS cH,aR ([(aA.mk x15.aB5 x15.aB3 x15.aB4)]:List aA)]) [] rfl rfl func47 (by kernel_rfl) rfl rfl rfl (eZ.of trivial trivial (by decide) (by decide)) rfl jN rfl rfl rfl (fun k k'=>(.agg (.cons (.free _ rfl) (.cons (.free _ rfl) (.cons Mv.acc GX.nil))))) (fO fu cH ([(aA.mk x15.aB5 x15.aB3 x15.aB4)]:List aA) _ z16)) ?_)))))
  refine gQ 2 ?_;refine cQ.ret ?_
  obtain rfl:_=r:=(vI H:)
  exact V6 (st':=⟨[some ⟨133,dC d4⟩],[⟨30,3,aA.trs (x2.aB4),false⟩,⟨30,3,aA.trs (x15.aB4),false⟩,⟨30,3,aA.trs (([(aA.mk x15.aB5 x15.aB3 x15.aB4)]:List aA)),false⟩,⟨30,3,aA.trs (x17.aB4),false⟩]⟩) ⟨3,rfl,rfl,rfl⟩ (hr:=⟨⟨_,_,_,rfl,rfl,CC.h,rfl,rfl⟩,trivial⟩)
 refine gQ 5 ?_;refine bC H (fun h18 H=>?_) (fun h18 H=>?_)
 ·refine gQ 5 ?_;refine cQ.wk (Wk.regBox (k:=1) (j:=2) 30 3 (by decide) rfl rfl) (cQ.ret ?_)
  obtain rfl:_=r:=(vI H:)
  exact V6 (st':=⟨[some ⟨133,dC d4⟩],[⟨30,3,aA.trs (x2.aB4),false⟩,⟨30,3,aA.trs ([]),false⟩]⟩) ⟨1,rfl,rfl,rfl⟩ (hr:=⟨⟨_,_,_,rfl,rfl,CC.h,rfl,rfl⟩,trivial⟩)
 refine gQ 3 ?_;refine q1 (bW [pI x2.aB5,pS x2.aB3,gM x2.aB4 0]) ?_;refine gQ 2 ?_;refine cQ.ret ?_
 obtain rfl:_=r:=(vI H:)
 exact V6 (st':=⟨[some ⟨133,dC d4⟩],[⟨30,3,aA.trs (x2.aB4),false⟩]⟩) ⟨0,rfl,rfl,rfl⟩ (hr:=⟨⟨_,_,_,rfl,rfl,CC.h,rfl,rfl⟩,trivial⟩)
def vC(fu:Nat)(pk:Int)(pH:ByteArray)(pG:List aL):Option aL:=gd (([]:List aL).length+(pG).length≤68719476736) (some (aL.mk pk s_ pH 0 (aA.mk 0 s_ []) (([])++pG) []))
theorem wQ(fu:Nat)(pk:Int)(pH:ByteArray)(pG:List aL)(r:aL)(H:vC fu pk pH pG=some r):bR Tryz.prog 190 [pI pk,pS pH,iP pG] ((aL.pv r)):=by
 refine qJ func190 H (fun C hC H=>?_)
 refine gQ 8 ?_;refine q1 (qE ([]:List aL)) (q1 bF (cC H fun z1 H=>(q1 (lG z1) ?_)))
 exact gE 3
abbrev t3:=DS→(LB)→Int→Option (aL×DS)
def GD(m:t3):Prop:= ∀(pD:DS) (p7:LB) (p0:Int) (r:aL×DS),m pD p7 p0=some r→b7 Tryz.prog 193 [.ptr 0 0,rS p7,pI p0] ⟨[some ⟨133,dC pD⟩],[]⟩ (fun q t=>q=((aL.pv r.1):PV)∧t=⟨[some ⟨133,dC r.2⟩],[]⟩)
def af4(fu:Nat)(p1:t3)(pD:DS)(p7:LB)(p0:Int)(d1:DS):Option ((aL×DS)⊕Int):=sw (decide (p0≤0)) (some (.inr (((pD.below 13)%3:Nat):Int))) (some (.inr (pD.below 13:Int)))
def af5(fu:Nat)(p1:t3)(pD:DS)(p7:LB)(p0:Int)(d1:DS)(v3:Int):Option ((aL×DS)⊕Bool):=sw (decide (v3=2)) (some (.inr (decide (v3=2)))) (some (.inr (decide (v3=3))))
def MU(fu:Nat)(p1:t3)(pD:DS)(p7:LB)(p0:Int):Option (aL×DS):=lt (pD.after 13) fun d1=>so (af4 fu p1 pD p7 p0 d1) fun v3=>sw (decide (v3=1)) (lt (d1.after 2) fun d6=>some ((aL.mk 2 s_ s_ (d1.below 2:Int) (aA.mk 0 s_ []) [] []),d6)) (so (af5 fu p1 pD p7 p0 d1 v3) fun v8=>sw (v8) (sw (decide ((p7.length:Int)>0)) (gd (0<(p7).length) (lt (d1.after p7.length) fun d13=>lt (d1.pick p7) fun y15=>bd (wR fu y15) fun x18=>some (x18,d13))) (lt (d1.after 20) fun d19=>bd (uF fu (aX ((d1.below 20:Int)-5))) fun x22=>some (x22,d19))) (sw (decide (v3=4)) (lt (d1.after ([s_f,s_g]:LB).length) fun d24=>lt (d1.pick ([s_f,s_g]:LB)) fun y26=>bd (p1 d24 p7 (aX (p0-1))) fun(x29,x30)=>bd (vC fu 4 y26 ([x29]:List aL)) fun x32=>some (x32,x30)) (sw (decide (v3=5)) (lt (d1.after ([bJ,fC]:LB).length) fun d34=>lt (d1.pick ([bJ,fC]:LB)) fun y36=>bd (p1 d34 p7 (aX (p0-1))) fun(x39,x40)=>bd (p1 x40 p7 (aX (p0-1))) fun(x42,x43)=>some ((aL.mk 5 y36 eT 0 (aA.mk 0 s_ []) ([x39,x42]:List aL) []),x43)) (sw (decide (v3=6)) (bd (p1 d1 p7 (aX (p0-1))) fun(x46,x47)=>bd (p1 x47 p7 (aX (p0-1))) fun(x49,x50)=>bd (vC fu 6 cG ([x46,x49]:List aL)) fun x52=>some (x52,x50)) (sw (decide (v3=7)) (gd (([]:LB).length+(p7).length≤68719476736) (gd ((([])++p7).length+(([s_h,s_t]:LB)).length≤68719476736) (bd (p1 d1 p7 (aX (p0-1))) fun(x57,x58)=>bd (p1 x58 p7 (aX (p0-1))) fun(x60,x61)=>bd (p1 x61 ((([])++p7)++([s_h,s_t]:LB)) (aX (p0-1))) fun(x63,x64)=>some ((aL.mk 7 s_ s_ 0 (aA.mk 0 s_ []) ([x57]:List aL) ([(bS.mk fX [] x60),(bS.mk cG ([s_h,s_t]:LB) x63)]:List bS)),x64)))) (sw (decide (v3=8)) (bd (p1 d1 p7 (aX (p0-1))) fun(x67,x68)=>gd (([]:LB).length+(p7).length≤68719476736) (gd ((([])++p7).length+(([sJ]:LB)).length≤68719476736) (bd (p1 x68 ((([])++p7)++([sJ]:LB)) (aX (p0-1))) fun(x72,x73)=>bd (vC fu 8 sJ ([x67,x72]:List aL)) fun x75=>some (x75,x73)))) (sw (decide (v3=9)) (bd (p1 d1 p7 (aX (p0-1))) fun(x78,x79)=>bd (p1 x79 p7 (aX (p0-1))) fun(x81,x82)=>bd (p1 x82 p7 (aX (p0-1))) fun(x84,x85)=>bd (vC fu 9 s_ ([x78,x81,x84]:List aL)) fun x87=>some (x87,x85)) (sw (decide (v3=10)) (lt (d1.after ([CE,HK,PM,PN,PO]:LB).length) fun d89=>lt (d1.pick ([CE,HK,PM,PN,PO]:LB)) fun y91=>bd (p1 d89 p7 (aX (p0-1))) fun(x94,x95)=>bd (p1 x95 p7 (aX (p0-1))) fun(x97,x98)=>bd (vC fu 10 y91 ([x94,x97]:List aL)) fun x100=>some (x100,x98)) (sw (decide (v3=11)) (bd (p1 d1 p7 (aX (p0-1))) fun(x103,x104)=>some ((aL.mk 11 bJ s_ 0 (aA.mk 0 s_ []) ([x103]:List aL) []),x104)) (sw (decide (v3=12)) (bd (l9 fu d1 ([fW]:LB) 1) fun(x107,x108)=>bd (p1 x108 p7 (aX (p0-1))) fun(x110,x111)=>some ((aL.mk 12 s_ s_ 0 x107 ([x110]:List aL) []),x111)) (lt (d1.after 20) fun d112=>bd (uF fu (aX ((d1.below 20:Int)-5))) fun x115=>some (x115,d112))))))))))))
theorem Y9(fu:Nat)(p1:t3)(p2:GD p1):GD (MU fu p1):=by
 intro pD p7 p0 r H
 refine qJ func193 H (fun C hC H=>?_)
 refine gQ 7 ?_;refine fZ H fun d1 h2 H=>(q1 (eU [0] [] func73 (EU h2 (fI pD 13))) ?_)
 refine gQ 3 ?_;refine nV (σ:=Int) (fun v3=>⟨[(0,.ptr 0 0),(1,rS p7),(2,pI p0),(6,.ptr 1 0),(7,pI v3)],⟨[some ⟨133,dC d1⟩,some ⟨211,[pI 0,pS s_,pS s_,pI 0,pI 0,pS s_,.nil,.nil,.nil]⟩],[]⟩⟩) (eK H) (fun H=>?_) ?_
 ·refine gQ 5 ?_;refine bC H (fun h4 H=>?_) (fun h4 H=>?_)
  ·refine gQ 2 ?_;refine q1 (bB.remN (a:=pD.below 13) (b:=3) rfl rfl rfl rfl (by have:=DS.below_lt (d:=pD) (n:=13) (by decide);omega) (by have:=DS.below_lt (d:=pD) (n:=13) (by decide);omega)) ?_;exact gE 2
  exact gE 1
 rintro v3 H
 refine gQ 11 ?_;refine bC H (fun h5 H=>?_) (fun h5 H=>?_)
 ·refine gQ 3 ?_;refine fZ H fun d6 h7 H=>(q1 (eU [0] [] func73 (EU h7 (fI d1 2))) ?_)
  exact gE 3
 refine qS ?_;refine nV (σ:=Bool) (fun v8=>⟨[(0,.ptr 0 0),(1,rS p7),(2,pI p0),(6,.ptr 1 0),(15,pI v3),(21,pB v8)],⟨[some ⟨133,dC d1⟩,some ⟨211,[pI 0,pS s_,pS s_,pI 0,pI 0,pS s_,.nil,.nil,.nil]⟩],[]⟩⟩) (eK H) (fun H=>?_) ?_
 ·refine gQ 5 ?_;refine bC H (fun h9 H=>gE 1) fun h9 H=>?_;exact gE 4
 rintro v8 H
 refine bC H (fun h10 H=>?_) (fun h10 H=>?_)
 ·refine gQ 6 ?_;refine bC H (fun h11 H=>?_) (fun h11 H=>?_)
  ·refine gQ 4 ?_;refine cC H fun z12 H=>(fZ H fun d13 h14 H=>(fZ H fun y15 h16 H=>(q1 (eU [0] [] func48 (PP h14 h16 (f7 d1 p7 z12))) (bK H fun x18 z17 H=>(q1 (bE func191 (BV fu y15 _ z17)) ?_)))))
   exact gE 2
  refine gQ 4 ?_;refine fZ H fun d19 h20 H=>(q1 (eU [0] [] func73 (EU h20 (fI d1 20))) (q1 rSw (bK H fun x22 z21 H=>(q1 (bE func192 (wP fu (aX ((d1.below 20:Int)-5)) _ z21)) ?_))))
  exact gE 2
 refine gQ 5 ?_;refine bC H (fun h23 H=>?_) (fun h23 H=>?_)
 ·refine gQ 3 ?_;refine q1 (iF ([s_f,s_g]:LB)) (fZ H fun d24 h25 H=>(fZ H fun y26 h27 H=>(q1 (eU [0] [] func48 (PP h25 h27 (f7 d1 ([s_f,s_g]:LB) (by decide)))) ?_)))
  refine gQ 4 ?_;refine dP H fun x29 x30 z28 H=>(q1 (eU [0] [] func193 (p2 d24 p7 (aX (p0-1)) _ z28)) (q1 (iF ([x29]:List aL)) (bK H fun x32 z31 H=>(q1 (bE func190 (wQ fu 4 y26 ([x29]:List aL) _ z31)) ?_))))
  exact gE 2
 refine gQ 5 ?_;refine bC H (fun h33 H=>?_) (fun h33 H=>?_)
 ·refine gQ 3 ?_;refine q1 (iF ([bJ,fC]:LB)) (fZ H fun d34 h35 H=>(fZ H fun y36 h37 H=>(q1 (eU [0] [] func48 (PP h35 h37 (f7 d1 ([bJ,fC]:LB) (by decide)))) ?_)))
  refine gQ 4 ?_;refine dP H fun x39 x40 z38 H=>(q1 (eU [0] [] func193 (p2 d34 p7 (aX (p0-1)) _ z38)) ?_)
  refine gQ 4 ?_;refine dP H fun x42 x43 z41 H=>(q1 (eU [0] [] func193 (p2 x40 p7 (aX (p0-1)) _ z41)) (q1 (iF ([x39,x42]:List aL)) ?_))
  exact gE 3
 refine gQ 5 ?_;refine bC H (fun h44 H=>?_) (fun h44 H=>?_)
 ·refine gQ 6 ?_;refine dP H fun x46 x47 z45 H=>(q1 (eU [0] [] func193 (p2 d1 p7 (aX (p0-1)) _ z45)) ?_)
  refine gQ 4 ?_;refine dP H fun x49 x50 z48 H=>(q1 (eU [0] [] func193 (p2 x47 p7 (aX (p0-1)) _ z48)) (q1 (iF ([x46,x49]:List aL)) (bK H fun x52 z51 H=>(q1 (bE func190 (wQ fu 6 cG ([x46,x49]:List aL) _ z51)) ?_))))
  exact gE 2
 refine gQ 5 ?_;refine bC H (fun h53 H=>?_) (fun h53 H=>?_)
 ·refine gQ 2 ?_;refine q1 (qE ([]:LB)) (q1 bF (cC H fun z54 H=>(q1 (lG z54) (q1 (iF ([s_h,s_t]:LB)) (cC H fun z55 H=>(q1 (lG z55) ?_))))))
  refine gQ 8 ?_;refine dP H fun x57 x58 z56 H=>(q1 (eU [0] [] func193 (p2 d1 p7 (aX (p0-1)) _ z56)) (q1 (iF ([x57]:List aL)) ?_))
  refine gQ 4 ?_;refine dP H fun x60 x61 z59 H=>(q1 (eU [0] [] func193 (p2 x58 p7 (aX (p0-1)) _ z59)) (q1 rW (q1 (iF ([s_h,s_t]:LB)) ?_)))
  refine gQ 4 ?_;refine dP H fun x63 x64 z62 H=>(q1 (eU [0] [] func193 (p2 x61 ((([])++p7)++([s_h,s_t]:LB)) (aX (p0-1)) _ z62)) (q1 rW (q1 (iF ([(bS.mk fX [] x60),(bS.mk cG ([s_h,s_t]:LB) x63)]:List bS)) ?_)))
  exact gE 3
 refine gQ 5 ?_;refine bC H (fun h65 H=>?_) (fun h65 H=>?_)
 ·refine gQ 6 ?_;refine dP H fun x67 x68 z66 H=>(q1 (eU [0] [] func193 (p2 d1 p7 (aX (p0-1)) _ z66)) (q1 bF (q1 (qE ([]:LB)) (q1 bF (cC H fun z69 H=>(q1 (lG z69) (q1 (iF ([sJ]:LB)) (cC H fun z70 H=>(q1 (lG z70) ?_)))))))))
  refine gQ 2 ?_;refine dP H fun x72 x73 z71 H=>(q1 (eU [0] [] func193 (p2 x68 ((([])++p7)++([sJ]:LB)) (aX (p0-1)) _ z71)) (q1 (iF ([x67,x72]:List aL)) (bK H fun x75 z74 H=>(q1 (bE func190 (wQ fu 8 sJ ([x67,x72]:List aL) _ z74)) ?_))))
  exact gE 2
 refine gQ 5 ?_;refine bC H (fun h76 H=>?_) (fun h76 H=>?_)
 ·refine gQ 6 ?_;refine dP H fun x78 x79 z77 H=>(q1 (eU [0] [] func193 (p2 d1 p7 (aX (p0-1)) _ z77)) ?_)
  refine gQ 4 ?_;refine dP H fun x81 x82 z80 H=>(q1 (eU [0] [] func193 (p2 x79 p7 (aX (p0-1)) _ z80)) ?_)
  refine gQ 4 ?_;refine dP H fun x84 x85 z83 H=>(q1 (eU [0] [] func193 (p2 x82 p7 (aX (p0-1)) _ z83)) (q1 (iF ([x78,x81,x84]:List aL)) (bK H fun x87 z86 H=>(q1 (bE func190 (wQ fu 9 s_ ([x78,x81,x84]:List aL) _ z86)) ?_))))
  exact gE 2
 refine gQ 5 ?_;refine bC H (fun h88 H=>?_) (fun h88 H=>?_)
 ·refine gQ 3 ?_;refine q1 (iF ([CE,HK,PM,PN,PO]:LB)) (fZ H fun d89 h90 H=>(fZ H fun y91 h92 H=>(q1 (eU [0] [] func48 (PP h90 h92 (f7 d1 ([CE,HK,PM,PN,PO]:LB) (by decide)))) ?_)))
  refine gQ 4 ?_;refine dP H fun x94 x95 z93 H=>(q1 (eU [0] [] func193 (p2 d89 p7 (aX (p0-1)) _ z93)) ?_)
  refine gQ 4 ?_;refine dP H fun x97 x98 z96 H=>(q1 (eU [0] [] func193 (p2 x95 p7 (aX (p0-1)) _ z96)) (q1 (iF ([x94,x97]:List aL)) (bK H fun x100 z99 H=>(q1 (bE func190 (wQ fu 10 y91 ([x94,x97]:List aL) _ z99)) ?_))))
  exact gE 2
 refine gQ 5 ?_;refine bC H (fun h101 H=>?_) (fun h101 H=>?_)
 ·refine gQ 6 ?_;refine dP H fun x103 x104 z102 H=>(q1 (eU [0] [] func193 (p2 d1 p7 (aX (p0-1)) _ z102)) (q1 (iF ([x103]:List aL)) ?_))
  exact gE 3
 refine gQ 5 ?_;refine bC H (fun h105 H=>?_) (fun h105 H=>?_)
 ·refine gQ 3 ?_;refine q1 (iF ([fW]:LB)) (dP H fun x107 x108 z106 H=>(q1 (eU [0] [] func131 (ahD (XO fu) d1 ([fW]:LB) 1 _ z106)) ?_))
  refine gQ 4 ?_;refine dP H fun x110 x111 z109 H=>(q1 (eU [0] [] func193 (p2 x108 p7 (aX (p0-1)) _ z109)) (q1 (iF ([x110]:List aL)) ?_))
  exact gE 3
 refine gQ 4 ?_;refine fZ H fun d112 h113 H=>(q1 (eU [0] [] func73 (EU h113 (fI d1 20))) (q1 rSw (bK H fun x115 z114 H=>(q1 (bE func192 (wP fu (aX ((d1.below 20:Int)-5)) _ z114)) ?_))))
 exact gE 2
def lZ:Nat→DS→(LB)→Int→Option (aL×DS)
 |0,_,_,_=>none
 |fu+1,pD,p7,p0=>MU fu (lZ fu) pD p7 p0
theorem acQ(fu:Nat):GD (lZ fu):=by
 induction fu with
 |zero=>exact(fun pD p7 p0 r H=>by simp only [lZ] at H;cases H)
 |succ fu ih=>exact(fun pD p7 p0 r H=>by simp only [lZ] at H;exact Y9 fu (lZ fu) ih pD p7 p0 r H)
theorem SX(fu:Nat):GD (lZ fu):=(acQ fu)
def FB(fu:Nat):Option aA:=bd (eY fu eG ([])) fun x2=>some x2
theorem wW(fu:Nat)(r:aA)(H:FB fu=some r):bR Tryz.prog 49 [] ((aA.pv r)):=by
 refine qJ func49 H (fun C hC H=>?_)
 refine gQ 6 ?_;refine bK H fun x2 z1 H=>(q1 (bE func47 (mJ (fO fu) eG ([]) _ z1)) ?_)
 exact gE 2
def SY(fu:Nat)(pD d1:DS)(y3:ByteArray)(d5:DS)(x8:aL):Option ((aI×DS)⊕((LB)×Int×ByteArray×(List aA)×(List aG)×DS)):=lt (d5.after 4) fun d15=>sw (decide ((d5.below 4:Int)=0)) (bd (FB fu) fun x19=>some (.inr ([],x19.aB5,x19.aB3,x19.aB4,[],d15))) (sw (decide ((d5.below 4:Int)=1)) (bd (l4 fu fW) fun x22=>bd (eY fu cH ([x22]:List aA)) fun x24=>some (.inr (([fW]:LB),x24.aB5,x24.aB3,x24.aB4,([(aG.mk y3 x22)]:List aG),d15))) (sw (decide ((d5.below 4:Int)=2)) (bd (l4 fu fW) fun x27=>bd (l4 fu CZ) fun x29=>bd (eY fu lY ([x27,x29]:List aA)) fun x31=>some (.inr (([fW,CZ]:LB),x31.aB5,x31.aB3,x31.aB4,[],d15))) (bd (l4 fu fW) fun x33=>some (.inr (([fW]:LB),x33.aB5,x33.aB3,x33.aB4,([(aG.mk jL x33)]:List aG),d15)))))
def S0(fu:Nat)(pD d1:DS)(y3:ByteArray)(d5:DS)(x8:aL)(v9:LB)(v10:Int)(v11:ByteArray)(v12:List aA)(v13:List aG)(v14:DS):Option ((aI×DS)⊕((List aA)×Bool×Int×ByteArray×DS)):=lt (v14.after 3) fun d39=>sw (decide (v14.below 3=0)) (bd (l9 fu d39 v9 1) fun(x43,x44)=>some (.inr (x43.aB4,true,x43.aB5,x43.aB3,x44))) (some (.inr ([],false,0,s_,d39)))
def BY(fu:Nat)(pD:DS):Option (aI×DS):=lt (pD.after ([bJ,xX,fC]:LB).length) fun d1=>lt (pD.pick ([bJ,xX,fC]:LB)) fun y3=>lt (d1.after 9) fun d5=>bd (uF fu (d1.below 9:Int)) fun x8=>so (SY fu pD d1 y3 d5 x8) fun(v9,v10,v11,v12,v13,v14)=>so (S0 fu pD d1 y3 d5 x8 v9 v10 v11 v12 v13 v14) fun(v38,v35,v36,v37,v34)=>lt (v34.after 4) fun d45=>lt (d45.after 12) fun d47=>sw (decide ((d45.below 12:Int)=0)) (bd (sQ fu d47 2) fun(x51,x52)=>some ((aI.mk y3 v9 x51 v13 (decide (v34.below 4=0)) v35 (aA.mk v36 v37 v38) ([(aQ.mk eT ([eN]:LB) x8)]:List aQ)),x52)) (sw (decide ((d45.below 12:Int)=1)) (lt (d47.after ([fW,s_c]:LB).length) fun d54=>lt (d47.pick ([fW,s_c]:LB)) fun y56=>gd ((v9).length+(([y56]:LB)).length≤68719476736) (some ((aI.mk y3 (v9++([y56]:LB)) (aA.mk v10 v11 v12) v13 (decide (v34.below 4=0)) v35 (aA.mk v36 v37 v38) ([(aQ.mk eT ([eN]:LB) x8)]:List aQ)),d54))) (sw (decide ((d45.below 12:Int)=2)) (bd (sQ fu d47 1) fun(x61,x62)=>gd ((v13).length+(([(aG.mk xX x61)]:List aG)).length≤68719476736) (some ((aI.mk y3 v9 (aA.mk v10 v11 v12) (v13++([(aG.mk xX x61)]:List aG)) (decide (v34.below 4=0)) v35 (aA.mk v36 v37 v38) ([(aQ.mk eT ([eN]:LB) x8)]:List aQ)),x62))) (sw (decide ((d45.below 12:Int)=3)) (bd (lZ fu d47 ([eN,sJ]:LB) 2) fun(x66,x67)=>some ((aI.mk y3 v9 (aA.mk v10 v11 v12) v13 (decide (v34.below 4=0)) v35 (aA.mk v36 v37 v38) ([(aQ.mk eT ([eN]:LB) x66)]:List aQ)),x67)) (sw (decide ((d45.below 12:Int)=4)) (bd (FB fu) fun x70=>some ((aI.mk y3 v9 (aA.mk v10 v11 v12) v13 (decide (v34.below 4=0)) v35 x70 ([(aQ.mk eT ([eN]:LB) x8)]:List aQ)),d47)) (sw (decide ((d45.below 12:Int)=5)) (some ((aI.mk y3 v9 (aA.mk v10 v11 v12) v13 (decide (v34.below 4=0)) v35 (aA.mk v36 v37 v38) ([(aQ.mk eT ([]) x8)]:List aQ)),d47)) (some ((aI.mk y3 v9 (aA.mk v10 v11 v12) v13 (decide (v34.below 4=0)) v35 (aA.mk v36 v37 v38) ([(aQ.mk eT ([eN]:LB) x8)]:List aQ)),d47)))))))
theorem agW(fu:Nat)(pD:DS)(r:aI×DS)(H:BY fu pD=some r):b7 Tryz.prog 165 [.ptr 0 0] ⟨[some ⟨133,dC pD⟩],[]⟩ (fun q t=>q=((aI.pv r.1))∧t=⟨[some ⟨133,dC r.2⟩],[]⟩):=by
 refine qJ func165 H (fun C hC H=>?_)
 refine gQ 7 ?_;refine q1 (vP ([bJ,xX,fC]:LB)) (fZ H fun d1 h2 H=>(fZ H fun y3 h4 H=>(q1 (eU [0] [] func48 (PP h2 h4 (f7 pD ([bJ,xX,fC]:LB) (by decide)))) (q1 (vP ([eN]:LB)) (q1 bF (fZ H fun d5 h6 H=>(q1 (eU [0] [] func73 (EU h6 (fI d1 9))) (bK H fun x8 z7 H=>(q1 (bE func192 (wP fu (d1.below 9:Int) _ z7)) (q1 rW (q1 (bB.buildSliceB (cs:= [pS eT,.lit 1 (aY (([eN]:LB))),pI x8.aB5,pS x8.aCa,pS x8.aB3,pI x8.aCL,pI x8.aB7.aB5,pS x8.aB7.aB3,aR x8.aB7.aB4,iP x8.aB4,sE x8.aCo]) rfl rfl anN.h atG.h rfl rfl rfl (by decide) rfl (by decide)) ?_)))))))))))
 refine gQ 5 ?_;refine nV (σ:=(LB)×Int×ByteArray×(List aA)×(List aG)×DS) (fun(v9,v10,v11,v12,v13,v14)=>⟨[(0,.ptr 0 0),(2,.ptr 1 0),(3,.ptr 3 0)],⟨[some ⟨133,dC v14⟩,some ⟨163,[pS s_,.nil,pI 0,pS s_,.nil,.nil,pB false,pB false,pI 0,pS s_,.nil,.nil]⟩,some ⟨242,[pS eT,.lit 1 (aY (([eN]:LB))),pI x8.aB5,pS x8.aCa,pS x8.aB3,pI x8.aCL,pI x8.aB7.aB5,pS x8.aB7.aB3,aR x8.aB7.aB4,iP x8.aB4,sE x8.aCo]⟩,some ⟨163,[pS y3,.lit 1 (aY (v9)),pI v10,pS v11,aR v12,.lit 4 (aG.trs (v13)),pB false,pB false,pI 0,pS s_,.nil,.bsl 2 1]⟩],[]⟩⟩) (eK H) (fun H=>?_) ?_
 ·refine gQ 3 ?_;refine fZ H fun d15 h16 H=>(q1 (eU [0] [] func73 (EU h16 (fI d5 4))) ?_)
  refine gQ 7 ?_;refine bC H (fun h17 H=>?_) (fun h17 H=>?_)
  ·refine qR (bK H fun x19 z18 H=>(q1 (bE func49 (wW fu _ z18)) ?_))
   exact gE 3
  refine gQ 5 ?_;refine bC H (fun h20 H=>?_) (fun h20 H=>?_)
  ·refine gQ 2 ?_;refine q1 (vP ([fW]:LB)) ?_;refine gQ 5 ?_;refine bK H fun x22 z21 H=>(q1 (bE func137 (kD (jH fu) fW _ z21)) (q1 (vP ([x22]:List aA)) (bK H fun x24 z23 H=>(q1 (bE func47 (mJ (fO fu) cH ([x22]:List aA) _ z23)) ?_))))
   refine gQ 3 ?_;refine dW (dI [3] bZ (dD [36] eE (dI [] (bE func137 (kD (jH fu) fW _ z21)) (dI [37,38] rW (dI [39] (vP ([(aG.mk y3 x22)]:List aG)) (dI [3] bZ (kU [41,40] jO (dN ?_))))))))
   exact gE 0
  refine gQ 5 ?_;refine bC H (fun h25 H=>?_) (fun h25 H=>?_)
  ·refine gQ 2 ?_;refine q1 (vP ([fW,CZ]:LB)) ?_;refine gQ 4 ?_;refine bK H fun x27 z26 H=>(q1 (bE func137 (kD (jH fu) fW _ z26)) (bK H fun x29 z28 H=>(q1 (bE func137 (kD (jH fu) CZ _ z28)) (q1 (vP ([x27,x29]:List aA)) (bK H fun x31 z30 H=>(q1 (bE func47 (mJ (fO fu) lY ([x27,x29]:List aA) _ z30)) ?_))))))
   exact gE 3
  refine gQ 2 ?_;refine q1 (vP ([fW]:LB)) ?_;refine gQ 5 ?_;refine bK H fun x33 z32 H=>(q1 (bE func137 (kD (jH fu) fW _ z32)) ?_)
  refine gQ 4 ?_;refine q1 (bE func137 (kD (jH fu) fW _ z32)) (q1 rW (q1 (vP ([(aG.mk jL x33)]:List aG)) ?_))
  exact gE 3
 rintro⟨v9,v10,v11,v12,v13,v14⟩ H
 refine qS ?_;refine nV (σ:=(List aA)×Bool×Int×ByteArray×DS) (fun(v38,v35,v36,v37,v34)=>⟨[(0,.ptr 0 0),(2,.ptr 1 0),(3,.ptr 3 0)],⟨[some ⟨133,dC v34⟩,some ⟨163,[pS s_,.nil,pI 0,pS s_,.nil,.nil,pB false,pB false,pI 0,pS s_,.nil,.nil]⟩,some ⟨242,[pS eT,.lit 1 (aY (([eN]:LB))),pI x8.aB5,pS x8.aCa,pS x8.aB3,pI x8.aCL,pI x8.aB7.aB5,pS x8.aB7.aB3,aR x8.aB7.aB4,iP x8.aB4,sE x8.aCo]⟩,some ⟨163,[pS y3,.lit 1 (aY (v9)),pI v10,pS v11,aR v12,.lit 4 (aG.trs (v13)),pB false,pB v35,pI v36,pS v37,aR v38,.bsl 2 1]⟩],[]⟩⟩) (eK H) (fun H=>?_) ?_
 ·refine gQ 3 ?_;refine fZ H fun d39 h40 H=>(q1 (eU [0] [] func45 (EU h40 (l6 v14 3))) (qN ?_))
  refine bC H (fun h41 H=>?_) (fun h41 H=>?_)
  ·refine gQ 9 ?_;refine dP H fun x43 x44 z42 H=>(q1 (eU [0] [] func131 (ahD (XO fu) d39 v9 1 _ z42)) ?_)
   exact gE 3
  exact gE 1
 rintro⟨v38,v35,v36,v37,v34⟩ H
 refine gQ 3 ?_;refine fZ H fun d45 h46 H=>(q1 (eU [0] [] func45 (EU h46 (l6 v34 4))) ?_)
 refine gQ 7 ?_;refine fZ H fun d47 h48 H=>(q1 (eU [0] [] func73 (EU h48 (fI d45 12))) ?_)
 refine gQ 7 ?_;refine bC H (fun h49 H=>?_) (fun h49 H=>?_)
 ·refine gQ 2 ?_;refine dP H fun x51 x52 z50 H=>(q1 (eU [0] [] func132 (B8 (B7 fu) d47 2 _ z50)) ?_)
  refine gQ 5 ?_;refine AL.weak (Wk.freezeE (k:=2) (sz:=11) (es:= [aQ.cs (aQ.mk eT ([eN]:LB) x8)]) (es':=aQ.trs (([(aQ.mk eT ([eN]:LB) x8)]:List aQ))) (s':=⟨[(0,.ptr 0 0),(2,.ptr 1 0),(3,.ptr 3 0),(63,pN (d45.below 12))],⟨[some ⟨133,dC x52⟩,some ⟨163,[pS s_,.nil,pI 0,pS s_,.nil,.nil,pB false,pB false,pI 0,pS s_,.nil,.nil]⟩,none,some ⟨163,[pS y3,.lit 1 (aY (v9)),pI x51.aB5,pS x51.aB3,aR x51.aB4,.lit 4 (aG.trs (v13)),pB (decide (v34.below 4=0)),pB v35,pI v36,pS v37,aR v38,mS ([(aQ.mk eT ([eN]:LB) x8)]:List aQ)]⟩],[]⟩⟩) (by simp [aQ.trs_map,aQ.tr_cs]) rfl jN (by simp [aQ.cs]) (Nat.le_of_ble_eq_true rfl) ⟨⟨rfl,eB,rfl⟩,⟨⟨rfl,eB,rfl⟩,⟨⟨rfl,eB,rfl⟩,trivial⟩⟩⟩ rfl rfl (eM hC (lB rfl) (Nat.le_of_ble_eq_true rfl)) (by repeat' first|exact trivial|refine⟨⟨_,rfl,eB,rfl⟩,?_⟩)) ?_;refine q1 (bW [pS y3,.lit 1 (aY (v9)),pI x51.aB5,pS x51.aB3,aR x51.aB4,.lit 4 (aG.trs (v13)),pB (decide (v34.below 4=0)),pB v35,pI v36,pS v37,aR v38,mS ([(aQ.mk eT ([eN]:LB) x8)]:List aQ)]) ?_;exact gE 2
 refine gQ 5 ?_;refine bC H (fun h53 H=>?_) (fun h53 H=>?_)
 ·refine fZ H fun d54 h55 H=>(fZ H fun y56 h57 H=>(cC H fun z58 H=>(dW (dI [3] bZ (dB [71] 0 1 uK (dI [0] bF (dI [] (vP ([fW,s_c]:LB)) (dE [73,74] (eU [0] [] func48 (PP h55 h57 (f7 d47 ([fW,s_c]:LB) (by decide)))) (dI [75] (vP ([y56]:LB)) ?_)))))))))
  refine dI [72,76] (bB.appendLit (es1:=aY (v9)) (es2:=aY (([y56]:LB))) (es3:=aY (v9++([y56]:LB))) rfl rfl rfl rfl rfl (rV _) (rV _) (by exact List.cons_ne_nil _ _) (by decide) aiD.h ap9.h (by decide) (by rw [bV,bV];exact CQ z58 (by decide)) (xF _ _)) ?_;refine dI [3] bZ (kU [78,77] jO (dN ?_))
  refine gQ 2 ?_;refine AL.weak (Wk.freezeE (k:=2) (sz:=11) (es:= [aQ.cs (aQ.mk eT ([eN]:LB) x8)]) (es':=aQ.trs (([(aQ.mk eT ([eN]:LB) x8)]:List aQ))) (s':=⟨[(0,.ptr 0 0),(2,.ptr 1 0),(3,.ptr 3 0),(63,pN (d45.below 12))],⟨[some ⟨133,dC d54⟩,some ⟨163,[pS s_,.nil,pI 0,pS s_,.nil,.nil,pB false,pB false,pI 0,pS s_,.nil,.nil]⟩,none,some ⟨163,[pS y3,rS (v9++([y56]:LB)),pI v10,pS v11,aR v12,.lit 4 (aG.trs (v13)),pB (decide (v34.below 4=0)),pB v35,pI v36,pS v37,aR v38,mS ([(aQ.mk eT ([eN]:LB) x8)]:List aQ)]⟩],[]⟩⟩) (by simp [aQ.trs_map,aQ.tr_cs]) rfl jN (by simp [aQ.cs]) (Nat.le_of_ble_eq_true rfl) ⟨⟨rfl,eB,rfl⟩,⟨⟨rfl,eB,rfl⟩,⟨⟨rfl,eB,rfl⟩,trivial⟩⟩⟩ rfl rfl (eM hC (lB rfl) (Nat.le_of_ble_eq_true rfl)) (by repeat' first|exact trivial|refine⟨⟨_,rfl,eB,rfl⟩,?_⟩)) ?_;refine q1 (bW [pS y3,rS (v9++([y56]:LB)),pI v10,pS v11,aR v12,.lit 4 (aG.trs (v13)),pB (decide (v34.below 4=0)),pB v35,pI v36,pS v37,aR v38,mS ([(aQ.mk eT ([eN]:LB) x8)]:List aQ)]) ?_;exact gE 2
 refine gQ 5 ?_;refine bC H (fun h59 H=>?_) (fun h59 H=>?_)
 ·refine dP H fun x61 x62 z60 H=>(cC H fun z63 H=>(dW (dI [3] bZ (dB [81] 0 1 uK (dI [0] bF (dE [83] (eU [0] [] func132 (B8 (B7 fu) d47 1 _ z60)) (dI [84] rW (dI [85] (vP ([(aG.mk xX x61)]:List aG)) ?_))))))))
  refine dI [82,86] (bB.appendLit (es1:=aG.trs (v13)) (es2:=aG.trs (([(aG.mk xX x61)]:List aG))) (es3:=aG.trs (v13++([(aG.mk xX x61)]:List aG))) rfl rfl rfl rfl rfl (fun e he=>by rw [aG.trs_map] at he;obtain⟨x,_,rfl⟩:=List.mem_map.1 he;rw [aG.tr_cs];rfl) (fun e he=>by rw [aG.trs_map] at he;obtain⟨x,_,rfl⟩:=List.mem_map.1 he;rw [aG.tr_cs];rfl) (by rw [aG.trs_map];exact List.cons_ne_nil _ _) (by decide) aq7.h awC.h (by decide) (by rw [aG.trs_len,aG.trs_len];exact CQ z63 (by decide)) (by rw [aG.trs_map,aG.trs_map,aG.trs_map,List.map_append])) ?_;refine dI [3] bZ (kU [88,87] jO (dN ?_))
  refine gQ 2 ?_;refine AL.weak (Wk.freezeE (k:=2) (sz:=11) (es:= [aQ.cs (aQ.mk eT ([eN]:LB) x8)]) (es':=aQ.trs (([(aQ.mk eT ([eN]:LB) x8)]:List aQ))) (s':=⟨[(0,.ptr 0 0),(2,.ptr 1 0),(3,.ptr 3 0),(63,pN (d45.below 12))],⟨[some ⟨133,dC x62⟩,some ⟨163,[pS s_,.nil,pI 0,pS s_,.nil,.nil,pB false,pB false,pI 0,pS s_,.nil,.nil]⟩,none,some ⟨163,[pS y3,.lit 1 (aY (v9)),pI v10,pS v11,aR v12,bY (v13++([(aG.mk xX x61)]:List aG)),pB (decide (v34.below 4=0)),pB v35,pI v36,pS v37,aR v38,mS ([(aQ.mk eT ([eN]:LB) x8)]:List aQ)]⟩],[]⟩⟩) (by simp [aQ.trs_map,aQ.tr_cs]) rfl jN (by simp [aQ.cs]) (Nat.le_of_ble_eq_true rfl) ⟨⟨rfl,eB,rfl⟩,⟨⟨rfl,eB,rfl⟩,⟨⟨rfl,eB,rfl⟩,trivial⟩⟩⟩ rfl rfl (eM hC (lB rfl) (Nat.le_of_ble_eq_true rfl)) (by repeat' first|exact trivial|refine⟨⟨_,rfl,eB,rfl⟩,?_⟩)) ?_;refine q1 (bW [pS y3,.lit 1 (aY (v9)),pI v10,pS v11,aR v12,bY (v13++([(aG.mk xX x61)]:List aG)),pB (decide (v34.below 4=0)),pB v35,pI v36,pS v37,aR v38,mS ([(aQ.mk eT ([eN]:LB) x8)]:List aQ)]) ?_;exact gE 2
 refine gQ 5 ?_;refine bC H (fun h64 H=>?_) (fun h64 H=>?_)
 ·refine dP H fun x66 x67 z65 H=>(dW (dI [3] bZ (dB [91] 0 1 uK (dI [0] bF (dI [] (vP ([eN,sJ]:LB)) (dE [93,94] (eU [0] [] func193 (SX fu d47 ([eN,sJ]:LB) 2 _ z65)) (dI [92] (bB.indexB (sz:=11) (k:=2) (N:=1) (i:=0) rfl rfl rfl rfl (by decide) anN.h) (dI [96] bZ (kU [97,95] jO (dN ?_))))))))))
  refine gQ 2 ?_;refine AL.weak (Wk.freezeE (k:=2) (sz:=11) (es:= [aQ.cs (aQ.mk eT ([eN]:LB) x66)]) (es':=aQ.trs (([(aQ.mk eT ([eN]:LB) x66)]:List aQ))) (s':=⟨[(0,.ptr 0 0),(2,.ptr 1 0),(3,.ptr 3 0),(63,pN (d45.below 12))],⟨[some ⟨133,dC x67⟩,some ⟨163,[pS s_,.nil,pI 0,pS s_,.nil,.nil,pB false,pB false,pI 0,pS s_,.nil,.nil]⟩,none,some ⟨163,[pS y3,.lit 1 (aY (v9)),pI v10,pS v11,aR v12,.lit 4 (aG.trs (v13)),pB (decide (v34.below 4=0)),pB v35,pI v36,pS v37,aR v38,mS ([(aQ.mk eT ([eN]:LB) x66)]:List aQ)]⟩],[]⟩⟩) (by simp [aQ.trs_map,aQ.tr_cs]) rfl jN (by simp [aQ.cs]) (Nat.le_of_ble_eq_true rfl) ⟨⟨rfl,eB,rfl⟩,⟨⟨rfl,eB,rfl⟩,⟨⟨rfl,eB,rfl⟩,trivial⟩⟩⟩ rfl rfl (eM hC (lB rfl) (Nat.le_of_ble_eq_true rfl)) (by repeat' first|exact trivial|refine⟨⟨_,rfl,eB,rfl⟩,?_⟩)) ?_;refine q1 (bW [pS y3,.lit 1 (aY (v9)),pI v10,pS v11,aR v12,.lit 4 (aG.trs (v13)),pB (decide (v34.below 4=0)),pB v35,pI v36,pS v37,aR v38,mS ([(aQ.mk eT ([eN]:LB) x66)]:List aQ)]) ?_;exact gE 2
 refine gQ 5 ?_;refine bC H (fun h68 H=>?_) (fun h68 H=>?_)
 ·refine qR (bK H fun x70 z69 H=>(q1 (bE func49 (wW fu _ z69)) ?_))
  refine gQ 5 ?_;refine AL.weak (Wk.freezeE (k:=2) (sz:=11) (es:= [aQ.cs (aQ.mk eT ([eN]:LB) x8)]) (es':=aQ.trs (([(aQ.mk eT ([eN]:LB) x8)]:List aQ))) (s':=⟨[(0,.ptr 0 0),(2,.ptr 1 0),(3,.ptr 3 0),(63,pN (d45.below 12))],⟨[some ⟨133,dC d47⟩,some ⟨163,[pS s_,.nil,pI 0,pS s_,.nil,.nil,pB false,pB false,pI 0,pS s_,.nil,.nil]⟩,none,some ⟨163,[pS y3,.lit 1 (aY (v9)),pI v10,pS v11,aR v12,.lit 4 (aG.trs (v13)),pB (decide (v34.below 4=0)),pB v35,pI x70.aB5,pS x70.aB3,aR x70.aB4,mS ([(aQ.mk eT ([eN]:LB) x8)]:List aQ)]⟩],[]⟩⟩) (by simp [aQ.trs_map,aQ.tr_cs]) rfl jN (by simp [aQ.cs]) (Nat.le_of_ble_eq_true rfl) ⟨⟨rfl,eB,rfl⟩,⟨⟨rfl,eB,rfl⟩,⟨⟨rfl,eB,rfl⟩,trivial⟩⟩⟩ rfl rfl (eM hC (lB rfl) (Nat.le_of_ble_eq_true rfl)) (by repeat' first|exact trivial|refine⟨⟨_,rfl,eB,rfl⟩,?_⟩)) ?_;refine q1 (bW [pS y3,.lit 1 (aY (v9)),pI v10,pS v11,aR v12,.lit 4 (aG.trs (v13)),pB (decide (v34.below 4=0)),pB v35,pI x70.aB5,pS x70.aB3,aR x70.aB4,mS ([(aQ.mk eT ([eN]:LB) x8)]:List aQ)]) ?_;exact gE 2
 refine gQ 5 ?_;refine bC H (fun h71 H=>?_) (fun h71 H=>?_)
 ·refine gQ 3 ?_;refine q1 (vP ([]:LB)) (q1 (bB.indexB (sz:=11) (k:=2) (N:=1) (i:=0) rfl rfl rfl rfl (by decide) anN.h) ?_)
  refine gQ 5 ?_;refine AL.weak (Wk.freezeE (k:=2) (sz:=11) (es:= [aQ.cs (aQ.mk eT ([]) x8)]) (es':=aQ.trs (([(aQ.mk eT ([]) x8)]:List aQ))) (s':=⟨[(0,.ptr 0 0),(2,.ptr 1 0),(3,.ptr 3 0),(63,pN (d45.below 12))],⟨[some ⟨133,dC d47⟩,some ⟨163,[pS s_,.nil,pI 0,pS s_,.nil,.nil,pB false,pB false,pI 0,pS s_,.nil,.nil]⟩,none,some ⟨163,[pS y3,.lit 1 (aY (v9)),pI v10,pS v11,aR v12,.lit 4 (aG.trs (v13)),pB (decide (v34.below 4=0)),pB v35,pI v36,pS v37,aR v38,mS ([(aQ.mk eT ([]) x8)]:List aQ)]⟩],[]⟩⟩) (by simp [aQ.trs_map,aQ.tr_cs]) rfl jN (by simp [aQ.cs]) (Nat.le_of_ble_eq_true rfl) ⟨⟨rfl,eB,rfl⟩,⟨⟨rfl,eB,rfl⟩,⟨⟨rfl,eB,rfl⟩,trivial⟩⟩⟩ rfl rfl (eM hC (lB rfl) (Nat.le_of_ble_eq_true rfl)) (by repeat' first|exact trivial|refine⟨⟨_,rfl,eB,rfl⟩,?_⟩)) ?_;refine q1 (bW [pS y3,.lit 1 (aY (v9)),pI v10,pS v11,aR v12,.lit 4 (aG.trs (v13)),pB (decide (v34.below 4=0)),pB v35,pI v36,pS v37,aR v38,mS ([(aQ.mk eT ([]) x8)]:List aQ)]) ?_;exact gE 2
 refine gQ 3 ?_;refine AL.weak (Wk.freezeE (k:=2) (sz:=11) (es:= [aQ.cs (aQ.mk eT ([eN]:LB) x8)]) (es':=aQ.trs (([(aQ.mk eT ([eN]:LB) x8)]:List aQ))) (s':=⟨[(0,.ptr 0 0),(2,.ptr 1 0),(3,.ptr 3 0),(63,pN (d45.below 12))],⟨[some ⟨133,dC d47⟩,some ⟨163,[pS s_,.nil,pI 0,pS s_,.nil,.nil,pB false,pB false,pI 0,pS s_,.nil,.nil]⟩,none,some ⟨163,[pS y3,.lit 1 (aY (v9)),pI v10,pS v11,aR v12,.lit 4 (aG.trs (v13)),pB (decide (v34.below 4=0)),pB v35,pI v36,pS v37,aR v38,mS ([(aQ.mk eT ([eN]:LB) x8)]:List aQ)]⟩],[]⟩⟩) (by simp [aQ.trs_map,aQ.tr_cs]) rfl jN (by simp [aQ.cs]) (Nat.le_of_ble_eq_true rfl) ⟨⟨rfl,eB,rfl⟩,⟨⟨rfl,eB,rfl⟩,⟨⟨rfl,eB,rfl⟩,trivial⟩⟩⟩ rfl rfl (eM hC (lB rfl) (Nat.le_of_ble_eq_true rfl)) (by repeat' first|exact trivial|refine⟨⟨_,rfl,eB,rfl⟩,?_⟩)) ?_;refine q1 (bW [pS y3,.lit 1 (aY (v9)),pI v10,pS v11,aR v12,.lit 4 (aG.trs (v13)),pB (decide (v34.below 4=0)),pB v35,pI v36,pS v37,aR v38,mS ([(aQ.mk eT ([eN]:LB) x8)]:List aQ)]) ?_;exact gE 2
def W3(fu:Nat)(pc:DS):Option (aP×DS):=lt (pc.after ([s_f,s_g]:LB).length) fun d1=>lt (pc.pick ([s_f,s_g]:LB)) fun y3=>bd (l4 fu fW) fun x6=>bd (FB fu) fun x8=>bd (wR fu eN) fun x10=>lt (d1.after 10) fun d11=>sw (decide ((d1.below 10:Int)=0)) (bd (sQ fu d11 2) fun(x15,x16)=>some ((aP.mk y3 ([fW]:LB) ([(aG.mk bJ x6)]:List aG) ([(aV.mk eN x6)]:List aV) x15 (aL.mk 5 bJ eT 0 (aA.mk 0 s_ []) ([x10]:List aL) [])),x16)) (sw (decide ((d1.below 10:Int)=1)) (lt (d11.after ([eN,sJ]:LB).length) fun d18=>lt (d11.pick ([eN,sJ]:LB)) fun y20=>gd ((([(aV.mk eN x6)]:List aV)).length+(([(aV.mk y20 x8)]:List aV)).length≤68719476736) (some ((aP.mk y3 ([fW]:LB) ([(aG.mk bJ x6)]:List aG) (([(aV.mk eN x6)]:List aV)++([(aV.mk y20 x8)]:List aV)) x8 (aL.mk 5 bJ eT 0 (aA.mk 0 s_ []) ([x10]:List aL) [])),d18))) (sw (decide ((d1.below 10:Int)=2)) (bd (lZ fu d11 ([eN,sJ]:LB) 3) fun(x25,x26)=>some ((aP.mk y3 ([fW]:LB) ([(aG.mk bJ x6)]:List aG) ([(aV.mk eN x6)]:List aV) x8 x25),x26)) (sw (decide ((d1.below 10:Int)=3)) (bd (sQ fu d11 1) fun(x29,x30)=>some ((aP.mk y3 ([fW]:LB) ([(aG.mk bJ x29)]:List aG) ([(aV.mk eN x6)]:List aV) x8 (aL.mk 5 bJ eT 0 (aA.mk 0 s_ []) ([x10]:List aL) [])),x30)) (sw (decide ((d1.below 10:Int)=4)) (lt (d11.after ([s_,GC]:LB).length) fun d32=>lt (d11.pick ([s_,GC]:LB)) fun y34=>some ((aP.mk y34 ([fW]:LB) ([(aG.mk bJ x6)]:List aG) ([(aV.mk eN x6)]:List aV) x8 (aL.mk 5 bJ eT 0 (aA.mk 0 s_ []) ([x10]:List aL) [])),d32)) (some ((aP.mk y3 ([fW]:LB) ([(aG.mk bJ x6)]:List aG) ([(aV.mk eN x6)]:List aV) x8 (aL.mk 5 bJ eT 0 (aA.mk 0 s_ []) ([x10]:List aL) [])),d11))))))
theorem amQ(fu:Nat)(pc:DS)(r:aP×DS)(H:W3 fu pc=some r):b7 Tryz.prog 166 [.ptr 0 0] ⟨[some ⟨133,dC pc⟩],[]⟩ (fun q t=>q=((aP.pv r.1))∧t=⟨[some ⟨133,dC r.2⟩],[]⟩):=by
 refine qJ func166 H (fun C hC H=>?_)
 refine gQ 7 ?_;refine q1 (vP ([s_f,s_g]:LB)) (fZ H fun d1 h2 H=>(fZ H fun y3 h4 H=>(q1 (eU [0] [] func48 (PP h2 h4 (f7 pc ([s_f,s_g]:LB) (by decide)))) (q1 (vP ([fW]:LB)) (bK H fun x6 z5 H=>(q1 (bE func137 (kD (jH fu) fW _ z5)) (q1 rW (q1 (bB.buildSliceB (cs:= [pS bJ,pI x6.aB5,pS x6.aB3,aR x6.aB4]) rfl rfl aq7.h awE.h rfl rfl rfl (by decide) rfl (by decide)) (q1 (bE func137 (kD (jH fu) fW _ z5)) (q1 rW (q1 (vP ([(aV.mk eN x6)]:List aV)) (bK H fun x8 z7 H=>(q1 (bE func49 (wW fu _ z7)) ?_)))))))))))))
 refine bK H fun x10 z9 H=>(q1 (bE func191 (BV fu eN _ z9)) (q1 (vP ([x10]:List aL)) ?_))
 refine gQ 9 ?_;refine fZ H fun d11 h12 H=>(q1 (eU [0] [] func73 (EU h12 (fI d1 10))) ?_)
 refine gQ 7 ?_;refine bC H (fun h13 H=>?_) (fun h13 H=>?_)
 ·refine gQ 2 ?_;refine dP H fun x15 x16 z14 H=>(q1 (eU [0] [] func132 (B8 (B7 fu) d11 2 _ z14)) ?_)
  refine gQ 5 ?_;refine AL.weak (Wk.freezeE (k:=2) (sz:=4) (es:= [aG.cs (aG.mk bJ x6)]) (es':=aG.trs (([(aG.mk bJ x6)]:List aG))) (s':=⟨[(0,.ptr 0 0),(2,.ptr 1 0),(3,.ptr 3 0),(20,pN (d1.below 10))],⟨[some ⟨133,dC x16⟩,some ⟨213,[pS s_,.nil,.nil,.nil,pI 0,pS s_,.nil,pI 0,pS s_,pS s_,pI 0,pI 0,pS s_,.nil,.nil,.nil]⟩,none,some ⟨213,[pS y3,.lit 1 (aY (([fW]:LB))),bY ([(aG.mk bJ x6)]:List aG),.lit 4 (aV.trs (([(aV.mk eN x6)]:List aV))),pI x15.aB5,pS x15.aB3,aR x15.aB4,pI 5,pS bJ,pS eT,pI 0,pI 0,pS s_,.nil,.lit 9 (aL.trs (([x10]:List aL))),.nil]⟩],[]⟩⟩) (by simp [aG.trs_map,aG.tr_cs]) rfl jN (by simp [aG.cs]) (Nat.le_of_ble_eq_true rfl) ⟨⟨rfl,eB,rfl⟩,⟨⟨rfl,eB,rfl⟩,⟨⟨rfl,eB,rfl⟩,trivial⟩⟩⟩ rfl rfl (eM hC (lB rfl) (Nat.le_of_ble_eq_true rfl)) (by repeat' first|exact trivial|refine⟨⟨_,rfl,eB,rfl⟩,?_⟩)) ?_;refine q1 (bW [pS y3,.lit 1 (aY (([fW]:LB))),bY ([(aG.mk bJ x6)]:List aG),.lit 4 (aV.trs (([(aV.mk eN x6)]:List aV))),pI x15.aB5,pS x15.aB3,aR x15.aB4,pI 5,pS bJ,pS eT,pI 0,pI 0,pS s_,.nil,.lit 9 (aL.trs (([x10]:List aL))),.nil]) ?_;exact gE 2
 refine gQ 5 ?_;refine bC H (fun h17 H=>?_) (fun h17 H=>?_)
 ·refine fZ H fun d18 h19 H=>(fZ H fun y20 h21 H=>(cC H fun z22 H=>(dW (dI [3] bZ (dB [28] 0 1 uK (dI [0] bF (dI [] (vP ([eN,sJ]:LB)) (dE [30,31] (eU [0] [] func48 (PP h19 h21 (f7 d11 ([eN,sJ]:LB) (by decide)))) (dI [] (bE func49 (wW fu _ z7)) (dI [32,33] rW (dI [34] (vP ([(aV.mk y20 x8)]:List aV)) ?_)))))))))))
  refine dI [29,35] (bB.appendLit (es1:=aV.trs (([(aV.mk eN x6)]:List aV))) (es2:=aV.trs (([(aV.mk y20 x8)]:List aV))) (es3:=aV.trs (([(aV.mk eN x6)]:List aV)++([(aV.mk y20 x8)]:List aV))) rfl rfl rfl rfl rfl (fun e he=>by rw [aV.trs_map] at he;obtain⟨x,_,rfl⟩:=List.mem_map.1 he;rw [aV.tr_cs];rfl) (fun e he=>by rw [aV.trs_map] at he;obtain⟨x,_,rfl⟩:=List.mem_map.1 he;rw [aV.tr_cs];rfl) (by rw [aV.trs_map];exact List.cons_ne_nil _ _) (by decide) asK.h atE.h (by decide) (by rw [aV.trs_len,aV.trs_len];exact CQ z22 (by decide)) (by rw [aV.trs_map,aV.trs_map,aV.trs_map,List.map_append])) ?_;refine dI [3] bZ (kU [37,36] jO (dN ?_))
  refine gQ 2 ?_;refine AL.weak (Wk.freezeE (k:=2) (sz:=4) (es:= [aG.cs (aG.mk bJ x6)]) (es':=aG.trs (([(aG.mk bJ x6)]:List aG))) (s':=⟨[(0,.ptr 0 0),(2,.ptr 1 0),(3,.ptr 3 0),(20,pN (d1.below 10))],⟨[some ⟨133,dC d18⟩,some ⟨213,[pS s_,.nil,.nil,.nil,pI 0,pS s_,.nil,pI 0,pS s_,pS s_,pI 0,pI 0,pS s_,.nil,.nil,.nil]⟩,none,some ⟨213,[pS y3,.lit 1 (aY (([fW]:LB))),bY ([(aG.mk bJ x6)]:List aG),V7 (([(aV.mk eN x6)]:List aV)++([(aV.mk y20 x8)]:List aV)),pI x8.aB5,pS x8.aB3,aR x8.aB4,pI 5,pS bJ,pS eT,pI 0,pI 0,pS s_,.nil,.lit 9 (aL.trs (([x10]:List aL))),.nil]⟩],[]⟩⟩) (by simp [aG.trs_map,aG.tr_cs]) rfl jN (by simp [aG.cs]) (Nat.le_of_ble_eq_true rfl) ⟨⟨rfl,eB,rfl⟩,⟨⟨rfl,eB,rfl⟩,⟨⟨rfl,eB,rfl⟩,trivial⟩⟩⟩ rfl rfl (eM hC (lB rfl) (Nat.le_of_ble_eq_true rfl)) (by repeat' first|exact trivial|refine⟨⟨_,rfl,eB,rfl⟩,?_⟩)) ?_;refine q1 (bW [pS y3,.lit 1 (aY (([fW]:LB))),bY ([(aG.mk bJ x6)]:List aG),V7 (([(aV.mk eN x6)]:List aV)++([(aV.mk y20 x8)]:List aV)),pI x8.aB5,pS x8.aB3,aR x8.aB4,pI 5,pS bJ,pS eT,pI 0,pI 0,pS s_,.nil,.lit 9 (aL.trs (([x10]:List aL))),.nil]) ?_;exact gE 2
 refine gQ 5 ?_;refine bC H (fun h23 H=>?_) (fun h23 H=>?_)
 ·refine gQ 2 ?_;refine q1 (vP ([eN,sJ]:LB)) (dP H fun x25 x26 z24 H=>(q1 (eU [0] [] func193 (SX fu d11 ([eN,sJ]:LB) 3 _ z24)) ?_))
  refine gQ 5 ?_;refine AL.weak (Wk.freezeE (k:=2) (sz:=4) (es:= [aG.cs (aG.mk bJ x6)]) (es':=aG.trs (([(aG.mk bJ x6)]:List aG))) (s':=⟨[(0,.ptr 0 0),(2,.ptr 1 0),(3,.ptr 3 0),(20,pN (d1.below 10))],⟨[some ⟨133,dC x26⟩,some ⟨213,[pS s_,.nil,.nil,.nil,pI 0,pS s_,.nil,pI 0,pS s_,pS s_,pI 0,pI 0,pS s_,.nil,.nil,.nil]⟩,none,some ⟨213,[pS y3,.lit 1 (aY (([fW]:LB))),bY ([(aG.mk bJ x6)]:List aG),.lit 4 (aV.trs (([(aV.mk eN x6)]:List aV))),pI x8.aB5,pS x8.aB3,aR x8.aB4,pI x25.aB5,pS x25.aCa,pS x25.aB3,pI x25.aCL,pI x25.aB7.aB5,pS x25.aB7.aB3,aR x25.aB7.aB4,iP x25.aB4,sE x25.aCo]⟩],[]⟩⟩) (by simp [aG.trs_map,aG.tr_cs]) rfl jN (by simp [aG.cs]) (Nat.le_of_ble_eq_true rfl) ⟨⟨rfl,eB,rfl⟩,⟨⟨rfl,eB,rfl⟩,⟨⟨rfl,eB,rfl⟩,trivial⟩⟩⟩ rfl rfl (eM hC (lB rfl) (Nat.le_of_ble_eq_true rfl)) (by repeat' first|exact trivial|refine⟨⟨_,rfl,eB,rfl⟩,?_⟩)) ?_;refine q1 (bW [pS y3,.lit 1 (aY (([fW]:LB))),bY ([(aG.mk bJ x6)]:List aG),.lit 4 (aV.trs (([(aV.mk eN x6)]:List aV))),pI x8.aB5,pS x8.aB3,aR x8.aB4,pI x25.aB5,pS x25.aCa,pS x25.aB3,pI x25.aCL,pI x25.aB7.aB5,pS x25.aB7.aB3,aR x25.aB7.aB4,iP x25.aB4,sE x25.aCo]) ?_;exact gE 2
 refine gQ 5 ?_;refine bC H (fun h27 H=>?_) (fun h27 H=>?_)
 ·refine dP H fun x29 x30 z28 H=>(dW (dI [3] bZ (dB [46] 0 1 uK (dI [0] bF (dE [48] (eU [0] [] func132 (B8 (B7 fu) d11 1 _ z28)) (dI [47] (bB.indexB (sz:=4) (k:=2) (N:=1) (i:=0) rfl rfl rfl rfl (by decide) aq7.h) (dI [50] bZ (kU [51,49] jO (dN ?_)))))))))
  refine gQ 2 ?_;refine AL.weak (Wk.freezeE (k:=2) (sz:=4) (es:= [aG.cs (aG.mk bJ x29)]) (es':=aG.trs (([(aG.mk bJ x29)]:List aG))) (s':=⟨[(0,.ptr 0 0),(2,.ptr 1 0),(3,.ptr 3 0),(20,pN (d1.below 10))],⟨[some ⟨133,dC x30⟩,some ⟨213,[pS s_,.nil,.nil,.nil,pI 0,pS s_,.nil,pI 0,pS s_,pS s_,pI 0,pI 0,pS s_,.nil,.nil,.nil]⟩,none,some ⟨213,[pS y3,.lit 1 (aY (([fW]:LB))),bY ([(aG.mk bJ x29)]:List aG),.lit 4 (aV.trs (([(aV.mk eN x6)]:List aV))),pI x8.aB5,pS x8.aB3,aR x8.aB4,pI 5,pS bJ,pS eT,pI 0,pI 0,pS s_,.nil,.lit 9 (aL.trs (([x10]:List aL))),.nil]⟩],[]⟩⟩) (by simp [aG.trs_map,aG.tr_cs]) rfl jN (by simp [aG.cs]) (Nat.le_of_ble_eq_true rfl) ⟨⟨rfl,eB,rfl⟩,⟨⟨rfl,eB,rfl⟩,⟨⟨rfl,eB,rfl⟩,trivial⟩⟩⟩ rfl rfl (eM hC (lB rfl) (Nat.le_of_ble_eq_true rfl)) (by repeat' first|exact trivial|refine⟨⟨_,rfl,eB,rfl⟩,?_⟩)) ?_;refine q1 (bW [pS y3,.lit 1 (aY (([fW]:LB))),bY ([(aG.mk bJ x29)]:List aG),.lit 4 (aV.trs (([(aV.mk eN x6)]:List aV))),pI x8.aB5,pS x8.aB3,aR x8.aB4,pI 5,pS bJ,pS eT,pI 0,pI 0,pS s_,.nil,.lit 9 (aL.trs (([x10]:List aL))),.nil]) ?_;exact gE 2
 refine gQ 5 ?_;refine bC H (fun h31 H=>?_) (fun h31 H=>?_)
 ·refine gQ 2 ?_;refine q1 (vP ([s_,GC]:LB)) (fZ H fun d32 h33 H=>(fZ H fun y34 h35 H=>(q1 (eU [0] [] func48 (PP h33 h35 (f7 d11 ([s_,GC]:LB) (by decide)))) ?_)))
  refine gQ 5 ?_;refine AL.weak (Wk.freezeE (k:=2) (sz:=4) (es:= [aG.cs (aG.mk bJ x6)]) (es':=aG.trs (([(aG.mk bJ x6)]:List aG))) (s':=⟨[(0,.ptr 0 0),(2,.ptr 1 0),(3,.ptr 3 0),(20,pN (d1.below 10))],⟨[some ⟨133,dC d32⟩,some ⟨213,[pS s_,.nil,.nil,.nil,pI 0,pS s_,.nil,pI 0,pS s_,pS s_,pI 0,pI 0,pS s_,.nil,.nil,.nil]⟩,none,some ⟨213,[pS y34,.lit 1 (aY (([fW]:LB))),bY ([(aG.mk bJ x6)]:List aG),.lit 4 (aV.trs (([(aV.mk eN x6)]:List aV))),pI x8.aB5,pS x8.aB3,aR x8.aB4,pI 5,pS bJ,pS eT,pI 0,pI 0,pS s_,.nil,.lit 9 (aL.trs (([x10]:List aL))),.nil]⟩],[]⟩⟩) (by simp [aG.trs_map,aG.tr_cs]) rfl jN (by simp [aG.cs]) (Nat.le_of_ble_eq_true rfl) ⟨⟨rfl,eB,rfl⟩,⟨⟨rfl,eB,rfl⟩,⟨⟨rfl,eB,rfl⟩,trivial⟩⟩⟩ rfl rfl (eM hC (lB rfl) (Nat.le_of_ble_eq_true rfl)) (by repeat' first|exact trivial|refine⟨⟨_,rfl,eB,rfl⟩,?_⟩)) ?_;refine q1 (bW [pS y34,.lit 1 (aY (([fW]:LB))),bY ([(aG.mk bJ x6)]:List aG),.lit 4 (aV.trs (([(aV.mk eN x6)]:List aV))),pI x8.aB5,pS x8.aB3,aR x8.aB4,pI 5,pS bJ,pS eT,pI 0,pI 0,pS s_,.nil,.lit 9 (aL.trs (([x10]:List aL))),.nil]) ?_;exact gE 2
 refine gQ 3 ?_;refine AL.weak (Wk.freezeE (k:=2) (sz:=4) (es:= [aG.cs (aG.mk bJ x6)]) (es':=aG.trs (([(aG.mk bJ x6)]:List aG))) (s':=⟨[(0,.ptr 0 0),(2,.ptr 1 0),(3,.ptr 3 0),(20,pN (d1.below 10))],⟨[some ⟨133,dC d11⟩,some ⟨213,[pS s_,.nil,.nil,.nil,pI 0,pS s_,.nil,pI 0,pS s_,pS s_,pI 0,pI 0,pS s_,.nil,.nil,.nil]⟩,none,some ⟨213,[pS y3,.lit 1 (aY (([fW]:LB))),bY ([(aG.mk bJ x6)]:List aG),.lit 4 (aV.trs (([(aV.mk eN x6)]:List aV))),pI x8.aB5,pS x8.aB3,aR x8.aB4,pI 5,pS bJ,pS eT,pI 0,pI 0,pS s_,.nil,.lit 9 (aL.trs (([x10]:List aL))),.nil]⟩],[]⟩⟩) (by simp [aG.trs_map,aG.tr_cs]) rfl jN (by simp [aG.cs]) (Nat.le_of_ble_eq_true rfl) ⟨⟨rfl,eB,rfl⟩,⟨⟨rfl,eB,rfl⟩,⟨⟨rfl,eB,rfl⟩,trivial⟩⟩⟩ rfl rfl (eM hC (lB rfl) (Nat.le_of_ble_eq_true rfl)) (by repeat' first|exact trivial|refine⟨⟨_,rfl,eB,rfl⟩,?_⟩)) ?_;refine q1 (bW [pS y3,.lit 1 (aY (([fW]:LB))),bY ([(aG.mk bJ x6)]:List aG),.lit 4 (aV.trs (([(aV.mk eN x6)]:List aV))),pI x8.aB5,pS x8.aB3,aR x8.aB4,pI 5,pS bJ,pS eT,pI 0,pI 0,pS s_,.nil,.lit 9 (aL.trs (([x10]:List aL))),.nil]) ?_;exact gE 2
end
end Go.Proofs.YtfcoaagbccmahaaGreat.W

namespace Go.Proofs.YtfcoaagbccmahaaGreat.W
set_option maxRecDepth 100000
set_option maxHeartbeats 40000000
noncomputable section
open Tryz Go.RowKit Go.Proofs
attribute [local irreducible] lt
def acZ(fu:Nat)(p0:DS)(x2:aA)(d3:DS)(y5:ByteArray)(d7:DS)(x10:aA)(d13:DS)(x17 x19 x21:aL):Option ((aU×DS)⊕((LB))):=lt (d13.after 3) fun d24=>sw (decide (d13.below 3=0)) (some (.inr ([jL]:LB))) (some (.inr ([])))
def ac0(fu:Nat)(p0:DS)(x2:aA)(d3:DS)(y5:ByteArray)(d7:DS)(x10:aA)(d37:DS):Option ((aU×DS)⊕((LB))):=lt (d37.after 3) fun d41=>sw (decide (d37.below 3=0)) (some (.inr ([jL]:LB))) (some (.inr ([])))
def ac1(fu:Nat)(p0:DS)(x2:aA)(d3:DS)(y5:ByteArray)(d7:DS)(x10:aA):Option ((aU×DS)⊕((List aF))):=lt (d7.after 2) fun d56=>sw (decide (d7.below 2=0)) (bd (wR fu eN) fun x61=>bd (uF fu 1) fun x63=>bd (vC fu 10 CE ([(aL.mk 5 y5 eT 0 (aA.mk 0 s_ []) ([x61]:List aL) []),x63]:List aL)) fun x65=>gd ((([(aF.mk eT [] x10 false [] (aL.mk 0 s_ s_ 0 (aA.mk 0 s_ []) [] []))]:List aF)).length+(([(aF.mk fK ([x2]:List aA) x10 true ([eN,sJ]:LB) x65)]:List aF)).length≤68719476736) (some (.inr (([(aF.mk eT [] x10 false [] (aL.mk 0 s_ s_ 0 (aA.mk 0 s_ []) [] []))]:List aF)++([(aF.mk fK ([x2]:List aA) x10 true ([eN,sJ]:LB) x65)]:List aF))))) (some (.inr ([(aF.mk eT [] x10 false [] (aL.mk 0 s_ s_ 0 (aA.mk 0 s_ []) [] []))]:List aF)))
def ac2(fu:Nat)(p0:DS)(x2:aA)(d3:DS)(y5:ByteArray)(d7:DS)(x10:aA)(v55:List aF):Option ((aU×DS)⊕((LB))):=lt ((d7.after 2).after 3) fun d68=>sw (decide ((d7.after 2).below 3=0)) (some (.inr ([jL]:LB))) (some (.inr ([])))
def IX(fu:Nat)(p0:DS):Option (aU×DS):=bd (l4 fu j9) fun x2=>lt (p0.after ([bJ,xX,fC]:LB).length) fun d3=>lt (p0.pick ([bJ,xX,fC]:LB)) fun y5=>lt (d3.after 3) fun d7=>bd (FB fu) fun x10=>sw (decide ((((((d7.after 2).after 3).below 12:Nat):Int):Int)=2)||decide ((((((d7.after 2).after 3).below 12:Nat):Int):Int)=3)) (sw (decide (d7.below 2=0)) (lt (d7.after 2) fun d13=>bd (wR fu eN) fun x17=>bd (uF fu 1) fun x19=>bd (vC fu 10 CE ([(aL.mk 5 y5 eT 0 (aA.mk 0 s_ []) ([x17]:List aL) []),x19]:List aL)) fun x21=>gd ((([(aF.mk eT [] x10 false [] (aL.mk 0 s_ s_ 0 (aA.mk 0 s_ []) [] []))]:List aF)).length+(([(aF.mk fK ([x2]:List aA) x10 true ([eN,sJ]:LB) x21)]:List aF)).length≤68719476736) (so (acZ fu p0 x2 d3 y5 d7 x10 d13 x17 x19 x21) fun v23=>lt ((d13.after 3).after 12) fun d28=>sw (decide (((((d13.after 3).below 12:Nat):Int):Int)=2)) (lt (d28.after ([j9,CZ]:LB).length) fun d31=>lt (d28.pick ([j9,CZ]:LB)) fun y33=>bd (l4 fu y33) fun x36=>some ((aU.mk y5 v23 false (decide (d3.below 3=0)) ([(aF.mk eT ([]) x36 false ([]) (aL.mk 0 s_ s_ 0 (aA.mk 0 s_ ([])) ([]) ([]))),(aF.mk fK ([x2]:List aA) x10 true ([eN,sJ]:LB) x21)]:List aF)),d31)) (some ((aU.mk y5 v23 false (decide (d3.below 3=0)) ([(aF.mk eT ([]) x10 true ([]) (aL.mk 0 s_ s_ 0 (aA.mk 0 s_ ([])) ([]) ([]))),(aF.mk fK ([x2]:List aA) x10 true ([eN,sJ]:LB) x21)]:List aF)),d28)))) (lt (d7.after 2) fun d37=>so (ac0 fu p0 x2 d3 y5 d7 x10 d37) fun v40=>lt ((d37.after 3).after 12) fun d45=>sw (decide (((((d37.after 3).below 12:Nat):Int):Int)=2)) (lt (d45.after ([j9,CZ]:LB).length) fun d48=>lt (d45.pick ([j9,CZ]:LB)) fun y50=>bd (l4 fu y50) fun x53=>some ((aU.mk y5 v40 false (decide (d3.below 3=0)) ([(aF.mk eT [] x53 false [] (aL.mk 0 s_ s_ 0 (aA.mk 0 s_ []) [] []))]:List aF)),d48)) (some ((aU.mk y5 v40 false (decide (d3.below 3=0)) ([(aF.mk eT [] x10 true [] (aL.mk 0 s_ s_ 0 (aA.mk 0 s_ []) [] []))]:List aF)),d45)))) (so (ac1 fu p0 x2 d3 y5 d7 x10) fun v55=>so (ac2 fu p0 x2 d3 y5 d7 x10 v55) fun v67=>lt (((d7.after 2).after 3).after 12) fun d72=>sw (decide ((((((d7.after 2).after 3).below 12:Nat):Int):Int)=0)) (some ((aU.mk y5 v67 true (decide (d3.below 3=0)) v55),d72)) (sw (decide ((((((d7.after 2).after 3).below 12:Nat):Int):Int)=1)) (lt (d72.after ([s_,eG,s_A]:LB).length) fun d76=>lt (d72.pick ([s_,eG,s_A]:LB)) fun y78=>some ((aU.mk y78 v67 false (decide (d3.below 3=0)) v55),d76)) (sw (decide ((((((d7.after 2).after 3).below 12:Nat):Int):Int)=4)) (gd ((v67).length+(([jL]:LB)).length≤68719476736) (some ((aU.mk y5 (v67++([jL]:LB)) false (decide (d3.below 3=0)) v55),d72))) (sw (decide ((((((d7.after 2).after 3).below 12:Nat):Int):Int)=5)) (gd (0<(v55).length) (lt (aT v55 0) fun y84=>gd ((v55).length+(([y84]:List aF)).length≤68719476736) (some ((aU.mk y5 v67 false (decide (d3.below 3=0)) (v55++([y84]:List aF))),d72)))) (some ((aU.mk y5 v67 false (decide (d3.below 3=0)) v55),d72))))))
theorem ac3(fu:Nat)(p0:DS)(r:aU×DS)(H:IX fu p0=some r):b7 Tryz.prog 163 [.ptr 0 0] ⟨[some ⟨133,dC p0⟩],[]⟩ (fun q t=>q=((aU.pv r.1))∧t=⟨[some ⟨133,dC r.2⟩],[]⟩):=by
 refine qJ func163 H (fun C hC H=>?_)
 refine gQ 6 ?_;refine bK H fun x2 z1 H=>(q1 (bE func137 (kD (jH fu) j9 _ z1)) ?_)
 refine gQ 6 ?_;refine q1 (vP ([bJ,xX,fC]:LB)) (fZ H fun d3 h4 H=>(fZ H fun y5 h6 H=>(q1 (eU [0] [] func48 (PP h4 h6 (f7 p0 ([bJ,xX,fC]:LB) (by decide)))) (q1 bF (fZ H fun d7 h8 H=>(q1 (eU [0] [] func45 (EU h8 (l6 d3 3))) (bK H fun x10 z9 H=>(q1 (bE func49 (wW fu _ z9)) (q1 rW ?_)))))))))
 rcases oQ (decide ((((((d7.after 2).after 3).below 12:Nat):Int):Int)=2)||decide ((((((d7.after 2).after 3).below 12:Nat):Int):Int)=3)) with g11|g11
 ·have H:=sZ H g11
  rcases oQ (decide (d7.below 2=0)) with g12|g12
  ·have H:=sZ H g12
   refine q1 (bB.buildSliceB (cs:= [pS eT,.nil,pI x10.aB5,pS x10.aB3,aR x10.aB4,pB false,.nil,pI 0,pS s_,pS s_,pI 0,pI 0,pS s_,.nil,.nil,.nil]) rfl rfl U8.h aqU.h rfl rfl rfl (by decide) rfl (by decide)) ?_;refine gQ 8 ?_;refine fZ H fun d13 h14 H=>?_
   have g15:=g11
   rw [← h14] at g15
   refine q1 (eU [0] [] func45 (EU h14 (l6 d7 2))) (qN (aiB g12 (bK H fun x17 z16 H=>(bK H fun x19 z18 H=>(bK H fun x21 z20 H=>?_)))))
   refine cQ.wk (Wk.freezeE (k:=3) (sz:=16) (es:= [aF.cs (aF.mk eT [] x10 false [] (aL.mk 0 s_ s_ 0 (aA.mk 0 s_ []) [] []))]) (es':=aF.trs (([(aF.mk eT [] x10 false [] (aL.mk 0 s_ s_ 0 (aA.mk 0 s_ []) [] []))]:List aF))) (s':=⟨[(0,.ptr 0 0),(2,.ptr 1 0),(3,.ptr 2 0),(4,.ptr 4 0),(5,(aA.pv x2)),(6,.ptr 0 0),(7,.lit 1 (aY (([bJ,xX,fC]:LB)))),(8,pS y5),(9,.ptr 0 0),(10,pB (decide (d3.below 3=0))),(11,(aA.pv x10)),(12,.agg [pS eT,.nil,pI x10.aB5,pS x10.aB3,aR x10.aB4,pB false,.nil,pI 0,pS s_,pS s_,pI 0,pI 0,pS s_,.nil,.nil,.nil]),(13,.lit 16 (aF.trs (([(aF.mk eT [] x10 false [] (aL.mk 0 s_ s_ 0 (aA.mk 0 s_ []) [] []))]:List aF)))),(14,.agg [pS y5,.nil,pB false,pB (decide (d3.below 3=0)),.lit 16 (aF.trs (([(aF.mk eT [] x10 false [] (aL.mk 0 s_ s_ 0 (aA.mk 0 s_ []) [] []))]:List aF)))]),(15,.ptr 0 0),(16,pB (decide (d7.below 2=0)))],⟨[some ⟨133,dC d13⟩,some ⟨156,[pS s_,.nil,pB false,pB false,.nil]⟩,some ⟨30,bM x2⟩,none,some ⟨156,[pS y5,.nil,pB false,pB (decide (d3.below 3=0)),.lit 16 (aF.trs (([(aF.mk eT [] x10 false [] (aL.mk 0 s_ s_ 0 (aA.mk 0 s_ []) [] []))]:List aF)))]⟩],[]⟩⟩) (by simp [aF.trs_map,aF.tr_cs]) rfl jN (by simp [aF.cs]) (Nat.le_of_ble_eq_true rfl) ⟨⟨rfl,eB,rfl⟩,⟨⟨rfl,eB,rfl⟩,⟨⟨rfl,eB,rfl⟩,⟨⟨rfl,eB,rfl⟩,trivial⟩⟩⟩⟩ rfl rfl (eM hC (lB rfl) (Nat.le_of_ble_eq_true rfl)) (by repeat' first|exact trivial|refine⟨⟨_,rfl,eB,rfl⟩,?_⟩)) ?_;refine cC H fun z22 H=>(dW (dI [4] bZ (dD [17] eE (dD [3] (bW [pI x2.aB5,pS x2.aB3,aR x2.aB4]) (dI [19] (vP ([x2]:List aA)) (dI [] (bE func49 (wW fu _ z9)) (dI [] (vP ([eN,sJ]:LB)) (dI [4] bZ (dD [23] eE (dI [] (bE func191 (BV fu eN _ z16)) (dI [25] (vP ([x17]:List aL)) (dI [24,26] rW (dI [] (bE func192 (wP fu 1 _ z18)) ?_)))))))))))))
   refine dI [27,28] (vP ([(aL.mk 5 y5 eT 0 (aA.mk 0 s_ []) ([x17]:List aL) []),x19]:List aL)) (dI [29] (bE func190 (wQ fu 10 CE ([(aL.mk 5 y5 eT 0 (aA.mk 0 s_ []) ([x17]:List aL) []),x19]:List aL) _ z20)) (dI [20,21,22,30] rW (dI [31] (vP ([(aF.mk fK ([x2]:List aA) x10 true ([eN,sJ]:LB) x21)]:List aF)) ?_)))
   refine dE [18,32] (bB.appendLitBE (es1:=aF.trs (([(aF.mk eT [] x10 false [] (aL.mk 0 s_ s_ 0 (aA.mk 0 s_ []) [] []))]:List aF))) (es2:=aF.trs (([(aF.mk fK ([x2]:List aA) x10 true ([eN,sJ]:LB) x21)]:List aF))) (es3:= [aF.cs (aF.mk eT [] x10 false [] (aL.mk 0 s_ s_ 0 (aA.mk 0 s_ []) [] [])),aF.cs (aF.mk fK ([x2]:List aA) x10 true ([eN,sJ]:LB) x21)]) (cs:= [pS eT,aR [],pI x10.aB5,pS x10.aB3,aR x10.aB4,pB false,rS [],pI 0,pS s_,pS s_,pI 0,pI 0,pS s_,aR [],iP [],sE [],pS fK,aR ([x2]:List aA),pI x10.aB5,pS x10.aB3,aR x10.aB4,pB true,rS ([eN,sJ]:LB),pI x21.aB5,pS x21.aCa,pS x21.aB3,pI x21.aCL,pI x21.aB7.aB5,pS x21.aB7.aB3,aR x21.aB7.aB4,iP x21.aB4,sE x21.aCo]) rfl rfl rfl rfl rfl (fun e he=>by rw [aF.trs_map] at he;obtain⟨x,_,rfl⟩:=List.mem_map.1 he;rw [aF.tr_cs];rfl) (fun e he=>by rw [aF.trs_map] at he;obtain⟨x,_,rfl⟩:=List.mem_map.1 he;rw [aF.tr_cs];rfl) (by rw [aF.trs_map];exact List.cons_ne_nil _ _) (by decide) U8.h atC.h (by decide) (by rw [aF.trs_len,aF.trs_len];exact CQ z22 (by decide)) (by simp [aF.trs_map,aF.tr_cs]) rfl rfl) ?_;refine dI [4] bZ (kU [34,33] jO (dN (qS ?_)))
   refine nV (σ:=(LB)) (fun v23=>⟨[(0,.ptr 0 0),(2,.ptr 1 0),(4,.ptr 4 0)],⟨[some ⟨133,dC (d13.after 3)⟩,some ⟨156,[pS s_,.nil,pB false,pB false,.nil]⟩,some ⟨30,bM x2⟩,none,some ⟨156,[pS y5,.lit 1 (aY (v23)),pB false,pB (decide (d3.below 3=0)),.gsl 5 2]⟩,some ⟨237,[pS eT,aR [],pI x10.aB5,pS x10.aB3,aR x10.aB4,pB false,rS [],pI 0,pS s_,pS s_,pI 0,pI 0,pS s_,aR [],iP [],sE [],pS fK,aR ([x2]:List aA),pI x10.aB5,pS x10.aB3,aR x10.aB4,pB true,rS ([eN,sJ]:LB),pI x21.aB5,pS x21.aCa,pS x21.aB3,pI x21.aCL,pI x21.aB7.aB5,pS x21.aB7.aB3,aR x21.aB7.aB4,iP x21.aB4,sE x21.aCo]⟩],[]⟩⟩) (eK H) (fun H=>?_) ?_
   ·refine gQ 3 ?_;refine fZ H fun d24 h25 H=>?_
    have g26:=g15
    rw [← h25] at g26
    refine q1 (eU [0] [] func45 (EU h25 (l6 d13 3))) (qN ?_)
    refine bC H (fun h27 H=>?_) (fun h27 H=>?_)
    ·refine qR (q1 (vP ([jL]:LB)) ?_)
     refine gQ 3 ?_
     subst h25
     exact gE 0
    refine cQ.skip ?_
    subst h25
    exact gE 0
   rintro v23 H
   refine gQ 4 ?_;refine fZ H fun d28 h29 H=>(q1 (eU [0] [] func73 (EU h29 (fI (d13.after 3) 12))) ?_)
   refine gQ 7 ?_;refine U5 (akQ (b:=0) g15 (by decide) (by decide)) ?_;refine gQ 5 ?_;refine U5 (akQ (b:=1) g15 (by decide) (by decide)) ?_;refine gQ 5 ?_;refine bC H (fun h30 H=>?_) (fun h30 H=>?_)
   ·refine fZ H fun d31 h32 H=>(fZ H fun y33 h34 H=>(bK H fun x36 z35 H=>(dW (dI [4] bZ (dB [52] 0 1 uK (dI [0] bF (dI [] (vP ([j9,CZ]:LB)) (dE [54,55] (eU [0] [] func48 (PP h32 h34 (f7 d28 ([j9,CZ]:LB) (by decide)))) (dI [56] (bE func137 (kD (jH fu) y33 _ z35)) (dI [53] (bB.indexG (sz:=16) (k:=5) (N:=2) (i:=0) rfl rfl rfl rfl (by decide) U8.h) (dI [58] bZ (kU [59,57] jO (dN ?_)))))))))))))
    refine gQ 2 ?_;refine AL.weak (Wk.freezeE (k:=5) (sz:=16) (es:= [aF.cs (aF.mk eT ([]) x36 false ([]) (aL.mk 0 s_ s_ 0 (aA.mk 0 s_ ([])) ([]) ([]))),aF.cs (aF.mk fK ([x2]:List aA) x10 true ([eN,sJ]:LB) x21)]) (es':=aF.trs (([(aF.mk eT ([]) x36 false ([]) (aL.mk 0 s_ s_ 0 (aA.mk 0 s_ ([])) ([]) ([]))),(aF.mk fK ([x2]:List aA) x10 true ([eN,sJ]:LB) x21)]:List aF))) (s':=⟨[(0,.ptr 0 0),(2,.ptr 1 0),(4,.ptr 4 0),(40,pN ((d13.after 3).below 12))],⟨[some ⟨133,dC d31⟩,some ⟨156,[pS s_,.nil,pB false,pB false,.nil]⟩,some ⟨30,bM x2⟩,none,some ⟨156,[pS y5,.lit 1 (aY (v23)),pB false,pB (decide (d3.below 3=0)),gC ([(aF.mk eT ([]) x36 false ([]) (aL.mk 0 s_ s_ 0 (aA.mk 0 s_ ([])) ([]) ([]))),(aF.mk fK ([x2]:List aA) x10 true ([eN,sJ]:LB) x21)]:List aF)]⟩,none],[]⟩⟩) (by simp [aF.trs_map,aF.tr_cs]) rfl jN (by simp [aF.cs]) (Nat.le_of_ble_eq_true rfl) ⟨⟨rfl,eB,rfl⟩,⟨⟨rfl,eB,rfl⟩,⟨⟨rfl,eB,rfl⟩,⟨⟨rfl,eB,rfl⟩,trivial⟩⟩⟩⟩ rfl rfl (eM hC (lB rfl) (Nat.le_of_ble_eq_true rfl)) (by repeat' first|exact trivial|refine⟨⟨_,rfl,eB,rfl⟩,?_⟩)) ?_;refine q1 (bW [pS y5,.lit 1 (aY (v23)),pB false,pB (decide (d3.below 3=0)),gC ([(aF.mk eT ([]) x36 false ([]) (aL.mk 0 s_ s_ 0 (aA.mk 0 s_ ([])) ([]) ([]))),(aF.mk fK ([x2]:List aA) x10 true ([eN,sJ]:LB) x21)]:List aF)]) ?_;exact gE 2
   refine gQ 5 ?_;refine aiB (aqP g15 h30) ?_;refine gQ 3 ?_;refine q1 (bB.indexG (sz:=16) (k:=5) (N:=2) (i:=0) rfl rfl rfl rfl (by decide) U8.h) ?_;refine gQ 5 ?_;refine AL.weak (Wk.freezeE (k:=5) (sz:=16) (es:= [aF.cs (aF.mk eT ([]) x10 true ([]) (aL.mk 0 s_ s_ 0 (aA.mk 0 s_ ([])) ([]) ([]))),aF.cs (aF.mk fK ([x2]:List aA) x10 true ([eN,sJ]:LB) x21)]) (es':=aF.trs (([(aF.mk eT ([]) x10 true ([]) (aL.mk 0 s_ s_ 0 (aA.mk 0 s_ ([])) ([]) ([]))),(aF.mk fK ([x2]:List aA) x10 true ([eN,sJ]:LB) x21)]:List aF))) (s':=⟨[(0,.ptr 0 0),(2,.ptr 1 0),(4,.ptr 4 0),(40,pN ((d13.after 3).below 12))],⟨[some ⟨133,dC d28⟩,some ⟨156,[pS s_,.nil,pB false,pB false,.nil]⟩,some ⟨30,bM x2⟩,none,some ⟨156,[pS y5,.lit 1 (aY (v23)),pB false,pB (decide (d3.below 3=0)),gC ([(aF.mk eT ([]) x10 true ([]) (aL.mk 0 s_ s_ 0 (aA.mk 0 s_ ([])) ([]) ([]))),(aF.mk fK ([x2]:List aA) x10 true ([eN,sJ]:LB) x21)]:List aF)]⟩,none],[]⟩⟩) (by simp [aF.trs_map,aF.tr_cs]) rfl jN (by simp [aF.cs]) (Nat.le_of_ble_eq_true rfl) ⟨⟨rfl,eB,rfl⟩,⟨⟨rfl,eB,rfl⟩,⟨⟨rfl,eB,rfl⟩,⟨⟨rfl,eB,rfl⟩,trivial⟩⟩⟩⟩ rfl rfl (eM hC (lB rfl) (Nat.le_of_ble_eq_true rfl)) (by repeat' first|exact trivial|refine⟨⟨_,rfl,eB,rfl⟩,?_⟩)) ?_;refine q1 (bW [pS y5,.lit 1 (aY (v23)),pB false,pB (decide (d3.below 3=0)),gC ([(aF.mk eT ([]) x10 true ([]) (aL.mk 0 s_ s_ 0 (aA.mk 0 s_ ([])) ([]) ([]))),(aF.mk fK ([x2]:List aA) x10 true ([eN,sJ]:LB) x21)]:List aF)]) ?_;exact gE 2
  have H:=sY H g12
  refine q1 (bB.buildSliceB (cs:= [pS eT,.nil,pI x10.aB5,pS x10.aB3,aR x10.aB4,pB false,.nil,pI 0,pS s_,pS s_,pI 0,pI 0,pS s_,.nil,.nil,.nil]) rfl rfl U8.h aqU.h rfl rfl rfl (by decide) rfl (by decide)) ?_;refine gQ 8 ?_;refine fZ H fun d37 h38 H=>?_
  have g39:=g11
  rw [← h38] at g39
  refine q1 (eU [0] [] func45 (EU h38 (l6 d7 2))) (qN (U5 g12 ?_))
  refine gQ 2 ?_;refine nV (σ:=(LB)) (fun v40=>⟨[(0,.ptr 0 0),(2,.ptr 1 0),(4,.ptr 4 0)],⟨[some ⟨133,dC (d37.after 3)⟩,some ⟨156,[pS s_,.nil,pB false,pB false,.nil]⟩,some ⟨30,bM x2⟩,some ⟨237,[pS eT,.nil,pI x10.aB5,pS x10.aB3,aR x10.aB4,pB false,.nil,pI 0,pS s_,pS s_,pI 0,pI 0,pS s_,.nil,.nil,.nil]⟩,some ⟨156,[pS y5,.lit 1 (aY (v40)),pB false,pB (decide (d3.below 3=0)),.bsl 3 1]⟩],[]⟩⟩) (eK H) (fun H=>?_) ?_
  ·refine gQ 3 ?_;refine fZ H fun d41 h42 H=>?_
   have g43:=g39
   rw [← h42] at g43
   refine q1 (eU [0] [] func45 (EU h42 (l6 d37 3))) (qN ?_)
   refine bC H (fun h44 H=>?_) (fun h44 H=>?_)
   ·refine qR (q1 (vP ([jL]:LB)) ?_)
    refine gQ 3 ?_
    subst h42
    exact gE 0
   refine cQ.skip ?_
   subst h42
   exact gE 0
  rintro v40 H
  refine gQ 4 ?_;refine fZ H fun d45 h46 H=>(q1 (eU [0] [] func73 (EU h46 (fI (d37.after 3) 12))) ?_)
  refine gQ 7 ?_;refine U5 (akQ (b:=0) g39 (by decide) (by decide)) ?_;refine gQ 5 ?_;refine U5 (akQ (b:=1) g39 (by decide) (by decide)) ?_;refine gQ 5 ?_;refine bC H (fun h47 H=>?_) (fun h47 H=>?_)
  ·refine fZ H fun d48 h49 H=>(fZ H fun y50 h51 H=>(bK H fun x53 z52 H=>(dW (dI [4] bZ (dB [52] 0 1 uK (dI [0] bF (dI [] (vP ([j9,CZ]:LB)) (dE [54,55] (eU [0] [] func48 (PP h49 h51 (f7 d45 ([j9,CZ]:LB) (by decide)))) (dI [56] (bE func137 (kD (jH fu) y50 _ z52)) (dI [53] (bB.indexB (sz:=16) (k:=3) (N:=1) (i:=0) rfl rfl rfl rfl (by decide) U8.h) (dI [58] bZ (kU [59,57] jO (dN ?_)))))))))))))
   refine gQ 2 ?_;refine AL.weak (Wk.freezeE (k:=3) (sz:=16) (es:= [aF.cs (aF.mk eT [] x53 false [] (aL.mk 0 s_ s_ 0 (aA.mk 0 s_ []) [] []))]) (es':=aF.trs (([(aF.mk eT [] x53 false [] (aL.mk 0 s_ s_ 0 (aA.mk 0 s_ []) [] []))]:List aF))) (s':=⟨[(0,.ptr 0 0),(2,.ptr 1 0),(4,.ptr 4 0),(40,pN ((d37.after 3).below 12))],⟨[some ⟨133,dC d48⟩,some ⟨156,[pS s_,.nil,pB false,pB false,.nil]⟩,some ⟨30,bM x2⟩,none,some ⟨156,[pS y5,.lit 1 (aY (v40)),pB false,pB (decide (d3.below 3=0)),gC ([(aF.mk eT [] x53 false [] (aL.mk 0 s_ s_ 0 (aA.mk 0 s_ []) [] []))]:List aF)]⟩],[]⟩⟩) (by simp [aF.trs_map,aF.tr_cs]) rfl jN (by simp [aF.cs]) (Nat.le_of_ble_eq_true rfl) ⟨⟨rfl,eB,rfl⟩,⟨⟨rfl,eB,rfl⟩,⟨⟨rfl,eB,rfl⟩,⟨⟨rfl,eB,rfl⟩,trivial⟩⟩⟩⟩ rfl rfl (eM hC (lB rfl) (Nat.le_of_ble_eq_true rfl)) (by repeat' first|exact trivial|refine⟨⟨_,rfl,eB,rfl⟩,?_⟩)) ?_;refine q1 (bW [pS y5,.lit 1 (aY (v40)),pB false,pB (decide (d3.below 3=0)),gC ([(aF.mk eT [] x53 false [] (aL.mk 0 s_ s_ 0 (aA.mk 0 s_ []) [] []))]:List aF)]) ?_;exact gE 2
  refine gQ 5 ?_;refine aiB (aqP g39 h47) ?_;refine gQ 3 ?_;refine q1 (bB.indexB (sz:=16) (k:=3) (N:=1) (i:=0) rfl rfl rfl rfl (by decide) U8.h) ?_;refine gQ 5 ?_;refine AL.weak (Wk.freezeE (k:=3) (sz:=16) (es:= [aF.cs (aF.mk eT [] x10 true [] (aL.mk 0 s_ s_ 0 (aA.mk 0 s_ []) [] []))]) (es':=aF.trs (([(aF.mk eT [] x10 true [] (aL.mk 0 s_ s_ 0 (aA.mk 0 s_ []) [] []))]:List aF))) (s':=⟨[(0,.ptr 0 0),(2,.ptr 1 0),(4,.ptr 4 0),(40,pN ((d37.after 3).below 12))],⟨[some ⟨133,dC d45⟩,some ⟨156,[pS s_,.nil,pB false,pB false,.nil]⟩,some ⟨30,bM x2⟩,none,some ⟨156,[pS y5,.lit 1 (aY (v40)),pB false,pB (decide (d3.below 3=0)),gC ([(aF.mk eT [] x10 true [] (aL.mk 0 s_ s_ 0 (aA.mk 0 s_ []) [] []))]:List aF)]⟩],[]⟩⟩) (by simp [aF.trs_map,aF.tr_cs]) rfl jN (by simp [aF.cs]) (Nat.le_of_ble_eq_true rfl) ⟨⟨rfl,eB,rfl⟩,⟨⟨rfl,eB,rfl⟩,⟨⟨rfl,eB,rfl⟩,⟨⟨rfl,eB,rfl⟩,trivial⟩⟩⟩⟩ rfl rfl (eM hC (lB rfl) (Nat.le_of_ble_eq_true rfl)) (by repeat' first|exact trivial|refine⟨⟨_,rfl,eB,rfl⟩,?_⟩)) ?_;refine q1 (bW [pS y5,.lit 1 (aY (v40)),pB false,pB (decide (d3.below 3=0)),gC ([(aF.mk eT [] x10 true [] (aL.mk 0 s_ s_ 0 (aA.mk 0 s_ []) [] []))]:List aF)]) ?_;exact gE 2
 have H:=sY H g11
 refine q1 (qE ([(aF.mk eT [] x10 false [] (aL.mk 0 s_ s_ 0 (aA.mk 0 s_ []) [] []))]:List aF)) ?_;refine gQ 5 ?_;refine nV (σ:=(List aF)) (fun v55=>⟨[(0,.ptr 0 0),(2,.ptr 1 0),(4,.ptr 3 0)],⟨[some ⟨133,dC (d7.after 2)⟩,some ⟨156,[pS s_,.nil,pB false,pB false,.nil]⟩,some ⟨30,bM x2⟩,some ⟨156,[pS y5,.nil,pB false,pB (decide (d3.below 3=0)),lT v55 0]⟩],[⟨237,16,aF.trs (v55),false⟩]⟩⟩) (eK H) (fun H=>?_) ?_
 ·refine gQ 3 ?_;refine fZ H fun d56 h57 H=>?_
  have g58:=g11
  rw [← h57] at g58
  refine q1 (eU [0] [] func45 (EU h57 (l6 d7 2))) (qN ?_)
  refine bC H (fun h59 H=>?_) (fun h59 H=>?_)
  ·refine bK H fun x61 z60 H=>(bK H fun x63 z62 H=>(bK H fun x65 z64 H=>(cC H fun z66 H=>(dW (dI [4] bZ (dD [17] eE (dD [3] (bW [pI x2.aB5,pS x2.aB3,aR x2.aB4]) (dI [19] (vP ([x2]:List aA)) (dI [] (bE func49 (wW fu _ z9)) (dI [] (vP ([eN,sJ]:LB)) (dI [4] bZ (dD [23] eE (dI [] (bE func191 (BV fu eN _ z60)) ?_)))))))))))))
   refine dI [25] (vP ([x61]:List aL)) (dI [24,26] rW (dI [] (bE func192 (wP fu 1 _ z62)) (dI [27,28] (vP ([(aL.mk 5 y5 eT 0 (aA.mk 0 s_ []) ([x61]:List aL) []),x63]:List aL)) (dI [29] (bE func190 (wQ fu 10 CE ([(aL.mk 5 y5 eT 0 (aA.mk 0 s_ []) ([x61]:List aL) []),x63]:List aL) _ z64)) (dI [20,21,22,30] rW (dI [31] (vP ([(aF.mk fK ([x2]:List aA) x10 true ([eN,sJ]:LB) x65)]:List aF)) (dE [18,32] (lG z66) (dI [4] bZ (kU [34,33] jO (dN ?_))))))))))
   subst h57
   exact gE 0
  refine cQ.skip ?_
  subst h57
  exact gE 0
 rintro v55 H
 refine qS ?_;refine nV (σ:=(LB)) (fun v67=>⟨[(0,.ptr 0 0),(2,.ptr 1 0),(4,.ptr 3 0)],⟨[some ⟨133,dC ((d7.after 2).after 3)⟩,some ⟨156,[pS s_,.nil,pB false,pB false,.nil]⟩,some ⟨30,bM x2⟩,some ⟨156,[pS y5,.lit 1 (aY (v67)),pB false,pB (decide (d3.below 3=0)),lT v55 0]⟩],[⟨237,16,aF.trs (v55),false⟩]⟩⟩) (eK H) (fun H=>?_) ?_
 ·refine gQ 3 ?_;refine fZ H fun d68 h69 H=>?_
  have g70:=g11
  rw [← h69] at g70
  refine q1 (eU [0] [] func45 (EU h69 (l6 (d7.after 2) 3))) (qN ?_)
  refine bC H (fun h71 H=>?_) (fun h71 H=>?_)
  ·refine qR (q1 (vP ([jL]:LB)) ?_)
   refine gQ 3 ?_
   subst h69
   exact gE 0
  refine cQ.skip ?_
  subst h69
  exact gE 0
 rintro v67 H
 refine gQ 4 ?_;refine fZ H fun d72 h73 H=>(q1 (eU [0] [] func73 (EU h73 (fI ((d7.after 2).after 3) 12))) ?_)
 refine gQ 7 ?_;refine bC H (fun h74 H=>?_) (fun h74 H=>?_)
 ·refine gQ 6 ?_;refine q1 (bW [pS y5,.lit 1 (aY (v67)),pB true,pB (decide (d3.below 3=0)),lT v55 0]) ?_;exact gE 2
 refine gQ 5 ?_;refine bC H (fun h75 H=>?_) (fun h75 H=>?_)
 ·refine gQ 2 ?_;refine q1 (vP ([s_,eG,s_A]:LB)) (fZ H fun d76 h77 H=>(fZ H fun y78 h79 H=>(q1 (eU [0] [] func48 (PP h77 h79 (f7 d72 ([s_,eG,s_A]:LB) (by decide)))) ?_)))
  refine gQ 5 ?_;refine q1 (bW [pS y78,.lit 1 (aY (v67)),pB false,pB (decide (d3.below 3=0)),lT v55 0]) ?_;exact gE 2
 refine gQ 5 ?_;refine U5 (asX g11) ?_;refine gQ 5 ?_;refine U5 (asY g11) ?_;refine gQ 5 ?_;refine bC H (fun h80 H=>?_) (fun h80 H=>?_)
 ·refine gQ 3 ?_;refine q1 (vP ([jL]:LB)) (cC H fun z81 H=>?_)
  refine q1 (bB.appendLit (es1:=aY (v67)) (es2:=aY (([jL]:LB))) (es3:=aY (v67++([jL]:LB))) rfl rfl rfl rfl rfl (rV _) (rV _) (by exact List.cons_ne_nil _ _) (by decide) aiD.h ap9.h (by decide) (by rw [bV,bV];exact CQ z81 (by decide)) (xF _ _)) ?_;refine gQ 5 ?_;refine q1 (bW [pS y5,rS (v67++([jL]:LB)),pB false,pB (decide (d3.below 3=0)),lT v55 0]) ?_;exact gE 2
 refine gQ 5 ?_;refine bC H (fun h82 H=>?_) (fun h82 H=>?_)
 ·refine cC H fun z83 H=>(fZ H fun y84 h85 H=>(cC H fun z86 H=>(dW (dI [4] bZ (dD [75] eE (dI [4] bZ (dD [77] eE (dI [78] (yI h85 z83) (dI [79] (iI (aF.cs y84)) (dI [80] (vP ([y84]:List aF)) (dE [76,81] (lG z86) (dI [4] bZ (kU [83,82] jO ?_)))))))))))))
  refine dN ?_;refine gQ 2 ?_;refine q1 (bW [pS y5,.lit 1 (aY (v67)),pB false,pB (decide (d3.below 3=0)),lT (v55++([y84]:List aF)) 0]) ?_;exact gE 2
 refine gQ 3 ?_;refine q1 (bW [pS y5,.lit 1 (aY (v67)),pB false,pB (decide (d3.below 3=0)),lT v55 0]) ?_;exact gE 2
def BX(fu:Nat)(pc:DS):Option (aN×DS):=bd (l4 fu fW) fun x2=>bd (eY fu cH ([x2]:List aA)) fun x4=>lt (pc.after 10) fun d5=>sw (decide ((pc.below 10:Int)=0)) (lt (d5.after ([fW,CZ]:LB).length) fun d8=>lt (d5.pick ([fW,CZ]:LB)) fun y10=>gd ((([fW]:LB)).length+(([y10]:LB)).length≤68719476736) (some ((aN.mk cH (([fW]:LB)++([y10]:LB)) ([(aD.mk fX []),(aD.mk cG ([x2,x4]:List aA))]:List aD)),d8))) (sw (decide ((pc.below 10:Int)=1)) (lt (d5.after 2) fun d14=>gd ((0:Int)≤0∧(0:Int)≤(d5.below 2:Int)∧(d5.below 2:Int)≤((([(aD.mk fX []),(aD.mk cG ([x2,x4]:List aA))]:List aD).length:Nat):Int)) (some ((aN.mk cH ([fW]:LB) (List.drop (0:Int).toNat (List.take (d5.below 2:Int).toNat ([(aD.mk fX []),(aD.mk cG ([x2,x4]:List aA))]:List aD)))),d14))) (sw (decide ((pc.below 10:Int)=2)) (bd (sQ fu d5 2) fun(x19,x20)=>some ((aN.mk cH ([fW]:LB) ([(aD.mk fX ([x19]:List aA)),(aD.mk cG ([x2,x4]:List aA))]:List aD)),x20)) (sw (decide ((pc.below 10:Int)=3)) (lt (d5.after ([cG,s_,WY]:LB).length) fun d22=>lt (d5.pick ([cG,s_,WY]:LB)) fun y24=>some ((aN.mk cH ([fW]:LB) ([(aD.mk y24 []),(aD.mk cG ([x2,x4]:List aA))]:List aD)),d22)) (some ((aN.mk cH ([fW]:LB) ([(aD.mk fX []),(aD.mk cG ([x2,x4]:List aA))]:List aD)),d5)))))
theorem agV(fu:Nat)(pc:DS)(r:aN×DS)(H:BX fu pc=some r):b7 Tryz.prog 164 [.ptr 0 0] ⟨[some ⟨133,dC pc⟩],[]⟩ (fun q t=>q=((aN.pv r.1))∧t=⟨[some ⟨133,dC r.2⟩],[]⟩):=by
 refine qJ func164 H (fun C hC H=>?_)
 refine gQ 6 ?_;refine q1 (vP ([fW]:LB)) (q1 rW (bK H fun x2 z1 H=>?_))
 iterate 2 refine q1 (bE func137 (kD (jH fu) fW _ z1)) ?_
 refine q1 (vP ([x2]:List aA)) (bK H fun x4 z3 H=>(q1 (bE func47 (mJ (fO fu) cH ([x2]:List aA) _ z3)) (q1 (vP ([x2,x4]:List aA)) (q1 rW (q1 (bB.buildSliceB (cs:= [pS fX,.nil,pS cG,.lit 3 (aA.trs (([x2,x4]:List aA)))]) rfl rfl apC.h awF.h rfl rfl rfl (by decide) rfl (by decide)) ?_)))))
 refine gQ 8 ?_;refine fZ H fun d5 h6 H=>(q1 (eU [0] [] func73 (EU h6 (fI pc 10))) ?_)
 refine gQ 7 ?_;refine bC H (fun h7 H=>?_) (fun h7 H=>?_)
 ·refine fZ H fun d8 h9 H=>(fZ H fun y10 h11 H=>(cC H fun z12 H=>(dW (dI [3] bZ (dB [18] 0 1 uK (dI [0] bF (dI [] (vP ([fW,CZ]:LB)) (dE [20,21] (eU [0] [] func48 (PP h9 h11 (f7 d5 ([fW,CZ]:LB) (by decide)))) (dI [22] (vP ([y10]:LB)) ?_)))))))))
  refine dI [19,23] (bB.appendLit (es1:=aY (([fW]:LB))) (es2:=aY (([y10]:LB))) (es3:=aY (([fW]:LB)++([y10]:LB))) rfl rfl rfl rfl rfl (rV _) (rV _) (by exact List.cons_ne_nil _ _) (by decide) aiD.h ap9.h (by decide) (by rw [bV,bV];exact CQ z12 (by decide)) (xF _ _)) ?_;refine dI [3] bZ (kU [25,24] jO (dN ?_))
  refine gQ 2 ?_;refine AL.weak (Wk.freezeE (k:=2) (sz:=2) (es:= [aD.cs (aD.mk fX []),aD.cs (aD.mk cG ([x2,x4]:List aA))]) (es':=aD.trs (([(aD.mk fX []),(aD.mk cG ([x2,x4]:List aA))]:List aD))) (s':=⟨[(0,.ptr 0 0),(2,.ptr 1 0),(3,.ptr 3 0),(15,pN (pc.below 10))],⟨[some ⟨133,dC d8⟩,some ⟨39,[pS s_,.nil,.nil]⟩,none,some ⟨39,[pS cH,rS (([fW]:LB)++([y10]:LB)),dF ([(aD.mk fX []),(aD.mk cG ([x2,x4]:List aA))]:List aD)]⟩],[]⟩⟩) (by simp [aD.trs_map,aD.tr_cs]) rfl jN (by simp [aD.cs]) (Nat.le_of_ble_eq_true rfl) ⟨⟨rfl,eB,rfl⟩,⟨⟨rfl,eB,rfl⟩,⟨⟨rfl,eB,rfl⟩,trivial⟩⟩⟩ rfl rfl (eM hC (lB rfl) (Nat.le_of_ble_eq_true rfl)) (by repeat' first|exact trivial|refine⟨⟨_,rfl,eB,rfl⟩,?_⟩)) ?_;refine q1 (bW [pS cH,rS (([fW]:LB)++([y10]:LB)),dF ([(aD.mk fX []),(aD.mk cG ([x2,x4]:List aA))]:List aD)]) ?_;exact gE 2
 refine gQ 5 ?_;refine bC H (fun h13 H=>?_) (fun h13 H=>?_)
 ·refine fZ H fun d14 h15 H=>?_;refine cQ.wk (Wk.freezeE (k:=2) (sz:=2) (es:= [aD.cs (aD.mk fX []),aD.cs (aD.mk cG ([x2,x4]:List aA))]) (es':=aD.trs (([(aD.mk fX []),(aD.mk cG ([x2,x4]:List aA))]:List aD))) (s':=⟨[(0,.ptr 0 0),(2,.ptr 1 0),(3,.ptr 3 0),(4,.lit 1 (aY (([fW]:LB)))),(5,.agg [pS fX,.nil]),(6,(aA.pv x2)),(7,(aA.pv x2)),(8,.lit 3 (aA.trs (([x2]:List aA)))),(9,(aA.pv x4)),(10,.lit 3 (aA.trs (([x2,x4]:List aA)))),(11,.agg [pS cG,.lit 3 (aA.trs (([x2,x4]:List aA)))]),(12,dF ([(aD.mk fX []),(aD.mk cG ([x2,x4]:List aA))]:List aD)),(13,.agg [pS cH,.lit 1 (aY (([fW]:LB))),dF ([(aD.mk fX []),(aD.mk cG ([x2,x4]:List aA))]:List aD)]),(14,.ptr 0 0),(15,pN (pc.below 10)),(16,pB (decide ((pc.below 10:Int)=0))),(17,pB (decide ((pc.below 10:Int)=0))),(26,pB (decide ((pc.below 10:Int)=1))),(27,pB (decide ((pc.below 10:Int)=1)))],⟨[some ⟨133,dC d5⟩,some ⟨39,[pS s_,.nil,.nil]⟩,none,some ⟨39,[pS cH,.lit 1 (aY (([fW]:LB))),dF ([(aD.mk fX []),(aD.mk cG ([x2,x4]:List aA))]:List aD)]⟩],[]⟩⟩) (by simp [aD.trs_map,aD.tr_cs]) rfl jN (by simp [aD.cs]) (Nat.le_of_ble_eq_true rfl) ⟨⟨rfl,eB,rfl⟩,⟨⟨rfl,eB,rfl⟩,⟨⟨rfl,eB,rfl⟩,trivial⟩⟩⟩ rfl rfl (eM hC (lB rfl) (Nat.le_of_ble_eq_true rfl)) (by repeat' first|exact trivial|refine⟨⟨_,rfl,eB,rfl⟩,?_⟩)) ?_;refine cC H fun z16 H=>(dW (dI [3] bZ (dB [28] 0 1 uK (dI [0] bF (dE [30] (eU [0] [] func73 (EU h15 (fI d5 2))) ?_)))))
  refine dI [29,31] (bB.congrP (bB.sliceR (es:=aD.trs (([(aD.mk fX []),(aD.mk cG ([x2,x4]:List aA))]:List aD))) (l:=0) (k:=(d5.below 2:Int)) rfl rfl rfl rfl rfl (by rw [aD.trs_len];exact rfl) (by rw [aD.trs_len];exact z16) apC.h) (aD.trs_part _ _ _)) ?_;refine dI [3] bZ (kU [33,32] jO (dN ?_))
  refine gQ 2 ?_;refine q1 (bW [pS cH,.lit 1 (aY (([fW]:LB))),dF (List.drop (0:Int).toNat (List.take (d5.below 2:Int).toNat ([(aD.mk fX []),(aD.mk cG ([x2,x4]:List aA))]:List aD)))]) ?_;exact gE 2
 refine gQ 5 ?_;refine bC H (fun h17 H=>?_) (fun h17 H=>?_)
 ·refine dP H fun x19 x20 z18 H=>(dW (dI [3] bZ (dB [36] 0 1 uK (dI [0] bF (dE [38] (eU [0] [] func132 (B8 (B7 fu) d5 2 _ z18)) (dI [39] (vP ([x19]:List aA)) (dI [37] (bB.indexB (sz:=2) (k:=2) (N:=2) (i:=0) rfl rfl rfl rfl (by decide) apC.h) (dI [41] bZ (kU [42,40] jO (dN ?_))))))))))
  refine gQ 2 ?_;refine AL.weak (Wk.freezeE (k:=2) (sz:=2) (es:= [aD.cs (aD.mk fX ([x19]:List aA)),aD.cs (aD.mk cG ([x2,x4]:List aA))]) (es':=aD.trs (([(aD.mk fX ([x19]:List aA)),(aD.mk cG ([x2,x4]:List aA))]:List aD))) (s':=⟨[(0,.ptr 0 0),(2,.ptr 1 0),(3,.ptr 3 0),(15,pN (pc.below 10))],⟨[some ⟨133,dC x20⟩,some ⟨39,[pS s_,.nil,.nil]⟩,none,some ⟨39,[pS cH,.lit 1 (aY (([fW]:LB))),dF ([(aD.mk fX ([x19]:List aA)),(aD.mk cG ([x2,x4]:List aA))]:List aD)]⟩],[]⟩⟩) (by simp [aD.trs_map,aD.tr_cs]) rfl jN (by simp [aD.cs]) (Nat.le_of_ble_eq_true rfl) ⟨⟨rfl,eB,rfl⟩,⟨⟨rfl,eB,rfl⟩,⟨⟨rfl,eB,rfl⟩,trivial⟩⟩⟩ rfl rfl (eM hC (lB rfl) (Nat.le_of_ble_eq_true rfl)) (by repeat' first|exact trivial|refine⟨⟨_,rfl,eB,rfl⟩,?_⟩)) ?_;refine q1 (bW [pS cH,.lit 1 (aY (([fW]:LB))),dF ([(aD.mk fX ([x19]:List aA)),(aD.mk cG ([x2,x4]:List aA))]:List aD)]) ?_;exact gE 2
 refine gQ 5 ?_;refine bC H (fun h21 H=>?_) (fun h21 H=>?_)
 ·refine fZ H fun d22 h23 H=>(fZ H fun y24 h25 H=>(dW (dI [3] bZ (dB [45] 0 1 uK (dI [0] bF (dI [] (vP ([cG,s_,WY]:LB)) (dE [47,48] (eU [0] [] func48 (PP h23 h25 (f7 d5 ([cG,s_,WY]:LB) (by decide)))) (dI [46] (bB.indexB (sz:=2) (k:=2) (N:=2) (i:=0) rfl rfl rfl rfl (by decide) apC.h) (dI [50] bZ (kU [51,49] jO (dN ?_)))))))))))
  refine gQ 2 ?_;refine AL.weak (Wk.freezeE (k:=2) (sz:=2) (es:= [aD.cs (aD.mk y24 []),aD.cs (aD.mk cG ([x2,x4]:List aA))]) (es':=aD.trs (([(aD.mk y24 []),(aD.mk cG ([x2,x4]:List aA))]:List aD))) (s':=⟨[(0,.ptr 0 0),(2,.ptr 1 0),(3,.ptr 3 0),(15,pN (pc.below 10))],⟨[some ⟨133,dC d22⟩,some ⟨39,[pS s_,.nil,.nil]⟩,none,some ⟨39,[pS cH,.lit 1 (aY (([fW]:LB))),dF ([(aD.mk y24 []),(aD.mk cG ([x2,x4]:List aA))]:List aD)]⟩],[]⟩⟩) (by simp [aD.trs_map,aD.tr_cs]) rfl jN (by simp [aD.cs]) (Nat.le_of_ble_eq_true rfl) ⟨⟨rfl,eB,rfl⟩,⟨⟨rfl,eB,rfl⟩,⟨⟨rfl,eB,rfl⟩,trivial⟩⟩⟩ rfl rfl (eM hC (lB rfl) (Nat.le_of_ble_eq_true rfl)) (by repeat' first|exact trivial|refine⟨⟨_,rfl,eB,rfl⟩,?_⟩)) ?_;refine q1 (bW [pS cH,.lit 1 (aY (([fW]:LB))),dF ([(aD.mk y24 []),(aD.mk cG ([x2,x4]:List aA))]:List aD)]) ?_;exact gE 2
 refine gQ 3 ?_;refine AL.weak (Wk.freezeE (k:=2) (sz:=2) (es:= [aD.cs (aD.mk fX []),aD.cs (aD.mk cG ([x2,x4]:List aA))]) (es':=aD.trs (([(aD.mk fX []),(aD.mk cG ([x2,x4]:List aA))]:List aD))) (s':=⟨[(0,.ptr 0 0),(2,.ptr 1 0),(3,.ptr 3 0),(15,pN (pc.below 10))],⟨[some ⟨133,dC d5⟩,some ⟨39,[pS s_,.nil,.nil]⟩,none,some ⟨39,[pS cH,.lit 1 (aY (([fW]:LB))),dF ([(aD.mk fX []),(aD.mk cG ([x2,x4]:List aA))]:List aD)]⟩],[]⟩⟩) (by simp [aD.trs_map,aD.tr_cs]) rfl jN (by simp [aD.cs]) (Nat.le_of_ble_eq_true rfl) ⟨⟨rfl,eB,rfl⟩,⟨⟨rfl,eB,rfl⟩,⟨⟨rfl,eB,rfl⟩,trivial⟩⟩⟩ rfl rfl (eM hC (lB rfl) (Nat.le_of_ble_eq_true rfl)) (by repeat' first|exact trivial|refine⟨⟨_,rfl,eB,rfl⟩,?_⟩)) ?_;refine q1 (bW [pS cH,.lit 1 (aY (([fW]:LB))),dF ([(aD.mk fX []),(aD.mk cG ([x2,x4]:List aA))]:List aD)]) ?_;exact gE 2
end
end Go.Proofs.YtfcoaagbccmahaaGreat.W

namespace Go.Proofs.YtfcoaagbccmahaaGreat.W
set_option maxRecDepth 100000
set_option maxHeartbeats 40000000
noncomputable section
open Tryz Go.RowKit Go.Proofs
attribute [local irreducible] lt
def W5(fu:Nat)(p0 d1:DS):Nat→((List aU)×(List aN)×(List aI)×(List aP)×DS)→Option (LR ((List aU)×(List aN)×(List aI)×(List aP)×DS) (aM×DS)):=fun i3 (v9,v10,v11,v12,v4)=>lt (v4.after 4) fun d15=>sw (decide ((v4.below 4:Int)=0)) (bd (IX fu d15) fun(x19,x20)=>gd ((v9).length+(([x19]:List aU)).length≤68719476736) (some (.next ((v9++([x19]:List aU)),v10,v11,v12,x20)))) (sw (decide ((v4.below 4:Int)=1)) (bd (BX fu d15) fun(x24,x25)=>gd ((v10).length+(([x24]:List aN)).length≤68719476736) (some (.next (v9,(v10++([x24]:List aN)),v11,v12,x25)))) (sw (decide ((v4.below 4:Int)=2)) (bd (BY fu d15) fun(x29,x30)=>gd ((v11).length+(([x29]:List aI)).length≤68719476736) (some (.next (v9,v10,(v11++([x29]:List aI)),v12,x30)))) (bd (W3 fu d15) fun(x33,x34)=>gd ((v12).length+(([x33]:List aP)).length≤68719476736) (some (.next (v9,v10,v11,(v12++([x33]:List aP)),x34))))))
def E8(fu:Nat)(p0:DS):Option (aM×DS):=lt (p0.after 5) fun d1=>so (loopN (W5 fu p0 d1) (p0.below 5-0) 0 (([]),([]),([]),([]),d1)) fun(v9,v10,v11,v12,v4)=>lt (v4.after 10) fun d36=>sw (decide ((v4.below 10:Int)=0)) (lt (d36.after ([s_,gF]:LB).length) fun d39=>lt (d36.pick ([s_,gF]:LB)) fun y41=>some ((aM.mk y41 ([gF]:LB) v9 v10 v11 v12),d39)) (sw (decide ((v4.below 10:Int)=1)) (lt (d36.after ([gF,s_q,s_p]:LB).length) fun d44=>lt (d36.pick ([gF,s_q,s_p]:LB)) fun y46=>gd ((([gF]:LB)).length+(([y46]:LB)).length≤68719476736) (some ((aM.mk s_p (([gF]:LB)++([y46]:LB)) v9 v10 v11 v12),d44))) (some ((aM.mk s_p ([gF]:LB) v9 v10 v11 v12),d36)))
theorem ajN(fu:Nat)(p0:DS)(r:aM×DS)(H:E8 fu p0=some r):b7 Tryz.prog 127 [.ptr 0 0] ⟨[some ⟨133,dC p0⟩],[]⟩ (fun q t=>q=((aM.pv r.1))∧t=⟨[some ⟨133,dC r.2⟩],[]⟩):=by
 refine qJ func127 H (fun C hC H=>?_)
 refine gQ 6 ?_;refine q1 (vP ([gF]:LB)) ?_;refine gQ 7 ?_;refine fZ H fun d1 h2 H=>(q1 (eU [0] [] func73 (EU h2 (fI p0 5))) ?_)
 refine gQ 7 ?_;refine cQ.wk (Wk.regBox (k:=2) (j:=2) 156 5 (by decide) rfl rfl) (cQ.wk (Wk.regBox (k:=2) (j:=3) 39 3 (by decide) rfl rfl) (cQ.wk (Wk.regBox (k:=2) (j:=4) 163 12 (by decide) rfl rfl) (cQ.wk (Wk.regBox (k:=2) (j:=5) 213 16 (by decide) rfl rfl) ?_)))
 have hb13:=DS.below_lt (d:=p0) (n:=5) (by decide)
 refine bU (σ:=(List aU)×(List aN)×(List aI)×(List aP)×DS) (fun i3 (v9,v10,v11,v12,v4)=>⟨[(0,.ptr 0 0),(2,.ptr 1 0),(3,.ptr 2 0),(4,pN (p0.below 5)),(5,pN i3)],⟨[some ⟨133,dC v4⟩,some ⟨141,[pS s_,.nil,.nil,.nil,.nil,.nil]⟩,some ⟨141,[pS s_p,.lit 1 (aY (([gF]:LB))),A2 v9 0,nG v10 1,nI v11 2,nH v12 3]⟩],[⟨156,5,aU.trs (v9),false⟩,⟨39,3,aN.trs (v10),false⟩,⟨163,12,aI.trs (v11),false⟩,⟨213,16,aP.trs (v12),false⟩]⟩⟩) (fun(v9,v10,v11,v12,v4)=>⟨[(0,.ptr 0 0),(2,.ptr 1 0),(3,.ptr 2 0)],⟨[some ⟨133,dC v4⟩,some ⟨141,[pS s_,.nil,.nil,.nil,.nil,.nil]⟩,some ⟨141,[pS s_p,.lit 1 (aY (([gF]:LB))),A2 v9 0,nG v10 1,nI v11 2,nH v12 3]⟩],[⟨156,5,aU.trs (v9),false⟩,⟨39,3,aN.trs (v10),false⟩,⟨163,12,aI.trs (v11),false⟩,⟨213,16,aP.trs (v12),false⟩]⟩⟩) (eK H) ?_ ?_
 ·rintro i3 ⟨v9,v10,v11,v12,v4⟩ H
  refine gQ 7 ?_;refine cS H (fun h14 h14l H=>?_) (fun h14 H=>?_)
  ·have h14n:i3<p0.below 5:=by have:=of_decide_eq_true h14;omega
   refine gQ 6 ?_;refine fZ H fun d15 h16 H=>(q1 (eU [0] [] func73 (EU h16 (fI v4 4))) ?_)
   refine gQ 7 ?_;refine bC H (fun h17 H=>?_) (fun h17 H=>?_)
   ·refine dP H fun x19 x20 z18 H=>(cC H fun z21 H=>(dW (dI [3] bZ (dB [26] 0 1 uK (dI [0] bF (dE [28] (eU [0] [] func163 (ac3 fu d15 _ z18)) (dI [29] (vP ([x19]:List aU)) (dE [27,30] (lG z21) (dI [3] bZ (kU [32,31] jO (dN ?_)))))))))))
    exact gE 5
   refine gQ 5 ?_;refine bC H (fun h22 H=>?_) (fun h22 H=>?_)
   ·refine dP H fun x24 x25 z23 H=>(cC H fun z26 H=>(dW (dI [3] bZ (dB [35] 0 1 uK (dI [0] bF (dE [37] (eU [0] [] func164 (agV fu d15 _ z23)) (dI [38] (vP ([x24]:List aN)) (dE [36,39] (lG z26) (dI [3] bZ (kU [41,40] jO (dN ?_)))))))))))
    exact gE 5
   refine gQ 5 ?_;refine bC H (fun h27 H=>?_) (fun h27 H=>?_)
   ·refine dP H fun x29 x30 z28 H=>(cC H fun z31 H=>(dW (dI [3] bZ (dB [44] 0 1 uK (dI [0] bF (dE [46] (eU [0] [] func165 (agW fu d15 _ z28)) (dI [47] (vP ([x29]:List aI)) (dE [45,48] (lG z31) (dI [3] bZ (kU [50,49] jO (dN ?_)))))))))))
    exact gE 5
   refine dP H fun x33 x34 z32 H=>(cC H fun z35 H=>(dW (dI [3] bZ (dB [17] 0 1 uK (dI [0] bF (dE [19] (eU [0] [] func166 (amQ fu d15 _ z32)) (dI [20] (vP ([x33]:List aP)) (dE [18,21] (lG z35) (dI [3] bZ (kU [23,22] jO (dN ?_)))))))))))
   exact gE 5
  exact gE 0
 rintro⟨v9,v10,v11,v12,v4⟩ H
 refine gQ 4 ?_;refine fZ H fun d36 h37 H=>(q1 (eU [0] [] func73 (EU h37 (fI v4 10))) ?_)
 refine gQ 7 ?_;refine bC H (fun h38 H=>?_) (fun h38 H=>?_)
 ·refine gQ 2 ?_;refine q1 (vP ([s_,gF]:LB)) (fZ H fun d39 h40 H=>(fZ H fun y41 h42 H=>(q1 (eU [0] [] func48 (PP h40 h42 (f7 d36 ([s_,gF]:LB) (by decide)))) ?_)))
  refine gQ 5 ?_;refine q1 (bW [pS y41,.lit 1 (aY (([gF]:LB))),A2 v9 0,nG v10 1,nI v11 2,nH v12 3]) ?_;exact gE 2
 refine gQ 5 ?_;refine bC H (fun h43 H=>?_) (fun h43 H=>?_)
 ·refine fZ H fun d44 h45 H=>(fZ H fun y46 h47 H=>(cC H fun z48 H=>(dW (dI [3] bZ (dB [61] 0 1 uK (dI [0] bF (dI [] (vP ([gF,s_q,s_p]:LB)) (dE [63,64] (eU [0] [] func48 (PP h45 h47 (f7 d36 ([gF,s_q,s_p]:LB) (by decide)))) (dI [65] (vP ([y46]:LB)) ?_)))))))))
  refine dI [62,66] (bB.appendLit (es1:=aY (([gF]:LB))) (es2:=aY (([y46]:LB))) (es3:=aY (([gF]:LB)++([y46]:LB))) rfl rfl rfl rfl rfl (rV _) (rV _) (by exact List.cons_ne_nil _ _) (by decide) aiD.h ap9.h (by decide) (by rw [bV,bV];exact CQ z48 (by decide)) (xF _ _)) ?_;refine dI [3] bZ (kU [68,67] jO (dN ?_))
  refine gQ 2 ?_;refine q1 (bW [pS s_p,rS (([gF]:LB)++([y46]:LB)),A2 v9 0,nG v10 1,nI v11 2,nH v12 3]) ?_;exact gE 2
 refine gQ 3 ?_;refine q1 (bW [pS s_p,.lit 1 (aY (([gF]:LB))),A2 v9 0,nG v10 1,nI v11 2,nH v12 3]) ?_;exact gE 2
def yB(fu:Nat)(pc:DS):Option (aE×DS):=bd (GI fu pc) fun(x2,x3)=>lt (x3.after 5) fun d4=>sw (decide (x3.below 5=0)) (bd (E8 fu d4) fun(x8,x9)=>gd ((x2.aB2).length+(([x8]:List aM)).length≤68719476736) (some ((aE.mk (x2.aB2++([x8]:List aM))),x9))) (some ((aE.mk x2.aB2),d4))
theorem adE(fu:Nat)(pc:DS)(r:aE×DS)(H:yB fu pc=some r):b7 Tryz.prog 69 [.ptr 0 0] ⟨[some ⟨133,dC pc⟩],[]⟩ (fun q t=>q=((aE.pv r.1))∧t=⟨[some ⟨133,dC r.2⟩],[]⟩):=by
 refine qJ func69 H (fun C hC H=>?_)
 refine gQ 7 ?_;refine dP H fun x2 x3 z1 H=>(q1 (bB.callOwn (pre:=⟨[some ⟨133,dC pc⟩],[]⟩) (B:= [some ⟨133,dC x3⟩]) (R:=fun k=> .agg [s4 x2.aB2 k]) (ps:= [_]) (qs:= [.ptr 0 0]) [0] rfl rfl func126 (by kernel_rfl) rfl rfl rfl (eZ.of ⟨⟨_,rfl,rfl,jN,rfl⟩,trivial⟩ trivial (by decide) (by decide)) rfl jN rfl rfl rfl (fun k k'=>(.agg (.cons Mv.acc GX.nil))) (ag0 fu pc _ z1)) ?_)
 refine gQ 7 ?_;refine fZ H fun d4 h5 H=>(q1 (eU [0] [] func45 (EU h5 (l6 x3 5))) (qN ?_))
 refine bC H (fun h6 H=>?_) (fun h6 H=>?_)
 ·refine dP H fun x8 x9 z7 H=>(cC H fun z10 H=>(dW (dI [3] bZ (dB [8] 0 1 uK (dI [0] bF (dE [10] (eU [0] [] func127 (ajN fu d4 _ z7)) (dI [11] (iF ([x8]:List aM)) (dE [9,12] (lG z10) (dI [3] bZ (kU [14,13] jO (dN ?_)))))))))))
  refine gQ 2 ?_;refine q1 (bW [s4 (x2.aB2++([x8]:List aM)) 0]) ?_;exact gE 2
 refine gQ 3 ?_;refine q1 (bW [s4 x2.aB2 0]) ?_;exact gE 2
end
end Go.Proofs.YtfcoaagbccmahaaGreat.W

namespace Go.Proofs.YtfcoaagbccmahaaGreat.W
set_option maxRecDepth 100000
set_option maxHeartbeats 40000000
noncomputable section
open Tryz Go.RowKit Go.Proofs
attribute [local irreducible] lt
def sF(fu:Nat)(pw:aE)(i1:Nat)(v3:List aC):((List aC)×Int)→Option (LR ((List aC)×Int) (LR ((List aC)) ((List aC)))):=fun(v8,v7)=>lt (aT pw.aB2 i1) fun y11=>sw (decide (v7<(y11.aCe.length:Int))) (gd ((v8).length+(([(aC.mk (i1:Int) v7)]:List aC)).length≤68719476736) (some (.next ((v8++([(aC.mk (i1:Int) v7)]:List aC)),(aX (v7+1)))))) (some (.brk (v8,v7)))
def wM(fu:Nat)(pw:aE):Nat→((List aC))→Option (LR ((List aC)) ((List aC))):=fun i1 v3=>so (loopW (sF fu pw i1 v3) fu (v3,0)) fun(v8,v7)=>some (.next v8)
def tI(fu:Nat)(pw:aE):Option ((List aC)):=so (loopN (wM fu pw) (pw.aB2.length-0) 0 ([])) fun v3=>some v3
theorem RB(fu:Nat)(pw:aE)(r:(List aC))(H:tI fu pw=some r):bR Tryz.prog 209 [(aE.pv pw)] (cX r):=by
 refine qJ func209 H (fun C hC H=>?_)
 refine gQ 2 ?_;refine q1 (eX ([aO pw.aB2])) ?_;refine gQ 4 ?_;refine q1 (qE ([]:List aC)) ?_;refine gQ 7 ?_;refine cQ.fact (cI 0 0 rfl rfl rfl (aM.trs_len _)) (fun hl4=>?_)
 refine bU (σ:=(List aC)) (fun i1 v3=>⟨[(1,.ptr 0 0),(2,.nil),(3,fT v3 0),(4,pN i1)],⟨[some ⟨26,[aO pw.aB2]⟩],[⟨52,2,aC.trs (v3),false⟩]⟩⟩) (fun v3=>⟨[(2,.nil),(3,fT v3 0)],⟨[some ⟨26,[aO pw.aB2]⟩],[⟨52,2,aC.trs (v3),false⟩]⟩⟩) (eK H) ?_ ?_
 ·rintro i1 v3 H
  refine gQ 9 ?_;refine cS H (fun h5 h5l H=>?_) (fun h5 H=>?_)
  ·refine gQ 7 ?_;refine gL 3 (aC.trs_len _) (fun hl10=>?_)
   refine SR (σ:=(List aC)×Int) (fun(v8,v7)=>⟨[(1,.ptr 0 0),(2,.nil),(3,fT v8 0),(4,pN i1),(5,pI v7),(7,pN i1),(8,.ptr 0 0),(9,aO pw.aB2),(10,pN pw.aB2.length),(11,pB (decide ((i1:Int)<(pw.aB2.length:Int))))],⟨[some ⟨26,[aO pw.aB2]⟩],[⟨52,2,aC.trs (v8),false⟩]⟩⟩) (fun(v8,v7)=>⟨[(1,.ptr 0 0),(2,.nil),(3,fT v8 0),(4,pN i1),(5,pI v7),(7,pN i1),(8,.ptr 0 0),(9,aO pw.aB2),(10,pN pw.aB2.length),(11,pB (decide ((i1:Int)<(pw.aB2.length:Int))))],⟨[some ⟨26,[aO pw.aB2]⟩],[⟨52,2,aC.trs (v8),false⟩]⟩⟩) (eK H) ?_ ?_
   ·rintro k9 ⟨v8,v7⟩ H
    refine gQ 7 ?_;refine fZ H fun y11 h12 H=>(q1 (yI h12 h5l) ?_)
    refine gQ 2 ?_;refine YQ 20 (aI.trs_len _) (fun hl13=>?_)
    refine gQ 3 ?_;refine bC H (fun h14 H=>?_) (fun h14 H=>?_)
    ·refine gQ 8 ?_;refine q1 (iF ([(aC.mk (i1:Int) v7)]:List aC)) (cC H fun z15 H=>(q1 (lG z15) ?_))
     exact gE 7
    exact gE 0
   rintro⟨v8,v7⟩ H
   exact gE 5
  exact gE 0
 rintro v3 H
 exact gE 5
def EI(fu:Nat)(pw:aE)(i1:Nat)(v3:List aC)(y6:aM):Nat→((List aC))→Option (LR ((List aC)) (LR ((List aC)) ((List aC)))):=fun i9 v11=>gd ((v11).length+(([(aC.mk (i1:Int) (i9:Int))]:List aC)).length≤68719476736) (some (.next (v11++([(aC.mk (i1:Int) (i9:Int))]:List aC))))
def vU(fu:Nat)(pw:aE):Nat→((List aC))→Option (LR ((List aC)) ((List aC))):=fun i1 v3=>lt (aT pw.aB2 i1) fun y6=>so (loopN (EI fu pw i1 v3 y6) (y6.aCe.length-0) 0 v3) fun v11=>some (.next v11)
def tG(fu:Nat)(pw:aE):Option ((List aC)):=so (loopN (vU fu pw) (pw.aB2.length-0) 0 ([])) fun v3=>some v3
theorem alV(fu:Nat)(pw:aE)(r:(List aC))(H:tG fu pw=some r):bR Tryz.prog 180 [(aE.pv pw)] (cX r):=by
 refine qJ func180 H (fun C hC H=>?_)
 refine gQ 2 ?_;refine q1 (eX ([aO pw.aB2])) ?_;refine gQ 4 ?_;refine q1 (qE ([]:List aC)) ?_;refine gQ 10 ?_;refine gL 9 (aM.trs_len _) (fun hl4=>?_)
 refine bU (σ:=(List aC)) (fun i1 v3=>⟨[(2,.nil),(3,fT v3 0),(9,aO pw.aB2),(10,pN pw.aB2.length),(11,pN i1)],⟨[some ⟨26,[aO pw.aB2]⟩],[⟨52,2,aC.trs (v3),false⟩]⟩⟩) (fun v3=>⟨[(2,.nil),(3,fT v3 0)],⟨[some ⟨26,[aO pw.aB2]⟩],[⟨52,2,aC.trs (v3),false⟩]⟩⟩) (eK H) ?_ ?_
 ·rintro i1 v3 H
  refine gQ 5 ?_;refine cS H (fun h5 h5l H=>?_) (fun h5 H=>?_)
  ·refine gQ 6 ?_;refine fZ H fun y6 h7 H=>(q1 (yI h7 h5l) (q1 (iI (aM.cs y6)) ?_))
   refine gQ 8 ?_;refine YQ 17 (aI.trs_len _) (fun hl8=>?_)
   refine gQ 3 ?_;refine bU (σ:=(List aC)) (fun i9 v11=>⟨[(2,.nil),(3,fT v11 0),(4,pN i1),(5,.ptr 1 0),(9,aO pw.aB2),(10,pN pw.aB2.length),(11,pN i1),(12,pB (decide ((i1:Int)<(pw.aB2.length:Int)))),(13,pN i1),(14,.eptr (aM.cs y6)),(15,(aM.pv y6)),(16,.ptr 1 4),(17,nO y6.aCe),(18,pN y6.aCe.length),(19,pN i9)],⟨[some ⟨26,[aO pw.aB2]⟩,some ⟨141,eW y6⟩],[⟨52,2,aC.trs (v11),false⟩]⟩⟩) (fun v11=>⟨[(2,.nil),(3,fT v11 0),(4,pN i1),(5,.ptr 1 0),(9,aO pw.aB2),(10,pN pw.aB2.length),(11,pN i1),(12,pB (decide ((i1:Int)<(pw.aB2.length:Int)))),(13,pN i1),(14,.eptr (aM.cs y6)),(15,(aM.pv y6)),(16,.ptr 1 4),(17,nO y6.aCe),(18,pN y6.aCe.length)],⟨[some ⟨26,[aO pw.aB2]⟩,some ⟨141,eW y6⟩],[⟨52,2,aC.trs (v11),false⟩]⟩⟩) (eK H) ?_ ?_
   ·rintro i9 v11 H
    refine gQ 5 ?_;refine cS H (fun h12 h12l H=>?_) (fun h12 H=>?_)
    ·refine gQ 13 ?_;refine q1 (iF ([(aC.mk (i1:Int) (i9:Int))]:List aC)) (cC H fun z13 H=>(q1 (lG z13) ?_))
     exact gE 6
    exact gE 0
   rintro v11 H
   exact gE 4
  exact gE 0
 rintro v3 H
 exact gE 5
theorem N7(fu:Nat)(pw:aE)(r:(List aC))(H:tG fu pw=some r):ao2 Tryz.prog 180 [(aE.pv pw)] 52 2 (aC.trs (r)) none:=by
 unfold ao2
 refine qJ func180 H (fun C hC H=>?_)
 refine gQ 2 ?_;refine q1 (eX ([aO pw.aB2])) ?_;refine gQ 4 ?_;refine q1 (qE ([]:List aC)) ?_;refine gQ 10 ?_;refine gL 9 (aM.trs_len _) (fun hl4=>?_)
 refine bU (σ:=(List aC)) (fun i1 v3=>⟨[(2,.nil),(3,fT v3 0),(9,aO pw.aB2),(10,pN pw.aB2.length),(11,pN i1)],⟨[some ⟨26,[aO pw.aB2]⟩],[⟨52,2,aC.trs (v3),false⟩]⟩⟩) (fun v3=>⟨[(2,.nil),(3,fT v3 0)],⟨[some ⟨26,[aO pw.aB2]⟩],[⟨52,2,aC.trs (v3),false⟩]⟩⟩) (eK H) ?_ ?_
 ·rintro i1 v3 H
  refine gQ 5 ?_;refine cS H (fun h5 h5l H=>?_) (fun h5 H=>?_)
  ·refine gQ 6 ?_;refine fZ H fun y6 h7 H=>(q1 (yI h7 h5l) (q1 (iI (aM.cs y6)) ?_))
   refine gQ 8 ?_;refine YQ 17 (aI.trs_len _) (fun hl8=>?_)
   refine gQ 3 ?_;refine bU (σ:=(List aC)) (fun i9 v11=>⟨[(2,.nil),(3,fT v11 0),(4,pN i1),(5,.ptr 1 0),(9,aO pw.aB2),(10,pN pw.aB2.length),(11,pN i1),(12,pB (decide ((i1:Int)<(pw.aB2.length:Int)))),(13,pN i1),(14,.eptr (aM.cs y6)),(15,(aM.pv y6)),(16,.ptr 1 4),(17,nO y6.aCe),(18,pN y6.aCe.length),(19,pN i9)],⟨[some ⟨26,[aO pw.aB2]⟩,some ⟨141,eW y6⟩],[⟨52,2,aC.trs (v11),false⟩]⟩⟩) (fun v11=>⟨[(2,.nil),(3,fT v11 0),(4,pN i1),(5,.ptr 1 0),(9,aO pw.aB2),(10,pN pw.aB2.length),(11,pN i1),(12,pB (decide ((i1:Int)<(pw.aB2.length:Int)))),(13,pN i1),(14,.eptr (aM.cs y6)),(15,(aM.pv y6)),(16,.ptr 1 4),(17,nO y6.aCe),(18,pN y6.aCe.length)],⟨[some ⟨26,[aO pw.aB2]⟩,some ⟨141,eW y6⟩],[⟨52,2,aC.trs (v11),false⟩]⟩⟩) (eK H) ?_ ?_
   ·rintro i9 v11 H
    refine gQ 5 ?_;refine cS H (fun h12 h12l H=>?_) (fun h12 H=>?_)
    ·refine gQ 13 ?_;refine q1 (iF ([(aC.mk (i1:Int) (i9:Int))]:List aC)) (cC H fun z13 H=>(q1 (lG z13) ?_))
     exact gE 6
    exact gE 0
   rintro v11 H
   exact gE 4
  exact gE 0
 rintro v3 H
 refine gQ 5 ?_;refine cQ.ret ?_
 obtain rfl:_=r:=(vI H:)
 exact DX.mk (ps:= [_]) (by first|exact .inr rfl|exact .inl rfl) ⟨rfl,trivial⟩ rfl (tN.mk' (st':=⟨[],[⟨52,2,aC.trs (v3),false⟩]⟩) trivial (by first|rfl|simp)) ⟨fun k x h=>by simp [hC] at h,fun r row h=>by simp [hC] at h⟩ (q:= .acc 2 (aC.trs (v3)) 0) jN rfl ⟨0,rfl,rfl⟩
def aiP(fu:Nat)(p1:List UInt8):Option Bool:=some (decide ((p1.length:Int)>1048576))
theorem apK(fu:Nat)(p1:List UInt8)(r:Bool)(H:aiP fu p1=some r):bR Tryz.prog 9 [rU p1] (pB r):=by
 refine qJ func9 H (fun C hC H=>?_)
 exact gE 11
def QM(fu:Nat)(pw:aE)(p0:ByteArray)(i1:Nat)(y4:aM):Nat→Unit→Option (LR Unit (LR Unit (aU×Int×Bool))):=fun i7 _=>sw (decide ((aT y4.aCi i7).aB3=p0)) (some (.ret (.ret ((aT y4.aCi i7),(i1:Int),true)))) (some (.next ()))
def QL(fu:Nat)(pw:aE)(p0:ByteArray):Nat→Unit→Option (LR Unit (aU×Int×Bool)):=fun i1 _=>lt (aT pw.aB2 i1) fun y4=>so (loopN (QM fu pw p0 i1 y4) (y4.aCi.length-0) 0 ()) fun _=>some (.next ())
def EO(fu:Nat)(pw:aE)(p0:ByteArray):Option (aU×Int×Bool):=so (loopN (QL fu pw p0) (pw.aB2.length-0) 0 ()) fun _=>some ((aU.mk s_ [] false false []),0,false)
theorem QN(fu:Nat)(pw:aE)(p0:ByteArray)(r:aU×Int×Bool)(H:EO fu pw p0=some r):bR Tryz.prog 115 [(aE.pv pw),pS p0] (.tup [(aU.pv r.1),pI r.2.1,pB r.2.2]):=by
 refine qJ func115 H (fun C hC H=>?_)
 refine gQ 2 ?_;refine q1 (eX ([aO pw.aB2])) ?_;refine gQ 12 ?_;refine gL 12 (aM.trs_len _) (fun hl2=>?_)
 refine bU (σ:=Unit) (fun i1 _=>⟨[(1,pS p0),(4,.ptr 1 0),(5,pI 0),(6,pB false),(12,aO pw.aB2),(13,pN pw.aB2.length),(14,pN i1)],⟨[some ⟨26,[aO pw.aB2]⟩,some ⟨156,[pS s_,.nil,pB false,pB false,.nil]⟩],[]⟩⟩) (fun _=>⟨[(4,.ptr 1 0),(5,pI 0),(6,pB false)],⟨[some ⟨26,[aO pw.aB2]⟩,some ⟨156,[pS s_,.nil,pB false,pB false,.nil]⟩],[]⟩⟩) (eK H) ?_ ?_
 ·rintro i1 ⟨⟩ H
  refine gQ 5 ?_;refine cS H (fun h3 h3l H=>?_) (fun h3 H=>?_)
  ·refine gQ 6 ?_;refine fZ H fun y4 h5 H=>(q1 (yI h5 h3l) (q1 (iI (aM.cs y4)) ?_))
   refine gQ 8 ?_;refine YQ 20 (aU.trs_len _) (fun hl6=>?_)
   refine gQ 3 ?_;refine bU (σ:=Unit) (fun i7 _=>⟨[(1,pS p0),(4,.ptr 1 0),(5,pI 0),(6,pB false),(7,pN i1),(8,.ptr 2 0),(12,aO pw.aB2),(13,pN pw.aB2.length),(14,pN i1),(15,pB (decide ((i1:Int)<(pw.aB2.length:Int)))),(16,pN i1),(17,.eptr (aM.cs y4)),(18,(aM.pv y4)),(19,.ptr 2 2),(20,Q7 y4.aCi),(21,pN y4.aCi.length),(22,pN i7)],⟨[some ⟨26,[aO pw.aB2]⟩,some ⟨156,[pS s_,.nil,pB false,pB false,.nil]⟩,some ⟨141,eW y4⟩],[]⟩⟩) (fun _=>⟨[(1,pS p0),(4,.ptr 1 0),(5,pI 0),(6,pB false),(7,pN i1),(8,.ptr 2 0),(12,aO pw.aB2),(13,pN pw.aB2.length),(14,pN i1),(15,pB (decide ((i1:Int)<(pw.aB2.length:Int)))),(16,pN i1),(17,.eptr (aM.cs y4)),(18,(aM.pv y4)),(19,.ptr 2 2),(20,Q7 y4.aCi),(21,pN y4.aCi.length)],⟨[some ⟨26,[aO pw.aB2]⟩,some ⟨156,[pS s_,.nil,pB false,pB false,.nil]⟩,some ⟨141,eW y4⟩],[]⟩⟩) (eK H) ?_ ?_
   ·rintro i7 ⟨⟩ H
    refine gQ 5 ?_;refine cS H (fun h8 h8l H=>?_) (fun h8 H=>?_)
    ·refine gQ 6 ?_;refine q1 (iI (aU.cs (aT y4.aCi i7))) ?_;refine gQ 10 ?_;refine bC H (fun h9 H=>?_) (fun h9 H=>?_)
     ·refine gQ 2 ?_;refine q1 (bW [pS ((aT y4.aCi i7).aB3),rS ((aT y4.aCi i7).aCc),pB ((aT y4.aCi i7).aCA),pB ((aT y4.aCi i7).aCj),gC ((aT y4.aCi i7).aCp)]) ?_;refine gQ 5 ?_;refine cQ.ret ?_
      obtain rfl:_=r:=(lkR (skL (lkR (vI H))):)
      exact qf3
     exact gE 5
    exact gE 0
   rintro⟨⟩ H
   exact gE 4
  exact gE 0
 rintro⟨⟩ H
 exact gE 7
def VP(fu:Nat)(pw:aE)(p0:ByteArray)(i1:Nat)(y4:aM):Nat→Unit→Option (LR Unit (LR Unit (aN×Int×Bool))):=fun i7 _=>sw (decide ((aT y4.aCb i7).aB3=p0)) (some (.ret (.ret ((aT y4.aCb i7),(i1:Int),true)))) (some (.next ()))
def VO(fu:Nat)(pw:aE)(p0:ByteArray):Nat→Unit→Option (LR Unit (aN×Int×Bool)):=fun i1 _=>lt (aT pw.aB2 i1) fun y4=>so (loopN (VP fu pw p0 i1 y4) (y4.aCb.length-0) 0 ()) fun _=>some (.next ())
def UF(fu:Nat)(pw:aE)(p0:ByteArray):Option (aN×Int×Bool):=so (loopN (VO fu pw p0) (pw.aB2.length-0) 0 ()) fun _=>some ((aN.mk s_ [] []),0,false)
theorem anU(fu:Nat)(pw:aE)(p0:ByteArray)(r:aN×Int×Bool)(H:UF fu pw p0=some r):bR Tryz.prog 102 [(aE.pv pw),pS p0] (.tup [(aN.pv r.1),pI r.2.1,pB r.2.2]):=by
 refine qJ func102 H (fun C hC H=>?_)
 refine gQ 2 ?_;refine q1 (eX ([aO pw.aB2])) ?_;refine gQ 12 ?_;refine gL 12 (aM.trs_len _) (fun hl2=>?_)
 refine bU (σ:=Unit) (fun i1 _=>⟨[(1,pS p0),(4,.ptr 1 0),(5,pI 0),(6,pB false),(12,aO pw.aB2),(13,pN pw.aB2.length),(14,pN i1)],⟨[some ⟨26,[aO pw.aB2]⟩,some ⟨39,[pS s_,.nil,.nil]⟩],[]⟩⟩) (fun _=>⟨[(4,.ptr 1 0),(5,pI 0),(6,pB false)],⟨[some ⟨26,[aO pw.aB2]⟩,some ⟨39,[pS s_,.nil,.nil]⟩],[]⟩⟩) (eK H) ?_ ?_
 ·rintro i1 ⟨⟩ H
  refine gQ 5 ?_;refine cS H (fun h3 h3l H=>?_) (fun h3 H=>?_)
  ·refine gQ 6 ?_;refine fZ H fun y4 h5 H=>(q1 (yI h5 h3l) (q1 (iI (aM.cs y4)) ?_))
   refine gQ 8 ?_;refine YQ 20 (aN.trs_len _) (fun hl6=>?_)
   refine gQ 3 ?_;refine bU (σ:=Unit) (fun i7 _=>⟨[(1,pS p0),(4,.ptr 1 0),(5,pI 0),(6,pB false),(7,pN i1),(8,.ptr 2 0),(12,aO pw.aB2),(13,pN pw.aB2.length),(14,pN i1),(15,pB (decide ((i1:Int)<(pw.aB2.length:Int)))),(16,pN i1),(17,.eptr (aM.cs y4)),(18,(aM.pv y4)),(19,.ptr 2 3),(20,pW y4.aCb),(21,pN y4.aCb.length),(22,pN i7)],⟨[some ⟨26,[aO pw.aB2]⟩,some ⟨39,[pS s_,.nil,.nil]⟩,some ⟨141,eW y4⟩],[]⟩⟩) (fun _=>⟨[(1,pS p0),(4,.ptr 1 0),(5,pI 0),(6,pB false),(7,pN i1),(8,.ptr 2 0),(12,aO pw.aB2),(13,pN pw.aB2.length),(14,pN i1),(15,pB (decide ((i1:Int)<(pw.aB2.length:Int)))),(16,pN i1),(17,.eptr (aM.cs y4)),(18,(aM.pv y4)),(19,.ptr 2 3),(20,pW y4.aCb),(21,pN y4.aCb.length)],⟨[some ⟨26,[aO pw.aB2]⟩,some ⟨39,[pS s_,.nil,.nil]⟩,some ⟨141,eW y4⟩],[]⟩⟩) (eK H) ?_ ?_
   ·rintro i7 ⟨⟩ H
    refine gQ 5 ?_;refine cS H (fun h8 h8l H=>?_) (fun h8 H=>?_)
    ·refine gQ 6 ?_;refine q1 (iI (aN.cs (aT y4.aCb i7))) ?_;refine gQ 10 ?_;refine bC H (fun h9 H=>?_) (fun h9 H=>?_)
     ·refine gQ 2 ?_;refine q1 (bW [pS ((aT y4.aCb i7).aB3),rS ((aT y4.aCb i7).aCg),dF ((aT y4.aCb i7).aB8)]) ?_;refine gQ 5 ?_;refine cQ.ret ?_
      obtain rfl:_=r:=(lkR (skL (lkR (vI H))):)
      exact qf3
     exact gE 5
    exact gE 0
   rintro⟨⟩ H
   exact gE 4
  exact gE 0
 rintro⟨⟩ H
 exact gE 7
def rH(fu:Nat)(pw:aE)(po:aC):Option (aI×Bool):=sw (decide (po.aCf<0)) (some ((aI.mk s_ [] (aA.mk 0 s_ []) [] false false (aA.mk 0 s_ []) []),false)) (sw (decide (po.aCf≥(pw.aB2.length:Int))) (some ((aI.mk s_ [] (aA.mk 0 s_ []) [] false false (aA.mk 0 s_ []) []),false)) (sw (decide (po.aCt<0)) (some ((aI.mk s_ [] (aA.mk 0 s_ []) [] false false (aA.mk 0 s_ []) []),false)) (gd (0≤po.aCf∧(po.aCf).toNat<(pw.aB2).length) (lt (aT pw.aB2 ((po.aCf).toNat)) fun y5=>sw (decide (po.aCt≥(y5.aCe.length:Int))) (some ((aI.mk s_ [] (aA.mk 0 s_ []) [] false false (aA.mk 0 s_ []) []),false)) (gd (0≤po.aCt∧(po.aCt).toNat<(y5.aCe).length) (lt (aT y5.aCe ((po.aCt).toNat)) fun y9=>some (y9,true)))))))
theorem uV(fu:Nat)(pw:aE)(po:aC)(r:aI×Bool)(H:rH fu pw po=some r):bR Tryz.prog 118 [(aE.pv pw),(aC.pv po)] (.tup [(aI.pv r.1),pB r.2]):=by
 refine qJ func118 H (fun C hC H=>?_)
 refine gQ 2 ?_;refine q1 (eX ([aO pw.aB2])) (q1 (eX ([pI po.aCf,pI po.aCt])) ?_)
 refine gQ 5 ?_
 rcases oQ (decide (po.aCf<0)) with g1|g1
 ·have H:=sZ H g1
  refine dW (dI [3] bZ (dD [6] eE (dI [7] rLt (dI [8] bF ?_))))
  iterate 6 refine NH g1 ?_
  refine dI [9] (DV g1) (dI [16] bF ?_)
  iterate 3 refine NH rfl ?_
  refine dI [17] (DV rfl) (dI [21] bF ?_)
  iterate 11 refine NH rfl ?_
  refine dI [22] (DV rfl) (dN ?_)
  exact gE 7
 have H:=sY H g1
 rcases oQ (decide (po.aCf≥(pw.aB2.length:Int))) with g2|g2
 ·have H:=sZ H g2
  refine dW (dI [3] bZ (dD [6] eE (dI [7] rLt (dI [8] bF (dI (hg:=bD g1) [3] bZ (dD (hg:=bD g1) [10] eE (dI (hg:=bD g1) [2] bZ (dD (hg:=bD g1) [12] eE (dI (hg:=bD g1) [13] XY (dI (hg:=bD g1) [11,14] rGe (dI [9,15] (F5 g1) (dI [16] bF ?_))))))))))))
  iterate 3 refine NH g2 ?_
  refine dI [17] (DV g2) (dI [21] bF ?_)
  iterate 11 refine NH rfl ?_
  refine dI [22] (DV rfl) (dN ?_)
  exact gE 7
 have H:=sY H g2
 rcases oQ (decide (po.aCt<0)) with g3|g3
 ·have H:=sZ H g3
  refine dW (dI [3] bZ (dD [6] eE (dI [7] rLt (dI [8] bF (dI (hg:=bD g1) [3] bZ (dD (hg:=bD g1) [10] eE (dI (hg:=bD g1) [2] bZ (dD (hg:=bD g1) [12] eE (dI (hg:=bD g1) [13] XY (dI (hg:=bD g1) [11,14] rGe (dI [9,15] (F5 g1) (dI [16] bF (dI (hg:=bD g2) [3] bZ ?_)))))))))))))
  refine dD (hg:=bD g2) [18] eE (dI (hg:=bD g2) [19] rLt (dI [17,20] (F5 g2) (dI [21] bF ?_)))
  iterate 11 refine NH g3 ?_
  refine dI [22] (DV g3) (dN ?_)
  exact gE 7
 have H:=sY H g3
 refine cC H fun z4 H=>(fZ H fun y5 h6 H=>(dW (dI [3] bZ (dD [6] eE (dI [7] rLt (dI [8] bF (dI (hg:=bD g1) [3] bZ (dD (hg:=bD g1) [10] eE (dI (hg:=bD g1) [2] bZ (dD (hg:=bD g1) [12] eE (dI (hg:=bD g1) [13] XY (dI (hg:=bD g1) [11,14] rGe (dI [9,15] (F5 g1) ?_)))))))))))))
 refine dI [16] bF (dI (hg:=bD g2) [3] bZ (dD (hg:=bD g2) [18] eE (dI (hg:=bD g2) [19] rLt (dI [17,20] (F5 g2) (dI [21] bF (dI (hg:=bD g3) [3] bZ (dD (hg:=bD g3) [23] eE (dI (hg:=bD g3) [2] bZ (dD (hg:=bD g3) [25] eE (dI (hg:=bD g3) [3] bZ (dD (hg:=bD g3) [27] eE (dI (hg:=bD g3) [26,28] (rIm h6 z4 aeW.h) (dI (hg:=bD g3) [29] wZ ?_)))))))))))))
 refine dI (hg:=bD g3) [30] vM (dI (hg:=bD g3) [31] XY (dI (hg:=bD g3) [24,32] rGe (dI [22,33] (F5 g3) (dN ?_))))
 refine bC H (fun h7 H=>gE 6) fun h7 H=>?_;refine gQ 2 ?_;refine cC H fun z8 H=>(fZ H fun y9 h10 H=>(dW (dI [2] bZ (dD [36] eE (dI [3] bZ (dD [38] eE (dI [37,39] (rIm h6 z4 aeW.h) (dI [40] wZ (dI [41] vM (dI [3] bZ (dD [43] eE (dI [42,44] (rIm h10 z8 Z4.h) (dI [45] (iI (aI.cs y9)) ?_)))))))))))))
 refine kU [4,46] jO (dI [] bF (dN ?_))
 exact gE 0
def vD(fu:Nat)(pw:aE)(p0:ByteArray)(i1:Nat):Int→Option (LR Int (LR Unit (aU×Int×Bool))):=fun v4=>lt (aT pw.aB2 i1) fun y6=>sw (decide (v4<(y6.aCi.length:Int))) (gd (0≤v4∧(v4).toNat<(y6.aCi).length) (sw (decide ((aT y6.aCi ((v4).toNat)).aB3=p0)) (some (.ret (.ret ((aT y6.aCi ((v4).toNat)),(i1:Int),true)))) (some (.next (v4+1))))) (some (.brk v4))
def BZ(fu:Nat)(pw:aE)(p0:ByteArray):Nat→Unit→Option (LR Unit (aU×Int×Bool)):=fun i1 _=>so (loopW (vD fu pw p0 i1) fu 0) fun v4=>some (.next ())
def pZ(fu:Nat)(pw:aE)(p0:ByteArray):Option (aU×Int×Bool):=so (loopN (BZ fu pw p0) (pw.aB2.length-0) 0 ()) fun _=>some ((aU.mk s_ [] false false []),0,false)
theorem B3(fu:Nat)(pw:aE)(p0:ByteArray)(r:aU×Int×Bool)(H:pZ fu pw p0=some r):bR Tryz.prog 121 [(aE.pv pw),pS p0] (.tup [(aU.pv r.1),pI r.2.1,pB r.2.2]):=by
 refine qJ func121 H (fun C hC H=>?_)
 refine gQ 2 ?_;refine q1 (eX ([aO pw.aB2])) ?_;refine gQ 9 ?_;refine cQ.fact (cI 0 0 rfl rfl rfl (aM.trs_len _)) (fun hl2=>?_)
 refine bU (σ:=Unit) (fun i1 _=>⟨[(1,pS p0),(2,.ptr 0 0),(4,.ptr 1 0),(5,pI 0),(6,pB false),(7,pN i1)],⟨[some ⟨26,[aO pw.aB2]⟩,some ⟨156,[pS s_,.nil,pB false,pB false,.nil]⟩],[]⟩⟩) (fun _=>⟨[(4,.ptr 1 0),(5,pI 0),(6,pB false)],⟨[some ⟨26,[aO pw.aB2]⟩,some ⟨156,[pS s_,.nil,pB false,pB false,.nil]⟩],[]⟩⟩) (eK H) ?_ ?_
 ·rintro i1 ⟨⟩ H
  refine gQ 9 ?_;refine cS H (fun h3 h3l H=>?_) (fun h3 H=>?_)
  ·refine gQ 7 ?_;refine SR (σ:=Int) (fun v4=>⟨[(1,pS p0),(2,.ptr 0 0),(4,.ptr 1 0),(5,pI 0),(6,pB false),(7,pN i1),(8,pI v4),(9,pN i1),(10,.ptr 0 0),(11,aO pw.aB2),(12,pN pw.aB2.length),(13,pB (decide ((i1:Int)<(pw.aB2.length:Int))))],⟨[some ⟨26,[aO pw.aB2]⟩,some ⟨156,[pS s_,.nil,pB false,pB false,.nil]⟩],[]⟩⟩) (fun v4=>⟨[(1,pS p0),(2,.ptr 0 0),(4,.ptr 1 0),(5,pI 0),(6,pB false),(7,pN i1),(8,pI v4),(9,pN i1),(10,.ptr 0 0),(11,aO pw.aB2),(12,pN pw.aB2.length),(13,pB (decide ((i1:Int)<(pw.aB2.length:Int))))],⟨[some ⟨26,[aO pw.aB2]⟩,some ⟨156,[pS s_,.nil,pB false,pB false,.nil]⟩],[]⟩⟩) (eK H) ?_ ?_
   ·rintro k5 v4 H
    refine gQ 7 ?_;refine fZ H fun y6 h7 H=>(q1 (yI h7 h3l) ?_)
    refine gQ 2 ?_;refine YQ 22 (aU.trs_len _) (fun hl8=>?_)
    refine gQ 3 ?_;refine bC H (fun h9 H=>?_) (fun h9 H=>?_)
    ·refine gQ 8 ?_;refine q1 (yI h7 h3l) ?_;refine gQ 3 ?_;refine cC H fun z10 H=>(q1 (rIy z10 aqG.h) ?_)
     refine gQ 5 ?_;refine bC H (fun h11 H=>?_) (fun h11 H=>?_)
     ·refine gQ 5 ?_;refine q1 (yI h7 h3l) ?_;refine gQ 3 ?_;refine q1 (rIy z10 aqG.h) (q1 (iI (aU.cs (aT y6.aCi ((v4).toNat)))) ?_)
      refine gQ 5 ?_;refine cQ.ret ?_
      obtain rfl:_=r:=(lkR (skL (lwR (vI H))):)
      exact qf3
     refine gQ 3 ?_;refine q1 (bB.addI rfl rfl rfl rfl (c:=v4+1) (by omega) (by omega)) ?_;exact gE 2
    exact gE 0
   rintro v4 H
   exact gE 5
  exact gE 0
 rintro⟨⟩ H
 exact gE 7
def xE(fu:Nat)(pw:aE)(p0:ByteArray)(i1:Nat):Int→Option (LR Int (LR Unit (aN×Int×Bool))):=fun v4=>lt (aT pw.aB2 i1) fun y6=>sw (decide (v4<(y6.aCb.length:Int))) (gd (0≤v4∧(v4).toNat<(y6.aCb).length) (sw (decide ((aT y6.aCb ((v4).toNat)).aB3=p0)) (some (.ret (.ret ((aT y6.aCb ((v4).toNat)),(i1:Int),true)))) (some (.next (v4+1))))) (some (.brk v4))
def DR(fu:Nat)(pw:aE)(p0:ByteArray):Nat→Unit→Option (LR Unit (aN×Int×Bool)):=fun i1 _=>so (loopW (xE fu pw p0 i1) fu 0) fun v4=>some (.next ())
def AA(fu:Nat)(pw:aE)(p0:ByteArray):Option (aN×Int×Bool):=so (loopN (DR fu pw p0) (pw.aB2.length-0) 0 ()) fun _=>some ((aN.mk s_ [] []),0,false)
theorem ZH(fu:Nat)(pw:aE)(p0:ByteArray)(r:aN×Int×Bool)(H:AA fu pw p0=some r):bR Tryz.prog 53 [(aE.pv pw),pS p0] (.tup [(aN.pv r.1),pI r.2.1,pB r.2.2]):=by
 refine qJ func53 H (fun C hC H=>?_)
 refine gQ 2 ?_;refine q1 (eX ([aO pw.aB2])) ?_;refine gQ 9 ?_;refine cQ.fact (cI 0 0 rfl rfl rfl (aM.trs_len _)) (fun hl2=>?_)
 refine bU (σ:=Unit) (fun i1 _=>⟨[(1,pS p0),(2,.ptr 0 0),(4,.ptr 1 0),(5,pI 0),(6,pB false),(7,pN i1)],⟨[some ⟨26,[aO pw.aB2]⟩,some ⟨39,[pS s_,.nil,.nil]⟩],[]⟩⟩) (fun _=>⟨[(4,.ptr 1 0),(5,pI 0),(6,pB false)],⟨[some ⟨26,[aO pw.aB2]⟩,some ⟨39,[pS s_,.nil,.nil]⟩],[]⟩⟩) (eK H) ?_ ?_
 ·rintro i1 ⟨⟩ H
  refine gQ 9 ?_;refine cS H (fun h3 h3l H=>?_) (fun h3 H=>?_)
  ·refine gQ 7 ?_;refine SR (σ:=Int) (fun v4=>⟨[(1,pS p0),(2,.ptr 0 0),(4,.ptr 1 0),(5,pI 0),(6,pB false),(7,pN i1),(8,pI v4),(9,pN i1),(10,.ptr 0 0),(11,aO pw.aB2),(12,pN pw.aB2.length),(13,pB (decide ((i1:Int)<(pw.aB2.length:Int))))],⟨[some ⟨26,[aO pw.aB2]⟩,some ⟨39,[pS s_,.nil,.nil]⟩],[]⟩⟩) (fun v4=>⟨[(1,pS p0),(2,.ptr 0 0),(4,.ptr 1 0),(5,pI 0),(6,pB false),(7,pN i1),(8,pI v4),(9,pN i1),(10,.ptr 0 0),(11,aO pw.aB2),(12,pN pw.aB2.length),(13,pB (decide ((i1:Int)<(pw.aB2.length:Int))))],⟨[some ⟨26,[aO pw.aB2]⟩,some ⟨39,[pS s_,.nil,.nil]⟩],[]⟩⟩) (eK H) ?_ ?_
   ·rintro k5 v4 H
    refine gQ 7 ?_;refine fZ H fun y6 h7 H=>(q1 (yI h7 h3l) ?_)
    refine gQ 2 ?_;refine YQ 22 (aN.trs_len _) (fun hl8=>?_)
    refine gQ 3 ?_;refine bC H (fun h9 H=>?_) (fun h9 H=>?_)
    ·refine gQ 8 ?_;refine q1 (yI h7 h3l) ?_;refine gQ 3 ?_;refine cC H fun z10 H=>(q1 (rIy z10 aqH.h) ?_)
     refine gQ 5 ?_;refine bC H (fun h11 H=>?_) (fun h11 H=>?_)
     ·refine gQ 5 ?_;refine q1 (yI h7 h3l) ?_;refine gQ 3 ?_;refine q1 (rIy z10 aqH.h) (q1 (iI (aN.cs (aT y6.aCb ((v4).toNat)))) ?_)
      refine gQ 5 ?_;refine cQ.ret ?_
      obtain rfl:_=r:=(lkR (skL (lwR (vI H))):)
      exact qf3
     refine gQ 3 ?_;refine q1 (bB.addI rfl rfl rfl rfl (c:=v4+1) (by omega) (by omega)) ?_;exact gE 2
    exact gE 0
   rintro v4 H
   exact gE 5
  exact gE 0
 rintro⟨⟩ H
 exact gE 7
def AB(fu:Nat)(pw:aE)(po:aC):Option (aI×Bool):=bd (sK fu po.aCf 0 (aX ((pw.aB2.length:Int)-1))) fun x2=>sw (!(x2)) (some ((aI.mk s_ [] (aA.mk 0 s_ []) [] false false (aA.mk 0 s_ []) []),false)) (gd (0≤po.aCf∧(po.aCf).toNat<(pw.aB2).length) (lt (aT pw.aB2 ((po.aCf).toNat)) fun y5=>bd (sK fu po.aCt 0 (aX ((y5.aCe.length:Int)-1))) fun x8=>sw (!(x8)) (some ((aI.mk s_ [] (aA.mk 0 s_ []) [] false false (aA.mk 0 s_ []) []),false)) (gd (0≤po.aCt∧(po.aCt).toNat<(y5.aCe).length) (lt (aT y5.aCe ((po.aCt).toNat)) fun y11=>some (y11,true)))))
theorem ZI(fu:Nat)(pw:aE)(po:aC)(r:aI×Bool)(H:AB fu pw po=some r):bR Tryz.prog 170 [(aE.pv pw),(aC.pv po)] (.tup [(aI.pv r.1),pB r.2]):=by
 refine qJ func170 H (fun C hC H=>?_)
 refine gQ 2 ?_;refine q1 (eX ([aO pw.aB2])) (q1 (eX ([pI po.aCf,pI po.aCt])) ?_)
 refine gQ 5 ?_;refine bK H fun x2 z1 H=>?_
 rcases oQ (!(x2)) with g3|g3
 ·have H:=sZ H g3
  refine dW (dI [3] bZ (dD [6] eE (dI [2] bZ (dD [8] eE (dI [9] XY (dI [10] rSw (dI [7,11] (bE func64 (yD fu po.aCf 0 (aX ((pw.aB2.length:Int)-1)) _ z1)) (dI [12] JS (dI [13] bF ?_)))))))))
  iterate 13 refine NH g3 ?_
  refine dI [14] (DV g3) (dN ?_)
  exact gE 7
 have H:=sY H g3
 refine cC H fun z4 H=>(fZ H fun y5 h6 H=>(bK H fun x8 z7 H=>(dW (dI [3] bZ (dD [6] eE (dI [2] bZ (dD [8] eE (dI [9] XY (dI [10] rSw (dI [7,11] (bE func64 (yD fu po.aCf 0 (aX ((pw.aB2.length:Int)-1)) _ z1)) (dI [12] JS (dI [13] bF (dI (hg:=bD g3) [3] bZ ?_)))))))))))))
 refine dD (hg:=bD g3) [15] eE (dI (hg:=bD g3) [2] bZ (dD (hg:=bD g3) [17] eE (dI (hg:=bD g3) [3] bZ (dD (hg:=bD g3) [19] eE (dI (hg:=bD g3) [18,20] (rIm h6 z4 aeW.h) (dI (hg:=bD g3) [21] wZ (dI (hg:=bD g3) [22] vM (dI (hg:=bD g3) [23] XY (dI (hg:=bD g3) [24] rSw (dI (hg:=bD g3) [16,25] (bE func64 (yD fu po.aCt 0 (aX ((y5.aCe.length:Int)-1)) _ z7)) (dI (hg:=bD g3) [26] JS (dI [14,27] (F5 g3) (dN ?_)))))))))))))
 refine bC H (fun h9 H=>gE 6) fun h9 H=>?_;refine gQ 2 ?_;refine cC H fun z10 H=>(fZ H fun y11 h12 H=>(dW (dI [2] bZ (dD [30] eE (dI [3] bZ (dD [32] eE (dI [31,33] (rIm h6 z4 aeW.h) (dI [34] wZ (dI [35] vM (dI [3] bZ (dD [37] eE (dI [36,38] (rIm h12 z10 Z4.h) (dI [39] (iI (aI.cs y11)) ?_)))))))))))))
 refine kU [4,40] jO (dI [] bF (dN ?_))
 exact gE 0
end
end Go.Proofs.YtfcoaagbccmahaaGreat.W

namespace Go.Proofs.YtfcoaagbccmahaaGreat
open Go.RowKit
theorem jE: ∀(a b:List Tr),Tr.bulkL (a++b)=Tr.bulkL a+Tr.bulkL b
 | [],b=>by simp [Tr.bulkL]
 |t::a,b=>by simp [Tr.bulkL,jE a b,Nat.add_assoc]
theorem ap7:Tr.bulkAll (aY [])=0:=rfl
theorem aoR(a:ByteArray)(l:List ByteArray):Tr.bulkAll (aY (a::l))=a.size+Tr.bulkAll (aY l):=by simp [aY,Tr.bulkAll,Tr.bulkL,Tr.bulk]
theorem aA.bk_mk(v0:Int)(v1:ByteArray)(v2:List aA):Tr.bulkL (aA.tr (.mk v0 v1 v2))=v1.size+(v2.length+Tr.bulkAll (aA.trs v2)):=by
 simp only [aA.tr,jE,Tr.bulkL,Tr.bulk,bV,fS,fQ,aA.trs_len]
 first|done|omega
theorem aA.bks_nil:Tr.bulkAll (aA.trs [])=0:=by simp [aA.trs_map,Tr.bulkAll]
theorem aA.bks_cons(a:aA)(l:List aA):Tr.bulkAll (aA.trs (a::l))=Tr.bulkL (aA.tr a)+Tr.bulkAll (aA.trs l):=by simp [aA.trs_map,Tr.bulkAll]
theorem aL.bk_mk(v0:Int)(v1:ByteArray)(v2:ByteArray)(v3:Int)(v4:aA)(v5:List aL)(v6:List bS):Tr.bulkL (aL.tr (.mk v0 v1 v2 v3 v4 v5 v6))=v1.size+v2.size+Tr.bulkL (aA.tr v4)+(v5.length+Tr.bulkAll (aL.trs v5))+(v6.length+Tr.bulkAll (bS.trs v6)):=by
 simp only [aL.tr,jE,Tr.bulkL,Tr.bulk,bV,fS,fQ,aL.trs_len,bS.trs_len]
 first|done|omega
theorem aL.bks_nil:Tr.bulkAll (aL.trs [])=0:=by simp [aL.trs_map,Tr.bulkAll]
theorem aL.bks_cons(a:aL)(l:List aL):Tr.bulkAll (aL.trs (a::l))=Tr.bulkL (aL.tr a)+Tr.bulkAll (aL.trs l):=by simp [aL.trs_map,Tr.bulkAll]
theorem bS.bk_mk(v0:ByteArray)(v1:List ByteArray)(v2:aL):Tr.bulkL (bS.tr (.mk v0 v1 v2))=v0.size+(v1.length+Tr.bulkAll (aY v1))+Tr.bulkL (aL.tr v2):=by
 simp only [bS.tr,jE,Tr.bulkL,Tr.bulk,bV,fS,fQ]
 first|done|omega
theorem bS.bks_nil:Tr.bulkAll (bS.trs [])=0:=by simp [bS.trs_map,Tr.bulkAll]
theorem bS.bks_cons(a:bS)(l:List bS):Tr.bulkAll (bS.trs (a::l))=Tr.bulkL (bS.tr a)+Tr.bulkAll (bS.trs l):=by simp [bS.trs_map,Tr.bulkAll]
theorem aG.bk_mk(v0:ByteArray)(v1:aA):Tr.bulkL (aG.tr (.mk v0 v1))=v0.size+Tr.bulkL (aA.tr v1):=by
 simp only [aG.tr,jE,Tr.bulkL,Tr.bulk,bV,fS,fQ]
 first|done|omega
theorem aG.bks_nil:Tr.bulkAll (aG.trs [])=0:=by simp [aG.trs_map,Tr.bulkAll]
theorem aG.bks_cons(a:aG)(l:List aG):Tr.bulkAll (aG.trs (a::l))=Tr.bulkL (aG.tr a)+Tr.bulkAll (aG.trs l):=by simp [aG.trs_map,Tr.bulkAll]
theorem aV.bk_mk(v0:ByteArray)(v1:aA):Tr.bulkL (aV.tr (.mk v0 v1))=v0.size+Tr.bulkL (aA.tr v1):=by
 simp only [aV.tr,jE,Tr.bulkL,Tr.bulk,bV,fS,fQ]
 first|done|omega
theorem aV.bks_nil:Tr.bulkAll (aV.trs [])=0:=by simp [aV.trs_map,Tr.bulkAll]
theorem aV.bks_cons(a:aV)(l:List aV):Tr.bulkAll (aV.trs (a::l))=Tr.bulkL (aV.tr a)+Tr.bulkAll (aV.trs l):=by simp [aV.trs_map,Tr.bulkAll]
theorem aQ.bk_mk(v0:ByteArray)(v1:List ByteArray)(v2:aL):Tr.bulkL (aQ.tr (.mk v0 v1 v2))=v0.size+(v1.length+Tr.bulkAll (aY v1))+Tr.bulkL (aL.tr v2):=by
 simp only [aQ.tr,jE,Tr.bulkL,Tr.bulk,bV,fS,fQ]
 first|done|omega
theorem aQ.bks_nil:Tr.bulkAll (aQ.trs [])=0:=by simp [aQ.trs_map,Tr.bulkAll]
theorem aQ.bks_cons(a:aQ)(l:List aQ):Tr.bulkAll (aQ.trs (a::l))=Tr.bulkL (aQ.tr a)+Tr.bulkAll (aQ.trs l):=by simp [aQ.trs_map,Tr.bulkAll]
theorem aD.bk_mk(v0:ByteArray)(v1:List aA):Tr.bulkL (aD.tr (.mk v0 v1))=v0.size+(v1.length+Tr.bulkAll (aA.trs v1)):=by
 simp only [aD.tr,jE,Tr.bulkL,Tr.bulk,bV,fS,fQ,aA.trs_len]
 first|done|omega
theorem aD.bks_nil:Tr.bulkAll (aD.trs [])=0:=by simp [aD.trs_map,Tr.bulkAll]
theorem aD.bks_cons(a:aD)(l:List aD):Tr.bulkAll (aD.trs (a::l))=Tr.bulkL (aD.tr a)+Tr.bulkAll (aD.trs l):=by simp [aD.trs_map,Tr.bulkAll]
theorem aF.bk_mk(v0:ByteArray)(v1:List aA)(v2:aA)(v3:Bool)(v4:List ByteArray)(v5:aL):Tr.bulkL (aF.tr (.mk v0 v1 v2 v3 v4 v5))=v0.size+(v1.length+Tr.bulkAll (aA.trs v1))+Tr.bulkL (aA.tr v2)+(v4.length+Tr.bulkAll (aY v4))+Tr.bulkL (aL.tr v5):=by
 simp only [aF.tr,jE,Tr.bulkL,Tr.bulk,bV,fS,fQ,aA.trs_len]
 first|done|omega
theorem aF.bks_nil:Tr.bulkAll (aF.trs [])=0:=by simp [aF.trs_map,Tr.bulkAll]
theorem aF.bks_cons(a:aF)(l:List aF):Tr.bulkAll (aF.trs (a::l))=Tr.bulkL (aF.tr a)+Tr.bulkAll (aF.trs l):=by simp [aF.trs_map,Tr.bulkAll]
theorem aU.bk_mk(v0:ByteArray)(v1:List ByteArray)(v2:Bool)(v3:Bool)(v4:List aF):Tr.bulkL (aU.tr (.mk v0 v1 v2 v3 v4))=v0.size+(v1.length+Tr.bulkAll (aY v1))+(v4.length+Tr.bulkAll (aF.trs v4)):=by
 simp only [aU.tr,jE,Tr.bulkL,Tr.bulk,bV,fS,fQ,aF.trs_len]
 first|done|omega
theorem aU.bks_nil:Tr.bulkAll (aU.trs [])=0:=by simp [aU.trs_map,Tr.bulkAll]
theorem aU.bks_cons(a:aU)(l:List aU):Tr.bulkAll (aU.trs (a::l))=Tr.bulkL (aU.tr a)+Tr.bulkAll (aU.trs l):=by simp [aU.trs_map,Tr.bulkAll]
theorem aN.bk_mk(v0:ByteArray)(v1:List ByteArray)(v2:List aD):Tr.bulkL (aN.tr (.mk v0 v1 v2))=v0.size+(v1.length+Tr.bulkAll (aY v1))+(v2.length+Tr.bulkAll (aD.trs v2)):=by
 simp only [aN.tr,jE,Tr.bulkL,Tr.bulk,bV,fS,fQ,aD.trs_len]
 first|done|omega
theorem aN.bks_nil:Tr.bulkAll (aN.trs [])=0:=by simp [aN.trs_map,Tr.bulkAll]
theorem aN.bks_cons(a:aN)(l:List aN):Tr.bulkAll (aN.trs (a::l))=Tr.bulkL (aN.tr a)+Tr.bulkAll (aN.trs l):=by simp [aN.trs_map,Tr.bulkAll]
theorem aI.bk_mk(v0:ByteArray)(v1:List ByteArray)(v2:aA)(v3:List aG)(v4:Bool)(v5:Bool)(v6:aA)(v7:List aQ):Tr.bulkL (aI.tr (.mk v0 v1 v2 v3 v4 v5 v6 v7))=v0.size+(v1.length+Tr.bulkAll (aY v1))+Tr.bulkL (aA.tr v2)+(v3.length+Tr.bulkAll (aG.trs v3))+Tr.bulkL (aA.tr v6)+(v7.length+Tr.bulkAll (aQ.trs v7)):=by
 simp only [aI.tr,jE,Tr.bulkL,Tr.bulk,bV,fS,fQ,aG.trs_len,aQ.trs_len]
 first|done|omega
theorem aI.bks_nil:Tr.bulkAll (aI.trs [])=0:=by simp [aI.trs_map,Tr.bulkAll]
theorem aI.bks_cons(a:aI)(l:List aI):Tr.bulkAll (aI.trs (a::l))=Tr.bulkL (aI.tr a)+Tr.bulkAll (aI.trs l):=by simp [aI.trs_map,Tr.bulkAll]
theorem aP.bk_mk(v0:ByteArray)(v1:List ByteArray)(v2:List aG)(v3:List aV)(v4:aA)(v5:aL):Tr.bulkL (aP.tr (.mk v0 v1 v2 v3 v4 v5))=v0.size+(v1.length+Tr.bulkAll (aY v1))+(v2.length+Tr.bulkAll (aG.trs v2))+(v3.length+Tr.bulkAll (aV.trs v3))+Tr.bulkL (aA.tr v4)+Tr.bulkL (aL.tr v5):=by
 simp only [aP.tr,jE,Tr.bulkL,Tr.bulk,bV,fS,fQ,aG.trs_len,aV.trs_len]
 first|done|omega
theorem aP.bks_nil:Tr.bulkAll (aP.trs [])=0:=by simp [aP.trs_map,Tr.bulkAll]
theorem aP.bks_cons(a:aP)(l:List aP):Tr.bulkAll (aP.trs (a::l))=Tr.bulkL (aP.tr a)+Tr.bulkAll (aP.trs l):=by simp [aP.trs_map,Tr.bulkAll]
theorem aM.bk_mk(v0:ByteArray)(v1:List ByteArray)(v2:List aU)(v3:List aN)(v4:List aI)(v5:List aP):Tr.bulkL (aM.tr (.mk v0 v1 v2 v3 v4 v5))=v0.size+(v1.length+Tr.bulkAll (aY v1))+(v2.length+Tr.bulkAll (aU.trs v2))+(v3.length+Tr.bulkAll (aN.trs v3))+(v4.length+Tr.bulkAll (aI.trs v4))+(v5.length+Tr.bulkAll (aP.trs v5)):=by
 simp only [aM.tr,jE,Tr.bulkL,Tr.bulk,bV,fS,fQ,aU.trs_len,aN.trs_len,aI.trs_len,aP.trs_len]
 first|done|omega
theorem aM.bks_nil:Tr.bulkAll (aM.trs [])=0:=by simp [aM.trs_map,Tr.bulkAll]
theorem aM.bks_cons(a:aM)(l:List aM):Tr.bulkAll (aM.trs (a::l))=Tr.bulkL (aM.tr a)+Tr.bulkAll (aM.trs l):=by simp [aM.trs_map,Tr.bulkAll]
theorem aE.bk_mk(v0:List aM):Tr.bulkL (aE.tr (.mk v0))=(v0.length+Tr.bulkAll (aM.trs v0)):=by
 simp only [aE.tr,jE,Tr.bulkL,Tr.bulk,bV,fS,fQ,aM.trs_len]
 first|done|omega
theorem aB.bk_mk(v0:ByteArray)(v1:List aB):Tr.bulkL (aB.tr (.mk v0 v1))=v0.size+(v1.length+Tr.bulkAll (aB.trs v1)):=by
 simp only [aB.tr,jE,Tr.bulkL,Tr.bulk,bV,fS,fQ,aB.trs_len]
 first|done|omega
theorem aB.bks_nil:Tr.bulkAll (aB.trs [])=0:=by simp [aB.trs_map,Tr.bulkAll]
theorem aB.bks_cons(a:aB)(l:List aB):Tr.bulkAll (aB.trs (a::l))=Tr.bulkL (aB.tr a)+Tr.bulkAll (aB.trs l):=by simp [aB.trs_map,Tr.bulkAll]
end Go.Proofs.YtfcoaagbccmahaaGreat

namespace Go.Proofs.YtfcoaagbccmahaaGreat
def bQ(P:Nat→Prop):Prop:= ∃N,∀n,N≤n→P n
theorem bQ.all{P:Nat→Prop}(h: ∀n,P n):bQ P:=⟨0,fun n _=>h n⟩
theorem bQ.and{P Q:Nat→Prop}(h:bQ P)(k:bQ Q):bQ fun n=>P n∧Q n:=by
 obtain⟨a,h⟩:=h
 obtain⟨b,k⟩:=k
 exact⟨max a b,fun n hn=>⟨h n (by omega),k n (by omega)⟩⟩
theorem bQ.imp{P Q:Nat→Prop}(h:bQ P)(k: ∀n,P n→Q n):bQ Q:=by
 obtain⟨a,h⟩:=h
 exact⟨a,fun n hn=>k n (h n hn)⟩
theorem bQ.imp2{P Q R:Nat→Prop}(h:bQ P)(h2:bQ Q)(k: ∀n,P n→Q n→R n):bQ R:=(h.and h2).imp fun n hn=>k n hn.1 hn.2
theorem bQ.succ{P:Nat→Prop}(h:bQ fun n=>P (n+1)):bQ P:=by
 obtain⟨a,h⟩:=h
 exact⟨a+1,fun n hn=>by
  obtain⟨m,rfl⟩: ∃m,n=m+1:=⟨n-1,by omega⟩
  exact h m (by omega)⟩
theorem bQ.list{α:Type}{P:α→Nat→Prop}: ∀ {l:List α},(∀x∈l,bQ (P x))→bQ fun n=> ∀x∈l,P x n
 | [],_=> .all fun n x hx=>by simp at hx
 |a::l,h=>((h a (by simp)).and (bQ.list (l:=l) fun x hx=>h x (List.mem_cons_of_mem _ hx))).imp fun n hn x hx=>by
  rcases List.mem_cons.1 hx with rfl|hx
  ·exact hn.1
  ·exact hn.2 x hx
theorem bQ.below{P:Nat→Nat→Prop}: ∀ {k:Nat},(∀i,i<k→bQ (P i))→bQ fun n=> ∀i,i<k→P i n
 |0,_=> .all fun n i hi=>by omega
 |k+1,h=>((h k (by omega)).and (bQ.below (k:=k) fun i hi=>h i (Nat.lt_succ_of_lt hi))).imp fun n hn i hi=>by
  rcases Nat.lt_or_ge i k with h1|h1
  ·exact hn.2 i h1
  ·obtain rfl:i=k:=by omega
   exact hn.1
theorem bQ.get{P:Nat→Prop}(h:bQ P): ∃n,P n:=by
 obtain⟨a,h⟩:=h
 exact⟨a,h a (Nat.le_refl _)⟩
section
variable {α σ β:Type} [Inhabited α] {f:Nat→σ→Option (LR σ β)}
theorem cD{l:List α}{i:Nat}(h:i<l.length):aT l i∈l:=by rw [jM h];exact List.getElem_mem h
theorem oT{l:List α}{i:Nat}(h:i<l.length):l.drop i=aT l i::l.drop (i+1):=by rw [jM h];exact List.drop_eq_getElem_cons h
theorem I5{l:List α}{i:Nat}(h:i<l.length):l.take (i+1)=l.take i++ [aT l i]:=by rw [jM h];exact List.take_succ_eq_append_getElem h
theorem BH{n i:Nat}{s s':σ}(h:i<n)(e:f i s=some (.next s')):loopN f (n-i) i s=loopN f (n-(i+1)) (i+1) s':=MM h rfl e
theorem JO{n i:Nat}{s:σ}{x:β}(h:i<n)(e:f i s=some (.ret x)):loopN f (n-i) i s=some (.inl x):=amB h rfl e
theorem amA{n i:Nat}{s s':σ}(h:i<n)(e:f i s=some (.brk s')):loopN f (n-i) i s=some (.inr s'):=al8 h rfl e
theorem ER{n i:Nat}{s:σ}(h:n≤i):loopN f (n-i) i s=some (.inr s):=al9 h rfl
theorem V1{l:List α}{g:σ→α→σ}(P:Nat→σ→Prop)(hs: ∀i s,i<l.length→P i s→f i s=some (.next (g s (aT l i)))∧P (i+1) (g s (aT l i))):
 ∀(k i:Nat) (s:σ),l.length-i=k→P i s→loopN f (l.length-i) i s=some (.inr ((l.drop i).foldl g s))
 |0,i,s,hk,_=>by
  rw [ER (by omega),List.drop_of_length_le (by omega),List.foldl_nil]
 |k+1,i,s,hk,hp=>by
  have hi:i<l.length:=by omega
  obtain⟨h1,h2⟩:=hs i s hi hp
  rw [BH hi h1,oT hi,List.foldl_cons]
  exact V1 P hs k (i+1) _ (by omega) h2
theorem kO{l:List α}{g:σ→α→σ}(P:Nat→σ→Prop)(hs: ∀i s,i<l.length→P i s→f i s=some (.next (g s (aT l i)))∧P (i+1) (g s (aT l i))){s:σ}(h0:P 0 s):loopN f (l.length-0) 0 s=some (.inr (l.foldl g s)):=by
 have:=V1 P hs l.length 0 s (by omega) h0
 rwa [List.drop_zero] at this
theorem V0{l:List α}{p:α→Bool}{r:α→β}{s:σ}(hs: ∀i,i<l.length→f i s=if p (aT l i) then some (.ret (r (aT l i))) else some (.next s)):
 ∀(k i:Nat),l.length-i=k→loopN f (l.length-i) i s=some (match(l.drop i).find? p with|some x=> .inl (r x)|none=> .inr s)
 |0,i,hk=>by
  rw [ER (by omega),List.drop_of_length_le (by omega),List.find?_nil]
 |k+1,i,hk=>by
  have hi:i<l.length:=by omega
  have h1:=hs i hi
  rw [oT hi,List.find?_cons]
  cases hp:p (aT l i)
  ·rw [hp] at h1
   rw [BH hi (by simpa using h1)]
   exact V0 hs k (i+1) (by omega)
  ·rw [hp] at h1
   rw [JO hi (by simpa using h1)]
theorem mR{l:List α}{p:α→Bool}{r:α→β}{s:σ}(hs: ∀i,i<l.length→f i s=if p (aT l i) then some (.ret (r (aT l i))) else some (.next s)):loopN f (l.length-0) 0 s=some (match l.find? p with|some x=> .inl (r x)|none=> .inr s):=by
 have:=V0 hs l.length 0 (by omega)
 rwa [List.drop_zero] at this
theorem SQ{l:List α}{p:α→Bool}{r:β}{s:σ}(hs: ∀i,i<l.length→f i s=if p (aT l i) then some (.next s) else some (.ret r)):loopN f (l.length-0) 0 s=some (if l.all p then .inr s else .inl r):=by
 rw [mR (p:=fun x=> !p x) (r:=fun _=>r) (fun i hi=>by rw [hs i hi];cases p (aT l i)<;>rfl)]
 cases h:l.find? (fun x=> !p x) with
 |none=>
  rw [List.find?_eq_none] at h
  rw [if_pos (by rw [List.all_eq_true];intro x hx;have:=h x hx;simpa using this)]
 |some x=>
  have h1:=List.find?_some h
  have h2:=List.mem_of_find?_eq_some h
  rw [if_neg (by rw [List.all_eq_true];intro hc;have:=hc x h2;simp [this] at h1)]
theorem xS{f:Nat→Unit→Option (LR Unit Int)}{l:List α}{p:α→Bool}(hs: ∀i,i<l.length→f i ()=if p (aT l i) then some (.ret ((i:Nat):Int)) else some (.next ())):
 loopN f (l.length-0) 0 ()=some (match l.findIdx? p with|some i=> .inl ((i:Nat):Int)|none=> .inr ()):=by
 have key: ∀(k i:Nat),l.length-i=k→loopN f (l.length-i) i ()=some (match(l.drop i).findIdx? p with|some j=> .inl (((i+j:Nat)):Int)|none=> .inr ()):=by
  intro k
  induction k with
  |zero=>
   intro i hk
   rw [ER (by omega),List.drop_of_length_le (by omega)]
   rfl
  |succ k ih=>
   intro i hk
   have hi:i<l.length:=by omega
   have h1:=hs i hi
   rw [oT hi,List.findIdx?_cons]
   cases hp:p (aT l i)
   ·rw [hp] at h1
    rw [BH hi (by simpa using h1),ih (i+1) (by omega)]
    cases(l.drop (i+1)).findIdx? p with
    |none=>simp
    |some j=>simp;omega
   ·rw [hp] at h1
    rw [JO hi (by simpa using h1)]
    simp
 have:=key l.length 0 (by omega)
 simpa using this
omit [Inhabited α] in
theorem QJ{l:List α}{p:α→Bool}:decide ((match l.findIdx? p with|some i=>((i:Nat):Int)|none=> -1)≥0)=l.any p:=by
 cases h:l.findIdx? p with
 |none=>
  rw [List.findIdx?_eq_none_iff] at h
  have:l.any p=false:=by rw [List.any_eq_false];intro x hx;simp [h x hx]
  rw [this];rfl
 |some i=>
  obtain⟨h1,h2,-⟩:=List.findIdx?_eq_some_iff_getElem.1 h
  have:l.any p=true:=List.any_eq_true.2 ⟨_,List.getElem_mem h1,h2⟩
  rw [this]
  simp
end
end Go.Proofs.YtfcoaagbccmahaaGreat

namespace Go.Proofs.YtfcoaagbccmahaaGreat
open Go.RowKit Go.WalkArith Go.IntWalk
def Ok{α:Type}(o:Option α)(P:α→Prop):Prop:= ∃a,o=some a∧P a
theorem Ok.some{α:Type}{P:α→Prop}{a:α}(h:P a):Ok (Option.some a) P:=⟨a,rfl,h⟩
theorem Ok.mono{α:Type}{P Q:α→Prop}{o:Option α}(h:Ok o P)(k: ∀a,P a→Q a):Ok o Q:=by
 obtain⟨a,e,h⟩:=h
 exact⟨a,e,k a h⟩
theorem Ok.bd{α β:Type}{o:Option α}{f:α→Option β}{Q:α→Prop}{P:β→Prop}(h:Ok o Q)(k: ∀a,Q a→Ok (f a) P):Ok (bd o f) P:=by
 obtain⟨a,rfl,h⟩:=h
 exact k a h
theorem Ok.sw{α:Type}{c:Bool}{a b:Option α}{P:α→Prop}(ht:c=true→Ok a P)(hf:c=false→Ok b P):Ok (sw c a b) P:=by
 cases c
 ·exact hf rfl
 ·exact ht rfl
theorem Ok.gd{α:Type}{g:Prop}{a:Option α}{P:α→Prop}(h:g)(k:Ok a P):Ok (gd g a) P:=by
 rw [gO h rfl]
 exact k
theorem Ok.so{σ β:Type}{o:Option (β⊕σ)}{f:σ→Option β}{Q:β⊕σ→Prop}{P:β→Prop}(h:Ok o Q)(k1: ∀x,Q (.inl x)→P x)(k2: ∀s,Q (.inr s)→Ok (f s) P):Ok (so o f) P:=by
 obtain⟨a,rfl,h⟩:=h
 cases a with
 |inl x=>exact⟨x,rfl,k1 x h⟩
 |inr s=>exact k2 s h
theorem Ok.lt{α β:Type}{x:α}{f:α→Option β}{P:β→Prop}(k: ∀y,y=x→Ok (f y) P):Ok (lt x f) P:=k x rfl
theorem DS.pick_mem(d:DS){l:LB}(h:0<l.length):d.pick l∈l:=by
 rw [DS.pick_eq (d.below_lt h)]
 exact List.getElem_mem _
theorem DS.pick_size(d:DS){l:LB}{k:Nat}(h:0<l.length)(hs: ∀v∈l,v.size≤k):(d.pick l).size≤k:=hs _ (d.pick_mem h)
def PS{σ β:Type}(Q:β→Prop)(E:σ→Prop):β⊕σ→Prop
 | .inl x=>Q x
 | .inr s=>E s
def PL{σ β:Type}(Q:β→Prop)(N E:σ→Prop):LR σ β→Prop
 | .next s=>N s
 | .brk s=>E s
 | .ret x=>Q x
theorem Ok.gdk{α:Type}{g:Prop}{a:Option α}{P:α→Prop}(h:g)(k:g→Ok a P):Ok (Go.Proofs.YtfcoaagbccmahaaGreat.gd g a) P:=Ok.gd h (k h)
theorem Ok.sok{σ β:Type}{o:Option (β⊕σ)}{f:σ→Option β}{P:β→Prop}{E:σ→Prop}(h:Ok o (PS P E))(k: ∀s,E s→Ok (f s) P):Ok (Go.Proofs.YtfcoaagbccmahaaGreat.so o f) P:=Ok.so h (fun _ hx=>hx) k
theorem Ok.loopN{σ β:Type}{f:Nat→σ→Option (LR σ β)}{n:Nat}{Q:β→Prop}{E:σ→Prop}(I:Nat→σ→Prop)(hE: ∀i s,n≤i→I i s→E s)(hs: ∀i s,i<n→I i s→Ok (f i s) (PL Q (I (i+1)) E)):
 ∀(k i:Nat) (s:σ),n-i=k→I i s→Ok (Go.Proofs.YtfcoaagbccmahaaGreat.loopN f (n-i) i s) (PS Q E)
 |0,i,s,hk,hi=>by rw [ER (by omega)];exact Ok.some (hE i s (by omega) hi)
 |k+1,i,s,hk,hi=>by
  have hlt:i<n:=by omega
  obtain⟨r,hr,hp⟩:=hs i s hlt hi
  cases r with
  |next s'=>rw [BH hlt hr];exact Ok.loopN I hE hs k (i+1) s' (by omega) hp
  |brk s'=>rw [amA hlt hr];exact Ok.some hp
  |ret x=>rw [JO hlt hr];exact Ok.some hp
theorem Ok.loopN0{σ β:Type}{f:Nat→σ→Option (LR σ β)}{n i:Nat}{s:σ}{Q:β→Prop}{E:σ→Prop}(I:Nat→σ→Prop)(h0:I i s)(hE: ∀i s,n≤i→I i s→E s)(hs: ∀i s,i<n→I i s→Ok (f i s) (PL Q (I (i+1)) E)):Ok (Go.Proofs.YtfcoaagbccmahaaGreat.loopN f (n-i) i s) (PS Q E):=
 Ok.loopN I hE hs (n-i) i s rfl h0
theorem Ok.loopW{σ β:Type}{f:σ→Option (LR σ β)}{Q:β→Prop}{E:σ→Prop}(I:σ→Prop)(μ:σ→Nat)(hs: ∀s,I s→Ok (f s) (PL Q (fun s'=>I s'∧μ s'<μ s) E)):
 ∀(k:Nat) (s:σ),μ s<k→I s→Ok (Go.Proofs.YtfcoaagbccmahaaGreat.loopW f k s) (PS Q E)
 |0,s,hk,_=>absurd hk (Nat.not_lt_zero _)
 |k+1,s,hk,hi=>by
  obtain⟨r,hr,hp⟩:=hs s hi
  unfold Go.Proofs.YtfcoaagbccmahaaGreat.loopW
  rw [hr]
  cases r with
  |next s'=>exact Ok.loopW I μ hs k s' (by have:=hp.2;omega) hp.1
  |brk s'=>exact Ok.some hp
  |ret x=>exact Ok.some hp
theorem bQ.ge(k:Nat):bQ fun fu=>k≤fu:=⟨k,fun _ h=>h⟩
end Go.Proofs.YtfcoaagbccmahaaGreat

namespace Go.Proofs.YtfcoaagbccmahaaGreat
open Go.RowKit Go.WalkArith Go.IntWalk
class Wt (α:Type) where
 wtOf:α→Nat
def wt{α:Type}[Wt α](x:α):Nat:=Wt.wtOf x
def wl{α:Type}[Wt α]:List α→Nat
 | []=>0
 |a::l=>wt a+1+wl l
instance:Wt ByteArray:=⟨ByteArray.size⟩
theorem bA(b:ByteArray):wt b=b.size:=rfl
theorem I8(l:LB):wl l=l.length+Tr.bulkAll (aY l):=by
 induction l with
 |nil=>rw [ap7];rfl
 |cons a l ih=>rw [aoR];simp only [wl,List.length_cons,bA];omega
section
variable {α:Type} [Wt α]
theorem aW:wl ([]:List α)=0∧([]:List α).length=0:=⟨rfl,rfl⟩
theorem ad4(a:α)(l:List α):wl (a::l)=wt a+1+wl l:=rfl
theorem b4(a b:List α):wl (a++b)=wl a+wl b∧(a++b).length=a.length+b.length:=by
 refine⟨?_,List.length_append⟩
 induction a with
 |nil=>simp [wl]
 |cons x a ih=>simp only [List.cons_append,wl];omega
theorem cA(a:α):wl [a]=wt a+1∧ [a].length=1:=⟨rfl,rfl⟩
theorem kM(a b:α):wl [a,b]=wt a+wt b+2∧ [a,b].length=2:=⟨by simp only [wl];omega,rfl⟩
theorem F0(a b c:α):wl [a,b,c]=wt a+wt b+wt c+3∧ [a,b,c].length=3:=⟨by simp only [wl];omega,rfl⟩
theorem av4(a b c d:α):wl [a,b,c,d]=wt a+wt b+wt c+wt d+4∧ [a,b,c,d].length=4:=⟨by simp only [wl];omega,rfl⟩
theorem asT(a b c d e:α):wl [a,b,c,d,e]=wt a+wt b+wt c+wt d+wt e+5∧ [a,b,c,d,e].length=5:=⟨by simp only [wl];omega,rfl⟩
theorem asU(a b c d e f g:α):wl [a,b,c,d,e,f,g]=wt a+wt b+wt c+wt d+wt e+wt f+wt g+7∧ [a,b,c,d,e,f,g].length=7:=⟨by simp only [wl];omega,rfl⟩
theorem aZ(l:List α):l.length≤wl l:=by
 induction l with
 |nil=>simp
 |cons a l ih=>simp only [wl,List.length_cons];omega
theorem I7(k:Nat)(l:List α):wl (l.take k)+wl (l.drop k)=wl l:=by
 have:=(b4 (l.take k) (l.drop k)).1
 rw [List.take_append_drop] at this
 omega
theorem oM(l:List α)(k:Nat):wl (l.take k)≤wl l:=by have:=I7 k l;omega
theorem ap8(k:Nat)(l:List α):wl (l.drop k)≤wl l:=by have:=I7 k l;omega
theorem UO(a b:Nat)(l:List α):wl (List.drop a (List.take b l))≤wl l∧(List.drop a (List.take b l)).length=min b l.length-a:=by
 have h1:=ap8 a (l.take b)
 have h2:=oM l b
 exact⟨by omega,by simp⟩
theorem CB{l:List α}{x:α}(h:x∈l):wt x+1≤wl l:=by
 induction l with
 |nil=>simp at h
 |cons a l ih=>
  simp only [wl]
  rcases List.mem_cons.1 h with rfl|h
  ·omega
  ·have:=ih h;omega
theorem ad5(l:List α)(a b:Nat):a≤b→wl (l.take a)≤wl (l.take b):=fun h=>by
 have:=oM (l.take b) a
 rwa [List.take_take,Nat.min_eq_left h] at this
theorem arN(L:List α)(b:Nat):1≤b→wl (List.drop (1:Int).toNat (List.take b L))+wl (List.take 1 L)≤wl (List.take b L):=fun h=>by
 have:=I7 1 (L.take b)
 rw [List.take_take,Nat.min_eq_left h] at this
 show wl (List.drop 1 _)+_≤_
 omega
variable [Inhabited α]
theorem cP(l:List α)(i:Nat):i<l.length→wt (aT l i)+1≤wl l:=fun h=>CB (cD h)
theorem oO(l:List α)(i:Nat)(h:i<l.length):wl (l.take (i+1))=wl (l.take i)+wt (aT l i)+1:=by
 rw [I5 h,(b4 _ _).1,(cA _).1]
 omega
theorem LE(l:List α)(i:Nat):i<l.length→wl (l.take (i+1))=wl (l.take i)+wt (aT l i)+1:=oO l i
end
theorem eO(E:Int): -9223372036854775808≤E∧E≤9223372036854775807→aX E=E:=fun h=>by
 unfold aX IntKind.wrap
 simp [IntKind.bits,IntKind.signed]
 omega
theorem FM(b:ByteArray)(i j:Nat):(b.extract i j).size=min j b.size-i:=by simp [ByteArray.size_extract]
theorem eV(a b:ByteArray):(a++b).size=a.size+b.size:=ByteArray.size_append
theorem anK(l:List UInt8):(bytesStr l).size=l.length:=by simp [bytesStr,ByteArray.size]
theorem HY{b:ByteArray}(h: ¬b=⟨#[]⟩):0<b.size:=by
 rcases Nat.eq_zero_or_pos b.size with h0|h0
 ·refine absurd ?_ h
  obtain⟨a⟩:=b
  have h1:a.size=0:=h0
  rw [Array.eq_empty_of_size_eq_zero h1]
 ·exact h0
theorem bP{p:Prop}(h:p:=by first|omega|(dsimp only;omega)|trivial|(dsimp only;trivial)):p:=h
theorem Ok.next{σ β:Type}{N E:σ→Prop}{Q:β→Prop}{s:σ}(h:N s):Ok (Option.some (LR.next s)) (PL Q N E):=⟨_,rfl,h⟩
theorem Ok.brk{σ β:Type}{N E:σ→Prop}{Q:β→Prop}{s:σ}(h:E s):Ok (Option.some (LR.brk s)) (PL Q N E):=⟨_,rfl,h⟩
theorem Ok.ret{σ β:Type}{N E:σ→Prop}{Q:β→Prop}{x:β}(h:Q x):Ok (Option.some (LR.ret (σ:=σ) x)) (PL Q N E):=⟨_,rfl,h⟩
theorem Ok.inr{σ β:Type}{E:σ→Prop}{Q:β→Prop}{s:σ}(h:E s):Ok (Option.some (Sum.inr (α:=β) s)) (PS Q E):=⟨_,rfl,h⟩
theorem Ok.swd{α:Type}{p:Prop}[Decidable p]{a b:Option α}{P:α→Prop}(ht:p→Ok a P)(hf: ¬p→Ok b P):Ok (Go.Proofs.YtfcoaagbccmahaaGreat.sw (decide p) a b) P:=Ok.sw (fun h=>ht (of_decide_eq_true h)) (fun h=>hf (of_decide_eq_false h))
theorem Ok.swn{α:Type}{p:Prop}[Decidable p]{a b:Option α}{P:α→Prop}(ht: ¬p→Ok a P)(hf:p→Ok b P):Ok (Go.Proofs.YtfcoaagbccmahaaGreat.sw (!decide p) a b) P:=Ok.sw (fun h=>ht (by simpa using h)) (fun h=>hf (by simpa using h))
theorem Ok.swb{α:Type}{x:Bool}{a b:Option α}{P:α→Prop}(ht:x=false→Ok a P)(hf:x=true→Ok b P):Ok (Go.Proofs.YtfcoaagbccmahaaGreat.sw (!x) a b) P:=Ok.sw (fun h=>ht (by simpa using h)) (fun h=>hf (by simpa using h))
theorem Ok.loop0{σ β:Type}{f:Nat→σ→Option (LR σ β)}{n i:Nat}{s:σ}{Q:β→Prop}{E:σ→Prop}(I:Nat→σ→Prop)(h0:I i s)(hE: ∀i s,n≤i→I i s→E s)(hs: ∀i s,i<n→I i s→Ok (f i s) (PL Q (I (i+1)) E)):Ok (Go.Proofs.YtfcoaagbccmahaaGreat.loopN f (n-i) i s) (PS Q E):=Ok.loopN0 I h0 hE hs
theorem Ok.loop1{σ β:Type}{f:Nat→σ→Option (LR σ β)}{n i:Nat}{s:σ}{Q:β→Prop}(hs: ∀i s,i<n→Ok (f i s) (PL Q (fun _=>True) (fun _=>True))):Ok (Go.Proofs.YtfcoaagbccmahaaGreat.loopN f (n-i) i s) (PS Q (fun _=>True)):=Ok.loopN0 (fun _ _=>True) trivial (fun _ _ _ _=>trivial) (fun i s hi _=>hs i s hi)
theorem oG{α:Type}{g:Prop}{a:Option α}{P:α→Prop}(k:g→Ok a P)(h:g:=by first|omega|trivial):Ok (Go.Proofs.YtfcoaagbccmahaaGreat.gd g a) P:=Ok.gdk h k
theorem oD{α:Type}{p:Prop}[Decidable p]{a b:Option α}{P:α→Prop}(ht:p→Ok a P)(hf: ¬p→Ok b P):Ok (Go.Proofs.YtfcoaagbccmahaaGreat.sw (decide p) a b) P:=Ok.swd ht hf
theorem oN{α:Type}{p:Prop}[Decidable p]{a b:Option α}{P:α→Prop}(ht: ¬p→Ok a P)(hf:p→Ok b P):Ok (Go.Proofs.YtfcoaagbccmahaaGreat.sw (!decide p) a b) P:=Ok.swn ht hf
theorem oW{α:Type}{x:Bool}{a b:Option α}{P:α→Prop}(ht:x=false→Ok a P)(hf:x=true→Ok b P):Ok (Go.Proofs.YtfcoaagbccmahaaGreat.sw (!x) a b) P:=Ok.swb ht hf
theorem oC{α:Type}{c:Bool}{a b:Option α}{P:α→Prop}(ht:c=true→Ok a P)(hf:c=false→Ok b P):Ok (Go.Proofs.YtfcoaagbccmahaaGreat.sw c a b) P:=Ok.sw ht hf
theorem oB{α β:Type}{o:Option α}{f:α→Option β}{Q:α→Prop}{P:β→Prop}(h:Ok o Q)(k: ∀a,Q a→Ok (f a) P):Ok (Go.Proofs.YtfcoaagbccmahaaGreat.bd o f) P:=Ok.bd h k
theorem SU{α β:Type}{o:Option α}{f:α→Option β}{Q1 Q2:α→Prop}{P:β→Prop}(h:Ok o (fun r=>Q1 r∧Q2 r))(k: ∀a,Q1 a→Q2 a→Ok (f a) P):Ok (Go.Proofs.YtfcoaagbccmahaaGreat.bd o f) P:=Ok.bd h fun a q=>k a q.1 q.2
theorem wL{A B β:Type}{o:Option (A×B)}{f:A×B→Option β}{Q:A×B→Prop}{P:β→Prop}(h:Ok o Q)(k: ∀a b,Q (a,b)→Ok (f (a,b)) P):Ok (Go.Proofs.YtfcoaagbccmahaaGreat.bd o f) P:=Ok.bd h fun _ q=>k _ _ q
theorem oB4{A B C D β:Type}{o:Option (A×B×C×D)}{f:A×B×C×D→Option β}{Q:A×B×C×D→Prop}{P:β→Prop}(h:Ok o Q)(k: ∀a b c d,Q (a,b,c,d)→Ok (f (a,b,c,d)) P):Ok (Go.Proofs.YtfcoaagbccmahaaGreat.bd o f) P:=Ok.bd h fun _ q=>k _ _ _ _ q
theorem oB6{A B C D E F β:Type}{o:Option (A×B×C×D×E×F)}{f:A×B×C×D×E×F→Option β}{Q:A×B×C×D×E×F→Prop}{P:β→Prop}(h:Ok o Q)(k: ∀a b c d e g,Q (a,b,c,d,e,g)→Ok (f (a,b,c,d,e,g)) P):Ok (Go.Proofs.YtfcoaagbccmahaaGreat.bd o f) P:=Ok.bd h fun _ q=>k _ _ _ _ _ _ q
theorem oS{α:Type}{P:α→Prop}{a:α}(h:P a:=by first|trivial|omega|(dsimp only;omega)):Ok (Option.some a) P:=⟨a,rfl,h⟩
theorem nT{σ β:Type}{N E:σ→Prop}{Q:β→Prop}{s:σ}(h:N s:=by first|trivial|omega|(dsimp only;omega)):Ok (Option.some (LR.next s)) (PL Q N E):=⟨_,rfl,h⟩
theorem oK{σ β:Type}{N E:σ→Prop}{Q:β→Prop}{s:σ}(h:E s:=by first|trivial|omega|(dsimp only;omega)):Ok (Option.some (LR.brk s)) (PL Q N E):=⟨_,rfl,h⟩
theorem oR{σ β:Type}{N E:σ→Prop}{Q:β→Prop}{x:β}(h:Q x:=by first|trivial|omega|(dsimp only;omega)):Ok (Option.some (LR.ret (σ:=σ) x)) (PL Q N E):=⟨_,rfl,h⟩
theorem oL{σ β:Type}{E:σ→Prop}{Q:β→Prop}{x:β}(h:Q x:=by first|trivial|omega|(dsimp only;omega)):Ok (Option.some (Sum.inl (β:=σ) x)) (PS Q E):=⟨_,rfl,h⟩
theorem oI{σ β:Type}{E:σ→Prop}{Q:β→Prop}{s:σ}(h:E s:=by first|trivial|omega|(dsimp only;omega)):Ok (Option.some (Sum.inr (α:=β) s)) (PS Q E):=⟨_,rfl,h⟩
theorem G8{σ β:Type}{o:Option (β⊕σ)}{f:σ→Option β}{P:β→Prop}(h:Ok o (PS P fun _=>True))(k: ∀s,True→Ok (f s) P):Ok (Go.Proofs.YtfcoaagbccmahaaGreat.so o f) P:=Ok.sok h k
theorem oEN{σ β:Type}{n i0:Nat}{s0:σ}{F:Nat→σ→Option (LR σ β)}{f:σ→Option β}{P:β→Prop}(hs: ∀i s,i<n→Ok (F i s) (PL P (fun _=>True) (fun _=>True)))(k: ∀s,True→Ok (f s) P):Ok (Go.Proofs.YtfcoaagbccmahaaGreat.so (Go.Proofs.YtfcoaagbccmahaaGreat.loopN F (n-i0) i0 s0) f) P:=Ok.sok (Ok.loop1 hs) k
theorem Q5{A B β:Type}[Wt A][Wt B][Inhabited A]{F:Nat→List B→Option (LR (List B) β)}{f:List B→Option β}{i0:Nat}{v0:List B}{Q:β→Prop}(L:List A)(c:Nat)
 (hs: ∀i v,i<L.length→wl v+c*wl (List.take i0 L)≤wl v0+c*wl (List.take i L)→wl (L.take (i+1))=wl (L.take i)+wt (aT L i)+1→wl (L.take (i+1))≤wl L→
  Ok (F i v) (PL Q (fun v=>wl v+c*wl (List.take i0 L)≤wl v0+c*wl (List.take (i+1) L)) (fun v=>wl v+c*wl (List.take i0 L)≤wl v0+c*wl L)))
 (k: ∀v,wl v+c*wl (List.take i0 L)≤wl v0+c*wl L→Ok (f v) Q):Ok (Go.Proofs.YtfcoaagbccmahaaGreat.so (Go.Proofs.YtfcoaagbccmahaaGreat.loopN F (L.length-i0) i0 v0) f) Q:=
 Ok.sok (Ok.loopN0 (fun i v=>wl v+c*wl (List.take i0 L)≤wl v0+c*wl (List.take i L)) (Nat.le_refl _) (fun i v _ h=>Nat.le_trans h (Nat.add_le_add_left (Nat.mul_le_mul_left _ (oM L i)) _)) (fun i v hi h=>hs i v hi h (oO L i hi) (oM L _))) k
theorem apN{A B β:Type}[Wt A][Wt B][Inhabited A]{F:Nat→List B→Option (LR (List B) β)}{f:List B→Option β}{i0:Nat}{Q:β→Prop}{PA:B→Prop}(L:List A)(c:Nat)
 (hs: ∀i v,i<L.length→wl v+c*wl (List.take i0 L)≤wl ([]:List B)+c*wl (List.take i L)→(∀a∈v,PA a)→wl (L.take (i+1))=wl (L.take i)+wt (aT L i)+1→wl (L.take (i+1))≤wl L→
  Ok (F i v) (PL Q (fun v=>wl v+c*wl (List.take i0 L)≤wl ([]:List B)+c*wl (List.take (i+1) L)∧ ∀a∈v,PA a) (fun v=>wl v+c*wl (List.take i0 L)≤wl ([]:List B)+c*wl L∧ ∀a∈v,PA a)))
 (k: ∀v,(wl v+c*wl (List.take i0 L)≤wl ([]:List B)+c*wl L∧ ∀a∈v,PA a)→Ok (f v) Q):Ok (Go.Proofs.YtfcoaagbccmahaaGreat.so (Go.Proofs.YtfcoaagbccmahaaGreat.loopN F (L.length-i0) i0 []) f) Q:=
 Ok.sok (Ok.loopN0 (fun i v=>wl v+c*wl (List.take i0 L)≤wl ([]:List B)+c*wl (List.take i L)∧ ∀a∈v,PA a) ⟨Nat.le_refl _,by simp⟩ (fun i v _ h=>⟨Nat.le_trans h.1 (Nat.add_le_add_left (Nat.mul_le_mul_left _ (oM L i)) _),h.2⟩) (fun i v hi h=>hs i v hi h.1 h.2 (oO L i hi) (oM L _))) k
instance:Wt aC:=⟨fun x=>Tr.bulkL (aC.tr x)⟩
instance:Wt aA:=⟨fun x=>Tr.bulkL (aA.tr x)⟩
instance:Wt aL:=⟨fun x=>Tr.bulkL (aL.tr x)⟩
instance:Wt bS:=⟨fun x=>Tr.bulkL (bS.tr x)⟩
instance:Wt aG:=⟨fun x=>Tr.bulkL (aG.tr x)⟩
instance:Wt aV:=⟨fun x=>Tr.bulkL (aV.tr x)⟩
instance:Wt aQ:=⟨fun x=>Tr.bulkL (aQ.tr x)⟩
instance:Wt aD:=⟨fun x=>Tr.bulkL (aD.tr x)⟩
instance:Wt aF:=⟨fun x=>Tr.bulkL (aF.tr x)⟩
instance:Wt aU:=⟨fun x=>Tr.bulkL (aU.tr x)⟩
instance:Wt aN:=⟨fun x=>Tr.bulkL (aN.tr x)⟩
instance:Wt aI:=⟨fun x=>Tr.bulkL (aI.tr x)⟩
instance:Wt aP:=⟨fun x=>Tr.bulkL (aP.tr x)⟩
instance:Wt aM:=⟨fun x=>Tr.bulkL (aM.tr x)⟩
instance:Wt aE:=⟨fun x=>Tr.bulkL (aE.tr x)⟩
instance:Wt aB:=⟨fun x=>Tr.bulkL (aB.tr x)⟩
instance:Wt aJ:=⟨fun x=>Tr.bulkL (aJ.tr x)⟩
instance:Wt aK:=⟨fun x=>Tr.bulkL (aK.tr x)⟩
instance:Wt aH:=⟨fun x=>Tr.bulkL (aH.tr x)⟩
instance:Wt cO:=⟨fun x=>Tr.bulkL (cO.tr x)⟩
instance:Wt bG:=⟨fun x=>Tr.bulkL (bG.tr x)⟩
theorem aA.wl_bulk(l:List aA):wl l=l.length+Tr.bulkAll (aA.trs l):=by
 induction l with
 |nil=>rw [aA.bks_nil];rfl
 |cons a l ih=>
  rw [aA.bks_cons]
  simp only [wl,List.length_cons,ih]
  show Tr.bulkL (aA.tr a)+1+_=_
  omega
theorem aL.wl_bulk(l:List aL):wl l=l.length+Tr.bulkAll (aL.trs l):=by
 induction l with
 |nil=>rw [aL.bks_nil];rfl
 |cons a l ih=>
  rw [aL.bks_cons]
  simp only [wl,List.length_cons,ih]
  show Tr.bulkL (aL.tr a)+1+_=_
  omega
theorem bS.wl_bulk(l:List bS):wl l=l.length+Tr.bulkAll (bS.trs l):=by
 induction l with
 |nil=>rw [bS.bks_nil];rfl
 |cons a l ih=>
  rw [bS.bks_cons]
  simp only [wl,List.length_cons,ih]
  show Tr.bulkL (bS.tr a)+1+_=_
  omega
theorem aG.wl_bulk(l:List aG):wl l=l.length+Tr.bulkAll (aG.trs l):=by
 induction l with
 |nil=>rw [aG.bks_nil];rfl
 |cons a l ih=>
  rw [aG.bks_cons]
  simp only [wl,List.length_cons,ih]
  show Tr.bulkL (aG.tr a)+1+_=_
  omega
theorem aV.wl_bulk(l:List aV):wl l=l.length+Tr.bulkAll (aV.trs l):=by
 induction l with
 |nil=>rw [aV.bks_nil];rfl
 |cons a l ih=>
  rw [aV.bks_cons]
  simp only [wl,List.length_cons,ih]
  show Tr.bulkL (aV.tr a)+1+_=_
  omega
theorem aQ.wl_bulk(l:List aQ):wl l=l.length+Tr.bulkAll (aQ.trs l):=by
 induction l with
 |nil=>rw [aQ.bks_nil];rfl
 |cons a l ih=>
  rw [aQ.bks_cons]
  simp only [wl,List.length_cons,ih]
  show Tr.bulkL (aQ.tr a)+1+_=_
  omega
theorem aD.wl_bulk(l:List aD):wl l=l.length+Tr.bulkAll (aD.trs l):=by
 induction l with
 |nil=>rw [aD.bks_nil];rfl
 |cons a l ih=>
  rw [aD.bks_cons]
  simp only [wl,List.length_cons,ih]
  show Tr.bulkL (aD.tr a)+1+_=_
  omega
theorem aF.wl_bulk(l:List aF):wl l=l.length+Tr.bulkAll (aF.trs l):=by
 induction l with
 |nil=>rw [aF.bks_nil];rfl
 |cons a l ih=>
  rw [aF.bks_cons]
  simp only [wl,List.length_cons,ih]
  show Tr.bulkL (aF.tr a)+1+_=_
  omega
theorem aU.wl_bulk(l:List aU):wl l=l.length+Tr.bulkAll (aU.trs l):=by
 induction l with
 |nil=>rw [aU.bks_nil];rfl
 |cons a l ih=>
  rw [aU.bks_cons]
  simp only [wl,List.length_cons,ih]
  show Tr.bulkL (aU.tr a)+1+_=_
  omega
theorem aN.wl_bulk(l:List aN):wl l=l.length+Tr.bulkAll (aN.trs l):=by
 induction l with
 |nil=>rw [aN.bks_nil];rfl
 |cons a l ih=>
  rw [aN.bks_cons]
  simp only [wl,List.length_cons,ih]
  show Tr.bulkL (aN.tr a)+1+_=_
  omega
theorem aI.wl_bulk(l:List aI):wl l=l.length+Tr.bulkAll (aI.trs l):=by
 induction l with
 |nil=>rw [aI.bks_nil];rfl
 |cons a l ih=>
  rw [aI.bks_cons]
  simp only [wl,List.length_cons,ih]
  show Tr.bulkL (aI.tr a)+1+_=_
  omega
theorem aP.wl_bulk(l:List aP):wl l=l.length+Tr.bulkAll (aP.trs l):=by
 induction l with
 |nil=>rw [aP.bks_nil];rfl
 |cons a l ih=>
  rw [aP.bks_cons]
  simp only [wl,List.length_cons,ih]
  show Tr.bulkL (aP.tr a)+1+_=_
  omega
theorem aM.wl_bulk(l:List aM):wl l=l.length+Tr.bulkAll (aM.trs l):=by
 induction l with
 |nil=>rw [aM.bks_nil];rfl
 |cons a l ih=>
  rw [aM.bks_cons]
  simp only [wl,List.length_cons,ih]
  show Tr.bulkL (aM.tr a)+1+_=_
  omega
theorem aB.wl_bulk(l:List aB):wl l=l.length+Tr.bulkAll (aB.trs l):=by
 induction l with
 |nil=>rw [aB.bks_nil];rfl
 |cons a l ih=>
  rw [aB.bks_cons]
  simp only [wl,List.length_cons,ih]
  show Tr.bulkL (aB.tr a)+1+_=_
  omega
theorem aA.wt_mk(v0:Int)(v1:ByteArray)(v2:List aA):wt (aA.mk v0 v1 v2)=v1.size+wl v2:=by
 show Tr.bulkL (aA.tr (.mk v0 v1 v2))=_
 rw [aA.bk_mk]
 simp only [aA.wl_bulk]
 try rfl
theorem aA.wt_eq(x:aA):wt x=x.aB3.size+wl x.aB4:=by
 obtain⟨v0,v1,v2⟩:=x
 exact aA.wt_mk v0 v1 v2
theorem aL.wt_mk(v0:Int)(v1:ByteArray)(v2:ByteArray)(v3:Int)(v4:aA)(v5:List aL)(v6:List bS):wt (aL.mk v0 v1 v2 v3 v4 v5 v6)=v1.size+v2.size+wt v4+wl v5+wl v6:=by
 show Tr.bulkL (aL.tr (.mk v0 v1 v2 v3 v4 v5 v6))=_
 rw [aL.bk_mk]
 simp only [aL.wl_bulk,bS.wl_bulk]
 try rfl
theorem aL.wt_eq(x:aL):wt x=x.aCa.size+x.aB3.size+wt x.aB7+wl x.aB4+wl x.aCo:=by
 obtain⟨v0,v1,v2,v3,v4,v5,v6⟩:=x
 exact aL.wt_mk v0 v1 v2 v3 v4 v5 v6
theorem bS.wt_mk(v0:ByteArray)(v1:LB)(v2:aL):wt (bS.mk v0 v1 v2)=v0.size+wl v1+wt v2:=by
 show Tr.bulkL (bS.tr (.mk v0 v1 v2))=_
 rw [bS.bk_mk]
 simp only [I8]
 try rfl
theorem bS.wt_eq(x:bS):wt x=x.aCs.size+wl x.aCg+wt x.aCd:=by
 obtain⟨v0,v1,v2⟩:=x
 exact bS.wt_mk v0 v1 v2
theorem aG.wt_mk(v0:ByteArray)(v1:aA):wt (aG.mk v0 v1)=v0.size+wt v1:=by
 show Tr.bulkL (aG.tr (.mk v0 v1))=_
 rw [aG.bk_mk]
 try rfl
theorem aG.wt_eq(x:aG):wt x=x.aCa.size+wt x.aB7:=by
 obtain⟨v0,v1⟩:=x
 exact aG.wt_mk v0 v1
theorem aV.wt_mk(v0:ByteArray)(v1:aA):wt (aV.mk v0 v1)=v0.size+wt v1:=by
 show Tr.bulkL (aV.tr (.mk v0 v1))=_
 rw [aV.bk_mk]
 try rfl
theorem aV.wt_eq(x:aV):wt x=x.aB3.size+wt x.aB7:=by
 obtain⟨v0,v1⟩:=x
 exact aV.wt_mk v0 v1
theorem aQ.wt_mk(v0:ByteArray)(v1:LB)(v2:aL):wt (aQ.mk v0 v1 v2)=v0.size+wl v1+wt v2:=by
 show Tr.bulkL (aQ.tr (.mk v0 v1 v2))=_
 rw [aQ.bk_mk]
 simp only [I8]
 try rfl
theorem aQ.wt_eq(x:aQ):wt x=x.aB3.size+wl x.aCg+wt x.aCd:=by
 obtain⟨v0,v1,v2⟩:=x
 exact aQ.wt_mk v0 v1 v2
theorem aD.wt_mk(v0:ByteArray)(v1:List aA):wt (aD.mk v0 v1)=v0.size+wl v1:=by
 show Tr.bulkL (aD.tr (.mk v0 v1))=_
 rw [aD.bk_mk]
 simp only [aA.wl_bulk]
 try rfl
theorem aD.wt_eq(x:aD):wt x=x.aB3.size+wl x.aCm:=by
 obtain⟨v0,v1⟩:=x
 exact aD.wt_mk v0 v1
theorem aF.wt_mk(v0:ByteArray)(v1:List aA)(v2:aA)(v3:Bool)(v4:LB)(v5:aL):wt (aF.mk v0 v1 v2 v3 v4 v5)=v0.size+wl v1+wt v2+wl v4+wt v5:=by
 show Tr.bulkL (aF.tr (.mk v0 v1 v2 v3 v4 v5))=_
 rw [aF.bk_mk]
 simp only [aA.wl_bulk,I8]
 try rfl
theorem aF.wt_eq(x:aF):wt x=x.aB3.size+wl x.aCn+wt x.aCl+wl x.aCg+wt x.aCd:=by
 obtain⟨v0,v1,v2,v3,v4,v5⟩:=x
 exact aF.wt_mk v0 v1 v2 v3 v4 v5
theorem aU.wt_mk(v0:ByteArray)(v1:LB)(v2:Bool)(v3:Bool)(v4:List aF):wt (aU.mk v0 v1 v2 v3 v4)=v0.size+wl v1+wl v4:=by
 show Tr.bulkL (aU.tr (.mk v0 v1 v2 v3 v4))=_
 rw [aU.bk_mk]
 simp only [I8,aF.wl_bulk]
 try rfl
theorem aU.wt_eq(x:aU):wt x=x.aB3.size+wl x.aCc+wl x.aCp:=by
 obtain⟨v0,v1,v2,v3,v4⟩:=x
 exact aU.wt_mk v0 v1 v2 v3 v4
theorem aN.wt_mk(v0:ByteArray)(v1:LB)(v2:List aD):wt (aN.mk v0 v1 v2)=v0.size+wl v1+wl v2:=by
 show Tr.bulkL (aN.tr (.mk v0 v1 v2))=_
 rw [aN.bk_mk]
 simp only [I8,aD.wl_bulk]
 try rfl
theorem aN.wt_eq(x:aN):wt x=x.aB3.size+wl x.aCg+wl x.aB8:=by
 obtain⟨v0,v1,v2⟩:=x
 exact aN.wt_mk v0 v1 v2
theorem aI.wt_mk(v0:ByteArray)(v1:LB)(v2:aA)(v3:List aG)(v4:Bool)(v5:Bool)(v6:aA)(v7:List aQ):wt (aI.mk v0 v1 v2 v3 v4 v5 v6 v7)=v0.size+wl v1+wt v2+wl v3+wt v6+wl v7:=by
 show Tr.bulkL (aI.tr (.mk v0 v1 v2 v3 v4 v5 v6 v7))=_
 rw [aI.bk_mk]
 simp only [I8,aG.wl_bulk,aQ.wl_bulk]
 try rfl
theorem aI.wt_eq(x:aI):wt x=x.aCa.size+wl x.aCg+wt x.aCh+wl x.aCk+wt x.aCj+wl x.aCu:=by
 obtain⟨v0,v1,v2,v3,v4,v5,v6,v7⟩:=x
 exact aI.wt_mk v0 v1 v2 v3 v4 v5 v6 v7
theorem aP.wt_mk(v0:ByteArray)(v1:LB)(v2:List aG)(v3:List aV)(v4:aA)(v5:aL):wt (aP.mk v0 v1 v2 v3 v4 v5)=v0.size+wl v1+wl v2+wl v3+wt v4+wt v5:=by
 show Tr.bulkL (aP.tr (.mk v0 v1 v2 v3 v4 v5))=_
 rw [aP.bk_mk]
 simp only [I8,aG.wl_bulk,aV.wl_bulk]
 try rfl
theorem aP.wt_eq(x:aP):wt x=x.aB3.size+wl x.aCg+wl x.aCk+wl x.aCn+wt x.aCl+wt x.aCd:=by
 obtain⟨v0,v1,v2,v3,v4,v5⟩:=x
 exact aP.wt_mk v0 v1 v2 v3 v4 v5
theorem aM.wt_mk(v0:ByteArray)(v1:LB)(v2:List aU)(v3:List aN)(v4:List aI)(v5:List aP):wt (aM.mk v0 v1 v2 v3 v4 v5)=v0.size+wl v1+wl v2+wl v3+wl v4+wl v5:=by
 show Tr.bulkL (aM.tr (.mk v0 v1 v2 v3 v4 v5))=_
 rw [aM.bk_mk]
 simp only [I8,aU.wl_bulk,aN.wl_bulk,aI.wl_bulk,aP.wl_bulk]
 try rfl
theorem aM.wt_eq(x:aM):wt x=x.aB3.size+wl x.aCE+wl x.aCi+wl x.aCb+wl x.aCe+wl x.aCr:=by
 obtain⟨v0,v1,v2,v3,v4,v5⟩:=x
 exact aM.wt_mk v0 v1 v2 v3 v4 v5
theorem aE.wt_mk(v0:List aM):wt (aE.mk v0)=wl v0:=by
 show Tr.bulkL (aE.tr (.mk v0))=_
 rw [aE.bk_mk]
 simp only [aM.wl_bulk]
 try rfl
theorem aE.wt_eq(x:aE):wt x=wl x.aB2:=by
 obtain⟨v0⟩:=x
 exact aE.wt_mk v0
theorem aB.wt_mk(v0:ByteArray)(v1:List aB):wt (aB.mk v0 v1)=v0.size+wl v1:=by
 show Tr.bulkL (aB.tr (.mk v0 v1))=_
 rw [aB.bk_mk]
 simp only [aB.wl_bulk]
 try rfl
theorem aB.wt_eq(x:aB):wt x=x.aB9.size+wl x.aB6:=by
 obtain⟨v0,v1⟩:=x
 exact aB.wt_mk v0 v1
end Go.Proofs.YtfcoaagbccmahaaGreat
