/- Words, rules and walks of several kinds, laid together. No conditions but those that each theorem states. -/
import Derived.Test.YtfcoaagbccmahaaGreatQh8b529699
set_option linter.unusedSimpArgs false
set_option linter.unusedVariables false
namespace Go.Proofs.YtfcoaagbccmahaaGreat.W
set_option maxRecDepth 100000
set_option maxHeartbeats 40000000
noncomputable section
open Tryz Go.RowKit Go.Proofs
attribute [local irreducible] lt
abbrev K6:=DS→(LB)→Int→Option (aA×DS)
def QU(m:K6):Prop:= ∀(pc:DS) (p4:LB) (p3:Int) (r:aA×DS),m pc p4 p3=some r→BO prog 131 [.ptr 0 0,rS p4,pI p3] ⟨[some ⟨133,dC pc⟩],[]⟩ [some ⟨133,dC r.2⟩] 30 3 (aA.trs (r.1.aD5)) (fun k=> .agg [pI r.1.aD8,pS r.1.aD4,iY r.1.aD5 k])
theorem YU{m:K6}(h:QU m)(pc:DS)(p4:LB)(p3:Int)(r:aA×DS)(H:m pc p4 p3=some r):cF prog 131 [.ptr 0 0,rS p4,pI p3] ⟨[some ⟨133,dC pc⟩],[]⟩ (fun q t=>q=((aA.pv r.1):PV)∧t=⟨[some ⟨133,dC r.2⟩],[]⟩):=(h pc p4 p3 r H).plain (fun _=>kA) (hp:=ap4)
def VP(fu:Nat)(p9:K6)(pc:DS)(p4:LB)(p3:Int):J (aA×DS):=lt (pc.after 8) fun d1=>sw (decide ((pc.below 8:Int)<3)) (sw (decide ((p4.length:Int)>0)) (lt (d1.after p4.length) fun d5=>gd (d1.below p4.length<(p4).length) (bd (nN fu (aR p4 (d1.below p4.length))) fun x9=>some ((aA.mk x9.aD8 x9.aD4 x9.aD5),d5))) (sw (decide ((pc.below 8:Int)<5)) (lt (d1.after ([eY,eQ,j9]:LB).length) fun d11=>lt (d1.pick ([eY,eQ,j9]:LB)) fun y13=>bd (gW fu y13 ([])) fun x16=>some ((aA.mk x16.aD8 x16.aD4 x16.aD5),d11)) (sw (decide (p3≤0)) (lt (d1.after ([eY,eQ,j9]:LB).length) fun d18=>lt (d1.pick ([eY,eQ,j9]:LB)) fun y20=>bd (gW fu y20 ([])) fun x23=>some ((aA.mk x23.aD8 x23.aD4 x23.aD5),d18)) (sw (decide ((pc.below 8:Int)=5)) (bd (p9 d1 p4 (aW (p3-1))) fun(x26,x27)=>bd (p9 x27 p4 (aW (p3-1))) fun(x29,x30)=>bd (gW fu uQ ([(aA.mk x26.aD8 x26.aD4 x26.aD5),(aA.mk x29.aD8 x29.aD4 x29.aD5)]:Z aA)) fun x32=>some ((aA.mk x32.aD8 x32.aD4 x32.aD5),x30)) (lt (d1.after ([cM,cM,zB]:LB).length) fun d33=>lt (d1.pick ([cM,cM,zB]:LB)) fun y35=>bd (p9 d33 p4 (aW (p3-1))) fun(x38,x39)=>bd (gW fu y35 ([(aA.mk x38.aD8 x38.aD4 x38.aD5)]:Z aA)) fun x41=>some ((aA.mk x41.aD8 x41.aD4 x41.aD5),x39)))))) (sw (decide ((pc.below 8:Int)<5)) (lt (d1.after ([eY,eQ,j9]:LB).length) fun d43=>lt (d1.pick ([eY,eQ,j9]:LB)) fun y45=>bd (gW fu y45 ([])) fun x48=>some ((aA.mk x48.aD8 x48.aD4 x48.aD5),d43)) (sw (decide (p3≤0)) (lt (d1.after ([eY,eQ,j9]:LB).length) fun d50=>lt (d1.pick ([eY,eQ,j9]:LB)) fun y52=>bd (gW fu y52 ([])) fun x55=>some ((aA.mk x55.aD8 x55.aD4 x55.aD5),d50)) (sw (decide ((pc.below 8:Int)=5)) (bd (p9 d1 p4 (aW (p3-1))) fun(x58,x59)=>bd (p9 x59 p4 (aW (p3-1))) fun(x61,x62)=>bd (gW fu uQ ([(aA.mk x58.aD8 x58.aD4 x58.aD5),(aA.mk x61.aD8 x61.aD4 x61.aD5)]:Z aA)) fun x64=>some ((aA.mk x64.aD8 x64.aD4 x64.aD5),x62)) (lt (d1.after ([cM,cM,zB]:LB).length) fun d65=>lt (d1.pick ([cM,cM,zB]:LB)) fun y67=>bd (p9 d65 p4 (aW (p3-1))) fun(x70,x71)=>bd (gW fu y67 ([(aA.mk x70.aD8 x70.aD4 x70.aD5)]:Z aA)) fun x73=>some ((aA.mk x73.aD8 x73.aD4 x73.aD5),x71)))))
theorem alF(fu:Nat)(p9:K6)(pA:QU p9):QU (VP fu p9):=by
 intro pc p4 p3 r H
 unfold BO
 refine qJ func131 H (fun C hC H=>?_)
 refine gQ 7 ?_;refine gI H fun d1 h2 H=>(q1 (fJ [0] [] func73 (IF h2 (gF pc 8))) ?_)
 refine gQ 9 ?_;refine dK 13 H (fun g3 H=>?_) fun g3 H=>?_
 ·have g3n:pc.below 8<3:=by have:=of_decide_eq_true g3;omega
  refine gQ 6 ?_;refine bE H (fun h4 H=>?_) (fun h4 H=>?_)
  ·refine gQ 6 ?_;refine gI H fun d5 h6 H=>(q1 (fJ [0] [] func73 (IF h6 (gF d1 p4.length))) (cK H fun z7 H=>?_))
   refine gQ 2 ?_;refine bM H fun x9 z8 H=>(q1 (bC.callOwn (pre:=⟨[],[]⟩) (B:= []) (R:=fun k=> .agg [pI x9.aD8,pS x9.aD4,iY x9.aD5 k]) (ps:= [_]) (qs:= [pS (aR p4 (d1.below p4.length))]) [] rfl rfl func137 (by kernel_rfl) rfl rfl rfl (fK.of trivial trivial (by decide) (by decide)) rfl kA rfl rfl rfl (fun k k'=>(.agg (.cons (.free _ rfl) (.cons (.free _ rfl) (.cons Mv.acc HZ.nil))))) (kX fu (aR p4 (d1.below p4.length)) _ z8)) ?_)
   refine gQ 2 ?_;refine c7.ret ?_
   obtain rfl:_=r:=(wL H:)
   exact XH (st':=⟨[some ⟨133,dC d5⟩],[⟨30,3,aA.trs (x9.aD5),false⟩]⟩) ⟨0,rfl,rfl,rfl⟩ (hr:=⟨⟨_,_,_,rfl,rfl,L7.h,rfl,rfl⟩,trivial⟩)
  refine gQ 5 ?_;refine dK 29 H (fun g10 H=>?_) fun g10 H=>?_
  ·have g10n:pc.below 8<5:=by have:=of_decide_eq_true g10;omega
   refine gQ 9 ?_;refine q1 (iQ ([eY,eQ,j9]:LB)) (gI H fun d11 h12 H=>(gI H fun y13 h14 H=>(q1 (fJ [0] [] func48 (MF h12 h14 (fM d1 ([eY,eQ,j9]:LB) (by decide)))) (bM H fun x16 z15 H=>(q1 (bC.callOwn (pre:=⟨[],[]⟩) (B:= []) (R:=fun k=> .agg [pI x16.aD8,pS x16.aD4,iY x16.aD5 k]) (ps:= [_,_]) (qs:= [pS y13,_]) [] rfl rfl func47 (by kernel_rfl) rfl rfl rfl (fK.of trivial trivial (by decide) (by decide)) rfl kA rfl rfl rfl (fun k k'=>(.agg (.cons (.free _ rfl) (.cons (.free _ rfl) (.cons Mv.acc HZ.nil))))) (jJ fu y13 ([]) _ z15)) ?_)))))
   refine gQ 2 ?_;refine c7.ret ?_
   obtain rfl:_=r:=(wL H:)
   exact XH (st':=⟨[some ⟨133,dC d11⟩],[⟨30,3,aA.trs (x16.aD5),false⟩]⟩) ⟨0,rfl,rfl,rfl⟩ (hr:=⟨⟨_,_,_,rfl,rfl,L7.h,rfl,rfl⟩,trivial⟩)
  refine gQ 5 ?_;refine bE H (fun h17 H=>?_) (fun h17 H=>?_)
  ·refine gQ 3 ?_;refine q1 (iQ ([eY,eQ,j9]:LB)) (gI H fun d18 h19 H=>(gI H fun y20 h21 H=>(q1 (fJ [0] [] func48 (MF h19 h21 (fM d1 ([eY,eQ,j9]:LB) (by decide)))) (bM H fun x23 z22 H=>(q1 (bC.callOwn (pre:=⟨[],[]⟩) (B:= []) (R:=fun k=> .agg [pI x23.aD8,pS x23.aD4,iY x23.aD5 k]) (ps:= [_,_]) (qs:= [pS y20,_]) [] rfl rfl func47 (by kernel_rfl) rfl rfl rfl (fK.of trivial trivial (by decide) (by decide)) rfl kA rfl rfl rfl (fun k k'=>(.agg (.cons (.free _ rfl) (.cons (.free _ rfl) (.cons Mv.acc HZ.nil))))) (jJ fu y20 ([]) _ z22)) ?_)))))
   refine gQ 2 ?_;refine c7.ret ?_
   obtain rfl:_=r:=(wL H:)
   exact XH (st':=⟨[some ⟨133,dC d18⟩],[⟨30,3,aA.trs (x23.aD5),false⟩]⟩) ⟨0,rfl,rfl,rfl⟩ (hr:=⟨⟨_,_,_,rfl,rfl,L7.h,rfl,rfl⟩,trivial⟩)
  refine gQ 6 ?_;refine bE H (fun h24 H=>?_) (fun h24 H=>?_)
  ·refine gQ 6 ?_;refine eO H fun x26 x27 z25 H=>(q1 (bC.callOwn (pre:=⟨[some ⟨133,dC d1⟩],[]⟩) (B:= [some ⟨133,dC x27⟩]) (R:=fun k=> .agg [pI x26.aD8,pS x26.aD4,iY x26.aD5 k]) (ps:= [_,_,_]) (qs:= [.ptr 0 0,rS p4,pI (aW (p3-1))]) [0] rfl rfl func131 (by kernel_rfl) rfl rfl rfl (fK.of ⟨⟨_,rfl,rfl,kA,rfl⟩,trivial⟩ trivial (by decide) (by decide)) rfl kA rfl rfl rfl (fun k k'=>(.agg (.cons (.free _ rfl) (.cons (.free _ rfl) (.cons Mv.acc HZ.nil))))) (pA d1 p4 (aW (p3-1)) _ z25)) ?_)
   refine gQ 4 ?_;refine eO H fun x29 x30 z28 H=>(q1 (bC.callOwn (pre:=⟨[some ⟨133,dC x27⟩],[]⟩) (B:= [some ⟨133,dC x30⟩]) (R:=fun k=> .agg [pI x29.aD8,pS x29.aD4,iY x29.aD5 k]) (ps:= [_,_,_]) (qs:= [.ptr 0 0,rS p4,pI (aW (p3-1))]) [0] rfl rfl func131 (by kernel_rfl) rfl rfl rfl (fK.of ⟨⟨_,rfl,rfl,kA,rfl⟩,trivial⟩ trivial (by decide) (by decide)) rfl kA rfl rfl rfl (fun k k'=>(.agg (.cons (.free _ rfl) (.cons (.free _ rfl) (.cons Mv.acc HZ.nil))))) (pA x27 p4 (aW (p3-1)) _ z28)) (q1 (sA ([(aA.mk x26.aD8 x26.aD4 x26.aD5),(aA.mk x29.aD8 x29.aD4 x29.aD5)]:Z aA)) (bM H fun x32 z31 H=>(q1 (bC.callOwn (pre:=⟨[],[]⟩) (B:= []) (R:=fun k=> .agg [pI x32.aD8,pS x32.aD4,iY x32.aD5 k]) (ps:= [_,_]) (qs:= [pS uQ,aT ([(aA.mk x26.aD8 x26.aD4 x26.aD5),(aA.mk x29.aD8 x29.aD4 x29.aD5)]:Z aA)]) [] rfl rfl func47 (by kernel_rfl) rfl rfl rfl (fK.of trivial trivial (by decide) (by decide)) rfl kA rfl rfl rfl (fun k k'=>(.agg (.cons (.free _ rfl) (.cons (.free _ rfl) (.cons Mv.acc HZ.nil))))) (jJ fu uQ ([(aA.mk x26.aD8 x26.aD4 x26.aD5),(aA.mk x29.aD8 x29.aD4 x29.aD5)]:Z aA) _ z31)) ?_))))
   refine gQ 2 ?_;refine c7.ret ?_
   obtain rfl:_=r:=(wL H:)
   exact XH (st':=⟨[some ⟨133,dC x30⟩],[⟨30,3,aA.trs (x26.aD5),false⟩,⟨30,3,aA.trs (x29.aD5),false⟩,⟨30,3,aA.trs (([(aA.mk x26.aD8 x26.aD4 x26.aD5),(aA.mk x29.aD8 x29.aD4 x29.aD5)]:Z aA)),false⟩,⟨30,3,aA.trs (x32.aD5),false⟩]⟩) ⟨3,rfl,rfl,rfl⟩ (hr:=⟨⟨_,_,_,rfl,rfl,L7.h,rfl,rfl⟩,trivial⟩)
  refine gQ 4 ?_;refine q1 (iQ ([cM,cM,zB]:LB)) (gI H fun d33 h34 H=>(gI H fun y35 h36 H=>(q1 (fJ [0] [] func48 (MF h34 h36 (fM d1 ([cM,cM,zB]:LB) (by decide)))) ?_)))
  refine gQ 4 ?_;refine eO H fun x38 x39 z37 H=>(q1 (bC.callOwn (pre:=⟨[some ⟨133,dC d33⟩],[]⟩) (B:= [some ⟨133,dC x39⟩]) (R:=fun k=> .agg [pI x38.aD8,pS x38.aD4,iY x38.aD5 k]) (ps:= [_,_,_]) (qs:= [.ptr 0 0,rS p4,pI (aW (p3-1))]) [0] rfl rfl func131 (by kernel_rfl) rfl rfl rfl (fK.of ⟨⟨_,rfl,rfl,kA,rfl⟩,trivial⟩ trivial (by decide) (by decide)) rfl kA rfl rfl rfl (fun k k'=>(.agg (.cons (.free _ rfl) (.cons (.free _ rfl) (.cons Mv.acc HZ.nil))))) (pA d33 p4 (aW (p3-1)) _ z37)) (q1 (sA ([(aA.mk x38.aD8 x38.aD4 x38.aD5)]:Z aA)) (bM H fun x41 z40 H=>(q1 (bC.callOwn (pre:=⟨[],[]⟩) (B:= []) (R:=fun k=> .agg [pI x41.aD8,pS x41.aD4,iY x41.aD5 k]) (ps:= [_,_]) (qs:= [pS y35,aT ([(aA.mk x38.aD8 x38.aD4 x38.aD5)]:Z aA)]) [] rfl rfl func47 (by kernel_rfl) rfl rfl rfl (fK.of trivial trivial (by decide) (by decide)) rfl kA rfl rfl rfl (fun k k'=>(.agg (.cons (.free _ rfl) (.cons (.free _ rfl) (.cons Mv.acc HZ.nil))))) (jJ fu y35 ([(aA.mk x38.aD8 x38.aD4 x38.aD5)]:Z aA) _ z40)) ?_))))
  refine gQ 2 ?_;refine c7.ret ?_
  obtain rfl:_=r:=(wL H:)
  exact XH (st':=⟨[some ⟨133,dC x39⟩],[⟨30,3,aA.trs (x38.aD5),false⟩,⟨30,3,aA.trs (([(aA.mk x38.aD8 x38.aD4 x38.aD5)]:Z aA)),false⟩,⟨30,3,aA.trs (x41.aD5),false⟩]⟩) ⟨2,rfl,rfl,rfl⟩ (hr:=⟨⟨_,_,_,rfl,rfl,L7.h,rfl,rfl⟩,trivial⟩)
 refine gQ 12 ?_;refine dK 29 H (fun g42 H=>?_) fun g42 H=>?_
 ·have g42n:pc.below 8<5:=by have:=of_decide_eq_true g42;omega
  refine gQ 9 ?_;refine q1 (iQ ([eY,eQ,j9]:LB)) (gI H fun d43 h44 H=>(gI H fun y45 h46 H=>(q1 (fJ [0] [] func48 (MF h44 h46 (fM d1 ([eY,eQ,j9]:LB) (by decide)))) (bM H fun x48 z47 H=>(q1 (bC.callOwn (pre:=⟨[],[]⟩) (B:= []) (R:=fun k=> .agg [pI x48.aD8,pS x48.aD4,iY x48.aD5 k]) (ps:= [_,_]) (qs:= [pS y45,_]) [] rfl rfl func47 (by kernel_rfl) rfl rfl rfl (fK.of trivial trivial (by decide) (by decide)) rfl kA rfl rfl rfl (fun k k'=>(.agg (.cons (.free _ rfl) (.cons (.free _ rfl) (.cons Mv.acc HZ.nil))))) (jJ fu y45 ([]) _ z47)) ?_)))))
  refine gQ 2 ?_;refine c7.ret ?_
  obtain rfl:_=r:=(wL H:)
  exact XH (st':=⟨[some ⟨133,dC d43⟩],[⟨30,3,aA.trs (x48.aD5),false⟩]⟩) ⟨0,rfl,rfl,rfl⟩ (hr:=⟨⟨_,_,_,rfl,rfl,L7.h,rfl,rfl⟩,trivial⟩)
 refine gQ 5 ?_;refine bE H (fun h49 H=>?_) (fun h49 H=>?_)
 ·refine gQ 3 ?_;refine q1 (iQ ([eY,eQ,j9]:LB)) (gI H fun d50 h51 H=>(gI H fun y52 h53 H=>(q1 (fJ [0] [] func48 (MF h51 h53 (fM d1 ([eY,eQ,j9]:LB) (by decide)))) (bM H fun x55 z54 H=>(q1 (bC.callOwn (pre:=⟨[],[]⟩) (B:= []) (R:=fun k=> .agg [pI x55.aD8,pS x55.aD4,iY x55.aD5 k]) (ps:= [_,_]) (qs:= [pS y52,_]) [] rfl rfl func47 (by kernel_rfl) rfl rfl rfl (fK.of trivial trivial (by decide) (by decide)) rfl kA rfl rfl rfl (fun k k'=>(.agg (.cons (.free _ rfl) (.cons (.free _ rfl) (.cons Mv.acc HZ.nil))))) (jJ fu y52 ([]) _ z54)) ?_)))))
  refine gQ 2 ?_;refine c7.ret ?_
  obtain rfl:_=r:=(wL H:)
  exact XH (st':=⟨[some ⟨133,dC d50⟩],[⟨30,3,aA.trs (x55.aD5),false⟩]⟩) ⟨0,rfl,rfl,rfl⟩ (hr:=⟨⟨_,_,_,rfl,rfl,L7.h,rfl,rfl⟩,trivial⟩)
 refine gQ 6 ?_;refine bE H (fun h56 H=>?_) (fun h56 H=>?_)
 ·refine gQ 6 ?_;refine eO H fun x58 x59 z57 H=>(q1 (bC.callOwn (pre:=⟨[some ⟨133,dC d1⟩],[]⟩) (B:= [some ⟨133,dC x59⟩]) (R:=fun k=> .agg [pI x58.aD8,pS x58.aD4,iY x58.aD5 k]) (ps:= [_,_,_]) (qs:= [.ptr 0 0,rS p4,pI (aW (p3-1))]) [0] rfl rfl func131 (by kernel_rfl) rfl rfl rfl (fK.of ⟨⟨_,rfl,rfl,kA,rfl⟩,trivial⟩ trivial (by decide) (by decide)) rfl kA rfl rfl rfl (fun k k'=>(.agg (.cons (.free _ rfl) (.cons (.free _ rfl) (.cons Mv.acc HZ.nil))))) (pA d1 p4 (aW (p3-1)) _ z57)) ?_)
  refine gQ 4 ?_;refine eO H fun x61 x62 z60 H=>(q1 (bC.callOwn (pre:=⟨[some ⟨133,dC x59⟩],[]⟩) (B:= [some ⟨133,dC x62⟩]) (R:=fun k=> .agg [pI x61.aD8,pS x61.aD4,iY x61.aD5 k]) (ps:= [_,_,_]) (qs:= [.ptr 0 0,rS p4,pI (aW (p3-1))]) [0] rfl rfl func131 (by kernel_rfl) rfl rfl rfl (fK.of ⟨⟨_,rfl,rfl,kA,rfl⟩,trivial⟩ trivial (by decide) (by decide)) rfl kA rfl rfl rfl (fun k k'=>(.agg (.cons (.free _ rfl) (.cons (.free _ rfl) (.cons Mv.acc HZ.nil))))) (pA x59 p4 (aW (p3-1)) _ z60)) (q1 (sA ([(aA.mk x58.aD8 x58.aD4 x58.aD5),(aA.mk x61.aD8 x61.aD4 x61.aD5)]:Z aA)) (bM H fun x64 z63 H=>(q1 (bC.callOwn (pre:=⟨[],[]⟩) (B:= []) (R:=fun k=> .agg [pI x64.aD8,pS x64.aD4,iY x64.aD5 k]) (ps:= [_,_]) (qs:= [pS uQ,aT ([(aA.mk x58.aD8 x58.aD4 x58.aD5),(aA.mk x61.aD8 x61.aD4 x61.aD5)]:Z aA)]) [] rfl rfl func47 (by kernel_rfl) rfl rfl rfl (fK.of trivial trivial (by decide) (by decide)) rfl kA rfl rfl rfl (fun k k'=>(.agg (.cons (.free _ rfl) (.cons (.free _ rfl) (.cons Mv.acc HZ.nil))))) (jJ fu uQ ([(aA.mk x58.aD8 x58.aD4 x58.aD5),(aA.mk x61.aD8 x61.aD4 x61.aD5)]:Z aA) _ z63)) ?_))))
  refine gQ 2 ?_;refine c7.ret ?_
  obtain rfl:_=r:=(wL H:)
  exact XH (st':=⟨[some ⟨133,dC x62⟩],[⟨30,3,aA.trs (x58.aD5),false⟩,⟨30,3,aA.trs (x61.aD5),false⟩,⟨30,3,aA.trs (([(aA.mk x58.aD8 x58.aD4 x58.aD5),(aA.mk x61.aD8 x61.aD4 x61.aD5)]:Z aA)),false⟩,⟨30,3,aA.trs (x64.aD5),false⟩]⟩) ⟨3,rfl,rfl,rfl⟩ (hr:=⟨⟨_,_,_,rfl,rfl,L7.h,rfl,rfl⟩,trivial⟩)
 refine gQ 4 ?_;refine q1 (iQ ([cM,cM,zB]:LB)) (gI H fun d65 h66 H=>(gI H fun y67 h68 H=>(q1 (fJ [0] [] func48 (MF h66 h68 (fM d1 ([cM,cM,zB]:LB) (by decide)))) ?_)))
 refine gQ 4 ?_;refine eO H fun x70 x71 z69 H=>(q1 (bC.callOwn (pre:=⟨[some ⟨133,dC d65⟩],[]⟩) (B:= [some ⟨133,dC x71⟩]) (R:=fun k=> .agg [pI x70.aD8,pS x70.aD4,iY x70.aD5 k]) (ps:= [_,_,_]) (qs:= [.ptr 0 0,rS p4,pI (aW (p3-1))]) [0] rfl rfl func131 (by kernel_rfl) rfl rfl rfl (fK.of ⟨⟨_,rfl,rfl,kA,rfl⟩,trivial⟩ trivial (by decide) (by decide)) rfl kA rfl rfl rfl (fun k k'=>(.agg (.cons (.free _ rfl) (.cons (.free _ rfl) (.cons Mv.acc HZ.nil))))) (pA d65 p4 (aW (p3-1)) _ z69)) (q1 (sA ([(aA.mk x70.aD8 x70.aD4 x70.aD5)]:Z aA)) (bM H fun x73 z72 H=>(q1 (bC.callOwn (pre:=⟨[],[]⟩) (B:= []) (R:=fun k=> .agg [pI x73.aD8,pS x73.aD4,iY x73.aD5 k]) (ps:= [_,_]) (qs:= [pS y67,aT ([(aA.mk x70.aD8 x70.aD4 x70.aD5)]:Z aA)]) [] rfl rfl func47 (by kernel_rfl) rfl rfl rfl (fK.of trivial trivial (by decide) (by decide)) rfl kA rfl rfl rfl (fun k k'=>(.agg (.cons (.free _ rfl) (.cons (.free _ rfl) (.cons Mv.acc HZ.nil))))) (jJ fu y67 ([(aA.mk x70.aD8 x70.aD4 x70.aD5)]:Z aA) _ z72)) ?_))))
 refine gQ 2 ?_;refine c7.ret ?_
 obtain rfl:_=r:=(wL H:)
 exact XH (st':=⟨[some ⟨133,dC x71⟩],[⟨30,3,aA.trs (x70.aD5),false⟩,⟨30,3,aA.trs (([(aA.mk x70.aD8 x70.aD4 x70.aD5)]:Z aA)),false⟩,⟨30,3,aA.trs (x73.aD5),false⟩]⟩) ⟨2,rfl,rfl,rfl⟩ (hr:=⟨⟨_,_,_,rfl,rfl,L7.h,rfl,rfl⟩,trivial⟩)
def lY:Nat→DS→(LB)→Int→J (aA×DS)
 |0,_,_,_=>none
 |fu+1,pc,p4,p3=>VP fu (lY fu) pc p4 p3
theorem aoT(fu:Nat):QU (lY fu):=by
 induction fu with
 |zero=>exact(fun pc p4 p3 r H=>by simp only [lY] at H;cases H)
 |succ fu ih=>exact(fun pc p4 p3 r H=>by simp only [lY] at H;exact alF fu (lY fu) ih pc p4 p3 r H)
theorem QV(fu:Nat):QU (lY fu):=(aoT fu)
abbrev tI:=aA→Option aA
abbrev nM:=(List aA)→Option ((List aA))
def F2(m:tI):Prop:= ∀(pt:aA) (r:aA),m pt=some r→bS prog 56 [(aA.pv pt)] ((aA.pv r):PV)
def EA(m:nM):Prop:= ∀(p8:Z aA) (r:(Z aA)),m p8=some r→bS prog 111 [aT p8] (aT r:PV)
def K0(fu:Nat)(p6:tI)(p5:nM)(pt:aA):J aA:=bd (p5 pt.aD5) fun x2=>some (aA.mk pt.aD8 pt.aD4 x2)
theorem aeS(fu:Nat)(p6:tI)(p5:nM)(pF:F2 p6)(pD:EA p5):F2 (K0 fu p6 p5):=by
 intro pt r H
 refine qJ func56 H (fun C hC H=>?_)
 refine gQ 2 ?_;refine q1 (fN (b7 pt)) ?_;refine gQ 3 ?_;refine bM H fun x2 z1 H=>(dW (dI [1] bY (dD [3] eI (dI [1] bY (dD [5] eI (dI [1] bY (dD [7] eI (dI [8] (bI func111 (pD pt.aD5 _ z1)) (dI [4,6,9] rR (mK [2,10] lT (dN ?_)))))))))))
 exact gE 0
def HU(fu:Nat)(p6:tI)(p5:nM)(p8:Z aA):Nat→((Z aA))→J (LR ((Z aA)) ((Z aA))):=fun i1 v3=>bd (p6 (aR p8 i1)) fun x7=>gd ((v3).length+(([x7]:Z aA)).length≤68719476736) (some (.next (v3++([x7]:Z aA))))
def zI(fu:Nat)(p6:tI)(p5:nM)(p8:Z aA):J ((Z aA)):=so (loopN (HU fu p6 p5 p8) (p8.length-0) 0 ([])) fun v3=>some v3
theorem YO(fu:Nat)(p6:tI)(p5:nM)(pF:F2 p6)(pD:EA p5):EA (zI fu p6 p5):=by
 intro p8 r H
 refine qJ func111 H (fun C hC H=>?_)
 refine gQ 6 ?_;refine q1 (sA ([]:Z aA)) ?_;refine gQ 7 ?_;refine gM 0 (aA.trs_len _) (fun hl4=>?_)
 refine bV (σ:=(Z aA)) (fun i1 v3=>⟨[(0,aT p8),(2,.nil),(3,iY v3 0),(4,pN i1)],⟨[],[⟨30,3,aA.trs (v3),false⟩]⟩⟩) (fun v3=>⟨[(2,.nil),(3,iY v3 0)],⟨[],[⟨30,3,aA.trs (v3),false⟩]⟩⟩) (eX H) ?_ ?_
 ·rintro i1 v3 H
  refine gQ 8 ?_;refine c5 H (fun h5 h5l H=>?_) (fun h5 H=>?_)
  ·refine gQ 8 ?_;refine q1 (iR (aA.cs (aR p8 i1))) (bM H fun x7 z6 H=>(q1 (bI func56 (pF (aR p8 i1) _ z6)) (q1 (iQ ([x7]:Z aA)) (cK H fun z8 H=>(q1 (mA z8) ?_)))))
   exact gE 7
  exact gE 0
 rintro v3 H
 exact gE 5
mutual
def iS:Nat→aA→J aA
 |0,_=>none
 |fu+1,pt=>K0 fu (iS fu) (iP fu) pt
def iP:Nat→(Z aA)→J ((Z aA))
 |0,_=>none
 |fu+1,p8=>zI fu (iS fu) (iP fu) p8
end
theorem aiH(fu:Nat):F2 (iS fu)∧EA (iP fu):=by
 induction fu with
 |zero=>exact⟨(fun pt r H=>by simp only [iS] at H;cases H),(fun p8 r H=>by simp only [iP] at H;cases H)⟩
 |succ fu ih=>exact⟨(fun pt r H=>by simp only [iS] at H;exact aeS fu (iS fu) (iP fu) ih.1 ih.2 pt r H),(fun p8 r H=>by simp only [iP] at H;exact YO fu (iS fu) (iP fu) ih.1 ih.2 p8 r H)⟩
theorem YP(fu:Nat):F2 (iS fu):=(aiH fu).1
def aoS(m:Y→aA→J aA):Prop:= ∀(pE:Y) (pt:aA) (r:aA),m pE pt=some r→BO prog 139 [pS pE,(aA.pv pt)] ⟨[],[]⟩ [] 30 3 (aA.trs (r.aD5)) (fun k=> .agg [pI r.aD8,pS r.aD4,iY r.aD5 k])
def F4(fu:Nat)(pE:Y)(pt:aA):J aA:=bd (iS fu pt) fun x2=>some (aA.mk 3 pE ([x2]:Z aA))
theorem YT(fu:Nat):aoS (F4 fu):=by
 intro pE pt r H
 unfold BO
 refine qJ func139 H (fun C hC H=>?_)
 refine gQ 2 ?_;refine q1 (fN (b7 pt)) ?_;refine gQ 5 ?_;refine q1 (b5 [pI pt.aD8,pS pt.aD4,aT pt.aD5]) (bM H fun x2 z1 H=>(q1 (bI func56 (YP fu pt _ z1)) (q1 (sA ([x2]:Z aA)) ?_)))
 refine gQ 3 ?_;refine c7.ret ?_
 obtain rfl:_=r:=(wL H:)
 exact XH (st':=⟨[],[⟨30,3,aA.trs (([x2]:Z aA)),false⟩]⟩) ⟨0,rfl,rfl,rfl⟩ (hr:=⟨⟨_,_,_,rfl,rfl,L7.h,rfl,rfl⟩,trivial⟩)
def abY(m:DS→Int→J (aA×DS)):Prop:= ∀(pc:DS) (p3:Int) (r:aA×DS),m pc p3=some r→BO prog 132 [.ptr 0 0,pI p3] ⟨[some ⟨133,dC pc⟩],[]⟩ [some ⟨133,dC r.2⟩] 30 3 (aA.trs (r.1.aD5)) (fun k=> .agg [pI r.1.aD8,pS r.1.aD4,iY r.1.aD5 k])
theorem xX{m:DS→Int→J (aA×DS)}(h:abY m)(pc:DS)(p3:Int)(r:aA×DS)(H:m pc p3=some r):cF prog 132 [.ptr 0 0,pI p3] ⟨[some ⟨133,dC pc⟩],[]⟩ (fun q t=>q=((aA.pv r.1):PV)∧t=⟨[some ⟨133,dC r.2⟩],[]⟩):=(h pc p3 r H).plain (fun _=>kA) (hp:=ap4)
def rN(fu:Nat)(pc:DS)(p3:Int):J (aA×DS):=bd (lY fu pc ([gA,AD]:LB) p3) fun(x2,x3)=>lt (x3.after 8) fun d4=>sw (decide ((x3.below 8:Int)=0)) (lt (d4.after ([eB,bD]:LB).length) fun d7=>lt (d4.pick ([eB,bD]:LB)) fun y9=>bd (F4 fu y9 (aA.mk x2.aD8 x2.aD4 x2.aD5)) fun x12=>some ((aA.mk x12.aD8 x12.aD4 x12.aD5),d7)) (sw (decide ((x3.below 8:Int)=1)) (bd (F4 fu eB (aA.mk x2.aD8 x2.aD4 x2.aD5)) fun x15=>bd (gW fu cM ([(aA.mk x15.aD8 x15.aD4 x15.aD5)]:Z aA)) fun x17=>some ((aA.mk x17.aD8 x17.aD4 x17.aD5),d4)) (sw (decide ((x3.below 8:Int)=2)) (some ((aA.mk 4 bD []),d4)) (some ((aA.mk x2.aD8 x2.aD4 x2.aD5),d4))))
theorem xW(fu:Nat):abY (rN fu):=by
 intro pc p3 r H
 unfold BO
 refine qJ func132 H (fun C hC H=>?_)
 refine gQ 7 ?_;refine q1 (iQ ([gA,AD]:LB)) (q1 bG (eO H fun x2 x3 z1 H=>(q1 (bC.callOwn (pre:=⟨[some ⟨133,dC pc⟩],[]⟩) (B:= [some ⟨133,dC x3⟩]) (R:=fun k=> .agg [pI x2.aD8,pS x2.aD4,iY x2.aD5 k]) (ps:= [_,_,_]) (qs:= [.ptr 0 0,rS ([gA,AD]:LB),pI p3]) [0] rfl rfl func131 (by kernel_rfl) rfl rfl rfl (fK.of ⟨⟨_,rfl,rfl,kA,rfl⟩,trivial⟩ trivial (by decide) (by decide)) rfl kA rfl rfl rfl (fun k k'=>(.agg (.cons (.free _ rfl) (.cons (.free _ rfl) (.cons Mv.acc HZ.nil))))) (QV fu pc ([gA,AD]:LB) p3 _ z1)) ?_)))
 refine gQ 7 ?_;refine gI H fun d4 h5 H=>(q1 (fJ [0] [] func73 (IF h5 (gF x3 8))) ?_)
 refine gQ 7 ?_;refine bE H (fun h6 H=>?_) (fun h6 H=>?_)
 ·refine qS (gI H fun d7 h8 H=>(gI H fun y9 h10 H=>(bM H fun x12 z11 H=>(dW (dI [0] bG (dI [] (iQ ([eB,bD]:LB)) (dE [14,15] (fJ [0] [] func48 (MF h8 h10 (fM d4 ([eB,bD]:LB) (by decide)))) (dB [5] 0 1 (IM [pI x2.aD8,pS x2.aD4,iY x2.aD5 0]) (dE [16,17] (bC.callOwn (pre:=⟨[],[]⟩) (B:= []) (R:=fun k=> .agg [pI x12.aD8,pS x12.aD4,iY x12.aD5 k]) (ps:= [_,_]) (qs:= [pS y9,.agg [pI x2.aD8,pS x2.aD4,aT x2.aD5]]) [] rfl rfl func139 (by kernel_rfl) rfl rfl rfl (fK.of trivial trivial (by decide) (by decide)) rfl kA rfl rfl rfl (fun k k'=>(.agg (.cons (.free _ rfl) (.cons (.free _ rfl) (.cons Mv.acc HZ.nil))))) (YT fu y9 (aA.mk x2.aD8 x2.aD4 x2.aD5) _ z11)) (mK [4,18] lT (dN (c7.ret ?_))))))))))))
  obtain rfl:_=r:=(wL H:)
  exact XH (st':=⟨[some ⟨133,dC d7⟩],[⟨30,3,aA.trs (x2.aD5),false⟩,⟨30,3,aA.trs (x12.aD5),false⟩]⟩) ⟨1,rfl,rfl,rfl⟩ (hr:=⟨⟨_,_,_,rfl,rfl,L7.h,rfl,rfl⟩,trivial⟩)
 refine gQ 5 ?_;refine bE H (fun h13 H=>?_) (fun h13 H=>?_)
 ·refine gQ 2 ?_;refine q1 (b5 [pI x2.aD8,pS x2.aD4,iY x2.aD5 0]) (bM H fun x15 z14 H=>(q1 (bC.callOwn (pre:=⟨[],[]⟩) (B:= []) (R:=fun k=> .agg [pI x15.aD8,pS x15.aD4,iY x15.aD5 k]) (ps:= [_,_]) (qs:= [pS eB,.agg [pI x2.aD8,pS x2.aD4,aT x2.aD5]]) [] rfl rfl func139 (by kernel_rfl) rfl rfl rfl (fK.of trivial trivial (by decide) (by decide)) rfl kA rfl rfl rfl (fun k k'=>(.agg (.cons (.free _ rfl) (.cons (.free _ rfl) (.cons Mv.acc HZ.nil))))) (YT fu eB (aA.mk x2.aD8 x2.aD4 x2.aD5) _ z14)) (q1 (sA ([(aA.mk x15.aD8 x15.aD4 x15.aD5)]:Z aA)) (bM H fun x17 z16 H=>(q1 (bC.callOwn (pre:=⟨[],[]⟩) (B:= []) (R:=fun k=> .agg [pI x17.aD8,pS x17.aD4,iY x17.aD5 k]) (ps:= [_,_]) (qs:= [pS cM,aT ([(aA.mk x15.aD8 x15.aD4 x15.aD5)]:Z aA)]) [] rfl rfl func47 (by kernel_rfl) rfl rfl rfl (fK.of trivial trivial (by decide) (by decide)) rfl kA rfl rfl rfl (fun k k'=>(.agg (.cons (.free _ rfl) (.cons (.free _ rfl) (.cons Mv.acc HZ.nil))))) (jJ fu cM ([(aA.mk x15.aD8 x15.aD4 x15.aD5)]:Z aA) _ z16)) ?_)))))
  refine gQ 2 ?_;refine c7.ret ?_
  obtain rfl:_=r:=(wL H:)
  exact XH (st':=⟨[some ⟨133,dC d4⟩],[⟨30,3,aA.trs (x2.aD5),false⟩,⟨30,3,aA.trs (x15.aD5),false⟩,⟨30,3,aA.trs (([(aA.mk x15.aD8 x15.aD4 x15.aD5)]:Z aA)),false⟩,⟨30,3,aA.trs (x17.aD5),false⟩]⟩) ⟨3,rfl,rfl,rfl⟩ (hr:=⟨⟨_,_,_,rfl,rfl,L7.h,rfl,rfl⟩,trivial⟩)
 refine gQ 5 ?_;refine bE H (fun h18 H=>?_) (fun h18 H=>?_)
 ·refine gQ 5 ?_;refine c7.wk (Wk.regBox (k:=1) (j:=2) 30 3 (by decide) rfl rfl) (c7.ret ?_)
  obtain rfl:_=r:=(wL H:)
  exact XH (st':=⟨[some ⟨133,dC d4⟩],[⟨30,3,aA.trs (x2.aD5),false⟩,⟨30,3,aA.trs ([]),false⟩]⟩) ⟨1,rfl,rfl,rfl⟩ (hr:=⟨⟨_,_,_,rfl,rfl,L7.h,rfl,rfl⟩,trivial⟩)
 refine gQ 3 ?_;refine q1 (b5 [pI x2.aD8,pS x2.aD4,iY x2.aD5 0]) ?_;refine gQ 2 ?_;refine c7.ret ?_
 obtain rfl:_=r:=(wL H:)
 exact XH (st':=⟨[some ⟨133,dC d4⟩],[⟨30,3,aA.trs (x2.aD5),false⟩]⟩) ⟨0,rfl,rfl,rfl⟩ (hr:=⟨⟨_,_,_,rfl,rfl,L7.h,rfl,rfl⟩,trivial⟩)
def wC(fu:Nat)(pk:Int)(pH:Y)(pG:Z aL):J aL:=gd (([]:Z aL).length+(pG).length≤68719476736) (some (aL.mk pk s_ pH 0 (aA.mk 0 s_ []) (([])++pG) []))
theorem xN(fu:Nat)(pk:Int)(pH:Y)(pG:Z aL)(r:aL)(H:wC fu pk pH pG=some r):bS prog 190 [pI pk,pS pH,jF pG] ((aL.pv r)):=by
 refine qJ func190 H (fun C hC H=>?_)
 refine gQ 8 ?_;refine q1 (sA ([]:Z aL)) (q1 bG (cK H fun z1 H=>(q1 (mA z1) ?_)))
 exact gE 3
abbrev uR:=DS→(LB)→Int→Option (aL×DS)
def G0(m:uR):Prop:= ∀(pC:DS) (p7:LB) (p0:Int) (r:aL×DS),m pC p7 p0=some r→cF prog 193 [.ptr 0 0,rS p7,pI p0] ⟨[some ⟨133,dC pC⟩],[]⟩ (fun q t=>q=((aL.pv r.1):PV)∧t=⟨[some ⟨133,dC r.2⟩],[]⟩)
def ahA(fu:Nat)(p1:uR)(pC:DS)(p7:LB)(p0:Int)(d1:DS):J ((aL×DS)⊕Int):=sw (decide (p0≤0)) (some (.inr (((pC.below 13)%3:Nat):Int))) (some (.inr (pC.below 13:Int)))
def ahB(fu:Nat)(p1:uR)(pC:DS)(p7:LB)(p0:Int)(d1:DS)(v3:Int):J ((aL×DS)⊕Bool):=sw (decide (v3=2)) (some (.inr (decide (v3=2)))) (some (.inr (decide (v3=3))))
def N1(fu:Nat)(p1:uR)(pC:DS)(p7:LB)(p0:Int):J (aL×DS):=lt (pC.after 13) fun d1=>so (ahA fu p1 pC p7 p0 d1) fun v3=>sw (decide (v3=1)) (lt (d1.after 2) fun d6=>some ((aL.mk 2 s_ s_ (d1.below 2:Int) (aA.mk 0 s_ []) [] []),d6)) (so (ahB fu p1 pC p7 p0 d1 v3) fun v8=>sw (v8) (sw (decide ((p7.length:Int)>0)) (gd (0<(p7).length) (lt (d1.after p7.length) fun d13=>lt (d1.pick p7) fun y15=>bd (xO fu y15) fun x18=>some (x18,d13))) (lt (d1.after 20) fun d19=>bd (u9 fu (aW ((d1.below 20:Int)-5))) fun x22=>some (x22,d19))) (sw (decide (v3=4)) (lt (d1.after ([s_f,s_g]:LB).length) fun d24=>lt (d1.pick ([s_f,s_g]:LB)) fun y26=>bd (p1 d24 p7 (aW (p0-1))) fun(x29,x30)=>bd (wC fu 4 y26 ([x29]:Z aL)) fun x32=>some (x32,x30)) (sw (decide (v3=5)) (lt (d1.after ([bD,eB]:LB).length) fun d34=>lt (d1.pick ([bD,eB]:LB)) fun y36=>bd (p1 d34 p7 (aW (p0-1))) fun(x39,x40)=>bd (p1 x40 p7 (aW (p0-1))) fun(x42,x43)=>some ((aL.mk 5 y36 fF 0 (aA.mk 0 s_ []) ([x39,x42]:Z aL) []),x43)) (sw (decide (v3=6)) (bd (p1 d1 p7 (aW (p0-1))) fun(x46,x47)=>bd (p1 x47 p7 (aW (p0-1))) fun(x49,x50)=>bd (wC fu 6 cL ([x46,x49]:Z aL)) fun x52=>some (x52,x50)) (sw (decide (v3=7)) (gd (([]:LB).length+(p7).length≤68719476736) (gd ((([])++p7).length+(([s_h,s_t]:LB)).length≤68719476736) (bd (p1 d1 p7 (aW (p0-1))) fun(x57,x58)=>bd (p1 x58 p7 (aW (p0-1))) fun(x60,x61)=>bd (p1 x61 ((([])++p7)++([s_h,s_t]:LB)) (aW (p0-1))) fun(x63,x64)=>some ((aL.mk 7 s_ s_ 0 (aA.mk 0 s_ []) ([x57]:Z aL) ([(bW.mk gL [] x60),(bW.mk cL ([s_h,s_t]:LB) x63)]:Z bW)),x64)))) (sw (decide (v3=8)) (bd (p1 d1 p7 (aW (p0-1))) fun(x67,x68)=>gd (([]:LB).length+(p7).length≤68719476736) (gd ((([])++p7).length+(([tG]:LB)).length≤68719476736) (bd (p1 x68 ((([])++p7)++([tG]:LB)) (aW (p0-1))) fun(x72,x73)=>bd (wC fu 8 tG ([x67,x72]:Z aL)) fun x75=>some (x75,x73)))) (sw (decide (v3=9)) (bd (p1 d1 p7 (aW (p0-1))) fun(x78,x79)=>bd (p1 x79 p7 (aW (p0-1))) fun(x81,x82)=>bd (p1 x82 p7 (aW (p0-1))) fun(x84,x85)=>bd (wC fu 9 s_ ([x78,x81,x84]:Z aL)) fun x87=>some (x87,x85)) (sw (decide (v3=10)) (lt (d1.after ([DE,IL,QY,QZ,Q0]:LB).length) fun d89=>lt (d1.pick ([DE,IL,QY,QZ,Q0]:LB)) fun y91=>bd (p1 d89 p7 (aW (p0-1))) fun(x94,x95)=>bd (p1 x95 p7 (aW (p0-1))) fun(x97,x98)=>bd (wC fu 10 y91 ([x94,x97]:Z aL)) fun x100=>some (x100,x98)) (sw (decide (v3=11)) (bd (p1 d1 p7 (aW (p0-1))) fun(x103,x104)=>some ((aL.mk 11 bD s_ 0 (aA.mk 0 s_ []) ([x103]:Z aL) []),x104)) (sw (decide (v3=12)) (bd (lY fu d1 ([gA]:LB) 1) fun(x107,x108)=>bd (p1 x108 p7 (aW (p0-1))) fun(x110,x111)=>some ((aL.mk 12 s_ s_ 0 x107 ([x110]:Z aL) []),x111)) (lt (d1.after 20) fun d112=>bd (u9 fu (aW ((d1.below 20:Int)-5))) fun x115=>some (x115,d112))))))))))))
theorem aaE(fu:Nat)(p1:uR)(p2:G0 p1):G0 (N1 fu p1):=by
 intro pC p7 p0 r H
 refine qJ func193 H (fun C hC H=>?_)
 refine gQ 7 ?_;refine gI H fun d1 h2 H=>(q1 (fJ [0] [] func73 (IF h2 (gF pC 13))) ?_)
 refine gQ 3 ?_;refine oT (σ:=Int) (fun v3=>⟨[(0,.ptr 0 0),(1,rS p7),(2,pI p0),(6,.ptr 1 0),(7,pI v3)],⟨[some ⟨133,dC d1⟩,some ⟨211,[pI 0,pS s_,pS s_,pI 0,pI 0,pS s_,.nil,.nil,.nil]⟩],[]⟩⟩) (eX H) (fun H=>?_) ?_
 ·refine gQ 5 ?_;refine bE H (fun h4 H=>?_) (fun h4 H=>?_)
  ·refine gQ 2 ?_;refine q1 (bC.remN (a:=pC.below 13) (b:=3) rfl rfl rfl rfl (by have:=DS.below_lt (d:=pC) (n:=13) (by decide);omega) (by have:=DS.below_lt (d:=pC) (n:=13) (by decide);omega)) ?_;exact gE 2
  exact gE 1
 rintro v3 H
 refine gQ 11 ?_;refine bE H (fun h5 H=>?_) (fun h5 H=>?_)
 ·refine gQ 3 ?_;refine gI H fun d6 h7 H=>(q1 (fJ [0] [] func73 (IF h7 (gF d1 2))) ?_)
  exact gE 3
 refine qS ?_;refine oT (σ:=Bool) (fun v8=>⟨[(0,.ptr 0 0),(1,rS p7),(2,pI p0),(6,.ptr 1 0),(15,pI v3),(21,pB v8)],⟨[some ⟨133,dC d1⟩,some ⟨211,[pI 0,pS s_,pS s_,pI 0,pI 0,pS s_,.nil,.nil,.nil]⟩],[]⟩⟩) (eX H) (fun H=>?_) ?_
 ·refine gQ 5 ?_;refine bE H (fun h9 H=>gE 1) fun h9 H=>?_;exact gE 4
 rintro v8 H
 refine bE H (fun h10 H=>?_) (fun h10 H=>?_)
 ·refine gQ 6 ?_;refine bE H (fun h11 H=>?_) (fun h11 H=>?_)
  ·refine gQ 4 ?_;refine cK H fun z12 H=>(gI H fun d13 h14 H=>(gI H fun y15 h16 H=>(q1 (fJ [0] [] func48 (MF h14 h16 (fM d1 p7 z12))) (bM H fun x18 z17 H=>(q1 (bI func191 (CX fu y15 _ z17)) ?_)))))
   exact gE 2
  refine gQ 4 ?_;refine gI H fun d19 h20 H=>(q1 (fJ [0] [] func73 (IF h20 (gF d1 20))) (q1 rSw (bM H fun x22 z21 H=>(q1 (bI func192 (xM fu (aW ((d1.below 20:Int)-5)) _ z21)) ?_))))
  exact gE 2
 refine gQ 5 ?_;refine bE H (fun h23 H=>?_) (fun h23 H=>?_)
 ·refine gQ 3 ?_;refine q1 (iQ ([s_f,s_g]:LB)) (gI H fun d24 h25 H=>(gI H fun y26 h27 H=>(q1 (fJ [0] [] func48 (MF h25 h27 (fM d1 ([s_f,s_g]:LB) (by decide)))) ?_)))
  refine gQ 4 ?_;refine eO H fun x29 x30 z28 H=>(q1 (fJ [0] [] func193 (p2 d24 p7 (aW (p0-1)) _ z28)) (q1 (iQ ([x29]:Z aL)) (bM H fun x32 z31 H=>(q1 (bI func190 (xN fu 4 y26 ([x29]:Z aL) _ z31)) ?_))))
  exact gE 2
 refine gQ 5 ?_;refine bE H (fun h33 H=>?_) (fun h33 H=>?_)
 ·refine gQ 3 ?_;refine q1 (iQ ([bD,eB]:LB)) (gI H fun d34 h35 H=>(gI H fun y36 h37 H=>(q1 (fJ [0] [] func48 (MF h35 h37 (fM d1 ([bD,eB]:LB) (by decide)))) ?_)))
  refine gQ 4 ?_;refine eO H fun x39 x40 z38 H=>(q1 (fJ [0] [] func193 (p2 d34 p7 (aW (p0-1)) _ z38)) ?_)
  refine gQ 4 ?_;refine eO H fun x42 x43 z41 H=>(q1 (fJ [0] [] func193 (p2 x40 p7 (aW (p0-1)) _ z41)) (q1 (iQ ([x39,x42]:Z aL)) ?_))
  exact gE 3
 refine gQ 5 ?_;refine bE H (fun h44 H=>?_) (fun h44 H=>?_)
 ·refine gQ 6 ?_;refine eO H fun x46 x47 z45 H=>(q1 (fJ [0] [] func193 (p2 d1 p7 (aW (p0-1)) _ z45)) ?_)
  refine gQ 4 ?_;refine eO H fun x49 x50 z48 H=>(q1 (fJ [0] [] func193 (p2 x47 p7 (aW (p0-1)) _ z48)) (q1 (iQ ([x46,x49]:Z aL)) (bM H fun x52 z51 H=>(q1 (bI func190 (xN fu 6 cL ([x46,x49]:Z aL) _ z51)) ?_))))
  exact gE 2
 refine gQ 5 ?_;refine bE H (fun h53 H=>?_) (fun h53 H=>?_)
 ·refine gQ 2 ?_;refine q1 (sA ([]:LB)) (q1 bG (cK H fun z54 H=>(q1 (mA z54) (q1 (iQ ([s_h,s_t]:LB)) (cK H fun z55 H=>(q1 (mA z55) ?_))))))
  refine gQ 8 ?_;refine eO H fun x57 x58 z56 H=>(q1 (fJ [0] [] func193 (p2 d1 p7 (aW (p0-1)) _ z56)) (q1 (iQ ([x57]:Z aL)) ?_))
  refine gQ 4 ?_;refine eO H fun x60 x61 z59 H=>(q1 (fJ [0] [] func193 (p2 x58 p7 (aW (p0-1)) _ z59)) (q1 rR (q1 (iQ ([s_h,s_t]:LB)) ?_)))
  refine gQ 4 ?_;refine eO H fun x63 x64 z62 H=>(q1 (fJ [0] [] func193 (p2 x61 ((([])++p7)++([s_h,s_t]:LB)) (aW (p0-1)) _ z62)) (q1 rR (q1 (iQ ([(bW.mk gL [] x60),(bW.mk cL ([s_h,s_t]:LB) x63)]:Z bW)) ?_)))
  exact gE 3
 refine gQ 5 ?_;refine bE H (fun h65 H=>?_) (fun h65 H=>?_)
 ·refine gQ 6 ?_;refine eO H fun x67 x68 z66 H=>(q1 (fJ [0] [] func193 (p2 d1 p7 (aW (p0-1)) _ z66)) (q1 bG (q1 (sA ([]:LB)) (q1 bG (cK H fun z69 H=>(q1 (mA z69) (q1 (iQ ([tG]:LB)) (cK H fun z70 H=>(q1 (mA z70) ?_)))))))))
  refine gQ 2 ?_;refine eO H fun x72 x73 z71 H=>(q1 (fJ [0] [] func193 (p2 x68 ((([])++p7)++([tG]:LB)) (aW (p0-1)) _ z71)) (q1 (iQ ([x67,x72]:Z aL)) (bM H fun x75 z74 H=>(q1 (bI func190 (xN fu 8 tG ([x67,x72]:Z aL) _ z74)) ?_))))
  exact gE 2
 refine gQ 5 ?_;refine bE H (fun h76 H=>?_) (fun h76 H=>?_)
 ·refine gQ 6 ?_;refine eO H fun x78 x79 z77 H=>(q1 (fJ [0] [] func193 (p2 d1 p7 (aW (p0-1)) _ z77)) ?_)
  refine gQ 4 ?_;refine eO H fun x81 x82 z80 H=>(q1 (fJ [0] [] func193 (p2 x79 p7 (aW (p0-1)) _ z80)) ?_)
  refine gQ 4 ?_;refine eO H fun x84 x85 z83 H=>(q1 (fJ [0] [] func193 (p2 x82 p7 (aW (p0-1)) _ z83)) (q1 (iQ ([x78,x81,x84]:Z aL)) (bM H fun x87 z86 H=>(q1 (bI func190 (xN fu 9 s_ ([x78,x81,x84]:Z aL) _ z86)) ?_))))
  exact gE 2
 refine gQ 5 ?_;refine bE H (fun h88 H=>?_) (fun h88 H=>?_)
 ·refine gQ 3 ?_;refine q1 (iQ ([DE,IL,QY,QZ,Q0]:LB)) (gI H fun d89 h90 H=>(gI H fun y91 h92 H=>(q1 (fJ [0] [] func48 (MF h90 h92 (fM d1 ([DE,IL,QY,QZ,Q0]:LB) (by decide)))) ?_)))
  refine gQ 4 ?_;refine eO H fun x94 x95 z93 H=>(q1 (fJ [0] [] func193 (p2 d89 p7 (aW (p0-1)) _ z93)) ?_)
  refine gQ 4 ?_;refine eO H fun x97 x98 z96 H=>(q1 (fJ [0] [] func193 (p2 x95 p7 (aW (p0-1)) _ z96)) (q1 (iQ ([x94,x97]:Z aL)) (bM H fun x100 z99 H=>(q1 (bI func190 (xN fu 10 y91 ([x94,x97]:Z aL) _ z99)) ?_))))
  exact gE 2
 refine gQ 5 ?_;refine bE H (fun h101 H=>?_) (fun h101 H=>?_)
 ·refine gQ 6 ?_;refine eO H fun x103 x104 z102 H=>(q1 (fJ [0] [] func193 (p2 d1 p7 (aW (p0-1)) _ z102)) (q1 (iQ ([x103]:Z aL)) ?_))
  exact gE 3
 refine gQ 5 ?_;refine bE H (fun h105 H=>?_) (fun h105 H=>?_)
 ·refine gQ 3 ?_;refine q1 (iQ ([gA]:LB)) (eO H fun x107 x108 z106 H=>(q1 (fJ [0] [] func131 (YU (QV fu) d1 ([gA]:LB) 1 _ z106)) ?_))
  refine gQ 4 ?_;refine eO H fun x110 x111 z109 H=>(q1 (fJ [0] [] func193 (p2 x108 p7 (aW (p0-1)) _ z109)) (q1 (iQ ([x110]:Z aL)) ?_))
  exact gE 3
 refine gQ 4 ?_;refine gI H fun d112 h113 H=>(q1 (fJ [0] [] func73 (IF h113 (gF d1 20))) (q1 rSw (bM H fun x115 z114 H=>(q1 (bI func192 (xM fu (aW ((d1.below 20:Int)-5)) _ z114)) ?_))))
 exact gE 2
def mH:Nat→DS→(LB)→Int→J (aL×DS)
 |0,_,_,_=>none
 |fu+1,pC,p7,p0=>N1 fu (mH fu) pC p7 p0
theorem adS(fu:Nat):G0 (mH fu):=by
 induction fu with
 |zero=>exact(fun pC p7 p0 r H=>by simp only [mH] at H;cases H)
 |succ fu ih=>exact(fun pC p7 p0 r H=>by simp only [mH] at H;exact aaE fu (mH fu) ih pC p7 p0 r H)
theorem T3(fu:Nat):G0 (mH fu):=(adS fu)
def F3(fu:Nat):J aA:=bd (gW fu eY ([])) fun x2=>some x2
theorem xY(fu:Nat)(r:aA)(H:F3 fu=some r):bS prog 49 [] ((aA.pv r)):=by
 refine qJ func49 H (fun C hC H=>?_)
 refine gQ 6 ?_;refine bM H fun x2 z1 H=>(q1 (bI func47 (vC (jJ fu) eY ([]) _ z1)) ?_)
 exact gE 2
def T4(fu:Nat)(pC d1:DS)(y3:Y)(d5:DS)(x8:aL):J ((aI×DS)⊕((LB)×Int×Y×(Z aA)×(Z aF)×DS)):=lt (d5.after 4) fun d15=>sw (decide ((d5.below 4:Int)=0)) (bd (F3 fu) fun x19=>some (.inr ([],x19.aD8,x19.aD4,x19.aD5,[],d15))) (sw (decide ((d5.below 4:Int)=1)) (bd (nN fu gA) fun x22=>bd (gW fu cM ([x22]:Z aA)) fun x24=>some (.inr (([gA]:LB),x24.aD8,x24.aD4,x24.aD5,([(aF.mk y3 x22)]:Z aF),d15))) (sw (decide ((d5.below 4:Int)=2)) (bd (nN fu gA) fun x27=>bd (nN fu AD) fun x29=>bd (gW fu uQ ([x27,x29]:Z aA)) fun x31=>some (.inr (([gA,AD]:LB),x31.aD8,x31.aD4,x31.aD5,[],d15))) (bd (nN fu gA) fun x33=>some (.inr (([gA]:LB),x33.aD8,x33.aD4,x33.aD5,([(aF.mk eC x33)]:Z aF),d15)))))
def T5(fu:Nat)(pC d1:DS)(y3:Y)(d5:DS)(x8:aL)(v9:LB)(v10:Int)(v11:Y)(v12:Z aA)(v13:Z aF)(v14:DS):J ((aI×DS)⊕((Z aA)×Bool×Int×Y×DS)):=lt (v14.after 3) fun d39=>sw (decide (v14.below 3=0)) (bd (lY fu d39 v9 1) fun(x43,x44)=>some (.inr (x43.aD5,true,x43.aD8,x43.aD4,x44))) (some (.inr ([],false,0,s_,d39)))
def C0(fu:Nat)(pC:DS):J (aI×DS):=lt (pC.after ([bD,jZ,eB]:LB).length) fun d1=>lt (pC.pick ([bD,jZ,eB]:LB)) fun y3=>lt (d1.after 9) fun d5=>bd (u9 fu (d1.below 9:Int)) fun x8=>so (T4 fu pC d1 y3 d5 x8) fun(v9,v10,v11,v12,v13,v14)=>so (T5 fu pC d1 y3 d5 x8 v9 v10 v11 v12 v13 v14) fun(v38,v35,v36,v37,v34)=>lt (v34.after 4) fun d45=>lt (d45.after 12) fun d47=>sw (decide ((d45.below 12:Int)=0)) (bd (rN fu d47 2) fun(x51,x52)=>some ((aI.mk y3 v9 x51 v13 (decide (v34.below 4=0)) v35 (aA.mk v36 v37 v38) ([(aP.mk fF ([fB]:LB) x8)]:Z aP)),x52)) (sw (decide ((d45.below 12:Int)=1)) (lt (d47.after ([gA,s_c]:LB).length) fun d54=>lt (d47.pick ([gA,s_c]:LB)) fun y56=>gd ((v9).length+(([y56]:LB)).length≤68719476736) (some ((aI.mk y3 (v9++([y56]:LB)) (aA.mk v10 v11 v12) v13 (decide (v34.below 4=0)) v35 (aA.mk v36 v37 v38) ([(aP.mk fF ([fB]:LB) x8)]:Z aP)),d54))) (sw (decide ((d45.below 12:Int)=2)) (bd (rN fu d47 1) fun(x61,x62)=>gd ((v13).length+(([(aF.mk jZ x61)]:Z aF)).length≤68719476736) (some ((aI.mk y3 v9 (aA.mk v10 v11 v12) (v13++([(aF.mk jZ x61)]:Z aF)) (decide (v34.below 4=0)) v35 (aA.mk v36 v37 v38) ([(aP.mk fF ([fB]:LB) x8)]:Z aP)),x62))) (sw (decide ((d45.below 12:Int)=3)) (bd (mH fu d47 ([fB,tG]:LB) 2) fun(x66,x67)=>some ((aI.mk y3 v9 (aA.mk v10 v11 v12) v13 (decide (v34.below 4=0)) v35 (aA.mk v36 v37 v38) ([(aP.mk fF ([fB]:LB) x66)]:Z aP)),x67)) (sw (decide ((d45.below 12:Int)=4)) (bd (F3 fu) fun x70=>some ((aI.mk y3 v9 (aA.mk v10 v11 v12) v13 (decide (v34.below 4=0)) v35 x70 ([(aP.mk fF ([fB]:LB) x8)]:Z aP)),d47)) (sw (decide ((d45.below 12:Int)=5)) (some ((aI.mk y3 v9 (aA.mk v10 v11 v12) v13 (decide (v34.below 4=0)) v35 (aA.mk v36 v37 v38) ([(aP.mk fF ([]) x8)]:Z aP)),d47)) (some ((aI.mk y3 v9 (aA.mk v10 v11 v12) v13 (decide (v34.below 4=0)) v35 (aA.mk v36 v37 v38) ([(aP.mk fF ([fB]:LB) x8)]:Z aP)),d47)))))))
theorem ah2(fu:Nat)(pC:DS)(r:aI×DS)(H:C0 fu pC=some r):cF prog 165 [.ptr 0 0] ⟨[some ⟨133,dC pC⟩],[]⟩ (fun q t=>q=((aI.pv r.1))∧t=⟨[some ⟨133,dC r.2⟩],[]⟩):=by
 refine qJ func165 H (fun C hC H=>?_)
 refine gQ 7 ?_;refine q1 (wP ([bD,jZ,eB]:LB)) (gI H fun d1 h2 H=>(gI H fun y3 h4 H=>(q1 (fJ [0] [] func48 (MF h2 h4 (fM pC ([bD,jZ,eB]:LB) (by decide)))) (q1 (wP ([fB]:LB)) (q1 bG (gI H fun d5 h6 H=>(q1 (fJ [0] [] func73 (IF h6 (gF d1 9))) (bM H fun x8 z7 H=>(q1 (bI func192 (xM fu (d1.below 9:Int) _ z7)) (q1 rR (q1 (bC.buildSliceB (cs:= [pS fF,.lit 1 (aY (([fB]:LB))),pI x8.aD8,pS x8.aEb,pS x8.aD4,pI x8.aEM,pI x8.aD6.aD8,pS x8.aD6.aD4,aT x8.aD6.aD5,jF x8.aD5,tA x8.aEo]) rfl rfl apS.h awU.h rfl rfl rfl (by decide) rfl (by decide)) ?_)))))))))))
 refine gQ 5 ?_;refine oT (σ:=(LB)×Int×Y×(Z aA)×(Z aF)×DS) (fun(v9,v10,v11,v12,v13,v14)=>⟨[(0,.ptr 0 0),(2,.ptr 1 0),(3,.ptr 3 0)],⟨[some ⟨133,dC v14⟩,some ⟨163,[pS s_,.nil,pI 0,pS s_,.nil,.nil,pB false,pB false,pI 0,pS s_,.nil,.nil]⟩,some ⟨242,[pS fF,.lit 1 (aY (([fB]:LB))),pI x8.aD8,pS x8.aEb,pS x8.aD4,pI x8.aEM,pI x8.aD6.aD8,pS x8.aD6.aD4,aT x8.aD6.aD5,jF x8.aD5,tA x8.aEo]⟩,some ⟨163,[pS y3,.lit 1 (aY (v9)),pI v10,pS v11,aT v12,.lit 4 (aF.trs (v13)),pB false,pB false,pI 0,pS s_,.nil,.bsl 2 1]⟩],[]⟩⟩) (eX H) (fun H=>?_) ?_
 ·refine gQ 3 ?_;refine gI H fun d15 h16 H=>(q1 (fJ [0] [] func73 (IF h16 (gF d5 4))) ?_)
  refine gQ 7 ?_;refine bE H (fun h17 H=>?_) (fun h17 H=>?_)
  ·refine qR (bM H fun x19 z18 H=>(q1 (bI func49 (xY fu _ z18)) ?_))
   exact gE 3
  refine gQ 5 ?_;refine bE H (fun h20 H=>?_) (fun h20 H=>?_)
  ·refine gQ 2 ?_;refine q1 (wP ([gA]:LB)) ?_;refine gQ 5 ?_;refine bM H fun x22 z21 H=>(q1 (bI func137 (lO (kX fu) gA _ z21)) (q1 (wP ([x22]:Z aA)) (bM H fun x24 z23 H=>(q1 (bI func47 (vC (jJ fu) cM ([x22]:Z aA) _ z23)) ?_))))
   refine gQ 3 ?_;refine dW (dI [3] bY (dD [36] eI (dI [] (bI func137 (lO (kX fu) gA _ z21)) (dI [37,38] rR (dI [39] (wP ([(aF.mk y3 x22)]:Z aF)) (dI [3] bY (mK [41,40] lT (dN ?_))))))))
   exact gE 0
  refine gQ 5 ?_;refine bE H (fun h25 H=>?_) (fun h25 H=>?_)
  ·refine gQ 2 ?_;refine q1 (wP ([gA,AD]:LB)) ?_;refine gQ 4 ?_;refine bM H fun x27 z26 H=>(q1 (bI func137 (lO (kX fu) gA _ z26)) (bM H fun x29 z28 H=>(q1 (bI func137 (lO (kX fu) AD _ z28)) (q1 (wP ([x27,x29]:Z aA)) (bM H fun x31 z30 H=>(q1 (bI func47 (vC (jJ fu) uQ ([x27,x29]:Z aA) _ z30)) ?_))))))
   exact gE 3
  refine gQ 2 ?_;refine q1 (wP ([gA]:LB)) ?_;refine gQ 5 ?_;refine bM H fun x33 z32 H=>(q1 (bI func137 (lO (kX fu) gA _ z32)) ?_)
  refine gQ 4 ?_;refine q1 (bI func137 (lO (kX fu) gA _ z32)) (q1 rR (q1 (wP ([(aF.mk eC x33)]:Z aF)) ?_))
  exact gE 3
 rintro⟨v9,v10,v11,v12,v13,v14⟩ H
 refine qS ?_;refine oT (σ:=(Z aA)×Bool×Int×Y×DS) (fun(v38,v35,v36,v37,v34)=>⟨[(0,.ptr 0 0),(2,.ptr 1 0),(3,.ptr 3 0)],⟨[some ⟨133,dC v34⟩,some ⟨163,[pS s_,.nil,pI 0,pS s_,.nil,.nil,pB false,pB false,pI 0,pS s_,.nil,.nil]⟩,some ⟨242,[pS fF,.lit 1 (aY (([fB]:LB))),pI x8.aD8,pS x8.aEb,pS x8.aD4,pI x8.aEM,pI x8.aD6.aD8,pS x8.aD6.aD4,aT x8.aD6.aD5,jF x8.aD5,tA x8.aEo]⟩,some ⟨163,[pS y3,.lit 1 (aY (v9)),pI v10,pS v11,aT v12,.lit 4 (aF.trs (v13)),pB false,pB v35,pI v36,pS v37,aT v38,.bsl 2 1]⟩],[]⟩⟩) (eX H) (fun H=>?_) ?_
 ·refine gQ 3 ?_;refine gI H fun d39 h40 H=>(q1 (fJ [0] [] func45 (IF h40 (pT v14 3))) (qN ?_))
  refine bE H (fun h41 H=>?_) (fun h41 H=>?_)
  ·refine gQ 9 ?_;refine eO H fun x43 x44 z42 H=>(q1 (fJ [0] [] func131 (YU (QV fu) d39 v9 1 _ z42)) ?_)
   exact gE 3
  exact gE 1
 rintro⟨v38,v35,v36,v37,v34⟩ H
 refine gQ 3 ?_;refine gI H fun d45 h46 H=>(q1 (fJ [0] [] func45 (IF h46 (pT v34 4))) ?_)
 refine gQ 7 ?_;refine gI H fun d47 h48 H=>(q1 (fJ [0] [] func73 (IF h48 (gF d45 12))) ?_)
 refine gQ 7 ?_;refine bE H (fun h49 H=>?_) (fun h49 H=>?_)
 ·refine gQ 2 ?_;refine eO H fun x51 x52 z50 H=>(q1 (fJ [0] [] func132 (xX (xW fu) d47 2 _ z50)) ?_)
  refine gQ 5 ?_;refine AL.weak (Wk.freezeE (k:=2) (sz:=11) (es:= [aP.cs (aP.mk fF ([fB]:LB) x8)]) (es':=aP.trs (([(aP.mk fF ([fB]:LB) x8)]:Z aP))) (s':=⟨[(0,.ptr 0 0),(2,.ptr 1 0),(3,.ptr 3 0),(63,pN (d45.below 12))],⟨[some ⟨133,dC x52⟩,some ⟨163,[pS s_,.nil,pI 0,pS s_,.nil,.nil,pB false,pB false,pI 0,pS s_,.nil,.nil]⟩,none,some ⟨163,[pS y3,.lit 1 (aY (v9)),pI x51.aD8,pS x51.aD4,aT x51.aD5,.lit 4 (aF.trs (v13)),pB (decide (v34.below 4=0)),pB v35,pI v36,pS v37,aT v38,nD ([(aP.mk fF ([fB]:LB) x8)]:Z aP)]⟩],[]⟩⟩) (by simp [aP.trs_map,aP.tr_cs]) rfl kA (by simp [aP.cs]) (Nat.le_of_ble_eq_true rfl) ⟨⟨rfl,eM,rfl⟩,⟨⟨rfl,eM,rfl⟩,⟨⟨rfl,eM,rfl⟩,trivial⟩⟩⟩ rfl rfl (fA hC (lU rfl) (Nat.le_of_ble_eq_true rfl)) (by repeat' first|exact trivial|refine⟨⟨_,rfl,eM,rfl⟩,?_⟩)) ?_;refine q1 (b5 [pS y3,.lit 1 (aY (v9)),pI x51.aD8,pS x51.aD4,aT x51.aD5,.lit 4 (aF.trs (v13)),pB (decide (v34.below 4=0)),pB v35,pI v36,pS v37,aT v38,nD ([(aP.mk fF ([fB]:LB) x8)]:Z aP)]) ?_;exact gE 2
 refine gQ 5 ?_;refine bE H (fun h53 H=>?_) (fun h53 H=>?_)
 ·refine gI H fun d54 h55 H=>(gI H fun y56 h57 H=>(cK H fun z58 H=>(dW (dI [3] bY (dB [71] 0 1 vE (dI [0] bG (dI [] (wP ([gA,s_c]:LB)) (dE [73,74] (fJ [0] [] func48 (MF h55 h57 (fM d47 ([gA,s_c]:LB) (by decide)))) (dI [75] (wP ([y56]:LB)) ?_)))))))))
  refine dI [72,76] (bC.appendLit (es1:=aY (v9)) (es2:=aY (([y56]:LB))) (es3:=aY (v9++([y56]:LB))) rfl rfl rfl rfl rfl (sU _) (sU _) (by exact List.cons_ne_nil _ _) (by decide) ZI.h as8.h (by decide) (by rw [b0,b0];exact DT z58 (by decide)) (yI _ _)) ?_;refine dI [3] bY (mK [78,77] lT (dN ?_))
  refine gQ 2 ?_;refine AL.weak (Wk.freezeE (k:=2) (sz:=11) (es:= [aP.cs (aP.mk fF ([fB]:LB) x8)]) (es':=aP.trs (([(aP.mk fF ([fB]:LB) x8)]:Z aP))) (s':=⟨[(0,.ptr 0 0),(2,.ptr 1 0),(3,.ptr 3 0),(63,pN (d45.below 12))],⟨[some ⟨133,dC d54⟩,some ⟨163,[pS s_,.nil,pI 0,pS s_,.nil,.nil,pB false,pB false,pI 0,pS s_,.nil,.nil]⟩,none,some ⟨163,[pS y3,rS (v9++([y56]:LB)),pI v10,pS v11,aT v12,.lit 4 (aF.trs (v13)),pB (decide (v34.below 4=0)),pB v35,pI v36,pS v37,aT v38,nD ([(aP.mk fF ([fB]:LB) x8)]:Z aP)]⟩],[]⟩⟩) (by simp [aP.trs_map,aP.tr_cs]) rfl kA (by simp [aP.cs]) (Nat.le_of_ble_eq_true rfl) ⟨⟨rfl,eM,rfl⟩,⟨⟨rfl,eM,rfl⟩,⟨⟨rfl,eM,rfl⟩,trivial⟩⟩⟩ rfl rfl (fA hC (lU rfl) (Nat.le_of_ble_eq_true rfl)) (by repeat' first|exact trivial|refine⟨⟨_,rfl,eM,rfl⟩,?_⟩)) ?_;refine q1 (b5 [pS y3,rS (v9++([y56]:LB)),pI v10,pS v11,aT v12,.lit 4 (aF.trs (v13)),pB (decide (v34.below 4=0)),pB v35,pI v36,pS v37,aT v38,nD ([(aP.mk fF ([fB]:LB) x8)]:Z aP)]) ?_;exact gE 2
 refine gQ 5 ?_;refine bE H (fun h59 H=>?_) (fun h59 H=>?_)
 ·refine eO H fun x61 x62 z60 H=>(cK H fun z63 H=>(dW (dI [3] bY (dB [81] 0 1 vE (dI [0] bG (dE [83] (fJ [0] [] func132 (xX (xW fu) d47 1 _ z60)) (dI [84] rR (dI [85] (wP ([(aF.mk jZ x61)]:Z aF)) ?_))))))))
  refine dI [82,86] (bC.appendLit (es1:=aF.trs (v13)) (es2:=aF.trs (([(aF.mk jZ x61)]:Z aF))) (es3:=aF.trs (v13++([(aF.mk jZ x61)]:Z aF))) rfl rfl rfl rfl rfl (fun e he=>by rw [aF.trs_map] at he;obtain⟨x,_,rfl⟩:=List.mem_map.1 he;rw [aF.tr_cs];rfl) (fun e he=>by rw [aF.trs_map] at he;obtain⟨x,_,rfl⟩:=List.mem_map.1 he;rw [aF.tr_cs];rfl) (by rw [aF.trs_map];exact List.cons_ne_nil _ _) (by decide) apT.h azU.h (by decide) (by rw [aF.trs_len,aF.trs_len];exact DT z63 (by decide)) (by rw [aF.trs_map,aF.trs_map,aF.trs_map,List.map_append])) ?_;refine dI [3] bY (mK [88,87] lT (dN ?_))
  refine gQ 2 ?_;refine AL.weak (Wk.freezeE (k:=2) (sz:=11) (es:= [aP.cs (aP.mk fF ([fB]:LB) x8)]) (es':=aP.trs (([(aP.mk fF ([fB]:LB) x8)]:Z aP))) (s':=⟨[(0,.ptr 0 0),(2,.ptr 1 0),(3,.ptr 3 0),(63,pN (d45.below 12))],⟨[some ⟨133,dC x62⟩,some ⟨163,[pS s_,.nil,pI 0,pS s_,.nil,.nil,pB false,pB false,pI 0,pS s_,.nil,.nil]⟩,none,some ⟨163,[pS y3,.lit 1 (aY (v9)),pI v10,pS v11,aT v12,cP (v13++([(aF.mk jZ x61)]:Z aF)),pB (decide (v34.below 4=0)),pB v35,pI v36,pS v37,aT v38,nD ([(aP.mk fF ([fB]:LB) x8)]:Z aP)]⟩],[]⟩⟩) (by simp [aP.trs_map,aP.tr_cs]) rfl kA (by simp [aP.cs]) (Nat.le_of_ble_eq_true rfl) ⟨⟨rfl,eM,rfl⟩,⟨⟨rfl,eM,rfl⟩,⟨⟨rfl,eM,rfl⟩,trivial⟩⟩⟩ rfl rfl (fA hC (lU rfl) (Nat.le_of_ble_eq_true rfl)) (by repeat' first|exact trivial|refine⟨⟨_,rfl,eM,rfl⟩,?_⟩)) ?_;refine q1 (b5 [pS y3,.lit 1 (aY (v9)),pI v10,pS v11,aT v12,cP (v13++([(aF.mk jZ x61)]:Z aF)),pB (decide (v34.below 4=0)),pB v35,pI v36,pS v37,aT v38,nD ([(aP.mk fF ([fB]:LB) x8)]:Z aP)]) ?_;exact gE 2
 refine gQ 5 ?_;refine bE H (fun h64 H=>?_) (fun h64 H=>?_)
 ·refine eO H fun x66 x67 z65 H=>(dW (dI [3] bY (dB [91] 0 1 vE (dI [0] bG (dI [] (wP ([fB,tG]:LB)) (dE [93,94] (fJ [0] [] func193 (T3 fu d47 ([fB,tG]:LB) 2 _ z65)) (dI [92] (bC.indexB (sz:=11) (k:=2) (N:=1) (i:=0) rfl rfl rfl rfl (by decide) apS.h) (dI [96] bY (mK [97,95] lT (dN ?_))))))))))
  refine gQ 2 ?_;refine AL.weak (Wk.freezeE (k:=2) (sz:=11) (es:= [aP.cs (aP.mk fF ([fB]:LB) x66)]) (es':=aP.trs (([(aP.mk fF ([fB]:LB) x66)]:Z aP))) (s':=⟨[(0,.ptr 0 0),(2,.ptr 1 0),(3,.ptr 3 0),(63,pN (d45.below 12))],⟨[some ⟨133,dC x67⟩,some ⟨163,[pS s_,.nil,pI 0,pS s_,.nil,.nil,pB false,pB false,pI 0,pS s_,.nil,.nil]⟩,none,some ⟨163,[pS y3,.lit 1 (aY (v9)),pI v10,pS v11,aT v12,.lit 4 (aF.trs (v13)),pB (decide (v34.below 4=0)),pB v35,pI v36,pS v37,aT v38,nD ([(aP.mk fF ([fB]:LB) x66)]:Z aP)]⟩],[]⟩⟩) (by simp [aP.trs_map,aP.tr_cs]) rfl kA (by simp [aP.cs]) (Nat.le_of_ble_eq_true rfl) ⟨⟨rfl,eM,rfl⟩,⟨⟨rfl,eM,rfl⟩,⟨⟨rfl,eM,rfl⟩,trivial⟩⟩⟩ rfl rfl (fA hC (lU rfl) (Nat.le_of_ble_eq_true rfl)) (by repeat' first|exact trivial|refine⟨⟨_,rfl,eM,rfl⟩,?_⟩)) ?_;refine q1 (b5 [pS y3,.lit 1 (aY (v9)),pI v10,pS v11,aT v12,.lit 4 (aF.trs (v13)),pB (decide (v34.below 4=0)),pB v35,pI v36,pS v37,aT v38,nD ([(aP.mk fF ([fB]:LB) x66)]:Z aP)]) ?_;exact gE 2
 refine gQ 5 ?_;refine bE H (fun h68 H=>?_) (fun h68 H=>?_)
 ·refine qR (bM H fun x70 z69 H=>(q1 (bI func49 (xY fu _ z69)) ?_))
  refine gQ 5 ?_;refine AL.weak (Wk.freezeE (k:=2) (sz:=11) (es:= [aP.cs (aP.mk fF ([fB]:LB) x8)]) (es':=aP.trs (([(aP.mk fF ([fB]:LB) x8)]:Z aP))) (s':=⟨[(0,.ptr 0 0),(2,.ptr 1 0),(3,.ptr 3 0),(63,pN (d45.below 12))],⟨[some ⟨133,dC d47⟩,some ⟨163,[pS s_,.nil,pI 0,pS s_,.nil,.nil,pB false,pB false,pI 0,pS s_,.nil,.nil]⟩,none,some ⟨163,[pS y3,.lit 1 (aY (v9)),pI v10,pS v11,aT v12,.lit 4 (aF.trs (v13)),pB (decide (v34.below 4=0)),pB v35,pI x70.aD8,pS x70.aD4,aT x70.aD5,nD ([(aP.mk fF ([fB]:LB) x8)]:Z aP)]⟩],[]⟩⟩) (by simp [aP.trs_map,aP.tr_cs]) rfl kA (by simp [aP.cs]) (Nat.le_of_ble_eq_true rfl) ⟨⟨rfl,eM,rfl⟩,⟨⟨rfl,eM,rfl⟩,⟨⟨rfl,eM,rfl⟩,trivial⟩⟩⟩ rfl rfl (fA hC (lU rfl) (Nat.le_of_ble_eq_true rfl)) (by repeat' first|exact trivial|refine⟨⟨_,rfl,eM,rfl⟩,?_⟩)) ?_;refine q1 (b5 [pS y3,.lit 1 (aY (v9)),pI v10,pS v11,aT v12,.lit 4 (aF.trs (v13)),pB (decide (v34.below 4=0)),pB v35,pI x70.aD8,pS x70.aD4,aT x70.aD5,nD ([(aP.mk fF ([fB]:LB) x8)]:Z aP)]) ?_;exact gE 2
 refine gQ 5 ?_;refine bE H (fun h71 H=>?_) (fun h71 H=>?_)
 ·refine gQ 3 ?_;refine q1 (wP ([]:LB)) (q1 (bC.indexB (sz:=11) (k:=2) (N:=1) (i:=0) rfl rfl rfl rfl (by decide) apS.h) ?_)
  refine gQ 5 ?_;refine AL.weak (Wk.freezeE (k:=2) (sz:=11) (es:= [aP.cs (aP.mk fF ([]) x8)]) (es':=aP.trs (([(aP.mk fF ([]) x8)]:Z aP))) (s':=⟨[(0,.ptr 0 0),(2,.ptr 1 0),(3,.ptr 3 0),(63,pN (d45.below 12))],⟨[some ⟨133,dC d47⟩,some ⟨163,[pS s_,.nil,pI 0,pS s_,.nil,.nil,pB false,pB false,pI 0,pS s_,.nil,.nil]⟩,none,some ⟨163,[pS y3,.lit 1 (aY (v9)),pI v10,pS v11,aT v12,.lit 4 (aF.trs (v13)),pB (decide (v34.below 4=0)),pB v35,pI v36,pS v37,aT v38,nD ([(aP.mk fF ([]) x8)]:Z aP)]⟩],[]⟩⟩) (by simp [aP.trs_map,aP.tr_cs]) rfl kA (by simp [aP.cs]) (Nat.le_of_ble_eq_true rfl) ⟨⟨rfl,eM,rfl⟩,⟨⟨rfl,eM,rfl⟩,⟨⟨rfl,eM,rfl⟩,trivial⟩⟩⟩ rfl rfl (fA hC (lU rfl) (Nat.le_of_ble_eq_true rfl)) (by repeat' first|exact trivial|refine⟨⟨_,rfl,eM,rfl⟩,?_⟩)) ?_;refine q1 (b5 [pS y3,.lit 1 (aY (v9)),pI v10,pS v11,aT v12,.lit 4 (aF.trs (v13)),pB (decide (v34.below 4=0)),pB v35,pI v36,pS v37,aT v38,nD ([(aP.mk fF ([]) x8)]:Z aP)]) ?_;exact gE 2
 refine gQ 3 ?_;refine AL.weak (Wk.freezeE (k:=2) (sz:=11) (es:= [aP.cs (aP.mk fF ([fB]:LB) x8)]) (es':=aP.trs (([(aP.mk fF ([fB]:LB) x8)]:Z aP))) (s':=⟨[(0,.ptr 0 0),(2,.ptr 1 0),(3,.ptr 3 0),(63,pN (d45.below 12))],⟨[some ⟨133,dC d47⟩,some ⟨163,[pS s_,.nil,pI 0,pS s_,.nil,.nil,pB false,pB false,pI 0,pS s_,.nil,.nil]⟩,none,some ⟨163,[pS y3,.lit 1 (aY (v9)),pI v10,pS v11,aT v12,.lit 4 (aF.trs (v13)),pB (decide (v34.below 4=0)),pB v35,pI v36,pS v37,aT v38,nD ([(aP.mk fF ([fB]:LB) x8)]:Z aP)]⟩],[]⟩⟩) (by simp [aP.trs_map,aP.tr_cs]) rfl kA (by simp [aP.cs]) (Nat.le_of_ble_eq_true rfl) ⟨⟨rfl,eM,rfl⟩,⟨⟨rfl,eM,rfl⟩,⟨⟨rfl,eM,rfl⟩,trivial⟩⟩⟩ rfl rfl (fA hC (lU rfl) (Nat.le_of_ble_eq_true rfl)) (by repeat' first|exact trivial|refine⟨⟨_,rfl,eM,rfl⟩,?_⟩)) ?_;refine q1 (b5 [pS y3,.lit 1 (aY (v9)),pI v10,pS v11,aT v12,.lit 4 (aF.trs (v13)),pB (decide (v34.below 4=0)),pB v35,pI v36,pS v37,aT v38,nD ([(aP.mk fF ([fB]:LB) x8)]:Z aP)]) ?_;exact gE 2
def YC(fu:Nat)(pc:DS):J (aO×DS):=lt (pc.after ([s_f,s_g]:LB).length) fun d1=>lt (pc.pick ([s_f,s_g]:LB)) fun y3=>bd (nN fu gA) fun x6=>bd (F3 fu) fun x8=>bd (xO fu fB) fun x10=>lt (d1.after 10) fun d11=>sw (decide ((d1.below 10:Int)=0)) (bd (rN fu d11 2) fun(x15,x16)=>some ((aO.mk y3 ([gA]:LB) ([(aF.mk bD x6)]:Z aF) ([(aV.mk fB x6)]:Z aV) x15 (aL.mk 5 bD fF 0 (aA.mk 0 s_ []) ([x10]:Z aL) [])),x16)) (sw (decide ((d1.below 10:Int)=1)) (lt (d11.after ([fB,tG]:LB).length) fun d18=>lt (d11.pick ([fB,tG]:LB)) fun y20=>gd ((([(aV.mk fB x6)]:Z aV)).length+(([(aV.mk y20 x8)]:Z aV)).length≤68719476736) (some ((aO.mk y3 ([gA]:LB) ([(aF.mk bD x6)]:Z aF) (([(aV.mk fB x6)]:Z aV)++([(aV.mk y20 x8)]:Z aV)) x8 (aL.mk 5 bD fF 0 (aA.mk 0 s_ []) ([x10]:Z aL) [])),d18))) (sw (decide ((d1.below 10:Int)=2)) (bd (mH fu d11 ([fB,tG]:LB) 3) fun(x25,x26)=>some ((aO.mk y3 ([gA]:LB) ([(aF.mk bD x6)]:Z aF) ([(aV.mk fB x6)]:Z aV) x8 x25),x26)) (sw (decide ((d1.below 10:Int)=3)) (bd (rN fu d11 1) fun(x29,x30)=>some ((aO.mk y3 ([gA]:LB) ([(aF.mk bD x29)]:Z aF) ([(aV.mk fB x6)]:Z aV) x8 (aL.mk 5 bD fF 0 (aA.mk 0 s_ []) ([x10]:Z aL) [])),x30)) (sw (decide ((d1.below 10:Int)=4)) (lt (d11.after ([s_,GZ]:LB).length) fun d32=>lt (d11.pick ([s_,GZ]:LB)) fun y34=>some ((aO.mk y34 ([gA]:LB) ([(aF.mk bD x6)]:Z aF) ([(aV.mk fB x6)]:Z aV) x8 (aL.mk 5 bD fF 0 (aA.mk 0 s_ []) ([x10]:Z aL) [])),d32)) (some ((aO.mk y3 ([gA]:LB) ([(aF.mk bD x6)]:Z aF) ([(aV.mk fB x6)]:Z aV) x8 (aL.mk 5 bD fF 0 (aA.mk 0 s_ []) ([x10]:Z aL) [])),d11))))))
theorem aoL(fu:Nat)(pc:DS)(r:aO×DS)(H:YC fu pc=some r):cF prog 166 [.ptr 0 0] ⟨[some ⟨133,dC pc⟩],[]⟩ (fun q t=>q=((aO.pv r.1))∧t=⟨[some ⟨133,dC r.2⟩],[]⟩):=by
 refine qJ func166 H (fun C hC H=>?_)
 refine gQ 7 ?_;refine q1 (wP ([s_f,s_g]:LB)) (gI H fun d1 h2 H=>(gI H fun y3 h4 H=>(q1 (fJ [0] [] func48 (MF h2 h4 (fM pc ([s_f,s_g]:LB) (by decide)))) (q1 (wP ([gA]:LB)) (bM H fun x6 z5 H=>(q1 (bI func137 (lO (kX fu) gA _ z5)) (q1 rR (q1 (bC.buildSliceB (cs:= [pS bD,pI x6.aD8,pS x6.aD4,aT x6.aD5]) rfl rfl apT.h azW.h rfl rfl rfl (by decide) rfl (by decide)) (q1 (bI func137 (lO (kX fu) gA _ z5)) (q1 rR (q1 (wP ([(aV.mk fB x6)]:Z aV)) (bM H fun x8 z7 H=>(q1 (bI func49 (xY fu _ z7)) ?_)))))))))))))
 refine bM H fun x10 z9 H=>(q1 (bI func191 (CX fu fB _ z9)) (q1 (wP ([x10]:Z aL)) ?_))
 refine gQ 9 ?_;refine gI H fun d11 h12 H=>(q1 (fJ [0] [] func73 (IF h12 (gF d1 10))) ?_)
 refine gQ 7 ?_;refine bE H (fun h13 H=>?_) (fun h13 H=>?_)
 ·refine gQ 2 ?_;refine eO H fun x15 x16 z14 H=>(q1 (fJ [0] [] func132 (xX (xW fu) d11 2 _ z14)) ?_)
  refine gQ 5 ?_;refine AL.weak (Wk.freezeE (k:=2) (sz:=4) (es:= [aF.cs (aF.mk bD x6)]) (es':=aF.trs (([(aF.mk bD x6)]:Z aF))) (s':=⟨[(0,.ptr 0 0),(2,.ptr 1 0),(3,.ptr 3 0),(20,pN (d1.below 10))],⟨[some ⟨133,dC x16⟩,some ⟨213,[pS s_,.nil,.nil,.nil,pI 0,pS s_,.nil,pI 0,pS s_,pS s_,pI 0,pI 0,pS s_,.nil,.nil,.nil]⟩,none,some ⟨213,[pS y3,.lit 1 (aY (([gA]:LB))),cP ([(aF.mk bD x6)]:Z aF),.lit 4 (aV.trs (([(aV.mk fB x6)]:Z aV))),pI x15.aD8,pS x15.aD4,aT x15.aD5,pI 5,pS bD,pS fF,pI 0,pI 0,pS s_,.nil,.lit 9 (aL.trs (([x10]:Z aL))),.nil]⟩],[]⟩⟩) (by simp [aF.trs_map,aF.tr_cs]) rfl kA (by simp [aF.cs]) (Nat.le_of_ble_eq_true rfl) ⟨⟨rfl,eM,rfl⟩,⟨⟨rfl,eM,rfl⟩,⟨⟨rfl,eM,rfl⟩,trivial⟩⟩⟩ rfl rfl (fA hC (lU rfl) (Nat.le_of_ble_eq_true rfl)) (by repeat' first|exact trivial|refine⟨⟨_,rfl,eM,rfl⟩,?_⟩)) ?_;refine q1 (b5 [pS y3,.lit 1 (aY (([gA]:LB))),cP ([(aF.mk bD x6)]:Z aF),.lit 4 (aV.trs (([(aV.mk fB x6)]:Z aV))),pI x15.aD8,pS x15.aD4,aT x15.aD5,pI 5,pS bD,pS fF,pI 0,pI 0,pS s_,.nil,.lit 9 (aL.trs (([x10]:Z aL))),.nil]) ?_;exact gE 2
 refine gQ 5 ?_;refine bE H (fun h17 H=>?_) (fun h17 H=>?_)
 ·refine gI H fun d18 h19 H=>(gI H fun y20 h21 H=>(cK H fun z22 H=>(dW (dI [3] bY (dB [28] 0 1 vE (dI [0] bG (dI [] (wP ([fB,tG]:LB)) (dE [30,31] (fJ [0] [] func48 (MF h19 h21 (fM d11 ([fB,tG]:LB) (by decide)))) (dI [] (bI func49 (xY fu _ z7)) (dI [32,33] rR (dI [34] (wP ([(aV.mk y20 x8)]:Z aV)) ?_)))))))))))
  refine dI [29,35] (bC.appendLit (es1:=aV.trs (([(aV.mk fB x6)]:Z aV))) (es2:=aV.trs (([(aV.mk y20 x8)]:Z aV))) (es3:=aV.trs (([(aV.mk fB x6)]:Z aV)++([(aV.mk y20 x8)]:Z aV))) rfl rfl rfl rfl rfl (fun e he=>by rw [aV.trs_map] at he;obtain⟨x,_,rfl⟩:=List.mem_map.1 he;rw [aV.tr_cs];rfl) (fun e he=>by rw [aV.trs_map] at he;obtain⟨x,_,rfl⟩:=List.mem_map.1 he;rw [aV.tr_cs];rfl) (by rw [aV.trs_map];exact List.cons_ne_nil _ _) (by decide) avV.h awS.h (by decide) (by rw [aV.trs_len,aV.trs_len];exact DT z22 (by decide)) (by rw [aV.trs_map,aV.trs_map,aV.trs_map,List.map_append])) ?_;refine dI [3] bY (mK [37,36] lT (dN ?_))
  refine gQ 2 ?_;refine AL.weak (Wk.freezeE (k:=2) (sz:=4) (es:= [aF.cs (aF.mk bD x6)]) (es':=aF.trs (([(aF.mk bD x6)]:Z aF))) (s':=⟨[(0,.ptr 0 0),(2,.ptr 1 0),(3,.ptr 3 0),(20,pN (d1.below 10))],⟨[some ⟨133,dC d18⟩,some ⟨213,[pS s_,.nil,.nil,.nil,pI 0,pS s_,.nil,pI 0,pS s_,pS s_,pI 0,pI 0,pS s_,.nil,.nil,.nil]⟩,none,some ⟨213,[pS y3,.lit 1 (aY (([gA]:LB))),cP ([(aF.mk bD x6)]:Z aF),XI (([(aV.mk fB x6)]:Z aV)++([(aV.mk y20 x8)]:Z aV)),pI x8.aD8,pS x8.aD4,aT x8.aD5,pI 5,pS bD,pS fF,pI 0,pI 0,pS s_,.nil,.lit 9 (aL.trs (([x10]:Z aL))),.nil]⟩],[]⟩⟩) (by simp [aF.trs_map,aF.tr_cs]) rfl kA (by simp [aF.cs]) (Nat.le_of_ble_eq_true rfl) ⟨⟨rfl,eM,rfl⟩,⟨⟨rfl,eM,rfl⟩,⟨⟨rfl,eM,rfl⟩,trivial⟩⟩⟩ rfl rfl (fA hC (lU rfl) (Nat.le_of_ble_eq_true rfl)) (by repeat' first|exact trivial|refine⟨⟨_,rfl,eM,rfl⟩,?_⟩)) ?_;refine q1 (b5 [pS y3,.lit 1 (aY (([gA]:LB))),cP ([(aF.mk bD x6)]:Z aF),XI (([(aV.mk fB x6)]:Z aV)++([(aV.mk y20 x8)]:Z aV)),pI x8.aD8,pS x8.aD4,aT x8.aD5,pI 5,pS bD,pS fF,pI 0,pI 0,pS s_,.nil,.lit 9 (aL.trs (([x10]:Z aL))),.nil]) ?_;exact gE 2
 refine gQ 5 ?_;refine bE H (fun h23 H=>?_) (fun h23 H=>?_)
 ·refine gQ 2 ?_;refine q1 (wP ([fB,tG]:LB)) (eO H fun x25 x26 z24 H=>(q1 (fJ [0] [] func193 (T3 fu d11 ([fB,tG]:LB) 3 _ z24)) ?_))
  refine gQ 5 ?_;refine AL.weak (Wk.freezeE (k:=2) (sz:=4) (es:= [aF.cs (aF.mk bD x6)]) (es':=aF.trs (([(aF.mk bD x6)]:Z aF))) (s':=⟨[(0,.ptr 0 0),(2,.ptr 1 0),(3,.ptr 3 0),(20,pN (d1.below 10))],⟨[some ⟨133,dC x26⟩,some ⟨213,[pS s_,.nil,.nil,.nil,pI 0,pS s_,.nil,pI 0,pS s_,pS s_,pI 0,pI 0,pS s_,.nil,.nil,.nil]⟩,none,some ⟨213,[pS y3,.lit 1 (aY (([gA]:LB))),cP ([(aF.mk bD x6)]:Z aF),.lit 4 (aV.trs (([(aV.mk fB x6)]:Z aV))),pI x8.aD8,pS x8.aD4,aT x8.aD5,pI x25.aD8,pS x25.aEb,pS x25.aD4,pI x25.aEM,pI x25.aD6.aD8,pS x25.aD6.aD4,aT x25.aD6.aD5,jF x25.aD5,tA x25.aEo]⟩],[]⟩⟩) (by simp [aF.trs_map,aF.tr_cs]) rfl kA (by simp [aF.cs]) (Nat.le_of_ble_eq_true rfl) ⟨⟨rfl,eM,rfl⟩,⟨⟨rfl,eM,rfl⟩,⟨⟨rfl,eM,rfl⟩,trivial⟩⟩⟩ rfl rfl (fA hC (lU rfl) (Nat.le_of_ble_eq_true rfl)) (by repeat' first|exact trivial|refine⟨⟨_,rfl,eM,rfl⟩,?_⟩)) ?_;refine q1 (b5 [pS y3,.lit 1 (aY (([gA]:LB))),cP ([(aF.mk bD x6)]:Z aF),.lit 4 (aV.trs (([(aV.mk fB x6)]:Z aV))),pI x8.aD8,pS x8.aD4,aT x8.aD5,pI x25.aD8,pS x25.aEb,pS x25.aD4,pI x25.aEM,pI x25.aD6.aD8,pS x25.aD6.aD4,aT x25.aD6.aD5,jF x25.aD5,tA x25.aEo]) ?_;exact gE 2
 refine gQ 5 ?_;refine bE H (fun h27 H=>?_) (fun h27 H=>?_)
 ·refine eO H fun x29 x30 z28 H=>(dW (dI [3] bY (dB [46] 0 1 vE (dI [0] bG (dE [48] (fJ [0] [] func132 (xX (xW fu) d11 1 _ z28)) (dI [47] (bC.indexB (sz:=4) (k:=2) (N:=1) (i:=0) rfl rfl rfl rfl (by decide) apT.h) (dI [50] bY (mK [51,49] lT (dN ?_)))))))))
  refine gQ 2 ?_;refine AL.weak (Wk.freezeE (k:=2) (sz:=4) (es:= [aF.cs (aF.mk bD x29)]) (es':=aF.trs (([(aF.mk bD x29)]:Z aF))) (s':=⟨[(0,.ptr 0 0),(2,.ptr 1 0),(3,.ptr 3 0),(20,pN (d1.below 10))],⟨[some ⟨133,dC x30⟩,some ⟨213,[pS s_,.nil,.nil,.nil,pI 0,pS s_,.nil,pI 0,pS s_,pS s_,pI 0,pI 0,pS s_,.nil,.nil,.nil]⟩,none,some ⟨213,[pS y3,.lit 1 (aY (([gA]:LB))),cP ([(aF.mk bD x29)]:Z aF),.lit 4 (aV.trs (([(aV.mk fB x6)]:Z aV))),pI x8.aD8,pS x8.aD4,aT x8.aD5,pI 5,pS bD,pS fF,pI 0,pI 0,pS s_,.nil,.lit 9 (aL.trs (([x10]:Z aL))),.nil]⟩],[]⟩⟩) (by simp [aF.trs_map,aF.tr_cs]) rfl kA (by simp [aF.cs]) (Nat.le_of_ble_eq_true rfl) ⟨⟨rfl,eM,rfl⟩,⟨⟨rfl,eM,rfl⟩,⟨⟨rfl,eM,rfl⟩,trivial⟩⟩⟩ rfl rfl (fA hC (lU rfl) (Nat.le_of_ble_eq_true rfl)) (by repeat' first|exact trivial|refine⟨⟨_,rfl,eM,rfl⟩,?_⟩)) ?_;refine q1 (b5 [pS y3,.lit 1 (aY (([gA]:LB))),cP ([(aF.mk bD x29)]:Z aF),.lit 4 (aV.trs (([(aV.mk fB x6)]:Z aV))),pI x8.aD8,pS x8.aD4,aT x8.aD5,pI 5,pS bD,pS fF,pI 0,pI 0,pS s_,.nil,.lit 9 (aL.trs (([x10]:Z aL))),.nil]) ?_;exact gE 2
 refine gQ 5 ?_;refine bE H (fun h31 H=>?_) (fun h31 H=>?_)
 ·refine gQ 2 ?_;refine q1 (wP ([s_,GZ]:LB)) (gI H fun d32 h33 H=>(gI H fun y34 h35 H=>(q1 (fJ [0] [] func48 (MF h33 h35 (fM d11 ([s_,GZ]:LB) (by decide)))) ?_)))
  refine gQ 5 ?_;refine AL.weak (Wk.freezeE (k:=2) (sz:=4) (es:= [aF.cs (aF.mk bD x6)]) (es':=aF.trs (([(aF.mk bD x6)]:Z aF))) (s':=⟨[(0,.ptr 0 0),(2,.ptr 1 0),(3,.ptr 3 0),(20,pN (d1.below 10))],⟨[some ⟨133,dC d32⟩,some ⟨213,[pS s_,.nil,.nil,.nil,pI 0,pS s_,.nil,pI 0,pS s_,pS s_,pI 0,pI 0,pS s_,.nil,.nil,.nil]⟩,none,some ⟨213,[pS y34,.lit 1 (aY (([gA]:LB))),cP ([(aF.mk bD x6)]:Z aF),.lit 4 (aV.trs (([(aV.mk fB x6)]:Z aV))),pI x8.aD8,pS x8.aD4,aT x8.aD5,pI 5,pS bD,pS fF,pI 0,pI 0,pS s_,.nil,.lit 9 (aL.trs (([x10]:Z aL))),.nil]⟩],[]⟩⟩) (by simp [aF.trs_map,aF.tr_cs]) rfl kA (by simp [aF.cs]) (Nat.le_of_ble_eq_true rfl) ⟨⟨rfl,eM,rfl⟩,⟨⟨rfl,eM,rfl⟩,⟨⟨rfl,eM,rfl⟩,trivial⟩⟩⟩ rfl rfl (fA hC (lU rfl) (Nat.le_of_ble_eq_true rfl)) (by repeat' first|exact trivial|refine⟨⟨_,rfl,eM,rfl⟩,?_⟩)) ?_;refine q1 (b5 [pS y34,.lit 1 (aY (([gA]:LB))),cP ([(aF.mk bD x6)]:Z aF),.lit 4 (aV.trs (([(aV.mk fB x6)]:Z aV))),pI x8.aD8,pS x8.aD4,aT x8.aD5,pI 5,pS bD,pS fF,pI 0,pI 0,pS s_,.nil,.lit 9 (aL.trs (([x10]:Z aL))),.nil]) ?_;exact gE 2
 refine gQ 3 ?_;refine AL.weak (Wk.freezeE (k:=2) (sz:=4) (es:= [aF.cs (aF.mk bD x6)]) (es':=aF.trs (([(aF.mk bD x6)]:Z aF))) (s':=⟨[(0,.ptr 0 0),(2,.ptr 1 0),(3,.ptr 3 0),(20,pN (d1.below 10))],⟨[some ⟨133,dC d11⟩,some ⟨213,[pS s_,.nil,.nil,.nil,pI 0,pS s_,.nil,pI 0,pS s_,pS s_,pI 0,pI 0,pS s_,.nil,.nil,.nil]⟩,none,some ⟨213,[pS y3,.lit 1 (aY (([gA]:LB))),cP ([(aF.mk bD x6)]:Z aF),.lit 4 (aV.trs (([(aV.mk fB x6)]:Z aV))),pI x8.aD8,pS x8.aD4,aT x8.aD5,pI 5,pS bD,pS fF,pI 0,pI 0,pS s_,.nil,.lit 9 (aL.trs (([x10]:Z aL))),.nil]⟩],[]⟩⟩) (by simp [aF.trs_map,aF.tr_cs]) rfl kA (by simp [aF.cs]) (Nat.le_of_ble_eq_true rfl) ⟨⟨rfl,eM,rfl⟩,⟨⟨rfl,eM,rfl⟩,⟨⟨rfl,eM,rfl⟩,trivial⟩⟩⟩ rfl rfl (fA hC (lU rfl) (Nat.le_of_ble_eq_true rfl)) (by repeat' first|exact trivial|refine⟨⟨_,rfl,eM,rfl⟩,?_⟩)) ?_;refine q1 (b5 [pS y3,.lit 1 (aY (([gA]:LB))),cP ([(aF.mk bD x6)]:Z aF),.lit 4 (aV.trs (([(aV.mk fB x6)]:Z aV))),pI x8.aD8,pS x8.aD4,aT x8.aD5,pI 5,pS bD,pS fF,pI 0,pI 0,pS s_,.nil,.lit 9 (aL.trs (([x10]:Z aL))),.nil]) ?_;exact gE 2
def ad1(fu:Nat)(p0:DS)(x2:aA)(d3:DS)(y5:Y)(d7:DS)(x10:aA)(d13:DS)(x17 x19 x21:aL):J ((aU×DS)⊕((LB))):=lt (d13.after 3) fun d24=>sw (decide (d13.below 3=0)) (some (.inr ([eC]:LB))) (some (.inr ([])))
def ad3(fu:Nat)(p0:DS)(x2:aA)(d3:DS)(y5:Y)(d7:DS)(x10:aA)(d37:DS):J ((aU×DS)⊕((LB))):=lt (d37.after 3) fun d41=>sw (decide (d37.below 3=0)) (some (.inr ([eC]:LB))) (some (.inr ([])))
def QK(fu:Nat)(p0:DS)(x2:aA)(d3:DS)(y5:Y)(d7:DS)(x10:aA):J ((aU×DS)⊕((Z aG))):=lt (d7.after 2) fun d56=>sw (decide (d7.below 2=0)) (bd (xO fu fB) fun x61=>bd (u9 fu 1) fun x63=>bd (wC fu 10 DE ([(aL.mk 5 y5 fF 0 (aA.mk 0 s_ []) ([x61]:Z aL) []),x63]:Z aL)) fun x65=>gd ((([(aG.mk fF [] x10 false [] (aL.mk 0 s_ s_ 0 (aA.mk 0 s_ []) [] []))]:Z aG)).length+(([(aG.mk fV ([x2]:Z aA) x10 true ([fB,tG]:LB) x65)]:Z aG)).length≤68719476736) (some (.inr (([(aG.mk fF [] x10 false [] (aL.mk 0 s_ s_ 0 (aA.mk 0 s_ []) [] []))]:Z aG)++([(aG.mk fV ([x2]:Z aA) x10 true ([fB,tG]:LB) x65)]:Z aG))))) (some (.inr ([(aG.mk fF [] x10 false [] (aL.mk 0 s_ s_ 0 (aA.mk 0 s_ []) [] []))]:Z aG)))
def ad4(fu:Nat)(p0:DS)(x2:aA)(d3:DS)(y5:Y)(d7:DS)(x10:aA)(v55:Z aG):J ((aU×DS)⊕((LB))):=lt ((d7.after 2).after 3) fun d68=>sw (decide ((d7.after 2).below 3=0)) (some (.inr ([eC]:LB))) (some (.inr ([])))
def zE(fu:Nat)(p0:DS):J (aU×DS):=bd (nN fu kS) fun x2=>lt (p0.after ([bD,jZ,eB]:LB).length) fun d3=>lt (p0.pick ([bD,jZ,eB]:LB)) fun y5=>lt (d3.after 3) fun d7=>bd (F3 fu) fun x10=>sw (decide ((((((d7.after 2).after 3).below 12:Nat):Int):Int)=2)||decide ((((((d7.after 2).after 3).below 12:Nat):Int):Int)=3)) (sw (decide (d7.below 2=0)) (lt (d7.after 2) fun d13=>bd (xO fu fB) fun x17=>bd (u9 fu 1) fun x19=>bd (wC fu 10 DE ([(aL.mk 5 y5 fF 0 (aA.mk 0 s_ []) ([x17]:Z aL) []),x19]:Z aL)) fun x21=>gd ((([(aG.mk fF [] x10 false [] (aL.mk 0 s_ s_ 0 (aA.mk 0 s_ []) [] []))]:Z aG)).length+(([(aG.mk fV ([x2]:Z aA) x10 true ([fB,tG]:LB) x21)]:Z aG)).length≤68719476736) (so (ad1 fu p0 x2 d3 y5 d7 x10 d13 x17 x19 x21) fun v23=>lt ((d13.after 3).after 12) fun d28=>sw (decide (((((d13.after 3).below 12:Nat):Int):Int)=2)) (lt (d28.after ([kS,AD]:LB).length) fun d31=>lt (d28.pick ([kS,AD]:LB)) fun y33=>bd (nN fu y33) fun x36=>some ((aU.mk y5 v23 false (decide (d3.below 3=0)) ([(aG.mk fF ([]) x36 false ([]) (aL.mk 0 s_ s_ 0 (aA.mk 0 s_ ([])) ([]) ([]))),(aG.mk fV ([x2]:Z aA) x10 true ([fB,tG]:LB) x21)]:Z aG)),d31)) (some ((aU.mk y5 v23 false (decide (d3.below 3=0)) ([(aG.mk fF ([]) x10 true ([]) (aL.mk 0 s_ s_ 0 (aA.mk 0 s_ ([])) ([]) ([]))),(aG.mk fV ([x2]:Z aA) x10 true ([fB,tG]:LB) x21)]:Z aG)),d28)))) (lt (d7.after 2) fun d37=>so (ad3 fu p0 x2 d3 y5 d7 x10 d37) fun v40=>lt ((d37.after 3).after 12) fun d45=>sw (decide (((((d37.after 3).below 12:Nat):Int):Int)=2)) (lt (d45.after ([kS,AD]:LB).length) fun d48=>lt (d45.pick ([kS,AD]:LB)) fun y50=>bd (nN fu y50) fun x53=>some ((aU.mk y5 v40 false (decide (d3.below 3=0)) ([(aG.mk fF [] x53 false [] (aL.mk 0 s_ s_ 0 (aA.mk 0 s_ []) [] []))]:Z aG)),d48)) (some ((aU.mk y5 v40 false (decide (d3.below 3=0)) ([(aG.mk fF [] x10 true [] (aL.mk 0 s_ s_ 0 (aA.mk 0 s_ []) [] []))]:Z aG)),d45)))) (so (QK fu p0 x2 d3 y5 d7 x10) fun v55=>so (ad4 fu p0 x2 d3 y5 d7 x10 v55) fun v67=>lt (((d7.after 2).after 3).after 12) fun d72=>sw (decide ((((((d7.after 2).after 3).below 12:Nat):Int):Int)=0)) (some ((aU.mk y5 v67 true (decide (d3.below 3=0)) v55),d72)) (sw (decide ((((((d7.after 2).after 3).below 12:Nat):Int):Int)=1)) (lt (d72.after ([s_,eY,s_A]:LB).length) fun d76=>lt (d72.pick ([s_,eY,s_A]:LB)) fun y78=>some ((aU.mk y78 v67 false (decide (d3.below 3=0)) v55),d76)) (sw (decide ((((((d7.after 2).after 3).below 12:Nat):Int):Int)=4)) (gd ((v67).length+(([eC]:LB)).length≤68719476736) (some ((aU.mk y5 (v67++([eC]:LB)) false (decide (d3.below 3=0)) v55),d72))) (sw (decide ((((((d7.after 2).after 3).below 12:Nat):Int):Int)=5)) (gd (0<(v55).length) (lt (aR v55 0) fun y84=>gd ((v55).length+(([y84]:Z aG)).length≤68719476736) (some ((aU.mk y5 v67 false (decide (d3.below 3=0)) (v55++([y84]:Z aG))),d72)))) (some ((aU.mk y5 v67 false (decide (d3.below 3=0)) v55),d72))))))
theorem ad5(fu:Nat)(p0:DS)(r:aU×DS)(H:zE fu p0=some r):cF prog 163 [.ptr 0 0] ⟨[some ⟨133,dC p0⟩],[]⟩ (fun q t=>q=((aU.pv r.1))∧t=⟨[some ⟨133,dC r.2⟩],[]⟩):=by
 refine qJ func163 H (fun C hC H=>?_)
 refine gQ 6 ?_;refine bM H fun x2 z1 H=>(q1 (bI func137 (lO (kX fu) kS _ z1)) ?_)
 refine gQ 6 ?_;refine q1 (wP ([bD,jZ,eB]:LB)) (gI H fun d3 h4 H=>(gI H fun y5 h6 H=>(q1 (fJ [0] [] func48 (MF h4 h6 (fM p0 ([bD,jZ,eB]:LB) (by decide)))) (q1 bG (gI H fun d7 h8 H=>(q1 (fJ [0] [] func45 (IF h8 (pT d3 3))) (bM H fun x10 z9 H=>(q1 (bI func49 (xY fu _ z9)) (q1 rR ?_)))))))))
 rcases n0 (decide ((((((d7.after 2).after 3).below 12:Nat):Int):Int)=2)||decide ((((((d7.after 2).after 3).below 12:Nat):Int):Int)=3)) with g11|g11
 ·have H:=r9 H g11
  rcases n0 (decide (d7.below 2=0)) with g12|g12
  ·have H:=r9 H g12
   refine q1 (bC.buildSliceB (cs:= [pS fF,.nil,pI x10.aD8,pS x10.aD4,aT x10.aD5,pB false,.nil,pI 0,pS s_,pS s_,pI 0,pI 0,pS s_,.nil,.nil,.nil]) rfl rfl WH.h atU.h rfl rfl rfl (by decide) rfl (by decide)) ?_;refine gQ 8 ?_;refine gI H fun d13 h14 H=>?_
   have g15:=g11
   rw [← h14] at g15
   refine q1 (fJ [0] [] func45 (IF h14 (pT d7 2))) (qN (ajH g12 (bM H fun x17 z16 H=>(bM H fun x19 z18 H=>(bM H fun x21 z20 H=>?_)))))
   refine c7.wk (Wk.freezeE (k:=3) (sz:=16) (es:= [aG.cs (aG.mk fF [] x10 false [] (aL.mk 0 s_ s_ 0 (aA.mk 0 s_ []) [] []))]) (es':=aG.trs (([(aG.mk fF [] x10 false [] (aL.mk 0 s_ s_ 0 (aA.mk 0 s_ []) [] []))]:Z aG))) (s':=⟨[(0,.ptr 0 0),(2,.ptr 1 0),(3,.ptr 2 0),(4,.ptr 4 0),(5,(aA.pv x2)),(6,.ptr 0 0),(7,.lit 1 (aY (([bD,jZ,eB]:LB)))),(8,pS y5),(9,.ptr 0 0),(10,pB (decide (d3.below 3=0))),(11,(aA.pv x10)),(12,.agg [pS fF,.nil,pI x10.aD8,pS x10.aD4,aT x10.aD5,pB false,.nil,pI 0,pS s_,pS s_,pI 0,pI 0,pS s_,.nil,.nil,.nil]),(13,.lit 16 (aG.trs (([(aG.mk fF [] x10 false [] (aL.mk 0 s_ s_ 0 (aA.mk 0 s_ []) [] []))]:Z aG)))),(14,.agg [pS y5,.nil,pB false,pB (decide (d3.below 3=0)),.lit 16 (aG.trs (([(aG.mk fF [] x10 false [] (aL.mk 0 s_ s_ 0 (aA.mk 0 s_ []) [] []))]:Z aG)))]),(15,.ptr 0 0),(16,pB (decide (d7.below 2=0)))],⟨[some ⟨133,dC d13⟩,some ⟨156,[pS s_,.nil,pB false,pB false,.nil]⟩,some ⟨30,b7 x2⟩,none,some ⟨156,[pS y5,.nil,pB false,pB (decide (d3.below 3=0)),.lit 16 (aG.trs (([(aG.mk fF [] x10 false [] (aL.mk 0 s_ s_ 0 (aA.mk 0 s_ []) [] []))]:Z aG)))]⟩],[]⟩⟩) (by simp [aG.trs_map,aG.tr_cs]) rfl kA (by simp [aG.cs]) (Nat.le_of_ble_eq_true rfl) ⟨⟨rfl,eM,rfl⟩,⟨⟨rfl,eM,rfl⟩,⟨⟨rfl,eM,rfl⟩,⟨⟨rfl,eM,rfl⟩,trivial⟩⟩⟩⟩ rfl rfl (fA hC (lU rfl) (Nat.le_of_ble_eq_true rfl)) (by repeat' first|exact trivial|refine⟨⟨_,rfl,eM,rfl⟩,?_⟩)) ?_;refine cK H fun z22 H=>(dW (dI [4] bY (dD [17] eI (dD [3] (b5 [pI x2.aD8,pS x2.aD4,aT x2.aD5]) (dI [19] (wP ([x2]:Z aA)) (dI [] (bI func49 (xY fu _ z9)) (dI [] (wP ([fB,tG]:LB)) (dI [4] bY (dD [23] eI (dI [] (bI func191 (CX fu fB _ z16)) (dI [25] (wP ([x17]:Z aL)) (dI [24,26] rR (dI [] (bI func192 (xM fu 1 _ z18)) ?_)))))))))))))
   refine dI [27,28] (wP ([(aL.mk 5 y5 fF 0 (aA.mk 0 s_ []) ([x17]:Z aL) []),x19]:Z aL)) (dI [29] (bI func190 (xN fu 10 DE ([(aL.mk 5 y5 fF 0 (aA.mk 0 s_ []) ([x17]:Z aL) []),x19]:Z aL) _ z20)) (dI [20,21,22,30] rR (dI [31] (wP ([(aG.mk fV ([x2]:Z aA) x10 true ([fB,tG]:LB) x21)]:Z aG)) ?_)))
   refine dE [18,32] (bC.appendLitBE (es1:=aG.trs (([(aG.mk fF [] x10 false [] (aL.mk 0 s_ s_ 0 (aA.mk 0 s_ []) [] []))]:Z aG))) (es2:=aG.trs (([(aG.mk fV ([x2]:Z aA) x10 true ([fB,tG]:LB) x21)]:Z aG))) (es3:= [aG.cs (aG.mk fF [] x10 false [] (aL.mk 0 s_ s_ 0 (aA.mk 0 s_ []) [] [])),aG.cs (aG.mk fV ([x2]:Z aA) x10 true ([fB,tG]:LB) x21)]) (cs:= [pS fF,aT [],pI x10.aD8,pS x10.aD4,aT x10.aD5,pB false,rS [],pI 0,pS s_,pS s_,pI 0,pI 0,pS s_,aT [],jF [],tA [],pS fV,aT ([x2]:Z aA),pI x10.aD8,pS x10.aD4,aT x10.aD5,pB true,rS ([fB,tG]:LB),pI x21.aD8,pS x21.aEb,pS x21.aD4,pI x21.aEM,pI x21.aD6.aD8,pS x21.aD6.aD4,aT x21.aD6.aD5,jF x21.aD5,tA x21.aEo]) rfl rfl rfl rfl rfl (fun e he=>by rw [aG.trs_map] at he;obtain⟨x,_,rfl⟩:=List.mem_map.1 he;rw [aG.tr_cs];rfl) (fun e he=>by rw [aG.trs_map] at he;obtain⟨x,_,rfl⟩:=List.mem_map.1 he;rw [aG.tr_cs];rfl) (by rw [aG.trs_map];exact List.cons_ne_nil _ _) (by decide) WH.h awR.h (by decide) (by rw [aG.trs_len,aG.trs_len];exact DT z22 (by decide)) (by simp [aG.trs_map,aG.tr_cs]) rfl rfl) ?_;refine dI [4] bY (mK [34,33] lT (dN (qS ?_)))
   refine oT (σ:=(LB)) (fun v23=>⟨[(0,.ptr 0 0),(2,.ptr 1 0),(4,.ptr 4 0)],⟨[some ⟨133,dC (d13.after 3)⟩,some ⟨156,[pS s_,.nil,pB false,pB false,.nil]⟩,some ⟨30,b7 x2⟩,none,some ⟨156,[pS y5,.lit 1 (aY (v23)),pB false,pB (decide (d3.below 3=0)),.gsl 5 2]⟩,some ⟨237,[pS fF,aT [],pI x10.aD8,pS x10.aD4,aT x10.aD5,pB false,rS [],pI 0,pS s_,pS s_,pI 0,pI 0,pS s_,aT [],jF [],tA [],pS fV,aT ([x2]:Z aA),pI x10.aD8,pS x10.aD4,aT x10.aD5,pB true,rS ([fB,tG]:LB),pI x21.aD8,pS x21.aEb,pS x21.aD4,pI x21.aEM,pI x21.aD6.aD8,pS x21.aD6.aD4,aT x21.aD6.aD5,jF x21.aD5,tA x21.aEo]⟩],[]⟩⟩) (eX H) (fun H=>?_) ?_
   ·refine gQ 3 ?_;refine gI H fun d24 h25 H=>?_
    have g26:=g15
    rw [← h25] at g26
    refine q1 (fJ [0] [] func45 (IF h25 (pT d13 3))) (qN ?_)
    refine bE H (fun h27 H=>?_) (fun h27 H=>?_)
    ·refine qR (q1 (wP ([eC]:LB)) ?_)
     refine gQ 3 ?_
     subst h25
     exact gE 0
    refine c7.skip ?_
    subst h25
    exact gE 0
   rintro v23 H
   refine gQ 4 ?_;refine gI H fun d28 h29 H=>(q1 (fJ [0] [] func73 (IF h29 (gF (d13.after 3) 12))) ?_)
   refine gQ 7 ?_;refine WC (al3 (b:=0) g15 (by decide) (by decide)) ?_;refine gQ 5 ?_;refine WC (al3 (b:=1) g15 (by decide) (by decide)) ?_;refine gQ 5 ?_;refine bE H (fun h30 H=>?_) (fun h30 H=>?_)
   ·refine gI H fun d31 h32 H=>(gI H fun y33 h34 H=>(bM H fun x36 z35 H=>(dW (dI [4] bY (dB [52] 0 1 vE (dI [0] bG (dI [] (wP ([kS,AD]:LB)) (dE [54,55] (fJ [0] [] func48 (MF h32 h34 (fM d28 ([kS,AD]:LB) (by decide)))) (dI [56] (bI func137 (lO (kX fu) y33 _ z35)) (dI [53] (bC.indexG (sz:=16) (k:=5) (N:=2) (i:=0) rfl rfl rfl rfl (by decide) WH.h) (dI [58] bY (mK [59,57] lT (dN ?_)))))))))))))
    refine gQ 2 ?_;refine AL.weak (Wk.freezeE (k:=5) (sz:=16) (es:= [aG.cs (aG.mk fF ([]) x36 false ([]) (aL.mk 0 s_ s_ 0 (aA.mk 0 s_ ([])) ([]) ([]))),aG.cs (aG.mk fV ([x2]:Z aA) x10 true ([fB,tG]:LB) x21)]) (es':=aG.trs (([(aG.mk fF ([]) x36 false ([]) (aL.mk 0 s_ s_ 0 (aA.mk 0 s_ ([])) ([]) ([]))),(aG.mk fV ([x2]:Z aA) x10 true ([fB,tG]:LB) x21)]:Z aG))) (s':=⟨[(0,.ptr 0 0),(2,.ptr 1 0),(4,.ptr 4 0),(40,pN ((d13.after 3).below 12))],⟨[some ⟨133,dC d31⟩,some ⟨156,[pS s_,.nil,pB false,pB false,.nil]⟩,some ⟨30,b7 x2⟩,none,some ⟨156,[pS y5,.lit 1 (aY (v23)),pB false,pB (decide (d3.below 3=0)),gS ([(aG.mk fF ([]) x36 false ([]) (aL.mk 0 s_ s_ 0 (aA.mk 0 s_ ([])) ([]) ([]))),(aG.mk fV ([x2]:Z aA) x10 true ([fB,tG]:LB) x21)]:Z aG)]⟩,none],[]⟩⟩) (by simp [aG.trs_map,aG.tr_cs]) rfl kA (by simp [aG.cs]) (Nat.le_of_ble_eq_true rfl) ⟨⟨rfl,eM,rfl⟩,⟨⟨rfl,eM,rfl⟩,⟨⟨rfl,eM,rfl⟩,⟨⟨rfl,eM,rfl⟩,trivial⟩⟩⟩⟩ rfl rfl (fA hC (lU rfl) (Nat.le_of_ble_eq_true rfl)) (by repeat' first|exact trivial|refine⟨⟨_,rfl,eM,rfl⟩,?_⟩)) ?_;refine q1 (b5 [pS y5,.lit 1 (aY (v23)),pB false,pB (decide (d3.below 3=0)),gS ([(aG.mk fF ([]) x36 false ([]) (aL.mk 0 s_ s_ 0 (aA.mk 0 s_ ([])) ([]) ([]))),(aG.mk fV ([x2]:Z aA) x10 true ([fB,tG]:LB) x21)]:Z aG)]) ?_;exact gE 2
   refine gQ 5 ?_;refine ajH (atP g15 h30) ?_;refine gQ 3 ?_;refine q1 (bC.indexG (sz:=16) (k:=5) (N:=2) (i:=0) rfl rfl rfl rfl (by decide) WH.h) ?_;refine gQ 5 ?_;refine AL.weak (Wk.freezeE (k:=5) (sz:=16) (es:= [aG.cs (aG.mk fF ([]) x10 true ([]) (aL.mk 0 s_ s_ 0 (aA.mk 0 s_ ([])) ([]) ([]))),aG.cs (aG.mk fV ([x2]:Z aA) x10 true ([fB,tG]:LB) x21)]) (es':=aG.trs (([(aG.mk fF ([]) x10 true ([]) (aL.mk 0 s_ s_ 0 (aA.mk 0 s_ ([])) ([]) ([]))),(aG.mk fV ([x2]:Z aA) x10 true ([fB,tG]:LB) x21)]:Z aG))) (s':=⟨[(0,.ptr 0 0),(2,.ptr 1 0),(4,.ptr 4 0),(40,pN ((d13.after 3).below 12))],⟨[some ⟨133,dC d28⟩,some ⟨156,[pS s_,.nil,pB false,pB false,.nil]⟩,some ⟨30,b7 x2⟩,none,some ⟨156,[pS y5,.lit 1 (aY (v23)),pB false,pB (decide (d3.below 3=0)),gS ([(aG.mk fF ([]) x10 true ([]) (aL.mk 0 s_ s_ 0 (aA.mk 0 s_ ([])) ([]) ([]))),(aG.mk fV ([x2]:Z aA) x10 true ([fB,tG]:LB) x21)]:Z aG)]⟩,none],[]⟩⟩) (by simp [aG.trs_map,aG.tr_cs]) rfl kA (by simp [aG.cs]) (Nat.le_of_ble_eq_true rfl) ⟨⟨rfl,eM,rfl⟩,⟨⟨rfl,eM,rfl⟩,⟨⟨rfl,eM,rfl⟩,⟨⟨rfl,eM,rfl⟩,trivial⟩⟩⟩⟩ rfl rfl (fA hC (lU rfl) (Nat.le_of_ble_eq_true rfl)) (by repeat' first|exact trivial|refine⟨⟨_,rfl,eM,rfl⟩,?_⟩)) ?_;refine q1 (b5 [pS y5,.lit 1 (aY (v23)),pB false,pB (decide (d3.below 3=0)),gS ([(aG.mk fF ([]) x10 true ([]) (aL.mk 0 s_ s_ 0 (aA.mk 0 s_ ([])) ([]) ([]))),(aG.mk fV ([x2]:Z aA) x10 true ([fB,tG]:LB) x21)]:Z aG)]) ?_;exact gE 2
  have H:=r8 H g12
  refine q1 (bC.buildSliceB (cs:= [pS fF,.nil,pI x10.aD8,pS x10.aD4,aT x10.aD5,pB false,.nil,pI 0,pS s_,pS s_,pI 0,pI 0,pS s_,.nil,.nil,.nil]) rfl rfl WH.h atU.h rfl rfl rfl (by decide) rfl (by decide)) ?_;refine gQ 8 ?_;refine gI H fun d37 h38 H=>?_
  have g39:=g11
  rw [← h38] at g39
  refine q1 (fJ [0] [] func45 (IF h38 (pT d7 2))) (qN (WC g12 ?_))
  refine gQ 2 ?_;refine oT (σ:=(LB)) (fun v40=>⟨[(0,.ptr 0 0),(2,.ptr 1 0),(4,.ptr 4 0)],⟨[some ⟨133,dC (d37.after 3)⟩,some ⟨156,[pS s_,.nil,pB false,pB false,.nil]⟩,some ⟨30,b7 x2⟩,some ⟨237,[pS fF,.nil,pI x10.aD8,pS x10.aD4,aT x10.aD5,pB false,.nil,pI 0,pS s_,pS s_,pI 0,pI 0,pS s_,.nil,.nil,.nil]⟩,some ⟨156,[pS y5,.lit 1 (aY (v40)),pB false,pB (decide (d3.below 3=0)),.bsl 3 1]⟩],[]⟩⟩) (eX H) (fun H=>?_) ?_
  ·refine gQ 3 ?_;refine gI H fun d41 h42 H=>?_
   have g43:=g39
   rw [← h42] at g43
   refine q1 (fJ [0] [] func45 (IF h42 (pT d37 3))) (qN ?_)
   refine bE H (fun h44 H=>?_) (fun h44 H=>?_)
   ·refine qR (q1 (wP ([eC]:LB)) ?_)
    refine gQ 3 ?_
    subst h42
    exact gE 0
   refine c7.skip ?_
   subst h42
   exact gE 0
  rintro v40 H
  refine gQ 4 ?_;refine gI H fun d45 h46 H=>(q1 (fJ [0] [] func73 (IF h46 (gF (d37.after 3) 12))) ?_)
  refine gQ 7 ?_;refine WC (al3 (b:=0) g39 (by decide) (by decide)) ?_;refine gQ 5 ?_;refine WC (al3 (b:=1) g39 (by decide) (by decide)) ?_;refine gQ 5 ?_;refine bE H (fun h47 H=>?_) (fun h47 H=>?_)
  ·refine gI H fun d48 h49 H=>(gI H fun y50 h51 H=>(bM H fun x53 z52 H=>(dW (dI [4] bY (dB [52] 0 1 vE (dI [0] bG (dI [] (wP ([kS,AD]:LB)) (dE [54,55] (fJ [0] [] func48 (MF h49 h51 (fM d45 ([kS,AD]:LB) (by decide)))) (dI [56] (bI func137 (lO (kX fu) y50 _ z52)) (dI [53] (bC.indexB (sz:=16) (k:=3) (N:=1) (i:=0) rfl rfl rfl rfl (by decide) WH.h) (dI [58] bY (mK [59,57] lT (dN ?_)))))))))))))
   refine gQ 2 ?_;refine AL.weak (Wk.freezeE (k:=3) (sz:=16) (es:= [aG.cs (aG.mk fF [] x53 false [] (aL.mk 0 s_ s_ 0 (aA.mk 0 s_ []) [] []))]) (es':=aG.trs (([(aG.mk fF [] x53 false [] (aL.mk 0 s_ s_ 0 (aA.mk 0 s_ []) [] []))]:Z aG))) (s':=⟨[(0,.ptr 0 0),(2,.ptr 1 0),(4,.ptr 4 0),(40,pN ((d37.after 3).below 12))],⟨[some ⟨133,dC d48⟩,some ⟨156,[pS s_,.nil,pB false,pB false,.nil]⟩,some ⟨30,b7 x2⟩,none,some ⟨156,[pS y5,.lit 1 (aY (v40)),pB false,pB (decide (d3.below 3=0)),gS ([(aG.mk fF [] x53 false [] (aL.mk 0 s_ s_ 0 (aA.mk 0 s_ []) [] []))]:Z aG)]⟩],[]⟩⟩) (by simp [aG.trs_map,aG.tr_cs]) rfl kA (by simp [aG.cs]) (Nat.le_of_ble_eq_true rfl) ⟨⟨rfl,eM,rfl⟩,⟨⟨rfl,eM,rfl⟩,⟨⟨rfl,eM,rfl⟩,⟨⟨rfl,eM,rfl⟩,trivial⟩⟩⟩⟩ rfl rfl (fA hC (lU rfl) (Nat.le_of_ble_eq_true rfl)) (by repeat' first|exact trivial|refine⟨⟨_,rfl,eM,rfl⟩,?_⟩)) ?_;refine q1 (b5 [pS y5,.lit 1 (aY (v40)),pB false,pB (decide (d3.below 3=0)),gS ([(aG.mk fF [] x53 false [] (aL.mk 0 s_ s_ 0 (aA.mk 0 s_ []) [] []))]:Z aG)]) ?_;exact gE 2
  refine gQ 5 ?_;refine ajH (atP g39 h47) ?_;refine gQ 3 ?_;refine q1 (bC.indexB (sz:=16) (k:=3) (N:=1) (i:=0) rfl rfl rfl rfl (by decide) WH.h) ?_;refine gQ 5 ?_;refine AL.weak (Wk.freezeE (k:=3) (sz:=16) (es:= [aG.cs (aG.mk fF [] x10 true [] (aL.mk 0 s_ s_ 0 (aA.mk 0 s_ []) [] []))]) (es':=aG.trs (([(aG.mk fF [] x10 true [] (aL.mk 0 s_ s_ 0 (aA.mk 0 s_ []) [] []))]:Z aG))) (s':=⟨[(0,.ptr 0 0),(2,.ptr 1 0),(4,.ptr 4 0),(40,pN ((d37.after 3).below 12))],⟨[some ⟨133,dC d45⟩,some ⟨156,[pS s_,.nil,pB false,pB false,.nil]⟩,some ⟨30,b7 x2⟩,none,some ⟨156,[pS y5,.lit 1 (aY (v40)),pB false,pB (decide (d3.below 3=0)),gS ([(aG.mk fF [] x10 true [] (aL.mk 0 s_ s_ 0 (aA.mk 0 s_ []) [] []))]:Z aG)]⟩],[]⟩⟩) (by simp [aG.trs_map,aG.tr_cs]) rfl kA (by simp [aG.cs]) (Nat.le_of_ble_eq_true rfl) ⟨⟨rfl,eM,rfl⟩,⟨⟨rfl,eM,rfl⟩,⟨⟨rfl,eM,rfl⟩,⟨⟨rfl,eM,rfl⟩,trivial⟩⟩⟩⟩ rfl rfl (fA hC (lU rfl) (Nat.le_of_ble_eq_true rfl)) (by repeat' first|exact trivial|refine⟨⟨_,rfl,eM,rfl⟩,?_⟩)) ?_;refine q1 (b5 [pS y5,.lit 1 (aY (v40)),pB false,pB (decide (d3.below 3=0)),gS ([(aG.mk fF [] x10 true [] (aL.mk 0 s_ s_ 0 (aA.mk 0 s_ []) [] []))]:Z aG)]) ?_;exact gE 2
 have H:=r8 H g11
 refine q1 (sA ([(aG.mk fF [] x10 false [] (aL.mk 0 s_ s_ 0 (aA.mk 0 s_ []) [] []))]:Z aG)) ?_;refine gQ 5 ?_;refine oT (σ:=(Z aG)) (fun v55=>⟨[(0,.ptr 0 0),(2,.ptr 1 0),(4,.ptr 3 0)],⟨[some ⟨133,dC (d7.after 2)⟩,some ⟨156,[pS s_,.nil,pB false,pB false,.nil]⟩,some ⟨30,b7 x2⟩,some ⟨156,[pS y5,.nil,pB false,pB (decide (d3.below 3=0)),mC v55 0]⟩],[⟨237,16,aG.trs (v55),false⟩]⟩⟩) (eX H) (fun H=>?_) ?_
 ·refine gQ 3 ?_;refine gI H fun d56 h57 H=>?_
  have g58:=g11
  rw [← h57] at g58
  refine q1 (fJ [0] [] func45 (IF h57 (pT d7 2))) (qN ?_)
  refine bE H (fun h59 H=>?_) (fun h59 H=>?_)
  ·refine bM H fun x61 z60 H=>(bM H fun x63 z62 H=>(bM H fun x65 z64 H=>(cK H fun z66 H=>(dW (dI [4] bY (dD [17] eI (dD [3] (b5 [pI x2.aD8,pS x2.aD4,aT x2.aD5]) (dI [19] (wP ([x2]:Z aA)) (dI [] (bI func49 (xY fu _ z9)) (dI [] (wP ([fB,tG]:LB)) (dI [4] bY (dD [23] eI (dI [] (bI func191 (CX fu fB _ z60)) ?_)))))))))))))
   refine dI [25] (wP ([x61]:Z aL)) (dI [24,26] rR (dI [] (bI func192 (xM fu 1 _ z62)) (dI [27,28] (wP ([(aL.mk 5 y5 fF 0 (aA.mk 0 s_ []) ([x61]:Z aL) []),x63]:Z aL)) (dI [29] (bI func190 (xN fu 10 DE ([(aL.mk 5 y5 fF 0 (aA.mk 0 s_ []) ([x61]:Z aL) []),x63]:Z aL) _ z64)) (dI [20,21,22,30] rR (dI [31] (wP ([(aG.mk fV ([x2]:Z aA) x10 true ([fB,tG]:LB) x65)]:Z aG)) (dE [18,32] (mA z66) (dI [4] bY (mK [34,33] lT (dN ?_))))))))))
   subst h57
   exact gE 0
  refine c7.skip ?_
  subst h57
  exact gE 0
 rintro v55 H
 refine qS ?_;refine oT (σ:=(LB)) (fun v67=>⟨[(0,.ptr 0 0),(2,.ptr 1 0),(4,.ptr 3 0)],⟨[some ⟨133,dC ((d7.after 2).after 3)⟩,some ⟨156,[pS s_,.nil,pB false,pB false,.nil]⟩,some ⟨30,b7 x2⟩,some ⟨156,[pS y5,.lit 1 (aY (v67)),pB false,pB (decide (d3.below 3=0)),mC v55 0]⟩],[⟨237,16,aG.trs (v55),false⟩]⟩⟩) (eX H) (fun H=>?_) ?_
 ·refine gQ 3 ?_;refine gI H fun d68 h69 H=>?_
  have g70:=g11
  rw [← h69] at g70
  refine q1 (fJ [0] [] func45 (IF h69 (pT (d7.after 2) 3))) (qN ?_)
  refine bE H (fun h71 H=>?_) (fun h71 H=>?_)
  ·refine qR (q1 (wP ([eC]:LB)) ?_)
   refine gQ 3 ?_
   subst h69
   exact gE 0
  refine c7.skip ?_
  subst h69
  exact gE 0
 rintro v67 H
 refine gQ 4 ?_;refine gI H fun d72 h73 H=>(q1 (fJ [0] [] func73 (IF h73 (gF ((d7.after 2).after 3) 12))) ?_)
 refine gQ 7 ?_;refine bE H (fun h74 H=>?_) (fun h74 H=>?_)
 ·refine gQ 6 ?_;refine q1 (b5 [pS y5,.lit 1 (aY (v67)),pB true,pB (decide (d3.below 3=0)),mC v55 0]) ?_;exact gE 2
 refine gQ 5 ?_;refine bE H (fun h75 H=>?_) (fun h75 H=>?_)
 ·refine gQ 2 ?_;refine q1 (wP ([s_,eY,s_A]:LB)) (gI H fun d76 h77 H=>(gI H fun y78 h79 H=>(q1 (fJ [0] [] func48 (MF h77 h79 (fM d72 ([s_,eY,s_A]:LB) (by decide)))) ?_)))
  refine gQ 5 ?_;refine q1 (b5 [pS y78,.lit 1 (aY (v67)),pB false,pB (decide (d3.below 3=0)),mC v55 0]) ?_;exact gE 2
 refine gQ 5 ?_;refine WC (av9 g11) ?_;refine gQ 5 ?_;refine WC (awA g11) ?_;refine gQ 5 ?_;refine bE H (fun h80 H=>?_) (fun h80 H=>?_)
 ·refine gQ 3 ?_;refine q1 (wP ([eC]:LB)) (cK H fun z81 H=>?_)
  refine q1 (bC.appendLit (es1:=aY (v67)) (es2:=aY (([eC]:LB))) (es3:=aY (v67++([eC]:LB))) rfl rfl rfl rfl rfl (sU _) (sU _) (by exact List.cons_ne_nil _ _) (by decide) ZI.h as8.h (by decide) (by rw [b0,b0];exact DT z81 (by decide)) (yI _ _)) ?_;refine gQ 5 ?_;refine q1 (b5 [pS y5,rS (v67++([eC]:LB)),pB false,pB (decide (d3.below 3=0)),mC v55 0]) ?_;exact gE 2
 refine gQ 5 ?_;refine bE H (fun h82 H=>?_) (fun h82 H=>?_)
 ·refine cK H fun z83 H=>(gI H fun y84 h85 H=>(cK H fun z86 H=>(dW (dI [4] bY (dD [75] eI (dI [4] bY (dD [77] eI (dI [78] (zM h85 z83) (dI [79] (iR (aG.cs y84)) (dI [80] (wP ([y84]:Z aG)) (dE [76,81] (mA z86) (dI [4] bY (mK [83,82] lT ?_)))))))))))))
  refine dN ?_;refine gQ 2 ?_;refine q1 (b5 [pS y5,.lit 1 (aY (v67)),pB false,pB (decide (d3.below 3=0)),mC (v55++([y84]:Z aG)) 0]) ?_;exact gE 2
 refine gQ 3 ?_;refine q1 (b5 [pS y5,.lit 1 (aY (v67)),pB false,pB (decide (d3.below 3=0)),mC v55 0]) ?_;exact gE 2
def CZ(fu:Nat)(pc:DS):J (aM×DS):=bd (nN fu gA) fun x2=>bd (gW fu cM ([x2]:Z aA)) fun x4=>lt (pc.after 10) fun d5=>sw (decide ((pc.below 10:Int)=0)) (lt (d5.after ([gA,AD]:LB).length) fun d8=>lt (d5.pick ([gA,AD]:LB)) fun y10=>gd ((([gA]:LB)).length+(([y10]:LB)).length≤68719476736) (some ((aM.mk cM (([gA]:LB)++([y10]:LB)) ([(aC.mk gL []),(aC.mk cL ([x2,x4]:Z aA))]:Z aC)),d8))) (sw (decide ((pc.below 10:Int)=1)) (lt (d5.after 2) fun d14=>gd ((0:Int)≤0∧(0:Int)≤(d5.below 2:Int)∧(d5.below 2:Int)≤((([(aC.mk gL []),(aC.mk cL ([x2,x4]:Z aA))]:Z aC).length:Nat):Int)) (some ((aM.mk cM ([gA]:LB) (List.drop (0:Int).toNat (List.take (d5.below 2:Int).toNat ([(aC.mk gL []),(aC.mk cL ([x2,x4]:Z aA))]:Z aC)))),d14))) (sw (decide ((pc.below 10:Int)=2)) (bd (rN fu d5 2) fun(x19,x20)=>some ((aM.mk cM ([gA]:LB) ([(aC.mk gL ([x19]:Z aA)),(aC.mk cL ([x2,x4]:Z aA))]:Z aC)),x20)) (sw (decide ((pc.below 10:Int)=3)) (lt (d5.after ([cL,s_,X7]:LB).length) fun d22=>lt (d5.pick ([cL,s_,X7]:LB)) fun y24=>some ((aM.mk cM ([gA]:LB) ([(aC.mk y24 []),(aC.mk cL ([x2,x4]:Z aA))]:Z aC)),d22)) (some ((aM.mk cM ([gA]:LB) ([(aC.mk gL []),(aC.mk cL ([x2,x4]:Z aA))]:Z aC)),d5)))))
theorem ah1(fu:Nat)(pc:DS)(r:aM×DS)(H:CZ fu pc=some r):cF prog 164 [.ptr 0 0] ⟨[some ⟨133,dC pc⟩],[]⟩ (fun q t=>q=((aM.pv r.1))∧t=⟨[some ⟨133,dC r.2⟩],[]⟩):=by
 refine qJ func164 H (fun C hC H=>?_)
 refine gQ 6 ?_;refine q1 (wP ([gA]:LB)) (q1 rR (bM H fun x2 z1 H=>?_))
 iterate 2 refine q1 (bI func137 (lO (kX fu) gA _ z1)) ?_
 refine q1 (wP ([x2]:Z aA)) (bM H fun x4 z3 H=>(q1 (bI func47 (vC (jJ fu) cM ([x2]:Z aA) _ z3)) (q1 (wP ([x2,x4]:Z aA)) (q1 rR (q1 (bC.buildSliceB (cs:= [pS gL,.nil,pS cL,.lit 3 (aA.trs (([x2,x4]:Z aA)))]) rfl rfl ar1.h azX.h rfl rfl rfl (by decide) rfl (by decide)) ?_)))))
 refine gQ 8 ?_;refine gI H fun d5 h6 H=>(q1 (fJ [0] [] func73 (IF h6 (gF pc 10))) ?_)
 refine gQ 7 ?_;refine bE H (fun h7 H=>?_) (fun h7 H=>?_)
 ·refine gI H fun d8 h9 H=>(gI H fun y10 h11 H=>(cK H fun z12 H=>(dW (dI [3] bY (dB [18] 0 1 vE (dI [0] bG (dI [] (wP ([gA,AD]:LB)) (dE [20,21] (fJ [0] [] func48 (MF h9 h11 (fM d5 ([gA,AD]:LB) (by decide)))) (dI [22] (wP ([y10]:LB)) ?_)))))))))
  refine dI [19,23] (bC.appendLit (es1:=aY (([gA]:LB))) (es2:=aY (([y10]:LB))) (es3:=aY (([gA]:LB)++([y10]:LB))) rfl rfl rfl rfl rfl (sU _) (sU _) (by exact List.cons_ne_nil _ _) (by decide) ZI.h as8.h (by decide) (by rw [b0,b0];exact DT z12 (by decide)) (yI _ _)) ?_;refine dI [3] bY (mK [25,24] lT (dN ?_))
  refine gQ 2 ?_;refine AL.weak (Wk.freezeE (k:=2) (sz:=2) (es:= [aC.cs (aC.mk gL []),aC.cs (aC.mk cL ([x2,x4]:Z aA))]) (es':=aC.trs (([(aC.mk gL []),(aC.mk cL ([x2,x4]:Z aA))]:Z aC))) (s':=⟨[(0,.ptr 0 0),(2,.ptr 1 0),(3,.ptr 3 0),(15,pN (pc.below 10))],⟨[some ⟨133,dC d8⟩,some ⟨39,[pS s_,.nil,.nil]⟩,none,some ⟨39,[pS cM,rS (([gA]:LB)++([y10]:LB)),dT ([(aC.mk gL []),(aC.mk cL ([x2,x4]:Z aA))]:Z aC)]⟩],[]⟩⟩) (by simp [aC.trs_map,aC.tr_cs]) rfl kA (by simp [aC.cs]) (Nat.le_of_ble_eq_true rfl) ⟨⟨rfl,eM,rfl⟩,⟨⟨rfl,eM,rfl⟩,⟨⟨rfl,eM,rfl⟩,trivial⟩⟩⟩ rfl rfl (fA hC (lU rfl) (Nat.le_of_ble_eq_true rfl)) (by repeat' first|exact trivial|refine⟨⟨_,rfl,eM,rfl⟩,?_⟩)) ?_;refine q1 (b5 [pS cM,rS (([gA]:LB)++([y10]:LB)),dT ([(aC.mk gL []),(aC.mk cL ([x2,x4]:Z aA))]:Z aC)]) ?_;exact gE 2
 refine gQ 5 ?_;refine bE H (fun h13 H=>?_) (fun h13 H=>?_)
 ·refine gI H fun d14 h15 H=>?_;refine c7.wk (Wk.freezeE (k:=2) (sz:=2) (es:= [aC.cs (aC.mk gL []),aC.cs (aC.mk cL ([x2,x4]:Z aA))]) (es':=aC.trs (([(aC.mk gL []),(aC.mk cL ([x2,x4]:Z aA))]:Z aC))) (s':=⟨[(0,.ptr 0 0),(2,.ptr 1 0),(3,.ptr 3 0),(4,.lit 1 (aY (([gA]:LB)))),(5,.agg [pS gL,.nil]),(6,(aA.pv x2)),(7,(aA.pv x2)),(8,.lit 3 (aA.trs (([x2]:Z aA)))),(9,(aA.pv x4)),(10,.lit 3 (aA.trs (([x2,x4]:Z aA)))),(11,.agg [pS cL,.lit 3 (aA.trs (([x2,x4]:Z aA)))]),(12,dT ([(aC.mk gL []),(aC.mk cL ([x2,x4]:Z aA))]:Z aC)),(13,.agg [pS cM,.lit 1 (aY (([gA]:LB))),dT ([(aC.mk gL []),(aC.mk cL ([x2,x4]:Z aA))]:Z aC)]),(14,.ptr 0 0),(15,pN (pc.below 10)),(16,pB (decide ((pc.below 10:Int)=0))),(17,pB (decide ((pc.below 10:Int)=0))),(26,pB (decide ((pc.below 10:Int)=1))),(27,pB (decide ((pc.below 10:Int)=1)))],⟨[some ⟨133,dC d5⟩,some ⟨39,[pS s_,.nil,.nil]⟩,none,some ⟨39,[pS cM,.lit 1 (aY (([gA]:LB))),dT ([(aC.mk gL []),(aC.mk cL ([x2,x4]:Z aA))]:Z aC)]⟩],[]⟩⟩) (by simp [aC.trs_map,aC.tr_cs]) rfl kA (by simp [aC.cs]) (Nat.le_of_ble_eq_true rfl) ⟨⟨rfl,eM,rfl⟩,⟨⟨rfl,eM,rfl⟩,⟨⟨rfl,eM,rfl⟩,trivial⟩⟩⟩ rfl rfl (fA hC (lU rfl) (Nat.le_of_ble_eq_true rfl)) (by repeat' first|exact trivial|refine⟨⟨_,rfl,eM,rfl⟩,?_⟩)) ?_;refine cK H fun z16 H=>(dW (dI [3] bY (dB [28] 0 1 vE (dI [0] bG (dE [30] (fJ [0] [] func73 (IF h15 (gF d5 2))) ?_)))))
  refine dI [29,31] (bC.congrP (bC.sliceR (es:=aC.trs (([(aC.mk gL []),(aC.mk cL ([x2,x4]:Z aA))]:Z aC))) (l:=0) (k:=(d5.below 2:Int)) rfl rfl rfl rfl rfl (by rw [aC.trs_len];exact rfl) (by rw [aC.trs_len];exact z16) ar1.h) (aC.trs_part _ _ _)) ?_;refine dI [3] bY (mK [33,32] lT (dN ?_))
  refine gQ 2 ?_;refine q1 (b5 [pS cM,.lit 1 (aY (([gA]:LB))),dT (List.drop (0:Int).toNat (List.take (d5.below 2:Int).toNat ([(aC.mk gL []),(aC.mk cL ([x2,x4]:Z aA))]:Z aC)))]) ?_;exact gE 2
 refine gQ 5 ?_;refine bE H (fun h17 H=>?_) (fun h17 H=>?_)
 ·refine eO H fun x19 x20 z18 H=>(dW (dI [3] bY (dB [36] 0 1 vE (dI [0] bG (dE [38] (fJ [0] [] func132 (xX (xW fu) d5 2 _ z18)) (dI [39] (wP ([x19]:Z aA)) (dI [37] (bC.indexB (sz:=2) (k:=2) (N:=2) (i:=0) rfl rfl rfl rfl (by decide) ar1.h) (dI [41] bY (mK [42,40] lT (dN ?_))))))))))
  refine gQ 2 ?_;refine AL.weak (Wk.freezeE (k:=2) (sz:=2) (es:= [aC.cs (aC.mk gL ([x19]:Z aA)),aC.cs (aC.mk cL ([x2,x4]:Z aA))]) (es':=aC.trs (([(aC.mk gL ([x19]:Z aA)),(aC.mk cL ([x2,x4]:Z aA))]:Z aC))) (s':=⟨[(0,.ptr 0 0),(2,.ptr 1 0),(3,.ptr 3 0),(15,pN (pc.below 10))],⟨[some ⟨133,dC x20⟩,some ⟨39,[pS s_,.nil,.nil]⟩,none,some ⟨39,[pS cM,.lit 1 (aY (([gA]:LB))),dT ([(aC.mk gL ([x19]:Z aA)),(aC.mk cL ([x2,x4]:Z aA))]:Z aC)]⟩],[]⟩⟩) (by simp [aC.trs_map,aC.tr_cs]) rfl kA (by simp [aC.cs]) (Nat.le_of_ble_eq_true rfl) ⟨⟨rfl,eM,rfl⟩,⟨⟨rfl,eM,rfl⟩,⟨⟨rfl,eM,rfl⟩,trivial⟩⟩⟩ rfl rfl (fA hC (lU rfl) (Nat.le_of_ble_eq_true rfl)) (by repeat' first|exact trivial|refine⟨⟨_,rfl,eM,rfl⟩,?_⟩)) ?_;refine q1 (b5 [pS cM,.lit 1 (aY (([gA]:LB))),dT ([(aC.mk gL ([x19]:Z aA)),(aC.mk cL ([x2,x4]:Z aA))]:Z aC)]) ?_;exact gE 2
 refine gQ 5 ?_;refine bE H (fun h21 H=>?_) (fun h21 H=>?_)
 ·refine gI H fun d22 h23 H=>(gI H fun y24 h25 H=>(dW (dI [3] bY (dB [45] 0 1 vE (dI [0] bG (dI [] (wP ([cL,s_,X7]:LB)) (dE [47,48] (fJ [0] [] func48 (MF h23 h25 (fM d5 ([cL,s_,X7]:LB) (by decide)))) (dI [46] (bC.indexB (sz:=2) (k:=2) (N:=2) (i:=0) rfl rfl rfl rfl (by decide) ar1.h) (dI [50] bY (mK [51,49] lT (dN ?_)))))))))))
  refine gQ 2 ?_;refine AL.weak (Wk.freezeE (k:=2) (sz:=2) (es:= [aC.cs (aC.mk y24 []),aC.cs (aC.mk cL ([x2,x4]:Z aA))]) (es':=aC.trs (([(aC.mk y24 []),(aC.mk cL ([x2,x4]:Z aA))]:Z aC))) (s':=⟨[(0,.ptr 0 0),(2,.ptr 1 0),(3,.ptr 3 0),(15,pN (pc.below 10))],⟨[some ⟨133,dC d22⟩,some ⟨39,[pS s_,.nil,.nil]⟩,none,some ⟨39,[pS cM,.lit 1 (aY (([gA]:LB))),dT ([(aC.mk y24 []),(aC.mk cL ([x2,x4]:Z aA))]:Z aC)]⟩],[]⟩⟩) (by simp [aC.trs_map,aC.tr_cs]) rfl kA (by simp [aC.cs]) (Nat.le_of_ble_eq_true rfl) ⟨⟨rfl,eM,rfl⟩,⟨⟨rfl,eM,rfl⟩,⟨⟨rfl,eM,rfl⟩,trivial⟩⟩⟩ rfl rfl (fA hC (lU rfl) (Nat.le_of_ble_eq_true rfl)) (by repeat' first|exact trivial|refine⟨⟨_,rfl,eM,rfl⟩,?_⟩)) ?_;refine q1 (b5 [pS cM,.lit 1 (aY (([gA]:LB))),dT ([(aC.mk y24 []),(aC.mk cL ([x2,x4]:Z aA))]:Z aC)]) ?_;exact gE 2
 refine gQ 3 ?_;refine AL.weak (Wk.freezeE (k:=2) (sz:=2) (es:= [aC.cs (aC.mk gL []),aC.cs (aC.mk cL ([x2,x4]:Z aA))]) (es':=aC.trs (([(aC.mk gL []),(aC.mk cL ([x2,x4]:Z aA))]:Z aC))) (s':=⟨[(0,.ptr 0 0),(2,.ptr 1 0),(3,.ptr 3 0),(15,pN (pc.below 10))],⟨[some ⟨133,dC d5⟩,some ⟨39,[pS s_,.nil,.nil]⟩,none,some ⟨39,[pS cM,.lit 1 (aY (([gA]:LB))),dT ([(aC.mk gL []),(aC.mk cL ([x2,x4]:Z aA))]:Z aC)]⟩],[]⟩⟩) (by simp [aC.trs_map,aC.tr_cs]) rfl kA (by simp [aC.cs]) (Nat.le_of_ble_eq_true rfl) ⟨⟨rfl,eM,rfl⟩,⟨⟨rfl,eM,rfl⟩,⟨⟨rfl,eM,rfl⟩,trivial⟩⟩⟩ rfl rfl (fA hC (lU rfl) (Nat.le_of_ble_eq_true rfl)) (by repeat' first|exact trivial|refine⟨⟨_,rfl,eM,rfl⟩,?_⟩)) ?_;refine q1 (b5 [pS cM,.lit 1 (aY (([gA]:LB))),dT ([(aC.mk gL []),(aC.mk cL ([x2,x4]:Z aA))]:Z aC)]) ?_;exact gE 2
def OA(fu:Nat)(p0 d1:DS):Nat→((Z aU)×(Z aM)×(Z aI)×(Z aO)×DS)→J (LR ((Z aU)×(Z aM)×(Z aI)×(Z aO)×DS) (aN×DS)):=fun i3 (v9,v10,v11,v12,v4)=>lt (v4.after 4) fun d15=>sw (decide ((v4.below 4:Int)=0)) (bd (zE fu d15) fun(x19,x20)=>gd ((v9).length+(([x19]:Z aU)).length≤68719476736) (some (.next ((v9++([x19]:Z aU)),v10,v11,v12,x20)))) (sw (decide ((v4.below 4:Int)=1)) (bd (CZ fu d15) fun(x24,x25)=>gd ((v10).length+(([x24]:Z aM)).length≤68719476736) (some (.next (v9,(v10++([x24]:Z aM)),v11,v12,x25)))) (sw (decide ((v4.below 4:Int)=2)) (bd (C0 fu d15) fun(x29,x30)=>gd ((v11).length+(([x29]:Z aI)).length≤68719476736) (some (.next (v9,v10,(v11++([x29]:Z aI)),v12,x30)))) (bd (YC fu d15) fun(x33,x34)=>gd ((v12).length+(([x33]:Z aO)).length≤68719476736) (some (.next (v9,v10,v11,(v12++([x33]:Z aO)),x34))))))
def xR(fu:Nat)(p0:DS):J (aN×DS):=lt (p0.after 5) fun d1=>so (loopN (OA fu p0 d1) (p0.below 5-0) 0 (([]),([]),([]),([]),d1)) fun(v9,v10,v11,v12,v4)=>lt (v4.after 10) fun d36=>sw (decide ((v4.below 10:Int)=0)) (lt (d36.after ([s_,gU]:LB).length) fun d39=>lt (d36.pick ([s_,gU]:LB)) fun y41=>some ((aN.mk y41 ([gU]:LB) v9 v10 v11 v12),d39)) (sw (decide ((v4.below 10:Int)=1)) (lt (d36.after ([gU,s_q,s_p]:LB).length) fun d44=>lt (d36.pick ([gU,s_q,s_p]:LB)) fun y46=>gd ((([gU]:LB)).length+(([y46]:LB)).length≤68719476736) (some ((aN.mk s_p (([gU]:LB)++([y46]:LB)) v9 v10 v11 v12),d44))) (some ((aN.mk s_p ([gU]:LB) v9 v10 v11 v12),d36)))
theorem akV(fu:Nat)(p0:DS)(r:aN×DS)(H:xR fu p0=some r):cF prog 127 [.ptr 0 0] ⟨[some ⟨133,dC p0⟩],[]⟩ (fun q t=>q=((aN.pv r.1))∧t=⟨[some ⟨133,dC r.2⟩],[]⟩):=by
 refine qJ func127 H (fun C hC H=>?_)
 refine gQ 6 ?_;refine q1 (wP ([gU]:LB)) ?_;refine gQ 7 ?_;refine gI H fun d1 h2 H=>(q1 (fJ [0] [] func73 (IF h2 (gF p0 5))) ?_)
 refine gQ 7 ?_;refine c7.wk (Wk.regBox (k:=2) (j:=2) 156 5 (by decide) rfl rfl) (c7.wk (Wk.regBox (k:=2) (j:=3) 39 3 (by decide) rfl rfl) (c7.wk (Wk.regBox (k:=2) (j:=4) 163 12 (by decide) rfl rfl) (c7.wk (Wk.regBox (k:=2) (j:=5) 213 16 (by decide) rfl rfl) ?_)))
 have hb13:=DS.below_lt (d:=p0) (n:=5) (by decide)
 refine bV (σ:=(Z aU)×(Z aM)×(Z aI)×(Z aO)×DS) (fun i3 (v9,v10,v11,v12,v4)=>⟨[(0,.ptr 0 0),(2,.ptr 1 0),(3,.ptr 2 0),(4,pN (p0.below 5)),(5,pN i3)],⟨[some ⟨133,dC v4⟩,some ⟨141,[pS s_,.nil,.nil,.nil,.nil,.nil]⟩,some ⟨141,[pS s_p,.lit 1 (aY (([gU]:LB))),BT v9 0,n3 v10 1,n5 v11 2,n4 v12 3]⟩],[⟨156,5,aU.trs (v9),false⟩,⟨39,3,aM.trs (v10),false⟩,⟨163,12,aI.trs (v11),false⟩,⟨213,16,aO.trs (v12),false⟩]⟩⟩) (fun(v9,v10,v11,v12,v4)=>⟨[(0,.ptr 0 0),(2,.ptr 1 0),(3,.ptr 2 0)],⟨[some ⟨133,dC v4⟩,some ⟨141,[pS s_,.nil,.nil,.nil,.nil,.nil]⟩,some ⟨141,[pS s_p,.lit 1 (aY (([gU]:LB))),BT v9 0,n3 v10 1,n5 v11 2,n4 v12 3]⟩],[⟨156,5,aU.trs (v9),false⟩,⟨39,3,aM.trs (v10),false⟩,⟨163,12,aI.trs (v11),false⟩,⟨213,16,aO.trs (v12),false⟩]⟩⟩) (eX H) ?_ ?_
 ·rintro i3 ⟨v9,v10,v11,v12,v4⟩ H
  refine gQ 7 ?_;refine c5 H (fun h14 h14l H=>?_) (fun h14 H=>?_)
  ·have h14n:i3<p0.below 5:=by have:=of_decide_eq_true h14;omega
   refine gQ 6 ?_;refine gI H fun d15 h16 H=>(q1 (fJ [0] [] func73 (IF h16 (gF v4 4))) ?_)
   refine gQ 7 ?_;refine bE H (fun h17 H=>?_) (fun h17 H=>?_)
   ·refine eO H fun x19 x20 z18 H=>(cK H fun z21 H=>(dW (dI [3] bY (dB [26] 0 1 vE (dI [0] bG (dE [28] (fJ [0] [] func163 (ad5 fu d15 _ z18)) (dI [29] (wP ([x19]:Z aU)) (dE [27,30] (mA z21) (dI [3] bY (mK [32,31] lT (dN ?_)))))))))))
    exact gE 5
   refine gQ 5 ?_;refine bE H (fun h22 H=>?_) (fun h22 H=>?_)
   ·refine eO H fun x24 x25 z23 H=>(cK H fun z26 H=>(dW (dI [3] bY (dB [35] 0 1 vE (dI [0] bG (dE [37] (fJ [0] [] func164 (ah1 fu d15 _ z23)) (dI [38] (wP ([x24]:Z aM)) (dE [36,39] (mA z26) (dI [3] bY (mK [41,40] lT (dN ?_)))))))))))
    exact gE 5
   refine gQ 5 ?_;refine bE H (fun h27 H=>?_) (fun h27 H=>?_)
   ·refine eO H fun x29 x30 z28 H=>(cK H fun z31 H=>(dW (dI [3] bY (dB [44] 0 1 vE (dI [0] bG (dE [46] (fJ [0] [] func165 (ah2 fu d15 _ z28)) (dI [47] (wP ([x29]:Z aI)) (dE [45,48] (mA z31) (dI [3] bY (mK [50,49] lT (dN ?_)))))))))))
    exact gE 5
   refine eO H fun x33 x34 z32 H=>(cK H fun z35 H=>(dW (dI [3] bY (dB [17] 0 1 vE (dI [0] bG (dE [19] (fJ [0] [] func166 (aoL fu d15 _ z32)) (dI [20] (wP ([x33]:Z aO)) (dE [18,21] (mA z35) (dI [3] bY (mK [23,22] lT (dN ?_)))))))))))
   exact gE 5
  exact gE 0
 rintro⟨v9,v10,v11,v12,v4⟩ H
 refine gQ 4 ?_;refine gI H fun d36 h37 H=>(q1 (fJ [0] [] func73 (IF h37 (gF v4 10))) ?_)
 refine gQ 7 ?_;refine bE H (fun h38 H=>?_) (fun h38 H=>?_)
 ·refine gQ 2 ?_;refine q1 (wP ([s_,gU]:LB)) (gI H fun d39 h40 H=>(gI H fun y41 h42 H=>(q1 (fJ [0] [] func48 (MF h40 h42 (fM d36 ([s_,gU]:LB) (by decide)))) ?_)))
  refine gQ 5 ?_;refine q1 (b5 [pS y41,.lit 1 (aY (([gU]:LB))),BT v9 0,n3 v10 1,n5 v11 2,n4 v12 3]) ?_;exact gE 2
 refine gQ 5 ?_;refine bE H (fun h43 H=>?_) (fun h43 H=>?_)
 ·refine gI H fun d44 h45 H=>(gI H fun y46 h47 H=>(cK H fun z48 H=>(dW (dI [3] bY (dB [61] 0 1 vE (dI [0] bG (dI [] (wP ([gU,s_q,s_p]:LB)) (dE [63,64] (fJ [0] [] func48 (MF h45 h47 (fM d36 ([gU,s_q,s_p]:LB) (by decide)))) (dI [65] (wP ([y46]:LB)) ?_)))))))))
  refine dI [62,66] (bC.appendLit (es1:=aY (([gU]:LB))) (es2:=aY (([y46]:LB))) (es3:=aY (([gU]:LB)++([y46]:LB))) rfl rfl rfl rfl rfl (sU _) (sU _) (by exact List.cons_ne_nil _ _) (by decide) ZI.h as8.h (by decide) (by rw [b0,b0];exact DT z48 (by decide)) (yI _ _)) ?_;refine dI [3] bY (mK [68,67] lT (dN ?_))
  refine gQ 2 ?_;refine q1 (b5 [pS s_p,rS (([gU]:LB)++([y46]:LB)),BT v9 0,n3 v10 1,n5 v11 2,n4 v12 3]) ?_;exact gE 2
 refine gQ 3 ?_;refine q1 (b5 [pS s_p,.lit 1 (aY (([gU]:LB))),BT v9 0,n3 v10 1,n5 v11 2,n4 v12 3]) ?_;exact gE 2
def oZ(fu:Nat)(pc:DS):J (aH×DS):=bd (C3 fu pc) fun(x2,x3)=>lt (x3.after 5) fun d4=>sw (decide (x3.below 5=0)) (bd (xR fu d4) fun(x8,x9)=>gd ((x2.aD3).length+(([x8]:Z aN)).length≤68719476736) (some ((aH.mk (x2.aD3++([x8]:Z aN))),x9))) (some ((aH.mk x2.aD3),d4))
theorem aeG(fu:Nat)(pc:DS)(r:aH×DS)(H:oZ fu pc=some r):cF prog 69 [.ptr 0 0] ⟨[some ⟨133,dC pc⟩],[]⟩ (fun q t=>q=((aH.pv r.1))∧t=⟨[some ⟨133,dC r.2⟩],[]⟩):=by
 refine qJ func69 H (fun C hC H=>?_)
 refine gQ 7 ?_;refine eO H fun x2 x3 z1 H=>(q1 (bC.callOwn (pre:=⟨[some ⟨133,dC pc⟩],[]⟩) (B:= [some ⟨133,dC x3⟩]) (R:=fun k=> .agg [tS x2.aD3 k]) (ps:= [_]) (qs:= [.ptr 0 0]) [0] rfl rfl func126 (by kernel_rfl) rfl rfl rfl (fK.of ⟨⟨_,rfl,rfl,kA,rfl⟩,trivial⟩ trivial (by decide) (by decide)) rfl kA rfl rfl rfl (fun k k'=>(.agg (.cons Mv.acc HZ.nil))) (ah6 fu pc _ z1)) ?_)
 refine gQ 7 ?_;refine gI H fun d4 h5 H=>(q1 (fJ [0] [] func45 (IF h5 (pT x3 5))) (qN ?_))
 refine bE H (fun h6 H=>?_) (fun h6 H=>?_)
 ·refine eO H fun x8 x9 z7 H=>(cK H fun z10 H=>(dW (dI [3] bY (dB [8] 0 1 vE (dI [0] bG (dE [10] (fJ [0] [] func127 (akV fu d4 _ z7)) (dI [11] (iQ ([x8]:Z aN)) (dE [9,12] (mA z10) (dI [3] bY (mK [14,13] lT (dN ?_)))))))))))
  refine gQ 2 ?_;refine q1 (b5 [tS (x2.aD3++([x8]:Z aN)) 0]) ?_;exact gE 2
 refine gQ 3 ?_;refine q1 (b5 [tS x2.aD3 0]) ?_;exact gE 2
def tB(fu:Nat)(pw:aH)(i1:Nat)(v3:Z aE):((Z aE)×Int)→J (LR ((Z aE)×Int) (LR ((Z aE)) ((Z aE)))):=fun(v8,v7)=>lt (aR pw.aD3 i1) fun y11=>sw (decide (v7<(y11.aEg.length:Int))) (gd ((v8).length+(([(aE.mk (i1:Int) v7)]:Z aE)).length≤68719476736) (some (.next ((v8++([(aE.mk (i1:Int) v7)]:Z aE)),(aW (v7+1)))))) (some (.brk (v8,v7)))
def xH(fu:Nat)(pw:aH):Nat→((Z aE))→J (LR ((Z aE)) ((Z aE))):=fun i1 v3=>so (loopW (tB fu pw i1 v3) fu (v3,0)) fun(v8,v7)=>some (.next v8)
def t7(fu:Nat)(pw:aH):J ((Z aE)):=so (loopN (xH fu pw) (pw.aD3.length-0) 0 ([])) fun v3=>some v3
theorem SL(fu:Nat)(pw:aH)(r:(Z aE))(H:t7 fu pw=some r):bS prog 209 [(aH.pv pw)] (c9 r):=by
 refine qJ func209 H (fun C hC H=>?_)
 refine gQ 2 ?_;refine q1 (fN ([aQ pw.aD3])) ?_;refine gQ 4 ?_;refine q1 (sA ([]:Z aE)) ?_;refine gQ 7 ?_;refine c7.fact (cQ 0 0 rfl rfl rfl (aN.trs_len _)) (fun hl4=>?_)
 refine bV (σ:=(Z aE)) (fun i1 v3=>⟨[(1,.ptr 0 0),(2,.nil),(3,gC v3 0),(4,pN i1)],⟨[some ⟨26,[aQ pw.aD3]⟩],[⟨52,2,aE.trs (v3),false⟩]⟩⟩) (fun v3=>⟨[(2,.nil),(3,gC v3 0)],⟨[some ⟨26,[aQ pw.aD3]⟩],[⟨52,2,aE.trs (v3),false⟩]⟩⟩) (eX H) ?_ ?_
 ·rintro i1 v3 H
  refine gQ 9 ?_;refine c5 H (fun h5 h5l H=>?_) (fun h5 H=>?_)
  ·refine gQ 7 ?_;refine gM 3 (aE.trs_len _) (fun hl10=>?_)
   refine TU (σ:=(Z aE)×Int) (fun(v8,v7)=>⟨[(1,.ptr 0 0),(2,.nil),(3,gC v8 0),(4,pN i1),(5,pI v7),(7,pN i1),(8,.ptr 0 0),(9,aQ pw.aD3),(10,pN pw.aD3.length),(11,pB (decide ((i1:Int)<(pw.aD3.length:Int))))],⟨[some ⟨26,[aQ pw.aD3]⟩],[⟨52,2,aE.trs (v8),false⟩]⟩⟩) (fun(v8,v7)=>⟨[(1,.ptr 0 0),(2,.nil),(3,gC v8 0),(4,pN i1),(5,pI v7),(7,pN i1),(8,.ptr 0 0),(9,aQ pw.aD3),(10,pN pw.aD3.length),(11,pB (decide ((i1:Int)<(pw.aD3.length:Int))))],⟨[some ⟨26,[aQ pw.aD3]⟩],[⟨52,2,aE.trs (v8),false⟩]⟩⟩) (eX H) ?_ ?_
   ·rintro k9 ⟨v8,v7⟩ H
    refine gQ 7 ?_;refine gI H fun y11 h12 H=>(q1 (zM h12 h5l) ?_)
    refine gQ 2 ?_;refine ZW 20 (aI.trs_len _) (fun hl13=>?_)
    refine gQ 3 ?_;refine bE H (fun h14 H=>?_) (fun h14 H=>?_)
    ·refine gQ 8 ?_;refine q1 (iQ ([(aE.mk (i1:Int) v7)]:Z aE)) (cK H fun z15 H=>(q1 (mA z15) ?_))
     exact gE 7
    exact gE 0
   rintro⟨v8,v7⟩ H
   exact gE 5
  exact gE 0
 rintro v3 H
 exact gE 5
def FC(fu:Nat)(pw:aH)(i1:Nat)(v3:Z aE)(y6:aN):Nat→((Z aE))→J (LR ((Z aE)) (LR ((Z aE)) ((Z aE)))):=fun i9 v11=>gd ((v11).length+(([(aE.mk (i1:Int) (i9:Int))]:Z aE)).length≤68719476736) (some (.next (v11++([(aE.mk (i1:Int) (i9:Int))]:Z aE))))
def wU(fu:Nat)(pw:aH):Nat→((Z aE))→J (LR ((Z aE)) ((Z aE))):=fun i1 v3=>lt (aR pw.aD3 i1) fun y6=>so (loopN (FC fu pw i1 v3 y6) (y6.aEg.length-0) 0 v3) fun v11=>some (.next v11)
def t5(fu:Nat)(pw:aH):J ((Z aE)):=so (loopN (wU fu pw) (pw.aD3.length-0) 0 ([])) fun v3=>some v3
theorem anL(fu:Nat)(pw:aH)(r:(Z aE))(H:t5 fu pw=some r):bS prog 180 [(aH.pv pw)] (c9 r):=by
 refine qJ func180 H (fun C hC H=>?_)
 refine gQ 2 ?_;refine q1 (fN ([aQ pw.aD3])) ?_;refine gQ 4 ?_;refine q1 (sA ([]:Z aE)) ?_;refine gQ 10 ?_;refine gM 9 (aN.trs_len _) (fun hl4=>?_)
 refine bV (σ:=(Z aE)) (fun i1 v3=>⟨[(2,.nil),(3,gC v3 0),(9,aQ pw.aD3),(10,pN pw.aD3.length),(11,pN i1)],⟨[some ⟨26,[aQ pw.aD3]⟩],[⟨52,2,aE.trs (v3),false⟩]⟩⟩) (fun v3=>⟨[(2,.nil),(3,gC v3 0)],⟨[some ⟨26,[aQ pw.aD3]⟩],[⟨52,2,aE.trs (v3),false⟩]⟩⟩) (eX H) ?_ ?_
 ·rintro i1 v3 H
  refine gQ 5 ?_;refine c5 H (fun h5 h5l H=>?_) (fun h5 H=>?_)
  ·refine gQ 6 ?_;refine gI H fun y6 h7 H=>(q1 (zM h7 h5l) (q1 (iR (aN.cs y6)) ?_))
   refine gQ 8 ?_;refine ZW 17 (aI.trs_len _) (fun hl8=>?_)
   refine gQ 3 ?_;refine bV (σ:=(Z aE)) (fun i9 v11=>⟨[(2,.nil),(3,gC v11 0),(4,pN i1),(5,.ptr 1 0),(9,aQ pw.aD3),(10,pN pw.aD3.length),(11,pN i1),(12,pB (decide ((i1:Int)<(pw.aD3.length:Int)))),(13,pN i1),(14,.eptr (aN.cs y6)),(15,(aN.pv y6)),(16,.ptr 1 4),(17,oJ y6.aEg),(18,pN y6.aEg.length),(19,pN i9)],⟨[some ⟨26,[aQ pw.aD3]⟩,some ⟨141,fG y6⟩],[⟨52,2,aE.trs (v11),false⟩]⟩⟩) (fun v11=>⟨[(2,.nil),(3,gC v11 0),(4,pN i1),(5,.ptr 1 0),(9,aQ pw.aD3),(10,pN pw.aD3.length),(11,pN i1),(12,pB (decide ((i1:Int)<(pw.aD3.length:Int)))),(13,pN i1),(14,.eptr (aN.cs y6)),(15,(aN.pv y6)),(16,.ptr 1 4),(17,oJ y6.aEg),(18,pN y6.aEg.length)],⟨[some ⟨26,[aQ pw.aD3]⟩,some ⟨141,fG y6⟩],[⟨52,2,aE.trs (v11),false⟩]⟩⟩) (eX H) ?_ ?_
   ·rintro i9 v11 H
    refine gQ 5 ?_;refine c5 H (fun h12 h12l H=>?_) (fun h12 H=>?_)
    ·refine gQ 13 ?_;refine q1 (iQ ([(aE.mk (i1:Int) (i9:Int))]:Z aE)) (cK H fun z13 H=>(q1 (mA z13) ?_))
     exact gE 6
    exact gE 0
   rintro v11 H
   exact gE 4
  exact gE 0
 rintro v3 H
 exact gE 5
theorem PG(fu:Nat)(pw:aH)(r:(Z aE))(H:t5 fu pw=some r):arP prog 180 [(aH.pv pw)] 52 2 (aE.trs (r)) none:=by
 unfold arP
 refine qJ func180 H (fun C hC H=>?_)
 refine gQ 2 ?_;refine q1 (fN ([aQ pw.aD3])) ?_;refine gQ 4 ?_;refine q1 (sA ([]:Z aE)) ?_;refine gQ 10 ?_;refine gM 9 (aN.trs_len _) (fun hl4=>?_)
 refine bV (σ:=(Z aE)) (fun i1 v3=>⟨[(2,.nil),(3,gC v3 0),(9,aQ pw.aD3),(10,pN pw.aD3.length),(11,pN i1)],⟨[some ⟨26,[aQ pw.aD3]⟩],[⟨52,2,aE.trs (v3),false⟩]⟩⟩) (fun v3=>⟨[(2,.nil),(3,gC v3 0)],⟨[some ⟨26,[aQ pw.aD3]⟩],[⟨52,2,aE.trs (v3),false⟩]⟩⟩) (eX H) ?_ ?_
 ·rintro i1 v3 H
  refine gQ 5 ?_;refine c5 H (fun h5 h5l H=>?_) (fun h5 H=>?_)
  ·refine gQ 6 ?_;refine gI H fun y6 h7 H=>(q1 (zM h7 h5l) (q1 (iR (aN.cs y6)) ?_))
   refine gQ 8 ?_;refine ZW 17 (aI.trs_len _) (fun hl8=>?_)
   refine gQ 3 ?_;refine bV (σ:=(Z aE)) (fun i9 v11=>⟨[(2,.nil),(3,gC v11 0),(4,pN i1),(5,.ptr 1 0),(9,aQ pw.aD3),(10,pN pw.aD3.length),(11,pN i1),(12,pB (decide ((i1:Int)<(pw.aD3.length:Int)))),(13,pN i1),(14,.eptr (aN.cs y6)),(15,(aN.pv y6)),(16,.ptr 1 4),(17,oJ y6.aEg),(18,pN y6.aEg.length),(19,pN i9)],⟨[some ⟨26,[aQ pw.aD3]⟩,some ⟨141,fG y6⟩],[⟨52,2,aE.trs (v11),false⟩]⟩⟩) (fun v11=>⟨[(2,.nil),(3,gC v11 0),(4,pN i1),(5,.ptr 1 0),(9,aQ pw.aD3),(10,pN pw.aD3.length),(11,pN i1),(12,pB (decide ((i1:Int)<(pw.aD3.length:Int)))),(13,pN i1),(14,.eptr (aN.cs y6)),(15,(aN.pv y6)),(16,.ptr 1 4),(17,oJ y6.aEg),(18,pN y6.aEg.length)],⟨[some ⟨26,[aQ pw.aD3]⟩,some ⟨141,fG y6⟩],[⟨52,2,aE.trs (v11),false⟩]⟩⟩) (eX H) ?_ ?_
   ·rintro i9 v11 H
    refine gQ 5 ?_;refine c5 H (fun h12 h12l H=>?_) (fun h12 H=>?_)
    ·refine gQ 13 ?_;refine q1 (iQ ([(aE.mk (i1:Int) (i9:Int))]:Z aE)) (cK H fun z13 H=>(q1 (mA z13) ?_))
     exact gE 6
    exact gE 0
   rintro v11 H
   exact gE 4
  exact gE 0
 rintro v3 H
 refine gQ 5 ?_;refine c7.ret ?_
 obtain rfl:_=r:=(wL H:)
 exact DC.mk (ps:= [_]) (by first|exact .inr rfl|exact .inl rfl) ⟨rfl,trivial⟩ rfl (tR.mk' (st':=⟨[],[⟨52,2,aE.trs (v3),false⟩]⟩) trivial (by first|rfl|simp)) ⟨fun k x h=>by simp [hC] at h,fun r row h=>by simp [hC] at h⟩ (q:= .acc 2 (aE.trs (v3)) 0) kA rfl ⟨0,rfl,rfl⟩
def ajX(fu:Nat)(p1:Z UInt8):J Bool:=some (decide ((p1.length:Int)>1048576))
theorem ar8(fu:Nat)(p1:Z UInt8)(r:Bool)(H:ajX fu p1=some r):bS prog 9 [rU p1] (pB r):=by
 refine qJ func9 H (fun C hC H=>?_)
 exact gE 11
def R1(fu:Nat)(pw:aH)(p0:Y)(i1:Nat)(y4:aN):Nat→Unit→J (LR Unit (LR Unit (aU×Int×Bool))):=fun i7 _=>sw (decide ((aR y4.aEi i7).aD4=p0)) (some (.ret (.ret ((aR y4.aEi i7),(i1:Int),true)))) (some (.next ()))
def R0(fu:Nat)(pw:aH)(p0:Y):Nat→Unit→J (LR Unit (aU×Int×Bool)):=fun i1 _=>lt (aR pw.aD3 i1) fun y4=>so (loopN (R1 fu pw p0 i1 y4) (y4.aEi.length-0) 0 ()) fun _=>some (.next ())
def yU(fu:Nat)(pw:aH)(p0:Y):J (aU×Int×Bool):=so (loopN (R0 fu pw p0) (pw.aD3.length-0) 0 ()) fun _=>some ((aU.mk s_ [] false false []),0,false)
theorem FK(fu:Nat)(pw:aH)(p0:Y)(r:aU×Int×Bool)(H:yU fu pw p0=some r):bS prog 115 [(aH.pv pw),pS p0] (.tup [(aU.pv r.1),pI r.2.1,pB r.2.2]):=by
 refine qJ func115 H (fun C hC H=>?_)
 refine gQ 2 ?_;refine q1 (fN ([aQ pw.aD3])) ?_;refine gQ 12 ?_;refine gM 12 (aN.trs_len _) (fun hl2=>?_)
 refine bV (σ:=Unit) (fun i1 _=>⟨[(1,pS p0),(4,.ptr 1 0),(5,pI 0),(6,pB false),(12,aQ pw.aD3),(13,pN pw.aD3.length),(14,pN i1)],⟨[some ⟨26,[aQ pw.aD3]⟩,some ⟨156,[pS s_,.nil,pB false,pB false,.nil]⟩],[]⟩⟩) (fun _=>⟨[(4,.ptr 1 0),(5,pI 0),(6,pB false)],⟨[some ⟨26,[aQ pw.aD3]⟩,some ⟨156,[pS s_,.nil,pB false,pB false,.nil]⟩],[]⟩⟩) (eX H) ?_ ?_
 ·rintro i1 ⟨⟩ H
  refine gQ 5 ?_;refine c5 H (fun h3 h3l H=>?_) (fun h3 H=>?_)
  ·refine gQ 6 ?_;refine gI H fun y4 h5 H=>(q1 (zM h5 h3l) (q1 (iR (aN.cs y4)) ?_))
   refine gQ 8 ?_;refine ZW 20 (aU.trs_len _) (fun hl6=>?_)
   refine gQ 3 ?_;refine bV (σ:=Unit) (fun i7 _=>⟨[(1,pS p0),(4,.ptr 1 0),(5,pI 0),(6,pB false),(7,pN i1),(8,.ptr 2 0),(12,aQ pw.aD3),(13,pN pw.aD3.length),(14,pN i1),(15,pB (decide ((i1:Int)<(pw.aD3.length:Int)))),(16,pN i1),(17,.eptr (aN.cs y4)),(18,(aN.pv y4)),(19,.ptr 2 2),(20,SI y4.aEi),(21,pN y4.aEi.length),(22,pN i7)],⟨[some ⟨26,[aQ pw.aD3]⟩,some ⟨156,[pS s_,.nil,pB false,pB false,.nil]⟩,some ⟨141,fG y4⟩],[]⟩⟩) (fun _=>⟨[(1,pS p0),(4,.ptr 1 0),(5,pI 0),(6,pB false),(7,pN i1),(8,.ptr 2 0),(12,aQ pw.aD3),(13,pN pw.aD3.length),(14,pN i1),(15,pB (decide ((i1:Int)<(pw.aD3.length:Int)))),(16,pN i1),(17,.eptr (aN.cs y4)),(18,(aN.pv y4)),(19,.ptr 2 2),(20,SI y4.aEi),(21,pN y4.aEi.length)],⟨[some ⟨26,[aQ pw.aD3]⟩,some ⟨156,[pS s_,.nil,pB false,pB false,.nil]⟩,some ⟨141,fG y4⟩],[]⟩⟩) (eX H) ?_ ?_
   ·rintro i7 ⟨⟩ H
    refine gQ 5 ?_;refine c5 H (fun h8 h8l H=>?_) (fun h8 H=>?_)
    ·refine gQ 6 ?_;refine q1 (iR (aU.cs (aR y4.aEi i7))) ?_;refine gQ 10 ?_;refine bE H (fun h9 H=>?_) (fun h9 H=>?_)
     ·refine gQ 2 ?_;refine q1 (b5 [pS ((aR y4.aEi i7).aD4),rS ((aR y4.aEi i7).aEc),pB ((aR y4.aEi i7).aEA),pB ((aR y4.aEi i7).aEq),gS ((aR y4.aEi i7).aEp)]) ?_;refine gQ 5 ?_;refine c7.ret ?_
      obtain rfl:_=r:=(lkR (skL (lkR (wL H))):)
      exact qf3
     exact gE 5
    exact gE 0
   rintro⟨⟩ H
   exact gE 4
  exact gE 0
 rintro⟨⟩ H
 exact gE 7
def W2(fu:Nat)(pw:aH)(p0:Y)(i1:Nat)(y4:aN):Nat→Unit→J (LR Unit (LR Unit (aM×Int×Bool))):=fun i7 _=>sw (decide ((aR y4.aEd i7).aD4=p0)) (some (.ret (.ret ((aR y4.aEd i7),(i1:Int),true)))) (some (.next ()))
def W1(fu:Nat)(pw:aH)(p0:Y):Nat→Unit→J (LR Unit (aM×Int×Bool)):=fun i1 _=>lt (aR pw.aD3 i1) fun y4=>so (loopN (W2 fu pw p0 i1 y4) (y4.aEd.length-0) 0 ()) fun _=>some (.next ())
def VI(fu:Nat)(pw:aH)(p0:Y):J (aM×Int×Bool):=so (loopN (W1 fu pw p0) (pw.aD3.length-0) 0 ()) fun _=>some ((aM.mk s_ [] []),0,false)
theorem ap3(fu:Nat)(pw:aH)(p0:Y)(r:aM×Int×Bool)(H:VI fu pw p0=some r):bS prog 102 [(aH.pv pw),pS p0] (.tup [(aM.pv r.1),pI r.2.1,pB r.2.2]):=by
 refine qJ func102 H (fun C hC H=>?_)
 refine gQ 2 ?_;refine q1 (fN ([aQ pw.aD3])) ?_;refine gQ 12 ?_;refine gM 12 (aN.trs_len _) (fun hl2=>?_)
 refine bV (σ:=Unit) (fun i1 _=>⟨[(1,pS p0),(4,.ptr 1 0),(5,pI 0),(6,pB false),(12,aQ pw.aD3),(13,pN pw.aD3.length),(14,pN i1)],⟨[some ⟨26,[aQ pw.aD3]⟩,some ⟨39,[pS s_,.nil,.nil]⟩],[]⟩⟩) (fun _=>⟨[(4,.ptr 1 0),(5,pI 0),(6,pB false)],⟨[some ⟨26,[aQ pw.aD3]⟩,some ⟨39,[pS s_,.nil,.nil]⟩],[]⟩⟩) (eX H) ?_ ?_
 ·rintro i1 ⟨⟩ H
  refine gQ 5 ?_;refine c5 H (fun h3 h3l H=>?_) (fun h3 H=>?_)
  ·refine gQ 6 ?_;refine gI H fun y4 h5 H=>(q1 (zM h5 h3l) (q1 (iR (aN.cs y4)) ?_))
   refine gQ 8 ?_;refine ZW 20 (aM.trs_len _) (fun hl6=>?_)
   refine gQ 3 ?_;refine bV (σ:=Unit) (fun i7 _=>⟨[(1,pS p0),(4,.ptr 1 0),(5,pI 0),(6,pB false),(7,pN i1),(8,.ptr 2 0),(12,aQ pw.aD3),(13,pN pw.aD3.length),(14,pN i1),(15,pB (decide ((i1:Int)<(pw.aD3.length:Int)))),(16,pN i1),(17,.eptr (aN.cs y4)),(18,(aN.pv y4)),(19,.ptr 2 3),(20,rF y4.aEd),(21,pN y4.aEd.length),(22,pN i7)],⟨[some ⟨26,[aQ pw.aD3]⟩,some ⟨39,[pS s_,.nil,.nil]⟩,some ⟨141,fG y4⟩],[]⟩⟩) (fun _=>⟨[(1,pS p0),(4,.ptr 1 0),(5,pI 0),(6,pB false),(7,pN i1),(8,.ptr 2 0),(12,aQ pw.aD3),(13,pN pw.aD3.length),(14,pN i1),(15,pB (decide ((i1:Int)<(pw.aD3.length:Int)))),(16,pN i1),(17,.eptr (aN.cs y4)),(18,(aN.pv y4)),(19,.ptr 2 3),(20,rF y4.aEd),(21,pN y4.aEd.length)],⟨[some ⟨26,[aQ pw.aD3]⟩,some ⟨39,[pS s_,.nil,.nil]⟩,some ⟨141,fG y4⟩],[]⟩⟩) (eX H) ?_ ?_
   ·rintro i7 ⟨⟩ H
    refine gQ 5 ?_;refine c5 H (fun h8 h8l H=>?_) (fun h8 H=>?_)
    ·refine gQ 6 ?_;refine q1 (iR (aM.cs (aR y4.aEd i7))) ?_;refine gQ 10 ?_;refine bE H (fun h9 H=>?_) (fun h9 H=>?_)
     ·refine gQ 2 ?_;refine q1 (b5 [pS ((aR y4.aEd i7).aD4),rS ((aR y4.aEd i7).aEh),dT ((aR y4.aEd i7).aD9)]) ?_;refine gQ 5 ?_;refine c7.ret ?_
      obtain rfl:_=r:=(lkR (skL (lkR (wL H))):)
      exact qf3
     exact gE 5
    exact gE 0
   rintro⟨⟩ H
   exact gE 4
  exact gE 0
 rintro⟨⟩ H
 exact gE 7
def oV(fu:Nat)(pw:aH)(po:aE):J (aI×Bool):=sw (decide (po.aEf<0)) (some ((aI.mk s_ [] (aA.mk 0 s_ []) [] false false (aA.mk 0 s_ []) []),false)) (sw (decide (po.aEf≥(pw.aD3.length:Int))) (some ((aI.mk s_ [] (aA.mk 0 s_ []) [] false false (aA.mk 0 s_ []) []),false)) (sw (decide (po.aEr<0)) (some ((aI.mk s_ [] (aA.mk 0 s_ []) [] false false (aA.mk 0 s_ []) []),false)) (gd (0≤po.aEf∧(po.aEf).toNat<(pw.aD3).length) (lt (aR pw.aD3 ((po.aEf).toNat)) fun y5=>sw (decide (po.aEr≥(y5.aEg.length:Int))) (some ((aI.mk s_ [] (aA.mk 0 s_ []) [] false false (aA.mk 0 s_ []) []),false)) (gd (0≤po.aEr∧(po.aEr).toNat<(y5.aEg).length) (lt (aR y5.aEg ((po.aEr).toNat)) fun y9=>some (y9,true)))))))
theorem s6(fu:Nat)(pw:aH)(po:aE)(r:aI×Bool)(H:oV fu pw po=some r):bS prog 118 [(aH.pv pw),(aE.pv po)] (.tup [(aI.pv r.1),pB r.2]):=by
 refine qJ func118 H (fun C hC H=>?_)
 refine gQ 2 ?_;refine q1 (fN ([aQ pw.aD3])) (q1 (fN ([pI po.aEf,pI po.aEr])) ?_)
 refine gQ 5 ?_
 rcases n0 (decide (po.aEf<0)) with g1|g1
 ·have H:=r9 H g1
  refine dW (dI [3] bY (dD [6] eI (dI [7] rLt (dI [8] bG ?_))))
  iterate 6 refine KA g1 ?_
  refine dI [9] (DB g1) (dI [16] bG ?_)
  iterate 3 refine KA rfl ?_
  refine dI [17] (DB rfl) (dI [21] bG ?_)
  iterate 11 refine KA rfl ?_
  refine dI [22] (DB rfl) (dN ?_)
  exact gE 7
 have H:=r8 H g1
 rcases n0 (decide (po.aEf≥(pw.aD3.length:Int))) with g2|g2
 ·have H:=r9 H g2
  refine dW (dI [3] bY (dD [6] eI (dI [7] rLt (dI [8] bG (dI (hg:=bB g1) [3] bY (dD (hg:=bB g1) [10] eI (dI (hg:=bB g1) [2] bY (dD (hg:=bB g1) [12] eI (dI (hg:=bB g1) [13] UH (dI (hg:=bB g1) [11,14] rGe (dI [9,15] (EQ g1) (dI [16] bG ?_))))))))))))
  iterate 3 refine KA g2 ?_
  refine dI [17] (DB g2) (dI [21] bG ?_)
  iterate 11 refine KA rfl ?_
  refine dI [22] (DB rfl) (dN ?_)
  exact gE 7
 have H:=r8 H g2
 rcases n0 (decide (po.aEr<0)) with g3|g3
 ·have H:=r9 H g3
  refine dW (dI [3] bY (dD [6] eI (dI [7] rLt (dI [8] bG (dI (hg:=bB g1) [3] bY (dD (hg:=bB g1) [10] eI (dI (hg:=bB g1) [2] bY (dD (hg:=bB g1) [12] eI (dI (hg:=bB g1) [13] UH (dI (hg:=bB g1) [11,14] rGe (dI [9,15] (EQ g1) (dI [16] bG (dI (hg:=bB g2) [3] bY ?_)))))))))))))
  refine dD (hg:=bB g2) [18] eI (dI (hg:=bB g2) [19] rLt (dI [17,20] (EQ g2) (dI [21] bG ?_)))
  iterate 11 refine KA g3 ?_
  refine dI [22] (DB g3) (dN ?_)
  exact gE 7
 have H:=r8 H g3
 refine cK H fun z4 H=>(gI H fun y5 h6 H=>(dW (dI [3] bY (dD [6] eI (dI [7] rLt (dI [8] bG (dI (hg:=bB g1) [3] bY (dD (hg:=bB g1) [10] eI (dI (hg:=bB g1) [2] bY (dD (hg:=bB g1) [12] eI (dI (hg:=bB g1) [13] UH (dI (hg:=bB g1) [11,14] rGe (dI [9,15] (EQ g1) ?_)))))))))))))
 refine dI [16] bG (dI (hg:=bB g2) [3] bY (dD (hg:=bB g2) [18] eI (dI (hg:=bB g2) [19] rLt (dI [17,20] (EQ g2) (dI [21] bG (dI (hg:=bB g3) [3] bY (dD (hg:=bB g3) [23] eI (dI (hg:=bB g3) [2] bY (dD (hg:=bB g3) [25] eI (dI (hg:=bB g3) [3] bY (dD (hg:=bB g3) [27] eI (dI (hg:=bB g3) [26,28] (rIm h6 z4 anJ.h) (dI (hg:=bB g3) [29] zL ?_)))))))))))))
 refine dI (hg:=bB g3) [30] yB (dI (hg:=bB g3) [31] UH (dI (hg:=bB g3) [24,32] rGe (dI [22,33] (EQ g3) (dN ?_))))
 refine bE H (fun h7 H=>gE 6) fun h7 H=>?_;refine gQ 2 ?_;refine cK H fun z8 H=>(gI H fun y9 h10 H=>(dW (dI [2] bY (dD [36] eI (dI [3] bY (dD [38] eI (dI [37,39] (rIm h6 z4 anJ.h) (dI [40] zL (dI [41] yB (dI [3] bY (dD [43] eI (dI [42,44] (rIm h10 z8 af1.h) (dI [45] (iR (aI.cs y9)) ?_)))))))))))))
 refine mK [4,46] lT (dI [] bG (dN ?_))
 exact gE 0
def wD(fu:Nat)(pw:aH)(p0:Y)(i1:Nat):Int→J (LR Int (LR Unit (aU×Int×Bool))):=fun v4=>lt (aR pw.aD3 i1) fun y6=>sw (decide (v4<(y6.aEi.length:Int))) (gd (0≤v4∧(v4).toNat<(y6.aEi).length) (sw (decide ((aR y6.aEi ((v4).toNat)).aD4=p0)) (some (.ret (.ret ((aR y6.aEi ((v4).toNat)),(i1:Int),true)))) (some (.next (v4+1))))) (some (.brk v4))
def C4(fu:Nat)(pw:aH)(p0:Y):Nat→Unit→J (LR Unit (aU×Int×Bool)):=fun i1 _=>so (loopW (wD fu pw p0 i1) fu 0) fun v4=>some (.next ())
def rK(fu:Nat)(pw:aH)(p0:Y):J (aU×Int×Bool):=so (loopN (C4 fu pw p0) (pw.aD3.length-0) 0 ()) fun _=>some ((aU.mk s_ [] false false []),0,false)
theorem C5(fu:Nat)(pw:aH)(p0:Y)(r:aU×Int×Bool)(H:rK fu pw p0=some r):bS prog 121 [(aH.pv pw),pS p0] (.tup [(aU.pv r.1),pI r.2.1,pB r.2.2]):=by
 refine qJ func121 H (fun C hC H=>?_)
 refine gQ 2 ?_;refine q1 (fN ([aQ pw.aD3])) ?_;refine gQ 9 ?_;refine c7.fact (cQ 0 0 rfl rfl rfl (aN.trs_len _)) (fun hl2=>?_)
 refine bV (σ:=Unit) (fun i1 _=>⟨[(1,pS p0),(2,.ptr 0 0),(4,.ptr 1 0),(5,pI 0),(6,pB false),(7,pN i1)],⟨[some ⟨26,[aQ pw.aD3]⟩,some ⟨156,[pS s_,.nil,pB false,pB false,.nil]⟩],[]⟩⟩) (fun _=>⟨[(4,.ptr 1 0),(5,pI 0),(6,pB false)],⟨[some ⟨26,[aQ pw.aD3]⟩,some ⟨156,[pS s_,.nil,pB false,pB false,.nil]⟩],[]⟩⟩) (eX H) ?_ ?_
 ·rintro i1 ⟨⟩ H
  refine gQ 9 ?_;refine c5 H (fun h3 h3l H=>?_) (fun h3 H=>?_)
  ·refine gQ 7 ?_;refine TU (σ:=Int) (fun v4=>⟨[(1,pS p0),(2,.ptr 0 0),(4,.ptr 1 0),(5,pI 0),(6,pB false),(7,pN i1),(8,pI v4),(9,pN i1),(10,.ptr 0 0),(11,aQ pw.aD3),(12,pN pw.aD3.length),(13,pB (decide ((i1:Int)<(pw.aD3.length:Int))))],⟨[some ⟨26,[aQ pw.aD3]⟩,some ⟨156,[pS s_,.nil,pB false,pB false,.nil]⟩],[]⟩⟩) (fun v4=>⟨[(1,pS p0),(2,.ptr 0 0),(4,.ptr 1 0),(5,pI 0),(6,pB false),(7,pN i1),(8,pI v4),(9,pN i1),(10,.ptr 0 0),(11,aQ pw.aD3),(12,pN pw.aD3.length),(13,pB (decide ((i1:Int)<(pw.aD3.length:Int))))],⟨[some ⟨26,[aQ pw.aD3]⟩,some ⟨156,[pS s_,.nil,pB false,pB false,.nil]⟩],[]⟩⟩) (eX H) ?_ ?_
   ·rintro k5 v4 H
    refine gQ 7 ?_;refine gI H fun y6 h7 H=>(q1 (zM h7 h3l) ?_)
    refine gQ 2 ?_;refine ZW 22 (aU.trs_len _) (fun hl8=>?_)
    refine gQ 3 ?_;refine bE H (fun h9 H=>?_) (fun h9 H=>?_)
    ·refine gQ 8 ?_;refine q1 (zM h7 h3l) ?_;refine gQ 3 ?_;refine cK H fun z10 H=>(q1 (rIy z10 atH.h) ?_)
     refine gQ 5 ?_;refine bE H (fun h11 H=>?_) (fun h11 H=>?_)
     ·refine gQ 5 ?_;refine q1 (zM h7 h3l) ?_;refine gQ 3 ?_;refine q1 (rIy z10 atH.h) (q1 (iR (aU.cs (aR y6.aEi ((v4).toNat)))) ?_)
      refine gQ 5 ?_;refine c7.ret ?_
      obtain rfl:_=r:=(lkR (skL (lwR (wL H))):)
      exact qf3
     refine gQ 3 ?_;refine q1 (bC.addI rfl rfl rfl rfl (c:=v4+1) (by omega) (by omega)) ?_;exact gE 2
    exact gE 0
   rintro v4 H
   exact gE 5
  exact gE 0
 rintro⟨⟩ H
 exact gE 7
def yH(fu:Nat)(pw:aH)(p0:Y)(i1:Nat):Int→J (LR Int (LR Unit (aM×Int×Bool))):=fun v4=>lt (aR pw.aD3 i1) fun y6=>sw (decide (v4<(y6.aEd.length:Int))) (gd (0≤v4∧(v4).toNat<(y6.aEd).length) (sw (decide ((aR y6.aEd ((v4).toNat)).aD4=p0)) (some (.ret (.ret ((aR y6.aEd ((v4).toNat)),(i1:Int),true)))) (some (.next (v4+1))))) (some (.brk v4))
def EW(fu:Nat)(pw:aH)(p0:Y):Nat→Unit→J (LR Unit (aM×Int×Bool)):=fun i1 _=>so (loopW (yH fu pw p0 i1) fu 0) fun v4=>some (.next ())
def A6(fu:Nat)(pw:aH)(p0:Y):J (aM×Int×Bool):=so (loopN (EW fu pw p0) (pw.aD3.length-0) 0 ()) fun _=>some ((aM.mk s_ [] []),0,false)
theorem aaL(fu:Nat)(pw:aH)(p0:Y)(r:aM×Int×Bool)(H:A6 fu pw p0=some r):bS prog 53 [(aH.pv pw),pS p0] (.tup [(aM.pv r.1),pI r.2.1,pB r.2.2]):=by
 refine qJ func53 H (fun C hC H=>?_)
 refine gQ 2 ?_;refine q1 (fN ([aQ pw.aD3])) ?_;refine gQ 9 ?_;refine c7.fact (cQ 0 0 rfl rfl rfl (aN.trs_len _)) (fun hl2=>?_)
 refine bV (σ:=Unit) (fun i1 _=>⟨[(1,pS p0),(2,.ptr 0 0),(4,.ptr 1 0),(5,pI 0),(6,pB false),(7,pN i1)],⟨[some ⟨26,[aQ pw.aD3]⟩,some ⟨39,[pS s_,.nil,.nil]⟩],[]⟩⟩) (fun _=>⟨[(4,.ptr 1 0),(5,pI 0),(6,pB false)],⟨[some ⟨26,[aQ pw.aD3]⟩,some ⟨39,[pS s_,.nil,.nil]⟩],[]⟩⟩) (eX H) ?_ ?_
 ·rintro i1 ⟨⟩ H
  refine gQ 9 ?_;refine c5 H (fun h3 h3l H=>?_) (fun h3 H=>?_)
  ·refine gQ 7 ?_;refine TU (σ:=Int) (fun v4=>⟨[(1,pS p0),(2,.ptr 0 0),(4,.ptr 1 0),(5,pI 0),(6,pB false),(7,pN i1),(8,pI v4),(9,pN i1),(10,.ptr 0 0),(11,aQ pw.aD3),(12,pN pw.aD3.length),(13,pB (decide ((i1:Int)<(pw.aD3.length:Int))))],⟨[some ⟨26,[aQ pw.aD3]⟩,some ⟨39,[pS s_,.nil,.nil]⟩],[]⟩⟩) (fun v4=>⟨[(1,pS p0),(2,.ptr 0 0),(4,.ptr 1 0),(5,pI 0),(6,pB false),(7,pN i1),(8,pI v4),(9,pN i1),(10,.ptr 0 0),(11,aQ pw.aD3),(12,pN pw.aD3.length),(13,pB (decide ((i1:Int)<(pw.aD3.length:Int))))],⟨[some ⟨26,[aQ pw.aD3]⟩,some ⟨39,[pS s_,.nil,.nil]⟩],[]⟩⟩) (eX H) ?_ ?_
   ·rintro k5 v4 H
    refine gQ 7 ?_;refine gI H fun y6 h7 H=>(q1 (zM h7 h3l) ?_)
    refine gQ 2 ?_;refine ZW 22 (aM.trs_len _) (fun hl8=>?_)
    refine gQ 3 ?_;refine bE H (fun h9 H=>?_) (fun h9 H=>?_)
    ·refine gQ 8 ?_;refine q1 (zM h7 h3l) ?_;refine gQ 3 ?_;refine cK H fun z10 H=>(q1 (rIy z10 atI.h) ?_)
     refine gQ 5 ?_;refine bE H (fun h11 H=>?_) (fun h11 H=>?_)
     ·refine gQ 5 ?_;refine q1 (zM h7 h3l) ?_;refine gQ 3 ?_;refine q1 (rIy z10 atI.h) (q1 (iR (aM.cs (aR y6.aEd ((v4).toNat)))) ?_)
      refine gQ 5 ?_;refine c7.ret ?_
      obtain rfl:_=r:=(lkR (skL (lwR (wL H))):)
      exact qf3
     refine gQ 3 ?_;refine q1 (bC.addI rfl rfl rfl rfl (c:=v4+1) (by omega) (by omega)) ?_;exact gE 2
    exact gE 0
   rintro v4 H
   exact gE 5
  exact gE 0
 rintro⟨⟩ H
 exact gE 7
end
end Go.Proofs.YtfcoaagbccmahaaGreat.W

namespace Go.Proofs.YtfcoaagbccmahaaGreat
open Go.RowKit
theorem jW: ∀(a b:Z Tr),Tr.bulkL (a++b)=Tr.bulkL a+Tr.bulkL b
 | [],b=>by simp [Tr.bulkL]
 |t::a,b=>by simp [Tr.bulkL,jW a b,Nat.add_assoc]
theorem as3:Tr.bulkAll (aY [])=0:=rfl
theorem aq7(a:Y)(l:Z Y):Tr.bulkAll (aY (a::l))=a.size+Tr.bulkAll (aY l):=by simp [aY,Tr.bulkAll,Tr.bulkL,Tr.bulk]
theorem aA.bk_mk(v0:Int)(v1:Y)(v2:Z aA):Tr.bulkL (aA.tr (.mk v0 v1 v2))=v1.size+(v2.length+Tr.bulkAll (aA.trs v2)):=by
 simp only [aA.tr,jW,Tr.bulkL,Tr.bulk,b0,gB,f7,aA.trs_len]
 first|done|omega
theorem aA.bks_nil:Tr.bulkAll (aA.trs [])=0:=by simp [aA.trs_map,Tr.bulkAll]
theorem aA.bks_cons(a:aA)(l:Z aA):Tr.bulkAll (aA.trs (a::l))=Tr.bulkL (aA.tr a)+Tr.bulkAll (aA.trs l):=by simp [aA.trs_map,Tr.bulkAll]
theorem aL.bk_mk(v0:Int)(v1:Y)(v2:Y)(v3:Int)(v4:aA)(v5:Z aL)(v6:Z bW):Tr.bulkL (aL.tr (.mk v0 v1 v2 v3 v4 v5 v6))=v1.size+v2.size+Tr.bulkL (aA.tr v4)+(v5.length+Tr.bulkAll (aL.trs v5))+(v6.length+Tr.bulkAll (bW.trs v6)):=by
 simp only [aL.tr,jW,Tr.bulkL,Tr.bulk,b0,gB,f7,aL.trs_len,bW.trs_len]
 first|done|omega
theorem aL.bks_nil:Tr.bulkAll (aL.trs [])=0:=by simp [aL.trs_map,Tr.bulkAll]
theorem aL.bks_cons(a:aL)(l:Z aL):Tr.bulkAll (aL.trs (a::l))=Tr.bulkL (aL.tr a)+Tr.bulkAll (aL.trs l):=by simp [aL.trs_map,Tr.bulkAll]
theorem bW.bk_mk(v0:Y)(v1:Z Y)(v2:aL):Tr.bulkL (bW.tr (.mk v0 v1 v2))=v0.size+(v1.length+Tr.bulkAll (aY v1))+Tr.bulkL (aL.tr v2):=by
 simp only [bW.tr,jW,Tr.bulkL,Tr.bulk,b0,gB,f7]
 first|done|omega
theorem bW.bks_nil:Tr.bulkAll (bW.trs [])=0:=by simp [bW.trs_map,Tr.bulkAll]
theorem bW.bks_cons(a:bW)(l:Z bW):Tr.bulkAll (bW.trs (a::l))=Tr.bulkL (bW.tr a)+Tr.bulkAll (bW.trs l):=by simp [bW.trs_map,Tr.bulkAll]
theorem aF.bk_mk(v0:Y)(v1:aA):Tr.bulkL (aF.tr (.mk v0 v1))=v0.size+Tr.bulkL (aA.tr v1):=by
 simp only [aF.tr,jW,Tr.bulkL,Tr.bulk,b0,gB,f7]
 first|done|omega
theorem aF.bks_nil:Tr.bulkAll (aF.trs [])=0:=by simp [aF.trs_map,Tr.bulkAll]
theorem aF.bks_cons(a:aF)(l:Z aF):Tr.bulkAll (aF.trs (a::l))=Tr.bulkL (aF.tr a)+Tr.bulkAll (aF.trs l):=by simp [aF.trs_map,Tr.bulkAll]
theorem aV.bk_mk(v0:Y)(v1:aA):Tr.bulkL (aV.tr (.mk v0 v1))=v0.size+Tr.bulkL (aA.tr v1):=by
 simp only [aV.tr,jW,Tr.bulkL,Tr.bulk,b0,gB,f7]
 first|done|omega
theorem aV.bks_nil:Tr.bulkAll (aV.trs [])=0:=by simp [aV.trs_map,Tr.bulkAll]
theorem aV.bks_cons(a:aV)(l:Z aV):Tr.bulkAll (aV.trs (a::l))=Tr.bulkL (aV.tr a)+Tr.bulkAll (aV.trs l):=by simp [aV.trs_map,Tr.bulkAll]
theorem aP.bk_mk(v0:Y)(v1:Z Y)(v2:aL):Tr.bulkL (aP.tr (.mk v0 v1 v2))=v0.size+(v1.length+Tr.bulkAll (aY v1))+Tr.bulkL (aL.tr v2):=by
 simp only [aP.tr,jW,Tr.bulkL,Tr.bulk,b0,gB,f7]
 first|done|omega
theorem aP.bks_nil:Tr.bulkAll (aP.trs [])=0:=by simp [aP.trs_map,Tr.bulkAll]
theorem aP.bks_cons(a:aP)(l:Z aP):Tr.bulkAll (aP.trs (a::l))=Tr.bulkL (aP.tr a)+Tr.bulkAll (aP.trs l):=by simp [aP.trs_map,Tr.bulkAll]
theorem aC.bk_mk(v0:Y)(v1:Z aA):Tr.bulkL (aC.tr (.mk v0 v1))=v0.size+(v1.length+Tr.bulkAll (aA.trs v1)):=by
 simp only [aC.tr,jW,Tr.bulkL,Tr.bulk,b0,gB,f7,aA.trs_len]
 first|done|omega
theorem aC.bks_nil:Tr.bulkAll (aC.trs [])=0:=by simp [aC.trs_map,Tr.bulkAll]
theorem aC.bks_cons(a:aC)(l:Z aC):Tr.bulkAll (aC.trs (a::l))=Tr.bulkL (aC.tr a)+Tr.bulkAll (aC.trs l):=by simp [aC.trs_map,Tr.bulkAll]
theorem aG.bk_mk(v0:Y)(v1:Z aA)(v2:aA)(v3:Bool)(v4:Z Y)(v5:aL):Tr.bulkL (aG.tr (.mk v0 v1 v2 v3 v4 v5))=v0.size+(v1.length+Tr.bulkAll (aA.trs v1))+Tr.bulkL (aA.tr v2)+(v4.length+Tr.bulkAll (aY v4))+Tr.bulkL (aL.tr v5):=by
 simp only [aG.tr,jW,Tr.bulkL,Tr.bulk,b0,gB,f7,aA.trs_len]
 first|done|omega
theorem aG.bks_nil:Tr.bulkAll (aG.trs [])=0:=by simp [aG.trs_map,Tr.bulkAll]
theorem aG.bks_cons(a:aG)(l:Z aG):Tr.bulkAll (aG.trs (a::l))=Tr.bulkL (aG.tr a)+Tr.bulkAll (aG.trs l):=by simp [aG.trs_map,Tr.bulkAll]
theorem aU.bk_mk(v0:Y)(v1:Z Y)(v2:Bool)(v3:Bool)(v4:Z aG):Tr.bulkL (aU.tr (.mk v0 v1 v2 v3 v4))=v0.size+(v1.length+Tr.bulkAll (aY v1))+(v4.length+Tr.bulkAll (aG.trs v4)):=by
 simp only [aU.tr,jW,Tr.bulkL,Tr.bulk,b0,gB,f7,aG.trs_len]
 first|done|omega
theorem aU.bks_nil:Tr.bulkAll (aU.trs [])=0:=by simp [aU.trs_map,Tr.bulkAll]
theorem aU.bks_cons(a:aU)(l:Z aU):Tr.bulkAll (aU.trs (a::l))=Tr.bulkL (aU.tr a)+Tr.bulkAll (aU.trs l):=by simp [aU.trs_map,Tr.bulkAll]
theorem aM.bk_mk(v0:Y)(v1:Z Y)(v2:Z aC):Tr.bulkL (aM.tr (.mk v0 v1 v2))=v0.size+(v1.length+Tr.bulkAll (aY v1))+(v2.length+Tr.bulkAll (aC.trs v2)):=by
 simp only [aM.tr,jW,Tr.bulkL,Tr.bulk,b0,gB,f7,aC.trs_len]
 first|done|omega
theorem aM.bks_nil:Tr.bulkAll (aM.trs [])=0:=by simp [aM.trs_map,Tr.bulkAll]
theorem aM.bks_cons(a:aM)(l:Z aM):Tr.bulkAll (aM.trs (a::l))=Tr.bulkL (aM.tr a)+Tr.bulkAll (aM.trs l):=by simp [aM.trs_map,Tr.bulkAll]
theorem aI.bk_mk(v0:Y)(v1:Z Y)(v2:aA)(v3:Z aF)(v4:Bool)(v5:Bool)(v6:aA)(v7:Z aP):Tr.bulkL (aI.tr (.mk v0 v1 v2 v3 v4 v5 v6 v7))=v0.size+(v1.length+Tr.bulkAll (aY v1))+Tr.bulkL (aA.tr v2)+(v3.length+Tr.bulkAll (aF.trs v3))+Tr.bulkL (aA.tr v6)+(v7.length+Tr.bulkAll (aP.trs v7)):=by
 simp only [aI.tr,jW,Tr.bulkL,Tr.bulk,b0,gB,f7,aF.trs_len,aP.trs_len]
 first|done|omega
theorem aI.bks_nil:Tr.bulkAll (aI.trs [])=0:=by simp [aI.trs_map,Tr.bulkAll]
theorem aI.bks_cons(a:aI)(l:Z aI):Tr.bulkAll (aI.trs (a::l))=Tr.bulkL (aI.tr a)+Tr.bulkAll (aI.trs l):=by simp [aI.trs_map,Tr.bulkAll]
theorem aO.bk_mk(v0:Y)(v1:Z Y)(v2:Z aF)(v3:Z aV)(v4:aA)(v5:aL):Tr.bulkL (aO.tr (.mk v0 v1 v2 v3 v4 v5))=v0.size+(v1.length+Tr.bulkAll (aY v1))+(v2.length+Tr.bulkAll (aF.trs v2))+(v3.length+Tr.bulkAll (aV.trs v3))+Tr.bulkL (aA.tr v4)+Tr.bulkL (aL.tr v5):=by
 simp only [aO.tr,jW,Tr.bulkL,Tr.bulk,b0,gB,f7,aF.trs_len,aV.trs_len]
 first|done|omega
theorem aO.bks_nil:Tr.bulkAll (aO.trs [])=0:=by simp [aO.trs_map,Tr.bulkAll]
theorem aO.bks_cons(a:aO)(l:Z aO):Tr.bulkAll (aO.trs (a::l))=Tr.bulkL (aO.tr a)+Tr.bulkAll (aO.trs l):=by simp [aO.trs_map,Tr.bulkAll]
theorem aN.bk_mk(v0:Y)(v1:Z Y)(v2:Z aU)(v3:Z aM)(v4:Z aI)(v5:Z aO):Tr.bulkL (aN.tr (.mk v0 v1 v2 v3 v4 v5))=v0.size+(v1.length+Tr.bulkAll (aY v1))+(v2.length+Tr.bulkAll (aU.trs v2))+(v3.length+Tr.bulkAll (aM.trs v3))+(v4.length+Tr.bulkAll (aI.trs v4))+(v5.length+Tr.bulkAll (aO.trs v5)):=by
 simp only [aN.tr,jW,Tr.bulkL,Tr.bulk,b0,gB,f7,aU.trs_len,aM.trs_len,aI.trs_len,aO.trs_len]
 first|done|omega
theorem aN.bks_nil:Tr.bulkAll (aN.trs [])=0:=by simp [aN.trs_map,Tr.bulkAll]
theorem aN.bks_cons(a:aN)(l:Z aN):Tr.bulkAll (aN.trs (a::l))=Tr.bulkL (aN.tr a)+Tr.bulkAll (aN.trs l):=by simp [aN.trs_map,Tr.bulkAll]
theorem aH.bk_mk(v0:Z aN):Tr.bulkL (aH.tr (.mk v0))=(v0.length+Tr.bulkAll (aN.trs v0)):=by
 simp only [aH.tr,jW,Tr.bulkL,Tr.bulk,b0,gB,f7,aN.trs_len]
 first|done|omega
theorem aB.bk_mk(v0:Y)(v1:Z aB):Tr.bulkL (aB.tr (.mk v0 v1))=v0.size+(v1.length+Tr.bulkAll (aB.trs v1)):=by
 simp only [aB.tr,jW,Tr.bulkL,Tr.bulk,b0,gB,f7,aB.trs_len]
 first|done|omega
theorem aB.bks_nil:Tr.bulkAll (aB.trs [])=0:=by simp [aB.trs_map,Tr.bulkAll]
theorem aB.bks_cons(a:aB)(l:Z aB):Tr.bulkAll (aB.trs (a::l))=Tr.bulkL (aB.tr a)+Tr.bulkAll (aB.trs l):=by simp [aB.trs_map,Tr.bulkAll]
end Go.Proofs.YtfcoaagbccmahaaGreat

namespace Go.Proofs.YtfcoaagbccmahaaGreat
def bR(P:Nat→Prop):Prop:= ∃N,∀n,N≤n→P n
theorem bR.all{P:Nat→Prop}(h: ∀n,P n):bR P:=⟨0,fun n _=>h n⟩
theorem bR.and{P Q:Nat→Prop}(h:bR P)(k:bR Q):bR fun n=>P n∧Q n:=by
 obtain⟨a,h⟩:=h
 obtain⟨b,k⟩:=k
 exact⟨max a b,fun n hn=>⟨h n (by omega),k n (by omega)⟩⟩
theorem bR.imp{P Q:Nat→Prop}(h:bR P)(k: ∀n,P n→Q n):bR Q:=by
 obtain⟨a,h⟩:=h
 exact⟨a,fun n hn=>k n (h n hn)⟩
theorem bR.imp2{P Q R:Nat→Prop}(h:bR P)(h2:bR Q)(k: ∀n,P n→Q n→R n):bR R:=(h.and h2).imp fun n hn=>k n hn.1 hn.2
theorem bR.succ{P:Nat→Prop}(h:bR fun n=>P (n+1)):bR P:=by
 obtain⟨a,h⟩:=h
 exact⟨a+1,fun n hn=>by
  obtain⟨m,rfl⟩: ∃m,n=m+1:=⟨n-1,by omega⟩
  exact h m (by omega)⟩
theorem bR.list{α:Type}{P:α→Nat→Prop}: ∀ {l:Z α},(∀x∈l,bR (P x))→bR fun n=> ∀x∈l,P x n
 | [],_=> .all fun n x hx=>by simp at hx
 |a::l,h=>((h a (by simp)).and (bR.list (l:=l) fun x hx=>h x (List.mem_cons_of_mem _ hx))).imp fun n hn x hx=>by
  rcases List.mem_cons.1 hx with rfl|hx
  ·exact hn.1
  ·exact hn.2 x hx
theorem bR.below{P:Nat→Nat→Prop}: ∀ {k:Nat},(∀i,i<k→bR (P i))→bR fun n=> ∀i,i<k→P i n
 |0,_=> .all fun n i hi=>by omega
 |k+1,h=>((h k (by omega)).and (bR.below (k:=k) fun i hi=>h i (Nat.lt_succ_of_lt hi))).imp fun n hn i hi=>by
  rcases Nat.lt_or_ge i k with h1|h1
  ·exact hn.2 i h1
  ·obtain rfl:i=k:=by omega
   exact hn.1
theorem bR.get{P:Nat→Prop}(h:bR P): ∃n,P n:=by
 obtain⟨a,h⟩:=h
 exact⟨a,h a (Nat.le_refl _)⟩
section
variable {α σ β:Type} [Inhabited α] {f:Nat→σ→J (LR σ β)}
theorem cB{l:Z α}{i:Nat}(h:i<l.length):aR l i∈l:=by rw [iE h];exact List.getElem_mem h
theorem sF{l:Z α}{i:Nat}(h:i<l.length):l.drop i=aR l i::l.drop (i+1):=by rw [iE h];exact List.drop_eq_getElem_cons h
theorem J0{l:Z α}{i:Nat}(h:i<l.length):l.take (i+1)=l.take i++ [aR l i]:=by rw [iE h];exact List.take_succ_eq_append_getElem h
theorem CN{n i:Nat}{s s':σ}(h:i<n)(e:f i s=some (.next s')):loopN f (n-i) i s=loopN f (n-(i+1)) (i+1) s':=CM h rfl e
theorem KP{n i:Nat}{s:σ}{x:β}(h:i<n)(e:f i s=some (.ret x)):loopN f (n-i) i s=some (.inl x):=an3 h rfl e
theorem an2{n i:Nat}{s s':σ}(h:i<n)(e:f i s=some (.brk s')):loopN f (n-i) i s=some (.inr s'):=an0 h rfl e
theorem FM{n i:Nat}{s:σ}(h:n≤i):loopN f (n-i) i s=some (.inr s):=an1 h rfl
theorem XA{l:Z α}{g:σ→α→σ}(P:Nat→σ→Prop)(hs: ∀i s,i<l.length→P i s→f i s=some (.next (g s (aR l i)))∧P (i+1) (g s (aR l i))):
 ∀(k i:Nat) (s:σ),l.length-i=k→P i s→loopN f (l.length-i) i s=some (.inr ((l.drop i).foldl g s))
 |0,i,s,hk,_=>by
  rw [FM (by omega),List.drop_of_length_le (by omega),List.foldl_nil]
 |k+1,i,s,hk,hp=>by
  have hi:i<l.length:=by omega
  obtain⟨h1,h2⟩:=hs i s hi hp
  rw [CN hi h1,sF hi,List.foldl_cons]
  exact XA P hs k (i+1) _ (by omega) h2
theorem lF{l:Z α}{g:σ→α→σ}(P:Nat→σ→Prop)(hs: ∀i s,i<l.length→P i s→f i s=some (.next (g s (aR l i)))∧P (i+1) (g s (aR l i))){s:σ}(h0:P 0 s):loopN f (l.length-0) 0 s=some (.inr (l.foldl g s)):=by
 have:=XA P hs l.length 0 s (by omega) h0
 rwa [List.drop_zero] at this
theorem W9{l:Z α}{p:α→Bool}{r:α→β}{s:σ}(hs: ∀i,i<l.length→f i s=if p (aR l i) then some (.ret (r (aR l i))) else some (.next s)):
 ∀(k i:Nat),l.length-i=k→loopN f (l.length-i) i s=some (match(l.drop i).find? p with|some x=> .inl (r x)|none=> .inr s)
 |0,i,hk=>by
  rw [FM (by omega),List.drop_of_length_le (by omega),List.find?_nil]
 |k+1,i,hk=>by
  have hi:i<l.length:=by omega
  have h1:=hs i hi
  rw [sF hi,List.find?_cons]
  cases hp:p (aR l i)
  ·rw [hp] at h1
   rw [CN hi (by simpa using h1)]
   exact W9 hs k (i+1) (by omega)
  ·rw [hp] at h1
   rw [KP hi (by simpa using h1)]
theorem nC{l:Z α}{p:α→Bool}{r:α→β}{s:σ}(hs: ∀i,i<l.length→f i s=if p (aR l i) then some (.ret (r (aR l i))) else some (.next s)):loopN f (l.length-0) 0 s=some (match l.find? p with|some x=> .inl (r x)|none=> .inr s):=by
 have:=W9 hs l.length 0 (by omega)
 rwa [List.drop_zero] at this
theorem JE{l:Z α}{p:α→Bool}{r:β}{s:σ}(hs: ∀i,i<l.length→f i s=if p (aR l i) then some (.next s) else some (.ret r)):loopN f (l.length-0) 0 s=some (if l.all p then .inr s else .inl r):=by
 rw [nC (p:=fun x=> !p x) (r:=fun _=>r) (fun i hi=>by rw [hs i hi];cases p (aR l i)<;>rfl)]
 cases h:l.find? (fun x=> !p x) with
 |none=>
  rw [List.find?_eq_none] at h
  rw [if_pos (by rw [List.all_eq_true];intro x hx;have:=h x hx;simpa using this)]
 |some x=>
  have h1:=List.find?_some h
  have h2:=List.mem_of_find?_eq_some h
  rw [if_neg (by rw [List.all_eq_true];intro hc;have:=hc x h2;simp [this] at h1)]
theorem yW{f:Nat→Unit→J (LR Unit Int)}{l:Z α}{p:α→Bool}(hs: ∀i,i<l.length→f i ()=if p (aR l i) then some (.ret ((i:Nat):Int)) else some (.next ())):
 loopN f (l.length-0) 0 ()=some (match l.findIdx? p with|some i=> .inl ((i:Nat):Int)|none=> .inr ()):=by
 have key: ∀(k i:Nat),l.length-i=k→loopN f (l.length-i) i ()=some (match(l.drop i).findIdx? p with|some j=> .inl (((i+j:Nat)):Int)|none=> .inr ()):=by
  intro k
  induction k with
  |zero=>
   intro i hk
   rw [FM (by omega),List.drop_of_length_le (by omega)]
   rfl
  |succ k ih=>
   intro i hk
   have hi:i<l.length:=by omega
   have h1:=hs i hi
   rw [sF hi,List.findIdx?_cons]
   cases hp:p (aR l i)
   ·rw [hp] at h1
    rw [CN hi (by simpa using h1),ih (i+1) (by omega)]
    cases(l.drop (i+1)).findIdx? p with
    |none=>simp
    |some j=>simp;omega
   ·rw [hp] at h1
    rw [KP hi (by simpa using h1)]
    simp
 have:=key l.length 0 (by omega)
 simpa using this
omit [Inhabited α] in
theorem RX{l:Z α}{p:α→Bool}:decide ((match l.findIdx? p with|some i=>((i:Nat):Int)|none=> -1)≥0)=l.any p:=by
 cases h:l.findIdx? p with
 |none=>
  rw [List.findIdx?_eq_none_iff] at h
  have:l.any p=false:=by rw [List.any_eq_false];intro x hx;simp [h x hx]
  rw [this];rfl
 |some i=>
  obtain⟨h1,h2,-⟩:=List.findIdx?_eq_some_iff_getElem.1 h
  have:l.any p=true:=List.any_eq_true.2 ⟨_,List.getElem_mem h1,h2⟩
  rw [this]
  simp
end
end Go.Proofs.YtfcoaagbccmahaaGreat

namespace Go.Proofs.YtfcoaagbccmahaaGreat
open Go.RowKit Go.WalkArith Go.IntWalk
def Ok{α:Type}(o:J α)(P:α→Prop):Prop:= ∃a,o=some a∧P a
theorem Ok.some{α:Type}{P:α→Prop}{a:α}(h:P a):Ok (Option.some a) P:=⟨a,rfl,h⟩
theorem Ok.mono{α:Type}{P Q:α→Prop}{o:J α}(h:Ok o P)(k: ∀a,P a→Q a):Ok o Q:=by
 obtain⟨a,e,h⟩:=h
 exact⟨a,e,k a h⟩
theorem Ok.bd{α β:Type}{o:J α}{f:α→J β}{Q:α→Prop}{P:β→Prop}(h:Ok o Q)(k: ∀a,Q a→Ok (f a) P):Ok (bd o f) P:=by
 obtain⟨a,rfl,h⟩:=h
 exact k a h
theorem Ok.sw{α:Type}{c:Bool}{a b:J α}{P:α→Prop}(ht:c=true→Ok a P)(hf:c=false→Ok b P):Ok (sw c a b) P:=by
 cases c
 ·exact hf rfl
 ·exact ht rfl
theorem Ok.gd{α:Type}{g:Prop}{a:J α}{P:α→Prop}(h:g)(k:Ok a P):Ok (gd g a) P:=by
 rw [jC h rfl]
 exact k
theorem Ok.so{σ β:Type}{o:J (β⊕σ)}{f:σ→J β}{Q:β⊕σ→Prop}{P:β→Prop}(h:Ok o Q)(k1: ∀x,Q (.inl x)→P x)(k2: ∀s,Q (.inr s)→Ok (f s) P):Ok (so o f) P:=by
 obtain⟨a,rfl,h⟩:=h
 cases a with
 |inl x=>exact⟨x,rfl,k1 x h⟩
 |inr s=>exact k2 s h
theorem Ok.lt{α β:Type}{x:α}{f:α→J β}{P:β→Prop}(k: ∀y,y=x→Ok (f y) P):Ok (lt x f) P:=k x rfl
theorem DS.pick_mem(d:DS){l:LB}(h:0<l.length):d.pick l∈l:=by
 rw [DS.pick_eq (d.below_lt h)]
 exact List.getElem_mem _
theorem DS.pick_size(d:DS){l:LB}{k:Nat}(h:0<l.length)(hs: ∀v∈l,v.size≤k):(d.pick l).size≤k:=hs _ (d.pick_mem h)
def PS{σ β:Type}(Q:β→Prop)(E:σ→Prop):β⊕σ→Prop
 | .inl x=>Q x
 | .inr s=>E s
def PL{σ β:Type}(Q:β→Prop)(N E:σ→Prop):LR σ β→Prop
 | .next s=>N s
 | .brk s=>E s
 | .ret x=>Q x
theorem Ok.gdk{α:Type}{g:Prop}{a:J α}{P:α→Prop}(h:g)(k:g→Ok a P):Ok (Go.Proofs.YtfcoaagbccmahaaGreat.gd g a) P:=Ok.gd h (k h)
theorem Ok.sok{σ β:Type}{o:J (β⊕σ)}{f:σ→J β}{P:β→Prop}{E:σ→Prop}(h:Ok o (PS P E))(k: ∀s,E s→Ok (f s) P):Ok (Go.Proofs.YtfcoaagbccmahaaGreat.so o f) P:=Ok.so h (fun _ hx=>hx) k
theorem Ok.loopN{σ β:Type}{f:Nat→σ→J (LR σ β)}{n:Nat}{Q:β→Prop}{E:σ→Prop}(I:Nat→σ→Prop)(hE: ∀i s,n≤i→I i s→E s)(hs: ∀i s,i<n→I i s→Ok (f i s) (PL Q (I (i+1)) E)):
 ∀(k i:Nat) (s:σ),n-i=k→I i s→Ok (Go.Proofs.YtfcoaagbccmahaaGreat.loopN f (n-i) i s) (PS Q E)
 |0,i,s,hk,hi=>by rw [FM (by omega)];exact Ok.some (hE i s (by omega) hi)
 |k+1,i,s,hk,hi=>by
  have hlt:i<n:=by omega
  obtain⟨r,hr,hp⟩:=hs i s hlt hi
  cases r with
  |next s'=>rw [CN hlt hr];exact Ok.loopN I hE hs k (i+1) s' (by omega) hp
  |brk s'=>rw [an2 hlt hr];exact Ok.some hp
  |ret x=>rw [KP hlt hr];exact Ok.some hp
theorem Ok.loopN0{σ β:Type}{f:Nat→σ→J (LR σ β)}{n i:Nat}{s:σ}{Q:β→Prop}{E:σ→Prop}(I:Nat→σ→Prop)(h0:I i s)(hE: ∀i s,n≤i→I i s→E s)(hs: ∀i s,i<n→I i s→Ok (f i s) (PL Q (I (i+1)) E)):Ok (Go.Proofs.YtfcoaagbccmahaaGreat.loopN f (n-i) i s) (PS Q E):=
 Ok.loopN I hE hs (n-i) i s rfl h0
theorem Ok.loopW{σ β:Type}{f:σ→J (LR σ β)}{Q:β→Prop}{E:σ→Prop}(I:σ→Prop)(μ:σ→Nat)(hs: ∀s,I s→Ok (f s) (PL Q (fun s'=>I s'∧μ s'<μ s) E)):
 ∀(k:Nat) (s:σ),μ s<k→I s→Ok (Go.Proofs.YtfcoaagbccmahaaGreat.loopW f k s) (PS Q E)
 |0,s,hk,_=>absurd hk (Nat.not_lt_zero _)
 |k+1,s,hk,hi=>by
  obtain⟨r,hr,hp⟩:=hs s hi
  unfold Go.Proofs.YtfcoaagbccmahaaGreat.loopW
  rw [hr]
  cases r with
  |next s'=>exact Ok.loopW I μ hs k s' (by have:=hp.2;omega) hp.1
  |brk s'=>exact Ok.some hp
  |ret x=>exact Ok.some hp
theorem bR.ge(k:Nat):bR fun fu=>k≤fu:=⟨k,fun _ h=>h⟩
class Wt (α:Type) where
 wtOf:α→Nat
def wt{α:Type}[Wt α](x:α):Nat:=Wt.wtOf x
def wl{α:Type}[Wt α]:Z α→Nat
 | []=>0
 |a::l=>wt a+1+wl l
instance:Wt ByteArray:=⟨ByteArray.size⟩
theorem aZ(b:Y):wt b=b.size:=rfl
theorem J3(l:LB):wl l=l.length+Tr.bulkAll (aY l):=by
 induction l with
 |nil=>rw [as3];rfl
 |cons a l ih=>rw [aq7];simp only [wl,List.length_cons,aZ];omega
section
variable {α:Type} [Wt α]
theorem aX:wl ([]:Z α)=0∧([]:Z α).length=0:=⟨rfl,rfl⟩
theorem ae4(a:α)(l:Z α):wl (a::l)=wt a+1+wl l:=rfl
theorem b6(a b:Z α):wl (a++b)=wl a+wl b∧(a++b).length=a.length+b.length:=by
 refine⟨?_,List.length_append⟩
 induction a with
 |nil=>simp [wl]
 |cons x a ih=>simp only [List.cons_append,wl];omega
theorem cH(a:α):wl [a]=wt a+1∧ [a].length=1:=⟨rfl,rfl⟩
theorem lJ(a b:α):wl [a,b]=wt a+wt b+2∧ [a,b].length=2:=⟨by simp only [wl];omega,rfl⟩
theorem GP(a b c:α):wl [a,b,c]=wt a+wt b+wt c+3∧ [a,b,c].length=3:=⟨by simp only [wl];omega,rfl⟩
theorem azJ(a b c d:α):wl [a,b,c,d]=wt a+wt b+wt c+wt d+4∧ [a,b,c,d].length=4:=⟨by simp only [wl];omega,rfl⟩
theorem av5(a b c d e:α):wl [a,b,c,d,e]=wt a+wt b+wt c+wt d+wt e+5∧ [a,b,c,d,e].length=5:=⟨by simp only [wl];omega,rfl⟩
theorem anZ(a b c d e f g:α):wl [a,b,c,d,e,f,g]=wt a+wt b+wt c+wt d+wt e+wt f+wt g+7∧ [a,b,c,d,e,f,g].length=7:=⟨by simp only [wl];omega,rfl⟩
theorem bA(l:Z α):l.length≤wl l:=by
 induction l with
 |nil=>simp
 |cons a l ih=>simp only [wl,List.length_cons];omega
theorem J2(k:Nat)(l:Z α):wl (l.take k)+wl (l.drop k)=wl l:=by
 have:=(b6 (l.take k) (l.drop k)).1
 rw [List.take_append_drop] at this
 omega
theorem qF(l:Z α)(k:Nat):wl (l.take k)≤wl l:=by have:=J2 k l;omega
theorem as7(k:Nat)(l:Z α):wl (l.drop k)≤wl l:=by have:=J2 k l;omega
theorem VT(a b:Nat)(l:Z α):wl (List.drop a (List.take b l))≤wl l∧(List.drop a (List.take b l)).length=min b l.length-a:=by
 have h1:=as7 a (l.take b)
 have h2:=qF l b
 exact⟨by omega,by simp⟩
theorem C9{l:Z α}{x:α}(h:x∈l):wt x+1≤wl l:=by
 induction l with
 |nil=>simp at h
 |cons a l ih=>
  simp only [wl]
  rcases List.mem_cons.1 h with rfl|h
  ·omega
  ·have:=ih h;omega
theorem ae5(l:Z α)(a b:Nat):a≤b→wl (l.take a)≤wl (l.take b):=fun h=>by
 have:=qF (l.take b) a
 rwa [List.take_take,Nat.min_eq_left h] at this
theorem auT(L:Z α)(b:Nat):1≤b→wl (List.drop (1:Int).toNat (List.take b L))+wl (List.take 1 L)≤wl (List.take b L):=fun h=>by
 have:=J2 1 (L.take b)
 rw [List.take_take,Nat.min_eq_left h] at this
 show wl (List.drop 1 _)+_≤_
 omega
variable [Inhabited α]
theorem cZ(l:Z α)(i:Nat):i<l.length→wt (aR l i)+1≤wl l:=fun h=>C9 (cB h)
theorem qG(l:Z α)(i:Nat)(h:i<l.length):wl (l.take (i+1))=wl (l.take i)+wt (aR l i)+1:=by
 rw [J0 h,(b6 _ _).1,(cH _).1]
 omega
theorem MM(l:Z α)(i:Nat):i<l.length→wl (l.take (i+1))=wl (l.take i)+wt (aR l i)+1:=qG l i
end
theorem fC(E:Int): -9223372036854775808≤E∧E≤9223372036854775807→aW E=E:=fun h=>by
 unfold aW IntKind.wrap
 simp [IntKind.bits,IntKind.signed]
 omega
theorem GE(b:Y)(i j:Nat):(b.extract i j).size=min j b.size-i:=by simp [ByteArray.size_extract]
theorem eG(a b:Y):(a++b).size=a.size+b.size:=ByteArray.size_append
theorem apM(l:Z UInt8):(bytesStr l).size=l.length:=by simp [bytesStr,ByteArray.size]
theorem IV{b:Y}(h: ¬b=⟨#[]⟩):0<b.size:=by
 rcases Nat.eq_zero_or_pos b.size with h0|h0
 ·refine absurd ?_ h
  obtain⟨a⟩:=b
  have h1:a.size=0:=h0
  rw [Array.eq_empty_of_size_eq_zero h1]
 ·exact h0
theorem bU{p:Prop}(h:p:=by first|omega|(dsimp only;omega)|trivial|(dsimp only;trivial)):p:=h
theorem Ok.next{σ β:Type}{N E:σ→Prop}{Q:β→Prop}{s:σ}(h:N s):Ok (Option.some (LR.next s)) (PL Q N E):=⟨_,rfl,h⟩
theorem Ok.brk{σ β:Type}{N E:σ→Prop}{Q:β→Prop}{s:σ}(h:E s):Ok (Option.some (LR.brk s)) (PL Q N E):=⟨_,rfl,h⟩
theorem Ok.ret{σ β:Type}{N E:σ→Prop}{Q:β→Prop}{x:β}(h:Q x):Ok (Option.some (LR.ret (σ:=σ) x)) (PL Q N E):=⟨_,rfl,h⟩
theorem Ok.inr{σ β:Type}{E:σ→Prop}{Q:β→Prop}{s:σ}(h:E s):Ok (Option.some (Sum.inr (α:=β) s)) (PS Q E):=⟨_,rfl,h⟩
theorem Ok.swd{α:Type}{p:Prop}[Decidable p]{a b:J α}{P:α→Prop}(ht:p→Ok a P)(hf: ¬p→Ok b P):Ok (Go.Proofs.YtfcoaagbccmahaaGreat.sw (decide p) a b) P:=Ok.sw (fun h=>ht (of_decide_eq_true h)) (fun h=>hf (of_decide_eq_false h))
theorem Ok.swn{α:Type}{p:Prop}[Decidable p]{a b:J α}{P:α→Prop}(ht: ¬p→Ok a P)(hf:p→Ok b P):Ok (Go.Proofs.YtfcoaagbccmahaaGreat.sw (!decide p) a b) P:=Ok.sw (fun h=>ht (by simpa using h)) (fun h=>hf (by simpa using h))
theorem Ok.swb{α:Type}{x:Bool}{a b:J α}{P:α→Prop}(ht:x=false→Ok a P)(hf:x=true→Ok b P):Ok (Go.Proofs.YtfcoaagbccmahaaGreat.sw (!x) a b) P:=Ok.sw (fun h=>ht (by simpa using h)) (fun h=>hf (by simpa using h))
theorem Ok.loop0{σ β:Type}{f:Nat→σ→J (LR σ β)}{n i:Nat}{s:σ}{Q:β→Prop}{E:σ→Prop}(I:Nat→σ→Prop)(h0:I i s)(hE: ∀i s,n≤i→I i s→E s)(hs: ∀i s,i<n→I i s→Ok (f i s) (PL Q (I (i+1)) E)):Ok (Go.Proofs.YtfcoaagbccmahaaGreat.loopN f (n-i) i s) (PS Q E):=Ok.loopN0 I h0 hE hs
theorem Ok.loop1{σ β:Type}{f:Nat→σ→J (LR σ β)}{n i:Nat}{s:σ}{Q:β→Prop}(hs: ∀i s,i<n→Ok (f i s) (PL Q (fun _=>True) (fun _=>True))):Ok (Go.Proofs.YtfcoaagbccmahaaGreat.loopN f (n-i) i s) (PS Q (fun _=>True)):=Ok.loopN0 (fun _ _=>True) trivial (fun _ _ _ _=>trivial) (fun i s hi _=>hs i s hi)
theorem oG{α:Type}{g:Prop}{a:J α}{P:α→Prop}(k:g→Ok a P)(h:g:=by first|omega|trivial):Ok (Go.Proofs.YtfcoaagbccmahaaGreat.gd g a) P:=Ok.gdk h k
theorem oD{α:Type}{p:Prop}[Decidable p]{a b:J α}{P:α→Prop}(ht:p→Ok a P)(hf: ¬p→Ok b P):Ok (Go.Proofs.YtfcoaagbccmahaaGreat.sw (decide p) a b) P:=Ok.swd ht hf
theorem oN{α:Type}{p:Prop}[Decidable p]{a b:J α}{P:α→Prop}(ht: ¬p→Ok a P)(hf:p→Ok b P):Ok (Go.Proofs.YtfcoaagbccmahaaGreat.sw (!decide p) a b) P:=Ok.swn ht hf
theorem oW{α:Type}{x:Bool}{a b:J α}{P:α→Prop}(ht:x=false→Ok a P)(hf:x=true→Ok b P):Ok (Go.Proofs.YtfcoaagbccmahaaGreat.sw (!x) a b) P:=Ok.swb ht hf
theorem oC{α:Type}{c:Bool}{a b:J α}{P:α→Prop}(ht:c=true→Ok a P)(hf:c=false→Ok b P):Ok (Go.Proofs.YtfcoaagbccmahaaGreat.sw c a b) P:=Ok.sw ht hf
theorem oB{α β:Type}{o:J α}{f:α→J β}{Q:α→Prop}{P:β→Prop}(h:Ok o Q)(k: ∀a,Q a→Ok (f a) P):Ok (Go.Proofs.YtfcoaagbccmahaaGreat.bd o f) P:=Ok.bd h k
theorem TX{α β:Type}{o:J α}{f:α→J β}{Q1 Q2:α→Prop}{P:β→Prop}(h:Ok o (fun r=>Q1 r∧Q2 r))(k: ∀a,Q1 a→Q2 a→Ok (f a) P):Ok (Go.Proofs.YtfcoaagbccmahaaGreat.bd o f) P:=Ok.bd h fun a q=>k a q.1 q.2
theorem wJ{A B β:Type}{o:J (A×B)}{f:A×B→J β}{Q:A×B→Prop}{P:β→Prop}(h:Ok o Q)(k: ∀a b,Q (a,b)→Ok (f (a,b)) P):Ok (Go.Proofs.YtfcoaagbccmahaaGreat.bd o f) P:=Ok.bd h fun _ q=>k _ _ q
theorem oB4{A B C D β:Type}{o:J (A×B×C×D)}{f:A×B×C×D→J β}{Q:A×B×C×D→Prop}{P:β→Prop}(h:Ok o Q)(k: ∀a b c d,Q (a,b,c,d)→Ok (f (a,b,c,d)) P):Ok (Go.Proofs.YtfcoaagbccmahaaGreat.bd o f) P:=Ok.bd h fun _ q=>k _ _ _ _ q
theorem oB6{A B C D E F β:Type}{o:J (A×B×C×D×E×F)}{f:A×B×C×D×E×F→J β}{Q:A×B×C×D×E×F→Prop}{P:β→Prop}(h:Ok o Q)(k: ∀a b c d e g,Q (a,b,c,d,e,g)→Ok (f (a,b,c,d,e,g)) P):Ok (Go.Proofs.YtfcoaagbccmahaaGreat.bd o f) P:=Ok.bd h fun _ q=>k _ _ _ _ _ _ q
theorem oS{α:Type}{P:α→Prop}{a:α}(h:P a:=by first|trivial|omega|(dsimp only;omega)):Ok (Option.some a) P:=⟨a,rfl,h⟩
theorem rE{σ β:Type}{N E:σ→Prop}{Q:β→Prop}{s:σ}(h:N s:=by first|trivial|omega|(dsimp only;omega)):Ok (Option.some (LR.next s)) (PL Q N E):=⟨_,rfl,h⟩
theorem oK{σ β:Type}{N E:σ→Prop}{Q:β→Prop}{s:σ}(h:E s:=by first|trivial|omega|(dsimp only;omega)):Ok (Option.some (LR.brk s)) (PL Q N E):=⟨_,rfl,h⟩
theorem oR{σ β:Type}{N E:σ→Prop}{Q:β→Prop}{x:β}(h:Q x:=by first|trivial|omega|(dsimp only;omega)):Ok (Option.some (LR.ret (σ:=σ) x)) (PL Q N E):=⟨_,rfl,h⟩
theorem oL{σ β:Type}{E:σ→Prop}{Q:β→Prop}{x:β}(h:Q x:=by first|trivial|omega|(dsimp only;omega)):Ok (Option.some (Sum.inl (β:=σ) x)) (PS Q E):=⟨_,rfl,h⟩
theorem oI{σ β:Type}{E:σ→Prop}{Q:β→Prop}{s:σ}(h:E s:=by first|trivial|omega|(dsimp only;omega)):Ok (Option.some (Sum.inr (α:=β) s)) (PS Q E):=⟨_,rfl,h⟩
theorem IG{σ β:Type}{o:J (β⊕σ)}{f:σ→J β}{P:β→Prop}(h:Ok o (PS P fun _=>True))(k: ∀s,True→Ok (f s) P):Ok (Go.Proofs.YtfcoaagbccmahaaGreat.so o f) P:=Ok.sok h k
theorem oEN{σ β:Type}{n i0:Nat}{s0:σ}{F:Nat→σ→J (LR σ β)}{f:σ→J β}{P:β→Prop}(hs: ∀i s,i<n→Ok (F i s) (PL P (fun _=>True) (fun _=>True)))(k: ∀s,True→Ok (f s) P):Ok (Go.Proofs.YtfcoaagbccmahaaGreat.so (Go.Proofs.YtfcoaagbccmahaaGreat.loopN F (n-i0) i0 s0) f) P:=Ok.sok (Ok.loop1 hs) k
theorem SE{A B β:Type}[Wt A][Wt B][Inhabited A]{F:Nat→Z B→J (LR (Z B) β)}{f:Z B→J β}{i0:Nat}{v0:Z B}{Q:β→Prop}(L:Z A)(c:Nat)
 (hs: ∀i v,i<L.length→wl v+c*wl (List.take i0 L)≤wl v0+c*wl (List.take i L)→wl (L.take (i+1))=wl (L.take i)+wt (aR L i)+1→wl (L.take (i+1))≤wl L→
  Ok (F i v) (PL Q (fun v=>wl v+c*wl (List.take i0 L)≤wl v0+c*wl (List.take (i+1) L)) (fun v=>wl v+c*wl (List.take i0 L)≤wl v0+c*wl L)))
 (k: ∀v,wl v+c*wl (List.take i0 L)≤wl v0+c*wl L→Ok (f v) Q):Ok (Go.Proofs.YtfcoaagbccmahaaGreat.so (Go.Proofs.YtfcoaagbccmahaaGreat.loopN F (L.length-i0) i0 v0) f) Q:=
 Ok.sok (Ok.loopN0 (fun i v=>wl v+c*wl (List.take i0 L)≤wl v0+c*wl (List.take i L)) (Nat.le_refl _) (fun i v _ h=>Nat.le_trans h (Nat.add_le_add_left (Nat.mul_le_mul_left _ (qF L i)) _)) (fun i v hi h=>hs i v hi h (qG L i hi) (qF L _))) k
theorem asA{A B β:Type}[Wt A][Wt B][Inhabited A]{F:Nat→Z B→J (LR (Z B) β)}{f:Z B→J β}{i0:Nat}{Q:β→Prop}{PA:B→Prop}(L:Z A)(c:Nat)
 (hs: ∀i v,i<L.length→wl v+c*wl (List.take i0 L)≤wl ([]:Z B)+c*wl (List.take i L)→(∀a∈v,PA a)→wl (L.take (i+1))=wl (L.take i)+wt (aR L i)+1→wl (L.take (i+1))≤wl L→
  Ok (F i v) (PL Q (fun v=>wl v+c*wl (List.take i0 L)≤wl ([]:Z B)+c*wl (List.take (i+1) L)∧ ∀a∈v,PA a) (fun v=>wl v+c*wl (List.take i0 L)≤wl ([]:Z B)+c*wl L∧ ∀a∈v,PA a)))
 (k: ∀v,(wl v+c*wl (List.take i0 L)≤wl ([]:Z B)+c*wl L∧ ∀a∈v,PA a)→Ok (f v) Q):Ok (Go.Proofs.YtfcoaagbccmahaaGreat.so (Go.Proofs.YtfcoaagbccmahaaGreat.loopN F (L.length-i0) i0 []) f) Q:=
 Ok.sok (Ok.loopN0 (fun i v=>wl v+c*wl (List.take i0 L)≤wl ([]:Z B)+c*wl (List.take i L)∧ ∀a∈v,PA a) ⟨Nat.le_refl _,by simp⟩ (fun i v _ h=>⟨Nat.le_trans h.1 (Nat.add_le_add_left (Nat.mul_le_mul_left _ (qF L i)) _),h.2⟩) (fun i v hi h=>hs i v hi h.1 h.2 (qG L i hi) (qF L _))) k
instance:Wt aE:=⟨fun x=>Tr.bulkL (aE.tr x)⟩
instance:Wt aA:=⟨fun x=>Tr.bulkL (aA.tr x)⟩
instance:Wt aL:=⟨fun x=>Tr.bulkL (aL.tr x)⟩
instance:Wt bW:=⟨fun x=>Tr.bulkL (bW.tr x)⟩
instance:Wt aF:=⟨fun x=>Tr.bulkL (aF.tr x)⟩
instance:Wt aV:=⟨fun x=>Tr.bulkL (aV.tr x)⟩
instance:Wt aP:=⟨fun x=>Tr.bulkL (aP.tr x)⟩
instance:Wt aC:=⟨fun x=>Tr.bulkL (aC.tr x)⟩
instance:Wt aG:=⟨fun x=>Tr.bulkL (aG.tr x)⟩
instance:Wt aU:=⟨fun x=>Tr.bulkL (aU.tr x)⟩
instance:Wt aM:=⟨fun x=>Tr.bulkL (aM.tr x)⟩
instance:Wt aI:=⟨fun x=>Tr.bulkL (aI.tr x)⟩
instance:Wt aO:=⟨fun x=>Tr.bulkL (aO.tr x)⟩
instance:Wt aN:=⟨fun x=>Tr.bulkL (aN.tr x)⟩
instance:Wt aH:=⟨fun x=>Tr.bulkL (aH.tr x)⟩
instance:Wt aB:=⟨fun x=>Tr.bulkL (aB.tr x)⟩
instance:Wt aJ:=⟨fun x=>Tr.bulkL (aJ.tr x)⟩
instance:Wt aK:=⟨fun x=>Tr.bulkL (aK.tr x)⟩
instance:Wt aD:=⟨fun x=>Tr.bulkL (aD.tr x)⟩
instance:Wt cX:=⟨fun x=>Tr.bulkL (cX.tr x)⟩
instance:Wt bQ:=⟨fun x=>Tr.bulkL (bQ.tr x)⟩
theorem aA.wl_bulk(l:Z aA):wl l=l.length+Tr.bulkAll (aA.trs l):=by
 induction l with
 |nil=>rw [aA.bks_nil];rfl
 |cons a l ih=>
  rw [aA.bks_cons]
  simp only [wl,List.length_cons,ih]
  show Tr.bulkL (aA.tr a)+1+_=_
  omega
theorem aL.wl_bulk(l:Z aL):wl l=l.length+Tr.bulkAll (aL.trs l):=by
 induction l with
 |nil=>rw [aL.bks_nil];rfl
 |cons a l ih=>
  rw [aL.bks_cons]
  simp only [wl,List.length_cons,ih]
  show Tr.bulkL (aL.tr a)+1+_=_
  omega
theorem bW.wl_bulk(l:Z bW):wl l=l.length+Tr.bulkAll (bW.trs l):=by
 induction l with
 |nil=>rw [bW.bks_nil];rfl
 |cons a l ih=>
  rw [bW.bks_cons]
  simp only [wl,List.length_cons,ih]
  show Tr.bulkL (bW.tr a)+1+_=_
  omega
theorem aF.wl_bulk(l:Z aF):wl l=l.length+Tr.bulkAll (aF.trs l):=by
 induction l with
 |nil=>rw [aF.bks_nil];rfl
 |cons a l ih=>
  rw [aF.bks_cons]
  simp only [wl,List.length_cons,ih]
  show Tr.bulkL (aF.tr a)+1+_=_
  omega
theorem aV.wl_bulk(l:Z aV):wl l=l.length+Tr.bulkAll (aV.trs l):=by
 induction l with
 |nil=>rw [aV.bks_nil];rfl
 |cons a l ih=>
  rw [aV.bks_cons]
  simp only [wl,List.length_cons,ih]
  show Tr.bulkL (aV.tr a)+1+_=_
  omega
theorem aP.wl_bulk(l:Z aP):wl l=l.length+Tr.bulkAll (aP.trs l):=by
 induction l with
 |nil=>rw [aP.bks_nil];rfl
 |cons a l ih=>
  rw [aP.bks_cons]
  simp only [wl,List.length_cons,ih]
  show Tr.bulkL (aP.tr a)+1+_=_
  omega
theorem aC.wl_bulk(l:Z aC):wl l=l.length+Tr.bulkAll (aC.trs l):=by
 induction l with
 |nil=>rw [aC.bks_nil];rfl
 |cons a l ih=>
  rw [aC.bks_cons]
  simp only [wl,List.length_cons,ih]
  show Tr.bulkL (aC.tr a)+1+_=_
  omega
theorem aG.wl_bulk(l:Z aG):wl l=l.length+Tr.bulkAll (aG.trs l):=by
 induction l with
 |nil=>rw [aG.bks_nil];rfl
 |cons a l ih=>
  rw [aG.bks_cons]
  simp only [wl,List.length_cons,ih]
  show Tr.bulkL (aG.tr a)+1+_=_
  omega
theorem aU.wl_bulk(l:Z aU):wl l=l.length+Tr.bulkAll (aU.trs l):=by
 induction l with
 |nil=>rw [aU.bks_nil];rfl
 |cons a l ih=>
  rw [aU.bks_cons]
  simp only [wl,List.length_cons,ih]
  show Tr.bulkL (aU.tr a)+1+_=_
  omega
theorem aM.wl_bulk(l:Z aM):wl l=l.length+Tr.bulkAll (aM.trs l):=by
 induction l with
 |nil=>rw [aM.bks_nil];rfl
 |cons a l ih=>
  rw [aM.bks_cons]
  simp only [wl,List.length_cons,ih]
  show Tr.bulkL (aM.tr a)+1+_=_
  omega
theorem aI.wl_bulk(l:Z aI):wl l=l.length+Tr.bulkAll (aI.trs l):=by
 induction l with
 |nil=>rw [aI.bks_nil];rfl
 |cons a l ih=>
  rw [aI.bks_cons]
  simp only [wl,List.length_cons,ih]
  show Tr.bulkL (aI.tr a)+1+_=_
  omega
theorem aO.wl_bulk(l:Z aO):wl l=l.length+Tr.bulkAll (aO.trs l):=by
 induction l with
 |nil=>rw [aO.bks_nil];rfl
 |cons a l ih=>
  rw [aO.bks_cons]
  simp only [wl,List.length_cons,ih]
  show Tr.bulkL (aO.tr a)+1+_=_
  omega
theorem aN.wl_bulk(l:Z aN):wl l=l.length+Tr.bulkAll (aN.trs l):=by
 induction l with
 |nil=>rw [aN.bks_nil];rfl
 |cons a l ih=>
  rw [aN.bks_cons]
  simp only [wl,List.length_cons,ih]
  show Tr.bulkL (aN.tr a)+1+_=_
  omega
theorem aB.wl_bulk(l:Z aB):wl l=l.length+Tr.bulkAll (aB.trs l):=by
 induction l with
 |nil=>rw [aB.bks_nil];rfl
 |cons a l ih=>
  rw [aB.bks_cons]
  simp only [wl,List.length_cons,ih]
  show Tr.bulkL (aB.tr a)+1+_=_
  omega
theorem aA.wt_mk(v0:Int)(v1:Y)(v2:Z aA):wt (aA.mk v0 v1 v2)=v1.size+wl v2:=by
 show Tr.bulkL (aA.tr (.mk v0 v1 v2))=_
 rw [aA.bk_mk]
 simp only [aA.wl_bulk]
 try rfl
theorem aA.wt_eq(x:aA):wt x=x.aD4.size+wl x.aD5:=by
 obtain⟨v0,v1,v2⟩:=x
 exact aA.wt_mk v0 v1 v2
theorem aL.wt_mk(v0:Int)(v1:Y)(v2:Y)(v3:Int)(v4:aA)(v5:Z aL)(v6:Z bW):wt (aL.mk v0 v1 v2 v3 v4 v5 v6)=v1.size+v2.size+wt v4+wl v5+wl v6:=by
 show Tr.bulkL (aL.tr (.mk v0 v1 v2 v3 v4 v5 v6))=_
 rw [aL.bk_mk]
 simp only [aL.wl_bulk,bW.wl_bulk]
 try rfl
theorem aL.wt_eq(x:aL):wt x=x.aEb.size+x.aD4.size+wt x.aD6+wl x.aD5+wl x.aEo:=by
 obtain⟨v0,v1,v2,v3,v4,v5,v6⟩:=x
 exact aL.wt_mk v0 v1 v2 v3 v4 v5 v6
theorem bW.wt_mk(v0:Y)(v1:LB)(v2:aL):wt (bW.mk v0 v1 v2)=v0.size+wl v1+wt v2:=by
 show Tr.bulkL (bW.tr (.mk v0 v1 v2))=_
 rw [bW.bk_mk]
 simp only [J3]
 try rfl
theorem bW.wt_eq(x:bW):wt x=x.aEt.size+wl x.aEh+wt x.aEe:=by
 obtain⟨v0,v1,v2⟩:=x
 exact bW.wt_mk v0 v1 v2
theorem aF.wt_mk(v0:Y)(v1:aA):wt (aF.mk v0 v1)=v0.size+wt v1:=by
 show Tr.bulkL (aF.tr (.mk v0 v1))=_
 rw [aF.bk_mk]
 try rfl
theorem aF.wt_eq(x:aF):wt x=x.aEb.size+wt x.aD6:=by
 obtain⟨v0,v1⟩:=x
 exact aF.wt_mk v0 v1
theorem aV.wt_mk(v0:Y)(v1:aA):wt (aV.mk v0 v1)=v0.size+wt v1:=by
 show Tr.bulkL (aV.tr (.mk v0 v1))=_
 rw [aV.bk_mk]
 try rfl
theorem aV.wt_eq(x:aV):wt x=x.aD4.size+wt x.aD6:=by
 obtain⟨v0,v1⟩:=x
 exact aV.wt_mk v0 v1
theorem aP.wt_mk(v0:Y)(v1:LB)(v2:aL):wt (aP.mk v0 v1 v2)=v0.size+wl v1+wt v2:=by
 show Tr.bulkL (aP.tr (.mk v0 v1 v2))=_
 rw [aP.bk_mk]
 simp only [J3]
 try rfl
theorem aP.wt_eq(x:aP):wt x=x.aD4.size+wl x.aEh+wt x.aEe:=by
 obtain⟨v0,v1,v2⟩:=x
 exact aP.wt_mk v0 v1 v2
theorem aC.wt_mk(v0:Y)(v1:Z aA):wt (aC.mk v0 v1)=v0.size+wl v1:=by
 show Tr.bulkL (aC.tr (.mk v0 v1))=_
 rw [aC.bk_mk]
 simp only [aA.wl_bulk]
 try rfl
theorem aC.wt_eq(x:aC):wt x=x.aD4.size+wl x.aEm:=by
 obtain⟨v0,v1⟩:=x
 exact aC.wt_mk v0 v1
theorem aG.wt_mk(v0:Y)(v1:Z aA)(v2:aA)(v3:Bool)(v4:LB)(v5:aL):wt (aG.mk v0 v1 v2 v3 v4 v5)=v0.size+wl v1+wt v2+wl v4+wt v5:=by
 show Tr.bulkL (aG.tr (.mk v0 v1 v2 v3 v4 v5))=_
 rw [aG.bk_mk]
 simp only [aA.wl_bulk,J3]
 try rfl
theorem aG.wt_eq(x:aG):wt x=x.aD4.size+wl x.aEn+wt x.aEl+wl x.aEh+wt x.aEe:=by
 obtain⟨v0,v1,v2,v3,v4,v5⟩:=x
 exact aG.wt_mk v0 v1 v2 v3 v4 v5
theorem aU.wt_mk(v0:Y)(v1:LB)(v2:Bool)(v3:Bool)(v4:Z aG):wt (aU.mk v0 v1 v2 v3 v4)=v0.size+wl v1+wl v4:=by
 show Tr.bulkL (aU.tr (.mk v0 v1 v2 v3 v4))=_
 rw [aU.bk_mk]
 simp only [J3,aG.wl_bulk]
 try rfl
theorem aU.wt_eq(x:aU):wt x=x.aD4.size+wl x.aEc+wl x.aEp:=by
 obtain⟨v0,v1,v2,v3,v4⟩:=x
 exact aU.wt_mk v0 v1 v2 v3 v4
theorem aM.wt_mk(v0:Y)(v1:LB)(v2:Z aC):wt (aM.mk v0 v1 v2)=v0.size+wl v1+wl v2:=by
 show Tr.bulkL (aM.tr (.mk v0 v1 v2))=_
 rw [aM.bk_mk]
 simp only [J3,aC.wl_bulk]
 try rfl
theorem aM.wt_eq(x:aM):wt x=x.aD4.size+wl x.aEh+wl x.aD9:=by
 obtain⟨v0,v1,v2⟩:=x
 exact aM.wt_mk v0 v1 v2
theorem aI.wt_mk(v0:Y)(v1:LB)(v2:aA)(v3:Z aF)(v4:Bool)(v5:Bool)(v6:aA)(v7:Z aP):wt (aI.mk v0 v1 v2 v3 v4 v5 v6 v7)=v0.size+wl v1+wt v2+wl v3+wt v6+wl v7:=by
 show Tr.bulkL (aI.tr (.mk v0 v1 v2 v3 v4 v5 v6 v7))=_
 rw [aI.bk_mk]
 simp only [J3,aF.wl_bulk,aP.wl_bulk]
 try rfl
theorem aI.wt_eq(x:aI):wt x=x.aEb.size+wl x.aEh+wt x.aEj+wl x.aEk+wt x.aEq+wl x.aEw:=by
 obtain⟨v0,v1,v2,v3,v4,v5,v6,v7⟩:=x
 exact aI.wt_mk v0 v1 v2 v3 v4 v5 v6 v7
theorem aO.wt_mk(v0:Y)(v1:LB)(v2:Z aF)(v3:Z aV)(v4:aA)(v5:aL):wt (aO.mk v0 v1 v2 v3 v4 v5)=v0.size+wl v1+wl v2+wl v3+wt v4+wt v5:=by
 show Tr.bulkL (aO.tr (.mk v0 v1 v2 v3 v4 v5))=_
 rw [aO.bk_mk]
 simp only [J3,aF.wl_bulk,aV.wl_bulk]
 try rfl
theorem aO.wt_eq(x:aO):wt x=x.aD4.size+wl x.aEh+wl x.aEk+wl x.aEn+wt x.aEl+wt x.aEe:=by
 obtain⟨v0,v1,v2,v3,v4,v5⟩:=x
 exact aO.wt_mk v0 v1 v2 v3 v4 v5
theorem aN.wt_mk(v0:Y)(v1:LB)(v2:Z aU)(v3:Z aM)(v4:Z aI)(v5:Z aO):wt (aN.mk v0 v1 v2 v3 v4 v5)=v0.size+wl v1+wl v2+wl v3+wl v4+wl v5:=by
 show Tr.bulkL (aN.tr (.mk v0 v1 v2 v3 v4 v5))=_
 rw [aN.bk_mk]
 simp only [J3,aU.wl_bulk,aM.wl_bulk,aI.wl_bulk,aO.wl_bulk]
 try rfl
theorem aN.wt_eq(x:aN):wt x=x.aD4.size+wl x.aEF+wl x.aEi+wl x.aEd+wl x.aEg+wl x.aEs:=by
 obtain⟨v0,v1,v2,v3,v4,v5⟩:=x
 exact aN.wt_mk v0 v1 v2 v3 v4 v5
theorem aH.wt_mk(v0:Z aN):wt (aH.mk v0)=wl v0:=by
 show Tr.bulkL (aH.tr (.mk v0))=_
 rw [aH.bk_mk]
 simp only [aN.wl_bulk]
 try rfl
theorem aH.wt_eq(x:aH):wt x=wl x.aD3:=by
 obtain⟨v0⟩:=x
 exact aH.wt_mk v0
theorem aB.wt_mk(v0:Y)(v1:Z aB):wt (aB.mk v0 v1)=v0.size+wl v1:=by
 show Tr.bulkL (aB.tr (.mk v0 v1))=_
 rw [aB.bk_mk]
 simp only [aB.wl_bulk]
 try rfl
theorem aB.wt_eq(x:aB):wt x=x.aEa.size+wl x.aD7:=by
 obtain⟨v0,v1⟩:=x
 exact aB.wt_mk v0 v1
end Go.Proofs.YtfcoaagbccmahaaGreat
