/- Words, rules and walks of several kinds, laid together: MaP7, MaP8, MaP9, OkD, OkA7, Ctr, Plain, SL, Mark, Foc, Del, MaFnd, WFnd, WRef, Fresh, MaTy2, TyEq0, WTy. No conditions but those that each theorem states. -/
import Derived.Test.YtfcoaagbccmahaaGreatQh4b16361d
import Derived.Test.YtfcoaagbccmahaaGreatProg
import Derived.Test.YtfcoaagbccmahaaGreatQhb99b45eb
import Derived.WalkArith
import Derived.Test.YtfcoaagbccmahaaGreatQhfd937320
import Derived.Test.YtfcoaagbccmahaaGreatQh524c6f93
set_option linter.unusedSimpArgs false
set_option linter.unusedVariables false
namespace Go.Proofs.YtfcoaagbccmahaaGreat.W
set_option maxRecDepth 100000
set_option maxHeartbeats 40000000
noncomputable section
open Tryz Go.RowKit Go.Proofs
attribute [local irreducible] lt
abbrev JT:=DS→(LB)→Int→Option (aA×DS)
def O6(m:JT):Prop:= ∀(pc:DS) (p4:LB) (p3:Int) (r:aA×DS),m pc p4 p3=some r→vL Tryz.prog 131 [.ptr 0 0,rS p4,pI p3] ⟨[some ⟨133,dC pc⟩],[]⟩ [some ⟨133,dC r.2⟩] 30 3 (aA.trs (r.1.aBt)) (fun k=> .agg [pI r.1.aBw,pS r.1.aBs,iE r.1.aBt k])
theorem W8{m:JT}(h:O6 m)(pc:DS)(p4:LB)(p3:Int)(r:aA×DS)(H:m pc p4 p3=some r):cB Tryz.prog 131 [.ptr 0 0,rS p4,pI p3] ⟨[some ⟨133,dC pc⟩],[]⟩ (fun q t=>q=((aA.pv r.1):PV)∧t=⟨[some ⟨133,dC r.2⟩],[]⟩):=(h pc p4 p3 r H).plain (fun _=>iX) (hp:=anT)
def ac8(fu:Nat)(p9:JT)(pc:DS)(p4:LB)(p3:Int):Option (aA×DS):=lt (pc.after 8) fun d1=>sw (decide ((pc.below 8:Int)<3)) (sw (decide ((p4.length:Int)>0)) (lt (d1.after p4.length) fun d5=>gd (d1.below p4.length<(p4).length) (bd (nP fu (aT p4 (d1.below p4.length))) fun x9=>some ((aA.mk x9.aBw x9.aBs x9.aBt),d5))) (sw (decide ((pc.below 8:Int)<5)) (lt (d1.after ([eU,eE,jN]:LB).length) fun d11=>lt (d1.pick ([eU,eE,jN]:LB)) fun y13=>bd (jH fu y13 ([])) fun x16=>some ((aA.mk x16.aBw x16.aBs x16.aBt),d11)) (sw (decide (p3≤0)) (lt (d1.after ([eU,eE,jN]:LB).length) fun d18=>lt (d1.pick ([eU,eE,jN]:LB)) fun y20=>bd (jH fu y20 ([])) fun x23=>some ((aA.mk x23.aBw x23.aBs x23.aBt),d18)) (sw (decide ((pc.below 8:Int)=5)) (bd (p9 d1 p4 (aZ (p3-1))) fun(x26,x27)=>bd (p9 x27 p4 (aZ (p3-1))) fun(x29,x30)=>bd (jH fu u9 ([(aA.mk x26.aBw x26.aBs x26.aBt),(aA.mk x29.aBw x29.aBs x29.aBt)]:List aA)) fun x32=>some ((aA.mk x32.aBw x32.aBs x32.aBt),x30)) (lt (d1.after ([cV,cV,B6]:LB).length) fun d33=>lt (d1.pick ([cV,cV,B6]:LB)) fun y35=>bd (p9 d33 p4 (aZ (p3-1))) fun(x38,x39)=>bd (jH fu y35 ([(aA.mk x38.aBw x38.aBs x38.aBt)]:List aA)) fun x41=>some ((aA.mk x41.aBw x41.aBs x41.aBt),x39)))))) (sw (decide ((pc.below 8:Int)<5)) (lt (d1.after ([eU,eE,jN]:LB).length) fun d43=>lt (d1.pick ([eU,eE,jN]:LB)) fun y45=>bd (jH fu y45 ([])) fun x48=>some ((aA.mk x48.aBw x48.aBs x48.aBt),d43)) (sw (decide (p3≤0)) (lt (d1.after ([eU,eE,jN]:LB).length) fun d50=>lt (d1.pick ([eU,eE,jN]:LB)) fun y52=>bd (jH fu y52 ([])) fun x55=>some ((aA.mk x55.aBw x55.aBs x55.aBt),d50)) (sw (decide ((pc.below 8:Int)=5)) (bd (p9 d1 p4 (aZ (p3-1))) fun(x58,x59)=>bd (p9 x59 p4 (aZ (p3-1))) fun(x61,x62)=>bd (jH fu u9 ([(aA.mk x58.aBw x58.aBs x58.aBt),(aA.mk x61.aBw x61.aBs x61.aBt)]:List aA)) fun x64=>some ((aA.mk x64.aBw x64.aBs x64.aBt),x62)) (lt (d1.after ([cV,cV,B6]:LB).length) fun d65=>lt (d1.pick ([cV,cV,B6]:LB)) fun y67=>bd (p9 d65 p4 (aZ (p3-1))) fun(x70,x71)=>bd (jH fu y67 ([(aA.mk x70.aBw x70.aBs x70.aBt)]:List aA)) fun x73=>some ((aA.mk x73.aBw x73.aBs x73.aBt),x71)))))
theorem ajV(fu:Nat)(p9:JT)(pA:O6 p9):O6 (ac8 fu p9):=by
 intro pc p4 p3 r H
 unfold vL
 refine qJ func131 H (fun C hC H=>?_)
 refine gQ 7 ?_;refine fZ H fun d1 h2 H=>(q1 (fD [0] [] func73 (FF h2 (fK pc 8))) ?_)
 refine gQ 9 ?_;refine dL 13 H (fun g3 H=>?_) fun g3 H=>?_
 ·have g3n:pc.below 8<3:=by have:=of_decide_eq_true g3;omega
  refine gQ 6 ?_;refine bF H (fun h4 H=>?_) (fun h4 H=>?_)
  ·refine gQ 6 ?_;refine fZ H fun d5 h6 H=>(q1 (fD [0] [] func73 (FF h6 (fK d1 p4.length))) (cA H fun z7 H=>?_))
   refine gQ 2 ?_;refine bM H fun x9 z8 H=>(q1 (bD.callOwn (pre:=⟨[],[]⟩) (B:= []) (R:=fun k=> .agg [pI x9.aBw,pS x9.aBs,iE x9.aBt k]) (ps:= [_]) (qs:= [pS (aT p4 (d1.below p4.length))]) [] rfl rfl func137 (by kernel_rfl) rfl rfl rfl (eH.of trivial trivial (by decide) (by decide)) rfl iX rfl rfl rfl (fun k k'=>(.agg (.cons (.free _ rfl) (.cons (.free _ rfl) (.cons Mv.acc GB.nil))))) (kZ fu (aT p4 (d1.below p4.length)) _ z8)) ?_)
   refine gQ 2 ?_;refine cO.ret ?_
   obtain rfl:_=r:=(s3 H:)
   exact PG (st':=⟨[some ⟨133,dC d5⟩],[⟨30,3,aA.trs (x9.aBt),false⟩]⟩) ⟨0,rfl,rfl,rfl⟩ (hr:=⟨⟨_,_,_,rfl,rfl,KT.h,rfl,rfl⟩,trivial⟩)
  refine gQ 5 ?_;refine dL 29 H (fun g10 H=>?_) fun g10 H=>?_
  ·have g10n:pc.below 8<5:=by have:=of_decide_eq_true g10;omega
   refine gQ 9 ?_;refine q1 (fY ([eU,eE,jN]:LB)) (fZ H fun d11 h12 H=>(fZ H fun y13 h14 H=>(q1 (fD [0] [] func48 (ND h12 h14 (fL d1 ([eU,eE,jN]:LB) (by decide)))) (bM H fun x16 z15 H=>(q1 (bD.callOwn (pre:=⟨[],[]⟩) (B:= []) (R:=fun k=> .agg [pI x16.aBw,pS x16.aBs,iE x16.aBt k]) (ps:= [_,_]) (qs:= [pS y13,_]) [] rfl rfl func47 (by kernel_rfl) rfl rfl rfl (eH.of trivial trivial (by decide) (by decide)) rfl iX rfl rfl rfl (fun k k'=>(.agg (.cons (.free _ rfl) (.cons (.free _ rfl) (.cons Mv.acc GB.nil))))) (iM fu y13 ([]) _ z15)) ?_)))))
   refine gQ 2 ?_;refine cO.ret ?_
   obtain rfl:_=r:=(s3 H:)
   exact PG (st':=⟨[some ⟨133,dC d11⟩],[⟨30,3,aA.trs (x16.aBt),false⟩]⟩) ⟨0,rfl,rfl,rfl⟩ (hr:=⟨⟨_,_,_,rfl,rfl,KT.h,rfl,rfl⟩,trivial⟩)
  refine gQ 5 ?_;refine bF H (fun h17 H=>?_) (fun h17 H=>?_)
  ·refine gQ 3 ?_;refine q1 (fY ([eU,eE,jN]:LB)) (fZ H fun d18 h19 H=>(fZ H fun y20 h21 H=>(q1 (fD [0] [] func48 (ND h19 h21 (fL d1 ([eU,eE,jN]:LB) (by decide)))) (bM H fun x23 z22 H=>(q1 (bD.callOwn (pre:=⟨[],[]⟩) (B:= []) (R:=fun k=> .agg [pI x23.aBw,pS x23.aBs,iE x23.aBt k]) (ps:= [_,_]) (qs:= [pS y20,_]) [] rfl rfl func47 (by kernel_rfl) rfl rfl rfl (eH.of trivial trivial (by decide) (by decide)) rfl iX rfl rfl rfl (fun k k'=>(.agg (.cons (.free _ rfl) (.cons (.free _ rfl) (.cons Mv.acc GB.nil))))) (iM fu y20 ([]) _ z22)) ?_)))))
   refine gQ 2 ?_;refine cO.ret ?_
   obtain rfl:_=r:=(s3 H:)
   exact PG (st':=⟨[some ⟨133,dC d18⟩],[⟨30,3,aA.trs (x23.aBt),false⟩]⟩) ⟨0,rfl,rfl,rfl⟩ (hr:=⟨⟨_,_,_,rfl,rfl,KT.h,rfl,rfl⟩,trivial⟩)
  refine gQ 6 ?_;refine bF H (fun h24 H=>?_) (fun h24 H=>?_)
  ·refine gQ 6 ?_;refine eF H fun x26 x27 z25 H=>(q1 (bD.callOwn (pre:=⟨[some ⟨133,dC d1⟩],[]⟩) (B:= [some ⟨133,dC x27⟩]) (R:=fun k=> .agg [pI x26.aBw,pS x26.aBs,iE x26.aBt k]) (ps:= [_,_,_]) (qs:= [.ptr 0 0,rS p4,pI (aZ (p3-1))]) [0] rfl rfl func131 (by kernel_rfl) rfl rfl rfl (eH.of ⟨⟨_,rfl,rfl,iX,rfl⟩,trivial⟩ trivial (by decide) (by decide)) rfl iX rfl rfl rfl (fun k k'=>(.agg (.cons (.free _ rfl) (.cons (.free _ rfl) (.cons Mv.acc GB.nil))))) (pA d1 p4 (aZ (p3-1)) _ z25)) ?_)
   refine gQ 4 ?_;refine eF H fun x29 x30 z28 H=>(q1 (bD.callOwn (pre:=⟨[some ⟨133,dC x27⟩],[]⟩) (B:= [some ⟨133,dC x30⟩]) (R:=fun k=> .agg [pI x29.aBw,pS x29.aBs,iE x29.aBt k]) (ps:= [_,_,_]) (qs:= [.ptr 0 0,rS p4,pI (aZ (p3-1))]) [0] rfl rfl func131 (by kernel_rfl) rfl rfl rfl (eH.of ⟨⟨_,rfl,rfl,iX,rfl⟩,trivial⟩ trivial (by decide) (by decide)) rfl iX rfl rfl rfl (fun k k'=>(.agg (.cons (.free _ rfl) (.cons (.free _ rfl) (.cons Mv.acc GB.nil))))) (pA x27 p4 (aZ (p3-1)) _ z28)) (q1 (nU ([(aA.mk x26.aBw x26.aBs x26.aBt),(aA.mk x29.aBw x29.aBs x29.aBt)]:List aA)) (bM H fun x32 z31 H=>(q1 (bD.callOwn (pre:=⟨[],[]⟩) (B:= []) (R:=fun k=> .agg [pI x32.aBw,pS x32.aBs,iE x32.aBt k]) (ps:= [_,_]) (qs:= [pS u9,aU ([(aA.mk x26.aBw x26.aBs x26.aBt),(aA.mk x29.aBw x29.aBs x29.aBt)]:List aA)]) [] rfl rfl func47 (by kernel_rfl) rfl rfl rfl (eH.of trivial trivial (by decide) (by decide)) rfl iX rfl rfl rfl (fun k k'=>(.agg (.cons (.free _ rfl) (.cons (.free _ rfl) (.cons Mv.acc GB.nil))))) (iM fu u9 ([(aA.mk x26.aBw x26.aBs x26.aBt),(aA.mk x29.aBw x29.aBs x29.aBt)]:List aA) _ z31)) ?_))))
   refine gQ 2 ?_;refine cO.ret ?_
   obtain rfl:_=r:=(s3 H:)
   exact PG (st':=⟨[some ⟨133,dC x30⟩],[⟨30,3,aA.trs (x26.aBt),false⟩,⟨30,3,aA.trs (x29.aBt),false⟩,⟨30,3,aA.trs (([(aA.mk x26.aBw x26.aBs x26.aBt),(aA.mk x29.aBw x29.aBs x29.aBt)]:List aA)),false⟩,⟨30,3,aA.trs (x32.aBt),false⟩]⟩) ⟨3,rfl,rfl,rfl⟩ (hr:=⟨⟨_,_,_,rfl,rfl,KT.h,rfl,rfl⟩,trivial⟩)
  refine gQ 4 ?_;refine q1 (fY ([cV,cV,B6]:LB)) (fZ H fun d33 h34 H=>(fZ H fun y35 h36 H=>(q1 (fD [0] [] func48 (ND h34 h36 (fL d1 ([cV,cV,B6]:LB) (by decide)))) ?_)))
  refine gQ 4 ?_;refine eF H fun x38 x39 z37 H=>(q1 (bD.callOwn (pre:=⟨[some ⟨133,dC d33⟩],[]⟩) (B:= [some ⟨133,dC x39⟩]) (R:=fun k=> .agg [pI x38.aBw,pS x38.aBs,iE x38.aBt k]) (ps:= [_,_,_]) (qs:= [.ptr 0 0,rS p4,pI (aZ (p3-1))]) [0] rfl rfl func131 (by kernel_rfl) rfl rfl rfl (eH.of ⟨⟨_,rfl,rfl,iX,rfl⟩,trivial⟩ trivial (by decide) (by decide)) rfl iX rfl rfl rfl (fun k k'=>(.agg (.cons (.free _ rfl) (.cons (.free _ rfl) (.cons Mv.acc GB.nil))))) (pA d33 p4 (aZ (p3-1)) _ z37)) (q1 (nU ([(aA.mk x38.aBw x38.aBs x38.aBt)]:List aA)) (bM H fun x41 z40 H=>(q1 (bD.callOwn (pre:=⟨[],[]⟩) (B:= []) (R:=fun k=> .agg [pI x41.aBw,pS x41.aBs,iE x41.aBt k]) (ps:= [_,_]) (qs:= [pS y35,aU ([(aA.mk x38.aBw x38.aBs x38.aBt)]:List aA)]) [] rfl rfl func47 (by kernel_rfl) rfl rfl rfl (eH.of trivial trivial (by decide) (by decide)) rfl iX rfl rfl rfl (fun k k'=>(.agg (.cons (.free _ rfl) (.cons (.free _ rfl) (.cons Mv.acc GB.nil))))) (iM fu y35 ([(aA.mk x38.aBw x38.aBs x38.aBt)]:List aA) _ z40)) ?_))))
  refine gQ 2 ?_;refine cO.ret ?_
  obtain rfl:_=r:=(s3 H:)
  exact PG (st':=⟨[some ⟨133,dC x39⟩],[⟨30,3,aA.trs (x38.aBt),false⟩,⟨30,3,aA.trs (([(aA.mk x38.aBw x38.aBs x38.aBt)]:List aA)),false⟩,⟨30,3,aA.trs (x41.aBt),false⟩]⟩) ⟨2,rfl,rfl,rfl⟩ (hr:=⟨⟨_,_,_,rfl,rfl,KT.h,rfl,rfl⟩,trivial⟩)
 refine gQ 12 ?_;refine dL 29 H (fun g42 H=>?_) fun g42 H=>?_
 ·have g42n:pc.below 8<5:=by have:=of_decide_eq_true g42;omega
  refine gQ 9 ?_;refine q1 (fY ([eU,eE,jN]:LB)) (fZ H fun d43 h44 H=>(fZ H fun y45 h46 H=>(q1 (fD [0] [] func48 (ND h44 h46 (fL d1 ([eU,eE,jN]:LB) (by decide)))) (bM H fun x48 z47 H=>(q1 (bD.callOwn (pre:=⟨[],[]⟩) (B:= []) (R:=fun k=> .agg [pI x48.aBw,pS x48.aBs,iE x48.aBt k]) (ps:= [_,_]) (qs:= [pS y45,_]) [] rfl rfl func47 (by kernel_rfl) rfl rfl rfl (eH.of trivial trivial (by decide) (by decide)) rfl iX rfl rfl rfl (fun k k'=>(.agg (.cons (.free _ rfl) (.cons (.free _ rfl) (.cons Mv.acc GB.nil))))) (iM fu y45 ([]) _ z47)) ?_)))))
  refine gQ 2 ?_;refine cO.ret ?_
  obtain rfl:_=r:=(s3 H:)
  exact PG (st':=⟨[some ⟨133,dC d43⟩],[⟨30,3,aA.trs (x48.aBt),false⟩]⟩) ⟨0,rfl,rfl,rfl⟩ (hr:=⟨⟨_,_,_,rfl,rfl,KT.h,rfl,rfl⟩,trivial⟩)
 refine gQ 5 ?_;refine bF H (fun h49 H=>?_) (fun h49 H=>?_)
 ·refine gQ 3 ?_;refine q1 (fY ([eU,eE,jN]:LB)) (fZ H fun d50 h51 H=>(fZ H fun y52 h53 H=>(q1 (fD [0] [] func48 (ND h51 h53 (fL d1 ([eU,eE,jN]:LB) (by decide)))) (bM H fun x55 z54 H=>(q1 (bD.callOwn (pre:=⟨[],[]⟩) (B:= []) (R:=fun k=> .agg [pI x55.aBw,pS x55.aBs,iE x55.aBt k]) (ps:= [_,_]) (qs:= [pS y52,_]) [] rfl rfl func47 (by kernel_rfl) rfl rfl rfl (eH.of trivial trivial (by decide) (by decide)) rfl iX rfl rfl rfl (fun k k'=>(.agg (.cons (.free _ rfl) (.cons (.free _ rfl) (.cons Mv.acc GB.nil))))) (iM fu y52 ([]) _ z54)) ?_)))))
  refine gQ 2 ?_;refine cO.ret ?_
  obtain rfl:_=r:=(s3 H:)
  exact PG (st':=⟨[some ⟨133,dC d50⟩],[⟨30,3,aA.trs (x55.aBt),false⟩]⟩) ⟨0,rfl,rfl,rfl⟩ (hr:=⟨⟨_,_,_,rfl,rfl,KT.h,rfl,rfl⟩,trivial⟩)
 refine gQ 6 ?_;refine bF H (fun h56 H=>?_) (fun h56 H=>?_)
 ·refine gQ 6 ?_;refine eF H fun x58 x59 z57 H=>(q1 (bD.callOwn (pre:=⟨[some ⟨133,dC d1⟩],[]⟩) (B:= [some ⟨133,dC x59⟩]) (R:=fun k=> .agg [pI x58.aBw,pS x58.aBs,iE x58.aBt k]) (ps:= [_,_,_]) (qs:= [.ptr 0 0,rS p4,pI (aZ (p3-1))]) [0] rfl rfl func131 (by kernel_rfl) rfl rfl rfl (eH.of ⟨⟨_,rfl,rfl,iX,rfl⟩,trivial⟩ trivial (by decide) (by decide)) rfl iX rfl rfl rfl (fun k k'=>(.agg (.cons (.free _ rfl) (.cons (.free _ rfl) (.cons Mv.acc GB.nil))))) (pA d1 p4 (aZ (p3-1)) _ z57)) ?_)
  refine gQ 4 ?_;refine eF H fun x61 x62 z60 H=>(q1 (bD.callOwn (pre:=⟨[some ⟨133,dC x59⟩],[]⟩) (B:= [some ⟨133,dC x62⟩]) (R:=fun k=> .agg [pI x61.aBw,pS x61.aBs,iE x61.aBt k]) (ps:= [_,_,_]) (qs:= [.ptr 0 0,rS p4,pI (aZ (p3-1))]) [0] rfl rfl func131 (by kernel_rfl) rfl rfl rfl (eH.of ⟨⟨_,rfl,rfl,iX,rfl⟩,trivial⟩ trivial (by decide) (by decide)) rfl iX rfl rfl rfl (fun k k'=>(.agg (.cons (.free _ rfl) (.cons (.free _ rfl) (.cons Mv.acc GB.nil))))) (pA x59 p4 (aZ (p3-1)) _ z60)) (q1 (nU ([(aA.mk x58.aBw x58.aBs x58.aBt),(aA.mk x61.aBw x61.aBs x61.aBt)]:List aA)) (bM H fun x64 z63 H=>(q1 (bD.callOwn (pre:=⟨[],[]⟩) (B:= []) (R:=fun k=> .agg [pI x64.aBw,pS x64.aBs,iE x64.aBt k]) (ps:= [_,_]) (qs:= [pS u9,aU ([(aA.mk x58.aBw x58.aBs x58.aBt),(aA.mk x61.aBw x61.aBs x61.aBt)]:List aA)]) [] rfl rfl func47 (by kernel_rfl) rfl rfl rfl (eH.of trivial trivial (by decide) (by decide)) rfl iX rfl rfl rfl (fun k k'=>(.agg (.cons (.free _ rfl) (.cons (.free _ rfl) (.cons Mv.acc GB.nil))))) (iM fu u9 ([(aA.mk x58.aBw x58.aBs x58.aBt),(aA.mk x61.aBw x61.aBs x61.aBt)]:List aA) _ z63)) ?_))))
  refine gQ 2 ?_;refine cO.ret ?_
  obtain rfl:_=r:=(s3 H:)
  exact PG (st':=⟨[some ⟨133,dC x62⟩],[⟨30,3,aA.trs (x58.aBt),false⟩,⟨30,3,aA.trs (x61.aBt),false⟩,⟨30,3,aA.trs (([(aA.mk x58.aBw x58.aBs x58.aBt),(aA.mk x61.aBw x61.aBs x61.aBt)]:List aA)),false⟩,⟨30,3,aA.trs (x64.aBt),false⟩]⟩) ⟨3,rfl,rfl,rfl⟩ (hr:=⟨⟨_,_,_,rfl,rfl,KT.h,rfl,rfl⟩,trivial⟩)
 refine gQ 4 ?_;refine q1 (fY ([cV,cV,B6]:LB)) (fZ H fun d65 h66 H=>(fZ H fun y67 h68 H=>(q1 (fD [0] [] func48 (ND h66 h68 (fL d1 ([cV,cV,B6]:LB) (by decide)))) ?_)))
 refine gQ 4 ?_;refine eF H fun x70 x71 z69 H=>(q1 (bD.callOwn (pre:=⟨[some ⟨133,dC d65⟩],[]⟩) (B:= [some ⟨133,dC x71⟩]) (R:=fun k=> .agg [pI x70.aBw,pS x70.aBs,iE x70.aBt k]) (ps:= [_,_,_]) (qs:= [.ptr 0 0,rS p4,pI (aZ (p3-1))]) [0] rfl rfl func131 (by kernel_rfl) rfl rfl rfl (eH.of ⟨⟨_,rfl,rfl,iX,rfl⟩,trivial⟩ trivial (by decide) (by decide)) rfl iX rfl rfl rfl (fun k k'=>(.agg (.cons (.free _ rfl) (.cons (.free _ rfl) (.cons Mv.acc GB.nil))))) (pA d65 p4 (aZ (p3-1)) _ z69)) (q1 (nU ([(aA.mk x70.aBw x70.aBs x70.aBt)]:List aA)) (bM H fun x73 z72 H=>(q1 (bD.callOwn (pre:=⟨[],[]⟩) (B:= []) (R:=fun k=> .agg [pI x73.aBw,pS x73.aBs,iE x73.aBt k]) (ps:= [_,_]) (qs:= [pS y67,aU ([(aA.mk x70.aBw x70.aBs x70.aBt)]:List aA)]) [] rfl rfl func47 (by kernel_rfl) rfl rfl rfl (eH.of trivial trivial (by decide) (by decide)) rfl iX rfl rfl rfl (fun k k'=>(.agg (.cons (.free _ rfl) (.cons (.free _ rfl) (.cons Mv.acc GB.nil))))) (iM fu y67 ([(aA.mk x70.aBw x70.aBs x70.aBt)]:List aA) _ z72)) ?_))))
 refine gQ 2 ?_;refine cO.ret ?_
 obtain rfl:_=r:=(s3 H:)
 exact PG (st':=⟨[some ⟨133,dC x71⟩],[⟨30,3,aA.trs (x70.aBt),false⟩,⟨30,3,aA.trs (([(aA.mk x70.aBw x70.aBs x70.aBt)]:List aA)),false⟩,⟨30,3,aA.trs (x73.aBt),false⟩]⟩) ⟨2,rfl,rfl,rfl⟩ (hr:=⟨⟨_,_,_,rfl,rfl,KT.h,rfl,rfl⟩,trivial⟩)
def sC:Nat→DS→(LB)→Int→Option (aA×DS)
 |0,_,_,_=>none
 |fu+1,pc,p4,p3=>ac8 fu (sC fu) pc p4 p3
theorem amT(fu:Nat):O6 (sC fu):=by
 induction fu with
 |zero=>exact(fun pc p4 p3 r H=>by simp only [sC] at H;cases H)
 |succ fu ih=>exact(fun pc p4 p3 r H=>by simp only [sC] at H;exact ajV fu (sC fu) ih pc p4 p3 r H)
theorem O7(fu:Nat):O6 (sC fu):=(amT fu)
abbrev sB:=aA→Option aA
abbrev mT:=(List aA)→Option ((List aA))
def EI(m:sB):Prop:= ∀(pt:aA) (r:aA),m pt=some r→bQ Tryz.prog 56 [(aA.pv pt)] ((aA.pv r):PV)
def CH(m:mT):Prop:= ∀(p8:List aA) (r:(List aA)),m p8=some r→bQ Tryz.prog 111 [aU p8] (aU r:PV)
def JO(fu:Nat)(p6:sB)(p5:mT)(pt:aA):Option aA:=bd (p5 pt.aBt) fun x2=>some (aA.mk pt.aBw pt.aBs x2)
theorem ac4(fu:Nat)(p6:sB)(p5:mT)(pF:EI p6)(pD:CH p5):EI (JO fu p6 p5):=by
 intro pt r H
 refine qJ func56 H (fun C hC H=>?_)
 refine gQ 2 ?_;refine q1 (fE (b9 pt)) ?_;refine gQ 3 ?_;refine bM H fun x2 z1 H=>(dW (dI [1] bZ (dD [3] eB (dI [1] bZ (dD [5] eB (dI [1] bZ (dD [7] eB (dI [8] (bI func111 (pD pt.aBt _ z1)) (dI [4,6,9] oP (iY [2,10] hM (dN ?_)))))))))))
 exact gE 0
def O5(fu:Nat)(p6:sB)(p5:mT)(p8:List aA):Nat→((List aA))→Option (LR ((List aA)) ((List aA))):=fun i1 v3=>bd (p6 (aT p8 i1)) fun x7=>gd ((v3).length+(([x7]:List aA)).length≤68719476736) (some (.next (v3++([x7]:List aA))))
def CG(fu:Nat)(p6:sB)(p5:mT)(p8:List aA):Option ((List aA)):=so (loopN (O5 fu p6 p5 p8) (p8.length-0) 0 ([])) fun v3=>some v3
theorem W5(fu:Nat)(p6:sB)(p5:mT)(pF:EI p6)(pD:CH p5):CH (CG fu p6 p5):=by
 intro p8 r H
 refine qJ func111 H (fun C hC H=>?_)
 refine gQ 6 ?_;refine q1 (nU ([]:List aA)) ?_;refine gQ 7 ?_;refine fS 0 (aA.trs_len _) (fun hl4=>?_)
 refine bU (σ:=(List aA)) (fun i1 v3=>⟨[(0,aU p8),(2,.nil),(3,iE v3 0),(4,pN i1)],⟨[],[⟨30,3,aA.trs (v3),false⟩]⟩⟩) (fun v3=>⟨[(2,.nil),(3,iE v3 0)],⟨[],[⟨30,3,aA.trs (v3),false⟩]⟩⟩) (eJ H) ?_ ?_
 ·rintro i1 v3 H
  refine gQ 8 ?_;refine cT H (fun h5 h5l H=>?_) (fun h5 H=>?_)
  ·refine gQ 8 ?_;refine q1 (gS (aA.cs (aT p8 i1))) (bM H fun x7 z6 H=>(q1 (bI func56 (pF (aT p8 i1) _ z6)) (q1 (fY ([x7]:List aA)) (cA H fun z8 H=>(q1 (jO z8) ?_)))))
   exact gE 7
  exact gE 0
 rintro v3 H
 exact gE 5
mutual
def j9:Nat→aA→Option aA
 |0,_=>none
 |fu+1,pt=>JO fu (j9 fu) (kR fu) pt
def kR:Nat→(List aA)→Option ((List aA))
 |0,_=>none
 |fu+1,p8=>CG fu (j9 fu) (kR fu) p8
end
theorem agR(fu:Nat):EI (j9 fu)∧CH (kR fu):=by
 induction fu with
 |zero=>exact⟨(fun pt r H=>by simp only [j9] at H;cases H),(fun p8 r H=>by simp only [kR] at H;cases H)⟩
 |succ fu ih=>exact⟨(fun pt r H=>by simp only [j9] at H;exact ac4 fu (j9 fu) (kR fu) ih.1 ih.2 pt r H),(fun p8 r H=>by simp only [kR] at H;exact W5 fu (j9 fu) (kR fu) ih.1 ih.2 p8 r H)⟩
theorem W6(fu:Nat):EI (j9 fu):=(agR fu).1
def amS(m:ByteArray→aA→Option aA):Prop:= ∀(pE:ByteArray) (pt:aA) (r:aA),m pE pt=some r→vL Tryz.prog 139 [pS pE,(aA.pv pt)] ⟨[],[]⟩ [] 30 3 (aA.trs (r.aBt)) (fun k=> .agg [pI r.aBw,pS r.aBs,iE r.aBt k])
def JR(fu:Nat)(pE:ByteArray)(pt:aA):Option aA:=bd (j9 fu pt) fun x2=>some (aA.mk 3 pE ([x2]:List aA))
theorem W7(fu:Nat):amS (JR fu):=by
 intro pE pt r H
 unfold vL
 refine qJ func139 H (fun C hC H=>?_)
 refine gQ 2 ?_;refine q1 (fE (b9 pt)) ?_;refine gQ 5 ?_;refine q1 (b6 [pI pt.aBw,pS pt.aBs,aU pt.aBt]) (bM H fun x2 z1 H=>(q1 (bI func56 (W6 fu pt _ z1)) (q1 (nU ([x2]:List aA)) ?_)))
 refine gQ 3 ?_;refine cO.ret ?_
 obtain rfl:_=r:=(s3 H:)
 exact PG (st':=⟨[],[⟨30,3,aA.trs (([x2]:List aA)),false⟩]⟩) ⟨0,rfl,rfl,rfl⟩ (hr:=⟨⟨_,_,_,rfl,rfl,KT.h,rfl,rfl⟩,trivial⟩)
def aaB(m:DS→Int→Option (aA×DS)):Prop:= ∀(pc:DS) (p3:Int) (r:aA×DS),m pc p3=some r→vL Tryz.prog 132 [.ptr 0 0,pI p3] ⟨[some ⟨133,dC pc⟩],[]⟩ [some ⟨133,dC r.2⟩] 30 3 (aA.trs (r.1.aBt)) (fun k=> .agg [pI r.1.aBw,pS r.1.aBs,iE r.1.aBt k])
theorem wS{m:DS→Int→Option (aA×DS)}(h:aaB m)(pc:DS)(p3:Int)(r:aA×DS)(H:m pc p3=some r):cB Tryz.prog 132 [.ptr 0 0,pI p3] ⟨[some ⟨133,dC pc⟩],[]⟩ (fun q t=>q=((aA.pv r.1):PV)∧t=⟨[some ⟨133,dC r.2⟩],[]⟩):=(h pc p3 r H).plain (fun _=>iX) (hp:=anT)
def uA(fu:Nat)(pc:DS)(p3:Int):Option (aA×DS):=bd (sC fu pc ([gF,B5]:LB) p3) fun(x2,x3)=>lt (x3.after 8) fun d4=>sw (decide ((x3.below 8:Int)=0)) (lt (d4.after ([eC,bE]:LB).length) fun d7=>lt (d4.pick ([eC,bE]:LB)) fun y9=>bd (JR fu y9 (aA.mk x2.aBw x2.aBs x2.aBt)) fun x12=>some ((aA.mk x12.aBw x12.aBs x12.aBt),d7)) (sw (decide ((x3.below 8:Int)=1)) (bd (JR fu eC (aA.mk x2.aBw x2.aBs x2.aBt)) fun x15=>bd (jH fu cV ([(aA.mk x15.aBw x15.aBs x15.aBt)]:List aA)) fun x17=>some ((aA.mk x17.aBw x17.aBs x17.aBt),d4)) (sw (decide ((x3.below 8:Int)=2)) (some ((aA.mk 4 bE []),d4)) (some ((aA.mk x2.aBw x2.aBs x2.aBt),d4))))
theorem wR(fu:Nat):aaB (uA fu):=by
 intro pc p3 r H
 unfold vL
 refine qJ func132 H (fun C hC H=>?_)
 refine gQ 7 ?_;refine q1 (fY ([gF,B5]:LB)) (q1 bH (eF H fun x2 x3 z1 H=>(q1 (bD.callOwn (pre:=⟨[some ⟨133,dC pc⟩],[]⟩) (B:= [some ⟨133,dC x3⟩]) (R:=fun k=> .agg [pI x2.aBw,pS x2.aBs,iE x2.aBt k]) (ps:= [_,_,_]) (qs:= [.ptr 0 0,rS ([gF,B5]:LB),pI p3]) [0] rfl rfl func131 (by kernel_rfl) rfl rfl rfl (eH.of ⟨⟨_,rfl,rfl,iX,rfl⟩,trivial⟩ trivial (by decide) (by decide)) rfl iX rfl rfl rfl (fun k k'=>(.agg (.cons (.free _ rfl) (.cons (.free _ rfl) (.cons Mv.acc GB.nil))))) (O7 fu pc ([gF,B5]:LB) p3 _ z1)) ?_)))
 refine gQ 7 ?_;refine fZ H fun d4 h5 H=>(q1 (fD [0] [] func73 (FF h5 (fK x3 8))) ?_)
 refine gQ 7 ?_;refine bF H (fun h6 H=>?_) (fun h6 H=>?_)
 ·refine qS (fZ H fun d7 h8 H=>(fZ H fun y9 h10 H=>(bM H fun x12 z11 H=>(dW (dI [0] bH (dI [] (fY ([eC,bE]:LB)) (dE [14,15] (fD [0] [] func48 (ND h8 h10 (fL d4 ([eC,bE]:LB) (by decide)))) (dB [5] 0 1 (zN [pI x2.aBw,pS x2.aBs,iE x2.aBt 0]) (dE [16,17] (bD.callOwn (pre:=⟨[],[]⟩) (B:= []) (R:=fun k=> .agg [pI x12.aBw,pS x12.aBs,iE x12.aBt k]) (ps:= [_,_]) (qs:= [pS y9,.agg [pI x2.aBw,pS x2.aBs,aU x2.aBt]]) [] rfl rfl func139 (by kernel_rfl) rfl rfl rfl (eH.of trivial trivial (by decide) (by decide)) rfl iX rfl rfl rfl (fun k k'=>(.agg (.cons (.free _ rfl) (.cons (.free _ rfl) (.cons Mv.acc GB.nil))))) (W7 fu y9 (aA.mk x2.aBw x2.aBs x2.aBt) _ z11)) (iY [4,18] hM (dN (cO.ret ?_))))))))))))
  obtain rfl:_=r:=(s3 H:)
  exact PG (st':=⟨[some ⟨133,dC d7⟩],[⟨30,3,aA.trs (x2.aBt),false⟩,⟨30,3,aA.trs (x12.aBt),false⟩]⟩) ⟨1,rfl,rfl,rfl⟩ (hr:=⟨⟨_,_,_,rfl,rfl,KT.h,rfl,rfl⟩,trivial⟩)
 refine gQ 5 ?_;refine bF H (fun h13 H=>?_) (fun h13 H=>?_)
 ·refine gQ 2 ?_;refine q1 (b6 [pI x2.aBw,pS x2.aBs,iE x2.aBt 0]) (bM H fun x15 z14 H=>(q1 (bD.callOwn (pre:=⟨[],[]⟩) (B:= []) (R:=fun k=> .agg [pI x15.aBw,pS x15.aBs,iE x15.aBt k]) (ps:= [_,_]) (qs:= [pS eC,.agg [pI x2.aBw,pS x2.aBs,aU x2.aBt]]) [] rfl rfl func139 (by kernel_rfl) rfl rfl rfl (eH.of trivial trivial (by decide) (by decide)) rfl iX rfl rfl rfl (fun k k'=>(.agg (.cons (.free _ rfl) (.cons (.free _ rfl) (.cons Mv.acc GB.nil))))) (W7 fu eC (aA.mk x2.aBw x2.aBs x2.aBt) _ z14)) (q1 (nU ([(aA.mk x15.aBw x15.aBs x15.aBt)]:List aA)) (bM H fun x17 z16 H=>(q1 (bD.callOwn (pre:=⟨[],[]⟩) (B:= []) (R:=fun k=> .agg [pI x17.aBw,pS x17.aBs,iE x17.aBt k]) (ps:= [_,_]) (qs:= [pS cV,aU ([(aA.mk x15.aBw x15.aBs x15.aBt)]:List aA)]) [] rfl rfl func47 (by kernel_rfl) rfl rfl rfl (eH.of trivial trivial (by decide) (by decide)) rfl iX rfl rfl rfl (fun k k'=>(.agg (.cons (.free _ rfl) (.cons (.free _ rfl) (.cons Mv.acc GB.nil))))) (iM fu cV ([(aA.mk x15.aBw x15.aBs x15.aBt)]:List aA) _ z16)) ?_)))))
  refine gQ 2 ?_;refine cO.ret ?_
  obtain rfl:_=r:=(s3 H:)
  exact PG (st':=⟨[some ⟨133,dC d4⟩],[⟨30,3,aA.trs (x2.aBt),false⟩,⟨30,3,aA.trs (x15.aBt),false⟩,⟨30,3,aA.trs (([(aA.mk x15.aBw x15.aBs x15.aBt)]:List aA)),false⟩,⟨30,3,aA.trs (x17.aBt),false⟩]⟩) ⟨3,rfl,rfl,rfl⟩ (hr:=⟨⟨_,_,_,rfl,rfl,KT.h,rfl,rfl⟩,trivial⟩)
 refine gQ 5 ?_;refine bF H (fun h18 H=>?_) (fun h18 H=>?_)
 ·refine gQ 5 ?_;refine cO.wk (Wk.regBox (k:=1) (j:=2) 30 3 (by decide) rfl rfl) (cO.ret ?_)
  obtain rfl:_=r:=(s3 H:)
  exact PG (st':=⟨[some ⟨133,dC d4⟩],[⟨30,3,aA.trs (x2.aBt),false⟩,⟨30,3,aA.trs ([]),false⟩]⟩) ⟨1,rfl,rfl,rfl⟩ (hr:=⟨⟨_,_,_,rfl,rfl,KT.h,rfl,rfl⟩,trivial⟩)
 refine gQ 3 ?_;refine q1 (b6 [pI x2.aBw,pS x2.aBs,iE x2.aBt 0]) ?_;refine gQ 2 ?_;refine cO.ret ?_
 obtain rfl:_=r:=(s3 H:)
 exact PG (st':=⟨[some ⟨133,dC d4⟩],[⟨30,3,aA.trs (x2.aBt),false⟩]⟩) ⟨0,rfl,rfl,rfl⟩ (hr:=⟨⟨_,_,_,rfl,rfl,KT.h,rfl,rfl⟩,trivial⟩)
def vA(fu:Nat)(pk:Int)(pH:ByteArray)(pG:List aM):Option aM:=gd (([]:List aM).length+(pG).length≤68719476736) (some (aM.mk pk s_ pH 0 (aA.mk 0 s_ []) (([])++pG) []))
theorem wK(fu:Nat)(pk:Int)(pH:ByteArray)(pG:List aM)(r:aM)(H:vA fu pk pH pG=some r):bQ Tryz.prog 190 [pI pk,pS pH,iI pG] ((aM.pv r)):=by
 refine qJ func190 H (fun C hC H=>?_)
 refine gQ 8 ?_;refine q1 (nU ([]:List aM)) (q1 bH (cA H fun z1 H=>(q1 (jO z1) ?_)))
 exact gE 3
abbrev tT:=DS→(LB)→Int→Option (aM×DS)
def FR(m:tT):Prop:= ∀(pC:DS) (p7:LB) (p0:Int) (r:aM×DS),m pC p7 p0=some r→cB Tryz.prog 193 [.ptr 0 0,rS p7,pI p0] ⟨[some ⟨133,dC pC⟩],[]⟩ (fun q t=>q=((aM.pv r.1):PV)∧t=⟨[some ⟨133,dC r.2⟩],[]⟩)
def afJ(fu:Nat)(p1:tT)(pC:DS)(p7:LB)(p0:Int)(d1:DS):Option ((aM×DS)⊕Int):=sw (decide (p0≤0)) (some (.inr (((pC.below 13)%3:Nat):Int))) (some (.inr (pC.below 13:Int)))
def afK(fu:Nat)(p1:tT)(pC:DS)(p7:LB)(p0:Int)(d1:DS)(v3:Int):Option ((aM×DS)⊕Bool):=sw (decide (v3=2)) (some (.inr (decide (v3=2)))) (some (.inr (decide (v3=3))))
def MN(fu:Nat)(p1:tT)(pC:DS)(p7:LB)(p0:Int):Option (aM×DS):=lt (pC.after 13) fun d1=>so (afJ fu p1 pC p7 p0 d1) fun v3=>sw (decide (v3=1)) (lt (d1.after 2) fun d6=>some ((aM.mk 2 s_ s_ (d1.below 2:Int) (aA.mk 0 s_ []) [] []),d6)) (so (afK fu p1 pC p7 p0 d1 v3) fun v8=>sw (v8) (sw (decide ((p7.length:Int)>0)) (gd (0<(p7).length) (lt (d1.after p7.length) fun d13=>lt (d1.pick p7) fun y15=>bd (wL fu y15) fun x18=>some (x18,d13))) (lt (d1.after 20) fun d19=>bd (t6 fu (aZ ((d1.below 20:Int)-5))) fun x22=>some (x22,d19))) (sw (decide (v3=4)) (lt (d1.after ([s_f,s_g]:LB).length) fun d24=>lt (d1.pick ([s_f,s_g]:LB)) fun y26=>bd (p1 d24 p7 (aZ (p0-1))) fun(x29,x30)=>bd (vA fu 4 y26 ([x29]:List aM)) fun x32=>some (x32,x30)) (sw (decide (v3=5)) (lt (d1.after ([bE,eC]:LB).length) fun d34=>lt (d1.pick ([bE,eC]:LB)) fun y36=>bd (p1 d34 p7 (aZ (p0-1))) fun(x39,x40)=>bd (p1 x40 p7 (aZ (p0-1))) fun(x42,x43)=>some ((aM.mk 5 y36 eV 0 (aA.mk 0 s_ []) ([x39,x42]:List aM) []),x43)) (sw (decide (v3=6)) (bd (p1 d1 p7 (aZ (p0-1))) fun(x46,x47)=>bd (p1 x47 p7 (aZ (p0-1))) fun(x49,x50)=>bd (vA fu 6 cL ([x46,x49]:List aM)) fun x52=>some (x52,x50)) (sw (decide (v3=7)) (gd (([]:LB).length+(p7).length≤68719476736) (gd ((([])++p7).length+(([s_h,s_t]:LB)).length≤68719476736) (bd (p1 d1 p7 (aZ (p0-1))) fun(x57,x58)=>bd (p1 x58 p7 (aZ (p0-1))) fun(x60,x61)=>bd (p1 x61 ((([])++p7)++([s_h,s_t]:LB)) (aZ (p0-1))) fun(x63,x64)=>some ((aM.mk 7 s_ s_ 0 (aA.mk 0 s_ []) ([x57]:List aM) ([(bV.mk fX [] x60),(bV.mk cL ([s_h,s_t]:LB) x63)]:List bV)),x64)))) (sw (decide (v3=8)) (bd (p1 d1 p7 (aZ (p0-1))) fun(x67,x68)=>gd (([]:LB).length+(p7).length≤68719476736) (gd ((([])++p7).length+(([r7]:LB)).length≤68719476736) (bd (p1 x68 ((([])++p7)++([r7]:LB)) (aZ (p0-1))) fun(x72,x73)=>bd (vA fu 8 r7 ([x67,x72]:List aM)) fun x75=>some (x75,x73)))) (sw (decide (v3=9)) (bd (p1 d1 p7 (aZ (p0-1))) fun(x78,x79)=>bd (p1 x79 p7 (aZ (p0-1))) fun(x81,x82)=>bd (p1 x82 p7 (aZ (p0-1))) fun(x84,x85)=>bd (vA fu 9 s_ ([x78,x81,x84]:List aM)) fun x87=>some (x87,x85)) (sw (decide (v3=10)) (lt (d1.after ([BF,GT,PD,PE,PF]:LB).length) fun d89=>lt (d1.pick ([BF,GT,PD,PE,PF]:LB)) fun y91=>bd (p1 d89 p7 (aZ (p0-1))) fun(x94,x95)=>bd (p1 x95 p7 (aZ (p0-1))) fun(x97,x98)=>bd (vA fu 10 y91 ([x94,x97]:List aM)) fun x100=>some (x100,x98)) (sw (decide (v3=11)) (bd (p1 d1 p7 (aZ (p0-1))) fun(x103,x104)=>some ((aM.mk 11 bE s_ 0 (aA.mk 0 s_ []) ([x103]:List aM) []),x104)) (sw (decide (v3=12)) (bd (sC fu d1 ([gF]:LB) 1) fun(x107,x108)=>bd (p1 x108 p7 (aZ (p0-1))) fun(x110,x111)=>some ((aM.mk 12 s_ s_ 0 x107 ([x110]:List aM) []),x111)) (lt (d1.after 20) fun d112=>bd (t6 fu (aZ ((d1.below 20:Int)-5))) fun x115=>some (x115,d112))))))))))))
theorem YN(fu:Nat)(p1:tT)(p2:FR p1):FR (MN fu p1):=by
 intro pC p7 p0 r H
 refine qJ func193 H (fun C hC H=>?_)
 refine gQ 7 ?_;refine fZ H fun d1 h2 H=>(q1 (fD [0] [] func73 (FF h2 (fK pC 13))) ?_)
 refine gQ 3 ?_;refine nW (σ:=Int) (fun v3=>⟨[(0,.ptr 0 0),(1,rS p7),(2,pI p0),(6,.ptr 1 0),(7,pI v3)],⟨[some ⟨133,dC d1⟩,some ⟨211,[pI 0,pS s_,pS s_,pI 0,pI 0,pS s_,.nil,.nil,.nil]⟩],[]⟩⟩) (eJ H) (fun H=>?_) ?_
 ·refine gQ 5 ?_;refine bF H (fun h4 H=>?_) (fun h4 H=>?_)
  ·refine gQ 2 ?_;refine q1 (bD.remN (a:=pC.below 13) (b:=3) rfl rfl rfl rfl (by have:=DS.below_lt (d:=pC) (n:=13) (by decide);omega) (by have:=DS.below_lt (d:=pC) (n:=13) (by decide);omega)) ?_;exact gE 2
  exact gE 1
 rintro v3 H
 refine gQ 11 ?_;refine bF H (fun h5 H=>?_) (fun h5 H=>?_)
 ·refine gQ 3 ?_;refine fZ H fun d6 h7 H=>(q1 (fD [0] [] func73 (FF h7 (fK d1 2))) ?_)
  exact gE 3
 refine qS ?_;refine nW (σ:=Bool) (fun v8=>⟨[(0,.ptr 0 0),(1,rS p7),(2,pI p0),(6,.ptr 1 0),(15,pI v3),(21,pB v8)],⟨[some ⟨133,dC d1⟩,some ⟨211,[pI 0,pS s_,pS s_,pI 0,pI 0,pS s_,.nil,.nil,.nil]⟩],[]⟩⟩) (eJ H) (fun H=>?_) ?_
 ·refine gQ 5 ?_;refine bF H (fun h9 H=>gE 1) fun h9 H=>?_;exact gE 4
 rintro v8 H
 refine bF H (fun h10 H=>?_) (fun h10 H=>?_)
 ·refine gQ 6 ?_;refine bF H (fun h11 H=>?_) (fun h11 H=>?_)
  ·refine gQ 4 ?_;refine cA H fun z12 H=>(fZ H fun d13 h14 H=>(fZ H fun y15 h16 H=>(q1 (fD [0] [] func48 (ND h14 h16 (fL d1 p7 z12))) (bM H fun x18 z17 H=>(q1 (bI func191 (A5 fu y15 _ z17)) ?_)))))
   exact gE 2
  refine gQ 4 ?_;refine fZ H fun d19 h20 H=>(q1 (fD [0] [] func73 (FF h20 (fK d1 20))) (q1 rSw (bM H fun x22 z21 H=>(q1 (bI func192 (wJ fu (aZ ((d1.below 20:Int)-5)) _ z21)) ?_))))
  exact gE 2
 refine gQ 5 ?_;refine bF H (fun h23 H=>?_) (fun h23 H=>?_)
 ·refine gQ 3 ?_;refine q1 (fY ([s_f,s_g]:LB)) (fZ H fun d24 h25 H=>(fZ H fun y26 h27 H=>(q1 (fD [0] [] func48 (ND h25 h27 (fL d1 ([s_f,s_g]:LB) (by decide)))) ?_)))
  refine gQ 4 ?_;refine eF H fun x29 x30 z28 H=>(q1 (fD [0] [] func193 (p2 d24 p7 (aZ (p0-1)) _ z28)) (q1 (fY ([x29]:List aM)) (bM H fun x32 z31 H=>(q1 (bI func190 (wK fu 4 y26 ([x29]:List aM) _ z31)) ?_))))
  exact gE 2
 refine gQ 5 ?_;refine bF H (fun h33 H=>?_) (fun h33 H=>?_)
 ·refine gQ 3 ?_;refine q1 (fY ([bE,eC]:LB)) (fZ H fun d34 h35 H=>(fZ H fun y36 h37 H=>(q1 (fD [0] [] func48 (ND h35 h37 (fL d1 ([bE,eC]:LB) (by decide)))) ?_)))
  refine gQ 4 ?_;refine eF H fun x39 x40 z38 H=>(q1 (fD [0] [] func193 (p2 d34 p7 (aZ (p0-1)) _ z38)) ?_)
  refine gQ 4 ?_;refine eF H fun x42 x43 z41 H=>(q1 (fD [0] [] func193 (p2 x40 p7 (aZ (p0-1)) _ z41)) (q1 (fY ([x39,x42]:List aM)) ?_))
  exact gE 3
 refine gQ 5 ?_;refine bF H (fun h44 H=>?_) (fun h44 H=>?_)
 ·refine gQ 6 ?_;refine eF H fun x46 x47 z45 H=>(q1 (fD [0] [] func193 (p2 d1 p7 (aZ (p0-1)) _ z45)) ?_)
  refine gQ 4 ?_;refine eF H fun x49 x50 z48 H=>(q1 (fD [0] [] func193 (p2 x47 p7 (aZ (p0-1)) _ z48)) (q1 (fY ([x46,x49]:List aM)) (bM H fun x52 z51 H=>(q1 (bI func190 (wK fu 6 cL ([x46,x49]:List aM) _ z51)) ?_))))
  exact gE 2
 refine gQ 5 ?_;refine bF H (fun h53 H=>?_) (fun h53 H=>?_)
 ·refine gQ 2 ?_;refine q1 (nU ([]:LB)) (q1 bH (cA H fun z54 H=>(q1 (jO z54) (q1 (fY ([s_h,s_t]:LB)) (cA H fun z55 H=>(q1 (jO z55) ?_))))))
  refine gQ 8 ?_;refine eF H fun x57 x58 z56 H=>(q1 (fD [0] [] func193 (p2 d1 p7 (aZ (p0-1)) _ z56)) (q1 (fY ([x57]:List aM)) ?_))
  refine gQ 4 ?_;refine eF H fun x60 x61 z59 H=>(q1 (fD [0] [] func193 (p2 x58 p7 (aZ (p0-1)) _ z59)) (q1 oP (q1 (fY ([s_h,s_t]:LB)) ?_)))
  refine gQ 4 ?_;refine eF H fun x63 x64 z62 H=>(q1 (fD [0] [] func193 (p2 x61 ((([])++p7)++([s_h,s_t]:LB)) (aZ (p0-1)) _ z62)) (q1 oP (q1 (fY ([(bV.mk fX [] x60),(bV.mk cL ([s_h,s_t]:LB) x63)]:List bV)) ?_)))
  exact gE 3
 refine gQ 5 ?_;refine bF H (fun h65 H=>?_) (fun h65 H=>?_)
 ·refine gQ 6 ?_;refine eF H fun x67 x68 z66 H=>(q1 (fD [0] [] func193 (p2 d1 p7 (aZ (p0-1)) _ z66)) (q1 bH (q1 (nU ([]:LB)) (q1 bH (cA H fun z69 H=>(q1 (jO z69) (q1 (fY ([r7]:LB)) (cA H fun z70 H=>(q1 (jO z70) ?_)))))))))
  refine gQ 2 ?_;refine eF H fun x72 x73 z71 H=>(q1 (fD [0] [] func193 (p2 x68 ((([])++p7)++([r7]:LB)) (aZ (p0-1)) _ z71)) (q1 (fY ([x67,x72]:List aM)) (bM H fun x75 z74 H=>(q1 (bI func190 (wK fu 8 r7 ([x67,x72]:List aM) _ z74)) ?_))))
  exact gE 2
 refine gQ 5 ?_;refine bF H (fun h76 H=>?_) (fun h76 H=>?_)
 ·refine gQ 6 ?_;refine eF H fun x78 x79 z77 H=>(q1 (fD [0] [] func193 (p2 d1 p7 (aZ (p0-1)) _ z77)) ?_)
  refine gQ 4 ?_;refine eF H fun x81 x82 z80 H=>(q1 (fD [0] [] func193 (p2 x79 p7 (aZ (p0-1)) _ z80)) ?_)
  refine gQ 4 ?_;refine eF H fun x84 x85 z83 H=>(q1 (fD [0] [] func193 (p2 x82 p7 (aZ (p0-1)) _ z83)) (q1 (fY ([x78,x81,x84]:List aM)) (bM H fun x87 z86 H=>(q1 (bI func190 (wK fu 9 s_ ([x78,x81,x84]:List aM) _ z86)) ?_))))
  exact gE 2
 refine gQ 5 ?_;refine bF H (fun h88 H=>?_) (fun h88 H=>?_)
 ·refine gQ 3 ?_;refine q1 (fY ([BF,GT,PD,PE,PF]:LB)) (fZ H fun d89 h90 H=>(fZ H fun y91 h92 H=>(q1 (fD [0] [] func48 (ND h90 h92 (fL d1 ([BF,GT,PD,PE,PF]:LB) (by decide)))) ?_)))
  refine gQ 4 ?_;refine eF H fun x94 x95 z93 H=>(q1 (fD [0] [] func193 (p2 d89 p7 (aZ (p0-1)) _ z93)) ?_)
  refine gQ 4 ?_;refine eF H fun x97 x98 z96 H=>(q1 (fD [0] [] func193 (p2 x95 p7 (aZ (p0-1)) _ z96)) (q1 (fY ([x94,x97]:List aM)) (bM H fun x100 z99 H=>(q1 (bI func190 (wK fu 10 y91 ([x94,x97]:List aM) _ z99)) ?_))))
  exact gE 2
 refine gQ 5 ?_;refine bF H (fun h101 H=>?_) (fun h101 H=>?_)
 ·refine gQ 6 ?_;refine eF H fun x103 x104 z102 H=>(q1 (fD [0] [] func193 (p2 d1 p7 (aZ (p0-1)) _ z102)) (q1 (fY ([x103]:List aM)) ?_))
  exact gE 3
 refine gQ 5 ?_;refine bF H (fun h105 H=>?_) (fun h105 H=>?_)
 ·refine gQ 3 ?_;refine q1 (fY ([gF]:LB)) (eF H fun x107 x108 z106 H=>(q1 (fD [0] [] func131 (W8 (O7 fu) d1 ([gF]:LB) 1 _ z106)) ?_))
  refine gQ 4 ?_;refine eF H fun x110 x111 z109 H=>(q1 (fD [0] [] func193 (p2 x108 p7 (aZ (p0-1)) _ z109)) (q1 (fY ([x110]:List aM)) ?_))
  exact gE 3
 refine gQ 4 ?_;refine fZ H fun d112 h113 H=>(q1 (fD [0] [] func73 (FF h113 (fK d1 20))) (q1 rSw (bM H fun x115 z114 H=>(q1 (bI func192 (wJ fu (aZ ((d1.below 20:Int)-5)) _ z114)) ?_))))
 exact gE 2
def lX:Nat→DS→(LB)→Int→Option (aM×DS)
 |0,_,_,_=>none
 |fu+1,pC,p7,p0=>MN fu (lX fu) pC p7 p0
theorem ab0(fu:Nat):FR (lX fu):=by
 induction fu with
 |zero=>exact(fun pC p7 p0 r H=>by simp only [lX] at H;cases H)
 |succ fu ih=>exact(fun pC p7 p0 r H=>by simp only [lX] at H;exact YN fu (lX fu) ih pC p7 p0 r H)
theorem SJ(fu:Nat):FR (lX fu):=(ab0 fu)
def EJ(fu:Nat):Option aA:=bd (jH fu eU ([])) fun x2=>some x2
theorem wT(fu:Nat)(r:aA)(H:EJ fu=some r):bQ Tryz.prog 49 [] ((aA.pv r)):=by
 refine qJ func49 H (fun C hC H=>?_)
 refine gQ 6 ?_;refine bM H fun x2 z1 H=>(q1 (bI func47 (t8 (iM fu) eU ([]) _ z1)) ?_)
 exact gE 2
def agB(fu:Nat)(pC d1:DS)(y3:ByteArray)(d5:DS)(x8:aM):Option ((aL×DS)⊕((LB)×Int×ByteArray×(List aA)×(List aD)×DS)):=lt (d5.after 4) fun d15=>sw (decide ((d5.below 4:Int)=0)) (bd (EJ fu) fun x19=>some (.inr ([],x19.aBw,x19.aBs,x19.aBt,[],d15))) (sw (decide ((d5.below 4:Int)=1)) (bd (nP fu gF) fun x22=>bd (jH fu cV ([x22]:List aA)) fun x24=>some (.inr (([gF]:LB),x24.aBw,x24.aBs,x24.aBt,([(aD.mk y3 x22)]:List aD),d15))) (sw (decide ((d5.below 4:Int)=2)) (bd (nP fu gF) fun x27=>bd (nP fu B5) fun x29=>bd (jH fu u9 ([x27,x29]:List aA)) fun x31=>some (.inr (([gF,B5]:LB),x31.aBw,x31.aBs,x31.aBt,[],d15))) (bd (nP fu gF) fun x33=>some (.inr (([gF]:LB),x33.aBw,x33.aBs,x33.aBt,([(aD.mk eM x33)]:List aD),d15)))))
def agC(fu:Nat)(pC d1:DS)(y3:ByteArray)(d5:DS)(x8:aM)(v9:LB)(v10:Int)(v11:ByteArray)(v12:List aA)(v13:List aD)(v14:DS):Option ((aL×DS)⊕((List aA)×Bool×Int×ByteArray×DS)):=lt (v14.after 3) fun d39=>sw (decide (v14.below 3=0)) (bd (sC fu d39 v9 1) fun(x43,x44)=>some (.inr (x43.aBt,true,x43.aBw,x43.aBs,x44))) (some (.inr ([],false,0,s_,d39)))
def MV(fu:Nat)(pC:DS):Option (aL×DS):=lt (pC.after ([bE,kH,eC]:LB).length) fun d1=>lt (pC.pick ([bE,kH,eC]:LB)) fun y3=>lt (d1.after 9) fun d5=>bd (t6 fu (d1.below 9:Int)) fun x8=>so (agB fu pC d1 y3 d5 x8) fun(v9,v10,v11,v12,v13,v14)=>so (agC fu pC d1 y3 d5 x8 v9 v10 v11 v12 v13 v14) fun(v38,v35,v36,v37,v34)=>lt (v34.after 4) fun d45=>lt (d45.after 12) fun d47=>sw (decide ((d45.below 12:Int)=0)) (bd (uA fu d47 2) fun(x51,x52)=>some ((aL.mk y3 v9 x51 v13 (decide (v34.below 4=0)) v35 (aA.mk v36 v37 v38) ([(aQ.mk eV ([eQ]:LB) x8)]:List aQ)),x52)) (sw (decide ((d45.below 12:Int)=1)) (lt (d47.after ([gF,s_c]:LB).length) fun d54=>lt (d47.pick ([gF,s_c]:LB)) fun y56=>gd ((v9).length+(([y56]:LB)).length≤68719476736) (some ((aL.mk y3 (v9++([y56]:LB)) (aA.mk v10 v11 v12) v13 (decide (v34.below 4=0)) v35 (aA.mk v36 v37 v38) ([(aQ.mk eV ([eQ]:LB) x8)]:List aQ)),d54))) (sw (decide ((d45.below 12:Int)=2)) (bd (uA fu d47 1) fun(x61,x62)=>gd ((v13).length+(([(aD.mk kH x61)]:List aD)).length≤68719476736) (some ((aL.mk y3 v9 (aA.mk v10 v11 v12) (v13++([(aD.mk kH x61)]:List aD)) (decide (v34.below 4=0)) v35 (aA.mk v36 v37 v38) ([(aQ.mk eV ([eQ]:LB) x8)]:List aQ)),x62))) (sw (decide ((d45.below 12:Int)=3)) (bd (lX fu d47 ([eQ,r7]:LB) 2) fun(x66,x67)=>some ((aL.mk y3 v9 (aA.mk v10 v11 v12) v13 (decide (v34.below 4=0)) v35 (aA.mk v36 v37 v38) ([(aQ.mk eV ([eQ]:LB) x66)]:List aQ)),x67)) (sw (decide ((d45.below 12:Int)=4)) (bd (EJ fu) fun x70=>some ((aL.mk y3 v9 (aA.mk v10 v11 v12) v13 (decide (v34.below 4=0)) v35 x70 ([(aQ.mk eV ([eQ]:LB) x8)]:List aQ)),d47)) (sw (decide ((d45.below 12:Int)=5)) (some ((aL.mk y3 v9 (aA.mk v10 v11 v12) v13 (decide (v34.below 4=0)) v35 (aA.mk v36 v37 v38) ([(aQ.mk eV ([]) x8)]:List aQ)),d47)) (some ((aL.mk y3 v9 (aA.mk v10 v11 v12) v13 (decide (v34.below 4=0)) v35 (aA.mk v36 v37 v38) ([(aQ.mk eV ([eQ]:LB) x8)]:List aQ)),d47)))))))
theorem agD(fu:Nat)(pC:DS)(r:aL×DS)(H:MV fu pC=some r):cB Tryz.prog 165 [.ptr 0 0] ⟨[some ⟨133,dC pC⟩],[]⟩ (fun q t=>q=((aL.pv r.1))∧t=⟨[some ⟨133,dC r.2⟩],[]⟩):=by
 refine qJ func165 H (fun C hC H=>?_)
 refine gQ 7 ?_;refine q1 (vD ([bE,kH,eC]:LB)) (fZ H fun d1 h2 H=>(fZ H fun y3 h4 H=>(q1 (fD [0] [] func48 (ND h2 h4 (fL pC ([bE,kH,eC]:LB) (by decide)))) (q1 (vD ([eQ]:LB)) (q1 bH (fZ H fun d5 h6 H=>(q1 (fD [0] [] func73 (FF h6 (fK d1 9))) (bM H fun x8 z7 H=>(q1 (bI func192 (wJ fu (d1.below 9:Int) _ z7)) (q1 oP (q1 (bD.buildSliceB (cs:= [pS eV,.lit 1 (aY (([eQ]:LB))),pI x8.aBw,pS x8.aBz,pS x8.aBs,pI x8.aCa,pI x8.aBu.aBw,pS x8.aBu.aBs,aU x8.aBu.aBt,iI x8.aBt,rV x8.aBN]) rfl rfl anL.h asN.h rfl rfl rfl (by decide) rfl (by decide)) ?_)))))))))))
 refine gQ 5 ?_;refine nW (σ:=(LB)×Int×ByteArray×(List aA)×(List aD)×DS) (fun(v9,v10,v11,v12,v13,v14)=>⟨[(0,.ptr 0 0),(2,.ptr 1 0),(3,.ptr 3 0)],⟨[some ⟨133,dC v14⟩,some ⟨163,[pS s_,.nil,pI 0,pS s_,.nil,.nil,pB false,pB false,pI 0,pS s_,.nil,.nil]⟩,some ⟨242,[pS eV,.lit 1 (aY (([eQ]:LB))),pI x8.aBw,pS x8.aBz,pS x8.aBs,pI x8.aCa,pI x8.aBu.aBw,pS x8.aBu.aBs,aU x8.aBu.aBt,iI x8.aBt,rV x8.aBN]⟩,some ⟨163,[pS y3,.lit 1 (aY (v9)),pI v10,pS v11,aU v12,.lit 4 (aD.trs (v13)),pB false,pB false,pI 0,pS s_,.nil,.bsl 2 1]⟩],[]⟩⟩) (eJ H) (fun H=>?_) ?_
 ·refine gQ 3 ?_;refine fZ H fun d15 h16 H=>(q1 (fD [0] [] func73 (FF h16 (fK d5 4))) ?_)
  refine gQ 7 ?_;refine bF H (fun h17 H=>?_) (fun h17 H=>?_)
  ·refine qR (bM H fun x19 z18 H=>(q1 (bI func49 (wT fu _ z18)) ?_))
   exact gE 3
  refine gQ 5 ?_;refine bF H (fun h20 H=>?_) (fun h20 H=>?_)
  ·refine gQ 2 ?_;refine q1 (vD ([gF]:LB)) ?_;refine gQ 5 ?_;refine bM H fun x22 z21 H=>(q1 (bI func137 (lP (kZ fu) gF _ z21)) (q1 (vD ([x22]:List aA)) (bM H fun x24 z23 H=>(q1 (bI func47 (t8 (iM fu) cV ([x22]:List aA) _ z23)) ?_))))
   refine gQ 3 ?_;refine dW (dI [3] bZ (dD [36] eB (dI [] (bI func137 (lP (kZ fu) gF _ z21)) (dI [37,38] oP (dI [39] (vD ([(aD.mk y3 x22)]:List aD)) (dI [3] bZ (iY [41,40] hM (dN ?_))))))))
   exact gE 0
  refine gQ 5 ?_;refine bF H (fun h25 H=>?_) (fun h25 H=>?_)
  ·refine gQ 2 ?_;refine q1 (vD ([gF,B5]:LB)) ?_;refine gQ 4 ?_;refine bM H fun x27 z26 H=>(q1 (bI func137 (lP (kZ fu) gF _ z26)) (bM H fun x29 z28 H=>(q1 (bI func137 (lP (kZ fu) B5 _ z28)) (q1 (vD ([x27,x29]:List aA)) (bM H fun x31 z30 H=>(q1 (bI func47 (t8 (iM fu) u9 ([x27,x29]:List aA) _ z30)) ?_))))))
   exact gE 3
  refine gQ 2 ?_;refine q1 (vD ([gF]:LB)) ?_;refine gQ 5 ?_;refine bM H fun x33 z32 H=>(q1 (bI func137 (lP (kZ fu) gF _ z32)) ?_)
  refine gQ 4 ?_;refine q1 (bI func137 (lP (kZ fu) gF _ z32)) (q1 oP (q1 (vD ([(aD.mk eM x33)]:List aD)) ?_))
  exact gE 3
 rintro⟨v9,v10,v11,v12,v13,v14⟩ H
 refine qS ?_;refine nW (σ:=(List aA)×Bool×Int×ByteArray×DS) (fun(v38,v35,v36,v37,v34)=>⟨[(0,.ptr 0 0),(2,.ptr 1 0),(3,.ptr 3 0)],⟨[some ⟨133,dC v34⟩,some ⟨163,[pS s_,.nil,pI 0,pS s_,.nil,.nil,pB false,pB false,pI 0,pS s_,.nil,.nil]⟩,some ⟨242,[pS eV,.lit 1 (aY (([eQ]:LB))),pI x8.aBw,pS x8.aBz,pS x8.aBs,pI x8.aCa,pI x8.aBu.aBw,pS x8.aBu.aBs,aU x8.aBu.aBt,iI x8.aBt,rV x8.aBN]⟩,some ⟨163,[pS y3,.lit 1 (aY (v9)),pI v10,pS v11,aU v12,.lit 4 (aD.trs (v13)),pB false,pB v35,pI v36,pS v37,aU v38,.bsl 2 1]⟩],[]⟩⟩) (eJ H) (fun H=>?_) ?_
 ·refine gQ 3 ?_;refine fZ H fun d39 h40 H=>(q1 (fD [0] [] func45 (FF h40 (m8 v14 3))) (qN ?_))
  refine bF H (fun h41 H=>?_) (fun h41 H=>?_)
  ·refine gQ 9 ?_;refine eF H fun x43 x44 z42 H=>(q1 (fD [0] [] func131 (W8 (O7 fu) d39 v9 1 _ z42)) ?_)
   exact gE 3
  exact gE 1
 rintro⟨v38,v35,v36,v37,v34⟩ H
 refine gQ 3 ?_;refine fZ H fun d45 h46 H=>(q1 (fD [0] [] func45 (FF h46 (m8 v34 4))) ?_)
 refine gQ 7 ?_;refine fZ H fun d47 h48 H=>(q1 (fD [0] [] func73 (FF h48 (fK d45 12))) ?_)
 refine gQ 7 ?_;refine bF H (fun h49 H=>?_) (fun h49 H=>?_)
 ·refine gQ 2 ?_;refine eF H fun x51 x52 z50 H=>(q1 (fD [0] [] func132 (wS (wR fu) d47 2 _ z50)) ?_)
  refine gQ 5 ?_;refine AL.weak (Wk.freezeE (k:=2) (sz:=11) (es:= [aQ.cs (aQ.mk eV ([eQ]:LB) x8)]) (es':=aQ.trs (([(aQ.mk eV ([eQ]:LB) x8)]:List aQ))) (s':=⟨[(0,.ptr 0 0),(2,.ptr 1 0),(3,.ptr 3 0),(63,pN (d45.below 12))],⟨[some ⟨133,dC x52⟩,some ⟨163,[pS s_,.nil,pI 0,pS s_,.nil,.nil,pB false,pB false,pI 0,pS s_,.nil,.nil]⟩,none,some ⟨163,[pS y3,.lit 1 (aY (v9)),pI x51.aBw,pS x51.aBs,aU x51.aBt,.lit 4 (aD.trs (v13)),pB (decide (v34.below 4=0)),pB v35,pI v36,pS v37,aU v38,mK ([(aQ.mk eV ([eQ]:LB) x8)]:List aQ)]⟩],[]⟩⟩) (by simp [aQ.trs_map,aQ.tr_cs]) rfl iX (by simp [aQ.cs]) (Nat.le_of_ble_eq_true rfl) ⟨⟨rfl,dY,rfl⟩,⟨⟨rfl,dY,rfl⟩,⟨⟨rfl,dY,rfl⟩,trivial⟩⟩⟩ rfl rfl (eP hC (lE rfl) (Nat.le_of_ble_eq_true rfl)) (by repeat' first|exact trivial|refine⟨⟨_,rfl,dY,rfl⟩,?_⟩)) ?_;refine q1 (b6 [pS y3,.lit 1 (aY (v9)),pI x51.aBw,pS x51.aBs,aU x51.aBt,.lit 4 (aD.trs (v13)),pB (decide (v34.below 4=0)),pB v35,pI v36,pS v37,aU v38,mK ([(aQ.mk eV ([eQ]:LB) x8)]:List aQ)]) ?_;exact gE 2
 refine gQ 5 ?_;refine bF H (fun h53 H=>?_) (fun h53 H=>?_)
 ·refine fZ H fun d54 h55 H=>(fZ H fun y56 h57 H=>(cA H fun z58 H=>(dW (dI [3] bZ (dB [71] 0 1 sM (dI [0] bH (dI [] (vD ([gF,s_c]:LB)) (dE [73,74] (fD [0] [] func48 (ND h55 h57 (fL d47 ([gF,s_c]:LB) (by decide)))) (dI [75] (vD ([y56]:LB)) ?_)))))))))
  refine dI [72,76] (bD.appendLit (es1:=aY (v9)) (es2:=aY (([y56]:LB))) (es3:=aY (v9++([y56]:LB))) rfl rfl rfl rfl rfl (rM _) (rM _) (by exact List.cons_ne_nil _ _) (by decide) ahX.h apX.h (by decide) (by rw [b0,b0];exact uW z58 (by decide)) (xA _ _)) ?_;refine dI [3] bZ (iY [78,77] hM (dN ?_))
  refine gQ 2 ?_;refine AL.weak (Wk.freezeE (k:=2) (sz:=11) (es:= [aQ.cs (aQ.mk eV ([eQ]:LB) x8)]) (es':=aQ.trs (([(aQ.mk eV ([eQ]:LB) x8)]:List aQ))) (s':=⟨[(0,.ptr 0 0),(2,.ptr 1 0),(3,.ptr 3 0),(63,pN (d45.below 12))],⟨[some ⟨133,dC d54⟩,some ⟨163,[pS s_,.nil,pI 0,pS s_,.nil,.nil,pB false,pB false,pI 0,pS s_,.nil,.nil]⟩,none,some ⟨163,[pS y3,rS (v9++([y56]:LB)),pI v10,pS v11,aU v12,.lit 4 (aD.trs (v13)),pB (decide (v34.below 4=0)),pB v35,pI v36,pS v37,aU v38,mK ([(aQ.mk eV ([eQ]:LB) x8)]:List aQ)]⟩],[]⟩⟩) (by simp [aQ.trs_map,aQ.tr_cs]) rfl iX (by simp [aQ.cs]) (Nat.le_of_ble_eq_true rfl) ⟨⟨rfl,dY,rfl⟩,⟨⟨rfl,dY,rfl⟩,⟨⟨rfl,dY,rfl⟩,trivial⟩⟩⟩ rfl rfl (eP hC (lE rfl) (Nat.le_of_ble_eq_true rfl)) (by repeat' first|exact trivial|refine⟨⟨_,rfl,dY,rfl⟩,?_⟩)) ?_;refine q1 (b6 [pS y3,rS (v9++([y56]:LB)),pI v10,pS v11,aU v12,.lit 4 (aD.trs (v13)),pB (decide (v34.below 4=0)),pB v35,pI v36,pS v37,aU v38,mK ([(aQ.mk eV ([eQ]:LB) x8)]:List aQ)]) ?_;exact gE 2
 refine gQ 5 ?_;refine bF H (fun h59 H=>?_) (fun h59 H=>?_)
 ·refine eF H fun x61 x62 z60 H=>(cA H fun z63 H=>(dW (dI [3] bZ (dB [81] 0 1 sM (dI [0] bH (dE [83] (fD [0] [] func132 (wS (wR fu) d47 1 _ z60)) (dI [84] oP (dI [85] (vD ([(aD.mk kH x61)]:List aD)) ?_))))))))
  refine dI [82,86] (bD.appendLit (es1:=aD.trs (v13)) (es2:=aD.trs (([(aD.mk kH x61)]:List aD))) (es3:=aD.trs (v13++([(aD.mk kH x61)]:List aD))) rfl rfl rfl rfl rfl (fun e he=>by rw [aD.trs_map] at he;obtain⟨x,_,rfl⟩:=List.mem_map.1 he;rw [aD.tr_cs];rfl) (fun e he=>by rw [aD.trs_map] at he;obtain⟨x,_,rfl⟩:=List.mem_map.1 he;rw [aD.tr_cs];rfl) (by rw [aD.trs_map];exact List.cons_ne_nil _ _) (by decide) alK.h arB.h (by decide) (by rw [aD.trs_len,aD.trs_len];exact uW z63 (by decide)) (by rw [aD.trs_map,aD.trs_map,aD.trs_map,List.map_append])) ?_;refine dI [3] bZ (iY [88,87] hM (dN ?_))
  refine gQ 2 ?_;refine AL.weak (Wk.freezeE (k:=2) (sz:=11) (es:= [aQ.cs (aQ.mk eV ([eQ]:LB) x8)]) (es':=aQ.trs (([(aQ.mk eV ([eQ]:LB) x8)]:List aQ))) (s':=⟨[(0,.ptr 0 0),(2,.ptr 1 0),(3,.ptr 3 0),(63,pN (d45.below 12))],⟨[some ⟨133,dC x62⟩,some ⟨163,[pS s_,.nil,pI 0,pS s_,.nil,.nil,pB false,pB false,pI 0,pS s_,.nil,.nil]⟩,none,some ⟨163,[pS y3,.lit 1 (aY (v9)),pI v10,pS v11,aU v12,bW (v13++([(aD.mk kH x61)]:List aD)),pB (decide (v34.below 4=0)),pB v35,pI v36,pS v37,aU v38,mK ([(aQ.mk eV ([eQ]:LB) x8)]:List aQ)]⟩],[]⟩⟩) (by simp [aQ.trs_map,aQ.tr_cs]) rfl iX (by simp [aQ.cs]) (Nat.le_of_ble_eq_true rfl) ⟨⟨rfl,dY,rfl⟩,⟨⟨rfl,dY,rfl⟩,⟨⟨rfl,dY,rfl⟩,trivial⟩⟩⟩ rfl rfl (eP hC (lE rfl) (Nat.le_of_ble_eq_true rfl)) (by repeat' first|exact trivial|refine⟨⟨_,rfl,dY,rfl⟩,?_⟩)) ?_;refine q1 (b6 [pS y3,.lit 1 (aY (v9)),pI v10,pS v11,aU v12,bW (v13++([(aD.mk kH x61)]:List aD)),pB (decide (v34.below 4=0)),pB v35,pI v36,pS v37,aU v38,mK ([(aQ.mk eV ([eQ]:LB) x8)]:List aQ)]) ?_;exact gE 2
 refine gQ 5 ?_;refine bF H (fun h64 H=>?_) (fun h64 H=>?_)
 ·refine eF H fun x66 x67 z65 H=>(dW (dI [3] bZ (dB [91] 0 1 sM (dI [0] bH (dI [] (vD ([eQ,r7]:LB)) (dE [93,94] (fD [0] [] func193 (SJ fu d47 ([eQ,r7]:LB) 2 _ z65)) (dI [92] (bD.indexB (sz:=11) (k:=2) (N:=1) (i:=0) rfl rfl rfl rfl (by decide) anL.h) (dI [96] bZ (iY [97,95] hM (dN ?_))))))))))
  refine gQ 2 ?_;refine AL.weak (Wk.freezeE (k:=2) (sz:=11) (es:= [aQ.cs (aQ.mk eV ([eQ]:LB) x66)]) (es':=aQ.trs (([(aQ.mk eV ([eQ]:LB) x66)]:List aQ))) (s':=⟨[(0,.ptr 0 0),(2,.ptr 1 0),(3,.ptr 3 0),(63,pN (d45.below 12))],⟨[some ⟨133,dC x67⟩,some ⟨163,[pS s_,.nil,pI 0,pS s_,.nil,.nil,pB false,pB false,pI 0,pS s_,.nil,.nil]⟩,none,some ⟨163,[pS y3,.lit 1 (aY (v9)),pI v10,pS v11,aU v12,.lit 4 (aD.trs (v13)),pB (decide (v34.below 4=0)),pB v35,pI v36,pS v37,aU v38,mK ([(aQ.mk eV ([eQ]:LB) x66)]:List aQ)]⟩],[]⟩⟩) (by simp [aQ.trs_map,aQ.tr_cs]) rfl iX (by simp [aQ.cs]) (Nat.le_of_ble_eq_true rfl) ⟨⟨rfl,dY,rfl⟩,⟨⟨rfl,dY,rfl⟩,⟨⟨rfl,dY,rfl⟩,trivial⟩⟩⟩ rfl rfl (eP hC (lE rfl) (Nat.le_of_ble_eq_true rfl)) (by repeat' first|exact trivial|refine⟨⟨_,rfl,dY,rfl⟩,?_⟩)) ?_;refine q1 (b6 [pS y3,.lit 1 (aY (v9)),pI v10,pS v11,aU v12,.lit 4 (aD.trs (v13)),pB (decide (v34.below 4=0)),pB v35,pI v36,pS v37,aU v38,mK ([(aQ.mk eV ([eQ]:LB) x66)]:List aQ)]) ?_;exact gE 2
 refine gQ 5 ?_;refine bF H (fun h68 H=>?_) (fun h68 H=>?_)
 ·refine qR (bM H fun x70 z69 H=>(q1 (bI func49 (wT fu _ z69)) ?_))
  refine gQ 5 ?_;refine AL.weak (Wk.freezeE (k:=2) (sz:=11) (es:= [aQ.cs (aQ.mk eV ([eQ]:LB) x8)]) (es':=aQ.trs (([(aQ.mk eV ([eQ]:LB) x8)]:List aQ))) (s':=⟨[(0,.ptr 0 0),(2,.ptr 1 0),(3,.ptr 3 0),(63,pN (d45.below 12))],⟨[some ⟨133,dC d47⟩,some ⟨163,[pS s_,.nil,pI 0,pS s_,.nil,.nil,pB false,pB false,pI 0,pS s_,.nil,.nil]⟩,none,some ⟨163,[pS y3,.lit 1 (aY (v9)),pI v10,pS v11,aU v12,.lit 4 (aD.trs (v13)),pB (decide (v34.below 4=0)),pB v35,pI x70.aBw,pS x70.aBs,aU x70.aBt,mK ([(aQ.mk eV ([eQ]:LB) x8)]:List aQ)]⟩],[]⟩⟩) (by simp [aQ.trs_map,aQ.tr_cs]) rfl iX (by simp [aQ.cs]) (Nat.le_of_ble_eq_true rfl) ⟨⟨rfl,dY,rfl⟩,⟨⟨rfl,dY,rfl⟩,⟨⟨rfl,dY,rfl⟩,trivial⟩⟩⟩ rfl rfl (eP hC (lE rfl) (Nat.le_of_ble_eq_true rfl)) (by repeat' first|exact trivial|refine⟨⟨_,rfl,dY,rfl⟩,?_⟩)) ?_;refine q1 (b6 [pS y3,.lit 1 (aY (v9)),pI v10,pS v11,aU v12,.lit 4 (aD.trs (v13)),pB (decide (v34.below 4=0)),pB v35,pI x70.aBw,pS x70.aBs,aU x70.aBt,mK ([(aQ.mk eV ([eQ]:LB) x8)]:List aQ)]) ?_;exact gE 2
 refine gQ 5 ?_;refine bF H (fun h71 H=>?_) (fun h71 H=>?_)
 ·refine gQ 3 ?_;refine q1 (vD ([]:LB)) (q1 (bD.indexB (sz:=11) (k:=2) (N:=1) (i:=0) rfl rfl rfl rfl (by decide) anL.h) ?_)
  refine gQ 5 ?_;refine AL.weak (Wk.freezeE (k:=2) (sz:=11) (es:= [aQ.cs (aQ.mk eV ([]) x8)]) (es':=aQ.trs (([(aQ.mk eV ([]) x8)]:List aQ))) (s':=⟨[(0,.ptr 0 0),(2,.ptr 1 0),(3,.ptr 3 0),(63,pN (d45.below 12))],⟨[some ⟨133,dC d47⟩,some ⟨163,[pS s_,.nil,pI 0,pS s_,.nil,.nil,pB false,pB false,pI 0,pS s_,.nil,.nil]⟩,none,some ⟨163,[pS y3,.lit 1 (aY (v9)),pI v10,pS v11,aU v12,.lit 4 (aD.trs (v13)),pB (decide (v34.below 4=0)),pB v35,pI v36,pS v37,aU v38,mK ([(aQ.mk eV ([]) x8)]:List aQ)]⟩],[]⟩⟩) (by simp [aQ.trs_map,aQ.tr_cs]) rfl iX (by simp [aQ.cs]) (Nat.le_of_ble_eq_true rfl) ⟨⟨rfl,dY,rfl⟩,⟨⟨rfl,dY,rfl⟩,⟨⟨rfl,dY,rfl⟩,trivial⟩⟩⟩ rfl rfl (eP hC (lE rfl) (Nat.le_of_ble_eq_true rfl)) (by repeat' first|exact trivial|refine⟨⟨_,rfl,dY,rfl⟩,?_⟩)) ?_;refine q1 (b6 [pS y3,.lit 1 (aY (v9)),pI v10,pS v11,aU v12,.lit 4 (aD.trs (v13)),pB (decide (v34.below 4=0)),pB v35,pI v36,pS v37,aU v38,mK ([(aQ.mk eV ([]) x8)]:List aQ)]) ?_;exact gE 2
 refine gQ 3 ?_;refine AL.weak (Wk.freezeE (k:=2) (sz:=11) (es:= [aQ.cs (aQ.mk eV ([eQ]:LB) x8)]) (es':=aQ.trs (([(aQ.mk eV ([eQ]:LB) x8)]:List aQ))) (s':=⟨[(0,.ptr 0 0),(2,.ptr 1 0),(3,.ptr 3 0),(63,pN (d45.below 12))],⟨[some ⟨133,dC d47⟩,some ⟨163,[pS s_,.nil,pI 0,pS s_,.nil,.nil,pB false,pB false,pI 0,pS s_,.nil,.nil]⟩,none,some ⟨163,[pS y3,.lit 1 (aY (v9)),pI v10,pS v11,aU v12,.lit 4 (aD.trs (v13)),pB (decide (v34.below 4=0)),pB v35,pI v36,pS v37,aU v38,mK ([(aQ.mk eV ([eQ]:LB) x8)]:List aQ)]⟩],[]⟩⟩) (by simp [aQ.trs_map,aQ.tr_cs]) rfl iX (by simp [aQ.cs]) (Nat.le_of_ble_eq_true rfl) ⟨⟨rfl,dY,rfl⟩,⟨⟨rfl,dY,rfl⟩,⟨⟨rfl,dY,rfl⟩,trivial⟩⟩⟩ rfl rfl (eP hC (lE rfl) (Nat.le_of_ble_eq_true rfl)) (by repeat' first|exact trivial|refine⟨⟨_,rfl,dY,rfl⟩,?_⟩)) ?_;refine q1 (b6 [pS y3,.lit 1 (aY (v9)),pI v10,pS v11,aU v12,.lit 4 (aD.trs (v13)),pB (decide (v34.below 4=0)),pB v35,pI v36,pS v37,aU v38,mK ([(aQ.mk eV ([eQ]:LB) x8)]:List aQ)]) ?_;exact gE 2
def WR(fu:Nat)(pc:DS):Option (aP×DS):=lt (pc.after ([s_f,s_g]:LB).length) fun d1=>lt (pc.pick ([s_f,s_g]:LB)) fun y3=>bd (nP fu gF) fun x6=>bd (EJ fu) fun x8=>bd (wL fu eQ) fun x10=>lt (d1.after 10) fun d11=>sw (decide ((d1.below 10:Int)=0)) (bd (uA fu d11 2) fun(x15,x16)=>some ((aP.mk y3 ([gF]:LB) ([(aD.mk bE x6)]:List aD) ([(aW.mk eQ x6)]:List aW) x15 (aM.mk 5 bE eV 0 (aA.mk 0 s_ []) ([x10]:List aM) [])),x16)) (sw (decide ((d1.below 10:Int)=1)) (lt (d11.after ([eQ,r7]:LB).length) fun d18=>lt (d11.pick ([eQ,r7]:LB)) fun y20=>gd ((([(aW.mk eQ x6)]:List aW)).length+(([(aW.mk y20 x8)]:List aW)).length≤68719476736) (some ((aP.mk y3 ([gF]:LB) ([(aD.mk bE x6)]:List aD) (([(aW.mk eQ x6)]:List aW)++([(aW.mk y20 x8)]:List aW)) x8 (aM.mk 5 bE eV 0 (aA.mk 0 s_ []) ([x10]:List aM) [])),d18))) (sw (decide ((d1.below 10:Int)=2)) (bd (lX fu d11 ([eQ,r7]:LB) 3) fun(x25,x26)=>some ((aP.mk y3 ([gF]:LB) ([(aD.mk bE x6)]:List aD) ([(aW.mk eQ x6)]:List aW) x8 x25),x26)) (sw (decide ((d1.below 10:Int)=3)) (bd (uA fu d11 1) fun(x29,x30)=>some ((aP.mk y3 ([gF]:LB) ([(aD.mk bE x29)]:List aD) ([(aW.mk eQ x6)]:List aW) x8 (aM.mk 5 bE eV 0 (aA.mk 0 s_ []) ([x10]:List aM) [])),x30)) (sw (decide ((d1.below 10:Int)=4)) (lt (d11.after ([s_,FP]:LB).length) fun d32=>lt (d11.pick ([s_,FP]:LB)) fun y34=>some ((aP.mk y34 ([gF]:LB) ([(aD.mk bE x6)]:List aD) ([(aW.mk eQ x6)]:List aW) x8 (aM.mk 5 bE eV 0 (aA.mk 0 s_ []) ([x10]:List aM) [])),d32)) (some ((aP.mk y3 ([gF]:LB) ([(aD.mk bE x6)]:List aD) ([(aW.mk eQ x6)]:List aW) x8 (aM.mk 5 bE eV 0 (aA.mk 0 s_ []) ([x10]:List aM) [])),d11))))))
theorem amL(fu:Nat)(pc:DS)(r:aP×DS)(H:WR fu pc=some r):cB Tryz.prog 166 [.ptr 0 0] ⟨[some ⟨133,dC pc⟩],[]⟩ (fun q t=>q=((aP.pv r.1))∧t=⟨[some ⟨133,dC r.2⟩],[]⟩):=by
 refine qJ func166 H (fun C hC H=>?_)
 refine gQ 7 ?_;refine q1 (vD ([s_f,s_g]:LB)) (fZ H fun d1 h2 H=>(fZ H fun y3 h4 H=>(q1 (fD [0] [] func48 (ND h2 h4 (fL pc ([s_f,s_g]:LB) (by decide)))) (q1 (vD ([gF]:LB)) (bM H fun x6 z5 H=>(q1 (bI func137 (lP (kZ fu) gF _ z5)) (q1 oP (q1 (bD.buildSliceB (cs:= [pS bE,pI x6.aBw,pS x6.aBs,aU x6.aBt]) rfl rfl alK.h avL.h rfl rfl rfl (by decide) rfl (by decide)) (q1 (bI func137 (lP (kZ fu) gF _ z5)) (q1 oP (q1 (vD ([(aW.mk eQ x6)]:List aW)) (bM H fun x8 z7 H=>(q1 (bI func49 (wT fu _ z7)) ?_)))))))))))))
 refine bM H fun x10 z9 H=>(q1 (bI func191 (A5 fu eQ _ z9)) (q1 (vD ([x10]:List aM)) ?_))
 refine gQ 9 ?_;refine fZ H fun d11 h12 H=>(q1 (fD [0] [] func73 (FF h12 (fK d1 10))) ?_)
 refine gQ 7 ?_;refine bF H (fun h13 H=>?_) (fun h13 H=>?_)
 ·refine gQ 2 ?_;refine eF H fun x15 x16 z14 H=>(q1 (fD [0] [] func132 (wS (wR fu) d11 2 _ z14)) ?_)
  refine gQ 5 ?_;refine AL.weak (Wk.freezeE (k:=2) (sz:=4) (es:= [aD.cs (aD.mk bE x6)]) (es':=aD.trs (([(aD.mk bE x6)]:List aD))) (s':=⟨[(0,.ptr 0 0),(2,.ptr 1 0),(3,.ptr 3 0),(20,pN (d1.below 10))],⟨[some ⟨133,dC x16⟩,some ⟨213,[pS s_,.nil,.nil,.nil,pI 0,pS s_,.nil,pI 0,pS s_,pS s_,pI 0,pI 0,pS s_,.nil,.nil,.nil]⟩,none,some ⟨213,[pS y3,.lit 1 (aY (([gF]:LB))),bW ([(aD.mk bE x6)]:List aD),.lit 4 (aW.trs (([(aW.mk eQ x6)]:List aW))),pI x15.aBw,pS x15.aBs,aU x15.aBt,pI 5,pS bE,pS eV,pI 0,pI 0,pS s_,.nil,.lit 9 (aM.trs (([x10]:List aM))),.nil]⟩],[]⟩⟩) (by simp [aD.trs_map,aD.tr_cs]) rfl iX (by simp [aD.cs]) (Nat.le_of_ble_eq_true rfl) ⟨⟨rfl,dY,rfl⟩,⟨⟨rfl,dY,rfl⟩,⟨⟨rfl,dY,rfl⟩,trivial⟩⟩⟩ rfl rfl (eP hC (lE rfl) (Nat.le_of_ble_eq_true rfl)) (by repeat' first|exact trivial|refine⟨⟨_,rfl,dY,rfl⟩,?_⟩)) ?_;refine q1 (b6 [pS y3,.lit 1 (aY (([gF]:LB))),bW ([(aD.mk bE x6)]:List aD),.lit 4 (aW.trs (([(aW.mk eQ x6)]:List aW))),pI x15.aBw,pS x15.aBs,aU x15.aBt,pI 5,pS bE,pS eV,pI 0,pI 0,pS s_,.nil,.lit 9 (aM.trs (([x10]:List aM))),.nil]) ?_;exact gE 2
 refine gQ 5 ?_;refine bF H (fun h17 H=>?_) (fun h17 H=>?_)
 ·refine fZ H fun d18 h19 H=>(fZ H fun y20 h21 H=>(cA H fun z22 H=>(dW (dI [3] bZ (dB [28] 0 1 sM (dI [0] bH (dI [] (vD ([eQ,r7]:LB)) (dE [30,31] (fD [0] [] func48 (ND h19 h21 (fL d11 ([eQ,r7]:LB) (by decide)))) (dI [] (bI func49 (wT fu _ z7)) (dI [32,33] oP (dI [34] (vD ([(aW.mk y20 x8)]:List aW)) ?_)))))))))))
  refine dI [29,35] (bD.appendLit (es1:=aW.trs (([(aW.mk eQ x6)]:List aW))) (es2:=aW.trs (([(aW.mk y20 x8)]:List aW))) (es3:=aW.trs (([(aW.mk eQ x6)]:List aW)++([(aW.mk y20 x8)]:List aW))) rfl rfl rfl rfl rfl (fun e he=>by rw [aW.trs_map] at he;obtain⟨x,_,rfl⟩:=List.mem_map.1 he;rw [aW.tr_cs];rfl) (fun e he=>by rw [aW.trs_map] at he;obtain⟨x,_,rfl⟩:=List.mem_map.1 he;rw [aW.tr_cs];rfl) (by rw [aW.trs_map];exact List.cons_ne_nil _ _) (by decide) arS.h asJ.h (by decide) (by rw [aW.trs_len,aW.trs_len];exact uW z22 (by decide)) (by rw [aW.trs_map,aW.trs_map,aW.trs_map,List.map_append])) ?_;refine dI [3] bZ (iY [37,36] hM (dN ?_))
  refine gQ 2 ?_;refine AL.weak (Wk.freezeE (k:=2) (sz:=4) (es:= [aD.cs (aD.mk bE x6)]) (es':=aD.trs (([(aD.mk bE x6)]:List aD))) (s':=⟨[(0,.ptr 0 0),(2,.ptr 1 0),(3,.ptr 3 0),(20,pN (d1.below 10))],⟨[some ⟨133,dC d18⟩,some ⟨213,[pS s_,.nil,.nil,.nil,pI 0,pS s_,.nil,pI 0,pS s_,pS s_,pI 0,pI 0,pS s_,.nil,.nil,.nil]⟩,none,some ⟨213,[pS y3,.lit 1 (aY (([gF]:LB))),bW ([(aD.mk bE x6)]:List aD),VT (([(aW.mk eQ x6)]:List aW)++([(aW.mk y20 x8)]:List aW)),pI x8.aBw,pS x8.aBs,aU x8.aBt,pI 5,pS bE,pS eV,pI 0,pI 0,pS s_,.nil,.lit 9 (aM.trs (([x10]:List aM))),.nil]⟩],[]⟩⟩) (by simp [aD.trs_map,aD.tr_cs]) rfl iX (by simp [aD.cs]) (Nat.le_of_ble_eq_true rfl) ⟨⟨rfl,dY,rfl⟩,⟨⟨rfl,dY,rfl⟩,⟨⟨rfl,dY,rfl⟩,trivial⟩⟩⟩ rfl rfl (eP hC (lE rfl) (Nat.le_of_ble_eq_true rfl)) (by repeat' first|exact trivial|refine⟨⟨_,rfl,dY,rfl⟩,?_⟩)) ?_;refine q1 (b6 [pS y3,.lit 1 (aY (([gF]:LB))),bW ([(aD.mk bE x6)]:List aD),VT (([(aW.mk eQ x6)]:List aW)++([(aW.mk y20 x8)]:List aW)),pI x8.aBw,pS x8.aBs,aU x8.aBt,pI 5,pS bE,pS eV,pI 0,pI 0,pS s_,.nil,.lit 9 (aM.trs (([x10]:List aM))),.nil]) ?_;exact gE 2
 refine gQ 5 ?_;refine bF H (fun h23 H=>?_) (fun h23 H=>?_)
 ·refine gQ 2 ?_;refine q1 (vD ([eQ,r7]:LB)) (eF H fun x25 x26 z24 H=>(q1 (fD [0] [] func193 (SJ fu d11 ([eQ,r7]:LB) 3 _ z24)) ?_))
  refine gQ 5 ?_;refine AL.weak (Wk.freezeE (k:=2) (sz:=4) (es:= [aD.cs (aD.mk bE x6)]) (es':=aD.trs (([(aD.mk bE x6)]:List aD))) (s':=⟨[(0,.ptr 0 0),(2,.ptr 1 0),(3,.ptr 3 0),(20,pN (d1.below 10))],⟨[some ⟨133,dC x26⟩,some ⟨213,[pS s_,.nil,.nil,.nil,pI 0,pS s_,.nil,pI 0,pS s_,pS s_,pI 0,pI 0,pS s_,.nil,.nil,.nil]⟩,none,some ⟨213,[pS y3,.lit 1 (aY (([gF]:LB))),bW ([(aD.mk bE x6)]:List aD),.lit 4 (aW.trs (([(aW.mk eQ x6)]:List aW))),pI x8.aBw,pS x8.aBs,aU x8.aBt,pI x25.aBw,pS x25.aBz,pS x25.aBs,pI x25.aCa,pI x25.aBu.aBw,pS x25.aBu.aBs,aU x25.aBu.aBt,iI x25.aBt,rV x25.aBN]⟩],[]⟩⟩) (by simp [aD.trs_map,aD.tr_cs]) rfl iX (by simp [aD.cs]) (Nat.le_of_ble_eq_true rfl) ⟨⟨rfl,dY,rfl⟩,⟨⟨rfl,dY,rfl⟩,⟨⟨rfl,dY,rfl⟩,trivial⟩⟩⟩ rfl rfl (eP hC (lE rfl) (Nat.le_of_ble_eq_true rfl)) (by repeat' first|exact trivial|refine⟨⟨_,rfl,dY,rfl⟩,?_⟩)) ?_;refine q1 (b6 [pS y3,.lit 1 (aY (([gF]:LB))),bW ([(aD.mk bE x6)]:List aD),.lit 4 (aW.trs (([(aW.mk eQ x6)]:List aW))),pI x8.aBw,pS x8.aBs,aU x8.aBt,pI x25.aBw,pS x25.aBz,pS x25.aBs,pI x25.aCa,pI x25.aBu.aBw,pS x25.aBu.aBs,aU x25.aBu.aBt,iI x25.aBt,rV x25.aBN]) ?_;exact gE 2
 refine gQ 5 ?_;refine bF H (fun h27 H=>?_) (fun h27 H=>?_)
 ·refine eF H fun x29 x30 z28 H=>(dW (dI [3] bZ (dB [46] 0 1 sM (dI [0] bH (dE [48] (fD [0] [] func132 (wS (wR fu) d11 1 _ z28)) (dI [47] (bD.indexB (sz:=4) (k:=2) (N:=1) (i:=0) rfl rfl rfl rfl (by decide) alK.h) (dI [50] bZ (iY [51,49] hM (dN ?_)))))))))
  refine gQ 2 ?_;refine AL.weak (Wk.freezeE (k:=2) (sz:=4) (es:= [aD.cs (aD.mk bE x29)]) (es':=aD.trs (([(aD.mk bE x29)]:List aD))) (s':=⟨[(0,.ptr 0 0),(2,.ptr 1 0),(3,.ptr 3 0),(20,pN (d1.below 10))],⟨[some ⟨133,dC x30⟩,some ⟨213,[pS s_,.nil,.nil,.nil,pI 0,pS s_,.nil,pI 0,pS s_,pS s_,pI 0,pI 0,pS s_,.nil,.nil,.nil]⟩,none,some ⟨213,[pS y3,.lit 1 (aY (([gF]:LB))),bW ([(aD.mk bE x29)]:List aD),.lit 4 (aW.trs (([(aW.mk eQ x6)]:List aW))),pI x8.aBw,pS x8.aBs,aU x8.aBt,pI 5,pS bE,pS eV,pI 0,pI 0,pS s_,.nil,.lit 9 (aM.trs (([x10]:List aM))),.nil]⟩],[]⟩⟩) (by simp [aD.trs_map,aD.tr_cs]) rfl iX (by simp [aD.cs]) (Nat.le_of_ble_eq_true rfl) ⟨⟨rfl,dY,rfl⟩,⟨⟨rfl,dY,rfl⟩,⟨⟨rfl,dY,rfl⟩,trivial⟩⟩⟩ rfl rfl (eP hC (lE rfl) (Nat.le_of_ble_eq_true rfl)) (by repeat' first|exact trivial|refine⟨⟨_,rfl,dY,rfl⟩,?_⟩)) ?_;refine q1 (b6 [pS y3,.lit 1 (aY (([gF]:LB))),bW ([(aD.mk bE x29)]:List aD),.lit 4 (aW.trs (([(aW.mk eQ x6)]:List aW))),pI x8.aBw,pS x8.aBs,aU x8.aBt,pI 5,pS bE,pS eV,pI 0,pI 0,pS s_,.nil,.lit 9 (aM.trs (([x10]:List aM))),.nil]) ?_;exact gE 2
 refine gQ 5 ?_;refine bF H (fun h31 H=>?_) (fun h31 H=>?_)
 ·refine gQ 2 ?_;refine q1 (vD ([s_,FP]:LB)) (fZ H fun d32 h33 H=>(fZ H fun y34 h35 H=>(q1 (fD [0] [] func48 (ND h33 h35 (fL d11 ([s_,FP]:LB) (by decide)))) ?_)))
  refine gQ 5 ?_;refine AL.weak (Wk.freezeE (k:=2) (sz:=4) (es:= [aD.cs (aD.mk bE x6)]) (es':=aD.trs (([(aD.mk bE x6)]:List aD))) (s':=⟨[(0,.ptr 0 0),(2,.ptr 1 0),(3,.ptr 3 0),(20,pN (d1.below 10))],⟨[some ⟨133,dC d32⟩,some ⟨213,[pS s_,.nil,.nil,.nil,pI 0,pS s_,.nil,pI 0,pS s_,pS s_,pI 0,pI 0,pS s_,.nil,.nil,.nil]⟩,none,some ⟨213,[pS y34,.lit 1 (aY (([gF]:LB))),bW ([(aD.mk bE x6)]:List aD),.lit 4 (aW.trs (([(aW.mk eQ x6)]:List aW))),pI x8.aBw,pS x8.aBs,aU x8.aBt,pI 5,pS bE,pS eV,pI 0,pI 0,pS s_,.nil,.lit 9 (aM.trs (([x10]:List aM))),.nil]⟩],[]⟩⟩) (by simp [aD.trs_map,aD.tr_cs]) rfl iX (by simp [aD.cs]) (Nat.le_of_ble_eq_true rfl) ⟨⟨rfl,dY,rfl⟩,⟨⟨rfl,dY,rfl⟩,⟨⟨rfl,dY,rfl⟩,trivial⟩⟩⟩ rfl rfl (eP hC (lE rfl) (Nat.le_of_ble_eq_true rfl)) (by repeat' first|exact trivial|refine⟨⟨_,rfl,dY,rfl⟩,?_⟩)) ?_;refine q1 (b6 [pS y34,.lit 1 (aY (([gF]:LB))),bW ([(aD.mk bE x6)]:List aD),.lit 4 (aW.trs (([(aW.mk eQ x6)]:List aW))),pI x8.aBw,pS x8.aBs,aU x8.aBt,pI 5,pS bE,pS eV,pI 0,pI 0,pS s_,.nil,.lit 9 (aM.trs (([x10]:List aM))),.nil]) ?_;exact gE 2
 refine gQ 3 ?_;refine AL.weak (Wk.freezeE (k:=2) (sz:=4) (es:= [aD.cs (aD.mk bE x6)]) (es':=aD.trs (([(aD.mk bE x6)]:List aD))) (s':=⟨[(0,.ptr 0 0),(2,.ptr 1 0),(3,.ptr 3 0),(20,pN (d1.below 10))],⟨[some ⟨133,dC d11⟩,some ⟨213,[pS s_,.nil,.nil,.nil,pI 0,pS s_,.nil,pI 0,pS s_,pS s_,pI 0,pI 0,pS s_,.nil,.nil,.nil]⟩,none,some ⟨213,[pS y3,.lit 1 (aY (([gF]:LB))),bW ([(aD.mk bE x6)]:List aD),.lit 4 (aW.trs (([(aW.mk eQ x6)]:List aW))),pI x8.aBw,pS x8.aBs,aU x8.aBt,pI 5,pS bE,pS eV,pI 0,pI 0,pS s_,.nil,.lit 9 (aM.trs (([x10]:List aM))),.nil]⟩],[]⟩⟩) (by simp [aD.trs_map,aD.tr_cs]) rfl iX (by simp [aD.cs]) (Nat.le_of_ble_eq_true rfl) ⟨⟨rfl,dY,rfl⟩,⟨⟨rfl,dY,rfl⟩,⟨⟨rfl,dY,rfl⟩,trivial⟩⟩⟩ rfl rfl (eP hC (lE rfl) (Nat.le_of_ble_eq_true rfl)) (by repeat' first|exact trivial|refine⟨⟨_,rfl,dY,rfl⟩,?_⟩)) ?_;refine q1 (b6 [pS y3,.lit 1 (aY (([gF]:LB))),bW ([(aD.mk bE x6)]:List aD),.lit 4 (aW.trs (([(aW.mk eQ x6)]:List aW))),pI x8.aBw,pS x8.aBs,aU x8.aBt,pI 5,pS bE,pS eV,pI 0,pI 0,pS s_,.nil,.lit 9 (aM.trs (([x10]:List aM))),.nil]) ?_;exact gE 2
end
end Go.Proofs.YtfcoaagbccmahaaGreat.W

namespace Go.Proofs.YtfcoaagbccmahaaGreat.W
set_option maxRecDepth 100000
set_option maxHeartbeats 40000000
noncomputable section
open Tryz Go.RowKit Go.Proofs
attribute [local irreducible] lt
def acA(fu:Nat)(p0:DS)(x2:aA)(d3:DS)(y5:ByteArray)(d7:DS)(x10:aA)(d13:DS)(x17 x19 x21:aM):Option ((aV×DS)⊕((LB))):=lt (d13.after 3) fun d24=>sw (decide (d13.below 3=0)) (some (.inr ([eM]:LB))) (some (.inr ([])))
def acB(fu:Nat)(p0:DS)(x2:aA)(d3:DS)(y5:ByteArray)(d7:DS)(x10:aA)(d37:DS):Option ((aV×DS)⊕((LB))):=lt (d37.after 3) fun d41=>sw (decide (d37.below 3=0)) (some (.inr ([eM]:LB))) (some (.inr ([])))
def acC(fu:Nat)(p0:DS)(x2:aA)(d3:DS)(y5:ByteArray)(d7:DS)(x10:aA):Option ((aV×DS)⊕((List aG))):=lt (d7.after 2) fun d56=>sw (decide (d7.below 2=0)) (bd (wL fu eQ) fun x61=>bd (t6 fu 1) fun x63=>bd (vA fu 10 BF ([(aM.mk 5 y5 eV 0 (aA.mk 0 s_ []) ([x61]:List aM) []),x63]:List aM)) fun x65=>gd ((([(aG.mk eV [] x10 false [] (aM.mk 0 s_ s_ 0 (aA.mk 0 s_ []) [] []))]:List aG)).length+(([(aG.mk fM ([x2]:List aA) x10 true ([eQ,r7]:LB) x65)]:List aG)).length≤68719476736) (some (.inr (([(aG.mk eV [] x10 false [] (aM.mk 0 s_ s_ 0 (aA.mk 0 s_ []) [] []))]:List aG)++([(aG.mk fM ([x2]:List aA) x10 true ([eQ,r7]:LB) x65)]:List aG))))) (some (.inr ([(aG.mk eV [] x10 false [] (aM.mk 0 s_ s_ 0 (aA.mk 0 s_ []) [] []))]:List aG)))
def acD(fu:Nat)(p0:DS)(x2:aA)(d3:DS)(y5:ByteArray)(d7:DS)(x10:aA)(v55:List aG):Option ((aV×DS)⊕((LB))):=lt ((d7.after 2).after 3) fun d68=>sw (decide ((d7.after 2).below 3=0)) (some (.inr ([eM]:LB))) (some (.inr ([])))
def IH(fu:Nat)(p0:DS):Option (aV×DS):=bd (nP fu jZ) fun x2=>lt (p0.after ([bE,kH,eC]:LB).length) fun d3=>lt (p0.pick ([bE,kH,eC]:LB)) fun y5=>lt (d3.after 3) fun d7=>bd (EJ fu) fun x10=>sw (decide ((((((d7.after 2).after 3).below 12:Nat):Int):Int)=2)||decide ((((((d7.after 2).after 3).below 12:Nat):Int):Int)=3)) (sw (decide (d7.below 2=0)) (lt (d7.after 2) fun d13=>bd (wL fu eQ) fun x17=>bd (t6 fu 1) fun x19=>bd (vA fu 10 BF ([(aM.mk 5 y5 eV 0 (aA.mk 0 s_ []) ([x17]:List aM) []),x19]:List aM)) fun x21=>gd ((([(aG.mk eV [] x10 false [] (aM.mk 0 s_ s_ 0 (aA.mk 0 s_ []) [] []))]:List aG)).length+(([(aG.mk fM ([x2]:List aA) x10 true ([eQ,r7]:LB) x21)]:List aG)).length≤68719476736) (so (acA fu p0 x2 d3 y5 d7 x10 d13 x17 x19 x21) fun v23=>lt ((d13.after 3).after 12) fun d28=>sw (decide (((((d13.after 3).below 12:Nat):Int):Int)=2)) (lt (d28.after ([jZ,B5]:LB).length) fun d31=>lt (d28.pick ([jZ,B5]:LB)) fun y33=>bd (nP fu y33) fun x36=>some ((aV.mk y5 v23 false (decide (d3.below 3=0)) ([(aG.mk eV ([]) x36 false ([]) (aM.mk 0 s_ s_ 0 (aA.mk 0 s_ ([])) ([]) ([]))),(aG.mk fM ([x2]:List aA) x10 true ([eQ,r7]:LB) x21)]:List aG)),d31)) (some ((aV.mk y5 v23 false (decide (d3.below 3=0)) ([(aG.mk eV ([]) x10 true ([]) (aM.mk 0 s_ s_ 0 (aA.mk 0 s_ ([])) ([]) ([]))),(aG.mk fM ([x2]:List aA) x10 true ([eQ,r7]:LB) x21)]:List aG)),d28)))) (lt (d7.after 2) fun d37=>so (acB fu p0 x2 d3 y5 d7 x10 d37) fun v40=>lt ((d37.after 3).after 12) fun d45=>sw (decide (((((d37.after 3).below 12:Nat):Int):Int)=2)) (lt (d45.after ([jZ,B5]:LB).length) fun d48=>lt (d45.pick ([jZ,B5]:LB)) fun y50=>bd (nP fu y50) fun x53=>some ((aV.mk y5 v40 false (decide (d3.below 3=0)) ([(aG.mk eV [] x53 false [] (aM.mk 0 s_ s_ 0 (aA.mk 0 s_ []) [] []))]:List aG)),d48)) (some ((aV.mk y5 v40 false (decide (d3.below 3=0)) ([(aG.mk eV [] x10 true [] (aM.mk 0 s_ s_ 0 (aA.mk 0 s_ []) [] []))]:List aG)),d45)))) (so (acC fu p0 x2 d3 y5 d7 x10) fun v55=>so (acD fu p0 x2 d3 y5 d7 x10 v55) fun v67=>lt (((d7.after 2).after 3).after 12) fun d72=>sw (decide ((((((d7.after 2).after 3).below 12:Nat):Int):Int)=0)) (some ((aV.mk y5 v67 true (decide (d3.below 3=0)) v55),d72)) (sw (decide ((((((d7.after 2).after 3).below 12:Nat):Int):Int)=1)) (lt (d72.after ([s_,eU,s_A]:LB).length) fun d76=>lt (d72.pick ([s_,eU,s_A]:LB)) fun y78=>some ((aV.mk y78 v67 false (decide (d3.below 3=0)) v55),d76)) (sw (decide ((((((d7.after 2).after 3).below 12:Nat):Int):Int)=4)) (gd ((v67).length+(([eM]:LB)).length≤68719476736) (some ((aV.mk y5 (v67++([eM]:LB)) false (decide (d3.below 3=0)) v55),d72))) (sw (decide ((((((d7.after 2).after 3).below 12:Nat):Int):Int)=5)) (gd (0<(v55).length) (lt (aT v55 0) fun y84=>gd ((v55).length+(([y84]:List aG)).length≤68719476736) (some ((aV.mk y5 v67 false (decide (d3.below 3=0)) (v55++([y84]:List aG))),d72)))) (some ((aV.mk y5 v67 false (decide (d3.below 3=0)) v55),d72))))))
theorem acE(fu:Nat)(p0:DS)(r:aV×DS)(H:IH fu p0=some r):cB Tryz.prog 163 [.ptr 0 0] ⟨[some ⟨133,dC p0⟩],[]⟩ (fun q t=>q=((aV.pv r.1))∧t=⟨[some ⟨133,dC r.2⟩],[]⟩):=by
 refine qJ func163 H (fun C hC H=>?_)
 refine gQ 6 ?_;refine bM H fun x2 z1 H=>(q1 (bI func137 (lP (kZ fu) jZ _ z1)) ?_)
 refine gQ 6 ?_;refine q1 (vD ([bE,kH,eC]:LB)) (fZ H fun d3 h4 H=>(fZ H fun y5 h6 H=>(q1 (fD [0] [] func48 (ND h4 h6 (fL p0 ([bE,kH,eC]:LB) (by decide)))) (q1 bH (fZ H fun d7 h8 H=>(q1 (fD [0] [] func45 (FF h8 (m8 d3 3))) (bM H fun x10 z9 H=>(q1 (bI func49 (wT fu _ z9)) (q1 oP ?_)))))))))
 rcases nS (decide ((((((d7.after 2).after 3).below 12:Nat):Int):Int)=2)||decide ((((((d7.after 2).after 3).below 12:Nat):Int):Int)=3)) with g11|g11
 ·have H:=sE H g11
  rcases nS (decide (d7.below 2=0)) with g12|g12
  ·have H:=sE H g12
   refine q1 (bD.buildSliceB (cs:= [pS eV,.nil,pI x10.aBw,pS x10.aBs,aU x10.aBt,pB false,.nil,pI 0,pS s_,pS s_,pI 0,pI 0,pS s_,.nil,.nil,.nil]) rfl rfl US.h aqD.h rfl rfl rfl (by decide) rfl (by decide)) ?_;refine gQ 8 ?_;refine fZ H fun d13 h14 H=>?_
   have g15:=g11
   rw [← h14] at g15
   refine q1 (fD [0] [] func45 (FF h14 (m8 d7 2))) (qN (ahV g12 (bM H fun x17 z16 H=>(bM H fun x19 z18 H=>(bM H fun x21 z20 H=>?_)))))
   refine cO.wk (Wk.freezeE (k:=3) (sz:=16) (es:= [aG.cs (aG.mk eV [] x10 false [] (aM.mk 0 s_ s_ 0 (aA.mk 0 s_ []) [] []))]) (es':=aG.trs (([(aG.mk eV [] x10 false [] (aM.mk 0 s_ s_ 0 (aA.mk 0 s_ []) [] []))]:List aG))) (s':=⟨[(0,.ptr 0 0),(2,.ptr 1 0),(3,.ptr 2 0),(4,.ptr 4 0),(5,(aA.pv x2)),(6,.ptr 0 0),(7,.lit 1 (aY (([bE,kH,eC]:LB)))),(8,pS y5),(9,.ptr 0 0),(10,pB (decide (d3.below 3=0))),(11,(aA.pv x10)),(12,.agg [pS eV,.nil,pI x10.aBw,pS x10.aBs,aU x10.aBt,pB false,.nil,pI 0,pS s_,pS s_,pI 0,pI 0,pS s_,.nil,.nil,.nil]),(13,.lit 16 (aG.trs (([(aG.mk eV [] x10 false [] (aM.mk 0 s_ s_ 0 (aA.mk 0 s_ []) [] []))]:List aG)))),(14,.agg [pS y5,.nil,pB false,pB (decide (d3.below 3=0)),.lit 16 (aG.trs (([(aG.mk eV [] x10 false [] (aM.mk 0 s_ s_ 0 (aA.mk 0 s_ []) [] []))]:List aG)))]),(15,.ptr 0 0),(16,pB (decide (d7.below 2=0)))],⟨[some ⟨133,dC d13⟩,some ⟨156,[pS s_,.nil,pB false,pB false,.nil]⟩,some ⟨30,b9 x2⟩,none,some ⟨156,[pS y5,.nil,pB false,pB (decide (d3.below 3=0)),.lit 16 (aG.trs (([(aG.mk eV [] x10 false [] (aM.mk 0 s_ s_ 0 (aA.mk 0 s_ []) [] []))]:List aG)))]⟩],[]⟩⟩) (by simp [aG.trs_map,aG.tr_cs]) rfl iX (by simp [aG.cs]) (Nat.le_of_ble_eq_true rfl) ⟨⟨rfl,dY,rfl⟩,⟨⟨rfl,dY,rfl⟩,⟨⟨rfl,dY,rfl⟩,⟨⟨rfl,dY,rfl⟩,trivial⟩⟩⟩⟩ rfl rfl (eP hC (lE rfl) (Nat.le_of_ble_eq_true rfl)) (by repeat' first|exact trivial|refine⟨⟨_,rfl,dY,rfl⟩,?_⟩)) ?_;refine cA H fun z22 H=>(dW (dI [4] bZ (dD [17] eB (dD [3] (b6 [pI x2.aBw,pS x2.aBs,aU x2.aBt]) (dI [19] (vD ([x2]:List aA)) (dI [] (bI func49 (wT fu _ z9)) (dI [] (vD ([eQ,r7]:LB)) (dI [4] bZ (dD [23] eB (dI [] (bI func191 (A5 fu eQ _ z16)) (dI [25] (vD ([x17]:List aM)) (dI [24,26] oP (dI [] (bI func192 (wJ fu 1 _ z18)) ?_)))))))))))))
   refine dI [27,28] (vD ([(aM.mk 5 y5 eV 0 (aA.mk 0 s_ []) ([x17]:List aM) []),x19]:List aM)) (dI [29] (bI func190 (wK fu 10 BF ([(aM.mk 5 y5 eV 0 (aA.mk 0 s_ []) ([x17]:List aM) []),x19]:List aM) _ z20)) (dI [20,21,22,30] oP (dI [31] (vD ([(aG.mk fM ([x2]:List aA) x10 true ([eQ,r7]:LB) x21)]:List aG)) ?_)))
   refine dE [18,32] (bD.appendLitBE (es1:=aG.trs (([(aG.mk eV [] x10 false [] (aM.mk 0 s_ s_ 0 (aA.mk 0 s_ []) [] []))]:List aG))) (es2:=aG.trs (([(aG.mk fM ([x2]:List aA) x10 true ([eQ,r7]:LB) x21)]:List aG))) (es3:= [aG.cs (aG.mk eV [] x10 false [] (aM.mk 0 s_ s_ 0 (aA.mk 0 s_ []) [] [])),aG.cs (aG.mk fM ([x2]:List aA) x10 true ([eQ,r7]:LB) x21)]) (cs:= [pS eV,aU [],pI x10.aBw,pS x10.aBs,aU x10.aBt,pB false,rS [],pI 0,pS s_,pS s_,pI 0,pI 0,pS s_,aU [],iI [],rV [],pS fM,aU ([x2]:List aA),pI x10.aBw,pS x10.aBs,aU x10.aBt,pB true,rS ([eQ,r7]:LB),pI x21.aBw,pS x21.aBz,pS x21.aBs,pI x21.aCa,pI x21.aBu.aBw,pS x21.aBu.aBs,aU x21.aBu.aBt,iI x21.aBt,rV x21.aBN]) rfl rfl rfl rfl rfl (fun e he=>by rw [aG.trs_map] at he;obtain⟨x,_,rfl⟩:=List.mem_map.1 he;rw [aG.tr_cs];rfl) (fun e he=>by rw [aG.trs_map] at he;obtain⟨x,_,rfl⟩:=List.mem_map.1 he;rw [aG.tr_cs];rfl) (by rw [aG.trs_map];exact List.cons_ne_nil _ _) (by decide) US.h asI.h (by decide) (by rw [aG.trs_len,aG.trs_len];exact uW z22 (by decide)) (by simp [aG.trs_map,aG.tr_cs]) rfl rfl) ?_;refine dI [4] bZ (iY [34,33] hM (dN (qS ?_)))
   refine nW (σ:=(LB)) (fun v23=>⟨[(0,.ptr 0 0),(2,.ptr 1 0),(4,.ptr 4 0)],⟨[some ⟨133,dC (d13.after 3)⟩,some ⟨156,[pS s_,.nil,pB false,pB false,.nil]⟩,some ⟨30,b9 x2⟩,none,some ⟨156,[pS y5,.lit 1 (aY (v23)),pB false,pB (decide (d3.below 3=0)),.gsl 5 2]⟩,some ⟨237,[pS eV,aU [],pI x10.aBw,pS x10.aBs,aU x10.aBt,pB false,rS [],pI 0,pS s_,pS s_,pI 0,pI 0,pS s_,aU [],iI [],rV [],pS fM,aU ([x2]:List aA),pI x10.aBw,pS x10.aBs,aU x10.aBt,pB true,rS ([eQ,r7]:LB),pI x21.aBw,pS x21.aBz,pS x21.aBs,pI x21.aCa,pI x21.aBu.aBw,pS x21.aBu.aBs,aU x21.aBu.aBt,iI x21.aBt,rV x21.aBN]⟩],[]⟩⟩) (eJ H) (fun H=>?_) ?_
   ·refine gQ 3 ?_;refine fZ H fun d24 h25 H=>?_
    have g26:=g15
    rw [← h25] at g26
    refine q1 (fD [0] [] func45 (FF h25 (m8 d13 3))) (qN ?_)
    refine bF H (fun h27 H=>?_) (fun h27 H=>?_)
    ·refine qR (q1 (vD ([eM]:LB)) ?_)
     refine gQ 3 ?_
     subst h25
     exact gE 0
    refine cO.skip ?_
    subst h25
    exact gE 0
   rintro v23 H
   refine gQ 4 ?_;refine fZ H fun d28 h29 H=>(q1 (fD [0] [] func73 (FF h29 (fK (d13.after 3) 12))) ?_)
   refine gQ 7 ?_;refine UP (akF (b:=0) g15 (by decide) (by decide)) ?_;refine gQ 5 ?_;refine UP (akF (b:=1) g15 (by decide) (by decide)) ?_;refine gQ 5 ?_;refine bF H (fun h30 H=>?_) (fun h30 H=>?_)
   ·refine fZ H fun d31 h32 H=>(fZ H fun y33 h34 H=>(bM H fun x36 z35 H=>(dW (dI [4] bZ (dB [52] 0 1 sM (dI [0] bH (dI [] (vD ([jZ,B5]:LB)) (dE [54,55] (fD [0] [] func48 (ND h32 h34 (fL d28 ([jZ,B5]:LB) (by decide)))) (dI [56] (bI func137 (lP (kZ fu) y33 _ z35)) (dI [53] (bD.indexG (sz:=16) (k:=5) (N:=2) (i:=0) rfl rfl rfl rfl (by decide) US.h) (dI [58] bZ (iY [59,57] hM (dN ?_)))))))))))))
    refine gQ 2 ?_;refine AL.weak (Wk.freezeE (k:=5) (sz:=16) (es:= [aG.cs (aG.mk eV ([]) x36 false ([]) (aM.mk 0 s_ s_ 0 (aA.mk 0 s_ ([])) ([]) ([]))),aG.cs (aG.mk fM ([x2]:List aA) x10 true ([eQ,r7]:LB) x21)]) (es':=aG.trs (([(aG.mk eV ([]) x36 false ([]) (aM.mk 0 s_ s_ 0 (aA.mk 0 s_ ([])) ([]) ([]))),(aG.mk fM ([x2]:List aA) x10 true ([eQ,r7]:LB) x21)]:List aG))) (s':=⟨[(0,.ptr 0 0),(2,.ptr 1 0),(4,.ptr 4 0),(40,pN ((d13.after 3).below 12))],⟨[some ⟨133,dC d31⟩,some ⟨156,[pS s_,.nil,pB false,pB false,.nil]⟩,some ⟨30,b9 x2⟩,none,some ⟨156,[pS y5,.lit 1 (aY (v23)),pB false,pB (decide (d3.below 3=0)),gC ([(aG.mk eV ([]) x36 false ([]) (aM.mk 0 s_ s_ 0 (aA.mk 0 s_ ([])) ([]) ([]))),(aG.mk fM ([x2]:List aA) x10 true ([eQ,r7]:LB) x21)]:List aG)]⟩,none],[]⟩⟩) (by simp [aG.trs_map,aG.tr_cs]) rfl iX (by simp [aG.cs]) (Nat.le_of_ble_eq_true rfl) ⟨⟨rfl,dY,rfl⟩,⟨⟨rfl,dY,rfl⟩,⟨⟨rfl,dY,rfl⟩,⟨⟨rfl,dY,rfl⟩,trivial⟩⟩⟩⟩ rfl rfl (eP hC (lE rfl) (Nat.le_of_ble_eq_true rfl)) (by repeat' first|exact trivial|refine⟨⟨_,rfl,dY,rfl⟩,?_⟩)) ?_;refine q1 (b6 [pS y5,.lit 1 (aY (v23)),pB false,pB (decide (d3.below 3=0)),gC ([(aG.mk eV ([]) x36 false ([]) (aM.mk 0 s_ s_ 0 (aA.mk 0 s_ ([])) ([]) ([]))),(aG.mk fM ([x2]:List aA) x10 true ([eQ,r7]:LB) x21)]:List aG)]) ?_;exact gE 2
   refine gQ 5 ?_;refine ahV (ap9 g15 h30) ?_;refine gQ 3 ?_;refine q1 (bD.indexG (sz:=16) (k:=5) (N:=2) (i:=0) rfl rfl rfl rfl (by decide) US.h) ?_;refine gQ 5 ?_;refine AL.weak (Wk.freezeE (k:=5) (sz:=16) (es:= [aG.cs (aG.mk eV ([]) x10 true ([]) (aM.mk 0 s_ s_ 0 (aA.mk 0 s_ ([])) ([]) ([]))),aG.cs (aG.mk fM ([x2]:List aA) x10 true ([eQ,r7]:LB) x21)]) (es':=aG.trs (([(aG.mk eV ([]) x10 true ([]) (aM.mk 0 s_ s_ 0 (aA.mk 0 s_ ([])) ([]) ([]))),(aG.mk fM ([x2]:List aA) x10 true ([eQ,r7]:LB) x21)]:List aG))) (s':=⟨[(0,.ptr 0 0),(2,.ptr 1 0),(4,.ptr 4 0),(40,pN ((d13.after 3).below 12))],⟨[some ⟨133,dC d28⟩,some ⟨156,[pS s_,.nil,pB false,pB false,.nil]⟩,some ⟨30,b9 x2⟩,none,some ⟨156,[pS y5,.lit 1 (aY (v23)),pB false,pB (decide (d3.below 3=0)),gC ([(aG.mk eV ([]) x10 true ([]) (aM.mk 0 s_ s_ 0 (aA.mk 0 s_ ([])) ([]) ([]))),(aG.mk fM ([x2]:List aA) x10 true ([eQ,r7]:LB) x21)]:List aG)]⟩,none],[]⟩⟩) (by simp [aG.trs_map,aG.tr_cs]) rfl iX (by simp [aG.cs]) (Nat.le_of_ble_eq_true rfl) ⟨⟨rfl,dY,rfl⟩,⟨⟨rfl,dY,rfl⟩,⟨⟨rfl,dY,rfl⟩,⟨⟨rfl,dY,rfl⟩,trivial⟩⟩⟩⟩ rfl rfl (eP hC (lE rfl) (Nat.le_of_ble_eq_true rfl)) (by repeat' first|exact trivial|refine⟨⟨_,rfl,dY,rfl⟩,?_⟩)) ?_;refine q1 (b6 [pS y5,.lit 1 (aY (v23)),pB false,pB (decide (d3.below 3=0)),gC ([(aG.mk eV ([]) x10 true ([]) (aM.mk 0 s_ s_ 0 (aA.mk 0 s_ ([])) ([]) ([]))),(aG.mk fM ([x2]:List aA) x10 true ([eQ,r7]:LB) x21)]:List aG)]) ?_;exact gE 2
  have H:=sD H g12
  refine q1 (bD.buildSliceB (cs:= [pS eV,.nil,pI x10.aBw,pS x10.aBs,aU x10.aBt,pB false,.nil,pI 0,pS s_,pS s_,pI 0,pI 0,pS s_,.nil,.nil,.nil]) rfl rfl US.h aqD.h rfl rfl rfl (by decide) rfl (by decide)) ?_;refine gQ 8 ?_;refine fZ H fun d37 h38 H=>?_
  have g39:=g11
  rw [← h38] at g39
  refine q1 (fD [0] [] func45 (FF h38 (m8 d7 2))) (qN (UP g12 ?_))
  refine gQ 2 ?_;refine nW (σ:=(LB)) (fun v40=>⟨[(0,.ptr 0 0),(2,.ptr 1 0),(4,.ptr 4 0)],⟨[some ⟨133,dC (d37.after 3)⟩,some ⟨156,[pS s_,.nil,pB false,pB false,.nil]⟩,some ⟨30,b9 x2⟩,some ⟨237,[pS eV,.nil,pI x10.aBw,pS x10.aBs,aU x10.aBt,pB false,.nil,pI 0,pS s_,pS s_,pI 0,pI 0,pS s_,.nil,.nil,.nil]⟩,some ⟨156,[pS y5,.lit 1 (aY (v40)),pB false,pB (decide (d3.below 3=0)),.bsl 3 1]⟩],[]⟩⟩) (eJ H) (fun H=>?_) ?_
  ·refine gQ 3 ?_;refine fZ H fun d41 h42 H=>?_
   have g43:=g39
   rw [← h42] at g43
   refine q1 (fD [0] [] func45 (FF h42 (m8 d37 3))) (qN ?_)
   refine bF H (fun h44 H=>?_) (fun h44 H=>?_)
   ·refine qR (q1 (vD ([eM]:LB)) ?_)
    refine gQ 3 ?_
    subst h42
    exact gE 0
   refine cO.skip ?_
   subst h42
   exact gE 0
  rintro v40 H
  refine gQ 4 ?_;refine fZ H fun d45 h46 H=>(q1 (fD [0] [] func73 (FF h46 (fK (d37.after 3) 12))) ?_)
  refine gQ 7 ?_;refine UP (akF (b:=0) g39 (by decide) (by decide)) ?_;refine gQ 5 ?_;refine UP (akF (b:=1) g39 (by decide) (by decide)) ?_;refine gQ 5 ?_;refine bF H (fun h47 H=>?_) (fun h47 H=>?_)
  ·refine fZ H fun d48 h49 H=>(fZ H fun y50 h51 H=>(bM H fun x53 z52 H=>(dW (dI [4] bZ (dB [52] 0 1 sM (dI [0] bH (dI [] (vD ([jZ,B5]:LB)) (dE [54,55] (fD [0] [] func48 (ND h49 h51 (fL d45 ([jZ,B5]:LB) (by decide)))) (dI [56] (bI func137 (lP (kZ fu) y50 _ z52)) (dI [53] (bD.indexB (sz:=16) (k:=3) (N:=1) (i:=0) rfl rfl rfl rfl (by decide) US.h) (dI [58] bZ (iY [59,57] hM (dN ?_)))))))))))))
   refine gQ 2 ?_;refine AL.weak (Wk.freezeE (k:=3) (sz:=16) (es:= [aG.cs (aG.mk eV [] x53 false [] (aM.mk 0 s_ s_ 0 (aA.mk 0 s_ []) [] []))]) (es':=aG.trs (([(aG.mk eV [] x53 false [] (aM.mk 0 s_ s_ 0 (aA.mk 0 s_ []) [] []))]:List aG))) (s':=⟨[(0,.ptr 0 0),(2,.ptr 1 0),(4,.ptr 4 0),(40,pN ((d37.after 3).below 12))],⟨[some ⟨133,dC d48⟩,some ⟨156,[pS s_,.nil,pB false,pB false,.nil]⟩,some ⟨30,b9 x2⟩,none,some ⟨156,[pS y5,.lit 1 (aY (v40)),pB false,pB (decide (d3.below 3=0)),gC ([(aG.mk eV [] x53 false [] (aM.mk 0 s_ s_ 0 (aA.mk 0 s_ []) [] []))]:List aG)]⟩],[]⟩⟩) (by simp [aG.trs_map,aG.tr_cs]) rfl iX (by simp [aG.cs]) (Nat.le_of_ble_eq_true rfl) ⟨⟨rfl,dY,rfl⟩,⟨⟨rfl,dY,rfl⟩,⟨⟨rfl,dY,rfl⟩,⟨⟨rfl,dY,rfl⟩,trivial⟩⟩⟩⟩ rfl rfl (eP hC (lE rfl) (Nat.le_of_ble_eq_true rfl)) (by repeat' first|exact trivial|refine⟨⟨_,rfl,dY,rfl⟩,?_⟩)) ?_;refine q1 (b6 [pS y5,.lit 1 (aY (v40)),pB false,pB (decide (d3.below 3=0)),gC ([(aG.mk eV [] x53 false [] (aM.mk 0 s_ s_ 0 (aA.mk 0 s_ []) [] []))]:List aG)]) ?_;exact gE 2
  refine gQ 5 ?_;refine ahV (ap9 g39 h47) ?_;refine gQ 3 ?_;refine q1 (bD.indexB (sz:=16) (k:=3) (N:=1) (i:=0) rfl rfl rfl rfl (by decide) US.h) ?_;refine gQ 5 ?_;refine AL.weak (Wk.freezeE (k:=3) (sz:=16) (es:= [aG.cs (aG.mk eV [] x10 true [] (aM.mk 0 s_ s_ 0 (aA.mk 0 s_ []) [] []))]) (es':=aG.trs (([(aG.mk eV [] x10 true [] (aM.mk 0 s_ s_ 0 (aA.mk 0 s_ []) [] []))]:List aG))) (s':=⟨[(0,.ptr 0 0),(2,.ptr 1 0),(4,.ptr 4 0),(40,pN ((d37.after 3).below 12))],⟨[some ⟨133,dC d45⟩,some ⟨156,[pS s_,.nil,pB false,pB false,.nil]⟩,some ⟨30,b9 x2⟩,none,some ⟨156,[pS y5,.lit 1 (aY (v40)),pB false,pB (decide (d3.below 3=0)),gC ([(aG.mk eV [] x10 true [] (aM.mk 0 s_ s_ 0 (aA.mk 0 s_ []) [] []))]:List aG)]⟩],[]⟩⟩) (by simp [aG.trs_map,aG.tr_cs]) rfl iX (by simp [aG.cs]) (Nat.le_of_ble_eq_true rfl) ⟨⟨rfl,dY,rfl⟩,⟨⟨rfl,dY,rfl⟩,⟨⟨rfl,dY,rfl⟩,⟨⟨rfl,dY,rfl⟩,trivial⟩⟩⟩⟩ rfl rfl (eP hC (lE rfl) (Nat.le_of_ble_eq_true rfl)) (by repeat' first|exact trivial|refine⟨⟨_,rfl,dY,rfl⟩,?_⟩)) ?_;refine q1 (b6 [pS y5,.lit 1 (aY (v40)),pB false,pB (decide (d3.below 3=0)),gC ([(aG.mk eV [] x10 true [] (aM.mk 0 s_ s_ 0 (aA.mk 0 s_ []) [] []))]:List aG)]) ?_;exact gE 2
 have H:=sD H g11
 refine q1 (nU ([(aG.mk eV [] x10 false [] (aM.mk 0 s_ s_ 0 (aA.mk 0 s_ []) [] []))]:List aG)) ?_;refine gQ 5 ?_;refine nW (σ:=(List aG)) (fun v55=>⟨[(0,.ptr 0 0),(2,.ptr 1 0),(4,.ptr 3 0)],⟨[some ⟨133,dC (d7.after 2)⟩,some ⟨156,[pS s_,.nil,pB false,pB false,.nil]⟩,some ⟨30,b9 x2⟩,some ⟨156,[pS y5,.nil,pB false,pB (decide (d3.below 3=0)),lS v55 0]⟩],[⟨237,16,aG.trs (v55),false⟩]⟩⟩) (eJ H) (fun H=>?_) ?_
 ·refine gQ 3 ?_;refine fZ H fun d56 h57 H=>?_
  have g58:=g11
  rw [← h57] at g58
  refine q1 (fD [0] [] func45 (FF h57 (m8 d7 2))) (qN ?_)
  refine bF H (fun h59 H=>?_) (fun h59 H=>?_)
  ·refine bM H fun x61 z60 H=>(bM H fun x63 z62 H=>(bM H fun x65 z64 H=>(cA H fun z66 H=>(dW (dI [4] bZ (dD [17] eB (dD [3] (b6 [pI x2.aBw,pS x2.aBs,aU x2.aBt]) (dI [19] (vD ([x2]:List aA)) (dI [] (bI func49 (wT fu _ z9)) (dI [] (vD ([eQ,r7]:LB)) (dI [4] bZ (dD [23] eB (dI [] (bI func191 (A5 fu eQ _ z60)) ?_)))))))))))))
   refine dI [25] (vD ([x61]:List aM)) (dI [24,26] oP (dI [] (bI func192 (wJ fu 1 _ z62)) (dI [27,28] (vD ([(aM.mk 5 y5 eV 0 (aA.mk 0 s_ []) ([x61]:List aM) []),x63]:List aM)) (dI [29] (bI func190 (wK fu 10 BF ([(aM.mk 5 y5 eV 0 (aA.mk 0 s_ []) ([x61]:List aM) []),x63]:List aM) _ z64)) (dI [20,21,22,30] oP (dI [31] (vD ([(aG.mk fM ([x2]:List aA) x10 true ([eQ,r7]:LB) x65)]:List aG)) (dE [18,32] (jO z66) (dI [4] bZ (iY [34,33] hM (dN ?_))))))))))
   subst h57
   exact gE 0
  refine cO.skip ?_
  subst h57
  exact gE 0
 rintro v55 H
 refine qS ?_;refine nW (σ:=(LB)) (fun v67=>⟨[(0,.ptr 0 0),(2,.ptr 1 0),(4,.ptr 3 0)],⟨[some ⟨133,dC ((d7.after 2).after 3)⟩,some ⟨156,[pS s_,.nil,pB false,pB false,.nil]⟩,some ⟨30,b9 x2⟩,some ⟨156,[pS y5,.lit 1 (aY (v67)),pB false,pB (decide (d3.below 3=0)),lS v55 0]⟩],[⟨237,16,aG.trs (v55),false⟩]⟩⟩) (eJ H) (fun H=>?_) ?_
 ·refine gQ 3 ?_;refine fZ H fun d68 h69 H=>?_
  have g70:=g11
  rw [← h69] at g70
  refine q1 (fD [0] [] func45 (FF h69 (m8 (d7.after 2) 3))) (qN ?_)
  refine bF H (fun h71 H=>?_) (fun h71 H=>?_)
  ·refine qR (q1 (vD ([eM]:LB)) ?_)
   refine gQ 3 ?_
   subst h69
   exact gE 0
  refine cO.skip ?_
  subst h69
  exact gE 0
 rintro v67 H
 refine gQ 4 ?_;refine fZ H fun d72 h73 H=>(q1 (fD [0] [] func73 (FF h73 (fK ((d7.after 2).after 3) 12))) ?_)
 refine gQ 7 ?_;refine bF H (fun h74 H=>?_) (fun h74 H=>?_)
 ·refine gQ 6 ?_;refine q1 (b6 [pS y5,.lit 1 (aY (v67)),pB true,pB (decide (d3.below 3=0)),lS v55 0]) ?_;exact gE 2
 refine gQ 5 ?_;refine bF H (fun h75 H=>?_) (fun h75 H=>?_)
 ·refine gQ 2 ?_;refine q1 (vD ([s_,eU,s_A]:LB)) (fZ H fun d76 h77 H=>(fZ H fun y78 h79 H=>(q1 (fD [0] [] func48 (ND h77 h79 (fL d72 ([s_,eU,s_A]:LB) (by decide)))) ?_)))
  refine gQ 5 ?_;refine q1 (b6 [pS y78,.lit 1 (aY (v67)),pB false,pB (decide (d3.below 3=0)),lS v55 0]) ?_;exact gE 2
 refine gQ 5 ?_;refine UP (ar5 g11) ?_;refine gQ 5 ?_;refine UP (ar6 g11) ?_;refine gQ 5 ?_;refine bF H (fun h80 H=>?_) (fun h80 H=>?_)
 ·refine gQ 3 ?_;refine q1 (vD ([eM]:LB)) (cA H fun z81 H=>?_)
  refine q1 (bD.appendLit (es1:=aY (v67)) (es2:=aY (([eM]:LB))) (es3:=aY (v67++([eM]:LB))) rfl rfl rfl rfl rfl (rM _) (rM _) (by exact List.cons_ne_nil _ _) (by decide) ahX.h apX.h (by decide) (by rw [b0,b0];exact uW z81 (by decide)) (xA _ _)) ?_;refine gQ 5 ?_;refine q1 (b6 [pS y5,rS (v67++([eM]:LB)),pB false,pB (decide (d3.below 3=0)),lS v55 0]) ?_;exact gE 2
 refine gQ 5 ?_;refine bF H (fun h82 H=>?_) (fun h82 H=>?_)
 ·refine cA H fun z83 H=>(fZ H fun y84 h85 H=>(cA H fun z86 H=>(dW (dI [4] bZ (dD [75] eB (dI [4] bZ (dD [77] eB (dI [78] (xW h85 z83) (dI [79] (gS (aG.cs y84)) (dI [80] (vD ([y84]:List aG)) (dE [76,81] (jO z86) (dI [4] bZ (iY [83,82] hM ?_)))))))))))))
  refine dN ?_;refine gQ 2 ?_;refine q1 (b6 [pS y5,.lit 1 (aY (v67)),pB false,pB (decide (d3.below 3=0)),lS (v55++([y84]:List aG)) 0]) ?_;exact gE 2
 refine gQ 3 ?_;refine q1 (b6 [pS y5,.lit 1 (aY (v67)),pB false,pB (decide (d3.below 3=0)),lS v55 0]) ?_;exact gE 2
def MU(fu:Nat)(pc:DS):Option (aO×DS):=bd (nP fu gF) fun x2=>bd (jH fu cV ([x2]:List aA)) fun x4=>lt (pc.after 10) fun d5=>sw (decide ((pc.below 10:Int)=0)) (lt (d5.after ([gF,B5]:LB).length) fun d8=>lt (d5.pick ([gF,B5]:LB)) fun y10=>gd ((([gF]:LB)).length+(([y10]:LB)).length≤68719476736) (some ((aO.mk cV (([gF]:LB)++([y10]:LB)) ([(aE.mk fX []),(aE.mk cL ([x2,x4]:List aA))]:List aE)),d8))) (sw (decide ((pc.below 10:Int)=1)) (lt (d5.after 2) fun d14=>gd ((0:Int)≤0∧(0:Int)≤(d5.below 2:Int)∧(d5.below 2:Int)≤((([(aE.mk fX []),(aE.mk cL ([x2,x4]:List aA))]:List aE).length:Nat):Int)) (some ((aO.mk cV ([gF]:LB) (List.drop (0:Int).toNat (List.take (d5.below 2:Int).toNat ([(aE.mk fX []),(aE.mk cL ([x2,x4]:List aA))]:List aE)))),d14))) (sw (decide ((pc.below 10:Int)=2)) (bd (uA fu d5 2) fun(x19,x20)=>some ((aO.mk cV ([gF]:LB) ([(aE.mk fX ([x19]:List aA)),(aE.mk cL ([x2,x4]:List aA))]:List aE)),x20)) (sw (decide ((pc.below 10:Int)=3)) (lt (d5.after ([cL,s_,WM]:LB).length) fun d22=>lt (d5.pick ([cL,s_,WM]:LB)) fun y24=>some ((aO.mk cV ([gF]:LB) ([(aE.mk y24 []),(aE.mk cL ([x2,x4]:List aA))]:List aE)),d22)) (some ((aO.mk cV ([gF]:LB) ([(aE.mk fX []),(aE.mk cL ([x2,x4]:List aA))]:List aE)),d5)))))
theorem agA(fu:Nat)(pc:DS)(r:aO×DS)(H:MU fu pc=some r):cB Tryz.prog 164 [.ptr 0 0] ⟨[some ⟨133,dC pc⟩],[]⟩ (fun q t=>q=((aO.pv r.1))∧t=⟨[some ⟨133,dC r.2⟩],[]⟩):=by
 refine qJ func164 H (fun C hC H=>?_)
 refine gQ 6 ?_;refine q1 (vD ([gF]:LB)) (q1 oP (bM H fun x2 z1 H=>?_))
 iterate 2 refine q1 (bI func137 (lP (kZ fu) gF _ z1)) ?_
 refine q1 (vD ([x2]:List aA)) (bM H fun x4 z3 H=>(q1 (bI func47 (t8 (iM fu) cV ([x2]:List aA) _ z3)) (q1 (vD ([x2,x4]:List aA)) (q1 oP (q1 (bD.buildSliceB (cs:= [pS fX,.nil,pS cL,.lit 3 (aA.trs (([x2,x4]:List aA)))]) rfl rfl ao3.h avM.h rfl rfl rfl (by decide) rfl (by decide)) ?_)))))
 refine gQ 8 ?_;refine fZ H fun d5 h6 H=>(q1 (fD [0] [] func73 (FF h6 (fK pc 10))) ?_)
 refine gQ 7 ?_;refine bF H (fun h7 H=>?_) (fun h7 H=>?_)
 ·refine fZ H fun d8 h9 H=>(fZ H fun y10 h11 H=>(cA H fun z12 H=>(dW (dI [3] bZ (dB [18] 0 1 sM (dI [0] bH (dI [] (vD ([gF,B5]:LB)) (dE [20,21] (fD [0] [] func48 (ND h9 h11 (fL d5 ([gF,B5]:LB) (by decide)))) (dI [22] (vD ([y10]:LB)) ?_)))))))))
  refine dI [19,23] (bD.appendLit (es1:=aY (([gF]:LB))) (es2:=aY (([y10]:LB))) (es3:=aY (([gF]:LB)++([y10]:LB))) rfl rfl rfl rfl rfl (rM _) (rM _) (by exact List.cons_ne_nil _ _) (by decide) ahX.h apX.h (by decide) (by rw [b0,b0];exact uW z12 (by decide)) (xA _ _)) ?_;refine dI [3] bZ (iY [25,24] hM (dN ?_))
  refine gQ 2 ?_;refine AL.weak (Wk.freezeE (k:=2) (sz:=2) (es:= [aE.cs (aE.mk fX []),aE.cs (aE.mk cL ([x2,x4]:List aA))]) (es':=aE.trs (([(aE.mk fX []),(aE.mk cL ([x2,x4]:List aA))]:List aE))) (s':=⟨[(0,.ptr 0 0),(2,.ptr 1 0),(3,.ptr 3 0),(15,pN (pc.below 10))],⟨[some ⟨133,dC d8⟩,some ⟨39,[pS s_,.nil,.nil]⟩,none,some ⟨39,[pS cV,rS (([gF]:LB)++([y10]:LB)),dF ([(aE.mk fX []),(aE.mk cL ([x2,x4]:List aA))]:List aE)]⟩],[]⟩⟩) (by simp [aE.trs_map,aE.tr_cs]) rfl iX (by simp [aE.cs]) (Nat.le_of_ble_eq_true rfl) ⟨⟨rfl,dY,rfl⟩,⟨⟨rfl,dY,rfl⟩,⟨⟨rfl,dY,rfl⟩,trivial⟩⟩⟩ rfl rfl (eP hC (lE rfl) (Nat.le_of_ble_eq_true rfl)) (by repeat' first|exact trivial|refine⟨⟨_,rfl,dY,rfl⟩,?_⟩)) ?_;refine q1 (b6 [pS cV,rS (([gF]:LB)++([y10]:LB)),dF ([(aE.mk fX []),(aE.mk cL ([x2,x4]:List aA))]:List aE)]) ?_;exact gE 2
 refine gQ 5 ?_;refine bF H (fun h13 H=>?_) (fun h13 H=>?_)
 ·refine fZ H fun d14 h15 H=>?_;refine cO.wk (Wk.freezeE (k:=2) (sz:=2) (es:= [aE.cs (aE.mk fX []),aE.cs (aE.mk cL ([x2,x4]:List aA))]) (es':=aE.trs (([(aE.mk fX []),(aE.mk cL ([x2,x4]:List aA))]:List aE))) (s':=⟨[(0,.ptr 0 0),(2,.ptr 1 0),(3,.ptr 3 0),(4,.lit 1 (aY (([gF]:LB)))),(5,.agg [pS fX,.nil]),(6,(aA.pv x2)),(7,(aA.pv x2)),(8,.lit 3 (aA.trs (([x2]:List aA)))),(9,(aA.pv x4)),(10,.lit 3 (aA.trs (([x2,x4]:List aA)))),(11,.agg [pS cL,.lit 3 (aA.trs (([x2,x4]:List aA)))]),(12,dF ([(aE.mk fX []),(aE.mk cL ([x2,x4]:List aA))]:List aE)),(13,.agg [pS cV,.lit 1 (aY (([gF]:LB))),dF ([(aE.mk fX []),(aE.mk cL ([x2,x4]:List aA))]:List aE)]),(14,.ptr 0 0),(15,pN (pc.below 10)),(16,pB (decide ((pc.below 10:Int)=0))),(17,pB (decide ((pc.below 10:Int)=0))),(26,pB (decide ((pc.below 10:Int)=1))),(27,pB (decide ((pc.below 10:Int)=1)))],⟨[some ⟨133,dC d5⟩,some ⟨39,[pS s_,.nil,.nil]⟩,none,some ⟨39,[pS cV,.lit 1 (aY (([gF]:LB))),dF ([(aE.mk fX []),(aE.mk cL ([x2,x4]:List aA))]:List aE)]⟩],[]⟩⟩) (by simp [aE.trs_map,aE.tr_cs]) rfl iX (by simp [aE.cs]) (Nat.le_of_ble_eq_true rfl) ⟨⟨rfl,dY,rfl⟩,⟨⟨rfl,dY,rfl⟩,⟨⟨rfl,dY,rfl⟩,trivial⟩⟩⟩ rfl rfl (eP hC (lE rfl) (Nat.le_of_ble_eq_true rfl)) (by repeat' first|exact trivial|refine⟨⟨_,rfl,dY,rfl⟩,?_⟩)) ?_;refine cA H fun z16 H=>(dW (dI [3] bZ (dB [28] 0 1 sM (dI [0] bH (dE [30] (fD [0] [] func73 (FF h15 (fK d5 2))) ?_)))))
  refine dI [29,31] (bD.congrP (bD.sliceR (es:=aE.trs (([(aE.mk fX []),(aE.mk cL ([x2,x4]:List aA))]:List aE))) (l:=0) (k:=(d5.below 2:Int)) rfl rfl rfl rfl rfl (by rw [aE.trs_len];exact rfl) (by rw [aE.trs_len];exact z16) ao3.h) (aE.trs_part _ _ _)) ?_;refine dI [3] bZ (iY [33,32] hM (dN ?_))
  refine gQ 2 ?_;refine q1 (b6 [pS cV,.lit 1 (aY (([gF]:LB))),dF (List.drop (0:Int).toNat (List.take (d5.below 2:Int).toNat ([(aE.mk fX []),(aE.mk cL ([x2,x4]:List aA))]:List aE)))]) ?_;exact gE 2
 refine gQ 5 ?_;refine bF H (fun h17 H=>?_) (fun h17 H=>?_)
 ·refine eF H fun x19 x20 z18 H=>(dW (dI [3] bZ (dB [36] 0 1 sM (dI [0] bH (dE [38] (fD [0] [] func132 (wS (wR fu) d5 2 _ z18)) (dI [39] (vD ([x19]:List aA)) (dI [37] (bD.indexB (sz:=2) (k:=2) (N:=2) (i:=0) rfl rfl rfl rfl (by decide) ao3.h) (dI [41] bZ (iY [42,40] hM (dN ?_))))))))))
  refine gQ 2 ?_;refine AL.weak (Wk.freezeE (k:=2) (sz:=2) (es:= [aE.cs (aE.mk fX ([x19]:List aA)),aE.cs (aE.mk cL ([x2,x4]:List aA))]) (es':=aE.trs (([(aE.mk fX ([x19]:List aA)),(aE.mk cL ([x2,x4]:List aA))]:List aE))) (s':=⟨[(0,.ptr 0 0),(2,.ptr 1 0),(3,.ptr 3 0),(15,pN (pc.below 10))],⟨[some ⟨133,dC x20⟩,some ⟨39,[pS s_,.nil,.nil]⟩,none,some ⟨39,[pS cV,.lit 1 (aY (([gF]:LB))),dF ([(aE.mk fX ([x19]:List aA)),(aE.mk cL ([x2,x4]:List aA))]:List aE)]⟩],[]⟩⟩) (by simp [aE.trs_map,aE.tr_cs]) rfl iX (by simp [aE.cs]) (Nat.le_of_ble_eq_true rfl) ⟨⟨rfl,dY,rfl⟩,⟨⟨rfl,dY,rfl⟩,⟨⟨rfl,dY,rfl⟩,trivial⟩⟩⟩ rfl rfl (eP hC (lE rfl) (Nat.le_of_ble_eq_true rfl)) (by repeat' first|exact trivial|refine⟨⟨_,rfl,dY,rfl⟩,?_⟩)) ?_;refine q1 (b6 [pS cV,.lit 1 (aY (([gF]:LB))),dF ([(aE.mk fX ([x19]:List aA)),(aE.mk cL ([x2,x4]:List aA))]:List aE)]) ?_;exact gE 2
 refine gQ 5 ?_;refine bF H (fun h21 H=>?_) (fun h21 H=>?_)
 ·refine fZ H fun d22 h23 H=>(fZ H fun y24 h25 H=>(dW (dI [3] bZ (dB [45] 0 1 sM (dI [0] bH (dI [] (vD ([cL,s_,WM]:LB)) (dE [47,48] (fD [0] [] func48 (ND h23 h25 (fL d5 ([cL,s_,WM]:LB) (by decide)))) (dI [46] (bD.indexB (sz:=2) (k:=2) (N:=2) (i:=0) rfl rfl rfl rfl (by decide) ao3.h) (dI [50] bZ (iY [51,49] hM (dN ?_)))))))))))
  refine gQ 2 ?_;refine AL.weak (Wk.freezeE (k:=2) (sz:=2) (es:= [aE.cs (aE.mk y24 []),aE.cs (aE.mk cL ([x2,x4]:List aA))]) (es':=aE.trs (([(aE.mk y24 []),(aE.mk cL ([x2,x4]:List aA))]:List aE))) (s':=⟨[(0,.ptr 0 0),(2,.ptr 1 0),(3,.ptr 3 0),(15,pN (pc.below 10))],⟨[some ⟨133,dC d22⟩,some ⟨39,[pS s_,.nil,.nil]⟩,none,some ⟨39,[pS cV,.lit 1 (aY (([gF]:LB))),dF ([(aE.mk y24 []),(aE.mk cL ([x2,x4]:List aA))]:List aE)]⟩],[]⟩⟩) (by simp [aE.trs_map,aE.tr_cs]) rfl iX (by simp [aE.cs]) (Nat.le_of_ble_eq_true rfl) ⟨⟨rfl,dY,rfl⟩,⟨⟨rfl,dY,rfl⟩,⟨⟨rfl,dY,rfl⟩,trivial⟩⟩⟩ rfl rfl (eP hC (lE rfl) (Nat.le_of_ble_eq_true rfl)) (by repeat' first|exact trivial|refine⟨⟨_,rfl,dY,rfl⟩,?_⟩)) ?_;refine q1 (b6 [pS cV,.lit 1 (aY (([gF]:LB))),dF ([(aE.mk y24 []),(aE.mk cL ([x2,x4]:List aA))]:List aE)]) ?_;exact gE 2
 refine gQ 3 ?_;refine AL.weak (Wk.freezeE (k:=2) (sz:=2) (es:= [aE.cs (aE.mk fX []),aE.cs (aE.mk cL ([x2,x4]:List aA))]) (es':=aE.trs (([(aE.mk fX []),(aE.mk cL ([x2,x4]:List aA))]:List aE))) (s':=⟨[(0,.ptr 0 0),(2,.ptr 1 0),(3,.ptr 3 0),(15,pN (pc.below 10))],⟨[some ⟨133,dC d5⟩,some ⟨39,[pS s_,.nil,.nil]⟩,none,some ⟨39,[pS cV,.lit 1 (aY (([gF]:LB))),dF ([(aE.mk fX []),(aE.mk cL ([x2,x4]:List aA))]:List aE)]⟩],[]⟩⟩) (by simp [aE.trs_map,aE.tr_cs]) rfl iX (by simp [aE.cs]) (Nat.le_of_ble_eq_true rfl) ⟨⟨rfl,dY,rfl⟩,⟨⟨rfl,dY,rfl⟩,⟨⟨rfl,dY,rfl⟩,trivial⟩⟩⟩ rfl rfl (eP hC (lE rfl) (Nat.le_of_ble_eq_true rfl)) (by repeat' first|exact trivial|refine⟨⟨_,rfl,dY,rfl⟩,?_⟩)) ?_;refine q1 (b6 [pS cV,.lit 1 (aY (([gF]:LB))),dF ([(aE.mk fX []),(aE.mk cL ([x2,x4]:List aA))]:List aE)]) ?_;exact gE 2
end
end Go.Proofs.YtfcoaagbccmahaaGreat.W

namespace Go.Proofs.YtfcoaagbccmahaaGreat.W
set_option maxRecDepth 100000
set_option maxHeartbeats 40000000
noncomputable section
open Tryz Go.RowKit Go.Proofs
attribute [local irreducible] lt
def ai7(fu:Nat)(p0 d1:DS):Nat→((List aV)×(List aO)×(List aL)×(List aP)×DS)→Option (LR ((List aV)×(List aO)×(List aL)×(List aP)×DS) (aN×DS)):=fun i3 (v9,v10,v11,v12,v4)=>lt (v4.after 4) fun d15=>sw (decide ((v4.below 4:Int)=0)) (bd (IH fu d15) fun(x19,x20)=>gd ((v9).length+(([x19]:List aV)).length≤68719476736) (some (.next ((v9++([x19]:List aV)),v10,v11,v12,x20)))) (sw (decide ((v4.below 4:Int)=1)) (bd (MU fu d15) fun(x24,x25)=>gd ((v10).length+(([x24]:List aO)).length≤68719476736) (some (.next (v9,(v10++([x24]:List aO)),v11,v12,x25)))) (sw (decide ((v4.below 4:Int)=2)) (bd (MV fu d15) fun(x29,x30)=>gd ((v11).length+(([x29]:List aL)).length≤68719476736) (some (.next (v9,v10,(v11++([x29]:List aL)),v12,x30)))) (bd (WR fu d15) fun(x33,x34)=>gd ((v12).length+(([x33]:List aP)).length≤68719476736) (some (.next (v9,v10,v11,(v12++([x33]:List aP)),x34))))))
def RO(fu:Nat)(p0:DS):Option (aN×DS):=lt (p0.after 5) fun d1=>so (loopN (ai7 fu p0 d1) (p0.below 5-0) 0 (([]),([]),([]),([]),d1)) fun(v9,v10,v11,v12,v4)=>lt (v4.after 10) fun d36=>sw (decide ((v4.below 10:Int)=0)) (lt (d36.after ([s_,gG]:LB).length) fun d39=>lt (d36.pick ([s_,gG]:LB)) fun y41=>some ((aN.mk y41 ([gG]:LB) v9 v10 v11 v12),d39)) (sw (decide ((v4.below 10:Int)=1)) (lt (d36.after ([gG,s_q,s_p]:LB).length) fun d44=>lt (d36.pick ([gG,s_q,s_p]:LB)) fun y46=>gd ((([gG]:LB)).length+(([y46]:LB)).length≤68719476736) (some ((aN.mk s_p (([gG]:LB)++([y46]:LB)) v9 v10 v11 v12),d44))) (some ((aN.mk s_p ([gG]:LB) v9 v10 v11 v12),d36)))
theorem ai8(fu:Nat)(p0:DS)(r:aN×DS)(H:RO fu p0=some r):cB Tryz.prog 127 [.ptr 0 0] ⟨[some ⟨133,dC p0⟩],[]⟩ (fun q t=>q=((aN.pv r.1))∧t=⟨[some ⟨133,dC r.2⟩],[]⟩):=by
 refine qJ func127 H (fun C hC H=>?_)
 refine gQ 6 ?_;refine q1 (vD ([gG]:LB)) ?_;refine gQ 7 ?_;refine fZ H fun d1 h2 H=>(q1 (fD [0] [] func73 (FF h2 (fK p0 5))) ?_)
 refine gQ 7 ?_;refine cO.wk (Wk.regBox (k:=2) (j:=2) 156 5 (by decide) rfl rfl) (cO.wk (Wk.regBox (k:=2) (j:=3) 39 3 (by decide) rfl rfl) (cO.wk (Wk.regBox (k:=2) (j:=4) 163 12 (by decide) rfl rfl) (cO.wk (Wk.regBox (k:=2) (j:=5) 213 16 (by decide) rfl rfl) ?_)))
 have hb13:=DS.below_lt (d:=p0) (n:=5) (by decide)
 refine bU (σ:=(List aV)×(List aO)×(List aL)×(List aP)×DS) (fun i3 (v9,v10,v11,v12,v4)=>⟨[(0,.ptr 0 0),(2,.ptr 1 0),(3,.ptr 2 0),(4,pN (p0.below 5)),(5,pN i3)],⟨[some ⟨133,dC v4⟩,some ⟨141,[pS s_,.nil,.nil,.nil,.nil,.nil]⟩,some ⟨141,[pS s_p,.lit 1 (aY (([gG]:LB))),AC v9 0,nA v10 1,nC v11 2,nB v12 3]⟩],[⟨156,5,aV.trs (v9),false⟩,⟨39,3,aO.trs (v10),false⟩,⟨163,12,aL.trs (v11),false⟩,⟨213,16,aP.trs (v12),false⟩]⟩⟩) (fun(v9,v10,v11,v12,v4)=>⟨[(0,.ptr 0 0),(2,.ptr 1 0),(3,.ptr 2 0)],⟨[some ⟨133,dC v4⟩,some ⟨141,[pS s_,.nil,.nil,.nil,.nil,.nil]⟩,some ⟨141,[pS s_p,.lit 1 (aY (([gG]:LB))),AC v9 0,nA v10 1,nC v11 2,nB v12 3]⟩],[⟨156,5,aV.trs (v9),false⟩,⟨39,3,aO.trs (v10),false⟩,⟨163,12,aL.trs (v11),false⟩,⟨213,16,aP.trs (v12),false⟩]⟩⟩) (eJ H) ?_ ?_
 ·rintro i3 ⟨v9,v10,v11,v12,v4⟩ H
  refine gQ 7 ?_;refine cT H (fun h14 h14l H=>?_) (fun h14 H=>?_)
  ·have h14n:i3<p0.below 5:=by have:=of_decide_eq_true h14;omega
   refine gQ 6 ?_;refine fZ H fun d15 h16 H=>(q1 (fD [0] [] func73 (FF h16 (fK v4 4))) ?_)
   refine gQ 7 ?_;refine bF H (fun h17 H=>?_) (fun h17 H=>?_)
   ·refine eF H fun x19 x20 z18 H=>(cA H fun z21 H=>(dW (dI [3] bZ (dB [26] 0 1 sM (dI [0] bH (dE [28] (fD [0] [] func163 (acE fu d15 _ z18)) (dI [29] (vD ([x19]:List aV)) (dE [27,30] (jO z21) (dI [3] bZ (iY [32,31] hM (dN ?_)))))))))))
    exact gE 5
   refine gQ 5 ?_;refine bF H (fun h22 H=>?_) (fun h22 H=>?_)
   ·refine eF H fun x24 x25 z23 H=>(cA H fun z26 H=>(dW (dI [3] bZ (dB [35] 0 1 sM (dI [0] bH (dE [37] (fD [0] [] func164 (agA fu d15 _ z23)) (dI [38] (vD ([x24]:List aO)) (dE [36,39] (jO z26) (dI [3] bZ (iY [41,40] hM (dN ?_)))))))))))
    exact gE 5
   refine gQ 5 ?_;refine bF H (fun h27 H=>?_) (fun h27 H=>?_)
   ·refine eF H fun x29 x30 z28 H=>(cA H fun z31 H=>(dW (dI [3] bZ (dB [44] 0 1 sM (dI [0] bH (dE [46] (fD [0] [] func165 (agD fu d15 _ z28)) (dI [47] (vD ([x29]:List aL)) (dE [45,48] (jO z31) (dI [3] bZ (iY [50,49] hM (dN ?_)))))))))))
    exact gE 5
   refine eF H fun x33 x34 z32 H=>(cA H fun z35 H=>(dW (dI [3] bZ (dB [17] 0 1 sM (dI [0] bH (dE [19] (fD [0] [] func166 (amL fu d15 _ z32)) (dI [20] (vD ([x33]:List aP)) (dE [18,21] (jO z35) (dI [3] bZ (iY [23,22] hM (dN ?_)))))))))))
   exact gE 5
  exact gE 0
 rintro⟨v9,v10,v11,v12,v4⟩ H
 refine gQ 4 ?_;refine fZ H fun d36 h37 H=>(q1 (fD [0] [] func73 (FF h37 (fK v4 10))) ?_)
 refine gQ 7 ?_;refine bF H (fun h38 H=>?_) (fun h38 H=>?_)
 ·refine gQ 2 ?_;refine q1 (vD ([s_,gG]:LB)) (fZ H fun d39 h40 H=>(fZ H fun y41 h42 H=>(q1 (fD [0] [] func48 (ND h40 h42 (fL d36 ([s_,gG]:LB) (by decide)))) ?_)))
  refine gQ 5 ?_;refine q1 (b6 [pS y41,.lit 1 (aY (([gG]:LB))),AC v9 0,nA v10 1,nC v11 2,nB v12 3]) ?_;exact gE 2
 refine gQ 5 ?_;refine bF H (fun h43 H=>?_) (fun h43 H=>?_)
 ·refine fZ H fun d44 h45 H=>(fZ H fun y46 h47 H=>(cA H fun z48 H=>(dW (dI [3] bZ (dB [61] 0 1 sM (dI [0] bH (dI [] (vD ([gG,s_q,s_p]:LB)) (dE [63,64] (fD [0] [] func48 (ND h45 h47 (fL d36 ([gG,s_q,s_p]:LB) (by decide)))) (dI [65] (vD ([y46]:LB)) ?_)))))))))
  refine dI [62,66] (bD.appendLit (es1:=aY (([gG]:LB))) (es2:=aY (([y46]:LB))) (es3:=aY (([gG]:LB)++([y46]:LB))) rfl rfl rfl rfl rfl (rM _) (rM _) (by exact List.cons_ne_nil _ _) (by decide) ahX.h apX.h (by decide) (by rw [b0,b0];exact uW z48 (by decide)) (xA _ _)) ?_;refine dI [3] bZ (iY [68,67] hM (dN ?_))
  refine gQ 2 ?_;refine q1 (b6 [pS s_p,rS (([gG]:LB)++([y46]:LB)),AC v9 0,nA v10 1,nC v11 2,nB v12 3]) ?_;exact gE 2
 refine gQ 3 ?_;refine q1 (b6 [pS s_p,.lit 1 (aY (([gG]:LB))),AC v9 0,nA v10 1,nC v11 2,nB v12 3]) ?_;exact gE 2
def IL(fu:Nat)(pc:DS):Option (aH×DS):=bd (MZ fu pc) fun(x2,x3)=>lt (x3.after 5) fun d4=>sw (decide (x3.below 5=0)) (bd (RO fu d4) fun(x8,x9)=>gd ((x2.aBr).length+(([x8]:List aN)).length≤68719476736) (some ((aH.mk (x2.aBr++([x8]:List aN))),x9))) (some ((aH.mk x2.aBr),d4))
theorem acU(fu:Nat)(pc:DS)(r:aH×DS)(H:IL fu pc=some r):cB Tryz.prog 69 [.ptr 0 0] ⟨[some ⟨133,dC pc⟩],[]⟩ (fun q t=>q=((aH.pv r.1))∧t=⟨[some ⟨133,dC r.2⟩],[]⟩):=by
 refine qJ func69 H (fun C hC H=>?_)
 refine gQ 7 ?_;refine eF H fun x2 x3 z1 H=>(q1 (bD.callOwn (pre:=⟨[some ⟨133,dC pc⟩],[]⟩) (B:= [some ⟨133,dC x3⟩]) (R:=fun k=> .agg [sO x2.aBr k]) (ps:= [_]) (qs:= [.ptr 0 0]) [0] rfl rfl func126 (by kernel_rfl) rfl rfl rfl (eH.of ⟨⟨_,rfl,rfl,iX,rfl⟩,trivial⟩ trivial (by decide) (by decide)) rfl iX rfl rfl rfl (fun k k'=>(.agg (.cons Mv.acc GB.nil))) (agI fu pc _ z1)) ?_)
 refine gQ 7 ?_;refine fZ H fun d4 h5 H=>(q1 (fD [0] [] func45 (FF h5 (m8 x3 5))) (qN ?_))
 refine bF H (fun h6 H=>?_) (fun h6 H=>?_)
 ·refine eF H fun x8 x9 z7 H=>(cA H fun z10 H=>(dW (dI [3] bZ (dB [8] 0 1 sM (dI [0] bH (dE [10] (fD [0] [] func127 (ai8 fu d4 _ z7)) (dI [11] (fY ([x8]:List aN)) (dE [9,12] (jO z10) (dI [3] bZ (iY [14,13] hM (dN ?_)))))))))))
  refine gQ 2 ?_;refine q1 (b6 [sO (x2.aBr++([x8]:List aN)) 0]) ?_;exact gE 2
 refine gQ 3 ?_;refine q1 (b6 [sO x2.aBr 0]) ?_;exact gE 2
end
end Go.Proofs.YtfcoaagbccmahaaGreat.W

namespace Go.Proofs.YtfcoaagbccmahaaGreat.W
open Go.RowKit Go.WalkArith Go.IntWalk
def bT:Nat→Nat
 |0=>1000
 |n+1=>2*bT n+20
theorem akB: ∀n:Nat,1000≤bT n
 |0=>Nat.le_refl _
 |n+1=>by unfold bT;have:=akB n;omega
theorem aoX(x:Int):0<x∧x≤4→bT x.toNat=2*bT (aZ (x-1)).toNat+20:=fun h=>by
 rw [eR (x-1) (by omega)]
 obtain⟨n,rfl⟩: ∃n:Nat,x=((n+1:Nat):Int):=⟨x.toNat-1,by omega⟩
 have e:(((n+1:Nat):Int)-1).toNat=n:=by omega
 rw [e]
 simp only [Int.toNat_natCast]
 rfl
theorem akC(x:Int):x≤4→bT x.toNat≤20000:=fun h=>by
 have:x.toNat=0∨x.toNat=1∨x.toNat=2∨x.toNat=3∨x.toNat=4:=by omega
 rcases this with h|h|h|h|h<;>rw [h]<;>decide
def bX:Nat→Nat
 |0=>3000
 |n+1=>4*bX n+22000
theorem anH: ∀n:Nat,3000≤bX n
 |0=>Nat.le_refl _
 |n+1=>by unfold bX;have:=anH n;omega
theorem aoY(x:Int):0<x∧x≤4→bX x.toNat=4*bX (aZ (x-1)).toNat+22000:=fun h=>by
 rw [eR (x-1) (by omega)]
 obtain⟨n,rfl⟩: ∃n:Nat,x=((n+1:Nat):Int):=⟨x.toNat-1,by omega⟩
 have e:(((n+1:Nat):Int)-1).toNat=n:=by omega
 rw [e]
 simp only [Int.toNat_natCast]
 rfl
theorem ap1(x:Int):x≤3→bX x.toNat≤1000000:=fun h=>by
 have:x.toNat=0∨x.toNat=1∨x.toNat=2∨x.toNat=3:=by omega
 rcases this with h|h|h|h<;>rw [h]<;>decide
theorem aaX:bT (1:Int).toNat=2020:=rfl
theorem aqI:bX (2:Int).toNat=158000:=rfl
theorem ahS:bT (2:Int).toNat=4060:=rfl
end Go.Proofs.YtfcoaagbccmahaaGreat.W

namespace Go.Proofs.YtfcoaagbccmahaaGreat.W
set_option maxRecDepth 20000
set_option maxHeartbeats 4000000
open Go.RowKit Go.WalkArith Go.IntWalk
attribute [local irreducible] wt wl bT bX lt
def aj7(fu:Nat):Prop:= ∀(pc:DS) (p3:LB) (p2:Int),wl p3≤1000∧ -100≤p2∧p2≤4→Ok (sC fu pc p3 p2) (fun r=>wt r.1≤bT p2.toNat)
def aaM(n:Nat)(m:JT):Prop:= ∀(pc:DS) (p3:LB) (p2:Int),p2.toNat<n→wl p3≤1000∧ -100≤p2∧p2≤4→Ok (m pc p3 p2) (fun r=>wt r.1≤bT p2.toNat)
theorem aoA{n fu:Nat}(hfu:2147483648≤fu)(fB:UL fu)(dJ:UK fu){pH:JT}(p8:aaM n pH):aaM (n+1) (ac8 fu pH):=by
 intro pc p3 p2 hm hpre
 have:=akB p2.toNat
 have:=akB (aZ (p2-1)).toNat
 have:=aoX p2
 have:=akC (aZ (p2-1))
 refine Ok.lt fun d1 h1=>?_;refine oC (fun g2=>?_) fun g2=>?_
 ·have:=bB p3
  refine oD (fun g3=>?_) fun g3=>?_
  ·refine Ok.lt fun d5 h4=>?_
   have:=alH d1 p3.length
   have:=bB (p3)
   refine oG fun z5=>?_
   have:=cW p3 (d1.below p3.length) z5
   have:=bA (aT p3 (d1.below p3.length))
   refine oB (fB (aT p3 (d1.below p3.length))) fun x9 h6=>?_
   have:=aA.wt_eq x9
   have:=aA.wt_mk x9.aBw x9.aBs x9.aBt
   exact oS
  refine oC (fun g7=>?_) fun g7=>?_
  ·have:eU.size=3:=rfl
   have:eE.size=4:=rfl
   have:jN.size=4:=rfl
   have:=GM eU eE jN
   have:=bA eU
   have:=bA eE
   have:=bA jN
   refine Ok.lt fun d11 h8=>Ok.lt fun y13 h9=>?_
   have:=congrArg wt h9
   simp only [bA] at this
   have:y13.size≤4:=by rw [h9];exact DS.pick_size _ (by decide) (by decide)
   have:=(aX:wl ([]:List aA)=0∧_)
   refine oB (dJ y13 ([]:List aA) bR) fun x16 h10=>?_
   have:=aA.wt_eq x16
   have:=aA.wt_mk x16.aBw x16.aBs x16.aBt
   exact oS
  refine oD (fun g11=>?_) fun g11=>?_
  ·have:eU.size=3:=rfl
   have:eE.size=4:=rfl
   have:jN.size=4:=rfl
   have:=GM eU eE jN
   have:=bA eU
   have:=bA eE
   have:=bA jN
   refine Ok.lt fun d18 h12=>Ok.lt fun y20 h13=>?_
   have:=congrArg wt h13
   simp only [bA] at this
   have:y20.size≤4:=by rw [h13];exact DS.pick_size _ (by decide) (by decide)
   have:=(aX:wl ([]:List aA)=0∧_)
   refine oB (dJ y20 ([]:List aA) bR) fun x23 h14=>?_
   have:=aA.wt_eq x23
   have:=aA.wt_mk x23.aBw x23.aBs x23.aBt
   exact oS
  refine oC (fun g15=>?_) fun g15=>?_
  ·have:=eR (p2-1)
   refine vH (p8 d1 p3 (aZ (p2-1)) bR bR) fun x26 x27 h16=>?_
   dsimp only at h16
   refine vH (p8 x27 p3 (aZ (p2-1)) bR bR) fun x29 x30 h17=>?_
   dsimp only at h17
   have:u9.size=4:=rfl
   have:=aA.wt_eq x26
   have:=aA.wt_mk x26.aBw x26.aBs x26.aBt
   have:=aA.wt_eq x29
   have:=aA.wt_mk x29.aBw x29.aBs x29.aBt
   have:=k7 (aA.mk x26.aBw x26.aBs x26.aBt) (aA.mk x29.aBw x29.aBs x29.aBt)
   refine oB (dJ u9 ([(aA.mk x26.aBw x26.aBs x26.aBt),(aA.mk x29.aBw x29.aBs x29.aBt)]:List aA) bR) fun x32 h18=>?_
   have:=aA.wt_eq x32
   have:=aA.wt_mk x32.aBw x32.aBs x32.aBt
   exact oS
  have:cV.size=4:=rfl
  have:B6.size=3:=rfl
  have:=GM cV cV B6
  have:=bA cV
  have:=bA B6
  refine Ok.lt fun d33 h19=>Ok.lt fun y35 h20=>?_
  have:=congrArg wt h20
  simp only [bA] at this
  have:y35.size≤4:=by rw [h20];exact DS.pick_size _ (by decide) (by decide)
  have:=eR (p2-1)
  refine vH (p8 d33 p3 (aZ (p2-1)) bR bR) fun x38 x39 h21=>?_
  dsimp only at h21
  have:=aA.wt_eq x38
  have:=aA.wt_mk x38.aBw x38.aBs x38.aBt
  have:=cG (aA.mk x38.aBw x38.aBs x38.aBt)
  refine oB (dJ y35 ([(aA.mk x38.aBw x38.aBs x38.aBt)]:List aA) bR) fun x41 h22=>?_
  have:=aA.wt_eq x41
  have:=aA.wt_mk x41.aBw x41.aBs x41.aBt
  exact oS
 refine oC (fun g23=>?_) fun g23=>?_
 ·have:eU.size=3:=rfl
  have:eE.size=4:=rfl
  have:jN.size=4:=rfl
  have:=GM eU eE jN
  have:=bA eU
  have:=bA eE
  have:=bA jN
  refine Ok.lt fun d43 h24=>Ok.lt fun y45 h25=>?_
  have:=congrArg wt h25
  simp only [bA] at this
  have:y45.size≤4:=by rw [h25];exact DS.pick_size _ (by decide) (by decide)
  have:=(aX:wl ([]:List aA)=0∧_)
  refine oB (dJ y45 ([]:List aA) bR) fun x48 h26=>?_
  have:=aA.wt_eq x48
  have:=aA.wt_mk x48.aBw x48.aBs x48.aBt
  exact oS
 refine oD (fun g27=>?_) fun g27=>?_
 ·have:eU.size=3:=rfl
  have:eE.size=4:=rfl
  have:jN.size=4:=rfl
  have:=GM eU eE jN
  have:=bA eU
  have:=bA eE
  have:=bA jN
  refine Ok.lt fun d50 h28=>Ok.lt fun y52 h29=>?_
  have:=congrArg wt h29
  simp only [bA] at this
  have:y52.size≤4:=by rw [h29];exact DS.pick_size _ (by decide) (by decide)
  have:=(aX:wl ([]:List aA)=0∧_)
  refine oB (dJ y52 ([]:List aA) bR) fun x55 h30=>?_
  have:=aA.wt_eq x55
  have:=aA.wt_mk x55.aBw x55.aBs x55.aBt
  exact oS
 refine oC (fun g31=>?_) fun g31=>?_
 ·have:=eR (p2-1)
  refine vH (p8 d1 p3 (aZ (p2-1)) bR bR) fun x58 x59 h32=>?_
  dsimp only at h32
  refine vH (p8 x59 p3 (aZ (p2-1)) bR bR) fun x61 x62 h33=>?_
  dsimp only at h33
  have:u9.size=4:=rfl
  have:=aA.wt_eq x58
  have:=aA.wt_mk x58.aBw x58.aBs x58.aBt
  have:=aA.wt_eq x61
  have:=aA.wt_mk x61.aBw x61.aBs x61.aBt
  have:=k7 (aA.mk x58.aBw x58.aBs x58.aBt) (aA.mk x61.aBw x61.aBs x61.aBt)
  refine oB (dJ u9 ([(aA.mk x58.aBw x58.aBs x58.aBt),(aA.mk x61.aBw x61.aBs x61.aBt)]:List aA) bR) fun x64 h34=>?_
  have:=aA.wt_eq x64
  have:=aA.wt_mk x64.aBw x64.aBs x64.aBt
  exact oS
 have:cV.size=4:=rfl
 have:B6.size=3:=rfl
 have:=GM cV cV B6
 have:=bA cV
 have:=bA B6
 refine Ok.lt fun d65 h35=>Ok.lt fun y67 h36=>?_
 have:=congrArg wt h36
 simp only [bA] at this
 have:y67.size≤4:=by rw [h36];exact DS.pick_size _ (by decide) (by decide)
 have:=eR (p2-1)
 refine vH (p8 d65 p3 (aZ (p2-1)) bR bR) fun x70 x71 h37=>?_
 dsimp only at h37
 have:=aA.wt_eq x70
 have:=aA.wt_mk x70.aBw x70.aBs x70.aBt
 have:=cG (aA.mk x70.aBw x70.aBs x70.aBt)
 refine oB (dJ y67 ([(aA.mk x70.aBw x70.aBs x70.aBt)]:List aA) bR) fun x73 h38=>?_
 have:=aA.wt_eq x73
 have:=aA.wt_mk x73.aBw x73.aBs x73.aBt
 exact oS
theorem apQ(n:Nat):bS fun fu=>aaM n (sC fu):=by
 induction n with
 |zero=>exact .all fun fu=>fun _ _ _ h=>absurd h (Nat.not_lt_zero _)
 |succ n ih=>exact bS.succ ((ih.and (((bS.ge 2147483648).and fB).and dJ)).imp fun fu ⟨h,⟨⟨hfu,fB⟩,dJ⟩⟩=>fun pc p3 p2=>by rw [sC];exact aoA hfu fB dJ h pc p3 p2)
theorem qH:bS aj7:=(apQ 100).imp fun fu h pc p3 p2 hpre=>h pc p3 p2 bR hpre
def ak7(fu:Nat):Prop:= ∀(pt:aA),wt pt≤268435456→Ok (j9 fu pt) (fun r=>wt r≤wt pt)
def IV(n:Nat)(m:sB):Prop:= ∀(pt:aA),2*wt pt+1<n→wt pt≤268435456→Ok (m pt) (fun r=>wt r≤wt pt)
def BH(n:Nat)(m:mT):Prop:= ∀(p7:List aA),2*wl p7<n→wl p7≤268435456→Ok (m p7) (fun r=>wl r≤wl p7)
theorem ajK{n fu:Nat}(hfu:2147483648≤fu){p5:sB}(pE:IV n p5){p4:mT}(p9:BH n p4):IV (n+1) (JO fu p5 p4):=by
 intro pt hm hpre
 have:=aA.wt_eq pt
 refine oB (p9 pt.aBt bR bR) fun x2 h1=>?_
 have:=aA.wt_mk pt.aBw pt.aBs x2
 exact oS
theorem ac3{n fu:Nat}(hfu:2147483648≤fu){p5:sB}(pE:IV n p5){p4:mT}(p9:BH n p4):BH (n+1) (CG fu p5 p4):=by
 intro p7 hm hpre
 have:=(aX:wl ([]:List aA)=0∧_)
 refine QP p7 1 (fun i1 v3 hl2 hI3 _ _=>?_) ?_
 ·have:=bB p7
  have:=cW p7 i1 hl2
  refine oB (pE (aT p7 i1) bR bR) fun x7 h4=>?_
  have:=bB (v3)
  have:=cG x7
  refine oG fun z5=>?_
  have:=b8 v3 ([x7]:List aA)
  exact qD
 intro v3 h1
 exact oS
theorem amP(n:Nat):bS fun fu=>IV n (j9 fu)∧BH n (kR fu):=by
 induction n with
 |zero=>exact .all fun fu=>⟨fun _ h=>absurd h (Nat.not_lt_zero _),fun _ h=>absurd h (Nat.not_lt_zero _)⟩
 |succ n ih=>exact bS.succ ((ih.and (bS.ge 2147483648)).imp fun fu ⟨h,hfu⟩=>⟨fun pt=>by rw [j9];exact ajK hfu h.1 h.2 pt,fun p7=>by rw [kR];exact ac3 hfu h.1 h.2 p7⟩)
theorem QK:bS ak7:=(amP 8589934592).imp fun fu h pt hpre=>h.1 pt bR hpre
def alB(fu:Nat):Prop:= ∀(pA:ByteArray) (pt:aA),pA.size+wt pt≤67108864→Ok (JR fu pA pt) (fun r=>wt r≤pA.size+wt pt+1)
theorem I8:bS alB:=((bS.ge 2147483648).and QK).imp fun fu ⟨hfu,QK⟩ pA pt hpre=>by
 refine oB (QK pt bR) fun x2 h1=>?_
 have:=cG x2
 have:=aA.wt_mk 3 pA ([x2]:List aA)
 exact oS
def ak9(fu:Nat):Prop:= ∀(pc:DS) (p2:Int),-100≤p2∧p2≤4→Ok (uA fu pc p2) (fun r=>wt r.1≤bT p2.toNat+60)
theorem kV:bS ak9:=((((bS.ge 2147483648).and qH).and I8).and dJ).imp fun fu ⟨⟨⟨hfu,qH⟩,I8⟩,dJ⟩ pc p2 hpre=>by
 have:=akB p2.toNat
 have:=akC p2
 have:gF.size=1:=rfl
 have:B5.size=1:=rfl
 have:=k7 gF B5
 have:=bA gF
 have:=bA B5
 refine vH (qH pc ([gF,B5]:LB) p2 bR) fun x2 x3 h1=>?_
 dsimp only at h1
 refine Ok.lt fun d4 h2=>?_;refine oC (fun g3=>?_) fun g3=>?_
 ·have:eC.size=3:=rfl
  have:bE.size=4:=rfl
  have:=k7 eC bE
  have:=bA eC
  have:=bA bE
  refine Ok.lt fun d7 h4=>Ok.lt fun y9 h5=>?_
  have:=congrArg wt h5
  simp only [bA] at this
  have:y9.size≤4:=by rw [h5];exact DS.pick_size _ (by decide) (by decide)
  have:=aA.wt_eq x2
  have:=aA.wt_mk x2.aBw x2.aBs x2.aBt
  refine oB (I8 y9 (aA.mk x2.aBw x2.aBs x2.aBt) bR) fun x12 h6=>?_
  have:=aA.wt_eq x12
  have:=aA.wt_mk x12.aBw x12.aBs x12.aBt
  exact oS
 refine oC (fun g7=>?_) fun g7=>?_
 ·have:eC.size=3:=rfl
  have:=aA.wt_eq x2
  have:=aA.wt_mk x2.aBw x2.aBs x2.aBt
  refine oB (I8 eC (aA.mk x2.aBw x2.aBs x2.aBt) bR) fun x15 h8=>?_
  have:cV.size=4:=rfl
  have:=aA.wt_eq x15
  have:=aA.wt_mk x15.aBw x15.aBs x15.aBt
  have:=cG (aA.mk x15.aBw x15.aBs x15.aBt)
  refine oB (dJ cV ([(aA.mk x15.aBw x15.aBs x15.aBt)]:List aA) bR) fun x17 h9=>?_
  have:=aA.wt_eq x17
  have:=aA.wt_mk x17.aBw x17.aBs x17.aBt
  exact oS
 refine oC (fun g10=>?_) fun g10=>?_
 ·have:bE.size=4:=rfl
  have:=(aX:wl ([]:List aA)=0∧_)
  have:=aA.wt_mk 4 bE []
  exact oS
 have:=aA.wt_eq x2
 have:=aA.wt_mk x2.aBw x2.aBs x2.aBt
 exact oS
def adN(fu:Nat):Prop:= ∀(pk:Int) (pG:ByteArray) (pC:List aM),pG.size+wl pC≤67108864→Ok (vA fu pk pG pC) (fun r=>wt r=pG.size+wl pC)
theorem nI:bS adN:=(bS.ge 2147483648).imp fun fu hfu pk pG pC hpre=>by
 have:=(aX:wl ([]:List aM)=0∧_)
 have:=bB (pC)
 refine oG fun z1=>?_
 have:s_.size=0:=rfl
 have:=(aX:wl ([]:List aA)=0∧_)
 have:=aA.wt_mk 0 s_ []
 have:=b8 ([]:List aM) pC
 have:=(aX:wl ([]:List bV)=0∧_)
 have:=aM.wt_mk pk s_ pG 0 (aA.mk 0 s_ []) (([])++pC) []
 exact oS
def ahB(fu:Nat):Prop:= ∀(pF:DS) (p6:LB) (p0:Int),wl p6+10*p0.toNat≤900∧ -100≤p0∧p0≤3→Ok (lX fu pF p6 p0) (fun r=>wt r.1≤bX p0.toNat)
def LA(n:Nat)(m:tT):Prop:= ∀(pF:DS) (p6:LB) (p0:Int),p0.toNat<n→wl p6+10*p0.toNat≤900∧ -100≤p0∧p0≤3→Ok (m pF p6 p0) (fun r=>wt r.1≤bX p0.toNat)
theorem afL{n fu:Nat}(hfu:2147483648≤fu)(fN:C6 fu)(fG:C5 fu)(nI:adN fu)(qH:aj7 fu){pD:tT}(p1:LA n pD):LA (n+1) (MN fu pD):=by
 intro pF p6 p0 hm hpre
 have:=anH p0.toNat
 have:=anH (aZ (p0-1)).toNat
 have:=aoY p0
 have:=aaX
 have:=ap1 p0
 have:=eR (p0-1)
 refine Ok.lt fun d1 h1=>?_;refine Ok.sok (E:=fun v3=>p0≤0→v3≤2) ?_ ?_
 ·refine oD (fun g3=>?_) fun g3=>?_
  ·have:=DS.below_lt pF (n:=13) (by decide)
   exact oI
  have:=DS.below_lt pF (n:=13) (by decide)
  exact oI
 intro v3 h2
 refine oD (fun g4=>?_) fun g4=>?_
 ·refine Ok.lt fun d6 h5=>?_
  have:s_.size=0:=rfl
  have:=DS.below_lt d1 (n:=2) (by decide)
  have:=(aX:wl ([]:List aA)=0∧_)
  have:=aA.wt_mk 0 s_ []
  have:=(aX:wl ([]:List aM)=0∧_)
  have:=(aX:wl ([]:List bV)=0∧_)
  have:=aM.wt_mk 2 s_ s_ (d1.below 2:Int) (aA.mk 0 s_ []) [] []
  exact oS
 refine GN ?_ ?_
 ·exact oD (fun _=>oI) fun g7=>oI
 intro v8 _
 refine oC (fun g8=>?_) fun g8=>?_
 ·have:=bB p6
  refine oD (fun g9=>?_) fun g9=>?_
  ·have:=bB (p6)
   refine oG fun z10=>Ok.lt fun d13 h11=>?_
   have:=apE d1 p6
   refine Ok.lt fun y15 h12=>?_
   have:=congrArg wt h12
   simp only [bA] at this
   exact SF (fN y15) fun x18 h13 h13B=>oS
  refine Ok.lt fun d19 h14=>?_
  have:=DS.below_lt d1 (n:=20) (by decide)
  have:=eR ((d1.below 20:Int)-5)
  exact SF (fG (aZ ((d1.below 20:Int)-5)) bR) fun x22 h15 h15B=>oS
 refine oD (fun g16=>?_) fun g16=>?_
 ·have:s_f.size=1:=rfl
  have:s_g.size=1:=rfl
  have:=k7 s_f s_g
  have:=bA s_f
  have:=bA s_g
  refine Ok.lt fun d24 h17=>Ok.lt fun y26 h18=>?_
  have:=congrArg wt h18
  simp only [bA] at this
  have:y26.size≤1:=by rw [h18];exact DS.pick_size _ (by decide) (by decide)
  have:=eR (p0-1)
  refine vH (p1 d24 p6 (aZ (p0-1)) bR bR) fun x29 x30 h19=>?_
  dsimp only at h19
  have:=cG x29
  exact oB (nI 4 y26 ([x29]:List aM) bR) fun x32 h20=>oS
 refine oD (fun g21=>?_) fun g21=>?_
 ·have:bE.size=4:=rfl
  have:eC.size=3:=rfl
  have:=k7 bE eC
  have:=bA bE
  have:=bA eC
  refine Ok.lt fun d34 h22=>Ok.lt fun y36 h23=>?_
  have:=congrArg wt h23
  simp only [bA] at this
  have:y36.size≤4:=by rw [h23];exact DS.pick_size _ (by decide) (by decide)
  have:=eR (p0-1)
  refine vH (p1 d34 p6 (aZ (p0-1)) bR bR) fun x39 x40 h24=>?_
  dsimp only at h24
  refine vH (p1 x40 p6 (aZ (p0-1)) bR bR) fun x42 x43 h25=>?_
  dsimp only at h25
  have:eV.size=1:=rfl
  have:s_.size=0:=rfl
  have:=(aX:wl ([]:List aA)=0∧_)
  have:=aA.wt_mk 0 s_ []
  have:=k7 x39 x42
  have:=(aX:wl ([]:List bV)=0∧_)
  have:=aM.wt_mk 5 y36 eV 0 (aA.mk 0 s_ []) ([x39,x42]:List aM) []
  exact oS
 refine oD (fun g26=>?_) fun g26=>?_
 ·have:=eR (p0-1)
  refine vH (p1 d1 p6 (aZ (p0-1)) bR bR) fun x46 x47 h27=>?_
  dsimp only at h27
  refine vH (p1 x47 p6 (aZ (p0-1)) bR bR) fun x49 x50 h28=>?_
  dsimp only at h28
  have:cL.size=4:=rfl
  have:=k7 x46 x49
  exact oB (nI 6 cL ([x46,x49]:List aM) bR) fun x52 h29=>oS
 refine oD (fun g30=>?_) fun g30=>?_
 ·have:=(aX:wl ([]:LB)=0∧_)
  have:=bB (p6)
  refine oG fun z31=>?_
  have:=b8 ([]:LB) p6
  have:s_h.size=1:=rfl
  have:s_t.size=1:=rfl
  have:=k7 s_h s_t
  have:=bA s_h
  have:=bA s_t
  refine oG fun z32=>?_
  have:=eR (p0-1)
  refine vH (p1 d1 p6 (aZ (p0-1)) bR bR) fun x57 x58 h33=>?_
  dsimp only at h33
  refine vH (p1 x58 p6 (aZ (p0-1)) bR bR) fun x60 x61 h34=>?_
  dsimp only at h34
  have:=b8 (([])++p6) ([s_h,s_t]:LB)
  refine vH (p1 x61 ((([])++p6)++([s_h,s_t]:LB)) (aZ (p0-1)) bR bR) fun x63 x64 h35=>?_
  dsimp only at h35
  have:s_.size=0:=rfl
  have:=(aX:wl ([]:List aA)=0∧_)
  have:=aA.wt_mk 0 s_ []
  have:=cG x57
  have:fX.size=3:=rfl
  have:=bV.wt_mk fX [] x60
  have:cL.size=4:=rfl
  have:=bV.wt_mk cL ([s_h,s_t]:LB) x63
  have:=k7 (bV.mk fX [] x60) (bV.mk cL ([s_h,s_t]:LB) x63)
  have:=aM.wt_mk 7 s_ s_ 0 (aA.mk 0 s_ []) ([x57]:List aM) ([(bV.mk fX [] x60),(bV.mk cL ([s_h,s_t]:LB) x63)]:List bV)
  exact oS
 refine oD (fun g36=>?_) fun g36=>?_
 ·have:=eR (p0-1)
  refine vH (p1 d1 p6 (aZ (p0-1)) bR bR) fun x67 x68 h37=>?_
  dsimp only at h37
  have:=(aX:wl ([]:LB)=0∧_)
  have:=bB (p6)
  refine oG fun z38=>?_
  have:=b8 ([]:LB) p6
  have:r7.size=1:=rfl
  have:=cG r7
  have:=bA r7
  refine oG fun z39=>?_
  have:=b8 (([])++p6) ([r7]:LB)
  refine vH (p1 x68 ((([])++p6)++([r7]:LB)) (aZ (p0-1)) bR bR) fun x72 x73 h40=>?_
  dsimp only at h40
  have:=k7 x67 x72
  exact oB (nI 8 r7 ([x67,x72]:List aM) bR) fun x75 h41=>oS
 refine oD (fun g42=>?_) fun g42=>?_
 ·have:=eR (p0-1)
  refine vH (p1 d1 p6 (aZ (p0-1)) bR bR) fun x78 x79 h43=>?_
  dsimp only at h43
  refine vH (p1 x79 p6 (aZ (p0-1)) bR bR) fun x81 x82 h44=>?_
  dsimp only at h44
  refine vH (p1 x82 p6 (aZ (p0-1)) bR bR) fun x84 x85 h45=>?_
  dsimp only at h45
  have:s_.size=0:=rfl
  have:=GM x78 x81 x84
  exact oB (nI 9 s_ ([x78,x81,x84]:List aM) bR) fun x87 h46=>oS
 refine oD (fun g47=>?_) fun g47=>?_
 ·have:BF.size=1:=rfl
  have:GT.size=1:=rfl
  have:PD.size=1:=rfl
  have:PE.size=1:=rfl
  have:PF.size=1:=rfl
  have:=ar2 BF GT PD PE PF
  have:=bA BF
  have:=bA GT
  have:=bA PD
  have:=bA PE
  have:=bA PF
  refine Ok.lt fun d89 h48=>Ok.lt fun y91 h49=>?_
  have:=congrArg wt h49
  simp only [bA] at this
  have:y91.size≤1:=by rw [h49];exact DS.pick_size _ (by decide) (by decide)
  have:=eR (p0-1)
  refine vH (p1 d89 p6 (aZ (p0-1)) bR bR) fun x94 x95 h50=>?_
  dsimp only at h50
  refine vH (p1 x95 p6 (aZ (p0-1)) bR bR) fun x97 x98 h51=>?_
  dsimp only at h51
  have:=k7 x94 x97
  exact oB (nI 10 y91 ([x94,x97]:List aM) bR) fun x100 h52=>oS
 refine oD (fun g53=>?_) fun g53=>?_
 ·have:=eR (p0-1)
  refine vH (p1 d1 p6 (aZ (p0-1)) bR bR) fun x103 x104 h54=>?_
  dsimp only at h54
  have:bE.size=4:=rfl
  have:s_.size=0:=rfl
  have:=(aX:wl ([]:List aA)=0∧_)
  have:=aA.wt_mk 0 s_ []
  have:=cG x103
  have:=(aX:wl ([]:List bV)=0∧_)
  have:=aM.wt_mk 11 bE s_ 0 (aA.mk 0 s_ []) ([x103]:List aM) []
  exact oS
 refine oD (fun g55=>?_) fun g55=>?_
 ·have:gF.size=1:=rfl
  have:=cG gF
  have:=bA gF
  refine vH (qH d1 ([gF]:LB) 1 bR) fun x107 x108 h56=>?_
  dsimp only at h56
  have:=eR (p0-1)
  refine vH (p1 x108 p6 (aZ (p0-1)) bR bR) fun x110 x111 h57=>?_
  dsimp only at h57
  have:s_.size=0:=rfl
  have:=cG x110
  have:=(aX:wl ([]:List bV)=0∧_)
  have:=aM.wt_mk 12 s_ s_ 0 x107 ([x110]:List aM) []
  exact oS
 refine Ok.lt fun d112 h58=>?_
 have:=DS.below_lt d1 (n:=20) (by decide)
 have:=eR ((d1.below 20:Int)-5)
 exact SF (fG (aZ ((d1.below 20:Int)-5)) bR) fun x115 h59 h59B=>oS
theorem aiP(n:Nat):bS fun fu=>LA n (lX fu):=by
 induction n with
 |zero=>exact .all fun fu=>fun _ _ _ h=>absurd h (Nat.not_lt_zero _)
 |succ n ih=>exact bS.succ ((ih.and (((((bS.ge 2147483648).and fN).and fG).and nI).and qH)).imp fun fu ⟨h,⟨⟨⟨⟨hfu,fN⟩,fG⟩,nI⟩,qH⟩⟩=>fun pF p6 p0=>by rw [lX];exact afL hfu fN fG nI qH h pF p6 p0)
theorem vZ:bS ahB:=(aiP 100).imp fun fu h pF p6 p0 hpre=>h pF p6 p0 bR hpre
def anA(fu:Nat):Prop:=Ok (EJ fu) (fun r=>wt r≤3)
theorem sV:bS anA:=((bS.ge 2147483648).and dJ).imp fun fu ⟨hfu,dJ⟩=>by
 have:eU.size=3:=rfl
 have:=(aX:wl ([]:List aA)=0∧_)
 exact oB (dJ eU ([]:List aA) bR) fun x2 h1=>oS
def ahI(fu:Nat):Prop:= ∀(pF:DS),Ok (MV fu pF) (fun r=>wt r.1≤1000000)
theorem L6:bS ahI:=((((((((bS.ge 2147483648).and fG).and sV).and fB).and dJ).and qH).and kV).and vZ).imp fun fu ⟨⟨⟨⟨⟨⟨⟨hfu,fG⟩,sV⟩,fB⟩,dJ⟩,qH⟩,kV⟩,vZ⟩ pF=>by
 have:=aaX
 have:=ahS
 have:=aqI
 have:bE.size=4:=rfl
 have:kH.size=2:=rfl
 have:eC.size=3:=rfl
 have:=GM bE kH eC
 have:=bA bE
 have:=bA kH
 have:=bA eC
 refine Ok.lt fun d1 h1=>Ok.lt fun y3 h2=>?_
 have:=congrArg wt h2
 simp only [bA] at this
 have:y3.size≤4:=by rw [h2];exact DS.pick_size _ (by decide) (by decide)
 refine Ok.lt fun d5 h3=>?_
 have:=DS.below_lt d1 (n:=9) (by decide)
 refine SF (fG (d1.below 9:Int) bR) fun x8 h4 h4B=>?_;refine Ok.sok (E:=fun(v9,v10,v11,v12,v13,v14)=>wl v9≤10∧v11.size+wl v12≤100∧wl v13≤100) ?_ ?_
 ·refine Ok.lt fun d15 h6=>?_;refine oC (fun g7=>?_) fun g7=>?_
  ·refine oB (sV) fun x19 h8=>?_
   have:=aA.wt_eq x19
   have:=(aX:wl ([]:LB)=0∧_)
   have:=(aX:wl ([]:List aD)=0∧_)
   exact oI
  refine oC (fun g9=>?_) fun g9=>?_
  ·have:gF.size=1:=rfl
   refine oB (fB gF) fun x22 h10=>?_
   have:cV.size=4:=rfl
   have:=cG x22
   refine oB (dJ cV ([x22]:List aA) bR) fun x24 h11=>?_
   have:=cG gF
   have:=bA gF
   have:=aA.wt_eq x24
   have:=aD.wt_mk y3 x22
   have:=cG (aD.mk y3 x22)
   exact oI
  refine oC (fun g12=>?_) fun g12=>?_
  ·have:gF.size=1:=rfl
   refine oB (fB gF) fun x27 h13=>?_
   have:B5.size=1:=rfl
   refine oB (fB B5) fun x29 h14=>?_
   have:u9.size=4:=rfl
   have:=k7 x27 x29
   refine oB (dJ u9 ([x27,x29]:List aA) bR) fun x31 h15=>?_
   have:=k7 gF B5
   have:=bA gF
   have:=bA B5
   have:=aA.wt_eq x31
   have:=(aX:wl ([]:List aD)=0∧_)
   exact oI
  have:gF.size=1:=rfl
  refine oB (fB gF) fun x33 h16=>?_
  have:=cG gF
  have:=bA gF
  have:=aA.wt_eq x33
  have:eM.size=3:=rfl
  have:=aD.wt_mk eM x33
  have:=cG (aD.mk eM x33)
  exact oI
 rintro⟨v9,v10,v11,v12,v13,v14⟩ h5
 dsimp only at h5
 refine Ok.sok (E:=fun(v38,v35,v36,v37,v34)=>wl v38+v37.size≤5000) ?_ ?_
 ·refine Ok.lt fun d39 h18=>?_;refine oC (fun g19=>?_) fun g19=>?_
  ·refine vH (qH d39 v9 1 bR) fun x43 x44 h20=>?_
   dsimp only at h20
   have:=aA.wt_eq x43
   exact oI
  have:s_.size=0:=rfl
  have:=(aX:wl ([]:List aA)=0∧_)
  exact oI
 rintro⟨v38,v35,v36,v37,v34⟩ h17
 dsimp only at h17
 refine Ok.lt fun d45 h21=>Ok.lt fun d47 h22=>?_;refine oC (fun g23=>?_) fun g23=>?_
 ·refine vH (kV d47 2 bR) fun x51 x52 h24=>?_
  dsimp only at h24
  have:=DS.below_lt v34 (n:=4) (by decide)
  have:=aA.wt_mk v36 v37 v38
  have:eV.size=1:=rfl
  have:eQ.size=1:=rfl
  have:=cG eQ
  have:=bA eQ
  have:=aQ.wt_mk eV ([eQ]:LB) x8
  have:=cG (aQ.mk eV ([eQ]:LB) x8)
  have:=aL.wt_mk y3 v9 x51 v13 (decide (v34.below 4=0)) v35 (aA.mk v36 v37 v38) ([(aQ.mk eV ([eQ]:LB) x8)]:List aQ)
  exact oS
 refine oC (fun g25=>?_) fun g25=>?_
 ·have:gF.size=1:=rfl
  have:s_c.size=1:=rfl
  have:=k7 gF s_c
  have:=bA gF
  have:=bA s_c
  refine Ok.lt fun d54 h26=>Ok.lt fun y56 h27=>?_
  have:=congrArg wt h27
  simp only [bA] at this
  have:y56.size≤1:=by rw [h27];exact DS.pick_size _ (by decide) (by decide)
  have:=bB (v9)
  have:=cG y56
  have:=bA y56
  refine oG fun z28=>?_
  have:=b8 v9 ([y56]:LB)
  have:=aA.wt_mk v10 v11 v12
  have:=DS.below_lt v34 (n:=4) (by decide)
  have:=aA.wt_mk v36 v37 v38
  have:eV.size=1:=rfl
  have:eQ.size=1:=rfl
  have:=cG eQ
  have:=bA eQ
  have:=aQ.wt_mk eV ([eQ]:LB) x8
  have:=cG (aQ.mk eV ([eQ]:LB) x8)
  have:=aL.wt_mk y3 (v9++([y56]:LB)) (aA.mk v10 v11 v12) v13 (decide (v34.below 4=0)) v35 (aA.mk v36 v37 v38) ([(aQ.mk eV ([eQ]:LB) x8)]:List aQ)
  exact oS
 refine oC (fun g29=>?_) fun g29=>?_
 ·refine vH (kV d47 1 bR) fun x61 x62 h30=>?_
  dsimp only at h30
  have:=bB (v13)
  have:=aD.wt_mk kH x61
  have:=cG (aD.mk kH x61)
  refine oG fun z31=>?_
  have:=aA.wt_mk v10 v11 v12
  have:=b8 v13 ([(aD.mk kH x61)]:List aD)
  have:=DS.below_lt v34 (n:=4) (by decide)
  have:=aA.wt_mk v36 v37 v38
  have:eV.size=1:=rfl
  have:eQ.size=1:=rfl
  have:=cG eQ
  have:=bA eQ
  have:=aQ.wt_mk eV ([eQ]:LB) x8
  have:=cG (aQ.mk eV ([eQ]:LB) x8)
  have:=aL.wt_mk y3 v9 (aA.mk v10 v11 v12) (v13++([(aD.mk kH x61)]:List aD)) (decide (v34.below 4=0)) v35 (aA.mk v36 v37 v38) ([(aQ.mk eV ([eQ]:LB) x8)]:List aQ)
  exact oS
 refine oC (fun g32=>?_) fun g32=>?_
 ·have:eQ.size=1:=rfl
  have:r7.size=1:=rfl
  have:=k7 eQ r7
  have:=bA eQ
  have:=bA r7
  refine vH (vZ d47 ([eQ,r7]:LB) 2 bR) fun x66 x67 h33=>?_
  dsimp only at h33
  have:=aA.wt_mk v10 v11 v12
  have:=DS.below_lt v34 (n:=4) (by decide)
  have:=aA.wt_mk v36 v37 v38
  have:eV.size=1:=rfl
  have:=cG eQ
  have:=aQ.wt_mk eV ([eQ]:LB) x66
  have:=cG (aQ.mk eV ([eQ]:LB) x66)
  have:=aL.wt_mk y3 v9 (aA.mk v10 v11 v12) v13 (decide (v34.below 4=0)) v35 (aA.mk v36 v37 v38) ([(aQ.mk eV ([eQ]:LB) x66)]:List aQ)
  exact oS
 refine oC (fun g34=>?_) fun g34=>?_
 ·refine oB (sV) fun x70 h35=>?_
  have:=aA.wt_mk v10 v11 v12
  have:=DS.below_lt v34 (n:=4) (by decide)
  have:eV.size=1:=rfl
  have:eQ.size=1:=rfl
  have:=cG eQ
  have:=bA eQ
  have:=aQ.wt_mk eV ([eQ]:LB) x8
  have:=cG (aQ.mk eV ([eQ]:LB) x8)
  have:=aL.wt_mk y3 v9 (aA.mk v10 v11 v12) v13 (decide (v34.below 4=0)) v35 x70 ([(aQ.mk eV ([eQ]:LB) x8)]:List aQ)
  exact oS
 refine oC (fun g36=>?_) fun g36=>?_
 ·have:=aA.wt_mk v10 v11 v12
  have:=DS.below_lt v34 (n:=4) (by decide)
  have:=aA.wt_mk v36 v37 v38
  have:eV.size=1:=rfl
  have:=(aX:wl ([]:LB)=0∧_)
  have:=aQ.wt_mk eV ([]) x8
  have:=cG (aQ.mk eV ([]) x8)
  have:=aL.wt_mk y3 v9 (aA.mk v10 v11 v12) v13 (decide (v34.below 4=0)) v35 (aA.mk v36 v37 v38) ([(aQ.mk eV ([]) x8)]:List aQ)
  exact oS
 have:=aA.wt_mk v10 v11 v12
 have:=DS.below_lt v34 (n:=4) (by decide)
 have:=aA.wt_mk v36 v37 v38
 have:eV.size=1:=rfl
 have:eQ.size=1:=rfl
 have:=cG eQ
 have:=bA eQ
 have:=aQ.wt_mk eV ([eQ]:LB) x8
 have:=cG (aQ.mk eV ([eQ]:LB) x8)
 have:=aL.wt_mk y3 v9 (aA.mk v10 v11 v12) v13 (decide (v34.below 4=0)) v35 (aA.mk v36 v37 v38) ([(aQ.mk eV ([eQ]:LB) x8)]:List aQ)
 exact oS
def am7(fu:Nat):Prop:= ∀(pc:DS),Ok (WR fu pc) (fun r=>wt r.1≤2000000)
theorem VL:bS am7:=((((((bS.ge 2147483648).and fB).and sV).and fN).and kV).and vZ).imp fun fu ⟨⟨⟨⟨⟨hfu,fB⟩,sV⟩,fN⟩,kV⟩,vZ⟩ pc=>by
 have:=aaX
 have:=ahS
 have:=ap1 3 (by decide)
 have:s_f.size=1:=rfl
 have:s_g.size=1:=rfl
 have:=k7 s_f s_g
 have:=bA s_f
 have:=bA s_g
 refine Ok.lt fun d1 h1=>Ok.lt fun y3 h2=>?_
 have:=congrArg wt h2
 simp only [bA] at this
 have:y3.size≤1:=by rw [h2];exact DS.pick_size _ (by decide) (by decide)
 have:gF.size=1:=rfl
 refine oB (fB gF) fun x6 h3=>oB (sV) fun x8 h4=>?_
 have:eQ.size=1:=rfl
 refine SF (fN eQ) fun x10 h5 h5B=>Ok.lt fun d11 h6=>?_;refine oC (fun g7=>?_) fun g7=>?_
 ·refine vH (kV d11 2 bR) fun x15 x16 h8=>?_
  dsimp only at h8
  have:=cG gF
  have:=bA gF
  have:bE.size=4:=rfl
  have:=aD.wt_mk bE x6
  have:=cG (aD.mk bE x6)
  have:=aW.wt_mk eQ x6
  have:=cG (aW.mk eQ x6)
  have:eV.size=1:=rfl
  have:s_.size=0:=rfl
  have:=(aX:wl ([]:List aA)=0∧_)
  have:=aA.wt_mk 0 s_ []
  have:=cG x10
  have:=(aX:wl ([]:List bV)=0∧_)
  have:=aM.wt_mk 5 bE eV 0 (aA.mk 0 s_ []) ([x10]:List aM) []
  have:=aP.wt_mk y3 ([gF]:LB) ([(aD.mk bE x6)]:List aD) ([(aW.mk eQ x6)]:List aW) x15 (aM.mk 5 bE eV 0 (aA.mk 0 s_ []) ([x10]:List aM) [])
  exact oS
 refine oC (fun g9=>?_) fun g9=>?_
 ·have:r7.size=1:=rfl
  have:=k7 eQ r7
  have:=bA eQ
  have:=bA r7
  refine Ok.lt fun d18 h10=>Ok.lt fun y20 h11=>?_
  have:=congrArg wt h11
  simp only [bA] at this
  have:y20.size≤1:=by rw [h11];exact DS.pick_size _ (by decide) (by decide)
  have:=aW.wt_mk eQ x6
  have:=cG (aW.mk eQ x6)
  have:=aW.wt_mk y20 x8
  have:=cG (aW.mk y20 x8)
  refine oG fun z12=>?_
  have:=cG gF
  have:=bA gF
  have:bE.size=4:=rfl
  have:=aD.wt_mk bE x6
  have:=cG (aD.mk bE x6)
  have:=b8 ([(aW.mk eQ x6)]:List aW) ([(aW.mk y20 x8)]:List aW)
  have:eV.size=1:=rfl
  have:s_.size=0:=rfl
  have:=(aX:wl ([]:List aA)=0∧_)
  have:=aA.wt_mk 0 s_ []
  have:=cG x10
  have:=(aX:wl ([]:List bV)=0∧_)
  have:=aM.wt_mk 5 bE eV 0 (aA.mk 0 s_ []) ([x10]:List aM) []
  have:=aP.wt_mk y3 ([gF]:LB) ([(aD.mk bE x6)]:List aD) (([(aW.mk eQ x6)]:List aW)++([(aW.mk y20 x8)]:List aW)) x8 (aM.mk 5 bE eV 0 (aA.mk 0 s_ []) ([x10]:List aM) [])
  exact oS
 refine oC (fun g13=>?_) fun g13=>?_
 ·have:r7.size=1:=rfl
  have:=k7 eQ r7
  have:=bA eQ
  have:=bA r7
  refine vH (vZ d11 ([eQ,r7]:LB) 3 bR) fun x25 x26 h14=>?_
  dsimp only at h14
  have:=cG gF
  have:=bA gF
  have:bE.size=4:=rfl
  have:=aD.wt_mk bE x6
  have:=cG (aD.mk bE x6)
  have:=aW.wt_mk eQ x6
  have:=cG (aW.mk eQ x6)
  have:=aP.wt_mk y3 ([gF]:LB) ([(aD.mk bE x6)]:List aD) ([(aW.mk eQ x6)]:List aW) x8 x25
  exact oS
 refine oC (fun g15=>?_) fun g15=>?_
 ·refine vH (kV d11 1 bR) fun x29 x30 h16=>?_
  dsimp only at h16
  have:=cG gF
  have:=bA gF
  have:bE.size=4:=rfl
  have:=aD.wt_mk bE x29
  have:=cG (aD.mk bE x29)
  have:=aW.wt_mk eQ x6
  have:=cG (aW.mk eQ x6)
  have:eV.size=1:=rfl
  have:s_.size=0:=rfl
  have:=(aX:wl ([]:List aA)=0∧_)
  have:=aA.wt_mk 0 s_ []
  have:=cG x10
  have:=(aX:wl ([]:List bV)=0∧_)
  have:=aM.wt_mk 5 bE eV 0 (aA.mk 0 s_ []) ([x10]:List aM) []
  have:=aP.wt_mk y3 ([gF]:LB) ([(aD.mk bE x29)]:List aD) ([(aW.mk eQ x6)]:List aW) x8 (aM.mk 5 bE eV 0 (aA.mk 0 s_ []) ([x10]:List aM) [])
  exact oS
 refine oC (fun g17=>?_) fun g17=>?_
 ·have:s_.size=0:=rfl
  have:FP.size=2:=rfl
  have:=k7 s_ FP
  have:=bA s_
  have:=bA FP
  refine Ok.lt fun d32 h18=>Ok.lt fun y34 h19=>?_
  have:=congrArg wt h19
  simp only [bA] at this
  have:y34.size≤2:=by rw [h19];exact DS.pick_size _ (by decide) (by decide)
  have:=cG gF
  have:=bA gF
  have:bE.size=4:=rfl
  have:=aD.wt_mk bE x6
  have:=cG (aD.mk bE x6)
  have:=aW.wt_mk eQ x6
  have:=cG (aW.mk eQ x6)
  have:eV.size=1:=rfl
  have:=(aX:wl ([]:List aA)=0∧_)
  have:=aA.wt_mk 0 s_ []
  have:=cG x10
  have:=(aX:wl ([]:List bV)=0∧_)
  have:=aM.wt_mk 5 bE eV 0 (aA.mk 0 s_ []) ([x10]:List aM) []
  have:=aP.wt_mk y34 ([gF]:LB) ([(aD.mk bE x6)]:List aD) ([(aW.mk eQ x6)]:List aW) x8 (aM.mk 5 bE eV 0 (aA.mk 0 s_ []) ([x10]:List aM) [])
  exact oS
 have:=cG gF
 have:=bA gF
 have:bE.size=4:=rfl
 have:=aD.wt_mk bE x6
 have:=cG (aD.mk bE x6)
 have:=aW.wt_mk eQ x6
 have:=cG (aW.mk eQ x6)
 have:eV.size=1:=rfl
 have:s_.size=0:=rfl
 have:=(aX:wl ([]:List aA)=0∧_)
 have:=aA.wt_mk 0 s_ []
 have:=cG x10
 have:=(aX:wl ([]:List bV)=0∧_)
 have:=aM.wt_mk 5 bE eV 0 (aA.mk 0 s_ []) ([x10]:List aM) []
 have:=aP.wt_mk y3 ([gF]:LB) ([(aD.mk bE x6)]:List aD) ([(aW.mk eQ x6)]:List aW) x8 (aM.mk 5 bE eV 0 (aA.mk 0 s_ []) ([x10]:List aM) [])
 exact oS
def adO(fu:Nat):Prop:= ∀(pF:DS),Ok (IH fu pF) (fun r=>wt r.1≤10000)
theorem HO:bS adO:=((((((bS.ge 2147483648).and fB).and sV).and fN).and fG).and nI).imp fun fu ⟨⟨⟨⟨⟨hfu,fB⟩,sV⟩,fN⟩,fG⟩,nI⟩ pF=>by
 have:jZ.size=4:=rfl
 refine oB (fB jZ) fun x2 h1=>?_
 have:bE.size=4:=rfl
 have:kH.size=2:=rfl
 have:eC.size=3:=rfl
 have:=GM bE kH eC
 have:=bA bE
 have:=bA kH
 have:=bA eC
 refine Ok.lt fun d3 h2=>Ok.lt fun y5 h3=>?_
 have:=congrArg wt h3
 simp only [bA] at this
 have:y5.size≤4:=by rw [h3];exact DS.pick_size _ (by decide) (by decide)
 refine Ok.lt fun d7 h4=>oB (sV) fun x10 h5=>?_;refine oC (fun g6=>?_) fun g6=>?_
 ·refine oC (fun g7=>?_) fun g7=>?_
  ·refine Ok.lt fun d13 h8=>?_
   have:eQ.size=1:=rfl
   refine SF (fN eQ) fun x17 h9 h9B=>SF (fG 1 bR) fun x19 h10 h10B=>?_
   have:BF.size=1:=rfl
   have:eV.size=1:=rfl
   have:s_.size=0:=rfl
   have:=(aX:wl ([]:List aA)=0∧_)
   have:=aA.wt_mk 0 s_ []
   have:=cG x17
   have:=(aX:wl ([]:List bV)=0∧_)
   have:=aM.wt_mk 5 y5 eV 0 (aA.mk 0 s_ []) ([x17]:List aM) []
   have:=k7 (aM.mk 5 y5 eV 0 (aA.mk 0 s_ []) ([x17]:List aM) []) x19
   refine oB (nI 10 BF ([(aM.mk 5 y5 eV 0 (aA.mk 0 s_ []) ([x17]:List aM) []),x19]:List aM) bR) fun x21 h11=>?_
   have:=(aX:wl ([]:List aM)=0∧_)
   have:=aM.wt_mk 0 s_ s_ 0 (aA.mk 0 s_ []) [] []
   have:=(aX:wl ([]:LB)=0∧_)
   have:=aG.wt_mk eV [] x10 false [] (aM.mk 0 s_ s_ 0 (aA.mk 0 s_ []) [] [])
   have:=cG (aG.mk eV [] x10 false [] (aM.mk 0 s_ s_ 0 (aA.mk 0 s_ []) [] []))
   have:fM.size=5:=rfl
   have:=cG x2
   have:r7.size=1:=rfl
   have:=k7 eQ r7
   have:=bA eQ
   have:=bA r7
   have:=aG.wt_mk fM ([x2]:List aA) x10 true ([eQ,r7]:LB) x21
   have:=cG (aG.mk fM ([x2]:List aA) x10 true ([eQ,r7]:LB) x21)
   refine oG fun z12=>?_;refine Ok.sok (E:=fun v23=>wl v23≤10) ?_ ?_
   ·refine Ok.lt fun d24 h14=>?_;refine oC (fun g15=>?_) fun g15=>?_
    ·have:eM.size=3:=rfl
     have:=cG eM
     have:=bA eM
     exact oI
    exact oI
   intro v23 h13
   refine Ok.lt fun d28 h16=>?_;refine oC (fun g17=>?_) fun g17=>?_
   ·have:B5.size=1:=rfl
    have:=k7 jZ B5
    have:=bA jZ
    have:=bA B5
    refine Ok.lt fun d31 h18=>Ok.lt fun y33 h19=>?_
    have:=congrArg wt h19
    simp only [bA] at this
    have:y33.size≤4:=by rw [h19];exact DS.pick_size _ (by decide) (by decide)
    refine oB (fB y33) fun x36 h20=>?_
    have:=DS.below_lt d3 (n:=3) (by decide)
    have:=aA.wt_mk 0 s_ ([])
    have:=aM.wt_mk 0 s_ s_ 0 (aA.mk 0 s_ ([])) ([]) ([])
    have:=aG.wt_mk eV ([]) x36 false ([]) (aM.mk 0 s_ s_ 0 (aA.mk 0 s_ ([])) ([]) ([]))
    have:=k7 (aG.mk eV ([]) x36 false ([]) (aM.mk 0 s_ s_ 0 (aA.mk 0 s_ ([])) ([]) ([]))) (aG.mk fM ([x2]:List aA) x10 true ([eQ,r7]:LB) x21)
    have:=aV.wt_mk y5 v23 false (decide (d3.below 3=0)) ([(aG.mk eV ([]) x36 false ([]) (aM.mk 0 s_ s_ 0 (aA.mk 0 s_ ([])) ([]) ([]))),(aG.mk fM ([x2]:List aA) x10 true ([eQ,r7]:LB) x21)]:List aG)
    exact oS
   have:=DS.below_lt d3 (n:=3) (by decide)
   have:=aA.wt_mk 0 s_ ([])
   have:=aM.wt_mk 0 s_ s_ 0 (aA.mk 0 s_ ([])) ([]) ([])
   have:=aG.wt_mk eV ([]) x10 true ([]) (aM.mk 0 s_ s_ 0 (aA.mk 0 s_ ([])) ([]) ([]))
   have:=k7 (aG.mk eV ([]) x10 true ([]) (aM.mk 0 s_ s_ 0 (aA.mk 0 s_ ([])) ([]) ([]))) (aG.mk fM ([x2]:List aA) x10 true ([eQ,r7]:LB) x21)
   have:=aV.wt_mk y5 v23 false (decide (d3.below 3=0)) ([(aG.mk eV ([]) x10 true ([]) (aM.mk 0 s_ s_ 0 (aA.mk 0 s_ ([])) ([]) ([]))),(aG.mk fM ([x2]:List aA) x10 true ([eQ,r7]:LB) x21)]:List aG)
   exact oS
  refine Ok.lt fun d37 h21=>?_;refine Ok.sok (E:=fun v40=>wl v40≤10) ?_ ?_
  ·refine Ok.lt fun d41 h23=>?_;refine oC (fun g24=>?_) fun g24=>?_
   ·have:eM.size=3:=rfl
    have:=cG eM
    have:=bA eM
    exact oI
   have:=(aX:wl ([]:LB)=0∧_)
   exact oI
  intro v40 h22
  refine Ok.lt fun d45 h25=>?_;refine oC (fun g26=>?_) fun g26=>?_
  ·have:B5.size=1:=rfl
   have:=k7 jZ B5
   have:=bA jZ
   have:=bA B5
   refine Ok.lt fun d48 h27=>Ok.lt fun y50 h28=>?_
   have:=congrArg wt h28
   simp only [bA] at this
   have:y50.size≤4:=by rw [h28];exact DS.pick_size _ (by decide) (by decide)
   refine oB (fB y50) fun x53 h29=>?_
   have:=DS.below_lt d3 (n:=3) (by decide)
   have:eV.size=1:=rfl
   have:s_.size=0:=rfl
   have:=(aX:wl ([]:List aA)=0∧_)
   have:=aA.wt_mk 0 s_ []
   have:=(aX:wl ([]:List aM)=0∧_)
   have:=(aX:wl ([]:List bV)=0∧_)
   have:=aM.wt_mk 0 s_ s_ 0 (aA.mk 0 s_ []) [] []
   have:=(aX:wl ([]:LB)=0∧_)
   have:=aG.wt_mk eV [] x53 false [] (aM.mk 0 s_ s_ 0 (aA.mk 0 s_ []) [] [])
   have:=cG (aG.mk eV [] x53 false [] (aM.mk 0 s_ s_ 0 (aA.mk 0 s_ []) [] []))
   have:=aV.wt_mk y5 v40 false (decide (d3.below 3=0)) ([(aG.mk eV [] x53 false [] (aM.mk 0 s_ s_ 0 (aA.mk 0 s_ []) [] []))]:List aG)
   exact oS
  have:=DS.below_lt d3 (n:=3) (by decide)
  have:eV.size=1:=rfl
  have:s_.size=0:=rfl
  have:=(aX:wl ([]:List aA)=0∧_)
  have:=aA.wt_mk 0 s_ []
  have:=(aX:wl ([]:List aM)=0∧_)
  have:=(aX:wl ([]:List bV)=0∧_)
  have:=aM.wt_mk 0 s_ s_ 0 (aA.mk 0 s_ []) [] []
  have:=(aX:wl ([]:LB)=0∧_)
  have:=aG.wt_mk eV [] x10 true [] (aM.mk 0 s_ s_ 0 (aA.mk 0 s_ []) [] [])
  have:=cG (aG.mk eV [] x10 true [] (aM.mk 0 s_ s_ 0 (aA.mk 0 s_ []) [] []))
  have:=aV.wt_mk y5 v40 false (decide (d3.below 3=0)) ([(aG.mk eV [] x10 true [] (aM.mk 0 s_ s_ 0 (aA.mk 0 s_ []) [] []))]:List aG)
  exact oS
 refine Ok.sok (E:=fun v55=>wl v55≤1000∧0<v55.length) ?_ ?_
 ·refine Ok.lt fun d56 h31=>?_;refine oC (fun g32=>?_) fun g32=>?_
  ·have:eQ.size=1:=rfl
   refine SF (fN eQ) fun x61 h33 h33B=>SF (fG 1 bR) fun x63 h34 h34B=>?_
   have:BF.size=1:=rfl
   have:eV.size=1:=rfl
   have:s_.size=0:=rfl
   have:=(aX:wl ([]:List aA)=0∧_)
   have:=aA.wt_mk 0 s_ []
   have:=cG x61
   have:=(aX:wl ([]:List bV)=0∧_)
   have:=aM.wt_mk 5 y5 eV 0 (aA.mk 0 s_ []) ([x61]:List aM) []
   have:=k7 (aM.mk 5 y5 eV 0 (aA.mk 0 s_ []) ([x61]:List aM) []) x63
   refine oB (nI 10 BF ([(aM.mk 5 y5 eV 0 (aA.mk 0 s_ []) ([x61]:List aM) []),x63]:List aM) bR) fun x65 h35=>?_
   have:=(aX:wl ([]:List aM)=0∧_)
   have:=aM.wt_mk 0 s_ s_ 0 (aA.mk 0 s_ []) [] []
   have:=(aX:wl ([]:LB)=0∧_)
   have:=aG.wt_mk eV [] x10 false [] (aM.mk 0 s_ s_ 0 (aA.mk 0 s_ []) [] [])
   have:=cG (aG.mk eV [] x10 false [] (aM.mk 0 s_ s_ 0 (aA.mk 0 s_ []) [] []))
   have:fM.size=5:=rfl
   have:=cG x2
   have:r7.size=1:=rfl
   have:=k7 eQ r7
   have:=bA eQ
   have:=bA r7
   have:=aG.wt_mk fM ([x2]:List aA) x10 true ([eQ,r7]:LB) x65
   have:=cG (aG.mk fM ([x2]:List aA) x10 true ([eQ,r7]:LB) x65)
   refine oG fun z36=>?_
   have:=b8 ([(aG.mk eV [] x10 false [] (aM.mk 0 s_ s_ 0 (aA.mk 0 s_ []) [] []))]:List aG) ([(aG.mk fM ([x2]:List aA) x10 true ([eQ,r7]:LB) x65)]:List aG)
   exact oI
  have:eV.size=1:=rfl
  have:s_.size=0:=rfl
  have:=(aX:wl ([]:List aA)=0∧_)
  have:=aA.wt_mk 0 s_ []
  have:=(aX:wl ([]:List aM)=0∧_)
  have:=(aX:wl ([]:List bV)=0∧_)
  have:=aM.wt_mk 0 s_ s_ 0 (aA.mk 0 s_ []) [] []
  have:=(aX:wl ([]:LB)=0∧_)
  have:=aG.wt_mk eV [] x10 false [] (aM.mk 0 s_ s_ 0 (aA.mk 0 s_ []) [] [])
  have:=cG (aG.mk eV [] x10 false [] (aM.mk 0 s_ s_ 0 (aA.mk 0 s_ []) [] []))
  exact oI
 intro v55 h30
 refine Ok.sok (E:=fun v67=>wl v67≤10) ?_ ?_
 ·refine Ok.lt fun d68 h38=>?_;refine oC (fun g39=>?_) fun g39=>?_
  ·have:eM.size=3:=rfl
   have:=cG eM
   have:=bA eM
   exact oI
  have:=(aX:wl ([]:LB)=0∧_)
  exact oI
 intro v67 h37
 refine Ok.lt fun d72 h40=>?_;refine oC (fun g41=>?_) fun g41=>?_
 ·have:=DS.below_lt d3 (n:=3) (by decide)
  have:=aV.wt_mk y5 v67 true (decide (d3.below 3=0)) v55
  exact oS
 refine oC (fun g42=>?_) fun g42=>?_
 ·have:s_.size=0:=rfl
  have:eU.size=3:=rfl
  have:s_A.size=1:=rfl
  have:=GM s_ eU s_A
  have:=bA s_
  have:=bA eU
  have:=bA s_A
  refine Ok.lt fun d76 h43=>Ok.lt fun y78 h44=>?_
  have:=congrArg wt h44
  simp only [bA] at this
  have:y78.size≤3:=by rw [h44];exact DS.pick_size _ (by decide) (by decide)
  have:=DS.below_lt d3 (n:=3) (by decide)
  have:=aV.wt_mk y78 v67 false (decide (d3.below 3=0)) v55
  exact oS
 refine oC (fun g45=>?_) fun g45=>?_
 ·have:=bB (v67)
  have:eM.size=3:=rfl
  have:=cG eM
  have:=bA eM
  refine oG fun z46=>?_
  have:=b8 v67 ([eM]:LB)
  have:=DS.below_lt d3 (n:=3) (by decide)
  have:=aV.wt_mk y5 (v67++([eM]:LB)) false (decide (d3.below 3=0)) v55
  exact oS
 refine oC (fun g47=>?_) fun g47=>?_
 ·have:=bB (v55)
  refine oG fun z48=>?_
  have:=cW v55 0 z48
  have:wl (List.take 1 v55)=wl (List.take 0 v55)+wt (aT v55 0)+1:=K8 v55 0 z48
  refine Ok.lt fun y84 h49=>?_
  have:=congrArg wt h49
  have:=cG y84
  refine oG fun z50=>?_
  have:=DS.below_lt d3 (n:=3) (by decide)
  have:=b8 v55 ([y84]:List aG)
  have:=aV.wt_mk y5 v67 false (decide (d3.below 3=0)) (v55++([y84]:List aG))
  exact oS
 have:=DS.below_lt d3 (n:=3) (by decide)
 have:=aV.wt_mk y5 v67 false (decide (d3.below 3=0)) v55
 exact oS
def ahH(fu:Nat):Prop:= ∀(pc:DS),Ok (MU fu pc) (fun r=>wt r.1≤10000)
theorem L5:bS ahH:=((((bS.ge 2147483648).and fB).and dJ).and kV).imp fun fu ⟨⟨⟨hfu,fB⟩,dJ⟩,kV⟩ pc=>by
 have:=aaX
 have:=ahS
 have:gF.size=1:=rfl
 refine oB (fB gF) fun x2 h1=>?_
 have:cV.size=4:=rfl
 have:=cG x2
 refine oB (dJ cV ([x2]:List aA) bR) fun x4 h2=>Ok.lt fun d5 h3=>?_;refine oC (fun g4=>?_) fun g4=>?_
 ·have:B5.size=1:=rfl
  have:=k7 gF B5
  have:=bA gF
  have:=bA B5
  refine Ok.lt fun d8 h5=>Ok.lt fun y10 h6=>?_
  have:=congrArg wt h6
  simp only [bA] at this
  have:y10.size≤1:=by rw [h6];exact DS.pick_size _ (by decide) (by decide)
  have:=cG gF
  have:=cG y10
  have:=bA y10
  refine oG fun z7=>?_
  have:=b8 ([gF]:LB) ([y10]:LB)
  have:fX.size=3:=rfl
  have:=(aX:wl ([]:List aA)=0∧_)
  have:=aE.wt_mk fX []
  have:cL.size=4:=rfl
  have:=k7 x2 x4
  have:=aE.wt_mk cL ([x2,x4]:List aA)
  have:=k7 (aE.mk fX []) (aE.mk cL ([x2,x4]:List aA))
  have:=aO.wt_mk cV (([gF]:LB)++([y10]:LB)) ([(aE.mk fX []),(aE.mk cL ([x2,x4]:List aA))]:List aE)
  exact oS
 refine oC (fun g8=>?_) fun g8=>?_
 ·refine Ok.lt fun d14 h9=>?_
  have:=DS.below_lt d5 (n:=2) (by decide)
  have:fX.size=3:=rfl
  have:=(aX:wl ([]:List aA)=0∧_)
  have:=aE.wt_mk fX []
  have:cL.size=4:=rfl
  have:=k7 x2 x4
  have:=aE.wt_mk cL ([x2,x4]:List aA)
  have:=k7 (aE.mk fX []) (aE.mk cL ([x2,x4]:List aA))
  refine oG fun z10=>?_
  have:=cG gF
  have:=bA gF
  have:=UB (0:Int).toNat (d5.below 2:Int).toNat ([(aE.mk fX []),(aE.mk cL ([x2,x4]:List aA))]:List aE)
  have:=aO.wt_mk cV ([gF]:LB) (List.drop (0:Int).toNat (List.take (d5.below 2:Int).toNat ([(aE.mk fX []),(aE.mk cL ([x2,x4]:List aA))]:List aE)))
  exact oS
 refine oC (fun g11=>?_) fun g11=>?_
 ·refine vH (kV d5 2 bR) fun x19 x20 h12=>?_
  dsimp only at h12
  have:=cG gF
  have:=bA gF
  have:fX.size=3:=rfl
  have:=cG x19
  have:=aE.wt_mk fX ([x19]:List aA)
  have:cL.size=4:=rfl
  have:=k7 x2 x4
  have:=aE.wt_mk cL ([x2,x4]:List aA)
  have:=k7 (aE.mk fX ([x19]:List aA)) (aE.mk cL ([x2,x4]:List aA))
  have:=aO.wt_mk cV ([gF]:LB) ([(aE.mk fX ([x19]:List aA)),(aE.mk cL ([x2,x4]:List aA))]:List aE)
  exact oS
 refine oC (fun g13=>?_) fun g13=>?_
 ·have:cL.size=4:=rfl
  have:s_.size=0:=rfl
  have:WM.size=3:=rfl
  have:=GM cL s_ WM
  have:=bA cL
  have:=bA s_
  have:=bA WM
  refine Ok.lt fun d22 h14=>Ok.lt fun y24 h15=>?_
  have:=congrArg wt h15
  simp only [bA] at this
  have:y24.size≤4:=by rw [h15];exact DS.pick_size _ (by decide) (by decide)
  have:=cG gF
  have:=bA gF
  have:=(aX:wl ([]:List aA)=0∧_)
  have:=aE.wt_mk y24 []
  have:=k7 x2 x4
  have:=aE.wt_mk cL ([x2,x4]:List aA)
  have:=k7 (aE.mk y24 []) (aE.mk cL ([x2,x4]:List aA))
  have:=aO.wt_mk cV ([gF]:LB) ([(aE.mk y24 []),(aE.mk cL ([x2,x4]:List aA))]:List aE)
  exact oS
 have:=cG gF
 have:=bA gF
 have:fX.size=3:=rfl
 have:=(aX:wl ([]:List aA)=0∧_)
 have:=aE.wt_mk fX []
 have:cL.size=4:=rfl
 have:=k7 x2 x4
 have:=aE.wt_mk cL ([x2,x4]:List aA)
 have:=k7 (aE.mk fX []) (aE.mk cL ([x2,x4]:List aA))
 have:=aO.wt_mk cV ([gF]:LB) ([(aE.mk fX []),(aE.mk cL ([x2,x4]:List aA))]:List aE)
 exact oS
def ak4(fu:Nat):Prop:= ∀(pF:DS),Ok (RO fu pF) (fun r=>wt r.1≤12000000)
theorem QH:bS ak4:=(((((bS.ge 2147483648).and HO).and L5).and L6).and VL).imp fun fu ⟨⟨⟨⟨hfu,HO⟩,L5⟩,L6⟩,VL⟩ pF=>by
 refine Ok.lt fun d1 h1=>?_
 have:=DS.below_lt pF (n:=5) (by decide)
 have:=(aX:wl ([]:List aV)=0∧_)
 have:=(aX:wl ([]:List aO)=0∧_)
 have:=(aX:wl ([]:List aL)=0∧_)
 have:=(aX:wl ([]:List aP)=0∧_)
 refine Ok.sok (E:=fun(v9,v10,v11,v12,v4)=>wl v9+wl v10+wl v11+wl v12≤10000005) ?_ ?_
 ·refine Ok.loop0 (fun i3 (v9,v10,v11,v12,v4)=>wl v9+wl v10+wl v11+wl v12≤2000001*i3∧i3≤5) (by exact bR) (by rintro i3 ⟨v9,v10,v11,v12,v4⟩-hI;(try dsimp only at hI ⊢);omega) ?_;rintro i3 ⟨v9,v10,v11,v12,v4⟩ hl3 hI4
  dsimp only at hI4
  refine Ok.lt fun d15 h5=>?_;refine oC (fun g6=>?_) fun g6=>?_
  ·refine vH (HO d15) fun x19 x20 h7=>?_
   dsimp only at h7
   have:=bB (v9)
   have:=cG x19
   refine oG fun z8=>?_
   have:=b8 v9 ([x19]:List aV)
   exact qD
  refine oC (fun g9=>?_) fun g9=>?_
  ·refine vH (L5 d15) fun x24 x25 h10=>?_
   dsimp only at h10
   have:=bB (v10)
   have:=cG x24
   refine oG fun z11=>?_
   have:=b8 v10 ([x24]:List aO)
   exact qD
  refine oC (fun g12=>?_) fun g12=>?_
  ·refine vH (L6 d15) fun x29 x30 h13=>?_
   dsimp only at h13
   have:=bB (v11)
   have:=cG x29
   refine oG fun z14=>?_
   have:=b8 v11 ([x29]:List aL)
   exact qD
  refine vH (VL d15) fun x33 x34 h15=>?_
  dsimp only at h15
  have:=bB (v12)
  have:=cG x33
  refine oG fun z16=>?_
  have:=b8 v12 ([x33]:List aP)
  exact qD
 rintro⟨v9,v10,v11,v12,v4⟩ h2
 dsimp only at h2
 refine Ok.lt fun d36 h17=>?_;refine oC (fun g18=>?_) fun g18=>?_
 ·have:s_.size=0:=rfl
  have:gG.size=4:=rfl
  have:=k7 s_ gG
  have:=bA s_
  have:=bA gG
  refine Ok.lt fun d39 h19=>Ok.lt fun y41 h20=>?_
  have:=congrArg wt h20
  simp only [bA] at this
  have:y41.size≤4:=by rw [h20];exact DS.pick_size _ (by decide) (by decide)
  have:=cG gG
  have:=aN.wt_mk y41 ([gG]:LB) v9 v10 v11 v12
  exact oS
 refine oC (fun g21=>?_) fun g21=>?_
 ·have:gG.size=4:=rfl
  have:s_q.size=1:=rfl
  have:s_p.size=1:=rfl
  have:=GM gG s_q s_p
  have:=bA gG
  have:=bA s_q
  have:=bA s_p
  refine Ok.lt fun d44 h22=>Ok.lt fun y46 h23=>?_
  have:=congrArg wt h23
  simp only [bA] at this
  have:y46.size≤4:=by rw [h23];exact DS.pick_size _ (by decide) (by decide)
  have:=cG gG
  have:=cG y46
  have:=bA y46
  refine oG fun z24=>?_
  have:=b8 ([gG]:LB) ([y46]:LB)
  have:=aN.wt_mk s_p (([gG]:LB)++([y46]:LB)) v9 v10 v11 v12
  exact oS
 have:s_p.size=1:=rfl
 have:gG.size=4:=rfl
 have:=cG gG
 have:=bA gG
 have:=aN.wt_mk s_p ([gG]:LB) v9 v10 v11 v12
 exact oS
def adY(fu:Nat):Prop:= ∀(pc:DS),Ok (IL fu pc) (fun r=>wt r.1≤13000000)
theorem aeU:bS adY:=(((bS.ge 2147483648).and MA).and QH).imp fun fu ⟨⟨hfu,MA⟩,QH⟩ pc=>by
 refine vH (MA pc) fun x2 x3 h1=>?_
 dsimp only at h1
 refine Ok.lt fun d4 h2=>?_;refine oC (fun g3=>?_) fun g3=>?_
 ·refine vH (QH d4) fun x8 x9 h4=>?_
  dsimp only at h4
  have:=aH.wt_eq x2
  have:=bB (x2.aBr)
  have:=cG x8
  refine oG fun z5=>?_
  have:=b8 x2.aBr ([x8]:List aN)
  have:=aH.wt_mk (x2.aBr++([x8]:List aN))
  exact oS
 have:=aH.wt_eq x2
 have:=aH.wt_mk x2.aBr
 exact oS
end Go.Proofs.YtfcoaagbccmahaaGreat.W

namespace Go.Proofs.YtfcoaagbccmahaaGreat
open Go.RowKit Go.Proofs
theorem ap6:(Tryz.prog.info? 52).map (·.size)=some 2:=by kernel_rfl
end Go.Proofs.YtfcoaagbccmahaaGreat

namespace Go.Proofs.YtfcoaagbccmahaaGreat
def X1{α:Type}(p:α→Bool):List α→Nat→Int
 | [],_=> -1
 |a::l,i=>if p a then i else X1 p l (i+1)
theorem alY{α:Type}{p:α→Bool}{l:List α}{k:Nat}(h:k<l.length):X1 p (l.drop k) k=if p l[k] then(k:Int) else X1 p (l.drop (k+1)) (k+1):=by
 rw [List.drop_eq_getElem_cons h,X1]
end Go.Proofs.YtfcoaagbccmahaaGreat

namespace Go.Proofs.YtfcoaagbccmahaaGreat
open Go.RowKit Go.Proofs
set_option maxRecDepth 100000 in
set_option maxHeartbeats 1000000 in
theorem X5{α:Type}(tr:α→List Tr)(p:α→Bool)(xs:List α)(g:FuncId)(caps:Array Value)(hg: ∀(args:Array Value) (w:World),(callFunc g args).run Tryz.prog w= .ok (.enter g args) w)(hl: ∀x,(tr x).length=2)(s:Value)(w:World)
 (H: ∀x∈xs,∀cs w',uB w w'→gJ w' (tr x) cs→Calls Tryz.prog g (#[.agg ⟨cs⟩]++caps) w' fun e w''=>e= .returned (.bool (p x))∧uB w' w'')
 (hs:J0 w (.row 2 (xs.map tr)) s):
 Calls Tryz.prog 183 #[s,.func (.func g) #[] caps] w fun e w'=>e= .returned (.int .i64 (X1 p xs 0))∧uB w w':=by
 obtain⟨a,cap,rfl,hlc,hm⟩:=hs.shape
 unfold maxLen at hm
 rw [List.length_map] at hlc ⊢
 rw [List.length_map] at hs
 have HS:=Lib.hid hs
 have HH:=Lib.hid H
 have HL:=Lib.hid hl
 clear hs H hl
 go_enter Tryz.func183,Tryz.ntmps183
 go_wp2_with fail
 go_loopw [5,8] (fun _ i wr=> ∃k:Nat,k≤xs.length∧i= .int .i64 k∧uB w wr∧Hid (X1 p xs 0=X1 p (xs.drop k) k)) (fun _ i _=>xs.length-(intOf i).toNat)
 case atStart=>exact⟨0,Nat.zero_le _,rfl,.refl _,rfl⟩
 case round=>
  obtain⟨k,hk,rfl,hw,HE⟩:=hrel
  by_cases hlt:k<xs.length
  ·obtain⟨b,off,cs,rfl,hb,hcs,hc⟩:=(HS.out.ext hw).at2 (k:=k) (e:=tr xs[k]) (by rw [List.getElem?_map,List.getElem?_eq_getElem hlt];rfl)
   have HST:=Lib.hid (alY (p:=p) hlt)
   have HM:=Lib.hid (List.getElem_mem hlt)
   have HCS:=Lib.hid hcs
   have HC:=Lib.hid hc
   have HI:Hid ((Tryz.prog.info? 52).map (·.size)=some cs.length):=by rw [← hcs.length,HL.out];exact ap6
   clear hcs hc
   go_wp2_with (refine k8 rfl 52 (.tmp 14) rfl b (off+k*2) rfl cs _ Tryz.underlying52 HI.out HC.out ?_)
   refine(HH.out _ HM.out _ _ hw HCS.out).mono ?_;rintro e w1 ⟨rfl,hw1⟩
   have HW1:=Lib.hid (hw.trans hw1)
   clear hw1
   cases hp:p xs[k]
   ·have HP:=Lib.hid hp
    clear hp
    go_wp2_with fail
    go_roundw
    case rel=>exact⟨k+1,by omega,by go_num,HW1.out,by rw [HE.out,HST.out,HP.out];rfl⟩
    case measure=>simp [intOf];omega
   ·have HP:=Lib.hid hp
    clear hp
    go_wp2_with fail
    go_ret
    exact⟨akO (by rw [HE.out,HST.out,HP.out];rfl),HW1.out⟩
  ·have hkl:k=xs.length:=by omega
   go_wp2_with fail
   go_ret
   exact⟨akO (by rw [HE.out,hkl,List.drop_length];rfl),hw⟩
end Go.Proofs.YtfcoaagbccmahaaGreat

namespace Go.Proofs.YtfcoaagbccmahaaGreat
open Go.RowKit
structure NF (S:Nat→Prop) (w w':World):Prop where
 os:w'.os=w.os
 tape:w'.tape=w.tape
 output:w'.output=w.output
 size:w.heap.size≤w'.heap.size
 block: ∀b,b<w.heap.size→ ¬S b→w'.heap[b]?=w.heap[b]?
theorem NF.refl(S:Nat→Prop)(w:World):NF S w w:=⟨rfl,rfl,rfl,Nat.le_refl _,fun _ _ _=>rfl⟩
theorem NF.trans{S:Nat→Prop}{a b c:World}(h:NF S a b)(k:NF S b c):NF S a c:=
 ⟨k.os.trans h.os,k.tape.trans h.tape,k.output.trans h.output,Nat.le_trans h.size k.size,fun x hx hs=>(k.block x (Nat.lt_of_lt_of_le hx h.size) hs).trans (h.block x hx hs)⟩
theorem NF.mono{S S':Nat→Prop}{a b:World}(h:NF S a b)(hS: ∀x,S x→S' x):NF S' a b:=⟨h.os,h.tape,h.output,h.size,fun x hx hn=>h.block x hx fun hs=>hn (hS x hs)⟩
theorem NF.of_ext{S:Nat→Prop}{a b:World}(h:uB a b):NF S a b:=⟨h.os,h.tape,h.output,h.size,fun x hx _=>h.block x hx⟩
theorem NF.of_grown{S:Nat→Prop}{B:Nat}{a b:World}(h:a.grownBy b (some B))(hB:S B):NF S a b:=⟨h.os,h.tape,h.output,h.size,fun x hx hs=>h.block x hx (by simp;rintro rfl;exact hs hB)⟩
theorem NF.ext{S:Nat→Prop}{a b c:World}(h:uB a b)(k:NF S b c)(hS: ∀x,S x→a.heap.size≤x):uB a c:=
 ⟨k.os.trans h.os,k.tape.trans h.tape,k.output.trans h.output,Nat.le_trans h.size k.size,fun x hx=>(k.block x (Nat.lt_of_lt_of_le hx h.size) (fun hs=>by have:=hS x hs;omega)).trans (h.block x hx)⟩
theorem AB.focus{w:World}{sz:Nat}{es:List (List Tr)}{a:Option Addr}{n cap i:Nat}{S:Nat→Prop}{e:List Tr}(h:AB w (.row sz es) (.slice a n cap) S)(hi:es[i]?=some e)(hl: ∀x∈es,x.length=sz):
 ∃b off E arr cs T,a=some ⟨b,off,none⟩∧OB w b E arr∧S b∧uD w e cs T∧(∀x,T x→S x∧x≠b)∧cs.length=sz∧(0<sz→off+i*sz+sz≤arr.size)∧(∀j v,cs[j]?=some v→arr[off+i*sz+j]?=some v)∧
  ∀w' cs' e',e'.length=sz→OB w' b E (splice arr (off+i*sz) cs')→uD w' e' cs' T→(∀x,x<w.heap.size→S x→x≠b→ ¬T x→w'.heap[x]?=w.heap[x]?)→off+i*sz+sz≤arr.size→
   AB w' (.row sz (es.set i e')) (.slice a n cap) S:=by
 cases h with
 |row c T h1 h2 h3 h4 h5 h6=>
  have hne:es≠ []:=by rintro rfl;simp at hi
  obtain⟨b,off,E,arr,rfl,hob,hs,hc⟩:=h3 hne
  have hlt:i<es.length:=(List.getElem?_eq_some_iff.1 hi).1
  have hel:e.length=sz:=hl e (List.mem_of_getElem? hi)
  have hgj: ∀j,j<sz→ ∃d,e[j]?=some d:=fun j hj=>⟨e[j]'(by omega),List.getElem?_eq_getElem _⟩
  refine⟨b,off,E,arr,(List.range sz).map (c i),fun x=> ∃j,j<sz∧T i j x,rfl,hob,hs,?_,?_,by simp,?_,?_,?_⟩
  ·refine⟨by simp [hel],fun j x=>j<sz∧T i j x,?_,?_,?_⟩
   ·intro j d hd
    have hj:j<sz:=by rw [← hel];exact(List.getElem?_eq_some_iff.1 hd).1
    exact⟨c i j,by simp [hj],(h4 i e hi j d hd).mono fun x hx=>⟨hj,hx⟩⟩
   ·intro j d hd x hx
    exact⟨j,hx⟩
   ·intro j d hd j' d' hd' hne x hx hx'
    exact h6 i e hi j d hd i e hi j' d' hd' (fun _=>hne) x hx.2 hx'.2
  ·rintro x ⟨j,hj,hx⟩
   obtain⟨d,hd⟩:=hgj j hj
   exact⟨h5 i e hi j d hd x hx,(hc i e hi j d hd).2 x hx⟩
  ·intro h0
   obtain⟨d,hd⟩:=hgj (sz-1) (by omega)
   have:=(hc i e hi _ d hd).1
   have:=(Array.getElem?_eq_some_iff.1 this).1
   omega
  ·intro j v hv
   rw [List.getElem?_map] at hv
   rcases Nat.lt_or_ge j sz with hj|hj
   ·rw [List.getElem?_range hj] at hv
    simp at hv
    obtain⟨d,hd⟩:=hgj j hj
    rw [← hv]
    exact(hc i e hi j d hd).1
   ·rw [List.getElem?_eq_none (by simpa using hj)] at hv
    simp at hv
  ·intro w' cs' e' hel' hob' how hx hfit
   obtain⟨hcl,U,u1,u2,u3⟩:=how
   have hcl:cs'.length=sz:=by omega
   have hset:(es.set i e').length=es.length:=by simp
   have get: ∀i' e2,(es.set i e')[i']?=some e2→(i'=i∧e2=e')∨(i'≠i∧es[i']?=some e2):=by
    intro i' e2 h
    rw [List.getElem?_set] at h
    split at h
    ·rename_i hii
     subst hii
     simp only [Option.some.injEq] at h
     exact .inl ⟨rfl,h.symm⟩
    ·rename_i hii
     exact .inr ⟨fun e=>hii e.symm,h⟩
   have keep: ∀i' e2,i'≠i→es[i']?=some e2→ ∀j d,e2[j]?=some d→ ∀x,T i' j x→x<w.heap.size→w'.heap[x]?=w.heap[x]?:=by
    intro i' e2 hne' he2 j d hd x hx' hxl
    refine hx x hxl (h5 i' e2 he2 j d hd x hx') ((hc i' e2 he2 j d hd).2 x hx') ?_;rintro⟨j',hj',hT⟩
    obtain⟨d',hd'⟩:=hgj j' hj'
    exact h6 i' e2 he2 j d hd i e hi j' d' hd' (fun h=>absurd h hne') x hx' hT
   rw [← hset]
   refine .row (fun i' j=>if i'=i then(cs'[j]?).getD undef else c i' j) (fun i' j=>if i'=i then U j else T i' j) (by rw [hset];exact h1) h2 ?_ ?_ ?_ ?_
   ·intro _
    refine⟨b,off,E,_,rfl,hob',hs,?_⟩
    intro i' e2 he2 j d hd
    rcases get i' e2 he2 with⟨rfl,rfl⟩|⟨hne',he2⟩
    ·simp only [if_true]
     have hj:j<sz:=by rw [← hel'];exact(List.getElem?_eq_some_iff.1 hd).1
     refine⟨?_,fun x hx'=>?_⟩
     ·have h7:=agY (arr:=arr) (o:=off+i'*sz) (vs:=cs') (by omega)
      have h8:(((splice arr (off+i'*sz) cs').toList.drop (off+i'*sz)).take cs'.length)[j]?=cs'[j]?:=by rw [h7]
      rw [List.getElem?_take,if_pos (by omega),List.getElem?_drop] at h8
      have h9:cs'[j]?=some (cs'[j]'(by omega)):=List.getElem?_eq_getElem _
      rw [h9] at h8 ⊢
      simpa using h8
     ·obtain⟨j2,hj2,hT⟩:=u2 j d hd x hx'
      obtain⟨d2,hd2⟩:=hgj j2 hj2
      exact(hc i' e hi j2 d2 hd2).2 x hT
    ·simp only [if_neg hne']
     obtain⟨q1,q2⟩:=hc i' e2 he2 j d hd
     have hl2:e2.length=sz:=hl e2 (List.mem_of_getElem? he2)
     have hj:j<sz:=by rw [← hl2];exact(List.getElem?_eq_some_iff.1 hd).1
     refine⟨?_,q2⟩
     rw [← q1]
     unfold splice
     have hsz:0<sz:=by omega
     rcases Nat.lt_or_ge i' i with hlt'|hge
     ·have h10:(i'+1)*sz≤i*sz:=Nat.mul_le_mul_right _ hlt'
      rw [Nat.succ_mul] at h10
      rw [List.getElem?_toArray,List.append_assoc,List.getElem?_append_left (by simp;omega),List.getElem?_take,if_pos (by omega)]
      simp
     ·have h10:(i+1)*sz≤i'*sz:=Nat.mul_le_mul_right _ (by omega)
      rw [Nat.succ_mul] at h10
      rw [List.getElem?_toArray,List.getElem?_append_right (by simp;omega),List.getElem?_drop]
      simp only [List.length_append,List.length_take,Array.length_toList]
      rw [Nat.min_eq_left (by omega),Array.getElem?_toList]
      congr 1
      omega
   ·intro i' e2 he2 j d hd
    rcases get i' e2 he2 with⟨rfl,rfl⟩|⟨hne',he2⟩
    ·simp only [if_true]
     obtain⟨v,hv,ho⟩:=u1 j d hd
     simpa [hv] using ho
    ·simp only [if_neg hne']
     exact(h4 i' e2 he2 j d hd).keep fun x hx' hxl=>keep i' e2 hne' he2 j d hd x hx' hxl
   ·intro i' e2 he2 j d hd x hx'
    rcases get i' e2 he2 with⟨rfl,rfl⟩|⟨hne',he2⟩
    ·simp only [if_true] at hx'
     obtain⟨j2,hj2,hT⟩:=u2 j d hd x hx'
     obtain⟨d2,hd2⟩:=hgj j2 hj2
     exact h5 i' e hi j2 d2 hd2 x hT
    ·simp only [if_neg hne'] at hx'
     exact h5 i' e2 he2 j d hd x hx'
   ·intro i' e2 he2 j d hd i'' e3 he3 j' d' hd' hne x hx1 hx2
    rcases get i' e2 he2 with⟨rfl,rfl⟩|⟨hne',he2⟩
    ·simp only [if_true] at hx1
     rcases get i'' e3 he3 with⟨rfl,rfl⟩|⟨hne'',he3⟩
     ·simp only [if_true] at hx2
      exact u3 j d hd j' d' hd' (hne rfl) x hx1 hx2
     ·simp only [if_neg hne''] at hx2
      obtain⟨j2,hj2,hT⟩:=u2 j d hd x hx1
      obtain⟨d2,hd2⟩:=hgj j2 hj2
      exact h6 i'' e3 he3 j' d' hd' i' e hi j2 d2 hd2 (fun h=>absurd h hne'') x hx2 hT
    ·simp only [if_neg hne'] at hx1
     have he2':=he2
     rcases get i'' e3 he3 with⟨rfl,rfl⟩|⟨hne'',he3⟩
     ·simp only [if_true] at hx2
      obtain⟨j2,hj2,hT⟩:=u2 j' d' hd' x hx2
      obtain⟨d2,hd2⟩:=hgj j2 hj2
      exact h6 i' e2 he2' j d hd i'' e hi j2 d2 hd2 (fun h=>absurd h hne') x hx1 hT
     ·simp only [if_neg hne''] at hx2
      exact h6 i' e2 he2 j d hd i'' e3 he3 j' d' hd' hne x hx1 hx2
end Go.Proofs.YtfcoaagbccmahaaGreat

namespace Go.Proofs.YtfcoaagbccmahaaGreat
open Go.RowKit
theorem uD.setLeaf{w:World}{ts:List Tr}{cs:List Value}{T:Nat→Prop}{j:Nat}{u:Tr}{v:Value}(h:uD w ts cs T)(hj:ts[j]?=some u)(hv:sI v):uD w (ts.set j (.leaf v)) (cs.set j v) T:=by
 obtain⟨hl,U,h1,h2,h3⟩:=h
 have hlt:j<ts.length:=(List.getElem?_eq_some_iff.1 hj).1
 have old: ∀i d,(ts.set j (.leaf v))[i]?=some d→(i=j∧d= .leaf v)∨(i≠j∧ts[i]?=some d):=by
  intro i d hd
  rw [List.getElem?_set] at hd
  split at hd
  ·rename_i hij
   subst hij
   simp only [Option.some.injEq] at hd
   exact .inl ⟨rfl,hd.symm⟩
  ·rename_i hij
   exact .inr ⟨fun e=>hij e.symm,hd⟩
 refine⟨by simp [hl],fun i x=>i≠j∧U i x,?_,?_,?_⟩
 ·intro i d hd
  rcases old i d hd with⟨rfl,rfl⟩|⟨hne,hd⟩
  ·exact⟨v,by rw [List.getElem?_set];simp [hl,hlt],.leaf hv⟩
  ·obtain⟨v',hv',ho⟩:=h1 i d hd
   exact⟨v',by rw [List.getElem?_set];rw [if_neg (fun e=>hne e.symm)];exact hv',ho.mono fun x hx=>⟨hne,hx⟩⟩
 ·intro i d hd x hx
  rcases old i d hd with⟨rfl,rfl⟩|⟨hne,hd⟩
  ·exact(hx.1 rfl).elim
  ·exact h2 i d hd x hx.2
 ·intro i d hd i' d' hd' hne x hx hx'
  rcases old i d hd with⟨rfl,rfl⟩|⟨_,hd⟩
  ·exact hx.1 rfl
  ·rcases old i' d' hd' with⟨rfl,rfl⟩|⟨_,hd'⟩
   ·exact hx'.1 rfl
   ·exact h3 i d hd i' d' hd' hne x hx.2 hx'.2
theorem uD.setRow{w:World}{ts:List Tr}{cs:List Value}{T:Nat→Prop}{j:Nat}{t:Tr}{v:Value}(h:uD w ts cs T)(hj:ts[j]?=some t)(hv:cs[j]?=some v):
 ∃U:Nat→Prop,AB w t v U∧(∀x,U x→T x)∧ ∀w' t',AB w' t' v U→(∀x,x<w.heap.size→T x→ ¬U x→w'.heap[x]?=w.heap[x]?)→uD w' (ts.set j t') cs T:=by
 obtain⟨hl,U,h1,h2,h3⟩:=h
 have hlt:j<ts.length:=(List.getElem?_eq_some_iff.1 hj).1
 obtain⟨v1,hv1,ho1⟩:=h1 j t hj
 rw [hv] at hv1
 injection hv1 with hv1
 subst hv1
 refine⟨U j,ho1,h2 j t hj,fun w' t' ho' hk=>⟨by simp [hl],U,?_,?_,?_⟩⟩
 all_goals
  have old: ∀i d,(ts.set j t')[i]?=some d→(i=j∧d=t')∨(i≠j∧ts[i]?=some d):=by
   intro i d hd
   rw [List.getElem?_set] at hd
   split at hd
   ·rename_i hij
    subst hij
    simp only [Option.some.injEq] at hd
    exact .inl ⟨rfl,hd.symm⟩
   ·rename_i hij
    exact .inr ⟨fun e=>hij e.symm,hd⟩
 ·intro i d hd
  rcases old i d hd with⟨rfl,rfl⟩|⟨hne,hd⟩
  ·exact⟨v,hv,ho'⟩
  ·obtain⟨v',hv',ho⟩:=h1 i d hd
   exact⟨v',hv',ho.keep fun x hx hxl=>hk x hxl (h2 i d hd x hx) (fun hu=>h3 i d hd j t hj hne x hx hu)⟩
 ·intro i d hd x hx
  rcases old i d hd with⟨rfl,rfl⟩|⟨hne,hd⟩
  ·exact h2 i t hj x hx
  ·exact h2 i d hd x hx
 ·intro i d hd i' d' hd' hne x hx hx'
  rcases old i d hd with⟨rfl,rfl⟩|⟨hne1,hd1⟩
  ·rcases old i' d' hd' with⟨rfl,rfl⟩|⟨_,hd2⟩
   ·exact hne rfl
   ·exact h3 i t hj i' d' hd2 hne x hx hx'
  ·rcases old i' d' hd' with⟨rfl,rfl⟩|⟨_,hd2⟩
   ·exact h3 i d hd1 i' t hj hne x hx hx'
   ·exact h3 i d hd1 i' d' hd2 hne x hx hx'
structure Foc (w0 wr:World) (b:Nat) (E:TypeId) (arr0:Array Value) (o sz:Nat) (ts:List Tr) (cs:List Value) (T:Nat→Prop):Prop where
 arr: ∃arr,OB wr b E arr∧arr.size=arr0.size∧(∀q,q<o∨o+sz≤q→arr[q]?=arr0[q]?)∧(∀j v,cs[j]?=some v→arr[o+j]?=some v)
 own:uD wr ts cs T
 chg:NF (fun x=>x=b∨T x) w0 wr
 notin: ¬T b
 len:cs.length=sz
 fit:o+sz≤arr0.size
 tlt: ∀x,T x→x<w0.heap.size
 blt:b<w0.heap.size
theorem F8{arr:Array Value}{o:Nat}{cs:List Value}(h:o+cs.length≤arr.size)(q:Nat):(splice arr o cs)[q]?=if q<o then arr[q]? else if q<o+cs.length then cs[q-o]? else arr[q]?:=by
 unfold splice
 rw [List.getElem?_toArray,List.append_assoc]
 by_cases h1:q<o
 ·rw [if_pos h1,List.getElem?_append_left (by simp;omega),List.getElem?_take,if_pos h1];simp
 ·rw [if_neg h1,List.getElem?_append_right (by simp;omega)]
  have hl:(List.take o arr.toList).length=o:=by simp;omega
  rw [hl]
  by_cases h2:q<o+cs.length
  ·rw [if_pos h2,List.getElem?_append_left (by omega)]
  ·rw [if_neg h2,List.getElem?_append_right (by omega),List.getElem?_drop,Array.getElem?_toList]
   congr 1;omega
theorem Foc.leaf{w0 wr w':World}{b:Nat}{E:TypeId}{arr0 arr:Array Value}{o sz:Nat}{ts:List Tr}{cs:List Value}{T:Nat→Prop}(h:Foc w0 wr b E arr0 o sz ts cs T){j:Nat}{u:Tr}{v:Value}(hj:ts[j]?=some u)(hv:sI v)
 (ha:OB wr b E arr) (hob:OB w' b E (splice arr (o+j) [v])) (hg:wr.grownBy w' (some b)):Foc w0 w' b E arr0 o sz (ts.set j (.leaf v)) (cs.set j v) T:=by
 obtain⟨arr1,h1,h2,h3,h4⟩:=h.arr
 have he:=ha.symm.trans h1
 injection he with he
 injection he with he
 subst he
 have hlt:j<ts.length:=(List.getElem?_eq_some_iff.1 hj).1
 have hsz:j<sz:=by rw [← h.len,h.own.1];exact hlt
 have hfit:=h.fit
 have hw:NF (fun x=>x=b) wr w':=NF.of_grown hg rfl
 refine⟨⟨_,hob,by rw [agZ (by simp;omega)];exact h2,?_,?_⟩,(h.own.setLeaf hj hv).keep fun x hx hxl=>hw.block x hxl (by rintro rfl;exact h.notin hx),h.chg.trans (hw.mono fun x hx=> .inl hx),h.notin,by rw [List.length_set];exact h.len,h.fit,h.tlt,h.blt⟩
 ·intro q hq
  rw [F8 (by simp;omega)]
  simp only [List.length_cons,List.length_nil]
  rw [← h3 q hq]
  split
  ·rfl
  ·rw [if_neg (by omega)]
 ·intro i x hx
  rw [F8 (by simp;omega)]
  simp only [List.length_cons,List.length_nil]
  rw [List.getElem?_set] at hx
  split at hx
  ·rename_i hji
   subst hji
   split at hx
   ·injection hx with hx
    subst hx
    rw [if_neg (by omega),if_pos (by omega)]
    simp
   ·simp at hx
  ·rename_i hji
   have:=h4 i x hx
   split
   ·exact this
   ·rw [if_neg (by omega)];exact this
theorem Foc.row{w0 wr:World}{b:Nat}{E:TypeId}{arr0:Array Value}{o sz:Nat}{ts:List Tr}{cs:List Value}{T:Nat→Prop}(h:Foc w0 wr b E arr0 o sz ts cs T){j:Nat}{t:Tr}{v:Value}(hj:ts[j]?=some t)(hv:cs[j]?=some v):
 ∃U:Nat→Prop,AB wr t v U∧(∀x,U x→x<wr.heap.size)∧ ∀w' t',AB w' t' v U→NF U wr w'→Foc w0 w' b E arr0 o sz (ts.set j t') cs T:=by
 obtain⟨U,hu1,hu2,hu3⟩:=h.own.setRow hj hv
 refine⟨U,hu1,fun x hx=>Nat.lt_of_lt_of_le (h.tlt x (hu2 x hx)) h.chg.size,fun w' t' ho hc=>?_⟩
 obtain⟨arr,h1,h2,h3,h4⟩:=h.arr
 have hnb: ¬U b:=fun hx=>h.notin (hu2 b hx)
 exact⟨⟨arr,(hc.block b h1.lt hnb).trans h1,h2,h3,h4⟩,hu3 w' t' ho fun x hxl _ hn=>hc.block x hxl hn,h.chg.trans (hc.mono fun x hx=> .inr (hu2 x hx)),h.notin,h.len,h.fit,h.tlt,h.blt⟩
theorem AB.take{w:World}{sz:Nat}{es:List (List Tr)}{a:Option Addr}{n cap i:Nat}{S:Nat→Prop}{e:List Tr}(h:AB w (.row sz es) (.slice a n cap) S)(hi:es[i]?=some e)(hl: ∀x∈es,x.length=sz)(hsz:0<sz)(hS: ∀x,S x→x<w.heap.size):
 ∃b off E arr cs T,a=some ⟨b,off,none⟩∧Foc w w b E arr (off+i*sz) sz e cs T∧gJ w e cs∧
  ∀w' cs' e',e'.length=sz→Foc w w' b E arr (off+i*sz) sz e' cs' T→AB w' (.row sz (es.set i e')) (.slice a n cap) S∧NF S w w':=by
 obtain⟨b,off,E,arr,cs,T,rfl,hob,hsb,how,hT,hcl,hfit,hc,hback⟩:=h.focus hi hl
 refine⟨b,off,E,arr,cs,T,rfl,⟨⟨arr,hob,rfl,fun _ _=>rfl,fun j v hv=>hc j v hv⟩,how,NF.refl _ _,fun hb=>(hT b hb).2 rfl,hcl,hfit hsz,fun x hx=>hS x (hT x hx).1,hob.lt⟩,how.rep,fun w' cs' e' he' hf=>?_⟩
 obtain⟨arr',h1,h2,h3,h4⟩:=hf.arr
 have hz:=hf.len
 have hfit:=hf.fit
 have harr:arr'=splice arr (off+i*sz) cs':=by
  apply Array.ext_getElem?
  intro q
  rw [F8 (by omega)]
  split
  ·rename_i hq
   exact h3 q (.inl hq)
  ·split
   ·rename_i hq1 hq2
    obtain⟨v,hv⟩: ∃v,cs'[q-(off+i*sz)]?=some v:=⟨cs'[q-(off+i*sz)]'(by omega),List.getElem?_eq_getElem _⟩
    rw [hv,← h4 _ v hv]
    congr 1;omega
   ·rename_i hq1 hq2
    exact h3 q (.inr (by omega))
 rw [harr] at h1
 have hch:NF S w w':=hf.chg.mono fun x hx=>by rcases hx with rfl|hx;exact hsb;exact(hT x hx).1
 exact⟨hback w' cs' e' he' h1 hf.own (fun x hxl _ hne hnt=>hf.chg.block x hxl (by rintro(h|h);exact hne h;exact hnt h)) hf.fit,hch⟩
end Go.Proofs.YtfcoaagbccmahaaGreat

namespace Go.Proofs.YtfcoaagbccmahaaGreat
open Go.RowKit Go.Proofs
theorem ZM{α:Type}(p:α→Bool): ∀(l:List α) (i:Nat),(X1 p l i= -1∧ ∀x∈l,p x=false)∨ ∃k,∃h:k<l.length,X1 p l i=((i+k:Nat):Int)∧p l[k]=true∧ ∀x∈l.take k,p x=false
 | [],i=> .inl ⟨rfl,fun x hx=>by simp at hx⟩
 |a::l,i=>by
  rw [X1]
  cases ha:p a with
  |true=>exact .inr ⟨0,by simp,by simp,by simpa using ha,by simp⟩
  |false=>
   rcases ZM p l (i+1) with⟨h1,h2⟩|⟨k,hk,h1,h2,h3⟩
   ·exact .inl ⟨by simpa using h1,fun x hx=>by
     rcases List.mem_cons.1 hx with rfl|hx
     ·exact ha
     ·exact h2 x hx⟩
   ·refine .inr ⟨k+1,by simpa using hk,?_,by simpa using h2,fun x hx=>?_⟩
    ·simp only [Bool.false_eq_true,if_false]
     rw [h1]
     congr 1
     omega
    ·rw [List.take_succ_cons] at hx
     rcases List.mem_cons.1 hx with rfl|hx
     ·exact ha
     ·exact h3 x hx
structure KU {α:Type} (p:α→Bool) (l:List α) (i j:Nat) (dk:List α):Prop where
 len:dk.length=l.length
 lt:i<j
 low:dk.take i=(l.take j).filter (fun x=> !p x)
 high: ∀q,j≤q→dk[q]?=l[q]?
theorem KU.start{α:Type}{p:α→Bool}{l:List α}{k:Nat}(hk:k<l.length)(ht:p l[k]=true)(hf: ∀x∈l.take k,p x=false):KU p l k (k+1) l:=by
 refine⟨rfl,by omega,?_,fun _ _=>rfl⟩
 rw [List.take_succ_eq_append_getElem hk,List.filter_append,List.filter_eq_self.2 (fun x hx=>by simp [hf x hx])]
 simp [ht]
theorem KU.keep{α:Type}{p:α→Bool}{l dk:List α}{i j:Nat}(h:KU p l i j dk)(hj:j<l.length)(hp:p l[j]=false):KU p l (i+1) (j+1) (dk.set i l[j]):=by
 have hl:=h.len
 have hlt:=h.lt
 refine⟨by simp [hl],by omega,?_,fun q hq=>?_⟩
 ·rw [List.take_succ_eq_append_getElem hj,List.filter_append,← h.low]
  rw [List.take_succ_eq_append_getElem (by simp;omega),List.take_set_of_le (Nat.le_refl _)]
  simp [hp]
 ·rw [List.getElem?_set_ne (by omega)]
  exact h.high q (by omega)
theorem KU.skip{α:Type}{p:α→Bool}{l dk:List α}{i j:Nat}(h:KU p l i j dk)(hj:j<l.length)(hp:p l[j]=true):KU p l i (j+1) dk:=by
 have hlt:=h.lt
 refine⟨h.len,by omega,?_,fun q hq=>h.high q (by omega)⟩
 rw [List.take_succ_eq_append_getElem hj,List.filter_append,← h.low]
 simp [hp]
theorem AB.head{w:World}{sz:Nat}{es:List (List Tr)}{a:Option Addr}{n cap i:Nat}{S:Nat→Prop}(h:AB w (.row sz es) (.slice a n cap) S)(hi:i≤es.length):AB w (.row sz (es.take i)) (.slice a i cap) S:=by
 cases h with
 |row c T h1 h2 h3 h4 h5 h6=>
  have hg: ∀q e,(es.take i)[q]?=some e→es[q]?=some e:=fun q e he=>by
   rw [List.getElem?_take] at he
   split at he
   ·exact he
   ·cases he
  have hl:(es.take i).length=i:=by simp;omega
  have:=AB.row (w:=w) (sz:=sz) (es:=es.take i) (a:=a) (cap:=cap) (S:=S) c T (by omega) h2 (fun hne=>by
   obtain⟨b,off,E,arr,ha,hob,hs,hc⟩:=h3 (fun h0=>hne (by rw [h0];simp))
   exact⟨b,off,E,arr,ha,hob,hs,fun q e he=>hc q e (hg q e he)⟩) (fun q e he=>h4 q e (hg q e he)) (fun q e he=>h5 q e (hg q e he)) (fun q e he j d hd q' e' he'=>h6 q e (hg q e he) j d hd q' e' (hg q' e' he'))
  rwa [hl] at this
theorem uD.flat{w0 w:World}{S:Nat→Prop}: ∀ {ts:List Tr} {cs:List Value},gJ w0 ts cs→(∀d∈ts,∃v,d= .leaf v)→uD w ts cs S
 | [],cs,h,_=>by
  obtain rfl:=gJ.nil_eq h
  exact uD.nil _ _
 |t::ts,cs,h,hf=>by
  obtain⟨v,rfl⟩:=hf t (by simp)
  cases cs with
  |nil=>exact h.elim
  |cons c cs=>
   obtain⟨rfl,hv⟩:=h.1.leaf_eq
   exact uD.cons_leaf hv (uD.flat h.2 fun d hd=>hf d (List.mem_cons_of_mem _ hd))
theorem VU(x:aF): ∀d∈aF.tr x,∃v,d= .leaf v:=by
 obtain⟨a,b⟩:=x
 intro d hd
 simp only [aF.tr,List.mem_append,List.mem_singleton,List.not_mem_nil,or_false] at hd
 rcases hd with rfl|rfl
 ·exact⟨_,rfl⟩
 ·exact⟨_,rfl⟩
theorem X8{P:Program}(t e ty:TypeId)(z:Value)(ht:P.underlying t=some (.slice e))(hv: ∀w,(zeroValue e).run P w= .ok z w)(B off n c:Nat)(E:TypeId)(arr:Array Value)(w:World)(hob:OB w B E arr)(hn:0<n)(zs:List Value)(hz:(Builtin.zeroCells z.cells n).toList=zs)
 (hfit:off+zs.length≤arr.size) (h1: ∀v∈zs,v.oneCell'=true):(Builtin.clear_ #[t] ty #[.slice (some ⟨B,off,none⟩) n c]).run P w= .ok (.tuple #[]) (w.setRow B (splice arr off zs)):=by
 have hst:=run_storeCells_at P B off E zs 0 arr w hob (by simpa using hfit) h1
 simp only [Nat.add_zero] at hst
 obtain⟨m,rfl⟩: ∃m,n=m+1:=⟨n-1,by omega⟩
 simp [Builtin.clear_,run_underlying ht,hv,hz,hst,splice]
theorem AB.cellsSame{w w':World}{sz b off n cap:Nat}{es:List (List Tr)}{S:Nat→Prop}{E E':TypeId}{arr arr':Array Value}(h:AB w (.row sz es) (.slice (some ⟨b,off,none⟩) n cap) S)(hob:OB w b E arr)(hob':OB w' b E' arr')
 (hc: ∀q j,q<es.length→j<sz→arr'[off+q*sz+j]?=arr[off+q*sz+j]?) (hl: ∀e∈es,e.length=sz) (hf: ∀e∈es,∀d∈e,∃v,d= .leaf v):AB w' (.row sz es) (.slice (some ⟨b,off,none⟩) n cap) S:=by
 cases h with
 |row c T h1 h2 h3 h4 h5 h6=>
  refine .row c (fun _ _ _=>False) h1 h2 (fun hne=>?_) (fun i e he j d hd=>?_) (fun _ _ _ _ _ _ x hx=>hx.elim) (fun _ _ _ _ _ _ _ _ _ _ _ _ _ x hx=>hx.elim)
  ·obtain⟨b1,off1,E1,arr1,ha,ho,hs,hcc⟩:=h3 hne
   obtain⟨rfl,rfl⟩:b=b1∧off=off1:=by simpa using ha
   have he:arr1=arr∧E1=E:=by
    have:=ho.symm.trans hob
    simpa using this
   obtain⟨rfl,rfl⟩:=he
   refine⟨b,off,E',arr',rfl,hob',hs,fun i e he j d hd=>⟨?_,fun x hx=>hx.elim⟩⟩
   have hle:=hl e (List.mem_of_getElem? he)
   rw [hc i j (List.getElem?_eq_some_iff.1 he).1 (by rw [← hle];exact(List.getElem?_eq_some_iff.1 hd).1)]
   exact(hcc i e he j d hd).1
  ·obtain⟨v,rfl⟩:=hf e (List.mem_of_getElem? he) d (List.mem_of_getElem? hd)
   obtain⟨hv,hl⟩:=(h4 i e he j _ hd).rep.leaf_eq
   rw [hv]
   exact .leaf hl
theorem aj5(a b:Value)(n:Nat):(Builtin.zeroCells #[a,b] n).toList.length=n*2∧ ∀v∈(Builtin.zeroCells #[a,b] n).toList,v=a∨v=b:=by
 refine⟨by simp [Builtin.zeroCells],fun v hv=>?_⟩
 simp only [Builtin.zeroCells,Array.toList_map,List.mem_map] at hv
 obtain⟨i,_,rfl⟩:=hv
 have:i%2=0∨i%2=1:=by omega
 rcases this with h|h<;>simp [h]
set_option maxRecDepth 100000 in
set_option maxHeartbeats 2000000 in
theorem UR(l:List aF)(p:aF→Bool)(g:FuncId)(caps:Array Value)(hg: ∀(args:Array Value) (w:World),(callFunc g args).run Tryz.prog w= .ok (.enter g args) w)(s:Value)(w:World)(S:Nat→Prop)(hS: ∀x,S x→x<w.heap.size)
 (H: ∀x∈l,∀cs W,NF S w W→gJ W (aF.tr x) cs→Calls Tryz.prog g (#[.agg ⟨cs⟩]++caps) W fun e W'=>e= .returned (.bool (p x))∧uB W W')
 (hs:AB w (.row 2 (l.map aF.tr)) s S):
 Calls Tryz.prog 179 #[s,.func (.func g) #[] caps] w fun e w'=> ∃v,e= .returned v∧NF S w w'∧AB w' (.row 2 ((l.filter (fun x=> !p x)).map aF.tr)) v S:=by
 obtain⟨a,cap,rfl,hlc,hm⟩:=hs.rep.shape
 unfold maxLen at hm
 rw [List.length_map] at hlc
 rw [List.length_map] at hs ⊢
 have HS:=Lib.hid hs
 have HH:=Lib.hid H
 have HSS:=Lib.hid hS
 clear hs H hS
 go_enter Tryz.func179,Tryz.ntmps179
 go_wp2_with fail
 refine(X5 aF.tr p l g caps hg aF.tr_len _ _ (fun x hx cs w' hw hr=>HH.out x hx cs w' (.of_ext hw) hr) HS.out.rep).mono ?_;rintro e w1 ⟨rfl,hw1⟩
 have HW1:=Lib.hid hw1
 clear hw1
 rcases ZM p l 0 with⟨e1,hall⟩|⟨k0,hk0,e1,ht,hall⟩
 ·have HA:=Lib.hid hall
  rw [e1]
  clear hall e1
  go_wp2_with fail
  go_ret
  refine⟨_,rfl,.of_ext HW1.out,?_⟩
  rw [List.filter_eq_self.2 (fun x hx=>by simp [HA.out x hx])]
  exact HS.out.ext HW1.out
 ·have HD:=Lib.hid (KU.start hk0 ht hall)
  rw [e1,Nat.zero_add]
  clear ht hall e1
  have hne: ¬((k0:Int)= -1):=by omega
  go_wp2_with fail
  go_loopw [5,6] (fun iv jv wr=> ∃(i j:Nat) (dk:List aF),iv= .int .i64 i∧jv= .int .i64 j∧i<j∧j≤l.length∧Hid (KU p l i j dk)∧Hid (NF S w wr)∧Hid (AB wr (.row 2 (dk.map aF.tr)) (.slice a l.length cap) S)) (fun _ jv _=>l.length-(intOf jv).toNat)
  case atStart=>exact⟨k0,k0+1,l,rfl,by go_num,by omega,by omega,HD.out,NF.of_ext HW1.out,HS.out.ext HW1.out⟩
  case round=>
   obtain⟨i,j,dk,rfl,rfl,hij,hjl,HD1,HC1,HO1⟩:=hrel
   by_cases hlt:j<l.length
   ·have hdl:=HD1.out.len
    have hjd:dk[j]?=some l[j]:=by rw [HD1.out.high j (Nat.le_refl _)];exact List.getElem?_eq_getElem hlt
    obtain⟨b,off,cs,rfl,hb,hcs,hc⟩:=(HO1.out.rep).at2 (k:=j) (e:=aF.tr l[j]) (by rw [List.getElem?_map,hjd];rfl)
    have HM:=Lib.hid (List.getElem_mem hlt)
    have HCS:=Lib.hid hcs
    have HC:=Lib.hid hc
    have HCL:Hid (cs.length=2):=by rw [← hcs.length];exact aF.tr_len _
    have HI:Hid ((Tryz.prog.info? 52).map (·.size)=some cs.length):=by rw [HCL.out];exact ap6
    have HDL:=Lib.hid hdl
    clear hcs hc hdl hjd
    go_wp2_with (first
     |(refine k8 rfl 52 (.tmp 24) rfl b (off+j*2) rfl cs _ Tryz.underlying52 HI.out HC.out ?_)
     |(refine sF rfl 52 (.tmp 7) (.tmp 25) rfl wr.heap.size 0 rfl cs rfl 52 _ (OB.new wr _ _) HI.out (by rw [HCL.out];exact Nat.le_refl _) HCS.out.one ?_;intro w2 hob hgb hzb;rw [F9 (by rw [HCL.out];rfl)] at hob;have HOB:=Lib.hid hob;have HXB:=Lib.hid (P4 (.alloc (.refl wr) _) hgb (Nat.le_refl _));clear hob hgb hzb)
     |(refine k8 rfl 52 (.tmp 7) rfl wr.heap.size 0 rfl cs _ Tryz.underlying52 HI.out HOB.out.cells0 ?_))
    refine(HH.out _ HM.out cs w2 (HC1.out.trans (.of_ext HXB.out)) (HCS.out.ext HXB.out)).mono ?_;rintro e w3 ⟨rfl,hw3⟩
    have HW3:=Lib.hid (HXB.out.trans hw3)
    have HOB3:=Lib.hid (HOB.out.ext hw3)
    have HC3:=Lib.hid (HC1.out.trans (.of_ext HW3.out))
    have HO3:=Lib.hid (HO1.out.ext HW3.out)
    clear hw3
    cases hp:p l[j] with
    |true=>
     have HP:=Lib.hid hp
     clear hp
     go_wp2_with fail
     refine⟨⟨_,_,_,_,_,_,_,_,_,_,_,_,_,_,_,_,_,_,_,_,_,_,_,?rel,rfl⟩,?measure⟩
     case rel=>exact⟨i,j+1,dk,rfl,by go_num,by omega,by omega,HD1.out.skip hlt HP.out,HC3.out,HO3.out⟩
     case measure=>simp [intOf];omega
    |false=>
     have HP:=Lib.hid hp
     clear hp
     have hid:i<dk.length:=by have:=HDL.out;omega
     obtain⟨b2,off2,E0,arr0,cs0,T,hab,hob,hsb,how,hT,hcl,hfit,hcc,hback⟩:=HO3.out.focus (i:=i) (e:=aF.tr dk[i]) (by rw [List.getElem?_map,List.getElem?_eq_getElem hid];rfl) (by intro x hx;obtain⟨y,_,rfl⟩:=List.mem_map.1 hx;exact aF.tr_len _)
     obtain⟨rfl,rfl⟩:b=b2∧off=off2:=by simpa using hab
     have HOBb:=Lib.hid hob
     have HSB:=Lib.hid hsb
     have HBK:=Lib.hid hback
     have HFIT:=Lib.hid (hfit (by omega))
     clear hob hsb how hT hcl hfit hcc hback hab
     go_wp2_with (first
      |(refine k8 rfl 52 (.tmp 7) rfl wr.heap.size 0 rfl cs _ Tryz.underlying52 HI.out HOB3.out.cells0 ?_)
      |(refine sF rfl 52 (.tmp 33) (.tmp 32) rfl b (off+i*2) rfl cs rfl E0 arr0 HOBb.out HI.out (by rw [HCL.out];exact HFIT.out) HCS.out.one ?_;intro w4 hob4 hg4 hz4;have HOB4:=Lib.hid hob4;have HG4:=Lib.hid hg4;clear hob4 hg4 hz4))
     refine⟨⟨_,_,_,_,_,_,_,_,_,_,_,_,_,_,_,_,_,_,_,_,_,_,_,?rel,rfl⟩,?measure⟩
     case rel=>
      refine⟨i+1,j+1,dk.set i l[j],by go_num,by go_num,by omega,by omega,HD1.out.keep hlt HP.out,HC3.out.trans (NF.of_grown HG4.out HSB.out),?_⟩
      show AB _ _ _ _
      rw [List.map_set]
      exact HBK.out w4 cs _ (aF.tr_len _) HOB4.out (uD.flat HCS.out (VU _)) (fun x hx _ hne _=>HG4.out.block x hx (by simpa using hne)) HFIT.out
     case measure=>simp [intOf];omega
   ·obtain rfl:j=l.length:=by omega
    have hdl:=HD1.out.len
    have hil:l.length-1<dk.length:=by omega
    obtain⟨b,off,E0,arr0,cs0,T,rfl,hob,hsb,how,hT,hcl,hfit,hcc,hback⟩:=HO1.out.focus (i:=l.length-1) (e:=aF.tr dk[l.length-1]) (by rw [List.getElem?_map,List.getElem?_eq_getElem hil];rfl) (by intro x hx;obtain⟨y,_,rfl⟩:=List.mem_map.1 hx;exact aF.tr_len _)
    have HOBb:=Lib.hid hob
    have HSB:=Lib.hid hsb
    have hfit2:=hfit (by omega)
    have hfz:off+i*2+(l.length-i)*2≤arr0.size:=by omega
    have HDL:=Lib.hid hdl
    clear hob hsb how hT hcl hfit hcc hback hil hfit2 hdl
    obtain⟨hzl,hzm⟩:=aj5 (.int .i64 0) (.int .i64 0) (l.length-i)
    have hz33: ∀w,(zeroValue 52).run Tryz.prog w= .ok (.agg #[.int .i64 0,.int .i64 0]) w:=fun w=>rfl
    have hcl: ∀ty,(Builtin.clear_ #[198] ty #[.slice (some ⟨b,off+i*2,none⟩) (l.length-i) (cap-i)]).run Tryz.prog wr= .ok (.tuple #[]) (wr.setRow b (splice arr0 (off+i*2) (Builtin.zeroCells #[.int .i64 0,.int .i64 0] (l.length-i)).toList)):=fun ty=>
     X8 198 52 ty (.agg #[.int .i64 0,.int .i64 0]) Tryz.underlying198 hz33 b (off+i*2) (l.length-i) (cap-i) E0 arr0 wr HOBb.out (by omega) _ rfl (by rw [hzl];exact hfz) (fun v hv=>by rcases hzm v hv with rfl|rfl<;>rfl)
    have HFZ:=Lib.hid hfz
    have HZL:=Lib.hid hzl
    clear hzm hz33 hfz hzl
    generalize(Builtin.zeroCells #[.int .i64 0,.int .i64 0] (l.length-i)).toList=zs at*
    go_wp2_with fail
    go_ret
    have hob5:OB (wr.setRow b (splice arr0 (off+i*2) zs)) b E0 (splice arr0 (off+i*2) zs):=setRow_heap wr b arr0 _ E0 _ HOBb.out
    refine⟨_,rfl,HC1.out.trans ?_,?_⟩
    ·exact⟨rfl,rfl,rfl,by simp,fun k _ hk=>setRow_other wr b k _ (fun e=>hk (by rw [e];exact HSB.out))⟩
    ·have hd:=HD1.out.low
     rw [List.take_length] at hd
     rw [← hd,List.map_take]
     have hh:=HO1.out.head (i:=i) (by have:=HDL.out;simp;omega)
     have:=HDL.out
     refine hh.cellsSame HOBb.out hob5 (fun q j hq hj=>?_) (fun e he=>?_) (fun e he=>?_)
     ·have hq2:q<i:=by rw [List.length_take] at hq;omega
      rw [F8 (by rw [HZL.out];exact HFZ.out),if_pos (by omega)]
     ·obtain⟨y,_,rfl⟩:=List.mem_map.1 (List.mem_of_mem_take he)
      exact aF.tr_len _
     ·obtain⟨y,_,rfl⟩:=List.mem_map.1 (List.mem_of_mem_take he)
      exact VU _
end Go.Proofs.YtfcoaagbccmahaaGreat

namespace Go.Proofs.YtfcoaagbccmahaaGreat.W
set_option maxRecDepth 100000
set_option maxHeartbeats 40000000
noncomputable section
open Tryz Go.RowKit Go.Proofs
attribute [local irreducible] lt
def rW(fu:Nat)(pw:aH)(i1:Nat)(v3:List aF):((List aF)×Int)→Option (LR ((List aF)×Int) (LR ((List aF)) ((List aF)))):=fun(v8,v7)=>lt (aT pw.aBr i1) fun y11=>sw (decide (v7<(y11.aBE.length:Int))) (gd ((v8).length+(([(aF.mk (i1:Int) v7)]:List aF)).length≤68719476736) (some (.next ((v8++([(aF.mk (i1:Int) v7)]:List aF)),(aZ (v7+1)))))) (some (.brk (v8,v7)))
def wF(fu:Nat)(pw:aH):Nat→((List aF))→Option (LR ((List aF)) ((List aF))):=fun i1 v3=>so (loopW (rW fu pw i1 v3) fu (v3,0)) fun(v8,v7)=>some (.next v8)
def s8(fu:Nat)(pw:aH):Option ((List aF)):=so (loopN (wF fu pw) (pw.aBr.length-0) 0 ([])) fun v3=>some v3
theorem QT(fu:Nat)(pw:aH)(r:(List aF))(H:s8 fu pw=some r):bQ Tryz.prog 209 [(aH.pv pw)] (cZ r):=by
 refine qJ func209 H (fun C hC H=>?_)
 refine gQ 2 ?_;refine q1 (fE ([aR pw.aBr])) ?_;refine gQ 4 ?_;refine q1 (nU ([]:List aF)) ?_;refine gQ 7 ?_;refine cO.fact (cK 0 0 rfl rfl rfl (aN.trs_len _)) (fun hl4=>?_)
 refine bU (σ:=(List aF)) (fun i1 v3=>⟨[(1,.ptr 0 0),(2,.nil),(3,fU v3 0),(4,pN i1)],⟨[some ⟨26,[aR pw.aBr]⟩],[⟨52,2,aF.trs (v3),false⟩]⟩⟩) (fun v3=>⟨[(2,.nil),(3,fU v3 0)],⟨[some ⟨26,[aR pw.aBr]⟩],[⟨52,2,aF.trs (v3),false⟩]⟩⟩) (eJ H) ?_ ?_
 ·rintro i1 v3 H
  refine gQ 9 ?_;refine cT H (fun h5 h5l H=>?_) (fun h5 H=>?_)
  ·refine gQ 7 ?_;refine fS 3 (aF.trs_len _) (fun hl10=>?_)
   refine SC (σ:=(List aF)×Int) (fun(v8,v7)=>⟨[(1,.ptr 0 0),(2,.nil),(3,fU v8 0),(4,pN i1),(5,pI v7),(7,pN i1),(8,.ptr 0 0),(9,aR pw.aBr),(10,pN pw.aBr.length),(11,pB (decide ((i1:Int)<(pw.aBr.length:Int))))],⟨[some ⟨26,[aR pw.aBr]⟩],[⟨52,2,aF.trs (v8),false⟩]⟩⟩) (fun(v8,v7)=>⟨[(1,.ptr 0 0),(2,.nil),(3,fU v8 0),(4,pN i1),(5,pI v7),(7,pN i1),(8,.ptr 0 0),(9,aR pw.aBr),(10,pN pw.aBr.length),(11,pB (decide ((i1:Int)<(pw.aBr.length:Int))))],⟨[some ⟨26,[aR pw.aBr]⟩],[⟨52,2,aF.trs (v8),false⟩]⟩⟩) (eJ H) ?_ ?_
   ·rintro k9 ⟨v8,v7⟩ H
    refine gQ 7 ?_;refine fZ H fun y11 h12 H=>(q1 (xW h12 h5l) ?_)
    refine gQ 2 ?_;refine X7 20 (aL.trs_len _) (fun hl13=>?_)
    refine gQ 3 ?_;refine bF H (fun h14 H=>?_) (fun h14 H=>?_)
    ·refine gQ 8 ?_;refine q1 (fY ([(aF.mk (i1:Int) v7)]:List aF)) (cA H fun z15 H=>(q1 (jO z15) ?_))
     exact gE 7
    exact gE 0
   rintro⟨v8,v7⟩ H
   exact gE 5
  exact gE 0
 rintro v3 H
 exact gE 5
def DX(fu:Nat)(pw:aH)(i1:Nat)(v3:List aF)(y6:aN):Nat→((List aF))→Option (LR ((List aF)) (LR ((List aF)) ((List aF)))):=fun i9 v11=>gd ((v11).length+(([(aF.mk (i1:Int) (i9:Int))]:List aF)).length≤68719476736) (some (.next (v11++([(aF.mk (i1:Int) (i9:Int))]:List aF))))
def vR(fu:Nat)(pw:aH):Nat→((List aF))→Option (LR ((List aF)) ((List aF))):=fun i1 v3=>lt (aT pw.aBr i1) fun y6=>so (loopN (DX fu pw i1 v3 y6) (y6.aBE.length-0) 0 v3) fun v11=>some (.next v11)
def s6(fu:Nat)(pw:aH):Option ((List aF)):=so (loopN (vR fu pw) (pw.aBr.length-0) 0 ([])) fun v3=>some v3
theorem alM(fu:Nat)(pw:aH)(r:(List aF))(H:s6 fu pw=some r):bQ Tryz.prog 180 [(aH.pv pw)] (cZ r):=by
 refine qJ func180 H (fun C hC H=>?_)
 refine gQ 2 ?_;refine q1 (fE ([aR pw.aBr])) ?_;refine gQ 4 ?_;refine q1 (nU ([]:List aF)) ?_;refine gQ 10 ?_;refine fS 9 (aN.trs_len _) (fun hl4=>?_)
 refine bU (σ:=(List aF)) (fun i1 v3=>⟨[(2,.nil),(3,fU v3 0),(9,aR pw.aBr),(10,pN pw.aBr.length),(11,pN i1)],⟨[some ⟨26,[aR pw.aBr]⟩],[⟨52,2,aF.trs (v3),false⟩]⟩⟩) (fun v3=>⟨[(2,.nil),(3,fU v3 0)],⟨[some ⟨26,[aR pw.aBr]⟩],[⟨52,2,aF.trs (v3),false⟩]⟩⟩) (eJ H) ?_ ?_
 ·rintro i1 v3 H
  refine gQ 5 ?_;refine cT H (fun h5 h5l H=>?_) (fun h5 H=>?_)
  ·refine gQ 6 ?_;refine fZ H fun y6 h7 H=>(q1 (xW h7 h5l) (q1 (gS (aN.cs y6)) ?_))
   refine gQ 8 ?_;refine X7 17 (aL.trs_len _) (fun hl8=>?_)
   refine gQ 3 ?_;refine bU (σ:=(List aF)) (fun i9 v11=>⟨[(2,.nil),(3,fU v11 0),(4,pN i1),(5,.ptr 1 0),(9,aR pw.aBr),(10,pN pw.aBr.length),(11,pN i1),(12,pB (decide ((i1:Int)<(pw.aBr.length:Int)))),(13,pN i1),(14,.eptr (aN.cs y6)),(15,(aN.pv y6)),(16,.ptr 1 4),(17,nK y6.aBE),(18,pN y6.aBE.length),(19,pN i9)],⟨[some ⟨26,[aR pw.aBr]⟩,some ⟨141,eZ y6⟩],[⟨52,2,aF.trs (v11),false⟩]⟩⟩) (fun v11=>⟨[(2,.nil),(3,fU v11 0),(4,pN i1),(5,.ptr 1 0),(9,aR pw.aBr),(10,pN pw.aBr.length),(11,pN i1),(12,pB (decide ((i1:Int)<(pw.aBr.length:Int)))),(13,pN i1),(14,.eptr (aN.cs y6)),(15,(aN.pv y6)),(16,.ptr 1 4),(17,nK y6.aBE),(18,pN y6.aBE.length)],⟨[some ⟨26,[aR pw.aBr]⟩,some ⟨141,eZ y6⟩],[⟨52,2,aF.trs (v11),false⟩]⟩⟩) (eJ H) ?_ ?_
   ·rintro i9 v11 H
    refine gQ 5 ?_;refine cT H (fun h12 h12l H=>?_) (fun h12 H=>?_)
    ·refine gQ 13 ?_;refine q1 (fY ([(aF.mk (i1:Int) (i9:Int))]:List aF)) (cA H fun z13 H=>(q1 (jO z13) ?_))
     exact gE 6
    exact gE 0
   rintro v11 H
   exact gE 4
  exact gE 0
 rintro v3 H
 exact gE 5
theorem N4(fu:Nat)(pw:aH)(r:(List aF))(H:s6 fu pw=some r):aoV Tryz.prog 180 [(aH.pv pw)] 52 2 (aF.trs (r)) none:=by
 unfold aoV
 refine qJ func180 H (fun C hC H=>?_)
 refine gQ 2 ?_;refine q1 (fE ([aR pw.aBr])) ?_;refine gQ 4 ?_;refine q1 (nU ([]:List aF)) ?_;refine gQ 10 ?_;refine fS 9 (aN.trs_len _) (fun hl4=>?_)
 refine bU (σ:=(List aF)) (fun i1 v3=>⟨[(2,.nil),(3,fU v3 0),(9,aR pw.aBr),(10,pN pw.aBr.length),(11,pN i1)],⟨[some ⟨26,[aR pw.aBr]⟩],[⟨52,2,aF.trs (v3),false⟩]⟩⟩) (fun v3=>⟨[(2,.nil),(3,fU v3 0)],⟨[some ⟨26,[aR pw.aBr]⟩],[⟨52,2,aF.trs (v3),false⟩]⟩⟩) (eJ H) ?_ ?_
 ·rintro i1 v3 H
  refine gQ 5 ?_;refine cT H (fun h5 h5l H=>?_) (fun h5 H=>?_)
  ·refine gQ 6 ?_;refine fZ H fun y6 h7 H=>(q1 (xW h7 h5l) (q1 (gS (aN.cs y6)) ?_))
   refine gQ 8 ?_;refine X7 17 (aL.trs_len _) (fun hl8=>?_)
   refine gQ 3 ?_;refine bU (σ:=(List aF)) (fun i9 v11=>⟨[(2,.nil),(3,fU v11 0),(4,pN i1),(5,.ptr 1 0),(9,aR pw.aBr),(10,pN pw.aBr.length),(11,pN i1),(12,pB (decide ((i1:Int)<(pw.aBr.length:Int)))),(13,pN i1),(14,.eptr (aN.cs y6)),(15,(aN.pv y6)),(16,.ptr 1 4),(17,nK y6.aBE),(18,pN y6.aBE.length),(19,pN i9)],⟨[some ⟨26,[aR pw.aBr]⟩,some ⟨141,eZ y6⟩],[⟨52,2,aF.trs (v11),false⟩]⟩⟩) (fun v11=>⟨[(2,.nil),(3,fU v11 0),(4,pN i1),(5,.ptr 1 0),(9,aR pw.aBr),(10,pN pw.aBr.length),(11,pN i1),(12,pB (decide ((i1:Int)<(pw.aBr.length:Int)))),(13,pN i1),(14,.eptr (aN.cs y6)),(15,(aN.pv y6)),(16,.ptr 1 4),(17,nK y6.aBE),(18,pN y6.aBE.length)],⟨[some ⟨26,[aR pw.aBr]⟩,some ⟨141,eZ y6⟩],[⟨52,2,aF.trs (v11),false⟩]⟩⟩) (eJ H) ?_ ?_
   ·rintro i9 v11 H
    refine gQ 5 ?_;refine cT H (fun h12 h12l H=>?_) (fun h12 H=>?_)
    ·refine gQ 13 ?_;refine q1 (fY ([(aF.mk (i1:Int) (i9:Int))]:List aF)) (cA H fun z13 H=>(q1 (jO z13) ?_))
     exact gE 6
    exact gE 0
   rintro v11 H
   exact gE 4
  exact gE 0
 rintro v3 H
 refine gQ 5 ?_;refine cO.ret ?_
 obtain rfl:_=r:=(s3 H:)
 exact BD.mk (ps:= [_]) (by first|exact .inr rfl|exact .inl rfl) ⟨rfl,trivial⟩ rfl (sN.mk' (st':=⟨[],[⟨52,2,aF.trs (v3),false⟩]⟩) trivial (by first|rfl|simp)) ⟨fun k x h=>by simp [hC] at h,fun r row h=>by simp [hC] at h⟩ (q:= .acc 2 (aF.trs (v3)) 0) iX rfl ⟨0,rfl,rfl⟩
def aiA(fu:Nat)(p1:List UInt8):Option Bool:=some (decide ((p1.length:Int)>1048576))
theorem apA(fu:Nat)(p1:List UInt8)(r:Bool)(H:aiA fu p1=some r):bQ Tryz.prog 9 [rU p1] (pB r):=by
 refine qJ func9 H (fun C hC H=>?_)
 exact gE 11
def QB(fu:Nat)(pw:aH)(p0:ByteArray)(i1:Nat)(y4:aN):Nat→Unit→Option (LR Unit (LR Unit (aV×Int×Bool))):=fun i7 _=>sw (decide ((aT y4.aBI i7).aBs=p0)) (some (.ret (.ret ((aT y4.aBI i7),(i1:Int),true)))) (some (.next ()))
def QA(fu:Nat)(pw:aH)(p0:ByteArray):Nat→Unit→Option (LR Unit (aV×Int×Bool)):=fun i1 _=>lt (aT pw.aBr i1) fun y4=>so (loopN (QB fu pw p0 i1 y4) (y4.aBI.length-0) 0 ()) fun _=>some (.next ())
def D4(fu:Nat)(pw:aH)(p0:ByteArray):Option (aV×Int×Bool):=so (loopN (QA fu pw p0) (pw.aBr.length-0) 0 ()) fun _=>some ((aV.mk s_ [] false false []),0,false)
theorem QD(fu:Nat)(pw:aH)(p0:ByteArray)(r:aV×Int×Bool)(H:D4 fu pw p0=some r):bQ Tryz.prog 115 [(aH.pv pw),pS p0] (.tup [(aV.pv r.1),pI r.2.1,pB r.2.2]):=by
 refine qJ func115 H (fun C hC H=>?_)
 refine gQ 2 ?_;refine q1 (fE ([aR pw.aBr])) ?_;refine gQ 12 ?_;refine fS 12 (aN.trs_len _) (fun hl2=>?_)
 refine bU (σ:=Unit) (fun i1 _=>⟨[(1,pS p0),(4,.ptr 1 0),(5,pI 0),(6,pB false),(12,aR pw.aBr),(13,pN pw.aBr.length),(14,pN i1)],⟨[some ⟨26,[aR pw.aBr]⟩,some ⟨156,[pS s_,.nil,pB false,pB false,.nil]⟩],[]⟩⟩) (fun _=>⟨[(4,.ptr 1 0),(5,pI 0),(6,pB false)],⟨[some ⟨26,[aR pw.aBr]⟩,some ⟨156,[pS s_,.nil,pB false,pB false,.nil]⟩],[]⟩⟩) (eJ H) ?_ ?_
 ·rintro i1 ⟨⟩ H
  refine gQ 5 ?_;refine cT H (fun h3 h3l H=>?_) (fun h3 H=>?_)
  ·refine gQ 6 ?_;refine fZ H fun y4 h5 H=>(q1 (xW h5 h3l) (q1 (gS (aN.cs y4)) ?_))
   refine gQ 8 ?_;refine X7 20 (aV.trs_len _) (fun hl6=>?_)
   refine gQ 3 ?_;refine bU (σ:=Unit) (fun i7 _=>⟨[(1,pS p0),(4,.ptr 1 0),(5,pI 0),(6,pB false),(7,pN i1),(8,.ptr 2 0),(12,aR pw.aBr),(13,pN pw.aBr.length),(14,pN i1),(15,pB (decide ((i1:Int)<(pw.aBr.length:Int)))),(16,pN i1),(17,.eptr (aN.cs y4)),(18,(aN.pv y4)),(19,.ptr 2 2),(20,QR y4.aBI),(21,pN y4.aBI.length),(22,pN i7)],⟨[some ⟨26,[aR pw.aBr]⟩,some ⟨156,[pS s_,.nil,pB false,pB false,.nil]⟩,some ⟨141,eZ y4⟩],[]⟩⟩) (fun _=>⟨[(1,pS p0),(4,.ptr 1 0),(5,pI 0),(6,pB false),(7,pN i1),(8,.ptr 2 0),(12,aR pw.aBr),(13,pN pw.aBr.length),(14,pN i1),(15,pB (decide ((i1:Int)<(pw.aBr.length:Int)))),(16,pN i1),(17,.eptr (aN.cs y4)),(18,(aN.pv y4)),(19,.ptr 2 2),(20,QR y4.aBI),(21,pN y4.aBI.length)],⟨[some ⟨26,[aR pw.aBr]⟩,some ⟨156,[pS s_,.nil,pB false,pB false,.nil]⟩,some ⟨141,eZ y4⟩],[]⟩⟩) (eJ H) ?_ ?_
   ·rintro i7 ⟨⟩ H
    refine gQ 5 ?_;refine cT H (fun h8 h8l H=>?_) (fun h8 H=>?_)
    ·refine gQ 6 ?_;refine q1 (gS (aV.cs (aT y4.aBI i7))) ?_;refine gQ 10 ?_;refine bF H (fun h9 H=>?_) (fun h9 H=>?_)
     ·refine gQ 2 ?_;refine q1 (b6 [pS ((aT y4.aBI i7).aBs),rS ((aT y4.aBI i7).aBB),pB ((aT y4.aBI i7).aB1),pB ((aT y4.aBI i7).aBR),gC ((aT y4.aBI i7).aBP)]) ?_;refine gQ 5 ?_;refine cO.ret ?_
      obtain rfl:_=r:=(lkR (skL (lkR (s3 H))):)
      exact qf3
     exact gE 5
    exact gE 0
   rintro⟨⟩ H
   exact gE 4
  exact gE 0
 rintro⟨⟩ H
 exact gE 7
def VD(fu:Nat)(pw:aH)(p0:ByteArray)(i1:Nat)(y4:aN):Nat→Unit→Option (LR Unit (LR Unit (aO×Int×Bool))):=fun i7 _=>sw (decide ((aT y4.aBA i7).aBs=p0)) (some (.ret (.ret ((aT y4.aBA i7),(i1:Int),true)))) (some (.next ()))
def VC(fu:Nat)(pw:aH)(p0:ByteArray):Nat→Unit→Option (LR Unit (aO×Int×Bool)):=fun i1 _=>lt (aT pw.aBr i1) fun y4=>so (loopN (VD fu pw p0 i1 y4) (y4.aBA.length-0) 0 ()) fun _=>some (.next ())
def TZ(fu:Nat)(pw:aH)(p0:ByteArray):Option (aO×Int×Bool):=so (loopN (VC fu pw p0) (pw.aBr.length-0) 0 ()) fun _=>some ((aO.mk s_ [] []),0,false)
theorem anS(fu:Nat)(pw:aH)(p0:ByteArray)(r:aO×Int×Bool)(H:TZ fu pw p0=some r):bQ Tryz.prog 102 [(aH.pv pw),pS p0] (.tup [(aO.pv r.1),pI r.2.1,pB r.2.2]):=by
 refine qJ func102 H (fun C hC H=>?_)
 refine gQ 2 ?_;refine q1 (fE ([aR pw.aBr])) ?_;refine gQ 12 ?_;refine fS 12 (aN.trs_len _) (fun hl2=>?_)
 refine bU (σ:=Unit) (fun i1 _=>⟨[(1,pS p0),(4,.ptr 1 0),(5,pI 0),(6,pB false),(12,aR pw.aBr),(13,pN pw.aBr.length),(14,pN i1)],⟨[some ⟨26,[aR pw.aBr]⟩,some ⟨39,[pS s_,.nil,.nil]⟩],[]⟩⟩) (fun _=>⟨[(4,.ptr 1 0),(5,pI 0),(6,pB false)],⟨[some ⟨26,[aR pw.aBr]⟩,some ⟨39,[pS s_,.nil,.nil]⟩],[]⟩⟩) (eJ H) ?_ ?_
 ·rintro i1 ⟨⟩ H
  refine gQ 5 ?_;refine cT H (fun h3 h3l H=>?_) (fun h3 H=>?_)
  ·refine gQ 6 ?_;refine fZ H fun y4 h5 H=>(q1 (xW h5 h3l) (q1 (gS (aN.cs y4)) ?_))
   refine gQ 8 ?_;refine X7 20 (aO.trs_len _) (fun hl6=>?_)
   refine gQ 3 ?_;refine bU (σ:=Unit) (fun i7 _=>⟨[(1,pS p0),(4,.ptr 1 0),(5,pI 0),(6,pB false),(7,pN i1),(8,.ptr 2 0),(12,aR pw.aBr),(13,pN pw.aBr.length),(14,pN i1),(15,pB (decide ((i1:Int)<(pw.aBr.length:Int)))),(16,pN i1),(17,.eptr (aN.cs y4)),(18,(aN.pv y4)),(19,.ptr 2 3),(20,o9 y4.aBA),(21,pN y4.aBA.length),(22,pN i7)],⟨[some ⟨26,[aR pw.aBr]⟩,some ⟨39,[pS s_,.nil,.nil]⟩,some ⟨141,eZ y4⟩],[]⟩⟩) (fun _=>⟨[(1,pS p0),(4,.ptr 1 0),(5,pI 0),(6,pB false),(7,pN i1),(8,.ptr 2 0),(12,aR pw.aBr),(13,pN pw.aBr.length),(14,pN i1),(15,pB (decide ((i1:Int)<(pw.aBr.length:Int)))),(16,pN i1),(17,.eptr (aN.cs y4)),(18,(aN.pv y4)),(19,.ptr 2 3),(20,o9 y4.aBA),(21,pN y4.aBA.length)],⟨[some ⟨26,[aR pw.aBr]⟩,some ⟨39,[pS s_,.nil,.nil]⟩,some ⟨141,eZ y4⟩],[]⟩⟩) (eJ H) ?_ ?_
   ·rintro i7 ⟨⟩ H
    refine gQ 5 ?_;refine cT H (fun h8 h8l H=>?_) (fun h8 H=>?_)
    ·refine gQ 6 ?_;refine q1 (gS (aO.cs (aT y4.aBA i7))) ?_;refine gQ 10 ?_;refine bF H (fun h9 H=>?_) (fun h9 H=>?_)
     ·refine gQ 2 ?_;refine q1 (b6 [pS ((aT y4.aBA i7).aBs),rS ((aT y4.aBA i7).aBF),dF ((aT y4.aBA i7).aBx)]) ?_;refine gQ 5 ?_;refine cO.ret ?_
      obtain rfl:_=r:=(lkR (skL (lkR (s3 H))):)
      exact qf3
     exact gE 5
    exact gE 0
   rintro⟨⟩ H
   exact gE 4
  exact gE 0
 rintro⟨⟩ H
 exact gE 7
def tZ(fu:Nat)(pw:aH)(po:aF):Option (aL×Bool):=sw (decide (po.aBD<0)) (some ((aL.mk s_ [] (aA.mk 0 s_ []) [] false false (aA.mk 0 s_ []) []),false)) (sw (decide (po.aBD≥(pw.aBr.length:Int))) (some ((aL.mk s_ [] (aA.mk 0 s_ []) [] false false (aA.mk 0 s_ []) []),false)) (sw (decide (po.aBS<0)) (some ((aL.mk s_ [] (aA.mk 0 s_ []) [] false false (aA.mk 0 s_ []) []),false)) (gd (0≤po.aBD∧(po.aBD).toNat<(pw.aBr).length) (lt (aT pw.aBr ((po.aBD).toNat)) fun y5=>sw (decide (po.aBS≥(y5.aBE.length:Int))) (some ((aL.mk s_ [] (aA.mk 0 s_ []) [] false false (aA.mk 0 s_ []) []),false)) (gd (0≤po.aBS∧(po.aBS).toNat<(y5.aBE).length) (lt (aT y5.aBE ((po.aBS).toNat)) fun y9=>some (y9,true)))))))
theorem zC(fu:Nat)(pw:aH)(po:aF)(r:aL×Bool)(H:tZ fu pw po=some r):bQ Tryz.prog 118 [(aH.pv pw),(aF.pv po)] (.tup [(aL.pv r.1),pB r.2]):=by
 refine qJ func118 H (fun C hC H=>?_)
 refine gQ 2 ?_;refine q1 (fE ([aR pw.aBr])) (q1 (fE ([pI po.aBD,pI po.aBS])) ?_)
 refine gQ 5 ?_
 rcases nS (decide (po.aBD<0)) with g1|g1
 ·have H:=sE H g1
  refine dW (dI [3] bZ (dD [6] eB (dI [7] rLt (dI [8] bH ?_))))
  iterate 6 refine NB g1 ?_
  refine dI [9] (C3 g1) (dI [16] bH ?_)
  iterate 3 refine NB rfl ?_
  refine dI [17] (C3 rfl) (dI [21] bH ?_)
  iterate 11 refine NB rfl ?_
  refine dI [22] (C3 rfl) (dN ?_)
  exact gE 7
 have H:=sD H g1
 rcases nS (decide (po.aBD≥(pw.aBr.length:Int))) with g2|g2
 ·have H:=sE H g2
  refine dW (dI [3] bZ (dD [6] eB (dI [7] rLt (dI [8] bH (dI (hg:=bG g1) [3] bZ (dD (hg:=bG g1) [10] eB (dI (hg:=bG g1) [2] bZ (dD (hg:=bG g1) [12] eB (dI (hg:=bG g1) [13] tLn (dI (hg:=bG g1) [11,14] rGe (dI [9,15] (FG g1) (dI [16] bH ?_))))))))))))
  iterate 3 refine NB g2 ?_
  refine dI [17] (C3 g2) (dI [21] bH ?_)
  iterate 11 refine NB rfl ?_
  refine dI [22] (C3 rfl) (dN ?_)
  exact gE 7
 have H:=sD H g2
 rcases nS (decide (po.aBS<0)) with g3|g3
 ·have H:=sE H g3
  refine dW (dI [3] bZ (dD [6] eB (dI [7] rLt (dI [8] bH (dI (hg:=bG g1) [3] bZ (dD (hg:=bG g1) [10] eB (dI (hg:=bG g1) [2] bZ (dD (hg:=bG g1) [12] eB (dI (hg:=bG g1) [13] tLn (dI (hg:=bG g1) [11,14] rGe (dI [9,15] (FG g1) (dI [16] bH (dI (hg:=bG g2) [3] bZ ?_)))))))))))))
  refine dD (hg:=bG g2) [18] eB (dI (hg:=bG g2) [19] rLt (dI [17,20] (FG g2) (dI [21] bH ?_)))
  iterate 11 refine NB g3 ?_
  refine dI [22] (C3 g3) (dN ?_)
  exact gE 7
 have H:=sD H g3
 refine cA H fun z4 H=>(fZ H fun y5 h6 H=>(dW (dI [3] bZ (dD [6] eB (dI [7] rLt (dI [8] bH (dI (hg:=bG g1) [3] bZ (dD (hg:=bG g1) [10] eB (dI (hg:=bG g1) [2] bZ (dD (hg:=bG g1) [12] eB (dI (hg:=bG g1) [13] tLn (dI (hg:=bG g1) [11,14] rGe (dI [9,15] (FG g1) ?_)))))))))))))
 refine dI [16] bH (dI (hg:=bG g2) [3] bZ (dD (hg:=bG g2) [18] eB (dI (hg:=bG g2) [19] rLt (dI [17,20] (FG g2) (dI [21] bH (dI (hg:=bG g3) [3] bZ (dD (hg:=bG g3) [23] eB (dI (hg:=bG g3) [2] bZ (dD (hg:=bG g3) [25] eB (dI (hg:=bG g3) [3] bZ (dD (hg:=bG g3) [27] eB (dI (hg:=bG g3) [26,28] (rIm h6 z4 alJ.h) (dI (hg:=bG g3) [29] wX ?_)))))))))))))
 refine dI (hg:=bG g3) [30] vE (dI (hg:=bG g3) [31] tLn (dI (hg:=bG g3) [24,32] rGe (dI [22,33] (FG g3) (dN ?_))))
 refine bF H (fun h7 H=>gE 6) fun h7 H=>?_;refine gQ 2 ?_;refine cA H fun z8 H=>(fZ H fun y9 h10 H=>(dW (dI [2] bZ (dD [36] eB (dI [3] bZ (dD [38] eB (dI [37,39] (rIm h6 z4 alJ.h) (dI [40] wX (dI [41] vE (dI [3] bZ (dD [43] eB (dI [42,44] (rIm h10 z8 aeC.h) (dI [45] (gS (aL.cs y9)) ?_)))))))))))))
 refine iY [4,46] hM (dI [] bH (dN ?_))
 exact gE 0
def vB(fu:Nat)(pw:aH)(p0:ByteArray)(i1:Nat):Int→Option (LR Int (LR Unit (aV×Int×Bool))):=fun v4=>lt (aT pw.aBr i1) fun y6=>sw (decide (v4<(y6.aBI.length:Int))) (gd (0≤v4∧(v4).toNat<(y6.aBI).length) (sw (decide ((aT y6.aBI ((v4).toNat)).aBs=p0)) (some (.ret (.ret ((aT y6.aBI ((v4).toNat)),(i1:Int),true)))) (some (.next (v4+1))))) (some (.brk v4))
def A7(fu:Nat)(pw:aH)(p0:ByteArray):Nat→Unit→Option (LR Unit (aV×Int×Bool)):=fun i1 _=>so (loopW (vB fu pw p0 i1) fu 0) fun v4=>some (.next ())
def pX(fu:Nat)(pw:aH)(p0:ByteArray):Option (aV×Int×Bool):=so (loopN (A7 fu pw p0) (pw.aBr.length-0) 0 ()) fun _=>some ((aV.mk s_ [] false false []),0,false)
theorem A8(fu:Nat)(pw:aH)(p0:ByteArray)(r:aV×Int×Bool)(H:pX fu pw p0=some r):bQ Tryz.prog 121 [(aH.pv pw),pS p0] (.tup [(aV.pv r.1),pI r.2.1,pB r.2.2]):=by
 refine qJ func121 H (fun C hC H=>?_)
 refine gQ 2 ?_;refine q1 (fE ([aR pw.aBr])) ?_;refine gQ 9 ?_;refine cO.fact (cK 0 0 rfl rfl rfl (aN.trs_len _)) (fun hl2=>?_)
 refine bU (σ:=Unit) (fun i1 _=>⟨[(1,pS p0),(2,.ptr 0 0),(4,.ptr 1 0),(5,pI 0),(6,pB false),(7,pN i1)],⟨[some ⟨26,[aR pw.aBr]⟩,some ⟨156,[pS s_,.nil,pB false,pB false,.nil]⟩],[]⟩⟩) (fun _=>⟨[(4,.ptr 1 0),(5,pI 0),(6,pB false)],⟨[some ⟨26,[aR pw.aBr]⟩,some ⟨156,[pS s_,.nil,pB false,pB false,.nil]⟩],[]⟩⟩) (eJ H) ?_ ?_
 ·rintro i1 ⟨⟩ H
  refine gQ 9 ?_;refine cT H (fun h3 h3l H=>?_) (fun h3 H=>?_)
  ·refine gQ 7 ?_;refine SC (σ:=Int) (fun v4=>⟨[(1,pS p0),(2,.ptr 0 0),(4,.ptr 1 0),(5,pI 0),(6,pB false),(7,pN i1),(8,pI v4),(9,pN i1),(10,.ptr 0 0),(11,aR pw.aBr),(12,pN pw.aBr.length),(13,pB (decide ((i1:Int)<(pw.aBr.length:Int))))],⟨[some ⟨26,[aR pw.aBr]⟩,some ⟨156,[pS s_,.nil,pB false,pB false,.nil]⟩],[]⟩⟩) (fun v4=>⟨[(1,pS p0),(2,.ptr 0 0),(4,.ptr 1 0),(5,pI 0),(6,pB false),(7,pN i1),(8,pI v4),(9,pN i1),(10,.ptr 0 0),(11,aR pw.aBr),(12,pN pw.aBr.length),(13,pB (decide ((i1:Int)<(pw.aBr.length:Int))))],⟨[some ⟨26,[aR pw.aBr]⟩,some ⟨156,[pS s_,.nil,pB false,pB false,.nil]⟩],[]⟩⟩) (eJ H) ?_ ?_
   ·rintro k5 v4 H
    refine gQ 7 ?_;refine fZ H fun y6 h7 H=>(q1 (xW h7 h3l) ?_)
    refine gQ 2 ?_;refine X7 22 (aV.trs_len _) (fun hl8=>?_)
    refine gQ 3 ?_;refine bF H (fun h9 H=>?_) (fun h9 H=>?_)
    ·refine gQ 8 ?_;refine q1 (xW h7 h3l) ?_;refine gQ 3 ?_;refine cA H fun z10 H=>(q1 (rIy z10 ap2.h) ?_)
     refine gQ 5 ?_;refine bF H (fun h11 H=>?_) (fun h11 H=>?_)
     ·refine gQ 5 ?_;refine q1 (xW h7 h3l) ?_;refine gQ 3 ?_;refine q1 (rIy z10 ap2.h) (q1 (gS (aV.cs (aT y6.aBI ((v4).toNat)))) ?_)
      refine gQ 5 ?_;refine cO.ret ?_
      obtain rfl:_=r:=(lkR (skL (lwR (s3 H))):)
      exact qf3
     refine gQ 3 ?_;refine q1 (bD.addI rfl rfl rfl rfl (c:=v4+1) (by omega) (by omega)) ?_;exact gE 2
    exact gE 0
   rintro v4 H
   exact gE 5
  exact gE 0
 rintro⟨⟩ H
 exact gE 7
def w9(fu:Nat)(pw:aH)(p0:ByteArray)(i1:Nat):Int→Option (LR Int (LR Unit (aO×Int×Bool))):=fun v4=>lt (aT pw.aBr i1) fun y6=>sw (decide (v4<(y6.aBA.length:Int))) (gd (0≤v4∧(v4).toNat<(y6.aBA).length) (sw (decide ((aT y6.aBA ((v4).toNat)).aBs=p0)) (some (.ret (.ret ((aT y6.aBA ((v4).toNat)),(i1:Int),true)))) (some (.next (v4+1))))) (some (.brk v4))
def C0(fu:Nat)(pw:aH)(p0:ByteArray):Nat→Unit→Option (LR Unit (aO×Int×Bool)):=fun i1 _=>so (loopW (w9 fu pw p0 i1) fu 0) fun v4=>some (.next ())
def zJ(fu:Nat)(pw:aH)(p0:ByteArray):Option (aO×Int×Bool):=so (loopN (C0 fu pw p0) (pw.aBr.length-0) 0 ()) fun _=>some ((aO.mk s_ [] []),0,false)
theorem YU(fu:Nat)(pw:aH)(p0:ByteArray)(r:aO×Int×Bool)(H:zJ fu pw p0=some r):bQ Tryz.prog 53 [(aH.pv pw),pS p0] (.tup [(aO.pv r.1),pI r.2.1,pB r.2.2]):=by
 refine qJ func53 H (fun C hC H=>?_)
 refine gQ 2 ?_;refine q1 (fE ([aR pw.aBr])) ?_;refine gQ 9 ?_;refine cO.fact (cK 0 0 rfl rfl rfl (aN.trs_len _)) (fun hl2=>?_)
 refine bU (σ:=Unit) (fun i1 _=>⟨[(1,pS p0),(2,.ptr 0 0),(4,.ptr 1 0),(5,pI 0),(6,pB false),(7,pN i1)],⟨[some ⟨26,[aR pw.aBr]⟩,some ⟨39,[pS s_,.nil,.nil]⟩],[]⟩⟩) (fun _=>⟨[(4,.ptr 1 0),(5,pI 0),(6,pB false)],⟨[some ⟨26,[aR pw.aBr]⟩,some ⟨39,[pS s_,.nil,.nil]⟩],[]⟩⟩) (eJ H) ?_ ?_
 ·rintro i1 ⟨⟩ H
  refine gQ 9 ?_;refine cT H (fun h3 h3l H=>?_) (fun h3 H=>?_)
  ·refine gQ 7 ?_;refine SC (σ:=Int) (fun v4=>⟨[(1,pS p0),(2,.ptr 0 0),(4,.ptr 1 0),(5,pI 0),(6,pB false),(7,pN i1),(8,pI v4),(9,pN i1),(10,.ptr 0 0),(11,aR pw.aBr),(12,pN pw.aBr.length),(13,pB (decide ((i1:Int)<(pw.aBr.length:Int))))],⟨[some ⟨26,[aR pw.aBr]⟩,some ⟨39,[pS s_,.nil,.nil]⟩],[]⟩⟩) (fun v4=>⟨[(1,pS p0),(2,.ptr 0 0),(4,.ptr 1 0),(5,pI 0),(6,pB false),(7,pN i1),(8,pI v4),(9,pN i1),(10,.ptr 0 0),(11,aR pw.aBr),(12,pN pw.aBr.length),(13,pB (decide ((i1:Int)<(pw.aBr.length:Int))))],⟨[some ⟨26,[aR pw.aBr]⟩,some ⟨39,[pS s_,.nil,.nil]⟩],[]⟩⟩) (eJ H) ?_ ?_
   ·rintro k5 v4 H
    refine gQ 7 ?_;refine fZ H fun y6 h7 H=>(q1 (xW h7 h3l) ?_)
    refine gQ 2 ?_;refine X7 22 (aO.trs_len _) (fun hl8=>?_)
    refine gQ 3 ?_;refine bF H (fun h9 H=>?_) (fun h9 H=>?_)
    ·refine gQ 8 ?_;refine q1 (xW h7 h3l) ?_;refine gQ 3 ?_;refine cA H fun z10 H=>(q1 (rIy z10 ap3.h) ?_)
     refine gQ 5 ?_;refine bF H (fun h11 H=>?_) (fun h11 H=>?_)
     ·refine gQ 5 ?_;refine q1 (xW h7 h3l) ?_;refine gQ 3 ?_;refine q1 (rIy z10 ap3.h) (q1 (gS (aO.cs (aT y6.aBA ((v4).toNat)))) ?_)
      refine gQ 5 ?_;refine cO.ret ?_
      obtain rfl:_=r:=(lkR (skL (lwR (s3 H))):)
      exact qf3
     refine gQ 3 ?_;refine q1 (bD.addI rfl rfl rfl rfl (c:=v4+1) (by omega) (by omega)) ?_;exact gE 2
    exact gE 0
   rintro v4 H
   exact gE 5
  exact gE 0
 rintro⟨⟩ H
 exact gE 7
end
end Go.Proofs.YtfcoaagbccmahaaGreat.W

namespace Go.Proofs.YtfcoaagbccmahaaGreat.W
open Go.RowKit Go.WalkArith Go.Proofs
attribute [local irreducible] lt
theorem JZ{x:Int}(h0: -1≤x)(h1:x<9223372036854775807):aZ x=x:=by
 unfold aZ IntKind.wrap
 simp [IntKind.bits,IntKind.signed]
 omega
section
variable {β γ σ:Type}
theorem n4{f:Nat→σ→Option (LR σ β)}{q:Nat→Option γ}(g:γ→β){s:σ}{n:Nat}(hs: ∀i,i<n→f i s=some (match q i with|some r=> .ret (g r)|none=> .next s)):
 ∀k j,n-j=k→loopN f k j s=some (match(List.range' j k).findSome? q with|some r=> .inl (g r)|none=> .inr s)
 |0,j,hk=>by rw [loopN];rfl
 |k+1,j,hk=>by
  rw [loopN,hs j (by omega),List.range'_succ,List.findSome?_cons]
  cases q j with
  |some r=>rfl
  |none=>exact n4 g hs k (j+1) (by omega)
theorem MD{f:Int→Option (LR Int β)}{q:Nat→Option γ}(g:γ→β){n:Nat}(hs: ∀i:Nat,i<n→f (i:Int)=some (match q i with|some r=> .ret (g r)|none=> .next ((i+1:Nat):Int)))(he:f (n:Int)=some (.brk (n:Int))):
 ∀k j fu,n-j=k→j≤n→k<fu→loopW f fu (j:Int)=some (match(List.range' j k).findSome? q with|some r=> .inl (g r)|none=> .inr (n:Int))
 |0,j,fu,hk,hj,hf=>by
  obtain⟨m,rfl⟩: ∃m,fu=m+1:=⟨fu-1,by omega⟩
  obtain rfl:j=n:=by omega
  rw [loopW,he]
  rfl
 |k+1,j,fu,hk,hj,hf=>by
  obtain⟨m,rfl⟩: ∃m,fu=m+1:=⟨fu-1,by omega⟩
  rw [loopW,hs j (by omega),List.range'_succ,List.findSome?_cons]
  cases q j with
  |some r=>rfl
  |none=>exact MD g hs he k (j+1) m (by omega) (by omega) (by omega)
end
def tQ(w:aH)(s:ByteArray)(i:Nat):Option (aV×Int×Bool):=(List.range' 0 (aT w.aBr i).aBI.length).findSome? fun k=>if(aT (aT w.aBr i).aBI k).aBs=s then some (aT (aT w.aBr i).aBI k,(i:Int),true) else none
def dQ(w:aH)(s:ByteArray)(i:Nat):Option (aO×Int×Bool):=(List.range' 0 (aT w.aBr i).aBA.length).findSome? fun k=>if(aT (aT w.aBr i).aBA k).aBs=s then some (aT (aT w.aBr i).aBA k,(i:Int),true) else none
def tC(w:aH)(s:ByteArray):aV×Int×Bool:=((List.range' 0 w.aBr.length).findSome? (tQ w s)).getD (aV.mk s_ [] false false [],0,false)
def J3(w:aH)(s:ByteArray):aO×Int×Bool:=((List.range' 0 w.aBr.length).findSome? (dQ w s)).getD (aO.mk s_ [] [],0,false)
theorem D5(fu:Nat)(w:aH)(s:ByteArray):D4 fu w s=some (tC w s):=by
 have h:=n4 (f:=QA fu w s) (q:=tQ w s) (fun r=>r) (s:=()) (n:=w.aBr.length) (fun i hi=>by
  have h2:=n4 (f:=QB fu w s i (aT w.aBr i)) (q:=fun k=>if(aT (aT w.aBr i).aBI k).aBs=s then some (aT (aT w.aBr i).aBI k,(i:Int),true) else none) (fun r=>LR.ret r) (s:=()) (n:=(aT w.aBr i).aBI.length) (fun k hk=>by
   unfold QB
   by_cases hs:(aT (aT w.aBr i).aBI k).aBs=s
   ·rw [if_pos hs];exact kS (decide_eq_true hs) rfl
   ·rw [if_neg hs];exact jA (decide_eq_false hs) rfl) _ 0 rfl
  unfold QA
  refine ZW rfl ?_
  rw [h2]
  unfold tQ
  cases(List.range' 0 (aT w.aBr i).aBI.length).findSome? _<;>rfl) _ 0 rfl
 unfold D4 tC
 rw [h]
 cases(List.range' 0 w.aBr.length).findSome? (tQ w s)<;>rfl
theorem aeO(fu:Nat)(w:aH)(s:ByteArray):TZ fu w s=some (J3 w s):=by
 have h:=n4 (f:=VC fu w s) (q:=dQ w s) (fun r=>r) (s:=()) (n:=w.aBr.length) (fun i hi=>by
  have h2:=n4 (f:=VD fu w s i (aT w.aBr i)) (q:=fun k=>if(aT (aT w.aBr i).aBA k).aBs=s then some (aT (aT w.aBr i).aBA k,(i:Int),true) else none) (fun r=>LR.ret r) (s:=()) (n:=(aT w.aBr i).aBA.length) (fun k hk=>by
   unfold VD
   by_cases hs:(aT (aT w.aBr i).aBA k).aBs=s
   ·rw [if_pos hs];exact kS (decide_eq_true hs) rfl
   ·rw [if_neg hs];exact jA (decide_eq_false hs) rfl) _ 0 rfl
  unfold VC
  refine ZW rfl ?_
  rw [h2]
  unfold dQ
  cases(List.range' 0 (aT w.aBr i).aBA.length).findSome? _<;>rfl) _ 0 rfl
 unfold TZ J3
 rw [h]
 cases(List.range' 0 w.aBr.length).findSome? (dQ w s)<;>rfl
def aH.small(w:aH)(N:Nat):Prop:= ∀i,i<w.aBr.length→(aT w.aBr i).aBI.length<N∧(aT w.aBr i).aBA.length<N∧(aT w.aBr i).aBE.length<N
theorem BY(fu:Nat)(w:aH)(s:ByteArray)(hw:aH.small w fu):pX fu w s=some (tC w s):=by
 have h:=n4 (f:=A7 fu w s) (q:=tQ w s) (fun r=>r) (s:=()) (n:=w.aBr.length) (fun i hi=>by
  have h2:=MD (f:=vB fu w s i) (q:=fun k=>if(aT (aT w.aBr i).aBI k).aBs=s then some (aT (aT w.aBr i).aBI k,(i:Int),true) else none) (fun r=>LR.ret r) (n:=(aT w.aBr i).aBI.length) (fun k hk=>by
   unfold vB
   refine ZW rfl (kS (decide_eq_true (by omega)) (fT (by omega) ?_))
   rw [Int.toNat_natCast]
   by_cases hs:(aT (aT w.aBr i).aBI k).aBs=s
   ·rw [if_pos hs];exact kS (decide_eq_true hs) rfl
   ·rw [if_neg hs];exact jA (decide_eq_false hs) rfl) (by
   unfold vB
   exact ZW rfl (jA (decide_eq_false (by omega)) rfl)) _ 0 fu rfl (Nat.zero_le _) (hw i hi).1
  unfold A7
  refine(congrArg (fun o=>so o _) h2).trans ?_
  unfold tQ
  simp only [Nat.sub_zero]
  cases(List.range' 0 (aT w.aBr i).aBI.length).findSome? _<;>rfl) _ 0 rfl
 unfold pX tC
 rw [h]
 cases(List.range' 0 w.aBr.length).findSome? (tQ w s)<;>rfl
theorem V2(fu:Nat)(w:aH)(s:ByteArray)(hw:aH.small w fu):zJ fu w s=some (J3 w s):=by
 have h:=n4 (f:=C0 fu w s) (q:=dQ w s) (fun r=>r) (s:=()) (n:=w.aBr.length) (fun i hi=>by
  have h2:=MD (f:=w9 fu w s i) (q:=fun k=>if(aT (aT w.aBr i).aBA k).aBs=s then some (aT (aT w.aBr i).aBA k,(i:Int),true) else none) (fun r=>LR.ret r) (n:=(aT w.aBr i).aBA.length) (fun k hk=>by
   unfold w9
   refine ZW rfl (kS (decide_eq_true (by omega)) (fT (by omega) ?_))
   rw [Int.toNat_natCast]
   by_cases hs:(aT (aT w.aBr i).aBA k).aBs=s
   ·rw [if_pos hs];exact kS (decide_eq_true hs) rfl
   ·rw [if_neg hs];exact jA (decide_eq_false hs) rfl) (by
   unfold w9
   exact ZW rfl (jA (decide_eq_false (by omega)) rfl)) _ 0 fu rfl (Nat.zero_le _) (hw i hi).2.1
  unfold C0
  refine(congrArg (fun o=>so o _) h2).trans ?_
  unfold dQ
  simp only [Nat.sub_zero]
  cases(List.range' 0 (aT w.aBr i).aBA.length).findSome? _<;>rfl) _ 0 rfl
 unfold zJ J3
 rw [h]
 cases(List.range' 0 w.aBr.length).findSome? (dQ w s)<;>rfl
def uN(w:aH)(o:aF):Prop:= ∃i k:Nat,o=aF.mk (i:Int) (k:Int)∧i<w.aBr.length∧k<(aT w.aBr i).aBE.length
def cJ(w:aH)(o:aF):aL:=aT (aT w.aBr o.aBD.toNat).aBE o.aBS.toNat
theorem OF(fu:Nat)(w:aH)(o:aF)(ho:uN w o):tZ fu w o=some (cJ w o,true):=by
 obtain⟨i,k,rfl,hi,hk⟩:=ho
 unfold tZ
 refine jA (decide_eq_false (by show ¬((i:Int)<0);omega)) (jA (decide_eq_false (by show ¬((i:Int)≥_);omega)) (jA (decide_eq_false (by show ¬((k:Int)<0);omega)) (fT (by show 0≤(i:Int)∧(i:Int).toNat<_;omega) (ZW rfl (jA (decide_eq_false (by show ¬((k:Int)≥((aT w.aBr i).aBE.length:Int));omega)) (fT (by show 0≤(k:Int)∧(k:Int).toNat<(aT w.aBr i).aBE.length;omega) (ZW rfl rfl)))))))
def QS(w:aH)(i:Nat):List aF:=(List.range' 0 (aT w.aBr i).aBE.length).map fun(k:Nat)=>aF.mk (i:Int) (k:Int)
def fH(w:aH):List aF:=(List.range' 0 w.aBr.length).flatMap (QS w)
theorem T6{w:aH}{o:aF}(h:o∈fH w):uN w o:=by
 obtain⟨i,hi,ho⟩:=List.mem_flatMap.1 h
 obtain⟨k,hk,rfl⟩:=List.mem_map.1 ho
 rw [List.mem_range'_1] at hi hk
 exact⟨i,k,rfl,by omega,by omega⟩
section
variable {α β:Type}
theorem D8{F:Nat→List α→Option (LR (List α) β)}{n M:Nat}{g:Nat→α}(hs: ∀j v,j<n→v.length+1≤M→F j v=some (.next (v++ [g j]))):
 ∀k j (v:List α),n-j=k→v.length+k≤M→loopN F k j v=some (.inr (v++(List.range' j k).map g))
 |0,j,v,hk,_=>by rw [loopN];simp
 |k+1,j,v,hk,hl=>by
  rw [loopN,hs j v (by omega) (by omega)]
  have h:=D8 hs k (j+1) (v++ [g j]) (by omega) (by rw [List.length_append];simp only [List.length_singleton];omega)
  rw [List.append_assoc] at h
  rw [List.range'_succ,List.map_cons]
  exact h
theorem ZV{F:List α×Int→Option (LR (List α×Int) β)}{n M:Nat}{g:Nat→α}(hs: ∀(j:Nat) v,j<n→v.length+1≤M→F (v,(j:Int))=some (.next (v++ [g j],((j+1:Nat):Int))))(he: ∀v,F (v,(n:Int))=some (.brk (v,(n:Int)))):
 ∀k j fu (v:List α),n-j=k→j≤n→k<fu→v.length+k≤M→loopW F fu (v,(j:Int))=some (.inr (v++(List.range' j k).map g,(n:Int)))
 |0,j,fu,v,hk,hj,hf,_=>by
  obtain⟨f,rfl⟩: ∃f,fu=f+1:=⟨fu-1,by omega⟩
  obtain rfl:j=n:=by omega
  rw [loopW,he]
  simp
 |k+1,j,fu,v,hk,hj,hf,hl=>by
  obtain⟨f,rfl⟩: ∃f,fu=f+1:=⟨fu-1,by omega⟩
  rw [loopW,hs j v (by omega) (by omega)]
  have h:=ZV hs he k (j+1) f (v++ [g j]) (by omega) (by omega) (by omega) (by rw [List.length_append];simp only [List.length_singleton];omega)
  rw [List.append_assoc] at h
  rw [List.range'_succ,List.map_cons]
  exact h
theorem wC{F:Nat→List α→Option (LR (List α) β)}{n M:Nat}{g:Nat→List α}(hs: ∀j v,j<n→v.length+(g j).length≤M→F j v=some (.next (v++g j))):
 ∀k j (v:List α),n-j=k→v.length+((List.range' j k).flatMap g).length≤M→loopN F k j v=some (.inr (v++(List.range' j k).flatMap g))
 |0,j,v,hk,_=>by rw [loopN];simp
 |k+1,j,v,hk,hl=>by
  rw [List.range'_succ,List.flatMap_cons,List.length_append] at hl
  rw [loopN,hs j v (by omega) (by omega)]
  have h:=wC hs k (j+1) (v++g j) (by omega) (by rw [List.length_append];omega)
  rw [List.range'_succ,List.flatMap_cons,← List.append_assoc]
  exact h
end
theorem MF(w:aH)(i:Nat):(QS w i).length=(aT w.aBr i).aBE.length:=by
 unfold QS
 rw [List.length_map,List.length_range']
theorem ao7(fu:Nat)(w:aH)(hw:(fH w).length≤68719476736):s6 fu w=some (fH w):=by
 have h:=wC (F:=vR fu w) (g:=QS w) (n:=w.aBr.length) (M:=68719476736) (fun i v hi hv=>by
  rw [MF] at hv
  have h2:=D8 (F:=DX fu w i v (aT w.aBr i)) (g:=fun(k:Nat)=>aF.mk (i:Int) (k:Int)) (n:=(aT w.aBr i).aBE.length) (M:=68719476736) (fun k u hk hu=>fT hu rfl) _ 0 v rfl hv
  unfold vR
  refine ZW rfl ?_
  rw [h2]
  rfl) _ 0 [] rfl (by rw [List.length_nil,Nat.zero_add];exact hw)
 unfold s6
 rw [h]
 rfl
theorem apL(fu:Nat)(w:aH)(hw:(fH w).length≤68719476736)(hf:aH.small w fu)(h2: ∀i,i<w.aBr.length→(aT w.aBr i).aBE.length≤13000000):s8 fu w=some (fH w):=by
 have h:=wC (F:=wF fu w) (g:=QS w) (n:=w.aBr.length) (M:=68719476736) (fun i v hi hv=>by
  rw [MF] at hv
  have h3:=h2 i hi
  have h2:=ZV (F:=rW fu w i v) (g:=fun(k:Nat)=>aF.mk (i:Int) (k:Int)) (n:=(aT w.aBr i).aBE.length) (M:=68719476736) (fun k u hk hu=>by
   unfold rW
   refine ZW rfl (kS (decide_eq_true (by omega)) (fT hu ?_))
   rw [JZ (by omega) (by omega)]
   rfl) (fun u=>by
   unfold rW
   exact ZW rfl (jA (decide_eq_false (by omega)) rfl)) _ 0 fu v rfl (Nat.zero_le _) (hf i hi).2.2 hv
  unfold wF
  refine(congrArg (fun o=>so o _) h2).trans ?_
  rfl) _ 0 [] rfl (by rw [List.length_nil,Nat.zero_add];exact hw)
 unfold s8
 rw [h]
 rfl
theorem aH.len_at{w:aH}(hw:wt w≤13000000)(i:Nat)(hi:i<w.aBr.length):(aT w.aBr i).aBI.length≤13000000∧(aT w.aBr i).aBA.length≤13000000∧(aT w.aBr i).aBE.length≤13000000:=by
 have:=aH.wt_eq w
 have:=cW w.aBr i hi
 have:=aN.wt_eq (aT w.aBr i)
 have:=bB (aT w.aBr i).aBI
 have:=bB (aT w.aBr i).aBA
 have:=bB (aT w.aBr i).aBE
 omega
theorem aH.small_wt{w:aH}{fu:Nat}(hw:wt w≤13000000)(hf:13000000<fu):aH.small w fu:=fun i hi=>by
 have:=aH.len_at hw i hi
 omega
theorem akH(w:aH): ∀k j,w.aBr.length-j=k→((List.range' j k).flatMap (QS w)).length≤wl (w.aBr.drop j)
 |0,j,hk=>by simp
 |k+1,j,hk=>by
  have h:=akH w k (j+1) (by omega)
  have h1:=aN.wt_eq (aT w.aBr j)
  have h2:=bB (aT w.aBr j).aBE
  rw [List.range'_succ,List.flatMap_cons,List.length_append,MF,qY (by omega),adF]
  omega
theorem UM{w:aH}(hw:wt w≤13000000):(fH w).length≤13000000:=by
 have h:=akH w _ 0 rfl
 have:=aH.wt_eq w
 rw [List.drop_zero] at h
 unfold fH
 simp only [Nat.sub_zero] at h
 omega
end Go.Proofs.YtfcoaagbccmahaaGreat.W

namespace Go.Proofs.YtfcoaagbccmahaaGreat.W
open Go.RowKit Go.Proofs
theorem NO(x:aA):Tr.bulkL (aA.tr x)=wt x:=rfl
attribute [local irreducible] lt wt wl
theorem OO{α:Type}[Inhabited α](q:α→Bool): ∀(l:List α) (k j:Nat),l.length-j=k→(List.range' j k).flatMap (fun i=>bif q (aT l i) then [] else [aT l i])=(l.drop j).filter (fun x=> !q x)
 |l,0,j,hk=>by rw [List.drop_of_length_le (by omega)];simp
 |l,k+1,j,hk=>by
  have hj:j<l.length:=by omega
  rw [List.range'_succ,List.flatMap_cons,OO q l k (j+1) (by omega),qY hj,List.filter_cons]
  cases q (aT l j)<;>rfl
theorem FB{σ β:Type}{f:Nat→σ→Option (LR σ β)}{s:σ}{n:Nat}(hs: ∀i,i<n→f i s=some (.next s)): ∀k j,n-j=k→loopN f k j s=some (.inr s)
 |0,j,hk=>by rw [loopN]
 |k+1,j,hk=>by
  rw [loopN,hs j (by omega)]
  exact FB hs k (j+1) (by omega)
theorem T3{w:aH}{o:aF}(hw:wt w≤13000000)(hR:uN w o):wt (cJ w o)≤13000000:=by
 obtain⟨i,k,rfl,hi,hk⟩:=hR
 have:=aH.wt_eq w
 have:=cW w.aBr i hi
 have:=aN.wt_eq (aT w.aBr i)
 have:=cW (aT w.aBr i).aBE k hk
 show wt (aT (aT w.aBr i).aBE k)≤13000000
 omega
theorem akJ{w:aH}{o:aF}(hw:wt w≤13000000)(hR:uN w o):wt (cJ w o).aBH≤13000000:=by
 have:=T3 hw hR
 have:=aL.wt_eq (cJ w o)
 omega
theorem vN{w:aH}(hw:wt w≤13000000){o:aF}(ho:uN w o):Tr.bulkL (aA.tr (cJ w o).aBH)≤68719476735:=by rw [NO];exact Nat.le_trans (akJ hw ho) (by decide)
end Go.Proofs.YtfcoaagbccmahaaGreat.W

namespace Go.Proofs.YtfcoaagbccmahaaGreat
open Go.RowKit
theorem AB.repM{ok:Nat→Nat→Prop}{w:World}{t:Tr}{v:Value}{S:Nat→Prop}(h:AB w t v S)(hk: ∀b o,S b→b<w.heap.size→ok b o):cD ok w t v:=by
 induction h with
 |leaf h=>exact .leaf h
 |row c T h1 h2 h3 _ h5 h6 ih=>
  refine .row c h1 h2 (fun hne=>?_) (fun i e he j d hd=>ih i e he j d hd fun b o hb hl=>hk b o (h5 i e he j d hd b hb) hl)
  obtain⟨b,off,E,arr,ha,hb,hs,hc⟩:=h3 hne
  exact⟨b,off,ha,hb.lt,fun i e he j d hd=>⟨hk _ _ hs hb.lt,by rw [hb.cell];exact(hc i e he j d hd).1⟩⟩
theorem bQ.ofFresh{P:Program}{f:FuncId}{args:List PV}{t:Tr}(hfr:kK args=true)(h: ∀w vals,GY w args vals→Calls P f ⟨vals⟩ w fun e w'=> ∃v,e= .returned v∧uB w w'∧AB w' t v (NE w w')):bQ P f args (.t t):=fun av m w vals hst hv=>by
 refine(h w vals (kK.rv (fun b o _ _=>ok0 b o) args vals hfr hv)).mono fun e w'=>?_;rintro⟨v,rfl,hx,ho⟩
 refine⟨.t t,⟨[],[]⟩,m,v,rfl,⟨rfl,rfl⟩,eW.nil fun b o hb=>Nat.lt_of_lt_of_le (hst.avlt b o hb) hx.size,?_,?_⟩
 ·exact⟨hx.os,hx.tape,hx.output,hx.size,fun b hb _ _=>hx.block b hb,fun b o hb _=>iB (hx.block b hb),fun _ _ _ h=>h,fun _ _ h=>by simp at h,fun _ _ h=>by simp at h,fun _ _ h=>by simp at h,fun _ _ _ _ h=>by simp at h⟩
 ·exact ho.repM fun b o hb _=>⟨fun ha=>by have:=hst.avlt b o ha;have:=hb.1;omega,fun _ _ h=>by simp at h,fun _ _ _ _ h=>by simp at h⟩
end Go.Proofs.YtfcoaagbccmahaaGreat

namespace Go.Proofs.YtfcoaagbccmahaaGreat.W
set_option maxRecDepth 100000
set_option maxHeartbeats 40000000
noncomputable section
open Tryz Go.RowKit Go.Proofs
attribute [local irreducible] lt
abbrev nX:=aA→aA→Option Bool
abbrev dH:=(List aA)→(List aA)→Option Bool
def uL(m:nX):Prop:= ∀(pa:aA) (pb:aA) (r:Bool),m pa pb=some r→bQ Tryz.prog 95 [(aA.pv pa),(aA.pv pb)] (pB r:PV)
def gW(m:dH):Prop:= ∀(p8:List aA) (p9:List aA) (r:Bool),m p8 p9=some r→bQ Tryz.prog 144 [aU p8,aU p9,.fn 95 []] (pB r:PV)
def EZ(fu:Nat)(p1:nX)(p0:dH)(pa pb:aA):Option Bool:=sw (decide (pa.aBw=pb.aBw)) (sw (decide (pa.aBs=pb.aBs)) (bd (p0 pa.aBt pb.aBt) fun x4=>some x4) (some false)) (some false)
theorem S8(fu:Nat)(p1:nX)(p0:dH)(p5:uL p1)(p4:gW p0):uL (EZ fu p1 p0):=by
 intro pa pb r H
 refine qJ func95 H (fun C hC H=>?_)
 refine gQ 2 ?_;refine q1 (fE (b9 pa)) (q1 (fE (b9 pb)) ?_)
 refine gQ 10 ?_;refine dL 10 H (fun g1 H=>?_) fun g1 H=>?_
 ·refine gQ 7 ?_;refine dL 17 H (fun g2 H=>?_) fun g2 H=>?_
  ·refine gQ 4 ?_;refine bM H fun x4 z3 H=>(qg g2 (bI func144 (p4 pa.aBt pb.aBt _ z3)) ?_)
   exact gE 3
  exact gE 8
 exact gE 15
def jT(fu:Nat)(p1:nX)(p0:dH)(p8 p9:List aA):Nat→Unit→Option (LR Unit Bool):=fun i2 _=>gd (i2<(p9).length) (bd (p1 (aT p8 i2) (aT p9 i2)) fun x7=>sw (!(x7)) (some (.ret false)) (some (.next ())))
def jU(fu:Nat)(p1:nX)(p0:dH)(p8 p9:List aA):Option (Bool⊕Unit):=loopN (jT fu p1 p0 p8 p9) (p8.length-0) 0 ()
def gV(fu:Nat)(p1:nX)(p0:dH)(p8 p9:List aA):Option Bool:=sw (!decide ((p8.length:Int)=(p9.length:Int))) (some false) (so (jU fu p1 p0 p8 p9) fun _=>some true)
theorem uH(fu:Nat)(p1:nX)(p0:dH)(p5:uL p1)(p4:gW p0):gW (gV fu p1 p0):=by
 intro p8 p9 r H
 refine qJ func144 H (fun C hC H=>?_)
 refine gQ 13 ?_;refine bF H (fun h1 H=>gE 4) fun h1 H=>?_;refine gQ 8 ?_;refine fS 0 (aA.trs_len _) (fun hl3=>?_)
 refine bU (σ:=Unit) (fun i2 _=>⟨[(1,aU p9),(2,.fn 95 []),(6,pB false),(15,aU p8),(16,pN p8.length),(17,pN i2)],⟨[],[]⟩⟩) (fun _=>⟨[(6,pB false)],⟨[],[]⟩⟩) (eJ H) ?_ ?_
 ·rintro i2 ⟨⟩ H
  refine gQ 5 ?_;refine cT H (fun h4 h4l H=>?_) (fun h4 H=>?_)
  ·refine gQ 7 ?_;refine q1 (gS (aA.cs (aT p8 i2))) ?_;refine gQ 8 ?_;refine cA H fun z5 H=>(q1 m9 (q1 (gS (aA.cs (aT p9 i2))) ?_))
   refine gQ 6 ?_;refine q1 (b6 [pI ((aT p8 i2).aBw),pS ((aT p8 i2).aBs),aU ((aT p8 i2).aBt)]) (q1 (b6 [pI ((aT p9 i2).aBw),pS ((aT p9 i2).aBs),aU ((aT p9 i2).aBt)]) (bM H fun x7 z6 H=>(q1 (rCv func95 (p5 (aT p8 i2) (aT p9 i2) _ z6)) ?_)))
   refine gQ 2 ?_;refine bF H (fun h8 H=>gE 4) fun h8 H=>?_;exact gE 5
  exact gE 0
 rintro⟨⟩ H
 exact gE 4
mutual
def gM:Nat→aA→aA→Option Bool
 |0,_,_=>none
 |fu+1,pa,pb=>EZ fu (gM fu) (b5 fu) pa pb
def b5:Nat→(List aA)→(List aA)→Option Bool
 |0,_,_=>none
 |fu+1,p8,p9=>gV fu (gM fu) (b5 fu) p8 p9
end
theorem U2(fu:Nat):uL (gM fu)∧gW (b5 fu):=by
 induction fu with
 |zero=>exact⟨(fun pa pb r H=>by simp only [gM] at H;cases H),(fun p8 p9 r H=>by simp only [b5] at H;cases H)⟩
 |succ fu ih=>exact⟨(fun pa pb r H=>by simp only [gM] at H;exact S8 fu (gM fu) (b5 fu) ih.1 ih.2 pa pb r H),(fun p8 p9 r H=>by simp only [b5] at H;exact uH fu (gM fu) (b5 fu) ih.1 ih.2 p8 p9 r H)⟩
theorem XX(fu:Nat):uL (gM fu):=(U2 fu).1
abbrev q9:=aA→Option aA
abbrev nZ:=(List aA)→Option ((List aA))
def xH(m:q9):Prop:= ∀(pt:aA) (r:aA),m pt=some r→bQ Tryz.prog 79 [(aA.pv pt)] ((aA.pv r):PV)
def zB(m:nZ):Prop:= ∀(pl:List aA) (r:(List aA)),m pl=some r→bQ Tryz.prog 134 [aU pl] (aU r:PV)
def HK(fu:Nat)(p3:q9)(p2:nZ)(pt:aA):Option aA:=bd (p2 pt.aBt) fun x2=>some (aA.mk pt.aBw pt.aBs x2)
theorem VB(fu:Nat)(p3:q9)(p2:nZ)(p7:xH p3)(p6:zB p2):xH (HK fu p3 p2):=by
 intro pt r H
 refine qJ func79 H (fun C hC H=>?_)
 refine gQ 2 ?_;refine q1 (fE (b9 pt)) ?_;refine gQ 6 ?_;refine bM H fun x2 z1 H=>(q1 (bI func134 (p6 pt.aBt _ z1)) ?_)
 refine gQ 5 ?_;refine q1 (b6 [pI pt.aBw,pS pt.aBs,aU x2]) ?_;exact gE 2
def KY(fu:Nat)(p3:q9)(p2:nZ)(pl:List aA):Nat→((List aA))→Option (LR ((List aA)) ((List aA))):=fun i2 v3=>bd (p3 (aT pl i2)) fun x7=>gd (i2=(v3).length) (some (.next (v3++([x7]:List aA))))
def CP(fu:Nat)(p3:q9)(p2:nZ)(pl:List aA):Option (((List aA))⊕((List aA))):=loopN (KY fu p3 p2 pl) (pl.length-0) 0 ([])
def E5(fu:Nat)(p3:q9)(p2:nZ)(pl:List aA):Option ((List aA)):=gd (pl.length≤68719476736) (so (CP fu p3 p2 pl) fun v3=>gd ((v3).length=pl.length) (some v3))
theorem S9(fu:Nat)(p3:q9)(p2:nZ)(p7:xH p3)(p6:zB p2):zB (E5 fu p3 p2):=by
 intro pl r H
 refine qJ func134 H (fun C hC H=>?_)
 refine gQ 8 ?_;refine cA H fun z1 H=>(q1 (bD.makeSlice (N:=pl.length) rfl rfl rfl rfl anM.h asK.h (by decide) (Nat.le_trans (Nat.mul_le_mul_left _ z1) (by decide)) (Nat.le_trans z1 (by decide))) ?_)
 refine gQ 9 ?_;refine fS 0 (aA.trs_len _) (fun hl4=>?_)
 refine bU (σ:=(List aA)) (fun i2 v3=>⟨[(2,.nil),(3,.full 3 (pl.length) 0),(9,aU pl),(10,pN pl.length),(11,pN i2)],⟨[],[⟨30,3,aA.trs (v3),true⟩]⟩⟩) (fun v3=>⟨[(2,.nil),(3,.full 3 (pl.length) 0)],⟨[],[⟨30,3,aA.trs (v3),true⟩]⟩⟩) (eJ H) ?_ ?_
 ·rintro i2 v3 H
  refine gQ 5 ?_;refine cT H (fun h5 h5l H=>?_) (fun h5 H=>?_)
  ·refine gQ 7 ?_;refine q1 (gS (aA.cs (aT pl i2))) ?_;refine gQ 7 ?_;refine q1 (b6 [pI ((aT pl i2).aBw),pS ((aT pl i2).aBs),aU ((aT pl i2).aBt)]) (bM H fun x7 z6 H=>(q1 (bI func79 (p7 (aT pl i2) _ z6)) (q1 (bD.indexFull (k:=i2) rfl rfl rfl rfl h5l anM.h) (cA H fun z8 H=>?_))))
   refine q1 (bD.storeRptr (e:=aA.cs x7) (es2:=aA.trs (v3++([x7]:List aA))) 16 rfl rfl rfl rfl rfl rfl iX rfl rfl asF.h (by rw [aA.trs_len];exact z8) h5l (by rw [aA.trs_map,aA.trs_map,List.map_append];simp [aA.tr_cs])) ?_;exact gE 5
  exact gE 0
 rintro v3 H
 refine gQ 3 ?_;refine cA H fun z9 H=>?_;refine AL.weak (Wk.full (i:=22) rfl rfl (by rw [aA.trs_len];exact z9)) ?_;exact gE 2
mutual
def jL:Nat→aA→Option aA
 |0,_=>none
 |fu+1,pt=>HK fu (jL fu) (kC fu) pt
def kC:Nat→(List aA)→Option ((List aA))
 |0,_=>none
 |fu+1,pl=>E5 fu (jL fu) (kC fu) pl
end
theorem XZ(fu:Nat):xH (jL fu)∧zB (kC fu):=by
 induction fu with
 |zero=>exact⟨(fun pt r H=>by simp only [jL] at H;cases H),(fun pl r H=>by simp only [kC] at H;cases H)⟩
 |succ fu ih=>exact⟨(fun pt r H=>by simp only [jL] at H;exact VB fu (jL fu) (kC fu) ih.1 ih.2 pt r H),(fun pl r H=>by simp only [kC] at H;exact S9 fu (jL fu) (kC fu) ih.1 ih.2 pl r H)⟩
theorem abB(fu:Nat):xH (jL fu):=(XZ fu).1
end
end Go.Proofs.YtfcoaagbccmahaaGreat.W

namespace Go.Proofs.YtfcoaagbccmahaaGreat
open Go.RowKit Go.Proofs
theorem AF(a:ByteArray):(a==a)=true:=by
 obtain⟨x⟩:=a
 show(x==x)=true
 simp
theorem alI{a b:ByteArray}(h:a.toList=b.toList):a=b:=by
 rw [ByteArray.toList_eq,ByteArray.toList_eq] at h
 obtain⟨⟨x⟩⟩:=a
 obtain⟨⟨y⟩⟩:=b
 have h:x=y:=h
 rw [h]
theorem EW{a b:ByteArray}(h: ¬a=b):(a==b)=false:=by
 obtain⟨x⟩:=a
 obtain⟨y⟩:=b
 show(x==y)=false
 simp only [beq_eq_false_iff_ne,ne_eq]
 rintro rfl
 exact h rfl
mutual
def aA.eq:aA→aA→Bool
 | .mk k n xs,.mk l m ys=>k==l&&(n==m&&aA.eqs xs ys)
def aA.eqs:List aA→List aA→Bool
 | [],[]=>true
 |a::l,b::r=>aA.eq a b&&aA.eqs l r
 |_,_=>false
end
def aD.eq:aD→aD→Bool
 | .mk n x,.mk m y=>n==m&&aA.eq x y
end Go.Proofs.YtfcoaagbccmahaaGreat

namespace Go.Proofs.YtfcoaagbccmahaaGreat.W
open Go.RowKit Go.Proofs
theorem PR{n i:Nat}(h:i<n):aT (List.range n) i=i:=by rw [iV (by simpa using h)];simp
theorem aa0: ∀ {l r:List aA},aA.eqs l r=true→l.length=r.length
 | [],[],_=>rfl
 | [],_::_,h=>by simp [aA.eqs] at h
 |_::_,[],h=>by simp [aA.eqs] at h
 |a::l,b::r,h=>by
  simp only [aA.eqs,Bool.and_eq_true] at h
  simp [aa0 h.2]
theorem PX: ∀ {l r:List aA},l.length=r.length→aA.eqs l r=(List.range l.length).all fun i=>aA.eq (aT l i) (aT r i)
 | [],[],_=>rfl
 | [],_::_,h=>by simp at h
 |_::_,[],h=>by simp at h
 |a::l,b::r,h=>by
  rw [aA.eqs,List.length_cons,List.range_succ_eq_map,List.all_cons,List.all_map,PX (l:=l) (r:=r) (by simpa using h)]
  rfl
theorem ajT{xs ys:List aA}(h: ∀i,i<xs.length→i<ys.length→bS fun fu=>fJ fu (aT xs i) (aT ys i)=some (aA.eq (aT xs i) (aT ys i))):bS fun fu=>kY fu xs ys=some (aA.eqs xs ys):=by
 refine bS.succ ?_
 by_cases hl:xs.length=ys.length
 ·refine(bS.below (k:=xs.length) fun i hi=>h i hi (by omega)).imp fun fu hf=>?_
  simp only [kY,EK]
  have hd:(!decide ((((xs.length:Nat):Int):Int)=((ys.length:Nat):Int)))=false:=by simp [hl]
  rw [hd]
  have hr: ∀fu',∀(r1:aA→aA→Option Bool),(∀i,i<xs.length→r1 (aT xs i) (aT ys i)=some (aA.eq (aT xs i) (aT ys i)))→M6 fu' r1 (kY fu) xs ys=some (if(List.range xs.length).all (fun i=>aA.eq (aT xs i) (aT ys i)) then .inr () else .inl false):=by
   intro fu' r1 h1
   unfold M6
   have:=HX (l:=List.range xs.length) (f:=M5 fu' r1 (kY fu) xs ys) (p:=fun i=>aA.eq (aT xs i) (aT ys i)) (r:=false) (s:=()) fun i hi=>by
    have hi':i<xs.length:=by simpa using hi
    rw [PR hi',M5]
    rw [fT (by omega) rfl,hY (h1 i hi') rfl]
    cases aA.eq (aT xs i) (aT ys i)<;>rfl
   rwa [List.length_range] at this
  rw [hr fu _ hf,PX hl]
  cases(List.range xs.length).all fun i=>aA.eq (aT xs i) (aT ys i)<;>rfl
 ·refine .all fun fu=>?_
  simp only [kY,EK]
  have hd:(!decide ((((xs.length:Nat):Int):Int)=((ys.length:Nat):Int)))=true:=by simp;omega
  rw [hd]
  cases hq:aA.eqs xs ys
  ·rfl
  ·exact absurd (aa0 hq) hl
theorem YE: ∀a b:aA,bS fun fu=>fJ fu a b=some (aA.eq a b):=by
 refine aA.ind fun k n xs ih=>?_;rintro⟨l,m,ys⟩
 refine bS.succ ((ajT (xs:=xs) (ys:=ys) fun i hi hj=>ih _ (cE hi) _).imp fun fu hf=>?_)
 simp only [fJ,zG,aA.aBw.eq_1,aA.aBs.eq_1,aA.aBt.eq_1,hf,aA.eq]
 by_cases h1:k=l
 ·subst h1
  by_cases h2:n=m
  ·subst h2
   simp [sw,bd,AF]
  ·simp [sw,h2,EW]
 ·have:(k==l)=false:=by simpa using h1
  simp [sw,h1,this]
theorem CW(a b:aA):bQ Tryz.prog 38 [(aA.pv a),(aA.pv b)] (.t (.leaf (.bool (aA.eq a b)))):=by
 obtain⟨fu,h⟩:=(YE a b).get
 exact K0 fu a b _ h
theorem XV{xs ys:List aA}(h: ∀i,i<xs.length→i<ys.length→bS fun fu=>gM fu (aT xs i) (aT ys i)=some (aA.eq (aT xs i) (aT ys i))):bS fun fu=>b5 fu xs ys=some (aA.eqs xs ys):=by
 refine bS.succ ?_
 by_cases hl:xs.length=ys.length
 ·refine(bS.below (k:=xs.length) fun i hi=>h i hi (by omega)).imp fun fu hf=>?_
  simp only [b5,gV]
  have hd:(!decide ((((xs.length:Nat):Int):Int)=((ys.length:Nat):Int)))=false:=by simp [hl]
  rw [hd]
  have hr:jU fu (gM fu) (b5 fu) xs ys=some (if(List.range xs.length).all (fun i=>aA.eq (aT xs i) (aT ys i)) then .inr () else .inl false):=by
   unfold jU
   have:=HX (l:=List.range xs.length) (f:=jT fu (gM fu) (b5 fu) xs ys) (p:=fun i=>aA.eq (aT xs i) (aT ys i)) (r:=false) (s:=()) fun i hi=>by
    have hi':i<xs.length:=by simpa using hi
    rw [PR hi',jT]
    rw [fT (by omega) rfl,hY (hf i hi') rfl]
    cases aA.eq (aT xs i) (aT ys i)<;>rfl
   rwa [List.length_range] at this
  rw [hr,PX hl]
  cases(List.range xs.length).all fun i=>aA.eq (aT xs i) (aT ys i)<;>rfl
 ·refine .all fun fu=>?_
  simp only [b5,gV]
  have hd:(!decide ((((xs.length:Nat):Int):Int)=((ys.length:Nat):Int)))=true:=by simp;omega
  rw [hd]
  cases hq:aA.eqs xs ys
  ·rfl
  ·exact absurd (aa0 hq) hl
theorem XW: ∀a b:aA,bS fun fu=>gM fu a b=some (aA.eq a b):=by
 refine aA.ind fun k n xs ih=>?_;rintro⟨l,m,ys⟩
 refine bS.succ ((XV (xs:=xs) (ys:=ys) fun i hi hj=>ih _ (cE hi) _).imp fun fu hf=>?_)
 simp only [gM,EZ,aA.aBw.eq_1,aA.aBs.eq_1,aA.aBt.eq_1,hf,aA.eq]
 by_cases h1:k=l
 ·subst h1
  by_cases h2:n=m
  ·subst h2
   simp [sw,bd,AF]
  ·simp [sw,h2,EW]
 ·have:(k==l)=false:=by simpa using h1
  simp [sw,h1,this]
theorem CO(a b:aA):bQ Tryz.prog 95 [(aA.pv a),(aA.pv b)] (.t (.leaf (.bool (aA.eq a b)))):=by
 obtain⟨fu,h⟩:=(XW a b).get
 exact XX fu a b _ h
theorem UV{α:Type}: ∀(l a:List α),l.foldl (fun s x=>s++ [x]) a=a++l
 | [],a=>by simp
 |x::l,a=>by rw [List.foldl_cons,UV l];simp
theorem anJ{xs:List aA}: ∀ {x:aA},x∈xs→Tr.bulkL x.tr≤Tr.bulkAll (aA.trs xs):=by
 induction xs with
 |nil=>intro x hx;simp at hx
 |cons a l ih=>
  intro x hx
  simp only [aA.trs,Tr.bulkAll]
  rcases List.mem_cons.1 hx with rfl|hx
  ·omega
  ·have:=ih hx;omega
theorem PU(k:Int)(n:ByteArray)(xs:List aA):xs.length+Tr.bulkAll (aA.trs xs)≤Tr.bulkL (aA.mk k n xs).tr:=by
 simp only [aA.tr,Tr.bulkL_append,Tr.bulkL,Tr.bulk,aA.trs_len]
 omega
mutual
def Gd(U:LB):aA→Prop
 | .mk k n xs=>(k=1→n∈U)∧xs.length≤68719476735∧GdL U xs
def GdL(U:LB):List aA→Prop
 | []=>True
 |x::l=>Gd U x∧GdL U l
end
theorem wZ{U:LB}: ∀ {l:List aA},GdL U l↔ ∀x∈l,Gd U x
 | []=>by simp [GdL]
 |a::l=>by rw [GdL,wZ (l:=l)];simp
theorem Gd.args{U:LB}{t x:aA}(h:x∈t.aBt)(ht:Gd U t):Gd U x:=by
 obtain⟨k,n,xs⟩:=t
 rw [Gd] at ht
 exact wZ.1 ht.2.2 x h
theorem Gd.mono{U V:LB}(hs: ∀x∈U,x∈V): ∀t:aA,Gd U t→Gd V t:=by
 refine aA.ind fun k n xs ih h=>?_
 rw [Gd] at h ⊢
 exact⟨fun hk=>hs _ (h.1 hk),h.2.1,wZ.2 fun x hx=>ih x hx (wZ.1 h.2.2 x hx)⟩
def gK(t:aA):Prop:= ∃U:LB,U.length≤68719476736∧Gd U t
theorem AD{t x:aA}(h:x∈t.aBt):gK t→gK x:=fun⟨U,hU,ht⟩=>⟨U,hU,ht.args h⟩
theorem gK.len{k:Int}{n:ByteArray}{xs:List aA}(h:gK (.mk k n xs)):xs.length≤68719476735:=by
 obtain⟨U,_,h⟩:=h
 rw [Gd] at h
 exact h.2.1
mutual
def EB:aA→LB
 | .mk _ n xs=>n::aiE xs
def aiE:List aA→LB
 | []=> []
 |x::l=>EB x++aiE l
end
theorem ae8{x:aA}: ∀ {l:List aA},x∈l→ ∀n∈EB x,n∈aiE l
 |a::l,h,n,hn=>by
  rw [aiE]
  rcases List.mem_cons.1 h with rfl|h
  ·exact List.mem_append.2 (.inl hn)
  ·exact List.mem_append.2 (.inr (ae8 h n hn))
theorem ae7: ∀(l:List aA),(∀x∈l,(EB x).length≤1+Tr.bulkL x.tr)→(aiE l).length≤l.length+Tr.bulkAll (aA.trs l)
 | [],_=>by simp [aiE]
 |x::l,h=>by
  have h1:=h x (by simp)
  have h2:=ae7 l fun y hy=>h y (List.mem_cons_of_mem _ hy)
  simp only [aiE,aA.trs,Tr.bulkAll,List.length_append,List.length_cons]
  omega
theorem ae9: ∀t:aA,(EB t).length≤1+Tr.bulkL t.tr:=by
 refine aA.ind fun k n xs ih=>?_
 have h1:=ae7 xs ih
 have h2:=PU k n xs
 rw [EB,List.length_cons]
 omega
theorem Gd.own: ∀t:aA,Tr.bulkL t.tr≤68719476735→Gd (EB t) t:=by
 refine aA.ind fun k n xs ih hb=>?_
 have h1:=PU k n xs
 rw [Gd,EB]
 refine⟨fun _=>List.mem_cons_self ..,by omega,wZ.2 fun x hx=>?_⟩
 exact(ih x hx (by have:=anJ hx;omega)).mono (fun y hy=>List.mem_cons_of_mem _ (ae8 hx y hy)) x
theorem gK.of{t:aA}(h:Tr.bulkL t.tr≤68719476735):gK t:=⟨EB t,by have:=ae9 t;omega,Gd.own t h⟩
theorem ac2{xs:List aA}(hb:xs.length≤68719476735)(h: ∀x∈xs,bS fun fu=>j9 fu x=some x):bS fun fu=>kR fu xs=some xs:=by
 refine bS.succ ((bS.list h).imp fun fu hf=>?_)
 simp only [kR,CG]
 rw [kM (l:=xs) (g:=fun s x=>s++ [x]) (fun i s=>s.length=i) (fun i s hi hp=>⟨?_,by simp [hp]⟩) rfl,UV]
 ·rfl
 ·rw [O5,hY (hf _ (cE hi)) rfl,fT (by simp;omega) rfl]
theorem ajJ: ∀t:aA,gK t→bS fun fu=>j9 fu t=some t:=by
 refine aA.ind fun k n xs ih hb=>?_
 have h1:=hb.len
 refine bS.succ ((ac2 (xs:=xs) h1 fun x hx=>ih x hx (AD (t:= .mk k n xs) hx hb)).imp fun fu hf=>?_)
 simp only [j9,JO,aA.aBw.eq_1,aA.aBs.eq_1,aA.aBt.eq_1,hf,bd]
theorem tW(t:aA)(hb:gK t):bQ Tryz.prog 56 [(aA.pv t)] (aA.pv t):=by
 obtain⟨fu,h⟩:=(ajJ t hb).get
 exact W6 fu t _ h
theorem MC{α β:Type}[Inhabited α]{f:Nat→List α→Option (LR (List α) β)}{l:List α}{g:α→α}(hs: ∀i s,i<l.length→s.length=i→f i s=some (.next (s++ [g (aT l i)]))):loopN f (l.length-0) 0 []=some (.inr (l.map g)):=by
 rw [kM (l:=l) (g:=fun s x=>s++ [g x]) (fun i s=>s.length=i) (fun i s hi hp=>⟨hs i s hi hp,by simp [hp]⟩) rfl]
 have key: ∀(l a:List α),l.foldl (fun s x=>s++ [g x]) a=a++l.map g:=by
  intro l
  induction l with
  |nil=>intro a;simp
  |cons x l ih=>intro a;rw [List.foldl_cons,ih];simp
 rw [key,List.nil_append]
theorem X0{xs:List aA}(hb:xs.length≤68719476735)(h: ∀x∈xs,bS fun fu=>jL fu x=some x):bS fun fu=>kC fu xs=some xs:=by
 refine bS.succ ((bS.list h).imp fun fu hf=>?_)
 simp only [kC,E5]
 rw [fT (by omega) rfl]
 have hR:CP fu (jL fu) (kC fu) xs=some (.inr xs):=by
  unfold CP
  rw [MC (l:=xs) (g:=id) fun i s hi hp=>?_,List.map_id]
  rw [KY,hY (hf _ (cE hi)) rfl,fT (by omega) rfl]
  rfl
 rw [UA hR rfl,fT rfl rfl]
theorem abA: ∀t:aA,gK t→bS fun fu=>jL fu t=some t:=by
 refine aA.ind fun k n xs ih hb=>?_
 have h1:=hb.len
 refine bS.succ ((X0 (xs:=xs) h1 fun x hx=>ih x hx (AD (t:= .mk k n xs) hx hb)).imp fun fu hf=>?_)
 simp only [jL,HK,aA.aBw.eq_1,aA.aBs.eq_1,aA.aBt.eq_1,hf,bd]
theorem rP(t:aA)(hb:gK t):bQ Tryz.prog 79 [(aA.pv t)] (aA.pv t):=by
 obtain⟨fu,h⟩:=(abA t hb).get
 exact abB fu t _ h
end Go.Proofs.YtfcoaagbccmahaaGreat.W
