/- Words, rules and walks of several kinds, laid together. No conditions but those that each theorem states. -/
import Derived.Test.YtfcoaagbccmahaaGreatQh662e13c9
set_option linter.unusedSimpArgs false
set_option linter.unusedVariables false
namespace Go.Proofs.YtfcoaagbccmahaaGreat.W
set_option maxRecDepth 100000
set_option maxHeartbeats 40000000
noncomputable section
open Tryz Go.RowKit Go.Proofs
attribute [local irreducible] lt
abbrev DN:=DS→(LB)→Int→Option (aA×DS)
def IJ(m:DN):Prop:= ∀(pc:DS) (p4:LB) (p3:Int) (r:aA×DS),m pc p4 p3=some r→xA Tryz.prog 131 [.ptr 0 0,rS p4,pI p3] ⟨[some ⟨133,dC pc⟩],[]⟩ [some ⟨133,dC r.2⟩] 30 3 (aA.trs (r.1.asG)) (fun k=> .agg [pI r.1.asJ,pS r.1.asD,fW r.1.asG k])
theorem OY{m:DN}(h:IJ m)(pc:DS)(p4:LB)(p3:Int)(r:aA×DS)(H:m pc p4 p3=some r):cJ Tryz.prog 131 [.ptr 0 0,rS p4,pI p3] ⟨[some ⟨133,dC pc⟩],[]⟩ (fun q t=>q=((aA.pv r.1):PV)∧t=⟨[some ⟨133,dC r.2⟩],[]⟩):=(h pc p4 p3 r H).plain (fun _=>jH) (hp:=adL)
def MK(fu:Nat)(p9:DN)(pc:DS)(p4:LB)(p3:Int):Option (aA×DS):=lt (pc.after 8) fun d1=>sw (decide ((pc.below 8:Int)<3)) (sw (decide ((p4.length:Int)>0)) (lt (d1.after p4.length) fun d5=>gd (d1.below p4.length<(p4).length) (bd (kO fu (aP p4 (d1.below p4.length))) fun x9=>some ((aA.mk x9.asJ x9.asD x9.asG),d5))) (sw (decide ((pc.below 8:Int)<5)) (lt (d1.after ([dK,c9,gM]:LB).length) fun d11=>lt (d1.pick ([dK,c9,gM]:LB)) fun y13=>bd (eJ fu y13 ([])) fun x16=>some ((aA.mk x16.asJ x16.asD x16.asG),d11)) (sw (decide (p3≤0)) (lt (d1.after ([dK,c9,gM]:LB).length) fun d18=>lt (d1.pick ([dK,c9,gM]:LB)) fun y20=>bd (eJ fu y20 ([])) fun x23=>some ((aA.mk x23.asJ x23.asD x23.asG),d18)) (sw (decide ((pc.below 8:Int)=5)) (bd (p9 d1 p4 (aY (p3-1))) fun(x26,x27)=>bd (p9 x27 p4 (aY (p3-1))) fun(x29,x30)=>bd (eJ fu pW ([(aA.mk x26.asJ x26.asD x26.asG),(aA.mk x29.asJ x29.asD x29.asG)]:List aA)) fun x32=>some ((aA.mk x32.asJ x32.asD x32.asG),x30)) (lt (d1.after ([b0,b0,tD]:LB).length) fun d33=>lt (d1.pick ([b0,b0,tD]:LB)) fun y35=>bd (p9 d33 p4 (aY (p3-1))) fun(x38,x39)=>bd (eJ fu y35 ([(aA.mk x38.asJ x38.asD x38.asG)]:List aA)) fun x41=>some ((aA.mk x41.asJ x41.asD x41.asG),x39)))))) (sw (decide ((pc.below 8:Int)<5)) (lt (d1.after ([dK,c9,gM]:LB).length) fun d43=>lt (d1.pick ([dK,c9,gM]:LB)) fun y45=>bd (eJ fu y45 ([])) fun x48=>some ((aA.mk x48.asJ x48.asD x48.asG),d43)) (sw (decide (p3≤0)) (lt (d1.after ([dK,c9,gM]:LB).length) fun d50=>lt (d1.pick ([dK,c9,gM]:LB)) fun y52=>bd (eJ fu y52 ([])) fun x55=>some ((aA.mk x55.asJ x55.asD x55.asG),d50)) (sw (decide ((pc.below 8:Int)=5)) (bd (p9 d1 p4 (aY (p3-1))) fun(x58,x59)=>bd (p9 x59 p4 (aY (p3-1))) fun(x61,x62)=>bd (eJ fu pW ([(aA.mk x58.asJ x58.asD x58.asG),(aA.mk x61.asJ x61.asD x61.asG)]:List aA)) fun x64=>some ((aA.mk x64.asJ x64.asD x64.asG),x62)) (lt (d1.after ([b0,b0,tD]:LB).length) fun d65=>lt (d1.pick ([b0,b0,tD]:LB)) fun y67=>bd (p9 d65 p4 (aY (p3-1))) fun(x70,x71)=>bd (eJ fu y67 ([(aA.mk x70.asJ x70.asD x70.asG)]:List aA)) fun x73=>some ((aA.mk x73.asJ x73.asD x73.asG),x71)))))
theorem Z6(fu:Nat)(p9:DN)(pA:IJ p9):IJ (MK fu p9):=by
 intro pc p4 p3 r H
 unfold xA
 refine qJ func131 H (fun C hC H=>?_)
 refine gQ 7 ?_;refine fI H fun d1 h2 H=>(q1 (eW [0] [] func73 (AU h2 (eT pc 8))) ?_)
 refine gQ 9 ?_;refine dF 13 H (fun g3 H=>?_) fun g3 H=>?_
 ·have g3n:pc.below 8<3:=by have:=of_decide_eq_true g3;omega
  refine gQ 6 ?_;refine a7 H (fun h4 H=>?_) (fun h4 H=>?_)
  ·refine gQ 6 ?_;refine fI H fun d5 h6 H=>(q1 (eW [0] [] func73 (AU h6 (eT d1 p4.length))) (cQ H fun z7 H=>?_))
   refine gQ 2 ?_;refine bD H fun x9 z8 H=>(q1 (a5.callOwn (pre:=⟨[],[]⟩) (B:= []) (R:=fun k=> .agg [pI x9.asJ,pS x9.asD,fW x9.asG k]) (ps:= [_]) (qs:= [pS (aP p4 (d1.below p4.length))]) [] rfl rfl func137 (by kernel_rfl) rfl rfl rfl (eX.of trivial trivial (by decide) (by decide)) rfl jH rfl rfl rfl (fun k k'=>(.agg (.cons (.free _ rfl) (.cons (.free _ rfl) (.cons Mv.acc AT.nil))))) (hM fu (aP p4 (d1.below p4.length)) _ z8)) ?_)
   refine gQ 2 ?_;refine cF.ret ?_
   obtain rfl:_=r:=(xQ H:)
   exact NQ (st':=⟨[some ⟨133,dC d5⟩],[⟨30,3,aA.trs (x9.asG),false⟩]⟩) ⟨0,rfl,rfl,rfl⟩ (hr:=⟨⟨_,_,_,rfl,rfl,EH.h,rfl,rfl⟩,trivial⟩)
  refine gQ 5 ?_;refine dF 29 H (fun g10 H=>?_) fun g10 H=>?_
  ·have g10n:pc.below 8<5:=by have:=of_decide_eq_true g10;omega
   refine gQ 9 ?_;refine q1 (gC ([dK,c9,gM]:LB)) (fI H fun d11 h12 H=>(fI H fun y13 h14 H=>(q1 (eW [0] [] func48 (DY h12 h14 (eA d1 ([dK,c9,gM]:LB) (by decide)))) (bD H fun x16 z15 H=>(q1 (a5.callOwn (pre:=⟨[],[]⟩) (B:= []) (R:=fun k=> .agg [pI x16.asJ,pS x16.asD,fW x16.asG k]) (ps:= [_,_]) (qs:= [pS y13,_]) [] rfl rfl func47 (by kernel_rfl) rfl rfl rfl (eX.of trivial trivial (by decide) (by decide)) rfl jH rfl rfl rfl (fun k k'=>(.agg (.cons (.free _ rfl) (.cons (.free _ rfl) (.cons Mv.acc AT.nil))))) (fP fu y13 ([]) _ z15)) ?_)))))
   refine gQ 2 ?_;refine cF.ret ?_
   obtain rfl:_=r:=(xQ H:)
   exact NQ (st':=⟨[some ⟨133,dC d11⟩],[⟨30,3,aA.trs (x16.asG),false⟩]⟩) ⟨0,rfl,rfl,rfl⟩ (hr:=⟨⟨_,_,_,rfl,rfl,EH.h,rfl,rfl⟩,trivial⟩)
  refine gQ 5 ?_;refine a7 H (fun h17 H=>?_) (fun h17 H=>?_)
  ·refine gQ 3 ?_;refine q1 (gC ([dK,c9,gM]:LB)) (fI H fun d18 h19 H=>(fI H fun y20 h21 H=>(q1 (eW [0] [] func48 (DY h19 h21 (eA d1 ([dK,c9,gM]:LB) (by decide)))) (bD H fun x23 z22 H=>(q1 (a5.callOwn (pre:=⟨[],[]⟩) (B:= []) (R:=fun k=> .agg [pI x23.asJ,pS x23.asD,fW x23.asG k]) (ps:= [_,_]) (qs:= [pS y20,_]) [] rfl rfl func47 (by kernel_rfl) rfl rfl rfl (eX.of trivial trivial (by decide) (by decide)) rfl jH rfl rfl rfl (fun k k'=>(.agg (.cons (.free _ rfl) (.cons (.free _ rfl) (.cons Mv.acc AT.nil))))) (fP fu y20 ([]) _ z22)) ?_)))))
   refine gQ 2 ?_;refine cF.ret ?_
   obtain rfl:_=r:=(xQ H:)
   exact NQ (st':=⟨[some ⟨133,dC d18⟩],[⟨30,3,aA.trs (x23.asG),false⟩]⟩) ⟨0,rfl,rfl,rfl⟩ (hr:=⟨⟨_,_,_,rfl,rfl,EH.h,rfl,rfl⟩,trivial⟩)
  refine gQ 6 ?_;refine a7 H (fun h24 H=>?_) (fun h24 H=>?_)
  ·refine gQ 6 ?_;refine eY H fun x26 x27 z25 H=>(q1 (a5.callOwn (pre:=⟨[some ⟨133,dC d1⟩],[]⟩) (B:= [some ⟨133,dC x27⟩]) (R:=fun k=> .agg [pI x26.asJ,pS x26.asD,fW x26.asG k]) (ps:= [_,_,_]) (qs:= [.ptr 0 0,rS p4,pI (aY (p3-1))]) [0] rfl rfl func131 (by kernel_rfl) rfl rfl rfl (eX.of ⟨⟨_,rfl,rfl,jH,rfl⟩,trivial⟩ trivial (by decide) (by decide)) rfl jH rfl rfl rfl (fun k k'=>(.agg (.cons (.free _ rfl) (.cons (.free _ rfl) (.cons Mv.acc AT.nil))))) (pA d1 p4 (aY (p3-1)) _ z25)) ?_)
   refine gQ 4 ?_;refine eY H fun x29 x30 z28 H=>(q1 (a5.callOwn (pre:=⟨[some ⟨133,dC x27⟩],[]⟩) (B:= [some ⟨133,dC x30⟩]) (R:=fun k=> .agg [pI x29.asJ,pS x29.asD,fW x29.asG k]) (ps:= [_,_,_]) (qs:= [.ptr 0 0,rS p4,pI (aY (p3-1))]) [0] rfl rfl func131 (by kernel_rfl) rfl rfl rfl (eX.of ⟨⟨_,rfl,rfl,jH,rfl⟩,trivial⟩ trivial (by decide) (by decide)) rfl jH rfl rfl rfl (fun k k'=>(.agg (.cons (.free _ rfl) (.cons (.free _ rfl) (.cons Mv.acc AT.nil))))) (pA x27 p4 (aY (p3-1)) _ z28)) (q1 (n0 ([(aA.mk x26.asJ x26.asD x26.asG),(aA.mk x29.asJ x29.asD x29.asG)]:List aA)) (bD H fun x32 z31 H=>(q1 (a5.callOwn (pre:=⟨[],[]⟩) (B:= []) (R:=fun k=> .agg [pI x32.asJ,pS x32.asD,fW x32.asG k]) (ps:= [_,_]) (qs:= [pS pW,aX ([(aA.mk x26.asJ x26.asD x26.asG),(aA.mk x29.asJ x29.asD x29.asG)]:List aA)]) [] rfl rfl func47 (by kernel_rfl) rfl rfl rfl (eX.of trivial trivial (by decide) (by decide)) rfl jH rfl rfl rfl (fun k k'=>(.agg (.cons (.free _ rfl) (.cons (.free _ rfl) (.cons Mv.acc AT.nil))))) (fP fu pW ([(aA.mk x26.asJ x26.asD x26.asG),(aA.mk x29.asJ x29.asD x29.asG)]:List aA) _ z31)) ?_))))
   refine gQ 2 ?_;refine cF.ret ?_
   obtain rfl:_=r:=(xQ H:)
   exact NQ (st':=⟨[some ⟨133,dC x30⟩],[⟨30,3,aA.trs (x26.asG),false⟩,⟨30,3,aA.trs (x29.asG),false⟩,⟨30,3,aA.trs (([(aA.mk x26.asJ x26.asD x26.asG),(aA.mk x29.asJ x29.asD x29.asG)]:List aA)),false⟩,⟨30,3,aA.trs (x32.asG),false⟩]⟩) ⟨3,rfl,rfl,rfl⟩ (hr:=⟨⟨_,_,_,rfl,rfl,EH.h,rfl,rfl⟩,trivial⟩)
  refine gQ 4 ?_;refine q1 (gC ([b0,b0,tD]:LB)) (fI H fun d33 h34 H=>(fI H fun y35 h36 H=>(q1 (eW [0] [] func48 (DY h34 h36 (eA d1 ([b0,b0,tD]:LB) (by decide)))) ?_)))
  refine gQ 4 ?_;refine eY H fun x38 x39 z37 H=>(q1 (a5.callOwn (pre:=⟨[some ⟨133,dC d33⟩],[]⟩) (B:= [some ⟨133,dC x39⟩]) (R:=fun k=> .agg [pI x38.asJ,pS x38.asD,fW x38.asG k]) (ps:= [_,_,_]) (qs:= [.ptr 0 0,rS p4,pI (aY (p3-1))]) [0] rfl rfl func131 (by kernel_rfl) rfl rfl rfl (eX.of ⟨⟨_,rfl,rfl,jH,rfl⟩,trivial⟩ trivial (by decide) (by decide)) rfl jH rfl rfl rfl (fun k k'=>(.agg (.cons (.free _ rfl) (.cons (.free _ rfl) (.cons Mv.acc AT.nil))))) (pA d33 p4 (aY (p3-1)) _ z37)) (q1 (n0 ([(aA.mk x38.asJ x38.asD x38.asG)]:List aA)) (bD H fun x41 z40 H=>(q1 (a5.callOwn (pre:=⟨[],[]⟩) (B:= []) (R:=fun k=> .agg [pI x41.asJ,pS x41.asD,fW x41.asG k]) (ps:= [_,_]) (qs:= [pS y35,aX ([(aA.mk x38.asJ x38.asD x38.asG)]:List aA)]) [] rfl rfl func47 (by kernel_rfl) rfl rfl rfl (eX.of trivial trivial (by decide) (by decide)) rfl jH rfl rfl rfl (fun k k'=>(.agg (.cons (.free _ rfl) (.cons (.free _ rfl) (.cons Mv.acc AT.nil))))) (fP fu y35 ([(aA.mk x38.asJ x38.asD x38.asG)]:List aA) _ z40)) ?_))))
  refine gQ 2 ?_;refine cF.ret ?_
  obtain rfl:_=r:=(xQ H:)
  exact NQ (st':=⟨[some ⟨133,dC x39⟩],[⟨30,3,aA.trs (x38.asG),false⟩,⟨30,3,aA.trs (([(aA.mk x38.asJ x38.asD x38.asG)]:List aA)),false⟩,⟨30,3,aA.trs (x41.asG),false⟩]⟩) ⟨2,rfl,rfl,rfl⟩ (hr:=⟨⟨_,_,_,rfl,rfl,EH.h,rfl,rfl⟩,trivial⟩)
 refine gQ 12 ?_;refine dF 29 H (fun g42 H=>?_) fun g42 H=>?_
 ·have g42n:pc.below 8<5:=by have:=of_decide_eq_true g42;omega
  refine gQ 9 ?_;refine q1 (gC ([dK,c9,gM]:LB)) (fI H fun d43 h44 H=>(fI H fun y45 h46 H=>(q1 (eW [0] [] func48 (DY h44 h46 (eA d1 ([dK,c9,gM]:LB) (by decide)))) (bD H fun x48 z47 H=>(q1 (a5.callOwn (pre:=⟨[],[]⟩) (B:= []) (R:=fun k=> .agg [pI x48.asJ,pS x48.asD,fW x48.asG k]) (ps:= [_,_]) (qs:= [pS y45,_]) [] rfl rfl func47 (by kernel_rfl) rfl rfl rfl (eX.of trivial trivial (by decide) (by decide)) rfl jH rfl rfl rfl (fun k k'=>(.agg (.cons (.free _ rfl) (.cons (.free _ rfl) (.cons Mv.acc AT.nil))))) (fP fu y45 ([]) _ z47)) ?_)))))
  refine gQ 2 ?_;refine cF.ret ?_
  obtain rfl:_=r:=(xQ H:)
  exact NQ (st':=⟨[some ⟨133,dC d43⟩],[⟨30,3,aA.trs (x48.asG),false⟩]⟩) ⟨0,rfl,rfl,rfl⟩ (hr:=⟨⟨_,_,_,rfl,rfl,EH.h,rfl,rfl⟩,trivial⟩)
 refine gQ 5 ?_;refine a7 H (fun h49 H=>?_) (fun h49 H=>?_)
 ·refine gQ 3 ?_;refine q1 (gC ([dK,c9,gM]:LB)) (fI H fun d50 h51 H=>(fI H fun y52 h53 H=>(q1 (eW [0] [] func48 (DY h51 h53 (eA d1 ([dK,c9,gM]:LB) (by decide)))) (bD H fun x55 z54 H=>(q1 (a5.callOwn (pre:=⟨[],[]⟩) (B:= []) (R:=fun k=> .agg [pI x55.asJ,pS x55.asD,fW x55.asG k]) (ps:= [_,_]) (qs:= [pS y52,_]) [] rfl rfl func47 (by kernel_rfl) rfl rfl rfl (eX.of trivial trivial (by decide) (by decide)) rfl jH rfl rfl rfl (fun k k'=>(.agg (.cons (.free _ rfl) (.cons (.free _ rfl) (.cons Mv.acc AT.nil))))) (fP fu y52 ([]) _ z54)) ?_)))))
  refine gQ 2 ?_;refine cF.ret ?_
  obtain rfl:_=r:=(xQ H:)
  exact NQ (st':=⟨[some ⟨133,dC d50⟩],[⟨30,3,aA.trs (x55.asG),false⟩]⟩) ⟨0,rfl,rfl,rfl⟩ (hr:=⟨⟨_,_,_,rfl,rfl,EH.h,rfl,rfl⟩,trivial⟩)
 refine gQ 6 ?_;refine a7 H (fun h56 H=>?_) (fun h56 H=>?_)
 ·refine gQ 6 ?_;refine eY H fun x58 x59 z57 H=>(q1 (a5.callOwn (pre:=⟨[some ⟨133,dC d1⟩],[]⟩) (B:= [some ⟨133,dC x59⟩]) (R:=fun k=> .agg [pI x58.asJ,pS x58.asD,fW x58.asG k]) (ps:= [_,_,_]) (qs:= [.ptr 0 0,rS p4,pI (aY (p3-1))]) [0] rfl rfl func131 (by kernel_rfl) rfl rfl rfl (eX.of ⟨⟨_,rfl,rfl,jH,rfl⟩,trivial⟩ trivial (by decide) (by decide)) rfl jH rfl rfl rfl (fun k k'=>(.agg (.cons (.free _ rfl) (.cons (.free _ rfl) (.cons Mv.acc AT.nil))))) (pA d1 p4 (aY (p3-1)) _ z57)) ?_)
  refine gQ 4 ?_;refine eY H fun x61 x62 z60 H=>(q1 (a5.callOwn (pre:=⟨[some ⟨133,dC x59⟩],[]⟩) (B:= [some ⟨133,dC x62⟩]) (R:=fun k=> .agg [pI x61.asJ,pS x61.asD,fW x61.asG k]) (ps:= [_,_,_]) (qs:= [.ptr 0 0,rS p4,pI (aY (p3-1))]) [0] rfl rfl func131 (by kernel_rfl) rfl rfl rfl (eX.of ⟨⟨_,rfl,rfl,jH,rfl⟩,trivial⟩ trivial (by decide) (by decide)) rfl jH rfl rfl rfl (fun k k'=>(.agg (.cons (.free _ rfl) (.cons (.free _ rfl) (.cons Mv.acc AT.nil))))) (pA x59 p4 (aY (p3-1)) _ z60)) (q1 (n0 ([(aA.mk x58.asJ x58.asD x58.asG),(aA.mk x61.asJ x61.asD x61.asG)]:List aA)) (bD H fun x64 z63 H=>(q1 (a5.callOwn (pre:=⟨[],[]⟩) (B:= []) (R:=fun k=> .agg [pI x64.asJ,pS x64.asD,fW x64.asG k]) (ps:= [_,_]) (qs:= [pS pW,aX ([(aA.mk x58.asJ x58.asD x58.asG),(aA.mk x61.asJ x61.asD x61.asG)]:List aA)]) [] rfl rfl func47 (by kernel_rfl) rfl rfl rfl (eX.of trivial trivial (by decide) (by decide)) rfl jH rfl rfl rfl (fun k k'=>(.agg (.cons (.free _ rfl) (.cons (.free _ rfl) (.cons Mv.acc AT.nil))))) (fP fu pW ([(aA.mk x58.asJ x58.asD x58.asG),(aA.mk x61.asJ x61.asD x61.asG)]:List aA) _ z63)) ?_))))
  refine gQ 2 ?_;refine cF.ret ?_
  obtain rfl:_=r:=(xQ H:)
  exact NQ (st':=⟨[some ⟨133,dC x62⟩],[⟨30,3,aA.trs (x58.asG),false⟩,⟨30,3,aA.trs (x61.asG),false⟩,⟨30,3,aA.trs (([(aA.mk x58.asJ x58.asD x58.asG),(aA.mk x61.asJ x61.asD x61.asG)]:List aA)),false⟩,⟨30,3,aA.trs (x64.asG),false⟩]⟩) ⟨3,rfl,rfl,rfl⟩ (hr:=⟨⟨_,_,_,rfl,rfl,EH.h,rfl,rfl⟩,trivial⟩)
 refine gQ 4 ?_;refine q1 (gC ([b0,b0,tD]:LB)) (fI H fun d65 h66 H=>(fI H fun y67 h68 H=>(q1 (eW [0] [] func48 (DY h66 h68 (eA d1 ([b0,b0,tD]:LB) (by decide)))) ?_)))
 refine gQ 4 ?_;refine eY H fun x70 x71 z69 H=>(q1 (a5.callOwn (pre:=⟨[some ⟨133,dC d65⟩],[]⟩) (B:= [some ⟨133,dC x71⟩]) (R:=fun k=> .agg [pI x70.asJ,pS x70.asD,fW x70.asG k]) (ps:= [_,_,_]) (qs:= [.ptr 0 0,rS p4,pI (aY (p3-1))]) [0] rfl rfl func131 (by kernel_rfl) rfl rfl rfl (eX.of ⟨⟨_,rfl,rfl,jH,rfl⟩,trivial⟩ trivial (by decide) (by decide)) rfl jH rfl rfl rfl (fun k k'=>(.agg (.cons (.free _ rfl) (.cons (.free _ rfl) (.cons Mv.acc AT.nil))))) (pA d65 p4 (aY (p3-1)) _ z69)) (q1 (n0 ([(aA.mk x70.asJ x70.asD x70.asG)]:List aA)) (bD H fun x73 z72 H=>(q1 (a5.callOwn (pre:=⟨[],[]⟩) (B:= []) (R:=fun k=> .agg [pI x73.asJ,pS x73.asD,fW x73.asG k]) (ps:= [_,_]) (qs:= [pS y67,aX ([(aA.mk x70.asJ x70.asD x70.asG)]:List aA)]) [] rfl rfl func47 (by kernel_rfl) rfl rfl rfl (eX.of trivial trivial (by decide) (by decide)) rfl jH rfl rfl rfl (fun k k'=>(.agg (.cons (.free _ rfl) (.cons (.free _ rfl) (.cons Mv.acc AT.nil))))) (fP fu y67 ([(aA.mk x70.asJ x70.asD x70.asG)]:List aA) _ z72)) ?_))))
 refine gQ 2 ?_;refine cF.ret ?_
 obtain rfl:_=r:=(xQ H:)
 exact NQ (st':=⟨[some ⟨133,dC x71⟩],[⟨30,3,aA.trs (x70.asG),false⟩,⟨30,3,aA.trs (([(aA.mk x70.asJ x70.asD x70.asG)]:List aA)),false⟩,⟨30,3,aA.trs (x73.asG),false⟩]⟩) ⟨2,rfl,rfl,rfl⟩ (hr:=⟨⟨_,_,_,rfl,rfl,EH.h,rfl,rfl⟩,trivial⟩)
def jA:Nat→DS→(LB)→Int→Option (aA×DS)
 |0,_,_,_=>none
 |fu+1,pc,p4,p3=>MK fu (jA fu) pc p4 p3
theorem acJ(fu:Nat):IJ (jA fu):=by
 induction fu with
 |zero=>exact(fun pc p4 p3 r H=>by simp only [jA] at H;cases H)
 |succ fu ih=>exact(fun pc p4 p3 r H=>by simp only [jA] at H;exact Z6 fu (jA fu) ih pc p4 p3 r H)
theorem IK(fu:Nat):IJ (jA fu):=(acJ fu)
abbrev nT:=aA→Option aA
abbrev kM:=(List aA)→Option ((List aA))
def yY(m:nT):Prop:= ∀(pt:aA) (r:aA),m pt=some r→bP Tryz.prog 56 [(aA.pv pt)] ((aA.pv r):PV)
def tK(m:kM):Prop:= ∀(p8:List aA) (r:(List aA)),m p8=some r→bP Tryz.prog 111 [aX p8] (aX r:PV)
def DH(fu:Nat)(p6:nT)(p5:kM)(pt:aA):Option aA:=bd (p5 pt.asG) fun x2=>some (aA.mk pt.asJ pt.asD x2)
theorem T9(fu:Nat)(p6:nT)(p5:kM)(pF:yY p6)(pD:tK p5):yY (DH fu p6 p5):=by
 intro pt r H
 refine qJ func56 H (fun C hC H=>?_)
 refine gQ 2 ?_;refine q1 (iR (cN pt)) ?_;refine gQ 3 ?_;refine bD H fun x2 z1 H=>(dW (dI [1] bS (dD [3] eE (dI [1] bS (dD [5] eE (dI [1] bS (dD [7] eE (dI [8] (bC func111 (pD pt.asG _ z1)) (dI [4,6,9] nU (kS [2,10] jP (dN ?_)))))))))))
 exact gE 0
def AQ(fu:Nat)(p6:nT)(p5:kM)(p8:List aA):Nat→((List aA))→Option (LR ((List aA)) ((List aA))):=fun i1 v3=>bd (p6 (aP p8 i1)) fun x7=>gd ((v3).length+(([x7]:List aA)).length≤68719476736) (some (.next (v3++([x7]:List aA))))
def tJ(fu:Nat)(p6:nT)(p5:kM)(p8:List aA):Option ((List aA)):=so (loopN (AQ fu p6 p5 p8) (p8.length-0) 0 ([])) fun v3=>some v3
theorem OR(fu:Nat)(p6:nT)(p5:kM)(pF:yY p6)(pD:tK p5):tK (tJ fu p6 p5):=by
 intro p8 r H
 refine qJ func111 H (fun C hC H=>?_)
 refine gQ 6 ?_;refine q1 (n0 ([]:List aA)) ?_;refine gQ 7 ?_;refine iG 0 (aA.trs_len _) (fun hl4=>?_)
 refine bM (σ:=(List aA)) (fun i1 v3=>⟨[(0,aX p8),(2,.nil),(3,fW v3 0),(4,pN i1)],⟨[],[⟨30,3,aA.trs (v3),false⟩]⟩⟩) (fun v3=>⟨[(2,.nil),(3,fW v3 0)],⟨[],[⟨30,3,aA.trs (v3),false⟩]⟩⟩) (eR H) ?_ ?_
 ·rintro i1 v3 H
  refine gQ 8 ?_;refine cW H (fun h5 h5l H=>?_) (fun h5 H=>?_)
  ·refine gQ 8 ?_;refine q1 (jB (aA.cs (aP p8 i1))) (bD H fun x7 z6 H=>(q1 (bC func56 (pF (aP p8 i1) _ z6)) (q1 (gC ([x7]:List aA)) (cQ H fun z8 H=>(q1 (jS z8) ?_)))))
   exact gE 7
  exact gE 0
 rintro v3 H
 exact gE 5
mutual
def fQ:Nat→aA→Option aA
 |0,_=>none
 |fu+1,pt=>DH fu (fQ fu) (fB fu) pt
def fB:Nat→(List aA)→Option ((List aA))
 |0,_=>none
 |fu+1,p8=>tJ fu (fQ fu) (fB fu) p8
end
theorem LE(fu:Nat):yY (fQ fu)∧tK (fB fu):=by
 induction fu with
 |zero=>exact⟨(fun pt r H=>by simp only [fQ] at H;cases H),(fun p8 r H=>by simp only [fB] at H;cases H)⟩
 |succ fu ih=>exact⟨(fun pt r H=>by simp only [fQ] at H;exact T9 fu (fQ fu) (fB fu) ih.1 ih.2 pt r H),(fun p8 r H=>by simp only [fB] at H;exact OR fu (fQ fu) (fB fu) ih.1 ih.2 p8 r H)⟩
theorem OT(fu:Nat):yY (fQ fu):=(LE fu).1
theorem T8(fu:Nat):tK (fB fu):=(LE fu).2
def acI(m:ByteArray→aA→Option aA):Prop:= ∀(pE:ByteArray) (pt:aA) (r:aA),m pE pt=some r→xA Tryz.prog 139 [pS pE,(aA.pv pt)] ⟨[],[]⟩ [] 30 3 (aA.trs (r.asG)) (fun k=> .agg [pI r.asJ,pS r.asD,fW r.asG k])
def yZ(fu:Nat)(pE:ByteArray)(pt:aA):Option aA:=bd (fQ fu pt) fun x2=>some (aA.mk 3 pE ([x2]:List aA))
theorem OX(fu:Nat):acI (yZ fu):=by
 intro pE pt r H
 unfold xA
 refine qJ func139 H (fun C hC H=>?_)
 refine gQ 2 ?_;refine q1 (iR (cN pt)) ?_;refine gQ 5 ?_;refine q1 (cK [pI pt.asJ,pS pt.asD,aX pt.asG]) (bD H fun x2 z1 H=>(q1 (bC func56 (OT fu pt _ z1)) (q1 (n0 ([x2]:List aA)) ?_)))
 refine gQ 3 ?_;refine cF.ret ?_
 obtain rfl:_=r:=(xQ H:)
 exact NQ (st':=⟨[],[⟨30,3,aA.trs (([x2]:List aA)),false⟩]⟩) ⟨0,rfl,rfl,rfl⟩ (hr:=⟨⟨_,_,_,rfl,rfl,EH.h,rfl,rfl⟩,trivial⟩)
def RP(m:DS→Int→Option (aA×DS)):Prop:= ∀(pc:DS) (p3:Int) (r:aA×DS),m pc p3=some r→xA Tryz.prog 132 [.ptr 0 0,pI p3] ⟨[some ⟨133,dC pc⟩],[]⟩ [some ⟨133,dC r.2⟩] 30 3 (aA.trs (r.1.asG)) (fun k=> .agg [pI r.1.asJ,pS r.1.asD,fW r.1.asG k])
theorem sR{m:DS→Int→Option (aA×DS)}(h:RP m)(pc:DS)(p3:Int)(r:aA×DS)(H:m pc p3=some r):cJ Tryz.prog 132 [.ptr 0 0,pI p3] ⟨[some ⟨133,dC pc⟩],[]⟩ (fun q t=>q=((aA.pv r.1):PV)∧t=⟨[some ⟨133,dC r.2⟩],[]⟩):=(h pc p3 r H).plain (fun _=>jH) (hp:=adL)
def mL(fu:Nat)(pc:DS)(p3:Int):Option (aA×DS):=bd (jA fu pc ([eQ,t2]:LB) p3) fun(x2,x3)=>lt (x3.after 8) fun d4=>sw (decide ((x3.below 8:Int)=0)) (lt (d4.after ([cX,a4]:LB).length) fun d7=>lt (d4.pick ([cX,a4]:LB)) fun y9=>bd (yZ fu y9 (aA.mk x2.asJ x2.asD x2.asG)) fun x12=>some ((aA.mk x12.asJ x12.asD x12.asG),d7)) (sw (decide ((x3.below 8:Int)=1)) (bd (yZ fu cX (aA.mk x2.asJ x2.asD x2.asG)) fun x15=>bd (eJ fu b0 ([(aA.mk x15.asJ x15.asD x15.asG)]:List aA)) fun x17=>some ((aA.mk x17.asJ x17.asD x17.asG),d4)) (sw (decide ((x3.below 8:Int)=2)) (some ((aA.mk 4 a4 []),d4)) (some ((aA.mk x2.asJ x2.asD x2.asG),d4))))
theorem sQ(fu:Nat):RP (mL fu):=by
 intro pc p3 r H
 unfold xA
 refine qJ func132 H (fun C hC H=>?_)
 refine gQ 7 ?_;refine q1 (gC ([eQ,t2]:LB)) (q1 bG (eY H fun x2 x3 z1 H=>(q1 (a5.callOwn (pre:=⟨[some ⟨133,dC pc⟩],[]⟩) (B:= [some ⟨133,dC x3⟩]) (R:=fun k=> .agg [pI x2.asJ,pS x2.asD,fW x2.asG k]) (ps:= [_,_,_]) (qs:= [.ptr 0 0,rS ([eQ,t2]:LB),pI p3]) [0] rfl rfl func131 (by kernel_rfl) rfl rfl rfl (eX.of ⟨⟨_,rfl,rfl,jH,rfl⟩,trivial⟩ trivial (by decide) (by decide)) rfl jH rfl rfl rfl (fun k k'=>(.agg (.cons (.free _ rfl) (.cons (.free _ rfl) (.cons Mv.acc AT.nil))))) (IK fu pc ([eQ,t2]:LB) p3 _ z1)) ?_)))
 refine gQ 7 ?_;refine fI H fun d4 h5 H=>(q1 (eW [0] [] func73 (AU h5 (eT x3 8))) ?_)
 refine gQ 7 ?_;refine a7 H (fun h6 H=>?_) (fun h6 H=>?_)
 ·refine qS (fI H fun d7 h8 H=>(fI H fun y9 h10 H=>(bD H fun x12 z11 H=>(dW (dI [0] bG (dI [] (gC ([cX,a4]:LB)) (dE [14,15] (eW [0] [] func48 (DY h8 h10 (eA d4 ([cX,a4]:LB) (by decide)))) (dB [5] 0 1 (GP [pI x2.asJ,pS x2.asD,fW x2.asG 0]) (dE [16,17] (a5.callOwn (pre:=⟨[],[]⟩) (B:= []) (R:=fun k=> .agg [pI x12.asJ,pS x12.asD,fW x12.asG k]) (ps:= [_,_]) (qs:= [pS y9,.agg [pI x2.asJ,pS x2.asD,aX x2.asG]]) [] rfl rfl func139 (by kernel_rfl) rfl rfl rfl (eX.of trivial trivial (by decide) (by decide)) rfl jH rfl rfl rfl (fun k k'=>(.agg (.cons (.free _ rfl) (.cons (.free _ rfl) (.cons Mv.acc AT.nil))))) (OX fu y9 (aA.mk x2.asJ x2.asD x2.asG) _ z11)) (kS [4,18] jP (dN (cF.ret ?_))))))))))))
  obtain rfl:_=r:=(xQ H:)
  exact NQ (st':=⟨[some ⟨133,dC d7⟩],[⟨30,3,aA.trs (x2.asG),false⟩,⟨30,3,aA.trs (x12.asG),false⟩]⟩) ⟨1,rfl,rfl,rfl⟩ (hr:=⟨⟨_,_,_,rfl,rfl,EH.h,rfl,rfl⟩,trivial⟩)
 refine gQ 5 ?_;refine a7 H (fun h13 H=>?_) (fun h13 H=>?_)
 ·refine gQ 2 ?_;refine q1 (cK [pI x2.asJ,pS x2.asD,fW x2.asG 0]) (bD H fun x15 z14 H=>(q1 (a5.callOwn (pre:=⟨[],[]⟩) (B:= []) (R:=fun k=> .agg [pI x15.asJ,pS x15.asD,fW x15.asG k]) (ps:= [_,_]) (qs:= [pS cX,.agg [pI x2.asJ,pS x2.asD,aX x2.asG]]) [] rfl rfl func139 (by kernel_rfl) rfl rfl rfl (eX.of trivial trivial (by decide) (by decide)) rfl jH rfl rfl rfl (fun k k'=>(.agg (.cons (.free _ rfl) (.cons (.free _ rfl) (.cons Mv.acc AT.nil))))) (OX fu cX (aA.mk x2.asJ x2.asD x2.asG) _ z14)) (q1 (n0 ([(aA.mk x15.asJ x15.asD x15.asG)]:List aA)) (bD H fun x17 z16 H=>(q1 (a5.callOwn (pre:=⟨[],[]⟩) (B:= []) (R:=fun k=> .agg [pI x17.asJ,pS x17.asD,fW x17.asG k]) (ps:= [_,_]) (qs:= [pS b0,aX ([(aA.mk x15.asJ x15.asD x15.asG)]:List aA)]) [] rfl rfl func47 (by kernel_rfl) rfl rfl rfl (eX.of trivial trivial (by decide) (by decide)) rfl jH rfl rfl rfl (fun k k'=>(.agg (.cons (.free _ rfl) (.cons (.free _ rfl) (.cons Mv.acc AT.nil))))) (fP fu b0 ([(aA.mk x15.asJ x15.asD x15.asG)]:List aA) _ z16)) ?_)))))
  refine gQ 2 ?_;refine cF.ret ?_
  obtain rfl:_=r:=(xQ H:)
  exact NQ (st':=⟨[some ⟨133,dC d4⟩],[⟨30,3,aA.trs (x2.asG),false⟩,⟨30,3,aA.trs (x15.asG),false⟩,⟨30,3,aA.trs (([(aA.mk x15.asJ x15.asD x15.asG)]:List aA)),false⟩,⟨30,3,aA.trs (x17.asG),false⟩]⟩) ⟨3,rfl,rfl,rfl⟩ (hr:=⟨⟨_,_,_,rfl,rfl,EH.h,rfl,rfl⟩,trivial⟩)
 refine gQ 5 ?_;refine a7 H (fun h18 H=>?_) (fun h18 H=>?_)
 ·refine gQ 5 ?_;refine cF.wk (Wk.regBox (k:=1) (j:=2) 30 3 (by decide) rfl rfl) (cF.ret ?_)
  obtain rfl:_=r:=(xQ H:)
  exact NQ (st':=⟨[some ⟨133,dC d4⟩],[⟨30,3,aA.trs (x2.asG),false⟩,⟨30,3,aA.trs ([]),false⟩]⟩) ⟨1,rfl,rfl,rfl⟩ (hr:=⟨⟨_,_,_,rfl,rfl,EH.h,rfl,rfl⟩,trivial⟩)
 refine gQ 3 ?_;refine q1 (cK [pI x2.asJ,pS x2.asD,fW x2.asG 0]) ?_;refine gQ 2 ?_;refine cF.ret ?_
 obtain rfl:_=r:=(xQ H:)
 exact NQ (st':=⟨[some ⟨133,dC d4⟩],[⟨30,3,aA.trs (x2.asG),false⟩]⟩) ⟨0,rfl,rfl,rfl⟩ (hr:=⟨⟨_,_,_,rfl,rfl,EH.h,rfl,rfl⟩,trivial⟩)
def rM(fu:Nat)(pk:Int)(pH:ByteArray)(pG:List aG):Option aG:=gd (([]:List aG).length+(pG).length≤68719476736) (some (aG.mk pk s_ pH 0 (aA.mk 0 s_ []) (([])++pG) []))
theorem sM(fu:Nat)(pk:Int)(pH:ByteArray)(pG:List aG)(r:aG)(H:rM fu pk pH pG=some r):bP Tryz.prog 190 [pI pk,pS pH,fZ pG] ((aG.pv r)):=by
 refine qJ func190 H (fun C hC H=>?_)
 refine gQ 8 ?_;refine q1 (n0 ([]:List aG)) (q1 bG (cQ H fun z1 H=>(q1 (jS z1) ?_)))
 exact gE 3
abbrev pX:=DS→(LB)→Int→Option (aG×DS)
def AA(m:pX):Prop:= ∀(pC:DS) (p7:LB) (p0:Int) (r:aG×DS),m pC p7 p0=some r→cJ Tryz.prog 193 [.ptr 0 0,rS p7,pI p0] ⟨[some ⟨133,dC pC⟩],[]⟩ (fun q t=>q=((aG.pv r.1):PV)∧t=⟨[some ⟨133,dC r.2⟩],[]⟩)
def VZ(fu:Nat)(p1:pX)(pC:DS)(p7:LB)(p0:Int)(d1:DS):Option ((aG×DS)⊕Int):=sw (decide (p0≤0)) (some (.inr (((pC.below 13)%3:Nat):Int))) (some (.inr (pC.below 13:Int)))
def V0(fu:Nat)(p1:pX)(pC:DS)(p7:LB)(p0:Int)(d1:DS)(v3:Int):Option ((aG×DS)⊕Bool):=sw (decide (v3=2)) (some (.inr (decide (v3=2)))) (some (.inr (decide (v3=3))))
def F7(fu:Nat)(p1:pX)(pC:DS)(p7:LB)(p0:Int):Option (aG×DS):=lt (pC.after 13) fun d1=>so (VZ fu p1 pC p7 p0 d1) fun v3=>sw (decide (v3=1)) (lt (d1.after 2) fun d6=>some ((aG.mk 2 s_ s_ (d1.below 2:Int) (aA.mk 0 s_ []) [] []),d6)) (so (V0 fu p1 pC p7 p0 d1 v3) fun v8=>sw (v8) (sw (decide ((p7.length:Int)>0)) (gd (0<(p7).length) (lt (d1.after p7.length) fun d13=>lt (d1.pick p7) fun y15=>bd (sN fu y15) fun x18=>some (x18,d13))) (lt (d1.after 20) fun d19=>bd (qP fu (aY ((d1.below 20:Int)-5))) fun x22=>some (x22,d19))) (sw (decide (v3=4)) (lt (d1.after ([s_f,s_g]:LB).length) fun d24=>lt (d1.pick ([s_f,s_g]:LB)) fun y26=>bd (p1 d24 p7 (aY (p0-1))) fun(x29,x30)=>bd (rM fu 4 y26 ([x29]:List aG)) fun x32=>some (x32,x30)) (sw (decide (v3=5)) (lt (d1.after ([a4,cX]:LB).length) fun d34=>lt (d1.pick ([a4,cX]:LB)) fun y36=>bd (p1 d34 p7 (aY (p0-1))) fun(x39,x40)=>bd (p1 x40 p7 (aY (p0-1))) fun(x42,x43)=>some ((aG.mk 5 y36 dY 0 (aA.mk 0 s_ []) ([x39,x42]:List aG) []),x43)) (sw (decide (v3=6)) (bd (p1 d1 p7 (aY (p0-1))) fun(x46,x47)=>bd (p1 x47 p7 (aY (p0-1))) fun(x49,x50)=>bd (rM fu 6 bZ ([x46,x49]:List aG)) fun x52=>some (x52,x50)) (sw (decide (v3=7)) (gd (([]:LB).length+(p7).length≤68719476736) (gd ((([])++p7).length+(([Y2,Y3]:LB)).length≤68719476736) (bd (p1 d1 p7 (aY (p0-1))) fun(x57,x58)=>bd (p1 x58 p7 (aY (p0-1))) fun(x60,x61)=>bd (p1 x61 ((([])++p7)++([Y2,Y3]:LB)) (aY (p0-1))) fun(x63,x64)=>some ((aG.mk 7 s_ s_ 0 (aA.mk 0 s_ []) ([x57]:List aG) ([(bH.mk eV [] x60),(bH.mk bZ ([Y2,Y3]:LB) x63)]:List bH)),x64)))) (sw (decide (v3=8)) (bd (p1 d1 p7 (aY (p0-1))) fun(x67,x68)=>gd (([]:LB).length+(p7).length≤68719476736) (gd ((([])++p7).length+(([nP]:LB)).length≤68719476736) (bd (p1 x68 ((([])++p7)++([nP]:LB)) (aY (p0-1))) fun(x72,x73)=>bd (rM fu 8 nP ([x67,x72]:List aG)) fun x75=>some (x75,x73)))) (sw (decide (v3=9)) (bd (p1 d1 p7 (aY (p0-1))) fun(x78,x79)=>bd (p1 x79 p7 (aY (p0-1))) fun(x81,x82)=>bd (p1 x82 p7 (aY (p0-1))) fun(x84,x85)=>bd (rM fu 9 s_ ([x78,x81,x84]:List aG)) fun x87=>some (x87,x85)) (sw (decide (v3=10)) (lt (d1.after ([wH,A5,IQ,IR,IS]:LB).length) fun d89=>lt (d1.pick ([wH,A5,IQ,IR,IS]:LB)) fun y91=>bd (p1 d89 p7 (aY (p0-1))) fun(x94,x95)=>bd (p1 x95 p7 (aY (p0-1))) fun(x97,x98)=>bd (rM fu 10 y91 ([x94,x97]:List aG)) fun x100=>some (x100,x98)) (sw (decide (v3=11)) (bd (p1 d1 p7 (aY (p0-1))) fun(x103,x104)=>some ((aG.mk 11 a4 s_ 0 (aA.mk 0 s_ []) ([x103]:List aG) []),x104)) (sw (decide (v3=12)) (bd (jA fu d1 ([eQ]:LB) 1) fun(x107,x108)=>bd (p1 x108 p7 (aY (p0-1))) fun(x110,x111)=>some ((aG.mk 12 s_ s_ 0 x107 ([x110]:List aG) []),x111)) (lt (d1.after 20) fun d112=>bd (qP fu (aY ((d1.below 20:Int)-5))) fun x115=>some (x115,d112))))))))))))
theorem QE(fu:Nat)(p1:pX)(p2:AA p1):AA (F7 fu p1):=by
 intro pC p7 p0 r H
 refine qJ func193 H (fun C hC H=>?_)
 refine gQ 7 ?_;refine fI H fun d1 h2 H=>(q1 (eW [0] [] func73 (AU h2 (eT pC 13))) ?_)
 refine gQ 3 ?_;refine m3 (σ:=Int) (fun v3=>⟨[(0,.ptr 0 0),(1,rS p7),(2,pI p0),(6,.ptr 1 0),(7,pI v3)],⟨[some ⟨133,dC d1⟩,some ⟨211,[pI 0,pS s_,pS s_,pI 0,pI 0,pS s_,.nil,.nil,.nil]⟩],[]⟩⟩) (eR H) (fun H=>?_) ?_
 ·refine gQ 5 ?_;refine a7 H (fun h4 H=>?_) (fun h4 H=>?_)
  ·refine gQ 2 ?_;refine q1 (a5.remN (a:=pC.below 13) (b:=3) rfl rfl rfl rfl (by have:=DS.below_lt (d:=pC) (n:=13) (by decide);omega) (by have:=DS.below_lt (d:=pC) (n:=13) (by decide);omega)) ?_;exact gE 2
  exact gE 1
 rintro v3 H
 refine gQ 11 ?_;refine a7 H (fun h5 H=>?_) (fun h5 H=>?_)
 ·refine gQ 3 ?_;refine fI H fun d6 h7 H=>(q1 (eW [0] [] func73 (AU h7 (eT d1 2))) ?_)
  exact gE 3
 refine qS ?_;refine m3 (σ:=Bool) (fun v8=>⟨[(0,.ptr 0 0),(1,rS p7),(2,pI p0),(6,.ptr 1 0),(15,pI v3),(21,pB v8)],⟨[some ⟨133,dC d1⟩,some ⟨211,[pI 0,pS s_,pS s_,pI 0,pI 0,pS s_,.nil,.nil,.nil]⟩],[]⟩⟩) (eR H) (fun H=>?_) ?_
 ·refine gQ 5 ?_;refine a7 H (fun h9 H=>gE 1) fun h9 H=>?_;exact gE 4
 rintro v8 H
 refine a7 H (fun h10 H=>?_) (fun h10 H=>?_)
 ·refine gQ 6 ?_;refine a7 H (fun h11 H=>?_) (fun h11 H=>?_)
  ·refine gQ 4 ?_;refine cQ H fun z12 H=>(fI H fun d13 h14 H=>(fI H fun y15 h16 H=>(q1 (eW [0] [] func48 (DY h14 h16 (eA d1 p7 z12))) (bD H fun x18 z17 H=>(q1 (bC func191 (vU fu y15 _ z17)) ?_)))))
   exact gE 2
  refine gQ 4 ?_;refine fI H fun d19 h20 H=>(q1 (eW [0] [] func73 (AU h20 (eT d1 20))) (q1 rSw (bD H fun x22 z21 H=>(q1 (bC func192 (sL fu (aY ((d1.below 20:Int)-5)) _ z21)) ?_))))
  exact gE 2
 refine gQ 5 ?_;refine a7 H (fun h23 H=>?_) (fun h23 H=>?_)
 ·refine gQ 3 ?_;refine q1 (gC ([s_f,s_g]:LB)) (fI H fun d24 h25 H=>(fI H fun y26 h27 H=>(q1 (eW [0] [] func48 (DY h25 h27 (eA d1 ([s_f,s_g]:LB) (by decide)))) ?_)))
  refine gQ 4 ?_;refine eY H fun x29 x30 z28 H=>(q1 (eW [0] [] func193 (p2 d24 p7 (aY (p0-1)) _ z28)) (q1 (gC ([x29]:List aG)) (bD H fun x32 z31 H=>(q1 (bC func190 (sM fu 4 y26 ([x29]:List aG) _ z31)) ?_))))
  exact gE 2
 refine gQ 5 ?_;refine a7 H (fun h33 H=>?_) (fun h33 H=>?_)
 ·refine gQ 3 ?_;refine q1 (gC ([a4,cX]:LB)) (fI H fun d34 h35 H=>(fI H fun y36 h37 H=>(q1 (eW [0] [] func48 (DY h35 h37 (eA d1 ([a4,cX]:LB) (by decide)))) ?_)))
  refine gQ 4 ?_;refine eY H fun x39 x40 z38 H=>(q1 (eW [0] [] func193 (p2 d34 p7 (aY (p0-1)) _ z38)) ?_)
  refine gQ 4 ?_;refine eY H fun x42 x43 z41 H=>(q1 (eW [0] [] func193 (p2 x40 p7 (aY (p0-1)) _ z41)) (q1 (gC ([x39,x42]:List aG)) ?_))
  exact gE 3
 refine gQ 5 ?_;refine a7 H (fun h44 H=>?_) (fun h44 H=>?_)
 ·refine gQ 6 ?_;refine eY H fun x46 x47 z45 H=>(q1 (eW [0] [] func193 (p2 d1 p7 (aY (p0-1)) _ z45)) ?_)
  refine gQ 4 ?_;refine eY H fun x49 x50 z48 H=>(q1 (eW [0] [] func193 (p2 x47 p7 (aY (p0-1)) _ z48)) (q1 (gC ([x46,x49]:List aG)) (bD H fun x52 z51 H=>(q1 (bC func190 (sM fu 6 bZ ([x46,x49]:List aG) _ z51)) ?_))))
  exact gE 2
 refine gQ 5 ?_;refine a7 H (fun h53 H=>?_) (fun h53 H=>?_)
 ·refine gQ 2 ?_;refine q1 (n0 ([]:LB)) (q1 bG (cQ H fun z54 H=>(q1 (jS z54) (q1 (gC ([Y2,Y3]:LB)) (cQ H fun z55 H=>(q1 (jS z55) ?_))))))
  refine gQ 8 ?_;refine eY H fun x57 x58 z56 H=>(q1 (eW [0] [] func193 (p2 d1 p7 (aY (p0-1)) _ z56)) (q1 (gC ([x57]:List aG)) ?_))
  refine gQ 4 ?_;refine eY H fun x60 x61 z59 H=>(q1 (eW [0] [] func193 (p2 x58 p7 (aY (p0-1)) _ z59)) (q1 nU (q1 (gC ([Y2,Y3]:LB)) ?_)))
  refine gQ 4 ?_;refine eY H fun x63 x64 z62 H=>(q1 (eW [0] [] func193 (p2 x61 ((([])++p7)++([Y2,Y3]:LB)) (aY (p0-1)) _ z62)) (q1 nU (q1 (gC ([(bH.mk eV [] x60),(bH.mk bZ ([Y2,Y3]:LB) x63)]:List bH)) ?_)))
  exact gE 3
 refine gQ 5 ?_;refine a7 H (fun h65 H=>?_) (fun h65 H=>?_)
 ·refine gQ 6 ?_;refine eY H fun x67 x68 z66 H=>(q1 (eW [0] [] func193 (p2 d1 p7 (aY (p0-1)) _ z66)) (q1 bG (q1 (n0 ([]:LB)) (q1 bG (cQ H fun z69 H=>(q1 (jS z69) (q1 (gC ([nP]:LB)) (cQ H fun z70 H=>(q1 (jS z70) ?_)))))))))
  refine gQ 2 ?_;refine eY H fun x72 x73 z71 H=>(q1 (eW [0] [] func193 (p2 x68 ((([])++p7)++([nP]:LB)) (aY (p0-1)) _ z71)) (q1 (gC ([x67,x72]:List aG)) (bD H fun x75 z74 H=>(q1 (bC func190 (sM fu 8 nP ([x67,x72]:List aG) _ z74)) ?_))))
  exact gE 2
 refine gQ 5 ?_;refine a7 H (fun h76 H=>?_) (fun h76 H=>?_)
 ·refine gQ 6 ?_;refine eY H fun x78 x79 z77 H=>(q1 (eW [0] [] func193 (p2 d1 p7 (aY (p0-1)) _ z77)) ?_)
  refine gQ 4 ?_;refine eY H fun x81 x82 z80 H=>(q1 (eW [0] [] func193 (p2 x79 p7 (aY (p0-1)) _ z80)) ?_)
  refine gQ 4 ?_;refine eY H fun x84 x85 z83 H=>(q1 (eW [0] [] func193 (p2 x82 p7 (aY (p0-1)) _ z83)) (q1 (gC ([x78,x81,x84]:List aG)) (bD H fun x87 z86 H=>(q1 (bC func190 (sM fu 9 s_ ([x78,x81,x84]:List aG) _ z86)) ?_))))
  exact gE 2
 refine gQ 5 ?_;refine a7 H (fun h88 H=>?_) (fun h88 H=>?_)
 ·refine gQ 3 ?_;refine q1 (gC ([wH,A5,IQ,IR,IS]:LB)) (fI H fun d89 h90 H=>(fI H fun y91 h92 H=>(q1 (eW [0] [] func48 (DY h90 h92 (eA d1 ([wH,A5,IQ,IR,IS]:LB) (by decide)))) ?_)))
  refine gQ 4 ?_;refine eY H fun x94 x95 z93 H=>(q1 (eW [0] [] func193 (p2 d89 p7 (aY (p0-1)) _ z93)) ?_)
  refine gQ 4 ?_;refine eY H fun x97 x98 z96 H=>(q1 (eW [0] [] func193 (p2 x95 p7 (aY (p0-1)) _ z96)) (q1 (gC ([x94,x97]:List aG)) (bD H fun x100 z99 H=>(q1 (bC func190 (sM fu 10 y91 ([x94,x97]:List aG) _ z99)) ?_))))
  exact gE 2
 refine gQ 5 ?_;refine a7 H (fun h101 H=>?_) (fun h101 H=>?_)
 ·refine gQ 6 ?_;refine eY H fun x103 x104 z102 H=>(q1 (eW [0] [] func193 (p2 d1 p7 (aY (p0-1)) _ z102)) (q1 (gC ([x103]:List aG)) ?_))
  exact gE 3
 refine gQ 5 ?_;refine a7 H (fun h105 H=>?_) (fun h105 H=>?_)
 ·refine gQ 3 ?_;refine q1 (gC ([eQ]:LB)) (eY H fun x107 x108 z106 H=>(q1 (eW [0] [] func131 (OY (IK fu) d1 ([eQ]:LB) 1 _ z106)) ?_))
  refine gQ 4 ?_;refine eY H fun x110 x111 z109 H=>(q1 (eW [0] [] func193 (p2 x108 p7 (aY (p0-1)) _ z109)) (q1 (gC ([x110]:List aG)) ?_))
  exact gE 3
 refine gQ 4 ?_;refine fI H fun d112 h113 H=>(q1 (eW [0] [] func73 (AU h113 (eT d1 20))) (q1 rSw (bD H fun x115 z114 H=>(q1 (bC func192 (sL fu (aY ((d1.below 20:Int)-5)) _ z114)) ?_))))
 exact gE 2
def jL:Nat→DS→(LB)→Int→Option (aG×DS)
 |0,_,_,_=>none
 |fu+1,pC,p7,p0=>F7 fu (jL fu) pC p7 p0
theorem S6(fu:Nat):AA (jL fu):=by
 induction fu with
 |zero=>exact(fun pC p7 p0 r H=>by simp only [jL] at H;cases H)
 |succ fu ih=>exact(fun pC p7 p0 r H=>by simp only [jL] at H;exact QE fu (jL fu) ih pC p7 p0 r H)
theorem K3(fu:Nat):AA (jL fu):=(S6 fu)
def wB(fu:Nat):Option aA:=bd (eJ fu dK ([])) fun x2=>some x2
theorem qX(fu:Nat)(r:aA)(H:wB fu=some r):bP Tryz.prog 49 [] ((aA.pv r)):=by
 refine qJ func49 H (fun C hC H=>?_)
 refine gQ 6 ?_;refine bD H fun x2 z1 H=>(q1 (bC func47 (nS (fP fu) dK ([]) _ z1)) ?_)
 exact gE 2
def K4(fu:Nat)(pC d1:DS)(y3:ByteArray)(d5:DS)(x8:aG):Option ((aJ×DS)⊕((LB)×Int×ByteArray×(List aA)×(List aE)×DS)):=lt (d5.after 4) fun d15=>sw (decide ((d5.below 4:Int)=0)) (bd (wB fu) fun x19=>some (.inr ([],x19.asJ,x19.asD,x19.asG,[],d15))) (sw (decide ((d5.below 4:Int)=1)) (bd (kO fu eQ) fun x22=>bd (eJ fu b0 ([x22]:List aA)) fun x24=>some (.inr (([eQ]:LB),x24.asJ,x24.asD,x24.asG,([(aE.mk y3 x22)]:List aE),d15))) (sw (decide ((d5.below 4:Int)=2)) (bd (kO fu eQ) fun x27=>bd (kO fu t2) fun x29=>bd (eJ fu pW ([x27,x29]:List aA)) fun x31=>some (.inr (([eQ,t2]:LB),x31.asJ,x31.asD,x31.asG,[],d15))) (bd (kO fu eQ) fun x33=>some (.inr (([eQ]:LB),x33.asJ,x33.asD,x33.asG,([(aE.mk c3 x33)]:List aE),d15)))))
def K5(fu:Nat)(pC d1:DS)(y3:ByteArray)(d5:DS)(x8:aG)(v9:LB)(v10:Int)(v11:ByteArray)(v12:List aA)(v13:List aE)(v14:DS):Option ((aJ×DS)⊕((List aA)×Bool×Int×ByteArray×DS)):=lt (v14.after 3) fun d39=>sw (decide (v14.below 3=0)) (bd (jA fu d39 v9 1) fun(x43,x44)=>some (.inr (x43.asG,true,x43.asJ,x43.asD,x44))) (some (.inr ([],false,0,s_,d39)))
def vX(fu:Nat)(pC:DS):Option (aJ×DS):=lt (pC.after ([a4,iC,cX]:LB).length) fun d1=>lt (pC.pick ([a4,iC,cX]:LB)) fun y3=>lt (d1.after 9) fun d5=>bd (qP fu (d1.below 9:Int)) fun x8=>so (K4 fu pC d1 y3 d5 x8) fun(v9,v10,v11,v12,v13,v14)=>so (K5 fu pC d1 y3 d5 x8 v9 v10 v11 v12 v13 v14) fun(v38,v35,v36,v37,v34)=>lt (v34.after 4) fun d45=>lt (d45.after 12) fun d47=>sw (decide ((d45.below 12:Int)=0)) (bd (mL fu d47 2) fun(x51,x52)=>some ((aJ.mk y3 v9 x51 v13 (decide (v34.below 4=0)) v35 (aA.mk v36 v37 v38) ([(aM.mk dY ([dT]:LB) x8)]:List aM)),x52)) (sw (decide ((d45.below 12:Int)=1)) (lt (d47.after ([eQ,s_c]:LB).length) fun d54=>lt (d47.pick ([eQ,s_c]:LB)) fun y56=>gd ((v9).length+(([y56]:LB)).length≤68719476736) (some ((aJ.mk y3 (v9++([y56]:LB)) (aA.mk v10 v11 v12) v13 (decide (v34.below 4=0)) v35 (aA.mk v36 v37 v38) ([(aM.mk dY ([dT]:LB) x8)]:List aM)),d54))) (sw (decide ((d45.below 12:Int)=2)) (bd (mL fu d47 1) fun(x61,x62)=>gd ((v13).length+(([(aE.mk iC x61)]:List aE)).length≤68719476736) (some ((aJ.mk y3 v9 (aA.mk v10 v11 v12) (v13++([(aE.mk iC x61)]:List aE)) (decide (v34.below 4=0)) v35 (aA.mk v36 v37 v38) ([(aM.mk dY ([dT]:LB) x8)]:List aM)),x62))) (sw (decide ((d45.below 12:Int)=3)) (bd (jL fu d47 ([dT,nP]:LB) 2) fun(x66,x67)=>some ((aJ.mk y3 v9 (aA.mk v10 v11 v12) v13 (decide (v34.below 4=0)) v35 (aA.mk v36 v37 v38) ([(aM.mk dY ([dT]:LB) x66)]:List aM)),x67)) (sw (decide ((d45.below 12:Int)=4)) (bd (wB fu) fun x70=>some ((aJ.mk y3 v9 (aA.mk v10 v11 v12) v13 (decide (v34.below 4=0)) v35 x70 ([(aM.mk dY ([dT]:LB) x8)]:List aM)),d47)) (sw (decide ((d45.below 12:Int)=5)) (some ((aJ.mk y3 v9 (aA.mk v10 v11 v12) v13 (decide (v34.below 4=0)) v35 (aA.mk v36 v37 v38) ([(aM.mk dY ([]) x8)]:List aM)),d47)) (some ((aJ.mk y3 v9 (aA.mk v10 v11 v12) v13 (decide (v34.below 4=0)) v35 (aA.mk v36 v37 v38) ([(aM.mk dY ([dT]:LB) x8)]:List aM)),d47)))))))
theorem WU(fu:Nat)(pC:DS)(r:aJ×DS)(H:vX fu pC=some r):cJ Tryz.prog 165 [.ptr 0 0] ⟨[some ⟨133,dC pC⟩],[]⟩ (fun q t=>q=((aJ.pv r.1))∧t=⟨[some ⟨133,dC r.2⟩],[]⟩):=by
 refine qJ func165 H (fun C hC H=>?_)
 refine gQ 7 ?_;refine q1 (rX ([a4,iC,cX]:LB)) (fI H fun d1 h2 H=>(fI H fun y3 h4 H=>(q1 (eW [0] [] func48 (DY h2 h4 (eA pC ([a4,iC,cX]:LB) (by decide)))) (q1 (rX ([dT]:LB)) (q1 bG (fI H fun d5 h6 H=>(q1 (eW [0] [] func73 (AU h6 (eT d1 9))) (bD H fun x8 z7 H=>(q1 (bC func192 (sL fu (d1.below 9:Int) _ z7)) (q1 nU (q1 (a5.buildSliceB (cs:= [pS dY,.lit 1 (aW (([dT]:LB))),pI x8.asJ,pS x8.asN,pS x8.asD,pI x8.atN,pI x8.asH.asJ,pS x8.asH.asD,aX x8.asH.asG,fZ x8.asG,nL x8.asV]) rfl rfl adC.h ahZ.h rfl rfl rfl (by decide) rfl (by decide)) ?_)))))))))))
 refine gQ 5 ?_;refine m3 (σ:=(LB)×Int×ByteArray×(List aA)×(List aE)×DS) (fun(v9,v10,v11,v12,v13,v14)=>⟨[(0,.ptr 0 0),(2,.ptr 1 0),(3,.ptr 3 0)],⟨[some ⟨133,dC v14⟩,some ⟨163,[pS s_,.nil,pI 0,pS s_,.nil,.nil,pB false,pB false,pI 0,pS s_,.nil,.nil]⟩,some ⟨242,[pS dY,.lit 1 (aW (([dT]:LB))),pI x8.asJ,pS x8.asN,pS x8.asD,pI x8.atN,pI x8.asH.asJ,pS x8.asH.asD,aX x8.asH.asG,fZ x8.asG,nL x8.asV]⟩,some ⟨163,[pS y3,.lit 1 (aW (v9)),pI v10,pS v11,aX v12,.lit 4 (aE.trs (v13)),pB false,pB false,pI 0,pS s_,.nil,.bsl 2 1]⟩],[]⟩⟩) (eR H) (fun H=>?_) ?_
 ·refine gQ 3 ?_;refine fI H fun d15 h16 H=>(q1 (eW [0] [] func73 (AU h16 (eT d5 4))) ?_)
  refine gQ 7 ?_;refine a7 H (fun h17 H=>?_) (fun h17 H=>?_)
  ·refine qR (bD H fun x19 z18 H=>(q1 (bC func49 (qX fu _ z18)) ?_))
   exact gE 3
  refine gQ 5 ?_;refine a7 H (fun h20 H=>?_) (fun h20 H=>?_)
  ·refine gQ 2 ?_;refine q1 (rX ([eQ]:LB)) ?_;refine gQ 5 ?_;refine bD H fun x22 z21 H=>(q1 (bC func137 (iP (hM fu) eQ _ z21)) (q1 (rX ([x22]:List aA)) (bD H fun x24 z23 H=>(q1 (bC func47 (nS (fP fu) b0 ([x22]:List aA) _ z23)) ?_))))
   refine gQ 3 ?_;refine dW (dI [3] bS (dD [36] eE (dI [] (bC func137 (iP (hM fu) eQ _ z21)) (dI [37,38] nU (dI [39] (rX ([(aE.mk y3 x22)]:List aE)) (dI [3] bS (kS [41,40] jP (dN ?_))))))))
   exact gE 0
  refine gQ 5 ?_;refine a7 H (fun h25 H=>?_) (fun h25 H=>?_)
  ·refine gQ 2 ?_;refine q1 (rX ([eQ,t2]:LB)) ?_;refine gQ 4 ?_;refine bD H fun x27 z26 H=>(q1 (bC func137 (iP (hM fu) eQ _ z26)) (bD H fun x29 z28 H=>(q1 (bC func137 (iP (hM fu) t2 _ z28)) (q1 (rX ([x27,x29]:List aA)) (bD H fun x31 z30 H=>(q1 (bC func47 (nS (fP fu) pW ([x27,x29]:List aA) _ z30)) ?_))))))
   exact gE 3
  refine gQ 2 ?_;refine q1 (rX ([eQ]:LB)) ?_;refine gQ 5 ?_;refine bD H fun x33 z32 H=>(q1 (bC func137 (iP (hM fu) eQ _ z32)) ?_)
  refine gQ 4 ?_;refine q1 (bC func137 (iP (hM fu) eQ _ z32)) (q1 nU (q1 (rX ([(aE.mk c3 x33)]:List aE)) ?_))
  exact gE 3
 rintro⟨v9,v10,v11,v12,v13,v14⟩ H
 refine qS ?_;refine m3 (σ:=(List aA)×Bool×Int×ByteArray×DS) (fun(v38,v35,v36,v37,v34)=>⟨[(0,.ptr 0 0),(2,.ptr 1 0),(3,.ptr 3 0)],⟨[some ⟨133,dC v34⟩,some ⟨163,[pS s_,.nil,pI 0,pS s_,.nil,.nil,pB false,pB false,pI 0,pS s_,.nil,.nil]⟩,some ⟨242,[pS dY,.lit 1 (aW (([dT]:LB))),pI x8.asJ,pS x8.asN,pS x8.asD,pI x8.atN,pI x8.asH.asJ,pS x8.asH.asD,aX x8.asH.asG,fZ x8.asG,nL x8.asV]⟩,some ⟨163,[pS y3,.lit 1 (aW (v9)),pI v10,pS v11,aX v12,.lit 4 (aE.trs (v13)),pB false,pB v35,pI v36,pS v37,aX v38,.bsl 2 1]⟩],[]⟩⟩) (eR H) (fun H=>?_) ?_
 ·refine gQ 3 ?_;refine fI H fun d39 h40 H=>(q1 (eW [0] [] func45 (AU h40 (k9 v14 3))) (qN ?_))
  refine a7 H (fun h41 H=>?_) (fun h41 H=>?_)
  ·refine gQ 9 ?_;refine eY H fun x43 x44 z42 H=>(q1 (eW [0] [] func131 (OY (IK fu) d39 v9 1 _ z42)) ?_)
   exact gE 3
  exact gE 1
 rintro⟨v38,v35,v36,v37,v34⟩ H
 refine gQ 3 ?_;refine fI H fun d45 h46 H=>(q1 (eW [0] [] func45 (AU h46 (k9 v34 4))) ?_)
 refine gQ 7 ?_;refine fI H fun d47 h48 H=>(q1 (eW [0] [] func73 (AU h48 (eT d45 12))) ?_)
 refine gQ 7 ?_;refine a7 H (fun h49 H=>?_) (fun h49 H=>?_)
 ·refine gQ 2 ?_;refine eY H fun x51 x52 z50 H=>(q1 (eW [0] [] func132 (sR (sQ fu) d47 2 _ z50)) ?_)
  refine gQ 5 ?_;refine AL.weak (Wk.freezeE (k:=2) (sz:=11) (es:= [aM.cs (aM.mk dY ([dT]:LB) x8)]) (es':=aM.trs (([(aM.mk dY ([dT]:LB) x8)]:List aM))) (s':=⟨[(0,.ptr 0 0),(2,.ptr 1 0),(3,.ptr 3 0),(63,pN (d45.below 12))],⟨[some ⟨133,dC x52⟩,some ⟨163,[pS s_,.nil,pI 0,pS s_,.nil,.nil,pB false,pB false,pI 0,pS s_,.nil,.nil]⟩,none,some ⟨163,[pS y3,.lit 1 (aW (v9)),pI x51.asJ,pS x51.asD,aX x51.asG,.lit 4 (aE.trs (v13)),pB (decide (v34.below 4=0)),pB v35,pI v36,pS v37,aX v38,kB ([(aM.mk dY ([dT]:LB) x8)]:List aM)]⟩],[]⟩⟩) (by simp [aM.trs_map,aM.tr_cs]) rfl jH (by simp [aM.cs]) (Nat.le_of_ble_eq_true rfl) ⟨⟨rfl,c7,rfl⟩,⟨⟨rfl,c7,rfl⟩,⟨⟨rfl,c7,rfl⟩,trivial⟩⟩⟩ rfl rfl (dR hC (iX rfl) (Nat.le_of_ble_eq_true rfl)) (by repeat' first|exact trivial|refine⟨⟨_,rfl,c7,rfl⟩,?_⟩)) ?_;refine q1 (cK [pS y3,.lit 1 (aW (v9)),pI x51.asJ,pS x51.asD,aX x51.asG,.lit 4 (aE.trs (v13)),pB (decide (v34.below 4=0)),pB v35,pI v36,pS v37,aX v38,kB ([(aM.mk dY ([dT]:LB) x8)]:List aM)]) ?_;exact gE 2
 refine gQ 5 ?_;refine a7 H (fun h53 H=>?_) (fun h53 H=>?_)
 ·refine fI H fun d54 h55 H=>(fI H fun y56 h57 H=>(cQ H fun z58 H=>(dW (dI [3] bS (dB [71] 0 1 t7 (dI [0] bG (dI [] (rX ([eQ,s_c]:LB)) (dE [73,74] (eW [0] [] func48 (DY h55 h57 (eA d47 ([eQ,s_c]:LB) (by decide)))) (dI [75] (rX ([y56]:LB)) ?_)))))))))
  refine dI [72,76] (a5.appendLit (es1:=aW (v9)) (es2:=aW (([y56]:LB))) (es3:=aW (v9++([y56]:LB))) rfl rfl rfl rfl rfl (nH _) (nH _) (by exact List.cons_ne_nil _ _) (by decide) X6.h afH.h (by decide) (by rw [bI,bI];exact wS z58 (by decide)) (s4 _ _)) ?_;refine dI [3] bS (kS [78,77] jP (dN ?_))
  refine gQ 2 ?_;refine AL.weak (Wk.freezeE (k:=2) (sz:=11) (es:= [aM.cs (aM.mk dY ([dT]:LB) x8)]) (es':=aM.trs (([(aM.mk dY ([dT]:LB) x8)]:List aM))) (s':=⟨[(0,.ptr 0 0),(2,.ptr 1 0),(3,.ptr 3 0),(63,pN (d45.below 12))],⟨[some ⟨133,dC d54⟩,some ⟨163,[pS s_,.nil,pI 0,pS s_,.nil,.nil,pB false,pB false,pI 0,pS s_,.nil,.nil]⟩,none,some ⟨163,[pS y3,rS (v9++([y56]:LB)),pI v10,pS v11,aX v12,.lit 4 (aE.trs (v13)),pB (decide (v34.below 4=0)),pB v35,pI v36,pS v37,aX v38,kB ([(aM.mk dY ([dT]:LB) x8)]:List aM)]⟩],[]⟩⟩) (by simp [aM.trs_map,aM.tr_cs]) rfl jH (by simp [aM.cs]) (Nat.le_of_ble_eq_true rfl) ⟨⟨rfl,c7,rfl⟩,⟨⟨rfl,c7,rfl⟩,⟨⟨rfl,c7,rfl⟩,trivial⟩⟩⟩ rfl rfl (dR hC (iX rfl) (Nat.le_of_ble_eq_true rfl)) (by repeat' first|exact trivial|refine⟨⟨_,rfl,c7,rfl⟩,?_⟩)) ?_;refine q1 (cK [pS y3,rS (v9++([y56]:LB)),pI v10,pS v11,aX v12,.lit 4 (aE.trs (v13)),pB (decide (v34.below 4=0)),pB v35,pI v36,pS v37,aX v38,kB ([(aM.mk dY ([dT]:LB) x8)]:List aM)]) ?_;exact gE 2
 refine gQ 5 ?_;refine a7 H (fun h59 H=>?_) (fun h59 H=>?_)
 ·refine eY H fun x61 x62 z60 H=>(cQ H fun z63 H=>(dW (dI [3] bS (dB [81] 0 1 t7 (dI [0] bG (dE [83] (eW [0] [] func132 (sR (sQ fu) d47 1 _ z60)) (dI [84] nU (dI [85] (rX ([(aE.mk iC x61)]:List aE)) ?_))))))))
  refine dI [82,86] (a5.appendLit (es1:=aE.trs (v13)) (es2:=aE.trs (([(aE.mk iC x61)]:List aE))) (es3:=aE.trs (v13++([(aE.mk iC x61)]:List aE))) rfl rfl rfl rfl rfl (fun e he=>by rw [aE.trs_map] at he;obtain⟨x,_,rfl⟩:=List.mem_map.1 he;rw [aE.tr_cs];rfl) (fun e he=>by rw [aE.trs_map] at he;obtain⟨x,_,rfl⟩:=List.mem_map.1 he;rw [aE.tr_cs];rfl) (by rw [aE.trs_map];exact List.cons_ne_nil _ _) (by decide) af3.h akU.h (by decide) (by rw [aE.trs_len,aE.trs_len];exact wS z63 (by decide)) (by rw [aE.trs_map,aE.trs_map,aE.trs_map,List.map_append])) ?_;refine dI [3] bS (kS [88,87] jP (dN ?_))
  refine gQ 2 ?_;refine AL.weak (Wk.freezeE (k:=2) (sz:=11) (es:= [aM.cs (aM.mk dY ([dT]:LB) x8)]) (es':=aM.trs (([(aM.mk dY ([dT]:LB) x8)]:List aM))) (s':=⟨[(0,.ptr 0 0),(2,.ptr 1 0),(3,.ptr 3 0),(63,pN (d45.below 12))],⟨[some ⟨133,dC x62⟩,some ⟨163,[pS s_,.nil,pI 0,pS s_,.nil,.nil,pB false,pB false,pI 0,pS s_,.nil,.nil]⟩,none,some ⟨163,[pS y3,.lit 1 (aW (v9)),pI v10,pS v11,aX v12,b4 (v13++([(aE.mk iC x61)]:List aE)),pB (decide (v34.below 4=0)),pB v35,pI v36,pS v37,aX v38,kB ([(aM.mk dY ([dT]:LB) x8)]:List aM)]⟩],[]⟩⟩) (by simp [aM.trs_map,aM.tr_cs]) rfl jH (by simp [aM.cs]) (Nat.le_of_ble_eq_true rfl) ⟨⟨rfl,c7,rfl⟩,⟨⟨rfl,c7,rfl⟩,⟨⟨rfl,c7,rfl⟩,trivial⟩⟩⟩ rfl rfl (dR hC (iX rfl) (Nat.le_of_ble_eq_true rfl)) (by repeat' first|exact trivial|refine⟨⟨_,rfl,c7,rfl⟩,?_⟩)) ?_;refine q1 (cK [pS y3,.lit 1 (aW (v9)),pI v10,pS v11,aX v12,b4 (v13++([(aE.mk iC x61)]:List aE)),pB (decide (v34.below 4=0)),pB v35,pI v36,pS v37,aX v38,kB ([(aM.mk dY ([dT]:LB) x8)]:List aM)]) ?_;exact gE 2
 refine gQ 5 ?_;refine a7 H (fun h64 H=>?_) (fun h64 H=>?_)
 ·refine eY H fun x66 x67 z65 H=>(dW (dI [3] bS (dB [91] 0 1 t7 (dI [0] bG (dI [] (rX ([dT,nP]:LB)) (dE [93,94] (eW [0] [] func193 (K3 fu d47 ([dT,nP]:LB) 2 _ z65)) (dI [92] (a5.indexB (sz:=11) (k:=2) (N:=1) (i:=0) rfl rfl rfl rfl (by decide) adC.h) (dI [96] bS (kS [97,95] jP (dN ?_))))))))))
  refine gQ 2 ?_;refine AL.weak (Wk.freezeE (k:=2) (sz:=11) (es:= [aM.cs (aM.mk dY ([dT]:LB) x66)]) (es':=aM.trs (([(aM.mk dY ([dT]:LB) x66)]:List aM))) (s':=⟨[(0,.ptr 0 0),(2,.ptr 1 0),(3,.ptr 3 0),(63,pN (d45.below 12))],⟨[some ⟨133,dC x67⟩,some ⟨163,[pS s_,.nil,pI 0,pS s_,.nil,.nil,pB false,pB false,pI 0,pS s_,.nil,.nil]⟩,none,some ⟨163,[pS y3,.lit 1 (aW (v9)),pI v10,pS v11,aX v12,.lit 4 (aE.trs (v13)),pB (decide (v34.below 4=0)),pB v35,pI v36,pS v37,aX v38,kB ([(aM.mk dY ([dT]:LB) x66)]:List aM)]⟩],[]⟩⟩) (by simp [aM.trs_map,aM.tr_cs]) rfl jH (by simp [aM.cs]) (Nat.le_of_ble_eq_true rfl) ⟨⟨rfl,c7,rfl⟩,⟨⟨rfl,c7,rfl⟩,⟨⟨rfl,c7,rfl⟩,trivial⟩⟩⟩ rfl rfl (dR hC (iX rfl) (Nat.le_of_ble_eq_true rfl)) (by repeat' first|exact trivial|refine⟨⟨_,rfl,c7,rfl⟩,?_⟩)) ?_;refine q1 (cK [pS y3,.lit 1 (aW (v9)),pI v10,pS v11,aX v12,.lit 4 (aE.trs (v13)),pB (decide (v34.below 4=0)),pB v35,pI v36,pS v37,aX v38,kB ([(aM.mk dY ([dT]:LB) x66)]:List aM)]) ?_;exact gE 2
 refine gQ 5 ?_;refine a7 H (fun h68 H=>?_) (fun h68 H=>?_)
 ·refine qR (bD H fun x70 z69 H=>(q1 (bC func49 (qX fu _ z69)) ?_))
  refine gQ 5 ?_;refine AL.weak (Wk.freezeE (k:=2) (sz:=11) (es:= [aM.cs (aM.mk dY ([dT]:LB) x8)]) (es':=aM.trs (([(aM.mk dY ([dT]:LB) x8)]:List aM))) (s':=⟨[(0,.ptr 0 0),(2,.ptr 1 0),(3,.ptr 3 0),(63,pN (d45.below 12))],⟨[some ⟨133,dC d47⟩,some ⟨163,[pS s_,.nil,pI 0,pS s_,.nil,.nil,pB false,pB false,pI 0,pS s_,.nil,.nil]⟩,none,some ⟨163,[pS y3,.lit 1 (aW (v9)),pI v10,pS v11,aX v12,.lit 4 (aE.trs (v13)),pB (decide (v34.below 4=0)),pB v35,pI x70.asJ,pS x70.asD,aX x70.asG,kB ([(aM.mk dY ([dT]:LB) x8)]:List aM)]⟩],[]⟩⟩) (by simp [aM.trs_map,aM.tr_cs]) rfl jH (by simp [aM.cs]) (Nat.le_of_ble_eq_true rfl) ⟨⟨rfl,c7,rfl⟩,⟨⟨rfl,c7,rfl⟩,⟨⟨rfl,c7,rfl⟩,trivial⟩⟩⟩ rfl rfl (dR hC (iX rfl) (Nat.le_of_ble_eq_true rfl)) (by repeat' first|exact trivial|refine⟨⟨_,rfl,c7,rfl⟩,?_⟩)) ?_;refine q1 (cK [pS y3,.lit 1 (aW (v9)),pI v10,pS v11,aX v12,.lit 4 (aE.trs (v13)),pB (decide (v34.below 4=0)),pB v35,pI x70.asJ,pS x70.asD,aX x70.asG,kB ([(aM.mk dY ([dT]:LB) x8)]:List aM)]) ?_;exact gE 2
 refine gQ 5 ?_;refine a7 H (fun h71 H=>?_) (fun h71 H=>?_)
 ·refine gQ 3 ?_;refine q1 (rX ([]:LB)) (q1 (a5.indexB (sz:=11) (k:=2) (N:=1) (i:=0) rfl rfl rfl rfl (by decide) adC.h) ?_)
  refine gQ 5 ?_;refine AL.weak (Wk.freezeE (k:=2) (sz:=11) (es:= [aM.cs (aM.mk dY ([]) x8)]) (es':=aM.trs (([(aM.mk dY ([]) x8)]:List aM))) (s':=⟨[(0,.ptr 0 0),(2,.ptr 1 0),(3,.ptr 3 0),(63,pN (d45.below 12))],⟨[some ⟨133,dC d47⟩,some ⟨163,[pS s_,.nil,pI 0,pS s_,.nil,.nil,pB false,pB false,pI 0,pS s_,.nil,.nil]⟩,none,some ⟨163,[pS y3,.lit 1 (aW (v9)),pI v10,pS v11,aX v12,.lit 4 (aE.trs (v13)),pB (decide (v34.below 4=0)),pB v35,pI v36,pS v37,aX v38,kB ([(aM.mk dY ([]) x8)]:List aM)]⟩],[]⟩⟩) (by simp [aM.trs_map,aM.tr_cs]) rfl jH (by simp [aM.cs]) (Nat.le_of_ble_eq_true rfl) ⟨⟨rfl,c7,rfl⟩,⟨⟨rfl,c7,rfl⟩,⟨⟨rfl,c7,rfl⟩,trivial⟩⟩⟩ rfl rfl (dR hC (iX rfl) (Nat.le_of_ble_eq_true rfl)) (by repeat' first|exact trivial|refine⟨⟨_,rfl,c7,rfl⟩,?_⟩)) ?_;refine q1 (cK [pS y3,.lit 1 (aW (v9)),pI v10,pS v11,aX v12,.lit 4 (aE.trs (v13)),pB (decide (v34.below 4=0)),pB v35,pI v36,pS v37,aX v38,kB ([(aM.mk dY ([]) x8)]:List aM)]) ?_;exact gE 2
 refine gQ 3 ?_;refine AL.weak (Wk.freezeE (k:=2) (sz:=11) (es:= [aM.cs (aM.mk dY ([dT]:LB) x8)]) (es':=aM.trs (([(aM.mk dY ([dT]:LB) x8)]:List aM))) (s':=⟨[(0,.ptr 0 0),(2,.ptr 1 0),(3,.ptr 3 0),(63,pN (d45.below 12))],⟨[some ⟨133,dC d47⟩,some ⟨163,[pS s_,.nil,pI 0,pS s_,.nil,.nil,pB false,pB false,pI 0,pS s_,.nil,.nil]⟩,none,some ⟨163,[pS y3,.lit 1 (aW (v9)),pI v10,pS v11,aX v12,.lit 4 (aE.trs (v13)),pB (decide (v34.below 4=0)),pB v35,pI v36,pS v37,aX v38,kB ([(aM.mk dY ([dT]:LB) x8)]:List aM)]⟩],[]⟩⟩) (by simp [aM.trs_map,aM.tr_cs]) rfl jH (by simp [aM.cs]) (Nat.le_of_ble_eq_true rfl) ⟨⟨rfl,c7,rfl⟩,⟨⟨rfl,c7,rfl⟩,⟨⟨rfl,c7,rfl⟩,trivial⟩⟩⟩ rfl rfl (dR hC (iX rfl) (Nat.le_of_ble_eq_true rfl)) (by repeat' first|exact trivial|refine⟨⟨_,rfl,c7,rfl⟩,?_⟩)) ?_;refine q1 (cK [pS y3,.lit 1 (aW (v9)),pI v10,pS v11,aX v12,.lit 4 (aE.trs (v13)),pB (decide (v34.below 4=0)),pB v35,pI v36,pS v37,aX v38,kB ([(aM.mk dY ([dT]:LB) x8)]:List aM)]) ?_;exact gE 2
def OE(fu:Nat)(pc:DS):Option (aL×DS):=lt (pc.after ([s_f,s_g]:LB).length) fun d1=>lt (pc.pick ([s_f,s_g]:LB)) fun y3=>bd (kO fu eQ) fun x6=>bd (wB fu) fun x8=>bd (sN fu dT) fun x10=>lt (d1.after 10) fun d11=>sw (decide ((d1.below 10:Int)=0)) (bd (mL fu d11 2) fun(x15,x16)=>some ((aL.mk y3 ([eQ]:LB) ([(aE.mk a4 x6)]:List aE) ([(aR.mk dT x6)]:List aR) x15 (aG.mk 5 a4 dY 0 (aA.mk 0 s_ []) ([x10]:List aG) [])),x16)) (sw (decide ((d1.below 10:Int)=1)) (lt (d11.after ([dT,nP]:LB).length) fun d18=>lt (d11.pick ([dT,nP]:LB)) fun y20=>gd ((([(aR.mk dT x6)]:List aR)).length+(([(aR.mk y20 x8)]:List aR)).length≤68719476736) (some ((aL.mk y3 ([eQ]:LB) ([(aE.mk a4 x6)]:List aE) (([(aR.mk dT x6)]:List aR)++([(aR.mk y20 x8)]:List aR)) x8 (aG.mk 5 a4 dY 0 (aA.mk 0 s_ []) ([x10]:List aG) [])),d18))) (sw (decide ((d1.below 10:Int)=2)) (bd (jL fu d11 ([dT,nP]:LB) 3) fun(x25,x26)=>some ((aL.mk y3 ([eQ]:LB) ([(aE.mk a4 x6)]:List aE) ([(aR.mk dT x6)]:List aR) x8 x25),x26)) (sw (decide ((d1.below 10:Int)=3)) (bd (mL fu d11 1) fun(x29,x30)=>some ((aL.mk y3 ([eQ]:LB) ([(aE.mk a4 x29)]:List aE) ([(aR.mk dT x6)]:List aR) x8 (aG.mk 5 a4 dY 0 (aA.mk 0 s_ []) ([x10]:List aG) [])),x30)) (sw (decide ((d1.below 10:Int)=4)) (lt (d11.after ([s_,z0]:LB).length) fun d32=>lt (d11.pick ([s_,z0]:LB)) fun y34=>some ((aL.mk y34 ([eQ]:LB) ([(aE.mk a4 x6)]:List aE) ([(aR.mk dT x6)]:List aR) x8 (aG.mk 5 a4 dY 0 (aA.mk 0 s_ []) ([x10]:List aG) [])),d32)) (some ((aL.mk y3 ([eQ]:LB) ([(aE.mk a4 x6)]:List aE) ([(aR.mk dT x6)]:List aR) x8 (aG.mk 5 a4 dY 0 (aA.mk 0 s_ []) ([x10]:List aG) [])),d11))))))
theorem acB(fu:Nat)(pc:DS)(r:aL×DS)(H:OE fu pc=some r):cJ Tryz.prog 166 [.ptr 0 0] ⟨[some ⟨133,dC pc⟩],[]⟩ (fun q t=>q=((aL.pv r.1))∧t=⟨[some ⟨133,dC r.2⟩],[]⟩):=by
 refine qJ func166 H (fun C hC H=>?_)
 refine gQ 7 ?_;refine q1 (rX ([s_f,s_g]:LB)) (fI H fun d1 h2 H=>(fI H fun y3 h4 H=>(q1 (eW [0] [] func48 (DY h2 h4 (eA pc ([s_f,s_g]:LB) (by decide)))) (q1 (rX ([eQ]:LB)) (bD H fun x6 z5 H=>(q1 (bC func137 (iP (hM fu) eQ _ z5)) (q1 nU (q1 (a5.buildSliceB (cs:= [pS a4,pI x6.asJ,pS x6.asD,aX x6.asG]) rfl rfl af3.h akV.h rfl rfl rfl (by decide) rfl (by decide)) (q1 (bC func137 (iP (hM fu) eQ _ z5)) (q1 nU (q1 (rX ([(aR.mk dT x6)]:List aR)) (bD H fun x8 z7 H=>(q1 (bC func49 (qX fu _ z7)) ?_)))))))))))))
 refine bD H fun x10 z9 H=>(q1 (bC func191 (vU fu dT _ z9)) (q1 (rX ([x10]:List aG)) ?_))
 refine gQ 9 ?_;refine fI H fun d11 h12 H=>(q1 (eW [0] [] func73 (AU h12 (eT d1 10))) ?_)
 refine gQ 7 ?_;refine a7 H (fun h13 H=>?_) (fun h13 H=>?_)
 ·refine gQ 2 ?_;refine eY H fun x15 x16 z14 H=>(q1 (eW [0] [] func132 (sR (sQ fu) d11 2 _ z14)) ?_)
  refine gQ 5 ?_;refine AL.weak (Wk.freezeE (k:=2) (sz:=4) (es:= [aE.cs (aE.mk a4 x6)]) (es':=aE.trs (([(aE.mk a4 x6)]:List aE))) (s':=⟨[(0,.ptr 0 0),(2,.ptr 1 0),(3,.ptr 3 0),(20,pN (d1.below 10))],⟨[some ⟨133,dC x16⟩,some ⟨213,[pS s_,.nil,.nil,.nil,pI 0,pS s_,.nil,pI 0,pS s_,pS s_,pI 0,pI 0,pS s_,.nil,.nil,.nil]⟩,none,some ⟨213,[pS y3,.lit 1 (aW (([eQ]:LB))),b4 ([(aE.mk a4 x6)]:List aE),.lit 4 (aR.trs (([(aR.mk dT x6)]:List aR))),pI x15.asJ,pS x15.asD,aX x15.asG,pI 5,pS a4,pS dY,pI 0,pI 0,pS s_,.nil,.lit 9 (aG.trs (([x10]:List aG))),.nil]⟩],[]⟩⟩) (by simp [aE.trs_map,aE.tr_cs]) rfl jH (by simp [aE.cs]) (Nat.le_of_ble_eq_true rfl) ⟨⟨rfl,c7,rfl⟩,⟨⟨rfl,c7,rfl⟩,⟨⟨rfl,c7,rfl⟩,trivial⟩⟩⟩ rfl rfl (dR hC (iX rfl) (Nat.le_of_ble_eq_true rfl)) (by repeat' first|exact trivial|refine⟨⟨_,rfl,c7,rfl⟩,?_⟩)) ?_;refine q1 (cK [pS y3,.lit 1 (aW (([eQ]:LB))),b4 ([(aE.mk a4 x6)]:List aE),.lit 4 (aR.trs (([(aR.mk dT x6)]:List aR))),pI x15.asJ,pS x15.asD,aX x15.asG,pI 5,pS a4,pS dY,pI 0,pI 0,pS s_,.nil,.lit 9 (aG.trs (([x10]:List aG))),.nil]) ?_;exact gE 2
 refine gQ 5 ?_;refine a7 H (fun h17 H=>?_) (fun h17 H=>?_)
 ·refine fI H fun d18 h19 H=>(fI H fun y20 h21 H=>(cQ H fun z22 H=>(dW (dI [3] bS (dB [28] 0 1 t7 (dI [0] bG (dI [] (rX ([dT,nP]:LB)) (dE [30,31] (eW [0] [] func48 (DY h19 h21 (eA d11 ([dT,nP]:LB) (by decide)))) (dI [] (bC func49 (qX fu _ z7)) (dI [32,33] nU (dI [34] (rX ([(aR.mk y20 x8)]:List aR)) ?_)))))))))))
  refine dI [29,35] (a5.appendLit (es1:=aR.trs (([(aR.mk dT x6)]:List aR))) (es2:=aR.trs (([(aR.mk y20 x8)]:List aR))) (es3:=aR.trs (([(aR.mk dT x6)]:List aR)++([(aR.mk y20 x8)]:List aR))) rfl rfl rfl rfl rfl (fun e he=>by rw [aR.trs_map] at he;obtain⟨x,_,rfl⟩:=List.mem_map.1 he;rw [aR.tr_cs];rfl) (fun e he=>by rw [aR.trs_map] at he;obtain⟨x,_,rfl⟩:=List.mem_map.1 he;rw [aR.tr_cs];rfl) (by rw [aR.trs_map];exact List.cons_ne_nil _ _) (by decide) ahA.h ahX.h (by decide) (by rw [aR.trs_len,aR.trs_len];exact wS z22 (by decide)) (by rw [aR.trs_map,aR.trs_map,aR.trs_map,List.map_append])) ?_;refine dI [3] bS (kS [37,36] jP (dN ?_))
  refine gQ 2 ?_;refine AL.weak (Wk.freezeE (k:=2) (sz:=4) (es:= [aE.cs (aE.mk a4 x6)]) (es':=aE.trs (([(aE.mk a4 x6)]:List aE))) (s':=⟨[(0,.ptr 0 0),(2,.ptr 1 0),(3,.ptr 3 0),(20,pN (d1.below 10))],⟨[some ⟨133,dC d18⟩,some ⟨213,[pS s_,.nil,.nil,.nil,pI 0,pS s_,.nil,pI 0,pS s_,pS s_,pI 0,pI 0,pS s_,.nil,.nil,.nil]⟩,none,some ⟨213,[pS y3,.lit 1 (aW (([eQ]:LB))),b4 ([(aE.mk a4 x6)]:List aE),NR (([(aR.mk dT x6)]:List aR)++([(aR.mk y20 x8)]:List aR)),pI x8.asJ,pS x8.asD,aX x8.asG,pI 5,pS a4,pS dY,pI 0,pI 0,pS s_,.nil,.lit 9 (aG.trs (([x10]:List aG))),.nil]⟩],[]⟩⟩) (by simp [aE.trs_map,aE.tr_cs]) rfl jH (by simp [aE.cs]) (Nat.le_of_ble_eq_true rfl) ⟨⟨rfl,c7,rfl⟩,⟨⟨rfl,c7,rfl⟩,⟨⟨rfl,c7,rfl⟩,trivial⟩⟩⟩ rfl rfl (dR hC (iX rfl) (Nat.le_of_ble_eq_true rfl)) (by repeat' first|exact trivial|refine⟨⟨_,rfl,c7,rfl⟩,?_⟩)) ?_;refine q1 (cK [pS y3,.lit 1 (aW (([eQ]:LB))),b4 ([(aE.mk a4 x6)]:List aE),NR (([(aR.mk dT x6)]:List aR)++([(aR.mk y20 x8)]:List aR)),pI x8.asJ,pS x8.asD,aX x8.asG,pI 5,pS a4,pS dY,pI 0,pI 0,pS s_,.nil,.lit 9 (aG.trs (([x10]:List aG))),.nil]) ?_;exact gE 2
 refine gQ 5 ?_;refine a7 H (fun h23 H=>?_) (fun h23 H=>?_)
 ·refine gQ 2 ?_;refine q1 (rX ([dT,nP]:LB)) (eY H fun x25 x26 z24 H=>(q1 (eW [0] [] func193 (K3 fu d11 ([dT,nP]:LB) 3 _ z24)) ?_))
  refine gQ 5 ?_;refine AL.weak (Wk.freezeE (k:=2) (sz:=4) (es:= [aE.cs (aE.mk a4 x6)]) (es':=aE.trs (([(aE.mk a4 x6)]:List aE))) (s':=⟨[(0,.ptr 0 0),(2,.ptr 1 0),(3,.ptr 3 0),(20,pN (d1.below 10))],⟨[some ⟨133,dC x26⟩,some ⟨213,[pS s_,.nil,.nil,.nil,pI 0,pS s_,.nil,pI 0,pS s_,pS s_,pI 0,pI 0,pS s_,.nil,.nil,.nil]⟩,none,some ⟨213,[pS y3,.lit 1 (aW (([eQ]:LB))),b4 ([(aE.mk a4 x6)]:List aE),.lit 4 (aR.trs (([(aR.mk dT x6)]:List aR))),pI x8.asJ,pS x8.asD,aX x8.asG,pI x25.asJ,pS x25.asN,pS x25.asD,pI x25.atN,pI x25.asH.asJ,pS x25.asH.asD,aX x25.asH.asG,fZ x25.asG,nL x25.asV]⟩],[]⟩⟩) (by simp [aE.trs_map,aE.tr_cs]) rfl jH (by simp [aE.cs]) (Nat.le_of_ble_eq_true rfl) ⟨⟨rfl,c7,rfl⟩,⟨⟨rfl,c7,rfl⟩,⟨⟨rfl,c7,rfl⟩,trivial⟩⟩⟩ rfl rfl (dR hC (iX rfl) (Nat.le_of_ble_eq_true rfl)) (by repeat' first|exact trivial|refine⟨⟨_,rfl,c7,rfl⟩,?_⟩)) ?_;refine q1 (cK [pS y3,.lit 1 (aW (([eQ]:LB))),b4 ([(aE.mk a4 x6)]:List aE),.lit 4 (aR.trs (([(aR.mk dT x6)]:List aR))),pI x8.asJ,pS x8.asD,aX x8.asG,pI x25.asJ,pS x25.asN,pS x25.asD,pI x25.atN,pI x25.asH.asJ,pS x25.asH.asD,aX x25.asH.asG,fZ x25.asG,nL x25.asV]) ?_;exact gE 2
 refine gQ 5 ?_;refine a7 H (fun h27 H=>?_) (fun h27 H=>?_)
 ·refine eY H fun x29 x30 z28 H=>(dW (dI [3] bS (dB [46] 0 1 t7 (dI [0] bG (dE [48] (eW [0] [] func132 (sR (sQ fu) d11 1 _ z28)) (dI [47] (a5.indexB (sz:=4) (k:=2) (N:=1) (i:=0) rfl rfl rfl rfl (by decide) af3.h) (dI [50] bS (kS [51,49] jP (dN ?_)))))))))
  refine gQ 2 ?_;refine AL.weak (Wk.freezeE (k:=2) (sz:=4) (es:= [aE.cs (aE.mk a4 x29)]) (es':=aE.trs (([(aE.mk a4 x29)]:List aE))) (s':=⟨[(0,.ptr 0 0),(2,.ptr 1 0),(3,.ptr 3 0),(20,pN (d1.below 10))],⟨[some ⟨133,dC x30⟩,some ⟨213,[pS s_,.nil,.nil,.nil,pI 0,pS s_,.nil,pI 0,pS s_,pS s_,pI 0,pI 0,pS s_,.nil,.nil,.nil]⟩,none,some ⟨213,[pS y3,.lit 1 (aW (([eQ]:LB))),b4 ([(aE.mk a4 x29)]:List aE),.lit 4 (aR.trs (([(aR.mk dT x6)]:List aR))),pI x8.asJ,pS x8.asD,aX x8.asG,pI 5,pS a4,pS dY,pI 0,pI 0,pS s_,.nil,.lit 9 (aG.trs (([x10]:List aG))),.nil]⟩],[]⟩⟩) (by simp [aE.trs_map,aE.tr_cs]) rfl jH (by simp [aE.cs]) (Nat.le_of_ble_eq_true rfl) ⟨⟨rfl,c7,rfl⟩,⟨⟨rfl,c7,rfl⟩,⟨⟨rfl,c7,rfl⟩,trivial⟩⟩⟩ rfl rfl (dR hC (iX rfl) (Nat.le_of_ble_eq_true rfl)) (by repeat' first|exact trivial|refine⟨⟨_,rfl,c7,rfl⟩,?_⟩)) ?_;refine q1 (cK [pS y3,.lit 1 (aW (([eQ]:LB))),b4 ([(aE.mk a4 x29)]:List aE),.lit 4 (aR.trs (([(aR.mk dT x6)]:List aR))),pI x8.asJ,pS x8.asD,aX x8.asG,pI 5,pS a4,pS dY,pI 0,pI 0,pS s_,.nil,.lit 9 (aG.trs (([x10]:List aG))),.nil]) ?_;exact gE 2
 refine gQ 5 ?_;refine a7 H (fun h31 H=>?_) (fun h31 H=>?_)
 ·refine gQ 2 ?_;refine q1 (rX ([s_,z0]:LB)) (fI H fun d32 h33 H=>(fI H fun y34 h35 H=>(q1 (eW [0] [] func48 (DY h33 h35 (eA d11 ([s_,z0]:LB) (by decide)))) ?_)))
  refine gQ 5 ?_;refine AL.weak (Wk.freezeE (k:=2) (sz:=4) (es:= [aE.cs (aE.mk a4 x6)]) (es':=aE.trs (([(aE.mk a4 x6)]:List aE))) (s':=⟨[(0,.ptr 0 0),(2,.ptr 1 0),(3,.ptr 3 0),(20,pN (d1.below 10))],⟨[some ⟨133,dC d32⟩,some ⟨213,[pS s_,.nil,.nil,.nil,pI 0,pS s_,.nil,pI 0,pS s_,pS s_,pI 0,pI 0,pS s_,.nil,.nil,.nil]⟩,none,some ⟨213,[pS y34,.lit 1 (aW (([eQ]:LB))),b4 ([(aE.mk a4 x6)]:List aE),.lit 4 (aR.trs (([(aR.mk dT x6)]:List aR))),pI x8.asJ,pS x8.asD,aX x8.asG,pI 5,pS a4,pS dY,pI 0,pI 0,pS s_,.nil,.lit 9 (aG.trs (([x10]:List aG))),.nil]⟩],[]⟩⟩) (by simp [aE.trs_map,aE.tr_cs]) rfl jH (by simp [aE.cs]) (Nat.le_of_ble_eq_true rfl) ⟨⟨rfl,c7,rfl⟩,⟨⟨rfl,c7,rfl⟩,⟨⟨rfl,c7,rfl⟩,trivial⟩⟩⟩ rfl rfl (dR hC (iX rfl) (Nat.le_of_ble_eq_true rfl)) (by repeat' first|exact trivial|refine⟨⟨_,rfl,c7,rfl⟩,?_⟩)) ?_;refine q1 (cK [pS y34,.lit 1 (aW (([eQ]:LB))),b4 ([(aE.mk a4 x6)]:List aE),.lit 4 (aR.trs (([(aR.mk dT x6)]:List aR))),pI x8.asJ,pS x8.asD,aX x8.asG,pI 5,pS a4,pS dY,pI 0,pI 0,pS s_,.nil,.lit 9 (aG.trs (([x10]:List aG))),.nil]) ?_;exact gE 2
 refine gQ 3 ?_;refine AL.weak (Wk.freezeE (k:=2) (sz:=4) (es:= [aE.cs (aE.mk a4 x6)]) (es':=aE.trs (([(aE.mk a4 x6)]:List aE))) (s':=⟨[(0,.ptr 0 0),(2,.ptr 1 0),(3,.ptr 3 0),(20,pN (d1.below 10))],⟨[some ⟨133,dC d11⟩,some ⟨213,[pS s_,.nil,.nil,.nil,pI 0,pS s_,.nil,pI 0,pS s_,pS s_,pI 0,pI 0,pS s_,.nil,.nil,.nil]⟩,none,some ⟨213,[pS y3,.lit 1 (aW (([eQ]:LB))),b4 ([(aE.mk a4 x6)]:List aE),.lit 4 (aR.trs (([(aR.mk dT x6)]:List aR))),pI x8.asJ,pS x8.asD,aX x8.asG,pI 5,pS a4,pS dY,pI 0,pI 0,pS s_,.nil,.lit 9 (aG.trs (([x10]:List aG))),.nil]⟩],[]⟩⟩) (by simp [aE.trs_map,aE.tr_cs]) rfl jH (by simp [aE.cs]) (Nat.le_of_ble_eq_true rfl) ⟨⟨rfl,c7,rfl⟩,⟨⟨rfl,c7,rfl⟩,⟨⟨rfl,c7,rfl⟩,trivial⟩⟩⟩ rfl rfl (dR hC (iX rfl) (Nat.le_of_ble_eq_true rfl)) (by repeat' first|exact trivial|refine⟨⟨_,rfl,c7,rfl⟩,?_⟩)) ?_;refine q1 (cK [pS y3,.lit 1 (aW (([eQ]:LB))),b4 ([(aE.mk a4 x6)]:List aE),.lit 4 (aR.trs (([(aR.mk dT x6)]:List aR))),pI x8.asJ,pS x8.asD,aX x8.asG,pI 5,pS a4,pS dY,pI 0,pI 0,pS s_,.nil,.lit 9 (aG.trs (([x10]:List aG))),.nil]) ?_;exact gE 2
end
end Go.Proofs.YtfcoaagbccmahaaGreat.W

namespace Go.Proofs.YtfcoaagbccmahaaGreat.W
set_option maxRecDepth 100000
set_option maxHeartbeats 40000000
noncomputable section
open Tryz Go.RowKit Go.Proofs
attribute [local irreducible] lt
def TG(fu:Nat)(p0:DS)(x2:aA)(d3:DS)(y5:ByteArray)(d7:DS)(x10:aA)(d13:DS)(x17 x19 x21:aG):Option ((aQ×DS)⊕((LB))):=lt (d13.after 3) fun d24=>sw (decide (d13.below 3=0)) (some (.inr ([c3]:LB))) (some (.inr ([])))
def TH(fu:Nat)(p0:DS)(x2:aA)(d3:DS)(y5:ByteArray)(d7:DS)(x10:aA)(d37:DS):Option ((aQ×DS)⊕((LB))):=lt (d37.after 3) fun d41=>sw (decide (d37.below 3=0)) (some (.inr ([c3]:LB))) (some (.inr ([])))
def TI(fu:Nat)(p0:DS)(x2:aA)(d3:DS)(y5:ByteArray)(d7:DS)(x10:aA):Option ((aQ×DS)⊕((List aD))):=lt (d7.after 2) fun d56=>sw (decide (d7.below 2=0)) (bd (sN fu dT) fun x61=>bd (qP fu 1) fun x63=>bd (rM fu 10 wH ([(aG.mk 5 y5 dY 0 (aA.mk 0 s_ []) ([x61]:List aG) []),x63]:List aG)) fun x65=>gd ((([(aD.mk dY [] x10 false [] (aG.mk 0 s_ s_ 0 (aA.mk 0 s_ []) [] []))]:List aD)).length+(([(aD.mk eK ([x2]:List aA) x10 true ([dT,nP]:LB) x65)]:List aD)).length≤68719476736) (some (.inr (([(aD.mk dY [] x10 false [] (aG.mk 0 s_ s_ 0 (aA.mk 0 s_ []) [] []))]:List aD)++([(aD.mk eK ([x2]:List aA) x10 true ([dT,nP]:LB) x65)]:List aD))))) (some (.inr ([(aD.mk dY [] x10 false [] (aG.mk 0 s_ s_ 0 (aA.mk 0 s_ []) [] []))]:List aD)))
def TJ(fu:Nat)(p0:DS)(x2:aA)(d3:DS)(y5:ByteArray)(d7:DS)(x10:aA)(v55:List aD):Option ((aQ×DS)⊕((LB))):=lt ((d7.after 2).after 3) fun d68=>sw (decide ((d7.after 2).below 3=0)) (some (.inr ([c3]:LB))) (some (.inr ([])))
def CC(fu:Nat)(p0:DS):Option (aQ×DS):=bd (kO fu g0) fun x2=>lt (p0.after ([a4,iC,cX]:LB).length) fun d3=>lt (p0.pick ([a4,iC,cX]:LB)) fun y5=>lt (d3.after 3) fun d7=>bd (wB fu) fun x10=>sw (decide ((((((d7.after 2).after 3).below 12:Nat):Int):Int)=2)||decide ((((((d7.after 2).after 3).below 12:Nat):Int):Int)=3)) (sw (decide (d7.below 2=0)) (lt (d7.after 2) fun d13=>bd (sN fu dT) fun x17=>bd (qP fu 1) fun x19=>bd (rM fu 10 wH ([(aG.mk 5 y5 dY 0 (aA.mk 0 s_ []) ([x17]:List aG) []),x19]:List aG)) fun x21=>gd ((([(aD.mk dY [] x10 false [] (aG.mk 0 s_ s_ 0 (aA.mk 0 s_ []) [] []))]:List aD)).length+(([(aD.mk eK ([x2]:List aA) x10 true ([dT,nP]:LB) x21)]:List aD)).length≤68719476736) (so (TG fu p0 x2 d3 y5 d7 x10 d13 x17 x19 x21) fun v23=>lt ((d13.after 3).after 12) fun d28=>sw (decide (((((d13.after 3).below 12:Nat):Int):Int)=2)) (lt (d28.after ([g0,t2]:LB).length) fun d31=>lt (d28.pick ([g0,t2]:LB)) fun y33=>bd (kO fu y33) fun x36=>some ((aQ.mk y5 v23 false (decide (d3.below 3=0)) ([(aD.mk dY ([]) x36 false ([]) (aG.mk 0 s_ s_ 0 (aA.mk 0 s_ ([])) ([]) ([]))),(aD.mk eK ([x2]:List aA) x10 true ([dT,nP]:LB) x21)]:List aD)),d31)) (some ((aQ.mk y5 v23 false (decide (d3.below 3=0)) ([(aD.mk dY ([]) x10 true ([]) (aG.mk 0 s_ s_ 0 (aA.mk 0 s_ ([])) ([]) ([]))),(aD.mk eK ([x2]:List aA) x10 true ([dT,nP]:LB) x21)]:List aD)),d28)))) (lt (d7.after 2) fun d37=>so (TH fu p0 x2 d3 y5 d7 x10 d37) fun v40=>lt ((d37.after 3).after 12) fun d45=>sw (decide (((((d37.after 3).below 12:Nat):Int):Int)=2)) (lt (d45.after ([g0,t2]:LB).length) fun d48=>lt (d45.pick ([g0,t2]:LB)) fun y50=>bd (kO fu y50) fun x53=>some ((aQ.mk y5 v40 false (decide (d3.below 3=0)) ([(aD.mk dY [] x53 false [] (aG.mk 0 s_ s_ 0 (aA.mk 0 s_ []) [] []))]:List aD)),d48)) (some ((aQ.mk y5 v40 false (decide (d3.below 3=0)) ([(aD.mk dY [] x10 true [] (aG.mk 0 s_ s_ 0 (aA.mk 0 s_ []) [] []))]:List aD)),d45)))) (so (TI fu p0 x2 d3 y5 d7 x10) fun v55=>so (TJ fu p0 x2 d3 y5 d7 x10 v55) fun v67=>lt (((d7.after 2).after 3).after 12) fun d72=>sw (decide ((((((d7.after 2).after 3).below 12:Nat):Int):Int)=0)) (some ((aQ.mk y5 v67 true (decide (d3.below 3=0)) v55),d72)) (sw (decide ((((((d7.after 2).after 3).below 12:Nat):Int):Int)=1)) (lt (d72.after ([s_,dK,s_A]:LB).length) fun d76=>lt (d72.pick ([s_,dK,s_A]:LB)) fun y78=>some ((aQ.mk y78 v67 false (decide (d3.below 3=0)) v55),d76)) (sw (decide ((((((d7.after 2).after 3).below 12:Nat):Int):Int)=4)) (gd ((v67).length+(([c3]:LB)).length≤68719476736) (some ((aQ.mk y5 (v67++([c3]:LB)) false (decide (d3.below 3=0)) v55),d72))) (sw (decide ((((((d7.after 2).after 3).below 12:Nat):Int):Int)=5)) (gd (0<(v55).length) (lt (aP v55 0) fun y84=>gd ((v55).length+(([y84]:List aD)).length≤68719476736) (some ((aQ.mk y5 v67 false (decide (d3.below 3=0)) (v55++([y84]:List aD))),d72)))) (some ((aQ.mk y5 v67 false (decide (d3.below 3=0)) v55),d72))))))
theorem TK(fu:Nat)(p0:DS)(r:aQ×DS)(H:CC fu p0=some r):cJ Tryz.prog 163 [.ptr 0 0] ⟨[some ⟨133,dC p0⟩],[]⟩ (fun q t=>q=((aQ.pv r.1))∧t=⟨[some ⟨133,dC r.2⟩],[]⟩):=by
 refine qJ func163 H (fun C hC H=>?_)
 refine gQ 6 ?_;refine bD H fun x2 z1 H=>(q1 (bC func137 (iP (hM fu) g0 _ z1)) ?_)
 refine gQ 6 ?_;refine q1 (rX ([a4,iC,cX]:LB)) (fI H fun d3 h4 H=>(fI H fun y5 h6 H=>(q1 (eW [0] [] func48 (DY h4 h6 (eA p0 ([a4,iC,cX]:LB) (by decide)))) (q1 bG (fI H fun d7 h8 H=>(q1 (eW [0] [] func45 (AU h8 (k9 d3 3))) (bD H fun x10 z9 H=>(q1 (bC func49 (qX fu _ z9)) (q1 nU ?_)))))))))
 rcases qB (decide ((((((d7.after 2).after 3).below 12:Nat):Int):Int)=2)||decide ((((((d7.after 2).after 3).below 12:Nat):Int):Int)=3)) with g11|g11
 ·have H:=wF H g11
  rcases qB (decide (d7.below 2=0)) with g12|g12
  ·have H:=wF H g12
   refine q1 (a5.buildSliceB (cs:= [pS dY,.nil,pI x10.asJ,pS x10.asD,aX x10.asG,pB false,.nil,pI 0,pS s_,pS s_,pI 0,pI 0,pS s_,.nil,.nil,.nil]) rfl rfl M2.h afU.h rfl rfl rfl (by decide) rfl (by decide)) ?_;refine gQ 8 ?_;refine fI H fun d13 h14 H=>?_
   have g15:=g11
   rw [← h14] at g15
   refine q1 (eW [0] [] func45 (AU h14 (k9 d7 2))) (qN (aeT g12 (bD H fun x17 z16 H=>(bD H fun x19 z18 H=>(bD H fun x21 z20 H=>?_)))))
   refine cF.wk (Wk.freezeE (k:=3) (sz:=16) (es:= [aD.cs (aD.mk dY [] x10 false [] (aG.mk 0 s_ s_ 0 (aA.mk 0 s_ []) [] []))]) (es':=aD.trs (([(aD.mk dY [] x10 false [] (aG.mk 0 s_ s_ 0 (aA.mk 0 s_ []) [] []))]:List aD))) (s':=⟨[(0,.ptr 0 0),(2,.ptr 1 0),(3,.ptr 2 0),(4,.ptr 4 0),(5,(aA.pv x2)),(6,.ptr 0 0),(7,.lit 1 (aW (([a4,iC,cX]:LB)))),(8,pS y5),(9,.ptr 0 0),(10,pB (decide (d3.below 3=0))),(11,(aA.pv x10)),(12,.agg [pS dY,.nil,pI x10.asJ,pS x10.asD,aX x10.asG,pB false,.nil,pI 0,pS s_,pS s_,pI 0,pI 0,pS s_,.nil,.nil,.nil]),(13,.lit 16 (aD.trs (([(aD.mk dY [] x10 false [] (aG.mk 0 s_ s_ 0 (aA.mk 0 s_ []) [] []))]:List aD)))),(14,.agg [pS y5,.nil,pB false,pB (decide (d3.below 3=0)),.lit 16 (aD.trs (([(aD.mk dY [] x10 false [] (aG.mk 0 s_ s_ 0 (aA.mk 0 s_ []) [] []))]:List aD)))]),(15,.ptr 0 0),(16,pB (decide (d7.below 2=0)))],⟨[some ⟨133,dC d13⟩,some ⟨156,[pS s_,.nil,pB false,pB false,.nil]⟩,some ⟨30,cN x2⟩,none,some ⟨156,[pS y5,.nil,pB false,pB (decide (d3.below 3=0)),.lit 16 (aD.trs (([(aD.mk dY [] x10 false [] (aG.mk 0 s_ s_ 0 (aA.mk 0 s_ []) [] []))]:List aD)))]⟩],[]⟩⟩) (by simp [aD.trs_map,aD.tr_cs]) rfl jH (by simp [aD.cs]) (Nat.le_of_ble_eq_true rfl) ⟨⟨rfl,c7,rfl⟩,⟨⟨rfl,c7,rfl⟩,⟨⟨rfl,c7,rfl⟩,⟨⟨rfl,c7,rfl⟩,trivial⟩⟩⟩⟩ rfl rfl (dR hC (iX rfl) (Nat.le_of_ble_eq_true rfl)) (by repeat' first|exact trivial|refine⟨⟨_,rfl,c7,rfl⟩,?_⟩)) ?_;refine cQ H fun z22 H=>(dW (dI [4] bS (dD [17] eE (dD [3] (cK [pI x2.asJ,pS x2.asD,aX x2.asG]) (dI [19] (rX ([x2]:List aA)) (dI [] (bC func49 (qX fu _ z9)) (dI [] (rX ([dT,nP]:LB)) (dI [4] bS (dD [23] eE (dI [] (bC func191 (vU fu dT _ z16)) (dI [25] (rX ([x17]:List aG)) (dI [24,26] nU (dI [] (bC func192 (sL fu 1 _ z18)) ?_)))))))))))))
   refine dI [27,28] (rX ([(aG.mk 5 y5 dY 0 (aA.mk 0 s_ []) ([x17]:List aG) []),x19]:List aG)) (dI [29] (bC func190 (sM fu 10 wH ([(aG.mk 5 y5 dY 0 (aA.mk 0 s_ []) ([x17]:List aG) []),x19]:List aG) _ z20)) (dI [20,21,22,30] nU (dI [31] (rX ([(aD.mk eK ([x2]:List aA) x10 true ([dT,nP]:LB) x21)]:List aD)) ?_)))
   refine dE [18,32] (a5.appendLitBE (es1:=aD.trs (([(aD.mk dY [] x10 false [] (aG.mk 0 s_ s_ 0 (aA.mk 0 s_ []) [] []))]:List aD))) (es2:=aD.trs (([(aD.mk eK ([x2]:List aA) x10 true ([dT,nP]:LB) x21)]:List aD))) (es3:= [aD.cs (aD.mk dY [] x10 false [] (aG.mk 0 s_ s_ 0 (aA.mk 0 s_ []) [] [])),aD.cs (aD.mk eK ([x2]:List aA) x10 true ([dT,nP]:LB) x21)]) (cs:= [pS dY,aX [],pI x10.asJ,pS x10.asD,aX x10.asG,pB false,rS [],pI 0,pS s_,pS s_,pI 0,pI 0,pS s_,aX [],fZ [],nL [],pS eK,aX ([x2]:List aA),pI x10.asJ,pS x10.asD,aX x10.asG,pB true,rS ([dT,nP]:LB),pI x21.asJ,pS x21.asN,pS x21.asD,pI x21.atN,pI x21.asH.asJ,pS x21.asH.asD,aX x21.asH.asG,fZ x21.asG,nL x21.asV]) rfl rfl rfl rfl rfl (fun e he=>by rw [aD.trs_map] at he;obtain⟨x,_,rfl⟩:=List.mem_map.1 he;rw [aD.tr_cs];rfl) (fun e he=>by rw [aD.trs_map] at he;obtain⟨x,_,rfl⟩:=List.mem_map.1 he;rw [aD.tr_cs];rfl) (by rw [aD.trs_map];exact List.cons_ne_nil _ _) (by decide) M2.h ahW.h (by decide) (by rw [aD.trs_len,aD.trs_len];exact wS z22 (by decide)) (by simp [aD.trs_map,aD.tr_cs]) rfl rfl) ?_;refine dI [4] bS (kS [34,33] jP (dN (qS ?_)))
   refine m3 (σ:=(LB)) (fun v23=>⟨[(0,.ptr 0 0),(2,.ptr 1 0),(4,.ptr 4 0)],⟨[some ⟨133,dC (d13.after 3)⟩,some ⟨156,[pS s_,.nil,pB false,pB false,.nil]⟩,some ⟨30,cN x2⟩,none,some ⟨156,[pS y5,.lit 1 (aW (v23)),pB false,pB (decide (d3.below 3=0)),.gsl 5 2]⟩,some ⟨237,[pS dY,aX [],pI x10.asJ,pS x10.asD,aX x10.asG,pB false,rS [],pI 0,pS s_,pS s_,pI 0,pI 0,pS s_,aX [],fZ [],nL [],pS eK,aX ([x2]:List aA),pI x10.asJ,pS x10.asD,aX x10.asG,pB true,rS ([dT,nP]:LB),pI x21.asJ,pS x21.asN,pS x21.asD,pI x21.atN,pI x21.asH.asJ,pS x21.asH.asD,aX x21.asH.asG,fZ x21.asG,nL x21.asV]⟩],[]⟩⟩) (eR H) (fun H=>?_) ?_
   ·refine gQ 3 ?_;refine fI H fun d24 h25 H=>?_
    have g26:=g15
    rw [← h25] at g26
    refine q1 (eW [0] [] func45 (AU h25 (k9 d13 3))) (qN ?_)
    refine a7 H (fun h27 H=>?_) (fun h27 H=>?_)
    ·refine qR (q1 (rX ([c3]:LB)) ?_)
     refine gQ 3 ?_
     subst h25
     exact gE 0
    refine cF.skip ?_
    subst h25
    exact gE 0
   rintro v23 H
   refine gQ 4 ?_;refine fI H fun d28 h29 H=>(q1 (eW [0] [] func73 (AU h29 (eT (d13.after 3) 12))) ?_)
   refine gQ 7 ?_;refine U6 (aaN (b:=0) g15 (by decide) (by decide)) ?_;refine gQ 5 ?_;refine U6 (aaN (b:=1) g15 (by decide) (by decide)) ?_;refine gQ 5 ?_;refine a7 H (fun h30 H=>?_) (fun h30 H=>?_)
   ·refine fI H fun d31 h32 H=>(fI H fun y33 h34 H=>(bD H fun x36 z35 H=>(dW (dI [4] bS (dB [52] 0 1 t7 (dI [0] bG (dI [] (rX ([g0,t2]:LB)) (dE [54,55] (eW [0] [] func48 (DY h32 h34 (eA d28 ([g0,t2]:LB) (by decide)))) (dI [56] (bC func137 (iP (hM fu) y33 _ z35)) (dI [53] (a5.indexG (sz:=16) (k:=5) (N:=2) (i:=0) rfl rfl rfl rfl (by decide) M2.h) (dI [58] bS (kS [59,57] jP (dN ?_)))))))))))))
    refine gQ 2 ?_;refine AL.weak (Wk.freezeE (k:=5) (sz:=16) (es:= [aD.cs (aD.mk dY ([]) x36 false ([]) (aG.mk 0 s_ s_ 0 (aA.mk 0 s_ ([])) ([]) ([]))),aD.cs (aD.mk eK ([x2]:List aA) x10 true ([dT,nP]:LB) x21)]) (es':=aD.trs (([(aD.mk dY ([]) x36 false ([]) (aG.mk 0 s_ s_ 0 (aA.mk 0 s_ ([])) ([]) ([]))),(aD.mk eK ([x2]:List aA) x10 true ([dT,nP]:LB) x21)]:List aD))) (s':=⟨[(0,.ptr 0 0),(2,.ptr 1 0),(4,.ptr 4 0),(40,pN ((d13.after 3).below 12))],⟨[some ⟨133,dC d31⟩,some ⟨156,[pS s_,.nil,pB false,pB false,.nil]⟩,some ⟨30,cN x2⟩,none,some ⟨156,[pS y5,.lit 1 (aW (v23)),pB false,pB (decide (d3.below 3=0)),iS ([(aD.mk dY ([]) x36 false ([]) (aG.mk 0 s_ s_ 0 (aA.mk 0 s_ ([])) ([]) ([]))),(aD.mk eK ([x2]:List aA) x10 true ([dT,nP]:LB) x21)]:List aD)]⟩,none],[]⟩⟩) (by simp [aD.trs_map,aD.tr_cs]) rfl jH (by simp [aD.cs]) (Nat.le_of_ble_eq_true rfl) ⟨⟨rfl,c7,rfl⟩,⟨⟨rfl,c7,rfl⟩,⟨⟨rfl,c7,rfl⟩,⟨⟨rfl,c7,rfl⟩,trivial⟩⟩⟩⟩ rfl rfl (dR hC (iX rfl) (Nat.le_of_ble_eq_true rfl)) (by repeat' first|exact trivial|refine⟨⟨_,rfl,c7,rfl⟩,?_⟩)) ?_;refine q1 (cK [pS y5,.lit 1 (aW (v23)),pB false,pB (decide (d3.below 3=0)),iS ([(aD.mk dY ([]) x36 false ([]) (aG.mk 0 s_ s_ 0 (aA.mk 0 s_ ([])) ([]) ([]))),(aD.mk eK ([x2]:List aA) x10 true ([dT,nP]:LB) x21)]:List aD)]) ?_;exact gE 2
   refine gQ 5 ?_;refine aeT (afR g15 h30) ?_;refine gQ 3 ?_;refine q1 (a5.indexG (sz:=16) (k:=5) (N:=2) (i:=0) rfl rfl rfl rfl (by decide) M2.h) ?_;refine gQ 5 ?_;refine AL.weak (Wk.freezeE (k:=5) (sz:=16) (es:= [aD.cs (aD.mk dY ([]) x10 true ([]) (aG.mk 0 s_ s_ 0 (aA.mk 0 s_ ([])) ([]) ([]))),aD.cs (aD.mk eK ([x2]:List aA) x10 true ([dT,nP]:LB) x21)]) (es':=aD.trs (([(aD.mk dY ([]) x10 true ([]) (aG.mk 0 s_ s_ 0 (aA.mk 0 s_ ([])) ([]) ([]))),(aD.mk eK ([x2]:List aA) x10 true ([dT,nP]:LB) x21)]:List aD))) (s':=⟨[(0,.ptr 0 0),(2,.ptr 1 0),(4,.ptr 4 0),(40,pN ((d13.after 3).below 12))],⟨[some ⟨133,dC d28⟩,some ⟨156,[pS s_,.nil,pB false,pB false,.nil]⟩,some ⟨30,cN x2⟩,none,some ⟨156,[pS y5,.lit 1 (aW (v23)),pB false,pB (decide (d3.below 3=0)),iS ([(aD.mk dY ([]) x10 true ([]) (aG.mk 0 s_ s_ 0 (aA.mk 0 s_ ([])) ([]) ([]))),(aD.mk eK ([x2]:List aA) x10 true ([dT,nP]:LB) x21)]:List aD)]⟩,none],[]⟩⟩) (by simp [aD.trs_map,aD.tr_cs]) rfl jH (by simp [aD.cs]) (Nat.le_of_ble_eq_true rfl) ⟨⟨rfl,c7,rfl⟩,⟨⟨rfl,c7,rfl⟩,⟨⟨rfl,c7,rfl⟩,⟨⟨rfl,c7,rfl⟩,trivial⟩⟩⟩⟩ rfl rfl (dR hC (iX rfl) (Nat.le_of_ble_eq_true rfl)) (by repeat' first|exact trivial|refine⟨⟨_,rfl,c7,rfl⟩,?_⟩)) ?_;refine q1 (cK [pS y5,.lit 1 (aW (v23)),pB false,pB (decide (d3.below 3=0)),iS ([(aD.mk dY ([]) x10 true ([]) (aG.mk 0 s_ s_ 0 (aA.mk 0 s_ ([])) ([]) ([]))),(aD.mk eK ([x2]:List aA) x10 true ([dT,nP]:LB) x21)]:List aD)]) ?_;exact gE 2
  have H:=wE H g12
  refine q1 (a5.buildSliceB (cs:= [pS dY,.nil,pI x10.asJ,pS x10.asD,aX x10.asG,pB false,.nil,pI 0,pS s_,pS s_,pI 0,pI 0,pS s_,.nil,.nil,.nil]) rfl rfl M2.h afU.h rfl rfl rfl (by decide) rfl (by decide)) ?_;refine gQ 8 ?_;refine fI H fun d37 h38 H=>?_
  have g39:=g11
  rw [← h38] at g39
  refine q1 (eW [0] [] func45 (AU h38 (k9 d7 2))) (qN (U6 g12 ?_))
  refine gQ 2 ?_;refine m3 (σ:=(LB)) (fun v40=>⟨[(0,.ptr 0 0),(2,.ptr 1 0),(4,.ptr 4 0)],⟨[some ⟨133,dC (d37.after 3)⟩,some ⟨156,[pS s_,.nil,pB false,pB false,.nil]⟩,some ⟨30,cN x2⟩,some ⟨237,[pS dY,.nil,pI x10.asJ,pS x10.asD,aX x10.asG,pB false,.nil,pI 0,pS s_,pS s_,pI 0,pI 0,pS s_,.nil,.nil,.nil]⟩,some ⟨156,[pS y5,.lit 1 (aW (v40)),pB false,pB (decide (d3.below 3=0)),.bsl 3 1]⟩],[]⟩⟩) (eR H) (fun H=>?_) ?_
  ·refine gQ 3 ?_;refine fI H fun d41 h42 H=>?_
   have g43:=g39
   rw [← h42] at g43
   refine q1 (eW [0] [] func45 (AU h42 (k9 d37 3))) (qN ?_)
   refine a7 H (fun h44 H=>?_) (fun h44 H=>?_)
   ·refine qR (q1 (rX ([c3]:LB)) ?_)
    refine gQ 3 ?_
    subst h42
    exact gE 0
   refine cF.skip ?_
   subst h42
   exact gE 0
  rintro v40 H
  refine gQ 4 ?_;refine fI H fun d45 h46 H=>(q1 (eW [0] [] func73 (AU h46 (eT (d37.after 3) 12))) ?_)
  refine gQ 7 ?_;refine U6 (aaN (b:=0) g39 (by decide) (by decide)) ?_;refine gQ 5 ?_;refine U6 (aaN (b:=1) g39 (by decide) (by decide)) ?_;refine gQ 5 ?_;refine a7 H (fun h47 H=>?_) (fun h47 H=>?_)
  ·refine fI H fun d48 h49 H=>(fI H fun y50 h51 H=>(bD H fun x53 z52 H=>(dW (dI [4] bS (dB [52] 0 1 t7 (dI [0] bG (dI [] (rX ([g0,t2]:LB)) (dE [54,55] (eW [0] [] func48 (DY h49 h51 (eA d45 ([g0,t2]:LB) (by decide)))) (dI [56] (bC func137 (iP (hM fu) y50 _ z52)) (dI [53] (a5.indexB (sz:=16) (k:=3) (N:=1) (i:=0) rfl rfl rfl rfl (by decide) M2.h) (dI [58] bS (kS [59,57] jP (dN ?_)))))))))))))
   refine gQ 2 ?_;refine AL.weak (Wk.freezeE (k:=3) (sz:=16) (es:= [aD.cs (aD.mk dY [] x53 false [] (aG.mk 0 s_ s_ 0 (aA.mk 0 s_ []) [] []))]) (es':=aD.trs (([(aD.mk dY [] x53 false [] (aG.mk 0 s_ s_ 0 (aA.mk 0 s_ []) [] []))]:List aD))) (s':=⟨[(0,.ptr 0 0),(2,.ptr 1 0),(4,.ptr 4 0),(40,pN ((d37.after 3).below 12))],⟨[some ⟨133,dC d48⟩,some ⟨156,[pS s_,.nil,pB false,pB false,.nil]⟩,some ⟨30,cN x2⟩,none,some ⟨156,[pS y5,.lit 1 (aW (v40)),pB false,pB (decide (d3.below 3=0)),iS ([(aD.mk dY [] x53 false [] (aG.mk 0 s_ s_ 0 (aA.mk 0 s_ []) [] []))]:List aD)]⟩],[]⟩⟩) (by simp [aD.trs_map,aD.tr_cs]) rfl jH (by simp [aD.cs]) (Nat.le_of_ble_eq_true rfl) ⟨⟨rfl,c7,rfl⟩,⟨⟨rfl,c7,rfl⟩,⟨⟨rfl,c7,rfl⟩,⟨⟨rfl,c7,rfl⟩,trivial⟩⟩⟩⟩ rfl rfl (dR hC (iX rfl) (Nat.le_of_ble_eq_true rfl)) (by repeat' first|exact trivial|refine⟨⟨_,rfl,c7,rfl⟩,?_⟩)) ?_;refine q1 (cK [pS y5,.lit 1 (aW (v40)),pB false,pB (decide (d3.below 3=0)),iS ([(aD.mk dY [] x53 false [] (aG.mk 0 s_ s_ 0 (aA.mk 0 s_ []) [] []))]:List aD)]) ?_;exact gE 2
  refine gQ 5 ?_;refine aeT (afR g39 h47) ?_;refine gQ 3 ?_;refine q1 (a5.indexB (sz:=16) (k:=3) (N:=1) (i:=0) rfl rfl rfl rfl (by decide) M2.h) ?_;refine gQ 5 ?_;refine AL.weak (Wk.freezeE (k:=3) (sz:=16) (es:= [aD.cs (aD.mk dY [] x10 true [] (aG.mk 0 s_ s_ 0 (aA.mk 0 s_ []) [] []))]) (es':=aD.trs (([(aD.mk dY [] x10 true [] (aG.mk 0 s_ s_ 0 (aA.mk 0 s_ []) [] []))]:List aD))) (s':=⟨[(0,.ptr 0 0),(2,.ptr 1 0),(4,.ptr 4 0),(40,pN ((d37.after 3).below 12))],⟨[some ⟨133,dC d45⟩,some ⟨156,[pS s_,.nil,pB false,pB false,.nil]⟩,some ⟨30,cN x2⟩,none,some ⟨156,[pS y5,.lit 1 (aW (v40)),pB false,pB (decide (d3.below 3=0)),iS ([(aD.mk dY [] x10 true [] (aG.mk 0 s_ s_ 0 (aA.mk 0 s_ []) [] []))]:List aD)]⟩],[]⟩⟩) (by simp [aD.trs_map,aD.tr_cs]) rfl jH (by simp [aD.cs]) (Nat.le_of_ble_eq_true rfl) ⟨⟨rfl,c7,rfl⟩,⟨⟨rfl,c7,rfl⟩,⟨⟨rfl,c7,rfl⟩,⟨⟨rfl,c7,rfl⟩,trivial⟩⟩⟩⟩ rfl rfl (dR hC (iX rfl) (Nat.le_of_ble_eq_true rfl)) (by repeat' first|exact trivial|refine⟨⟨_,rfl,c7,rfl⟩,?_⟩)) ?_;refine q1 (cK [pS y5,.lit 1 (aW (v40)),pB false,pB (decide (d3.below 3=0)),iS ([(aD.mk dY [] x10 true [] (aG.mk 0 s_ s_ 0 (aA.mk 0 s_ []) [] []))]:List aD)]) ?_;exact gE 2
 have H:=wE H g11
 refine q1 (n0 ([(aD.mk dY [] x10 false [] (aG.mk 0 s_ s_ 0 (aA.mk 0 s_ []) [] []))]:List aD)) ?_;refine gQ 5 ?_;refine m3 (σ:=(List aD)) (fun v55=>⟨[(0,.ptr 0 0),(2,.ptr 1 0),(4,.ptr 3 0)],⟨[some ⟨133,dC (d7.after 2)⟩,some ⟨156,[pS s_,.nil,pB false,pB false,.nil]⟩,some ⟨30,cN x2⟩,some ⟨156,[pS y5,.nil,pB false,pB (decide (d3.below 3=0)),jI v55 0]⟩],[⟨237,16,aD.trs (v55),false⟩]⟩⟩) (eR H) (fun H=>?_) ?_
 ·refine gQ 3 ?_;refine fI H fun d56 h57 H=>?_
  have g58:=g11
  rw [← h57] at g58
  refine q1 (eW [0] [] func45 (AU h57 (k9 d7 2))) (qN ?_)
  refine a7 H (fun h59 H=>?_) (fun h59 H=>?_)
  ·refine bD H fun x61 z60 H=>(bD H fun x63 z62 H=>(bD H fun x65 z64 H=>(cQ H fun z66 H=>(dW (dI [4] bS (dD [17] eE (dD [3] (cK [pI x2.asJ,pS x2.asD,aX x2.asG]) (dI [19] (rX ([x2]:List aA)) (dI [] (bC func49 (qX fu _ z9)) (dI [] (rX ([dT,nP]:LB)) (dI [4] bS (dD [23] eE (dI [] (bC func191 (vU fu dT _ z60)) ?_)))))))))))))
   refine dI [25] (rX ([x61]:List aG)) (dI [24,26] nU (dI [] (bC func192 (sL fu 1 _ z62)) (dI [27,28] (rX ([(aG.mk 5 y5 dY 0 (aA.mk 0 s_ []) ([x61]:List aG) []),x63]:List aG)) (dI [29] (bC func190 (sM fu 10 wH ([(aG.mk 5 y5 dY 0 (aA.mk 0 s_ []) ([x61]:List aG) []),x63]:List aG) _ z64)) (dI [20,21,22,30] nU (dI [31] (rX ([(aD.mk eK ([x2]:List aA) x10 true ([dT,nP]:LB) x65)]:List aD)) (dE [18,32] (jS z66) (dI [4] bS (kS [34,33] jP (dN ?_))))))))))
   subst h57
   exact gE 0
  refine cF.skip ?_
  subst h57
  exact gE 0
 rintro v55 H
 refine qS ?_;refine m3 (σ:=(LB)) (fun v67=>⟨[(0,.ptr 0 0),(2,.ptr 1 0),(4,.ptr 3 0)],⟨[some ⟨133,dC ((d7.after 2).after 3)⟩,some ⟨156,[pS s_,.nil,pB false,pB false,.nil]⟩,some ⟨30,cN x2⟩,some ⟨156,[pS y5,.lit 1 (aW (v67)),pB false,pB (decide (d3.below 3=0)),jI v55 0]⟩],[⟨237,16,aD.trs (v55),false⟩]⟩⟩) (eR H) (fun H=>?_) ?_
 ·refine gQ 3 ?_;refine fI H fun d68 h69 H=>?_
  have g70:=g11
  rw [← h69] at g70
  refine q1 (eW [0] [] func45 (AU h69 (k9 (d7.after 2) 3))) (qN ?_)
  refine a7 H (fun h71 H=>?_) (fun h71 H=>?_)
  ·refine qR (q1 (rX ([c3]:LB)) ?_)
   refine gQ 3 ?_
   subst h69
   exact gE 0
  refine cF.skip ?_
  subst h69
  exact gE 0
 rintro v67 H
 refine gQ 4 ?_;refine fI H fun d72 h73 H=>(q1 (eW [0] [] func73 (AU h73 (eT ((d7.after 2).after 3) 12))) ?_)
 refine gQ 7 ?_;refine a7 H (fun h74 H=>?_) (fun h74 H=>?_)
 ·refine gQ 6 ?_;refine q1 (cK [pS y5,.lit 1 (aW (v67)),pB true,pB (decide (d3.below 3=0)),jI v55 0]) ?_;exact gE 2
 refine gQ 5 ?_;refine a7 H (fun h75 H=>?_) (fun h75 H=>?_)
 ·refine gQ 2 ?_;refine q1 (rX ([s_,dK,s_A]:LB)) (fI H fun d76 h77 H=>(fI H fun y78 h79 H=>(q1 (eW [0] [] func48 (DY h77 h79 (eA d72 ([s_,dK,s_A]:LB) (by decide)))) ?_)))
  refine gQ 5 ?_;refine q1 (cK [pS y78,.lit 1 (aW (v67)),pB false,pB (decide (d3.below 3=0)),jI v55 0]) ?_;exact gE 2
 refine gQ 5 ?_;refine U6 (ahH g11) ?_;refine gQ 5 ?_;refine U6 (ahI g11) ?_;refine gQ 5 ?_;refine a7 H (fun h80 H=>?_) (fun h80 H=>?_)
 ·refine gQ 3 ?_;refine q1 (rX ([c3]:LB)) (cQ H fun z81 H=>?_)
  refine q1 (a5.appendLit (es1:=aW (v67)) (es2:=aW (([c3]:LB))) (es3:=aW (v67++([c3]:LB))) rfl rfl rfl rfl rfl (nH _) (nH _) (by exact List.cons_ne_nil _ _) (by decide) X6.h afH.h (by decide) (by rw [bI,bI];exact wS z81 (by decide)) (s4 _ _)) ?_;refine gQ 5 ?_;refine q1 (cK [pS y5,rS (v67++([c3]:LB)),pB false,pB (decide (d3.below 3=0)),jI v55 0]) ?_;exact gE 2
 refine gQ 5 ?_;refine a7 H (fun h82 H=>?_) (fun h82 H=>?_)
 ·refine cQ H fun z83 H=>(fI H fun y84 h85 H=>(cQ H fun z86 H=>(dW (dI [4] bS (dD [75] eE (dI [4] bS (dD [77] eE (dI [78] (uG h85 z83) (dI [79] (jB (aD.cs y84)) (dI [80] (rX ([y84]:List aD)) (dE [76,81] (jS z86) (dI [4] bS (kS [83,82] jP ?_)))))))))))))
  refine dN ?_;refine gQ 2 ?_;refine q1 (cK [pS y5,.lit 1 (aW (v67)),pB false,pB (decide (d3.below 3=0)),jI (v55++([y84]:List aD)) 0]) ?_;exact gE 2
 refine gQ 3 ?_;refine q1 (cK [pS y5,.lit 1 (aW (v67)),pB false,pB (decide (d3.below 3=0)),jI v55 0]) ?_;exact gE 2
def vW(fu:Nat)(pc:DS):Option (aI×DS):=bd (kO fu eQ) fun x2=>bd (eJ fu b0 ([x2]:List aA)) fun x4=>lt (pc.after 10) fun d5=>sw (decide ((pc.below 10:Int)=0)) (lt (d5.after ([eQ,t2]:LB).length) fun d8=>lt (d5.pick ([eQ,t2]:LB)) fun y10=>gd ((([eQ]:LB)).length+(([y10]:LB)).length≤68719476736) (some ((aI.mk b0 (([eQ]:LB)++([y10]:LB)) ([(aC.mk eV []),(aC.mk bZ ([x2,x4]:List aA))]:List aC)),d8))) (sw (decide ((pc.below 10:Int)=1)) (lt (d5.after 2) fun d14=>gd ((0:Int)≤0∧(0:Int)≤(d5.below 2:Int)∧(d5.below 2:Int)≤((([(aC.mk eV []),(aC.mk bZ ([x2,x4]:List aA))]:List aC).length:Nat):Int)) (some ((aI.mk b0 ([eQ]:LB) (List.drop (0:Int).toNat (List.take (d5.below 2:Int).toNat ([(aC.mk eV []),(aC.mk bZ ([x2,x4]:List aA))]:List aC)))),d14))) (sw (decide ((pc.below 10:Int)=2)) (bd (mL fu d5 2) fun(x19,x20)=>some ((aI.mk b0 ([eQ]:LB) ([(aC.mk eV ([x19]:List aA)),(aC.mk bZ ([x2,x4]:List aA))]:List aC)),x20)) (sw (decide ((pc.below 10:Int)=3)) (lt (d5.after ([bZ,s_,N8]:LB).length) fun d22=>lt (d5.pick ([bZ,s_,N8]:LB)) fun y24=>some ((aI.mk b0 ([eQ]:LB) ([(aC.mk y24 []),(aC.mk bZ ([x2,x4]:List aA))]:List aC)),d22)) (some ((aI.mk b0 ([eQ]:LB) ([(aC.mk eV []),(aC.mk bZ ([x2,x4]:List aA))]:List aC)),d5)))))
theorem WT(fu:Nat)(pc:DS)(r:aI×DS)(H:vW fu pc=some r):cJ Tryz.prog 164 [.ptr 0 0] ⟨[some ⟨133,dC pc⟩],[]⟩ (fun q t=>q=((aI.pv r.1))∧t=⟨[some ⟨133,dC r.2⟩],[]⟩):=by
 refine qJ func164 H (fun C hC H=>?_)
 refine gQ 6 ?_;refine q1 (rX ([eQ]:LB)) (q1 nU (bD H fun x2 z1 H=>?_))
 iterate 2 refine q1 (bC func137 (iP (hM fu) eQ _ z1)) ?_
 refine q1 (rX ([x2]:List aA)) (bD H fun x4 z3 H=>(q1 (bC func47 (nS (fP fu) b0 ([x2]:List aA) _ z3)) (q1 (rX ([x2,x4]:List aA)) (q1 nU (q1 (a5.buildSliceB (cs:= [pS eV,.nil,pS bZ,.lit 3 (aA.trs (([x2,x4]:List aA)))]) rfl rfl aeV.h akW.h rfl rfl rfl (by decide) rfl (by decide)) ?_)))))
 refine gQ 8 ?_;refine fI H fun d5 h6 H=>(q1 (eW [0] [] func73 (AU h6 (eT pc 10))) ?_)
 refine gQ 7 ?_;refine a7 H (fun h7 H=>?_) (fun h7 H=>?_)
 ·refine fI H fun d8 h9 H=>(fI H fun y10 h11 H=>(cQ H fun z12 H=>(dW (dI [3] bS (dB [18] 0 1 t7 (dI [0] bG (dI [] (rX ([eQ,t2]:LB)) (dE [20,21] (eW [0] [] func48 (DY h9 h11 (eA d5 ([eQ,t2]:LB) (by decide)))) (dI [22] (rX ([y10]:LB)) ?_)))))))))
  refine dI [19,23] (a5.appendLit (es1:=aW (([eQ]:LB))) (es2:=aW (([y10]:LB))) (es3:=aW (([eQ]:LB)++([y10]:LB))) rfl rfl rfl rfl rfl (nH _) (nH _) (by exact List.cons_ne_nil _ _) (by decide) X6.h afH.h (by decide) (by rw [bI,bI];exact wS z12 (by decide)) (s4 _ _)) ?_;refine dI [3] bS (kS [25,24] jP (dN ?_))
  refine gQ 2 ?_;refine AL.weak (Wk.freezeE (k:=2) (sz:=2) (es:= [aC.cs (aC.mk eV []),aC.cs (aC.mk bZ ([x2,x4]:List aA))]) (es':=aC.trs (([(aC.mk eV []),(aC.mk bZ ([x2,x4]:List aA))]:List aC))) (s':=⟨[(0,.ptr 0 0),(2,.ptr 1 0),(3,.ptr 3 0),(15,pN (pc.below 10))],⟨[some ⟨133,dC d8⟩,some ⟨39,[pS s_,.nil,.nil]⟩,none,some ⟨39,[pS b0,rS (([eQ]:LB)++([y10]:LB)),cB ([(aC.mk eV []),(aC.mk bZ ([x2,x4]:List aA))]:List aC)]⟩],[]⟩⟩) (by simp [aC.trs_map,aC.tr_cs]) rfl jH (by simp [aC.cs]) (Nat.le_of_ble_eq_true rfl) ⟨⟨rfl,c7,rfl⟩,⟨⟨rfl,c7,rfl⟩,⟨⟨rfl,c7,rfl⟩,trivial⟩⟩⟩ rfl rfl (dR hC (iX rfl) (Nat.le_of_ble_eq_true rfl)) (by repeat' first|exact trivial|refine⟨⟨_,rfl,c7,rfl⟩,?_⟩)) ?_;refine q1 (cK [pS b0,rS (([eQ]:LB)++([y10]:LB)),cB ([(aC.mk eV []),(aC.mk bZ ([x2,x4]:List aA))]:List aC)]) ?_;exact gE 2
 refine gQ 5 ?_;refine a7 H (fun h13 H=>?_) (fun h13 H=>?_)
 ·refine fI H fun d14 h15 H=>?_;refine cF.wk (Wk.freezeE (k:=2) (sz:=2) (es:= [aC.cs (aC.mk eV []),aC.cs (aC.mk bZ ([x2,x4]:List aA))]) (es':=aC.trs (([(aC.mk eV []),(aC.mk bZ ([x2,x4]:List aA))]:List aC))) (s':=⟨[(0,.ptr 0 0),(2,.ptr 1 0),(3,.ptr 3 0),(4,.lit 1 (aW (([eQ]:LB)))),(5,.agg [pS eV,.nil]),(6,(aA.pv x2)),(7,(aA.pv x2)),(8,.lit 3 (aA.trs (([x2]:List aA)))),(9,(aA.pv x4)),(10,.lit 3 (aA.trs (([x2,x4]:List aA)))),(11,.agg [pS bZ,.lit 3 (aA.trs (([x2,x4]:List aA)))]),(12,cB ([(aC.mk eV []),(aC.mk bZ ([x2,x4]:List aA))]:List aC)),(13,.agg [pS b0,.lit 1 (aW (([eQ]:LB))),cB ([(aC.mk eV []),(aC.mk bZ ([x2,x4]:List aA))]:List aC)]),(14,.ptr 0 0),(15,pN (pc.below 10)),(16,pB (decide ((pc.below 10:Int)=0))),(17,pB (decide ((pc.below 10:Int)=0))),(26,pB (decide ((pc.below 10:Int)=1))),(27,pB (decide ((pc.below 10:Int)=1)))],⟨[some ⟨133,dC d5⟩,some ⟨39,[pS s_,.nil,.nil]⟩,none,some ⟨39,[pS b0,.lit 1 (aW (([eQ]:LB))),cB ([(aC.mk eV []),(aC.mk bZ ([x2,x4]:List aA))]:List aC)]⟩],[]⟩⟩) (by simp [aC.trs_map,aC.tr_cs]) rfl jH (by simp [aC.cs]) (Nat.le_of_ble_eq_true rfl) ⟨⟨rfl,c7,rfl⟩,⟨⟨rfl,c7,rfl⟩,⟨⟨rfl,c7,rfl⟩,trivial⟩⟩⟩ rfl rfl (dR hC (iX rfl) (Nat.le_of_ble_eq_true rfl)) (by repeat' first|exact trivial|refine⟨⟨_,rfl,c7,rfl⟩,?_⟩)) ?_;refine cQ H fun z16 H=>(dW (dI [3] bS (dB [28] 0 1 t7 (dI [0] bG (dE [30] (eW [0] [] func73 (AU h15 (eT d5 2))) ?_)))))
  refine dI [29,31] (a5.congrP (a5.sliceR (es:=aC.trs (([(aC.mk eV []),(aC.mk bZ ([x2,x4]:List aA))]:List aC))) (l:=0) (k:=(d5.below 2:Int)) rfl rfl rfl rfl rfl (by rw [aC.trs_len];exact rfl) (by rw [aC.trs_len];exact z16) aeV.h) (aC.trs_part _ _ _)) ?_;refine dI [3] bS (kS [33,32] jP (dN ?_))
  refine gQ 2 ?_;refine q1 (cK [pS b0,.lit 1 (aW (([eQ]:LB))),cB (List.drop (0:Int).toNat (List.take (d5.below 2:Int).toNat ([(aC.mk eV []),(aC.mk bZ ([x2,x4]:List aA))]:List aC)))]) ?_;exact gE 2
 refine gQ 5 ?_;refine a7 H (fun h17 H=>?_) (fun h17 H=>?_)
 ·refine eY H fun x19 x20 z18 H=>(dW (dI [3] bS (dB [36] 0 1 t7 (dI [0] bG (dE [38] (eW [0] [] func132 (sR (sQ fu) d5 2 _ z18)) (dI [39] (rX ([x19]:List aA)) (dI [37] (a5.indexB (sz:=2) (k:=2) (N:=2) (i:=0) rfl rfl rfl rfl (by decide) aeV.h) (dI [41] bS (kS [42,40] jP (dN ?_))))))))))
  refine gQ 2 ?_;refine AL.weak (Wk.freezeE (k:=2) (sz:=2) (es:= [aC.cs (aC.mk eV ([x19]:List aA)),aC.cs (aC.mk bZ ([x2,x4]:List aA))]) (es':=aC.trs (([(aC.mk eV ([x19]:List aA)),(aC.mk bZ ([x2,x4]:List aA))]:List aC))) (s':=⟨[(0,.ptr 0 0),(2,.ptr 1 0),(3,.ptr 3 0),(15,pN (pc.below 10))],⟨[some ⟨133,dC x20⟩,some ⟨39,[pS s_,.nil,.nil]⟩,none,some ⟨39,[pS b0,.lit 1 (aW (([eQ]:LB))),cB ([(aC.mk eV ([x19]:List aA)),(aC.mk bZ ([x2,x4]:List aA))]:List aC)]⟩],[]⟩⟩) (by simp [aC.trs_map,aC.tr_cs]) rfl jH (by simp [aC.cs]) (Nat.le_of_ble_eq_true rfl) ⟨⟨rfl,c7,rfl⟩,⟨⟨rfl,c7,rfl⟩,⟨⟨rfl,c7,rfl⟩,trivial⟩⟩⟩ rfl rfl (dR hC (iX rfl) (Nat.le_of_ble_eq_true rfl)) (by repeat' first|exact trivial|refine⟨⟨_,rfl,c7,rfl⟩,?_⟩)) ?_;refine q1 (cK [pS b0,.lit 1 (aW (([eQ]:LB))),cB ([(aC.mk eV ([x19]:List aA)),(aC.mk bZ ([x2,x4]:List aA))]:List aC)]) ?_;exact gE 2
 refine gQ 5 ?_;refine a7 H (fun h21 H=>?_) (fun h21 H=>?_)
 ·refine fI H fun d22 h23 H=>(fI H fun y24 h25 H=>(dW (dI [3] bS (dB [45] 0 1 t7 (dI [0] bG (dI [] (rX ([bZ,s_,N8]:LB)) (dE [47,48] (eW [0] [] func48 (DY h23 h25 (eA d5 ([bZ,s_,N8]:LB) (by decide)))) (dI [46] (a5.indexB (sz:=2) (k:=2) (N:=2) (i:=0) rfl rfl rfl rfl (by decide) aeV.h) (dI [50] bS (kS [51,49] jP (dN ?_)))))))))))
  refine gQ 2 ?_;refine AL.weak (Wk.freezeE (k:=2) (sz:=2) (es:= [aC.cs (aC.mk y24 []),aC.cs (aC.mk bZ ([x2,x4]:List aA))]) (es':=aC.trs (([(aC.mk y24 []),(aC.mk bZ ([x2,x4]:List aA))]:List aC))) (s':=⟨[(0,.ptr 0 0),(2,.ptr 1 0),(3,.ptr 3 0),(15,pN (pc.below 10))],⟨[some ⟨133,dC d22⟩,some ⟨39,[pS s_,.nil,.nil]⟩,none,some ⟨39,[pS b0,.lit 1 (aW (([eQ]:LB))),cB ([(aC.mk y24 []),(aC.mk bZ ([x2,x4]:List aA))]:List aC)]⟩],[]⟩⟩) (by simp [aC.trs_map,aC.tr_cs]) rfl jH (by simp [aC.cs]) (Nat.le_of_ble_eq_true rfl) ⟨⟨rfl,c7,rfl⟩,⟨⟨rfl,c7,rfl⟩,⟨⟨rfl,c7,rfl⟩,trivial⟩⟩⟩ rfl rfl (dR hC (iX rfl) (Nat.le_of_ble_eq_true rfl)) (by repeat' first|exact trivial|refine⟨⟨_,rfl,c7,rfl⟩,?_⟩)) ?_;refine q1 (cK [pS b0,.lit 1 (aW (([eQ]:LB))),cB ([(aC.mk y24 []),(aC.mk bZ ([x2,x4]:List aA))]:List aC)]) ?_;exact gE 2
 refine gQ 3 ?_;refine AL.weak (Wk.freezeE (k:=2) (sz:=2) (es:= [aC.cs (aC.mk eV []),aC.cs (aC.mk bZ ([x2,x4]:List aA))]) (es':=aC.trs (([(aC.mk eV []),(aC.mk bZ ([x2,x4]:List aA))]:List aC))) (s':=⟨[(0,.ptr 0 0),(2,.ptr 1 0),(3,.ptr 3 0),(15,pN (pc.below 10))],⟨[some ⟨133,dC d5⟩,some ⟨39,[pS s_,.nil,.nil]⟩,none,some ⟨39,[pS b0,.lit 1 (aW (([eQ]:LB))),cB ([(aC.mk eV []),(aC.mk bZ ([x2,x4]:List aA))]:List aC)]⟩],[]⟩⟩) (by simp [aC.trs_map,aC.tr_cs]) rfl jH (by simp [aC.cs]) (Nat.le_of_ble_eq_true rfl) ⟨⟨rfl,c7,rfl⟩,⟨⟨rfl,c7,rfl⟩,⟨⟨rfl,c7,rfl⟩,trivial⟩⟩⟩ rfl rfl (dR hC (iX rfl) (Nat.le_of_ble_eq_true rfl)) (by repeat' first|exact trivial|refine⟨⟨_,rfl,c7,rfl⟩,?_⟩)) ?_;refine q1 (cK [pS b0,.lit 1 (aW (([eQ]:LB))),cB ([(aC.mk eV []),(aC.mk bZ ([x2,x4]:List aA))]:List aC)]) ?_;exact gE 2
end
end Go.Proofs.YtfcoaagbccmahaaGreat.W

namespace Go.Proofs.YtfcoaagbccmahaaGreat.W
set_option maxRecDepth 100000
set_option maxHeartbeats 40000000
noncomputable section
open Tryz Go.RowKit Go.Proofs
attribute [local irreducible] lt
def OG(fu:Nat)(p0 d1:DS):Nat→((List aQ)×(List aI)×(List aJ)×(List aL)×DS)→Option (LR ((List aQ)×(List aI)×(List aJ)×(List aL)×DS) (aK×DS)):=fun i3 (v9,v10,v11,v12,v4)=>lt (v4.after 4) fun d15=>sw (decide ((v4.below 4:Int)=0)) (bd (CC fu d15) fun(x19,x20)=>gd ((v9).length+(([x19]:List aQ)).length≤68719476736) (some (.next ((v9++([x19]:List aQ)),v10,v11,v12,x20)))) (sw (decide ((v4.below 4:Int)=1)) (bd (vW fu d15) fun(x24,x25)=>gd ((v10).length+(([x24]:List aI)).length≤68719476736) (some (.next (v9,(v10++([x24]:List aI)),v11,v12,x25)))) (sw (decide ((v4.below 4:Int)=2)) (bd (vX fu d15) fun(x29,x30)=>gd ((v11).length+(([x29]:List aJ)).length≤68719476736) (some (.next (v9,v10,(v11++([x29]:List aJ)),v12,x30)))) (bd (OE fu d15) fun(x33,x34)=>gd ((v12).length+(([x33]:List aL)).length≤68719476736) (some (.next (v9,v10,v11,(v12++([x33]:List aL)),x34))))))
def yX(fu:Nat)(p0:DS):Option (aK×DS):=lt (p0.after 5) fun d1=>so (loopN (OG fu p0 d1) (p0.below 5-0) 0 (([]),([]),([]),([]),d1)) fun(v9,v10,v11,v12,v4)=>lt (v4.after 10) fun d36=>sw (decide ((v4.below 10:Int)=0)) (lt (d36.after ([s_,e9]:LB).length) fun d39=>lt (d36.pick ([s_,e9]:LB)) fun y41=>some ((aK.mk y41 ([e9]:LB) v9 v10 v11 v12),d39)) (sw (decide ((v4.below 10:Int)=1)) (lt (d36.after ([e9,s_q,XK]:LB).length) fun d44=>lt (d36.pick ([e9,s_q,XK]:LB)) fun y46=>gd ((([e9]:LB)).length+(([y46]:LB)).length≤68719476736) (some ((aK.mk XK (([e9]:LB)++([y46]:LB)) v9 v10 v11 v12),d44))) (some ((aK.mk XK ([e9]:LB) v9 v10 v11 v12),d36)))
theorem ZM(fu:Nat)(p0:DS)(r:aK×DS)(H:yX fu p0=some r):cJ Tryz.prog 127 [.ptr 0 0] ⟨[some ⟨133,dC p0⟩],[]⟩ (fun q t=>q=((aK.pv r.1))∧t=⟨[some ⟨133,dC r.2⟩],[]⟩):=by
 refine qJ func127 H (fun C hC H=>?_)
 refine gQ 6 ?_;refine q1 (rX ([e9]:LB)) ?_;refine gQ 7 ?_;refine fI H fun d1 h2 H=>(q1 (eW [0] [] func73 (AU h2 (eT p0 5))) ?_)
 refine gQ 7 ?_;refine cF.wk (Wk.regBox (k:=2) (j:=2) 156 5 (by decide) rfl rfl) (cF.wk (Wk.regBox (k:=2) (j:=3) 39 3 (by decide) rfl rfl) (cF.wk (Wk.regBox (k:=2) (j:=4) 163 12 (by decide) rfl rfl) (cF.wk (Wk.regBox (k:=2) (j:=5) 213 16 (by decide) rfl rfl) ?_)))
 have hb13:=DS.below_lt (d:=p0) (n:=5) (by decide)
 refine bM (σ:=(List aQ)×(List aI)×(List aJ)×(List aL)×DS) (fun i3 (v9,v10,v11,v12,v4)=>⟨[(0,.ptr 0 0),(2,.ptr 1 0),(3,.ptr 2 0),(4,pN (p0.below 5)),(5,pN i3)],⟨[some ⟨133,dC v4⟩,some ⟨141,[pS s_,.nil,.nil,.nil,.nil,.nil]⟩,some ⟨141,[pS XK,.lit 1 (aW (([e9]:LB))),vF v9 0,lA v10 1,lC v11 2,lB v12 3]⟩],[⟨156,5,aQ.trs (v9),false⟩,⟨39,3,aI.trs (v10),false⟩,⟨163,12,aJ.trs (v11),false⟩,⟨213,16,aL.trs (v12),false⟩]⟩⟩) (fun(v9,v10,v11,v12,v4)=>⟨[(0,.ptr 0 0),(2,.ptr 1 0),(3,.ptr 2 0)],⟨[some ⟨133,dC v4⟩,some ⟨141,[pS s_,.nil,.nil,.nil,.nil,.nil]⟩,some ⟨141,[pS XK,.lit 1 (aW (([e9]:LB))),vF v9 0,lA v10 1,lC v11 2,lB v12 3]⟩],[⟨156,5,aQ.trs (v9),false⟩,⟨39,3,aI.trs (v10),false⟩,⟨163,12,aJ.trs (v11),false⟩,⟨213,16,aL.trs (v12),false⟩]⟩⟩) (eR H) ?_ ?_
 ·rintro i3 ⟨v9,v10,v11,v12,v4⟩ H
  refine gQ 7 ?_;refine cW H (fun h14 h14l H=>?_) (fun h14 H=>?_)
  ·have h14n:i3<p0.below 5:=by have:=of_decide_eq_true h14;omega
   refine gQ 6 ?_;refine fI H fun d15 h16 H=>(q1 (eW [0] [] func73 (AU h16 (eT v4 4))) ?_)
   refine gQ 7 ?_;refine a7 H (fun h17 H=>?_) (fun h17 H=>?_)
   ·refine eY H fun x19 x20 z18 H=>(cQ H fun z21 H=>(dW (dI [3] bS (dB [26] 0 1 t7 (dI [0] bG (dE [28] (eW [0] [] func163 (TK fu d15 _ z18)) (dI [29] (rX ([x19]:List aQ)) (dE [27,30] (jS z21) (dI [3] bS (kS [32,31] jP (dN ?_)))))))))))
    exact gE 5
   refine gQ 5 ?_;refine a7 H (fun h22 H=>?_) (fun h22 H=>?_)
   ·refine eY H fun x24 x25 z23 H=>(cQ H fun z26 H=>(dW (dI [3] bS (dB [35] 0 1 t7 (dI [0] bG (dE [37] (eW [0] [] func164 (WT fu d15 _ z23)) (dI [38] (rX ([x24]:List aI)) (dE [36,39] (jS z26) (dI [3] bS (kS [41,40] jP (dN ?_)))))))))))
    exact gE 5
   refine gQ 5 ?_;refine a7 H (fun h27 H=>?_) (fun h27 H=>?_)
   ·refine eY H fun x29 x30 z28 H=>(cQ H fun z31 H=>(dW (dI [3] bS (dB [44] 0 1 t7 (dI [0] bG (dE [46] (eW [0] [] func165 (WU fu d15 _ z28)) (dI [47] (rX ([x29]:List aJ)) (dE [45,48] (jS z31) (dI [3] bS (kS [50,49] jP (dN ?_)))))))))))
    exact gE 5
   refine eY H fun x33 x34 z32 H=>(cQ H fun z35 H=>(dW (dI [3] bS (dB [17] 0 1 t7 (dI [0] bG (dE [19] (eW [0] [] func166 (acB fu d15 _ z32)) (dI [20] (rX ([x33]:List aL)) (dE [18,21] (jS z35) (dI [3] bS (kS [23,22] jP (dN ?_)))))))))))
   exact gE 5
  exact gE 0
 rintro⟨v9,v10,v11,v12,v4⟩ H
 refine gQ 4 ?_;refine fI H fun d36 h37 H=>(q1 (eW [0] [] func73 (AU h37 (eT v4 10))) ?_)
 refine gQ 7 ?_;refine a7 H (fun h38 H=>?_) (fun h38 H=>?_)
 ·refine gQ 2 ?_;refine q1 (rX ([s_,e9]:LB)) (fI H fun d39 h40 H=>(fI H fun y41 h42 H=>(q1 (eW [0] [] func48 (DY h40 h42 (eA d36 ([s_,e9]:LB) (by decide)))) ?_)))
  refine gQ 5 ?_;refine q1 (cK [pS y41,.lit 1 (aW (([e9]:LB))),vF v9 0,lA v10 1,lC v11 2,lB v12 3]) ?_;exact gE 2
 refine gQ 5 ?_;refine a7 H (fun h43 H=>?_) (fun h43 H=>?_)
 ·refine fI H fun d44 h45 H=>(fI H fun y46 h47 H=>(cQ H fun z48 H=>(dW (dI [3] bS (dB [61] 0 1 t7 (dI [0] bG (dI [] (rX ([e9,s_q,XK]:LB)) (dE [63,64] (eW [0] [] func48 (DY h45 h47 (eA d36 ([e9,s_q,XK]:LB) (by decide)))) (dI [65] (rX ([y46]:LB)) ?_)))))))))
  refine dI [62,66] (a5.appendLit (es1:=aW (([e9]:LB))) (es2:=aW (([y46]:LB))) (es3:=aW (([e9]:LB)++([y46]:LB))) rfl rfl rfl rfl rfl (nH _) (nH _) (by exact List.cons_ne_nil _ _) (by decide) X6.h afH.h (by decide) (by rw [bI,bI];exact wS z48 (by decide)) (s4 _ _)) ?_;refine dI [3] bS (kS [68,67] jP (dN ?_))
  refine gQ 2 ?_;refine q1 (cK [pS XK,rS (([e9]:LB)++([y46]:LB)),vF v9 0,lA v10 1,lC v11 2,lB v12 3]) ?_;exact gE 2
 refine gQ 3 ?_;refine q1 (cK [pS XK,.lit 1 (aW (([e9]:LB))),vF v9 0,lA v10 1,lC v11 2,lB v12 3]) ?_;exact gE 2
def tH(fu:Nat)(pc:DS):Option (aF×DS):=bd (AF fu pc) fun(x2,x3)=>lt (x3.after 5) fun d4=>sw (decide (x3.below 5=0)) (bd (yX fu d4) fun(x8,x9)=>gd ((x2.asE).length+(([x8]:List aK)).length≤68719476736) (some ((aF.mk (x2.asE++([x8]:List aK))),x9))) (some ((aF.mk x2.asE),d4))
theorem TV(fu:Nat)(pc:DS)(r:aF×DS)(H:tH fu pc=some r):cJ Tryz.prog 69 [.ptr 0 0] ⟨[some ⟨133,dC pc⟩],[]⟩ (fun q t=>q=((aF.pv r.1))∧t=⟨[some ⟨133,dC r.2⟩],[]⟩):=by
 refine qJ func69 H (fun C hC H=>?_)
 refine gQ 7 ?_;refine eY H fun x2 x3 z1 H=>(q1 (a5.callOwn (pre:=⟨[some ⟨133,dC pc⟩],[]⟩) (B:= [some ⟨133,dC x3⟩]) (R:=fun k=> .agg [n4 x2.asE k]) (ps:= [_]) (qs:= [.ptr 0 0]) [0] rfl rfl func126 (by kernel_rfl) rfl rfl rfl (eX.of ⟨⟨_,rfl,rfl,jH,rfl⟩,trivial⟩ trivial (by decide) (by decide)) rfl jH rfl rfl rfl (fun k k'=>(.agg (.cons Mv.acc AT.nil))) (WY fu pc _ z1)) ?_)
 refine gQ 7 ?_;refine fI H fun d4 h5 H=>(q1 (eW [0] [] func45 (AU h5 (k9 x3 5))) (qN ?_))
 refine a7 H (fun h6 H=>?_) (fun h6 H=>?_)
 ·refine eY H fun x8 x9 z7 H=>(cQ H fun z10 H=>(dW (dI [3] bS (dB [8] 0 1 t7 (dI [0] bG (dE [10] (eW [0] [] func127 (ZM fu d4 _ z7)) (dI [11] (gC ([x8]:List aK)) (dE [9,12] (jS z10) (dI [3] bS (kS [14,13] jP (dN ?_)))))))))))
  refine gQ 2 ?_;refine q1 (cK [n4 (x2.asE++([x8]:List aK)) 0]) ?_;exact gE 2
 refine gQ 3 ?_;refine q1 (cK [n4 x2.asE 0]) ?_;exact gE 2
end
end Go.Proofs.YtfcoaagbccmahaaGreat.W

namespace Go.Proofs.YtfcoaagbccmahaaGreat.W
set_option maxRecDepth 100000
set_option maxHeartbeats 40000000
noncomputable section
open Tryz Go.RowKit Go.Proofs
attribute [local irreducible] lt
def JA(fu:Nat)(pw:aF)(i1:Nat)(v3:List aO)(y6:aK):Nat→((List aO))→Option (LR ((List aO)) (LR ((List aO)) ((List aO)))):=fun i9 v11=>gd ((v11).length+(([(aO.mk (i1:Int) (i9:Int))]:List aO)).length≤68719476736) (some (.next (v11++([(aO.mk (i1:Int) (i9:Int))]:List aO))))
def I9(fu:Nat)(pw:aF):Nat→((List aO))→Option (LR ((List aO)) ((List aO))):=fun i1 v3=>lt (aP pw.asE i1) fun y6=>so (loopN (JA fu pw i1 v3 y6) (y6.asS.length-0) 0 v3) fun v11=>some (.next v11)
def LP(fu:Nat)(pw:aF):Option ((List aO)):=so (loopN (I9 fu pw) (pw.asE.length-0) 0 ([])) fun v3=>some v3
theorem abP(fu:Nat)(pw:aF)(r:(List aO))(H:LP fu pw=some r):bP Tryz.prog 180 [(aF.pv pw)] (SX r):=by
 refine qJ func180 H (fun C hC H=>?_)
 refine gQ 2 ?_;refine q1 (iR ([aU pw.asE])) ?_;refine gQ 4 ?_;refine q1 (n0 ([]:List aO)) ?_;refine gQ 10 ?_;refine iG 9 (aK.trs_len _) (fun hl4=>?_)
 refine bM (σ:=(List aO)) (fun i1 v3=>⟨[(2,.nil),(3,uI v3 0),(9,aU pw.asE),(10,pN pw.asE.length),(11,pN i1)],⟨[some ⟨26,[aU pw.asE]⟩],[⟨52,2,aO.trs (v3),false⟩]⟩⟩) (fun v3=>⟨[(2,.nil),(3,uI v3 0)],⟨[some ⟨26,[aU pw.asE]⟩],[⟨52,2,aO.trs (v3),false⟩]⟩⟩) (eR H) ?_ ?_
 ·rintro i1 v3 H
  refine gQ 5 ?_;refine cW H (fun h5 h5l H=>?_) (fun h5 H=>?_)
  ·refine gQ 6 ?_;refine fI H fun y6 h7 H=>(q1 (uG h7 h5l) (q1 (jB (aK.cs y6)) ?_))
   refine gQ 8 ?_;refine SR 17 (aJ.trs_len _) (fun hl8=>?_)
   refine gQ 3 ?_;refine bM (σ:=(List aO)) (fun i9 v11=>⟨[(2,.nil),(3,uI v11 0),(4,pN i1),(5,.ptr 1 0),(9,aU pw.asE),(10,pN pw.asE.length),(11,pN i1),(12,pB (decide ((i1:Int)<(pw.asE.length:Int)))),(13,pN i1),(14,.eptr (aK.cs y6)),(15,(aK.pv y6)),(16,.ptr 1 4),(17,u0 y6.asS),(18,pN y6.asS.length),(19,pN i9)],⟨[some ⟨26,[aU pw.asE]⟩,some ⟨141,eI y6⟩],[⟨52,2,aO.trs (v11),false⟩]⟩⟩) (fun v11=>⟨[(2,.nil),(3,uI v11 0),(4,pN i1),(5,.ptr 1 0),(9,aU pw.asE),(10,pN pw.asE.length),(11,pN i1),(12,pB (decide ((i1:Int)<(pw.asE.length:Int)))),(13,pN i1),(14,.eptr (aK.cs y6)),(15,(aK.pv y6)),(16,.ptr 1 4),(17,u0 y6.asS),(18,pN y6.asS.length)],⟨[some ⟨26,[aU pw.asE]⟩,some ⟨141,eI y6⟩],[⟨52,2,aO.trs (v11),false⟩]⟩⟩) (eR H) ?_ ?_
   ·rintro i9 v11 H
    refine gQ 5 ?_;refine cW H (fun h12 h12l H=>?_) (fun h12 H=>?_)
    ·refine gQ 13 ?_;refine q1 (gC ([(aO.mk (i1:Int) (i9:Int))]:List aO)) (cQ H fun z13 H=>(q1 (jS z13) ?_))
     exact gE 6
    exact gE 0
   rintro v11 H
   exact gE 4
  exact gE 0
 rintro v3 H
 exact gE 5
def YK(fu:Nat)(p1:List UInt8):Option Bool:=some (decide ((p1.length:Int)>1048576))
theorem aeX(fu:Nat)(p1:List UInt8)(r:Bool)(H:YK fu p1=some r):bP Tryz.prog 9 [rU p1] (pB r):=by
 refine qJ func9 H (fun C hC H=>?_)
 exact gE 11
def JD(fu:Nat)(pw:aF)(p0:ByteArray)(i1:Nat)(y4:aK):Nat→Unit→Option (LR Unit (LR Unit (aQ×Int×Bool))):=fun i7 _=>sw (decide ((aP y4.asQ i7).asD=p0)) (some (.ret (.ret ((aP y4.asQ i7),(i1:Int),true)))) (some (.next ()))
def JC(fu:Nat)(pw:aF)(p0:ByteArray):Nat→Unit→Option (LR Unit (aQ×Int×Bool)):=fun i1 _=>lt (aP pw.asE i1) fun y4=>so (loopN (JD fu pw p0 i1 y4) (y4.asQ.length-0) 0 ()) fun _=>some (.next ())
def BN(fu:Nat)(pw:aF)(p0:ByteArray):Option (aQ×Int×Bool):=so (loopN (JC fu pw p0) (pw.asE.length-0) 0 ()) fun _=>some ((aQ.mk s_ [] false false []),0,false)
theorem Q8(fu:Nat)(pw:aF)(p0:ByteArray)(r:aQ×Int×Bool)(H:BN fu pw p0=some r):bP Tryz.prog 115 [(aF.pv pw),pS p0] (.tup [(aQ.pv r.1),pI r.2.1,pB r.2.2]):=by
 refine qJ func115 H (fun C hC H=>?_)
 refine gQ 2 ?_;refine q1 (iR ([aU pw.asE])) ?_;refine gQ 12 ?_;refine iG 12 (aK.trs_len _) (fun hl2=>?_)
 refine bM (σ:=Unit) (fun i1 _=>⟨[(1,pS p0),(4,.ptr 1 0),(5,pI 0),(6,pB false),(12,aU pw.asE),(13,pN pw.asE.length),(14,pN i1)],⟨[some ⟨26,[aU pw.asE]⟩,some ⟨156,[pS s_,.nil,pB false,pB false,.nil]⟩],[]⟩⟩) (fun _=>⟨[(4,.ptr 1 0),(5,pI 0),(6,pB false)],⟨[some ⟨26,[aU pw.asE]⟩,some ⟨156,[pS s_,.nil,pB false,pB false,.nil]⟩],[]⟩⟩) (eR H) ?_ ?_
 ·rintro i1 ⟨⟩ H
  refine gQ 5 ?_;refine cW H (fun h3 h3l H=>?_) (fun h3 H=>?_)
  ·refine gQ 6 ?_;refine fI H fun y4 h5 H=>(q1 (uG h5 h3l) (q1 (jB (aK.cs y4)) ?_))
   refine gQ 8 ?_;refine SR 20 (aQ.trs_len _) (fun hl6=>?_)
   refine gQ 3 ?_;refine bM (σ:=Unit) (fun i7 _=>⟨[(1,pS p0),(4,.ptr 1 0),(5,pI 0),(6,pB false),(7,pN i1),(8,.ptr 2 0),(12,aU pw.asE),(13,pN pw.asE.length),(14,pN i1),(15,pB (decide ((i1:Int)<(pw.asE.length:Int)))),(16,pN i1),(17,.eptr (aK.cs y4)),(18,(aK.pv y4)),(19,.ptr 2 2),(20,JT y4.asQ),(21,pN y4.asQ.length),(22,pN i7)],⟨[some ⟨26,[aU pw.asE]⟩,some ⟨156,[pS s_,.nil,pB false,pB false,.nil]⟩,some ⟨141,eI y4⟩],[]⟩⟩) (fun _=>⟨[(1,pS p0),(4,.ptr 1 0),(5,pI 0),(6,pB false),(7,pN i1),(8,.ptr 2 0),(12,aU pw.asE),(13,pN pw.asE.length),(14,pN i1),(15,pB (decide ((i1:Int)<(pw.asE.length:Int)))),(16,pN i1),(17,.eptr (aK.cs y4)),(18,(aK.pv y4)),(19,.ptr 2 2),(20,JT y4.asQ),(21,pN y4.asQ.length)],⟨[some ⟨26,[aU pw.asE]⟩,some ⟨156,[pS s_,.nil,pB false,pB false,.nil]⟩,some ⟨141,eI y4⟩],[]⟩⟩) (eR H) ?_ ?_
   ·rintro i7 ⟨⟩ H
    refine gQ 5 ?_;refine cW H (fun h8 h8l H=>?_) (fun h8 H=>?_)
    ·refine gQ 6 ?_;refine q1 (jB (aQ.cs (aP y4.asQ i7))) ?_;refine gQ 10 ?_;refine a7 H (fun h9 H=>?_) (fun h9 H=>?_)
     ·refine gQ 2 ?_;refine q1 (cK [pS ((aP y4.asQ i7).asD),rS ((aP y4.asQ i7).asO),pB ((aP y4.asQ i7).atF),pB ((aP y4.asQ i7).asW),iS ((aP y4.asQ i7).asX)]) ?_;refine gQ 5 ?_;refine cF.ret ?_
      obtain rfl:_=r:=(YL (skL (YL (xQ H))):)
      exact qf3
     exact gE 5
    exact gE 0
   rintro⟨⟩ H
   exact gE 4
  exact gE 0
 rintro⟨⟩ H
 exact gE 7
def ND(fu:Nat)(pw:aF)(p0:ByteArray)(i1:Nat)(y4:aK):Nat→Unit→Option (LR Unit (LR Unit (aI×Int×Bool))):=fun i7 _=>sw (decide ((aP y4.asL i7).asD=p0)) (some (.ret (.ret ((aP y4.asL i7),(i1:Int),true)))) (some (.next ()))
def NB(fu:Nat)(pw:aF)(p0:ByteArray):Nat→Unit→Option (LR Unit (aI×Int×Bool)):=fun i1 _=>lt (aP pw.asE i1) fun y4=>so (loopN (ND fu pw p0 i1 y4) (y4.asL.length-0) 0 ()) fun _=>some (.next ())
def MG(fu:Nat)(pw:aF)(p0:ByteArray):Option (aI×Int×Bool):=so (loopN (NB fu pw p0) (pw.asE.length-0) 0 ()) fun _=>some ((aI.mk s_ [] []),0,false)
theorem adJ(fu:Nat)(pw:aF)(p0:ByteArray)(r:aI×Int×Bool)(H:MG fu pw p0=some r):bP Tryz.prog 102 [(aF.pv pw),pS p0] (.tup [(aI.pv r.1),pI r.2.1,pB r.2.2]):=by
 refine qJ func102 H (fun C hC H=>?_)
 refine gQ 2 ?_;refine q1 (iR ([aU pw.asE])) ?_;refine gQ 12 ?_;refine iG 12 (aK.trs_len _) (fun hl2=>?_)
 refine bM (σ:=Unit) (fun i1 _=>⟨[(1,pS p0),(4,.ptr 1 0),(5,pI 0),(6,pB false),(12,aU pw.asE),(13,pN pw.asE.length),(14,pN i1)],⟨[some ⟨26,[aU pw.asE]⟩,some ⟨39,[pS s_,.nil,.nil]⟩],[]⟩⟩) (fun _=>⟨[(4,.ptr 1 0),(5,pI 0),(6,pB false)],⟨[some ⟨26,[aU pw.asE]⟩,some ⟨39,[pS s_,.nil,.nil]⟩],[]⟩⟩) (eR H) ?_ ?_
 ·rintro i1 ⟨⟩ H
  refine gQ 5 ?_;refine cW H (fun h3 h3l H=>?_) (fun h3 H=>?_)
  ·refine gQ 6 ?_;refine fI H fun y4 h5 H=>(q1 (uG h5 h3l) (q1 (jB (aK.cs y4)) ?_))
   refine gQ 8 ?_;refine SR 20 (aI.trs_len _) (fun hl6=>?_)
   refine gQ 3 ?_;refine bM (σ:=Unit) (fun i7 _=>⟨[(1,pS p0),(4,.ptr 1 0),(5,pI 0),(6,pB false),(7,pN i1),(8,.ptr 2 0),(12,aU pw.asE),(13,pN pw.asE.length),(14,pN i1),(15,pB (decide ((i1:Int)<(pw.asE.length:Int)))),(16,pN i1),(17,.eptr (aK.cs y4)),(18,(aK.pv y4)),(19,.ptr 2 3),(20,mG y4.asL),(21,pN y4.asL.length),(22,pN i7)],⟨[some ⟨26,[aU pw.asE]⟩,some ⟨39,[pS s_,.nil,.nil]⟩,some ⟨141,eI y4⟩],[]⟩⟩) (fun _=>⟨[(1,pS p0),(4,.ptr 1 0),(5,pI 0),(6,pB false),(7,pN i1),(8,.ptr 2 0),(12,aU pw.asE),(13,pN pw.asE.length),(14,pN i1),(15,pB (decide ((i1:Int)<(pw.asE.length:Int)))),(16,pN i1),(17,.eptr (aK.cs y4)),(18,(aK.pv y4)),(19,.ptr 2 3),(20,mG y4.asL),(21,pN y4.asL.length)],⟨[some ⟨26,[aU pw.asE]⟩,some ⟨39,[pS s_,.nil,.nil]⟩,some ⟨141,eI y4⟩],[]⟩⟩) (eR H) ?_ ?_
   ·rintro i7 ⟨⟩ H
    refine gQ 5 ?_;refine cW H (fun h8 h8l H=>?_) (fun h8 H=>?_)
    ·refine gQ 6 ?_;refine q1 (jB (aI.cs (aP y4.asL i7))) ?_;refine gQ 10 ?_;refine a7 H (fun h9 H=>?_) (fun h9 H=>?_)
     ·refine gQ 2 ?_;refine q1 (cK [pS ((aP y4.asL i7).asD),rS ((aP y4.asL i7).asP),cB ((aP y4.asL i7).asI)]) ?_;refine gQ 5 ?_;refine cF.ret ?_
      obtain rfl:_=r:=(YL (skL (YL (xQ H))):)
      exact qf3
     exact gE 5
    exact gE 0
   rintro⟨⟩ H
   exact gE 4
  exact gE 0
 rintro⟨⟩ H
 exact gE 7
def rO(fu:Nat)(pw:aF)(p0:ByteArray)(i1:Nat):Int→Option (LR Int (LR Unit (aQ×Int×Bool))):=fun v4=>lt (aP pw.asE i1) fun y6=>sw (decide (v4<(y6.asQ.length:Int))) (gd (0≤v4∧(v4).toNat<(y6.asQ).length) (sw (decide ((aP y6.asQ ((v4).toNat)).asD=p0)) (some (.ret (.ret ((aP y6.asQ ((v4).toNat)),(i1:Int),true)))) (some (.next (v4+1))))) (some (.brk v4))
def vY(fu:Nat)(pw:aF)(p0:ByteArray):Nat→Unit→Option (LR Unit (aQ×Int×Bool)):=fun i1 _=>so (loopW (rO fu pw p0 i1) fu 0) fun v4=>some (.next ())
def oA(fu:Nat)(pw:aF)(p0:ByteArray):Option (aQ×Int×Bool):=so (loopN (vY fu pw p0) (pw.asE.length-0) 0 ()) fun _=>some ((aQ.mk s_ [] false false []),0,false)
theorem CF(fu:Nat)(pw:aF)(p0:ByteArray)(r:aQ×Int×Bool)(H:oA fu pw p0=some r):bP Tryz.prog 121 [(aF.pv pw),pS p0] (.tup [(aQ.pv r.1),pI r.2.1,pB r.2.2]):=by
 refine qJ func121 H (fun C hC H=>?_)
 refine gQ 2 ?_;refine q1 (iR ([aU pw.asE])) ?_;refine gQ 9 ?_;refine cF.fact (b6 0 0 rfl rfl rfl (aK.trs_len _)) (fun hl2=>?_)
 refine bM (σ:=Unit) (fun i1 _=>⟨[(1,pS p0),(2,.ptr 0 0),(4,.ptr 1 0),(5,pI 0),(6,pB false),(7,pN i1)],⟨[some ⟨26,[aU pw.asE]⟩,some ⟨156,[pS s_,.nil,pB false,pB false,.nil]⟩],[]⟩⟩) (fun _=>⟨[(4,.ptr 1 0),(5,pI 0),(6,pB false)],⟨[some ⟨26,[aU pw.asE]⟩,some ⟨156,[pS s_,.nil,pB false,pB false,.nil]⟩],[]⟩⟩) (eR H) ?_ ?_
 ·rintro i1 ⟨⟩ H
  refine gQ 9 ?_;refine cW H (fun h3 h3l H=>?_) (fun h3 H=>?_)
  ·refine gQ 7 ?_;refine NN (σ:=Int) (fun v4=>⟨[(1,pS p0),(2,.ptr 0 0),(4,.ptr 1 0),(5,pI 0),(6,pB false),(7,pN i1),(8,pI v4),(9,pN i1),(10,.ptr 0 0),(11,aU pw.asE),(12,pN pw.asE.length),(13,pB (decide ((i1:Int)<(pw.asE.length:Int))))],⟨[some ⟨26,[aU pw.asE]⟩,some ⟨156,[pS s_,.nil,pB false,pB false,.nil]⟩],[]⟩⟩) (fun v4=>⟨[(1,pS p0),(2,.ptr 0 0),(4,.ptr 1 0),(5,pI 0),(6,pB false),(7,pN i1),(8,pI v4),(9,pN i1),(10,.ptr 0 0),(11,aU pw.asE),(12,pN pw.asE.length),(13,pB (decide ((i1:Int)<(pw.asE.length:Int))))],⟨[some ⟨26,[aU pw.asE]⟩,some ⟨156,[pS s_,.nil,pB false,pB false,.nil]⟩],[]⟩⟩) (eR H) ?_ ?_
   ·rintro k5 v4 H
    refine gQ 7 ?_;refine fI H fun y6 h7 H=>(q1 (uG h7 h3l) ?_)
    refine gQ 2 ?_;refine SR 22 (aQ.trs_len _) (fun hl8=>?_)
    refine gQ 3 ?_;refine a7 H (fun h9 H=>?_) (fun h9 H=>?_)
    ·refine gQ 8 ?_;refine q1 (uG h7 h3l) ?_;refine gQ 3 ?_;refine cQ H fun z10 H=>(q1 (rIy z10 afN.h) ?_)
     refine gQ 5 ?_;refine a7 H (fun h11 H=>?_) (fun h11 H=>?_)
     ·refine gQ 5 ?_;refine q1 (uG h7 h3l) ?_;refine gQ 3 ?_;refine q1 (rIy z10 afN.h) (q1 (jB (aQ.cs (aP y6.asQ ((v4).toNat)))) ?_)
      refine gQ 5 ?_;refine cF.ret ?_
      obtain rfl:_=r:=(YL (skL (lwR (xQ H))):)
      exact qf3
     refine gQ 3 ?_;refine q1 (a5.addI rfl rfl rfl rfl (c:=v4+1) (by omega) (by omega)) ?_;exact gE 2
    exact gE 0
   rintro v4 H
   exact gE 5
  exact gE 0
 rintro⟨⟩ H
 exact gE 7
def s3(fu:Nat)(pw:aF)(p0:ByteArray)(i1:Nat):Int→Option (LR Int (LR Unit (aI×Int×Bool))):=fun v4=>lt (aP pw.asE i1) fun y6=>sw (decide (v4<(y6.asL.length:Int))) (gd (0≤v4∧(v4).toNat<(y6.asL).length) (sw (decide ((aP y6.asL ((v4).toNat)).asD=p0)) (some (.ret (.ret ((aP y6.asL ((v4).toNat)),(i1:Int),true)))) (some (.next (v4+1))))) (some (.brk v4))
def xO(fu:Nat)(pw:aF)(p0:ByteArray):Nat→Unit→Option (LR Unit (aI×Int×Bool)):=fun i1 _=>so (loopW (s3 fu pw p0 i1) fu 0) fun v4=>some (.next ())
def rN(fu:Nat)(pw:aF)(p0:ByteArray):Option (aI×Int×Bool):=so (loopN (xO fu pw p0) (pw.asE.length-0) 0 ()) fun _=>some ((aI.mk s_ [] []),0,false)
theorem ES(fu:Nat)(pw:aF)(p0:ByteArray)(r:aI×Int×Bool)(H:rN fu pw p0=some r):bP Tryz.prog 53 [(aF.pv pw),pS p0] (.tup [(aI.pv r.1),pI r.2.1,pB r.2.2]):=by
 refine qJ func53 H (fun C hC H=>?_)
 refine gQ 2 ?_;refine q1 (iR ([aU pw.asE])) ?_;refine gQ 9 ?_;refine cF.fact (b6 0 0 rfl rfl rfl (aK.trs_len _)) (fun hl2=>?_)
 refine bM (σ:=Unit) (fun i1 _=>⟨[(1,pS p0),(2,.ptr 0 0),(4,.ptr 1 0),(5,pI 0),(6,pB false),(7,pN i1)],⟨[some ⟨26,[aU pw.asE]⟩,some ⟨39,[pS s_,.nil,.nil]⟩],[]⟩⟩) (fun _=>⟨[(4,.ptr 1 0),(5,pI 0),(6,pB false)],⟨[some ⟨26,[aU pw.asE]⟩,some ⟨39,[pS s_,.nil,.nil]⟩],[]⟩⟩) (eR H) ?_ ?_
 ·rintro i1 ⟨⟩ H
  refine gQ 9 ?_;refine cW H (fun h3 h3l H=>?_) (fun h3 H=>?_)
  ·refine gQ 7 ?_;refine NN (σ:=Int) (fun v4=>⟨[(1,pS p0),(2,.ptr 0 0),(4,.ptr 1 0),(5,pI 0),(6,pB false),(7,pN i1),(8,pI v4),(9,pN i1),(10,.ptr 0 0),(11,aU pw.asE),(12,pN pw.asE.length),(13,pB (decide ((i1:Int)<(pw.asE.length:Int))))],⟨[some ⟨26,[aU pw.asE]⟩,some ⟨39,[pS s_,.nil,.nil]⟩],[]⟩⟩) (fun v4=>⟨[(1,pS p0),(2,.ptr 0 0),(4,.ptr 1 0),(5,pI 0),(6,pB false),(7,pN i1),(8,pI v4),(9,pN i1),(10,.ptr 0 0),(11,aU pw.asE),(12,pN pw.asE.length),(13,pB (decide ((i1:Int)<(pw.asE.length:Int))))],⟨[some ⟨26,[aU pw.asE]⟩,some ⟨39,[pS s_,.nil,.nil]⟩],[]⟩⟩) (eR H) ?_ ?_
   ·rintro k5 v4 H
    refine gQ 7 ?_;refine fI H fun y6 h7 H=>(q1 (uG h7 h3l) ?_)
    refine gQ 2 ?_;refine SR 22 (aI.trs_len _) (fun hl8=>?_)
    refine gQ 3 ?_;refine a7 H (fun h9 H=>?_) (fun h9 H=>?_)
    ·refine gQ 8 ?_;refine q1 (uG h7 h3l) ?_;refine gQ 3 ?_;refine cQ H fun z10 H=>(q1 (rIy z10 afO.h) ?_)
     refine gQ 5 ?_;refine a7 H (fun h11 H=>?_) (fun h11 H=>?_)
     ·refine gQ 5 ?_;refine q1 (uG h7 h3l) ?_;refine gQ 3 ?_;refine q1 (rIy z10 afO.h) (q1 (jB (aI.cs (aP y6.asL ((v4).toNat)))) ?_)
      refine gQ 5 ?_;refine cF.ret ?_
      obtain rfl:_=r:=(YL (skL (lwR (xQ H))):)
      exact qf3
     refine gQ 3 ?_;refine q1 (a5.addI rfl rfl rfl rfl (c:=v4+1) (by omega) (by omega)) ?_;exact gE 2
    exact gE 0
   rintro v4 H
   exact gE 5
  exact gE 0
 rintro⟨⟩ H
 exact gE 7
end
end Go.Proofs.YtfcoaagbccmahaaGreat.W

namespace Go.Proofs.YtfcoaagbccmahaaGreat
open Go.RowKit
theorem gJ: ∀(a b:List Tr),Tr.bulkL (a++b)=Tr.bulkL a+Tr.bulkL b
 | [],b=>by simp [Tr.bulkL]
 |t::a,b=>by simp [Tr.bulkL,gJ a b,Nat.add_assoc]
theorem afF:Tr.bulkAll (aW [])=0:=rfl
theorem aeE(a:ByteArray)(l:List ByteArray):Tr.bulkAll (aW (a::l))=a.size+Tr.bulkAll (aW l):=by simp [aW,Tr.bulkAll,Tr.bulkL,Tr.bulk]
theorem aA.bk_mk(v0:Int)(v1:ByteArray)(v2:List aA):Tr.bulkL (aA.tr (.mk v0 v1 v2))=v1.size+(v2.length+Tr.bulkAll (aA.trs v2)):=by
 simp only [aA.tr,gJ,Tr.bulkL,Tr.bulk,bI,fJ,eO,aA.trs_len]
 first|done|omega
theorem aA.bks_nil:Tr.bulkAll (aA.trs [])=0:=by simp [aA.trs_map,Tr.bulkAll]
theorem aA.bks_cons(a:aA)(l:List aA):Tr.bulkAll (aA.trs (a::l))=Tr.bulkL (aA.tr a)+Tr.bulkAll (aA.trs l):=by simp [aA.trs_map,Tr.bulkAll]
theorem aG.bk_mk(v0:Int)(v1:ByteArray)(v2:ByteArray)(v3:Int)(v4:aA)(v5:List aG)(v6:List bH):Tr.bulkL (aG.tr (.mk v0 v1 v2 v3 v4 v5 v6))=v1.size+v2.size+Tr.bulkL (aA.tr v4)+(v5.length+Tr.bulkAll (aG.trs v5))+(v6.length+Tr.bulkAll (bH.trs v6)):=by
 simp only [aG.tr,gJ,Tr.bulkL,Tr.bulk,bI,fJ,eO,aG.trs_len,bH.trs_len]
 first|done|omega
theorem aG.bks_nil:Tr.bulkAll (aG.trs [])=0:=by simp [aG.trs_map,Tr.bulkAll]
theorem aG.bks_cons(a:aG)(l:List aG):Tr.bulkAll (aG.trs (a::l))=Tr.bulkL (aG.tr a)+Tr.bulkAll (aG.trs l):=by simp [aG.trs_map,Tr.bulkAll]
theorem bH.bk_mk(v0:ByteArray)(v1:List ByteArray)(v2:aG):Tr.bulkL (bH.tr (.mk v0 v1 v2))=v0.size+(v1.length+Tr.bulkAll (aW v1))+Tr.bulkL (aG.tr v2):=by
 simp only [bH.tr,gJ,Tr.bulkL,Tr.bulk,bI,fJ,eO]
 first|done|omega
theorem bH.bks_nil:Tr.bulkAll (bH.trs [])=0:=by simp [bH.trs_map,Tr.bulkAll]
theorem bH.bks_cons(a:bH)(l:List bH):Tr.bulkAll (bH.trs (a::l))=Tr.bulkL (bH.tr a)+Tr.bulkAll (bH.trs l):=by simp [bH.trs_map,Tr.bulkAll]
theorem aE.bk_mk(v0:ByteArray)(v1:aA):Tr.bulkL (aE.tr (.mk v0 v1))=v0.size+Tr.bulkL (aA.tr v1):=by
 simp only [aE.tr,gJ,Tr.bulkL,Tr.bulk,bI,fJ,eO]
 first|done|omega
theorem aE.bks_nil:Tr.bulkAll (aE.trs [])=0:=by simp [aE.trs_map,Tr.bulkAll]
theorem aE.bks_cons(a:aE)(l:List aE):Tr.bulkAll (aE.trs (a::l))=Tr.bulkL (aE.tr a)+Tr.bulkAll (aE.trs l):=by simp [aE.trs_map,Tr.bulkAll]
theorem aR.bk_mk(v0:ByteArray)(v1:aA):Tr.bulkL (aR.tr (.mk v0 v1))=v0.size+Tr.bulkL (aA.tr v1):=by
 simp only [aR.tr,gJ,Tr.bulkL,Tr.bulk,bI,fJ,eO]
 first|done|omega
theorem aR.bks_nil:Tr.bulkAll (aR.trs [])=0:=by simp [aR.trs_map,Tr.bulkAll]
theorem aR.bks_cons(a:aR)(l:List aR):Tr.bulkAll (aR.trs (a::l))=Tr.bulkL (aR.tr a)+Tr.bulkAll (aR.trs l):=by simp [aR.trs_map,Tr.bulkAll]
theorem aM.bk_mk(v0:ByteArray)(v1:List ByteArray)(v2:aG):Tr.bulkL (aM.tr (.mk v0 v1 v2))=v0.size+(v1.length+Tr.bulkAll (aW v1))+Tr.bulkL (aG.tr v2):=by
 simp only [aM.tr,gJ,Tr.bulkL,Tr.bulk,bI,fJ,eO]
 first|done|omega
theorem aM.bks_nil:Tr.bulkAll (aM.trs [])=0:=by simp [aM.trs_map,Tr.bulkAll]
theorem aM.bks_cons(a:aM)(l:List aM):Tr.bulkAll (aM.trs (a::l))=Tr.bulkL (aM.tr a)+Tr.bulkAll (aM.trs l):=by simp [aM.trs_map,Tr.bulkAll]
theorem aC.bk_mk(v0:ByteArray)(v1:List aA):Tr.bulkL (aC.tr (.mk v0 v1))=v0.size+(v1.length+Tr.bulkAll (aA.trs v1)):=by
 simp only [aC.tr,gJ,Tr.bulkL,Tr.bulk,bI,fJ,eO,aA.trs_len]
 first|done|omega
theorem aC.bks_nil:Tr.bulkAll (aC.trs [])=0:=by simp [aC.trs_map,Tr.bulkAll]
theorem aC.bks_cons(a:aC)(l:List aC):Tr.bulkAll (aC.trs (a::l))=Tr.bulkL (aC.tr a)+Tr.bulkAll (aC.trs l):=by simp [aC.trs_map,Tr.bulkAll]
theorem aD.bk_mk(v0:ByteArray)(v1:List aA)(v2:aA)(v3:Bool)(v4:List ByteArray)(v5:aG):Tr.bulkL (aD.tr (.mk v0 v1 v2 v3 v4 v5))=v0.size+(v1.length+Tr.bulkAll (aA.trs v1))+Tr.bulkL (aA.tr v2)+(v4.length+Tr.bulkAll (aW v4))+Tr.bulkL (aG.tr v5):=by
 simp only [aD.tr,gJ,Tr.bulkL,Tr.bulk,bI,fJ,eO,aA.trs_len]
 first|done|omega
theorem aD.bks_nil:Tr.bulkAll (aD.trs [])=0:=by simp [aD.trs_map,Tr.bulkAll]
theorem aD.bks_cons(a:aD)(l:List aD):Tr.bulkAll (aD.trs (a::l))=Tr.bulkL (aD.tr a)+Tr.bulkAll (aD.trs l):=by simp [aD.trs_map,Tr.bulkAll]
theorem aQ.bk_mk(v0:ByteArray)(v1:List ByteArray)(v2:Bool)(v3:Bool)(v4:List aD):Tr.bulkL (aQ.tr (.mk v0 v1 v2 v3 v4))=v0.size+(v1.length+Tr.bulkAll (aW v1))+(v4.length+Tr.bulkAll (aD.trs v4)):=by
 simp only [aQ.tr,gJ,Tr.bulkL,Tr.bulk,bI,fJ,eO,aD.trs_len]
 first|done|omega
theorem aQ.bks_nil:Tr.bulkAll (aQ.trs [])=0:=by simp [aQ.trs_map,Tr.bulkAll]
theorem aQ.bks_cons(a:aQ)(l:List aQ):Tr.bulkAll (aQ.trs (a::l))=Tr.bulkL (aQ.tr a)+Tr.bulkAll (aQ.trs l):=by simp [aQ.trs_map,Tr.bulkAll]
theorem aI.bk_mk(v0:ByteArray)(v1:List ByteArray)(v2:List aC):Tr.bulkL (aI.tr (.mk v0 v1 v2))=v0.size+(v1.length+Tr.bulkAll (aW v1))+(v2.length+Tr.bulkAll (aC.trs v2)):=by
 simp only [aI.tr,gJ,Tr.bulkL,Tr.bulk,bI,fJ,eO,aC.trs_len]
 first|done|omega
theorem aI.bks_nil:Tr.bulkAll (aI.trs [])=0:=by simp [aI.trs_map,Tr.bulkAll]
theorem aI.bks_cons(a:aI)(l:List aI):Tr.bulkAll (aI.trs (a::l))=Tr.bulkL (aI.tr a)+Tr.bulkAll (aI.trs l):=by simp [aI.trs_map,Tr.bulkAll]
theorem aJ.bk_mk(v0:ByteArray)(v1:List ByteArray)(v2:aA)(v3:List aE)(v4:Bool)(v5:Bool)(v6:aA)(v7:List aM):Tr.bulkL (aJ.tr (.mk v0 v1 v2 v3 v4 v5 v6 v7))=v0.size+(v1.length+Tr.bulkAll (aW v1))+Tr.bulkL (aA.tr v2)+(v3.length+Tr.bulkAll (aE.trs v3))+Tr.bulkL (aA.tr v6)+(v7.length+Tr.bulkAll (aM.trs v7)):=by
 simp only [aJ.tr,gJ,Tr.bulkL,Tr.bulk,bI,fJ,eO,aE.trs_len,aM.trs_len]
 first|done|omega
theorem aJ.bks_nil:Tr.bulkAll (aJ.trs [])=0:=by simp [aJ.trs_map,Tr.bulkAll]
theorem aJ.bks_cons(a:aJ)(l:List aJ):Tr.bulkAll (aJ.trs (a::l))=Tr.bulkL (aJ.tr a)+Tr.bulkAll (aJ.trs l):=by simp [aJ.trs_map,Tr.bulkAll]
theorem aL.bk_mk(v0:ByteArray)(v1:List ByteArray)(v2:List aE)(v3:List aR)(v4:aA)(v5:aG):Tr.bulkL (aL.tr (.mk v0 v1 v2 v3 v4 v5))=v0.size+(v1.length+Tr.bulkAll (aW v1))+(v2.length+Tr.bulkAll (aE.trs v2))+(v3.length+Tr.bulkAll (aR.trs v3))+Tr.bulkL (aA.tr v4)+Tr.bulkL (aG.tr v5):=by
 simp only [aL.tr,gJ,Tr.bulkL,Tr.bulk,bI,fJ,eO,aE.trs_len,aR.trs_len]
 first|done|omega
theorem aL.bks_nil:Tr.bulkAll (aL.trs [])=0:=by simp [aL.trs_map,Tr.bulkAll]
theorem aL.bks_cons(a:aL)(l:List aL):Tr.bulkAll (aL.trs (a::l))=Tr.bulkL (aL.tr a)+Tr.bulkAll (aL.trs l):=by simp [aL.trs_map,Tr.bulkAll]
theorem aK.bk_mk(v0:ByteArray)(v1:List ByteArray)(v2:List aQ)(v3:List aI)(v4:List aJ)(v5:List aL):Tr.bulkL (aK.tr (.mk v0 v1 v2 v3 v4 v5))=v0.size+(v1.length+Tr.bulkAll (aW v1))+(v2.length+Tr.bulkAll (aQ.trs v2))+(v3.length+Tr.bulkAll (aI.trs v3))+(v4.length+Tr.bulkAll (aJ.trs v4))+(v5.length+Tr.bulkAll (aL.trs v5)):=by
 simp only [aK.tr,gJ,Tr.bulkL,Tr.bulk,bI,fJ,eO,aQ.trs_len,aI.trs_len,aJ.trs_len,aL.trs_len]
 first|done|omega
theorem aK.bks_nil:Tr.bulkAll (aK.trs [])=0:=by simp [aK.trs_map,Tr.bulkAll]
theorem aK.bks_cons(a:aK)(l:List aK):Tr.bulkAll (aK.trs (a::l))=Tr.bulkL (aK.tr a)+Tr.bulkAll (aK.trs l):=by simp [aK.trs_map,Tr.bulkAll]
theorem aF.bk_mk(v0:List aK):Tr.bulkL (aF.tr (.mk v0))=(v0.length+Tr.bulkAll (aK.trs v0)):=by
 simp only [aF.tr,gJ,Tr.bulkL,Tr.bulk,bI,fJ,eO,aK.trs_len]
 first|done|omega
theorem aB.bk_mk(v0:ByteArray)(v1:List aB):Tr.bulkL (aB.tr (.mk v0 v1))=v0.size+(v1.length+Tr.bulkAll (aB.trs v1)):=by
 simp only [aB.tr,gJ,Tr.bulkL,Tr.bulk,bI,fJ,eO,aB.trs_len]
 first|done|omega
theorem aB.bks_nil:Tr.bulkAll (aB.trs [])=0:=by simp [aB.trs_map,Tr.bulkAll]
theorem aB.bks_cons(a:aB)(l:List aB):Tr.bulkAll (aB.trs (a::l))=Tr.bulkL (aB.tr a)+Tr.bulkAll (aB.trs l):=by simp [aB.trs_map,Tr.bulkAll]
end Go.Proofs.YtfcoaagbccmahaaGreat

namespace Go.Proofs.YtfcoaagbccmahaaGreat
def bL(P:Nat→Prop):Prop:= ∃N,∀n,N≤n→P n
theorem bL.all{P:Nat→Prop}(h: ∀n,P n):bL P:=⟨0,fun n _=>h n⟩
theorem bL.and{P Q:Nat→Prop}(h:bL P)(k:bL Q):bL fun n=>P n∧Q n:=by
 obtain⟨a,h⟩:=h
 obtain⟨b,k⟩:=k
 exact⟨max a b,fun n hn=>⟨h n (by omega),k n (by omega)⟩⟩
theorem bL.imp{P Q:Nat→Prop}(h:bL P)(k: ∀n,P n→Q n):bL Q:=by
 obtain⟨a,h⟩:=h
 exact⟨a,fun n hn=>k n (h n hn)⟩
theorem bL.succ{P:Nat→Prop}(h:bL fun n=>P (n+1)):bL P:=by
 obtain⟨a,h⟩:=h
 exact⟨a+1,fun n hn=>by
  obtain⟨m,rfl⟩: ∃m,n=m+1:=⟨n-1,by omega⟩
  exact h m (by omega)⟩
theorem bL.list{α:Type}{P:α→Nat→Prop}: ∀ {l:List α},(∀x∈l,bL (P x))→bL fun n=> ∀x∈l,P x n
 | [],_=> .all fun n x hx=>by simp at hx
 |a::l,h=>((h a (by simp)).and (bL.list (l:=l) fun x hx=>h x (List.mem_cons_of_mem _ hx))).imp fun n hn x hx=>by
  rcases List.mem_cons.1 hx with rfl|hx
  ·exact hn.1
  ·exact hn.2 x hx
theorem bL.below{P:Nat→Nat→Prop}: ∀ {k:Nat},(∀i,i<k→bL (P i))→bL fun n=> ∀i,i<k→P i n
 |0,_=> .all fun n i hi=>by omega
 |k+1,h=>((h k (by omega)).and (bL.below (k:=k) fun i hi=>h i (Nat.lt_succ_of_lt hi))).imp fun n hn i hi=>by
  rcases Nat.lt_or_ge i k with h1|h1
  ·exact hn.2 i h1
  ·obtain rfl:i=k:=by omega
   exact hn.1
theorem bL.get{P:Nat→Prop}(h:bL P): ∃n,P n:=by
 obtain⟨a,h⟩:=h
 exact⟨a,h a (Nat.le_refl _)⟩
section
variable {α σ β:Type} [Inhabited α] {f:Nat→σ→Option (LR σ β)}
theorem dO{l:List α}{i:Nat}(h:i<l.length):aP l i∈l:=by rw [gL h];exact List.getElem_mem h
theorem G5{l:List α}{i:Nat}(h:i<l.length):l.drop i=aP l i::l.drop (i+1):=by rw [gL h];exact List.drop_eq_getElem_cons h
theorem CM{l:List α}{i:Nat}(h:i<l.length):l.take (i+1)=l.take i++ [aP l i]:=by rw [gL h];exact List.take_succ_eq_append_getElem h
theorem zS{n i:Nat}{s s':σ}(h:i<n)(e:f i s=some (.next s')):loopN f (n-i) i s=loopN f (n-(i+1)) (i+1) s':=vN h rfl e
theorem JP{n i:Nat}{s:σ}{x:β}(h:i<n)(e:f i s=some (.ret x)):loopN f (n-i) i s=some (.inl x):=ab1 h rfl e
theorem ab0{n i:Nat}{s s':σ}(h:i<n)(e:f i s=some (.brk s')):loopN f (n-i) i s=some (.inr s'):=abY h rfl e
theorem C3{n i:Nat}{s:σ}(h:n≤i):loopN f (n-i) i s=some (.inr s):=abZ h rfl
theorem NM{l:List α}{g:σ→α→σ}(P:Nat→σ→Prop)(hs: ∀i s,i<l.length→P i s→f i s=some (.next (g s (aP l i)))∧P (i+1) (g s (aP l i))):
 ∀(k i:Nat) (s:σ),l.length-i=k→P i s→loopN f (l.length-i) i s=some (.inr ((l.drop i).foldl g s))
 |0,i,s,hk,_=>by
  rw [C3 (by omega),List.drop_of_length_le (by omega),List.foldl_nil]
 |k+1,i,s,hk,hp=>by
  have hi:i<l.length:=by omega
  obtain⟨h1,h2⟩:=hs i s hi hp
  rw [zS hi h1,G5 hi,List.foldl_cons]
  exact NM P hs k (i+1) _ (by omega) h2
theorem qL{l:List α}{g:σ→α→σ}(P:Nat→σ→Prop)(hs: ∀i s,i<l.length→P i s→f i s=some (.next (g s (aP l i)))∧P (i+1) (g s (aP l i))){s:σ}(h0:P 0 s):loopN f (l.length-0) 0 s=some (.inr (l.foldl g s)):=by
 have:=NM P hs l.length 0 s (by omega) h0
 rwa [List.drop_zero] at this
theorem NL{l:List α}{p:α→Bool}{r:α→β}{s:σ}(hs: ∀i,i<l.length→f i s=if p (aP l i) then some (.ret (r (aP l i))) else some (.next s)):
 ∀(k i:Nat),l.length-i=k→loopN f (l.length-i) i s=some (match(l.drop i).find? p with|some x=> .inl (r x)|none=> .inr s)
 |0,i,hk=>by
  rw [C3 (by omega),List.drop_of_length_le (by omega),List.find?_nil]
 |k+1,i,hk=>by
  have hi:i<l.length:=by omega
  have h1:=hs i hi
  rw [G5 hi,List.find?_cons]
  cases hp:p (aP l i)
  ·rw [hp] at h1
   rw [zS hi (by simpa using h1)]
   exact NL hs k (i+1) (by omega)
  ·rw [hp] at h1
   rw [JP hi (by simpa using h1)]
theorem qH{l:List α}{p:α→Bool}{r:α→β}{s:σ}(hs: ∀i,i<l.length→f i s=if p (aP l i) then some (.ret (r (aP l i))) else some (.next s)):loopN f (l.length-0) 0 s=some (match l.find? p with|some x=> .inl (r x)|none=> .inr s):=by
 have:=NL hs l.length 0 (by omega)
 rwa [List.drop_zero] at this
theorem KZ{l:List α}{p:α→Bool}{r:β}{s:σ}(hs: ∀i,i<l.length→f i s=if p (aP l i) then some (.next s) else some (.ret r)):loopN f (l.length-0) 0 s=some (if l.all p then .inr s else .inl r):=by
 rw [qH (p:=fun x=> !p x) (r:=fun _=>r) (fun i hi=>by rw [hs i hi];cases p (aP l i)<;>rfl)]
 cases h:l.find? (fun x=> !p x) with
 |none=>
  rw [List.find?_eq_none] at h
  rw [if_pos (by rw [List.all_eq_true];intro x hx;have:=h x hx;simpa using this)]
 |some x=>
  have h1:=List.find?_some h
  have h2:=List.mem_of_find?_eq_some h
  rw [if_neg (by rw [List.all_eq_true];intro hc;have:=hc x h2;simp [this] at h1)]
theorem wR{f:Nat→Unit→Option (LR Unit Int)}{l:List α}{p:α→Bool}(hs: ∀i,i<l.length→f i ()=if p (aP l i) then some (.ret ((i:Nat):Int)) else some (.next ())):
 loopN f (l.length-0) 0 ()=some (match l.findIdx? p with|some i=> .inl ((i:Nat):Int)|none=> .inr ()):=by
 have key: ∀(k i:Nat),l.length-i=k→loopN f (l.length-i) i ()=some (match(l.drop i).findIdx? p with|some j=> .inl (((i+j:Nat)):Int)|none=> .inr ()):=by
  intro k
  induction k with
  |zero=>
   intro i hk
   rw [C3 (by omega),List.drop_of_length_le (by omega)]
   rfl
  |succ k ih=>
   intro i hk
   have hi:i<l.length:=by omega
   have h1:=hs i hi
   rw [G5 hi,List.findIdx?_cons]
   cases hp:p (aP l i)
   ·rw [hp] at h1
    rw [zS hi (by simpa using h1),ih (i+1) (by omega)]
    cases(l.drop (i+1)).findIdx? p with
    |none=>simp
    |some j=>simp;omega
   ·rw [hp] at h1
    rw [JP hi (by simpa using h1)]
    simp
 have:=key l.length 0 (by omega)
 simpa using this
omit [Inhabited α] in
theorem Q6{l:List α}{p:α→Bool}:decide ((match l.findIdx? p with|some i=>((i:Nat):Int)|none=> -1)≥0)=l.any p:=by
 cases h:l.findIdx? p with
 |none=>
  rw [List.findIdx?_eq_none_iff] at h
  have:l.any p=false:=by rw [List.any_eq_false];intro x hx;simp [h x hx]
  rw [this];rfl
 |some i=>
  obtain⟨h1,h2,-⟩:=List.findIdx?_eq_some_iff_getElem.1 h
  have:l.any p=true:=List.any_eq_true.2 ⟨_,List.getElem_mem h1,h2⟩
  rw [this]
  simp
end
end Go.Proofs.YtfcoaagbccmahaaGreat

namespace Go.Proofs.YtfcoaagbccmahaaGreat
open Go.RowKit Go.WalkArith Go.IntWalk
def Ok{α:Type}(o:Option α)(P:α→Prop):Prop:= ∃a,o=some a∧P a
theorem Ok.some{α:Type}{P:α→Prop}{a:α}(h:P a):Ok (Option.some a) P:=⟨a,rfl,h⟩
theorem Ok.mono{α:Type}{P Q:α→Prop}{o:Option α}(h:Ok o P)(k: ∀a,P a→Q a):Ok o Q:=by
 obtain⟨a,e,h⟩:=h
 exact⟨a,e,k a h⟩
theorem Ok.bd{α β:Type}{o:Option α}{f:α→Option β}{Q:α→Prop}{P:β→Prop}(h:Ok o Q)(k: ∀a,Q a→Ok (f a) P):Ok (bd o f) P:=by
 obtain⟨a,rfl,h⟩:=h
 exact k a h
theorem Ok.sw{α:Type}{c:Bool}{a b:Option α}{P:α→Prop}(ht:c=true→Ok a P)(hf:c=false→Ok b P):Ok (sw c a b) P:=by
 cases c
 ·exact hf rfl
 ·exact ht rfl
theorem Ok.gd{α:Type}{g:Prop}{a:Option α}{P:α→Prop}(h:g)(k:Ok a P):Ok (gd g a) P:=by
 rw [rR h rfl]
 exact k
theorem Ok.so{σ β:Type}{o:Option (β⊕σ)}{f:σ→Option β}{Q:β⊕σ→Prop}{P:β→Prop}(h:Ok o Q)(k1: ∀x,Q (.inl x)→P x)(k2: ∀s,Q (.inr s)→Ok (f s) P):Ok (so o f) P:=by
 obtain⟨a,rfl,h⟩:=h
 cases a with
 |inl x=>exact⟨x,rfl,k1 x h⟩
 |inr s=>exact k2 s h
theorem Ok.lt{α β:Type}{x:α}{f:α→Option β}{P:β→Prop}(k: ∀y,y=x→Ok (f y) P):Ok (lt x f) P:=k x rfl
theorem DS.pick_mem(d:DS){l:LB}(h:0<l.length):d.pick l∈l:=by
 rw [DS.pick_eq (d.below_lt h)]
 exact List.getElem_mem _
theorem DS.pick_size(d:DS){l:LB}{k:Nat}(h:0<l.length)(hs: ∀v∈l,v.size≤k):(d.pick l).size≤k:=hs _ (d.pick_mem h)
def PS{σ β:Type}(Q:β→Prop)(E:σ→Prop):β⊕σ→Prop
 | .inl x=>Q x
 | .inr s=>E s
def PL{σ β:Type}(Q:β→Prop)(N E:σ→Prop):LR σ β→Prop
 | .next s=>N s
 | .brk s=>E s
 | .ret x=>Q x
theorem Ok.gdk{α:Type}{g:Prop}{a:Option α}{P:α→Prop}(h:g)(k:g→Ok a P):Ok (Go.Proofs.YtfcoaagbccmahaaGreat.gd g a) P:=Ok.gd h (k h)
theorem Ok.sok{σ β:Type}{o:Option (β⊕σ)}{f:σ→Option β}{P:β→Prop}{E:σ→Prop}(h:Ok o (PS P E))(k: ∀s,E s→Ok (f s) P):Ok (Go.Proofs.YtfcoaagbccmahaaGreat.so o f) P:=Ok.so h (fun _ hx=>hx) k
theorem Ok.loopN{σ β:Type}{f:Nat→σ→Option (LR σ β)}{n:Nat}{Q:β→Prop}{E:σ→Prop}(I:Nat→σ→Prop)(hE: ∀i s,n≤i→I i s→E s)(hs: ∀i s,i<n→I i s→Ok (f i s) (PL Q (I (i+1)) E)):
 ∀(k i:Nat) (s:σ),n-i=k→I i s→Ok (Go.Proofs.YtfcoaagbccmahaaGreat.loopN f (n-i) i s) (PS Q E)
 |0,i,s,hk,hi=>by rw [C3 (by omega)];exact Ok.some (hE i s (by omega) hi)
 |k+1,i,s,hk,hi=>by
  have hlt:i<n:=by omega
  obtain⟨r,hr,hp⟩:=hs i s hlt hi
  cases r with
  |next s'=>rw [zS hlt hr];exact Ok.loopN I hE hs k (i+1) s' (by omega) hp
  |brk s'=>rw [ab0 hlt hr];exact Ok.some hp
  |ret x=>rw [JP hlt hr];exact Ok.some hp
theorem Ok.loopN0{σ β:Type}{f:Nat→σ→Option (LR σ β)}{n i:Nat}{s:σ}{Q:β→Prop}{E:σ→Prop}(I:Nat→σ→Prop)(h0:I i s)(hE: ∀i s,n≤i→I i s→E s)(hs: ∀i s,i<n→I i s→Ok (f i s) (PL Q (I (i+1)) E)):Ok (Go.Proofs.YtfcoaagbccmahaaGreat.loopN f (n-i) i s) (PS Q E):=
 Ok.loopN I hE hs (n-i) i s rfl h0
theorem Ok.loopW{σ β:Type}{f:σ→Option (LR σ β)}{Q:β→Prop}{E:σ→Prop}(I:σ→Prop)(μ:σ→Nat)(hs: ∀s,I s→Ok (f s) (PL Q (fun s'=>I s'∧μ s'<μ s) E)):
 ∀(k:Nat) (s:σ),μ s<k→I s→Ok (Go.Proofs.YtfcoaagbccmahaaGreat.loopW f k s) (PS Q E)
 |0,s,hk,_=>absurd hk (Nat.not_lt_zero _)
 |k+1,s,hk,hi=>by
  obtain⟨r,hr,hp⟩:=hs s hi
  unfold Go.Proofs.YtfcoaagbccmahaaGreat.loopW
  rw [hr]
  cases r with
  |next s'=>exact Ok.loopW I μ hs k s' (by have:=hp.2;omega) hp.1
  |brk s'=>exact Ok.some hp
  |ret x=>exact Ok.some hp
theorem bL.ge(k:Nat):bL fun fu=>k≤fu:=⟨k,fun _ h=>h⟩
end Go.Proofs.YtfcoaagbccmahaaGreat

namespace Go.Proofs.YtfcoaagbccmahaaGreat
open Go.RowKit Go.WalkArith Go.IntWalk
class Wt (α:Type) where
 wtOf:α→Nat
def wt{α:Type}[Wt α](x:α):Nat:=Wt.wtOf x
def wl{α:Type}[Wt α]:List α→Nat
 | []=>0
 |a::l=>wt a+1+wl l
instance:Wt ByteArray:=⟨ByteArray.size⟩
theorem aV(b:ByteArray):wt b=b.size:=rfl
theorem CP(l:LB):wl l=l.length+Tr.bulkAll (aW l):=by
 induction l with
 |nil=>rw [afF];rfl
 |cons a l ih=>rw [aeE];simp only [wl,List.length_cons,aV];omega
section
variable {α:Type} [Wt α]
theorem aT:wl ([]:List α)=0∧([]:List α).length=0:=⟨rfl,rfl⟩
theorem aaZ(a:α)(l:List α):wl (a::l)=wt a+1+wl l:=rfl
theorem bN(a b:List α):wl (a++b)=wl a+wl b∧(a++b).length=a.length+b.length:=by
 refine⟨?_,List.length_append⟩
 induction a with
 |nil=>simp [wl]
 |cons x a ih=>simp only [List.cons_append,wl];omega
theorem bU(a:α):wl [a]=wt a+1∧ [a].length=1:=⟨rfl,rfl⟩
theorem iJ(a b:α):wl [a,b]=wt a+wt b+2∧ [a,b].length=2:=⟨by simp only [wl];omega,rfl⟩
theorem zR(a b c:α):wl [a,b,c]=wt a+wt b+wt c+3∧ [a,b,c].length=3:=⟨by simp only [wl];omega,rfl⟩
theorem akN(a b c d:α):wl [a,b,c,d]=wt a+wt b+wt c+wt d+4∧ [a,b,c,d].length=4:=⟨by simp only [wl];omega,rfl⟩
theorem ahE(a b c d e:α):wl [a,b,c,d,e]=wt a+wt b+wt c+wt d+wt e+5∧ [a,b,c,d,e].length=5:=⟨by simp only [wl];omega,rfl⟩
theorem abX(a b c d e f g:α):wl [a,b,c,d,e,f,g]=wt a+wt b+wt c+wt d+wt e+wt f+wt g+7∧ [a,b,c,d,e,f,g].length=7:=⟨by simp only [wl];omega,rfl⟩
theorem aZ(l:List α):l.length≤wl l:=by
 induction l with
 |nil=>simp
 |cons a l ih=>simp only [wl,List.length_cons];omega
theorem CO(k:Nat)(l:List α):wl (l.take k)+wl (l.drop k)=wl l:=by
 have:=(bN (l.take k) (l.drop k)).1
 rw [List.take_append_drop] at this
 omega
theorem l4(l:List α)(k:Nat):wl (l.take k)≤wl l:=by have:=CO k l;omega
theorem afG(k:Nat)(l:List α):wl (l.drop k)≤wl l:=by have:=CO k l;omega
theorem MN(a b:Nat)(l:List α):wl (List.drop a (List.take b l))≤wl l∧(List.drop a (List.take b l)).length=min b l.length-a:=by
 have h1:=afG a (l.take b)
 have h2:=l4 l b
 exact⟨by omega,by simp⟩
theorem pZ{l:List α}{x:α}(h:x∈l):wt x+1≤wl l:=by
 induction l with
 |nil=>simp at h
 |cons a l ih=>
  simp only [wl]
  rcases List.mem_cons.1 h with rfl|h
  ·omega
  ·have:=ih h;omega
theorem UK(l:List α)(a b:Nat):a≤b→wl (l.take a)≤wl (l.take b):=fun h=>by
 have:=l4 (l.take b) a
 rwa [List.take_take,Nat.min_eq_left h] at this
theorem agI(L:List α)(b:Nat):1≤b→wl (List.drop (1:Int).toNat (List.take b L))+wl (List.take 1 L)≤wl (List.take b L):=fun h=>by
 have:=CO 1 (L.take b)
 rw [List.take_take,Nat.min_eq_left h] at this
 show wl (List.drop 1 _)+_≤_
 omega
variable [Inhabited α]
theorem cD(l:List α)(i:Nat):i<l.length→wt (aP l i)+1≤wl l:=fun h=>pZ (dO h)
theorem l5(l:List α)(i:Nat)(h:i<l.length):wl (l.take (i+1))=wl (l.take i)+wt (aP l i)+1:=by
 rw [CM h,(bN _ _).1,(bU _).1]
 omega
theorem EU(l:List α)(i:Nat):i<l.length→wl (l.take (i+1))=wl (l.take i)+wt (aP l i)+1:=l5 l i
end
theorem dU(E:Int): -9223372036854775808≤E∧E≤9223372036854775807→aY E=E:=fun h=>by
 unfold aY IntKind.wrap
 simp [IntKind.bits,IntKind.signed]
 omega
theorem zG(b:ByteArray)(i j:Nat):(b.extract i j).size=min j b.size-i:=by simp [ByteArray.size_extract]
theorem eB(a b:ByteArray):(a++b).size=a.size+b.size:=ByteArray.size_append
theorem ac8(l:List UInt8):(bytesStr l).size=l.length:=by simp [bytesStr,ByteArray.size]
theorem BE{b:ByteArray}(h: ¬b=⟨#[]⟩):0<b.size:=by
 rcases Nat.eq_zero_or_pos b.size with h0|h0
 ·refine absurd ?_ h
  obtain⟨a⟩:=b
  have h1:a.size=0:=h0
  rw [Array.eq_empty_of_size_eq_zero h1]
 ·exact h0
theorem bF{p:Prop}(h:p:=by first|omega|(dsimp only;omega)|trivial|(dsimp only;trivial)):p:=h
theorem Ok.next{σ β:Type}{N E:σ→Prop}{Q:β→Prop}{s:σ}(h:N s):Ok (Option.some (LR.next s)) (PL Q N E):=⟨_,rfl,h⟩
theorem Ok.brk{σ β:Type}{N E:σ→Prop}{Q:β→Prop}{s:σ}(h:E s):Ok (Option.some (LR.brk s)) (PL Q N E):=⟨_,rfl,h⟩
theorem Ok.ret{σ β:Type}{N E:σ→Prop}{Q:β→Prop}{x:β}(h:Q x):Ok (Option.some (LR.ret (σ:=σ) x)) (PL Q N E):=⟨_,rfl,h⟩
theorem Ok.inr{σ β:Type}{E:σ→Prop}{Q:β→Prop}{s:σ}(h:E s):Ok (Option.some (Sum.inr (α:=β) s)) (PS Q E):=⟨_,rfl,h⟩
theorem Ok.swd{α:Type}{p:Prop}[Decidable p]{a b:Option α}{P:α→Prop}(ht:p→Ok a P)(hf: ¬p→Ok b P):Ok (Go.Proofs.YtfcoaagbccmahaaGreat.sw (decide p) a b) P:=Ok.sw (fun h=>ht (of_decide_eq_true h)) (fun h=>hf (of_decide_eq_false h))
theorem Ok.swn{α:Type}{p:Prop}[Decidable p]{a b:Option α}{P:α→Prop}(ht: ¬p→Ok a P)(hf:p→Ok b P):Ok (Go.Proofs.YtfcoaagbccmahaaGreat.sw (!decide p) a b) P:=Ok.sw (fun h=>ht (by simpa using h)) (fun h=>hf (by simpa using h))
theorem Ok.swb{α:Type}{x:Bool}{a b:Option α}{P:α→Prop}(ht:x=false→Ok a P)(hf:x=true→Ok b P):Ok (Go.Proofs.YtfcoaagbccmahaaGreat.sw (!x) a b) P:=Ok.sw (fun h=>ht (by simpa using h)) (fun h=>hf (by simpa using h))
theorem Ok.loop0{σ β:Type}{f:Nat→σ→Option (LR σ β)}{n i:Nat}{s:σ}{Q:β→Prop}{E:σ→Prop}(I:Nat→σ→Prop)(h0:I i s)(hE: ∀i s,n≤i→I i s→E s)(hs: ∀i s,i<n→I i s→Ok (f i s) (PL Q (I (i+1)) E)):Ok (Go.Proofs.YtfcoaagbccmahaaGreat.loopN f (n-i) i s) (PS Q E):=Ok.loopN0 I h0 hE hs
theorem Ok.loop1{σ β:Type}{f:Nat→σ→Option (LR σ β)}{n i:Nat}{s:σ}{Q:β→Prop}(hs: ∀i s,i<n→Ok (f i s) (PL Q (fun _=>True) (fun _=>True))):Ok (Go.Proofs.YtfcoaagbccmahaaGreat.loopN f (n-i) i s) (PS Q (fun _=>True)):=Ok.loopN0 (fun _ _=>True) trivial (fun _ _ _ _=>trivial) (fun i s hi _=>hs i s hi)
theorem oG{α:Type}{g:Prop}{a:Option α}{P:α→Prop}(k:g→Ok a P)(h:g:=by first|omega|trivial):Ok (Go.Proofs.YtfcoaagbccmahaaGreat.gd g a) P:=Ok.gdk h k
theorem oD{α:Type}{p:Prop}[Decidable p]{a b:Option α}{P:α→Prop}(ht:p→Ok a P)(hf: ¬p→Ok b P):Ok (Go.Proofs.YtfcoaagbccmahaaGreat.sw (decide p) a b) P:=Ok.swd ht hf
theorem oN{α:Type}{p:Prop}[Decidable p]{a b:Option α}{P:α→Prop}(ht: ¬p→Ok a P)(hf:p→Ok b P):Ok (Go.Proofs.YtfcoaagbccmahaaGreat.sw (!decide p) a b) P:=Ok.swn ht hf
theorem oW{α:Type}{x:Bool}{a b:Option α}{P:α→Prop}(ht:x=false→Ok a P)(hf:x=true→Ok b P):Ok (Go.Proofs.YtfcoaagbccmahaaGreat.sw (!x) a b) P:=Ok.swb ht hf
theorem oC{α:Type}{c:Bool}{a b:Option α}{P:α→Prop}(ht:c=true→Ok a P)(hf:c=false→Ok b P):Ok (Go.Proofs.YtfcoaagbccmahaaGreat.sw c a b) P:=Ok.sw ht hf
theorem oB{α β:Type}{o:Option α}{f:α→Option β}{Q:α→Prop}{P:β→Prop}(h:Ok o Q)(k: ∀a,Q a→Ok (f a) P):Ok (Go.Proofs.YtfcoaagbccmahaaGreat.bd o f) P:=Ok.bd h k
theorem K2{α β:Type}{o:Option α}{f:α→Option β}{Q1 Q2:α→Prop}{P:β→Prop}(h:Ok o (fun r=>Q1 r∧Q2 r))(k: ∀a,Q1 a→Q2 a→Ok (f a) P):Ok (Go.Proofs.YtfcoaagbccmahaaGreat.bd o f) P:=Ok.bd h fun a q=>k a q.1 q.2
theorem rT{A B β:Type}{o:Option (A×B)}{f:A×B→Option β}{Q:A×B→Prop}{P:β→Prop}(h:Ok o Q)(k: ∀a b,Q (a,b)→Ok (f (a,b)) P):Ok (Go.Proofs.YtfcoaagbccmahaaGreat.bd o f) P:=Ok.bd h fun _ q=>k _ _ q
theorem oB4{A B C D β:Type}{o:Option (A×B×C×D)}{f:A×B×C×D→Option β}{Q:A×B×C×D→Prop}{P:β→Prop}(h:Ok o Q)(k: ∀a b c d,Q (a,b,c,d)→Ok (f (a,b,c,d)) P):Ok (Go.Proofs.YtfcoaagbccmahaaGreat.bd o f) P:=Ok.bd h fun _ q=>k _ _ _ _ q
theorem oB6{A B C D E F β:Type}{o:Option (A×B×C×D×E×F)}{f:A×B×C×D×E×F→Option β}{Q:A×B×C×D×E×F→Prop}{P:β→Prop}(h:Ok o Q)(k: ∀a b c d e g,Q (a,b,c,d,e,g)→Ok (f (a,b,c,d,e,g)) P):Ok (Go.Proofs.YtfcoaagbccmahaaGreat.bd o f) P:=Ok.bd h fun _ q=>k _ _ _ _ _ _ q
theorem oS{α:Type}{P:α→Prop}{a:α}(h:P a:=by first|trivial|omega|(dsimp only;omega)):Ok (Option.some a) P:=⟨a,rfl,h⟩
theorem mF{σ β:Type}{N E:σ→Prop}{Q:β→Prop}{s:σ}(h:N s:=by first|trivial|omega|(dsimp only;omega)):Ok (Option.some (LR.next s)) (PL Q N E):=⟨_,rfl,h⟩
theorem oK{σ β:Type}{N E:σ→Prop}{Q:β→Prop}{s:σ}(h:E s:=by first|trivial|omega|(dsimp only;omega)):Ok (Option.some (LR.brk s)) (PL Q N E):=⟨_,rfl,h⟩
theorem oR{σ β:Type}{N E:σ→Prop}{Q:β→Prop}{x:β}(h:Q x:=by first|trivial|omega|(dsimp only;omega)):Ok (Option.some (LR.ret (σ:=σ) x)) (PL Q N E):=⟨_,rfl,h⟩
theorem oL{σ β:Type}{E:σ→Prop}{Q:β→Prop}{x:β}(h:Q x:=by first|trivial|omega|(dsimp only;omega)):Ok (Option.some (Sum.inl (β:=σ) x)) (PS Q E):=⟨_,rfl,h⟩
theorem oI{σ β:Type}{E:σ→Prop}{Q:β→Prop}{s:σ}(h:E s:=by first|trivial|omega|(dsimp only;omega)):Ok (Option.some (Sum.inr (α:=β) s)) (PS Q E):=⟨_,rfl,h⟩
theorem A0{σ β:Type}{o:Option (β⊕σ)}{f:σ→Option β}{P:β→Prop}(h:Ok o (PS P fun _=>True))(k: ∀s,True→Ok (f s) P):Ok (Go.Proofs.YtfcoaagbccmahaaGreat.so o f) P:=Ok.sok h k
theorem oEN{σ β:Type}{n i0:Nat}{s0:σ}{F:Nat→σ→Option (LR σ β)}{f:σ→Option β}{P:β→Prop}(hs: ∀i s,i<n→Ok (F i s) (PL P (fun _=>True) (fun _=>True)))(k: ∀s,True→Ok (f s) P):Ok (Go.Proofs.YtfcoaagbccmahaaGreat.so (Go.Proofs.YtfcoaagbccmahaaGreat.loopN F (n-i0) i0 s0) f) P:=Ok.sok (Ok.loop1 hs) k
theorem JR{A B β:Type}[Wt A][Wt B][Inhabited A]{F:Nat→List B→Option (LR (List B) β)}{f:List B→Option β}{i0:Nat}{v0:List B}{Q:β→Prop}(L:List A)(c:Nat)
 (hs: ∀i v,i<L.length→wl v+c*wl (List.take i0 L)≤wl v0+c*wl (List.take i L)→wl (L.take (i+1))=wl (L.take i)+wt (aP L i)+1→wl (L.take (i+1))≤wl L→
  Ok (F i v) (PL Q (fun v=>wl v+c*wl (List.take i0 L)≤wl v0+c*wl (List.take (i+1) L)) (fun v=>wl v+c*wl (List.take i0 L)≤wl v0+c*wl L)))
 (k: ∀v,wl v+c*wl (List.take i0 L)≤wl v0+c*wl L→Ok (f v) Q):Ok (Go.Proofs.YtfcoaagbccmahaaGreat.so (Go.Proofs.YtfcoaagbccmahaaGreat.loopN F (L.length-i0) i0 v0) f) Q:=
 Ok.sok (Ok.loopN0 (fun i v=>wl v+c*wl (List.take i0 L)≤wl v0+c*wl (List.take i L)) (Nat.le_refl _) (fun i v _ h=>Nat.le_trans h (Nat.add_le_add_left (Nat.mul_le_mul_left _ (l4 L i)) _)) (fun i v hi h=>hs i v hi h (l5 L i hi) (l4 L _))) k
theorem aeY{A B β:Type}[Wt A][Wt B][Inhabited A]{F:Nat→List B→Option (LR (List B) β)}{f:List B→Option β}{i0:Nat}{Q:β→Prop}{PA:B→Prop}(L:List A)(c:Nat)
 (hs: ∀i v,i<L.length→wl v+c*wl (List.take i0 L)≤wl ([]:List B)+c*wl (List.take i L)→(∀a∈v,PA a)→wl (L.take (i+1))=wl (L.take i)+wt (aP L i)+1→wl (L.take (i+1))≤wl L→
  Ok (F i v) (PL Q (fun v=>wl v+c*wl (List.take i0 L)≤wl ([]:List B)+c*wl (List.take (i+1) L)∧ ∀a∈v,PA a) (fun v=>wl v+c*wl (List.take i0 L)≤wl ([]:List B)+c*wl L∧ ∀a∈v,PA a)))
 (k: ∀v,(wl v+c*wl (List.take i0 L)≤wl ([]:List B)+c*wl L∧ ∀a∈v,PA a)→Ok (f v) Q):Ok (Go.Proofs.YtfcoaagbccmahaaGreat.so (Go.Proofs.YtfcoaagbccmahaaGreat.loopN F (L.length-i0) i0 []) f) Q:=
 Ok.sok (Ok.loopN0 (fun i v=>wl v+c*wl (List.take i0 L)≤wl ([]:List B)+c*wl (List.take i L)∧ ∀a∈v,PA a) ⟨Nat.le_refl _,by simp⟩ (fun i v _ h=>⟨Nat.le_trans h.1 (Nat.add_le_add_left (Nat.mul_le_mul_left _ (l4 L i)) _),h.2⟩) (fun i v hi h=>hs i v hi h.1 h.2 (l5 L i hi) (l4 L _))) k
instance:Wt aO:=⟨fun x=>Tr.bulkL (aO.tr x)⟩
instance:Wt aA:=⟨fun x=>Tr.bulkL (aA.tr x)⟩
instance:Wt aG:=⟨fun x=>Tr.bulkL (aG.tr x)⟩
instance:Wt bH:=⟨fun x=>Tr.bulkL (bH.tr x)⟩
instance:Wt aE:=⟨fun x=>Tr.bulkL (aE.tr x)⟩
instance:Wt aR:=⟨fun x=>Tr.bulkL (aR.tr x)⟩
instance:Wt aM:=⟨fun x=>Tr.bulkL (aM.tr x)⟩
instance:Wt aC:=⟨fun x=>Tr.bulkL (aC.tr x)⟩
instance:Wt aD:=⟨fun x=>Tr.bulkL (aD.tr x)⟩
instance:Wt aQ:=⟨fun x=>Tr.bulkL (aQ.tr x)⟩
instance:Wt aI:=⟨fun x=>Tr.bulkL (aI.tr x)⟩
instance:Wt aJ:=⟨fun x=>Tr.bulkL (aJ.tr x)⟩
instance:Wt aL:=⟨fun x=>Tr.bulkL (aL.tr x)⟩
instance:Wt aK:=⟨fun x=>Tr.bulkL (aK.tr x)⟩
instance:Wt aF:=⟨fun x=>Tr.bulkL (aF.tr x)⟩
instance:Wt aB:=⟨fun x=>Tr.bulkL (aB.tr x)⟩
instance:Wt aH:=⟨fun x=>Tr.bulkL (aH.tr x)⟩
instance:Wt aN:=⟨fun x=>Tr.bulkL (aN.tr x)⟩
instance:Wt a8:=⟨fun x=>Tr.bulkL (a8.tr x)⟩
instance:Wt cA:=⟨fun x=>Tr.bulkL (cA.tr x)⟩
instance:Wt bJ:=⟨fun x=>Tr.bulkL (bJ.tr x)⟩
theorem aA.wl_bulk(l:List aA):wl l=l.length+Tr.bulkAll (aA.trs l):=by
 induction l with
 |nil=>rw [aA.bks_nil];rfl
 |cons a l ih=>
  rw [aA.bks_cons]
  simp only [wl,List.length_cons,ih]
  show Tr.bulkL (aA.tr a)+1+_=_
  omega
theorem aG.wl_bulk(l:List aG):wl l=l.length+Tr.bulkAll (aG.trs l):=by
 induction l with
 |nil=>rw [aG.bks_nil];rfl
 |cons a l ih=>
  rw [aG.bks_cons]
  simp only [wl,List.length_cons,ih]
  show Tr.bulkL (aG.tr a)+1+_=_
  omega
theorem bH.wl_bulk(l:List bH):wl l=l.length+Tr.bulkAll (bH.trs l):=by
 induction l with
 |nil=>rw [bH.bks_nil];rfl
 |cons a l ih=>
  rw [bH.bks_cons]
  simp only [wl,List.length_cons,ih]
  show Tr.bulkL (bH.tr a)+1+_=_
  omega
theorem aE.wl_bulk(l:List aE):wl l=l.length+Tr.bulkAll (aE.trs l):=by
 induction l with
 |nil=>rw [aE.bks_nil];rfl
 |cons a l ih=>
  rw [aE.bks_cons]
  simp only [wl,List.length_cons,ih]
  show Tr.bulkL (aE.tr a)+1+_=_
  omega
theorem aR.wl_bulk(l:List aR):wl l=l.length+Tr.bulkAll (aR.trs l):=by
 induction l with
 |nil=>rw [aR.bks_nil];rfl
 |cons a l ih=>
  rw [aR.bks_cons]
  simp only [wl,List.length_cons,ih]
  show Tr.bulkL (aR.tr a)+1+_=_
  omega
theorem aM.wl_bulk(l:List aM):wl l=l.length+Tr.bulkAll (aM.trs l):=by
 induction l with
 |nil=>rw [aM.bks_nil];rfl
 |cons a l ih=>
  rw [aM.bks_cons]
  simp only [wl,List.length_cons,ih]
  show Tr.bulkL (aM.tr a)+1+_=_
  omega
theorem aC.wl_bulk(l:List aC):wl l=l.length+Tr.bulkAll (aC.trs l):=by
 induction l with
 |nil=>rw [aC.bks_nil];rfl
 |cons a l ih=>
  rw [aC.bks_cons]
  simp only [wl,List.length_cons,ih]
  show Tr.bulkL (aC.tr a)+1+_=_
  omega
theorem aD.wl_bulk(l:List aD):wl l=l.length+Tr.bulkAll (aD.trs l):=by
 induction l with
 |nil=>rw [aD.bks_nil];rfl
 |cons a l ih=>
  rw [aD.bks_cons]
  simp only [wl,List.length_cons,ih]
  show Tr.bulkL (aD.tr a)+1+_=_
  omega
theorem aQ.wl_bulk(l:List aQ):wl l=l.length+Tr.bulkAll (aQ.trs l):=by
 induction l with
 |nil=>rw [aQ.bks_nil];rfl
 |cons a l ih=>
  rw [aQ.bks_cons]
  simp only [wl,List.length_cons,ih]
  show Tr.bulkL (aQ.tr a)+1+_=_
  omega
theorem aI.wl_bulk(l:List aI):wl l=l.length+Tr.bulkAll (aI.trs l):=by
 induction l with
 |nil=>rw [aI.bks_nil];rfl
 |cons a l ih=>
  rw [aI.bks_cons]
  simp only [wl,List.length_cons,ih]
  show Tr.bulkL (aI.tr a)+1+_=_
  omega
theorem aJ.wl_bulk(l:List aJ):wl l=l.length+Tr.bulkAll (aJ.trs l):=by
 induction l with
 |nil=>rw [aJ.bks_nil];rfl
 |cons a l ih=>
  rw [aJ.bks_cons]
  simp only [wl,List.length_cons,ih]
  show Tr.bulkL (aJ.tr a)+1+_=_
  omega
theorem aL.wl_bulk(l:List aL):wl l=l.length+Tr.bulkAll (aL.trs l):=by
 induction l with
 |nil=>rw [aL.bks_nil];rfl
 |cons a l ih=>
  rw [aL.bks_cons]
  simp only [wl,List.length_cons,ih]
  show Tr.bulkL (aL.tr a)+1+_=_
  omega
theorem aK.wl_bulk(l:List aK):wl l=l.length+Tr.bulkAll (aK.trs l):=by
 induction l with
 |nil=>rw [aK.bks_nil];rfl
 |cons a l ih=>
  rw [aK.bks_cons]
  simp only [wl,List.length_cons,ih]
  show Tr.bulkL (aK.tr a)+1+_=_
  omega
theorem aB.wl_bulk(l:List aB):wl l=l.length+Tr.bulkAll (aB.trs l):=by
 induction l with
 |nil=>rw [aB.bks_nil];rfl
 |cons a l ih=>
  rw [aB.bks_cons]
  simp only [wl,List.length_cons,ih]
  show Tr.bulkL (aB.tr a)+1+_=_
  omega
theorem aA.wt_mk(v0:Int)(v1:ByteArray)(v2:List aA):wt (aA.mk v0 v1 v2)=v1.size+wl v2:=by
 show Tr.bulkL (aA.tr (.mk v0 v1 v2))=_
 rw [aA.bk_mk]
 simp only [aA.wl_bulk]
 try rfl
theorem aA.wt_eq(x:aA):wt x=x.asD.size+wl x.asG:=by
 obtain⟨v0,v1,v2⟩:=x
 exact aA.wt_mk v0 v1 v2
theorem aG.wt_mk(v0:Int)(v1:ByteArray)(v2:ByteArray)(v3:Int)(v4:aA)(v5:List aG)(v6:List bH):wt (aG.mk v0 v1 v2 v3 v4 v5 v6)=v1.size+v2.size+wt v4+wl v5+wl v6:=by
 show Tr.bulkL (aG.tr (.mk v0 v1 v2 v3 v4 v5 v6))=_
 rw [aG.bk_mk]
 simp only [aG.wl_bulk,bH.wl_bulk]
 try rfl
theorem aG.wt_eq(x:aG):wt x=x.asN.size+x.asD.size+wt x.asH+wl x.asG+wl x.asV:=by
 obtain⟨v0,v1,v2,v3,v4,v5,v6⟩:=x
 exact aG.wt_mk v0 v1 v2 v3 v4 v5 v6
theorem bH.wt_mk(v0:ByteArray)(v1:LB)(v2:aG):wt (bH.mk v0 v1 v2)=v0.size+wl v1+wt v2:=by
 show Tr.bulkL (bH.tr (.mk v0 v1 v2))=_
 rw [bH.bk_mk]
 simp only [CP]
 try rfl
theorem bH.wt_eq(x:bH):wt x=x.asZ.size+wl x.asP+wt x.asM:=by
 obtain⟨v0,v1,v2⟩:=x
 exact bH.wt_mk v0 v1 v2
theorem aE.wt_mk(v0:ByteArray)(v1:aA):wt (aE.mk v0 v1)=v0.size+wt v1:=by
 show Tr.bulkL (aE.tr (.mk v0 v1))=_
 rw [aE.bk_mk]
 try rfl
theorem aE.wt_eq(x:aE):wt x=x.asN.size+wt x.asH:=by
 obtain⟨v0,v1⟩:=x
 exact aE.wt_mk v0 v1
theorem aR.wt_mk(v0:ByteArray)(v1:aA):wt (aR.mk v0 v1)=v0.size+wt v1:=by
 show Tr.bulkL (aR.tr (.mk v0 v1))=_
 rw [aR.bk_mk]
 try rfl
theorem aR.wt_eq(x:aR):wt x=x.asD.size+wt x.asH:=by
 obtain⟨v0,v1⟩:=x
 exact aR.wt_mk v0 v1
theorem aM.wt_mk(v0:ByteArray)(v1:LB)(v2:aG):wt (aM.mk v0 v1 v2)=v0.size+wl v1+wt v2:=by
 show Tr.bulkL (aM.tr (.mk v0 v1 v2))=_
 rw [aM.bk_mk]
 simp only [CP]
 try rfl
theorem aM.wt_eq(x:aM):wt x=x.asD.size+wl x.asP+wt x.asM:=by
 obtain⟨v0,v1,v2⟩:=x
 exact aM.wt_mk v0 v1 v2
theorem aC.wt_mk(v0:ByteArray)(v1:List aA):wt (aC.mk v0 v1)=v0.size+wl v1:=by
 show Tr.bulkL (aC.tr (.mk v0 v1))=_
 rw [aC.bk_mk]
 simp only [aA.wl_bulk]
 try rfl
theorem aC.wt_eq(x:aC):wt x=x.asD.size+wl x.asR:=by
 obtain⟨v0,v1⟩:=x
 exact aC.wt_mk v0 v1
theorem aD.wt_mk(v0:ByteArray)(v1:List aA)(v2:aA)(v3:Bool)(v4:LB)(v5:aG):wt (aD.mk v0 v1 v2 v3 v4 v5)=v0.size+wl v1+wt v2+wl v4+wt v5:=by
 show Tr.bulkL (aD.tr (.mk v0 v1 v2 v3 v4 v5))=_
 rw [aD.bk_mk]
 simp only [aA.wl_bulk,CP]
 try rfl
theorem aD.wt_eq(x:aD):wt x=x.asD.size+wl x.asU+wt x.asT+wl x.asP+wt x.asM:=by
 obtain⟨v0,v1,v2,v3,v4,v5⟩:=x
 exact aD.wt_mk v0 v1 v2 v3 v4 v5
theorem aQ.wt_mk(v0:ByteArray)(v1:LB)(v2:Bool)(v3:Bool)(v4:List aD):wt (aQ.mk v0 v1 v2 v3 v4)=v0.size+wl v1+wl v4:=by
 show Tr.bulkL (aQ.tr (.mk v0 v1 v2 v3 v4))=_
 rw [aQ.bk_mk]
 simp only [CP,aD.wl_bulk]
 try rfl
theorem aQ.wt_eq(x:aQ):wt x=x.asD.size+wl x.asO+wl x.asX:=by
 obtain⟨v0,v1,v2,v3,v4⟩:=x
 exact aQ.wt_mk v0 v1 v2 v3 v4
theorem aI.wt_mk(v0:ByteArray)(v1:LB)(v2:List aC):wt (aI.mk v0 v1 v2)=v0.size+wl v1+wl v2:=by
 show Tr.bulkL (aI.tr (.mk v0 v1 v2))=_
 rw [aI.bk_mk]
 simp only [CP,aC.wl_bulk]
 try rfl
theorem aI.wt_eq(x:aI):wt x=x.asD.size+wl x.asP+wl x.asI:=by
 obtain⟨v0,v1,v2⟩:=x
 exact aI.wt_mk v0 v1 v2
theorem aJ.wt_mk(v0:ByteArray)(v1:LB)(v2:aA)(v3:List aE)(v4:Bool)(v5:Bool)(v6:aA)(v7:List aM):wt (aJ.mk v0 v1 v2 v3 v4 v5 v6 v7)=v0.size+wl v1+wt v2+wl v3+wt v6+wl v7:=by
 show Tr.bulkL (aJ.tr (.mk v0 v1 v2 v3 v4 v5 v6 v7))=_
 rw [aJ.bk_mk]
 simp only [CP,aE.wl_bulk,aM.wl_bulk]
 try rfl
theorem aJ.wt_eq(x:aJ):wt x=x.asN.size+wl x.asP+wt x.as1+wl x.as0+wt x.asW+wl x.as2:=by
 obtain⟨v0,v1,v2,v3,v4,v5,v6,v7⟩:=x
 exact aJ.wt_mk v0 v1 v2 v3 v4 v5 v6 v7
theorem aL.wt_mk(v0:ByteArray)(v1:LB)(v2:List aE)(v3:List aR)(v4:aA)(v5:aG):wt (aL.mk v0 v1 v2 v3 v4 v5)=v0.size+wl v1+wl v2+wl v3+wt v4+wt v5:=by
 show Tr.bulkL (aL.tr (.mk v0 v1 v2 v3 v4 v5))=_
 rw [aL.bk_mk]
 simp only [CP,aE.wl_bulk,aR.wl_bulk]
 try rfl
theorem aL.wt_eq(x:aL):wt x=x.asD.size+wl x.asP+wl x.as0+wl x.asU+wt x.asT+wt x.asM:=by
 obtain⟨v0,v1,v2,v3,v4,v5⟩:=x
 exact aL.wt_mk v0 v1 v2 v3 v4 v5
theorem aK.wt_mk(v0:ByteArray)(v1:LB)(v2:List aQ)(v3:List aI)(v4:List aJ)(v5:List aL):wt (aK.mk v0 v1 v2 v3 v4 v5)=v0.size+wl v1+wl v2+wl v3+wl v4+wl v5:=by
 show Tr.bulkL (aK.tr (.mk v0 v1 v2 v3 v4 v5))=_
 rw [aK.bk_mk]
 simp only [CP,aQ.wl_bulk,aI.wl_bulk,aJ.wl_bulk,aL.wl_bulk]
 try rfl
theorem aK.wt_eq(x:aK):wt x=x.asD.size+wl x.atC+wl x.asQ+wl x.asL+wl x.asS+wl x.asY:=by
 obtain⟨v0,v1,v2,v3,v4,v5⟩:=x
 exact aK.wt_mk v0 v1 v2 v3 v4 v5
theorem aF.wt_mk(v0:List aK):wt (aF.mk v0)=wl v0:=by
 show Tr.bulkL (aF.tr (.mk v0))=_
 rw [aF.bk_mk]
 simp only [aK.wl_bulk]
 try rfl
theorem aF.wt_eq(x:aF):wt x=wl x.asE:=by
 obtain⟨v0⟩:=x
 exact aF.wt_mk v0
theorem aB.wt_mk(v0:ByteArray)(v1:List aB):wt (aB.mk v0 v1)=v0.size+wl v1:=by
 show Tr.bulkL (aB.tr (.mk v0 v1))=_
 rw [aB.bk_mk]
 simp only [aB.wl_bulk]
 try rfl
theorem aB.wt_eq(x:aB):wt x=x.asK.size+wl x.asF:=by
 obtain⟨v0,v1⟩:=x
 exact aB.wt_mk v0 v1
end Go.Proofs.YtfcoaagbccmahaaGreat
