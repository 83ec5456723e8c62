/- Rules and walks. No conditions but those told. -/
import Derived.Test.YtfcoaagbccmahaaGreatQh3614ae5e
set_option linter.unusedSimpArgs false
set_option linter.unusedVariables false
namespace Go.Proofs.YtfcoaagbccmahaaGreat.W
set_option maxRecDepth 100000
set_option maxHeartbeats 40000000
noncomputable section
open Tryz Go.RowKit Go.Proofs
attribute [local irreducible] lt
abbrev MW:=DS→(LB)→Int→Option (aA×DS)
def SL(m:MW):Prop:= ∀(pc:DS) (p4:LB) (p3:Int) (r:aA×DS),m pc p4 p3=some r→xF prog 131 [.ptr 0 0,rS p4,pI p3] ⟨[some ⟨133,dC pc⟩],[]⟩ [some ⟨133,dC r.2⟩] 30 3 (aA.trs (r.1.aFt)) (fun k=> .agg [pI r.1.aFw,pS r.1.aFs,jO r.1.aFt k])
theorem abK{m:MW}(h:SL m)(pc:DS)(p4:LB)(p3:Int)(r:aA×DS)(H:m pc p4 p3=some r):cM prog 131 [.ptr 0 0,rS p4,pI p3] ⟨[some ⟨133,dC pc⟩],[]⟩ (fun q t=>q=((aA.pv r.1):PV)∧t=⟨[some ⟨133,dC r.2⟩],[]⟩):=(h pc p4 p3 r H).plain (fun _=>mG) (hp:=atN)
def XW(fu:Nat)(p9:MW)(pc:DS)(p4:LB)(p3:Int):J (aA×DS):=lt (pc.after 8) fun d1=>sw (decide ((pc.below 8:Int)<3)) (sw (decide ((p4.length:Int)>0)) (lt (d1.after p4.length) fun d5=>gd (d1.below p4.length<(p4).length) (bd (qO fu (aR p4 (d1.below p4.length))) fun x9=>some ((aA.mk x9.aFw x9.aFs x9.aFt),d5))) (sw (decide ((pc.below 8:Int)<5)) (lt (d1.after ([fE,eU,kY]:LB).length) fun d11=>lt (d1.pick ([fE,eU,kY]:LB)) fun y13=>bd (iJ fu y13 ([])) fun x16=>some ((aA.mk x16.aFw x16.aFs x16.aFt),d11)) (sw (decide (p3≤0)) (lt (d1.after ([fE,eU,kY]:LB).length) fun d18=>lt (d1.pick ([fE,eU,kY]:LB)) fun y20=>bd (iJ fu y20 ([])) fun x23=>some ((aA.mk x23.aFw x23.aFs x23.aFt),d18)) (sw (decide ((pc.below 8:Int)=5)) (bd (p9 d1 p4 (bB (p3-1))) fun(x26,x27)=>bd (p9 x27 p4 (bB (p3-1))) fun(x29,x30)=>bd (iJ fu vJ ([(aA.mk x26.aFw x26.aFs x26.aFt),(aA.mk x29.aFw x29.aFs x29.aFt)]:Z aA)) fun x32=>some ((aA.mk x32.aFw x32.aFs x32.aFt),x30)) (lt (d1.after ([cV,cV,AG]:LB).length) fun d33=>lt (d1.pick ([cV,cV,AG]:LB)) fun y35=>bd (p9 d33 p4 (bB (p3-1))) fun(x38,x39)=>bd (iJ fu y35 ([(aA.mk x38.aFw x38.aFs x38.aFt)]:Z aA)) fun x41=>some ((aA.mk x41.aFw x41.aFs x41.aFt),x39)))))) (sw (decide ((pc.below 8:Int)<5)) (lt (d1.after ([fE,eU,kY]:LB).length) fun d43=>lt (d1.pick ([fE,eU,kY]:LB)) fun y45=>bd (iJ fu y45 ([])) fun x48=>some ((aA.mk x48.aFw x48.aFs x48.aFt),d43)) (sw (decide (p3≤0)) (lt (d1.after ([fE,eU,kY]:LB).length) fun d50=>lt (d1.pick ([fE,eU,kY]:LB)) fun y52=>bd (iJ fu y52 ([])) fun x55=>some ((aA.mk x55.aFw x55.aFs x55.aFt),d50)) (sw (decide ((pc.below 8:Int)=5)) (bd (p9 d1 p4 (bB (p3-1))) fun(x58,x59)=>bd (p9 x59 p4 (bB (p3-1))) fun(x61,x62)=>bd (iJ fu vJ ([(aA.mk x58.aFw x58.aFs x58.aFt),(aA.mk x61.aFw x61.aFs x61.aFt)]:Z aA)) fun x64=>some ((aA.mk x64.aFw x64.aFs x64.aFt),x62)) (lt (d1.after ([cV,cV,AG]:LB).length) fun d65=>lt (d1.pick ([cV,cV,AG]:LB)) fun y67=>bd (p9 d65 p4 (bB (p3-1))) fun(x70,x71)=>bd (iJ fu y67 ([(aA.mk x70.aFw x70.aFs x70.aFt)]:Z aA)) fun x73=>some ((aA.mk x73.aFw x73.aFs x73.aFt),x71)))))
theorem aoO(fu:Nat)(p9:MW)(pA:SL p9):SL (XW fu p9):=by
 intro pc p4 p3 r H
 unfold xF
 refine qJ func131 H (fun C hC H=>?_)
 refine gQ 7 ?_;refine gM H fun d1 h2 H=>(q1 (fO [0] [] func73 (FJ h2 (fL pc 8))) ?_)
 refine gQ 9 ?_;refine dY 13 H (fun g3 H=>?_) fun g3 H=>?_
 ·have g3n:pc.below 8<3:=by have:=of_decide_eq_true g3;omega
  refine gQ 6 ?_;refine bG H (fun h4 H=>?_) (fun h4 H=>?_)
  ·refine gQ 6 ?_;refine gM H fun d5 h6 H=>(q1 (fO [0] [] func73 (FJ h6 (fL d1 p4.length))) (cB H fun z7 H=>?_))
   refine gQ 2 ?_;refine bN H fun x9 z8 H=>(q1 (WT (B:= []) (R:=fun k=> .agg [pI x9.aFw,pS x9.aFs,jO x9.aFt k]) (ps:= [_]) (qs:= [pS (aR p4 (d1.below p4.length))]) func137 (fun k k'=>(.agg (.cons (.free _ rfl) (.cons (.free _ rfl) (.cons Mv.acc JE.nil))))) (mC fu (aR p4 (d1.below p4.length)) _ z8)) ?_)
   refine gQ 2 ?_;refine dR.ret ?_
   obtain rfl:_=r:=(tO H:)
   exact SX (st':=⟨[some ⟨133,dC d5⟩],[⟨30,3,aA.trs (x9.aFt),false⟩]⟩) ⟨0,rfl,rfl,rfl⟩ (hr:=⟨⟨_,_,_,rfl,rfl,NT.h,rfl,rfl⟩,trivial⟩)
  refine gQ 5 ?_;refine dY 29 H (fun g10 H=>?_) fun g10 H=>?_
  ·have g10n:pc.below 8<5:=by have:=of_decide_eq_true g10;omega
   refine gQ 9 ?_;refine q1 (iL ([fE,eU,kY]:LB)) (gM H fun d11 h12 H=>(gM H fun y13 h14 H=>(q1 (fO [0] [] func48 (QE h12 h14 (gF d1 ([fE,eU,kY]:LB) (by decide)))) (bN H fun x16 z15 H=>(q1 (WT (B:= []) (R:=fun k=> .agg [pI x16.aFw,pS x16.aFs,jO x16.aFt k]) (ps:= [_,_]) (qs:= [pS y13,_]) func47 (fun k k'=>(.agg (.cons (.free _ rfl) (.cons (.free _ rfl) (.cons Mv.acc JE.nil))))) (jZ fu y13 ([]) _ z15)) ?_)))))
   refine gQ 2 ?_;refine dR.ret ?_
   obtain rfl:_=r:=(tO H:)
   exact SX (st':=⟨[some ⟨133,dC d11⟩],[⟨30,3,aA.trs (x16.aFt),false⟩]⟩) ⟨0,rfl,rfl,rfl⟩ (hr:=⟨⟨_,_,_,rfl,rfl,NT.h,rfl,rfl⟩,trivial⟩)
  refine gQ 5 ?_;refine bG H (fun h17 H=>?_) (fun h17 H=>?_)
  ·refine gQ 3 ?_;refine q1 (iL ([fE,eU,kY]:LB)) (gM H fun d18 h19 H=>(gM H fun y20 h21 H=>(q1 (fO [0] [] func48 (QE h19 h21 (gF d1 ([fE,eU,kY]:LB) (by decide)))) (bN H fun x23 z22 H=>(q1 (WT (B:= []) (R:=fun k=> .agg [pI x23.aFw,pS x23.aFs,jO x23.aFt k]) (ps:= [_,_]) (qs:= [pS y20,_]) func47 (fun k k'=>(.agg (.cons (.free _ rfl) (.cons (.free _ rfl) (.cons Mv.acc JE.nil))))) (jZ fu y20 ([]) _ z22)) ?_)))))
   refine gQ 2 ?_;refine dR.ret ?_
   obtain rfl:_=r:=(tO H:)
   exact SX (st':=⟨[some ⟨133,dC d18⟩],[⟨30,3,aA.trs (x23.aFt),false⟩]⟩) ⟨0,rfl,rfl,rfl⟩ (hr:=⟨⟨_,_,_,rfl,rfl,NT.h,rfl,rfl⟩,trivial⟩)
  refine gQ 6 ?_;refine bG H (fun h24 H=>?_) (fun h24 H=>?_)
  ·refine gQ 6 ?_;refine eX H fun x26 x27 z25 H=>(q1 (nV (pre:=⟨[some ⟨133,dC d1⟩],[]⟩) (B:= [some ⟨133,dC x27⟩]) (R:=fun k=> .agg [pI x26.aFw,pS x26.aFs,jO x26.aFt k]) (ps:= [_,_,_]) (qs:= [.ptr 0 0,rS p4,pI (bB (p3-1))]) [0] rfl rfl func131 (by kernel_rfl) rfl rfl rfl (lM.of ⟨⟨_,rfl,rfl,mG,rfl⟩,trivial⟩ trivial (by decide) (by decide)) rfl mG rfl rfl rfl (fun k k'=>(.agg (.cons (.free _ rfl) (.cons (.free _ rfl) (.cons Mv.acc JE.nil))))) (pA d1 p4 (bB (p3-1)) _ z25)) ?_)
   refine gQ 4 ?_;refine eX H fun x29 x30 z28 H=>(q1 (nV (pre:=⟨[some ⟨133,dC x27⟩],[]⟩) (B:= [some ⟨133,dC x30⟩]) (R:=fun k=> .agg [pI x29.aFw,pS x29.aFs,jO x29.aFt k]) (ps:= [_,_,_]) (qs:= [.ptr 0 0,rS p4,pI (bB (p3-1))]) [0] rfl rfl func131 (by kernel_rfl) rfl rfl rfl (lM.of ⟨⟨_,rfl,rfl,mG,rfl⟩,trivial⟩ trivial (by decide) (by decide)) rfl mG rfl rfl rfl (fun k k'=>(.agg (.cons (.free _ rfl) (.cons (.free _ rfl) (.cons Mv.acc JE.nil))))) (pA x27 p4 (bB (p3-1)) _ z28)) (q1 (sM ([(aA.mk x26.aFw x26.aFs x26.aFt),(aA.mk x29.aFw x29.aFs x29.aFt)]:Z aA)) (bN H fun x32 z31 H=>(q1 (WT (B:= []) (R:=fun k=> .agg [pI x32.aFw,pS x32.aFs,jO x32.aFt k]) (ps:= [_,_]) (qs:= [pS vJ,aV ([(aA.mk x26.aFw x26.aFs x26.aFt),(aA.mk x29.aFw x29.aFs x29.aFt)]:Z aA)]) func47 (fun k k'=>(.agg (.cons (.free _ rfl) (.cons (.free _ rfl) (.cons Mv.acc JE.nil))))) (jZ fu vJ ([(aA.mk x26.aFw x26.aFs x26.aFt),(aA.mk x29.aFw x29.aFs x29.aFt)]:Z aA) _ z31)) ?_))))
   refine gQ 2 ?_;refine dR.ret ?_
   obtain rfl:_=r:=(tO H:)
   exact SX (st':=⟨[some ⟨133,dC x30⟩],[⟨30,3,aA.trs (x26.aFt),false⟩,⟨30,3,aA.trs (x29.aFt),false⟩,⟨30,3,aA.trs (([(aA.mk x26.aFw x26.aFs x26.aFt),(aA.mk x29.aFw x29.aFs x29.aFt)]:Z aA)),false⟩,⟨30,3,aA.trs (x32.aFt),false⟩]⟩) ⟨3,rfl,rfl,rfl⟩ (hr:=⟨⟨_,_,_,rfl,rfl,NT.h,rfl,rfl⟩,trivial⟩)
  refine gQ 4 ?_;refine q1 (iL ([cV,cV,AG]:LB)) (gM H fun d33 h34 H=>(gM H fun y35 h36 H=>(q1 (fO [0] [] func48 (QE h34 h36 (gF d1 ([cV,cV,AG]:LB) (by decide)))) ?_)))
  refine gQ 4 ?_;refine eX H fun x38 x39 z37 H=>(q1 (nV (pre:=⟨[some ⟨133,dC d33⟩],[]⟩) (B:= [some ⟨133,dC x39⟩]) (R:=fun k=> .agg [pI x38.aFw,pS x38.aFs,jO x38.aFt k]) (ps:= [_,_,_]) (qs:= [.ptr 0 0,rS p4,pI (bB (p3-1))]) [0] rfl rfl func131 (by kernel_rfl) rfl rfl rfl (lM.of ⟨⟨_,rfl,rfl,mG,rfl⟩,trivial⟩ trivial (by decide) (by decide)) rfl mG rfl rfl rfl (fun k k'=>(.agg (.cons (.free _ rfl) (.cons (.free _ rfl) (.cons Mv.acc JE.nil))))) (pA d33 p4 (bB (p3-1)) _ z37)) (q1 (sM ([(aA.mk x38.aFw x38.aFs x38.aFt)]:Z aA)) (bN H fun x41 z40 H=>(q1 (WT (B:= []) (R:=fun k=> .agg [pI x41.aFw,pS x41.aFs,jO x41.aFt k]) (ps:= [_,_]) (qs:= [pS y35,aV ([(aA.mk x38.aFw x38.aFs x38.aFt)]:Z aA)]) func47 (fun k k'=>(.agg (.cons (.free _ rfl) (.cons (.free _ rfl) (.cons Mv.acc JE.nil))))) (jZ fu y35 ([(aA.mk x38.aFw x38.aFs x38.aFt)]:Z aA) _ z40)) ?_))))
  refine gQ 2 ?_;refine dR.ret ?_
  obtain rfl:_=r:=(tO H:)
  exact SX (st':=⟨[some ⟨133,dC x39⟩],[⟨30,3,aA.trs (x38.aFt),false⟩,⟨30,3,aA.trs (([(aA.mk x38.aFw x38.aFs x38.aFt)]:Z aA)),false⟩,⟨30,3,aA.trs (x41.aFt),false⟩]⟩) ⟨2,rfl,rfl,rfl⟩ (hr:=⟨⟨_,_,_,rfl,rfl,NT.h,rfl,rfl⟩,trivial⟩)
 refine gQ 12 ?_;refine dY 29 H (fun g42 H=>?_) fun g42 H=>?_
 ·have g42n:pc.below 8<5:=by have:=of_decide_eq_true g42;omega
  refine gQ 9 ?_;refine q1 (iL ([fE,eU,kY]:LB)) (gM H fun d43 h44 H=>(gM H fun y45 h46 H=>(q1 (fO [0] [] func48 (QE h44 h46 (gF d1 ([fE,eU,kY]:LB) (by decide)))) (bN H fun x48 z47 H=>(q1 (WT (B:= []) (R:=fun k=> .agg [pI x48.aFw,pS x48.aFs,jO x48.aFt k]) (ps:= [_,_]) (qs:= [pS y45,_]) func47 (fun k k'=>(.agg (.cons (.free _ rfl) (.cons (.free _ rfl) (.cons Mv.acc JE.nil))))) (jZ fu y45 ([]) _ z47)) ?_)))))
  refine gQ 2 ?_;refine dR.ret ?_
  obtain rfl:_=r:=(tO H:)
  exact SX (st':=⟨[some ⟨133,dC d43⟩],[⟨30,3,aA.trs (x48.aFt),false⟩]⟩) ⟨0,rfl,rfl,rfl⟩ (hr:=⟨⟨_,_,_,rfl,rfl,NT.h,rfl,rfl⟩,trivial⟩)
 refine gQ 5 ?_;refine bG H (fun h49 H=>?_) (fun h49 H=>?_)
 ·refine gQ 3 ?_;refine q1 (iL ([fE,eU,kY]:LB)) (gM H fun d50 h51 H=>(gM H fun y52 h53 H=>(q1 (fO [0] [] func48 (QE h51 h53 (gF d1 ([fE,eU,kY]:LB) (by decide)))) (bN H fun x55 z54 H=>(q1 (WT (B:= []) (R:=fun k=> .agg [pI x55.aFw,pS x55.aFs,jO x55.aFt k]) (ps:= [_,_]) (qs:= [pS y52,_]) func47 (fun k k'=>(.agg (.cons (.free _ rfl) (.cons (.free _ rfl) (.cons Mv.acc JE.nil))))) (jZ fu y52 ([]) _ z54)) ?_)))))
  refine gQ 2 ?_;refine dR.ret ?_
  obtain rfl:_=r:=(tO H:)
  exact SX (st':=⟨[some ⟨133,dC d50⟩],[⟨30,3,aA.trs (x55.aFt),false⟩]⟩) ⟨0,rfl,rfl,rfl⟩ (hr:=⟨⟨_,_,_,rfl,rfl,NT.h,rfl,rfl⟩,trivial⟩)
 refine gQ 6 ?_;refine bG H (fun h56 H=>?_) (fun h56 H=>?_)
 ·refine gQ 6 ?_;refine eX H fun x58 x59 z57 H=>(q1 (nV (pre:=⟨[some ⟨133,dC d1⟩],[]⟩) (B:= [some ⟨133,dC x59⟩]) (R:=fun k=> .agg [pI x58.aFw,pS x58.aFs,jO x58.aFt k]) (ps:= [_,_,_]) (qs:= [.ptr 0 0,rS p4,pI (bB (p3-1))]) [0] rfl rfl func131 (by kernel_rfl) rfl rfl rfl (lM.of ⟨⟨_,rfl,rfl,mG,rfl⟩,trivial⟩ trivial (by decide) (by decide)) rfl mG rfl rfl rfl (fun k k'=>(.agg (.cons (.free _ rfl) (.cons (.free _ rfl) (.cons Mv.acc JE.nil))))) (pA d1 p4 (bB (p3-1)) _ z57)) ?_)
  refine gQ 4 ?_;refine eX H fun x61 x62 z60 H=>(q1 (nV (pre:=⟨[some ⟨133,dC x59⟩],[]⟩) (B:= [some ⟨133,dC x62⟩]) (R:=fun k=> .agg [pI x61.aFw,pS x61.aFs,jO x61.aFt k]) (ps:= [_,_,_]) (qs:= [.ptr 0 0,rS p4,pI (bB (p3-1))]) [0] rfl rfl func131 (by kernel_rfl) rfl rfl rfl (lM.of ⟨⟨_,rfl,rfl,mG,rfl⟩,trivial⟩ trivial (by decide) (by decide)) rfl mG rfl rfl rfl (fun k k'=>(.agg (.cons (.free _ rfl) (.cons (.free _ rfl) (.cons Mv.acc JE.nil))))) (pA x59 p4 (bB (p3-1)) _ z60)) (q1 (sM ([(aA.mk x58.aFw x58.aFs x58.aFt),(aA.mk x61.aFw x61.aFs x61.aFt)]:Z aA)) (bN H fun x64 z63 H=>(q1 (WT (B:= []) (R:=fun k=> .agg [pI x64.aFw,pS x64.aFs,jO x64.aFt k]) (ps:= [_,_]) (qs:= [pS vJ,aV ([(aA.mk x58.aFw x58.aFs x58.aFt),(aA.mk x61.aFw x61.aFs x61.aFt)]:Z aA)]) func47 (fun k k'=>(.agg (.cons (.free _ rfl) (.cons (.free _ rfl) (.cons Mv.acc JE.nil))))) (jZ fu vJ ([(aA.mk x58.aFw x58.aFs x58.aFt),(aA.mk x61.aFw x61.aFs x61.aFt)]:Z aA) _ z63)) ?_))))
  refine gQ 2 ?_;refine dR.ret ?_
  obtain rfl:_=r:=(tO H:)
  exact SX (st':=⟨[some ⟨133,dC x62⟩],[⟨30,3,aA.trs (x58.aFt),false⟩,⟨30,3,aA.trs (x61.aFt),false⟩,⟨30,3,aA.trs (([(aA.mk x58.aFw x58.aFs x58.aFt),(aA.mk x61.aFw x61.aFs x61.aFt)]:Z aA)),false⟩,⟨30,3,aA.trs (x64.aFt),false⟩]⟩) ⟨3,rfl,rfl,rfl⟩ (hr:=⟨⟨_,_,_,rfl,rfl,NT.h,rfl,rfl⟩,trivial⟩)
 refine gQ 4 ?_;refine q1 (iL ([cV,cV,AG]:LB)) (gM H fun d65 h66 H=>(gM H fun y67 h68 H=>(q1 (fO [0] [] func48 (QE h66 h68 (gF d1 ([cV,cV,AG]:LB) (by decide)))) ?_)))
 refine gQ 4 ?_;refine eX H fun x70 x71 z69 H=>(q1 (nV (pre:=⟨[some ⟨133,dC d65⟩],[]⟩) (B:= [some ⟨133,dC x71⟩]) (R:=fun k=> .agg [pI x70.aFw,pS x70.aFs,jO x70.aFt k]) (ps:= [_,_,_]) (qs:= [.ptr 0 0,rS p4,pI (bB (p3-1))]) [0] rfl rfl func131 (by kernel_rfl) rfl rfl rfl (lM.of ⟨⟨_,rfl,rfl,mG,rfl⟩,trivial⟩ trivial (by decide) (by decide)) rfl mG rfl rfl rfl (fun k k'=>(.agg (.cons (.free _ rfl) (.cons (.free _ rfl) (.cons Mv.acc JE.nil))))) (pA d65 p4 (bB (p3-1)) _ z69)) (q1 (sM ([(aA.mk x70.aFw x70.aFs x70.aFt)]:Z aA)) (bN H fun x73 z72 H=>(q1 (WT (B:= []) (R:=fun k=> .agg [pI x73.aFw,pS x73.aFs,jO x73.aFt k]) (ps:= [_,_]) (qs:= [pS y67,aV ([(aA.mk x70.aFw x70.aFs x70.aFt)]:Z aA)]) func47 (fun k k'=>(.agg (.cons (.free _ rfl) (.cons (.free _ rfl) (.cons Mv.acc JE.nil))))) (jZ fu y67 ([(aA.mk x70.aFw x70.aFs x70.aFt)]:Z aA) _ z72)) ?_))))
 refine gQ 2 ?_;refine dR.ret ?_
 obtain rfl:_=r:=(tO H:)
 exact SX (st':=⟨[some ⟨133,dC x71⟩],[⟨30,3,aA.trs (x70.aFt),false⟩,⟨30,3,aA.trs (([(aA.mk x70.aFw x70.aFs x70.aFt)]:Z aA)),false⟩,⟨30,3,aA.trs (x73.aFt),false⟩]⟩) ⟨2,rfl,rfl,rfl⟩ (hr:=⟨⟨_,_,_,rfl,rfl,NT.h,rfl,rfl⟩,trivial⟩)
def mP:Nat→DS→(LB)→Int→J (aA×DS)
 |0,_,_,_=>none
 |fu+1,pc,p4,p3=>XW fu (mP fu) pc p4 p3
theorem ar2(fu:Nat):SL (mP fu):=by
 induction fu with
 |zero=>exact(fun pc p4 p3 r H=>by simp only [mP] at H;cases H)
 |succ fu ih=>exact(fun pc p4 p3 r H=>by simp only [mP] at H;exact aoO fu (mP fu) ih pc p4 p3 r H)
theorem SM(fu:Nat):SL (mP fu):=(ar2 fu)
abbrev t6:=aA→Option aA
abbrev oT:=(List aA)→Option ((List aA))
def G8(m:t6):Prop:= ∀(pt:aA) (r:aA),m pt=some r→bU prog 56 [(aA.pv pt)] ((aA.pv r):PV)
def E5(m:oT):Prop:= ∀(p8:Z aA) (r:(Z aA)),m p8=some r→bU prog 111 [aV p8] (aV r:PV)
def MR(fu:Nat)(p6:t6)(p5:oT)(pt:aA):J aA:=bd (p5 pt.aFt) fun x2=>some (aA.mk pt.aFw pt.aFs x2)
theorem ahJ(fu:Nat)(p6:t6)(p5:oT)(pF:G8 p6)(pD:E5 p5):G8 (MR fu p6 p5):=by
 intro pt r H
 refine qJ func56 H (fun C hC H=>?_)
 refine gQ 2 ?_;refine q1 (fQ (cF pt)) ?_;refine gQ 3 ?_;refine bN H fun x2 z1 H=>(dW (dI [1] bW (dD [3] eG (dI [1] bW (dD [5] eG (dI [1] bW (dD [7] eG (dI [8] (bJ func111 (pD pt.aFt _ z1)) (dI [4,6,9] rQ (iW [2,10] hY (dN ?_)))))))))))
 exact gE 0
def I9(fu:Nat)(p6:t6)(p5:oT)(p8:Z aA):Nat→((Z aA))→J (LR ((Z aA)) ((Z aA))):=fun i1 v3=>bd (p6 (aR p8 i1)) fun x7=>gd ((v3).length+(([x7]:Z aA)).length≤68719476736) (some (.next (v3++([x7]:Z aA))))
def AO(fu:Nat)(p6:t6)(p5:oT)(p8:Z aA):J ((Z aA)):=so (loopN (I9 fu p6 p5 p8) (p8.length-0) 0 ([])) fun v3=>some v3
theorem abE(fu:Nat)(p6:t6)(p5:oT)(pF:G8 p6)(pD:E5 p5):E5 (AO fu p6 p5):=by
 intro p8 r H
 refine qJ func111 H (fun C hC H=>?_)
 refine gQ 6 ?_;refine q1 (sM ([]:Z aA)) ?_;refine gQ 7 ?_;refine gV 0 (aA.tl _) (fun hl4=>?_)
 refine bV (σ:=(Z aA)) (fun i1 v3=>⟨[(0,aV p8),(2,.nil),(3,jO v3 0),(4,pN i1)],⟨[],[⟨30,3,aA.trs (v3),false⟩]⟩⟩) (fun v3=>⟨[(2,.nil),(3,jO v3 0)],⟨[],[⟨30,3,aA.trs (v3),false⟩]⟩⟩) (fA H) ?_ ?_
 ·rintro i1 v3 H
  refine gQ 8 ?_;refine cZ H (fun h5 h5l H=>?_) (fun h5 H=>?_)
  ·refine gQ 8 ?_;refine q1 (gZ (aA.cs (aR p8 i1))) (bN H fun x7 z6 H=>(q1 (bJ func56 (pF (aR p8 i1) _ z6)) (q1 (iL ([x7]:Z aA)) (cB H fun z8 H=>(q1 (lO z8) ?_)))))
   exact gE 7
  exact gE 0
 rintro v3 H
 exact gE 5
mutual
def jH:Nat→aA→J aA
 |0,_=>none
 |fu+1,pt=>MR fu (jH fu) (jG fu) pt
def jG:Nat→(Z aA)→J ((Z aA))
 |0,_=>none
 |fu+1,p8=>AO fu (jH fu) (jG fu) p8
end
theorem alB(fu:Nat):G8 (jH fu)∧E5 (jG fu):=by
 induction fu with
 |zero=>exact⟨(fun pt r H=>by simp only [jH] at H;cases H),(fun p8 r H=>by simp only [jG] at H;cases H)⟩
 |succ fu ih=>exact⟨(fun pt r H=>by simp only [jH] at H;exact ahJ fu (jH fu) (jG fu) ih.1 ih.2 pt r H),(fun p8 r H=>by simp only [jG] at H;exact abE fu (jH fu) (jG fu) ih.1 ih.2 p8 r H)⟩
theorem abF(fu:Nat):G8 (jH fu):=(alB fu).1
def ar1(m:Y→aA→J aA):Prop:= ∀(pE:Y) (pt:aA) (r:aA),m pE pt=some r→xF prog 139 [pS pE,(aA.pv pt)] ⟨[],[]⟩ [] 30 3 (aA.trs (r.aFt)) (fun k=> .agg [pI r.aFw,pS r.aFs,jO r.aFt k])
def HB(fu:Nat)(pE:Y)(pt:aA):J aA:=bd (jH fu pt) fun x2=>some (aA.mk 3 pE ([x2]:Z aA))
theorem abJ(fu:Nat):ar1 (HB fu):=by
 intro pE pt r H
 unfold xF
 refine qJ func139 H (fun C hC H=>?_)
 refine gQ 2 ?_;refine q1 (fQ (cF pt)) ?_;refine gQ 5 ?_;refine q1 (b4 [pI pt.aFw,pS pt.aFs,aV pt.aFt]) (bN H fun x2 z1 H=>(q1 (bJ func56 (abF fu pt _ z1)) (q1 (sM ([x2]:Z aA)) ?_)))
 refine gQ 3 ?_;refine dR.ret ?_
 obtain rfl:_=r:=(tO H:)
 exact SX (st':=⟨[],[⟨30,3,aA.trs (([x2]:Z aA)),false⟩]⟩) ⟨0,rfl,rfl,rfl⟩ (hr:=⟨⟨_,_,_,rfl,rfl,NT.h,rfl,rfl⟩,trivial⟩)
def aeP(m:DS→Int→J (aA×DS)):Prop:= ∀(pc:DS) (p3:Int) (r:aA×DS),m pc p3=some r→xF prog 132 [.ptr 0 0,pI p3] ⟨[some ⟨133,dC pc⟩],[]⟩ [some ⟨133,dC r.2⟩] 30 3 (aA.trs (r.1.aFt)) (fun k=> .agg [pI r.1.aFw,pS r.1.aFs,jO r.1.aFt k])
theorem yZ{m:DS→Int→J (aA×DS)}(h:aeP m)(pc:DS)(p3:Int)(r:aA×DS)(H:m pc p3=some r):cM prog 132 [.ptr 0 0,pI p3] ⟨[some ⟨133,dC pc⟩],[]⟩ (fun q t=>q=((aA.pv r.1):PV)∧t=⟨[some ⟨133,dC r.2⟩],[]⟩):=(h pc p3 r H).plain (fun _=>mG) (hp:=atN)
def sJ(fu:Nat)(pc:DS)(p3:Int):J (aA×DS):=bd (mP fu pc ([hH,ES]:LB) p3) fun(x2,x3)=>lt (x3.after 8) fun d4=>sw (decide ((x3.below 8:Int)=0)) (lt (d4.after ([eV,bH]:LB).length) fun d7=>lt (d4.pick ([eV,bH]:LB)) fun y9=>bd (HB fu y9 (aA.mk x2.aFw x2.aFs x2.aFt)) fun x12=>some ((aA.mk x12.aFw x12.aFs x12.aFt),d7)) (sw (decide ((x3.below 8:Int)=1)) (bd (HB fu eV (aA.mk x2.aFw x2.aFs x2.aFt)) fun x15=>bd (iJ fu cV ([(aA.mk x15.aFw x15.aFs x15.aFt)]:Z aA)) fun x17=>some ((aA.mk x17.aFw x17.aFs x17.aFt),d4)) (sw (decide ((x3.below 8:Int)=2)) (some ((aA.mk 4 bH []),d4)) (some ((aA.mk x2.aFw x2.aFs x2.aFt),d4))))
theorem yY(fu:Nat):aeP (sJ fu):=by
 intro pc p3 r H
 unfold xF
 refine qJ func132 H (fun C hC H=>?_)
 refine gQ 7 ?_;refine q1 (iL ([hH,ES]:LB)) (q1 bI (eX H fun x2 x3 z1 H=>(q1 (nV (pre:=⟨[some ⟨133,dC pc⟩],[]⟩) (B:= [some ⟨133,dC x3⟩]) (R:=fun k=> .agg [pI x2.aFw,pS x2.aFs,jO x2.aFt k]) (ps:= [_,_,_]) (qs:= [.ptr 0 0,rS ([hH,ES]:LB),pI p3]) [0] rfl rfl func131 (by kernel_rfl) rfl rfl rfl (lM.of ⟨⟨_,rfl,rfl,mG,rfl⟩,trivial⟩ trivial (by decide) (by decide)) rfl mG rfl rfl rfl (fun k k'=>(.agg (.cons (.free _ rfl) (.cons (.free _ rfl) (.cons Mv.acc JE.nil))))) (SM fu pc ([hH,ES]:LB) p3 _ z1)) ?_)))
 refine gQ 7 ?_;refine gM H fun d4 h5 H=>(q1 (fO [0] [] func73 (FJ h5 (fL x3 8))) ?_)
 refine gQ 7 ?_;refine bG H (fun h6 H=>?_) (fun h6 H=>?_)
 ·refine qS (gM H fun d7 h8 H=>(gM H fun y9 h10 H=>(bN H fun x12 z11 H=>(dW (dI [0] bI (dI [] (iL ([eV,bH]:LB)) (dE [14,15] (fO [0] [] func48 (QE h8 h10 (gF d4 ([eV,bH]:LB) (by decide)))) (dB [5] 0 1 (BG [pI x2.aFw,pS x2.aFs,jO x2.aFt 0]) (dE [16,17] (WT (B:= []) (R:=fun k=> .agg [pI x12.aFw,pS x12.aFs,jO x12.aFt k]) (ps:= [_,_]) (qs:= [pS y9,.agg [pI x2.aFw,pS x2.aFs,aV x2.aFt]]) func139 (fun k k'=>(.agg (.cons (.free _ rfl) (.cons (.free _ rfl) (.cons Mv.acc JE.nil))))) (abJ fu y9 (aA.mk x2.aFw x2.aFs x2.aFt) _ z11)) (iW [4,18] hY (dN (dR.ret ?_))))))))))))
  obtain rfl:_=r:=(tO H:)
  exact SX (st':=⟨[some ⟨133,dC d7⟩],[⟨30,3,aA.trs (x2.aFt),false⟩,⟨30,3,aA.trs (x12.aFt),false⟩]⟩) ⟨1,rfl,rfl,rfl⟩ (hr:=⟨⟨_,_,_,rfl,rfl,NT.h,rfl,rfl⟩,trivial⟩)
 refine gQ 5 ?_;refine bG H (fun h13 H=>?_) (fun h13 H=>?_)
 ·refine gQ 2 ?_;refine q1 (b4 [pI x2.aFw,pS x2.aFs,jO x2.aFt 0]) (bN H fun x15 z14 H=>(q1 (WT (B:= []) (R:=fun k=> .agg [pI x15.aFw,pS x15.aFs,jO x15.aFt k]) (ps:= [_,_]) (qs:= [pS eV,.agg [pI x2.aFw,pS x2.aFs,aV x2.aFt]]) func139 (fun k k'=>(.agg (.cons (.free _ rfl) (.cons (.free _ rfl) (.cons Mv.acc JE.nil))))) (abJ fu eV (aA.mk x2.aFw x2.aFs x2.aFt) _ z14)) (q1 (sM ([(aA.mk x15.aFw x15.aFs x15.aFt)]:Z aA)) (bN H fun x17 z16 H=>(q1 (WT (B:= []) (R:=fun k=> .agg [pI x17.aFw,pS x17.aFs,jO x17.aFt k]) (ps:= [_,_]) (qs:= [pS cV,aV ([(aA.mk x15.aFw x15.aFs x15.aFt)]:Z aA)]) func47 (fun k k'=>(.agg (.cons (.free _ rfl) (.cons (.free _ rfl) (.cons Mv.acc JE.nil))))) (jZ fu cV ([(aA.mk x15.aFw x15.aFs x15.aFt)]:Z aA) _ z16)) ?_)))))
  refine gQ 2 ?_;refine dR.ret ?_
  obtain rfl:_=r:=(tO H:)
  exact SX (st':=⟨[some ⟨133,dC d4⟩],[⟨30,3,aA.trs (x2.aFt),false⟩,⟨30,3,aA.trs (x15.aFt),false⟩,⟨30,3,aA.trs (([(aA.mk x15.aFw x15.aFs x15.aFt)]:Z aA)),false⟩,⟨30,3,aA.trs (x17.aFt),false⟩]⟩) ⟨3,rfl,rfl,rfl⟩ (hr:=⟨⟨_,_,_,rfl,rfl,NT.h,rfl,rfl⟩,trivial⟩)
 refine gQ 5 ?_;refine bG H (fun h18 H=>?_) (fun h18 H=>?_)
 ·refine gQ 5 ?_;refine kC (eY (k:=1) (j:=2) 30 3 (by decide) rfl rfl) (dR.ret ?_)
  obtain rfl:_=r:=(tO H:)
  exact SX (st':=⟨[some ⟨133,dC d4⟩],[⟨30,3,aA.trs (x2.aFt),false⟩,⟨30,3,aA.trs ([]),false⟩]⟩) ⟨1,rfl,rfl,rfl⟩ (hr:=⟨⟨_,_,_,rfl,rfl,NT.h,rfl,rfl⟩,trivial⟩)
 refine gQ 3 ?_;refine q1 (b4 [pI x2.aFw,pS x2.aFs,jO x2.aFt 0]) ?_;refine gQ 2 ?_;refine dR.ret ?_
 obtain rfl:_=r:=(tO H:)
 exact SX (st':=⟨[some ⟨133,dC d4⟩],[⟨30,3,aA.trs (x2.aFt),false⟩]⟩) ⟨0,rfl,rfl,rfl⟩ (hr:=⟨⟨_,_,_,rfl,rfl,NT.h,rfl,rfl⟩,trivial⟩)
def xA(fu:Nat)(pk:Int)(pH:Y)(pG:Z aM):J aM:=gd (([]:Z aM).length+(pG).length≤68719476736) (some (aM.mk pk s_ pH 0 (aA.mk 0 s_ []) (([])++pG) []))
theorem yQ(fu:Nat)(pk:Int)(pH:Y)(pG:Z aM)(r:aM)(H:xA fu pk pH pG=some r):bU prog 190 [pI pk,pS pH,jV pG] ((aM.pv r)):=by
 refine qJ func190 H (fun C hC H=>?_)
 refine gQ 8 ?_;refine q1 (sM ([]:Z aM)) (q1 bI (cB H fun z1 H=>(q1 (lO z1) ?_)))
 exact gE 3
abbrev vK:=DS→(LB)→Int→Option (aM×DS)
def IR(m:vK):Prop:= ∀(pC:DS) (p7:LB) (p0:Int) (r:aM×DS),m pC p7 p0=some r→cM prog 193 [.ptr 0 0,rS p7,pI p0] ⟨[some ⟨133,dC pC⟩],[]⟩ (fun q t=>q=((aM.pv r.1):PV)∧t=⟨[some ⟨133,dC r.2⟩],[]⟩)
def aj5(fu:Nat)(p1:vK)(pC:DS)(p7:LB)(p0:Int)(d1:DS):J ((aM×DS)⊕Int):=sw (decide (p0≤0)) (some (.inr (((pC.below 13)%3:Nat):Int))) (some (.inr (pC.below 13:Int)))
def aj6(fu:Nat)(p1:vK)(pC:DS)(p7:LB)(p0:Int)(d1:DS)(v3:Int):J ((aM×DS)⊕Bool):=sw (decide (v3=2)) (some (.inr (decide (v3=2)))) (some (.inr (decide (v3=3))))
def PO(fu:Nat)(p1:vK)(pC:DS)(p7:LB)(p0:Int):J (aM×DS):=lt (pC.after 13) fun d1=>so (aj5 fu p1 pC p7 p0 d1) fun v3=>sw (decide (v3=1)) (lt (d1.after 2) fun d6=>some ((aM.mk 2 s_ s_ (d1.below 2:Int) (aA.mk 0 s_ []) [] []),d6)) (so (aj6 fu p1 pC p7 p0 d1 v3) fun v8=>sw (v8) (sw (decide ((p7.length:Int)>0)) (gd (0<(p7).length) (lt (d1.after p7.length) fun d13=>lt (d1.pick p7) fun y15=>bd (yR fu y15) fun x18=>some (x18,d13))) (lt (d1.after 20) fun d19=>bd (wA fu (bB ((d1.below 20:Int)-5))) fun x22=>some (x22,d19))) (sw (decide (v3=4)) (lt (d1.after ([s_f,s_g]:LB).length) fun d24=>lt (d1.pick ([s_f,s_g]:LB)) fun y26=>bd (p1 d24 p7 (bB (p0-1))) fun(x29,x30)=>bd (xA fu 4 y26 ([x29]:Z aM)) fun x32=>some (x32,x30)) (sw (decide (v3=5)) (lt (d1.after ([bH,eV]:LB).length) fun d34=>lt (d1.pick ([bH,eV]:LB)) fun y36=>bd (p1 d34 p7 (bB (p0-1))) fun(x39,x40)=>bd (p1 x40 p7 (bB (p0-1))) fun(x42,x43)=>some ((aM.mk 5 y36 fP 0 (aA.mk 0 s_ []) ([x39,x42]:Z aM) []),x43)) (sw (decide (v3=6)) (bd (p1 d1 p7 (bB (p0-1))) fun(x46,x47)=>bd (p1 x47 p7 (bB (p0-1))) fun(x49,x50)=>bd (xA fu 6 cU ([x46,x49]:Z aM)) fun x52=>some (x52,x50)) (sw (decide (v3=7)) (gd (([]:LB).length+(p7).length≤68719476736) (gd ((([])++p7).length+(([s_h,s_t]:LB)).length≤68719476736) (bd (p1 d1 p7 (bB (p0-1))) fun(x57,x58)=>bd (p1 x58 p7 (bB (p0-1))) fun(x60,x61)=>bd (p1 x61 ((([])++p7)++([s_h,s_t]:LB)) (bB (p0-1))) fun(x63,x64)=>some ((aM.mk 7 s_ s_ 0 (aA.mk 0 s_ []) ([x57]:Z aM) ([(cC.mk gW [] x60),(cC.mk cU ([s_h,s_t]:LB) x63)]:Z cC)),x64)))) (sw (decide (v3=8)) (bd (p1 d1 p7 (bB (p0-1))) fun(x67,x68)=>gd (([]:LB).length+(p7).length≤68719476736) (gd ((([])++p7).length+(([t2]:LB)).length≤68719476736) (bd (p1 x68 ((([])++p7)++([t2]:LB)) (bB (p0-1))) fun(x72,x73)=>bd (xA fu 8 t2 ([x67,x72]:Z aM)) fun x75=>some (x75,x73)))) (sw (decide (v3=9)) (bd (p1 d1 p7 (bB (p0-1))) fun(x78,x79)=>bd (p1 x79 p7 (bB (p0-1))) fun(x81,x82)=>bd (p1 x82 p7 (bB (p0-1))) fun(x84,x85)=>bd (xA fu 9 s_ ([x78,x81,x84]:Z aM)) fun x87=>some (x87,x85)) (sw (decide (v3=10)) (lt (d1.after ([D5,JU,SS,ST,SU]:LB).length) fun d89=>lt (d1.pick ([D5,JU,SS,ST,SU]:LB)) fun y91=>bd (p1 d89 p7 (bB (p0-1))) fun(x94,x95)=>bd (p1 x95 p7 (bB (p0-1))) fun(x97,x98)=>bd (xA fu 10 y91 ([x94,x97]:Z aM)) fun x100=>some (x100,x98)) (sw (decide (v3=11)) (bd (p1 d1 p7 (bB (p0-1))) fun(x103,x104)=>some ((aM.mk 11 bH s_ 0 (aA.mk 0 s_ []) ([x103]:Z aM) []),x104)) (sw (decide (v3=12)) (bd (mP fu d1 ([hH]:LB) 1) fun(x107,x108)=>bd (p1 x108 p7 (bB (p0-1))) fun(x110,x111)=>some ((aM.mk 12 s_ s_ 0 x107 ([x110]:Z aM) []),x111)) (lt (d1.after 20) fun d112=>bd (wA fu (bB ((d1.below 20:Int)-5))) fun x115=>some (x115,d112))))))))))))
theorem ac0(fu:Nat)(p1:vK)(p2:IR p1):IR (PO fu p1):=by
 intro pC p7 p0 r H
 refine qJ func193 H (fun C hC H=>?_)
 refine gQ 7 ?_;refine gM H fun d1 h2 H=>(q1 (fO [0] [] func73 (FJ h2 (fL pC 13))) ?_)
 refine gQ 3 ?_;refine qY (σ:=Int) (fun v3=>⟨[(0,.ptr 0 0),(1,rS p7),(2,pI p0),(6,.ptr 1 0),(7,pI v3)],⟨[some ⟨133,dC d1⟩,some ⟨211,[pI 0,pS s_,pS s_,pI 0,pI 0,pS s_,.nil,.nil,.nil]⟩],[]⟩⟩) (fA H) (fun H=>?_) ?_
 ·refine gQ 5 ?_;refine bG H (fun h4 H=>?_) (fun h4 H=>?_)
  ·refine gQ 2 ?_;refine q1 (X8 (a:=pC.below 13) (b:=3) rfl rfl rfl rfl (by have:=DS.below_lt (d:=pC) (n:=13) (by decide);omega) (by have:=DS.below_lt (d:=pC) (n:=13) (by decide);omega)) ?_;exact gE 2
  exact gE 1
 rintro v3 H
 refine gQ 11 ?_;refine bG H (fun h5 H=>?_) (fun h5 H=>?_)
 ·refine gQ 3 ?_;refine gM H fun d6 h7 H=>(q1 (fO [0] [] func73 (FJ h7 (fL d1 2))) ?_)
  exact gE 3
 refine qS ?_;refine qY (σ:=Bool) (fun v8=>⟨[(0,.ptr 0 0),(1,rS p7),(2,pI p0),(6,.ptr 1 0),(15,pI v3),(21,pB v8)],⟨[some ⟨133,dC d1⟩,some ⟨211,[pI 0,pS s_,pS s_,pI 0,pI 0,pS s_,.nil,.nil,.nil]⟩],[]⟩⟩) (fA H) (fun H=>?_) ?_
 ·refine gQ 5 ?_;refine bG H (fun h9 H=>gE 1) fun h9 H=>?_;exact gE 4
 rintro v8 H
 refine bG H (fun h10 H=>?_) (fun h10 H=>?_)
 ·refine gQ 6 ?_;refine bG H (fun h11 H=>?_) (fun h11 H=>?_)
  ·refine gQ 4 ?_;refine cB H fun z12 H=>(gM H fun d13 h14 H=>(gM H fun y15 h16 H=>(q1 (fO [0] [] func48 (QE h14 h16 (gF d1 p7 z12))) (bN H fun x18 z17 H=>(q1 (bJ func191 (DQ fu y15 _ z17)) ?_)))))
   exact gE 2
  refine gQ 4 ?_;refine gM H fun d19 h20 H=>(q1 (fO [0] [] func73 (FJ h20 (fL d1 20))) (q1 rSw (bN H fun x22 z21 H=>(q1 (bJ func192 (yP fu (bB ((d1.below 20:Int)-5)) _ z21)) ?_))))
  exact gE 2
 refine gQ 5 ?_;refine bG H (fun h23 H=>?_) (fun h23 H=>?_)
 ·refine gQ 3 ?_;refine q1 (iL ([s_f,s_g]:LB)) (gM H fun d24 h25 H=>(gM H fun y26 h27 H=>(q1 (fO [0] [] func48 (QE h25 h27 (gF d1 ([s_f,s_g]:LB) (by decide)))) ?_)))
  refine gQ 4 ?_;refine eX H fun x29 x30 z28 H=>(q1 (fO [0] [] func193 (p2 d24 p7 (bB (p0-1)) _ z28)) (q1 (iL ([x29]:Z aM)) (bN H fun x32 z31 H=>(q1 (bJ func190 (yQ fu 4 y26 ([x29]:Z aM) _ z31)) ?_))))
  exact gE 2
 refine gQ 5 ?_;refine bG H (fun h33 H=>?_) (fun h33 H=>?_)
 ·refine gQ 3 ?_;refine q1 (iL ([bH,eV]:LB)) (gM H fun d34 h35 H=>(gM H fun y36 h37 H=>(q1 (fO [0] [] func48 (QE h35 h37 (gF d1 ([bH,eV]:LB) (by decide)))) ?_)))
  refine gQ 4 ?_;refine eX H fun x39 x40 z38 H=>(q1 (fO [0] [] func193 (p2 d34 p7 (bB (p0-1)) _ z38)) ?_)
  refine gQ 4 ?_;refine eX H fun x42 x43 z41 H=>(q1 (fO [0] [] func193 (p2 x40 p7 (bB (p0-1)) _ z41)) (q1 (iL ([x39,x42]:Z aM)) ?_))
  exact gE 3
 refine gQ 5 ?_;refine bG H (fun h44 H=>?_) (fun h44 H=>?_)
 ·refine gQ 6 ?_;refine eX H fun x46 x47 z45 H=>(q1 (fO [0] [] func193 (p2 d1 p7 (bB (p0-1)) _ z45)) ?_)
  refine gQ 4 ?_;refine eX H fun x49 x50 z48 H=>(q1 (fO [0] [] func193 (p2 x47 p7 (bB (p0-1)) _ z48)) (q1 (iL ([x46,x49]:Z aM)) (bN H fun x52 z51 H=>(q1 (bJ func190 (yQ fu 6 cU ([x46,x49]:Z aM) _ z51)) ?_))))
  exact gE 2
 refine gQ 5 ?_;refine bG H (fun h53 H=>?_) (fun h53 H=>?_)
 ·refine gQ 2 ?_;refine q1 (sM ([]:LB)) (q1 bI (cB H fun z54 H=>(q1 (lO z54) (q1 (iL ([s_h,s_t]:LB)) (cB H fun z55 H=>(q1 (lO z55) ?_))))))
  refine gQ 8 ?_;refine eX H fun x57 x58 z56 H=>(q1 (fO [0] [] func193 (p2 d1 p7 (bB (p0-1)) _ z56)) (q1 (iL ([x57]:Z aM)) ?_))
  refine gQ 4 ?_;refine eX H fun x60 x61 z59 H=>(q1 (fO [0] [] func193 (p2 x58 p7 (bB (p0-1)) _ z59)) (q1 rQ (q1 (iL ([s_h,s_t]:LB)) ?_)))
  refine gQ 4 ?_;refine eX H fun x63 x64 z62 H=>(q1 (fO [0] [] func193 (p2 x61 ((([])++p7)++([s_h,s_t]:LB)) (bB (p0-1)) _ z62)) (q1 rQ (q1 (iL ([(cC.mk gW [] x60),(cC.mk cU ([s_h,s_t]:LB) x63)]:Z cC)) ?_)))
  exact gE 3
 refine gQ 5 ?_;refine bG H (fun h65 H=>?_) (fun h65 H=>?_)
 ·refine gQ 6 ?_;refine eX H fun x67 x68 z66 H=>(q1 (fO [0] [] func193 (p2 d1 p7 (bB (p0-1)) _ z66)) (q1 bI (q1 (sM ([]:LB)) (q1 bI (cB H fun z69 H=>(q1 (lO z69) (q1 (iL ([t2]:LB)) (cB H fun z70 H=>(q1 (lO z70) ?_)))))))))
  refine gQ 2 ?_;refine eX H fun x72 x73 z71 H=>(q1 (fO [0] [] func193 (p2 x68 ((([])++p7)++([t2]:LB)) (bB (p0-1)) _ z71)) (q1 (iL ([x67,x72]:Z aM)) (bN H fun x75 z74 H=>(q1 (bJ func190 (yQ fu 8 t2 ([x67,x72]:Z aM) _ z74)) ?_))))
  exact gE 2
 refine gQ 5 ?_;refine bG H (fun h76 H=>?_) (fun h76 H=>?_)
 ·refine gQ 6 ?_;refine eX H fun x78 x79 z77 H=>(q1 (fO [0] [] func193 (p2 d1 p7 (bB (p0-1)) _ z77)) ?_)
  refine gQ 4 ?_;refine eX H fun x81 x82 z80 H=>(q1 (fO [0] [] func193 (p2 x79 p7 (bB (p0-1)) _ z80)) ?_)
  refine gQ 4 ?_;refine eX H fun x84 x85 z83 H=>(q1 (fO [0] [] func193 (p2 x82 p7 (bB (p0-1)) _ z83)) (q1 (iL ([x78,x81,x84]:Z aM)) (bN H fun x87 z86 H=>(q1 (bJ func190 (yQ fu 9 s_ ([x78,x81,x84]:Z aM) _ z86)) ?_))))
  exact gE 2
 refine gQ 5 ?_;refine bG H (fun h88 H=>?_) (fun h88 H=>?_)
 ·refine gQ 3 ?_;refine q1 (iL ([D5,JU,SS,ST,SU]:LB)) (gM H fun d89 h90 H=>(gM H fun y91 h92 H=>(q1 (fO [0] [] func48 (QE h90 h92 (gF d1 ([D5,JU,SS,ST,SU]:LB) (by decide)))) ?_)))
  refine gQ 4 ?_;refine eX H fun x94 x95 z93 H=>(q1 (fO [0] [] func193 (p2 d89 p7 (bB (p0-1)) _ z93)) ?_)
  refine gQ 4 ?_;refine eX H fun x97 x98 z96 H=>(q1 (fO [0] [] func193 (p2 x95 p7 (bB (p0-1)) _ z96)) (q1 (iL ([x94,x97]:Z aM)) (bN H fun x100 z99 H=>(q1 (bJ func190 (yQ fu 10 y91 ([x94,x97]:Z aM) _ z99)) ?_))))
  exact gE 2
 refine gQ 5 ?_;refine bG H (fun h101 H=>?_) (fun h101 H=>?_)
 ·refine gQ 6 ?_;refine eX H fun x103 x104 z102 H=>(q1 (fO [0] [] func193 (p2 d1 p7 (bB (p0-1)) _ z102)) (q1 (iL ([x103]:Z aM)) ?_))
  exact gE 3
 refine gQ 5 ?_;refine bG H (fun h105 H=>?_) (fun h105 H=>?_)
 ·refine gQ 3 ?_;refine q1 (iL ([hH]:LB)) (eX H fun x107 x108 z106 H=>(q1 (fO [0] [] func131 (abK (SM fu) d1 ([hH]:LB) 1 _ z106)) ?_))
  refine gQ 4 ?_;refine eX H fun x110 x111 z109 H=>(q1 (fO [0] [] func193 (p2 x108 p7 (bB (p0-1)) _ z109)) (q1 (iL ([x110]:Z aM)) ?_))
  exact gE 3
 refine gQ 4 ?_;refine gM H fun d112 h113 H=>(q1 (fO [0] [] func73 (FJ h113 (fL d1 20))) (q1 rSw (bN H fun x115 z114 H=>(q1 (bJ func192 (yP fu (bB ((d1.below 20:Int)-5)) _ z114)) ?_))))
 exact gE 2
def nG:Nat→DS→(LB)→Int→J (aM×DS)
 |0,_,_,_=>none
 |fu+1,pC,p7,p0=>PO fu (nG fu) pC p7 p0
theorem agK(fu:Nat):IR (nG fu):=by
 induction fu with
 |zero=>exact(fun pC p7 p0 r H=>by simp only [nG] at H;cases H)
 |succ fu ih=>exact(fun pC p7 p0 r H=>by simp only [nG] at H;exact ac0 fu (nG fu) ih pC p7 p0 r H)
theorem VW(fu:Nat):IR (nG fu):=(agK fu)
def G9(fu:Nat):J aA:=bd (iJ fu fE ([])) fun x2=>some x2
theorem y1(fu:Nat)(r:aA)(H:G9 fu=some r):bU prog 49 [] ((aA.pv r)):=by
 refine qJ func49 H (fun C hC H=>?_)
 refine gQ 6 ?_;refine bN H fun x2 z1 H=>(q1 (bJ func47 (wE (jZ fu) fE ([]) _ z1)) ?_)
 exact gE 2
def VX(fu:Nat)(pC d1:DS)(y3:Y)(d5:DS)(x8:aM):J ((aL×DS)⊕((LB)×Int×Y×(Z aA)×(Z aD)×DS)):=lt (d5.after 4) fun d15=>sw (decide ((d5.below 4:Int)=0)) (bd (G9 fu) fun x19=>some (.inr ([],x19.aFw,x19.aFs,x19.aFt,[],d15))) (sw (decide ((d5.below 4:Int)=1)) (bd (qO fu hH) fun x22=>bd (iJ fu cV ([x22]:Z aA)) fun x24=>some (.inr (([hH]:LB),x24.aFw,x24.aFs,x24.aFt,([(aD.mk y3 x22)]:Z aD),d15))) (sw (decide ((d5.below 4:Int)=2)) (bd (qO fu hH) fun x27=>bd (qO fu ES) fun x29=>bd (iJ fu vJ ([x27,x29]:Z aA)) fun x31=>some (.inr (([hH,ES]:LB),x31.aFw,x31.aFs,x31.aFt,[],d15))) (bd (qO fu hH) fun x33=>some (.inr (([hH]:LB),x33.aFw,x33.aFs,x33.aFt,([(aD.mk fD x33)]:Z aD),d15)))))
def VY(fu:Nat)(pC d1:DS)(y3:Y)(d5:DS)(x8:aM)(v9:LB)(v10:Int)(v11:Y)(v12:Z aA)(v13:Z aD)(v14:DS):J ((aL×DS)⊕((Z aA)×Bool×Int×Y×DS)):=lt (v14.after 3) fun d39=>sw (decide (v14.below 3=0)) (bd (mP fu d39 v9 1) fun(x43,x44)=>some (.inr (x43.aFt,true,x43.aFw,x43.aFs,x44))) (some (.inr ([],false,0,s_,d39)))
def DU(fu:Nat)(pC:DS):J (aL×DS):=lt (pC.after ([bH,lU,eV]:LB).length) fun d1=>lt (pC.pick ([bH,lU,eV]:LB)) fun y3=>lt (d1.after 9) fun d5=>bd (wA fu (d1.below 9:Int)) fun x8=>so (VX fu pC d1 y3 d5 x8) fun(v9,v10,v11,v12,v13,v14)=>so (VY fu pC d1 y3 d5 x8 v9 v10 v11 v12 v13 v14) fun(v38,v35,v36,v37,v34)=>lt (v34.after 4) fun d45=>lt (d45.after 12) fun d47=>sw (decide ((d45.below 12:Int)=0)) (bd (sJ fu d47 2) fun(x51,x52)=>some ((aL.mk y3 v9 x51 v13 (decide (v34.below 4=0)) v35 (aA.mk v36 v37 v38) ([(aT.mk fP ([fJ]:LB) x8)]:Z aT)),x52)) (sw (decide ((d45.below 12:Int)=1)) (lt (d47.after ([hH,s_c]:LB).length) fun d54=>lt (d47.pick ([hH,s_c]:LB)) fun y56=>gd ((v9).length+(([y56]:LB)).length≤68719476736) (some ((aL.mk y3 (v9++([y56]:LB)) (aA.mk v10 v11 v12) v13 (decide (v34.below 4=0)) v35 (aA.mk v36 v37 v38) ([(aT.mk fP ([fJ]:LB) x8)]:Z aT)),d54))) (sw (decide ((d45.below 12:Int)=2)) (bd (sJ fu d47 1) fun(x61,x62)=>gd ((v13).length+(([(aD.mk lU x61)]:Z aD)).length≤68719476736) (some ((aL.mk y3 v9 (aA.mk v10 v11 v12) (v13++([(aD.mk lU x61)]:Z aD)) (decide (v34.below 4=0)) v35 (aA.mk v36 v37 v38) ([(aT.mk fP ([fJ]:LB) x8)]:Z aT)),x62))) (sw (decide ((d45.below 12:Int)=3)) (bd (nG fu d47 ([fJ,t2]:LB) 2) fun(x66,x67)=>some ((aL.mk y3 v9 (aA.mk v10 v11 v12) v13 (decide (v34.below 4=0)) v35 (aA.mk v36 v37 v38) ([(aT.mk fP ([fJ]:LB) x66)]:Z aT)),x67)) (sw (decide ((d45.below 12:Int)=4)) (bd (G9 fu) fun x70=>some ((aL.mk y3 v9 (aA.mk v10 v11 v12) v13 (decide (v34.below 4=0)) v35 x70 ([(aT.mk fP ([fJ]:LB) x8)]:Z aT)),d47)) (sw (decide ((d45.below 12:Int)=5)) (some ((aL.mk y3 v9 (aA.mk v10 v11 v12) v13 (decide (v34.below 4=0)) v35 (aA.mk v36 v37 v38) ([(aT.mk fP ([]) x8)]:Z aT)),d47)) (some ((aL.mk y3 v9 (aA.mk v10 v11 v12) v13 (decide (v34.below 4=0)) v35 (aA.mk v36 v37 v38) ([(aT.mk fP ([fJ]:LB) x8)]:Z aT)),d47)))))))
theorem akX(fu:Nat)(pC:DS)(r:aL×DS)(H:DU fu pC=some r):cM prog 165 [.ptr 0 0] ⟨[some ⟨133,dC pC⟩],[]⟩ (fun q t=>q=((aL.pv r.1))∧t=⟨[some ⟨133,dC r.2⟩],[]⟩):=by
 refine qJ func165 H (fun C hC H=>?_)
 refine gQ 7 ?_;refine q1 (xD ([bH,lU,eV]:LB)) (gM H fun d1 h2 H=>(gM H fun y3 h4 H=>(q1 (fO [0] [] func48 (QE h2 h4 (gF pC ([bH,lU,eV]:LB) (by decide)))) (q1 (xD ([fJ]:LB)) (q1 bI (gM H fun d5 h6 H=>(q1 (fO [0] [] func73 (FJ h6 (fL d1 9))) (bN H fun x8 z7 H=>(q1 (bJ func192 (yP fu (d1.below 9:Int) _ z7)) (q1 rQ (q1 (rV (cs:= [pS fP,.lit 1 (bA (([fJ]:LB))),pI x8.aFw,pS x8.aFz,pS x8.aFs,pI x8.aGa,pI x8.aFu.aFw,pS x8.aFu.aFs,aV x8.aFu.aFt,jV x8.aFt,tX x8.aFP]) rfl rfl atB.h azF.h rfl rfl rfl (by decide) rfl (by decide)) ?_)))))))))))
 refine gQ 5 ?_;refine qY (σ:=(LB)×Int×Y×(Z aA)×(Z aD)×DS) (fun(v9,v10,v11,v12,v13,v14)=>⟨[(0,.ptr 0 0),(2,.ptr 1 0),(3,.ptr 3 0)],⟨[some ⟨133,dC v14⟩,some ⟨163,[pS s_,.nil,pI 0,pS s_,.nil,.nil,pB false,pB false,pI 0,pS s_,.nil,.nil]⟩,some ⟨242,[pS fP,.lit 1 (bA (([fJ]:LB))),pI x8.aFw,pS x8.aFz,pS x8.aFs,pI x8.aGa,pI x8.aFu.aFw,pS x8.aFu.aFs,aV x8.aFu.aFt,jV x8.aFt,tX x8.aFP]⟩,some ⟨163,[pS y3,.lit 1 (bA (v9)),pI v10,pS v11,aV v12,.lit 4 (aD.trs (v13)),pB false,pB false,pI 0,pS s_,.nil,.bsl 2 1]⟩],[]⟩⟩) (fA H) (fun H=>?_) ?_
 ·refine gQ 3 ?_;refine gM H fun d15 h16 H=>(q1 (fO [0] [] func73 (FJ h16 (fL d5 4))) ?_)
  refine gQ 7 ?_;refine bG H (fun h17 H=>?_) (fun h17 H=>?_)
  ·refine qR (bN H fun x19 z18 H=>(q1 (bJ func49 (y1 fu _ z18)) ?_))
   exact gE 3
  refine gQ 5 ?_;refine bG H (fun h20 H=>?_) (fun h20 H=>?_)
  ·refine gQ 2 ?_;refine q1 (xD ([hH]:LB)) ?_;refine gQ 5 ?_;refine bN H fun x22 z21 H=>(q1 (bJ func137 (m6 (mC fu) hH _ z21)) (q1 (xD ([x22]:Z aA)) (bN H fun x24 z23 H=>(q1 (bJ func47 (wE (jZ fu) cV ([x22]:Z aA) _ z23)) ?_))))
   refine gQ 3 ?_;refine dW (dI [3] bW (dD [36] eG (dI [] (bJ func137 (m6 (mC fu) hH _ z21)) (dI [37,38] rQ (dI [39] (xD ([(aD.mk y3 x22)]:Z aD)) (dI [3] bW (iW [41,40] hY (dN ?_))))))))
   exact gE 0
  refine gQ 5 ?_;refine bG H (fun h25 H=>?_) (fun h25 H=>?_)
  ·refine gQ 2 ?_;refine q1 (xD ([hH,ES]:LB)) ?_;refine gQ 4 ?_;refine bN H fun x27 z26 H=>(q1 (bJ func137 (m6 (mC fu) hH _ z26)) (bN H fun x29 z28 H=>(q1 (bJ func137 (m6 (mC fu) ES _ z28)) (q1 (xD ([x27,x29]:Z aA)) (bN H fun x31 z30 H=>(q1 (bJ func47 (wE (jZ fu) vJ ([x27,x29]:Z aA) _ z30)) ?_))))))
   exact gE 3
  refine gQ 2 ?_;refine q1 (xD ([hH]:LB)) ?_;refine gQ 5 ?_;refine bN H fun x33 z32 H=>(q1 (bJ func137 (m6 (mC fu) hH _ z32)) ?_)
  refine gQ 4 ?_;refine q1 (bJ func137 (m6 (mC fu) hH _ z32)) (q1 rQ (q1 (xD ([(aD.mk fD x33)]:Z aD)) ?_))
  exact gE 3
 rintro⟨v9,v10,v11,v12,v13,v14⟩ H
 refine qS ?_;refine qY (σ:=(Z aA)×Bool×Int×Y×DS) (fun(v38,v35,v36,v37,v34)=>⟨[(0,.ptr 0 0),(2,.ptr 1 0),(3,.ptr 3 0)],⟨[some ⟨133,dC v34⟩,some ⟨163,[pS s_,.nil,pI 0,pS s_,.nil,.nil,pB false,pB false,pI 0,pS s_,.nil,.nil]⟩,some ⟨242,[pS fP,.lit 1 (bA (([fJ]:LB))),pI x8.aFw,pS x8.aFz,pS x8.aFs,pI x8.aGa,pI x8.aFu.aFw,pS x8.aFu.aFs,aV x8.aFu.aFt,jV x8.aFt,tX x8.aFP]⟩,some ⟨163,[pS y3,.lit 1 (bA (v9)),pI v10,pS v11,aV v12,.lit 4 (aD.trs (v13)),pB false,pB v35,pI v36,pS v37,aV v38,.bsl 2 1]⟩],[]⟩⟩) (fA H) (fun H=>?_) ?_
 ·refine gQ 3 ?_;refine gM H fun d39 h40 H=>(q1 (fO [0] [] func45 (FJ h40 (n6 v14 3))) (qN ?_))
  refine bG H (fun h41 H=>?_) (fun h41 H=>?_)
  ·refine gQ 9 ?_;refine eX H fun x43 x44 z42 H=>(q1 (fO [0] [] func131 (abK (SM fu) d39 v9 1 _ z42)) ?_)
   exact gE 3
  exact gE 1
 rintro⟨v38,v35,v36,v37,v34⟩ H
 refine gQ 3 ?_;refine gM H fun d45 h46 H=>(q1 (fO [0] [] func45 (FJ h46 (n6 v34 4))) ?_)
 refine gQ 7 ?_;refine gM H fun d47 h48 H=>(q1 (fO [0] [] func73 (FJ h48 (fL d45 12))) ?_)
 refine gQ 7 ?_;refine bG H (fun h49 H=>?_) (fun h49 H=>?_)
 ·refine gQ 2 ?_;refine eX H fun x51 x52 z50 H=>(q1 (fO [0] [] func132 (yZ (yY fu) d47 2 _ z50)) ?_)
  refine gQ 5 ?_;refine AL.weak (Y2 (k:=2) (sz:=11) (es:= [aT.cs (aT.mk fP ([fJ]:LB) x8)]) (es':=aT.trs (([(aT.mk fP ([fJ]:LB) x8)]:Z aT))) (s':=⟨[(0,.ptr 0 0),(2,.ptr 1 0),(3,.ptr 3 0),(63,pN (d45.below 12))],⟨[some ⟨133,dC x52⟩,some ⟨163,[pS s_,.nil,pI 0,pS s_,.nil,.nil,pB false,pB false,pI 0,pS s_,.nil,.nil]⟩,none,some ⟨163,[pS y3,.lit 1 (bA (v9)),pI x51.aFw,pS x51.aFs,aV x51.aFt,.lit 4 (aD.trs (v13)),pB (decide (v34.below 4=0)),pB v35,pI v36,pS v37,aV v38,n7 ([(aT.mk fP ([fJ]:LB) x8)]:Z aT)]⟩],[]⟩⟩) (by simp [aT.tm,aT.tc]) rfl mG (by simp [aT.cs])) ?_;refine q1 (b4 [pS y3,.lit 1 (bA (v9)),pI x51.aFw,pS x51.aFs,aV x51.aFt,.lit 4 (aD.trs (v13)),pB (decide (v34.below 4=0)),pB v35,pI v36,pS v37,aV v38,n7 ([(aT.mk fP ([fJ]:LB) x8)]:Z aT)]) ?_;exact gE 2
 refine gQ 5 ?_;refine bG H (fun h53 H=>?_) (fun h53 H=>?_)
 ·refine gM H fun d54 h55 H=>(gM H fun y56 h57 H=>(cB H fun z58 H=>(dW (dI [3] bW (dB [71] 0 1 tP (dI [0] bI (dI [] (xD ([hH,s_c]:LB)) (dE [73,74] (fO [0] [] func48 (QE h55 h57 (gF d47 ([hH,s_c]:LB) (by decide)))) (dI [75] (xD ([y56]:LB)) ?_)))))))))
  refine dI [72,76] (mQ (es1:=bA (v9)) (es2:=bA (([y56]:LB))) (es3:=bA (v9++([y56]:LB))) rfl rfl rfl rfl rfl (tM _) (tM _) (by exact List.cons_ne_nil _ _) (by decide) amO.h av8.h (by decide) (by rw [b6,b6];exact zK z58 (by decide)) (zQ _ _)) ?_;refine dI [3] bW (iW [78,77] hY (dN ?_))
  refine gQ 2 ?_;refine AL.weak (Y2 (k:=2) (sz:=11) (es:= [aT.cs (aT.mk fP ([fJ]:LB) x8)]) (es':=aT.trs (([(aT.mk fP ([fJ]:LB) x8)]:Z aT))) (s':=⟨[(0,.ptr 0 0),(2,.ptr 1 0),(3,.ptr 3 0),(63,pN (d45.below 12))],⟨[some ⟨133,dC d54⟩,some ⟨163,[pS s_,.nil,pI 0,pS s_,.nil,.nil,pB false,pB false,pI 0,pS s_,.nil,.nil]⟩,none,some ⟨163,[pS y3,rS (v9++([y56]:LB)),pI v10,pS v11,aV v12,.lit 4 (aD.trs (v13)),pB (decide (v34.below 4=0)),pB v35,pI v36,pS v37,aV v38,n7 ([(aT.mk fP ([fJ]:LB) x8)]:Z aT)]⟩],[]⟩⟩) (by simp [aT.tm,aT.tc]) rfl mG (by simp [aT.cs])) ?_;refine q1 (b4 [pS y3,rS (v9++([y56]:LB)),pI v10,pS v11,aV v12,.lit 4 (aD.trs (v13)),pB (decide (v34.below 4=0)),pB v35,pI v36,pS v37,aV v38,n7 ([(aT.mk fP ([fJ]:LB) x8)]:Z aT)]) ?_;exact gE 2
 refine gQ 5 ?_;refine bG H (fun h59 H=>?_) (fun h59 H=>?_)
 ·refine eX H fun x61 x62 z60 H=>(cB H fun z63 H=>(dW (dI [3] bW (dB [81] 0 1 tP (dI [0] bI (dE [83] (fO [0] [] func132 (yZ (yY fu) d47 1 _ z60)) (dI [84] rQ (dI [85] (xD ([(aD.mk lU x61)]:Z aD)) ?_))))))))
  refine dI [82,86] (mQ (es1:=aD.trs (v13)) (es2:=aD.trs (([(aD.mk lU x61)]:Z aD))) (es3:=aD.trs (v13++([(aD.mk lU x61)]:Z aD))) rfl rfl rfl rfl rfl (fun e he=>by rw [aD.tm] at he;obtain⟨x,_,rfl⟩:=List.mem_map.1 he;rw [aD.tc];rfl) (fun e he=>by rw [aD.tm] at he;obtain⟨x,_,rfl⟩:=List.mem_map.1 he;rw [aD.tc];rfl) (by rw [aD.tm];exact List.cons_ne_nil _ _) (by decide) aqQ.h ax4.h (by decide) (by rw [aD.tl,aD.tl];exact zK z63 (by decide)) (by rw [aD.tm,aD.tm,aD.tm,List.map_append])) ?_;refine dI [3] bW (iW [88,87] hY (dN ?_))
  refine gQ 2 ?_;refine AL.weak (Y2 (k:=2) (sz:=11) (es:= [aT.cs (aT.mk fP ([fJ]:LB) x8)]) (es':=aT.trs (([(aT.mk fP ([fJ]:LB) x8)]:Z aT))) (s':=⟨[(0,.ptr 0 0),(2,.ptr 1 0),(3,.ptr 3 0),(63,pN (d45.below 12))],⟨[some ⟨133,dC x62⟩,some ⟨163,[pS s_,.nil,pI 0,pS s_,.nil,.nil,pB false,pB false,pI 0,pS s_,.nil,.nil]⟩,none,some ⟨163,[pS y3,.lit 1 (bA (v9)),pI v10,pS v11,aV v12,b0 (v13++([(aD.mk lU x61)]:Z aD)),pB (decide (v34.below 4=0)),pB v35,pI v36,pS v37,aV v38,n7 ([(aT.mk fP ([fJ]:LB) x8)]:Z aT)]⟩],[]⟩⟩) (by simp [aT.tm,aT.tc]) rfl mG (by simp [aT.cs])) ?_;refine q1 (b4 [pS y3,.lit 1 (bA (v9)),pI v10,pS v11,aV v12,b0 (v13++([(aD.mk lU x61)]:Z aD)),pB (decide (v34.below 4=0)),pB v35,pI v36,pS v37,aV v38,n7 ([(aT.mk fP ([fJ]:LB) x8)]:Z aT)]) ?_;exact gE 2
 refine gQ 5 ?_;refine bG H (fun h64 H=>?_) (fun h64 H=>?_)
 ·refine eX H fun x66 x67 z65 H=>(dW (dI [3] bW (dB [91] 0 1 tP (dI [0] bI (dI [] (xD ([fJ,t2]:LB)) (dE [93,94] (fO [0] [] func193 (VW fu d47 ([fJ,t2]:LB) 2 _ z65)) (dI [92] (uY (sz:=11) (k:=2) (N:=1) (i:=0) rfl rfl rfl rfl (by decide) atB.h) (dI [96] bW (iW [97,95] hY (dN ?_))))))))))
  refine gQ 2 ?_;refine AL.weak (Y2 (k:=2) (sz:=11) (es:= [aT.cs (aT.mk fP ([fJ]:LB) x66)]) (es':=aT.trs (([(aT.mk fP ([fJ]:LB) x66)]:Z aT))) (s':=⟨[(0,.ptr 0 0),(2,.ptr 1 0),(3,.ptr 3 0),(63,pN (d45.below 12))],⟨[some ⟨133,dC x67⟩,some ⟨163,[pS s_,.nil,pI 0,pS s_,.nil,.nil,pB false,pB false,pI 0,pS s_,.nil,.nil]⟩,none,some ⟨163,[pS y3,.lit 1 (bA (v9)),pI v10,pS v11,aV v12,.lit 4 (aD.trs (v13)),pB (decide (v34.below 4=0)),pB v35,pI v36,pS v37,aV v38,n7 ([(aT.mk fP ([fJ]:LB) x66)]:Z aT)]⟩],[]⟩⟩) (by simp [aT.tm,aT.tc]) rfl mG (by simp [aT.cs])) ?_;refine q1 (b4 [pS y3,.lit 1 (bA (v9)),pI v10,pS v11,aV v12,.lit 4 (aD.trs (v13)),pB (decide (v34.below 4=0)),pB v35,pI v36,pS v37,aV v38,n7 ([(aT.mk fP ([fJ]:LB) x66)]:Z aT)]) ?_;exact gE 2
 refine gQ 5 ?_;refine bG H (fun h68 H=>?_) (fun h68 H=>?_)
 ·refine qR (bN H fun x70 z69 H=>(q1 (bJ func49 (y1 fu _ z69)) ?_))
  refine gQ 5 ?_;refine AL.weak (Y2 (k:=2) (sz:=11) (es:= [aT.cs (aT.mk fP ([fJ]:LB) x8)]) (es':=aT.trs (([(aT.mk fP ([fJ]:LB) x8)]:Z aT))) (s':=⟨[(0,.ptr 0 0),(2,.ptr 1 0),(3,.ptr 3 0),(63,pN (d45.below 12))],⟨[some ⟨133,dC d47⟩,some ⟨163,[pS s_,.nil,pI 0,pS s_,.nil,.nil,pB false,pB false,pI 0,pS s_,.nil,.nil]⟩,none,some ⟨163,[pS y3,.lit 1 (bA (v9)),pI v10,pS v11,aV v12,.lit 4 (aD.trs (v13)),pB (decide (v34.below 4=0)),pB v35,pI x70.aFw,pS x70.aFs,aV x70.aFt,n7 ([(aT.mk fP ([fJ]:LB) x8)]:Z aT)]⟩],[]⟩⟩) (by simp [aT.tm,aT.tc]) rfl mG (by simp [aT.cs])) ?_;refine q1 (b4 [pS y3,.lit 1 (bA (v9)),pI v10,pS v11,aV v12,.lit 4 (aD.trs (v13)),pB (decide (v34.below 4=0)),pB v35,pI x70.aFw,pS x70.aFs,aV x70.aFt,n7 ([(aT.mk fP ([fJ]:LB) x8)]:Z aT)]) ?_;exact gE 2
 refine gQ 5 ?_;refine bG H (fun h71 H=>?_) (fun h71 H=>?_)
 ·refine gQ 3 ?_;refine q1 (xD ([]:LB)) (q1 (uY (sz:=11) (k:=2) (N:=1) (i:=0) rfl rfl rfl rfl (by decide) atB.h) ?_)
  refine gQ 5 ?_;refine AL.weak (Y2 (k:=2) (sz:=11) (es:= [aT.cs (aT.mk fP ([]) x8)]) (es':=aT.trs (([(aT.mk fP ([]) x8)]:Z aT))) (s':=⟨[(0,.ptr 0 0),(2,.ptr 1 0),(3,.ptr 3 0),(63,pN (d45.below 12))],⟨[some ⟨133,dC d47⟩,some ⟨163,[pS s_,.nil,pI 0,pS s_,.nil,.nil,pB false,pB false,pI 0,pS s_,.nil,.nil]⟩,none,some ⟨163,[pS y3,.lit 1 (bA (v9)),pI v10,pS v11,aV v12,.lit 4 (aD.trs (v13)),pB (decide (v34.below 4=0)),pB v35,pI v36,pS v37,aV v38,n7 ([(aT.mk fP ([]) x8)]:Z aT)]⟩],[]⟩⟩) (by simp [aT.tm,aT.tc]) rfl mG (by simp [aT.cs])) ?_;refine q1 (b4 [pS y3,.lit 1 (bA (v9)),pI v10,pS v11,aV v12,.lit 4 (aD.trs (v13)),pB (decide (v34.below 4=0)),pB v35,pI v36,pS v37,aV v38,n7 ([(aT.mk fP ([]) x8)]:Z aT)]) ?_;exact gE 2
 refine gQ 3 ?_;refine AL.weak (Y2 (k:=2) (sz:=11) (es:= [aT.cs (aT.mk fP ([fJ]:LB) x8)]) (es':=aT.trs (([(aT.mk fP ([fJ]:LB) x8)]:Z aT))) (s':=⟨[(0,.ptr 0 0),(2,.ptr 1 0),(3,.ptr 3 0),(63,pN (d45.below 12))],⟨[some ⟨133,dC d47⟩,some ⟨163,[pS s_,.nil,pI 0,pS s_,.nil,.nil,pB false,pB false,pI 0,pS s_,.nil,.nil]⟩,none,some ⟨163,[pS y3,.lit 1 (bA (v9)),pI v10,pS v11,aV v12,.lit 4 (aD.trs (v13)),pB (decide (v34.below 4=0)),pB v35,pI v36,pS v37,aV v38,n7 ([(aT.mk fP ([fJ]:LB) x8)]:Z aT)]⟩],[]⟩⟩) (by simp [aT.tm,aT.tc]) rfl mG (by simp [aT.cs])) ?_;refine q1 (b4 [pS y3,.lit 1 (bA (v9)),pI v10,pS v11,aV v12,.lit 4 (aD.trs (v13)),pB (decide (v34.below 4=0)),pB v35,pI v36,pS v37,aV v38,n7 ([(aT.mk fP ([fJ]:LB) x8)]:Z aT)]) ?_;exact gE 2
def aa0(fu:Nat)(pc:DS):J (aQ×DS):=lt (pc.after ([s_f,s_g]:LB).length) fun d1=>lt (pc.pick ([s_f,s_g]:LB)) fun y3=>bd (qO fu hH) fun x6=>bd (G9 fu) fun x8=>bd (yR fu fJ) fun x10=>lt (d1.after 10) fun d11=>sw (decide ((d1.below 10:Int)=0)) (bd (sJ fu d11 2) fun(x15,x16)=>some ((aQ.mk y3 ([hH]:LB) ([(aD.mk bH x6)]:Z aD) ([(aY.mk fJ x6)]:Z aY) x15 (aM.mk 5 bH fP 0 (aA.mk 0 s_ []) ([x10]:Z aM) [])),x16)) (sw (decide ((d1.below 10:Int)=1)) (lt (d11.after ([fJ,t2]:LB).length) fun d18=>lt (d11.pick ([fJ,t2]:LB)) fun y20=>gd ((([(aY.mk fJ x6)]:Z aY)).length+(([(aY.mk y20 x8)]:Z aY)).length≤68719476736) (some ((aQ.mk y3 ([hH]:LB) ([(aD.mk bH x6)]:Z aD) (([(aY.mk fJ x6)]:Z aY)++([(aY.mk y20 x8)]:Z aY)) x8 (aM.mk 5 bH fP 0 (aA.mk 0 s_ []) ([x10]:Z aM) [])),d18))) (sw (decide ((d1.below 10:Int)=2)) (bd (nG fu d11 ([fJ,t2]:LB) 3) fun(x25,x26)=>some ((aQ.mk y3 ([hH]:LB) ([(aD.mk bH x6)]:Z aD) ([(aY.mk fJ x6)]:Z aY) x8 x25),x26)) (sw (decide ((d1.below 10:Int)=3)) (bd (sJ fu d11 1) fun(x29,x30)=>some ((aQ.mk y3 ([hH]:LB) ([(aD.mk bH x29)]:Z aD) ([(aY.mk fJ x6)]:Z aY) x8 (aM.mk 5 bH fP 0 (aA.mk 0 s_ []) ([x10]:Z aM) [])),x30)) (sw (decide ((d1.below 10:Int)=4)) (lt (d11.after ([s_,IQ]:LB).length) fun d32=>lt (d11.pick ([s_,IQ]:LB)) fun y34=>some ((aQ.mk y34 ([hH]:LB) ([(aD.mk bH x6)]:Z aD) ([(aY.mk fJ x6)]:Z aY) x8 (aM.mk 5 bH fP 0 (aA.mk 0 s_ []) ([x10]:Z aM) [])),d32)) (some ((aQ.mk y3 ([hH]:LB) ([(aD.mk bH x6)]:Z aD) ([(aY.mk fJ x6)]:Z aY) x8 (aM.mk 5 bH fP 0 (aA.mk 0 s_ []) ([x10]:Z aM) [])),d11))))))
theorem arU(fu:Nat)(pc:DS)(r:aQ×DS)(H:aa0 fu pc=some r):cM prog 166 [.ptr 0 0] ⟨[some ⟨133,dC pc⟩],[]⟩ (fun q t=>q=((aQ.pv r.1))∧t=⟨[some ⟨133,dC r.2⟩],[]⟩):=by
 refine qJ func166 H (fun C hC H=>?_)
 refine gQ 7 ?_;refine q1 (xD ([s_f,s_g]:LB)) (gM H fun d1 h2 H=>(gM H fun y3 h4 H=>(q1 (fO [0] [] func48 (QE h2 h4 (gF pc ([s_f,s_g]:LB) (by decide)))) (q1 (xD ([hH]:LB)) (bN H fun x6 z5 H=>(q1 (bJ func137 (m6 (mC fu) hH _ z5)) (q1 rQ (q1 (rV (cs:= [pS bH,pI x6.aFw,pS x6.aFs,aV x6.aFt]) rfl rfl aqQ.h aBs.h rfl rfl rfl (by decide) rfl (by decide)) (q1 (bJ func137 (m6 (mC fu) hH _ z5)) (q1 rQ (q1 (xD ([(aY.mk fJ x6)]:Z aY)) (bN H fun x8 z7 H=>(q1 (bJ func49 (y1 fu _ z7)) ?_)))))))))))))
 refine bN H fun x10 z9 H=>(q1 (bJ func191 (DQ fu fJ _ z9)) (q1 (xD ([x10]:Z aM)) ?_))
 refine gQ 9 ?_;refine gM H fun d11 h12 H=>(q1 (fO [0] [] func73 (FJ h12 (fL d1 10))) ?_)
 refine gQ 7 ?_;refine bG H (fun h13 H=>?_) (fun h13 H=>?_)
 ·refine gQ 2 ?_;refine eX H fun x15 x16 z14 H=>(q1 (fO [0] [] func132 (yZ (yY fu) d11 2 _ z14)) ?_)
  refine gQ 5 ?_;refine AL.weak (Y2 (k:=2) (sz:=4) (es:= [aD.cs (aD.mk bH x6)]) (es':=aD.trs (([(aD.mk bH x6)]:Z aD))) (s':=⟨[(0,.ptr 0 0),(2,.ptr 1 0),(3,.ptr 3 0),(20,pN (d1.below 10))],⟨[some ⟨133,dC x16⟩,some ⟨213,[pS s_,.nil,.nil,.nil,pI 0,pS s_,.nil,pI 0,pS s_,pS s_,pI 0,pI 0,pS s_,.nil,.nil,.nil]⟩,none,some ⟨213,[pS y3,.lit 1 (bA (([hH]:LB))),b0 ([(aD.mk bH x6)]:Z aD),.lit 4 (aY.trs (([(aY.mk fJ x6)]:Z aY))),pI x15.aFw,pS x15.aFs,aV x15.aFt,pI 5,pS bH,pS fP,pI 0,pI 0,pS s_,.nil,.lit 9 (aM.trs (([x10]:Z aM))),.nil]⟩],[]⟩⟩) (by simp [aD.tm,aD.tc]) rfl mG (by simp [aD.cs])) ?_;refine q1 (b4 [pS y3,.lit 1 (bA (([hH]:LB))),b0 ([(aD.mk bH x6)]:Z aD),.lit 4 (aY.trs (([(aY.mk fJ x6)]:Z aY))),pI x15.aFw,pS x15.aFs,aV x15.aFt,pI 5,pS bH,pS fP,pI 0,pI 0,pS s_,.nil,.lit 9 (aM.trs (([x10]:Z aM))),.nil]) ?_;exact gE 2
 refine gQ 5 ?_;refine bG H (fun h17 H=>?_) (fun h17 H=>?_)
 ·refine gM H fun d18 h19 H=>(gM H fun y20 h21 H=>(cB H fun z22 H=>(dW (dI [3] bW (dB [28] 0 1 tP (dI [0] bI (dI [] (xD ([fJ,t2]:LB)) (dE [30,31] (fO [0] [] func48 (QE h19 h21 (gF d11 ([fJ,t2]:LB) (by decide)))) (dI [] (bJ func49 (y1 fu _ z7)) (dI [32,33] rQ (dI [34] (xD ([(aY.mk y20 x8)]:Z aY)) ?_)))))))))))
  refine dI [29,35] (mQ (es1:=aY.trs (([(aY.mk fJ x6)]:Z aY))) (es2:=aY.trs (([(aY.mk y20 x8)]:Z aY))) (es3:=aY.trs (([(aY.mk fJ x6)]:Z aY)++([(aY.mk y20 x8)]:Z aY))) rfl rfl rfl rfl rfl (fun e he=>by rw [aY.tm] at he;obtain⟨x,_,rfl⟩:=List.mem_map.1 he;rw [aY.tc];rfl) (fun e he=>by rw [aY.tm] at he;obtain⟨x,_,rfl⟩:=List.mem_map.1 he;rw [aY.tc];rfl) (by rw [aY.tm];exact List.cons_ne_nil _ _) (by decide) ayN.h azB.h (by decide) (by rw [aY.tl,aY.tl];exact zK z22 (by decide)) (by rw [aY.tm,aY.tm,aY.tm,List.map_append])) ?_;refine dI [3] bW (iW [37,36] hY (dN ?_))
  refine gQ 2 ?_;refine AL.weak (Y2 (k:=2) (sz:=4) (es:= [aD.cs (aD.mk bH x6)]) (es':=aD.trs (([(aD.mk bH x6)]:Z aD))) (s':=⟨[(0,.ptr 0 0),(2,.ptr 1 0),(3,.ptr 3 0),(20,pN (d1.below 10))],⟨[some ⟨133,dC d18⟩,some ⟨213,[pS s_,.nil,.nil,.nil,pI 0,pS s_,.nil,pI 0,pS s_,pS s_,pI 0,pI 0,pS s_,.nil,.nil,.nil]⟩,none,some ⟨213,[pS y3,.lit 1 (bA (([hH]:LB))),b0 ([(aD.mk bH x6)]:Z aD),Z3 (([(aY.mk fJ x6)]:Z aY)++([(aY.mk y20 x8)]:Z aY)),pI x8.aFw,pS x8.aFs,aV x8.aFt,pI 5,pS bH,pS fP,pI 0,pI 0,pS s_,.nil,.lit 9 (aM.trs (([x10]:Z aM))),.nil]⟩],[]⟩⟩) (by simp [aD.tm,aD.tc]) rfl mG (by simp [aD.cs])) ?_;refine q1 (b4 [pS y3,.lit 1 (bA (([hH]:LB))),b0 ([(aD.mk bH x6)]:Z aD),Z3 (([(aY.mk fJ x6)]:Z aY)++([(aY.mk y20 x8)]:Z aY)),pI x8.aFw,pS x8.aFs,aV x8.aFt,pI 5,pS bH,pS fP,pI 0,pI 0,pS s_,.nil,.lit 9 (aM.trs (([x10]:Z aM))),.nil]) ?_;exact gE 2
 refine gQ 5 ?_;refine bG H (fun h23 H=>?_) (fun h23 H=>?_)
 ·refine gQ 2 ?_;refine q1 (xD ([fJ,t2]:LB)) (eX H fun x25 x26 z24 H=>(q1 (fO [0] [] func193 (VW fu d11 ([fJ,t2]:LB) 3 _ z24)) ?_))
  refine gQ 5 ?_;refine AL.weak (Y2 (k:=2) (sz:=4) (es:= [aD.cs (aD.mk bH x6)]) (es':=aD.trs (([(aD.mk bH x6)]:Z aD))) (s':=⟨[(0,.ptr 0 0),(2,.ptr 1 0),(3,.ptr 3 0),(20,pN (d1.below 10))],⟨[some ⟨133,dC x26⟩,some ⟨213,[pS s_,.nil,.nil,.nil,pI 0,pS s_,.nil,pI 0,pS s_,pS s_,pI 0,pI 0,pS s_,.nil,.nil,.nil]⟩,none,some ⟨213,[pS y3,.lit 1 (bA (([hH]:LB))),b0 ([(aD.mk bH x6)]:Z aD),.lit 4 (aY.trs (([(aY.mk fJ x6)]:Z aY))),pI x8.aFw,pS x8.aFs,aV x8.aFt,pI x25.aFw,pS x25.aFz,pS x25.aFs,pI x25.aGa,pI x25.aFu.aFw,pS x25.aFu.aFs,aV x25.aFu.aFt,jV x25.aFt,tX x25.aFP]⟩],[]⟩⟩) (by simp [aD.tm,aD.tc]) rfl mG (by simp [aD.cs])) ?_;refine q1 (b4 [pS y3,.lit 1 (bA (([hH]:LB))),b0 ([(aD.mk bH x6)]:Z aD),.lit 4 (aY.trs (([(aY.mk fJ x6)]:Z aY))),pI x8.aFw,pS x8.aFs,aV x8.aFt,pI x25.aFw,pS x25.aFz,pS x25.aFs,pI x25.aGa,pI x25.aFu.aFw,pS x25.aFu.aFs,aV x25.aFu.aFt,jV x25.aFt,tX x25.aFP]) ?_;exact gE 2
 refine gQ 5 ?_;refine bG H (fun h27 H=>?_) (fun h27 H=>?_)
 ·refine eX H fun x29 x30 z28 H=>(dW (dI [3] bW (dB [46] 0 1 tP (dI [0] bI (dE [48] (fO [0] [] func132 (yZ (yY fu) d11 1 _ z28)) (dI [47] (uY (sz:=4) (k:=2) (N:=1) (i:=0) rfl rfl rfl rfl (by decide) aqQ.h) (dI [50] bW (iW [51,49] hY (dN ?_)))))))))
  refine gQ 2 ?_;refine AL.weak (Y2 (k:=2) (sz:=4) (es:= [aD.cs (aD.mk bH x29)]) (es':=aD.trs (([(aD.mk bH x29)]:Z aD))) (s':=⟨[(0,.ptr 0 0),(2,.ptr 1 0),(3,.ptr 3 0),(20,pN (d1.below 10))],⟨[some ⟨133,dC x30⟩,some ⟨213,[pS s_,.nil,.nil,.nil,pI 0,pS s_,.nil,pI 0,pS s_,pS s_,pI 0,pI 0,pS s_,.nil,.nil,.nil]⟩,none,some ⟨213,[pS y3,.lit 1 (bA (([hH]:LB))),b0 ([(aD.mk bH x29)]:Z aD),.lit 4 (aY.trs (([(aY.mk fJ x6)]:Z aY))),pI x8.aFw,pS x8.aFs,aV x8.aFt,pI 5,pS bH,pS fP,pI 0,pI 0,pS s_,.nil,.lit 9 (aM.trs (([x10]:Z aM))),.nil]⟩],[]⟩⟩) (by simp [aD.tm,aD.tc]) rfl mG (by simp [aD.cs])) ?_;refine q1 (b4 [pS y3,.lit 1 (bA (([hH]:LB))),b0 ([(aD.mk bH x29)]:Z aD),.lit 4 (aY.trs (([(aY.mk fJ x6)]:Z aY))),pI x8.aFw,pS x8.aFs,aV x8.aFt,pI 5,pS bH,pS fP,pI 0,pI 0,pS s_,.nil,.lit 9 (aM.trs (([x10]:Z aM))),.nil]) ?_;exact gE 2
 refine gQ 5 ?_;refine bG H (fun h31 H=>?_) (fun h31 H=>?_)
 ·refine gQ 2 ?_;refine q1 (xD ([s_,IQ]:LB)) (gM H fun d32 h33 H=>(gM H fun y34 h35 H=>(q1 (fO [0] [] func48 (QE h33 h35 (gF d11 ([s_,IQ]:LB) (by decide)))) ?_)))
  refine gQ 5 ?_;refine AL.weak (Y2 (k:=2) (sz:=4) (es:= [aD.cs (aD.mk bH x6)]) (es':=aD.trs (([(aD.mk bH x6)]:Z aD))) (s':=⟨[(0,.ptr 0 0),(2,.ptr 1 0),(3,.ptr 3 0),(20,pN (d1.below 10))],⟨[some ⟨133,dC d32⟩,some ⟨213,[pS s_,.nil,.nil,.nil,pI 0,pS s_,.nil,pI 0,pS s_,pS s_,pI 0,pI 0,pS s_,.nil,.nil,.nil]⟩,none,some ⟨213,[pS y34,.lit 1 (bA (([hH]:LB))),b0 ([(aD.mk bH x6)]:Z aD),.lit 4 (aY.trs (([(aY.mk fJ x6)]:Z aY))),pI x8.aFw,pS x8.aFs,aV x8.aFt,pI 5,pS bH,pS fP,pI 0,pI 0,pS s_,.nil,.lit 9 (aM.trs (([x10]:Z aM))),.nil]⟩],[]⟩⟩) (by simp [aD.tm,aD.tc]) rfl mG (by simp [aD.cs])) ?_;refine q1 (b4 [pS y34,.lit 1 (bA (([hH]:LB))),b0 ([(aD.mk bH x6)]:Z aD),.lit 4 (aY.trs (([(aY.mk fJ x6)]:Z aY))),pI x8.aFw,pS x8.aFs,aV x8.aFt,pI 5,pS bH,pS fP,pI 0,pI 0,pS s_,.nil,.lit 9 (aM.trs (([x10]:Z aM))),.nil]) ?_;exact gE 2
 refine gQ 3 ?_;refine AL.weak (Y2 (k:=2) (sz:=4) (es:= [aD.cs (aD.mk bH x6)]) (es':=aD.trs (([(aD.mk bH x6)]:Z aD))) (s':=⟨[(0,.ptr 0 0),(2,.ptr 1 0),(3,.ptr 3 0),(20,pN (d1.below 10))],⟨[some ⟨133,dC d11⟩,some ⟨213,[pS s_,.nil,.nil,.nil,pI 0,pS s_,.nil,pI 0,pS s_,pS s_,pI 0,pI 0,pS s_,.nil,.nil,.nil]⟩,none,some ⟨213,[pS y3,.lit 1 (bA (([hH]:LB))),b0 ([(aD.mk bH x6)]:Z aD),.lit 4 (aY.trs (([(aY.mk fJ x6)]:Z aY))),pI x8.aFw,pS x8.aFs,aV x8.aFt,pI 5,pS bH,pS fP,pI 0,pI 0,pS s_,.nil,.lit 9 (aM.trs (([x10]:Z aM))),.nil]⟩],[]⟩⟩) (by simp [aD.tm,aD.tc]) rfl mG (by simp [aD.cs])) ?_;refine q1 (b4 [pS y3,.lit 1 (bA (([hH]:LB))),b0 ([(aD.mk bH x6)]:Z aD),.lit 4 (aY.trs (([(aY.mk fJ x6)]:Z aY))),pI x8.aFw,pS x8.aFs,aV x8.aFt,pI 5,pS bH,pS fP,pI 0,pI 0,pS s_,.nil,.lit 9 (aM.trs (([x10]:Z aM))),.nil]) ?_;exact gE 2
def agU(fu:Nat)(p0:DS)(x2:aA)(d3:DS)(y5:Y)(d7:DS)(x10:aA)(d13:DS)(x17 x19 x21:aM):J ((aZ×DS)⊕((LB))):=lt (d13.after 3) fun d24=>sw (decide (d13.below 3=0)) (some (.inr ([fD]:LB))) (some (.inr ([])))
def agV(fu:Nat)(p0:DS)(x2:aA)(d3:DS)(y5:Y)(d7:DS)(x10:aA)(d37:DS):J ((aZ×DS)⊕((LB))):=lt (d37.after 3) fun d41=>sw (decide (d37.below 3=0)) (some (.inr ([fD]:LB))) (some (.inr ([])))
def agW(fu:Nat)(p0:DS)(x2:aA)(d3:DS)(y5:Y)(d7:DS)(x10:aA):J ((aZ×DS)⊕((Z aG))):=lt (d7.after 2) fun d56=>sw (decide (d7.below 2=0)) (bd (yR fu fJ) fun x61=>bd (wA fu 1) fun x63=>bd (xA fu 10 D5 ([(aM.mk 5 y5 fP 0 (aA.mk 0 s_ []) ([x61]:Z aM) []),x63]:Z aM)) fun x65=>gd ((([(aG.mk fP [] x10 false [] (aM.mk 0 s_ s_ 0 (aA.mk 0 s_ []) [] []))]:Z aG)).length+(([(aG.mk gG ([x2]:Z aA) x10 true ([fJ,t2]:LB) x65)]:Z aG)).length≤68719476736) (some (.inr (([(aG.mk fP [] x10 false [] (aM.mk 0 s_ s_ 0 (aA.mk 0 s_ []) [] []))]:Z aG)++([(aG.mk gG ([x2]:Z aA) x10 true ([fJ,t2]:LB) x65)]:Z aG))))) (some (.inr ([(aG.mk fP [] x10 false [] (aM.mk 0 s_ s_ 0 (aA.mk 0 s_ []) [] []))]:Z aG)))
def agX(fu:Nat)(p0:DS)(x2:aA)(d3:DS)(y5:Y)(d7:DS)(x10:aA)(v55:Z aG):J ((aZ×DS)⊕((LB))):=lt ((d7.after 2).after 3) fun d68=>sw (decide ((d7.after 2).below 3=0)) (some (.inr ([fD]:LB))) (some (.inr ([])))
def K8(fu:Nat)(p0:DS):J (aZ×DS):=bd (qO fu lI) fun x2=>lt (p0.after ([bH,lU,eV]:LB).length) fun d3=>lt (p0.pick ([bH,lU,eV]:LB)) fun y5=>lt (d3.after 3) fun d7=>bd (G9 fu) fun x10=>sw (decide ((((((d7.after 2).after 3).below 12:Nat):Int):Int)=2)||decide ((((((d7.after 2).after 3).below 12:Nat):Int):Int)=3)) (sw (decide (d7.below 2=0)) (lt (d7.after 2) fun d13=>bd (yR fu fJ) fun x17=>bd (wA fu 1) fun x19=>bd (xA fu 10 D5 ([(aM.mk 5 y5 fP 0 (aA.mk 0 s_ []) ([x17]:Z aM) []),x19]:Z aM)) fun x21=>gd ((([(aG.mk fP [] x10 false [] (aM.mk 0 s_ s_ 0 (aA.mk 0 s_ []) [] []))]:Z aG)).length+(([(aG.mk gG ([x2]:Z aA) x10 true ([fJ,t2]:LB) x21)]:Z aG)).length≤68719476736) (so (agU fu p0 x2 d3 y5 d7 x10 d13 x17 x19 x21) fun v23=>lt ((d13.after 3).after 12) fun d28=>sw (decide (((((d13.after 3).below 12:Nat):Int):Int)=2)) (lt (d28.after ([lI,ES]:LB).length) fun d31=>lt (d28.pick ([lI,ES]:LB)) fun y33=>bd (qO fu y33) fun x36=>some ((aZ.mk y5 v23 false (decide (d3.below 3=0)) ([(aG.mk fP ([]) x36 false ([]) (aM.mk 0 s_ s_ 0 (aA.mk 0 s_ ([])) ([]) ([]))),(aG.mk gG ([x2]:Z aA) x10 true ([fJ,t2]:LB) x21)]:Z aG)),d31)) (some ((aZ.mk y5 v23 false (decide (d3.below 3=0)) ([(aG.mk fP ([]) x10 true ([]) (aM.mk 0 s_ s_ 0 (aA.mk 0 s_ ([])) ([]) ([]))),(aG.mk gG ([x2]:Z aA) x10 true ([fJ,t2]:LB) x21)]:Z aG)),d28)))) (lt (d7.after 2) fun d37=>so (agV fu p0 x2 d3 y5 d7 x10 d37) fun v40=>lt ((d37.after 3).after 12) fun d45=>sw (decide (((((d37.after 3).below 12:Nat):Int):Int)=2)) (lt (d45.after ([lI,ES]:LB).length) fun d48=>lt (d45.pick ([lI,ES]:LB)) fun y50=>bd (qO fu y50) fun x53=>some ((aZ.mk y5 v40 false (decide (d3.below 3=0)) ([(aG.mk fP [] x53 false [] (aM.mk 0 s_ s_ 0 (aA.mk 0 s_ []) [] []))]:Z aG)),d48)) (some ((aZ.mk y5 v40 false (decide (d3.below 3=0)) ([(aG.mk fP [] x10 true [] (aM.mk 0 s_ s_ 0 (aA.mk 0 s_ []) [] []))]:Z aG)),d45)))) (so (agW fu p0 x2 d3 y5 d7 x10) fun v55=>so (agX fu p0 x2 d3 y5 d7 x10 v55) fun v67=>lt (((d7.after 2).after 3).after 12) fun d72=>sw (decide ((((((d7.after 2).after 3).below 12:Nat):Int):Int)=0)) (some ((aZ.mk y5 v67 true (decide (d3.below 3=0)) v55),d72)) (sw (decide ((((((d7.after 2).after 3).below 12:Nat):Int):Int)=1)) (lt (d72.after ([s_,fE,s_A]:LB).length) fun d76=>lt (d72.pick ([s_,fE,s_A]:LB)) fun y78=>some ((aZ.mk y78 v67 false (decide (d3.below 3=0)) v55),d76)) (sw (decide ((((((d7.after 2).after 3).below 12:Nat):Int):Int)=4)) (gd ((v67).length+(([fD]:LB)).length≤68719476736) (some ((aZ.mk y5 (v67++([fD]:LB)) false (decide (d3.below 3=0)) v55),d72))) (sw (decide ((((((d7.after 2).after 3).below 12:Nat):Int):Int)=5)) (gd (0<(v55).length) (lt (aR v55 0) fun y84=>gd ((v55).length+(([y84]:Z aG)).length≤68719476736) (some ((aZ.mk y5 v67 false (decide (d3.below 3=0)) (v55++([y84]:Z aG))),d72)))) (some ((aZ.mk y5 v67 false (decide (d3.below 3=0)) v55),d72))))))
theorem agY(fu:Nat)(p0:DS)(r:aZ×DS)(H:K8 fu p0=some r):cM prog 163 [.ptr 0 0] ⟨[some ⟨133,dC p0⟩],[]⟩ (fun q t=>q=((aZ.pv r.1))∧t=⟨[some ⟨133,dC r.2⟩],[]⟩):=by
 refine qJ func163 H (fun C hC H=>?_)
 refine gQ 6 ?_;refine bN H fun x2 z1 H=>(q1 (bJ func137 (m6 (mC fu) lI _ z1)) ?_)
 refine gQ 6 ?_;refine q1 (xD ([bH,lU,eV]:LB)) (gM H fun d3 h4 H=>(gM H fun y5 h6 H=>(q1 (fO [0] [] func48 (QE h4 h6 (gF p0 ([bH,lU,eV]:LB) (by decide)))) (q1 bI (gM H fun d7 h8 H=>(q1 (fO [0] [] func45 (FJ h8 (n6 d3 3))) (bN H fun x10 z9 H=>(q1 (bJ func49 (y1 fu _ z9)) (q1 rQ ?_)))))))))
 rcases nA (decide ((((((d7.after 2).after 3).below 12:Nat):Int):Int)=2)||decide ((((((d7.after 2).after 3).below 12:Nat):Int):Int)=3)) with g11|g11
 ·have H:=sS H g11
  rcases nA (decide (d7.below 2=0)) with g12|g12
  ·have H:=sS H g12
   refine q1 (rV (cs:= [pS fP,.nil,pI x10.aFw,pS x10.aFs,aV x10.aFt,pB false,.nil,pI 0,pS s_,pS s_,pI 0,pI 0,pS s_,.nil,.nil,.nil]) rfl rfl YY.h awS.h rfl rfl rfl (by decide) rfl (by decide)) ?_;refine gQ 8 ?_;refine gM H fun d13 h14 H=>?_
   have g15:=g11
   rw [← h14] at g15
   refine q1 (fO [0] [] func45 (FJ h14 (n6 d7 2))) (qN (amM g12 (bN H fun x17 z16 H=>(bN H fun x19 z18 H=>(bN H fun x21 z20 H=>?_)))))
   refine kC (Y2 (k:=3) (sz:=16) (es:= [aG.cs (aG.mk fP [] x10 false [] (aM.mk 0 s_ s_ 0 (aA.mk 0 s_ []) [] []))]) (es':=aG.trs (([(aG.mk fP [] x10 false [] (aM.mk 0 s_ s_ 0 (aA.mk 0 s_ []) [] []))]:Z aG))) (s':=⟨[(0,.ptr 0 0),(2,.ptr 1 0),(3,.ptr 2 0),(4,.ptr 4 0),(5,(aA.pv x2)),(6,.ptr 0 0),(7,.lit 1 (bA (([bH,lU,eV]:LB)))),(8,pS y5),(9,.ptr 0 0),(10,pB (decide (d3.below 3=0))),(11,(aA.pv x10)),(12,.agg [pS fP,.nil,pI x10.aFw,pS x10.aFs,aV x10.aFt,pB false,.nil,pI 0,pS s_,pS s_,pI 0,pI 0,pS s_,.nil,.nil,.nil]),(13,.lit 16 (aG.trs (([(aG.mk fP [] x10 false [] (aM.mk 0 s_ s_ 0 (aA.mk 0 s_ []) [] []))]:Z aG)))),(14,.agg [pS y5,.nil,pB false,pB (decide (d3.below 3=0)),.lit 16 (aG.trs (([(aG.mk fP [] x10 false [] (aM.mk 0 s_ s_ 0 (aA.mk 0 s_ []) [] []))]:Z aG)))]),(15,.ptr 0 0),(16,pB (decide (d7.below 2=0)))],⟨[some ⟨133,dC d13⟩,some ⟨156,[pS s_,.nil,pB false,pB false,.nil]⟩,some ⟨30,cF x2⟩,none,some ⟨156,[pS y5,.nil,pB false,pB (decide (d3.below 3=0)),.lit 16 (aG.trs (([(aG.mk fP [] x10 false [] (aM.mk 0 s_ s_ 0 (aA.mk 0 s_ []) [] []))]:Z aG)))]⟩],[]⟩⟩) (by simp [aG.tm,aG.tc]) rfl mG (by simp [aG.cs])) ?_;refine cB H fun z22 H=>(dW (dI [4] bW (dD [17] eG (dD [3] (b4 [pI x2.aFw,pS x2.aFs,aV x2.aFt]) (dI [19] (xD ([x2]:Z aA)) (dI [] (bJ func49 (y1 fu _ z9)) (dI [] (xD ([fJ,t2]:LB)) (dI [4] bW (dD [23] eG (dI [] (bJ func191 (DQ fu fJ _ z16)) (dI [25] (xD ([x17]:Z aM)) (dI [24,26] rQ (dI [] (bJ func192 (yP fu 1 _ z18)) ?_)))))))))))))
   refine dI [27,28] (xD ([(aM.mk 5 y5 fP 0 (aA.mk 0 s_ []) ([x17]:Z aM) []),x19]:Z aM)) (dI [29] (bJ func190 (yQ fu 10 D5 ([(aM.mk 5 y5 fP 0 (aA.mk 0 s_ []) ([x17]:Z aM) []),x19]:Z aM) _ z20)) (dI [20,21,22,30] rQ (dI [31] (xD ([(aG.mk gG ([x2]:Z aA) x10 true ([fJ,t2]:LB) x21)]:Z aG)) ?_)))
   refine dE [18,32] (WA (es1:=aG.trs (([(aG.mk fP [] x10 false [] (aM.mk 0 s_ s_ 0 (aA.mk 0 s_ []) [] []))]:Z aG))) (es2:=aG.trs (([(aG.mk gG ([x2]:Z aA) x10 true ([fJ,t2]:LB) x21)]:Z aG))) (es3:= [aG.cs (aG.mk fP [] x10 false [] (aM.mk 0 s_ s_ 0 (aA.mk 0 s_ []) [] [])),aG.cs (aG.mk gG ([x2]:Z aA) x10 true ([fJ,t2]:LB) x21)]) (cs:= [pS fP,aV [],pI x10.aFw,pS x10.aFs,aV x10.aFt,pB false,rS [],pI 0,pS s_,pS s_,pI 0,pI 0,pS s_,aV [],jV [],tX [],pS gG,aV ([x2]:Z aA),pI x10.aFw,pS x10.aFs,aV x10.aFt,pB true,rS ([fJ,t2]:LB),pI x21.aFw,pS x21.aFz,pS x21.aFs,pI x21.aGa,pI x21.aFu.aFw,pS x21.aFu.aFs,aV x21.aFu.aFt,jV x21.aFt,tX x21.aFP]) rfl rfl rfl rfl rfl (fun e he=>by rw [aG.tm] at he;obtain⟨x,_,rfl⟩:=List.mem_map.1 he;rw [aG.tc];rfl) (fun e he=>by rw [aG.tm] at he;obtain⟨x,_,rfl⟩:=List.mem_map.1 he;rw [aG.tc];rfl) (by rw [aG.tm];exact List.cons_ne_nil _ _) (by decide) YY.h azA.h (by decide) (by rw [aG.tl,aG.tl];exact zK z22 (by decide)) (by simp [aG.tm,aG.tc]) rfl rfl) ?_;refine dI [4] bW (iW [34,33] hY (dN (qS ?_)))
   refine qY (σ:=(LB)) (fun v23=>⟨[(0,.ptr 0 0),(2,.ptr 1 0),(4,.ptr 4 0)],⟨[some ⟨133,dC (d13.after 3)⟩,some ⟨156,[pS s_,.nil,pB false,pB false,.nil]⟩,some ⟨30,cF x2⟩,none,some ⟨156,[pS y5,.lit 1 (bA (v23)),pB false,pB (decide (d3.below 3=0)),.gsl 5 2]⟩,some ⟨237,[pS fP,aV [],pI x10.aFw,pS x10.aFs,aV x10.aFt,pB false,rS [],pI 0,pS s_,pS s_,pI 0,pI 0,pS s_,aV [],jV [],tX [],pS gG,aV ([x2]:Z aA),pI x10.aFw,pS x10.aFs,aV x10.aFt,pB true,rS ([fJ,t2]:LB),pI x21.aFw,pS x21.aFz,pS x21.aFs,pI x21.aGa,pI x21.aFu.aFw,pS x21.aFu.aFs,aV x21.aFu.aFt,jV x21.aFt,tX x21.aFP]⟩],[]⟩⟩) (fA H) (fun H=>?_) ?_
   ·refine gQ 3 ?_;refine gM H fun d24 h25 H=>?_
    have g26:=g15
    rw [← h25] at g26
    refine q1 (fO [0] [] func45 (FJ h25 (n6 d13 3))) (qN ?_)
    refine bG H (fun h27 H=>?_) (fun h27 H=>?_)
    ·refine qR (q1 (xD ([fD]:LB)) ?_)
     refine gQ 3 ?_
     subst h25
     exact gE 0
    refine dR.skip ?_
    subst h25
    exact gE 0
   rintro v23 H
   refine gQ 4 ?_;refine gM H fun d28 h29 H=>(q1 (fO [0] [] func73 (FJ h29 (fL (d13.after 3) 12))) ?_)
   refine gQ 7 ?_;refine YV (apC (b:=0) g15 (by decide) (by decide)) ?_;refine gQ 5 ?_;refine YV (apC (b:=1) g15 (by decide) (by decide)) ?_;refine gQ 5 ?_;refine bG H (fun h30 H=>?_) (fun h30 H=>?_)
   ·refine gM H fun d31 h32 H=>(gM H fun y33 h34 H=>(bN H fun x36 z35 H=>(dW (dI [4] bW (dB [52] 0 1 tP (dI [0] bI (dI [] (xD ([lI,ES]:LB)) (dE [54,55] (fO [0] [] func48 (QE h32 h34 (gF d28 ([lI,ES]:LB) (by decide)))) (dI [56] (bJ func137 (m6 (mC fu) y33 _ z35)) (dI [53] (N9 (sz:=16) (k:=5) (N:=2) (i:=0) rfl rfl rfl rfl (by decide) YY.h) (dI [58] bW (iW [59,57] hY (dN ?_)))))))))))))
    refine gQ 2 ?_;refine AL.weak (Y2 (k:=5) (sz:=16) (es:= [aG.cs (aG.mk fP ([]) x36 false ([]) (aM.mk 0 s_ s_ 0 (aA.mk 0 s_ ([])) ([]) ([]))),aG.cs (aG.mk gG ([x2]:Z aA) x10 true ([fJ,t2]:LB) x21)]) (es':=aG.trs (([(aG.mk fP ([]) x36 false ([]) (aM.mk 0 s_ s_ 0 (aA.mk 0 s_ ([])) ([]) ([]))),(aG.mk gG ([x2]:Z aA) x10 true ([fJ,t2]:LB) x21)]:Z aG))) (s':=⟨[(0,.ptr 0 0),(2,.ptr 1 0),(4,.ptr 4 0),(40,pN ((d13.after 3).below 12))],⟨[some ⟨133,dC d31⟩,some ⟨156,[pS s_,.nil,pB false,pB false,.nil]⟩,some ⟨30,cF x2⟩,none,some ⟨156,[pS y5,.lit 1 (bA (v23)),pB false,pB (decide (d3.below 3=0)),iF ([(aG.mk fP ([]) x36 false ([]) (aM.mk 0 s_ s_ 0 (aA.mk 0 s_ ([])) ([]) ([]))),(aG.mk gG ([x2]:Z aA) x10 true ([fJ,t2]:LB) x21)]:Z aG)]⟩,none],[]⟩⟩) (by simp [aG.tm,aG.tc]) rfl mG (by simp [aG.cs])) ?_;refine q1 (b4 [pS y5,.lit 1 (bA (v23)),pB false,pB (decide (d3.below 3=0)),iF ([(aG.mk fP ([]) x36 false ([]) (aM.mk 0 s_ s_ 0 (aA.mk 0 s_ ([])) ([]) ([]))),(aG.mk gG ([x2]:Z aA) x10 true ([fJ,t2]:LB) x21)]:Z aG)]) ?_;exact gE 2
   refine gQ 5 ?_;refine amM (awN g15 h30) ?_;refine gQ 3 ?_;refine q1 (N9 (sz:=16) (k:=5) (N:=2) (i:=0) rfl rfl rfl rfl (by decide) YY.h) ?_;refine gQ 5 ?_;refine AL.weak (Y2 (k:=5) (sz:=16) (es:= [aG.cs (aG.mk fP ([]) x10 true ([]) (aM.mk 0 s_ s_ 0 (aA.mk 0 s_ ([])) ([]) ([]))),aG.cs (aG.mk gG ([x2]:Z aA) x10 true ([fJ,t2]:LB) x21)]) (es':=aG.trs (([(aG.mk fP ([]) x10 true ([]) (aM.mk 0 s_ s_ 0 (aA.mk 0 s_ ([])) ([]) ([]))),(aG.mk gG ([x2]:Z aA) x10 true ([fJ,t2]:LB) x21)]:Z aG))) (s':=⟨[(0,.ptr 0 0),(2,.ptr 1 0),(4,.ptr 4 0),(40,pN ((d13.after 3).below 12))],⟨[some ⟨133,dC d28⟩,some ⟨156,[pS s_,.nil,pB false,pB false,.nil]⟩,some ⟨30,cF x2⟩,none,some ⟨156,[pS y5,.lit 1 (bA (v23)),pB false,pB (decide (d3.below 3=0)),iF ([(aG.mk fP ([]) x10 true ([]) (aM.mk 0 s_ s_ 0 (aA.mk 0 s_ ([])) ([]) ([]))),(aG.mk gG ([x2]:Z aA) x10 true ([fJ,t2]:LB) x21)]:Z aG)]⟩,none],[]⟩⟩) (by simp [aG.tm,aG.tc]) rfl mG (by simp [aG.cs])) ?_;refine q1 (b4 [pS y5,.lit 1 (bA (v23)),pB false,pB (decide (d3.below 3=0)),iF ([(aG.mk fP ([]) x10 true ([]) (aM.mk 0 s_ s_ 0 (aA.mk 0 s_ ([])) ([]) ([]))),(aG.mk gG ([x2]:Z aA) x10 true ([fJ,t2]:LB) x21)]:Z aG)]) ?_;exact gE 2
  have H:=sR H g12
  refine q1 (rV (cs:= [pS fP,.nil,pI x10.aFw,pS x10.aFs,aV x10.aFt,pB false,.nil,pI 0,pS s_,pS s_,pI 0,pI 0,pS s_,.nil,.nil,.nil]) rfl rfl YY.h awS.h rfl rfl rfl (by decide) rfl (by decide)) ?_;refine gQ 8 ?_;refine gM H fun d37 h38 H=>?_
  have g39:=g11
  rw [← h38] at g39
  refine q1 (fO [0] [] func45 (FJ h38 (n6 d7 2))) (qN (YV g12 ?_))
  refine gQ 2 ?_;refine qY (σ:=(LB)) (fun v40=>⟨[(0,.ptr 0 0),(2,.ptr 1 0),(4,.ptr 4 0)],⟨[some ⟨133,dC (d37.after 3)⟩,some ⟨156,[pS s_,.nil,pB false,pB false,.nil]⟩,some ⟨30,cF x2⟩,some ⟨237,[pS fP,.nil,pI x10.aFw,pS x10.aFs,aV x10.aFt,pB false,.nil,pI 0,pS s_,pS s_,pI 0,pI 0,pS s_,.nil,.nil,.nil]⟩,some ⟨156,[pS y5,.lit 1 (bA (v40)),pB false,pB (decide (d3.below 3=0)),.bsl 3 1]⟩],[]⟩⟩) (fA H) (fun H=>?_) ?_
  ·refine gQ 3 ?_;refine gM H fun d41 h42 H=>?_
   have g43:=g39
   rw [← h42] at g43
   refine q1 (fO [0] [] func45 (FJ h42 (n6 d37 3))) (qN ?_)
   refine bG H (fun h44 H=>?_) (fun h44 H=>?_)
   ·refine qR (q1 (xD ([fD]:LB)) ?_)
    refine gQ 3 ?_
    subst h42
    exact gE 0
   refine dR.skip ?_
   subst h42
   exact gE 0
  rintro v40 H
  refine gQ 4 ?_;refine gM H fun d45 h46 H=>(q1 (fO [0] [] func73 (FJ h46 (fL (d37.after 3) 12))) ?_)
  refine gQ 7 ?_;refine YV (apC (b:=0) g39 (by decide) (by decide)) ?_;refine gQ 5 ?_;refine YV (apC (b:=1) g39 (by decide) (by decide)) ?_;refine gQ 5 ?_;refine bG H (fun h47 H=>?_) (fun h47 H=>?_)
  ·refine gM H fun d48 h49 H=>(gM H fun y50 h51 H=>(bN H fun x53 z52 H=>(dW (dI [4] bW (dB [52] 0 1 tP (dI [0] bI (dI [] (xD ([lI,ES]:LB)) (dE [54,55] (fO [0] [] func48 (QE h49 h51 (gF d45 ([lI,ES]:LB) (by decide)))) (dI [56] (bJ func137 (m6 (mC fu) y50 _ z52)) (dI [53] (uY (sz:=16) (k:=3) (N:=1) (i:=0) rfl rfl rfl rfl (by decide) YY.h) (dI [58] bW (iW [59,57] hY (dN ?_)))))))))))))
   refine gQ 2 ?_;refine AL.weak (Y2 (k:=3) (sz:=16) (es:= [aG.cs (aG.mk fP [] x53 false [] (aM.mk 0 s_ s_ 0 (aA.mk 0 s_ []) [] []))]) (es':=aG.trs (([(aG.mk fP [] x53 false [] (aM.mk 0 s_ s_ 0 (aA.mk 0 s_ []) [] []))]:Z aG))) (s':=⟨[(0,.ptr 0 0),(2,.ptr 1 0),(4,.ptr 4 0),(40,pN ((d37.after 3).below 12))],⟨[some ⟨133,dC d48⟩,some ⟨156,[pS s_,.nil,pB false,pB false,.nil]⟩,some ⟨30,cF x2⟩,none,some ⟨156,[pS y5,.lit 1 (bA (v40)),pB false,pB (decide (d3.below 3=0)),iF ([(aG.mk fP [] x53 false [] (aM.mk 0 s_ s_ 0 (aA.mk 0 s_ []) [] []))]:Z aG)]⟩],[]⟩⟩) (by simp [aG.tm,aG.tc]) rfl mG (by simp [aG.cs])) ?_;refine q1 (b4 [pS y5,.lit 1 (bA (v40)),pB false,pB (decide (d3.below 3=0)),iF ([(aG.mk fP [] x53 false [] (aM.mk 0 s_ s_ 0 (aA.mk 0 s_ []) [] []))]:Z aG)]) ?_;exact gE 2
  refine gQ 5 ?_;refine amM (awN g39 h47) ?_;refine gQ 3 ?_;refine q1 (uY (sz:=16) (k:=3) (N:=1) (i:=0) rfl rfl rfl rfl (by decide) YY.h) ?_;refine gQ 5 ?_;refine AL.weak (Y2 (k:=3) (sz:=16) (es:= [aG.cs (aG.mk fP [] x10 true [] (aM.mk 0 s_ s_ 0 (aA.mk 0 s_ []) [] []))]) (es':=aG.trs (([(aG.mk fP [] x10 true [] (aM.mk 0 s_ s_ 0 (aA.mk 0 s_ []) [] []))]:Z aG))) (s':=⟨[(0,.ptr 0 0),(2,.ptr 1 0),(4,.ptr 4 0),(40,pN ((d37.after 3).below 12))],⟨[some ⟨133,dC d45⟩,some ⟨156,[pS s_,.nil,pB false,pB false,.nil]⟩,some ⟨30,cF x2⟩,none,some ⟨156,[pS y5,.lit 1 (bA (v40)),pB false,pB (decide (d3.below 3=0)),iF ([(aG.mk fP [] x10 true [] (aM.mk 0 s_ s_ 0 (aA.mk 0 s_ []) [] []))]:Z aG)]⟩],[]⟩⟩) (by simp [aG.tm,aG.tc]) rfl mG (by simp [aG.cs])) ?_;refine q1 (b4 [pS y5,.lit 1 (bA (v40)),pB false,pB (decide (d3.below 3=0)),iF ([(aG.mk fP [] x10 true [] (aM.mk 0 s_ s_ 0 (aA.mk 0 s_ []) [] []))]:Z aG)]) ?_;exact gE 2
 have H:=sR H g11
 refine q1 (sM ([(aG.mk fP [] x10 false [] (aM.mk 0 s_ s_ 0 (aA.mk 0 s_ []) [] []))]:Z aG)) ?_;refine gQ 5 ?_;refine qY (σ:=(Z aG)) (fun v55=>⟨[(0,.ptr 0 0),(2,.ptr 1 0),(4,.ptr 3 0)],⟨[some ⟨133,dC (d7.after 2)⟩,some ⟨156,[pS s_,.nil,pB false,pB false,.nil]⟩,some ⟨30,cF x2⟩,some ⟨156,[pS y5,.nil,pB false,pB (decide (d3.below 3=0)),m9 v55 0]⟩],[⟨237,16,aG.trs (v55),false⟩]⟩⟩) (fA H) (fun H=>?_) ?_
 ·refine gQ 3 ?_;refine gM H fun d56 h57 H=>?_
  have g58:=g11
  rw [← h57] at g58
  refine q1 (fO [0] [] func45 (FJ h57 (n6 d7 2))) (qN ?_)
  refine bG H (fun h59 H=>?_) (fun h59 H=>?_)
  ·refine bN H fun x61 z60 H=>(bN H fun x63 z62 H=>(bN H fun x65 z64 H=>(cB H fun z66 H=>(dW (dI [4] bW (dD [17] eG (dD [3] (b4 [pI x2.aFw,pS x2.aFs,aV x2.aFt]) (dI [19] (xD ([x2]:Z aA)) (dI [] (bJ func49 (y1 fu _ z9)) (dI [] (xD ([fJ,t2]:LB)) (dI [4] bW (dD [23] eG (dI [] (bJ func191 (DQ fu fJ _ z60)) ?_)))))))))))))
   refine dI [25] (xD ([x61]:Z aM)) (dI [24,26] rQ (dI [] (bJ func192 (yP fu 1 _ z62)) (dI [27,28] (xD ([(aM.mk 5 y5 fP 0 (aA.mk 0 s_ []) ([x61]:Z aM) []),x63]:Z aM)) (dI [29] (bJ func190 (yQ fu 10 D5 ([(aM.mk 5 y5 fP 0 (aA.mk 0 s_ []) ([x61]:Z aM) []),x63]:Z aM) _ z64)) (dI [20,21,22,30] rQ (dI [31] (xD ([(aG.mk gG ([x2]:Z aA) x10 true ([fJ,t2]:LB) x65)]:Z aG)) (dE [18,32] (lO z66) (dI [4] bW (iW [34,33] hY (dN ?_))))))))))
   subst h57
   exact gE 0
  refine dR.skip ?_
  subst h57
  exact gE 0
 rintro v55 H
 refine qS ?_;refine qY (σ:=(LB)) (fun v67=>⟨[(0,.ptr 0 0),(2,.ptr 1 0),(4,.ptr 3 0)],⟨[some ⟨133,dC ((d7.after 2).after 3)⟩,some ⟨156,[pS s_,.nil,pB false,pB false,.nil]⟩,some ⟨30,cF x2⟩,some ⟨156,[pS y5,.lit 1 (bA (v67)),pB false,pB (decide (d3.below 3=0)),m9 v55 0]⟩],[⟨237,16,aG.trs (v55),false⟩]⟩⟩) (fA H) (fun H=>?_) ?_
 ·refine gQ 3 ?_;refine gM H fun d68 h69 H=>?_
  have g70:=g11
  rw [← h69] at g70
  refine q1 (fO [0] [] func45 (FJ h69 (n6 (d7.after 2) 3))) (qN ?_)
  refine bG H (fun h71 H=>?_) (fun h71 H=>?_)
  ·refine qR (q1 (xD ([fD]:LB)) ?_)
   refine gQ 3 ?_
   subst h69
   exact gE 0
  refine dR.skip ?_
  subst h69
  exact gE 0
 rintro v67 H
 refine gQ 4 ?_;refine gM H fun d72 h73 H=>(q1 (fO [0] [] func73 (FJ h73 (fL ((d7.after 2).after 3) 12))) ?_)
 refine gQ 7 ?_;refine bG H (fun h74 H=>?_) (fun h74 H=>?_)
 ·refine gQ 6 ?_;refine q1 (b4 [pS y5,.lit 1 (bA (v67)),pB true,pB (decide (d3.below 3=0)),m9 v55 0]) ?_;exact gE 2
 refine gQ 5 ?_;refine bG H (fun h75 H=>?_) (fun h75 H=>?_)
 ·refine gQ 2 ?_;refine q1 (xD ([s_,fE,s_A]:LB)) (gM H fun d76 h77 H=>(gM H fun y78 h79 H=>(q1 (fO [0] [] func48 (QE h77 h79 (gF d72 ([s_,fE,s_A]:LB) (by decide)))) ?_)))
  refine gQ 5 ?_;refine q1 (b4 [pS y78,.lit 1 (bA (v67)),pB false,pB (decide (d3.below 3=0)),m9 v55 0]) ?_;exact gE 2
 refine gQ 5 ?_;refine YV (ayX g11) ?_;refine gQ 5 ?_;refine YV (ayY g11) ?_;refine gQ 5 ?_;refine bG H (fun h80 H=>?_) (fun h80 H=>?_)
 ·refine gQ 3 ?_;refine q1 (xD ([fD]:LB)) (cB H fun z81 H=>?_)
  refine q1 (mQ (es1:=bA (v67)) (es2:=bA (([fD]:LB))) (es3:=bA (v67++([fD]:LB))) rfl rfl rfl rfl rfl (tM _) (tM _) (by exact List.cons_ne_nil _ _) (by decide) amO.h av8.h (by decide) (by rw [b6,b6];exact zK z81 (by decide)) (zQ _ _)) ?_;refine gQ 5 ?_;refine q1 (b4 [pS y5,rS (v67++([fD]:LB)),pB false,pB (decide (d3.below 3=0)),m9 v55 0]) ?_;exact gE 2
 refine gQ 5 ?_;refine bG H (fun h82 H=>?_) (fun h82 H=>?_)
 ·refine cB H fun z83 H=>(gM H fun y84 h85 H=>(cB H fun z86 H=>(dW (dI [4] bW (dD [75] eG (dI [4] bW (dD [77] eG (dI [78] (AR h85 z83) (dI [79] (gZ (aG.cs y84)) (dI [80] (xD ([y84]:Z aG)) (dE [76,81] (lO z86) (dI [4] bW (iW [83,82] hY ?_)))))))))))))
  refine dN ?_;refine gQ 2 ?_;refine q1 (b4 [pS y5,.lit 1 (bA (v67)),pB false,pB (decide (d3.below 3=0)),m9 (v55++([y84]:Z aG)) 0]) ?_;exact gE 2
 refine gQ 3 ?_;refine q1 (b4 [pS y5,.lit 1 (bA (v67)),pB false,pB (decide (d3.below 3=0)),m9 v55 0]) ?_;exact gE 2
def DT(fu:Nat)(pc:DS):J (aO×DS):=bd (qO fu hH) fun x2=>bd (iJ fu cV ([x2]:Z aA)) fun x4=>lt (pc.after 10) fun d5=>sw (decide ((pc.below 10:Int)=0)) (lt (d5.after ([hH,ES]:LB).length) fun d8=>lt (d5.pick ([hH,ES]:LB)) fun y10=>gd ((([hH]:LB)).length+(([y10]:LB)).length≤68719476736) (some ((aO.mk cV (([hH]:LB)++([y10]:LB)) ([(aE.mk gW []),(aE.mk cU ([x2,x4]:Z aA))]:Z aE)),d8))) (sw (decide ((pc.below 10:Int)=1)) (lt (d5.after 2) fun d14=>gd ((0:Int)≤0∧(0:Int)≤(d5.below 2:Int)∧(d5.below 2:Int)≤((([(aE.mk gW []),(aE.mk cU ([x2,x4]:Z aA))]:Z aE).length:Nat):Int)) (some ((aO.mk cV ([hH]:LB) (List.drop (0:Int).toNat (List.take (d5.below 2:Int).toNat ([(aE.mk gW []),(aE.mk cU ([x2,x4]:Z aA))]:Z aE)))),d14))) (sw (decide ((pc.below 10:Int)=2)) (bd (sJ fu d5 2) fun(x19,x20)=>some ((aO.mk cV ([hH]:LB) ([(aE.mk gW ([x19]:Z aA)),(aE.mk cU ([x2,x4]:Z aA))]:Z aE)),x20)) (sw (decide ((pc.below 10:Int)=3)) (lt (d5.after ([cU,s_,aaV]:LB).length) fun d22=>lt (d5.pick ([cU,s_,aaV]:LB)) fun y24=>some ((aO.mk cV ([hH]:LB) ([(aE.mk y24 []),(aE.mk cU ([x2,x4]:Z aA))]:Z aE)),d22)) (some ((aO.mk cV ([hH]:LB) ([(aE.mk gW []),(aE.mk cU ([x2,x4]:Z aA))]:Z aE)),d5)))))
theorem akW(fu:Nat)(pc:DS)(r:aO×DS)(H:DT fu pc=some r):cM prog 164 [.ptr 0 0] ⟨[some ⟨133,dC pc⟩],[]⟩ (fun q t=>q=((aO.pv r.1))∧t=⟨[some ⟨133,dC r.2⟩],[]⟩):=by
 refine qJ func164 H (fun C hC H=>?_)
 refine gQ 6 ?_;refine q1 (xD ([hH]:LB)) (q1 rQ (bN H fun x2 z1 H=>?_))
 iterate 2 refine q1 (bJ func137 (m6 (mC fu) hH _ z1)) ?_
 refine q1 (xD ([x2]:Z aA)) (bN H fun x4 z3 H=>(q1 (bJ func47 (wE (jZ fu) cV ([x2]:Z aA) _ z3)) (q1 (xD ([x2,x4]:Z aA)) (q1 rQ (q1 (rV (cs:= [pS gW,.nil,pS cU,.lit 3 (aA.trs (([x2,x4]:Z aA)))]) rfl rfl au7.h aBt.h rfl rfl rfl (by decide) rfl (by decide)) ?_)))))
 refine gQ 8 ?_;refine gM H fun d5 h6 H=>(q1 (fO [0] [] func73 (FJ h6 (fL pc 10))) ?_)
 refine gQ 7 ?_;refine bG H (fun h7 H=>?_) (fun h7 H=>?_)
 ·refine gM H fun d8 h9 H=>(gM H fun y10 h11 H=>(cB H fun z12 H=>(dW (dI [3] bW (dB [18] 0 1 tP (dI [0] bI (dI [] (xD ([hH,ES]:LB)) (dE [20,21] (fO [0] [] func48 (QE h9 h11 (gF d5 ([hH,ES]:LB) (by decide)))) (dI [22] (xD ([y10]:LB)) ?_)))))))))
  refine dI [19,23] (mQ (es1:=bA (([hH]:LB))) (es2:=bA (([y10]:LB))) (es3:=bA (([hH]:LB)++([y10]:LB))) rfl rfl rfl rfl rfl (tM _) (tM _) (by exact List.cons_ne_nil _ _) (by decide) amO.h av8.h (by decide) (by rw [b6,b6];exact zK z12 (by decide)) (zQ _ _)) ?_;refine dI [3] bW (iW [25,24] hY (dN ?_))
  refine gQ 2 ?_;refine AL.weak (Y2 (k:=2) (sz:=2) (es:= [aE.cs (aE.mk gW []),aE.cs (aE.mk cU ([x2,x4]:Z aA))]) (es':=aE.trs (([(aE.mk gW []),(aE.mk cU ([x2,x4]:Z aA))]:Z aE))) (s':=⟨[(0,.ptr 0 0),(2,.ptr 1 0),(3,.ptr 3 0),(15,pN (pc.below 10))],⟨[some ⟨133,dC d8⟩,some ⟨39,[pS s_,.nil,.nil]⟩,none,some ⟨39,[pS cV,rS (([hH]:LB)++([y10]:LB)),eB ([(aE.mk gW []),(aE.mk cU ([x2,x4]:Z aA))]:Z aE)]⟩],[]⟩⟩) (by simp [aE.tm,aE.tc]) rfl mG (by simp [aE.cs])) ?_;refine q1 (b4 [pS cV,rS (([hH]:LB)++([y10]:LB)),eB ([(aE.mk gW []),(aE.mk cU ([x2,x4]:Z aA))]:Z aE)]) ?_;exact gE 2
 refine gQ 5 ?_;refine bG H (fun h13 H=>?_) (fun h13 H=>?_)
 ·refine gM H fun d14 h15 H=>?_;refine kC (Y2 (k:=2) (sz:=2) (es:= [aE.cs (aE.mk gW []),aE.cs (aE.mk cU ([x2,x4]:Z aA))]) (es':=aE.trs (([(aE.mk gW []),(aE.mk cU ([x2,x4]:Z aA))]:Z aE))) (s':=⟨[(0,.ptr 0 0),(2,.ptr 1 0),(3,.ptr 3 0),(4,.lit 1 (bA (([hH]:LB)))),(5,.agg [pS gW,.nil]),(6,(aA.pv x2)),(7,(aA.pv x2)),(8,.lit 3 (aA.trs (([x2]:Z aA)))),(9,(aA.pv x4)),(10,.lit 3 (aA.trs (([x2,x4]:Z aA)))),(11,.agg [pS cU,.lit 3 (aA.trs (([x2,x4]:Z aA)))]),(12,eB ([(aE.mk gW []),(aE.mk cU ([x2,x4]:Z aA))]:Z aE)),(13,.agg [pS cV,.lit 1 (bA (([hH]:LB))),eB ([(aE.mk gW []),(aE.mk cU ([x2,x4]:Z aA))]:Z aE)]),(14,.ptr 0 0),(15,pN (pc.below 10)),(16,pB (decide ((pc.below 10:Int)=0))),(17,pB (decide ((pc.below 10:Int)=0))),(26,pB (decide ((pc.below 10:Int)=1))),(27,pB (decide ((pc.below 10:Int)=1)))],⟨[some ⟨133,dC d5⟩,some ⟨39,[pS s_,.nil,.nil]⟩,none,some ⟨39,[pS cV,.lit 1 (bA (([hH]:LB))),eB ([(aE.mk gW []),(aE.mk cU ([x2,x4]:Z aA))]:Z aE)]⟩],[]⟩⟩) (by simp [aE.tm,aE.tc]) rfl mG (by simp [aE.cs])) ?_;refine cB H fun z16 H=>(dW (dI [3] bW (dB [28] 0 1 tP (dI [0] bI (dE [30] (fO [0] [] func73 (FJ h15 (fL d5 2))) ?_)))))
  refine dI [29,31] (jP (jQ (es:=aE.trs (([(aE.mk gW []),(aE.mk cU ([x2,x4]:Z aA))]:Z aE))) (l:=0) (k:=(d5.below 2:Int)) rfl rfl rfl rfl rfl (by rw [aE.tl];exact rfl) (by rw [aE.tl];exact z16) au7.h) (aE.tq _ _ _)) ?_;refine dI [3] bW (iW [33,32] hY (dN ?_))
  refine gQ 2 ?_;refine q1 (b4 [pS cV,.lit 1 (bA (([hH]:LB))),eB (List.drop (0:Int).toNat (List.take (d5.below 2:Int).toNat ([(aE.mk gW []),(aE.mk cU ([x2,x4]:Z aA))]:Z aE)))]) ?_;exact gE 2
 refine gQ 5 ?_;refine bG H (fun h17 H=>?_) (fun h17 H=>?_)
 ·refine eX H fun x19 x20 z18 H=>(dW (dI [3] bW (dB [36] 0 1 tP (dI [0] bI (dE [38] (fO [0] [] func132 (yZ (yY fu) d5 2 _ z18)) (dI [39] (xD ([x19]:Z aA)) (dI [37] (uY (sz:=2) (k:=2) (N:=2) (i:=0) rfl rfl rfl rfl (by decide) au7.h) (dI [41] bW (iW [42,40] hY (dN ?_))))))))))
  refine gQ 2 ?_;refine AL.weak (Y2 (k:=2) (sz:=2) (es:= [aE.cs (aE.mk gW ([x19]:Z aA)),aE.cs (aE.mk cU ([x2,x4]:Z aA))]) (es':=aE.trs (([(aE.mk gW ([x19]:Z aA)),(aE.mk cU ([x2,x4]:Z aA))]:Z aE))) (s':=⟨[(0,.ptr 0 0),(2,.ptr 1 0),(3,.ptr 3 0),(15,pN (pc.below 10))],⟨[some ⟨133,dC x20⟩,some ⟨39,[pS s_,.nil,.nil]⟩,none,some ⟨39,[pS cV,.lit 1 (bA (([hH]:LB))),eB ([(aE.mk gW ([x19]:Z aA)),(aE.mk cU ([x2,x4]:Z aA))]:Z aE)]⟩],[]⟩⟩) (by simp [aE.tm,aE.tc]) rfl mG (by simp [aE.cs])) ?_;refine q1 (b4 [pS cV,.lit 1 (bA (([hH]:LB))),eB ([(aE.mk gW ([x19]:Z aA)),(aE.mk cU ([x2,x4]:Z aA))]:Z aE)]) ?_;exact gE 2
 refine gQ 5 ?_;refine bG H (fun h21 H=>?_) (fun h21 H=>?_)
 ·refine gM H fun d22 h23 H=>(gM H fun y24 h25 H=>(dW (dI [3] bW (dB [45] 0 1 tP (dI [0] bI (dI [] (xD ([cU,s_,aaV]:LB)) (dE [47,48] (fO [0] [] func48 (QE h23 h25 (gF d5 ([cU,s_,aaV]:LB) (by decide)))) (dI [46] (uY (sz:=2) (k:=2) (N:=2) (i:=0) rfl rfl rfl rfl (by decide) au7.h) (dI [50] bW (iW [51,49] hY (dN ?_)))))))))))
  refine gQ 2 ?_;refine AL.weak (Y2 (k:=2) (sz:=2) (es:= [aE.cs (aE.mk y24 []),aE.cs (aE.mk cU ([x2,x4]:Z aA))]) (es':=aE.trs (([(aE.mk y24 []),(aE.mk cU ([x2,x4]:Z aA))]:Z aE))) (s':=⟨[(0,.ptr 0 0),(2,.ptr 1 0),(3,.ptr 3 0),(15,pN (pc.below 10))],⟨[some ⟨133,dC d22⟩,some ⟨39,[pS s_,.nil,.nil]⟩,none,some ⟨39,[pS cV,.lit 1 (bA (([hH]:LB))),eB ([(aE.mk y24 []),(aE.mk cU ([x2,x4]:Z aA))]:Z aE)]⟩],[]⟩⟩) (by simp [aE.tm,aE.tc]) rfl mG (by simp [aE.cs])) ?_;refine q1 (b4 [pS cV,.lit 1 (bA (([hH]:LB))),eB ([(aE.mk y24 []),(aE.mk cU ([x2,x4]:Z aA))]:Z aE)]) ?_;exact gE 2
 refine gQ 3 ?_;refine AL.weak (Y2 (k:=2) (sz:=2) (es:= [aE.cs (aE.mk gW []),aE.cs (aE.mk cU ([x2,x4]:Z aA))]) (es':=aE.trs (([(aE.mk gW []),(aE.mk cU ([x2,x4]:Z aA))]:Z aE))) (s':=⟨[(0,.ptr 0 0),(2,.ptr 1 0),(3,.ptr 3 0),(15,pN (pc.below 10))],⟨[some ⟨133,dC d5⟩,some ⟨39,[pS s_,.nil,.nil]⟩,none,some ⟨39,[pS cV,.lit 1 (bA (([hH]:LB))),eB ([(aE.mk gW []),(aE.mk cU ([x2,x4]:Z aA))]:Z aE)]⟩],[]⟩⟩) (by simp [aE.tm,aE.tc]) rfl mG (by simp [aE.cs])) ?_;refine q1 (b4 [pS cV,.lit 1 (bA (([hH]:LB))),eB ([(aE.mk gW []),(aE.mk cU ([x2,x4]:Z aA))]:Z aE)]) ?_;exact gE 2
end
end Go.Proofs.YtfcoaagbccmahaaGreat.W
