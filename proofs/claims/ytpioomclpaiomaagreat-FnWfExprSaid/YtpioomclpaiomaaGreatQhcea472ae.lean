/- Words, rules and walks of several kinds, laid together: MaP7, MaP8, MaP9, MaFnd, PmI, MaVisS, MaVisI, Bk, Pl, PlOk, OkW, OkA1, OkA2. No conditions but those that each theorem states. -/
import Derived.Test.YtpioomclpaiomaaGreatQh38b1491e
import Derived.Test.YtpioomclpaiomaaGreatQh73782e98
import Derived.Test.YtpioomclpaiomaaGreatQh270167b8
import Derived.Test.YtpioomclpaiomaaGreatQh7b7fa178
set_option linter.unusedSimpArgs false
set_option linter.unusedVariables false
namespace Go.Proofs.YtpioomclpaiomaaGreat.W
set_option maxRecDepth 100000
set_option maxHeartbeats 40000000
noncomputable section
open Tryz Go.RowKit Go.Proofs
attribute [local irreducible] lt
abbrev HH:=DS→(LB)→Int→Option (aB×DS)
def NL(m:HH):Prop:= ∀(pc:DS) (pvars:LB) (pdeep:Int) (r:aB×DS),m pc pvars pdeep=some r→CV Tryz.prog 130 [.ptr 0 0,rS pvars,pI pdeep] ⟨[some ⟨151,dC pc⟩],[]⟩ [some ⟨151,dC r.2⟩] 35 3 (aB.trs (r.1.gArgs)) (fun k=> .agg [pI r.1.gKind,pS r.1.gName,jA r.1.gArgs k])
theorem afN{m:HH}(h:NL m)(pc:DS)(pvars:LB)(pdeep:Int)(r:aB×DS)(H:m pc pvars pdeep=some r):c6 Tryz.prog 130 [.ptr 0 0,rS pvars,pI pdeep] ⟨[some ⟨151,dC pc⟩],[]⟩ (fun q t=>q=((aB.pv r.1):PV)∧t=⟨[some ⟨151,dC r.2⟩],[]⟩):=(h pc pvars pdeep r H).plain (fun _=>iX) (hp:=anN)
def abQ(fu:Nat)(r_sl4Ty:HH)(pc:DS)(pvars:LB)(pdeep:Int):Option (aB×DS):=
 lt (pc.after 8) (fun d1=>
 sw (decide ((pc.below 8:Int)<3))
 (sw (decide ((pvars.length:Int)>0))
 (lt (d1.after pvars.length) (fun d5=>
 gd (d1.below pvars.length<(pvars).length)
 (bd (nS fu (aW pvars (d1.below pvars.length))) (fun x9=>
 some ((aB.mk x9.gKind x9.gName x9.gArgs),d5)))))
 (sw (decide ((pc.below 8:Int)<5))
 (lt (d1.after ([fC,eX,jM]:LB).length) (fun d11=>
 lt (d1.pick ([fC,eX,jM]:LB)) (fun y13=>
 bd (jQ fu y13 ([])) (fun x16=>
 some ((aB.mk x16.gKind x16.gName x16.gArgs),d11)))))
 (sw (decide (pdeep≤0))
 (lt (d1.after ([fC,eX,jM]:LB).length) (fun d18=>
 lt (d1.pick ([fC,eX,jM]:LB)) (fun y20=>
 bd (jQ fu y20 ([])) (fun x23=>
 some ((aB.mk x23.gKind x23.gName x23.gArgs),d18)))))
 (sw (decide ((pc.below 8:Int)=5))
 (bd (r_sl4Ty d1 pvars (aQ (pdeep-1))) (fun(x26,x27)=>
 bd (r_sl4Ty x27 pvars (aQ (pdeep-1))) (fun(x29,x30)=>
 bd (jQ fu uG ([(aB.mk x26.gKind x26.gName x26.gArgs),(aB.mk x29.gKind x29.gName x29.gArgs)]:List aB)) (fun x32=>
 some ((aB.mk x32.gKind x32.gName x32.gArgs),x30)))))
 (lt (d1.after ([cS,cS,AQ]:LB).length) (fun d33=>
 lt (d1.pick ([cS,cS,AQ]:LB)) (fun y35=>
 bd (r_sl4Ty d33 pvars (aQ (pdeep-1))) (fun(x38,x39)=>
 bd (jQ fu y35 ([(aB.mk x38.gKind x38.gName x38.gArgs)]:List aB)) (fun x41=>
 some ((aB.mk x41.gKind x41.gName x41.gArgs),x39))))))))))
 (sw (decide ((pc.below 8:Int)<5))
 (lt (d1.after ([fC,eX,jM]:LB).length) (fun d43=>
 lt (d1.pick ([fC,eX,jM]:LB)) (fun y45=>
 bd (jQ fu y45 ([])) (fun x48=>
 some ((aB.mk x48.gKind x48.gName x48.gArgs),d43)))))
 (sw (decide (pdeep≤0))
 (lt (d1.after ([fC,eX,jM]:LB).length) (fun d50=>
 lt (d1.pick ([fC,eX,jM]:LB)) (fun y52=>
 bd (jQ fu y52 ([])) (fun x55=>
 some ((aB.mk x55.gKind x55.gName x55.gArgs),d50)))))
 (sw (decide ((pc.below 8:Int)=5))
 (bd (r_sl4Ty d1 pvars (aQ (pdeep-1))) (fun(x58,x59)=>
 bd (r_sl4Ty x59 pvars (aQ (pdeep-1))) (fun(x61,x62)=>
 bd (jQ fu uG ([(aB.mk x58.gKind x58.gName x58.gArgs),(aB.mk x61.gKind x61.gName x61.gArgs)]:List aB)) (fun x64=>
 some ((aB.mk x64.gKind x64.gName x64.gArgs),x62)))))
 (lt (d1.after ([cS,cS,AQ]:LB).length) (fun d65=>
 lt (d1.pick ([cS,cS,AQ]:LB)) (fun y67=>
 bd (r_sl4Ty d65 pvars (aQ (pdeep-1))) (fun(x70,x71)=>
 bd (jQ fu y67 ([(aB.mk x70.gKind x70.gName x70.gArgs)]:List aB)) (fun x73=>
 some ((aB.mk x73.gKind x73.gName x73.gArgs),x71))))))))))
theorem ai4(fu:Nat)(r_sl4Ty:HH)(h_sl4Ty:NL r_sl4Ty):NL (abQ fu r_sl4Ty):=by
 intro pc pvars pdeep r H
 unfold CV
 have H:=eE H
 refine qI func130 (fun C hC=>?_)
 refine qW (q1 (fO jN) (qN (qW (q1 aE (fP H fun d1 h2 H=>(q1 (iF [0] [] func103 (BG h2 (eQ pc 8))) (q1 aE (qN (qS (aR.block (qS ?_)))))))))))
 refine qR (q1 aE (q1 gI (q1 aE ?_)))
 refine eF 13 H (fun g3 H=>?_) fun g3 H=>?_
 ·have g3n:pc.below 8<3:=by have:=of_decide_eq_true g3;omega
  refine qg g3 aE (qg g3 (dL b3 (bC _)) (qg g3 KL (q1 (bV g3) (q1 aE (qN ?_)))))
  refine a8 H (fun h4 H=>?_) (fun h4 H=>?_)
  ·refine qS (qR ?_)
   iterate 3 refine q1 aE ?_
   refine q1 (dL b3 (bC _)) (fP H fun d5 h6 H=>(q1 (iF [0] [] func103 (BG h6 (eQ d1 pvars.length))) (dK H fun z7 H=>(q1 (kP z7 b3) (q1 (kQ eJ) (bI H fun x9 z8 H=>(q1 (a3.callOwn (pre:=⟨[],[]⟩) (B:= []) (R:=fun k=> .agg [pI x9.gKind,pS x9.gName,jA x9.gArgs k]) (ps:= [_]) (qs:= [pS (aW pvars (d1.below pvars.length))]) [] rfl rfl func118 (by kernel_rfl) rfl rfl rfl (gA.of trivial trivial (by decide) (by decide)) rfl iX rfl rfl rfl (fun k k'=>(.agg (.cons (.free _ rfl) (.cons (.free _ rfl) (.cons Mv.acc CU.nil))))) (kT fu (aW pvars (d1.below pvars.length)) _ z8)) (q1 (bR jE) (qZ ?_)))))))))
   cases aX H
   exact bE (st':=⟨[some ⟨151,dC d5⟩],[⟨35,3,aB.trs (x9.gArgs),false⟩]⟩) ⟨0,rfl,rfl,rfl⟩ (hr:=⟨⟨_,_,_,rfl,rfl,cU,rfl,rfl⟩,trivial⟩)
  refine qW (q1 aE (q1 gI (q1 aE ?_)))
  refine eF 29 H (fun g10 H=>?_) fun g10 H=>?_
  ·have g10n:pc.below 8<5:=by have:=of_decide_eq_true g10;omega
   iterate 2 refine qk g10 ?_
   refine q1 (bV g10) (q1 aE (qN (eL rfl (qW (q1 aE (q1 (j9 ([fC,eX,jM]:LB) b3 lU) (fP H fun d11 h12 H=>(fP H fun y13 h14 H=>(q1 (iF [0] [] func86 (Q7 h12 h14 (iE d1 ([fC,eX,jM]:LB) (by decide)))) (bI H fun x16 z15 H=>(q1 (a3.callOwn (pre:=⟨[],[]⟩) (B:= []) (R:=fun k=> .agg [pI x16.gKind,pS x16.gName,jA x16.gArgs k]) (ps:= [_,_]) (qs:= [pS y13,_]) [] rfl rfl func85 (by kernel_rfl) rfl rfl rfl (gA.of trivial trivial (by decide) (by decide)) rfl iX rfl rfl rfl (fun k k'=>(.agg (.cons (.free _ rfl) (.cons (.free _ rfl) (.cons Mv.acc CU.nil))))) (jI fu y13 ([]) _ z15)) (q1 (bR jE) ?_))))))))))))
   refine qN (aR.ret ?_)
   cases aX H
   exact bE (st':=⟨[some ⟨151,dC d11⟩],[⟨35,3,aB.trs (x16.gArgs),false⟩]⟩) ⟨0,rfl,rfl,rfl⟩ (hr:=⟨⟨_,_,_,rfl,rfl,cU,rfl,rfl⟩,trivial⟩)
  refine qg g10 aE (qg g10 rLe (q1 (b9 g10) (q1 aE (qN ?_))))
  refine a8 H (fun h17 H=>?_) (fun h17 H=>?_)
  ·refine qW (q1 aE (q1 (j9 ([fC,eX,jM]:LB) b3 lU) (fP H fun d18 h19 H=>(fP H fun y20 h21 H=>(q1 (iF [0] [] func86 (Q7 h19 h21 (iE d1 ([fC,eX,jM]:LB) (by decide)))) (bI H fun x23 z22 H=>(q1 (a3.callOwn (pre:=⟨[],[]⟩) (B:= []) (R:=fun k=> .agg [pI x23.gKind,pS x23.gName,jA x23.gArgs k]) (ps:= [_,_]) (qs:= [pS y20,_]) [] rfl rfl func85 (by kernel_rfl) rfl rfl rfl (gA.of trivial trivial (by decide) (by decide)) rfl iX rfl rfl rfl (fun k k'=>(.agg (.cons (.free _ rfl) (.cons (.free _ rfl) (.cons Mv.acc CU.nil))))) (jI fu y20 ([]) _ z22)) (q1 (bR jE) (qZ ?_)))))))))
   cases aX H
   exact bE (st':=⟨[some ⟨151,dC d18⟩],[⟨35,3,aB.trs (x23.gArgs),false⟩]⟩) ⟨0,rfl,rfl,rfl⟩ (hr:=⟨⟨_,_,_,rfl,rfl,cU,rfl,rfl⟩,trivial⟩)
  refine qW (q1 aE (q1 dM (q1 aE (qN ?_))))
  refine a8 H (fun h24 H=>?_) (fun h24 H=>?_)
  ·refine qS (qR ?_)
   iterate 3 refine q1 aE ?_
   refine q1 EP (fZ H fun x26 x27 z25 H=>(q1 (a3.callOwn (pre:=⟨[some ⟨151,dC d1⟩],[]⟩) (B:= [some ⟨151,dC x27⟩]) (R:=fun k=> .agg [pI x26.gKind,pS x26.gName,jA x26.gArgs k]) (ps:= [_,_,_]) (qs:= [.ptr 0 0,rS pvars,pI (aQ (pdeep-1))]) [0] rfl rfl func130 (by kernel_rfl) rfl rfl rfl (gA.of ⟨⟨_,rfl,rfl,iX,rfl⟩,trivial⟩ trivial (by decide) (by decide)) rfl iX rfl rfl rfl (fun k k'=>(.agg (.cons (.free _ rfl) (.cons (.free _ rfl) (.cons Mv.acc CU.nil))))) (h_sl4Ty d1 pvars (aQ (pdeep-1)) _ z25)) ?_))
   iterate 3 refine q1 aE ?_
   refine q1 EP (fZ H fun x29 x30 z28 H=>(q1 (a3.callOwn (pre:=⟨[some ⟨151,dC x27⟩],[]⟩) (B:= [some ⟨151,dC x30⟩]) (R:=fun k=> .agg [pI x29.gKind,pS x29.gName,jA x29.gArgs k]) (ps:= [_,_,_]) (qs:= [.ptr 0 0,rS pvars,pI (aQ (pdeep-1))]) [0] rfl rfl func130 (by kernel_rfl) rfl rfl rfl (gA.of ⟨⟨_,rfl,rfl,iX,rfl⟩,trivial⟩ trivial (by decide) (by decide)) rfl iX rfl rfl rfl (fun k k'=>(.agg (.cons (.free _ rfl) (.cons (.free _ rfl) (.cons Mv.acc CU.nil))))) (h_sl4Ty x27 pvars (aQ (pdeep-1)) _ z28)) (q1 (uK ([(aB.mk x26.gKind x26.gName x26.gArgs),(aB.mk x29.gKind x29.gName x29.gArgs)]:List aB) eU jN) (bI H fun x32 z31 H=>(q1 (a3.callOwn (pre:=⟨[],[]⟩) (B:= []) (R:=fun k=> .agg [pI x32.gKind,pS x32.gName,jA x32.gArgs k]) (ps:= [_,_]) (qs:= [pS uG,a7 ([(aB.mk x26.gKind x26.gName x26.gArgs),(aB.mk x29.gKind x29.gName x29.gArgs)]:List aB)]) [] rfl rfl func85 (by kernel_rfl) rfl rfl rfl (gA.of trivial trivial (by decide) (by decide)) rfl iX rfl rfl rfl (fun k k'=>(.agg (.cons (.free _ rfl) (.cons (.free _ rfl) (.cons Mv.acc CU.nil))))) (jI fu uG ([(aB.mk x26.gKind x26.gName x26.gArgs),(aB.mk x29.gKind x29.gName x29.gArgs)]:List aB) _ z31)) (q1 (bR jE) (qZ ?_)))))))
   cases aX H
   exact bE (st':=⟨[some ⟨151,dC x30⟩],[⟨35,3,aB.trs (x26.gArgs),false⟩,⟨35,3,aB.trs (x29.gArgs),false⟩,⟨35,3,aB.trs (([(aB.mk x26.gKind x26.gName x26.gArgs),(aB.mk x29.gKind x29.gName x29.gArgs)]:List aB)),false⟩,⟨35,3,aB.trs (x32.gArgs),false⟩]⟩) ⟨3,rfl,rfl,rfl⟩ (hr:=⟨⟨_,_,_,rfl,rfl,cU,rfl,rfl⟩,trivial⟩)
  refine aR.skip (qW (q1 aE (q1 (j9 ([cS,cS,AQ]:LB) b3 lU) (fP H fun d33 h34 H=>(fP H fun y35 h36 H=>(q1 (iF [0] [] func86 (Q7 h34 h36 (iE d1 ([cS,cS,AQ]:LB) (by decide)))) ?_))))))
  iterate 3 refine q1 aE ?_
  refine q1 EP (fZ H fun x38 x39 z37 H=>(q1 (a3.callOwn (pre:=⟨[some ⟨151,dC d33⟩],[]⟩) (B:= [some ⟨151,dC x39⟩]) (R:=fun k=> .agg [pI x38.gKind,pS x38.gName,jA x38.gArgs k]) (ps:= [_,_,_]) (qs:= [.ptr 0 0,rS pvars,pI (aQ (pdeep-1))]) [0] rfl rfl func130 (by kernel_rfl) rfl rfl rfl (gA.of ⟨⟨_,rfl,rfl,iX,rfl⟩,trivial⟩ trivial (by decide) (by decide)) rfl iX rfl rfl rfl (fun k k'=>(.agg (.cons (.free _ rfl) (.cons (.free _ rfl) (.cons Mv.acc CU.nil))))) (h_sl4Ty d33 pvars (aQ (pdeep-1)) _ z37)) (q1 (uK ([(aB.mk x38.gKind x38.gName x38.gArgs)]:List aB) eU jN) (bI H fun x41 z40 H=>(q1 (a3.callOwn (pre:=⟨[],[]⟩) (B:= []) (R:=fun k=> .agg [pI x41.gKind,pS x41.gName,jA x41.gArgs k]) (ps:= [_,_]) (qs:= [pS y35,a7 ([(aB.mk x38.gKind x38.gName x38.gArgs)]:List aB)]) [] rfl rfl func85 (by kernel_rfl) rfl rfl rfl (gA.of trivial trivial (by decide) (by decide)) rfl iX rfl rfl rfl (fun k k'=>(.agg (.cons (.free _ rfl) (.cons (.free _ rfl) (.cons Mv.acc CU.nil))))) (jI fu y35 ([(aB.mk x38.gKind x38.gName x38.gArgs)]:List aB) _ z40)) (q1 (bR jE) (qZ ?_)))))))
  cases aX H
  exact bE (st':=⟨[some ⟨151,dC x39⟩],[⟨35,3,aB.trs (x38.gArgs),false⟩,⟨35,3,aB.trs (([(aB.mk x38.gKind x38.gName x38.gArgs)]:List aB)),false⟩,⟨35,3,aB.trs (x41.gArgs),false⟩]⟩) ⟨2,rfl,rfl,rfl⟩ (hr:=⟨⟨_,_,_,rfl,rfl,cU,rfl,rfl⟩,trivial⟩)
 iterate 3 refine qk g3 ?_
 refine q1 (b9 g3) (q1 aE (qN (jR rfl (qW (q1 aE (q1 gI (q1 aE ?_)))))))
 refine eF 29 H (fun g42 H=>?_) fun g42 H=>?_
 ·have g42n:pc.below 8<5:=by have:=of_decide_eq_true g42;omega
  iterate 2 refine qk g42 ?_
  refine q1 (bV g42) (q1 aE (qN (eL rfl (qW (q1 aE (q1 (j9 ([fC,eX,jM]:LB) b3 lU) (fP H fun d43 h44 H=>(fP H fun y45 h46 H=>(q1 (iF [0] [] func86 (Q7 h44 h46 (iE d1 ([fC,eX,jM]:LB) (by decide)))) (bI H fun x48 z47 H=>(q1 (a3.callOwn (pre:=⟨[],[]⟩) (B:= []) (R:=fun k=> .agg [pI x48.gKind,pS x48.gName,jA x48.gArgs k]) (ps:= [_,_]) (qs:= [pS y45,_]) [] rfl rfl func85 (by kernel_rfl) rfl rfl rfl (gA.of trivial trivial (by decide) (by decide)) rfl iX rfl rfl rfl (fun k k'=>(.agg (.cons (.free _ rfl) (.cons (.free _ rfl) (.cons Mv.acc CU.nil))))) (jI fu y45 ([]) _ z47)) (q1 (bR jE) ?_))))))))))))
  refine qN (aR.ret ?_)
  cases aX H
  exact bE (st':=⟨[some ⟨151,dC d43⟩],[⟨35,3,aB.trs (x48.gArgs),false⟩]⟩) ⟨0,rfl,rfl,rfl⟩ (hr:=⟨⟨_,_,_,rfl,rfl,cU,rfl,rfl⟩,trivial⟩)
 refine qg g42 aE (qg g42 rLe (q1 (b9 g42) (q1 aE (qN ?_))))
 refine a8 H (fun h49 H=>?_) (fun h49 H=>?_)
 ·refine qW (q1 aE (q1 (j9 ([fC,eX,jM]:LB) b3 lU) (fP H fun d50 h51 H=>(fP H fun y52 h53 H=>(q1 (iF [0] [] func86 (Q7 h51 h53 (iE d1 ([fC,eX,jM]:LB) (by decide)))) (bI H fun x55 z54 H=>(q1 (a3.callOwn (pre:=⟨[],[]⟩) (B:= []) (R:=fun k=> .agg [pI x55.gKind,pS x55.gName,jA x55.gArgs k]) (ps:= [_,_]) (qs:= [pS y52,_]) [] rfl rfl func85 (by kernel_rfl) rfl rfl rfl (gA.of trivial trivial (by decide) (by decide)) rfl iX rfl rfl rfl (fun k k'=>(.agg (.cons (.free _ rfl) (.cons (.free _ rfl) (.cons Mv.acc CU.nil))))) (jI fu y52 ([]) _ z54)) (q1 (bR jE) (qZ ?_)))))))))
  cases aX H
  exact bE (st':=⟨[some ⟨151,dC d50⟩],[⟨35,3,aB.trs (x55.gArgs),false⟩]⟩) ⟨0,rfl,rfl,rfl⟩ (hr:=⟨⟨_,_,_,rfl,rfl,cU,rfl,rfl⟩,trivial⟩)
 refine qW (q1 aE (q1 dM (q1 aE (qN ?_))))
 refine a8 H (fun h56 H=>?_) (fun h56 H=>?_)
 ·refine qS (qR ?_)
  iterate 3 refine q1 aE ?_
  refine q1 EP (fZ H fun x58 x59 z57 H=>(q1 (a3.callOwn (pre:=⟨[some ⟨151,dC d1⟩],[]⟩) (B:= [some ⟨151,dC x59⟩]) (R:=fun k=> .agg [pI x58.gKind,pS x58.gName,jA x58.gArgs k]) (ps:= [_,_,_]) (qs:= [.ptr 0 0,rS pvars,pI (aQ (pdeep-1))]) [0] rfl rfl func130 (by kernel_rfl) rfl rfl rfl (gA.of ⟨⟨_,rfl,rfl,iX,rfl⟩,trivial⟩ trivial (by decide) (by decide)) rfl iX rfl rfl rfl (fun k k'=>(.agg (.cons (.free _ rfl) (.cons (.free _ rfl) (.cons Mv.acc CU.nil))))) (h_sl4Ty d1 pvars (aQ (pdeep-1)) _ z57)) ?_))
  iterate 3 refine q1 aE ?_
  refine q1 EP (fZ H fun x61 x62 z60 H=>(q1 (a3.callOwn (pre:=⟨[some ⟨151,dC x59⟩],[]⟩) (B:= [some ⟨151,dC x62⟩]) (R:=fun k=> .agg [pI x61.gKind,pS x61.gName,jA x61.gArgs k]) (ps:= [_,_,_]) (qs:= [.ptr 0 0,rS pvars,pI (aQ (pdeep-1))]) [0] rfl rfl func130 (by kernel_rfl) rfl rfl rfl (gA.of ⟨⟨_,rfl,rfl,iX,rfl⟩,trivial⟩ trivial (by decide) (by decide)) rfl iX rfl rfl rfl (fun k k'=>(.agg (.cons (.free _ rfl) (.cons (.free _ rfl) (.cons Mv.acc CU.nil))))) (h_sl4Ty x59 pvars (aQ (pdeep-1)) _ z60)) (q1 (uK ([(aB.mk x58.gKind x58.gName x58.gArgs),(aB.mk x61.gKind x61.gName x61.gArgs)]:List aB) eU jN) (bI H fun x64 z63 H=>(q1 (a3.callOwn (pre:=⟨[],[]⟩) (B:= []) (R:=fun k=> .agg [pI x64.gKind,pS x64.gName,jA x64.gArgs k]) (ps:= [_,_]) (qs:= [pS uG,a7 ([(aB.mk x58.gKind x58.gName x58.gArgs),(aB.mk x61.gKind x61.gName x61.gArgs)]:List aB)]) [] rfl rfl func85 (by kernel_rfl) rfl rfl rfl (gA.of trivial trivial (by decide) (by decide)) rfl iX rfl rfl rfl (fun k k'=>(.agg (.cons (.free _ rfl) (.cons (.free _ rfl) (.cons Mv.acc CU.nil))))) (jI fu uG ([(aB.mk x58.gKind x58.gName x58.gArgs),(aB.mk x61.gKind x61.gName x61.gArgs)]:List aB) _ z63)) (q1 (bR jE) (qZ ?_)))))))
  cases aX H
  exact bE (st':=⟨[some ⟨151,dC x62⟩],[⟨35,3,aB.trs (x58.gArgs),false⟩,⟨35,3,aB.trs (x61.gArgs),false⟩,⟨35,3,aB.trs (([(aB.mk x58.gKind x58.gName x58.gArgs),(aB.mk x61.gKind x61.gName x61.gArgs)]:List aB)),false⟩,⟨35,3,aB.trs (x64.gArgs),false⟩]⟩) ⟨3,rfl,rfl,rfl⟩ (hr:=⟨⟨_,_,_,rfl,rfl,cU,rfl,rfl⟩,trivial⟩)
 refine aR.skip (qW (q1 aE (q1 (j9 ([cS,cS,AQ]:LB) b3 lU) (fP H fun d65 h66 H=>(fP H fun y67 h68 H=>(q1 (iF [0] [] func86 (Q7 h66 h68 (iE d1 ([cS,cS,AQ]:LB) (by decide)))) ?_))))))
 iterate 3 refine q1 aE ?_
 refine q1 EP (fZ H fun x70 x71 z69 H=>(q1 (a3.callOwn (pre:=⟨[some ⟨151,dC d65⟩],[]⟩) (B:= [some ⟨151,dC x71⟩]) (R:=fun k=> .agg [pI x70.gKind,pS x70.gName,jA x70.gArgs k]) (ps:= [_,_,_]) (qs:= [.ptr 0 0,rS pvars,pI (aQ (pdeep-1))]) [0] rfl rfl func130 (by kernel_rfl) rfl rfl rfl (gA.of ⟨⟨_,rfl,rfl,iX,rfl⟩,trivial⟩ trivial (by decide) (by decide)) rfl iX rfl rfl rfl (fun k k'=>(.agg (.cons (.free _ rfl) (.cons (.free _ rfl) (.cons Mv.acc CU.nil))))) (h_sl4Ty d65 pvars (aQ (pdeep-1)) _ z69)) (q1 (uK ([(aB.mk x70.gKind x70.gName x70.gArgs)]:List aB) eU jN) (bI H fun x73 z72 H=>(q1 (a3.callOwn (pre:=⟨[],[]⟩) (B:= []) (R:=fun k=> .agg [pI x73.gKind,pS x73.gName,jA x73.gArgs k]) (ps:= [_,_]) (qs:= [pS y67,a7 ([(aB.mk x70.gKind x70.gName x70.gArgs)]:List aB)]) [] rfl rfl func85 (by kernel_rfl) rfl rfl rfl (gA.of trivial trivial (by decide) (by decide)) rfl iX rfl rfl rfl (fun k k'=>(.agg (.cons (.free _ rfl) (.cons (.free _ rfl) (.cons Mv.acc CU.nil))))) (jI fu y67 ([(aB.mk x70.gKind x70.gName x70.gArgs)]:List aB) _ z72)) (q1 (bR jE) (qZ ?_)))))))
 cases aX H
 exact bE (st':=⟨[some ⟨151,dC x71⟩],[⟨35,3,aB.trs (x70.gArgs),false⟩,⟨35,3,aB.trs (([(aB.mk x70.gKind x70.gName x70.gArgs)]:List aB)),false⟩,⟨35,3,aB.trs (x73.gArgs),false⟩]⟩) ⟨2,rfl,rfl,rfl⟩ (hr:=⟨⟨_,_,_,rfl,rfl,cU,rfl,rfl⟩,trivial⟩)
def sQ:Nat→DS→(LB)→Int→Option (aB×DS)
 |0,_,_,_=>none
 |fu+1,pc,pvars,pdeep=>abQ fu (sQ fu) pc pvars pdeep
theorem amG(fu:Nat):NL (sQ fu):=by
 induction fu with
 |zero=>exact(fun pc pvars pdeep r H=>by simp only [sQ] at H;cases H)
 |succ fu ih=>exact(fun pc pvars pdeep r H=>by simp only [sQ] at H;exact ai4 fu (sQ fu) ih pc pvars pdeep r H)
theorem V3(fu:Nat):NL (sQ fu):=(amG fu)
abbrev o8:=aB→Option aB
abbrev lP:=(List aB)→Option ((List aB))
def CT(m:o8):Prop:= ∀(pt:aB) (r:aB),m pt=some r→b4 Tryz.prog 60 [(aB.pv pt)] ((aB.pv r):PV)
def wI(m:lP):Prop:= ∀(plist:List aB) (r:(List aB)),m plist=some r→b4 Tryz.prog 122 [a7 plist] (a7 r:PV)
def QI(fu:Nat)(r_sl4Copy:o8)(r_sl4Copies:lP)(pt:aB):Option aB:=
 bd (r_sl4Copies pt.gArgs) (fun x2=>
 some (aB.mk pt.gKind pt.gName x2))
theorem abM(fu:Nat)(r_sl4Copy:o8)(r_sl4Copies:lP)(h_sl4Copy:CT r_sl4Copy)(h_sl4Copies:wI r_sl4Copies):CT (QI fu r_sl4Copy r_sl4Copies):=by
 intro pt r H
 have H:=eE H
 refine qI func60 (fun C hC=>?_)
 refine qW (q1 (iM (eD pt)) (q1 (fO jN) (qN (qS (bI H fun x2 z1 H=>(dW (dI [1] (a5 pF) (dD [3] (bD nT) (dI [1] (a5 kU) (dD [5] (bD eJ) (dI [1] (a5 gM) (dD [7] (bD kY) ?_))))))))))))
 refine dI [8] (bG func122 (h_sl4Copies pt.gArgs _ z1)) (dI [4,6,9] (gW jN EX) (lH [2,10] (bR jE) (dN (aR.ret ?_))))
 cases aX H
 exact bE (hr:=⟨⟨_,_,_,rfl,rfl,cU,rfl,rfl⟩,trivial⟩)
def abI(fu:Nat)(r_sl4Copy:o8)(r_sl4Copies:lP)(plist:List aB):Nat→((List aB))→Option (LR ((List aB)) ((List aB))):=
 fun i1 v3=>bd (r_sl4Copy (aW plist i1)) (fun x7=>
 gd ((v3).length+(([x7]:List aB)).length≤68719476736)
 (some (.next (v3++([x7]:List aB)))))
def abJ(fu:Nat)(r_sl4Copy:o8)(r_sl4Copies:lP)(plist:List aB):Option (((List aB))⊕((List aB))):=
 loopN (abI fu r_sl4Copy r_sl4Copies plist) (plist.length-0) 0 ([])
def GI(fu:Nat)(r_sl4Copy:o8)(r_sl4Copies:lP)(plist:List aB):Option ((List aB)):=
 so (abJ fu r_sl4Copy r_sl4Copies plist) (fun v3=>
 some v3)
theorem V1(fu:Nat)(r_sl4Copy:o8)(r_sl4Copies:lP)(h_sl4Copy:CT r_sl4Copy)(h_sl4Copies:wI r_sl4Copies):wI (GI fu r_sl4Copy r_sl4Copies):=by
 intro plist r H
 have H:=eE H
 refine qI func122 (fun C hC=>?_)
 refine qW (q1 aE (qN (qW (q1 (uK ([]:List aB) eU jN) (q1 aE (qN ?_))))))
 refine qS (qS (qR (q1 aE (qN ?_))))
 refine lD 0 (aB.trs_len _) (fun hl4=>?_)
 refine b0 (σ:=(List aB)) (fun i1 v3=>⟨[(0,a7 plist),(2,.nil),(3,jA v3 0),(4,pN i1)],⟨[],[⟨35,3,aB.trs (v3),false⟩]⟩⟩) (fun v3=>⟨[(2,.nil),(3,jA v3 0)],⟨[],[⟨35,3,aB.trs (v3),false⟩]⟩⟩) (fK H) ?_ ?_
 ·rintro i1 v3 H
  refine qS (qS (qR ?_))
  iterate 2 refine q1 aE ?_
  refine q1 (dL eU (aB.trs_len _)) (q1 gI (qN ?_))
  refine dG H (fun h5 h5l H=>?_) (fun h5 H=>?_)
  ·have h5n:=a4 h5
   refine aR.skip (qS (aR.block (qR ?_)))
   iterate 3 refine q1 aE ?_
   refine q1 (kP h5n eU) (q1 (kM (aB.cs (aW plist i1)) cU) (bI H fun x7 z6 H=>(q1 (bG func60 (h_sl4Copy (aW plist i1) _ z6)) (q1 (j9 ([x7]:List aB) eU jN) (dK H fun z8 H=>(q1 (nV z8 eU aoT) (q1 aE (qN (qR (q1 aE (q1 (rA (i1+1)) (q1 aE (qN ?_)))))))))))))
   exact iI h5l ⟨_,(aX H:),bW⟩
  refine aR.exit ?_;exact jJ ⟨_,H,bW⟩
 rintro v3 H
 refine qS (qR ?_)
 iterate 2 refine q1 aE ?_
 refine qN (aR.ret ?_)
 cases aX H
 exact bE
mutual
def mF:Nat→aB→Option aB
 |0,_=>none
 |fu+1,pt=>QI fu (mF fu) (jK fu) pt
def jK:Nat→(List aB)→Option ((List aB))
 |0,_=>none
 |fu+1,plist=>GI fu (mF fu) (jK fu) plist
end
theorem RJ(fu:Nat):CT (mF fu)∧wI (jK fu):=by
 induction fu with
 |zero=>exact⟨(fun pt r H=>by simp only [mF] at H;cases H),(fun plist r H=>by simp only [jK] at H;cases H)⟩
 |succ fu ih=>exact⟨(fun pt r H=>by simp only [mF] at H;exact abM fu (mF fu) (jK fu) ih.1 ih.2 pt r H),(fun plist r H=>by simp only [jK] at H;exact V1 fu (mF fu) (jK fu) ih.1 ih.2 plist r H)⟩
theorem aiQ(fu:Nat):CT (mF fu):=(RJ fu).1
theorem abL(fu:Nat):wI (jK fu):=(RJ fu).2
def amF(m:ByteArray→aB→Option aB):Prop:= ∀(ptrait:ByteArray) (pt:aB) (r:aB),m ptrait pt=some r→CV Tryz.prog 131 [pS ptrait,(aB.pv pt)] ⟨[],[]⟩ [] 35 3 (aB.trs (r.gArgs)) (fun k=> .agg [pI r.gKind,pS r.gName,jA r.gArgs k])
def HF(fu:Nat)(ptrait:ByteArray)(pt:aB):Option aB:=
 bd (mF fu pt) (fun x2=>
 some (aB.mk 3 ptrait ([x2]:List aB)))
theorem V2(fu:Nat):amF (HF fu):=by
 intro ptrait pt r H
 unfold CV
 have H:=eE H
 refine qI func131 (fun C hC=>?_)
 refine qW (q1 (iM (eD pt)) (q1 (fO jN) (qN (qW (q1 aE (q1 (cJ [pI pt.gKind,pS pt.gName,a7 pt.gArgs] cU) (bI H fun x2 z1 H=>(q1 (bG func60 (aiQ fu pt _ z1)) (q1 (uK ([x2]:List aB) eU jN) (q1 (gW jN EX) (q1 (bR jE) ?_)))))))))))
 refine qN (aR.ret ?_)
 cases aX H
 exact bE (st':=⟨[],[⟨35,3,aB.trs (([x2]:List aB)),false⟩]⟩) ⟨0,rfl,rfl,rfl⟩ (hr:=⟨⟨_,_,_,rfl,rfl,cU,rfl,rfl⟩,trivial⟩)
def YJ(m:DS→Int→Option (aB×DS)):Prop:= ∀(pc:DS) (pdeep:Int) (r:aB×DS),m pc pdeep=some r→CV Tryz.prog 87 [.ptr 0 0,pI pdeep] ⟨[some ⟨151,dC pc⟩],[]⟩ [some ⟨151,dC r.2⟩] 35 3 (aB.trs (r.1.gArgs)) (fun k=> .agg [pI r.1.gKind,pS r.1.gName,jA r.1.gArgs k])
theorem zX{m:DS→Int→Option (aB×DS)}(h:YJ m)(pc:DS)(pdeep:Int)(r:aB×DS)(H:m pc pdeep=some r):c6 Tryz.prog 87 [.ptr 0 0,pI pdeep] ⟨[some ⟨151,dC pc⟩],[]⟩ (fun q t=>q=((aB.pv r.1):PV)∧t=⟨[some ⟨151,dC r.2⟩],[]⟩):=(h pc pdeep r H).plain (fun _=>iX) (hp:=anN)
def tO(fu:Nat)(pc:DS)(pdeep:Int):Option (aB×DS):=
 bd (sQ fu pc ([hU,E0]:LB) pdeep) (fun(x2,x3)=>
 lt (x3.after 8) (fun d4=>
 sw (decide ((x3.below 8:Int)=0))
 (lt (d4.after ([kS,bH]:LB).length) (fun d7=>
 lt (d4.pick ([kS,bH]:LB)) (fun y9=>
 bd (HF fu y9 (aB.mk x2.gKind x2.gName x2.gArgs)) (fun x12=>
 some ((aB.mk x12.gKind x12.gName x12.gArgs),d7)))))
 (sw (decide ((x3.below 8:Int)=1))
 (bd (HF fu kS (aB.mk x2.gKind x2.gName x2.gArgs)) (fun x15=>
 bd (jQ fu cS ([(aB.mk x15.gKind x15.gName x15.gArgs)]:List aB)) (fun x17=>
 some ((aB.mk x17.gKind x17.gName x17.gArgs),d4))))
 (sw (decide ((x3.below 8:Int)=2))
 (some ((aB.mk 4 bH []),d4))
 (some ((aB.mk x2.gKind x2.gName x2.gArgs),d4))))))
theorem vF(fu:Nat):YJ (tO fu):=by
 intro pc pdeep r H
 unfold CV
 have H:=eE H
 refine qI func87 (fun C hC=>?_)
 refine qW (q1 (fO jN) (qN (qW (q1 aE (q1 (j9 ([hU,E0]:LB) b3 lU) (q1 aE (fZ H fun x2 x3 z1 H=>(q1 (a3.callOwn (pre:=⟨[some ⟨151,dC pc⟩],[]⟩) (B:= [some ⟨151,dC x3⟩]) (R:=fun k=> .agg [pI x2.gKind,pS x2.gName,jA x2.gArgs k]) (ps:= [_,_,_]) (qs:= [.ptr 0 0,rS ([hU,E0]:LB),pI pdeep]) [0] rfl rfl func130 (by kernel_rfl) rfl rfl rfl (gA.of ⟨⟨_,rfl,rfl,iX,rfl⟩,trivial⟩ trivial (by decide) (by decide)) rfl iX rfl rfl rfl (fun k k'=>(.agg (.cons (.free _ rfl) (.cons (.free _ rfl) (.cons Mv.acc CU.nil))))) (V3 fu pc ([hU,E0]:LB) pdeep _ z1)) (q1 (fO jN) (q1 (bR jE) (qN ?_)))))))))))
 refine qS (qS (qR (q1 aE (fP H fun d4 h5 H=>(q1 (iF [0] [] func103 (BG h5 (eQ x3 8))) (qN (aR.block (qW (q1 dM (q1 aE (qN ?_)))))))))))
 refine a8 H (fun h6 H=>?_) (fun h6 H=>?_)
 ·refine qS (fP H fun d7 h8 H=>(fP H fun y9 h10 H=>(bI H fun x12 z11 H=>(dW (dI [0] aE (dI [] (j9 ([kS,bH]:LB) b3 lU) (dE [14,15] (iF [0] [] func86 (Q7 h8 h10 (iE d4 ([kS,bH]:LB) (by decide)))) (dB [5] 0 1 (NU [pI x2.gKind,pS x2.gName,jA x2.gArgs 0] cU) (dE [16,17] (a3.callOwn (pre:=⟨[],[]⟩) (B:= []) (R:=fun k=> .agg [pI x12.gKind,pS x12.gName,jA x12.gArgs k]) (ps:= [_,_]) (qs:= [pS y9,.agg [pI x2.gKind,pS x2.gName,a7 x2.gArgs]]) [] rfl rfl func131 (by kernel_rfl) rfl rfl rfl (gA.of trivial trivial (by decide) (by decide)) rfl iX rfl rfl rfl (fun k k'=>(.agg (.cons (.free _ rfl) (.cons (.free _ rfl) (.cons Mv.acc CU.nil))))) (V2 fu y9 (aB.mk x2.gKind x2.gName x2.gArgs) _ z11)) (lH [4,18] (bR jE) (dN (aR.ret ?_))))))))))))
  cases aX H
  exact bE (st':=⟨[some ⟨151,dC d7⟩],[⟨35,3,aB.trs (x2.gArgs),false⟩,⟨35,3,aB.trs (x12.gArgs),false⟩]⟩) ⟨1,rfl,rfl,rfl⟩ (hr:=⟨⟨_,_,_,rfl,rfl,cU,rfl,rfl⟩,trivial⟩)
 refine qW (q1 dM (q1 aE (qN ?_)))
 refine a8 H (fun h13 H=>?_) (fun h13 H=>?_)
 ·refine qW (q1 (cJ [pI x2.gKind,pS x2.gName,jA x2.gArgs 0] cU) (bI H fun x15 z14 H=>(q1 (a3.callOwn (pre:=⟨[],[]⟩) (B:= []) (R:=fun k=> .agg [pI x15.gKind,pS x15.gName,jA x15.gArgs k]) (ps:= [_,_]) (qs:= [pS kS,.agg [pI x2.gKind,pS x2.gName,a7 x2.gArgs]]) [] rfl rfl func131 (by kernel_rfl) rfl rfl rfl (gA.of trivial trivial (by decide) (by decide)) rfl iX rfl rfl rfl (fun k k'=>(.agg (.cons (.free _ rfl) (.cons (.free _ rfl) (.cons Mv.acc CU.nil))))) (V2 fu kS (aB.mk x2.gKind x2.gName x2.gArgs) _ z14)) (q1 (uK ([(aB.mk x15.gKind x15.gName x15.gArgs)]:List aB) eU jN) (bI H fun x17 z16 H=>(q1 (a3.callOwn (pre:=⟨[],[]⟩) (B:= []) (R:=fun k=> .agg [pI x17.gKind,pS x17.gName,jA x17.gArgs k]) (ps:= [_,_]) (qs:= [pS cS,a7 ([(aB.mk x15.gKind x15.gName x15.gArgs)]:List aB)]) [] rfl rfl func85 (by kernel_rfl) rfl rfl rfl (gA.of trivial trivial (by decide) (by decide)) rfl iX rfl rfl rfl (fun k k'=>(.agg (.cons (.free _ rfl) (.cons (.free _ rfl) (.cons Mv.acc CU.nil))))) (jI fu cS ([(aB.mk x15.gKind x15.gName x15.gArgs)]:List aB) _ z16)) (q1 (bR jE) (qZ ?_))))))))
  cases aX H
  exact bE (st':=⟨[some ⟨151,dC d4⟩],[⟨35,3,aB.trs (x2.gArgs),false⟩,⟨35,3,aB.trs (x15.gArgs),false⟩,⟨35,3,aB.trs (([(aB.mk x15.gKind x15.gName x15.gArgs)]:List aB)),false⟩,⟨35,3,aB.trs (x17.gArgs),false⟩]⟩) ⟨3,rfl,rfl,rfl⟩ (hr:=⟨⟨_,_,_,rfl,rfl,cU,rfl,rfl⟩,trivial⟩)
 refine qW (q1 dM (q1 aE (qN ?_)))
 refine a8 H (fun h18 H=>?_) (fun h18 H=>?_)
 ·refine qW (q1 (gW jN EX) (q1 (bR jE) (qN (aR.wk (Wk.regBox (k:=1) (j:=2) 35 3 (by decide) rfl rfl) (aR.ret ?_)))))
  cases aX H
  exact bE (st':=⟨[some ⟨151,dC d4⟩],[⟨35,3,aB.trs (x2.gArgs),false⟩,⟨35,3,aB.trs ([]),false⟩]⟩) ⟨1,rfl,rfl,rfl⟩ (hr:=⟨⟨_,_,_,rfl,rfl,cU,rfl,rfl⟩,trivial⟩)
 refine aR.skip (qW (q1 (cJ [pI x2.gKind,pS x2.gName,jA x2.gArgs 0] cU) (q1 (bR jE) (qZ ?_))))
 cases aX H
 exact bE (st':=⟨[some ⟨151,dC d4⟩],[⟨35,3,aB.trs (x2.gArgs),false⟩]⟩) ⟨0,rfl,rfl,rfl⟩ (hr:=⟨⟨_,_,_,rfl,rfl,cU,rfl,rfl⟩,trivial⟩)
def an4(m:Int→ByteArray→(List aG)→Option aG):Prop:= ∀(pk:Int) (pname:ByteArray) (pargs:List aG) (r:aG),m pk pname pargs=some r→b4 Tryz.prog 158 [pI pk,pS pname,eB pargs] ((aG.pv r):PV)
def uH(fu:Nat)(pk:Int)(pname:ByteArray)(pargs:List aG):Option aG:=
 gd (([]:List aG).length+(pargs).length≤68719476736)
 (some (aG.mk pk s_ pname 0 (aB.mk 0 s_ []) (([])++pargs) []))
theorem u9(fu:Nat):an4 (uH fu):=by
 intro pk pname pargs r H
 have H:=eE H
 refine qI func158 (fun C hC=>?_)
 refine qW (q1 (fO kL) (qN (qS (qR ?_))))
 iterate 2 refine q1 aE ?_
 refine q1 (uK ([]:List aG) jZ kL) (q1 aE (dK H fun z1 H=>(q1 (nV z1 jZ arQ) (q1 (gW kL zM) (q1 (bR nA) (qZ ?_))))))
 cases aX H
 exact bE (hr:=⟨⟨_,_,_,rfl,rfl,fE,rfl,rfl⟩,trivial⟩)
abbrev tC:=DS→(LB)→Int→Option (aG×DS)
def D3(m:tC):Prop:= ∀(pq0:DS) (pa1:LB) (pString:Int) (r:aG×DS),m pq0 pa1 pString=some r→c6 Tryz.prog 111 [.ptr 0 0,rS pa1,pI pString] ⟨[some ⟨151,dC pq0⟩],[]⟩ (fun q t=>q=((aG.pv r.1):PV)∧t=⟨[some ⟨151,dC r.2⟩],[]⟩)
def adH(fu:Nat)(r_sl11Expr:tC)(pq0:DS)(pa1:LB)(pString:Int)(d1:DS):Option ((aG×DS)⊕Int):=
 sw (decide (pString≤0))
 (some (.inr (((pq0.below 13)%3:Nat):Int)))
 (some (.inr (pq0.below 13:Int)))
def adI(fu:Nat)(r_sl11Expr:tC)(pq0:DS)(pa1:LB)(pString:Int)(d1:DS)(v3:Int):Option ((aG×DS)⊕Bool):=
 sw (decide (v3=2))
 (some (.inr (decide (v3=2))))
 (some (.inr (decide (v3=3))))
def K3(fu:Nat)(r_sl11Expr:tC)(pq0:DS)(pa1:LB)(pString:Int):Option (aG×DS):=
 lt (pq0.after 13) (fun d1=>
 so (adH fu r_sl11Expr pq0 pa1 pString d1) (fun v3=>
 sw (decide (v3=1))
 (lt (d1.after 2) (fun d6=>
 some ((aG.mk 2 s_ s_ (d1.below 2:Int) (aB.mk 0 s_ []) [] []),d6)))
 (so (adI fu r_sl11Expr pq0 pa1 pString d1 v3) (fun v8=>
 sw (v8)
 (sw (decide ((pa1.length:Int)>0))
 (gd (0<(pa1).length)
 (lt (d1.after pa1.length) (fun d13=>
 lt (d1.pick pa1) (fun y15=>
 bd (vA fu y15) (fun x18=>
 some (x18,d13))))))
 (lt (d1.after 20) (fun d19=>
 bd (tM fu (aQ ((d1.below 20:Int)-5))) (fun x22=>
 some (x22,d19)))))
 (sw (decide (v3=4))
 (lt (d1.after ([s_f,s_g]:LB).length) (fun d24=>
 lt (d1.pick ([s_f,s_g]:LB)) (fun y26=>
 bd (r_sl11Expr d24 pa1 (aQ (pString-1))) (fun(x29,x30)=>
 bd (uH fu 4 y26 ([x29]:List aG)) (fun x32=>
 some (x32,x30))))))
 (sw (decide (v3=5))
 (lt (d1.after ([bH,kS]:LB).length) (fun d34=>
 lt (d1.pick ([bH,kS]:LB)) (fun y36=>
 bd (r_sl11Expr d34 pa1 (aQ (pString-1))) (fun(x39,x40)=>
 bd (r_sl11Expr x40 pa1 (aQ (pString-1))) (fun(x42,x43)=>
 some ((aG.mk 5 y36 fD 0 (aB.mk 0 s_ []) ([x39,x42]:List aG) []),x43))))))
 (sw (decide (v3=6))
 (bd (r_sl11Expr d1 pa1 (aQ (pString-1))) (fun(x46,x47)=>
 bd (r_sl11Expr x47 pa1 (aQ (pString-1))) (fun(x49,x50)=>
 bd (uH fu 6 cK ([x46,x49]:List aG)) (fun x52=>
 some (x52,x50)))))
 (sw (decide (v3=7))
 (gd (([]:LB).length+(pa1).length≤68719476736)
 (gd ((([])++pa1).length+(([s_h,s_t]:LB)).length≤68719476736)
 (bd (r_sl11Expr d1 pa1 (aQ (pString-1))) (fun(x57,x58)=>
 bd (r_sl11Expr x58 pa1 (aQ (pString-1))) (fun(x60,x61)=>
 bd (r_sl11Expr x61 ((([])++pa1)++([s_h,s_t]:LB)) (aQ (pString-1))) (fun(x63,x64)=>
 some ((aG.mk 7 s_ s_ 0 (aB.mk 0 s_ []) ([x57]:List aG) ([(bA.mk gJ [] x60),(bA.mk cK ([s_h,s_t]:LB) x63)]:List bA)),x64)))))))
 (sw (decide (v3=8))
 (bd (r_sl11Expr d1 pa1 (aQ (pString-1))) (fun(x67,x68)=>
 gd (([]:LB).length+(pa1).length≤68719476736)
 (gd ((([])++pa1).length+(([rF]:LB)).length≤68719476736)
 (bd (r_sl11Expr x68 ((([])++pa1)++([rF]:LB)) (aQ (pString-1))) (fun(x72,x73)=>
 bd (uH fu 8 rF ([x67,x72]:List aG)) (fun x75=>
 some (x75,x73)))))))
 (sw (decide (v3=9))
 (bd (r_sl11Expr d1 pa1 (aQ (pString-1))) (fun(x78,x79)=>
 bd (r_sl11Expr x79 pa1 (aQ (pString-1))) (fun(x81,x82)=>
 bd (r_sl11Expr x82 pa1 (aQ (pString-1))) (fun(x84,x85)=>
 bd (uH fu 9 s_ ([x78,x81,x84]:List aG)) (fun x87=>
 some (x87,x85))))))
 (sw (decide (v3=10))
 (lt (d1.after ([AC,E4,NP,NQ,NR]:LB).length) (fun d89=>
 lt (d1.pick ([AC,E4,NP,NQ,NR]:LB)) (fun y91=>
 bd (r_sl11Expr d89 pa1 (aQ (pString-1))) (fun(x94,x95)=>
 bd (r_sl11Expr x95 pa1 (aQ (pString-1))) (fun(x97,x98)=>
 bd (uH fu 10 y91 ([x94,x97]:List aG)) (fun x100=>
 some (x100,x98)))))))
 (sw (decide (v3=11))
 (bd (r_sl11Expr d1 pa1 (aQ (pString-1))) (fun(x103,x104)=>
 some ((aG.mk 11 bH s_ 0 (aB.mk 0 s_ []) ([x103]:List aG) []),x104)))
 (sw (decide (v3=12))
 (bd (sQ fu d1 ([hU]:LB) 1) (fun(x107,x108)=>
 bd (r_sl11Expr x108 pa1 (aQ (pString-1))) (fun(x110,x111)=>
 some ((aG.mk 12 s_ s_ 0 x107 ([x110]:List aG) []),x111))))
 (lt (d1.after 20) (fun d112=>
 bd (tM fu (aQ ((d1.below 20:Int)-5))) (fun x115=>
 some (x115,d112)))))))))))))))))
theorem XG(fu:Nat)(r_sl11Expr:tC)(h_sl11Expr:D3 r_sl11Expr):D3 (K3 fu r_sl11Expr):=by
 intro pq0 pa1 pString r H
 have H:=eE H
 refine qI func111 (fun C hC=>?_)
 refine qW (q1 (fO kL) (qN (qW (q1 aE (fP H fun d1 h2 H=>(q1 (iF [0] [] func103 (BG h2 (eQ pq0 13))) (q1 aE (qN (qS ?_)))))))))
 refine rR (σ:=Int) (fun v3=>⟨[(0,.ptr 0 0),(1,rS pa1),(2,pI pString),(6,.ptr 1 0),(7,pI v3)],⟨[some ⟨151,dC d1⟩,some ⟨87,[pI 0,pS s_,pS s_,pI 0,pI 0,pS s_,.nil,.nil,.nil]⟩],[]⟩⟩) (fK H) (fun H=>?_) ?_
 ·refine qW (q1 aE (q1 rLe (qN ?_)))
  refine a8 H (fun h4 H=>?_) (fun h4 H=>?_)
  ·refine qR (q1 aE ?_)
   refine q1 (a3.remN (a:=pq0.below 13) (b:=3) rfl rfl rfl rfl (by have:=DS.below_lt (d:=pq0) (n:=13) (by decide);omega) (by have:=DS.below_lt (d:=pq0) (n:=13) (by decide);omega)) ?_;refine q1 aE (qN ?_)
   exact dY ⟨_,(aX H:),bW⟩
  refine aR.skip ?_;exact dY ⟨_,(aX H:),bW⟩
 rintro v3 H
 refine qS (qS (qR (q1 aE (qN (aR.block (qW (q1 dM (q1 aE (qN ?_)))))))))
 refine a8 H (fun h5 H=>?_) (fun h5 H=>?_)
 ·refine qW (q1 aE (fP H fun d6 h7 H=>(q1 (iF [0] [] func103 (BG h7 (eQ d1 2))) (q1 (gW kL zM) (q1 (bR nA) (qZ ?_))))))
  cases aX H
  exact bE (hr:=⟨⟨_,_,_,rfl,rfl,fE,rfl,rfl⟩,trivial⟩)
 refine qS ?_;refine rR (σ:=Bool) (fun v8=>⟨[(0,.ptr 0 0),(1,rS pa1),(2,pI pString),(6,.ptr 1 0),(15,pI v3),(21,pB v8)],⟨[some ⟨151,dC d1⟩,some ⟨87,[pI 0,pS s_,pS s_,pI 0,pI 0,pS s_,.nil,.nil,.nil]⟩],[]⟩⟩) (fK H) (fun H=>?_) ?_
 ·refine qW (q1 dM (q1 aE (qN ?_)))
  refine a8 H (fun h9 H=>?_) (fun h9 H=>?_)
  ·refine aR.skip ?_;exact dY ⟨_,(aX H:),bW⟩
  refine qR (q1 dM (q1 aE (qN ?_)))
  exact dY ⟨_,(aX H:),bW⟩
 rintro v8 H
 refine a8 H (fun h10 H=>?_) (fun h10 H=>?_)
 ·refine qW (q1 aE (q1 (dL b3 (bC _)) (q1 KL (qN ?_))))
  refine a8 H (fun h11 H=>?_) (fun h11 H=>?_)
  ·refine qS (qR ?_)
   iterate 2 refine q1 aE ?_
   refine dK H fun z12 H=>(fP H fun d13 h14 H=>(fP H fun y15 h16 H=>(q1 (iF [0] [] func86 (Q7 h14 h16 (iE d1 pa1 z12))) (bI H fun x18 z17 H=>(q1 (bG func157 (zR fu y15 _ z17)) (q1 (bR nA) (qZ ?_)))))))
   cases aX H
   exact bE (hr:=⟨⟨_,_,_,rfl,rfl,fE,rfl,rfl⟩,trivial⟩)
  refine aR.skip (qW (q1 aE (fP H fun d19 h20 H=>(q1 (iF [0] [] func103 (BG h20 (eQ d1 20))) (q1 EP (bI H fun x22 z21 H=>(q1 (bG func159 (u7 fu (aQ ((d1.below 20:Int)-5)) _ z21)) (q1 (bR nA) (qZ ?_)))))))))
  cases aX H
  exact bE (hr:=⟨⟨_,_,_,rfl,rfl,fE,rfl,rfl⟩,trivial⟩)
 refine qW (q1 dM (q1 aE (qN ?_)))
 refine a8 H (fun h23 H=>?_) (fun h23 H=>?_)
 ·refine qW (q1 aE (q1 (j9 ([s_f,s_g]:LB) b3 lU) (fP H fun d24 h25 H=>(fP H fun y26 h27 H=>(q1 (iF [0] [] func86 (Q7 h25 h27 (iE d1 ([s_f,s_g]:LB) (by decide)))) ?_)))))
  iterate 3 refine q1 aE ?_
  refine q1 EP (fZ H fun x29 x30 z28 H=>(q1 (iF [0] [] func111 (h_sl11Expr d24 pa1 (aQ (pString-1)) _ z28)) (q1 (j9 ([x29]:List aG) jZ kL) (bI H fun x32 z31 H=>(q1 (bG func158 (u9 fu 4 y26 ([x29]:List aG) _ z31)) (q1 (bR nA) (qZ ?_)))))))
  cases aX H
  exact bE (hr:=⟨⟨_,_,_,rfl,rfl,fE,rfl,rfl⟩,trivial⟩)
 refine qW (q1 dM (q1 aE (qN ?_)))
 refine a8 H (fun h33 H=>?_) (fun h33 H=>?_)
 ·refine qW (q1 aE (q1 (j9 ([bH,kS]:LB) b3 lU) (fP H fun d34 h35 H=>(fP H fun y36 h37 H=>(q1 (iF [0] [] func86 (Q7 h35 h37 (iE d1 ([bH,kS]:LB) (by decide)))) ?_)))))
  iterate 3 refine q1 aE ?_
  refine q1 EP (fZ H fun x39 x40 z38 H=>(q1 (iF [0] [] func111 (h_sl11Expr d34 pa1 (aQ (pString-1)) _ z38)) ?_))
  iterate 3 refine q1 aE ?_
  refine q1 EP (fZ H fun x42 x43 z41 H=>(q1 (iF [0] [] func111 (h_sl11Expr x40 pa1 (aQ (pString-1)) _ z41)) (q1 (j9 ([x39,x42]:List aG) jZ kL) (q1 (gW kL zM) (q1 (bR nA) (qZ ?_))))))
  cases aX H
  exact bE (hr:=⟨⟨_,_,_,rfl,rfl,fE,rfl,rfl⟩,trivial⟩)
 refine qW (q1 dM (q1 aE (qN ?_)))
 refine a8 H (fun h44 H=>?_) (fun h44 H=>?_)
 ·refine qS (qR ?_)
  iterate 3 refine q1 aE ?_
  refine q1 EP (fZ H fun x46 x47 z45 H=>(q1 (iF [0] [] func111 (h_sl11Expr d1 pa1 (aQ (pString-1)) _ z45)) ?_))
  iterate 3 refine q1 aE ?_
  refine q1 EP (fZ H fun x49 x50 z48 H=>(q1 (iF [0] [] func111 (h_sl11Expr x47 pa1 (aQ (pString-1)) _ z48)) (q1 (j9 ([x46,x49]:List aG) jZ kL) (bI H fun x52 z51 H=>(q1 (bG func158 (u9 fu 6 cK ([x46,x49]:List aG) _ z51)) (q1 (bR nA) (qZ ?_)))))))
  cases aX H
  exact bE (hr:=⟨⟨_,_,_,rfl,rfl,fE,rfl,rfl⟩,trivial⟩)
 refine qW (q1 dM (q1 aE (qN ?_)))
 refine a8 H (fun h53 H=>?_) (fun h53 H=>?_)
 ·refine qW (q1 (uK ([]:LB) b3 lU) (q1 aE (dK H fun z54 H=>(q1 (nV z54 b3 tR) (q1 (j9 ([s_h,s_t]:LB) b3 lU) (dK H fun z55 H=>(q1 (nV z55 b3 tR) (q1 aE (qN (qS (qR ?_)))))))))))
  iterate 3 refine q1 aE ?_
  refine q1 EP (fZ H fun x57 x58 z56 H=>(q1 (iF [0] [] func111 (h_sl11Expr d1 pa1 (aQ (pString-1)) _ z56)) (q1 (j9 ([x57]:List aG) jZ kL) ?_)))
  iterate 3 refine q1 aE ?_
  refine q1 EP (fZ H fun x60 x61 z59 H=>(q1 (iF [0] [] func111 (h_sl11Expr x58 pa1 (aQ (pString-1)) _ z59)) (q1 (gW QQ anV) (q1 (j9 ([s_h,s_t]:LB) b3 lU) ?_))))
  iterate 3 refine q1 aE ?_
  refine q1 EP (fZ H fun x63 x64 z62 H=>(q1 (iF [0] [] func111 (h_sl11Expr x61 ((([])++pa1)++([s_h,s_t]:LB)) (aQ (pString-1)) _ z62)) (q1 (gW QQ anV) (q1 (j9 ([(bA.mk gJ [] x60),(bA.mk cK ([s_h,s_t]:LB) x63)]:List bA) jL QQ) (q1 (gW kL zM) (q1 (bR nA) (qZ ?_)))))))
  cases aX H
  exact bE (hr:=⟨⟨_,_,_,rfl,rfl,fE,rfl,rfl⟩,trivial⟩)
 refine qW (q1 dM (q1 aE (qN ?_)))
 refine a8 H (fun h65 H=>?_) (fun h65 H=>?_)
 ·refine qS (qR ?_)
  iterate 3 refine q1 aE ?_
  refine q1 EP (fZ H fun x67 x68 z66 H=>(q1 (iF [0] [] func111 (h_sl11Expr d1 pa1 (aQ (pString-1)) _ z66)) (q1 aE (q1 (uK ([]:LB) b3 lU) (q1 aE (dK H fun z69 H=>(q1 (nV z69 b3 tR) (q1 (j9 ([rF]:LB) b3 lU) (dK H fun z70 H=>(q1 (nV z70 b3 tR) (q1 aE (q1 EP (fZ H fun x72 x73 z71 H=>?_)))))))))))))
  refine q1 (iF [0] [] func111 (h_sl11Expr x68 ((([])++pa1)++([rF]:LB)) (aQ (pString-1)) _ z71)) (q1 (j9 ([x67,x72]:List aG) jZ kL) (bI H fun x75 z74 H=>(q1 (bG func158 (u9 fu 8 rF ([x67,x72]:List aG) _ z74)) (q1 (bR nA) (qZ ?_)))))
  cases aX H
  exact bE (hr:=⟨⟨_,_,_,rfl,rfl,fE,rfl,rfl⟩,trivial⟩)
 refine qW (q1 dM (q1 aE (qN ?_)))
 refine a8 H (fun h76 H=>?_) (fun h76 H=>?_)
 ·refine qS (qR ?_)
  iterate 3 refine q1 aE ?_
  refine q1 EP (fZ H fun x78 x79 z77 H=>(q1 (iF [0] [] func111 (h_sl11Expr d1 pa1 (aQ (pString-1)) _ z77)) ?_))
  iterate 3 refine q1 aE ?_
  refine q1 EP (fZ H fun x81 x82 z80 H=>(q1 (iF [0] [] func111 (h_sl11Expr x79 pa1 (aQ (pString-1)) _ z80)) ?_))
  iterate 3 refine q1 aE ?_
  refine q1 EP (fZ H fun x84 x85 z83 H=>(q1 (iF [0] [] func111 (h_sl11Expr x82 pa1 (aQ (pString-1)) _ z83)) (q1 (j9 ([x78,x81,x84]:List aG) jZ kL) (bI H fun x87 z86 H=>(q1 (bG func158 (u9 fu 9 s_ ([x78,x81,x84]:List aG) _ z86)) (q1 (bR nA) (qZ ?_)))))))
  cases aX H
  exact bE (hr:=⟨⟨_,_,_,rfl,rfl,fE,rfl,rfl⟩,trivial⟩)
 refine qW (q1 dM (q1 aE (qN ?_)))
 refine a8 H (fun h88 H=>?_) (fun h88 H=>?_)
 ·refine qW (q1 aE (q1 (j9 ([AC,E4,NP,NQ,NR]:LB) b3 lU) (fP H fun d89 h90 H=>(fP H fun y91 h92 H=>(q1 (iF [0] [] func86 (Q7 h90 h92 (iE d1 ([AC,E4,NP,NQ,NR]:LB) (by decide)))) ?_)))))
  iterate 3 refine q1 aE ?_
  refine q1 EP (fZ H fun x94 x95 z93 H=>(q1 (iF [0] [] func111 (h_sl11Expr d89 pa1 (aQ (pString-1)) _ z93)) ?_))
  iterate 3 refine q1 aE ?_
  refine q1 EP (fZ H fun x97 x98 z96 H=>(q1 (iF [0] [] func111 (h_sl11Expr x95 pa1 (aQ (pString-1)) _ z96)) (q1 (j9 ([x94,x97]:List aG) jZ kL) (bI H fun x100 z99 H=>(q1 (bG func158 (u9 fu 10 y91 ([x94,x97]:List aG) _ z99)) (q1 (bR nA) (qZ ?_)))))))
  cases aX H
  exact bE (hr:=⟨⟨_,_,_,rfl,rfl,fE,rfl,rfl⟩,trivial⟩)
 refine qW (q1 dM (q1 aE (qN ?_)))
 refine a8 H (fun h101 H=>?_) (fun h101 H=>?_)
 ·refine qS (qR ?_)
  iterate 3 refine q1 aE ?_
  refine q1 EP (fZ H fun x103 x104 z102 H=>(q1 (iF [0] [] func111 (h_sl11Expr d1 pa1 (aQ (pString-1)) _ z102)) (q1 (j9 ([x103]:List aG) jZ kL) (q1 (gW kL zM) (q1 (bR nA) (qZ ?_))))))
  cases aX H
  exact bE (hr:=⟨⟨_,_,_,rfl,rfl,fE,rfl,rfl⟩,trivial⟩)
 refine qW (q1 dM (q1 aE (qN ?_)))
 refine a8 H (fun h105 H=>?_) (fun h105 H=>?_)
 ·refine qW (q1 aE (q1 (j9 ([hU]:LB) b3 lU) (fZ H fun x107 x108 z106 H=>(q1 (iF [0] [] func130 (afN (V3 fu) d1 ([hU]:LB) 1 _ z106)) ?_))))
  iterate 3 refine q1 aE ?_
  refine q1 EP (fZ H fun x110 x111 z109 H=>(q1 (iF [0] [] func111 (h_sl11Expr x108 pa1 (aQ (pString-1)) _ z109)) (q1 (j9 ([x110]:List aG) jZ kL) (q1 (gW kL zM) (q1 (bR nA) (qZ ?_))))))
  cases aX H
  exact bE (hr:=⟨⟨_,_,_,rfl,rfl,fE,rfl,rfl⟩,trivial⟩)
 refine aR.skip (qW (q1 aE (fP H fun d112 h113 H=>(q1 (iF [0] [] func103 (BG h113 (eQ d1 20))) (q1 EP (bI H fun x115 z114 H=>(q1 (bG func159 (u7 fu (aQ ((d1.below 20:Int)-5)) _ z114)) (q1 (bR nA) (qZ ?_)))))))))
 cases aX H
 exact bE (hr:=⟨⟨_,_,_,rfl,rfl,fE,rfl,rfl⟩,trivial⟩)
def k9:Nat→DS→(LB)→Int→Option (aG×DS)
 |0,_,_,_=>none
 |fu+1,pq0,pa1,pString=>K3 fu (k9 fu) pq0 pa1 pString
theorem Z5(fu:Nat):D3 (k9 fu):=by
 induction fu with
 |zero=>exact(fun pq0 pa1 pString r H=>by simp only [k9] at H;cases H)
 |succ fu ih=>exact(fun pq0 pa1 pString r H=>by simp only [k9] at H;exact XG fu (k9 fu) ih pq0 pa1 pString r H)
theorem F1(fu:Nat):D3 (k9 fu):=(Z5 fu)
def aoC(m:Option aB):Prop:= ∀(r:aB),m=some r→b4 Tryz.prog 147 [] ((aB.pv r):PV)
def zY(fu:Nat):Option aB:=
 bd (jQ fu fC ([])) (fun x2=>
 some x2)
theorem rL(fu:Nat):aoC (zY fu):=by
 intro r H
 have H:=eE H
 refine qI func147 (fun C hC=>?_)
 refine qW (q1 (fO jN) (qN (qW (bI H fun x2 z1 H=>(q1 (bG func85 (yO (jI fu) fC ([]) _ z1)) (q1 (bR jE) (qZ ?_)))))))
 cases aX H
 exact bE (hr:=⟨⟨_,_,_,rfl,rfl,cU,rfl,rfl⟩,trivial⟩)
def ahJ(m:DS→Option (aL×DS)):Prop:= ∀(pq0:DS) (r:aL×DS),m pq0=some r→c6 Tryz.prog 169 [.ptr 0 0] ⟨[some ⟨151,dC pq0⟩],[]⟩ (fun q t=>q=((aL.pv r.1):PV)∧t=⟨[some ⟨151,dC r.2⟩],[]⟩)
def aeK(fu:Nat)(pq0 d1:DS)(y3:ByteArray)(d5:DS)(x8:aG):Option ((aL×DS)⊕((LB)×Int×ByteArray×(List aB)×(List aM)×DS)):=
 lt (d5.after 4) (fun d15=>
 sw (decide ((d5.below 4:Int)=0))
 (bd (zY fu) (fun x19=>
 some (.inr ([],x19.gKind,x19.gName,x19.gArgs,[],d15))))
 (sw (decide ((d5.below 4:Int)=1))
 (bd (nS fu hU) (fun x22=>
 bd (jQ fu cS ([x22]:List aB)) (fun x24=>
 some (.inr (([hU]:LB),x24.gKind,x24.gName,x24.gArgs,([(aM.mk y3 x22)]:List aM),d15)))))
 (sw (decide ((d5.below 4:Int)=2))
 (bd (nS fu hU) (fun x27=>
 bd (nS fu E0) (fun x29=>
 bd (jQ fu uG ([x27,x29]:List aB)) (fun x31=>
 some (.inr (([hU,E0]:LB),x31.gKind,x31.gName,x31.gArgs,[],d15))))))
 (bd (nS fu hU) (fun x33=>
 some (.inr (([hU]:LB),x33.gKind,x33.gName,x33.gArgs,([(aM.mk l6 x33)]:List aM),d15)))))))
def aeL(fu:Nat)(pq0 d1:DS)(y3:ByteArray)(d5:DS)(x8:aG)(v9:LB)(v10:Int)(v11:ByteArray)(v12:List aB)(v13:List aM)(v14:DS):Option ((aL×DS)⊕((List aB)×Bool×Int×ByteArray×DS)):=
 lt (v14.after 3) (fun d39=>
 sw (decide (v14.below 3=0))
 (bd (sQ fu d39 v9 1) (fun(x43,x44)=>
 some (.inr (x43.gArgs,true,x43.gKind,x43.gName,x44))))
 (some (.inr ([],false,0,s_,d39))))
def LC(fu:Nat)(pq0:DS):Option (aL×DS):=
 lt (pq0.after ([bH,wE,kS]:LB).length) (fun d1=>
 lt (pq0.pick ([bH,wE,kS]:LB)) (fun y3=>
 lt (d1.after 9) (fun d5=>
 bd (tM fu (d1.below 9:Int)) (fun x8=>
 so (aeK fu pq0 d1 y3 d5 x8) (fun(v9,v10,v11,v12,v13,v14)=>
 so (aeL fu pq0 d1 y3 d5 x8 v9 v10 v11 v12 v13 v14) (fun(v38,v35,v36,v37,v34)=>
 lt (v34.after 4) (fun d45=>
 lt (d45.after 12) (fun d47=>
 sw (decide ((d45.below 12:Int)=0))
 (bd (tO fu d47 2) (fun(x51,x52)=>
 some ((aL.mk y3 v9 x51 v13 (decide (v34.below 4=0)) v35 (aB.mk v36 v37 v38) ([(aO.mk fD ([eP]:LB) x8)]:List aO)),x52)))
 (sw (decide ((d45.below 12:Int)=1))
 (lt (d47.after ([hU,s_c]:LB).length) (fun d54=>
 lt (d47.pick ([hU,s_c]:LB)) (fun y56=>
 gd ((v9).length+(([y56]:LB)).length≤68719476736)
 (some ((aL.mk y3 (v9++([y56]:LB)) (aB.mk v10 v11 v12) v13 (decide (v34.below 4=0)) v35 (aB.mk v36 v37 v38) ([(aO.mk fD ([eP]:LB) x8)]:List aO)),d54)))))
 (sw (decide ((d45.below 12:Int)=2))
 (bd (tO fu d47 1) (fun(x61,x62)=>
 gd ((v13).length+(([(aM.mk wE x61)]:List aM)).length≤68719476736)
 (some ((aL.mk y3 v9 (aB.mk v10 v11 v12) (v13++([(aM.mk wE x61)]:List aM)) (decide (v34.below 4=0)) v35 (aB.mk v36 v37 v38) ([(aO.mk fD ([eP]:LB) x8)]:List aO)),x62))))
 (sw (decide ((d45.below 12:Int)=3))
 (bd (k9 fu d47 ([eP,rF]:LB) 2) (fun(x66,x67)=>
 some ((aL.mk y3 v9 (aB.mk v10 v11 v12) v13 (decide (v34.below 4=0)) v35 (aB.mk v36 v37 v38) ([(aO.mk fD ([eP]:LB) x66)]:List aO)),x67)))
 (sw (decide ((d45.below 12:Int)=4))
 (bd (zY fu) (fun x70=>
 some ((aL.mk y3 v9 (aB.mk v10 v11 v12) v13 (decide (v34.below 4=0)) v35 x70 ([(aO.mk fD ([eP]:LB) x8)]:List aO)),d47)))
 (sw (decide ((d45.below 12:Int)=5))
 (some ((aL.mk y3 v9 (aB.mk v10 v11 v12) v13 (decide (v34.below 4=0)) v35 (aB.mk v36 v37 v38) ([(aO.mk fD ([]) x8)]:List aO)),d47))
 (some ((aL.mk y3 v9 (aB.mk v10 v11 v12) v13 (decide (v34.below 4=0)) v35 (aB.mk v36 v37 v38) ([(aO.mk fD ([eP]:LB) x8)]:List aO)),d47)))))))))))))))
theorem aeM(fu:Nat):ahJ (LC fu):=by
 intro pq0 r H
 have H:=eE H
 refine qI func169 (fun C hC=>?_)
 refine qW (q1 (fO SV) (qN (qW (q1 aE (q1 (uN ([bH,wE,kS]:LB) b3 lU) (fP H fun d1 h2 H=>(fP H fun y3 h4 H=>(q1 (iF [0] [] func86 (Q7 h2 h4 (iE pq0 ([bH,wE,kS]:LB) (by decide)))) (q1 (uN ([eP]:LB) b3 lU) (q1 aE (fP H fun d5 h6 H=>?_)))))))))))
 refine q1 (iF [0] [] func103 (BG h6 (eQ d1 9))) (bI H fun x8 z7 H=>(q1 (bG func159 (u7 fu (d1.below 9:Int) _ z7)) (q1 (gW YL ap6) (q1 (a3.buildSliceB (cs:= [pS fD,.lit 1 (aZ (([eP]:LB))),pI x8.gKind,pS x8.gTrait,pS x8.gName,pI x8.gN,pI x8.gType.gKind,pS x8.gType.gName,a7 x8.gType.gArgs,eB x8.gArgs,g0 x8.gArms]) rfl rfl Y6 YL rfl rfl rfl (by decide) rfl (by decide)) (q1 (gW SV anU) (q1 (fO SV) (q1 (bR NN) (qN (qS ?_)))))))))
 refine rR (σ:=(LB)×Int×ByteArray×(List aB)×(List aM)×DS) (fun(v9,v10,v11,v12,v13,v14)=>⟨[(0,.ptr 0 0),(2,.ptr 1 0),(3,.ptr 3 0)],⟨[some ⟨151,dC v14⟩,some ⟨55,[pS s_,.nil,pI 0,pS s_,.nil,.nil,pB false,pB false,pI 0,pS s_,.nil,.nil]⟩,some ⟨161,[pS fD,.lit 1 (aZ (([eP]:LB))),pI x8.gKind,pS x8.gTrait,pS x8.gName,pI x8.gN,pI x8.gType.gKind,pS x8.gType.gName,a7 x8.gType.gArgs,eB x8.gArgs,g0 x8.gArms]⟩,some ⟨55,[pS y3,.lit 1 (aZ (v9)),pI v10,pS v11,a7 v12,.lit 4 (aM.trs (v13)),pB false,pB false,pI 0,pS s_,.nil,.bsl 2 1]⟩],[]⟩⟩) (fK H) (fun H=>?_) ?_
 ·refine qW (q1 aE (fP H fun d15 h16 H=>(q1 (iF [0] [] func103 (BG h16 (eQ d5 4))) (qN (aR.block (qW (q1 dM (q1 aE (qN ?_)))))))))
  refine a8 H (fun h17 H=>?_) (fun h17 H=>?_)
  ·refine qR (bI H fun x19 z18 H=>(q1 (bG func147 (rL fu _ z18)) (q1 (a5 A4) (q1 (bR jE) (qN ?_)))))
   exact dY ⟨_,(aX H:),bW⟩
  refine qW (q1 dM (q1 aE (qN ?_)))
  refine a8 H (fun h20 H=>?_) (fun h20 H=>?_)
  ·refine qW (q1 (uN ([hU]:LB) b3 lU) (q1 (a5 uS) (q1 (bR SU) (qN (qW (bI H fun x22 z21 H=>(q1 (bG func118 (lS (kT fu) hU _ z21)) (q1 (uN ([x22]:List aB) eU jN) (bI H fun x24 z23 H=>(q1 (bG func85 (yO (jI fu) cS ([x22]:List aB) _ z23)) (q1 (a5 A4) ?_)))))))))))
   refine q1 (bR jE) (qN (dW (dI [3] (a5 agH) (dD [36] (bD eJ) (dI [] (bG func118 (lS (kT fu) hU _ z21)) (dI [37,38] (gW QP agS) (dI [39] (uN ([(aM.mk y3 x22)]:List aM) FF QP) (dI [3] (a5 OD) (lH [41,40] (bR arM) (dN ?_))))))))))
   exact dY ⟨_,(aX H:),bW⟩
  refine qW (q1 dM (q1 aE (qN ?_)))
  refine a8 H (fun h25 H=>?_) (fun h25 H=>?_)
  ·refine qW (q1 (uN ([hU,E0]:LB) b3 lU) (q1 (a5 uS) (q1 (bR SU) (qN (qR (bI H fun x27 z26 H=>(q1 (bG func118 (lS (kT fu) hU _ z26)) (bI H fun x29 z28 H=>(q1 (bG func118 (lS (kT fu) E0 _ z28)) (q1 (uN ([x27,x29]:List aB) eU jN) (bI H fun x31 z30 H=>(q1 (bG func85 (yO (jI fu) uG ([x27,x29]:List aB) _ z30)) ?_))))))))))))
   refine q1 (a5 A4) (q1 (bR jE) (qN ?_))
   exact dY ⟨_,(aX H:),bW⟩
  refine qW (q1 (uN ([hU]:LB) b3 lU) (q1 (a5 uS) (q1 (bR SU) (qN (qW (bI H fun x33 z32 H=>(q1 (bG func118 (lS (kT fu) hU _ z32)) (q1 (a5 A4) (q1 (bR jE) (qN (qR ?_)))))))))))
  refine q1 (bG func118 (lS (kT fu) hU _ z32)) (q1 (gW QP agS) (q1 (uN ([(aM.mk l6 x33)]:List aM) FF QP) (q1 (a5 OD) (q1 (bR arM) (qN ?_)))))
  exact dY ⟨_,(aX H:),bW⟩
 rintro⟨v9,v10,v11,v12,v13,v14⟩ H
 refine qS ?_;refine rR (σ:=(List aB)×Bool×Int×ByteArray×DS) (fun(v38,v35,v36,v37,v34)=>⟨[(0,.ptr 0 0),(2,.ptr 1 0),(3,.ptr 3 0)],⟨[some ⟨151,dC v34⟩,some ⟨55,[pS s_,.nil,pI 0,pS s_,.nil,.nil,pB false,pB false,pI 0,pS s_,.nil,.nil]⟩,some ⟨161,[pS fD,.lit 1 (aZ (([eP]:LB))),pI x8.gKind,pS x8.gTrait,pS x8.gName,pI x8.gN,pI x8.gType.gKind,pS x8.gType.gName,a7 x8.gType.gArgs,eB x8.gArgs,g0 x8.gArms]⟩,some ⟨55,[pS y3,.lit 1 (aZ (v9)),pI v10,pS v11,a7 v12,.lit 4 (aM.trs (v13)),pB false,pB v35,pI v36,pS v37,a7 v38,.bsl 2 1]⟩],[]⟩⟩) (fK H) (fun H=>?_) ?_
 ·refine qW (q1 aE (fP H fun d39 h40 H=>(q1 (iF [0] [] func112 (BG h40 (nB v14 3))) (qN ?_))))
  refine a8 H (fun h41 H=>?_) (fun h41 H=>?_)
  ·refine qW (q1 (a5 OE) (q1 (bR sz4) (qN (qR (q1 aE (q1 (a5 uS) (q1 (bD kZ) (fZ H fun x43 x44 z42 H=>(q1 (iF [0] [] func130 (afN (V3 fu) d39 v9 1 _ z42)) (q1 (a5 OF) (q1 (bR jE) (qN ?_))))))))))))
   exact dY ⟨_,(aX H:),bW⟩
  refine aR.skip ?_;exact dY ⟨_,(aX H:),bW⟩
 rintro⟨v38,v35,v36,v37,v34⟩ H
 refine qW (q1 aE (fP H fun d45 h46 H=>(q1 (iF [0] [] func112 (BG h46 (nB v34 4))) (q1 (a5 anB) (q1 (bR sz4) (qN ?_))))))
 refine qS (qS (qR (q1 aE (fP H fun d47 h48 H=>(q1 (iF [0] [] func103 (BG h48 (eQ d45 12))) (qN (aR.block (qW (q1 dM (q1 aE (qN ?_)))))))))))
 refine a8 H (fun h49 H=>?_) (fun h49 H=>?_)
 ·refine qR (q1 aE (fZ H fun x51 x52 z50 H=>(q1 (iF [0] [] func87 (zX (vF fu) d47 2 _ z50)) (q1 (a5 A4) (q1 (bR jE) (qN (qS (qR ?_))))))))
  refine AL.weak (Wk.freezeE (k:=2) (sz:=11) (es:= [aO.cs (aO.mk fD ([eP]:LB) x8)]) (es':=aO.trs (([(aO.mk fD ([eP]:LB) x8)]:List aO))) (s':=⟨[(0,.ptr 0 0),(2,.ptr 1 0),(3,.ptr 3 0),(63,pN (d45.below 12))],⟨[some ⟨151,dC x52⟩,some ⟨55,[pS s_,.nil,pI 0,pS s_,.nil,.nil,pB false,pB false,pI 0,pS s_,.nil,.nil]⟩,none,some ⟨55,[pS y3,.lit 1 (aZ (v9)),pI x51.gKind,pS x51.gName,a7 x51.gArgs,.lit 4 (aM.trs (v13)),pB (decide (v34.below 4=0)),pB v35,pI v36,pS v37,a7 v38,mK ([(aO.mk fD ([eP]:LB) x8)]:List aO)]⟩],[]⟩⟩) (by simp [aO.trs_map,aO.tr_cs]) rfl iX (by simp [aO.cs]) (Nat.le_of_ble_eq_true rfl) ⟨⟨rfl,d9,rfl⟩,⟨⟨rfl,d9,rfl⟩,⟨⟨rfl,d9,rfl⟩,trivial⟩⟩⟩ rfl rfl (e9 hC (lG rfl) (Nat.le_of_ble_eq_true rfl)) (by repeat' first|exact trivial|refine⟨⟨_,rfl,d9,rfl⟩,?_⟩)) ?_;refine q1 (cJ [pS y3,.lit 1 (aZ (v9)),pI x51.gKind,pS x51.gName,a7 x51.gArgs,.lit 4 (aM.trs (v13)),pB (decide (v34.below 4=0)),pB v35,pI v36,pS v37,a7 v38,mK ([(aO.mk fD ([eP]:LB) x8)]:List aO)] zQ) (q1 (bR NN) (qZ ?_))
  cases aX H
  exact bE (hr:=⟨⟨_,_,_,rfl,rfl,zQ,rfl,rfl⟩,trivial⟩)
 refine qW (q1 dM (q1 aE (qN ?_)))
 refine a8 H (fun h53 H=>?_) (fun h53 H=>?_)
 ·refine fP H fun d54 h55 H=>(fP H fun y56 h57 H=>(dK H fun z58 H=>(dW (dI [3] (a5 uS) (dB [71] 0 1 (wL kZ) (dI [0] aE (dI [] (uN ([hU,s_c]:LB) b3 lU) (dE [73,74] (iF [0] [] func86 (Q7 h55 h57 (iE d47 ([hU,s_c]:LB) (by decide)))) (dI [75] (uN ([y56]:LB) b3 lU) ?_)))))))))
  refine dI [72,76] (a3.appendLit (es1:=aZ (v9)) (es2:=aZ (([y56]:LB))) (es3:=aZ (v9++([y56]:LB))) rfl rfl rfl rfl rfl (qJ _) (qJ _) (by exact List.cons_ne_nil _ _) (by decide) b3 tR (by decide) (by rw [bC,bC];exact AN z58 (by decide)) (vU _ _)) ?_;refine dI [3] (a5 uS) (lH [78,77] (bR SU) (dN (qS (qR ?_))))
  refine AL.weak (Wk.freezeE (k:=2) (sz:=11) (es:= [aO.cs (aO.mk fD ([eP]:LB) x8)]) (es':=aO.trs (([(aO.mk fD ([eP]:LB) x8)]:List aO))) (s':=⟨[(0,.ptr 0 0),(2,.ptr 1 0),(3,.ptr 3 0),(63,pN (d45.below 12))],⟨[some ⟨151,dC d54⟩,some ⟨55,[pS s_,.nil,pI 0,pS s_,.nil,.nil,pB false,pB false,pI 0,pS s_,.nil,.nil]⟩,none,some ⟨55,[pS y3,rS (v9++([y56]:LB)),pI v10,pS v11,a7 v12,.lit 4 (aM.trs (v13)),pB (decide (v34.below 4=0)),pB v35,pI v36,pS v37,a7 v38,mK ([(aO.mk fD ([eP]:LB) x8)]:List aO)]⟩],[]⟩⟩) (by simp [aO.trs_map,aO.tr_cs]) rfl iX (by simp [aO.cs]) (Nat.le_of_ble_eq_true rfl) ⟨⟨rfl,d9,rfl⟩,⟨⟨rfl,d9,rfl⟩,⟨⟨rfl,d9,rfl⟩,trivial⟩⟩⟩ rfl rfl (e9 hC (lG rfl) (Nat.le_of_ble_eq_true rfl)) (by repeat' first|exact trivial|refine⟨⟨_,rfl,d9,rfl⟩,?_⟩)) ?_;refine q1 (cJ [pS y3,rS (v9++([y56]:LB)),pI v10,pS v11,a7 v12,.lit 4 (aM.trs (v13)),pB (decide (v34.below 4=0)),pB v35,pI v36,pS v37,a7 v38,mK ([(aO.mk fD ([eP]:LB) x8)]:List aO)] zQ) (q1 (bR NN) (qZ ?_))
  cases aX H
  exact bE (hr:=⟨⟨_,_,_,rfl,rfl,zQ,rfl,rfl⟩,trivial⟩)
 refine qW (q1 dM (q1 aE (qN ?_)))
 refine a8 H (fun h59 H=>?_) (fun h59 H=>?_)
 ·refine fZ H fun x61 x62 z60 H=>(dK H fun z63 H=>(dW (dI [3] (a5 OD) (dB [81] 0 1 (wL alK) (dI [0] aE (dE [83] (iF [0] [] func87 (zX (vF fu) d47 1 _ z60)) (dI [84] (gW QP agS) (dI [85] (uN ([(aM.mk wE x61)]:List aM) FF QP) ?_))))))))
  refine dI [82,86] (a3.appendLit (es1:=aM.trs (v13)) (es2:=aM.trs (([(aM.mk wE x61)]:List aM))) (es3:=aM.trs (v13++([(aM.mk wE x61)]:List aM))) rfl rfl rfl rfl rfl (fun e he=>by rw [aM.trs_map] at he;obtain⟨x,_,rfl⟩:=List.mem_map.1 he;rw [aM.tr_cs];rfl) (fun e he=>by rw [aM.trs_map] at he;obtain⟨x,_,rfl⟩:=List.mem_map.1 he;rw [aM.tr_cs];rfl) (by rw [aM.trs_map];exact List.cons_ne_nil _ _) (by decide) FF asU (by decide) (by rw [aM.trs_len,aM.trs_len];exact AN z63 (by decide)) (by rw [aM.trs_map,aM.trs_map,aM.trs_map,List.map_append])) ?_;refine dI [3] (a5 OD) (lH [88,87] (bR arM) (dN (qS (qR ?_))))
  refine AL.weak (Wk.freezeE (k:=2) (sz:=11) (es:= [aO.cs (aO.mk fD ([eP]:LB) x8)]) (es':=aO.trs (([(aO.mk fD ([eP]:LB) x8)]:List aO))) (s':=⟨[(0,.ptr 0 0),(2,.ptr 1 0),(3,.ptr 3 0),(63,pN (d45.below 12))],⟨[some ⟨151,dC x62⟩,some ⟨55,[pS s_,.nil,pI 0,pS s_,.nil,.nil,pB false,pB false,pI 0,pS s_,.nil,.nil]⟩,none,some ⟨55,[pS y3,.lit 1 (aZ (v9)),pI v10,pS v11,a7 v12,fS (v13++([(aM.mk wE x61)]:List aM)),pB (decide (v34.below 4=0)),pB v35,pI v36,pS v37,a7 v38,mK ([(aO.mk fD ([eP]:LB) x8)]:List aO)]⟩],[]⟩⟩) (by simp [aO.trs_map,aO.tr_cs]) rfl iX (by simp [aO.cs]) (Nat.le_of_ble_eq_true rfl) ⟨⟨rfl,d9,rfl⟩,⟨⟨rfl,d9,rfl⟩,⟨⟨rfl,d9,rfl⟩,trivial⟩⟩⟩ rfl rfl (e9 hC (lG rfl) (Nat.le_of_ble_eq_true rfl)) (by repeat' first|exact trivial|refine⟨⟨_,rfl,d9,rfl⟩,?_⟩)) ?_;refine q1 (cJ [pS y3,.lit 1 (aZ (v9)),pI v10,pS v11,a7 v12,fS (v13++([(aM.mk wE x61)]:List aM)),pB (decide (v34.below 4=0)),pB v35,pI v36,pS v37,a7 v38,mK ([(aO.mk fD ([eP]:LB) x8)]:List aO)] zQ) (q1 (bR NN) (qZ ?_))
  cases aX H
  exact bE (hr:=⟨⟨_,_,_,rfl,rfl,zQ,rfl,rfl⟩,trivial⟩)
 refine qW (q1 dM (q1 aE (qN ?_)))
 refine a8 H (fun h64 H=>?_) (fun h64 H=>?_)
 ·refine fZ H fun x66 x67 z65 H=>(dW (dI [3] (a5 FG) (dB [91] 0 1 (wL ag0) (dI [0] aE (dI [] (uN ([eP,rF]:LB) b3 lU) (dE [93,94] (iF [0] [] func111 (F1 fu d47 ([eP,rF]:LB) 2 _ z65)) (dI [92] (a3.indexB (sz:=11) (k:=2) (N:=1) (i:=0) rfl rfl rfl rfl (by decide) Y6) (dI [96] (a5 Y9) (lH [97,95] (bR nA) (dN (qS (qR ?_))))))))))))
  refine AL.weak (Wk.freezeE (k:=2) (sz:=11) (es:= [aO.cs (aO.mk fD ([eP]:LB) x66)]) (es':=aO.trs (([(aO.mk fD ([eP]:LB) x66)]:List aO))) (s':=⟨[(0,.ptr 0 0),(2,.ptr 1 0),(3,.ptr 3 0),(63,pN (d45.below 12))],⟨[some ⟨151,dC x67⟩,some ⟨55,[pS s_,.nil,pI 0,pS s_,.nil,.nil,pB false,pB false,pI 0,pS s_,.nil,.nil]⟩,none,some ⟨55,[pS y3,.lit 1 (aZ (v9)),pI v10,pS v11,a7 v12,.lit 4 (aM.trs (v13)),pB (decide (v34.below 4=0)),pB v35,pI v36,pS v37,a7 v38,mK ([(aO.mk fD ([eP]:LB) x66)]:List aO)]⟩],[]⟩⟩) (by simp [aO.trs_map,aO.tr_cs]) rfl iX (by simp [aO.cs]) (Nat.le_of_ble_eq_true rfl) ⟨⟨rfl,d9,rfl⟩,⟨⟨rfl,d9,rfl⟩,⟨⟨rfl,d9,rfl⟩,trivial⟩⟩⟩ rfl rfl (e9 hC (lG rfl) (Nat.le_of_ble_eq_true rfl)) (by repeat' first|exact trivial|refine⟨⟨_,rfl,d9,rfl⟩,?_⟩)) ?_;refine q1 (cJ [pS y3,.lit 1 (aZ (v9)),pI v10,pS v11,a7 v12,.lit 4 (aM.trs (v13)),pB (decide (v34.below 4=0)),pB v35,pI v36,pS v37,a7 v38,mK ([(aO.mk fD ([eP]:LB) x66)]:List aO)] zQ) (q1 (bR NN) (qZ ?_))
  cases aX H
  exact bE (hr:=⟨⟨_,_,_,rfl,rfl,zQ,rfl,rfl⟩,trivial⟩)
 refine qW (q1 dM (q1 aE (qN ?_)))
 refine a8 H (fun h68 H=>?_) (fun h68 H=>?_)
 ·refine qR (bI H fun x70 z69 H=>(q1 (bG func147 (rL fu _ z69)) (q1 (a5 OF) (q1 (bR jE) (qN (qS (qR ?_)))))))
  refine AL.weak (Wk.freezeE (k:=2) (sz:=11) (es:= [aO.cs (aO.mk fD ([eP]:LB) x8)]) (es':=aO.trs (([(aO.mk fD ([eP]:LB) x8)]:List aO))) (s':=⟨[(0,.ptr 0 0),(2,.ptr 1 0),(3,.ptr 3 0),(63,pN (d45.below 12))],⟨[some ⟨151,dC d47⟩,some ⟨55,[pS s_,.nil,pI 0,pS s_,.nil,.nil,pB false,pB false,pI 0,pS s_,.nil,.nil]⟩,none,some ⟨55,[pS y3,.lit 1 (aZ (v9)),pI v10,pS v11,a7 v12,.lit 4 (aM.trs (v13)),pB (decide (v34.below 4=0)),pB v35,pI x70.gKind,pS x70.gName,a7 x70.gArgs,mK ([(aO.mk fD ([eP]:LB) x8)]:List aO)]⟩],[]⟩⟩) (by simp [aO.trs_map,aO.tr_cs]) rfl iX (by simp [aO.cs]) (Nat.le_of_ble_eq_true rfl) ⟨⟨rfl,d9,rfl⟩,⟨⟨rfl,d9,rfl⟩,⟨⟨rfl,d9,rfl⟩,trivial⟩⟩⟩ rfl rfl (e9 hC (lG rfl) (Nat.le_of_ble_eq_true rfl)) (by repeat' first|exact trivial|refine⟨⟨_,rfl,d9,rfl⟩,?_⟩)) ?_;refine q1 (cJ [pS y3,.lit 1 (aZ (v9)),pI v10,pS v11,a7 v12,.lit 4 (aM.trs (v13)),pB (decide (v34.below 4=0)),pB v35,pI x70.gKind,pS x70.gName,a7 x70.gArgs,mK ([(aO.mk fD ([eP]:LB) x8)]:List aO)] zQ) (q1 (bR NN) (qZ ?_))
  cases aX H
  exact bE (hr:=⟨⟨_,_,_,rfl,rfl,zQ,rfl,rfl⟩,trivial⟩)
 refine qW (q1 dM (q1 aE (qN ?_)))
 refine a8 H (fun h71 H=>?_) (fun h71 H=>?_)
 ·refine qR (q1 (a5 FG) (q1 (bD ag0) (q1 (uN ([]:LB) b3 lU) (q1 (a3.indexB (sz:=11) (k:=2) (N:=1) (i:=0) rfl rfl rfl rfl (by decide) Y6) (q1 (a5 L0) (q1 (bR SU) (qN (qS (qR ?_)))))))))
  refine AL.weak (Wk.freezeE (k:=2) (sz:=11) (es:= [aO.cs (aO.mk fD ([]) x8)]) (es':=aO.trs (([(aO.mk fD ([]) x8)]:List aO))) (s':=⟨[(0,.ptr 0 0),(2,.ptr 1 0),(3,.ptr 3 0),(63,pN (d45.below 12))],⟨[some ⟨151,dC d47⟩,some ⟨55,[pS s_,.nil,pI 0,pS s_,.nil,.nil,pB false,pB false,pI 0,pS s_,.nil,.nil]⟩,none,some ⟨55,[pS y3,.lit 1 (aZ (v9)),pI v10,pS v11,a7 v12,.lit 4 (aM.trs (v13)),pB (decide (v34.below 4=0)),pB v35,pI v36,pS v37,a7 v38,mK ([(aO.mk fD ([]) x8)]:List aO)]⟩],[]⟩⟩) (by simp [aO.trs_map,aO.tr_cs]) rfl iX (by simp [aO.cs]) (Nat.le_of_ble_eq_true rfl) ⟨⟨rfl,d9,rfl⟩,⟨⟨rfl,d9,rfl⟩,⟨⟨rfl,d9,rfl⟩,trivial⟩⟩⟩ rfl rfl (e9 hC (lG rfl) (Nat.le_of_ble_eq_true rfl)) (by repeat' first|exact trivial|refine⟨⟨_,rfl,d9,rfl⟩,?_⟩)) ?_;refine q1 (cJ [pS y3,.lit 1 (aZ (v9)),pI v10,pS v11,a7 v12,.lit 4 (aM.trs (v13)),pB (decide (v34.below 4=0)),pB v35,pI v36,pS v37,a7 v38,mK ([(aO.mk fD ([]) x8)]:List aO)] zQ) (q1 (bR NN) (qZ ?_))
  cases aX H
  exact bE (hr:=⟨⟨_,_,_,rfl,rfl,zQ,rfl,rfl⟩,trivial⟩)
 refine aR.skip (qS (qR ?_))
 refine AL.weak (Wk.freezeE (k:=2) (sz:=11) (es:= [aO.cs (aO.mk fD ([eP]:LB) x8)]) (es':=aO.trs (([(aO.mk fD ([eP]:LB) x8)]:List aO))) (s':=⟨[(0,.ptr 0 0),(2,.ptr 1 0),(3,.ptr 3 0),(63,pN (d45.below 12))],⟨[some ⟨151,dC d47⟩,some ⟨55,[pS s_,.nil,pI 0,pS s_,.nil,.nil,pB false,pB false,pI 0,pS s_,.nil,.nil]⟩,none,some ⟨55,[pS y3,.lit 1 (aZ (v9)),pI v10,pS v11,a7 v12,.lit 4 (aM.trs (v13)),pB (decide (v34.below 4=0)),pB v35,pI v36,pS v37,a7 v38,mK ([(aO.mk fD ([eP]:LB) x8)]:List aO)]⟩],[]⟩⟩) (by simp [aO.trs_map,aO.tr_cs]) rfl iX (by simp [aO.cs]) (Nat.le_of_ble_eq_true rfl) ⟨⟨rfl,d9,rfl⟩,⟨⟨rfl,d9,rfl⟩,⟨⟨rfl,d9,rfl⟩,trivial⟩⟩⟩ rfl rfl (e9 hC (lG rfl) (Nat.le_of_ble_eq_true rfl)) (by repeat' first|exact trivial|refine⟨⟨_,rfl,d9,rfl⟩,?_⟩)) ?_;refine q1 (cJ [pS y3,.lit 1 (aZ (v9)),pI v10,pS v11,a7 v12,.lit 4 (aM.trs (v13)),pB (decide (v34.below 4=0)),pB v35,pI v36,pS v37,a7 v38,mK ([(aO.mk fD ([eP]:LB) x8)]:List aO)] zQ) (q1 (bR NN) (qZ ?_))
 cases aX H
 exact bE (hr:=⟨⟨_,_,_,rfl,rfl,zQ,rfl,rfl⟩,trivial⟩)
def an6(m:DS→Option (aK×DS)):Prop:= ∀(pc:DS) (r:aK×DS),m pc=some r→c6 Tryz.prog 170 [.ptr 0 0] ⟨[some ⟨151,dC pc⟩],[]⟩ (fun q t=>q=((aK.pv r.1):PV)∧t=⟨[some ⟨151,dC r.2⟩],[]⟩)
def VJ(fu:Nat)(pc:DS):Option (aK×DS):=
 lt (pc.after ([s_f,s_g]:LB).length) (fun d1=>
 lt (pc.pick ([s_f,s_g]:LB)) (fun y3=>
 bd (nS fu hU) (fun x6=>
 bd (zY fu) (fun x8=>
 bd (vA fu eP) (fun x10=>
 lt (d1.after 10) (fun d11=>
 sw (decide ((d1.below 10:Int)=0))
 (bd (tO fu d11 2) (fun(x15,x16)=>
 some ((aK.mk y3 ([hU]:LB) ([(aM.mk bH x6)]:List aM) ([(aT.mk eP x6)]:List aT) x15 (aG.mk 5 bH fD 0 (aB.mk 0 s_ []) ([x10]:List aG) [])),x16)))
 (sw (decide ((d1.below 10:Int)=1))
 (lt (d11.after ([eP,rF]:LB).length) (fun d18=>
 lt (d11.pick ([eP,rF]:LB)) (fun y20=>
 gd ((([(aT.mk eP x6)]:List aT)).length+(([(aT.mk y20 x8)]:List aT)).length≤68719476736)
 (some ((aK.mk y3 ([hU]:LB) ([(aM.mk bH x6)]:List aM) (([(aT.mk eP x6)]:List aT)++([(aT.mk y20 x8)]:List aT)) x8 (aG.mk 5 bH fD 0 (aB.mk 0 s_ []) ([x10]:List aG) [])),d18)))))
 (sw (decide ((d1.below 10:Int)=2))
 (bd (k9 fu d11 ([eP,rF]:LB) 3) (fun(x25,x26)=>
 some ((aK.mk y3 ([hU]:LB) ([(aM.mk bH x6)]:List aM) ([(aT.mk eP x6)]:List aT) x8 x25),x26)))
 (sw (decide ((d1.below 10:Int)=3))
 (bd (tO fu d11 1) (fun(x29,x30)=>
 some ((aK.mk y3 ([hU]:LB) ([(aM.mk bH x29)]:List aM) ([(aT.mk eP x6)]:List aT) x8 (aG.mk 5 bH fD 0 (aB.mk 0 s_ []) ([x10]:List aG) [])),x30)))
 (sw (decide ((d1.below 10:Int)=4))
 (lt (d11.after ([s_,D1]:LB).length) (fun d32=>
 lt (d11.pick ([s_,D1]:LB)) (fun y34=>
 some ((aK.mk y34 ([hU]:LB) ([(aM.mk bH x6)]:List aM) ([(aT.mk eP x6)]:List aT) x8 (aG.mk 5 bH fD 0 (aB.mk 0 s_ []) ([x10]:List aG) [])),d32))))
 (some ((aK.mk y3 ([hU]:LB) ([(aM.mk bH x6)]:List aM) ([(aT.mk eP x6)]:List aT) x8 (aG.mk 5 bH fD 0 (aB.mk 0 s_ []) ([x10]:List aG) [])),d11))))))))))))
theorem alT(fu:Nat):an6 (VJ fu):=by
 intro pc r H
 have H:=eE H
 refine qI func170 (fun C hC=>?_)
 refine qW (q1 (fO sH) (qN (qW (q1 aE (q1 (uN ([s_f,s_g]:LB) b3 lU) (fP H fun d1 h2 H=>(fP H fun y3 h4 H=>(q1 (iF [0] [] func86 (Q7 h2 h4 (iE pc ([s_f,s_g]:LB) (by decide)))) (q1 (uN ([hU]:LB) b3 lU) (bI H fun x6 z5 H=>(q1 (bG func118 (lS (kT fu) hU _ z5)) ?_)))))))))))
 refine q1 (gW QP agS) (q1 (a3.buildSliceB (cs:= [pS bH,pI x6.gKind,pS x6.gName,a7 x6.gArgs]) rfl rfl FF QP rfl rfl rfl (by decide) rfl (by decide)) (q1 (bG func118 (lS (kT fu) hU _ z5)) (q1 (gW YM anT) (q1 (uN ([(aT.mk eP x6)]:List aT) BW YM) (bI H fun x8 z7 H=>(q1 (bG func147 (rL fu _ z7)) (bI H fun x10 z9 H=>(q1 (bG func157 (zR fu eP _ z9)) (q1 (uN ([x10]:List aG) jZ kL) (q1 (gW kL zM) (q1 (gW sH UO) (q1 (fO sH) (q1 (bR qK) ?_)))))))))))))
 refine qN ?_
 refine qS (qS (qR (q1 aE (fP H fun d11 h12 H=>(q1 (iF [0] [] func103 (BG h12 (eQ d1 10))) (qN (aR.block (qW (q1 dM (q1 aE (qN ?_)))))))))))
 refine a8 H (fun h13 H=>?_) (fun h13 H=>?_)
 ·refine qR (q1 aE (fZ H fun x15 x16 z14 H=>(q1 (iF [0] [] func87 (zX (vF fu) d11 2 _ z14)) (q1 (a5 Y8) (q1 (bR jE) (qN (qS (qR ?_))))))))
  refine AL.weak (Wk.freezeE (k:=2) (sz:=4) (es:= [aM.cs (aM.mk bH x6)]) (es':=aM.trs (([(aM.mk bH x6)]:List aM))) (s':=⟨[(0,.ptr 0 0),(2,.ptr 1 0),(3,.ptr 3 0),(20,pN (d1.below 10))],⟨[some ⟨151,dC x16⟩,some ⟨148,[pS s_,.nil,.nil,.nil,pI 0,pS s_,.nil,pI 0,pS s_,pS s_,pI 0,pI 0,pS s_,.nil,.nil,.nil]⟩,none,some ⟨148,[pS y3,.lit 1 (aZ (([hU]:LB))),fS ([(aM.mk bH x6)]:List aM),.lit 4 (aT.trs (([(aT.mk eP x6)]:List aT))),pI x15.gKind,pS x15.gName,a7 x15.gArgs,pI 5,pS bH,pS fD,pI 0,pI 0,pS s_,.nil,.lit 9 (aG.trs (([x10]:List aG))),.nil]⟩],[]⟩⟩) (by simp [aM.trs_map,aM.tr_cs]) rfl iX (by simp [aM.cs]) (Nat.le_of_ble_eq_true rfl) ⟨⟨rfl,d9,rfl⟩,⟨⟨rfl,d9,rfl⟩,⟨⟨rfl,d9,rfl⟩,trivial⟩⟩⟩ rfl rfl (e9 hC (lG rfl) (Nat.le_of_ble_eq_true rfl)) (by repeat' first|exact trivial|refine⟨⟨_,rfl,d9,rfl⟩,?_⟩)) ?_;refine q1 (cJ [pS y3,.lit 1 (aZ (([hU]:LB))),fS ([(aM.mk bH x6)]:List aM),.lit 4 (aT.trs (([(aT.mk eP x6)]:List aT))),pI x15.gKind,pS x15.gName,a7 x15.gArgs,pI 5,pS bH,pS fD,pI 0,pI 0,pS s_,.nil,.lit 9 (aG.trs (([x10]:List aG))),.nil] lN) (q1 (bR qK) (qZ ?_))
  cases aX H
  exact bE (hr:=⟨⟨_,_,_,rfl,rfl,lN,rfl,rfl⟩,trivial⟩)
 refine qW (q1 dM (q1 aE (qN ?_)))
 refine a8 H (fun h17 H=>?_) (fun h17 H=>?_)
 ·refine fP H fun d18 h19 H=>(fP H fun y20 h21 H=>(dK H fun z22 H=>(dW (dI [3] (a5 sJ) (dB [28] 0 1 (wL I9) (dI [0] aE (dI [] (uN ([eP,rF]:LB) b3 lU) (dE [30,31] (iF [0] [] func86 (Q7 h19 h21 (iE d11 ([eP,rF]:LB) (by decide)))) (dI [] (bG func147 (rL fu _ z7)) (dI [32,33] (gW YM anT) (dI [34] (uN ([(aT.mk y20 x8)]:List aT) BW YM) ?_)))))))))))
  refine dI [29,35] (a3.appendLit (es1:=aT.trs (([(aT.mk eP x6)]:List aT))) (es2:=aT.trs (([(aT.mk y20 x8)]:List aT))) (es3:=aT.trs (([(aT.mk eP x6)]:List aT)++([(aT.mk y20 x8)]:List aT))) rfl rfl rfl rfl rfl (fun e he=>by rw [aT.trs_map] at he;obtain⟨x,_,rfl⟩:=List.mem_map.1 he;rw [aT.tr_cs];rfl) (fun e he=>by rw [aT.trs_map] at he;obtain⟨x,_,rfl⟩:=List.mem_map.1 he;rw [aT.tr_cs];rfl) (by rw [aT.trs_map];exact List.cons_ne_nil _ _) (by decide) BW aqM (by decide) (by rw [aT.trs_len,aT.trs_len];exact AN z22 (by decide)) (by rw [aT.trs_map,aT.trs_map,aT.trs_map,List.map_append])) ?_;refine dI [3] (a5 sJ) (lH [37,36] (bR aqF) (dN (qS (qR ?_))))
  refine AL.weak (Wk.freezeE (k:=2) (sz:=4) (es:= [aM.cs (aM.mk bH x6)]) (es':=aM.trs (([(aM.mk bH x6)]:List aM))) (s':=⟨[(0,.ptr 0 0),(2,.ptr 1 0),(3,.ptr 3 0),(20,pN (d1.below 10))],⟨[some ⟨151,dC d18⟩,some ⟨148,[pS s_,.nil,.nil,.nil,pI 0,pS s_,.nil,pI 0,pS s_,pS s_,pI 0,pI 0,pS s_,.nil,.nil,.nil]⟩,none,some ⟨148,[pS y3,.lit 1 (aZ (([hU]:LB))),fS ([(aM.mk bH x6)]:List aM),FW (([(aT.mk eP x6)]:List aT)++([(aT.mk y20 x8)]:List aT)),pI x8.gKind,pS x8.gName,a7 x8.gArgs,pI 5,pS bH,pS fD,pI 0,pI 0,pS s_,.nil,.lit 9 (aG.trs (([x10]:List aG))),.nil]⟩],[]⟩⟩) (by simp [aM.trs_map,aM.tr_cs]) rfl iX (by simp [aM.cs]) (Nat.le_of_ble_eq_true rfl) ⟨⟨rfl,d9,rfl⟩,⟨⟨rfl,d9,rfl⟩,⟨⟨rfl,d9,rfl⟩,trivial⟩⟩⟩ rfl rfl (e9 hC (lG rfl) (Nat.le_of_ble_eq_true rfl)) (by repeat' first|exact trivial|refine⟨⟨_,rfl,d9,rfl⟩,?_⟩)) ?_;refine q1 (cJ [pS y3,.lit 1 (aZ (([hU]:LB))),fS ([(aM.mk bH x6)]:List aM),FW (([(aT.mk eP x6)]:List aT)++([(aT.mk y20 x8)]:List aT)),pI x8.gKind,pS x8.gName,a7 x8.gArgs,pI 5,pS bH,pS fD,pI 0,pI 0,pS s_,.nil,.lit 9 (aG.trs (([x10]:List aG))),.nil] lN) (q1 (bR qK) (qZ ?_))
  cases aX H
  exact bE (hr:=⟨⟨_,_,_,rfl,rfl,lN,rfl,rfl⟩,trivial⟩)
 refine qW (q1 dM (q1 aE (qN ?_)))
 refine a8 H (fun h23 H=>?_) (fun h23 H=>?_)
 ·refine qR (q1 aE (q1 (uN ([eP,rF]:LB) b3 lU) (fZ H fun x25 x26 z24 H=>(q1 (iF [0] [] func111 (F1 fu d11 ([eP,rF]:LB) 3 _ z24)) (q1 (a5 SZ) (q1 (bR nA) (qN (qS (qR ?_)))))))))
  refine AL.weak (Wk.freezeE (k:=2) (sz:=4) (es:= [aM.cs (aM.mk bH x6)]) (es':=aM.trs (([(aM.mk bH x6)]:List aM))) (s':=⟨[(0,.ptr 0 0),(2,.ptr 1 0),(3,.ptr 3 0),(20,pN (d1.below 10))],⟨[some ⟨151,dC x26⟩,some ⟨148,[pS s_,.nil,.nil,.nil,pI 0,pS s_,.nil,pI 0,pS s_,pS s_,pI 0,pI 0,pS s_,.nil,.nil,.nil]⟩,none,some ⟨148,[pS y3,.lit 1 (aZ (([hU]:LB))),fS ([(aM.mk bH x6)]:List aM),.lit 4 (aT.trs (([(aT.mk eP x6)]:List aT))),pI x8.gKind,pS x8.gName,a7 x8.gArgs,pI x25.gKind,pS x25.gTrait,pS x25.gName,pI x25.gN,pI x25.gType.gKind,pS x25.gType.gName,a7 x25.gType.gArgs,eB x25.gArgs,g0 x25.gArms]⟩],[]⟩⟩) (by simp [aM.trs_map,aM.tr_cs]) rfl iX (by simp [aM.cs]) (Nat.le_of_ble_eq_true rfl) ⟨⟨rfl,d9,rfl⟩,⟨⟨rfl,d9,rfl⟩,⟨⟨rfl,d9,rfl⟩,trivial⟩⟩⟩ rfl rfl (e9 hC (lG rfl) (Nat.le_of_ble_eq_true rfl)) (by repeat' first|exact trivial|refine⟨⟨_,rfl,d9,rfl⟩,?_⟩)) ?_;refine q1 (cJ [pS y3,.lit 1 (aZ (([hU]:LB))),fS ([(aM.mk bH x6)]:List aM),.lit 4 (aT.trs (([(aT.mk eP x6)]:List aT))),pI x8.gKind,pS x8.gName,a7 x8.gArgs,pI x25.gKind,pS x25.gTrait,pS x25.gName,pI x25.gN,pI x25.gType.gKind,pS x25.gType.gName,a7 x25.gType.gArgs,eB x25.gArgs,g0 x25.gArms] lN) (q1 (bR qK) (qZ ?_))
  cases aX H
  exact bE (hr:=⟨⟨_,_,_,rfl,rfl,lN,rfl,rfl⟩,trivial⟩)
 refine qW (q1 dM (q1 aE (qN ?_)))
 refine a8 H (fun h27 H=>?_) (fun h27 H=>?_)
 ·refine fZ H fun x29 x30 z28 H=>(dW (dI [3] (a5 Y7) (dB [46] 0 1 (wL alK) (dI [0] aE (dE [48] (iF [0] [] func87 (zX (vF fu) d11 1 _ z28)) (dI [47] (a3.indexB (sz:=4) (k:=2) (N:=1) (i:=0) rfl rfl rfl rfl (by decide) FF) (dI [50] (a5 J2) (lH [51,49] (bR jE) (dN (qS (qR ?_)))))))))))
  refine AL.weak (Wk.freezeE (k:=2) (sz:=4) (es:= [aM.cs (aM.mk bH x29)]) (es':=aM.trs (([(aM.mk bH x29)]:List aM))) (s':=⟨[(0,.ptr 0 0),(2,.ptr 1 0),(3,.ptr 3 0),(20,pN (d1.below 10))],⟨[some ⟨151,dC x30⟩,some ⟨148,[pS s_,.nil,.nil,.nil,pI 0,pS s_,.nil,pI 0,pS s_,pS s_,pI 0,pI 0,pS s_,.nil,.nil,.nil]⟩,none,some ⟨148,[pS y3,.lit 1 (aZ (([hU]:LB))),fS ([(aM.mk bH x29)]:List aM),.lit 4 (aT.trs (([(aT.mk eP x6)]:List aT))),pI x8.gKind,pS x8.gName,a7 x8.gArgs,pI 5,pS bH,pS fD,pI 0,pI 0,pS s_,.nil,.lit 9 (aG.trs (([x10]:List aG))),.nil]⟩],[]⟩⟩) (by simp [aM.trs_map,aM.tr_cs]) rfl iX (by simp [aM.cs]) (Nat.le_of_ble_eq_true rfl) ⟨⟨rfl,d9,rfl⟩,⟨⟨rfl,d9,rfl⟩,⟨⟨rfl,d9,rfl⟩,trivial⟩⟩⟩ rfl rfl (e9 hC (lG rfl) (Nat.le_of_ble_eq_true rfl)) (by repeat' first|exact trivial|refine⟨⟨_,rfl,d9,rfl⟩,?_⟩)) ?_;refine q1 (cJ [pS y3,.lit 1 (aZ (([hU]:LB))),fS ([(aM.mk bH x29)]:List aM),.lit 4 (aT.trs (([(aT.mk eP x6)]:List aT))),pI x8.gKind,pS x8.gName,a7 x8.gArgs,pI 5,pS bH,pS fD,pI 0,pI 0,pS s_,.nil,.lit 9 (aG.trs (([x10]:List aG))),.nil] lN) (q1 (bR qK) (qZ ?_))
  cases aX H
  exact bE (hr:=⟨⟨_,_,_,rfl,rfl,lN,rfl,rfl⟩,trivial⟩)
 refine qW (q1 dM (q1 aE (qN ?_)))
 refine a8 H (fun h31 H=>?_) (fun h31 H=>?_)
 ·refine qR (q1 aE (q1 (uN ([s_,D1]:LB) b3 lU) (fP H fun d32 h33 H=>(fP H fun y34 h35 H=>(q1 (iF [0] [] func86 (Q7 h33 h35 (iE d11 ([s_,D1]:LB) (by decide)))) (q1 (a5 GR) (q1 (bR sz9) (qN (qS (qR ?_))))))))))
  refine AL.weak (Wk.freezeE (k:=2) (sz:=4) (es:= [aM.cs (aM.mk bH x6)]) (es':=aM.trs (([(aM.mk bH x6)]:List aM))) (s':=⟨[(0,.ptr 0 0),(2,.ptr 1 0),(3,.ptr 3 0),(20,pN (d1.below 10))],⟨[some ⟨151,dC d32⟩,some ⟨148,[pS s_,.nil,.nil,.nil,pI 0,pS s_,.nil,pI 0,pS s_,pS s_,pI 0,pI 0,pS s_,.nil,.nil,.nil]⟩,none,some ⟨148,[pS y34,.lit 1 (aZ (([hU]:LB))),fS ([(aM.mk bH x6)]:List aM),.lit 4 (aT.trs (([(aT.mk eP x6)]:List aT))),pI x8.gKind,pS x8.gName,a7 x8.gArgs,pI 5,pS bH,pS fD,pI 0,pI 0,pS s_,.nil,.lit 9 (aG.trs (([x10]:List aG))),.nil]⟩],[]⟩⟩) (by simp [aM.trs_map,aM.tr_cs]) rfl iX (by simp [aM.cs]) (Nat.le_of_ble_eq_true rfl) ⟨⟨rfl,d9,rfl⟩,⟨⟨rfl,d9,rfl⟩,⟨⟨rfl,d9,rfl⟩,trivial⟩⟩⟩ rfl rfl (e9 hC (lG rfl) (Nat.le_of_ble_eq_true rfl)) (by repeat' first|exact trivial|refine⟨⟨_,rfl,d9,rfl⟩,?_⟩)) ?_;refine q1 (cJ [pS y34,.lit 1 (aZ (([hU]:LB))),fS ([(aM.mk bH x6)]:List aM),.lit 4 (aT.trs (([(aT.mk eP x6)]:List aT))),pI x8.gKind,pS x8.gName,a7 x8.gArgs,pI 5,pS bH,pS fD,pI 0,pI 0,pS s_,.nil,.lit 9 (aG.trs (([x10]:List aG))),.nil] lN) (q1 (bR qK) (qZ ?_))
  cases aX H
  exact bE (hr:=⟨⟨_,_,_,rfl,rfl,lN,rfl,rfl⟩,trivial⟩)
 refine aR.skip (qS (qR ?_))
 refine AL.weak (Wk.freezeE (k:=2) (sz:=4) (es:= [aM.cs (aM.mk bH x6)]) (es':=aM.trs (([(aM.mk bH x6)]:List aM))) (s':=⟨[(0,.ptr 0 0),(2,.ptr 1 0),(3,.ptr 3 0),(20,pN (d1.below 10))],⟨[some ⟨151,dC d11⟩,some ⟨148,[pS s_,.nil,.nil,.nil,pI 0,pS s_,.nil,pI 0,pS s_,pS s_,pI 0,pI 0,pS s_,.nil,.nil,.nil]⟩,none,some ⟨148,[pS y3,.lit 1 (aZ (([hU]:LB))),fS ([(aM.mk bH x6)]:List aM),.lit 4 (aT.trs (([(aT.mk eP x6)]:List aT))),pI x8.gKind,pS x8.gName,a7 x8.gArgs,pI 5,pS bH,pS fD,pI 0,pI 0,pS s_,.nil,.lit 9 (aG.trs (([x10]:List aG))),.nil]⟩],[]⟩⟩) (by simp [aM.trs_map,aM.tr_cs]) rfl iX (by simp [aM.cs]) (Nat.le_of_ble_eq_true rfl) ⟨⟨rfl,d9,rfl⟩,⟨⟨rfl,d9,rfl⟩,⟨⟨rfl,d9,rfl⟩,trivial⟩⟩⟩ rfl rfl (e9 hC (lG rfl) (Nat.le_of_ble_eq_true rfl)) (by repeat' first|exact trivial|refine⟨⟨_,rfl,d9,rfl⟩,?_⟩)) ?_;refine q1 (cJ [pS y3,.lit 1 (aZ (([hU]:LB))),fS ([(aM.mk bH x6)]:List aM),.lit 4 (aT.trs (([(aT.mk eP x6)]:List aT))),pI x8.gKind,pS x8.gName,a7 x8.gArgs,pI 5,pS bH,pS fD,pI 0,pI 0,pS s_,.nil,.lit 9 (aG.trs (([x10]:List aG))),.nil] lN) (q1 (bR qK) (qZ ?_))
 cases aX H
 exact bE (hr:=⟨⟨_,_,_,rfl,rfl,lN,rfl,rfl⟩,trivial⟩)
end
end Go.Proofs.YtpioomclpaiomaaGreat.W

namespace Go.Proofs.YtpioomclpaiomaaGreat.W
set_option maxRecDepth 100000
set_option maxHeartbeats 40000000
noncomputable section
open Tryz Go.RowKit Go.Proofs
attribute [local irreducible] lt
def aeO(m:DS→Option (aP×DS)):Prop:= ∀(pq0:DS) (r:aP×DS),m pq0=some r→c6 Tryz.prog 167 [.ptr 0 0] ⟨[some ⟨151,dC pq0⟩],[]⟩ (fun q t=>q=((aP.pv r.1):PV)∧t=⟨[some ⟨151,dC r.2⟩],[]⟩)
def aaG(fu:Nat)(pq0:DS)(x2:aB)(d3:DS)(y5:ByteArray)(d7:DS)(x10:aB)(d13:DS)(x17 x19 x21:aG):Option ((aP×DS)⊕((LB))):=
 lt (d13.after 3) (fun d24=>
 sw (decide (d13.below 3=0))
 (some (.inr ([l6]:LB)))
 (some (.inr ([]))))
def aaH(fu:Nat)(pq0:DS)(x2:aB)(d3:DS)(y5:ByteArray)(d7:DS)(x10:aB)(d37:DS):Option ((aP×DS)⊕((LB))):=
 lt (d37.after 3) (fun d41=>
 sw (decide (d37.below 3=0))
 (some (.inr ([l6]:LB)))
 (some (.inr ([]))))
def aaI(fu:Nat)(pq0:DS)(x2:aB)(d3:DS)(y5:ByteArray)(d7:DS)(x10:aB):Option ((aP×DS)⊕((List aC))):=
 lt (d7.after 2) (fun d56=>
 sw (decide (d7.below 2=0))
 (bd (vA fu eP) (fun x61=>
 bd (tM fu 1) (fun x63=>
 bd (uH fu 10 AC ([(aG.mk 5 y5 fD 0 (aB.mk 0 s_ []) ([x61]:List aG) []),x63]:List aG)) (fun x65=>
 gd ((([(aC.mk fD [] x10 false [] (aG.mk 0 s_ s_ 0 (aB.mk 0 s_ []) [] []))]:List aC)).length+(([(aC.mk fY ([x2]:List aB) x10 true ([eP,rF]:LB) x65)]:List aC)).length≤68719476736)
 (some (.inr (([(aC.mk fD [] x10 false [] (aG.mk 0 s_ s_ 0 (aB.mk 0 s_ []) [] []))]:List aC)++([(aC.mk fY ([x2]:List aB) x10 true ([eP,rF]:LB) x65)]:List aC))))))))
 (some (.inr ([(aC.mk fD [] x10 false [] (aG.mk 0 s_ s_ 0 (aB.mk 0 s_ []) [] []))]:List aC))))
def aaJ(fu:Nat)(pq0:DS)(x2:aB)(d3:DS)(y5:ByteArray)(d7:DS)(x10:aB)(v55:List aC):Option ((aP×DS)⊕((LB))):=
 lt ((d7.after 2).after 3) (fun d68=>
 sw (decide ((d7.after 2).below 3=0))
 (some (.inr ([l6]:LB)))
 (some (.inr ([]))))
def F7(fu:Nat)(pq0:DS):Option (aP×DS):=
 bd (nS fu dH) (fun x2=>
 lt (pq0.after ([bH,wE,kS]:LB).length) (fun d3=>
 lt (pq0.pick ([bH,wE,kS]:LB)) (fun y5=>
 lt (d3.after 3) (fun d7=>
 bd (zY fu) (fun x10=>
 sw (decide ((((((d7.after 2).after 3).below 12:Nat):Int):Int)=2)||decide ((((((d7.after 2).after 3).below 12:Nat):Int):Int)=3))
 (sw (decide (d7.below 2=0))
 (lt (d7.after 2) (fun d13=>
 bd (vA fu eP) (fun x17=>
 bd (tM fu 1) (fun x19=>
 bd (uH fu 10 AC ([(aG.mk 5 y5 fD 0 (aB.mk 0 s_ []) ([x17]:List aG) []),x19]:List aG)) (fun x21=>
 gd ((([(aC.mk fD [] x10 false [] (aG.mk 0 s_ s_ 0 (aB.mk 0 s_ []) [] []))]:List aC)).length+(([(aC.mk fY ([x2]:List aB) x10 true ([eP,rF]:LB) x21)]:List aC)).length≤68719476736)
 (so (aaG fu pq0 x2 d3 y5 d7 x10 d13 x17 x19 x21) (fun v23=>
 lt ((d13.after 3).after 12) (fun d28=>
 sw (decide (((((d13.after 3).below 12:Nat):Int):Int)=2))
 (lt (d28.after ([dH,E0]:LB).length) (fun d31=>
 lt (d28.pick ([dH,E0]:LB)) (fun y33=>
 bd (nS fu y33) (fun x36=>
 some ((aP.mk y5 v23 false (decide (d3.below 3=0)) ([(aC.mk fD ([]) x36 false ([]) (aG.mk 0 s_ s_ 0 (aB.mk 0 s_ ([])) ([]) ([]))),(aC.mk fY ([x2]:List aB) x10 true ([eP,rF]:LB) x21)]:List aC)),d31)))))
 (some ((aP.mk y5 v23 false (decide (d3.below 3=0)) ([(aC.mk fD ([]) x10 true ([]) (aG.mk 0 s_ s_ 0 (aB.mk 0 s_ ([])) ([]) ([]))),(aC.mk fY ([x2]:List aB) x10 true ([eP,rF]:LB) x21)]:List aC)),d28))))))))))
 (lt (d7.after 2) (fun d37=>
 so (aaH fu pq0 x2 d3 y5 d7 x10 d37) (fun v40=>
 lt ((d37.after 3).after 12) (fun d45=>
 sw (decide (((((d37.after 3).below 12:Nat):Int):Int)=2))
 (lt (d45.after ([dH,E0]:LB).length) (fun d48=>
 lt (d45.pick ([dH,E0]:LB)) (fun y50=>
 bd (nS fu y50) (fun x53=>
 some ((aP.mk y5 v40 false (decide (d3.below 3=0)) ([(aC.mk fD [] x53 false [] (aG.mk 0 s_ s_ 0 (aB.mk 0 s_ []) [] []))]:List aC)),d48)))))
 (some ((aP.mk y5 v40 false (decide (d3.below 3=0)) ([(aC.mk fD [] x10 true [] (aG.mk 0 s_ s_ 0 (aB.mk 0 s_ []) [] []))]:List aC)),d45)))))))
 (so (aaI fu pq0 x2 d3 y5 d7 x10) (fun v55=>
 so (aaJ fu pq0 x2 d3 y5 d7 x10 v55) (fun v67=>
 lt (((d7.after 2).after 3).after 12) (fun d72=>
 sw (decide ((((((d7.after 2).after 3).below 12:Nat):Int):Int)=0))
 (some ((aP.mk y5 v67 true (decide (d3.below 3=0)) v55),d72))
 (sw (decide ((((((d7.after 2).after 3).below 12:Nat):Int):Int)=1))
 (lt (d72.after ([s_,fC,s_A]:LB).length) (fun d76=>
 lt (d72.pick ([s_,fC,s_A]:LB)) (fun y78=>
 some ((aP.mk y78 v67 false (decide (d3.below 3=0)) v55),d76))))
 (sw (decide ((((((d7.after 2).after 3).below 12:Nat):Int):Int)=4))
 (gd ((v67).length+(([l6]:LB)).length≤68719476736)
 (some ((aP.mk y5 (v67++([l6]:LB)) false (decide (d3.below 3=0)) v55),d72)))
 (sw (decide ((((((d7.after 2).after 3).below 12:Nat):Int):Int)=5))
 (gd (0<(v55).length)
 (lt (aW v55 0) (fun y84=>
 gd ((v55).length+(([y84]:List aC)).length≤68719476736)
 (some ((aP.mk y5 v67 false (decide (d3.below 3=0)) (v55++([y84]:List aC))),d72)))))
 (some ((aP.mk y5 v67 false (decide (d3.below 3=0)) v55),d72))))))))))))))
theorem aaK(fu:Nat):aeO (F7 fu):=by
 intro pq0 r H
 have H:=eE H
 refine qI func167 (fun C hC=>?_)
 refine qW (q1 (fO r3) (qN (qW (bI H fun x2 z1 H=>(q1 (bG func118 (lS (kT fu) dH _ z1)) (q1 (fO jN) (q1 (bR jE) (qN (qW (q1 aE ?_))))))))))
 refine q1 (uN ([bH,wE,kS]:LB) b3 lU) (fP H fun d3 h4 H=>(fP H fun y5 h6 H=>(q1 (iF [0] [] func86 (Q7 h4 h6 (iE pq0 ([bH,wE,kS]:LB) (by decide)))) (q1 aE (fP H fun d7 h8 H=>(q1 (iF [0] [] func112 (BG h8 (nB d3 3))) (bI H fun x10 z9 H=>(q1 (bG func147 (rL fu _ z9)) (q1 (gW sI YC) ?_)))))))))
 rcases mA (decide ((((((d7.after 2).after 3).below 12:Nat):Int):Int)=2)||decide ((((((d7.after 2).after 3).below 12:Nat):Int):Int)=3)) with g11|g11
 ·have H:=sE H g11
  rcases mA (decide (d7.below 2=0)) with g12|g12
  ·have H:=sE H g12
   refine q1 (a3.buildSliceB (cs:= [pS fD,.nil,pI x10.gKind,pS x10.gName,a7 x10.gArgs,pB false,.nil,pI 0,pS s_,pS s_,pI 0,pI 0,pS s_,.nil,.nil,.nil]) rfl rfl pT sI rfl rfl rfl (by decide) rfl (by decide)) (q1 (gW r3 ZS) (q1 (fO r3) (q1 (bR pL) (qN ?_))))
   refine qS (qS (qR (q1 aE (fP H fun d13 h14 H=>?_))))
   have g15:=g11
   rw [← h14] at g15
   refine q1 (iF [0] [] func112 (BG h14 (nB d7 2))) (qN (eL g12 (bI H fun x17 z16 H=>(bI H fun x19 z18 H=>(bI H fun x21 z20 H=>?_)))))
   refine aR.wk (Wk.freezeE (k:=3) (sz:=16) (es:= [aC.cs (aC.mk fD [] x10 false [] (aG.mk 0 s_ s_ 0 (aB.mk 0 s_ []) [] []))]) (es':=aC.trs (([(aC.mk fD [] x10 false [] (aG.mk 0 s_ s_ 0 (aB.mk 0 s_ []) [] []))]:List aC))) (s':=⟨[(0,.ptr 0 0),(2,.ptr 1 0),(3,.ptr 2 0),(4,.ptr 4 0),(5,(aB.pv x2)),(6,.ptr 0 0),(7,.lit 1 (aZ (([bH,wE,kS]:LB)))),(8,pS y5),(9,.ptr 0 0),(10,pB (decide (d3.below 3=0))),(11,(aB.pv x10)),(12,.agg [pS fD,.nil,pI x10.gKind,pS x10.gName,a7 x10.gArgs,pB false,.nil,pI 0,pS s_,pS s_,pI 0,pI 0,pS s_,.nil,.nil,.nil]),(13,.lit 16 (aC.trs (([(aC.mk fD [] x10 false [] (aG.mk 0 s_ s_ 0 (aB.mk 0 s_ []) [] []))]:List aC)))),(14,.agg [pS y5,.nil,pB false,pB (decide (d3.below 3=0)),.lit 16 (aC.trs (([(aC.mk fD [] x10 false [] (aG.mk 0 s_ s_ 0 (aB.mk 0 s_ []) [] []))]:List aC)))]),(15,.ptr 0 0),(16,pB (decide (d7.below 2=0)))],⟨[some ⟨151,dC d13⟩,some ⟨60,[pS s_,.nil,pB false,pB false,.nil]⟩,some ⟨35,eD x2⟩,none,some ⟨60,[pS y5,.nil,pB false,pB (decide (d3.below 3=0)),.lit 16 (aC.trs (([(aC.mk fD [] x10 false [] (aG.mk 0 s_ s_ 0 (aB.mk 0 s_ []) [] []))]:List aC)))]⟩],[]⟩⟩) (by simp [aC.trs_map,aC.tr_cs]) rfl iX (by simp [aC.cs]) (Nat.le_of_ble_eq_true rfl) ⟨⟨rfl,d9,rfl⟩,⟨⟨rfl,d9,rfl⟩,⟨⟨rfl,d9,rfl⟩,⟨⟨rfl,d9,rfl⟩,trivial⟩⟩⟩⟩ rfl rfl (e9 hC (lG rfl) (Nat.le_of_ble_eq_true rfl)) (by repeat' first|exact trivial|refine⟨⟨_,rfl,d9,rfl⟩,?_⟩)) ?_;refine dK H fun z22 H=>(dW (dI [4] (a5 iV) (dD [17] (bD w9) (dD [3] (cJ [pI x2.gKind,pS x2.gName,a7 x2.gArgs] cU) (dI [19] (uN ([x2]:List aB) eU jN) (dI [] (bG func147 (rL fu _ z9)) (dI [] (uN ([eP,rF]:LB) b3 lU) (dI [4] (a5 C8) (dD [23] (bD eJ) (dI [] (bG func157 (zR fu eP _ z16)) (dI [25] (uN ([x17]:List aG) jZ kL) (dI [24,26] (gW kL zM) (dI [] (bG func159 (u7 fu 1 _ z18)) ?_)))))))))))))
   refine dI [27,28] (uN ([(aG.mk 5 y5 fD 0 (aB.mk 0 s_ []) ([x17]:List aG) []),x19]:List aG) jZ kL) (dI [29] (bG func158 (u9 fu 10 AC ([(aG.mk 5 y5 fD 0 (aB.mk 0 s_ []) ([x17]:List aG) []),x19]:List aG) _ z20)) (dI [20,21,22,30] (gW sI YC) (dI [31] (uN ([(aC.mk fY ([x2]:List aB) x10 true ([eP,rF]:LB) x21)]:List aC) pT sI) ?_)))
   refine dE [18,32] (a3.appendLitBE (es1:=aC.trs (([(aC.mk fD [] x10 false [] (aG.mk 0 s_ s_ 0 (aB.mk 0 s_ []) [] []))]:List aC))) (es2:=aC.trs (([(aC.mk fY ([x2]:List aB) x10 true ([eP,rF]:LB) x21)]:List aC))) (es3:= [aC.cs (aC.mk fD [] x10 false [] (aG.mk 0 s_ s_ 0 (aB.mk 0 s_ []) [] [])),aC.cs (aC.mk fY ([x2]:List aB) x10 true ([eP,rF]:LB) x21)]) (cs:= [pS fD,a7 [],pI x10.gKind,pS x10.gName,a7 x10.gArgs,pB false,rS [],pI 0,pS s_,pS s_,pI 0,pI 0,pS s_,a7 [],eB [],g0 [],pS fY,a7 ([x2]:List aB),pI x10.gKind,pS x10.gName,a7 x10.gArgs,pB true,rS ([eP,rF]:LB),pI x21.gKind,pS x21.gTrait,pS x21.gName,pI x21.gN,pI x21.gType.gKind,pS x21.gType.gName,a7 x21.gType.gArgs,eB x21.gArgs,g0 x21.gArms]) rfl rfl rfl rfl rfl (fun e he=>by rw [aC.trs_map] at he;obtain⟨x,_,rfl⟩:=List.mem_map.1 he;rw [aC.tr_cs];rfl) (fun e he=>by rw [aC.trs_map] at he;obtain⟨x,_,rfl⟩:=List.mem_map.1 he;rw [aC.tr_cs];rfl) (by rw [aC.trs_map];exact List.cons_ne_nil _ _) (by decide) pT aoU (by decide) (by rw [aC.trs_len,aC.trs_len];exact AN z22 (by decide)) (by simp [aC.trs_map,aC.tr_cs]) rfl rfl) ?_;refine dI [4] (a5 iV) (lH [34,33] (bR aoN) (dN (qS ?_)))
   refine rR (σ:=(LB)) (fun v23=>⟨[(0,.ptr 0 0),(2,.ptr 1 0),(4,.ptr 4 0)],⟨[some ⟨151,dC (d13.after 3)⟩,some ⟨60,[pS s_,.nil,pB false,pB false,.nil]⟩,some ⟨35,eD x2⟩,none,some ⟨60,[pS y5,.lit 1 (aZ (v23)),pB false,pB (decide (d3.below 3=0)),.gsl 5 2]⟩,some ⟨164,[pS fD,a7 [],pI x10.gKind,pS x10.gName,a7 x10.gArgs,pB false,rS [],pI 0,pS s_,pS s_,pI 0,pI 0,pS s_,a7 [],eB [],g0 [],pS fY,a7 ([x2]:List aB),pI x10.gKind,pS x10.gName,a7 x10.gArgs,pB true,rS ([eP,rF]:LB),pI x21.gKind,pS x21.gTrait,pS x21.gName,pI x21.gN,pI x21.gType.gKind,pS x21.gType.gName,a7 x21.gType.gArgs,eB x21.gArgs,g0 x21.gArms]⟩],[]⟩⟩) (fK H) (fun H=>?_) ?_
   ·refine qW (q1 aE (fP H fun d24 h25 H=>?_))
    have g26:=g15
    rw [← h25] at g26
    refine q1 (iF [0] [] func112 (BG h25 (nB d13 3))) (qN ?_)
    refine a8 H (fun h27 H=>?_) (fun h27 H=>?_)
    ·refine qR (q1 (uN ([l6]:LB) b3 lU) (q1 (a5 C9) (q1 (bR SU) (qN ?_))))
     subst h25
     exact dY ⟨_,(aX H:),bW⟩
    refine aR.skip ?_
    subst h25
    exact dY ⟨_,(aX H:),bW⟩
   rintro v23 H
   refine qS (qS (qR (q1 aE (fP H fun d28 h29 H=>(q1 (iF [0] [] func103 (BG h29 (eQ (d13.after 3) 12))) (qN (aR.block (qW (q1 dM (q1 aE (qN (jR (ajO (b:=0) g15 (by decide) (by decide)) (qS (qR ?_))))))))))))))
   refine q1 dM (q1 aE (qN (jR (ajO (b:=1) g15 (by decide) (by decide)) (qW (q1 dM (q1 aE (qN ?_)))))))
   refine a8 H (fun h30 H=>?_) (fun h30 H=>?_)
   ·refine fP H fun d31 h32 H=>(fP H fun y33 h34 H=>(bI H fun x36 z35 H=>(dW (dI [4] (a5 iV) (dB [52] 0 1 (wL w9) (dI [0] aE (dI [] (uN ([dH,E0]:LB) b3 lU) (dE [54,55] (iF [0] [] func86 (Q7 h32 h34 (iE d28 ([dH,E0]:LB) (by decide)))) (dI [56] (bG func118 (lS (kT fu) y33 _ z35)) (dI [53] (a3.indexG (sz:=16) (k:=5) (N:=2) (i:=0) rfl rfl rfl rfl (by decide) pT) (dI [58] (a5 GS) (lH [59,57] (bR jE) (dN ?_)))))))))))))
    refine qS (qR ?_)
    refine AL.weak (Wk.freezeE (k:=5) (sz:=16) (es:= [aC.cs (aC.mk fD ([]) x36 false ([]) (aG.mk 0 s_ s_ 0 (aB.mk 0 s_ ([])) ([]) ([]))),aC.cs (aC.mk fY ([x2]:List aB) x10 true ([eP,rF]:LB) x21)]) (es':=aC.trs (([(aC.mk fD ([]) x36 false ([]) (aG.mk 0 s_ s_ 0 (aB.mk 0 s_ ([])) ([]) ([]))),(aC.mk fY ([x2]:List aB) x10 true ([eP,rF]:LB) x21)]:List aC))) (s':=⟨[(0,.ptr 0 0),(2,.ptr 1 0),(4,.ptr 4 0),(40,pN ((d13.after 3).below 12))],⟨[some ⟨151,dC d31⟩,some ⟨60,[pS s_,.nil,pB false,pB false,.nil]⟩,some ⟨35,eD x2⟩,none,some ⟨60,[pS y5,.lit 1 (aZ (v23)),pB false,pB (decide (d3.below 3=0)),c4 ([(aC.mk fD ([]) x36 false ([]) (aG.mk 0 s_ s_ 0 (aB.mk 0 s_ ([])) ([]) ([]))),(aC.mk fY ([x2]:List aB) x10 true ([eP,rF]:LB) x21)]:List aC)]⟩,none],[]⟩⟩) (by simp [aC.trs_map,aC.tr_cs]) rfl iX (by simp [aC.cs]) (Nat.le_of_ble_eq_true rfl) ⟨⟨rfl,d9,rfl⟩,⟨⟨rfl,d9,rfl⟩,⟨⟨rfl,d9,rfl⟩,⟨⟨rfl,d9,rfl⟩,trivial⟩⟩⟩⟩ rfl rfl (e9 hC (lG rfl) (Nat.le_of_ble_eq_true rfl)) (by repeat' first|exact trivial|refine⟨⟨_,rfl,d9,rfl⟩,?_⟩)) ?_;refine q1 (cJ [pS y5,.lit 1 (aZ (v23)),pB false,pB (decide (d3.below 3=0)),c4 ([(aC.mk fD ([]) x36 false ([]) (aG.mk 0 s_ s_ 0 (aB.mk 0 s_ ([])) ([]) ([]))),(aC.mk fY ([x2]:List aB) x10 true ([eP,rF]:LB) x21)]:List aC)] l9) (q1 (bR pL) (qZ ?_))
    cases aX H
    exact bE (hr:=⟨⟨_,_,_,rfl,rfl,l9,rfl,rfl⟩,trivial⟩)
   refine qW (q1 dM (q1 aE (qN (eL (ap4 g15 h30) (qR (q1 (a5 iV) (q1 (bD w9) (q1 (a3.indexG (sz:=16) (k:=5) (N:=2) (i:=0) rfl rfl rfl rfl (by decide) pT) (q1 (a5 L2) (q1 (bR sz4) (qN (qS ?_))))))))))))
   refine qR ?_;refine AL.weak (Wk.freezeE (k:=5) (sz:=16) (es:= [aC.cs (aC.mk fD ([]) x10 true ([]) (aG.mk 0 s_ s_ 0 (aB.mk 0 s_ ([])) ([]) ([]))),aC.cs (aC.mk fY ([x2]:List aB) x10 true ([eP,rF]:LB) x21)]) (es':=aC.trs (([(aC.mk fD ([]) x10 true ([]) (aG.mk 0 s_ s_ 0 (aB.mk 0 s_ ([])) ([]) ([]))),(aC.mk fY ([x2]:List aB) x10 true ([eP,rF]:LB) x21)]:List aC))) (s':=⟨[(0,.ptr 0 0),(2,.ptr 1 0),(4,.ptr 4 0),(40,pN ((d13.after 3).below 12))],⟨[some ⟨151,dC d28⟩,some ⟨60,[pS s_,.nil,pB false,pB false,.nil]⟩,some ⟨35,eD x2⟩,none,some ⟨60,[pS y5,.lit 1 (aZ (v23)),pB false,pB (decide (d3.below 3=0)),c4 ([(aC.mk fD ([]) x10 true ([]) (aG.mk 0 s_ s_ 0 (aB.mk 0 s_ ([])) ([]) ([]))),(aC.mk fY ([x2]:List aB) x10 true ([eP,rF]:LB) x21)]:List aC)]⟩,none],[]⟩⟩) (by simp [aC.trs_map,aC.tr_cs]) rfl iX (by simp [aC.cs]) (Nat.le_of_ble_eq_true rfl) ⟨⟨rfl,d9,rfl⟩,⟨⟨rfl,d9,rfl⟩,⟨⟨rfl,d9,rfl⟩,⟨⟨rfl,d9,rfl⟩,trivial⟩⟩⟩⟩ rfl rfl (e9 hC (lG rfl) (Nat.le_of_ble_eq_true rfl)) (by repeat' first|exact trivial|refine⟨⟨_,rfl,d9,rfl⟩,?_⟩)) ?_;refine q1 (cJ [pS y5,.lit 1 (aZ (v23)),pB false,pB (decide (d3.below 3=0)),c4 ([(aC.mk fD ([]) x10 true ([]) (aG.mk 0 s_ s_ 0 (aB.mk 0 s_ ([])) ([]) ([]))),(aC.mk fY ([x2]:List aB) x10 true ([eP,rF]:LB) x21)]:List aC)] l9) (q1 (bR pL) (qZ ?_))
   cases aX H
   exact bE (hr:=⟨⟨_,_,_,rfl,rfl,l9,rfl,rfl⟩,trivial⟩)
  have H:=sD H g12
  refine q1 (a3.buildSliceB (cs:= [pS fD,.nil,pI x10.gKind,pS x10.gName,a7 x10.gArgs,pB false,.nil,pI 0,pS s_,pS s_,pI 0,pI 0,pS s_,.nil,.nil,.nil]) rfl rfl pT sI rfl rfl rfl (by decide) rfl (by decide)) (q1 (gW r3 ZS) (q1 (fO r3) (q1 (bR pL) (qN ?_))))
  refine qS (qS (qR (q1 aE (fP H fun d37 h38 H=>?_))))
  have g39:=g11
  rw [← h38] at g39
  refine q1 (iF [0] [] func112 (BG h38 (nB d7 2))) (qN (jR g12 (aR.skip (qS ?_))))
  refine rR (σ:=(LB)) (fun v40=>⟨[(0,.ptr 0 0),(2,.ptr 1 0),(4,.ptr 4 0)],⟨[some ⟨151,dC (d37.after 3)⟩,some ⟨60,[pS s_,.nil,pB false,pB false,.nil]⟩,some ⟨35,eD x2⟩,some ⟨164,[pS fD,.nil,pI x10.gKind,pS x10.gName,a7 x10.gArgs,pB false,.nil,pI 0,pS s_,pS s_,pI 0,pI 0,pS s_,.nil,.nil,.nil]⟩,some ⟨60,[pS y5,.lit 1 (aZ (v40)),pB false,pB (decide (d3.below 3=0)),.bsl 3 1]⟩],[]⟩⟩) (fK H) (fun H=>?_) ?_
  ·refine qW (q1 aE (fP H fun d41 h42 H=>?_))
   have g43:=g39
   rw [← h42] at g43
   refine q1 (iF [0] [] func112 (BG h42 (nB d37 3))) (qN ?_)
   refine a8 H (fun h44 H=>?_) (fun h44 H=>?_)
   ·refine qR (q1 (uN ([l6]:LB) b3 lU) (q1 (a5 C9) (q1 (bR SU) (qN ?_))))
    subst h42
    exact dY ⟨_,(aX H:),bW⟩
   refine aR.skip ?_
   subst h42
   exact dY ⟨_,(aX H:),bW⟩
  rintro v40 H
  refine qS (qS (qR (q1 aE (fP H fun d45 h46 H=>(q1 (iF [0] [] func103 (BG h46 (eQ (d37.after 3) 12))) (qN (aR.block (qW (q1 dM (q1 aE (qN (jR (ajO (b:=0) g39 (by decide) (by decide)) (qS (qR ?_))))))))))))))
  refine q1 dM (q1 aE (qN (jR (ajO (b:=1) g39 (by decide) (by decide)) (qW (q1 dM (q1 aE (qN ?_)))))))
  refine a8 H (fun h47 H=>?_) (fun h47 H=>?_)
  ·refine fP H fun d48 h49 H=>(fP H fun y50 h51 H=>(bI H fun x53 z52 H=>(dW (dI [4] (a5 iV) (dB [52] 0 1 (wL w9) (dI [0] aE (dI [] (uN ([dH,E0]:LB) b3 lU) (dE [54,55] (iF [0] [] func86 (Q7 h49 h51 (iE d45 ([dH,E0]:LB) (by decide)))) (dI [56] (bG func118 (lS (kT fu) y50 _ z52)) (dI [53] (a3.indexB (sz:=16) (k:=3) (N:=1) (i:=0) rfl rfl rfl rfl (by decide) pT) (dI [58] (a5 GS) (lH [59,57] (bR jE) (dN ?_)))))))))))))
   refine qS (qR ?_)
   refine AL.weak (Wk.freezeE (k:=3) (sz:=16) (es:= [aC.cs (aC.mk fD [] x53 false [] (aG.mk 0 s_ s_ 0 (aB.mk 0 s_ []) [] []))]) (es':=aC.trs (([(aC.mk fD [] x53 false [] (aG.mk 0 s_ s_ 0 (aB.mk 0 s_ []) [] []))]:List aC))) (s':=⟨[(0,.ptr 0 0),(2,.ptr 1 0),(4,.ptr 4 0),(40,pN ((d37.after 3).below 12))],⟨[some ⟨151,dC d48⟩,some ⟨60,[pS s_,.nil,pB false,pB false,.nil]⟩,some ⟨35,eD x2⟩,none,some ⟨60,[pS y5,.lit 1 (aZ (v40)),pB false,pB (decide (d3.below 3=0)),c4 ([(aC.mk fD [] x53 false [] (aG.mk 0 s_ s_ 0 (aB.mk 0 s_ []) [] []))]:List aC)]⟩],[]⟩⟩) (by simp [aC.trs_map,aC.tr_cs]) rfl iX (by simp [aC.cs]) (Nat.le_of_ble_eq_true rfl) ⟨⟨rfl,d9,rfl⟩,⟨⟨rfl,d9,rfl⟩,⟨⟨rfl,d9,rfl⟩,⟨⟨rfl,d9,rfl⟩,trivial⟩⟩⟩⟩ rfl rfl (e9 hC (lG rfl) (Nat.le_of_ble_eq_true rfl)) (by repeat' first|exact trivial|refine⟨⟨_,rfl,d9,rfl⟩,?_⟩)) ?_;refine q1 (cJ [pS y5,.lit 1 (aZ (v40)),pB false,pB (decide (d3.below 3=0)),c4 ([(aC.mk fD [] x53 false [] (aG.mk 0 s_ s_ 0 (aB.mk 0 s_ []) [] []))]:List aC)] l9) (q1 (bR pL) (qZ ?_))
   cases aX H
   exact bE (hr:=⟨⟨_,_,_,rfl,rfl,l9,rfl,rfl⟩,trivial⟩)
  refine qW (q1 dM (q1 aE (qN (eL (ap4 g39 h47) (qR (q1 (a5 iV) (q1 (bD w9) (q1 (a3.indexB (sz:=16) (k:=3) (N:=1) (i:=0) rfl rfl rfl rfl (by decide) pT) (q1 (a5 L2) (q1 (bR sz4) (qN (qS ?_))))))))))))
  refine qR ?_;refine AL.weak (Wk.freezeE (k:=3) (sz:=16) (es:= [aC.cs (aC.mk fD [] x10 true [] (aG.mk 0 s_ s_ 0 (aB.mk 0 s_ []) [] []))]) (es':=aC.trs (([(aC.mk fD [] x10 true [] (aG.mk 0 s_ s_ 0 (aB.mk 0 s_ []) [] []))]:List aC))) (s':=⟨[(0,.ptr 0 0),(2,.ptr 1 0),(4,.ptr 4 0),(40,pN ((d37.after 3).below 12))],⟨[some ⟨151,dC d45⟩,some ⟨60,[pS s_,.nil,pB false,pB false,.nil]⟩,some ⟨35,eD x2⟩,none,some ⟨60,[pS y5,.lit 1 (aZ (v40)),pB false,pB (decide (d3.below 3=0)),c4 ([(aC.mk fD [] x10 true [] (aG.mk 0 s_ s_ 0 (aB.mk 0 s_ []) [] []))]:List aC)]⟩],[]⟩⟩) (by simp [aC.trs_map,aC.tr_cs]) rfl iX (by simp [aC.cs]) (Nat.le_of_ble_eq_true rfl) ⟨⟨rfl,d9,rfl⟩,⟨⟨rfl,d9,rfl⟩,⟨⟨rfl,d9,rfl⟩,⟨⟨rfl,d9,rfl⟩,trivial⟩⟩⟩⟩ rfl rfl (e9 hC (lG rfl) (Nat.le_of_ble_eq_true rfl)) (by repeat' first|exact trivial|refine⟨⟨_,rfl,d9,rfl⟩,?_⟩)) ?_;refine q1 (cJ [pS y5,.lit 1 (aZ (v40)),pB false,pB (decide (d3.below 3=0)),c4 ([(aC.mk fD [] x10 true [] (aG.mk 0 s_ s_ 0 (aB.mk 0 s_ []) [] []))]:List aC)] l9) (q1 (bR pL) (qZ ?_))
  cases aX H
  exact bE (hr:=⟨⟨_,_,_,rfl,rfl,l9,rfl,rfl⟩,trivial⟩)
 have H:=sD H g11
 refine q1 (uK ([(aC.mk fD [] x10 false [] (aG.mk 0 s_ s_ 0 (aB.mk 0 s_ []) [] []))]:List aC) pT sI) (q1 (gW r3 ZS) (q1 (fO r3) (q1 (bR pL) (qN (qS ?_)))))
 refine rR (σ:=(List aC)) (fun v55=>⟨[(0,.ptr 0 0),(2,.ptr 1 0),(4,.ptr 3 0)],⟨[some ⟨151,dC (d7.after 2)⟩,some ⟨60,[pS s_,.nil,pB false,pB false,.nil]⟩,some ⟨35,eD x2⟩,some ⟨60,[pS y5,.nil,pB false,pB (decide (d3.below 3=0)),lV v55 0]⟩],[⟨164,16,aC.trs (v55),false⟩]⟩⟩) (fK H) (fun H=>?_) ?_
 ·refine qW (q1 aE (fP H fun d56 h57 H=>?_))
  have g58:=g11
  rw [← h57] at g58
  refine q1 (iF [0] [] func112 (BG h57 (nB d7 2))) (qN ?_)
  refine a8 H (fun h59 H=>?_) (fun h59 H=>?_)
  ·refine bI H fun x61 z60 H=>(bI H fun x63 z62 H=>(bI H fun x65 z64 H=>(dK H fun z66 H=>(dW (dI [4] (a5 iV) (dD [17] (bD w9) (dD [3] (cJ [pI x2.gKind,pS x2.gName,a7 x2.gArgs] cU) (dI [19] (uN ([x2]:List aB) eU jN) (dI [] (bG func147 (rL fu _ z9)) (dI [] (uN ([eP,rF]:LB) b3 lU) (dI [4] (a5 C8) (dD [23] (bD eJ) (dI [] (bG func157 (zR fu eP _ z60)) ?_)))))))))))))
   refine dI [25] (uN ([x61]:List aG) jZ kL) (dI [24,26] (gW kL zM) (dI [] (bG func159 (u7 fu 1 _ z62)) (dI [27,28] (uN ([(aG.mk 5 y5 fD 0 (aB.mk 0 s_ []) ([x61]:List aG) []),x63]:List aG) jZ kL) (dI [29] (bG func158 (u9 fu 10 AC ([(aG.mk 5 y5 fD 0 (aB.mk 0 s_ []) ([x61]:List aG) []),x63]:List aG) _ z64)) (dI [20,21,22,30] (gW sI YC) (dI [31] (uN ([(aC.mk fY ([x2]:List aB) x10 true ([eP,rF]:LB) x65)]:List aC) pT sI) (dE [18,32] (nV z66 pT aoU) (dI [4] (a5 iV) (lH [34,33] (bR aoN) (dN ?_))))))))))
   subst h57
   exact dY ⟨_,(aX H:),bW⟩
  refine aR.skip ?_
  subst h57
  exact dY ⟨_,(aX H:),bW⟩
 rintro v55 H
 refine qS ?_;refine rR (σ:=(LB)) (fun v67=>⟨[(0,.ptr 0 0),(2,.ptr 1 0),(4,.ptr 3 0)],⟨[some ⟨151,dC ((d7.after 2).after 3)⟩,some ⟨60,[pS s_,.nil,pB false,pB false,.nil]⟩,some ⟨35,eD x2⟩,some ⟨60,[pS y5,.lit 1 (aZ (v67)),pB false,pB (decide (d3.below 3=0)),lV v55 0]⟩],[⟨164,16,aC.trs (v55),false⟩]⟩⟩) (fK H) (fun H=>?_) ?_
 ·refine qW (q1 aE (fP H fun d68 h69 H=>?_))
  have g70:=g11
  rw [← h69] at g70
  refine q1 (iF [0] [] func112 (BG h69 (nB (d7.after 2) 3))) (qN ?_)
  refine a8 H (fun h71 H=>?_) (fun h71 H=>?_)
  ·refine qR (q1 (uN ([l6]:LB) b3 lU) (q1 (a5 C9) (q1 (bR SU) (qN ?_))))
   subst h69
   exact dY ⟨_,(aX H:),bW⟩
  refine aR.skip ?_
  subst h69
  exact dY ⟨_,(aX H:),bW⟩
 rintro v67 H
 refine qS (qS (qR (q1 aE (fP H fun d72 h73 H=>(q1 (iF [0] [] func103 (BG h73 (eQ ((d7.after 2).after 3) 12))) (qN (aR.block (qW (q1 dM (q1 aE (qN ?_)))))))))))
 refine a8 H (fun h74 H=>?_) (fun h74 H=>?_)
 ·refine qR (q1 (a5 agI) (q1 (bR sz4) (qN (qW (q1 (cJ [pS y5,.lit 1 (aZ (v67)),pB true,pB (decide (d3.below 3=0)),lV v55 0] l9) (q1 (bR pL) (qZ ?_)))))))
  cases aX H
  exact bE (hr:=⟨⟨_,_,_,rfl,rfl,l9,rfl,rfl⟩,trivial⟩)
 refine qW (q1 dM (q1 aE (qN ?_)))
 refine a8 H (fun h75 H=>?_) (fun h75 H=>?_)
 ·refine qR (q1 aE (q1 (uN ([s_,fC,s_A]:LB) b3 lU) (fP H fun d76 h77 H=>(fP H fun y78 h79 H=>(q1 (iF [0] [] func86 (Q7 h77 h79 (iE d72 ([s_,fC,s_A]:LB) (by decide)))) (q1 (a5 C8) (q1 (bR sz9) (qN (qW (q1 (cJ [pS y78,.lit 1 (aZ (v67)),pB false,pB (decide (d3.below 3=0)),lV v55 0] l9) (q1 (bR pL) (qN ?_))))))))))))
  refine aR.ret ?_
  cases aX H
  exact bE (hr:=⟨⟨_,_,_,rfl,rfl,l9,rfl,rfl⟩,trivial⟩)
 refine qW (q1 dM (q1 aE (qN (jR (ar5 g11) (qW (q1 dM (q1 aE (qN (jR (ar6 g11) (qS (qR ?_)))))))))))
 refine q1 dM (q1 aE (qN ?_))
 refine a8 H (fun h80 H=>?_) (fun h80 H=>?_)
 ·refine qR (q1 (a5 C9) (q1 (bD kZ) (q1 (uN ([l6]:LB) b3 lU) (dK H fun z81 H=>?_))))
  refine q1 (a3.appendLit (es1:=aZ (v67)) (es2:=aZ (([l6]:LB))) (es3:=aZ (v67++([l6]:LB))) rfl rfl rfl rfl rfl (qJ _) (qJ _) (by exact List.cons_ne_nil _ _) (by decide) b3 tR (by decide) (by rw [bC,bC];exact AN z81 (by decide)) (vU _ _)) ?_;refine q1 (a5 C9) (q1 (bR SU) (qN (qW (q1 (cJ [pS y5,rS (v67++([l6]:LB)),pB false,pB (decide (d3.below 3=0)),lV v55 0] l9) (q1 (bR pL) (qZ ?_))))))
  cases aX H
  exact bE (hr:=⟨⟨_,_,_,rfl,rfl,l9,rfl,rfl⟩,trivial⟩)
 refine qW (q1 dM (q1 aE (qN ?_)))
 refine a8 H (fun h82 H=>?_) (fun h82 H=>?_)
 ·refine dK H fun z83 H=>(fP H fun y84 h85 H=>(dK H fun z86 H=>(dW (dI [4] (a5 iV) (dD [75] (bD w9) (dI [4] (a5 iV) (dD [77] (bD w9) (dI [78] (m9 h85 z83 pT) (dI [79] (kM (aC.cs y84) CP) (dI [80] (uN ([y84]:List aC) pT sI) (dE [76,81] (nV z86 pT aoU) (dI [4] (a5 iV) (lH [83,82] (bR aoN) ?_)))))))))))))
  refine dN (qW (q1 (cJ [pS y5,.lit 1 (aZ (v67)),pB false,pB (decide (d3.below 3=0)),lV (v55++([y84]:List aC)) 0] l9) (q1 (bR pL) (qZ ?_))))
  cases aX H
  exact bE (hr:=⟨⟨_,_,_,rfl,rfl,l9,rfl,rfl⟩,trivial⟩)
 refine aR.skip (qW (q1 (cJ [pS y5,.lit 1 (aZ (v67)),pB false,pB (decide (d3.below 3=0)),lV v55 0] l9) (q1 (bR pL) (qZ ?_))))
 cases aX H
 exact bE (hr:=⟨⟨_,_,_,rfl,rfl,l9,rfl,rfl⟩,trivial⟩)
def ahI(m:DS→Option (aH×DS)):Prop:= ∀(pc:DS) (r:aH×DS),m pc=some r→c6 Tryz.prog 168 [.ptr 0 0] ⟨[some ⟨151,dC pc⟩],[]⟩ (fun q t=>q=((aH.pv r.1):PV)∧t=⟨[some ⟨151,dC r.2⟩],[]⟩)
def LA(fu:Nat)(pc:DS):Option (aH×DS):=
 bd (nS fu hU) (fun x2=>
 bd (jQ fu cS ([x2]:List aB)) (fun x4=>
 lt (pc.after 10) (fun d5=>
 sw (decide ((pc.below 10:Int)=0))
 (lt (d5.after ([hU,E0]:LB).length) (fun d8=>
 lt (d5.pick ([hU,E0]:LB)) (fun y10=>
 gd ((([hU]:LB)).length+(([y10]:LB)).length≤68719476736)
 (some ((aH.mk cS (([hU]:LB)++([y10]:LB)) ([(aD.mk gJ []),(aD.mk cK ([x2,x4]:List aB))]:List aD)),d8)))))
 (sw (decide ((pc.below 10:Int)=1))
 (lt (d5.after 2) (fun d14=>
 gd ((0:Int)≤0∧(0:Int)≤(d5.below 2:Int)∧(d5.below 2:Int)≤((([(aD.mk gJ []),(aD.mk cK ([x2,x4]:List aB))]:List aD).length:Nat):Int))
 (some ((aH.mk cS ([hU]:LB) (List.drop (0:Int).toNat (List.take (d5.below 2:Int).toNat ([(aD.mk gJ []),(aD.mk cK ([x2,x4]:List aB))]:List aD)))),d14))))
 (sw (decide ((pc.below 10:Int)=2))
 (bd (tO fu d5 2) (fun(x19,x20)=>
 some ((aH.mk cS ([hU]:LB) ([(aD.mk gJ ([x19]:List aB)),(aD.mk cK ([x2,x4]:List aB))]:List aD)),x20)))
 (sw (decide ((pc.below 10:Int)=3))
 (lt (d5.after ([cK,s_,VF]:LB).length) (fun d22=>
 lt (d5.pick ([cK,s_,VF]:LB)) (fun y24=>
 some ((aH.mk cS ([hU]:LB) ([(aD.mk y24 []),(aD.mk cK ([x2,x4]:List aB))]:List aD)),d22))))
 (some ((aH.mk cS ([hU]:LB) ([(aD.mk gJ []),(aD.mk cK ([x2,x4]:List aB))]:List aD)),d5))))))))
theorem aeJ(fu:Nat):ahI (LA fu):=by
 intro pc r H
 have H:=eE H
 refine qI func168 (fun C hC=>?_)
 refine qW (q1 (fO jF) (qN (qW (q1 (uN ([hU]:LB) b3 lU) (q1 (gW V9 anS) (bI H fun x2 z1 H=>?_))))))
 iterate 2 refine q1 (bG func118 (lS (kT fu) hU _ z1)) ?_
 refine q1 (uN ([x2]:List aB) eU jN) (bI H fun x4 z3 H=>(q1 (bG func85 (yO (jI fu) cS ([x2]:List aB) _ z3)) (q1 (uN ([x2,x4]:List aB) eU jN) (q1 (gW V9 anS) (q1 (a3.buildSliceB (cs:= [pS gJ,.nil,pS cK,.lit 3 (aB.trs (([x2,x4]:List aB)))]) rfl rfl lW V9 rfl rfl rfl (by decide) rfl (by decide)) (q1 (gW jF MX) (q1 (fO jF) (q1 (bR iH) (qN ?_)))))))))
 refine qS (qS (qR (q1 aE (fP H fun d5 h6 H=>(q1 (iF [0] [] func103 (BG h6 (eQ pc 10))) (qN (aR.block (qW (q1 dM (q1 aE (qN ?_)))))))))))
 refine a8 H (fun h7 H=>?_) (fun h7 H=>?_)
 ·refine fP H fun d8 h9 H=>(fP H fun y10 h11 H=>(dK H fun z12 H=>(dW (dI [3] (a5 C6) (dB [18] 0 1 (wL kZ) (dI [0] aE (dI [] (uN ([hU,E0]:LB) b3 lU) (dE [20,21] (iF [0] [] func86 (Q7 h9 h11 (iE d5 ([hU,E0]:LB) (by decide)))) (dI [22] (uN ([y10]:LB) b3 lU) ?_)))))))))
  refine dI [19,23] (a3.appendLit (es1:=aZ (([hU]:LB))) (es2:=aZ (([y10]:LB))) (es3:=aZ (([hU]:LB)++([y10]:LB))) rfl rfl rfl rfl rfl (qJ _) (qJ _) (by exact List.cons_ne_nil _ _) (by decide) b3 tR (by decide) (by rw [bC,bC];exact AN z12 (by decide)) (vU _ _)) ?_;refine dI [3] (a5 C6) (lH [25,24] (bR SU) (dN (qS (qR ?_))))
  refine AL.weak (Wk.freezeE (k:=2) (sz:=2) (es:= [aD.cs (aD.mk gJ []),aD.cs (aD.mk cK ([x2,x4]:List aB))]) (es':=aD.trs (([(aD.mk gJ []),(aD.mk cK ([x2,x4]:List aB))]:List aD))) (s':=⟨[(0,.ptr 0 0),(2,.ptr 1 0),(3,.ptr 3 0),(15,pN (pc.below 10))],⟨[some ⟨151,dC d8⟩,some ⟨116,[pS s_,.nil,.nil]⟩,none,some ⟨116,[pS cS,rS (([hU]:LB)++([y10]:LB)),bY ([(aD.mk gJ []),(aD.mk cK ([x2,x4]:List aB))]:List aD)]⟩],[]⟩⟩) (by simp [aD.trs_map,aD.tr_cs]) rfl iX (by simp [aD.cs]) (Nat.le_of_ble_eq_true rfl) ⟨⟨rfl,d9,rfl⟩,⟨⟨rfl,d9,rfl⟩,⟨⟨rfl,d9,rfl⟩,trivial⟩⟩⟩ rfl rfl (e9 hC (lG rfl) (Nat.le_of_ble_eq_true rfl)) (by repeat' first|exact trivial|refine⟨⟨_,rfl,d9,rfl⟩,?_⟩)) ?_;refine q1 (cJ [pS cS,rS (([hU]:LB)++([y10]:LB)),bY ([(aD.mk gJ []),(aD.mk cK ([x2,x4]:List aB))]:List aD)] fI) (q1 (bR iH) (qZ ?_))
  cases aX H
  exact bE (hr:=⟨⟨_,_,_,rfl,rfl,fI,rfl,rfl⟩,trivial⟩)
 refine qW (q1 dM (q1 aE (qN ?_)))
 refine a8 H (fun h13 H=>?_) (fun h13 H=>?_)
 ·refine fP H fun d14 h15 H=>?_;refine aR.wk (Wk.freezeE (k:=2) (sz:=2) (es:= [aD.cs (aD.mk gJ []),aD.cs (aD.mk cK ([x2,x4]:List aB))]) (es':=aD.trs (([(aD.mk gJ []),(aD.mk cK ([x2,x4]:List aB))]:List aD))) (s':=⟨[(0,.ptr 0 0),(2,.ptr 1 0),(3,.ptr 3 0),(4,.lit 1 (aZ (([hU]:LB)))),(5,.agg [pS gJ,.nil]),(6,(aB.pv x2)),(7,(aB.pv x2)),(8,.lit 3 (aB.trs (([x2]:List aB)))),(9,(aB.pv x4)),(10,.lit 3 (aB.trs (([x2,x4]:List aB)))),(11,.agg [pS cK,.lit 3 (aB.trs (([x2,x4]:List aB)))]),(12,bY ([(aD.mk gJ []),(aD.mk cK ([x2,x4]:List aB))]:List aD)),(13,.agg [pS cS,.lit 1 (aZ (([hU]:LB))),bY ([(aD.mk gJ []),(aD.mk cK ([x2,x4]:List aB))]:List aD)]),(14,.ptr 0 0),(15,pN (pc.below 10)),(16,pB (decide ((pc.below 10:Int)=0))),(17,pB (decide ((pc.below 10:Int)=0))),(26,pB (decide ((pc.below 10:Int)=1))),(27,pB (decide ((pc.below 10:Int)=1)))],⟨[some ⟨151,dC d5⟩,some ⟨116,[pS s_,.nil,.nil]⟩,none,some ⟨116,[pS cS,.lit 1 (aZ (([hU]:LB))),bY ([(aD.mk gJ []),(aD.mk cK ([x2,x4]:List aB))]:List aD)]⟩],[]⟩⟩) (by simp [aD.trs_map,aD.tr_cs]) rfl iX (by simp [aD.cs]) (Nat.le_of_ble_eq_true rfl) ⟨⟨rfl,d9,rfl⟩,⟨⟨rfl,d9,rfl⟩,⟨⟨rfl,d9,rfl⟩,trivial⟩⟩⟩ rfl rfl (e9 hC (lG rfl) (Nat.le_of_ble_eq_true rfl)) (by repeat' first|exact trivial|refine⟨⟨_,rfl,d9,rfl⟩,?_⟩)) ?_;refine dK H fun z16 H=>(dW (dI [3] (a5 gG) (dB [28] 0 1 (wL nN) (dI [0] aE (dE [30] (iF [0] [] func103 (BG h15 (eQ d5 2))) ?_)))))
  refine dI [29,31] (a3.congrP (a3.sliceR (es:=aD.trs (([(aD.mk gJ []),(aD.mk cK ([x2,x4]:List aB))]:List aD))) (l:=0) (k:=(d5.below 2:Int)) rfl rfl rfl rfl rfl (by rw [aD.trs_len];exact rfl) (by rw [aD.trs_len];exact z16) lW) (aD.trs_part _ _ _)) ?_;refine dI [3] (a5 gG) (lH [33,32] (bR aqA) (dN (qW (q1 (cJ [pS cS,.lit 1 (aZ (([hU]:LB))),bY (List.drop (0:Int).toNat (List.take (d5.below 2:Int).toNat ([(aD.mk gJ []),(aD.mk cK ([x2,x4]:List aB))]:List aD)))] fI) (q1 (bR iH) (qZ ?_))))))
  cases aX H
  exact bE (hr:=⟨⟨_,_,_,rfl,rfl,fI,rfl,rfl⟩,trivial⟩)
 refine qW (q1 dM (q1 aE (qN ?_)))
 refine a8 H (fun h17 H=>?_) (fun h17 H=>?_)
 ·refine fZ H fun x19 x20 z18 H=>(dW (dI [3] (a5 gG) (dB [36] 0 1 (wL nN) (dI [0] aE (dE [38] (iF [0] [] func87 (zX (vF fu) d5 2 _ z18)) (dI [39] (uN ([x19]:List aB) eU jN) (dI [37] (a3.indexB (sz:=2) (k:=2) (N:=2) (i:=0) rfl rfl rfl rfl (by decide) lW) (dI [41] (a5 xQ) (lH [42,40] (bR asL) (dN (qS (qR ?_))))))))))))
  refine AL.weak (Wk.freezeE (k:=2) (sz:=2) (es:= [aD.cs (aD.mk gJ ([x19]:List aB)),aD.cs (aD.mk cK ([x2,x4]:List aB))]) (es':=aD.trs (([(aD.mk gJ ([x19]:List aB)),(aD.mk cK ([x2,x4]:List aB))]:List aD))) (s':=⟨[(0,.ptr 0 0),(2,.ptr 1 0),(3,.ptr 3 0),(15,pN (pc.below 10))],⟨[some ⟨151,dC x20⟩,some ⟨116,[pS s_,.nil,.nil]⟩,none,some ⟨116,[pS cS,.lit 1 (aZ (([hU]:LB))),bY ([(aD.mk gJ ([x19]:List aB)),(aD.mk cK ([x2,x4]:List aB))]:List aD)]⟩],[]⟩⟩) (by simp [aD.trs_map,aD.tr_cs]) rfl iX (by simp [aD.cs]) (Nat.le_of_ble_eq_true rfl) ⟨⟨rfl,d9,rfl⟩,⟨⟨rfl,d9,rfl⟩,⟨⟨rfl,d9,rfl⟩,trivial⟩⟩⟩ rfl rfl (e9 hC (lG rfl) (Nat.le_of_ble_eq_true rfl)) (by repeat' first|exact trivial|refine⟨⟨_,rfl,d9,rfl⟩,?_⟩)) ?_;refine q1 (cJ [pS cS,.lit 1 (aZ (([hU]:LB))),bY ([(aD.mk gJ ([x19]:List aB)),(aD.mk cK ([x2,x4]:List aB))]:List aD)] fI) (q1 (bR iH) (qZ ?_))
  cases aX H
  exact bE (hr:=⟨⟨_,_,_,rfl,rfl,fI,rfl,rfl⟩,trivial⟩)
 refine qW (q1 dM (q1 aE (qN ?_)))
 refine a8 H (fun h21 H=>?_) (fun h21 H=>?_)
 ·refine fP H fun d22 h23 H=>(fP H fun y24 h25 H=>(dW (dI [3] (a5 gG) (dB [45] 0 1 (wL nN) (dI [0] aE (dI [] (uN ([cK,s_,VF]:LB) b3 lU) (dE [47,48] (iF [0] [] func86 (Q7 h23 h25 (iE d5 ([cK,s_,VF]:LB) (by decide)))) (dI [46] (a3.indexB (sz:=2) (k:=2) (N:=2) (i:=0) rfl rfl rfl rfl (by decide) lW) (dI [50] (a5 sK) (lH [51,49] (bR sz9) (dN (qS (qR ?_)))))))))))))
  refine AL.weak (Wk.freezeE (k:=2) (sz:=2) (es:= [aD.cs (aD.mk y24 []),aD.cs (aD.mk cK ([x2,x4]:List aB))]) (es':=aD.trs (([(aD.mk y24 []),(aD.mk cK ([x2,x4]:List aB))]:List aD))) (s':=⟨[(0,.ptr 0 0),(2,.ptr 1 0),(3,.ptr 3 0),(15,pN (pc.below 10))],⟨[some ⟨151,dC d22⟩,some ⟨116,[pS s_,.nil,.nil]⟩,none,some ⟨116,[pS cS,.lit 1 (aZ (([hU]:LB))),bY ([(aD.mk y24 []),(aD.mk cK ([x2,x4]:List aB))]:List aD)]⟩],[]⟩⟩) (by simp [aD.trs_map,aD.tr_cs]) rfl iX (by simp [aD.cs]) (Nat.le_of_ble_eq_true rfl) ⟨⟨rfl,d9,rfl⟩,⟨⟨rfl,d9,rfl⟩,⟨⟨rfl,d9,rfl⟩,trivial⟩⟩⟩ rfl rfl (e9 hC (lG rfl) (Nat.le_of_ble_eq_true rfl)) (by repeat' first|exact trivial|refine⟨⟨_,rfl,d9,rfl⟩,?_⟩)) ?_;refine q1 (cJ [pS cS,.lit 1 (aZ (([hU]:LB))),bY ([(aD.mk y24 []),(aD.mk cK ([x2,x4]:List aB))]:List aD)] fI) (q1 (bR iH) (qZ ?_))
  cases aX H
  exact bE (hr:=⟨⟨_,_,_,rfl,rfl,fI,rfl,rfl⟩,trivial⟩)
 refine aR.skip (qS (qR ?_))
 refine AL.weak (Wk.freezeE (k:=2) (sz:=2) (es:= [aD.cs (aD.mk gJ []),aD.cs (aD.mk cK ([x2,x4]:List aB))]) (es':=aD.trs (([(aD.mk gJ []),(aD.mk cK ([x2,x4]:List aB))]:List aD))) (s':=⟨[(0,.ptr 0 0),(2,.ptr 1 0),(3,.ptr 3 0),(15,pN (pc.below 10))],⟨[some ⟨151,dC d5⟩,some ⟨116,[pS s_,.nil,.nil]⟩,none,some ⟨116,[pS cS,.lit 1 (aZ (([hU]:LB))),bY ([(aD.mk gJ []),(aD.mk cK ([x2,x4]:List aB))]:List aD)]⟩],[]⟩⟩) (by simp [aD.trs_map,aD.tr_cs]) rfl iX (by simp [aD.cs]) (Nat.le_of_ble_eq_true rfl) ⟨⟨rfl,d9,rfl⟩,⟨⟨rfl,d9,rfl⟩,⟨⟨rfl,d9,rfl⟩,trivial⟩⟩⟩ rfl rfl (e9 hC (lG rfl) (Nat.le_of_ble_eq_true rfl)) (by repeat' first|exact trivial|refine⟨⟨_,rfl,d9,rfl⟩,?_⟩)) ?_;refine q1 (cJ [pS cS,.lit 1 (aZ (([hU]:LB))),bY ([(aD.mk gJ []),(aD.mk cK ([x2,x4]:List aB))]:List aD)] fI) (q1 (bR iH) (qZ ?_))
 cases aX H
 exact bE (hr:=⟨⟨_,_,_,rfl,rfl,fI,rfl,rfl⟩,trivial⟩)
end
end Go.Proofs.YtpioomclpaiomaaGreat.W

namespace Go.Proofs.YtpioomclpaiomaaGreat.W
set_option maxRecDepth 100000
set_option maxHeartbeats 40000000
noncomputable section
open Tryz Go.RowKit Go.Proofs
attribute [local irreducible] lt
def alY(m:DS→Option (aJ×DS)):Prop:= ∀(pq0:DS) (r:aJ×DS),m pq0=some r→c6 Tryz.prog 117 [.ptr 0 0] ⟨[some ⟨151,dC pq0⟩],[]⟩ (fun q t=>q=((aJ.pv r.1):PV)∧t=⟨[some ⟨151,dC r.2⟩],[]⟩)
def ahW(fu:Nat)(pq0 d1:DS):Nat→((List aP)×(List aH)×(List aL)×(List aK)×DS)→Option (LR ((List aP)×(List aH)×(List aL)×(List aK)×DS) (aJ×DS)):=
 fun i3 (v9,v10,v11,v12,v4)=>lt (v4.after 4) (fun d15=>
 sw (decide ((v4.below 4:Int)=0))
 (bd (F7 fu d15) (fun(x19,x20)=>
 gd ((v9).length+(([x19]:List aP)).length≤68719476736)
 (some (.next ((v9++([x19]:List aP)),v10,v11,v12,x20)))))
 (sw (decide ((v4.below 4:Int)=1))
 (bd (LA fu d15) (fun(x24,x25)=>
 gd ((v10).length+(([x24]:List aH)).length≤68719476736)
 (some (.next (v9,(v10++([x24]:List aH)),v11,v12,x25)))))
 (sw (decide ((v4.below 4:Int)=2))
 (bd (LC fu d15) (fun(x29,x30)=>
 gd ((v11).length+(([x29]:List aL)).length≤68719476736)
 (some (.next (v9,v10,(v11++([x29]:List aL)),v12,x30)))))
 (bd (VJ fu d15) (fun(x33,x34)=>
 gd ((v12).length+(([x33]:List aK)).length≤68719476736)
 (some (.next (v9,v10,v11,(v12++([x33]:List aK)),x34))))))))
def ahX(fu:Nat)(pq0 d1:DS):Option ((aJ×DS)⊕((List aP)×(List aH)×(List aL)×(List aK)×DS)):=
 loopN (ahW fu pq0 d1) (pq0.below 5-0) 0 (([]),([]),([]),([]),d1)
def QA(fu:Nat)(pq0:DS):Option (aJ×DS):=
 lt (pq0.after 5) (fun d1=>
 so (ahX fu pq0 d1) (fun(v9,v10,v11,v12,v4)=>
 lt (v4.after 10) (fun d36=>
 sw (decide ((v4.below 10:Int)=0))
 (lt (d36.after ([s_,gS]:LB).length) (fun d39=>
 lt (d36.pick ([s_,gS]:LB)) (fun y41=>
 some ((aJ.mk y41 ([gS]:LB) v9 v10 v11 v12),d39))))
 (sw (decide ((v4.below 10:Int)=1))
 (lt (d36.after ([gS,s_q,s_p]:LB).length) (fun d44=>
 lt (d36.pick ([gS,s_q,s_p]:LB)) (fun y46=>
 gd ((([gS]:LB)).length+(([y46]:LB)).length≤68719476736)
 (some ((aJ.mk s_p (([gS]:LB)++([y46]:LB)) v9 v10 v11 v12),d44)))))
 (some ((aJ.mk s_p ([gS]:LB) v9 v10 v11 v12),d36))))))
theorem ahY(fu:Nat):alY (QA fu):=by
 intro pq0 r H
 have H:=eE H
 refine qI func117 (fun C hC=>?_)
 refine qW (q1 (fO qL) (qN (qW (q1 (uN ([gS]:LB) b3 lU) (q1 (gW qL IZ) (q1 (fO qL) (q1 (bR sF) (qN (qW (q1 aE ?_))))))))))
 refine fP H fun d1 h2 H=>(q1 (iF [0] [] func103 (BG h2 (eQ pq0 5))) (q1 aE (qN ?_)))
 refine qS (qS (qR (q1 aE (qN (aR.wk (Wk.regBox (k:=2) (j:=2) 60 5 (by decide) rfl rfl) (aR.wk (Wk.regBox (k:=2) (j:=3) 116 3 (by decide) rfl rfl) (aR.wk (Wk.regBox (k:=2) (j:=4) 55 12 (by decide) rfl rfl) (aR.wk (Wk.regBox (k:=2) (j:=5) 148 16 (by decide) rfl rfl) ?_))))))))
 have hb13:=DS.below_lt (d:=pq0) (n:=5) (by decide)
 refine b0 (σ:=(List aP)×(List aH)×(List aL)×(List aK)×DS) (fun i3 (v9,v10,v11,v12,v4)=>⟨[(0,.ptr 0 0),(2,.ptr 1 0),(3,.ptr 2 0),(4,pN (pq0.below 5)),(5,pN i3)],⟨[some ⟨151,dC v4⟩,some ⟨131,[pS s_,.nil,.nil,.nil,.nil,.nil]⟩,some ⟨131,[pS s_p,.lit 1 (aZ (([gS]:LB))),yU v9 0,nD v10 1,nF v11 2,nE v12 3]⟩],[⟨60,5,aP.trs (v9),false⟩,⟨116,3,aH.trs (v10),false⟩,⟨55,12,aL.trs (v11),false⟩,⟨148,16,aK.trs (v12),false⟩]⟩⟩) (fun(v9,v10,v11,v12,v4)=>⟨[(0,.ptr 0 0),(2,.ptr 1 0),(3,.ptr 2 0)],⟨[some ⟨151,dC v4⟩,some ⟨131,[pS s_,.nil,.nil,.nil,.nil,.nil]⟩,some ⟨131,[pS s_p,.lit 1 (aZ (([gS]:LB))),yU v9 0,nD v10 1,nF v11 2,nE v12 3]⟩],[⟨60,5,aP.trs (v9),false⟩,⟨116,3,aH.trs (v10),false⟩,⟨55,12,aL.trs (v11),false⟩,⟨148,16,aK.trs (v12),false⟩]⟩⟩) (fK H) ?_ ?_
 ·rintro i3 ⟨v9,v10,v11,v12,v4⟩ H
  refine qS (qS (qR ?_))
  iterate 2 refine q1 aE ?_
  refine q1 gI (qN ?_)
  refine dG H (fun h14 h14l H=>?_) (fun h14 H=>?_)
  ·have h14n:i3<pq0.below 5:=by have:=of_decide_eq_true h14;omega
   refine aR.skip (qS (aR.block (qW (q1 aE (fP H fun d15 h16 H=>(q1 (iF [0] [] func103 (BG h16 (eQ v4 4))) (qN (aR.block (qW (q1 dM (q1 aE ?_)))))))))))
   refine qN ?_;refine a8 H (fun h17 H=>?_) (fun h17 H=>?_)
   ·refine fZ H fun x19 x20 z18 H=>(dK H fun z21 H=>(dW (dI [3] (a5 qQ) (dB [26] 0 1 (wL F0) (dI [0] aE (dE [28] (iF [0] [] func167 (aaK fu d15 _ z18)) (dI [29] (uN ([x19]:List aP) AF r3) (dE [27,30] (nV z21 AF aqI) (dI [3] (a5 qQ) (lH [32,31] (bR aqB) (dN (qR (q1 aE ?_)))))))))))))
    refine q1 (rA (i3+1)) (q1 aE (qN ?_))
    exact iI h14l ⟨_,(aX H:),bW⟩
   refine qW (q1 dM (q1 aE (qN ?_)))
   refine a8 H (fun h22 H=>?_) (fun h22 H=>?_)
   ·refine fZ H fun x24 x25 z23 H=>(dK H fun z26 H=>(dW (dI [3] (a5 l7) (dB [35] 0 1 (wL xK) (dI [0] aE (dE [37] (iF [0] [] func168 (aeJ fu d15 _ z23)) (dI [38] (uN ([x24]:List aH) tE jF) (dE [36,39] (nV z26 tE aqJ) (dI [3] (a5 l7) (lH [41,40] (bR aqC) (dN (qR (q1 aE ?_)))))))))))))
    refine q1 (rA (i3+1)) (q1 aE (qN ?_))
    exact iI h14l ⟨_,(aX H:),bW⟩
   refine qW (q1 dM (q1 aE (qN ?_)))
   refine a8 H (fun h27 H=>?_) (fun h27 H=>?_)
   ·refine fZ H fun x29 x30 z28 H=>(dK H fun z31 H=>(dW (dI [3] (a5 AG) (dB [44] 0 1 (wL YF) (dI [0] aE (dE [46] (iF [0] [] func169 (aeM fu d15 _ z28)) (dI [47] (uN ([x29]:List aL) QV SV) (dE [45,48] (nV z31 QV aqK) (dI [3] (a5 AG) (lH [50,49] (bR aqD) (dN (qR (q1 aE ?_)))))))))))))
    refine q1 (rA (i3+1)) (q1 aE (qN ?_))
    exact iI h14l ⟨_,(aX H:),bW⟩
   refine fZ H fun x33 x34 z32 H=>(dK H fun z35 H=>(dW (dI [3] (a5 nX) (dB [17] 0 1 (wL CO) (dI [0] aE (dE [19] (iF [0] [] func170 (alT fu d15 _ z32)) (dI [20] (uN ([x33]:List aK) xB sH) (dE [18,21] (nV z35 xB aqL) (dI [3] (a5 nX) (lH [23,22] (bR aqE) (dN (qR (q1 aE ?_)))))))))))))
   refine q1 (rA (i3+1)) (q1 aE (qN ?_))
   exact iI h14l ⟨_,(aX H:),bW⟩
  refine aR.exit ?_;exact jJ ⟨_,H,bW⟩
 rintro⟨v9,v10,v11,v12,v4⟩ H
 refine qS (qS (qR (q1 aE (fP H fun d36 h37 H=>(q1 (iF [0] [] func103 (BG h37 (eQ v4 10))) (qN (aR.block (qW (q1 dM (q1 aE (qN ?_)))))))))))
 refine a8 H (fun h38 H=>?_) (fun h38 H=>?_)
 ·refine qR (q1 aE (q1 (uN ([s_,gS]:LB) b3 lU) (fP H fun d39 h40 H=>(fP H fun y41 h42 H=>(q1 (iF [0] [] func86 (Q7 h40 h42 (iE d36 ([s_,gS]:LB) (by decide)))) (q1 (a5 LX) (q1 (bR sz9) (qN (qW (q1 (cJ [pS y41,.lit 1 (aZ (([gS]:LB))),yU v9 0,nD v10 1,nF v11 2,nE v12 3] nO) (q1 (bR sF) (qN ?_))))))))))))
  refine aR.ret ?_
  cases aX H
  exact bE (hr:=⟨⟨_,_,_,rfl,rfl,nO,rfl,rfl⟩,trivial⟩)
 refine qW (q1 dM (q1 aE (qN ?_)))
 refine a8 H (fun h43 H=>?_) (fun h43 H=>?_)
 ·refine fP H fun d44 h45 H=>(fP H fun y46 h47 H=>(dK H fun z48 H=>(dW (dI [3] (a5 C7) (dB [61] 0 1 (wL kZ) (dI [0] aE (dI [] (uN ([gS,s_q,s_p]:LB) b3 lU) (dE [63,64] (iF [0] [] func86 (Q7 h45 h47 (iE d36 ([gS,s_q,s_p]:LB) (by decide)))) (dI [65] (uN ([y46]:LB) b3 lU) ?_)))))))))
  refine dI [62,66] (a3.appendLit (es1:=aZ (([gS]:LB))) (es2:=aZ (([y46]:LB))) (es3:=aZ (([gS]:LB)++([y46]:LB))) rfl rfl rfl rfl rfl (qJ _) (qJ _) (by exact List.cons_ne_nil _ _) (by decide) b3 tR (by decide) (by rw [bC,bC];exact AN z48 (by decide)) (vU _ _)) ?_;refine dI [3] (a5 C7) (lH [68,67] (bR SU) (dN (qW (q1 (cJ [pS s_p,rS (([gS]:LB)++([y46]:LB)),yU v9 0,nD v10 1,nF v11 2,nE v12 3] nO) (q1 (bR sF) (qZ ?_))))))
  cases aX H
  exact bE (hr:=⟨⟨_,_,_,rfl,rfl,nO,rfl,rfl⟩,trivial⟩)
 refine aR.skip (qW (q1 (cJ [pS s_p,.lit 1 (aZ (([gS]:LB))),yU v9 0,nD v10 1,nF v11 2,nE v12 3] nO) (q1 (bR sF) (qZ ?_))))
 cases aX H
 exact bE (hr:=⟨⟨_,_,_,rfl,rfl,nO,rfl,rfl⟩,trivial⟩)
def ae4(m:DS→Option (aF×DS)):Prop:= ∀(pc:DS) (r:aF×DS),m pc=some r→c6 Tryz.prog 55 [.ptr 0 0] ⟨[some ⟨151,dC pc⟩],[]⟩ (fun q t=>q=((aF.pv r.1):PV)∧t=⟨[some ⟨151,dC r.2⟩],[]⟩)
def AX(fu:Nat)(pc:DS):Option (aF×DS):=
 bd (LG fu pc) (fun(x2,x3)=>
 lt (x3.after 5) (fun d4=>
 sw (decide (x3.below 5=0))
 (bd (QA fu d4) (fun(x8,x9)=>
 gd ((x2.gPackages).length+(([x8]:List aJ)).length≤68719476736)
 (some ((aF.mk (x2.gPackages++([x8]:List aJ))),x9))))
 (some ((aF.mk x2.gPackages),d4))))
theorem NG(fu:Nat):ae4 (AX fu):=by
 intro pc r H
 have H:=eE H
 refine qI func55 (fun C hC=>?_)
 refine qW (q1 (fO NS) (qN (qW (q1 aE (fZ H fun x2 x3 z1 H=>(q1 (a3.callOwn (pre:=⟨[some ⟨151,dC pc⟩],[]⟩) (B:= [some ⟨151,dC x3⟩]) (R:=fun k=> .agg [r4 x2.gPackages k]) (ps:= [_]) (qs:= [.ptr 0 0]) [0] rfl rfl func116 (by kernel_rfl) rfl rfl rfl (gA.of ⟨⟨_,rfl,rfl,iX,rfl⟩,trivial⟩ trivial (by decide) (by decide)) rfl iX rfl rfl rfl (fun k k'=>(.agg (.cons Mv.acc CU.nil))) (ae2 fu pc _ z1)) (q1 (fO NS) (q1 (bR GJ) (qN ?_)))))))))
 refine qS (qS (qR (q1 aE (fP H fun d4 h5 H=>(q1 (iF [0] [] func112 (BG h5 (nB x3 5))) (qN ?_))))))
 refine a8 H (fun h6 H=>?_) (fun h6 H=>?_)
 ·refine fZ H fun x8 x9 z7 H=>(dK H fun z10 H=>(dW (dI [3] (a5 fR) (dB [8] 0 1 (wL pP) (dI [0] aE (dE [10] (iF [0] [] func117 (ahY fu d4 _ z7)) (dI [11] (j9 ([x8]:List aJ) mG qL) (dE [9,12] (nV z10 mG asT) (dI [3] (a5 fR) (lH [14,13] (bR asK) (dN (qS (qR ?_)))))))))))))
  refine q1 (cJ [r4 (x2.gPackages++([x8]:List aJ)) 0] hZ) (q1 (bR GJ) (qZ ?_))
  cases aX H
  exact bE (hr:=⟨⟨_,_,_,rfl,rfl,hZ,rfl,rfl⟩,trivial⟩)
 refine aR.skip (qW (q1 (cJ [r4 x2.gPackages 0] hZ) (q1 (bR GJ) (qZ ?_))))
 cases aX H
 exact bE (hr:=⟨⟨_,_,_,rfl,rfl,hZ,rfl,rfl⟩,trivial⟩)
end
end Go.Proofs.YtpioomclpaiomaaGreat.W

namespace Go.Proofs.YtpioomclpaiomaaGreat.W
set_option maxRecDepth 100000
set_option maxHeartbeats 40000000
noncomputable section
open Tryz Go.RowKit Go.Proofs
attribute [local irreducible] lt
def RW(m:aF→Option ((List aU))):Prop:= ∀(pw:aF) (r:(List aU)),m pw=some r→b4 Tryz.prog 73 [(aF.pv pw)] (ZT r:PV)
def OJ(fu:Nat)(pw:aF)(i1:Nat)(v3:List aU)(y6:aJ):Nat→((List aU))→Option (LR ((List aU)) (LR ((List aU)) ((List aU)))):=
 fun i9 v11=>gd ((v11).length+(([(aU.mk (i1:Int) (i9:Int))]:List aU)).length≤68719476736)
 (some (.next (v11++([(aU.mk (i1:Int) (i9:Int))]:List aU))))
def OL(fu:Nat)(pw:aF)(i1:Nat)(v3:List aU)(y6:aJ):Option ((LR ((List aU)) ((List aU)))⊕((List aU))):=
 loopN (OJ fu pw i1 v3 y6) (y6.gInstances.length-0) 0 v3
def OI(fu:Nat)(pw:aF):Nat→((List aU))→Option (LR ((List aU)) ((List aU))):=
 fun i1 v3=>lt (aW pw.gPackages i1) (fun y6=>
 so (OL fu pw i1 v3 y6) (fun v11=>
 some (.next v11)))
def OK(fu:Nat)(pw:aF):Option (((List aU))⊕((List aU))):=
 loopN (OI fu pw) (pw.gPackages.length-0) 0 ([])
def RU(fu:Nat)(pw:aF):Option ((List aU)):=
 so (OK fu pw) (fun v3=>
 some v3)
theorem akY(fu:Nat):RW (RU fu):=by
 intro pw r H
 have H:=eE H
 refine qI func73 (fun C hC=>?_)
 refine qW (q1 (iM ([aN pw.gPackages])) (q1 aE (qN (qW (q1 (uK ([]:List aU) aq1 arS) (q1 aE (qN ?_)))))))
 refine qS (qS (qR (q1 (a5 fR) (q1 (bD pP) (q1 (dL mG (aJ.trs_len _)) (q1 aE (qN ?_)))))))
 refine lD 9 (aJ.trs_len _) (fun hl4=>?_)
 refine b0 (σ:=(List aU)) (fun i1 v3=>⟨[(2,.nil),(3,xN v3 0),(9,aN pw.gPackages),(10,pN pw.gPackages.length),(11,pN i1)],⟨[some ⟨26,[aN pw.gPackages]⟩],[⟨45,2,aU.trs (v3),false⟩]⟩⟩) (fun v3=>⟨[(2,.nil),(3,xN v3 0)],⟨[some ⟨26,[aN pw.gPackages]⟩],[⟨45,2,aU.trs (v3),false⟩]⟩⟩) (fK H) ?_ ?_
 ·rintro i1 v3 H
  refine qW (q1 gI (qN (qS ?_)))
  refine dG H (fun h5 h5l H=>?_) (fun h5 H=>?_)
  ·have h5n:=a4 h5
   refine aR.skip (qS (aR.block (qW (q1 aE (fP H fun y6 h7 H=>(q1 (m9 h7 h5n mG) (q1 (kM (aJ.cs y6) nO) (q1 (fO qL) (q1 aE (q1 (bR sF) (qN (qS ?_))))))))))))
   refine qR (q1 (a5 AG) (q1 (bD YF) ?_))
   refine FS 17 (aL.trs_len _) (fun hl8=>?_)
   refine q1 (dL QV (aL.trs_len _)) (q1 aE (qN ?_))
   refine b0 (σ:=(List aU)) (fun i9 v11=>⟨[(2,.nil),(3,xN v11 0),(4,pN i1),(5,.ptr 1 0),(9,aN pw.gPackages),(10,pN pw.gPackages.length),(11,pN i1),(12,pB (decide ((i1:Int)<(pw.gPackages.length:Int)))),(13,pN i1),(14,.eptr (aJ.cs y6)),(15,(aJ.pv y6)),(16,.ptr 1 4),(17,yL y6.gInstances),(18,pN y6.gInstances.length),(19,pN i9)],⟨[some ⟨26,[aN pw.gPackages]⟩,some ⟨131,dV y6⟩],[⟨45,2,aU.trs (v11),false⟩]⟩⟩) (fun v11=>⟨[(2,.nil),(3,xN v11 0),(4,pN i1),(5,.ptr 1 0),(9,aN pw.gPackages),(10,pN pw.gPackages.length),(11,pN i1),(12,pB (decide ((i1:Int)<(pw.gPackages.length:Int)))),(13,pN i1),(14,.eptr (aJ.cs y6)),(15,(aJ.pv y6)),(16,.ptr 1 4),(17,yL y6.gInstances),(18,pN y6.gInstances.length)],⟨[some ⟨26,[aN pw.gPackages]⟩,some ⟨131,dV y6⟩],[⟨45,2,aU.trs (v11),false⟩]⟩⟩) (fK H) ?_ ?_
   ·rintro i9 v11 H
    refine qW (q1 gI (qN (qS ?_)))
    refine dG H (fun h12 h12l H=>?_) (fun h12 H=>?_)
    ·have h12n:=a4 h12
     refine aR.skip (qS (aR.block (qS (qR ?_))))
     iterate 2 refine q1 aE ?_
     refine qN (qR ?_)
     iterate 3 refine q1 aE ?_
     refine q1 (gW arS as3) (q1 (j9 ([(aU.mk (i1:Int) (i9:Int))]:List aU) aq1 arS) (dK H fun z13 H=>(q1 (nV z13 aq1 as9) (q1 aE (qN (qR (q1 (rA (i9+1)) (q1 aE (qN ?_)))))))))
     exact iI h12l ⟨_,(aX H:),bW⟩
    refine aR.exit ?_;exact jJ ⟨_,H,bW⟩
   rintro v11 H
   refine qR (q1 (rA (i1+1)) (q1 aE (qN ?_)))
   exact iI h5l ⟨_,(aX H:),bW⟩
  refine aR.exit ?_;exact jJ ⟨_,H,bW⟩
 rintro v3 H
 refine qS (qR ?_)
 iterate 2 refine q1 aE ?_
 refine qN (aR.ret ?_)
 cases aX H
 exact bE
def anK(m:aF→ByteArray→Option (aP×Int×Bool)):Prop:= ∀(pw:aF) (pname:ByteArray) (r:aP×Int×Bool),m pw pname=some r→b4 Tryz.prog 82 [(aF.pv pw),pS pname] (.tup [(aP.pv r.1),pI r.2.1,pB r.2.2]:PV)
def OR(fu:Nat)(pw:aF)(pname:ByteArray)(i1:Nat)(y4:aJ):Nat→Unit→Option (LR Unit (LR Unit (aP×Int×Bool))):=
 fun i7 _=>sw (decide ((aW y4.gTraits i7).gName=pname))
 (some (.ret (.ret ((aW y4.gTraits i7),(i1:Int),true))))
 (some (.next ()))
def X6(fu:Nat)(pw:aF)(pname:ByteArray)(i1:Nat)(y4:aJ):Option ((LR Unit (aP×Int×Bool))⊕Unit):=
 loopN (OR fu pw pname i1 y4) (y4.gTraits.length-0) 0 ()
def OQ(fu:Nat)(pw:aF)(pname:ByteArray):Nat→Unit→Option (LR Unit (aP×Int×Bool)):=
 fun i1 _=>lt (aW pw.gPackages i1) (fun y4=>
 so (X6 fu pw pname i1 y4) (fun _=>
 some (.next ())))
def X5(fu:Nat)(pw:aF)(pname:ByteArray):Option ((aP×Int×Bool)⊕Unit):=
 loopN (OQ fu pw pname) (pw.gPackages.length-0) 0 ()
def MN(fu:Nat)(pw:aF)(pname:ByteArray):Option (aP×Int×Bool):=
 so (X5 fu pw pname) (fun _=>
 some ((aP.mk s_ [] false false []),0,false))
theorem ak5(fu:Nat):anK (MN fu):=by
 intro pw pname r H
 have H:=eE H
 refine qI func82 (fun C hC=>?_)
 refine qW (q1 (iM ([aN pw.gPackages])) (q1 (fO r3) ?_))
 iterate 2 refine q1 aE ?_
 refine qN ?_
 refine qS (qS (qR (q1 (a5 fR) (q1 (bD pP) (q1 (dL mG (aJ.trs_len _)) (q1 aE (qN ?_)))))))
 refine lD 12 (aJ.trs_len _) (fun hl2=>?_)
 refine b0 (σ:=Unit) (fun i1 _=>⟨[(1,pS pname),(4,.ptr 1 0),(5,pI 0),(6,pB false),(12,aN pw.gPackages),(13,pN pw.gPackages.length),(14,pN i1)],⟨[some ⟨26,[aN pw.gPackages]⟩,some ⟨60,[pS s_,.nil,pB false,pB false,.nil]⟩],[]⟩⟩) (fun _=>⟨[(4,.ptr 1 0),(5,pI 0),(6,pB false)],⟨[some ⟨26,[aN pw.gPackages]⟩,some ⟨60,[pS s_,.nil,pB false,pB false,.nil]⟩],[]⟩⟩) (fK H) ?_ ?_
 ·rintro i1 ⟨⟩ H
  refine qW (q1 gI (qN (qS ?_)))
  refine dG H (fun h3 h3l H=>?_) (fun h3 H=>?_)
  ·have h3n:=a4 h3
   refine aR.skip (qS (aR.block (qW (q1 aE (fP H fun y4 h5 H=>(q1 (m9 h5 h3n mG) (q1 (kM (aJ.cs y4) nO) (q1 (fO qL) (q1 aE (q1 (bR sF) (qN (qS ?_))))))))))))
   refine qR (q1 (a5 qQ) (q1 (bD F0) ?_))
   refine FS 20 (aP.trs_len _) (fun hl6=>?_)
   refine q1 (dL AF (aP.trs_len _)) (q1 aE (qN ?_))
   refine b0 (σ:=Unit) (fun i7 _=>⟨[(1,pS pname),(4,.ptr 1 0),(5,pI 0),(6,pB false),(7,pN i1),(8,.ptr 2 0),(12,aN pw.gPackages),(13,pN pw.gPackages.length),(14,pN i1),(15,pB (decide ((i1:Int)<(pw.gPackages.length:Int)))),(16,pN i1),(17,.eptr (aJ.cs y4)),(18,(aJ.pv y4)),(19,.ptr 2 2),(20,O7 y4.gTraits),(21,pN y4.gTraits.length),(22,pN i7)],⟨[some ⟨26,[aN pw.gPackages]⟩,some ⟨60,[pS s_,.nil,pB false,pB false,.nil]⟩,some ⟨131,dV y4⟩],[]⟩⟩) (fun _=>⟨[(1,pS pname),(4,.ptr 1 0),(5,pI 0),(6,pB false),(7,pN i1),(8,.ptr 2 0),(12,aN pw.gPackages),(13,pN pw.gPackages.length),(14,pN i1),(15,pB (decide ((i1:Int)<(pw.gPackages.length:Int)))),(16,pN i1),(17,.eptr (aJ.cs y4)),(18,(aJ.pv y4)),(19,.ptr 2 2),(20,O7 y4.gTraits),(21,pN y4.gTraits.length)],⟨[some ⟨26,[aN pw.gPackages]⟩,some ⟨60,[pS s_,.nil,pB false,pB false,.nil]⟩,some ⟨131,dV y4⟩],[]⟩⟩) (fK H) ?_ ?_
   ·rintro i7 ⟨⟩ H
    refine qW (q1 gI (qN (qS ?_)))
    refine dG H (fun h8 h8l H=>?_) (fun h8 H=>?_)
    ·have h8n:=a4 h8
     refine aR.skip (qS (aR.block (qW (q1 (kP h8n AF) (q1 (kM (aP.cs (aW y4.gTraits i7)) l9) (q1 (fO r3) (q1 (bR pL) (qN (qW (q1 (a5 C8) (q1 (bD eJ) ?_)))))))))))
     refine q1 aE (q1 AM (qN ?_))
     refine a8 H (fun h9 H=>?_) (fun h9 H=>?_)
     ·refine qW (q1 (cJ [pS ((aW y4.gTraits i7).gName),rS ((aW y4.gTraits i7).gSupertraits),pB ((aW y4.gTraits i7).gAuto),pB ((aW y4.gTraits i7).gAssoc),c4 ((aW y4.gTraits i7).gSignatures)] l9) (q1 aE (q1 (bR pL) ?_)))
      iterate 2 refine q1 aE ?_
      refine qN (aR.ret ?_)
      obtain rfl:_=r:=(mT (AA (mT (aX H))):)
      exact NT (hr:=⟨⟨_,_,_,rfl,rfl,l9,rfl,rfl⟩,rfl,rfl,trivial⟩)
     refine aR.skip (qR (q1 (rA (i7+1)) (q1 aE (qN ?_))))
     exact iI h8l ⟨_,(aX H:),bW⟩
    refine aR.exit ?_;exact jJ ⟨_,H,bW⟩
   rintro⟨⟩ H
   refine qR (q1 (rA (i1+1)) (q1 aE (qN ?_)))
   exact iI h3l ⟨_,(aX H:),bW⟩
  refine aR.exit ?_;exact jJ ⟨_,H,bW⟩
 rintro⟨⟩ H
 refine qW (q1 (gW r3 ZS) (q1 (bR pL) ?_))
 iterate 2 refine q1 aE ?_
 refine qN (aR.ret ?_)
 cases aX H
 exact NT (hr:=⟨⟨_,_,_,rfl,rfl,l9,rfl,rfl⟩,rfl,rfl,trivial⟩)
def ZJ(m:ByteArray→Option Bool):Prop:= ∀(pname:ByteArray) (r:Bool),m pname=some r→b4 Tryz.prog 83 [pS pname] (pB r:PV)
def DH(fu:Nat)(pname:ByteArray):Option Bool:=
 sw (decide (pname=fC))
 (some true)
 (some (decide (pname=eX)))
theorem WN(fu:Nat):ZJ (DH fu):=by
 intro pname r H
 have H:=eE H
 refine qI func83 (fun C hC=>?_)
 refine qW (q1 aE (qN (qW (q1 aE (q1 AM (q1 aE ?_))))))
 refine eF 5 H (fun g1 H=>?_) fun g1 H=>?_
 ·refine qk g1 (qk g1 (q1 (bV g1) (q1 aE (qZ ?_))))
  cases aX H
  exact bE
 refine qg g1 aE (qg g1 AM (q1 (b9 g1) (q1 aE (qZ ?_))))
 cases aX H
 exact bE
def apC(m:aF→ByteArray→Option (aH×Int×Bool)):Prop:= ∀(pw:aF) (pname:ByteArray) (r:aH×Int×Bool),m pw pname=some r→b4 Tryz.prog 84 [(aF.pv pw),pS pname] (.tup [(aH.pv r.1),pI r.2.1,pB r.2.2]:PV)
def T9(fu:Nat)(pw:aF)(pname:ByteArray)(i1:Nat)(y4:aJ):Nat→Unit→Option (LR Unit (LR Unit (aH×Int×Bool))):=
 fun i7 _=>sw (decide ((aW y4.gDataTypes i7).gName=pname))
 (some (.ret (.ret ((aW y4.gDataTypes i7),(i1:Int),true))))
 (some (.next ()))
def acU(fu:Nat)(pw:aF)(pname:ByteArray)(i1:Nat)(y4:aJ):Option ((LR Unit (aH×Int×Bool))⊕Unit):=
 loopN (T9 fu pw pname i1 y4) (y4.gDataTypes.length-0) 0 ()
def T8(fu:Nat)(pw:aF)(pname:ByteArray):Nat→Unit→Option (LR Unit (aH×Int×Bool)):=
 fun i1 _=>lt (aW pw.gPackages i1) (fun y4=>
 so (acU fu pw pname i1 y4) (fun _=>
 some (.next ())))
def acT(fu:Nat)(pw:aF)(pname:ByteArray):Option ((aH×Int×Bool)⊕Unit):=
 loopN (T8 fu pw pname) (pw.gPackages.length-0) 0 ()
def MJ(fu:Nat)(pw:aF)(pname:ByteArray):Option (aH×Int×Bool):=
 so (acT fu pw pname) (fun _=>
 some ((aH.mk s_ [] []),0,false))
theorem acW(fu:Nat):apC (MJ fu):=by
 intro pw pname r H
 have H:=eE H
 refine qI func84 (fun C hC=>?_)
 refine qW (q1 (iM ([aN pw.gPackages])) (q1 (fO jF) ?_))
 iterate 2 refine q1 aE ?_
 refine qN ?_
 refine qS (qS (qR (q1 (a5 fR) (q1 (bD pP) (q1 (dL mG (aJ.trs_len _)) (q1 aE (qN ?_)))))))
 refine lD 12 (aJ.trs_len _) (fun hl2=>?_)
 refine b0 (σ:=Unit) (fun i1 _=>⟨[(1,pS pname),(4,.ptr 1 0),(5,pI 0),(6,pB false),(12,aN pw.gPackages),(13,pN pw.gPackages.length),(14,pN i1)],⟨[some ⟨26,[aN pw.gPackages]⟩,some ⟨116,[pS s_,.nil,.nil]⟩],[]⟩⟩) (fun _=>⟨[(4,.ptr 1 0),(5,pI 0),(6,pB false)],⟨[some ⟨26,[aN pw.gPackages]⟩,some ⟨116,[pS s_,.nil,.nil]⟩],[]⟩⟩) (fK H) ?_ ?_
 ·rintro i1 ⟨⟩ H
  refine qW (q1 gI (qN (qS ?_)))
  refine dG H (fun h3 h3l H=>?_) (fun h3 H=>?_)
  ·have h3n:=a4 h3
   refine aR.skip (qS (aR.block (qW (q1 aE (fP H fun y4 h5 H=>(q1 (m9 h5 h3n mG) (q1 (kM (aJ.cs y4) nO) (q1 (fO qL) (q1 aE (q1 (bR sF) (qN (qS ?_))))))))))))
   refine qR (q1 (a5 l7) (q1 (bD xK) ?_))
   refine FS 20 (aH.trs_len _) (fun hl6=>?_)
   refine q1 (dL tE (aH.trs_len _)) (q1 aE (qN ?_))
   refine b0 (σ:=Unit) (fun i7 _=>⟨[(1,pS pname),(4,.ptr 1 0),(5,pI 0),(6,pB false),(7,pN i1),(8,.ptr 2 0),(12,aN pw.gPackages),(13,pN pw.gPackages.length),(14,pN i1),(15,pB (decide ((i1:Int)<(pw.gPackages.length:Int)))),(16,pN i1),(17,.eptr (aJ.cs y4)),(18,(aJ.pv y4)),(19,.ptr 2 3),(20,iJ y4.gDataTypes),(21,pN y4.gDataTypes.length),(22,pN i7)],⟨[some ⟨26,[aN pw.gPackages]⟩,some ⟨116,[pS s_,.nil,.nil]⟩,some ⟨131,dV y4⟩],[]⟩⟩) (fun _=>⟨[(1,pS pname),(4,.ptr 1 0),(5,pI 0),(6,pB false),(7,pN i1),(8,.ptr 2 0),(12,aN pw.gPackages),(13,pN pw.gPackages.length),(14,pN i1),(15,pB (decide ((i1:Int)<(pw.gPackages.length:Int)))),(16,pN i1),(17,.eptr (aJ.cs y4)),(18,(aJ.pv y4)),(19,.ptr 2 3),(20,iJ y4.gDataTypes),(21,pN y4.gDataTypes.length)],⟨[some ⟨26,[aN pw.gPackages]⟩,some ⟨116,[pS s_,.nil,.nil]⟩,some ⟨131,dV y4⟩],[]⟩⟩) (fK H) ?_ ?_
   ·rintro i7 ⟨⟩ H
    refine qW (q1 gI (qN (qS ?_)))
    refine dG H (fun h8 h8l H=>?_) (fun h8 H=>?_)
    ·have h8n:=a4 h8
     refine aR.skip (qS (aR.block (qW (q1 (kP h8n tE) (q1 (kM (aH.cs (aW y4.gDataTypes i7)) fI) (q1 (fO jF) (q1 (bR iH) (qN (qW (q1 (a5 C5) (q1 (bD eJ) ?_)))))))))))
     refine q1 aE (q1 AM (qN ?_))
     refine a8 H (fun h9 H=>?_) (fun h9 H=>?_)
     ·refine qW (q1 (cJ [pS ((aW y4.gDataTypes i7).gName),rS ((aW y4.gDataTypes i7).gVars),bY ((aW y4.gDataTypes i7).gConstructors)] fI) (q1 aE (q1 (bR iH) ?_)))
      iterate 2 refine q1 aE ?_
      refine qN (aR.ret ?_)
      obtain rfl:_=r:=(mT (AA (mT (aX H))):)
      exact NT (hr:=⟨⟨_,_,_,rfl,rfl,fI,rfl,rfl⟩,rfl,rfl,trivial⟩)
     refine aR.skip (qR (q1 (rA (i7+1)) (q1 aE (qN ?_))))
     exact iI h8l ⟨_,(aX H:),bW⟩
    refine aR.exit ?_;exact jJ ⟨_,H,bW⟩
   rintro⟨⟩ H
   refine qR (q1 (rA (i1+1)) (q1 aE (qN ?_)))
   exact iI h3l ⟨_,(aX H:),bW⟩
  refine aR.exit ?_;exact jJ ⟨_,H,bW⟩
 rintro⟨⟩ H
 refine qW (q1 (gW jF MX) (q1 (bR iH) ?_))
 iterate 2 refine q1 aE ?_
 refine qN (aR.ret ?_)
 cases aX H
 exact NT (hr:=⟨⟨_,_,_,rfl,rfl,fI,rfl,rfl⟩,rfl,rfl,trivial⟩)
def XP(m:aF→ByteArray→Option (aP×Int×Bool)):Prop:= ∀(pw:aF) (pname:ByteArray) (r:aP×Int×Bool),m pw pname=some r→b4 Tryz.prog 79 [(aF.pv pw),pS pname] (.tup [(aP.pv r.1),pI r.2.1,pB r.2.2]:PV)
def uJ(fu:Nat)(pw:aF)(pname:ByteArray)(i1:Nat):Int→Option (LR Int (LR Unit (aP×Int×Bool))):=
 fun v4=>lt (aW pw.gPackages i1) (fun y6=>
 sw (decide (v4<(y6.gTraits.length:Int)))
 (gd (0≤v4∧(v4).toNat<(y6.gTraits).length)
 (sw (decide ((aW y6.gTraits ((v4).toNat)).gName=pname))
 (some (.ret (.ret ((aW y6.gTraits ((v4).toNat)),(i1:Int),true))))
 (some (.next (v4+1)))))
 (some (.brk v4)))
def GD(fu:Nat)(pw:aF)(pname:ByteArray)(i1:Nat):Option ((LR Unit (aP×Int×Bool))⊕Int):=
 loopW (uJ fu pw pname i1) fu 0
def zT(fu:Nat)(pw:aF)(pname:ByteArray):Nat→Unit→Option (LR Unit (aP×Int×Bool)):=
 fun i1 _=>so (GD fu pw pname i1) (fun v4=>
 some (.next ()))
def GC(fu:Nat)(pw:aF)(pname:ByteArray):Option ((aP×Int×Bool)⊕Unit):=
 loopN (zT fu pw pname) (pw.gPackages.length-0) 0 ()
def vT(fu:Nat)(pw:aF)(pname:ByteArray):Option (aP×Int×Bool):=
 so (GC fu pw pname) (fun _=>
 some ((aP.mk s_ [] false false []),0,false))
theorem VL(fu:Nat):XP (vT fu):=by
 intro pw pname r H
 have H:=eE H
 refine qI func79 (fun C hC=>?_)
 refine qW (q1 (iM ([aN pw.gPackages])) (q1 (fO r3) ?_))
 iterate 2 refine q1 aE ?_
 refine qN ?_
 refine qS (qS (qR (q1 aE (qN ?_))))
 refine aR.fact (b5 0 0 rfl rfl rfl (aJ.trs_len _)) (fun hl2=>?_)
 refine b0 (σ:=Unit) (fun i1 _=>⟨[(1,pS pname),(2,.ptr 0 0),(4,.ptr 1 0),(5,pI 0),(6,pB false),(7,pN i1)],⟨[some ⟨26,[aN pw.gPackages]⟩,some ⟨60,[pS s_,.nil,pB false,pB false,.nil]⟩],[]⟩⟩) (fun _=>⟨[(4,.ptr 1 0),(5,pI 0),(6,pB false)],⟨[some ⟨26,[aN pw.gPackages]⟩,some ⟨60,[pS s_,.nil,pB false,pB false,.nil]⟩],[]⟩⟩) (fK H) ?_ ?_
 ·rintro i1 ⟨⟩ H
  refine qS (qS (qR (q1 aE (q1 (a5 fR) (q1 (bD pP) (q1 (dL mG (aJ.trs_len _)) (q1 gI (qN ?_))))))))
  refine dG H (fun h3 h3l H=>?_) (fun h3 H=>?_)
  ·have h3n:=a4 h3
   refine aR.skip (qS (aR.block (qW (q1 aE (qN ?_)))))
   refine EN (σ:=Int) (fun v4=>⟨[(1,pS pname),(2,.ptr 0 0),(4,.ptr 1 0),(5,pI 0),(6,pB false),(7,pN i1),(8,pI v4),(9,pN i1),(10,.ptr 0 0),(11,aN pw.gPackages),(12,pN pw.gPackages.length),(13,pB (decide ((i1:Int)<(pw.gPackages.length:Int))))],⟨[some ⟨26,[aN pw.gPackages]⟩,some ⟨60,[pS s_,.nil,pB false,pB false,.nil]⟩],[]⟩⟩) (fun v4=>⟨[(1,pS pname),(2,.ptr 0 0),(4,.ptr 1 0),(5,pI 0),(6,pB false),(7,pN i1),(8,pI v4),(9,pN i1),(10,.ptr 0 0),(11,aN pw.gPackages),(12,pN pw.gPackages.length),(13,pB (decide ((i1:Int)<(pw.gPackages.length:Int))))],⟨[some ⟨26,[aN pw.gPackages]⟩,some ⟨60,[pS s_,.nil,pB false,pB false,.nil]⟩],[]⟩⟩) (fK H) ?_ ?_
   ·rintro k5 v4 H
    refine qS (qS (qR (q1 aE (q1 (a5 fR) (q1 (bD pP) (q1 aE (fP H fun y6 h7 H=>(q1 (m9 h7 h3n mG) (q1 (lR qQ) (q1 (kQ F0) ?_))))))))))
    refine FS 22 (aP.trs_len _) (fun hl8=>?_)
    refine q1 (dL AF (aP.trs_len _)) (q1 gI (qN ?_))
    refine a8 H (fun h9 H=>?_) (fun h9 H=>?_)
    ·refine aR.skip (qS (aR.block (qW (q1 (a5 fR) (q1 (bD pP) (q1 aE (q1 (m9 h7 h3n mG) (q1 (lR qQ) (q1 (kQ F0) (q1 aE (dK H fun z10 H=>(q1 (rIy z10 AF) ?_))))))))))))
     refine q1 (lR C8) (q1 (kQ eJ) (q1 aE (q1 AM (qN ?_))))
     refine a8 H (fun h11 H=>?_) (fun h11 H=>?_)
     ·refine qW (q1 (a5 fR) (q1 (bD pP) (q1 aE (q1 (m9 h7 h3n mG) (q1 (lR qQ) (q1 (kQ F0) (q1 aE (q1 (rIy z10 AF) (q1 (kM (aP.cs (aW y6.gTraits ((v4).toNat))) l9) (q1 aE (q1 (bR pL) ?_)))))))))))
      iterate 2 refine q1 aE ?_
      refine qN (aR.ret ?_)
      obtain rfl:_=r:=(mT (AA (lwR (aX H))):)
      exact NT (hr:=⟨⟨_,_,_,rfl,rfl,l9,rfl,rfl⟩,rfl,rfl,trivial⟩)
     refine aR.skip (qR (q1 aE (q1 (a3.addI rfl rfl rfl rfl (c:=v4+1) (by omega) (by omega)) (q1 aE (qN ?_)))))
     exact X9 ⟨_,(aX H:),bW⟩
    refine aR.exit ?_;exact lwB ⟨_,(aX H:),bW⟩
   rintro v4 H
   refine qR (q1 aE (q1 (rA (i1+1)) (q1 aE (qN ?_))))
   exact iI h3l ⟨_,(aX H:),bW⟩
  refine aR.exit ?_;exact jJ ⟨_,H,bW⟩
 rintro⟨⟩ H
 refine qW (q1 (gW r3 ZS) (q1 (bR pL) ?_))
 iterate 2 refine q1 aE ?_
 refine qN (aR.ret ?_)
 cases aX H
 exact NT (hr:=⟨⟨_,_,_,rfl,rfl,l9,rfl,rfl⟩,rfl,rfl,trivial⟩)
def abE(m:aF→ByteArray→Option (aH×Int×Bool)):Prop:= ∀(pw:aF) (pname:ByteArray) (r:aH×Int×Bool),m pw pname=some r→b4 Tryz.prog 173 [(aF.pv pw),pS pname] (.tup [(aH.pv r.1),pI r.2.1,pB r.2.2]:PV)
def vS(fu:Nat)(pw:aF)(pname:ByteArray)(i1:Nat):Int→Option (LR Int (LR Unit (aH×Int×Bool))):=
 fun v4=>lt (aW pw.gPackages i1) (fun y6=>
 sw (decide (v4<(y6.gDataTypes.length:Int)))
 (gd (0≤v4∧(v4).toNat<(y6.gDataTypes).length)
 (sw (decide ((aW y6.gDataTypes ((v4).toNat)).gName=pname))
 (some (.ret (.ret ((aW y6.gDataTypes ((v4).toNat)),(i1:Int),true))))
 (some (.next (v4+1)))))
 (some (.brk v4)))
def JG(fu:Nat)(pw:aF)(pname:ByteArray)(i1:Nat):Option ((LR Unit (aH×Int×Bool))⊕Int):=
 loopW (vS fu pw pname i1) fu 0
def BP(fu:Nat)(pw:aF)(pname:ByteArray):Nat→Unit→Option (LR Unit (aH×Int×Bool)):=
 fun i1 _=>so (JG fu pw pname i1) (fun v4=>
 some (.next ()))
def JF(fu:Nat)(pw:aF)(pname:ByteArray):Option ((aH×Int×Bool)⊕Unit):=
 loopN (BP fu pw pname) (pw.gPackages.length-0) 0 ()
def uI(fu:Nat)(pw:aF)(pname:ByteArray):Option (aH×Int×Bool):=
 so (JF fu pw pname) (fun _=>
 some ((aH.mk s_ [] []),0,false))
theorem JH(fu:Nat):abE (uI fu):=by
 intro pw pname r H
 have H:=eE H
 refine qI func173 (fun C hC=>?_)
 refine qW (q1 (iM ([aN pw.gPackages])) (q1 (fO jF) ?_))
 iterate 2 refine q1 aE ?_
 refine qN ?_
 refine qS (qS (qR (q1 aE (qN ?_))))
 refine aR.fact (b5 0 0 rfl rfl rfl (aJ.trs_len _)) (fun hl2=>?_)
 refine b0 (σ:=Unit) (fun i1 _=>⟨[(1,pS pname),(2,.ptr 0 0),(4,.ptr 1 0),(5,pI 0),(6,pB false),(7,pN i1)],⟨[some ⟨26,[aN pw.gPackages]⟩,some ⟨116,[pS s_,.nil,.nil]⟩],[]⟩⟩) (fun _=>⟨[(4,.ptr 1 0),(5,pI 0),(6,pB false)],⟨[some ⟨26,[aN pw.gPackages]⟩,some ⟨116,[pS s_,.nil,.nil]⟩],[]⟩⟩) (fK H) ?_ ?_
 ·rintro i1 ⟨⟩ H
  refine qS (qS (qR (q1 aE (q1 (a5 fR) (q1 (bD pP) (q1 (dL mG (aJ.trs_len _)) (q1 gI (qN ?_))))))))
  refine dG H (fun h3 h3l H=>?_) (fun h3 H=>?_)
  ·have h3n:=a4 h3
   refine aR.skip (qS (aR.block (qW (q1 aE (qN ?_)))))
   refine EN (σ:=Int) (fun v4=>⟨[(1,pS pname),(2,.ptr 0 0),(4,.ptr 1 0),(5,pI 0),(6,pB false),(7,pN i1),(8,pI v4),(9,pN i1),(10,.ptr 0 0),(11,aN pw.gPackages),(12,pN pw.gPackages.length),(13,pB (decide ((i1:Int)<(pw.gPackages.length:Int))))],⟨[some ⟨26,[aN pw.gPackages]⟩,some ⟨116,[pS s_,.nil,.nil]⟩],[]⟩⟩) (fun v4=>⟨[(1,pS pname),(2,.ptr 0 0),(4,.ptr 1 0),(5,pI 0),(6,pB false),(7,pN i1),(8,pI v4),(9,pN i1),(10,.ptr 0 0),(11,aN pw.gPackages),(12,pN pw.gPackages.length),(13,pB (decide ((i1:Int)<(pw.gPackages.length:Int))))],⟨[some ⟨26,[aN pw.gPackages]⟩,some ⟨116,[pS s_,.nil,.nil]⟩],[]⟩⟩) (fK H) ?_ ?_
   ·rintro k5 v4 H
    refine qS (qS (qR (q1 aE (q1 (a5 fR) (q1 (bD pP) (q1 aE (fP H fun y6 h7 H=>(q1 (m9 h7 h3n mG) (q1 (lR l7) (q1 (kQ xK) ?_))))))))))
    refine FS 22 (aH.trs_len _) (fun hl8=>?_)
    refine q1 (dL tE (aH.trs_len _)) (q1 gI (qN ?_))
    refine a8 H (fun h9 H=>?_) (fun h9 H=>?_)
    ·refine aR.skip (qS (aR.block (qW (q1 (a5 fR) (q1 (bD pP) (q1 aE (q1 (m9 h7 h3n mG) (q1 (lR l7) (q1 (kQ xK) (q1 aE (dK H fun z10 H=>(q1 (rIy z10 tE) ?_))))))))))))
     refine q1 (lR C5) (q1 (kQ eJ) (q1 aE (q1 AM (qN ?_))))
     refine a8 H (fun h11 H=>?_) (fun h11 H=>?_)
     ·refine qW (q1 (a5 fR) (q1 (bD pP) (q1 aE (q1 (m9 h7 h3n mG) (q1 (lR l7) (q1 (kQ xK) (q1 aE (q1 (rIy z10 tE) (q1 (kM (aH.cs (aW y6.gDataTypes ((v4).toNat))) fI) (q1 aE (q1 (bR iH) ?_)))))))))))
      iterate 2 refine q1 aE ?_
      refine qN (aR.ret ?_)
      obtain rfl:_=r:=(mT (AA (lwR (aX H))):)
      exact NT (hr:=⟨⟨_,_,_,rfl,rfl,fI,rfl,rfl⟩,rfl,rfl,trivial⟩)
     refine aR.skip (qR (q1 aE (q1 (a3.addI rfl rfl rfl rfl (c:=v4+1) (by omega) (by omega)) (q1 aE (qN ?_)))))
     exact X9 ⟨_,(aX H:),bW⟩
    refine aR.exit ?_;exact lwB ⟨_,(aX H:),bW⟩
   rintro v4 H
   refine qR (q1 aE (q1 (rA (i1+1)) (q1 aE (qN ?_))))
   exact iI h3l ⟨_,(aX H:),bW⟩
  refine aR.exit ?_;exact jJ ⟨_,H,bW⟩
 rintro⟨⟩ H
 refine qW (q1 (gW jF MX) (q1 (bR iH) ?_))
 iterate 2 refine q1 aE ?_
 refine qN (aR.ret ?_)
 cases aX H
 exact NT (hr:=⟨⟨_,_,_,rfl,rfl,fI,rfl,rfl⟩,rfl,rfl,trivial⟩)
abbrev n9:=aG→Option aG
def D2(m:n9):Prop:= ∀(pa0:aG) (r:aG),m pa0=some r→b4 Tryz.prog 113 [(aG.pv pa0)] ((aG.pv r):PV)
def adB(fu:Nat)(r_sl11Copy:n9)(pa0:aG)(x2:List aB):Nat→((List aG))→Option (LR ((List aG)) aG):=
 fun i3 v5=>lt (aW pa0.gArgs i3) (fun y8=>
 bd (r_sl11Copy y8) (fun x11=>
 gd ((v5).length+(([x11]:List aG)).length≤68719476736)
 (some (.next (v5++([x11]:List aG))))))
def adD(fu:Nat)(r_sl11Copy:n9)(pa0:aG)(x2:List aB):Option (aG⊕((List aG))):=
 loopN (adB fu r_sl11Copy pa0 x2) (pa0.gArgs.length-0) 0 ([])
def adC(fu:Nat)(r_sl11Copy:n9)(pa0:aG)(x2:List aB)(v5:List aG):Nat→((List bA))→Option (LR ((List bA)) aG):=
 fun i13 v15=>lt (aW pa0.gArms i13) (fun y18=>
 gd (([]:LB).length+(y18.gVars).length≤68719476736)
 (bd (r_sl11Copy y18.gBody) (fun x22=>
 gd ((v15).length+(([(bA.mk y18.gConstructor (([])++y18.gVars) x22)]:List bA)).length≤68719476736)
 (some (.next (v15++([(bA.mk y18.gConstructor (([])++y18.gVars) x22)]:List bA)))))))
def adE(fu:Nat)(r_sl11Copy:n9)(pa0:aG)(x2:List aB)(v5:List aG):Option (aG⊕((List bA))):=
 loopN (adC fu r_sl11Copy pa0 x2 v5) (pa0.gArms.length-0) 0 ([])
def K2(fu:Nat)(r_sl11Copy:n9)(pa0:aG):Option aG:=
 bd (jK fu pa0.gType.gArgs) (fun x2=>
 so (adD fu r_sl11Copy pa0 x2) (fun v5=>
 so (adE fu r_sl11Copy pa0 x2 v5) (fun v15=>
 some (aG.mk pa0.gKind pa0.gTrait pa0.gName pa0.gN (aB.mk pa0.gType.gKind pa0.gType.gName x2) v5 v15))))
theorem XF(fu:Nat)(r_sl11Copy:n9)(h_sl11Copy:D2 r_sl11Copy):D2 (K2 fu r_sl11Copy):=by
 intro pa0 r H
 have H:=eE H
 refine qI func113 (fun C hC=>?_)
 refine qW (q1 (iM (eN pa0)) (q1 (fO kL) (qN (qS (bI H fun x2 z1 H=>(dW (dI [1] (a5 pX) (dI [7] (a5 pF) (dD [8] (bD nT) (dI [1] (a5 pX) (dI [10] (a5 kU) (dD [11] (bD eJ) ?_))))))))))))
 refine dI [1] (a5 pX) (dI [13] (a5 gM) (dD [14] (bD kY) (dI [15] (bG func122 (abL fu pa0.gType.gArgs _ z1)) (dI [9,12,16] (gW jN EX) (dI [1] (a5 pX) (lH [18,17] (bR jE) (dN (qW (q1 (uK ([]:List aG) jZ kL) (q1 aE (qN ?_)))))))))))
 refine qS (qS (qR (q1 aE (qN ?_))))
 refine aR.fact (b5 0 7 rfl rfl rfl (aG.trs_len _)) (fun hl6=>?_)
 refine b0 (σ:=(List aG)) (fun i3 v5=>⟨[(1,.ptr 0 0),(2,.ptr 1 0),(3,TO v5 0),(4,pN i3)],⟨[some ⟨87,[pI pa0.gKind,pS pa0.gTrait,pS pa0.gName,pI pa0.gN,pI pa0.gType.gKind,pS pa0.gType.gName,a7 x2,eB pa0.gArgs,g0 pa0.gArms]⟩,some ⟨87,[pI 0,pS s_,pS s_,pI 0,pI 0,pS s_,.nil,.nil,.nil]⟩],[⟨87,9,aG.trs (v5),false⟩]⟩⟩) (fun v5=>⟨[(1,.ptr 0 0),(2,.ptr 1 0),(3,TO v5 0)],⟨[some ⟨87,[pI pa0.gKind,pS pa0.gTrait,pS pa0.gName,pI pa0.gN,pI pa0.gType.gKind,pS pa0.gType.gName,a7 x2,eB pa0.gArgs,g0 pa0.gArms]⟩,some ⟨87,[pI 0,pS s_,pS s_,pI 0,pI 0,pS s_,.nil,.nil,.nil]⟩],[⟨87,9,aG.trs (v5),false⟩]⟩⟩) (fK H) ?_ ?_
 ·rintro i3 v5 H
  refine qS (qS (qR (q1 aE (q1 (a5 fM) (q1 (bD oZ) (q1 (dL jZ (aG.trs_len _)) (q1 gI (qN ?_))))))))
  refine dG H (fun h7 h7l H=>?_) (fun h7 H=>?_)
  ·have h7n:=a4 h7
   refine aR.skip (qS (aR.block (qR (q1 aE (q1 (a5 fM) (q1 (bD oZ) (q1 aE (fP H fun y8 h9 H=>(q1 (m9 h9 h7n jZ) (q1 (kM (aG.cs y8) fE) (bI H fun x11 z10 H=>(q1 (bG func113 (h_sl11Copy y8 _ z10)) (q1 (j9 ([x11]:List aG) jZ kL) ?_)))))))))))))
   refine dK H fun z12 H=>(q1 (nV z12 jZ arQ) (q1 aE (qN (qR (q1 aE (q1 (rA (i3+1)) (q1 aE (qN ?_))))))))
   exact iI h7l ⟨_,(aX H:),bW⟩
  refine aR.exit ?_;exact jJ ⟨_,H,bW⟩
 rintro v5 H
 refine qW (q1 (uK ([]:List bA) jL QQ) (q1 aE (qN ?_)))
 refine qS (qS (qR (q1 aE (qN ?_))))
 refine aR.fact (b5 0 8 rfl rfl rfl (bA.trs_len _)) (fun hl16=>?_)
 refine b0 (σ:=(List bA)) (fun i13 v15=>⟨[(1,.ptr 0 0),(2,.ptr 1 0),(3,TO v5 0),(5,akS v15 1),(6,pN i13)],⟨[some ⟨87,[pI pa0.gKind,pS pa0.gTrait,pS pa0.gName,pI pa0.gN,pI pa0.gType.gKind,pS pa0.gType.gName,a7 x2,eB pa0.gArgs,g0 pa0.gArms]⟩,some ⟨87,[pI 0,pS s_,pS s_,pI 0,pI 0,pS s_,.nil,.nil,.nil]⟩],[⟨87,9,aG.trs (v5),false⟩,⟨92,11,bA.trs (v15),false⟩]⟩⟩) (fun v15=>⟨[(1,.ptr 0 0),(2,.ptr 1 0),(3,TO v5 0),(5,akS v15 1)],⟨[some ⟨87,[pI pa0.gKind,pS pa0.gTrait,pS pa0.gName,pI pa0.gN,pI pa0.gType.gKind,pS pa0.gType.gName,a7 x2,eB pa0.gArgs,g0 pa0.gArms]⟩,some ⟨87,[pI 0,pS s_,pS s_,pI 0,pI 0,pS s_,.nil,.nil,.nil]⟩],[⟨87,9,aG.trs (v5),false⟩,⟨92,11,bA.trs (v15),false⟩]⟩⟩) (fK H) ?_ ?_
 ·rintro i13 v15 H
  refine qS (qS (qR (q1 aE (q1 (a5 eI) (q1 (bD mN) (q1 (dL jL (bA.trs_len _)) (q1 gI (qN ?_))))))))
  refine dG H (fun h17 h17l H=>?_) (fun h17 H=>?_)
  ·have h17n:=a4 h17
   refine aR.skip (qS (aR.block (fP H fun y18 h19 H=>(dK H fun z20 H=>(bI H fun x22 z21 H=>(dK H fun z23 H=>(dW (dI [5] aE (dI [1] (a5 eI) (dB [45] 0 2 (wL mN) (dI [6] aE (dI [46,47] (m9 h19 h17n jL) (dI [48] (lR tW) ?_)))))))))))))
   refine dI [49] (kQ eJ) (dE [] (uK ([]:LB) b3 lU) (dI [1] (a5 eI) (dB [52] 0 1 (wL mN) (dI [6] aE (dI [53,54] (m9 h19 h17n jL) (dI [55] (lR yY) (dI [56] (kQ kZ) (dE [51,57] (nV z20 b3 tR) (dI [1] (a5 eI) (dB [59] 0 2 (wL mN) (dI [6] aE (dI [60,61] (m9 h19 h17n jL) (dI [62] (lR A6) ?_)))))))))))))
   refine dI [63] (kM (aG.cs y18.gBody) fE) (dI [64] (bG func113 (h_sl11Copy y18.gBody _ z21)) (dI [50,58,65] (gW QQ anV) (dI [66] (j9 ([(bA.mk y18.gConstructor (([])++y18.gVars) x22)]:List bA) jL QQ) (dE [44,67] (nV z23 jL asV) (dI [68] aE (dN (qR (q1 aE (q1 (rA (i13+1)) (q1 aE (qN ?_)))))))))))
   exact iI h17l ⟨_,(aX H:),bW⟩
  refine aR.exit ?_;exact jJ ⟨_,H,bW⟩
 rintro v15 H
 refine qW (q1 aE (q1 (a5 fM) (q1 (bR as8) (qN (qW (q1 aE (q1 (a5 eI) (q1 (bR asM) (qN (qS (qR ?_)))))))))))
 refine q1 (cJ [pI pa0.gKind,pS pa0.gTrait,pS pa0.gName,pI pa0.gN,pI pa0.gType.gKind,pS pa0.gType.gName,a7 x2,TO v5 0,akS v15 1] fE) (q1 (bR nA) (qZ ?_))
 cases aX H
 exact bE (hr:=⟨⟨_,_,_,rfl,rfl,fE,rfl,rfl⟩,trivial⟩)
def m3:Nat→aG→Option aG
 |0,_=>none
 |fu+1,pa0=>K2 fu (m3 fu) pa0
theorem Z4(fu:Nat):D2 (m3 fu):=by
 induction fu with
 |zero=>exact(fun pa0 r H=>by simp only [m3] at H;cases H)
 |succ fu ih=>exact(fun pa0 r H=>by simp only [m3] at H;exact XF fu (m3 fu) ih pa0 r H)
theorem adG(fu:Nat):D2 (m3 fu):=(Z4 fu)
def aq7(m:(List UInt8)→Option Bool):Prop:= ∀(pcode:List UInt8) (r:Bool),m pcode=some r→b4 Tryz.prog 10 [rU pcode] (pB r:PV)
def UH(fu:Nat)(pcode:List UInt8):Option Bool:=
 some (decide ((pcode.length:Int)>1048576))
theorem ajX(fu:Nat):aq7 (UH fu):=by
 intro pcode r H
 have H:=eE H
 refine qI func10 (fun C hC=>?_)
 refine qW (q1 aE (qN (qW (q1 aE (q1 (dL acJ (iB _)) (q1 KL (q1 aE (qZ ?_))))))))
 cases aX H
 exact bE
end
end Go.Proofs.YtpioomclpaiomaaGreat.W

namespace Go.Proofs.YtpioomclpaiomaaGreat
open Go.RowKit Go.WalkArith Go.IntWalk Go.WideShapes
abbrev eV:=List Int
def eV.cs(x:eV):List Tr:= [.row 1 (jS x)]
def eV.tr(x:eV):List Tr:= [.row 1 (jS x)]
def eV.trs(l:List eV):List (List Tr):=l.map eV.tr
theorem eV.trs_map(l:List eV):eV.trs l=l.map eV.tr:=rfl
theorem eV.trs_len(l:List eV):(eV.trs l).length=l.length:=by rw [eV.trs_map,List.length_map]
theorem eV.trs_at{l:List eV}{k:Nat}(h:k<l.length):(eV.trs l)[k]?=some (eV.cs (aW l k)):=by rw [eV.trs_map,List.getElem?_map,List.getElem?_eq_getElem h,gE h];rfl
instance:TC eV:=⟨eV.cs,eV.trs,1,eV.trs_at,eV.trs_len,fun _=>rfl,fun _=>rfl⟩
abbrev XV(l:List eV)(k:Nat):PV:= .acc 1 (eV.trs l) k
def bP(l:List Bool):List PV:=l.map fun b=> .t (.leaf (.bool b))
theorem aqS(l:List Bool):(bP l).length=l.length:=by unfold bP;rw [List.length_map]
theorem arY{l:List Bool}{i:Nat}(h:i<l.length):(bP l)[i]?=some (.t (.leaf (.bool (aW l i)))):=by
 unfold bP
 rw [List.getElem?_map,List.getElem?_eq_getElem h,gE h]
 rfl
theorem aqT{l:List Bool}{i:Nat}(b:Bool)(h:i<l.length):(bP l).take i++ [.t (.leaf (.bool b))]++(bP l).drop (i+1)=bP (l.set i b):=by
 unfold bP
 rw [List.set_eq_take_append_cons_drop,if_pos h,List.map_append,List.map_take,List.map_cons,List.map_drop,List.append_assoc]
 rfl
theorem ajM{st:c8}: ∀l:List Bool,l5 st (bP l)=true
 | []=>rfl
 |b::l=>by
  show l5 st (.t (.leaf (.bool b))::bP l)=true
  rw [l5,ajM l]
  rfl
theorem acG{ok:Nat→Nat→Prop}{st:c8}{m:kA}{w:World}: ∀(N:Nat),iK ok st m w (bP (List.replicate N false)) (List.replicate N (.bool false))
 |0=>trivial
 |N+1=>⟨.leaf (by simp [tU]),acG N⟩
section
variable {P:Program} {C:qM} {n:Nat} {s:AS} {o:Oper}
theorem a3.makeBits{T E by_ N:Nat}{x y:Operand}(hT:elemOf? P T=some (E,1,by_))(hz:cO P E=some [.t (.leaf (.bool false))])(hb:by_*N≤281474976710656)(hN:N≤9223372036854775807)
 (ho:o.op= .makeSlice T x y:=by exact rfl) (hd:bO o.dst n=true:=by exact rfl) (hx:s.ev x=some (.t (.leaf (.int .i64 (N:Int)))):=by exact rfl) (hy:s.ev y=some (.t (.leaf (.int .i64 (N:Int)))):=by exact rfl):
 a3 P C n o s ((⟨s.env,s.st.addBox ⟨E,bP (List.replicate N false)⟩⟩:AS).putO o.dst (.bsl s.st.boxes.length N)):=
 a3.run hd (s1:=⟨s.env,s.st.addBox ⟨E,bP (List.replicate N false)⟩⟩) (fun m a w h=>by
  obtain⟨i,hu,hi,hs,hby⟩:=elemOf?.spec hT
  obtain⟨i',z,hi',hzz,hzr⟩:=cO.spec hz
  rw [hi] at hi'
  cases hi'
  have h1:=(cL.leaf_eq (h.eval hx)).1
  have h2:=(cL.leaf_eq (h.eval hy)).1
  have hb':(i.bytes:Int)*(N:Int)≤281474976710656:=by
   rw [hby]
   have:((by_*N:Nat):Int)≤281474976710656:=by omega
   rwa [Int.natCast_mul] at this
  have hr:=run_make (P:=P) w T E i z hu hi hzz .i64 .i64 N N (by omega) (Int.le_refl _) hb' (by omega)
  simp only [Int.toNat_natCast,hs,Nat.mul_one] at hr
  have hz1:z.cells= #[.bool false]:=by
   have h:=hzr (lT C.av s.st m) s.st m w
   match hc:z.cells.toList,h with
   | [v],h=>
    have:=(cL.leaf_eq h.1).1
    subst this
    exact Array.toList_inj.1 hc
  have hm:madeCells z.cells N=⟨List.replicate N (.bool false)⟩:=by
   apply Array.toList_inj.1
   unfold madeCells
   rw [hz1]
   refine List.ext_getElem (by simp) fun k h1 h2=>?_
   simp [Nat.mod_one]
  rw [hm] at hr
  refine⟨.slice (some ⟨w.heap.size,0,none⟩) N N,⟨ET m.ρ s.st.boxes.length w.heap.size,m.γ⟩,_,?_,BX (x:=⟨E,bP (List.replicate N false)⟩),EH (x:=⟨E,bP (List.replicate N false)⟩) h.sto (acG N),⟨⟨E,bP (List.replicate N false)⟩,by simp [c8.addBox]⟩,by simp [cG]⟩
  unfold execOp
  simp only [ho,h1,h2,Sem.run_bind,hr,Result.andThen_ok]
  rfl) rfl
theorem a3.makeBitsI{T E:Nat}{z:Int}{x y:Operand}(hz0:0≤z∧z.toNat≤68719476736)(hT:elemOf? P T=some (E,1,1))(hz:cO P E=some [.t (.leaf (.bool false))])
 (ho:o.op= .makeSlice T x y:=by exact rfl) (hd:bO o.dst n=true:=by exact rfl) (hx:s.ev x=some (.t (.leaf (.int .i64 z))):=by exact rfl) (hy:s.ev y=some (.t (.leaf (.int .i64 z))):=by exact rfl):
 a3 P C n o s ((⟨s.env,s.st.addBox ⟨E,bP (List.replicate z.toNat false)⟩⟩:AS).putO o.dst (.bsl s.st.boxes.length z.toNat)):=
 a3.makeBits hT hz (by omega) (by omega) ho hd (by rw [hx,Int.toNat_of_nonneg hz0.1]) (by rw [hy,Int.toNat_of_nonneg hz0.1])
theorem a3.indexBits{T E by_ k N i:Nat}{x y:Operand}(hi:i<N)(hT:elemOf? P T=some (E,1,by_))(ho:o.op= .indexAddr T x y:=by exact rfl)(hd:bO o.dst n=true:=by exact rfl)(hx:s.ev x=some (.bsl k N):=by exact rfl)(hy:s.ev y=some (.t (.leaf (.int .i64 (i:Int)))):=by exact rfl):
 a3 P C n o s (s.putO o.dst (.ptr k i)):=by
 have h:=a3.indexB (P:=P) (C:=C) (s:=s) ho hd hx hy hi hT
 rwa [Nat.mul_one] at h
theorem a3.indexBitsI{T E by_ k N:Nat}{z:Int}{x y:Operand}(hi:0≤z∧z.toNat<N)(hT:elemOf? P T=some (E,1,by_))(ho:o.op= .indexAddr T x y:=by exact rfl)(hd:bO o.dst n=true:=by exact rfl)(hx:s.ev x=some (.bsl k N):=by exact rfl)(hy:s.ev y=some (.t (.leaf (.int .i64 z))):=by exact rfl):
 a3 P C n o s (s.putO o.dst (.ptr k z.toNat)):=a3.indexBits hi.2 hT ho hd hx (by rw [hy,Int.toNat_of_nonneg hi.1])
theorem a3.loadBits{T:TypeId}{x:Operand}{k i z E:Nat}{l:List Bool}(hi:i<l.length)(hT:cC P T=some (false,z))(ho:o.op= .load T x:=by exact rfl)(hd:bO o.dst n=true:=by exact rfl)(hx:s.ev x=some (.ptr k i):=by exact rfl)(hb:s.st.boxes[k]?=some (some ⟨E,bP l⟩):=by exact rfl):
 a3 P C n o s (s.putO o.dst (.t (.leaf (.bool (aW l i))))):=a3.loadPtr1 ho hd hx hb hT (arY hi)
theorem a3.storeBits{T:TypeId}{x y:Operand}{k i E:Nat}{l:List Bool}{b:Bool}(hi:i<l.length)(hT:(P.info? T).map (·.size)=some 1)(ho:o.op= .store T x y:=by exact rfl)(hx:s.ev x=some (.ptr k i):=by exact rfl)(hb:s.st.boxes[k]?=some (some ⟨E,bP l⟩):=by exact rfl)(hy:s.ev y=some (.t (.leaf (.bool b))):=by exact rfl):
 a3 P C n o s ((⟨s.env,s.st.setBox k ⟨E,bP (l.set i b)⟩⟩:AS).delO o.dst):=
 a3.storePtr (bx:=⟨E,bP l⟩) (cs:= [.t (.leaf (.bool b))]) ho hx hb hy rfl rfl rfl hT (by show i+1≤(bP l).length;rw [aqS];omega) (aqT b hi)
theorem a3.lenBits{T:TypeId}{x:Operand}{k N:Nat}{E:Nat×Nat×Nat}(hN:N≤68719476736)(hT:elemOf? P T=some E)(ho:o.op= .call { callee:= .builtin .len,args:= #[x],argTypes:= #[T] }:=by exact rfl)(hd:bO o.dst n=true:=by exact rfl)(hx:s.ev x=some (.bsl k N):=by exact rfl):
 a3 P C n o s (s.putO o.dst (.t (.leaf (.int .i64 (N:Int))))):=
 a3.quiet (c9 hd) fun m a w h=>by
  obtain⟨hb,hv⟩:=h.eval hx
  obtain⟨E1,E2,E3⟩:=E
  obtain⟨i,hu,-,-,-⟩:=elemOf?.spec hT
  refine⟨.int .i64 (N:Int),?_,cL.leaf (wf_i64 (by omega))⟩
  unfold execOp
  simp [ho,resolve,invoke,builtin,hv,Builtin.len_,run_underlying hu,goInt]
theorem as1(i:Nat){z:Int}{c:Code}{Q:Exit→AS→Prop}(k:z≤9223372036854775807→aR P C n c Q s)(hx:s.lk i=some (.t (.leaf (.int .i64 z))):=by exact rfl):aR P C n c Q s:=aR.fact (fun m a w h=>by
 obtain⟨u,-,hr⟩:=h.env i _ hx
 have h1:(Lit.int .i64 z).wf=true:=(cL.leaf_eq hr).2
 unfold Lit.wf at h1
 rw [Bool.and_eq_true,decide_eq_true_eq,decide_eq_true_eq] at h1
 exact h1.2) k
theorem ibX{id j:Nat}{Q:Exit→AS→Prop}(h:Q (.exit j) s)(hne: ¬j=id:=by exact of_decide_eq_false rfl):r8 id Q (.exit j) s:=by
 simp only [r8]
 rw [if_neg hne]
 exact h
theorem leB{p:Prop}(h:p:=by(repeat' (first|exact PV.Le.refl _|exact tS.refl _|exact tS.nil|exact PV.Le.nil _|exact PV.Le.acc _ _ _|exact PV.Le.lit _ _|exact PV.Le.nilLit _|apply tS.cons|apply PV.Le.agg|apply PV.Le.tup))):p:=h
theorem asI{st st':c8}(hb:yP st' st.boxes st'.boxes:=by repeat' (first|exact trivial|refine⟨⟨rfl,leB,(by first|rfl|exact ajM _)⟩,?_⟩))(hr:st.rows.take st'.rows.length=st'.rows:=by first|rfl|simp):nU st st':=nU.mk' hb hr
theorem wkB{s s':AS}(hst:nU s.st s'.st:=by exact asI)(hp:lF C.st s'.st:=by exact X8)(he:TF s s'.st s'.env:=by repeat' (first|exact trivial|refine⟨⟨_,rfl,iX,rfl⟩,?_⟩)):Wk C n s s':=Wk.mk hst hp he
end
end Go.Proofs.YtpioomclpaiomaaGreat

namespace Go.Proofs.YtpioomclpaiomaaGreat.W
set_option maxRecDepth 100000
set_option maxHeartbeats 40000000
noncomputable section
open Tryz Go.RowKit Go.Proofs
attribute [local irreducible] lt
def SM(m:aF→ByteArray→Option Int):Prop:= ∀(pw:aF) (pname:ByteArray) (r:Int),m pw pname=some r→b4 Tryz.prog 202 [(aF.pv pw),pS pname] (pI r:PV)
def CL(fu:Nat)(pw:aF)(pname:ByteArray):Nat→Unit→Option (LR Unit Int):=
 fun i1 _=>lt (aW pw.gPackages i1) (fun y4=>
 sw (decide (y4.gName=pname))
 (some (.ret (i1:Int)))
 (some (.next ())))
def CM(fu:Nat)(pw:aF)(pname:ByteArray):Option (Int⊕Unit):=
 loopN (CL fu pw pname) (pw.gPackages.length-0) 0 ()
def oY(fu:Nat)(pw:aF)(pname:ByteArray):Option Int:=
 so (CM fu pw pname) (fun _=>
 some (-1))
theorem PJ(fu:Nat):SM (oY fu):=by
 intro pw pname r H
 have H:=eE H
 refine qI func202 (fun C hC=>?_)
 refine qW (q1 (iM ([aN pw.gPackages])) (q1 aE (qN ?_)))
 refine qS (qS (qR (q1 aE (qN ?_))))
 refine aR.fact (b5 0 0 rfl rfl rfl (aJ.trs_len _)) (fun hl2=>?_)
 refine b0 (σ:=Unit) (fun i1 _=>⟨[(1,pS pname),(2,.ptr 0 0),(4,pI 0),(5,pN i1)],⟨[some ⟨26,[aN pw.gPackages]⟩],[]⟩⟩) (fun _=>⟨[(4,pI 0)],⟨[some ⟨26,[aN pw.gPackages]⟩],[]⟩⟩) (fK H) ?_ ?_
 ·rintro i1 ⟨⟩ H
  refine qS (qS (qR (q1 aE (q1 (a5 fR) (q1 (bD pP) (q1 (dL mG (aJ.trs_len _)) (q1 gI (qN ?_))))))))
  refine dG H (fun h3 h3l H=>?_) (fun h3 H=>?_)
  ·have h3n:=a4 h3
   refine aR.skip (qS (aR.block (qW (q1 (a5 fR) (q1 (bD pP) (q1 aE (fP H fun y4 h5 H=>(q1 (m9 h5 h3n mG) (q1 (lR LX) (q1 (kQ eJ) (q1 aE (q1 AM ?_))))))))))))
   refine qN ?_;refine a8 H (fun h6 H=>?_) (fun h6 H=>?_)
   ·refine qS (qR ?_)
    iterate 2 refine q1 aE ?_
    refine qN (aR.ret ?_)
    obtain rfl:_=r:=(mT (aX H):)
    exact bE
   refine aR.skip (qR (q1 aE (q1 (rA (i1+1)) (q1 aE (qN ?_)))))
   exact iI h3l ⟨_,(aX H:),bW⟩
  refine aR.exit ?_;exact jJ ⟨_,H,bW⟩
 rintro⟨⟩ H
 refine qW (q1 aE (qZ ?_))
 cases aX H
 exact bE
def afA(m:(List Int)→Int→Option Bool):Prop:= ∀(plist:List Int) (px:Int) (r:Bool),m plist px=some r→b4 Tryz.prog 184 [rI plist,pI px] (pB r:PV)
def NH(fu:Nat)(plist:List Int)(px:Int):Nat→Unit→Option (LR Unit Bool):=
 fun i1 _=>sw (decide ((aW plist i1:Int)=px))
 (some (.ret true))
 (some (.next ()))
def NI(fu:Nat)(plist:List Int)(px:Int):Option (Bool⊕Unit):=
 loopN (NH fu plist px) (plist.length-0) 0 ()
def wH(fu:Nat)(plist:List Int)(px:Int):Option Bool:=
 so (NI fu plist px) (fun _=>
 some false)
theorem NJ(fu:Nat):afA (wH fu):=by
 intro plist px r H
 have H:=eE H
 refine qI func184 (fun C hC=>?_)
 refine qW (q1 aE (qN ?_))
 refine qS (qS (qR (q1 aE (qN ?_))))
 refine lD 0 (eM _) (fun hl2=>?_)
 refine b0 (σ:=Unit) (fun i1 _=>⟨[(0,rI plist),(1,pI px),(4,pB false),(5,pN i1)],⟨[],[]⟩⟩) (fun _=>⟨[(4,pB false)],⟨[],[]⟩⟩) (fK H) ?_ ?_
 ·rintro i1 ⟨⟩ H
  refine qS (qS (qR ?_))
  iterate 2 refine q1 aE ?_
  refine q1 (dL N8 (eM _)) (q1 gI (qN ?_))
  refine dG H (fun h3 h3l H=>?_) (fun h3 H=>?_)
  ·have h3n:=a4 h3
   refine aR.skip (qS (aR.block (qS (qR ?_))))
   iterate 2 refine q1 aE ?_
   refine q1 (kP h3n N8) (q1 (kQ nT) (q1 aE (q1 dM (qN ?_))))
   refine a8 H (fun h4 H=>?_) (fun h4 H=>?_)
   ·refine qW (q1 aE (qZ ?_))
    obtain rfl:_=r:=(mT (aX H):)
    exact bE
   refine aR.skip (qR (q1 aE (q1 (rA (i1+1)) (q1 aE (qN ?_)))))
   exact iI h3l ⟨_,(aX H:),bW⟩
  refine aR.exit ?_;exact jJ ⟨_,H,bW⟩
 rintro⟨⟩ H
 refine qW (q1 aE (qZ ?_))
 cases aX H
 exact bE
def K0(m:aF→Int→Option ((List Int))):Prop:= ∀(pa0:aF) (pa1:Int) (r:(List Int)),m pa0 pa1=some r→b4 Tryz.prog 185 [(aF.pv pa0),pI pa1] (rI r:PV)
def nC(fu:Nat)(pa0:aF)(pa1:Int)(x2:Bool)(v6:List eV)(v5:Int)(i10:Nat)(v12:List Int):((List Int)×Int)→Option (LR ((List Int)×Int) (LR ((List Int)) (LR ((List eV)×Int) ((List Int))))):=
 fun(v17,v16)=>gd (0≤v5∧(v5).toNat<(pa0.gPackages).length)
 (lt (aW pa0.gPackages ((v5).toNat)) (fun y23=>
 sw (decide (v16<(y23.gDeps.length:Int)))
 (gd (0≤v16∧(v16).toNat<(y23.gDeps).length)
 (bd (oY fu pa0 (aW y23.gDeps ((v16).toNat))) (fun x29=>
 sw (decide (x29≥0))
 (sw (decide (x29<v5))
 (gd (0≤x29∧(x29).toNat<(v6).length)
 (bd (wH fu (aW v6 ((x29).toNat)) (i10:Int)) (fun x35=>
 sw (x35)
 (gd ((v17).length+(([(i10:Int)]:List Int)).length≤68719476736)
 (some (.brk ((v17++([(i10:Int)]:List Int)),v16))))
 (some (.next (v17,(v16+1)))))))
 (some (.next (v17,(v16+1)))))
 (some (.next (v17,(v16+1)))))))
 (some (.brk (v17,v16)))))
def xI(fu:Nat)(pa0:aF)(pa1:Int)(x2:Bool)(v6:List eV)(v5:Int)(i10:Nat)(v12:List Int):Option ((LR ((List Int)) (LR ((List eV)×Int) ((List Int))))⊕((List Int)×Int)):=
 loopW (nC fu pa0 pa1 x2 v6 v5 i10 v12) fu (v12,0)
def rY(fu:Nat)(pa0:aF)(pa1:Int)(x2:Bool)(v6:List eV)(v5:Int):Nat→((List Int))→Option (LR ((List Int)) (LR ((List eV)×Int) ((List Int)))):=
 fun i10 v12=>so (xI fu pa0 pa1 x2 v6 v5 i10 v12) (fun(v17,v16)=>
 some (.next v17))
def rZ(fu:Nat)(pa0:aF)(pa1:Int)(x2:Bool)(v6:List eV)(v5:Int):Option ((LR ((List eV)×Int) ((List Int)))⊕((List Int))):=
 loopN (rY fu pa0 pa1 x2 v6 v5) ((v5).toNat-0) 0 ([])
def jH(fu:Nat)(pa0:aF)(pa1:Int)(x2:Bool):((List eV)×Int)→Option (LR ((List eV)×Int) ((List Int))):=
 fun(v6,v5)=>sw (decide (v5≤pa1))
 (so (rZ fu pa0 pa1 x2 v6 v5) (fun v12=>
 gd ((v12).length+(([v5]:List Int)).length≤68719476736)
 (gd ((v6).length+(([(v12++([v5]:List Int))]:List eV)).length≤68719476736)
 (some (.next ((v6++([(v12++([v5]:List Int))]:List eV)),(aQ (v5+1))))))))
 (some (.brk (v6,v5)))
def IP(fu:Nat)(pa0:aF)(pa1:Int)(x2:Bool):Option (((List Int))⊕((List eV)×Int)):=
 loopW (jH fu pa0 pa1 x2) fu (([]),0)
def tB(fu:Nat)(pa0:aF)(pa1:Int):Option ((List Int)):=
 bd (rG fu pa1 0 (aQ ((pa0.gPackages.length:Int)-1))) (fun x2=>
 sw (!(x2))
 (some ([]))
 (so (IP fu pa0 pa1 x2) (fun(v6,v5)=>
 gd (0≤pa1∧(pa1).toNat<(v6).length)
 (some (aW v6 ((pa1).toNat))))))
theorem IQ(fu:Nat):K0 (tB fu):=by
 intro pa0 pa1 r H
 have H:=eE H
 refine qI func185 (fun C hC=>?_)
 refine qW (q1 (iM ([aN pa0.gPackages])) (q1 aE (qN ?_)))
 refine qS (qS (qR (q1 aE (q1 (a5 fR) (q1 (bD pP) (q1 (dL mG (aJ.trs_len _)) (q1 EP (bI H fun x2 z1 H=>(q1 (bG func108 (zV fu pa1 0 (aQ ((pa0.gPackages.length:Int)-1)) _ z1)) (q1 hQ (qN ?_)))))))))))
 refine a8 H (fun h3 H=>?_) (fun h3 H=>?_)
 ·refine qW (q1 (uK ([]:List Int) N8 zr3) (q1 aE (qZ ?_)))
  cases aX H
  exact bE
 refine aR.skip (qW (q1 (uK ([]:List eV) acK asX) (q1 aE (qN ?_))))
 refine qS (qS (qR (q1 aE (qN ?_))))
 refine lD 5 (eV.trs_len _) (fun hl8=>?_)
 refine EN (σ:=(List eV)×Int) (fun(v6,v5)=>⟨[(1,pI pa1),(2,.ptr 0 0),(4,.nil),(5,XV v6 0),(6,pI v5)],⟨[some ⟨26,[aN pa0.gPackages]⟩],[⟨41,1,eV.trs (v6),false⟩]⟩⟩) (fun(v6,v5)=>⟨[(1,pI pa1),(4,.nil),(5,XV v6 0)],⟨[some ⟨26,[aN pa0.gPackages]⟩],[⟨41,1,eV.trs (v6),false⟩]⟩⟩) (fK H) ?_ ?_
 ·rintro k7 ⟨v6,v5⟩ H
  refine qS (qS (qR ?_))
  iterate 2 refine q1 aE ?_
  refine q1 rLe (qN ?_)
  refine a8 H (fun h9 H=>?_) (fun h9 H=>?_)
  ·refine aR.skip (qS (aR.block (qW (q1 (uK ([]:List Int) N8 zr3) (q1 aE (qN ?_))))))
   refine qS (qS (qR (q1 aE (qN ?_))))
   refine as1 6 (fun hi13=>?_)
   refine b0 (σ:=(List Int)) (fun i10 v12=>⟨[(1,pI pa1),(2,.ptr 0 0),(4,.nil),(5,XV v6 0),(6,pI v5),(7,aI v12 1),(8,pN i10),(20,pI v5),(21,pI pa1),(22,pB (decide (v5≤pa1))),(25,aI [] 1)],⟨[some ⟨26,[aN pa0.gPackages]⟩],[⟨41,1,eV.trs (v6),false⟩,⟨3,1,jS (v12),false⟩]⟩⟩) (fun v12=>⟨[(1,pI pa1),(2,.ptr 0 0),(4,.nil),(5,XV v6 0),(6,pI v5),(7,aI v12 1),(20,pI v5),(21,pI pa1),(22,pB (decide (v5≤pa1))),(25,aI [] 1)],⟨[some ⟨26,[aN pa0.gPackages]⟩],[⟨41,1,eV.trs (v6),false⟩,⟨3,1,jS (v12),false⟩]⟩⟩) (fK H) ?_ ?_
   ·rintro i10 v12 H
    refine qS (qS (qR ?_))
    iterate 2 refine q1 aE ?_
    refine q1 gI (qN ?_)
    refine dG H (fun h14 h14l H=>?_) (fun h14 H=>?_) UM UL
    ·refine aR.skip (qS (aR.block (qW (q1 aE (qN ?_)))))
     refine lD 5 (eV.trs_len _) (fun hl19=>?_)
     refine lD 7 (eM _) (fun hl20=>?_)
     refine EN (σ:=(List Int)×Int) (fun(v17,v16)=>⟨[(1,pI pa1),(2,.ptr 0 0),(4,.nil),(5,XV v6 0),(6,pI v5),(7,aI v17 1),(8,pN i10),(9,pI v16),(20,pI v5),(21,pI pa1),(22,pB (decide (v5≤pa1))),(25,aI [] 1),(26,pN i10),(27,pI v5),(28,pB (decide ((i10:Int)<v5)))],⟨[some ⟨26,[aN pa0.gPackages]⟩],[⟨41,1,eV.trs (v6),false⟩,⟨3,1,jS (v17),false⟩]⟩⟩) (fun(v17,v16)=>⟨[(1,pI pa1),(2,.ptr 0 0),(4,.nil),(5,XV v6 0),(6,pI v5),(7,aI v17 1),(8,pN i10),(9,pI v16),(20,pI v5),(21,pI pa1),(22,pB (decide (v5≤pa1))),(25,aI [] 1),(26,pN i10),(27,pI v5),(28,pB (decide ((i10:Int)<v5)))],⟨[some ⟨26,[aN pa0.gPackages]⟩],[⟨41,1,eV.trs (v6),false⟩,⟨3,1,jS (v17),false⟩]⟩⟩) (fK H) ?_ ?_
     ·rintro k18 ⟨v17,v16⟩ H
      refine qS (qS (qR (q1 aE (q1 (a5 fR) (q1 (bD pP) ?_)))))
      refine FS 33 (aJ.trs_len _) (fun hl21=>?_)
      refine q1 aE (dK H fun z22 H=>(fP H fun y23 h24 H=>(q1 (rIm h24 z22 mG) (q1 (lR C7) (q1 (kQ kZ) ?_)))))
      refine FS 37 (bC _) (fun hl25=>?_)
      refine q1 (dL b3 (bC _)) (q1 gI (qN ?_))
      refine a8 H (fun h26 H=>?_) (fun h26 H=>?_)
      ·refine aR.skip (qS (aR.block (qS (dK H fun z27 H=>(bI H fun x29 z28 H=>(dW (dD [2] (cJ [aN pa0.gPackages] hZ) (dI [2] (a5 fR) (dD [43] (bD pP) (dI [6] aE (dI [44,45] (rIm h24 z22 mG) (dI [46] (lR C7) (dI [47] (kQ kZ) ?_)))))))))))))
       refine dI [9] aE (dI [48,49] (rIy z27 b3) (dI [50] (kQ eJ) (dI [42,51] (bG func202 (PJ fu pa0 (aW y23.gDeps ((v16).toNat)) _ z28)) (dI [52] aE (dN (qW (q1 aE (q1 S8 (q1 aE ?_)))))))))
       refine eF 55 H (fun g30 H=>?_) fun g30 H=>?_
       ·refine qg g30 aE (qg g30 aE (qg g30 gI (q1 (bV g30) (q1 aE ?_))))
        refine eF 60 H (fun g31 H=>?_) fun g31 H=>?_
        ·refine qg g31 aE (qg g31 aE (dK H fun z32 H=>(qg g31 (rIy z32 acK) (qg g31 (kQ arL) ?_))))
         refine FS 64 (eM _) (fun hl33=>?_)
         refine qg g31 aE (bI H fun x35 z34 H=>(qg g31 (bG func184 (NJ fu (aW v6 ((x29).toNat)) (i10:Int) _ z34)) (q1 (bV g31) (qN ?_))))
         refine a8 H (fun h36 H=>?_) (fun h36 H=>?_)
         ·refine qS (qR ?_)
          iterate 2 refine q1 aE ?_
          refine q1 (j9 ([(i10:Int)]:List Int) N8 zr3) (dK H fun z37 H=>(q1 (nV z37 N8 arP) (q1 aE (qN (aR.exit ?_)))))
          refine ibX ?_;exact lwB ⟨_,(aX H:),bW⟩
         refine aR.skip (qR (q1 aE (q1 (a3.addI rfl rfl rfl rfl (c:=v16+1) (by omega) (by omega)) (q1 aE (qN ?_)))))
         exact X9 ⟨_,(aX H:),bW⟩
        iterate 6 refine qk g31 ?_
        refine q1 (b9 g31) (qN (jR rfl (aR.skip (qR (q1 aE (q1 (a3.addI rfl rfl rfl rfl (c:=v16+1) (by omega) (by omega)) (q1 aE (qN ?_))))))))
        exact X9 ⟨_,(aX H:),bW⟩
       iterate 3 refine qk g30 ?_
       refine q1 (b9 g30) (q1 aE ?_)
       iterate 6 refine qk rfl ?_
       refine q1 (b9 rfl) (qN (jR rfl (aR.skip (qR (q1 aE (q1 (a3.addI rfl rfl rfl rfl (c:=v16+1) (by omega) (by omega)) (q1 aE (qN ?_))))))))
       exact X9 ⟨_,(aX H:),bW⟩
      refine aR.exit ?_;exact lwB ⟨_,(aX H:),bW⟩
     rintro⟨v17,v16⟩ H
     refine qR (q1 aE (q1 (rA (i10+1)) (q1 aE (qN ?_))))
     exact iI h14l ⟨_,(aX H:),bW⟩
    refine aR.exit ?_;exact jJ ⟨_,H,bW⟩
   rintro v12 H
   refine qR ?_
   iterate 3 refine q1 aE ?_
   refine q1 (j9 ([v5]:List Int) N8 zr3) (dK H fun z38 H=>(q1 (nV z38 N8 arP) (q1 (j9 ([(v12++([v5]:List Int))]:List eV) acK asX) (dK H fun z39 H=>(q1 (nV z39 acK asS) (q1 aE (qN (qR (q1 aE (q1 MZ (q1 aE (qN ?_))))))))))))
   exact X9 ⟨_,(aX H:),bW⟩
  refine aR.exit ?_;exact lwB ⟨_,(aX H:),bW⟩
 rintro⟨v6,v5⟩ H
 refine qS (qR ?_)
 iterate 2 refine q1 aE ?_
 refine dK H fun z40 H=>(q1 (rIy z40 acK) (q1 (kQ arL) (q1 aE (qZ ?_))))
 cases aX H
 exact bE
end
end Go.Proofs.YtpioomclpaiomaaGreat.W

namespace Go.Proofs.YtpioomclpaiomaaGreat.W
set_option maxRecDepth 100000
set_option maxHeartbeats 40000000
noncomputable section
open Tryz Go.RowKit Go.Proofs
attribute [local irreducible] lt
def MG(m:aJ→ByteArray→Option Bool):Prop:= ∀(pp:aJ) (c1:ByteArray) (r:Bool),m pp c1=some r→c6 Tryz.prog 198 [(aJ.pv pp),.ptr 0 0] ⟨[some ⟨9,[pS c1]⟩],[]⟩ (fun q t=>q=(pB r:PV)∧t=⟨[some ⟨9,[pS c1]⟩],[]⟩)
def tZ(fu:Nat)(pp:aJ)(c1:ByteArray):Option Bool:=
 some (decide (pp.gName=c1))
theorem J3(fu:Nat):MG (tZ fu):=by
 intro pp c1 r H
 have H:=eE H
 refine qI func198 (fun C hC=>?_)
 refine qW (q1 (iM (dV pp)) (q1 aE (qN (qW (q1 (a5 LX) ?_)))))
 iterate 2 refine q1 (bD eJ) ?_
 refine q1 AM (q1 aE (qZ ?_))
 cases aX H
 exact bE
def qU(m:(List aJ)→ByteArray→Option Int):Prop:= ∀(ps:List aJ) (c1_0:ByteArray) (r:Int),m ps c1_0=some r→c6 Tryz.prog 197 [aN ps,.fn 198 [.ptr 0 0]] ⟨[some ⟨9,[pS c1_0]⟩],[]⟩ (fun q t=>q=(pI r:PV)∧t=⟨[some ⟨9,[pS c1_0]⟩],[]⟩)
def kE(fu:Nat)(ps:List aJ)(c1_0:ByteArray):Nat→Unit→Option (LR Unit Int):=
 fun i1 _=>lt (aW ps i1) (fun y4=>
 bd (tZ fu y4 c1_0) (fun x7=>
 sw (x7)
 (some (.ret (i1:Int)))
 (some (.next ()))))
def kF(fu:Nat)(ps:List aJ)(c1_0:ByteArray):Option (Int⊕Unit):=
 loopN (kE fu ps c1_0) (ps.length-0) 0 ()
def gY(fu:Nat)(ps:List aJ)(c1_0:ByteArray):Option Int:=
 so (kF fu ps c1_0) (fun _=>
 some (-1))
theorem pZ(fu:Nat):qU (gY fu):=by
 intro ps c1_0 r H
 have H:=eE H
 refine qI func197 (fun C hC=>?_)
 refine qW (q1 aE (qN ?_))
 refine qS (qS (qR (q1 aE (q1 (dL mG (aJ.trs_len _)) (q1 aE (qN ?_))))))
 refine lD 0 (aJ.trs_len _) (fun hl2=>?_)
 refine b0 (σ:=Unit) (fun i1 _=>⟨[(0,aN ps),(1,.fn 198 [.ptr 0 0]),(4,pI 0),(7,pN ps.length),(8,pN i1)],⟨[some ⟨9,[pS c1_0]⟩],[]⟩⟩) (fun _=>⟨[(4,pI 0)],⟨[some ⟨9,[pS c1_0]⟩],[]⟩⟩) (fK H) ?_ ?_ wkB
 ·rintro i1 ⟨⟩ H
  refine qW (q1 gI (qN (qS ?_)))
  refine dG H (fun h3 h3l H=>?_) (fun h3 H=>?_)
  ·have h3n:=a4 h3
   refine aR.skip (qS (aR.block (qS (qR ?_))))
   iterate 2 refine q1 aE ?_
   refine qN (qS (qR ?_))
   iterate 3 refine q1 aE ?_
   refine fP H fun y4 h5 H=>(q1 (m9 h5 h3n mG) (q1 (kM (aJ.cs y4) nO) (bI H fun x7 z6 H=>(q1 (a3.callVPE (pre:=⟨[some ⟨9,[pS c1_0]⟩],[]⟩) (st':=⟨[some ⟨9,[pS c1_0]⟩],[]⟩) (ps:= [_]) (cs:= [.ptr 0 0]) (qs:= [(aJ.pv y4),.ptr 0 0]) [0] [] rfl rfl rfl func198 (by kernel_rfl) rfl rfl rfl (gA.of ⟨⟨_,rfl,rfl,iX,rfl⟩,trivial⟩ trivial (by decide) (by decide)) iX rfl rfl rfl (J3 fu y4 c1_0 _ z6)) (qN ?_)))))
   refine a8 H (fun h8 H=>?_) (fun h8 H=>?_)
   ·refine qS (qR ?_)
    iterate 2 refine q1 aE ?_
    refine qN (aR.ret ?_)
    obtain rfl:_=r:=(mT (aX H):)
    exact bE
   refine aR.skip (qR (q1 (rA (i1+1)) (q1 aE (qN ?_))))
   exact iI h3l ⟨_,(aX H:),wkB⟩
  refine aR.exit ?_;exact jJ ⟨_,H,wkB⟩
 rintro⟨⟩ H
 refine qW (q1 aE (qZ ?_))
 cases aX H
 exact bE
def RX(m:aF→ByteArray→Option Int):Prop:= ∀(pw:aF) (pname:ByteArray) (r:Int),m pw pname=some r→b4 Tryz.prog 179 [(aF.pv pw),pS pname] (pI r:PV)
def sM(fu:Nat)(pw:aF)(pname:ByteArray):Option Int:=
 bd (gY fu pw.gPackages pname) (fun x2=>
 some x2)
theorem ON(fu:Nat):RX (sM fu):=by
 intro pw pname r H
 have H:=eE H
 refine qI func179 (fun C hC=>?_)
 refine qW (q1 (iM ([aN pw.gPackages])) (q1 (iM ([pS pname])) (q1 aE (qN (qW (q1 (a5 fR) (q1 (bD pP) (q1 rMf (bI H fun x2 z1 H=>(q1 (iF [1] [] func197 (pZ fu pw.gPackages pname _ z1)) (q1 aE ?_)))))))))))
 refine qN (aR.ret ?_)
 cases aX H
 exact bE
def J4(m:aF→Int→Option ((List Int))):Prop:= ∀(pa0:aF) (pa1:Int) (r:(List Int)),m pa0 pa1=some r→b4 Tryz.prog 149 [(aF.pv pa0),pI pa1] (rI r:PV)
def xD(fu:Nat)(pa0:aF)(pa1:Int)(v7:List Bool)(v6:Int)(y15:aJ):Nat→((List Bool))→Option (LR ((List Bool)) (LR ((List Bool)×Int) ((List Int)))):=
 fun i18 v19=>bd (sM fu pa0 (aW y15.gDeps i18)) (fun x22=>
 sw (decide (x22≥0))
 (sw (decide (x22<v6))
 (gd (0≤x22∧(x22).toNat<(aQ (pa1+1)).toNat)
 (gd ((x22).toNat<(v19).length)
 (some (.next ((v19).set ((x22).toNat) true)))))
 (some (.next v19)))
 (some (.next v19)))
def rW(fu:Nat)(pa0:aF)(pa1:Int)(v7:List Bool)(v6:Int)(y15:aJ):Option ((LR ((List Bool)×Int) ((List Int)))⊕((List Bool))):=
 loopN (xD fu pa0 pa1 v7 v6 y15) (y15.gDeps.length-0) 0 v7
def gB(fu:Nat)(pa0:aF)(pa1:Int):((List Bool)×Int)→Option (LR ((List Bool)×Int) ((List Int))):=
 fun(v7,v6)=>sw (decide (v6≥0))
 (gd (0≤v6∧(v6).toNat<(aQ (pa1+1)).toNat)
 (gd ((v6).toNat<(v7).length)
 (sw (!(aW v7 ((v6).toNat)))
 (some (.next (v7,(aQ (v6-1)))))
 (gd (0≤v6∧(v6).toNat<(pa0.gPackages).length)
 (lt (aW pa0.gPackages ((v6).toNat)) (fun y15=>
 so (rW fu pa0 pa1 v7 v6 y15) (fun v19=>
 some (.next (v19,(aQ (v6-1)))))))))))
 (some (.brk (v7,v6)))
def rV(fu:Nat)(pa0:aF)(pa1:Int):Option (((List Int))⊕((List Bool)×Int)):=
 loopW (gB fu pa0 pa1) fu (((List.replicate (aQ (pa1+1)).toNat false).set ((pa1).toNat) true),pa1)
def rT(fu:Nat)(pa0:aF)(pa1:Int)(v7:List Bool)(v6:Int):Nat→((List Int))→Option (LR ((List Int)) ((List Int))):=
 fun i28 v30=>gd (i28<(aQ (pa1+1)).toNat)
 (gd (i28<(v7).length)
 (sw (aW v7 i28)
 (gd ((v30).length+(([(i28:Int)]:List Int)).length≤68719476736)
 (some (.next (v30++([(i28:Int)]:List Int)))))
 (some (.next v30))))
def xE(fu:Nat)(pa0:aF)(pa1:Int)(v7:List Bool)(v6:Int):Option (((List Int))⊕((List Int))):=
 loopN (rT fu pa0 pa1 v7 v6) ((aQ (pa1+1)).toNat-0) 0 ([])
def sS(fu:Nat)(pa0:aF)(pa1:Int):Option ((List Int)):=
 sw (decide (pa1<0))
 (some ([]))
 (sw (decide (pa1≥(pa0.gPackages.length:Int)))
 (some ([]))
 (gd (0≤aQ (pa1+1)∧(aQ (pa1+1)).toNat≤68719476736)
 (gd (0≤pa1∧(pa1).toNat<(aQ (pa1+1)).toNat)
 (gd ((pa1).toNat<(List.replicate (aQ (pa1+1)).toNat false).length)
 (so (rV fu pa0 pa1) (fun(v7,v6)=>
 gd ((aQ (pa1+1)).toNat≤68719476736)
 (so (xE fu pa0 pa1 v7 v6) (fun v30=>
 some v30))))))))
theorem HP(fu:Nat):J4 (sS fu):=by
 intro pa0 pa1 r H
 have H:=eE H
 refine qI func149 (fun C hC=>?_)
 refine qW (q1 (iM ([aN pa0.gPackages])) (q1 aE (qN ?_)))
 refine qS (qS (qR (q1 aE (q1 gI (q1 aE ?_)))))
 refine eF 15 H (fun g1 H=>?_) fun g1 H=>?_
 ·refine qk g1 ?_
  iterate 4 refine qk g1 ?_
  refine q1 (bV g1) (qN (eL rfl (qW (q1 aE (qZ ?_)))))
  cases aX H
  exact bE
 refine qg g1 aE (qg g1 (a5 fR) (qg g1 (bD pP) (qg g1 (dL mG (aJ.trs_len _)) (qg g1 S8 (q1 (b9 g1) (qN ?_))))))
 refine a8 H (fun h2 H=>?_) (fun h2 H=>?_)
 ·refine qW (q1 aE (qZ ?_))
  cases aX H
  exact bE
 refine aR.skip (qW (q1 aE (q1 MZ (dK H fun z3 H=>(q1 (a3.makeBitsI (z:=aQ (pa1+1)) z3 X1 zr4) (q1 aE (qN (qS (qR ?_)))))))))
 iterate 2 refine q1 aE ?_
 refine dK H fun z4 H=>(q1 (a3.indexBitsI (z:=pa1) z4 X1) (dK H fun z5 H=>(q1 (a3.storeBits (l:=List.replicate (aQ (pa1+1)).toNat false) (b:=true) z5 sz4) (qN ?_))))
 refine qS (qS (qR ?_))
 iterate 2 refine q1 aE ?_
 refine qN ?_;refine EN (σ:=(List Bool)×Int) (fun(v7,v6)=>⟨[(2,.ptr 0 0),(4,.nil),(5,.bsl 1 ((aQ (pa1+1)).toNat)),(6,pI v6)],⟨[some ⟨26,[aN pa0.gPackages]⟩,some ⟨4,bP v7⟩],[]⟩⟩) (fun(v7,v6)=>⟨[(4,.nil),(5,.bsl 1 ((aQ (pa1+1)).toNat))],⟨[some ⟨26,[aN pa0.gPackages]⟩,some ⟨4,bP v7⟩],[]⟩⟩) (fK H) ?_ ?_ wkB
 ·rintro k8 ⟨v7,v6⟩ H
  refine qS (qS (qR (q1 aE (q1 S8 (qN ?_)))))
  refine a8 H (fun h9 H=>?_) (fun h9 H=>?_)
  ·refine aR.skip (qS (aR.block ?_))
   refine qS (qS (qR ?_))
   iterate 2 refine q1 aE ?_
   refine dK H fun z10 H=>(q1 (a3.indexBitsI (z:=v6) z10 X1) (dK H fun z11 H=>(q1 (a3.loadBits (l:=v7) z11 Z3) (q1 hQ (qN ?_)))))
   refine a8 H (fun h12 H=>?_) (fun h12 H=>?_)
   ·refine aR.exit (qR (q1 aE (q1 EP (q1 aE (qN ?_)))))
    exact X9 ⟨_,(aX H:),wkB⟩
   refine aR.skip (qW (q1 (a5 fR) (q1 (bD pP) ?_)))
   refine FS 39 (aJ.trs_len _) (fun hl13=>?_)
   refine q1 aE (dK H fun z14 H=>(fP H fun y15 h16 H=>(q1 (rIm h16 z14 mG) (q1 (lR C7) (q1 (kQ kZ) ?_)))))
   refine FS 43 (bC _) (fun hl17=>?_)
   refine q1 (dL b3 (bC _)) (q1 aE (qN ?_))
   refine b0 (σ:=(List Bool)) (fun i18 v19=>⟨[(2,.ptr 0 0),(4,.nil),(5,.bsl 1 ((aQ (pa1+1)).toNat)),(6,pI v6),(29,pI v6),(30,pB (decide (v6≥0))),(33,.bsl 1 ((aQ (pa1+1)).toNat)),(34,pI v6),(35,.ptr 1 ((v6).toNat)),(36,pB (aW v7 ((v6).toNat))),(37,pB (!(aW v7 ((v6).toNat)))),(38,.ptr 0 0),(39,aN pa0.gPackages),(40,pI v6),(41,.eptr (aJ.cs y15)),(42,.eptr ((aJ.cs y15).drop 1)),(43,rS y15.gDeps),(44,pN y15.gDeps.length),(45,pN i18)],⟨[some ⟨26,[aN pa0.gPackages]⟩,some ⟨4,bP v19⟩],[]⟩⟩) (fun v19=>⟨[(2,.ptr 0 0),(4,.nil),(5,.bsl 1 ((aQ (pa1+1)).toNat)),(6,pI v6),(29,pI v6),(30,pB (decide (v6≥0))),(33,.bsl 1 ((aQ (pa1+1)).toNat)),(34,pI v6),(35,.ptr 1 ((v6).toNat)),(36,pB (aW v7 ((v6).toNat))),(37,pB (!(aW v7 ((v6).toNat)))),(38,.ptr 0 0),(39,aN pa0.gPackages),(40,pI v6),(41,.eptr (aJ.cs y15)),(42,.eptr ((aJ.cs y15).drop 1)),(43,rS y15.gDeps),(44,pN y15.gDeps.length)],⟨[some ⟨26,[aN pa0.gPackages]⟩,some ⟨4,bP v19⟩],[]⟩⟩) (fK H) ?_ ?_ wkB
   ·rintro i18 v19 H
    refine qW (q1 gI (qN (qS ?_)))
    refine dG H (fun h20 h20l H=>?_) (fun h20 H=>?_)
    ·have h20n:=a4 h20
     refine aR.skip (qS (aR.block (qW (q1 (kP h20n b3) (q1 (kQ eJ) (q1 aE (qN (qW (q1 (cJ [aN pa0.gPackages] hZ) (q1 aE (bI H fun x22 z21 H=>?_)))))))))))
     refine q1 (bG func179 (ON fu pa0 (aW y15.gDeps i18) _ z21)) (q1 aE (qN (qW (q1 aE (q1 S8 (q1 aE ?_))))))
     refine eF 54 H (fun g23 H=>?_) fun g23 H=>?_
     ·refine qg g23 aE (qg g23 aE (qg g23 gI (q1 (bV g23) (qN ?_))))
      refine a8 H (fun h24 H=>?_) (fun h24 H=>?_)
      ·refine qR ?_
       iterate 2 refine q1 aE ?_
       refine dK H fun z25 H=>(q1 (a3.indexBitsI (z:=x22) z25 X1) (dK H fun z26 H=>(q1 (a3.storeBits (l:=v19) (b:=true) z26 sz4) (qN (qR (q1 (rA (i18+1)) (q1 aE (qN ?_))))))))
       exact iI h20l ⟨_,(aX H:),wkB⟩
      refine aR.skip (qR (q1 (rA (i18+1)) (q1 aE (qN ?_))))
      exact iI h20l ⟨_,(aX H:),wkB⟩
     iterate 3 refine qk g23 ?_
     refine q1 (b9 g23) (qN (jR rfl (aR.skip (qR (q1 (rA (i18+1)) (q1 aE (qN ?_)))))))
     exact iI h20l ⟨_,(aX H:),wkB⟩
    refine aR.exit ?_;exact jJ ⟨_,H,wkB⟩
   rintro v19 H
   refine qR (q1 aE (q1 EP (q1 aE (qN ?_))))
   exact X9 ⟨_,(aX H:),wkB⟩
  refine aR.exit ?_;exact lwB ⟨_,(aX H:),wkB⟩
 rintro⟨v7,v6⟩ H
 refine qW (q1 (uK ([]:List Int) N8 zr3) (q1 aE (qN ?_)))
 refine qS (qS (qR (q1 aE (dK H fun z27 H=>(q1 (a3.lenBits z27 X1) (q1 aE (qN ?_)))))))
 refine b0 (σ:=(List Int)) (fun i28 v30=>⟨[(4,.nil),(10,aI v30 0),(64,.bsl 1 ((aQ (pa1+1)).toNat)),(65,pN ((aQ (pa1+1)).toNat)),(66,pN i28)],⟨[some ⟨26,[aN pa0.gPackages]⟩,some ⟨4,bP v7⟩],[⟨3,1,jS (v30),false⟩]⟩⟩) (fun v30=>⟨[(4,.nil),(10,aI v30 0)],⟨[some ⟨26,[aN pa0.gPackages]⟩,some ⟨4,bP v7⟩],[⟨3,1,jS (v30),false⟩]⟩⟩) (fK H) ?_ ?_ wkB
 ·rintro i28 v30 H
  refine qW (q1 gI (qN (qS ?_)))
  refine dG H (fun h31 h31l H=>?_) (fun h31 H=>?_)
  ·have h31n:i28<(aQ (pa1+1)).toNat:=by have:=of_decide_eq_true h31;omega
   refine aR.skip (qS (aR.block (qW (q1 aE (dK H fun z32 H=>(q1 (a3.indexBits (i:=i28) z32 X1) (dK H fun z33 H=>(q1 (a3.loadBits (l:=v7) z33 Z3) ?_))))))))
   iterate 2 refine q1 aE ?_
   refine qN (qW (q1 aE (qN ?_)))
   refine a8 H (fun h34 H=>?_) (fun h34 H=>?_)
   ·refine qR ?_
    iterate 2 refine q1 aE ?_
    refine q1 (j9 ([(i28:Int)]:List Int) N8 zr3) (dK H fun z35 H=>(q1 (nV z35 N8 arP) (q1 aE (qN (qR (q1 (rA (i28+1)) (q1 aE (qN ?_))))))))
    exact iI h31l ⟨_,(aX H:),wkB⟩
   refine aR.skip (qR (q1 (rA (i28+1)) (q1 aE (qN ?_))))
   exact iI h31l ⟨_,(aX H:),wkB⟩
  refine aR.exit ?_;exact jJ ⟨_,H,wkB⟩
 rintro v30 H
 refine qS (qR ?_)
 iterate 2 refine q1 aE ?_
 refine qN (aR.ret ?_)
 cases aX H
 exact bE
end
end Go.Proofs.YtpioomclpaiomaaGreat.W

namespace Go.Proofs.YtpioomclpaiomaaGreat
open Go.RowKit
theorem jG: ∀(a b:List Tr),Tr.bulkL (a++b)=Tr.bulkL a+Tr.bulkL b
 | [],b=>by simp [Tr.bulkL]
 |t::a,b=>by simp [Tr.bulkL,jG a b,Nat.add_assoc]
theorem apS:Tr.bulkAll (aZ [])=0:=rfl
theorem aoM(a:ByteArray)(l:List ByteArray):Tr.bulkAll (aZ (a::l))=a.size+Tr.bulkAll (aZ l):=by simp [aZ,Tr.bulkAll,Tr.bulkL,Tr.bulk]
theorem aB.bk_mk(v0:Int)(v1:ByteArray)(v2:List aB):Tr.bulkL (aB.tr (.mk v0 v1 v2))=v1.size+(v2.length+Tr.bulkAll (aB.trs v2)):=by
 simp only [aB.tr,jG,Tr.bulkL,Tr.bulk,bC,eM,gC,aB.trs_len]
 first|done|omega
theorem aB.bks_nil:Tr.bulkAll (aB.trs [])=0:=by simp [aB.trs_map,Tr.bulkAll]
theorem aB.bks_cons(a:aB)(l:List aB):Tr.bulkAll (aB.trs (a::l))=Tr.bulkL (aB.tr a)+Tr.bulkAll (aB.trs l):=by simp [aB.trs_map,Tr.bulkAll]
theorem aG.bk_mk(v0:Int)(v1:ByteArray)(v2:ByteArray)(v3:Int)(v4:aB)(v5:List aG)(v6:List bA):Tr.bulkL (aG.tr (.mk v0 v1 v2 v3 v4 v5 v6))=v1.size+v2.size+Tr.bulkL (aB.tr v4)+(v5.length+Tr.bulkAll (aG.trs v5))+(v6.length+Tr.bulkAll (bA.trs v6)):=by
 simp only [aG.tr,jG,Tr.bulkL,Tr.bulk,bC,eM,gC,aG.trs_len,bA.trs_len]
 first|done|omega
theorem aG.bks_nil:Tr.bulkAll (aG.trs [])=0:=by simp [aG.trs_map,Tr.bulkAll]
theorem aG.bks_cons(a:aG)(l:List aG):Tr.bulkAll (aG.trs (a::l))=Tr.bulkL (aG.tr a)+Tr.bulkAll (aG.trs l):=by simp [aG.trs_map,Tr.bulkAll]
theorem bA.bk_mk(v0:ByteArray)(v1:List ByteArray)(v2:aG):Tr.bulkL (bA.tr (.mk v0 v1 v2))=v0.size+(v1.length+Tr.bulkAll (aZ v1))+Tr.bulkL (aG.tr v2):=by
 simp only [bA.tr,jG,Tr.bulkL,Tr.bulk,bC,eM,gC]
 first|done|omega
theorem bA.bks_nil:Tr.bulkAll (bA.trs [])=0:=by simp [bA.trs_map,Tr.bulkAll]
theorem bA.bks_cons(a:bA)(l:List bA):Tr.bulkAll (bA.trs (a::l))=Tr.bulkL (bA.tr a)+Tr.bulkAll (bA.trs l):=by simp [bA.trs_map,Tr.bulkAll]
theorem aM.bk_mk(v0:ByteArray)(v1:aB):Tr.bulkL (aM.tr (.mk v0 v1))=v0.size+Tr.bulkL (aB.tr v1):=by
 simp only [aM.tr,jG,Tr.bulkL,Tr.bulk,bC,eM,gC]
 first|done|omega
theorem aM.bks_nil:Tr.bulkAll (aM.trs [])=0:=by simp [aM.trs_map,Tr.bulkAll]
theorem aM.bks_cons(a:aM)(l:List aM):Tr.bulkAll (aM.trs (a::l))=Tr.bulkL (aM.tr a)+Tr.bulkAll (aM.trs l):=by simp [aM.trs_map,Tr.bulkAll]
theorem aT.bk_mk(v0:ByteArray)(v1:aB):Tr.bulkL (aT.tr (.mk v0 v1))=v0.size+Tr.bulkL (aB.tr v1):=by
 simp only [aT.tr,jG,Tr.bulkL,Tr.bulk,bC,eM,gC]
 first|done|omega
theorem aT.bks_nil:Tr.bulkAll (aT.trs [])=0:=by simp [aT.trs_map,Tr.bulkAll]
theorem aT.bks_cons(a:aT)(l:List aT):Tr.bulkAll (aT.trs (a::l))=Tr.bulkL (aT.tr a)+Tr.bulkAll (aT.trs l):=by simp [aT.trs_map,Tr.bulkAll]
theorem aO.bk_mk(v0:ByteArray)(v1:List ByteArray)(v2:aG):Tr.bulkL (aO.tr (.mk v0 v1 v2))=v0.size+(v1.length+Tr.bulkAll (aZ v1))+Tr.bulkL (aG.tr v2):=by
 simp only [aO.tr,jG,Tr.bulkL,Tr.bulk,bC,eM,gC]
 first|done|omega
theorem aO.bks_nil:Tr.bulkAll (aO.trs [])=0:=by simp [aO.trs_map,Tr.bulkAll]
theorem aO.bks_cons(a:aO)(l:List aO):Tr.bulkAll (aO.trs (a::l))=Tr.bulkL (aO.tr a)+Tr.bulkAll (aO.trs l):=by simp [aO.trs_map,Tr.bulkAll]
theorem aD.bk_mk(v0:ByteArray)(v1:List aB):Tr.bulkL (aD.tr (.mk v0 v1))=v0.size+(v1.length+Tr.bulkAll (aB.trs v1)):=by
 simp only [aD.tr,jG,Tr.bulkL,Tr.bulk,bC,eM,gC,aB.trs_len]
 first|done|omega
theorem aD.bks_nil:Tr.bulkAll (aD.trs [])=0:=by simp [aD.trs_map,Tr.bulkAll]
theorem aD.bks_cons(a:aD)(l:List aD):Tr.bulkAll (aD.trs (a::l))=Tr.bulkL (aD.tr a)+Tr.bulkAll (aD.trs l):=by simp [aD.trs_map,Tr.bulkAll]
theorem aC.bk_mk(v0:ByteArray)(v1:List aB)(v2:aB)(v3:Bool)(v4:List ByteArray)(v5:aG):Tr.bulkL (aC.tr (.mk v0 v1 v2 v3 v4 v5))=v0.size+(v1.length+Tr.bulkAll (aB.trs v1))+Tr.bulkL (aB.tr v2)+(v4.length+Tr.bulkAll (aZ v4))+Tr.bulkL (aG.tr v5):=by
 simp only [aC.tr,jG,Tr.bulkL,Tr.bulk,bC,eM,gC,aB.trs_len]
 first|done|omega
theorem aC.bks_nil:Tr.bulkAll (aC.trs [])=0:=by simp [aC.trs_map,Tr.bulkAll]
theorem aC.bks_cons(a:aC)(l:List aC):Tr.bulkAll (aC.trs (a::l))=Tr.bulkL (aC.tr a)+Tr.bulkAll (aC.trs l):=by simp [aC.trs_map,Tr.bulkAll]
theorem aP.bk_mk(v0:ByteArray)(v1:List ByteArray)(v2:Bool)(v3:Bool)(v4:List aC):Tr.bulkL (aP.tr (.mk v0 v1 v2 v3 v4))=v0.size+(v1.length+Tr.bulkAll (aZ v1))+(v4.length+Tr.bulkAll (aC.trs v4)):=by
 simp only [aP.tr,jG,Tr.bulkL,Tr.bulk,bC,eM,gC,aC.trs_len]
 first|done|omega
theorem aP.bks_nil:Tr.bulkAll (aP.trs [])=0:=by simp [aP.trs_map,Tr.bulkAll]
theorem aP.bks_cons(a:aP)(l:List aP):Tr.bulkAll (aP.trs (a::l))=Tr.bulkL (aP.tr a)+Tr.bulkAll (aP.trs l):=by simp [aP.trs_map,Tr.bulkAll]
theorem aH.bk_mk(v0:ByteArray)(v1:List ByteArray)(v2:List aD):Tr.bulkL (aH.tr (.mk v0 v1 v2))=v0.size+(v1.length+Tr.bulkAll (aZ v1))+(v2.length+Tr.bulkAll (aD.trs v2)):=by
 simp only [aH.tr,jG,Tr.bulkL,Tr.bulk,bC,eM,gC,aD.trs_len]
 first|done|omega
theorem aH.bks_nil:Tr.bulkAll (aH.trs [])=0:=by simp [aH.trs_map,Tr.bulkAll]
theorem aH.bks_cons(a:aH)(l:List aH):Tr.bulkAll (aH.trs (a::l))=Tr.bulkL (aH.tr a)+Tr.bulkAll (aH.trs l):=by simp [aH.trs_map,Tr.bulkAll]
theorem aL.bk_mk(v0:ByteArray)(v1:List ByteArray)(v2:aB)(v3:List aM)(v4:Bool)(v5:Bool)(v6:aB)(v7:List aO):Tr.bulkL (aL.tr (.mk v0 v1 v2 v3 v4 v5 v6 v7))=v0.size+(v1.length+Tr.bulkAll (aZ v1))+Tr.bulkL (aB.tr v2)+(v3.length+Tr.bulkAll (aM.trs v3))+Tr.bulkL (aB.tr v6)+(v7.length+Tr.bulkAll (aO.trs v7)):=by
 simp only [aL.tr,jG,Tr.bulkL,Tr.bulk,bC,eM,gC,aM.trs_len,aO.trs_len]
 first|done|omega
theorem aL.bks_nil:Tr.bulkAll (aL.trs [])=0:=by simp [aL.trs_map,Tr.bulkAll]
theorem aL.bks_cons(a:aL)(l:List aL):Tr.bulkAll (aL.trs (a::l))=Tr.bulkL (aL.tr a)+Tr.bulkAll (aL.trs l):=by simp [aL.trs_map,Tr.bulkAll]
theorem aK.bk_mk(v0:ByteArray)(v1:List ByteArray)(v2:List aM)(v3:List aT)(v4:aB)(v5:aG):Tr.bulkL (aK.tr (.mk v0 v1 v2 v3 v4 v5))=v0.size+(v1.length+Tr.bulkAll (aZ v1))+(v2.length+Tr.bulkAll (aM.trs v2))+(v3.length+Tr.bulkAll (aT.trs v3))+Tr.bulkL (aB.tr v4)+Tr.bulkL (aG.tr v5):=by
 simp only [aK.tr,jG,Tr.bulkL,Tr.bulk,bC,eM,gC,aM.trs_len,aT.trs_len]
 first|done|omega
theorem aK.bks_nil:Tr.bulkAll (aK.trs [])=0:=by simp [aK.trs_map,Tr.bulkAll]
theorem aK.bks_cons(a:aK)(l:List aK):Tr.bulkAll (aK.trs (a::l))=Tr.bulkL (aK.tr a)+Tr.bulkAll (aK.trs l):=by simp [aK.trs_map,Tr.bulkAll]
theorem aJ.bk_mk(v0:ByteArray)(v1:List ByteArray)(v2:List aP)(v3:List aH)(v4:List aL)(v5:List aK):Tr.bulkL (aJ.tr (.mk v0 v1 v2 v3 v4 v5))=v0.size+(v1.length+Tr.bulkAll (aZ v1))+(v2.length+Tr.bulkAll (aP.trs v2))+(v3.length+Tr.bulkAll (aH.trs v3))+(v4.length+Tr.bulkAll (aL.trs v4))+(v5.length+Tr.bulkAll (aK.trs v5)):=by
 simp only [aJ.tr,jG,Tr.bulkL,Tr.bulk,bC,eM,gC,aP.trs_len,aH.trs_len,aL.trs_len,aK.trs_len]
 first|done|omega
theorem aJ.bks_nil:Tr.bulkAll (aJ.trs [])=0:=by simp [aJ.trs_map,Tr.bulkAll]
theorem aJ.bks_cons(a:aJ)(l:List aJ):Tr.bulkAll (aJ.trs (a::l))=Tr.bulkL (aJ.tr a)+Tr.bulkAll (aJ.trs l):=by simp [aJ.trs_map,Tr.bulkAll]
theorem aF.bk_mk(v0:List aJ):Tr.bulkL (aF.tr (.mk v0))=(v0.length+Tr.bulkAll (aJ.trs v0)):=by
 simp only [aF.tr,jG,Tr.bulkL,Tr.bulk,bC,eM,gC,aJ.trs_len]
 first|done|omega
theorem aA.bk_mk(v0:ByteArray)(v1:List aA):Tr.bulkL (aA.tr (.mk v0 v1))=v0.size+(v1.length+Tr.bulkAll (aA.trs v1)):=by
 simp only [aA.tr,jG,Tr.bulkL,Tr.bulk,bC,eM,gC,aA.trs_len]
 first|done|omega
theorem aA.bks_nil:Tr.bulkAll (aA.trs [])=0:=by simp [aA.trs_map,Tr.bulkAll]
theorem aA.bks_cons(a:aA)(l:List aA):Tr.bulkAll (aA.trs (a::l))=Tr.bulkL (aA.tr a)+Tr.bulkAll (aA.trs l):=by simp [aA.trs_map,Tr.bulkAll]
end Go.Proofs.YtpioomclpaiomaaGreat

namespace Go.Proofs.YtpioomclpaiomaaGreat
def cH(P:Nat→Prop):Prop:= ∃N,∀n,N≤n→P n
theorem cH.all{P:Nat→Prop}(h: ∀n,P n):cH P:=⟨0,fun n _=>h n⟩
theorem cH.and{P Q:Nat→Prop}(h:cH P)(k:cH Q):cH fun n=>P n∧Q n:=by
 obtain⟨a,h⟩:=h
 obtain⟨b,k⟩:=k
 exact⟨max a b,fun n hn=>⟨h n (by omega),k n (by omega)⟩⟩
theorem cH.imp{P Q:Nat→Prop}(h:cH P)(k: ∀n,P n→Q n):cH Q:=by
 obtain⟨a,h⟩:=h
 exact⟨a,fun n hn=>k n (h n hn)⟩
theorem cH.succ{P:Nat→Prop}(h:cH fun n=>P (n+1)):cH P:=by
 obtain⟨a,h⟩:=h
 exact⟨a+1,fun n hn=>by
  obtain⟨m,rfl⟩: ∃m,n=m+1:=⟨n-1,by omega⟩
  exact h m (by omega)⟩
theorem cH.get{P:Nat→Prop}(h:cH P): ∃n,P n:=by
 obtain⟨a,h⟩:=h
 exact⟨a,h a (Nat.le_refl _)⟩
section
variable {α σ β:Type} [Inhabited α] {f:Nat→σ→Option (LR σ β)}
theorem GQ{l:List α}{i:Nat}(h:i<l.length):aW l i∈l:=by rw [gE h];exact List.getElem_mem h
theorem pR{l:List α}{i:Nat}(h:i<l.length):l.drop i=aW l i::l.drop (i+1):=by rw [gE h];exact List.drop_eq_getElem_cons h
theorem aoP{l:List α}{i:Nat}(h:i<l.length):l.take (i+1)=l.take i++ [aW l i]:=by rw [gE h];exact List.take_succ_eq_append_getElem h
theorem DO{n i:Nat}{s s':σ}(h:i<n)(e:f i s=some (.next s')):loopN f (n-i) i s=loopN f (n-(i+1)) (i+1) s':=u1 h rfl e
theorem O5{n i:Nat}{s:σ}{x:β}(h:i<n)(e:f i s=some (.ret x)):loopN f (n-i) i s=some (.inl x):=alE h rfl e
theorem alD{n i:Nat}{s s':σ}(h:i<n)(e:f i s=some (.brk s')):loopN f (n-i) i s=some (.inr s'):=alB h rfl e
theorem GZ{n i:Nat}{s:σ}(h:n≤i):loopN f (n-i) i s=some (.inr s):=alC h rfl
theorem UK{l:List α}{g:σ→α→σ}(P:Nat→σ→Prop)(hs: ∀i s,i<l.length→P i s→f i s=some (.next (g s (aW l i)))∧P (i+1) (g s (aW l i))):
 ∀(k i:Nat) (s:σ),l.length-i=k→P i s→loopN f (l.length-i) i s=some (.inr ((l.drop i).foldl g s))
 |0,i,s,hk,_=>by
  rw [GZ (by omega),List.drop_of_length_le (by omega),List.foldl_nil]
 |k+1,i,s,hk,hp=>by
  have hi:i<l.length:=by omega
  obtain⟨h1,h2⟩:=hs i s hi hp
  rw [DO hi h1,pR hi,List.foldl_cons]
  exact UK P hs k (i+1) _ (by omega) h2
theorem FU{l:List α}{g:σ→α→σ}(P:Nat→σ→Prop)(hs: ∀i s,i<l.length→P i s→f i s=some (.next (g s (aW l i)))∧P (i+1) (g s (aW l i))){s:σ}(h0:P 0 s):loopN f (l.length-0) 0 s=some (.inr (l.foldl g s)):=by
 have:=UK P hs l.length 0 s (by omega) h0
 rwa [List.drop_zero] at this
theorem UI{l:List α}{p:α→Bool}{r:α→β}{s:σ}(hs: ∀i,i<l.length→f i s=if p (aW l i) then some (.ret (r (aW l i))) else some (.next s)):
 ∀(k i:Nat),l.length-i=k→loopN f (l.length-i) i s=some (match(l.drop i).find? p with|some x=> .inl (r x)|none=> .inr s)
 |0,i,hk=>by
  rw [GZ (by omega),List.drop_of_length_le (by omega),List.find?_nil]
 |k+1,i,hk=>by
  have hi:i<l.length:=by omega
  have h1:=hs i hi
  rw [pR hi,List.find?_cons]
  cases hp:p (aW l i)
  ·rw [hp] at h1
   rw [DO hi (by simpa using h1)]
   exact UI hs k (i+1) (by omega)
  ·rw [hp] at h1
   rw [O5 hi (by simpa using h1)]
theorem Q4{l:List α}{p:α→Bool}{r:α→β}{s:σ}(hs: ∀i,i<l.length→f i s=if p (aW l i) then some (.ret (r (aW l i))) else some (.next s)):loopN f (l.length-0) 0 s=some (match l.find? p with|some x=> .inl (r x)|none=> .inr s):=by
 have:=UI hs l.length 0 (by omega)
 rwa [List.drop_zero] at this
theorem Q3{l:List α}{p:α→Bool}{r:β}{s:σ}(hs: ∀i,i<l.length→f i s=if p (aW l i) then some (.next s) else some (.ret r)):loopN f (l.length-0) 0 s=some (if l.all p then .inr s else .inl r):=by
 rw [Q4 (p:=fun x=> !p x) (r:=fun _=>r) (fun i hi=>by rw [hs i hi];cases p (aW l i)<;>rfl)]
 cases h:l.find? (fun x=> !p x) with
 |none=>
  rw [List.find?_eq_none] at h
  rw [if_pos (by rw [List.all_eq_true];intro x hx;have:=h x hx;simpa using this)]
 |some x=>
  have h1:=List.find?_some h
  have h2:=List.mem_of_find?_eq_some h
  rw [if_neg (by rw [List.all_eq_true];intro hc;have:=hc x h2;simp [this] at h1)]
theorem tK{f:Nat→Unit→Option (LR Unit Int)}{l:List α}{p:α→Bool}(hs: ∀i,i<l.length→f i ()=if p (aW l i) then some (.ret ((i:Nat):Int)) else some (.next ())):
 loopN f (l.length-0) 0 ()=some (match l.findIdx? p with|some i=> .inl ((i:Nat):Int)|none=> .inr ()):=by
 have key: ∀(k i:Nat),l.length-i=k→loopN f (l.length-i) i ()=some (match(l.drop i).findIdx? p with|some j=> .inl (((i+j:Nat)):Int)|none=> .inr ()):=by
  intro k
  induction k with
  |zero=>
   intro i hk
   rw [GZ (by omega),List.drop_of_length_le (by omega)]
   rfl
  |succ k ih=>
   intro i hk
   have hi:i<l.length:=by omega
   have h1:=hs i hi
   rw [pR hi,List.findIdx?_cons]
   cases hp:p (aW l i)
   ·rw [hp] at h1
    rw [DO hi (by simpa using h1),ih (i+1) (by omega)]
    cases(l.drop (i+1)).findIdx? p with
    |none=>simp
    |some j=>simp;omega
   ·rw [hp] at h1
    rw [O5 hi (by simpa using h1)]
    simp
 have:=key l.length 0 (by omega)
 simpa using this
omit [Inhabited α] in
theorem OP{l:List α}{p:α→Bool}:decide ((match l.findIdx? p with|some i=>((i:Nat):Int)|none=> -1)≥0)=l.any p:=by
 cases h:l.findIdx? p with
 |none=>
  rw [List.findIdx?_eq_none_iff] at h
  have:l.any p=false:=by rw [List.any_eq_false];intro x hx;simp [h x hx]
  rw [this];rfl
 |some i=>
  obtain⟨h1,h2,-⟩:=List.findIdx?_eq_some_iff_getElem.1 h
  have:l.any p=true:=List.any_eq_true.2 ⟨_,List.getElem_mem h1,h2⟩
  rw [this]
  simp
end
end Go.Proofs.YtpioomclpaiomaaGreat

namespace Go.Proofs.YtpioomclpaiomaaGreat
open Go.RowKit Go.WalkArith Go.IntWalk
def Ok{α:Type}(o:Option α)(P:α→Prop):Prop:= ∃a,o=some a∧P a
theorem Ok.some{α:Type}{P:α→Prop}{a:α}(h:P a):Ok (Option.some a) P:=⟨a,rfl,h⟩
theorem Ok.mono{α:Type}{P Q:α→Prop}{o:Option α}(h:Ok o P)(k: ∀a,P a→Q a):Ok o Q:=by
 obtain⟨a,e,h⟩:=h
 exact⟨a,e,k a h⟩
theorem Ok.bd{α β:Type}{o:Option α}{f:α→Option β}{Q:α→Prop}{P:β→Prop}(h:Ok o Q)(k: ∀a,Q a→Ok (f a) P):Ok (bd o f) P:=by
 obtain⟨a,rfl,h⟩:=h
 exact k a h
theorem Ok.sw{α:Type}{c:Bool}{a b:Option α}{P:α→Prop}(ht:c=true→Ok a P)(hf:c=false→Ok b P):Ok (sw c a b) P:=by
 cases c
 ·exact hf rfl
 ·exact ht rfl
theorem Ok.gd{α:Type}{g:Prop}{a:Option α}{P:α→Prop}(h:g)(k:Ok a P):Ok (gd g a) P:=by
 rw [xC h rfl]
 exact k
theorem Ok.so{σ β:Type}{o:Option (β⊕σ)}{f:σ→Option β}{Q:β⊕σ→Prop}{P:β→Prop}(h:Ok o Q)(k1: ∀x,Q (.inl x)→P x)(k2: ∀s,Q (.inr s)→Ok (f s) P):Ok (so o f) P:=by
 obtain⟨a,rfl,h⟩:=h
 cases a with
 |inl x=>exact⟨x,rfl,k1 x h⟩
 |inr s=>exact k2 s h
theorem Ok.lt{α β:Type}{x:α}{f:α→Option β}{P:β→Prop}(k: ∀y,y=x→Ok (f y) P):Ok (lt x f) P:=k x rfl
theorem DS.pick_mem(d:DS){l:LB}(h:0<l.length):d.pick l∈l:=by
 rw [DS.pick_eq (d.below_lt h)]
 exact List.getElem_mem _
theorem DS.pick_size(d:DS){l:LB}{k:Nat}(h:0<l.length)(hs: ∀v∈l,v.size≤k):(d.pick l).size≤k:=hs _ (d.pick_mem h)
def PS{σ β:Type}(Q:β→Prop)(E:σ→Prop):β⊕σ→Prop
 | .inl x=>Q x
 | .inr s=>E s
def PL{σ β:Type}(Q:β→Prop)(N E:σ→Prop):LR σ β→Prop
 | .next s=>N s
 | .brk s=>E s
 | .ret x=>Q x
theorem Ok.gdk{α:Type}{g:Prop}{a:Option α}{P:α→Prop}(h:g)(k:g→Ok a P):Ok (Go.Proofs.YtpioomclpaiomaaGreat.gd g a) P:=Ok.gd h (k h)
theorem Ok.sok{σ β:Type}{o:Option (β⊕σ)}{f:σ→Option β}{P:β→Prop}{E:σ→Prop}(h:Ok o (PS P E))(k: ∀s,E s→Ok (f s) P):Ok (Go.Proofs.YtpioomclpaiomaaGreat.so o f) P:=Ok.so h (fun _ hx=>hx) k
theorem Ok.loopN{σ β:Type}{f:Nat→σ→Option (LR σ β)}{n:Nat}{Q:β→Prop}{E:σ→Prop}(I:Nat→σ→Prop)(hE: ∀i s,n≤i→I i s→E s)(hs: ∀i s,i<n→I i s→Ok (f i s) (PL Q (I (i+1)) E)):
 ∀(k i:Nat) (s:σ),n-i=k→I i s→Ok (Go.Proofs.YtpioomclpaiomaaGreat.loopN f (n-i) i s) (PS Q E)
 |0,i,s,hk,hi=>by rw [GZ (by omega)];exact Ok.some (hE i s (by omega) hi)
 |k+1,i,s,hk,hi=>by
  have hlt:i<n:=by omega
  obtain⟨r,hr,hp⟩:=hs i s hlt hi
  cases r with
  |next s'=>rw [DO hlt hr];exact Ok.loopN I hE hs k (i+1) s' (by omega) hp
  |brk s'=>rw [alD hlt hr];exact Ok.some hp
  |ret x=>rw [O5 hlt hr];exact Ok.some hp
theorem Ok.loopN0{σ β:Type}{f:Nat→σ→Option (LR σ β)}{n i:Nat}{s:σ}{Q:β→Prop}{E:σ→Prop}(I:Nat→σ→Prop)(h0:I i s)(hE: ∀i s,n≤i→I i s→E s)(hs: ∀i s,i<n→I i s→Ok (f i s) (PL Q (I (i+1)) E)):Ok (Go.Proofs.YtpioomclpaiomaaGreat.loopN f (n-i) i s) (PS Q E):=
 Ok.loopN I hE hs (n-i) i s rfl h0
theorem Ok.loopW{σ β:Type}{f:σ→Option (LR σ β)}{Q:β→Prop}{E:σ→Prop}(I:σ→Prop)(μ:σ→Nat)(hs: ∀s,I s→Ok (f s) (PL Q (fun s'=>I s'∧μ s'<μ s) E)):
 ∀(k:Nat) (s:σ),μ s<k→I s→Ok (Go.Proofs.YtpioomclpaiomaaGreat.loopW f k s) (PS Q E)
 |0,s,hk,_=>absurd hk (Nat.not_lt_zero _)
 |k+1,s,hk,hi=>by
  obtain⟨r,hr,hp⟩:=hs s hi
  unfold Go.Proofs.YtpioomclpaiomaaGreat.loopW
  rw [hr]
  cases r with
  |next s'=>exact Ok.loopW I μ hs k s' (by have:=hp.2;omega) hp.1
  |brk s'=>exact Ok.some hp
  |ret x=>exact Ok.some hp
theorem cH.ge(k:Nat):cH fun fu=>k≤fu:=⟨k,fun _ h=>h⟩
end Go.Proofs.YtpioomclpaiomaaGreat

namespace Go.Proofs.YtpioomclpaiomaaGreat
open Go.RowKit Go.WalkArith Go.IntWalk
class Wt (α:Type) where
 wtOf:α→Nat
def wt{α:Type}[Wt α](x:α):Nat:=Wt.wtOf x
def wl{α:Type}[Wt α]:List α→Nat
 | []=>0
 |a::l=>wt a+1+wl l
instance:Wt ByteArray:=⟨ByteArray.size⟩
theorem a9(b:ByteArray):wt b=b.size:=rfl
theorem GM(l:LB):wl l=l.length+Tr.bulkAll (aZ l):=by
 induction l with
 |nil=>rw [apS];rfl
 |cons a l ih=>rw [aoM];simp only [wl,List.length_cons,a9];omega
section
variable {α:Type} [Wt α]
theorem aV:wl ([]:List α)=0∧([]:List α).length=0:=⟨rfl,rfl⟩
theorem apU(a:α)(l:List α):wl (a::l)=wt a+1+wl l:=rfl
theorem b6(a b:List α):wl (a++b)=wl a+wl b∧(a++b).length=a.length+b.length:=by
 refine⟨?_,List.length_append⟩
 induction a with
 |nil=>simp [wl]
 |cons x a ih=>simp only [List.cons_append,wl];omega
theorem cE(a:α):wl [a]=wt a+1∧ [a].length=1:=⟨rfl,rfl⟩
theorem lE(a b:α):wl [a,b]=wt a+wt b+2∧ [a,b].length=2:=⟨by simp only [wl];omega,rfl⟩
theorem EV(a b c:α):wl [a,b,c]=wt a+wt b+wt c+3∧ [a,b,c].length=3:=⟨by simp only [wl];omega,rfl⟩
theorem as2(a b c d:α):wl [a,b,c,d]=wt a+wt b+wt c+wt d+4∧ [a,b,c,d].length=4:=⟨by simp only [wl];omega,rfl⟩
theorem aq8(a b c d e:α):wl [a,b,c,d,e]=wt a+wt b+wt c+wt d+wt e+5∧ [a,b,c,d,e].length=5:=⟨by simp only [wl];omega,rfl⟩
theorem ar1(a b c d e f g:α):wl [a,b,c,d,e,f,g]=wt a+wt b+wt c+wt d+wt e+wt f+wt g+7∧ [a,b,c,d,e,f,g].length=7:=⟨by simp only [wl];omega,rfl⟩
theorem aY(l:List α):l.length≤wl l:=by
 induction l with
 |nil=>simp
 |cons a l ih=>simp only [wl,List.length_cons];omega
theorem GL(k:Nat)(l:List α):wl (l.take k)+wl (l.drop k)=wl l:=by
 have:=(b6 (l.take k) (l.drop k)).1
 rw [List.take_append_drop] at this
 omega
theorem oJ(l:List α)(k:Nat):wl (l.take k)≤wl l:=by have:=GL k l;omega
theorem apV(k:Nat)(l:List α):wl (l.drop k)≤wl l:=by have:=GL k l;omega
theorem TD(a b:Nat)(l:List α):wl (List.drop a (List.take b l))≤wl l∧(List.drop a (List.take b l)).length=min b l.length-a:=by
 have h1:=apV a (l.take b)
 have h2:=oJ l b
 exact⟨by omega,by simp⟩
theorem aoR{l:List α}{x:α}(h:x∈l):wt x+1≤wl l:=by
 induction l with
 |nil=>simp at h
 |cons a l ih=>
  simp only [wl]
  rcases List.mem_cons.1 h with rfl|h
  ·omega
  ·have:=ih h;omega
theorem abX(l:List α)(a b:Nat):a≤b→wl (l.take a)≤wl (l.take b):=fun h=>by
 have:=oJ (l.take b) a
 rwa [List.take_take,Nat.min_eq_left h] at this
theorem arC(L:List α)(b:Nat):1≤b→wl (List.drop (1:Int).toNat (List.take b L))+wl (List.take 1 L)≤wl (List.take b L):=fun h=>by
 have:=GL 1 (L.take b)
 rw [List.take_take,Nat.min_eq_left h] at this
 show wl (List.drop 1 _)+_≤_
 omega
variable [Inhabited α]
theorem b7(l:List α)(i:Nat):i<l.length→wt (aW l i)+1≤wl l:=fun h=>aoR (GQ h)
theorem oM(l:List α)(i:Nat)(h:i<l.length):wl (l.take (i+1))=wl (l.take i)+wt (aW l i)+1:=by
 rw [aoP h,(b6 _ _).1,(cE _).1]
 omega
theorem JI(l:List α)(i:Nat):i<l.length→wl (l.take (i+1))=wl (l.take i)+wt (aW l i)+1:=oM l i
end
theorem eT(E:Int): -9223372036854775808≤E∧E≤9223372036854775807→aQ E=E:=fun h=>by
 unfold aQ IntKind.wrap
 simp [IntKind.bits,IntKind.signed]
 omega
theorem C2(b:ByteArray)(i j:Nat):(b.extract i j).size=min j b.size-i:=by simp [ByteArray.size_extract]
theorem fF(a b:ByteArray):(a++b).size=a.size+b.size:=ByteArray.size_append
theorem am4(l:List UInt8):(bytesStr l).size=l.length:=by simp [bytesStr,ByteArray.size]
theorem E9{b:ByteArray}(h: ¬b=⟨#[]⟩):0<b.size:=by
 rcases Nat.eq_zero_or_pos b.size with h0|h0
 ·refine absurd ?_ h
  obtain⟨a⟩:=b
  have h1:a.size=0:=h0
  rw [Array.eq_empty_of_size_eq_zero h1]
 ·exact h0
theorem bQ{p:Prop}(h:p:=by first|omega|(dsimp only;omega)|trivial|(dsimp only;trivial)):p:=h
theorem Ok.next{σ β:Type}{N E:σ→Prop}{Q:β→Prop}{s:σ}(h:N s):Ok (Option.some (LR.next s)) (PL Q N E):=⟨_,rfl,h⟩
theorem Ok.brk{σ β:Type}{N E:σ→Prop}{Q:β→Prop}{s:σ}(h:E s):Ok (Option.some (LR.brk s)) (PL Q N E):=⟨_,rfl,h⟩
theorem Ok.ret{σ β:Type}{N E:σ→Prop}{Q:β→Prop}{x:β}(h:Q x):Ok (Option.some (LR.ret (σ:=σ) x)) (PL Q N E):=⟨_,rfl,h⟩
theorem Ok.inr{σ β:Type}{E:σ→Prop}{Q:β→Prop}{s:σ}(h:E s):Ok (Option.some (Sum.inr (α:=β) s)) (PS Q E):=⟨_,rfl,h⟩
theorem Ok.swd{α:Type}{p:Prop}[Decidable p]{a b:Option α}{P:α→Prop}(ht:p→Ok a P)(hf: ¬p→Ok b P):Ok (Go.Proofs.YtpioomclpaiomaaGreat.sw (decide p) a b) P:=Ok.sw (fun h=>ht (of_decide_eq_true h)) (fun h=>hf (of_decide_eq_false h))
theorem Ok.swn{α:Type}{p:Prop}[Decidable p]{a b:Option α}{P:α→Prop}(ht: ¬p→Ok a P)(hf:p→Ok b P):Ok (Go.Proofs.YtpioomclpaiomaaGreat.sw (!decide p) a b) P:=Ok.sw (fun h=>ht (by simpa using h)) (fun h=>hf (by simpa using h))
theorem Ok.swb{α:Type}{x:Bool}{a b:Option α}{P:α→Prop}(ht:x=false→Ok a P)(hf:x=true→Ok b P):Ok (Go.Proofs.YtpioomclpaiomaaGreat.sw (!x) a b) P:=Ok.sw (fun h=>ht (by simpa using h)) (fun h=>hf (by simpa using h))
theorem Ok.loop0{σ β:Type}{f:Nat→σ→Option (LR σ β)}{n i:Nat}{s:σ}{Q:β→Prop}{E:σ→Prop}(I:Nat→σ→Prop)(h0:I i s)(hE: ∀i s,n≤i→I i s→E s)(hs: ∀i s,i<n→I i s→Ok (f i s) (PL Q (I (i+1)) E)):Ok (Go.Proofs.YtpioomclpaiomaaGreat.loopN f (n-i) i s) (PS Q E):=Ok.loopN0 I h0 hE hs
theorem Ok.loop1{σ β:Type}{f:Nat→σ→Option (LR σ β)}{n i:Nat}{s:σ}{Q:β→Prop}(hs: ∀i s,i<n→Ok (f i s) (PL Q (fun _=>True) (fun _=>True))):Ok (Go.Proofs.YtpioomclpaiomaaGreat.loopN f (n-i) i s) (PS Q (fun _=>True)):=Ok.loopN0 (fun _ _=>True) trivial (fun _ _ _ _=>trivial) (fun i s hi _=>hs i s hi)
theorem oG{α:Type}{g:Prop}{a:Option α}{P:α→Prop}(k:g→Ok a P)(h:g:=by first|omega|trivial):Ok (Go.Proofs.YtpioomclpaiomaaGreat.gd g a) P:=Ok.gdk h k
theorem oD{α:Type}{p:Prop}[Decidable p]{a b:Option α}{P:α→Prop}(ht:p→Ok a P)(hf: ¬p→Ok b P):Ok (Go.Proofs.YtpioomclpaiomaaGreat.sw (decide p) a b) P:=Ok.swd ht hf
theorem oN{α:Type}{p:Prop}[Decidable p]{a b:Option α}{P:α→Prop}(ht: ¬p→Ok a P)(hf:p→Ok b P):Ok (Go.Proofs.YtpioomclpaiomaaGreat.sw (!decide p) a b) P:=Ok.swn ht hf
theorem oW{α:Type}{x:Bool}{a b:Option α}{P:α→Prop}(ht:x=false→Ok a P)(hf:x=true→Ok b P):Ok (Go.Proofs.YtpioomclpaiomaaGreat.sw (!x) a b) P:=Ok.swb ht hf
theorem oC{α:Type}{c:Bool}{a b:Option α}{P:α→Prop}(ht:c=true→Ok a P)(hf:c=false→Ok b P):Ok (Go.Proofs.YtpioomclpaiomaaGreat.sw c a b) P:=Ok.sw ht hf
theorem oB{α β:Type}{o:Option α}{f:α→Option β}{Q:α→Prop}{P:β→Prop}(h:Ok o Q)(k: ∀a,Q a→Ok (f a) P):Ok (Go.Proofs.YtpioomclpaiomaaGreat.bd o f) P:=Ok.bd h k
theorem Q8{α β:Type}{o:Option α}{f:α→Option β}{Q1 Q2:α→Prop}{P:β→Prop}(h:Ok o (fun r=>Q1 r∧Q2 r))(k: ∀a,Q1 a→Q2 a→Ok (f a) P):Ok (Go.Proofs.YtpioomclpaiomaaGreat.bd o f) P:=Ok.bd h fun a q=>k a q.1 q.2
theorem uM{A B β:Type}{o:Option (A×B)}{f:A×B→Option β}{Q:A×B→Prop}{P:β→Prop}(h:Ok o Q)(k: ∀a b,Q (a,b)→Ok (f (a,b)) P):Ok (Go.Proofs.YtpioomclpaiomaaGreat.bd o f) P:=Ok.bd h fun _ q=>k _ _ q
theorem oB4{A B C D β:Type}{o:Option (A×B×C×D)}{f:A×B×C×D→Option β}{Q:A×B×C×D→Prop}{P:β→Prop}(h:Ok o Q)(k: ∀a b c d,Q (a,b,c,d)→Ok (f (a,b,c,d)) P):Ok (Go.Proofs.YtpioomclpaiomaaGreat.bd o f) P:=Ok.bd h fun _ q=>k _ _ _ _ q
theorem oB6{A B C D E F β:Type}{o:Option (A×B×C×D×E×F)}{f:A×B×C×D×E×F→Option β}{Q:A×B×C×D×E×F→Prop}{P:β→Prop}(h:Ok o Q)(k: ∀a b c d e g,Q (a,b,c,d,e,g)→Ok (f (a,b,c,d,e,g)) P):Ok (Go.Proofs.YtpioomclpaiomaaGreat.bd o f) P:=Ok.bd h fun _ q=>k _ _ _ _ _ _ q
theorem oS{α:Type}{P:α→Prop}{a:α}(h:P a:=by first|trivial|omega|(dsimp only;omega)):Ok (Option.some a) P:=⟨a,rfl,h⟩
theorem oO{σ β:Type}{N E:σ→Prop}{Q:β→Prop}{s:σ}(h:N s:=by first|trivial|omega|(dsimp only;omega)):Ok (Option.some (LR.next s)) (PL Q N E):=⟨_,rfl,h⟩
theorem oK{σ β:Type}{N E:σ→Prop}{Q:β→Prop}{s:σ}(h:E s:=by first|trivial|omega|(dsimp only;omega)):Ok (Option.some (LR.brk s)) (PL Q N E):=⟨_,rfl,h⟩
theorem oR{σ β:Type}{N E:σ→Prop}{Q:β→Prop}{x:β}(h:Q x:=by first|trivial|omega|(dsimp only;omega)):Ok (Option.some (LR.ret (σ:=σ) x)) (PL Q N E):=⟨_,rfl,h⟩
theorem oL{σ β:Type}{E:σ→Prop}{Q:β→Prop}{x:β}(h:Q x:=by first|trivial|omega|(dsimp only;omega)):Ok (Option.some (Sum.inl (β:=σ) x)) (PS Q E):=⟨_,rfl,h⟩
theorem oI{σ β:Type}{E:σ→Prop}{Q:β→Prop}{s:σ}(h:E s:=by first|trivial|omega|(dsimp only;omega)):Ok (Option.some (Sum.inr (α:=β) s)) (PS Q E):=⟨_,rfl,h⟩
theorem EW{σ β:Type}{o:Option (β⊕σ)}{f:σ→Option β}{P:β→Prop}(h:Ok o (PS P fun _=>True))(k: ∀s,True→Ok (f s) P):Ok (Go.Proofs.YtpioomclpaiomaaGreat.so o f) P:=Ok.sok h k
theorem oEN{σ β:Type}{n i0:Nat}{s0:σ}{F:Nat→σ→Option (LR σ β)}{f:σ→Option β}{P:β→Prop}(hs: ∀i s,i<n→Ok (F i s) (PL P (fun _=>True) (fun _=>True)))(k: ∀s,True→Ok (f s) P):Ok (Go.Proofs.YtpioomclpaiomaaGreat.so (Go.Proofs.YtpioomclpaiomaaGreat.loopN F (n-i0) i0 s0) f) P:=Ok.sok (Ok.loop1 hs) k
theorem MW{A B β:Type}[Wt A][Wt B][Inhabited A]{F:Nat→List B→Option (LR (List B) β)}{f:List B→Option β}{i0:Nat}{v0:List B}{Q:β→Prop}(L:List A)(c:Nat)
 (hs: ∀i v,i<L.length→wl v+c*wl (List.take i0 L)≤wl v0+c*wl (List.take i L)→wl (L.take (i+1))=wl (L.take i)+wt (aW L i)+1→wl (L.take (i+1))≤wl L→
  Ok (F i v) (PL Q (fun v=>wl v+c*wl (List.take i0 L)≤wl v0+c*wl (List.take (i+1) L)) (fun v=>wl v+c*wl (List.take i0 L)≤wl v0+c*wl L)))
 (k: ∀v,wl v+c*wl (List.take i0 L)≤wl v0+c*wl L→Ok (f v) Q):Ok (Go.Proofs.YtpioomclpaiomaaGreat.so (Go.Proofs.YtpioomclpaiomaaGreat.loopN F (L.length-i0) i0 v0) f) Q:=
 Ok.sok (Ok.loopN0 (fun i v=>wl v+c*wl (List.take i0 L)≤wl v0+c*wl (List.take i L)) (Nat.le_refl _) (fun i v _ h=>Nat.le_trans h (Nat.add_le_add_left (Nat.mul_le_mul_left _ (oJ L i)) _)) (fun i v hi h=>hs i v hi h (oM L i hi) (oJ L _))) k
theorem apD{A B β:Type}[Wt A][Wt B][Inhabited A]{F:Nat→List B→Option (LR (List B) β)}{f:List B→Option β}{i0:Nat}{Q:β→Prop}{PA:B→Prop}(L:List A)(c:Nat)
 (hs: ∀i v,i<L.length→wl v+c*wl (List.take i0 L)≤wl ([]:List B)+c*wl (List.take i L)→(∀a∈v,PA a)→wl (L.take (i+1))=wl (L.take i)+wt (aW L i)+1→wl (L.take (i+1))≤wl L→
  Ok (F i v) (PL Q (fun v=>wl v+c*wl (List.take i0 L)≤wl ([]:List B)+c*wl (List.take (i+1) L)∧ ∀a∈v,PA a) (fun v=>wl v+c*wl (List.take i0 L)≤wl ([]:List B)+c*wl L∧ ∀a∈v,PA a)))
 (k: ∀v,(wl v+c*wl (List.take i0 L)≤wl ([]:List B)+c*wl L∧ ∀a∈v,PA a)→Ok (f v) Q):Ok (Go.Proofs.YtpioomclpaiomaaGreat.so (Go.Proofs.YtpioomclpaiomaaGreat.loopN F (L.length-i0) i0 []) f) Q:=
 Ok.sok (Ok.loopN0 (fun i v=>wl v+c*wl (List.take i0 L)≤wl ([]:List B)+c*wl (List.take i L)∧ ∀a∈v,PA a) ⟨Nat.le_refl _,by simp⟩ (fun i v _ h=>⟨Nat.le_trans h.1 (Nat.add_le_add_left (Nat.mul_le_mul_left _ (oJ L i)) _),h.2⟩) (fun i v hi h=>hs i v hi h.1 h.2 (oM L i hi) (oJ L _))) k
instance:Wt aU:=⟨fun x=>Tr.bulkL (aU.tr x)⟩
instance:Wt aB:=⟨fun x=>Tr.bulkL (aB.tr x)⟩
instance:Wt aG:=⟨fun x=>Tr.bulkL (aG.tr x)⟩
instance:Wt bA:=⟨fun x=>Tr.bulkL (bA.tr x)⟩
instance:Wt aM:=⟨fun x=>Tr.bulkL (aM.tr x)⟩
instance:Wt aT:=⟨fun x=>Tr.bulkL (aT.tr x)⟩
instance:Wt aO:=⟨fun x=>Tr.bulkL (aO.tr x)⟩
instance:Wt aD:=⟨fun x=>Tr.bulkL (aD.tr x)⟩
instance:Wt aC:=⟨fun x=>Tr.bulkL (aC.tr x)⟩
instance:Wt aP:=⟨fun x=>Tr.bulkL (aP.tr x)⟩
instance:Wt aH:=⟨fun x=>Tr.bulkL (aH.tr x)⟩
instance:Wt aL:=⟨fun x=>Tr.bulkL (aL.tr x)⟩
instance:Wt aK:=⟨fun x=>Tr.bulkL (aK.tr x)⟩
instance:Wt aJ:=⟨fun x=>Tr.bulkL (aJ.tr x)⟩
instance:Wt aF:=⟨fun x=>Tr.bulkL (aF.tr x)⟩
instance:Wt aA:=⟨fun x=>Tr.bulkL (aA.tr x)⟩
instance:Wt bB:=⟨fun x=>Tr.bulkL (bB.tr x)⟩
instance:Wt bZ:=⟨fun x=>Tr.bulkL (bZ.tr x)⟩
instance:Wt bS:=⟨fun x=>Tr.bulkL (bS.tr x)⟩
theorem aB.wl_bulk(l:List aB):wl l=l.length+Tr.bulkAll (aB.trs l):=by
 induction l with
 |nil=>rw [aB.bks_nil];rfl
 |cons a l ih=>
  rw [aB.bks_cons]
  simp only [wl,List.length_cons,ih]
  show Tr.bulkL (aB.tr a)+1+_=_
  omega
theorem aG.wl_bulk(l:List aG):wl l=l.length+Tr.bulkAll (aG.trs l):=by
 induction l with
 |nil=>rw [aG.bks_nil];rfl
 |cons a l ih=>
  rw [aG.bks_cons]
  simp only [wl,List.length_cons,ih]
  show Tr.bulkL (aG.tr a)+1+_=_
  omega
theorem bA.wl_bulk(l:List bA):wl l=l.length+Tr.bulkAll (bA.trs l):=by
 induction l with
 |nil=>rw [bA.bks_nil];rfl
 |cons a l ih=>
  rw [bA.bks_cons]
  simp only [wl,List.length_cons,ih]
  show Tr.bulkL (bA.tr a)+1+_=_
  omega
theorem aM.wl_bulk(l:List aM):wl l=l.length+Tr.bulkAll (aM.trs l):=by
 induction l with
 |nil=>rw [aM.bks_nil];rfl
 |cons a l ih=>
  rw [aM.bks_cons]
  simp only [wl,List.length_cons,ih]
  show Tr.bulkL (aM.tr a)+1+_=_
  omega
theorem aT.wl_bulk(l:List aT):wl l=l.length+Tr.bulkAll (aT.trs l):=by
 induction l with
 |nil=>rw [aT.bks_nil];rfl
 |cons a l ih=>
  rw [aT.bks_cons]
  simp only [wl,List.length_cons,ih]
  show Tr.bulkL (aT.tr a)+1+_=_
  omega
theorem aO.wl_bulk(l:List aO):wl l=l.length+Tr.bulkAll (aO.trs l):=by
 induction l with
 |nil=>rw [aO.bks_nil];rfl
 |cons a l ih=>
  rw [aO.bks_cons]
  simp only [wl,List.length_cons,ih]
  show Tr.bulkL (aO.tr a)+1+_=_
  omega
theorem aD.wl_bulk(l:List aD):wl l=l.length+Tr.bulkAll (aD.trs l):=by
 induction l with
 |nil=>rw [aD.bks_nil];rfl
 |cons a l ih=>
  rw [aD.bks_cons]
  simp only [wl,List.length_cons,ih]
  show Tr.bulkL (aD.tr a)+1+_=_
  omega
theorem aC.wl_bulk(l:List aC):wl l=l.length+Tr.bulkAll (aC.trs l):=by
 induction l with
 |nil=>rw [aC.bks_nil];rfl
 |cons a l ih=>
  rw [aC.bks_cons]
  simp only [wl,List.length_cons,ih]
  show Tr.bulkL (aC.tr a)+1+_=_
  omega
theorem aP.wl_bulk(l:List aP):wl l=l.length+Tr.bulkAll (aP.trs l):=by
 induction l with
 |nil=>rw [aP.bks_nil];rfl
 |cons a l ih=>
  rw [aP.bks_cons]
  simp only [wl,List.length_cons,ih]
  show Tr.bulkL (aP.tr a)+1+_=_
  omega
theorem aH.wl_bulk(l:List aH):wl l=l.length+Tr.bulkAll (aH.trs l):=by
 induction l with
 |nil=>rw [aH.bks_nil];rfl
 |cons a l ih=>
  rw [aH.bks_cons]
  simp only [wl,List.length_cons,ih]
  show Tr.bulkL (aH.tr a)+1+_=_
  omega
theorem aL.wl_bulk(l:List aL):wl l=l.length+Tr.bulkAll (aL.trs l):=by
 induction l with
 |nil=>rw [aL.bks_nil];rfl
 |cons a l ih=>
  rw [aL.bks_cons]
  simp only [wl,List.length_cons,ih]
  show Tr.bulkL (aL.tr a)+1+_=_
  omega
theorem aK.wl_bulk(l:List aK):wl l=l.length+Tr.bulkAll (aK.trs l):=by
 induction l with
 |nil=>rw [aK.bks_nil];rfl
 |cons a l ih=>
  rw [aK.bks_cons]
  simp only [wl,List.length_cons,ih]
  show Tr.bulkL (aK.tr a)+1+_=_
  omega
theorem aJ.wl_bulk(l:List aJ):wl l=l.length+Tr.bulkAll (aJ.trs l):=by
 induction l with
 |nil=>rw [aJ.bks_nil];rfl
 |cons a l ih=>
  rw [aJ.bks_cons]
  simp only [wl,List.length_cons,ih]
  show Tr.bulkL (aJ.tr a)+1+_=_
  omega
theorem aA.wl_bulk(l:List aA):wl l=l.length+Tr.bulkAll (aA.trs l):=by
 induction l with
 |nil=>rw [aA.bks_nil];rfl
 |cons a l ih=>
  rw [aA.bks_cons]
  simp only [wl,List.length_cons,ih]
  show Tr.bulkL (aA.tr a)+1+_=_
  omega
theorem aB.wt_mk(v0:Int)(v1:ByteArray)(v2:List aB):wt (aB.mk v0 v1 v2)=v1.size+wl v2:=by
 show Tr.bulkL (aB.tr (.mk v0 v1 v2))=_
 rw [aB.bk_mk]
 simp only [aB.wl_bulk]
 try rfl
theorem aB.wt_eq(x:aB):wt x=x.gName.size+wl x.gArgs:=by
 obtain⟨v0,v1,v2⟩:=x
 exact aB.wt_mk v0 v1 v2
theorem aG.wt_mk(v0:Int)(v1:ByteArray)(v2:ByteArray)(v3:Int)(v4:aB)(v5:List aG)(v6:List bA):wt (aG.mk v0 v1 v2 v3 v4 v5 v6)=v1.size+v2.size+wt v4+wl v5+wl v6:=by
 show Tr.bulkL (aG.tr (.mk v0 v1 v2 v3 v4 v5 v6))=_
 rw [aG.bk_mk]
 simp only [aG.wl_bulk,bA.wl_bulk]
 try rfl
theorem aG.wt_eq(x:aG):wt x=x.gTrait.size+x.gName.size+wt x.gType+wl x.gArgs+wl x.gArms:=by
 obtain⟨v0,v1,v2,v3,v4,v5,v6⟩:=x
 exact aG.wt_mk v0 v1 v2 v3 v4 v5 v6
theorem bA.wt_mk(v0:ByteArray)(v1:LB)(v2:aG):wt (bA.mk v0 v1 v2)=v0.size+wl v1+wt v2:=by
 show Tr.bulkL (bA.tr (.mk v0 v1 v2))=_
 rw [bA.bk_mk]
 simp only [GM]
 try rfl
theorem bA.wt_eq(x:bA):wt x=x.gConstructor.size+wl x.gVars+wt x.gBody:=by
 obtain⟨v0,v1,v2⟩:=x
 exact bA.wt_mk v0 v1 v2
theorem aM.wt_mk(v0:ByteArray)(v1:aB):wt (aM.mk v0 v1)=v0.size+wt v1:=by
 show Tr.bulkL (aM.tr (.mk v0 v1))=_
 rw [aM.bk_mk]
 try rfl
theorem aM.wt_eq(x:aM):wt x=x.gTrait.size+wt x.gType:=by
 obtain⟨v0,v1⟩:=x
 exact aM.wt_mk v0 v1
theorem aT.wt_mk(v0:ByteArray)(v1:aB):wt (aT.mk v0 v1)=v0.size+wt v1:=by
 show Tr.bulkL (aT.tr (.mk v0 v1))=_
 rw [aT.bk_mk]
 try rfl
theorem aT.wt_eq(x:aT):wt x=x.gName.size+wt x.gType:=by
 obtain⟨v0,v1⟩:=x
 exact aT.wt_mk v0 v1
theorem aO.wt_mk(v0:ByteArray)(v1:LB)(v2:aG):wt (aO.mk v0 v1 v2)=v0.size+wl v1+wt v2:=by
 show Tr.bulkL (aO.tr (.mk v0 v1 v2))=_
 rw [aO.bk_mk]
 simp only [GM]
 try rfl
theorem aO.wt_eq(x:aO):wt x=x.gName.size+wl x.gVars+wt x.gBody:=by
 obtain⟨v0,v1,v2⟩:=x
 exact aO.wt_mk v0 v1 v2
theorem aD.wt_mk(v0:ByteArray)(v1:List aB):wt (aD.mk v0 v1)=v0.size+wl v1:=by
 show Tr.bulkL (aD.tr (.mk v0 v1))=_
 rw [aD.bk_mk]
 simp only [aB.wl_bulk]
 try rfl
theorem aD.wt_eq(x:aD):wt x=x.gName.size+wl x.gFields:=by
 obtain⟨v0,v1⟩:=x
 exact aD.wt_mk v0 v1
theorem aC.wt_mk(v0:ByteArray)(v1:List aB)(v2:aB)(v3:Bool)(v4:LB)(v5:aG):wt (aC.mk v0 v1 v2 v3 v4 v5)=v0.size+wl v1+wt v2+wl v4+wt v5:=by
 show Tr.bulkL (aC.tr (.mk v0 v1 v2 v3 v4 v5))=_
 rw [aC.bk_mk]
 simp only [aB.wl_bulk,GM]
 try rfl
theorem aC.wt_eq(x:aC):wt x=x.gName.size+wl x.gParams+wt x.gResult+wl x.gVars+wt x.gBody:=by
 obtain⟨v0,v1,v2,v3,v4,v5⟩:=x
 exact aC.wt_mk v0 v1 v2 v3 v4 v5
theorem aP.wt_mk(v0:ByteArray)(v1:LB)(v2:Bool)(v3:Bool)(v4:List aC):wt (aP.mk v0 v1 v2 v3 v4)=v0.size+wl v1+wl v4:=by
 show Tr.bulkL (aP.tr (.mk v0 v1 v2 v3 v4))=_
 rw [aP.bk_mk]
 simp only [GM,aC.wl_bulk]
 try rfl
theorem aP.wt_eq(x:aP):wt x=x.gName.size+wl x.gSupertraits+wl x.gSignatures:=by
 obtain⟨v0,v1,v2,v3,v4⟩:=x
 exact aP.wt_mk v0 v1 v2 v3 v4
theorem aH.wt_mk(v0:ByteArray)(v1:LB)(v2:List aD):wt (aH.mk v0 v1 v2)=v0.size+wl v1+wl v2:=by
 show Tr.bulkL (aH.tr (.mk v0 v1 v2))=_
 rw [aH.bk_mk]
 simp only [GM,aD.wl_bulk]
 try rfl
theorem aH.wt_eq(x:aH):wt x=x.gName.size+wl x.gVars+wl x.gConstructors:=by
 obtain⟨v0,v1,v2⟩:=x
 exact aH.wt_mk v0 v1 v2
theorem aL.wt_mk(v0:ByteArray)(v1:LB)(v2:aB)(v3:List aM)(v4:Bool)(v5:Bool)(v6:aB)(v7:List aO):wt (aL.mk v0 v1 v2 v3 v4 v5 v6 v7)=v0.size+wl v1+wt v2+wl v3+wt v6+wl v7:=by
 show Tr.bulkL (aL.tr (.mk v0 v1 v2 v3 v4 v5 v6 v7))=_
 rw [aL.bk_mk]
 simp only [GM,aM.wl_bulk,aO.wl_bulk]
 try rfl
theorem aL.wt_eq(x:aL):wt x=x.gTrait.size+wl x.gVars+wt x.gHead+wl x.gWhere+wt x.gAssoc+wl x.gMethods:=by
 obtain⟨v0,v1,v2,v3,v4,v5,v6,v7⟩:=x
 exact aL.wt_mk v0 v1 v2 v3 v4 v5 v6 v7
theorem aK.wt_mk(v0:ByteArray)(v1:LB)(v2:List aM)(v3:List aT)(v4:aB)(v5:aG):wt (aK.mk v0 v1 v2 v3 v4 v5)=v0.size+wl v1+wl v2+wl v3+wt v4+wt v5:=by
 show Tr.bulkL (aK.tr (.mk v0 v1 v2 v3 v4 v5))=_
 rw [aK.bk_mk]
 simp only [GM,aM.wl_bulk,aT.wl_bulk]
 try rfl
theorem aK.wt_eq(x:aK):wt x=x.gName.size+wl x.gVars+wl x.gWhere+wl x.gParams+wt x.gResult+wt x.gBody:=by
 obtain⟨v0,v1,v2,v3,v4,v5⟩:=x
 exact aK.wt_mk v0 v1 v2 v3 v4 v5
theorem aJ.wt_mk(v0:ByteArray)(v1:LB)(v2:List aP)(v3:List aH)(v4:List aL)(v5:List aK):wt (aJ.mk v0 v1 v2 v3 v4 v5)=v0.size+wl v1+wl v2+wl v3+wl v4+wl v5:=by
 show Tr.bulkL (aJ.tr (.mk v0 v1 v2 v3 v4 v5))=_
 rw [aJ.bk_mk]
 simp only [GM,aP.wl_bulk,aH.wl_bulk,aL.wl_bulk,aK.wl_bulk]
 try rfl
theorem aJ.wt_eq(x:aJ):wt x=x.gName.size+wl x.gDeps+wl x.gTraits+wl x.gDataTypes+wl x.gInstances+wl x.gFunctions:=by
 obtain⟨v0,v1,v2,v3,v4,v5⟩:=x
 exact aJ.wt_mk v0 v1 v2 v3 v4 v5
theorem aF.wt_mk(v0:List aJ):wt (aF.mk v0)=wl v0:=by
 show Tr.bulkL (aF.tr (.mk v0))=_
 rw [aF.bk_mk]
 simp only [aJ.wl_bulk]
 try rfl
theorem aF.wt_eq(x:aF):wt x=wl x.gPackages:=by
 obtain⟨v0⟩:=x
 exact aF.wt_mk v0
theorem aA.wt_mk(v0:ByteArray)(v1:List aA):wt (aA.mk v0 v1)=v0.size+wl v1:=by
 show Tr.bulkL (aA.tr (.mk v0 v1))=_
 rw [aA.bk_mk]
 simp only [aA.wl_bulk]
 try rfl
theorem aA.wt_eq(x:aA):wt x=x.gAtom.size+wl x.gList:=by
 obtain⟨v0,v1⟩:=x
 exact aA.wt_mk v0 v1
end Go.Proofs.YtpioomclpaiomaaGreat

namespace Go.Proofs.YtpioomclpaiomaaGreat.W
set_option maxRecDepth 20000
set_option maxHeartbeats 4000000
open Go.RowKit Go.WalkArith Go.IntWalk
def XR(fu:Nat):Prop:= ∀(px:UInt8),Ok (G7 fu px) (fun _=>True)
theorem GW:cH XR:=(cH.ge 2147483648).imp fun fu hfu px=>by
 refine oD (fun g1=>?_) fun g1=>?_
 ·refine oD (fun _=>oS) fun g2=>?_;refine oD (fun g3=>?_) fun g3=>?_
  ·exact oD (fun _=>oS) fun g4=>oD (fun _=>oS) fun g5=>oD (fun _=>oS) fun g6=>oD (fun _=>oS) fun g7=>oD (fun _=>oS) fun g8=>oD (fun _=>oS) fun g9=>oD (fun _=>oS) fun g10=>oS
  exact oD (fun _=>oS) fun g11=>oD (fun _=>oS) fun g12=>oD (fun _=>oS) fun g13=>oD (fun _=>oS) fun g14=>oD (fun _=>oS) fun g15=>oD (fun _=>oS) fun g16=>oS
 refine oD (fun g17=>?_) fun g17=>?_
 ·exact oD (fun _=>oS) fun g18=>oD (fun _=>oS) fun g19=>oD (fun _=>oS) fun g20=>oD (fun _=>oS) fun g21=>oD (fun _=>oS) fun g22=>oD (fun _=>oS) fun g23=>oD (fun _=>oS) fun g24=>oS
 exact oD (fun _=>oS) fun g25=>oD (fun _=>oS) fun g26=>oD (fun _=>oS) fun g27=>oD (fun _=>oS) fun g28=>oD (fun _=>oS) fun g29=>oD (fun _=>oS) fun g30=>oS
def ajI(fu:Nat):Prop:= ∀(px plo phi:Int),Ok (rG fu px plo phi) (fun _=>True)
theorem q8:cH ajI:=(cH.ge 2147483648).imp fun fu hfu px plo phi=>by
 exact oD (fun _=>oS) fun g1=>oS
def E7(fu:Nat):Prop:= ∀(ps:ByteArray),ps.size≤1073741824→Ok (zN fu ps) (fun _=>True)
theorem p7:cH E7:=(((cH.ge 2147483648).and GW).and q8).imp fun fu ⟨⟨hfu,GW⟩,q8⟩ ps hpre=>by
 refine EW ?_ ?_
 ·refine Ok.loop1 ?_;rintro i1 ⟨⟩ hl2
  exact oG fun z4=>oB (GW (C1 ps i1)) fun x6 _=>oW (fun _=>oR) fun g6=>oO
 rintro⟨⟩-
 exact oB (q8 (ps.size:Int) 1 12) fun x9 _=>oS
def akI(fu:Nat):Prop:= ∀(px:aA) (pleft:Int),wt px≤1073741824→Ok (o7 fu px pleft) (fun _=>True)
def NX(n:Nat)(m:vE):Prop:= ∀(px:aA) (pleft:Int),wt px<n→wt px≤1073741824→Ok (m px pleft) (fun _=>True)
theorem aiF{n fu:Nat}(hfu:2147483648≤fu){r_sl2Left:vE}(h_sl2Left:NX n r_sl2Left):NX (n+1) (QF fu r_sl2Left):=by
 intro px pleft hm hpre
 refine oEN (fun i1 v2 hl2=>?_) ?_
 ·have:=aA.wt_eq px
  have:=aY px.gList
  refine oD (fun g4=>?_) fun g4=>?_
  ·have:=b7 px.gList i1 hl2
   exact oB (h_sl2Left (aW px.gList i1) v2 bQ bQ) fun x7 _=>oO
  exact oK
 intro v2 _
 exact oS
theorem al7(n:Nat):cH fun fu=>NX n (o7 fu):=by
 induction n with
 |zero=>exact .all fun fu=>fun _ _ h=>absurd h (Nat.not_lt_zero _)
 |succ n ih=>exact cH.succ ((ih.and (cH.ge 2147483648)).imp fun fu ⟨h,hfu⟩=>fun px pleft=>by rw [o7];exact aiF hfu h px pleft)
theorem OY:cH akI:=(al7 8589934592).imp fun fu h px pleft hpre=>h px pleft bQ hpre
def akH(fu:Nat):Prop:= ∀(px:aA),wt px≤1073741824→Ok (o6 fu px) (fun _=>True)
def NW(n:Nat)(m:vD):Prop:= ∀(px:aA),wt px<n→wt px≤1073741824→Ok (m px) (fun _=>True)
theorem aiB{n fu:Nat}(hfu:2147483648≤fu)(p7:E7 fu){r_sl2Form:vD}(h_sl2Form:NW n r_sl2Form):NW (n+1) (QE fu r_sl2Form):=by
 intro px hm hpre
 have:=aA.wt_eq px
 have:s_.size=0:=rfl
 refine oN (fun g1=>?_) fun g1=>?_
 ·have:=E9 g1
  exact oB (p7 px.gAtom bQ) fun x3 _=>oC (fun _=>oS) fun g3=>oS
 refine EW ?_ ?_
 ·refine Ok.loop1 ?_;rintro i5 ⟨⟩ hl5
  have:=aY px.gList
  have:=b7 px.gList i5 hl5
  exact oB (h_sl2Form (aW px.gList i5) bQ bQ) fun x9 _=>oW (fun _=>oR) fun g8=>oO
 rintro⟨⟩-
 exact oS
theorem al6(n:Nat):cH fun fu=>NW n (o6 fu):=by
 induction n with
 |zero=>exact .all fun fu=>fun _ h=>absurd h (Nat.not_lt_zero _)
 |succ n ih=>exact cH.succ ((ih.and ((cH.ge 2147483648).and p7)).imp fun fu ⟨h,⟨hfu,p7⟩⟩=>fun px=>by rw [o6];exact aiB hfu p7 h px)
theorem OX:cH akH:=(al6 8589934592).imp fun fu h px hpre=>h px bQ hpre
def TK(fu:Nat):Prop:= ∀(pa pb:Int),Ok (NK fu pa pb) (fun _=>True)
theorem sA:cH TK:=(cH.ge 2147483648).imp fun fu hfu pa pb=>by
 exact oD (fun _=>oS) fun g1=>oS
def WH(fu:Nat):Prop:= ∀(px:aA),wt px≤1073741824→Ok (iZ fu px) (fun _=>True)
def A1(n:Nat)(m:mZ):Prop:= ∀(px:aA),wt px<n→wt px≤1073741824→Ok (m px) (fun _=>True)
theorem VC{n fu:Nat}(hfu:2147483648≤fu)(sA:TK fu){r_sSExprDepth:mZ}(h_sSExprDepth:A1 n r_sSExprDepth):A1 (n+1) (BM fu r_sSExprDepth):=by
 intro px hm hpre
 have:=aA.wt_eq px
 have:s_.size=0:=rfl
 refine oN (fun _=>oS) fun g1=>?_;refine oEN (fun i2 v3 hl3=>?_) ?_
 ·have:=aY px.gList
  have:=b7 px.gList i2 hl3
  exact oB (h_sSExprDepth (aW px.gList i2) bQ bQ) fun x7 _=>oB (sA v3 x7) fun x9 _=>oO
 intro v3 _
 exact oS
theorem W7(n:Nat):cH fun fu=>A1 n (iZ fu):=by
 induction n with
 |zero=>exact .all fun fu=>fun _ h=>absurd h (Nat.not_lt_zero _)
 |succ n ih=>exact cH.succ ((ih.and ((cH.ge 2147483648).and sA)).imp fun fu ⟨h,⟨hfu,sA⟩⟩=>fun px=>by rw [iZ];exact VC hfu sA h px)
theorem BF:cH WH:=(W7 8589934592).imp fun fu h px hpre=>h px bQ hpre
def RL(fu:Nat):Prop:= ∀(px:aA),wt px≤1073741824→Ok (iP fu px) (fun _=>True)
theorem cN:cH RL:=((((cH.ge 2147483648).and OY).and OX).and BF).imp fun fu ⟨⟨⟨hfu,OY⟩,OX⟩,BF⟩ px hpre=>by
 refine oB (OY px 900 bQ) fun x2 _=>?_;refine oD (fun g2=>?_) fun g2=>?_
 ·refine oB (OX px bQ) fun x5 _=>?_;refine oC (fun g4=>?_) fun g4=>?_
  ·exact oB (BF px bQ) fun x8 _=>oS
  exact oS
 exact oS
def C0(fu:Nat):Prop:= ∀(plist:List aA),wl plist≤1073741824→Ok (zW fu plist) (fun r=>wl r.1≤wl plist)
theorem iQ:cH C0:=(cH.ge 2147483648).imp fun fu hfu plist hpre=>by
 have:=(aV:wl ([]:LB)=0∧_)
 refine MW plist 1 (fun i1 v3 hl2 hI3 _ _=>?_) ?_
 ·have:=aY plist
  have:=b7 plist i1 hl2
  have:=aA.wt_eq (aW plist i1)
  have:s_.size=0:=rfl
  refine oD (fun _=>oR) fun g4=>?_
  have:=E9 g4
  have:=aY (v3)
  have:=cE ((aW plist i1).gAtom)
  have:=a9 ((aW plist i1).gAtom)
  refine oG fun z5=>?_
  have:=b6 v3 ([((aW plist i1).gAtom)]:LB)
  exact oO
 intro v3 h1
 exact oS
def GP(fu:Nat):Prop:= ∀(ps:ByteArray),Ok (cF fu ps) (fun r=>wt r=ps.size)
theorem bN:cH GP:=(cH.ge 2147483648).imp fun fu hfu ps=>by
 have:=(aV:wl ([]:List aA)=0∧_)
 have:=aA.wt_mk ps []
 exact oS
def JY(fu:Nat):Prop:= ∀(plist:LB),wl plist≤1073741824→Ok (EE fu plist) (fun r=>wl r≤wl plist)
theorem mX:cH JY:=((cH.ge 2147483648).and bN).imp fun fu ⟨hfu,bN⟩ plist hpre=>by
 have:=(aV:wl ([]:List aA)=0∧_)
 refine MW plist 1 (fun i1 v3 hl2 hI3 _ _=>?_) ?_
 ·have:=aY plist
  have:=b7 plist i1 hl2
  have:=a9 (aW plist i1)
  refine oB (bN (aW plist i1)) fun x7 h4=>?_
  have:=aY (v3)
  have:=cE x7
  refine oG fun z5=>?_
  have:=b6 v3 ([x7]:List aA)
  exact oO
 intro v3 h1
 exact oS
def XS(fu:Nat):Prop:= ∀(plist:List aA),wl plist≤1073741824→Ok (mE fu plist) (fun r=>wt r=wl plist)
theorem e8:cH XS:=(cH.ge 2147483648).imp fun fu hfu plist hpre=>by
 have:=(aV:wl ([]:List aA)=0∧_)
 have:=aY (plist)
 refine oG fun z1=>?_
 have:s_.size=0:=rfl
 have:=b6 ([]:List aA) plist
 have:=aA.wt_mk s_ (([])++plist)
 exact oS
def WE(fu:Nat):Prop:= ∀(pa pb:aA),wt pa≤1073741824→Ok (f7 fu pa pb) (fun _=>True)
def A0(n:Nat)(m:mY):Prop:= ∀(pa pb:aA),wt pa<n→wt pa≤1073741824→Ok (m pa pb) (fun _=>True)
theorem U1{n fu:Nat}(hfu:2147483648≤fu){r_sEqualSExpr:mY}(h_sEqualSExpr:A0 n r_sEqualSExpr):A0 (n+1) (BJ fu r_sEqualSExpr):=by
 intro pa pb hm hpre
 have:=aA.wt_eq pa
 have:=aA.wt_eq pb
 refine oN (fun _=>oS) fun g1=>?_
 have:=aY pa.gList
 have:=aY pb.gList
 refine oN (fun _=>oS) fun g2=>?_;refine EW ?_ ?_
 ·refine Ok.loop1 ?_;rintro i3 ⟨⟩ hl4
  have:=aY (pb.gList)
  refine oG fun z6=>?_
  have:=b7 pa.gList i3 hl4
  have:=b7 pb.gList i3 z6
  exact oB (h_sEqualSExpr (aW pa.gList i3) (aW pb.gList i3) bQ bQ) fun x8 _=>oW (fun _=>oR) fun g8=>oO
 rintro⟨⟩-
 exact oS
theorem W1(n:Nat):cH fun fu=>A0 n (f7 fu):=by
 induction n with
 |zero=>exact .all fun fu=>fun _ _ h=>absurd h (Nat.not_lt_zero _)
 |succ n ih=>exact cH.succ ((ih.and (cH.ge 2147483648)).imp fun fu ⟨h,hfu⟩=>fun pa pb=>by rw [f7];exact U1 hfu h pa pb)
theorem gV:cH WE:=(W1 8589934592).imp fun fu h pa pb hpre=>h pa pb bQ hpre
end Go.Proofs.YtpioomclpaiomaaGreat.W

namespace Go.Proofs.YtpioomclpaiomaaGreat.W
set_option maxRecDepth 20000
set_option maxHeartbeats 4000000
open Go.RowKit Go.WalkArith Go.IntWalk
def TJ(fu:Nat):Prop:= ∀(plist:LB) (ps:ByteArray),Ok (nQ fu plist ps) (fun _=>True)
theorem dT:cH TJ:=(cH.ge 2147483648).imp fun fu hfu plist ps=>by
 refine EW ?_ ?_
 ·refine Ok.loop1 ?_;rintro i1 ⟨⟩ hl2
  have:=aY plist
  exact oD (fun _=>oR) fun g4=>oO
 rintro⟨⟩-
 exact oS
def WF(fu:Nat):Prop:= ∀(ps:ByteArray),Ok (BL fu ps) (fun _=>True)
theorem BD:cH WF:=((cH.ge 2147483648).and dT).imp fun fu ⟨hfu,dT⟩ ps=>by
 have:fC.size=3:=rfl
 have:eX.size=4:=rfl
 have:fX.size=5:=rfl
 have:xJ.size=3:=rfl
 have:D1.size=2:=rfl
 have:ER.size=3:=rfl
 have:w7.size=4:=rfl
 have:ES.size=3:=rfl
 have:jD.size=6:=rfl
 have:w8.size=4:=rfl
 have:pK.size=4:=rfl
 have:l8.size=5:=rfl
 have:wl ([fC,eX,fX,xJ,D1,ER,w7,ES,jD,w8,pK,l8]:LB)=58:=rfl
 exact oB (dT ([fC,eX,fX,xJ,D1,ER,w7,ES,jD,w8,pK,l8]:LB) ps) fun x2 _=>oS
def yR(fu:Nat):Prop:= ∀(ps:ByteArray),Ok (dU fu ps) (fun _=>True)
theorem bM:cH yR:=(((cH.ge 2147483648).and q8).and BD).imp fun fu ⟨⟨hfu,q8⟩,BD⟩ ps=>by
 refine oB (q8 (ps.size:Int) 1 8) fun x2 _=>oW (fun _=>oS) fun g2=>oB (BD ps) fun x5 _=>oC (fun _=>oS) fun g4=>?_;refine EW ?_ ?_
 ·refine Ok.loop1 ?_;rintro i7 ⟨⟩ hl6
  refine oG fun z8=>?_;refine oD (fun g9=>?_) fun g9=>?_
  ·refine oW (fun g10=>?_) fun g10=>?_
   ·exact oD (fun _=>oR) fun g11=>oD (fun _=>oR) fun g12=>oD (fun _=>oR) fun g13=>oO
   exact oO
  exact oD (fun _=>oR) fun g14=>oD (fun _=>oR) fun g15=>oD (fun _=>oR) fun g16=>oO
 rintro⟨⟩-
 exact oS
def TL(fu:Nat):Prop:= ∀(plist:LB),Ok (EF fu plist) (fun _=>True)
theorem p8:cH TL:=((cH.ge 2147483648).and bM).imp fun fu ⟨hfu,bM⟩ plist=>by
 refine EW ?_ ?_
 ·refine Ok.loop1 ?_;rintro i1 ⟨⟩ hl2
  have:=aY plist
  have:=b7 plist i1 hl2
  have:=a9 (aW plist i1)
  exact oB (bM (aW plist i1)) fun x5 _=>oW (fun _=>oR) fun g5=>oO
 rintro⟨⟩-
 exact oS
def E5(fu:Nat):Prop:= ∀(plist:LB),Ok (kI fu plist) (fun _=>True)
theorem eR:cH E5:=((cH.ge 2147483648).and dT).imp fun fu ⟨hfu,dT⟩ plist=>by
 refine EW ?_ ?_
 ·refine Ok.loop1 ?_;rintro i1 ⟨⟩ hl2
  have:=aY plist
  refine oG fun z4=>?_
  have:=TD (0:Int).toNat (i1:Int).toNat plist
  have:=b7 plist i1 hl2
  have:=a9 (aW plist i1)
  exact oB (dT (List.drop (0:Int).toNat (List.take (i1:Int).toNat plist)) (aW plist i1)) fun x6 _=>oC (fun _=>oR) fun g6=>oO
 rintro⟨⟩-
 exact oS
def TN(fu:Nat):Prop:= ∀(ps:ByteArray),Ok (nS fu ps) (fun r=>wt r=ps.size)
theorem fG:cH TN:=(cH.ge 2147483648).imp fun fu hfu ps=>by
 have:=(aV:wl ([]:List aB)=0∧_)
 have:=aB.wt_mk 1 ps []
 exact oS
def TM(fu:Nat):Prop:= ∀(ps:ByteArray) (pargs:List aB),ps.size+wl pargs≤1073741824→Ok (jQ fu ps pargs) (fun r=>wt r=ps.size+wl pargs)
theorem dF:cH TM:=(cH.ge 2147483648).imp fun fu hfu ps pargs hpre=>by
 have:=(aV:wl ([]:List aB)=0∧_)
 have:=aY (pargs)
 refine oG fun z1=>?_
 have:=b6 ([]:List aB) pargs
 have:=aB.wt_mk 2 ps (([])++pargs)
 exact oS
def YW(fu:Nat):Prop:= ∀(pa0:aB),wt pa0≤67108864→Ok (mR fu pa0) (fun r=>wt r+1≤8*(wt pa0+1))
def YQ(n:Nat)(m:yF):Prop:= ∀(pa0:aB),wt pa0<n→wt pa0≤67108864→Ok (m pa0) (fun r=>wt r+1≤8*(wt pa0+1))
theorem aoI{n fu:Nat}(hfu:2147483648≤fu)(bN:GP fu)(e8:XS fu){r_sl5Sx:yF}(h_sl5Sx:YQ n r_sl5Sx):YQ (n+1) (abS fu r_sl5Sx):=by
 intro pa0 hm hpre
 refine EW ?_ ?_
 ·have:=aB.wt_eq pa0
  refine oD (fun g2=>?_) fun g2=>?_
  ·have:amQ.size=1:=rfl
   refine oG fun z3=>?_
   have:=fF amQ pa0.gName
   exact oB (bN (amQ++pa0.gName)) fun x4 h4=>oL
  refine oD (fun g5=>?_) fun g5=>?_
  ·have:xJ.size=3:=rfl
   refine oB (bN xJ) fun x7 h6=>oB (bN pa0.gName) fun x9 h7=>?_
   have:=lE x7 x9
   exact oB (e8 ([x7,x9]:List aA) bQ) fun x11 h8=>oL
  refine oD (fun g9=>?_) fun g9=>?_
  ·have:=aY pa0.gArgs
   refine oD (fun g10=>?_) fun g10=>?_
   ·exact oB (bN pa0.gName) fun x15 h11=>oL
   exact oI
  exact oI
 rintro⟨⟩-
 refine Ok.sok (E:=fun v17=>wl v17≤6) ?_ ?_
 ·have:=aB.wt_eq pa0
  refine oD (fun g13=>?_) fun g13=>?_
  ·have:fX.size=5:=rfl
   refine oB (bN fX) fun x20 h14=>?_
   have:=(aV:wl ([]:List aA)=0∧_)
   have:=cE x20
   refine oG fun z15=>?_
   have:=b6 ([]:List aA) ([x20]:List aA)
   exact oI
  have:=(aV:wl ([]:List aA)=0∧_)
  exact oI
 intro v17 h12
 have:=aB.wt_eq pa0
 refine oB (bN pa0.gName) fun x23 h16=>?_
 have:=aY (v17)
 have:=cE x23
 refine oG fun z17=>?_
 have:=b6 v17 ([x23]:List aA)
 refine MW pa0.gArgs 8 (fun i25 v27 hl19 hI20 _ _=>?_) ?_
 ·have:=aY pa0.gArgs
  have:=b7 pa0.gArgs i25 hl19
  refine oB (h_sl5Sx (aW pa0.gArgs i25) bQ bQ) fun x31 h21=>?_
  have:=aY (v27)
  have:=cE x31
  refine oG fun z22=>?_
  have:=b6 v27 ([x31]:List aA)
  exact oO
 intro v27 h18
 have:s_.size=0:=rfl
 have:=aA.wt_mk s_ v27
 exact oS
theorem apQ(n:Nat):cH fun fu=>YQ n (mR fu):=by
 induction n with
 |zero=>exact .all fun fu=>fun _ h=>absurd h (Nat.not_lt_zero _)
 |succ n ih=>exact cH.succ ((ih.and (((cH.ge 2147483648).and bN).and e8)).imp fun fu ⟨h,⟨⟨hfu,bN⟩,e8⟩⟩=>fun pa0=>by rw [mR];exact aoI hfu bN e8 h pa0)
theorem iU:cH YW:=(apQ 8589934592).imp fun fu h pa0 hpre=>h pa0 bQ hpre
def akO(fu:Nat):Prop:= ∀(pt:aB) (pleft:Int),wt pt≤1073741824→Ok (pA fu pt pleft) (fun _=>True)
def NZ(n:Nat)(m:vG):Prop:= ∀(pt:aB) (pleft:Int),wt pt<n→wt pt≤1073741824→Ok (m pt pleft) (fun _=>True)
theorem aiZ{n fu:Nat}(hfu:2147483648≤fu){r_sl4Left:vG}(h_sl4Left:NZ n r_sl4Left):NZ (n+1) (QK fu r_sl4Left):=by
 intro pt pleft hm hpre
 refine oEN (fun i1 v2 hl2=>?_) ?_
 ·have:=aB.wt_eq pt
  have:=aY pt.gArgs
  refine oD (fun g4=>?_) fun g4=>?_
  ·have:=b7 pt.gArgs i1 hl2
   exact oB (h_sl4Left (aW pt.gArgs i1) v2 bQ bQ) fun x7 _=>oO
  exact oK
 intro v2 _
 exact oS
theorem amE(n:Nat):cH fun fu=>NZ n (pA fu):=by
 induction n with
 |zero=>exact .all fun fu=>fun _ _ h=>absurd h (Nat.not_lt_zero _)
 |succ n ih=>exact cH.succ ((ih.and (cH.ge 2147483648)).imp fun fu ⟨h,hfu⟩=>fun pt pleft=>by rw [pA];exact aiZ hfu h pt pleft)
theorem O2:cH akO:=(amE 8589934592).imp fun fu h pt pleft hpre=>h pt pleft bQ hpre
def YU(fu:Nat):Prop:= ∀(pt:aB),wt pt≤1073741824→Ok (j8 fu pt) (fun _=>True)
def CX(n:Nat)(m:n8):Prop:= ∀(pt:aB),wt pt<n→wt pt≤1073741824→Ok (m pt) (fun _=>True)
theorem XD{n fu:Nat}(hfu:2147483648≤fu)(sA:TK fu){r_sTypeDepth:n8}(h_sTypeDepth:CX n r_sTypeDepth):CX (n+1) (DZ fu r_sTypeDepth):=by
 intro pt hm hpre
 refine oEN (fun i1 v2 hl2=>?_) ?_
 ·have:=aB.wt_eq pt
  have:=aY pt.gArgs
  have:=b7 pt.gArgs i1 hl2
  refine oB (h_sTypeDepth (aW pt.gArgs i1) bQ bQ) fun x6 _=>?_
  have:=eT (1+x6)
  exact oB (sA v2 (aQ (1+x6))) fun x8 _=>oO
 intro v2 _
 exact oS
theorem Z2(n:Nat):cH fun fu=>CX n (j8 fu):=by
 induction n with
 |zero=>exact .all fun fu=>fun _ h=>absurd h (Nat.not_lt_zero _)
 |succ n ih=>exact cH.succ ((ih.and ((cH.ge 2147483648).and sA)).imp fun fu ⟨h,⟨hfu,sA⟩⟩=>fun pt=>by rw [j8];exact XD hfu sA h pt)
theorem DM:cH YU:=(Z2 8589934592).imp fun fu h pt hpre=>h pt bQ hpre
def XU(fu:Nat):Prop:= ∀(ps:ByteArray),Ok (yN fu ps) (fun _=>True)
theorem yJ:cH XU:=(cH.ge 2147483648).imp fun fu hfu ps=>by
 exact oD (fun _=>oS) fun g1=>oS
def akM(fu:Nat):Prop:= ∀(pa0:aB),wt pa0≤1073741824→Ok (o9 fu pa0) (fun _=>True)
def NY(n:Nat)(m:rK):Prop:= ∀(pa0:aB),wt pa0<n→wt pa0≤1073741824→Ok (m pa0) (fun _=>True)
theorem aiV{n fu:Nat}(hfu:2147483648≤fu)(bM:yR fu)(yJ:XU fu){r_sl4Form:rK}(h_sl4Form:NY n r_sl4Form):NY (n+1) (QJ fu r_sl4Form):=by
 intro pa0 hm hpre
 have:=aB.wt_eq pa0
 refine oB (bM pa0.gName) fun x2 _=>?_;refine EW ?_ ?_
 ·refine EW ?_ ?_
  ·exact oD (fun _=>oI) fun g4=>oI
  intro v4 _
  refine oC (fun g5=>?_) fun g5=>?_
  ·exact oC (fun _=>oI) fun g6=>oI
  refine oD (fun g7=>?_) fun g7=>?_
  ·exact oC (fun _=>oI) fun g8=>oI
  refine oD (fun g9=>?_) fun g9=>?_
  ·refine oC (fun g10=>?_) fun g10=>?_
   ·exact oD (fun _=>oI) fun g11=>oB (yJ pa0.gName) fun x14 _=>oC (fun _=>oI) fun g13=>oI
   exact oB (yJ pa0.gName) fun x17 _=>oC (fun _=>oI) fun g15=>oI
  exact oL
 intro v3 _
 refine oEN (fun i19 v20 hl17=>?_) ?_
 ·have:=aY pa0.gArgs
  refine oC (fun g19=>?_) fun g19=>?_
  ·have:=b7 pa0.gArgs i19 hl17
   exact oB (h_sl4Form (aW pa0.gArgs i19) bQ bQ) fun x25 _=>oO
  exact oO
 intro v20 _
 exact oS
theorem amD(n:Nat):cH fun fu=>NY n (o9 fu):=by
 induction n with
 |zero=>exact .all fun fu=>fun _ h=>absurd h (Nat.not_lt_zero _)
 |succ n ih=>exact cH.succ ((ih.and (((cH.ge 2147483648).and bM).and yJ)).imp fun fu ⟨h,⟨⟨hfu,bM⟩,yJ⟩⟩=>fun pa0=>by rw [o9];exact aiV hfu bM yJ h pa0)
theorem O1:cH akM:=(amD 8589934592).imp fun fu h pa0 hpre=>h pa0 bQ hpre
def E8(fu:Nat):Prop:= ∀(pt:aB),wt pt≤1073741824→Ok (kJ fu pt) (fun _=>True)
theorem eS:cH E8:=((((cH.ge 2147483648).and O2).and DM).and O1).imp fun fu ⟨⟨⟨hfu,O2⟩,DM⟩,O1⟩ pt hpre=>by
 refine oB (O2 pt 60 bQ) fun x2 _=>?_;refine oD (fun g2=>?_) fun g2=>?_
 ·refine oB (DM pt bQ) fun x5 _=>?_;refine oD (fun g4=>?_) fun g4=>?_
  ·exact oB (O1 pt bQ) fun x8 _=>oS
  exact oS
 exact oS
def LM(fu:Nat):Prop:= ∀(pa pb:aB),wt pa≤1073741824→Ok (iN fu pa pb) (fun _=>True)
def xL(n:Nat)(m:j7):Prop:= ∀(pa pb:aB),2*wt pa+1<n→wt pa≤1073741824→Ok (m pa pb) (fun _=>True)
def GO(n:Nat)(m:pC):Prop:= ∀(pa pb:List aB),2*wl pa<n→wl pa≤1073741824→Ok (m pa pb) (fun _=>True)
theorem W2{n fu:Nat}(hfu:2147483648≤fu){r_sEqualType:j7}(h_sEqualType:xL n r_sEqualType){r_sl4Same:pC}(h_sl4Same:GO n r_sl4Same):xL (n+1) (DV fu r_sEqualType r_sl4Same):=by
 intro pa pb hm hpre
 have:=aB.wt_eq pa
 have:=aB.wt_eq pb
 refine oD (fun g1=>?_) fun g1=>?_
 ·refine oD (fun g2=>?_) fun g2=>?_
  ·exact oB (h_sl4Same pa.gArgs pb.gArgs bQ bQ) fun x4 _=>oS
  exact oS
 exact oS
theorem ai3{n fu:Nat}(hfu:2147483648≤fu){r_sEqualType:j7}(h_sEqualType:xL n r_sEqualType){r_sl4Same:pC}(h_sl4Same:GO n r_sl4Same):GO (n+1) (QL fu r_sEqualType r_sl4Same):=by
 intro pa pb hm hpre
 have:=aY pa
 have:=aY pb
 refine oN (fun _=>oS) fun g1=>?_;refine EW ?_ ?_
 ·refine Ok.loop1 ?_;rintro i2 ⟨⟩ hl3
  have:=aY (pb)
  refine oG fun z5=>?_
  have:=b7 pa i2 hl3
  have:=b7 pb i2 z5
  exact oB (h_sEqualType (aW pa i2) (aW pb i2) bQ bQ) fun x7 _=>oW (fun _=>oR) fun g7=>oO
 rintro⟨⟩-
 exact oS
theorem ZV(n:Nat):cH fun fu=>xL n (iN fu)∧GO n (rM fu):=by
 induction n with
 |zero=>exact .all fun fu=>⟨fun _ _ h=>absurd h (Nat.not_lt_zero _),fun _ _ h=>absurd h (Nat.not_lt_zero _)⟩
 |succ n ih=>exact cH.succ ((ih.and (cH.ge 2147483648)).imp fun fu ⟨h,hfu⟩=>⟨fun pa pb=>by rw [iN];exact W2 hfu h.1 h.2 pa pb,fun pa pb=>by rw [rM];exact ai3 hfu h.1 h.2 pa pb⟩)
theorem t6:cH LM:=(ZV 8589934592).imp fun fu h pa pb hpre=>h.1 pa pb bQ hpre
def akQ(fu:Nat):Prop:= ∀(pt:aB) (pout:LB),wt pt+wl pout≤268435456→Ok (pD fu pt pout) (fun r=>wl r≤wl pout+wt pt+1)
def N0(n:Nat)(m:tP):Prop:= ∀(pt:aB) (pout:LB),wt pt<n→wt pt+wl pout≤268435456→Ok (m pt pout) (fun r=>wl r≤wl pout+wt pt+1)
theorem ai8{n fu:Nat}(hfu:2147483648≤fu)(dT:TJ fu){r_sl4Vars:tP}(h_sl4Vars:N0 n r_sl4Vars):N0 (n+1) (QM fu r_sl4Vars):=by
 intro pt pout hm hpre
 have:=aB.wt_eq pt
 refine Ok.sok (E:=fun v2=>wl v2+wl pt.gArgs≤wl pout+wt pt+1) ?_ ?_
 ·refine oD (fun g2=>?_) fun g2=>?_
  ·refine oB (dT pout pt.gName) fun x5 _=>?_;refine oW (fun g4=>?_) fun g4=>?_
   ·have:=aY (pout)
    have:=cE pt.gName
    have:=a9 pt.gName
    refine oG fun z5=>?_
    have:=b6 pout ([pt.gName]:LB)
    exact oI
   exact oI
  exact oI
 intro v2 h1
 refine MW pt.gArgs 1 (fun i8 v10 hl7 hI8 _ _=>?_) ?_
 ·have:=aY pt.gArgs
  have:=b7 pt.gArgs i8 hl7
  exact oB (h_sl4Vars (aW pt.gArgs i8) v10 bQ bQ) fun x14 h9=>oO
 intro v10 h6
 exact oS
theorem amH(n:Nat):cH fun fu=>N0 n (pD fu):=by
 induction n with
 |zero=>exact .all fun fu=>fun _ _ h=>absurd h (Nat.not_lt_zero _)
 |succ n ih=>exact cH.succ ((ih.and ((cH.ge 2147483648).and dT)).imp fun fu ⟨h,⟨hfu,dT⟩⟩=>fun pt pout=>by rw [pD];exact ai8 hfu dT h pt pout)
theorem O3:cH akQ:=(amH 8589934592).imp fun fu h pt pout hpre=>h pt pout bQ hpre
def N3(fu:Nat):Prop:= ∀(pt:aB),wt pt≤268435456→Ok (u4 fu pt) (fun r=>wl r≤wt pt+1)
theorem uX:cH N3:=((cH.ge 2147483648).and O3).imp fun fu ⟨hfu,O3⟩ pt hpre=>by
 have:=(aV:wl ([]:LB)=0∧_)
 exact oB (O3 pt ([]:LB) bQ) fun x2 h1=>oS
def N2(fu:Nat):Prop:= ∀(pt:aB),wt pt≤1073741824→Ok (fH fu pt) (fun _=>True)
def uQ(n:Nat)(m:jW):Prop:= ∀(pt:aB),wt pt<n→wt pt≤1073741824→Ok (m pt) (fun _=>True)
theorem M6{n fu:Nat}(hfu:2147483648≤fu){r_sHasProjection:jW}(h_sHasProjection:uQ n r_sHasProjection):uQ (n+1) (u3 fu r_sHasProjection):=by
 intro pt hm hpre
 refine EW ?_ ?_
 ·refine Ok.loop1 ?_;rintro i1 ⟨⟩ hl2
  have:=aB.wt_eq pt
  have:=aY pt.gArgs
  have:=b7 pt.gArgs i1 hl2
  exact oB (h_sHasProjection (aW pt.gArgs i1) bQ bQ) fun x5 _=>oC (fun _=>oR) fun g5=>oO
 rintro⟨⟩-
 exact oS
theorem PF(n:Nat):cH fun fu=>uQ n (fH fu):=by
 induction n with
 |zero=>exact .all fun fu=>fun _ h=>absurd h (Nat.not_lt_zero _)
 |succ n ih=>exact cH.succ ((ih.and (cH.ge 2147483648)).imp fun fu ⟨h,hfu⟩=>fun pt=>by rw [fH];exact M6 hfu h pt)
theorem lQ:cH N2:=(PF 8589934592).imp fun fu h pt hpre=>h pt bQ hpre
def E6(fu:Nat):Prop:= ∀(pt:aB) (pv:ByteArray),wt pt+pv.size≤1073741824→Ok (cT fu pt pv) (fun _=>True)
def pQ(n:Nat)(m:fJ):Prop:= ∀(pt:aB) (pv:ByteArray),wt pt<n→wt pt+pv.size≤1073741824→Ok (m pt pv) (fun _=>True)
theorem EY{n fu:Nat}(hfu:2147483648≤fu){r_sCountTypeVariable:fJ}(h_sCountTypeVariable:pQ n r_sCountTypeVariable):pQ (n+1) (mL fu r_sCountTypeVariable):=by
 intro pt pv hm hpre
 refine EW ?_ ?_
 ·refine oD (fun g2=>?_) fun g2=>?_
  ·exact oD (fun _=>oI) fun g3=>oI
  exact oI
 intro v1 _
 refine oEN (fun i4 v5 hl5=>?_) ?_
 ·have:=aB.wt_eq pt
  have:=aY pt.gArgs
  have:=b7 pt.gArgs i4 hl5
  exact oB (h_sCountTypeVariable (aW pt.gArgs i4) pv bQ bQ) fun x9 _=>oO
 intro v5 _
 exact oS
theorem FZ(n:Nat):cH fun fu=>pQ n (cT fu):=by
 induction n with
 |zero=>exact .all fun fu=>fun _ _ h=>absurd h (Nat.not_lt_zero _)
 |succ n ih=>exact cH.succ ((ih.and (cH.ge 2147483648)).imp fun fu ⟨h,hfu⟩=>fun pt pv=>by rw [cT];exact EY hfu h pt pv)
theorem p6:cH E6:=(FZ 8589934592).imp fun fu h pt pv hpre=>h pt pv bQ hpre
def ab2(fu:Nat):Prop:= ∀(pv:ByteArray) (pt:aB),pv.size+wt pt≤1073741824→Ok (qB fu pv pt) (fun _=>True)
theorem FM:cH ab2:=((cH.ge 2147483648).and p6).imp fun fu ⟨hfu,p6⟩ pv pt hpre=>by
 exact oB (p6 pt pv bQ) fun x2 _=>oS
end Go.Proofs.YtpioomclpaiomaaGreat.W
