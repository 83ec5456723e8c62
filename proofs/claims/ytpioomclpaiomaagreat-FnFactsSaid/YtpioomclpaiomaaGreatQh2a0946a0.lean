/- Words, rules and walks of several kinds, laid together: MaGnd, WGround, MaSup, MaAsm, MaLFacts, WSup, WAsm, OkF2, WLFacts. No conditions but those that each theorem states. -/
import Derived.Test.YtpioomclpaiomaaGreatQhd03cb7c6
import Derived.Test.YtpioomclpaiomaaGreatQhfd96fd82
import Derived.Test.YtpioomclpaiomaaGreatQh7e1aa739
import Derived.Test.YtpioomclpaiomaaGreatQhc919d32c
import Derived.Test.YtpioomclpaiomaaGreatQh4b292d1e
import Derived.Test.YtpioomclpaiomaaGreatQheca68af1
set_option linter.unusedSimpArgs false
set_option linter.unusedVariables false
namespace Go.Proofs.YtpioomclpaiomaaGreat.W
set_option maxRecDepth 100000
set_option maxHeartbeats 40000000
noncomputable section
open Go.RowKit Go.Proofs
set_option linter.unusedSimpArgs false
set_option linter.unusedVariables false
attribute [local irreducible] lt
def ON(m:(List ByteArray)→ByteArray→Option Int):Prop:= ∀(ps:List ByteArray) (pv:ByteArray) (r:Int),m ps pv=some r→b4 Tryz.prog 196 [rS ps,pS pv] (pI r:PV)
def zT(fu:Nat)(ps:List ByteArray)(pv:ByteArray):Nat→Unit→Option (LR Unit Int):=
 fun i1 _=>sw (decide (pv=aW ps i1))
 (some (.ret (i1:Int)))
 (some (.next ()))
def zU(fu:Nat)(ps:List ByteArray)(pv:ByteArray):Option (Int⊕Unit):=
 loopN (zT fu ps pv) (ps.length-0) 0 ()
def qV(fu:Nat)(ps:List ByteArray)(pv:ByteArray):Option Int:=
 so (zU fu ps pv) (fun _=>
 some (-1))
theorem L2(fu:Nat):ON (qV fu):=by
 intro ps pv r H
 have H:=eF H
 refine qI Tryz.func196 (fun C hC=>?_)
 refine qS (qR (q1 aE (qN ?_)))
 iterate 2 refine qS ?_
 refine qR (q1 aE (q1 (eB bU (a9 _)) (q1 aE (qN ?_))))
 refine j8 0 (a9 _) (fun hl2=>?_)
 refine b9 (σ:=Unit) (fun i1 _=>⟨[(0,rS ps),(1,pS pv),(4,pI 0),(7,pN ps.length),(8,pN i1)],⟨[],[]⟩⟩) (fun _=>⟨[(4,pI 0)],⟨[],[]⟩⟩) (f8 H) ?_ ?_
 ·rintro i1 ⟨⟩ H
  refine qS (qR (q1 gP (qN (qS ?_))))
  refine dT H (fun h3 h3l H=>?_) (fun h3 H=>?_)
  ·have h3n:=a8 h3
   refine aQ.skip (qS (aQ.block (qS (qR ?_))))
   iterate 2 refine q1 aE ?_
   refine qN (qS (qR ?_))
   iterate 3 refine q1 aE ?_
   refine q1 (gV h3n bU) (q1 (mC eE) (q1 E6 (qN ?_)))
   refine bA H (fun h4 H=>?_) (fun h4 H=>?_)
   ·refine qS (qR ?_)
    iterate 2 refine q1 aE ?_
    refine qN (aQ.ret ?_)
    obtain rfl:_=r:=(p8 (aZ H):)
    exact bL
   refine aQ.skip (qR (q1 (aX.addI rfl rfl rfl rfl (c:=((i1+1:Nat):Int)) (by omega) (by omega)) (q1 aE (qN ?_))))
   exact iK h3l ⟨_,(aZ H:),b0⟩
  refine aQ.exit ?_;exact j0 ⟨_,H,b0⟩
 rintro⟨⟩ H
 refine qS (qR (q1 aE (qN (aQ.ret ?_))))
 cases aZ H
 exact bL
def HS(m:(List ByteArray)→ByteArray→Option Bool):Prop:= ∀(ps:List ByteArray) (pv:ByteArray) (r:Bool),m ps pv=some r→b4 Tryz.prog 171 [rS ps,pS pv] (pB r:PV)
def mS(fu:Nat)(ps:List ByteArray)(pv:ByteArray):Option Bool:=
 bd (qV fu ps pv) (fun x2=>
 some (decide (x2≥0)))
theorem FP(fu:Nat):HS (mS fu):=by
 intro ps pv r H
 have H:=eF H
 refine qI Tryz.func171 (fun C hC=>?_)
 refine qS (qR (q1 aE (qN (qS (qR ?_)))))
 iterate 2 refine q1 aE ?_
 refine bN H fun x2 z1 H=>(q1 (bG Tryz.func196 (L2 fu ps pv _ z1)) (q1 TX (q1 aE (qN (aQ.ret ?_)))))
 cases aZ H
 exact bL
end
end Go.Proofs.YtpioomclpaiomaaGreat.W

namespace Go.Proofs.YtpioomclpaiomaaGreat.W
set_option linter.unusedSimpArgs false
set_option linter.unusedVariables false
attribute [local irreducible] lt
open Go.RowKit Go.WalkArith
theorem aaA{α:Type}{p:α→Bool}: ∀l:List α,(l.find? p).isSome=l.any p
 | []=>rfl
 |a::l=>by
  rw [List.find?_cons,List.any_cons]
  cases p a with
  |true=>rfl
  |false=>exact aaA l
theorem amP{α:Type}{p:α→Bool}{l:List α}{m:Option (Bool⊕Unit)}{f:Unit→Option Bool}(hm:m=some (match l.find? p with|some _=> .inl true|none=> .inr ())){b:Bool}(hf:f ()=some b):so m f=some (l.any p||b):=by
 have h:=aaA (p:=p) l
 cases hq:l.find? p with
 |none=>
  rw [hq] at hm h
  rw [← h]
  exact soR hm hf
 |some x=>
  rw [hq] at hm h
  rw [← h]
  exact soL hm
def AF(l:List ByteArray)(s:ByteArray):Bool:=l.any fun x=>decide (x=s)
theorem ajC(fu:Nat)(l:List ByteArray)(s:ByteArray):jZ fu l s=some (AF l s):=by
 unfold jZ
 rw [amP (l:=l) (p:=fun x=>decide (x=s)) (b:=false) ?_ rfl,Bool.or_false]
 ·rfl
 ·unfold VU
  exact yJ (p:=fun x=>decide (x=s)) (r:=fun _=>true) (fun i hi=>by unfold VT;cases decide (aW l i=s)<;>rfl)
theorem WX(fu:Nat)(l:List ByteArray)(s:ByteArray):mS fu l s=some (AF l s):=by
 have h1:qV fu l s=some (match l.findIdx? (fun x=>decide (s=x)) with|some i=>((i:Nat):Int)|none=> -1):=by
  unfold qV zU
  rw [N3 (l:=l) (p:=fun x=>decide (s=x)) fun i hi=>by
   unfold zT
   cases decide (s=aW l i)<;>rfl]
  cases l.findIdx? fun x=>decide (s=x)<;>rfl
 have h2:(fun x=>decide (s=x))=fun x=>decide (x=s):=funext fun x=>decide_eq_decide.2 ⟨Eq.symm,Eq.symm⟩
 unfold mS
 refine zR h1 (congrArg some ?_)
 refine aiJ.trans ?_
 rw [h2]
 rfl
end Go.Proofs.YtpioomclpaiomaaGreat.W

namespace Go.Proofs.YtpioomclpaiomaaGreat.W
set_option maxRecDepth 100000
set_option maxHeartbeats 40000000
noncomputable section
open Go.RowKit Go.Proofs
set_option linter.unusedSimpArgs false
set_option linter.unusedVariables false
attribute [local irreducible] lt
abbrev s7:=aI→ByteArray→(List ByteArray)→Option ((List ByteArray))
def wO(m:s7):Prop:= ∀(pw:aI) (pname:ByteArray) (pout:List ByteArray) (r:(List ByteArray)),m pw pname pout=some r→cP Tryz.prog 65 [(aI.pv pw),pS pname,aS pout 0] ⟨[],[⟨9,1,a4 (pout),false⟩]⟩ (fun q t=>q=(aS r 0:PV)∧t=⟨[],[⟨9,1,a4 (r),false⟩]⟩)
def zM(fu:Nat)(r_sl19Supers:s7)(pw:aI)(pname:ByteArray)(pout:List ByteArray)(x2:aT)(x3:Int)(x4:Bool):Nat→((List ByteArray))→Option (LR ((List ByteArray)) ((List ByteArray))):=
 fun i5 v7=>bd (jZ fu v7 (aW x2.gSupertraits i5)) (fun x11=>
 sw (!(x11))
 (gd ((v7).length+(([(aW x2.gSupertraits i5)]:List ByteArray)).length≤68719476736)
 (bd (r_sl19Supers pw (aW x2.gSupertraits i5) (v7++([(aW x2.gSupertraits i5)]:List ByteArray))) (fun x15=>
 some (.next x15))))
 (some (.next v7)))
def G3(fu:Nat)(r_sl19Supers:s7)(pw:aI)(pname:ByteArray)(pout:List ByteArray)(x2:aT)(x3:Int)(x4:Bool):Option (((List ByteArray))⊕((List ByteArray))):=
 loopN (zM fu r_sl19Supers pw pname pout x2 x3 x4) (x2.gSupertraits.length-0) 0 pout
def B3(fu:Nat)(r_sl19Supers:s7)(pw:aI)(pname:ByteArray)(pout:List ByteArray):Option ((List ByteArray)):=
 bd (qT fu pw pname) (fun(x2,x3,x4)=>
 so (G3 fu r_sl19Supers pw pname pout x2 x3 x4) (fun v7=>
 some v7))
theorem PK(fu:Nat)(r_sl19Supers:s7)(h_sl19Supers:wO r_sl19Supers):wO (B3 fu r_sl19Supers):=by
 intro pw pname pout r H
 have H:=eF H
 refine qI Tryz.func65 (fun C hC=>?_)
 refine qS (qR (q1 (jP ([bC pw.gPackages])) (q1 aE (qN (qS (qR (q1 (cU [bC pw.gPackages] nB) (q1 aE (QP H fun x2 x3 x4 z1 H=>(q1 (bG Tryz.func79 (EF fu pw pname _ z1)) (q1 aE ?_)))))))))))
 iterate 3 refine q1 uB ?_
 refine q1 (gM vR) (q1 (bR t8) ?_)
 iterate 2 refine q1 aE ?_
 refine qN ?_
 iterate 2 refine qS ?_
 refine qR (q1 aE (qN ?_))
 refine aQ.fact (cE 1 1 rfl rfl rfl (a9 _)) (fun hl8=>?_)
 try dsimp only at hl8
 refine b9 (σ:=(List ByteArray)) (fun i5 v7=>⟨[(2,aS v7 0),(3,.ptr 0 0),(6,.nil),(7,.ptr 1 0),(10,pN i5)],⟨[some ⟨26,[bC pw.gPackages]⟩,some ⟨60,qC x2⟩],[⟨9,1,a4 (v7),false⟩]⟩⟩) (fun v7=>⟨[(2,aS v7 0),(6,.nil)],⟨[some ⟨26,[bC pw.gPackages]⟩,some ⟨60,qC x2⟩],[⟨9,1,a4 (v7),false⟩]⟩⟩) (f8 H) ?_ ?_
 ·rintro i5 v7 H
  iterate 2 refine qS ?_
  refine qR (q1 aE (q1 (a6 oU) (q1 (bD jC) (q1 (eB bU (a9 _)) (q1 gP (qN ?_))))))
  refine dT H (fun h9 h9l H=>?_) (fun h9 H=>?_)
  ·have h9n:=a8 h9
   refine aQ.skip (qS (aQ.block (qS (qR (q1 aE (q1 (a6 oU) (q1 (bD jC) (q1 aE (q1 (gV h9n bU) (q1 (mC eE) (bN H fun x11 z10 H=>(q1 (bG Tryz.func125 (lA fu v7 (aW x2.gSupertraits i5) _ z10)) (q1 gW ?_)))))))))))))
   refine qN ?_;refine bA H (fun h12 H=>?_) (fun h12 H=>?_)
   ·refine cX H fun z13 H=>(bN H fun x15 z14 H=>(dW (dB [3] 0 1 (TG [bC pw.gPackages] nB) (dI [7] (a6 oU) (dB [34] 0 1 (uI jC) (dI [10] aE (dI [35,36] (gV h9n bU) (dI [37] (mC eE) (dI [2] aE (dI [7] (a6 oU) (dD [40] (bD jC) (dI [10] aE (dI [41,42] (gV h9n bU) ?_)))))))))))))
    refine dI [43] (mC eE) (dI [44] (hH ([(aW x2.gSupertraits i5)]:List ByteArray) bU kG) (dE [39,45] (kX z13 bU qH) (dE [33,38,46] (fM [] [0] Tryz.func65 (h_sl19Supers pw (aW x2.gSupertraits i5) (v7++([(aW x2.gSupertraits i5)]:List ByteArray)) _ z14)) (dI [47] aE (dN (qR (q1 aE (q1 (aX.addI rfl rfl rfl rfl (c:=((i5+1:Nat):Int)) (by omega) (by omega)) (q1 aE (qN ?_))))))))))
    exact iK h9l ⟨_,(aZ H:),b0⟩
   refine aQ.skip (qR (q1 aE (q1 (aX.addI rfl rfl rfl rfl (c:=((i5+1:Nat):Int)) (by omega) (by omega)) (q1 aE (qN ?_)))))
   exact iK h9l ⟨_,(aZ H:),b0⟩
  refine aQ.exit ?_;exact j0 ⟨_,H,b0⟩
 rintro v7 H
 refine qS (qR ?_)
 iterate 2 refine q1 aE ?_
 refine qN (aQ.ret ?_)
 cases aZ H
 exact bL
def jD:Nat→aI→ByteArray→(List ByteArray)→Option ((List ByteArray))
 |0,_,_,_=>none
 |fu+1,pw,pname,pout=>B3 fu (jD fu) pw pname pout
theorem SP(fu:Nat):wO (jD fu):=by
 induction fu with
 |zero=>exact(fun pw pname pout r H=>by simp only [jD] at H;cases H)
 |succ fu ih=>exact(fun pw pname pout r H=>by simp only [jD] at H;exact PK fu (jD fu) ih pw pname pout r H)
theorem UZ(fu:Nat):wO (jD fu):=(SP fu)
def KO(m:aI→ByteArray→Option ((List ByteArray))):Prop:= ∀(pw:aI) (pname:ByteArray) (r:(List ByteArray)),m pw pname=some r→b4 Tryz.prog 15 [(aI.pv pw),pS pname] (rS r:PV)
def lI(fu:Nat)(pw:aI)(pname:ByteArray):Option ((List ByteArray)):=
 bd (jD fu pw pname ([])) (fun x2=>
 some x2)
theorem xK(fu:Nat):KO (lI fu):=by
 intro pw pname r H
 have H:=eF H
 refine qI Tryz.func15 (fun C hC=>?_)
 refine qS (qR (q1 (jP ([bC pw.gPackages])) (q1 aE (qN (qS (qR (q1 (cU [bC pw.gPackages] nB) (q1 aE (q1 (qZ ([]:List ByteArray) bU kG) (bN H fun x2 z1 H=>(q1 (fM [] [0] Tryz.func65 (UZ fu pw pname ([]) _ z1)) (q1 aE (qN ?_)))))))))))))
 refine aQ.ret ?_
 cases aZ H
 exact bL
abbrev o7:=aI→(List ByteArray)→ByteArray→Option ((List ByteArray))
def sP(m:o7):Prop:= ∀(pw:aI) (pout:List ByteArray) (pname:ByteArray) (r:(List ByteArray)),m pw pout pname=some r→cP Tryz.prog 120 [(aI.pv pw),aS pout 0,pS pname] ⟨[],[⟨9,1,a4 (pout),false⟩]⟩ (fun q t=>q=(aS r 0:PV)∧t=⟨[],[⟨9,1,a4 (r),false⟩]⟩)
def u9(fu:Nat)(r_isupertraits:o7)(pw:aI)(pout:List ByteArray)(pname:ByteArray)(x2:aT)(x3:Int)(x4:Bool):Nat→((List ByteArray))→Option (LR ((List ByteArray)) ((List ByteArray))):=
 fun i5 v7=>bd (mS fu v7 (aW x2.gSupertraits i5)) (fun x11=>
 sw (!(x11))
 (gd ((v7).length+(([(aW x2.gSupertraits i5)]:List ByteArray)).length≤68719476736)
 (bd (r_isupertraits pw (v7++([(aW x2.gSupertraits i5)]:List ByteArray)) (aW x2.gSupertraits i5)) (fun x15=>
 some (.next x15))))
 (some (.next v7)))
def CF(fu:Nat)(r_isupertraits:o7)(pw:aI)(pout:List ByteArray)(pname:ByteArray)(x2:aT)(x3:Int)(x4:Bool):Option (((List ByteArray))⊕((List ByteArray))):=
 loopN (u9 fu r_isupertraits pw pout pname x2 x3 x4) (x2.gSupertraits.length-0) 0 pout
def xD(fu:Nat)(r_isupertraits:o7)(pw:aI)(pout:List ByteArray)(pname:ByteArray):Option ((List ByteArray)):=
 bd (AI fu pw pname) (fun(x2,x3,x4)=>
 so (CF fu r_isupertraits pw pout pname x2 x3 x4) (fun v7=>
 some v7))
theorem KJ(fu:Nat)(r_isupertraits:o7)(h_isupertraits:sP r_isupertraits):sP (xD fu r_isupertraits):=by
 intro pw pout pname r H
 have H:=eF H
 refine qI Tryz.func120 (fun C hC=>?_)
 refine qS (qR (q1 (jP ([bC pw.gPackages])) (q1 aE (qN (qS (qR (q1 (cU [bC pw.gPackages] nB) (q1 aE (QP H fun x2 x3 x4 z1 H=>(q1 (bG Tryz.func82 (VI fu pw pname _ z1)) (q1 aE ?_)))))))))))
 iterate 3 refine q1 uB ?_
 refine q1 (gM vR) (q1 (bR t8) ?_)
 iterate 2 refine q1 aE ?_
 refine qN ?_
 iterate 2 refine qS ?_
 refine qR (q1 (a6 oU) (q1 (bD jC) (q1 (eB bU (a9 _)) (q1 aE (qN ?_)))))
 refine j8 20 (a9 _) (fun hl8=>?_)
 try dsimp only at hl8
 refine b9 (σ:=(List ByteArray)) (fun i5 v7=>⟨[(1,aS v7 0),(3,.ptr 0 0),(6,.nil),(20,rS x2.gSupertraits),(21,pN x2.gSupertraits.length),(22,pN i5)],⟨[some ⟨26,[bC pw.gPackages]⟩,some ⟨60,qC x2⟩],[⟨9,1,a4 (v7),false⟩]⟩⟩) (fun v7=>⟨[(1,aS v7 0),(6,.nil)],⟨[some ⟨26,[bC pw.gPackages]⟩,some ⟨60,qC x2⟩],[⟨9,1,a4 (v7),false⟩]⟩⟩) (f8 H) ?_ ?_
 ·rintro i5 v7 H
  refine qS (qR (q1 gP (qN (qS ?_))))
  refine dT H (fun h9 h9l H=>?_) (fun h9 H=>?_)
  ·have h9n:=a8 h9
   refine aQ.skip (qS (aQ.block (qS (qR (q1 (gV h9n bU) (q1 (mC eE) (q1 aE (qN (qS (qR ?_))))))))))
   iterate 2 refine q1 aE ?_
   refine bN H fun x11 z10 H=>(q1 (bG Tryz.func171 (FP fu v7 (aW x2.gSupertraits i5) _ z10)) (q1 gW (qN ?_)))
   refine bA H (fun h12 H=>?_) (fun h12 H=>?_)
   ·refine cX H fun z13 H=>(bN H fun x15 z14 H=>(dW (dB [3] 0 1 (TG [bC pw.gPackages] nB) (dI [1] aE (dI [11] aE (dI [32] (hH ([(aW x2.gSupertraits i5)]:List ByteArray) bU kG) (dE [31,33] (kX z13 bU qH) (dI [11] aE (dE [30,34,35] (fM [] [0] Tryz.func120 (h_isupertraits pw (v7++([(aW x2.gSupertraits i5)]:List ByteArray)) (aW x2.gSupertraits i5) _ z14)) (dI [36] aE (dN (qR (q1 (aX.addI rfl rfl rfl rfl (c:=((i5+1:Nat):Int)) (by omega) (by omega)) ?_)))))))))))))
    refine q1 aE (qN ?_)
    exact iK h9l ⟨_,(aZ H:),b0⟩
   refine aQ.skip (qR (q1 (aX.addI rfl rfl rfl rfl (c:=((i5+1:Nat):Int)) (by omega) (by omega)) (q1 aE (qN ?_))))
   exact iK h9l ⟨_,(aZ H:),b0⟩
  refine aQ.exit ?_;exact j0 ⟨_,H,b0⟩
 rintro v7 H
 refine qS (qR ?_)
 iterate 2 refine q1 aE ?_
 refine qN (aQ.ret ?_)
 cases aZ H
 exact bL
def gO:Nat→aI→(List ByteArray)→ByteArray→Option ((List ByteArray))
 |0,_,_,_=>none
 |fu+1,pw,pout,pname=>xD fu (gO fu) pw pout pname
theorem L7(fu:Nat):sP (gO fu):=by
 induction fu with
 |zero=>exact(fun pw pout pname r H=>by simp only [gO] at H;cases H)
 |succ fu ih=>exact(fun pw pout pname r H=>by simp only [gO] at H;exact KJ fu (gO fu) ih pw pout pname r H)
theorem OU(fu:Nat):sP (gO fu):=(L7 fu)
def KC(m:aI→ByteArray→Option ((List ByteArray))):Prop:= ∀(pw:aI) (pname:ByteArray) (r:(List ByteArray)),m pw pname=some r→b4 Tryz.prog 58 [(aI.pv pw),pS pname] (rS r:PV)
def oF(fu:Nat)(pw:aI)(pname:ByteArray):Option ((List ByteArray)):=
 bd (gO fu pw ([]) pname) (fun x2=>
 some x2)
theorem HT(fu:Nat):KC (oF fu):=by
 intro pw pname r H
 have H:=eF H
 refine qI Tryz.func58 (fun C hC=>?_)
 refine qS (qR (q1 (jP ([bC pw.gPackages])) (q1 aE (qN (qS (qR (q1 (cU [bC pw.gPackages] nB) (q1 aE (bN H fun x2 z1 H=>(q1 (aX.callF (res:=rS x2) (ps:= [_,_,_]) (qs:= [(aI.pv pw),.nil,pS pname]) rfl rfl Tryz.func120 (by kernel_rfl) rfl rfl kP rfl rfl (cP.regNil (l1:= [(aI.pv pw)]) (l2:= [pS pname]) (E:=9) (sz:=1) (q:=rS x2) (by decide) (OU fu pw ([]) pname _ z1) kP rfl)) (q1 aE (qN (aQ.ret ?_)))))))))))))
 cases aZ H
 exact bL
abbrev uY:=aI→ByteArray→ByteArray→Int→Option ((List Int)×Bool)
def yW(m:uY):Prop:= ∀(pw:aI) (pfrom:ByteArray) (pto:ByteArray) (pleft:Int) (r:(List Int)×Bool),m pw pfrom pto pleft=some r→b4 Tryz.prog 123 [(aI.pv pw),pS pfrom,pS pto,pI pleft] (.tup [rI r.1,pB r.2]:PV)
def wN(fu:Nat)(r_sl19Steps:uY)(pw:aI)(pfrom pto:ByteArray)(pleft:Int)(x3:aT)(x4:Int)(x5:Bool):Nat→Unit→Option (LR Unit ((List Int)×Bool)):=
 fun i6 _=>sw (decide (pleft>0))
 (bd (r_sl19Steps pw (aW x3.gSupertraits i6) pto (aR (pleft-1))) (fun(x11,x12)=>
 sw (x12)
 (gd ((([(i6:Int)]:List Int)).length+(x11).length≤68719476736)
 (some (.ret ((([(i6:Int)]:List Int)++x11),true))))
 (some (.next ()))))
 (some (.brk ()))
def s6(fu:Nat)(r_sl19Steps:uY)(pw:aI)(pfrom pto:ByteArray)(pleft:Int)(x3:aT)(x4:Int)(x5:Bool):Option (((List Int)×Bool)⊕Unit):=
 loopN (wN fu r_sl19Steps pw pfrom pto pleft x3 x4 x5) (x3.gSupertraits.length-0) 0 ()
def yV(fu:Nat)(r_sl19Steps:uY)(pw:aI)(pfrom pto:ByteArray)(pleft:Int):Option ((List Int)×Bool):=
 sw (decide (pfrom=pto))
 (some (([]),true))
 (bd (qT fu pw pfrom) (fun(x3,x4,x5)=>
 so (s6 fu r_sl19Steps pw pfrom pto pleft x3 x4 x5) (fun _=>
 some (([]),false))))
theorem SO(fu:Nat)(r_sl19Steps:uY)(h_sl19Steps:yW r_sl19Steps):yW (yV fu r_sl19Steps):=by
 intro pw pfrom pto pleft r H
 have H:=eF H
 refine qI Tryz.func123 (fun C hC=>?_)
 refine qS (qR (q1 (jP ([bC pw.gPackages])) ?_))
 iterate 2 refine q1 aE ?_
 refine qN ?_
 iterate 2 refine qS ?_
 refine qR ?_
 iterate 2 refine q1 aE ?_
 refine q1 E6 (qN ?_)
 refine bA H (fun h1 H=>?_) (fun h1 H=>?_)
 ·refine qS (qR (q1 (qZ ([]:List Int) ad8 zr3) ?_))
  iterate 2 refine q1 aE ?_
  refine qN (aQ.ret ?_)
  cases aZ H
  exact jM
 refine aQ.skip (qS (qR (q1 (cU [bC pw.gPackages] nB) (q1 aE (QP H fun x3 x4 x5 z2 H=>(q1 (bG Tryz.func79 (EF fu pw pfrom _ z2)) (q1 aE ?_)))))))
 iterate 3 refine q1 uB ?_
 refine q1 (gM vR) (q1 (bR t8) ?_)
 iterate 2 refine q1 aE ?_
 refine qN ?_
 iterate 2 refine qS ?_
 refine qR (q1 aE (qN ?_))
 refine aQ.fact (cE 1 1 rfl rfl rfl (a9 _)) (fun hl7=>?_)
 try dsimp only at hl7
 refine b9 (σ:=Unit) (fun i6 _=>⟨[(2,pS pto),(3,pI pleft),(4,.ptr 0 0),(8,.nil),(9,pB false),(10,.ptr 1 0),(13,pN i6)],⟨[some ⟨26,[bC pw.gPackages]⟩,some ⟨60,qC x3⟩],[]⟩⟩) (fun _=>⟨[(8,.nil),(9,pB false)],⟨[some ⟨26,[bC pw.gPackages]⟩,some ⟨60,qC x3⟩],[]⟩⟩) (f8 H) ?_ ?_
 ·rintro i6 ⟨⟩ H
  iterate 2 refine qS ?_
  refine qR (q1 aE (q1 (a6 oU) (q1 (bD jC) (q1 (eB bU (a9 _)) (q1 gP (q1 aE ?_))))))
  refine AL.splitB 32 rfl (fun g8=>?_) (fun g8=>?_)
  ·have g8l:=tO g8
   have H:=lnT g8l H
   have g8n:=a8 g8
   refine qg g8 aE (qg g8 KN (q1 (bS g8) (qN ?_)))
   refine bA H (fun h9 H=>?_) (fun h9 H=>?_)
   ·refine aQ.skip (qS (aQ.block (qS (eT H fun x11 x12 z10 H=>(dW (dD [4] (cU [bC pw.gPackages] nB) (dI [10] (a6 oU) (dD [40] (bD jC) (dI [13] aE (dI [41,42] (gV g8n bU) (dI [43] (mC eE) (dI [2] aE (dI [3] aE ?_)))))))))))))
    refine dI [46] AY (dI [39,44,45,47] (bG Tryz.func123 (h_sl19Steps pw (aW x3.gSupertraits i6) pto (aR (pleft-1)) _ z10)) (dI [48] aE ?_))
    iterate 2 refine dI [38] uB ?_
    refine dI [49] aE (dI [50] aE (dN (qS (qR (q1 aE (qN ?_))))))
    refine bA H (fun h13 H=>?_) (fun h13 H=>?_)
    ·refine qS (qR (q1 aE (q1 (qZ ([(i6:Int)]:List Int) ad8 zr3) (q1 aE (cX H fun z14 H=>(q1 (kX z14 ad8 apD) ?_))))))
     iterate 2 refine q1 aE ?_
     refine qN (aQ.ret ?_)
     obtain rfl:_=r:=(p8 (aZ H):)
     exact jM
    refine aQ.skip (qR (q1 aE (q1 (aX.addI rfl rfl rfl rfl (c:=((i6+1:Nat):Int)) (by omega) (by omega)) (q1 aE (qN ?_)))))
    exact iK g8l ⟨_,(aZ H:),b0⟩
   refine aQ.exit ?_;exact lpB ⟨_,(aZ H:),b0⟩
  have H:=lnE (tN g8) H
  iterate 2 refine qk g8 ?_
  refine q1 (b6 g8) (qN (kJ rfl (aQ.exit ?_)))
  exact j0 ⟨_,H,b0⟩
 rintro⟨⟩ H
 refine qS (qR (q1 (qZ ([]:List Int) ad8 zr3) ?_))
 iterate 2 refine q1 aE ?_
 refine qN (aQ.ret ?_)
 cases aZ H
 exact jM
def gZ:Nat→aI→ByteArray→ByteArray→Int→Option ((List Int)×Bool)
 |0,_,_,_,_=>none
 |fu+1,pw,pfrom,pto,pleft=>yV fu (gZ fu) pw pfrom pto pleft
theorem UY(fu:Nat):yW (gZ fu):=by
 induction fu with
 |zero=>exact(fun pw pfrom pto pleft r H=>by simp only [gZ] at H;cases H)
 |succ fu ih=>exact(fun pw pfrom pto pleft r H=>by simp only [gZ] at H;exact SO fu (gZ fu) ih pw pfrom pto pleft r H)
theorem Y0(fu:Nat):yW (gZ fu):=(UY fu)
def KY(m:aI→ByteArray→ByteArray→Option ((List Int)×Bool)):Prop:= ∀(pw:aI) (pfrom:ByteArray) (pto:ByteArray) (r:(List Int)×Bool),m pw pfrom pto=some r→b4 Tryz.prog 61 [(aI.pv pw),pS pfrom,pS pto] (.tup [rI r.1,pB r.2]:PV)
def oM(fu:Nat)(pw:aI)(pfrom pto:ByteArray):Option ((List Int)×Bool):=
 bd (gZ fu pw pfrom pto 8) (fun(x2,x3)=>
 some (x2,x3))
theorem IZ(fu:Nat):KY (oM fu):=by
 intro pw pfrom pto r H
 have H:=eF H
 refine qI Tryz.func61 (fun C hC=>?_)
 refine qS (qR (q1 (jP ([bC pw.gPackages])) ?_))
 iterate 2 refine q1 aE ?_
 refine qN (qS (qR (q1 (cU [bC pw.gPackages] nB) ?_)))
 iterate 2 refine q1 aE ?_
 refine eT H fun x2 x3 z1 H=>(q1 (bG Tryz.func123 (Y0 fu pw pfrom pto 8 _ z1)) ?_)
 iterate 2 refine q1 uB ?_
 iterate 2 refine q1 aE ?_
 refine qN (aQ.ret ?_)
 cases aZ H
 exact jM
abbrev AH:=aI→ByteArray→ByteArray→Int→Option ((List Int)×Bool)
def EV(m:AH):Prop:= ∀(pw:aI) (pfrom:ByteArray) (pto:ByteArray) (pmost:Int) (r:(List Int)×Bool),m pw pfrom pto pmost=some r→b4 Tryz.prog 121 [(aI.pv pw),pS pfrom,pS pto,pI pmost] (.tup [rI r.1,pB r.2]:PV)
def HV(fu:Nat)(r_ipathTo:AH)(pw:aI)(pfrom pto:ByteArray)(pmost:Int)(x4:aT)(x5:Int)(x6:Bool):Nat→Unit→Option (LR Unit ((List Int)×Bool)):=
 fun i7 _=>bd (r_ipathTo pw (aW x4.gSupertraits i7) pto (aR (pmost-1))) (fun(x11,x12)=>
 sw (x12)
 (gd ((([(i7:Int)]:List Int)).length+(x11).length≤68719476736)
 (some (.ret ((([(i7:Int)]:List Int)++x11),true))))
 (some (.next ())))
def HW(fu:Nat)(r_ipathTo:AH)(pw:aI)(pfrom pto:ByteArray)(pmost:Int)(x4:aT)(x5:Int)(x6:Bool):Option (((List Int)×Bool)⊕Unit):=
 loopN (HV fu r_ipathTo pw pfrom pto pmost x4 x5 x6) (x4.gSupertraits.length-0) 0 ()
def EU(fu:Nat)(r_ipathTo:AH)(pw:aI)(pfrom pto:ByteArray)(pmost:Int):Option ((List Int)×Bool):=
 sw (decide (pfrom=pto))
 (some (([]),true))
 (sw (decide (pmost=0))
 (some ([],false))
 (bd (AI fu pw pfrom) (fun(x4,x5,x6)=>
 so (HW fu r_ipathTo pw pfrom pto pmost x4 x5 x6) (fun _=>
 some ([],false)))))
theorem W7(fu:Nat)(r_ipathTo:AH)(h_ipathTo:EV r_ipathTo):EV (EU fu r_ipathTo):=by
 intro pw pfrom pto pmost r H
 have H:=eF H
 refine qI Tryz.func121 (fun C hC=>?_)
 refine qS (qR (q1 (jP ([bC pw.gPackages])) ?_))
 iterate 2 refine q1 aE ?_
 refine qN ?_
 iterate 2 refine qS ?_
 refine qR ?_
 iterate 2 refine q1 aE ?_
 refine q1 E6 (qN ?_)
 refine bA H (fun h1 H=>?_) (fun h1 H=>?_)
 ·refine qS (qR (q1 (qZ ([]:List Int) ad8 zr3) ?_))
  iterate 2 refine q1 aE ?_
  refine qN (aQ.ret ?_)
  cases aZ H
  exact jM
 refine aQ.skip ?_
 iterate 2 refine qS ?_
 refine qR (q1 aE (q1 eG (qN ?_)))
 refine bA H (fun h2 H=>?_) (fun h2 H=>?_)
 ·refine qS (qR ?_)
  iterate 2 refine q1 aE ?_
  refine qN (aQ.ret ?_)
  cases aZ H
  exact jM
 refine aQ.skip (qS (qR (q1 (cU [bC pw.gPackages] nB) (q1 aE (QP H fun x4 x5 x6 z3 H=>(q1 (bG Tryz.func82 (VI fu pw pfrom _ z3)) (q1 aE ?_)))))))
 iterate 3 refine q1 uB ?_
 refine q1 (gM vR) (q1 (bR t8) ?_)
 iterate 2 refine q1 aE ?_
 refine qN ?_
 iterate 2 refine qS ?_
 refine qR (q1 (a6 oU) (q1 (bD jC) (q1 (eB bU (a9 _)) (q1 aE (qN ?_)))))
 refine j8 31 (a9 _) (fun hl8=>?_)
 try dsimp only at hl8
 refine b9 (σ:=Unit) (fun i7 _=>⟨[(2,pS pto),(3,pI pmost),(4,.ptr 0 0),(8,.nil),(9,pB false),(31,rS x4.gSupertraits),(32,pN x4.gSupertraits.length),(33,pN i7)],⟨[some ⟨26,[bC pw.gPackages]⟩,some ⟨60,qC x4⟩],[]⟩⟩) (fun _=>⟨[(8,.nil),(9,pB false)],⟨[some ⟨26,[bC pw.gPackages]⟩,some ⟨60,qC x4⟩],[]⟩⟩) (f8 H) ?_ ?_
 ·rintro i7 ⟨⟩ H
  refine qS (qR (q1 gP (qN (qS ?_))))
  refine dT H (fun h9 h9l H=>?_) (fun h9 H=>?_)
  ·have h9n:=a8 h9
   refine aQ.skip (qS (aQ.block (qS (qR (q1 aE (q1 (gV h9n bU) (q1 (mC eE) ?_)))))))
   iterate 2 refine q1 aE ?_
   refine qN (qS (qR (q1 (cU [bC pw.gPackages] nB) ?_)))
   iterate 3 refine q1 aE ?_
   refine q1 AY (eT H fun x11 x12 z10 H=>(q1 (bG Tryz.func121 (h_ipathTo pw (aW x4.gSupertraits i7) pto (aR (pmost-1)) _ z10)) (q1 aE ?_)))
   iterate 2 refine q1 uB ?_
   iterate 2 refine q1 aE ?_
   refine qN (qS (qR (q1 aE (qN ?_))))
   refine bA H (fun h13 H=>?_) (fun h13 H=>?_)
   ·refine qS (qR (q1 aE (q1 (qZ ([(i7:Int)]:List Int) ad8 zr3) (q1 aE (cX H fun z14 H=>(q1 (kX z14 ad8 apD) ?_))))))
    iterate 2 refine q1 aE ?_
    refine qN (aQ.ret ?_)
    obtain rfl:_=r:=(p8 (aZ H):)
    exact jM
   refine aQ.skip (qR (q1 (aX.addI rfl rfl rfl rfl (c:=((i7+1:Nat):Int)) (by omega) (by omega)) (q1 aE (qN ?_))))
   exact iK h9l ⟨_,(aZ H:),b0⟩
  refine aQ.exit ?_;exact j0 ⟨_,H,b0⟩
 rintro⟨⟩ H
 refine qS (qR ?_)
 iterate 2 refine q1 aE ?_
 refine qN (aQ.ret ?_)
 cases aZ H
 exact jM
def kY:Nat→aI→ByteArray→ByteArray→Int→Option ((List Int)×Bool)
 |0,_,_,_,_=>none
 |fu+1,pw,pfrom,pto,pmost=>EU fu (kY fu) pw pfrom pto pmost
theorem aaJ(fu:Nat):EV (kY fu):=by
 induction fu with
 |zero=>exact(fun pw pfrom pto pmost r H=>by simp only [kY] at H;cases H)
 |succ fu ih=>exact(fun pw pfrom pto pmost r H=>by simp only [kY] at H;exact W7 fu (kY fu) ih pw pfrom pto pmost r H)
theorem aeG(fu:Nat):EV (kY fu):=(aaJ fu)
def KG(m:aI→ByteArray→ByteArray→Option ((List Int)×Bool)):Prop:= ∀(pw:aI) (pfrom:ByteArray) (pto:ByteArray) (r:(List Int)×Bool),m pw pfrom pto=some r→b4 Tryz.prog 59 [(aI.pv pw),pS pfrom,pS pto] (.tup [rI r.1,pB r.2]:PV)
def oH(fu:Nat)(pw:aI)(pfrom pto:ByteArray):Option ((List Int)×Bool):=
 bd (kY fu pw pfrom pto 8) (fun(x2,x3)=>
 some (x2,x3))
theorem HU(fu:Nat):KG (oH fu):=by
 intro pw pfrom pto r H
 have H:=eF H
 refine qI Tryz.func59 (fun C hC=>?_)
 refine qS (qR (q1 (jP ([bC pw.gPackages])) ?_))
 iterate 2 refine q1 aE ?_
 refine qN (qS (qR (q1 (cU [bC pw.gPackages] nB) ?_)))
 iterate 2 refine q1 aE ?_
 refine eT H fun x2 x3 z1 H=>(q1 (bG Tryz.func121 (aeG fu pw pfrom pto 8 _ z1)) ?_)
 iterate 2 refine q1 uB ?_
 iterate 2 refine q1 aE ?_
 refine qN (aQ.ret ?_)
 cases aZ H
 exact jM
end
end Go.Proofs.YtpioomclpaiomaaGreat.W

namespace Go.Proofs.YtpioomclpaiomaaGreat.W
set_option maxRecDepth 100000
set_option maxHeartbeats 40000000
noncomputable section
open Go.RowKit Go.Proofs
set_option linter.unusedSimpArgs false
set_option linter.unusedVariables false
attribute [local irreducible] lt
def ac0(m:DS→Option ((List aF)×DS)):Prop:= ∀(pc:DS) (r:(List aF)×DS),m pc=some r→cP Tryz.prog 56 [.ptr 0 0] ⟨[some ⟨151,dC pc⟩],[]⟩ (fun q t=>q=(cG r.1:PV)∧t=⟨[some ⟨151,dC r.2⟩],[]⟩)
def Y1(fu:Nat)(pc d1:DS):Nat→((List aF)×DS)→Option (LR ((List aF)×DS) ((List aF)×DS)):=
 fun i3 (v6,v5)=>lt (v5.after ([bF,iE,hQ]:List ByteArray).length) (fun d9=>
 lt (v5.pick ([bF,iE,hQ]:List ByteArray)) (fun y11=>
 lt (d9.after ([f7,zL]:List ByteArray).length) (fun d13=>
 lt (d9.pick ([f7,zL]:List ByteArray)) (fun y15=>
 bd (lP fu y15) (fun x18=>
 gd ((v6).length+(([(aF.mk y11 x18)]:List aF)).length≤68719476736)
 (some (.next ((v6++([(aF.mk y11 x18)]:List aF)),d13))))))))
def Y2(fu:Nat)(pc d1:DS):Option (((List aF)×DS)⊕((List aF)×DS)):=
 loopN (Y1 fu pc d1) (pc.below 3-0) 0 (([]),d1)
def EG(fu:Nat)(pc:DS):Option ((List aF)×DS):=
 lt (pc.after 3) (fun d1=>
 so (Y2 fu pc d1) (fun(v6,v5)=>
 some (v6,v5)))
theorem Y3(fu:Nat):ac0 (EG fu):=by
 intro pc r H
 have H:=eF H
 refine qI Tryz.func56 (fun C hC=>?_)
 refine qS (qR (q1 aE (qN (qS (qR (q1 (qZ ([]:List aF) mR xW) (q1 aE (qN (qS (qR (q1 aE (gL H fun d1 h2 H=>(q1 (fM [0] [] Tryz.func103 (CG h2 (e9 pc 3))) ?_)))))))))))))
 refine q1 aE (qN ?_)
 iterate 2 refine qS ?_
 refine qR (q1 aE (qN ?_))
 have hb7:=DS.below_lt (d:=pc) (n:=3) (by decide)
 refine b9 (σ:=(List aF)×DS) (fun i3 (v6,v5)=>⟨[(0,.ptr 0 0),(2,.nil),(3,LQ v6 0),(4,pN (pc.below 3)),(5,pN i3)],⟨[some ⟨151,dC v5⟩],[⟨37,4,aF.trs (v6),false⟩]⟩⟩) (fun(v6,v5)=>⟨[(2,.nil),(3,LQ v6 0)],⟨[some ⟨151,dC v5⟩],[⟨37,4,aF.trs (v6),false⟩]⟩⟩) (f8 H) ?_ ?_
 ·rintro i3 ⟨v6,v5⟩ H
  iterate 2 refine qS ?_
  refine qR ?_
  iterate 2 refine q1 aE ?_
  refine q1 gP (qN ?_)
  refine dT H (fun h8 h8l H=>?_) (fun h8 H=>?_)
  ·have h8n:i3<pc.below 3:=by have:=of_decide_eq_true h8;omega
   refine aQ.skip (qS (aQ.block (qR ?_)))
   iterate 2 refine q1 aE ?_
   refine q1 (hH ([bF,iE,hQ]:List ByteArray) bU kG) (gL H fun d9 h10 H=>(gL H fun y11 h12 H=>(q1 (fM [0] [] Tryz.func86 (LF h10 h12 (fO v5 ([bF,iE,hQ]:List ByteArray) (by decide)))) (q1 aE (q1 (hH ([f7,zL]:List ByteArray) bU kG) (gL H fun d13 h14 H=>(gL H fun y15 h16 H=>(q1 (fM [0] [] Tryz.func86 (LF h14 h16 (fO d9 ([f7,zL]:List ByteArray) (by decide)))) (bN H fun x18 z17 H=>(q1 (bG Tryz.func118 (iW fu y15 _ z17)) (q1 (eU xW OV) (q1 (hH ([(aF.mk y11 x18)]:List aF) mR xW) (cX H fun z19 H=>?_)))))))))))))
   refine q1 (kX z19 mR amV) (q1 aE (qN (qR (q1 aE (q1 (aX.addI rfl rfl rfl rfl (c:=((i3+1:Nat):Int)) (by omega) (by omega)) (q1 aE (qN ?_)))))))
   exact iK h8l ⟨_,(aZ H:),b0⟩
  refine aQ.exit ?_;exact j0 ⟨_,H,b0⟩
 rintro⟨v6,v5⟩ H
 refine qS (qR ?_)
 iterate 2 refine q1 aE ?_
 refine qN (aQ.ret ?_)
 cases aZ H
 exact bL
def RS(m:aI→(List aF)→Option ((List aJ))):Prop:= ∀(pa0:aI) (pa1:List aF) (r:(List aJ)),m pa0 pa1=some r→b4 Tryz.prog 13 [(aI.pv pa0),cG pa1] (gK r:PV)
def q7(fu:Nat)(pa0:aI)(pa1:List aF)(i1:Nat)(v3:List aJ)(x9:List ByteArray):Nat→((List aJ))→Option (LR ((List aJ)) (LR ((List aJ)) ((List aJ)))):=
 fun i10 v12=>bd (oM fu pa0 ((aW pa1 i1).gTrait) (aW x9 i10)) (fun(x16,x17)=>
 gd ((v12).length+(([(aJ.mk (aF.mk (aW x9 i10) ((aW pa1 i1).gType)) (i1:Int) x16)]:List aJ)).length≤68719476736)
 (some (.next (v12++([(aJ.mk (aF.mk (aW x9 i10) ((aW pa1 i1).gType)) (i1:Int) x16)]:List aJ)))))
def CK(fu:Nat)(pa0:aI)(pa1:List aF)(i1:Nat)(v3:List aJ)(x9:List ByteArray):Option ((LR ((List aJ)) ((List aJ)))⊕((List aJ))):=
 loopN (q7 fu pa0 pa1 i1 v3 x9) (x9.length-0) 0 (v3++([(aJ.mk (aF.mk ((aW pa1 i1).gTrait) ((aW pa1 i1).gType)) (i1:Int) [])]:List aJ))
def vH(fu:Nat)(pa0:aI)(pa1:List aF):Nat→((List aJ))→Option (LR ((List aJ)) ((List aJ))):=
 fun i1 v3=>gd (Tr.bulkL (aA.tr ((aW pa1 i1).gType))≤68719476735)
 (gd ((v3).length+(([(aJ.mk (aF.mk ((aW pa1 i1).gTrait) ((aW pa1 i1).gType)) (i1:Int) [])]:List aJ)).length≤68719476736)
 (bd (lI fu pa0 ((aW pa1 i1).gTrait)) (fun x9=>
 so (CK fu pa0 pa1 i1 v3 x9) (fun v12=>
 some (.next v12)))))
def CJ(fu:Nat)(pa0:aI)(pa1:List aF):Option (((List aJ))⊕((List aJ))):=
 loopN (vH fu pa0 pa1) (pa1.length-0) 0 ([])
def pE(fu:Nat)(pa0:aI)(pa1:List aF):Option ((List aJ)):=
 so (CJ fu pa0 pa1) (fun v3=>
 some v3)
theorem OZ(fu:Nat):RS (pE fu):=by
 intro pa0 pa1 r H
 have H:=eF H
 refine qI Tryz.func13 (fun C hC=>?_)
 refine qS (qR (q1 (jP ([bC pa0.gPackages])) (q1 aE (qN (qS (qR (q1 (qZ ([]:List aJ) HQ U2) (q1 aE (qN ?_)))))))))
 iterate 2 refine qS ?_
 refine qR (q1 aE (qN ?_))
 refine j8 1 (aF.trs_len _) (fun hl4=>?_)
 try dsimp only at hl4
 refine b9 (σ:=(List aJ)) (fun i1 v3=>⟨[(1,cG pa1),(2,.ptr 0 0),(4,.nil),(5,fG v3 0),(6,pN i1)],⟨[some ⟨26,[bC pa0.gPackages]⟩],[⟨43,6,aJ.trs (v3),false⟩]⟩⟩) (fun v3=>⟨[(4,.nil),(5,fG v3 0)],⟨[some ⟨26,[bC pa0.gPackages]⟩],[⟨43,6,aJ.trs (v3),false⟩]⟩⟩) (f8 H) ?_ ?_
 ·rintro i1 v3 H
  iterate 2 refine qS ?_
  refine qR ?_
  iterate 2 refine q1 aE ?_
  refine q1 (eB mR (aF.trs_len _)) (q1 gP (qN ?_))
  refine dT H (fun h5 h5l H=>?_) (fun h5 H=>?_)
  ·have h5n:=a8 h5
   refine aQ.skip (qS (aQ.block (qS (cX H fun z6 H=>(cX H fun z7 H=>(dW (dI [5] aE (dI [1] aE (dI [6] aE (dI [19,20] (gV h5n mR) (dI [21] (nK u6) (dI [22] (mC eE) (dI [1] aE ?_)))))))))))))
   refine dI [6] aE (dI [24,25] (gV h5n mR) (dI [26] (nK rA) (dI [27] (jW (aA.cs ((aW pa1 i1).gType)) bZ) (dI [28] (bG Tryz.func60 (B9 ((aW pa1 i1).gType) z6)) (dI [23,29] (eU xW OV) (dI [6] aE (dI [30,31] (eU U2 amF) (dI [32] (hH ([(aJ.mk (aF.mk ((aW pa1 i1).gTrait) ((aW pa1 i1).gType)) (i1:Int) [])]:List aJ) HQ U2) (dE [18,33] (kX z7 HQ amW) (dI [34] aE (dN (qS (bN H fun x9 z8 H=>?_)))))))))))))
   refine dW (dD [2] (cU [bC pa0.gPackages] nB) (dI [1] aE (dI [6] aE (dI [36,37] (gV h5n mR) (dI [38] (nK u6) (dI [39] (mC eE) (dI [35,40] (bG Tryz.func15 (xK fu pa0 ((aW pa1 i1).gTrait) _ z8)) (dI [41] aE (dN (qS (qR (q1 aE (qN ?_)))))))))))))
   refine j8 7 (a9 _) (fun hl13=>?_)
   try dsimp only at hl13
   refine b9 (σ:=(List aJ)) (fun i10 v12=>⟨[(1,cG pa1),(2,.ptr 0 0),(4,.nil),(5,fG v12 0),(6,pN i1),(7,rS x9),(8,pN i10),(12,pN i1),(13,cG pa1),(14,pN pa1.length),(15,pB (decide ((i1:Int)<(pa1.length:Int)))),(18,fG v3 0),(19,cG pa1),(20,pN i1),(21,.eptr (aF.cs (aW pa1 i1))),(22,.eptr (aF.cs (aW pa1 i1))),(23,pS ((aW pa1 i1).gTrait)),(24,cG pa1),(25,pN i1),(26,.eptr (aF.cs (aW pa1 i1))),(27,.eptr ((aF.cs (aW pa1 i1)).drop 1)),(28,(aA.pv ((aW pa1 i1).gType))),(29,(aA.pv ((aW pa1 i1).gType))),(30,.agg [pS ((aW pa1 i1).gTrait),pI (((aW pa1 i1).gType).gKind),pS (((aW pa1 i1).gType).gName),a3 (((aW pa1 i1).gType).gArgs)]),(31,pN i1),(32,.agg [pS ((aW pa1 i1).gTrait),pI (((aW pa1 i1).gType).gKind),pS (((aW pa1 i1).gType).gName),a3 (((aW pa1 i1).gType).gArgs),pN i1,.nil]),(33,gK ([(aJ.mk (aF.mk ((aW pa1 i1).gTrait) ((aW pa1 i1).gType)) (i1:Int) [])]:List aJ)),(34,fG (v3++([(aJ.mk (aF.mk ((aW pa1 i1).gTrait) ((aW pa1 i1).gType)) (i1:Int) [])]:List aJ)) 0),(35,(aI.pv pa0)),(36,cG pa1),(37,pN i1),(38,.eptr (aF.cs (aW pa1 i1))),(39,.eptr (aF.cs (aW pa1 i1))),(40,pS ((aW pa1 i1).gTrait)),(41,rS x9)],⟨[some ⟨26,[bC pa0.gPackages]⟩],[⟨43,6,aJ.trs (v12),false⟩]⟩⟩) (fun v12=>⟨[(1,cG pa1),(2,.ptr 0 0),(4,.nil),(5,fG v12 0),(6,pN i1),(7,rS x9),(12,pN i1),(13,cG pa1),(14,pN pa1.length),(15,pB (decide ((i1:Int)<(pa1.length:Int)))),(18,fG v3 0),(19,cG pa1),(20,pN i1),(21,.eptr (aF.cs (aW pa1 i1))),(22,.eptr (aF.cs (aW pa1 i1))),(23,pS ((aW pa1 i1).gTrait)),(24,cG pa1),(25,pN i1),(26,.eptr (aF.cs (aW pa1 i1))),(27,.eptr ((aF.cs (aW pa1 i1)).drop 1)),(28,(aA.pv ((aW pa1 i1).gType))),(29,(aA.pv ((aW pa1 i1).gType))),(30,.agg [pS ((aW pa1 i1).gTrait),pI (((aW pa1 i1).gType).gKind),pS (((aW pa1 i1).gType).gName),a3 (((aW pa1 i1).gType).gArgs)]),(31,pN i1),(32,.agg [pS ((aW pa1 i1).gTrait),pI (((aW pa1 i1).gType).gKind),pS (((aW pa1 i1).gType).gName),a3 (((aW pa1 i1).gType).gArgs),pN i1,.nil]),(33,gK ([(aJ.mk (aF.mk ((aW pa1 i1).gTrait) ((aW pa1 i1).gType)) (i1:Int) [])]:List aJ)),(34,fG (v3++([(aJ.mk (aF.mk ((aW pa1 i1).gTrait) ((aW pa1 i1).gType)) (i1:Int) [])]:List aJ)) 0),(35,(aI.pv pa0)),(36,cG pa1),(37,pN i1),(38,.eptr (aF.cs (aW pa1 i1))),(39,.eptr (aF.cs (aW pa1 i1))),(40,pS ((aW pa1 i1).gTrait)),(41,rS x9)],⟨[some ⟨26,[bC pa0.gPackages]⟩],[⟨43,6,aJ.trs (v12),false⟩]⟩⟩) (f8 H) ?_ ?_
   ·rintro i10 v12 H
    iterate 2 refine qS ?_
    refine qR ?_
    iterate 2 refine q1 aE ?_
    refine q1 (eB bU (a9 _)) (q1 gP (qN ?_))
    refine dT H (fun h14 h14l H=>?_) (fun h14 H=>?_)
    ·have h14n:=a8 h14
     refine aQ.skip (qS (aQ.block (qS (eT H fun x16 x17 z15 H=>(dW (dD [2] (cU [bC pa0.gPackages] nB) (dI [1] aE (dI [6] aE (dI [50,51] (gV h5n mR) (dI [52] (nK u6) (dI [53] (mC eE) (dI [7] aE (dI [8] aE ?_)))))))))))))
     refine dI [55,56] (gV h14n bU) (dI [57] (mC eE) (dI [49,54,58] (bG Tryz.func61 (IZ fu pa0 ((aW pa1 i1).gTrait) (aW x9 i10) _ z15)) (dI [59] aE ?_)))
     iterate 2 refine dI [48] uB ?_
     refine dI [60] aE (dI [61] aE (dN (cX H fun z18 H=>(dW (dI [5] aE (dI [7] aE (dI [8] aE (dI [63,64] (gV h14n bU) (dI [65] (mC eE) (dI [1] aE (dI [6] aE (dI [67,68] (gV h5n mR) (dI [69] (nK rA) ?_)))))))))))))
     refine dI [70] (jW (aA.cs ((aW pa1 i1).gType)) bZ) (dI [71] (bG Tryz.func60 (B9 ((aW pa1 i1).gType) z6)) (dI [66,72] (eU xW OV) (dI [6] aE (dI [9] aE (dI [73,74,75] (eU U2 amF) (dI [76] (hH ([(aJ.mk (aF.mk (aW x9 i10) ((aW pa1 i1).gType)) (i1:Int) x16)]:List aJ) HQ U2) (dE [62,77] (kX z18 HQ amW) (dI [78] aE (dN (qR (q1 aE (q1 (aX.addI rfl rfl rfl rfl (c:=((i10+1:Nat):Int)) (by omega) (by omega)) (q1 aE ?_)))))))))))))
     refine qN ?_;exact iK h14l ⟨_,(aZ H:),b0⟩
    refine aQ.exit ?_;exact j0 ⟨_,H,b0⟩
   rintro v12 H
   refine qR (q1 aE (q1 (aX.addI rfl rfl rfl rfl (c:=((i1+1:Nat):Int)) (by omega) (by omega)) (q1 aE (qN ?_))))
   exact iK h5l ⟨_,(aZ H:),b0⟩
  refine aQ.exit ?_;exact j0 ⟨_,H,b0⟩
 rintro v3 H
 refine qS (qR ?_)
 iterate 2 refine q1 aE ?_
 refine qN (aQ.ret ?_)
 cases aZ H
 exact bL
def QW(m:aI→(List aF)→Option ((List aJ))):Prop:= ∀(pw:aI) (pwhere:List aF) (r:(List aJ)),m pw pwhere=some r→b4 Tryz.prog 12 [(aI.pv pw),cG pwhere] (gK r:PV)
def qY(fu:Nat)(pw:aI)(pwhere:List aF)(i1:Nat)(v3:List aJ)(x9:List ByteArray):Nat→((List aJ))→Option (LR ((List aJ)) (LR ((List aJ)) ((List aJ)))):=
 fun i10 v12=>bd (oH fu pw ((aW pwhere i1).gTrait) (aW x9 i10)) (fun(x16,x17)=>
 gd ((v12).length+(([(aJ.mk (aF.mk (aW x9 i10) ((aW pwhere i1).gType)) (i1:Int) x16)]:List aJ)).length≤68719476736)
 (some (.next (v12++([(aJ.mk (aF.mk (aW x9 i10) ((aW pwhere i1).gType)) (i1:Int) x16)]:List aJ)))))
def CE(fu:Nat)(pw:aI)(pwhere:List aF)(i1:Nat)(v3:List aJ)(x9:List ByteArray):Option ((LR ((List aJ)) ((List aJ)))⊕((List aJ))):=
 loopN (qY fu pw pwhere i1 v3 x9) (x9.length-0) 0 (v3++([(aJ.mk (aF.mk ((aW pwhere i1).gTrait) ((aW pwhere i1).gType)) (i1:Int) [])]:List aJ))
def u7(fu:Nat)(pw:aI)(pwhere:List aF):Nat→((List aJ))→Option (LR ((List aJ)) ((List aJ))):=
 fun i1 v3=>gd (Tr.bulkL (aA.tr ((aW pwhere i1).gType))≤68719476735)
 (gd ((v3).length+(([(aJ.mk (aF.mk ((aW pwhere i1).gTrait) ((aW pwhere i1).gType)) (i1:Int) [])]:List aJ)).length≤68719476736)
 (bd (oF fu pw ((aW pwhere i1).gTrait)) (fun x9=>
 so (CE fu pw pwhere i1 v3 x9) (fun v12=>
 some (.next v12)))))
def CD(fu:Nat)(pw:aI)(pwhere:List aF):Option (((List aJ))⊕((List aJ))):=
 loopN (u7 fu pw pwhere) (pwhere.length-0) 0 ([])
def o3(fu:Nat)(pw:aI)(pwhere:List aF):Option ((List aJ)):=
 so (CD fu pw pwhere) (fun v3=>
 some v3)
theorem OR(fu:Nat):QW (o3 fu):=by
 intro pw pwhere r H
 have H:=eF H
 refine qI Tryz.func12 (fun C hC=>?_)
 refine qS (qR (q1 (jP ([bC pw.gPackages])) (q1 aE (qN (qS (qR (q1 (qZ ([]:List aJ) HQ U2) (q1 aE (qN ?_)))))))))
 iterate 2 refine qS ?_
 refine qR (q1 aE (q1 (eB mR (aF.trs_len _)) (q1 aE (qN ?_))))
 refine j8 1 (aF.trs_len _) (fun hl4=>?_)
 try dsimp only at hl4
 refine b9 (σ:=(List aJ)) (fun i1 v3=>⟨[(2,.ptr 0 0),(4,.nil),(5,fG v3 0),(13,cG pwhere),(14,pN pwhere.length),(15,pN i1)],⟨[some ⟨26,[bC pw.gPackages]⟩],[⟨43,6,aJ.trs (v3),false⟩]⟩⟩) (fun v3=>⟨[(4,.nil),(5,fG v3 0)],⟨[some ⟨26,[bC pw.gPackages]⟩],[⟨43,6,aJ.trs (v3),false⟩]⟩⟩) (f8 H) ?_ ?_
 ·rintro i1 v3 H
  refine qS (qR (q1 gP (qN (qS ?_))))
  refine dT H (fun h5 h5l H=>?_) (fun h5 H=>?_)
  ·have h5n:=a8 h5
   refine aQ.skip (qS (aQ.block (qS (qR (q1 aE (q1 (gV h5n mR) (q1 (jW (aF.cs (aW pwhere i1)) ak2) (q1 (gM xW) (q1 aE (q1 (bR apT) (qN (qS (cX H fun z6 H=>?_)))))))))))))
   refine cX H fun z7 H=>(dW (dI [5] aE (dI [7] (a6 u6) (dD [21] (bD eE) (dI [7] (a6 rA) (dD [23] (cU [pI (((aW pwhere i1).gType).gKind),pS (((aW pwhere i1).gType).gName),a3 (((aW pwhere i1).gType).gArgs)] bZ) (dI [24] (bG Tryz.func57 (wF ((aW pwhere i1).gType) z6)) (dI [22,25] (eU xW OV) (dI [6] aE (dI [26,27] (eU U2 amF) (dI [28] (hH ([(aJ.mk (aF.mk ((aW pwhere i1).gTrait) ((aW pwhere i1).gType)) (i1:Int) [])]:List aJ) HQ U2) (dE [20,29] (kX z7 HQ amW) (dI [30] aE ?_)))))))))))))
   refine dN (qS (qR (q1 (cU [bC pw.gPackages] nB) (q1 (a6 u6) (q1 (bD eE) (bN H fun x9 z8 H=>(q1 (bG Tryz.func58 (HT fu pw ((aW pwhere i1).gTrait) _ z8)) (q1 (eB bU (a9 _)) (q1 aE (qN ?_))))))))))
   refine j8 34 (a9 _) (fun hl13=>?_)
   try dsimp only at hl13
   refine b9 (σ:=(List aJ)) (fun i10 v12=>⟨[(2,.ptr 0 0),(4,.nil),(5,fG v12 0),(6,pN i1),(7,.ptr 1 0),(13,cG pwhere),(14,pN pwhere.length),(15,pN i1),(16,pB (decide ((i1:Int)<(pwhere.length:Int)))),(17,pN i1),(18,.eptr (aF.cs (aW pwhere i1))),(19,(aF.pv (aW pwhere i1))),(20,fG v3 0),(21,.ptr 1 0),(22,pS ((aW pwhere i1).gTrait)),(23,.ptr 1 1),(24,(aA.pv ((aW pwhere i1).gType))),(25,(aA.pv ((aW pwhere i1).gType))),(26,.agg [pS ((aW pwhere i1).gTrait),pI (((aW pwhere i1).gType).gKind),pS (((aW pwhere i1).gType).gName),a3 (((aW pwhere i1).gType).gArgs)]),(27,pN i1),(28,.agg [pS ((aW pwhere i1).gTrait),pI (((aW pwhere i1).gType).gKind),pS (((aW pwhere i1).gType).gName),a3 (((aW pwhere i1).gType).gArgs),pN i1,.nil]),(29,gK ([(aJ.mk (aF.mk ((aW pwhere i1).gTrait) ((aW pwhere i1).gType)) (i1:Int) [])]:List aJ)),(30,fG (v3++([(aJ.mk (aF.mk ((aW pwhere i1).gTrait) ((aW pwhere i1).gType)) (i1:Int) [])]:List aJ)) 0),(31,(aI.pv pw)),(32,.ptr 1 0),(33,pS ((aW pwhere i1).gTrait)),(34,rS x9),(35,pN x9.length),(36,pN i10)],⟨[some ⟨26,[bC pw.gPackages]⟩,some ⟨37,sJ (aW pwhere i1)⟩],[⟨43,6,aJ.trs (v12),false⟩]⟩⟩) (fun v12=>⟨[(2,.ptr 0 0),(4,.nil),(5,fG v12 0),(6,pN i1),(7,.ptr 1 0),(13,cG pwhere),(14,pN pwhere.length),(15,pN i1),(16,pB (decide ((i1:Int)<(pwhere.length:Int)))),(17,pN i1),(18,.eptr (aF.cs (aW pwhere i1))),(19,(aF.pv (aW pwhere i1))),(20,fG v3 0),(21,.ptr 1 0),(22,pS ((aW pwhere i1).gTrait)),(23,.ptr 1 1),(24,(aA.pv ((aW pwhere i1).gType))),(25,(aA.pv ((aW pwhere i1).gType))),(26,.agg [pS ((aW pwhere i1).gTrait),pI (((aW pwhere i1).gType).gKind),pS (((aW pwhere i1).gType).gName),a3 (((aW pwhere i1).gType).gArgs)]),(27,pN i1),(28,.agg [pS ((aW pwhere i1).gTrait),pI (((aW pwhere i1).gType).gKind),pS (((aW pwhere i1).gType).gName),a3 (((aW pwhere i1).gType).gArgs),pN i1,.nil]),(29,gK ([(aJ.mk (aF.mk ((aW pwhere i1).gTrait) ((aW pwhere i1).gType)) (i1:Int) [])]:List aJ)),(30,fG (v3++([(aJ.mk (aF.mk ((aW pwhere i1).gTrait) ((aW pwhere i1).gType)) (i1:Int) [])]:List aJ)) 0),(31,(aI.pv pw)),(32,.ptr 1 0),(33,pS ((aW pwhere i1).gTrait)),(34,rS x9),(35,pN x9.length)],⟨[some ⟨26,[bC pw.gPackages]⟩,some ⟨37,sJ (aW pwhere i1)⟩],[⟨43,6,aJ.trs (v12),false⟩]⟩⟩) (f8 H) ?_ ?_
   ·rintro i10 v12 H
    refine qS (qR (q1 gP (qN (qS ?_))))
    refine dT H (fun h14 h14l H=>?_) (fun h14 H=>?_)
    ·have h14n:=a8 h14
     refine aQ.skip (qS (aQ.block (qS (qR (q1 (gV h14n bU) (q1 (mC eE) (q1 aE (qN (qS (qR (q1 (cU [bC pw.gPackages] nB) (q1 (a6 u6) (q1 (bD eE) ?_)))))))))))))
     refine q1 aE (eT H fun x16 x17 z15 H=>(q1 (bG Tryz.func59 (HU fu pw ((aW pwhere i1).gTrait) (aW x9 i10) _ z15)) (q1 aE ?_)))
     iterate 2 refine q1 uB ?_
     iterate 2 refine q1 aE ?_
     refine qN (qR ?_)
     iterate 2 refine q1 aE ?_
     refine q1 (a6 rA) (q1 (cU [pI (((aW pwhere i1).gType).gKind),pS (((aW pwhere i1).gType).gName),a3 (((aW pwhere i1).gType).gArgs)] bZ) (q1 (bG Tryz.func57 (wF ((aW pwhere i1).gType) z6)) (q1 (eU xW OV) ?_)))
     iterate 2 refine q1 aE ?_
     refine q1 (eU U2 amF) (q1 (hH ([(aJ.mk (aF.mk (aW x9 i10) ((aW pwhere i1).gType)) (i1:Int) x16)]:List aJ) HQ U2) (cX H fun z18 H=>(q1 (kX z18 HQ amW) (q1 aE (qN (qR (q1 (aX.addI rfl rfl rfl rfl (c:=((i10+1:Nat):Int)) (by omega) (by omega)) (q1 aE (qN ?_)))))))))
     exact iK h14l ⟨_,(aZ H:),b0⟩
    refine aQ.exit ?_;exact j0 ⟨_,H,b0⟩
   rintro v12 H
   refine qR (q1 (aX.addI rfl rfl rfl rfl (c:=((i1+1:Nat):Int)) (by omega) (by omega)) (q1 aE (qN ?_)))
   exact iK h5l ⟨_,(aZ H:),b0⟩
  refine aQ.exit ?_;exact j0 ⟨_,H,b0⟩
 rintro v3 H
 refine qS (qR ?_)
 iterate 2 refine q1 aE ?_
 refine qN (aQ.ret ?_)
 cases aZ H
 exact bL
def W0(m:aF→aF→Option Bool):Prop:= ∀(pa:aF) (pb:aF) (r:Bool),m pa pb=some r→b4 Tryz.prog 64 [(aF.pv pa),(aF.pv pb)] (pB r:PV)
def wE(fu:Nat)(pa pb:aF):Option Bool:=
 sw (decide (pa.gTrait=pb.gTrait))
 (some (aA.eq pa.gType pb.gType))
 (some false)
theorem TR(fu:Nat):W0 (wE fu):=by
 intro pa pb r H
 have H:=eF H
 refine qI Tryz.func64 (fun C hC=>?_)
 refine qS (qR (q1 (jP (sJ pa)) (q1 (jP (sJ pb)) (q1 aE (qN (qS (qR (q1 (a6 u6) (q1 (bD eE) (q1 (a6 u6) (q1 (bD eE) (q1 E6 (q1 aE ?_)))))))))))))
 refine dY 10 H (fun g1 H=>?_) fun g1 H=>?_
 ·refine qg g1 (a6 rA) (qg g1 (cU [pI pa.gType.gKind,pS pa.gType.gName,a3 pa.gType.gArgs] bZ) (qg g1 (a6 rA) (qg g1 (cU [pI pb.gType.gKind,pS pb.gType.gName,a3 pb.gType.gArgs] bZ) (qg g1 (bG Tryz.func124 (GS pa.gType pb.gType)) (q1 (bS g1) (q1 aE (qN (aQ.ret ?_))))))))
  cases aZ H
  exact bL
 iterate 5 refine qk g1 ?_
 refine q1 (b6 g1) (q1 aE (qN (aQ.ret ?_)))
 cases aZ H
 exact bL
def FQ(m:aJ→aF→Option Bool):Prop:= ∀(pa:aJ) (c1:aF) (r:Bool),m pa c1=some r→cP Tryz.prog 63 [(aJ.pv pa),.ptr 0 0] ⟨[some ⟨37,sJ c1⟩],[]⟩ (fun q t=>q=(pB r:PV)∧t=⟨[some ⟨37,sJ c1⟩],[]⟩)
def qE(fu:Nat)(pa:aJ)(c1:aF):Option Bool:=
 bd (wE fu pa.gGoal c1) (fun x2=>
 some x2)
theorem DG(fu:Nat):FQ (qE fu):=by
 intro pa c1 r H
 have H:=eF H
 refine qI Tryz.func63 (fun C hC=>?_)
 refine qS (qR (q1 (jP ([pS pa.gGoal.gTrait,pI pa.gGoal.gType.gKind,pS pa.gGoal.gType.gName,a3 pa.gGoal.gType.gArgs,pI pa.gFrom,rI pa.gSteps])) (q1 aE (qN (qS (qR (q1 (a6 akA) (q1 (cU [pS pa.gGoal.gTrait,pI pa.gGoal.gType.gKind,pS pa.gGoal.gType.gName,a3 pa.gGoal.gType.gArgs] ak2) (q1 (cU [pS c1.gTrait,pI c1.gType.gKind,pS c1.gType.gName,a3 c1.gType.gArgs] ak2) (bN H fun x2 z1 H=>(q1 (bG Tryz.func64 (TR fu pa.gGoal c1 _ z1)) (q1 aE (qN ?_)))))))))))))
 refine aQ.ret ?_
 cases aZ H
 exact bL
def mT(m:(List aJ)→aF→Option Int):Prop:= ∀(ps:List aJ) (c1_0:aF) (r:Int),m ps c1_0=some r→cP Tryz.prog 62 [gK ps,.fn 63 [.ptr 0 0]] ⟨[some ⟨37,sJ c1_0⟩],[]⟩ (fun q t=>q=(pI r:PV)∧t=⟨[some ⟨37,sJ c1_0⟩],[]⟩)
def hO(fu:Nat)(ps:List aJ)(c1_0:aF):Nat→Unit→Option (LR Unit Int):=
 fun i1 _=>lt (aW ps i1) (fun y4=>
 bd (qE fu y4 c1_0) (fun x7=>
 sw (x7)
 (some (.ret (i1:Int)))
 (some (.next ()))))
def hP(fu:Nat)(ps:List aJ)(c1_0:aF):Option (Int⊕Unit):=
 loopN (hO fu ps c1_0) (ps.length-0) 0 ()
def e6(fu:Nat)(ps:List aJ)(c1_0:aF):Option Int:=
 so (hP fu ps c1_0) (fun _=>
 some (-1))
theorem mO(fu:Nat):mT (e6 fu):=by
 intro ps c1_0 r H
 have H:=eF H
 refine qI Tryz.func62 (fun C hC=>?_)
 refine qS (qR (q1 aE (qN ?_)))
 iterate 2 refine qS ?_
 refine qR (q1 aE (q1 (eB HQ (aJ.trs_len _)) (q1 aE (qN ?_))))
 refine j8 0 (aJ.trs_len _) (fun hl2=>?_)
 try dsimp only at hl2
 refine b9 (σ:=Unit) (fun i1 _=>⟨[(0,gK ps),(1,.fn 63 [.ptr 0 0]),(4,pI 0),(7,pN ps.length),(8,pN i1)],⟨[some ⟨37,sJ c1_0⟩],[]⟩⟩) (fun _=>⟨[(4,pI 0)],⟨[some ⟨37,sJ c1_0⟩],[]⟩⟩) (f8 H) ?_ ?_
 ·rintro i1 ⟨⟩ H
  refine qS (qR (q1 gP (qN (qS ?_))))
  refine dT H (fun h3 h3l H=>?_) (fun h3 H=>?_)
  ·have h3n:=a8 h3
   refine aQ.skip (qS (aQ.block (qS (qR ?_))))
   iterate 2 refine q1 aE ?_
   refine qN (qS (qR ?_))
   iterate 3 refine q1 aE ?_
   refine gL H fun y4 h5 H=>(q1 (vT h5 h3n HQ) (q1 (jW (aJ.cs y4) apQ) (bN H fun x7 z6 H=>(q1 (aX.callVPE (pre:=⟨[some ⟨37,sJ c1_0⟩],[]⟩) (st':=⟨[some ⟨37,sJ c1_0⟩],[]⟩) (ps:= [_]) (cs:= [.ptr 0 0]) (qs:= [(aJ.pv y4),.ptr 0 0]) [0] [] rfl rfl rfl Tryz.func63 (by kernel_rfl) rfl rfl rfl (mD.of ⟨⟨_,rfl,rfl,kP,rfl⟩,trivial⟩ trivial (by decide) (by decide)) kP rfl rfl rfl (DG fu y4 c1_0 _ z6)) (qN ?_)))))
   refine bA H (fun h8 H=>?_) (fun h8 H=>?_)
   ·refine qS (qR ?_)
    iterate 2 refine q1 aE ?_
    refine qN (aQ.ret ?_)
    obtain rfl:_=r:=(p8 (aZ H):)
    exact bL
   refine aQ.skip (qR (q1 (aX.addI rfl rfl rfl rfl (c:=((i1+1:Nat):Int)) (by omega) (by omega)) (q1 aE (qN ?_))))
   exact iK h3l ⟨_,(aZ H:),b0⟩
  refine aQ.exit ?_;exact j0 ⟨_,H,b0⟩
 rintro⟨⟩ H
 refine qS (qR (q1 aE (qN (aQ.ret ?_))))
 cases aZ H
 exact bL
def KF(m:(List aJ)→aF→Option Int):Prop:= ∀(plist:List aJ) (pg:aF) (r:Int),m plist pg=some r→b4 Tryz.prog 14 [gK plist,(aF.pv pg)] (pI r:PV)
def lF(fu:Nat)(plist:List aJ)(pg:aF):Option Int:=
 bd (e6 fu plist pg) (fun x2=>
 some x2)
theorem xB(fu:Nat):KF (lF fu):=by
 intro plist pg r H
 have H:=eF H
 refine qI Tryz.func14 (fun C hC=>?_)
 refine qS (qR (q1 (jP (sJ pg)) (q1 aE (qN (qS (qR (q1 aE (q1 rMf (bN H fun x2 z1 H=>(q1 (fM [0] [] Tryz.func62 (mO fu plist pg _ z1)) (q1 aE (qN (aQ.ret ?_)))))))))))))
 cases aZ H
 exact bL
end
end Go.Proofs.YtpioomclpaiomaaGreat.W

namespace Go.Proofs.YtpioomclpaiomaaGreat.W
set_option maxRecDepth 100000
set_option maxHeartbeats 40000000
noncomputable section
open Go.RowKit Go.Proofs
set_option linter.unusedSimpArgs false
set_option linter.unusedVariables false
attribute [local irreducible] lt
def IJ(m:(List UInt8)→Option (aI×(List aF))):Prop:= ∀(pcode:List UInt8) (r:aI×(List aF)),m pcode=some r→b4 Tryz.prog 11 [rU pcode] (.tup [(aI.pv r.1),cG r.2]:PV)
def m5(fu:Nat)(pcode:List UInt8):Option (aI×(List aF)):=
 gd ((pcode).length≤1048576)
 (bd (uX fu (DS.start pcode)) (fun(x3,x4)=>
 bd (EG fu x4) (fun(x6,x7)=>
 some (x3,x6))))
theorem FV(fu:Nat):IJ (m5 fu):=by
 intro pcode r H
 have H:=eF H
 refine qI Tryz.func11 (fun C hC=>?_)
 refine qS (qR (q1 (gM JK) (q1 aE (qN (qS (qR (q1 aE (cX H fun z1 H=>(q1 (aX.callNew (ps:= [_]) rfl rfl Tryz.func54 (by kernel_rfl) rfl rfl kP rfl rfl (aeO pcode z1)) (q1 aE (qN (qS (qR ?_)))))))))))))
 refine q1 aE (eT H fun x3 x4 z2 H=>(q1 (fM [1] [] Tryz.func55 (K6 fu (DS.start pcode) _ z2)) (q1 aE (eT H fun x6 x7 z5 H=>(q1 (fM [1] [] Tryz.func56 (Y3 fu x4 _ z5)) (q1 (bR JJ) (q1 aE (qN (aQ.ret ?_)))))))))
 cases aZ H
 exact jM (hr:=⟨⟨_,_,_,rfl,rfl,nB,rfl,rfl⟩,rfl,trivial⟩)
def aeI(m:(List UInt8)→Option Bool):Prop:= ∀(pa0:List UInt8) (r:Bool),m pa0=some r→b4 Tryz.prog 3 [rU pa0] (pB r:PV)
def NZ(fu:Nat)(pa0:List UInt8)(x2:Bool)(x5:aI)(x6:List aF)(x8 x10:List aJ)(i12:Nat)(x16:Int)(x19:List ByteArray):Nat→Unit→Option (LR Unit (LR Unit Bool)):=
 fun i20 _=>bd (lF fu x8 (aF.mk (aW x19 i20) ((aW x6 i12).gType))) (fun x24=>
 sw (decide (x24<0))
 (some (.ret (.ret false)))
 (gd (0≤x24∧(x24).toNat<(x8).length)
 (lt (aW x8 ((x24).toNat)) (fun y27=>
 sw (!(aA.eq y27.gGoal.gType ((aW x6 i12).gType)))
 (some (.ret (.ret false)))
 (some (.next ()))))))
def N1(fu:Nat)(pa0:List UInt8)(x2:Bool)(x5:aI)(x6:List aF)(x8 x10:List aJ)(i12:Nat)(x16:Int)(x19:List ByteArray):Option ((LR Unit Bool)⊕Unit):=
 loopN (NZ fu pa0 x2 x5 x6 x8 x10 i12 x16 x19) (x19.length-0) 0 ()
def NY(fu:Nat)(pa0:List UInt8)(x2:Bool)(x5:aI)(x6:List aF)(x8 x10:List aJ):Nat→Unit→Option (LR Unit Bool):=
 fun i12 _=>bd (lF fu x8 (aW x6 i12)) (fun x16=>
 sw (decide (x16<0))
 (some (.ret false))
 (bd (lI fu x5 ((aW x6 i12).gTrait)) (fun x19=>
 so (N1 fu pa0 x2 x5 x6 x8 x10 i12 x16 x19) (fun _=>
 some (.next ())))))
def N0(fu:Nat)(pa0:List UInt8)(x2:Bool)(x5:aI)(x6:List aF)(x8 x10:List aJ):Option (Bool⊕Unit):=
 loopN (NY fu pa0 x2 x5 x6 x8 x10) (x6.length-0) 0 ()
def H9(fu:Nat)(pa0:List UInt8):Option Bool:=
 bd (RB fu pa0) (fun x2=>
 sw (x2)
 (some true)
 (bd (m5 fu pa0) (fun(x5,x6)=>
 bd (o3 fu x5 x6) (fun x8=>
 bd (pE fu x5 x6) (fun x10=>
 sw (!decide ((x8.length:Int)=(x10.length:Int)))
 (some false)
 (so (N0 fu pa0 x2 x5 x6 x8 x10) (fun _=>
 some true)))))))
theorem aaN(fu:Nat):aeI (H9 fu):=by
 intro pa0 r H
 have H:=eF H
 refine qI Tryz.func3 (fun C hC=>?_)
 refine qS (qR (q1 aE (qN ?_)))
 iterate 2 refine qS ?_
 refine qR (q1 aE (bN H fun x2 z1 H=>(q1 (bG Tryz.func10 (ahB fu pa0 _ z1)) (qN ?_))))
 refine bA H (fun h3 H=>?_) (fun h3 H=>?_)
 ·refine qS (qR (q1 aE (qN (aQ.ret ?_))))
  cases aZ H
  exact bL
 refine aQ.skip (qS (qR (q1 aE (eT H fun x5 x6 z4 H=>(q1 (bG Tryz.func11 (FV fu pa0 _ z4)) (q1 aE ?_))))))
 iterate 2 refine q1 uB ?_
 refine q1 (gM JK) (q1 (bR JJ) (q1 aE (qN (qS (qR (q1 (cU [bC x5.gPackages] nB) (q1 aE (bN H fun x8 z7 H=>(q1 (bG Tryz.func12 (OR fu x5 x6 _ z7)) (q1 aE (qN ?_)))))))))))
 iterate 2 refine qS ?_
 refine qR (q1 aE (q1 (eB HQ (aJ.trs_len _)) (q1 (cU [bC x5.gPackages] nB) (q1 aE (bN H fun x10 z9 H=>(q1 (bG Tryz.func13 (OZ fu x5 x6 _ z9)) (q1 (eB HQ (aJ.trs_len _)) (q1 P5 (qN ?_)))))))))
 refine bA H (fun h11 H=>?_) (fun h11 H=>?_)
 ·refine qS (qR (q1 aE (qN (aQ.ret ?_))))
  cases aZ H
  exact bL
 refine aQ.skip ?_
 iterate 2 refine qS ?_
 refine qR (q1 aE (qN ?_))
 refine j8 4 (aF.trs_len _) (fun hl13=>?_)
 try dsimp only at hl13
 refine b9 (σ:=Unit) (fun i12 _=>⟨[(2,pB false),(3,.ptr 0 0),(4,cG x6),(5,gK x8),(6,pN i12)],⟨[some ⟨26,[bC x5.gPackages]⟩],[]⟩⟩) (fun _=>⟨[(2,pB false)],⟨[some ⟨26,[bC x5.gPackages]⟩],[]⟩⟩) (f8 H) ?_ ?_
 ·rintro i12 ⟨⟩ H
  iterate 2 refine qS ?_
  refine qR ?_
  iterate 2 refine q1 aE ?_
  refine q1 (eB mR (aF.trs_len _)) (q1 gP (qN ?_))
  refine dT H (fun h14 h14l H=>?_) (fun h14 H=>?_)
  ·have h14n:=a8 h14
   refine aQ.skip (qS (aQ.block ?_))
   iterate 2 refine qS ?_
   refine qR ?_
   iterate 3 refine q1 aE ?_
   refine q1 (gV h14n mR) (q1 (jW (aF.cs (aW x6 i12)) ak2) (bN H fun x16 z15 H=>(q1 (bG Tryz.func14 (xB fu x8 (aW x6 i12) _ z15)) (q1 gP (qN ?_)))))
   refine bA H (fun h17 H=>?_) (fun h17 H=>?_)
   ·refine qS (qR (q1 aE (qN (aQ.ret ?_))))
    obtain rfl:_=r:=(p8 (aZ H):)
    exact bL
   refine aQ.skip (qS (bN H fun x19 z18 H=>(dW (dD [3] (cU [bC x5.gPackages] nB) (dI [4] aE (dI [6] aE (dI [41,42] (gV h14n mR) (dI [43] (nK u6) (dI [44] (mC eE) (dI [40,45] (bG Tryz.func15 (xK fu x5 ((aW x6 i12).gTrait) _ z18)) (dI [46] aE (dN (qS ?_)))))))))))))
   refine qR (q1 aE (qN ?_))
   refine j8 7 (a9 _) (fun hl21=>?_)
   try dsimp only at hl21
   refine b9 (σ:=Unit) (fun i20 _=>⟨[(2,pB false),(3,.ptr 0 0),(4,cG x6),(5,gK x8),(6,pN i12),(7,rS x19),(8,pN i20),(27,pN i12),(28,cG x6),(29,pN x6.length),(30,pB (decide ((i12:Int)<(x6.length:Int)))),(33,gK x8),(34,cG x6),(35,pN i12),(36,.eptr (aF.cs (aW x6 i12))),(37,(aF.pv (aW x6 i12))),(38,pI x16),(39,pB (decide (x16<0))),(40,(aI.pv x5)),(41,cG x6),(42,pN i12),(43,.eptr (aF.cs (aW x6 i12))),(44,.eptr (aF.cs (aW x6 i12))),(45,pS ((aW x6 i12).gTrait)),(46,rS x19)],⟨[some ⟨26,[bC x5.gPackages]⟩],[]⟩⟩) (fun _=>⟨[(2,pB false),(3,.ptr 0 0),(4,cG x6),(5,gK x8),(6,pN i12),(7,rS x19),(27,pN i12),(28,cG x6),(29,pN x6.length),(30,pB (decide ((i12:Int)<(x6.length:Int)))),(33,gK x8),(34,cG x6),(35,pN i12),(36,.eptr (aF.cs (aW x6 i12))),(37,(aF.pv (aW x6 i12))),(38,pI x16),(39,pB (decide (x16<0))),(40,(aI.pv x5)),(41,cG x6),(42,pN i12),(43,.eptr (aF.cs (aW x6 i12))),(44,.eptr (aF.cs (aW x6 i12))),(45,pS ((aW x6 i12).gTrait)),(46,rS x19)],⟨[some ⟨26,[bC x5.gPackages]⟩],[]⟩⟩) (f8 H) ?_ ?_
   ·rintro i20 ⟨⟩ H
    iterate 2 refine qS ?_
    refine qR ?_
    iterate 2 refine q1 aE ?_
    refine q1 (eB bU (a9 _)) (q1 gP (qN ?_))
    refine dT H (fun h22 h22l H=>?_) (fun h22 H=>?_)
    ·have h22n:=a8 h22
     refine aQ.skip (qS (aQ.block (qS (bN H fun x24 z23 H=>(dW (dI [5] aE (dI [7] aE (dI [8] aE (dI [54,55] (gV h22n bU) (dI [56] (mC eE) (dI [4] aE (dI [6] aE (dI [58,59] (gV h14n mR) ?_)))))))))))))
     refine dI [60] (nK rA) (dI [61] (jW (aA.cs ((aW x6 i12).gType)) bZ) (dI [57,62] (eU xW OV) (dI [53,63] (bG Tryz.func14 (xB fu x8 (aF.mk (aW x19 i20) ((aW x6 i12).gType)) _ z23)) (dI [64] aE (dN (qS ?_))))))
     rcases lC (decide (x24<0)) with g25|g25
     ·have H:=oE H g25
      refine dW (dI [9] aE (dI [65] gP (dI [66] aE ?_)))
      iterate 13 refine CQ g25 ?_
      refine dI [67] (bS g25) (dN (dM rfl (qS (qR (q1 aE (qN (aQ.ret ?_)))))))
      obtain rfl:_=r:=(p8 (CY (p8 (aZ H))):)
      exact bL
     have H:=oA H g25
     refine cX H fun z26 H=>(gL H fun y27 h28 H=>(dW (dI [9] aE (dI [65] gP (dI [66] aE (dI (hg:=a5 g25) [5] aE (dI (hg:=a5 g25) [9] aE (dI (hg:=a5 g25) [68,69] (rIm h28 z26 HQ) (dI (hg:=a5 g25) [70] (nK akA) (dI (hg:=a5 g25) [71] (nK rA) (dI (hg:=a5 g25) [72] (jW (aA.cs y27.gGoal.gType) bZ) (dI (hg:=a5 g25) [4] aE (dI (hg:=a5 g25) [6] aE ?_)))))))))))))
     refine dI (hg:=a5 g25) [74,75] (gV h14n mR) (dI (hg:=a5 g25) [76] (nK rA) (dI (hg:=a5 g25) [77] (jW (aA.cs ((aW x6 i12).gType)) bZ) (dI (hg:=a5 g25) [73,78] (bG Tryz.func16 (lY y27.gGoal.gType ((aW x6 i12).gType))) (dI (hg:=a5 g25) [79] gW (dI [67,80] (b6 g25) (dN ?_))))))
     refine bA H (fun h29 H=>?_) (fun h29 H=>?_)
     ·refine qS (qR (q1 aE (qN (aQ.ret ?_))))
      obtain rfl:_=r:=(p8 (CY (p8 (aZ H))):)
      exact bL
     refine aQ.skip (qR (q1 aE (q1 (aX.addI rfl rfl rfl rfl (c:=((i20+1:Nat):Int)) (by omega) (by omega)) (q1 aE (qN ?_)))))
     exact iK h22l ⟨_,(aZ H:),b0⟩
    refine aQ.exit ?_;exact j0 ⟨_,H,b0⟩
   rintro⟨⟩ H
   refine qR (q1 aE (q1 (aX.addI rfl rfl rfl rfl (c:=((i12+1:Nat):Int)) (by omega) (by omega)) (q1 aE (qN ?_))))
   exact iK h14l ⟨_,(aZ H:),b0⟩
  refine aQ.exit ?_;exact j0 ⟨_,H,b0⟩
 rintro⟨⟩ H
 refine qS (qR (q1 aE (qN (aQ.ret ?_))))
 cases aZ H
 exact bL
end
end Go.Proofs.YtpioomclpaiomaaGreat.W

namespace Go.Proofs.YtpioomclpaiomaaGreat.W
set_option linter.unusedSimpArgs false
set_option linter.unusedVariables false
open Go.RowKit Go.Proofs
attribute [local irreducible] lt
theorem KB{l:List ByteArray}{s:ByteArray}:AF l s=true↔s∈l:=by
 unfold AF
 rw [List.any_eq_true]
 constructor
 ·rintro⟨x,hx,h⟩
  rw [decide_eq_true_eq] at h
  exact h ▸ hx
 ·exact fun h=>⟨s,h,decide_eq_true rfl⟩
def yE(w:aI):List ByteArray:=w.gPackages.flatMap fun p=>p.gTraits.flatMap fun t=>t.gSupertraits
theorem WM{α β:Type}[Wt α](f:α→List β)(h: ∀x,(f x).length≤wt x): ∀l:List α,(l.flatMap f).length≤wl l
 | []=>Nat.zero_le _
 |x::l=>by
  rw [List.flatMap_cons,List.length_append,ahN]
  have:=h x
  have:=WM f h l
  omega
theorem Z4{w:aI}(hw:wt w≤13000000):(yE w).length≤13000000:=by
 have h:=WM (fun p:aL=>p.gTraits.flatMap fun t=>t.gSupertraits) (fun p=>by
  have h1:=WM (fun t:aT=>t.gSupertraits) (fun t=>by
   have:=aT.wt_eq t
   have:=aY t.gSupertraits
   omega) p.gTraits
  have:=aL.wt_eq p
  omega) w.gPackages
 have:=aI.wt_eq w
 unfold yE
 omega
theorem TF{w:aI}{n s:ByteArray}(h:s∈(xV w n).1.gSupertraits):s∈yE w:=by
 unfold xV at h
 cases hq:(List.range' 0 w.gPackages.length).findSome? (tQ w n) with
 |none=>rw [hq] at h;cases h
 |some r=>
  rw [hq] at h
  obtain⟨i,hi,hq⟩:=List.exists_of_findSome?_eq_some hq
  unfold tQ at hq
  obtain⟨k,hk,hq⟩:=List.exists_of_findSome?_eq_some hq
  rw [List.mem_range'_1] at hi hk
  split at hq
  ·cases hq
   exact List.mem_flatMap.2 ⟨_,iX (by omega:i<w.gPackages.length),List.mem_flatMap.2 ⟨_,iX (by omega:k<(aW w.gPackages i).gTraits.length),h⟩⟩
  ·cases hq
def BK(U:List ByteArray)(v:List ByteArray):Nat:=U.countP fun s=> !AF v s
theorem aaP{U v v':List ByteArray}(h: ∀x∈v,x∈v'):BK U v'≤BK U v:=by
 refine List.countP_mono_left fun x _ hx=>?_
 rw [Bool.not_eq_true',Bool.eq_false_iff,ne_eq,KB] at hx ⊢
 exact fun k=>hx (h x k)
theorem VK{v:List ByteArray}{s:ByteArray}(hn:AF v s=false): ∀ {U:List ByteArray},s∈U→BK U (v++ [s])<BK U v
 |x::U,h=>by
  have hm:=aaP (U:=U) (v:=v) (v':=v++ [s]) fun x hx=>List.mem_append_left _ hx
  unfold BK at hm ⊢
  rw [List.countP_cons,List.countP_cons]
  by_cases hx:x=s
  ·subst hx
   have h1:AF (v++ [x]) x=true:=KB.2 (by simp)
   rw [h1,hn]
   simp only [Bool.not_true,Bool.not_false,if_true]
   simp
   omega
  ·have ih:=VK hn (U:=U) (by
    rcases List.mem_cons.1 h with h|h
    ·exact absurd h.symm hx
    ·exact h)
   unfold BK at ih
   have h1:(if(!AF (v++ [s]) x)=true then 1 else 0)≤(if(!AF v x)=true then 1 else 0:Nat):=by
    cases hq:AF v x with
    |true=>
     have:AF (v++ [s]) x=true:=KB.2 (List.mem_append_left _ (KB.1 hq))
     rw [this]
     exact Nat.le_refl _
    |false=>cases AF (v++ [s]) x<;>simp
   omega
def U1(w:aI):Nat→List ByteArray→ByteArray→List ByteArray
 |0,out,_=>out
 |n+1,out,name=>(xV w name).1.gSupertraits.foldl (fun v s=>if AF v s=true then v else U1 w n (v++ [s]) s) out
def SOk(w:aI)(m:Nat)(v:List ByteArray):Prop:=v.length+BK (yE w) v≤13000000∧BK (yE w) v≤m
theorem VC{σ α:Type}(P:σ→Prop){g:σ→α→σ}: ∀ {l:List α} {v:σ},(∀v x,x∈l→P v→P (g v x))→P v→P (l.foldl g v)
 | [],v,_,h=>h
 |x::l,v,hs,h=>VC P (l:=l) (fun v y hy=>hs v y (List.mem_cons_of_mem _ hy)) (hs v x (by simp) h)
theorem R9{w:aI}{m:Nat}{v:List ByteArray}{s:ByteArray}(h:SOk w m v)(hs:s∈yE w)(hn:AF v s=false):SOk w (m-1) (v++ [s])∧0<m∧v.length<13000000:=by
 have h1:=VK hn hs
 obtain⟨h2,h3⟩:=h
 refine⟨⟨?_,by omega⟩,by omega,by omega⟩
 rw [List.length_append,List.length_singleton]
 omega
theorem SOk.le{w:aI}{m k:Nat}{v:List ByteArray}(h:SOk w m v)(hk:m≤k):SOk w k v:=⟨h.1,Nat.le_trans h.2 hk⟩
theorem P9{w:aI}: ∀n m out name,SOk w m out→SOk w m (U1 w n out name)
 |0,m,out,name,h=>h
 |n+1,m,out,name,h=>by
  rw [U1]
  refine VC (SOk w m) (fun v s hs hv=>?_) h
  split
  ·exact hv
  ·rename_i hn
   exact(P9 n (m-1) _ s (R9 hv (TF hs) (by simpa using hn)).1).le (by omega)
theorem ahA{w:aI}: ∀n m out name,SOk w m out→13000001+m<n→gO n w out name=some (U1 w n out name)
 |0,m,out,name,_,h=>by omega
 |n+1,m,out,name,h,hn=>by
  rw [gO,U1]
  unfold xD CF
  rw [VH]
  show so (loopN (u9 n (gO n) w out name (xV w name).1 (xV w name).2.1 (xV w name).2.2) ((xV w name).1.gSupertraits.length-0) 0 out) _=_
  rw [yK (l:=(xV w name).1.gSupertraits) (g:=fun v s=>if AF v s=true then v else U1 w n (v++ [s]) s) (fun _ v=>SOk w m v) (fun i v hi hv=>by
   unfold u9
   have hs:=TF (iX hi)
   generalize aW (xV w name).1.gSupertraits i=s at hs ⊢
   rw [WX]
   show sw (!AF v s) _ _=_∧_
   cases hq:AF v s with
   |true=>exact⟨rfl,hv⟩
   |false=>
    obtain⟨k1,k2,k3⟩:=R9 hv hs hq
    exact⟨qX (by simp only [List.length_singleton];omega) (zR (ahA n (m-1) _ s k1 (by omega)) rfl),(P9 n (m-1) _ s k1).le (by omega)⟩) h]
  rfl
theorem ahJ{w:aI}(hw:wt w≤13000000): ∀n m out name,SOk w m out→13000001+m<n→jD n w name out=some (U1 w n out name)
 |0,m,out,name,_,h=>by omega
 |n+1,m,out,name,h,hn=>by
  rw [jD,U1]
  unfold B3 G3
  rw [D0 n w name (aI.small_wt hw (by omega))]
  show so (loopN (zM n (jD n) w name out (xV w name).1 (xV w name).2.1 (xV w name).2.2) ((xV w name).1.gSupertraits.length-0) 0 out) _=_
  rw [yK (l:=(xV w name).1.gSupertraits) (g:=fun v s=>if AF v s=true then v else U1 w n (v++ [s]) s) (fun _ v=>SOk w m v) (fun i v hi hv=>by
   unfold zM
   have hs:=TF (iX hi)
   generalize aW (xV w name).1.gSupertraits i=s at hs ⊢
   rw [ajC]
   show sw (!AF v s) _ _=_∧_
   cases hq:AF v s with
   |true=>exact⟨rfl,hv⟩
   |false=>
    obtain⟨k1,k2,k3⟩:=R9 hv hs hq
    exact⟨qX (by simp only [List.length_singleton];omega) (zR (ahJ hw n (m-1) _ s k1 (by omega)) rfl),(P9 n (m-1) _ s k1).le (by omega)⟩) h]
  rfl
def t7(fu:Nat)(w:aI)(name:ByteArray):List ByteArray:=U1 w fu [] name
theorem XJ{w:aI}(hw:wt w≤13000000):SOk w 13000000 []:=by
 have h:=Z4 hw
 have h1:BK (yE w) []≤(yE w).length:=List.countP_le_length
 refine⟨?_,?_⟩
 ·rw [List.length_nil];omega
 ·omega
theorem aeC{fu:Nat}{w:aI}(hw:wt w≤13000000)(hf:27000000≤fu)(name:ByteArray):oF fu w name=some (t7 fu w name):=by
 unfold oF t7
 rw [ahA fu 13000000 [] name (XJ hw) (by omega)]
 rfl
theorem RO{fu:Nat}{w:aI}(hw:wt w≤13000000)(hf:27000000≤fu)(name:ByteArray):lI fu w name=some (t7 fu w name):=by
 unfold lI t7
 rw [ahJ hw fu 13000000 [] name (XJ hw) (by omega)]
 rfl
theorem TE{fu:Nat}{w:aI}(hw:wt w≤13000000)(name:ByteArray):(t7 fu w name).length≤13000000:=by
 have h:=(P9 fu 13000000 [] name (XJ hw)).1
 unfold t7
 omega
def K9(w:aI)(a:ByteArray)(f:ByteArray→List Int×Bool)(i:Nat):Option (List Int×Bool):=if(f (aW (xV w a).1.gSupertraits i)).2=true then some ([((i:Nat):Int)]++(f (aW (xV w a).1.gSupertraits i)).1,true) else none
def mJ(w:aI):Nat→ByteArray→ByteArray→List Int×Bool
 |0,a,b=>if a=b then([],true) else([],false)
 |k+1,a,b=>if a=b then([],true) else((List.range' 0 (xV w a).1.gSupertraits.length).findSome? (K9 w a fun s=>mJ w k s b)).getD ([],false)
theorem MJ(w:aI): ∀k a b,(mJ w k a b).1.length≤k
 |0,a,b=>by rw [mJ];split<;>exact Nat.le_refl _
 |k+1,a,b=>by
  rw [mJ]
  split
  ·exact Nat.zero_le _
  ·cases h:(List.range' 0 (xV w a).1.gSupertraits.length).findSome? (K9 w a fun s=>mJ w k s b) with
   |none=>exact Nat.zero_le _
   |some r=>
    obtain⟨i,hi,h⟩:=List.exists_of_findSome?_eq_some h
    unfold K9 at h
    split at h
    ·cases h
     have:=MJ w k (aW (xV w a).1.gSupertraits i) b
     show([((i:Nat):Int)]++(mJ w k (aW (xV w a).1.gSupertraits i) b).1).length≤_
     rw [List.length_append,List.length_singleton]
     omega
    ·cases h
theorem aaG{w:aI}: ∀k n a b,k≤8→k<n→kY n w a b ((k:Nat):Int)=some (mJ w k a b)
 |k,0,a,b,_,h=>by omega
 |0,n+1,a,b,hk,hn=>by
  rw [kY,mJ]
  unfold EU
  by_cases h:a=b
  ·rw [if_pos h];exact uG (decide_eq_true h) rfl
  ·rw [if_neg h];exact oO (decide_eq_false h) (uG rfl rfl)
 |k+1,n+1,a,b,hk,hn=>by
  rw [kY,mJ]
  unfold EU
  by_cases h:a=b
  ·rw [if_pos h];exact uG (decide_eq_true h) rfl
  ·rw [if_neg h]
   refine oO (decide_eq_false h) (oO (decide_eq_false (by omega)) ?_)
   rw [VH]
   have hl:=tL (f:=HV n (kY n) w a b ((k+1:Nat):Int) (xV w a).1 (xV w a).2.1 (xV w a).2.2) (q:=K9 w a fun s=>mJ w k s b) (fun r=>r) (s:=()) (n:=(xV w a).1.gSupertraits.length) (fun i hi=>by
    unfold HV K9
    generalize aW (xV w a).1.gSupertraits i=s
    have h1:=MJ w k s b
    rw [show aR (((k+1:Nat):Int)-1)=((k:Nat):Int) from by rw [QB (by omega) (by omega)];omega,aaG k n s b (by omega) (by omega)]
    show sw (mJ w k s b).2 _ _=_
    cases h2:(mJ w k s b).2 with
    |true=>exact qX (by simp only [List.length_singleton];omega) (by rw [if_pos rfl])
    |false=>rw [if_neg (by simp)];rfl) _ 0 rfl
   show so (HW n (kY n) w a b ((k+1:Nat):Int) (xV w a).1 (xV w a).2.1 (xV w a).2.2) _=_
   unfold HW
   refine(congrArg (fun x=>so x _) hl).trans ?_
   simp only [Nat.sub_zero]
   cases(List.range' 0 (xV w a).1.gSupertraits.length).findSome? (K9 w a fun s=>mJ w k s b)<;>rfl
theorem akF(fu:Nat)(hf:100≤fu)(w:aI)(a b:ByteArray):oH fu w a b=some (mJ w 8 a b):=by
 unfold oH
 rw [show(8:Int)=((8:Nat):Int) from rfl,aaG 8 fu a b (by omega) (by omega)]
 rfl
theorem aa3{w:aI}(hw:wt w≤13000000): ∀k n a b,k≤8→13000001+k<n→gZ n w a b ((k:Nat):Int)=some (mJ w k a b)
 |k,0,a,b,_,h=>by omega
 |0,n+1,a,b,hk,hn=>by
  rw [gZ,mJ]
  unfold yV
  by_cases h:a=b
  ·rw [if_pos h];exact uG (decide_eq_true h) rfl
  ·rw [if_neg h]
   refine oO (decide_eq_false h) ?_
   rw [D0 n w a (aI.small_wt hw (by omega))]
   show so (s6 n (gZ n) w a b ((0:Nat):Int) (xV w a).1 (xV w a).2.1 (xV w a).2.2) _=_
   unfold s6
   cases hz:(xV w a).1.gSupertraits.length-0 with
   |zero=>rw [loopN];rfl
   |succ m=>
    rw [loopN]
    unfold wN
    rfl
 |k+1,n+1,a,b,hk,hn=>by
  rw [gZ,mJ]
  unfold yV
  by_cases h:a=b
  ·rw [if_pos h];exact uG (decide_eq_true h) rfl
  ·rw [if_neg h]
   refine oO (decide_eq_false h) ?_
   rw [D0 n w a (aI.small_wt hw (by omega))]
   have hl:=tL (f:=wN n (gZ n) w a b ((k+1:Nat):Int) (xV w a).1 (xV w a).2.1 (xV w a).2.2) (q:=K9 w a fun s=>mJ w k s b) (fun r=>r) (s:=()) (n:=(xV w a).1.gSupertraits.length) (fun i hi=>by
    unfold wN K9
    generalize aW (xV w a).1.gSupertraits i=s
    have h1:=MJ w k s b
    refine uG (decide_eq_true (by omega)) ?_
    rw [show aR (((k+1:Nat):Int)-1)=((k:Nat):Int) from by rw [QB (by omega) (by omega)];omega,aa3 hw k n s b (by omega) (by omega)]
    show sw (mJ w k s b).2 _ _=_
    cases h2:(mJ w k s b).2 with
    |true=>exact qX (by simp only [List.length_singleton];omega) (by rw [if_pos rfl])
    |false=>rw [if_neg (by simp)];rfl) _ 0 rfl
   show so (s6 n (gZ n) w a b ((k+1:Nat):Int) (xV w a).1 (xV w a).2.1 (xV w a).2.2) _=_
   unfold s6
   refine(congrArg (fun x=>so x _) hl).trans ?_
   simp only [Nat.sub_zero]
   cases(List.range' 0 (xV w a).1.gSupertraits.length).findSome? (K9 w a fun s=>mJ w k s b)<;>rfl
theorem ak0{fu:Nat}{w:aI}(hw:wt w≤13000000)(hf:27000000≤fu)(a b:ByteArray):oM fu w a b=some (mJ w 8 a b):=by
 unfold oM
 rw [show(8:Int)=((8:Nat):Int) from rfl,aa3 hw 8 fu a b (by omega) (by omega)]
 rfl
end Go.Proofs.YtpioomclpaiomaaGreat.W

namespace Go.Proofs.YtpioomclpaiomaaGreat.W
set_option linter.unusedSimpArgs false
set_option linter.unusedVariables false
open Go.RowKit Go.Proofs
attribute [local irreducible] lt
theorem aF.eq_iff: ∀a b:aF,aF.eq a b=true↔a=b
 | .mk n x,.mk m y=>by
  rw [aF.eq,Bool.and_eq_true,LS,decide_eq_true_eq,aA.eq_iff]
  constructor
  ·rintro⟨rfl,rfl⟩;rfl
  ·intro h;cases h;exact⟨rfl,rfl⟩
theorem aF.eq_self(a:aF):aF.eq a a=true:=(aF.eq_iff a a).2 rfl
def yF(fu:Nat)(w:aI)(i:Nat)(b:aF):List aJ:=
 [aJ.mk (aF.mk b.gTrait b.gType) ((i:Nat):Int) []]++(List.range' 0 (t7 fu w b.gTrait).length).map fun k=>aJ.mk (aF.mk (aW (t7 fu w b.gTrait) k) b.gType) ((i:Nat):Int) (mJ w 8 b.gTrait (aW (t7 fu w b.gTrait) k)).1
def Z6(fu:Nat)(w:aI)(l:List aF):List aJ:=(List.range' 0 l.length).flatMap fun i=>yF fu w i (aW l i)
theorem ah7{fu:Nat}{w:aI}(hw:wt w≤13000000)(i:Nat)(b:aF):(yF fu w i b).length≤13000001:=by
 have h:=TE (fu:=fu) hw b.gTrait
 unfold yF
 rw [List.length_append,List.length_singleton,List.length_map,List.length_range']
 omega
theorem aaB{α:Type}{f:Nat→List α}{M:Nat}(h: ∀i,(f i).length≤M): ∀k j,((List.range' j k).flatMap f).length≤M*k
 |0,j=>by simp
 |k+1,j=>by
  rw [List.range'_succ,List.flatMap_cons,List.length_append,Nat.mul_succ]
  have:=h j
  have:=aaB h k (j+1)
  omega
theorem Z7{fu:Nat}{w:aI}(hw:wt w≤13000000){l:List aF}(hl:l.length≤1000):(Z6 fu w l).length≤13000001*1000:=by
 have h:=aaB (f:=fun i=>yF fu w i (aW l i)) (M:=13000001) (fun i=>ah7 hw i _) l.length 0
 unfold Z6
 exact Nat.le_trans h (Nat.mul_le_mul_left _ hl)
section
variable {fu:Nat} {w:aI} (hw:wt w≤13000000) (hf:27000000≤fu) {l:List aF} (hl:l.length≤1000) (hb: ∀b∈l,Tr.bulkL (aA.tr b.gType)≤68719476735)
include hw hf hl hb
theorem al7:o3 fu w l=some (Z6 fu w l):=by
 have h:=IF (F:=u7 fu w l) (g:=fun i=>yF fu w i (aW l i)) (n:=l.length) (M:=68719476736) (fun i v hi hv=>by
  have hB:=hb _ (iX hi)
  have hs:=TE (fu:=fu) hw (aW l i).gTrait
  have h2:=MI (F:=qY fu w l i v (t7 fu w (aW l i).gTrait)) (g:=fun k=>aJ.mk (aF.mk (aW (t7 fu w (aW l i).gTrait) k) (aW l i).gType) ((i:Nat):Int) (mJ w 8 (aW l i).gTrait (aW (t7 fu w (aW l i).gTrait) k)).1) (n:=(t7 fu w (aW l i).gTrait).length) (M:=68719476736) (fun k u hk hu=>by
   unfold qY
   rw [akF fu (by omega)]
   exact qX hu rfl) _ 0 (v++ [aJ.mk (aF.mk (aW l i).gTrait (aW l i).gType) ((i:Nat):Int) []]) rfl (by
   unfold yF at hv
   rw [List.length_append,List.length_singleton,List.length_map,List.length_range'] at hv
   rw [List.length_append,List.length_singleton]
   omega)
  unfold u7 CE
  refine qX hB (qX (by
   unfold yF at hv
   rw [List.length_append,List.length_singleton] at hv
   rw [List.length_singleton]
   omega) ?_)
  rw [aeC hw hf]
  show so (loopN (qY fu w l i v (t7 fu w (aW l i).gTrait)) ((t7 fu w (aW l i).gTrait).length-0) 0 _) _=_
  rw [h2]
  unfold yF
  rw [List.append_assoc]
  rfl) _ 0 [] rfl (by
  have:=Z7 (fu:=fu) hw hl
  unfold Z6 at this
  rw [List.length_nil,Nat.zero_add,Nat.sub_zero]
  omega)
 unfold o3 CD
 rw [h]
 rfl
theorem amH:pE fu w l=some (Z6 fu w l):=by
 have h:=IF (F:=vH fu w l) (g:=fun i=>yF fu w i (aW l i)) (n:=l.length) (M:=68719476736) (fun i v hi hv=>by
  have hB:=hb _ (iX hi)
  have hs:=TE (fu:=fu) hw (aW l i).gTrait
  have h2:=MI (F:=q7 fu w l i v (t7 fu w (aW l i).gTrait)) (g:=fun k=>aJ.mk (aF.mk (aW (t7 fu w (aW l i).gTrait) k) (aW l i).gType) ((i:Nat):Int) (mJ w 8 (aW l i).gTrait (aW (t7 fu w (aW l i).gTrait) k)).1) (n:=(t7 fu w (aW l i).gTrait).length) (M:=68719476736) (fun k u hk hu=>by
   unfold q7
   rw [ak0 hw hf]
   exact qX hu rfl) _ 0 (v++ [aJ.mk (aF.mk (aW l i).gTrait (aW l i).gType) ((i:Nat):Int) []]) rfl (by
   unfold yF at hv
   rw [List.length_append,List.length_singleton,List.length_map,List.length_range'] at hv
   rw [List.length_append,List.length_singleton]
   omega)
  unfold vH CK
  refine qX hB (qX (by
   unfold yF at hv
   rw [List.length_append,List.length_singleton] at hv
   rw [List.length_singleton]
   omega) ?_)
  rw [RO hw hf]
  show so (loopN (q7 fu w l i v (t7 fu w (aW l i).gTrait)) ((t7 fu w (aW l i).gTrait).length-0) 0 _) _=_
  rw [h2]
  unfold yF
  rw [List.append_assoc]
  rfl) _ 0 [] rfl (by
  have:=Z7 (fu:=fu) hw hl
  unfold Z6 at this
  rw [List.length_nil,Nat.zero_add,Nat.sub_zero]
  omega)
 unfold pE CJ
 rw [h]
 rfl
end
def al0(l:List aJ)(g:aF):Int:=match l.findIdx? (fun a=>aF.eq a.gGoal g) with
 |some i=>((i:Nat):Int)
 |none=> -1
theorem aeE(fu:Nat)(a b:aF):wE fu a b=some (aF.eq a b):=by
 obtain⟨n,x⟩:=a
 obtain⟨m,y⟩:=b
 unfold wE
 rw [aF.eq,LS]
 show sw (decide (n=m)) (some (aA.eq x y)) (some false)=_
 cases decide (n=m)<;>rfl
theorem VE(fu:Nat)(l:List aJ)(g:aF):lF fu l g=some (al0 l g):=by
 unfold lF e6 hP al0
 rw [N3 (p:=fun a=>aF.eq a.gGoal g) (fun i hi=>by
  unfold hO qE
  refine ltE rfl ?_
  rw [aeE]
  show sw (aF.eq (aW l i).gGoal g) _ _=_
  cases aF.eq (aW l i).gGoal g<;>rfl)]
 cases l.findIdx? fun a=>aF.eq a.gGoal g<;>rfl
theorem Z5{l:List aJ}{a:aJ}(h:a∈l): ∃i:Nat,al0 l a.gGoal=(i:Int)∧i<l.length∧(aW l i).gGoal=a.gGoal:=by
 unfold al0
 cases hq:l.findIdx? fun x=>aF.eq x.gGoal a.gGoal with
 |none=>
  rw [List.findIdx?_eq_none_iff] at hq
  have:=hq a h
  rw [aF.eq_self] at this
  cases this
 |some i=>
  rw [List.findIdx?_eq_some_iff_getElem] at hq
  obtain⟨hi,he,-⟩:=hq
  refine⟨i,rfl,hi,?_⟩
  rw [jF hi]
  exact(aF.eq_iff _ _).1 he
end Go.Proofs.YtpioomclpaiomaaGreat.W

namespace Go.Proofs.YtpioomclpaiomaaGreat.W
set_option linter.unusedSimpArgs false
set_option linter.unusedVariables false
set_option maxRecDepth 20000
set_option maxHeartbeats 4000000
open Go.RowKit Go.WalkArith Go.IntWalk
attribute [local irreducible] wt wl lt
def Z1(fu:Nat):Prop:= ∀(pc:DS),Ok (EG fu pc) (fun r=>wl r.1≤900)
theorem aaL:bY Z1:=((bY.ge 2147483648).and dX).imp fun fu ⟨hfu,dX⟩ pc=>by
 refine Ok.lt fun d1 h1=>?_
 have:=DS.below_lt pc (n:=3) (by decide)
 have:=(aV:wl ([]:List aF)=0∧_)
 refine Ok.sok (E:=fun(v6,v5)=>wl v6≤300) ?_ ?_
 ·refine Ok.loop0 (fun i3 (v6,v5)=>wl v6≤100*i3∧i3≤3) (by exact bO) (by rintro i3 ⟨v6,v5⟩-hI;(try dsimp only at hI ⊢);omega) ?_;rintro i3 ⟨v6,v5⟩ hl3 hI4
  dsimp only at hI4
  have:bF.size=4:=rfl
  have:iE.size=3:=rfl
  have:hQ.size=3:=rfl
  have:=CR bF iE hQ
  have:=a7 bF
  have:=a7 iE
  have:=a7 hQ
  refine Ok.lt fun d9 h5=>Ok.lt fun y11 h6=>?_
  have:=congrArg wt h6
  simp only [a7] at this
  have:y11.size≤4:=by rw [h6];exact DS.pick_size _ (by decide) (by decide)
  have:f7.size=1:=rfl
  have:zL.size=1:=rfl
  have:=jT f7 zL
  have:=a7 f7
  have:=a7 zL
  refine Ok.lt fun d13 h7=>Ok.lt fun y15 h8=>?_
  have:=congrArg wt h8
  simp only [a7] at this
  have:y15.size≤1:=by rw [h8];exact DS.pick_size _ (by decide) (by decide)
  refine oB (dX y15) fun x18 h9=>?_
  have:=aY (v6)
  have:=aF.wt_mk y11 x18
  have:=b8 (aF.mk y11 x18)
  refine oG fun z10=>?_
  have:=bV v6 ([(aF.mk y11 x18)]:List aF)
  exact mP
 rintro⟨v6,v5⟩ h2
 dsimp only at h2
 exact oS
end Go.Proofs.YtpioomclpaiomaaGreat.W

namespace Go.Proofs.YtpioomclpaiomaaGreat.W
set_option linter.unusedSimpArgs false
set_option linter.unusedVariables false
open Go.RowKit Go.Proofs
attribute [local irreducible] lt wl
theorem al5{l:List aF}(h:wl l≤100000): ∀b∈l,Tr.bulkL (aA.tr b.gType)≤68719476735:=fun b hb=>by
 have h1:=agW hb
 have h2:=aF.wt_eq b
 have h3:wt b.gType≤68719476735:=by omega
 exact h3
theorem aiB(code:List UInt8): ∃fu,H9 fu code=some true:=by
 obtain⟨fu,⟨hfu,kW⟩,kH⟩:=(((bY.ge 2147483648).and NX).and aaL).get
 refine⟨fu,?_⟩
 unfold H9 RB
 by_cases hb:code.length≤1048576
 ·refine oO (decide_eq_false (by omega)) ?_
  obtain⟨⟨w,d⟩,hr,hw⟩:=kW (DS.start code)
  replace hw:wt w≤13000000:=hw
  obtain⟨⟨l,d2⟩,hl,hl2⟩:=kH d
  replace hl2:wl l≤900:=hl2
  have hn:=aY l
  have hB:=al5 (l:=l) (by omega)
  have hd:m5 fu code=some (w,l):=by
   unfold m5
   exact qX hb (zR hr (zR hl rfl))
  rw [hd]
  show bd (o3 fu w l) _=_
  rw [al7 hw (by omega) (by omega) hB]
  show bd (pE fu w l) _=_
  rw [amH hw (by omega) (by omega) hB]
  refine oO (by simp) ?_
  unfold N0
  refine(congrArg (fun x=>so x fun _=>some true) (xG (n:=l.length) (s:=()) (fun i hi=>?_) _ 0 rfl)).trans rfl
  unfold NY
  rw [VE]
  have m0:aJ.mk (aF.mk (aW l i).gTrait (aW l i).gType) ((i:Nat):Int) []∈Z6 fu w l:=List.mem_flatMap.2 ⟨i,by rw [List.mem_range'_1];omega,by unfold yF;simp⟩
  obtain⟨k,hk,hk2,-⟩:=Z5 m0
  have e0:(aJ.mk (aF.mk (aW l i).gTrait (aW l i).gType) ((i:Nat):Int) []).gGoal=aW l i:=by
   cases aW l i
   rfl
  rw [e0] at hk
  refine zR rfl ?_
  rw [hk]
  refine oO (decide_eq_false (by omega)) (zR (RO hw (by omega) _) ?_)
  unfold N1
  refine(congrArg (fun x=>so x _) (xG (n:=(t7 fu w (aW l i).gTrait).length) (s:=()) (fun j hj=>?_) _ 0 rfl)).trans rfl
  unfold NZ
  have m1:aJ.mk (aF.mk (aW (t7 fu w (aW l i).gTrait) j) (aW l i).gType) ((i:Nat):Int) (mJ w 8 (aW l i).gTrait (aW (t7 fu w (aW l i).gTrait) j)).1∈Z6 fu w l:=List.mem_flatMap.2 ⟨i,by rw [List.mem_range'_1];omega,by unfold yF;exact List.mem_append_right _ (List.mem_map.2 ⟨j,by rw [List.mem_range'_1];omega,rfl⟩)⟩
  obtain⟨q,hq,hq2,hq3⟩:=Z5 m1
  have e1:(aJ.mk (aF.mk (aW (t7 fu w (aW l i).gTrait) j) (aW l i).gType) ((i:Nat):Int) (mJ w 8 (aW l i).gTrait (aW (t7 fu w (aW l i).gTrait) j)).1).gGoal=aF.mk (aW (t7 fu w (aW l i).gTrait) j) (aW l i).gType:=rfl
  rw [e1] at hq hq3
  rw [VE]
  refine zR rfl ?_
  rw [hq]
  refine oO (decide_eq_false (by omega)) (qX (by rw [Int.toNat_natCast];omega) (ltE rfl (oO ?_ rfl)))
  rw [Int.toNat_natCast,hq3]
  show(!(aA.eq (aW l i).gType (aW l i).gType))=false
  rw [aA.eq_self]
  rfl
 ·exact uG (decide_eq_true (by omega)) rfl
theorem aj9(code:List UInt8):b4 Tryz.prog 3 [rU code] (pB true):=let⟨fu,h⟩:=aiB code;aaN fu code true h
end Go.Proofs.YtpioomclpaiomaaGreat.W
