/- Words, rules and walks of several kinds, laid together: OkF1, WCopy, WLOrphan. No conditions but those that each theorem states. -/
import Derived.Test.YtpioomclpaiomaaGreatQh0a5f628b
import Derived.Test.YtpioomclpaiomaaGreatQh51a665e6
import Derived.Test.YtpioomclpaiomaaGreatQh484d5f53
import Derived.Test.YtpioomclpaiomaaGreatQh5e29f3dd
import Derived.Test.YtpioomclpaiomaaGreatQh23a14147
import Derived.Test.YtpioomclpaiomaaGreatQhe62b1444
set_option linter.unusedSimpArgs false
set_option linter.unusedVariables false
namespace Go.Proofs.YtpioomclpaiomaaGreat.W
set_option linter.unusedSimpArgs false
set_option linter.unusedVariables false
set_option maxRecDepth 20000
set_option maxHeartbeats 4000000
open Go.RowKit Go.WalkArith Go.IntWalk
attribute [local irreducible] wt wl
def aaQ(fu:Nat):Prop:= ∀(pa0:aG),wt pa0≤268435456→Ok (jQ fu pa0) (fun r=>wt r≤wt pa0)
def ET(n:Nat)(m:l9):Prop:= ∀(pa0:aG),wt pa0<n→wt pa0≤268435456→Ok (m pa0) (fun r=>wt r≤wt pa0)
theorem UO{n fu:Nat}(hfu:2147483648≤fu)(lV:JZ fu){r_sl11Copy:l9}(h_sl11Copy:ET n r_sl11Copy):ET (n+1) (FF fu r_sl11Copy):=by
 intro pa0 hm hpre
 have:=aG.wt_eq pa0
 have:=aB.wt_eq pa0.gType
 refine oB (lV pa0.gType.gArgs bM) fun x2 h1=>?_
 have:=(aU:wl ([]:List aG)=0∧_)
 refine DJ pa0.gArgs 1 (fun i3 v5 hl3 hI4 _ _=>?_) ?_
 ·have:=aV pa0.gArgs
  have:=cE pa0.gArgs i3 hl3
  refine Ok.lt fun y8 h5=>?_
  have:=congrArg wt h5
  refine oB (h_sl11Copy y8 bM bM) fun x11 h6=>?_
  have:=aV (v5)
  have:=b5 x11
  refine oG fun z7=>?_
  have:=bU v5 ([x11]:List aG)
  exact lU
 intro v5 h2
 have:=(aU:wl ([]:List bC)=0∧_)
 refine DJ pa0.gArms 1 (fun i13 v15 hl9 hI10 _ _=>?_) ?_
 ·have:=aV pa0.gArms
  have:=cE pa0.gArms i13 hl9
  refine Ok.lt fun y18 h11=>?_
  have:=congrArg wt h11
  have:=(aU:wl ([]:List ByteArray)=0∧_)
  have:=bC.wt_eq y18
  have:=aV (y18.gVars)
  refine oG fun z12=>oB (h_sl11Copy y18.gBody bM bM) fun x22 h13=>?_
  have:=aV (v15)
  have:=bU ([]:List ByteArray) y18.gVars
  have:=bC.wt_mk y18.gConstructor (([])++y18.gVars) x22
  have:=b5 (bC.mk y18.gConstructor (([])++y18.gVars) x22)
  refine oG fun z14=>?_
  have:=bU v15 ([(bC.mk y18.gConstructor (([])++y18.gVars) x22)]:List bC)
  exact lU
 intro v15 h8
 have:=aB.wt_mk pa0.gType.gKind pa0.gType.gName x2
 have:=aG.wt_mk pa0.gKind pa0.gTrait pa0.gName pa0.gN (aB.mk pa0.gType.gKind pa0.gType.gName x2) v5 v15
 exact oS
theorem YX(n:Nat):b6 fun fu=>ET n (jQ fu):=by
 induction n with
 |zero=>exact .all fun fu=>fun _ h=>absurd h (Nat.not_lt_zero _)
 |succ n ih=>exact b6.succ ((ih.and ((b6.ge 2147483648).and lV)).imp fun fu ⟨h,⟨hfu,lV⟩⟩=>fun pa0=>by rw [jQ];exact UO hfu lV h pa0)
theorem sF:b6 aaQ:=(YX 8589934592).imp fun fu h pa0 hpre=>h pa0 bM hpre
def TO(fu:Nat):Prop:= ∀(plist:List aJ),wl plist≤268435456→Ok (zB fu plist) (fun r=>wl r≤wl plist)
theorem xZ:b6 TO:=((b6.ge 2147483648).and jN).imp fun fu ⟨hfu,jN⟩ plist hpre=>by
 have:=(aU:wl ([]:List aJ)=0∧_)
 refine DJ plist 1 (fun i1 v3 hl2 hI3 _ _=>?_) ?_
 ·have:=aV plist
  have:=cE plist i1 hl2
  have:=aJ.wt_eq (a5 plist i1)
  refine oB (jN ((a5 plist i1).gType) bM) fun x7 h4=>?_
  have:=aV (v3)
  have:=aJ.wt_mk ((a5 plist i1).gTrait) x7
  have:=b5 (aJ.mk ((a5 plist i1).gTrait) x7)
  refine oG fun z5=>?_
  have:=bU v3 ([(aJ.mk ((a5 plist i1).gTrait) x7)]:List aJ)
  exact lU
 intro v3 h1
 exact oS
def adI(fu:Nat):Prop:= ∀(ps:aD),wt ps≤268435456→Ok (JM fu ps) (fun r=>wt r≤wt ps)
theorem HF:b6 adI:=((((b6.ge 2147483648).and lV).and jN).and sF).imp fun fu ⟨⟨⟨hfu,lV⟩,jN⟩,sF⟩ ps hpre=>by
 have:=aD.wt_eq ps
 refine oB (lV ps.gParams bM) fun x2 h1=>oB (jN ps.gResult bM) fun x4 h2=>?_
 have:=(aU:wl ([]:List ByteArray)=0∧_)
 have:=aV (ps.gVars)
 refine oG fun z3=>oB (sF ps.gBody bM) fun x7 h4=>?_
 have:=bU ([]:List ByteArray) ps.gVars
 have:=aD.wt_mk ps.gName x2 x4 ps.gHasDefault (([])++ps.gVars) x7
 exact oS
def UL(fu:Nat):Prop:= ∀(pt:aP),wt pt≤268435456→Ok (vQ fu pt) (fun r=>wt r≤wt pt)
theorem UD:b6 UL:=((b6.ge 2147483648).and HF).imp fun fu ⟨hfu,HF⟩ pt hpre=>by
 have:=(aU:wl ([]:List aD)=0∧_)
 have:=aP.wt_eq pt
 refine DJ pt.gSignatures 1 (fun i1 v3 hl2 hI3 _ _=>?_) ?_
 ·have:=aV pt.gSignatures
  have:=cE pt.gSignatures i1 hl2
  refine Ok.lt fun y6 h4=>?_
  have:=congrArg wt h4
  refine oB (HF y6 bM) fun x9 h5=>?_
  have:=aV (v3)
  have:=b5 x9
  refine oG fun z6=>?_
  have:=bU v3 ([x9]:List aD)
  exact lU
 intro v3 h1
 have:=(aU:wl ([]:List ByteArray)=0∧_)
 have:=aV (pt.gSupertraits)
 refine oG fun z7=>?_
 have:=bU ([]:List ByteArray) pt.gSupertraits
 have:=aP.wt_mk pt.gName (([])++pt.gSupertraits) pt.gAuto pt.gAssoc v3
 exact oS
def Z1(fu:Nat):Prop:= ∀(px:aH),wt px≤268435456→Ok (r7 fu px) (fun r=>wt r≤wt px)
theorem aaP:b6 Z1:=((((b6.ge 2147483648).and sF).and jN).and xZ).imp fun fu ⟨⟨⟨hfu,sF⟩,jN⟩,xZ⟩ px hpre=>by
 have:=(aU:wl ([]:List aN)=0∧_)
 have:=aH.wt_eq px
 refine DJ px.gMethods 1 (fun i1 v3 hl2 hI3 _ _=>?_) ?_
 ·have:=aV px.gMethods
  have:=cE px.gMethods i1 hl2
  refine Ok.lt fun y6 h4=>?_
  have:=congrArg wt h4
  have:=(aU:wl ([]:List ByteArray)=0∧_)
  have:=aN.wt_eq y6
  have:=aV (y6.gVars)
  refine oG fun z5=>oB (sF y6.gBody bM) fun x10 h6=>?_
  have:=aV (v3)
  have:=bU ([]:List ByteArray) y6.gVars
  have:=aN.wt_mk y6.gName (([])++y6.gVars) x10
  have:=b5 (aN.mk y6.gName (([])++y6.gVars) x10)
  refine oG fun z7=>?_
  have:=bU v3 ([(aN.mk y6.gName (([])++y6.gVars) x10)]:List aN)
  exact lU
 intro v3 h1
 have:=(aU:wl ([]:List ByteArray)=0∧_)
 have:=aV (px.gVars)
 refine oG fun z8=>oB (jN px.gHead bM) fun x14 h9=>oB (xZ px.gWhere bM) fun x16 h10=>oB (jN px.gAssoc bM) fun x18 h11=>?_
 have:=bU ([]:List ByteArray) px.gVars
 have:=aH.wt_mk px.gTrait (([])++px.gVars) x14 x16 px.gDefault px.gHasAssoc x18 v3
 exact oS
end Go.Proofs.YtpioomclpaiomaaGreat.W

namespace Go.Proofs.YtpioomclpaiomaaGreat.W
set_option linter.unusedSimpArgs false
set_option linter.unusedVariables false
open Go.RowKit Go.Proofs
attribute [local irreducible] lt
theorem FK{σ β:Type}{F:Nat→σ→Option (LR σ β)}(I:Nat→σ→Prop){n:Nat}(hs: ∀i v y,i<n→I i v→F i v=some y→ ∃v',y= .next v'∧I (i+1) v'):
 ∀k i v r,n-i=k→i≤n→I i v→loopN F k i v=some r→ ∃v',r= .inr v'∧I n v'
 |0,i,v,r,hk,hi,h0,h=>by
  rw [loopN] at h
  cases h
  obtain rfl:i=n:=by omega
  exact⟨v,rfl,h0⟩
 |k+1,i,v,r,hk,hi,h0,h=>by
  rw [loopN] at h
  cases hf:F i v with
  |none=>rw [hf] at h;cases h
  |some y=>
   rw [hf] at h
   obtain⟨v',rfl,h1⟩:=hs i v y (by omega) h0 hf
   exact FK I hs k (i+1) v' r (by omega) (by omega) h1 h
theorem aa0: ∀fu,(∀t r,fN fu t=some r→r=t)∧(∀l r,eY fu l=some r→r=l)
 |0=>⟨fun t r h=>(by rw [fN] at h;cases h),fun l r h=>(by rw [eY] at h;cases h)⟩
 |fu+1=>by
  have ih:=aa0 fu
  refine⟨fun t r h=>?_,fun l r h=>?_⟩
  ·rw [fN] at h
   unfold CH at h
   obtain⟨x,hx,H⟩:=bdI (fC h)
   obtain rfl:=ih.2 _ _ hx
   obtain rfl:=aY H
   cases t
   rfl
  ·rw [eY] at h
   unfold wA FX at h
   obtain⟨y,hy,H⟩:=f9 (fC h)
   obtain⟨v,rfl,hv⟩:=FK (fun i v=>v=l.take i) (n:=l.length) (fun i v y hi hI hf=>by
    unfold GC at hf
    obtain⟨x,hx,H⟩:=bdI (fC hf)
    have H:=(gdI H).2
    obtain rfl:=aY H
    obtain rfl:=ih.1 _ _ hx
    exact⟨_,rfl,by rw [hI,VD hi]⟩) _ 0 [] y rfl (Nat.zero_le _) rfl hy
   obtain rfl:=aY H
   rw [hv,List.take_length]
theorem acO{fu:Nat}{x r:aH}(h:r7 fu x=some r):r.gTrait=x.gTrait∧r.gHead=x.gHead:=by
 unfold r7 KB at h
 obtain⟨y,hy,H⟩:=f9 (fC h)
 obtain⟨v,rfl,-⟩:=FK (fun _ _=>True) (n:=x.gMethods.length) (fun i v y hi hI hf=>by
  unfold J0 at hf
  obtain⟨z,hz,H⟩:=ltI (fC hf)
  obtain⟨b,hb,H⟩:=bdI (gdI H).2
  exact⟨_,(aY (gdI H).2).symm,trivial⟩) _ 0 [] y rfl (Nat.zero_le _) trivial hy
 obtain⟨a,ha,H⟩:=bdI (gdI H).2
 obtain⟨b,hb,H⟩:=bdI H
 obtain⟨c,hc,H⟩:=bdI H
 obtain rfl:=aY H
 exact⟨rfl,(aa0 fu).1 _ _ ha⟩
end Go.Proofs.YtpioomclpaiomaaGreat.W

namespace Go.Proofs.YtpioomclpaiomaaGreat.W
set_option linter.unusedSimpArgs false
set_option linter.unusedVariables false
open Go.RowKit Go.Proofs
attribute [local irreducible] lt wt wl
theorem GR{α:Type}[Inhabited α](q:α→Bool): ∀(l:List α) (k j:Nat),l.length-j=k→(List.range' j k).flatMap (fun i=>bif q (a5 l i) then [] else [a5 l i])=(l.drop j).filter (fun x=> !q x)
 |l,0,j,hk=>by rw [List.drop_of_length_le (by omega)];simp
 |l,k+1,j,hk=>by
  have hj:j<l.length:=by omega
  rw [List.range'_succ,List.flatMap_cons,GR q l k (j+1) (by omega),XE hj,List.filter_cons]
  cases q (a5 l j)<;>rfl
theorem vD{σ β:Type}{f:Nat→σ→Option (LR σ β)}{s:σ}{n:Nat}(hs: ∀i,i<n→f i s=some (.next s)): ∀k j,n-j=k→loopN f k j s=some (.inr s)
 |0,j,hk=>by rw [loopN]
 |k+1,j,hk=>by
  rw [loopN,hs j (by omega)]
  exact vD hs k (j+1) (by omega)
theorem W2(fu:Nat)(w:aM)(hw:wt w≤13000000)(hf:13000000<fu):l3 fu w=some ((eU w).filter fun o=> !jR w o):=by
 have hl:=NH hw
 have hsm:=aM.small_wt hw hf
 have h1:=aM.len_wt hw
 have h2:=fun i hi=>(aM.len_at hw i hi).2.2
 have hr:=GR (jR w) (eU w) _ 0 rfl
 rw [List.drop_zero] at hr
 have h:=yL (F:=lE fu w (eU w)) (n:=(eU w).length) (g:=fun i=>bif jR w (a5 (eU w) i) then [] else [a5 (eU w) i]) (M:=68719476736) (fun i v hi hv=>by
  unfold lE
  rw [ad7 fu w _ (TM (LF hi)) hsm h1 h2]
  cases hq:jR w (a5 (eU w) i) with
  |true=>show some (LR.next v)=some (LR.next (v++ []));rw [List.append_nil]
  |false=>
   rw [hq] at hv
   exact gdT hv rfl) _ 0 [] rfl (by
  rw [hr,List.length_nil,Nat.zero_add]
  have:=List.length_filter_le (fun o=> !jR w o) (eU w)
  omega)
 unfold l3 tZ
 rw [afW fu w (by omega) hsm h2]
 show so (loopN (lE fu w (eU w)) ((eU w).length-0) 0 []) _=_
 rw [h,hr]
 rfl
theorem afJ(fu:Nat)(l:List aE):q7 fu l l=some true:=by
 unfold q7 DM
 refine XM (by simp) ?_
 rw [vD (f:=wF fu l l) (n:=l.length) (s:=()) (fun i hi=>by
  unfold wF
  exact gdT hi (XM (by simp) rfl)) _ 0 rfl]
 rfl
theorem agY{w:aM}{s:ByteArray}(hw:wt w≤13000000):wt (N4 w s).1≤13000000:=by
 unfold N4
 cases h:(List.range' 0 w.gPackages.length).findSome? (tQ w s) with
 |none=>
  have:=aP.wt_mk s_ [] false false []
  have:=(aU:wl ([]:List aD)=0∧_)
  have:=(aU:wl ([]:List ByteArray)=0∧_)
  have:s_.size=0:=rfl
  show wt (aP.mk s_ [] false false [])≤_
  omega
 |some r=>
  obtain⟨i,hi,hq⟩:=List.exists_of_findSome?_eq_some h
  unfold tQ at hq
  obtain⟨k,hk,hq⟩:=List.exists_of_findSome?_eq_some hq
  rw [List.mem_range'_1] at hi hk
  split at hq
  ·cases hq
   have:=aM.wt_eq w
   have:=cE w.gPackages i (by omega)
   have:=aK.wt_eq (a5 w.gPackages i)
   have:=cE (a5 w.gPackages i).gTraits k (by omega)
   show wt (a5 (a5 w.gPackages i).gTraits k)≤_
   omega
  ·cases hq
theorem aaE(code:List UInt8): ∃fu,AX fu code=some true:=by
 obtain⟨fu,⟨⟨hfu,kW⟩,kI⟩,kT⟩:=(((b6.ge 2147483648).and WI).and aaP|>.and UD).get
 refine⟨fu,?_⟩
 unfold AX ZT
 by_cases hb:code.length≤1048576
 ·refine XM (decide_eq_false (by omega)) ?_
  obtain⟨⟨w,d⟩,hr,hw⟩:=kW (DS.start code)
  replace hw:wt w≤13000000:=hw
  unfold l0
  rw [gdT hb rfl,hr]
  show gd (wt w≤13000000) _=_
  refine gdT hw ?_
  rw [W2 fu w hw (by omega)]
  show bd (q7 fu _ _) _=_
  rw [afJ]
  show so (yC fu code _ w _ true) (fun _=>some true)=some true
  unfold yC
  refine(congrArg (fun o=>so o fun _=>some true) (vD (n:=((eU w).filter fun o=> !jR w o).length) (s:=()) (fun i hi=>?_) _ 0 rfl)).trans rfl
  unfold F7
  refine ltE rfl ?_
  have hm:=LF hi
  generalize a5 ((eU w).filter fun o=> !jR w o) i=o at hm
  obtain⟨hm,ho⟩:=List.mem_filter.1 hm
  have hR:=TM hm
  have ho:jR w o=false:=by simpa using ho
  have hx:wt (fQ w o)≤13000000:=by
   obtain⟨i,k,rfl,hi,hk⟩:=hR
   have:=aM.wt_eq w
   have:=cE w.gPackages i hi
   have:=aK.wt_eq (a5 w.gPackages i)
   have:=cE (a5 w.gPackages i).gInstances k hk
   show wt (a5 (a5 w.gPackages i).gInstances k)≤13000000
   omega
  obtain⟨x,hx,-⟩:=kI (fQ w o) (by omega)
  obtain⟨e1,e2⟩:=acO hx
  unfold wI
  rw [VZ fu w o hR (aM.len_wt hw) (fun i hi=>(aM.len_at hw i hi).2.2)]
  show bd (bd (r7 fu (fQ w o)) _) _=_
  rw [hx]
  show bd (t3 fu w x.gTrait) _=_
  unfold t3
  rw [e1,KA fu w _ (aM.small_wt hw (by omega))]
  obtain⟨t,ht,-⟩:=kT (N4 w (fQ w o).gTrait).1 (Nat.le_trans (agY hw) (by decide))
  show bd (bd (vQ fu (N4 w (fQ w o).gTrait).1) fun t=>some (t,(N4 w (fQ w o).gTrait).2)) _=_
  rw [ht,WR fu w o hR,ho,e2,VQ]
  show sw (N4 w (fQ w o).gTrait).2.2 (sw (decide ((N4 w (fQ w o).gTrait).2.1=o.gPackage)) (some (.ret false)) (sw (decide (hOf w (fQ w o).gHead=o.gPackage)) (some (.ret false)) (some (.next ())))) (sw (decide (hOf w (fQ w o).gHead=o.gPackage)) (some (.ret false)) (some (.next ())))=some (LR.next ())
  unfold jR at ho
  rw [Bool.or_eq_false_iff] at ho
  rw [ho.2]
  cases h1:(N4 w (fQ w o).gTrait).2.2 with
  |true=>
   rw [h1,Bool.true_and] at ho
   rw [ho.1]
   rfl
  |false=>rfl
 ·exact swT (decide_eq_true (by omega)) rfl
theorem acG(code:List UInt8):cH Tryz.prog 5 [rU code] (pB true):=let⟨fu,h⟩:=aaE code;QO fu code true h
end Go.Proofs.YtpioomclpaiomaaGreat.W
