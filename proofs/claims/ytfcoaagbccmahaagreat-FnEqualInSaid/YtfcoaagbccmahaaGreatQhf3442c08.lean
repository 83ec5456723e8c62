/- Words, rules and walks of several kinds, laid together. No conditions but those that each theorem states. -/
import Derived.Test.YtfcoaagbccmahaaGreatQh76bde36f
import Derived.Deep.RegionHeld3
import Derived.Laws.IdiomStrings
import Derived.Lib.SliceRun
set_option linter.unusedSimpArgs false
set_option linter.unusedVariables false
namespace Go.Proofs.YtfcoaagbccmahaaGreat.W
open Go.RowKit Go.WalkArith Go.Proofs
attribute [local irreducible] lt
theorem DA{x:Int}(h0: -1≤x)(h1:x<9223372036854775807):aX x=x:=by
 unfold aX IntKind.wrap
 simp [IntKind.bits,IntKind.signed]
 omega
section
variable {β γ σ:Type}
theorem n4{f:Nat→σ→Option (LR σ β)}{q:Nat→Option γ}(g:γ→β){s:σ}{n:Nat}(hs: ∀i,i<n→f i s=some (match q i with|some r=> .ret (g r)|none=> .next s)):
 ∀k j,n-j=k→loopN f k j s=some (match(List.range' j k).findSome? q with|some r=> .inl (g r)|none=> .inr s)
 |0,j,hk=>by rw [loopN];rfl
 |k+1,j,hk=>by
  rw [loopN,hs j (by omega),List.range'_succ,List.findSome?_cons]
  cases q j with
  |some r=>rfl
  |none=>exact n4 g hs k (j+1) (by omega)
theorem MN{f:Int→Option (LR Int β)}{q:Nat→Option γ}(g:γ→β){n:Nat}(hs: ∀i:Nat,i<n→f (i:Int)=some (match q i with|some r=> .ret (g r)|none=> .next ((i+1:Nat):Int)))(he:f (n:Int)=some (.brk (n:Int))):
 ∀k j fu,n-j=k→j≤n→k<fu→loopW f fu (j:Int)=some (match(List.range' j k).findSome? q with|some r=> .inl (g r)|none=> .inr (n:Int))
 |0,j,fu,hk,hj,hf=>by
  obtain⟨m,rfl⟩: ∃m,fu=m+1:=⟨fu-1,by omega⟩
  obtain rfl:j=n:=by omega
  rw [loopW,he]
  rfl
 |k+1,j,fu,hk,hj,hf=>by
  obtain⟨m,rfl⟩: ∃m,fu=m+1:=⟨fu-1,by omega⟩
  rw [loopW,hs j (by omega),List.range'_succ,List.findSome?_cons]
  cases q j with
  |some r=>rfl
  |none=>exact MN g hs he k (j+1) m (by omega) (by omega) (by omega)
end
def tQ(w:aE)(s:ByteArray)(i:Nat):Option (aU×Int×Bool):=(List.range' 0 (aT w.aB2 i).aCi.length).findSome? fun k=>if(aT (aT w.aB2 i).aCi k).aB3=s then some (aT (aT w.aB2 i).aCi k,(i:Int),true) else none
def dQ(w:aE)(s:ByteArray)(i:Nat):Option (aN×Int×Bool):=(List.range' 0 (aT w.aB2 i).aCb.length).findSome? fun k=>if(aT (aT w.aB2 i).aCb k).aB3=s then some (aT (aT w.aB2 i).aCb k,(i:Int),true) else none
def tM(w:aE)(s:ByteArray):aU×Int×Bool:=((List.range' 0 w.aB2.length).findSome? (tQ w s)).getD (aU.mk s_ [] false false [],0,false)
def KG(w:aE)(s:ByteArray):aN×Int×Bool:=((List.range' 0 w.aB2.length).findSome? (dQ w s)).getD (aN.mk s_ [] [],0,false)
theorem EP(fu:Nat)(w:aE)(s:ByteArray):EO fu w s=some (tM w s):=by
 have h:=n4 (f:=QL fu w s) (q:=tQ w s) (fun r=>r) (s:=()) (n:=w.aB2.length) (fun i hi=>by
  have h2:=n4 (f:=QM fu w s i (aT w.aB2 i)) (q:=fun k=>if(aT (aT w.aB2 i).aCi k).aB3=s then some (aT (aT w.aB2 i).aCi k,(i:Int),true) else none) (fun r=>LR.ret r) (s:=()) (n:=(aT w.aB2 i).aCi.length) (fun k hk=>by
   unfold QM
   by_cases hs:(aT (aT w.aB2 i).aCi k).aB3=s
   ·rw [if_pos hs];exact jI (decide_eq_true hs) rfl
   ·rw [if_neg hs];exact gW (decide_eq_false hs) rfl) _ 0 rfl
  unfold QL
  refine Q0 rfl ?_
  rw [h2]
  unfold tQ
  cases(List.range' 0 (aT w.aB2 i).aCi.length).findSome? _<;>rfl) _ 0 rfl
 unfold EO tM
 rw [h]
 cases(List.range' 0 w.aB2.length).findSome? (tQ w s)<;>rfl
theorem ae8(fu:Nat)(w:aE)(s:ByteArray):UF fu w s=some (KG w s):=by
 have h:=n4 (f:=VO fu w s) (q:=dQ w s) (fun r=>r) (s:=()) (n:=w.aB2.length) (fun i hi=>by
  have h2:=n4 (f:=VP fu w s i (aT w.aB2 i)) (q:=fun k=>if(aT (aT w.aB2 i).aCb k).aB3=s then some (aT (aT w.aB2 i).aCb k,(i:Int),true) else none) (fun r=>LR.ret r) (s:=()) (n:=(aT w.aB2 i).aCb.length) (fun k hk=>by
   unfold VP
   by_cases hs:(aT (aT w.aB2 i).aCb k).aB3=s
   ·rw [if_pos hs];exact jI (decide_eq_true hs) rfl
   ·rw [if_neg hs];exact gW (decide_eq_false hs) rfl) _ 0 rfl
  unfold VO
  refine Q0 rfl ?_
  rw [h2]
  unfold dQ
  cases(List.range' 0 (aT w.aB2 i).aCb.length).findSome? _<;>rfl) _ 0 rfl
 unfold UF KG
 rw [h]
 cases(List.range' 0 w.aB2.length).findSome? (dQ w s)<;>rfl
def aE.small(w:aE)(N:Nat):Prop:= ∀i,i<w.aB2.length→(aT w.aB2 i).aCi.length<N∧(aT w.aB2 i).aCb.length<N∧(aT w.aB2 i).aCe.length<N
theorem CV(fu:Nat)(w:aE)(s:ByteArray)(hw:aE.small w fu):pZ fu w s=some (tM w s):=by
 have h:=n4 (f:=BZ fu w s) (q:=tQ w s) (fun r=>r) (s:=()) (n:=w.aB2.length) (fun i hi=>by
  have h2:=MN (f:=vD fu w s i) (q:=fun k=>if(aT (aT w.aB2 i).aCi k).aB3=s then some (aT (aT w.aB2 i).aCi k,(i:Int),true) else none) (fun r=>LR.ret r) (n:=(aT w.aB2 i).aCi.length) (fun k hk=>by
   unfold vD
   refine Q0 rfl (jI (decide_eq_true (by omega)) (gO (by omega) ?_))
   rw [Int.toNat_natCast]
   by_cases hs:(aT (aT w.aB2 i).aCi k).aB3=s
   ·rw [if_pos hs];exact jI (decide_eq_true hs) rfl
   ·rw [if_neg hs];exact gW (decide_eq_false hs) rfl) (by
   unfold vD
   exact Q0 rfl (gW (decide_eq_false (by omega)) rfl)) _ 0 fu rfl (Nat.zero_le _) (hw i hi).1
  unfold BZ
  refine(congrArg (fun o=>so o _) h2).trans ?_
  unfold tQ
  simp only [Nat.sub_zero]
  cases(List.range' 0 (aT w.aB2 i).aCi.length).findSome? _<;>rfl) _ 0 rfl
 unfold pZ tM
 rw [h]
 cases(List.range' 0 w.aB2.length).findSome? (tQ w s)<;>rfl
theorem WE(fu:Nat)(w:aE)(s:ByteArray)(hw:aE.small w fu):AA fu w s=some (KG w s):=by
 have h:=n4 (f:=DR fu w s) (q:=dQ w s) (fun r=>r) (s:=()) (n:=w.aB2.length) (fun i hi=>by
  have h2:=MN (f:=xE fu w s i) (q:=fun k=>if(aT (aT w.aB2 i).aCb k).aB3=s then some (aT (aT w.aB2 i).aCb k,(i:Int),true) else none) (fun r=>LR.ret r) (n:=(aT w.aB2 i).aCb.length) (fun k hk=>by
   unfold xE
   refine Q0 rfl (jI (decide_eq_true (by omega)) (gO (by omega) ?_))
   rw [Int.toNat_natCast]
   by_cases hs:(aT (aT w.aB2 i).aCb k).aB3=s
   ·rw [if_pos hs];exact jI (decide_eq_true hs) rfl
   ·rw [if_neg hs];exact gW (decide_eq_false hs) rfl) (by
   unfold xE
   exact Q0 rfl (gW (decide_eq_false (by omega)) rfl)) _ 0 fu rfl (Nat.zero_le _) (hw i hi).2.1
  unfold DR
  refine(congrArg (fun o=>so o _) h2).trans ?_
  unfold dQ
  simp only [Nat.sub_zero]
  cases(List.range' 0 (aT w.aB2 i).aCb.length).findSome? _<;>rfl) _ 0 rfl
 unfold AA KG
 rw [h]
 cases(List.range' 0 w.aB2.length).findSome? (dQ w s)<;>rfl
def mO(w:aE)(o:aC):Prop:= ∃i k:Nat,o=aC.mk (i:Int) (k:Int)∧i<w.aB2.length∧k<(aT w.aB2 i).aCe.length
def b6(w:aE)(o:aC):aI:=aT (aT w.aB2 o.aCf.toNat).aCe o.aCt.toNat
theorem IB(fu:Nat)(w:aE)(o:aC)(ho:mO w o):rH fu w o=some (b6 w o,true):=by
 obtain⟨i,k,rfl,hi,hk⟩:=ho
 unfold rH
 refine gW (decide_eq_false (by show ¬((i:Int)<0);omega)) (gW (decide_eq_false (by show ¬((i:Int)≥_);omega)) (gW (decide_eq_false (by show ¬((k:Int)<0);omega)) (gO (by show 0≤(i:Int)∧(i:Int).toNat<_;omega) (Q0 rfl (gW (decide_eq_false (by show ¬((k:Int)≥((aT w.aB2 i).aCe.length:Int));omega)) (gO (by show 0≤(k:Int)∧(k:Int).toNat<(aT w.aB2 i).aCe.length;omega) (Q0 rfl rfl)))))))
theorem aoG(fu:Nat)(w:aE)(o:aC)(ho:mO w o)(h1:w.aB2.length≤13000000)(h2: ∀i,i<w.aB2.length→(aT w.aB2 i).aCe.length≤13000000):AB fu w o=some (b6 w o,true):=by
 obtain⟨i,k,rfl,hi,hk⟩:=ho
 have h3:=h2 i hi
 have e1: ∀(x n:Nat),x<n→n≤13000000→sK fu (x:Int) 0 (aX ((n:Int)-1))=some true:=fun x n hx hn=>by
  unfold sK
  rw [DA (by omega) (by omega)]
  exact jI (decide_eq_true (by omega)) (by rw [decide_eq_true (by omega)])
 unfold AB
 rw [show sK fu (aC.mk (i:Int) (k:Int)).aCf 0 (aX ((w.aB2.length:Int)-1))=some true from e1 i _ hi h1]
 refine gO (by show 0≤(i:Int)∧(i:Int).toNat<_;omega) (Q0 rfl ?_)
 rw [show sK fu (aC.mk (i:Int) (k:Int)).aCt 0 (aX (((aT w.aB2 (aC.mk (i:Int) (k:Int)).aCf.toNat).aCe.length:Int)-1))=some true from e1 k _ hk h3]
 exact gO (by show 0≤(k:Int)∧(k:Int).toNat<(aT w.aB2 i).aCe.length;omega) (Q0 rfl rfl)
def Q8(w:aE)(i:Nat):List aC:=(List.range' 0 (aT w.aB2 i).aCe.length).map fun(k:Nat)=>aC.mk (i:Int) (k:Int)
def fE(w:aE):List aC:=(List.range' 0 w.aB2.length).flatMap (Q8 w)
theorem UJ{w:aE}{o:aC}(h:o∈fE w):mO w o:=by
 obtain⟨i,hi,ho⟩:=List.mem_flatMap.1 h
 obtain⟨k,hk,rfl⟩:=List.mem_map.1 ho
 rw [List.mem_range'_1] at hi hk
 exact⟨i,k,rfl,by omega,by omega⟩
section
variable {α β:Type}
theorem ES{F:Nat→List α→Option (LR (List α) β)}{n M:Nat}{g:Nat→α}(hs: ∀j v,j<n→v.length+1≤M→F j v=some (.next (v++ [g j]))):
 ∀k j (v:List α),n-j=k→v.length+k≤M→loopN F k j v=some (.inr (v++(List.range' j k).map g))
 |0,j,v,hk,_=>by rw [loopN];simp
 |k+1,j,v,hk,hl=>by
  rw [loopN,hs j v (by omega) (by omega)]
  have h:=ES hs k (j+1) (v++ [g j]) (by omega) (by rw [List.length_append];simp only [List.length_singleton];omega)
  rw [List.append_assoc] at h
  rw [List.range'_succ,List.map_cons]
  exact h
theorem aaJ{F:List α×Int→Option (LR (List α×Int) β)}{n M:Nat}{g:Nat→α}(hs: ∀(j:Nat) v,j<n→v.length+1≤M→F (v,(j:Int))=some (.next (v++ [g j],((j+1:Nat):Int))))(he: ∀v,F (v,(n:Int))=some (.brk (v,(n:Int)))):
 ∀k j fu (v:List α),n-j=k→j≤n→k<fu→v.length+k≤M→loopW F fu (v,(j:Int))=some (.inr (v++(List.range' j k).map g,(n:Int)))
 |0,j,fu,v,hk,hj,hf,_=>by
  obtain⟨f,rfl⟩: ∃f,fu=f+1:=⟨fu-1,by omega⟩
  obtain rfl:j=n:=by omega
  rw [loopW,he]
  simp
 |k+1,j,fu,v,hk,hj,hf,hl=>by
  obtain⟨f,rfl⟩: ∃f,fu=f+1:=⟨fu-1,by omega⟩
  rw [loopW,hs j v (by omega) (by omega)]
  have h:=aaJ hs he k (j+1) f (v++ [g j]) (by omega) (by omega) (by omega) (by rw [List.length_append];simp only [List.length_singleton];omega)
  rw [List.append_assoc] at h
  rw [List.range'_succ,List.map_cons]
  exact h
theorem wG{F:Nat→List α→Option (LR (List α) β)}{n M:Nat}{g:Nat→List α}(hs: ∀j v,j<n→v.length+(g j).length≤M→F j v=some (.next (v++g j))):
 ∀k j (v:List α),n-j=k→v.length+((List.range' j k).flatMap g).length≤M→loopN F k j v=some (.inr (v++(List.range' j k).flatMap g))
 |0,j,v,hk,_=>by rw [loopN];simp
 |k+1,j,v,hk,hl=>by
  rw [List.range'_succ,List.flatMap_cons,List.length_append] at hl
  rw [loopN,hs j v (by omega) (by omega)]
  have h:=wG hs k (j+1) (v++g j) (by omega) (by rw [List.length_append];omega)
  rw [List.range'_succ,List.flatMap_cons,← List.append_assoc]
  exact h
end
theorem MO(w:aE)(i:Nat):(Q8 w i).length=(aT w.aB2 i).aCe.length:=by
 unfold Q8
 rw [List.length_map,List.length_range']
theorem apF(fu:Nat)(w:aE)(hw:(fE w).length≤68719476736):tG fu w=some (fE w):=by
 have h:=wG (F:=vU fu w) (g:=Q8 w) (n:=w.aB2.length) (M:=68719476736) (fun i v hi hv=>by
  rw [MO] at hv
  have h2:=ES (F:=EI fu w i v (aT w.aB2 i)) (g:=fun(k:Nat)=>aC.mk (i:Int) (k:Int)) (n:=(aT w.aB2 i).aCe.length) (M:=68719476736) (fun k u hk hu=>gO hu rfl) _ 0 v rfl hv
  unfold vU
  refine Q0 rfl ?_
  rw [h2]
  rfl) _ 0 [] rfl (by rw [List.length_nil,Nat.zero_add];exact hw)
 unfold tG
 rw [h]
 rfl
theorem apY(fu:Nat)(w:aE)(hw:(fE w).length≤68719476736)(hf:aE.small w fu)(h2: ∀i,i<w.aB2.length→(aT w.aB2 i).aCe.length≤13000000):tI fu w=some (fE w):=by
 have h:=wG (F:=wM fu w) (g:=Q8 w) (n:=w.aB2.length) (M:=68719476736) (fun i v hi hv=>by
  rw [MO] at hv
  have h3:=h2 i hi
  have h2:=aaJ (F:=sF fu w i v) (g:=fun(k:Nat)=>aC.mk (i:Int) (k:Int)) (n:=(aT w.aB2 i).aCe.length) (M:=68719476736) (fun k u hk hu=>by
   unfold sF
   refine Q0 rfl (jI (decide_eq_true (by omega)) (gO hu ?_))
   rw [DA (by omega) (by omega)]
   rfl) (fun u=>by
   unfold sF
   exact Q0 rfl (gW (decide_eq_false (by omega)) rfl)) _ 0 fu v rfl (Nat.zero_le _) (hf i hi).2.2 hv
  unfold wM
  refine(congrArg (fun o=>so o _) h2).trans ?_
  rfl) _ 0 [] rfl (by rw [List.length_nil,Nat.zero_add];exact hw)
 unfold tI
 rw [h]
 rfl
theorem aE.len_wt{w:aE}(hw:wt w≤13000000):w.aB2.length≤13000000:=by
 have:=aE.wt_eq w
 have:=aZ w.aB2
 omega
theorem aE.len_at{w:aE}(hw:wt w≤13000000)(i:Nat)(hi:i<w.aB2.length):(aT w.aB2 i).aCi.length≤13000000∧(aT w.aB2 i).aCb.length≤13000000∧(aT w.aB2 i).aCe.length≤13000000:=by
 have:=aE.wt_eq w
 have:=cP w.aB2 i hi
 have:=aM.wt_eq (aT w.aB2 i)
 have:=aZ (aT w.aB2 i).aCi
 have:=aZ (aT w.aB2 i).aCb
 have:=aZ (aT w.aB2 i).aCe
 omega
theorem aE.small_wt{w:aE}{fu:Nat}(hw:wt w≤13000000)(hf:13000000<fu):aE.small w fu:=fun i hi=>by
 have:=aE.len_at hw i hi
 omega
theorem akR(w:aE): ∀k j,w.aB2.length-j=k→((List.range' j k).flatMap (Q8 w)).length≤wl (w.aB2.drop j)
 |0,j,hk=>by simp
 |k+1,j,hk=>by
  have h:=akR w k (j+1) (by omega)
  have h1:=aM.wt_eq (aT w.aB2 j)
  have h2:=aZ (aT w.aB2 j).aCe
  rw [List.range'_succ,List.flatMap_cons,List.length_append,MO,oT (by omega),ad4]
  omega
theorem U1{w:aE}(hw:wt w≤13000000):(fE w).length≤13000000:=by
 have h:=akR w _ 0 rfl
 have:=aE.wt_eq w
 rw [List.drop_zero] at h
 unfold fE
 simp only [Nat.sub_zero] at h
 omega
end Go.Proofs.YtfcoaagbccmahaaGreat.W

namespace Go.Proofs.YtfcoaagbccmahaaGreat.W
open Go.RowKit Go.Proofs
theorem NS(x:aA):Tr.bulkL (aA.tr x)=wt x:=rfl
attribute [local irreducible] lt wt wl
theorem OW{α:Type}[Inhabited α](q:α→Bool): ∀(l:List α) (k j:Nat),l.length-j=k→(List.range' j k).flatMap (fun i=>bif q (aT l i) then [] else [aT l i])=(l.drop j).filter (fun x=> !q x)
 |l,0,j,hk=>by rw [List.drop_of_length_le (by omega)];simp
 |l,k+1,j,hk=>by
  have hj:j<l.length:=by omega
  rw [List.range'_succ,List.flatMap_cons,OW q l k (j+1) (by omega),oT hj,List.filter_cons]
  cases q (aT l j)<;>rfl
theorem MM{σ β:Type}{f:Nat→σ→Option (LR σ β)}{s:σ}{n:Nat}(hs: ∀i,i<n→f i s=some (.next s)): ∀k j,n-j=k→loopN f k j s=some (.inr s)
 |0,j,hk=>by rw [loopN]
 |k+1,j,hk=>by
  rw [loopN,hs j (by omega)]
  exact MM hs k (j+1) (by omega)
theorem ab5{w:aE}{o:aC}(hw:wt w≤13000000)(hR:mO w o):wt (b6 w o)≤13000000:=by
 obtain⟨i,k,rfl,hi,hk⟩:=hR
 have:=aE.wt_eq w
 have:=cP w.aB2 i hi
 have:=aM.wt_eq (aT w.aB2 i)
 have:=cP (aT w.aB2 i).aCe k hk
 show wt (aT (aT w.aB2 i).aCe k)≤13000000
 omega
theorem akS{w:aE}{o:aC}(hw:wt w≤13000000)(hR:mO w o):wt (b6 w o).aCh≤13000000:=by
 have:=ab5 hw hR
 have:=aI.wt_eq (b6 w o)
 omega
theorem rZ{w:aE}(hw:wt w≤13000000){o:aC}(ho:mO w o):Tr.bulkL (aA.tr (b6 w o).aCh)≤68719476735:=by rw [NS];exact Nat.le_trans (akS hw ho) (by decide)
end Go.Proofs.YtfcoaagbccmahaaGreat.W

namespace Go.Proofs.YtfcoaagbccmahaaGreat
open Go.RowKit
theorem A1.repM{ok:Nat→Nat→Prop}{w:World}{t:Tr}{v:Value}{S:Nat→Prop}(h:A1 w t v S)(hk: ∀b o,S b→b<w.heap.size→ok b o):cF ok w t v:=by
 induction h with
 |leaf h=>exact .leaf h
 |row c T h1 h2 h3 _ h5 h6 ih=>
  refine .row c h1 h2 (fun hne=>?_) (fun i e he j d hd=>ih i e he j d hd fun b o hb hl=>hk b o (h5 i e he j d hd b hb) hl)
  obtain⟨b,off,E,arr,ha,hb,hs,hc⟩:=h3 hne
  exact⟨b,off,ha,hb.lt,fun i e he j d hd=>⟨hk _ _ hs hb.lt,by rw [hb.cell];exact(hc i e he j d hd).1⟩⟩
theorem bR.ofFresh{P:Program}{f:FuncId}{args:List PV}{t:Tr}(hfr:kJ args=true)(h: ∀w vals,HV w args vals→Calls P f ⟨vals⟩ w fun e w'=> ∃v,e= .returned v∧uM w w'∧A1 w' t v (NJ w w')):bR P f args (.t t):=fun av m w vals hst hv=>by
 refine(h w vals (kJ.rv (fun b o _ _=>ok0 b o) args vals hfr hv)).mono fun e w'=>?_;rintro⟨v,rfl,hx,ho⟩
 refine⟨.t t,⟨[],[]⟩,m,v,rfl,⟨rfl,rfl⟩,fA.nil fun b o hb=>Nat.lt_of_lt_of_le (hst.avlt b o hb) hx.size,?_,?_⟩
 ·exact⟨hx.os,hx.tape,hx.output,hx.size,fun b hb _ _=>hx.block b hb,fun b o hb _=>jJ (hx.block b hb),fun _ _ _ h=>h,fun _ _ h=>by simp at h,fun _ _ h=>by simp at h,fun _ _ h=>by simp at h,fun _ _ _ _ h=>by simp at h⟩
 ·exact ho.repM fun b o hb _=>⟨fun ha=>by have:=hst.avlt b o ha;have:=hb.1;omega,fun _ _ h=>by simp at h,fun _ _ _ _ h=>by simp at h⟩
end Go.Proofs.YtfcoaagbccmahaaGreat

namespace Go.Proofs.YtfcoaagbccmahaaGreat.W
set_option maxRecDepth 100000
set_option maxHeartbeats 40000000
noncomputable section
open Tryz Go.RowKit Go.Proofs
attribute [local irreducible] lt
abbrev nW:=aA→aA→Option Bool
abbrev dJ:=(List aA)→(List aA)→Option Bool
def uT(m:nW):Prop:= ∀(pa:aA) (pb:aA) (r:Bool),m pa pb=some r→bR Tryz.prog 95 [(aA.pv pa),(aA.pv pb)] (pB r:PV)
def hH(m:dJ):Prop:= ∀(p8:List aA) (p9:List aA) (r:Bool),m p8 p9=some r→bR Tryz.prog 144 [aR p8,aR p9,.fn 95 []] (pB r:PV)
def FR(fu:Nat)(p1:nW)(p0:dJ)(pa pb:aA):Option Bool:=sw (decide (pa.aB5=pb.aB5)) (sw (decide (pa.aB3=pb.aB3)) (bd (p0 pa.aB4 pb.aB4) fun x4=>some x4) (some false)) (some false)
theorem TK(fu:Nat)(p1:nW)(p0:dJ)(p5:uT p1)(p4:hH p0):uT (FR fu p1 p0):=by
 intro pa pb r H
 refine qJ func95 H (fun C hC H=>?_)
 refine gQ 2 ?_;refine q1 (eX (bM pa)) (q1 (eX (bM pb)) ?_)
 refine gQ 10 ?_;refine dH 10 H (fun g1 H=>?_) fun g1 H=>?_
 ·refine gQ 7 ?_;refine dH 17 H (fun g2 H=>?_) fun g2 H=>?_
  ·refine gQ 4 ?_;refine bK H fun x4 z3 H=>(qg g2 (bE func144 (p4 pa.aB4 pb.aB4 _ z3)) ?_)
   exact gE 3
  exact gE 8
 exact gE 15
def jV(fu:Nat)(p1:nW)(p0:dJ)(p8 p9:List aA):Nat→Unit→Option (LR Unit Bool):=fun i2 _=>gd (i2<(p9).length) (bd (p1 (aT p8 i2) (aT p9 i2)) fun x7=>sw (!(x7)) (some (.ret false)) (some (.next ())))
def jW(fu:Nat)(p1:nW)(p0:dJ)(p8 p9:List aA):Option (Bool⊕Unit):=loopN (jV fu p1 p0 p8 p9) (p8.length-0) 0 ()
def g0(fu:Nat)(p1:nW)(p0:dJ)(p8 p9:List aA):Option Bool:=sw (!decide ((p8.length:Int)=(p9.length:Int))) (some false) (so (jW fu p1 p0 p8 p9) fun _=>some true)
theorem uP(fu:Nat)(p1:nW)(p0:dJ)(p5:uT p1)(p4:hH p0):hH (g0 fu p1 p0):=by
 intro p8 p9 r H
 refine qJ func144 H (fun C hC H=>?_)
 refine gQ 13 ?_;refine bC H (fun h1 H=>gE 4) fun h1 H=>?_;refine gQ 8 ?_;refine gL 0 (aA.trs_len _) (fun hl3=>?_)
 refine bU (σ:=Unit) (fun i2 _=>⟨[(1,aR p9),(2,.fn 95 []),(6,pB false),(15,aR p8),(16,pN p8.length),(17,pN i2)],⟨[],[]⟩⟩) (fun _=>⟨[(6,pB false)],⟨[],[]⟩⟩) (eK H) ?_ ?_
 ·rintro i2 ⟨⟩ H
  refine gQ 5 ?_;refine cS H (fun h4 h4l H=>?_) (fun h4 H=>?_)
  ·refine gQ 7 ?_;refine q1 (iI (aA.cs (aT p8 i2))) ?_;refine gQ 8 ?_;refine cC H fun z5 H=>(q1 qF (q1 (iI (aA.cs (aT p9 i2))) ?_))
   refine gQ 6 ?_;refine q1 (bW [pI ((aT p8 i2).aB5),pS ((aT p8 i2).aB3),aR ((aT p8 i2).aB4)]) (q1 (bW [pI ((aT p9 i2).aB5),pS ((aT p9 i2).aB3),aR ((aT p9 i2).aB4)]) (bK H fun x7 z6 H=>(q1 (rCv func95 (p5 (aT p8 i2) (aT p9 i2) _ z6)) ?_)))
   refine gQ 2 ?_;refine bC H (fun h8 H=>gE 4) fun h8 H=>?_;exact gE 5
  exact gE 0
 rintro⟨⟩ H
 exact gE 4
mutual
def gR:Nat→aA→aA→Option Bool
 |0,_,_=>none
 |fu+1,pa,pb=>FR fu (gR fu) (b0 fu) pa pb
def b0:Nat→(List aA)→(List aA)→Option Bool
 |0,_,_=>none
 |fu+1,p8,p9=>g0 fu (gR fu) (b0 fu) p8 p9
end
theorem VF(fu:Nat):uT (gR fu)∧hH (b0 fu):=by
 induction fu with
 |zero=>exact⟨(fun pa pb r H=>by simp only [gR] at H;cases H),(fun p8 p9 r H=>by simp only [b0] at H;cases H)⟩
 |succ fu ih=>exact⟨(fun pa pb r H=>by simp only [gR] at H;exact TK fu (gR fu) (b0 fu) ih.1 ih.2 pa pb r H),(fun p8 p9 r H=>by simp only [b0] at H;exact uP fu (gR fu) (b0 fu) ih.1 ih.2 p8 p9 r H)⟩
theorem YF(fu:Nat):uT (gR fu):=(VF fu).1
abbrev rG:=aA→Option aA
abbrev nY:=(List aA)→Option ((List aA))
def xM(m:rG):Prop:= ∀(pt:aA) (r:aA),m pt=some r→bR Tryz.prog 79 [(aA.pv pt)] ((aA.pv r):PV)
def zR(m:nY):Prop:= ∀(pl:List aA) (r:(List aA)),m pl=some r→bR Tryz.prog 134 [aR pl] (aR r:PV)
def IA(fu:Nat)(p3:rG)(p2:nY)(pt:aA):Option aA:=bd (p2 pt.aB4) fun x2=>some (aA.mk pt.aB5 pt.aB3 x2)
theorem VN(fu:Nat)(p3:rG)(p2:nY)(p7:xM p3)(p6:zR p2):xM (IA fu p3 p2):=by
 intro pt r H
 refine qJ func79 H (fun C hC H=>?_)
 refine gQ 2 ?_;refine q1 (eX (bM pt)) ?_;refine gQ 6 ?_;refine bK H fun x2 z1 H=>(q1 (bE func134 (p6 pt.aB4 _ z1)) ?_)
 refine gQ 5 ?_;refine q1 (bW [pI pt.aB5,pS pt.aB3,aR x2]) ?_;exact gE 2
def K7(fu:Nat)(p3:rG)(p2:nY)(pl:List aA):Nat→((List aA))→Option (LR ((List aA)) ((List aA))):=fun i2 v3=>bd (p3 (aT pl i2)) fun x7=>gd (i2=(v3).length) (some (.next (v3++([x7]:List aA))))
def DG(fu:Nat)(p3:rG)(p2:nY)(pl:List aA):Option (((List aA))⊕((List aA))):=loopN (K7 fu p3 p2 pl) (pl.length-0) 0 ([])
def FT(fu:Nat)(p3:rG)(p2:nY)(pl:List aA):Option ((List aA)):=gd (pl.length≤68719476736) (so (DG fu p3 p2 pl) fun v3=>gd ((v3).length=pl.length) (some v3))
theorem TL(fu:Nat)(p3:rG)(p2:nY)(p7:xM p3)(p6:zR p2):zR (FT fu p3 p2):=by
 intro pl r H
 refine qJ func134 H (fun C hC H=>?_)
 refine gQ 8 ?_;refine cC H fun z1 H=>(q1 (bB.makeSlice (N:=pl.length) rfl rfl rfl rfl anO.h atF.h (by decide) (Nat.le_trans (Nat.mul_le_mul_left _ z1) (by decide)) (Nat.le_trans z1 (by decide))) ?_)
 refine gQ 9 ?_;refine gL 0 (aA.trs_len _) (fun hl4=>?_)
 refine bU (σ:=(List aA)) (fun i2 v3=>⟨[(2,.nil),(3,.full 3 (pl.length) 0),(9,aR pl),(10,pN pl.length),(11,pN i2)],⟨[],[⟨30,3,aA.trs (v3),true⟩]⟩⟩) (fun v3=>⟨[(2,.nil),(3,.full 3 (pl.length) 0)],⟨[],[⟨30,3,aA.trs (v3),true⟩]⟩⟩) (eK H) ?_ ?_
 ·rintro i2 v3 H
  refine gQ 5 ?_;refine cS H (fun h5 h5l H=>?_) (fun h5 H=>?_)
  ·refine gQ 7 ?_;refine q1 (iI (aA.cs (aT pl i2))) ?_;refine gQ 7 ?_;refine q1 (bW [pI ((aT pl i2).aB5),pS ((aT pl i2).aB3),aR ((aT pl i2).aB4)]) (bK H fun x7 z6 H=>(q1 (bE func79 (p7 (aT pl i2) _ z6)) (q1 (bB.indexFull (k:=i2) rfl rfl rfl rfl h5l anO.h) (cC H fun z8 H=>?_))))
   refine q1 (bB.storeRptr (e:=aA.cs x7) (es2:=aA.trs (v3++([x7]:List aA))) 16 rfl rfl rfl rfl rfl rfl jN rfl rfl as9.h (by rw [aA.trs_len];exact z8) h5l (by rw [aA.trs_map,aA.trs_map,List.map_append];simp [aA.tr_cs])) ?_;exact gE 5
  exact gE 0
 rintro v3 H
 refine gQ 3 ?_;refine cC H fun z9 H=>?_;refine AL.weak (Wk.full (i:=22) rfl rfl (by rw [aA.trs_len];exact z9)) ?_;exact gE 2
mutual
def jK:Nat→aA→Option aA
 |0,_=>none
 |fu+1,pt=>IA fu (jK fu) (kE fu) pt
def kE:Nat→(List aA)→Option ((List aA))
 |0,_=>none
 |fu+1,pl=>FT fu (jK fu) (kE fu) pl
end
theorem YI(fu:Nat):xM (jK fu)∧zR (kE fu):=by
 induction fu with
 |zero=>exact⟨(fun pt r H=>by simp only [jK] at H;cases H),(fun pl r H=>by simp only [kE] at H;cases H)⟩
 |succ fu ih=>exact⟨(fun pt r H=>by simp only [jK] at H;exact VN fu (jK fu) (kE fu) ih.1 ih.2 pt r H),(fun pl r H=>by simp only [kE] at H;exact TL fu (jK fu) (kE fu) ih.1 ih.2 pl r H)⟩
theorem ab3(fu:Nat):xM (jK fu):=(YI fu).1
end
end Go.Proofs.YtfcoaagbccmahaaGreat.W

namespace Go.Proofs.YtfcoaagbccmahaaGreat
open Go.RowKit Go.Proofs
theorem A5(a:ByteArray):(a==a)=true:=by
 obtain⟨x⟩:=a
 show(x==x)=true
 simp
theorem alU{a b:ByteArray}(h:a.toList=b.toList):a=b:=by
 rw [ByteArray.toList_eq,ByteArray.toList_eq] at h
 obtain⟨⟨x⟩⟩:=a
 obtain⟨⟨y⟩⟩:=b
 have h:x=y:=h
 rw [h]
theorem FN{a b:ByteArray}(h: ¬a=b):(a==b)=false:=by
 obtain⟨x⟩:=a
 obtain⟨y⟩:=b
 show(x==y)=false
 simp only [beq_eq_false_iff_ne,ne_eq]
 rintro rfl
 exact h rfl
mutual
def aA.eq:aA→aA→Bool
 | .mk k n xs,.mk l m ys=>k==l&&(n==m&&aA.eqs xs ys)
def aA.eqs:List aA→List aA→Bool
 | [],[]=>true
 |a::l,b::r=>aA.eq a b&&aA.eqs l r
 |_,_=>false
end
def aG.eq:aG→aG→Bool
 | .mk n x,.mk m y=>n==m&&aA.eq x y
end Go.Proofs.YtfcoaagbccmahaaGreat

namespace Go.Proofs.YtfcoaagbccmahaaGreat.W
open Go.RowKit Go.Proofs
theorem Z0{n i:Nat}(h:i<n):aT (List.range n) i=i:=by rw [jM (by simpa using h)];simp
theorem abU: ∀ {l r:List aA},aA.eqs l r=true→l.length=r.length
 | [],[],_=>rfl
 | [],_::_,h=>by simp [aA.eqs] at h
 |_::_,[],h=>by simp [aA.eqs] at h
 |a::l,b::r,h=>by
  simp only [aA.eqs,Bool.and_eq_true] at h
  simp [abU h.2]
theorem P7: ∀ {l r:List aA},l.length=r.length→aA.eqs l r=(List.range l.length).all fun i=>aA.eq (aT l i) (aT r i)
 | [],[],_=>rfl
 | [],_::_,h=>by simp at h
 |_::_,[],h=>by simp at h
 |a::l,b::r,h=>by
  rw [aA.eqs,List.length_cons,List.range_succ_eq_map,List.all_cons,List.all_map,P7 (l:=l) (r:=r) (by simpa using h)]
  rfl
theorem aj5{xs ys:List aA}(h: ∀i,i<xs.length→i<ys.length→bQ fun fu=>fG fu (aT xs i) (aT ys i)=some (aA.eq (aT xs i) (aT ys i))):bQ fun fu=>kY fu xs ys=some (aA.eqs xs ys):=by
 refine bQ.succ ?_
 by_cases hl:xs.length=ys.length
 ·refine(bQ.below (k:=xs.length) fun i hi=>h i hi (by omega)).imp fun fu hf=>?_
  simp only [kY,FC]
  have hd:(!decide ((((xs.length:Nat):Int):Int)=((ys.length:Nat):Int)))=false:=by simp [hl]
  rw [hd]
  have hr: ∀fu',∀(r1:aA→aA→Option Bool),(∀i,i<xs.length→r1 (aT xs i) (aT ys i)=some (aA.eq (aT xs i) (aT ys i)))→NA fu' r1 (kY fu) xs ys=some (if(List.range xs.length).all (fun i=>aA.eq (aT xs i) (aT ys i)) then .inr () else .inl false):=by
   intro fu' r1 h1
   unfold NA
   have:=SQ (l:=List.range xs.length) (f:=M9 fu' r1 (kY fu) xs ys) (p:=fun i=>aA.eq (aT xs i) (aT ys i)) (r:=false) (s:=()) fun i hi=>by
    have hi':i<xs.length:=by simpa using hi
    rw [Z0 hi',M9]
    rw [gO (by omega) rfl,fY (h1 i hi') rfl]
    cases aA.eq (aT xs i) (aT ys i)<;>rfl
   rwa [List.length_range] at this
  rw [hr fu _ hf,P7 hl]
  cases(List.range xs.length).all fun i=>aA.eq (aT xs i) (aT ys i)<;>rfl
 ·refine .all fun fu=>?_
  simp only [kY,FC]
  have hd:(!decide ((((xs.length:Nat):Int):Int)=((ys.length:Nat):Int)))=true:=by simp;omega
  rw [hd]
  cases hq:aA.eqs xs ys
  ·rfl
  ·exact absurd (abU hq) hl
theorem YZ: ∀a b:aA,bQ fun fu=>fG fu a b=some (aA.eq a b):=by
 refine aA.ind fun k n xs ih=>?_;rintro⟨l,m,ys⟩
 refine bQ.succ ((aj5 (xs:=xs) (ys:=ys) fun i hi hj=>ih _ (cD hi) _).imp fun fu hf=>?_)
 simp only [fG,zY,aA.aB5.eq_1,aA.aB3.eq_1,aA.aB4.eq_1,hf,aA.eq]
 by_cases h1:k=l
 ·subst h1
  by_cases h2:n=m
  ·subst h2
   simp [sw,bd,A5]
  ·simp [sw,h2,FN]
 ·have:(k==l)=false:=by simpa using h1
  simp [sw,h1,this]
theorem xA(a b:aA):bR Tryz.prog 38 [(aA.pv a),(aA.pv b)] (.t (.leaf (.bool (aA.eq a b)))):=by
 obtain⟨fu,h⟩:=(YZ a b).get
 exact K8 fu a b _ h
theorem YC{xs ys:List aA}(h: ∀i,i<xs.length→i<ys.length→bQ fun fu=>gR fu (aT xs i) (aT ys i)=some (aA.eq (aT xs i) (aT ys i))):bQ fun fu=>b0 fu xs ys=some (aA.eqs xs ys):=by
 refine bQ.succ ?_
 by_cases hl:xs.length=ys.length
 ·refine(bQ.below (k:=xs.length) fun i hi=>h i hi (by omega)).imp fun fu hf=>?_
  simp only [b0,g0]
  have hd:(!decide ((((xs.length:Nat):Int):Int)=((ys.length:Nat):Int)))=false:=by simp [hl]
  rw [hd]
  have hr:jW fu (gR fu) (b0 fu) xs ys=some (if(List.range xs.length).all (fun i=>aA.eq (aT xs i) (aT ys i)) then .inr () else .inl false):=by
   unfold jW
   have:=SQ (l:=List.range xs.length) (f:=jV fu (gR fu) (b0 fu) xs ys) (p:=fun i=>aA.eq (aT xs i) (aT ys i)) (r:=false) (s:=()) fun i hi=>by
    have hi':i<xs.length:=by simpa using hi
    rw [Z0 hi',jV]
    rw [gO (by omega) rfl,fY (hf i hi') rfl]
    cases aA.eq (aT xs i) (aT ys i)<;>rfl
   rwa [List.length_range] at this
  rw [hr,P7 hl]
  cases(List.range xs.length).all fun i=>aA.eq (aT xs i) (aT ys i)<;>rfl
 ·refine .all fun fu=>?_
  simp only [b0,g0]
  have hd:(!decide ((((xs.length:Nat):Int):Int)=((ys.length:Nat):Int)))=true:=by simp;omega
  rw [hd]
  cases hq:aA.eqs xs ys
  ·rfl
  ·exact absurd (abU hq) hl
theorem YE: ∀a b:aA,bQ fun fu=>gR fu a b=some (aA.eq a b):=by
 refine aA.ind fun k n xs ih=>?_;rintro⟨l,m,ys⟩
 refine bQ.succ ((YC (xs:=xs) (ys:=ys) fun i hi hj=>ih _ (cD hi) _).imp fun fu hf=>?_)
 simp only [gR,FR,aA.aB5.eq_1,aA.aB3.eq_1,aA.aB4.eq_1,hf,aA.eq]
 by_cases h1:k=l
 ·subst h1
  by_cases h2:n=m
  ·subst h2
   simp [sw,bd,A5]
  ·simp [sw,h2,FN]
 ·have:(k==l)=false:=by simpa using h1
  simp [sw,h1,this]
theorem w7(a b:aA):bR Tryz.prog 95 [(aA.pv a),(aA.pv b)] (.t (.leaf (.bool (aA.eq a b)))):=by
 obtain⟨fu,h⟩:=(YE a b).get
 exact YF fu a b _ h
theorem VA{α:Type}: ∀(l a:List α),l.foldl (fun s x=>s++ [x]) a=a++l
 | [],a=>by simp
 |x::l,a=>by rw [List.foldl_cons,VA l];simp
theorem anL{xs:List aA}: ∀ {x:aA},x∈xs→Tr.bulkL x.tr≤Tr.bulkAll (aA.trs xs):=by
 induction xs with
 |nil=>intro x hx;simp at hx
 |cons a l ih=>
  intro x hx
  simp only [aA.trs,Tr.bulkAll]
  rcases List.mem_cons.1 hx with rfl|hx
  ·omega
  ·have:=ih hx;omega
theorem P5(k:Int)(n:ByteArray)(xs:List aA):xs.length+Tr.bulkAll (aA.trs xs)≤Tr.bulkL (aA.mk k n xs).tr:=by
 simp only [aA.tr,Tr.bulkL_append,Tr.bulkL,Tr.bulk,aA.trs_len]
 omega
mutual
def Gd(U:LB):aA→Prop
 | .mk k n xs=>(k=1→n∈U)∧xs.length≤68719476735∧GdL U xs
def GdL(U:LB):List aA→Prop
 | []=>True
 |x::l=>Gd U x∧GdL U l
end
theorem w6{U:LB}: ∀ {l:List aA},GdL U l↔ ∀x∈l,Gd U x
 | []=>by simp [GdL]
 |a::l=>by rw [GdL,w6 (l:=l)];simp
theorem Gd.args{U:LB}{t x:aA}(h:x∈t.aB4)(ht:Gd U t):Gd U x:=by
 obtain⟨k,n,xs⟩:=t
 rw [Gd] at ht
 exact w6.1 ht.2.2 x h
theorem Gd.mono{U V:LB}(hs: ∀x∈U,x∈V): ∀t:aA,Gd U t→Gd V t:=by
 refine aA.ind fun k n xs ih h=>?_
 rw [Gd] at h ⊢
 exact⟨fun hk=>hs _ (h.1 hk),h.2.1,w6.2 fun x hx=>ih x hx (w6.1 h.2.2 x hx)⟩
def iC(t:aA):Prop:= ∃U:LB,U.length≤68719476736∧Gd U t
theorem A3{t x:aA}(h:x∈t.aB4):iC t→iC x:=fun⟨U,hU,ht⟩=>⟨U,hU,ht.args h⟩
theorem iC.len{k:Int}{n:ByteArray}{xs:List aA}(h:iC (.mk k n xs)):xs.length≤68719476735:=by
 obtain⟨U,_,h⟩:=h
 rw [Gd] at h
 exact h.2.1
mutual
def F4:aA→LB
 | .mk _ n xs=>n::aiT xs
def aiT:List aA→LB
 | []=> []
 |x::l=>F4 x++aiT l
end
theorem afM{x:aA}: ∀ {l:List aA},x∈l→ ∀n∈F4 x,n∈aiT l
 |a::l,h,n,hn=>by
  rw [aiT]
  rcases List.mem_cons.1 h with rfl|h
  ·exact List.mem_append.2 (.inl hn)
  ·exact List.mem_append.2 (.inr (afM h n hn))
theorem afL: ∀(l:List aA),(∀x∈l,(F4 x).length≤1+Tr.bulkL x.tr)→(aiT l).length≤l.length+Tr.bulkAll (aA.trs l)
 | [],_=>by simp [aiT]
 |x::l,h=>by
  have h1:=h x (by simp)
  have h2:=afL l fun y hy=>h y (List.mem_cons_of_mem _ hy)
  simp only [aiT,aA.trs,Tr.bulkAll,List.length_append,List.length_cons]
  omega
theorem afN: ∀t:aA,(F4 t).length≤1+Tr.bulkL t.tr:=by
 refine aA.ind fun k n xs ih=>?_
 have h1:=afL xs ih
 have h2:=P5 k n xs
 rw [F4,List.length_cons]
 omega
theorem Gd.own: ∀t:aA,Tr.bulkL t.tr≤68719476735→Gd (F4 t) t:=by
 refine aA.ind fun k n xs ih hb=>?_
 have h1:=P5 k n xs
 rw [Gd,F4]
 refine⟨fun _=>List.mem_cons_self ..,by omega,w6.2 fun x hx=>?_⟩
 exact(ih x hx (by have:=anL hx;omega)).mono (fun y hy=>List.mem_cons_of_mem _ (afM hx y hy)) x
theorem iC.of{t:aA}(h:Tr.bulkL t.tr≤68719476735):iC t:=⟨F4 t,by have:=afN t;omega,Gd.own t h⟩
theorem adP{xs:List aA}(hb:xs.length≤68719476735)(h: ∀x∈xs,bQ fun fu=>iE fu x=some x):bQ fun fu=>iB fu xs=some xs:=by
 refine bQ.succ ((bQ.list h).imp fun fu hf=>?_)
 simp only [iB,yF]
 rw [kO (l:=xs) (g:=fun s x=>s++ [x]) (fun i s=>s.length=i) (fun i s hi hp=>⟨?_,by simp [hp]⟩) rfl,VA]
 ·rfl
 ·rw [GS,fY (hf _ (cD hi)) rfl,gO (by simp;omega) rfl]
theorem ajY: ∀t:aA,iC t→bQ fun fu=>iE fu t=some t:=by
 refine aA.ind fun k n xs ih hb=>?_
 have h1:=hb.len
 refine bQ.succ ((adP (xs:=xs) h1 fun x hx=>ih x hx (A3 (t:= .mk k n xs) hx hb)).imp fun fu hf=>?_)
 simp only [iE,J4,aA.aB5.eq_1,aA.aB3.eq_1,aA.aB4.eq_1,hf,bd]
theorem B6(t:aA)(hb:iC t):bR Tryz.prog 56 [(aA.pv t)] (aA.pv t):=by
 obtain⟨fu,h⟩:=(ajY t hb).get
 exact XK fu t _ h
theorem ML{α β:Type}[Inhabited α]{f:Nat→List α→Option (LR (List α) β)}{l:List α}{g:α→α}(hs: ∀i s,i<l.length→s.length=i→f i s=some (.next (s++ [g (aT l i)]))):loopN f (l.length-0) 0 []=some (.inr (l.map g)):=by
 rw [kO (l:=l) (g:=fun s x=>s++ [g x]) (fun i s=>s.length=i) (fun i s hi hp=>⟨hs i s hi hp,by simp [hp]⟩) rfl]
 have key: ∀(l a:List α),l.foldl (fun s x=>s++ [g x]) a=a++l.map g:=by
  intro l
  induction l with
  |nil=>intro a;simp
  |cons x l ih=>intro a;rw [List.foldl_cons,ih];simp
 rw [key,List.nil_append]
theorem YJ{xs:List aA}(hb:xs.length≤68719476735)(h: ∀x∈xs,bQ fun fu=>jK fu x=some x):bQ fun fu=>kE fu xs=some xs:=by
 refine bQ.succ ((bQ.list h).imp fun fu hf=>?_)
 simp only [kE,FT]
 rw [gO (by omega) rfl]
 have hR:DG fu (jK fu) (kE fu) xs=some (.inr xs):=by
  unfold DG
  rw [ML (l:=xs) (g:=id) fun i s hi hp=>?_,List.map_id]
  rw [K7,fY (hf _ (cD hi)) rfl,gO (by omega) rfl]
  rfl
 rw [X2 hR rfl,gO rfl rfl]
theorem ab2: ∀t:aA,iC t→bQ fun fu=>jK fu t=some t:=by
 refine aA.ind fun k n xs ih hb=>?_
 have h1:=hb.len
 refine bQ.succ ((YJ (xs:=xs) h1 fun x hx=>ih x hx (A3 (t:= .mk k n xs) hx hb)).imp fun fu hf=>?_)
 simp only [jK,IA,aA.aB5.eq_1,aA.aB3.eq_1,aA.aB4.eq_1,hf,bd]
theorem zQ(t:aA)(hb:iC t):bR Tryz.prog 79 [(aA.pv t)] (aA.pv t):=by
 obtain⟨fu,h⟩:=(ab2 t hb).get
 exact ab3 fu t _ h
end Go.Proofs.YtfcoaagbccmahaaGreat.W

namespace Go.Proofs.YtfcoaagbccmahaaGreat.W
set_option maxRecDepth 100000
set_option maxHeartbeats 40000000
noncomputable section
open Tryz Go.RowKit Go.Proofs
attribute [local irreducible] lt
def WL(fu:Nat)(p0:List aK)(pv:ByteArray):Nat→Unit→Option (LR Unit (aA×Bool)):=fun i1 _=>sw (decide ((aT p0 i1).aCH=pv)) (gd (iC ((aT p0 i1).aB7)) (some (.ret (((aT p0 i1).aB7),true)))) (some (.next ()))
def JT(fu:Nat)(p0:List aK)(pv:ByteArray):Option (aA×Bool):=so (loopN (WL fu p0 pv) (p0.length-0) 0 ()) fun _=>some ((aA.mk 0 s_ []),false)
theorem WN(fu:Nat)(p0:List aK)(pv:ByteArray)(r:aA×Bool)(H:JT fu p0 pv=some r):bR Tryz.prog 151 [fJ p0,pS pv] (.tup [(aA.pv r.1),pB r.2]):=by
 refine qJ func151 H (fun C hC H=>?_)
 refine gQ 10 ?_;refine gL 0 (aK.trs_len _) (fun hl2=>?_)
 refine bU (σ:=Unit) (fun i1 _=>⟨[(0,fJ p0),(1,pS pv),(4,.ptr 0 0),(5,pB false),(6,pN i1)],⟨[some ⟨30,[pI 0,pS s_,.nil]⟩],[]⟩⟩) (fun _=>⟨[(4,.ptr 0 0),(5,pB false)],⟨[some ⟨30,[pI 0,pS s_,.nil]⟩],[]⟩⟩) (eK H) ?_ ?_
 ·rintro i1 ⟨⟩ H
  refine gQ 8 ?_;refine cS H (fun h3 h3l H=>?_) (fun h3 H=>?_)
  ·refine gQ 13 ?_;refine bC H (fun h4 H=>?_) (fun h4 H=>?_)
   ·refine gQ 6 ?_;refine q1 (iI (aA.cs ((aT p0 i1).aB7))) (cC H fun z5 H=>(q1 (bE func56 (B6 ((aT p0 i1).aB7) z5)) ?_))
    exact gE 3
   exact gE 6
  exact gE 0
 rintro⟨⟩ H
 exact gE 6
abbrev FD:=(List aA)→(List aA)→(List aK)→Option ((List aK)×Bool×(List aK))
abbrev wY:=aA→aA→(List aK)→Option ((List aK)×Bool×(List aK))
def I4(m:FD):Prop:= ∀(pp:List aA) (p2:List aA) (p0:List aK) (r:(List aK)×Bool×(List aK)),m pp p2 p0=some r→b7 Tryz.prog 212 [aR pp,aR p2,lS p0 0] ⟨[],[⟨44,4,aK.trs (p0),false⟩]⟩ (fun q t=>q=(.tup [(bif r.2.1 then .acc 4 (aK.trs (r.1)) 0 else .t (.row 4 (aK.trs (r.1)))),pB r.2.1]:PV)∧t=⟨[],[⟨44,4,aK.trs (r.2.2),false⟩]⟩)
def GT(m:wY):Prop:= ∀(pp:aA) (pt:aA) (p0:List aK) (r:(List aK)×Bool×(List aK)),m pp pt p0=some r→b7 Tryz.prog 233 [(aA.pv pp),(aA.pv pt),lS p0 0] ⟨[],[⟨44,4,aK.trs (p0),false⟩]⟩ (fun q t=>q=(.tup [(bif r.2.1 then .acc 4 (aK.trs (r.1)) 0 else .t (.row 4 (aK.trs (r.1)))),pB r.2.1]:PV)∧t=⟨[],[⟨44,4,aK.trs (r.2.2),false⟩]⟩)
def SD(fu:Nat)(p4:FD)(p3:wY)(pp p2:List aA)(p0:List aK):Nat→((List aK))→Option (LR ((List aK)) ((List aK)×Bool×(List aK))):=fun i1 v3=>gd (i1<(p2).length) (bd (p3 (aT pp i1) (aT p2 i1) v3) fun(x8,x9,x10)=>sw x9 (gd (x8=x10) (some (.next x8))) (some (.ret (v3,false,x10))))
def XQ(fu:Nat)(p4:FD)(p3:wY)(pp p2:List aA)(p0:List aK):Option ((List aK)×Bool×(List aK)):=so (loopN (SD fu p4 p3 pp p2 p0) (pp.length-0) 0 p0) fun v3=>some (v3,true,v3)
theorem ahG(fu:Nat)(p4:FD)(p3:wY)(p8:I4 p4)(p7:GT p3):I4 (XQ fu p4 p3):=by
 intro pp p2 p0 r H
 refine qJ func212 H (fun C hC H=>?_)
 refine gQ 10 ?_;refine gL 0 (aA.trs_len _) (fun hl4=>?_)
 refine bU (σ:=(List aK)) (fun i1 v3=>⟨[(0,aR pp),(1,aR p2),(2,lS v3 0),(6,.nil),(7,pB false),(8,pN i1)],⟨[],[⟨44,4,aK.trs (v3),false⟩]⟩⟩) (fun v3=>⟨[(2,lS v3 0),(6,.nil),(7,pB false)],⟨[],[⟨44,4,aK.trs (v3),false⟩]⟩⟩) (eK H) ?_ ?_
 ·rintro i1 v3 H
  refine gQ 8 ?_;refine cS H (fun h5 h5l H=>?_) (fun h5 H=>?_)
  ·refine gQ 4 ?_;refine cC H fun z6 H=>(NR H fun x8 x9 x10 z7 H=>?_)
   cases x9
   ·have H:=sY H rfl
    refine dW (dI [0] bF (dI [8] bF (dI [18,19] qF (dI [20] (iI (aA.cs (aT pp i1))) (dI [1] bF (dI [8] bF (dI [22,23] qF (dI [24] (iI (aA.cs (aT p2 i1))) (dI [2] bF (dE [21,25,26] (eU [] [0] func233 (p7 (aT pp i1) (aT p2 i1) v3 _ z7)) (dI [27] bF ?_)))))))))))
    iterate 2 refine dI [17] YR ?_
    refine dI [28] bF (dI [29] bF (dN ?_))
    refine gQ 6 ?_;refine aiB (congrArg (fun b=> !b) (rfl:false=false)) ?_;exact gE 6
   have H:=sZ H rfl
   obtain⟨z11,H1⟩:=gdI H
   subst z11
   have H:=H1
   refine dW (dI [0] bF (dI [8] bF (dI [18,19] qF (dI [20] (iI (aA.cs (aT pp i1))) (dI [1] bF (dI [8] bF (dI [22,23] qF (dI [24] (iI (aA.cs (aT p2 i1))) (dI [2] bF (dE [21,25,26] (eU [] [0] func233 (p7 (aT pp i1) (aT p2 i1) v3 _ z7)) (dI [27] bF ?_)))))))))))
   iterate 2 refine dI [17] YR ?_
   refine dI [28] bF (dI [29] bF (dN ?_))
   refine gQ 6 ?_;refine U5 (congrArg (fun b=> !b) (rfl:true=true)) ?_;exact gE 10
  exact gE 0
 rintro v3 H
 exact gE 6
def ND(fu:Nat)(p4:FD)(p3:wY)(pp pt:aA)(p0:List aK):Option ((List aK)×Bool×(List aK)):=sw (decide (pp.aB5=1)) (bd (JT fu p0 pp.aB3) fun(x3,x4)=>sw x4 (sw (aA.eq x3 pt) (some (p0,(aA.eq x3 pt),p0)) (some (p0,(aA.eq x3 pt),p0))) (gd (iC pt) (gd ((p0).length+(([(aK.mk pp.aB3 pt)]:List aK)).length≤68719476736) (some ((p0++([(aK.mk pp.aB3 pt)]:List aK)),true,(p0++([(aK.mk pp.aB3 pt)]:List aK))))))) (sw (!decide (pp.aB5=pt.aB5)) (some (p0,false,p0)) (sw (!decide (pp.aB3=pt.aB3)) (some (p0,false,p0)) (sw (!decide ((pp.aB4.length:Int)=(pt.aB4.length:Int))) (some (p0,false,p0)) (bd (p4 pp.aB4 pt.aB4 p0) fun(x13,x14,x15)=>sw x14 (gd (x13=x15) (some (x13,true,x13))) (some (x13,false,x15))))))
theorem ZS(fu:Nat)(p4:FD)(p3:wY)(p8:I4 p4)(p7:GT p3):GT (ND fu p4 p3):=by
 intro pp pt p0 r H
 refine qJ func233 H (fun C hC H=>?_)
 refine gQ 2 ?_;refine q1 (eX (bM pp)) (q1 (eX (bM pt)) ?_)
 refine gQ 10 ?_;refine bC H (fun h1 H=>?_) (fun h1 H=>?_)
 ·refine gQ 5 ?_;refine dP H fun x3 x4 z2 H=>(q1 (bE func151 (WN fu p0 pp.aB3 _ z2)) ?_)
  refine gQ 12 ?_;refine bC H (fun h5 H=>?_) (fun h5 H=>?_)
  ·refine gQ 3 ?_;refine q1 (bW [pI x3.aB5,pS x3.aB3,aR x3.aB4]) (q1 (bW [pI pt.aB5,pS pt.aB3,aR pt.aB4]) (q1 (bE func38 (xA x3 pt)) ?_))
   refine gQ 3 ?_;refine cQ.ret ?_
   rcases oQ (aA.eq x3 pt) with g6|g6
   ·have H:=sZ H g6
    cases vI H
    exact qe2 (hle:=by rw [g6];exact jN) (hk:=by rw [g6];rfl)
   have H:=sY H g6
   cases vI H
   exact qe2 (hle:=by rw [g6];exact jN) (hk:=by rw [g6];rfl)
  refine gQ 2 ?_;refine cC H fun z7 H=>(cC H fun z8 H=>(dW (dI [2] bF (dI [3] bZ (dD [26] eE (dD [4] (bW [pI pt.aB5,pS pt.aB3,aR pt.aB4]) (dI [28] (bE func56 (B6 pt z7)) (dI [27,29] rW (dI [30] (iF ([(aK.mk pp.aB3 pt)]:List aK)) (dE [25,31] (lG z8) (dI [32] bF (dI [] bF (dN ?_)))))))))))))
  exact gE 0
 refine gQ 10 ?_;refine dH 38 H (fun g9 H=>gE 23) fun g9 H=>?_;refine gQ 7 ?_;refine dH 45 H (fun g10 H=>gE 16) fun g10 H=>?_;refine gQ 9 ?_;refine bC H (fun h11 H=>gE 6) fun h11 H=>?_;refine gQ 8 ?_;refine NR H fun x13 x14 x15 z12 H=>?_
 cases x14
 ·have H:=sY H rfl
  refine q1 (eU [] [0] func212 (p8 pp.aB4 pt.aB4 p0 _ z12)) ?_;exact gE 5
 have H:=sZ H rfl
 obtain⟨z16,H1⟩:=gdI H
 subst z16
 have H:=H1
 refine q1 (eU [] [0] func212 (p8 pp.aB4 pt.aB4 p0 _ z12)) ?_;exact gE 5
mutual
def o8:Nat→(List aA)→(List aA)→(List aK)→Option ((List aK)×Bool×(List aK))
 |0,_,_,_=>none
 |fu+1,pp,p2,p0=>XQ fu (o8 fu) (nF fu) pp p2 p0
def nF:Nat→aA→aA→(List aK)→Option ((List aK)×Bool×(List aK))
 |0,_,_,_=>none
 |fu+1,pp,pt,p0=>ND fu (o8 fu) (nF fu) pp pt p0
end
theorem akD(fu:Nat):I4 (o8 fu)∧GT (nF fu):=by
 induction fu with
 |zero=>exact⟨(fun pp p2 p0 r H=>by simp only [o8] at H;cases H),(fun pp pt p0 r H=>by simp only [nF] at H;cases H)⟩
 |succ fu ih=>exact⟨(fun pp p2 p0 r H=>by simp only [o8] at H;exact ahG fu (o8 fu) (nF fu) ih.1 ih.2 pp p2 p0 r H),(fun pp pt p0 r H=>by simp only [nF] at H;exact ZS fu (o8 fu) (nF fu) ih.1 ih.2 pp pt p0 r H)⟩
theorem aa3(fu:Nat):I4 (o8 fu):=(akD fu).1
def CT(fu:Nat)(pp p2:List aA):Option ((List aK)×Bool):=sw (!decide ((pp.length:Int)=(p2.length:Int))) (some (([]),false)) (bd (o8 fu pp p2 ([])) fun(x3,x4,x5)=>sw x4 (gd (x3=x5) (some (x3,true))) (some (([]),false)))
theorem acL(fu:Nat)(pp:List aA)(p2:List aA)(r:(List aK)×Bool)(H:CT fu pp p2=some r):bR Tryz.prog 187 [aR pp,aR p2] (.tup [fJ r.1,pB r.2]):=by
 refine qJ func187 H (fun C hC H=>?_)
 refine gQ 14 ?_;refine bC H (fun h1 H=>?_) (fun h1 H=>?_)
 ·refine gQ 2 ?_;refine q1 (qE ([]:List aK)) ?_;exact gE 3
 refine gQ 5 ?_;refine q1 (qE ([]:List aK)) (NR H fun x3 x4 x5 z2 H=>?_)
 cases x4
 ·have H:=sY H rfl
  refine q1 (eU [] [0] func212 (aa3 fu pp p2 ([]) _ z2)) ?_;refine gQ 12 ?_;refine aiB (congrArg (fun b=> !b) (rfl:false=false)) ?_;refine gQ 2 ?_;refine q1 (qE ([]:List aK)) ?_;exact gE 3
 have H:=sZ H rfl
 obtain⟨z6,H1⟩:=gdI H
 subst z6
 have H:=H1
 refine q1 (eU [] [0] func212 (aa3 fu pp p2 ([]) _ z2)) ?_;refine gQ 12 ?_;refine U5 (congrArg (fun b=> !b) (rfl:true=true)) ?_;exact gE 7
def O0(fu:Nat)(pp pt:aA):Option ((List aK)×Bool):=bd (CT fu ([pp]:List aA) ([pt]:List aA)) fun(x2,x3)=>some (x2,x3)
theorem aaT(fu:Nat)(pp:aA)(pt:aA)(r:(List aK)×Bool)(H:O0 fu pp pt=some r):bR Tryz.prog 161 [(aA.pv pp),(aA.pv pt)] (.tup [fJ r.1,pB r.2]):=by
 refine qJ func161 H (fun C hC H=>?_)
 refine gQ 2 ?_;refine q1 (eX (bM pp)) (q1 (eX (bM pt)) ?_)
 refine gQ 5 ?_;refine q1 (bW [pI pp.aB5,pS pp.aB3,aR pp.aB4]) (q1 (iF ([pp]:List aA)) (q1 (bW [pI pt.aB5,pS pt.aB3,aR pt.aB4]) (q1 (iF ([pt]:List aA)) (dP H fun x2 x3 z1 H=>(q1 (bE func187 (acL fu ([pp]:List aA) ([pt]:List aA) _ z1)) ?_)))))
 exact gE 5
def WO(fu:Nat)(pp pt:aA):Option Bool:=bd (O0 fu pp pt) fun(x2,x3)=>some x3
theorem afZ(fu:Nat)(pp:aA)(pt:aA)(r:Bool)(H:WO fu pp pt=some r):bR Tryz.prog 210 [(aA.pv pp),(aA.pv pt)] (pB r):=by
 refine qJ func210 H (fun C hC H=>?_)
 refine gQ 2 ?_;refine q1 (eX (bM pp)) (q1 (eX (bM pt)) ?_)
 refine gQ 4 ?_;refine q1 (bW [pI pp.aB5,pS pp.aB3,aR pp.aB4]) (q1 (bW [pI pt.aB5,pS pt.aB3,aR pt.aB4]) (dP H fun x2 x3 z1 H=>(q1 (bE func161 (aaT fu pp pt _ z1)) ?_)))
 exact gE 11
def VH(fu:Nat)(p0:List aK)(pv:ByteArray):Nat→Unit→Option (LR Unit (aA×Bool)):=fun i1 _=>sw (decide ((aT p0 i1).aCH=pv)) (gd (iC ((aT p0 i1).aB7)) (some (.ret (((aT p0 i1).aB7),true)))) (some (.next ()))
def EK(fu:Nat)(p0:List aK)(pv:ByteArray):Option (aA×Bool):=so (loopN (VH fu p0 pv) (p0.length-0) 0 ()) fun _=>some ((aA.mk 0 s_ []),false)
theorem VJ(fu:Nat)(p0:List aK)(pv:ByteArray)(r:aA×Bool)(H:EK fu p0 pv=some r):bR Tryz.prog 59 [fJ p0,pS pv] (.tup [(aA.pv r.1),pB r.2]):=by
 refine qJ func59 H (fun C hC H=>?_)
 refine gQ 12 ?_;refine gL 0 (aK.trs_len _) (fun hl2=>?_)
 refine bU (σ:=Unit) (fun i1 _=>⟨[(1,pS pv),(4,.ptr 0 0),(5,pB false),(8,fJ p0),(9,pN p0.length),(10,pN i1)],⟨[some ⟨30,[pI 0,pS s_,.nil]⟩],[]⟩⟩) (fun _=>⟨[(4,.ptr 0 0),(5,pB false)],⟨[some ⟨30,[pI 0,pS s_,.nil]⟩],[]⟩⟩) (eK H) ?_ ?_
 ·rintro i1 ⟨⟩ H
  refine gQ 5 ?_;refine cS H (fun h3 h3l H=>?_) (fun h3 H=>?_)
  ·refine gQ 6 ?_;refine q1 (iI (aK.cs (aT p0 i1))) ?_;refine gQ 10 ?_;refine bC H (fun h4 H=>?_) (fun h4 H=>?_)
   ·refine gQ 3 ?_;refine q1 (bW [pI (((aT p0 i1).aB7).aB5),pS (((aT p0 i1).aB7).aB3),aR (((aT p0 i1).aB7).aB4)]) (cC H fun z5 H=>(q1 (bE func79 (zQ ((aT p0 i1).aB7) z5)) ?_))
    exact gE 3
   exact gE 5
  exact gE 0
 rintro⟨⟩ H
 exact gE 6
abbrev t9:=(List aK)→(List aA)→(List aA)→Option ((List aK)×Bool×(List aK))
abbrev EM:=(List aK)→aA→aA→Option ((List aK)×Bool×(List aK))
def xP(m:t9):Prop:= ∀(ps:List aK) (pp:List aA) (p2:List aA) (r:(List aK)×Bool×(List aK)),m ps pp p2=some r→b7 Tryz.prog 159 [lS ps 0,aR pp,aR p2] ⟨[],[⟨44,4,aK.trs (ps),false⟩]⟩ (fun q t=>q=(.tup [(bif r.2.1 then .acc 4 (aK.trs (r.1)) 0 else .t (.row 4 (aK.trs (r.1)))),pB r.2.1]:PV)∧t=⟨[],[⟨44,4,aK.trs (r.2.2),false⟩]⟩)
def OL(m:EM):Prop:= ∀(ps:List aK) (pp:aA) (pt:aA) (r:(List aK)×Bool×(List aK)),m ps pp pt=some r→b7 Tryz.prog 184 [lS ps 0,(aA.pv pp),(aA.pv pt)] ⟨[],[⟨44,4,aK.trs (ps),false⟩]⟩ (fun q t=>q=(.tup [(bif r.2.1 then .acc 4 (aK.trs (r.1)) 0 else .t (.row 4 (aK.trs (r.1)))),pB r.2.1]:PV)∧t=⟨[],[⟨44,4,aK.trs (r.2.2),false⟩]⟩)
def zS(fu:Nat)(p1:t9)(p5:EM)(ps:List aK)(pp p2:List aA):Nat→((List aK))→Option (LR ((List aK)) ((List aK)×Bool×(List aK))):=fun i2 v4=>gd (i2<(p2).length) (bd (p5 v4 (aT pp i2) (aT p2 i2)) fun(x9,x10,x11)=>sw x10 (gd (x9=x11) (some (.next x9))) (some (.ret ([],false,x11))))
def xO(fu:Nat)(p1:t9)(p5:EM)(ps:List aK)(pp p2:List aA):Option ((List aK)×Bool×(List aK)):=sw (!decide ((pp.length:Int)=(p2.length:Int))) (some ([],false,ps)) (so (loopN (zS fu p1 p5 ps pp p2) (pp.length-0) 0 ps) fun v4=>some (v4,true,v4))
theorem VQ(fu:Nat)(p1:t9)(p5:EM)(p6:xP p1)(p9:OL p5):xP (xO fu p1 p5):=by
 intro ps pp p2 r H
 refine qJ func159 H (fun C hC H=>?_)
 refine gQ 14 ?_;refine bC H (fun h1 H=>gE 5) fun h1 H=>?_;refine gQ 8 ?_;refine gL 1 (aA.trs_len _) (fun hl5=>?_)
 refine bU (σ:=(List aK)) (fun i2 v4=>⟨[(0,lS v4 0),(1,aR pp),(2,aR p2),(6,.nil),(7,pB false),(17,pN pp.length),(18,pN i2)],⟨[],[⟨44,4,aK.trs (v4),false⟩]⟩⟩) (fun v4=>⟨[(0,lS v4 0),(6,.nil),(7,pB false)],⟨[],[⟨44,4,aK.trs (v4),false⟩]⟩⟩) (eK H) ?_ ?_
 ·rintro i2 v4 H
  refine gQ 5 ?_;refine cS H (fun h6 h6l H=>?_) (fun h6 H=>?_)
  ·refine gQ 9 ?_;refine cC H fun z7 H=>(NR H fun x9 x10 x11 z8 H=>?_)
   cases x10
   ·have H:=sY H rfl
    refine dW (dI [0] bF (dI [1] bF (dI [8] bF (dI [23,24] qF (dI [25] (iI (aA.cs (aT pp i2))) (dI [2] bF (dI [8] bF (dI [27,28] qF (dI [29] (iI (aA.cs (aT p2 i2))) (dE [22,26,30] (eU [] [0] func184 (p9 v4 (aT pp i2) (aT p2 i2) _ z8)) (dI [31] bF ?_)))))))))))
    iterate 2 refine dI [21] YR ?_
    refine dI [32] bF (dI [33] bF (dN ?_))
    refine gQ 6 ?_;refine aiB (congrArg (fun b=> !b) (rfl:false=false)) ?_;exact gE 5
   have H:=sZ H rfl
   obtain⟨z12,H1⟩:=gdI H
   subst z12
   have H:=H1
   refine dW (dI [0] bF (dI [1] bF (dI [8] bF (dI [23,24] qF (dI [25] (iI (aA.cs (aT pp i2))) (dI [2] bF (dI [8] bF (dI [27,28] qF (dI [29] (iI (aA.cs (aT p2 i2))) (dE [22,26,30] (eU [] [0] func184 (p9 v4 (aT pp i2) (aT p2 i2) _ z8)) (dI [31] bF ?_)))))))))))
   iterate 2 refine dI [21] YR ?_
   refine dI [32] bF (dI [33] bF (dN ?_))
   refine gQ 6 ?_;refine U5 (congrArg (fun b=> !b) (rfl:true=true)) ?_;exact gE 9
  exact gE 0
 rintro v4 H
 exact gE 6
def VR(fu:Nat)(p1:t9)(p5:EM)(ps:List aK)(pp pt:aA):Option ((List aK)×Bool×(List aK)):=sw (decide (pp.aB5=1)) (bd (EK fu ps pp.aB3) fun(x3,x4)=>sw x4 (sw (aA.eq x3 pt) (some (ps,(aA.eq x3 pt),ps)) (some (ps,(aA.eq x3 pt),ps))) (gd (iC pt) (gd ((ps).length+(([(aK.mk pp.aB3 pt)]:List aK)).length≤68719476736) (some ((ps++([(aK.mk pp.aB3 pt)]:List aK)),true,(ps++([(aK.mk pp.aB3 pt)]:List aK))))))) (sw (!decide (pp.aB5=pt.aB5)) (some ([],false,ps)) (sw (!decide (pp.aB3=pt.aB3)) (some ([],false,ps)) (bd (p1 ps pp.aB4 pt.aB4) fun(x12,x13,x14)=>sw x13 (gd (x12=x14) (some (x12,true,x12))) (some (x12,false,x14)))))
theorem ae9(fu:Nat)(p1:t9)(p5:EM)(p6:xP p1)(p9:OL p5):OL (VR fu p1 p5):=by
 intro ps pp pt r H
 refine qJ func184 H (fun C hC H=>?_)
 refine gQ 2 ?_;refine q1 (eX (bM pp)) (q1 (eX (bM pt)) ?_)
 refine gQ 10 ?_;refine bC H (fun h1 H=>?_) (fun h1 H=>?_)
 ·refine gQ 6 ?_;refine dP H fun x3 x4 z2 H=>(q1 (bE func59 (VJ fu ps pp.aB3 _ z2)) ?_)
  refine gQ 11 ?_;refine bC H (fun h5 H=>?_) (fun h5 H=>?_)
  ·refine gQ 3 ?_;refine q1 (bW [pI x3.aB5,pS x3.aB3,aR x3.aB4]) (q1 (bW [pI pt.aB5,pS pt.aB3,aR pt.aB4]) (q1 (bE func95 (w7 x3 pt)) ?_))
   refine gQ 3 ?_;refine cQ.ret ?_
   rcases oQ (aA.eq x3 pt) with g6|g6
   ·have H:=sZ H g6
    cases vI H
    exact qe2 (hle:=by rw [g6];exact jN) (hk:=by rw [g6];rfl)
   have H:=sY H g6
   cases vI H
   exact qe2 (hle:=by rw [g6];exact jN) (hk:=by rw [g6];rfl)
  refine gQ 2 ?_;refine cC H fun z7 H=>(cC H fun z8 H=>(dW (dI [0] bF (dI [4] bZ (dD [26] eE (dD [5] (bW [pI pt.aB5,pS pt.aB3,aR pt.aB4]) (dI [28] (bE func79 (zQ pt z7)) (dI [27,29] rW (dI [30] (iF ([(aK.mk pp.aB3 pt)]:List aK)) (dE [25,31] (lG z8) (dI [32] bF (dI [] bF (dN ?_)))))))))))))
  exact gE 0
 refine gQ 10 ?_;refine dH 38 H (fun g9 H=>gE 13) fun g9 H=>?_;refine gQ 7 ?_;refine bC H (fun h10 H=>gE 5) fun h10 H=>?_;refine gQ 8 ?_;refine NR H fun x12 x13 x14 z11 H=>?_
 cases x13
 ·have H:=sY H rfl
  refine q1 (eU [] [0] func159 (p6 ps pp.aB4 pt.aB4 _ z11)) ?_;exact gE 5
 have H:=sZ H rfl
 obtain⟨z15,H1⟩:=gdI H
 subst z15
 have H:=H1
 refine q1 (eU [] [0] func159 (p6 ps pp.aB4 pt.aB4 _ z11)) ?_;exact gE 5
mutual
def fB:Nat→(List aK)→(List aA)→(List aA)→Option ((List aK)×Bool×(List aK))
 |0,_,_,_=>none
 |fu+1,ps,pp,p2=>xO fu (fB fu) (s8 fu) ps pp p2
def s8:Nat→(List aK)→aA→aA→Option ((List aK)×Bool×(List aK))
 |0,_,_,_=>none
 |fu+1,ps,pp,pt=>VR fu (fB fu) (s8 fu) ps pp pt
end
theorem YN(fu:Nat):xP (fB fu)∧OL (s8 fu):=by
 induction fu with
 |zero=>exact⟨(fun ps pp p2 r H=>by simp only [fB] at H;cases H),(fun ps pp pt r H=>by simp only [s8] at H;cases H)⟩
 |succ fu ih=>exact⟨(fun ps pp p2 r H=>by simp only [fB] at H;exact VQ fu (fB fu) (s8 fu) ih.1 ih.2 ps pp p2 r H),(fun ps pp pt r H=>by simp only [s8] at H;exact ae9 fu (fB fu) (s8 fu) ih.1 ih.2 ps pp pt r H)⟩
theorem OK(fu:Nat):xP (fB fu):=(YN fu).1
def OC(fu:Nat)(pp pt:aA):Option ((List aK)×Bool):=bd (fB fu ([]) ([pp]:List aA) ([pt]:List aA)) fun(x2,x3,x4)=>sw x3 (gd (x2=x4) (some (x2,true))) (some (x2,false))
theorem Z9(fu:Nat)(pp:aA)(pt:aA)(r:(List aK)×Bool)(H:OC fu pp pt=some r):bR Tryz.prog 119 [(aA.pv pp),(aA.pv pt)] (.tup [fJ r.1,pB r.2]):=by
 refine qJ func119 H (fun C hC H=>?_)
 refine gQ 2 ?_;refine q1 (eX (bM pp)) (q1 (eX (bM pt)) ?_)
 refine gQ 5 ?_;refine q1 (bW [pI pp.aB5,pS pp.aB3,aR pp.aB4]) (q1 (iF ([pp]:List aA)) (q1 (bW [pI pt.aB5,pS pt.aB3,aR pt.aB4]) (q1 (iF ([pt]:List aA)) (NR H fun x2 x3 x4 z1 H=>?_))))
 cases x3
 ·have H:=sY H rfl
  refine q1 (bB.callF (res:= .tup [fJ x2,pB false]) (ps:= [_,_,_]) (qs:= [.nil,aR ([pp]:List aA),aR ([pt]:List aA)]) rfl rfl func159 (by kernel_rfl) rfl rfl jN rfl rfl (b7.regNil (l1:= []) (l2:= [aR ([pp]:List aA),aR ([pt]:List aA)]) (E:=44) (sz:=4) (q:= .tup [fJ x2,pB false]) (by decide) (OK fu ([]) ([pp]:List aA) ([pt]:List aA) _ z1) jN rfl)) ?_;exact gE 5
 have H:=sZ H rfl
 obtain⟨z5,H1⟩:=gdI H
 subst z5
 have H:=H1
 refine q1 (bB.callF (res:= .tup [fJ x2,pB true]) (ps:= [_,_,_]) (qs:= [.nil,aR ([pp]:List aA),aR ([pt]:List aA)]) rfl rfl func159 (by kernel_rfl) rfl rfl jN rfl rfl (b7.regNil (l1:= []) (l2:= [aR ([pp]:List aA),aR ([pt]:List aA)]) (E:=44) (sz:=4) (q:= .tup [fJ x2,pB true]) (by decide) (OK fu ([]) ([pp]:List aA) ([pt]:List aA) _ z1) jN rfl)) ?_;exact gE 5
def VK(fu:Nat)(pp pt:aA):Option Bool:=bd (OC fu pp pt) fun(x2,x3)=>some x3
theorem ae4(fu:Nat)(pp:aA)(pt:aA)(r:Bool)(H:VK fu pp pt=some r):bR Tryz.prog 182 [(aA.pv pp),(aA.pv pt)] (pB r):=by
 refine qJ func182 H (fun C hC H=>?_)
 refine gQ 2 ?_;refine q1 (eX (bM pp)) (q1 (eX (bM pt)) ?_)
 refine gQ 4 ?_;refine q1 (bW [pI pp.aB5,pS pp.aB3,aR pp.aB4]) (q1 (bW [pI pt.aB5,pS pt.aB3,aR pt.aB4]) (dP H fun x2 x3 z1 H=>(q1 (bE func119 (Z9 fu pp pt _ z1)) ?_)))
 exact gE 11
end
end Go.Proofs.YtfcoaagbccmahaaGreat.W

namespace Go.Proofs.YtfcoaagbccmahaaGreat.W
open Go.RowKit Go.WalkArith
def D3(l:List aK)(v:ByteArray):Option aK:=l.find? (fun b=>decide (b.aCH=v))
mutual
def j0:aA→aA→List aK→Option (List aK)
 | .mk k n ps,t,s=>
  if k=1 then(match D3 s n with
   |some b=>if aA.eq b.aB7 t=true then some s else none
   |none=>some (s++ [aK.mk n t]))
  else if k=t.aB5 then(if n=t.aB3 then(if ps.length=t.aB4.length then lW ps t.aB4 s else none) else none) else none
def lW:List aA→List aA→List aK→Option (List aK)
 | [],_,s=>some s
 |p::ps,ts,s=>match ts with
  | []=>none
  |t::ts=>match j0 p t s with
   |none=>none
   |some s'=>lW ps ts s'
end
theorem nd{p:Prop}[Decidable p](h: ¬p):(!decide p)=true:=by simp [h]
def wtl(l:List aA):Nat:=l.length+Tr.bulkAll (aA.trs l)
theorem X1(x:aA)(l:List aA):wtl (x::l)=1+Tr.bulkL x.tr+wtl l:=by simp only [wtl,aA.trs,Tr.bulkAll,List.length_cons];omega
theorem X0(k:Int)(n:ByteArray)(ps:List aA):wtl ps≤Tr.bulkL (aA.mk k n ps).tr:=P5 k n ps
def qG(s:List aK):Prop:= ∀b∈s,iC b.aB7
theorem ST: ∀(ps:List aA),(∀x∈ps,∀t s s',j0 x t s=some s'→qG s→iC t→qG s'∧s'.length≤s.length+1+Tr.bulkL x.tr)→
 ∀ts s s',lW ps ts s=some s'→qG s→(∀t∈ts,iC t)→qG s'∧s'.length≤s.length+wtl ps
 | [],_,ts,s,s',h,hb,_=>by
  rw [lW] at h
  obtain rfl:=Option.some.inj h
  exact⟨hb,by omega⟩
 |p::ps,hp,ts,s,s',h,hb,ht=>by
  cases ts with
  |nil=>simp [lW] at h
  |cons t ts=>
   rw [lW] at h
   cases hq:j0 p t s with
   |none=>rw [hq] at h;cases h
   |some s1=>
    rw [hq] at h
    have h1:=hp p (by simp) t s s1 hq hb (ht t (by simp))
    have h2:=ST ps (fun x hx=>hp x (List.mem_cons_of_mem _ hx)) ts s1 s' h h1.1 (fun x hx=>ht x (List.mem_cons_of_mem _ hx))
    have h3:=X1 p ps
    exact⟨h2.1,by omega⟩
theorem amC: ∀(p t:aA) (s s':List aK),j0 p t s=some s'→qG s→iC t→qG s'∧s'.length≤s.length+1+Tr.bulkL p.tr:=by
 refine aA.ind fun k n ps ih t s s' h hb ht=>?_
 have hw:=X0 k n ps
 rw [j0] at h
 split at h
 ·split at h
  ·split at h
   ·obtain rfl:=Option.some.inj h
    exact⟨hb,by omega⟩
   ·cases h
  ·obtain rfl:=Option.some.inj h
   refine⟨fun b hb'=>?_,by simp only [List.length_append,List.length_singleton];omega⟩
   rcases List.mem_append.1 hb' with h1|h1
   ·exact hb b h1
   ·obtain rfl:=List.mem_singleton.1 h1
    exact ht
 ·split at h
  ·split at h
   ·split at h
    ·have h1:=ST ps ih _ _ _ h hb (fun x hx=>A3 hx ht)
     exact⟨h1.1,by omega⟩
    ·cases h
   ·cases h
  ·cases h
def Res(o:Option (List aK))(m:Option (List aK×Bool×List aK)):Prop:=match o with
 |some s'=>m=some (s',true,s')
 |none=> ∃a b,m=some (a,false,b)
def asC(o:Option (List aK))(m:Option ((List aK×Bool×List aK)⊕List aK)):Prop:=match o with
 |some s'=>m=some (.inr s')
 |none=> ∃a b,m=some (.inl (a,false,b))
def asB(o:Option (List aK))(m:Option (LR (List aK) (List aK×Bool×List aK))):Prop:=match o with
 |some s'=>m=some (.next s')
 |none=> ∃a b,m=some (.ret (a,false,b))
theorem aaL{F:Nat→List aK→Option (LR (List aK) (List aK×Bool×List aK))}{ps ts:List aA}(hlen:ps.length=ts.length)(ht: ∀t∈ts,iC t)
 (hs: ∀i s,i<ps.length→qG s→s.length+1+Tr.bulkL (aT ps i).tr≤68719476736→asB (j0 (aT ps i) (aT ts i) s) (F i s)):
 ∀(k i:Nat) (s:List aK),ps.length-i=k→qG s→s.length+wtl (ps.drop i)≤68719476736→asC (lW (ps.drop i) (ts.drop i) s) (loopN F (ps.length-i) i s)
 |0,i,s,hk,_,_=>by
  rw [List.drop_of_length_le (show ps.length≤i by omega),lW]
  exact ER (by omega)
 |k+1,i,s,hk,hb,hw=>by
  have hi:i<ps.length:=by omega
  have hi2:i<ts.length:=by omega
  rw [oT hi,X1] at hw
  have h1:=hs i s hi hb (by omega)
  rw [oT hi,oT hi2,lW]
  cases hq:j0 (aT ps i) (aT ts i) s with
  |none=>
   rw [hq] at h1
   obtain⟨a,b,h1⟩:=h1
   exact⟨a,b,JO hi h1⟩
  |some s'=>
   rw [hq] at h1
   have h2:=amC _ _ _ _ hq hb (ht _ (cD hi2))
   have h3:=aaL hlen ht hs k (i+1) s' (by omega) h2.1 (by omega)
   rw [BH hi h1]
   exact h3
theorem V3{F:Nat→List aK→Option (LR (List aK) (List aK×Bool×List aK))}{ps ts:List aA}(hlen:ps.length=ts.length)(ht: ∀t∈ts,iC t)
 (hs: ∀i s,i<ps.length→qG s→s.length+1+Tr.bulkL (aT ps i).tr≤68719476736→asB (j0 (aT ps i) (aT ts i) s) (F i s)) {s:List aK} (hb:qG s) (hw:s.length+wtl ps≤68719476736):asC (lW ps ts s) (loopN F (ps.length-0) 0 s):=by
 have:=aaL hlen ht hs ps.length 0 s (by omega) hb (by rwa [List.drop_zero])
 rwa [List.drop_zero,List.drop_zero] at this
theorem WM(fu:Nat)(l:List aK)(v:ByteArray)(hb:qG l):JT fu l v=some (match D3 l v with
 |some b=>(b.aB7,true)
 |none=>(aA.mk 0 (⟨#[]⟩) [],false)):=by
 unfold JT
 rw [mR (p:=fun b=>decide (b.aCH=v)) (r:=fun b=>(b.aB7,true)) (fun i hi=>by
  unfold WL
  cases h:decide ((aT l i).aCH=v)
  ·simp [sw,h]
  ·simp only [sw,h]
   rw [gO (hb _ (cD hi)) rfl]
   simp)]
 unfold D3
 cases l.find? (fun b=>decide (b.aCH=v))<;>rfl
def SMS(fu:Nat)(p:aA):Prop:= ∀(t:aA) (s:List aK),iC t→qG s→s.length+1+Tr.bulkL p.tr≤68719476736→Res (j0 p t s) (nF fu p t s)
theorem acF{fu:Nat}{ps:List aA}(hf: ∀x∈ps,SMS fu x){ts:List aA}{s:List aK}(hlen:ps.length=ts.length)(ht: ∀t∈ts,iC t)(hb:qG s)(hw:s.length+wtl ps≤68719476736):Res (lW ps ts s) (o8 (fu+1) ps ts s):=by
 have hl:=V3 (F:=SD fu (o8 fu) (nF fu) ps ts s) hlen ht (fun i s hi hb hw=>by
  have h1:=hf (aT ps i) (cD hi) (aT ts i) s (ht _ (cD (by omega))) hb hw
  unfold SD
  cases hq:j0 (aT ps i) (aT ts i) s with
  |none=>
   rw [hq] at h1
   obtain⟨a,b,h1⟩:=h1
   exact⟨_,b,gO (by omega) (fY h1 rfl)⟩
  |some s'=>
   rw [hq] at h1
   exact gO (by omega) (fY h1 (jI rfl (gO rfl rfl)))) hb hw
 rw [o8,XQ]
 cases hq:lW ps ts s with
 |none=>
  rw [hq] at hl
  obtain⟨a,b,hl⟩:=hl
  exact⟨a,b,soL hl⟩
 |some s'=>
  rw [hq] at hl
  exact X2 hl rfl
theorem aaR: ∀p:aA,bQ fun fu=>SMS fu p:=by
 refine aA.ind fun k n ps ih=>?_;refine bQ.succ (bQ.succ ((bQ.list ih).imp fun fu hf t s ht hb hw=>?_))
 have hwa:=X0 k n ps
 rw [nF,ND,j0]
 simp only [aA.aB5.eq_1,aA.aB3.eq_1,aA.aB4.eq_1]
 by_cases hk:k=1
 ·rw [if_pos hk,WM _ s n hb]
  cases hq:D3 s n with
  |some b=>
   cases he:aA.eq b.aB7 t with
   |true=>
    show Res (if aA.eq b.aB7 t=true then some s else none) _
    rw [if_pos he]
    show _=some (s,true,s)
    refine jI (decide_eq_true hk) (fY rfl (jI rfl (jI he ?_)))
    simp only [he]
   |false=>
    show Res (if aA.eq b.aB7 t=true then some s else none) _
    rw [if_neg (by simp [he])]
    refine⟨s,s,?_⟩
    refine jI (decide_eq_true hk) (fY rfl (jI rfl (gW he ?_)))
    simp only [he]
  |none=>
   show _=some (s++ [aK.mk n t],true,s++ [aK.mk n t])
   exact jI (decide_eq_true hk) (fY rfl (gW rfl (gO ht (gO (by simp only [List.length_singleton];omega) rfl))))
 ·rw [if_neg hk]
  by_cases h1:k=t.aB5
  ·rw [if_pos h1]
   by_cases h2:n=t.aB3
   ·rw [if_pos h2]
    by_cases h3:ps.length=t.aB4.length
    ·rw [if_pos h3]
     have ha:=acF hf (s:=s) h3 (fun x hx=>A3 hx ht) hb (by omega)
     cases hq:lW ps t.aB4 s with
     |none=>
      rw [hq] at ha
      obtain⟨a,b,ha⟩:=ha
      exact⟨_,_,gW (by simp [hk]) (gW (by simp [h1]) (gW (by simp [h2]) (gW (by simp [h3])<|fY ha (gW rfl rfl))))⟩
     |some s'=>
      rw [hq] at ha
      exact gW (by simp [hk]) (gW (by simp [h1]) (gW (by simp [h2]) (gW (by simp [h3])<|fY ha (jI rfl (gO rfl rfl)))))
    ·rw [if_neg h3]
     exact⟨_,_,gW (by simp [hk]) (gW (by simp [h1]) (gW (by simp [h2]) (jI (nd (fun h=>h3 (Int.ofNat_inj.1 h))) rfl)))⟩
   ·rw [if_neg h2]
    exact⟨_,_,gW (by simp [hk]) (gW (by simp [h1]) (jI (by simp [h2]) rfl))⟩
  ·rw [if_neg h1]
   exact⟨_,_,gW (by simp [hk]) (jI (by simp [h1]) rfl)⟩
theorem VI(fu:Nat)(l:List aK)(v:ByteArray)(hb:qG l):EK fu l v=some (match D3 l v with
 |some b=>(b.aB7,true)
 |none=>(aA.mk 0 (⟨#[]⟩) [],false)):=by
 unfold EK
 rw [mR (p:=fun b=>decide (b.aCH=v)) (r:=fun b=>(b.aB7,true)) (fun i hi=>by
  unfold VH
  cases h:decide ((aT l i).aCH=v)
  ·simp [sw,h]
  ·simp only [sw,h]
   rw [gO (hb _ (cD hi)) rfl]
   simp)]
 unfold D3
 cases l.find? (fun b=>decide (b.aCH=v))<;>rfl
def IMS(fu:Nat)(p:aA):Prop:= ∀(t:aA) (s:List aK),iC t→qG s→s.length+1+Tr.bulkL p.tr≤68719476736→Res (j0 p t s) (s8 fu s p t)
theorem abX{fu:Nat}{ps:List aA}(hf: ∀x∈ps,IMS fu x){ts:List aA}{s:List aK}(hlen:ps.length=ts.length)(ht: ∀t∈ts,iC t)(hb:qG s)(hw:s.length+wtl ps≤68719476736):Res (lW ps ts s) (fB (fu+1) s ps ts):=by
 have hl:=V3 (F:=zS fu (fB fu) (s8 fu) s ps ts) hlen ht (fun i s hi hb hw=>by
  have h1:=hf (aT ps i) (cD hi) (aT ts i) s (ht _ (cD (by omega))) hb hw
  unfold zS
  cases hq:j0 (aT ps i) (aT ts i) s with
  |none=>
   rw [hq] at h1
   obtain⟨a,b,h1⟩:=h1
   exact⟨_,b,gO (by omega) (fY h1 rfl)⟩
  |some s'=>
   rw [hq] at h1
   exact gO (by omega) (fY h1 (jI rfl (gO rfl rfl)))) hb hw
 rw [fB,xO]
 rw [show sw (!decide (((ps.length:Nat):Int)=((ts.length:Nat):Int)))=fun(x y:Option (List aK×Bool×List aK))=>y by funext x y;exact gW (by simp [hlen]) rfl]
 cases hq:lW ps ts s with
 |none=>
  rw [hq] at hl
  obtain⟨a,b,hl⟩:=hl
  exact⟨a,b,soL hl⟩
 |some s'=>
  rw [hq] at hl
  exact X2 hl rfl
theorem Z7: ∀p:aA,bQ fun fu=>IMS fu p:=by
 refine aA.ind fun k n ps ih=>?_;refine bQ.succ (bQ.succ ((bQ.list ih).imp fun fu hf t s ht hb hw=>?_))
 have hwa:=X0 k n ps
 rw [s8,VR,j0]
 simp only [aA.aB5.eq_1,aA.aB3.eq_1,aA.aB4.eq_1]
 by_cases hk:k=1
 ·rw [if_pos hk,VI _ s n hb]
  cases hq:D3 s n with
  |some b=>
   cases he:aA.eq b.aB7 t with
   |true=>
    show Res (if aA.eq b.aB7 t=true then some s else none) _
    rw [if_pos he]
    show _=some (s,true,s)
    refine jI (decide_eq_true hk) (fY rfl (jI rfl (jI he ?_)))
    simp only [he]
   |false=>
    show Res (if aA.eq b.aB7 t=true then some s else none) _
    rw [if_neg (by simp [he])]
    refine⟨s,s,?_⟩
    refine jI (decide_eq_true hk) (fY rfl (jI rfl (gW he ?_)))
    simp only [he]
  |none=>
   show _=some (s++ [aK.mk n t],true,s++ [aK.mk n t])
   exact jI (decide_eq_true hk) (fY rfl (gW rfl (gO ht (gO (by simp only [List.length_singleton];omega) rfl))))
 ·rw [if_neg hk]
  by_cases h1:k=t.aB5
  ·rw [if_pos h1]
   by_cases h2:n=t.aB3
   ·rw [if_pos h2]
    by_cases h3:ps.length=t.aB4.length
    ·rw [if_pos h3]
     have ha:=abX hf (s:=s) h3 (fun x hx=>A3 hx ht) hb (by omega)
     cases hq:lW ps t.aB4 s with
     |none=>
      rw [hq] at ha
      obtain⟨a,b,ha⟩:=ha
      exact⟨_,_,gW (by simp [hk]) (gW (by simp [h1]) (gW (by simp [h2]) (fY ha (gW rfl rfl))))⟩
     |some s'=>
      rw [hq] at ha
      exact gW (by simp [hk]) (gW (by simp [h1]) (gW (by simp [h2]) (fY ha (jI rfl (gO rfl rfl)))))
    ·rw [if_neg h3]
     have ha:fB (fu+1) s ps t.aB4=some ([],false,s):=by
      rw [fB,xO]
      exact jI (nd (fun h=>h3 (Int.ofNat_inj.1 h))) rfl
     exact⟨_,_,gW (by simp [hk]) (gW (by simp [h1]) (gW (by simp [h2]) (fY ha (gW rfl rfl))))⟩
   ·rw [if_neg h2]
    exact⟨_,_,gW (by simp [hk]) (gW (by simp [h1]) (jI (by simp [h2]) rfl))⟩
  ·rw [if_neg h1]
   exact⟨_,_,gW (by simp [hk]) (jI (by simp [h1]) rfl)⟩
def iY(p t:aA):Bool:=(j0 p t []).isSome
theorem qG.nil:qG []:=fun b hb=>by simp at hb
theorem F1(p t:aA):lW [p] [t] []=j0 p t []:=by
 rw [lW]
 cases hq:j0 p t [] with
 |none=>simp [hq]
 |some s=>simp [hq,lW]
theorem UP(p:aA):wtl [p]=1+Tr.bulkL p.tr:=by rw [X1];simp [wtl,aA.trs,Tr.bulkAll]
theorem SW(p t:aA)(hp:Tr.bulkL p.tr≤68719476735)(ht:iC t):bR Tryz.prog 210 [(aA.pv p),(aA.pv t)] (.t (.leaf (.bool (iY p t)))):=by
 obtain⟨fu,hf⟩:=(aaR p).get
 refine afZ (fu+1) p t _ ?_
 have h1:=acF (fu:=fu) (ps:= [p]) (by simpa using hf) (ts:= [t]) (s:= []) rfl (by simpa using ht) qG.nil (by rw [UP];simp only [List.length_nil];omega)
 rw [F1] at h1
 unfold WO O0 CT iY
 cases hq:j0 p t [] with
 |none=>
  rw [hq] at h1
  obtain⟨a,b,h1⟩:=h1
  exact fY (fY (gW rfl (fY h1 (gW rfl rfl))) rfl) rfl
 |some s=>
  rw [hq] at h1
  exact fY (fY (gW rfl (fY h1 (jI rfl (gO rfl rfl)))) rfl) rfl
theorem H7(p t:aA)(hp:Tr.bulkL p.tr≤68719476735)(ht:iC t):bR Tryz.prog 182 [(aA.pv p),(aA.pv t)] (.t (.leaf (.bool (iY p t)))):=by
 obtain⟨fu,hf⟩:=(Z7 p).get
 refine ae4 (fu+1) p t _ ?_
 have h1:=abX (fu:=fu) (ps:= [p]) (by simpa using hf) (ts:= [t]) (s:= []) rfl (by simpa using ht) qG.nil (by rw [UP];simp only [List.length_nil];omega)
 rw [F1] at h1
 unfold VK OC iY
 cases hq:j0 p t [] with
 |none=>
  rw [hq] at h1
  obtain⟨a,b,h1⟩:=h1
  exact fY (fY h1 (gW rfl rfl)) rfl
 |some s=>
  rw [hq] at h1
  exact fY (fY h1 (jI rfl (gO rfl rfl))) rfl
end Go.Proofs.YtfcoaagbccmahaaGreat.W

namespace Go.Proofs.YtfcoaagbccmahaaGreat
open Go.RowKit
section
variable {P:Program} {ops:Array Oper} {Q:Exit→Act→World→Prop} {md:Region.Mode} {S:World→Prop}
theorem q7{rest:List Oper}{o:Oper}{a:Act}{w:World}(hwd:Region.wanted o (yielded ops a.tmps)=true)(ty:TypeId)(x:Operand)(ho:o.op= .load ty x)
 (b off:Nat) (hx:a.eval x= .pointer (some ⟨b,off,none⟩)) (cs:List Value) (fs:Array Field) (hu:P.underlying ty=some (.struct fs)) (hi:(P.info? ty).map (·.size)=some cs.length)
 (hc: ∀j v,cs[j]?=some v→w.cell? ⟨b,off+j,none⟩=some v) (h:wpList P ops Q rest (a.put o.dst (.agg ⟨cs⟩)) w):wpList P ops Q (o::rest) a w:=
 wpList_step fun _ hK=>by
  rw [if_pos hwd]
  unfold Oper.wp execOp
  simp only [ho,hx,Instr.loadAt,Instr.sureAddr,Sem.run_bind,Sem.run_pure,Result.andThen_ok,G2 w b off ty cs fs hu hi hc]
  exact hK _ _ h
end
end Go.Proofs.YtfcoaagbccmahaaGreat

namespace Go.Proofs.YtfcoaagbccmahaaGreat.W
open Go.RowKit Go.Proofs
theorem asQ:(Tryz.prog.info? 26).map (·.size)=some 1:=by kernel_rfl
theorem av3:(Tryz.prog.info? 52).map (·.size)=some 2:=by kernel_rfl
theorem afT(l:List aC): ∀e∈aC.trs l,∀d∈e,∃u,d= .leaf u:=by
 intro e he d hd
 rw [aC.trs_map] at he
 obtain⟨x,_,rfl⟩:=List.mem_map.1 he
 exact V8 x d hd
theorem anG(x0:aE)(w:World)(c0:List Value)(h0:gK w x0.tr c0)(hb:(fE x0).length≤68719476736):Calls Tryz.prog 180 #[.agg ⟨c0⟩] w fun e w'=> ∃v,e= .returned v∧uM w w'∧A1 w' (.row 2 (aC.trs (fE x0))) v (NJ w w'):=by
 rw [aE.tr_cs] at h0
 exact(N7 0 x0 _ (apF 0 x0 hb)).own (afT _) (HV.cons (RV0.agg h0) HV.nil)
end Go.Proofs.YtfcoaagbccmahaaGreat.W

namespace Go.Proofs.YtfcoaagbccmahaaGreat.W
open Go.RowKit Go.Proofs
theorem izT:(Tryz.prog.info? 30).map (·.size)=some 3:=by kernel_rfl
theorem izI:(Tryz.prog.info? 163).map (·.size)=some 12:=by kernel_rfl
theorem bR.plainAB{P:Program}{f:FuncId}{args:List PV}{ts:List Tr}{d:Value}(h:bR P f args (.tup [.agg (ts.map PV.t),.t (.leaf d)])){w:World}{vals:List Value}(hv:HV w args vals):Calls P f ⟨vals⟩ w fun e w'=> ∃cs,e= .returned (.tuple #[.agg ⟨cs⟩,d])∧uM w w'∧gK w' ts cs:=
 (h av0 ab8 w vals (ar0 w) hv).mono fun e w'=>by
  rintro⟨res,st',m',v,rfl,⟨rfl,rfl⟩,-,he,vs,rfl,hr⟩
  match vs,hr with
  | [u,x],hr=>
   obtain⟨rfl,-⟩:=(cF.rep (show cF _ _ (.leaf d) x from hr.2.1)).leaf_eq
   obtain⟨cs,rfl,hl⟩:=hr.1
   exact⟨cs,rfl,he.ext,gI.ofTr hl⟩
theorem asP(x0:aE)(o:aC)(hO:mO x0 o)(w:World)(c0 cs:List Value)(h0:gK w x0.tr c0)(hr:gK w o.tr cs):Calls Tryz.prog 118 #[.agg ⟨c0⟩,.agg ⟨cs⟩] w fun e w'=> ∃ci,e= .returned (.tuple #[.agg ⟨ci⟩,.bool true])∧uM w w'∧gK w' (b6 x0 o).cs ci:=by
 rw [aE.tr_cs] at h0
 rw [aC.tr_cs] at hr
 exact bR.plainAB (ts:=(b6 x0 o).cs) (uV 0 x0 o _ (IB 0 x0 o hO)) (HV.cons (RV0.agg h0) (HV.cons (RV0.agg hr) HV.nil))
theorem anZ(p t:aA)(w:World)(c0 c1:List Value)(h0:gK w p.tr c0)(h1:gK w t.tr c1)(hp:Tr.bulkL p.tr≤68719476735)(ht:iC t):Calls Tryz.prog 182 #[.agg ⟨c0⟩,.agg ⟨c1⟩] w fun e w'=>e= .returned (.bool (iY p t))∧uM w w':=by
 rw [aA.tr_cs] at h0 h1
 exact bR.plain (H7 p t hp ht) (HV.cons (RV0.agg h0) (HV.cons (RV0.agg h1) HV.nil))
set_option maxRecDepth 100000 in
set_option maxHeartbeats 2000000 in
theorem aeU(x0:aE)(g:aG)(c0 cg:List Value)(B0 B1:Nat)(o:aC)(cs:List Value)(w:World)(hob0:OB w B0 26 ⟨c0⟩)(hob1:OB w B1 32 ⟨cg⟩)(h0:gK w x0.tr c0)(hg:gK w g.tr cg)(hr:gK w o.tr cs)(hO:mO x0 o)
 (hB0:Tr.bulkL (b6 x0 o).aCh.tr≤68719476735) (hB1:iC g.aB7):
 Calls Tryz.prog 181 (#[.agg ⟨cs⟩]++ #[.pointer (some ⟨B0,0,none⟩),.pointer (some ⟨B1,0,none⟩)]) w fun e w'=>e= .returned (.bool (!(decide ((b6 x0 o).aCa=g.aCa)&&iY (b6 x0 o).aCh g.aB7)))∧uM w w':=by
 have HI0:Hid ((Tryz.prog.info? 26).map (·.size)=some c0.length):=by rw [← h0.length,aE.tr_len];exact asQ
 have HI1:Hid ((Tryz.prog.info? 52).map (·.size)=some cs.length):=by rw [← hr.length,aC.tr_len];exact av3
 rw [aG.tr_cs] at hg
 obtain⟨d0,d1,d2,d3,rfl⟩:=asS hg.length.symm
 obtain⟨rfl,-⟩:=hg.1.leaf_eq
 have HG:Hid (gK w g.aB7.tr [d1,d2,d3]):=by rw [aA.tr_cs];exact hg.2
 have HOB0:=Lib.hid hob0
 have HOB1:=Lib.hid hob1
 have H0:=Lib.hid h0
 have HR:=Lib.hid hr
 have HB0:=Lib.hid hB0
 have HB1:=Lib.hid hB1
 clear hob0 hob1 h0 hr hg hB0 hB1
 go_enter Tryz.func181,Tryz.ntmps181
 go_wp2_with (first
  |(refine k7 rfl 26 (.tmp 1) rfl B0 0 rfl c0 _ Tryz.underlying26 HI0.out (HOB0.out.ext (.alloc (.refl _) _)).cells0 ?_)
  |(refine k7 rfl 52 (.tmp 3) rfl w.heap.size 0 rfl cs _ Tryz.underlying52 HI1.out (OB.new w _ _).cells0 ?_))
 refine(asP x0 o hO _ c0 cs (H0.out.ext (.alloc (.refl _) _)) (HR.out.ext (.alloc (.refl _) _))).mono ?_;rintro e w1 ⟨ci,rfl,hw1,hci⟩
 have HW1:=Lib.hid (uM.trans (.alloc (.refl w) _) hw1)
 clear hw1
 have HCI:=Lib.hid hci
 have HCL:Hid (ci.length=12):=by rw [← hci.length];rfl
 have HII:Hid ((Tryz.prog.info? 163).map (·.size)=some ci.length):=by rw [HCL.out];exact izI
 clear hci
 by_cases ht:(b6 x0 o).aCa=g.aCa
 ·have HT:=Lib.hid ht
  clear ht
  go_wp2_with (first
   |(refine sR rfl 163 (.tmp 5) (.tmp 11) rfl w1.heap.size 0 rfl ci rfl 163 _ (OB.new w1 _ _) HII.out (by rw [HCL.out];exact Nat.le_refl _) HCI.out.one ?_;intro w2 hob hgb hzb;rw [GW (by rw [HCL.out];rfl)] at hob;have HOBI:=Lib.hid hob;have HX2:=Lib.hid (QD (.alloc (.refl w1) _) hgb (Nat.le_refl _));clear hob hgb hzb;obtain⟨e0,e1,e2,e3,e4,e5,e6,e7,e8,e9,e10,e11,rfl⟩:=anX HCL.out;obtain⟨rfl,-⟩:=HCI.out.1.leaf_eq;have HH:Hid (gK w1 (b6 x0 o).aCh.tr [e2,e3,e4]):=(by rw [aA.tr_cs];exact⟨HCI.out.2.2.1,HCI.out.2.2.2.1,HCI.out.2.2.2.2.1,trivial⟩);have HXX:=Lib.hid (HW1.out.trans HX2.out);have hcI:w2.cell? ⟨w1.heap.size,0,none⟩=some (.string (b6 x0 o).aCa):=(by rw [HOBI.out.cell];rfl);have hcG:w2.cell? ⟨B1,0,none⟩=some (.string g.aCa):=(by rw [(HOB1.out.ext HXX.out).cell];rfl);rw [HT.out] at hcI)
   |(refine q7 (by rfl) 30 (.tmp 19) rfl w1.heap.size 2 rfl [e2,e3,e4] _ Tryz.underlying30 izT (fun j v hv=>by rw [HOBI.out.cell];rcases j with _|_|_|j<;>first|(simp at hv;done)|simpa using hv) ?_)
   |(refine q7 (by rfl) 30 (.tmp 21) rfl B1 1 rfl [d1,d2,d3] _ Tryz.underlying30 izT (fun j v hv=>by rw [(HOB1.out.ext HXX.out).cell];rcases j with _|_|_|j<;>first|(simp at hv;done)|simpa using hv) ?_))
  refine(anZ _ _ w2 _ _ (HH.out.ext HX2.out) (HG.out.ext HXX.out) HB0.out HB1.out).mono ?_;rintro e w3 ⟨rfl,hw3⟩
  have HX3:=Lib.hid (HXX.out.trans hw3)
  clear hw3
  go_wp2_with fail
  go_ret
  refine⟨?_,HX3.out⟩
  rw [decide_eq_true HT.out]
  rfl
 ·have hne: ¬(b6 x0 o).aCa.toList=g.aCa.toList:=fun h=>ht (alU h)
  have HD:Hid (decide ((b6 x0 o).aCa=g.aCa)=false):=decide_eq_false ht
  have HT:Hid ((b6 x0 o).aCa=(b6 x0 o).aCa):=rfl
  clear ht
  go_wp2_with (first
   |(refine sR rfl 163 (.tmp 5) (.tmp 11) rfl w1.heap.size 0 rfl ci rfl 163 _ (OB.new w1 _ _) HII.out (by rw [HCL.out];exact Nat.le_refl _) HCI.out.one ?_;intro w2 hob hgb hzb;rw [GW (by rw [HCL.out];rfl)] at hob;have HOBI:=Lib.hid hob;have HX2:=Lib.hid (QD (.alloc (.refl w1) _) hgb (Nat.le_refl _));clear hob hgb hzb;obtain⟨e0,e1,e2,e3,e4,e5,e6,e7,e8,e9,e10,e11,rfl⟩:=anX HCL.out;obtain⟨rfl,-⟩:=HCI.out.1.leaf_eq;have HH:Hid (gK w1 (b6 x0 o).aCh.tr [e2,e3,e4]):=(by rw [aA.tr_cs];exact⟨HCI.out.2.2.1,HCI.out.2.2.2.1,HCI.out.2.2.2.2.1,trivial⟩);have HXX:=Lib.hid (HW1.out.trans HX2.out);have hcI:w2.cell? ⟨w1.heap.size,0,none⟩=some (.string (b6 x0 o).aCa):=(by rw [HOBI.out.cell];rfl);have hcG:w2.cell? ⟨B1,0,none⟩=some (.string g.aCa):=(by rw [(HOB1.out.ext HXX.out).cell];rfl))
   |(refine q7 (by rfl) 30 (.tmp 19) rfl w1.heap.size 2 rfl [e2,e3,e4] _ Tryz.underlying30 izT (fun j v hv=>by rw [HOBI.out.cell];rcases j with _|_|_|j<;>first|(simp at hv;done)|simpa using hv) ?_)
   |(refine q7 (by rfl) 30 (.tmp 21) rfl B1 1 rfl [d1,d2,d3] _ Tryz.underlying30 izT (fun j v hv=>by rw [(HOB1.out.ext HXX.out).cell];rcases j with _|_|_|j<;>first|(simp at hv;done)|simpa using hv) ?_))
  go_ret
  refine⟨?_,HXX.out⟩
  rw [HD.out]
  rfl
def rC(w:aE)(g:aG)(o:aC):Bool:=decide ((b6 w o).aCa=g.aCa)&&iY (b6 w o).aCh g.aB7
set_option maxRecDepth 100000 in
set_option maxHeartbeats 2000000 in
theorem aeV(x0:aE)(g:aG)(w:World)(c0 cg:List Value)(h0:gK w x0.tr c0)(hg:gK w g.tr cg)(hb:(fE x0).length≤68719476736)(hB0: ∀o,mO x0 o→Tr.bulkL (b6 x0 o).aCh.tr≤68719476735)(hB1:iC g.aB7):
 Calls Tryz.prog 155 #[.agg ⟨c0⟩,.agg ⟨cg⟩] w fun e w'=> ∃v,e= .returned v∧uM w w'∧A1 w' (.row 2 (aC.trs ((fE x0).filter fun o=>rC x0 g o))) v (NJ w w'):=by
 have H0:=Lib.hid h0
 have HG:=Lib.hid hg
 have HB0:=Lib.hid hB0
 have HI0:Hid ((Tryz.prog.info? 26).map (·.size)=some c0.length):=by rw [← h0.length,aE.tr_len];exact asQ
 clear h0 hg hB0
 go_enter Tryz.func155,Tryz.ntmps155
 go_wp2_with (refine k7 rfl 26 (.tmp 2) rfl w.heap.size 0 rfl c0 _ Tryz.underlying26 HI0.out (Two.new w _ _ _ _).o0.cells0 ?_)
 refine(anG x0 _ c0 (H0.out.ext (.alloc (.alloc (.refl _) _) _)) hb).mono ?_;rintro e w1 ⟨v,rfl,hw1,ho1⟩
 have HW1:=Lib.hid hw1
 have HO1:=Lib.hid ho1
 clear hw1 ho1
 go_wp2_with fail
 refine(U7 (fE x0) (fun o=> !rC x0 g o) 181 #[.pointer (some ⟨w.heap.size,0,none⟩),.pointer (some ⟨w.heap.size+1,0,none⟩)] (iA Tryz.func181 (by kernel_rfl) (by kernel_rfl)) v w1 (NJ ((w.alloc _).alloc _) w1) (fun x hx=>hx.2) (fun o ho cs W hW hr=>by
  have hx:=NK.ext HW1.out hW (fun x hx=>hx.1)
  exact aeU x0 g c0 cg w.heap.size (w.heap.size+1) o cs W ((Two.new w _ _ _ _).o0.ext hx) ((Two.new w _ _ _ _).o1.ext hx) (H0.out.ext (uM.trans (.alloc (.alloc (.refl _) _) _) hx)) (HG.out.ext (uM.trans (.alloc (.alloc (.refl _) _) _) hx)) hr (UJ ho) (HB0.out o (UJ ho)) hB1) (by rw [← aC.trs_map];exact HO1.out)).mono ?_
 rintro e w2 ⟨v2,rfl,hc2,ho2⟩
 have hx2:=NK.ext HW1.out hc2 (fun x hx=>hx.1)
 have HX2:=Lib.hid (uM.trans (.alloc (.alloc (.refl _) _) _) hx2)
 have hz:w1.heap.size≤w2.heap.size:=hc2.size
 have HO2:=Lib.hid ho2
 clear hc2 hx2 ho2
 go_wp2_with fail
 go_ret
 refine⟨_,rfl,HX2.out,?_⟩
 rw [aC.trs_map]
 have ho:=HO2.out
 simp only [Bool.not_not] at ho
 exact ho.mono fun x hx=>⟨by have h1:=hx.1;simp only [World.size_alloc] at h1;omega,by have h1:=hx.2;omega⟩
theorem al0(w:aE)(g:aG)(hw:wt w≤13000000)(hg:iC g.aB7):bR Tryz.prog 155 [(aE.pv w),(aG.pv g)] (cX ((fE w).filter fun o=>rC w g o)):=
 bR.ofFresh rfl fun W vals hv=>by
  match vals,hv with
  | [v0,v1],hv=>
   obtain⟨c0,rfl,h0⟩:=hv.1
   obtain⟨c1,rfl,h1⟩:=hv.2.1
   exact aeV w g W c0 c1 (gI.ofTr (ts:=w.tr) (by rw [aE.tr_cs];exact h0)) (gI.ofTr (ts:=g.tr) (by rw [aG.tr_cs];exact h1)) (Nat.le_trans (U1 hw) (by decide)) (fun o ho=>Nat.le_trans (akS hw ho) (by decide)) hg
end Go.Proofs.YtfcoaagbccmahaaGreat.W

namespace Go.Proofs.YtfcoaagbccmahaaGreat.W
set_option maxRecDepth 100000
set_option maxHeartbeats 40000000
noncomputable section
open Tryz Go.RowKit Go.Proofs
attribute [local irreducible] lt
def SV(fu:Nat)(pt:aA):Option Bool:=bd (nP fu pt) fun x2=>sw (decide ((x2.length:Int)=0)) (bd (dM fu pt) fun x5=>some (!(x5))) (some false)
theorem acK(fu:Nat)(pt:aA)(r:Bool)(H:SV fu pt=some r):bR Tryz.prog 34 [(aA.pv pt)] (pB r):=by
 refine qJ func34 H (fun C hC H=>?_)
 refine gQ 2 ?_;refine q1 (eX (bM pt)) ?_;refine gQ 4 ?_;refine q1 (bW [pI pt.aB5,pS pt.aB3,aR pt.aB4]) (bK H fun x2 z1 H=>(q1 (bE func85 (CY fu pt _ z1)) ?_))
 refine gQ 3 ?_;refine dH 7 H (fun g3 H=>?_) fun g3 H=>?_
 ·refine qg g3 (bW [pI pt.aB5,pS pt.aB3,aR pt.aB4]) (bK H fun x5 z4 H=>(qg g3 (bE func86 (vB fu pt _ z4)) ?_))
  exact gE 4
 exact gE 6
def D6(fu:Nat)(ps:LB)(pv:ByteArray):Nat→Unit→Option (LR Unit Int):=fun i1 _=>sw (decide (pv=aT ps i1)) (some (.ret (i1:Int))) (some (.next ()))
def tE(fu:Nat)(ps:LB)(pv:ByteArray):Option Int:=so (loopN (D6 fu ps pv) (ps.length-0) 0 ()) fun _=>some (-1)
theorem QB(fu:Nat)(ps:LB)(pv:ByteArray)(r:Int)(H:tE fu ps pv=some r):bR Tryz.prog 213 [rS ps,pS pv] (pI r):=by
 refine qJ func213 H (fun C hC H=>?_)
 refine gQ 11 ?_;refine gL 0 (bV _) (fun hl2=>?_)
 refine bU (σ:=Unit) (fun i1 _=>⟨[(0,rS ps),(1,pS pv),(4,pI 0),(7,pN ps.length),(8,pN i1)],⟨[],[]⟩⟩) (fun _=>⟨[(4,pI 0)],⟨[],[]⟩⟩) (eK H) ?_ ?_
 ·rintro i1 ⟨⟩ H
  refine gQ 5 ?_;refine cS H (fun h3 h3l H=>?_) (fun h3 H=>?_)
  ·refine gQ 17 ?_;refine bC H (fun h4 H=>gE 5) fun h4 H=>?_;exact gE 5
  exact gE 0
 rintro⟨⟩ H
 exact gE 4
def lU(fu:Nat)(ps:LB)(pv:ByteArray):Option Bool:=bd (tE fu ps pv) fun x2=>some (decide (x2≥0))
theorem zE(fu:Nat)(ps:LB)(pv:ByteArray)(r:Bool)(H:lU fu ps pv=some r):bR Tryz.prog 195 [rS ps,pS pv] (pB r):=by
 refine qJ func195 H (fun C hC H=>?_)
 refine gQ 8 ?_;refine bK H fun x2 z1 H=>(q1 (bE func213 (QB fu ps pv _ z1)) ?_)
 exact gE 3
def r9(fu:Nat)(pu:aA)(c1:LB):Option ((LB)):=sw (decide (pu.aB5=1)) (bd (lU fu c1 pu.aB3) fun x3=>sw (!(x3)) (gd ((c1).length+(([pu.aB3]:LB)).length≤68719476736) (some (c1++([pu.aB3]:LB)))) (some c1)) (some c1)
theorem ON(fu:Nat)(pu:aA)(c1:LB)(r:(LB))(H:r9 fu pu c1=some r):b7 Tryz.prog 194 [(aA.pv pu),.ptr 0 0] ⟨[some ⟨36,[aS c1 0]⟩],[⟨9,1,aY (c1),false⟩]⟩ (fun q t=>q=(.tup [])∧t=⟨[some ⟨36,[aS r 0]⟩],[⟨9,1,aY (r),false⟩]⟩):=by
 refine qJ func194 H (fun C hC H=>?_)
 refine gQ 2 ?_;refine q1 (eX (bM pu)) ?_;refine gQ 7 ?_;refine dH 6 H (fun g1 H=>?_) fun g1 H=>?_
 ·refine gQ 3 ?_;refine bK H fun x3 z2 H=>(qg g1 (bE func195 (zE fu c1 pu.aB3 _ z2)) ?_)
  refine gQ 3 ?_;refine bC H (fun h4 H=>?_) (fun h4 H=>?_)
  ·refine gQ 4 ?_;refine q1 (iF ([pu.aB3]:LB)) (cC H fun z5 H=>(q1 (lG z5) ?_))
   refine gQ 2 ?_
   cases vI H
   exact qe (ps:= []) ⟨rfl,rfl⟩ trivial
  refine cQ.skip ?_
  cases vI H
  exact qe (ps:= []) ⟨rfl,rfl⟩ trivial
 refine gQ 9 ?_
 cases vI H
 exact qe (ps:= []) ⟨rfl,rfl⟩ trivial
abbrev iV:=aA→(LB)→Option ((LB))
def iU(m:iV):Prop:= ∀(pt:aA) (c1_0:LB) (r:(LB)),m pt c1_0=some r→b7 Tryz.prog 93 [(aA.pv pt),.fn 194 [.ptr 0 0]] ⟨[some ⟨36,[aS c1_0 0]⟩],[⟨9,1,aY (c1_0),false⟩]⟩ (fun q t=>q=(.tup []:PV)∧t=⟨[some ⟨36,[aS r 0]⟩],[⟨9,1,aY (r),false⟩]⟩)
def o3(fu:Nat)(p1:iV)(pt:aA)(c1_0 x2:LB):Nat→((LB))→Option (LR ((LB)) ((LB))):=fun i3 v5=>bd (p1 (aT pt.aB4 i3) v5) fun x9=>some (.next x9)
def lD(fu:Nat)(p1:iV)(pt:aA)(c1_0:LB):Option ((LB)):=bd (r9 fu pt c1_0) fun x2=>so (loopN (o3 fu p1 pt c1_0 x2) (pt.aB4.length-0) 0 x2) fun v5=>some v5
theorem vY(fu:Nat)(p1:iV)(p3:iU p1):iU (lD fu p1):=by
 intro pt c1_0 r H
 refine qJ func93 H (fun C hC H=>?_)
 refine gQ 2 ?_;refine q1 (eX (bM pt)) ?_;refine gQ 4 ?_;refine q1 (bW [pI pt.aB5,pS pt.aB3,aR pt.aB4]) (bK H fun x2 z1 H=>(q1 (bB.callVPE (pre:=⟨[some ⟨36,[aS c1_0 0]⟩],[⟨9,1,aY (c1_0),false⟩]⟩) (st':=⟨[some ⟨36,[aS x2 0]⟩],[⟨9,1,aY (x2),false⟩]⟩) (ps:= [_]) (cs:= [.ptr 0 0]) (qs:= [(aA.pv pt),.ptr 0 0]) [0] [0] rfl rfl rfl func194 (by kernel_rfl) rfl rfl rfl (eZ.of ⟨⟨_,rfl,rfl,jN,rfl⟩,trivial⟩ ⟨rfl,trivial⟩ (by decide) (by decide)) jN rfl rfl rfl (ON fu pt c1_0 _ z1)) ?_))
 refine gQ 8 ?_;refine gL 10 (aA.trs_len _) (fun hl6=>?_)
 refine bU (σ:=(LB)) (fun i3 v5=>⟨[(1,.fn 194 [.ptr 0 0]),(10,aR pt.aB4),(11,pN pt.aB4.length),(12,pN i3)],⟨[some ⟨36,[aS v5 0]⟩,some ⟨30,bM pt⟩],[⟨9,1,aY (v5),false⟩]⟩⟩) (fun v5=>⟨[],⟨[some ⟨36,[aS v5 0]⟩,some ⟨30,bM pt⟩],[⟨9,1,aY (v5),false⟩]⟩⟩) (eK H) ?_ ?_
 ·rintro i3 v5 H
  refine gQ 5 ?_;refine cS H (fun h7 h7l H=>?_) (fun h7 H=>?_)
  ·refine gQ 6 ?_;refine q1 (iI (aA.cs (aT pt.aB4 i3))) ?_;refine gQ 4 ?_;refine q1 (bW [pI ((aT pt.aB4 i3).aB5),pS ((aT pt.aB4 i3).aB3),aR ((aT pt.aB4 i3).aB4)]) (q1 bF (bK H fun x9 z8 H=>(q1 (eU [0] [0] func93 (p3 (aT pt.aB4 i3) v5 _ z8)) ?_)))
   exact gE 5
  exact gE 0
 rintro v5 H
 cases vI H
 exact qe (ps:= []) ⟨rfl,rfl⟩ trivial
def cR:Nat→aA→(LB)→Option ((LB))
 |0,_,_=>none
 |fu+1,pt,c1_0=>lD fu (cR fu) pt c1_0
theorem xN(fu:Nat):iU (cR fu):=by
 induction fu with
 |zero=>exact(fun pt c1_0 r H=>by simp only [cR] at H;cases H)
 |succ fu ih=>exact(fun pt c1_0 r H=>by simp only [cR] at H;exact vY fu (cR fu) ih pt c1_0 r H)
theorem yO(fu:Nat):iU (cR fu):=(xN fu)
def GZ(fu:Nat)(p4:List aA):Nat→((LB))→Option (LR ((LB)) ((LB))):=fun i1 v3=>bd (cR fu (aT p4 i1) v3) fun x7=>some (.next x7)
def BC(fu:Nat)(p4:List aA):Option ((LB)):=so (loopN (GZ fu p4) (p4.length-0) 0 ([])) fun v3=>some v3
theorem TN(fu:Nat)(p4:List aA)(r:(LB))(H:BC fu p4=some r):bR Tryz.prog 169 [aR p4] (rS r):=by
 refine qJ func169 H (fun C hC H=>?_)
 refine gQ 6 ?_;refine q1 (qE ([]:LB)) ?_;refine gQ 10 ?_;refine gL 0 (aA.trs_len _) (fun hl4=>?_)
 refine bU (σ:=(LB)) (fun i1 v3=>⟨[(2,.nil),(3,.ptr 0 0),(7,aR p4),(8,pN p4.length),(9,pN i1)],⟨[some ⟨36,[aS v3 0]⟩],[⟨9,1,aY (v3),false⟩]⟩⟩) (fun v3=>⟨[(2,.nil),(3,.ptr 0 0)],⟨[some ⟨36,[aS v3 0]⟩],[⟨9,1,aY (v3),false⟩]⟩⟩) (eK H) ?_ ?_
 ·rintro i1 v3 H
  refine gQ 5 ?_;refine cS H (fun h5 h5l H=>?_) (fun h5 H=>?_)
  ·refine gQ 6 ?_;refine q1 (iI (aA.cs (aT p4 i1))) ?_;refine gQ 4 ?_;refine q1 (bW [pI ((aT p4 i1).aB5),pS ((aT p4 i1).aB3),aR ((aT p4 i1).aB4)]) (q1 rMf (bK H fun x7 z6 H=>(q1 (eU [0] [0] func93 (yO fu (aT p4 i1) v3 _ z6)) ?_)))
   exact gE 5
  exact gE 0
 rintro v3 H
 exact gE 5
def r7(fu:Nat)(pt:aA):Option ((LB)):=bd (BC fu ([pt]:List aA)) fun x2=>some x2
theorem OH(fu:Nat)(pt:aA)(r:(LB))(H:r7 fu pt=some r):bR Tryz.prog 133 [(aA.pv pt)] (rS r):=by
 refine qJ func133 H (fun C hC H=>?_)
 refine gQ 2 ?_;refine q1 (eX (bM pt)) ?_;refine gQ 4 ?_;refine q1 (bW [pI pt.aB5,pS pt.aB3,aR pt.aB4]) (q1 (iF ([pt]:List aA)) (bK H fun x2 z1 H=>(q1 (bE func169 (TN fu ([pt]:List aA) _ z1)) ?_)))
 exact gE 2
def nX(fu:Nat)(pu:aA)(c1:Bool):Option Bool:=sw (c1) (some true) (some (decide (pu.aB5=3)))
theorem KI(fu:Nat)(pu:aA)(c1:Bool)(r:Bool)(H:nX fu pu c1=some r):b7 Tryz.prog 94 [(aA.pv pu),.ptr 0 0] ⟨[some ⟨4,[pB c1]⟩],[]⟩ (fun q t=>q=(.tup [])∧t=⟨[some ⟨4,[pB r]⟩],[]⟩):=by
 refine qJ func94 H (fun C hC H=>?_)
 refine gQ 2 ?_;refine q1 (eX (bM pu)) ?_;refine gQ 4 ?_;refine dH 4 H (fun g1 H=>?_) fun g1 H=>?_
 ·refine gQ 6 ?_
  cases vI H
  exact qe (ps:= []) ⟨rfl,rfl⟩ trivial
 refine gQ 6 ?_
 cases vI H
 exact qe (ps:= []) ⟨rfl,rfl⟩ trivial
abbrev hY:=aA→Bool→Option Bool
def hM(m:hY):Prop:= ∀(pt:aA) (c1_0:Bool) (r:Bool),m pt c1_0=some r→b7 Tryz.prog 93 [(aA.pv pt),.fn 94 [.ptr 0 0]] ⟨[some ⟨4,[pB c1_0]⟩],[]⟩ (fun q t=>q=(.tup []:PV)∧t=⟨[some ⟨4,[pB r]⟩],[]⟩)
def nK(fu:Nat)(p0:hY)(pt:aA)(c1_0 x2:Bool):Nat→Bool→Option (LR Bool Bool):=fun i3 v4=>bd (p0 (aT pt.aB4 i3) v4) fun x8=>some (.next x8)
def kK(fu:Nat)(p0:hY)(pt:aA)(c1_0:Bool):Option Bool:=bd (nX fu pt c1_0) fun x2=>so (loopN (nK fu p0 pt c1_0 x2) (pt.aB4.length-0) 0 x2) fun v4=>some v4
theorem uU(fu:Nat)(p0:hY)(p2:hM p0):hM (kK fu p0):=by
 intro pt c1_0 r H
 refine qJ func93 H (fun C hC H=>?_)
 refine gQ 2 ?_;refine q1 (eX (bM pt)) ?_;refine gQ 4 ?_;refine q1 (bW [pI pt.aB5,pS pt.aB3,aR pt.aB4]) (bK H fun x2 z1 H=>(q1 (bB.callVPE (pre:=⟨[some ⟨4,[pB c1_0]⟩],[]⟩) (st':=⟨[some ⟨4,[pB x2]⟩],[]⟩) (ps:= [_]) (cs:= [.ptr 0 0]) (qs:= [(aA.pv pt),.ptr 0 0]) [0] [] rfl rfl rfl func94 (by kernel_rfl) rfl rfl rfl (eZ.of ⟨⟨_,rfl,rfl,jN,rfl⟩,trivial⟩ trivial (by decide) (by decide)) jN rfl rfl rfl (KI fu pt c1_0 _ z1)) ?_))
 refine gQ 8 ?_;refine gL 10 (aA.trs_len _) (fun hl5=>?_)
 refine bU (σ:=Bool) (fun i3 v4=>⟨[(1,.fn 94 [.ptr 0 0]),(10,aR pt.aB4),(11,pN pt.aB4.length),(12,pN i3)],⟨[some ⟨4,[pB v4]⟩,some ⟨30,bM pt⟩],[]⟩⟩) (fun v4=>⟨[],⟨[some ⟨4,[pB v4]⟩,some ⟨30,bM pt⟩],[]⟩⟩) (eK H) ?_ ?_
 ·rintro i3 v4 H
  refine gQ 5 ?_;refine cS H (fun h6 h6l H=>?_) (fun h6 H=>?_)
  ·refine gQ 6 ?_;refine q1 (iI (aA.cs (aT pt.aB4 i3))) ?_;refine gQ 4 ?_;refine q1 (bW [pI ((aT pt.aB4 i3).aB5),pS ((aT pt.aB4 i3).aB3),aR ((aT pt.aB4 i3).aB4)]) (q1 bF (bK H fun x8 z7 H=>(q1 (eU [0] [] func93 (p2 (aT pt.aB4 i3) v4 _ z7)) ?_)))
   exact gE 5
  exact gE 0
 rintro v4 H
 cases vI H
 exact qe (ps:= []) ⟨rfl,rfl⟩ trivial
def cJ:Nat→aA→Bool→Option Bool
 |0,_,_=>none
 |fu+1,pt,c1_0=>kK fu (cJ fu) pt c1_0
theorem vL(fu:Nat):hM (cJ fu):=by
 induction fu with
 |zero=>exact(fun pt c1_0 r H=>by simp only [cJ] at H;cases H)
 |succ fu ih=>exact(fun pt c1_0 r H=>by simp only [cJ] at H;exact uU fu (cJ fu) ih pt c1_0 r H)
theorem vX(fu:Nat):hM (cJ fu):=(vL fu)
def vV(fu:Nat)(pt:aA):Option Bool:=bd (cJ fu pt false) fun x2=>some x2
theorem OA(fu:Nat)(pt:aA)(r:Bool)(H:vV fu pt=some r):bR Tryz.prog 39 [(aA.pv pt)] (pB r):=by
 refine qJ func39 H (fun C hC H=>?_)
 refine gQ 2 ?_;refine q1 (eX (bM pt)) ?_;refine gQ 9 ?_;refine q1 (bW [pI pt.aB5,pS pt.aB3,aR pt.aB4]) (q1 rMf (bK H fun x2 z1 H=>(q1 (eU [1] [] func93 (vX fu pt false _ z1)) ?_)))
 exact gE 6
def SP(fu:Nat)(pt:aA):Option Bool:=bd (r7 fu pt) fun x2=>sw (decide ((x2.length:Int)=0)) (bd (vV fu pt) fun x5=>some (!(x5))) (some false)
theorem ab0(fu:Nat)(pt:aA)(r:Bool)(H:SP fu pt=some r):bR Tryz.prog 78 [(aA.pv pt)] (pB r):=by
 refine qJ func78 H (fun C hC H=>?_)
 refine gQ 2 ?_;refine q1 (eX (bM pt)) ?_;refine gQ 4 ?_;refine q1 (bW [pI pt.aB5,pS pt.aB3,aR pt.aB4]) (bK H fun x2 z1 H=>(q1 (bE func133 (OH fu pt _ z1)) ?_))
 refine gQ 3 ?_;refine dH 7 H (fun g3 H=>?_) fun g3 H=>?_
 ·refine qg g3 (bW [pI pt.aB5,pS pt.aB3,aR pt.aB4]) (bK H fun x5 z4 H=>(qg g3 (bE func39 (OA fu pt _ z4)) ?_))
  exact gE 4
 exact gE 6
def mU(fu:Nat)(pa pb:aA):Option Bool:=gd (Tr.bulkL (aA.tr pb)≤68719476735) (gd (iC pa) (some (iY pb pa)))
theorem vO(fu:Nat)(pa:aA)(pb:aA)(r:Bool)(H:mU fu pa pb=some r):bR Tryz.prog 211 [(aA.pv pa),(aA.pv pb)] (pB r):=by
 refine qJ func211 H (fun C hC H=>?_)
 refine gQ 2 ?_;refine q1 (eX (bM pa)) (q1 (eX (bM pb)) ?_)
 refine gQ 4 ?_;refine q1 (bW [pI pb.aB5,pS pb.aB3,aR pb.aB4]) (q1 (bW [pI pa.aB5,pS pa.aB3,aR pa.aB4]) (cC H fun z1 H=>(cC H fun z2 H=>(q1 (bE func210 (SW pb pa z1 z2)) ?_))))
 exact gE 2
def G4(fu:Nat)(pa pb:aA):Option Bool:=bd (mU fu pa pb) fun x2=>sw x2 (bd (mU fu pb pa) fun x5=>some (!(x5))) (some false)
theorem RK(fu:Nat)(pa:aA)(pb:aA)(r:Bool)(H:G4 fu pa pb=some r):bR Tryz.prog 186 [(aA.pv pa),(aA.pv pb)] (pB r):=by
 refine qJ func186 H (fun C hC H=>?_)
 refine gQ 2 ?_;refine q1 (eX (bM pa)) (q1 (eX (bM pb)) ?_)
 refine gQ 4 ?_;refine q1 (bW [pI pa.aB5,pS pa.aB3,aR pa.aB4]) (q1 (bW [pI pb.aB5,pS pb.aB3,aR pb.aB4]) (bK H fun x2 z1 H=>(q1 (bE func211 (vO fu pa pb _ z1)) (q1 bF ?_))))
 refine dH 8 H (fun g3 H=>?_) fun g3 H=>?_
 ·refine qg g3 (bW [pI pb.aB5,pS pb.aB3,aR pb.aB4]) (qg g3 (bW [pI pa.aB5,pS pa.aB3,aR pa.aB4]) (bK H fun x5 z4 H=>(qg g3 (bE func211 (vO fu pb pa _ z4)) ?_)))
  exact gE 4
 exact gE 7
def GY(fu:Nat)(pa pb:aA):Option Bool:=gd (Tr.bulkL (aA.tr pb)≤68719476735) (gd (iC pa) (sw (iY pb pa) (gd (Tr.bulkL (aA.tr pa)≤68719476735) (gd (iC pb) (some (!(iY pa pb))))) (some false)))
theorem QH(fu:Nat)(pa:aA)(pb:aA)(r:Bool)(H:GY fu pa pb=some r):bR Tryz.prog 158 [(aA.pv pa),(aA.pv pb)] (pB r):=by
 refine qJ func158 H (fun C hC H=>?_)
 refine gQ 2 ?_;refine q1 (eX (bM pa)) (q1 (eX (bM pb)) ?_)
 refine gQ 4 ?_;refine q1 (bW [pI pb.aB5,pS pb.aB3,aR pb.aB4]) (q1 (bW [pI pa.aB5,pS pa.aB3,aR pa.aB4]) (cC H fun z1 H=>(cC H fun z2 H=>(q1 (bE func182 (H7 pb pa z1 z2)) (q1 bF ?_)))))
 refine dH 8 H (fun g3 H=>?_) fun g3 H=>?_
 ·refine qg g3 (bW [pI pa.aB5,pS pa.aB3,aR pa.aB4]) (qg g3 (bW [pI pb.aB5,pS pb.aB3,aR pb.aB4]) (cC H fun z4 H=>(cC H fun z5 H=>(qg g3 (bE func182 (H7 pa pb z4 z5)) ?_))))
  exact gE 4
 exact gE 7
end
end Go.Proofs.YtfcoaagbccmahaaGreat.W

namespace Go.Proofs.YtfcoaagbccmahaaGreat.W
attribute [local irreducible] lt
open Go.RowKit Go.WalkArith
theorem aeY{α:Type}{p:α→Bool}: ∀l:List α,(l.find? p).isSome=l.any p
 | []=>rfl
 |a::l=>by
  rw [List.find?_cons,List.any_cons]
  cases p a with
  |true=>rfl
  |false=>exact aeY l
theorem ak7{α:Type}{p:α→Bool}{l:List α}{m:Option (Bool⊕Unit)}{f:Unit→Option Bool}(hm:m=some (match l.find? p with|some _=> .inl true|none=> .inr ())){b:Bool}(hf:f ()=some b):so m f=some (l.any p||b):=by
 have h:=aeY (p:=p) l
 cases hq:l.find? p with
 |none=>
  rw [hq] at hm h
  rw [← h]
  exact X2 hm hf
 |some x=>
  rw [hq] at hm h
  rw [← h]
  exact soL hm
def uR(l:LB)(s:ByteArray):Bool:=l.any fun x=>decide (x=s)
theorem R7(fu:Nat)(l:LB)(s:ByteArray):lA fu l s=some (uR l s):=by
 unfold lA
 rw [ak7 (l:=l) (p:=fun x=>decide (x=s)) (b:=false) ?_ rfl,Bool.or_false]
 ·rfl
 ·exact mR (p:=fun x=>decide (x=s)) (r:=fun _=>true) (fun i hi=>by unfold aaW;cases decide (aT l i=s)<;>rfl)
theorem NW(fu:Nat)(l:LB)(s:ByteArray):lU fu l s=some (uR l s):=by
 have h1:tE fu l s=some (match l.findIdx? (fun x=>decide (s=x)) with|some i=>((i:Nat):Int)|none=> -1):=by
  unfold tE
  rw [xS (l:=l) (p:=fun x=>decide (s=x)) fun i hi=>by
   unfold D6
   cases decide (s=aT l i)<;>rfl]
  cases l.findIdx? fun x=>decide (s=x)<;>rfl
 have h2:(fun x=>decide (s=x))=fun x=>decide (x=s):=funext fun x=>decide_eq_decide.2 ⟨Eq.symm,Eq.symm⟩
 unfold lU
 refine fY h1 (congrArg some ?_)
 refine QJ.trans ?_
 rw [h2]
 rfl
def AH(k:Int)(n:ByteArray)(o:LB):LB:=if k=1 then(bif uR o n then o else o++ [n]) else o
mutual
def vsO:aA→LB→LB
 | .mk k n xs,o=>ahO xs (AH k n o)
def ahO:List aA→LB→LB
 | [],o=>o
 |x::r,o=>ahO r (vsO x o)
end
theorem SG: ∀(xs:List aA) (o:LB),ahO xs o=xs.foldl (fun s x=>vsO x s) o
 | [],o=>rfl
 |x::r,o=>by rw [ahO,List.foldl_cons,SG r]
theorem aaM: ∀(l U:LB),l.Nodup→(∀x∈l,x∈U)→l.length≤U.length
 | [],U,_,_=>by simp
 |a::l,U,hn,h=>by
  rw [List.nodup_cons] at hn
  have ha:a∈U:=h a (by simp)
  have h1:=aaM l (U.filter fun x=> !decide (x=a)) hn.2 fun x hx=>List.mem_filter.2 ⟨h x (List.mem_cons_of_mem _ hx),by
   have:x≠a:=fun e=>hn.1 (e ▸ hx)
   simp [this]⟩
  have h2:(U.filter fun x=> !decide (x=a)).length<U.length:=List.length_filter_lt_length_iff_exists.2 ⟨a,ha,by simp⟩
  rw [List.length_cons]
  omega
def InU(U o:LB):Prop:=o.Nodup∧ ∀x∈o,x∈U
theorem apD{o:LB}{n:ByteArray}(h:uR o n=false):n∉o:=fun hn=>by
 have:uR o n=true:=List.any_eq_true.2 ⟨n,hn,decide_eq_true rfl⟩
 rw [h] at this
 cases this
theorem InU.snoc{U o:LB}{n:ByteArray}(h:InU U o)(hn:n∈U)(hh:uR o n=false):InU U (o++ [n]):=by
 refine⟨List.nodup_append.2 ⟨h.1,by simp,fun a ha b hb e=>apD hh ?_⟩,fun x hx=>?_⟩
 ·rw [List.mem_singleton.1 hb] at e
  exact e ▸ ha
 ·rcases List.mem_append.1 hx with h1|h1
  ·exact h.2 x h1
  ·rw [List.mem_singleton.1 h1];exact hn
theorem InU.room{U o:LB}{n:ByteArray}(h:InU U o)(hn:n∈U)(hh:uR o n=false)(hU:U.length≤68719476736):o.length+1≤68719476736:=by
 have h1:=h.snoc hn hh
 have:=aaM _ _ h1.1 h1.2
 simp only [List.length_append,List.length_singleton] at this
 omega
theorem NG{U:LB}{k:Int}{n:ByteArray}{o:LB}(hn:k=1→n∈U)(h:InU U o):InU U (AH k n o):=by
 unfold AH
 split
 ·cases hq:uR o n with
  |true=>exact h
  |false=>exact h.snoc (hn ‹_›) hq
 ·exact h
theorem aa9{U:LB}: ∀(xs:List aA),(∀x∈xs,∀o,Gd U x→InU U o→InU U (vsO x o))→GdL U xs→ ∀o,InU U o→InU U (ahO xs o)
 | [],_,_,o,h=>h
 |x::r,hx,hg,o,h=>by
  rw [GdL] at hg
  rw [ahO]
  exact aa9 r (fun y hy=>hx y (List.mem_cons_of_mem _ hy)) hg.2 _ (hx x (by simp) o hg.1 h)
theorem aoX{U:LB}: ∀(t:aA) (o:LB),Gd U t→InU U o→InU U (vsO t o):=by
 refine aA.ind fun k n xs ih o hg h=>?_
 rw [Gd] at hg
 rw [vsO]
 exact aa9 xs ih hg.2.2 _ (NG hg.1 h)
theorem aj8: ∀t:aA,bQ fun fu=> ∀U o:LB,U.length≤68719476736→Gd U t→InU U o→lR fu t o=some (vsO t o):=by
 refine aA.ind fun k n xs ih=>?_;refine bQ.succ ((bQ.list ih).imp fun fu hf U o hU hg ho=>?_)
 have hg':=hg
 rw [Gd] at hg'
 simp only [lR,KA]
 have hC:NB fu (lR fu) (.mk k n xs) o=some (.inr (AH k n o)):=by
  unfold NB AH
  simp only [aA.aB5.eq_1,aA.aB3.eq_1]
  by_cases hk:k=1
  ·rw [if_pos hk]
   refine jI (by simp [hk]) (fY (R7 fu o n) ?_)
   cases hq:uR o n with
   |true=>exact gW rfl rfl
   |false=>exact jI rfl (gO (ho.room (hg'.1 hk) hq hU) rfl)
  ·rw [if_neg hk]
   exact gW (by simp [hk]) rfl
 have hl:=NG hg'.1 ho
 refine X2 hC (X2 (s:=ahO xs (AH k n o)) ?_ rfl)
 simp only [aA.aB4.eq_1]
 rw [kO (l:=xs) (g:=fun s x=>vsO x s) (fun i s=>InU U s) (fun i s hi hp=>?_) hl,SG]
 refine⟨?_,?_⟩
 ·unfold XP
  simp only [aA.aB4.eq_1]
  exact fY (hf _ (cD hi) U s hU (w6.1 hg'.2.2 _ (cD hi)) hp) rfl
 ·exact aoX _ s (w6.1 hg'.2.2 _ (cD hi)) hp
theorem ab4: ∀t:aA,bQ fun fu=> ∀U o:LB,U.length≤68719476736→Gd U t→InU U o→cR fu t o=some (vsO t o):=by
 refine aA.ind fun k n xs ih=>?_;refine bQ.succ ((bQ.list ih).imp fun fu hf U o hU hg ho=>?_)
 have hg':=hg
 rw [Gd] at hg'
 simp only [cR,lD]
 have hC:r9 fu (.mk k n xs) o=some (AH k n o):=by
  unfold r9 AH
  simp only [aA.aB5.eq_1,aA.aB3.eq_1]
  by_cases hk:k=1
  ·rw [if_pos hk]
   refine jI (by simp [hk]) (fY (NW fu o n) ?_)
   cases hq:uR o n with
   |true=>exact gW rfl rfl
   |false=>exact jI rfl (gO (ho.room (hg'.1 hk) hq hU) rfl)
  ·rw [if_neg hk]
   exact gW (by simp [hk]) rfl
 have hl:=NG hg'.1 ho
 refine fY hC (X2 (s:=ahO xs (AH k n o)) ?_ rfl)
 simp only [aA.aB4.eq_1]
 rw [kO (l:=xs) (g:=fun s x=>vsO x s) (fun i s=>InU U s) (fun i s hi hp=>?_) hl,SG]
 refine⟨?_,?_⟩
 ·unfold o3
  simp only [aA.aB4.eq_1]
  exact fY (hf _ (cD hi) U s hU (w6.1 hg'.2.2 _ (cD hi)) hp) rfl
 ·exact aoX _ s (w6.1 hg'.2.2 _ (cD hi)) hp
mutual
def hpT:aA→Bool
 | .mk k _ xs=>apE xs||decide (k=3)
def apE:List aA→Bool
 | []=>false
 |x::r=>hpT x||apE r
end
theorem VC: ∀xs:List aA,apE xs=xs.any hpT
 | []=>rfl
 |x::r=>by rw [apE,VC r,List.any_cons]
theorem afY: ∀t:aA,bQ fun fu=>dM fu t=some (hpT t):=by
 refine aA.ind fun k n xs ih=>?_;refine bQ.succ ((bQ.list ih).imp fun fu hf=>?_)
 simp only [dM,sG]
 rw [ak7 (l:=xs) (p:=hpT) (b:=decide (k=3)) ?_ rfl,← VC]
 ·rfl
 ·simp only [aA.aB4.eq_1]
  exact mR (p:=hpT) (r:=fun _=>true) (fun i hi=>by
   unfold CS
   simp only [aA.aB4.eq_1]
   refine fY (hf _ (cD hi)) ?_
   cases hpT (aT xs i)<;>rfl)
theorem ak0{α:Type}(p:α→Bool): ∀(l:List α) (b:Bool),l.foldl (fun b x=>b||p x) b=(b||l.any p)
 | [],b=>by simp
 |a::l,b=>by rw [List.foldl_cons,ak0 p l,List.any_cons,Bool.or_assoc]
theorem YL: ∀t:aA,bQ fun fu=> ∀c:Bool,cJ fu t c=some (c||hpT t):=by
 refine aA.ind fun k n xs ih=>?_;refine bQ.succ ((bQ.list ih).imp fun fu hf c=>?_)
 simp only [cJ,kK]
 have hC:nX fu (.mk k n xs) c=some (c||decide (k=3)):=by
  unfold nX
  simp only [aA.aB5.eq_1]
  cases c<;>rfl
 refine fY hC (X2 (s:=((c||decide (k=3))||xs.any hpT)) ?_ ?_)
 ·simp only [aA.aB4.eq_1]
  rw [kO (l:=xs) (g:=fun s x=>s||hpT x) (fun _ _=>True) (fun i s hi _=>⟨?_,trivial⟩) trivial,ak0]
  unfold nK
  simp only [aA.aB4.eq_1]
  exact fY (hf _ (cD hi) s) rfl
 ·rw [hpT,VC]
  cases c<;>cases decide (k=3)<;>simp
def uQ(t:aA):Bool:=decide ((((vsO t []).length:Nat):Int)=0)&& !hpT t
theorem acJ(t:aA)(hb:iC t):bR Tryz.prog 34 [(aA.pv t)] (.t (.leaf (.bool (uQ t)))):=by
 obtain⟨U,hU,hg⟩:=hb
 obtain⟨fu,h1,h2⟩:=((aj8 t).and (afY t)).get
 refine acK fu t _ ?_
 unfold SV nP uQ
 refine fY (fY (h1 U [] hU hg ⟨List.nodup_nil,fun x hx=>by simp at hx⟩) rfl) ?_
 cases hd:decide ((((vsO t []).length:Nat):Int)=0) with
 |true=>exact jI rfl (fY h2 rfl)
 |false=>exact gW rfl rfl
theorem abZ(t:aA)(hb:iC t):bR Tryz.prog 78 [(aA.pv t)] (.t (.leaf (.bool (uQ t)))):=by
 obtain⟨U,hU,hg⟩:=hb
 obtain⟨fu,h1,h2⟩:=((ab4 t).and (YL t)).get
 refine ab0 fu t _ ?_
 have hv:r7 fu t=some (vsO t []):=by
  unfold r7 BC
  refine fY (X2 (s:=vsO t []) ?_ rfl) rfl
  rw [kO (l:= [t]) (g:=fun s x=>vsO x s) (fun i s=>i=0→s= []) (fun i s hi hp=>?_) (fun _=>rfl)]
  ·rfl
  ·obtain rfl:i=0:=by simp only [List.length_cons,List.length_nil] at hi;omega
   obtain rfl:=hp rfl
   refine⟨?_,fun h=>by omega⟩
   unfold GZ
   exact fY (h1 U [] hU hg ⟨List.nodup_nil,fun x hx=>by simp at hx⟩) rfl
 unfold SP uQ vV
 refine fY hv ?_
 cases hd:decide ((((vsO t []).length:Nat):Int)=0) with
 |true=>exact jI rfl (fY (fY (h2 false) rfl) (by simp))
 |false=>exact gW rfl rfl
def ET(a b:aA):Bool:=iY b a&& !iY a b
theorem RJ(a b:aA)(ha:Tr.bulkL (aA.tr a)≤68719476735)(hb:Tr.bulkL (aA.tr b)≤68719476735):bR Tryz.prog 186 [(aA.pv a),(aA.pv b)] (.t (.leaf (.bool (ET a b)))):=by
 refine RK 0 a b _ ?_
 unfold G4 mU ET
 refine fY (gO hb (gO (.of ha) rfl)) ?_
 cases hd:iY b a with
 |true=>exact jI rfl (fY (gO ha (gO (.of hb) rfl)) rfl)
 |false=>exact gW rfl rfl
theorem QG(a b:aA)(ha:Tr.bulkL (aA.tr a)≤68719476735)(hb:Tr.bulkL (aA.tr b)≤68719476735):bR Tryz.prog 158 [(aA.pv a),(aA.pv b)] (.t (.leaf (.bool (ET a b)))):=by
 refine QH 0 a b _ ?_
 unfold GY ET
 refine gO hb (gO (.of ha) ?_)
 cases hd:iY b a with
 |true=>exact jI rfl (gO ha (gO (.of hb) rfl))
 |false=>exact gW rfl rfl
end Go.Proofs.YtfcoaagbccmahaaGreat.W

namespace Go.Proofs.YtfcoaagbccmahaaGreat.W
set_option maxRecDepth 100000
set_option maxHeartbeats 40000000
noncomputable section
open Tryz Go.RowKit Go.Proofs
attribute [local irreducible] lt
def n5(fu:Nat)(pw:aE)(pg:aG)(x2:List aC):Nat→((List aC))→Option (LR ((List aC)) ((List aC))):=fun i3 v5=>gd (0≤(aT x2 i3).aCf∧((aT x2 i3).aCf).toNat<(pw.aB2).length) (lt (aT pw.aB2 (((aT x2 i3).aCf).toNat)) fun y9=>gd (0≤(aT x2 i3).aCt∧((aT x2 i3).aCt).toNat<(y9.aCe).length) (lt (aT y9.aCe (((aT x2 i3).aCt).toNat)) fun y12=>sw (decide (y12.aCa=pg.aCa)) (gd (Tr.bulkL (aA.tr y12.aCh)≤68719476735) (gd (iC pg.aB7) (sw (iY y12.aCh pg.aB7) (gd ((v5).length+(([(aT x2 i3)]:List aC)).length≤68719476736) (some (.next (v5++([(aT x2 i3)]:List aC))))) (some (.next v5))))) (some (.next v5))))
def l7(fu:Nat)(pw:aE)(pg:aG):Option ((List aC)):=bd (tI fu pw) fun x2=>so (loopN (n5 fu pw pg x2) (x2.length-0) 0 ([])) fun v5=>some v5
theorem F6(fu:Nat)(pw:aE)(pg:aG)(r:(List aC))(H:l7 fu pw pg=some r):bR Tryz.prog 185 [(aE.pv pw),(aG.pv pg)] (cX r):=by
 refine qJ func185 H (fun C hC H=>?_)
 refine gQ 2 ?_;refine q1 (eX ([aO pw.aB2])) (q1 (eX (dL pg)) ?_)
 refine gQ 4 ?_;refine q1 (qE ([]:List aC)) ?_;refine gQ 4 ?_;refine q1 (bW [aO pw.aB2]) (bK H fun x2 z1 H=>(q1 (bE func209 (RB fu pw _ z1)) ?_))
 refine gQ 7 ?_;refine gL 6 (aC.trs_len _) (fun hl6=>?_)
 refine bU (σ:=(List aC)) (fun i3 v5=>⟨[(2,.ptr 0 0),(3,.ptr 1 0),(4,.nil),(5,fT v5 0),(6,cX x2),(7,pN i3)],⟨[some ⟨26,[aO pw.aB2]⟩,some ⟨32,dL pg⟩],[⟨52,2,aC.trs (v5),false⟩]⟩⟩) (fun v5=>⟨[(4,.nil),(5,fT v5 0)],⟨[some ⟨26,[aO pw.aB2]⟩,some ⟨32,dL pg⟩],[⟨52,2,aC.trs (v5),false⟩]⟩⟩) (eK H) ?_ ?_
 ·rintro i3 v5 H
  refine gQ 8 ?_;refine cS H (fun h7 h7l H=>?_) (fun h7 H=>?_)
  ·refine gQ 4 ?_;refine cC H fun z8 H=>(fZ H fun y9 h10 H=>(cC H fun z11 H=>(fZ H fun y12 h13 H=>(dW (dI [2] bZ (dB [18] 0 1 uK (dI [6] bF (dI [7] bF (dI [20,21] qF (dI [22] wZ (dI [23] vM (dI [19,24] (rIm h10 z8 aeW.h) (dI [25] wZ ?_)))))))))))))
   refine dI [26] vM (dI [6] bF (dI [7] bF (dI [28,29] qF (dI [30] wZ (dI [31] vM (dI [27,32] (rIm h13 z11 Z4.h) (dI [33] (iI (aI.cs y12)) (dE [] tAl (kU [8,34] jO (dN ?_))))))))))
   refine gQ 8 ?_;refine dH 40 H (fun g14 H=>?_) fun g14 H=>?_
   ·refine qg g14 bZ (qg g14 (bW [pI y12.aCh.aB5,pS y12.aCh.aB3,aR y12.aCh.aB4]) (qg g14 bZ (qg g14 (bW [pI pg.aB7.aB5,pS pg.aB7.aB3,aR pg.aB7.aB4]) (cC H fun z15 H=>(cC H fun z16 H=>(qg g14 (bE func210 (SW y12.aCh pg.aB7 z15 z16)) ?_))))))
    refine gQ 2 ?_;refine bC H (fun h17 H=>?_) (fun h17 H=>?_)
    ·refine gQ 5 ?_;refine q1 (iI (aC.cs (aT x2 i3))) (q1 (iF ([(aT x2 i3)]:List aC)) (cC H fun z18 H=>(q1 (lG z18) ?_)))
     exact gE 7
    exact gE 6
   exact gE 14
  exact gE 0
 rintro v5 H
 exact gE 5
def BS(fu:Nat)(p2:aE)(p1:aG)(x2:List aC)(i3:Nat)(y7:aM)(y10:aI):Nat→Bool→Option (LR Bool (LR Unit (aC×Int))):=fun i12 v13=>gd (0≤(aT x2 i12).aCf∧((aT x2 i12).aCf).toNat<(p2.aB2).length) (lt (aT p2.aB2 (((aT x2 i12).aCf).toNat)) fun y16=>gd (0≤(aT x2 i12).aCt∧((aT x2 i12).aCt).toNat<(y16.aCe).length) (lt (aT y16.aCe (((aT x2 i12).aCt).toNat)) fun y19=>sw (v13) (gd (Tr.bulkL (aA.tr y19.aCh)≤68719476735) (gd (Tr.bulkL (aA.tr y10.aCh)≤68719476735) (some (.next (!(ET y19.aCh y10.aCh)))))) (some (.next false))))
def t2(fu:Nat)(p2:aE)(p1:aG)(x2:List aC)(i3:Nat)(y7:aM)(y10:aI):Option ((LR Unit (aC×Int))⊕Bool):=loopN (BS fu p2 p1 x2 i3 y7 y10) (x2.length-0) 0 true
def BP(fu:Nat)(p2:aE)(p1:aG)(x2:List aC)(i3:Nat)(y7:aM)(y10:aI)(v13:Bool):Option ((LR Unit (aC×Int))⊕(Bool×Bool×Bool)):=sw (v13) (sw (y10.aCv) (gd (iC p1.aB7) (sw (!(uQ p1.aB7)) (some (.inl (.ret ((aC.mk 0 0),2)))) (some (.inr (y10.aCv,y10.aCv,(!(uQ p1.aB7))))))) (some (.inr (y10.aCv,y10.aCv,false)))) (some (.inr (false,false,false)))
def BR(fu:Nat)(p2:aE)(p1:aG)(x2:List aC):Nat→Unit→Option (LR Unit (aC×Int)):=fun i3 _=>gd (0≤(aT x2 i3).aCf∧((aT x2 i3).aCf).toNat<(p2.aB2).length) (lt (aT p2.aB2 (((aT x2 i3).aCf).toNat)) fun y7=>gd (0≤(aT x2 i3).aCt∧((aT x2 i3).aCt).toNat<(y7.aCe).length) (lt (aT y7.aCe (((aT x2 i3).aCt).toNat)) fun y10=>so (t2 fu p2 p1 x2 i3 y7 y10) fun v13=>so (BP fu p2 p1 x2 i3 y7 y10 v13) fun(v24,v25,v26)=>sw (v13) (some (.ret ((aT x2 i3),0))) (some (.next ()))))
def qY(fu:Nat)(p2:aE)(p1:aG):Option (aC×Int):=bd (l7 fu p2 p1) fun x2=>so (loopN (BR fu p2 p1 x2) (x2.length-0) 0 ()) fun _=>some ((aC.mk 0 0),1)
theorem MT(fu:Nat)(p2:aE)(p1:aG)(r:aC×Int)(H:qY fu p2 p1=some r):bR Tryz.prog 160 [(aE.pv p2),(aG.pv p1)] (.tup [(aC.pv r.1),pI r.2]):=by
 refine qJ func160 H (fun C hC H=>?_)
 refine gQ 2 ?_;refine q1 (eX ([aO p2.aB2])) (q1 (eX (dL p1)) ?_)
 refine gQ 5 ?_;refine q1 (bW [aO p2.aB2]) (q1 (bW [pS p1.aCa,pI p1.aB7.aB5,pS p1.aB7.aB3,aR p1.aB7.aB4]) (bK H fun x2 z1 H=>(q1 (bE func185 (F6 fu p2 p1 _ z1)) ?_)))
 refine gQ 7 ?_;refine gL 6 (aC.trs_len _) (fun hl4=>?_)
 refine bU (σ:=Unit) (fun i3 _=>⟨[(2,.ptr 0 0),(3,.ptr 1 0),(4,.ptr 2 0),(5,pI 0),(6,cX x2),(7,pN i3)],⟨[some ⟨26,[aO p2.aB2]⟩,some ⟨32,dL p1⟩,some ⟨52,[pI 0,pI 0]⟩],[]⟩⟩) (fun _=>⟨[(4,.ptr 2 0),(5,pI 0)],⟨[some ⟨26,[aO p2.aB2]⟩,some ⟨32,dL p1⟩,some ⟨52,[pI 0,pI 0]⟩],[]⟩⟩) (eK H) ?_ ?_
 ·rintro i3 ⟨⟩ H
  refine gQ 8 ?_;refine cS H (fun h5 h5l H=>?_) (fun h5 H=>?_)
  ·refine gQ 4 ?_;refine cC H fun z6 H=>(fZ H fun y7 h8 H=>(cC H fun z9 H=>(fZ H fun y10 h11 H=>(dW (dI [2] bZ (dB [21] 0 1 uK (dI [6] bF (dI [7] bF (dI [23,24] qF (dI [25] wZ (dI [26] vM (dI [22,27] (rIm h8 z6 aeW.h) (dI [28] wZ ?_)))))))))))))
   refine dI [29] vM (dI [6] bF (dI [7] bF (dI [31,32] qF (dI [33] wZ (dI [34] vM (dI [30,35] (rIm h11 z9 Z4.h) (dI [36] (iI (aI.cs y10)) (dE [] tAl (kU [8,37] jO (dN ?_))))))))))
   refine gQ 9 ?_;refine bU (σ:=Bool) (fun i12 v13=>⟨[(2,.ptr 0 0),(3,.ptr 1 0),(4,.ptr 2 0),(5,pI 0),(6,cX x2),(7,pN i3),(8,.ptr 3 0),(9,pB v13),(10,pN i12),(15,pN i3),(16,cX x2),(17,pN x2.length),(18,pB (decide ((i3:Int)<(x2.length:Int)))),(21,.ptr 0 0),(22,aO p2.aB2),(23,cX x2),(24,pN i3),(25,.eptr (aC.cs (aT x2 i3))),(26,.eptr (aC.cs (aT x2 i3))),(27,pI ((aT x2 i3).aCf)),(28,.eptr (aM.cs y7)),(29,.eptr ((aM.cs y7).drop 4)),(30,nO y7.aCe),(31,cX x2),(32,pN i3),(33,.eptr (aC.cs (aT x2 i3))),(34,.eptr ((aC.cs (aT x2 i3)).drop 1)),(35,pI ((aT x2 i3).aCt)),(36,.eptr (aI.cs y10)),(37,(aI.pv y10))],⟨[some ⟨26,[aO p2.aB2]⟩,some ⟨32,dL p1⟩,some ⟨52,[pI 0,pI 0]⟩,some ⟨163,c8 y10⟩],[]⟩⟩) (fun v13=>⟨[(2,.ptr 0 0),(3,.ptr 1 0),(4,.ptr 2 0),(5,pI 0),(6,cX x2),(7,pN i3),(8,.ptr 3 0),(9,pB v13),(15,pN i3),(16,cX x2),(17,pN x2.length),(18,pB (decide ((i3:Int)<(x2.length:Int)))),(21,.ptr 0 0),(22,aO p2.aB2),(23,cX x2),(24,pN i3),(25,.eptr (aC.cs (aT x2 i3))),(26,.eptr (aC.cs (aT x2 i3))),(27,pI ((aT x2 i3).aCf)),(28,.eptr (aM.cs y7)),(29,.eptr ((aM.cs y7).drop 4)),(30,nO y7.aCe),(31,cX x2),(32,pN i3),(33,.eptr (aC.cs (aT x2 i3))),(34,.eptr ((aC.cs (aT x2 i3)).drop 1)),(35,pI ((aT x2 i3).aCt)),(36,.eptr (aI.cs y10)),(37,(aI.pv y10))],⟨[some ⟨26,[aO p2.aB2]⟩,some ⟨32,dL p1⟩,some ⟨52,[pI 0,pI 0]⟩,some ⟨163,c8 y10⟩],[]⟩⟩) (eK H) ?_ ?_
   ·rintro i12 v13 H
    refine gQ 8 ?_;refine cS H (fun h14 h14l H=>?_) (fun h14 H=>?_)
    ·refine gQ 4 ?_;refine cC H fun z15 H=>(fZ H fun y16 h17 H=>(cC H fun z18 H=>(fZ H fun y19 h20 H=>(dW (dI [2] bZ (dB [44] 0 1 uK (dI [6] bF (dI [10] bF (dI [46,47] qF (dI [48] wZ (dI [49] vM (dI [45,50] (rIm h17 z15 aeW.h) (dI [51] wZ ?_)))))))))))))
     refine dI [52] vM (dI [6] bF (dI [10] bF (dI [54,55] qF (dI [56] wZ (dI [57] vM (dI [53,58] (rIm h20 z18 Z4.h) (dI [59] (iI (aI.cs y19)) (dE [] tAl (kU [11,60] jO (dN ?_))))))))))
     refine gQ 3 ?_;refine dH 62 H (fun g21 H=>?_) fun g21 H=>?_
     ·refine qg g21 bZ (qg g21 (bW [pI y19.aCh.aB5,pS y19.aCh.aB3,aR y19.aCh.aB4]) (qg g21 bZ (qg g21 (bW [pI y10.aCh.aB5,pS y10.aCh.aB3,aR y10.aCh.aB4]) (cC H fun z22 H=>(cC H fun z23 H=>(qg g21 (bE func186 (RJ y19.aCh y10.aCh z22 z23)) ?_))))))
      exact gE 9
     exact gE 14
    exact gE 0
   rintro v13 H
   refine qS ?_;refine nV (σ:=Bool×Bool×Bool) (fun(v24,v25,v26)=>⟨[(2,.ptr 0 0),(3,.ptr 1 0),(4,.ptr 2 0),(5,pI 0),(6,cX x2),(7,pN i3),(8,.ptr 3 0),(9,pB v13),(15,pN i3),(16,cX x2),(17,pN x2.length),(18,pB (decide ((i3:Int)<(x2.length:Int)))),(21,.ptr 0 0),(22,aO p2.aB2),(23,cX x2),(24,pN i3),(25,.eptr (aC.cs (aT x2 i3))),(26,.eptr (aC.cs (aT x2 i3))),(27,pI ((aT x2 i3).aCf)),(28,.eptr (aM.cs y7)),(29,.eptr ((aM.cs y7).drop 4)),(30,nO y7.aCe),(31,cX x2),(32,pN i3),(33,.eptr (aC.cs (aT x2 i3))),(34,.eptr ((aC.cs (aT x2 i3)).drop 1)),(35,pI ((aT x2 i3).aCt)),(36,.eptr (aI.cs y10)),(37,(aI.pv y10)),(70,pB v13),(71,pB v13),(74,pB v24),(75,pB v25),(80,pB v26)],⟨[some ⟨26,[aO p2.aB2]⟩,some ⟨32,dL p1⟩,some ⟨52,[pI 0,pI 0]⟩,some ⟨163,c8 y10⟩],[]⟩⟩) (eK H) (fun H=>?_) ?_
   ·refine gQ 4 ?_;refine dH 71 H (fun g27 H=>?_) fun g27 H=>?_
    ·refine gQ 4 ?_;refine dH 75 H (fun g28 H=>?_) fun g28 H=>?_
     ·refine qg g28 bZ (qg g28 (bW [pI p1.aB7.aB5,pS p1.aB7.aB3,aR p1.aB7.aB4]) (cC H fun z29 H=>(qg g28 (bE func34 (acJ p1.aB7 z29)) ?_)))
      refine gQ 3 ?_;refine bC H (fun h30 H=>?_) (fun h30 H=>?_)
      ·refine gQ 6 ?_;refine cQ.ret ?_
       obtain rfl:_=r:=(lkR (skL (vI H)):)
       exact qf2
      exact gE 1
     exact gE 8
    exact gE 12
   rintro⟨v24,v25,v26⟩ H
   refine gQ 4 ?_;refine bC H (fun h31 H=>?_) (fun h31 H=>?_)
   ·refine gQ 5 ?_;refine q1 (iI (aC.cs (aT x2 i3))) ?_;exact gE 3
   exact gE 6
  exact gE 0
 rintro⟨⟩ H
 exact gE 6
def sW(fu:Nat)(p0:aC)(c1:aE)(c2:aI):Option Bool:=bd (rH fu c1 p0) fun(x2,x3)=>gd (Tr.bulkL (aA.tr x2.aCh)≤68719476735) (gd (Tr.bulkL (aA.tr c2.aCh)≤68719476735) (some (ET x2.aCh c2.aCh)))
theorem H8(fu:Nat)(p0:aC)(c1:aE)(c2:aI)(r:Bool)(H:sW fu p0 c1 c2=some r):b7 Tryz.prog 157 [(aC.pv p0),.ptr 0 0,.ptr 1 0] ⟨[some ⟨26,[aO c1.aB2]⟩,some ⟨163,c8 c2⟩],[]⟩ (fun q t=>q=(pB r)∧t=⟨[some ⟨26,[aO c1.aB2]⟩,some ⟨163,c8 c2⟩],[]⟩):=by
 refine qJ func157 H (fun C hC H=>?_)
 refine gQ 2 ?_;refine q1 (eX ([pI p0.aCf,pI p0.aCt])) ?_;refine gQ 4 ?_;refine q1 (bW [aO c1.aB2]) (q1 (bW [pI p0.aCf,pI p0.aCt]) (dP H fun x2 x3 z1 H=>(q1 (bE func118 (uV fu c1 p0 _ z1)) ?_)))
 refine gQ 10 ?_;refine q1 (bW [pI x2.aCh.aB5,pS x2.aCh.aB3,aR x2.aCh.aB4]) (q1 bZ (q1 (bW [pI c2.aCh.aB5,pS c2.aCh.aB3,aR c2.aCh.aB4]) (cC H fun z4 H=>(cC H fun z5 H=>(q1 (bE func158 (QG x2.aCh c2.aCh z4 z5)) ?_)))))
 exact gE 2
def iM(fu:Nat)(ps:List aC)(c1_0:aE)(c1_1:aI):Nat→Unit→Option (LR Unit Int):=fun i1 _=>bd (sW fu (aT ps i1) c1_0 c1_1) fun x5=>sw x5 (some (.ret (i1:Int))) (some (.next ()))
def dR(fu:Nat)(ps:List aC)(c1_0:aE)(c1_1:aI):Option Int:=so (loopN (iM fu ps c1_0 c1_1) (ps.length-0) 0 ()) fun _=>some (-1)
theorem nJ(fu:Nat)(ps:List aC)(c1_0:aE)(c1_1:aI)(r:Int)(H:dR fu ps c1_0 c1_1=some r):b7 Tryz.prog 183 [cX ps,.fn 157 [.ptr 0 0,.ptr 1 0]] ⟨[some ⟨26,[aO c1_0.aB2]⟩,some ⟨163,c8 c1_1⟩],[]⟩ (fun q t=>q=(pI r)∧t=⟨[some ⟨26,[aO c1_0.aB2]⟩,some ⟨163,c8 c1_1⟩],[]⟩):=by
 refine qJ func183 H (fun C hC H=>?_)
 refine gQ 11 ?_;refine gL 0 (aC.trs_len _) (fun hl2=>?_)
 refine bU (σ:=Unit) (fun i1 _=>⟨[(0,cX ps),(1,.fn 157 [.ptr 0 0,.ptr 1 0]),(4,pI 0),(7,pN ps.length),(8,pN i1)],⟨[some ⟨26,[aO c1_0.aB2]⟩,some ⟨163,c8 c1_1⟩],[]⟩⟩) (fun _=>⟨[(4,pI 0)],⟨[some ⟨26,[aO c1_0.aB2]⟩,some ⟨163,c8 c1_1⟩],[]⟩⟩) (eK H) ?_ ?_
 ·rintro i1 ⟨⟩ H
  refine gQ 5 ?_;refine cS H (fun h3 h3l H=>?_) (fun h3 H=>?_)
  ·refine gQ 14 ?_;refine q1 (iI (aC.cs (aT ps i1))) (bK H fun x5 z4 H=>(q1 (bB.callVPE (pre:=⟨[some ⟨26,[aO c1_0.aB2]⟩,some ⟨163,c8 c1_1⟩],[]⟩) (st':=⟨[some ⟨26,[aO c1_0.aB2]⟩,some ⟨163,c8 c1_1⟩],[]⟩) (ps:= [_]) (cs:= [.ptr 0 0,.ptr 1 0]) (qs:= [(aC.pv (aT ps i1)),.ptr 0 0,.ptr 1 0]) [0,1] [] rfl rfl rfl func157 (by kernel_rfl) rfl rfl rfl (eZ.of ⟨⟨_,rfl,rfl,jN,rfl⟩,⟨⟨_,rfl,rfl,jN,rfl⟩,trivial⟩⟩ trivial (by decide) (by decide)) jN rfl rfl rfl (H8 fu (aT ps i1) c1_0 c1_1 _ z4)) (qN ?_)))
   refine bC H (fun h6 H=>gE 5) fun h6 H=>?_;exact gE 5
  exact gE 0
 rintro⟨⟩ H
 exact gE 4
def cK(fu:Nat)(ps:List aC)(c1_0:aE)(c1_1:aI):Option Bool:=bd (dR fu ps c1_0 c1_1) fun x2=>some (decide (x2≥0))
theorem mL(fu:Nat)(ps:List aC)(c1_0:aE)(c1_1:aI)(r:Bool)(H:cK fu ps c1_0 c1_1=some r):b7 Tryz.prog 156 [cX ps,.fn 157 [.ptr 0 0,.ptr 1 0]] ⟨[some ⟨26,[aO c1_0.aB2]⟩,some ⟨163,c8 c1_1⟩],[]⟩ (fun q t=>q=(pB r)∧t=⟨[some ⟨26,[aO c1_0.aB2]⟩,some ⟨163,c8 c1_1⟩],[]⟩):=by
 refine qJ func156 H (fun C hC H=>?_)
 refine gQ 8 ?_;refine bK H fun x2 z1 H=>(q1 (eU [0,1] [] func183 (nJ fu ps c1_0 c1_1 _ z1)) ?_)
 exact gE 3
def A9(fu:Nat)(pw:aE)(pg:aG):Nat→Unit→Option (LR Unit (aC×Int)):=fun i3 _=>lt (aT (List.filter (fun o=>rC pw pg o) (fE pw)) i3) fun y6=>bd (rH fu pw y6) fun(x9,x10)=>bd (cK fu (List.filter (fun o=>rC pw pg o) (fE pw)) pw x9) fun x12=>sw x12 (some (.next ())) (sw (x9.aCv) (gd (iC pg.aB7) (sw (!(uQ pg.aB7)) (some (.ret ((aC.mk 0 0),2))) (some (.ret (y6,0))))) (some (.ret (y6,0))))
def qQ(fu:Nat)(pw:aE)(pg:aG):Option (aC×Int):=gd (wt pw≤13000000) (gd (iC (aG.aB7 pg)) (so (loopN (A9 fu pw pg) ((List.filter (fun o=>rC pw pg o) (fE pw)).length-0) 0 ()) fun _=>some ((aC.mk 0 0),1)))
theorem L4(fu:Nat)(pw:aE)(pg:aG)(r:aC×Int)(H:qQ fu pw pg=some r):bR Tryz.prog 117 [(aE.pv pw),(aG.pv pg)] (.tup [(aC.pv r.1),pI r.2]):=by
 refine qJ func117 H (fun C hC H=>?_)
 refine gQ 2 ?_;refine q1 (eX ([aO pw.aB2])) (q1 (eX (dL pg)) ?_)
 refine gQ 5 ?_;refine q1 (bW [aO pw.aB2]) (q1 (bW [pS pg.aCa,pI pg.aB7.aB5,pS pg.aB7.aB3,aR pg.aB7.aB4]) (cC H fun z1 H=>(cC H fun z2 H=>(q1 (bE func155 (al0 pw pg z1 z2)) ?_))))
 refine gQ 9 ?_;refine gL 6 (aC.trs_len _) (fun hl4=>?_)
 refine bU (σ:=Unit) (fun i3 _=>⟨[(2,.ptr 0 0),(3,.ptr 1 0),(4,.ptr 2 0),(5,pI 0),(6,cX (List.filter (fun o=>rC pw pg o) (fE pw))),(15,cX (List.filter (fun o=>rC pw pg o) (fE pw))),(16,pN ((List.filter (fun o=>rC pw pg o) (fE pw)).length)),(17,pN i3)],⟨[some ⟨26,[aO pw.aB2]⟩,some ⟨32,dL pg⟩,some ⟨52,[pI 0,pI 0]⟩],[]⟩⟩) (fun _=>⟨[(4,.ptr 2 0),(5,pI 0)],⟨[some ⟨26,[aO pw.aB2]⟩,some ⟨32,dL pg⟩,some ⟨52,[pI 0,pI 0]⟩],[]⟩⟩) (eK H) ?_ ?_
 ·rintro i3 ⟨⟩ H
  refine gQ 5 ?_;refine cS H (fun h5 h5l H=>?_) (fun h5 H=>?_)
  ·refine gQ 5 ?_;refine fZ H fun y6 h7 H=>(q1 (yI h7 h5l) (q1 (iI (aC.cs y6)) ?_))
   refine gQ 5 ?_;refine q1 (bW [aO pw.aB2]) (q1 (bW [pI y6.aCf,pI y6.aCt]) (dP H fun x9 x10 z8 H=>(q1 (bE func118 (uV fu pw y6 _ z8)) ?_)))
   refine gQ 10 ?_;refine q1 rMf (bK H fun x12 z11 H=>(q1 (eU [0,4] [] func156 (mL fu (List.filter (fun o=>rC pw pg o) (fE pw)) pw x9 _ z11)) ?_))
   refine gQ 7 ?_;refine bC H (fun h13 H=>?_) (fun h13 H=>?_)
   ·refine cQ.exit ?_;exact gE 4
   refine gQ 7 ?_;refine dH 33 H (fun g14 H=>?_) fun g14 H=>?_
   ·refine qg g14 bZ (qg g14 (bW [pI pg.aB7.aB5,pS pg.aB7.aB3,aR pg.aB7.aB4]) (cC H fun z15 H=>(qg g14 (bE func78 (abZ pg.aB7 z15)) ?_)))
    refine gQ 3 ?_;refine bC H (fun h16 H=>gE 6) fun h16 H=>?_;refine gQ 3 ?_;refine q1 (bW [pI y6.aCf,pI y6.aCt]) ?_;exact gE 3
   refine gQ 10 ?_;refine q1 (bW [pI y6.aCf,pI y6.aCt]) ?_;exact gE 3
  exact gE 0
 rintro⟨⟩ H
 exact gE 6
end
end Go.Proofs.YtfcoaagbccmahaaGreat.W

namespace Go.Proofs.YtfcoaagbccmahaaGreat.W
set_option maxRecDepth 100000
set_option maxHeartbeats 40000000
noncomputable section
open Tryz Go.RowKit Go.Proofs
attribute [local irreducible] lt
abbrev AE:=aE→ByteArray→(LB)→Option ((LB))
def AD(m:AE):Prop:= ∀(pw:aE) (p1:ByteArray) (p6:LB) (r:(LB)),m pw p1 p6=some r→b7 Tryz.prog 112 [(aE.pv pw),pS p1,aS p6 0] ⟨[],[⟨9,1,aY (p6),false⟩]⟩ (fun q t=>q=(aS r 0:PV)∧t=⟨[],[⟨9,1,aY (r),false⟩]⟩)
def DT(fu:Nat)(p4:AE)(pw:aE)(p1:ByteArray)(p6:LB)(x2:aU)(x3:Int)(x4:Bool):Nat→((LB))→Option (LR ((LB)) ((LB))):=fun i5 v7=>bd (lA fu v7 (aT x2.aCc i5)) fun x11=>sw (!(x11)) (gd ((v7).length+(([(aT x2.aCc i5)]:LB)).length≤68719476736) (bd (p4 pw (aT x2.aCc i5) (v7++([(aT x2.aCc i5)]:LB))) fun x15=>some (.next x15))) (some (.next v7))
def GJ(fu:Nat)(p4:AE)(pw:aE)(p1:ByteArray)(p6:LB):Option ((LB)):=bd (pZ fu pw p1) fun(x2,x3,x4)=>so (loopN (DT fu p4 pw p1 p6 x2 x3 x4) (x2.aCc.length-0) 0 p6) fun v7=>some v7
theorem T5(fu:Nat)(p4:AE)(pC:AD p4):AD (GJ fu p4):=by
 intro pw p1 p6 r H
 refine qJ func112 H (fun C hC H=>?_)
 refine gQ 2 ?_;refine q1 (eX ([aO pw.aB2])) ?_;refine gQ 4 ?_;refine q1 (bW [aO pw.aB2]) (q1 bF (NR H fun x2 x3 x4 z1 H=>(q1 (bE func121 (B3 fu pw p1 _ z1)) ?_)))
 refine gQ 14 ?_;refine cQ.fact (cI 1 1 rfl rfl rfl (bV _)) (fun hl8=>?_)
 try dsimp only at hl8
 refine bU (σ:=(LB)) (fun i5 v7=>⟨[(2,aS v7 0),(3,.ptr 0 0),(6,.nil),(7,.ptr 1 0),(10,pN i5)],⟨[some ⟨26,[aO pw.aB2]⟩,some ⟨156,sU x2⟩],[⟨9,1,aY (v7),false⟩]⟩⟩) (fun v7=>⟨[(2,aS v7 0),(6,.nil)],⟨[some ⟨26,[aO pw.aB2]⟩,some ⟨156,sU x2⟩],[⟨9,1,aY (v7),false⟩]⟩⟩) (eK H) ?_ ?_
 ·rintro i5 v7 H
  refine gQ 9 ?_;refine cS H (fun h9 h9l H=>?_) (fun h9 H=>?_)
  ·refine gQ 11 ?_;refine bK H fun x11 z10 H=>(q1 (bE func153 (mH fu v7 (aT x2.aCc i5) _ z10)) ?_)
   refine gQ 2 ?_;refine bC H (fun h12 H=>?_) (fun h12 H=>?_)
   ·refine cC H fun z13 H=>(bK H fun x15 z14 H=>(dW (dB [3] 0 1 (DU [aO pw.aB2]) (dI [7] bZ (dB [34] 0 1 uK (dI [10] bF (dI [35,36] qF (dI [37] vM (dI [2] bF (dI [7] bZ (dD [40] eE (dI [10] bF (dI [41,42] qF ?_)))))))))))))
    refine dI [43] vM (dI [44] (iF ([(aT x2.aCc i5)]:LB)) (dE [39,45] (lG z13) (dE [33,38,46] (eU [] [0] func112 (pC pw (aT x2.aCc i5) (v7++([(aT x2.aCc i5)]:LB)) _ z14)) (dI [47] bF (dN ?_)))))
    exact gE 5
   exact gE 6
  exact gE 0
 rintro v7 H
 exact gE 5
def kI:Nat→aE→ByteArray→(LB)→Option ((LB))
 |0,_,_,_=>none
 |fu+1,pw,p1,p6=>GJ fu (kI fu) pw p1 p6
theorem W7(fu:Nat):AD (kI fu):=by
 induction fu with
 |zero=>exact(fun pw p1 p6 r H=>by simp only [kI] at H;cases H)
 |succ fu ih=>exact(fun pw p1 p6 r H=>by simp only [kI] at H;exact T5 fu (kI fu) ih pw p1 p6 r H)
theorem ZK(fu:Nat):AD (kI fu):=(W7 fu)
def qX(fu:Nat)(pw:aE)(p1:ByteArray):Option ((LB)):=bd (kI fu pw p1 ([])) fun x2=>some x2
theorem MP(fu:Nat)(pw:aE)(p1:ByteArray)(r:(LB))(H:qX fu pw p1=some r):bR Tryz.prog 57 [(aE.pv pw),pS p1] (rS r):=by
 refine qJ func57 H (fun C hC H=>?_)
 refine gQ 2 ?_;refine q1 (eX ([aO pw.aB2])) ?_;refine gQ 4 ?_;refine q1 (bW [aO pw.aB2]) (q1 bF (q1 (qE ([]:LB)) (bK H fun x2 z1 H=>(q1 (eU [] [0] func112 (ZK fu pw p1 ([]) _ z1)) ?_))))
 exact gE 2
abbrev uX:=aE→(LB)→ByteArray→Option ((LB))
def uW(m:uX):Prop:= ∀(pw:aE) (p6:LB) (p1:ByteArray) (r:(LB)),m pw p6 p1=some r→b7 Tryz.prog 178 [(aE.pv pw),aS p6 0,pS p1] ⟨[],[⟨9,1,aY (p6),false⟩]⟩ (fun q t=>q=(aS r 0:PV)∧t=⟨[],[⟨9,1,aY (r),false⟩]⟩)
def yP(fu:Nat)(p2:uX)(pw:aE)(p6:LB)(p1:ByteArray)(x2:aU)(x3:Int)(x4:Bool):Nat→((LB))→Option (LR ((LB)) ((LB))):=fun i5 v7=>bd (lU fu v7 (aT x2.aCc i5)) fun x11=>sw (!(x11)) (gd ((v7).length+(([(aT x2.aCc i5)]:LB)).length≤68719476736) (bd (p2 pw (v7++([(aT x2.aCc i5)]:LB)) (aT x2.aCc i5)) fun x15=>some (.next x15))) (some (.next v7))
def BB(fu:Nat)(p2:uX)(pw:aE)(p6:LB)(p1:ByteArray):Option ((LB)):=bd (EO fu pw p1) fun(x2,x3,x4)=>so (loopN (yP fu p2 pw p6 p1 x2 x3 x4) (x2.aCc.length-0) 0 p6) fun v7=>some v7
theorem OM(fu:Nat)(p2:uX)(pA:uW p2):uW (BB fu p2):=by
 intro pw p6 p1 r H
 refine qJ func178 H (fun C hC H=>?_)
 refine gQ 2 ?_;refine q1 (eX ([aO pw.aB2])) ?_;refine gQ 4 ?_;refine q1 (bW [aO pw.aB2]) (q1 bF (NR H fun x2 x3 x4 z1 H=>(q1 (bE func115 (QN fu pw p1 _ z1)) ?_)))
 refine gQ 17 ?_;refine gL 20 (bV _) (fun hl8=>?_)
 try dsimp only at hl8
 refine bU (σ:=(LB)) (fun i5 v7=>⟨[(1,aS v7 0),(3,.ptr 0 0),(6,.nil),(20,rS x2.aCc),(21,pN x2.aCc.length),(22,pN i5)],⟨[some ⟨26,[aO pw.aB2]⟩,some ⟨156,sU x2⟩],[⟨9,1,aY (v7),false⟩]⟩⟩) (fun v7=>⟨[(1,aS v7 0),(6,.nil)],⟨[some ⟨26,[aO pw.aB2]⟩,some ⟨156,sU x2⟩],[⟨9,1,aY (v7),false⟩]⟩⟩) (eK H) ?_ ?_
 ·rintro i5 v7 H
  refine gQ 5 ?_;refine cS H (fun h9 h9l H=>?_) (fun h9 H=>?_)
  ·refine gQ 13 ?_;refine bK H fun x11 z10 H=>(q1 (bE func195 (zE fu v7 (aT x2.aCc i5) _ z10)) ?_)
   refine gQ 2 ?_;refine bC H (fun h12 H=>?_) (fun h12 H=>?_)
   ·refine cC H fun z13 H=>(bK H fun x15 z14 H=>(dW (dB [3] 0 1 (DU [aO pw.aB2]) (dI [1] bF (dI [11] bF (dI [32] (iF ([(aT x2.aCc i5)]:LB)) (dE [31,33] (lG z13) (dI [11] bF (dE [30,34,35] (eU [] [0] func178 (pA pw (v7++([(aT x2.aCc i5)]:LB)) (aT x2.aCc i5) _ z14)) (dI [36] bF (dN ?_)))))))))))
    exact gE 4
   exact gE 5
  exact gE 0
 rintro v7 H
 exact gE 5
def iG:Nat→aE→(LB)→ByteArray→Option ((LB))
 |0,_,_,_=>none
 |fu+1,pw,p6,p1=>BB fu (iG fu) pw p6 p1
theorem QK(fu:Nat):uW (iG fu):=by
 induction fu with
 |zero=>exact(fun pw p6 p1 r H=>by simp only [iG] at H;cases H)
 |succ fu ih=>exact(fun pw p6 p1 r H=>by simp only [iG] at H;exact OM fu (iG fu) ih pw p6 p1 r H)
theorem TM(fu:Nat):uW (iG fu):=(QK fu)
def qP(fu:Nat)(pw:aE)(p1:ByteArray):Option ((LB)):=bd (iG fu pw ([]) p1) fun x2=>some x2
theorem L3(fu:Nat)(pw:aE)(p1:ByteArray)(r:(LB))(H:qP fu pw p1=some r):bR Tryz.prog 147 [(aE.pv pw),pS p1] (rS r):=by
 refine qJ func147 H (fun C hC H=>?_)
 refine gQ 2 ?_;refine q1 (eX ([aO pw.aB2])) ?_;refine gQ 4 ?_;refine q1 (bW [aO pw.aB2]) (q1 bF (bK H fun x2 z1 H=>(q1 (bB.callF (res:=rS x2) (ps:= [_,_,_]) (qs:= [(aE.pv pw),.nil,pS p1]) rfl rfl func178 (by kernel_rfl) rfl rfl jN rfl rfl (b7.regNil (l1:= [(aE.pv pw)]) (l2:= [pS p1]) (E:=9) (sz:=1) (q:=rS x2) (by decide) (TM fu pw ([]) p1 _ z1) jN rfl)) ?_)))
 exact gE 2
abbrev yC:=aE→ByteArray→ByteArray→Int→Option ((List Int)×Bool)
def C5(m:yC):Prop:= ∀(pw:aE) (p0:ByteArray) (p9:ByteArray) (p7:Int) (r:(List Int)×Bool),m pw p0 p9 p7=some r→bR Tryz.prog 113 [(aE.pv pw),pS p0,pS p9,pI p7] (.tup [rI r.1,pB r.2]:PV)
def AC(fu:Nat)(p3:yC)(pw:aE)(p0 p9:ByteArray)(p7:Int)(x3:aU)(x4:Int)(x5:Bool):Nat→Unit→Option (LR Unit ((List Int)×Bool)):=fun i6 _=>sw (decide (p7>0)) (bd (p3 pw (aT x3.aCc i6) p9 (aX (p7-1))) fun(x11,x12)=>sw x12 (gd ((([(i6:Int)]:List Int)).length+x11.length≤68719476736) (some (.ret ((([(i6:Int)]:List Int)++x11),true)))) (some (.next ()))) (some (.brk ()))
def vE(fu:Nat)(p3:yC)(pw:aE)(p0 p9:ByteArray)(p7:Int)(x3:aU)(x4:Int)(x5:Bool):Option (((List Int)×Bool)⊕Unit):=loopN (AC fu p3 pw p0 p9 p7 x3 x4 x5) (x3.aCc.length-0) 0 ()
def C4(fu:Nat)(p3:yC)(pw:aE)(p0 p9:ByteArray)(p7:Int):Option ((List Int)×Bool):=sw (decide (p0=p9)) (some (([]),true)) (bd (pZ fu pw p0) fun(x3,x4,x5)=>so (vE fu p3 pw p0 p9 p7 x3 x4 x5) fun _=>some (([]),false))
theorem W6(fu:Nat)(p3:yC)(pD:C5 p3):C5 (C4 fu p3):=by
 intro pw p0 p9 p7 r H
 refine qJ func113 H (fun C hC H=>?_)
 refine gQ 2 ?_;refine q1 (eX ([aO pw.aB2])) ?_;refine gQ 10 ?_;refine bC H (fun h1 H=>?_) (fun h1 H=>?_)
 ·refine gQ 2 ?_;refine q1 (qE ([]:List Int)) ?_;exact gE 3
 refine gQ 3 ?_;refine q1 (bW [aO pw.aB2]) (q1 bF (NR H fun x3 x4 x5 z2 H=>(q1 (bE func121 (B3 fu pw p0 _ z2)) ?_)))
 refine gQ 14 ?_;refine cQ.fact (cI 1 1 rfl rfl rfl (bV _)) (fun hl7=>?_)
 try dsimp only at hl7
 refine bU (σ:=Unit) (fun i6 _=>⟨[(2,pS p9),(3,pI p7),(4,.ptr 0 0),(8,.nil),(9,pB false),(10,.ptr 1 0),(13,pN i6)],⟨[some ⟨26,[aO pw.aB2]⟩,some ⟨156,sU x3⟩],[]⟩⟩) (fun _=>⟨[(8,.nil),(9,pB false)],⟨[some ⟨26,[aO pw.aB2]⟩,some ⟨156,sU x3⟩],[]⟩⟩) (eK H) ?_ ?_
 ·rintro i6 ⟨⟩ H
  refine gQ 9 ?_;refine AL.splitB 32 rfl (fun g8=>?_) (fun g8=>?_)
  ·have g8l:=wK g8
   have H:=lnT g8l H
   have g8n:=AO g8
   refine gQ 4 ?_;refine bC H (fun h9 H=>?_) (fun h9 H=>?_)
   ·refine gQ 4 ?_;refine dP H fun x11 x12 z10 H=>(dW (dD [4] (bW [aO pw.aB2]) (dI [10] bZ (dD [40] eE (dI [13] bF (dI [41,42] qF (dI [43] vM (dI [2] bF (dI [3] bF (dI [46] rSw (dI [39,44,45,47] (bE func113 (pD pw (aT x3.aCc i6) p9 (aX (p7-1)) _ z10)) (dI [48] bF ?_))))))))))))
    iterate 2 refine dI [38] YR ?_
    refine dI [49] bF (dI [50] bF (dN ?_))
    refine gQ 4 ?_;refine bC H (fun h13 H=>?_) (fun h13 H=>?_)
    ·refine gQ 3 ?_;refine q1 (qE ([(i6:Int)]:List Int)) (q1 bF (cC H fun z14 H=>(q1 (lG z14) ?_)))
     exact gE 3
    exact gE 6
   exact gE 0
  have H:=lnE (wJ g8) H
  exact gE 5
 rintro⟨⟩ H
 refine gQ 2 ?_;refine q1 (qE ([]:List Int)) ?_;exact gE 3
def iR:Nat→aE→ByteArray→ByteArray→Int→Option ((List Int)×Bool)
 |0,_,_,_,_=>none
 |fu+1,pw,p0,p9,p7=>C4 fu (iR fu) pw p0 p9 p7
theorem ZJ(fu:Nat):C5 (iR fu):=by
 induction fu with
 |zero=>exact(fun pw p0 p9 p7 r H=>by simp only [iR] at H;cases H)
 |succ fu ih=>exact(fun pw p0 p9 p7 r H=>by simp only [iR] at H;exact W6 fu (iR fu) ih pw p0 p9 p7 r H)
theorem adF(fu:Nat):C5 (iR fu):=(ZJ fu)
def mY(fu:Nat)(pw:aE)(p0 p9:ByteArray):Option ((List Int)×Bool):=bd (iR fu pw p0 p9 8) fun(x2,x3)=>some (x2,x3)
theorem BT(fu:Nat)(pw:aE)(p0:ByteArray)(p9:ByteArray)(r:(List Int)×Bool)(H:mY fu pw p0 p9=some r):bR Tryz.prog 58 [(aE.pv pw),pS p0,pS p9] (.tup [rI r.1,pB r.2]):=by
 refine qJ func58 H (fun C hC H=>?_)
 refine gQ 2 ?_;refine q1 (eX ([aO pw.aB2])) ?_;refine gQ 5 ?_;refine q1 (bW [aO pw.aB2]) ?_;refine gQ 2 ?_;refine dP H fun x2 x3 z1 H=>(q1 (bE func113 (adF fu pw p0 p9 8 _ z1)) ?_)
 exact gE 5
abbrev EN:=aE→ByteArray→ByteArray→Int→Option ((List Int)×Bool)
def JJ(m:EN):Prop:= ∀(pw:aE) (p0:ByteArray) (p9:ByteArray) (p8:Int) (r:(List Int)×Bool),m pw p0 p9 p8=some r→bR Tryz.prog 154 [(aE.pv pw),pS p0,pS p9,pI p8] (.tup [rI r.1,pB r.2]:PV)
def L6(fu:Nat)(p5:EN)(pw:aE)(p0 p9:ByteArray)(p8:Int)(x4:aU)(x5:Int)(x6:Bool):Nat→Unit→Option (LR Unit ((List Int)×Bool)):=fun i7 _=>bd (p5 pw (aT x4.aCc i7) p9 (aX (p8-1))) fun(x11,x12)=>sw x12 (gd ((([(i7:Int)]:List Int)).length+x11.length≤68719476736) (some (.ret ((([(i7:Int)]:List Int)++x11),true)))) (some (.next ()))
def L7(fu:Nat)(p5:EN)(pw:aE)(p0 p9:ByteArray)(p8:Int)(x4:aU)(x5:Int)(x6:Bool):Option (((List Int)×Bool)⊕Unit):=loopN (L6 fu p5 pw p0 p9 p8 x4 x5 x6) (x4.aCc.length-0) 0 ()
def JI(fu:Nat)(p5:EN)(pw:aE)(p0 p9:ByteArray)(p8:Int):Option ((List Int)×Bool):=sw (decide (p0=p9)) (some (([]),true)) (sw (decide (p8=0)) (some ([],false)) (bd (EO fu pw p0) fun(x4,x5,x6)=>so (L7 fu p5 pw p0 p9 p8 x4 x5 x6) fun _=>some ([],false)))
theorem ab6(fu:Nat)(p5:EN)(pE:JJ p5):JJ (JI fu p5):=by
 intro pw p0 p9 p8 r H
 refine qJ func154 H (fun C hC H=>?_)
 refine gQ 2 ?_;refine q1 (eX ([aO pw.aB2])) ?_;refine gQ 10 ?_;refine bC H (fun h1 H=>?_) (fun h1 H=>?_)
 ·refine gQ 2 ?_;refine q1 (qE ([]:List Int)) ?_;exact gE 3
 refine gQ 7 ?_;refine bC H (fun h2 H=>gE 5) fun h2 H=>?_;refine gQ 3 ?_;refine q1 (bW [aO pw.aB2]) (q1 bF (NR H fun x4 x5 x6 z3 H=>(q1 (bE func115 (QN fu pw p0 _ z3)) ?_)))
 refine gQ 17 ?_;refine gL 31 (bV _) (fun hl8=>?_)
 try dsimp only at hl8
 refine bU (σ:=Unit) (fun i7 _=>⟨[(2,pS p9),(3,pI p8),(4,.ptr 0 0),(8,.nil),(9,pB false),(31,rS x4.aCc),(32,pN x4.aCc.length),(33,pN i7)],⟨[some ⟨26,[aO pw.aB2]⟩,some ⟨156,sU x4⟩],[]⟩⟩) (fun _=>⟨[(8,.nil),(9,pB false)],⟨[some ⟨26,[aO pw.aB2]⟩,some ⟨156,sU x4⟩],[]⟩⟩) (eK H) ?_ ?_
 ·rintro i7 ⟨⟩ H
  refine gQ 5 ?_;refine cS H (fun h9 h9l H=>?_) (fun h9 H=>?_)
  ·refine gQ 13 ?_;refine q1 (bW [aO pw.aB2]) ?_;refine gQ 4 ?_;refine dP H fun x11 x12 z10 H=>(q1 (bE func154 (pE pw (aT x4.aCc i7) p9 (aX (p8-1)) _ z10)) ?_)
   refine gQ 10 ?_;refine bC H (fun h13 H=>?_) (fun h13 H=>?_)
   ·refine gQ 3 ?_;refine q1 (qE ([(i7:Int)]:List Int)) (q1 bF (cC H fun z14 H=>(q1 (lG z14) ?_)))
    exact gE 3
   exact gE 5
  exact gE 0
 rintro⟨⟩ H
 exact gE 5
def mD:Nat→aE→ByteArray→ByteArray→Int→Option ((List Int)×Bool)
 |0,_,_,_,_=>none
 |fu+1,pw,p0,p9,p8=>JI fu (mD fu) pw p0 p9 p8
theorem afA(fu:Nat):JJ (mD fu):=by
 induction fu with
 |zero=>exact(fun pw p0 p9 p8 r H=>by simp only [mD] at H;cases H)
 |succ fu ih=>exact(fun pw p0 p9 p8 r H=>by simp only [mD] at H;exact ab6 fu (mD fu) ih pw p0 p9 p8 r H)
theorem aiM(fu:Nat):JJ (mD fu):=(afA fu)
def kV(fu:Nat)(pw:aE)(p0 p9:ByteArray):Option ((List Int)×Bool):=bd (mD fu pw p0 p9 8) fun(x2,x3)=>some (x2,x3)
theorem BA(fu:Nat)(pw:aE)(p0:ByteArray)(p9:ByteArray)(r:(List Int)×Bool)(H:kV fu pw p0 p9=some r):bR Tryz.prog 116 [(aE.pv pw),pS p0,pS p9] (.tup [rI r.1,pB r.2]):=by
 refine qJ func116 H (fun C hC H=>?_)
 refine gQ 2 ?_;refine q1 (eX ([aO pw.aB2])) ?_;refine gQ 5 ?_;refine q1 (bW [aO pw.aB2]) ?_;refine gQ 2 ?_;refine dP H fun x2 x3 z1 H=>(q1 (bE func154 (aiM fu pw p0 p9 8 _ z1)) ?_)
 exact gE 5
end
end Go.Proofs.YtfcoaagbccmahaaGreat.W

namespace Go.Proofs.YtfcoaagbccmahaaGreat.W
set_option maxRecDepth 100000
set_option maxHeartbeats 40000000
noncomputable section
open Tryz Go.RowKit Go.Proofs
attribute [local irreducible] lt
def adG(fu:Nat)(pc d1:DS):Nat→((List aG)×DS)→Option (LR ((List aG)×DS) ((List aG)×DS)):=fun i3 (v6,v5)=>lt (v5.after ([bJ,jL,fC]:LB).length) fun d9=>lt (v5.pick ([bJ,jL,fC]:LB)) fun y11=>lt (d9.after ([fW,CZ]:LB).length) fun d13=>lt (d9.pick ([fW,CZ]:LB)) fun y15=>bd (l4 fu y15) fun x18=>gd ((v6).length+(([(aG.mk y11 x18)]:List aG)).length≤68719476736) (some (.next ((v6++([(aG.mk y11 x18)]:List aG)),d13)))
def I0(fu:Nat)(pc:DS):Option ((List aG)×DS):=lt (pc.after 3) fun d1=>so (loopN (adG fu pc d1) (pc.below 3-0) 0 (([]),d1)) fun(v6,v5)=>some (v6,v5)
theorem adH(fu:Nat)(pc:DS)(r:(List aG)×DS)(H:I0 fu pc=some r):b7 Tryz.prog 87 [.ptr 0 0] ⟨[some ⟨133,dC pc⟩],[]⟩ (fun q t=>q=(bY r.1)∧t=⟨[some ⟨133,dC r.2⟩],[]⟩):=by
 refine qJ func87 H (fun C hC H=>?_)
 refine gQ 6 ?_;refine q1 (qE ([]:List aG)) ?_;refine gQ 5 ?_;refine fZ H fun d1 h2 H=>(q1 (eU [0] [] func73 (EU h2 (fI pc 3))) ?_)
 refine gQ 7 ?_
 have hb7:=DS.below_lt (d:=pc) (n:=3) (by decide)
 refine bU (σ:=(List aG)×DS) (fun i3 (v6,v5)=>⟨[(0,.ptr 0 0),(2,.nil),(3,abM v6 0),(4,pN (pc.below 3)),(5,pN i3)],⟨[some ⟨133,dC v5⟩],[⟨32,4,aG.trs (v6),false⟩]⟩⟩) (fun(v6,v5)=>⟨[(2,.nil),(3,abM v6 0)],⟨[some ⟨133,dC v5⟩],[⟨32,4,aG.trs (v6),false⟩]⟩⟩) (eK H) ?_ ?_
 ·rintro i3 ⟨v6,v5⟩ H
  refine gQ 7 ?_;refine cS H (fun h8 h8l H=>?_) (fun h8 H=>?_)
  ·have h8n:i3<pc.below 3:=by have:=of_decide_eq_true h8;omega
   refine gQ 6 ?_;refine q1 (iF ([bJ,jL,fC]:LB)) (fZ H fun d9 h10 H=>(fZ H fun y11 h12 H=>(q1 (eU [0] [] func48 (PP h10 h12 (f7 v5 ([bJ,jL,fC]:LB) (by decide)))) (q1 bF (q1 (iF ([fW,CZ]:LB)) (fZ H fun d13 h14 H=>(fZ H fun y15 h16 H=>(q1 (eU [0] [] func48 (PP h14 h16 (f7 d9 ([fW,CZ]:LB) (by decide)))) (bK H fun x18 z17 H=>(q1 (bE func137 (kD (jH fu) y15 _ z17)) (q1 rW (q1 (iF ([(aG.mk y11 x18)]:List aG)) (cC H fun z19 H=>?_)))))))))))))
   refine q1 (lG z19) ?_;exact gE 7
  exact gE 0
 rintro⟨v6,v5⟩ H
 exact gE 5
def tJ(fu:Nat)(p3:aE)(p1:List aG)(i1:Nat)(v3:List aJ)(x9:LB):Nat→((List aJ))→Option (LR ((List aJ)) (LR ((List aJ)) ((List aJ)))):=fun i10 v12=>bd (mY fu p3 ((aT p1 i1).aCa) (aT x9 i10)) fun(x16,x17)=>gd ((v12).length+(([(aJ.mk (aG.mk (aT x9 i10) ((aT p1 i1).aB7)) (i1:Int) x16)]:List aJ)).length≤68719476736) (some (.next (v12++([(aJ.mk (aG.mk (aT x9 i10) ((aT p1 i1).aB7)) (i1:Int) x16)]:List aJ))))
def yY(fu:Nat)(p3:aE)(p1:List aG):Nat→((List aJ))→Option (LR ((List aJ)) ((List aJ))):=fun i1 v3=>gd (iC ((aT p1 i1).aB7)) (gd ((v3).length+(([(aJ.mk (aG.mk ((aT p1 i1).aCa) ((aT p1 i1).aB7)) (i1:Int) [])]:List aJ)).length≤68719476736) (bd (qX fu p3 ((aT p1 i1).aCa)) fun x9=>so (loopN (tJ fu p3 p1 i1 v3 x9) (x9.length-0) 0 (v3++([(aJ.mk (aG.mk ((aT p1 i1).aCa) ((aT p1 i1).aB7)) (i1:Int) [])]:List aJ))) fun v12=>some (.next v12)))
def u7(fu:Nat)(p3:aE)(p1:List aG):Option ((List aJ)):=so (loopN (yY fu p3 p1) (p1.length-0) 0 ([])) fun v3=>some v3
theorem TR(fu:Nat)(p3:aE)(p1:List aG)(r:(List aJ))(H:u7 fu p3 p1=some r):bR Tryz.prog 15 [(aE.pv p3),bY p1] (bO r):=by
 refine qJ func15 H (fun C hC H=>?_)
 refine gQ 2 ?_;refine q1 (eX ([aO p3.aB2])) ?_;refine gQ 4 ?_;refine q1 (qE ([]:List aJ)) ?_;refine gQ 7 ?_;refine gL 1 (aG.trs_len _) (fun hl4=>?_)
 try dsimp only at hl4
 refine bU (σ:=(List aJ)) (fun i1 v3=>⟨[(1,bY p1),(2,.ptr 0 0),(4,.nil),(5,fP v3 0),(6,pN i1)],⟨[some ⟨26,[aO p3.aB2]⟩],[⟨99,6,aJ.trs (v3),false⟩]⟩⟩) (fun v3=>⟨[(4,.nil),(5,fP v3 0)],⟨[some ⟨26,[aO p3.aB2]⟩],[⟨99,6,aJ.trs (v3),false⟩]⟩⟩) (eK H) ?_ ?_
 ·rintro i1 v3 H
  refine gQ 8 ?_;refine cS H (fun h5 h5l H=>?_) (fun h5 H=>?_)
  ·refine gQ 4 ?_;refine cC H fun z6 H=>(cC H fun z7 H=>(dW (dI [5] bF (dI [1] bF (dI [6] bF (dI [19,20] qF (dI [21] wZ (dI [22] vM (dI [1] bF (dI [6] bF (dI [24,25] qF (dI [26] wZ (dI [27] (iI (aA.cs ((aT p1 i1).aB7))) ?_)))))))))))))
   refine dI [28] (bE func56 (B6 ((aT p1 i1).aB7) z6)) (dI [23,29] rW (dI [6] bF (dI [30,31] rW (dI [32] (iF ([(aJ.mk (aG.mk ((aT p1 i1).aCa) ((aT p1 i1).aB7)) (i1:Int) [])]:List aJ)) (dE [18,33] (lG z7) (dI [34] bF (dN (qS (bK H fun x9 z8 H=>(dW (dD [2] (bW [aO p3.aB2]) (dI [1] bF (dI [6] bF ?_)))))))))))))
   refine dI [36,37] qF (dI [38] wZ (dI [39] vM (dI [35,40] (bE func57 (MP fu p3 ((aT p1 i1).aCa) _ z8)) (dI [41] bF (dN ?_)))))
   refine gQ 4 ?_;refine gL 7 (bV _) (fun hl13=>?_)
   try dsimp only at hl13
   refine bU (σ:=(List aJ)) (fun i10 v12=>⟨[(1,bY p1),(2,.ptr 0 0),(4,.nil),(5,fP v12 0),(6,pN i1),(7,rS x9),(8,pN i10),(12,pN i1),(13,bY p1),(14,pN p1.length),(15,pB (decide ((i1:Int)<(p1.length:Int)))),(18,fP v3 0),(19,bY p1),(20,pN i1),(21,.eptr (aG.cs (aT p1 i1))),(22,.eptr (aG.cs (aT p1 i1))),(23,pS ((aT p1 i1).aCa)),(24,bY p1),(25,pN i1),(26,.eptr (aG.cs (aT p1 i1))),(27,.eptr ((aG.cs (aT p1 i1)).drop 1)),(28,(aA.pv ((aT p1 i1).aB7))),(29,(aA.pv ((aT p1 i1).aB7))),(30,.agg [pS ((aT p1 i1).aCa),pI (((aT p1 i1).aB7).aB5),pS (((aT p1 i1).aB7).aB3),aR (((aT p1 i1).aB7).aB4)]),(31,pN i1),(32,.agg [pS ((aT p1 i1).aCa),pI (((aT p1 i1).aB7).aB5),pS (((aT p1 i1).aB7).aB3),aR (((aT p1 i1).aB7).aB4),pN i1,.nil]),(33,bO ([(aJ.mk (aG.mk ((aT p1 i1).aCa) ((aT p1 i1).aB7)) (i1:Int) [])]:List aJ)),(34,fP (v3++([(aJ.mk (aG.mk ((aT p1 i1).aCa) ((aT p1 i1).aB7)) (i1:Int) [])]:List aJ)) 0),(35,(aE.pv p3)),(36,bY p1),(37,pN i1),(38,.eptr (aG.cs (aT p1 i1))),(39,.eptr (aG.cs (aT p1 i1))),(40,pS ((aT p1 i1).aCa)),(41,rS x9)],⟨[some ⟨26,[aO p3.aB2]⟩],[⟨99,6,aJ.trs (v12),false⟩]⟩⟩) (fun v12=>⟨[(1,bY p1),(2,.ptr 0 0),(4,.nil),(5,fP v12 0),(6,pN i1),(7,rS x9),(12,pN i1),(13,bY p1),(14,pN p1.length),(15,pB (decide ((i1:Int)<(p1.length:Int)))),(18,fP v3 0),(19,bY p1),(20,pN i1),(21,.eptr (aG.cs (aT p1 i1))),(22,.eptr (aG.cs (aT p1 i1))),(23,pS ((aT p1 i1).aCa)),(24,bY p1),(25,pN i1),(26,.eptr (aG.cs (aT p1 i1))),(27,.eptr ((aG.cs (aT p1 i1)).drop 1)),(28,(aA.pv ((aT p1 i1).aB7))),(29,(aA.pv ((aT p1 i1).aB7))),(30,.agg [pS ((aT p1 i1).aCa),pI (((aT p1 i1).aB7).aB5),pS (((aT p1 i1).aB7).aB3),aR (((aT p1 i1).aB7).aB4)]),(31,pN i1),(32,.agg [pS ((aT p1 i1).aCa),pI (((aT p1 i1).aB7).aB5),pS (((aT p1 i1).aB7).aB3),aR (((aT p1 i1).aB7).aB4),pN i1,.nil]),(33,bO ([(aJ.mk (aG.mk ((aT p1 i1).aCa) ((aT p1 i1).aB7)) (i1:Int) [])]:List aJ)),(34,fP (v3++([(aJ.mk (aG.mk ((aT p1 i1).aCa) ((aT p1 i1).aB7)) (i1:Int) [])]:List aJ)) 0),(35,(aE.pv p3)),(36,bY p1),(37,pN i1),(38,.eptr (aG.cs (aT p1 i1))),(39,.eptr (aG.cs (aT p1 i1))),(40,pS ((aT p1 i1).aCa)),(41,rS x9)],⟨[some ⟨26,[aO p3.aB2]⟩],[⟨99,6,aJ.trs (v12),false⟩]⟩⟩) (eK H) ?_ ?_
   ·rintro i10 v12 H
    refine gQ 8 ?_;refine cS H (fun h14 h14l H=>?_) (fun h14 H=>?_)
    ·refine gQ 4 ?_;refine dP H fun x16 x17 z15 H=>(dW (dD [2] (bW [aO p3.aB2]) (dI [1] bF (dI [6] bF (dI [50,51] qF (dI [52] wZ (dI [53] vM (dI [7] bF (dI [8] bF (dI [55,56] qF (dI [57] vM (dI [49,54,58] (bE func58 (BT fu p3 ((aT p1 i1).aCa) (aT x9 i10) _ z15)) (dI [59] bF ?_)))))))))))))
     iterate 2 refine dI [48] YR ?_
     refine dI [60] bF (dI [61] bF (dN (cC H fun z18 H=>(dW (dI [5] bF (dI [7] bF (dI [8] bF (dI [63,64] qF (dI [65] vM (dI [1] bF (dI [6] bF (dI [67,68] qF (dI [69] wZ ?_)))))))))))))
     refine dI [70] (iI (aA.cs ((aT p1 i1).aB7))) (dI [71] (bE func56 (B6 ((aT p1 i1).aB7) z6)) (dI [66,72] rW (dI [6] bF (dI [9] bF (dI [73,74,75] rW (dI [76] (iF ([(aJ.mk (aG.mk (aT x9 i10) ((aT p1 i1).aB7)) (i1:Int) x16)]:List aJ)) (dE [62,77] (lG z18) (dI [78] bF (dN ?_)))))))))
     exact gE 5
    exact gE 0
   rintro v12 H
   exact gE 5
  exact gE 0
 rintro v3 H
 exact gE 5
def tH(fu:Nat)(pw:aE)(p0:List aG)(i1:Nat)(v3:List aJ)(x9:LB):Nat→((List aJ))→Option (LR ((List aJ)) (LR ((List aJ)) ((List aJ)))):=fun i10 v12=>bd (kV fu pw ((aT p0 i1).aCa) (aT x9 i10)) fun(x16,x17)=>gd ((v12).length+(([(aJ.mk (aG.mk (aT x9 i10) ((aT p0 i1).aB7)) (i1:Int) x16)]:List aJ)).length≤68719476736) (some (.next (v12++([(aJ.mk (aG.mk (aT x9 i10) ((aT p0 i1).aB7)) (i1:Int) x16)]:List aJ))))
def yM(fu:Nat)(pw:aE)(p0:List aG):Nat→((List aJ))→Option (LR ((List aJ)) ((List aJ))):=fun i1 v3=>gd (iC ((aT p0 i1).aB7)) (gd ((v3).length+(([(aJ.mk (aG.mk ((aT p0 i1).aCa) ((aT p0 i1).aB7)) (i1:Int) [])]:List aJ)).length≤68719476736) (bd (qP fu pw ((aT p0 i1).aCa)) fun x9=>so (loopN (tH fu pw p0 i1 v3 x9) (x9.length-0) 0 (v3++([(aJ.mk (aG.mk ((aT p0 i1).aCa) ((aT p0 i1).aB7)) (i1:Int) [])]:List aJ))) fun v12=>some (.next v12)))
def uS(fu:Nat)(pw:aE)(p0:List aG):Option ((List aJ)):=so (loopN (yM fu pw p0) (p0.length-0) 0 ([])) fun v3=>some v3
theorem TJ(fu:Nat)(pw:aE)(p0:List aG)(r:(List aJ))(H:uS fu pw p0=some r):bR Tryz.prog 99 [(aE.pv pw),bY p0] (bO r):=by
 refine qJ func99 H (fun C hC H=>?_)
 refine gQ 2 ?_;refine q1 (eX ([aO pw.aB2])) ?_;refine gQ 4 ?_;refine q1 (qE ([]:List aJ)) ?_;refine gQ 9 ?_;refine gL 1 (aG.trs_len _) (fun hl4=>?_)
 try dsimp only at hl4
 refine bU (σ:=(List aJ)) (fun i1 v3=>⟨[(2,.ptr 0 0),(4,.nil),(5,fP v3 0),(13,bY p0),(14,pN p0.length),(15,pN i1)],⟨[some ⟨26,[aO pw.aB2]⟩],[⟨99,6,aJ.trs (v3),false⟩]⟩⟩) (fun v3=>⟨[(4,.nil),(5,fP v3 0)],⟨[some ⟨26,[aO pw.aB2]⟩],[⟨99,6,aJ.trs (v3),false⟩]⟩⟩) (eK H) ?_ ?_
 ·rintro i1 v3 H
  refine gQ 5 ?_;refine cS H (fun h5 h5l H=>?_) (fun h5 H=>?_)
  ·refine gQ 7 ?_;refine q1 (iI (aG.cs (aT p0 i1))) ?_;refine gQ 5 ?_;refine cC H fun z6 H=>(cC H fun z7 H=>(dW (dI [5] bF (dI [7] bZ (dD [21] eE (dI [7] bZ (dD [23] (bW [pI (((aT p0 i1).aB7).aB5),pS (((aT p0 i1).aB7).aB3),aR (((aT p0 i1).aB7).aB4)]) (dI [24] (bE func79 (zQ ((aT p0 i1).aB7) z6)) (dI [22,25] rW (dI [6] bF (dI [26,27] rW (dI [28] (iF ([(aJ.mk (aG.mk ((aT p0 i1).aCa) ((aT p0 i1).aB7)) (i1:Int) [])]:List aJ)) (dE [20,29] (lG z7) ?_)))))))))))))
   refine dI [30] bF (dN ?_)
   refine gQ 2 ?_;refine q1 (bW [aO pw.aB2]) ?_;refine gQ 2 ?_;refine bK H fun x9 z8 H=>(q1 (bE func147 (L3 fu pw ((aT p0 i1).aCa) _ z8)) ?_)
   refine gQ 3 ?_;refine gL 34 (bV _) (fun hl13=>?_)
   try dsimp only at hl13
   refine bU (σ:=(List aJ)) (fun i10 v12=>⟨[(2,.ptr 0 0),(4,.nil),(5,fP v12 0),(6,pN i1),(7,.ptr 1 0),(13,bY p0),(14,pN p0.length),(15,pN i1),(16,pB (decide ((i1:Int)<(p0.length:Int)))),(17,pN i1),(18,.eptr (aG.cs (aT p0 i1))),(19,(aG.pv (aT p0 i1))),(20,fP v3 0),(21,.ptr 1 0),(22,pS ((aT p0 i1).aCa)),(23,.ptr 1 1),(24,(aA.pv ((aT p0 i1).aB7))),(25,(aA.pv ((aT p0 i1).aB7))),(26,.agg [pS ((aT p0 i1).aCa),pI (((aT p0 i1).aB7).aB5),pS (((aT p0 i1).aB7).aB3),aR (((aT p0 i1).aB7).aB4)]),(27,pN i1),(28,.agg [pS ((aT p0 i1).aCa),pI (((aT p0 i1).aB7).aB5),pS (((aT p0 i1).aB7).aB3),aR (((aT p0 i1).aB7).aB4),pN i1,.nil]),(29,bO ([(aJ.mk (aG.mk ((aT p0 i1).aCa) ((aT p0 i1).aB7)) (i1:Int) [])]:List aJ)),(30,fP (v3++([(aJ.mk (aG.mk ((aT p0 i1).aCa) ((aT p0 i1).aB7)) (i1:Int) [])]:List aJ)) 0),(31,(aE.pv pw)),(32,.ptr 1 0),(33,pS ((aT p0 i1).aCa)),(34,rS x9),(35,pN x9.length),(36,pN i10)],⟨[some ⟨26,[aO pw.aB2]⟩,some ⟨32,dL (aT p0 i1)⟩],[⟨99,6,aJ.trs (v12),false⟩]⟩⟩) (fun v12=>⟨[(2,.ptr 0 0),(4,.nil),(5,fP v12 0),(6,pN i1),(7,.ptr 1 0),(13,bY p0),(14,pN p0.length),(15,pN i1),(16,pB (decide ((i1:Int)<(p0.length:Int)))),(17,pN i1),(18,.eptr (aG.cs (aT p0 i1))),(19,(aG.pv (aT p0 i1))),(20,fP v3 0),(21,.ptr 1 0),(22,pS ((aT p0 i1).aCa)),(23,.ptr 1 1),(24,(aA.pv ((aT p0 i1).aB7))),(25,(aA.pv ((aT p0 i1).aB7))),(26,.agg [pS ((aT p0 i1).aCa),pI (((aT p0 i1).aB7).aB5),pS (((aT p0 i1).aB7).aB3),aR (((aT p0 i1).aB7).aB4)]),(27,pN i1),(28,.agg [pS ((aT p0 i1).aCa),pI (((aT p0 i1).aB7).aB5),pS (((aT p0 i1).aB7).aB3),aR (((aT p0 i1).aB7).aB4),pN i1,.nil]),(29,bO ([(aJ.mk (aG.mk ((aT p0 i1).aCa) ((aT p0 i1).aB7)) (i1:Int) [])]:List aJ)),(30,fP (v3++([(aJ.mk (aG.mk ((aT p0 i1).aCa) ((aT p0 i1).aB7)) (i1:Int) [])]:List aJ)) 0),(31,(aE.pv pw)),(32,.ptr 1 0),(33,pS ((aT p0 i1).aCa)),(34,rS x9),(35,pN x9.length)],⟨[some ⟨26,[aO pw.aB2]⟩,some ⟨32,dL (aT p0 i1)⟩],[⟨99,6,aJ.trs (v12),false⟩]⟩⟩) (eK H) ?_ ?_
   ·rintro i10 v12 H
    refine gQ 5 ?_;refine cS H (fun h14 h14l H=>?_) (fun h14 H=>?_)
    ·refine gQ 11 ?_;refine q1 (bW [aO pw.aB2]) ?_;refine gQ 3 ?_;refine dP H fun x16 x17 z15 H=>(q1 (bE func116 (BA fu pw ((aT p0 i1).aCa) (aT x9 i10) _ z15)) ?_)
     refine gQ 10 ?_;refine q1 (bW [pI (((aT p0 i1).aB7).aB5),pS (((aT p0 i1).aB7).aB3),aR (((aT p0 i1).aB7).aB4)]) (q1 (bE func79 (zQ ((aT p0 i1).aB7) z6)) ?_)
     refine gQ 4 ?_;refine q1 (iF ([(aJ.mk (aG.mk (aT x9 i10) ((aT p0 i1).aB7)) (i1:Int) x16)]:List aJ)) (cC H fun z18 H=>(q1 (lG z18) ?_))
     exact gE 6
    exact gE 0
   rintro v12 H
   exact gE 4
  exact gE 0
 rintro v3 H
 exact gE 5
def zX(fu:Nat)(pa pb:aG):Option Bool:=sw (decide (pa.aCa=pb.aCa)) (some (aA.eq pa.aB7 pb.aB7)) (some false)
theorem YX(fu:Nat)(pa:aG)(pb:aG)(r:Bool)(H:zX fu pa pb=some r):bR Tryz.prog 55 [(aG.pv pa),(aG.pv pb)] (pB r):=by
 refine qJ func55 H (fun C hC H=>?_)
 refine gQ 2 ?_;refine q1 (eX (dL pa)) (q1 (eX (dL pb)) ?_)
 refine gQ 10 ?_;refine dH 10 H (fun g1 H=>?_) fun g1 H=>?_
 ·refine qg g1 bZ (qg g1 (bW [pI pa.aB7.aB5,pS pa.aB7.aB3,aR pa.aB7.aB4]) (qg g1 bZ (qg g1 (bW [pI pb.aB7.aB5,pS pb.aB7.aB3,aR pb.aB7.aB4]) (qg g1 (bE func38 (xA pa.aB7 pb.aB7)) ?_))))
  exact gE 3
 exact gE 8
def BL(fu:Nat)(p2:List aJ)(pg:aG):Nat→Unit→Option (LR Unit Int):=fun i1 _=>lt (aT p2 i1) fun y4=>bd (zX fu y4.aCy pg) fun x7=>sw x7 (some (.ret (i1:Int))) (some (.next ()))
def kX(fu:Nat)(p2:List aJ)(pg:aG):Option Int:=so (loopN (BL fu p2 pg) (p2.length-0) 0 ()) fun _=>some (-1)
theorem tW(fu:Nat)(p2:List aJ)(pg:aG)(r:Int)(H:kX fu p2 pg=some r):bR Tryz.prog 14 [bO p2,(aG.pv pg)] (pI r):=by
 refine qJ func14 H (fun C hC H=>?_)
 refine gQ 2 ?_;refine q1 (eX (dL pg)) ?_;refine gQ 7 ?_;refine gL 0 (aJ.trs_len _) (fun hl2=>?_)
 try dsimp only at hl2
 refine bU (σ:=Unit) (fun i1 _=>⟨[(0,bO p2),(3,.ptr 0 0),(4,pI 0),(5,pN i1)],⟨[some ⟨32,dL pg⟩],[]⟩⟩) (fun _=>⟨[(4,pI 0)],⟨[some ⟨32,dL pg⟩],[]⟩⟩) (eK H) ?_ ?_
 ·rintro i1 ⟨⟩ H
  refine gQ 8 ?_;refine cS H (fun h3 h3l H=>?_) (fun h3 H=>?_)
  ·refine gQ 4 ?_;refine fZ H fun y4 h5 H=>(bK H fun x7 z6 H=>(dW (dI [0] bF (dI [5] bF (dI [12,13] (yI h5 h3l) (dI [14] wZ (dI [15] (iI (aG.cs y4.aCy)) (dD [3] (bW [pS pg.aCa,pI pg.aB7.aB5,pS pg.aB7.aB3,aR pg.aB7.aB4]) (dI [16,17] (bE func55 (YX fu y4.aCy pg _ z6)) (dN ?_))))))))))
   refine bC H (fun h8 H=>gE 5) fun h8 H=>?_;exact gE 6
  exact gE 0
 rintro⟨⟩ H
 exact gE 4
def zP(fu:Nat)(pa pb:aG):Option Bool:=sw (decide (pa.aCa=pb.aCa)) (some (aA.eq pa.aB7 pb.aB7)) (some false)
theorem YD(fu:Nat)(pa:aG)(pb:aG)(r:Bool)(H:zP fu pa pb=some r):bR Tryz.prog 84 [(aG.pv pa),(aG.pv pb)] (pB r):=by
 refine qJ func84 H (fun C hC H=>?_)
 refine gQ 2 ?_;refine q1 (eX (dL pa)) (q1 (eX (dL pb)) ?_)
 refine gQ 10 ?_;refine dH 10 H (fun g1 H=>?_) fun g1 H=>?_
 ·refine qg g1 bZ (qg g1 (bW [pI pa.aB7.aB5,pS pa.aB7.aB3,aR pa.aB7.aB4]) (qg g1 bZ (qg g1 (bW [pI pb.aB7.aB5,pS pb.aB7.aB3,aR pb.aB7.aB4]) (qg g1 (bE func95 (w7 pa.aB7 pb.aB7)) ?_))))
  exact gE 3
 exact gE 8
def sV(fu:Nat)(pa:aJ)(c1:aG):Option Bool:=bd (zP fu pa.aCy c1) fun x2=>some x2
theorem H6(fu:Nat)(pa:aJ)(c1:aG)(r:Bool)(H:sV fu pa c1=some r):b7 Tryz.prog 149 [(aJ.pv pa),.ptr 0 0] ⟨[some ⟨32,dL c1⟩],[]⟩ (fun q t=>q=(pB r)∧t=⟨[some ⟨32,dL c1⟩],[]⟩):=by
 refine qJ func149 H (fun C hC H=>?_)
 refine gQ 2 ?_;refine q1 (eX ([pS pa.aCy.aCa,pI pa.aCy.aB7.aB5,pS pa.aCy.aB7.aB3,aR pa.aCy.aB7.aB4,pI pa.aCF,rI pa.aCG])) ?_;refine gQ 5 ?_;refine q1 (bW [pS pa.aCy.aCa,pI pa.aCy.aB7.aB5,pS pa.aCy.aB7.aB3,aR pa.aCy.aB7.aB4]) (q1 (bW [pS c1.aCa,pI c1.aB7.aB5,pS c1.aB7.aB3,aR c1.aB7.aB4]) (bK H fun x2 z1 H=>(q1 (bE func84 (YD fu pa.aCy c1 _ z1)) ?_)))
 exact gE 2
def iZ(fu:Nat)(ps:List aJ)(c1_0:aG):Nat→Unit→Option (LR Unit Int):=fun i1 _=>lt (aT ps i1) fun y4=>bd (sV fu y4 c1_0) fun x7=>sw x7 (some (.ret (i1:Int))) (some (.next ()))
def fF(fu:Nat)(ps:List aJ)(c1_0:aG):Option Int:=so (loopN (iZ fu ps c1_0) (ps.length-0) 0 ()) fun _=>some (-1)
theorem nS(fu:Nat)(ps:List aJ)(c1_0:aG)(r:Int)(H:fF fu ps c1_0=some r):b7 Tryz.prog 148 [bO ps,.fn 149 [.ptr 0 0]] ⟨[some ⟨32,dL c1_0⟩],[]⟩ (fun q t=>q=(pI r)∧t=⟨[some ⟨32,dL c1_0⟩],[]⟩):=by
 refine qJ func148 H (fun C hC H=>?_)
 refine gQ 11 ?_;refine gL 0 (aJ.trs_len _) (fun hl2=>?_)
 try dsimp only at hl2
 refine bU (σ:=Unit) (fun i1 _=>⟨[(0,bO ps),(1,.fn 149 [.ptr 0 0]),(4,pI 0),(7,pN ps.length),(8,pN i1)],⟨[some ⟨32,dL c1_0⟩],[]⟩⟩) (fun _=>⟨[(4,pI 0)],⟨[some ⟨32,dL c1_0⟩],[]⟩⟩) (eK H) ?_ ?_
 ·rintro i1 ⟨⟩ H
  refine gQ 5 ?_;refine cS H (fun h3 h3l H=>?_) (fun h3 H=>?_)
  ·refine gQ 13 ?_;refine fZ H fun y4 h5 H=>(q1 (yI h5 h3l) (q1 (iI (aJ.cs y4)) (bK H fun x7 z6 H=>(q1 (bB.callVPE (pre:=⟨[some ⟨32,dL c1_0⟩],[]⟩) (st':=⟨[some ⟨32,dL c1_0⟩],[]⟩) (ps:= [_]) (cs:= [.ptr 0 0]) (qs:= [(aJ.pv y4),.ptr 0 0]) [0] [] rfl rfl rfl func149 (by kernel_rfl) rfl rfl rfl (eZ.of ⟨⟨_,rfl,rfl,jN,rfl⟩,trivial⟩ trivial (by decide) (by decide)) jN rfl rfl rfl (H6 fu y4 c1_0 _ z6)) (qN ?_)))))
   refine bC H (fun h8 H=>gE 5) fun h8 H=>?_;exact gE 5
  exact gE 0
 rintro⟨⟩ H
 exact gE 4
def mN(fu:Nat)(p2:List aJ)(pg:aG):Option Int:=bd (fF fu p2 pg) fun x2=>some x2
theorem A8(fu:Nat)(p2:List aJ)(pg:aG)(r:Int)(H:mN fu p2 pg=some r):bR Tryz.prog 101 [bO p2,(aG.pv pg)] (pI r):=by
 refine qJ func101 H (fun C hC H=>?_)
 refine gQ 2 ?_;refine q1 (eX (dL pg)) ?_;refine gQ 5 ?_;refine q1 rMf (bK H fun x2 z1 H=>(q1 (eU [0] [] func148 (nS fu p2 pg _ z1)) ?_))
 exact gE 2
end
end Go.Proofs.YtfcoaagbccmahaaGreat.W

namespace Go.Proofs.YtfcoaagbccmahaaGreat.W
open Go.RowKit Go.WalkArith
def DL(l:List aK)(v:ByteArray):aA:=match D3 l v with
 |some b=>b.aB7
 |none=> .mk 0 ⟨#[]⟩ []
def II(l:List aK)(v:ByteArray):Bool:=(D3 l v).isSome
def eR(p t:aA):List aK:=(j0 p t []).getD []
theorem aoF(l:List aK)(v:ByteArray)(hb:qG l):bR Tryz.prog 151 [.t (.row 4 (aK.trs l)),.t (.leaf (.string v))] (.tup [(aA.pv (DL l v)),.t (.leaf (.bool (II l v)))]):=by
 refine WN 0 l v (DL l v,II l v) ?_
 rw [WM 0 l v hb]
 unfold DL II
 cases D3 l v<;>rfl
theorem aaS(p t:aA)(hp:Tr.bulkL p.tr≤68719476735)(ht:iC t):bR Tryz.prog 161 [(aA.pv p),(aA.pv t)] (.tup [.t (.row 4 (aK.trs (eR p t))),.t (.leaf (.bool (iY p t)))]):=by
 obtain⟨fu,hf⟩:=(aaR p).get
 refine aaT (fu+1) p t (eR p t,iY p t) ?_
 have h1:=acF (fu:=fu) (ps:= [p]) (by simpa using hf) (ts:= [t]) (s:= []) rfl (by simpa using ht) qG.nil (by rw [UP];simp only [List.length_nil];omega)
 rw [F1] at h1
 unfold O0 CT iY eR
 cases hq:j0 p t [] with
 |none=>
  rw [hq] at h1
  obtain⟨a,b,h1⟩:=h1
  exact fY (gW rfl (fY h1 (gW rfl rfl))) rfl
 |some s=>
  rw [hq] at h1
  exact fY (gW rfl (fY h1 (jI rfl (gO rfl rfl)))) rfl
end Go.Proofs.YtfcoaagbccmahaaGreat.W

namespace Go.Proofs.YtfcoaagbccmahaaGreat.W
set_option maxRecDepth 100000
set_option maxHeartbeats 40000000
noncomputable section
open Tryz Go.RowKit Go.Proofs
attribute [local irreducible] lt
abbrev EJ:=(List aK)→aA→Option aA
abbrev t8:=(List aK)→(List aA)→Option ((List aA))
def H5(m:EJ):Prop:= ∀(p0:List aK) (pt:aA) (r:aA),m p0 pt=some r→bR Tryz.prog 16 [fJ p0,(aA.pv pt)] ((aA.pv r):PV)
def CK(m:t8):Prop:= ∀(p0:List aK) (p3:List aA) (r:(List aA)),m p0 p3=some r→bR Tryz.prog 60 [fJ p0,aR p3] (aR r:PV)
def VE(fu:Nat)(p4:EJ)(p1:t8)(p0:List aK)(pt:aA):Option aA:=sw (decide (pt.aB5=1)) (bd (EK fu p0 pt.aB3) fun(x3,x4)=>sw x4 (some x3) (bd (p1 p0 pt.aB4) fun x7=>some (aA.mk pt.aB5 pt.aB3 x7))) (bd (p1 p0 pt.aB4) fun x9=>some (aA.mk pt.aB5 pt.aB3 x9))
theorem ae2(fu:Nat)(p4:EJ)(p1:t8)(p8:H5 p4)(p6:CK p1):H5 (VE fu p4 p1):=by
 intro p0 pt r H
 refine qJ func16 H (fun C hC H=>?_)
 refine gQ 2 ?_;refine q1 (eX (bM pt)) ?_;refine gQ 9 ?_;refine bC H (fun h1 H=>?_) (fun h1 H=>?_)
 ·refine gQ 5 ?_;refine dP H fun x3 x4 z2 H=>(q1 (bE func59 (VJ fu p0 pt.aB3 _ z2)) ?_)
  refine gQ 11 ?_;refine bC H (fun h5 H=>?_) (fun h5 H=>?_)
  ·refine gQ 2 ?_;refine q1 (bW [pI x3.aB5,pS x3.aB3,aR x3.aB4]) ?_;exact gE 2
  refine gQ 2 ?_;refine bK H fun x7 z6 H=>(dW (dI [3] bZ (dD [19] eE (dI [3] bZ (dD [21] eE (dI [0] bF (dI [3] bZ (dD [24] eE (dI [23,25] (bE func60 (p6 p0 pt.aB4 _ z6)) (dI [20,22,26] rW (kU [4,27] jO (dN ?_))))))))))))
  exact gE 0
 refine gQ 2 ?_;refine bK H fun x9 z8 H=>(dW (dI [3] bZ (dD [19] eE (dI [3] bZ (dD [21] eE (dI [0] bF (dI [3] bZ (dD [24] eE (dI [23,25] (bE func60 (p6 p0 pt.aB4 _ z8)) (dI [20,22,26] rW (kU [4,27] jO (dN ?_))))))))))))
 exact gE 0
def N8(fu:Nat)(p4:EJ)(p1:t8)(p0:List aK)(p3:List aA):Nat→((List aA))→Option (LR ((List aA)) ((List aA))):=fun i2 v3=>bd (p4 p0 (aT p3 i2)) fun x7=>gd (i2=(v3).length) (some (.next (v3++([x7]:List aA))))
def H4(fu:Nat)(p4:EJ)(p1:t8)(p0:List aK)(p3:List aA):Option ((List aA)):=gd (p3.length≤68719476736) (so (loopN (N8 fu p4 p1 p0 p3) (p3.length-0) 0 ([])) fun v3=>gd ((v3).length=p3.length) (some v3))
theorem VD(fu:Nat)(p4:EJ)(p1:t8)(p8:H5 p4)(p6:CK p1):CK (H4 fu p4 p1):=by
 intro p0 p3 r H
 refine qJ func60 H (fun C hC H=>?_)
 refine gQ 8 ?_;refine cC H fun z1 H=>(q1 (bB.makeSlice (N:=p3.length) rfl rfl rfl rfl anO.h atF.h (by decide) (Nat.le_trans (Nat.mul_le_mul_left _ z1) (by decide)) (Nat.le_trans z1 (by decide))) ?_)
 refine gQ 9 ?_;refine gL 1 (aA.trs_len _) (fun hl4=>?_)
 refine bU (σ:=(List aA)) (fun i2 v3=>⟨[(0,fJ p0),(4,.nil),(5,.full 3 (p3.length) 0),(11,aR p3),(12,pN p3.length),(13,pN i2)],⟨[],[⟨30,3,aA.trs (v3),true⟩]⟩⟩) (fun v3=>⟨[(4,.nil),(5,.full 3 (p3.length) 0)],⟨[],[⟨30,3,aA.trs (v3),true⟩]⟩⟩) (eK H) ?_ ?_
 ·rintro i2 v3 H
  refine gQ 5 ?_;refine cS H (fun h5 h5l H=>?_) (fun h5 H=>?_)
  ·refine gQ 7 ?_;refine q1 (iI (aA.cs (aT p3 i2))) ?_;refine gQ 8 ?_;refine q1 (bW [pI ((aT p3 i2).aB5),pS ((aT p3 i2).aB3),aR ((aT p3 i2).aB4)]) (bK H fun x7 z6 H=>(q1 (bE func16 (p8 p0 (aT p3 i2) _ z6)) (q1 (bB.indexFull (k:=i2) rfl rfl rfl rfl h5l anO.h) (cC H fun z8 H=>?_))))
   refine q1 (bB.storeRptr (e:=aA.cs x7) (es2:=aA.trs (v3++([x7]:List aA))) 18 rfl rfl rfl rfl rfl rfl jN rfl rfl as9.h (by rw [aA.trs_len];exact z8) h5l (by rw [aA.trs_map,aA.trs_map,List.map_append];simp [aA.tr_cs])) ?_;exact gE 5
  exact gE 0
 rintro v3 H
 refine gQ 3 ?_;refine cC H fun z9 H=>?_;refine AL.weak (Wk.full (i:=25) rfl rfl (by rw [aA.trs_len];exact z9)) ?_;exact gE 2
mutual
def rE:Nat→(List aK)→aA→Option aA
 |0,_,_=>none
 |fu+1,p0,pt=>VE fu (rE fu) (mM fu) p0 pt
def mM:Nat→(List aK)→(List aA)→Option ((List aA))
 |0,_,_=>none
 |fu+1,p0,p3=>H4 fu (rE fu) (mM fu) p0 p3
end
theorem aiI(fu:Nat):H5 (rE fu)∧CK (mM fu):=by
 induction fu with
 |zero=>exact⟨(fun p0 pt r H=>by simp only [rE] at H;cases H),(fun p0 p3 r H=>by simp only [mM] at H;cases H)⟩
 |succ fu ih=>exact⟨(fun p0 pt r H=>by simp only [rE] at H;exact ae2 fu (rE fu) (mM fu) ih.1 ih.2 p0 pt r H),(fun p0 p3 r H=>by simp only [mM] at H;exact VD fu (rE fu) (mM fu) ih.1 ih.2 p0 p3 r H)⟩
theorem alY(fu:Nat):H5 (rE fu):=(aiI fu).1
abbrev EX:=(List aK)→aA→Option aA
abbrev uD:=(List aK)→(List aA)→Option ((List aA))
def IN(m:EX):Prop:= ∀(p0:List aK) (pt:aA) (r:aA),m p0 pt=some r→bR Tryz.prog 110 [fJ p0,(aA.pv pt)] ((aA.pv r):PV)
def CR(m:uD):Prop:= ∀(p0:List aK) (p3:List aA) (r:(List aA)),m p0 p3=some r→bR Tryz.prog 152 [fJ p0,aR p3] (aR r:PV)
def WC(fu:Nat)(p5:EX)(p2:uD)(p0:List aK)(pt:aA):Option aA:=sw (decide (pt.aB5=1)) (gd (qG p0) (sw (II p0 pt.aB3) (some (DL p0 pt.aB3)) (bd (p2 p0 pt.aB4) fun x5=>some (aA.mk pt.aB5 pt.aB3 x5)))) (bd (p2 p0 pt.aB4) fun x7=>some (aA.mk pt.aB5 pt.aB3 x7))
theorem afW(fu:Nat)(p5:EX)(p2:uD)(p9:IN p5)(p7:CR p2):IN (WC fu p5 p2):=by
 intro p0 pt r H
 refine qJ func110 H (fun C hC H=>?_)
 refine gQ 2 ?_;refine q1 (eX (bM pt)) ?_;refine gQ 9 ?_;refine bC H (fun h1 H=>?_) (fun h1 H=>?_)
 ·refine gQ 5 ?_;refine cC H fun z2 H=>(q1 (bE func151 (aoF p0 pt.aB3 z2)) ?_)
  refine gQ 11 ?_;refine bC H (fun h3 H=>?_) (fun h3 H=>?_)
  ·refine gQ 2 ?_;refine q1 (bW [pI ((DL p0 pt.aB3).aB5),pS ((DL p0 pt.aB3).aB3),aR ((DL p0 pt.aB3).aB4)]) ?_;exact gE 2
  refine gQ 2 ?_;refine bK H fun x5 z4 H=>(dW (dI [3] bZ (dD [19] eE (dI [3] bZ (dD [21] eE (dI [0] bF (dI [3] bZ (dD [24] eE (dI [23,25] (bE func152 (p7 p0 pt.aB4 _ z4)) (dI [20,22,26] rW (kU [4,27] jO (dN ?_))))))))))))
  exact gE 0
 refine gQ 2 ?_;refine bK H fun x7 z6 H=>(dW (dI [3] bZ (dD [19] eE (dI [3] bZ (dD [21] eE (dI [0] bF (dI [3] bZ (dD [24] eE (dI [23,25] (bE func152 (p7 p0 pt.aB4 _ z6)) (dI [20,22,26] rW (kU [4,27] jO (dN ?_))))))))))))
 exact gE 0
def OX(fu:Nat)(p5:EX)(p2:uD)(p0:List aK)(p3:List aA):Nat→((List aA))→Option (LR ((List aA)) ((List aA))):=fun i1 v3=>bd (p5 p0 (aT p3 i1)) fun x7=>gd ((v3).length+(([x7]:List aA)).length≤68719476736) (some (.next (v3++([x7]:List aA))))
def IM(fu:Nat)(p5:EX)(p2:uD)(p0:List aK)(p3:List aA):Option ((List aA)):=so (loopN (OX fu p5 p2 p0 p3) (p3.length-0) 0 ([])) fun v3=>some v3
theorem WB(fu:Nat)(p5:EX)(p2:uD)(p9:IN p5)(p7:CR p2):CR (IM fu p5 p2):=by
 intro p0 p3 r H
 refine qJ func152 H (fun C hC H=>?_)
 refine gQ 6 ?_;refine q1 (qE ([]:List aA)) ?_;refine gQ 7 ?_;refine gL 1 (aA.trs_len _) (fun hl4=>?_)
 refine bU (σ:=(List aA)) (fun i1 v3=>⟨[(0,fJ p0),(1,aR p3),(4,.nil),(5,gM v3 0),(6,pN i1)],⟨[],[⟨30,3,aA.trs (v3),false⟩]⟩⟩) (fun v3=>⟨[(4,.nil),(5,gM v3 0)],⟨[],[⟨30,3,aA.trs (v3),false⟩]⟩⟩) (eK H) ?_ ?_
 ·rintro i1 v3 H
  refine gQ 8 ?_;refine cS H (fun h5 h5l H=>?_) (fun h5 H=>?_)
  ·refine gQ 9 ?_;refine q1 (iI (aA.cs (aT p3 i1))) (bK H fun x7 z6 H=>(q1 (bE func110 (p9 p0 (aT p3 i1) _ z6)) (q1 (iF ([x7]:List aA)) (cC H fun z8 H=>(q1 (lG z8) ?_)))))
   exact gE 7
  exact gE 0
 rintro v3 H
 exact gE 5
mutual
def rN:Nat→(List aK)→aA→Option aA
 |0,_,_=>none
 |fu+1,p0,pt=>WC fu (rN fu) (mT fu) p0 pt
def mT:Nat→(List aK)→(List aA)→Option ((List aA))
 |0,_,_=>none
 |fu+1,p0,p3=>IM fu (rN fu) (mT fu) p0 p3
end
theorem aiY(fu:Nat):IN (rN fu)∧CR (mT fu):=by
 induction fu with
 |zero=>exact⟨(fun p0 pt r H=>by simp only [rN] at H;cases H),(fun p0 p3 r H=>by simp only [mT] at H;cases H)⟩
 |succ fu ih=>exact⟨(fun p0 pt r H=>by simp only [rN] at H;exact afW fu (rN fu) (mT fu) ih.1 ih.2 p0 pt r H),(fun p0 p3 r H=>by simp only [mT] at H;exact WB fu (rN fu) (mT fu) ih.1 ih.2 p0 p3 r H)⟩
theorem amJ(fu:Nat):IN (rN fu):=(aiY fu).1
end
end Go.Proofs.YtfcoaagbccmahaaGreat.W

namespace Go.Proofs.YtfcoaagbccmahaaGreat
open Go.RowKit Go.WalkArith Go.IntWalk Go.WideShapes
section
variable {P:Program} {C:oP} {n:Nat} {s:AS} {o:Oper} {x y:Operand} {T T':TypeId}
theorem bB.minI{a b:Int}(ho:o.op= .call { callee:= .builtin .min,args:= #[x,y],argTypes:= #[T,T'] })(hd:bI o.dst n=true)(hx:s.ev x=some (pI a))(hy:s.ev y=some (pI b)):bB P C n o s (s.putO o.dst (pI (min a b))):=
 bB.quiet (cT hd) fun m a' w h=>by
  obtain⟨h1,h3⟩:=cF.leaf_eq (h.eval hx)
  obtain⟨h2,h4⟩:=cF.leaf_eq (h.eval hy)
  have he:(if b<a then b else a)=min a b:=by rw [Int.min_def];split<;>split<;>omega
  refine⟨.int .i64 (min a b),?_,cF.leaf ?_⟩
  ·unfold execOp
   simp [ho,resolve,invoke,builtin,h1,h2,Builtin.min_,Builtin.min2,he]
  ·rw [← he]
   split
   ·exact h4
   ·exact h3
end
section
variable {P:Program} {C:oP} {n:Nat} {s:AS} {o:Oper} {x y:Operand} {T T':TypeId}
theorem rMn{a b:Nat}(ho:o.op= .call { callee:= .builtin .min,args:= #[x,y],argTypes:= #[T,T'] }:=by exact rfl)(hd:bI o.dst n=true:=by exact rfl)(hx:s.ev x=some (pN a):=by exact rfl)(hy:s.ev y=some (pN b):=by exact rfl):bB P C n o s (s.putO o.dst (pN (min a b))):=by
 have h:=bB.minI (P:=P) (C:=C) ho hd hx hy
 have e:(min (a:Int) (b:Int))=((min a b:Nat):Int):=by omega
 rw [e] at h
 exact h
end
section
variable {P:Program} {C:oP} {n:Nat} {s:AS} {o:Oper} {Q:Exit→AS→Prop}
theorem AL.nilQ{ops:Array Oper}{rest:List Oper}{T yT t:TypeId}{x:Operand}{sz:Nat}{es:List (List Tr)}(hT:P.underlying T=some (.slice t))(h: ∀b:Bool,(b=true→es= [])→AL P C n ops rest Q (s.putO o.dst (.t (.leaf (.bool b)))))
 (ho:o.op= .binOp .eql T x (.const (.slice none 0 0)) yT:=by exact rfl) (hd:bI o.dst n=true:=by exact rfl) (hx:s.ev x=some (.t (.row sz es)):=by exact rfl) (hg:o.guard=none:=by exact rfl):AL P C n ops (o::rest) Q s:=fun m a w hr=>by
 have hv:=hr.eval hx
 have hv':cF _ w (.row sz es) (a.eval x):=hv
 have key: ∃A cap,a.eval x= .slice A es.length cap∧(A.isNone=true→es= []):=by
  generalize a.eval x=v at hv'
  cases hv' with
  |row c h1 h2 h3 h4=>
   refine⟨_,_,rfl,fun hn=>?_⟩
   cases es with
   |nil=>rfl
   |cons e l=>
    obtain⟨b,off,ha,_⟩:=h3 (by simp)
    rw [ha] at hn
    cases hn
 obtain⟨A,cap,hA,hb⟩:=key
 refine wpList_plain hg fun K hK=>?_
 have hrun:(execOp a.eval o).run P w= .ok (.value (.bool A.isNone)) w:=by
  have h1:=Lib.run_eql_slice_nil (P:=P) w T t A es.length cap 0 0 hT
  unfold execOp
  simp only [ho,hA]
  have h2:a.eval (.const (.slice none 0 0))= .slice none 0 0:=rfl
  simp only [h2]
  rw [Sem.run_bind]
  simp [eqGuard,h1]
 unfold Oper.wp
 rw [hrun]
 exact hK _ w (h A.isNone hb m _ w (hr.put (cT hd) (cF.leaf (by trivial))))
end
section
variable {P:Program} {C:oP} {n:Nat} {s:AS}
theorem Wk.fullLit{i E sz N r:Nat}{es:List (List Tr)}{b:Bool}(hx:s.lk i=some (.full sz N r))(hrow:s.st.rows[r]?=some ⟨E,sz,es,b⟩)(hl:es.length=N):Wk C n s (s.put i (.lit sz es)):=fun m a w h=>by
 refine⟨m,h.dfr,h.tsz,h.sto,fun j q hq=>?_,h.ev⟩
 rw [AS.lk_put] at hq
 split at hq
 ·rename_i e
  subst e
  cases hq
  obtain⟨v,hv,row,g,q1,q2,q3,q4,q5⟩:=h.env j _ hx
  refine⟨v,hv,?_⟩
  rw [hrow] at q1
  cases q1
  obtain⟨-,-,hplace⟩:=h.sto.row r _ hrow
  rcases hplace with⟨z1,-⟩|⟨g',c',cur,z1,hob,hcs,hfit,hmax,hrep⟩
  ·rw [q4] at z1;cases z1
  rw [q4] at z1
  injection z1 with z1
  injection z1 with e1 e2
  subst e1 e2
  subst q5
  have:cF (kP C.av s.st m) w (.row sz es) (.slice (some ⟨g,0,none⟩) es.length N):=hrep
  rw [hl] at this
  exact⟨this,some ⟨g,0,none⟩,by rw [hl]⟩
 ·exact h.env j q hq
end
end Go.Proofs.YtfcoaagbccmahaaGreat

namespace Go.Proofs.YtfcoaagbccmahaaGreat
open Go.RowKit Go.WalkArith Go.IntWalk Go.WideShapes
section
variable {av:Nat→Nat→Prop} {s st':c5} {m m':jT} {w w':World} {ks:List Nat} {rs:List nR}
def TH(s:c5)(m m':jT)(ks:List Nat)(i:Nat):Option (Nat×Nat):=if i<s.rows.length then m.γ i else m'.γ (ks.getD (i-s.rows.length) 0)
theorem amH(h:eZ s ⟨[],[]⟩ [] [])(hs:fA av s m w)(hst:fA (C0 av s ⟨[],[]⟩ m [] [] w) st' m' w')(he:Ev ⟨[],[]⟩ (m.via [] []) w st' m' w')
 (hrow: ∀i row,rs[i]?=some row→st'.rows[ks.getD i 0]?=some row) (hks: ∀i j,i<rs.length→j<rs.length→ks.getD i 0=ks.getD j 0→i=j):
 Ev s m w ⟨s.boxes,s.rows++rs⟩ ⟨m.ρ,TH s m m' ks⟩ w'∧fA av ⟨s.boxes,s.rows++rs⟩ ⟨m.ρ,TH s m m' ks⟩ w'∧
 (∀b o,b<w'.heap.size→kP (C0 av s ⟨[],[]⟩ m [] [] w) st' m' b o→kP av ⟨s.boxes,s.rows++rs⟩ ⟨m.ρ,TH s m m' ks⟩ b o):=by
 have old: ∀i,i<s.rows.length→TH s m m' ks i=m.γ i:=fun i hi=>if_pos hi
 have new: ∀i,TH s m m' ks (s.rows.length+i)=m'.γ (ks.getD i 0):=fun i=>by
  unfold TH
  rw [if_neg (by omega),show s.rows.length+i-s.rows.length=i by omega]
 have hfresh: ∀i row g c,rs[i]?=some row→m'.γ (ks.getD i 0)=some (g,c)→w.heap.size≤g:=fun i row g c hi hg=>by
  rcases he.rfresh _ row g c (hrow i row hi) hg with⟨row0,c0,hr,-⟩|hf
  ·simp at hr
  ·exact hf
 have rk: ∀(i:Nat) (z:nR) (g c:Nat),(s.rows++rs)[i]?=some z→TH s m m' ks i=some (g,c)→(s.rows[i]?=some z∧m.γ i=some (g,c))∨ ∃j,i=s.rows.length+j∧rs[j]?=some z∧m'.γ (ks.getD j 0)=some (g,c):=fun i z g c hi hg=>by
  rcases Nat.lt_or_ge i s.rows.length with hl|hl
  ·rw [List.getElem?_append_left hl] at hi
   rw [old i hl] at hg
   exact .inl ⟨hi,hg⟩
  ·obtain⟨j,rfl⟩: ∃j,i=s.rows.length+j:=⟨i-s.rows.length,by omega⟩
   rw [List.getElem?_append_right hl,show s.rows.length+j-s.rows.length=j by omega] at hi
   rw [new] at hg
   exact .inr ⟨j,rfl,hi,hg⟩
 have okk: ∀b o,b<w.heap.size→s.ok m b o→c5.ok ⟨s.boxes,s.rows++rs⟩ ⟨m.ρ,TH s m m' ks⟩ b o:=fun b o hb hk=>by
  refine⟨fun i z hi=>hk.1 i z hi,fun i z g c hi hg e=>?_⟩
  rcases rk i z g c hi hg with⟨h1,h2⟩|⟨j,-,h2,h3⟩
  ·exact hk.2 i z g c h1 h2 e
  ·have:=hfresh j z g c h2 h3;omega
 have ev:Ev s m w ⟨s.boxes,s.rows++rs⟩ ⟨m.ρ,TH s m m' ks⟩ w':=by
  refine⟨he.os,he.tape,he.output,he.size,fun b hb h1 h2=>he.blk b hb (fun i x hi=>by simp at hi) (fun r row0 g c hr _=>by simp at hr),fun b o hb hk=>he.cell b o hb (h.ok (av:=fun _ _=>False) (w:=w) ⟨id,hk⟩).2,okk,fun i y hi=>⟨⟨y,hi⟩,rfl⟩,fun i z hi=> .inl ⟨z,hi⟩,fun i row0 hi=>⟨row0,?_,rfl,Nat.le_refl _,?_⟩,fun i z g c hi hg=>?_⟩
  ·show(s.rows++rs)[i]?=_
   rw [List.getElem?_append_left (cV hi)];exact hi
  ·exact⟨fun _=>old i (cV hi),fun hw=>⟨hw,old i (cV hi)⟩⟩
  ·rcases rk i z g c hi hg with⟨h1,h2⟩|⟨j,-,h2,h3⟩
   ·exact .inl ⟨z,c,h1,h2⟩
   ·exact .inr (hfresh j z g c h2 h3)
 have back: ∀b o,b<w'.heap.size→kP (C0 av s ⟨[],[]⟩ m [] [] w) st' m' b o→kP av ⟨s.boxes,s.rows++rs⟩ ⟨m.ρ,TH s m m' ks⟩ b o:=fun b o _ hk=>by
  rcases Nat.lt_or_ge b w.heap.size with hlt|hge
  ·by_cases hA:kP av s m b o
   ·exact⟨hA.1,okk b o hlt hA.2⟩
   ·exact absurd ⟨hlt,hA,fun i x h1 h2=>by simp at h1,fun r row0 g c h1 h2 h3=>by simp at h1⟩ hk.1
  ·refine⟨fun ho=>by have:=hs.avlt _ _ ho;omega,fun i z hi=>?_,fun i z g c hi hg e=>?_⟩
   ·have:=hs.box_lt hi
    show m.ρ i≠b
    omega
   ·rcases rk i z g c hi hg with⟨h1,h2⟩|⟨j,-,h2,h3⟩
    ·have:=hs.row_lt h1 h2
     omega
    ·exact hk.2.2 _ _ g c (hrow j z h2) h3 e
 refine⟨ev,⟨fun i z hi=>?_,fun i i' z z' hi hi' hne=>hs.binj i i' z z' hi hi' hne,fun i z hi=>?_,fun i i' z z' g c c' hi hi' hg hg'=>?_,fun i z r row0 g c hi hr hg=>?_,fun b o hb=>Nat.lt_of_lt_of_le (hs.avlt b o hb) he.size,fun i z g c hi hg o ho=>?_,fun i z hi=>hs.avb i z hi⟩,back⟩
 ·obtain⟨vs,k1,k2⟩:=hs.box i z hi
  exact⟨vs,k1.keep (he.blk _ k1.lt (fun j x hj=>by simp at hj) (fun r row0 g c hr _=>by simp at hr)),gI.mono ev _ _ k2⟩
 ·rcases Nat.lt_or_ge i s.rows.length with hl|hl
  ·have hi':s.rows[i]?=some z:=by
    have h0:(s.rows++rs)[i]?=some z:=hi
    rwa [List.getElem?_append_left hl] at h0
   obtain⟨k1,k2,k3⟩:=hs.row i z hi'
   refine⟨k1,k2,?_⟩
   simp only [old i hl]
   rcases k3 with k3|⟨g,c,cur,q1,q2,q3,q4,q5,q6⟩
   ·exact .inl k3
   ·exact .inr ⟨g,c,cur,q1,(he.blk g q2.lt (fun j x hj e=>by simp at hj) (fun r row0 g' c' hr _=>by simp at hr)).trans q2,q3,q4,q5,RV.mono ev (.t _) _ q6⟩
  ·obtain⟨j,rfl⟩: ∃j,i=s.rows.length+j:=⟨i-s.rows.length,by omega⟩
   have hj:rs[j]?=some z:=by
    have h0:(s.rows++rs)[s.rows.length+j]?=some z:=hi
    rwa [List.getElem?_append_right hl,show s.rows.length+j-s.rows.length=j by omega] at h0
   obtain⟨k1,k2,k3⟩:=hst.row _ _ (hrow j z hj)
   refine⟨k1,k2,?_⟩
   simp only [new]
   rcases k3 with k3|⟨g,c,cur,q1,q2,q3,q4,q5,q6⟩
   ·exact .inl k3
   ·exact .inr ⟨g,c,cur,q1,q2,q3,q4,q5,cF.mono q6 (Nat.le_refl _) back (fun _ _ _ _=>rfl)⟩
 ·rcases rk i z g c hi hg with⟨h1,h2⟩|⟨j,rfl,h2,h3⟩<;>rcases rk i' z' g c' hi' hg' with⟨h1',h2'⟩|⟨j',rfl,h2',h3'⟩
  ·exact hs.rinj i i' z z' g c c' h1 h1' h2 h2'
  ·have:=hs.row_lt h1 h2
   have:=hfresh j' z' g c' h2' h3'
   omega
  ·have:=hs.row_lt h1' h2'
   have:=hfresh j z g c h2 h3
   omega
  ·have h4:=hst.rinj _ _ z z' g c c' (hrow j z h2) (hrow j' z' h2') h3 h3'
   rw [hks j j' (cV h2) (cV h2') h4]
 ·rcases rk r row0 g c hr hg with⟨h1,h2⟩|⟨j,-,h2,h3⟩
  ·exact hs.br i z r row0 g c hi h1 h2
  ·have:=hs.box_lt hi
   have:=hfresh j row0 g c h2 h3
   show m.ρ i≠g
   omega
 ·rcases rk i z g c hi hg with⟨h1,h2⟩|⟨j,-,h2,h3⟩
  ·exact hs.avr i z g c h1 h2 o ho
  ·have:=hs.avlt _ _ ho
   have:=hfresh j z g c h2 h3
   omega
end
def ar9(P:Program)(f:FuncId)(args:List PV)(rs:List nR)(R:List Nat→PV):Prop:=
 b7 P f args ⟨[],[]⟩ (fun r t=> ∃ks:List Nat,r=R ks∧(∀i row,rs[i]?=some row→t.rows[ks.getD i 0]?=some row)∧(∀i j,i<rs.length→j<rs.length→ks.getD i 0=ks.getD j 0→i=j))
section
variable {P:Program} {C:oP} {n:Nat} {s:AS} {o:Oper}
theorem bB.callOwnG{f:FuncId}{fn:Func}{xs:List Operand}{ts:Array TypeId}{ps qs:List PV}{rs:List nR}{R:List Nat→PV}{q:PV}(ho:o.op= .call { callee:= .value (.func f),args:=⟨xs⟩,argTypes:=ts })(hd:bI o.dst n=true)(hf:P.funcs[f]?=some fn)(hnm:(fn.name== "runtime.NumGoroutine")=false)(hb:fn.body.isNone=false)
 (hx:xs.map s.ev=ps.map some) (hle:s3 ps (DN [] [] qs)) (hok:mA ⟨[],[]⟩ qs=true) (hc:ar9 P f qs rs R)
 (hmv: ∀(ok ok':Nat→Nat→Prop) (st st':c5) (m m':jT) (w:World) (v:Value) (ks:List Nat),(∀i row,rs[i]?=some row→st.rows[ks.getD i 0]?=some row∧st'.rows[s.st.rows.length+i]?=some row∧m'.γ (s.st.rows.length+i)=m.γ (ks.getD i 0))→(∀b o,b<w.heap.size→ok b o→ok' b o)→RV ok st m w (R ks) v→RV ok' st' m' w q v):
 bB P C n o s ((⟨s.env,⟨s.st.boxes,s.st.rows++rs⟩⟩:AS).putO o.dst q):=fun m a w h K Q hK=>by
 have hp:eZ s.st ⟨[],[]⟩ [] []:=eZ.of trivial trivial (by decide) (by decide)
 have h2:=evL h hx
 have h1:(execOp a.eval o).run P w= .ok (.enter f ⟨xs.map a.eval⟩) w:=by
  have hcf:=iA (P:=P) hf hnm hb
  unfold execOp
  simp only [ho]
  simp [resolve,invoke,Deferred.ofValue,Act.eval,hcf]
 unfold Oper.wp
 rw [h1]
 have h3:=hc (C0 C.av s.st ⟨[],[]⟩ m [] [] w) (m.via [] []) w _ (hp.sto h.sto) (gI.unren hp (fun b o _ k=>hp.ok k) _ _ hok (s3.rv hle h2))
 refine Calls.mono h3 fun e w'=>?_;rintro⟨r,st',m',v,rfl,⟨ks,rfl,hrow,hks⟩,h4,h5,h6⟩
 obtain⟨q1,q2,q3⟩:=amH hp h.sto h4 h5 hrow hks
 refine hK _ _ w' ((h.step q1 q2).put (cT hd) (hmv _ _ _ _ _ _ _ _ ks (fun i row hi=>⟨hrow i row hi,?_,?_⟩) q3 h6))
 ·show(s.st.rows++rs)[s.st.rows.length+i]?=_
  rw [List.getElem?_append_right (by omega),show s.st.rows.length+i-s.st.rows.length=i by omega]
  exact hi
 ·show TH s.st m m' ks (s.st.rows.length+i)=_
  unfold TH
  rw [if_neg (by omega),show s.st.rows.length+i-s.st.rows.length=i by omega]
section
variable {f:FuncId} {fn:Func} {xs:List Operand} {ts:Array TypeId} {ps qs:List PV} {r0 r1 r2:nR}
end
end
section
variable {P:Program} {C:oP} {n:Nat} {s:AS} {o:Oper}
theorem rCl{f:FuncId}{fn:Func}{xs:List Operand}{ts:Array TypeId}{ps qs:List PV}{sz:Nat}{es:List (List Tr)}(hf:P.funcs[f]?=some fn)(hc:bR P f qs (.lit sz es))(ho:o.op= .call { callee:= .value (.func f),args:=⟨xs⟩,argTypes:=ts }:=by exact rfl)(hd:bI o.dst n=true:=by exact rfl)(hnm:(fn.name== "runtime.NumGoroutine")=false:=by kernel_rfl)(hb:fn.body.isNone=false:=by exact rfl)
 (hx:evA s xs=some ps:=by exact rfl) (hle:s3 ps (DN [] [] qs):=by exact jN) (h1:mA ⟨[],[]⟩ qs=true:=by exact rfl):bB P C n o s (s.putO o.dst (.lit sz es)):=
 bB.congr (bB.callOwnG (rs:= []) (R:=fun _=> .lit sz es) (q:= .lit sz es) ho hd hf hnm hb (JE hx) hle h1 (b7.mono hc fun r t ⟨h,_⟩=>⟨[],h,fun i row hi=>by simp at hi,fun i j hi=>by simp at hi⟩) fun ok ok' st st' m m' w v ks _ hk h=>⟨cF.mono h.1 (Nat.le_refl _) hk (fun _ _ _ _=>rfl),h.2⟩) (by simp)
end
section
variable {P:Program} {C:oP} {n:Nat} {s:AS} {o:Oper}
end
end Go.Proofs.YtfcoaagbccmahaaGreat

namespace Go.Proofs.YtfcoaagbccmahaaGreat.W
set_option maxRecDepth 100000
set_option maxHeartbeats 40000000
noncomputable section
open Tryz Go.RowKit Go.Proofs
attribute [local irreducible] lt
abbrev wU:=aH→Option aH
abbrev oF:=(List aH)→Option ((List aH))
def B4(m:wU):Prop:= ∀(pe:aH) (r:aH),m pe=some r→bR Tryz.prog 129 [(aH.pv pe)] ((aH.pv r):PV)
def vF(m:oF):Prop:= ∀(p5:List aH) (r:(List aH)),m p5=some r→AY Tryz.prog 168 [fM p5] ⟨[],[]⟩ [] 55 5 (aH.trs (r)) (fun k=>rY r k)
theorem ZL{m:oF}(h:vF m)(p5:List aH)(r:(List aH))(H:m p5=some r):bR Tryz.prog 168 [fM p5] (fM r:PV):=(h p5 r H).plain (fun _=>jN) (hp:=VX)
def M4(fu:Nat)(p3:wU)(p2:oF)(pe:aH):Option aH:=bd (p2 pe.aB4) fun x2=>some (aH.mk pe.aB5 pe.aCL pe.aCt x2)
theorem ZM(fu:Nat)(p3:wU)(p2:oF)(p9:B4 p3)(p8:vF p2):B4 (M4 fu p3 p2):=by
 intro pe r H
 refine qJ func129 H (fun C hC H=>?_)
 refine gQ 2 ?_;refine q1 (eX (t5 pe)) ?_;refine gQ 6 ?_;refine bK H fun x2 z1 H=>(q1 (bE func168 (ZL (p8) pe.aB4 _ z1)) ?_)
 refine gQ 5 ?_;refine q1 (bW [pI pe.aB5,pI pe.aCL,pI pe.aCt.aCf,pI pe.aCt.aCt,fM x2]) ?_;exact gE 2
def LC(fu:Nat)(p3:wU)(p2:oF)(p5:List aH):Nat→((List aH))→Option (LR ((List aH)) ((List aH))):=fun i1 v3=>bd (p3 (aT p5 i1)) fun x7=>gd ((v3).length+(([x7]:List aH)).length≤68719476736) (some (.next (v3++([x7]:List aH))))
def GK(fu:Nat)(p3:wU)(p2:oF)(p5:List aH):Option ((List aH)):=so (loopN (LC fu p3 p2 p5) (p5.length-0) 0 ([])) fun v3=>some v3
theorem T6(fu:Nat)(p3:wU)(p2:oF)(p9:B4 p3)(p8:vF p2):vF (GK fu p3 p2):=by
 intro p5 r H
 unfold AY
 refine qJ func168 H (fun C hC H=>?_)
 refine gQ 6 ?_;refine q1 (qE ([]:List aH)) ?_;refine gQ 7 ?_;refine gL 0 (aH.trs_len _) (fun hl4=>?_)
 try dsimp only at hl4
 refine bU (σ:=(List aH)) (fun i1 v3=>⟨[(0,fM p5),(2,.nil),(3,rY v3 0),(4,pN i1)],⟨[],[⟨55,5,aH.trs (v3),false⟩]⟩⟩) (fun v3=>⟨[(2,.nil),(3,rY v3 0)],⟨[],[⟨55,5,aH.trs (v3),false⟩]⟩⟩) (eK H) ?_ ?_
 ·rintro i1 v3 H
  refine gQ 8 ?_;refine cS H (fun h5 h5l H=>?_) (fun h5 H=>?_)
  ·refine gQ 8 ?_;refine q1 (iI (aH.cs (aT p5 i1))) (bK H fun x7 z6 H=>(q1 (bE func129 (p9 (aT p5 i1) _ z6)) (q1 (qE ([x7]:List aH)) (cC H fun z8 H=>(q1 (lG z8) ?_)))))
   exact gE 7
  exact gE 0
 rintro v3 H
 refine gQ 5 ?_;refine cQ.ret ?_
 obtain rfl:_=r:=(vI H:)
 exact V6 (st':=⟨[],[⟨55,5,aH.trs (v3),false⟩]⟩) ⟨0,rfl,rfl,rfl⟩
mutual
def kB:Nat→aH→Option aH
 |0,_=>none
 |fu+1,pe=>M4 fu (kB fu) (lF fu) pe
def lF:Nat→(List aH)→Option ((List aH))
 |0,_=>none
 |fu+1,p5=>GK fu (kB fu) (lF fu) p5
end
theorem adI(fu:Nat):B4 (kB fu)∧vF (lF fu):=by
 induction fu with
 |zero=>exact⟨(fun pe r H=>by simp only [kB] at H;cases H),(fun p5 r H=>by simp only [lF] at H;cases H)⟩
 |succ fu ih=>exact⟨(fun pe r H=>by simp only [kB] at H;exact ZM fu (kB fu) (lF fu) ih.1 ih.2 pe r H),(fun p5 r H=>by simp only [lF] at H;exact T6 fu (kB fu) (lF fu) ih.1 ih.2 p5 r H)⟩
theorem ag1(fu:Nat):B4 (kB fu):=(adI fu).1
def xV(fu:Nat)(pe:aH)(p4:List Int)(x2:aH):Nat→(Int×Int×Int×Int×(List aH))→Option (LR (Int×Int×Int×Int×(List aH)) aH):=fun i3 (v4,v5,v6,v7,v8)=>some (.next (3,(aT p4 i3),0,0,([(aH.mk v4 v5 (aC.mk v6 v7) v8)]:List aH)))
def jG(fu:Nat)(pe:aH)(p4:List Int):Option aH:=bd (kB fu pe) fun x2=>so (loopN (xV fu pe p4 x2) (p4.length-0) 0 (x2.aB5,x2.aCL,x2.aCt.aCf,x2.aCt.aCt,x2.aB4)) fun(v4,v5,v6,v7,v8)=>some (aH.mk v4 v5 (aC.mk v6 v7) v8)
theorem xW(fu:Nat)(pe:aH)(p4:List Int)(r:aH)(H:jG fu pe p4=some r):bR Tryz.prog 120 [(aH.pv pe),rI p4] ((aH.pv r)):=by
 refine qJ func120 H (fun C hC H=>?_)
 refine gQ 2 ?_;refine q1 (eX (t5 pe)) ?_;refine gQ 4 ?_;refine q1 (bW [pI pe.aB5,pI pe.aCL,pI pe.aCt.aCf,pI pe.aCt.aCt,fM pe.aB4]) (bK H fun x2 z1 H=>(q1 (bE func129 (ag1 fu pe _ z1)) ?_))
 refine gQ 8 ?_;refine gL 1 (fS _) (fun hl9=>?_)
 try dsimp only at hl9
 refine bU (σ:=Int×Int×Int×Int×(List aH)) (fun i3 (v4,v5,v6,v7,v8)=>⟨[(1,rI p4),(4,.ptr 1 0),(5,.ptr 2 0),(6,pN i3)],⟨[some ⟨55,t5 pe⟩,some ⟨55,[pI 0,pI 0,pI 0,pI 0,.nil]⟩,some ⟨55,[pI v4,pI v5,pI v6,pI v7,fM v8]⟩],[]⟩⟩) (fun(v4,v5,v6,v7,v8)=>⟨[(4,.ptr 1 0),(5,.ptr 2 0)],⟨[some ⟨55,t5 pe⟩,some ⟨55,[pI 0,pI 0,pI 0,pI 0,.nil]⟩,some ⟨55,[pI v4,pI v5,pI v6,pI v7,fM v8]⟩],[]⟩⟩) (eK H) ?_ ?_
 ·rintro i3 ⟨v4,v5,v6,v7,v8⟩ H
  refine gQ 8 ?_;refine cS H (fun h10 h10l H=>?_) (fun h10 H=>?_)
  ·refine gQ 3 ?_;refine dW (dI [1] bF (dI [6] bF (dI [15,16] qF (dI [17] vM (dD [5] (bW [pI v4,pI v5,pI v6,pI v7,fM v8]) (dI [19] (iF ([(aH.mk v4 v5 (aC.mk v6 v7) v8)]:List aH)) (dI [18,20] rW (kU [5,21] jO (dN ?_)))))))))
   exact gE 5
  exact gE 0
 rintro⟨v4,v5,v6,v7,v8⟩ H
 refine gQ 2 ?_;refine q1 (bW [pI v4,pI v5,pI v6,pI v7,fM v8]) ?_;exact gE 2
abbrev mC:=aH→Option aH
abbrev lK:=(List aH)→Option ((List aH))
def oZ(m:mC):Prop:= ∀(pe:aH) (r:aH),m pe=some r→bR Tryz.prog 80 [(aH.pv pe)] ((aH.pv r):PV)
def r8(m:lK):Prop:= ∀(pl:List aH) (r:(List aH)),m pl=some r→bR Tryz.prog 77 [fM pl] (.lit 5 (aH.trs (r)):PV)
def yN(fu:Nat)(p1:mC)(p0:lK)(pe:aH):Option aH:=bd (p0 pe.aB4) fun x2=>some (aH.mk pe.aB5 pe.aCL pe.aCt x2)
theorem L5(fu:Nat)(p1:mC)(p0:lK)(p7:oZ p1)(p6:r8 p0):oZ (yN fu p1 p0):=by
 intro pe r H
 refine qJ func80 H (fun C hC H=>?_)
 refine gQ 2 ?_;refine q1 (eX (t5 pe)) ?_;refine gQ 6 ?_;refine bK H fun x2 z1 H=>(q1 (rCl func77 (p6 pe.aB4 _ z1)) ?_)
 refine gQ 5 ?_;refine q1 (bW [pI pe.aB5,pI pe.aCL,pI pe.aCt.aCf,pI pe.aCt.aCt,.lit 5 (aH.trs (x2))]) ?_;exact gE 2
def CN(fu:Nat)(p1:mC)(p0:lK)(pl:List aH):Nat→((List aH))→Option (LR ((List aH)) ((List aH))):=fun i2 v3=>bd (p1 (aT pl i2)) fun x7=>gd (i2=(v3).length) (some (.next (v3++([x7]:List aH))))
def vW(fu:Nat)(p1:mC)(p0:lK)(pl:List aH):Option ((List aH)):=gd (pl.length≤68719476736) (so (loopN (CN fu p1 p0 pl) (pl.length-0) 0 ([])) fun v3=>gd ((v3).length=pl.length) (some v3))
theorem KJ(fu:Nat)(p1:mC)(p0:lK)(p7:oZ p1)(p6:r8 p0):r8 (vW fu p1 p0):=by
 intro pl r H
 refine qJ func77 H (fun C hC H=>?_)
 refine gQ 8 ?_;refine cC H fun z1 H=>(q1 (bB.makeSlice (N:=pl.length) rfl rfl rfl rfl asM.h awD.h (by decide) (Nat.le_trans (Nat.mul_le_mul_left _ z1) (by decide)) (Nat.le_trans z1 (by decide))) ?_)
 refine gQ 9 ?_;refine gL 0 (aH.trs_len _) (fun hl4=>?_)
 try dsimp only at hl4
 refine bU (σ:=(List aH)) (fun i2 v3=>⟨[(2,.nil),(3,.full 5 (pl.length) 0),(9,fM pl),(10,pN pl.length),(11,pN i2)],⟨[],[⟨55,5,aH.trs (v3),true⟩]⟩⟩) (fun v3=>⟨[(2,.nil),(3,.full 5 (pl.length) 0)],⟨[],[⟨55,5,aH.trs (v3),true⟩]⟩⟩) (eK H) ?_ ?_
 ·rintro i2 v3 H
  refine gQ 5 ?_;refine cS H (fun h5 h5l H=>?_) (fun h5 H=>?_)
  ·refine gQ 7 ?_;refine q1 (iI (aH.cs (aT pl i2))) ?_;refine gQ 7 ?_;refine q1 (bW [pI ((aT pl i2).aB5),pI ((aT pl i2).aCL),pI ((aT pl i2).aCt.aCf),pI ((aT pl i2).aCt.aCt),fM ((aT pl i2).aB4)]) (bK H fun x7 z6 H=>(q1 (bE func80 (p7 (aT pl i2) _ z6)) (q1 (bB.indexFull (k:=i2) rfl rfl rfl rfl h5l asM.h) (cC H fun z8 H=>?_))))
   refine q1 (bB.storeRptr (e:=aH.cs x7) (es2:=aH.trs (v3++([x7]:List aH))) 16 rfl rfl rfl rfl rfl rfl jN rfl rfl awB.h (by rw [aH.trs_len];exact z8) h5l (by rw [aH.trs_map,aH.trs_map,List.map_append];simp [aH.tr_cs])) ?_;exact gE 5
  exact gE 0
 rintro v3 H
 refine gQ 3 ?_;refine cC H fun z9 H=>?_;refine AL.weak (Wk.fullLit (i:=22) rfl rfl (by rw [aH.trs_len];exact z9)) ?_;exact gE 2
mutual
def eH:Nat→aH→Option aH
 |0,_=>none
 |fu+1,pe=>yN fu (eH fu) (gS fu) pe
def gS:Nat→(List aH)→Option ((List aH))
 |0,_=>none
 |fu+1,pl=>vW fu (eH fu) (gS fu) pl
end
theorem OJ(fu:Nat):oZ (eH fu)∧r8 (gS fu):=by
 induction fu with
 |zero=>exact⟨(fun pe r H=>by simp only [eH] at H;cases H),(fun pl r H=>by simp only [gS] at H;cases H)⟩
 |succ fu ih=>exact⟨(fun pe r H=>by simp only [eH] at H;exact L5 fu (eH fu) (gS fu) ih.1 ih.2 pe r H),(fun pl r H=>by simp only [gS] at H;exact KJ fu (eH fu) (gS fu) ih.1 ih.2 pl r H)⟩
theorem QI(fu:Nat):oZ (eH fu):=(OJ fu).1
def xK(fu:Nat)(pe:aH)(p4:List Int)(x2:aH):Nat→(Int×Int×Int×Int×(List aH))→Option (LR (Int×Int×Int×Int×(List aH)) aH):=fun i3 (v4,v5,v6,v7,v8)=>some (.next (3,(aT p4 i3),0,0,([(aH.mk v4 v5 (aC.mk v6 v7) v8)]:List aH)))
def gY(fu:Nat)(pe:aH)(p4:List Int):Option aH:=bd (eH fu pe) fun x2=>so (loopN (xK fu pe p4 x2) (p4.length-0) 0 (x2.aB5,x2.aCL,x2.aCt.aCf,x2.aCt.aCt,x2.aB4)) fun(v4,v5,v6,v7,v8)=>some (aH.mk v4 v5 (aC.mk v6 v7) v8)
theorem xL(fu:Nat)(pe:aH)(p4:List Int)(r:aH)(H:gY fu pe p4=some r):bR Tryz.prog 114 [(aH.pv pe),rI p4] ((aH.pv r)):=by
 refine qJ func114 H (fun C hC H=>?_)
 refine gQ 2 ?_;refine q1 (eX (t5 pe)) ?_;refine gQ 4 ?_;refine q1 (bW [pI pe.aB5,pI pe.aCL,pI pe.aCt.aCf,pI pe.aCt.aCt,fM pe.aB4]) (bK H fun x2 z1 H=>(q1 (bE func80 (QI fu pe _ z1)) ?_))
 refine gQ 10 ?_;refine gL 1 (fS _) (fun hl9=>?_)
 try dsimp only at hl9
 refine bU (σ:=Int×Int×Int×Int×(List aH)) (fun i3 (v4,v5,v6,v7,v8)=>⟨[(4,.ptr 1 0),(5,.ptr 2 0),(10,rI p4),(11,pN p4.length),(12,pN i3)],⟨[some ⟨55,t5 pe⟩,some ⟨55,[pI 0,pI 0,pI 0,pI 0,.nil]⟩,some ⟨55,[pI v4,pI v5,pI v6,pI v7,fM v8]⟩],[]⟩⟩) (fun(v4,v5,v6,v7,v8)=>⟨[(4,.ptr 1 0),(5,.ptr 2 0)],⟨[some ⟨55,t5 pe⟩,some ⟨55,[pI 0,pI 0,pI 0,pI 0,.nil]⟩,some ⟨55,[pI v4,pI v5,pI v6,pI v7,fM v8]⟩],[]⟩⟩) (eK H) ?_ ?_
 ·rintro i3 ⟨v4,v5,v6,v7,v8⟩ H
  refine gQ 5 ?_;refine cS H (fun h10 h10l H=>?_) (fun h10 H=>?_)
  ·refine gQ 11 ?_;refine q1 (bW [pI v4,pI v5,pI v6,pI v7,fM v8]) (q1 (iF ([(aH.mk v4 v5 (aC.mk v6 v7) v8)]:List aH)) ?_)
   exact gE 7
  exact gE 0
 rintro⟨v4,v5,v6,v7,v8⟩ H
 refine gQ 2 ?_;refine q1 (bW [pI v4,pI v5,pI v6,pI v7,fM v8]) ?_;exact gE 2
end
end Go.Proofs.YtfcoaagbccmahaaGreat.W

namespace Go.Proofs.YtfcoaagbccmahaaGreat
open Go.RowKit Go.WalkArith Go.IntWalk Go.WideShapes
theorem ae0(l:List aA)(hl:l.length≤68719476735):AY Tryz.prog 107 [aR l] ⟨[],[]⟩ [] 30 3 (aA.trs l) (fun k=> .acc 3 (aA.trs l) k):=by
 unfold AY
 refine qI Tryz.func107 (fun C hC=>?_)
 refine gQ 8 ?_;refine AL.nilQ Tryz.underlying28 (fun b hb=>?_)
 refine gQ 1 ?_;refine cQ.cond (b:=b) rfl (fun hb'=>?_) (fun hb'=>?_)
 ·obtain rfl:l= []:=by
   have:=hb hb'
   cases l with
   |nil=>rfl
   |cons a l=>simp [aA.trs] at this
  refine gQ 4 ?_;refine cQ.wk (Wk.reg (i:=2) 30 3 (by decide) rfl) (cQ.ret ?_)
  exact V6 (st':=⟨[],[⟨30,3,aA.trs [],false⟩]⟩) ⟨0,rfl,rfl,rfl⟩
 refine gQ 3 ?_;refine q1 (qE ([]:List aA)) (q1 bF (q1 (lG (a:= []) (b:=l) (by simpa using Nat.le_succ_of_le hl)) ?_))
 refine gQ 2 ?_;refine cQ.ret ?_;exact V6 (st':=⟨[],[⟨30,3,aA.trs l,false⟩]⟩) ⟨0,rfl,rfl,rfl⟩
end Go.Proofs.YtfcoaagbccmahaaGreat

namespace Go.Proofs.YtfcoaagbccmahaaGreat.W
open Go.RowKit Go.Proofs
mutual
def jU(l:List aK):aA→aA
 | .mk k n xs=>if k=1 then(if II l n=true then DL l n else .mk k n (HW l xs)) else .mk k n (HW l xs)
def HW(l:List aK):List aA→List aA
 | []=> []
 |x::r=>jU l x::HW l r
end
theorem FK(l:List aK): ∀xs,HW l xs=xs.map (jU l)
 | []=>rfl
 |x::r=>by rw [HW,FK l r,List.map_cons]
theorem acG{l:List aK}{xs:List aA}(hb:xs.length≤68719476735)(h: ∀x∈xs,bQ fun fu=>rN fu l x=some (jU l x)):bQ fun fu=>mT fu l xs=some (HW l xs):=by
 refine bQ.succ ((bQ.list h).imp fun fu hf=>?_)
 simp only [mT,IM]
 rw [ML (g:=jU l) fun i s hi hp=>?_,FK]
 ·rfl
 ·rw [OX,fY (hf _ (cD hi)) rfl,gO (by simp;omega) rfl]
theorem amI{l:List aK}(hl:qG l): ∀t:aA,iC t→bQ fun fu=>rN fu l t=some (jU l t):=by
 refine aA.ind fun k n xs ih hb=>?_
 have h1:=hb.len
 refine bQ.succ ((acG (l:=l) (xs:=xs) h1 fun x hx=>ih x hx (A3 (t:= .mk k n xs) hx hb)).imp fun fu hf=>?_)
 simp only [rN,WC,aA.aB5.eq_1,aA.aB3.eq_1,aA.aB4.eq_1,hf,jU]
 by_cases hk:k=1
 ·rw [if_pos hk]
  refine jI (decide_eq_true hk) (gO hl ?_)
  cases II l n<;>rfl
 ·rw [if_neg hk]
  exact gW (decide_eq_false hk) rfl
theorem RC(l:List aK)(t:aA)(hl:qG l)(hb:iC t):bR Tryz.prog 110 [.t (.row 4 (aK.trs l)),(aA.pv t)] (aA.pv (jU l t)):=by
 obtain⟨fu,h⟩:=(amI hl t hb).get
 exact amJ fu l t _ h
theorem abY{l:List aK}{xs:List aA}(hb:xs.length≤68719476735)(h: ∀x∈xs,bQ fun fu=>rE fu l x=some (jU l x)):bQ fun fu=>mM fu l xs=some (HW l xs):=by
 refine bQ.succ ((bQ.list h).imp fun fu hf=>?_)
 simp only [mM,H4]
 refine gO (by omega) ?_
 rw [ML (g:=jU l) fun i s hi hp=>?_,FK]
 ·exact gO (by simp) rfl
 ·rw [N8,fY (hf _ (cD hi)) rfl,gO hp.symm rfl]
theorem alW{l:List aK}(hl:qG l): ∀t:aA,iC t→bQ fun fu=>rE fu l t=some (jU l t):=by
 refine aA.ind fun k n xs ih hb=>?_
 have h1:=hb.len
 refine bQ.succ ((abY (l:=l) (xs:=xs) h1 fun x hx=>ih x hx (A3 (t:= .mk k n xs) hx hb)).imp fun fu hf=>?_)
 simp only [rE,VE,aA.aB5.eq_1,aA.aB3.eq_1,aA.aB4.eq_1,hf,jU]
 by_cases hk:k=1
 ·rw [if_pos hk,VI fu l n hl]
  refine jI (decide_eq_true hk) ?_
  unfold II DL
  cases D3 l n<;>rfl
 ·rw [if_neg hk]
  exact gW (decide_eq_false hk) rfl
theorem QE(l:List aK)(t:aA)(hl:qG l)(hb:iC t):bR Tryz.prog 16 [.t (.row 4 (aK.trs l)),(aA.pv t)] (aA.pv (jU l t)):=by
 obtain⟨fu,h⟩:=(alW hl t hb).get
 exact alY fu l t _ h
theorem aaI{σ β:Type}{F:Nat→σ→Option (LR σ β)}{x:β}: ∀k i v,loopN F k i v=some (.inl x)→ ∃j u,F j u=some (.ret x)
 |0,i,v,h=>by rw [loopN] at h;cases h
 |k+1,i,v,h=>by
  rw [loopN] at h
  cases hf:F i v with
  |none=>rw [hf] at h;cases h
  |some y=>
   rw [hf] at h
   cases y with
   |next s=>exact aaI k (i+1) s h
   |brk s=>cases h
   |ret z=>cases h;exact⟨i,v,hf⟩
theorem afI{fu:Nat}{s a b:List aK}{ps ts:List aA}(h:fB fu s ps ts=some (a,false,b)):a= []:=by
 cases fu with
 |zero=>rw [fB] at h;cases h
 |succ fu=>
  rw [fB] at h
  unfold xO at h
  cases hd:(!decide ((((ps.length:Nat):Int):Int)=((ts.length:Nat):Int))) with
  |true=>rw [hd] at h;cases h;rfl
  |false=>
   rw [hd] at h
   obtain⟨y,hy,H⟩:=eK (hd0 (show so _ _=some (a,false,b) from h))
   cases y with
   |inr v=>
    have H2:Hd (some (v,true,v)) (fun r=>r=(a,false,b)):=H
    have e:(v,true,v)=(a,false,b):=vI (K:=fun r=>r=(a,false,b)) H2
    cases e
   |inl r=>
    obtain⟨j,u,hf⟩:=aaI _ _ _ hy
    have hr:r=(a,false,b):=H
    subst hr
    unfold zS at hf
    obtain⟨z,hz,H⟩:=bdI (gdI (hd0 hf)).2
    obtain⟨z1,z2,z3⟩:=z
    cases z2 with
    |true=>exact absurd (vI (gdI H).2) (by simp)
    |false=>
     have e:=vI H
     cases e
     rfl
theorem Z8(p t:aA)(hp:Tr.bulkL p.tr≤68719476735)(ht:iC t):bR Tryz.prog 119 [(aA.pv p),(aA.pv t)] (.tup [.t (.row 4 (aK.trs (eR p t))),.t (.leaf (.bool (iY p t)))]):=by
 obtain⟨fu,hf⟩:=(Z7 p).get
 refine Z9 (fu+1) p t (eR p t,iY p t) ?_
 have h1:=abX (fu:=fu) (ps:= [p]) (by simpa using hf) (ts:= [t]) (s:= []) rfl (by simpa using ht) qG.nil (by rw [UP];simp only [List.length_nil];omega)
 rw [F1] at h1
 unfold OC iY eR
 cases hq:j0 p t [] with
 |none=>
  rw [hq] at h1
  obtain⟨a,b,h1⟩:=h1
  obtain rfl:=afI h1
  exact fY h1 (gW rfl rfl)
 |some s=>
  rw [hq] at h1
  exact fY h1 (jI rfl (gO rfl rfl))
end Go.Proofs.YtfcoaagbccmahaaGreat.W

namespace Go.Proofs.YtfcoaagbccmahaaGreat.W
open Go.RowKit Go.Proofs
attribute [local irreducible] lt
theorem N6{l:LB}{s:ByteArray}:uR l s=true↔s∈l:=by
 unfold uR
 rw [List.any_eq_true]
 constructor
 ·rintro⟨x,hx,h⟩
  rw [decide_eq_true_eq] at h
  exact h ▸ hx
 ·exact fun h=>⟨s,h,decide_eq_true rfl⟩
def CI(w:aE):LB:=w.aB2.flatMap fun p=>p.aCi.flatMap fun t=>t.aCc
theorem abW{α β:Type}[Wt α](f:α→List β)(h: ∀x,(f x).length≤wt x): ∀l:List α,(l.flatMap f).length≤wl l
 | []=>Nat.zero_le _
 |x::l=>by
  rw [List.flatMap_cons,List.length_append,ad4]
  have:=h x
  have:=abW f h l
  omega
theorem aeR{w:aE}(hw:wt w≤13000000):(CI w).length≤13000000:=by
 have h:=abW (fun p:aM=>p.aCi.flatMap fun t=>t.aCc) (fun p=>by
  have h1:=abW (fun t:aU=>t.aCc) (fun t=>by
   have:=aU.wt_eq t
   have:=aZ t.aCc
   omega) p.aCi
  have:=aM.wt_eq p
  omega) w.aB2
 have:=aE.wt_eq w
 unfold CI
 omega
theorem PK{w:aE}{n s:ByteArray}(h:s∈(tM w n).1.aCc):s∈CI w:=by
 unfold tM at h
 cases hq:(List.range' 0 w.aB2.length).findSome? (tQ w n) with
 |none=>rw [hq] at h;cases h
 |some r=>
  rw [hq] at h
  obtain⟨i,hi,hq⟩:=List.exists_of_findSome?_eq_some hq
  unfold tQ at hq
  obtain⟨k,hk,hq⟩:=List.exists_of_findSome?_eq_some hq
  rw [List.mem_range'_1] at hi hk
  split at hq
  ·cases hq
   exact List.mem_flatMap.2 ⟨_,cD (by omega:i<w.aB2.length),List.mem_flatMap.2 ⟨_,cD (by omega:k<(aT w.aB2 i).aCi.length),h⟩⟩
  ·cases hq
def FZ(U:LB)(v:LB):Nat:=U.countP fun s=> !uR v s
theorem afG{U v v':LB}(h: ∀x∈v,x∈v'):FZ U v'≤FZ U v:=by
 refine List.countP_mono_left fun x _ hx=>?_
 rw [Bool.not_eq_true',Bool.eq_false_iff,ne_eq,N6] at hx ⊢
 exact fun k=>hx (h x k)
theorem aaG{v:LB}{s:ByteArray}(hn:uR v s=false): ∀ {U:LB},s∈U→FZ U (v++ [s])<FZ U v
 |x::U,h=>by
  have hm:=afG (U:=U) (v:=v) (v':=v++ [s]) fun x hx=>List.mem_append_left _ hx
  unfold FZ at hm ⊢
  rw [List.countP_cons,List.countP_cons]
  by_cases hx:x=s
  ·subst hx
   have h1:uR (v++ [x]) x=true:=N6.2 (by simp)
   rw [h1,hn]
   simp only [Bool.not_true,Bool.not_false,if_true]
   simp
   omega
  ·have ih:=aaG hn (U:=U) (by
    rcases List.mem_cons.1 h with h|h
    ·exact absurd h.symm hx
    ·exact h)
   unfold FZ at ih
   have h1:(if(!uR (v++ [s]) x)=true then 1 else 0)≤(if(!uR v x)=true then 1 else 0:Nat):=by
    cases hq:uR v x with
    |true=>
     have:uR (v++ [s]) x=true:=N6.2 (List.mem_append_left _ (N6.1 hq))
     rw [this]
     exact Nat.le_refl _
    |false=>cases uR (v++ [s]) x<;>simp
   omega
def PI(w:aE):Nat→LB→ByteArray→LB
 |0,out,_=>out
 |n+1,out,name=>(tM w name).1.aCc.foldl (fun v s=>if uR v s=true then v else PI w n (v++ [s]) s) out
def SOk(w:aE)(m:Nat)(v:LB):Prop:=v.length+FZ (CI w) v≤13000000∧FZ (CI w) v≤m
theorem Z6{σ α:Type}(P:σ→Prop){g:σ→α→σ}: ∀ {l:List α} {v:σ},(∀v x,x∈l→P v→P (g v x))→P v→P (l.foldl g v)
 | [],v,_,h=>h
 |x::l,v,hs,h=>Z6 P (l:=l) (fun v y hy=>hs v y (List.mem_cons_of_mem _ hy)) (hs v x (by simp) h)
theorem O2{w:aE}{m:Nat}{v:LB}{s:ByteArray}(h:SOk w m v)(hs:s∈CI w)(hn:uR v s=false):SOk w (m-1) (v++ [s])∧0<m∧v.length<13000000:=by
 have h1:=aaG hn hs
 obtain⟨h2,h3⟩:=h
 refine⟨⟨?_,by omega⟩,by omega,by omega⟩
 rw [List.length_append,List.length_singleton]
 omega
theorem SOk.le{w:aE}{m k:Nat}{v:LB}(h:SOk w m v)(hk:m≤k):SOk w k v:=⟨h.1,Nat.le_trans h.2 hk⟩
theorem PJ{w:aE}: ∀n m out name,SOk w m out→SOk w m (PI w n out name)
 |0,m,out,name,h=>h
 |n+1,m,out,name,h=>by
  rw [PI]
  refine Z6 (SOk w m) (fun v s hs hv=>?_) h
  split
  ·exact hv
  ·rename_i hn
   exact(PJ n (m-1) _ s (O2 hv (PK hs) (by simpa using hn)).1).le (by omega)
theorem akT{w:aE}: ∀n m out name,SOk w m out→13000001+m<n→iG n w out name=some (PI w n out name)
 |0,m,out,name,_,h=>by omega
 |n+1,m,out,name,h,hn=>by
  rw [iG,PI]
  unfold BB
  rw [EP]
  show so (loopN (yP n (iG n) w out name (tM w name).1 (tM w name).2.1 (tM w name).2.2) ((tM w name).1.aCc.length-0) 0 out) _=_
  rw [kO (l:=(tM w name).1.aCc) (g:=fun v s=>if uR v s=true then v else PI w n (v++ [s]) s) (fun _ v=>SOk w m v) (fun i v hi hv=>by
   unfold yP
   have hs:=PK (cD hi)
   generalize aT (tM w name).1.aCc i=s at hs ⊢
   rw [NW]
   show sw (!uR v s) _ _=_∧_
   cases hq:uR v s with
   |true=>exact⟨rfl,hv⟩
   |false=>
    obtain⟨k1,k2,k3⟩:=O2 hv hs hq
    exact⟨gO (by simp only [List.length_singleton];omega) (fY (akT n (m-1) _ s k1 (by omega)) rfl),(PJ n (m-1) _ s k1).le (by omega)⟩) h]
  rfl
theorem ak3{w:aE}(hw:wt w≤13000000): ∀n m out name,SOk w m out→13000001+m<n→kI n w name out=some (PI w n out name)
 |0,m,out,name,_,h=>by omega
 |n+1,m,out,name,h,hn=>by
  rw [kI,PI]
  unfold GJ
  rw [CV n w name (aE.small_wt hw (by omega))]
  show so (loopN (DT n (kI n) w name out (tM w name).1 (tM w name).2.1 (tM w name).2.2) ((tM w name).1.aCc.length-0) 0 out) _=_
  rw [kO (l:=(tM w name).1.aCc) (g:=fun v s=>if uR v s=true then v else PI w n (v++ [s]) s) (fun _ v=>SOk w m v) (fun i v hi hv=>by
   unfold DT
   have hs:=PK (cD hi)
   generalize aT (tM w name).1.aCc i=s at hs ⊢
   rw [R7]
   show sw (!uR v s) _ _=_∧_
   cases hq:uR v s with
   |true=>exact⟨rfl,hv⟩
   |false=>
    obtain⟨k1,k2,k3⟩:=O2 hv hs hq
    exact⟨gO (by simp only [List.length_singleton];omega) (fY (ak3 hw n (m-1) _ s k1 (by omega)) rfl),(PJ n (m-1) _ s k1).le (by omega)⟩) h]
  rfl
def zD(fu:Nat)(w:aE)(name:ByteArray):LB:=PI w fu [] name
theorem UK{w:aE}(hw:wt w≤13000000):SOk w 13000000 []:=by
 have h:=aeR hw
 have h1:FZ (CI w) []≤(CI w).length:=List.countP_le_length
 refine⟨?_,?_⟩
 ·rw [List.length_nil];omega
 ·omega
theorem aiG{fu:Nat}{w:aE}(hw:wt w≤13000000)(hf:27000000≤fu)(name:ByteArray):qP fu w name=some (zD fu w name):=by
 unfold qP zD
 rw [akT fu 13000000 [] name (UK hw) (by omega)]
 rfl
theorem aiX{fu:Nat}{w:aE}(hw:wt w≤13000000)(hf:27000000≤fu)(name:ByteArray):qX fu w name=some (zD fu w name):=by
 unfold qX zD
 rw [ak3 hw fu 13000000 [] name (UK hw) (by omega)]
 rfl
theorem XW{fu:Nat}{w:aE}(hw:wt w≤13000000)(name:ByteArray):(zD fu w name).length≤13000000:=by
 have h:=(PJ fu 13000000 [] name (UK hw)).1
 unfold zD
 omega
def PH(w:aE)(a:ByteArray)(f:ByteArray→List Int×Bool)(i:Nat):Option (List Int×Bool):=if(f (aT (tM w a).1.aCc i)).2=true then some ([((i:Nat):Int)]++(f (aT (tM w a).1.aCc i)).1,true) else none
def jS(w:aE):Nat→ByteArray→ByteArray→List Int×Bool
 |0,a,b=>if a=b then([],true) else([],false)
 |k+1,a,b=>if a=b then([],true) else((List.range' 0 (tM w a).1.aCc.length).findSome? (PH w a fun s=>jS w k s b)).getD ([],false)
theorem Q6(w:aE): ∀k a b,(jS w k a b).1.length≤k
 |0,a,b=>by rw [jS];split<;>exact Nat.le_refl _
 |k+1,a,b=>by
  rw [jS]
  split
  ·exact Nat.zero_le _
  ·cases h:(List.range' 0 (tM w a).1.aCc.length).findSome? (PH w a fun s=>jS w k s b) with
   |none=>exact Nat.zero_le _
   |some r=>
    obtain⟨i,hi,h⟩:=List.exists_of_findSome?_eq_some h
    unfold PH at h
    split at h
    ·cases h
     have:=Q6 w k (aT (tM w a).1.aCc i) b
     show([((i:Nat):Int)]++(jS w k (aT (tM w a).1.aCc i) b).1).length≤_
     rw [List.length_append,List.length_singleton]
     omega
    ·cases h
theorem ae7{w:aE}: ∀k n a b,k≤8→k<n→mD n w a b ((k:Nat):Int)=some (jS w k a b)
 |k,0,a,b,_,h=>by omega
 |0,n+1,a,b,hk,hn=>by
  rw [mD,jS]
  unfold JI
  by_cases h:a=b
  ·rw [if_pos h];exact jI (decide_eq_true h) rfl
  ·rw [if_neg h];exact gW (decide_eq_false h) (jI rfl rfl)
 |k+1,n+1,a,b,hk,hn=>by
  rw [mD,jS]
  unfold JI
  by_cases h:a=b
  ·rw [if_pos h];exact jI (decide_eq_true h) rfl
  ·rw [if_neg h]
   refine gW (decide_eq_false h) (gW (decide_eq_false (by omega)) ?_)
   rw [EP]
   have hl:=n4 (f:=L6 n (mD n) w a b ((k+1:Nat):Int) (tM w a).1 (tM w a).2.1 (tM w a).2.2) (q:=PH w a fun s=>jS w k s b) (fun r=>r) (s:=()) (n:=(tM w a).1.aCc.length) (fun i hi=>by
    unfold L6 PH
    generalize aT (tM w a).1.aCc i=s
    have h1:=Q6 w k s b
    rw [show aX (((k+1:Nat):Int)-1)=((k:Nat):Int) from by rw [DA (by omega) (by omega)];omega,ae7 k n s b (by omega) (by omega)]
    show sw (jS w k s b).2 _ _=_
    cases h2:(jS w k s b).2 with
    |true=>exact gO (by simp only [List.length_singleton];omega) (by rw [if_pos rfl])
    |false=>rw [if_neg (by simp)];rfl) _ 0 rfl
   show so (L7 n (mD n) w a b ((k+1:Nat):Int) (tM w a).1 (tM w a).2.1 (tM w a).2.2) _=_
   unfold L7
   refine(congrArg (fun x=>so x _) hl).trans ?_
   simp only [Nat.sub_zero]
   cases(List.range' 0 (tM w a).1.aCc.length).findSome? (PH w a fun s=>jS w k s b)<;>rfl
theorem ae6(fu:Nat)(hf:100≤fu)(w:aE)(a b:ByteArray):kV fu w a b=some (jS w 8 a b):=by
 unfold kV
 rw [show(8:Int)=((8:Nat):Int) from rfl,ae7 8 fu a b (by omega) (by omega)]
 rfl
theorem af2{w:aE}(hw:wt w≤13000000): ∀k n a b,k≤8→13000001+k<n→iR n w a b ((k:Nat):Int)=some (jS w k a b)
 |k,0,a,b,_,h=>by omega
 |0,n+1,a,b,hk,hn=>by
  rw [iR,jS]
  unfold C4
  by_cases h:a=b
  ·rw [if_pos h];exact jI (decide_eq_true h) rfl
  ·rw [if_neg h]
   refine gW (decide_eq_false h) ?_
   rw [CV n w a (aE.small_wt hw (by omega))]
   show so (vE n (iR n) w a b ((0:Nat):Int) (tM w a).1 (tM w a).2.1 (tM w a).2.2) _=_
   unfold vE
   cases hz:(tM w a).1.aCc.length-0 with
   |zero=>rw [loopN];rfl
   |succ m=>
    rw [loopN]
    unfold AC
    rfl
 |k+1,n+1,a,b,hk,hn=>by
  rw [iR,jS]
  unfold C4
  by_cases h:a=b
  ·rw [if_pos h];exact jI (decide_eq_true h) rfl
  ·rw [if_neg h]
   refine gW (decide_eq_false h) ?_
   rw [CV n w a (aE.small_wt hw (by omega))]
   have hl:=n4 (f:=AC n (iR n) w a b ((k+1:Nat):Int) (tM w a).1 (tM w a).2.1 (tM w a).2.2) (q:=PH w a fun s=>jS w k s b) (fun r=>r) (s:=()) (n:=(tM w a).1.aCc.length) (fun i hi=>by
    unfold AC PH
    generalize aT (tM w a).1.aCc i=s
    have h1:=Q6 w k s b
    refine jI (decide_eq_true (by omega)) ?_
    rw [show aX (((k+1:Nat):Int)-1)=((k:Nat):Int) from by rw [DA (by omega) (by omega)];omega,af2 hw k n s b (by omega) (by omega)]
    show sw (jS w k s b).2 _ _=_
    cases h2:(jS w k s b).2 with
    |true=>exact gO (by simp only [List.length_singleton];omega) (by rw [if_pos rfl])
    |false=>rw [if_neg (by simp)];rfl) _ 0 rfl
   show so (vE n (iR n) w a b ((k+1:Nat):Int) (tM w a).1 (tM w a).2.1 (tM w a).2.2) _=_
   unfold vE
   refine(congrArg (fun x=>so x _) hl).trans ?_
   simp only [Nat.sub_zero]
   cases(List.range' 0 (tM w a).1.aCc.length).findSome? (PH w a fun s=>jS w k s b)<;>rfl
theorem af1{fu:Nat}{w:aE}(hw:wt w≤13000000)(hf:27000000≤fu)(a b:ByteArray):mY fu w a b=some (jS w 8 a b):=by
 unfold mY
 rw [show(8:Int)=((8:Nat):Int) from rfl,af2 hw 8 fu a b (by omega) (by omega)]
 rfl
end Go.Proofs.YtfcoaagbccmahaaGreat.W

namespace Go.Proofs.YtfcoaagbccmahaaGreat.W
open Go.RowKit Go.Proofs
theorem P3(a b:ByteArray):(a==b)=decide (a=b):=by
 by_cases h:a=b
 ·subst h
  rw [A5]
  simp
 ·rw [FN h]
  simp [h]
theorem aA.eq_iff: ∀a b:aA,aA.eq a b=true↔a=b:=by
 refine aA.ind fun k n xs ih b=>?_
 obtain⟨l,m,ys⟩:=b
 have hL: ∀(l r:List aA),(∀x∈l,∀y,aA.eq x y=true↔x=y)→(aA.eqs l r=true↔l=r):=by
  intro l
  induction l with
  |nil=>intro r _;cases r<;>simp [aA.eqs]
  |cons x l ihl=>
   intro r hx
   cases r with
   |nil=>simp [aA.eqs]
   |cons y r=>
    rw [aA.eqs,Bool.and_eq_true,hx x (by simp) y,ihl r (fun z hz=>hx z (List.mem_cons_of_mem _ hz)),List.cons.injEq]
 rw [aA.eq,Bool.and_eq_true,Bool.and_eq_true,hL xs ys ih,P3,decide_eq_true_eq,beq_iff_eq]
 constructor
 ·rintro⟨rfl,rfl,rfl⟩;rfl
 ·intro h;cases h;exact⟨rfl,rfl,rfl⟩
end Go.Proofs.YtfcoaagbccmahaaGreat.W

namespace Go.Proofs.YtfcoaagbccmahaaGreat.W
open Go.RowKit Go.Proofs
attribute [local irreducible] lt
def D2(fu:Nat)(w:aE)(i:Nat)(b:aG):List aJ:=
 [aJ.mk (aG.mk b.aCa b.aB7) ((i:Nat):Int) []]++(List.range' 0 (zD fu w b.aCa).length).map fun k=>aJ.mk (aG.mk (aT (zD fu w b.aCa) k) b.aB7) ((i:Nat):Int) (jS w 8 b.aCa (aT (zD fu w b.aCa) k)).1
def X9(fu:Nat)(w:aE)(l:List aG):List aJ:=(List.range' 0 l.length).flatMap fun i=>D2 fu w i (aT l i)
theorem alR{fu:Nat}{w:aE}(hw:wt w≤13000000)(i:Nat)(b:aG):(D2 fu w i b).length≤13000001:=by
 have h:=XW (fu:=fu) hw b.aCa
 unfold D2
 rw [List.length_append,List.length_singleton,List.length_map,List.length_range']
 omega
theorem aeZ{α:Type}{f:Nat→List α}{M:Nat}(h: ∀i,(f i).length≤M): ∀k j,((List.range' j k).flatMap f).length≤M*k
 |0,j=>by simp
 |k+1,j=>by
  rw [List.range'_succ,List.flatMap_cons,List.length_append,Nat.mul_succ]
  have:=h j
  have:=aeZ h k (j+1)
  omega
theorem aeT{fu:Nat}{w:aE}(hw:wt w≤13000000){l:List aG}(hl:l.length≤1000):(X9 fu w l).length≤13000001*1000:=by
 have h:=aeZ (f:=fun i=>D2 fu w i (aT l i)) (M:=13000001) (fun i=>alR hw i _) l.length 0
 unfold X9
 exact Nat.le_trans h (Nat.mul_le_mul_left _ hl)
section
variable {fu:Nat} {w:aE} (hw:wt w≤13000000) (hf:27000000≤fu) {l:List aG} (hl:l.length≤1000) (hb: ∀b∈l,iC b.aB7)
include hw hf hl hb
theorem apG:uS fu w l=some (X9 fu w l):=by
 have h:=wG (F:=yM fu w l) (g:=fun i=>D2 fu w i (aT l i)) (n:=l.length) (M:=68719476736) (fun i v hi hv=>by
  have hB:=hb _ (cD hi)
  have hs:=XW (fu:=fu) hw (aT l i).aCa
  have h2:=ES (F:=tH fu w l i v (zD fu w (aT l i).aCa)) (g:=fun k=>aJ.mk (aG.mk (aT (zD fu w (aT l i).aCa) k) (aT l i).aB7) ((i:Nat):Int) (jS w 8 (aT l i).aCa (aT (zD fu w (aT l i).aCa) k)).1) (n:=(zD fu w (aT l i).aCa).length) (M:=68719476736) (fun k u hk hu=>by
   unfold tH
   rw [ae6 fu (by omega)]
   exact gO hu rfl) _ 0 (v++ [aJ.mk (aG.mk (aT l i).aCa (aT l i).aB7) ((i:Nat):Int) []]) rfl (by
   unfold D2 at hv
   rw [List.length_append,List.length_singleton,List.length_map,List.length_range'] at hv
   rw [List.length_append,List.length_singleton]
   omega)
  unfold yM
  refine gO hB (gO (by
   unfold D2 at hv
   rw [List.length_append,List.length_singleton] at hv
   rw [List.length_singleton]
   omega) ?_)
  rw [aiG hw hf]
  show so (loopN (tH fu w l i v (zD fu w (aT l i).aCa)) ((zD fu w (aT l i).aCa).length-0) 0 _) _=_
  rw [h2]
  unfold D2
  rw [List.append_assoc]
  rfl) _ 0 [] rfl (by
  have:=aeT (fu:=fu) hw hl
  unfold X9 at this
  rw [List.length_nil,Nat.zero_add,Nat.sub_zero]
  omega)
 unfold uS
 rw [h]
 rfl
theorem apZ:u7 fu w l=some (X9 fu w l):=by
 have h:=wG (F:=yY fu w l) (g:=fun i=>D2 fu w i (aT l i)) (n:=l.length) (M:=68719476736) (fun i v hi hv=>by
  have hB:=hb _ (cD hi)
  have hs:=XW (fu:=fu) hw (aT l i).aCa
  have h2:=ES (F:=tJ fu w l i v (zD fu w (aT l i).aCa)) (g:=fun k=>aJ.mk (aG.mk (aT (zD fu w (aT l i).aCa) k) (aT l i).aB7) ((i:Nat):Int) (jS w 8 (aT l i).aCa (aT (zD fu w (aT l i).aCa) k)).1) (n:=(zD fu w (aT l i).aCa).length) (M:=68719476736) (fun k u hk hu=>by
   unfold tJ
   rw [af1 hw hf]
   exact gO hu rfl) _ 0 (v++ [aJ.mk (aG.mk (aT l i).aCa (aT l i).aB7) ((i:Nat):Int) []]) rfl (by
   unfold D2 at hv
   rw [List.length_append,List.length_singleton,List.length_map,List.length_range'] at hv
   rw [List.length_append,List.length_singleton]
   omega)
  unfold yY
  refine gO hB (gO (by
   unfold D2 at hv
   rw [List.length_append,List.length_singleton] at hv
   rw [List.length_singleton]
   omega) ?_)
  rw [aiX hw hf]
  show so (loopN (tJ fu w l i v (zD fu w (aT l i).aCa)) ((zD fu w (aT l i).aCa).length-0) 0 _) _=_
  rw [h2]
  unfold D2
  rw [List.append_assoc]
  rfl) _ 0 [] rfl (by
  have:=aeT (fu:=fu) hw hl
  unfold X9 at this
  rw [List.length_nil,Nat.zero_add,Nat.sub_zero]
  omega)
 unfold u7
 rw [h]
 rfl
end
def s5(l:List aJ)(g:aG):Int:=match l.findIdx? (fun a=>aG.eq a.aCy g) with
 |some i=>((i:Nat):Int)
 |none=> -1
theorem aiK(fu:Nat)(a b:aG):zP fu a b=some (aG.eq a b):=by
 obtain⟨n,x⟩:=a
 obtain⟨m,y⟩:=b
 unfold zP
 rw [aG.eq,P3]
 show sw (decide (n=m)) (some (aA.eq x y)) (some false)=_
 cases decide (n=m)<;>rfl
theorem JH(fu:Nat)(l:List aJ)(g:aG):mN fu l g=some (s5 l g):=by
 unfold mN fF s5
 rw [xS (p:=fun a=>aG.eq a.aCy g) (fun i hi=>by
  unfold iZ sV
  refine Q0 rfl ?_
  rw [aiK]
  show sw (aG.eq (aT l i).aCy g) _ _=_
  cases aG.eq (aT l i).aCy g<;>rfl)]
 cases l.findIdx? fun a=>aG.eq a.aCy g<;>rfl
end Go.Proofs.YtfcoaagbccmahaaGreat.W

namespace Go.Proofs.YtfcoaagbccmahaaGreat.W
open Go.RowKit Go.WalkArith Go.IntWalk Go.WideShapes Go.Proofs
attribute [local irreducible] lt
theorem U9{σ α:Type}(P:σ→Prop){g h:σ→α→σ}: ∀ {l:List α} {v:σ},(∀v x,x∈l→P v→g v x=h v x∧P (g v x))→P v→l.foldl g v=l.foldl h v
 | [],v,_,_=>rfl
 |x::l,v,hs,hv=>by
  obtain⟨e,hp⟩:=hs v x (by simp) hv
  rw [List.foldl_cons,List.foldl_cons,← e]
  exact U9 P (fun v y hy=>hs v y (List.mem_cons_of_mem _ hy)) hp
theorem aa6{w:aE}: ∀n m out name,SOk w m out→m<n→PI w (n+1) out name=PI w n out name
 |0,m,out,name,_,h=>by omega
 |n+1,m,out,name,h,hn=>by
  rw [PI,PI]
  refine U9 (SOk w m) (fun v s hs hv=>?_) h
  cases hq:uR v s with
  |true=>exact⟨rfl,hv⟩
  |false=>
   obtain⟨k1,k2,k3⟩:=O2 hv (PK hs) hq
   refine⟨?_,?_⟩
   ·rw [if_neg (by simp),if_neg (by simp)]
    exact aa6 n (m-1) _ s k1 (by omega)
   ·rw [if_neg (by simp)]
    exact(PJ (n+1) (m-1) _ s k1).le (by omega)
theorem aa7{w:aE}(hw:wt w≤13000000)(name:ByteArray): ∀k,zD (27000000+k) w name=zD 27000000 w name
 |0=>rfl
 |k+1=>(aa6 (27000000+k) 13000000 [] name (UK hw) (by omega)).trans (aa7 hw name k)
theorem alS{fu:Nat}{w:aE}(hw:wt w≤13000000)(hf:27000000≤fu)(l:List aG):X9 fu w l=X9 27000000 w l:=by
 have h:zD fu w=zD 27000000 w:=funext fun name=>by
  have:=aa7 hw name (fu-27000000)
  rwa [show 27000000+(fu-27000000)=fu by omega] at this
 unfold X9 D2
 rw [h]
def DE(w:aE)(l:List aG):List aJ:=X9 27000000 w l
structure xJ (w:aE) (l:List aG):Prop where
 hw:wt w≤13000000
 hl:l.length≤1000
 ht: ∀b∈l,iC b.aB7
set_option maxRecDepth 100000 in
theorem OR(w:aE)(l:List aG)(h:xJ w l):am6 Tryz.prog 50 [(aE.pv w),bY l] 145 [aO w.aB2,bO (DE w l)]:=by
 have hA:uS 27000000 w l=some (DE w l):=apG h.hw (Nat.le_refl _) h.hl h.ht
 unfold am6
 refine qI Tryz.func50 (fun C hC=>?_)
 refine gQ 2 ?_;refine q1 (eX ([aO w.aB2])) (q1 (bB.moveAny (.inl rfl)) ?_)
 refine gQ 2 ?_;refine dW (dD [2] (bW [aO w.aB2]) (dD [2] (bW [aO w.aB2]) (dI [1] bF (dI [6,7] (bE Tryz.func99 (TJ 27000000 w l _ hA)) (dI [5,8] rW (dE [9] (eX [aO w.aB2,bO (DE w l)]) (dI [10] bF (dN ?_))))))))
 refine cQ.ret ?_;exact DX.mk (ps:= [_]) (.inr rfl) ⟨rfl,trivial⟩ rfl (tN.mk' (st':=⟨[none,some ⟨145,[aO w.aB2,bO (DE w l)]⟩],[]⟩) ⟨⟨rfl,jN,rfl⟩,trivial⟩ rfl) (aaF hC) (q:= .ptr 1 0) (.refl _) rfl ⟨1,rfl,rfl,fun i x hx=>by rcases i with _|_|i<;>simp at hx<;>simp,rfl⟩
end Go.Proofs.YtfcoaagbccmahaaGreat.W
