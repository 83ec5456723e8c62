/- Words, rules and walks of several kinds, laid together. No conditions but those that each theorem states. -/
import Derived.Test.YtfcoaagbccmahaaGreatQha8172ff1
import Derived.Deep.RegionHeld3
import Derived.Laws.IdiomStrings
import Derived.Lib.SliceRun
set_option linter.unusedSimpArgs false
set_option linter.unusedVariables false
namespace Go.Proofs.YtfcoaagbccmahaaGreat.W
open Go.RowKit Go.WalkArith Go.Proofs
attribute [local irreducible] lt
theorem C8{x:Int}(h0: -1≤x)(h1:x<9223372036854775807):aX x=x:=by
 unfold aX IntKind.wrap
 simp [IntKind.bits,IntKind.signed]
 omega
section
variable {β γ σ:Type}
theorem oA{f:Nat→σ→Option (LR σ β)}{q:Nat→Option γ}(g:γ→β){s:σ}{n:Nat}(hs: ∀i,i<n→f i s=some (match q i with|some r=> .ret (g r)|none=> .next s)):
 ∀k j,n-j=k→loopN f k j s=some (match(List.range' j k).findSome? q with|some r=> .inl (g r)|none=> .inr s)
 |0,j,hk=>by rw [loopN];rfl
 |k+1,j,hk=>by
  rw [loopN,hs j (by omega),List.range'_succ,List.findSome?_cons]
  cases q j with
  |some r=>rfl
  |none=>exact oA g hs k (j+1) (by omega)
theorem MJ{f:Int→Option (LR Int β)}{q:Nat→Option γ}(g:γ→β){n:Nat}(hs: ∀i:Nat,i<n→f (i:Int)=some (match q i with|some r=> .ret (g r)|none=> .next ((i+1:Nat):Int)))(he:f (n:Int)=some (.brk (n:Int))):
 ∀k j fu,n-j=k→j≤n→k<fu→loopW f fu (j:Int)=some (match(List.range' j k).findSome? q with|some r=> .inl (g r)|none=> .inr (n:Int))
 |0,j,fu,hk,hj,hf=>by
  obtain⟨m,rfl⟩: ∃m,fu=m+1:=⟨fu-1,by omega⟩
  obtain rfl:j=n:=by omega
  rw [loopW,he]
  rfl
 |k+1,j,fu,hk,hj,hf=>by
  obtain⟨m,rfl⟩: ∃m,fu=m+1:=⟨fu-1,by omega⟩
  rw [loopW,hs j (by omega),List.range'_succ,List.findSome?_cons]
  cases q j with
  |some r=>rfl
  |none=>exact MJ g hs he k (j+1) m (by omega) (by omega) (by omega)
end
def tQ(w:aF)(s:ByteArray)(i:Nat):Option (aU×Int×Bool):=(List.range' 0 (aR w.aB8 i).aCo.length).findSome? fun k=>if(aR (aR w.aB8 i).aCo k).aB9=s then some (aR (aR w.aB8 i).aCo k,(i:Int),true) else none
def dQ(w:aF)(s:ByteArray)(i:Nat):Option (aN×Int×Bool):=(List.range' 0 (aR w.aB8 i).aCh.length).findSome? fun k=>if(aR (aR w.aB8 i).aCh k).aB9=s then some (aR (aR w.aB8 i).aCh k,(i:Int),true) else none
def tT(w:aF)(s:ByteArray):aU×Int×Bool:=((List.range' 0 w.aB8.length).findSome? (tQ w s)).getD (aU.mk s_ [] false false [],0,false)
def KD(w:aF)(s:ByteArray):aN×Int×Bool:=((List.range' 0 w.aB8.length).findSome? (dQ w s)).getD (aN.mk s_ [] [],0,false)
theorem EN(fu:Nat)(w:aF)(s:ByteArray):EM fu w s=some (tT w s):=by
 have h:=oA (f:=QH fu w s) (q:=tQ w s) (fun r=>r) (s:=()) (n:=w.aB8.length) (fun i hi=>by
  have h2:=oA (f:=QI fu w s i (aR w.aB8 i)) (q:=fun k=>if(aR (aR w.aB8 i).aCo k).aB9=s then some (aR (aR w.aB8 i).aCo k,(i:Int),true) else none) (fun r=>LR.ret r) (s:=()) (n:=(aR w.aB8 i).aCo.length) (fun k hk=>by
   unfold QI
   by_cases hs:(aR (aR w.aB8 i).aCo k).aB9=s
   ·rw [if_pos hs];exact jP (decide_eq_true hs) rfl
   ·rw [if_neg hs];exact g0 (decide_eq_false hs) rfl) _ 0 rfl
  unfold QH
  refine UE rfl ?_
  rw [h2]
  unfold tQ
  cases(List.range' 0 (aR w.aB8 i).aCo.length).findSome? _<;>rfl) _ 0 rfl
 unfold EM tT
 rw [h]
 cases(List.range' 0 w.aB8.length).findSome? (tQ w s)<;>rfl
theorem ae7(fu:Nat)(w:aF)(s:ByteArray):UD fu w s=some (KD w s):=by
 have h:=oA (f:=VK fu w s) (q:=dQ w s) (fun r=>r) (s:=()) (n:=w.aB8.length) (fun i hi=>by
  have h2:=oA (f:=VL fu w s i (aR w.aB8 i)) (q:=fun k=>if(aR (aR w.aB8 i).aCh k).aB9=s then some (aR (aR w.aB8 i).aCh k,(i:Int),true) else none) (fun r=>LR.ret r) (s:=()) (n:=(aR w.aB8 i).aCh.length) (fun k hk=>by
   unfold VL
   by_cases hs:(aR (aR w.aB8 i).aCh k).aB9=s
   ·rw [if_pos hs];exact jP (decide_eq_true hs) rfl
   ·rw [if_neg hs];exact g0 (decide_eq_false hs) rfl) _ 0 rfl
  unfold VK
  refine UE rfl ?_
  rw [h2]
  unfold dQ
  cases(List.range' 0 (aR w.aB8 i).aCh.length).findSome? _<;>rfl) _ 0 rfl
 unfold UD KD
 rw [h]
 cases(List.range' 0 w.aB8.length).findSome? (dQ w s)<;>rfl
def aF.small(w:aF)(N:Nat):Prop:= ∀i,i<w.aB8.length→(aR w.aB8 i).aCo.length<N∧(aR w.aB8 i).aCh.length<N∧(aR w.aB8 i).aCk.length<N
theorem CT(fu:Nat)(w:aF)(s:ByteArray)(hw:aF.small w fu):qF fu w s=some (tT w s):=by
 have h:=oA (f:=BX fu w s) (q:=tQ w s) (fun r=>r) (s:=()) (n:=w.aB8.length) (fun i hi=>by
  have h2:=MJ (f:=vI fu w s i) (q:=fun k=>if(aR (aR w.aB8 i).aCo k).aB9=s then some (aR (aR w.aB8 i).aCo k,(i:Int),true) else none) (fun r=>LR.ret r) (n:=(aR w.aB8 i).aCo.length) (fun k hk=>by
   unfold vI
   refine UE rfl (jP (decide_eq_true (by omega)) (iJ (by omega) ?_))
   rw [Int.toNat_natCast]
   by_cases hs:(aR (aR w.aB8 i).aCo k).aB9=s
   ·rw [if_pos hs];exact jP (decide_eq_true hs) rfl
   ·rw [if_neg hs];exact g0 (decide_eq_false hs) rfl) (by
   unfold vI
   exact UE rfl (g0 (decide_eq_false (by omega)) rfl)) _ 0 fu rfl (Nat.zero_le _) (hw i hi).1
  unfold BX
  refine(congrArg (fun o=>so o _) h2).trans ?_
  unfold tQ
  simp only [Nat.sub_zero]
  cases(List.range' 0 (aR w.aB8 i).aCo.length).findSome? _<;>rfl) _ 0 rfl
 unfold qF tT
 rw [h]
 cases(List.range' 0 w.aB8.length).findSome? (tQ w s)<;>rfl
theorem WB(fu:Nat)(w:aF)(s:ByteArray)(hw:aF.small w fu):AC fu w s=some (KD w s):=by
 have h:=oA (f:=DQ fu w s) (q:=dQ w s) (fun r=>r) (s:=()) (n:=w.aB8.length) (fun i hi=>by
  have h2:=MJ (f:=xF fu w s i) (q:=fun k=>if(aR (aR w.aB8 i).aCh k).aB9=s then some (aR (aR w.aB8 i).aCh k,(i:Int),true) else none) (fun r=>LR.ret r) (n:=(aR w.aB8 i).aCh.length) (fun k hk=>by
   unfold xF
   refine UE rfl (jP (decide_eq_true (by omega)) (iJ (by omega) ?_))
   rw [Int.toNat_natCast]
   by_cases hs:(aR (aR w.aB8 i).aCh k).aB9=s
   ·rw [if_pos hs];exact jP (decide_eq_true hs) rfl
   ·rw [if_neg hs];exact g0 (decide_eq_false hs) rfl) (by
   unfold xF
   exact UE rfl (g0 (decide_eq_false (by omega)) rfl)) _ 0 fu rfl (Nat.zero_le _) (hw i hi).2.1
  unfold DQ
  refine(congrArg (fun o=>so o _) h2).trans ?_
  unfold dQ
  simp only [Nat.sub_zero]
  cases(List.range' 0 (aR w.aB8 i).aCh.length).findSome? _<;>rfl) _ 0 rfl
 unfold AC KD
 rw [h]
 cases(List.range' 0 w.aB8.length).findSome? (dQ w s)<;>rfl
def mP(w:aF)(o:aC):Prop:= ∃i k:Nat,o=aC.mk (i:Int) (k:Int)∧i<w.aB8.length∧k<(aR w.aB8 i).aCk.length
def b5(w:aF)(o:aC):aI:=aR (aR w.aB8 o.aCl.toNat).aCk o.aCz.toNat
theorem H6(fu:Nat)(w:aF)(o:aC)(ho:mP w o):rM fu w o=some (b5 w o,true):=by
 obtain⟨i,k,rfl,hi,hk⟩:=ho
 unfold rM
 refine g0 (decide_eq_false (by show ¬((i:Int)<0);omega)) (g0 (decide_eq_false (by show ¬((i:Int)≥_);omega)) (g0 (decide_eq_false (by show ¬((k:Int)<0);omega)) (iJ (by show 0≤(i:Int)∧(i:Int).toNat<_;omega) (UE rfl (g0 (decide_eq_false (by show ¬((k:Int)≥((aR w.aB8 i).aCk.length:Int));omega)) (iJ (by show 0≤(k:Int)∧(k:Int).toNat<(aR w.aB8 i).aCk.length;omega) (UE rfl rfl)))))))
theorem aoN(fu:Nat)(w:aF)(o:aC)(ho:mP w o)(h1:w.aB8.length≤13000000)(h2: ∀i,i<w.aB8.length→(aR w.aB8 i).aCk.length≤13000000):AD fu w o=some (b5 w o,true):=by
 obtain⟨i,k,rfl,hi,hk⟩:=ho
 have h3:=h2 i hi
 have e1: ∀(x n:Nat),x<n→n≤13000000→sR fu (x:Int) 0 (aX ((n:Int)-1))=some true:=fun x n hx hn=>by
  unfold sR
  rw [C8 (by omega) (by omega)]
  exact jP (decide_eq_true (by omega)) (by rw [decide_eq_true (by omega)])
 unfold AD
 rw [show sR fu (aC.mk (i:Int) (k:Int)).aCl 0 (aX ((w.aB8.length:Int)-1))=some true from e1 i _ hi h1]
 refine iJ (by show 0≤(i:Int)∧(i:Int).toNat<_;omega) (UE rfl ?_)
 rw [show sR fu (aC.mk (i:Int) (k:Int)).aCz 0 (aX (((aR w.aB8 (aC.mk (i:Int) (k:Int)).aCl.toNat).aCk.length:Int)-1))=some true from e1 k _ hk h3]
 exact iJ (by show 0≤(k:Int)∧(k:Int).toNat<(aR w.aB8 i).aCk.length;omega) (UE rfl rfl)
def Q0(w:aF)(i:Nat):List aC:=(List.range' 0 (aR w.aB8 i).aCk.length).map fun(k:Nat)=>aC.mk (i:Int) (k:Int)
def fG(w:aF):List aC:=(List.range' 0 w.aB8.length).flatMap (Q0 w)
theorem UH{w:aF}{o:aC}(h:o∈fG w):mP w o:=by
 obtain⟨i,hi,ho⟩:=List.mem_flatMap.1 h
 obtain⟨k,hk,rfl⟩:=List.mem_map.1 ho
 rw [List.mem_range'_1] at hi hk
 exact⟨i,k,rfl,by omega,by omega⟩
section
variable {α β:Type}
theorem ER{F:Nat→List α→Option (LR (List α) β)}{n M:Nat}{g:Nat→α}(hs: ∀j v,j<n→v.length+1≤M→F j v=some (.next (v++ [g j]))):
 ∀k j (v:List α),n-j=k→v.length+k≤M→loopN F k j v=some (.inr (v++(List.range' j k).map g))
 |0,j,v,hk,_=>by rw [loopN];simp
 |k+1,j,v,hk,hl=>by
  rw [loopN,hs j v (by omega) (by omega)]
  have h:=ER hs k (j+1) (v++ [g j]) (by omega) (by rw [List.length_append];simp only [List.length_singleton];omega)
  rw [List.append_assoc] at h
  rw [List.range'_succ,List.map_cons]
  exact h
theorem aaF{F:List α×Int→Option (LR (List α×Int) β)}{n M:Nat}{g:Nat→α}(hs: ∀(j:Nat) v,j<n→v.length+1≤M→F (v,(j:Int))=some (.next (v++ [g j],((j+1:Nat):Int))))(he: ∀v,F (v,(n:Int))=some (.brk (v,(n:Int)))):
 ∀k j fu (v:List α),n-j=k→j≤n→k<fu→v.length+k≤M→loopW F fu (v,(j:Int))=some (.inr (v++(List.range' j k).map g,(n:Int)))
 |0,j,fu,v,hk,hj,hf,_=>by
  obtain⟨f,rfl⟩: ∃f,fu=f+1:=⟨fu-1,by omega⟩
  obtain rfl:j=n:=by omega
  rw [loopW,he]
  simp
 |k+1,j,fu,v,hk,hj,hf,hl=>by
  obtain⟨f,rfl⟩: ∃f,fu=f+1:=⟨fu-1,by omega⟩
  rw [loopW,hs j v (by omega) (by omega)]
  have h:=aaF hs he k (j+1) f (v++ [g j]) (by omega) (by omega) (by omega) (by rw [List.length_append];simp only [List.length_singleton];omega)
  rw [List.append_assoc] at h
  rw [List.range'_succ,List.map_cons]
  exact h
theorem wK{F:Nat→List α→Option (LR (List α) β)}{n M:Nat}{g:Nat→List α}(hs: ∀j v,j<n→v.length+(g j).length≤M→F j v=some (.next (v++g j))):
 ∀k j (v:List α),n-j=k→v.length+((List.range' j k).flatMap g).length≤M→loopN F k j v=some (.inr (v++(List.range' j k).flatMap g))
 |0,j,v,hk,_=>by rw [loopN];simp
 |k+1,j,v,hk,hl=>by
  rw [List.range'_succ,List.flatMap_cons,List.length_append] at hl
  rw [loopN,hs j v (by omega) (by omega)]
  have h:=wK hs k (j+1) (v++g j) (by omega) (by rw [List.length_append];omega)
  rw [List.range'_succ,List.flatMap_cons,← List.append_assoc]
  exact h
end
theorem MM(w:aF)(i:Nat):(Q0 w i).length=(aR w.aB8 i).aCk.length:=by
 unfold Q0
 rw [List.length_map,List.length_range']
theorem apL(fu:Nat)(w:aF)(hw:(fG w).length≤68719476736):tM fu w=some (fG w):=by
 have h:=wK (F:=vZ fu w) (g:=Q0 w) (n:=w.aB8.length) (M:=68719476736) (fun i v hi hv=>by
  rw [MM] at hv
  have h2:=ER (F:=EG fu w i v (aR w.aB8 i)) (g:=fun(k:Nat)=>aC.mk (i:Int) (k:Int)) (n:=(aR w.aB8 i).aCk.length) (M:=68719476736) (fun k u hk hu=>iJ hu rfl) _ 0 v rfl hv
  unfold vZ
  refine UE rfl ?_
  rw [h2]
  rfl) _ 0 [] rfl (by rw [List.length_nil,Nat.zero_add];exact hw)
 unfold tM
 rw [h]
 rfl
theorem ap3(fu:Nat)(w:aF)(hw:(fG w).length≤68719476736)(hf:aF.small w fu)(h2: ∀i,i<w.aB8.length→(aR w.aB8 i).aCk.length≤13000000):tO fu w=some (fG w):=by
 have h:=wK (F:=wP fu w) (g:=Q0 w) (n:=w.aB8.length) (M:=68719476736) (fun i v hi hv=>by
  rw [MM] at hv
  have h3:=h2 i hi
  have h2:=aaF (F:=sM fu w i v) (g:=fun(k:Nat)=>aC.mk (i:Int) (k:Int)) (n:=(aR w.aB8 i).aCk.length) (M:=68719476736) (fun k u hk hu=>by
   unfold sM
   refine UE rfl (jP (decide_eq_true (by omega)) (iJ hu ?_))
   rw [C8 (by omega) (by omega)]
   rfl) (fun u=>by
   unfold sM
   exact UE rfl (g0 (decide_eq_false (by omega)) rfl)) _ 0 fu v rfl (Nat.zero_le _) (hf i hi).2.2 hv
  unfold wP
  refine(congrArg (fun o=>so o _) h2).trans ?_
  rfl) _ 0 [] rfl (by rw [List.length_nil,Nat.zero_add];exact hw)
 unfold tO
 rw [h]
 rfl
theorem aF.len_wt{w:aF}(hw:wt w≤13000000):w.aB8.length≤13000000:=by
 have:=aF.wt_eq w
 have:=aZ w.aB8
 omega
theorem aF.len_at{w:aF}(hw:wt w≤13000000)(i:Nat)(hi:i<w.aB8.length):(aR w.aB8 i).aCo.length≤13000000∧(aR w.aB8 i).aCh.length≤13000000∧(aR w.aB8 i).aCk.length≤13000000:=by
 have:=aF.wt_eq w
 have:=cQ w.aB8 i hi
 have:=aM.wt_eq (aR w.aB8 i)
 have:=aZ (aR w.aB8 i).aCo
 have:=aZ (aR w.aB8 i).aCh
 have:=aZ (aR w.aB8 i).aCk
 omega
theorem aF.small_wt{w:aF}{fu:Nat}(hw:wt w≤13000000)(hf:13000000<fu):aF.small w fu:=fun i hi=>by
 have:=aF.len_at hw i hi
 omega
theorem akR(w:aF): ∀k j,w.aB8.length-j=k→((List.range' j k).flatMap (Q0 w)).length≤wl (w.aB8.drop j)
 |0,j,hk=>by simp
 |k+1,j,hk=>by
  have h:=akR w k (j+1) (by omega)
  have h1:=aM.wt_eq (aR w.aB8 j)
  have h2:=aZ (aR w.aB8 j).aCk
  rw [List.range'_succ,List.flatMap_cons,List.length_append,MM,o4 (by omega),ad0]
  omega
theorem UY{w:aF}(hw:wt w≤13000000):(fG w).length≤13000000:=by
 have h:=akR w _ 0 rfl
 have:=aF.wt_eq w
 rw [List.drop_zero] at h
 unfold fG
 simp only [Nat.sub_zero] at h
 omega
end Go.Proofs.YtfcoaagbccmahaaGreat.W

namespace Go.Proofs.YtfcoaagbccmahaaGreat.W
open Go.RowKit Go.Proofs
theorem NP(x:aA):Tr.bulkL (aA.tr x)=wt x:=rfl
attribute [local irreducible] lt wt wl
theorem OS{α:Type}[Inhabited α](q:α→Bool): ∀(l:List α) (k j:Nat),l.length-j=k→(List.range' j k).flatMap (fun i=>bif q (aR l i) then [] else [aR l i])=(l.drop j).filter (fun x=> !q x)
 |l,0,j,hk=>by rw [List.drop_of_length_le (by omega)];simp
 |l,k+1,j,hk=>by
  have hj:j<l.length:=by omega
  rw [List.range'_succ,List.flatMap_cons,OS q l k (j+1) (by omega),o4 hj,List.filter_cons]
  cases q (aR l j)<;>rfl
theorem MI{σ β:Type}{f:Nat→σ→Option (LR σ β)}{s:σ}{n:Nat}(hs: ∀i,i<n→f i s=some (.next s)): ∀k j,n-j=k→loopN f k j s=some (.inr s)
 |0,j,hk=>by rw [loopN]
 |k+1,j,hk=>by
  rw [loopN,hs j (by omega)]
  exact MI hs k (j+1) (by omega)
theorem ab3{w:aF}{o:aC}(hw:wt w≤13000000)(hR:mP w o):wt (b5 w o)≤13000000:=by
 obtain⟨i,k,rfl,hi,hk⟩:=hR
 have:=aF.wt_eq w
 have:=cQ w.aB8 i hi
 have:=aM.wt_eq (aR w.aB8 i)
 have:=cQ (aR w.aB8 i).aCk k hk
 show wt (aR (aR w.aB8 i).aCk k)≤13000000
 omega
theorem akS{w:aF}{o:aC}(hw:wt w≤13000000)(hR:mP w o):wt (b5 w o).aCn≤13000000:=by
 have:=ab3 hw hR
 have:=aI.wt_eq (b5 w o)
 omega
theorem sC{w:aF}(hw:wt w≤13000000){o:aC}(ho:mP w o):Tr.bulkL (aA.tr (b5 w o).aCn)≤68719476735:=by rw [NP];exact Nat.le_trans (akS hw ho) (by decide)
end Go.Proofs.YtfcoaagbccmahaaGreat.W

namespace Go.Proofs.YtfcoaagbccmahaaGreat
open Go.RowKit
theorem A3.repM{ok:Nat→Nat→Prop}{w:World}{t:Tr}{v:Value}{S:Nat→Prop}(h:A3 w t v S)(hk: ∀b o,S b→b<w.heap.size→ok b o):cE ok w t v:=by
 induction h with
 |leaf h=>exact .leaf h
 |row c T h1 h2 h3 _ h5 h6 ih=>
  refine .row c h1 h2 (fun hne=>?_) (fun i e he j d hd=>ih i e he j d hd fun b o hb hl=>hk b o (h5 i e he j d hd b hb) hl)
  obtain⟨b,off,E,arr,ha,hb,hs,hc⟩:=h3 hne
  exact⟨b,off,ha,hb.lt,fun i e he j d hd=>⟨hk _ _ hs hb.lt,by rw [hb.cell];exact(hc i e he j d hd).1⟩⟩
theorem bQ.ofFresh{P:Program}{f:FuncId}{args:List PV}{t:Tr}(hfr:kO args=true)(h: ∀w vals,HJ w args vals→Calls P f ⟨vals⟩ w fun e w'=> ∃v,e= .returned v∧uR w w'∧A3 w' t v (NG w w')):bQ P f args (.t t):=fun av m w vals hst hv=>by
 refine(h w vals (kO.rv (fun b o _ _=>ok0 b o) args vals hfr hv)).mono fun e w'=>?_;rintro⟨v,rfl,hx,ho⟩
 refine⟨.t t,⟨[],[]⟩,m,v,rfl,⟨rfl,rfl⟩,fB.nil fun b o hb=>Nat.lt_of_lt_of_le (hst.avlt b o hb) hx.size,?_,?_⟩
 ·exact⟨hx.os,hx.tape,hx.output,hx.size,fun b hb _ _=>hx.block b hb,fun b o hb _=>jL (hx.block b hb),fun _ _ _ h=>h,fun _ _ h=>by simp at h,fun _ _ h=>by simp at h,fun _ _ h=>by simp at h,fun _ _ _ _ h=>by simp at h⟩
 ·exact ho.repM fun b o hb _=>⟨fun ha=>by have:=hst.avlt b o ha;have:=hb.1;omega,fun _ _ h=>by simp at h,fun _ _ _ _ h=>by simp at h⟩
end Go.Proofs.YtfcoaagbccmahaaGreat

namespace Go.Proofs.YtfcoaagbccmahaaGreat.W
set_option maxRecDepth 100000
set_option maxHeartbeats 40000000
noncomputable section
open Tryz Go.RowKit Go.Proofs
attribute [local irreducible] lt
abbrev n4:=aA→aA→Option Bool
abbrev dH:=(List aA)→(List aA)→Option Bool
def uY(m:n4):Prop:= ∀(pa:aA) (pb:aA) (r:Bool),m pa pb=some r→bQ Tryz.prog 95 [(aA.pv pa),(aA.pv pb)] (pB r:PV)
def hY(m:dH):Prop:= ∀(p8:List aA) (p9:List aA) (r:Bool),m p8 p9=some r→bQ Tryz.prog 144 [aT p8,aT p9,.fn 95 []] (pB r:PV)
def FJ(fu:Nat)(p1:n4)(p0:dH)(pa pb:aA):Option Bool:=sw (decide (pa.aCb=pb.aCb)) (sw (decide (pa.aB9=pb.aB9)) (bd (p0 pa.aCa pb.aCa) fun x4=>some x4) (some false)) (some false)
theorem TI(fu:Nat)(p1:n4)(p0:dH)(p5:uY p1)(p4:hY p0):uY (FJ fu p1 p0):=by
 intro pa pb r H
 refine qJ func95 H (fun C hC H=>?_)
 refine gQ 2 ?_;refine q1 (fD (bR pa)) (q1 (fD (bR pb)) ?_)
 refine gQ 10 ?_;refine dL 10 H (fun g1 H=>?_) fun g1 H=>?_
 ·refine gQ 7 ?_;refine dL 17 H (fun g2 H=>?_) fun g2 H=>?_
  ·refine gQ 4 ?_;refine bK H fun x4 z3 H=>(qg g2 (bE func144 (p4 pa.aCa pb.aCa _ z3)) ?_)
   exact gE 3
  exact gE 8
 exact gE 15
def jW(fu:Nat)(p1:n4)(p0:dH)(p8 p9:List aA):Nat→Unit→Option (LR Unit Bool):=fun i2 _=>gd (i2<(p9).length) (bd (p1 (aR p8 i2) (aR p9 i2)) fun x7=>sw (!(x7)) (some (.ret false)) (some (.next ())))
def jX(fu:Nat)(p1:n4)(p0:dH)(p8 p9:List aA):Option (Bool⊕Unit):=loopN (jW fu p1 p0 p8 p9) (p8.length-0) 0 ()
def hM(fu:Nat)(p1:n4)(p0:dH)(p8 p9:List aA):Option Bool:=sw (!decide ((p8.length:Int)=(p9.length:Int))) (some false) (so (jX fu p1 p0 p8 p9) fun _=>some true)
theorem uU(fu:Nat)(p1:n4)(p0:dH)(p5:uY p1)(p4:hY p0):hY (hM fu p1 p0):=by
 intro p8 p9 r H
 refine qJ func144 H (fun C hC H=>?_)
 refine gQ 13 ?_;refine bC H (fun h1 H=>gE 4) fun h1 H=>?_;refine gQ 8 ?_;refine gP 0 (aA.trs_len _) (fun hl3=>?_)
 refine bS (σ:=Unit) (fun i2 _=>⟨[(1,aT p9),(2,.fn 95 []),(6,pB false),(15,aT p8),(16,pN p8.length),(17,pN i2)],⟨[],[]⟩⟩) (fun _=>⟨[(6,pB false)],⟨[],[]⟩⟩) (eM H) ?_ ?_
 ·rintro i2 ⟨⟩ H
  refine gQ 5 ?_;refine cS H (fun h4 h4l H=>?_) (fun h4 H=>?_)
  ·refine gQ 7 ?_;refine q1 (iK (aA.cs (aR p8 i2))) ?_;refine gQ 8 ?_;refine cF H fun z5 H=>(q1 qQ (q1 (iK (aA.cs (aR p9 i2))) ?_))
   refine gQ 6 ?_;refine q1 (bZ [pI ((aR p8 i2).aCb),pS ((aR p8 i2).aB9),aT ((aR p8 i2).aCa)]) (q1 (bZ [pI ((aR p9 i2).aCb),pS ((aR p9 i2).aB9),aT ((aR p9 i2).aCa)]) (bK H fun x7 z6 H=>(q1 (rCv func95 (p5 (aR p8 i2) (aR p9 i2) _ z6)) ?_)))
   refine gQ 2 ?_;refine bC H (fun h8 H=>gE 4) fun h8 H=>?_;exact gE 5
  exact gE 0
 rintro⟨⟩ H
 exact gE 4
mutual
def gS:Nat→aA→aA→Option Bool
 |0,_,_=>none
 |fu+1,pa,pb=>FJ fu (gS fu) (bY fu) pa pb
def bY:Nat→(List aA)→(List aA)→Option Bool
 |0,_,_=>none
 |fu+1,p8,p9=>hM fu (gS fu) (bY fu) p8 p9
end
theorem VB(fu:Nat):uY (gS fu)∧hY (bY fu):=by
 induction fu with
 |zero=>exact⟨(fun pa pb r H=>by simp only [gS] at H;cases H),(fun p8 p9 r H=>by simp only [bY] at H;cases H)⟩
 |succ fu ih=>exact⟨(fun pa pb r H=>by simp only [gS] at H;exact TI fu (gS fu) (bY fu) ih.1 ih.2 pa pb r H),(fun p8 p9 r H=>by simp only [bY] at H;exact uU fu (gS fu) (bY fu) ih.1 ih.2 p8 p9 r H)⟩
theorem YD(fu:Nat):uY (gS fu):=(VB fu).1
abbrev rL:=aA→Option aA
abbrev n6:=(List aA)→Option ((List aA))
def xM(m:rL):Prop:= ∀(pt:aA) (r:aA),m pt=some r→bQ Tryz.prog 79 [(aA.pv pt)] ((aA.pv r):PV)
def zV(m:n6):Prop:= ∀(pl:List aA) (r:(List aA)),m pl=some r→bQ Tryz.prog 134 [aT pl] (aT r:PV)
def H5(fu:Nat)(p3:rL)(p2:n6)(pt:aA):Option aA:=bd (p2 pt.aCa) fun x2=>some (aA.mk pt.aCb pt.aB9 x2)
theorem VJ(fu:Nat)(p3:rL)(p2:n6)(p7:xM p3)(p6:zV p2):xM (H5 fu p3 p2):=by
 intro pt r H
 refine qJ func79 H (fun C hC H=>?_)
 refine gQ 2 ?_;refine q1 (fD (bR pt)) ?_;refine gQ 6 ?_;refine bK H fun x2 z1 H=>(q1 (bE func134 (p6 pt.aCa _ z1)) ?_)
 refine gQ 5 ?_;refine q1 (bZ [pI pt.aCb,pS pt.aB9,aT x2]) ?_;exact gE 2
def K2(fu:Nat)(p3:rL)(p2:n6)(pl:List aA):Nat→((List aA))→Option (LR ((List aA)) ((List aA))):=fun i2 v3=>bd (p3 (aR pl i2)) fun x7=>gd (i2=(v3).length) (some (.next (v3++([x7]:List aA))))
def DE(fu:Nat)(p3:rL)(p2:n6)(pl:List aA):Option (((List aA))⊕((List aA))):=loopN (K2 fu p3 p2 pl) (pl.length-0) 0 ([])
def FL(fu:Nat)(p3:rL)(p2:n6)(pl:List aA):Option ((List aA)):=gd (pl.length≤68719476736) (so (DE fu p3 p2 pl) fun v3=>gd ((v3).length=pl.length) (some v3))
theorem TJ(fu:Nat)(p3:rL)(p2:n6)(p7:xM p3)(p6:zV p2):zV (FL fu p3 p2):=by
 intro pl r H
 refine qJ func134 H (fun C hC H=>?_)
 refine gQ 8 ?_;refine cF H fun z1 H=>(q1 (bB.makeSlice (N:=pl.length) rfl rfl rfl rfl anX.h atI.h (by decide) (Nat.le_trans (Nat.mul_le_mul_left _ z1) (by decide)) (Nat.le_trans z1 (by decide))) ?_)
 refine gQ 9 ?_;refine gP 0 (aA.trs_len _) (fun hl4=>?_)
 refine bS (σ:=(List aA)) (fun i2 v3=>⟨[(2,.nil),(3,.full 3 (pl.length) 0),(9,aT pl),(10,pN pl.length),(11,pN i2)],⟨[],[⟨30,3,aA.trs (v3),true⟩]⟩⟩) (fun v3=>⟨[(2,.nil),(3,.full 3 (pl.length) 0)],⟨[],[⟨30,3,aA.trs (v3),true⟩]⟩⟩) (eM H) ?_ ?_
 ·rintro i2 v3 H
  refine gQ 5 ?_;refine cS H (fun h5 h5l H=>?_) (fun h5 H=>?_)
  ·refine gQ 7 ?_;refine q1 (iK (aA.cs (aR pl i2))) ?_;refine gQ 7 ?_;refine q1 (bZ [pI ((aR pl i2).aCb),pS ((aR pl i2).aB9),aT ((aR pl i2).aCa)]) (bK H fun x7 z6 H=>(q1 (bE func79 (p7 (aR pl i2) _ z6)) (q1 (bB.indexFull (k:=i2) rfl rfl rfl rfl h5l anX.h) (cF H fun z8 H=>?_))))
   refine q1 (bB.storeRptr (e:=aA.cs x7) (es2:=aA.trs (v3++([x7]:List aA))) 16 rfl rfl rfl rfl rfl rfl jK rfl rfl atC.h (by rw [aA.trs_len];exact z8) h5l (by rw [aA.trs_map,aA.trs_map,List.map_append];simp [aA.tr_cs])) ?_;exact gE 5
  exact gE 0
 rintro v3 H
 refine gQ 3 ?_;refine cF H fun z9 H=>?_;refine AL.weak (Wk.full (i:=22) rfl rfl (by rw [aA.trs_len];exact z9)) ?_;exact gE 2
mutual
def jM:Nat→aA→Option aA
 |0,_=>none
 |fu+1,pt=>H5 fu (jM fu) (kH fu) pt
def kH:Nat→(List aA)→Option ((List aA))
 |0,_=>none
 |fu+1,pl=>FL fu (jM fu) (kH fu) pl
end
theorem YG(fu:Nat):xM (jM fu)∧zV (kH fu):=by
 induction fu with
 |zero=>exact⟨(fun pt r H=>by simp only [jM] at H;cases H),(fun pl r H=>by simp only [kH] at H;cases H)⟩
 |succ fu ih=>exact⟨(fun pt r H=>by simp only [jM] at H;exact VJ fu (jM fu) (kH fu) ih.1 ih.2 pt r H),(fun pl r H=>by simp only [kH] at H;exact TJ fu (jM fu) (kH fu) ih.1 ih.2 pl r H)⟩
theorem ab1(fu:Nat):xM (jM fu):=(YG fu).1
end
end Go.Proofs.YtfcoaagbccmahaaGreat.W

namespace Go.Proofs.YtfcoaagbccmahaaGreat
open Go.RowKit Go.Proofs
theorem A7(a:ByteArray):(a==a)=true:=by
 obtain⟨x⟩:=a
 show(x==x)=true
 simp
theorem alZ{a b:ByteArray}(h:a.toList=b.toList):a=b:=by
 rw [ByteArray.toList_eq,ByteArray.toList_eq] at h
 obtain⟨⟨x⟩⟩:=a
 obtain⟨⟨y⟩⟩:=b
 have h:x=y:=h
 rw [h]
theorem FH{a b:ByteArray}(h: ¬a=b):(a==b)=false:=by
 obtain⟨x⟩:=a
 obtain⟨y⟩:=b
 show(x==y)=false
 simp only [beq_eq_false_iff_ne,ne_eq]
 rintro rfl
 exact h rfl
mutual
def aA.eq:aA→aA→Bool
 | .mk k n xs,.mk l m ys=>k==l&&(n==m&&aA.eqs xs ys)
def aA.eqs:List aA→List aA→Bool
 | [],[]=>true
 |a::l,b::r=>aA.eq a b&&aA.eqs l r
 |_,_=>false
end
def aG.eq:aG→aG→Bool
 | .mk n x,.mk m y=>n==m&&aA.eq x y
end Go.Proofs.YtfcoaagbccmahaaGreat

namespace Go.Proofs.YtfcoaagbccmahaaGreat.W
open Go.RowKit Go.Proofs
theorem ZW{n i:Nat}(h:i<n):aR (List.range n) i=i:=by rw [jO (by simpa using h)];simp
theorem abR: ∀ {l r:List aA},aA.eqs l r=true→l.length=r.length
 | [],[],_=>rfl
 | [],_::_,h=>by simp [aA.eqs] at h
 |_::_,[],h=>by simp [aA.eqs] at h
 |a::l,b::r,h=>by
  simp only [aA.eqs,Bool.and_eq_true] at h
  simp [abR h.2]
theorem P3: ∀ {l r:List aA},l.length=r.length→aA.eqs l r=(List.range l.length).all fun i=>aA.eq (aR l i) (aR r i)
 | [],[],_=>rfl
 | [],_::_,h=>by simp at h
 |_::_,[],h=>by simp at h
 |a::l,b::r,h=>by
  rw [aA.eqs,List.length_cons,List.range_succ_eq_map,List.all_cons,List.all_map,P3 (l:=l) (r:=r) (by simpa using h)]
  rfl
theorem aj6{xs ys:List aA}(h: ∀i,i<xs.length→i<ys.length→bP fun fu=>fI fu (aR xs i) (aR ys i)=some (aA.eq (aR xs i) (aR ys i))):bP fun fu=>k8 fu xs ys=some (aA.eqs xs ys):=by
 refine bP.succ ?_
 by_cases hl:xs.length=ys.length
 ·refine(bP.below (k:=xs.length) fun i hi=>h i hi (by omega)).imp fun fu hf=>?_
  simp only [k8,E6]
  have hd:(!decide ((((xs.length:Nat):Int):Int)=((ys.length:Nat):Int)))=false:=by simp [hl]
  rw [hd]
  have hr: ∀fu',∀(r1:aA→aA→Option Bool),(∀i,i<xs.length→r1 (aR xs i) (aR ys i)=some (aA.eq (aR xs i) (aR ys i)))→M8 fu' r1 (k8 fu) xs ys=some (if(List.range xs.length).all (fun i=>aA.eq (aR xs i) (aR ys i)) then .inr () else .inl false):=by
   intro fu' r1 h1
   unfold M8
   have:=SM (l:=List.range xs.length) (f:=M7 fu' r1 (k8 fu) xs ys) (p:=fun i=>aA.eq (aR xs i) (aR ys i)) (r:=false) (s:=()) fun i hi=>by
    have hi':i<xs.length:=by simpa using hi
    rw [ZW hi',M7]
    rw [iJ (by omega) rfl,gO (h1 i hi') rfl]
    cases aA.eq (aR xs i) (aR ys i)<;>rfl
   rwa [List.length_range] at this
  rw [hr fu _ hf,P3 hl]
  cases(List.range xs.length).all fun i=>aA.eq (aR xs i) (aR ys i)<;>rfl
 ·refine .all fun fu=>?_
  simp only [k8,E6]
  have hd:(!decide ((((xs.length:Nat):Int):Int)=((ys.length:Nat):Int)))=true:=by simp;omega
  rw [hd]
  cases hq:aA.eqs xs ys
  ·rfl
  ·exact absurd (abR hq) hl
theorem YV: ∀a b:aA,bP fun fu=>fI fu a b=some (aA.eq a b):=by
 refine aA.ind fun k n xs ih=>?_;rintro⟨l,m,ys⟩
 refine bP.succ ((aj6 (xs:=xs) (ys:=ys) fun i hi hj=>ih _ (cC hi) _).imp fun fu hf=>?_)
 simp only [fI,z0,aA.aCb.eq_1,aA.aB9.eq_1,aA.aCa.eq_1,hf,aA.eq]
 by_cases h1:k=l
 ·subst h1
  by_cases h2:n=m
  ·subst h2
   simp [sw,bd,A7]
  ·simp [sw,h2,FH]
 ·have:(k==l)=false:=by simpa using h1
  simp [sw,h1,this]
theorem nC(a b:aA):bQ Tryz.prog 38 [(aA.pv a),(aA.pv b)] (.t (.leaf (.bool (aA.eq a b)))):=by
 obtain⟨fu,h⟩:=(YV a b).get
 exact K4 fu a b _ h
theorem YA{xs ys:List aA}(h: ∀i,i<xs.length→i<ys.length→bP fun fu=>gS fu (aR xs i) (aR ys i)=some (aA.eq (aR xs i) (aR ys i))):bP fun fu=>bY fu xs ys=some (aA.eqs xs ys):=by
 refine bP.succ ?_
 by_cases hl:xs.length=ys.length
 ·refine(bP.below (k:=xs.length) fun i hi=>h i hi (by omega)).imp fun fu hf=>?_
  simp only [bY,hM]
  have hd:(!decide ((((xs.length:Nat):Int):Int)=((ys.length:Nat):Int)))=false:=by simp [hl]
  rw [hd]
  have hr:jX fu (gS fu) (bY fu) xs ys=some (if(List.range xs.length).all (fun i=>aA.eq (aR xs i) (aR ys i)) then .inr () else .inl false):=by
   unfold jX
   have:=SM (l:=List.range xs.length) (f:=jW fu (gS fu) (bY fu) xs ys) (p:=fun i=>aA.eq (aR xs i) (aR ys i)) (r:=false) (s:=()) fun i hi=>by
    have hi':i<xs.length:=by simpa using hi
    rw [ZW hi',jW]
    rw [iJ (by omega) rfl,gO (hf i hi') rfl]
    cases aA.eq (aR xs i) (aR ys i)<;>rfl
   rwa [List.length_range] at this
  rw [hr,P3 hl]
  cases(List.range xs.length).all fun i=>aA.eq (aR xs i) (aR ys i)<;>rfl
 ·refine .all fun fu=>?_
  simp only [bY,hM]
  have hd:(!decide ((((xs.length:Nat):Int):Int)=((ys.length:Nat):Int)))=true:=by simp;omega
  rw [hd]
  cases hq:aA.eqs xs ys
  ·rfl
  ·exact absurd (abR hq) hl
theorem YC: ∀a b:aA,bP fun fu=>gS fu a b=some (aA.eq a b):=by
 refine aA.ind fun k n xs ih=>?_;rintro⟨l,m,ys⟩
 refine bP.succ ((YA (xs:=xs) (ys:=ys) fun i hi hj=>ih _ (cC hi) _).imp fun fu hf=>?_)
 simp only [gS,FJ,aA.aCb.eq_1,aA.aB9.eq_1,aA.aCa.eq_1,hf,aA.eq]
 by_cases h1:k=l
 ·subst h1
  by_cases h2:n=m
  ·subst h2
   simp [sw,bd,A7]
  ·simp [sw,h2,FH]
 ·have:(k==l)=false:=by simpa using h1
  simp [sw,h1,this]
theorem DC(a b:aA):bQ Tryz.prog 95 [(aA.pv a),(aA.pv b)] (.t (.leaf (.bool (aA.eq a b)))):=by
 obtain⟨fu,h⟩:=(YC a b).get
 exact YD fu a b _ h
theorem U7{α:Type}: ∀(l a:List α),l.foldl (fun s x=>s++ [x]) a=a++l
 | [],a=>by simp
 |x::l,a=>by rw [List.foldl_cons,U7 l];simp
theorem anU{xs:List aA}: ∀ {x:aA},x∈xs→Tr.bulkL x.tr≤Tr.bulkAll (aA.trs xs):=by
 induction xs with
 |nil=>intro x hx;simp at hx
 |cons a l ih=>
  intro x hx
  simp only [aA.trs,Tr.bulkAll]
  rcases List.mem_cons.1 hx with rfl|hx
  ·omega
  ·have:=ih hx;omega
theorem PZ(k:Int)(n:ByteArray)(xs:List aA):xs.length+Tr.bulkAll (aA.trs xs)≤Tr.bulkL (aA.mk k n xs).tr:=by
 simp only [aA.tr,Tr.bulkL_append,Tr.bulkL,Tr.bulk,aA.trs_len]
 omega
mutual
def Gd(U:LB):aA→Prop
 | .mk k n xs=>(k=1→n∈U)∧xs.length≤68719476735∧GdL U xs
def GdL(U:LB):List aA→Prop
 | []=>True
 |x::l=>Gd U x∧GdL U l
end
theorem w9{U:LB}: ∀ {l:List aA},GdL U l↔ ∀x∈l,Gd U x
 | []=>by simp [GdL]
 |a::l=>by rw [GdL,w9 (l:=l)];simp
theorem Gd.args{U:LB}{t x:aA}(h:x∈t.aCa)(ht:Gd U t):Gd U x:=by
 obtain⟨k,n,xs⟩:=t
 rw [Gd] at ht
 exact w9.1 ht.2.2 x h
theorem Gd.mono{U V:LB}(hs: ∀x∈U,x∈V): ∀t:aA,Gd U t→Gd V t:=by
 refine aA.ind fun k n xs ih h=>?_
 rw [Gd] at h ⊢
 exact⟨fun hk=>hs _ (h.1 hk),h.2.1,w9.2 fun x hx=>ih x hx (w9.1 h.2.2 x hx)⟩
def iG(t:aA):Prop:= ∃U:LB,U.length≤68719476736∧Gd U t
theorem A5{t x:aA}(h:x∈t.aCa):iG t→iG x:=fun⟨U,hU,ht⟩=>⟨U,hU,ht.args h⟩
theorem iG.len{k:Int}{n:ByteArray}{xs:List aA}(h:iG (.mk k n xs)):xs.length≤68719476735:=by
 obtain⟨U,_,h⟩:=h
 rw [Gd] at h
 exact h.2.1
mutual
def FW:aA→LB
 | .mk _ n xs=>n::aiR xs
def aiR:List aA→LB
 | []=> []
 |x::l=>FW x++aiR l
end
theorem afL{x:aA}: ∀ {l:List aA},x∈l→ ∀n∈FW x,n∈aiR l
 |a::l,h,n,hn=>by
  rw [aiR]
  rcases List.mem_cons.1 h with rfl|h
  ·exact List.mem_append.2 (.inl hn)
  ·exact List.mem_append.2 (.inr (afL h n hn))
theorem afK: ∀(l:List aA),(∀x∈l,(FW x).length≤1+Tr.bulkL x.tr)→(aiR l).length≤l.length+Tr.bulkAll (aA.trs l)
 | [],_=>by simp [aiR]
 |x::l,h=>by
  have h1:=h x (by simp)
  have h2:=afK l fun y hy=>h y (List.mem_cons_of_mem _ hy)
  simp only [aiR,aA.trs,Tr.bulkAll,List.length_append,List.length_cons]
  omega
theorem afM: ∀t:aA,(FW t).length≤1+Tr.bulkL t.tr:=by
 refine aA.ind fun k n xs ih=>?_
 have h1:=afK xs ih
 have h2:=PZ k n xs
 rw [FW,List.length_cons]
 omega
theorem Gd.own: ∀t:aA,Tr.bulkL t.tr≤68719476735→Gd (FW t) t:=by
 refine aA.ind fun k n xs ih hb=>?_
 have h1:=PZ k n xs
 rw [Gd,FW]
 refine⟨fun _=>List.mem_cons_self ..,by omega,w9.2 fun x hx=>?_⟩
 exact(ih x hx (by have:=anU hx;omega)).mono (fun y hy=>List.mem_cons_of_mem _ (afL hx y hy)) x
theorem iG.of{t:aA}(h:Tr.bulkL t.tr≤68719476735):iG t:=⟨FW t,by have:=afM t;omega,Gd.own t h⟩
theorem adN{xs:List aA}(hb:xs.length≤68719476735)(h: ∀x∈xs,bP fun fu=>iF fu x=some x):bP fun fu=>iE fu xs=some xs:=by
 refine bP.succ ((bP.list h).imp fun fu hf=>?_)
 simp only [iE,yG]
 rw [kR (l:=xs) (g:=fun s x=>s++ [x]) (fun i s=>s.length=i) (fun i s hi hp=>⟨?_,by simp [hp]⟩) rfl,U7]
 ·rfl
 ·rw [GJ,gO (hf _ (cC hi)) rfl,iJ (by simp;omega) rfl]
theorem ajZ: ∀t:aA,iG t→bP fun fu=>iF fu t=some t:=by
 refine aA.ind fun k n xs ih hb=>?_
 have h1:=hb.len
 refine bP.succ ((adN (xs:=xs) h1 fun x hx=>ih x hx (A5 (t:= .mk k n xs) hx hb)).imp fun fu hf=>?_)
 simp only [iF,JZ,aA.aCb.eq_1,aA.aB9.eq_1,aA.aCa.eq_1,hf,bd]
theorem GK(t:aA)(hb:iG t):bQ Tryz.prog 56 [(aA.pv t)] (aA.pv t):=by
 obtain⟨fu,h⟩:=(ajZ t hb).get
 exact XJ fu t _ h
theorem MH{α β:Type}[Inhabited α]{f:Nat→List α→Option (LR (List α) β)}{l:List α}{g:α→α}(hs: ∀i s,i<l.length→s.length=i→f i s=some (.next (s++ [g (aR l i)]))):loopN f (l.length-0) 0 []=some (.inr (l.map g)):=by
 rw [kR (l:=l) (g:=fun s x=>s++ [g x]) (fun i s=>s.length=i) (fun i s hi hp=>⟨hs i s hi hp,by simp [hp]⟩) rfl]
 have key: ∀(l a:List α),l.foldl (fun s x=>s++ [g x]) a=a++l.map g:=by
  intro l
  induction l with
  |nil=>intro a;simp
  |cons x l ih=>intro a;rw [List.foldl_cons,ih];simp
 rw [key,List.nil_append]
theorem YH{xs:List aA}(hb:xs.length≤68719476735)(h: ∀x∈xs,bP fun fu=>jM fu x=some x):bP fun fu=>kH fu xs=some xs:=by
 refine bP.succ ((bP.list h).imp fun fu hf=>?_)
 simp only [kH,FL]
 rw [iJ (by omega) rfl]
 have hR:DE fu (jM fu) (kH fu) xs=some (.inr xs):=by
  unfold DE
  rw [MH (l:=xs) (g:=id) fun i s hi hp=>?_,List.map_id]
  rw [K2,gO (hf _ (cC hi)) rfl,iJ (by omega) rfl]
  rfl
 rw [X0 hR rfl,iJ rfl rfl]
theorem ab0: ∀t:aA,iG t→bP fun fu=>jM fu t=some t:=by
 refine aA.ind fun k n xs ih hb=>?_
 have h1:=hb.len
 refine bP.succ ((YH (xs:=xs) h1 fun x hx=>ih x hx (A5 (t:= .mk k n xs) hx hb)).imp fun fu hf=>?_)
 simp only [jM,H5,aA.aCb.eq_1,aA.aB9.eq_1,aA.aCa.eq_1,hf,bd]
theorem zU(t:aA)(hb:iG t):bQ Tryz.prog 79 [(aA.pv t)] (aA.pv t):=by
 obtain⟨fu,h⟩:=(ab0 t hb).get
 exact ab1 fu t _ h
end Go.Proofs.YtfcoaagbccmahaaGreat.W

namespace Go.Proofs.YtfcoaagbccmahaaGreat.W
set_option maxRecDepth 100000
set_option maxHeartbeats 40000000
noncomputable section
open Tryz Go.RowKit Go.Proofs
attribute [local irreducible] lt
def WJ(fu:Nat)(p0:List aK)(pv:ByteArray):Nat→Unit→Option (LR Unit (aA×Bool)):=fun i1 _=>sw (decide ((aR p0 i1).aCN=pv)) (gd (iG ((aR p0 i1).aCd)) (some (.ret (((aR p0 i1).aCd),true)))) (some (.next ()))
def JO(fu:Nat)(p0:List aK)(pv:ByteArray):Option (aA×Bool):=so (loopN (WJ fu p0 pv) (p0.length-0) 0 ()) fun _=>some ((aA.mk 0 s_ []),false)
theorem WL(fu:Nat)(p0:List aK)(pv:ByteArray)(r:aA×Bool)(H:JO fu p0 pv=some r):bQ Tryz.prog 151 [fL p0,pS pv] (.tup [(aA.pv r.1),pB r.2]):=by
 refine qJ func151 H (fun C hC H=>?_)
 refine gQ 10 ?_;refine gP 0 (aK.trs_len _) (fun hl2=>?_)
 refine bS (σ:=Unit) (fun i1 _=>⟨[(0,fL p0),(1,pS pv),(4,.ptr 0 0),(5,pB false),(6,pN i1)],⟨[some ⟨30,[pI 0,pS s_,.nil]⟩],[]⟩⟩) (fun _=>⟨[(4,.ptr 0 0),(5,pB false)],⟨[some ⟨30,[pI 0,pS s_,.nil]⟩],[]⟩⟩) (eM H) ?_ ?_
 ·rintro i1 ⟨⟩ H
  refine gQ 8 ?_;refine cS H (fun h3 h3l H=>?_) (fun h3 H=>?_)
  ·refine gQ 13 ?_;refine bC H (fun h4 H=>?_) (fun h4 H=>?_)
   ·refine gQ 6 ?_;refine q1 (iK (aA.cs ((aR p0 i1).aCd))) (cF H fun z5 H=>(q1 (bE func56 (GK ((aR p0 i1).aCd) z5)) ?_))
    exact gE 3
   exact gE 6
  exact gE 0
 rintro⟨⟩ H
 exact gE 6
abbrev E7:=(List aA)→(List aA)→(List aK)→Option ((List aK)×Bool×(List aK))
abbrev w6:=aA→aA→(List aK)→Option ((List aK)×Bool×(List aK))
def I0(m:E7):Prop:= ∀(pp:List aA) (p2:List aA) (p0:List aK) (r:(List aK)×Bool×(List aK)),m pp p2 p0=some r→b6 Tryz.prog 212 [aT pp,aT p2,lV p0 0] ⟨[],[⟨44,4,aK.trs (p0),false⟩]⟩ (fun q t=>q=(.tup [(bif r.2.1 then .acc 4 (aK.trs (r.1)) 0 else .t (.row 4 (aK.trs (r.1)))),pB r.2.1]:PV)∧t=⟨[],[⟨44,4,aK.trs (r.2.2),false⟩]⟩)
def GL(m:w6):Prop:= ∀(pp:aA) (pt:aA) (p0:List aK) (r:(List aK)×Bool×(List aK)),m pp pt p0=some r→b6 Tryz.prog 233 [(aA.pv pp),(aA.pv pt),lV p0 0] ⟨[],[⟨44,4,aK.trs (p0),false⟩]⟩ (fun q t=>q=(.tup [(bif r.2.1 then .acc 4 (aK.trs (r.1)) 0 else .t (.row 4 (aK.trs (r.1)))),pB r.2.1]:PV)∧t=⟨[],[⟨44,4,aK.trs (r.2.2),false⟩]⟩)
def R8(fu:Nat)(p4:E7)(p3:w6)(pp p2:List aA)(p0:List aK):Nat→((List aK))→Option (LR ((List aK)) ((List aK)×Bool×(List aK))):=fun i1 v3=>gd (i1<(p2).length) (bd (p3 (aR pp i1) (aR p2 i1) v3) fun(x8,x9,x10)=>sw x9 (gd (x8=x10) (some (.next x8))) (some (.ret (v3,false,x10))))
def XP(fu:Nat)(p4:E7)(p3:w6)(pp p2:List aA)(p0:List aK):Option ((List aK)×Bool×(List aK)):=so (loopN (R8 fu p4 p3 pp p2 p0) (pp.length-0) 0 p0) fun v3=>some (v3,true,v3)
theorem ahF(fu:Nat)(p4:E7)(p3:w6)(p8:I0 p4)(p7:GL p3):I0 (XP fu p4 p3):=by
 intro pp p2 p0 r H
 refine qJ func212 H (fun C hC H=>?_)
 refine gQ 10 ?_;refine gP 0 (aA.trs_len _) (fun hl4=>?_)
 refine bS (σ:=(List aK)) (fun i1 v3=>⟨[(0,aT pp),(1,aT p2),(2,lV v3 0),(6,.nil),(7,pB false),(8,pN i1)],⟨[],[⟨44,4,aK.trs (v3),false⟩]⟩⟩) (fun v3=>⟨[(2,lV v3 0),(6,.nil),(7,pB false)],⟨[],[⟨44,4,aK.trs (v3),false⟩]⟩⟩) (eM H) ?_ ?_
 ·rintro i1 v3 H
  refine gQ 8 ?_;refine cS H (fun h5 h5l H=>?_) (fun h5 H=>?_)
  ·refine gQ 4 ?_;refine cF H fun z6 H=>(LU H fun x8 x9 x10 z7 H=>?_)
   cases x9
   ·have H:=s8 H rfl
    refine dW (dI [0] bF (dI [8] bF (dI [18,19] qQ (dI [20] (iK (aA.cs (aR pp i1))) (dI [1] bF (dI [8] bF (dI [22,23] qQ (dI [24] (iK (aA.cs (aR p2 i1))) (dI [2] bF (dE [21,25,26] (eW [] [0] func233 (p7 (aR pp i1) (aR p2 i1) v3 _ z7)) (dI [27] bF ?_)))))))))))
    iterate 2 refine dI [17] YN ?_
    refine dI [28] bF (dI [29] bF (dN ?_))
    refine gQ 6 ?_;refine aiA (congrArg (fun b=> !b) (rfl:false=false)) ?_;exact gE 6
   have H:=s9 H rfl
   obtain⟨z11,H1⟩:=gdI H
   subst z11
   have H:=H1
   refine dW (dI [0] bF (dI [8] bF (dI [18,19] qQ (dI [20] (iK (aA.cs (aR pp i1))) (dI [1] bF (dI [8] bF (dI [22,23] qQ (dI [24] (iK (aA.cs (aR p2 i1))) (dI [2] bF (dE [21,25,26] (eW [] [0] func233 (p7 (aR pp i1) (aR p2 i1) v3 _ z7)) (dI [27] bF ?_)))))))))))
   iterate 2 refine dI [17] YN ?_
   refine dI [28] bF (dI [29] bF (dN ?_))
   refine gQ 6 ?_;refine U2 (congrArg (fun b=> !b) (rfl:true=true)) ?_;exact gE 10
  exact gE 0
 rintro v3 H
 exact gE 6
def NA(fu:Nat)(p4:E7)(p3:w6)(pp pt:aA)(p0:List aK):Option ((List aK)×Bool×(List aK)):=sw (decide (pp.aCb=1)) (bd (JO fu p0 pp.aB9) fun(x3,x4)=>sw x4 (sw (aA.eq x3 pt) (some (p0,(aA.eq x3 pt),p0)) (some (p0,(aA.eq x3 pt),p0))) (gd (iG pt) (gd ((p0).length+(([(aK.mk pp.aB9 pt)]:List aK)).length≤68719476736) (some ((p0++([(aK.mk pp.aB9 pt)]:List aK)),true,(p0++([(aK.mk pp.aB9 pt)]:List aK))))))) (sw (!decide (pp.aCb=pt.aCb)) (some (p0,false,p0)) (sw (!decide (pp.aB9=pt.aB9)) (some (p0,false,p0)) (sw (!decide ((pp.aCa.length:Int)=(pt.aCa.length:Int))) (some (p0,false,p0)) (bd (p4 pp.aCa pt.aCa p0) fun(x13,x14,x15)=>sw x14 (gd (x13=x15) (some (x13,true,x13))) (some (x13,false,x15))))))
theorem ZN(fu:Nat)(p4:E7)(p3:w6)(p8:I0 p4)(p7:GL p3):GL (NA fu p4 p3):=by
 intro pp pt p0 r H
 refine qJ func233 H (fun C hC H=>?_)
 refine gQ 2 ?_;refine q1 (fD (bR pp)) (q1 (fD (bR pt)) ?_)
 refine gQ 10 ?_;refine bC H (fun h1 H=>?_) (fun h1 H=>?_)
 ·refine gQ 5 ?_;refine dU H fun x3 x4 z2 H=>(q1 (bE func151 (WL fu p0 pp.aB9 _ z2)) ?_)
  refine gQ 12 ?_;refine bC H (fun h5 H=>?_) (fun h5 H=>?_)
  ·refine gQ 3 ?_;refine q1 (bZ [pI x3.aCb,pS x3.aB9,aT x3.aCa]) (q1 (bZ [pI pt.aCb,pS pt.aB9,aT pt.aCa]) (q1 (bE func38 (nC x3 pt)) ?_))
   refine gQ 3 ?_;refine cV.ret ?_
   rcases o3 (aA.eq x3 pt) with g6|g6
   ·have H:=s9 H g6
    cases vP H
    exact qe2 (hle:=by rw [g6];exact jK) (hk:=by rw [g6];rfl)
   have H:=s8 H g6
   cases vP H
   exact qe2 (hle:=by rw [g6];exact jK) (hk:=by rw [g6];rfl)
  refine gQ 2 ?_;refine cF H fun z7 H=>(cF H fun z8 H=>(dW (dI [2] bF (dI [3] bW (dD [26] eE (dD [4] (bZ [pI pt.aCb,pS pt.aB9,aT pt.aCa]) (dI [28] (bE func56 (GK pt z7)) (dI [27,29] r9 (dI [30] (hH ([(aK.mk pp.aB9 pt)]:List aK)) (dE [25,31] (lE z8) (dI [32] bF (dI [] bF (dN ?_)))))))))))))
  exact gE 0
 refine gQ 10 ?_;refine dL 38 H (fun g9 H=>gE 23) fun g9 H=>?_;refine gQ 7 ?_;refine dL 45 H (fun g10 H=>gE 16) fun g10 H=>?_;refine gQ 9 ?_;refine bC H (fun h11 H=>gE 6) fun h11 H=>?_;refine gQ 8 ?_;refine LU H fun x13 x14 x15 z12 H=>?_
 cases x14
 ·have H:=s8 H rfl
  refine q1 (eW [] [0] func212 (p8 pp.aCa pt.aCa p0 _ z12)) ?_;exact gE 5
 have H:=s9 H rfl
 obtain⟨z16,H1⟩:=gdI H
 subst z16
 have H:=H1
 refine q1 (eW [] [0] func212 (p8 pp.aCa pt.aCa p0 _ z12)) ?_;exact gE 5
mutual
def pY:Nat→(List aA)→(List aA)→(List aK)→Option ((List aK)×Bool×(List aK))
 |0,_,_,_=>none
 |fu+1,pp,p2,p0=>XP fu (pY fu) (nI fu) pp p2 p0
def nI:Nat→aA→aA→(List aK)→Option ((List aK)×Bool×(List aK))
 |0,_,_,_=>none
 |fu+1,pp,pt,p0=>NA fu (pY fu) (nI fu) pp pt p0
end
theorem akE(fu:Nat):I0 (pY fu)∧GL (nI fu):=by
 induction fu with
 |zero=>exact⟨(fun pp p2 p0 r H=>by simp only [pY] at H;cases H),(fun pp pt p0 r H=>by simp only [nI] at H;cases H)⟩
 |succ fu ih=>exact⟨(fun pp p2 p0 r H=>by simp only [pY] at H;exact ahF fu (pY fu) (nI fu) ih.1 ih.2 pp p2 p0 r H),(fun pp pt p0 r H=>by simp only [nI] at H;exact ZN fu (pY fu) (nI fu) ih.1 ih.2 pp pt p0 r H)⟩
theorem aaY(fu:Nat):I0 (pY fu):=(akE fu).1
def CR(fu:Nat)(pp p2:List aA):Option ((List aK)×Bool):=sw (!decide ((pp.length:Int)=(p2.length:Int))) (some (([]),false)) (bd (pY fu pp p2 ([])) fun(x3,x4,x5)=>sw x4 (gd (x3=x5) (some (x3,true))) (some (([]),false)))
theorem acK(fu:Nat)(pp:List aA)(p2:List aA)(r:(List aK)×Bool)(H:CR fu pp p2=some r):bQ Tryz.prog 187 [aT pp,aT p2] (.tup [fL r.1,pB r.2]):=by
 refine qJ func187 H (fun C hC H=>?_)
 refine gQ 14 ?_;refine bC H (fun h1 H=>?_) (fun h1 H=>?_)
 ·refine gQ 2 ?_;refine q1 (qP ([]:List aK)) ?_;exact gE 3
 refine gQ 5 ?_;refine q1 (qP ([]:List aK)) (LU H fun x3 x4 x5 z2 H=>?_)
 cases x4
 ·have H:=s8 H rfl
  refine q1 (eW [] [0] func212 (aaY fu pp p2 ([]) _ z2)) ?_;refine gQ 12 ?_;refine aiA (congrArg (fun b=> !b) (rfl:false=false)) ?_;refine gQ 2 ?_;refine q1 (qP ([]:List aK)) ?_;exact gE 3
 have H:=s9 H rfl
 obtain⟨z6,H1⟩:=gdI H
 subst z6
 have H:=H1
 refine q1 (eW [] [0] func212 (aaY fu pp p2 ([]) _ z2)) ?_;refine gQ 12 ?_;refine U2 (congrArg (fun b=> !b) (rfl:true=true)) ?_;exact gE 7
def OX(fu:Nat)(pp pt:aA):Option ((List aK)×Bool):=bd (CR fu ([pp]:List aA) ([pt]:List aA)) fun(x2,x3)=>some (x2,x3)
theorem aaP(fu:Nat)(pp:aA)(pt:aA)(r:(List aK)×Bool)(H:OX fu pp pt=some r):bQ Tryz.prog 161 [(aA.pv pp),(aA.pv pt)] (.tup [fL r.1,pB r.2]):=by
 refine qJ func161 H (fun C hC H=>?_)
 refine gQ 2 ?_;refine q1 (fD (bR pp)) (q1 (fD (bR pt)) ?_)
 refine gQ 5 ?_;refine q1 (bZ [pI pp.aCb,pS pp.aB9,aT pp.aCa]) (q1 (hH ([pp]:List aA)) (q1 (bZ [pI pt.aCb,pS pt.aB9,aT pt.aCa]) (q1 (hH ([pt]:List aA)) (dU H fun x2 x3 z1 H=>(q1 (bE func187 (acK fu ([pp]:List aA) ([pt]:List aA) _ z1)) ?_)))))
 exact gE 5
def WM(fu:Nat)(pp pt:aA):Option Bool:=bd (OX fu pp pt) fun(x2,x3)=>some x3
theorem afY(fu:Nat)(pp:aA)(pt:aA)(r:Bool)(H:WM fu pp pt=some r):bQ Tryz.prog 210 [(aA.pv pp),(aA.pv pt)] (pB r):=by
 refine qJ func210 H (fun C hC H=>?_)
 refine gQ 2 ?_;refine q1 (fD (bR pp)) (q1 (fD (bR pt)) ?_)
 refine gQ 4 ?_;refine q1 (bZ [pI pp.aCb,pS pp.aB9,aT pp.aCa]) (q1 (bZ [pI pt.aCb,pS pt.aB9,aT pt.aCa]) (dU H fun x2 x3 z1 H=>(q1 (bE func161 (aaP fu pp pt _ z1)) ?_)))
 exact gE 11
def VD(fu:Nat)(p0:List aK)(pv:ByteArray):Nat→Unit→Option (LR Unit (aA×Bool)):=fun i1 _=>sw (decide ((aR p0 i1).aCN=pv)) (gd (iG ((aR p0 i1).aCd)) (some (.ret (((aR p0 i1).aCd),true)))) (some (.next ()))
def EI(fu:Nat)(p0:List aK)(pv:ByteArray):Option (aA×Bool):=so (loopN (VD fu p0 pv) (p0.length-0) 0 ()) fun _=>some ((aA.mk 0 s_ []),false)
theorem VF(fu:Nat)(p0:List aK)(pv:ByteArray)(r:aA×Bool)(H:EI fu p0 pv=some r):bQ Tryz.prog 59 [fL p0,pS pv] (.tup [(aA.pv r.1),pB r.2]):=by
 refine qJ func59 H (fun C hC H=>?_)
 refine gQ 12 ?_;refine gP 0 (aK.trs_len _) (fun hl2=>?_)
 refine bS (σ:=Unit) (fun i1 _=>⟨[(1,pS pv),(4,.ptr 0 0),(5,pB false),(8,fL p0),(9,pN p0.length),(10,pN i1)],⟨[some ⟨30,[pI 0,pS s_,.nil]⟩],[]⟩⟩) (fun _=>⟨[(4,.ptr 0 0),(5,pB false)],⟨[some ⟨30,[pI 0,pS s_,.nil]⟩],[]⟩⟩) (eM H) ?_ ?_
 ·rintro i1 ⟨⟩ H
  refine gQ 5 ?_;refine cS H (fun h3 h3l H=>?_) (fun h3 H=>?_)
  ·refine gQ 6 ?_;refine q1 (iK (aK.cs (aR p0 i1))) ?_;refine gQ 10 ?_;refine bC H (fun h4 H=>?_) (fun h4 H=>?_)
   ·refine gQ 3 ?_;refine q1 (bZ [pI (((aR p0 i1).aCd).aCb),pS (((aR p0 i1).aCd).aB9),aT (((aR p0 i1).aCd).aCa)]) (cF H fun z5 H=>(q1 (bE func79 (zU ((aR p0 i1).aCd) z5)) ?_))
    exact gE 3
   exact gE 5
  exact gE 0
 rintro⟨⟩ H
 exact gE 6
abbrev uE:=(List aK)→(List aA)→(List aA)→Option ((List aK)×Bool×(List aK))
abbrev EJ:=(List aK)→aA→aA→Option ((List aK)×Bool×(List aK))
def xP(m:uE):Prop:= ∀(ps:List aK) (pp:List aA) (p2:List aA) (r:(List aK)×Bool×(List aK)),m ps pp p2=some r→b6 Tryz.prog 159 [lV ps 0,aT pp,aT p2] ⟨[],[⟨44,4,aK.trs (ps),false⟩]⟩ (fun q t=>q=(.tup [(bif r.2.1 then .acc 4 (aK.trs (r.1)) 0 else .t (.row 4 (aK.trs (r.1)))),pB r.2.1]:PV)∧t=⟨[],[⟨44,4,aK.trs (r.2.2),false⟩]⟩)
def OG(m:EJ):Prop:= ∀(ps:List aK) (pp:aA) (pt:aA) (r:(List aK)×Bool×(List aK)),m ps pp pt=some r→b6 Tryz.prog 184 [lV ps 0,(aA.pv pp),(aA.pv pt)] ⟨[],[⟨44,4,aK.trs (ps),false⟩]⟩ (fun q t=>q=(.tup [(bif r.2.1 then .acc 4 (aK.trs (r.1)) 0 else .t (.row 4 (aK.trs (r.1)))),pB r.2.1]:PV)∧t=⟨[],[⟨44,4,aK.trs (r.2.2),false⟩]⟩)
def zW(fu:Nat)(p1:uE)(p5:EJ)(ps:List aK)(pp p2:List aA):Nat→((List aK))→Option (LR ((List aK)) ((List aK)×Bool×(List aK))):=fun i2 v4=>gd (i2<(p2).length) (bd (p5 v4 (aR pp i2) (aR p2 i2)) fun(x9,x10,x11)=>sw x10 (gd (x9=x11) (some (.next x9))) (some (.ret ([],false,x11))))
def xO(fu:Nat)(p1:uE)(p5:EJ)(ps:List aK)(pp p2:List aA):Option ((List aK)×Bool×(List aK)):=sw (!decide ((pp.length:Int)=(p2.length:Int))) (some ([],false,ps)) (so (loopN (zW fu p1 p5 ps pp p2) (pp.length-0) 0 ps) fun v4=>some (v4,true,v4))
theorem VM(fu:Nat)(p1:uE)(p5:EJ)(p6:xP p1)(p9:OG p5):xP (xO fu p1 p5):=by
 intro ps pp p2 r H
 refine qJ func159 H (fun C hC H=>?_)
 refine gQ 14 ?_;refine bC H (fun h1 H=>gE 5) fun h1 H=>?_;refine gQ 8 ?_;refine gP 1 (aA.trs_len _) (fun hl5=>?_)
 refine bS (σ:=(List aK)) (fun i2 v4=>⟨[(0,lV v4 0),(1,aT pp),(2,aT p2),(6,.nil),(7,pB false),(17,pN pp.length),(18,pN i2)],⟨[],[⟨44,4,aK.trs (v4),false⟩]⟩⟩) (fun v4=>⟨[(0,lV v4 0),(6,.nil),(7,pB false)],⟨[],[⟨44,4,aK.trs (v4),false⟩]⟩⟩) (eM H) ?_ ?_
 ·rintro i2 v4 H
  refine gQ 5 ?_;refine cS H (fun h6 h6l H=>?_) (fun h6 H=>?_)
  ·refine gQ 9 ?_;refine cF H fun z7 H=>(LU H fun x9 x10 x11 z8 H=>?_)
   cases x10
   ·have H:=s8 H rfl
    refine dW (dI [0] bF (dI [1] bF (dI [8] bF (dI [23,24] qQ (dI [25] (iK (aA.cs (aR pp i2))) (dI [2] bF (dI [8] bF (dI [27,28] qQ (dI [29] (iK (aA.cs (aR p2 i2))) (dE [22,26,30] (eW [] [0] func184 (p9 v4 (aR pp i2) (aR p2 i2) _ z8)) (dI [31] bF ?_)))))))))))
    iterate 2 refine dI [21] YN ?_
    refine dI [32] bF (dI [33] bF (dN ?_))
    refine gQ 6 ?_;refine aiA (congrArg (fun b=> !b) (rfl:false=false)) ?_;exact gE 5
   have H:=s9 H rfl
   obtain⟨z12,H1⟩:=gdI H
   subst z12
   have H:=H1
   refine dW (dI [0] bF (dI [1] bF (dI [8] bF (dI [23,24] qQ (dI [25] (iK (aA.cs (aR pp i2))) (dI [2] bF (dI [8] bF (dI [27,28] qQ (dI [29] (iK (aA.cs (aR p2 i2))) (dE [22,26,30] (eW [] [0] func184 (p9 v4 (aR pp i2) (aR p2 i2) _ z8)) (dI [31] bF ?_)))))))))))
   iterate 2 refine dI [21] YN ?_
   refine dI [32] bF (dI [33] bF (dN ?_))
   refine gQ 6 ?_;refine U2 (congrArg (fun b=> !b) (rfl:true=true)) ?_;exact gE 9
  exact gE 0
 rintro v4 H
 exact gE 6
def VN(fu:Nat)(p1:uE)(p5:EJ)(ps:List aK)(pp pt:aA):Option ((List aK)×Bool×(List aK)):=sw (decide (pp.aCb=1)) (bd (EI fu ps pp.aB9) fun(x3,x4)=>sw x4 (sw (aA.eq x3 pt) (some (ps,(aA.eq x3 pt),ps)) (some (ps,(aA.eq x3 pt),ps))) (gd (iG pt) (gd ((ps).length+(([(aK.mk pp.aB9 pt)]:List aK)).length≤68719476736) (some ((ps++([(aK.mk pp.aB9 pt)]:List aK)),true,(ps++([(aK.mk pp.aB9 pt)]:List aK))))))) (sw (!decide (pp.aCb=pt.aCb)) (some ([],false,ps)) (sw (!decide (pp.aB9=pt.aB9)) (some ([],false,ps)) (bd (p1 ps pp.aCa pt.aCa) fun(x12,x13,x14)=>sw x13 (gd (x12=x14) (some (x12,true,x12))) (some (x12,false,x14)))))
theorem ae8(fu:Nat)(p1:uE)(p5:EJ)(p6:xP p1)(p9:OG p5):OG (VN fu p1 p5):=by
 intro ps pp pt r H
 refine qJ func184 H (fun C hC H=>?_)
 refine gQ 2 ?_;refine q1 (fD (bR pp)) (q1 (fD (bR pt)) ?_)
 refine gQ 10 ?_;refine bC H (fun h1 H=>?_) (fun h1 H=>?_)
 ·refine gQ 6 ?_;refine dU H fun x3 x4 z2 H=>(q1 (bE func59 (VF fu ps pp.aB9 _ z2)) ?_)
  refine gQ 11 ?_;refine bC H (fun h5 H=>?_) (fun h5 H=>?_)
  ·refine gQ 3 ?_;refine q1 (bZ [pI x3.aCb,pS x3.aB9,aT x3.aCa]) (q1 (bZ [pI pt.aCb,pS pt.aB9,aT pt.aCa]) (q1 (bE func95 (DC x3 pt)) ?_))
   refine gQ 3 ?_;refine cV.ret ?_
   rcases o3 (aA.eq x3 pt) with g6|g6
   ·have H:=s9 H g6
    cases vP H
    exact qe2 (hle:=by rw [g6];exact jK) (hk:=by rw [g6];rfl)
   have H:=s8 H g6
   cases vP H
   exact qe2 (hle:=by rw [g6];exact jK) (hk:=by rw [g6];rfl)
  refine gQ 2 ?_;refine cF H fun z7 H=>(cF H fun z8 H=>(dW (dI [0] bF (dI [4] bW (dD [26] eE (dD [5] (bZ [pI pt.aCb,pS pt.aB9,aT pt.aCa]) (dI [28] (bE func79 (zU pt z7)) (dI [27,29] r9 (dI [30] (hH ([(aK.mk pp.aB9 pt)]:List aK)) (dE [25,31] (lE z8) (dI [32] bF (dI [] bF (dN ?_)))))))))))))
  exact gE 0
 refine gQ 10 ?_;refine dL 38 H (fun g9 H=>gE 13) fun g9 H=>?_;refine gQ 7 ?_;refine bC H (fun h10 H=>gE 5) fun h10 H=>?_;refine gQ 8 ?_;refine LU H fun x12 x13 x14 z11 H=>?_
 cases x13
 ·have H:=s8 H rfl
  refine q1 (eW [] [0] func159 (p6 ps pp.aCa pt.aCa _ z11)) ?_;exact gE 5
 have H:=s9 H rfl
 obtain⟨z15,H1⟩:=gdI H
 subst z15
 have H:=H1
 refine q1 (eW [] [0] func159 (p6 ps pp.aCa pt.aCa _ z11)) ?_;exact gE 5
mutual
def fC:Nat→(List aK)→(List aA)→(List aA)→Option ((List aK)×Bool×(List aK))
 |0,_,_,_=>none
 |fu+1,ps,pp,p2=>xO fu (fC fu) (tG fu) ps pp p2
def tG:Nat→(List aK)→aA→aA→Option ((List aK)×Bool×(List aK))
 |0,_,_,_=>none
 |fu+1,ps,pp,pt=>VN fu (fC fu) (tG fu) ps pp pt
end
theorem YK(fu:Nat):xP (fC fu)∧OG (tG fu):=by
 induction fu with
 |zero=>exact⟨(fun ps pp p2 r H=>by simp only [fC] at H;cases H),(fun ps pp pt r H=>by simp only [tG] at H;cases H)⟩
 |succ fu ih=>exact⟨(fun ps pp p2 r H=>by simp only [fC] at H;exact VM fu (fC fu) (tG fu) ih.1 ih.2 ps pp p2 r H),(fun ps pp pt r H=>by simp only [tG] at H;exact ae8 fu (fC fu) (tG fu) ih.1 ih.2 ps pp pt r H)⟩
theorem OF(fu:Nat):xP (fC fu):=(YK fu).1
def N7(fu:Nat)(pp pt:aA):Option ((List aK)×Bool):=bd (fC fu ([]) ([pp]:List aA) ([pt]:List aA)) fun(x2,x3,x4)=>sw x3 (gd (x2=x4) (some (x2,true))) (some (x2,false))
theorem Z5(fu:Nat)(pp:aA)(pt:aA)(r:(List aK)×Bool)(H:N7 fu pp pt=some r):bQ Tryz.prog 119 [(aA.pv pp),(aA.pv pt)] (.tup [fL r.1,pB r.2]):=by
 refine qJ func119 H (fun C hC H=>?_)
 refine gQ 2 ?_;refine q1 (fD (bR pp)) (q1 (fD (bR pt)) ?_)
 refine gQ 5 ?_;refine q1 (bZ [pI pp.aCb,pS pp.aB9,aT pp.aCa]) (q1 (hH ([pp]:List aA)) (q1 (bZ [pI pt.aCb,pS pt.aB9,aT pt.aCa]) (q1 (hH ([pt]:List aA)) (LU H fun x2 x3 x4 z1 H=>?_))))
 cases x3
 ·have H:=s8 H rfl
  refine q1 (bB.callF (res:= .tup [fL x2,pB false]) (ps:= [_,_,_]) (qs:= [.nil,aT ([pp]:List aA),aT ([pt]:List aA)]) rfl rfl func159 (by kernel_rfl) rfl rfl jK rfl rfl (b6.regNil (l1:= []) (l2:= [aT ([pp]:List aA),aT ([pt]:List aA)]) (E:=44) (sz:=4) (q:= .tup [fL x2,pB false]) (by decide) (OF fu ([]) ([pp]:List aA) ([pt]:List aA) _ z1) jK rfl)) ?_;exact gE 5
 have H:=s9 H rfl
 obtain⟨z5,H1⟩:=gdI H
 subst z5
 have H:=H1
 refine q1 (bB.callF (res:= .tup [fL x2,pB true]) (ps:= [_,_,_]) (qs:= [.nil,aT ([pp]:List aA),aT ([pt]:List aA)]) rfl rfl func159 (by kernel_rfl) rfl rfl jK rfl rfl (b6.regNil (l1:= []) (l2:= [aT ([pp]:List aA),aT ([pt]:List aA)]) (E:=44) (sz:=4) (q:= .tup [fL x2,pB true]) (by decide) (OF fu ([]) ([pp]:List aA) ([pt]:List aA) _ z1) jK rfl)) ?_;exact gE 5
def VG(fu:Nat)(pp pt:aA):Option Bool:=bd (N7 fu pp pt) fun(x2,x3)=>some x3
theorem ae2(fu:Nat)(pp:aA)(pt:aA)(r:Bool)(H:VG fu pp pt=some r):bQ Tryz.prog 182 [(aA.pv pp),(aA.pv pt)] (pB r):=by
 refine qJ func182 H (fun C hC H=>?_)
 refine gQ 2 ?_;refine q1 (fD (bR pp)) (q1 (fD (bR pt)) ?_)
 refine gQ 4 ?_;refine q1 (bZ [pI pp.aCb,pS pp.aB9,aT pp.aCa]) (q1 (bZ [pI pt.aCb,pS pt.aB9,aT pt.aCa]) (dU H fun x2 x3 z1 H=>(q1 (bE func119 (Z5 fu pp pt _ z1)) ?_)))
 exact gE 11
end
end Go.Proofs.YtfcoaagbccmahaaGreat.W

namespace Go.Proofs.YtfcoaagbccmahaaGreat.W
open Go.RowKit Go.WalkArith
def D1(l:List aK)(v:ByteArray):Option aK:=l.find? (fun b=>decide (b.aCN=v))
mutual
def j7:aA→aA→List aK→Option (List aK)
 | .mk k n ps,t,s=>
  if k=1 then(match D1 s n with
   |some b=>if aA.eq b.aCd t=true then some s else none
   |none=>some (s++ [aK.mk n t]))
  else if k=t.aCb then(if n=t.aB9 then(if ps.length=t.aCa.length then lZ ps t.aCa s else none) else none) else none
def lZ:List aA→List aA→List aK→Option (List aK)
 | [],_,s=>some s
 |p::ps,ts,s=>match ts with
  | []=>none
  |t::ts=>match j7 p t s with
   |none=>none
   |some s'=>lZ ps ts s'
end
theorem nd{p:Prop}[Decidable p](h: ¬p):(!decide p)=true:=by simp [h]
def wtl(l:List aA):Nat:=l.length+Tr.bulkAll (aA.trs l)
theorem XZ(x:aA)(l:List aA):wtl (x::l)=1+Tr.bulkL x.tr+wtl l:=by simp only [wtl,aA.trs,Tr.bulkAll,List.length_cons];omega
theorem XY(k:Int)(n:ByteArray)(ps:List aA):wtl ps≤Tr.bulkL (aA.mk k n ps).tr:=PZ k n ps
def qT(s:List aK):Prop:= ∀b∈s,iG b.aCd
theorem SP: ∀(ps:List aA),(∀x∈ps,∀t s s',j7 x t s=some s'→qT s→iG t→qT s'∧s'.length≤s.length+1+Tr.bulkL x.tr)→
 ∀ts s s',lZ ps ts s=some s'→qT s→(∀t∈ts,iG t)→qT s'∧s'.length≤s.length+wtl ps
 | [],_,ts,s,s',h,hb,_=>by
  rw [lZ] at h
  obtain rfl:=Option.some.inj h
  exact⟨hb,by omega⟩
 |p::ps,hp,ts,s,s',h,hb,ht=>by
  cases ts with
  |nil=>simp [lZ] at h
  |cons t ts=>
   rw [lZ] at h
   cases hq:j7 p t s with
   |none=>rw [hq] at h;cases h
   |some s1=>
    rw [hq] at h
    have h1:=hp p (by simp) t s s1 hq hb (ht t (by simp))
    have h2:=SP ps (fun x hx=>hp x (List.mem_cons_of_mem _ hx)) ts s1 s' h h1.1 (fun x hx=>ht x (List.mem_cons_of_mem _ hx))
    have h3:=XZ p ps
    exact⟨h2.1,by omega⟩
theorem amH: ∀(p t:aA) (s s':List aK),j7 p t s=some s'→qT s→iG t→qT s'∧s'.length≤s.length+1+Tr.bulkL p.tr:=by
 refine aA.ind fun k n ps ih t s s' h hb ht=>?_
 have hw:=XY k n ps
 rw [j7] at h
 split at h
 ·split at h
  ·split at h
   ·obtain rfl:=Option.some.inj h
    exact⟨hb,by omega⟩
   ·cases h
  ·obtain rfl:=Option.some.inj h
   refine⟨fun b hb'=>?_,by simp only [List.length_append,List.length_singleton];omega⟩
   rcases List.mem_append.1 hb' with h1|h1
   ·exact hb b h1
   ·obtain rfl:=List.mem_singleton.1 h1
    exact ht
 ·split at h
  ·split at h
   ·split at h
    ·have h1:=SP ps ih _ _ _ h hb (fun x hx=>A5 hx ht)
     exact⟨h1.1,by omega⟩
    ·cases h
   ·cases h
  ·cases h
def Res(o:Option (List aK))(m:Option (List aK×Bool×List aK)):Prop:=match o with
 |some s'=>m=some (s',true,s')
 |none=> ∃a b,m=some (a,false,b)
def asH(o:Option (List aK))(m:Option ((List aK×Bool×List aK)⊕List aK)):Prop:=match o with
 |some s'=>m=some (.inr s')
 |none=> ∃a b,m=some (.inl (a,false,b))
def asG(o:Option (List aK))(m:Option (LR (List aK) (List aK×Bool×List aK))):Prop:=match o with
 |some s'=>m=some (.next s')
 |none=> ∃a b,m=some (.ret (a,false,b))
theorem aaH{F:Nat→List aK→Option (LR (List aK) (List aK×Bool×List aK))}{ps ts:List aA}(hlen:ps.length=ts.length)(ht: ∀t∈ts,iG t)
 (hs: ∀i s,i<ps.length→qT s→s.length+1+Tr.bulkL (aR ps i).tr≤68719476736→asG (j7 (aR ps i) (aR ts i) s) (F i s)):
 ∀(k i:Nat) (s:List aK),ps.length-i=k→qT s→s.length+wtl (ps.drop i)≤68719476736→asH (lZ (ps.drop i) (ts.drop i) s) (loopN F (ps.length-i) i s)
 |0,i,s,hk,_,_=>by
  rw [List.drop_of_length_le (show ps.length≤i by omega),lZ]
  exact EQ (by omega)
 |k+1,i,s,hk,hb,hw=>by
  have hi:i<ps.length:=by omega
  have hi2:i<ts.length:=by omega
  rw [o4 hi,XZ] at hw
  have h1:=hs i s hi hb (by omega)
  rw [o4 hi,o4 hi2,lZ]
  cases hq:j7 (aR ps i) (aR ts i) s with
  |none=>
   rw [hq] at h1
   obtain⟨a,b,h1⟩:=h1
   exact⟨a,b,JJ hi h1⟩
  |some s'=>
   rw [hq] at h1
   have h2:=amH _ _ _ _ hq hb (ht _ (cC hi2))
   have h3:=aaH hlen ht hs k (i+1) s' (by omega) h2.1 (by omega)
   rw [BH hi h1]
   exact h3
theorem VZ{F:Nat→List aK→Option (LR (List aK) (List aK×Bool×List aK))}{ps ts:List aA}(hlen:ps.length=ts.length)(ht: ∀t∈ts,iG t)
 (hs: ∀i s,i<ps.length→qT s→s.length+1+Tr.bulkL (aR ps i).tr≤68719476736→asG (j7 (aR ps i) (aR ts i) s) (F i s)) {s:List aK} (hb:qT s) (hw:s.length+wtl ps≤68719476736):asH (lZ ps ts s) (loopN F (ps.length-0) 0 s):=by
 have:=aaH hlen ht hs ps.length 0 s (by omega) hb (by rwa [List.drop_zero])
 rwa [List.drop_zero,List.drop_zero] at this
theorem WK(fu:Nat)(l:List aK)(v:ByteArray)(hb:qT l):JO fu l v=some (match D1 l v with
 |some b=>(b.aCd,true)
 |none=>(aA.mk 0 (⟨#[]⟩) [],false)):=by
 unfold JO
 rw [mS (p:=fun b=>decide (b.aCN=v)) (r:=fun b=>(b.aCd,true)) (fun i hi=>by
  unfold WJ
  cases h:decide ((aR l i).aCN=v)
  ·simp [sw,h]
  ·simp only [sw,h]
   rw [iJ (hb _ (cC hi)) rfl]
   simp)]
 unfold D1
 cases l.find? (fun b=>decide (b.aCN=v))<;>rfl
def SMS(fu:Nat)(p:aA):Prop:= ∀(t:aA) (s:List aK),iG t→qT s→s.length+1+Tr.bulkL p.tr≤68719476736→Res (j7 p t s) (nI fu p t s)
theorem acE{fu:Nat}{ps:List aA}(hf: ∀x∈ps,SMS fu x){ts:List aA}{s:List aK}(hlen:ps.length=ts.length)(ht: ∀t∈ts,iG t)(hb:qT s)(hw:s.length+wtl ps≤68719476736):Res (lZ ps ts s) (pY (fu+1) ps ts s):=by
 have hl:=VZ (F:=R8 fu (pY fu) (nI fu) ps ts s) hlen ht (fun i s hi hb hw=>by
  have h1:=hf (aR ps i) (cC hi) (aR ts i) s (ht _ (cC (by omega))) hb hw
  unfold R8
  cases hq:j7 (aR ps i) (aR ts i) s with
  |none=>
   rw [hq] at h1
   obtain⟨a,b,h1⟩:=h1
   exact⟨_,b,iJ (by omega) (gO h1 rfl)⟩
  |some s'=>
   rw [hq] at h1
   exact iJ (by omega) (gO h1 (jP rfl (iJ rfl rfl)))) hb hw
 rw [pY,XP]
 cases hq:lZ ps ts s with
 |none=>
  rw [hq] at hl
  obtain⟨a,b,hl⟩:=hl
  exact⟨a,b,soL hl⟩
 |some s'=>
  rw [hq] at hl
  exact X0 hl rfl
theorem aaN: ∀p:aA,bP fun fu=>SMS fu p:=by
 refine aA.ind fun k n ps ih=>?_;refine bP.succ (bP.succ ((bP.list ih).imp fun fu hf t s ht hb hw=>?_))
 have hwa:=XY k n ps
 rw [nI,NA,j7]
 simp only [aA.aCb.eq_1,aA.aB9.eq_1,aA.aCa.eq_1]
 by_cases hk:k=1
 ·rw [if_pos hk,WK _ s n hb]
  cases hq:D1 s n with
  |some b=>
   cases he:aA.eq b.aCd t with
   |true=>
    show Res (if aA.eq b.aCd t=true then some s else none) _
    rw [if_pos he]
    show _=some (s,true,s)
    refine jP (decide_eq_true hk) (gO rfl (jP rfl (jP he ?_)))
    simp only [he]
   |false=>
    show Res (if aA.eq b.aCd t=true then some s else none) _
    rw [if_neg (by simp [he])]
    refine⟨s,s,?_⟩
    refine jP (decide_eq_true hk) (gO rfl (jP rfl (g0 he ?_)))
    simp only [he]
  |none=>
   show _=some (s++ [aK.mk n t],true,s++ [aK.mk n t])
   exact jP (decide_eq_true hk) (gO rfl (g0 rfl (iJ ht (iJ (by simp only [List.length_singleton];omega) rfl))))
 ·rw [if_neg hk]
  by_cases h1:k=t.aCb
  ·rw [if_pos h1]
   by_cases h2:n=t.aB9
   ·rw [if_pos h2]
    by_cases h3:ps.length=t.aCa.length
    ·rw [if_pos h3]
     have ha:=acE hf (s:=s) h3 (fun x hx=>A5 hx ht) hb (by omega)
     cases hq:lZ ps t.aCa s with
     |none=>
      rw [hq] at ha
      obtain⟨a,b,ha⟩:=ha
      exact⟨_,_,g0 (by simp [hk]) (g0 (by simp [h1]) (g0 (by simp [h2]) (g0 (by simp [h3])<|gO ha (g0 rfl rfl))))⟩
     |some s'=>
      rw [hq] at ha
      exact g0 (by simp [hk]) (g0 (by simp [h1]) (g0 (by simp [h2]) (g0 (by simp [h3])<|gO ha (jP rfl (iJ rfl rfl)))))
    ·rw [if_neg h3]
     exact⟨_,_,g0 (by simp [hk]) (g0 (by simp [h1]) (g0 (by simp [h2]) (jP (nd (fun h=>h3 (Int.ofNat_inj.1 h))) rfl)))⟩
   ·rw [if_neg h2]
    exact⟨_,_,g0 (by simp [hk]) (g0 (by simp [h1]) (jP (by simp [h2]) rfl))⟩
  ·rw [if_neg h1]
   exact⟨_,_,g0 (by simp [hk]) (jP (by simp [h1]) rfl)⟩
theorem VE(fu:Nat)(l:List aK)(v:ByteArray)(hb:qT l):EI fu l v=some (match D1 l v with
 |some b=>(b.aCd,true)
 |none=>(aA.mk 0 (⟨#[]⟩) [],false)):=by
 unfold EI
 rw [mS (p:=fun b=>decide (b.aCN=v)) (r:=fun b=>(b.aCd,true)) (fun i hi=>by
  unfold VD
  cases h:decide ((aR l i).aCN=v)
  ·simp [sw,h]
  ·simp only [sw,h]
   rw [iJ (hb _ (cC hi)) rfl]
   simp)]
 unfold D1
 cases l.find? (fun b=>decide (b.aCN=v))<;>rfl
def IMS(fu:Nat)(p:aA):Prop:= ∀(t:aA) (s:List aK),iG t→qT s→s.length+1+Tr.bulkL p.tr≤68719476736→Res (j7 p t s) (tG fu s p t)
theorem abV{fu:Nat}{ps:List aA}(hf: ∀x∈ps,IMS fu x){ts:List aA}{s:List aK}(hlen:ps.length=ts.length)(ht: ∀t∈ts,iG t)(hb:qT s)(hw:s.length+wtl ps≤68719476736):Res (lZ ps ts s) (fC (fu+1) s ps ts):=by
 have hl:=VZ (F:=zW fu (fC fu) (tG fu) s ps ts) hlen ht (fun i s hi hb hw=>by
  have h1:=hf (aR ps i) (cC hi) (aR ts i) s (ht _ (cC (by omega))) hb hw
  unfold zW
  cases hq:j7 (aR ps i) (aR ts i) s with
  |none=>
   rw [hq] at h1
   obtain⟨a,b,h1⟩:=h1
   exact⟨_,b,iJ (by omega) (gO h1 rfl)⟩
  |some s'=>
   rw [hq] at h1
   exact iJ (by omega) (gO h1 (jP rfl (iJ rfl rfl)))) hb hw
 rw [fC,xO]
 rw [show sw (!decide (((ps.length:Nat):Int)=((ts.length:Nat):Int)))=fun(x y:Option (List aK×Bool×List aK))=>y by funext x y;exact g0 (by simp [hlen]) rfl]
 cases hq:lZ ps ts s with
 |none=>
  rw [hq] at hl
  obtain⟨a,b,hl⟩:=hl
  exact⟨a,b,soL hl⟩
 |some s'=>
  rw [hq] at hl
  exact X0 hl rfl
theorem Z3: ∀p:aA,bP fun fu=>IMS fu p:=by
 refine aA.ind fun k n ps ih=>?_;refine bP.succ (bP.succ ((bP.list ih).imp fun fu hf t s ht hb hw=>?_))
 have hwa:=XY k n ps
 rw [tG,VN,j7]
 simp only [aA.aCb.eq_1,aA.aB9.eq_1,aA.aCa.eq_1]
 by_cases hk:k=1
 ·rw [if_pos hk,VE _ s n hb]
  cases hq:D1 s n with
  |some b=>
   cases he:aA.eq b.aCd t with
   |true=>
    show Res (if aA.eq b.aCd t=true then some s else none) _
    rw [if_pos he]
    show _=some (s,true,s)
    refine jP (decide_eq_true hk) (gO rfl (jP rfl (jP he ?_)))
    simp only [he]
   |false=>
    show Res (if aA.eq b.aCd t=true then some s else none) _
    rw [if_neg (by simp [he])]
    refine⟨s,s,?_⟩
    refine jP (decide_eq_true hk) (gO rfl (jP rfl (g0 he ?_)))
    simp only [he]
  |none=>
   show _=some (s++ [aK.mk n t],true,s++ [aK.mk n t])
   exact jP (decide_eq_true hk) (gO rfl (g0 rfl (iJ ht (iJ (by simp only [List.length_singleton];omega) rfl))))
 ·rw [if_neg hk]
  by_cases h1:k=t.aCb
  ·rw [if_pos h1]
   by_cases h2:n=t.aB9
   ·rw [if_pos h2]
    by_cases h3:ps.length=t.aCa.length
    ·rw [if_pos h3]
     have ha:=abV hf (s:=s) h3 (fun x hx=>A5 hx ht) hb (by omega)
     cases hq:lZ ps t.aCa s with
     |none=>
      rw [hq] at ha
      obtain⟨a,b,ha⟩:=ha
      exact⟨_,_,g0 (by simp [hk]) (g0 (by simp [h1]) (g0 (by simp [h2]) (gO ha (g0 rfl rfl))))⟩
     |some s'=>
      rw [hq] at ha
      exact g0 (by simp [hk]) (g0 (by simp [h1]) (g0 (by simp [h2]) (gO ha (jP rfl (iJ rfl rfl)))))
    ·rw [if_neg h3]
     have ha:fC (fu+1) s ps t.aCa=some ([],false,s):=by
      rw [fC,xO]
      exact jP (nd (fun h=>h3 (Int.ofNat_inj.1 h))) rfl
     exact⟨_,_,g0 (by simp [hk]) (g0 (by simp [h1]) (g0 (by simp [h2]) (gO ha (g0 rfl rfl))))⟩
   ·rw [if_neg h2]
    exact⟨_,_,g0 (by simp [hk]) (g0 (by simp [h1]) (jP (by simp [h2]) rfl))⟩
  ·rw [if_neg h1]
   exact⟨_,_,g0 (by simp [hk]) (jP (by simp [h1]) rfl)⟩
def jB(p t:aA):Bool:=(j7 p t []).isSome
theorem qT.nil:qT []:=fun b hb=>by simp at hb
theorem FT(p t:aA):lZ [p] [t] []=j7 p t []:=by
 rw [lZ]
 cases hq:j7 p t [] with
 |none=>simp [hq]
 |some s=>simp [hq,lZ]
theorem UN(p:aA):wtl [p]=1+Tr.bulkL p.tr:=by rw [XZ];simp [wtl,aA.trs,Tr.bulkAll]
theorem SS(p t:aA)(hp:Tr.bulkL p.tr≤68719476735)(ht:iG t):bQ Tryz.prog 210 [(aA.pv p),(aA.pv t)] (.t (.leaf (.bool (jB p t)))):=by
 obtain⟨fu,hf⟩:=(aaN p).get
 refine afY (fu+1) p t _ ?_
 have h1:=acE (fu:=fu) (ps:= [p]) (by simpa using hf) (ts:= [t]) (s:= []) rfl (by simpa using ht) qT.nil (by rw [UN];simp only [List.length_nil];omega)
 rw [FT] at h1
 unfold WM OX CR jB
 cases hq:j7 p t [] with
 |none=>
  rw [hq] at h1
  obtain⟨a,b,h1⟩:=h1
  exact gO (gO (g0 rfl (gO h1 (g0 rfl rfl))) rfl) rfl
 |some s=>
  rw [hq] at h1
  exact gO (gO (g0 rfl (gO h1 (jP rfl (iJ rfl rfl)))) rfl) rfl
theorem HZ(p t:aA)(hp:Tr.bulkL p.tr≤68719476735)(ht:iG t):bQ Tryz.prog 182 [(aA.pv p),(aA.pv t)] (.t (.leaf (.bool (jB p t)))):=by
 obtain⟨fu,hf⟩:=(Z3 p).get
 refine ae2 (fu+1) p t _ ?_
 have h1:=abV (fu:=fu) (ps:= [p]) (by simpa using hf) (ts:= [t]) (s:= []) rfl (by simpa using ht) qT.nil (by rw [UN];simp only [List.length_nil];omega)
 rw [FT] at h1
 unfold VG N7 jB
 cases hq:j7 p t [] with
 |none=>
  rw [hq] at h1
  obtain⟨a,b,h1⟩:=h1
  exact gO (gO h1 (g0 rfl rfl)) rfl
 |some s=>
  rw [hq] at h1
  exact gO (gO h1 (jP rfl (iJ rfl rfl))) rfl
end Go.Proofs.YtfcoaagbccmahaaGreat.W

namespace Go.Proofs.YtfcoaagbccmahaaGreat
open Go.RowKit
section
variable {P:Program} {ops:Array Oper} {Q:Exit→Act→World→Prop} {md:Region.Mode} {S:World→Prop}
theorem rC{rest:List Oper}{o:Oper}{a:Act}{w:World}(hwd:Region.wanted o (yielded ops a.tmps)=true)(ty:TypeId)(x:Operand)(ho:o.op= .load ty x)
 (b off:Nat) (hx:a.eval x= .pointer (some ⟨b,off,none⟩)) (cs:List Value) (fs:Array Field) (hu:P.underlying ty=some (.struct fs)) (hi:(P.info? ty).map (·.size)=some cs.length)
 (hc: ∀j v,cs[j]?=some v→w.cell? ⟨b,off+j,none⟩=some v) (h:wpList P ops Q rest (a.put o.dst (.agg ⟨cs⟩)) w):wpList P ops Q (o::rest) a w:=
 wpList_step fun _ hK=>by
  rw [if_pos hwd]
  unfold Oper.wp execOp
  simp only [ho,hx,Instr.loadAt,Instr.sureAddr,Sem.run_bind,Sem.run_pure,Result.andThen_ok,GU w b off ty cs fs hu hi hc]
  exact hK _ _ h
end
end Go.Proofs.YtfcoaagbccmahaaGreat

namespace Go.Proofs.YtfcoaagbccmahaaGreat.W
open Go.RowKit Go.Proofs
theorem asU:(Tryz.prog.info? 26).map (·.size)=some 1:=by kernel_rfl
theorem av7:(Tryz.prog.info? 52).map (·.size)=some 2:=by kernel_rfl
theorem afS(l:List aC): ∀e∈aC.trs l,∀d∈e,∃u,d= .leaf u:=by
 intro e he d hd
 rw [aC.trs_map] at he
 obtain⟨x,_,rfl⟩:=List.mem_map.1 he
 exact V6 x d hd
theorem anO(x0:aF)(w:World)(c0:List Value)(h0:gM w x0.tr c0)(hb:(fG x0).length≤68719476736):Calls Tryz.prog 180 #[.agg ⟨c0⟩] w fun e w'=> ∃v,e= .returned v∧uR w w'∧A3 w' (.row 2 (aC.trs (fG x0))) v (NG w w'):=by
 rw [aF.tr_cs] at h0
 exact(N5 0 x0 _ (apL 0 x0 hb)).own (afS _) (HJ.cons (RV0.agg h0) HJ.nil)
end Go.Proofs.YtfcoaagbccmahaaGreat.W

namespace Go.Proofs.YtfcoaagbccmahaaGreat.W
open Go.RowKit Go.Proofs
theorem izT:(Tryz.prog.info? 30).map (·.size)=some 3:=by kernel_rfl
theorem izI:(Tryz.prog.info? 163).map (·.size)=some 12:=by kernel_rfl
theorem bQ.plainAB{P:Program}{f:FuncId}{args:List PV}{ts:List Tr}{d:Value}(h:bQ P f args (.tup [.agg (ts.map PV.t),.t (.leaf d)])){w:World}{vals:List Value}(hv:HJ w args vals):Calls P f ⟨vals⟩ w fun e w'=> ∃cs,e= .returned (.tuple #[.agg ⟨cs⟩,d])∧uR w w'∧gM w' ts cs:=
 (h av0 ab7 w vals (ar5 w) hv).mono fun e w'=>by
  rintro⟨res,st',m',v,rfl,⟨rfl,rfl⟩,-,he,vs,rfl,hr⟩
  match vs,hr with
  | [u,x],hr=>
   obtain⟨rfl,-⟩:=(cE.rep (show cE _ _ (.leaf d) x from hr.2.1)).leaf_eq
   obtain⟨cs,rfl,hl⟩:=hr.1
   exact⟨cs,rfl,he.ext,gK.ofTr hl⟩
theorem asT(x0:aF)(o:aC)(hO:mP x0 o)(w:World)(c0 cs:List Value)(h0:gM w x0.tr c0)(hr:gM w o.tr cs):Calls Tryz.prog 118 #[.agg ⟨c0⟩,.agg ⟨cs⟩] w fun e w'=> ∃ci,e= .returned (.tuple #[.agg ⟨ci⟩,.bool true])∧uR w w'∧gM w' (b5 x0 o).cs ci:=by
 rw [aF.tr_cs] at h0
 rw [aC.tr_cs] at hr
 exact bQ.plainAB (ts:=(b5 x0 o).cs) (u0 0 x0 o _ (H6 0 x0 o hO)) (HJ.cons (RV0.agg h0) (HJ.cons (RV0.agg hr) HJ.nil))
theorem an6(p t:aA)(w:World)(c0 c1:List Value)(h0:gM w p.tr c0)(h1:gM w t.tr c1)(hp:Tr.bulkL p.tr≤68719476735)(ht:iG t):Calls Tryz.prog 182 #[.agg ⟨c0⟩,.agg ⟨c1⟩] w fun e w'=>e= .returned (.bool (jB p t))∧uR w w':=by
 rw [aA.tr_cs] at h0 h1
 exact bQ.plain (HZ p t hp ht) (HJ.cons (RV0.agg h0) (HJ.cons (RV0.agg h1) HJ.nil))
set_option maxRecDepth 100000 in
set_option maxHeartbeats 2000000 in
theorem aeS(x0:aF)(g:aG)(c0 cg:List Value)(B0 B1:Nat)(o:aC)(cs:List Value)(w:World)(hob0:OB w B0 26 ⟨c0⟩)(hob1:OB w B1 32 ⟨cg⟩)(h0:gM w x0.tr c0)(hg:gM w g.tr cg)(hr:gM w o.tr cs)(hO:mP x0 o)
 (hB0:Tr.bulkL (b5 x0 o).aCn.tr≤68719476735) (hB1:iG g.aCd):
 Calls Tryz.prog 181 (#[.agg ⟨cs⟩]++ #[.pointer (some ⟨B0,0,none⟩),.pointer (some ⟨B1,0,none⟩)]) w fun e w'=>e= .returned (.bool (!(decide ((b5 x0 o).aCg=g.aCg)&&jB (b5 x0 o).aCn g.aCd)))∧uR w w':=by
 have HI0:Hid ((Tryz.prog.info? 26).map (·.size)=some c0.length):=by rw [← h0.length,aF.tr_len];exact asU
 have HI1:Hid ((Tryz.prog.info? 52).map (·.size)=some cs.length):=by rw [← hr.length,aC.tr_len];exact av7
 rw [aG.tr_cs] at hg
 obtain⟨d0,d1,d2,d3,rfl⟩:=asW hg.length.symm
 obtain⟨rfl,-⟩:=hg.1.leaf_eq
 have HG:Hid (gM w g.aCd.tr [d1,d2,d3]):=by rw [aA.tr_cs];exact hg.2
 have HOB0:=Lib.hid hob0
 have HOB1:=Lib.hid hob1
 have H0:=Lib.hid h0
 have HR:=Lib.hid hr
 have HB0:=Lib.hid hB0
 have HB1:=Lib.hid hB1
 clear hob0 hob1 h0 hr hg hB0 hB1
 go_enter Tryz.func181,Tryz.ntmps181
 go_wp2_with (first
  |(refine lA rfl 26 (.tmp 1) rfl B0 0 rfl c0 _ Tryz.underlying26 HI0.out (HOB0.out.ext (.alloc (.refl _) _)).cells0 ?_)
  |(refine lA rfl 52 (.tmp 3) rfl w.heap.size 0 rfl cs _ Tryz.underlying52 HI1.out (OB.new w _ _).cells0 ?_))
 refine(asT x0 o hO _ c0 cs (H0.out.ext (.alloc (.refl _) _)) (HR.out.ext (.alloc (.refl _) _))).mono ?_;rintro e w1 ⟨ci,rfl,hw1,hci⟩
 have HW1:=Lib.hid (uR.trans (.alloc (.refl w) _) hw1)
 clear hw1
 have HCI:=Lib.hid hci
 have HCL:Hid (ci.length=12):=by rw [← hci.length];rfl
 have HII:Hid ((Tryz.prog.info? 163).map (·.size)=some ci.length):=by rw [HCL.out];exact izI
 clear hci
 by_cases ht:(b5 x0 o).aCg=g.aCg
 ·have HT:=Lib.hid ht
  clear ht
  go_wp2_with (first
   |(refine sZ rfl 163 (.tmp 5) (.tmp 11) rfl w1.heap.size 0 rfl ci rfl 163 _ (OB.new w1 _ _) HII.out (by rw [HCL.out];exact Nat.le_refl _) HCI.out.one ?_;intro w2 hob hgb hzb;rw [GN (by rw [HCL.out];rfl)] at hob;have HOBI:=Lib.hid hob;have HX2:=Lib.hid (P8 (.alloc (.refl w1) _) hgb (Nat.le_refl _));clear hob hgb hzb;obtain⟨e0,e1,e2,e3,e4,e5,e6,e7,e8,e9,e10,e11,rfl⟩:=an4 HCL.out;obtain⟨rfl,-⟩:=HCI.out.1.leaf_eq;have HH:Hid (gM w1 (b5 x0 o).aCn.tr [e2,e3,e4]):=(by rw [aA.tr_cs];exact⟨HCI.out.2.2.1,HCI.out.2.2.2.1,HCI.out.2.2.2.2.1,trivial⟩);have HXX:=Lib.hid (HW1.out.trans HX2.out);have hcI:w2.cell? ⟨w1.heap.size,0,none⟩=some (.string (b5 x0 o).aCg):=(by rw [HOBI.out.cell];rfl);have hcG:w2.cell? ⟨B1,0,none⟩=some (.string g.aCg):=(by rw [(HOB1.out.ext HXX.out).cell];rfl);rw [HT.out] at hcI)
   |(refine rC (by rfl) 30 (.tmp 19) rfl w1.heap.size 2 rfl [e2,e3,e4] _ Tryz.underlying30 izT (fun j v hv=>by rw [HOBI.out.cell];rcases j with _|_|_|j<;>first|(simp at hv;done)|simpa using hv) ?_)
   |(refine rC (by rfl) 30 (.tmp 21) rfl B1 1 rfl [d1,d2,d3] _ Tryz.underlying30 izT (fun j v hv=>by rw [(HOB1.out.ext HXX.out).cell];rcases j with _|_|_|j<;>first|(simp at hv;done)|simpa using hv) ?_))
  refine(an6 _ _ w2 _ _ (HH.out.ext HX2.out) (HG.out.ext HXX.out) HB0.out HB1.out).mono ?_;rintro e w3 ⟨rfl,hw3⟩
  have HX3:=Lib.hid (HXX.out.trans hw3)
  clear hw3
  go_wp2_with fail
  go_ret
  refine⟨?_,HX3.out⟩
  rw [decide_eq_true HT.out]
  rfl
 ·have hne: ¬(b5 x0 o).aCg.toList=g.aCg.toList:=fun h=>ht (alZ h)
  have HD:Hid (decide ((b5 x0 o).aCg=g.aCg)=false):=decide_eq_false ht
  have HT:Hid ((b5 x0 o).aCg=(b5 x0 o).aCg):=rfl
  clear ht
  go_wp2_with (first
   |(refine sZ rfl 163 (.tmp 5) (.tmp 11) rfl w1.heap.size 0 rfl ci rfl 163 _ (OB.new w1 _ _) HII.out (by rw [HCL.out];exact Nat.le_refl _) HCI.out.one ?_;intro w2 hob hgb hzb;rw [GN (by rw [HCL.out];rfl)] at hob;have HOBI:=Lib.hid hob;have HX2:=Lib.hid (P8 (.alloc (.refl w1) _) hgb (Nat.le_refl _));clear hob hgb hzb;obtain⟨e0,e1,e2,e3,e4,e5,e6,e7,e8,e9,e10,e11,rfl⟩:=an4 HCL.out;obtain⟨rfl,-⟩:=HCI.out.1.leaf_eq;have HH:Hid (gM w1 (b5 x0 o).aCn.tr [e2,e3,e4]):=(by rw [aA.tr_cs];exact⟨HCI.out.2.2.1,HCI.out.2.2.2.1,HCI.out.2.2.2.2.1,trivial⟩);have HXX:=Lib.hid (HW1.out.trans HX2.out);have hcI:w2.cell? ⟨w1.heap.size,0,none⟩=some (.string (b5 x0 o).aCg):=(by rw [HOBI.out.cell];rfl);have hcG:w2.cell? ⟨B1,0,none⟩=some (.string g.aCg):=(by rw [(HOB1.out.ext HXX.out).cell];rfl))
   |(refine rC (by rfl) 30 (.tmp 19) rfl w1.heap.size 2 rfl [e2,e3,e4] _ Tryz.underlying30 izT (fun j v hv=>by rw [HOBI.out.cell];rcases j with _|_|_|j<;>first|(simp at hv;done)|simpa using hv) ?_)
   |(refine rC (by rfl) 30 (.tmp 21) rfl B1 1 rfl [d1,d2,d3] _ Tryz.underlying30 izT (fun j v hv=>by rw [(HOB1.out.ext HXX.out).cell];rcases j with _|_|_|j<;>first|(simp at hv;done)|simpa using hv) ?_))
  go_ret
  refine⟨?_,HXX.out⟩
  rw [HD.out]
  rfl
def rG(w:aF)(g:aG)(o:aC):Bool:=decide ((b5 w o).aCg=g.aCg)&&jB (b5 w o).aCn g.aCd
set_option maxRecDepth 100000 in
set_option maxHeartbeats 2000000 in
theorem aeT(x0:aF)(g:aG)(w:World)(c0 cg:List Value)(h0:gM w x0.tr c0)(hg:gM w g.tr cg)(hb:(fG x0).length≤68719476736)(hB0: ∀o,mP x0 o→Tr.bulkL (b5 x0 o).aCn.tr≤68719476735)(hB1:iG g.aCd):
 Calls Tryz.prog 155 #[.agg ⟨c0⟩,.agg ⟨cg⟩] w fun e w'=> ∃v,e= .returned v∧uR w w'∧A3 w' (.row 2 (aC.trs ((fG x0).filter fun o=>rG x0 g o))) v (NG w w'):=by
 have H0:=Lib.hid h0
 have HG:=Lib.hid hg
 have HB0:=Lib.hid hB0
 have HI0:Hid ((Tryz.prog.info? 26).map (·.size)=some c0.length):=by rw [← h0.length,aF.tr_len];exact asU
 clear h0 hg hB0
 go_enter Tryz.func155,Tryz.ntmps155
 go_wp2_with (refine lA rfl 26 (.tmp 2) rfl w.heap.size 0 rfl c0 _ Tryz.underlying26 HI0.out (Two.new w _ _ _ _).o0.cells0 ?_)
 refine(anO x0 _ c0 (H0.out.ext (.alloc (.alloc (.refl _) _) _)) hb).mono ?_;rintro e w1 ⟨v,rfl,hw1,ho1⟩
 have HW1:=Lib.hid hw1
 have HO1:=Lib.hid ho1
 clear hw1 ho1
 go_wp2_with fail
 refine(U4 (fG x0) (fun o=> !rG x0 g o) 181 #[.pointer (some ⟨w.heap.size,0,none⟩),.pointer (some ⟨w.heap.size+1,0,none⟩)] (iC Tryz.func181 (by kernel_rfl) (by kernel_rfl)) v w1 (NG ((w.alloc _).alloc _) w1) (fun x hx=>hx.2) (fun o ho cs W hW hr=>by
  have hx:=NH.ext HW1.out hW (fun x hx=>hx.1)
  exact aeS x0 g c0 cg w.heap.size (w.heap.size+1) o cs W ((Two.new w _ _ _ _).o0.ext hx) ((Two.new w _ _ _ _).o1.ext hx) (H0.out.ext (uR.trans (.alloc (.alloc (.refl _) _) _) hx)) (HG.out.ext (uR.trans (.alloc (.alloc (.refl _) _) _) hx)) hr (UH ho) (HB0.out o (UH ho)) hB1) (by rw [← aC.trs_map];exact HO1.out)).mono ?_
 rintro e w2 ⟨v2,rfl,hc2,ho2⟩
 have hx2:=NH.ext HW1.out hc2 (fun x hx=>hx.1)
 have HX2:=Lib.hid (uR.trans (.alloc (.alloc (.refl _) _) _) hx2)
 have hz:w1.heap.size≤w2.heap.size:=hc2.size
 have HO2:=Lib.hid ho2
 clear hc2 hx2 ho2
 go_wp2_with fail
 go_ret
 refine⟨_,rfl,HX2.out,?_⟩
 rw [aC.trs_map]
 have ho:=HO2.out
 simp only [Bool.not_not] at ho
 exact ho.mono fun x hx=>⟨by have h1:=hx.1;simp only [World.size_alloc] at h1;omega,by have h1:=hx.2;omega⟩
theorem al4(w:aF)(g:aG)(hw:wt w≤13000000)(hg:iG g.aCd):bQ Tryz.prog 155 [(aF.pv w),(aG.pv g)] (cX ((fG w).filter fun o=>rG w g o)):=
 bQ.ofFresh rfl fun W vals hv=>by
  match vals,hv with
  | [v0,v1],hv=>
   obtain⟨c0,rfl,h0⟩:=hv.1
   obtain⟨c1,rfl,h1⟩:=hv.2.1
   exact aeT w g W c0 c1 (gK.ofTr (ts:=w.tr) (by rw [aF.tr_cs];exact h0)) (gK.ofTr (ts:=g.tr) (by rw [aG.tr_cs];exact h1)) (Nat.le_trans (UY hw) (by decide)) (fun o ho=>Nat.le_trans (akS hw ho) (by decide)) hg
end Go.Proofs.YtfcoaagbccmahaaGreat.W

namespace Go.Proofs.YtfcoaagbccmahaaGreat.W
set_option maxRecDepth 100000
set_option maxHeartbeats 40000000
noncomputable section
open Tryz Go.RowKit Go.Proofs
attribute [local irreducible] lt
def SR(fu:Nat)(pt:aA):Option Bool:=bd (nU fu pt) fun x2=>sw (decide ((x2.length:Int)=0)) (bd (dM fu pt) fun x5=>some (!(x5))) (some false)
theorem acJ(fu:Nat)(pt:aA)(r:Bool)(H:SR fu pt=some r):bQ Tryz.prog 34 [(aA.pv pt)] (pB r):=by
 refine qJ func34 H (fun C hC H=>?_)
 refine gQ 2 ?_;refine q1 (fD (bR pt)) ?_;refine gQ 4 ?_;refine q1 (bZ [pI pt.aCb,pS pt.aB9,aT pt.aCa]) (bK H fun x2 z1 H=>(q1 (bE func85 (CW fu pt _ z1)) ?_))
 refine gQ 3 ?_;refine dL 7 H (fun g3 H=>?_) fun g3 H=>?_
 ·refine qg g3 (bZ [pI pt.aCb,pS pt.aB9,aT pt.aCa]) (bK H fun x5 z4 H=>(qg g3 (bE func86 (vG fu pt _ z4)) ?_))
  exact gE 4
 exact gE 6
def D4(fu:Nat)(ps:LB)(pv:ByteArray):Nat→Unit→Option (LR Unit Int):=fun i1 _=>sw (decide (pv=aR ps i1)) (some (.ret (i1:Int))) (some (.next ()))
def tK(fu:Nat)(ps:LB)(pv:ByteArray):Option Int:=so (loopN (D4 fu ps pv) (ps.length-0) 0 ()) fun _=>some (-1)
theorem P7(fu:Nat)(ps:LB)(pv:ByteArray)(r:Int)(H:tK fu ps pv=some r):bQ Tryz.prog 213 [rS ps,pS pv] (pI r):=by
 refine qJ func213 H (fun C hC H=>?_)
 refine gQ 11 ?_;refine gP 0 (bV _) (fun hl2=>?_)
 refine bS (σ:=Unit) (fun i1 _=>⟨[(0,rS ps),(1,pS pv),(4,pI 0),(7,pN ps.length),(8,pN i1)],⟨[],[]⟩⟩) (fun _=>⟨[(4,pI 0)],⟨[],[]⟩⟩) (eM H) ?_ ?_
 ·rintro i1 ⟨⟩ H
  refine gQ 5 ?_;refine cS H (fun h3 h3l H=>?_) (fun h3 H=>?_)
  ·refine gQ 17 ?_;refine bC H (fun h4 H=>gE 5) fun h4 H=>?_;exact gE 5
  exact gE 0
 rintro⟨⟩ H
 exact gE 4
def lX(fu:Nat)(ps:LB)(pv:ByteArray):Option Bool:=bd (tK fu ps pv) fun x2=>some (decide (x2≥0))
theorem zG(fu:Nat)(ps:LB)(pv:ByteArray)(r:Bool)(H:lX fu ps pv=some r):bQ Tryz.prog 195 [rS ps,pS pv] (pB r):=by
 refine qJ func195 H (fun C hC H=>?_)
 refine gQ 8 ?_;refine bK H fun x2 z1 H=>(q1 (bE func213 (P7 fu ps pv _ z1)) ?_)
 exact gE 3
def sG(fu:Nat)(pu:aA)(c1:LB):Option ((LB)):=sw (decide (pu.aCb=1)) (bd (lX fu c1 pu.aB9) fun x3=>sw (!(x3)) (gd ((c1).length+(([pu.aB9]:LB)).length≤68719476736) (some (c1++([pu.aB9]:LB)))) (some c1)) (some c1)
theorem OI(fu:Nat)(pu:aA)(c1:LB)(r:(LB))(H:sG fu pu c1=some r):b6 Tryz.prog 194 [(aA.pv pu),.ptr 0 0] ⟨[some ⟨36,[aS c1 0]⟩],[⟨9,1,aY (c1),false⟩]⟩ (fun q t=>q=(.tup [])∧t=⟨[some ⟨36,[aS r 0]⟩],[⟨9,1,aY (r),false⟩]⟩):=by
 refine qJ func194 H (fun C hC H=>?_)
 refine gQ 2 ?_;refine q1 (fD (bR pu)) ?_;refine gQ 7 ?_;refine dL 6 H (fun g1 H=>?_) fun g1 H=>?_
 ·refine gQ 3 ?_;refine bK H fun x3 z2 H=>(qg g1 (bE func195 (zG fu c1 pu.aB9 _ z2)) ?_)
  refine gQ 3 ?_;refine bC H (fun h4 H=>?_) (fun h4 H=>?_)
  ·refine gQ 4 ?_;refine q1 (hH ([pu.aB9]:LB)) (cF H fun z5 H=>(q1 (lE z5) ?_))
   refine gQ 2 ?_
   cases vP H
   exact qe (ps:= []) ⟨rfl,rfl⟩ trivial
  refine cV.skip ?_
  cases vP H
  exact qe (ps:= []) ⟨rfl,rfl⟩ trivial
 refine gQ 9 ?_
 cases vP H
 exact qe (ps:= []) ⟨rfl,rfl⟩ trivial
abbrev iY:=aA→(LB)→Option ((LB))
def iX(m:iY):Prop:= ∀(pt:aA) (c1_0:LB) (r:(LB)),m pt c1_0=some r→b6 Tryz.prog 93 [(aA.pv pt),.fn 194 [.ptr 0 0]] ⟨[some ⟨36,[aS c1_0 0]⟩],[⟨9,1,aY (c1_0),false⟩]⟩ (fun q t=>q=(.tup []:PV)∧t=⟨[some ⟨36,[aS r 0]⟩],[⟨9,1,aY (r),false⟩]⟩)
def o9(fu:Nat)(p1:iY)(pt:aA)(c1_0 x2:LB):Nat→((LB))→Option (LR ((LB)) ((LB))):=fun i3 v5=>bd (p1 (aR pt.aCa i3) v5) fun x9=>some (.next x9)
def lH(fu:Nat)(p1:iY)(pt:aA)(c1_0:LB):Option ((LB)):=bd (sG fu pt c1_0) fun x2=>so (loopN (o9 fu p1 pt c1_0 x2) (pt.aCa.length-0) 0 x2) fun v5=>some v5
theorem wC(fu:Nat)(p1:iY)(p3:iX p1):iX (lH fu p1):=by
 intro pt c1_0 r H
 refine qJ func93 H (fun C hC H=>?_)
 refine gQ 2 ?_;refine q1 (fD (bR pt)) ?_;refine gQ 4 ?_;refine q1 (bZ [pI pt.aCb,pS pt.aB9,aT pt.aCa]) (bK H fun x2 z1 H=>(q1 (bB.callVPE (pre:=⟨[some ⟨36,[aS c1_0 0]⟩],[⟨9,1,aY (c1_0),false⟩]⟩) (st':=⟨[some ⟨36,[aS x2 0]⟩],[⟨9,1,aY (x2),false⟩]⟩) (ps:= [_]) (cs:= [.ptr 0 0]) (qs:= [(aA.pv pt),.ptr 0 0]) [0] [0] rfl rfl rfl func194 (by kernel_rfl) rfl rfl rfl (eV.of ⟨⟨_,rfl,rfl,jK,rfl⟩,trivial⟩ ⟨rfl,trivial⟩ (by decide) (by decide)) jK rfl rfl rfl (OI fu pt c1_0 _ z1)) ?_))
 refine gQ 8 ?_;refine gP 10 (aA.trs_len _) (fun hl6=>?_)
 refine bS (σ:=(LB)) (fun i3 v5=>⟨[(1,.fn 194 [.ptr 0 0]),(10,aT pt.aCa),(11,pN pt.aCa.length),(12,pN i3)],⟨[some ⟨36,[aS v5 0]⟩,some ⟨30,bR pt⟩],[⟨9,1,aY (v5),false⟩]⟩⟩) (fun v5=>⟨[],⟨[some ⟨36,[aS v5 0]⟩,some ⟨30,bR pt⟩],[⟨9,1,aY (v5),false⟩]⟩⟩) (eM H) ?_ ?_
 ·rintro i3 v5 H
  refine gQ 5 ?_;refine cS H (fun h7 h7l H=>?_) (fun h7 H=>?_)
  ·refine gQ 6 ?_;refine q1 (iK (aA.cs (aR pt.aCa i3))) ?_;refine gQ 4 ?_;refine q1 (bZ [pI ((aR pt.aCa i3).aCb),pS ((aR pt.aCa i3).aB9),aT ((aR pt.aCa i3).aCa)]) (q1 bF (bK H fun x9 z8 H=>(q1 (eW [0] [0] func93 (p3 (aR pt.aCa i3) v5 _ z8)) ?_)))
   exact gE 5
  exact gE 0
 rintro v5 H
 cases vP H
 exact qe (ps:= []) ⟨rfl,rfl⟩ trivial
def cR:Nat→aA→(LB)→Option ((LB))
 |0,_,_=>none
 |fu+1,pt,c1_0=>lH fu (cR fu) pt c1_0
theorem xN(fu:Nat):iX (cR fu):=by
 induction fu with
 |zero=>exact(fun pt c1_0 r H=>by simp only [cR] at H;cases H)
 |succ fu ih=>exact(fun pt c1_0 r H=>by simp only [cR] at H;exact wC fu (cR fu) ih pt c1_0 r H)
theorem yQ(fu:Nat):iX (cR fu):=(xN fu)
def GS(fu:Nat)(p4:List aA):Nat→((LB))→Option (LR ((LB)) ((LB))):=fun i1 v3=>bd (cR fu (aR p4 i1) v3) fun x7=>some (.next x7)
def BD(fu:Nat)(p4:List aA):Option ((LB)):=so (loopN (GS fu p4) (p4.length-0) 0 ([])) fun v3=>some v3
theorem TL(fu:Nat)(p4:List aA)(r:(LB))(H:BD fu p4=some r):bQ Tryz.prog 169 [aT p4] (rS r):=by
 refine qJ func169 H (fun C hC H=>?_)
 refine gQ 6 ?_;refine q1 (qP ([]:LB)) ?_;refine gQ 10 ?_;refine gP 0 (aA.trs_len _) (fun hl4=>?_)
 refine bS (σ:=(LB)) (fun i1 v3=>⟨[(2,.nil),(3,.ptr 0 0),(7,aT p4),(8,pN p4.length),(9,pN i1)],⟨[some ⟨36,[aS v3 0]⟩],[⟨9,1,aY (v3),false⟩]⟩⟩) (fun v3=>⟨[(2,.nil),(3,.ptr 0 0)],⟨[some ⟨36,[aS v3 0]⟩],[⟨9,1,aY (v3),false⟩]⟩⟩) (eM H) ?_ ?_
 ·rintro i1 v3 H
  refine gQ 5 ?_;refine cS H (fun h5 h5l H=>?_) (fun h5 H=>?_)
  ·refine gQ 6 ?_;refine q1 (iK (aA.cs (aR p4 i1))) ?_;refine gQ 4 ?_;refine q1 (bZ [pI ((aR p4 i1).aCb),pS ((aR p4 i1).aB9),aT ((aR p4 i1).aCa)]) (q1 rMf (bK H fun x7 z6 H=>(q1 (eW [0] [0] func93 (yQ fu (aR p4 i1) v3 _ z6)) ?_)))
   exact gE 5
  exact gE 0
 rintro v3 H
 exact gE 5
def sE(fu:Nat)(pt:aA):Option ((LB)):=bd (BD fu ([pt]:List aA)) fun x2=>some x2
theorem OC(fu:Nat)(pt:aA)(r:(LB))(H:sE fu pt=some r):bQ Tryz.prog 133 [(aA.pv pt)] (rS r):=by
 refine qJ func133 H (fun C hC H=>?_)
 refine gQ 2 ?_;refine q1 (fD (bR pt)) ?_;refine gQ 4 ?_;refine q1 (bZ [pI pt.aCb,pS pt.aB9,aT pt.aCa]) (q1 (hH ([pt]:List aA)) (bK H fun x2 z1 H=>(q1 (bE func169 (TL fu ([pt]:List aA) _ z1)) ?_)))
 exact gE 2
def n5(fu:Nat)(pu:aA)(c1:Bool):Option Bool:=sw (c1) (some true) (some (decide (pu.aCb=3)))
theorem KE(fu:Nat)(pu:aA)(c1:Bool)(r:Bool)(H:n5 fu pu c1=some r):b6 Tryz.prog 94 [(aA.pv pu),.ptr 0 0] ⟨[some ⟨4,[pB c1]⟩],[]⟩ (fun q t=>q=(.tup [])∧t=⟨[some ⟨4,[pB r]⟩],[]⟩):=by
 refine qJ func94 H (fun C hC H=>?_)
 refine gQ 2 ?_;refine q1 (fD (bR pu)) ?_;refine gQ 4 ?_;refine dL 4 H (fun g1 H=>?_) fun g1 H=>?_
 ·refine gQ 6 ?_
  cases vP H
  exact qe (ps:= []) ⟨rfl,rfl⟩ trivial
 refine gQ 6 ?_
 cases vP H
 exact qe (ps:= []) ⟨rfl,rfl⟩ trivial
abbrev iA:=aA→Bool→Option Bool
def hZ(m:iA):Prop:= ∀(pt:aA) (c1_0:Bool) (r:Bool),m pt c1_0=some r→b6 Tryz.prog 93 [(aA.pv pt),.fn 94 [.ptr 0 0]] ⟨[some ⟨4,[pB c1_0]⟩],[]⟩ (fun q t=>q=(.tup []:PV)∧t=⟨[some ⟨4,[pB r]⟩],[]⟩)
def nN(fu:Nat)(p0:iA)(pt:aA)(c1_0 x2:Bool):Nat→Bool→Option (LR Bool Bool):=fun i3 v4=>bd (p0 (aR pt.aCa i3) v4) fun x8=>some (.next x8)
def kP(fu:Nat)(p0:iA)(pt:aA)(c1_0:Bool):Option Bool:=bd (n5 fu pt c1_0) fun x2=>so (loopN (nN fu p0 pt c1_0 x2) (pt.aCa.length-0) 0 x2) fun v4=>some v4
theorem uZ(fu:Nat)(p0:iA)(p2:hZ p0):hZ (kP fu p0):=by
 intro pt c1_0 r H
 refine qJ func93 H (fun C hC H=>?_)
 refine gQ 2 ?_;refine q1 (fD (bR pt)) ?_;refine gQ 4 ?_;refine q1 (bZ [pI pt.aCb,pS pt.aB9,aT pt.aCa]) (bK H fun x2 z1 H=>(q1 (bB.callVPE (pre:=⟨[some ⟨4,[pB c1_0]⟩],[]⟩) (st':=⟨[some ⟨4,[pB x2]⟩],[]⟩) (ps:= [_]) (cs:= [.ptr 0 0]) (qs:= [(aA.pv pt),.ptr 0 0]) [0] [] rfl rfl rfl func94 (by kernel_rfl) rfl rfl rfl (eV.of ⟨⟨_,rfl,rfl,jK,rfl⟩,trivial⟩ trivial (by decide) (by decide)) jK rfl rfl rfl (KE fu pt c1_0 _ z1)) ?_))
 refine gQ 8 ?_;refine gP 10 (aA.trs_len _) (fun hl5=>?_)
 refine bS (σ:=Bool) (fun i3 v4=>⟨[(1,.fn 94 [.ptr 0 0]),(10,aT pt.aCa),(11,pN pt.aCa.length),(12,pN i3)],⟨[some ⟨4,[pB v4]⟩,some ⟨30,bR pt⟩],[]⟩⟩) (fun v4=>⟨[],⟨[some ⟨4,[pB v4]⟩,some ⟨30,bR pt⟩],[]⟩⟩) (eM H) ?_ ?_
 ·rintro i3 v4 H
  refine gQ 5 ?_;refine cS H (fun h6 h6l H=>?_) (fun h6 H=>?_)
  ·refine gQ 6 ?_;refine q1 (iK (aA.cs (aR pt.aCa i3))) ?_;refine gQ 4 ?_;refine q1 (bZ [pI ((aR pt.aCa i3).aCb),pS ((aR pt.aCa i3).aB9),aT ((aR pt.aCa i3).aCa)]) (q1 bF (bK H fun x8 z7 H=>(q1 (eW [0] [] func93 (p2 (aR pt.aCa i3) v4 _ z7)) ?_)))
   exact gE 5
  exact gE 0
 rintro v4 H
 cases vP H
 exact qe (ps:= []) ⟨rfl,rfl⟩ trivial
def cJ:Nat→aA→Bool→Option Bool
 |0,_,_=>none
 |fu+1,pt,c1_0=>kP fu (cJ fu) pt c1_0
theorem vO(fu:Nat):hZ (cJ fu):=by
 induction fu with
 |zero=>exact(fun pt c1_0 r H=>by simp only [cJ] at H;cases H)
 |succ fu ih=>exact(fun pt c1_0 r H=>by simp only [cJ] at H;exact uZ fu (cJ fu) ih pt c1_0 r H)
theorem wB(fu:Nat):hZ (cJ fu):=(vO fu)
def sD(fu:Nat)(pt:aA):Option Bool:=bd (cJ fu pt false) fun x2=>some x2
theorem CH(fu:Nat)(pt:aA)(r:Bool)(H:sD fu pt=some r):bQ Tryz.prog 39 [(aA.pv pt)] (pB r):=by
 refine qJ func39 H (fun C hC H=>?_)
 refine gQ 2 ?_;refine q1 (fD (bR pt)) ?_;refine gQ 9 ?_;refine q1 (bZ [pI pt.aCb,pS pt.aB9,aT pt.aCa]) (q1 rMf (bK H fun x2 z1 H=>(q1 (eW [1] [] func93 (wB fu pt false _ z1)) ?_)))
 exact gE 6
def SJ(fu:Nat)(pt:aA):Option Bool:=bd (sE fu pt) fun x2=>sw (decide ((x2.length:Int)=0)) (bd (sD fu pt) fun x5=>some (!(x5))) (some false)
theorem abY(fu:Nat)(pt:aA)(r:Bool)(H:SJ fu pt=some r):bQ Tryz.prog 78 [(aA.pv pt)] (pB r):=by
 refine qJ func78 H (fun C hC H=>?_)
 refine gQ 2 ?_;refine q1 (fD (bR pt)) ?_;refine gQ 4 ?_;refine q1 (bZ [pI pt.aCb,pS pt.aB9,aT pt.aCa]) (bK H fun x2 z1 H=>(q1 (bE func133 (OC fu pt _ z1)) ?_))
 refine gQ 3 ?_;refine dL 7 H (fun g3 H=>?_) fun g3 H=>?_
 ·refine qg g3 (bZ [pI pt.aCb,pS pt.aB9,aT pt.aCa]) (bK H fun x5 z4 H=>(qg g3 (bE func39 (CH fu pt _ z4)) ?_))
  exact gE 4
 exact gE 6
def mW(fu:Nat)(pa pb:aA):Option Bool:=gd (Tr.bulkL (aA.tr pb)≤68719476735) (gd (iG pa) (some (jB pb pa)))
theorem vT(fu:Nat)(pa:aA)(pb:aA)(r:Bool)(H:mW fu pa pb=some r):bQ Tryz.prog 211 [(aA.pv pa),(aA.pv pb)] (pB r):=by
 refine qJ func211 H (fun C hC H=>?_)
 refine gQ 2 ?_;refine q1 (fD (bR pa)) (q1 (fD (bR pb)) ?_)
 refine gQ 4 ?_;refine q1 (bZ [pI pb.aCb,pS pb.aB9,aT pb.aCa]) (q1 (bZ [pI pa.aCb,pS pa.aB9,aT pa.aCa]) (cF H fun z1 H=>(cF H fun z2 H=>(q1 (bE func210 (SS pb pa z1 z2)) ?_))))
 exact gE 2
def GW(fu:Nat)(pa pb:aA):Option Bool:=bd (mW fu pa pb) fun x2=>sw x2 (bd (mW fu pb pa) fun x5=>some (!(x5))) (some false)
theorem RE(fu:Nat)(pa:aA)(pb:aA)(r:Bool)(H:GW fu pa pb=some r):bQ Tryz.prog 186 [(aA.pv pa),(aA.pv pb)] (pB r):=by
 refine qJ func186 H (fun C hC H=>?_)
 refine gQ 2 ?_;refine q1 (fD (bR pa)) (q1 (fD (bR pb)) ?_)
 refine gQ 4 ?_;refine q1 (bZ [pI pa.aCb,pS pa.aB9,aT pa.aCa]) (q1 (bZ [pI pb.aCb,pS pb.aB9,aT pb.aCa]) (bK H fun x2 z1 H=>(q1 (bE func211 (vT fu pa pb _ z1)) (q1 bF ?_))))
 refine dL 8 H (fun g3 H=>?_) fun g3 H=>?_
 ·refine qg g3 (bZ [pI pb.aCb,pS pb.aB9,aT pb.aCa]) (qg g3 (bZ [pI pa.aCb,pS pa.aB9,aT pa.aCa]) (bK H fun x5 z4 H=>(qg g3 (bE func211 (vT fu pb pa _ z4)) ?_)))
  exact gE 4
 exact gE 7
def GQ(fu:Nat)(pa pb:aA):Option Bool:=gd (Tr.bulkL (aA.tr pb)≤68719476735) (gd (iG pa) (sw (jB pb pa) (gd (Tr.bulkL (aA.tr pa)≤68719476735) (gd (iG pb) (some (!(jB pa pb))))) (some false)))
theorem QD(fu:Nat)(pa:aA)(pb:aA)(r:Bool)(H:GQ fu pa pb=some r):bQ Tryz.prog 158 [(aA.pv pa),(aA.pv pb)] (pB r):=by
 refine qJ func158 H (fun C hC H=>?_)
 refine gQ 2 ?_;refine q1 (fD (bR pa)) (q1 (fD (bR pb)) ?_)
 refine gQ 4 ?_;refine q1 (bZ [pI pb.aCb,pS pb.aB9,aT pb.aCa]) (q1 (bZ [pI pa.aCb,pS pa.aB9,aT pa.aCa]) (cF H fun z1 H=>(cF H fun z2 H=>(q1 (bE func182 (HZ pb pa z1 z2)) (q1 bF ?_)))))
 refine dL 8 H (fun g3 H=>?_) fun g3 H=>?_
 ·refine qg g3 (bZ [pI pa.aCb,pS pa.aB9,aT pa.aCa]) (qg g3 (bZ [pI pb.aCb,pS pb.aB9,aT pb.aCa]) (cF H fun z4 H=>(cF H fun z5 H=>(qg g3 (bE func182 (HZ pa pb z4 z5)) ?_))))
  exact gE 4
 exact gE 7
end
end Go.Proofs.YtfcoaagbccmahaaGreat.W

namespace Go.Proofs.YtfcoaagbccmahaaGreat.W
attribute [local irreducible] lt
open Go.RowKit Go.WalkArith
theorem aeV{α:Type}{p:α→Bool}: ∀l:List α,(l.find? p).isSome=l.any p
 | []=>rfl
 |a::l=>by
  rw [List.find?_cons,List.any_cons]
  cases p a with
  |true=>rfl
  |false=>exact aeV l
theorem ak9{α:Type}{p:α→Bool}{l:List α}{m:Option (Bool⊕Unit)}{f:Unit→Option Bool}(hm:m=some (match l.find? p with|some _=> .inl true|none=> .inr ())){b:Bool}(hf:f ()=some b):so m f=some (l.any p||b):=by
 have h:=aeV (p:=p) l
 cases hq:l.find? p with
 |none=>
  rw [hq] at hm h
  rw [← h]
  exact X0 hm hf
 |some x=>
  rw [hq] at hm h
  rw [← h]
  exact soL hm
def uW(l:LB)(s:ByteArray):Bool:=l.any fun x=>decide (x=s)
theorem R1(fu:Nat)(l:LB)(s:ByteArray):lD fu l s=some (uW l s):=by
 unfold lD
 rw [ak9 (l:=l) (p:=fun x=>decide (x=s)) (b:=false) ?_ rfl,Bool.or_false]
 ·rfl
 ·exact mS (p:=fun x=>decide (x=s)) (r:=fun _=>true) (fun i hi=>by unfold aaS;cases decide (aR l i=s)<;>rfl)
theorem NT(fu:Nat)(l:LB)(s:ByteArray):lX fu l s=some (uW l s):=by
 have h1:tK fu l s=some (match l.findIdx? (fun x=>decide (s=x)) with|some i=>((i:Nat):Int)|none=> -1):=by
  unfold tK
  rw [xS (l:=l) (p:=fun x=>decide (s=x)) fun i hi=>by
   unfold D4
   cases decide (s=aR l i)<;>rfl]
  cases l.findIdx? fun x=>decide (s=x)<;>rfl
 have h2:(fun x=>decide (s=x))=fun x=>decide (x=s):=funext fun x=>decide_eq_decide.2 ⟨Eq.symm,Eq.symm⟩
 unfold lX
 refine gO h1 (congrArg some ?_)
 refine QF.trans ?_
 rw [h2]
 rfl
def AJ(k:Int)(n:ByteArray)(o:LB):LB:=if k=1 then(bif uW o n then o else o++ [n]) else o
mutual
def vsO:aA→LB→LB
 | .mk k n xs,o=>ahN xs (AJ k n o)
def ahN:List aA→LB→LB
 | [],o=>o
 |x::r,o=>ahN r (vsO x o)
end
theorem SB: ∀(xs:List aA) (o:LB),ahN xs o=xs.foldl (fun s x=>vsO x s) o
 | [],o=>rfl
 |x::r,o=>by rw [ahN,List.foldl_cons,SB r]
theorem aaI: ∀(l U:LB),l.Nodup→(∀x∈l,x∈U)→l.length≤U.length
 | [],U,_,_=>by simp
 |a::l,U,hn,h=>by
  rw [List.nodup_cons] at hn
  have ha:a∈U:=h a (by simp)
  have h1:=aaI l (U.filter fun x=> !decide (x=a)) hn.2 fun x hx=>List.mem_filter.2 ⟨h x (List.mem_cons_of_mem _ hx),by
   have:x≠a:=fun e=>hn.1 (e ▸ hx)
   simp [this]⟩
  have h2:(U.filter fun x=> !decide (x=a)).length<U.length:=List.length_filter_lt_length_iff_exists.2 ⟨a,ha,by simp⟩
  rw [List.length_cons]
  omega
def InU(U o:LB):Prop:=o.Nodup∧ ∀x∈o,x∈U
theorem apJ{o:LB}{n:ByteArray}(h:uW o n=false):n∉o:=fun hn=>by
 have:uW o n=true:=List.any_eq_true.2 ⟨n,hn,decide_eq_true rfl⟩
 rw [h] at this
 cases this
theorem InU.snoc{U o:LB}{n:ByteArray}(h:InU U o)(hn:n∈U)(hh:uW o n=false):InU U (o++ [n]):=by
 refine⟨List.nodup_append.2 ⟨h.1,by simp,fun a ha b hb e=>apJ hh ?_⟩,fun x hx=>?_⟩
 ·rw [List.mem_singleton.1 hb] at e
  exact e ▸ ha
 ·rcases List.mem_append.1 hx with h1|h1
  ·exact h.2 x h1
  ·rw [List.mem_singleton.1 h1];exact hn
theorem InU.room{U o:LB}{n:ByteArray}(h:InU U o)(hn:n∈U)(hh:uW o n=false)(hU:U.length≤68719476736):o.length+1≤68719476736:=by
 have h1:=h.snoc hn hh
 have:=aaI _ _ h1.1 h1.2
 simp only [List.length_append,List.length_singleton] at this
 omega
theorem NE{U:LB}{k:Int}{n:ByteArray}{o:LB}(hn:k=1→n∈U)(h:InU U o):InU U (AJ k n o):=by
 unfold AJ
 split
 ·cases hq:uW o n with
  |true=>exact h
  |false=>exact h.snoc (hn ‹_›) hq
 ·exact h
theorem aa5{U:LB}: ∀(xs:List aA),(∀x∈xs,∀o,Gd U x→InU U o→InU U (vsO x o))→GdL U xs→ ∀o,InU U o→InU U (ahN xs o)
 | [],_,_,o,h=>h
 |x::r,hx,hg,o,h=>by
  rw [GdL] at hg
  rw [ahN]
  exact aa5 r (fun y hy=>hx y (List.mem_cons_of_mem _ hy)) hg.2 _ (hx x (by simp) o hg.1 h)
theorem ao3{U:LB}: ∀(t:aA) (o:LB),Gd U t→InU U o→InU U (vsO t o):=by
 refine aA.ind fun k n xs ih o hg h=>?_
 rw [Gd] at hg
 rw [vsO]
 exact aa5 xs ih hg.2.2 _ (NE hg.1 h)
theorem aj9: ∀t:aA,bP fun fu=> ∀U o:LB,U.length≤68719476736→Gd U t→InU U o→lU fu t o=some (vsO t o):=by
 refine aA.ind fun k n xs ih=>?_;refine bP.succ ((bP.list ih).imp fun fu hf U o hU hg ho=>?_)
 have hg':=hg
 rw [Gd] at hg'
 simp only [lU,J5]
 have hC:M9 fu (lU fu) (.mk k n xs) o=some (.inr (AJ k n o)):=by
  unfold M9 AJ
  simp only [aA.aCb.eq_1,aA.aB9.eq_1]
  by_cases hk:k=1
  ·rw [if_pos hk]
   refine jP (by simp [hk]) (gO (R1 fu o n) ?_)
   cases hq:uW o n with
   |true=>exact g0 rfl rfl
   |false=>exact jP rfl (iJ (ho.room (hg'.1 hk) hq hU) rfl)
  ·rw [if_neg hk]
   exact g0 (by simp [hk]) rfl
 have hl:=NE hg'.1 ho
 refine X0 hC (X0 (s:=ahN xs (AJ k n o)) ?_ rfl)
 simp only [aA.aCa.eq_1]
 rw [kR (l:=xs) (g:=fun s x=>vsO x s) (fun i s=>InU U s) (fun i s hi hp=>?_) hl,SB]
 refine⟨?_,?_⟩
 ·unfold XO
  simp only [aA.aCa.eq_1]
  exact gO (hf _ (cC hi) U s hU (w9.1 hg'.2.2 _ (cC hi)) hp) rfl
 ·exact ao3 _ s (w9.1 hg'.2.2 _ (cC hi)) hp
theorem ab2: ∀t:aA,bP fun fu=> ∀U o:LB,U.length≤68719476736→Gd U t→InU U o→cR fu t o=some (vsO t o):=by
 refine aA.ind fun k n xs ih=>?_;refine bP.succ ((bP.list ih).imp fun fu hf U o hU hg ho=>?_)
 have hg':=hg
 rw [Gd] at hg'
 simp only [cR,lH]
 have hC:sG fu (.mk k n xs) o=some (AJ k n o):=by
  unfold sG AJ
  simp only [aA.aCb.eq_1,aA.aB9.eq_1]
  by_cases hk:k=1
  ·rw [if_pos hk]
   refine jP (by simp [hk]) (gO (NT fu o n) ?_)
   cases hq:uW o n with
   |true=>exact g0 rfl rfl
   |false=>exact jP rfl (iJ (ho.room (hg'.1 hk) hq hU) rfl)
  ·rw [if_neg hk]
   exact g0 (by simp [hk]) rfl
 have hl:=NE hg'.1 ho
 refine gO hC (X0 (s:=ahN xs (AJ k n o)) ?_ rfl)
 simp only [aA.aCa.eq_1]
 rw [kR (l:=xs) (g:=fun s x=>vsO x s) (fun i s=>InU U s) (fun i s hi hp=>?_) hl,SB]
 refine⟨?_,?_⟩
 ·unfold o9
  simp only [aA.aCa.eq_1]
  exact gO (hf _ (cC hi) U s hU (w9.1 hg'.2.2 _ (cC hi)) hp) rfl
 ·exact ao3 _ s (w9.1 hg'.2.2 _ (cC hi)) hp
mutual
def hpT:aA→Bool
 | .mk k _ xs=>apK xs||decide (k=3)
def apK:List aA→Bool
 | []=>false
 |x::r=>hpT x||apK r
end
theorem N4: ∀xs:List aA,apK xs=xs.any hpT
 | []=>rfl
 |x::r=>by rw [apK,N4 r,List.any_cons]
theorem afX: ∀t:aA,bP fun fu=>dM fu t=some (hpT t):=by
 refine aA.ind fun k n xs ih=>?_;refine bP.succ ((bP.list ih).imp fun fu hf=>?_)
 simp only [dM,sN]
 rw [ak9 (l:=xs) (p:=hpT) (b:=decide (k=3)) ?_ rfl,← N4]
 ·rfl
 ·simp only [aA.aCa.eq_1]
  exact mS (p:=hpT) (r:=fun _=>true) (fun i hi=>by
   unfold CQ
   simp only [aA.aCa.eq_1]
   refine gO (hf _ (cC hi)) ?_
   cases hpT (aR xs i)<;>rfl)
theorem ak1{α:Type}(p:α→Bool): ∀(l:List α) (b:Bool),l.foldl (fun b x=>b||p x) b=(b||l.any p)
 | [],b=>by simp
 |a::l,b=>by rw [List.foldl_cons,ak1 p l,List.any_cons,Bool.or_assoc]
theorem K3: ∀t:aA,bP fun fu=> ∀c:Bool,cJ fu t c=some (c||hpT t):=by
 refine aA.ind fun k n xs ih=>?_;refine bP.succ ((bP.list ih).imp fun fu hf c=>?_)
 simp only [cJ,kP]
 have hC:n5 fu (.mk k n xs) c=some (c||decide (k=3)):=by
  unfold n5
  simp only [aA.aCb.eq_1]
  cases c<;>rfl
 refine gO hC (X0 (s:=((c||decide (k=3))||xs.any hpT)) ?_ ?_)
 ·simp only [aA.aCa.eq_1]
  rw [kR (l:=xs) (g:=fun s x=>s||hpT x) (fun _ _=>True) (fun i s hi _=>⟨?_,trivial⟩) trivial,ak1]
  unfold nN
  simp only [aA.aCa.eq_1]
  exact gO (hf _ (cC hi) s) rfl
 ·rw [hpT,N4]
  cases c<;>cases decide (k=3)<;>simp
def uV(t:aA):Bool:=decide ((((vsO t []).length:Nat):Int)=0)&& !hpT t
theorem acI(t:aA)(hb:iG t):bQ Tryz.prog 34 [(aA.pv t)] (.t (.leaf (.bool (uV t)))):=by
 obtain⟨U,hU,hg⟩:=hb
 obtain⟨fu,h1,h2⟩:=((aj9 t).and (afX t)).get
 refine acJ fu t _ ?_
 unfold SR nU uV
 refine gO (gO (h1 U [] hU hg ⟨List.nodup_nil,fun x hx=>by simp at hx⟩) rfl) ?_
 cases hd:decide ((((vsO t []).length:Nat):Int)=0) with
 |true=>exact jP rfl (gO h2 rfl)
 |false=>exact g0 rfl rfl
theorem abX(t:aA)(hb:iG t):bQ Tryz.prog 78 [(aA.pv t)] (.t (.leaf (.bool (uV t)))):=by
 obtain⟨U,hU,hg⟩:=hb
 obtain⟨fu,h1,h2⟩:=((ab2 t).and (K3 t)).get
 refine abY fu t _ ?_
 have hv:sE fu t=some (vsO t []):=by
  unfold sE BD
  refine gO (X0 (s:=vsO t []) ?_ rfl) rfl
  rw [kR (l:= [t]) (g:=fun s x=>vsO x s) (fun i s=>i=0→s= []) (fun i s hi hp=>?_) (fun _=>rfl)]
  ·rfl
  ·obtain rfl:i=0:=by simp only [List.length_cons,List.length_nil] at hi;omega
   obtain rfl:=hp rfl
   refine⟨?_,fun h=>by omega⟩
   unfold GS
   exact gO (h1 U [] hU hg ⟨List.nodup_nil,fun x hx=>by simp at hx⟩) rfl
 unfold SJ uV sD
 refine gO hv ?_
 cases hd:decide ((((vsO t []).length:Nat):Int)=0) with
 |true=>exact jP rfl (gO (gO (h2 false) rfl) (by simp))
 |false=>exact g0 rfl rfl
def ES(a b:aA):Bool:=jB b a&& !jB a b
theorem RD(a b:aA)(ha:Tr.bulkL (aA.tr a)≤68719476735)(hb:Tr.bulkL (aA.tr b)≤68719476735):bQ Tryz.prog 186 [(aA.pv a),(aA.pv b)] (.t (.leaf (.bool (ES a b)))):=by
 refine RE 0 a b _ ?_
 unfold GW mW ES
 refine gO (iJ hb (iJ (.of ha) rfl)) ?_
 cases hd:jB b a with
 |true=>exact jP rfl (gO (iJ ha (iJ (.of hb) rfl)) rfl)
 |false=>exact g0 rfl rfl
theorem QB(a b:aA)(ha:Tr.bulkL (aA.tr a)≤68719476735)(hb:Tr.bulkL (aA.tr b)≤68719476735):bQ Tryz.prog 158 [(aA.pv a),(aA.pv b)] (.t (.leaf (.bool (ES a b)))):=by
 refine QD 0 a b _ ?_
 unfold GQ ES
 refine iJ hb (iJ (.of ha) ?_)
 cases hd:jB b a with
 |true=>exact jP rfl (iJ ha (iJ (.of hb) rfl))
 |false=>exact g0 rfl rfl
end Go.Proofs.YtfcoaagbccmahaaGreat.W

namespace Go.Proofs.YtfcoaagbccmahaaGreat.W
set_option maxRecDepth 100000
set_option maxHeartbeats 40000000
noncomputable section
open Tryz Go.RowKit Go.Proofs
attribute [local irreducible] lt
def oF(fu:Nat)(pw:aF)(pg:aG)(x2:List aC):Nat→((List aC))→Option (LR ((List aC)) ((List aC))):=fun i3 v5=>gd (0≤(aR x2 i3).aCl∧((aR x2 i3).aCl).toNat<(pw.aB8).length) (lt (aR pw.aB8 (((aR x2 i3).aCl).toNat)) fun y9=>gd (0≤(aR x2 i3).aCz∧((aR x2 i3).aCz).toNat<(y9.aCk).length) (lt (aR y9.aCk (((aR x2 i3).aCz).toNat)) fun y12=>sw (decide (y12.aCg=pg.aCg)) (gd (Tr.bulkL (aA.tr y12.aCn)≤68719476735) (gd (iG pg.aCd) (sw (jB y12.aCn pg.aCd) (gd ((v5).length+(([(aR x2 i3)]:List aC)).length≤68719476736) (some (.next (v5++([(aR x2 i3)]:List aC))))) (some (.next v5))))) (some (.next v5))))
def l9(fu:Nat)(pw:aF)(pg:aG):Option ((List aC)):=bd (tO fu pw) fun x2=>so (loopN (oF fu pw pg x2) (x2.length-0) 0 ([])) fun v5=>some v5
theorem FY(fu:Nat)(pw:aF)(pg:aG)(r:(List aC))(H:l9 fu pw pg=some r):bQ Tryz.prog 185 [(aF.pv pw),(aG.pv pg)] (cX r):=by
 refine qJ func185 H (fun C hC H=>?_)
 refine gQ 2 ?_;refine q1 (fD ([aP pw.aB8])) (q1 (fD (dK pg)) ?_)
 refine gQ 4 ?_;refine q1 (qP ([]:List aC)) ?_;refine gQ 4 ?_;refine q1 (bZ [aP pw.aB8]) (bK H fun x2 z1 H=>(q1 (bE func209 (Q4 fu pw _ z1)) ?_))
 refine gQ 7 ?_;refine gP 6 (aC.trs_len _) (fun hl6=>?_)
 refine bS (σ:=(List aC)) (fun i3 v5=>⟨[(2,.ptr 0 0),(3,.ptr 1 0),(4,.nil),(5,fW v5 0),(6,cX x2),(7,pN i3)],⟨[some ⟨26,[aP pw.aB8]⟩,some ⟨32,dK pg⟩],[⟨52,2,aC.trs (v5),false⟩]⟩⟩) (fun v5=>⟨[(4,.nil),(5,fW v5 0)],⟨[some ⟨26,[aP pw.aB8]⟩,some ⟨32,dK pg⟩],[⟨52,2,aC.trs (v5),false⟩]⟩⟩) (eM H) ?_ ?_
 ·rintro i3 v5 H
  refine gQ 8 ?_;refine cS H (fun h7 h7l H=>?_) (fun h7 H=>?_)
  ·refine gQ 4 ?_;refine cF H fun z8 H=>(fV H fun y9 h10 H=>(cF H fun z11 H=>(fV H fun y12 h13 H=>(dW (dI [2] bW (dB [18] 0 1 uP (dI [6] bF (dI [7] bF (dI [20,21] qQ (dI [22] w7 (dI [23] vQ (dI [19,24] (rIm h10 z8 aeU.h) (dI [25] w7 ?_)))))))))))))
   refine dI [26] vQ (dI [6] bF (dI [7] bF (dI [28,29] qQ (dI [30] w7 (dI [31] vQ (dI [27,32] (rIm h13 z11 Z0.h) (dI [33] (iK (aI.cs y12)) (dE [] tAl (lB [8,34] kG (dN ?_))))))))))
   refine gQ 8 ?_;refine dL 40 H (fun g14 H=>?_) fun g14 H=>?_
   ·refine qg g14 bW (qg g14 (bZ [pI y12.aCn.aCb,pS y12.aCn.aB9,aT y12.aCn.aCa]) (qg g14 bW (qg g14 (bZ [pI pg.aCd.aCb,pS pg.aCd.aB9,aT pg.aCd.aCa]) (cF H fun z15 H=>(cF H fun z16 H=>(qg g14 (bE func210 (SS y12.aCn pg.aCd z15 z16)) ?_))))))
    refine gQ 2 ?_;refine bC H (fun h17 H=>?_) (fun h17 H=>?_)
    ·refine gQ 5 ?_;refine q1 (iK (aC.cs (aR x2 i3))) (q1 (hH ([(aR x2 i3)]:List aC)) (cF H fun z18 H=>(q1 (lE z18) ?_)))
     exact gE 7
    exact gE 6
   exact gE 14
  exact gE 0
 rintro v5 H
 exact gE 5
def BP(fu:Nat)(p2:aF)(p1:aG)(x2:List aC)(i3:Nat)(y7:aM)(y10:aI):Nat→Bool→Option (LR Bool (LR Unit (aC×Int))):=fun i12 v13=>gd (0≤(aR x2 i12).aCl∧((aR x2 i12).aCl).toNat<(p2.aB8).length) (lt (aR p2.aB8 (((aR x2 i12).aCl).toNat)) fun y16=>gd (0≤(aR x2 i12).aCz∧((aR x2 i12).aCz).toNat<(y16.aCk).length) (lt (aR y16.aCk (((aR x2 i12).aCz).toNat)) fun y19=>sw (v13) (gd (Tr.bulkL (aA.tr y19.aCn)≤68719476735) (gd (Tr.bulkL (aA.tr y10.aCn)≤68719476735) (some (.next (!(ES y19.aCn y10.aCn)))))) (some (.next false))))
def t7(fu:Nat)(p2:aF)(p1:aG)(x2:List aC)(i3:Nat)(y7:aM)(y10:aI):Option ((LR Unit (aC×Int))⊕Bool):=loopN (BP fu p2 p1 x2 i3 y7 y10) (x2.length-0) 0 true
def BN(fu:Nat)(p2:aF)(p1:aG)(x2:List aC)(i3:Nat)(y7:aM)(y10:aI)(v13:Bool):Option ((LR Unit (aC×Int))⊕(Bool×Bool×Bool)):=sw (v13) (sw (y10.aCB) (gd (iG p1.aCd) (sw (!(uV p1.aCd)) (some (.inl (.ret ((aC.mk 0 0),2)))) (some (.inr (y10.aCB,y10.aCB,(!(uV p1.aCd))))))) (some (.inr (y10.aCB,y10.aCB,false)))) (some (.inr (false,false,false)))
def BO(fu:Nat)(p2:aF)(p1:aG)(x2:List aC):Nat→Unit→Option (LR Unit (aC×Int)):=fun i3 _=>gd (0≤(aR x2 i3).aCl∧((aR x2 i3).aCl).toNat<(p2.aB8).length) (lt (aR p2.aB8 (((aR x2 i3).aCl).toNat)) fun y7=>gd (0≤(aR x2 i3).aCz∧((aR x2 i3).aCz).toNat<(y7.aCk).length) (lt (aR y7.aCk (((aR x2 i3).aCz).toNat)) fun y10=>so (t7 fu p2 p1 x2 i3 y7 y10) fun v13=>so (BN fu p2 p1 x2 i3 y7 y10 v13) fun(v24,v25,v26)=>sw (v13) (some (.ret ((aR x2 i3),0))) (some (.next ()))))
def rB(fu:Nat)(p2:aF)(p1:aG):Option (aC×Int):=bd (l9 fu p2 p1) fun x2=>so (loopN (BO fu p2 p1 x2) (x2.length-0) 0 ()) fun _=>some ((aC.mk 0 0),1)
theorem MR(fu:Nat)(p2:aF)(p1:aG)(r:aC×Int)(H:rB fu p2 p1=some r):bQ Tryz.prog 160 [(aF.pv p2),(aG.pv p1)] (.tup [(aC.pv r.1),pI r.2]):=by
 refine qJ func160 H (fun C hC H=>?_)
 refine gQ 2 ?_;refine q1 (fD ([aP p2.aB8])) (q1 (fD (dK p1)) ?_)
 refine gQ 5 ?_;refine q1 (bZ [aP p2.aB8]) (q1 (bZ [pS p1.aCg,pI p1.aCd.aCb,pS p1.aCd.aB9,aT p1.aCd.aCa]) (bK H fun x2 z1 H=>(q1 (bE func185 (FY fu p2 p1 _ z1)) ?_)))
 refine gQ 7 ?_;refine gP 6 (aC.trs_len _) (fun hl4=>?_)
 refine bS (σ:=Unit) (fun i3 _=>⟨[(2,.ptr 0 0),(3,.ptr 1 0),(4,.ptr 2 0),(5,pI 0),(6,cX x2),(7,pN i3)],⟨[some ⟨26,[aP p2.aB8]⟩,some ⟨32,dK p1⟩,some ⟨52,[pI 0,pI 0]⟩],[]⟩⟩) (fun _=>⟨[(4,.ptr 2 0),(5,pI 0)],⟨[some ⟨26,[aP p2.aB8]⟩,some ⟨32,dK p1⟩,some ⟨52,[pI 0,pI 0]⟩],[]⟩⟩) (eM H) ?_ ?_
 ·rintro i3 ⟨⟩ H
  refine gQ 8 ?_;refine cS H (fun h5 h5l H=>?_) (fun h5 H=>?_)
  ·refine gQ 4 ?_;refine cF H fun z6 H=>(fV H fun y7 h8 H=>(cF H fun z9 H=>(fV H fun y10 h11 H=>(dW (dI [2] bW (dB [21] 0 1 uP (dI [6] bF (dI [7] bF (dI [23,24] qQ (dI [25] w7 (dI [26] vQ (dI [22,27] (rIm h8 z6 aeU.h) (dI [28] w7 ?_)))))))))))))
   refine dI [29] vQ (dI [6] bF (dI [7] bF (dI [31,32] qQ (dI [33] w7 (dI [34] vQ (dI [30,35] (rIm h11 z9 Z0.h) (dI [36] (iK (aI.cs y10)) (dE [] tAl (lB [8,37] kG (dN ?_))))))))))
   refine gQ 9 ?_;refine bS (σ:=Bool) (fun i12 v13=>⟨[(2,.ptr 0 0),(3,.ptr 1 0),(4,.ptr 2 0),(5,pI 0),(6,cX x2),(7,pN i3),(8,.ptr 3 0),(9,pB v13),(10,pN i12),(15,pN i3),(16,cX x2),(17,pN x2.length),(18,pB (decide ((i3:Int)<(x2.length:Int)))),(21,.ptr 0 0),(22,aP p2.aB8),(23,cX x2),(24,pN i3),(25,.eptr (aC.cs (aR x2 i3))),(26,.eptr (aC.cs (aR x2 i3))),(27,pI ((aR x2 i3).aCl)),(28,.eptr (aM.cs y7)),(29,.eptr ((aM.cs y7).drop 4)),(30,nS y7.aCk),(31,cX x2),(32,pN i3),(33,.eptr (aC.cs (aR x2 i3))),(34,.eptr ((aC.cs (aR x2 i3)).drop 1)),(35,pI ((aR x2 i3).aCz)),(36,.eptr (aI.cs y10)),(37,(aI.pv y10))],⟨[some ⟨26,[aP p2.aB8]⟩,some ⟨32,dK p1⟩,some ⟨52,[pI 0,pI 0]⟩,some ⟨163,c8 y10⟩],[]⟩⟩) (fun v13=>⟨[(2,.ptr 0 0),(3,.ptr 1 0),(4,.ptr 2 0),(5,pI 0),(6,cX x2),(7,pN i3),(8,.ptr 3 0),(9,pB v13),(15,pN i3),(16,cX x2),(17,pN x2.length),(18,pB (decide ((i3:Int)<(x2.length:Int)))),(21,.ptr 0 0),(22,aP p2.aB8),(23,cX x2),(24,pN i3),(25,.eptr (aC.cs (aR x2 i3))),(26,.eptr (aC.cs (aR x2 i3))),(27,pI ((aR x2 i3).aCl)),(28,.eptr (aM.cs y7)),(29,.eptr ((aM.cs y7).drop 4)),(30,nS y7.aCk),(31,cX x2),(32,pN i3),(33,.eptr (aC.cs (aR x2 i3))),(34,.eptr ((aC.cs (aR x2 i3)).drop 1)),(35,pI ((aR x2 i3).aCz)),(36,.eptr (aI.cs y10)),(37,(aI.pv y10))],⟨[some ⟨26,[aP p2.aB8]⟩,some ⟨32,dK p1⟩,some ⟨52,[pI 0,pI 0]⟩,some ⟨163,c8 y10⟩],[]⟩⟩) (eM H) ?_ ?_
   ·rintro i12 v13 H
    refine gQ 8 ?_;refine cS H (fun h14 h14l H=>?_) (fun h14 H=>?_)
    ·refine gQ 4 ?_;refine cF H fun z15 H=>(fV H fun y16 h17 H=>(cF H fun z18 H=>(fV H fun y19 h20 H=>(dW (dI [2] bW (dB [44] 0 1 uP (dI [6] bF (dI [10] bF (dI [46,47] qQ (dI [48] w7 (dI [49] vQ (dI [45,50] (rIm h17 z15 aeU.h) (dI [51] w7 ?_)))))))))))))
     refine dI [52] vQ (dI [6] bF (dI [10] bF (dI [54,55] qQ (dI [56] w7 (dI [57] vQ (dI [53,58] (rIm h20 z18 Z0.h) (dI [59] (iK (aI.cs y19)) (dE [] tAl (lB [11,60] kG (dN ?_))))))))))
     refine gQ 3 ?_;refine dL 62 H (fun g21 H=>?_) fun g21 H=>?_
     ·refine qg g21 bW (qg g21 (bZ [pI y19.aCn.aCb,pS y19.aCn.aB9,aT y19.aCn.aCa]) (qg g21 bW (qg g21 (bZ [pI y10.aCn.aCb,pS y10.aCn.aB9,aT y10.aCn.aCa]) (cF H fun z22 H=>(cF H fun z23 H=>(qg g21 (bE func186 (RD y19.aCn y10.aCn z22 z23)) ?_))))))
      exact gE 9
     exact gE 14
    exact gE 0
   rintro v13 H
   refine qS ?_;refine n3 (σ:=Bool×Bool×Bool) (fun(v24,v25,v26)=>⟨[(2,.ptr 0 0),(3,.ptr 1 0),(4,.ptr 2 0),(5,pI 0),(6,cX x2),(7,pN i3),(8,.ptr 3 0),(9,pB v13),(15,pN i3),(16,cX x2),(17,pN x2.length),(18,pB (decide ((i3:Int)<(x2.length:Int)))),(21,.ptr 0 0),(22,aP p2.aB8),(23,cX x2),(24,pN i3),(25,.eptr (aC.cs (aR x2 i3))),(26,.eptr (aC.cs (aR x2 i3))),(27,pI ((aR x2 i3).aCl)),(28,.eptr (aM.cs y7)),(29,.eptr ((aM.cs y7).drop 4)),(30,nS y7.aCk),(31,cX x2),(32,pN i3),(33,.eptr (aC.cs (aR x2 i3))),(34,.eptr ((aC.cs (aR x2 i3)).drop 1)),(35,pI ((aR x2 i3).aCz)),(36,.eptr (aI.cs y10)),(37,(aI.pv y10)),(70,pB v13),(71,pB v13),(74,pB v24),(75,pB v25),(80,pB v26)],⟨[some ⟨26,[aP p2.aB8]⟩,some ⟨32,dK p1⟩,some ⟨52,[pI 0,pI 0]⟩,some ⟨163,c8 y10⟩],[]⟩⟩) (eM H) (fun H=>?_) ?_
   ·refine gQ 4 ?_;refine dL 71 H (fun g27 H=>?_) fun g27 H=>?_
    ·refine gQ 4 ?_;refine dL 75 H (fun g28 H=>?_) fun g28 H=>?_
     ·refine qg g28 bW (qg g28 (bZ [pI p1.aCd.aCb,pS p1.aCd.aB9,aT p1.aCd.aCa]) (cF H fun z29 H=>(qg g28 (bE func34 (acI p1.aCd z29)) ?_)))
      refine gQ 3 ?_;refine bC H (fun h30 H=>?_) (fun h30 H=>?_)
      ·refine gQ 6 ?_;refine cV.ret ?_
       obtain rfl:_=r:=(lkR (skL (vP H)):)
       exact qf2
      exact gE 1
     exact gE 8
    exact gE 12
   rintro⟨v24,v25,v26⟩ H
   refine gQ 4 ?_;refine bC H (fun h31 H=>?_) (fun h31 H=>?_)
   ·refine gQ 5 ?_;refine q1 (iK (aC.cs (aR x2 i3))) ?_;exact gE 3
   exact gE 6
  exact gE 0
 rintro⟨⟩ H
 exact gE 6
def s7(fu:Nat)(p0:aC)(c1:aF)(c2:aI):Option Bool:=bd (rM fu c1 p0) fun(x2,x3)=>gd (Tr.bulkL (aA.tr x2.aCn)≤68719476735) (gd (Tr.bulkL (aA.tr c2.aCn)≤68719476735) (some (ES x2.aCn c2.aCn)))
theorem H3(fu:Nat)(p0:aC)(c1:aF)(c2:aI)(r:Bool)(H:s7 fu p0 c1 c2=some r):b6 Tryz.prog 157 [(aC.pv p0),.ptr 0 0,.ptr 1 0] ⟨[some ⟨26,[aP c1.aB8]⟩,some ⟨163,c8 c2⟩],[]⟩ (fun q t=>q=(pB r)∧t=⟨[some ⟨26,[aP c1.aB8]⟩,some ⟨163,c8 c2⟩],[]⟩):=by
 refine qJ func157 H (fun C hC H=>?_)
 refine gQ 2 ?_;refine q1 (fD ([pI p0.aCl,pI p0.aCz])) ?_;refine gQ 4 ?_;refine q1 (bZ [aP c1.aB8]) (q1 (bZ [pI p0.aCl,pI p0.aCz]) (dU H fun x2 x3 z1 H=>(q1 (bE func118 (u0 fu c1 p0 _ z1)) ?_)))
 refine gQ 10 ?_;refine q1 (bZ [pI x2.aCn.aCb,pS x2.aCn.aB9,aT x2.aCn.aCa]) (q1 bW (q1 (bZ [pI c2.aCn.aCb,pS c2.aCn.aB9,aT c2.aCn.aCa]) (cF H fun z4 H=>(cF H fun z5 H=>(q1 (bE func158 (QB x2.aCn c2.aCn z4 z5)) ?_)))))
 exact gE 2
def iQ(fu:Nat)(ps:List aC)(c1_0:aF)(c1_1:aI):Nat→Unit→Option (LR Unit Int):=fun i1 _=>bd (s7 fu (aR ps i1) c1_0 c1_1) fun x5=>sw x5 (some (.ret (i1:Int))) (some (.next ()))
def dT(fu:Nat)(ps:List aC)(c1_0:aF)(c1_1:aI):Option Int:=so (loopN (iQ fu ps c1_0 c1_1) (ps.length-0) 0 ()) fun _=>some (-1)
theorem nM(fu:Nat)(ps:List aC)(c1_0:aF)(c1_1:aI)(r:Int)(H:dT fu ps c1_0 c1_1=some r):b6 Tryz.prog 183 [cX ps,.fn 157 [.ptr 0 0,.ptr 1 0]] ⟨[some ⟨26,[aP c1_0.aB8]⟩,some ⟨163,c8 c1_1⟩],[]⟩ (fun q t=>q=(pI r)∧t=⟨[some ⟨26,[aP c1_0.aB8]⟩,some ⟨163,c8 c1_1⟩],[]⟩):=by
 refine qJ func183 H (fun C hC H=>?_)
 refine gQ 11 ?_;refine gP 0 (aC.trs_len _) (fun hl2=>?_)
 refine bS (σ:=Unit) (fun i1 _=>⟨[(0,cX ps),(1,.fn 157 [.ptr 0 0,.ptr 1 0]),(4,pI 0),(7,pN ps.length),(8,pN i1)],⟨[some ⟨26,[aP c1_0.aB8]⟩,some ⟨163,c8 c1_1⟩],[]⟩⟩) (fun _=>⟨[(4,pI 0)],⟨[some ⟨26,[aP c1_0.aB8]⟩,some ⟨163,c8 c1_1⟩],[]⟩⟩) (eM H) ?_ ?_
 ·rintro i1 ⟨⟩ H
  refine gQ 5 ?_;refine cS H (fun h3 h3l H=>?_) (fun h3 H=>?_)
  ·refine gQ 14 ?_;refine q1 (iK (aC.cs (aR ps i1))) (bK H fun x5 z4 H=>(q1 (bB.callVPE (pre:=⟨[some ⟨26,[aP c1_0.aB8]⟩,some ⟨163,c8 c1_1⟩],[]⟩) (st':=⟨[some ⟨26,[aP c1_0.aB8]⟩,some ⟨163,c8 c1_1⟩],[]⟩) (ps:= [_]) (cs:= [.ptr 0 0,.ptr 1 0]) (qs:= [(aC.pv (aR ps i1)),.ptr 0 0,.ptr 1 0]) [0,1] [] rfl rfl rfl func157 (by kernel_rfl) rfl rfl rfl (eV.of ⟨⟨_,rfl,rfl,jK,rfl⟩,⟨⟨_,rfl,rfl,jK,rfl⟩,trivial⟩⟩ trivial (by decide) (by decide)) jK rfl rfl rfl (H3 fu (aR ps i1) c1_0 c1_1 _ z4)) (qN ?_)))
   refine bC H (fun h6 H=>gE 5) fun h6 H=>?_;exact gE 5
  exact gE 0
 rintro⟨⟩ H
 exact gE 4
def cL(fu:Nat)(ps:List aC)(c1_0:aF)(c1_1:aI):Option Bool:=bd (dT fu ps c1_0 c1_1) fun x2=>some (decide (x2≥0))
theorem mM(fu:Nat)(ps:List aC)(c1_0:aF)(c1_1:aI)(r:Bool)(H:cL fu ps c1_0 c1_1=some r):b6 Tryz.prog 156 [cX ps,.fn 157 [.ptr 0 0,.ptr 1 0]] ⟨[some ⟨26,[aP c1_0.aB8]⟩,some ⟨163,c8 c1_1⟩],[]⟩ (fun q t=>q=(pB r)∧t=⟨[some ⟨26,[aP c1_0.aB8]⟩,some ⟨163,c8 c1_1⟩],[]⟩):=by
 refine qJ func156 H (fun C hC H=>?_)
 refine gQ 8 ?_;refine bK H fun x2 z1 H=>(q1 (eW [0,1] [] func183 (nM fu ps c1_0 c1_1 _ z1)) ?_)
 exact gE 3
def BA(fu:Nat)(pw:aF)(pg:aG):Nat→Unit→Option (LR Unit (aC×Int)):=fun i3 _=>lt (aR (List.filter (fun o=>rG pw pg o) (fG pw)) i3) fun y6=>bd (rM fu pw y6) fun(x9,x10)=>bd (cL fu (List.filter (fun o=>rG pw pg o) (fG pw)) pw x9) fun x12=>sw x12 (some (.next ())) (sw (x9.aCB) (gd (iG pg.aCd) (sw (!(uV pg.aCd)) (some (.ret ((aC.mk 0 0),2))) (some (.ret (y6,0))))) (some (.ret (y6,0))))
def q8(fu:Nat)(pw:aF)(pg:aG):Option (aC×Int):=gd (wt pw≤13000000) (gd (iG (aG.aCd pg)) (so (loopN (BA fu pw pg) ((List.filter (fun o=>rG pw pg o) (fG pw)).length-0) 0 ()) fun _=>some ((aC.mk 0 0),1)))
theorem LX(fu:Nat)(pw:aF)(pg:aG)(r:aC×Int)(H:q8 fu pw pg=some r):bQ Tryz.prog 117 [(aF.pv pw),(aG.pv pg)] (.tup [(aC.pv r.1),pI r.2]):=by
 refine qJ func117 H (fun C hC H=>?_)
 refine gQ 2 ?_;refine q1 (fD ([aP pw.aB8])) (q1 (fD (dK pg)) ?_)
 refine gQ 5 ?_;refine q1 (bZ [aP pw.aB8]) (q1 (bZ [pS pg.aCg,pI pg.aCd.aCb,pS pg.aCd.aB9,aT pg.aCd.aCa]) (cF H fun z1 H=>(cF H fun z2 H=>(q1 (bE func155 (al4 pw pg z1 z2)) ?_))))
 refine gQ 9 ?_;refine gP 6 (aC.trs_len _) (fun hl4=>?_)
 refine bS (σ:=Unit) (fun i3 _=>⟨[(2,.ptr 0 0),(3,.ptr 1 0),(4,.ptr 2 0),(5,pI 0),(6,cX (List.filter (fun o=>rG pw pg o) (fG pw))),(15,cX (List.filter (fun o=>rG pw pg o) (fG pw))),(16,pN ((List.filter (fun o=>rG pw pg o) (fG pw)).length)),(17,pN i3)],⟨[some ⟨26,[aP pw.aB8]⟩,some ⟨32,dK pg⟩,some ⟨52,[pI 0,pI 0]⟩],[]⟩⟩) (fun _=>⟨[(4,.ptr 2 0),(5,pI 0)],⟨[some ⟨26,[aP pw.aB8]⟩,some ⟨32,dK pg⟩,some ⟨52,[pI 0,pI 0]⟩],[]⟩⟩) (eM H) ?_ ?_
 ·rintro i3 ⟨⟩ H
  refine gQ 5 ?_;refine cS H (fun h5 h5l H=>?_) (fun h5 H=>?_)
  ·refine gQ 5 ?_;refine fV H fun y6 h7 H=>(q1 (yK h7 h5l) (q1 (iK (aC.cs y6)) ?_))
   refine gQ 5 ?_;refine q1 (bZ [aP pw.aB8]) (q1 (bZ [pI y6.aCl,pI y6.aCz]) (dU H fun x9 x10 z8 H=>(q1 (bE func118 (u0 fu pw y6 _ z8)) ?_)))
   refine gQ 10 ?_;refine q1 rMf (bK H fun x12 z11 H=>(q1 (eW [0,4] [] func156 (mM fu (List.filter (fun o=>rG pw pg o) (fG pw)) pw x9 _ z11)) ?_))
   refine gQ 7 ?_;refine bC H (fun h13 H=>?_) (fun h13 H=>?_)
   ·refine cV.exit ?_;exact gE 4
   refine gQ 7 ?_;refine dL 33 H (fun g14 H=>?_) fun g14 H=>?_
   ·refine qg g14 bW (qg g14 (bZ [pI pg.aCd.aCb,pS pg.aCd.aB9,aT pg.aCd.aCa]) (cF H fun z15 H=>(qg g14 (bE func78 (abX pg.aCd z15)) ?_)))
    refine gQ 3 ?_;refine bC H (fun h16 H=>gE 6) fun h16 H=>?_;refine gQ 3 ?_;refine q1 (bZ [pI y6.aCl,pI y6.aCz]) ?_;exact gE 3
   refine gQ 10 ?_;refine q1 (bZ [pI y6.aCl,pI y6.aCz]) ?_;exact gE 3
  exact gE 0
 rintro⟨⟩ H
 exact gE 6
end
end Go.Proofs.YtfcoaagbccmahaaGreat.W

namespace Go.Proofs.YtfcoaagbccmahaaGreat.W
set_option maxRecDepth 100000
set_option maxHeartbeats 40000000
noncomputable section
open Tryz Go.RowKit Go.Proofs
attribute [local irreducible] lt
abbrev AG:=aF→ByteArray→(LB)→Option ((LB))
def AF(m:AG):Prop:= ∀(pw:aF) (p1:ByteArray) (p6:LB) (r:(LB)),m pw p1 p6=some r→b6 Tryz.prog 112 [(aF.pv pw),pS p1,aS p6 0] ⟨[],[⟨9,1,aY (p6),false⟩]⟩ (fun q t=>q=(aS r 0:PV)∧t=⟨[],[⟨9,1,aY (r),false⟩]⟩)
def DR(fu:Nat)(p4:AG)(pw:aF)(p1:ByteArray)(p6:LB)(x2:aU)(x3:Int)(x4:Bool):Nat→((LB))→Option (LR ((LB)) ((LB))):=fun i5 v7=>bd (lD fu v7 (aR x2.aCi i5)) fun x11=>sw (!(x11)) (gd ((v7).length+(([(aR x2.aCi i5)]:LB)).length≤68719476736) (bd (p4 pw (aR x2.aCi i5) (v7++([(aR x2.aCi i5)]:LB))) fun x15=>some (.next x15))) (some (.next v7))
def GB(fu:Nat)(p4:AG)(pw:aF)(p1:ByteArray)(p6:LB):Option ((LB)):=bd (qF fu pw p1) fun(x2,x3,x4)=>so (loopN (DR fu p4 pw p1 p6 x2 x3 x4) (x2.aCi.length-0) 0 p6) fun v7=>some v7
theorem T3(fu:Nat)(p4:AG)(pC:AF p4):AF (GB fu p4):=by
 intro pw p1 p6 r H
 refine qJ func112 H (fun C hC H=>?_)
 refine gQ 2 ?_;refine q1 (fD ([aP pw.aB8])) ?_;refine gQ 4 ?_;refine q1 (bZ [aP pw.aB8]) (q1 bF (LU H fun x2 x3 x4 z1 H=>(q1 (bE func121 (BY fu pw p1 _ z1)) ?_)))
 refine gQ 14 ?_;refine cV.fact (cI 1 1 rfl rfl rfl (bV _)) (fun hl8=>?_)
 try dsimp only at hl8
 refine bS (σ:=(LB)) (fun i5 v7=>⟨[(2,aS v7 0),(3,.ptr 0 0),(6,.nil),(7,.ptr 1 0),(10,pN i5)],⟨[some ⟨26,[aP pw.aB8]⟩,some ⟨156,s5 x2⟩],[⟨9,1,aY (v7),false⟩]⟩⟩) (fun v7=>⟨[(2,aS v7 0),(6,.nil)],⟨[some ⟨26,[aP pw.aB8]⟩,some ⟨156,s5 x2⟩],[⟨9,1,aY (v7),false⟩]⟩⟩) (eM H) ?_ ?_
 ·rintro i5 v7 H
  refine gQ 9 ?_;refine cS H (fun h9 h9l H=>?_) (fun h9 H=>?_)
  ·refine gQ 11 ?_;refine bK H fun x11 z10 H=>(q1 (bE func153 (mJ fu v7 (aR x2.aCi i5) _ z10)) ?_)
   refine gQ 2 ?_;refine bC H (fun h12 H=>?_) (fun h12 H=>?_)
   ·refine cF H fun z13 H=>(bK H fun x15 z14 H=>(dW (dB [3] 0 1 (GO [aP pw.aB8]) (dI [7] bW (dB [34] 0 1 uP (dI [10] bF (dI [35,36] qQ (dI [37] vQ (dI [2] bF (dI [7] bW (dD [40] eE (dI [10] bF (dI [41,42] qQ ?_)))))))))))))
    refine dI [43] vQ (dI [44] (hH ([(aR x2.aCi i5)]:LB)) (dE [39,45] (lE z13) (dE [33,38,46] (eW [] [0] func112 (pC pw (aR x2.aCi i5) (v7++([(aR x2.aCi i5)]:LB)) _ z14)) (dI [47] bF (dN ?_)))))
    exact gE 5
   exact gE 6
  exact gE 0
 rintro v7 H
 exact gE 5
def kM:Nat→aF→ByteArray→(LB)→Option ((LB))
 |0,_,_,_=>none
 |fu+1,pw,p1,p6=>GB fu (kM fu) pw p1 p6
theorem W5(fu:Nat):AF (kM fu):=by
 induction fu with
 |zero=>exact(fun pw p1 p6 r H=>by simp only [kM] at H;cases H)
 |succ fu ih=>exact(fun pw p1 p6 r H=>by simp only [kM] at H;exact T3 fu (kM fu) ih pw p1 p6 r H)
theorem ZG(fu:Nat):AF (kM fu):=(W5 fu)
def q9(fu:Nat)(pw:aF)(p1:ByteArray):Option ((LB)):=bd (kM fu pw p1 ([])) fun x2=>some x2
theorem MN(fu:Nat)(pw:aF)(p1:ByteArray)(r:(LB))(H:q9 fu pw p1=some r):bQ Tryz.prog 57 [(aF.pv pw),pS p1] (rS r):=by
 refine qJ func57 H (fun C hC H=>?_)
 refine gQ 2 ?_;refine q1 (fD ([aP pw.aB8])) ?_;refine gQ 4 ?_;refine q1 (bZ [aP pw.aB8]) (q1 bF (q1 (qP ([]:LB)) (bK H fun x2 z1 H=>(q1 (eW [] [0] func112 (ZG fu pw p1 ([]) _ z1)) ?_))))
 exact gE 2
abbrev u5:=aF→(LB)→ByteArray→Option ((LB))
def u4(m:u5):Prop:= ∀(pw:aF) (p6:LB) (p1:ByteArray) (r:(LB)),m pw p6 p1=some r→b6 Tryz.prog 178 [(aF.pv pw),aS p6 0,pS p1] ⟨[],[⟨9,1,aY (p6),false⟩]⟩ (fun q t=>q=(aS r 0:PV)∧t=⟨[],[⟨9,1,aY (r),false⟩]⟩)
def yR(fu:Nat)(p2:u5)(pw:aF)(p6:LB)(p1:ByteArray)(x2:aU)(x3:Int)(x4:Bool):Nat→((LB))→Option (LR ((LB)) ((LB))):=fun i5 v7=>bd (lX fu v7 (aR x2.aCi i5)) fun x11=>sw (!(x11)) (gd ((v7).length+(([(aR x2.aCi i5)]:LB)).length≤68719476736) (bd (p2 pw (v7++([(aR x2.aCi i5)]:LB)) (aR x2.aCi i5)) fun x15=>some (.next x15))) (some (.next v7))
def BC(fu:Nat)(p2:u5)(pw:aF)(p6:LB)(p1:ByteArray):Option ((LB)):=bd (EM fu pw p1) fun(x2,x3,x4)=>so (loopN (yR fu p2 pw p6 p1 x2 x3 x4) (x2.aCi.length-0) 0 p6) fun v7=>some v7
theorem OH(fu:Nat)(p2:u5)(pA:u4 p2):u4 (BC fu p2):=by
 intro pw p6 p1 r H
 refine qJ func178 H (fun C hC H=>?_)
 refine gQ 2 ?_;refine q1 (fD ([aP pw.aB8])) ?_;refine gQ 4 ?_;refine q1 (bZ [aP pw.aB8]) (q1 bF (LU H fun x2 x3 x4 z1 H=>(q1 (bE func115 (QJ fu pw p1 _ z1)) ?_)))
 refine gQ 17 ?_;refine gP 20 (bV _) (fun hl8=>?_)
 try dsimp only at hl8
 refine bS (σ:=(LB)) (fun i5 v7=>⟨[(1,aS v7 0),(3,.ptr 0 0),(6,.nil),(20,rS x2.aCi),(21,pN x2.aCi.length),(22,pN i5)],⟨[some ⟨26,[aP pw.aB8]⟩,some ⟨156,s5 x2⟩],[⟨9,1,aY (v7),false⟩]⟩⟩) (fun v7=>⟨[(1,aS v7 0),(6,.nil)],⟨[some ⟨26,[aP pw.aB8]⟩,some ⟨156,s5 x2⟩],[⟨9,1,aY (v7),false⟩]⟩⟩) (eM H) ?_ ?_
 ·rintro i5 v7 H
  refine gQ 5 ?_;refine cS H (fun h9 h9l H=>?_) (fun h9 H=>?_)
  ·refine gQ 13 ?_;refine bK H fun x11 z10 H=>(q1 (bE func195 (zG fu v7 (aR x2.aCi i5) _ z10)) ?_)
   refine gQ 2 ?_;refine bC H (fun h12 H=>?_) (fun h12 H=>?_)
   ·refine cF H fun z13 H=>(bK H fun x15 z14 H=>(dW (dB [3] 0 1 (GO [aP pw.aB8]) (dI [1] bF (dI [11] bF (dI [32] (hH ([(aR x2.aCi i5)]:LB)) (dE [31,33] (lE z13) (dI [11] bF (dE [30,34,35] (eW [] [0] func178 (pA pw (v7++([(aR x2.aCi i5)]:LB)) (aR x2.aCi i5) _ z14)) (dI [36] bF (dN ?_)))))))))))
    exact gE 4
   exact gE 5
  exact gE 0
 rintro v7 H
 exact gE 5
def iH:Nat→aF→(LB)→ByteArray→Option ((LB))
 |0,_,_,_=>none
 |fu+1,pw,p6,p1=>BC fu (iH fu) pw p6 p1
theorem QG(fu:Nat):u4 (iH fu):=by
 induction fu with
 |zero=>exact(fun pw p6 p1 r H=>by simp only [iH] at H;cases H)
 |succ fu ih=>exact(fun pw p6 p1 r H=>by simp only [iH] at H;exact OH fu (iH fu) ih pw p6 p1 r H)
theorem TK(fu:Nat):u4 (iH fu):=(QG fu)
def q7(fu:Nat)(pw:aF)(p1:ByteArray):Option ((LB)):=bd (iH fu pw ([]) p1) fun x2=>some x2
theorem LV(fu:Nat)(pw:aF)(p1:ByteArray)(r:(LB))(H:q7 fu pw p1=some r):bQ Tryz.prog 147 [(aF.pv pw),pS p1] (rS r):=by
 refine qJ func147 H (fun C hC H=>?_)
 refine gQ 2 ?_;refine q1 (fD ([aP pw.aB8])) ?_;refine gQ 4 ?_;refine q1 (bZ [aP pw.aB8]) (q1 bF (bK H fun x2 z1 H=>(q1 (bB.callF (res:=rS x2) (ps:= [_,_,_]) (qs:= [(aF.pv pw),.nil,pS p1]) rfl rfl func178 (by kernel_rfl) rfl rfl jK rfl rfl (b6.regNil (l1:= [(aF.pv pw)]) (l2:= [pS p1]) (E:=9) (sz:=1) (q:=rS x2) (by decide) (TK fu pw ([]) p1 _ z1) jK rfl)) ?_)))
 exact gE 2
abbrev yD:=aF→ByteArray→ByteArray→Int→Option ((List Int)×Bool)
def C3(m:yD):Prop:= ∀(pw:aF) (p0:ByteArray) (p9:ByteArray) (p7:Int) (r:(List Int)×Bool),m pw p0 p9 p7=some r→bQ Tryz.prog 113 [(aF.pv pw),pS p0,pS p9,pI p7] (.tup [rI r.1,pB r.2]:PV)
def AE(fu:Nat)(p3:yD)(pw:aF)(p0 p9:ByteArray)(p7:Int)(x3:aU)(x4:Int)(x5:Bool):Nat→Unit→Option (LR Unit ((List Int)×Bool)):=fun i6 _=>sw (decide (p7>0)) (bd (p3 pw (aR x3.aCi i6) p9 (aX (p7-1))) fun(x11,x12)=>sw x12 (gd ((([(i6:Int)]:List Int)).length+x11.length≤68719476736) (some (.ret ((([(i6:Int)]:List Int)++x11),true)))) (some (.next ()))) (some (.brk ()))
def vJ(fu:Nat)(p3:yD)(pw:aF)(p0 p9:ByteArray)(p7:Int)(x3:aU)(x4:Int)(x5:Bool):Option (((List Int)×Bool)⊕Unit):=loopN (AE fu p3 pw p0 p9 p7 x3 x4 x5) (x3.aCi.length-0) 0 ()
def C2(fu:Nat)(p3:yD)(pw:aF)(p0 p9:ByteArray)(p7:Int):Option ((List Int)×Bool):=sw (decide (p0=p9)) (some (([]),true)) (bd (qF fu pw p0) fun(x3,x4,x5)=>so (vJ fu p3 pw p0 p9 p7 x3 x4 x5) fun _=>some (([]),false))
theorem W4(fu:Nat)(p3:yD)(pD:C3 p3):C3 (C2 fu p3):=by
 intro pw p0 p9 p7 r H
 refine qJ func113 H (fun C hC H=>?_)
 refine gQ 2 ?_;refine q1 (fD ([aP pw.aB8])) ?_;refine gQ 10 ?_;refine bC H (fun h1 H=>?_) (fun h1 H=>?_)
 ·refine gQ 2 ?_;refine q1 (qP ([]:List Int)) ?_;exact gE 3
 refine gQ 3 ?_;refine q1 (bZ [aP pw.aB8]) (q1 bF (LU H fun x3 x4 x5 z2 H=>(q1 (bE func121 (BY fu pw p0 _ z2)) ?_)))
 refine gQ 14 ?_;refine cV.fact (cI 1 1 rfl rfl rfl (bV _)) (fun hl7=>?_)
 try dsimp only at hl7
 refine bS (σ:=Unit) (fun i6 _=>⟨[(2,pS p9),(3,pI p7),(4,.ptr 0 0),(8,.nil),(9,pB false),(10,.ptr 1 0),(13,pN i6)],⟨[some ⟨26,[aP pw.aB8]⟩,some ⟨156,s5 x3⟩],[]⟩⟩) (fun _=>⟨[(8,.nil),(9,pB false)],⟨[some ⟨26,[aP pw.aB8]⟩,some ⟨156,s5 x3⟩],[]⟩⟩) (eM H) ?_ ?_
 ·rintro i6 ⟨⟩ H
  refine gQ 9 ?_;refine AL.splitB 32 rfl (fun g8=>?_) (fun g8=>?_)
  ·have g8l:=wO g8
   have H:=lnT g8l H
   have g8n:=AQ g8
   refine gQ 4 ?_;refine bC H (fun h9 H=>?_) (fun h9 H=>?_)
   ·refine gQ 4 ?_;refine dU H fun x11 x12 z10 H=>(dW (dD [4] (bZ [aP pw.aB8]) (dI [10] bW (dD [40] eE (dI [13] bF (dI [41,42] qQ (dI [43] vQ (dI [2] bF (dI [3] bF (dI [46] rSw (dI [39,44,45,47] (bE func113 (pD pw (aR x3.aCi i6) p9 (aX (p7-1)) _ z10)) (dI [48] bF ?_))))))))))))
    iterate 2 refine dI [38] YN ?_
    refine dI [49] bF (dI [50] bF (dN ?_))
    refine gQ 4 ?_;refine bC H (fun h13 H=>?_) (fun h13 H=>?_)
    ·refine gQ 3 ?_;refine q1 (qP ([(i6:Int)]:List Int)) (q1 bF (cF H fun z14 H=>(q1 (lE z14) ?_)))
     exact gE 3
    exact gE 6
   exact gE 0
  have H:=lnE (wN g8) H
  exact gE 5
 rintro⟨⟩ H
 refine gQ 2 ?_;refine q1 (qP ([]:List Int)) ?_;exact gE 3
def iU:Nat→aF→ByteArray→ByteArray→Int→Option ((List Int)×Bool)
 |0,_,_,_,_=>none
 |fu+1,pw,p0,p9,p7=>C2 fu (iU fu) pw p0 p9 p7
theorem ZF(fu:Nat):C3 (iU fu):=by
 induction fu with
 |zero=>exact(fun pw p0 p9 p7 r H=>by simp only [iU] at H;cases H)
 |succ fu ih=>exact(fun pw p0 p9 p7 r H=>by simp only [iU] at H;exact W4 fu (iU fu) ih pw p0 p9 p7 r H)
theorem adD(fu:Nat):C3 (iU fu):=(ZF fu)
def m3(fu:Nat)(pw:aF)(p0 p9:ByteArray):Option ((List Int)×Bool):=bd (iU fu pw p0 p9 8) fun(x2,x3)=>some (x2,x3)
theorem BR(fu:Nat)(pw:aF)(p0:ByteArray)(p9:ByteArray)(r:(List Int)×Bool)(H:m3 fu pw p0 p9=some r):bQ Tryz.prog 58 [(aF.pv pw),pS p0,pS p9] (.tup [rI r.1,pB r.2]):=by
 refine qJ func58 H (fun C hC H=>?_)
 refine gQ 2 ?_;refine q1 (fD ([aP pw.aB8])) ?_;refine gQ 5 ?_;refine q1 (bZ [aP pw.aB8]) ?_;refine gQ 2 ?_;refine dU H fun x2 x3 z1 H=>(q1 (bE func113 (adD fu pw p0 p9 8 _ z1)) ?_)
 exact gE 5
abbrev EK:=aF→ByteArray→ByteArray→Int→Option ((List Int)×Bool)
def JE(m:EK):Prop:= ∀(pw:aF) (p0:ByteArray) (p9:ByteArray) (p8:Int) (r:(List Int)×Bool),m pw p0 p9 p8=some r→bQ Tryz.prog 154 [(aF.pv pw),pS p0,pS p9,pI p8] (.tup [rI r.1,pB r.2]:PV)
def LZ(fu:Nat)(p5:EK)(pw:aF)(p0 p9:ByteArray)(p8:Int)(x4:aU)(x5:Int)(x6:Bool):Nat→Unit→Option (LR Unit ((List Int)×Bool)):=fun i7 _=>bd (p5 pw (aR x4.aCi i7) p9 (aX (p8-1))) fun(x11,x12)=>sw x12 (gd ((([(i7:Int)]:List Int)).length+x11.length≤68719476736) (some (.ret ((([(i7:Int)]:List Int)++x11),true)))) (some (.next ()))
def L3(fu:Nat)(p5:EK)(pw:aF)(p0 p9:ByteArray)(p8:Int)(x4:aU)(x5:Int)(x6:Bool):Option (((List Int)×Bool)⊕Unit):=loopN (LZ fu p5 pw p0 p9 p8 x4 x5 x6) (x4.aCi.length-0) 0 ()
def JD(fu:Nat)(p5:EK)(pw:aF)(p0 p9:ByteArray)(p8:Int):Option ((List Int)×Bool):=sw (decide (p0=p9)) (some (([]),true)) (sw (decide (p8=0)) (some ([],false)) (bd (EM fu pw p0) fun(x4,x5,x6)=>so (L3 fu p5 pw p0 p9 p8 x4 x5 x6) fun _=>some ([],false)))
theorem ab4(fu:Nat)(p5:EK)(pE:JE p5):JE (JD fu p5):=by
 intro pw p0 p9 p8 r H
 refine qJ func154 H (fun C hC H=>?_)
 refine gQ 2 ?_;refine q1 (fD ([aP pw.aB8])) ?_;refine gQ 10 ?_;refine bC H (fun h1 H=>?_) (fun h1 H=>?_)
 ·refine gQ 2 ?_;refine q1 (qP ([]:List Int)) ?_;exact gE 3
 refine gQ 7 ?_;refine bC H (fun h2 H=>gE 5) fun h2 H=>?_;refine gQ 3 ?_;refine q1 (bZ [aP pw.aB8]) (q1 bF (LU H fun x4 x5 x6 z3 H=>(q1 (bE func115 (QJ fu pw p0 _ z3)) ?_)))
 refine gQ 17 ?_;refine gP 31 (bV _) (fun hl8=>?_)
 try dsimp only at hl8
 refine bS (σ:=Unit) (fun i7 _=>⟨[(2,pS p9),(3,pI p8),(4,.ptr 0 0),(8,.nil),(9,pB false),(31,rS x4.aCi),(32,pN x4.aCi.length),(33,pN i7)],⟨[some ⟨26,[aP pw.aB8]⟩,some ⟨156,s5 x4⟩],[]⟩⟩) (fun _=>⟨[(8,.nil),(9,pB false)],⟨[some ⟨26,[aP pw.aB8]⟩,some ⟨156,s5 x4⟩],[]⟩⟩) (eM H) ?_ ?_
 ·rintro i7 ⟨⟩ H
  refine gQ 5 ?_;refine cS H (fun h9 h9l H=>?_) (fun h9 H=>?_)
  ·refine gQ 13 ?_;refine q1 (bZ [aP pw.aB8]) ?_;refine gQ 4 ?_;refine dU H fun x11 x12 z10 H=>(q1 (bE func154 (pE pw (aR x4.aCi i7) p9 (aX (p8-1)) _ z10)) ?_)
   refine gQ 10 ?_;refine bC H (fun h13 H=>?_) (fun h13 H=>?_)
   ·refine gQ 3 ?_;refine q1 (qP ([(i7:Int)]:List Int)) (q1 bF (cF H fun z14 H=>(q1 (lE z14) ?_)))
    exact gE 3
   exact gE 5
  exact gE 0
 rintro⟨⟩ H
 exact gE 5
def mF:Nat→aF→ByteArray→ByteArray→Int→Option ((List Int)×Bool)
 |0,_,_,_,_=>none
 |fu+1,pw,p0,p9,p8=>JD fu (mF fu) pw p0 p9 p8
theorem ae9(fu:Nat):JE (mF fu):=by
 induction fu with
 |zero=>exact(fun pw p0 p9 p8 r H=>by simp only [mF] at H;cases H)
 |succ fu ih=>exact(fun pw p0 p9 p8 r H=>by simp only [mF] at H;exact ab4 fu (mF fu) ih pw p0 p9 p8 r H)
theorem aiK(fu:Nat):JE (mF fu):=(ae9 fu)
def kY(fu:Nat)(pw:aF)(p0 p9:ByteArray):Option ((List Int)×Bool):=bd (mF fu pw p0 p9 8) fun(x2,x3)=>some (x2,x3)
theorem BB(fu:Nat)(pw:aF)(p0:ByteArray)(p9:ByteArray)(r:(List Int)×Bool)(H:kY fu pw p0 p9=some r):bQ Tryz.prog 116 [(aF.pv pw),pS p0,pS p9] (.tup [rI r.1,pB r.2]):=by
 refine qJ func116 H (fun C hC H=>?_)
 refine gQ 2 ?_;refine q1 (fD ([aP pw.aB8])) ?_;refine gQ 5 ?_;refine q1 (bZ [aP pw.aB8]) ?_;refine gQ 2 ?_;refine dU H fun x2 x3 z1 H=>(q1 (bE func154 (aiK fu pw p0 p9 8 _ z1)) ?_)
 exact gE 5
end
end Go.Proofs.YtfcoaagbccmahaaGreat.W

namespace Go.Proofs.YtfcoaagbccmahaaGreat.W
set_option maxRecDepth 100000
set_option maxHeartbeats 40000000
noncomputable section
open Tryz Go.RowKit Go.Proofs
attribute [local irreducible] lt
def adE(fu:Nat)(pc d1:DS):Nat→((List aG)×DS)→Option (LR ((List aG)×DS) ((List aG)×DS)):=fun i3 (v6,v5)=>lt (v5.after ([bJ,jN,fE]:LB).length) fun d9=>lt (v5.pick ([bJ,jN,fE]:LB)) fun y11=>lt (d9.after ([f6,CX]:LB).length) fun d13=>lt (d9.pick ([f6,CX]:LB)) fun y15=>bd (l7 fu y15) fun x18=>gd ((v6).length+(([(aG.mk y11 x18)]:List aG)).length≤68719476736) (some (.next ((v6++([(aG.mk y11 x18)]:List aG)),d13)))
def IV(fu:Nat)(pc:DS):Option ((List aG)×DS):=lt (pc.after 3) fun d1=>so (loopN (adE fu pc d1) (pc.below 3-0) 0 (([]),d1)) fun(v6,v5)=>some (v6,v5)
theorem adF(fu:Nat)(pc:DS)(r:(List aG)×DS)(H:IV fu pc=some r):b6 Tryz.prog 87 [.ptr 0 0] ⟨[some ⟨133,dC pc⟩],[]⟩ (fun q t=>q=(cK r.1)∧t=⟨[some ⟨133,dC r.2⟩],[]⟩):=by
 refine qJ func87 H (fun C hC H=>?_)
 refine gQ 6 ?_;refine q1 (qP ([]:List aG)) ?_;refine gQ 5 ?_;refine fV H fun d1 h2 H=>(q1 (eW [0] [] func73 (DT h2 (eY pc 3))) ?_)
 refine gQ 7 ?_
 have hb7:=DS.below_lt (d:=pc) (n:=3) (by decide)
 refine bS (σ:=(List aG)×DS) (fun i3 (v6,v5)=>⟨[(0,.ptr 0 0),(2,.nil),(3,abJ v6 0),(4,pN (pc.below 3)),(5,pN i3)],⟨[some ⟨133,dC v5⟩],[⟨32,4,aG.trs (v6),false⟩]⟩⟩) (fun(v6,v5)=>⟨[(2,.nil),(3,abJ v6 0)],⟨[some ⟨133,dC v5⟩],[⟨32,4,aG.trs (v6),false⟩]⟩⟩) (eM H) ?_ ?_
 ·rintro i3 ⟨v6,v5⟩ H
  refine gQ 7 ?_;refine cS H (fun h8 h8l H=>?_) (fun h8 H=>?_)
  ·have h8n:i3<pc.below 3:=by have:=of_decide_eq_true h8;omega
   refine gQ 6 ?_;refine q1 (hH ([bJ,jN,fE]:LB)) (fV H fun d9 h10 H=>(fV H fun y11 h12 H=>(q1 (eW [0] [] func48 (OM h10 h12 (fZ v5 ([bJ,jN,fE]:LB) (by decide)))) (q1 bF (q1 (hH ([f6,CX]:LB)) (fV H fun d13 h14 H=>(fV H fun y15 h16 H=>(q1 (eW [0] [] func48 (OM h14 h16 (fZ d9 ([f6,CX]:LB) (by decide)))) (bK H fun x18 z17 H=>(q1 (bE func137 (kF (jJ fu) y15 _ z17)) (q1 r9 (q1 (hH ([(aG.mk y11 x18)]:List aG)) (cF H fun z19 H=>?_)))))))))))))
   refine q1 (lE z19) ?_;exact gE 7
  exact gE 0
 rintro⟨v6,v5⟩ H
 exact gE 5
def tP(fu:Nat)(p3:aF)(p1:List aG)(i1:Nat)(v3:List aJ)(x9:LB):Nat→((List aJ))→Option (LR ((List aJ)) (LR ((List aJ)) ((List aJ)))):=fun i10 v12=>bd (m3 fu p3 ((aR p1 i1).aCg) (aR x9 i10)) fun(x16,x17)=>gd ((v12).length+(([(aJ.mk (aG.mk (aR x9 i10) ((aR p1 i1).aCd)) (i1:Int) x16)]:List aJ)).length≤68719476736) (some (.next (v12++([(aJ.mk (aG.mk (aR x9 i10) ((aR p1 i1).aCd)) (i1:Int) x16)]:List aJ))))
def y1(fu:Nat)(p3:aF)(p1:List aG):Nat→((List aJ))→Option (LR ((List aJ)) ((List aJ))):=fun i1 v3=>gd (iG ((aR p1 i1).aCd)) (gd ((v3).length+(([(aJ.mk (aG.mk ((aR p1 i1).aCg) ((aR p1 i1).aCd)) (i1:Int) [])]:List aJ)).length≤68719476736) (bd (q9 fu p3 ((aR p1 i1).aCg)) fun x9=>so (loopN (tP fu p3 p1 i1 v3 x9) (x9.length-0) 0 (v3++([(aJ.mk (aG.mk ((aR p1 i1).aCg) ((aR p1 i1).aCd)) (i1:Int) [])]:List aJ))) fun v12=>some (.next v12)))
def vD(fu:Nat)(p3:aF)(p1:List aG):Option ((List aJ)):=so (loopN (y1 fu p3 p1) (p1.length-0) 0 ([])) fun v3=>some v3
theorem TP(fu:Nat)(p3:aF)(p1:List aG)(r:(List aJ))(H:vD fu p3 p1=some r):bQ Tryz.prog 15 [(aF.pv p3),cK p1] (bN r):=by
 refine qJ func15 H (fun C hC H=>?_)
 refine gQ 2 ?_;refine q1 (fD ([aP p3.aB8])) ?_;refine gQ 4 ?_;refine q1 (qP ([]:List aJ)) ?_;refine gQ 7 ?_;refine gP 1 (aG.trs_len _) (fun hl4=>?_)
 try dsimp only at hl4
 refine bS (σ:=(List aJ)) (fun i1 v3=>⟨[(1,cK p1),(2,.ptr 0 0),(4,.nil),(5,fR v3 0),(6,pN i1)],⟨[some ⟨26,[aP p3.aB8]⟩],[⟨99,6,aJ.trs (v3),false⟩]⟩⟩) (fun v3=>⟨[(4,.nil),(5,fR v3 0)],⟨[some ⟨26,[aP p3.aB8]⟩],[⟨99,6,aJ.trs (v3),false⟩]⟩⟩) (eM H) ?_ ?_
 ·rintro i1 v3 H
  refine gQ 8 ?_;refine cS H (fun h5 h5l H=>?_) (fun h5 H=>?_)
  ·refine gQ 4 ?_;refine cF H fun z6 H=>(cF H fun z7 H=>(dW (dI [5] bF (dI [1] bF (dI [6] bF (dI [19,20] qQ (dI [21] w7 (dI [22] vQ (dI [1] bF (dI [6] bF (dI [24,25] qQ (dI [26] w7 (dI [27] (iK (aA.cs ((aR p1 i1).aCd))) ?_)))))))))))))
   refine dI [28] (bE func56 (GK ((aR p1 i1).aCd) z6)) (dI [23,29] r9 (dI [6] bF (dI [30,31] r9 (dI [32] (hH ([(aJ.mk (aG.mk ((aR p1 i1).aCg) ((aR p1 i1).aCd)) (i1:Int) [])]:List aJ)) (dE [18,33] (lE z7) (dI [34] bF (dN (qS (bK H fun x9 z8 H=>(dW (dD [2] (bZ [aP p3.aB8]) (dI [1] bF (dI [6] bF ?_)))))))))))))
   refine dI [36,37] qQ (dI [38] w7 (dI [39] vQ (dI [35,40] (bE func57 (MN fu p3 ((aR p1 i1).aCg) _ z8)) (dI [41] bF (dN ?_)))))
   refine gQ 4 ?_;refine gP 7 (bV _) (fun hl13=>?_)
   try dsimp only at hl13
   refine bS (σ:=(List aJ)) (fun i10 v12=>⟨[(1,cK p1),(2,.ptr 0 0),(4,.nil),(5,fR v12 0),(6,pN i1),(7,rS x9),(8,pN i10),(12,pN i1),(13,cK p1),(14,pN p1.length),(15,pB (decide ((i1:Int)<(p1.length:Int)))),(18,fR v3 0),(19,cK p1),(20,pN i1),(21,.eptr (aG.cs (aR p1 i1))),(22,.eptr (aG.cs (aR p1 i1))),(23,pS ((aR p1 i1).aCg)),(24,cK p1),(25,pN i1),(26,.eptr (aG.cs (aR p1 i1))),(27,.eptr ((aG.cs (aR p1 i1)).drop 1)),(28,(aA.pv ((aR p1 i1).aCd))),(29,(aA.pv ((aR p1 i1).aCd))),(30,.agg [pS ((aR p1 i1).aCg),pI (((aR p1 i1).aCd).aCb),pS (((aR p1 i1).aCd).aB9),aT (((aR p1 i1).aCd).aCa)]),(31,pN i1),(32,.agg [pS ((aR p1 i1).aCg),pI (((aR p1 i1).aCd).aCb),pS (((aR p1 i1).aCd).aB9),aT (((aR p1 i1).aCd).aCa),pN i1,.nil]),(33,bN ([(aJ.mk (aG.mk ((aR p1 i1).aCg) ((aR p1 i1).aCd)) (i1:Int) [])]:List aJ)),(34,fR (v3++([(aJ.mk (aG.mk ((aR p1 i1).aCg) ((aR p1 i1).aCd)) (i1:Int) [])]:List aJ)) 0),(35,(aF.pv p3)),(36,cK p1),(37,pN i1),(38,.eptr (aG.cs (aR p1 i1))),(39,.eptr (aG.cs (aR p1 i1))),(40,pS ((aR p1 i1).aCg)),(41,rS x9)],⟨[some ⟨26,[aP p3.aB8]⟩],[⟨99,6,aJ.trs (v12),false⟩]⟩⟩) (fun v12=>⟨[(1,cK p1),(2,.ptr 0 0),(4,.nil),(5,fR v12 0),(6,pN i1),(7,rS x9),(12,pN i1),(13,cK p1),(14,pN p1.length),(15,pB (decide ((i1:Int)<(p1.length:Int)))),(18,fR v3 0),(19,cK p1),(20,pN i1),(21,.eptr (aG.cs (aR p1 i1))),(22,.eptr (aG.cs (aR p1 i1))),(23,pS ((aR p1 i1).aCg)),(24,cK p1),(25,pN i1),(26,.eptr (aG.cs (aR p1 i1))),(27,.eptr ((aG.cs (aR p1 i1)).drop 1)),(28,(aA.pv ((aR p1 i1).aCd))),(29,(aA.pv ((aR p1 i1).aCd))),(30,.agg [pS ((aR p1 i1).aCg),pI (((aR p1 i1).aCd).aCb),pS (((aR p1 i1).aCd).aB9),aT (((aR p1 i1).aCd).aCa)]),(31,pN i1),(32,.agg [pS ((aR p1 i1).aCg),pI (((aR p1 i1).aCd).aCb),pS (((aR p1 i1).aCd).aB9),aT (((aR p1 i1).aCd).aCa),pN i1,.nil]),(33,bN ([(aJ.mk (aG.mk ((aR p1 i1).aCg) ((aR p1 i1).aCd)) (i1:Int) [])]:List aJ)),(34,fR (v3++([(aJ.mk (aG.mk ((aR p1 i1).aCg) ((aR p1 i1).aCd)) (i1:Int) [])]:List aJ)) 0),(35,(aF.pv p3)),(36,cK p1),(37,pN i1),(38,.eptr (aG.cs (aR p1 i1))),(39,.eptr (aG.cs (aR p1 i1))),(40,pS ((aR p1 i1).aCg)),(41,rS x9)],⟨[some ⟨26,[aP p3.aB8]⟩],[⟨99,6,aJ.trs (v12),false⟩]⟩⟩) (eM H) ?_ ?_
   ·rintro i10 v12 H
    refine gQ 8 ?_;refine cS H (fun h14 h14l H=>?_) (fun h14 H=>?_)
    ·refine gQ 4 ?_;refine dU H fun x16 x17 z15 H=>(dW (dD [2] (bZ [aP p3.aB8]) (dI [1] bF (dI [6] bF (dI [50,51] qQ (dI [52] w7 (dI [53] vQ (dI [7] bF (dI [8] bF (dI [55,56] qQ (dI [57] vQ (dI [49,54,58] (bE func58 (BR fu p3 ((aR p1 i1).aCg) (aR x9 i10) _ z15)) (dI [59] bF ?_)))))))))))))
     iterate 2 refine dI [48] YN ?_
     refine dI [60] bF (dI [61] bF (dN (cF H fun z18 H=>(dW (dI [5] bF (dI [7] bF (dI [8] bF (dI [63,64] qQ (dI [65] vQ (dI [1] bF (dI [6] bF (dI [67,68] qQ (dI [69] w7 ?_)))))))))))))
     refine dI [70] (iK (aA.cs ((aR p1 i1).aCd))) (dI [71] (bE func56 (GK ((aR p1 i1).aCd) z6)) (dI [66,72] r9 (dI [6] bF (dI [9] bF (dI [73,74,75] r9 (dI [76] (hH ([(aJ.mk (aG.mk (aR x9 i10) ((aR p1 i1).aCd)) (i1:Int) x16)]:List aJ)) (dE [62,77] (lE z18) (dI [78] bF (dN ?_)))))))))
     exact gE 5
    exact gE 0
   rintro v12 H
   exact gE 5
  exact gE 0
 rintro v3 H
 exact gE 5
def tN(fu:Nat)(pw:aF)(p0:List aG)(i1:Nat)(v3:List aJ)(x9:LB):Nat→((List aJ))→Option (LR ((List aJ)) (LR ((List aJ)) ((List aJ)))):=fun i10 v12=>bd (kY fu pw ((aR p0 i1).aCg) (aR x9 i10)) fun(x16,x17)=>gd ((v12).length+(([(aJ.mk (aG.mk (aR x9 i10) ((aR p0 i1).aCd)) (i1:Int) x16)]:List aJ)).length≤68719476736) (some (.next (v12++([(aJ.mk (aG.mk (aR x9 i10) ((aR p0 i1).aCd)) (i1:Int) x16)]:List aJ))))
def yO(fu:Nat)(pw:aF)(p0:List aG):Nat→((List aJ))→Option (LR ((List aJ)) ((List aJ))):=fun i1 v3=>gd (iG ((aR p0 i1).aCd)) (gd ((v3).length+(([(aJ.mk (aG.mk ((aR p0 i1).aCg) ((aR p0 i1).aCd)) (i1:Int) [])]:List aJ)).length≤68719476736) (bd (q7 fu pw ((aR p0 i1).aCg)) fun x9=>so (loopN (tN fu pw p0 i1 v3 x9) (x9.length-0) 0 (v3++([(aJ.mk (aG.mk ((aR p0 i1).aCg) ((aR p0 i1).aCd)) (i1:Int) [])]:List aJ))) fun v12=>some (.next v12)))
def uX(fu:Nat)(pw:aF)(p0:List aG):Option ((List aJ)):=so (loopN (yO fu pw p0) (p0.length-0) 0 ([])) fun v3=>some v3
theorem TH(fu:Nat)(pw:aF)(p0:List aG)(r:(List aJ))(H:uX fu pw p0=some r):bQ Tryz.prog 99 [(aF.pv pw),cK p0] (bN r):=by
 refine qJ func99 H (fun C hC H=>?_)
 refine gQ 2 ?_;refine q1 (fD ([aP pw.aB8])) ?_;refine gQ 4 ?_;refine q1 (qP ([]:List aJ)) ?_;refine gQ 9 ?_;refine gP 1 (aG.trs_len _) (fun hl4=>?_)
 try dsimp only at hl4
 refine bS (σ:=(List aJ)) (fun i1 v3=>⟨[(2,.ptr 0 0),(4,.nil),(5,fR v3 0),(13,cK p0),(14,pN p0.length),(15,pN i1)],⟨[some ⟨26,[aP pw.aB8]⟩],[⟨99,6,aJ.trs (v3),false⟩]⟩⟩) (fun v3=>⟨[(4,.nil),(5,fR v3 0)],⟨[some ⟨26,[aP pw.aB8]⟩],[⟨99,6,aJ.trs (v3),false⟩]⟩⟩) (eM H) ?_ ?_
 ·rintro i1 v3 H
  refine gQ 5 ?_;refine cS H (fun h5 h5l H=>?_) (fun h5 H=>?_)
  ·refine gQ 7 ?_;refine q1 (iK (aG.cs (aR p0 i1))) ?_;refine gQ 5 ?_;refine cF H fun z6 H=>(cF H fun z7 H=>(dW (dI [5] bF (dI [7] bW (dD [21] eE (dI [7] bW (dD [23] (bZ [pI (((aR p0 i1).aCd).aCb),pS (((aR p0 i1).aCd).aB9),aT (((aR p0 i1).aCd).aCa)]) (dI [24] (bE func79 (zU ((aR p0 i1).aCd) z6)) (dI [22,25] r9 (dI [6] bF (dI [26,27] r9 (dI [28] (hH ([(aJ.mk (aG.mk ((aR p0 i1).aCg) ((aR p0 i1).aCd)) (i1:Int) [])]:List aJ)) (dE [20,29] (lE z7) ?_)))))))))))))
   refine dI [30] bF (dN ?_)
   refine gQ 2 ?_;refine q1 (bZ [aP pw.aB8]) ?_;refine gQ 2 ?_;refine bK H fun x9 z8 H=>(q1 (bE func147 (LV fu pw ((aR p0 i1).aCg) _ z8)) ?_)
   refine gQ 3 ?_;refine gP 34 (bV _) (fun hl13=>?_)
   try dsimp only at hl13
   refine bS (σ:=(List aJ)) (fun i10 v12=>⟨[(2,.ptr 0 0),(4,.nil),(5,fR v12 0),(6,pN i1),(7,.ptr 1 0),(13,cK p0),(14,pN p0.length),(15,pN i1),(16,pB (decide ((i1:Int)<(p0.length:Int)))),(17,pN i1),(18,.eptr (aG.cs (aR p0 i1))),(19,(aG.pv (aR p0 i1))),(20,fR v3 0),(21,.ptr 1 0),(22,pS ((aR p0 i1).aCg)),(23,.ptr 1 1),(24,(aA.pv ((aR p0 i1).aCd))),(25,(aA.pv ((aR p0 i1).aCd))),(26,.agg [pS ((aR p0 i1).aCg),pI (((aR p0 i1).aCd).aCb),pS (((aR p0 i1).aCd).aB9),aT (((aR p0 i1).aCd).aCa)]),(27,pN i1),(28,.agg [pS ((aR p0 i1).aCg),pI (((aR p0 i1).aCd).aCb),pS (((aR p0 i1).aCd).aB9),aT (((aR p0 i1).aCd).aCa),pN i1,.nil]),(29,bN ([(aJ.mk (aG.mk ((aR p0 i1).aCg) ((aR p0 i1).aCd)) (i1:Int) [])]:List aJ)),(30,fR (v3++([(aJ.mk (aG.mk ((aR p0 i1).aCg) ((aR p0 i1).aCd)) (i1:Int) [])]:List aJ)) 0),(31,(aF.pv pw)),(32,.ptr 1 0),(33,pS ((aR p0 i1).aCg)),(34,rS x9),(35,pN x9.length),(36,pN i10)],⟨[some ⟨26,[aP pw.aB8]⟩,some ⟨32,dK (aR p0 i1)⟩],[⟨99,6,aJ.trs (v12),false⟩]⟩⟩) (fun v12=>⟨[(2,.ptr 0 0),(4,.nil),(5,fR v12 0),(6,pN i1),(7,.ptr 1 0),(13,cK p0),(14,pN p0.length),(15,pN i1),(16,pB (decide ((i1:Int)<(p0.length:Int)))),(17,pN i1),(18,.eptr (aG.cs (aR p0 i1))),(19,(aG.pv (aR p0 i1))),(20,fR v3 0),(21,.ptr 1 0),(22,pS ((aR p0 i1).aCg)),(23,.ptr 1 1),(24,(aA.pv ((aR p0 i1).aCd))),(25,(aA.pv ((aR p0 i1).aCd))),(26,.agg [pS ((aR p0 i1).aCg),pI (((aR p0 i1).aCd).aCb),pS (((aR p0 i1).aCd).aB9),aT (((aR p0 i1).aCd).aCa)]),(27,pN i1),(28,.agg [pS ((aR p0 i1).aCg),pI (((aR p0 i1).aCd).aCb),pS (((aR p0 i1).aCd).aB9),aT (((aR p0 i1).aCd).aCa),pN i1,.nil]),(29,bN ([(aJ.mk (aG.mk ((aR p0 i1).aCg) ((aR p0 i1).aCd)) (i1:Int) [])]:List aJ)),(30,fR (v3++([(aJ.mk (aG.mk ((aR p0 i1).aCg) ((aR p0 i1).aCd)) (i1:Int) [])]:List aJ)) 0),(31,(aF.pv pw)),(32,.ptr 1 0),(33,pS ((aR p0 i1).aCg)),(34,rS x9),(35,pN x9.length)],⟨[some ⟨26,[aP pw.aB8]⟩,some ⟨32,dK (aR p0 i1)⟩],[⟨99,6,aJ.trs (v12),false⟩]⟩⟩) (eM H) ?_ ?_
   ·rintro i10 v12 H
    refine gQ 5 ?_;refine cS H (fun h14 h14l H=>?_) (fun h14 H=>?_)
    ·refine gQ 11 ?_;refine q1 (bZ [aP pw.aB8]) ?_;refine gQ 3 ?_;refine dU H fun x16 x17 z15 H=>(q1 (bE func116 (BB fu pw ((aR p0 i1).aCg) (aR x9 i10) _ z15)) ?_)
     refine gQ 10 ?_;refine q1 (bZ [pI (((aR p0 i1).aCd).aCb),pS (((aR p0 i1).aCd).aB9),aT (((aR p0 i1).aCd).aCa)]) (q1 (bE func79 (zU ((aR p0 i1).aCd) z6)) ?_)
     refine gQ 4 ?_;refine q1 (hH ([(aJ.mk (aG.mk (aR x9 i10) ((aR p0 i1).aCd)) (i1:Int) x16)]:List aJ)) (cF H fun z18 H=>(q1 (lE z18) ?_))
     exact gE 6
    exact gE 0
   rintro v12 H
   exact gE 4
  exact gE 0
 rintro v3 H
 exact gE 5
def zZ(fu:Nat)(pa pb:aG):Option Bool:=sw (decide (pa.aCg=pb.aCg)) (some (aA.eq pa.aCd pb.aCd)) (some false)
theorem YT(fu:Nat)(pa:aG)(pb:aG)(r:Bool)(H:zZ fu pa pb=some r):bQ Tryz.prog 55 [(aG.pv pa),(aG.pv pb)] (pB r):=by
 refine qJ func55 H (fun C hC H=>?_)
 refine gQ 2 ?_;refine q1 (fD (dK pa)) (q1 (fD (dK pb)) ?_)
 refine gQ 10 ?_;refine dL 10 H (fun g1 H=>?_) fun g1 H=>?_
 ·refine qg g1 bW (qg g1 (bZ [pI pa.aCd.aCb,pS pa.aCd.aB9,aT pa.aCd.aCa]) (qg g1 bW (qg g1 (bZ [pI pb.aCd.aCb,pS pb.aCd.aB9,aT pb.aCd.aCa]) (qg g1 (bE func38 (nC pa.aCd pb.aCd)) ?_))))
  exact gE 3
 exact gE 8
def BJ(fu:Nat)(p2:List aJ)(pg:aG):Nat→Unit→Option (LR Unit Int):=fun i1 _=>lt (aR p2 i1) fun y4=>bd (zZ fu y4.aCE pg) fun x7=>sw x7 (some (.ret (i1:Int))) (some (.next ()))
def k7(fu:Nat)(p2:List aJ)(pg:aG):Option Int:=so (loopN (BJ fu p2 pg) (p2.length-0) 0 ()) fun _=>some (-1)
theorem t1(fu:Nat)(p2:List aJ)(pg:aG)(r:Int)(H:k7 fu p2 pg=some r):bQ Tryz.prog 14 [bN p2,(aG.pv pg)] (pI r):=by
 refine qJ func14 H (fun C hC H=>?_)
 refine gQ 2 ?_;refine q1 (fD (dK pg)) ?_;refine gQ 7 ?_;refine gP 0 (aJ.trs_len _) (fun hl2=>?_)
 try dsimp only at hl2
 refine bS (σ:=Unit) (fun i1 _=>⟨[(0,bN p2),(3,.ptr 0 0),(4,pI 0),(5,pN i1)],⟨[some ⟨32,dK pg⟩],[]⟩⟩) (fun _=>⟨[(4,pI 0)],⟨[some ⟨32,dK pg⟩],[]⟩⟩) (eM H) ?_ ?_
 ·rintro i1 ⟨⟩ H
  refine gQ 8 ?_;refine cS H (fun h3 h3l H=>?_) (fun h3 H=>?_)
  ·refine gQ 4 ?_;refine fV H fun y4 h5 H=>(bK H fun x7 z6 H=>(dW (dI [0] bF (dI [5] bF (dI [12,13] (yK h5 h3l) (dI [14] w7 (dI [15] (iK (aG.cs y4.aCE)) (dD [3] (bZ [pS pg.aCg,pI pg.aCd.aCb,pS pg.aCd.aB9,aT pg.aCd.aCa]) (dI [16,17] (bE func55 (YT fu y4.aCE pg _ z6)) (dN ?_))))))))))
   refine bC H (fun h8 H=>gE 5) fun h8 H=>?_;exact gE 6
  exact gE 0
 rintro⟨⟩ H
 exact gE 4
def zS(fu:Nat)(pa pb:aG):Option Bool:=sw (decide (pa.aCg=pb.aCg)) (some (aA.eq pa.aCd pb.aCd)) (some false)
theorem YB(fu:Nat)(pa:aG)(pb:aG)(r:Bool)(H:zS fu pa pb=some r):bQ Tryz.prog 84 [(aG.pv pa),(aG.pv pb)] (pB r):=by
 refine qJ func84 H (fun C hC H=>?_)
 refine gQ 2 ?_;refine q1 (fD (dK pa)) (q1 (fD (dK pb)) ?_)
 refine gQ 10 ?_;refine dL 10 H (fun g1 H=>?_) fun g1 H=>?_
 ·refine qg g1 bW (qg g1 (bZ [pI pa.aCd.aCb,pS pa.aCd.aB9,aT pa.aCd.aCa]) (qg g1 bW (qg g1 (bZ [pI pb.aCd.aCb,pS pb.aCd.aB9,aT pb.aCd.aCa]) (qg g1 (bE func95 (DC pa.aCd pb.aCd)) ?_))))
  exact gE 3
 exact gE 8
def s6(fu:Nat)(pa:aJ)(c1:aG):Option Bool:=bd (zS fu pa.aCE c1) fun x2=>some x2
theorem HY(fu:Nat)(pa:aJ)(c1:aG)(r:Bool)(H:s6 fu pa c1=some r):b6 Tryz.prog 149 [(aJ.pv pa),.ptr 0 0] ⟨[some ⟨32,dK c1⟩],[]⟩ (fun q t=>q=(pB r)∧t=⟨[some ⟨32,dK c1⟩],[]⟩):=by
 refine qJ func149 H (fun C hC H=>?_)
 refine gQ 2 ?_;refine q1 (fD ([pS pa.aCE.aCg,pI pa.aCE.aCd.aCb,pS pa.aCE.aCd.aB9,aT pa.aCE.aCd.aCa,pI pa.aCL,rI pa.aCM])) ?_;refine gQ 5 ?_;refine q1 (bZ [pS pa.aCE.aCg,pI pa.aCE.aCd.aCb,pS pa.aCE.aCd.aB9,aT pa.aCE.aCd.aCa]) (q1 (bZ [pS c1.aCg,pI c1.aCd.aCb,pS c1.aCd.aB9,aT c1.aCd.aCa]) (bK H fun x2 z1 H=>(q1 (bE func84 (YB fu pa.aCE c1 _ z1)) ?_)))
 exact gE 2
def jC(fu:Nat)(ps:List aJ)(c1_0:aG):Nat→Unit→Option (LR Unit Int):=fun i1 _=>lt (aR ps i1) fun y4=>bd (s6 fu y4 c1_0) fun x7=>sw x7 (some (.ret (i1:Int))) (some (.next ()))
def fH(fu:Nat)(ps:List aJ)(c1_0:aG):Option Int:=so (loopN (jC fu ps c1_0) (ps.length-0) 0 ()) fun _=>some (-1)
theorem nX(fu:Nat)(ps:List aJ)(c1_0:aG)(r:Int)(H:fH fu ps c1_0=some r):b6 Tryz.prog 148 [bN ps,.fn 149 [.ptr 0 0]] ⟨[some ⟨32,dK c1_0⟩],[]⟩ (fun q t=>q=(pI r)∧t=⟨[some ⟨32,dK c1_0⟩],[]⟩):=by
 refine qJ func148 H (fun C hC H=>?_)
 refine gQ 11 ?_;refine gP 0 (aJ.trs_len _) (fun hl2=>?_)
 try dsimp only at hl2
 refine bS (σ:=Unit) (fun i1 _=>⟨[(0,bN ps),(1,.fn 149 [.ptr 0 0]),(4,pI 0),(7,pN ps.length),(8,pN i1)],⟨[some ⟨32,dK c1_0⟩],[]⟩⟩) (fun _=>⟨[(4,pI 0)],⟨[some ⟨32,dK c1_0⟩],[]⟩⟩) (eM H) ?_ ?_
 ·rintro i1 ⟨⟩ H
  refine gQ 5 ?_;refine cS H (fun h3 h3l H=>?_) (fun h3 H=>?_)
  ·refine gQ 13 ?_;refine fV H fun y4 h5 H=>(q1 (yK h5 h3l) (q1 (iK (aJ.cs y4)) (bK H fun x7 z6 H=>(q1 (bB.callVPE (pre:=⟨[some ⟨32,dK c1_0⟩],[]⟩) (st':=⟨[some ⟨32,dK c1_0⟩],[]⟩) (ps:= [_]) (cs:= [.ptr 0 0]) (qs:= [(aJ.pv y4),.ptr 0 0]) [0] [] rfl rfl rfl func149 (by kernel_rfl) rfl rfl rfl (eV.of ⟨⟨_,rfl,rfl,jK,rfl⟩,trivial⟩ trivial (by decide) (by decide)) jK rfl rfl rfl (HY fu y4 c1_0 _ z6)) (qN ?_)))))
   refine bC H (fun h8 H=>gE 5) fun h8 H=>?_;exact gE 5
  exact gE 0
 rintro⟨⟩ H
 exact gE 4
def mO(fu:Nat)(p2:List aJ)(pg:aG):Option Int:=bd (fH fu p2 pg) fun x2=>some x2
theorem A9(fu:Nat)(p2:List aJ)(pg:aG)(r:Int)(H:mO fu p2 pg=some r):bQ Tryz.prog 101 [bN p2,(aG.pv pg)] (pI r):=by
 refine qJ func101 H (fun C hC H=>?_)
 refine gQ 2 ?_;refine q1 (fD (dK pg)) ?_;refine gQ 5 ?_;refine q1 rMf (bK H fun x2 z1 H=>(q1 (eW [0] [] func148 (nX fu p2 pg _ z1)) ?_))
 exact gE 2
end
end Go.Proofs.YtfcoaagbccmahaaGreat.W

namespace Go.Proofs.YtfcoaagbccmahaaGreat.W
open Go.RowKit Go.WalkArith
def DI(l:List aK)(v:ByteArray):aA:=match D1 l v with
 |some b=>b.aCd
 |none=> .mk 0 ⟨#[]⟩ []
def IE(l:List aK)(v:ByteArray):Bool:=(D1 l v).isSome
def eT(p t:aA):List aK:=(j7 p t []).getD []
theorem aoM(l:List aK)(v:ByteArray)(hb:qT l):bQ Tryz.prog 151 [.t (.row 4 (aK.trs l)),.t (.leaf (.string v))] (.tup [(aA.pv (DI l v)),.t (.leaf (.bool (IE l v)))]):=by
 refine WL 0 l v (DI l v,IE l v) ?_
 rw [WK 0 l v hb]
 unfold DI IE
 cases D1 l v<;>rfl
theorem aaO(p t:aA)(hp:Tr.bulkL p.tr≤68719476735)(ht:iG t):bQ Tryz.prog 161 [(aA.pv p),(aA.pv t)] (.tup [.t (.row 4 (aK.trs (eT p t))),.t (.leaf (.bool (jB p t)))]):=by
 obtain⟨fu,hf⟩:=(aaN p).get
 refine aaP (fu+1) p t (eT p t,jB p t) ?_
 have h1:=acE (fu:=fu) (ps:= [p]) (by simpa using hf) (ts:= [t]) (s:= []) rfl (by simpa using ht) qT.nil (by rw [UN];simp only [List.length_nil];omega)
 rw [FT] at h1
 unfold OX CR jB eT
 cases hq:j7 p t [] with
 |none=>
  rw [hq] at h1
  obtain⟨a,b,h1⟩:=h1
  exact gO (g0 rfl (gO h1 (g0 rfl rfl))) rfl
 |some s=>
  rw [hq] at h1
  exact gO (g0 rfl (gO h1 (jP rfl (iJ rfl rfl)))) rfl
end Go.Proofs.YtfcoaagbccmahaaGreat.W

namespace Go.Proofs.YtfcoaagbccmahaaGreat.W
set_option maxRecDepth 100000
set_option maxHeartbeats 40000000
noncomputable section
open Tryz Go.RowKit Go.Proofs
attribute [local irreducible] lt
abbrev EH:=(List aK)→aA→Option aA
abbrev uD:=(List aK)→(List aA)→Option ((List aA))
def HX(m:EH):Prop:= ∀(p0:List aK) (pt:aA) (r:aA),m p0 pt=some r→bQ Tryz.prog 16 [fL p0,(aA.pv pt)] ((aA.pv r):PV)
def CG(m:uD):Prop:= ∀(p0:List aK) (p3:List aA) (r:(List aA)),m p0 p3=some r→bQ Tryz.prog 60 [fL p0,aT p3] (aT r:PV)
def VA(fu:Nat)(p4:EH)(p1:uD)(p0:List aK)(pt:aA):Option aA:=sw (decide (pt.aCb=1)) (bd (EI fu p0 pt.aB9) fun(x3,x4)=>sw x4 (some x3) (bd (p1 p0 pt.aCa) fun x7=>some (aA.mk pt.aCb pt.aB9 x7))) (bd (p1 p0 pt.aCa) fun x9=>some (aA.mk pt.aCb pt.aB9 x9))
theorem aeZ(fu:Nat)(p4:EH)(p1:uD)(p8:HX p4)(p6:CG p1):HX (VA fu p4 p1):=by
 intro p0 pt r H
 refine qJ func16 H (fun C hC H=>?_)
 refine gQ 2 ?_;refine q1 (fD (bR pt)) ?_;refine gQ 9 ?_;refine bC H (fun h1 H=>?_) (fun h1 H=>?_)
 ·refine gQ 5 ?_;refine dU H fun x3 x4 z2 H=>(q1 (bE func59 (VF fu p0 pt.aB9 _ z2)) ?_)
  refine gQ 11 ?_;refine bC H (fun h5 H=>?_) (fun h5 H=>?_)
  ·refine gQ 2 ?_;refine q1 (bZ [pI x3.aCb,pS x3.aB9,aT x3.aCa]) ?_;exact gE 2
  refine gQ 2 ?_;refine bK H fun x7 z6 H=>(dW (dI [3] bW (dD [19] eE (dI [3] bW (dD [21] eE (dI [0] bF (dI [3] bW (dD [24] eE (dI [23,25] (bE func60 (p6 p0 pt.aCa _ z6)) (dI [20,22,26] r9 (lB [4,27] kG (dN ?_))))))))))))
  exact gE 0
 refine gQ 2 ?_;refine bK H fun x9 z8 H=>(dW (dI [3] bW (dD [19] eE (dI [3] bW (dD [21] eE (dI [0] bF (dI [3] bW (dD [24] eE (dI [23,25] (bE func60 (p6 p0 pt.aCa _ z8)) (dI [20,22,26] r9 (lB [4,27] kG (dN ?_))))))))))))
 exact gE 0
def N6(fu:Nat)(p4:EH)(p1:uD)(p0:List aK)(p3:List aA):Nat→((List aA))→Option (LR ((List aA)) ((List aA))):=fun i2 v3=>bd (p4 p0 (aR p3 i2)) fun x7=>gd (i2=(v3).length) (some (.next (v3++([x7]:List aA))))
def HW(fu:Nat)(p4:EH)(p1:uD)(p0:List aK)(p3:List aA):Option ((List aA)):=gd (p3.length≤68719476736) (so (loopN (N6 fu p4 p1 p0 p3) (p3.length-0) 0 ([])) fun v3=>gd ((v3).length=p3.length) (some v3))
theorem U9(fu:Nat)(p4:EH)(p1:uD)(p8:HX p4)(p6:CG p1):CG (HW fu p4 p1):=by
 intro p0 p3 r H
 refine qJ func60 H (fun C hC H=>?_)
 refine gQ 8 ?_;refine cF H fun z1 H=>(q1 (bB.makeSlice (N:=p3.length) rfl rfl rfl rfl anX.h atI.h (by decide) (Nat.le_trans (Nat.mul_le_mul_left _ z1) (by decide)) (Nat.le_trans z1 (by decide))) ?_)
 refine gQ 9 ?_;refine gP 1 (aA.trs_len _) (fun hl4=>?_)
 refine bS (σ:=(List aA)) (fun i2 v3=>⟨[(0,fL p0),(4,.nil),(5,.full 3 (p3.length) 0),(11,aT p3),(12,pN p3.length),(13,pN i2)],⟨[],[⟨30,3,aA.trs (v3),true⟩]⟩⟩) (fun v3=>⟨[(4,.nil),(5,.full 3 (p3.length) 0)],⟨[],[⟨30,3,aA.trs (v3),true⟩]⟩⟩) (eM H) ?_ ?_
 ·rintro i2 v3 H
  refine gQ 5 ?_;refine cS H (fun h5 h5l H=>?_) (fun h5 H=>?_)
  ·refine gQ 7 ?_;refine q1 (iK (aA.cs (aR p3 i2))) ?_;refine gQ 8 ?_;refine q1 (bZ [pI ((aR p3 i2).aCb),pS ((aR p3 i2).aB9),aT ((aR p3 i2).aCa)]) (bK H fun x7 z6 H=>(q1 (bE func16 (p8 p0 (aR p3 i2) _ z6)) (q1 (bB.indexFull (k:=i2) rfl rfl rfl rfl h5l anX.h) (cF H fun z8 H=>?_))))
   refine q1 (bB.storeRptr (e:=aA.cs x7) (es2:=aA.trs (v3++([x7]:List aA))) 18 rfl rfl rfl rfl rfl rfl jK rfl rfl atC.h (by rw [aA.trs_len];exact z8) h5l (by rw [aA.trs_map,aA.trs_map,List.map_append];simp [aA.tr_cs])) ?_;exact gE 5
  exact gE 0
 rintro v3 H
 refine gQ 3 ?_;refine cF H fun z9 H=>?_;refine AL.weak (Wk.full (i:=25) rfl rfl (by rw [aA.trs_len];exact z9)) ?_;exact gE 2
mutual
def rJ:Nat→(List aK)→aA→Option aA
 |0,_,_=>none
 |fu+1,p0,pt=>VA fu (rJ fu) (mN fu) p0 pt
def mN:Nat→(List aK)→(List aA)→Option ((List aA))
 |0,_,_=>none
 |fu+1,p0,p3=>HW fu (rJ fu) (mN fu) p0 p3
end
theorem aiG(fu:Nat):HX (rJ fu)∧CG (mN fu):=by
 induction fu with
 |zero=>exact⟨(fun p0 pt r H=>by simp only [rJ] at H;cases H),(fun p0 p3 r H=>by simp only [mN] at H;cases H)⟩
 |succ fu ih=>exact⟨(fun p0 pt r H=>by simp only [rJ] at H;exact aeZ fu (rJ fu) (mN fu) ih.1 ih.2 p0 pt r H),(fun p0 p3 r H=>by simp only [mN] at H;exact U9 fu (rJ fu) (mN fu) ih.1 ih.2 p0 p3 r H)⟩
theorem al2(fu:Nat):HX (rJ fu):=(aiG fu).1
abbrev ET:=(List aK)→aA→Option aA
abbrev uI:=(List aK)→(List aA)→Option ((List aA))
def II(m:ET):Prop:= ∀(p0:List aK) (pt:aA) (r:aA),m p0 pt=some r→bQ Tryz.prog 110 [fL p0,(aA.pv pt)] ((aA.pv r):PV)
def CP(m:uI):Prop:= ∀(p0:List aK) (p3:List aA) (r:(List aA)),m p0 p3=some r→bQ Tryz.prog 152 [fL p0,aT p3] (aT r:PV)
def WA(fu:Nat)(p5:ET)(p2:uI)(p0:List aK)(pt:aA):Option aA:=sw (decide (pt.aCb=1)) (gd (qT p0) (sw (IE p0 pt.aB9) (some (DI p0 pt.aB9)) (bd (p2 p0 pt.aCa) fun x5=>some (aA.mk pt.aCb pt.aB9 x5)))) (bd (p2 p0 pt.aCa) fun x7=>some (aA.mk pt.aCb pt.aB9 x7))
theorem afV(fu:Nat)(p5:ET)(p2:uI)(p9:II p5)(p7:CP p2):II (WA fu p5 p2):=by
 intro p0 pt r H
 refine qJ func110 H (fun C hC H=>?_)
 refine gQ 2 ?_;refine q1 (fD (bR pt)) ?_;refine gQ 9 ?_;refine bC H (fun h1 H=>?_) (fun h1 H=>?_)
 ·refine gQ 5 ?_;refine cF H fun z2 H=>(q1 (bE func151 (aoM p0 pt.aB9 z2)) ?_)
  refine gQ 11 ?_;refine bC H (fun h3 H=>?_) (fun h3 H=>?_)
  ·refine gQ 2 ?_;refine q1 (bZ [pI ((DI p0 pt.aB9).aCb),pS ((DI p0 pt.aB9).aB9),aT ((DI p0 pt.aB9).aCa)]) ?_;exact gE 2
  refine gQ 2 ?_;refine bK H fun x5 z4 H=>(dW (dI [3] bW (dD [19] eE (dI [3] bW (dD [21] eE (dI [0] bF (dI [3] bW (dD [24] eE (dI [23,25] (bE func152 (p7 p0 pt.aCa _ z4)) (dI [20,22,26] r9 (lB [4,27] kG (dN ?_))))))))))))
  exact gE 0
 refine gQ 2 ?_;refine bK H fun x7 z6 H=>(dW (dI [3] bW (dD [19] eE (dI [3] bW (dD [21] eE (dI [0] bF (dI [3] bW (dD [24] eE (dI [23,25] (bE func152 (p7 p0 pt.aCa _ z6)) (dI [20,22,26] r9 (lB [4,27] kG (dN ?_))))))))))))
 exact gE 0
def OT(fu:Nat)(p5:ET)(p2:uI)(p0:List aK)(p3:List aA):Nat→((List aA))→Option (LR ((List aA)) ((List aA))):=fun i1 v3=>bd (p5 p0 (aR p3 i1)) fun x7=>gd ((v3).length+(([x7]:List aA)).length≤68719476736) (some (.next (v3++([x7]:List aA))))
def IH(fu:Nat)(p5:ET)(p2:uI)(p0:List aK)(p3:List aA):Option ((List aA)):=so (loopN (OT fu p5 p2 p0 p3) (p3.length-0) 0 ([])) fun v3=>some v3
theorem V9(fu:Nat)(p5:ET)(p2:uI)(p9:II p5)(p7:CP p2):CP (IH fu p5 p2):=by
 intro p0 p3 r H
 refine qJ func152 H (fun C hC H=>?_)
 refine gQ 6 ?_;refine q1 (qP ([]:List aA)) ?_;refine gQ 7 ?_;refine gP 1 (aA.trs_len _) (fun hl4=>?_)
 refine bS (σ:=(List aA)) (fun i1 v3=>⟨[(0,fL p0),(1,aT p3),(4,.nil),(5,fK v3 0),(6,pN i1)],⟨[],[⟨30,3,aA.trs (v3),false⟩]⟩⟩) (fun v3=>⟨[(4,.nil),(5,fK v3 0)],⟨[],[⟨30,3,aA.trs (v3),false⟩]⟩⟩) (eM H) ?_ ?_
 ·rintro i1 v3 H
  refine gQ 8 ?_;refine cS H (fun h5 h5l H=>?_) (fun h5 H=>?_)
  ·refine gQ 9 ?_;refine q1 (iK (aA.cs (aR p3 i1))) (bK H fun x7 z6 H=>(q1 (bE func110 (p9 p0 (aR p3 i1) _ z6)) (q1 (hH ([x7]:List aA)) (cF H fun z8 H=>(q1 (lE z8) ?_)))))
   exact gE 7
  exact gE 0
 rintro v3 H
 exact gE 5
mutual
def rT:Nat→(List aK)→aA→Option aA
 |0,_,_=>none
 |fu+1,p0,pt=>WA fu (rT fu) (mV fu) p0 pt
def mV:Nat→(List aK)→(List aA)→Option ((List aA))
 |0,_,_=>none
 |fu+1,p0,p3=>IH fu (rT fu) (mV fu) p0 p3
end
theorem aiY(fu:Nat):II (rT fu)∧CP (mV fu):=by
 induction fu with
 |zero=>exact⟨(fun p0 pt r H=>by simp only [rT] at H;cases H),(fun p0 p3 r H=>by simp only [mV] at H;cases H)⟩
 |succ fu ih=>exact⟨(fun p0 pt r H=>by simp only [rT] at H;exact afV fu (rT fu) (mV fu) ih.1 ih.2 p0 pt r H),(fun p0 p3 r H=>by simp only [mV] at H;exact V9 fu (rT fu) (mV fu) ih.1 ih.2 p0 p3 r H)⟩
theorem amP(fu:Nat):II (rT fu):=(aiY fu).1
end
end Go.Proofs.YtfcoaagbccmahaaGreat.W

namespace Go.Proofs.YtfcoaagbccmahaaGreat
open Go.RowKit Go.WalkArith Go.IntWalk Go.WideShapes
section
variable {P:Program} {C:n0} {n:Nat} {s:AS} {o:Oper} {x y:Operand} {T T':TypeId}
theorem bB.minI{a b:Int}(ho:o.op= .call { callee:= .builtin .min,args:= #[x,y],argTypes:= #[T,T'] })(hd:bI o.dst n=true)(hx:s.ev x=some (pI a))(hy:s.ev y=some (pI b)):bB P C n o s (s.putO o.dst (pI (min a b))):=
 bB.quiet (cT hd) fun m a' w h=>by
  obtain⟨h1,h3⟩:=cE.leaf_eq (h.eval hx)
  obtain⟨h2,h4⟩:=cE.leaf_eq (h.eval hy)
  have he:(if b<a then b else a)=min a b:=by rw [Int.min_def];split<;>split<;>omega
  refine⟨.int .i64 (min a b),?_,cE.leaf ?_⟩
  ·unfold execOp
   simp [ho,resolve,invoke,builtin,h1,h2,Builtin.min_,Builtin.min2,he]
  ·rw [← he]
   split
   ·exact h4
   ·exact h3
end
section
variable {P:Program} {C:n0} {n:Nat} {s:AS} {o:Oper} {x y:Operand} {T T':TypeId}
theorem rMn{a b:Nat}(ho:o.op= .call { callee:= .builtin .min,args:= #[x,y],argTypes:= #[T,T'] }:=by exact rfl)(hd:bI o.dst n=true:=by exact rfl)(hx:s.ev x=some (pN a):=by exact rfl)(hy:s.ev y=some (pN b):=by exact rfl):bB P C n o s (s.putO o.dst (pN (min a b))):=by
 have h:=bB.minI (P:=P) (C:=C) ho hd hx hy
 have e:(min (a:Int) (b:Int))=((min a b:Nat):Int):=by omega
 rw [e] at h
 exact h
end
section
variable {P:Program} {C:n0} {n:Nat} {s:AS} {o:Oper} {Q:Exit→AS→Prop}
theorem AL.nilQ{ops:Array Oper}{rest:List Oper}{T yT t:TypeId}{x:Operand}{sz:Nat}{es:List (List Tr)}(hT:P.underlying T=some (.slice t))(h: ∀b:Bool,(b=true→es= [])→AL P C n ops rest Q (s.putO o.dst (.t (.leaf (.bool b)))))
 (ho:o.op= .binOp .eql T x (.const (.slice none 0 0)) yT:=by exact rfl) (hd:bI o.dst n=true:=by exact rfl) (hx:s.ev x=some (.t (.row sz es)):=by exact rfl) (hg:o.guard=none:=by exact rfl):AL P C n ops (o::rest) Q s:=fun m a w hr=>by
 have hv:=hr.eval hx
 have hv':cE _ w (.row sz es) (a.eval x):=hv
 have key: ∃A cap,a.eval x= .slice A es.length cap∧(A.isNone=true→es= []):=by
  generalize a.eval x=v at hv'
  cases hv' with
  |row c h1 h2 h3 h4=>
   refine⟨_,_,rfl,fun hn=>?_⟩
   cases es with
   |nil=>rfl
   |cons e l=>
    obtain⟨b,off,ha,_⟩:=h3 (by simp)
    rw [ha] at hn
    cases hn
 obtain⟨A,cap,hA,hb⟩:=key
 refine wpList_plain hg fun K hK=>?_
 have hrun:(execOp a.eval o).run P w= .ok (.value (.bool A.isNone)) w:=by
  have h1:=Lib.run_eql_slice_nil (P:=P) w T t A es.length cap 0 0 hT
  unfold execOp
  simp only [ho,hA]
  have h2:a.eval (.const (.slice none 0 0))= .slice none 0 0:=rfl
  simp only [h2]
  rw [Sem.run_bind]
  simp [eqGuard,h1]
 unfold Oper.wp
 rw [hrun]
 exact hK _ w (h A.isNone hb m _ w (hr.put (cT hd) (cE.leaf (by trivial))))
end
section
variable {P:Program} {C:n0} {n:Nat} {s:AS}
theorem Wk.fullLit{i E sz N r:Nat}{es:List (List Tr)}{b:Bool}(hx:s.lk i=some (.full sz N r))(hrow:s.st.rows[r]?=some ⟨E,sz,es,b⟩)(hl:es.length=N):Wk C n s (s.put i (.lit sz es)):=fun m a w h=>by
 refine⟨m,h.dfr,h.tsz,h.sto,fun j q hq=>?_,h.ev⟩
 rw [AS.lk_put] at hq
 split at hq
 ·rename_i e
  subst e
  cases hq
  obtain⟨v,hv,row,g,q1,q2,q3,q4,q5⟩:=h.env j _ hx
  refine⟨v,hv,?_⟩
  rw [hrow] at q1
  cases q1
  obtain⟨-,-,hplace⟩:=h.sto.row r _ hrow
  rcases hplace with⟨z1,-⟩|⟨g',c',cur,z1,hob,hcs,hfit,hmax,hrep⟩
  ·rw [q4] at z1;cases z1
  rw [q4] at z1
  injection z1 with z1
  injection z1 with e1 e2
  subst e1 e2
  subst q5
  have:cE (kS C.av s.st m) w (.row sz es) (.slice (some ⟨g,0,none⟩) es.length N):=hrep
  rw [hl] at this
  exact⟨this,some ⟨g,0,none⟩,by rw [hl]⟩
 ·exact h.env j q hq
end
end Go.Proofs.YtfcoaagbccmahaaGreat

namespace Go.Proofs.YtfcoaagbccmahaaGreat
open Go.RowKit Go.WalkArith Go.IntWalk Go.WideShapes
section
variable {av:Nat→Nat→Prop} {s st':c5} {m m':jU} {w w':World} {ks:List Nat} {rs:List nW}
def TF(s:c5)(m m':jU)(ks:List Nat)(i:Nat):Option (Nat×Nat):=if i<s.rows.length then m.γ i else m'.γ (ks.getD (i-s.rows.length) 0)
theorem amN(h:eV s ⟨[],[]⟩ [] [])(hs:fB av s m w)(hst:fB (CY av s ⟨[],[]⟩ m [] [] w) st' m' w')(he:Ev ⟨[],[]⟩ (m.via [] []) w st' m' w')
 (hrow: ∀i row,rs[i]?=some row→st'.rows[ks.getD i 0]?=some row) (hks: ∀i j,i<rs.length→j<rs.length→ks.getD i 0=ks.getD j 0→i=j):
 Ev s m w ⟨s.boxes,s.rows++rs⟩ ⟨m.ρ,TF s m m' ks⟩ w'∧fB av ⟨s.boxes,s.rows++rs⟩ ⟨m.ρ,TF s m m' ks⟩ w'∧
 (∀b o,b<w'.heap.size→kS (CY av s ⟨[],[]⟩ m [] [] w) st' m' b o→kS av ⟨s.boxes,s.rows++rs⟩ ⟨m.ρ,TF s m m' ks⟩ b o):=by
 have old: ∀i,i<s.rows.length→TF s m m' ks i=m.γ i:=fun i hi=>if_pos hi
 have new: ∀i,TF s m m' ks (s.rows.length+i)=m'.γ (ks.getD i 0):=fun i=>by
  unfold TF
  rw [if_neg (by omega),show s.rows.length+i-s.rows.length=i by omega]
 have hfresh: ∀i row g c,rs[i]?=some row→m'.γ (ks.getD i 0)=some (g,c)→w.heap.size≤g:=fun i row g c hi hg=>by
  rcases he.rfresh _ row g c (hrow i row hi) hg with⟨row0,c0,hr,-⟩|hf
  ·simp at hr
  ·exact hf
 have rk: ∀(i:Nat) (z:nW) (g c:Nat),(s.rows++rs)[i]?=some z→TF s m m' ks i=some (g,c)→(s.rows[i]?=some z∧m.γ i=some (g,c))∨ ∃j,i=s.rows.length+j∧rs[j]?=some z∧m'.γ (ks.getD j 0)=some (g,c):=fun i z g c hi hg=>by
  rcases Nat.lt_or_ge i s.rows.length with hl|hl
  ·rw [List.getElem?_append_left hl] at hi
   rw [old i hl] at hg
   exact .inl ⟨hi,hg⟩
  ·obtain⟨j,rfl⟩: ∃j,i=s.rows.length+j:=⟨i-s.rows.length,by omega⟩
   rw [List.getElem?_append_right hl,show s.rows.length+j-s.rows.length=j by omega] at hi
   rw [new] at hg
   exact .inr ⟨j,rfl,hi,hg⟩
 have okk: ∀b o,b<w.heap.size→s.ok m b o→c5.ok ⟨s.boxes,s.rows++rs⟩ ⟨m.ρ,TF s m m' ks⟩ b o:=fun b o hb hk=>by
  refine⟨fun i z hi=>hk.1 i z hi,fun i z g c hi hg e=>?_⟩
  rcases rk i z g c hi hg with⟨h1,h2⟩|⟨j,-,h2,h3⟩
  ·exact hk.2 i z g c h1 h2 e
  ·have:=hfresh j z g c h2 h3;omega
 have ev:Ev s m w ⟨s.boxes,s.rows++rs⟩ ⟨m.ρ,TF s m m' ks⟩ w':=by
  refine⟨he.os,he.tape,he.output,he.size,fun b hb h1 h2=>he.blk b hb (fun i x hi=>by simp at hi) (fun r row0 g c hr _=>by simp at hr),fun b o hb hk=>he.cell b o hb (h.ok (av:=fun _ _=>False) (w:=w) ⟨id,hk⟩).2,okk,fun i y hi=>⟨⟨y,hi⟩,rfl⟩,fun i z hi=> .inl ⟨z,hi⟩,fun i row0 hi=>⟨row0,?_,rfl,Nat.le_refl _,?_⟩,fun i z g c hi hg=>?_⟩
  ·show(s.rows++rs)[i]?=_
   rw [List.getElem?_append_left (cW hi)];exact hi
  ·exact⟨fun _=>old i (cW hi),fun hw=>⟨hw,old i (cW hi)⟩⟩
  ·rcases rk i z g c hi hg with⟨h1,h2⟩|⟨j,-,h2,h3⟩
   ·exact .inl ⟨z,c,h1,h2⟩
   ·exact .inr (hfresh j z g c h2 h3)
 have back: ∀b o,b<w'.heap.size→kS (CY av s ⟨[],[]⟩ m [] [] w) st' m' b o→kS av ⟨s.boxes,s.rows++rs⟩ ⟨m.ρ,TF s m m' ks⟩ b o:=fun b o _ hk=>by
  rcases Nat.lt_or_ge b w.heap.size with hlt|hge
  ·by_cases hA:kS av s m b o
   ·exact⟨hA.1,okk b o hlt hA.2⟩
   ·exact absurd ⟨hlt,hA,fun i x h1 h2=>by simp at h1,fun r row0 g c h1 h2 h3=>by simp at h1⟩ hk.1
  ·refine⟨fun ho=>by have:=hs.avlt _ _ ho;omega,fun i z hi=>?_,fun i z g c hi hg e=>?_⟩
   ·have:=hs.box_lt hi
    show m.ρ i≠b
    omega
   ·rcases rk i z g c hi hg with⟨h1,h2⟩|⟨j,-,h2,h3⟩
    ·have:=hs.row_lt h1 h2
     omega
    ·exact hk.2.2 _ _ g c (hrow j z h2) h3 e
 refine⟨ev,⟨fun i z hi=>?_,fun i i' z z' hi hi' hne=>hs.binj i i' z z' hi hi' hne,fun i z hi=>?_,fun i i' z z' g c c' hi hi' hg hg'=>?_,fun i z r row0 g c hi hr hg=>?_,fun b o hb=>Nat.lt_of_lt_of_le (hs.avlt b o hb) he.size,fun i z g c hi hg o ho=>?_,fun i z hi=>hs.avb i z hi⟩,back⟩
 ·obtain⟨vs,k1,k2⟩:=hs.box i z hi
  exact⟨vs,k1.keep (he.blk _ k1.lt (fun j x hj=>by simp at hj) (fun r row0 g c hr _=>by simp at hr)),gK.mono ev _ _ k2⟩
 ·rcases Nat.lt_or_ge i s.rows.length with hl|hl
  ·have hi':s.rows[i]?=some z:=by
    have h0:(s.rows++rs)[i]?=some z:=hi
    rwa [List.getElem?_append_left hl] at h0
   obtain⟨k1,k2,k3⟩:=hs.row i z hi'
   refine⟨k1,k2,?_⟩
   simp only [old i hl]
   rcases k3 with k3|⟨g,c,cur,q1,q2,q3,q4,q5,q6⟩
   ·exact .inl k3
   ·exact .inr ⟨g,c,cur,q1,(he.blk g q2.lt (fun j x hj e=>by simp at hj) (fun r row0 g' c' hr _=>by simp at hr)).trans q2,q3,q4,q5,RV.mono ev (.t _) _ q6⟩
  ·obtain⟨j,rfl⟩: ∃j,i=s.rows.length+j:=⟨i-s.rows.length,by omega⟩
   have hj:rs[j]?=some z:=by
    have h0:(s.rows++rs)[s.rows.length+j]?=some z:=hi
    rwa [List.getElem?_append_right hl,show s.rows.length+j-s.rows.length=j by omega] at h0
   obtain⟨k1,k2,k3⟩:=hst.row _ _ (hrow j z hj)
   refine⟨k1,k2,?_⟩
   simp only [new]
   rcases k3 with k3|⟨g,c,cur,q1,q2,q3,q4,q5,q6⟩
   ·exact .inl k3
   ·exact .inr ⟨g,c,cur,q1,q2,q3,q4,q5,cE.mono q6 (Nat.le_refl _) back (fun _ _ _ _=>rfl)⟩
 ·rcases rk i z g c hi hg with⟨h1,h2⟩|⟨j,rfl,h2,h3⟩<;>rcases rk i' z' g c' hi' hg' with⟨h1',h2'⟩|⟨j',rfl,h2',h3'⟩
  ·exact hs.rinj i i' z z' g c c' h1 h1' h2 h2'
  ·have:=hs.row_lt h1 h2
   have:=hfresh j' z' g c' h2' h3'
   omega
  ·have:=hs.row_lt h1' h2'
   have:=hfresh j z g c h2 h3
   omega
  ·have h4:=hst.rinj _ _ z z' g c c' (hrow j z h2) (hrow j' z' h2') h3 h3'
   rw [hks j j' (cW h2) (cW h2') h4]
 ·rcases rk r row0 g c hr hg with⟨h1,h2⟩|⟨j,-,h2,h3⟩
  ·exact hs.br i z r row0 g c hi h1 h2
  ·have:=hs.box_lt hi
   have:=hfresh j row0 g c h2 h3
   show m.ρ i≠g
   omega
 ·rcases rk i z g c hi hg with⟨h1,h2⟩|⟨j,-,h2,h3⟩
  ·exact hs.avr i z g c h1 h2 o ho
  ·have:=hs.avlt _ _ ho
   have:=hfresh j z g c h2 h3
   omega
end
def asE(P:Program)(f:FuncId)(args:List PV)(rs:List nW)(R:List Nat→PV):Prop:=
 b6 P f args ⟨[],[]⟩ (fun r t=> ∃ks:List Nat,r=R ks∧(∀i row,rs[i]?=some row→t.rows[ks.getD i 0]?=some row)∧(∀i j,i<rs.length→j<rs.length→ks.getD i 0=ks.getD j 0→i=j))
section
variable {P:Program} {C:n0} {n:Nat} {s:AS} {o:Oper}
theorem bB.callOwnG{f:FuncId}{fn:Func}{xs:List Operand}{ts:Array TypeId}{ps qs:List PV}{rs:List nW}{R:List Nat→PV}{q:PV}(ho:o.op= .call { callee:= .value (.func f),args:=⟨xs⟩,argTypes:=ts })(hd:bI o.dst n=true)(hf:P.funcs[f]?=some fn)(hnm:(fn.name== "runtime.NumGoroutine")=false)(hb:fn.body.isNone=false)
 (hx:xs.map s.ev=ps.map some) (hle:tA ps (DM [] [] qs)) (hok:mC ⟨[],[]⟩ qs=true) (hc:asE P f qs rs R)
 (hmv: ∀(ok ok':Nat→Nat→Prop) (st st':c5) (m m':jU) (w:World) (v:Value) (ks:List Nat),(∀i row,rs[i]?=some row→st.rows[ks.getD i 0]?=some row∧st'.rows[s.st.rows.length+i]?=some row∧m'.γ (s.st.rows.length+i)=m.γ (ks.getD i 0))→(∀b o,b<w.heap.size→ok b o→ok' b o)→RV ok st m w (R ks) v→RV ok' st' m' w q v):
 bB P C n o s ((⟨s.env,⟨s.st.boxes,s.st.rows++rs⟩⟩:AS).putO o.dst q):=fun m a w h K Q hK=>by
 have hp:eV s.st ⟨[],[]⟩ [] []:=eV.of trivial trivial (by decide) (by decide)
 have h2:=evL h hx
 have h1:(execOp a.eval o).run P w= .ok (.enter f ⟨xs.map a.eval⟩) w:=by
  have hcf:=iC (P:=P) hf hnm hb
  unfold execOp
  simp only [ho]
  simp [resolve,invoke,Deferred.ofValue,Act.eval,hcf]
 unfold Oper.wp
 rw [h1]
 have h3:=hc (CY C.av s.st ⟨[],[]⟩ m [] [] w) (m.via [] []) w _ (hp.sto h.sto) (gK.unren hp (fun b o _ k=>hp.ok k) _ _ hok (tA.rv hle h2))
 refine Calls.mono h3 fun e w'=>?_;rintro⟨r,st',m',v,rfl,⟨ks,rfl,hrow,hks⟩,h4,h5,h6⟩
 obtain⟨q1,q2,q3⟩:=amN hp h.sto h4 h5 hrow hks
 refine hK _ _ w' ((h.step q1 q2).put (cT hd) (hmv _ _ _ _ _ _ _ _ ks (fun i row hi=>⟨hrow i row hi,?_,?_⟩) q3 h6))
 ·show(s.st.rows++rs)[s.st.rows.length+i]?=_
  rw [List.getElem?_append_right (by omega),show s.st.rows.length+i-s.st.rows.length=i by omega]
  exact hi
 ·show TF s.st m m' ks (s.st.rows.length+i)=_
  unfold TF
  rw [if_neg (by omega),show s.st.rows.length+i-s.st.rows.length=i by omega]
section
variable {f:FuncId} {fn:Func} {xs:List Operand} {ts:Array TypeId} {ps qs:List PV} {r0 r1 r2:nW}
end
end
section
variable {P:Program} {C:n0} {n:Nat} {s:AS} {o:Oper}
theorem rCl{f:FuncId}{fn:Func}{xs:List Operand}{ts:Array TypeId}{ps qs:List PV}{sz:Nat}{es:List (List Tr)}(hf:P.funcs[f]?=some fn)(hc:bQ P f qs (.lit sz es))(ho:o.op= .call { callee:= .value (.func f),args:=⟨xs⟩,argTypes:=ts }:=by exact rfl)(hd:bI o.dst n=true:=by exact rfl)(hnm:(fn.name== "runtime.NumGoroutine")=false:=by kernel_rfl)(hb:fn.body.isNone=false:=by exact rfl)
 (hx:evA s xs=some ps:=by exact rfl) (hle:tA ps (DM [] [] qs):=by exact jK) (h1:mC ⟨[],[]⟩ qs=true:=by exact rfl):bB P C n o s (s.putO o.dst (.lit sz es)):=
 bB.congr (bB.callOwnG (rs:= []) (R:=fun _=> .lit sz es) (q:= .lit sz es) ho hd hf hnm hb (I9 hx) hle h1 (b6.mono hc fun r t ⟨h,_⟩=>⟨[],h,fun i row hi=>by simp at hi,fun i j hi=>by simp at hi⟩) fun ok ok' st st' m m' w v ks _ hk h=>⟨cE.mono h.1 (Nat.le_refl _) hk (fun _ _ _ _=>rfl),h.2⟩) (by simp)
end
section
variable {P:Program} {C:n0} {n:Nat} {s:AS} {o:Oper}
end
end Go.Proofs.YtfcoaagbccmahaaGreat

namespace Go.Proofs.YtfcoaagbccmahaaGreat.W
set_option maxRecDepth 100000
set_option maxHeartbeats 40000000
noncomputable section
open Tryz Go.RowKit Go.Proofs
attribute [local irreducible] lt
abbrev wX:=aH→Option aH
abbrev oT:=(List aH)→Option ((List aH))
def BZ(m:wX):Prop:= ∀(pe:aH) (r:aH),m pe=some r→bQ Tryz.prog 129 [(aH.pv pe)] ((aH.pv r):PV)
def vK(m:oT):Prop:= ∀(p5:List aH) (r:(List aH)),m p5=some r→A0 Tryz.prog 168 [fP p5] ⟨[],[]⟩ [] 55 5 (aH.trs (r)) (fun k=>sB r k)
theorem ZH{m:oT}(h:vK m)(p5:List aH)(r:(List aH))(H:m p5=some r):bQ Tryz.prog 168 [fP p5] (fP r:PV):=(h p5 r H).plain (fun _=>jK) (hp:=VU)
def M2(fu:Nat)(p3:wX)(p2:oT)(pe:aH):Option aH:=bd (p2 pe.aCa) fun x2=>some (aH.mk pe.aCb pe.aCR pe.aCz x2)
theorem ZI(fu:Nat)(p3:wX)(p2:oT)(p9:BZ p3)(p8:vK p2):BZ (M2 fu p3 p2):=by
 intro pe r H
 refine qJ func129 H (fun C hC H=>?_)
 refine gQ 2 ?_;refine q1 (fD (uA pe)) ?_;refine gQ 6 ?_;refine bK H fun x2 z1 H=>(q1 (bE func168 (ZH (p8) pe.aCa _ z1)) ?_)
 refine gQ 5 ?_;refine q1 (bZ [pI pe.aCb,pI pe.aCR,pI pe.aCz.aCl,pI pe.aCz.aCz,fP x2]) ?_;exact gE 2
def K7(fu:Nat)(p3:wX)(p2:oT)(p5:List aH):Nat→((List aH))→Option (LR ((List aH)) ((List aH))):=fun i1 v3=>bd (p3 (aR p5 i1)) fun x7=>gd ((v3).length+(([x7]:List aH)).length≤68719476736) (some (.next (v3++([x7]:List aH))))
def GC(fu:Nat)(p3:wX)(p2:oT)(p5:List aH):Option ((List aH)):=so (loopN (K7 fu p3 p2 p5) (p5.length-0) 0 ([])) fun v3=>some v3
theorem T4(fu:Nat)(p3:wX)(p2:oT)(p9:BZ p3)(p8:vK p2):vK (GC fu p3 p2):=by
 intro p5 r H
 unfold A0
 refine qJ func168 H (fun C hC H=>?_)
 refine gQ 6 ?_;refine q1 (qP ([]:List aH)) ?_;refine gQ 7 ?_;refine gP 0 (aH.trs_len _) (fun hl4=>?_)
 try dsimp only at hl4
 refine bS (σ:=(List aH)) (fun i1 v3=>⟨[(0,fP p5),(2,.nil),(3,sB v3 0),(4,pN i1)],⟨[],[⟨55,5,aH.trs (v3),false⟩]⟩⟩) (fun v3=>⟨[(2,.nil),(3,sB v3 0)],⟨[],[⟨55,5,aH.trs (v3),false⟩]⟩⟩) (eM H) ?_ ?_
 ·rintro i1 v3 H
  refine gQ 8 ?_;refine cS H (fun h5 h5l H=>?_) (fun h5 H=>?_)
  ·refine gQ 8 ?_;refine q1 (iK (aH.cs (aR p5 i1))) (bK H fun x7 z6 H=>(q1 (bE func129 (p9 (aR p5 i1) _ z6)) (q1 (qP ([x7]:List aH)) (cF H fun z8 H=>(q1 (lE z8) ?_)))))
   exact gE 7
  exact gE 0
 rintro v3 H
 refine gQ 5 ?_;refine cV.ret ?_
 obtain rfl:_=r:=(vP H:)
 exact V4 (st':=⟨[],[⟨55,5,aH.trs (v3),false⟩]⟩) ⟨0,rfl,rfl,rfl⟩
mutual
def kD:Nat→aH→Option aH
 |0,_=>none
 |fu+1,pe=>M2 fu (kD fu) (lI fu) pe
def lI:Nat→(List aH)→Option ((List aH))
 |0,_=>none
 |fu+1,p5=>GC fu (kD fu) (lI fu) p5
end
theorem adG(fu:Nat):BZ (kD fu)∧vK (lI fu):=by
 induction fu with
 |zero=>exact⟨(fun pe r H=>by simp only [kD] at H;cases H),(fun p5 r H=>by simp only [lI] at H;cases H)⟩
 |succ fu ih=>exact⟨(fun pe r H=>by simp only [kD] at H;exact ZI fu (kD fu) (lI fu) ih.1 ih.2 pe r H),(fun p5 r H=>by simp only [lI] at H;exact T4 fu (kD fu) (lI fu) ih.1 ih.2 p5 r H)⟩
theorem ag0(fu:Nat):BZ (kD fu):=(adG fu).1
def xW(fu:Nat)(pe:aH)(p4:List Int)(x2:aH):Nat→(Int×Int×Int×Int×(List aH))→Option (LR (Int×Int×Int×Int×(List aH)) aH):=fun i3 (v4,v5,v6,v7,v8)=>some (.next (3,(aR p4 i3),0,0,([(aH.mk v4 v5 (aC.mk v6 v7) v8)]:List aH)))
def jI(fu:Nat)(pe:aH)(p4:List Int):Option aH:=bd (kD fu pe) fun x2=>so (loopN (xW fu pe p4 x2) (p4.length-0) 0 (x2.aCb,x2.aCR,x2.aCz.aCl,x2.aCz.aCz,x2.aCa)) fun(v4,v5,v6,v7,v8)=>some (aH.mk v4 v5 (aC.mk v6 v7) v8)
theorem xX(fu:Nat)(pe:aH)(p4:List Int)(r:aH)(H:jI fu pe p4=some r):bQ Tryz.prog 120 [(aH.pv pe),rI p4] ((aH.pv r)):=by
 refine qJ func120 H (fun C hC H=>?_)
 refine gQ 2 ?_;refine q1 (fD (uA pe)) ?_;refine gQ 4 ?_;refine q1 (bZ [pI pe.aCb,pI pe.aCR,pI pe.aCz.aCl,pI pe.aCz.aCz,fP pe.aCa]) (bK H fun x2 z1 H=>(q1 (bE func129 (ag0 fu pe _ z1)) ?_))
 refine gQ 8 ?_;refine gP 1 (fU _) (fun hl9=>?_)
 try dsimp only at hl9
 refine bS (σ:=Int×Int×Int×Int×(List aH)) (fun i3 (v4,v5,v6,v7,v8)=>⟨[(1,rI p4),(4,.ptr 1 0),(5,.ptr 2 0),(6,pN i3)],⟨[some ⟨55,uA pe⟩,some ⟨55,[pI 0,pI 0,pI 0,pI 0,.nil]⟩,some ⟨55,[pI v4,pI v5,pI v6,pI v7,fP v8]⟩],[]⟩⟩) (fun(v4,v5,v6,v7,v8)=>⟨[(4,.ptr 1 0),(5,.ptr 2 0)],⟨[some ⟨55,uA pe⟩,some ⟨55,[pI 0,pI 0,pI 0,pI 0,.nil]⟩,some ⟨55,[pI v4,pI v5,pI v6,pI v7,fP v8]⟩],[]⟩⟩) (eM H) ?_ ?_
 ·rintro i3 ⟨v4,v5,v6,v7,v8⟩ H
  refine gQ 8 ?_;refine cS H (fun h10 h10l H=>?_) (fun h10 H=>?_)
  ·refine gQ 3 ?_;refine dW (dI [1] bF (dI [6] bF (dI [15,16] qQ (dI [17] vQ (dD [5] (bZ [pI v4,pI v5,pI v6,pI v7,fP v8]) (dI [19] (hH ([(aH.mk v4 v5 (aC.mk v6 v7) v8)]:List aH)) (dI [18,20] r9 (lB [5,21] kG (dN ?_)))))))))
   exact gE 5
  exact gE 0
 rintro⟨v4,v5,v6,v7,v8⟩ H
 refine gQ 2 ?_;refine q1 (bZ [pI v4,pI v5,pI v6,pI v7,fP v8]) ?_;exact gE 2
abbrev mE:=aH→Option aH
abbrev lM:=(List aH)→Option ((List aH))
def o8(m:mE):Prop:= ∀(pe:aH) (r:aH),m pe=some r→bQ Tryz.prog 80 [(aH.pv pe)] ((aH.pv r):PV)
def sF(m:lM):Prop:= ∀(pl:List aH) (r:(List aH)),m pl=some r→bQ Tryz.prog 77 [fP pl] (.lit 5 (aH.trs (r)):PV)
def yP(fu:Nat)(p1:mE)(p0:lM)(pe:aH):Option aH:=bd (p0 pe.aCa) fun x2=>some (aH.mk pe.aCb pe.aCR pe.aCz x2)
theorem LY(fu:Nat)(p1:mE)(p0:lM)(p7:o8 p1)(p6:sF p0):o8 (yP fu p1 p0):=by
 intro pe r H
 refine qJ func80 H (fun C hC H=>?_)
 refine gQ 2 ?_;refine q1 (fD (uA pe)) ?_;refine gQ 6 ?_;refine bK H fun x2 z1 H=>(q1 (rCl func77 (p6 pe.aCa _ z1)) ?_)
 refine gQ 5 ?_;refine q1 (bZ [pI pe.aCb,pI pe.aCR,pI pe.aCz.aCl,pI pe.aCz.aCz,.lit 5 (aH.trs (x2))]) ?_;exact gE 2
def CK(fu:Nat)(p1:mE)(p0:lM)(pl:List aH):Nat→((List aH))→Option (LR ((List aH)) ((List aH))):=fun i2 v3=>bd (p1 (aR pl i2)) fun x7=>gd (i2=(v3).length) (some (.next (v3++([x7]:List aH))))
def wA(fu:Nat)(p1:mE)(p0:lM)(pl:List aH):Option ((List aH)):=gd (pl.length≤68719476736) (so (loopN (CK fu p1 p0 pl) (pl.length-0) 0 ([])) fun v3=>gd ((v3).length=pl.length) (some v3))
theorem KF(fu:Nat)(p1:mE)(p0:lM)(p7:o8 p1)(p6:sF p0):sF (wA fu p1 p0):=by
 intro pl r H
 refine qJ func77 H (fun C hC H=>?_)
 refine gQ 8 ?_;refine cF H fun z1 H=>(q1 (bB.makeSlice (N:=pl.length) rfl rfl rfl rfl asQ.h awI.h (by decide) (Nat.le_trans (Nat.mul_le_mul_left _ z1) (by decide)) (Nat.le_trans z1 (by decide))) ?_)
 refine gQ 9 ?_;refine gP 0 (aH.trs_len _) (fun hl4=>?_)
 try dsimp only at hl4
 refine bS (σ:=(List aH)) (fun i2 v3=>⟨[(2,.nil),(3,.full 5 (pl.length) 0),(9,fP pl),(10,pN pl.length),(11,pN i2)],⟨[],[⟨55,5,aH.trs (v3),true⟩]⟩⟩) (fun v3=>⟨[(2,.nil),(3,.full 5 (pl.length) 0)],⟨[],[⟨55,5,aH.trs (v3),true⟩]⟩⟩) (eM H) ?_ ?_
 ·rintro i2 v3 H
  refine gQ 5 ?_;refine cS H (fun h5 h5l H=>?_) (fun h5 H=>?_)
  ·refine gQ 7 ?_;refine q1 (iK (aH.cs (aR pl i2))) ?_;refine gQ 7 ?_;refine q1 (bZ [pI ((aR pl i2).aCb),pI ((aR pl i2).aCR),pI ((aR pl i2).aCz.aCl),pI ((aR pl i2).aCz.aCz),fP ((aR pl i2).aCa)]) (bK H fun x7 z6 H=>(q1 (bE func80 (p7 (aR pl i2) _ z6)) (q1 (bB.indexFull (k:=i2) rfl rfl rfl rfl h5l asQ.h) (cF H fun z8 H=>?_))))
   refine q1 (bB.storeRptr (e:=aH.cs x7) (es2:=aH.trs (v3++([x7]:List aH))) 16 rfl rfl rfl rfl rfl rfl jK rfl rfl awG.h (by rw [aH.trs_len];exact z8) h5l (by rw [aH.trs_map,aH.trs_map,List.map_append];simp [aH.tr_cs])) ?_;exact gE 5
  exact gE 0
 rintro v3 H
 refine gQ 3 ?_;refine cF H fun z9 H=>?_;refine AL.weak (Wk.fullLit (i:=22) rfl rfl (by rw [aH.trs_len];exact z9)) ?_;exact gE 2
mutual
def eH:Nat→aH→Option aH
 |0,_=>none
 |fu+1,pe=>yP fu (eH fu) (gT fu) pe
def gT:Nat→(List aH)→Option ((List aH))
 |0,_=>none
 |fu+1,pl=>wA fu (eH fu) (gT fu) pl
end
theorem OE(fu:Nat):o8 (eH fu)∧sF (gT fu):=by
 induction fu with
 |zero=>exact⟨(fun pe r H=>by simp only [eH] at H;cases H),(fun pl r H=>by simp only [gT] at H;cases H)⟩
 |succ fu ih=>exact⟨(fun pe r H=>by simp only [eH] at H;exact LY fu (eH fu) (gT fu) ih.1 ih.2 pe r H),(fun pl r H=>by simp only [gT] at H;exact KF fu (eH fu) (gT fu) ih.1 ih.2 pl r H)⟩
theorem QE(fu:Nat):o8 (eH fu):=(OE fu).1
def xK(fu:Nat)(pe:aH)(p4:List Int)(x2:aH):Nat→(Int×Int×Int×Int×(List aH))→Option (LR (Int×Int×Int×Int×(List aH)) aH):=fun i3 (v4,v5,v6,v7,v8)=>some (.next (3,(aR p4 i3),0,0,([(aH.mk v4 v5 (aC.mk v6 v7) v8)]:List aH)))
def gY(fu:Nat)(pe:aH)(p4:List Int):Option aH:=bd (eH fu pe) fun x2=>so (loopN (xK fu pe p4 x2) (p4.length-0) 0 (x2.aCb,x2.aCR,x2.aCz.aCl,x2.aCz.aCz,x2.aCa)) fun(v4,v5,v6,v7,v8)=>some (aH.mk v4 v5 (aC.mk v6 v7) v8)
theorem xL(fu:Nat)(pe:aH)(p4:List Int)(r:aH)(H:gY fu pe p4=some r):bQ Tryz.prog 114 [(aH.pv pe),rI p4] ((aH.pv r)):=by
 refine qJ func114 H (fun C hC H=>?_)
 refine gQ 2 ?_;refine q1 (fD (uA pe)) ?_;refine gQ 4 ?_;refine q1 (bZ [pI pe.aCb,pI pe.aCR,pI pe.aCz.aCl,pI pe.aCz.aCz,fP pe.aCa]) (bK H fun x2 z1 H=>(q1 (bE func80 (QE fu pe _ z1)) ?_))
 refine gQ 10 ?_;refine gP 1 (fU _) (fun hl9=>?_)
 try dsimp only at hl9
 refine bS (σ:=Int×Int×Int×Int×(List aH)) (fun i3 (v4,v5,v6,v7,v8)=>⟨[(4,.ptr 1 0),(5,.ptr 2 0),(10,rI p4),(11,pN p4.length),(12,pN i3)],⟨[some ⟨55,uA pe⟩,some ⟨55,[pI 0,pI 0,pI 0,pI 0,.nil]⟩,some ⟨55,[pI v4,pI v5,pI v6,pI v7,fP v8]⟩],[]⟩⟩) (fun(v4,v5,v6,v7,v8)=>⟨[(4,.ptr 1 0),(5,.ptr 2 0)],⟨[some ⟨55,uA pe⟩,some ⟨55,[pI 0,pI 0,pI 0,pI 0,.nil]⟩,some ⟨55,[pI v4,pI v5,pI v6,pI v7,fP v8]⟩],[]⟩⟩) (eM H) ?_ ?_
 ·rintro i3 ⟨v4,v5,v6,v7,v8⟩ H
  refine gQ 5 ?_;refine cS H (fun h10 h10l H=>?_) (fun h10 H=>?_)
  ·refine gQ 11 ?_;refine q1 (bZ [pI v4,pI v5,pI v6,pI v7,fP v8]) (q1 (hH ([(aH.mk v4 v5 (aC.mk v6 v7) v8)]:List aH)) ?_)
   exact gE 7
  exact gE 0
 rintro⟨v4,v5,v6,v7,v8⟩ H
 refine gQ 2 ?_;refine q1 (bZ [pI v4,pI v5,pI v6,pI v7,fP v8]) ?_;exact gE 2
end
end Go.Proofs.YtfcoaagbccmahaaGreat.W

namespace Go.Proofs.YtfcoaagbccmahaaGreat
open Go.RowKit Go.WalkArith Go.IntWalk Go.WideShapes
theorem aeX(l:List aA)(hl:l.length≤68719476735):A0 Tryz.prog 107 [aT l] ⟨[],[]⟩ [] 30 3 (aA.trs l) (fun k=> .acc 3 (aA.trs l) k):=by
 unfold A0
 refine qI Tryz.func107 (fun C hC=>?_)
 refine gQ 8 ?_;refine AL.nilQ Tryz.underlying28 (fun b hb=>?_)
 refine gQ 1 ?_;refine cV.cond (b:=b) rfl (fun hb'=>?_) (fun hb'=>?_)
 ·obtain rfl:l= []:=by
   have:=hb hb'
   cases l with
   |nil=>rfl
   |cons a l=>simp [aA.trs] at this
  refine gQ 4 ?_;refine cV.wk (Wk.reg (i:=2) 30 3 (by decide) rfl) (cV.ret ?_)
  exact V4 (st':=⟨[],[⟨30,3,aA.trs [],false⟩]⟩) ⟨0,rfl,rfl,rfl⟩
 refine gQ 3 ?_;refine q1 (qP ([]:List aA)) (q1 bF (q1 (lE (a:= []) (b:=l) (by simpa using Nat.le_succ_of_le hl)) ?_))
 refine gQ 2 ?_;refine cV.ret ?_;exact V4 (st':=⟨[],[⟨30,3,aA.trs l,false⟩]⟩) ⟨0,rfl,rfl,rfl⟩
end Go.Proofs.YtfcoaagbccmahaaGreat

namespace Go.Proofs.YtfcoaagbccmahaaGreat.W
open Go.RowKit Go.Proofs
mutual
def jV(l:List aK):aA→aA
 | .mk k n xs=>if k=1 then(if IE l n=true then DI l n else .mk k n (HK l xs)) else .mk k n (HK l xs)
def HK(l:List aK):List aA→List aA
 | []=> []
 |x::r=>jV l x::HK l r
end
theorem FE(l:List aK): ∀xs,HK l xs=xs.map (jV l)
 | []=>rfl
 |x::r=>by rw [HK,FE l r,List.map_cons]
theorem acF{l:List aK}{xs:List aA}(hb:xs.length≤68719476735)(h: ∀x∈xs,bP fun fu=>rT fu l x=some (jV l x)):bP fun fu=>mV fu l xs=some (HK l xs):=by
 refine bP.succ ((bP.list h).imp fun fu hf=>?_)
 simp only [mV,IH]
 rw [MH (g:=jV l) fun i s hi hp=>?_,FE]
 ·rfl
 ·rw [OT,gO (hf _ (cC hi)) rfl,iJ (by simp;omega) rfl]
theorem amO{l:List aK}(hl:qT l): ∀t:aA,iG t→bP fun fu=>rT fu l t=some (jV l t):=by
 refine aA.ind fun k n xs ih hb=>?_
 have h1:=hb.len
 refine bP.succ ((acF (l:=l) (xs:=xs) h1 fun x hx=>ih x hx (A5 (t:= .mk k n xs) hx hb)).imp fun fu hf=>?_)
 simp only [rT,WA,aA.aCb.eq_1,aA.aB9.eq_1,aA.aCa.eq_1,hf,jV]
 by_cases hk:k=1
 ·rw [if_pos hk]
  refine jP (decide_eq_true hk) (iJ hl ?_)
  cases IE l n<;>rfl
 ·rw [if_neg hk]
  exact g0 (decide_eq_false hk) rfl
theorem Q5(l:List aK)(t:aA)(hl:qT l)(hb:iG t):bQ Tryz.prog 110 [.t (.row 4 (aK.trs l)),(aA.pv t)] (aA.pv (jV l t)):=by
 obtain⟨fu,h⟩:=(amO hl t hb).get
 exact amP fu l t _ h
theorem abW{l:List aK}{xs:List aA}(hb:xs.length≤68719476735)(h: ∀x∈xs,bP fun fu=>rJ fu l x=some (jV l x)):bP fun fu=>mN fu l xs=some (HK l xs):=by
 refine bP.succ ((bP.list h).imp fun fu hf=>?_)
 simp only [mN,HW]
 refine iJ (by omega) ?_
 rw [MH (g:=jV l) fun i s hi hp=>?_,FE]
 ·exact iJ (by simp) rfl
 ·rw [N6,gO (hf _ (cC hi)) rfl,iJ hp.symm rfl]
theorem al1{l:List aK}(hl:qT l): ∀t:aA,iG t→bP fun fu=>rJ fu l t=some (jV l t):=by
 refine aA.ind fun k n xs ih hb=>?_
 have h1:=hb.len
 refine bP.succ ((abW (l:=l) (xs:=xs) h1 fun x hx=>ih x hx (A5 (t:= .mk k n xs) hx hb)).imp fun fu hf=>?_)
 simp only [rJ,VA,aA.aCb.eq_1,aA.aB9.eq_1,aA.aCa.eq_1,hf,jV]
 by_cases hk:k=1
 ·rw [if_pos hk,VE fu l n hl]
  refine jP (decide_eq_true hk) ?_
  unfold IE DI
  cases D1 l n<;>rfl
 ·rw [if_neg hk]
  exact g0 (decide_eq_false hk) rfl
theorem P9(l:List aK)(t:aA)(hl:qT l)(hb:iG t):bQ Tryz.prog 16 [.t (.row 4 (aK.trs l)),(aA.pv t)] (aA.pv (jV l t)):=by
 obtain⟨fu,h⟩:=(al1 hl t hb).get
 exact al2 fu l t _ h
theorem aaE{σ β:Type}{F:Nat→σ→Option (LR σ β)}{x:β}: ∀k i v,loopN F k i v=some (.inl x)→ ∃j u,F j u=some (.ret x)
 |0,i,v,h=>by rw [loopN] at h;cases h
 |k+1,i,v,h=>by
  rw [loopN] at h
  cases hf:F i v with
  |none=>rw [hf] at h;cases h
  |some y=>
   rw [hf] at h
   cases y with
   |next s=>exact aaE k (i+1) s h
   |brk s=>cases h
   |ret z=>cases h;exact⟨i,v,hf⟩
theorem afH{fu:Nat}{s a b:List aK}{ps ts:List aA}(h:fC fu s ps ts=some (a,false,b)):a= []:=by
 cases fu with
 |zero=>rw [fC] at h;cases h
 |succ fu=>
  rw [fC] at h
  unfold xO at h
  cases hd:(!decide ((((ps.length:Nat):Int):Int)=((ts.length:Nat):Int))) with
  |true=>rw [hd] at h;cases h;rfl
  |false=>
   rw [hd] at h
   obtain⟨y,hy,H⟩:=eM (hd0 (show so _ _=some (a,false,b) from h))
   cases y with
   |inr v=>
    have H2:Hd (some (v,true,v)) (fun r=>r=(a,false,b)):=H
    have e:(v,true,v)=(a,false,b):=vP (K:=fun r=>r=(a,false,b)) H2
    cases e
   |inl r=>
    obtain⟨j,u,hf⟩:=aaE _ _ _ hy
    have hr:r=(a,false,b):=H
    subst hr
    unfold zW at hf
    obtain⟨z,hz,H⟩:=bdI (gdI (hd0 hf)).2
    obtain⟨z1,z2,z3⟩:=z
    cases z2 with
    |true=>exact absurd (vP (gdI H).2) (by simp)
    |false=>
     have e:=vP H
     cases e
     rfl
theorem Z4(p t:aA)(hp:Tr.bulkL p.tr≤68719476735)(ht:iG t):bQ Tryz.prog 119 [(aA.pv p),(aA.pv t)] (.tup [.t (.row 4 (aK.trs (eT p t))),.t (.leaf (.bool (jB p t)))]):=by
 obtain⟨fu,hf⟩:=(Z3 p).get
 refine Z5 (fu+1) p t (eT p t,jB p t) ?_
 have h1:=abV (fu:=fu) (ps:= [p]) (by simpa using hf) (ts:= [t]) (s:= []) rfl (by simpa using ht) qT.nil (by rw [UN];simp only [List.length_nil];omega)
 rw [FT] at h1
 unfold N7 jB eT
 cases hq:j7 p t [] with
 |none=>
  rw [hq] at h1
  obtain⟨a,b,h1⟩:=h1
  obtain rfl:=afH h1
  exact gO h1 (g0 rfl rfl)
 |some s=>
  rw [hq] at h1
  exact gO h1 (jP rfl (iJ rfl rfl))
end Go.Proofs.YtfcoaagbccmahaaGreat.W

namespace Go.Proofs.YtfcoaagbccmahaaGreat.W
open Go.RowKit Go.Proofs
attribute [local irreducible] lt
theorem N3{l:LB}{s:ByteArray}:uW l s=true↔s∈l:=by
 unfold uW
 rw [List.any_eq_true]
 constructor
 ·rintro⟨x,hx,h⟩
  rw [decide_eq_true_eq] at h
  exact h ▸ hx
 ·exact fun h=>⟨s,h,decide_eq_true rfl⟩
def CE(w:aF):LB:=w.aB8.flatMap fun p=>p.aCo.flatMap fun t=>t.aCi
theorem abT{α β:Type}[Wt α](f:α→List β)(h: ∀x,(f x).length≤wt x): ∀l:List α,(l.flatMap f).length≤wl l
 | []=>Nat.zero_le _
 |x::l=>by
  rw [List.flatMap_cons,List.length_append,ad0]
  have:=h x
  have:=abT f h l
  omega
theorem aeO{w:aF}(hw:wt w≤13000000):(CE w).length≤13000000:=by
 have h:=abT (fun p:aM=>p.aCo.flatMap fun t=>t.aCi) (fun p=>by
  have h1:=abT (fun t:aU=>t.aCi) (fun t=>by
   have:=aU.wt_eq t
   have:=aZ t.aCi
   omega) p.aCo
  have:=aM.wt_eq p
  omega) w.aB8
 have:=aF.wt_eq w
 unfold CE
 omega
theorem PH{w:aF}{n s:ByteArray}(h:s∈(tT w n).1.aCi):s∈CE w:=by
 unfold tT at h
 cases hq:(List.range' 0 w.aB8.length).findSome? (tQ w n) with
 |none=>rw [hq] at h;cases h
 |some r=>
  rw [hq] at h
  obtain⟨i,hi,hq⟩:=List.exists_of_findSome?_eq_some hq
  unfold tQ at hq
  obtain⟨k,hk,hq⟩:=List.exists_of_findSome?_eq_some hq
  rw [List.mem_range'_1] at hi hk
  split at hq
  ·cases hq
   exact List.mem_flatMap.2 ⟨_,cC (by omega:i<w.aB8.length),List.mem_flatMap.2 ⟨_,cC (by omega:k<(aR w.aB8 i).aCo.length),h⟩⟩
  ·cases hq
def FS(U:LB)(v:LB):Nat:=U.countP fun s=> !uW v s
theorem afF{U v v':LB}(h: ∀x∈v,x∈v'):FS U v'≤FS U v:=by
 refine List.countP_mono_left fun x _ hx=>?_
 rw [Bool.not_eq_true',Bool.eq_false_iff,ne_eq,N3] at hx ⊢
 exact fun k=>hx (h x k)
theorem aaC{v:LB}{s:ByteArray}(hn:uW v s=false): ∀ {U:LB},s∈U→FS U (v++ [s])<FS U v
 |x::U,h=>by
  have hm:=afF (U:=U) (v:=v) (v':=v++ [s]) fun x hx=>List.mem_append_left _ hx
  unfold FS at hm ⊢
  rw [List.countP_cons,List.countP_cons]
  by_cases hx:x=s
  ·subst hx
   have h1:uW (v++ [x]) x=true:=N3.2 (by simp)
   rw [h1,hn]
   simp only [Bool.not_true,Bool.not_false,if_true]
   simp
   omega
  ·have ih:=aaC hn (U:=U) (by
    rcases List.mem_cons.1 h with h|h
    ·exact absurd h.symm hx
    ·exact h)
   unfold FS at ih
   have h1:(if(!uW (v++ [s]) x)=true then 1 else 0)≤(if(!uW v x)=true then 1 else 0:Nat):=by
    cases hq:uW v x with
    |true=>
     have:uW (v++ [s]) x=true:=N3.2 (List.mem_append_left _ (N3.1 hq))
     rw [this]
     exact Nat.le_refl _
    |false=>cases uW (v++ [s]) x<;>simp
   omega
def PF(w:aF):Nat→LB→ByteArray→LB
 |0,out,_=>out
 |n+1,out,name=>(tT w name).1.aCi.foldl (fun v s=>if uW v s=true then v else PF w n (v++ [s]) s) out
def SOk(w:aF)(m:Nat)(v:LB):Prop:=v.length+FS (CE w) v≤13000000∧FS (CE w) v≤m
theorem Z2{σ α:Type}(P:σ→Prop){g:σ→α→σ}: ∀ {l:List α} {v:σ},(∀v x,x∈l→P v→P (g v x))→P v→P (l.foldl g v)
 | [],v,_,h=>h
 |x::l,v,hs,h=>Z2 P (l:=l) (fun v y hy=>hs v y (List.mem_cons_of_mem _ hy)) (hs v x (by simp) h)
theorem OZ{w:aF}{m:Nat}{v:LB}{s:ByteArray}(h:SOk w m v)(hs:s∈CE w)(hn:uW v s=false):SOk w (m-1) (v++ [s])∧0<m∧v.length<13000000:=by
 have h1:=aaC hn hs
 obtain⟨h2,h3⟩:=h
 refine⟨⟨?_,by omega⟩,by omega,by omega⟩
 rw [List.length_append,List.length_singleton]
 omega
theorem SOk.le{w:aF}{m k:Nat}{v:LB}(h:SOk w m v)(hk:m≤k):SOk w k v:=⟨h.1,Nat.le_trans h.2 hk⟩
theorem PG{w:aF}: ∀n m out name,SOk w m out→SOk w m (PF w n out name)
 |0,m,out,name,h=>h
 |n+1,m,out,name,h=>by
  rw [PF]
  refine Z2 (SOk w m) (fun v s hs hv=>?_) h
  split
  ·exact hv
  ·rename_i hn
   exact(PG n (m-1) _ s (OZ hv (PH hs) (by simpa using hn)).1).le (by omega)
theorem akU{w:aF}: ∀n m out name,SOk w m out→13000001+m<n→iH n w out name=some (PF w n out name)
 |0,m,out,name,_,h=>by omega
 |n+1,m,out,name,h,hn=>by
  rw [iH,PF]
  unfold BC
  rw [EN]
  show so (loopN (yR n (iH n) w out name (tT w name).1 (tT w name).2.1 (tT w name).2.2) ((tT w name).1.aCi.length-0) 0 out) _=_
  rw [kR (l:=(tT w name).1.aCi) (g:=fun v s=>if uW v s=true then v else PF w n (v++ [s]) s) (fun _ v=>SOk w m v) (fun i v hi hv=>by
   unfold yR
   have hs:=PH (cC hi)
   generalize aR (tT w name).1.aCi i=s at hs ⊢
   rw [NT]
   show sw (!uW v s) _ _=_∧_
   cases hq:uW v s with
   |true=>exact⟨rfl,hv⟩
   |false=>
    obtain⟨k1,k2,k3⟩:=OZ hv hs hq
    exact⟨iJ (by simp only [List.length_singleton];omega) (gO (akU n (m-1) _ s k1 (by omega)) rfl),(PG n (m-1) _ s k1).le (by omega)⟩) h]
  rfl
theorem ak4{w:aF}(hw:wt w≤13000000): ∀n m out name,SOk w m out→13000001+m<n→kM n w name out=some (PF w n out name)
 |0,m,out,name,_,h=>by omega
 |n+1,m,out,name,h,hn=>by
  rw [kM,PF]
  unfold GB
  rw [CT n w name (aF.small_wt hw (by omega))]
  show so (loopN (DR n (kM n) w name out (tT w name).1 (tT w name).2.1 (tT w name).2.2) ((tT w name).1.aCi.length-0) 0 out) _=_
  rw [kR (l:=(tT w name).1.aCi) (g:=fun v s=>if uW v s=true then v else PF w n (v++ [s]) s) (fun _ v=>SOk w m v) (fun i v hi hv=>by
   unfold DR
   have hs:=PH (cC hi)
   generalize aR (tT w name).1.aCi i=s at hs ⊢
   rw [R1]
   show sw (!uW v s) _ _=_∧_
   cases hq:uW v s with
   |true=>exact⟨rfl,hv⟩
   |false=>
    obtain⟨k1,k2,k3⟩:=OZ hv hs hq
    exact⟨iJ (by simp only [List.length_singleton];omega) (gO (ak4 hw n (m-1) _ s k1 (by omega)) rfl),(PG n (m-1) _ s k1).le (by omega)⟩) h]
  rfl
def zF(fu:Nat)(w:aF)(name:ByteArray):LB:=PF w fu [] name
theorem UI{w:aF}(hw:wt w≤13000000):SOk w 13000000 []:=by
 have h:=aeO hw
 have h1:FS (CE w) []≤(CE w).length:=List.countP_le_length
 refine⟨?_,?_⟩
 ·rw [List.length_nil];omega
 ·omega
theorem aiE{fu:Nat}{w:aF}(hw:wt w≤13000000)(hf:27000000≤fu)(name:ByteArray):q7 fu w name=some (zF fu w name):=by
 unfold q7 zF
 rw [akU fu 13000000 [] name (UI hw) (by omega)]
 rfl
theorem aiX{fu:Nat}{w:aF}(hw:wt w≤13000000)(hf:27000000≤fu)(name:ByteArray):q9 fu w name=some (zF fu w name):=by
 unfold q9 zF
 rw [ak4 hw fu 13000000 [] name (UI hw) (by omega)]
 rfl
theorem XU{fu:Nat}{w:aF}(hw:wt w≤13000000)(name:ByteArray):(zF fu w name).length≤13000000:=by
 have h:=(PG fu 13000000 [] name (UI hw)).1
 unfold zF
 omega
def PE(w:aF)(a:ByteArray)(f:ByteArray→List Int×Bool)(i:Nat):Option (List Int×Bool):=if(f (aR (tT w a).1.aCi i)).2=true then some ([((i:Nat):Int)]++(f (aR (tT w a).1.aCi i)).1,true) else none
def jS(w:aF):Nat→ByteArray→ByteArray→List Int×Bool
 |0,a,b=>if a=b then([],true) else([],false)
 |k+1,a,b=>if a=b then([],true) else((List.range' 0 (tT w a).1.aCi.length).findSome? (PE w a fun s=>jS w k s b)).getD ([],false)
theorem QY(w:aF): ∀k a b,(jS w k a b).1.length≤k
 |0,a,b=>by rw [jS];split<;>exact Nat.le_refl _
 |k+1,a,b=>by
  rw [jS]
  split
  ·exact Nat.zero_le _
  ·cases h:(List.range' 0 (tT w a).1.aCi.length).findSome? (PE w a fun s=>jS w k s b) with
   |none=>exact Nat.zero_le _
   |some r=>
    obtain⟨i,hi,h⟩:=List.exists_of_findSome?_eq_some h
    unfold PE at h
    split at h
    ·cases h
     have:=QY w k (aR (tT w a).1.aCi i) b
     show([((i:Nat):Int)]++(jS w k (aR (tT w a).1.aCi i) b).1).length≤_
     rw [List.length_append,List.length_singleton]
     omega
    ·cases h
theorem ae6{w:aF}: ∀k n a b,k≤8→k<n→mF n w a b ((k:Nat):Int)=some (jS w k a b)
 |k,0,a,b,_,h=>by omega
 |0,n+1,a,b,hk,hn=>by
  rw [mF,jS]
  unfold JD
  by_cases h:a=b
  ·rw [if_pos h];exact jP (decide_eq_true h) rfl
  ·rw [if_neg h];exact g0 (decide_eq_false h) (jP rfl rfl)
 |k+1,n+1,a,b,hk,hn=>by
  rw [mF,jS]
  unfold JD
  by_cases h:a=b
  ·rw [if_pos h];exact jP (decide_eq_true h) rfl
  ·rw [if_neg h]
   refine g0 (decide_eq_false h) (g0 (decide_eq_false (by omega)) ?_)
   rw [EN]
   have hl:=oA (f:=LZ n (mF n) w a b ((k+1:Nat):Int) (tT w a).1 (tT w a).2.1 (tT w a).2.2) (q:=PE w a fun s=>jS w k s b) (fun r=>r) (s:=()) (n:=(tT w a).1.aCi.length) (fun i hi=>by
    unfold LZ PE
    generalize aR (tT w a).1.aCi i=s
    have h1:=QY w k s b
    rw [show aX (((k+1:Nat):Int)-1)=((k:Nat):Int) from by rw [C8 (by omega) (by omega)];omega,ae6 k n s b (by omega) (by omega)]
    show sw (jS w k s b).2 _ _=_
    cases h2:(jS w k s b).2 with
    |true=>exact iJ (by simp only [List.length_singleton];omega) (by rw [if_pos rfl])
    |false=>rw [if_neg (by simp)];rfl) _ 0 rfl
   show so (L3 n (mF n) w a b ((k+1:Nat):Int) (tT w a).1 (tT w a).2.1 (tT w a).2.2) _=_
   unfold L3
   refine(congrArg (fun x=>so x _) hl).trans ?_
   simp only [Nat.sub_zero]
   cases(List.range' 0 (tT w a).1.aCi.length).findSome? (PE w a fun s=>jS w k s b)<;>rfl
theorem ae5(fu:Nat)(hf:100≤fu)(w:aF)(a b:ByteArray):kY fu w a b=some (jS w 8 a b):=by
 unfold kY
 rw [show(8:Int)=((8:Nat):Int) from rfl,ae6 8 fu a b (by omega) (by omega)]
 rfl
theorem af1{w:aF}(hw:wt w≤13000000): ∀k n a b,k≤8→13000001+k<n→iU n w a b ((k:Nat):Int)=some (jS w k a b)
 |k,0,a,b,_,h=>by omega
 |0,n+1,a,b,hk,hn=>by
  rw [iU,jS]
  unfold C2
  by_cases h:a=b
  ·rw [if_pos h];exact jP (decide_eq_true h) rfl
  ·rw [if_neg h]
   refine g0 (decide_eq_false h) ?_
   rw [CT n w a (aF.small_wt hw (by omega))]
   show so (vJ n (iU n) w a b ((0:Nat):Int) (tT w a).1 (tT w a).2.1 (tT w a).2.2) _=_
   unfold vJ
   cases hz:(tT w a).1.aCi.length-0 with
   |zero=>rw [loopN];rfl
   |succ m=>
    rw [loopN]
    unfold AE
    rfl
 |k+1,n+1,a,b,hk,hn=>by
  rw [iU,jS]
  unfold C2
  by_cases h:a=b
  ·rw [if_pos h];exact jP (decide_eq_true h) rfl
  ·rw [if_neg h]
   refine g0 (decide_eq_false h) ?_
   rw [CT n w a (aF.small_wt hw (by omega))]
   have hl:=oA (f:=AE n (iU n) w a b ((k+1:Nat):Int) (tT w a).1 (tT w a).2.1 (tT w a).2.2) (q:=PE w a fun s=>jS w k s b) (fun r=>r) (s:=()) (n:=(tT w a).1.aCi.length) (fun i hi=>by
    unfold AE PE
    generalize aR (tT w a).1.aCi i=s
    have h1:=QY w k s b
    refine jP (decide_eq_true (by omega)) ?_
    rw [show aX (((k+1:Nat):Int)-1)=((k:Nat):Int) from by rw [C8 (by omega) (by omega)];omega,af1 hw k n s b (by omega) (by omega)]
    show sw (jS w k s b).2 _ _=_
    cases h2:(jS w k s b).2 with
    |true=>exact iJ (by simp only [List.length_singleton];omega) (by rw [if_pos rfl])
    |false=>rw [if_neg (by simp)];rfl) _ 0 rfl
   show so (vJ n (iU n) w a b ((k+1:Nat):Int) (tT w a).1 (tT w a).2.1 (tT w a).2.2) _=_
   unfold vJ
   refine(congrArg (fun x=>so x _) hl).trans ?_
   simp only [Nat.sub_zero]
   cases(List.range' 0 (tT w a).1.aCi.length).findSome? (PE w a fun s=>jS w k s b)<;>rfl
theorem af0{fu:Nat}{w:aF}(hw:wt w≤13000000)(hf:27000000≤fu)(a b:ByteArray):m3 fu w a b=some (jS w 8 a b):=by
 unfold m3
 rw [show(8:Int)=((8:Nat):Int) from rfl,af1 hw 8 fu a b (by omega) (by omega)]
 rfl
end Go.Proofs.YtfcoaagbccmahaaGreat.W

namespace Go.Proofs.YtfcoaagbccmahaaGreat.W
open Go.RowKit Go.Proofs
theorem PX(a b:ByteArray):(a==b)=decide (a=b):=by
 by_cases h:a=b
 ·subst h
  rw [A7]
  simp
 ·rw [FH h]
  simp [h]
theorem aA.eq_iff: ∀a b:aA,aA.eq a b=true↔a=b:=by
 refine aA.ind fun k n xs ih b=>?_
 obtain⟨l,m,ys⟩:=b
 have hL: ∀(l r:List aA),(∀x∈l,∀y,aA.eq x y=true↔x=y)→(aA.eqs l r=true↔l=r):=by
  intro l
  induction l with
  |nil=>intro r _;cases r<;>simp [aA.eqs]
  |cons x l ihl=>
   intro r hx
   cases r with
   |nil=>simp [aA.eqs]
   |cons y r=>
    rw [aA.eqs,Bool.and_eq_true,hx x (by simp) y,ihl r (fun z hz=>hx z (List.mem_cons_of_mem _ hz)),List.cons.injEq]
 rw [aA.eq,Bool.and_eq_true,Bool.and_eq_true,hL xs ys ih,PX,decide_eq_true_eq,beq_iff_eq]
 constructor
 ·rintro⟨rfl,rfl,rfl⟩;rfl
 ·intro h;cases h;exact⟨rfl,rfl,rfl⟩
end Go.Proofs.YtfcoaagbccmahaaGreat.W

namespace Go.Proofs.YtfcoaagbccmahaaGreat.W
open Go.RowKit Go.Proofs
attribute [local irreducible] lt
def D0(fu:Nat)(w:aF)(i:Nat)(b:aG):List aJ:=
 [aJ.mk (aG.mk b.aCg b.aCd) ((i:Nat):Int) []]++(List.range' 0 (zF fu w b.aCg).length).map fun k=>aJ.mk (aG.mk (aR (zF fu w b.aCg) k) b.aCd) ((i:Nat):Int) (jS w 8 b.aCg (aR (zF fu w b.aCg) k)).1
def X7(fu:Nat)(w:aF)(l:List aG):List aJ:=(List.range' 0 l.length).flatMap fun i=>D0 fu w i (aR l i)
theorem alV{fu:Nat}{w:aF}(hw:wt w≤13000000)(i:Nat)(b:aG):(D0 fu w i b).length≤13000001:=by
 have h:=XU (fu:=fu) hw b.aCg
 unfold D0
 rw [List.length_append,List.length_singleton,List.length_map,List.length_range']
 omega
theorem aeW{α:Type}{f:Nat→List α}{M:Nat}(h: ∀i,(f i).length≤M): ∀k j,((List.range' j k).flatMap f).length≤M*k
 |0,j=>by simp
 |k+1,j=>by
  rw [List.range'_succ,List.flatMap_cons,List.length_append,Nat.mul_succ]
  have:=h j
  have:=aeW h k (j+1)
  omega
theorem aeQ{fu:Nat}{w:aF}(hw:wt w≤13000000){l:List aG}(hl:l.length≤1000):(X7 fu w l).length≤13000001*1000:=by
 have h:=aeW (f:=fun i=>D0 fu w i (aR l i)) (M:=13000001) (fun i=>alV hw i _) l.length 0
 unfold X7
 exact Nat.le_trans h (Nat.mul_le_mul_left _ hl)
section
variable {fu:Nat} {w:aF} (hw:wt w≤13000000) (hf:27000000≤fu) {l:List aG} (hl:l.length≤1000) (hb: ∀b∈l,iG b.aCd)
include hw hf hl hb
theorem apM:uX fu w l=some (X7 fu w l):=by
 have h:=wK (F:=yO fu w l) (g:=fun i=>D0 fu w i (aR l i)) (n:=l.length) (M:=68719476736) (fun i v hi hv=>by
  have hB:=hb _ (cC hi)
  have hs:=XU (fu:=fu) hw (aR l i).aCg
  have h2:=ER (F:=tN fu w l i v (zF fu w (aR l i).aCg)) (g:=fun k=>aJ.mk (aG.mk (aR (zF fu w (aR l i).aCg) k) (aR l i).aCd) ((i:Nat):Int) (jS w 8 (aR l i).aCg (aR (zF fu w (aR l i).aCg) k)).1) (n:=(zF fu w (aR l i).aCg).length) (M:=68719476736) (fun k u hk hu=>by
   unfold tN
   rw [ae5 fu (by omega)]
   exact iJ hu rfl) _ 0 (v++ [aJ.mk (aG.mk (aR l i).aCg (aR l i).aCd) ((i:Nat):Int) []]) rfl (by
   unfold D0 at hv
   rw [List.length_append,List.length_singleton,List.length_map,List.length_range'] at hv
   rw [List.length_append,List.length_singleton]
   omega)
  unfold yO
  refine iJ hB (iJ (by
   unfold D0 at hv
   rw [List.length_append,List.length_singleton] at hv
   rw [List.length_singleton]
   omega) ?_)
  rw [aiE hw hf]
  show so (loopN (tN fu w l i v (zF fu w (aR l i).aCg)) ((zF fu w (aR l i).aCg).length-0) 0 _) _=_
  rw [h2]
  unfold D0
  rw [List.append_assoc]
  rfl) _ 0 [] rfl (by
  have:=aeQ (fu:=fu) hw hl
  unfold X7 at this
  rw [List.length_nil,Nat.zero_add,Nat.sub_zero]
  omega)
 unfold uX
 rw [h]
 rfl
theorem ap4:vD fu w l=some (X7 fu w l):=by
 have h:=wK (F:=y1 fu w l) (g:=fun i=>D0 fu w i (aR l i)) (n:=l.length) (M:=68719476736) (fun i v hi hv=>by
  have hB:=hb _ (cC hi)
  have hs:=XU (fu:=fu) hw (aR l i).aCg
  have h2:=ER (F:=tP fu w l i v (zF fu w (aR l i).aCg)) (g:=fun k=>aJ.mk (aG.mk (aR (zF fu w (aR l i).aCg) k) (aR l i).aCd) ((i:Nat):Int) (jS w 8 (aR l i).aCg (aR (zF fu w (aR l i).aCg) k)).1) (n:=(zF fu w (aR l i).aCg).length) (M:=68719476736) (fun k u hk hu=>by
   unfold tP
   rw [af0 hw hf]
   exact iJ hu rfl) _ 0 (v++ [aJ.mk (aG.mk (aR l i).aCg (aR l i).aCd) ((i:Nat):Int) []]) rfl (by
   unfold D0 at hv
   rw [List.length_append,List.length_singleton,List.length_map,List.length_range'] at hv
   rw [List.length_append,List.length_singleton]
   omega)
  unfold y1
  refine iJ hB (iJ (by
   unfold D0 at hv
   rw [List.length_append,List.length_singleton] at hv
   rw [List.length_singleton]
   omega) ?_)
  rw [aiX hw hf]
  show so (loopN (tP fu w l i v (zF fu w (aR l i).aCg)) ((zF fu w (aR l i).aCg).length-0) 0 _) _=_
  rw [h2]
  unfold D0
  rw [List.append_assoc]
  rfl) _ 0 [] rfl (by
  have:=aeQ (fu:=fu) hw hl
  unfold X7 at this
  rw [List.length_nil,Nat.zero_add,Nat.sub_zero]
  omega)
 unfold vD
 rw [h]
 rfl
end
def tD(l:List aJ)(g:aG):Int:=match l.findIdx? (fun a=>aG.eq a.aCE g) with
 |some i=>((i:Nat):Int)
 |none=> -1
theorem aiI(fu:Nat)(a b:aG):zS fu a b=some (aG.eq a b):=by
 obtain⟨n,x⟩:=a
 obtain⟨m,y⟩:=b
 unfold zS
 rw [aG.eq,PX]
 show sw (decide (n=m)) (some (aA.eq x y)) (some false)=_
 cases decide (n=m)<;>rfl
theorem JC(fu:Nat)(l:List aJ)(g:aG):mO fu l g=some (tD l g):=by
 unfold mO fH tD
 rw [xS (p:=fun a=>aG.eq a.aCE g) (fun i hi=>by
  unfold jC s6
  refine UE rfl ?_
  rw [aiI]
  show sw (aG.eq (aR l i).aCE g) _ _=_
  cases aG.eq (aR l i).aCE g<;>rfl)]
 cases l.findIdx? fun a=>aG.eq a.aCE g<;>rfl
end Go.Proofs.YtfcoaagbccmahaaGreat.W

namespace Go.Proofs.YtfcoaagbccmahaaGreat.W
open Go.RowKit Go.WalkArith Go.IntWalk Go.WideShapes Go.Proofs
attribute [local irreducible] lt
theorem U6{σ α:Type}(P:σ→Prop){g h:σ→α→σ}: ∀ {l:List α} {v:σ},(∀v x,x∈l→P v→g v x=h v x∧P (g v x))→P v→l.foldl g v=l.foldl h v
 | [],v,_,_=>rfl
 |x::l,v,hs,hv=>by
  obtain⟨e,hp⟩:=hs v x (by simp) hv
  rw [List.foldl_cons,List.foldl_cons,← e]
  exact U6 P (fun v y hy=>hs v y (List.mem_cons_of_mem _ hy)) hp
theorem aa1{w:aF}: ∀n m out name,SOk w m out→m<n→PF w (n+1) out name=PF w n out name
 |0,m,out,name,_,h=>by omega
 |n+1,m,out,name,h,hn=>by
  rw [PF,PF]
  refine U6 (SOk w m) (fun v s hs hv=>?_) h
  cases hq:uW v s with
  |true=>exact⟨rfl,hv⟩
  |false=>
   obtain⟨k1,k2,k3⟩:=OZ hv (PH hs) hq
   refine⟨?_,?_⟩
   ·rw [if_neg (by simp),if_neg (by simp)]
    exact aa1 n (m-1) _ s k1 (by omega)
   ·rw [if_neg (by simp)]
    exact(PG (n+1) (m-1) _ s k1).le (by omega)
theorem aa2{w:aF}(hw:wt w≤13000000)(name:ByteArray): ∀k,zF (27000000+k) w name=zF 27000000 w name
 |0=>rfl
 |k+1=>(aa1 (27000000+k) 13000000 [] name (UI hw) (by omega)).trans (aa2 hw name k)
theorem alW{fu:Nat}{w:aF}(hw:wt w≤13000000)(hf:27000000≤fu)(l:List aG):X7 fu w l=X7 27000000 w l:=by
 have h:zF fu w=zF 27000000 w:=funext fun name=>by
  have:=aa2 hw name (fu-27000000)
  rwa [show 27000000+(fu-27000000)=fu by omega] at this
 unfold X7 D0
 rw [h]
def HO(w:aF)(l:List aG):List aJ:=X7 27000000 w l
structure GP (w:aF) (l:List aG):Prop where
 hw:wt w≤13000000
 hl:l.length≤1000
 ht: ∀b∈l,iG b.aCd
set_option maxRecDepth 100000 in
theorem acB(w:aF)(l:List aG)(h:GP w l):anE Tryz.prog 50 [(aF.pv w),cK l] 145 [aP w.aB8,bN (HO w l)]:=by
 have hA:uX 27000000 w l=some (HO w l):=apM h.hw (Nat.le_refl _) h.hl h.ht
 unfold anE
 refine qI Tryz.func50 (fun C hC=>?_)
 refine gQ 2 ?_;refine q1 (fD ([aP w.aB8])) (q1 (bB.moveAny (.inl rfl)) ?_)
 refine gQ 2 ?_;refine dW (dD [2] (bZ [aP w.aB8]) (dD [2] (bZ [aP w.aB8]) (dI [1] bF (dI [6,7] (bE Tryz.func99 (TH 27000000 w l _ hA)) (dI [5,8] r9 (dE [9] (fD [aP w.aB8,bN (HO w l)]) (dI [10] bF (dN ?_))))))))
 refine cV.ret ?_;exact B8.mk (ps:= [_]) (.inr rfl) ⟨rfl,trivial⟩ rfl (tB.mk' (st':=⟨[none,some ⟨145,[aP w.aB8,bN (HO w l)]⟩],[]⟩) ⟨⟨rfl,jK,rfl⟩,trivial⟩ rfl) (aaB hC) (q:= .ptr 1 0) (.refl _) rfl ⟨1,rfl,rfl,fun i x hx=>by rcases i with _|_|i<;>simp at hx<;>simp,rfl⟩
end Go.Proofs.YtfcoaagbccmahaaGreat.W
