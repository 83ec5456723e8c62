/- Words, rules and walks of several kinds, laid together. No conditions but those that each theorem states. -/
import Derived.Test.YtfcoaagbccmahaaGreatQh61d9ac10
import Derived.Deep.RegionHeld3
import Derived.Laws.IdiomStrings
import Derived.Lib.SliceRun
set_option linter.unusedSimpArgs false
set_option linter.unusedVariables false
namespace Go.Proofs.YtfcoaagbccmahaaGreat.W
open Go.RowKit Go.WalkArith Go.Proofs
attribute [local irreducible] lt
theorem LC{x:Int}(h0: -1≤x)(h1:x<9223372036854775807):aW x=x:=by
 unfold aW IntKind.wrap
 simp [IntKind.bits,IntKind.signed]
 omega
section
variable {β γ σ:Type}
theorem o9{f:Nat→σ→J (LR σ β)}{q:Nat→J γ}(g:γ→β){s:σ}{n:Nat}(hs: ∀i,i<n→f i s=some (match q i with|some r=> .ret (g r)|none=> .next s)):
 ∀k j,n-j=k→loopN f k j s=some (match(List.range' j k).findSome? q with|some r=> .inl (g r)|none=> .inr s)
 |0,j,hk=>by rw [loopN];rfl
 |k+1,j,hk=>by
  rw [loopN,hs j (by omega),List.range'_succ,List.findSome?_cons]
  cases q j with
  |some r=>rfl
  |none=>exact o9 g hs k (j+1) (by omega)
theorem NS{f:Int→J (LR Int β)}{q:Nat→J γ}(g:γ→β){n:Nat}(hs: ∀i:Nat,i<n→f (i:Int)=some (match q i with|some r=> .ret (g r)|none=> .next ((i+1:Nat):Int)))(he:f (n:Int)=some (.brk (n:Int))):
 ∀k j fu,n-j=k→j≤n→k<fu→loopW f fu (j:Int)=some (match(List.range' j k).findSome? q with|some r=> .inl (g r)|none=> .inr (n:Int))
 |0,j,fu,hk,hj,hf=>by
  obtain⟨m,rfl⟩: ∃m,fu=m+1:=⟨fu-1,by omega⟩
  obtain rfl:j=n:=by omega
  rw [loopW,he]
  rfl
 |k+1,j,fu,hk,hj,hf=>by
  obtain⟨m,rfl⟩: ∃m,fu=m+1:=⟨fu-1,by omega⟩
  rw [loopW,hs j (by omega),List.range'_succ,List.findSome?_cons]
  cases q j with
  |some r=>rfl
  |none=>exact NS g hs he k (j+1) m (by omega) (by omega) (by omega)
end
def tQ(w:aH)(s:Y)(i:Nat):J (aU×Int×Bool):=(List.range' 0 (aR w.aD3 i).aEi.length).findSome? fun k=>if(aR (aR w.aD3 i).aEi k).aD4=s then some (aR (aR w.aD3 i).aEi k,(i:Int),true) else none
def dQ(w:aH)(s:Y)(i:Nat):J (aM×Int×Bool):=(List.range' 0 (aR w.aD3 i).aEd.length).findSome? fun k=>if(aR (aR w.aD3 i).aEd k).aD4=s then some (aR (aR w.aD3 i).aEd k,(i:Int),true) else none
def nZ(w:aH)(s:Y):aU×Int×Bool:=((List.range' 0 w.aD3.length).findSome? (tQ w s)).getD (aU.mk s_ [] false false [],0,false)
def J9(w:aH)(s:Y):aM×Int×Bool:=((List.range' 0 w.aD3.length).findSome? (dQ w s)).getD (aM.mk s_ [] [],0,false)
theorem w6(fu:Nat)(w:aH)(s:Y):yU fu w s=some (nZ w s):=by
 have h:=o9 (f:=R0 fu w s) (q:=tQ w s) (fun r=>r) (s:=()) (n:=w.aD3.length) (fun i hi=>by
  have h2:=o9 (f:=R1 fu w s i (aR w.aD3 i)) (q:=fun k=>if(aR (aR w.aD3 i).aEi k).aD4=s then some (aR (aR w.aD3 i).aEi k,(i:Int),true) else none) (fun r=>LR.ret r) (s:=()) (n:=(aR w.aD3 i).aEi.length) (fun k hk=>by
   unfold R1
   by_cases hs:(aR (aR w.aD3 i).aEi k).aD4=s
   ·rw [if_pos hs];exact hH (decide_eq_true hs) rfl
   ·rw [if_neg hs];exact fZ (decide_eq_false hs) rfl) _ 0 rfl
  unfold R0
  refine ltE rfl ?_
  rw [h2]
  unfold tQ
  cases(List.range' 0 (aR w.aD3 i).aEi.length).findSome? _<;>rfl) _ 0 rfl
 unfold yU nZ
 rw [h]
 cases(List.range' 0 w.aD3.length).findSome? (tQ w s)<;>rfl
theorem agE(fu:Nat)(w:aH)(s:Y):VI fu w s=some (J9 w s):=by
 have h:=o9 (f:=W1 fu w s) (q:=dQ w s) (fun r=>r) (s:=()) (n:=w.aD3.length) (fun i hi=>by
  have h2:=o9 (f:=W2 fu w s i (aR w.aD3 i)) (q:=fun k=>if(aR (aR w.aD3 i).aEd k).aD4=s then some (aR (aR w.aD3 i).aEd k,(i:Int),true) else none) (fun r=>LR.ret r) (s:=()) (n:=(aR w.aD3 i).aEd.length) (fun k hk=>by
   unfold W2
   by_cases hs:(aR (aR w.aD3 i).aEd k).aD4=s
   ·rw [if_pos hs];exact hH (decide_eq_true hs) rfl
   ·rw [if_neg hs];exact fZ (decide_eq_false hs) rfl) _ 0 rfl
  unfold W1
  refine ltE rfl ?_
  rw [h2]
  unfold dQ
  cases(List.range' 0 (aR w.aD3 i).aEd.length).findSome? _<;>rfl) _ 0 rfl
 unfold VI J9
 rw [h]
 cases(List.range' 0 w.aD3.length).findSome? (dQ w s)<;>rfl
def aH.small(w:aH)(N:Nat):Prop:= ∀i,i<w.aD3.length→(aR w.aD3 i).aEi.length<N∧(aR w.aD3 i).aEd.length<N∧(aR w.aD3 i).aEg.length<N
theorem DZ(fu:Nat)(w:aH)(s:Y)(hw:aH.small w fu):rK fu w s=some (nZ w s):=by
 have h:=o9 (f:=C4 fu w s) (q:=tQ w s) (fun r=>r) (s:=()) (n:=w.aD3.length) (fun i hi=>by
  have h2:=NS (f:=wD fu w s i) (q:=fun k=>if(aR (aR w.aD3 i).aEi k).aD4=s then some (aR (aR w.aD3 i).aEi k,(i:Int),true) else none) (fun r=>LR.ret r) (n:=(aR w.aD3 i).aEi.length) (fun k hk=>by
   unfold wD
   refine ltE rfl (hH (decide_eq_true (by omega)) (jC (by omega) ?_))
   rw [Int.toNat_natCast]
   by_cases hs:(aR (aR w.aD3 i).aEi k).aD4=s
   ·rw [if_pos hs];exact hH (decide_eq_true hs) rfl
   ·rw [if_neg hs];exact fZ (decide_eq_false hs) rfl) (by
   unfold wD
   exact ltE rfl (fZ (decide_eq_false (by omega)) rfl)) _ 0 fu rfl (Nat.zero_le _) (hw i hi).1
  unfold C4
  refine(congrArg (fun o=>so o _) h2).trans ?_
  unfold tQ
  simp only [Nat.sub_zero]
  cases(List.range' 0 (aR w.aD3 i).aEi.length).findSome? _<;>rfl) _ 0 rfl
 unfold rK nZ
 rw [h]
 cases(List.range' 0 w.aD3.length).findSome? (tQ w s)<;>rfl
theorem XO(fu:Nat)(w:aH)(s:Y)(hw:aH.small w fu):A6 fu w s=some (J9 w s):=by
 have h:=o9 (f:=EW fu w s) (q:=dQ w s) (fun r=>r) (s:=()) (n:=w.aD3.length) (fun i hi=>by
  have h2:=NS (f:=yH fu w s i) (q:=fun k=>if(aR (aR w.aD3 i).aEd k).aD4=s then some (aR (aR w.aD3 i).aEd k,(i:Int),true) else none) (fun r=>LR.ret r) (n:=(aR w.aD3 i).aEd.length) (fun k hk=>by
   unfold yH
   refine ltE rfl (hH (decide_eq_true (by omega)) (jC (by omega) ?_))
   rw [Int.toNat_natCast]
   by_cases hs:(aR (aR w.aD3 i).aEd k).aD4=s
   ·rw [if_pos hs];exact hH (decide_eq_true hs) rfl
   ·rw [if_neg hs];exact fZ (decide_eq_false hs) rfl) (by
   unfold yH
   exact ltE rfl (fZ (decide_eq_false (by omega)) rfl)) _ 0 fu rfl (Nat.zero_le _) (hw i hi).2.1
  unfold EW
  refine(congrArg (fun o=>so o _) h2).trans ?_
  unfold dQ
  simp only [Nat.sub_zero]
  cases(List.range' 0 (aR w.aD3 i).aEd.length).findSome? _<;>rfl) _ 0 rfl
 unfold A6 J9
 rw [h]
 cases(List.range' 0 w.aD3.length).findSome? (dQ w s)<;>rfl
def tW(w:aH)(o:aE):Prop:= ∃i k:Nat,o=aE.mk (i:Int) (k:Int)∧i<w.aD3.length∧k<(aR w.aD3 i).aEg.length
def b9(w:aH)(o:aE):aI:=aR (aR w.aD3 o.aEf.toNat).aEg o.aEr.toNat
theorem I6(fu:Nat)(w:aH)(o:aE)(ho:tW w o):oV fu w o=some (b9 w o,true):=by
 obtain⟨i,k,rfl,hi,hk⟩:=ho
 unfold oV
 refine fZ (decide_eq_false (by show ¬((i:Int)<0);omega)) (fZ (decide_eq_false (by show ¬((i:Int)≥_);omega)) (fZ (decide_eq_false (by show ¬((k:Int)<0);omega)) (jC (by show 0≤(i:Int)∧(i:Int).toNat<_;omega) (ltE rfl (fZ (decide_eq_false (by show ¬((k:Int)≥((aR w.aD3 i).aEg.length:Int));omega)) (jC (by show 0≤(k:Int)∧(k:Int).toNat<(aR w.aD3 i).aEg.length;omega) (ltE rfl rfl)))))))
def SJ(w:aH)(i:Nat):Z aE:=(List.range' 0 (aR w.aD3 i).aEg.length).map fun(k:Nat)=>aE.mk (i:Int) (k:Int)
def fQ(w:aH):Z aE:=(List.range' 0 w.aD3.length).flatMap (SJ w)
theorem VM{w:aH}{o:aE}(h:o∈fQ w):tW w o:=by
 obtain⟨i,hi,ho⟩:=List.mem_flatMap.1 h
 obtain⟨k,hk,rfl⟩:=List.mem_map.1 ho
 rw [List.mem_range'_1] at hi hk
 exact⟨i,k,rfl,by omega,by omega⟩
section
variable {α β:Type}
theorem FN{F:Nat→Z α→J (LR (Z α) β)}{n M:Nat}{g:Nat→α}(hs: ∀j v,j<n→v.length+1≤M→F j v=some (.next (v++ [g j]))):
 ∀k j (v:Z α),n-j=k→v.length+k≤M→loopN F k j v=some (.inr (v++(List.range' j k).map g))
 |0,j,v,hk,_=>by rw [loopN];simp
 |k+1,j,v,hk,hl=>by
  rw [loopN,hs j v (by omega) (by omega)]
  have h:=FN hs k (j+1) (v++ [g j]) (by omega) (by rw [List.length_append];simp only [List.length_singleton];omega)
  rw [List.append_assoc] at h
  rw [List.range'_succ,List.map_cons]
  exact h
theorem abJ{F:Z α×Int→J (LR (Z α×Int) β)}{n M:Nat}{g:Nat→α}(hs: ∀(j:Nat) v,j<n→v.length+1≤M→F (v,(j:Int))=some (.next (v++ [g j],((j+1:Nat):Int))))(he: ∀v,F (v,(n:Int))=some (.brk (v,(n:Int)))):
 ∀k j fu (v:Z α),n-j=k→j≤n→k<fu→v.length+k≤M→loopW F fu (v,(j:Int))=some (.inr (v++(List.range' j k).map g,(n:Int)))
 |0,j,fu,v,hk,hj,hf,_=>by
  obtain⟨f,rfl⟩: ∃f,fu=f+1:=⟨fu-1,by omega⟩
  obtain rfl:j=n:=by omega
  rw [loopW,he]
  simp
 |k+1,j,fu,v,hk,hj,hf,hl=>by
  obtain⟨f,rfl⟩: ∃f,fu=f+1:=⟨fu-1,by omega⟩
  rw [loopW,hs j v (by omega) (by omega)]
  have h:=abJ hs he k (j+1) f (v++ [g j]) (by omega) (by omega) (by omega) (by rw [List.length_append];simp only [List.length_singleton];omega)
  rw [List.append_assoc] at h
  rw [List.range'_succ,List.map_cons]
  exact h
theorem xD{F:Nat→Z α→J (LR (Z α) β)}{n M:Nat}{g:Nat→Z α}(hs: ∀j v,j<n→v.length+(g j).length≤M→F j v=some (.next (v++g j))):
 ∀k j (v:Z α),n-j=k→v.length+((List.range' j k).flatMap g).length≤M→loopN F k j v=some (.inr (v++(List.range' j k).flatMap g))
 |0,j,v,hk,_=>by rw [loopN];simp
 |k+1,j,v,hk,hl=>by
  rw [List.range'_succ,List.flatMap_cons,List.length_append] at hl
  rw [loopN,hs j v (by omega) (by omega)]
  have h:=xD hs k (j+1) (v++g j) (by omega) (by rw [List.length_append];omega)
  rw [List.range'_succ,List.flatMap_cons,← List.append_assoc]
  exact h
end
theorem NU(w:aH)(i:Nat):(SJ w i).length=(aR w.aD3 i).aEg.length:=by
 unfold SJ
 rw [List.length_map,List.length_range']
theorem ar6(fu:Nat)(w:aH)(hw:(fQ w).length≤68719476736):t5 fu w=some (fQ w):=by
 have h:=xD (F:=wU fu w) (g:=SJ w) (n:=w.aD3.length) (M:=68719476736) (fun i v hi hv=>by
  rw [NU] at hv
  have h2:=FN (F:=FC fu w i v (aR w.aD3 i)) (g:=fun(k:Nat)=>aE.mk (i:Int) (k:Int)) (n:=(aR w.aD3 i).aEg.length) (M:=68719476736) (fun k u hk hu=>jC hu rfl) _ 0 v rfl hv
  unfold wU
  refine ltE rfl ?_
  rw [h2]
  rfl) _ 0 [] rfl (by rw [List.length_nil,Nat.zero_add];exact hw)
 unfold t5
 rw [h]
 rfl
theorem asT(fu:Nat)(w:aH)(hw:(fQ w).length≤68719476736)(hf:aH.small w fu)(h2: ∀i,i<w.aD3.length→(aR w.aD3 i).aEg.length≤13000000):t7 fu w=some (fQ w):=by
 have h:=xD (F:=xH fu w) (g:=SJ w) (n:=w.aD3.length) (M:=68719476736) (fun i v hi hv=>by
  rw [NU] at hv
  have h3:=h2 i hi
  have h2:=abJ (F:=tB fu w i v) (g:=fun(k:Nat)=>aE.mk (i:Int) (k:Int)) (n:=(aR w.aD3 i).aEg.length) (M:=68719476736) (fun k u hk hu=>by
   unfold tB
   refine ltE rfl (hH (decide_eq_true (by omega)) (jC hu ?_))
   rw [LC (by omega) (by omega)]
   rfl) (fun u=>by
   unfold tB
   exact ltE rfl (fZ (decide_eq_false (by omega)) rfl)) _ 0 fu v rfl (Nat.zero_le _) (hf i hi).2.2 hv
  unfold xH
  refine(congrArg (fun o=>so o _) h2).trans ?_
  rfl) _ 0 [] rfl (by rw [List.length_nil,Nat.zero_add];exact hw)
 unfold t7
 rw [h]
 rfl
theorem aH.len_at{w:aH}(hw:wt w≤13000000)(i:Nat)(hi:i<w.aD3.length):(aR w.aD3 i).aEi.length≤13000000∧(aR w.aD3 i).aEd.length≤13000000∧(aR w.aD3 i).aEg.length≤13000000:=by
 have:=aH.wt_eq w
 have:=cZ w.aD3 i hi
 have:=aN.wt_eq (aR w.aD3 i)
 have:=bA (aR w.aD3 i).aEi
 have:=bA (aR w.aD3 i).aEd
 have:=bA (aR w.aD3 i).aEg
 omega
theorem aH.small_wt{w:aH}{fu:Nat}(hw:wt w≤13000000)(hf:13000000<fu):aH.small w fu:=fun i hi=>by
 have:=aH.len_at hw i hi
 omega
theorem al4(w:aH): ∀k j,w.aD3.length-j=k→((List.range' j k).flatMap (SJ w)).length≤wl (w.aD3.drop j)
 |0,j,hk=>by simp
 |k+1,j,hk=>by
  have h:=al4 w k (j+1) (by omega)
  have h1:=aN.wt_eq (aR w.aD3 j)
  have h2:=bA (aR w.aD3 j).aEg
  rw [List.range'_succ,List.flatMap_cons,List.length_append,NU,sF (by omega),ae4]
  omega
theorem V7{w:aH}(hw:wt w≤13000000):(fQ w).length≤13000000:=by
 have h:=al4 w _ 0 rfl
 have:=aH.wt_eq w
 rw [List.drop_zero] at h
 unfold fQ
 simp only [Nat.sub_zero] at h
 omega
end Go.Proofs.YtfcoaagbccmahaaGreat.W

namespace Go.Proofs.YtfcoaagbccmahaaGreat.W
open Go.RowKit Go.Proofs
theorem O0(x:aA):Tr.bulkL (aA.tr x)=wt x:=rfl
attribute [local irreducible] lt wt wl
theorem P8{α:Type}[Inhabited α](q:α→Bool): ∀(l:Z α) (k j:Nat),l.length-j=k→(List.range' j k).flatMap (fun i=>bif q (aR l i) then [] else [aR l i])=(l.drop j).filter (fun x=> !q x)
 |l,0,j,hk=>by rw [List.drop_of_length_le (by omega)];simp
 |l,k+1,j,hk=>by
  have hj:j<l.length:=by omega
  rw [List.range'_succ,List.flatMap_cons,P8 q l k (j+1) (by omega),sF hj,List.filter_cons]
  cases q (aR l j)<;>rfl
theorem CM{σ β:Type}{f:Nat→σ→J (LR σ β)}{s:σ}{n:Nat}(hs: ∀i,i<n→f i s=some (.next s)): ∀k j,n-j=k→loopN f k j s=some (.inr s)
 |0,j,hk=>by rw [loopN]
 |k+1,j,hk=>by
  rw [loopN,hs j (by omega)]
  exact CM hs k (j+1) (by omega)
theorem ac7{w:aH}{o:aE}(hw:wt w≤13000000)(hR:tW w o):wt (b9 w o)≤13000000:=by
 obtain⟨i,k,rfl,hi,hk⟩:=hR
 have:=aH.wt_eq w
 have:=cZ w.aD3 i hi
 have:=aN.wt_eq (aR w.aD3 i)
 have:=cZ (aR w.aD3 i).aEg k hk
 show wt (aR (aR w.aD3 i).aEg k)≤13000000
 omega
theorem al5{w:aH}{o:aE}(hw:wt w≤13000000)(hR:tW w o):wt (b9 w o).aEj≤13000000:=by
 have:=ac7 hw hR
 have:=aI.wt_eq (b9 w o)
 omega
theorem uU{w:aH}(hw:wt w≤13000000){o:aE}(ho:tW w o):Tr.bulkL (aA.tr (b9 w o).aEj)≤68719476735:=by rw [O0];exact Nat.le_trans (al5 hw ho) (by decide)
end Go.Proofs.YtfcoaagbccmahaaGreat.W

namespace Go.Proofs.YtfcoaagbccmahaaGreat
open Go.RowKit
theorem BS.repM{ok:Nat→Nat→Prop}{w:World}{t:Tr}{v:Value}{S:Nat→Prop}(h:BS w t v S)(hk: ∀b o,S b→b<w.heap.size→ok b o):cA ok w t v:=by
 induction h with
 |leaf h=>exact .leaf h
 |row c T h1 h2 h3 _ h5 h6 ih=>
  refine .row c h1 h2 (fun hne=>?_) (fun i e he j d hd=>ih i e he j d hd fun b o hb hl=>hk b o (h5 i e he j d hd b hb) hl)
  obtain⟨b,off,E,arr,ha,hb,hs,hc⟩:=h3 hne
  exact⟨b,off,ha,hb.lt,fun i e he j d hd=>⟨hk _ _ hs hb.lt,by rw [hb.cell];exact(hc i e he j d hd).1⟩⟩
theorem bS.ofFresh{P:Program}{f:FuncId}{args:Z PV}{t:Tr}(hfr:lD args=true)(h: ∀w vals,IS w args vals→Calls P f ⟨vals⟩ w fun e w'=> ∃v,e= .returned v∧vF w w'∧BS w' t v (OQ w w')):bS P f args (.t t):=fun av m w vals hst hv=>by
 refine(h w vals (lD.rv (fun b o _ _=>ok0 b o) args vals hfr hv)).mono fun e w'=>?_;rintro⟨v,rfl,hx,ho⟩
 refine⟨.t t,⟨[],[]⟩,m,v,rfl,⟨rfl,rfl⟩,fL.nil fun b o hb=>Nat.lt_of_lt_of_le (hst.avlt b o hb) hx.size,?_,?_⟩
 ·exact⟨hx.os,hx.tape,hx.output,hx.size,fun b hb _ _=>hx.block b hb,fun b o hb _=>j0 (hx.block b hb),fun _ _ _ h=>h,fun _ _ h=>by simp at h,fun _ _ h=>by simp at h,fun _ _ h=>by simp at h,fun _ _ _ _ h=>by simp at h⟩
 ·exact ho.repM fun b o hb _=>⟨fun ha=>by have:=hst.avlt b o ha;have:=hb.1;omega,fun _ _ h=>by simp at h,fun _ _ _ _ h=>by simp at h⟩
end Go.Proofs.YtfcoaagbccmahaaGreat

namespace Go.Proofs.YtfcoaagbccmahaaGreat.W
set_option maxRecDepth 100000
set_option maxHeartbeats 40000000
noncomputable section
open Tryz Go.RowKit Go.Proofs
attribute [local irreducible] lt
abbrev o3:=aA→aA→Option Bool
abbrev dV:=(List aA)→(List aA)→Option Bool
def vN(m:o3):Prop:= ∀(pa:aA) (pb:aA) (r:Bool),m pa pb=some r→bS prog 95 [(aA.pv pa),(aA.pv pb)] (pB r:PV)
def iJ(m:dV):Prop:= ∀(p8:Z aA) (p9:Z aA) (r:Bool),m p8 p9=some r→bS prog 144 [aT p8,aT p9,.fn 95 []] (pB r:PV)
def GH(fu:Nat)(p1:o3)(p0:dV)(pa pb:aA):J Bool:=sw (decide (pa.aD8=pb.aD8)) (sw (decide (pa.aD4=pb.aD4)) (bd (p0 pa.aD5 pb.aD5) fun x4=>some x4) (some false)) (some false)
theorem UT(fu:Nat)(p1:o3)(p0:dV)(p5:vN p1)(p4:iJ p0):vN (GH fu p1 p0):=by
 intro pa pb r H
 refine qJ func95 H (fun C hC H=>?_)
 refine gQ 2 ?_;refine q1 (fN (b7 pa)) (q1 (fN (b7 pb)) ?_)
 refine gQ 10 ?_;refine dK 10 H (fun g1 H=>?_) fun g1 H=>?_
 ·refine gQ 7 ?_;refine dK 17 H (fun g2 H=>?_) fun g2 H=>?_
  ·refine gQ 4 ?_;refine bM H fun x4 z3 H=>(qg g2 (bI func144 (p4 pa.aD5 pb.aD5 _ z3)) ?_)
   exact gE 3
  exact gE 8
 exact gE 15
def kF(fu:Nat)(p1:o3)(p0:dV)(p8 p9:Z aA):Nat→Unit→J (LR Unit Bool):=fun i2 _=>gd (i2<(p9).length) (bd (p1 (aR p8 i2) (aR p9 i2)) fun x7=>sw (!(x7)) (some (.ret false)) (some (.next ())))
def kH(fu:Nat)(p1:o3)(p0:dV)(p8 p9:Z aA):J (Bool⊕Unit):=loopN (kF fu p1 p0 p8 p9) (p8.length-0) 0 ()
def iI(fu:Nat)(p1:o3)(p0:dV)(p8 p9:Z aA):J Bool:=sw (!decide ((p8.length:Int)=(p9.length:Int))) (some false) (so (kH fu p1 p0 p8 p9) fun _=>some true)
theorem vI(fu:Nat)(p1:o3)(p0:dV)(p5:vN p1)(p4:iJ p0):iJ (iI fu p1 p0):=by
 intro p8 p9 r H
 refine qJ func144 H (fun C hC H=>?_)
 refine gQ 13 ?_;refine bE H (fun h1 H=>gE 4) fun h1 H=>?_;refine gQ 8 ?_;refine gM 0 (aA.trs_len _) (fun hl3=>?_)
 refine bV (σ:=Unit) (fun i2 _=>⟨[(1,aT p9),(2,.fn 95 []),(6,pB false),(15,aT p8),(16,pN p8.length),(17,pN i2)],⟨[],[]⟩⟩) (fun _=>⟨[(6,pB false)],⟨[],[]⟩⟩) (eX H) ?_ ?_
 ·rintro i2 ⟨⟩ H
  refine gQ 5 ?_;refine c5 H (fun h4 h4l H=>?_) (fun h4 H=>?_)
  ·refine gQ 7 ?_;refine q1 (iR (aA.cs (aR p8 i2))) ?_;refine gQ 8 ?_;refine cK H fun z5 H=>(q1 rB (q1 (iR (aA.cs (aR p9 i2))) ?_))
   refine gQ 6 ?_;refine q1 (b5 [pI ((aR p8 i2).aD8),pS ((aR p8 i2).aD4),aT ((aR p8 i2).aD5)]) (q1 (b5 [pI ((aR p9 i2).aD8),pS ((aR p9 i2).aD4),aT ((aR p9 i2).aD5)]) (bM H fun x7 z6 H=>(q1 (rCv func95 (p5 (aR p8 i2) (aR p9 i2) _ z6)) ?_)))
   refine gQ 2 ?_;refine bE H (fun h8 H=>gE 4) fun h8 H=>?_;exact gE 5
  exact gE 0
 rintro⟨⟩ H
 exact gE 4
mutual
def hY:Nat→aA→aA→J Bool
 |0,_,_=>none
 |fu+1,pa,pb=>GH fu (hY fu) (b4 fu) pa pb
def b4:Nat→(Z aA)→(Z aA)→J Bool
 |0,_,_=>none
 |fu+1,p8,p9=>iI fu (hY fu) (b4 fu) p8 p9
end
theorem WP(fu:Nat):vN (hY fu)∧iJ (b4 fu):=by
 induction fu with
 |zero=>exact⟨(fun pa pb r H=>by simp only [hY] at H;cases H),(fun p8 p9 r H=>by simp only [b4] at H;cases H)⟩
 |succ fu ih=>exact⟨(fun pa pb r H=>by simp only [hY] at H;exact UT fu (hY fu) (b4 fu) ih.1 ih.2 pa pb r H),(fun p8 p9 r H=>by simp only [b4] at H;exact vI fu (hY fu) (b4 fu) ih.1 ih.2 p8 p9 r H)⟩
theorem ZL(fu:Nat):vN (hY fu):=(WP fu).1
abbrev sK:=aA→Option aA
abbrev o5:=(List aA)→Option ((List aA))
def yO(m:sK):Prop:= ∀(pt:aA) (r:aA),m pt=some r→bS prog 79 [(aA.pv pt)] ((aA.pv r):PV)
def AX(m:o5):Prop:= ∀(pl:Z aA) (r:(Z aA)),m pl=some r→bS prog 134 [aT pl] (aT r:PV)
def I5(fu:Nat)(p3:sK)(p2:o5)(pt:aA):J aA:=bd (p2 pt.aD5) fun x2=>some (aA.mk pt.aD8 pt.aD4 x2)
theorem W0(fu:Nat)(p3:sK)(p2:o5)(p7:yO p3)(p6:AX p2):yO (I5 fu p3 p2):=by
 intro pt r H
 refine qJ func79 H (fun C hC H=>?_)
 refine gQ 2 ?_;refine q1 (fN (b7 pt)) ?_;refine gQ 6 ?_;refine bM H fun x2 z1 H=>(q1 (bI func134 (p6 pt.aD5 _ z1)) ?_)
 refine gQ 5 ?_;refine q1 (b5 [pI pt.aD8,pS pt.aD4,aT x2]) ?_;exact gE 2
def ME(fu:Nat)(p3:sK)(p2:o5)(pl:Z aA):Nat→((Z aA))→J (LR ((Z aA)) ((Z aA))):=fun i2 v3=>bd (p3 (aR pl i2)) fun x7=>gd (i2=(v3).length) (some (.next (v3++([x7]:Z aA))))
def EI(fu:Nat)(p3:sK)(p2:o5)(pl:Z aA):J (((Z aA))⊕((Z aA))):=loopN (ME fu p3 p2 pl) (pl.length-0) 0 ([])
def GJ(fu:Nat)(p3:sK)(p2:o5)(pl:Z aA):J ((Z aA)):=gd (pl.length≤68719476736) (so (EI fu p3 p2 pl) fun v3=>gd ((v3).length=pl.length) (some v3))
theorem UU(fu:Nat)(p3:sK)(p2:o5)(p7:yO p3)(p6:AX p2):AX (GJ fu p3 p2):=by
 intro pl r H
 refine qJ func134 H (fun C hC H=>?_)
 refine gQ 8 ?_;refine cK H fun z1 H=>(q1 (bC.makeSlice (N:=pl.length) rfl rfl rfl rfl apU.h awT.h (by decide) (Nat.le_trans (Nat.mul_le_mul_left _ z1) (by decide)) (Nat.le_trans z1 (by decide))) ?_)
 refine gQ 9 ?_;refine gM 0 (aA.trs_len _) (fun hl4=>?_)
 refine bV (σ:=(Z aA)) (fun i2 v3=>⟨[(2,.nil),(3,.full 3 (pl.length) 0),(9,aT pl),(10,pN pl.length),(11,pN i2)],⟨[],[⟨30,3,aA.trs (v3),true⟩]⟩⟩) (fun v3=>⟨[(2,.nil),(3,.full 3 (pl.length) 0)],⟨[],[⟨30,3,aA.trs (v3),true⟩]⟩⟩) (eX H) ?_ ?_
 ·rintro i2 v3 H
  refine gQ 5 ?_;refine c5 H (fun h5 h5l H=>?_) (fun h5 H=>?_)
  ·refine gQ 7 ?_;refine q1 (iR (aA.cs (aR pl i2))) ?_;refine gQ 7 ?_;refine q1 (b5 [pI ((aR pl i2).aD8),pS ((aR pl i2).aD4),aT ((aR pl i2).aD5)]) (bM H fun x7 z6 H=>(q1 (bI func79 (p7 (aR pl i2) _ z6)) (q1 (bC.indexFull (k:=i2) rfl rfl rfl rfl h5l apU.h) (cK H fun z8 H=>?_))))
   refine q1 (bC.storeRptr (e:=aA.cs x7) (es2:=aA.trs (v3++([x7]:Z aA))) 16 rfl rfl rfl rfl rfl rfl kA rfl rfl awO.h (by rw [aA.trs_len];exact z8) h5l (by rw [aA.trs_map,aA.trs_map,List.map_append];simp [aA.tr_cs])) ?_;exact gE 5
  exact gE 0
 rintro v3 H
 refine gQ 3 ?_;refine cK H fun z9 H=>?_;refine AL.weak (Wk.full (i:=22) rfl rfl (by rw [aA.trs_len];exact z9)) ?_;exact gE 2
mutual
def j7:Nat→aA→J aA
 |0,_=>none
 |fu+1,pt=>I5 fu (j7 fu) (kY fu) pt
def kY:Nat→(Z aA)→J ((Z aA))
 |0,_=>none
 |fu+1,pl=>GJ fu (j7 fu) (kY fu) pl
end
theorem ZO(fu:Nat):yO (j7 fu)∧AX (kY fu):=by
 induction fu with
 |zero=>exact⟨(fun pt r H=>by simp only [j7] at H;cases H),(fun pl r H=>by simp only [kY] at H;cases H)⟩
 |succ fu ih=>exact⟨(fun pt r H=>by simp only [j7] at H;exact W0 fu (j7 fu) (kY fu) ih.1 ih.2 pt r H),(fun pl r H=>by simp only [kY] at H;exact UU fu (j7 fu) (kY fu) ih.1 ih.2 pl r H)⟩
theorem ac5(fu:Nat):yO (j7 fu):=(ZO fu).1
end
end Go.Proofs.YtfcoaagbccmahaaGreat.W

namespace Go.Proofs.YtfcoaagbccmahaaGreat
open Go.RowKit Go.Proofs
theorem BX(a:Y):(a==a)=true:=by
 obtain⟨x⟩:=a
 show(x==x)=true
 simp
theorem anG{a b:Y}(h:a.toList=b.toList):a=b:=by
 rw [ByteArray.toList_eq,ByteArray.toList_eq] at h
 obtain⟨⟨x⟩⟩:=a
 obtain⟨⟨y⟩⟩:=b
 have h:x=y:=h
 rw [h]
theorem GF{a b:Y}(h: ¬a=b):(a==b)=false:=by
 obtain⟨x⟩:=a
 obtain⟨y⟩:=b
 show(x==y)=false
 simp only [beq_eq_false_iff_ne,ne_eq]
 rintro rfl
 exact h rfl
mutual
def aA.eq:aA→aA→Bool
 | .mk k n xs,.mk l m ys=>k==l&&(n==m&&aA.eqs xs ys)
def aA.eqs:Z aA→Z aA→Bool
 | [],[]=>true
 |a::l,b::r=>aA.eq a b&&aA.eqs l r
 |_,_=>false
end
def aF.eq:aF→aF→Bool
 | .mk n x,.mk m y=>n==m&&aA.eq x y
end Go.Proofs.YtfcoaagbccmahaaGreat

namespace Go.Proofs.YtfcoaagbccmahaaGreat.W
open Tryz Go.RowKit Go.Proofs
theorem RD{n i:Nat}(h:i<n):aR (List.range n) i=i:=by rw [iE (by simpa using h)];simp
theorem acT: ∀ {l r:Z aA},aA.eqs l r=true→l.length=r.length
 | [],[],_=>rfl
 | [],_::_,h=>by simp [aA.eqs] at h
 |_::_,[],h=>by simp [aA.eqs] at h
 |a::l,b::r,h=>by
  simp only [aA.eqs,Bool.and_eq_true] at h
  simp [acT h.2]
theorem RH: ∀ {l r:Z aA},l.length=r.length→aA.eqs l r=(List.range l.length).all fun i=>aA.eq (aR l i) (aR r i)
 | [],[],_=>rfl
 | [],_::_,h=>by simp at h
 |_::_,[],h=>by simp at h
 |a::l,b::r,h=>by
  rw [aA.eqs,List.length_cons,List.range_succ_eq_map,List.all_cons,List.all_map,RH (l:=l) (r:=r) (by simpa using h)]
  rfl
theorem alD{xs ys:Z aA}(h: ∀i,i<xs.length→i<ys.length→bR fun fu=>fS fu (aR xs i) (aR ys i)=some (aA.eq (aR xs i) (aR ys i))):bR fun fu=>lN fu xs ys=some (aA.eqs xs ys):=by
 refine bR.succ ?_
 by_cases hl:xs.length=ys.length
 ·refine(bR.below (k:=xs.length) fun i hi=>h i hi (by omega)).imp fun fu hf=>?_
  simp only [lN,F5]
  have hd:(!decide ((((xs.length:Nat):Int):Int)=((ys.length:Nat):Int)))=false:=by simp [hl]
  rw [hd]
  have hr: ∀fu',∀(r1:aA→aA→J Bool),(∀i,i<xs.length→r1 (aR xs i) (aR ys i)=some (aA.eq (aR xs i) (aR ys i)))→OK fu' r1 (lN fu) xs ys=some (if(List.range xs.length).all (fun i=>aA.eq (aR xs i) (aR ys i)) then .inr () else .inl false):=by
   intro fu' r1 h1
   unfold OK
   have:=JE (l:=List.range xs.length) (f:=OJ fu' r1 (lN fu) xs ys) (p:=fun i=>aA.eq (aR xs i) (aR ys i)) (r:=false) (s:=()) fun i hi=>by
    have hi':i<xs.length:=by simpa using hi
    rw [RD hi',OJ]
    rw [jC (by omega) rfl,gD (h1 i hi') rfl]
    cases aA.eq (aR xs i) (aR ys i)<;>rfl
   rwa [List.length_range] at this
  rw [hr fu _ hf,RH hl]
  cases(List.range xs.length).all fun i=>aA.eq (aR xs i) (aR ys i)<;>rfl
 ·refine .all fun fu=>?_
  simp only [lN,F5]
  have hd:(!decide ((((xs.length:Nat):Int):Int)=((ys.length:Nat):Int)))=true:=by simp;omega
  rw [hd]
  cases hq:aA.eqs xs ys
  ·rfl
  ·exact absurd (acT hq) hl
theorem Z6: ∀a b:aA,bR fun fu=>fS fu a b=some (aA.eq a b):=by
 refine aA.ind fun k n xs ih=>?_;rintro⟨l,m,ys⟩
 refine bR.succ ((alD (xs:=xs) (ys:=ys) fun i hi hj=>ih _ (cB hi) _).imp fun fu hf=>?_)
 simp only [fS,A3,aA.aD8.eq_1,aA.aD4.eq_1,aA.aD5.eq_1,hf,aA.eq]
 by_cases h1:k=l
 ·subst h1
  by_cases h2:n=m
  ·subst h2
   simp [sw,bd,BX]
  ·simp [sw,h2,GF]
 ·have:(k==l)=false:=by simpa using h1
  simp [sw,h1,this]
theorem ET(a b:aA):bS prog 38 [(aA.pv a),(aA.pv b)] (.t (.leaf (.bool (aA.eq a b)))):=by
 obtain⟨fu,h⟩:=(Z6 a b).get
 exact MH fu a b _ h
theorem ZJ{xs ys:Z aA}(h: ∀i,i<xs.length→i<ys.length→bR fun fu=>hY fu (aR xs i) (aR ys i)=some (aA.eq (aR xs i) (aR ys i))):bR fun fu=>b4 fu xs ys=some (aA.eqs xs ys):=by
 refine bR.succ ?_
 by_cases hl:xs.length=ys.length
 ·refine(bR.below (k:=xs.length) fun i hi=>h i hi (by omega)).imp fun fu hf=>?_
  simp only [b4,iI]
  have hd:(!decide ((((xs.length:Nat):Int):Int)=((ys.length:Nat):Int)))=false:=by simp [hl]
  rw [hd]
  have hr:kH fu (hY fu) (b4 fu) xs ys=some (if(List.range xs.length).all (fun i=>aA.eq (aR xs i) (aR ys i)) then .inr () else .inl false):=by
   unfold kH
   have:=JE (l:=List.range xs.length) (f:=kF fu (hY fu) (b4 fu) xs ys) (p:=fun i=>aA.eq (aR xs i) (aR ys i)) (r:=false) (s:=()) fun i hi=>by
    have hi':i<xs.length:=by simpa using hi
    rw [RD hi',kF]
    rw [jC (by omega) rfl,gD (hf i hi') rfl]
    cases aA.eq (aR xs i) (aR ys i)<;>rfl
   rwa [List.length_range] at this
  rw [hr,RH hl]
  cases(List.range xs.length).all fun i=>aA.eq (aR xs i) (aR ys i)<;>rfl
 ·refine .all fun fu=>?_
  simp only [b4,iI]
  have hd:(!decide ((((xs.length:Nat):Int):Int)=((ys.length:Nat):Int)))=true:=by simp;omega
  rw [hd]
  cases hq:aA.eqs xs ys
  ·rfl
  ·exact absurd (acT hq) hl
theorem ZK: ∀a b:aA,bR fun fu=>hY fu a b=some (aA.eq a b):=by
 refine aA.ind fun k n xs ih=>?_;rintro⟨l,m,ys⟩
 refine bR.succ ((ZJ (xs:=xs) (ys:=ys) fun i hi hj=>ih _ (cB hi) _).imp fun fu hf=>?_)
 simp only [hY,GH,aA.aD8.eq_1,aA.aD4.eq_1,aA.aD5.eq_1,hf,aA.eq]
 by_cases h1:k=l
 ·subst h1
  by_cases h2:n=m
  ·subst h2
   simp [sw,bd,BX]
  ·simp [sw,h2,GF]
 ·have:(k==l)=false:=by simpa using h1
  simp [sw,h1,this]
theorem EH(a b:aA):bS prog 95 [(aA.pv a),(aA.pv b)] (.t (.leaf (.bool (aA.eq a b)))):=by
 obtain⟨fu,h⟩:=(ZK a b).get
 exact ZL fu a b _ h
theorem WK{α:Type}: ∀(l a:Z α),l.foldl (fun s x=>s++ [x]) a=a++l
 | [],a=>by simp
 |x::l,a=>by rw [List.foldl_cons,WK l];simp
theorem apN{xs:Z aA}: ∀ {x:aA},x∈xs→Tr.bulkL x.tr≤Tr.bulkAll (aA.trs xs):=by
 induction xs with
 |nil=>intro x hx;simp at hx
 |cons a l ih=>
  intro x hx
  simp only [aA.trs,Tr.bulkAll]
  rcases List.mem_cons.1 hx with rfl|hx
  ·omega
  ·have:=ih hx;omega
theorem RF(k:Int)(n:Y)(xs:Z aA):xs.length+Tr.bulkAll (aA.trs xs)≤Tr.bulkL (aA.mk k n xs).tr:=by
 simp only [aA.tr,Tr.bulkL_append,Tr.bulkL,Tr.bulk,aA.trs_len]
 omega
mutual
def Gd(U:LB):aA→Prop
 | .mk k n xs=>(k=1→n∈U)∧xs.length≤68719476735∧GdL U xs
def GdL(U:LB):Z aA→Prop
 | []=>True
 |x::l=>Gd U x∧GdL U l
end
theorem yD{U:LB}: ∀ {l:Z aA},GdL U l↔ ∀x∈l,Gd U x
 | []=>by simp [GdL]
 |a::l=>by rw [GdL,yD (l:=l)];simp
theorem Gd.args{U:LB}{t x:aA}(h:x∈t.aD5)(ht:Gd U t):Gd U x:=by
 obtain⟨k,n,xs⟩:=t
 rw [Gd] at ht
 exact yD.1 ht.2.2 x h
theorem Gd.mono{U V:LB}(hs: ∀x∈U,x∈V): ∀t:aA,Gd U t→Gd V t:=by
 refine aA.ind fun k n xs ih h=>?_
 rw [Gd] at h ⊢
 exact⟨fun hk=>hs _ (h.1 hk),h.2.1,yD.2 fun x hx=>ih x hx (yD.1 h.2.2 x hx)⟩
def iV(t:aA):Prop:= ∃U:LB,U.length≤68719476736∧Gd U t
theorem BV{t x:aA}(h:x∈t.aD5):iV t→iV x:=fun⟨U,hU,ht⟩=>⟨U,hU,ht.args h⟩
theorem iV.len{k:Int}{n:Y}{xs:Z aA}(h:iV (.mk k n xs)):xs.length≤68719476735:=by
 obtain⟨U,_,h⟩:=h
 rw [Gd] at h
 exact h.2.1
mutual
def FR:aA→LB
 | .mk _ n xs=>n::aj2 xs
def aj2:Z aA→LB
 | []=> []
 |x::l=>FR x++aj2 l
end
theorem agW{x:aA}: ∀ {l:Z aA},x∈l→ ∀n∈FR x,n∈aj2 l
 |a::l,h,n,hn=>by
  rw [aj2]
  rcases List.mem_cons.1 h with rfl|h
  ·exact List.mem_append.2 (.inl hn)
  ·exact List.mem_append.2 (.inr (agW h n hn))
theorem agV: ∀(l:Z aA),(∀x∈l,(FR x).length≤1+Tr.bulkL x.tr)→(aj2 l).length≤l.length+Tr.bulkAll (aA.trs l)
 | [],_=>by simp [aj2]
 |x::l,h=>by
  have h1:=h x (by simp)
  have h2:=agV l fun y hy=>h y (List.mem_cons_of_mem _ hy)
  simp only [aj2,aA.trs,Tr.bulkAll,List.length_append,List.length_cons]
  omega
theorem agX: ∀t:aA,(FR t).length≤1+Tr.bulkL t.tr:=by
 refine aA.ind fun k n xs ih=>?_
 have h1:=agV xs ih
 have h2:=RF k n xs
 rw [FR,List.length_cons]
 omega
theorem Gd.own: ∀t:aA,Tr.bulkL t.tr≤68719476735→Gd (FR t) t:=by
 refine aA.ind fun k n xs ih hb=>?_
 have h1:=RF k n xs
 rw [Gd,FR]
 refine⟨fun _=>List.mem_cons_self ..,by omega,yD.2 fun x hx=>?_⟩
 exact(ih x hx (by have:=apN hx;omega)).mono (fun y hy=>List.mem_cons_of_mem _ (agW hx y hy)) x
theorem iV.of{t:aA}(h:Tr.bulkL t.tr≤68719476735):iV t:=⟨FR t,by have:=agX t;omega,Gd.own t h⟩
theorem aeQ{xs:Z aA}(hb:xs.length≤68719476735)(h: ∀x∈xs,bR fun fu=>iS fu x=some x):bR fun fu=>iP fu xs=some xs:=by
 refine bR.succ ((bR.list h).imp fun fu hf=>?_)
 simp only [iP,zI]
 rw [lF (l:=xs) (g:=fun s x=>s++ [x]) (fun i s=>s.length=i) (fun i s hi hp=>⟨?_,by simp [hp]⟩) rfl,WK]
 ·rfl
 ·rw [HU,gD (hf _ (cB hi)) rfl,jC (by simp;omega) rfl]
theorem ak6: ∀t:aA,iV t→bR fun fu=>iS fu t=some t:=by
 refine aA.ind fun k n xs ih hb=>?_
 have h1:=hb.len
 refine bR.succ ((aeQ (xs:=xs) h1 fun x hx=>ih x hx (BV (t:= .mk k n xs) hx hb)).imp fun fu hf=>?_)
 simp only [iS,K0,aA.aD8.eq_1,aA.aD4.eq_1,aA.aD5.eq_1,hf,bd]
theorem HV(t:aA)(hb:iV t):bS prog 56 [(aA.pv t)] (aA.pv t):=by
 obtain⟨fu,h⟩:=(ak6 t hb).get
 exact YP fu t _ h
theorem NR{α β:Type}[Inhabited α]{f:Nat→Z α→J (LR (Z α) β)}{l:Z α}{g:α→α}(hs: ∀i s,i<l.length→s.length=i→f i s=some (.next (s++ [g (aR l i)]))):loopN f (l.length-0) 0 []=some (.inr (l.map g)):=by
 rw [lF (l:=l) (g:=fun s x=>s++ [g x]) (fun i s=>s.length=i) (fun i s hi hp=>⟨hs i s hi hp,by simp [hp]⟩) rfl]
 have key: ∀(l a:Z α),l.foldl (fun s x=>s++ [g x]) a=a++l.map g:=by
  intro l
  induction l with
  |nil=>intro a;simp
  |cons x l ih=>intro a;rw [List.foldl_cons,ih];simp
 rw [key,List.nil_append]
theorem ZP{xs:Z aA}(hb:xs.length≤68719476735)(h: ∀x∈xs,bR fun fu=>j7 fu x=some x):bR fun fu=>kY fu xs=some xs:=by
 refine bR.succ ((bR.list h).imp fun fu hf=>?_)
 simp only [kY,GJ]
 rw [jC (by omega) rfl]
 have hR:EI fu (j7 fu) (kY fu) xs=some (.inr xs):=by
  unfold EI
  rw [NR (l:=xs) (g:=id) fun i s hi hp=>?_,List.map_id]
  rw [ME,gD (hf _ (cB hi)) rfl,jC (by omega) rfl]
  rfl
 rw [UF hR rfl,jC rfl rfl]
theorem ac4: ∀t:aA,iV t→bR fun fu=>j7 fu t=some t:=by
 refine aA.ind fun k n xs ih hb=>?_
 have h1:=hb.len
 refine bR.succ ((ZP (xs:=xs) h1 fun x hx=>ih x hx (BV (t:= .mk k n xs) hx hb)).imp fun fu hf=>?_)
 simp only [j7,I5,aA.aD8.eq_1,aA.aD4.eq_1,aA.aD5.eq_1,hf,bd]
theorem AW(t:aA)(hb:iV t):bS prog 79 [(aA.pv t)] (aA.pv t):=by
 obtain⟨fu,h⟩:=(ac4 t hb).get
 exact ac5 fu t _ h
end Go.Proofs.YtfcoaagbccmahaaGreat.W

namespace Go.Proofs.YtfcoaagbccmahaaGreat.W
set_option maxRecDepth 100000
set_option maxHeartbeats 40000000
noncomputable section
open Tryz Go.RowKit Go.Proofs
attribute [local irreducible] lt
def XV(fu:Nat)(p0:Z aK)(pv:Y):Nat→Unit→J (LR Unit (aA×Bool)):=fun i1 _=>sw (decide ((aR p0 i1).aEI=pv)) (gd (iV ((aR p0 i1).aD6)) (some (.ret (((aR p0 i1).aD6),true)))) (some (.next ()))
def KT(fu:Nat)(p0:Z aK)(pv:Y):J (aA×Bool):=so (loopN (XV fu p0 pv) (p0.length-0) 0 ()) fun _=>some ((aA.mk 0 s_ []),false)
theorem XX(fu:Nat)(p0:Z aK)(pv:Y)(r:aA×Bool)(H:KT fu p0 pv=some r):bS prog 151 [gK p0,pS pv] (.tup [(aA.pv r.1),pB r.2]):=by
 refine qJ func151 H (fun C hC H=>?_)
 refine gQ 10 ?_;refine gM 0 (aK.trs_len _) (fun hl2=>?_)
 refine bV (σ:=Unit) (fun i1 _=>⟨[(0,gK p0),(1,pS pv),(4,.ptr 0 0),(5,pB false),(6,pN i1)],⟨[some ⟨30,[pI 0,pS s_,.nil]⟩],[]⟩⟩) (fun _=>⟨[(4,.ptr 0 0),(5,pB false)],⟨[some ⟨30,[pI 0,pS s_,.nil]⟩],[]⟩⟩) (eX H) ?_ ?_
 ·rintro i1 ⟨⟩ H
  refine gQ 8 ?_;refine c5 H (fun h3 h3l H=>?_) (fun h3 H=>?_)
  ·refine gQ 13 ?_;refine bE H (fun h4 H=>?_) (fun h4 H=>?_)
   ·refine gQ 6 ?_;refine q1 (iR (aA.cs ((aR p0 i1).aD6))) (cK H fun z5 H=>(q1 (bI func56 (HV ((aR p0 i1).aD6) z5)) ?_))
    exact gE 3
   exact gE 6
  exact gE 0
 rintro⟨⟩ H
 exact gE 6
abbrev F6:=(List aA)→(List aA)→(List aK)→Option ((List aK)×Bool×(List aK))
abbrev yA:=aA→aA→(List aK)→Option ((List aK)×Bool×(List aK))
def JZ(m:F6):Prop:= ∀(pp:Z aA) (p2:Z aA) (p0:Z aK) (r:(Z aK)×Bool×(Z aK)),m pp p2 p0=some r→cF prog 212 [aT pp,aT p2,mB p0 0] ⟨[],[⟨44,4,aK.trs (p0),false⟩]⟩ (fun q t=>q=(.tup [(bif r.2.1 then .acc 4 (aK.trs (r.1)) 0 else .t (.row 4 (aK.trs (r.1)))),pB r.2.1]:PV)∧t=⟨[],[⟨44,4,aK.trs (r.2.2),false⟩]⟩)
def HW(m:yA):Prop:= ∀(pp:aA) (pt:aA) (p0:Z aK) (r:(Z aK)×Bool×(Z aK)),m pp pt p0=some r→cF prog 233 [(aA.pv pp),(aA.pv pt),mB p0 0] ⟨[],[⟨44,4,aK.trs (p0),false⟩]⟩ (fun q t=>q=(.tup [(bif r.2.1 then .acc 4 (aK.trs (r.1)) 0 else .t (.row 4 (aK.trs (r.1)))),pB r.2.1]:PV)∧t=⟨[],[⟨44,4,aK.trs (r.2.2),false⟩]⟩)
def TH(fu:Nat)(p4:F6)(p3:yA)(pp p2:Z aA)(p0:Z aK):Nat→((Z aK))→J (LR ((Z aK)) ((Z aK)×Bool×(Z aK))):=fun i1 v3=>gd (i1<(p2).length) (bd (p3 (aR pp i1) (aR p2 i1) v3) fun(x8,x9,x10)=>sw x9 (gd (x8=x10) (some (.next x8))) (some (.ret (v3,false,x10))))
def YW(fu:Nat)(p4:F6)(p3:yA)(pp p2:Z aA)(p0:Z aK):J ((Z aK)×Bool×(Z aK)):=so (loopN (TH fu p4 p3 pp p2 p0) (pp.length-0) 0 p0) fun v3=>some (v3,true,v3)
theorem aiM(fu:Nat)(p4:F6)(p3:yA)(p8:JZ p4)(p7:HW p3):JZ (YW fu p4 p3):=by
 intro pp p2 p0 r H
 refine qJ func212 H (fun C hC H=>?_)
 refine gQ 10 ?_;refine gM 0 (aA.trs_len _) (fun hl4=>?_)
 refine bV (σ:=(Z aK)) (fun i1 v3=>⟨[(0,aT pp),(1,aT p2),(2,mB v3 0),(6,.nil),(7,pB false),(8,pN i1)],⟨[],[⟨44,4,aK.trs (v3),false⟩]⟩⟩) (fun v3=>⟨[(2,mB v3 0),(6,.nil),(7,pB false)],⟨[],[⟨44,4,aK.trs (v3),false⟩]⟩⟩) (eX H) ?_ ?_
 ·rintro i1 v3 H
  refine gQ 8 ?_;refine c5 H (fun h5 h5l H=>?_) (fun h5 H=>?_)
  ·refine gQ 4 ?_;refine cK H fun z6 H=>(IC H fun x8 x9 x10 z7 H=>?_)
   cases x9
   ·have H:=r8 H rfl
    refine dW (dI [0] bG (dI [8] bG (dI [18,19] rB (dI [20] (iR (aA.cs (aR pp i1))) (dI [1] bG (dI [8] bG (dI [22,23] rB (dI [24] (iR (aA.cs (aR p2 i1))) (dI [2] bG (dE [21,25,26] (fJ [] [0] func233 (p7 (aR pp i1) (aR p2 i1) v3 _ z7)) (dI [27] bG ?_)))))))))))
    iterate 2 refine dI [17] rEx ?_
    refine dI [28] bG (dI [29] bG (dN ?_))
    refine gQ 6 ?_;refine ajH (congrArg (fun b=> !b) (rfl:false=false)) ?_;exact gE 6
   have H:=r9 H rfl
   obtain⟨z11,H1⟩:=gdI H
   subst z11
   have H:=H1
   refine dW (dI [0] bG (dI [8] bG (dI [18,19] rB (dI [20] (iR (aA.cs (aR pp i1))) (dI [1] bG (dI [8] bG (dI [22,23] rB (dI [24] (iR (aA.cs (aR p2 i1))) (dI [2] bG (dE [21,25,26] (fJ [] [0] func233 (p7 (aR pp i1) (aR p2 i1) v3 _ z7)) (dI [27] bG ?_)))))))))))
   iterate 2 refine dI [17] rEx ?_
   refine dI [28] bG (dI [29] bG (dN ?_))
   refine gQ 6 ?_;refine WC (congrArg (fun b=> !b) (rfl:true=true)) ?_;exact gE 10
  exact gE 0
 rintro v3 H
 exact gE 6
def OM(fu:Nat)(p4:F6)(p3:yA)(pp pt:aA)(p0:Z aK):J ((Z aK)×Bool×(Z aK)):=sw (decide (pp.aD8=1)) (bd (KT fu p0 pp.aD4) fun(x3,x4)=>sw x4 (sw (aA.eq x3 pt) (some (p0,(aA.eq x3 pt),p0)) (some (p0,(aA.eq x3 pt),p0))) (gd (iV pt) (gd ((p0).length+(([(aK.mk pp.aD4 pt)]:Z aK)).length≤68719476736) (some ((p0++([(aK.mk pp.aD4 pt)]:Z aK)),true,(p0++([(aK.mk pp.aD4 pt)]:Z aK))))))) (sw (!decide (pp.aD8=pt.aD8)) (some (p0,false,p0)) (sw (!decide (pp.aD4=pt.aD4)) (some (p0,false,p0)) (sw (!decide ((pp.aD5.length:Int)=(pt.aD5.length:Int))) (some (p0,false,p0)) (bd (p4 pp.aD5 pt.aD5 p0) fun(x13,x14,x15)=>sw x14 (gd (x13=x15) (some (x13,true,x13))) (some (x13,false,x15))))))
theorem aaU(fu:Nat)(p4:F6)(p3:yA)(p8:JZ p4)(p7:HW p3):HW (OM fu p4 p3):=by
 intro pp pt p0 r H
 refine qJ func233 H (fun C hC H=>?_)
 refine gQ 2 ?_;refine q1 (fN (b7 pp)) (q1 (fN (b7 pt)) ?_)
 refine gQ 10 ?_;refine bE H (fun h1 H=>?_) (fun h1 H=>?_)
 ·refine gQ 5 ?_;refine eO H fun x3 x4 z2 H=>(q1 (bI func151 (XX fu p0 pp.aD4 _ z2)) ?_)
  refine gQ 12 ?_;refine bE H (fun h5 H=>?_) (fun h5 H=>?_)
  ·refine gQ 3 ?_;refine q1 (b5 [pI x3.aD8,pS x3.aD4,aT x3.aD5]) (q1 (b5 [pI pt.aD8,pS pt.aD4,aT pt.aD5]) (q1 (bI func38 (ET x3 pt)) ?_))
   refine gQ 3 ?_;refine c7.ret ?_
   rcases n0 (aA.eq x3 pt) with g6|g6
   ·have H:=r9 H g6
    cases wL H
    exact qe2 (hle:=by rw [g6];exact kA) (hk:=by rw [g6];rfl)
   have H:=r8 H g6
   cases wL H
   exact qe2 (hle:=by rw [g6];exact kA) (hk:=by rw [g6];rfl)
  refine gQ 2 ?_;refine cK H fun z7 H=>(cK H fun z8 H=>(dW (dI [2] bG (dI [3] bY (dD [26] eI (dD [4] (b5 [pI pt.aD8,pS pt.aD4,aT pt.aD5]) (dI [28] (bI func56 (HV pt z7)) (dI [27,29] rR (dI [30] (iQ ([(aK.mk pp.aD4 pt)]:Z aK)) (dE [25,31] (mA z8) (dI [32] bG (dI [] bG (dN ?_)))))))))))))
  exact gE 0
 refine gQ 10 ?_;refine dK 38 H (fun g9 H=>gE 23) fun g9 H=>?_;refine gQ 7 ?_;refine dK 45 H (fun g10 H=>gE 16) fun g10 H=>?_;refine gQ 9 ?_;refine bE H (fun h11 H=>gE 6) fun h11 H=>?_;refine gQ 8 ?_;refine IC H fun x13 x14 x15 z12 H=>?_
 cases x14
 ·have H:=r8 H rfl
  refine q1 (fJ [] [0] func212 (p8 pp.aD5 pt.aD5 p0 _ z12)) ?_;exact gE 5
 have H:=r9 H rfl
 obtain⟨z16,H1⟩:=gdI H
 subst z16
 have H:=H1
 refine q1 (fJ [] [0] func212 (p8 pp.aD5 pt.aD5 p0 _ z12)) ?_;exact gE 5
mutual
def q9:Nat→(Z aA)→(Z aA)→(Z aK)→J ((Z aK)×Bool×(Z aK))
 |0,_,_,_=>none
 |fu+1,pp,p2,p0=>YW fu (q9 fu) (nY fu) pp p2 p0
def nY:Nat→aA→aA→(Z aK)→J ((Z aK)×Bool×(Z aK))
 |0,_,_,_=>none
 |fu+1,pp,pt,p0=>OM fu (q9 fu) (nY fu) pp pt p0
end
theorem alL(fu:Nat):JZ (q9 fu)∧HW (nY fu):=by
 induction fu with
 |zero=>exact⟨(fun pp p2 p0 r H=>by simp only [q9] at H;cases H),(fun pp pt p0 r H=>by simp only [nY] at H;cases H)⟩
 |succ fu ih=>exact⟨(fun pp p2 p0 r H=>by simp only [q9] at H;exact aiM fu (q9 fu) (nY fu) ih.1 ih.2 pp p2 p0 r H),(fun pp pt p0 r H=>by simp only [nY] at H;exact aaU fu (q9 fu) (nY fu) ih.1 ih.2 pp pt p0 r H)⟩
theorem abZ(fu:Nat):JZ (q9 fu):=(alL fu).1
def DX(fu:Nat)(pp p2:Z aA):J ((Z aK)×Bool):=sw (!decide ((pp.length:Int)=(p2.length:Int))) (some (([]),false)) (bd (q9 fu pp p2 ([])) fun(x3,x4,x5)=>sw x4 (gd (x3=x5) (some (x3,true))) (some (([]),false)))
theorem adN(fu:Nat)(pp:Z aA)(p2:Z aA)(r:(Z aK)×Bool)(H:DX fu pp p2=some r):bS prog 187 [aT pp,aT p2] (.tup [gK r.1,pB r.2]):=by
 refine qJ func187 H (fun C hC H=>?_)
 refine gQ 14 ?_;refine bE H (fun h1 H=>?_) (fun h1 H=>?_)
 ·refine gQ 2 ?_;refine q1 (sA ([]:Z aK)) ?_;exact gE 3
 refine gQ 5 ?_;refine q1 (sA ([]:Z aK)) (IC H fun x3 x4 x5 z2 H=>?_)
 cases x4
 ·have H:=r8 H rfl
  refine q1 (fJ [] [0] func212 (abZ fu pp p2 ([]) _ z2)) ?_;refine gQ 12 ?_;refine ajH (congrArg (fun b=> !b) (rfl:false=false)) ?_;refine gQ 2 ?_;refine q1 (sA ([]:Z aK)) ?_;exact gE 3
 have H:=r9 H rfl
 obtain⟨z6,H1⟩:=gdI H
 subst z6
 have H:=H1
 refine q1 (fJ [] [0] func212 (abZ fu pp p2 ([]) _ z2)) ?_;refine gQ 12 ?_;refine WC (congrArg (fun b=> !b) (rfl:true=true)) ?_;exact gE 7
def QE(fu:Nat)(pp pt:aA):J ((Z aK)×Bool):=bd (DX fu ([pp]:Z aA) ([pt]:Z aA)) fun(x2,x3)=>some (x2,x3)
theorem abS(fu:Nat)(pp:aA)(pt:aA)(r:(Z aK)×Bool)(H:QE fu pp pt=some r):bS prog 161 [(aA.pv pp),(aA.pv pt)] (.tup [gK r.1,pB r.2]):=by
 refine qJ func161 H (fun C hC H=>?_)
 refine gQ 2 ?_;refine q1 (fN (b7 pp)) (q1 (fN (b7 pt)) ?_)
 refine gQ 5 ?_;refine q1 (b5 [pI pp.aD8,pS pp.aD4,aT pp.aD5]) (q1 (iQ ([pp]:Z aA)) (q1 (b5 [pI pt.aD8,pS pt.aD4,aT pt.aD5]) (q1 (iQ ([pt]:Z aA)) (eO H fun x2 x3 z1 H=>(q1 (bI func187 (adN fu ([pp]:Z aA) ([pt]:Z aA) _ z1)) ?_)))))
 exact gE 5
def XY(fu:Nat)(pp pt:aA):J Bool:=bd (QE fu pp pt) fun(x2,x3)=>some x3
theorem ag7(fu:Nat)(pp:aA)(pt:aA)(r:Bool)(H:XY fu pp pt=some r):bS prog 210 [(aA.pv pp),(aA.pv pt)] (pB r):=by
 refine qJ func210 H (fun C hC H=>?_)
 refine gQ 2 ?_;refine q1 (fN (b7 pp)) (q1 (fN (b7 pt)) ?_)
 refine gQ 4 ?_;refine q1 (b5 [pI pp.aD8,pS pp.aD4,aT pp.aD5]) (q1 (b5 [pI pt.aD8,pS pt.aD4,aT pt.aD5]) (eO H fun x2 x3 z1 H=>(q1 (bI func161 (abS fu pp pt _ z1)) ?_)))
 exact gE 11
def WT(fu:Nat)(p0:Z aK)(pv:Y):Nat→Unit→J (LR Unit (aA×Bool)):=fun i1 _=>sw (decide ((aR p0 i1).aEI=pv)) (gd (iV ((aR p0 i1).aD6)) (some (.ret (((aR p0 i1).aD6),true)))) (some (.next ()))
def FG(fu:Nat)(p0:Z aK)(pv:Y):J (aA×Bool):=so (loopN (WT fu p0 pv) (p0.length-0) 0 ()) fun _=>some ((aA.mk 0 s_ []),false)
theorem WV(fu:Nat)(p0:Z aK)(pv:Y)(r:aA×Bool)(H:FG fu p0 pv=some r):bS prog 59 [gK p0,pS pv] (.tup [(aA.pv r.1),pB r.2]):=by
 refine qJ func59 H (fun C hC H=>?_)
 refine gQ 12 ?_;refine gM 0 (aK.trs_len _) (fun hl2=>?_)
 refine bV (σ:=Unit) (fun i1 _=>⟨[(1,pS pv),(4,.ptr 0 0),(5,pB false),(8,gK p0),(9,pN p0.length),(10,pN i1)],⟨[some ⟨30,[pI 0,pS s_,.nil]⟩],[]⟩⟩) (fun _=>⟨[(4,.ptr 0 0),(5,pB false)],⟨[some ⟨30,[pI 0,pS s_,.nil]⟩],[]⟩⟩) (eX H) ?_ ?_
 ·rintro i1 ⟨⟩ H
  refine gQ 5 ?_;refine c5 H (fun h3 h3l H=>?_) (fun h3 H=>?_)
  ·refine gQ 6 ?_;refine q1 (iR (aK.cs (aR p0 i1))) ?_;refine gQ 10 ?_;refine bE H (fun h4 H=>?_) (fun h4 H=>?_)
   ·refine gQ 3 ?_;refine q1 (b5 [pI (((aR p0 i1).aD6).aD8),pS (((aR p0 i1).aD6).aD4),aT (((aR p0 i1).aD6).aD5)]) (cK H fun z5 H=>(q1 (bI func79 (AW ((aR p0 i1).aD6) z5)) ?_))
    exact gE 3
   exact gE 5
  exact gE 0
 rintro⟨⟩ H
 exact gE 6
abbrev uY:=(List aK)→(List aA)→(List aA)→Option ((List aK)×Bool×(List aK))
abbrev FH:=(List aK)→aA→aA→Option ((List aK)×Bool×(List aK))
def yR(m:uY):Prop:= ∀(ps:Z aK) (pp:Z aA) (p2:Z aA) (r:(Z aK)×Bool×(Z aK)),m ps pp p2=some r→cF prog 159 [mB ps 0,aT pp,aT p2] ⟨[],[⟨44,4,aK.trs (ps),false⟩]⟩ (fun q t=>q=(.tup [(bif r.2.1 then .acc 4 (aK.trs (r.1)) 0 else .t (.row 4 (aK.trs (r.1)))),pB r.2.1]:PV)∧t=⟨[],[⟨44,4,aK.trs (r.2.2),false⟩]⟩)
def PW(m:FH):Prop:= ∀(ps:Z aK) (pp:aA) (pt:aA) (r:(Z aK)×Bool×(Z aK)),m ps pp pt=some r→cF prog 184 [mB ps 0,(aA.pv pp),(aA.pv pt)] ⟨[],[⟨44,4,aK.trs (ps),false⟩]⟩ (fun q t=>q=(.tup [(bif r.2.1 then .acc 4 (aK.trs (r.1)) 0 else .t (.row 4 (aK.trs (r.1)))),pB r.2.1]:PV)∧t=⟨[],[⟨44,4,aK.trs (r.2.2),false⟩]⟩)
def AY(fu:Nat)(p1:uY)(p5:FH)(ps:Z aK)(pp p2:Z aA):Nat→((Z aK))→J (LR ((Z aK)) ((Z aK)×Bool×(Z aK))):=fun i2 v4=>gd (i2<(p2).length) (bd (p5 v4 (aR pp i2) (aR p2 i2)) fun(x9,x10,x11)=>sw x10 (gd (x9=x11) (some (.next x9))) (some (.ret ([],false,x11))))
def yQ(fu:Nat)(p1:uY)(p5:FH)(ps:Z aK)(pp p2:Z aA):J ((Z aK)×Bool×(Z aK)):=sw (!decide ((pp.length:Int)=(p2.length:Int))) (some ([],false,ps)) (so (loopN (AY fu p1 p5 ps pp p2) (pp.length-0) 0 ps) fun v4=>some (v4,true,v4))
theorem W3(fu:Nat)(p1:uY)(p5:FH)(p6:yR p1)(p9:PW p5):yR (yQ fu p1 p5):=by
 intro ps pp p2 r H
 refine qJ func159 H (fun C hC H=>?_)
 refine gQ 14 ?_;refine bE H (fun h1 H=>gE 5) fun h1 H=>?_;refine gQ 8 ?_;refine gM 1 (aA.trs_len _) (fun hl5=>?_)
 refine bV (σ:=(Z aK)) (fun i2 v4=>⟨[(0,mB v4 0),(1,aT pp),(2,aT p2),(6,.nil),(7,pB false),(17,pN pp.length),(18,pN i2)],⟨[],[⟨44,4,aK.trs (v4),false⟩]⟩⟩) (fun v4=>⟨[(0,mB v4 0),(6,.nil),(7,pB false)],⟨[],[⟨44,4,aK.trs (v4),false⟩]⟩⟩) (eX H) ?_ ?_
 ·rintro i2 v4 H
  refine gQ 5 ?_;refine c5 H (fun h6 h6l H=>?_) (fun h6 H=>?_)
  ·refine gQ 9 ?_;refine cK H fun z7 H=>(IC H fun x9 x10 x11 z8 H=>?_)
   cases x10
   ·have H:=r8 H rfl
    refine dW (dI [0] bG (dI [1] bG (dI [8] bG (dI [23,24] rB (dI [25] (iR (aA.cs (aR pp i2))) (dI [2] bG (dI [8] bG (dI [27,28] rB (dI [29] (iR (aA.cs (aR p2 i2))) (dE [22,26,30] (fJ [] [0] func184 (p9 v4 (aR pp i2) (aR p2 i2) _ z8)) (dI [31] bG ?_)))))))))))
    iterate 2 refine dI [21] rEx ?_
    refine dI [32] bG (dI [33] bG (dN ?_))
    refine gQ 6 ?_;refine ajH (congrArg (fun b=> !b) (rfl:false=false)) ?_;exact gE 5
   have H:=r9 H rfl
   obtain⟨z12,H1⟩:=gdI H
   subst z12
   have H:=H1
   refine dW (dI [0] bG (dI [1] bG (dI [8] bG (dI [23,24] rB (dI [25] (iR (aA.cs (aR pp i2))) (dI [2] bG (dI [8] bG (dI [27,28] rB (dI [29] (iR (aA.cs (aR p2 i2))) (dE [22,26,30] (fJ [] [0] func184 (p9 v4 (aR pp i2) (aR p2 i2) _ z8)) (dI [31] bG ?_)))))))))))
   iterate 2 refine dI [21] rEx ?_
   refine dI [32] bG (dI [33] bG (dN ?_))
   refine gQ 6 ?_;refine WC (congrArg (fun b=> !b) (rfl:true=true)) ?_;exact gE 9
  exact gE 0
 rintro v4 H
 exact gE 6
def W4(fu:Nat)(p1:uY)(p5:FH)(ps:Z aK)(pp pt:aA):J ((Z aK)×Bool×(Z aK)):=sw (decide (pp.aD8=1)) (bd (FG fu ps pp.aD4) fun(x3,x4)=>sw x4 (sw (aA.eq x3 pt) (some (ps,(aA.eq x3 pt),ps)) (some (ps,(aA.eq x3 pt),ps))) (gd (iV pt) (gd ((ps).length+(([(aK.mk pp.aD4 pt)]:Z aK)).length≤68719476736) (some ((ps++([(aK.mk pp.aD4 pt)]:Z aK)),true,(ps++([(aK.mk pp.aD4 pt)]:Z aK))))))) (sw (!decide (pp.aD8=pt.aD8)) (some ([],false,ps)) (sw (!decide (pp.aD4=pt.aD4)) (some ([],false,ps)) (bd (p1 ps pp.aD5 pt.aD5) fun(x12,x13,x14)=>sw x13 (gd (x12=x14) (some (x12,true,x12))) (some (x12,false,x14)))))
theorem agF(fu:Nat)(p1:uY)(p5:FH)(p6:yR p1)(p9:PW p5):PW (W4 fu p1 p5):=by
 intro ps pp pt r H
 refine qJ func184 H (fun C hC H=>?_)
 refine gQ 2 ?_;refine q1 (fN (b7 pp)) (q1 (fN (b7 pt)) ?_)
 refine gQ 10 ?_;refine bE H (fun h1 H=>?_) (fun h1 H=>?_)
 ·refine gQ 6 ?_;refine eO H fun x3 x4 z2 H=>(q1 (bI func59 (WV fu ps pp.aD4 _ z2)) ?_)
  refine gQ 11 ?_;refine bE H (fun h5 H=>?_) (fun h5 H=>?_)
  ·refine gQ 3 ?_;refine q1 (b5 [pI x3.aD8,pS x3.aD4,aT x3.aD5]) (q1 (b5 [pI pt.aD8,pS pt.aD4,aT pt.aD5]) (q1 (bI func95 (EH x3 pt)) ?_))
   refine gQ 3 ?_;refine c7.ret ?_
   rcases n0 (aA.eq x3 pt) with g6|g6
   ·have H:=r9 H g6
    cases wL H
    exact qe2 (hle:=by rw [g6];exact kA) (hk:=by rw [g6];rfl)
   have H:=r8 H g6
   cases wL H
   exact qe2 (hle:=by rw [g6];exact kA) (hk:=by rw [g6];rfl)
  refine gQ 2 ?_;refine cK H fun z7 H=>(cK H fun z8 H=>(dW (dI [0] bG (dI [4] bY (dD [26] eI (dD [5] (b5 [pI pt.aD8,pS pt.aD4,aT pt.aD5]) (dI [28] (bI func79 (AW pt z7)) (dI [27,29] rR (dI [30] (iQ ([(aK.mk pp.aD4 pt)]:Z aK)) (dE [25,31] (mA z8) (dI [32] bG (dI [] bG (dN ?_)))))))))))))
  exact gE 0
 refine gQ 10 ?_;refine dK 38 H (fun g9 H=>gE 13) fun g9 H=>?_;refine gQ 7 ?_;refine bE H (fun h10 H=>gE 5) fun h10 H=>?_;refine gQ 8 ?_;refine IC H fun x12 x13 x14 z11 H=>?_
 cases x13
 ·have H:=r8 H rfl
  refine q1 (fJ [] [0] func159 (p6 ps pp.aD5 pt.aD5 _ z11)) ?_;exact gE 5
 have H:=r9 H rfl
 obtain⟨z15,H1⟩:=gdI H
 subst z15
 have H:=H1
 refine q1 (fJ [] [0] func159 (p6 ps pp.aD5 pt.aD5 _ z11)) ?_;exact gE 5
mutual
def fO:Nat→(Z aK)→(Z aA)→(Z aA)→J ((Z aK)×Bool×(Z aK))
 |0,_,_,_=>none
 |fu+1,ps,pp,p2=>yQ fu (fO fu) (tV fu) ps pp p2
def tV:Nat→(Z aK)→aA→aA→J ((Z aK)×Bool×(Z aK))
 |0,_,_,_=>none
 |fu+1,ps,pp,pt=>W4 fu (fO fu) (tV fu) ps pp pt
end
theorem ZU(fu:Nat):yR (fO fu)∧PW (tV fu):=by
 induction fu with
 |zero=>exact⟨(fun ps pp p2 r H=>by simp only [fO] at H;cases H),(fun ps pp pt r H=>by simp only [tV] at H;cases H)⟩
 |succ fu ih=>exact⟨(fun ps pp p2 r H=>by simp only [fO] at H;exact W3 fu (fO fu) (tV fu) ih.1 ih.2 ps pp p2 r H),(fun ps pp pt r H=>by simp only [tV] at H;exact agF fu (fO fu) (tV fu) ih.1 ih.2 ps pp pt r H)⟩
theorem PU(fu:Nat):yR (fO fu):=(ZU fu).1
def PM(fu:Nat)(pp pt:aA):J ((Z aK)×Bool):=bd (fO fu ([]) ([pp]:Z aA) ([pt]:Z aA)) fun(x2,x3,x4)=>sw x3 (gd (x2=x4) (some (x2,true))) (some (x2,false))
theorem aa8(fu:Nat)(pp:aA)(pt:aA)(r:(Z aK)×Bool)(H:PM fu pp pt=some r):bS prog 119 [(aA.pv pp),(aA.pv pt)] (.tup [gK r.1,pB r.2]):=by
 refine qJ func119 H (fun C hC H=>?_)
 refine gQ 2 ?_;refine q1 (fN (b7 pp)) (q1 (fN (b7 pt)) ?_)
 refine gQ 5 ?_;refine q1 (b5 [pI pp.aD8,pS pp.aD4,aT pp.aD5]) (q1 (iQ ([pp]:Z aA)) (q1 (b5 [pI pt.aD8,pS pt.aD4,aT pt.aD5]) (q1 (iQ ([pt]:Z aA)) (IC H fun x2 x3 x4 z1 H=>?_))))
 cases x3
 ·have H:=r8 H rfl
  refine q1 (bC.callF (res:= .tup [gK x2,pB false]) (ps:= [_,_,_]) (qs:= [.nil,aT ([pp]:Z aA),aT ([pt]:Z aA)]) rfl rfl func159 (by kernel_rfl) rfl rfl kA rfl rfl (cF.regNil (l1:= []) (l2:= [aT ([pp]:Z aA),aT ([pt]:Z aA)]) (E:=44) (sz:=4) (q:= .tup [gK x2,pB false]) (by decide) (PU fu ([]) ([pp]:Z aA) ([pt]:Z aA) _ z1) kA rfl)) ?_;exact gE 5
 have H:=r9 H rfl
 obtain⟨z5,H1⟩:=gdI H
 subst z5
 have H:=H1
 refine q1 (bC.callF (res:= .tup [gK x2,pB true]) (ps:= [_,_,_]) (qs:= [.nil,aT ([pp]:Z aA),aT ([pt]:Z aA)]) rfl rfl func159 (by kernel_rfl) rfl rfl kA rfl rfl (cF.regNil (l1:= []) (l2:= [aT ([pp]:Z aA),aT ([pt]:Z aA)]) (E:=44) (sz:=4) (q:= .tup [gK x2,pB true]) (by decide) (PU fu ([]) ([pp]:Z aA) ([pt]:Z aA) _ z1) kA rfl)) ?_;exact gE 5
def WW(fu:Nat)(pp pt:aA):J Bool:=bd (PM fu pp pt) fun(x2,x3)=>some x3
theorem af9(fu:Nat)(pp:aA)(pt:aA)(r:Bool)(H:WW fu pp pt=some r):bS prog 182 [(aA.pv pp),(aA.pv pt)] (pB r):=by
 refine qJ func182 H (fun C hC H=>?_)
 refine gQ 2 ?_;refine q1 (fN (b7 pp)) (q1 (fN (b7 pt)) ?_)
 refine gQ 4 ?_;refine q1 (b5 [pI pp.aD8,pS pp.aD4,aT pp.aD5]) (q1 (b5 [pI pt.aD8,pS pt.aD4,aT pt.aD5]) (eO H fun x2 x3 z1 H=>(q1 (bI func119 (aa8 fu pp pt _ z1)) ?_)))
 exact gE 11
end
end Go.Proofs.YtfcoaagbccmahaaGreat.W

namespace Go.Proofs.YtfcoaagbccmahaaGreat.W
open Go.RowKit Go.WalkArith
def E6(l:Z aK)(v:Y):J aK:=l.find? (fun b=>decide (b.aEI=v))
mutual
def kP:aA→aA→Z aK→J (Z aK)
 | .mk k n ps,t,s=>
  if k=1 then(match E6 s n with
   |some b=>if aA.eq b.aD6 t=true then some s else none
   |none=>some (s++ [aK.mk n t]))
  else if k=t.aD8 then(if n=t.aD4 then(if ps.length=t.aD5.length then mF ps t.aD5 s else none) else none) else none
def mF:Z aA→Z aA→Z aK→J (Z aK)
 | [],_,s=>some s
 |p::ps,ts,s=>match ts with
  | []=>none
  |t::ts=>match kP p t s with
   |none=>none
   |some s'=>mF ps ts s'
end
theorem nd{p:Prop}[Decidable p](h: ¬p):(!decide p)=true:=by simp [h]
def wtl(l:Z aA):Nat:=l.length+Tr.bulkAll (aA.trs l)
theorem Y8(x:aA)(l:Z aA):wtl (x::l)=1+Tr.bulkL x.tr+wtl l:=by simp only [wtl,aA.trs,Tr.bulkAll,List.length_cons];omega
theorem Y7(k:Int)(n:Y)(ps:Z aA):wtl ps≤Tr.bulkL (aA.mk k n ps).tr:=RF k n ps
def r7(s:Z aK):Prop:= ∀b∈s,iV b.aD6
theorem TW: ∀(ps:Z aA),(∀x∈ps,∀t s s',kP x t s=some s'→r7 s→iV t→r7 s'∧s'.length≤s.length+1+Tr.bulkL x.tr)→
 ∀ts s s',mF ps ts s=some s'→r7 s→(∀t∈ts,iV t)→r7 s'∧s'.length≤s.length+wtl ps
 | [],_,ts,s,s',h,hb,_=>by
  rw [mF] at h
  obtain rfl:=Option.some.inj h
  exact⟨hb,by omega⟩
 |p::ps,hp,ts,s,s',h,hb,ht=>by
  cases ts with
  |nil=>simp [mF] at h
  |cons t ts=>
   rw [mF] at h
   cases hq:kP p t s with
   |none=>rw [hq] at h;cases h
   |some s1=>
    rw [hq] at h
    have h1:=hp p (by simp) t s s1 hq hb (ht t (by simp))
    have h2:=TW ps (fun x hx=>hp x (List.mem_cons_of_mem _ hx)) ts s1 s' h h1.1 (fun x hx=>ht x (List.mem_cons_of_mem _ hx))
    have h3:=Y8 p ps
    exact⟨h2.1,by omega⟩
theorem an4: ∀(p t:aA) (s s':Z aK),kP p t s=some s'→r7 s→iV t→r7 s'∧s'.length≤s.length+1+Tr.bulkL p.tr:=by
 refine aA.ind fun k n ps ih t s s' h hb ht=>?_
 have hw:=Y7 k n ps
 rw [kP] at h
 split at h
 ·split at h
  ·split at h
   ·obtain rfl:=Option.some.inj h
    exact⟨hb,by omega⟩
   ·cases h
  ·obtain rfl:=Option.some.inj h
   refine⟨fun b hb'=>?_,by simp only [List.length_append,List.length_singleton];omega⟩
   rcases List.mem_append.1 hb' with h1|h1
   ·exact hb b h1
   ·obtain rfl:=List.mem_singleton.1 h1
    exact ht
 ·split at h
  ·split at h
   ·split at h
    ·have h1:=TW ps ih _ _ _ h hb (fun x hx=>BV hx ht)
     exact⟨h1.1,by omega⟩
    ·cases h
   ·cases h
  ·cases h
def Res(o:J (Z aK))(m:J (Z aK×Bool×Z aK)):Prop:=match o with
 |some s'=>m=some (s',true,s')
 |none=> ∃a b,m=some (a,false,b)
def avO(o:J (Z aK))(m:J ((Z aK×Bool×Z aK)⊕Z aK)):Prop:=match o with
 |some s'=>m=some (.inr s')
 |none=> ∃a b,m=some (.inl (a,false,b))
def avM(o:J (Z aK))(m:J (LR (Z aK) (Z aK×Bool×Z aK))):Prop:=match o with
 |some s'=>m=some (.next s')
 |none=> ∃a b,m=some (.ret (a,false,b))
theorem abM{F:Nat→Z aK→J (LR (Z aK) (Z aK×Bool×Z aK))}{ps ts:Z aA}(hlen:ps.length=ts.length)(ht: ∀t∈ts,iV t)
 (hs: ∀i s,i<ps.length→r7 s→s.length+1+Tr.bulkL (aR ps i).tr≤68719476736→avM (kP (aR ps i) (aR ts i) s) (F i s)):
 ∀(k i:Nat) (s:Z aK),ps.length-i=k→r7 s→s.length+wtl (ps.drop i)≤68719476736→avO (mF (ps.drop i) (ts.drop i) s) (loopN F (ps.length-i) i s)
 |0,i,s,hk,_,_=>by
  rw [List.drop_of_length_le (show ps.length≤i by omega),mF]
  exact FM (by omega)
 |k+1,i,s,hk,hb,hw=>by
  have hi:i<ps.length:=by omega
  have hi2:i<ts.length:=by omega
  rw [sF hi,Y8] at hw
  have h1:=hs i s hi hb (by omega)
  rw [sF hi,sF hi2,mF]
  cases hq:kP (aR ps i) (aR ts i) s with
  |none=>
   rw [hq] at h1
   obtain⟨a,b,h1⟩:=h1
   exact⟨a,b,KP hi h1⟩
  |some s'=>
   rw [hq] at h1
   have h2:=an4 _ _ _ _ hq hb (ht _ (cB hi2))
   have h3:=abM hlen ht hs k (i+1) s' (by omega) h2.1 (by omega)
   rw [CN hi h1]
   exact h3
theorem XC{F:Nat→Z aK→J (LR (Z aK) (Z aK×Bool×Z aK))}{ps ts:Z aA}(hlen:ps.length=ts.length)(ht: ∀t∈ts,iV t)
 (hs: ∀i s,i<ps.length→r7 s→s.length+1+Tr.bulkL (aR ps i).tr≤68719476736→avM (kP (aR ps i) (aR ts i) s) (F i s)) {s:Z aK} (hb:r7 s) (hw:s.length+wtl ps≤68719476736):avO (mF ps ts s) (loopN F (ps.length-0) 0 s):=by
 have:=abM hlen ht hs ps.length 0 s (by omega) hb (by rwa [List.drop_zero])
 rwa [List.drop_zero,List.drop_zero] at this
theorem XW(fu:Nat)(l:Z aK)(v:Y)(hb:r7 l):KT fu l v=some (match E6 l v with
 |some b=>(b.aD6,true)
 |none=>(aA.mk 0 (⟨#[]⟩) [],false)):=by
 unfold KT
 rw [nC (p:=fun b=>decide (b.aEI=v)) (r:=fun b=>(b.aD6,true)) (fun i hi=>by
  unfold XV
  cases h:decide ((aR l i).aEI=v)
  ·simp [sw,h]
  ·simp only [sw,h]
   rw [jC (hb _ (cB hi)) rfl]
   simp)]
 unfold E6
 cases l.find? (fun b=>decide (b.aEI=v))<;>rfl
def SMS(fu:Nat)(p:aA):Prop:= ∀(t:aA) (s:Z aK),iV t→r7 s→s.length+1+Tr.bulkL p.tr≤68719476736→Res (kP p t s) (nY fu p t s)
theorem adH{fu:Nat}{ps:Z aA}(hf: ∀x∈ps,SMS fu x){ts:Z aA}{s:Z aK}(hlen:ps.length=ts.length)(ht: ∀t∈ts,iV t)(hb:r7 s)(hw:s.length+wtl ps≤68719476736):Res (mF ps ts s) (q9 (fu+1) ps ts s):=by
 have hl:=XC (F:=TH fu (q9 fu) (nY fu) ps ts s) hlen ht (fun i s hi hb hw=>by
  have h1:=hf (aR ps i) (cB hi) (aR ts i) s (ht _ (cB (by omega))) hb hw
  unfold TH
  cases hq:kP (aR ps i) (aR ts i) s with
  |none=>
   rw [hq] at h1
   obtain⟨a,b,h1⟩:=h1
   exact⟨_,b,jC (by omega) (gD h1 rfl)⟩
  |some s'=>
   rw [hq] at h1
   exact jC (by omega) (gD h1 (hH rfl (jC rfl rfl)))) hb hw
 rw [q9,YW]
 cases hq:mF ps ts s with
 |none=>
  rw [hq] at hl
  obtain⟨a,b,hl⟩:=hl
  exact⟨a,b,soL hl⟩
 |some s'=>
  rw [hq] at hl
  exact UF hl rfl
theorem abR: ∀p:aA,bR fun fu=>SMS fu p:=by
 refine aA.ind fun k n ps ih=>?_;refine bR.succ (bR.succ ((bR.list ih).imp fun fu hf t s ht hb hw=>?_))
 have hwa:=Y7 k n ps
 rw [nY,OM,kP]
 simp only [aA.aD8.eq_1,aA.aD4.eq_1,aA.aD5.eq_1]
 by_cases hk:k=1
 ·rw [if_pos hk,XW _ s n hb]
  cases hq:E6 s n with
  |some b=>
   cases he:aA.eq b.aD6 t with
   |true=>
    show Res (if aA.eq b.aD6 t=true then some s else none) _
    rw [if_pos he]
    show _=some (s,true,s)
    refine hH (decide_eq_true hk) (gD rfl (hH rfl (hH he ?_)))
    simp only [he]
   |false=>
    show Res (if aA.eq b.aD6 t=true then some s else none) _
    rw [if_neg (by simp [he])]
    refine⟨s,s,?_⟩
    refine hH (decide_eq_true hk) (gD rfl (hH rfl (fZ he ?_)))
    simp only [he]
  |none=>
   show _=some (s++ [aK.mk n t],true,s++ [aK.mk n t])
   exact hH (decide_eq_true hk) (gD rfl (fZ rfl (jC ht (jC (by simp only [List.length_singleton];omega) rfl))))
 ·rw [if_neg hk]
  by_cases h1:k=t.aD8
  ·rw [if_pos h1]
   by_cases h2:n=t.aD4
   ·rw [if_pos h2]
    by_cases h3:ps.length=t.aD5.length
    ·rw [if_pos h3]
     have ha:=adH hf (s:=s) h3 (fun x hx=>BV hx ht) hb (by omega)
     cases hq:mF ps t.aD5 s with
     |none=>
      rw [hq] at ha
      obtain⟨a,b,ha⟩:=ha
      exact⟨_,_,fZ (by simp [hk]) (fZ (by simp [h1]) (fZ (by simp [h2]) (fZ (by simp [h3])<|gD ha (fZ rfl rfl))))⟩
     |some s'=>
      rw [hq] at ha
      exact fZ (by simp [hk]) (fZ (by simp [h1]) (fZ (by simp [h2]) (fZ (by simp [h3])<|gD ha (hH rfl (jC rfl rfl)))))
    ·rw [if_neg h3]
     exact⟨_,_,fZ (by simp [hk]) (fZ (by simp [h1]) (fZ (by simp [h2]) (hH (nd (fun h=>h3 (Int.ofNat_inj.1 h))) rfl)))⟩
   ·rw [if_neg h2]
    exact⟨_,_,fZ (by simp [hk]) (fZ (by simp [h1]) (hH (by simp [h2]) rfl))⟩
  ·rw [if_neg h1]
   exact⟨_,_,fZ (by simp [hk]) (hH (by simp [h1]) rfl)⟩
theorem WU(fu:Nat)(l:Z aK)(v:Y)(hb:r7 l):FG fu l v=some (match E6 l v with
 |some b=>(b.aD6,true)
 |none=>(aA.mk 0 (⟨#[]⟩) [],false)):=by
 unfold FG
 rw [nC (p:=fun b=>decide (b.aEI=v)) (r:=fun b=>(b.aD6,true)) (fun i hi=>by
  unfold WT
  cases h:decide ((aR l i).aEI=v)
  ·simp [sw,h]
  ·simp only [sw,h]
   rw [jC (hb _ (cB hi)) rfl]
   simp)]
 unfold E6
 cases l.find? (fun b=>decide (b.aEI=v))<;>rfl
def IMS(fu:Nat)(p:aA):Prop:= ∀(t:aA) (s:Z aK),iV t→r7 s→s.length+1+Tr.bulkL p.tr≤68719476736→Res (kP p t s) (tV fu s p t)
theorem acX{fu:Nat}{ps:Z aA}(hf: ∀x∈ps,IMS fu x){ts:Z aA}{s:Z aK}(hlen:ps.length=ts.length)(ht: ∀t∈ts,iV t)(hb:r7 s)(hw:s.length+wtl ps≤68719476736):Res (mF ps ts s) (fO (fu+1) s ps ts):=by
 have hl:=XC (F:=AY fu (fO fu) (tV fu) s ps ts) hlen ht (fun i s hi hb hw=>by
  have h1:=hf (aR ps i) (cB hi) (aR ts i) s (ht _ (cB (by omega))) hb hw
  unfold AY
  cases hq:kP (aR ps i) (aR ts i) s with
  |none=>
   rw [hq] at h1
   obtain⟨a,b,h1⟩:=h1
   exact⟨_,b,jC (by omega) (gD h1 rfl)⟩
  |some s'=>
   rw [hq] at h1
   exact jC (by omega) (gD h1 (hH rfl (jC rfl rfl)))) hb hw
 rw [fO,yQ]
 rw [show sw (!decide (((ps.length:Nat):Int)=((ts.length:Nat):Int)))=fun(x y:J (Z aK×Bool×Z aK))=>y by funext x y;exact fZ (by simp [hlen]) rfl]
 cases hq:mF ps ts s with
 |none=>
  rw [hq] at hl
  obtain⟨a,b,hl⟩:=hl
  exact⟨a,b,soL hl⟩
 |some s'=>
  rw [hq] at hl
  exact UF hl rfl
theorem aa6: ∀p:aA,bR fun fu=>IMS fu p:=by
 refine aA.ind fun k n ps ih=>?_;refine bR.succ (bR.succ ((bR.list ih).imp fun fu hf t s ht hb hw=>?_))
 have hwa:=Y7 k n ps
 rw [tV,W4,kP]
 simp only [aA.aD8.eq_1,aA.aD4.eq_1,aA.aD5.eq_1]
 by_cases hk:k=1
 ·rw [if_pos hk,WU _ s n hb]
  cases hq:E6 s n with
  |some b=>
   cases he:aA.eq b.aD6 t with
   |true=>
    show Res (if aA.eq b.aD6 t=true then some s else none) _
    rw [if_pos he]
    show _=some (s,true,s)
    refine hH (decide_eq_true hk) (gD rfl (hH rfl (hH he ?_)))
    simp only [he]
   |false=>
    show Res (if aA.eq b.aD6 t=true then some s else none) _
    rw [if_neg (by simp [he])]
    refine⟨s,s,?_⟩
    refine hH (decide_eq_true hk) (gD rfl (hH rfl (fZ he ?_)))
    simp only [he]
  |none=>
   show _=some (s++ [aK.mk n t],true,s++ [aK.mk n t])
   exact hH (decide_eq_true hk) (gD rfl (fZ rfl (jC ht (jC (by simp only [List.length_singleton];omega) rfl))))
 ·rw [if_neg hk]
  by_cases h1:k=t.aD8
  ·rw [if_pos h1]
   by_cases h2:n=t.aD4
   ·rw [if_pos h2]
    by_cases h3:ps.length=t.aD5.length
    ·rw [if_pos h3]
     have ha:=acX hf (s:=s) h3 (fun x hx=>BV hx ht) hb (by omega)
     cases hq:mF ps t.aD5 s with
     |none=>
      rw [hq] at ha
      obtain⟨a,b,ha⟩:=ha
      exact⟨_,_,fZ (by simp [hk]) (fZ (by simp [h1]) (fZ (by simp [h2]) (gD ha (fZ rfl rfl))))⟩
     |some s'=>
      rw [hq] at ha
      exact fZ (by simp [hk]) (fZ (by simp [h1]) (fZ (by simp [h2]) (gD ha (hH rfl (jC rfl rfl)))))
    ·rw [if_neg h3]
     have ha:fO (fu+1) s ps t.aD5=some ([],false,s):=by
      rw [fO,yQ]
      exact hH (nd (fun h=>h3 (Int.ofNat_inj.1 h))) rfl
     exact⟨_,_,fZ (by simp [hk]) (fZ (by simp [h1]) (fZ (by simp [h2]) (gD ha (fZ rfl rfl))))⟩
   ·rw [if_neg h2]
    exact⟨_,_,fZ (by simp [hk]) (fZ (by simp [h1]) (hH (by simp [h2]) rfl))⟩
  ·rw [if_neg h1]
   exact⟨_,_,fZ (by simp [hk]) (hH (by simp [h1]) rfl)⟩
def mO(p t:aA):Bool:=(kP p t []).isSome
theorem r7.nil:r7 []:=fun b hb=>by simp at hb
theorem GQ(p t:aA):mF [p] [t] []=kP p t []:=by
 rw [mF]
 cases hq:kP p t [] with
 |none=>simp [hq]
 |some s=>simp [hq,mF]
theorem VU(p:aA):wtl [p]=1+Tr.bulkL p.tr:=by rw [Y8];simp [wtl,aA.trs,Tr.bulkAll]
theorem TZ(p t:aA)(hp:Tr.bulkL p.tr≤68719476735)(ht:iV t):bS Tryz.prog 210 [(aA.pv p),(aA.pv t)] (.t (.leaf (.bool (mO p t)))):=by
 obtain⟨fu,hf⟩:=(abR p).get
 refine ag7 (fu+1) p t _ ?_
 have h1:=adH (fu:=fu) (ps:= [p]) (by simpa using hf) (ts:= [t]) (s:= []) rfl (by simpa using ht) r7.nil (by rw [VU];simp only [List.length_nil];omega)
 rw [GQ] at h1
 unfold XY QE DX mO
 cases hq:kP p t [] with
 |none=>
  rw [hq] at h1
  obtain⟨a,b,h1⟩:=h1
  exact gD (gD (fZ rfl (gD h1 (fZ rfl rfl))) rfl) rfl
 |some s=>
  rw [hq] at h1
  exact gD (gD (fZ rfl (gD h1 (hH rfl (jC rfl rfl)))) rfl) rfl
theorem I2(p t:aA)(hp:Tr.bulkL p.tr≤68719476735)(ht:iV t):bS Tryz.prog 182 [(aA.pv p),(aA.pv t)] (.t (.leaf (.bool (mO p t)))):=by
 obtain⟨fu,hf⟩:=(aa6 p).get
 refine af9 (fu+1) p t _ ?_
 have h1:=acX (fu:=fu) (ps:= [p]) (by simpa using hf) (ts:= [t]) (s:= []) rfl (by simpa using ht) r7.nil (by rw [VU];simp only [List.length_nil];omega)
 rw [GQ] at h1
 unfold WW PM mO
 cases hq:kP p t [] with
 |none=>
  rw [hq] at h1
  obtain⟨a,b,h1⟩:=h1
  exact gD (gD h1 (fZ rfl rfl)) rfl
 |some s=>
  rw [hq] at h1
  exact gD (gD h1 (hH rfl (jC rfl rfl))) rfl
end Go.Proofs.YtfcoaagbccmahaaGreat.W

namespace Go.Proofs.YtfcoaagbccmahaaGreat
open Go.RowKit
section
variable {P:Program} {ops:Array Oper} {Q:Exit→Act→World→Prop} {md:Region.Mode} {S:World→Prop}
theorem rZ{rest:Z Oper}{o:Oper}{a:Act}{w:World}(hwd:Region.wanted o (yielded ops a.tmps)=true)(ty:TypeId)(x:Operand)(ho:o.op= .load ty x)
 (b off:Nat) (hx:a.eval x= .pointer (some ⟨b,off,none⟩)) (cs:Z Value) (fs:Array Field) (hu:P.underlying ty=some (.struct fs)) (hi:(P.info? ty).map (·.size)=some cs.length)
 (hc: ∀j v,cs[j]?=some v→w.cell? ⟨b,off+j,none⟩=some v) (h:wpList P ops Q rest (a.put o.dst (.agg ⟨cs⟩)) w):wpList P ops Q (o::rest) a w:=
 wpList_step fun _ hK=>by
  rw [if_pos hwd]
  unfold Oper.wp execOp
  simp only [ho,hx,Instr.loadAt,Instr.sureAddr,Sem.run_bind,Sem.run_pure,Result.andThen_ok,H6 w b off ty cs fs hu hi hc]
  exact hK _ _ h
end
end Go.Proofs.YtfcoaagbccmahaaGreat

namespace Go.Proofs.YtfcoaagbccmahaaGreat.W
open Tryz Go.RowKit Go.Proofs
theorem av2:(prog.info? 26).map (·.size)=some 1:=by kernel_rfl
theorem azH:(prog.info? 52).map (·.size)=some 2:=by kernel_rfl
theorem ag1(l:Z aE): ∀e∈aE.trs l,∀d∈e,∃u,d= .leaf u:=by
 intro e he d hd
 rw [aE.trs_map] at he
 obtain⟨x,_,rfl⟩:=List.mem_map.1 he
 exact XJ x d hd
theorem apH(x0:aH)(w:World)(c0:Z Value)(h0:g0 w x0.tr c0)(hb:(fQ x0).length≤68719476736):Calls prog 180 #[.agg ⟨c0⟩] w fun e w'=> ∃v,e= .returned v∧vF w w'∧BS w' (.row 2 (aE.trs (fQ x0))) v (OQ w w'):=by
 rw [aH.tr_cs] at h0
 exact(PG 0 x0 _ (ar6 0 x0 hb)).own (ag1 _) (IS.cons (RV0.agg h0) IS.nil)
theorem izT:(prog.info? 30).map (·.size)=some 3:=by kernel_rfl
theorem izI:(prog.info? 163).map (·.size)=some 12:=by kernel_rfl
theorem bS.plainAB{P:Program}{f:FuncId}{args:Z PV}{ts:Z Tr}{d:Value}(h:bS P f args (.tup [.agg (ts.map PV.t),.t (.leaf d)])){w:World}{vals:Z Value}(hv:IS w args vals):Calls P f ⟨vals⟩ w fun e w'=> ∃cs,e= .returned (.tuple #[.agg ⟨cs⟩,d])∧vF w w'∧g0 w' ts cs:=
 (h av0 adC w vals (au5 w) hv).mono fun e w'=>by
  rintro⟨res,st',m',v,rfl,⟨rfl,rfl⟩,-,he,vs,rfl,hr⟩
  match vs,hr with
  | [u,x],hr=>
   obtain⟨rfl,-⟩:=(cA.rep (show cA _ _ (.leaf d) x from hr.2.1)).leaf_eq
   obtain⟨cs,rfl,hl⟩:=hr.1
   exact⟨cs,rfl,he.ext,gY.ofTr hl⟩
theorem av1(x0:aH)(o:aE)(hO:tW x0 o)(w:World)(c0 cs:Z Value)(h0:g0 w x0.tr c0)(hr:g0 w o.tr cs):Calls prog 118 #[.agg ⟨c0⟩,.agg ⟨cs⟩] w fun e w'=> ∃ci,e= .returned (.tuple #[.agg ⟨ci⟩,.bool true])∧vF w w'∧g0 w' (b9 x0 o).cs ci:=by
 rw [aH.tr_cs] at h0
 rw [aE.tr_cs] at hr
 exact bS.plainAB (ts:=(b9 x0 o).cs) (s6 0 x0 o _ (I6 0 x0 o hO)) (IS.cons (RV0.agg h0) (IS.cons (RV0.agg hr) IS.nil))
theorem ap7(p t:aA)(w:World)(c0 c1:Z Value)(h0:g0 w p.tr c0)(h1:g0 w t.tr c1)(hp:Tr.bulkL p.tr≤68719476735)(ht:iV t):Calls prog 182 #[.agg ⟨c0⟩,.agg ⟨c1⟩] w fun e w'=>e= .returned (.bool (mO p t))∧vF w w':=by
 rw [aA.tr_cs] at h0 h1
 exact bS.plain (I2 p t hp ht) (IS.cons (RV0.agg h0) (IS.cons (RV0.agg h1) IS.nil))
set_option maxRecDepth 100000 in
set_option maxHeartbeats 2000000 in
theorem afY(x0:aH)(g:aF)(c0 cg:Z Value)(B0 B1:Nat)(o:aE)(cs:Z Value)(w:World)(hob0:OB w B0 26 ⟨c0⟩)(hob1:OB w B1 32 ⟨cg⟩)(h0:g0 w x0.tr c0)(hg:g0 w g.tr cg)(hr:g0 w o.tr cs)(hO:tW x0 o)
 (hB0:Tr.bulkL (b9 x0 o).aEj.tr≤68719476735) (hB1:iV g.aD6):
 Calls prog 181 (#[.agg ⟨cs⟩]++ #[.pointer (some ⟨B0,0,none⟩),.pointer (some ⟨B1,0,none⟩)]) w fun e w'=>e= .returned (.bool (!(decide ((b9 x0 o).aEb=g.aEb)&&mO (b9 x0 o).aEj g.aD6)))∧vF w w':=by
 have HI0:Hid ((prog.info? 26).map (·.size)=some c0.length):=by rw [← h0.length,aH.tr_len];exact av2
 have HI1:Hid ((prog.info? 52).map (·.size)=some cs.length):=by rw [← hr.length,aE.tr_len];exact azH
 rw [aF.tr_cs] at hg
 obtain⟨d0,d1,d2,d3,rfl⟩:=av4 hg.length.symm
 obtain⟨rfl,-⟩:=hg.1.leaf_eq
 have HG:Hid (g0 w g.aD6.tr [d1,d2,d3]):=by rw [aA.tr_cs];exact hg.2
 have HOB0:=Lib.hid hob0
 have HOB1:=Lib.hid hob1
 have H0:=Lib.hid h0
 have HR:=Lib.hid hr
 have HB0:=Lib.hid hB0
 have HB1:=Lib.hid hB1
 clear hob0 hob1 h0 hr hg hB0 hB1
 go_enter func181,ntmps181
 go_wp2_with (first
  |(refine lQ rfl 26 (.tmp 1) rfl B0 0 rfl c0 _ underlying26 HI0.out (HOB0.out.ext (.alloc (.refl _) _)).cells0 ?_)
  |(refine lQ rfl 52 (.tmp 3) rfl w.heap.size 0 rfl cs _ underlying52 HI1.out (OB.new w _ _).cells0 ?_))
 refine(av1 x0 o hO _ c0 cs (H0.out.ext (.alloc (.refl _) _)) (HR.out.ext (.alloc (.refl _) _))).mono ?_;rintro e w1 ⟨ci,rfl,hw1,hci⟩
 have HW1:=Lib.hid (vF.trans (.alloc (.refl w) _) hw1)
 clear hw1
 have HCI:=Lib.hid hci
 have HCL:Hid (ci.length=12):=by rw [← hci.length];rfl
 have HII:Hid ((prog.info? 163).map (·.size)=some ci.length):=by rw [HCL.out];exact izI
 clear hci
 by_cases ht:(b9 x0 o).aEb=g.aEb
 ·have HT:=Lib.hid ht
  clear ht
  go_wp2_with (first
   |(refine tJ rfl 163 (.tmp 5) (.tmp 11) rfl w1.heap.size 0 rfl ci rfl 163 _ (OB.new w1 _ _) HII.out (by rw [HCL.out];exact Nat.le_refl _) HCI.out.one ?_;intro w2 hob hgb hzb;rw [HY (by rw [HCL.out];rfl)] at hob;have HOBI:=Lib.hid hob;have HX2:=Lib.hid (RP (.alloc (.refl w1) _) hgb (Nat.le_refl _));clear hob hgb hzb;obtain⟨e0,e1,e2,e3,e4,e5,e6,e7,e8,e9,e10,e11,rfl⟩:=ap5 HCL.out;obtain⟨rfl,-⟩:=HCI.out.1.leaf_eq;have HH:Hid (g0 w1 (b9 x0 o).aEj.tr [e2,e3,e4]):=(by rw [aA.tr_cs];exact⟨HCI.out.2.2.1,HCI.out.2.2.2.1,HCI.out.2.2.2.2.1,trivial⟩);have HXX:=Lib.hid (HW1.out.trans HX2.out);have hcI:w2.cell? ⟨w1.heap.size,0,none⟩=some (.string (b9 x0 o).aEb):=(by rw [HOBI.out.cell];rfl);have hcG:w2.cell? ⟨B1,0,none⟩=some (.string g.aEb):=(by rw [(HOB1.out.ext HXX.out).cell];rfl);rw [HT.out] at hcI)
   |(refine rZ (by rfl) 30 (.tmp 19) rfl w1.heap.size 2 rfl [e2,e3,e4] _ underlying30 izT (fun j v hv=>by rw [HOBI.out.cell];rcases j with _|_|_|j<;>first|(simp at hv;done)|simpa using hv) ?_)
   |(refine rZ (by rfl) 30 (.tmp 21) rfl B1 1 rfl [d1,d2,d3] _ underlying30 izT (fun j v hv=>by rw [(HOB1.out.ext HXX.out).cell];rcases j with _|_|_|j<;>first|(simp at hv;done)|simpa using hv) ?_))
  refine(ap7 _ _ w2 _ _ (HH.out.ext HX2.out) (HG.out.ext HXX.out) HB0.out HB1.out).mono ?_;rintro e w3 ⟨rfl,hw3⟩
  have HX3:=Lib.hid (HXX.out.trans hw3)
  clear hw3
  go_wp2_with fail
  go_ret
  refine⟨?_,HX3.out⟩
  rw [decide_eq_true HT.out]
  rfl
 ·have hne: ¬(b9 x0 o).aEb.toList=g.aEb.toList:=fun h=>ht (anG h)
  have HD:Hid (decide ((b9 x0 o).aEb=g.aEb)=false):=decide_eq_false ht
  have HT:Hid ((b9 x0 o).aEb=(b9 x0 o).aEb):=rfl
  clear ht
  go_wp2_with (first
   |(refine tJ rfl 163 (.tmp 5) (.tmp 11) rfl w1.heap.size 0 rfl ci rfl 163 _ (OB.new w1 _ _) HII.out (by rw [HCL.out];exact Nat.le_refl _) HCI.out.one ?_;intro w2 hob hgb hzb;rw [HY (by rw [HCL.out];rfl)] at hob;have HOBI:=Lib.hid hob;have HX2:=Lib.hid (RP (.alloc (.refl w1) _) hgb (Nat.le_refl _));clear hob hgb hzb;obtain⟨e0,e1,e2,e3,e4,e5,e6,e7,e8,e9,e10,e11,rfl⟩:=ap5 HCL.out;obtain⟨rfl,-⟩:=HCI.out.1.leaf_eq;have HH:Hid (g0 w1 (b9 x0 o).aEj.tr [e2,e3,e4]):=(by rw [aA.tr_cs];exact⟨HCI.out.2.2.1,HCI.out.2.2.2.1,HCI.out.2.2.2.2.1,trivial⟩);have HXX:=Lib.hid (HW1.out.trans HX2.out);have hcI:w2.cell? ⟨w1.heap.size,0,none⟩=some (.string (b9 x0 o).aEb):=(by rw [HOBI.out.cell];rfl);have hcG:w2.cell? ⟨B1,0,none⟩=some (.string g.aEb):=(by rw [(HOB1.out.ext HXX.out).cell];rfl))
   |(refine rZ (by rfl) 30 (.tmp 19) rfl w1.heap.size 2 rfl [e2,e3,e4] _ underlying30 izT (fun j v hv=>by rw [HOBI.out.cell];rcases j with _|_|_|j<;>first|(simp at hv;done)|simpa using hv) ?_)
   |(refine rZ (by rfl) 30 (.tmp 21) rfl B1 1 rfl [d1,d2,d3] _ underlying30 izT (fun j v hv=>by rw [(HOB1.out.ext HXX.out).cell];rcases j with _|_|_|j<;>first|(simp at hv;done)|simpa using hv) ?_))
  go_ret
  refine⟨?_,HXX.out⟩
  rw [HD.out]
  rfl
def sE(w:aH)(g:aF)(o:aE):Bool:=decide ((b9 w o).aEb=g.aEb)&&mO (b9 w o).aEj g.aD6
set_option maxRecDepth 100000 in
set_option maxHeartbeats 2000000 in
theorem afZ(x0:aH)(g:aF)(w:World)(c0 cg:Z Value)(h0:g0 w x0.tr c0)(hg:g0 w g.tr cg)(hb:(fQ x0).length≤68719476736)(hB0: ∀o,tW x0 o→Tr.bulkL (b9 x0 o).aEj.tr≤68719476735)(hB1:iV g.aD6):
 Calls prog 155 #[.agg ⟨c0⟩,.agg ⟨cg⟩] w fun e w'=> ∃v,e= .returned v∧vF w w'∧BS w' (.row 2 (aE.trs ((fQ x0).filter fun o=>sE x0 g o))) v (OQ w w'):=by
 have H0:=Lib.hid h0
 have HG:=Lib.hid hg
 have HB0:=Lib.hid hB0
 have HI0:Hid ((prog.info? 26).map (·.size)=some c0.length):=by rw [← h0.length,aH.tr_len];exact av2
 clear h0 hg hB0
 go_enter func155,ntmps155
 go_wp2_with (refine lQ rfl 26 (.tmp 2) rfl w.heap.size 0 rfl c0 _ underlying26 HI0.out (Two.new w _ _ _ _).o0.cells0 ?_)
 refine(apH x0 _ c0 (H0.out.ext (.alloc (.alloc (.refl _) _) _)) hb).mono ?_;rintro e w1 ⟨v,rfl,hw1,ho1⟩
 have HW1:=Lib.hid hw1
 have HO1:=Lib.hid ho1
 clear hw1 ho1
 go_wp2_with fail
 refine(WF (fQ x0) (fun o=> !sE x0 g o) 181 #[.pointer (some ⟨w.heap.size,0,none⟩),.pointer (some ⟨w.heap.size+1,0,none⟩)] (iN func181 (by kernel_rfl) (by kernel_rfl)) v w1 (OQ ((w.alloc _).alloc _) w1) (fun x hx=>hx.2) (fun o ho cs W hW hr=>by
  have hx:=OR.ext HW1.out hW (fun x hx=>hx.1)
  exact afY x0 g c0 cg w.heap.size (w.heap.size+1) o cs W ((Two.new w _ _ _ _).o0.ext hx) ((Two.new w _ _ _ _).o1.ext hx) (H0.out.ext (vF.trans (.alloc (.alloc (.refl _) _) _) hx)) (HG.out.ext (vF.trans (.alloc (.alloc (.refl _) _) _) hx)) hr (VM ho) (HB0.out o (VM ho)) hB1) (by rw [← aE.trs_map];exact HO1.out)).mono ?_
 rintro e w2 ⟨v2,rfl,hc2,ho2⟩
 have hx2:=OR.ext HW1.out hc2 (fun x hx=>hx.1)
 have HX2:=Lib.hid (vF.trans (.alloc (.alloc (.refl _) _) _) hx2)
 have hz:w1.heap.size≤w2.heap.size:=hc2.size
 have HO2:=Lib.hid ho2
 clear hc2 hx2 ho2
 go_wp2_with fail
 go_ret
 refine⟨_,rfl,HX2.out,?_⟩
 rw [aE.trs_map]
 have ho:=HO2.out
 simp only [Bool.not_not] at ho
 exact ho.mono fun x hx=>⟨by have h1:=hx.1;simp only [World.size_alloc] at h1;omega,by have h1:=hx.2;omega⟩
theorem anP(w:aH)(g:aF)(hw:wt w≤13000000)(hg:iV g.aD6):bS prog 155 [(aH.pv w),(aF.pv g)] (c9 ((fQ w).filter fun o=>sE w g o)):=
 bS.ofFresh rfl fun W vals hv=>by
  match vals,hv with
  | [v0,v1],hv=>
   obtain⟨c0,rfl,h0⟩:=hv.1
   obtain⟨c1,rfl,h1⟩:=hv.2.1
   exact afZ w g W c0 c1 (gY.ofTr (ts:=w.tr) (by rw [aH.tr_cs];exact h0)) (gY.ofTr (ts:=g.tr) (by rw [aF.tr_cs];exact h1)) (Nat.le_trans (V7 hw) (by decide)) (fun o ho=>Nat.le_trans (al5 hw ho) (by decide)) hg
end Go.Proofs.YtfcoaagbccmahaaGreat.W

namespace Go.Proofs.YtfcoaagbccmahaaGreat.W
set_option maxRecDepth 100000
set_option maxHeartbeats 40000000
noncomputable section
open Tryz Go.RowKit Go.Proofs
attribute [local irreducible] lt
def TY(fu:Nat)(pt:aA):J Bool:=bd (oO fu pt) fun x2=>sw (decide ((x2.length:Int)=0)) (bd (eA fu pt) fun x5=>some (!(x5))) (some false)
theorem adM(fu:Nat)(pt:aA)(r:Bool)(H:TY fu pt=some r):bS prog 34 [(aA.pv pt)] (pB r):=by
 refine qJ func34 H (fun C hC H=>?_)
 refine gQ 2 ?_;refine q1 (fN (b7 pt)) ?_;refine gQ 4 ?_;refine q1 (b5 [pI pt.aD8,pS pt.aD4,aT pt.aD5]) (bM H fun x2 z1 H=>(q1 (bI func85 (D2 fu pt _ z1)) ?_))
 refine gQ 3 ?_;refine dK 7 H (fun g3 H=>?_) fun g3 H=>?_
 ·refine qg g3 (b5 [pI pt.aD8,pS pt.aD4,aT pt.aD5]) (bM H fun x5 z4 H=>(qg g3 (bI func86 (wA fu pt _ z4)) ?_))
  exact gE 4
 exact gE 6
def FA(fu:Nat)(ps:LB)(pv:Y):Nat→Unit→J (LR Unit Int):=fun i1 _=>sw (decide (pv=aR ps i1)) (some (.ret (i1:Int))) (some (.next ()))
def t3(fu:Nat)(ps:LB)(pv:Y):J Int:=so (loopN (FA fu ps pv) (ps.length-0) 0 ()) fun _=>some (-1)
theorem RO(fu:Nat)(ps:LB)(pv:Y)(r:Int)(H:t3 fu ps pv=some r):bS prog 213 [rS ps,pS pv] (pI r):=by
 refine qJ func213 H (fun C hC H=>?_)
 refine gQ 11 ?_;refine gM 0 (b0 _) (fun hl2=>?_)
 refine bV (σ:=Unit) (fun i1 _=>⟨[(0,rS ps),(1,pS pv),(4,pI 0),(7,pN ps.length),(8,pN i1)],⟨[],[]⟩⟩) (fun _=>⟨[(4,pI 0)],⟨[],[]⟩⟩) (eX H) ?_ ?_
 ·rintro i1 ⟨⟩ H
  refine gQ 5 ?_;refine c5 H (fun h3 h3l H=>?_) (fun h3 H=>?_)
  ·refine gQ 17 ?_;refine bE H (fun h4 H=>gE 5) fun h4 H=>?_;exact gE 5
  exact gE 0
 rintro⟨⟩ H
 exact gE 4
def mD(fu:Nat)(ps:LB)(pv:Y):J Bool:=bd (t3 fu ps pv) fun x2=>some (decide (x2≥0))
theorem AG(fu:Nat)(ps:LB)(pv:Y)(r:Bool)(H:mD fu ps pv=some r):bS prog 195 [rS ps,pS pv] (pB r):=by
 refine qJ func195 H (fun C hC H=>?_)
 refine gQ 8 ?_;refine bM H fun x2 z1 H=>(q1 (bI func213 (RO fu ps pv _ z1)) ?_)
 exact gE 3
def s7(fu:Nat)(pu:aA)(c1:LB):J ((LB)):=sw (decide (pu.aD8=1)) (bd (mD fu c1 pu.aD4) fun x3=>sw (!(x3)) (gd ((c1).length+(([pu.aD4]:LB)).length≤68719476736) (some (c1++([pu.aD4]:LB)))) (some c1)) (some c1)
theorem PY(fu:Nat)(pu:aA)(c1:LB)(r:(LB))(H:s7 fu pu c1=some r):cF prog 194 [(aA.pv pu),.ptr 0 0] ⟨[some ⟨36,[aS c1 0]⟩],[⟨9,1,aY (c1),false⟩]⟩ (fun q t=>q=(.tup [])∧t=⟨[some ⟨36,[aS r 0]⟩],[⟨9,1,aY (r),false⟩]⟩):=by
 refine qJ func194 H (fun C hC H=>?_)
 refine gQ 2 ?_;refine q1 (fN (b7 pu)) ?_;refine gQ 7 ?_;refine dK 6 H (fun g1 H=>?_) fun g1 H=>?_
 ·refine gQ 3 ?_;refine bM H fun x3 z2 H=>(qg g1 (bI func195 (AG fu c1 pu.aD4 _ z2)) ?_)
  refine gQ 3 ?_;refine bE H (fun h4 H=>?_) (fun h4 H=>?_)
  ·refine gQ 4 ?_;refine q1 (iQ ([pu.aD4]:LB)) (cK H fun z5 H=>(q1 (mA z5) ?_))
   refine gQ 2 ?_
   cases wL H
   exact qe (ps:= []) ⟨rfl,rfl⟩ trivial
  refine c7.skip ?_
  cases wL H
  exact qe (ps:= []) ⟨rfl,rfl⟩ trivial
 refine gQ 9 ?_
 cases wL H
 exact qe (ps:= []) ⟨rfl,rfl⟩ trivial
abbrev jM:=aA→(LB)→Option ((LB))
def jL(m:jM):Prop:= ∀(pt:aA) (c1_0:LB) (r:(LB)),m pt c1_0=some r→cF prog 93 [(aA.pv pt),.fn 194 [.ptr 0 0]] ⟨[some ⟨36,[aS c1_0 0]⟩],[⟨9,1,aY (c1_0),false⟩]⟩ (fun q t=>q=(.tup []:PV)∧t=⟨[some ⟨36,[aS r 0]⟩],[⟨9,1,aY (r),false⟩]⟩)
def qQ(fu:Nat)(p1:jM)(pt:aA)(c1_0 x2:LB):Nat→((LB))→J (LR ((LB)) ((LB))):=fun i3 v5=>bd (p1 (aR pt.aD5 i3) v5) fun x9=>some (.next x9)
def lW(fu:Nat)(p1:jM)(pt:aA)(c1_0:LB):J ((LB)):=bd (s7 fu pt c1_0) fun x2=>so (loopN (qQ fu p1 pt c1_0 x2) (pt.aD5.length-0) 0 x2) fun v5=>some v5
theorem w5(fu:Nat)(p1:jM)(p3:jL p1):jL (lW fu p1):=by
 intro pt c1_0 r H
 refine qJ func93 H (fun C hC H=>?_)
 refine gQ 2 ?_;refine q1 (fN (b7 pt)) ?_;refine gQ 4 ?_;refine q1 (b5 [pI pt.aD8,pS pt.aD4,aT pt.aD5]) (bM H fun x2 z1 H=>(q1 (bC.callVPE (pre:=⟨[some ⟨36,[aS c1_0 0]⟩],[⟨9,1,aY (c1_0),false⟩]⟩) (st':=⟨[some ⟨36,[aS x2 0]⟩],[⟨9,1,aY (x2),false⟩]⟩) (ps:= [_]) (cs:= [.ptr 0 0]) (qs:= [(aA.pv pt),.ptr 0 0]) [0] [0] rfl rfl rfl func194 (by kernel_rfl) rfl rfl rfl (fK.of ⟨⟨_,rfl,rfl,kA,rfl⟩,trivial⟩ ⟨rfl,trivial⟩ (by decide) (by decide)) kA rfl rfl rfl (PY fu pt c1_0 _ z1)) ?_))
 refine gQ 8 ?_;refine gM 10 (aA.trs_len _) (fun hl6=>?_)
 refine bV (σ:=(LB)) (fun i3 v5=>⟨[(1,.fn 194 [.ptr 0 0]),(10,aT pt.aD5),(11,pN pt.aD5.length),(12,pN i3)],⟨[some ⟨36,[aS v5 0]⟩,some ⟨30,b7 pt⟩],[⟨9,1,aY (v5),false⟩]⟩⟩) (fun v5=>⟨[],⟨[some ⟨36,[aS v5 0]⟩,some ⟨30,b7 pt⟩],[⟨9,1,aY (v5),false⟩]⟩⟩) (eX H) ?_ ?_
 ·rintro i3 v5 H
  refine gQ 5 ?_;refine c5 H (fun h7 h7l H=>?_) (fun h7 H=>?_)
  ·refine gQ 6 ?_;refine q1 (iR (aA.cs (aR pt.aD5 i3))) ?_;refine gQ 4 ?_;refine q1 (b5 [pI ((aR pt.aD5 i3).aD8),pS ((aR pt.aD5 i3).aD4),aT ((aR pt.aD5 i3).aD5)]) (q1 bG (bM H fun x9 z8 H=>(q1 (fJ [0] [0] func93 (p3 (aR pt.aD5 i3) v5 _ z8)) ?_)))
   exact gE 5
  exact gE 0
 rintro v5 H
 cases wL H
 exact qe (ps:= []) ⟨rfl,rfl⟩ trivial
def c3:Nat→aA→(LB)→J ((LB))
 |0,_,_=>none
 |fu+1,pt,c1_0=>lW fu (c3 fu) pt c1_0
theorem yP(fu:Nat):jL (c3 fu):=by
 induction fu with
 |zero=>exact(fun pt c1_0 r H=>by simp only [c3] at H;cases H)
 |succ fu ih=>exact(fun pt c1_0 r H=>by simp only [c3] at H;exact w5 fu (c3 fu) ih pt c1_0 r H)
theorem zS(fu:Nat):jL (c3 fu):=(yP fu)
def H4(fu:Nat)(p4:Z aA):Nat→((LB))→J (LR ((LB)) ((LB))):=fun i1 v3=>bd (c3 fu (aR p4 i1) v3) fun x7=>some (.next x7)
def CH(fu:Nat)(p4:Z aA):J ((LB)):=so (loopN (H4 fu p4) (p4.length-0) 0 ([])) fun v3=>some v3
theorem UW(fu:Nat)(p4:Z aA)(r:(LB))(H:CH fu p4=some r):bS prog 169 [aT p4] (rS r):=by
 refine qJ func169 H (fun C hC H=>?_)
 refine gQ 6 ?_;refine q1 (sA ([]:LB)) ?_;refine gQ 10 ?_;refine gM 0 (aA.trs_len _) (fun hl4=>?_)
 refine bV (σ:=(LB)) (fun i1 v3=>⟨[(2,.nil),(3,.ptr 0 0),(7,aT p4),(8,pN p4.length),(9,pN i1)],⟨[some ⟨36,[aS v3 0]⟩],[⟨9,1,aY (v3),false⟩]⟩⟩) (fun v3=>⟨[(2,.nil),(3,.ptr 0 0)],⟨[some ⟨36,[aS v3 0]⟩],[⟨9,1,aY (v3),false⟩]⟩⟩) (eX H) ?_ ?_
 ·rintro i1 v3 H
  refine gQ 5 ?_;refine c5 H (fun h5 h5l H=>?_) (fun h5 H=>?_)
  ·refine gQ 6 ?_;refine q1 (iR (aA.cs (aR p4 i1))) ?_;refine gQ 4 ?_;refine q1 (b5 [pI ((aR p4 i1).aD8),pS ((aR p4 i1).aD4),aT ((aR p4 i1).aD5)]) (q1 rMf (bM H fun x7 z6 H=>(q1 (fJ [0] [0] func93 (zS fu (aR p4 i1) v3 _ z6)) ?_)))
   exact gE 5
  exact gE 0
 rintro v3 H
 exact gE 5
def s4(fu:Nat)(pt:aA):J ((LB)):=bd (CH fu ([pt]:Z aA)) fun x2=>some x2
theorem PQ(fu:Nat)(pt:aA)(r:(LB))(H:s4 fu pt=some r):bS prog 133 [(aA.pv pt)] (rS r):=by
 refine qJ func133 H (fun C hC H=>?_)
 refine gQ 2 ?_;refine q1 (fN (b7 pt)) ?_;refine gQ 4 ?_;refine q1 (b5 [pI pt.aD8,pS pt.aD4,aT pt.aD5]) (q1 (iQ ([pt]:Z aA)) (bM H fun x2 z1 H=>(q1 (bI func169 (UW fu ([pt]:Z aA) _ z1)) ?_)))
 exact gE 2
def o4(fu:Nat)(pu:aA)(c1:Bool):J Bool:=sw (c1) (some true) (some (decide (pu.aD8=3)))
theorem LG(fu:Nat)(pu:aA)(c1:Bool)(r:Bool)(H:o4 fu pu c1=some r):cF prog 94 [(aA.pv pu),.ptr 0 0] ⟨[some ⟨4,[pB c1]⟩],[]⟩ (fun q t=>q=(.tup [])∧t=⟨[some ⟨4,[pB r]⟩],[]⟩):=by
 refine qJ func94 H (fun C hC H=>?_)
 refine gQ 2 ?_;refine q1 (fN (b7 pu)) ?_;refine gQ 4 ?_;refine dK 4 H (fun g1 H=>?_) fun g1 H=>?_
 ·refine gQ 6 ?_
  cases wL H
  exact qe (ps:= []) ⟨rfl,rfl⟩ trivial
 refine gQ 6 ?_
 cases wL H
 exact qe (ps:= []) ⟨rfl,rfl⟩ trivial
abbrev iL:=aA→Bool→Option Bool
def iK(m:iL):Prop:= ∀(pt:aA) (c1_0:Bool) (r:Bool),m pt c1_0=some r→cF prog 93 [(aA.pv pt),.fn 94 [.ptr 0 0]] ⟨[some ⟨4,[pB c1_0]⟩],[]⟩ (fun q t=>q=(.tup []:PV)∧t=⟨[some ⟨4,[pB r]⟩],[]⟩)
def n9(fu:Nat)(p0:iL)(pt:aA)(c1_0 x2:Bool):Nat→Bool→J (LR Bool Bool):=fun i3 v4=>bd (p0 (aR pt.aD5 i3) v4) fun x8=>some (.next x8)
def lE(fu:Nat)(p0:iL)(pt:aA)(c1_0:Bool):J Bool:=bd (o4 fu pt c1_0) fun x2=>so (loopN (n9 fu p0 pt c1_0 x2) (pt.aD5.length-0) 0 x2) fun v4=>some v4
theorem vO(fu:Nat)(p0:iL)(p2:iK p0):iK (lE fu p0):=by
 intro pt c1_0 r H
 refine qJ func93 H (fun C hC H=>?_)
 refine gQ 2 ?_;refine q1 (fN (b7 pt)) ?_;refine gQ 4 ?_;refine q1 (b5 [pI pt.aD8,pS pt.aD4,aT pt.aD5]) (bM H fun x2 z1 H=>(q1 (bC.callVPE (pre:=⟨[some ⟨4,[pB c1_0]⟩],[]⟩) (st':=⟨[some ⟨4,[pB x2]⟩],[]⟩) (ps:= [_]) (cs:= [.ptr 0 0]) (qs:= [(aA.pv pt),.ptr 0 0]) [0] [] rfl rfl rfl func94 (by kernel_rfl) rfl rfl rfl (fK.of ⟨⟨_,rfl,rfl,kA,rfl⟩,trivial⟩ trivial (by decide) (by decide)) kA rfl rfl rfl (LG fu pt c1_0 _ z1)) ?_))
 refine gQ 8 ?_;refine gM 10 (aA.trs_len _) (fun hl5=>?_)
 refine bV (σ:=Bool) (fun i3 v4=>⟨[(1,.fn 94 [.ptr 0 0]),(10,aT pt.aD5),(11,pN pt.aD5.length),(12,pN i3)],⟨[some ⟨4,[pB v4]⟩,some ⟨30,b7 pt⟩],[]⟩⟩) (fun v4=>⟨[],⟨[some ⟨4,[pB v4]⟩,some ⟨30,b7 pt⟩],[]⟩⟩) (eX H) ?_ ?_
 ·rintro i3 v4 H
  refine gQ 5 ?_;refine c5 H (fun h6 h6l H=>?_) (fun h6 H=>?_)
  ·refine gQ 6 ?_;refine q1 (iR (aA.cs (aR pt.aD5 i3))) ?_;refine gQ 4 ?_;refine q1 (b5 [pI ((aR pt.aD5 i3).aD8),pS ((aR pt.aD5 i3).aD4),aT ((aR pt.aD5 i3).aD5)]) (q1 bG (bM H fun x8 z7 H=>(q1 (fJ [0] [] func93 (p2 (aR pt.aD5 i3) v4 _ z7)) ?_)))
   exact gE 5
  exact gE 0
 rintro v4 H
 cases wL H
 exact qe (ps:= []) ⟨rfl,rfl⟩ trivial
def cR:Nat→aA→Bool→J Bool
 |0,_,_=>none
 |fu+1,pt,c1_0=>lE fu (cR fu) pt c1_0
theorem wI(fu:Nat):iK (cR fu):=by
 induction fu with
 |zero=>exact(fun pt c1_0 r H=>by simp only [cR] at H;cases H)
 |succ fu ih=>exact(fun pt c1_0 r H=>by simp only [cR] at H;exact vO fu (cR fu) ih pt c1_0 r H)
theorem wZ(fu:Nat):iK (cR fu):=(wI fu)
def wW(fu:Nat)(pt:aA):J Bool:=bd (cR fu pt false) fun x2=>some x2
theorem PK(fu:Nat)(pt:aA)(r:Bool)(H:wW fu pt=some r):bS prog 39 [(aA.pv pt)] (pB r):=by
 refine qJ func39 H (fun C hC H=>?_)
 refine gQ 2 ?_;refine q1 (fN (b7 pt)) ?_;refine gQ 9 ?_;refine q1 (b5 [pI pt.aD8,pS pt.aD4,aT pt.aD5]) (q1 rMf (bM H fun x2 z1 H=>(q1 (fJ [1] [] func93 (wZ fu pt false _ z1)) ?_)))
 exact gE 6
def TS(fu:Nat)(pt:aA):J Bool:=bd (s4 fu pt) fun x2=>sw (decide ((x2.length:Int)=0)) (bd (wW fu pt) fun x5=>some (!(x5))) (some false)
theorem ac0(fu:Nat)(pt:aA)(r:Bool)(H:TS fu pt=some r):bS prog 78 [(aA.pv pt)] (pB r):=by
 refine qJ func78 H (fun C hC H=>?_)
 refine gQ 2 ?_;refine q1 (fN (b7 pt)) ?_;refine gQ 4 ?_;refine q1 (b5 [pI pt.aD8,pS pt.aD4,aT pt.aD5]) (bM H fun x2 z1 H=>(q1 (bI func133 (PQ fu pt _ z1)) ?_))
 refine gQ 3 ?_;refine dK 7 H (fun g3 H=>?_) fun g3 H=>?_
 ·refine qg g3 (b5 [pI pt.aD8,pS pt.aD4,aT pt.aD5]) (bM H fun x5 z4 H=>(qg g3 (bI func39 (PK fu pt _ z4)) ?_))
  exact gE 4
 exact gE 6
def nF(fu:Nat)(pa pb:aA):J Bool:=gd (Tr.bulkL (aA.tr pb)≤68719476735) (gd (iV pa) (some (mO pb pa)))
theorem wO(fu:Nat)(pa:aA)(pb:aA)(r:Bool)(H:nF fu pa pb=some r):bS prog 211 [(aA.pv pa),(aA.pv pb)] (pB r):=by
 refine qJ func211 H (fun C hC H=>?_)
 refine gQ 2 ?_;refine q1 (fN (b7 pa)) (q1 (fN (b7 pb)) ?_)
 refine gQ 4 ?_;refine q1 (b5 [pI pb.aD8,pS pb.aD4,aT pb.aD5]) (q1 (b5 [pI pa.aD8,pS pa.aD4,aT pa.aD5]) (cK H fun z1 H=>(cK H fun z2 H=>(q1 (bI func210 (TZ pb pa z1 z2)) ?_))))
 exact gE 2
def H8(fu:Nat)(pa pb:aA):J Bool:=bd (nF fu pa pb) fun x2=>sw x2 (bd (nF fu pb pa) fun x5=>some (!(x5))) (some false)
theorem ST(fu:Nat)(pa:aA)(pb:aA)(r:Bool)(H:H8 fu pa pb=some r):bS prog 186 [(aA.pv pa),(aA.pv pb)] (pB r):=by
 refine qJ func186 H (fun C hC H=>?_)
 refine gQ 2 ?_;refine q1 (fN (b7 pa)) (q1 (fN (b7 pb)) ?_)
 refine gQ 4 ?_;refine q1 (b5 [pI pa.aD8,pS pa.aD4,aT pa.aD5]) (q1 (b5 [pI pb.aD8,pS pb.aD4,aT pb.aD5]) (bM H fun x2 z1 H=>(q1 (bI func211 (wO fu pa pb _ z1)) (q1 bG ?_))))
 refine dK 8 H (fun g3 H=>?_) fun g3 H=>?_
 ·refine qg g3 (b5 [pI pb.aD8,pS pb.aD4,aT pb.aD5]) (qg g3 (b5 [pI pa.aD8,pS pa.aD4,aT pa.aD5]) (bM H fun x5 z4 H=>(qg g3 (bI func211 (wO fu pb pa _ z4)) ?_)))
  exact gE 4
 exact gE 7
def H3(fu:Nat)(pa pb:aA):J Bool:=gd (Tr.bulkL (aA.tr pb)≤68719476735) (gd (iV pa) (sw (mO pb pa) (gd (Tr.bulkL (aA.tr pa)≤68719476735) (gd (iV pb) (some (!(mO pa pb))))) (some false)))
theorem RT(fu:Nat)(pa:aA)(pb:aA)(r:Bool)(H:H3 fu pa pb=some r):bS prog 158 [(aA.pv pa),(aA.pv pb)] (pB r):=by
 refine qJ func158 H (fun C hC H=>?_)
 refine gQ 2 ?_;refine q1 (fN (b7 pa)) (q1 (fN (b7 pb)) ?_)
 refine gQ 4 ?_;refine q1 (b5 [pI pb.aD8,pS pb.aD4,aT pb.aD5]) (q1 (b5 [pI pa.aD8,pS pa.aD4,aT pa.aD5]) (cK H fun z1 H=>(cK H fun z2 H=>(q1 (bI func182 (I2 pb pa z1 z2)) (q1 bG ?_)))))
 refine dK 8 H (fun g3 H=>?_) fun g3 H=>?_
 ·refine qg g3 (b5 [pI pa.aD8,pS pa.aD4,aT pa.aD5]) (qg g3 (b5 [pI pb.aD8,pS pb.aD4,aT pb.aD5]) (cK H fun z4 H=>(cK H fun z5 H=>(qg g3 (bI func182 (I2 pa pb z4 z5)) ?_))))
  exact gE 4
 exact gE 7
end
end Go.Proofs.YtfcoaagbccmahaaGreat.W

namespace Go.Proofs.YtfcoaagbccmahaaGreat.W
attribute [local irreducible] lt
open Tryz Go.RowKit Go.WalkArith
theorem af2{α:Type}{p:α→Bool}: ∀l:Z α,(l.find? p).isSome=l.any p
 | []=>rfl
 |a::l=>by
  rw [List.find?_cons,List.any_cons]
  cases p a with
  |true=>rfl
  |false=>exact af2 l
theorem amN{α:Type}{p:α→Bool}{l:Z α}{m:J (Bool⊕Unit)}{f:Unit→J Bool}(hm:m=some (match l.find? p with|some _=> .inl true|none=> .inr ())){b:Bool}(hf:f ()=some b):so m f=some (l.any p||b):=by
 have h:=af2 (p:=p) l
 cases hq:l.find? p with
 |none=>
  rw [hq] at hm h
  rw [← h]
  exact UF hm hf
 |some x=>
  rw [hq] at hm h
  rw [← h]
  exact soL hm
def vK(l:LB)(s:Y):Bool:=l.any fun x=>decide (x=s)
theorem TB(fu:Nat)(l:LB)(s:Y):lS fu l s=some (vK l s):=by
 unfold lS
 rw [amN (l:=l) (p:=fun x=>decide (x=s)) (b:=false) ?_ rfl,Bool.or_false]
 ·rfl
 ·exact nC (p:=fun x=>decide (x=s)) (r:=fun _=>true) (fun i hi=>by unfold abV;cases decide (aR l i=s)<;>rfl)
theorem O4(fu:Nat)(l:LB)(s:Y):mD fu l s=some (vK l s):=by
 have h1:t3 fu l s=some (match l.findIdx? (fun x=>decide (s=x)) with|some i=>((i:Nat):Int)|none=> -1):=by
  unfold t3
  rw [yW (l:=l) (p:=fun x=>decide (s=x)) fun i hi=>by
   unfold FA
   cases decide (s=aR l i)<;>rfl]
  cases l.findIdx? fun x=>decide (s=x)<;>rfl
 have h2:(fun x=>decide (s=x))=fun x=>decide (x=s):=funext fun x=>decide_eq_decide.2 ⟨Eq.symm,Eq.symm⟩
 unfold mD
 refine gD h1 (congrArg some ?_)
 refine RX.trans ?_
 rw [h2]
 rfl
def BB(k:Int)(n:Y)(o:LB):LB:=if k=1 then(bif vK o n then o else o++ [n]) else o
mutual
def vsO:aA→LB→LB
 | .mk k n xs,o=>aiU xs (BB k n o)
def aiU:Z aA→LB→LB
 | [],o=>o
 |x::r,o=>aiU r (vsO x o)
end
theorem TJ: ∀(xs:Z aA) (o:LB),aiU xs o=xs.foldl (fun s x=>vsO x s) o
 | [],o=>rfl
 |x::r,o=>by rw [aiU,List.foldl_cons,TJ r]
theorem abN: ∀(l U:LB),l.Nodup→(∀x∈l,x∈U)→l.length≤U.length
 | [],U,_,_=>by simp
 |a::l,U,hn,h=>by
  rw [List.nodup_cons] at hn
  have ha:a∈U:=h a (by simp)
  have h1:=abN l (U.filter fun x=> !decide (x=a)) hn.2 fun x hx=>List.mem_filter.2 ⟨h x (List.mem_cons_of_mem _ hx),by
   have:x≠a:=fun e=>hn.1 (e ▸ hx)
   simp [this]⟩
  have h2:(U.filter fun x=> !decide (x=a)).length<U.length:=List.length_filter_lt_length_iff_exists.2 ⟨a,ha,by simp⟩
  rw [List.length_cons]
  omega
def InU(U o:LB):Prop:=o.Nodup∧ ∀x∈o,x∈U
theorem ar3{o:LB}{n:Y}(h:vK o n=false):n∉o:=fun hn=>by
 have:vK o n=true:=List.any_eq_true.2 ⟨n,hn,decide_eq_true rfl⟩
 rw [h] at this
 cases this
theorem InU.snoc{U o:LB}{n:Y}(h:InU U o)(hn:n∈U)(hh:vK o n=false):InU U (o++ [n]):=by
 refine⟨List.nodup_append.2 ⟨h.1,by simp,fun a ha b hb e=>ar3 hh ?_⟩,fun x hx=>?_⟩
 ·rw [List.mem_singleton.1 hb] at e
  exact e ▸ ha
 ·rcases List.mem_append.1 hx with h1|h1
  ·exact h.2 x h1
  ·rw [List.mem_singleton.1 h1];exact hn
theorem InU.room{U o:LB}{n:Y}(h:InU U o)(hn:n∈U)(hh:vK o n=false)(hU:U.length≤68719476736):o.length+1≤68719476736:=by
 have h1:=h.snoc hn hh
 have:=abN _ _ h1.1 h1.2
 simp only [List.length_append,List.length_singleton] at this
 omega
theorem OP{U:LB}{k:Int}{n:Y}{o:LB}(hn:k=1→n∈U)(h:InU U o):InU U (BB k n o):=by
 unfold BB
 split
 ·cases hq:vK o n with
  |true=>exact h
  |false=>exact h.snoc (hn ‹_›) hq
 ·exact h
theorem ab5{U:LB}: ∀(xs:Z aA),(∀x∈xs,∀o,Gd U x→InU U o→InU U (vsO x o))→GdL U xs→ ∀o,InU U o→InU U (aiU xs o)
 | [],_,_,o,h=>h
 |x::r,hx,hg,o,h=>by
  rw [GdL] at hg
  rw [aiU]
  exact ab5 r (fun y hy=>hx y (List.mem_cons_of_mem _ hy)) hg.2 _ (hx x (by simp) o hg.1 h)
theorem arJ{U:LB}: ∀(t:aA) (o:LB),Gd U t→InU U o→InU U (vsO t o):=by
 refine aA.ind fun k n xs ih o hg h=>?_
 rw [Gd] at hg
 rw [vsO]
 exact ab5 xs ih hg.2.2 _ (OP hg.1 h)
theorem alG: ∀t:aA,bR fun fu=> ∀U o:LB,U.length≤68719476736→Gd U t→InU U o→l9 fu t o=some (vsO t o):=by
 refine aA.ind fun k n xs ih=>?_;refine bR.succ ((bR.list ih).imp fun fu hf U o hU hg ho=>?_)
 have hg':=hg
 rw [Gd] at hg'
 simp only [l9,K7]
 have hC:OL fu (l9 fu) (.mk k n xs) o=some (.inr (BB k n o)):=by
  unfold OL BB
  simp only [aA.aD8.eq_1,aA.aD4.eq_1]
  by_cases hk:k=1
  ·rw [if_pos hk]
   refine hH (by simp [hk]) (gD (TB fu o n) ?_)
   cases hq:vK o n with
   |true=>exact fZ rfl rfl
   |false=>exact hH rfl (jC (ho.room (hg'.1 hk) hq hU) rfl)
  ·rw [if_neg hk]
   exact fZ (by simp [hk]) rfl
 have hl:=OP hg'.1 ho
 refine UF hC (UF (s:=aiU xs (BB k n o)) ?_ rfl)
 simp only [aA.aD5.eq_1]
 rw [lF (l:=xs) (g:=fun s x=>vsO x s) (fun i s=>InU U s) (fun i s hi hp=>?_) hl,TJ]
 refine⟨?_,?_⟩
 ·unfold YV
  simp only [aA.aD5.eq_1]
  exact gD (hf _ (cB hi) U s hU (yD.1 hg'.2.2 _ (cB hi)) hp) rfl
 ·exact arJ _ s (yD.1 hg'.2.2 _ (cB hi)) hp
theorem ac6: ∀t:aA,bR fun fu=> ∀U o:LB,U.length≤68719476736→Gd U t→InU U o→c3 fu t o=some (vsO t o):=by
 refine aA.ind fun k n xs ih=>?_;refine bR.succ ((bR.list ih).imp fun fu hf U o hU hg ho=>?_)
 have hg':=hg
 rw [Gd] at hg'
 simp only [c3,lW]
 have hC:s7 fu (.mk k n xs) o=some (BB k n o):=by
  unfold s7 BB
  simp only [aA.aD8.eq_1,aA.aD4.eq_1]
  by_cases hk:k=1
  ·rw [if_pos hk]
   refine hH (by simp [hk]) (gD (O4 fu o n) ?_)
   cases hq:vK o n with
   |true=>exact fZ rfl rfl
   |false=>exact hH rfl (jC (ho.room (hg'.1 hk) hq hU) rfl)
  ·rw [if_neg hk]
   exact fZ (by simp [hk]) rfl
 have hl:=OP hg'.1 ho
 refine gD hC (UF (s:=aiU xs (BB k n o)) ?_ rfl)
 simp only [aA.aD5.eq_1]
 rw [lF (l:=xs) (g:=fun s x=>vsO x s) (fun i s=>InU U s) (fun i s hi hp=>?_) hl,TJ]
 refine⟨?_,?_⟩
 ·unfold qQ
  simp only [aA.aD5.eq_1]
  exact gD (hf _ (cB hi) U s hU (yD.1 hg'.2.2 _ (cB hi)) hp) rfl
 ·exact arJ _ s (yD.1 hg'.2.2 _ (cB hi)) hp
mutual
def hpT:aA→Bool
 | .mk k _ xs=>ar5 xs||decide (k=3)
def ar5:Z aA→Bool
 | []=>false
 |x::r=>hpT x||ar5 r
end
theorem WL: ∀xs:Z aA,ar5 xs=xs.any hpT
 | []=>rfl
 |x::r=>by rw [ar5,WL r,List.any_cons]
theorem ag6: ∀t:aA,bR fun fu=>eA fu t=some (hpT t):=by
 refine aA.ind fun k n xs ih=>?_;refine bR.succ ((bR.list ih).imp fun fu hf=>?_)
 simp only [eA,tC]
 rw [amN (l:=xs) (p:=hpT) (b:=decide (k=3)) ?_ rfl,← WL]
 ·rfl
 ·simp only [aA.aD5.eq_1]
  exact nC (p:=hpT) (r:=fun _=>true) (fun i hi=>by
   unfold DV
   simp only [aA.aD5.eq_1]
   refine gD (hf _ (cB hi)) ?_
   cases hpT (aR xs i)<;>rfl)
theorem amD{α:Type}(p:α→Bool): ∀(l:Z α) (b:Bool),l.foldl (fun b x=>b||p x) b=(b||l.any p)
 | [],b=>by simp
 |a::l,b=>by rw [List.foldl_cons,amD p l,List.any_cons,Bool.or_assoc]
theorem ZS: ∀t:aA,bR fun fu=> ∀c:Bool,cR fu t c=some (c||hpT t):=by
 refine aA.ind fun k n xs ih=>?_;refine bR.succ ((bR.list ih).imp fun fu hf c=>?_)
 simp only [cR,lE]
 have hC:o4 fu (.mk k n xs) c=some (c||decide (k=3)):=by
  unfold o4
  simp only [aA.aD8.eq_1]
  cases c<;>rfl
 refine gD hC (UF (s:=((c||decide (k=3))||xs.any hpT)) ?_ ?_)
 ·simp only [aA.aD5.eq_1]
  rw [lF (l:=xs) (g:=fun s x=>s||hpT x) (fun _ _=>True) (fun i s hi _=>⟨?_,trivial⟩) trivial,amD]
  unfold n9
  simp only [aA.aD5.eq_1]
  exact gD (hf _ (cB hi) s) rfl
 ·rw [hpT,WL]
  cases c<;>cases decide (k=3)<;>simp
def vJ(t:aA):Bool:=decide ((((vsO t []).length:Nat):Int)=0)&& !hpT t
theorem adL(t:aA)(hb:iV t):bS prog 34 [(aA.pv t)] (.t (.leaf (.bool (vJ t)))):=by
 obtain⟨U,hU,hg⟩:=hb
 obtain⟨fu,h1,h2⟩:=((alG t).and (ag6 t)).get
 refine adM fu t _ ?_
 unfold TY oO vJ
 refine gD (gD (h1 U [] hU hg ⟨List.nodup_nil,fun x hx=>by simp at hx⟩) rfl) ?_
 cases hd:decide ((((vsO t []).length:Nat):Int)=0) with
 |true=>exact hH rfl (gD h2 rfl)
 |false=>exact fZ rfl rfl
theorem acZ(t:aA)(hb:iV t):bS prog 78 [(aA.pv t)] (.t (.leaf (.bool (vJ t)))):=by
 obtain⟨U,hU,hg⟩:=hb
 obtain⟨fu,h1,h2⟩:=((ac6 t).and (ZS t)).get
 refine ac0 fu t _ ?_
 have hv:s4 fu t=some (vsO t []):=by
  unfold s4 CH
  refine gD (UF (s:=vsO t []) ?_ rfl) rfl
  rw [lF (l:= [t]) (g:=fun s x=>vsO x s) (fun i s=>i=0→s= []) (fun i s hi hp=>?_) (fun _=>rfl)]
  ·rfl
  ·obtain rfl:i=0:=by simp only [List.length_cons,List.length_nil] at hi;omega
   obtain rfl:=hp rfl
   refine⟨?_,fun h=>by omega⟩
   unfold H4
   exact gD (h1 U [] hU hg ⟨List.nodup_nil,fun x hx=>by simp at hx⟩) rfl
 unfold TS vJ wW
 refine gD hv ?_
 cases hd:decide ((((vsO t []).length:Nat):Int)=0) with
 |true=>exact hH rfl (gD (gD (h2 false) rfl) (by simp))
 |false=>exact fZ rfl rfl
def FP(a b:aA):Bool:=mO b a&& !mO a b
theorem SS(a b:aA)(ha:Tr.bulkL (aA.tr a)≤68719476735)(hb:Tr.bulkL (aA.tr b)≤68719476735):bS prog 186 [(aA.pv a),(aA.pv b)] (.t (.leaf (.bool (FP a b)))):=by
 refine ST 0 a b _ ?_
 unfold H8 nF FP
 refine gD (jC hb (jC (.of ha) rfl)) ?_
 cases hd:mO b a with
 |true=>exact hH rfl (gD (jC ha (jC (.of hb) rfl)) rfl)
 |false=>exact fZ rfl rfl
theorem RS(a b:aA)(ha:Tr.bulkL (aA.tr a)≤68719476735)(hb:Tr.bulkL (aA.tr b)≤68719476735):bS prog 158 [(aA.pv a),(aA.pv b)] (.t (.leaf (.bool (FP a b)))):=by
 refine RT 0 a b _ ?_
 unfold H3 FP
 refine jC hb (jC (.of ha) ?_)
 cases hd:mO b a with
 |true=>exact hH rfl (jC ha (jC (.of hb) rfl))
 |false=>exact fZ rfl rfl
end Go.Proofs.YtfcoaagbccmahaaGreat.W

namespace Go.Proofs.YtfcoaagbccmahaaGreat.W
set_option maxRecDepth 100000
set_option maxHeartbeats 40000000
noncomputable section
open Tryz Go.RowKit Go.Proofs
attribute [local irreducible] lt
def pV(fu:Nat)(pw:aH)(pg:aF)(x2:Z aE):Nat→((Z aE))→J (LR ((Z aE)) ((Z aE))):=fun i3 v5=>gd (0≤(aR x2 i3).aEf∧((aR x2 i3).aEf).toNat<(pw.aD3).length) (lt (aR pw.aD3 (((aR x2 i3).aEf).toNat)) fun y9=>gd (0≤(aR x2 i3).aEr∧((aR x2 i3).aEr).toNat<(y9.aEg).length) (lt (aR y9.aEg (((aR x2 i3).aEr).toNat)) fun y12=>sw (decide (y12.aEb=pg.aEb)) (gd (Tr.bulkL (aA.tr y12.aEj)≤68719476735) (gd (iV pg.aD6) (sw (mO y12.aEj pg.aD6) (gd ((v5).length+(([(aR x2 i3)]:Z aE)).length≤68719476736) (some (.next (v5++([(aR x2 i3)]:Z aE))))) (some (.next v5))))) (some (.next v5))))
def mL(fu:Nat)(pw:aH)(pg:aF):J ((Z aE)):=bd (t7 fu pw) fun x2=>so (loopN (pV fu pw pg x2) (x2.length-0) 0 ([])) fun v5=>some v5
theorem GV(fu:Nat)(pw:aH)(pg:aF)(r:(Z aE))(H:mL fu pw pg=some r):bS prog 185 [(aH.pv pw),(aF.pv pg)] (c9 r):=by
 refine qJ func185 H (fun C hC H=>?_)
 refine gQ 2 ?_;refine q1 (fN ([aQ pw.aD3])) (q1 (fN (dG pg)) ?_)
 refine gQ 4 ?_;refine q1 (sA ([]:Z aE)) ?_;refine gQ 4 ?_;refine q1 (b5 [aQ pw.aD3]) (bM H fun x2 z1 H=>(q1 (bI func209 (SL fu pw _ z1)) ?_))
 refine gQ 7 ?_;refine gM 6 (aE.trs_len _) (fun hl6=>?_)
 refine bV (σ:=(Z aE)) (fun i3 v5=>⟨[(2,.ptr 0 0),(3,.ptr 1 0),(4,.nil),(5,gC v5 0),(6,c9 x2),(7,pN i3)],⟨[some ⟨26,[aQ pw.aD3]⟩,some ⟨32,dG pg⟩],[⟨52,2,aE.trs (v5),false⟩]⟩⟩) (fun v5=>⟨[(4,.nil),(5,gC v5 0)],⟨[some ⟨26,[aQ pw.aD3]⟩,some ⟨32,dG pg⟩],[⟨52,2,aE.trs (v5),false⟩]⟩⟩) (eX H) ?_ ?_
 ·rintro i3 v5 H
  refine gQ 8 ?_;refine c5 H (fun h7 h7l H=>?_) (fun h7 H=>?_)
  ·refine gQ 4 ?_;refine cK H fun z8 H=>(gI H fun y9 h10 H=>(cK H fun z11 H=>(gI H fun y12 h13 H=>(dW (dI [2] bY (dB [18] 0 1 vE (dI [6] bG (dI [7] bG (dI [20,21] rB (dI [22] zL (dI [23] yB (dI [19,24] (rIm h10 z8 anJ.h) (dI [25] zL ?_)))))))))))))
   refine dI [26] yB (dI [6] bG (dI [7] bG (dI [28,29] rB (dI [30] zL (dI [31] yB (dI [27,32] (rIm h13 z11 af1.h) (dI [33] (iR (aI.cs y12)) (dE [] tAl (mK [8,34] lT (dN ?_))))))))))
   refine gQ 8 ?_;refine dK 40 H (fun g14 H=>?_) fun g14 H=>?_
   ·refine qg g14 bY (qg g14 (b5 [pI y12.aEj.aD8,pS y12.aEj.aD4,aT y12.aEj.aD5]) (qg g14 bY (qg g14 (b5 [pI pg.aD6.aD8,pS pg.aD6.aD4,aT pg.aD6.aD5]) (cK H fun z15 H=>(cK H fun z16 H=>(qg g14 (bI func210 (TZ y12.aEj pg.aD6 z15 z16)) ?_))))))
    refine gQ 2 ?_;refine bE H (fun h17 H=>?_) (fun h17 H=>?_)
    ·refine gQ 5 ?_;refine q1 (iR (aE.cs (aR x2 i3))) (q1 (iQ ([(aR x2 i3)]:Z aE)) (cK H fun z18 H=>(q1 (mA z18) ?_)))
     exact gE 7
    exact gE 6
   exact gE 14
  exact gE 0
 rintro v5 H
 exact gE 5
def CU(fu:Nat)(p2:aH)(p1:aF)(x2:Z aE)(i3:Nat)(y7:aN)(y10:aI):Nat→Bool→J (LR Bool (LR Unit (aE×Int))):=fun i12 v13=>gd (0≤(aR x2 i12).aEf∧((aR x2 i12).aEf).toNat<(p2.aD3).length) (lt (aR p2.aD3 (((aR x2 i12).aEf).toNat)) fun y16=>gd (0≤(aR x2 i12).aEr∧((aR x2 i12).aEr).toNat<(y16.aEg).length) (lt (aR y16.aEg (((aR x2 i12).aEr).toNat)) fun y19=>sw (v13) (gd (Tr.bulkL (aA.tr y19.aEj)≤68719476735) (gd (Tr.bulkL (aA.tr y10.aEj)≤68719476735) (some (.next (!(FP y19.aEj y10.aEj)))))) (some (.next false))))
def uP(fu:Nat)(p2:aH)(p1:aF)(x2:Z aE)(i3:Nat)(y7:aN)(y10:aI):J ((LR Unit (aE×Int))⊕Bool):=loopN (CU fu p2 p1 x2 i3 y7 y10) (x2.length-0) 0 true
def CS(fu:Nat)(p2:aH)(p1:aF)(x2:Z aE)(i3:Nat)(y7:aN)(y10:aI)(v13:Bool):J ((LR Unit (aE×Int))⊕(Bool×Bool×Bool)):=sw (v13) (sw (y10.aEy) (gd (iV p1.aD6) (sw (!(vJ p1.aD6)) (some (.inl (.ret ((aE.mk 0 0),2)))) (some (.inr (y10.aEy,y10.aEy,(!(vJ p1.aD6))))))) (some (.inr (y10.aEy,y10.aEy,false)))) (some (.inr (false,false,false)))
def CT(fu:Nat)(p2:aH)(p1:aF)(x2:Z aE):Nat→Unit→J (LR Unit (aE×Int)):=fun i3 _=>gd (0≤(aR x2 i3).aEf∧((aR x2 i3).aEf).toNat<(p2.aD3).length) (lt (aR p2.aD3 (((aR x2 i3).aEf).toNat)) fun y7=>gd (0≤(aR x2 i3).aEr∧((aR x2 i3).aEr).toNat<(y7.aEg).length) (lt (aR y7.aEg (((aR x2 i3).aEr).toNat)) fun y10=>so (uP fu p2 p1 x2 i3 y7 y10) fun v13=>so (CS fu p2 p1 x2 i3 y7 y10 v13) fun(v24,v25,v26)=>sw (v13) (some (.ret ((aR x2 i3),0))) (some (.next ()))))
def rX(fu:Nat)(p2:aH)(p1:aF):J (aE×Int):=bd (mL fu p2 p1) fun x2=>so (loopN (CT fu p2 p1 x2) (x2.length-0) 0 ()) fun _=>some ((aE.mk 0 0),1)
theorem N0(fu:Nat)(p2:aH)(p1:aF)(r:aE×Int)(H:rX fu p2 p1=some r):bS prog 160 [(aH.pv p2),(aF.pv p1)] (.tup [(aE.pv r.1),pI r.2]):=by
 refine qJ func160 H (fun C hC H=>?_)
 refine gQ 2 ?_;refine q1 (fN ([aQ p2.aD3])) (q1 (fN (dG p1)) ?_)
 refine gQ 5 ?_;refine q1 (b5 [aQ p2.aD3]) (q1 (b5 [pS p1.aEb,pI p1.aD6.aD8,pS p1.aD6.aD4,aT p1.aD6.aD5]) (bM H fun x2 z1 H=>(q1 (bI func185 (GV fu p2 p1 _ z1)) ?_)))
 refine gQ 7 ?_;refine gM 6 (aE.trs_len _) (fun hl4=>?_)
 refine bV (σ:=Unit) (fun i3 _=>⟨[(2,.ptr 0 0),(3,.ptr 1 0),(4,.ptr 2 0),(5,pI 0),(6,c9 x2),(7,pN i3)],⟨[some ⟨26,[aQ p2.aD3]⟩,some ⟨32,dG p1⟩,some ⟨52,[pI 0,pI 0]⟩],[]⟩⟩) (fun _=>⟨[(4,.ptr 2 0),(5,pI 0)],⟨[some ⟨26,[aQ p2.aD3]⟩,some ⟨32,dG p1⟩,some ⟨52,[pI 0,pI 0]⟩],[]⟩⟩) (eX H) ?_ ?_
 ·rintro i3 ⟨⟩ H
  refine gQ 8 ?_;refine c5 H (fun h5 h5l H=>?_) (fun h5 H=>?_)
  ·refine gQ 4 ?_;refine cK H fun z6 H=>(gI H fun y7 h8 H=>(cK H fun z9 H=>(gI H fun y10 h11 H=>(dW (dI [2] bY (dB [21] 0 1 vE (dI [6] bG (dI [7] bG (dI [23,24] rB (dI [25] zL (dI [26] yB (dI [22,27] (rIm h8 z6 anJ.h) (dI [28] zL ?_)))))))))))))
   refine dI [29] yB (dI [6] bG (dI [7] bG (dI [31,32] rB (dI [33] zL (dI [34] yB (dI [30,35] (rIm h11 z9 af1.h) (dI [36] (iR (aI.cs y10)) (dE [] tAl (mK [8,37] lT (dN ?_))))))))))
   refine gQ 9 ?_;refine bV (σ:=Bool) (fun i12 v13=>⟨[(2,.ptr 0 0),(3,.ptr 1 0),(4,.ptr 2 0),(5,pI 0),(6,c9 x2),(7,pN i3),(8,.ptr 3 0),(9,pB v13),(10,pN i12),(15,pN i3),(16,c9 x2),(17,pN x2.length),(18,pB (decide ((i3:Int)<(x2.length:Int)))),(21,.ptr 0 0),(22,aQ p2.aD3),(23,c9 x2),(24,pN i3),(25,.eptr (aE.cs (aR x2 i3))),(26,.eptr (aE.cs (aR x2 i3))),(27,pI ((aR x2 i3).aEf)),(28,.eptr (aN.cs y7)),(29,.eptr ((aN.cs y7).drop 4)),(30,oJ y7.aEg),(31,c9 x2),(32,pN i3),(33,.eptr (aE.cs (aR x2 i3))),(34,.eptr ((aE.cs (aR x2 i3)).drop 1)),(35,pI ((aR x2 i3).aEr)),(36,.eptr (aI.cs y10)),(37,(aI.pv y10))],⟨[some ⟨26,[aQ p2.aD3]⟩,some ⟨32,dG p1⟩,some ⟨52,[pI 0,pI 0]⟩,some ⟨163,dU y10⟩],[]⟩⟩) (fun v13=>⟨[(2,.ptr 0 0),(3,.ptr 1 0),(4,.ptr 2 0),(5,pI 0),(6,c9 x2),(7,pN i3),(8,.ptr 3 0),(9,pB v13),(15,pN i3),(16,c9 x2),(17,pN x2.length),(18,pB (decide ((i3:Int)<(x2.length:Int)))),(21,.ptr 0 0),(22,aQ p2.aD3),(23,c9 x2),(24,pN i3),(25,.eptr (aE.cs (aR x2 i3))),(26,.eptr (aE.cs (aR x2 i3))),(27,pI ((aR x2 i3).aEf)),(28,.eptr (aN.cs y7)),(29,.eptr ((aN.cs y7).drop 4)),(30,oJ y7.aEg),(31,c9 x2),(32,pN i3),(33,.eptr (aE.cs (aR x2 i3))),(34,.eptr ((aE.cs (aR x2 i3)).drop 1)),(35,pI ((aR x2 i3).aEr)),(36,.eptr (aI.cs y10)),(37,(aI.pv y10))],⟨[some ⟨26,[aQ p2.aD3]⟩,some ⟨32,dG p1⟩,some ⟨52,[pI 0,pI 0]⟩,some ⟨163,dU y10⟩],[]⟩⟩) (eX H) ?_ ?_
   ·rintro i12 v13 H
    refine gQ 8 ?_;refine c5 H (fun h14 h14l H=>?_) (fun h14 H=>?_)
    ·refine gQ 4 ?_;refine cK H fun z15 H=>(gI H fun y16 h17 H=>(cK H fun z18 H=>(gI H fun y19 h20 H=>(dW (dI [2] bY (dB [44] 0 1 vE (dI [6] bG (dI [10] bG (dI [46,47] rB (dI [48] zL (dI [49] yB (dI [45,50] (rIm h17 z15 anJ.h) (dI [51] zL ?_)))))))))))))
     refine dI [52] yB (dI [6] bG (dI [10] bG (dI [54,55] rB (dI [56] zL (dI [57] yB (dI [53,58] (rIm h20 z18 af1.h) (dI [59] (iR (aI.cs y19)) (dE [] tAl (mK [11,60] lT (dN ?_))))))))))
     refine gQ 3 ?_;refine dK 62 H (fun g21 H=>?_) fun g21 H=>?_
     ·refine qg g21 bY (qg g21 (b5 [pI y19.aEj.aD8,pS y19.aEj.aD4,aT y19.aEj.aD5]) (qg g21 bY (qg g21 (b5 [pI y10.aEj.aD8,pS y10.aEj.aD4,aT y10.aEj.aD5]) (cK H fun z22 H=>(cK H fun z23 H=>(qg g21 (bI func186 (SS y19.aEj y10.aEj z22 z23)) ?_))))))
      exact gE 9
     exact gE 14
    exact gE 0
   rintro v13 H
   refine qS ?_;refine oT (σ:=Bool×Bool×Bool) (fun(v24,v25,v26)=>⟨[(2,.ptr 0 0),(3,.ptr 1 0),(4,.ptr 2 0),(5,pI 0),(6,c9 x2),(7,pN i3),(8,.ptr 3 0),(9,pB v13),(15,pN i3),(16,c9 x2),(17,pN x2.length),(18,pB (decide ((i3:Int)<(x2.length:Int)))),(21,.ptr 0 0),(22,aQ p2.aD3),(23,c9 x2),(24,pN i3),(25,.eptr (aE.cs (aR x2 i3))),(26,.eptr (aE.cs (aR x2 i3))),(27,pI ((aR x2 i3).aEf)),(28,.eptr (aN.cs y7)),(29,.eptr ((aN.cs y7).drop 4)),(30,oJ y7.aEg),(31,c9 x2),(32,pN i3),(33,.eptr (aE.cs (aR x2 i3))),(34,.eptr ((aE.cs (aR x2 i3)).drop 1)),(35,pI ((aR x2 i3).aEr)),(36,.eptr (aI.cs y10)),(37,(aI.pv y10)),(70,pB v13),(71,pB v13),(74,pB v24),(75,pB v25),(80,pB v26)],⟨[some ⟨26,[aQ p2.aD3]⟩,some ⟨32,dG p1⟩,some ⟨52,[pI 0,pI 0]⟩,some ⟨163,dU y10⟩],[]⟩⟩) (eX H) (fun H=>?_) ?_
   ·refine gQ 4 ?_;refine dK 71 H (fun g27 H=>?_) fun g27 H=>?_
    ·refine gQ 4 ?_;refine dK 75 H (fun g28 H=>?_) fun g28 H=>?_
     ·refine qg g28 bY (qg g28 (b5 [pI p1.aD6.aD8,pS p1.aD6.aD4,aT p1.aD6.aD5]) (cK H fun z29 H=>(qg g28 (bI func34 (adL p1.aD6 z29)) ?_)))
      refine gQ 3 ?_;refine bE H (fun h30 H=>?_) (fun h30 H=>?_)
      ·refine gQ 6 ?_;refine c7.ret ?_
       obtain rfl:_=r:=(lkR (skL (wL H)):)
       exact qf2
      exact gE 1
     exact gE 8
    exact gE 12
   rintro⟨v24,v25,v26⟩ H
   refine gQ 4 ?_;refine bE H (fun h31 H=>?_) (fun h31 H=>?_)
   ·refine gQ 5 ?_;refine q1 (iR (aE.cs (aR x2 i3))) ?_;exact gE 3
   exact gE 6
  exact gE 0
 rintro⟨⟩ H
 exact gE 6
def tO(fu:Nat)(p0:aE)(c1:aH)(c2:aI):J Bool:=bd (oV fu c1 p0) fun(x2,x3)=>gd (Tr.bulkL (aA.tr x2.aEj)≤68719476735) (gd (Tr.bulkL (aA.tr c2.aEj)≤68719476735) (some (FP x2.aEj c2.aEj)))
theorem I3(fu:Nat)(p0:aE)(c1:aH)(c2:aI)(r:Bool)(H:tO fu p0 c1 c2=some r):cF prog 157 [(aE.pv p0),.ptr 0 0,.ptr 1 0] ⟨[some ⟨26,[aQ c1.aD3]⟩,some ⟨163,dU c2⟩],[]⟩ (fun q t=>q=(pB r)∧t=⟨[some ⟨26,[aQ c1.aD3]⟩,some ⟨163,dU c2⟩],[]⟩):=by
 refine qJ func157 H (fun C hC H=>?_)
 refine gQ 2 ?_;refine q1 (fN ([pI p0.aEf,pI p0.aEr])) ?_;refine gQ 4 ?_;refine q1 (b5 [aQ c1.aD3]) (q1 (b5 [pI p0.aEf,pI p0.aEr]) (eO H fun x2 x3 z1 H=>(q1 (bI func118 (s6 fu c1 p0 _ z1)) ?_)))
 refine gQ 10 ?_;refine q1 (b5 [pI x2.aEj.aD8,pS x2.aEj.aD4,aT x2.aEj.aD5]) (q1 bY (q1 (b5 [pI c2.aEj.aD8,pS c2.aEj.aD4,aT c2.aEj.aD5]) (cK H fun z4 H=>(cK H fun z5 H=>(q1 (bI func158 (RS x2.aEj c2.aEj z4 z5)) ?_)))))
 exact gE 2
def jB(fu:Nat)(ps:Z aE)(c1_0:aH)(c1_1:aI):Nat→Unit→J (LR Unit Int):=fun i1 _=>bd (tO fu (aR ps i1) c1_0 c1_1) fun x5=>sw x5 (some (.ret (i1:Int))) (some (.next ()))
def eF(fu:Nat)(ps:Z aE)(c1_0:aH)(c1_1:aI):J Int:=so (loopN (jB fu ps c1_0 c1_1) (ps.length-0) 0 ()) fun _=>some (-1)
theorem n7(fu:Nat)(ps:Z aE)(c1_0:aH)(c1_1:aI)(r:Int)(H:eF fu ps c1_0 c1_1=some r):cF prog 183 [c9 ps,.fn 157 [.ptr 0 0,.ptr 1 0]] ⟨[some ⟨26,[aQ c1_0.aD3]⟩,some ⟨163,dU c1_1⟩],[]⟩ (fun q t=>q=(pI r)∧t=⟨[some ⟨26,[aQ c1_0.aD3]⟩,some ⟨163,dU c1_1⟩],[]⟩):=by
 refine qJ func183 H (fun C hC H=>?_)
 refine gQ 11 ?_;refine gM 0 (aE.trs_len _) (fun hl2=>?_)
 refine bV (σ:=Unit) (fun i1 _=>⟨[(0,c9 ps),(1,.fn 157 [.ptr 0 0,.ptr 1 0]),(4,pI 0),(7,pN ps.length),(8,pN i1)],⟨[some ⟨26,[aQ c1_0.aD3]⟩,some ⟨163,dU c1_1⟩],[]⟩⟩) (fun _=>⟨[(4,pI 0)],⟨[some ⟨26,[aQ c1_0.aD3]⟩,some ⟨163,dU c1_1⟩],[]⟩⟩) (eX H) ?_ ?_
 ·rintro i1 ⟨⟩ H
  refine gQ 5 ?_;refine c5 H (fun h3 h3l H=>?_) (fun h3 H=>?_)
  ·refine gQ 14 ?_;refine q1 (iR (aE.cs (aR ps i1))) (bM H fun x5 z4 H=>(q1 (bC.callVPE (pre:=⟨[some ⟨26,[aQ c1_0.aD3]⟩,some ⟨163,dU c1_1⟩],[]⟩) (st':=⟨[some ⟨26,[aQ c1_0.aD3]⟩,some ⟨163,dU c1_1⟩],[]⟩) (ps:= [_]) (cs:= [.ptr 0 0,.ptr 1 0]) (qs:= [(aE.pv (aR ps i1)),.ptr 0 0,.ptr 1 0]) [0,1] [] rfl rfl rfl func157 (by kernel_rfl) rfl rfl rfl (fK.of ⟨⟨_,rfl,rfl,kA,rfl⟩,⟨⟨_,rfl,rfl,kA,rfl⟩,trivial⟩⟩ trivial (by decide) (by decide)) kA rfl rfl rfl (I3 fu (aR ps i1) c1_0 c1_1 _ z4)) (qN ?_)))
   refine bE H (fun h6 H=>gE 5) fun h6 H=>?_;exact gE 5
  exact gE 0
 rintro⟨⟩ H
 exact gE 4
def cT(fu:Nat)(ps:Z aE)(c1_0:aH)(c1_1:aI):J Bool:=bd (eF fu ps c1_0 c1_1) fun x2=>some (decide (x2≥0))
theorem m5(fu:Nat)(ps:Z aE)(c1_0:aH)(c1_1:aI)(r:Bool)(H:cT fu ps c1_0 c1_1=some r):cF prog 156 [c9 ps,.fn 157 [.ptr 0 0,.ptr 1 0]] ⟨[some ⟨26,[aQ c1_0.aD3]⟩,some ⟨163,dU c1_1⟩],[]⟩ (fun q t=>q=(pB r)∧t=⟨[some ⟨26,[aQ c1_0.aD3]⟩,some ⟨163,dU c1_1⟩],[]⟩):=by
 refine qJ func156 H (fun C hC H=>?_)
 refine gQ 8 ?_;refine bM H fun x2 z1 H=>(q1 (fJ [0,1] [] func183 (n7 fu ps c1_0 c1_1 _ z1)) ?_)
 exact gE 3
def CD(fu:Nat)(pw:aH)(pg:aF):Nat→Unit→J (LR Unit (aE×Int)):=fun i3 _=>lt (aR (List.filter (fun o=>sE pw pg o) (fQ pw)) i3) fun y6=>bd (oV fu pw y6) fun(x9,x10)=>bd (cT fu (List.filter (fun o=>sE pw pg o) (fQ pw)) pw x9) fun x12=>sw x12 (some (.next ())) (sw (x9.aEy) (gd (iV pg.aD6) (sw (!(vJ pg.aD6)) (some (.ret ((aE.mk 0 0),2))) (some (.ret (y6,0))))) (some (.ret (y6,0))))
def m8(fu:Nat)(pw:aH)(pg:aF):J (aE×Int):=gd (wt pw≤13000000) (gd (iV (aF.aD6 pg)) (so (loopN (CD fu pw pg) ((List.filter (fun o=>sE pw pg o) (fQ pw)).length-0) 0 ()) fun _=>some ((aE.mk 0 0),1)))
theorem CE(fu:Nat)(pw:aH)(pg:aF)(r:aE×Int)(H:m8 fu pw pg=some r):bS prog 117 [(aH.pv pw),(aF.pv pg)] (.tup [(aE.pv r.1),pI r.2]):=by
 refine qJ func117 H (fun C hC H=>?_)
 refine gQ 2 ?_;refine q1 (fN ([aQ pw.aD3])) (q1 (fN (dG pg)) ?_)
 refine gQ 5 ?_;refine q1 (b5 [aQ pw.aD3]) (q1 (b5 [pS pg.aEb,pI pg.aD6.aD8,pS pg.aD6.aD4,aT pg.aD6.aD5]) (cK H fun z1 H=>(cK H fun z2 H=>(q1 (bI func155 (anP pw pg z1 z2)) ?_))))
 refine gQ 9 ?_;refine gM 6 (aE.trs_len _) (fun hl4=>?_)
 refine bV (σ:=Unit) (fun i3 _=>⟨[(2,.ptr 0 0),(3,.ptr 1 0),(4,.ptr 2 0),(5,pI 0),(6,c9 (List.filter (fun o=>sE pw pg o) (fQ pw))),(15,c9 (List.filter (fun o=>sE pw pg o) (fQ pw))),(16,pN ((List.filter (fun o=>sE pw pg o) (fQ pw)).length)),(17,pN i3)],⟨[some ⟨26,[aQ pw.aD3]⟩,some ⟨32,dG pg⟩,some ⟨52,[pI 0,pI 0]⟩],[]⟩⟩) (fun _=>⟨[(4,.ptr 2 0),(5,pI 0)],⟨[some ⟨26,[aQ pw.aD3]⟩,some ⟨32,dG pg⟩,some ⟨52,[pI 0,pI 0]⟩],[]⟩⟩) (eX H) ?_ ?_
 ·rintro i3 ⟨⟩ H
  refine gQ 5 ?_;refine c5 H (fun h5 h5l H=>?_) (fun h5 H=>?_)
  ·refine gQ 5 ?_;refine gI H fun y6 h7 H=>(q1 (zM h7 h5l) (q1 (iR (aE.cs y6)) ?_))
   refine gQ 5 ?_;refine q1 (b5 [aQ pw.aD3]) (q1 (b5 [pI y6.aEf,pI y6.aEr]) (eO H fun x9 x10 z8 H=>(q1 (bI func118 (s6 fu pw y6 _ z8)) ?_)))
   refine gQ 10 ?_;refine q1 rMf (bM H fun x12 z11 H=>(q1 (fJ [0,4] [] func156 (m5 fu (List.filter (fun o=>sE pw pg o) (fQ pw)) pw x9 _ z11)) ?_))
   refine gQ 7 ?_;refine bE H (fun h13 H=>?_) (fun h13 H=>?_)
   ·refine c7.exit ?_;exact gE 4
   refine gQ 7 ?_;refine dK 33 H (fun g14 H=>?_) fun g14 H=>?_
   ·refine qg g14 bY (qg g14 (b5 [pI pg.aD6.aD8,pS pg.aD6.aD4,aT pg.aD6.aD5]) (cK H fun z15 H=>(qg g14 (bI func78 (acZ pg.aD6 z15)) ?_)))
    refine gQ 3 ?_;refine bE H (fun h16 H=>gE 6) fun h16 H=>?_;refine gQ 3 ?_;refine q1 (b5 [pI y6.aEf,pI y6.aEr]) ?_;exact gE 3
   refine gQ 10 ?_;refine q1 (b5 [pI y6.aEf,pI y6.aEr]) ?_;exact gE 3
  exact gE 0
 rintro⟨⟩ H
 exact gE 6
def C7(fu:Nat)(pc:DS):J (aF×DS):=bd (lY fu pc ([gA,AD]:LB) 3) fun(x2,x3)=>lt (x3.after 8) fun d4=>sw (decide ((x3.below 8:Int)=0)) (bd (rN fu d4 2) fun(x8,x9)=>lt (x9.after ([bD,bD,jZ,eC,eB,j8,wK]:LB).length) fun d10=>lt (x9.pick ([bD,bD,jZ,eC,eB,j8,wK]:LB)) fun y12=>some ((aF.mk y12 x8),d10)) (sw (decide ((x3.below 8:Int)=1)) (bd (gW fu JN ([])) fun x16=>lt (d4.after ([bD,bD,jZ,eC,eB,j8,wK]:LB).length) fun d17=>lt (d4.pick ([bD,bD,jZ,eC,eB,j8,wK]:LB)) fun y19=>some ((aF.mk y19 x16),d17)) (sw (decide ((x3.below 8:Int)=2)) (lt (d4.after ([JN,eY,eQ]:LB).length) fun d22=>lt (d4.pick ([JN,eY,eQ]:LB)) fun y24=>bd (gW fu y24 ([])) fun x27=>bd (gW fu cM ([x27]:Z aA)) fun x29=>lt (d22.after ([bD,bD,jZ,eC,eB,j8,wK]:LB).length) fun d30=>lt (d22.pick ([bD,bD,jZ,eC,eB,j8,wK]:LB)) fun y32=>some ((aF.mk y32 x29),d30)) (lt (d4.after ([bD,bD,jZ,eC,eB,j8,wK]:LB).length) fun d34=>lt (d4.pick ([bD,bD,jZ,eC,eB,j8,wK]:LB)) fun y36=>some ((aF.mk y36 x2),d34))))
theorem aiA(fu:Nat)(pc:DS)(r:aF×DS)(H:C7 fu pc=some r):cF prog 74 [.ptr 0 0] ⟨[some ⟨133,dC pc⟩],[]⟩ (fun q t=>q=((aF.pv r.1))∧t=⟨[some ⟨133,dC r.2⟩],[]⟩):=by
 refine qJ func74 H (fun C hC H=>?_)
 refine gQ 7 ?_;refine q1 (iQ ([gA,AD]:LB)) (eO H fun x2 x3 z1 H=>(q1 (fJ [0] [] func131 (YU (QV fu) pc ([gA,AD]:LB) 3 _ z1)) ?_))
 refine gQ 7 ?_;refine gI H fun d4 h5 H=>(q1 (fJ [0] [] func73 (IF h5 (gF x3 8))) ?_)
 refine gQ 7 ?_;refine bE H (fun h6 H=>?_) (fun h6 H=>?_)
 ·refine gQ 2 ?_;refine eO H fun x8 x9 z7 H=>(q1 (fJ [0] [] func132 (xX (xW fu) d4 2 _ z7)) ?_)
  refine gQ 3 ?_;refine gI H fun d10 h11 H=>(gI H fun y12 h13 H=>(dW (dI [0] bG (dI [] (iQ ([bD,bD,jZ,eC,eB,j8,wK]:LB)) (dE [24,25] (fJ [0] [] func48 (MF h11 h13 (fM x9 ([bD,bD,jZ,eC,eB,j8,wK]:LB) (by decide)))) (dB [3] 0 1 (IM [pI x8.aD8,pS x8.aD4,aT x8.aD5]) (dI [26,27] rR (mK [2,28] lT (dN ?_)))))))))
  exact gE 0
 refine gQ 5 ?_;refine bE H (fun h14 H=>?_) (fun h14 H=>?_)
 ·refine qR (bM H fun x16 z15 H=>(q1 (bI func47 (vC (jJ fu) JN ([]) _ z15)) ?_))
  refine gQ 3 ?_;refine gI H fun d17 h18 H=>(gI H fun y19 h20 H=>(dW (dI [0] bG (dI [] (iQ ([bD,bD,jZ,eC,eB,j8,wK]:LB)) (dE [24,25] (fJ [0] [] func48 (MF h18 h20 (fM d4 ([bD,bD,jZ,eC,eB,j8,wK]:LB) (by decide)))) (dB [3] 0 1 (IM [pI x16.aD8,pS x16.aD4,aT x16.aD5]) (dI [26,27] rR (mK [2,28] lT (dN ?_)))))))))
  exact gE 0
 refine gQ 5 ?_;refine bE H (fun h21 H=>?_) (fun h21 H=>?_)
 ·refine gQ 2 ?_;refine q1 (iQ ([JN,eY,eQ]:LB)) (gI H fun d22 h23 H=>(gI H fun y24 h25 H=>(q1 (fJ [0] [] func48 (MF h23 h25 (fM d4 ([JN,eY,eQ]:LB) (by decide)))) (bM H fun x27 z26 H=>(q1 (bI func47 (vC (jJ fu) y24 ([]) _ z26)) (q1 (iQ ([x27]:Z aA)) (bM H fun x29 z28 H=>(q1 (bI func47 (vC (jJ fu) cM ([x27]:Z aA) _ z28)) ?_))))))))
  refine gQ 3 ?_;refine gI H fun d30 h31 H=>(gI H fun y32 h33 H=>(dW (dI [0] bG (dI [] (iQ ([bD,bD,jZ,eC,eB,j8,wK]:LB)) (dE [24,25] (fJ [0] [] func48 (MF h31 h33 (fM d22 ([bD,bD,jZ,eC,eB,j8,wK]:LB) (by decide)))) (dB [3] 0 1 (IM [pI x29.aD8,pS x29.aD4,aT x29.aD5]) (dI [26,27] rR (mK [2,28] lT (dN ?_)))))))))
  exact gE 0
 refine gQ 2 ?_;refine gI H fun d34 h35 H=>(gI H fun y36 h37 H=>(dW (dI [0] bG (dI [] (iQ ([bD,bD,jZ,eC,eB,j8,wK]:LB)) (dE [24,25] (fJ [0] [] func48 (MF h35 h37 (fM d4 ([bD,bD,jZ,eC,eB,j8,wK]:LB) (by decide)))) (dB [3] 0 1 (IM [pI x2.aD8,pS x2.aD4,aT x2.aD5]) (dI [26,27] rR (mK [2,28] lT (dN ?_)))))))))
 exact gE 0
abbrev A9:=aH→ByteArray→(LB)→Option ((LB))
def A8(m:A9):Prop:= ∀(pw:aH) (p1:Y) (p6:LB) (r:(LB)),m pw p1 p6=some r→cF prog 112 [(aH.pv pw),pS p1,aS p6 0] ⟨[],[⟨9,1,aY (p6),false⟩]⟩ (fun q t=>q=(aS r 0:PV)∧t=⟨[],[⟨9,1,aY (r),false⟩]⟩)
def EX(fu:Nat)(p4:A9)(pw:aH)(p1:Y)(p6:LB)(x2:aU)(x3:Int)(x4:Bool):Nat→((LB))→J (LR ((LB)) ((LB))):=fun i5 v7=>bd (lS fu v7 (aR x2.aEc i5)) fun x11=>sw (!(x11)) (gd ((v7).length+(([(aR x2.aEc i5)]:LB)).length≤68719476736) (bd (p4 pw (aR x2.aEc i5) (v7++([(aR x2.aEc i5)]:LB))) fun x15=>some (.next x15))) (some (.next v7))
def G6(fu:Nat)(p4:A9)(pw:aH)(p1:Y)(p6:LB):J ((LB)):=bd (rK fu pw p1) fun(x2,x3,x4)=>so (loopN (EX fu p4 pw p1 p6 x2 x3 x4) (x2.aEc.length-0) 0 p6) fun v7=>some v7
theorem U9(fu:Nat)(p4:A9)(pC:A8 p4):A8 (G6 fu p4):=by
 intro pw p1 p6 r H
 refine qJ func112 H (fun C hC H=>?_)
 refine gQ 2 ?_;refine q1 (fN ([aQ pw.aD3])) ?_;refine gQ 4 ?_;refine q1 (b5 [aQ pw.aD3]) (q1 bG (IC H fun x2 x3 x4 z1 H=>(q1 (bI func121 (C5 fu pw p1 _ z1)) ?_)))
 refine gQ 14 ?_;refine c7.fact (cQ 1 1 rfl rfl rfl (b0 _)) (fun hl8=>?_)
 try dsimp only at hl8
 refine bV (σ:=(LB)) (fun i5 v7=>⟨[(2,aS v7 0),(3,.ptr 0 0),(6,.nil),(7,.ptr 1 0),(10,pN i5)],⟨[some ⟨26,[aQ pw.aD3]⟩,some ⟨156,tM x2⟩],[⟨9,1,aY (v7),false⟩]⟩⟩) (fun v7=>⟨[(2,aS v7 0),(6,.nil)],⟨[some ⟨26,[aQ pw.aD3]⟩,some ⟨156,tM x2⟩],[⟨9,1,aY (v7),false⟩]⟩⟩) (eX H) ?_ ?_
 ·rintro i5 v7 H
  refine gQ 9 ?_;refine c5 H (fun h9 h9l H=>?_) (fun h9 H=>?_)
  ·refine gQ 11 ?_;refine bM H fun x11 z10 H=>(q1 (bI func153 (mW fu v7 (aR x2.aEc i5) _ z10)) ?_)
   refine gQ 2 ?_;refine bE H (fun h12 H=>?_) (fun h12 H=>?_)
   ·refine cK H fun z13 H=>(bM H fun x15 z14 H=>(dW (dB [3] 0 1 (IM [aQ pw.aD3]) (dI [7] bY (dB [34] 0 1 vE (dI [10] bG (dI [35,36] rB (dI [37] yB (dI [2] bG (dI [7] bY (dD [40] eI (dI [10] bG (dI [41,42] rB ?_)))))))))))))
    refine dI [43] yB (dI [44] (iQ ([(aR x2.aEc i5)]:LB)) (dE [39,45] (mA z13) (dE [33,38,46] (fJ [] [0] func112 (pC pw (aR x2.aEc i5) (v7++([(aR x2.aEc i5)]:LB)) _ z14)) (dI [47] bG (dN ?_)))))
    exact gE 5
   exact gE 6
  exact gE 0
 rintro v7 H
 exact gE 5
def lA:Nat→aH→Y→(LB)→J ((LB))
 |0,_,_,_=>none
 |fu+1,pw,p1,p6=>G6 fu (lA fu) pw p1 p6
theorem YH(fu:Nat):A8 (lA fu):=by
 induction fu with
 |zero=>exact(fun pw p1 p6 r H=>by simp only [lA] at H;cases H)
 |succ fu ih=>exact(fun pw p1 p6 r H=>by simp only [lA] at H;exact U9 fu (lA fu) ih pw p1 p6 r H)
theorem aaN(fu:Nat):A8 (lA fu):=(YH fu)
def rW(fu:Nat)(pw:aH)(p1:Y):J ((LB)):=bd (lA fu pw p1 ([])) fun x2=>some x2
theorem NV(fu:Nat)(pw:aH)(p1:Y)(r:(LB))(H:rW fu pw p1=some r):bS prog 57 [(aH.pv pw),pS p1] (rS r):=by
 refine qJ func57 H (fun C hC H=>?_)
 refine gQ 2 ?_;refine q1 (fN ([aQ pw.aD3])) ?_;refine gQ 4 ?_;refine q1 (b5 [aQ pw.aD3]) (q1 bG (q1 (sA ([]:LB)) (bM H fun x2 z1 H=>(q1 (fJ [] [0] func112 (aaN fu pw p1 ([]) _ z1)) ?_))))
 exact gE 2
abbrev vQ:=aH→(LB)→ByteArray→Option ((LB))
def vP(m:vQ):Prop:= ∀(pw:aH) (p6:LB) (p1:Y) (r:(LB)),m pw p6 p1=some r→cF prog 178 [(aH.pv pw),aS p6 0,pS p1] ⟨[],[⟨9,1,aY (p6),false⟩]⟩ (fun q t=>q=(aS r 0:PV)∧t=⟨[],[⟨9,1,aY (r),false⟩]⟩)
def zT(fu:Nat)(p2:vQ)(pw:aH)(p6:LB)(p1:Y)(x2:aU)(x3:Int)(x4:Bool):Nat→((LB))→J (LR ((LB)) ((LB))):=fun i5 v7=>bd (mD fu v7 (aR x2.aEc i5)) fun x11=>sw (!(x11)) (gd ((v7).length+(([(aR x2.aEc i5)]:LB)).length≤68719476736) (bd (p2 pw (v7++([(aR x2.aEc i5)]:LB)) (aR x2.aEc i5)) fun x15=>some (.next x15))) (some (.next v7))
def CG(fu:Nat)(p2:vQ)(pw:aH)(p6:LB)(p1:Y):J ((LB)):=bd (yU fu pw p1) fun(x2,x3,x4)=>so (loopN (zT fu p2 pw p6 p1 x2 x3 x4) (x2.aEc.length-0) 0 p6) fun v7=>some v7
theorem PX(fu:Nat)(p2:vQ)(pA:vP p2):vP (CG fu p2):=by
 intro pw p6 p1 r H
 refine qJ func178 H (fun C hC H=>?_)
 refine gQ 2 ?_;refine q1 (fN ([aQ pw.aD3])) ?_;refine gQ 4 ?_;refine q1 (b5 [aQ pw.aD3]) (q1 bG (IC H fun x2 x3 x4 z1 H=>(q1 (bI func115 (FK fu pw p1 _ z1)) ?_)))
 refine gQ 17 ?_;refine gM 20 (b0 _) (fun hl8=>?_)
 try dsimp only at hl8
 refine bV (σ:=(LB)) (fun i5 v7=>⟨[(1,aS v7 0),(3,.ptr 0 0),(6,.nil),(20,rS x2.aEc),(21,pN x2.aEc.length),(22,pN i5)],⟨[some ⟨26,[aQ pw.aD3]⟩,some ⟨156,tM x2⟩],[⟨9,1,aY (v7),false⟩]⟩⟩) (fun v7=>⟨[(1,aS v7 0),(6,.nil)],⟨[some ⟨26,[aQ pw.aD3]⟩,some ⟨156,tM x2⟩],[⟨9,1,aY (v7),false⟩]⟩⟩) (eX H) ?_ ?_
 ·rintro i5 v7 H
  refine gQ 5 ?_;refine c5 H (fun h9 h9l H=>?_) (fun h9 H=>?_)
  ·refine gQ 13 ?_;refine bM H fun x11 z10 H=>(q1 (bI func195 (AG fu v7 (aR x2.aEc i5) _ z10)) ?_)
   refine gQ 2 ?_;refine bE H (fun h12 H=>?_) (fun h12 H=>?_)
   ·refine cK H fun z13 H=>(bM H fun x15 z14 H=>(dW (dB [3] 0 1 (IM [aQ pw.aD3]) (dI [1] bG (dI [11] bG (dI [32] (iQ ([(aR x2.aEc i5)]:LB)) (dE [31,33] (mA z13) (dI [11] bG (dE [30,34,35] (fJ [] [0] func178 (pA pw (v7++([(aR x2.aEc i5)]:LB)) (aR x2.aEc i5) _ z14)) (dI [36] bG (dN ?_)))))))))))
    exact gE 4
   exact gE 5
  exact gE 0
 rintro v7 H
 exact gE 5
def iT:Nat→aH→(LB)→Y→J ((LB))
 |0,_,_,_=>none
 |fu+1,pw,p6,p1=>CG fu (iT fu) pw p6 p1
theorem RZ(fu:Nat):vP (iT fu):=by
 induction fu with
 |zero=>exact(fun pw p6 p1 r H=>by simp only [iT] at H;cases H)
 |succ fu ih=>exact(fun pw p6 p1 r H=>by simp only [iT] at H;exact PX fu (iT fu) ih pw p6 p1 r H)
theorem UV(fu:Nat):vP (iT fu):=(RZ fu)
def rT(fu:Nat)(pw:aH)(p1:Y):J ((LB)):=bd (iT fu pw ([]) p1) fun x2=>some x2
theorem M5(fu:Nat)(pw:aH)(p1:Y)(r:(LB))(H:rT fu pw p1=some r):bS prog 147 [(aH.pv pw),pS p1] (rS r):=by
 refine qJ func147 H (fun C hC H=>?_)
 refine gQ 2 ?_;refine q1 (fN ([aQ pw.aD3])) ?_;refine gQ 4 ?_;refine q1 (b5 [aQ pw.aD3]) (q1 bG (bM H fun x2 z1 H=>(q1 (bC.callF (res:=rS x2) (ps:= [_,_,_]) (qs:= [(aH.pv pw),.nil,pS p1]) rfl rfl func178 (by kernel_rfl) rfl rfl kA rfl rfl (cF.regNil (l1:= [(aH.pv pw)]) (l2:= [pS p1]) (E:=9) (sz:=1) (q:=rS x2) (by decide) (UV fu pw ([]) p1 _ z1) kA rfl)) ?_)))
 exact gE 2
abbrev zG:=aH→ByteArray→ByteArray→Int→Option ((List Int)×Bool)
def D8(m:zG):Prop:= ∀(pw:aH) (p0:Y) (p9:Y) (p7:Int) (r:(Z Int)×Bool),m pw p0 p9 p7=some r→bS prog 113 [(aH.pv pw),pS p0,pS p9,pI p7] (.tup [rI r.1,pB r.2]:PV)
def A7(fu:Nat)(p3:zG)(pw:aH)(p0 p9:Y)(p7:Int)(x3:aU)(x4:Int)(x5:Bool):Nat→Unit→J (LR Unit ((Z Int)×Bool)):=fun i6 _=>sw (decide (p7>0)) (bd (p3 pw (aR x3.aEc i6) p9 (aW (p7-1))) fun(x11,x12)=>sw x12 (gd ((([(i6:Int)]:Z Int)).length+x11.length≤68719476736) (some (.ret ((([(i6:Int)]:Z Int)++x11),true)))) (some (.next ()))) (some (.brk ()))
def wE(fu:Nat)(p3:zG)(pw:aH)(p0 p9:Y)(p7:Int)(x3:aU)(x4:Int)(x5:Bool):J (((Z Int)×Bool)⊕Unit):=loopN (A7 fu p3 pw p0 p9 p7 x3 x4 x5) (x3.aEc.length-0) 0 ()
def D7(fu:Nat)(p3:zG)(pw:aH)(p0 p9:Y)(p7:Int):J ((Z Int)×Bool):=sw (decide (p0=p9)) (some (([]),true)) (bd (rK fu pw p0) fun(x3,x4,x5)=>so (wE fu p3 pw p0 p9 p7 x3 x4 x5) fun _=>some (([]),false))
theorem YG(fu:Nat)(p3:zG)(pD:D8 p3):D8 (D7 fu p3):=by
 intro pw p0 p9 p7 r H
 refine qJ func113 H (fun C hC H=>?_)
 refine gQ 2 ?_;refine q1 (fN ([aQ pw.aD3])) ?_;refine gQ 10 ?_;refine bE H (fun h1 H=>?_) (fun h1 H=>?_)
 ·refine gQ 2 ?_;refine q1 (sA ([]:Z Int)) ?_;exact gE 3
 refine gQ 3 ?_;refine q1 (b5 [aQ pw.aD3]) (q1 bG (IC H fun x3 x4 x5 z2 H=>(q1 (bI func121 (C5 fu pw p0 _ z2)) ?_)))
 refine gQ 14 ?_;refine c7.fact (cQ 1 1 rfl rfl rfl (b0 _)) (fun hl7=>?_)
 try dsimp only at hl7
 refine bV (σ:=Unit) (fun i6 _=>⟨[(2,pS p9),(3,pI p7),(4,.ptr 0 0),(8,.nil),(9,pB false),(10,.ptr 1 0),(13,pN i6)],⟨[some ⟨26,[aQ pw.aD3]⟩,some ⟨156,tM x3⟩],[]⟩⟩) (fun _=>⟨[(8,.nil),(9,pB false)],⟨[some ⟨26,[aQ pw.aD3]⟩,some ⟨156,tM x3⟩],[]⟩⟩) (eX H) ?_ ?_
 ·rintro i6 ⟨⟩ H
  refine gQ 9 ?_;refine AL.splitB 32 rfl (fun g8=>?_) (fun g8=>?_)
  ·have g8l:=xF g8
   have H:=lnT g8l H
   have g8n:=BH g8
   refine gQ 4 ?_;refine bE H (fun h9 H=>?_) (fun h9 H=>?_)
   ·refine gQ 4 ?_;refine eO H fun x11 x12 z10 H=>(dW (dD [4] (b5 [aQ pw.aD3]) (dI [10] bY (dD [40] eI (dI [13] bG (dI [41,42] rB (dI [43] yB (dI [2] bG (dI [3] bG (dI [46] rSw (dI [39,44,45,47] (bI func113 (pD pw (aR x3.aEc i6) p9 (aW (p7-1)) _ z10)) (dI [48] bG ?_))))))))))))
    iterate 2 refine dI [38] rEx ?_
    refine dI [49] bG (dI [50] bG (dN ?_))
    refine gQ 4 ?_;refine bE H (fun h13 H=>?_) (fun h13 H=>?_)
    ·refine gQ 3 ?_;refine q1 (sA ([(i6:Int)]:Z Int)) (q1 bG (cK H fun z14 H=>(q1 (mA z14) ?_)))
     exact gE 3
    exact gE 6
   exact gE 0
  have H:=lnE (xE g8) H
  exact gE 5
 rintro⟨⟩ H
 refine gQ 2 ?_;refine q1 (sA ([]:Z Int)) ?_;exact gE 3
def jH:Nat→aH→Y→Y→Int→J ((Z Int)×Bool)
 |0,_,_,_,_=>none
 |fu+1,pw,p0,p9,p7=>D7 fu (jH fu) pw p0 p9 p7
theorem aaM(fu:Nat):D8 (jH fu):=by
 induction fu with
 |zero=>exact(fun pw p0 p9 p7 r H=>by simp only [jH] at H;cases H)
 |succ fu ih=>exact(fun pw p0 p9 p7 r H=>by simp only [jH] at H;exact YG fu (jH fu) ih pw p0 p9 p7 r H)
theorem aeH(fu:Nat):D8 (jH fu):=(aaM fu)
def nI(fu:Nat)(pw:aH)(p0 p9:Y):J ((Z Int)×Bool):=bd (jH fu pw p0 p9 8) fun(x2,x3)=>some (x2,x3)
theorem CV(fu:Nat)(pw:aH)(p0:Y)(p9:Y)(r:(Z Int)×Bool)(H:nI fu pw p0 p9=some r):bS prog 58 [(aH.pv pw),pS p0,pS p9] (.tup [rI r.1,pB r.2]):=by
 refine qJ func58 H (fun C hC H=>?_)
 refine gQ 2 ?_;refine q1 (fN ([aQ pw.aD3])) ?_;refine gQ 5 ?_;refine q1 (b5 [aQ pw.aD3]) ?_;refine gQ 2 ?_;refine eO H fun x2 x3 z1 H=>(q1 (bI func113 (aeH fu pw p0 p9 8 _ z1)) ?_)
 exact gE 5
abbrev FI:=aH→ByteArray→ByteArray→Int→Option ((List Int)×Bool)
def KI(m:FI):Prop:= ∀(pw:aH) (p0:Y) (p9:Y) (p8:Int) (r:(Z Int)×Bool),m pw p0 p9 p8=some r→bS prog 154 [(aH.pv pw),pS p0,pS p9,pI p8] (.tup [rI r.1,pB r.2]:PV)
def M9(fu:Nat)(p5:FI)(pw:aH)(p0 p9:Y)(p8:Int)(x4:aU)(x5:Int)(x6:Bool):Nat→Unit→J (LR Unit ((Z Int)×Bool)):=fun i7 _=>bd (p5 pw (aR x4.aEc i7) p9 (aW (p8-1))) fun(x11,x12)=>sw x12 (gd ((([(i7:Int)]:Z Int)).length+x11.length≤68719476736) (some (.ret ((([(i7:Int)]:Z Int)++x11),true)))) (some (.next ()))
def NA(fu:Nat)(p5:FI)(pw:aH)(p0 p9:Y)(p8:Int)(x4:aU)(x5:Int)(x6:Bool):J (((Z Int)×Bool)⊕Unit):=loopN (M9 fu p5 pw p0 p9 p8 x4 x5 x6) (x4.aEc.length-0) 0 ()
def KH(fu:Nat)(p5:FI)(pw:aH)(p0 p9:Y)(p8:Int):J ((Z Int)×Bool):=sw (decide (p0=p9)) (some (([]),true)) (sw (decide (p8=0)) (some ([],false)) (bd (yU fu pw p0) fun(x4,x5,x6)=>so (NA fu p5 pw p0 p9 p8 x4 x5 x6) fun _=>some ([],false)))
theorem ac8(fu:Nat)(p5:FI)(pE:KI p5):KI (KH fu p5):=by
 intro pw p0 p9 p8 r H
 refine qJ func154 H (fun C hC H=>?_)
 refine gQ 2 ?_;refine q1 (fN ([aQ pw.aD3])) ?_;refine gQ 10 ?_;refine bE H (fun h1 H=>?_) (fun h1 H=>?_)
 ·refine gQ 2 ?_;refine q1 (sA ([]:Z Int)) ?_;exact gE 3
 refine gQ 7 ?_;refine bE H (fun h2 H=>gE 5) fun h2 H=>?_;refine gQ 3 ?_;refine q1 (b5 [aQ pw.aD3]) (q1 bG (IC H fun x4 x5 x6 z3 H=>(q1 (bI func115 (FK fu pw p0 _ z3)) ?_)))
 refine gQ 17 ?_;refine gM 31 (b0 _) (fun hl8=>?_)
 try dsimp only at hl8
 refine bV (σ:=Unit) (fun i7 _=>⟨[(2,pS p9),(3,pI p8),(4,.ptr 0 0),(8,.nil),(9,pB false),(31,rS x4.aEc),(32,pN x4.aEc.length),(33,pN i7)],⟨[some ⟨26,[aQ pw.aD3]⟩,some ⟨156,tM x4⟩],[]⟩⟩) (fun _=>⟨[(8,.nil),(9,pB false)],⟨[some ⟨26,[aQ pw.aD3]⟩,some ⟨156,tM x4⟩],[]⟩⟩) (eX H) ?_ ?_
 ·rintro i7 ⟨⟩ H
  refine gQ 5 ?_;refine c5 H (fun h9 h9l H=>?_) (fun h9 H=>?_)
  ·refine gQ 13 ?_;refine q1 (b5 [aQ pw.aD3]) ?_;refine gQ 4 ?_;refine eO H fun x11 x12 z10 H=>(q1 (bI func154 (pE pw (aR x4.aEc i7) p9 (aW (p8-1)) _ z10)) ?_)
   refine gQ 10 ?_;refine bE H (fun h13 H=>?_) (fun h13 H=>?_)
   ·refine gQ 3 ?_;refine q1 (sA ([(i7:Int)]:Z Int)) (q1 bG (cK H fun z14 H=>(q1 (mA z14) ?_)))
    exact gE 3
   exact gE 5
  exact gE 0
 rintro⟨⟩ H
 exact gE 5
def mR:Nat→aH→Y→Y→Int→J ((Z Int)×Bool)
 |0,_,_,_,_=>none
 |fu+1,pw,p0,p9,p8=>KH fu (mR fu) pw p0 p9 p8
theorem agG(fu:Nat):KI (mR fu):=by
 induction fu with
 |zero=>exact(fun pw p0 p9 p8 r H=>by simp only [mR] at H;cases H)
 |succ fu ih=>exact(fun pw p0 p9 p8 r H=>by simp only [mR] at H;exact ac8 fu (mR fu) ih pw p0 p9 p8 r H)
theorem ajS(fu:Nat):KI (mR fu):=(agG fu)
def lK(fu:Nat)(pw:aH)(p0 p9:Y):J ((Z Int)×Bool):=bd (mR fu pw p0 p9 8) fun(x2,x3)=>some (x2,x3)
theorem CF(fu:Nat)(pw:aH)(p0:Y)(p9:Y)(r:(Z Int)×Bool)(H:lK fu pw p0 p9=some r):bS prog 116 [(aH.pv pw),pS p0,pS p9] (.tup [rI r.1,pB r.2]):=by
 refine qJ func116 H (fun C hC H=>?_)
 refine gQ 2 ?_;refine q1 (fN ([aQ pw.aD3])) ?_;refine gQ 5 ?_;refine q1 (b5 [aQ pw.aD3]) ?_;refine gQ 2 ?_;refine eO H fun x2 x3 z1 H=>(q1 (bI func154 (ajS fu pw p0 p9 8 _ z1)) ?_)
 exact gE 5
def aeI(fu:Nat)(pc d1:DS):Nat→((Z aF)×DS)→J (LR ((Z aF)×DS) ((Z aF)×DS)):=fun i3 (v6,v5)=>lt (v5.after ([bD,eC,eB]:LB).length) fun d9=>lt (v5.pick ([bD,eC,eB]:LB)) fun y11=>lt (d9.after ([gA,AD]:LB).length) fun d13=>lt (d9.pick ([gA,AD]:LB)) fun y15=>bd (nN fu y15) fun x18=>gd ((v6).length+(([(aF.mk y11 x18)]:Z aF)).length≤68719476736) (some (.next ((v6++([(aF.mk y11 x18)]:Z aF)),d13)))
def JV(fu:Nat)(pc:DS):J ((Z aF)×DS):=lt (pc.after 3) fun d1=>so (loopN (aeI fu pc d1) (pc.below 3-0) 0 (([]),d1)) fun(v6,v5)=>some (v6,v5)
theorem aeJ(fu:Nat)(pc:DS)(r:(Z aF)×DS)(H:JV fu pc=some r):cF prog 87 [.ptr 0 0] ⟨[some ⟨133,dC pc⟩],[]⟩ (fun q t=>q=(cP r.1)∧t=⟨[some ⟨133,dC r.2⟩],[]⟩):=by
 refine qJ func87 H (fun C hC H=>?_)
 refine gQ 6 ?_;refine q1 (sA ([]:Z aF)) ?_;refine gQ 5 ?_;refine gI H fun d1 h2 H=>(q1 (fJ [0] [] func73 (IF h2 (gF pc 3))) ?_)
 refine gQ 7 ?_
 have hb7:=DS.below_lt (d:=pc) (n:=3) (by decide)
 refine bV (σ:=(Z aF)×DS) (fun i3 (v6,v5)=>⟨[(0,.ptr 0 0),(2,.nil),(3,acK v6 0),(4,pN (pc.below 3)),(5,pN i3)],⟨[some ⟨133,dC v5⟩],[⟨32,4,aF.trs (v6),false⟩]⟩⟩) (fun(v6,v5)=>⟨[(2,.nil),(3,acK v6 0)],⟨[some ⟨133,dC v5⟩],[⟨32,4,aF.trs (v6),false⟩]⟩⟩) (eX H) ?_ ?_
 ·rintro i3 ⟨v6,v5⟩ H
  refine gQ 7 ?_;refine c5 H (fun h8 h8l H=>?_) (fun h8 H=>?_)
  ·have h8n:i3<pc.below 3:=by have:=of_decide_eq_true h8;omega
   refine gQ 6 ?_;refine q1 (iQ ([bD,eC,eB]:LB)) (gI H fun d9 h10 H=>(gI H fun y11 h12 H=>(q1 (fJ [0] [] func48 (MF h10 h12 (fM v5 ([bD,eC,eB]:LB) (by decide)))) (q1 bG (q1 (iQ ([gA,AD]:LB)) (gI H fun d13 h14 H=>(gI H fun y15 h16 H=>(q1 (fJ [0] [] func48 (MF h14 h16 (fM d9 ([gA,AD]:LB) (by decide)))) (bM H fun x18 z17 H=>(q1 (bI func137 (lO (kX fu) y15 _ z17)) (q1 rR (q1 (iQ ([(aF.mk y11 x18)]:Z aF)) (cK H fun z19 H=>?_)))))))))))))
   refine q1 (mA z19) ?_;exact gE 7
  exact gE 0
 rintro⟨v6,v5⟩ H
 exact gE 5
def t8(fu:Nat)(p3:aH)(p1:Z aF)(i1:Nat)(v3:Z aJ)(x9:LB):Nat→((Z aJ))→J (LR ((Z aJ)) (LR ((Z aJ)) ((Z aJ)))):=fun i10 v12=>bd (nI fu p3 ((aR p1 i1).aEb) (aR x9 i10)) fun(x16,x17)=>gd ((v12).length+(([(aJ.mk (aF.mk (aR x9 i10) ((aR p1 i1).aD6)) (i1:Int) x16)]:Z aJ)).length≤68719476736) (some (.next (v12++([(aJ.mk (aF.mk (aR x9 i10) ((aR p1 i1).aD6)) (i1:Int) x16)]:Z aJ))))
def AA(fu:Nat)(p3:aH)(p1:Z aF):Nat→((Z aJ))→J (LR ((Z aJ)) ((Z aJ))):=fun i1 v3=>gd (iV ((aR p1 i1).aD6)) (gd ((v3).length+(([(aJ.mk (aF.mk ((aR p1 i1).aEb) ((aR p1 i1).aD6)) (i1:Int) [])]:Z aJ)).length≤68719476736) (bd (rW fu p3 ((aR p1 i1).aEb)) fun x9=>so (loopN (t8 fu p3 p1 i1 v3 x9) (x9.length-0) 0 (v3++([(aJ.mk (aF.mk ((aR p1 i1).aEb) ((aR p1 i1).aD6)) (i1:Int) [])]:Z aJ))) fun v12=>some (.next v12)))
def vX(fu:Nat)(p3:aH)(p1:Z aF):J ((Z aJ)):=so (loopN (AA fu p3 p1) (p1.length-0) 0 ([])) fun v3=>some v3
theorem UY(fu:Nat)(p3:aH)(p1:Z aF)(r:(Z aJ))(H:vX fu p3 p1=some r):bS prog 15 [(aH.pv p3),cP p1] (bZ r):=by
 refine qJ func15 H (fun C hC H=>?_)
 refine gQ 2 ?_;refine q1 (fN ([aQ p3.aD3])) ?_;refine gQ 4 ?_;refine q1 (sA ([]:Z aJ)) ?_;refine gQ 7 ?_;refine gM 1 (aF.trs_len _) (fun hl4=>?_)
 try dsimp only at hl4
 refine bV (σ:=(Z aJ)) (fun i1 v3=>⟨[(1,cP p1),(2,.ptr 0 0),(4,.nil),(5,f6 v3 0),(6,pN i1)],⟨[some ⟨26,[aQ p3.aD3]⟩],[⟨99,6,aJ.trs (v3),false⟩]⟩⟩) (fun v3=>⟨[(4,.nil),(5,f6 v3 0)],⟨[some ⟨26,[aQ p3.aD3]⟩],[⟨99,6,aJ.trs (v3),false⟩]⟩⟩) (eX H) ?_ ?_
 ·rintro i1 v3 H
  refine gQ 8 ?_;refine c5 H (fun h5 h5l H=>?_) (fun h5 H=>?_)
  ·refine gQ 4 ?_;refine cK H fun z6 H=>(cK H fun z7 H=>(dW (dI [5] bG (dI [1] bG (dI [6] bG (dI [19,20] rB (dI [21] zL (dI [22] yB (dI [1] bG (dI [6] bG (dI [24,25] rB (dI [26] zL (dI [27] (iR (aA.cs ((aR p1 i1).aD6))) ?_)))))))))))))
   refine dI [28] (bI func56 (HV ((aR p1 i1).aD6) z6)) (dI [23,29] rR (dI [6] bG (dI [30,31] rR (dI [32] (iQ ([(aJ.mk (aF.mk ((aR p1 i1).aEb) ((aR p1 i1).aD6)) (i1:Int) [])]:Z aJ)) (dE [18,33] (mA z7) (dI [34] bG (dN (qS (bM H fun x9 z8 H=>(dW (dD [2] (b5 [aQ p3.aD3]) (dI [1] bG (dI [6] bG ?_)))))))))))))
   refine dI [36,37] rB (dI [38] zL (dI [39] yB (dI [35,40] (bI func57 (NV fu p3 ((aR p1 i1).aEb) _ z8)) (dI [41] bG (dN ?_)))))
   refine gQ 4 ?_;refine gM 7 (b0 _) (fun hl13=>?_)
   try dsimp only at hl13
   refine bV (σ:=(Z aJ)) (fun i10 v12=>⟨[(1,cP p1),(2,.ptr 0 0),(4,.nil),(5,f6 v12 0),(6,pN i1),(7,rS x9),(8,pN i10),(12,pN i1),(13,cP p1),(14,pN p1.length),(15,pB (decide ((i1:Int)<(p1.length:Int)))),(18,f6 v3 0),(19,cP p1),(20,pN i1),(21,.eptr (aF.cs (aR p1 i1))),(22,.eptr (aF.cs (aR p1 i1))),(23,pS ((aR p1 i1).aEb)),(24,cP p1),(25,pN i1),(26,.eptr (aF.cs (aR p1 i1))),(27,.eptr ((aF.cs (aR p1 i1)).drop 1)),(28,(aA.pv ((aR p1 i1).aD6))),(29,(aA.pv ((aR p1 i1).aD6))),(30,.agg [pS ((aR p1 i1).aEb),pI (((aR p1 i1).aD6).aD8),pS (((aR p1 i1).aD6).aD4),aT (((aR p1 i1).aD6).aD5)]),(31,pN i1),(32,.agg [pS ((aR p1 i1).aEb),pI (((aR p1 i1).aD6).aD8),pS (((aR p1 i1).aD6).aD4),aT (((aR p1 i1).aD6).aD5),pN i1,.nil]),(33,bZ ([(aJ.mk (aF.mk ((aR p1 i1).aEb) ((aR p1 i1).aD6)) (i1:Int) [])]:Z aJ)),(34,f6 (v3++([(aJ.mk (aF.mk ((aR p1 i1).aEb) ((aR p1 i1).aD6)) (i1:Int) [])]:Z aJ)) 0),(35,(aH.pv p3)),(36,cP p1),(37,pN i1),(38,.eptr (aF.cs (aR p1 i1))),(39,.eptr (aF.cs (aR p1 i1))),(40,pS ((aR p1 i1).aEb)),(41,rS x9)],⟨[some ⟨26,[aQ p3.aD3]⟩],[⟨99,6,aJ.trs (v12),false⟩]⟩⟩) (fun v12=>⟨[(1,cP p1),(2,.ptr 0 0),(4,.nil),(5,f6 v12 0),(6,pN i1),(7,rS x9),(12,pN i1),(13,cP p1),(14,pN p1.length),(15,pB (decide ((i1:Int)<(p1.length:Int)))),(18,f6 v3 0),(19,cP p1),(20,pN i1),(21,.eptr (aF.cs (aR p1 i1))),(22,.eptr (aF.cs (aR p1 i1))),(23,pS ((aR p1 i1).aEb)),(24,cP p1),(25,pN i1),(26,.eptr (aF.cs (aR p1 i1))),(27,.eptr ((aF.cs (aR p1 i1)).drop 1)),(28,(aA.pv ((aR p1 i1).aD6))),(29,(aA.pv ((aR p1 i1).aD6))),(30,.agg [pS ((aR p1 i1).aEb),pI (((aR p1 i1).aD6).aD8),pS (((aR p1 i1).aD6).aD4),aT (((aR p1 i1).aD6).aD5)]),(31,pN i1),(32,.agg [pS ((aR p1 i1).aEb),pI (((aR p1 i1).aD6).aD8),pS (((aR p1 i1).aD6).aD4),aT (((aR p1 i1).aD6).aD5),pN i1,.nil]),(33,bZ ([(aJ.mk (aF.mk ((aR p1 i1).aEb) ((aR p1 i1).aD6)) (i1:Int) [])]:Z aJ)),(34,f6 (v3++([(aJ.mk (aF.mk ((aR p1 i1).aEb) ((aR p1 i1).aD6)) (i1:Int) [])]:Z aJ)) 0),(35,(aH.pv p3)),(36,cP p1),(37,pN i1),(38,.eptr (aF.cs (aR p1 i1))),(39,.eptr (aF.cs (aR p1 i1))),(40,pS ((aR p1 i1).aEb)),(41,rS x9)],⟨[some ⟨26,[aQ p3.aD3]⟩],[⟨99,6,aJ.trs (v12),false⟩]⟩⟩) (eX H) ?_ ?_
   ·rintro i10 v12 H
    refine gQ 8 ?_;refine c5 H (fun h14 h14l H=>?_) (fun h14 H=>?_)
    ·refine gQ 4 ?_;refine eO H fun x16 x17 z15 H=>(dW (dD [2] (b5 [aQ p3.aD3]) (dI [1] bG (dI [6] bG (dI [50,51] rB (dI [52] zL (dI [53] yB (dI [7] bG (dI [8] bG (dI [55,56] rB (dI [57] yB (dI [49,54,58] (bI func58 (CV fu p3 ((aR p1 i1).aEb) (aR x9 i10) _ z15)) (dI [59] bG ?_)))))))))))))
     iterate 2 refine dI [48] rEx ?_
     refine dI [60] bG (dI [61] bG (dN (cK H fun z18 H=>(dW (dI [5] bG (dI [7] bG (dI [8] bG (dI [63,64] rB (dI [65] yB (dI [1] bG (dI [6] bG (dI [67,68] rB (dI [69] zL ?_)))))))))))))
     refine dI [70] (iR (aA.cs ((aR p1 i1).aD6))) (dI [71] (bI func56 (HV ((aR p1 i1).aD6) z6)) (dI [66,72] rR (dI [6] bG (dI [9] bG (dI [73,74,75] rR (dI [76] (iQ ([(aJ.mk (aF.mk (aR x9 i10) ((aR p1 i1).aD6)) (i1:Int) x16)]:Z aJ)) (dE [62,77] (mA z18) (dI [78] bG (dN ?_)))))))))
     exact gE 5
    exact gE 0
   rintro v12 H
   exact gE 5
  exact gE 0
 rintro v3 H
 exact gE 5
def t6(fu:Nat)(pw:aH)(p0:Z aF)(i1:Nat)(v3:Z aJ)(x9:LB):Nat→((Z aJ))→J (LR ((Z aJ)) (LR ((Z aJ)) ((Z aJ)))):=fun i10 v12=>bd (lK fu pw ((aR p0 i1).aEb) (aR x9 i10)) fun(x16,x17)=>gd ((v12).length+(([(aJ.mk (aF.mk (aR x9 i10) ((aR p0 i1).aD6)) (i1:Int) x16)]:Z aJ)).length≤68719476736) (some (.next (v12++([(aJ.mk (aF.mk (aR x9 i10) ((aR p0 i1).aD6)) (i1:Int) x16)]:Z aJ))))
def zQ(fu:Nat)(pw:aH)(p0:Z aF):Nat→((Z aJ))→J (LR ((Z aJ)) ((Z aJ))):=fun i1 v3=>gd (iV ((aR p0 i1).aD6)) (gd ((v3).length+(([(aJ.mk (aF.mk ((aR p0 i1).aEb) ((aR p0 i1).aD6)) (i1:Int) [])]:Z aJ)).length≤68719476736) (bd (rT fu pw ((aR p0 i1).aEb)) fun x9=>so (loopN (t6 fu pw p0 i1 v3 x9) (x9.length-0) 0 (v3++([(aJ.mk (aF.mk ((aR p0 i1).aEb) ((aR p0 i1).aD6)) (i1:Int) [])]:Z aJ))) fun v12=>some (.next v12)))
def vL(fu:Nat)(pw:aH)(p0:Z aF):J ((Z aJ)):=so (loopN (zQ fu pw p0) (p0.length-0) 0 ([])) fun v3=>some v3
theorem US(fu:Nat)(pw:aH)(p0:Z aF)(r:(Z aJ))(H:vL fu pw p0=some r):bS prog 99 [(aH.pv pw),cP p0] (bZ r):=by
 refine qJ func99 H (fun C hC H=>?_)
 refine gQ 2 ?_;refine q1 (fN ([aQ pw.aD3])) ?_;refine gQ 4 ?_;refine q1 (sA ([]:Z aJ)) ?_;refine gQ 9 ?_;refine gM 1 (aF.trs_len _) (fun hl4=>?_)
 try dsimp only at hl4
 refine bV (σ:=(Z aJ)) (fun i1 v3=>⟨[(2,.ptr 0 0),(4,.nil),(5,f6 v3 0),(13,cP p0),(14,pN p0.length),(15,pN i1)],⟨[some ⟨26,[aQ pw.aD3]⟩],[⟨99,6,aJ.trs (v3),false⟩]⟩⟩) (fun v3=>⟨[(4,.nil),(5,f6 v3 0)],⟨[some ⟨26,[aQ pw.aD3]⟩],[⟨99,6,aJ.trs (v3),false⟩]⟩⟩) (eX H) ?_ ?_
 ·rintro i1 v3 H
  refine gQ 5 ?_;refine c5 H (fun h5 h5l H=>?_) (fun h5 H=>?_)
  ·refine gQ 7 ?_;refine q1 (iR (aF.cs (aR p0 i1))) ?_;refine gQ 5 ?_;refine cK H fun z6 H=>(cK H fun z7 H=>(dW (dI [5] bG (dI [7] bY (dD [21] eI (dI [7] bY (dD [23] (b5 [pI (((aR p0 i1).aD6).aD8),pS (((aR p0 i1).aD6).aD4),aT (((aR p0 i1).aD6).aD5)]) (dI [24] (bI func79 (AW ((aR p0 i1).aD6) z6)) (dI [22,25] rR (dI [6] bG (dI [26,27] rR (dI [28] (iQ ([(aJ.mk (aF.mk ((aR p0 i1).aEb) ((aR p0 i1).aD6)) (i1:Int) [])]:Z aJ)) (dE [20,29] (mA z7) ?_)))))))))))))
   refine dI [30] bG (dN ?_)
   refine gQ 2 ?_;refine q1 (b5 [aQ pw.aD3]) ?_;refine gQ 2 ?_;refine bM H fun x9 z8 H=>(q1 (bI func147 (M5 fu pw ((aR p0 i1).aEb) _ z8)) ?_)
   refine gQ 3 ?_;refine gM 34 (b0 _) (fun hl13=>?_)
   try dsimp only at hl13
   refine bV (σ:=(Z aJ)) (fun i10 v12=>⟨[(2,.ptr 0 0),(4,.nil),(5,f6 v12 0),(6,pN i1),(7,.ptr 1 0),(13,cP p0),(14,pN p0.length),(15,pN i1),(16,pB (decide ((i1:Int)<(p0.length:Int)))),(17,pN i1),(18,.eptr (aF.cs (aR p0 i1))),(19,(aF.pv (aR p0 i1))),(20,f6 v3 0),(21,.ptr 1 0),(22,pS ((aR p0 i1).aEb)),(23,.ptr 1 1),(24,(aA.pv ((aR p0 i1).aD6))),(25,(aA.pv ((aR p0 i1).aD6))),(26,.agg [pS ((aR p0 i1).aEb),pI (((aR p0 i1).aD6).aD8),pS (((aR p0 i1).aD6).aD4),aT (((aR p0 i1).aD6).aD5)]),(27,pN i1),(28,.agg [pS ((aR p0 i1).aEb),pI (((aR p0 i1).aD6).aD8),pS (((aR p0 i1).aD6).aD4),aT (((aR p0 i1).aD6).aD5),pN i1,.nil]),(29,bZ ([(aJ.mk (aF.mk ((aR p0 i1).aEb) ((aR p0 i1).aD6)) (i1:Int) [])]:Z aJ)),(30,f6 (v3++([(aJ.mk (aF.mk ((aR p0 i1).aEb) ((aR p0 i1).aD6)) (i1:Int) [])]:Z aJ)) 0),(31,(aH.pv pw)),(32,.ptr 1 0),(33,pS ((aR p0 i1).aEb)),(34,rS x9),(35,pN x9.length),(36,pN i10)],⟨[some ⟨26,[aQ pw.aD3]⟩,some ⟨32,dG (aR p0 i1)⟩],[⟨99,6,aJ.trs (v12),false⟩]⟩⟩) (fun v12=>⟨[(2,.ptr 0 0),(4,.nil),(5,f6 v12 0),(6,pN i1),(7,.ptr 1 0),(13,cP p0),(14,pN p0.length),(15,pN i1),(16,pB (decide ((i1:Int)<(p0.length:Int)))),(17,pN i1),(18,.eptr (aF.cs (aR p0 i1))),(19,(aF.pv (aR p0 i1))),(20,f6 v3 0),(21,.ptr 1 0),(22,pS ((aR p0 i1).aEb)),(23,.ptr 1 1),(24,(aA.pv ((aR p0 i1).aD6))),(25,(aA.pv ((aR p0 i1).aD6))),(26,.agg [pS ((aR p0 i1).aEb),pI (((aR p0 i1).aD6).aD8),pS (((aR p0 i1).aD6).aD4),aT (((aR p0 i1).aD6).aD5)]),(27,pN i1),(28,.agg [pS ((aR p0 i1).aEb),pI (((aR p0 i1).aD6).aD8),pS (((aR p0 i1).aD6).aD4),aT (((aR p0 i1).aD6).aD5),pN i1,.nil]),(29,bZ ([(aJ.mk (aF.mk ((aR p0 i1).aEb) ((aR p0 i1).aD6)) (i1:Int) [])]:Z aJ)),(30,f6 (v3++([(aJ.mk (aF.mk ((aR p0 i1).aEb) ((aR p0 i1).aD6)) (i1:Int) [])]:Z aJ)) 0),(31,(aH.pv pw)),(32,.ptr 1 0),(33,pS ((aR p0 i1).aEb)),(34,rS x9),(35,pN x9.length)],⟨[some ⟨26,[aQ pw.aD3]⟩,some ⟨32,dG (aR p0 i1)⟩],[⟨99,6,aJ.trs (v12),false⟩]⟩⟩) (eX H) ?_ ?_
   ·rintro i10 v12 H
    refine gQ 5 ?_;refine c5 H (fun h14 h14l H=>?_) (fun h14 H=>?_)
    ·refine gQ 11 ?_;refine q1 (b5 [aQ pw.aD3]) ?_;refine gQ 3 ?_;refine eO H fun x16 x17 z15 H=>(q1 (bI func116 (CF fu pw ((aR p0 i1).aEb) (aR x9 i10) _ z15)) ?_)
     refine gQ 10 ?_;refine q1 (b5 [pI (((aR p0 i1).aD6).aD8),pS (((aR p0 i1).aD6).aD4),aT (((aR p0 i1).aD6).aD5)]) (q1 (bI func79 (AW ((aR p0 i1).aD6) z6)) ?_)
     refine gQ 4 ?_;refine q1 (iQ ([(aJ.mk (aF.mk (aR x9 i10) ((aR p0 i1).aD6)) (i1:Int) x16)]:Z aJ)) (cK H fun z18 H=>(q1 (mA z18) ?_))
     exact gE 6
    exact gE 0
   rintro v12 H
   exact gE 4
  exact gE 0
 rintro v3 H
 exact gE 5
def A2(fu:Nat)(pa pb:aF):J Bool:=sw (decide (pa.aEb=pb.aEb)) (some (aA.eq pa.aD6 pb.aD6)) (some false)
theorem Z4(fu:Nat)(pa:aF)(pb:aF)(r:Bool)(H:A2 fu pa pb=some r):bS prog 55 [(aF.pv pa),(aF.pv pb)] (pB r):=by
 refine qJ func55 H (fun C hC H=>?_)
 refine gQ 2 ?_;refine q1 (fN (dG pa)) (q1 (fN (dG pb)) ?_)
 refine gQ 10 ?_;refine dK 10 H (fun g1 H=>?_) fun g1 H=>?_
 ·refine qg g1 bY (qg g1 (b5 [pI pa.aD6.aD8,pS pa.aD6.aD4,aT pa.aD6.aD5]) (qg g1 bY (qg g1 (b5 [pI pb.aD6.aD8,pS pb.aD6.aD4,aT pb.aD6.aD5]) (qg g1 (bI func38 (ET pa.aD6 pb.aD6)) ?_))))
  exact gE 3
 exact gE 8
def CP(fu:Nat)(p2:Z aJ)(pg:aF):Nat→Unit→J (LR Unit Int):=fun i1 _=>lt (aR p2 i1) fun y4=>bd (A2 fu y4.aEz pg) fun x7=>sw x7 (some (.ret (i1:Int))) (some (.next ()))
def lM(fu:Nat)(p2:Z aJ)(pg:aF):J Int:=so (loopN (CP fu p2 pg) (p2.length-0) 0 ()) fun _=>some (-1)
theorem uI(fu:Nat)(p2:Z aJ)(pg:aF)(r:Int)(H:lM fu p2 pg=some r):bS prog 14 [bZ p2,(aF.pv pg)] (pI r):=by
 refine qJ func14 H (fun C hC H=>?_)
 refine gQ 2 ?_;refine q1 (fN (dG pg)) ?_;refine gQ 7 ?_;refine gM 0 (aJ.trs_len _) (fun hl2=>?_)
 try dsimp only at hl2
 refine bV (σ:=Unit) (fun i1 _=>⟨[(0,bZ p2),(3,.ptr 0 0),(4,pI 0),(5,pN i1)],⟨[some ⟨32,dG pg⟩],[]⟩⟩) (fun _=>⟨[(4,pI 0)],⟨[some ⟨32,dG pg⟩],[]⟩⟩) (eX H) ?_ ?_
 ·rintro i1 ⟨⟩ H
  refine gQ 8 ?_;refine c5 H (fun h3 h3l H=>?_) (fun h3 H=>?_)
  ·refine gQ 4 ?_;refine gI H fun y4 h5 H=>(bM H fun x7 z6 H=>(dW (dI [0] bG (dI [5] bG (dI [12,13] (zM h5 h3l) (dI [14] zL (dI [15] (iR (aF.cs y4.aEz)) (dD [3] (b5 [pS pg.aEb,pI pg.aD6.aD8,pS pg.aD6.aD4,aT pg.aD6.aD5]) (dI [16,17] (bI func55 (Z4 fu y4.aEz pg _ z6)) (dN ?_))))))))))
   refine bE H (fun h8 H=>gE 5) fun h8 H=>?_;exact gE 6
  exact gE 0
 rintro⟨⟩ H
 exact gE 4
def vM(fu:Nat)(pa pb:aF):J Bool:=sw (decide (pa.aEb=pb.aEb)) (some (aA.eq pa.aD6 pb.aD6)) (some false)
theorem MD(fu:Nat)(pa:aF)(pb:aF)(r:Bool)(H:vM fu pa pb=some r):bS prog 84 [(aF.pv pa),(aF.pv pb)] (pB r):=by
 refine qJ func84 H (fun C hC H=>?_)
 refine gQ 2 ?_;refine q1 (fN (dG pa)) (q1 (fN (dG pb)) ?_)
 refine gQ 10 ?_;refine dK 10 H (fun g1 H=>?_) fun g1 H=>?_
 ·refine qg g1 bY (qg g1 (b5 [pI pa.aD6.aD8,pS pa.aD6.aD4,aT pa.aD6.aD5]) (qg g1 bY (qg g1 (b5 [pI pb.aD6.aD8,pS pb.aD6.aD4,aT pb.aD6.aD5]) (qg g1 (bI func95 (EH pa.aD6 pb.aD6)) ?_))))
  exact gE 3
 exact gE 8
def tN(fu:Nat)(pa:aJ)(c1:aF):J Bool:=bd (vM fu pa.aEz c1) fun x2=>some x2
theorem I0(fu:Nat)(pa:aJ)(c1:aF)(r:Bool)(H:tN fu pa c1=some r):cF prog 149 [(aJ.pv pa),.ptr 0 0] ⟨[some ⟨32,dG c1⟩],[]⟩ (fun q t=>q=(pB r)∧t=⟨[some ⟨32,dG c1⟩],[]⟩):=by
 refine qJ func149 H (fun C hC H=>?_)
 refine gQ 2 ?_;refine q1 (fN ([pS pa.aEz.aEb,pI pa.aEz.aD6.aD8,pS pa.aEz.aD6.aD4,aT pa.aEz.aD6.aD5,pI pa.aEG,rI pa.aEH])) ?_;refine gQ 5 ?_;refine q1 (b5 [pS pa.aEz.aEb,pI pa.aEz.aD6.aD8,pS pa.aEz.aD6.aD4,aT pa.aEz.aD6.aD5]) (q1 (b5 [pS c1.aEb,pI c1.aD6.aD8,pS c1.aD6.aD4,aT c1.aD6.aD5]) (bM H fun x2 z1 H=>(q1 (bI func84 (MD fu pa.aEz c1 _ z1)) ?_)))
 exact gE 2
def jP(fu:Nat)(ps:Z aJ)(c1_0:aF):Nat→Unit→J (LR Unit Int):=fun i1 _=>lt (aR ps i1) fun y4=>bd (tN fu y4 c1_0) fun x7=>sw x7 (some (.ret (i1:Int))) (some (.next ()))
def fR(fu:Nat)(ps:Z aJ)(c1_0:aF):J Int:=so (loopN (jP fu ps c1_0) (ps.length-0) 0 ()) fun _=>some (-1)
theorem oU(fu:Nat)(ps:Z aJ)(c1_0:aF)(r:Int)(H:fR fu ps c1_0=some r):cF prog 148 [bZ ps,.fn 149 [.ptr 0 0]] ⟨[some ⟨32,dG c1_0⟩],[]⟩ (fun q t=>q=(pI r)∧t=⟨[some ⟨32,dG c1_0⟩],[]⟩):=by
 refine qJ func148 H (fun C hC H=>?_)
 refine gQ 11 ?_;refine gM 0 (aJ.trs_len _) (fun hl2=>?_)
 try dsimp only at hl2
 refine bV (σ:=Unit) (fun i1 _=>⟨[(0,bZ ps),(1,.fn 149 [.ptr 0 0]),(4,pI 0),(7,pN ps.length),(8,pN i1)],⟨[some ⟨32,dG c1_0⟩],[]⟩⟩) (fun _=>⟨[(4,pI 0)],⟨[some ⟨32,dG c1_0⟩],[]⟩⟩) (eX H) ?_ ?_
 ·rintro i1 ⟨⟩ H
  refine gQ 5 ?_;refine c5 H (fun h3 h3l H=>?_) (fun h3 H=>?_)
  ·refine gQ 13 ?_;refine gI H fun y4 h5 H=>(q1 (zM h5 h3l) (q1 (iR (aJ.cs y4)) (bM H fun x7 z6 H=>(q1 (bC.callVPE (pre:=⟨[some ⟨32,dG c1_0⟩],[]⟩) (st':=⟨[some ⟨32,dG c1_0⟩],[]⟩) (ps:= [_]) (cs:= [.ptr 0 0]) (qs:= [(aJ.pv y4),.ptr 0 0]) [0] [] rfl rfl rfl func149 (by kernel_rfl) rfl rfl rfl (fK.of ⟨⟨_,rfl,rfl,kA,rfl⟩,trivial⟩ trivial (by decide) (by decide)) kA rfl rfl rfl (I0 fu y4 c1_0 _ z6)) (qN ?_)))))
   refine bE H (fun h8 H=>gE 5) fun h8 H=>?_;exact gE 5
  exact gE 0
 rintro⟨⟩ H
 exact gE 4
def m7(fu:Nat)(p2:Z aJ)(pg:aF):J Int:=bd (fR fu p2 pg) fun x2=>some x2
theorem CC(fu:Nat)(p2:Z aJ)(pg:aF)(r:Int)(H:m7 fu p2 pg=some r):bS prog 101 [bZ p2,(aF.pv pg)] (pI r):=by
 refine qJ func101 H (fun C hC H=>?_)
 refine gQ 2 ?_;refine q1 (fN (dG pg)) ?_;refine gQ 5 ?_;refine q1 rMf (bM H fun x2 z1 H=>(q1 (fJ [0] [] func148 (oU fu p2 pg _ z1)) ?_))
 exact gE 2
end
end Go.Proofs.YtfcoaagbccmahaaGreat.W

namespace Go.Proofs.YtfcoaagbccmahaaGreat.W
open Go.RowKit Go.WalkArith
def EN(l:Z aK)(v:Y):aA:=match E6 l v with
 |some b=>b.aD6
 |none=> .mk 0 ⟨#[]⟩ []
def JD(l:Z aK)(v:Y):Bool:=(E6 l v).isSome
def gJ(p t:aA):Z aK:=(kP p t []).getD []
theorem aqT(l:Z aK)(v:Y)(hb:r7 l):bS Tryz.prog 151 [.t (.row 4 (aK.trs l)),.t (.leaf (.string v))] (.tup [(aA.pv (EN l v)),.t (.leaf (.bool (JD l v)))]):=by
 refine XX 0 l v (EN l v,JD l v) ?_
 rw [XW 0 l v hb]
 unfold EN JD
 cases E6 l v<;>rfl
theorem aoD(p t:aA)(hp:Tr.bulkL p.tr≤68719476735)(ht:iV t):bS Tryz.prog 161 [(aA.pv p),(aA.pv t)] (.tup [.t (.row 4 (aK.trs (gJ p t))),.t (.leaf (.bool (mO p t)))]):=by
 obtain⟨fu,hf⟩:=(abR p).get
 refine abS (fu+1) p t (gJ p t,mO p t) ?_
 have h1:=adH (fu:=fu) (ps:= [p]) (by simpa using hf) (ts:= [t]) (s:= []) rfl (by simpa using ht) r7.nil (by rw [VU];simp only [List.length_nil];omega)
 rw [GQ] at h1
 unfold QE DX mO gJ
 cases hq:kP p t [] with
 |none=>
  rw [hq] at h1
  obtain⟨a,b,h1⟩:=h1
  exact gD (fZ rfl (gD h1 (fZ rfl rfl))) rfl
 |some s=>
  rw [hq] at h1
  exact gD (fZ rfl (gD h1 (hH rfl (jC rfl rfl)))) rfl
end Go.Proofs.YtfcoaagbccmahaaGreat.W

namespace Go.Proofs.YtfcoaagbccmahaaGreat.W
set_option maxRecDepth 100000
set_option maxHeartbeats 40000000
noncomputable section
open Tryz Go.RowKit Go.Proofs
attribute [local irreducible] lt
abbrev FD:=(List aK)→aA→Option aA
abbrev uX:=(List aK)→(List aA)→Option ((List aA))
def IZ(m:FD):Prop:= ∀(p0:Z aK) (pt:aA) (r:aA),m p0 pt=some r→bS prog 16 [gK p0,(aA.pv pt)] ((aA.pv r):PV)
def DM(m:uX):Prop:= ∀(p0:Z aK) (p3:Z aA) (r:(Z aA)),m p0 p3=some r→bS prog 60 [gK p0,aT p3] (aT r:PV)
def WN(fu:Nat)(p4:FD)(p1:uX)(p0:Z aK)(pt:aA):J aA:=sw (decide (pt.aD8=1)) (bd (FG fu p0 pt.aD4) fun(x3,x4)=>sw x4 (some x3) (bd (p1 p0 pt.aD5) fun x7=>some (aA.mk pt.aD8 pt.aD4 x7))) (bd (p1 p0 pt.aD5) fun x9=>some (aA.mk pt.aD8 pt.aD4 x9))
theorem af6(fu:Nat)(p4:FD)(p1:uX)(p8:IZ p4)(p6:DM p1):IZ (WN fu p4 p1):=by
 intro p0 pt r H
 refine qJ func16 H (fun C hC H=>?_)
 refine gQ 2 ?_;refine q1 (fN (b7 pt)) ?_;refine gQ 9 ?_;refine bE H (fun h1 H=>?_) (fun h1 H=>?_)
 ·refine gQ 5 ?_;refine eO H fun x3 x4 z2 H=>(q1 (bI func59 (WV fu p0 pt.aD4 _ z2)) ?_)
  refine gQ 11 ?_;refine bE H (fun h5 H=>?_) (fun h5 H=>?_)
  ·refine gQ 2 ?_;refine q1 (b5 [pI x3.aD8,pS x3.aD4,aT x3.aD5]) ?_;exact gE 2
  refine gQ 2 ?_;refine bM H fun x7 z6 H=>(dW (dI [3] bY (dD [19] eI (dI [3] bY (dD [21] eI (dI [0] bG (dI [3] bY (dD [24] eI (dI [23,25] (bI func60 (p6 p0 pt.aD5 _ z6)) (dI [20,22,26] rR (mK [4,27] lT (dN ?_))))))))))))
  exact gE 0
 refine gQ 2 ?_;refine bM H fun x9 z8 H=>(dW (dI [3] bY (dD [19] eI (dI [3] bY (dD [21] eI (dI [0] bG (dI [3] bY (dD [24] eI (dI [23,25] (bI func60 (p6 p0 pt.aD5 _ z8)) (dI [20,22,26] rR (mK [4,27] lT (dN ?_))))))))))))
 exact gE 0
def PH(fu:Nat)(p4:FD)(p1:uX)(p0:Z aK)(p3:Z aA):Nat→((Z aA))→J (LR ((Z aA)) ((Z aA))):=fun i2 v3=>bd (p4 p0 (aR p3 i2)) fun x7=>gd (i2=(v3).length) (some (.next (v3++([x7]:Z aA))))
def IY(fu:Nat)(p4:FD)(p1:uX)(p0:Z aK)(p3:Z aA):J ((Z aA)):=gd (p3.length≤68719476736) (so (loopN (PH fu p4 p1 p0 p3) (p3.length-0) 0 ([])) fun v3=>gd ((v3).length=p3.length) (some v3))
theorem WM(fu:Nat)(p4:FD)(p1:uX)(p8:IZ p4)(p6:DM p1):DM (IY fu p4 p1):=by
 intro p0 p3 r H
 refine qJ func60 H (fun C hC H=>?_)
 refine gQ 8 ?_;refine cK H fun z1 H=>(q1 (bC.makeSlice (N:=p3.length) rfl rfl rfl rfl apU.h awT.h (by decide) (Nat.le_trans (Nat.mul_le_mul_left _ z1) (by decide)) (Nat.le_trans z1 (by decide))) ?_)
 refine gQ 9 ?_;refine gM 1 (aA.trs_len _) (fun hl4=>?_)
 refine bV (σ:=(Z aA)) (fun i2 v3=>⟨[(0,gK p0),(4,.nil),(5,.full 3 (p3.length) 0),(11,aT p3),(12,pN p3.length),(13,pN i2)],⟨[],[⟨30,3,aA.trs (v3),true⟩]⟩⟩) (fun v3=>⟨[(4,.nil),(5,.full 3 (p3.length) 0)],⟨[],[⟨30,3,aA.trs (v3),true⟩]⟩⟩) (eX H) ?_ ?_
 ·rintro i2 v3 H
  refine gQ 5 ?_;refine c5 H (fun h5 h5l H=>?_) (fun h5 H=>?_)
  ·refine gQ 7 ?_;refine q1 (iR (aA.cs (aR p3 i2))) ?_;refine gQ 8 ?_;refine q1 (b5 [pI ((aR p3 i2).aD8),pS ((aR p3 i2).aD4),aT ((aR p3 i2).aD5)]) (bM H fun x7 z6 H=>(q1 (bI func16 (p8 p0 (aR p3 i2) _ z6)) (q1 (bC.indexFull (k:=i2) rfl rfl rfl rfl h5l apU.h) (cK H fun z8 H=>?_))))
   refine q1 (bC.storeRptr (e:=aA.cs x7) (es2:=aA.trs (v3++([x7]:Z aA))) 18 rfl rfl rfl rfl rfl rfl kA rfl rfl awO.h (by rw [aA.trs_len];exact z8) h5l (by rw [aA.trs_map,aA.trs_map,List.map_append];simp [aA.tr_cs])) ?_;exact gE 5
  exact gE 0
 rintro v3 H
 refine gQ 3 ?_;refine cK H fun z9 H=>?_;refine AL.weak (Wk.full (i:=25) rfl rfl (by rw [aA.trs_len];exact z9)) ?_;exact gE 2
mutual
def sI:Nat→(Z aK)→aA→J aA
 |0,_,_=>none
 |fu+1,p0,pt=>WN fu (sI fu) (m6 fu) p0 pt
def m6:Nat→(Z aK)→(Z aA)→J ((Z aA))
 |0,_,_=>none
 |fu+1,p0,p3=>IY fu (sI fu) (m6 fu) p0 p3
end
theorem ajN(fu:Nat):IZ (sI fu)∧DM (m6 fu):=by
 induction fu with
 |zero=>exact⟨(fun p0 pt r H=>by simp only [sI] at H;cases H),(fun p0 p3 r H=>by simp only [m6] at H;cases H)⟩
 |succ fu ih=>exact⟨(fun p0 pt r H=>by simp only [sI] at H;exact af6 fu (sI fu) (m6 fu) ih.1 ih.2 p0 pt r H),(fun p0 p3 r H=>by simp only [m6] at H;exact WM fu (sI fu) (m6 fu) ih.1 ih.2 p0 p3 r H)⟩
theorem anN(fu:Nat):IZ (sI fu):=(ajN fu).1
abbrev FT:=(List aK)→aA→Option aA
abbrev u6:=(List aK)→(List aA)→Option ((List aA))
def JJ(m:FT):Prop:= ∀(p0:Z aK) (pt:aA) (r:aA),m p0 pt=some r→bS prog 110 [gK p0,(aA.pv pt)] ((aA.pv r):PV)
def DU(m:u6):Prop:= ∀(p0:Z aK) (p3:Z aA) (r:(Z aA)),m p0 p3=some r→bS prog 152 [gK p0,aT p3] (aT r:PV)
def XN(fu:Nat)(p5:FT)(p2:u6)(p0:Z aK)(pt:aA):J aA:=sw (decide (pt.aD8=1)) (gd (r7 p0) (sw (JD p0 pt.aD4) (some (EN p0 pt.aD4)) (bd (p2 p0 pt.aD5) fun x5=>some (aA.mk pt.aD8 pt.aD4 x5)))) (bd (p2 p0 pt.aD5) fun x7=>some (aA.mk pt.aD8 pt.aD4 x7))
theorem ag4(fu:Nat)(p5:FT)(p2:u6)(p9:JJ p5)(p7:DU p2):JJ (XN fu p5 p2):=by
 intro p0 pt r H
 refine qJ func110 H (fun C hC H=>?_)
 refine gQ 2 ?_;refine q1 (fN (b7 pt)) ?_;refine gQ 9 ?_;refine bE H (fun h1 H=>?_) (fun h1 H=>?_)
 ·refine gQ 5 ?_;refine cK H fun z2 H=>(q1 (bI func151 (aqT p0 pt.aD4 z2)) ?_)
  refine gQ 11 ?_;refine bE H (fun h3 H=>?_) (fun h3 H=>?_)
  ·refine gQ 2 ?_;refine q1 (b5 [pI ((EN p0 pt.aD4).aD8),pS ((EN p0 pt.aD4).aD4),aT ((EN p0 pt.aD4).aD5)]) ?_;exact gE 2
  refine gQ 2 ?_;refine bM H fun x5 z4 H=>(dW (dI [3] bY (dD [19] eI (dI [3] bY (dD [21] eI (dI [0] bG (dI [3] bY (dD [24] eI (dI [23,25] (bI func152 (p7 p0 pt.aD5 _ z4)) (dI [20,22,26] rR (mK [4,27] lT (dN ?_))))))))))))
  exact gE 0
 refine gQ 2 ?_;refine bM H fun x7 z6 H=>(dW (dI [3] bY (dD [19] eI (dI [3] bY (dD [21] eI (dI [0] bG (dI [3] bY (dD [24] eI (dI [23,25] (bI func152 (p7 p0 pt.aD5 _ z6)) (dI [20,22,26] rR (mK [4,27] lT (dN ?_))))))))))))
 exact gE 0
def P9(fu:Nat)(p5:FT)(p2:u6)(p0:Z aK)(p3:Z aA):Nat→((Z aA))→J (LR ((Z aA)) ((Z aA))):=fun i1 v3=>bd (p5 p0 (aR p3 i1)) fun x7=>gd ((v3).length+(([x7]:Z aA)).length≤68719476736) (some (.next (v3++([x7]:Z aA))))
def JI(fu:Nat)(p5:FT)(p2:u6)(p0:Z aK)(p3:Z aA):J ((Z aA)):=so (loopN (P9 fu p5 p2 p0 p3) (p3.length-0) 0 ([])) fun v3=>some v3
theorem XM(fu:Nat)(p5:FT)(p2:u6)(p9:JJ p5)(p7:DU p2):DU (JI fu p5 p2):=by
 intro p0 p3 r H
 refine qJ func152 H (fun C hC H=>?_)
 refine gQ 6 ?_;refine q1 (sA ([]:Z aA)) ?_;refine gQ 7 ?_;refine gM 1 (aA.trs_len _) (fun hl4=>?_)
 refine bV (σ:=(Z aA)) (fun i1 v3=>⟨[(0,gK p0),(1,aT p3),(4,.nil),(5,iY v3 0),(6,pN i1)],⟨[],[⟨30,3,aA.trs (v3),false⟩]⟩⟩) (fun v3=>⟨[(4,.nil),(5,iY v3 0)],⟨[],[⟨30,3,aA.trs (v3),false⟩]⟩⟩) (eX H) ?_ ?_
 ·rintro i1 v3 H
  refine gQ 8 ?_;refine c5 H (fun h5 h5l H=>?_) (fun h5 H=>?_)
  ·refine gQ 9 ?_;refine q1 (iR (aA.cs (aR p3 i1))) (bM H fun x7 z6 H=>(q1 (bI func110 (p9 p0 (aR p3 i1) _ z6)) (q1 (iQ ([x7]:Z aA)) (cK H fun z8 H=>(q1 (mA z8) ?_)))))
   exact gE 7
  exact gE 0
 rintro v3 H
 exact gE 5
mutual
def sO:Nat→(Z aK)→aA→J aA
 |0,_,_=>none
 |fu+1,p0,pt=>XN fu (sO fu) (nE fu) p0 pt
def nE:Nat→(Z aK)→(Z aA)→J ((Z aA))
 |0,_,_=>none
 |fu+1,p0,p3=>JI fu (sO fu) (nE fu) p0 p3
end
theorem aj9(fu:Nat):JJ (sO fu)∧DU (nE fu):=by
 induction fu with
 |zero=>exact⟨(fun p0 pt r H=>by simp only [sO] at H;cases H),(fun p0 p3 r H=>by simp only [nE] at H;cases H)⟩
 |succ fu ih=>exact⟨(fun p0 pt r H=>by simp only [sO] at H;exact ag4 fu (sO fu) (nE fu) ih.1 ih.2 p0 pt r H),(fun p0 p3 r H=>by simp only [nE] at H;exact XM fu (sO fu) (nE fu) ih.1 ih.2 p0 p3 r H)⟩
theorem aoB(fu:Nat):JJ (sO fu):=(aj9 fu).1
end
end Go.Proofs.YtfcoaagbccmahaaGreat.W

namespace Go.Proofs.YtfcoaagbccmahaaGreat
open Go.RowKit Go.WalkArith Go.IntWalk Go.WideShapes
section
variable {P:Program} {C:qH} {n:Nat} {s:AS} {o:Oper} {x y:Operand} {T T':TypeId}
theorem bC.minI{a b:Int}(ho:o.op= .call { callee:= .builtin .min,args:= #[x,y],argTypes:= #[T,T'] })(hd:bK o.dst n=true)(hx:s.ev x=some (pI a))(hy:s.ev y=some (pI b)):bC P C n o s (s.putO o.dst (pI (min a b))):=
 bC.quiet (cS hd) fun m a' w h=>by
  obtain⟨h1,h3⟩:=cA.leaf_eq (h.eval hx)
  obtain⟨h2,h4⟩:=cA.leaf_eq (h.eval hy)
  have he:(if b<a then b else a)=min a b:=by rw [Int.min_def];split<;>split<;>omega
  refine⟨.int .i64 (min a b),?_,cA.leaf ?_⟩
  ·unfold execOp
   simp [ho,resolve,invoke,builtin,h1,h2,Builtin.min_,Builtin.min2,he]
  ·rw [← he]
   split
   ·exact h4
   ·exact h3
end
section
variable {P:Program} {C:qH} {n:Nat} {s:AS} {o:Oper} {x y:Operand} {T T':TypeId}
theorem rMn{a b:Nat}(ho:o.op= .call { callee:= .builtin .min,args:= #[x,y],argTypes:= #[T,T'] }:=by exact rfl)(hd:bK o.dst n=true:=by exact rfl)(hx:s.ev x=some (pN a):=by exact rfl)(hy:s.ev y=some (pN b):=by exact rfl):bC P C n o s (s.putO o.dst (pN (min a b))):=by
 have h:=bC.minI (P:=P) (C:=C) ho hd hx hy
 have e:(min (a:Int) (b:Int))=((min a b:Nat):Int):=by omega
 rw [e] at h
 exact h
end
section
variable {P:Program} {C:qH} {n:Nat} {s:AS} {o:Oper} {Q:Exit→AS→Prop}
theorem AL.nilQ{ops:Array Oper}{rest:Z Oper}{T yT t:TypeId}{x:Operand}{sz:Nat}{es:Z (Z Tr)}(hT:P.underlying T=some (.slice t))(h: ∀b:Bool,(b=true→es= [])→AL P C n ops rest Q (s.putO o.dst (.t (.leaf (.bool b)))))
 (ho:o.op= .binOp .eql T x (.const (.slice none 0 0)) yT:=by exact rfl) (hd:bK o.dst n=true:=by exact rfl) (hx:s.ev x=some (.t (.row sz es)):=by exact rfl) (hg:o.guard=none:=by exact rfl):AL P C n ops (o::rest) Q s:=fun m a w hr=>by
 have hv:=hr.eval hx
 have hv':cA _ w (.row sz es) (a.eval x):=hv
 have key: ∃A cap,a.eval x= .slice A es.length cap∧(A.isNone=true→es= []):=by
  generalize a.eval x=v at hv'
  cases hv' with
  |row c h1 h2 h3 h4=>
   refine⟨_,_,rfl,fun hn=>?_⟩
   cases es with
   |nil=>rfl
   |cons e l=>
    obtain⟨b,off,ha,_⟩:=h3 (by simp)
    rw [ha] at hn
    cases hn
 obtain⟨A,cap,hA,hb⟩:=key
 refine wpList_plain hg fun K hK=>?_
 have hrun:(execOp a.eval o).run P w= .ok (.value (.bool A.isNone)) w:=by
  have h1:=Lib.run_eql_slice_nil (P:=P) w T t A es.length cap 0 0 hT
  unfold execOp
  simp only [ho,hA]
  have h2:a.eval (.const (.slice none 0 0))= .slice none 0 0:=rfl
  simp only [h2]
  rw [Sem.run_bind]
  simp [eqGuard,h1]
 unfold Oper.wp
 rw [hrun]
 exact hK _ w (h A.isNone hb m _ w (hr.put (cS hd) (cA.leaf (by trivial))))
end
section
variable {P:Program} {C:qH} {n:Nat} {s:AS}
theorem Wk.fullLit{i E sz N r:Nat}{es:Z (Z Tr)}{b:Bool}(hx:s.lk i=some (.full sz N r))(hrow:s.st.rows[r]?=some ⟨E,sz,es,b⟩)(hl:es.length=N):Wk C n s (s.put i (.lit sz es)):=fun m a w h=>by
 refine⟨m,h.dfr,h.tsz,h.sto,fun j q hq=>?_,h.ev⟩
 rw [AS.lk_put] at hq
 split at hq
 ·rename_i e
  subst e
  cases hq
  obtain⟨v,hv,row,g,q1,q2,q3,q4,q5⟩:=h.env j _ hx
  refine⟨v,hv,?_⟩
  rw [hrow] at q1
  cases q1
  obtain⟨-,-,hplace⟩:=h.sto.row r _ hrow
  rcases hplace with⟨z1,-⟩|⟨g',c',cur,z1,hob,hcs,hfit,hmax,hrep⟩
  ·rw [q4] at z1;cases z1
  rw [q4] at z1
  injection z1 with z1
  injection z1 with e1 e2
  subst e1 e2
  subst q5
  have:cA (lG C.av s.st m) w (.row sz es) (.slice (some ⟨g,0,none⟩) es.length N):=hrep
  rw [hl] at this
  exact⟨this,some ⟨g,0,none⟩,by rw [hl]⟩
 ·exact h.env j q hq
end
section
variable {av:Nat→Nat→Prop} {s st':dL} {m m':kE} {w w':World} {ks:Z Nat} {rs:Z oQ}
def UR(s:dL)(m m':kE)(ks:Z Nat)(i:Nat):J (Nat×Nat):=if i<s.rows.length then m.γ i else m'.γ (ks.getD (i-s.rows.length) 0)
theorem an8(h:fK s ⟨[],[]⟩ [] [])(hs:fL av s m w)(hst:fL (D3 av s ⟨[],[]⟩ m [] [] w) st' m' w')(he:Ev ⟨[],[]⟩ (m.via [] []) w st' m' w')
 (hrow: ∀i row,rs[i]?=some row→st'.rows[ks.getD i 0]?=some row) (hks: ∀i j,i<rs.length→j<rs.length→ks.getD i 0=ks.getD j 0→i=j):
 Ev s m w ⟨s.boxes,s.rows++rs⟩ ⟨m.ρ,UR s m m' ks⟩ w'∧fL av ⟨s.boxes,s.rows++rs⟩ ⟨m.ρ,UR s m m' ks⟩ w'∧
 (∀b o,b<w'.heap.size→lG (D3 av s ⟨[],[]⟩ m [] [] w) st' m' b o→lG av ⟨s.boxes,s.rows++rs⟩ ⟨m.ρ,UR s m m' ks⟩ b o):=by
 have old: ∀i,i<s.rows.length→UR s m m' ks i=m.γ i:=fun i hi=>if_pos hi
 have new: ∀i,UR s m m' ks (s.rows.length+i)=m'.γ (ks.getD i 0):=fun i=>by
  unfold UR
  rw [if_neg (by omega),show s.rows.length+i-s.rows.length=i by omega]
 have hfresh: ∀i row g c,rs[i]?=some row→m'.γ (ks.getD i 0)=some (g,c)→w.heap.size≤g:=fun i row g c hi hg=>by
  rcases he.rfresh _ row g c (hrow i row hi) hg with⟨row0,c0,hr,-⟩|hf
  ·simp at hr
  ·exact hf
 have rk: ∀(i:Nat) (z:oQ) (g c:Nat),(s.rows++rs)[i]?=some z→UR s m m' ks i=some (g,c)→(s.rows[i]?=some z∧m.γ i=some (g,c))∨ ∃j,i=s.rows.length+j∧rs[j]?=some z∧m'.γ (ks.getD j 0)=some (g,c):=fun i z g c hi hg=>by
  rcases Nat.lt_or_ge i s.rows.length with hl|hl
  ·rw [List.getElem?_append_left hl] at hi
   rw [old i hl] at hg
   exact .inl ⟨hi,hg⟩
  ·obtain⟨j,rfl⟩: ∃j,i=s.rows.length+j:=⟨i-s.rows.length,by omega⟩
   rw [List.getElem?_append_right hl,show s.rows.length+j-s.rows.length=j by omega] at hi
   rw [new] at hg
   exact .inr ⟨j,rfl,hi,hg⟩
 have okk: ∀b o,b<w.heap.size→s.ok m b o→dL.ok ⟨s.boxes,s.rows++rs⟩ ⟨m.ρ,UR s m m' ks⟩ b o:=fun b o hb hk=>by
  refine⟨fun i z hi=>hk.1 i z hi,fun i z g c hi hg e=>?_⟩
  rcases rk i z g c hi hg with⟨h1,h2⟩|⟨j,-,h2,h3⟩
  ·exact hk.2 i z g c h1 h2 e
  ·have:=hfresh j z g c h2 h3;omega
 have ev:Ev s m w ⟨s.boxes,s.rows++rs⟩ ⟨m.ρ,UR s m m' ks⟩ w':=by
  refine⟨he.os,he.tape,he.output,he.size,fun b hb h1 h2=>he.blk b hb (fun i x hi=>by simp at hi) (fun r row0 g c hr _=>by simp at hr),fun b o hb hk=>he.cell b o hb (h.ok (av:=fun _ _=>False) (w:=w) ⟨id,hk⟩).2,okk,fun i y hi=>⟨⟨y,hi⟩,rfl⟩,fun i z hi=> .inl ⟨z,hi⟩,fun i row0 hi=>⟨row0,?_,rfl,Nat.le_refl _,?_⟩,fun i z g c hi hg=>?_⟩
  ·show(s.rows++rs)[i]?=_
   rw [List.getElem?_append_left (c8 hi)];exact hi
  ·exact⟨fun _=>old i (c8 hi),fun hw=>⟨hw,old i (c8 hi)⟩⟩
  ·rcases rk i z g c hi hg with⟨h1,h2⟩|⟨j,-,h2,h3⟩
   ·exact .inl ⟨z,c,h1,h2⟩
   ·exact .inr (hfresh j z g c h2 h3)
 have back: ∀b o,b<w'.heap.size→lG (D3 av s ⟨[],[]⟩ m [] [] w) st' m' b o→lG av ⟨s.boxes,s.rows++rs⟩ ⟨m.ρ,UR s m m' ks⟩ b o:=fun b o _ hk=>by
  rcases Nat.lt_or_ge b w.heap.size with hlt|hge
  ·by_cases hA:lG av s m b o
   ·exact⟨hA.1,okk b o hlt hA.2⟩
   ·exact absurd ⟨hlt,hA,fun i x h1 h2=>by simp at h1,fun r row0 g c h1 h2 h3=>by simp at h1⟩ hk.1
  ·refine⟨fun ho=>by have:=hs.avlt _ _ ho;omega,fun i z hi=>?_,fun i z g c hi hg e=>?_⟩
   ·have:=hs.box_lt hi
    show m.ρ i≠b
    omega
   ·rcases rk i z g c hi hg with⟨h1,h2⟩|⟨j,-,h2,h3⟩
    ·have:=hs.row_lt h1 h2
     omega
    ·exact hk.2.2 _ _ g c (hrow j z h2) h3 e
 refine⟨ev,⟨fun i z hi=>?_,fun i i' z z' hi hi' hne=>hs.binj i i' z z' hi hi' hne,fun i z hi=>?_,fun i i' z z' g c c' hi hi' hg hg'=>?_,fun i z r row0 g c hi hr hg=>?_,fun b o hb=>Nat.lt_of_lt_of_le (hs.avlt b o hb) he.size,fun i z g c hi hg o ho=>?_,fun i z hi=>hs.avb i z hi⟩,back⟩
 ·obtain⟨vs,k1,k2⟩:=hs.box i z hi
  exact⟨vs,k1.keep (he.blk _ k1.lt (fun j x hj=>by simp at hj) (fun r row0 g c hr _=>by simp at hr)),gY.mono ev _ _ k2⟩
 ·rcases Nat.lt_or_ge i s.rows.length with hl|hl
  ·have hi':s.rows[i]?=some z:=by
    have h0:(s.rows++rs)[i]?=some z:=hi
    rwa [List.getElem?_append_left hl] at h0
   obtain⟨k1,k2,k3⟩:=hs.row i z hi'
   refine⟨k1,k2,?_⟩
   simp only [old i hl]
   rcases k3 with k3|⟨g,c,cur,q1,q2,q3,q4,q5,q6⟩
   ·exact .inl k3
   ·exact .inr ⟨g,c,cur,q1,(he.blk g q2.lt (fun j x hj e=>by simp at hj) (fun r row0 g' c' hr _=>by simp at hr)).trans q2,q3,q4,q5,RV.mono ev (.t _) _ q6⟩
  ·obtain⟨j,rfl⟩: ∃j,i=s.rows.length+j:=⟨i-s.rows.length,by omega⟩
   have hj:rs[j]?=some z:=by
    have h0:(s.rows++rs)[s.rows.length+j]?=some z:=hi
    rwa [List.getElem?_append_right hl,show s.rows.length+j-s.rows.length=j by omega] at h0
   obtain⟨k1,k2,k3⟩:=hst.row _ _ (hrow j z hj)
   refine⟨k1,k2,?_⟩
   simp only [new]
   rcases k3 with k3|⟨g,c,cur,q1,q2,q3,q4,q5,q6⟩
   ·exact .inl k3
   ·exact .inr ⟨g,c,cur,q1,q2,q3,q4,q5,cA.mono q6 (Nat.le_refl _) back (fun _ _ _ _=>rfl)⟩
 ·rcases rk i z g c hi hg with⟨h1,h2⟩|⟨j,rfl,h2,h3⟩<;>rcases rk i' z' g c' hi' hg' with⟨h1',h2'⟩|⟨j',rfl,h2',h3'⟩
  ·exact hs.rinj i i' z z' g c c' h1 h1' h2 h2'
  ·have:=hs.row_lt h1 h2
   have:=hfresh j' z' g c' h2' h3'
   omega
  ·have:=hs.row_lt h1' h2'
   have:=hfresh j z g c h2 h3
   omega
  ·have h4:=hst.rinj _ _ z z' g c c' (hrow j z h2) (hrow j' z' h2') h3 h3'
   rw [hks j j' (c8 h2) (c8 h2') h4]
 ·rcases rk r row0 g c hr hg with⟨h1,h2⟩|⟨j,-,h2,h3⟩
  ·exact hs.br i z r row0 g c hi h1 h2
  ·have:=hs.box_lt hi
   have:=hfresh j row0 g c h2 h3
   show m.ρ i≠g
   omega
 ·rcases rk i z g c hi hg with⟨h1,h2⟩|⟨j,-,h2,h3⟩
  ·exact hs.avr i z g c h1 h2 o ho
  ·have:=hs.avlt _ _ ho
   have:=hfresh j z g c h2 h3
   omega
end
def avJ(P:Program)(f:FuncId)(args:Z PV)(rs:Z oQ)(R:Z Nat→PV):Prop:=
 cF P f args ⟨[],[]⟩ (fun r t=> ∃ks:Z Nat,r=R ks∧(∀i row,rs[i]?=some row→t.rows[ks.getD i 0]?=some row)∧(∀i j,i<rs.length→j<rs.length→ks.getD i 0=ks.getD j 0→i=j))
section
variable {P:Program} {C:qH} {n:Nat} {s:AS} {o:Oper}
theorem bC.callOwnG{f:FuncId}{fn:Func}{xs:Z Operand}{ts:Array TypeId}{ps qs:Z PV}{rs:Z oQ}{R:Z Nat→PV}{q:PV}(ho:o.op= .call { callee:= .value (.func f),args:=⟨xs⟩,argTypes:=ts })(hd:bK o.dst n=true)(hf:P.funcs[f]?=some fn)(hnm:(fn.name== "runtime.NumGoroutine")=false)(hb:fn.body.isNone=false)
 (hx:xs.map s.ev=ps.map some) (hle:tP ps (ER [] [] qs)) (hok:mN ⟨[],[]⟩ qs=true) (hc:avJ P f qs rs R)
 (hmv: ∀(ok ok':Nat→Nat→Prop) (st st':dL) (m m':kE) (w:World) (v:Value) (ks:Z Nat),(∀i row,rs[i]?=some row→st.rows[ks.getD i 0]?=some row∧st'.rows[s.st.rows.length+i]?=some row∧m'.γ (s.st.rows.length+i)=m.γ (ks.getD i 0))→(∀b o,b<w.heap.size→ok b o→ok' b o)→RV ok st m w (R ks) v→RV ok' st' m' w q v):
 bC P C n o s ((⟨s.env,⟨s.st.boxes,s.st.rows++rs⟩⟩:AS).putO o.dst q):=fun m a w h K Q hK=>by
 have hp:fK s.st ⟨[],[]⟩ [] []:=fK.of trivial trivial (by decide) (by decide)
 have h2:=evL h hx
 have h1:(execOp a.eval o).run P w= .ok (.enter f ⟨xs.map a.eval⟩) w:=by
  have hcf:=iN (P:=P) hf hnm hb
  unfold execOp
  simp only [ho]
  simp [resolve,invoke,Deferred.ofValue,Act.eval,hcf]
 unfold Oper.wp
 rw [h1]
 have h3:=hc (D3 C.av s.st ⟨[],[]⟩ m [] [] w) (m.via [] []) w _ (hp.sto h.sto) (gY.unren hp (fun b o _ k=>hp.ok k) _ _ hok (tP.rv hle h2))
 refine Calls.mono h3 fun e w'=>?_;rintro⟨r,st',m',v,rfl,⟨ks,rfl,hrow,hks⟩,h4,h5,h6⟩
 obtain⟨q1,q2,q3⟩:=an8 hp h.sto h4 h5 hrow hks
 refine hK _ _ w' ((h.step q1 q2).put (cS hd) (hmv _ _ _ _ _ _ _ _ ks (fun i row hi=>⟨hrow i row hi,?_,?_⟩) q3 h6))
 ·show(s.st.rows++rs)[s.st.rows.length+i]?=_
  rw [List.getElem?_append_right (by omega),show s.st.rows.length+i-s.st.rows.length=i by omega]
  exact hi
 ·show UR s.st m m' ks (s.st.rows.length+i)=_
  unfold UR
  rw [if_neg (by omega),show s.st.rows.length+i-s.st.rows.length=i by omega]
section
variable {f:FuncId} {fn:Func} {xs:Z Operand} {ts:Array TypeId} {ps qs:Z PV} {r0 r1 r2:oQ}
end
end
section
variable {P:Program} {C:qH} {n:Nat} {s:AS} {o:Oper}
theorem rCl{f:FuncId}{fn:Func}{xs:Z Operand}{ts:Array TypeId}{ps qs:Z PV}{sz:Nat}{es:Z (Z Tr)}(hf:P.funcs[f]?=some fn)(hc:bS P f qs (.lit sz es))(ho:o.op= .call { callee:= .value (.func f),args:=⟨xs⟩,argTypes:=ts }:=by exact rfl)(hd:bK o.dst n=true:=by exact rfl)(hnm:(fn.name== "runtime.NumGoroutine")=false:=by kernel_rfl)(hb:fn.body.isNone=false:=by exact rfl)
 (hx:evA s xs=some ps:=by exact rfl) (hle:tP ps (ER [] [] qs):=by exact kA) (h1:mN ⟨[],[]⟩ qs=true:=by exact rfl):bC P C n o s (s.putO o.dst (.lit sz es)):=
 bC.congr (bC.callOwnG (rs:= []) (R:=fun _=> .lit sz es) (q:= .lit sz es) ho hd hf hnm hb (KB hx) hle h1 (cF.mono hc fun r t ⟨h,_⟩=>⟨[],h,fun i row hi=>by simp at hi,fun i j hi=>by simp at hi⟩) fun ok ok' st st' m m' w v ks _ hk h=>⟨cA.mono h.1 (Nat.le_refl _) hk (fun _ _ _ _=>rfl),h.2⟩) (by simp)
end
section
variable {P:Program} {C:qH} {n:Nat} {s:AS} {o:Oper}
end
end Go.Proofs.YtfcoaagbccmahaaGreat

namespace Go.Proofs.YtfcoaagbccmahaaGreat.W
set_option maxRecDepth 100000
set_option maxHeartbeats 40000000
noncomputable section
open Tryz Go.RowKit Go.Proofs
attribute [local irreducible] lt
abbrev l5:=aD→aD→Option Bool
abbrev xT:=(List aD)→(List aD)→Option Bool
def oM(m:l5):Prop:= ∀(pa:aD) (pb:aD) (r:Bool),m pa pb=some r→bS prog 20 [(aD.pv pa),(aD.pv pb)] (pB r:PV)
def G8(m:xT):Prop:= ∀(pa:Z aD) (pb:Z aD) (r:Bool),m pa pb=some r→bS prog 63 [cO pa,cO pb] (pB r:PV)
def xI(fu:Nat)(p0:l5)(p4:xT)(pa pb:aD):J Bool:=sw (decide (pa.aD8=pb.aD8)) (sw (decide (pa.aEM=pb.aEM)) (sw (decide (pa.aEr.aEf=pb.aEr.aEf)&&decide (pa.aEr.aEr=pb.aEr.aEr)) (bd (p4 pa.aD5 pb.aD5) fun x5=>some x5) (some false)) (some false)) (some false)
theorem LM(fu:Nat)(p0:l5)(p4:xT)(p8:oM p0)(pD:G8 p4):oM (xI fu p0 p4):=by
 intro pa pb r H
 refine qJ func20 H (fun C hC H=>?_)
 refine gQ 2 ?_;refine q1 (fN (fW pa)) (q1 (fN (fW pb)) ?_)
 refine gQ 10 ?_;refine dK 10 H (fun g1 H=>?_) fun g1 H=>?_
 ·refine gQ 7 ?_;refine dK 17 H (fun g2 H=>?_) fun g2 H=>?_
  ·refine qg g2 bY (qg g2 (b5 [pI pa.aEr.aEf,pI pa.aEr.aEr]) (qg g2 bY (qg g2 (b5 [pI pb.aEr.aEf,pI pb.aEr.aEr]) (qg g2 (bC.eqlP rfl rfl rfl rfl apX apY) ?_))))
   refine gQ 2 ?_;refine dK 24 H (fun g3 H=>?_) fun g3 H=>?_
   ·refine gQ 4 ?_;refine bM H fun x5 z4 H=>(qg g3 (bI func63 (pD pa.aD5 pb.aD5 _ z4)) ?_)
    exact gE 3
   exact gE 8
  exact gE 15
 exact gE 22
def T7(fu:Nat)(p0:l5)(p4:xT)(pa pb:Z aD):Nat→Unit→J (LR Unit Bool):=fun i2 _=>gd (i2<(pb).length) (bd (p0 (aR pa i2) (aR pb i2)) fun x7=>sw (!(x7)) (some (.ret false)) (some (.next ())))
def OD(fu:Nat)(p0:l5)(p4:xT)(pa pb:Z aD):J Bool:=sw (!decide ((pa.length:Int)=(pb.length:Int))) (some false) (so (loopN (T7 fu p0 p4 pa pb) (pa.length-0) 0 ()) fun _=>some true)
theorem aaQ(fu:Nat)(p0:l5)(p4:xT)(p8:oM p0)(pD:G8 p4):G8 (OD fu p0 p4):=by
 intro pa pb r H
 refine qJ func63 H (fun C hC H=>?_)
 refine gQ 13 ?_;refine bE H (fun h1 H=>gE 4) fun h1 H=>?_;refine gQ 6 ?_;refine gM 0 (aD.trs_len _) (fun hl3=>?_)
 try dsimp only at hl3
 refine bV (σ:=Unit) (fun i2 _=>⟨[(0,cO pa),(1,cO pb),(4,pB false),(5,pN i2)],⟨[],[]⟩⟩) (fun _=>⟨[(4,pB false)],⟨[],[]⟩⟩) (eX H) ?_ ?_
 ·rintro i2 ⟨⟩ H
  refine gQ 8 ?_;refine c5 H (fun h4 h4l H=>?_) (fun h4 H=>?_)
  ·refine gQ 4 ?_;refine cK H fun z5 H=>(bM H fun x7 z6 H=>(dW (dI [0] bG (dI [5] bG (dI [17,18] rB (dI [19] (iR (aD.cs (aR pa i2))) (dI [1] bG (dI [5] bG (dI [21,22] rB (dI [23] (iR (aD.cs (aR pb i2))) (dI [20,24] (bI func20 (p8 (aR pa i2) (aR pb i2) _ z6)) (dI [25] LI (dN ?_)))))))))))))
   refine bE H (fun h8 H=>gE 4) fun h8 H=>?_;exact gE 6
  exact gE 0
 rintro⟨⟩ H
 exact gE 4
mutual
def fI:Nat→aD→aD→J Bool
 |0,_,_=>none
 |fu+1,pa,pb=>xI fu (fI fu) (nW fu) pa pb
def nW:Nat→(Z aD)→(Z aD)→J Bool
 |0,_,_=>none
 |fu+1,pa,pb=>OD fu (fI fu) (nW fu) pa pb
end
theorem NW(fu:Nat):oM (fI fu)∧G8 (nW fu):=by
 induction fu with
 |zero=>exact⟨(fun pa pb r H=>by simp only [fI] at H;cases H),(fun pa pb r H=>by simp only [nW] at H;cases H)⟩
 |succ fu ih=>exact⟨(fun pa pb r H=>by simp only [fI] at H;exact LM fu (fI fu) (nW fu) ih.1 ih.2 pa pb r H),(fun pa pb r H=>by simp only [nW] at H;exact aaQ fu (fI fu) (nW fu) ih.1 ih.2 pa pb r H)⟩
theorem QA(fu:Nat):oM (fI fu):=(NW fu).1
abbrev xS:=aD→Option aD
abbrev qC:=(List aD)→Option ((List aD))
def C6(m:xS):Prop:= ∀(pe:aD) (r:aD),m pe=some r→bS prog 129 [(aD.pv pe)] ((aD.pv r):PV)
def wF(m:qC):Prop:= ∀(p7:Z aD) (r:(Z aD)),m p7=some r→BO prog 168 [cO p7] ⟨[],[]⟩ [] 55 5 (aD.trs (r)) (fun k=>sW r k)
theorem aaO{m:qC}(h:wF m)(p7:Z aD)(r:(Z aD))(H:m p7=some r):bS prog 168 [cO p7] (cO r:PV):=(h p7 r H).plain (fun _=>kA) (hp:=adB)
def OC(fu:Nat)(p5:xS)(p3:qC)(pe:aD):J aD:=bd (p3 pe.aD5) fun x2=>some (aD.mk pe.aD8 pe.aEM pe.aEr x2)
theorem aaP(fu:Nat)(p5:xS)(p3:qC)(pE:C6 p5)(pC:wF p3):C6 (OC fu p5 p3):=by
 intro pe r H
 refine qJ func129 H (fun C hC H=>?_)
 refine gQ 2 ?_;refine q1 (fN (fW pe)) ?_;refine gQ 6 ?_;refine bM H fun x2 z1 H=>(q1 (bI func168 (aaO (pC) pe.aD5 _ z1)) ?_)
 refine gQ 5 ?_;refine q1 (b5 [pI pe.aD8,pI pe.aEM,pI pe.aEr.aEf,pI pe.aEr.aEr,cO x2]) ?_;exact gE 2
def ML(fu:Nat)(p5:xS)(p3:qC)(p7:Z aD):Nat→((Z aD))→J (LR ((Z aD)) ((Z aD))):=fun i1 v3=>bd (p5 (aR p7 i1)) fun x7=>gd ((v3).length+(([x7]:Z aD)).length≤68719476736) (some (.next (v3++([x7]:Z aD))))
def G7(fu:Nat)(p5:xS)(p3:qC)(p7:Z aD):J ((Z aD)):=so (loopN (ML fu p5 p3 p7) (p7.length-0) 0 ([])) fun v3=>some v3
theorem VA(fu:Nat)(p5:xS)(p3:qC)(pE:C6 p5)(pC:wF p3):wF (G7 fu p5 p3):=by
 intro p7 r H
 unfold BO
 refine qJ func168 H (fun C hC H=>?_)
 refine gQ 6 ?_;refine q1 (sA ([]:Z aD)) ?_;refine gQ 7 ?_;refine gM 0 (aD.trs_len _) (fun hl4=>?_)
 try dsimp only at hl4
 refine bV (σ:=(Z aD)) (fun i1 v3=>⟨[(0,cO p7),(2,.nil),(3,sW v3 0),(4,pN i1)],⟨[],[⟨55,5,aD.trs (v3),false⟩]⟩⟩) (fun v3=>⟨[(2,.nil),(3,sW v3 0)],⟨[],[⟨55,5,aD.trs (v3),false⟩]⟩⟩) (eX H) ?_ ?_
 ·rintro i1 v3 H
  refine gQ 8 ?_;refine c5 H (fun h5 h5l H=>?_) (fun h5 H=>?_)
  ·refine gQ 8 ?_;refine q1 (iR (aD.cs (aR p7 i1))) (bM H fun x7 z6 H=>(q1 (bI func129 (pE (aR p7 i1) _ z6)) (q1 (sA ([x7]:Z aD)) (cK H fun z8 H=>(q1 (mA z8) ?_)))))
   exact gE 7
  exact gE 0
 rintro v3 H
 refine gQ 5 ?_;refine c7.ret ?_
 obtain rfl:_=r:=(wL H:)
 exact XH (st':=⟨[],[⟨55,5,aD.trs (v3),false⟩]⟩) ⟨0,rfl,rfl,rfl⟩
mutual
def kU:Nat→aD→J aD
 |0,_=>none
 |fu+1,pe=>OC fu (kU fu) (lX fu) pe
def lX:Nat→(Z aD)→J ((Z aD))
 |0,_=>none
 |fu+1,p7=>G7 fu (kU fu) (lX fu) p7
end
theorem aeK(fu:Nat):C6 (kU fu)∧wF (lX fu):=by
 induction fu with
 |zero=>exact⟨(fun pe r H=>by simp only [kU] at H;cases H),(fun p7 r H=>by simp only [lX] at H;cases H)⟩
 |succ fu ih=>exact⟨(fun pe r H=>by simp only [kU] at H;exact aaP fu (kU fu) (lX fu) ih.1 ih.2 pe r H),(fun p7 r H=>by simp only [lX] at H;exact VA fu (kU fu) (lX fu) ih.1 ih.2 p7 r H)⟩
theorem ah7(fu:Nat):C6 (kU fu):=(aeK fu).1
def yZ(fu:Nat)(pe:aD)(p6:Z Int)(x2:aD):Nat→(Int×Int×Int×Int×(Z aD))→J (LR (Int×Int×Int×Int×(Z aD)) aD):=fun i3 (v4,v5,v6,v7,v8)=>some (.next (3,(aR p6 i3),0,0,([(aD.mk v4 v5 (aE.mk v6 v7) v8)]:Z aD)))
def jY(fu:Nat)(pe:aD)(p6:Z Int):J aD:=bd (kU fu pe) fun x2=>so (loopN (yZ fu pe p6 x2) (p6.length-0) 0 (x2.aD8,x2.aEM,x2.aEr.aEf,x2.aEr.aEr,x2.aD5)) fun(v4,v5,v6,v7,v8)=>some (aD.mk v4 v5 (aE.mk v6 v7) v8)
theorem zA(fu:Nat)(pe:aD)(p6:Z Int)(r:aD)(H:jY fu pe p6=some r):bS prog 120 [(aD.pv pe),rI p6] ((aD.pv r)):=by
 refine qJ func120 H (fun C hC H=>?_)
 refine gQ 2 ?_;refine q1 (fN (fW pe)) ?_;refine gQ 4 ?_;refine q1 (b5 [pI pe.aD8,pI pe.aEM,pI pe.aEr.aEf,pI pe.aEr.aEr,cO pe.aD5]) (bM H fun x2 z1 H=>(q1 (bI func129 (ah7 fu pe _ z1)) ?_))
 refine gQ 8 ?_;refine gM 1 (gB _) (fun hl9=>?_)
 try dsimp only at hl9
 refine bV (σ:=Int×Int×Int×Int×(Z aD)) (fun i3 (v4,v5,v6,v7,v8)=>⟨[(1,rI p6),(4,.ptr 1 0),(5,.ptr 2 0),(6,pN i3)],⟨[some ⟨55,fW pe⟩,some ⟨55,[pI 0,pI 0,pI 0,pI 0,.nil]⟩,some ⟨55,[pI v4,pI v5,pI v6,pI v7,cO v8]⟩],[]⟩⟩) (fun(v4,v5,v6,v7,v8)=>⟨[(4,.ptr 1 0),(5,.ptr 2 0)],⟨[some ⟨55,fW pe⟩,some ⟨55,[pI 0,pI 0,pI 0,pI 0,.nil]⟩,some ⟨55,[pI v4,pI v5,pI v6,pI v7,cO v8]⟩],[]⟩⟩) (eX H) ?_ ?_
 ·rintro i3 ⟨v4,v5,v6,v7,v8⟩ H
  refine gQ 8 ?_;refine c5 H (fun h10 h10l H=>?_) (fun h10 H=>?_)
  ·refine gQ 3 ?_;refine dW (dI [1] bG (dI [6] bG (dI [15,16] rB (dI [17] yB (dD [5] (b5 [pI v4,pI v5,pI v6,pI v7,cO v8]) (dI [19] (iQ ([(aD.mk v4 v5 (aE.mk v6 v7) v8)]:Z aD)) (dI [18,20] rR (mK [5,21] lT (dN ?_)))))))))
   exact gE 5
  exact gE 0
 rintro⟨v4,v5,v6,v7,v8⟩ H
 refine gQ 2 ?_;refine q1 (b5 [pI v4,pI v5,pI v6,pI v7,cO v8]) ?_;exact gE 2
abbrev mQ:=aD→Option aD
abbrev l3:=(List aD)→Option ((List aD))
def qP(m:mQ):Prop:= ∀(pe:aD) (r:aD),m pe=some r→bS prog 80 [(aD.pv pe)] ((aD.pv r):PV)
def s5(m:l3):Prop:= ∀(pl:Z aD) (r:(Z aD)),m pl=some r→bS prog 77 [cO pl] (.lit 5 (aD.trs (r)):PV)
def zR(fu:Nat)(p2:mQ)(p1:l3)(pe:aD):J aD:=bd (p1 pe.aD5) fun x2=>some (aD.mk pe.aD8 pe.aEM pe.aEr x2)
theorem M7(fu:Nat)(p2:mQ)(p1:l3)(pA:qP p2)(p9:s5 p1):qP (zR fu p2 p1):=by
 intro pe r H
 refine qJ func80 H (fun C hC H=>?_)
 refine gQ 2 ?_;refine q1 (fN (fW pe)) ?_;refine gQ 6 ?_;refine bM H fun x2 z1 H=>(q1 (rCl func77 (p9 pe.aD5 _ z1)) ?_)
 refine gQ 5 ?_;refine q1 (b5 [pI pe.aD8,pI pe.aEM,pI pe.aEr.aEf,pI pe.aEr.aEr,.lit 5 (aD.trs (x2))]) ?_;exact gE 2
def DQ(fu:Nat)(p2:mQ)(p1:l3)(pl:Z aD):Nat→((Z aD))→J (LR ((Z aD)) ((Z aD))):=fun i2 v3=>bd (p2 (aR pl i2)) fun x7=>gd (i2=(v3).length) (some (.next (v3++([x7]:Z aD))))
def wY(fu:Nat)(p2:mQ)(p1:l3)(pl:Z aD):J ((Z aD)):=gd (pl.length≤68719476736) (so (loopN (DQ fu p2 p1 pl) (pl.length-0) 0 ([])) fun v3=>gd ((v3).length=pl.length) (some v3))
theorem LH(fu:Nat)(p2:mQ)(p1:l3)(pA:qP p2)(p9:s5 p1):s5 (wY fu p2 p1):=by
 intro pl r H
 refine qJ func77 H (fun C hC H=>?_)
 refine gQ 8 ?_;refine cK H fun z1 H=>(q1 (bC.makeSlice (N:=pl.length) rfl rfl rfl rfl avX.h azV.h (by decide) (Nat.le_trans (Nat.mul_le_mul_left _ z1) (by decide)) (Nat.le_trans z1 (by decide))) ?_)
 refine gQ 9 ?_;refine gM 0 (aD.trs_len _) (fun hl4=>?_)
 try dsimp only at hl4
 refine bV (σ:=(Z aD)) (fun i2 v3=>⟨[(2,.nil),(3,.full 5 (pl.length) 0),(9,cO pl),(10,pN pl.length),(11,pN i2)],⟨[],[⟨55,5,aD.trs (v3),true⟩]⟩⟩) (fun v3=>⟨[(2,.nil),(3,.full 5 (pl.length) 0)],⟨[],[⟨55,5,aD.trs (v3),true⟩]⟩⟩) (eX H) ?_ ?_
 ·rintro i2 v3 H
  refine gQ 5 ?_;refine c5 H (fun h5 h5l H=>?_) (fun h5 H=>?_)
  ·refine gQ 7 ?_;refine q1 (iR (aD.cs (aR pl i2))) ?_;refine gQ 7 ?_;refine q1 (b5 [pI ((aR pl i2).aD8),pI ((aR pl i2).aEM),pI ((aR pl i2).aEr.aEf),pI ((aR pl i2).aEr.aEr),cO ((aR pl i2).aD5)]) (bM H fun x7 z6 H=>(q1 (bI func80 (pA (aR pl i2) _ z6)) (q1 (bC.indexFull (k:=i2) rfl rfl rfl rfl h5l avX.h) (cK H fun z8 H=>?_))))
   refine q1 (bC.storeRptr (e:=aD.cs x7) (es2:=aD.trs (v3++([x7]:Z aD))) 16 rfl rfl rfl rfl rfl rfl kA rfl rfl azS.h (by rw [aD.trs_len];exact z8) h5l (by rw [aD.trs_map,aD.trs_map,List.map_append];simp [aD.tr_cs])) ?_;exact gE 5
  exact gE 0
 rintro v3 H
 refine gQ 3 ?_;refine cK H fun z9 H=>?_;refine AL.weak (Wk.fullLit (i:=22) rfl rfl (by rw [aD.trs_len];exact z9)) ?_;exact gE 2
mutual
def eU:Nat→aD→J aD
 |0,_=>none
 |fu+1,pe=>zR fu (eU fu) (iA fu) pe
def iA:Nat→(Z aD)→J ((Z aD))
 |0,_=>none
 |fu+1,pl=>wY fu (eU fu) (iA fu) pl
end
theorem PT(fu:Nat):qP (eU fu)∧s5 (iA fu):=by
 induction fu with
 |zero=>exact⟨(fun pe r H=>by simp only [eU] at H;cases H),(fun pl r H=>by simp only [iA] at H;cases H)⟩
 |succ fu ih=>exact⟨(fun pe r H=>by simp only [eU] at H;exact M7 fu (eU fu) (iA fu) ih.1 ih.2 pe r H),(fun pl r H=>by simp only [iA] at H;exact LH fu (eU fu) (iA fu) ih.1 ih.2 pl r H)⟩
theorem RW(fu:Nat):qP (eU fu):=(PT fu).1
def yM(fu:Nat)(pe:aD)(p6:Z Int)(x2:aD):Nat→(Int×Int×Int×Int×(Z aD))→J (LR (Int×Int×Int×Int×(Z aD)) aD):=fun i3 (v4,v5,v6,v7,v8)=>some (.next (3,(aR p6 i3),0,0,([(aD.mk v4 v5 (aE.mk v6 v7) v8)]:Z aD)))
def iF(fu:Nat)(pe:aD)(p6:Z Int):J aD:=bd (eU fu pe) fun x2=>so (loopN (yM fu pe p6 x2) (p6.length-0) 0 (x2.aD8,x2.aEM,x2.aEr.aEf,x2.aEr.aEr,x2.aD5)) fun(v4,v5,v6,v7,v8)=>some (aD.mk v4 v5 (aE.mk v6 v7) v8)
theorem yN(fu:Nat)(pe:aD)(p6:Z Int)(r:aD)(H:iF fu pe p6=some r):bS prog 114 [(aD.pv pe),rI p6] ((aD.pv r)):=by
 refine qJ func114 H (fun C hC H=>?_)
 refine gQ 2 ?_;refine q1 (fN (fW pe)) ?_;refine gQ 4 ?_;refine q1 (b5 [pI pe.aD8,pI pe.aEM,pI pe.aEr.aEf,pI pe.aEr.aEr,cO pe.aD5]) (bM H fun x2 z1 H=>(q1 (bI func80 (RW fu pe _ z1)) ?_))
 refine gQ 10 ?_;refine gM 1 (gB _) (fun hl9=>?_)
 try dsimp only at hl9
 refine bV (σ:=Int×Int×Int×Int×(Z aD)) (fun i3 (v4,v5,v6,v7,v8)=>⟨[(4,.ptr 1 0),(5,.ptr 2 0),(10,rI p6),(11,pN p6.length),(12,pN i3)],⟨[some ⟨55,fW pe⟩,some ⟨55,[pI 0,pI 0,pI 0,pI 0,.nil]⟩,some ⟨55,[pI v4,pI v5,pI v6,pI v7,cO v8]⟩],[]⟩⟩) (fun(v4,v5,v6,v7,v8)=>⟨[(4,.ptr 1 0),(5,.ptr 2 0)],⟨[some ⟨55,fW pe⟩,some ⟨55,[pI 0,pI 0,pI 0,pI 0,.nil]⟩,some ⟨55,[pI v4,pI v5,pI v6,pI v7,cO v8]⟩],[]⟩⟩) (eX H) ?_ ?_
 ·rintro i3 ⟨v4,v5,v6,v7,v8⟩ H
  refine gQ 5 ?_;refine c5 H (fun h10 h10l H=>?_) (fun h10 H=>?_)
  ·refine gQ 11 ?_;refine q1 (b5 [pI v4,pI v5,pI v6,pI v7,cO v8]) (q1 (iQ ([(aD.mk v4 v5 (aE.mk v6 v7) v8)]:Z aD)) ?_)
   exact gE 7
  exact gE 0
 rintro⟨v4,v5,v6,v7,v8⟩ H
 refine gQ 2 ?_;refine q1 (b5 [pI v4,pI v5,pI v6,pI v7,cO v8]) ?_;exact gE 2
end
end Go.Proofs.YtfcoaagbccmahaaGreat.W

namespace Go.Proofs.YtfcoaagbccmahaaGreat
open Go.RowKit Go.WalkArith Go.IntWalk Go.WideShapes
theorem af4(l:Z aA)(hl:l.length≤68719476735):BO Tryz.prog 107 [aT l] ⟨[],[]⟩ [] 30 3 (aA.trs l) (fun k=> .acc 3 (aA.trs l) k):=by
 unfold BO
 refine qI Tryz.func107 (fun C hC=>?_)
 refine gQ 8 ?_;refine AL.nilQ Tryz.underlying28 (fun b hb=>?_)
 refine gQ 1 ?_;refine c7.cond (b:=b) rfl (fun hb'=>?_) (fun hb'=>?_)
 ·obtain rfl:l= []:=by
   have:=hb hb'
   cases l with
   |nil=>rfl
   |cons a l=>simp [aA.trs] at this
  refine gQ 4 ?_;refine c7.wk (Wk.reg (i:=2) 30 3 (by decide) rfl) (c7.ret ?_)
  exact XH (st':=⟨[],[⟨30,3,aA.trs [],false⟩]⟩) ⟨0,rfl,rfl,rfl⟩
 refine gQ 3 ?_;refine q1 (sA ([]:Z aA)) (q1 bG (q1 (mA (a:= []) (b:=l) (by simpa using Nat.le_succ_of_le hl)) ?_))
 refine gQ 2 ?_;refine c7.ret ?_;exact XH (st':=⟨[],[⟨30,3,aA.trs l,false⟩]⟩) ⟨0,rfl,rfl,rfl⟩
end Go.Proofs.YtfcoaagbccmahaaGreat

namespace Go.Proofs.YtfcoaagbccmahaaGreat.W
open Tryz Go.RowKit Go.Proofs
mutual
def lC(l:Z aK):aA→aA
 | .mk k n xs=>if k=1 then(if JD l n=true then EN l n else .mk k n (IT l xs)) else .mk k n (IT l xs)
def IT(l:Z aK):Z aA→Z aA
 | []=> []
 |x::r=>lC l x::IT l r
end
theorem GD(l:Z aK): ∀xs,IT l xs=xs.map (lC l)
 | []=>rfl
 |x::r=>by rw [IT,GD l r,List.map_cons]
theorem adI{l:Z aK}{xs:Z aA}(hb:xs.length≤68719476735)(h: ∀x∈xs,bR fun fu=>sO fu l x=some (lC l x)):bR fun fu=>nE fu l xs=some (IT l xs):=by
 refine bR.succ ((bR.list h).imp fun fu hf=>?_)
 simp only [nE,JI]
 rw [NR (g:=lC l) fun i s hi hp=>?_,GD]
 ·rfl
 ·rw [P9,gD (hf _ (cB hi)) rfl,jC (by simp;omega) rfl]
theorem aoA{l:Z aK}(hl:r7 l): ∀t:aA,iV t→bR fun fu=>sO fu l t=some (lC l t):=by
 refine aA.ind fun k n xs ih hb=>?_
 have h1:=hb.len
 refine bR.succ ((adI (l:=l) (xs:=xs) h1 fun x hx=>ih x hx (BV (t:= .mk k n xs) hx hb)).imp fun fu hf=>?_)
 simp only [sO,XN,aA.aD8.eq_1,aA.aD4.eq_1,aA.aD5.eq_1,hf,lC]
 by_cases hk:k=1
 ·rw [if_pos hk]
  refine hH (decide_eq_true hk) (jC hl ?_)
  cases JD l n<;>rfl
 ·rw [if_neg hk]
  exact fZ (decide_eq_false hk) rfl
theorem abQ(l:Z aK)(t:aA)(hl:r7 l)(hb:iV t):bS prog 110 [.t (.row 4 (aK.trs l)),(aA.pv t)] (aA.pv (lC l t)):=by
 obtain⟨fu,h⟩:=(aoA hl t hb).get
 exact aoB fu l t _ h
theorem acY{l:Z aK}{xs:Z aA}(hb:xs.length≤68719476735)(h: ∀x∈xs,bR fun fu=>sI fu l x=some (lC l x)):bR fun fu=>m6 fu l xs=some (IT l xs):=by
 refine bR.succ ((bR.list h).imp fun fu hf=>?_)
 simp only [m6,IY]
 refine jC (by omega) ?_
 rw [NR (g:=lC l) fun i s hi hp=>?_,GD]
 ·exact jC (by simp) rfl
 ·rw [PH,gD (hf _ (cB hi)) rfl,jC hp.symm rfl]
theorem anM{l:Z aK}(hl:r7 l): ∀t:aA,iV t→bR fun fu=>sI fu l t=some (lC l t):=by
 refine aA.ind fun k n xs ih hb=>?_
 have h1:=hb.len
 refine bR.succ ((acY (l:=l) (xs:=xs) h1 fun x hx=>ih x hx (BV (t:= .mk k n xs) hx hb)).imp fun fu hf=>?_)
 simp only [sI,WN,aA.aD8.eq_1,aA.aD4.eq_1,aA.aD5.eq_1,hf,lC]
 by_cases hk:k=1
 ·rw [if_pos hk,WU fu l n hl]
  refine hH (decide_eq_true hk) ?_
  unfold JD EN
  cases E6 l n<;>rfl
 ·rw [if_neg hk]
  exact fZ (decide_eq_false hk) rfl
theorem RQ(l:Z aK)(t:aA)(hl:r7 l)(hb:iV t):bS prog 16 [.t (.row 4 (aK.trs l)),(aA.pv t)] (aA.pv (lC l t)):=by
 obtain⟨fu,h⟩:=(anM hl t hb).get
 exact anN fu l t _ h
theorem abI{σ β:Type}{F:Nat→σ→J (LR σ β)}{x:β}: ∀k i v,loopN F k i v=some (.inl x)→ ∃j u,F j u=some (.ret x)
 |0,i,v,h=>by rw [loopN] at h;cases h
 |k+1,i,v,h=>by
  rw [loopN] at h
  cases hf:F i v with
  |none=>rw [hf] at h;cases h
  |some y=>
   rw [hf] at h
   cases y with
   |next s=>exact abI k (i+1) s h
   |brk s=>cases h
   |ret z=>cases h;exact⟨i,v,hf⟩
theorem agR{fu:Nat}{s a b:Z aK}{ps ts:Z aA}(h:fO fu s ps ts=some (a,false,b)):a= []:=by
 cases fu with
 |zero=>rw [fO] at h;cases h
 |succ fu=>
  rw [fO] at h
  unfold yQ at h
  cases hd:(!decide ((((ps.length:Nat):Int):Int)=((ts.length:Nat):Int))) with
  |true=>rw [hd] at h;cases h;rfl
  |false=>
   rw [hd] at h
   obtain⟨y,hy,H⟩:=eX (hd0 (show so _ _=some (a,false,b) from h))
   cases y with
   |inr v=>
    have H2:Hd (some (v,true,v)) (fun r=>r=(a,false,b)):=H
    have e:(v,true,v)=(a,false,b):=wL (K:=fun r=>r=(a,false,b)) H2
    cases e
   |inl r=>
    obtain⟨j,u,hf⟩:=abI _ _ _ hy
    have hr:r=(a,false,b):=H
    subst hr
    unfold AY at hf
    obtain⟨z,hz,H⟩:=bdI (gdI (hd0 hf)).2
    obtain⟨z1,z2,z3⟩:=z
    cases z2 with
    |true=>exact absurd (wL (gdI H).2) (by simp)
    |false=>
     have e:=wL H
     cases e
     rfl
theorem aa7(p t:aA)(hp:Tr.bulkL p.tr≤68719476735)(ht:iV t):bS prog 119 [(aA.pv p),(aA.pv t)] (.tup [.t (.row 4 (aK.trs (gJ p t))),.t (.leaf (.bool (mO p t)))]):=by
 obtain⟨fu,hf⟩:=(aa6 p).get
 refine aa8 (fu+1) p t (gJ p t,mO p t) ?_
 have h1:=acX (fu:=fu) (ps:= [p]) (by simpa using hf) (ts:= [t]) (s:= []) rfl (by simpa using ht) r7.nil (by rw [VU];simp only [List.length_nil];omega)
 rw [GQ] at h1
 unfold PM mO gJ
 cases hq:kP p t [] with
 |none=>
  rw [hq] at h1
  obtain⟨a,b,h1⟩:=h1
  obtain rfl:=agR h1
  exact gD h1 (fZ rfl rfl)
 |some s=>
  rw [hq] at h1
  exact gD h1 (hH rfl (jC rfl rfl))
end Go.Proofs.YtfcoaagbccmahaaGreat.W

namespace Go.Proofs.YtfcoaagbccmahaaGreat.W
open Go.RowKit Go.Proofs
attribute [local irreducible] lt
theorem PF{l:LB}{s:Y}:vK l s=true↔s∈l:=by
 unfold vK
 rw [List.any_eq_true]
 constructor
 ·rintro⟨x,hx,h⟩
  rw [decide_eq_true_eq] at h
  exact h ▸ hx
 ·exact fun h=>⟨s,h,decide_eq_true rfl⟩
def DI(w:aH):LB:=w.aD3.flatMap fun p=>p.aEi.flatMap fun t=>t.aEc
theorem acV{α β:Type}[Wt α](f:α→Z β)(h: ∀x,(f x).length≤wt x): ∀l:Z α,(l.flatMap f).length≤wl l
 | []=>Nat.zero_le _
 |x::l=>by
  rw [List.flatMap_cons,List.length_append,ae4]
  have:=h x
  have:=acV f h l
  omega
theorem afT{w:aH}(hw:wt w≤13000000):(DI w).length≤13000000:=by
 have h:=acV (fun p:aN=>p.aEi.flatMap fun t=>t.aEc) (fun p=>by
  have h1:=acV (fun t:aU=>t.aEc) (fun t=>by
   have:=aU.wt_eq t
   have:=bA t.aEc
   omega) p.aEi
  have:=aN.wt_eq p
  omega) w.aD3
 have:=aH.wt_eq w
 unfold DI
 omega
theorem QX{w:aH}{n s:Y}(h:s∈(nZ w n).1.aEc):s∈DI w:=by
 unfold nZ at h
 cases hq:(List.range' 0 w.aD3.length).findSome? (tQ w n) with
 |none=>rw [hq] at h;cases h
 |some r=>
  rw [hq] at h
  obtain⟨i,hi,hq⟩:=List.exists_of_findSome?_eq_some hq
  unfold tQ at hq
  obtain⟨k,hk,hq⟩:=List.exists_of_findSome?_eq_some hq
  rw [List.mem_range'_1] at hi hk
  split at hq
  ·cases hq
   exact List.mem_flatMap.2 ⟨_,cB (by omega:i<w.aD3.length),List.mem_flatMap.2 ⟨_,cB (by omega:k<(aR w.aD3 i).aEi.length),h⟩⟩
  ·cases hq
def GO(U:LB)(v:LB):Nat:=U.countP fun s=> !vK v s
theorem agO{U v v':LB}(h: ∀x∈v,x∈v'):GO U v'≤GO U v:=by
 refine List.countP_mono_left fun x _ hx=>?_
 rw [Bool.not_eq_true',Bool.eq_false_iff,ne_eq,PF] at hx ⊢
 exact fun k=>hx (h x k)
theorem abG{v:LB}{s:Y}(hn:vK v s=false): ∀ {U:LB},s∈U→GO U (v++ [s])<GO U v
 |x::U,h=>by
  have hm:=agO (U:=U) (v:=v) (v':=v++ [s]) fun x hx=>List.mem_append_left _ hx
  unfold GO at hm ⊢
  rw [List.countP_cons,List.countP_cons]
  by_cases hx:x=s
  ·subst hx
   have h1:vK (v++ [x]) x=true:=PF.2 (by simp)
   rw [h1,hn]
   simp only [Bool.not_true,Bool.not_false,if_true]
   simp
   omega
  ·have ih:=abG hn (U:=U) (by
    rcases List.mem_cons.1 h with h|h
    ·exact absurd h.symm hx
    ·exact h)
   unfold GO at ih
   have h1:(if(!vK (v++ [s]) x)=true then 1 else 0)≤(if(!vK v x)=true then 1 else 0:Nat):=by
    cases hq:vK v x with
    |true=>
     have:vK (v++ [s]) x=true:=PF.2 (List.mem_append_left _ (PF.1 hq))
     rw [this]
     exact Nat.le_refl _
    |false=>cases vK (v++ [s]) x<;>simp
   omega
def L8(w:aH):Nat→LB→Y→LB
 |0,out,_=>out
 |n+1,out,name=>(nZ w name).1.aEc.foldl (fun v s=>if vK v s=true then v else L8 w n (v++ [s]) s) out
def SOk(w:aH)(m:Nat)(v:LB):Prop:=v.length+GO (DI w) v≤13000000∧GO (DI w) v≤m
theorem RM{σ α:Type}(P:σ→Prop){g:σ→α→σ}: ∀ {l:Z α} {v:σ},(∀v x,x∈l→P v→P (g v x))→P v→P (l.foldl g v)
 | [],v,_,h=>h
 |x::l,v,hs,h=>RM P (l:=l) (fun v y hy=>hs v y (List.mem_cons_of_mem _ hy)) (hs v x (by simp) h)
theorem QF{w:aH}{m:Nat}{v:LB}{s:Y}(h:SOk w m v)(hs:s∈DI w)(hn:vK v s=false):SOk w (m-1) (v++ [s])∧0<m∧v.length<13000000:=by
 have h1:=abG hn hs
 obtain⟨h2,h3⟩:=h
 refine⟨⟨?_,by omega⟩,by omega,by omega⟩
 rw [List.length_append,List.length_singleton]
 omega
theorem SOk.le{w:aH}{m k:Nat}{v:LB}(h:SOk w m v)(hk:m≤k):SOk w k v:=⟨h.1,Nat.le_trans h.2 hk⟩
theorem QW{w:aH}: ∀n m out name,SOk w m out→SOk w m (L8 w n out name)
 |0,m,out,name,h=>h
 |n+1,m,out,name,h=>by
  rw [L8]
  refine RM (SOk w m) (fun v s hs hv=>?_) h
  split
  ·exact hv
  ·rename_i hn
   exact(QW n (m-1) _ s (QF hv (QX hs) (by simpa using hn)).1).le (by omega)
theorem al7{w:aH}: ∀n m out name,SOk w m out→13000001+m<n→iT n w out name=some (L8 w n out name)
 |0,m,out,name,_,h=>by omega
 |n+1,m,out,name,h,hn=>by
  rw [iT,L8]
  unfold CG
  rw [w6]
  show so (loopN (zT n (iT n) w out name (nZ w name).1 (nZ w name).2.1 (nZ w name).2.2) ((nZ w name).1.aEc.length-0) 0 out) _=_
  rw [lF (l:=(nZ w name).1.aEc) (g:=fun v s=>if vK v s=true then v else L8 w n (v++ [s]) s) (fun _ v=>SOk w m v) (fun i v hi hv=>by
   unfold zT
   have hs:=QX (cB hi)
   generalize aR (nZ w name).1.aEc i=s at hs ⊢
   rw [O4]
   show sw (!vK v s) _ _=_∧_
   cases hq:vK v s with
   |true=>exact⟨rfl,hv⟩
   |false=>
    obtain⟨k1,k2,k3⟩:=QF hv hs hq
    exact⟨jC (by simp only [List.length_singleton];omega) (gD (al7 n (m-1) _ s k1 (by omega)) rfl),(QW n (m-1) _ s k1).le (by omega)⟩) h]
  rfl
theorem amJ{w:aH}(hw:wt w≤13000000): ∀n m out name,SOk w m out→13000001+m<n→lA n w name out=some (L8 w n out name)
 |0,m,out,name,_,h=>by omega
 |n+1,m,out,name,h,hn=>by
  rw [lA,L8]
  unfold G6
  rw [DZ n w name (aH.small_wt hw (by omega))]
  show so (loopN (EX n (lA n) w name out (nZ w name).1 (nZ w name).2.1 (nZ w name).2.2) ((nZ w name).1.aEc.length-0) 0 out) _=_
  rw [lF (l:=(nZ w name).1.aEc) (g:=fun v s=>if vK v s=true then v else L8 w n (v++ [s]) s) (fun _ v=>SOk w m v) (fun i v hi hv=>by
   unfold EX
   have hs:=QX (cB hi)
   generalize aR (nZ w name).1.aEc i=s at hs ⊢
   rw [TB]
   show sw (!vK v s) _ _=_∧_
   cases hq:vK v s with
   |true=>exact⟨rfl,hv⟩
   |false=>
    obtain⟨k1,k2,k3⟩:=QF hv hs hq
    exact⟨jC (by simp only [List.length_singleton];omega) (gD (amJ hw n (m-1) _ s k1 (by omega)) rfl),(QW n (m-1) _ s k1).le (by omega)⟩) h]
  rfl
def wM(fu:Nat)(w:aH)(name:Y):LB:=L8 w fu [] name
theorem VN{w:aH}(hw:wt w≤13000000):SOk w 13000000 []:=by
 have h:=afT hw
 have h1:GO (DI w) []≤(DI w).length:=List.countP_le_length
 refine⟨?_,?_⟩
 ·rw [List.length_nil];omega
 ·omega
theorem ajL{fu:Nat}{w:aH}(hw:wt w≤13000000)(hf:27000000≤fu)(name:Y):rT fu w name=some (wM fu w name):=by
 unfold rT wM
 rw [al7 fu 13000000 [] name (VN hw) (by omega)]
 rfl
theorem aj8{fu:Nat}{w:aH}(hw:wt w≤13000000)(hf:27000000≤fu)(name:Y):rW fu w name=some (wM fu w name):=by
 unfold rW wM
 rw [amJ hw fu 13000000 [] name (VN hw) (by omega)]
 rfl
theorem Y2{fu:Nat}{w:aH}(hw:wt w≤13000000)(name:Y):(wM fu w name).length≤13000000:=by
 have h:=(QW fu 13000000 [] name (VN hw)).1
 unfold wM
 omega
def ED(w:aH)(a:Y)(f:Y→Z Int×Bool)(i:Nat):J (Z Int×Bool):=if(f (aR (nZ w a).1.aEc i)).2=true then some ([((i:Nat):Int)]++(f (aR (nZ w a).1.aEc i)).1,true) else none
def f9(w:aH):Nat→Y→Y→Z Int×Bool
 |0,a,b=>if a=b then([],true) else([],false)
 |k+1,a,b=>if a=b then([],true) else((List.range' 0 (nZ w a).1.aEc.length).findSome? (ED w a fun s=>f9 w k s b)).getD ([],false)
theorem FS(w:aH): ∀k a b,(f9 w k a b).1.length≤k
 |0,a,b=>by rw [f9];split<;>exact Nat.le_refl _
 |k+1,a,b=>by
  rw [f9]
  split
  ·exact Nat.zero_le _
  ·cases h:(List.range' 0 (nZ w a).1.aEc.length).findSome? (ED w a fun s=>f9 w k s b) with
   |none=>exact Nat.zero_le _
   |some r=>
    obtain⟨i,hi,h⟩:=List.exists_of_findSome?_eq_some h
    unfold ED at h
    split at h
    ·cases h
     have:=FS w k (aR (nZ w a).1.aEc i) b
     show([((i:Nat):Int)]++(f9 w k (aR (nZ w a).1.aEc i) b).1).length≤_
     rw [List.length_append,List.length_singleton]
     omega
    ·cases h
theorem agC{w:aH}: ∀k n a b,k≤8→k<n→mR n w a b ((k:Nat):Int)=some (f9 w k a b)
 |k,0,a,b,_,h=>by omega
 |0,n+1,a,b,hk,hn=>by
  rw [mR,f9]
  unfold KH
  by_cases h:a=b
  ·rw [if_pos h];exact hH (decide_eq_true h) rfl
  ·rw [if_neg h];exact fZ (decide_eq_false h) (hH rfl rfl)
 |k+1,n+1,a,b,hk,hn=>by
  rw [mR,f9]
  unfold KH
  by_cases h:a=b
  ·rw [if_pos h];exact hH (decide_eq_true h) rfl
  ·rw [if_neg h]
   refine fZ (decide_eq_false h) (fZ (decide_eq_false (by omega)) ?_)
   rw [w6]
   have hl:=o9 (f:=M9 n (mR n) w a b ((k+1:Nat):Int) (nZ w a).1 (nZ w a).2.1 (nZ w a).2.2) (q:=ED w a fun s=>f9 w k s b) (fun r=>r) (s:=()) (n:=(nZ w a).1.aEc.length) (fun i hi=>by
    unfold M9 ED
    generalize aR (nZ w a).1.aEc i=s
    have h1:=FS w k s b
    rw [show aW (((k+1:Nat):Int)-1)=((k:Nat):Int) from by rw [LC (by omega) (by omega)];omega,agC k n s b (by omega) (by omega)]
    show sw (f9 w k s b).2 _ _=_
    cases h2:(f9 w k s b).2 with
    |true=>exact jC (by simp only [List.length_singleton];omega) (by rw [if_pos rfl])
    |false=>rw [if_neg (by simp)];rfl) _ 0 rfl
   show so (NA n (mR n) w a b ((k+1:Nat):Int) (nZ w a).1 (nZ w a).2.1 (nZ w a).2.2) _=_
   unfold NA
   refine(congrArg (fun x=>so x _) hl).trans ?_
   simp only [Nat.sub_zero]
   cases(List.range' 0 (nZ w a).1.aEc.length).findSome? (ED w a fun s=>f9 w k s b)<;>rfl
theorem agB(fu:Nat)(hf:100≤fu)(w:aH)(a b:Y):lK fu w a b=some (f9 w 8 a b):=by
 unfold lK
 rw [show(8:Int)=((8:Nat):Int) from rfl,agC 8 fu a b (by omega) (by omega)]
 rfl
theorem ag9{w:aH}(hw:wt w≤13000000): ∀k n a b,k≤8→13000001+k<n→jH n w a b ((k:Nat):Int)=some (f9 w k a b)
 |k,0,a,b,_,h=>by omega
 |0,n+1,a,b,hk,hn=>by
  rw [jH,f9]
  unfold D7
  by_cases h:a=b
  ·rw [if_pos h];exact hH (decide_eq_true h) rfl
  ·rw [if_neg h]
   refine fZ (decide_eq_false h) ?_
   rw [DZ n w a (aH.small_wt hw (by omega))]
   show so (wE n (jH n) w a b ((0:Nat):Int) (nZ w a).1 (nZ w a).2.1 (nZ w a).2.2) _=_
   unfold wE
   cases hz:(nZ w a).1.aEc.length-0 with
   |zero=>rw [loopN];rfl
   |succ m=>
    rw [loopN]
    unfold A7
    rfl
 |k+1,n+1,a,b,hk,hn=>by
  rw [jH,f9]
  unfold D7
  by_cases h:a=b
  ·rw [if_pos h];exact hH (decide_eq_true h) rfl
  ·rw [if_neg h]
   refine fZ (decide_eq_false h) ?_
   rw [DZ n w a (aH.small_wt hw (by omega))]
   have hl:=o9 (f:=A7 n (jH n) w a b ((k+1:Nat):Int) (nZ w a).1 (nZ w a).2.1 (nZ w a).2.2) (q:=ED w a fun s=>f9 w k s b) (fun r=>r) (s:=()) (n:=(nZ w a).1.aEc.length) (fun i hi=>by
    unfold A7 ED
    generalize aR (nZ w a).1.aEc i=s
    have h1:=FS w k s b
    refine hH (decide_eq_true (by omega)) ?_
    rw [show aW (((k+1:Nat):Int)-1)=((k:Nat):Int) from by rw [LC (by omega) (by omega)];omega,ag9 hw k n s b (by omega) (by omega)]
    show sw (f9 w k s b).2 _ _=_
    cases h2:(f9 w k s b).2 with
    |true=>exact jC (by simp only [List.length_singleton];omega) (by rw [if_pos rfl])
    |false=>rw [if_neg (by simp)];rfl) _ 0 rfl
   show so (wE n (jH n) w a b ((k+1:Nat):Int) (nZ w a).1 (nZ w a).2.1 (nZ w a).2.2) _=_
   unfold wE
   refine(congrArg (fun x=>so x _) hl).trans ?_
   simp only [Nat.sub_zero]
   cases(List.range' 0 (nZ w a).1.aEc.length).findSome? (ED w a fun s=>f9 w k s b)<;>rfl
theorem ag8{fu:Nat}{w:aH}(hw:wt w≤13000000)(hf:27000000≤fu)(a b:Y):nI fu w a b=some (f9 w 8 a b):=by
 unfold nI
 rw [show(8:Int)=((8:Nat):Int) from rfl,ag9 hw 8 fu a b (by omega) (by omega)]
 rfl
end Go.Proofs.YtfcoaagbccmahaaGreat.W

namespace Go.Proofs.YtfcoaagbccmahaaGreat.W
open Go.RowKit Go.Proofs
theorem J7(a b:Y):(a==b)=decide (a=b):=by
 by_cases h:a=b
 ·subst h
  rw [BX]
  simp
 ·rw [GF h]
  simp [h]
theorem aA.eq_iff: ∀a b:aA,aA.eq a b=true↔a=b:=by
 refine aA.ind fun k n xs ih b=>?_
 obtain⟨l,m,ys⟩:=b
 have hL: ∀(l r:Z aA),(∀x∈l,∀y,aA.eq x y=true↔x=y)→(aA.eqs l r=true↔l=r):=by
  intro l
  induction l with
  |nil=>intro r _;cases r<;>simp [aA.eqs]
  |cons x l ihl=>
   intro r hx
   cases r with
   |nil=>simp [aA.eqs]
   |cons y r=>
    rw [aA.eqs,Bool.and_eq_true,hx x (by simp) y,ihl r (fun z hz=>hx z (List.mem_cons_of_mem _ hz)),List.cons.injEq]
 rw [aA.eq,Bool.and_eq_true,Bool.and_eq_true,hL xs ys ih,J7,decide_eq_true_eq,beq_iff_eq]
 constructor
 ·rintro⟨rfl,rfl,rfl⟩;rfl
 ·intro h;cases h;exact⟨rfl,rfl,rfl⟩
attribute [local irreducible] lt
theorem aF.eq_iff: ∀a b:aF,aF.eq a b=true↔a=b
 | .mk n x,.mk m y=>by
  rw [aF.eq,Bool.and_eq_true,J7,decide_eq_true_eq,aA.eq_iff]
  constructor
  ·rintro⟨rfl,rfl⟩;rfl
  ·intro h;cases h;exact⟨rfl,rfl⟩
theorem aF.eq_self(a:aF):aF.eq a a=true:=(aF.eq_iff a a).2 rfl
def DJ(fu:Nat)(w:aH)(i:Nat)(b:aF):Z aJ:=
 [aJ.mk (aF.mk b.aEb b.aD6) ((i:Nat):Int) []]++(List.range' 0 (wM fu w b.aEb).length).map fun k=>aJ.mk (aF.mk (aR (wM fu w b.aEb) k) b.aD6) ((i:Nat):Int) (f9 w 8 b.aEb (aR (wM fu w b.aEb) k)).1
def V8(fu:Nat)(w:aH)(l:Z aF):Z aJ:=(List.range' 0 l.length).flatMap fun i=>DJ fu w i (aR l i)
theorem anB{fu:Nat}{w:aH}(hw:wt w≤13000000)(i:Nat)(b:aF):(DJ fu w i b).length≤13000001:=by
 have h:=Y2 (fu:=fu) hw b.aEb
 unfold DJ
 rw [List.length_append,List.length_singleton,List.length_map,List.length_range']
 omega
theorem af3{α:Type}{f:Nat→Z α}{M:Nat}(h: ∀i,(f i).length≤M): ∀k j,((List.range' j k).flatMap f).length≤M*k
 |0,j=>by simp
 |k+1,j=>by
  rw [List.range'_succ,List.flatMap_cons,List.length_append,Nat.mul_succ]
  have:=h j
  have:=af3 h k (j+1)
  omega
theorem afW{fu:Nat}{w:aH}(hw:wt w≤13000000){l:Z aF}(hl:l.length≤1000):(V8 fu w l).length≤13000001*1000:=by
 have h:=af3 (f:=fun i=>DJ fu w i (aR l i)) (M:=13000001) (fun i=>anB hw i _) l.length 0
 unfold V8
 exact Nat.le_trans h (Nat.mul_le_mul_left _ hl)
section
variable {fu:Nat} {w:aH} (hw:wt w≤13000000) (hf:27000000≤fu) {l:Z aF} (hl:l.length≤1000) (hb: ∀b∈l,iV b.aD6)
include hw hf hl hb
theorem ar7:vL fu w l=some (V8 fu w l):=by
 have h:=xD (F:=zQ fu w l) (g:=fun i=>DJ fu w i (aR l i)) (n:=l.length) (M:=68719476736) (fun i v hi hv=>by
  have hB:=hb _ (cB hi)
  have hs:=Y2 (fu:=fu) hw (aR l i).aEb
  have h2:=FN (F:=t6 fu w l i v (wM fu w (aR l i).aEb)) (g:=fun k=>aJ.mk (aF.mk (aR (wM fu w (aR l i).aEb) k) (aR l i).aD6) ((i:Nat):Int) (f9 w 8 (aR l i).aEb (aR (wM fu w (aR l i).aEb) k)).1) (n:=(wM fu w (aR l i).aEb).length) (M:=68719476736) (fun k u hk hu=>by
   unfold t6
   rw [agB fu (by omega)]
   exact jC hu rfl) _ 0 (v++ [aJ.mk (aF.mk (aR l i).aEb (aR l i).aD6) ((i:Nat):Int) []]) rfl (by
   unfold DJ at hv
   rw [List.length_append,List.length_singleton,List.length_map,List.length_range'] at hv
   rw [List.length_append,List.length_singleton]
   omega)
  unfold zQ
  refine jC hB (jC (by
   unfold DJ at hv
   rw [List.length_append,List.length_singleton] at hv
   rw [List.length_singleton]
   omega) ?_)
  rw [ajL hw hf]
  show so (loopN (t6 fu w l i v (wM fu w (aR l i).aEb)) ((wM fu w (aR l i).aEb).length-0) 0 _) _=_
  rw [h2]
  unfold DJ
  rw [List.append_assoc]
  rfl) _ 0 [] rfl (by
  have:=afW (fu:=fu) hw hl
  unfold V8 at this
  rw [List.length_nil,Nat.zero_add,Nat.sub_zero]
  omega)
 unfold vL
 rw [h]
 rfl
theorem asU:vX fu w l=some (V8 fu w l):=by
 have h:=xD (F:=AA fu w l) (g:=fun i=>DJ fu w i (aR l i)) (n:=l.length) (M:=68719476736) (fun i v hi hv=>by
  have hB:=hb _ (cB hi)
  have hs:=Y2 (fu:=fu) hw (aR l i).aEb
  have h2:=FN (F:=t8 fu w l i v (wM fu w (aR l i).aEb)) (g:=fun k=>aJ.mk (aF.mk (aR (wM fu w (aR l i).aEb) k) (aR l i).aD6) ((i:Nat):Int) (f9 w 8 (aR l i).aEb (aR (wM fu w (aR l i).aEb) k)).1) (n:=(wM fu w (aR l i).aEb).length) (M:=68719476736) (fun k u hk hu=>by
   unfold t8
   rw [ag8 hw hf]
   exact jC hu rfl) _ 0 (v++ [aJ.mk (aF.mk (aR l i).aEb (aR l i).aD6) ((i:Nat):Int) []]) rfl (by
   unfold DJ at hv
   rw [List.length_append,List.length_singleton,List.length_map,List.length_range'] at hv
   rw [List.length_append,List.length_singleton]
   omega)
  unfold AA
  refine jC hB (jC (by
   unfold DJ at hv
   rw [List.length_append,List.length_singleton] at hv
   rw [List.length_singleton]
   omega) ?_)
  rw [aj8 hw hf]
  show so (loopN (t8 fu w l i v (wM fu w (aR l i).aEb)) ((wM fu w (aR l i).aEb).length-0) 0 _) _=_
  rw [h2]
  unfold DJ
  rw [List.append_assoc]
  rfl) _ 0 [] rfl (by
  have:=afW (fu:=fu) hw hl
  unfold V8 at this
  rw [List.length_nil,Nat.zero_add,Nat.sub_zero]
  omega)
 unfold vX
 rw [h]
 rfl
end
def sC(l:Z aJ)(g:aF):Int:=match l.findIdx? (fun a=>aF.eq a.aEz g) with
 |some i=>((i:Nat):Int)
 |none=> -1
theorem WO(fu:Nat)(a b:aF):vM fu a b=some (aF.eq a b):=by
 obtain⟨n,x⟩:=a
 obtain⟨m,y⟩:=b
 unfold vM
 rw [aF.eq,J7]
 show sw (decide (n=m)) (some (aA.eq x y)) (some false)=_
 cases decide (n=m)<;>rfl
theorem KE(fu:Nat)(l:Z aJ)(g:aF):m7 fu l g=some (sC l g):=by
 unfold m7 fR sC
 rw [yW (p:=fun a=>aF.eq a.aEz g) (fun i hi=>by
  unfold jP tN
  refine ltE rfl ?_
  rw [WO]
  show sw (aF.eq (aR l i).aEz g) _ _=_
  cases aF.eq (aR l i).aEz g<;>rfl)]
 cases l.findIdx? fun a=>aF.eq a.aEz g<;>rfl
end Go.Proofs.YtfcoaagbccmahaaGreat.W

namespace Go.Proofs.YtfcoaagbccmahaaGreat.W
open Go.RowKit Go.WalkArith Go.IntWalk Go.WideShapes Go.Proofs
attribute [local irreducible] lt
theorem WJ{σ α:Type}(P:σ→Prop){g h:σ→α→σ}: ∀ {l:Z α} {v:σ},(∀v x,x∈l→P v→g v x=h v x∧P (g v x))→P v→l.foldl g v=l.foldl h v
 | [],v,_,_=>rfl
 |x::l,v,hs,hv=>by
  obtain⟨e,hp⟩:=hs v x (by simp) hv
  rw [List.foldl_cons,List.foldl_cons,← e]
  exact WJ P (fun v y hy=>hs v y (List.mem_cons_of_mem _ hy)) hp
theorem ab2{w:aH}: ∀n m out name,SOk w m out→m<n→L8 w (n+1) out name=L8 w n out name
 |0,m,out,name,_,h=>by omega
 |n+1,m,out,name,h,hn=>by
  rw [L8,L8]
  refine WJ (SOk w m) (fun v s hs hv=>?_) h
  cases hq:vK v s with
  |true=>exact⟨rfl,hv⟩
  |false=>
   obtain⟨k1,k2,k3⟩:=QF hv (QX hs) hq
   refine⟨?_,?_⟩
   ·rw [if_neg (by simp),if_neg (by simp)]
    exact ab2 n (m-1) _ s k1 (by omega)
   ·rw [if_neg (by simp)]
    exact(QW (n+1) (m-1) _ s k1).le (by omega)
theorem ab3{w:aH}(hw:wt w≤13000000)(name:Y): ∀k,wM (27000000+k) w name=wM 27000000 w name
 |0=>rfl
 |k+1=>(ab2 (27000000+k) 13000000 [] name (VN hw) (by omega)).trans (ab3 hw name k)
theorem anD{fu:Nat}{w:aH}(hw:wt w≤13000000)(hf:27000000≤fu)(l:Z aF):V8 fu w l=V8 27000000 w l:=by
 have h:wM fu w=wM 27000000 w:=funext fun name=>by
  have:=ab3 hw name (fu-27000000)
  rwa [show 27000000+(fu-27000000)=fu by omega] at this
 unfold V8 DJ
 rw [h]
def uA(w:aH)(l:Z aF):Z aJ:=V8 27000000 w l
structure OX (w:aH) (l:List aF):Prop where
 hw:wt w≤13000000
 hl:l.length≤1000
 ht: ∀b∈l,iV b.aD6
set_option maxRecDepth 100000 in
theorem P4(w:aH)(l:Z aF)(h:OX w l):ao7 Tryz.prog 50 [(aH.pv w),cP l] 145 [aQ w.aD3,bZ (uA w l)]:=by
 have hA:vL 27000000 w l=some (uA w l):=ar7 h.hw (Nat.le_refl _) h.hl h.ht
 unfold ao7
 refine qI Tryz.func50 (fun C hC=>?_)
 refine gQ 2 ?_;refine q1 (fN ([aQ w.aD3])) (q1 (bC.moveAny (.inl rfl)) ?_)
 refine gQ 2 ?_;refine dW (dD [2] (b5 [aQ w.aD3]) (dD [2] (b5 [aQ w.aD3]) (dI [1] bG (dI [6,7] (bI Tryz.func99 (US 27000000 w l _ hA)) (dI [5,8] rR (dE [9] (fN [aQ w.aD3,bZ (uA w l)]) (dI [10] bG (dN ?_))))))))
 refine c7.ret ?_;exact DC.mk (ps:= [_]) (.inr rfl) ⟨rfl,trivial⟩ rfl (tR.mk' (st':=⟨[none,some ⟨145,[aQ w.aD3,bZ (uA w l)]⟩],[]⟩) ⟨⟨rfl,kA,rfl⟩,trivial⟩ rfl) (abF hC) (q:= .ptr 1 0) (.refl _) rfl ⟨1,rfl,rfl,fun i x hx=>by rcases i with _|_|i<;>simp at hx<;>simp,rfl⟩
end Go.Proofs.YtfcoaagbccmahaaGreat.W
