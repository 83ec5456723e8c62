/- Rules. No conditions. -/
import Derived.Test.YtfcoaagbccmahaaGreatQh0d8e6b45
import Derived.Deep.RegionHeld3
import Derived.Laws.IdiomStrings
import Derived.Lib.SliceRun
set_option linter.unusedSimpArgs false
set_option linter.unusedVariables false
namespace Go.Proofs.YtfcoaagbccmahaaGreat.W
open Go.RowKit Go.WalkArith Go.Proofs
attribute [local irreducible] lt
theorem SR{x:Int}(h0: -1≤x)(h1:x<9223372036854775807):bB x=x:=by
 unfold bB IntKind.wrap
 simp [IntKind.bits,IntKind.signed]
 omega
section
variable {β γ σ:Type}
theorem rD{f:Nat→σ→J (LR σ β)}{q:Nat→J γ}(g:γ→β){s:σ}{n:Nat}(hs: ∀i,i<n→f i s=some (match q i with|some r=> .ret (g r)|none=> .next s)):
 ∀k j,n-j=k→loopN f k j s=some (match(List.range' j k).findSome? q with|some r=> .inl (g r)|none=> .inr s)
 |0,j,hk=>by rw [loopN];rfl
 |k+1,j,hk=>by
  rw [loopN,hs j (by omega),List.range'_succ,List.findSome?_cons]
  cases q j with
  |some r=>rfl
  |none=>exact rD g hs k (j+1) (by omega)
theorem PE{f:Int→J (LR Int β)}{q:Nat→J γ}(g:γ→β){n:Nat}(hs: ∀i:Nat,i<n→f (i:Int)=some (match q i with|some r=> .ret (g r)|none=> .next ((i+1:Nat):Int)))(he:f (n:Int)=some (.brk (n:Int))):
 ∀k j fu,n-j=k→j≤n→k<fu→loopW f fu (j:Int)=some (match(List.range' j k).findSome? q with|some r=> .inl (g r)|none=> .inr (n:Int))
 |0,j,fu,hk,hj,hf=>by
  obtain⟨m,rfl⟩: ∃m,fu=m+1:=⟨fu-1,by omega⟩
  obtain rfl:j=n:=by omega
  rw [loopW,he]
  rfl
 |k+1,j,fu,hk,hj,hf=>by
  obtain⟨m,rfl⟩: ∃m,fu=m+1:=⟨fu-1,by omega⟩
  rw [loopW,hs j (by omega),List.range'_succ,List.findSome?_cons]
  cases q j with
  |some r=>rfl
  |none=>exact PE g hs he k (j+1) m (by omega) (by omega) (by omega)
end
def tQ(w:aH)(s:Y)(i:Nat):J (aZ×Int×Bool):=(List.range' 0 (aR w.aFr i).aFK.length).findSome? fun k=>if(aR (aR w.aFr i).aFK k).aFs=s then some (aR (aR w.aFr i).aFK k,(i:Int),true) else none
def dQ(w:aH)(s:Y)(i:Nat):J (aO×Int×Bool):=(List.range' 0 (aR w.aFr i).aFB.length).findSome? fun k=>if(aR (aR w.aFr i).aFB k).aFs=s then some (aR (aR w.aFr i).aFB k,(i:Int),true) else none
def uX(w:aH)(s:Y):aZ×Int×Bool:=((List.range' 0 w.aFr.length).findSome? (tQ w s)).getD (aZ.mk s_ [] false false [],0,false)
def M4(w:aH)(s:Y):aO×Int×Bool:=((List.range' 0 w.aFr.length).findSome? (dQ w s)).getD (aO.mk s_ [] [],0,false)
theorem GQ(fu:Nat)(w:aH)(s:Y):GP fu w s=some (uX w s):=by
 have h:=rD (f:=TR fu w s) (q:=tQ w s) (fun r=>r) (s:=()) (n:=w.aFr.length) (fun i hi=>by
  have h2:=rD (f:=TS fu w s i (aR w.aFr i)) (q:=fun k=>if(aR (aR w.aFr i).aFK k).aFs=s then some (aR (aR w.aFr i).aFK k,(i:Int),true) else none) (fun r=>LR.ret r) (s:=()) (n:=(aR w.aFr i).aFK.length) (fun k hk=>by
   unfold TS
   by_cases hs:(aR (aR w.aFr i).aFK k).aFs=s
   ·rw [if_pos hs];exact jL (decide_eq_true hs) rfl
   ·rw [if_neg hs];exact iK (decide_eq_false hs) rfl) _ 0 rfl
  unfold TR
  refine SW rfl ?_
  rw [h2]
  unfold tQ
  cases(List.range' 0 (aR w.aFr i).aFK.length).findSome? _<;>rfl) _ 0 rfl
 unfold GP uX
 rw [h]
 cases(List.range' 0 w.aFr.length).findSome? (tQ w s)<;>rfl
theorem ai7(fu:Nat)(w:aH)(s:Y):XP fu w s=some (M4 w s):=by
 have h:=rD (f:=ZJ fu w s) (q:=dQ w s) (fun r=>r) (s:=()) (n:=w.aFr.length) (fun i hi=>by
  have h2:=rD (f:=ZK fu w s i (aR w.aFr i)) (q:=fun k=>if(aR (aR w.aFr i).aFB k).aFs=s then some (aR (aR w.aFr i).aFB k,(i:Int),true) else none) (fun r=>LR.ret r) (s:=()) (n:=(aR w.aFr i).aFB.length) (fun k hk=>by
   unfold ZK
   by_cases hs:(aR (aR w.aFr i).aFB k).aFs=s
   ·rw [if_pos hs];exact jL (decide_eq_true hs) rfl
   ·rw [if_neg hs];exact iK (decide_eq_false hs) rfl) _ 0 rfl
  unfold ZJ
  refine SW rfl ?_
  rw [h2]
  unfold dQ
  cases(List.range' 0 (aR w.aFr i).aFB.length).findSome? _<;>rfl) _ 0 rfl
 unfold XP M4
 rw [h]
 cases(List.range' 0 w.aFr.length).findSome? (dQ w s)<;>rfl
def aH.small(w:aH)(N:Nat):Prop:= ∀i,i<w.aFr.length→(aR w.aFr i).aFK.length<N∧(aR w.aFr i).aFB.length<N∧(aR w.aFr i).aFG.length<N
theorem EO(fu:Nat)(w:aH)(s:Y)(hw:aH.small w fu):sG fu w s=some (uX w s):=by
 have h:=rD (f:=DV fu w s) (q:=tQ w s) (fun r=>r) (s:=()) (n:=w.aFr.length) (fun i hi=>by
  have h2:=PE (f:=xB fu w s i) (q:=fun k=>if(aR (aR w.aFr i).aFK k).aFs=s then some (aR (aR w.aFr i).aFK k,(i:Int),true) else none) (fun r=>LR.ret r) (n:=(aR w.aFr i).aFK.length) (fun k hk=>by
   unfold xB
   refine SW rfl (jL (decide_eq_true (by omega)) (f7 (by omega) ?_))
   rw [Int.toNat_natCast]
   by_cases hs:(aR (aR w.aFr i).aFK k).aFs=s
   ·rw [if_pos hs];exact jL (decide_eq_true hs) rfl
   ·rw [if_neg hs];exact iK (decide_eq_false hs) rfl) (by
   unfold xB
   exact SW rfl (iK (decide_eq_false (by omega)) rfl)) _ 0 fu rfl (Nat.zero_le _) (hw i hi).1
  unfold DV
  refine(congrArg (fun o=>so o _) h2).trans ?_
  unfold tQ
  simp only [Nat.sub_zero]
  cases(List.range' 0 (aR w.aFr i).aFK.length).findSome? _<;>rfl) _ 0 rfl
 unfold sG uX
 rw [h]
 cases(List.range' 0 w.aFr.length).findSome? (tQ w s)<;>rfl
theorem aaC(fu:Nat)(w:aH)(s:Y)(hw:aH.small w fu):B9 fu w s=some (M4 w s):=by
 have h:=rD (f:=FR fu w s) (q:=dQ w s) (fun r=>r) (s:=()) (n:=w.aFr.length) (fun i hi=>by
  have h2:=PE (f:=zP fu w s i) (q:=fun k=>if(aR (aR w.aFr i).aFB k).aFs=s then some (aR (aR w.aFr i).aFB k,(i:Int),true) else none) (fun r=>LR.ret r) (n:=(aR w.aFr i).aFB.length) (fun k hk=>by
   unfold zP
   refine SW rfl (jL (decide_eq_true (by omega)) (f7 (by omega) ?_))
   rw [Int.toNat_natCast]
   by_cases hs:(aR (aR w.aFr i).aFB k).aFs=s
   ·rw [if_pos hs];exact jL (decide_eq_true hs) rfl
   ·rw [if_neg hs];exact iK (decide_eq_false hs) rfl) (by
   unfold zP
   exact SW rfl (iK (decide_eq_false (by omega)) rfl)) _ 0 fu rfl (Nat.zero_le _) (hw i hi).2.1
  unfold FR
  refine(congrArg (fun o=>so o _) h2).trans ?_
  unfold dQ
  simp only [Nat.sub_zero]
  cases(List.range' 0 (aR w.aFr i).aFB.length).findSome? _<;>rfl) _ 0 rfl
 unfold B9 M4
 rw [h]
 cases(List.range' 0 w.aFr.length).findSome? (dQ w s)<;>rfl
def wS(w:aH)(o:aF):Prop:= ∃i k:Nat,o=aF.mk (i:Int) (k:Int)∧i<w.aFr.length∧k<(aR w.aFr i).aFG.length
def cT(w:aH)(o:aF):aL:=aR (aR w.aFr o.aFF.toNat).aFG o.aFS.toNat
theorem RJ(fu:Nat)(w:aH)(o:aF)(ho:wS w o):vT fu w o=some (cT w o,true):=by
 obtain⟨i,k,rfl,hi,hk⟩:=ho
 unfold vT
 refine iK (decide_eq_false (by show ¬((i:Int)<0);omega)) (iK (decide_eq_false (by show ¬((i:Int)≥_);omega)) (iK (decide_eq_false (by show ¬((k:Int)<0);omega)) (f7 (by show 0≤(i:Int)∧(i:Int).toNat<_;omega) (SW rfl (iK (decide_eq_false (by show ¬((k:Int)≥((aR w.aFr i).aFG.length:Int));omega)) (f7 (by show 0≤(k:Int)∧(k:Int).toNat<(aR w.aFr i).aFG.length;omega) (SW rfl rfl)))))))
def UB(w:aH)(i:Nat):Z aF:=(List.range' 0 (aR w.aFr i).aFG.length).map fun(k:Nat)=>aF.mk (i:Int) (k:Int)
def gA(w:aH):Z aF:=(List.range' 0 w.aFr.length).flatMap (UB w)
theorem XT{w:aH}{o:aF}(h:o∈gA w):wS w o:=by
 obtain⟨i,hi,ho⟩:=List.mem_flatMap.1 h
 obtain⟨k,hk,rfl⟩:=List.mem_map.1 ho
 rw [List.mem_range'_1] at hi hk
 exact⟨i,k,rfl,by omega,by omega⟩
section
variable {α β:Type}
theorem GU{F:Nat→Z α→J (LR (Z α) β)}{n M:Nat}{g:Nat→α}(hs: ∀j v,j<n→v.length+1≤M→F j v=some (.next (v++ [g j]))):
 ∀k j (v:Z α),n-j=k→v.length+k≤M→loopN F k j v=some (.inr (v++(List.range' j k).map g))
 |0,j,v,hk,_=>by rw [loopN];simp
 |k+1,j,v,hk,hl=>by
  rw [loopN,hs j v (by omega) (by omega)]
  have h:=GU hs k (j+1) (v++ [g j]) (by omega) (by rw [List.length_append];simp only [List.length_singleton];omega)
  rw [List.append_assoc] at h
  rw [List.range'_succ,List.map_cons]
  exact h
theorem aeC{F:Z α×Int→J (LR (Z α×Int) β)}{n M:Nat}{g:Nat→α}(hs: ∀(j:Nat) v,j<n→v.length+1≤M→F (v,(j:Int))=some (.next (v++ [g j],((j+1:Nat):Int))))(he: ∀v,F (v,(n:Int))=some (.brk (v,(n:Int)))):
 ∀k j fu (v:Z α),n-j=k→j≤n→k<fu→v.length+k≤M→loopW F fu (v,(j:Int))=some (.inr (v++(List.range' j k).map g,(n:Int)))
 |0,j,fu,v,hk,hj,hf,_=>by
  obtain⟨f,rfl⟩: ∃f,fu=f+1:=⟨fu-1,by omega⟩
  obtain rfl:j=n:=by omega
  rw [loopW,he]
  simp
 |k+1,j,fu,v,hk,hj,hf,hl=>by
  obtain⟨f,rfl⟩: ∃f,fu=f+1:=⟨fu-1,by omega⟩
  rw [loopW,hs j v (by omega) (by omega)]
  have h:=aeC hs he k (j+1) f (v++ [g j]) (by omega) (by omega) (by omega) (by rw [List.length_append];simp only [List.length_singleton];omega)
  rw [List.append_assoc] at h
  rw [List.range'_succ,List.map_cons]
  exact h
theorem yG{F:Nat→Z α→J (LR (Z α) β)}{n M:Nat}{g:Nat→Z α}(hs: ∀j v,j<n→v.length+(g j).length≤M→F j v=some (.next (v++g j))):
 ∀k j (v:Z α),n-j=k→v.length+((List.range' j k).flatMap g).length≤M→loopN F k j v=some (.inr (v++(List.range' j k).flatMap g))
 |0,j,v,hk,_=>by rw [loopN];simp
 |k+1,j,v,hk,hl=>by
  rw [List.range'_succ,List.flatMap_cons,List.length_append] at hl
  rw [loopN,hs j v (by omega) (by omega)]
  have h:=yG hs k (j+1) (v++g j) (by omega) (by rw [List.length_append];omega)
  rw [List.range'_succ,List.flatMap_cons,← List.append_assoc]
  exact h
end
theorem PG(w:aH)(i:Nat):(UB w i).length=(aR w.aFr i).aFG.length:=by
 unfold UB
 rw [List.length_map,List.length_range']
theorem avC(fu:Nat)(w:aH)(hw:(gA w).length≤68719476736):uP fu w=some (gA w):=by
 have h:=yG (F:=xU fu w) (g:=UB w) (n:=w.aFr.length) (M:=68719476736) (fun i v hi hv=>by
  rw [PG] at hv
  have h2:=GU (F:=GH fu w i v (aR w.aFr i)) (g:=fun(k:Nat)=>aF.mk (i:Int) (k:Int)) (n:=(aR w.aFr i).aFG.length) (M:=68719476736) (fun k u hk hu=>f7 hu rfl) _ 0 v rfl hv
  unfold xU
  refine SW rfl ?_
  rw [h2]
  rfl) _ 0 [] rfl (by rw [List.length_nil,Nat.zero_add];exact hw)
 unfold uP
 rw [h]
 rfl
theorem avU(fu:Nat)(w:aH)(hw:(gA w).length≤68719476736)(hf:aH.small w fu)(h2: ∀i,i<w.aFr.length→(aR w.aFr i).aFG.length≤13000000):uS fu w=some (gA w):=by
 have h:=yG (F:=yL fu w) (g:=UB w) (n:=w.aFr.length) (M:=68719476736) (fun i v hi hv=>by
  rw [PG] at hv
  have h3:=h2 i hi
  have h2:=aeC (F:=tY fu w i v) (g:=fun(k:Nat)=>aF.mk (i:Int) (k:Int)) (n:=(aR w.aFr i).aFG.length) (M:=68719476736) (fun k u hk hu=>by
   unfold tY
   refine SW rfl (jL (decide_eq_true (by omega)) (f7 hu ?_))
   rw [SR (by omega) (by omega)]
   rfl) (fun u=>by
   unfold tY
   exact SW rfl (iK (decide_eq_false (by omega)) rfl)) _ 0 fu v rfl (Nat.zero_le _) (hf i hi).2.2 hv
  unfold yL
  refine(congrArg (fun o=>so o _) h2).trans ?_
  rfl) _ 0 [] rfl (by rw [List.length_nil,Nat.zero_add];exact hw)
 unfold uS
 rw [h]
 rfl
theorem aH.len_at{w:aH}(hw:wt w≤13000000)(i:Nat)(hi:i<w.aFr.length):(aR w.aFr i).aFK.length≤13000000∧(aR w.aFr i).aFB.length≤13000000∧(aR w.aFr i).aFG.length≤13000000:=by
 have:=aH.we w
 have:=c8 w.aFr i hi
 have:=aN.we (aR w.aFr i)
 have:=bE (aR w.aFr i).aFK
 have:=bE (aR w.aFr i).aFB
 have:=bE (aR w.aFr i).aFG
 omega
theorem aH.sw_{w:aH}{fu:Nat}(hw:wt w≤13000000)(hf:13000000<fu):aH.small w fu:=fun i hi=>by
 have:=aH.len_at hw i hi
 omega
theorem apD(w:aH): ∀k j,w.aFr.length-j=k→((List.range' j k).flatMap (UB w)).length≤wl (w.aFr.drop j)
 |0,j,hk=>by simp
 |k+1,j,hk=>by
  have h:=apD w k (j+1) (by omega)
  have h1:=aN.we (aR w.aFr j)
  have h2:=bE (aR w.aFr j).aFG
  rw [List.range'_succ,List.flatMap_cons,List.length_append,PG,s8 (by omega),ahU]
  omega
theorem YQ{w:aH}(hw:wt w≤13000000):(gA w).length≤13000000:=by
 have h:=apD w _ 0 rfl
 have:=aH.we w
 rw [List.drop_zero] at h
 unfold gA
 simp only [Nat.sub_zero] at h
 omega
end Go.Proofs.YtfcoaagbccmahaaGreat.W
namespace Go.Proofs.YtfcoaagbccmahaaGreat.W
open Go.RowKit Go.Proofs
theorem QQ(x:aA):aX (aA.tr x)=wt x:=rfl
attribute [local irreducible] lt wt wl
theorem RZ{α:Type}[Inhabited α](q:α→Bool): ∀(l:Z α) (k j:Nat),l.length-j=k→(List.range' j k).flatMap (fun i=>bif q (aR l i) then [] else [aR l i])=(l.drop j).filter (fun x=> !q x)
 |l,0,j,hk=>by rw [List.drop_of_length_le (by omega)];simp
 |l,k+1,j,hk=>by
  have hj:j<l.length:=by omega
  rw [List.range'_succ,List.flatMap_cons,RZ q l k (j+1) (by omega),s8 hj,List.filter_cons]
  cases q (aR l j)<;>rfl
theorem PD{σ β:Type}{f:Nat→σ→J (LR σ β)}{s:σ}{n:Nat}(hs: ∀i,i<n→f i s=some (.next s)): ∀k j,n-j=k→loopN f k j s=some (.inr s)
 |0,j,hk=>by rw [loopN]
 |k+1,j,hk=>by
  rw [loopN,hs j (by omega)]
  exact PD hs k (j+1) (by omega)
theorem XQ{w:aH}{o:aF}(hw:wt w≤13000000)(hR:wS w o):wt (cT w o)≤13000000:=by
 obtain⟨i,k,rfl,hi,hk⟩:=hR
 have:=aH.we w
 have:=c8 w.aFr i hi
 have:=aN.we (aR w.aFr i)
 have:=c8 (aR w.aFr i).aFG k hk
 show wt (aR (aR w.aFr i).aFG k)≤13000000
 omega
theorem apF{w:aH}{o:aF}(hw:wt w≤13000000)(hR:wS w o):wt (cT w o).aFJ≤13000000:=by
 have:=XQ hw hR
 have:=aL.we (cT w o)
 omega
theorem xQ{w:aH}(hw:wt w≤13000000){o:aF}(ho:wS w o):aX (aA.tr (cT w o).aFJ)≤68719476735:=by rw [QQ];exact Nat.le_trans (apF hw ho) (by decide)
end Go.Proofs.YtfcoaagbccmahaaGreat.W
namespace Go.Proofs.YtfcoaagbccmahaaGreat
open Go.RowKit
theorem D2.repM{ok:Nat→Nat→Prop}{w:World}{t:Tr}{v:Value}{S:Nat→Prop}(h:D2 w t v S)(hk: ∀b o,S b→b<w.heap.size→ok b o):cH ok w t v:=by
 induction h with
 |leaf h=>exact .leaf h
 |row c T h1 h2 h3 _ h5 h6 ih=>
  refine .row c h1 h2 (fun hne=>?_) (fun i e he j d hd=>ih i e he j d hd fun b o hb hl=>hk b o (h5 i e he j d hd b hb) hl)
  obtain⟨b,off,E,arr,ha,hb,hs,hc⟩:=h3 hne
  exact⟨b,off,ha,hb.lt,fun i e he j d hd=>⟨hk _ _ hs hb.lt,by rw [hb.cell];exact(hc i e he j d hd).1⟩⟩
theorem aeY{P:Program}{f:FuncId}{args:Z PV}{t:Tr}(hfr:lW args=true)(h: ∀w vals,J4 w args vals→Calls P f ⟨vals⟩ w fun e w'=> ∃v,e= .returned v∧wI w w'∧D2 w' t v (QH w w')):bU P f args (.t t):=fun av m w vals hst hv=>by
 refine(h w vals (lW.rv (fun b o _ _=>ok0 b o) args vals hfr hv)).mono fun e w'=>?_;rintro⟨v,rfl,hx,ho⟩
 refine⟨.t t,⟨[],[]⟩,m,v,rfl,⟨rfl,rfl⟩,fY.nil fun b o hb=>Nat.lt_of_lt_of_le (hst.avlt b o hb) hx.size,?_,?_⟩
 ·exact⟨hx.os,hx.tape,hx.output,hx.size,fun b hb _ _=>hx.block b hb,fun b o hb _=>kR (hx.block b hb),fun _ _ _ h=>h,fun _ _ h=>by simp at h,fun _ _ h=>by simp at h,fun _ _ h=>by simp at h,fun _ _ _ _ h=>by simp at h⟩
 ·exact ho.repM fun b o hb _=>⟨fun ha=>by have:=hst.avlt b o ha;have:=hb.1;omega,fun _ _ h=>by simp at h,fun _ _ _ _ h=>by simp at h⟩
end Go.Proofs.YtfcoaagbccmahaaGreat
namespace Go.Proofs.YtfcoaagbccmahaaGreat.W
set_option maxRecDepth 100000
set_option maxHeartbeats 40000000
noncomputable section
open Tryz Go.RowKit Go.Proofs
attribute [local irreducible] lt
abbrev q7:=aA→aA→Option Bool
abbrev eD:=(List aA)→(List aA)→Option Bool
def wP(m:q7):Prop:= ∀(pa:aA) (pb:aA) (r:Bool),m pa pb=some r→bU prog 95 [(aA.pv pa),(aA.pv pb)] (pB r:PV)
def jB(m:eD):Prop:= ∀(p8:Z aA) (p9:Z aA) (r:Bool),m p8 p9=some r→bU prog 144 [aV p8,aV p9,.fn 95 []] (pB r:PV)
def H6(fu:Nat)(p1:q7)(p0:eD)(pa pb:aA):J Bool:=sw (decide (pa.aFw=pb.aFw)) (sw (decide (pa.aFs=pb.aFs)) (bd (p0 pa.aFt pb.aFt) fun x4=>some x4) (some false)) (some false)
theorem WW(fu:Nat)(p1:q7)(p0:eD)(p5:wP p1)(p4:jB p0):wP (H6 fu p1 p0):=by
 intro pa pb r H
 refine qJ func95 H (fun C hC H=>?_)
 refine gQ 2 ?_;refine q1 (fQ (cF pa)) (q1 (fQ (cF pb)) ?_)
 refine gQ 10 ?_;refine dY 10 H (fun g1 H=>?_) fun g1 H=>?_
 ·refine gQ 7 ?_;refine dY 17 H (fun g2 H=>?_) fun g2 H=>?_
  ·refine gQ 4 ?_;refine bN H fun x4 z3 H=>(qg g2 (bJ func144 (p4 pa.aFt pb.aFt _ z3)) ?_)
   exact gE 3
  exact gE 8
 exact gE 15
def lA(fu:Nat)(p1:q7)(p0:eD)(p8 p9:Z aA):Nat→Unit→J (LR Unit Bool):=fun i2 _=>gd (i2<(p9).length) (bd (p1 (aR p8 i2) (aR p9 i2)) fun x7=>sw (!(x7)) (some (.ret false)) (some (.next ())))
def lB(fu:Nat)(p1:q7)(p0:eD)(p8 p9:Z aA):J (Bool⊕Unit):=loopN (lA fu p1 p0 p8 p9) (p8.length-0) 0 ()
def jA(fu:Nat)(p1:q7)(p0:eD)(p8 p9:Z aA):J Bool:=sw (!decide ((p8.length:Int)=(p9.length:Int))) (some false) (so (lB fu p1 p0 p8 p9) fun _=>some true)
theorem wK(fu:Nat)(p1:q7)(p0:eD)(p5:wP p1)(p4:jB p0):jB (jA fu p1 p0):=by
 intro p8 p9 r H
 refine qJ func144 H (fun C hC H=>?_)
 refine gQ 13 ?_;refine bG H (fun h1 H=>gE 4) fun h1 H=>?_;refine gQ 8 ?_;refine gV 0 (aA.tl _) (fun hl3=>?_)
 refine bV (σ:=Unit) (fun i2 _=>⟨[(1,aV p9),(2,.fn 95 []),(6,pB false),(15,aV p8),(16,pN p8.length),(17,pN i2)],⟨[],[]⟩⟩) (fun _=>⟨[(6,pB false)],⟨[],[]⟩⟩) (fA H) ?_ ?_
 ·rintro i2 ⟨⟩ H
  refine gQ 5 ?_;refine cZ H (fun h4 h4l H=>?_) (fun h4 H=>?_)
  ·refine gQ 7 ?_;refine q1 (gZ (aA.cs (aR p8 i2))) ?_;refine gQ 8 ?_;refine cB H fun z5 H=>(q1 mU (q1 (gZ (aA.cs (aR p9 i2))) ?_))
   refine gQ 6 ?_;refine q1 (b4 [pI ((aR p8 i2).aFw),pS ((aR p8 i2).aFs),aV ((aR p8 i2).aFt)]) (q1 (b4 [pI ((aR p9 i2).aFw),pS ((aR p9 i2).aFs),aV ((aR p9 i2).aFt)]) (bN H fun x7 z6 H=>(q1 (rCv func95 (p5 (aR p8 i2) (aR p9 i2) _ z6)) ?_)))
   refine gQ 2 ?_;refine bG H (fun h8 H=>gE 4) fun h8 H=>?_;exact gE 5
  exact gE 0
 rintro⟨⟩ H
 exact gE 4
mutual
def iS:Nat→aA→aA→J Bool
 |0,_,_=>none
 |fu+1,pa,pb=>H6 fu (iS fu) (b7 fu) pa pb
def b7:Nat→(Z aA)→(Z aA)→J Bool
 |0,_,_=>none
 |fu+1,p8,p9=>jA fu (iS fu) (b7 fu) p8 p9
end
theorem Y8(fu:Nat):wP (iS fu)∧jB (b7 fu):=by
 induction fu with
 |zero=>exact⟨(fun pa pb r H=>by simp only [iS] at H;cases H),(fun p8 p9 r H=>by simp only [b7] at H;cases H)⟩
 |succ fu ih=>exact⟨(fun pa pb r H=>by simp only [iS] at H;exact WW fu (iS fu) (b7 fu) ih.1 ih.2 pa pb r H),(fun p8 p9 r H=>by simp only [b7] at H;exact wK fu (iS fu) (b7 fu) ih.1 ih.2 p8 p9 r H)⟩
theorem acA(fu:Nat):wP (iS fu):=(Y8 fu).1
abbrev tB:=aA→Option aA
abbrev q9:=(List aA)→Option ((List aA))
def zX(m:tB):Prop:= ∀(pt:aA) (r:aA),m pt=some r→bU prog 79 [(aA.pv pt)] ((aA.pv r):PV)
def BW(m:q9):Prop:= ∀(pl:Z aA) (r:(Z aA)),m pl=some r→bU prog 134 [aV pl] (aV r:PV)
def KJ(fu:Nat)(p3:tB)(p2:q9)(pt:aA):J aA:=bd (p2 pt.aFt) fun x2=>some (aA.mk pt.aFw pt.aFs x2)
theorem ZI(fu:Nat)(p3:tB)(p2:q9)(p7:zX p3)(p6:BW p2):zX (KJ fu p3 p2):=by
 intro pt r H
 refine qJ func79 H (fun C hC H=>?_)
 refine gQ 2 ?_;refine q1 (fQ (cF pt)) ?_;refine gQ 6 ?_;refine bN H fun x2 z1 H=>(q1 (bJ func134 (p6 pt.aFt _ z1)) ?_)
 refine gQ 5 ?_;refine q1 (b4 [pI pt.aFw,pS pt.aFs,aV x2]) ?_;exact gE 2
def NZ(fu:Nat)(p3:tB)(p2:q9)(pl:Z aA):Nat→((Z aA))→J (LR ((Z aA)) ((Z aA))):=fun i2 v3=>bd (p3 (aR pl i2)) fun x7=>gd (i2=(v3).length) (some (.next (v3++([x7]:Z aA))))
def FE(fu:Nat)(p3:tB)(p2:q9)(pl:Z aA):J (((Z aA))⊕((Z aA))):=loopN (NZ fu p3 p2 pl) (pl.length-0) 0 ([])
def H8(fu:Nat)(p3:tB)(p2:q9)(pl:Z aA):J ((Z aA)):=gd (pl.length≤68719476736) (so (FE fu p3 p2 pl) fun v3=>gd ((v3).length=pl.length) (some v3))
theorem WY(fu:Nat)(p3:tB)(p2:q9)(p7:zX p3)(p6:BW p2):BW (H8 fu p3 p2):=by
 intro pl r H
 refine qJ func134 H (fun C hC H=>?_)
 refine gQ 8 ?_;refine cB H fun z1 H=>(q1 (cX.makeSlice (N:=pl.length) rfl rfl rfl rfl atC.h azC.h (by decide) (Nat.le_trans (Nat.mul_le_mul_left _ z1) (by decide)) (Nat.le_trans z1 (by decide))) ?_)
 refine gQ 9 ?_;refine gV 0 (aA.tl _) (fun hl4=>?_)
 refine bV (σ:=(Z aA)) (fun i2 v3=>⟨[(2,.nil),(3,.full 3 (pl.length) 0),(9,aV pl),(10,pN pl.length),(11,pN i2)],⟨[],[⟨30,3,aA.trs (v3),true⟩]⟩⟩) (fun v3=>⟨[(2,.nil),(3,.full 3 (pl.length) 0)],⟨[],[⟨30,3,aA.trs (v3),true⟩]⟩⟩) (fA H) ?_ ?_
 ·rintro i2 v3 H
  refine gQ 5 ?_;refine cZ H (fun h5 h5l H=>?_) (fun h5 H=>?_)
  ·refine gQ 7 ?_;refine q1 (gZ (aA.cs (aR pl i2))) ?_;refine gQ 7 ?_;refine q1 (b4 [pI ((aR pl i2).aFw),pS ((aR pl i2).aFs),aV ((aR pl i2).aFt)]) (bN H fun x7 z6 H=>(q1 (bJ func79 (p7 (aR pl i2) _ z6)) (q1 (zB (k:=i2) rfl rfl rfl rfl h5l atC.h) (cB H fun z8 H=>?_))))
   refine q1 (zD (e:=aA.cs x7) (es2:=aA.trs (v3++([x7]:Z aA))) 16 rfl rfl rfl rfl rfl rfl mG rfl rfl ay7.h (by rw [aA.tl];exact z8) h5l (by rw [aA.tm,aA.tm,List.map_append];simp [aA.tc])) ?_;exact gE 5
  exact gE 0
 rintro v3 H
 refine gQ 3 ?_;refine cB H fun z9 H=>?_;refine AL.weak (Wk.full (i:=22) rfl rfl (by rw [aA.tl];exact z9)) ?_;exact gE 2
mutual
def kS:Nat→aA→J aA
 |0,_=>none
 |fu+1,pt=>KJ fu (kS fu) (lP fu) pt
def lP:Nat→(Z aA)→J ((Z aA))
 |0,_=>none
 |fu+1,pl=>H8 fu (kS fu) (lP fu) pl
end
theorem acC(fu:Nat):zX (kS fu)∧BW (lP fu):=by
 induction fu with
 |zero=>exact⟨(fun pt r H=>by simp only [kS] at H;cases H),(fun pl r H=>by simp only [lP] at H;cases H)⟩
 |succ fu ih=>exact⟨(fun pt r H=>by simp only [kS] at H;exact ZI fu (kS fu) (lP fu) ih.1 ih.2 pt r H),(fun pl r H=>by simp only [lP] at H;exact WY fu (kS fu) (lP fu) ih.1 ih.2 pl r H)⟩
theorem afX(fu:Nat):zX (kS fu):=(acC fu).1
end
end Go.Proofs.YtfcoaagbccmahaaGreat.W
namespace Go.Proofs.YtfcoaagbccmahaaGreat
open Go.RowKit Go.Proofs
theorem C2(a:Y):(a==a)=true:=by
 obtain⟨x⟩:=a
 show(x==x)=true
 simp
theorem aqN{a b:Y}(h:a.toList=b.toList):a=b:=by
 rw [ByteArray.toList_eq,ByteArray.toList_eq] at h
 obtain⟨⟨x⟩⟩:=a
 obtain⟨⟨y⟩⟩:=b
 have h:x=y:=h
 rw [h]
theorem HZ{a b:Y}(h: ¬a=b):(a==b)=false:=by
 obtain⟨x⟩:=a
 obtain⟨y⟩:=b
 show(x==y)=false
 simp only [beq_eq_false_iff_ne,ne_eq]
 rintro rfl
 exact h rfl
mutual
def aA.eq:aA→aA→Bool
 | .mk k n xs,.mk l m ys=>k==l&&(n==m&&aA.eqs xs ys)
def aA.eqs:Z aA→Z aA→Bool
 | [],[]=>true
 |a::l,b::r=>aA.eq a b&&aA.eqs l r
 |_,_=>false
end
def aD.eq:aD→aD→Bool
 | .mk n x,.mk m y=>n==m&&aA.eq x y
end Go.Proofs.YtfcoaagbccmahaaGreat
namespace Go.Proofs.YtfcoaagbccmahaaGreat.W
open Tryz Go.RowKit Go.Proofs
theorem LT{n i:Nat}(h:i<n):aR (List.range n) i=i:=by rw [kU (by simpa using h)];simp
theorem afN: ∀ {l r:Z aA},aA.eqs l r=true→l.length=r.length
 | [],[],_=>rfl
 | [],_::_,h=>by simp [aA.eqs] at h
 |_::_,[],h=>by simp [aA.eqs] at h
 |a::l,b::r,h=>by
  simp only [aA.eqs,Bool.and_eq_true] at h
  simp [afN h.2]
theorem TE: ∀ {l r:Z aA},l.length=r.length→aA.eqs l r=(List.range l.length).all fun i=>aA.eq (aR l i) (aR r i)
 | [],[],_=>rfl
 | [],_::_,h=>by simp at h
 |_::_,[],h=>by simp at h
 |a::l,b::r,h=>by
  rw [aA.eqs,List.length_cons,List.range_succ_eq_map,List.all_cons,List.all_map,TE (l:=l) (r:=r) (by simpa using h)]
  rfl
theorem aoM{xs ys:Z aA}(h: ∀i,i<xs.length→i<ys.length→eK fun fu=>gC fu (aR xs i) (aR ys i)=some (aA.eq (aR xs i) (aR ys i))):eK fun fu=>mB fu xs ys=some (aA.eqs xs ys):=by
 refine bY ?_
 by_cases hl:xs.length=ys.length
 ·refine(eK.below (k:=xs.length) fun i hi=>h i hi (by omega)).imp fun fu hf=>?_
  simp only [mB,HF]
  have hd:(!decide ((((xs.length:Nat):Int):Int)=((ys.length:Nat):Int)))=false:=by simp [hl]
  rw [hd]
  have hr: ∀fu',∀(r1:aA→aA→J Bool),(∀i,i<xs.length→r1 (aR xs i) (aR ys i)=some (aA.eq (aR xs i) (aR ys i)))→P8 fu' r1 (mB fu) xs ys=some (if(List.range xs.length).all (fun i=>aA.eq (aR xs i) (aR ys i)) then .inr () else .inl false):=by
   intro fu' r1 h1
   unfold P8
   have:=EI (l:=List.range xs.length) (f:=P7 fu' r1 (mB fu) xs ys) (p:=fun i=>aA.eq (aR xs i) (aR ys i)) (r:=false) (s:=()) fun i hi=>by
    have hi':i<xs.length:=by simpa using hi
    rw [LT hi',P7]
    rw [f7 (by omega) rfl,iP (h1 i hi') rfl]
    cases aA.eq (aR xs i) (aR ys i)<;>rfl
   rwa [List.length_range] at this
  rw [hr fu _ hf,TE hl]
  cases(List.range xs.length).all fun i=>aA.eq (aR xs i) (aR ys i)<;>rfl
 ·refine .all fun fu=>?_
  simp only [mB,HF]
  have hd:(!decide ((((xs.length:Nat):Int):Int)=((ys.length:Nat):Int)))=true:=by simp;omega
  rw [hd]
  cases hq:aA.eqs xs ys
  ·rfl
  ·exact absurd (afN hq) hl
theorem acR: ∀a b:aA,eK fun fu=>gC fu a b=some (aA.eq a b):=by
 refine aA.ind fun k n xs ih=>?_;rintro⟨l,m,ys⟩
 refine bY ((aoM (xs:=xs) (ys:=ys) fun i hi hj=>ih _ (cA hi) _).imp fun fu hf=>?_)
 simp only [gC,B6,aA.aFw.eq_1,aA.aFs.eq_1,aA.aFt.eq_1,hf,aA.eq]
 by_cases h1:k=l
 ·subst h1
  by_cases h2:n=m
  ·subst h2
   simp [sw,bd,C2]
  ·simp [sw,h2,HZ]
 ·have:(k==l)=false:=by simpa using h1
  simp [sw,h1,this]
theorem FM(a b:aA):bU prog 38 [(aA.pv a),(aA.pv b)] (.t (.leaf (.bool (aA.eq a b)))):=by
 obtain⟨fu,h⟩:=(acR a b).get
 exact N1 fu a b _ h
theorem ab8{xs ys:Z aA}(h: ∀i,i<xs.length→i<ys.length→eK fun fu=>iS fu (aR xs i) (aR ys i)=some (aA.eq (aR xs i) (aR ys i))):eK fun fu=>b7 fu xs ys=some (aA.eqs xs ys):=by
 refine bY ?_
 by_cases hl:xs.length=ys.length
 ·refine(eK.below (k:=xs.length) fun i hi=>h i hi (by omega)).imp fun fu hf=>?_
  simp only [b7,jA]
  have hd:(!decide ((((xs.length:Nat):Int):Int)=((ys.length:Nat):Int)))=false:=by simp [hl]
  rw [hd]
  have hr:lB fu (iS fu) (b7 fu) xs ys=some (if(List.range xs.length).all (fun i=>aA.eq (aR xs i) (aR ys i)) then .inr () else .inl false):=by
   unfold lB
   have:=EI (l:=List.range xs.length) (f:=lA fu (iS fu) (b7 fu) xs ys) (p:=fun i=>aA.eq (aR xs i) (aR ys i)) (r:=false) (s:=()) fun i hi=>by
    have hi':i<xs.length:=by simpa using hi
    rw [LT hi',lA]
    rw [f7 (by omega) rfl,iP (hf i hi') rfl]
    cases aA.eq (aR xs i) (aR ys i)<;>rfl
   rwa [List.length_range] at this
  rw [hr,TE hl]
  cases(List.range xs.length).all fun i=>aA.eq (aR xs i) (aR ys i)<;>rfl
 ·refine .all fun fu=>?_
  simp only [b7,jA]
  have hd:(!decide ((((xs.length:Nat):Int):Int)=((ys.length:Nat):Int)))=true:=by simp;omega
  rw [hd]
  cases hq:aA.eqs xs ys
  ·rfl
  ·exact absurd (afN hq) hl
theorem ab9: ∀a b:aA,eK fun fu=>iS fu a b=some (aA.eq a b):=by
 refine aA.ind fun k n xs ih=>?_;rintro⟨l,m,ys⟩
 refine bY ((ab8 (xs:=xs) (ys:=ys) fun i hi hj=>ih _ (cA hi) _).imp fun fu hf=>?_)
 simp only [iS,H6,aA.aFw.eq_1,aA.aFs.eq_1,aA.aFt.eq_1,hf,aA.eq]
 by_cases h1:k=l
 ·subst h1
  by_cases h2:n=m
  ·subst h2
   simp [sw,bd,C2]
  ·simp [sw,h2,HZ]
 ·have:(k==l)=false:=by simpa using h1
  simp [sw,h1,this]
theorem FD(a b:aA):bU prog 95 [(aA.pv a),(aA.pv b)] (.t (.leaf (.bool (aA.eq a b)))):=by
 obtain⟨fu,h⟩:=(ab9 a b).get
 exact acA fu a b _ h
theorem Y1{α:Type}: ∀(l a:Z α),l.foldl (fun s x=>s++ [x]) a=a++l
 | [],a=>by simp
 |x::l,a=>by rw [List.foldl_cons,Y1 l];simp
theorem as8{xs:Z aA}: ∀ {x:aA},x∈xs→aX x.tr≤aW (aA.trs xs):=by
 induction xs with
 |nil=>intro x hx;simp at hx
 |cons a l ih=>
  intro x hx
  simp only [aA.trs,aW]
  rcases List.mem_cons.1 hx with rfl|hx
  ·omega
  ·have:=ih hx;omega
theorem TB(k:Int)(n:Y)(xs:Z aA):xs.length+aW (aA.trs xs)≤aX (aA.mk k n xs).tr:=by
 simp only [aA.tr,WR,aX,mM,aA.tl]
 omega
mutual
def Gd(U:LB):aA→Prop
 | .mk k n xs=>(k=1→n∈U)∧xs.length≤68719476735∧GdL U xs
def GdL(U:LB):Z aA→Prop
 | []=>True
 |x::l=>Gd U x∧GdL U l
end
theorem zF{U:LB}: ∀ {l:Z aA},GdL U l↔ ∀x∈l,Gd U x
 | []=>by simp [GdL]
 |a::l=>by rw [GdL,zF (l:=l)];simp
theorem Gd.args{U:LB}{t x:aA}(h:x∈t.aFt)(ht:Gd U t):Gd U x:=by
 obtain⟨k,n,xs⟩:=t
 rw [Gd] at ht
 exact zF.1 ht.2.2 x h
theorem Gd.mono{U V:LB}(hs: ∀x∈U,x∈V): ∀t:aA,Gd U t→Gd V t:=by
 refine aA.ind fun k n xs ih h=>?_
 rw [Gd] at h ⊢
 exact⟨fun hk=>hs _ (h.1 hk),h.2.1,zF.2 fun x hx=>ih x hx (zF.1 h.2.2 x hx)⟩
def gO(t:aA):Prop:= ∃U:LB,U.length≤68719476736∧Gd U t
theorem C0{t x:aA}(h:x∈t.aFt):gO t→gO x:=fun⟨U,hU,ht⟩=>⟨U,hU,ht.args h⟩
theorem gO.len{k:Int}{n:Y}{xs:Z aA}(h:gO (.mk k n xs)):xs.length≤68719476735:=by
 obtain⟨U,_,h⟩:=h
 rw [Gd] at h
 exact h.2.1
mutual
def GW:aA→LB
 | .mk _ n xs=>n::am6 xs
def am6:Z aA→LB
 | []=> []
 |x::l=>GW x++am6 l
end
theorem ajR{x:aA}: ∀ {l:Z aA},x∈l→ ∀n∈GW x,n∈am6 l
 |a::l,h,n,hn=>by
  rw [am6]
  rcases List.mem_cons.1 h with rfl|h
  ·exact List.mem_append.2 (.inl hn)
  ·exact List.mem_append.2 (.inr (ajR h n hn))
theorem ajQ: ∀(l:Z aA),(∀x∈l,(GW x).length≤1+aX x.tr)→(am6 l).length≤l.length+aW (aA.trs l)
 | [],_=>by simp [am6]
 |x::l,h=>by
  have h1:=h x (by simp)
  have h2:=ajQ l fun y hy=>h y (List.mem_cons_of_mem _ hy)
  simp only [am6,aA.trs,aW,List.length_append,List.length_cons]
  omega
theorem ajS: ∀t:aA,(GW t).length≤1+aX t.tr:=by
 refine aA.ind fun k n xs ih=>?_
 have h1:=ajQ xs ih
 have h2:=TB k n xs
 rw [GW,List.length_cons]
 omega
theorem Gd.own: ∀t:aA,aX t.tr≤68719476735→Gd (GW t) t:=by
 refine aA.ind fun k n xs ih hb=>?_
 have h1:=TB k n xs
 rw [Gd,GW]
 refine⟨fun _=>List.mem_cons_self ..,by omega,zF.2 fun x hx=>?_⟩
 exact(ih x hx (by have:=as8 hx;omega)).mono (fun y hy=>List.mem_cons_of_mem _ (ajR hx y hy)) x
theorem gO.of{t:aA}(h:aX t.tr≤68719476735):gO t:=⟨GW t,by have:=ajS t;omega,Gd.own t h⟩
theorem ahH{xs:Z aA}(hb:xs.length≤68719476735)(h: ∀x∈xs,eK fun fu=>jH fu x=some x):eK fun fu=>jG fu xs=some xs:=by
 refine bY ((jI h).imp fun fu hf=>?_)
 simp only [jG,AO]
 rw [lZ (l:=xs) (g:=fun s x=>s++ [x]) (fun i s=>s.length=i) (fun i s hi hp=>⟨?_,by simp [hp]⟩) rfl,Y1]
 ·rfl
 ·rw [I9,iP (hf _ (cA hi)) rfl,f7 (by simp;omega) rfl]
theorem aoF: ∀t:aA,gO t→eK fun fu=>jH fu t=some t:=by
 refine aA.ind fun k n xs ih hb=>?_
 have h1:=hb.len
 refine bY ((ahH (xs:=xs) h1 fun x hx=>ih x hx (C0 (t:= .mk k n xs) hx hb)).imp fun fu hf=>?_)
 simp only [jH,MR,aA.aFw.eq_1,aA.aFs.eq_1,aA.aFt.eq_1,hf,bd]
theorem vM(t:aA)(hb:gO t):bU prog 56 [(aA.pv t)] (aA.pv t):=by
 obtain⟨fu,h⟩:=(aoF t hb).get
 exact abF fu t _ h
theorem PC{α β:Type}[Inhabited α]{f:Nat→Z α→J (LR (Z α) β)}{l:Z α}{g:α→α}(hs: ∀i s,i<l.length→s.length=i→f i s=some (.next (s++ [g (aR l i)]))):loopN f (l.length-0) 0 []=some (.inr (l.map g)):=by
 rw [lZ (l:=l) (g:=fun s x=>s++ [g x]) (fun i s=>s.length=i) (fun i s hi hp=>⟨hs i s hi hp,by simp [hp]⟩) rfl]
 have key: ∀(l a:Z α),l.foldl (fun s x=>s++ [g x]) a=a++l.map g:=by
  intro l
  induction l with
  |nil=>intro a;simp
  |cons x l ih=>intro a;rw [List.foldl_cons,ih];simp
 rw [key,List.nil_append]
theorem acD{xs:Z aA}(hb:xs.length≤68719476735)(h: ∀x∈xs,eK fun fu=>kS fu x=some x):eK fun fu=>lP fu xs=some xs:=by
 refine bY ((jI h).imp fun fu hf=>?_)
 simp only [lP,H8]
 rw [f7 (by omega) rfl]
 have hR:FE fu (kS fu) (lP fu) xs=some (.inr xs):=by
  unfold FE
  rw [PC (l:=xs) (g:=id) fun i s hi hp=>?_,List.map_id]
  rw [NZ,iP (hf _ (cA hi)) rfl,f7 (by omega) rfl]
  rfl
 rw [soR hR rfl,f7 rfl rfl]
theorem afW: ∀t:aA,gO t→eK fun fu=>kS fu t=some t:=by
 refine aA.ind fun k n xs ih hb=>?_
 have h1:=hb.len
 refine bY ((acD (xs:=xs) h1 fun x hx=>ih x hx (C0 (t:= .mk k n xs) hx hb)).imp fun fu hf=>?_)
 simp only [kS,KJ,aA.aFw.eq_1,aA.aFs.eq_1,aA.aFt.eq_1,hf,bd]
theorem tT(t:aA)(hb:gO t):bU prog 79 [(aA.pv t)] (aA.pv t):=by
 obtain⟨fu,h⟩:=(afW t hb).get
 exact afX fu t _ h
end Go.Proofs.YtfcoaagbccmahaaGreat.W
namespace Go.Proofs.YtfcoaagbccmahaaGreat.W
set_option maxRecDepth 100000
set_option maxHeartbeats 40000000
noncomputable section
open Tryz Go.RowKit Go.Proofs
attribute [local irreducible] lt
def aaK(fu:Nat)(p0:Z aK)(pv:Y):Nat→Unit→J (LR Unit (aA×Bool)):=fun i1 _=>sw (decide ((aR p0 i1).aF9=pv)) (gd (gO ((aR p0 i1).aFu)) (some (.ret (((aR p0 i1).aFu),true)))) (some (.next ()))
def MG(fu:Nat)(p0:Z aK)(pv:Y):J (aA×Bool):=so (loopN (aaK fu p0 pv) (p0.length-0) 0 ()) fun _=>some ((aA.mk 0 s_ []),false)
theorem aaM(fu:Nat)(p0:Z aK)(pv:Y)(r:aA×Bool)(H:MG fu p0 pv=some r):bU prog 151 [iE p0,pS pv] (.tup [(aA.pv r.1),pB r.2]):=by
 refine qJ func151 H (fun C hC H=>?_)
 refine gQ 10 ?_;refine gV 0 (aK.tl _) (fun hl2=>?_)
 refine bV (σ:=Unit) (fun i1 _=>⟨[(0,iE p0),(1,pS pv),(4,.ptr 0 0),(5,pB false),(6,pN i1)],⟨[some ⟨30,[pI 0,pS s_,.nil]⟩],[]⟩⟩) (fun _=>⟨[(4,.ptr 0 0),(5,pB false)],⟨[some ⟨30,[pI 0,pS s_,.nil]⟩],[]⟩⟩) (fA H) ?_ ?_
 ·rintro i1 ⟨⟩ H
  refine gQ 8 ?_;refine cZ H (fun h3 h3l H=>?_) (fun h3 H=>?_)
  ·refine gQ 13 ?_;refine bG H (fun h4 H=>?_) (fun h4 H=>?_)
   ·refine gQ 6 ?_;refine q1 (gZ (aA.cs ((aR p0 i1).aFu))) (cB H fun z5 H=>(q1 (bJ func56 (vM ((aR p0 i1).aFu) z5)) ?_))
    exact gE 3
   exact gE 6
  exact gE 0
 rintro⟨⟩ H
 exact gE 6
abbrev HJ:=(List aA)→(List aA)→(List aK)→Option ((List aK)×Bool×(List aK))
abbrev zA:=aA→aA→(List aK)→Option ((List aK)×Bool×(List aK))
def LH(m:HJ):Prop:= ∀(pp:Z aA) (p2:Z aA) (p0:Z aK) (r:(Z aK)×Bool×(Z aK)),m pp p2 p0=some r→cM prog 212 [aV pp,aV p2,m8 p0 0] ⟨[],[⟨44,4,aK.trs (p0),false⟩]⟩ (fun q t=>q=(.tup [(bif r.2.1 then .acc 4 (aK.trs (r.1)) 0 else .t (.row 4 (aK.trs (r.1)))),pB r.2.1]:PV)∧t=⟨[],[⟨44,4,aK.trs (r.2.2),false⟩]⟩)
def JA(m:zA):Prop:= ∀(pp:aA) (pt:aA) (p0:Z aK) (r:(Z aK)×Bool×(Z aK)),m pp pt p0=some r→cM prog 233 [(aA.pv pp),(aA.pv pt),m8 p0 0] ⟨[],[⟨44,4,aK.trs (p0),false⟩]⟩ (fun q t=>q=(.tup [(bif r.2.1 then .acc 4 (aK.trs (r.1)) 0 else .t (.row 4 (aK.trs (r.1)))),pB r.2.1]:PV)∧t=⟨[],[⟨44,4,aK.trs (r.2.2),false⟩]⟩)
def U8(fu:Nat)(p4:HJ)(p3:zA)(pp p2:Z aA)(p0:Z aK):Nat→((Z aK))→J (LR ((Z aK)) ((Z aK)×Bool×(Z aK))):=fun i1 v3=>gd (i1<(p2).length) (bd (p3 (aR pp i1) (aR p2 i1) v3) fun(x8,x9,x10)=>sw x9 (gd (x8=x10) (some (.next x8))) (some (.ret (v3,false,x10))))
def abM(fu:Nat)(p4:HJ)(p3:zA)(pp p2:Z aA)(p0:Z aK):J ((Z aK)×Bool×(Z aK)):=so (loopN (U8 fu p4 p3 pp p2 p0) (pp.length-0) 0 p0) fun v3=>some (v3,true,v3)
theorem alG(fu:Nat)(p4:HJ)(p3:zA)(p8:LH p4)(p7:JA p3):LH (abM fu p4 p3):=by
 intro pp p2 p0 r H
 refine qJ func212 H (fun C hC H=>?_)
 refine gQ 10 ?_;refine gV 0 (aA.tl _) (fun hl4=>?_)
 refine bV (σ:=(Z aK)) (fun i1 v3=>⟨[(0,aV pp),(1,aV p2),(2,m8 v3 0),(6,.nil),(7,pB false),(8,pN i1)],⟨[],[⟨44,4,aK.trs (v3),false⟩]⟩⟩) (fun v3=>⟨[(2,m8 v3 0),(6,.nil),(7,pB false)],⟨[],[⟨44,4,aK.trs (v3),false⟩]⟩⟩) (fA H) ?_ ?_
 ·rintro i1 v3 H
  refine gQ 8 ?_;refine cZ H (fun h5 h5l H=>?_) (fun h5 H=>?_)
  ·refine gQ 4 ?_;refine cB H fun z6 H=>(J9 H fun x8 x9 x10 z7 H=>?_)
   cases x9
   ·have H:=sR H rfl
    refine dW (dI [0] bI (dI [8] bI (dI [18,19] mU (dI [20] (gZ (aA.cs (aR pp i1))) (dI [1] bI (dI [8] bI (dI [22,23] mU (dI [24] (gZ (aA.cs (aR p2 i1))) (dI [2] bI (dE [21,25,26] (fO [] [0] func233 (p7 (aR pp i1) (aR p2 i1) v3 _ z7)) (dI [27] bI ?_)))))))))))
    iterate 2 refine dI [17] rEx ?_
    refine dI [28] bI (dI [29] bI (dN ?_))
    refine gQ 6 ?_;refine amM (congrArg (fun b=> !b) (rfl:false=false)) ?_;exact gE 6
   have H:=sS H rfl
   obtain⟨z11,H1⟩:=gdI H
   subst z11
   have H:=H1
   refine dW (dI [0] bI (dI [8] bI (dI [18,19] mU (dI [20] (gZ (aA.cs (aR pp i1))) (dI [1] bI (dI [8] bI (dI [22,23] mU (dI [24] (gZ (aA.cs (aR p2 i1))) (dI [2] bI (dE [21,25,26] (fO [] [0] func233 (p7 (aR pp i1) (aR p2 i1) v3 _ z7)) (dI [27] bI ?_)))))))))))
   iterate 2 refine dI [17] rEx ?_
   refine dI [28] bI (dI [29] bI (dN ?_))
   refine gQ 6 ?_;refine YV (congrArg (fun b=> !b) (rfl:true=true)) ?_;exact gE 10
  exact gE 0
 rintro v3 H
 exact gE 6
def QA(fu:Nat)(p4:HJ)(p3:zA)(pp pt:aA)(p0:Z aK):J ((Z aK)×Bool×(Z aK)):=sw (decide (pp.aFw=1)) (bd (MG fu p0 pp.aFs) fun(x3,x4)=>sw x4 (sw (aA.eq x3 pt) (some (p0,(aA.eq x3 pt),p0)) (some (p0,(aA.eq x3 pt),p0))) (gd (gO pt) (gd ((p0).length+(([(aK.mk pp.aFs pt)]:Z aK)).length≤68719476736) (some ((p0++([(aK.mk pp.aFs pt)]:Z aK)),true,(p0++([(aK.mk pp.aFs pt)]:Z aK))))))) (sw (!decide (pp.aFw=pt.aFw)) (some (p0,false,p0)) (sw (!decide (pp.aFs=pt.aFs)) (some (p0,false,p0)) (sw (!decide ((pp.aFt.length:Int)=(pt.aFt.length:Int))) (some (p0,false,p0)) (bd (p4 pp.aFt pt.aFt p0) fun(x13,x14,x15)=>sw x14 (gd (x13=x15) (some (x13,true,x13))) (some (x13,false,x15))))))
theorem adG(fu:Nat)(p4:HJ)(p3:zA)(p8:LH p4)(p7:JA p3):JA (QA fu p4 p3):=by
 intro pp pt p0 r H
 refine qJ func233 H (fun C hC H=>?_)
 refine gQ 2 ?_;refine q1 (fQ (cF pp)) (q1 (fQ (cF pt)) ?_)
 refine gQ 10 ?_;refine bG H (fun h1 H=>?_) (fun h1 H=>?_)
 ·refine gQ 5 ?_;refine eX H fun x3 x4 z2 H=>(q1 (bJ func151 (aaM fu p0 pp.aFs _ z2)) ?_)
  refine gQ 12 ?_;refine bG H (fun h5 H=>?_) (fun h5 H=>?_)
  ·refine gQ 3 ?_;refine q1 (b4 [pI x3.aFw,pS x3.aFs,aV x3.aFt]) (q1 (b4 [pI pt.aFw,pS pt.aFs,aV pt.aFt]) (q1 (bJ func38 (FM x3 pt)) ?_))
   refine gQ 3 ?_;refine dR.ret ?_
   rcases nA (aA.eq x3 pt) with g6|g6
   ·have H:=sS H g6
    cases tO H
    exact qe2 (hle:=by rw [g6];exact mG) (hk:=by rw [g6];rfl)
   have H:=sR H g6
   cases tO H
   exact qe2 (hle:=by rw [g6];exact mG) (hk:=by rw [g6];rfl)
  refine gQ 2 ?_;refine cB H fun z7 H=>(cB H fun z8 H=>(dW (dI [2] bI (dI [3] bW (dD [26] eG (dD [4] (b4 [pI pt.aFw,pS pt.aFs,aV pt.aFt]) (dI [28] (bJ func56 (vM pt z7)) (dI [27,29] rQ (dI [30] (iL ([(aK.mk pp.aFs pt)]:Z aK)) (dE [25,31] (lO z8) (dI [32] bI (dI [] bI (dN ?_)))))))))))))
  exact gE 0
 refine gQ 10 ?_;refine dY 38 H (fun g9 H=>gE 23) fun g9 H=>?_;refine gQ 7 ?_;refine dY 45 H (fun g10 H=>gE 16) fun g10 H=>?_;refine gQ 9 ?_;refine bG H (fun h11 H=>gE 6) fun h11 H=>?_;refine gQ 8 ?_;refine J9 H fun x13 x14 x15 z12 H=>?_
 cases x14
 ·have H:=sR H rfl
  refine q1 (fO [] [0] func212 (p8 pp.aFt pt.aFt p0 _ z12)) ?_;exact gE 5
 have H:=sS H rfl
 obtain⟨z16,H1⟩:=gdI H
 subst z16
 have H:=H1
 refine q1 (fO [] [0] func212 (p8 pp.aFt pt.aFt p0 _ z12)) ?_;exact gE 5
mutual
def sB:Nat→(Z aA)→(Z aA)→(Z aK)→J ((Z aK)×Bool×(Z aK))
 |0,_,_,_=>none
 |fu+1,pp,p2,p0=>abM fu (sB fu) (pT fu) pp p2 p0
def pT:Nat→aA→aA→(Z aK)→J ((Z aK)×Bool×(Z aK))
 |0,_,_,_=>none
 |fu+1,pp,pt,p0=>QA fu (sB fu) (pT fu) pp pt p0
end
theorem aoU(fu:Nat):LH (sB fu)∧JA (pT fu):=by
 induction fu with
 |zero=>exact⟨(fun pp p2 p0 r H=>by simp only [sB] at H;cases H),(fun pp pt p0 r H=>by simp only [pT] at H;cases H)⟩
 |succ fu ih=>exact⟨(fun pp p2 p0 r H=>by simp only [sB] at H;exact alG fu (sB fu) (pT fu) ih.1 ih.2 pp p2 p0 r H),(fun pp pt p0 r H=>by simp only [pT] at H;exact adG fu (sB fu) (pT fu) ih.1 ih.2 pp pt p0 r H)⟩
theorem aeQ(fu:Nat):LH (sB fu):=(aoU fu).1
def EM(fu:Nat)(pp p2:Z aA):J ((Z aK)×Bool):=sw (!decide ((pp.length:Int)=(p2.length:Int))) (some (([]),false)) (bd (sB fu pp p2 ([])) fun(x3,x4,x5)=>sw x4 (gd (x3=x5) (some (x3,true))) (some (([]),false)))
theorem agE(fu:Nat)(pp:Z aA)(p2:Z aA)(r:(Z aK)×Bool)(H:EM fu pp p2=some r):bU prog 187 [aV pp,aV p2] (.tup [iE r.1,pB r.2]):=by
 refine qJ func187 H (fun C hC H=>?_)
 refine gQ 14 ?_;refine bG H (fun h1 H=>?_) (fun h1 H=>?_)
 ·refine gQ 2 ?_;refine q1 (sM ([]:Z aK)) ?_;exact gE 3
 refine gQ 5 ?_;refine q1 (sM ([]:Z aK)) (J9 H fun x3 x4 x5 z2 H=>?_)
 cases x4
 ·have H:=sR H rfl
  refine q1 (fO [] [0] func212 (aeQ fu pp p2 ([]) _ z2)) ?_;refine gQ 12 ?_;refine amM (congrArg (fun b=> !b) (rfl:false=false)) ?_;refine gQ 2 ?_;refine q1 (sM ([]:Z aK)) ?_;exact gE 3
 have H:=sS H rfl
 obtain⟨z6,H1⟩:=gdI H
 subst z6
 have H:=H1
 refine q1 (fO [] [0] func212 (aeQ fu pp p2 ([]) _ z2)) ?_;refine gQ 12 ?_;refine YV (congrArg (fun b=> !b) (rfl:true=true)) ?_;exact gE 7
def R4(fu:Nat)(pp pt:aA):J ((Z aK)×Bool):=bd (EM fu ([pp]:Z aA) ([pt]:Z aA)) fun(x2,x3)=>some (x2,x3)
theorem aeJ(fu:Nat)(pp:aA)(pt:aA)(r:(Z aK)×Bool)(H:R4 fu pp pt=some r):bU prog 161 [(aA.pv pp),(aA.pv pt)] (.tup [iE r.1,pB r.2]):=by
 refine qJ func161 H (fun C hC H=>?_)
 refine gQ 2 ?_;refine q1 (fQ (cF pp)) (q1 (fQ (cF pt)) ?_)
 refine gQ 5 ?_;refine q1 (b4 [pI pp.aFw,pS pp.aFs,aV pp.aFt]) (q1 (iL ([pp]:Z aA)) (q1 (b4 [pI pt.aFw,pS pt.aFs,aV pt.aFt]) (q1 (iL ([pt]:Z aA)) (eX H fun x2 x3 z1 H=>(q1 (bJ func187 (agE fu ([pp]:Z aA) ([pt]:Z aA) _ z1)) ?_)))))
 exact gE 5
def aaN(fu:Nat)(pp pt:aA):J Bool:=bd (R4 fu pp pt) fun(x2,x3)=>some x3
theorem aj2(fu:Nat)(pp:aA)(pt:aA)(r:Bool)(H:aaN fu pp pt=some r):bU prog 210 [(aA.pv pp),(aA.pv pt)] (pB r):=by
 refine qJ func210 H (fun C hC H=>?_)
 refine gQ 2 ?_;refine q1 (fQ (cF pp)) (q1 (fQ (cF pt)) ?_)
 refine gQ 4 ?_;refine q1 (b4 [pI pp.aFw,pS pp.aFs,aV pp.aFt]) (q1 (b4 [pI pt.aFw,pS pt.aFs,aV pt.aFt]) (eX H fun x2 x3 z1 H=>(q1 (bJ func161 (aeJ fu pp pt _ z1)) ?_)))
 exact gE 11
def ZA(fu:Nat)(p0:Z aK)(pv:Y):Nat→Unit→J (LR Unit (aA×Bool)):=fun i1 _=>sw (decide ((aR p0 i1).aF9=pv)) (gd (gO ((aR p0 i1).aFu)) (some (.ret (((aR p0 i1).aFu),true)))) (some (.next ()))
def GL(fu:Nat)(p0:Z aK)(pv:Y):J (aA×Bool):=so (loopN (ZA fu p0 pv) (p0.length-0) 0 ()) fun _=>some ((aA.mk 0 s_ []),false)
theorem ZC(fu:Nat)(p0:Z aK)(pv:Y)(r:aA×Bool)(H:GL fu p0 pv=some r):bU prog 59 [iE p0,pS pv] (.tup [(aA.pv r.1),pB r.2]):=by
 refine qJ func59 H (fun C hC H=>?_)
 refine gQ 12 ?_;refine gV 0 (aK.tl _) (fun hl2=>?_)
 refine bV (σ:=Unit) (fun i1 _=>⟨[(1,pS pv),(4,.ptr 0 0),(5,pB false),(8,iE p0),(9,pN p0.length),(10,pN i1)],⟨[some ⟨30,[pI 0,pS s_,.nil]⟩],[]⟩⟩) (fun _=>⟨[(4,.ptr 0 0),(5,pB false)],⟨[some ⟨30,[pI 0,pS s_,.nil]⟩],[]⟩⟩) (fA H) ?_ ?_
 ·rintro i1 ⟨⟩ H
  refine gQ 5 ?_;refine cZ H (fun h3 h3l H=>?_) (fun h3 H=>?_)
  ·refine gQ 6 ?_;refine q1 (gZ (aK.cs (aR p0 i1))) ?_;refine gQ 10 ?_;refine bG H (fun h4 H=>?_) (fun h4 H=>?_)
   ·refine gQ 3 ?_;refine q1 (b4 [pI (((aR p0 i1).aFu).aFw),pS (((aR p0 i1).aFu).aFs),aV (((aR p0 i1).aFu).aFt)]) (cB H fun z5 H=>(q1 (bJ func79 (tT ((aR p0 i1).aFu) z5)) ?_))
    exact gE 3
   exact gE 5
  exact gE 0
 rintro⟨⟩ H
 exact gE 6
abbrev vU:=(List aK)→(List aA)→(List aA)→Option ((List aK)×Bool×(List aK))
abbrev GN:=(List aK)→aA→aA→Option ((List aK)×Bool×(List aK))
def AA(m:vU):Prop:= ∀(ps:Z aK) (pp:Z aA) (p2:Z aA) (r:(Z aK)×Bool×(Z aK)),m ps pp p2=some r→cM prog 159 [m8 ps 0,aV pp,aV p2] ⟨[],[⟨44,4,aK.trs (ps),false⟩]⟩ (fun q t=>q=(.tup [(bif r.2.1 then .acc 4 (aK.trs (r.1)) 0 else .t (.row 4 (aK.trs (r.1)))),pB r.2.1]:PV)∧t=⟨[],[⟨44,4,aK.trs (r.2.2),false⟩]⟩)
def RM(m:GN):Prop:= ∀(ps:Z aK) (pp:aA) (pt:aA) (r:(Z aK)×Bool×(Z aK)),m ps pp pt=some r→cM prog 184 [m8 ps 0,(aA.pv pp),(aA.pv pt)] ⟨[],[⟨44,4,aK.trs (ps),false⟩]⟩ (fun q t=>q=(.tup [(bif r.2.1 then .acc 4 (aK.trs (r.1)) 0 else .t (.row 4 (aK.trs (r.1)))),pB r.2.1]:PV)∧t=⟨[],[⟨44,4,aK.trs (r.2.2),false⟩]⟩)
def BY(fu:Nat)(p1:vU)(p5:GN)(ps:Z aK)(pp p2:Z aA):Nat→((Z aK))→J (LR ((Z aK)) ((Z aK)×Bool×(Z aK))):=fun i2 v4=>gd (i2<(p2).length) (bd (p5 v4 (aR pp i2) (aR p2 i2)) fun(x9,x10,x11)=>sw x10 (gd (x9=x11) (some (.next x9))) (some (.ret ([],false,x11))))
def zZ(fu:Nat)(p1:vU)(p5:GN)(ps:Z aK)(pp p2:Z aA):J ((Z aK)×Bool×(Z aK)):=sw (!decide ((pp.length:Int)=(p2.length:Int))) (some ([],false,ps)) (so (loopN (BY fu p1 p5 ps pp p2) (pp.length-0) 0 ps) fun v4=>some (v4,true,v4))
theorem ZL(fu:Nat)(p1:vU)(p5:GN)(p6:AA p1)(p9:RM p5):AA (zZ fu p1 p5):=by
 intro ps pp p2 r H
 refine qJ func159 H (fun C hC H=>?_)
 refine gQ 14 ?_;refine bG H (fun h1 H=>gE 5) fun h1 H=>?_;refine gQ 8 ?_;refine gV 1 (aA.tl _) (fun hl5=>?_)
 refine bV (σ:=(Z aK)) (fun i2 v4=>⟨[(0,m8 v4 0),(1,aV pp),(2,aV p2),(6,.nil),(7,pB false),(17,pN pp.length),(18,pN i2)],⟨[],[⟨44,4,aK.trs (v4),false⟩]⟩⟩) (fun v4=>⟨[(0,m8 v4 0),(6,.nil),(7,pB false)],⟨[],[⟨44,4,aK.trs (v4),false⟩]⟩⟩) (fA H) ?_ ?_
 ·rintro i2 v4 H
  refine gQ 5 ?_;refine cZ H (fun h6 h6l H=>?_) (fun h6 H=>?_)
  ·refine gQ 9 ?_;refine cB H fun z7 H=>(J9 H fun x9 x10 x11 z8 H=>?_)
   cases x10
   ·have H:=sR H rfl
    refine dW (dI [0] bI (dI [1] bI (dI [8] bI (dI [23,24] mU (dI [25] (gZ (aA.cs (aR pp i2))) (dI [2] bI (dI [8] bI (dI [27,28] mU (dI [29] (gZ (aA.cs (aR p2 i2))) (dE [22,26,30] (fO [] [0] func184 (p9 v4 (aR pp i2) (aR p2 i2) _ z8)) (dI [31] bI ?_)))))))))))
    iterate 2 refine dI [21] rEx ?_
    refine dI [32] bI (dI [33] bI (dN ?_))
    refine gQ 6 ?_;refine amM (congrArg (fun b=> !b) (rfl:false=false)) ?_;exact gE 5
   have H:=sS H rfl
   obtain⟨z12,H1⟩:=gdI H
   subst z12
   have H:=H1
   refine dW (dI [0] bI (dI [1] bI (dI [8] bI (dI [23,24] mU (dI [25] (gZ (aA.cs (aR pp i2))) (dI [2] bI (dI [8] bI (dI [27,28] mU (dI [29] (gZ (aA.cs (aR p2 i2))) (dE [22,26,30] (fO [] [0] func184 (p9 v4 (aR pp i2) (aR p2 i2) _ z8)) (dI [31] bI ?_)))))))))))
   iterate 2 refine dI [21] rEx ?_
   refine dI [32] bI (dI [33] bI (dN ?_))
   refine gQ 6 ?_;refine YV (congrArg (fun b=> !b) (rfl:true=true)) ?_;exact gE 9
  exact gE 0
 rintro v4 H
 exact gE 6
def ZM(fu:Nat)(p1:vU)(p5:GN)(ps:Z aK)(pp pt:aA):J ((Z aK)×Bool×(Z aK)):=sw (decide (pp.aFw=1)) (bd (GL fu ps pp.aFs) fun(x3,x4)=>sw x4 (sw (aA.eq x3 pt) (some (ps,(aA.eq x3 pt),ps)) (some (ps,(aA.eq x3 pt),ps))) (gd (gO pt) (gd ((ps).length+(([(aK.mk pp.aFs pt)]:Z aK)).length≤68719476736) (some ((ps++([(aK.mk pp.aFs pt)]:Z aK)),true,(ps++([(aK.mk pp.aFs pt)]:Z aK))))))) (sw (!decide (pp.aFw=pt.aFw)) (some ([],false,ps)) (sw (!decide (pp.aFs=pt.aFs)) (some ([],false,ps)) (bd (p1 ps pp.aFt pt.aFt) fun(x12,x13,x14)=>sw x13 (gd (x12=x14) (some (x12,true,x12))) (some (x12,false,x14)))))
theorem ai8(fu:Nat)(p1:vU)(p5:GN)(p6:AA p1)(p9:RM p5):RM (ZM fu p1 p5):=by
 intro ps pp pt r H
 refine qJ func184 H (fun C hC H=>?_)
 refine gQ 2 ?_;refine q1 (fQ (cF pp)) (q1 (fQ (cF pt)) ?_)
 refine gQ 10 ?_;refine bG H (fun h1 H=>?_) (fun h1 H=>?_)
 ·refine gQ 6 ?_;refine eX H fun x3 x4 z2 H=>(q1 (bJ func59 (ZC fu ps pp.aFs _ z2)) ?_)
  refine gQ 11 ?_;refine bG H (fun h5 H=>?_) (fun h5 H=>?_)
  ·refine gQ 3 ?_;refine q1 (b4 [pI x3.aFw,pS x3.aFs,aV x3.aFt]) (q1 (b4 [pI pt.aFw,pS pt.aFs,aV pt.aFt]) (q1 (bJ func95 (FD x3 pt)) ?_))
   refine gQ 3 ?_;refine dR.ret ?_
   rcases nA (aA.eq x3 pt) with g6|g6
   ·have H:=sS H g6
    cases tO H
    exact qe2 (hle:=by rw [g6];exact mG) (hk:=by rw [g6];rfl)
   have H:=sR H g6
   cases tO H
   exact qe2 (hle:=by rw [g6];exact mG) (hk:=by rw [g6];rfl)
  refine gQ 2 ?_;refine cB H fun z7 H=>(cB H fun z8 H=>(dW (dI [0] bI (dI [4] bW (dD [26] eG (dD [5] (b4 [pI pt.aFw,pS pt.aFs,aV pt.aFt]) (dI [28] (bJ func79 (tT pt z7)) (dI [27,29] rQ (dI [30] (iL ([(aK.mk pp.aFs pt)]:Z aK)) (dE [25,31] (lO z8) (dI [32] bI (dI [] bI (dN ?_)))))))))))))
  exact gE 0
 refine gQ 10 ?_;refine dY 38 H (fun g9 H=>gE 13) fun g9 H=>?_;refine gQ 7 ?_;refine bG H (fun h10 H=>gE 5) fun h10 H=>?_;refine gQ 8 ?_;refine J9 H fun x12 x13 x14 z11 H=>?_
 cases x13
 ·have H:=sR H rfl
  refine q1 (fO [] [0] func159 (p6 ps pp.aFt pt.aFt _ z11)) ?_;exact gE 5
 have H:=sS H rfl
 obtain⟨z15,H1⟩:=gdI H
 subst z15
 have H:=H1
 refine q1 (fO [] [0] func159 (p6 ps pp.aFt pt.aFt _ z11)) ?_;exact gE 5
mutual
def f8:Nat→(Z aK)→(Z aA)→(Z aA)→J ((Z aK)×Bool×(Z aK))
 |0,_,_,_=>none
 |fu+1,ps,pp,p2=>zZ fu (f8 fu) (uH fu) ps pp p2
def uH:Nat→(Z aK)→aA→aA→J ((Z aK)×Bool×(Z aK))
 |0,_,_,_=>none
 |fu+1,ps,pp,pt=>ZM fu (f8 fu) (uH fu) ps pp pt
end
theorem acH(fu:Nat):AA (f8 fu)∧RM (uH fu):=by
 induction fu with
 |zero=>exact⟨(fun ps pp p2 r H=>by simp only [f8] at H;cases H),(fun ps pp pt r H=>by simp only [uH] at H;cases H)⟩
 |succ fu ih=>exact⟨(fun ps pp p2 r H=>by simp only [f8] at H;exact ZL fu (f8 fu) (uH fu) ih.1 ih.2 ps pp p2 r H),(fun ps pp pt r H=>by simp only [uH] at H;exact ai8 fu (f8 fu) (uH fu) ih.1 ih.2 ps pp pt r H)⟩
theorem RK(fu:Nat):AA (f8 fu):=(acH fu).1
def RD(fu:Nat)(pp pt:aA):J ((Z aK)×Bool):=bd (f8 fu ([]) ([pp]:Z aA) ([pt]:Z aA)) fun(x2,x3,x4)=>sw x3 (gd (x2=x4) (some (x2,true))) (some (x2,false))
theorem adZ(fu:Nat)(pp:aA)(pt:aA)(r:(Z aK)×Bool)(H:RD fu pp pt=some r):bU prog 119 [(aA.pv pp),(aA.pv pt)] (.tup [iE r.1,pB r.2]):=by
 refine qJ func119 H (fun C hC H=>?_)
 refine gQ 2 ?_;refine q1 (fQ (cF pp)) (q1 (fQ (cF pt)) ?_)
 refine gQ 5 ?_;refine q1 (b4 [pI pp.aFw,pS pp.aFs,aV pp.aFt]) (q1 (iL ([pp]:Z aA)) (q1 (b4 [pI pt.aFw,pS pt.aFs,aV pt.aFt]) (q1 (iL ([pt]:Z aA)) (J9 H fun x2 x3 x4 z1 H=>?_))))
 cases x3
 ·have H:=sR H rfl
  refine q1 (LN (res:= .tup [iE x2,pB false]) (ps:= [_,_,_]) (qs:= [.nil,aV ([pp]:Z aA),aV ([pt]:Z aA)]) rfl rfl func159 (by kernel_rfl) rfl rfl mG rfl rfl (E8 (l1:= []) (l2:= [aV ([pp]:Z aA),aV ([pt]:Z aA)]) (E:=44) (sz:=4) (q:= .tup [iE x2,pB false]) (by decide) (RK fu ([]) ([pp]:Z aA) ([pt]:Z aA) _ z1) mG rfl)) ?_;exact gE 5
 have H:=sS H rfl
 obtain⟨z5,H1⟩:=gdI H
 subst z5
 have H:=H1
 refine q1 (LN (res:= .tup [iE x2,pB true]) (ps:= [_,_,_]) (qs:= [.nil,aV ([pp]:Z aA),aV ([pt]:Z aA)]) rfl rfl func159 (by kernel_rfl) rfl rfl mG rfl rfl (E8 (l1:= []) (l2:= [aV ([pp]:Z aA),aV ([pt]:Z aA)]) (E:=44) (sz:=4) (q:= .tup [iE x2,pB true]) (by decide) (RK fu ([]) ([pp]:Z aA) ([pt]:Z aA) _ z1) mG rfl)) ?_;exact gE 5
def ZD(fu:Nat)(pp pt:aA):J Bool:=bd (RD fu pp pt) fun(x2,x3)=>some x3
theorem ai3(fu:Nat)(pp:aA)(pt:aA)(r:Bool)(H:ZD fu pp pt=some r):bU prog 182 [(aA.pv pp),(aA.pv pt)] (pB r):=by
 refine qJ func182 H (fun C hC H=>?_)
 refine gQ 2 ?_;refine q1 (fQ (cF pp)) (q1 (fQ (cF pt)) ?_)
 refine gQ 4 ?_;refine q1 (b4 [pI pp.aFw,pS pp.aFs,aV pp.aFt]) (q1 (b4 [pI pt.aFw,pS pt.aFs,aV pt.aFt]) (eX H fun x2 x3 z1 H=>(q1 (bJ func119 (adZ fu pp pt _ z1)) ?_)))
 exact gE 11
end
end Go.Proofs.YtfcoaagbccmahaaGreat.W
namespace Go.Proofs.YtfcoaagbccmahaaGreat.W
open Go.RowKit Go.WalkArith
def F1(l:Z aK)(v:Y):J aK:=l.find? (fun b=>decide (b.aF9=v))
mutual
def lF:aA→aA→Z aK→J (Z aK)
 | .mk k n ps,t,s=>
  if k=1 then(match F1 s n with
   |some b=>if aA.eq b.aFu t=true then some s else none
   |none=>some (s++ [aK.mk n t]))
  else if k=t.aFw then(if n=t.aFs then(if ps.length=t.aFt.length then nE ps t.aFt s else none) else none) else none
def nE:Z aA→Z aA→Z aK→J (Z aK)
 | [],_,s=>some s
 |p::ps,ts,s=>match ts with
  | []=>none
  |t::ts=>match lF p t s with
   |none=>none
   |some s'=>nE ps ts s'
end
theorem nd{p:Prop}[Decidable p](h: ¬p):(!decide p)=true:=by simp [h]
def wtl(l:Z aA):Nat:=l.length+aW (aA.trs l)
theorem abX(x:aA)(l:Z aA):wtl (x::l)=1+aX x.tr+wtl l:=by simp only [wtl,aA.trs,aW,List.length_cons];omega
theorem abW(k:Int)(n:Y)(ps:Z aA):wtl ps≤aX (aA.mk k n ps).tr:=TB k n ps
def s3(s:Z aK):Prop:= ∀b∈s,gO b.aFu
theorem VS: ∀(ps:Z aA),(∀x∈ps,∀t s s',lF x t s=some s'→s3 s→gO t→s3 s'∧s'.length≤s.length+1+aX x.tr)→
 ∀ts s s',nE ps ts s=some s'→s3 s→(∀t∈ts,gO t)→s3 s'∧s'.length≤s.length+wtl ps
 | [],_,ts,s,s',h,hb,_=>by
  rw [nE] at h
  obtain rfl:=Option.some.inj h
  exact⟨hb,by omega⟩
 |p::ps,hp,ts,s,s',h,hb,ht=>by
  cases ts with
  |nil=>simp [nE] at h
  |cons t ts=>
   rw [nE] at h
   cases hq:lF p t s with
   |none=>rw [hq] at h;cases h
   |some s1=>
    rw [hq] at h
    have h1:=hp p (by simp) t s s1 hq hb (ht t (by simp))
    have h2:=VS ps (fun x hx=>hp x (List.mem_cons_of_mem _ hx)) ts s1 s' h h1.1 (fun x hx=>ht x (List.mem_cons_of_mem _ hx))
    have h3:=abX p ps
    exact⟨h2.1,by omega⟩
theorem arD: ∀(p t:aA) (s s':Z aK),lF p t s=some s'→s3 s→gO t→s3 s'∧s'.length≤s.length+1+aX p.tr:=by
 refine aA.ind fun k n ps ih t s s' h hb ht=>?_
 have hw:=abW k n ps
 rw [lF] at h
 split at h
 ·split at h
  ·split at h
   ·obtain rfl:=Option.some.inj h
    exact⟨hb,by omega⟩
   ·cases h
  ·obtain rfl:=Option.some.inj h
   refine⟨fun b hb'=>?_,by simp only [List.length_append,List.length_singleton];omega⟩
   rcases List.mem_append.1 hb' with h1|h1
   ·exact hb b h1
   ·obtain rfl:=List.mem_singleton.1 h1
    exact ht
 ·split at h
  ·split at h
   ·split at h
    ·have h1:=VS ps ih _ _ _ h hb (fun x hx=>C0 hx ht)
     exact⟨h1.1,by omega⟩
    ·cases h
   ·cases h
  ·cases h
def Res(o:J (Z aK))(m:J (Z aK×Bool×Z aK)):Prop:=match o with
 |some s'=>m=some (s',true,s')
 |none=> ∃a b,m=some (a,false,b)
def ayF(o:J (Z aK))(m:J ((Z aK×Bool×Z aK)⊕Z aK)):Prop:=match o with
 |some s'=>m=some (.inr s')
 |none=> ∃a b,m=some (.inl (a,false,b))
def ayD(o:J (Z aK))(m:J (LR (Z aK) (Z aK×Bool×Z aK))):Prop:=match o with
 |some s'=>m=some (.next s')
 |none=> ∃a b,m=some (.ret (a,false,b))
theorem aeE{F:Nat→Z aK→J (LR (Z aK) (Z aK×Bool×Z aK))}{ps ts:Z aA}(hlen:ps.length=ts.length)(ht: ∀t∈ts,gO t)
 (hs: ∀i s,i<ps.length→s3 s→s.length+1+aX (aR ps i).tr≤68719476736→ayD (lF (aR ps i) (aR ts i) s) (F i s)):
 ∀(k i:Nat) (s:Z aK),ps.length-i=k→s3 s→s.length+wtl (ps.drop i)≤68719476736→ayF (nE (ps.drop i) (ts.drop i) s) (loopN F (ps.length-i) i s)
 |0,i,s,hk,_,_=>by
  rw [List.drop_of_length_le (show ps.length≤i by omega),nE]
  exact GT (by omega)
 |k+1,i,s,hk,hb,hw=>by
  have hi:i<ps.length:=by omega
  have hi2:i<ts.length:=by omega
  rw [s8 hi,abX] at hw
  have h1:=hs i s hi hb (by omega)
  rw [s8 hi,s8 hi2,nE]
  cases hq:lF (aR ps i) (aR ts i) s with
  |none=>
   rw [hq] at h1
   obtain⟨a,b,h1⟩:=h1
   exact⟨a,b,MB hi h1⟩
  |some s'=>
   rw [hq] at h1
   have h2:=arD _ _ _ _ hq hb (ht _ (cA hi2))
   have h3:=aeE hlen ht hs k (i+1) s' (by omega) h2.1 (by omega)
   rw [DE hi h1]
   exact h3
theorem ZY{F:Nat→Z aK→J (LR (Z aK) (Z aK×Bool×Z aK))}{ps ts:Z aA}(hlen:ps.length=ts.length)(ht: ∀t∈ts,gO t)
 (hs: ∀i s,i<ps.length→s3 s→s.length+1+aX (aR ps i).tr≤68719476736→ayD (lF (aR ps i) (aR ts i) s) (F i s)) {s:Z aK} (hb:s3 s) (hw:s.length+wtl ps≤68719476736):ayF (nE ps ts s) (loopN F (ps.length-0) 0 s):=by
 have:=aeE hlen ht hs ps.length 0 s (by omega) hb (by rwa [List.drop_zero])
 rwa [List.drop_zero,List.drop_zero] at this
theorem aaL(fu:Nat)(l:Z aK)(v:Y)(hb:s3 l):MG fu l v=some (match F1 l v with
 |some b=>(b.aFu,true)
 |none=>(aA.mk 0 (⟨#[]⟩) [],false)):=by
 unfold MG
 rw [n5 (p:=fun b=>decide (b.aF9=v)) (r:=fun b=>(b.aFu,true)) (fun i hi=>by
  unfold aaK
  cases h:decide ((aR l i).aF9=v)
  ·simp [sw,h]
  ·simp only [sw,h]
   rw [f7 (hb _ (cA hi)) rfl]
   simp)]
 unfold F1
 cases l.find? (fun b=>decide (b.aF9=v))<;>rfl
def SMS(fu:Nat)(p:aA):Prop:= ∀(t:aA) (s:Z aK),gO t→s3 s→s.length+1+aX p.tr≤68719476736→Res (lF p t s) (pT fu p t s)
theorem af9{fu:Nat}{ps:Z aA}(hf: ∀x∈ps,SMS fu x){ts:Z aA}{s:Z aK}(hlen:ps.length=ts.length)(ht: ∀t∈ts,gO t)(hb:s3 s)(hw:s.length+wtl ps≤68719476736):Res (nE ps ts s) (sB (fu+1) ps ts s):=by
 have hl:=ZY (F:=U8 fu (sB fu) (pT fu) ps ts s) hlen ht (fun i s hi hb hw=>by
  have h1:=hf (aR ps i) (cA hi) (aR ts i) s (ht _ (cA (by omega))) hb hw
  unfold U8
  cases hq:lF (aR ps i) (aR ts i) s with
  |none=>
   rw [hq] at h1
   obtain⟨a,b,h1⟩:=h1
   exact⟨_,b,f7 (by omega) (iP h1 rfl)⟩
  |some s'=>
   rw [hq] at h1
   exact f7 (by omega) (iP h1 (jL rfl (f7 rfl rfl)))) hb hw
 rw [sB,abM]
 cases hq:nE ps ts s with
 |none=>
  rw [hq] at hl
  obtain⟨a,b,hl⟩:=hl
  exact⟨a,b,soL hl⟩
 |some s'=>
  rw [hq] at hl
  exact soR hl rfl
theorem aeI: ∀p:aA,eK fun fu=>SMS fu p:=by
 refine aA.ind fun k n ps ih=>?_;refine bY (bY ((jI ih).imp fun fu hf t s ht hb hw=>?_))
 have hwa:=abW k n ps
 rw [pT,QA,lF]
 simp only [aA.aFw.eq_1,aA.aFs.eq_1,aA.aFt.eq_1]
 by_cases hk:k=1
 ·rw [if_pos hk,aaL _ s n hb]
  cases hq:F1 s n with
  |some b=>
   cases he:aA.eq b.aFu t with
   |true=>
    show Res (if aA.eq b.aFu t=true then some s else none) _
    rw [if_pos he]
    show _=some (s,true,s)
    refine jL (decide_eq_true hk) (iP rfl (jL rfl (jL he ?_)))
    simp only [he]
   |false=>
    show Res (if aA.eq b.aFu t=true then some s else none) _
    rw [if_neg (by simp [he])]
    refine⟨s,s,?_⟩
    refine jL (decide_eq_true hk) (iP rfl (jL rfl (iK he ?_)))
    simp only [he]
  |none=>
   show _=some (s++ [aK.mk n t],true,s++ [aK.mk n t])
   exact jL (decide_eq_true hk) (iP rfl (iK rfl (f7 ht (f7 (by simp only [List.length_singleton];omega) rfl))))
 ·rw [if_neg hk]
  by_cases h1:k=t.aFw
  ·rw [if_pos h1]
   by_cases h2:n=t.aFs
   ·rw [if_pos h2]
    by_cases h3:ps.length=t.aFt.length
    ·rw [if_pos h3]
     have ha:=af9 hf (s:=s) h3 (fun x hx=>C0 hx ht) hb (by omega)
     cases hq:nE ps t.aFt s with
     |none=>
      rw [hq] at ha
      obtain⟨a,b,ha⟩:=ha
      exact⟨_,_,iK (by simp [hk]) (iK (by simp [h1]) (iK (by simp [h2]) (iK (by simp [h3])<|iP ha (iK rfl rfl))))⟩
     |some s'=>
      rw [hq] at ha
      exact iK (by simp [hk]) (iK (by simp [h1]) (iK (by simp [h2]) (iK (by simp [h3])<|iP ha (jL rfl (f7 rfl rfl)))))
    ·rw [if_neg h3]
     exact⟨_,_,iK (by simp [hk]) (iK (by simp [h1]) (iK (by simp [h2]) (jL (nd (fun h=>h3 (Int.ofNat_inj.1 h))) rfl)))⟩
   ·rw [if_neg h2]
    exact⟨_,_,iK (by simp [hk]) (iK (by simp [h1]) (jL (by simp [h2]) rfl))⟩
  ·rw [if_neg h1]
   exact⟨_,_,iK (by simp [hk]) (jL (by simp [h1]) rfl)⟩
theorem ZB(fu:Nat)(l:Z aK)(v:Y)(hb:s3 l):GL fu l v=some (match F1 l v with
 |some b=>(b.aFu,true)
 |none=>(aA.mk 0 (⟨#[]⟩) [],false)):=by
 unfold GL
 rw [n5 (p:=fun b=>decide (b.aF9=v)) (r:=fun b=>(b.aFu,true)) (fun i hi=>by
  unfold ZA
  cases h:decide ((aR l i).aF9=v)
  ·simp [sw,h]
  ·simp only [sw,h]
   rw [f7 (hb _ (cA hi)) rfl]
   simp)]
 unfold F1
 cases l.find? (fun b=>decide (b.aF9=v))<;>rfl
def IMS(fu:Nat)(p:aA):Prop:= ∀(t:aA) (s:Z aK),gO t→s3 s→s.length+1+aX p.tr≤68719476736→Res (lF p t s) (uH fu s p t)
theorem afQ{fu:Nat}{ps:Z aA}(hf: ∀x∈ps,IMS fu x){ts:Z aA}{s:Z aK}(hlen:ps.length=ts.length)(ht: ∀t∈ts,gO t)(hb:s3 s)(hw:s.length+wtl ps≤68719476736):Res (nE ps ts s) (f8 (fu+1) s ps ts):=by
 have hl:=ZY (F:=BY fu (f8 fu) (uH fu) s ps ts) hlen ht (fun i s hi hb hw=>by
  have h1:=hf (aR ps i) (cA hi) (aR ts i) s (ht _ (cA (by omega))) hb hw
  unfold BY
  cases hq:lF (aR ps i) (aR ts i) s with
  |none=>
   rw [hq] at h1
   obtain⟨a,b,h1⟩:=h1
   exact⟨_,b,f7 (by omega) (iP h1 rfl)⟩
  |some s'=>
   rw [hq] at h1
   exact f7 (by omega) (iP h1 (jL rfl (f7 rfl rfl)))) hb hw
 rw [f8,zZ]
 rw [show sw (!decide (((ps.length:Nat):Int)=((ts.length:Nat):Int)))=fun(x y:J (Z aK×Bool×Z aK))=>y by funext x y;exact iK (by simp [hlen]) rfl]
 cases hq:nE ps ts s with
 |none=>
  rw [hq] at hl
  obtain⟨a,b,hl⟩:=hl
  exact⟨a,b,soL hl⟩
 |some s'=>
  rw [hq] at hl
  exact soR hl rfl
theorem adY: ∀p:aA,eK fun fu=>IMS fu p:=by
 refine aA.ind fun k n ps ih=>?_;refine bY (bY ((jI ih).imp fun fu hf t s ht hb hw=>?_))
 have hwa:=abW k n ps
 rw [uH,ZM,lF]
 simp only [aA.aFw.eq_1,aA.aFs.eq_1,aA.aFt.eq_1]
 by_cases hk:k=1
 ·rw [if_pos hk,ZB _ s n hb]
  cases hq:F1 s n with
  |some b=>
   cases he:aA.eq b.aFu t with
   |true=>
    show Res (if aA.eq b.aFu t=true then some s else none) _
    rw [if_pos he]
    show _=some (s,true,s)
    refine jL (decide_eq_true hk) (iP rfl (jL rfl (jL he ?_)))
    simp only [he]
   |false=>
    show Res (if aA.eq b.aFu t=true then some s else none) _
    rw [if_neg (by simp [he])]
    refine⟨s,s,?_⟩
    refine jL (decide_eq_true hk) (iP rfl (jL rfl (iK he ?_)))
    simp only [he]
  |none=>
   show _=some (s++ [aK.mk n t],true,s++ [aK.mk n t])
   exact jL (decide_eq_true hk) (iP rfl (iK rfl (f7 ht (f7 (by simp only [List.length_singleton];omega) rfl))))
 ·rw [if_neg hk]
  by_cases h1:k=t.aFw
  ·rw [if_pos h1]
   by_cases h2:n=t.aFs
   ·rw [if_pos h2]
    by_cases h3:ps.length=t.aFt.length
    ·rw [if_pos h3]
     have ha:=afQ hf (s:=s) h3 (fun x hx=>C0 hx ht) hb (by omega)
     cases hq:nE ps t.aFt s with
     |none=>
      rw [hq] at ha
      obtain⟨a,b,ha⟩:=ha
      exact⟨_,_,iK (by simp [hk]) (iK (by simp [h1]) (iK (by simp [h2]) (iP ha (iK rfl rfl))))⟩
     |some s'=>
      rw [hq] at ha
      exact iK (by simp [hk]) (iK (by simp [h1]) (iK (by simp [h2]) (iP ha (jL rfl (f7 rfl rfl)))))
    ·rw [if_neg h3]
     have ha:f8 (fu+1) s ps t.aFt=some ([],false,s):=by
      rw [f8,zZ]
      exact jL (nd (fun h=>h3 (Int.ofNat_inj.1 h))) rfl
     exact⟨_,_,iK (by simp [hk]) (iK (by simp [h1]) (iK (by simp [h2]) (iP ha (iK rfl rfl))))⟩
   ·rw [if_neg h2]
    exact⟨_,_,iK (by simp [hk]) (iK (by simp [h1]) (jL (by simp [h2]) rfl))⟩
  ·rw [if_neg h1]
   exact⟨_,_,iK (by simp [hk]) (jL (by simp [h1]) rfl)⟩
def nM(p t:aA):Bool:=(lF p t []).isSome
theorem s3.nil:s3 []:=fun b hb=>by simp at hb
theorem IG(p t:aA):nE [p] [t] []=lF p t []:=by
 rw [nE]
 cases hq:lF p t [] with
 |none=>simp [hq]
 |some s=>simp [hq,nE]
theorem X0(p:aA):wtl [p]=1+aX p.tr:=by rw [abX];simp [wtl,aA.trs,aW]
theorem VV(p t:aA)(hp:aX p.tr≤68719476735)(ht:gO t):bU Tryz.prog 210 [(aA.pv p),(aA.pv t)] (.t (.leaf (.bool (nM p t)))):=by
 obtain⟨fu,hf⟩:=(aeI p).get
 refine aj2 (fu+1) p t _ ?_
 have h1:=af9 (fu:=fu) (ps:= [p]) (by simpa using hf) (ts:= [t]) (s:= []) rfl (by simpa using ht) s3.nil (by rw [X0];simp only [List.length_nil];omega)
 rw [IG] at h1
 unfold aaN R4 EM nM
 cases hq:lF p t [] with
 |none=>
  rw [hq] at h1
  obtain⟨a,b,h1⟩:=h1
  exact iP (iP (iK rfl (iP h1 (iK rfl rfl))) rfl) rfl
 |some s=>
  rw [hq] at h1
  exact iP (iP (iK rfl (iP h1 (jL rfl (f7 rfl rfl)))) rfl) rfl
theorem KF(p t:aA)(hp:aX p.tr≤68719476735)(ht:gO t):bU Tryz.prog 182 [(aA.pv p),(aA.pv t)] (.t (.leaf (.bool (nM p t)))):=by
 obtain⟨fu,hf⟩:=(adY p).get
 refine ai3 (fu+1) p t _ ?_
 have h1:=afQ (fu:=fu) (ps:= [p]) (by simpa using hf) (ts:= [t]) (s:= []) rfl (by simpa using ht) s3.nil (by rw [X0];simp only [List.length_nil];omega)
 rw [IG] at h1
 unfold ZD RD nM
 cases hq:lF p t [] with
 |none=>
  rw [hq] at h1
  obtain⟨a,b,h1⟩:=h1
  exact iP (iP h1 (iK rfl rfl)) rfl
 |some s=>
  rw [hq] at h1
  exact iP (iP h1 (jL rfl (f7 rfl rfl))) rfl
end Go.Proofs.YtfcoaagbccmahaaGreat.W
namespace Go.Proofs.YtfcoaagbccmahaaGreat
open Go.RowKit
section
variable {P:Program} {ops:Array Oper} {Q:Exit→Act→World→Prop} {md:Region.Mode} {S:World→Prop}
theorem sZ{rest:Z Oper}{o:Oper}{a:Act}{w:World}(hwd:Region.wanted o (yielded ops a.tmps)=true)(ty:TypeId)(x:Operand)(ho:o.op= .load ty x)
 (b off:Nat) (hx:a.eval x= .pointer (some ⟨b,off,none⟩)) (cs:Z Value) (fs:Array Field) (hu:P.underlying ty=some (.struct fs)) (hi:(P.info? ty).map (·.size)=some cs.length)
 (hc: ∀j v,cs[j]?=some v→w.cell? ⟨b,off+j,none⟩=some v) (h:wpList P ops Q rest (a.put o.dst (.agg ⟨cs⟩)) w):wpList P ops Q (o::rest) a w:=
 wpList_step fun _ hK=>by
  rw [if_pos hwd]
  unfold Oper.wp execOp
  simp only [ho,hx,Instr.loadAt,Instr.sureAddr,Sem.run_bind,Sem.run_pure,Result.andThen_ok,JI w b off ty cs fs hu hi hc]
  exact hK _ _ h
end
end Go.Proofs.YtfcoaagbccmahaaGreat
namespace Go.Proofs.YtfcoaagbccmahaaGreat.W
open Tryz Go.RowKit Go.Proofs
theorem ayR:(prog.info? 26).map (·.size)=some 1:=by kernel_rfl
theorem aBf:(prog.info? 52).map (·.size)=some 2:=by kernel_rfl
theorem ajV(l:Z aF): ∀e∈aF.trs l,∀d∈e,∃u,d= .leaf u:=by
 intro e he d hd
 rw [aF.tm] at he
 obtain⟨x,_,rfl⟩:=List.mem_map.1 he
 exact Z4 x d hd
theorem as2(x0:aH)(w:World)(c0:Z Value)(h0:iV w x0.tr c0)(hb:(gA x0).length≤68719476736):Calls prog 180 #[.agg ⟨c0⟩] w fun e w'=> ∃v,e= .returned v∧wI w w'∧D2 w' (.row 2 (aF.trs (gA x0))) v (QH w w'):=by
 rw [aH.tc] at h0
 exact(Q8 0 x0 _ (avC 0 x0 hb)).own (ajV _) (J4.cons (RV0.agg h0) J4.nil)
theorem izT:(prog.info? 30).map (·.size)=some 3:=by kernel_rfl
theorem izI:(prog.info? 163).map (·.size)=some 12:=by kernel_rfl
theorem aeZ{P:Program}{f:FuncId}{args:Z PV}{ts:Z Tr}{d:Value}(h:bU P f args (.tup [.agg (ts.map PV.t),.t (.leaf d)])){w:World}{vals:Z Value}(hv:J4 w args vals):Calls P f ⟨vals⟩ w fun e w'=> ∃cs,e= .returned (.tuple #[.agg ⟨cs⟩,d])∧wI w w'∧iV w' ts cs:=
 (h av0 af3 w vals (ax1 w) hv).mono fun e w'=>by
  rintro⟨res,st',m',v,rfl,⟨rfl,rfl⟩,-,he,vs,rfl,hr⟩
  match vs,hr with
  | [u,x],hr=>
   obtain⟨rfl,-⟩:=(cH.rep (show cH _ _ (.leaf d) x from hr.2.1)).leaf_eq
   obtain⟨cs,rfl,hl⟩:=hr.1
   exact⟨cs,rfl,he.ext,QO hl⟩
theorem ayQ(x0:aH)(o:aF)(hO:wS x0 o)(w:World)(c0 cs:Z Value)(h0:iV w x0.tr c0)(hr:iV w o.tr cs):Calls prog 118 #[.agg ⟨c0⟩,.agg ⟨cs⟩] w fun e w'=> ∃ci,e= .returned (.tuple #[.agg ⟨ci⟩,.bool true])∧wI w w'∧iV w' (cT x0 o).cs ci:=by
 rw [aH.tc] at h0
 rw [aF.tc] at hr
 exact aeZ (ts:=(cT x0 o).cs) (BX 0 x0 o _ (RJ 0 x0 o hO)) (J4.cons (RV0.agg h0) (J4.cons (RV0.agg hr) J4.nil))
theorem atR(p t:aA)(w:World)(c0 c1:Z Value)(h0:iV w p.tr c0)(h1:iV w t.tr c1)(hp:aX p.tr≤68719476735)(ht:gO t):Calls prog 182 #[.agg ⟨c0⟩,.agg ⟨c1⟩] w fun e w'=>e= .returned (.bool (nM p t))∧wI w w':=by
 rw [aA.tc] at h0 h1
 exact bU.plain (KF p t hp ht) (J4.cons (RV0.agg h0) (J4.cons (RV0.agg h1) J4.nil))
set_option maxRecDepth 100000 in
set_option maxHeartbeats 2000000 in
theorem aiS(x0:aH)(g:aD)(c0 cg:Z Value)(B0 B1:Nat)(o:aF)(cs:Z Value)(w:World)(hob0:OB w B0 26 ⟨c0⟩)(hob1:OB w B1 32 ⟨cg⟩)(h0:iV w x0.tr c0)(hg:iV w g.tr cg)(hr:iV w o.tr cs)(hO:wS x0 o)
 (hB0:aX (cT x0 o).aFJ.tr≤68719476735) (hB1:gO g.aFu):
 Calls prog 181 (#[.agg ⟨cs⟩]++ #[.pointer (some ⟨B0,0,none⟩),.pointer (some ⟨B1,0,none⟩)]) w fun e w'=>e= .returned (.bool (!(decide ((cT x0 o).aFz=g.aFz)&&nM (cT x0 o).aFJ g.aFu)))∧wI w w':=by
 have HI0:Hid ((prog.info? 26).map (·.size)=some c0.length):=by rw [← h0.length,aH.tr_len];exact ayR
 have HI1:Hid ((prog.info? 52).map (·.size)=some cs.length):=by rw [← hr.length,aF.tr_len];exact aBf
 rw [aD.tc] at hg
 obtain⟨d0,d1,d2,d3,rfl⟩:=ayT hg.length.symm
 obtain⟨rfl,-⟩:=hg.1.leaf_eq
 have HG:Hid (iV w g.aFu.tr [d1,d2,d3]):=by rw [aA.tc];exact hg.2
 have HOB0:=Lib.hid hob0
 have HOB1:=Lib.hid hob1
 have H0:=Lib.hid h0
 have HR:=Lib.hid hr
 have HB0:=Lib.hid hB0
 have HB1:=Lib.hid hB1
 clear hob0 hob1 h0 hr hg hB0 hB1
 go_enter func181,ntmps181
 go_wp2_with (first
  |(refine mF rfl 26 (.tmp 1) rfl B0 0 rfl c0 _ underlying26 HI0.out (HOB0.out.ext (.alloc (.refl _) _)).cells0 ?_)
  |(refine mF rfl 52 (.tmp 3) rfl w.heap.size 0 rfl cs _ underlying52 HI1.out (OB.new w _ _).cells0 ?_))
 refine(ayQ x0 o hO _ c0 cs (H0.out.ext (.alloc (.refl _) _)) (HR.out.ext (.alloc (.refl _) _))).mono ?_;rintro e w1 ⟨ci,rfl,hw1,hci⟩
 have HW1:=Lib.hid (wI.trans (.alloc (.refl w) _) hw1)
 clear hw1
 have HCI:=Lib.hid hci
 have HCL:Hid (ci.length=12):=by rw [← hci.length];rfl
 have HII:Hid ((prog.info? 163).map (·.size)=some ci.length):=by rw [HCL.out];exact izI
 clear hci
 by_cases ht:(cT x0 o).aFz=g.aFz
 ·have HT:=Lib.hid ht
  clear ht
  go_wp2_with (first
   |(refine t7 rfl 163 (.tmp 5) (.tmp 11) rfl w1.heap.size 0 rfl ci rfl 163 _ (OB.new w1 _ _) HII.out (by rw [HCL.out];exact Nat.le_refl _) HCI.out.one ?_;intro w2 hob hgb hzb;rw [JC (by rw [HCL.out];rfl)] at hob;have HOBI:=Lib.hid hob;have HX2:=Lib.hid (TK (.alloc (.refl w1) _) hgb (Nat.le_refl _));clear hob hgb hzb;obtain⟨e0,e1,e2,e3,e4,e5,e6,e7,e8,e9,e10,e11,rfl⟩:=atO HCL.out;obtain⟨rfl,-⟩:=HCI.out.1.leaf_eq;have HH:Hid (iV w1 (cT x0 o).aFJ.tr [e2,e3,e4]):=(by rw [aA.tc];exact⟨HCI.out.2.2.1,HCI.out.2.2.2.1,HCI.out.2.2.2.2.1,trivial⟩);have HXX:=Lib.hid (HW1.out.trans HX2.out);have hcI:w2.cell? ⟨w1.heap.size,0,none⟩=some (.string (cT x0 o).aFz):=(by rw [HOBI.out.cell];rfl);have hcG:w2.cell? ⟨B1,0,none⟩=some (.string g.aFz):=(by rw [(HOB1.out.ext HXX.out).cell];rfl);rw [HT.out] at hcI)
   |(refine sZ (by rfl) 30 (.tmp 19) rfl w1.heap.size 2 rfl [e2,e3,e4] _ underlying30 izT (fun j v hv=>by rw [HOBI.out.cell];rcases j with _|_|_|j<;>first|(simp at hv;done)|simpa using hv) ?_)
   |(refine sZ (by rfl) 30 (.tmp 21) rfl B1 1 rfl [d1,d2,d3] _ underlying30 izT (fun j v hv=>by rw [(HOB1.out.ext HXX.out).cell];rcases j with _|_|_|j<;>first|(simp at hv;done)|simpa using hv) ?_))
  refine(atR _ _ w2 _ _ (HH.out.ext HX2.out) (HG.out.ext HXX.out) HB0.out HB1.out).mono ?_;rintro e w3 ⟨rfl,hw3⟩
  have HX3:=Lib.hid (HXX.out.trans hw3)
  clear hw3
  go_wp2_with fail
  go_ret
  refine⟨?_,HX3.out⟩
  rw [decide_eq_true HT.out]
  rfl
 ·have hne: ¬(cT x0 o).aFz.toList=g.aFz.toList:=fun h=>ht (aqN h)
  have HD:Hid (decide ((cT x0 o).aFz=g.aFz)=false):=decide_eq_false ht
  have HT:Hid ((cT x0 o).aFz=(cT x0 o).aFz):=rfl
  clear ht
  go_wp2_with (first
   |(refine t7 rfl 163 (.tmp 5) (.tmp 11) rfl w1.heap.size 0 rfl ci rfl 163 _ (OB.new w1 _ _) HII.out (by rw [HCL.out];exact Nat.le_refl _) HCI.out.one ?_;intro w2 hob hgb hzb;rw [JC (by rw [HCL.out];rfl)] at hob;have HOBI:=Lib.hid hob;have HX2:=Lib.hid (TK (.alloc (.refl w1) _) hgb (Nat.le_refl _));clear hob hgb hzb;obtain⟨e0,e1,e2,e3,e4,e5,e6,e7,e8,e9,e10,e11,rfl⟩:=atO HCL.out;obtain⟨rfl,-⟩:=HCI.out.1.leaf_eq;have HH:Hid (iV w1 (cT x0 o).aFJ.tr [e2,e3,e4]):=(by rw [aA.tc];exact⟨HCI.out.2.2.1,HCI.out.2.2.2.1,HCI.out.2.2.2.2.1,trivial⟩);have HXX:=Lib.hid (HW1.out.trans HX2.out);have hcI:w2.cell? ⟨w1.heap.size,0,none⟩=some (.string (cT x0 o).aFz):=(by rw [HOBI.out.cell];rfl);have hcG:w2.cell? ⟨B1,0,none⟩=some (.string g.aFz):=(by rw [(HOB1.out.ext HXX.out).cell];rfl))
   |(refine sZ (by rfl) 30 (.tmp 19) rfl w1.heap.size 2 rfl [e2,e3,e4] _ underlying30 izT (fun j v hv=>by rw [HOBI.out.cell];rcases j with _|_|_|j<;>first|(simp at hv;done)|simpa using hv) ?_)
   |(refine sZ (by rfl) 30 (.tmp 21) rfl B1 1 rfl [d1,d2,d3] _ underlying30 izT (fun j v hv=>by rw [(HOB1.out.ext HXX.out).cell];rcases j with _|_|_|j<;>first|(simp at hv;done)|simpa using hv) ?_))
  go_ret
  refine⟨?_,HXX.out⟩
  rw [HD.out]
  rfl
def s7(w:aH)(g:aD)(o:aF):Bool:=decide ((cT w o).aFz=g.aFz)&&nM (cT w o).aFJ g.aFu
set_option maxRecDepth 100000 in
set_option maxHeartbeats 2000000 in
theorem aiT(x0:aH)(g:aD)(w:World)(c0 cg:Z Value)(h0:iV w x0.tr c0)(hg:iV w g.tr cg)(hb:(gA x0).length≤68719476736)(hB0: ∀o,wS x0 o→aX (cT x0 o).aFJ.tr≤68719476735)(hB1:gO g.aFu):
 Calls prog 155 #[.agg ⟨c0⟩,.agg ⟨cg⟩] w fun e w'=> ∃v,e= .returned v∧wI w w'∧D2 w' (.row 2 (aF.trs ((gA x0).filter fun o=>s7 x0 g o))) v (QH w w'):=by
 have H0:=Lib.hid h0
 have HG:=Lib.hid hg
 have HB0:=Lib.hid hB0
 have HI0:Hid ((prog.info? 26).map (·.size)=some c0.length):=by rw [← h0.length,aH.tr_len];exact ayR
 clear h0 hg hB0
 go_enter func155,ntmps155
 go_wp2_with (refine mF rfl 26 (.tmp 2) rfl w.heap.size 0 rfl c0 _ underlying26 HI0.out (Two.new w _ _ _ _).o0.cells0 ?_)
 refine(as2 x0 _ c0 (H0.out.ext (.alloc (.alloc (.refl _) _) _)) hb).mono ?_;rintro e w1 ⟨v,rfl,hw1,ho1⟩
 have HW1:=Lib.hid hw1
 have HO1:=Lib.hid ho1
 clear hw1 ho1
 go_wp2_with fail
 refine(YX (gA x0) (fun o=> !s7 x0 g o) 181 #[.pointer (some ⟨w.heap.size,0,none⟩),.pointer (some ⟨w.heap.size+1,0,none⟩)] (jF func181 (by kernel_rfl) (by kernel_rfl)) v w1 (QH ((w.alloc _).alloc _) w1) (fun x hx=>hx.2) (fun o ho cs W hW hr=>by
  have hx:=VH.ext HW1.out hW (fun x hx=>hx.1)
  exact aiS x0 g c0 cg w.heap.size (w.heap.size+1) o cs W ((Two.new w _ _ _ _).o0.ext hx) ((Two.new w _ _ _ _).o1.ext hx) (H0.out.ext (wI.trans (.alloc (.alloc (.refl _) _) _) hx)) (HG.out.ext (wI.trans (.alloc (.alloc (.refl _) _) _) hx)) hr (XT ho) (HB0.out o (XT ho)) hB1) (by rw [← aF.tm];exact HO1.out)).mono ?_
 rintro e w2 ⟨v2,rfl,hc2,ho2⟩
 have hx2:=VH.ext HW1.out hc2 (fun x hx=>hx.1)
 have HX2:=Lib.hid (wI.trans (.alloc (.alloc (.refl _) _) _) hx2)
 have hz:w1.heap.size≤w2.heap.size:=hc2.size
 have HO2:=Lib.hid ho2
 clear hc2 hx2 ho2
 go_wp2_with fail
 go_ret
 refine⟨_,rfl,HX2.out,?_⟩
 rw [aF.tm]
 have ho:=HO2.out
 simp only [Bool.not_not] at ho
 exact ho.mono fun x hx=>⟨by have h1:=hx.1;simp only [World.size_alloc] at h1;omega,by have h1:=hx.2;omega⟩
theorem aqV(w:aH)(g:aD)(hw:wt w≤13000000)(hg:gO g.aFu):bU prog 155 [(aH.pv w),(aD.pv g)] (dM ((gA w).filter fun o=>s7 w g o)):=
 aeY rfl fun W vals hv=>by
  match vals,hv with
  | [v0,v1],hv=>
   obtain⟨c0,rfl,h0⟩:=hv.1
   obtain⟨c1,rfl,h1⟩:=hv.2.1
   exact aiT w g W c0 c1 (QO (ts:=w.tr) (by rw [aH.tc];exact h0)) (QO (ts:=g.tr) (by rw [aD.tc];exact h1)) (Nat.le_trans (YQ hw) (by decide)) (fun o ho=>Nat.le_trans (apF hw ho) (by decide)) hg
end Go.Proofs.YtfcoaagbccmahaaGreat.W
namespace Go.Proofs.YtfcoaagbccmahaaGreat.W
set_option maxRecDepth 100000
set_option maxHeartbeats 40000000
noncomputable section
open Tryz Go.RowKit Go.Proofs
attribute [local irreducible] lt
def VU(fu:Nat)(pt:aA):J Bool:=bd (qL fu pt) fun x2=>sw (decide ((x2.length:Int)=0)) (bd (eI fu pt) fun x5=>some (!(x5))) (some false)
theorem agD(fu:Nat)(pt:aA)(r:Bool)(H:VU fu pt=some r):bU prog 34 [(aA.pv pt)] (pB r):=by
 refine qJ func34 H (fun C hC H=>?_)
 refine gQ 2 ?_;refine q1 (fQ (cF pt)) ?_;refine gQ 4 ?_;refine q1 (b4 [pI pt.aFw,pS pt.aFs,aV pt.aFt]) (bN H fun x2 z1 H=>(q1 (bJ func85 (ER fu pt _ z1)) ?_))
 refine gQ 3 ?_;refine dY 7 H (fun g3 H=>?_) fun g3 H=>?_
 ·refine qg g3 (b4 [pI pt.aFw,pS pt.aFs,aV pt.aFt]) (bN H fun x5 z4 H=>(qg g3 (bJ func86 (w9 fu pt _ z4)) ?_))
  exact gE 4
 exact gE 6
def F5(fu:Nat)(ps:LB)(pv:Y):Nat→Unit→J (LR Unit Int):=fun i1 _=>sw (decide (pv=aR ps i1)) (some (.ret (i1:Int))) (some (.next ()))
def uN(fu:Nat)(ps:LB)(pv:Y):J Int:=so (loopN (F5 fu ps pv) (ps.length-0) 0 ()) fun _=>some (-1)
theorem TJ(fu:Nat)(ps:LB)(pv:Y)(r:Int)(H:uN fu ps pv=some r):bU prog 213 [rS ps,pS pv] (pI r):=by
 refine qJ func213 H (fun C hC H=>?_)
 refine gQ 11 ?_;refine gV 0 (b6 _) (fun hl2=>?_)
 refine bV (σ:=Unit) (fun i1 _=>⟨[(0,rS ps),(1,pS pv),(4,pI 0),(7,pN ps.length),(8,pN i1)],⟨[],[]⟩⟩) (fun _=>⟨[(4,pI 0)],⟨[],[]⟩⟩) (fA H) ?_ ?_
 ·rintro i1 ⟨⟩ H
  refine gQ 5 ?_;refine cZ H (fun h3 h3l H=>?_) (fun h3 H=>?_)
  ·refine gQ 17 ?_;refine bG H (fun h4 H=>gE 5) fun h4 H=>?_;exact gE 5
  exact gE 0
 rintro⟨⟩ H
 exact gE 4
def nB(fu:Nat)(ps:LB)(pv:Y):J Bool:=bd (uN fu ps pv) fun x2=>some (decide (x2≥0))
theorem BH(fu:Nat)(ps:LB)(pv:Y)(r:Bool)(H:nB fu ps pv=some r):bU prog 195 [rS ps,pS pv] (pB r):=by
 refine qJ func195 H (fun C hC H=>?_)
 refine gQ 8 ?_;refine bN H fun x2 z1 H=>(q1 (bJ func213 (TJ fu ps pv _ z1)) ?_)
 exact gE 3
def tU(fu:Nat)(pu:aA)(c1:LB):J ((LB)):=sw (decide (pu.aFw=1)) (bd (nB fu c1 pu.aFs) fun x3=>sw (!(x3)) (gd ((c1).length+(([pu.aFs]:LB)).length≤68719476736) (some (c1++([pu.aFs]:LB)))) (some c1)) (some c1)
theorem RP(fu:Nat)(pu:aA)(c1:LB)(r:(LB))(H:tU fu pu c1=some r):cM prog 194 [(aA.pv pu),.ptr 0 0] ⟨[some ⟨36,[aS c1 0]⟩],[⟨9,1,bA (c1),false⟩]⟩ (fun q t=>q=(.tup [])∧t=⟨[some ⟨36,[aS r 0]⟩],[⟨9,1,bA (r),false⟩]⟩):=by
 refine qJ func194 H (fun C hC H=>?_)
 refine gQ 2 ?_;refine q1 (fQ (cF pu)) ?_;refine gQ 7 ?_;refine dY 6 H (fun g1 H=>?_) fun g1 H=>?_
 ·refine gQ 3 ?_;refine bN H fun x3 z2 H=>(qg g1 (bJ func195 (BH fu c1 pu.aFs _ z2)) ?_)
  refine gQ 3 ?_;refine bG H (fun h4 H=>?_) (fun h4 H=>?_)
  ·refine gQ 4 ?_;refine q1 (iL ([pu.aFs]:LB)) (cB H fun z5 H=>(q1 (lO z5) ?_))
   refine gQ 2 ?_
   cases tO H
   exact qe (ps:= []) ⟨rfl,rfl⟩ trivial
  refine dR.skip ?_
  cases tO H
  exact qe (ps:= []) ⟨rfl,rfl⟩ trivial
 refine gQ 9 ?_
 cases tO H
 exact qe (ps:= []) ⟨rfl,rfl⟩ trivial
abbrev j8:=aA→(LB)→Option ((LB))
def j7(m:j8):Prop:= ∀(pt:aA) (c1_0:LB) (r:(LB)),m pt c1_0=some r→cM prog 93 [(aA.pv pt),.fn 194 [.ptr 0 0]] ⟨[some ⟨36,[aS c1_0 0]⟩],[⟨9,1,bA (c1_0),false⟩]⟩ (fun q t=>q=(.tup []:PV)∧t=⟨[some ⟨36,[aS r 0]⟩],[⟨9,1,bA (r),false⟩]⟩)
def r7(fu:Nat)(p1:j8)(pt:aA)(c1_0 x2:LB):Nat→((LB))→J (LR ((LB)) ((LB))):=fun i3 v5=>bd (p1 (aR pt.aFt i3) v5) fun x9=>some (.next x9)
def mO(fu:Nat)(p1:j8)(pt:aA)(c1_0:LB):J ((LB)):=bd (tU fu pt c1_0) fun x2=>so (loopN (r7 fu p1 pt c1_0 x2) (pt.aFt.length-0) 0 x2) fun v5=>some v5
theorem xZ(fu:Nat)(p1:j8)(p3:j7 p1):j7 (mO fu p1):=by
 intro pt c1_0 r H
 refine qJ func93 H (fun C hC H=>?_)
 refine gQ 2 ?_;refine q1 (fQ (cF pt)) ?_;refine gQ 4 ?_;refine q1 (b4 [pI pt.aFw,pS pt.aFs,aV pt.aFt]) (bN H fun x2 z1 H=>(q1 (vO (pre:=⟨[some ⟨36,[aS c1_0 0]⟩],[⟨9,1,bA (c1_0),false⟩]⟩) (st':=⟨[some ⟨36,[aS x2 0]⟩],[⟨9,1,bA (x2),false⟩]⟩) (ps:= [_]) (cs:= [.ptr 0 0]) (qs:= [(aA.pv pt),.ptr 0 0]) [0] [0] rfl rfl rfl func194 (by kernel_rfl) rfl rfl rfl (lM.of ⟨⟨_,rfl,rfl,mG,rfl⟩,trivial⟩ ⟨rfl,trivial⟩ (by decide) (by decide)) mG rfl rfl rfl (RP fu pt c1_0 _ z1)) ?_))
 refine gQ 8 ?_;refine gV 10 (aA.tl _) (fun hl6=>?_)
 refine bV (σ:=(LB)) (fun i3 v5=>⟨[(1,.fn 194 [.ptr 0 0]),(10,aV pt.aFt),(11,pN pt.aFt.length),(12,pN i3)],⟨[some ⟨36,[aS v5 0]⟩,some ⟨30,cF pt⟩],[⟨9,1,bA (v5),false⟩]⟩⟩) (fun v5=>⟨[],⟨[some ⟨36,[aS v5 0]⟩,some ⟨30,cF pt⟩],[⟨9,1,bA (v5),false⟩]⟩⟩) (fA H) ?_ ?_
 ·rintro i3 v5 H
  refine gQ 5 ?_;refine cZ H (fun h7 h7l H=>?_) (fun h7 H=>?_)
  ·refine gQ 6 ?_;refine q1 (gZ (aA.cs (aR pt.aFt i3))) ?_;refine gQ 4 ?_;refine q1 (b4 [pI ((aR pt.aFt i3).aFw),pS ((aR pt.aFt i3).aFs),aV ((aR pt.aFt i3).aFt)]) (q1 bI (bN H fun x9 z8 H=>(q1 (fO [0] [0] func93 (p3 (aR pt.aFt i3) v5 _ z8)) ?_)))
   exact gE 5
  exact gE 0
 rintro v5 H
 cases tO H
 exact qe (ps:= []) ⟨rfl,rfl⟩ trivial
def c9:Nat→aA→(LB)→J ((LB))
 |0,_,_=>none
 |fu+1,pt,c1_0=>mO fu (c9 fu) pt c1_0
theorem zY(fu:Nat):j7 (c9 fu):=by
 induction fu with
 |zero=>exact(fun pt c1_0 r H=>by simp only [c9] at H;cases H)
 |succ fu ih=>exact(fun pt c1_0 r H=>by simp only [c9] at H;exact xZ fu (c9 fu) ih pt c1_0 r H)
theorem AZ(fu:Nat):j7 (c9 fu):=(zY fu)
def JG(fu:Nat)(p4:Z aA):Nat→((LB))→J (LR ((LB)) ((LB))):=fun i1 v3=>bd (c9 fu (aR p4 i1) v3) fun x7=>some (.next x7)
def C9(fu:Nat)(p4:Z aA):J ((LB)):=so (loopN (JG fu p4) (p4.length-0) 0 ([])) fun v3=>some v3
theorem W0(fu:Nat)(p4:Z aA)(r:(LB))(H:C9 fu p4=some r):bU prog 169 [aV p4] (rS r):=by
 refine qJ func169 H (fun C hC H=>?_)
 refine gQ 6 ?_;refine q1 (sM ([]:LB)) ?_;refine gQ 10 ?_;refine gV 0 (aA.tl _) (fun hl4=>?_)
 refine bV (σ:=(LB)) (fun i1 v3=>⟨[(2,.nil),(3,.ptr 0 0),(7,aV p4),(8,pN p4.length),(9,pN i1)],⟨[some ⟨36,[aS v3 0]⟩],[⟨9,1,bA (v3),false⟩]⟩⟩) (fun v3=>⟨[(2,.nil),(3,.ptr 0 0)],⟨[some ⟨36,[aS v3 0]⟩],[⟨9,1,bA (v3),false⟩]⟩⟩) (fA H) ?_ ?_
 ·rintro i1 v3 H
  refine gQ 5 ?_;refine cZ H (fun h5 h5l H=>?_) (fun h5 H=>?_)
  ·refine gQ 6 ?_;refine q1 (gZ (aA.cs (aR p4 i1))) ?_;refine gQ 4 ?_;refine q1 (b4 [pI ((aR p4 i1).aFw),pS ((aR p4 i1).aFs),aV ((aR p4 i1).aFt)]) (q1 rMf (bN H fun x7 z6 H=>(q1 (fO [0] [0] func93 (AZ fu (aR p4 i1) v3 _ z6)) ?_)))
   exact gE 5
  exact gE 0
 rintro v3 H
 exact gE 5
def tS(fu:Nat)(pt:aA):J ((LB)):=bd (C9 fu ([pt]:Z aA)) fun x2=>some x2
theorem RG(fu:Nat)(pt:aA)(r:(LB))(H:tS fu pt=some r):bU prog 133 [(aA.pv pt)] (rS r):=by
 refine qJ func133 H (fun C hC H=>?_)
 refine gQ 2 ?_;refine q1 (fQ (cF pt)) ?_;refine gQ 4 ?_;refine q1 (b4 [pI pt.aFw,pS pt.aFs,aV pt.aFt]) (q1 (iL ([pt]:Z aA)) (bN H fun x2 z1 H=>(q1 (bJ func169 (W0 fu ([pt]:Z aA) _ z1)) ?_)))
 exact gE 2
def q8(fu:Nat)(pu:aA)(c1:Bool):J Bool:=sw (c1) (some true) (some (decide (pu.aFw=3)))
theorem M6(fu:Nat)(pu:aA)(c1:Bool)(r:Bool)(H:q8 fu pu c1=some r):cM prog 94 [(aA.pv pu),.ptr 0 0] ⟨[some ⟨4,[pB c1]⟩],[]⟩ (fun q t=>q=(.tup [])∧t=⟨[some ⟨4,[pB r]⟩],[]⟩):=by
 refine qJ func94 H (fun C hC H=>?_)
 refine gQ 2 ?_;refine q1 (fQ (cF pu)) ?_;refine gQ 4 ?_;refine dY 4 H (fun g1 H=>?_) fun g1 H=>?_
 ·refine gQ 6 ?_
  cases tO H
  exact qe (ps:= []) ⟨rfl,rfl⟩ trivial
 refine gQ 6 ?_
 cases tO H
 exact qe (ps:= []) ⟨rfl,rfl⟩ trivial
abbrev jD:=aA→Bool→Option Bool
def jC(m:jD):Prop:= ∀(pt:aA) (c1_0:Bool) (r:Bool),m pt c1_0=some r→cM prog 93 [(aA.pv pt),.fn 94 [.ptr 0 0]] ⟨[some ⟨4,[pB c1_0]⟩],[]⟩ (fun q t=>q=(.tup []:PV)∧t=⟨[some ⟨4,[pB r]⟩],[]⟩)
def qC(fu:Nat)(p0:jD)(pt:aA)(c1_0 x2:Bool):Nat→Bool→J (LR Bool Bool):=fun i3 v4=>bd (p0 (aR pt.aFt i3) v4) fun x8=>some (.next x8)
def lY(fu:Nat)(p0:jD)(pt:aA)(c1_0:Bool):J Bool:=bd (q8 fu pt c1_0) fun x2=>so (loopN (qC fu p0 pt c1_0 x2) (pt.aFt.length-0) 0 x2) fun v4=>some v4
theorem wR(fu:Nat)(p0:jD)(p2:jC p0):jC (lY fu p0):=by
 intro pt c1_0 r H
 refine qJ func93 H (fun C hC H=>?_)
 refine gQ 2 ?_;refine q1 (fQ (cF pt)) ?_;refine gQ 4 ?_;refine q1 (b4 [pI pt.aFw,pS pt.aFs,aV pt.aFt]) (bN H fun x2 z1 H=>(q1 (vO (pre:=⟨[some ⟨4,[pB c1_0]⟩],[]⟩) (st':=⟨[some ⟨4,[pB x2]⟩],[]⟩) (ps:= [_]) (cs:= [.ptr 0 0]) (qs:= [(aA.pv pt),.ptr 0 0]) [0] [] rfl rfl rfl func94 (by kernel_rfl) rfl rfl rfl (lM.of ⟨⟨_,rfl,rfl,mG,rfl⟩,trivial⟩ trivial (by decide) (by decide)) mG rfl rfl rfl (M6 fu pt c1_0 _ z1)) ?_))
 refine gQ 8 ?_;refine gV 10 (aA.tl _) (fun hl5=>?_)
 refine bV (σ:=Bool) (fun i3 v4=>⟨[(1,.fn 94 [.ptr 0 0]),(10,aV pt.aFt),(11,pN pt.aFt.length),(12,pN i3)],⟨[some ⟨4,[pB v4]⟩,some ⟨30,cF pt⟩],[]⟩⟩) (fun v4=>⟨[],⟨[some ⟨4,[pB v4]⟩,some ⟨30,cF pt⟩],[]⟩⟩) (fA H) ?_ ?_
 ·rintro i3 v4 H
  refine gQ 5 ?_;refine cZ H (fun h6 h6l H=>?_) (fun h6 H=>?_)
  ·refine gQ 6 ?_;refine q1 (gZ (aA.cs (aR pt.aFt i3))) ?_;refine gQ 4 ?_;refine q1 (b4 [pI ((aR pt.aFt i3).aFw),pS ((aR pt.aFt i3).aFs),aV ((aR pt.aFt i3).aFt)]) (q1 bI (bN H fun x8 z7 H=>(q1 (fO [0] [] func93 (p2 (aR pt.aFt i3) v4 _ z7)) ?_)))
   exact gE 5
  exact gE 0
 rintro v4 H
 cases tO H
 exact qe (ps:= []) ⟨rfl,rfl⟩ trivial
def cW:Nat→aA→Bool→J Bool
 |0,_,_=>none
 |fu+1,pt,c1_0=>lY fu (cW fu) pt c1_0
theorem xJ(fu:Nat):jC (cW fu):=by
 induction fu with
 |zero=>exact(fun pt c1_0 r H=>by simp only [cW] at H;cases H)
 |succ fu ih=>exact(fun pt c1_0 r H=>by simp only [cW] at H;exact wR fu (cW fu) ih pt c1_0 r H)
theorem xY(fu:Nat):jC (cW fu):=(xJ fu)
def xW(fu:Nat)(pt:aA):J Bool:=bd (cW fu pt false) fun x2=>some x2
theorem RC(fu:Nat)(pt:aA)(r:Bool)(H:xW fu pt=some r):bU prog 39 [(aA.pv pt)] (pB r):=by
 refine qJ func39 H (fun C hC H=>?_)
 refine gQ 2 ?_;refine q1 (fQ (cF pt)) ?_;refine gQ 9 ?_;refine q1 (b4 [pI pt.aFw,pS pt.aFs,aV pt.aFt]) (q1 rMf (bN H fun x2 z1 H=>(q1 (fO [1] [] func93 (xY fu pt false _ z1)) ?_)))
 exact gE 6
def VP(fu:Nat)(pt:aA):J Bool:=bd (tS fu pt) fun x2=>sw (decide ((x2.length:Int)=0)) (bd (xW fu pt) fun x5=>some (!(x5))) (some false)
theorem afT(fu:Nat)(pt:aA)(r:Bool)(H:VP fu pt=some r):bU prog 78 [(aA.pv pt)] (pB r):=by
 refine qJ func78 H (fun C hC H=>?_)
 refine gQ 2 ?_;refine q1 (fQ (cF pt)) ?_;refine gQ 4 ?_;refine q1 (b4 [pI pt.aFw,pS pt.aFs,aV pt.aFt]) (bN H fun x2 z1 H=>(q1 (bJ func133 (RG fu pt _ z1)) ?_))
 refine gQ 3 ?_;refine dY 7 H (fun g3 H=>?_) fun g3 H=>?_
 ·refine qg g3 (b4 [pI pt.aFw,pS pt.aFs,aV pt.aFt]) (bN H fun x5 z4 H=>(qg g3 (bJ func39 (RC fu pt _ z4)) ?_))
  exact gE 4
 exact gE 6
def n9(fu:Nat)(pa pb:aA):J Bool:=gd (aX (aA.tr pb)≤68719476735) (gd (gO pa) (some (nM pb pa)))
theorem xN(fu:Nat)(pa:aA)(pb:aA)(r:Bool)(H:n9 fu pa pb=some r):bU prog 211 [(aA.pv pa),(aA.pv pb)] (pB r):=by
 refine qJ func211 H (fun C hC H=>?_)
 refine gQ 2 ?_;refine q1 (fQ (cF pa)) (q1 (fQ (cF pb)) ?_)
 refine gQ 4 ?_;refine q1 (b4 [pI pb.aFw,pS pb.aFs,aV pb.aFt]) (q1 (b4 [pI pa.aFw,pS pa.aFs,aV pa.aFt]) (cB H fun z1 H=>(cB H fun z2 H=>(q1 (bJ func210 (VV pb pa z1 z2)) ?_))))
 exact gE 2
def JK(fu:Nat)(pa pb:aA):J Bool:=bd (n9 fu pa pb) fun x2=>sw x2 (bd (n9 fu pb pa) fun x5=>some (!(x5))) (some false)
theorem UK(fu:Nat)(pa:aA)(pb:aA)(r:Bool)(H:JK fu pa pb=some r):bU prog 186 [(aA.pv pa),(aA.pv pb)] (pB r):=by
 refine qJ func186 H (fun C hC H=>?_)
 refine gQ 2 ?_;refine q1 (fQ (cF pa)) (q1 (fQ (cF pb)) ?_)
 refine gQ 4 ?_;refine q1 (b4 [pI pa.aFw,pS pa.aFs,aV pa.aFt]) (q1 (b4 [pI pb.aFw,pS pb.aFs,aV pb.aFt]) (bN H fun x2 z1 H=>(q1 (bJ func211 (xN fu pa pb _ z1)) (q1 bI ?_))))
 refine dY 8 H (fun g3 H=>?_) fun g3 H=>?_
 ·refine qg g3 (b4 [pI pb.aFw,pS pb.aFs,aV pb.aFt]) (qg g3 (b4 [pI pa.aFw,pS pa.aFs,aV pa.aFt]) (bN H fun x5 z4 H=>(qg g3 (bJ func211 (xN fu pb pa _ z4)) ?_)))
  exact gE 4
 exact gE 7
def JF(fu:Nat)(pa pb:aA):J Bool:=gd (aX (aA.tr pb)≤68719476735) (gd (gO pa) (sw (nM pb pa) (gd (aX (aA.tr pa)≤68719476735) (gd (gO pb) (some (!(nM pa pb))))) (some false)))
theorem TO(fu:Nat)(pa:aA)(pb:aA)(r:Bool)(H:JF fu pa pb=some r):bU prog 158 [(aA.pv pa),(aA.pv pb)] (pB r):=by
 refine qJ func158 H (fun C hC H=>?_)
 refine gQ 2 ?_;refine q1 (fQ (cF pa)) (q1 (fQ (cF pb)) ?_)
 refine gQ 4 ?_;refine q1 (b4 [pI pb.aFw,pS pb.aFs,aV pb.aFt]) (q1 (b4 [pI pa.aFw,pS pa.aFs,aV pa.aFt]) (cB H fun z1 H=>(cB H fun z2 H=>(q1 (bJ func182 (KF pb pa z1 z2)) (q1 bI ?_)))))
 refine dY 8 H (fun g3 H=>?_) fun g3 H=>?_
 ·refine qg g3 (b4 [pI pa.aFw,pS pa.aFs,aV pa.aFt]) (qg g3 (b4 [pI pb.aFw,pS pb.aFs,aV pb.aFt]) (cB H fun z4 H=>(cB H fun z5 H=>(qg g3 (bJ func182 (KF pa pb z4 z5)) ?_))))
  exact gE 4
 exact gE 7
end
end Go.Proofs.YtfcoaagbccmahaaGreat.W
namespace Go.Proofs.YtfcoaagbccmahaaGreat.W
attribute [local irreducible] lt
open Tryz Go.RowKit Go.WalkArith
theorem aiW{α:Type}{p:α→Bool}: ∀l:Z α,(l.find? p).isSome=l.any p
 | []=>rfl
 |a::l=>by
  rw [List.find?_cons,List.any_cons]
  cases p a with
  |true=>rfl
  |false=>exact aiW l
theorem apS{α:Type}{p:α→Bool}{l:Z α}{m:J (Bool⊕Unit)}{f:Unit→J Bool}(hm:m=some (match l.find? p with|some _=> .inl true|none=> .inr ())){b:Bool}(hf:f ()=some b):so m f=some (l.any p||b):=by
 have h:=aiW (p:=p) l
 cases hq:l.find? p with
 |none=>
  rw [hq] at hm h
  rw [← h]
  exact soR hm hf
 |some x=>
  rw [hq] at hm h
  rw [← h]
  exact soL hm
def wL(l:LB)(s:Y):Bool:=l.any fun x=>decide (x=s)
theorem U3(fu:Nat)(l:LB)(s:Y):mL fu l s=some (wL l s):=by
 unfold mL
 rw [apS (l:=l) (p:=fun x=>decide (x=s)) (b:=false) ?_ rfl,Bool.or_false]
 ·rfl
 ·exact n5 (p:=fun x=>decide (x=s)) (r:=fun _=>true) (fun i hi=>by unfold aeM;cases decide (aR l i=s)<;>rfl)
theorem QV(fu:Nat)(l:LB)(s:Y):nB fu l s=some (wL l s):=by
 have h1:uN fu l s=some (match l.findIdx? (fun x=>decide (s=x)) with|some i=>((i:Nat):Int)|none=> -1):=by
  unfold uN
  rw [tG (l:=l) (p:=fun x=>decide (s=x)) fun i hi=>by
   unfold F5
   cases decide (s=aR l i)<;>rfl]
  cases l.findIdx? fun x=>decide (s=x)<;>rfl
 have h2:(fun x=>decide (s=x))=fun x=>decide (x=s):=funext fun x=>decide_eq_decide.2 ⟨Eq.symm,Eq.symm⟩
 unfold nB
 refine iP h1 (congrArg some ?_)
 refine TP.trans ?_
 rw [h2]
 rfl
def CD(k:Int)(n:Y)(o:LB):LB:=if k=1 then(bif wL o n then o else o++ [n]) else o
mutual
def vsO:aA→LB→LB
 | .mk k n xs,o=>alP xs (CD k n o)
def alP:Z aA→LB→LB
 | [],o=>o
 |x::r,o=>alP r (vsO x o)
end
theorem VB: ∀(xs:Z aA) (o:LB),alP xs o=xs.foldl (fun s x=>vsO x s) o
 | [],o=>rfl
 |x::r,o=>by rw [alP,List.foldl_cons,VB r]
theorem aeF: ∀(l U:LB),l.Nodup→(∀x∈l,x∈U)→l.length≤U.length
 | [],U,_,_=>by simp
 |a::l,U,hn,h=>by
  rw [List.nodup_cons] at hn
  have ha:a∈U:=h a (by simp)
  have h1:=aeF l (U.filter fun x=> !decide (x=a)) hn.2 fun x hx=>List.mem_filter.2 ⟨h x (List.mem_cons_of_mem _ hx),by
   have:x≠a:=fun e=>hn.1 (e ▸ hx)
   simp [this]⟩
  have h2:(U.filter fun x=> !decide (x=a)).length<U.length:=List.length_filter_lt_length_iff_exists.2 ⟨a,ha,by simp⟩
  rw [List.length_cons]
  omega
def InU(U o:LB):Prop:=o.Nodup∧ ∀x∈o,x∈U
theorem avA{o:LB}{n:Y}(h:wL o n=false):n∉o:=fun hn=>by
 have:wL o n=true:=List.any_eq_true.2 ⟨n,hn,decide_eq_true rfl⟩
 rw [h] at this
 cases this
theorem InU.snoc{U o:LB}{n:Y}(h:InU U o)(hn:n∈U)(hh:wL o n=false):InU U (o++ [n]):=by
 refine⟨List.nodup_append.2 ⟨h.1,by simp,fun a ha b hb e=>avA hh ?_⟩,fun x hx=>?_⟩
 ·rw [List.mem_singleton.1 hb] at e
  exact e ▸ ha
 ·rcases List.mem_append.1 hx with h1|h1
  ·exact h.2 x h1
  ·rw [List.mem_singleton.1 h1];exact hn
theorem InU.room{U o:LB}{n:Y}(h:InU U o)(hn:n∈U)(hh:wL o n=false)(hU:U.length≤68719476736):o.length+1≤68719476736:=by
 have h1:=h.snoc hn hh
 have:=aeF _ _ h1.1 h1.2
 simp only [List.length_append,List.length_singleton] at this
 omega
theorem QD{U:LB}{k:Int}{n:Y}{o:LB}(hn:k=1→n∈U)(h:InU U o):InU U (CD k n o):=by
 unfold CD
 split
 ·cases hq:wL o n with
  |true=>exact h
  |false=>exact h.snoc (hn ‹_›) hq
 ·exact h
theorem aeV{U:LB}: ∀(xs:Z aA),(∀x∈xs,∀o,Gd U x→InU U o→InU U (vsO x o))→GdL U xs→ ∀o,InU U o→InU U (alP xs o)
 | [],_,_,o,h=>h
 |x::r,hx,hg,o,h=>by
  rw [GdL] at hg
  rw [alP]
  exact aeV r (fun y hy=>hx y (List.mem_cons_of_mem _ hy)) hg.2 _ (hx x (by simp) o hg.1 h)
theorem auP{U:LB}: ∀(t:aA) (o:LB),Gd U t→InU U o→InU U (vsO t o):=by
 refine aA.ind fun k n xs ih o hg h=>?_
 rw [Gd] at hg
 rw [vsO]
 exact aeV xs ih hg.2.2 _ (QD hg.1 h)
theorem aoP: ∀t:aA,eK fun fu=> ∀U o:LB,U.length≤68719476736→Gd U t→InU U o→m7 fu t o=some (vsO t o):=by
 refine aA.ind fun k n xs ih=>?_;refine bY ((jI ih).imp fun fu hf U o hU hg ho=>?_)
 have hg':=hg
 rw [Gd] at hg'
 simp only [m7,MX]
 have hC:P9 fu (m7 fu) (.mk k n xs) o=some (.inr (CD k n o)):=by
  unfold P9 CD
  simp only [aA.aFw.eq_1,aA.aFs.eq_1]
  by_cases hk:k=1
  ·rw [if_pos hk]
   refine jL (by simp [hk]) (iP (U3 fu o n) ?_)
   cases hq:wL o n with
   |true=>exact iK rfl rfl
   |false=>exact jL rfl (f7 (ho.room (hg'.1 hk) hq hU) rfl)
  ·rw [if_neg hk]
   exact iK (by simp [hk]) rfl
 have hl:=QD hg'.1 ho
 refine soR hC (soR (s:=alP xs (CD k n o)) ?_ rfl)
 simp only [aA.aFt.eq_1]
 rw [lZ (l:=xs) (g:=fun s x=>vsO x s) (fun i s=>InU U s) (fun i s hi hp=>?_) hl,VB]
 refine⟨?_,?_⟩
 ·unfold abL
  simp only [aA.aFt.eq_1]
  exact iP (hf _ (cA hi) U s hU (zF.1 hg'.2.2 _ (cA hi)) hp) rfl
 ·exact auP _ s (zF.1 hg'.2.2 _ (cA hi)) hp
theorem afY: ∀t:aA,eK fun fu=> ∀U o:LB,U.length≤68719476736→Gd U t→InU U o→c9 fu t o=some (vsO t o):=by
 refine aA.ind fun k n xs ih=>?_;refine bY ((jI ih).imp fun fu hf U o hU hg ho=>?_)
 have hg':=hg
 rw [Gd] at hg'
 simp only [c9,mO]
 have hC:tU fu (.mk k n xs) o=some (CD k n o):=by
  unfold tU CD
  simp only [aA.aFw.eq_1,aA.aFs.eq_1]
  by_cases hk:k=1
  ·rw [if_pos hk]
   refine jL (by simp [hk]) (iP (QV fu o n) ?_)
   cases hq:wL o n with
   |true=>exact iK rfl rfl
   |false=>exact jL rfl (f7 (ho.room (hg'.1 hk) hq hU) rfl)
  ·rw [if_neg hk]
   exact iK (by simp [hk]) rfl
 have hl:=QD hg'.1 ho
 refine iP hC (soR (s:=alP xs (CD k n o)) ?_ rfl)
 simp only [aA.aFt.eq_1]
 rw [lZ (l:=xs) (g:=fun s x=>vsO x s) (fun i s=>InU U s) (fun i s hi hp=>?_) hl,VB]
 refine⟨?_,?_⟩
 ·unfold r7
  simp only [aA.aFt.eq_1]
  exact iP (hf _ (cA hi) U s hU (zF.1 hg'.2.2 _ (cA hi)) hp) rfl
 ·exact auP _ s (zF.1 hg'.2.2 _ (cA hi)) hp
mutual
def hpT:aA→Bool
 | .mk k _ xs=>avB xs||decide (k=3)
def avB:Z aA→Bool
 | []=>false
 |x::r=>hpT x||avB r
end
theorem Y3: ∀xs:Z aA,avB xs=xs.any hpT
 | []=>rfl
 |x::r=>by rw [avB,Y3 r,List.any_cons]
theorem aj1: ∀t:aA,eK fun fu=>eI fu t=some (hpT t):=by
 refine aA.ind fun k n xs ih=>?_;refine bY ((jI ih).imp fun fu hf=>?_)
 simp only [eI,tZ]
 rw [apS (l:=xs) (p:=hpT) (b:=decide (k=3)) ?_ rfl,← Y3]
 ·rfl
 ·simp only [aA.aFt.eq_1]
  exact n5 (p:=hpT) (r:=fun _=>true) (fun i hi=>by
   unfold EK
   simp only [aA.aFt.eq_1]
   refine iP (hf _ (cA hi)) ?_
   cases hpT (aR xs i)<;>rfl)
theorem apL{α:Type}(p:α→Bool): ∀(l:Z α) (b:Bool),l.foldl (fun b x=>b||p x) b=(b||l.any p)
 | [],b=>by simp
 |a::l,b=>by rw [List.foldl_cons,apL p l,List.any_cons,Bool.or_assoc]
theorem acF: ∀t:aA,eK fun fu=> ∀c:Bool,cW fu t c=some (c||hpT t):=by
 refine aA.ind fun k n xs ih=>?_;refine bY ((jI ih).imp fun fu hf c=>?_)
 simp only [cW,lY]
 have hC:q8 fu (.mk k n xs) c=some (c||decide (k=3)):=by
  unfold q8
  simp only [aA.aFw.eq_1]
  cases c<;>rfl
 refine iP hC (soR (s:=((c||decide (k=3))||xs.any hpT)) ?_ ?_)
 ·simp only [aA.aFt.eq_1]
  rw [lZ (l:=xs) (g:=fun s x=>s||hpT x) (fun _ _=>True) (fun i s hi _=>⟨?_,trivial⟩) trivial,apL]
  unfold qC
  simp only [aA.aFt.eq_1]
  exact iP (hf _ (cA hi) s) rfl
 ·rw [hpT,Y3]
  cases c<;>cases decide (k=3)<;>simp
def eH(t:aA):Bool:=decide ((((vsO t []).length:Nat):Int)=0)&& !hpT t
theorem oE(t:aA)(hb:gO t):bU prog 34 [(aA.pv t)] (.t (.leaf (.bool (eH t)))):=by
 obtain⟨U,hU,hg⟩:=hb
 obtain⟨fu,h1,h2⟩:=((aoP t).and (aj1 t)).get
 refine agD fu t _ ?_
 unfold VU qL eH
 refine iP (iP (h1 U [] hU hg ⟨List.nodup_nil,fun x hx=>by simp at hx⟩) rfl) ?_
 cases hd:decide ((((vsO t []).length:Nat):Int)=0) with
 |true=>exact jL rfl (iP h2 rfl)
 |false=>exact iK rfl rfl
theorem H7(t:aA)(hb:gO t):bU prog 78 [(aA.pv t)] (.t (.leaf (.bool (eH t)))):=by
 obtain⟨U,hU,hg⟩:=hb
 obtain⟨fu,h1,h2⟩:=((afY t).and (acF t)).get
 refine afT fu t _ ?_
 have hv:tS fu t=some (vsO t []):=by
  unfold tS C9
  refine iP (soR (s:=vsO t []) ?_ rfl) rfl
  rw [lZ (l:= [t]) (g:=fun s x=>vsO x s) (fun i s=>i=0→s= []) (fun i s hi hp=>?_) (fun _=>rfl)]
  ·rfl
  ·obtain rfl:i=0:=by simp only [List.length_cons,List.length_nil] at hi;omega
   obtain rfl:=hp rfl
   refine⟨?_,fun h=>by omega⟩
   unfold JG
   exact iP (h1 U [] hU hg ⟨List.nodup_nil,fun x hx=>by simp at hx⟩) rfl
 unfold VP eH xW
 refine iP hv ?_
 cases hd:decide ((((vsO t []).length:Nat):Int)=0) with
 |true=>exact jL rfl (iP (iP (h2 false) rfl) (by simp))
 |false=>exact iK rfl rfl
def GV(a b:aA):Bool:=nM b a&& !nM a b
theorem UJ(a b:aA)(ha:aX (aA.tr a)≤68719476735)(hb:aX (aA.tr b)≤68719476735):bU prog 186 [(aA.pv a),(aA.pv b)] (.t (.leaf (.bool (GV a b)))):=by
 refine UK 0 a b _ ?_
 unfold JK n9 GV
 refine iP (f7 hb (f7 (.of ha) rfl)) ?_
 cases hd:nM b a with
 |true=>exact jL rfl (iP (f7 ha (f7 (.of hb) rfl)) rfl)
 |false=>exact iK rfl rfl
theorem TN(a b:aA)(ha:aX (aA.tr a)≤68719476735)(hb:aX (aA.tr b)≤68719476735):bU prog 158 [(aA.pv a),(aA.pv b)] (.t (.leaf (.bool (GV a b)))):=by
 refine TO 0 a b _ ?_
 unfold JF GV
 refine f7 hb (f7 (.of ha) ?_)
 cases hd:nM b a with
 |true=>exact jL rfl (f7 ha (f7 (.of hb) rfl))
 |false=>exact iK rfl rfl
end Go.Proofs.YtfcoaagbccmahaaGreat.W
namespace Go.Proofs.YtfcoaagbccmahaaGreat.W
set_option maxRecDepth 100000
set_option maxHeartbeats 40000000
noncomputable section
open Tryz Go.RowKit Go.Proofs
attribute [local irreducible] lt
def rE(fu:Nat)(pw:aH)(pg:aD)(x2:Z aF):Nat→((Z aF))→J (LR ((Z aF)) ((Z aF))):=fun i3 v5=>gd (0≤(aR x2 i3).aFF∧((aR x2 i3).aFF).toNat<(pw.aFr).length) (lt (aR pw.aFr (((aR x2 i3).aFF).toNat)) fun y9=>gd (0≤(aR x2 i3).aFS∧((aR x2 i3).aFS).toNat<(y9.aFG).length) (lt (aR y9.aFG (((aR x2 i3).aFS).toNat)) fun y12=>sw (decide (y12.aFz=pg.aFz)) (gd (aX (aA.tr y12.aFJ)≤68719476735) (gd (gO pg.aFu) (sw (nM y12.aFJ pg.aFu) (gd ((v5).length+(([(aR x2 i3)]:Z aF)).length≤68719476736) (some (.next (v5++([(aR x2 i3)]:Z aF))))) (some (.next v5))))) (some (.next v5))))
def nK(fu:Nat)(pw:aH)(pg:aD):J ((Z aF)):=bd (uS fu pw) fun x2=>so (loopN (rE fu pw pg x2) (x2.length-0) 0 ([])) fun v5=>some v5
theorem IK(fu:Nat)(pw:aH)(pg:aD)(r:(Z aF))(H:nK fu pw pg=some r):bU prog 185 [(aH.pv pw),(aD.pv pg)] (dM r):=by
 refine qJ func185 H (fun C hC H=>?_)
 refine gQ 2 ?_;refine q1 (fQ ([aP pw.aFr])) (q1 (fQ (b8 pg)) ?_)
 refine gQ 4 ?_;refine q1 (sM ([]:Z aF)) ?_;refine gQ 4 ?_;refine q1 (b4 [aP pw.aFr]) (bN H fun x2 z1 H=>(q1 (bJ func209 (UC fu pw _ z1)) ?_))
 refine gQ 7 ?_;refine gV 6 (aF.tl _) (fun hl6=>?_)
 refine bV (σ:=(Z aF)) (fun i3 v5=>⟨[(2,.ptr 0 0),(3,.ptr 1 0),(4,.nil),(5,gS v5 0),(6,dM x2),(7,pN i3)],⟨[some ⟨26,[aP pw.aFr]⟩,some ⟨32,b8 pg⟩],[⟨52,2,aF.trs (v5),false⟩]⟩⟩) (fun v5=>⟨[(4,.nil),(5,gS v5 0)],⟨[some ⟨26,[aP pw.aFr]⟩,some ⟨32,b8 pg⟩],[⟨52,2,aF.trs (v5),false⟩]⟩⟩) (fA H) ?_ ?_
 ·rintro i3 v5 H
  refine gQ 8 ?_;refine cZ H (fun h7 h7l H=>?_) (fun h7 H=>?_)
  ·refine gQ 4 ?_;refine cB H fun z8 H=>(gM H fun y9 h10 H=>(cB H fun z11 H=>(gM H fun y12 h13 H=>(dW (dI [2] bW (dB [18] 0 1 tP (dI [6] bI (dI [7] bI (dI [20,21] mU (dI [22] xE (dI [23] wH (dI [19,24] (rIm h10 z8 aqP.h) (dI [25] xE ?_)))))))))))))
   refine dI [26] wH (dI [6] bI (dI [7] bI (dI [28,29] mU (dI [30] xE (dI [31] wH (dI [27,32] (rIm h13 z11 aiU.h) (dI [33] (gZ (aL.cs y12)) (dE [] tAl (iW [8,34] hY (dN ?_))))))))))
   refine gQ 8 ?_;refine dY 40 H (fun g14 H=>?_) fun g14 H=>?_
   ·refine qg g14 bW (qg g14 (b4 [pI y12.aFJ.aFw,pS y12.aFJ.aFs,aV y12.aFJ.aFt]) (qg g14 bW (qg g14 (b4 [pI pg.aFu.aFw,pS pg.aFu.aFs,aV pg.aFu.aFt]) (cB H fun z15 H=>(cB H fun z16 H=>(qg g14 (bJ func210 (VV y12.aFJ pg.aFu z15 z16)) ?_))))))
    refine gQ 2 ?_;refine bG H (fun h17 H=>?_) (fun h17 H=>?_)
    ·refine gQ 5 ?_;refine q1 (gZ (aF.cs (aR x2 i3))) (q1 (iL ([(aR x2 i3)]:Z aF)) (cB H fun z18 H=>(q1 (lO z18) ?_)))
     exact gE 7
    exact gE 6
   exact gE 14
  exact gE 0
 rintro v5 H
 exact gE 5
def DN(fu:Nat)(p2:aH)(p1:aD)(x2:Z aF)(i3:Nat)(y7:aN)(y10:aL):Nat→Bool→J (LR Bool (LR Unit (aF×Int))):=fun i12 v13=>gd (0≤(aR x2 i12).aFF∧((aR x2 i12).aFF).toNat<(p2.aFr).length) (lt (aR p2.aFr (((aR x2 i12).aFF).toNat)) fun y16=>gd (0≤(aR x2 i12).aFS∧((aR x2 i12).aFS).toNat<(y16.aFG).length) (lt (aR y16.aFG (((aR x2 i12).aFS).toNat)) fun y19=>sw (v13) (gd (aX (aA.tr y19.aFJ)≤68719476735) (gd (aX (aA.tr y10.aFJ)≤68719476735) (some (.next (!(GV y19.aFJ y10.aFJ)))))) (some (.next false))))
def vI(fu:Nat)(p2:aH)(p1:aD)(x2:Z aF)(i3:Nat)(y7:aN)(y10:aL):J ((LR Unit (aF×Int))⊕Bool):=loopN (DN fu p2 p1 x2 i3 y7 y10) (x2.length-0) 0 true
def DL(fu:Nat)(p2:aH)(p1:aD)(x2:Z aF)(i3:Nat)(y7:aN)(y10:aL)(v13:Bool):J ((LR Unit (aF×Int))⊕(Bool×Bool×Bool)):=sw (v13) (sw (y10.aFX) (gd (gO p1.aFu) (sw (!(eH p1.aFu)) (some (.inl (.ret ((aF.mk 0 0),2)))) (some (.inr (y10.aFX,y10.aFX,(!(eH p1.aFu))))))) (some (.inr (y10.aFX,y10.aFX,false)))) (some (.inr (false,false,false)))
def DM(fu:Nat)(p2:aH)(p1:aD)(x2:Z aF):Nat→Unit→J (LR Unit (aF×Int)):=fun i3 _=>gd (0≤(aR x2 i3).aFF∧((aR x2 i3).aFF).toNat<(p2.aFr).length) (lt (aR p2.aFr (((aR x2 i3).aFF).toNat)) fun y7=>gd (0≤(aR x2 i3).aFS∧((aR x2 i3).aFS).toNat<(y7.aFG).length) (lt (aR y7.aFG (((aR x2 i3).aFS).toNat)) fun y10=>so (vI fu p2 p1 x2 i3 y7 y10) fun v13=>so (DL fu p2 p1 x2 i3 y7 y10 v13) fun(v24,v25,v26)=>sw (v13) (some (.ret ((aR x2 i3),0))) (some (.next ()))))
def sY(fu:Nat)(p2:aH)(p1:aD):J (aF×Int):=bd (nK fu p2 p1) fun x2=>so (loopN (DM fu p2 p1 x2) (x2.length-0) 0 ()) fun _=>some ((aF.mk 0 0),1)
theorem PN(fu:Nat)(p2:aH)(p1:aD)(r:aF×Int)(H:sY fu p2 p1=some r):bU prog 160 [(aH.pv p2),(aD.pv p1)] (.tup [(aF.pv r.1),pI r.2]):=by
 refine qJ func160 H (fun C hC H=>?_)
 refine gQ 2 ?_;refine q1 (fQ ([aP p2.aFr])) (q1 (fQ (b8 p1)) ?_)
 refine gQ 5 ?_;refine q1 (b4 [aP p2.aFr]) (q1 (b4 [pS p1.aFz,pI p1.aFu.aFw,pS p1.aFu.aFs,aV p1.aFu.aFt]) (bN H fun x2 z1 H=>(q1 (bJ func185 (IK fu p2 p1 _ z1)) ?_)))
 refine gQ 7 ?_;refine gV 6 (aF.tl _) (fun hl4=>?_)
 refine bV (σ:=Unit) (fun i3 _=>⟨[(2,.ptr 0 0),(3,.ptr 1 0),(4,.ptr 2 0),(5,pI 0),(6,dM x2),(7,pN i3)],⟨[some ⟨26,[aP p2.aFr]⟩,some ⟨32,b8 p1⟩,some ⟨52,[pI 0,pI 0]⟩],[]⟩⟩) (fun _=>⟨[(4,.ptr 2 0),(5,pI 0)],⟨[some ⟨26,[aP p2.aFr]⟩,some ⟨32,b8 p1⟩,some ⟨52,[pI 0,pI 0]⟩],[]⟩⟩) (fA H) ?_ ?_
 ·rintro i3 ⟨⟩ H
  refine gQ 8 ?_;refine cZ H (fun h5 h5l H=>?_) (fun h5 H=>?_)
  ·refine gQ 4 ?_;refine cB H fun z6 H=>(gM H fun y7 h8 H=>(cB H fun z9 H=>(gM H fun y10 h11 H=>(dW (dI [2] bW (dB [21] 0 1 tP (dI [6] bI (dI [7] bI (dI [23,24] mU (dI [25] xE (dI [26] wH (dI [22,27] (rIm h8 z6 aqP.h) (dI [28] xE ?_)))))))))))))
   refine dI [29] wH (dI [6] bI (dI [7] bI (dI [31,32] mU (dI [33] xE (dI [34] wH (dI [30,35] (rIm h11 z9 aiU.h) (dI [36] (gZ (aL.cs y10)) (dE [] tAl (iW [8,37] hY (dN ?_))))))))))
   refine gQ 9 ?_;refine bV (σ:=Bool) (fun i12 v13=>⟨[(2,.ptr 0 0),(3,.ptr 1 0),(4,.ptr 2 0),(5,pI 0),(6,dM x2),(7,pN i3),(8,.ptr 3 0),(9,pB v13),(10,pN i12),(15,pN i3),(16,dM x2),(17,pN x2.length),(18,pB (decide ((i3:Int)<(x2.length:Int)))),(21,.ptr 0 0),(22,aP p2.aFr),(23,dM x2),(24,pN i3),(25,.eptr (aF.cs (aR x2 i3))),(26,.eptr (aF.cs (aR x2 i3))),(27,pI ((aR x2 i3).aFF)),(28,.eptr (aN.cs y7)),(29,.eptr ((aN.cs y7).drop 4)),(30,qG y7.aFG),(31,dM x2),(32,pN i3),(33,.eptr (aF.cs (aR x2 i3))),(34,.eptr ((aF.cs (aR x2 i3)).drop 1)),(35,pI ((aR x2 i3).aFS)),(36,.eptr (aL.cs y10)),(37,(aL.pv y10))],⟨[some ⟨26,[aP p2.aFr]⟩,some ⟨32,b8 p1⟩,some ⟨52,[pI 0,pI 0]⟩,some ⟨163,eO y10⟩],[]⟩⟩) (fun v13=>⟨[(2,.ptr 0 0),(3,.ptr 1 0),(4,.ptr 2 0),(5,pI 0),(6,dM x2),(7,pN i3),(8,.ptr 3 0),(9,pB v13),(15,pN i3),(16,dM x2),(17,pN x2.length),(18,pB (decide ((i3:Int)<(x2.length:Int)))),(21,.ptr 0 0),(22,aP p2.aFr),(23,dM x2),(24,pN i3),(25,.eptr (aF.cs (aR x2 i3))),(26,.eptr (aF.cs (aR x2 i3))),(27,pI ((aR x2 i3).aFF)),(28,.eptr (aN.cs y7)),(29,.eptr ((aN.cs y7).drop 4)),(30,qG y7.aFG),(31,dM x2),(32,pN i3),(33,.eptr (aF.cs (aR x2 i3))),(34,.eptr ((aF.cs (aR x2 i3)).drop 1)),(35,pI ((aR x2 i3).aFS)),(36,.eptr (aL.cs y10)),(37,(aL.pv y10))],⟨[some ⟨26,[aP p2.aFr]⟩,some ⟨32,b8 p1⟩,some ⟨52,[pI 0,pI 0]⟩,some ⟨163,eO y10⟩],[]⟩⟩) (fA H) ?_ ?_
   ·rintro i12 v13 H
    refine gQ 8 ?_;refine cZ H (fun h14 h14l H=>?_) (fun h14 H=>?_)
    ·refine gQ 4 ?_;refine cB H fun z15 H=>(gM H fun y16 h17 H=>(cB H fun z18 H=>(gM H fun y19 h20 H=>(dW (dI [2] bW (dB [44] 0 1 tP (dI [6] bI (dI [10] bI (dI [46,47] mU (dI [48] xE (dI [49] wH (dI [45,50] (rIm h17 z15 aqP.h) (dI [51] xE ?_)))))))))))))
     refine dI [52] wH (dI [6] bI (dI [10] bI (dI [54,55] mU (dI [56] xE (dI [57] wH (dI [53,58] (rIm h20 z18 aiU.h) (dI [59] (gZ (aL.cs y19)) (dE [] tAl (iW [11,60] hY (dN ?_))))))))))
     refine gQ 3 ?_;refine dY 62 H (fun g21 H=>?_) fun g21 H=>?_
     ·refine qg g21 bW (qg g21 (b4 [pI y19.aFJ.aFw,pS y19.aFJ.aFs,aV y19.aFJ.aFt]) (qg g21 bW (qg g21 (b4 [pI y10.aFJ.aFw,pS y10.aFJ.aFs,aV y10.aFJ.aFt]) (cB H fun z22 H=>(cB H fun z23 H=>(qg g21 (bJ func186 (UJ y19.aFJ y10.aFJ z22 z23)) ?_))))))
      exact gE 9
     exact gE 14
    exact gE 0
   rintro v13 H
   refine qS ?_;refine qY (σ:=Bool×Bool×Bool) (fun(v24,v25,v26)=>⟨[(2,.ptr 0 0),(3,.ptr 1 0),(4,.ptr 2 0),(5,pI 0),(6,dM x2),(7,pN i3),(8,.ptr 3 0),(9,pB v13),(15,pN i3),(16,dM x2),(17,pN x2.length),(18,pB (decide ((i3:Int)<(x2.length:Int)))),(21,.ptr 0 0),(22,aP p2.aFr),(23,dM x2),(24,pN i3),(25,.eptr (aF.cs (aR x2 i3))),(26,.eptr (aF.cs (aR x2 i3))),(27,pI ((aR x2 i3).aFF)),(28,.eptr (aN.cs y7)),(29,.eptr ((aN.cs y7).drop 4)),(30,qG y7.aFG),(31,dM x2),(32,pN i3),(33,.eptr (aF.cs (aR x2 i3))),(34,.eptr ((aF.cs (aR x2 i3)).drop 1)),(35,pI ((aR x2 i3).aFS)),(36,.eptr (aL.cs y10)),(37,(aL.pv y10)),(70,pB v13),(71,pB v13),(74,pB v24),(75,pB v25),(80,pB v26)],⟨[some ⟨26,[aP p2.aFr]⟩,some ⟨32,b8 p1⟩,some ⟨52,[pI 0,pI 0]⟩,some ⟨163,eO y10⟩],[]⟩⟩) (fA H) (fun H=>?_) ?_
   ·refine gQ 4 ?_;refine dY 71 H (fun g27 H=>?_) fun g27 H=>?_
    ·refine gQ 4 ?_;refine dY 75 H (fun g28 H=>?_) fun g28 H=>?_
     ·refine qg g28 bW (qg g28 (b4 [pI p1.aFu.aFw,pS p1.aFu.aFs,aV p1.aFu.aFt]) (cB H fun z29 H=>(qg g28 (bJ func34 (oE p1.aFu z29)) ?_)))
      refine gQ 3 ?_;refine bG H (fun h30 H=>?_) (fun h30 H=>?_)
      ·refine gQ 6 ?_;refine dR.ret ?_
       obtain rfl:_=r:=(lkR (skL (tO H)):)
       exact qf2
      exact gE 1
     exact gE 8
    exact gE 12
   rintro⟨v24,v25,v26⟩ H
   refine gQ 4 ?_;refine bG H (fun h31 H=>?_) (fun h31 H=>?_)
   ·refine gQ 5 ?_;refine q1 (gZ (aF.cs (aR x2 i3))) ?_;exact gE 3
   exact gE 6
  exact gE 0
 rintro⟨⟩ H
 exact gE 6
def uB(fu:Nat)(p0:aF)(c1:aH)(c2:aL):J Bool:=bd (vT fu c1 p0) fun(x2,x3)=>gd (aX (aA.tr x2.aFJ)≤68719476735) (gd (aX (aA.tr c2.aFJ)≤68719476735) (some (GV x2.aFJ c2.aFJ)))
theorem KG(fu:Nat)(p0:aF)(c1:aH)(c2:aL)(r:Bool)(H:uB fu p0 c1 c2=some r):cM prog 157 [(aF.pv p0),.ptr 0 0,.ptr 1 0] ⟨[some ⟨26,[aP c1.aFr]⟩,some ⟨163,eO c2⟩],[]⟩ (fun q t=>q=(pB r)∧t=⟨[some ⟨26,[aP c1.aFr]⟩,some ⟨163,eO c2⟩],[]⟩):=by
 refine qJ func157 H (fun C hC H=>?_)
 refine gQ 2 ?_;refine q1 (fQ ([pI p0.aFF,pI p0.aFS])) ?_;refine gQ 4 ?_;refine q1 (b4 [aP c1.aFr]) (q1 (b4 [pI p0.aFF,pI p0.aFS]) (eX H fun x2 x3 z1 H=>(q1 (bJ func118 (BX fu c1 p0 _ z1)) ?_)))
 refine gQ 10 ?_;refine q1 (b4 [pI x2.aFJ.aFw,pS x2.aFJ.aFs,aV x2.aFJ.aFt]) (q1 bW (q1 (b4 [pI c2.aFJ.aFw,pS c2.aFJ.aFs,aV c2.aFJ.aFt]) (cB H fun z4 H=>(cB H fun z5 H=>(q1 (bJ func158 (TN x2.aFJ c2.aFJ z4 z5)) ?_)))))
 exact gE 2
def jT(fu:Nat)(ps:Z aF)(c1_0:aH)(c1_1:aL):Nat→Unit→J (LR Unit Int):=fun i1 _=>bd (uB fu (aR ps i1) c1_0 c1_1) fun x5=>sw x5 (some (.ret (i1:Int))) (some (.next ()))
def eL(fu:Nat)(ps:Z aF)(c1_0:aH)(c1_1:aL):J Int:=so (loopN (jT fu ps c1_0 c1_1) (ps.length-0) 0 ()) fun _=>some (-1)
theorem pZ(fu:Nat)(ps:Z aF)(c1_0:aH)(c1_1:aL)(r:Int)(H:eL fu ps c1_0 c1_1=some r):cM prog 183 [dM ps,.fn 157 [.ptr 0 0,.ptr 1 0]] ⟨[some ⟨26,[aP c1_0.aFr]⟩,some ⟨163,eO c1_1⟩],[]⟩ (fun q t=>q=(pI r)∧t=⟨[some ⟨26,[aP c1_0.aFr]⟩,some ⟨163,eO c1_1⟩],[]⟩):=by
 refine qJ func183 H (fun C hC H=>?_)
 refine gQ 11 ?_;refine gV 0 (aF.tl _) (fun hl2=>?_)
 refine bV (σ:=Unit) (fun i1 _=>⟨[(0,dM ps),(1,.fn 157 [.ptr 0 0,.ptr 1 0]),(4,pI 0),(7,pN ps.length),(8,pN i1)],⟨[some ⟨26,[aP c1_0.aFr]⟩,some ⟨163,eO c1_1⟩],[]⟩⟩) (fun _=>⟨[(4,pI 0)],⟨[some ⟨26,[aP c1_0.aFr]⟩,some ⟨163,eO c1_1⟩],[]⟩⟩) (fA H) ?_ ?_
 ·rintro i1 ⟨⟩ H
  refine gQ 5 ?_;refine cZ H (fun h3 h3l H=>?_) (fun h3 H=>?_)
  ·refine gQ 14 ?_;refine q1 (gZ (aF.cs (aR ps i1))) (bN H fun x5 z4 H=>(q1 (vO (pre:=⟨[some ⟨26,[aP c1_0.aFr]⟩,some ⟨163,eO c1_1⟩],[]⟩) (st':=⟨[some ⟨26,[aP c1_0.aFr]⟩,some ⟨163,eO c1_1⟩],[]⟩) (ps:= [_]) (cs:= [.ptr 0 0,.ptr 1 0]) (qs:= [(aF.pv (aR ps i1)),.ptr 0 0,.ptr 1 0]) [0,1] [] rfl rfl rfl func157 (by kernel_rfl) rfl rfl rfl (lM.of ⟨⟨_,rfl,rfl,mG,rfl⟩,⟨⟨_,rfl,rfl,mG,rfl⟩,trivial⟩⟩ trivial (by decide) (by decide)) mG rfl rfl rfl (KG fu (aR ps i1) c1_0 c1_1 _ z4)) (qN ?_)))
   refine bG H (fun h6 H=>gE 5) fun h6 H=>?_;exact gE 5
  exact gE 0
 rintro⟨⟩ H
 exact gE 4
def cY(fu:Nat)(ps:Z aF)(c1_0:aH)(c1_1:aL):J Bool:=bd (eL fu ps c1_0 c1_1) fun x2=>some (decide (x2≥0))
theorem nX(fu:Nat)(ps:Z aF)(c1_0:aH)(c1_1:aL)(r:Bool)(H:cY fu ps c1_0 c1_1=some r):cM prog 156 [dM ps,.fn 157 [.ptr 0 0,.ptr 1 0]] ⟨[some ⟨26,[aP c1_0.aFr]⟩,some ⟨163,eO c1_1⟩],[]⟩ (fun q t=>q=(pB r)∧t=⟨[some ⟨26,[aP c1_0.aFr]⟩,some ⟨163,eO c1_1⟩],[]⟩):=by
 refine qJ func156 H (fun C hC H=>?_)
 refine gQ 8 ?_;refine bN H fun x2 z1 H=>(q1 (fO [0,1] [] func183 (pZ fu ps c1_0 c1_1 _ z1)) ?_)
 exact gE 3
def C6(fu:Nat)(pw:aH)(pg:aD):Nat→Unit→J (LR Unit (aF×Int)):=fun i3 _=>lt (aR (List.filter (fun o=>s7 pw pg o) (gA pw)) i3) fun y6=>bd (vT fu pw y6) fun(x9,x10)=>bd (cY fu (List.filter (fun o=>s7 pw pg o) (gA pw)) pw x9) fun x12=>sw x12 (some (.next ())) (sw (x9.aFX) (gd (gO pg.aFu) (sw (!(eH pg.aFu)) (some (.ret ((aF.mk 0 0),2))) (some (.ret (y6,0))))) (some (.ret (y6,0))))
def sU(fu:Nat)(pw:aH)(pg:aD):J (aF×Int):=gd (wt pw≤13000000) (gd (gO (aD.aFu pg)) (so (loopN (C6 fu pw pg) ((List.filter (fun o=>s7 pw pg o) (gA pw)).length-0) 0 ()) fun _=>some ((aF.mk 0 0),1)))
theorem OU(fu:Nat)(pw:aH)(pg:aD)(r:aF×Int)(H:sU fu pw pg=some r):bU prog 117 [(aH.pv pw),(aD.pv pg)] (.tup [(aF.pv r.1),pI r.2]):=by
 refine qJ func117 H (fun C hC H=>?_)
 refine gQ 2 ?_;refine q1 (fQ ([aP pw.aFr])) (q1 (fQ (b8 pg)) ?_)
 refine gQ 5 ?_;refine q1 (b4 [aP pw.aFr]) (q1 (b4 [pS pg.aFz,pI pg.aFu.aFw,pS pg.aFu.aFs,aV pg.aFu.aFt]) (cB H fun z1 H=>(cB H fun z2 H=>(q1 (bJ func155 (aqV pw pg z1 z2)) ?_))))
 refine gQ 9 ?_;refine gV 6 (aF.tl _) (fun hl4=>?_)
 refine bV (σ:=Unit) (fun i3 _=>⟨[(2,.ptr 0 0),(3,.ptr 1 0),(4,.ptr 2 0),(5,pI 0),(6,dM (List.filter (fun o=>s7 pw pg o) (gA pw))),(15,dM (List.filter (fun o=>s7 pw pg o) (gA pw))),(16,pN ((List.filter (fun o=>s7 pw pg o) (gA pw)).length)),(17,pN i3)],⟨[some ⟨26,[aP pw.aFr]⟩,some ⟨32,b8 pg⟩,some ⟨52,[pI 0,pI 0]⟩],[]⟩⟩) (fun _=>⟨[(4,.ptr 2 0),(5,pI 0)],⟨[some ⟨26,[aP pw.aFr]⟩,some ⟨32,b8 pg⟩,some ⟨52,[pI 0,pI 0]⟩],[]⟩⟩) (fA H) ?_ ?_
 ·rintro i3 ⟨⟩ H
  refine gQ 5 ?_;refine cZ H (fun h5 h5l H=>?_) (fun h5 H=>?_)
  ·refine gQ 5 ?_;refine gM H fun y6 h7 H=>(q1 (AR h7 h5l) (q1 (gZ (aF.cs y6)) ?_))
   refine gQ 5 ?_;refine q1 (b4 [aP pw.aFr]) (q1 (b4 [pI y6.aFF,pI y6.aFS]) (eX H fun x9 x10 z8 H=>(q1 (bJ func118 (BX fu pw y6 _ z8)) ?_)))
   refine gQ 10 ?_;refine q1 rMf (bN H fun x12 z11 H=>(q1 (fO [0,4] [] func156 (nX fu (List.filter (fun o=>s7 pw pg o) (gA pw)) pw x9 _ z11)) ?_))
   refine gQ 7 ?_;refine bG H (fun h13 H=>?_) (fun h13 H=>?_)
   ·refine dR.exit ?_;exact gE 4
   refine gQ 7 ?_;refine dY 33 H (fun g14 H=>?_) fun g14 H=>?_
   ·refine qg g14 bW (qg g14 (b4 [pI pg.aFu.aFw,pS pg.aFu.aFs,aV pg.aFu.aFt]) (cB H fun z15 H=>(qg g14 (bJ func78 (H7 pg.aFu z15)) ?_)))
    refine gQ 3 ?_;refine bG H (fun h16 H=>gE 6) fun h16 H=>?_;refine gQ 3 ?_;refine q1 (b4 [pI y6.aFF,pI y6.aFS]) ?_;exact gE 3
   refine gQ 10 ?_;refine q1 (b4 [pI y6.aFF,pI y6.aFS]) ?_;exact gE 3
  exact gE 0
 rintro⟨⟩ H
 exact gE 6
def o8(fu:Nat)(pc:DS):J (aD×DS):=bd (mP fu pc ([hH,ES]:LB) 3) fun(x2,x3)=>lt (x3.after 8) fun d4=>sw (decide ((x3.below 8:Int)=0)) (bd (sJ fu d4 2) fun(x8,x9)=>lt (x9.after ([bH,bH,lU,fD,eV,kX,xL]:LB).length) fun d10=>lt (x9.pick ([bH,bH,lU,fD,eV,kX,xL]:LB)) fun y12=>some ((aD.mk y12 x8),d10)) (sw (decide ((x3.below 8:Int)=1)) (bd (iJ fu K2 ([])) fun x16=>lt (d4.after ([bH,bH,lU,fD,eV,kX,xL]:LB).length) fun d17=>lt (d4.pick ([bH,bH,lU,fD,eV,kX,xL]:LB)) fun y19=>some ((aD.mk y19 x16),d17)) (sw (decide ((x3.below 8:Int)=2)) (lt (d4.after ([K2,fE,eU]:LB).length) fun d22=>lt (d4.pick ([K2,fE,eU]:LB)) fun y24=>bd (iJ fu y24 ([])) fun x27=>bd (iJ fu cV ([x27]:Z aA)) fun x29=>lt (d22.after ([bH,bH,lU,fD,eV,kX,xL]:LB).length) fun d30=>lt (d22.pick ([bH,bH,lU,fD,eV,kX,xL]:LB)) fun y32=>some ((aD.mk y32 x29),d30)) (lt (d4.after ([bH,bH,lU,fD,eV,kX,xL]:LB).length) fun d34=>lt (d4.pick ([bH,bH,lU,fD,eV,kX,xL]:LB)) fun y36=>some ((aD.mk y36 x2),d34))))
theorem EZ(fu:Nat)(pc:DS)(r:aD×DS)(H:o8 fu pc=some r):cM prog 74 [.ptr 0 0] ⟨[some ⟨133,dC pc⟩],[]⟩ (fun q t=>q=((aD.pv r.1))∧t=⟨[some ⟨133,dC r.2⟩],[]⟩):=by
 refine qJ func74 H (fun C hC H=>?_)
 refine gQ 7 ?_;refine q1 (iL ([hH,ES]:LB)) (eX H fun x2 x3 z1 H=>(q1 (fO [0] [] func131 (abK (SM fu) pc ([hH,ES]:LB) 3 _ z1)) ?_))
 refine gQ 7 ?_;refine gM H fun d4 h5 H=>(q1 (fO [0] [] func73 (FJ h5 (fL x3 8))) ?_)
 refine gQ 7 ?_;refine bG H (fun h6 H=>?_) (fun h6 H=>?_)
 ·refine gQ 2 ?_;refine eX H fun x8 x9 z7 H=>(q1 (fO [0] [] func132 (yZ (yY fu) d4 2 _ z7)) ?_)
  refine gQ 3 ?_;refine gM H fun d10 h11 H=>(gM H fun y12 h13 H=>(dW (dI [0] bI (dI [] (iL ([bH,bH,lU,fD,eV,kX,xL]:LB)) (dE [24,25] (fO [0] [] func48 (QE h11 h13 (gF x9 ([bH,bH,lU,fD,eV,kX,xL]:LB) (by decide)))) (dB [3] 0 1 (BG [pI x8.aFw,pS x8.aFs,aV x8.aFt]) (dI [26,27] rQ (iW [2,28] hY (dN ?_)))))))))
  exact gE 0
 refine gQ 5 ?_;refine bG H (fun h14 H=>?_) (fun h14 H=>?_)
 ·refine qR (bN H fun x16 z15 H=>(q1 (bJ func47 (wE (jZ fu) K2 ([]) _ z15)) ?_))
  refine gQ 3 ?_;refine gM H fun d17 h18 H=>(gM H fun y19 h20 H=>(dW (dI [0] bI (dI [] (iL ([bH,bH,lU,fD,eV,kX,xL]:LB)) (dE [24,25] (fO [0] [] func48 (QE h18 h20 (gF d4 ([bH,bH,lU,fD,eV,kX,xL]:LB) (by decide)))) (dB [3] 0 1 (BG [pI x16.aFw,pS x16.aFs,aV x16.aFt]) (dI [26,27] rQ (iW [2,28] hY (dN ?_)))))))))
  exact gE 0
 refine gQ 5 ?_;refine bG H (fun h21 H=>?_) (fun h21 H=>?_)
 ·refine gQ 2 ?_;refine q1 (iL ([K2,fE,eU]:LB)) (gM H fun d22 h23 H=>(gM H fun y24 h25 H=>(q1 (fO [0] [] func48 (QE h23 h25 (gF d4 ([K2,fE,eU]:LB) (by decide)))) (bN H fun x27 z26 H=>(q1 (bJ func47 (wE (jZ fu) y24 ([]) _ z26)) (q1 (iL ([x27]:Z aA)) (bN H fun x29 z28 H=>(q1 (bJ func47 (wE (jZ fu) cV ([x27]:Z aA) _ z28)) ?_))))))))
  refine gQ 3 ?_;refine gM H fun d30 h31 H=>(gM H fun y32 h33 H=>(dW (dI [0] bI (dI [] (iL ([bH,bH,lU,fD,eV,kX,xL]:LB)) (dE [24,25] (fO [0] [] func48 (QE h31 h33 (gF d22 ([bH,bH,lU,fD,eV,kX,xL]:LB) (by decide)))) (dB [3] 0 1 (BG [pI x29.aFw,pS x29.aFs,aV x29.aFt]) (dI [26,27] rQ (iW [2,28] hY (dN ?_)))))))))
  exact gE 0
 refine gQ 2 ?_;refine gM H fun d34 h35 H=>(gM H fun y36 h37 H=>(dW (dI [0] bI (dI [] (iL ([bH,bH,lU,fD,eV,kX,xL]:LB)) (dE [24,25] (fO [0] [] func48 (QE h35 h37 (gF d4 ([bH,bH,lU,fD,eV,kX,xL]:LB) (by decide)))) (dB [3] 0 1 (BG [pI x2.aFw,pS x2.aFs,aV x2.aFt]) (dI [26,27] rQ (iW [2,28] hY (dN ?_)))))))))
 exact gE 0
abbrev CC:=aH→ByteArray→(LB)→Option ((LB))
def CB(m:CC):Prop:= ∀(pw:aH) (p1:Y) (p6:LB) (r:(LB)),m pw p1 p6=some r→cM prog 112 [(aH.pv pw),pS p1,aS p6 0] ⟨[],[⟨9,1,bA (p6),false⟩]⟩ (fun q t=>q=(aS r 0:PV)∧t=⟨[],[⟨9,1,bA (r),false⟩]⟩)
def FS(fu:Nat)(p4:CC)(pw:aH)(p1:Y)(p6:LB)(x2:aZ)(x3:Int)(x4:Bool):Nat→((LB))→J (LR ((LB)) ((LB))):=fun i5 v7=>bd (mL fu v7 (aR x2.aFD i5)) fun x11=>sw (!(x11)) (gd ((v7).length+(([(aR x2.aFD i5)]:LB)).length≤68719476736) (bd (p4 pw (aR x2.aFD i5) (v7++([(aR x2.aFD i5)]:LB))) fun x15=>some (.next x15))) (some (.next v7))
def IY(fu:Nat)(p4:CC)(pw:aH)(p1:Y)(p6:LB):J ((LB)):=bd (sG fu pw p1) fun(x2,x3,x4)=>so (loopN (FS fu p4 pw p1 p6 x2 x3 x4) (x2.aFD.length-0) 0 p6) fun v7=>some v7
theorem XF(fu:Nat)(p4:CC)(pC:CB p4):CB (IY fu p4):=by
 intro pw p1 p6 r H
 refine qJ func112 H (fun C hC H=>?_)
 refine gQ 2 ?_;refine q1 (fQ ([aP pw.aFr])) ?_;refine gQ 4 ?_;refine q1 (b4 [aP pw.aFr]) (q1 bI (J9 H fun x2 x3 x4 z1 H=>(q1 (bJ func121 (DX fu pw p1 _ z1)) ?_)))
 refine gQ 14 ?_;refine dR.fact (cP 1 1 rfl rfl rfl (b6 _)) (fun hl8=>?_)
 try dsimp only at hl8
 refine bV (σ:=(LB)) (fun i5 v7=>⟨[(2,aS v7 0),(3,.ptr 0 0),(6,.nil),(7,.ptr 1 0),(10,pN i5)],⟨[some ⟨26,[aP pw.aFr]⟩,some ⟨156,t9 x2⟩],[⟨9,1,bA (v7),false⟩]⟩⟩) (fun v7=>⟨[(2,aS v7 0),(6,.nil)],⟨[some ⟨26,[aP pw.aFr]⟩,some ⟨156,t9 x2⟩],[⟨9,1,bA (v7),false⟩]⟩⟩) (fA H) ?_ ?_
 ·rintro i5 v7 H
  refine gQ 9 ?_;refine cZ H (fun h9 h9l H=>?_) (fun h9 H=>?_)
  ·refine gQ 11 ?_;refine bN H fun x11 z10 H=>(q1 (bJ func153 (nT fu v7 (aR x2.aFD i5) _ z10)) ?_)
   refine gQ 2 ?_;refine bG H (fun h12 H=>?_) (fun h12 H=>?_)
   ·refine cB H fun z13 H=>(bN H fun x15 z14 H=>(dW (dB [3] 0 1 (BG [aP pw.aFr]) (dI [7] bW (dB [34] 0 1 tP (dI [10] bI (dI [35,36] mU (dI [37] wH (dI [2] bI (dI [7] bW (dD [40] eG (dI [10] bI (dI [41,42] mU ?_)))))))))))))
    refine dI [43] wH (dI [44] (iL ([(aR x2.aFD i5)]:LB)) (dE [39,45] (lO z13) (dE [33,38,46] (fO [] [0] func112 (pC pw (aR x2.aFD i5) (v7++([(aR x2.aFD i5)]:LB)) _ z14)) (dI [47] bI (dN ?_)))))
    exact gE 5
   exact gE 6
  exact gE 0
 rintro v7 H
 exact gE 5
def lV:Nat→aH→Y→(LB)→J ((LB))
 |0,_,_,_=>none
 |fu+1,pw,p1,p6=>IY fu (lV fu) pw p1 p6
theorem aa4(fu:Nat):CB (lV fu):=by
 induction fu with
 |zero=>exact(fun pw p1 p6 r H=>by simp only [lV] at H;cases H)
 |succ fu ih=>exact(fun pw p1 p6 r H=>by simp only [lV] at H;exact XF fu (lV fu) ih pw p1 p6 r H)
theorem ac9(fu:Nat):CB (lV fu):=(aa4 fu)
def sW(fu:Nat)(pw:aH)(p1:Y):J ((LB)):=bd (lV fu pw p1 ([])) fun x2=>some x2
theorem PH(fu:Nat)(pw:aH)(p1:Y)(r:(LB))(H:sW fu pw p1=some r):bU prog 57 [(aH.pv pw),pS p1] (rS r):=by
 refine qJ func57 H (fun C hC H=>?_)
 refine gQ 2 ?_;refine q1 (fQ ([aP pw.aFr])) ?_;refine gQ 4 ?_;refine q1 (b4 [aP pw.aFr]) (q1 bI (q1 (sM ([]:LB)) (bN H fun x2 z1 H=>(q1 (fO [] [0] func112 (ac9 fu pw p1 ([]) _ z1)) ?_))))
 exact gE 2
abbrev wU:=aH→(LB)→ByteArray→Option ((LB))
def wT(m:wU):Prop:= ∀(pw:aH) (p6:LB) (p1:Y) (r:(LB)),m pw p6 p1=some r→cM prog 178 [(aH.pv pw),aS p6 0,pS p1] ⟨[],[⟨9,1,bA (p6),false⟩]⟩ (fun q t=>q=(aS r 0:PV)∧t=⟨[],[⟨9,1,bA (r),false⟩]⟩)
def A0(fu:Nat)(p2:wU)(pw:aH)(p6:LB)(p1:Y)(x2:aZ)(x3:Int)(x4:Bool):Nat→((LB))→J (LR ((LB)) ((LB))):=fun i5 v7=>bd (nB fu v7 (aR x2.aFD i5)) fun x11=>sw (!(x11)) (gd ((v7).length+(([(aR x2.aFD i5)]:LB)).length≤68719476736) (bd (p2 pw (v7++([(aR x2.aFD i5)]:LB)) (aR x2.aFD i5)) fun x15=>some (.next x15))) (some (.next v7))
def C8(fu:Nat)(p2:wU)(pw:aH)(p6:LB)(p1:Y):J ((LB)):=bd (GP fu pw p1) fun(x2,x3,x4)=>so (loopN (A0 fu p2 pw p6 p1 x2 x3 x4) (x2.aFD.length-0) 0 p6) fun v7=>some v7
theorem RO(fu:Nat)(p2:wU)(pA:wT p2):wT (C8 fu p2):=by
 intro pw p6 p1 r H
 refine qJ func178 H (fun C hC H=>?_)
 refine gQ 2 ?_;refine q1 (fQ ([aP pw.aFr])) ?_;refine gQ 4 ?_;refine q1 (b4 [aP pw.aFr]) (q1 bI (J9 H fun x2 x3 x4 z1 H=>(q1 (bJ func115 (TT fu pw p1 _ z1)) ?_)))
 refine gQ 17 ?_;refine gV 20 (b6 _) (fun hl8=>?_)
 try dsimp only at hl8
 refine bV (σ:=(LB)) (fun i5 v7=>⟨[(1,aS v7 0),(3,.ptr 0 0),(6,.nil),(20,rS x2.aFD),(21,pN x2.aFD.length),(22,pN i5)],⟨[some ⟨26,[aP pw.aFr]⟩,some ⟨156,t9 x2⟩],[⟨9,1,bA (v7),false⟩]⟩⟩) (fun v7=>⟨[(1,aS v7 0),(6,.nil)],⟨[some ⟨26,[aP pw.aFr]⟩,some ⟨156,t9 x2⟩],[⟨9,1,bA (v7),false⟩]⟩⟩) (fA H) ?_ ?_
 ·rintro i5 v7 H
  refine gQ 5 ?_;refine cZ H (fun h9 h9l H=>?_) (fun h9 H=>?_)
  ·refine gQ 13 ?_;refine bN H fun x11 z10 H=>(q1 (bJ func195 (BH fu v7 (aR x2.aFD i5) _ z10)) ?_)
   refine gQ 2 ?_;refine bG H (fun h12 H=>?_) (fun h12 H=>?_)
   ·refine cB H fun z13 H=>(bN H fun x15 z14 H=>(dW (dB [3] 0 1 (BG [aP pw.aFr]) (dI [1] bI (dI [11] bI (dI [32] (iL ([(aR x2.aFD i5)]:LB)) (dE [31,33] (lO z13) (dI [11] bI (dE [30,34,35] (fO [] [0] func178 (pA pw (v7++([(aR x2.aFD i5)]:LB)) (aR x2.aFD i5) _ z14)) (dI [36] bI (dN ?_)))))))))))
    exact gE 4
   exact gE 5
  exact gE 0
 rintro v7 H
 exact gE 5
def jJ:Nat→aH→(LB)→Y→J ((LB))
 |0,_,_,_=>none
 |fu+1,pw,p6,p1=>C8 fu (jJ fu) pw p6 p1
theorem TQ(fu:Nat):wT (jJ fu):=by
 induction fu with
 |zero=>exact(fun pw p6 p1 r H=>by simp only [jJ] at H;cases H)
 |succ fu ih=>exact(fun pw p6 p1 r H=>by simp only [jJ] at H;exact RO fu (jJ fu) ih pw p6 p1 r H)
theorem WZ(fu:Nat):wT (jJ fu):=(TQ fu)
def sT(fu:Nat)(pw:aH)(p1:Y):J ((LB)):=bd (jJ fu pw ([]) p1) fun x2=>some x2
theorem OS(fu:Nat)(pw:aH)(p1:Y)(r:(LB))(H:sT fu pw p1=some r):bU prog 147 [(aH.pv pw),pS p1] (rS r):=by
 refine qJ func147 H (fun C hC H=>?_)
 refine gQ 2 ?_;refine q1 (fQ ([aP pw.aFr])) ?_;refine gQ 4 ?_;refine q1 (b4 [aP pw.aFr]) (q1 bI (bN H fun x2 z1 H=>(q1 (LN (res:=rS x2) (ps:= [_,_,_]) (qs:= [(aH.pv pw),.nil,pS p1]) rfl rfl func178 (by kernel_rfl) rfl rfl mG rfl rfl (E8 (l1:= [(aH.pv pw)]) (l2:= [pS p1]) (E:=9) (sz:=1) (q:=rS x2) (by decide) (WZ fu pw ([]) p1 _ z1) mG rfl)) ?_)))
 exact gE 2
abbrev AM:=aH→ByteArray→ByteArray→Int→Option ((List Int)×Bool)
def EY(m:AM):Prop:= ∀(pw:aH) (p0:Y) (p9:Y) (p7:Int) (r:(Z Int)×Bool),m pw p0 p9 p7=some r→bU prog 113 [(aH.pv pw),pS p0,pS p9,pI p7] (.tup [rI r.1,pB r.2]:PV)
def CA(fu:Nat)(p3:AM)(pw:aH)(p0 p9:Y)(p7:Int)(x3:aZ)(x4:Int)(x5:Bool):Nat→Unit→J (LR Unit ((Z Int)×Bool)):=fun i6 _=>sw (decide (p7>0)) (bd (p3 pw (aR x3.aFD i6) p9 (bB (p7-1))) fun(x11,x12)=>sw x12 (gd ((([(i6:Int)]:Z Int)).length+x11.length≤68719476736) (some (.ret ((([(i6:Int)]:Z Int)++x11),true)))) (some (.next ()))) (some (.brk ()))
def xC(fu:Nat)(p3:AM)(pw:aH)(p0 p9:Y)(p7:Int)(x3:aZ)(x4:Int)(x5:Bool):J (((Z Int)×Bool)⊕Unit):=loopN (CA fu p3 pw p0 p9 p7 x3 x4 x5) (x3.aFD.length-0) 0 ()
def EX(fu:Nat)(p3:AM)(pw:aH)(p0 p9:Y)(p7:Int):J ((Z Int)×Bool):=sw (decide (p0=p9)) (some (([]),true)) (bd (sG fu pw p0) fun(x3,x4,x5)=>so (xC fu p3 pw p0 p9 p7 x3 x4 x5) fun _=>some (([]),false))
theorem aa3(fu:Nat)(p3:AM)(pD:EY p3):EY (EX fu p3):=by
 intro pw p0 p9 p7 r H
 refine qJ func113 H (fun C hC H=>?_)
 refine gQ 2 ?_;refine q1 (fQ ([aP pw.aFr])) ?_;refine gQ 10 ?_;refine bG H (fun h1 H=>?_) (fun h1 H=>?_)
 ·refine gQ 2 ?_;refine q1 (sM ([]:Z Int)) ?_;exact gE 3
 refine gQ 3 ?_;refine q1 (b4 [aP pw.aFr]) (q1 bI (J9 H fun x3 x4 x5 z2 H=>(q1 (bJ func121 (DX fu pw p0 _ z2)) ?_)))
 refine gQ 14 ?_;refine dR.fact (cP 1 1 rfl rfl rfl (b6 _)) (fun hl7=>?_)
 try dsimp only at hl7
 refine bV (σ:=Unit) (fun i6 _=>⟨[(2,pS p9),(3,pI p7),(4,.ptr 0 0),(8,.nil),(9,pB false),(10,.ptr 1 0),(13,pN i6)],⟨[some ⟨26,[aP pw.aFr]⟩,some ⟨156,t9 x3⟩],[]⟩⟩) (fun _=>⟨[(8,.nil),(9,pB false)],⟨[some ⟨26,[aP pw.aFr]⟩,some ⟨156,t9 x3⟩],[]⟩⟩) (fA H) ?_ ?_
 ·rintro i6 ⟨⟩ H
  refine gQ 9 ?_;refine xO 32 rfl (fun g8=>?_) (fun g8=>?_)
  ·have g8l:=yJ g8
   have H:=lnT g8l H
   have g8n:=yI g8
   refine gQ 4 ?_;refine bG H (fun h9 H=>?_) (fun h9 H=>?_)
   ·refine gQ 4 ?_;refine eX H fun x11 x12 z10 H=>(dW (dD [4] (b4 [aP pw.aFr]) (dI [10] bW (dD [40] eG (dI [13] bI (dI [41,42] mU (dI [43] wH (dI [2] bI (dI [3] bI (dI [46] rSw (dI [39,44,45,47] (bJ func113 (pD pw (aR x3.aFD i6) p9 (bB (p7-1)) _ z10)) (dI [48] bI ?_))))))))))))
    iterate 2 refine dI [38] rEx ?_
    refine dI [49] bI (dI [50] bI (dN ?_))
    refine gQ 4 ?_;refine bG H (fun h13 H=>?_) (fun h13 H=>?_)
    ·refine gQ 3 ?_;refine q1 (sM ([(i6:Int)]:Z Int)) (q1 bI (cB H fun z14 H=>(q1 (lO z14) ?_)))
     exact gE 3
    exact gE 6
   exact gE 0
  have H:=lnE (yH g8) H
  exact gE 5
 rintro⟨⟩ H
 refine gQ 2 ?_;refine q1 (sM ([]:Z Int)) ?_;exact gE 3
def jX:Nat→aH→Y→Y→Int→J ((Z Int)×Bool)
 |0,_,_,_,_=>none
 |fu+1,pw,p0,p9,p7=>EX fu (jX fu) pw p0 p9 p7
theorem ac8(fu:Nat):EY (jX fu):=by
 induction fu with
 |zero=>exact(fun pw p0 p9 p7 r H=>by simp only [jX] at H;cases H)
 |succ fu ih=>exact(fun pw p0 p9 p7 r H=>by simp only [jX] at H;exact aa3 fu (jX fu) ih pw p0 p9 p7 r H)
theorem ahA(fu:Nat):EY (jX fu):=(ac8 fu)
def oJ(fu:Nat)(pw:aH)(p0 p9:Y):J ((Z Int)×Bool):=bd (jX fu pw p0 p9 8) fun(x2,x3)=>some (x2,x3)
theorem DO(fu:Nat)(pw:aH)(p0:Y)(p9:Y)(r:(Z Int)×Bool)(H:oJ fu pw p0 p9=some r):bU prog 58 [(aH.pv pw),pS p0,pS p9] (.tup [rI r.1,pB r.2]):=by
 refine qJ func58 H (fun C hC H=>?_)
 refine gQ 2 ?_;refine q1 (fQ ([aP pw.aFr])) ?_;refine gQ 5 ?_;refine q1 (b4 [aP pw.aFr]) ?_;refine gQ 2 ?_;refine eX H fun x2 x3 z1 H=>(q1 (bJ func113 (ahA fu pw p0 p9 8 _ z1)) ?_)
 exact gE 5
abbrev GO:=aH→ByteArray→ByteArray→Int→Option ((List Int)×Bool)
def L5(m:GO):Prop:= ∀(pw:aH) (p0:Y) (p9:Y) (p8:Int) (r:(Z Int)×Bool),m pw p0 p9 p8=some r→bU prog 154 [(aH.pv pw),pS p0,pS p9,pI p8] (.tup [rI r.1,pB r.2]:PV)
def OW(fu:Nat)(p5:GO)(pw:aH)(p0 p9:Y)(p8:Int)(x4:aZ)(x5:Int)(x6:Bool):Nat→Unit→J (LR Unit ((Z Int)×Bool)):=fun i7 _=>bd (p5 pw (aR x4.aFD i7) p9 (bB (p8-1))) fun(x11,x12)=>sw x12 (gd ((([(i7:Int)]:Z Int)).length+x11.length≤68719476736) (some (.ret ((([(i7:Int)]:Z Int)++x11),true)))) (some (.next ()))
def OX(fu:Nat)(p5:GO)(pw:aH)(p0 p9:Y)(p8:Int)(x4:aZ)(x5:Int)(x6:Bool):J (((Z Int)×Bool)⊕Unit):=loopN (OW fu p5 pw p0 p9 p8 x4 x5 x6) (x4.aFD.length-0) 0 ()
def L4(fu:Nat)(p5:GO)(pw:aH)(p0 p9:Y)(p8:Int):J ((Z Int)×Bool):=sw (decide (p0=p9)) (some (([]),true)) (sw (decide (p8=0)) (some ([],false)) (bd (GP fu pw p0) fun(x4,x5,x6)=>so (OX fu p5 pw p0 p9 p8 x4 x5 x6) fun _=>some ([],false)))
theorem afZ(fu:Nat)(p5:GO)(pE:L5 p5):L5 (L4 fu p5):=by
 intro pw p0 p9 p8 r H
 refine qJ func154 H (fun C hC H=>?_)
 refine gQ 2 ?_;refine q1 (fQ ([aP pw.aFr])) ?_;refine gQ 10 ?_;refine bG H (fun h1 H=>?_) (fun h1 H=>?_)
 ·refine gQ 2 ?_;refine q1 (sM ([]:Z Int)) ?_;exact gE 3
 refine gQ 7 ?_;refine bG H (fun h2 H=>gE 5) fun h2 H=>?_;refine gQ 3 ?_;refine q1 (b4 [aP pw.aFr]) (q1 bI (J9 H fun x4 x5 x6 z3 H=>(q1 (bJ func115 (TT fu pw p0 _ z3)) ?_)))
 refine gQ 17 ?_;refine gV 31 (b6 _) (fun hl8=>?_)
 try dsimp only at hl8
 refine bV (σ:=Unit) (fun i7 _=>⟨[(2,pS p9),(3,pI p8),(4,.ptr 0 0),(8,.nil),(9,pB false),(31,rS x4.aFD),(32,pN x4.aFD.length),(33,pN i7)],⟨[some ⟨26,[aP pw.aFr]⟩,some ⟨156,t9 x4⟩],[]⟩⟩) (fun _=>⟨[(8,.nil),(9,pB false)],⟨[some ⟨26,[aP pw.aFr]⟩,some ⟨156,t9 x4⟩],[]⟩⟩) (fA H) ?_ ?_
 ·rintro i7 ⟨⟩ H
  refine gQ 5 ?_;refine cZ H (fun h9 h9l H=>?_) (fun h9 H=>?_)
  ·refine gQ 13 ?_;refine q1 (b4 [aP pw.aFr]) ?_;refine gQ 4 ?_;refine eX H fun x11 x12 z10 H=>(q1 (bJ func154 (pE pw (aR x4.aFD i7) p9 (bB (p8-1)) _ z10)) ?_)
   refine gQ 10 ?_;refine bG H (fun h13 H=>?_) (fun h13 H=>?_)
   ·refine gQ 3 ?_;refine q1 (sM ([(i7:Int)]:Z Int)) (q1 bI (cB H fun z14 H=>(q1 (lO z14) ?_)))
    exact gE 3
   exact gE 5
  exact gE 0
 rintro⟨⟩ H
 exact gE 5
def nP:Nat→aH→Y→Y→Int→J ((Z Int)×Bool)
 |0,_,_,_,_=>none
 |fu+1,pw,p0,p9,p8=>L4 fu (nP fu) pw p0 p9 p8
theorem ai9(fu:Nat):L5 (nP fu):=by
 induction fu with
 |zero=>exact(fun pw p0 p9 p8 r H=>by simp only [nP] at H;cases H)
 |succ fu ih=>exact(fun pw p0 p9 p8 r H=>by simp only [nP] at H;exact afZ fu (nP fu) ih pw p0 p9 p8 r H)
theorem amX(fu:Nat):L5 (nP fu):=(ai9 fu)
def l8(fu:Nat)(pw:aH)(p0 p9:Y):J ((Z Int)×Bool):=bd (nP fu pw p0 p9 8) fun(x2,x3)=>some (x2,x3)
theorem C7(fu:Nat)(pw:aH)(p0:Y)(p9:Y)(r:(Z Int)×Bool)(H:l8 fu pw p0 p9=some r):bU prog 116 [(aH.pv pw),pS p0,pS p9] (.tup [rI r.1,pB r.2]):=by
 refine qJ func116 H (fun C hC H=>?_)
 refine gQ 2 ?_;refine q1 (fQ ([aP pw.aFr])) ?_;refine gQ 5 ?_;refine q1 (b4 [aP pw.aFr]) ?_;refine gQ 2 ?_;refine eX H fun x2 x3 z1 H=>(q1 (bJ func154 (amX fu pw p0 p9 8 _ z1)) ?_)
 exact gE 5
def uT(fu:Nat)(p3:aH)(p1:Z aD)(i1:Nat)(v3:Z aJ)(x9:LB):Nat→((Z aJ))→J (LR ((Z aJ)) (LR ((Z aJ)) ((Z aJ)))):=fun i10 v12=>bd (oJ fu p3 ((aR p1 i1).aFz) (aR x9 i10)) fun(x16,x17)=>gd ((v12).length+(([(aJ.mk (aD.mk (aR x9 i10) ((aR p1 i1).aFu)) (i1:Int) x16)]:Z aJ)).length≤68719476736) (some (.next (v12++([(aJ.mk (aD.mk (aR x9 i10) ((aR p1 i1).aFu)) (i1:Int) x16)]:Z aJ))))
def A8(fu:Nat)(p3:aH)(p1:Z aD):Nat→((Z aJ))→J (LR ((Z aJ)) ((Z aJ))):=fun i1 v3=>gd (gO ((aR p1 i1).aFu)) (gd ((v3).length+(([(aJ.mk (aD.mk ((aR p1 i1).aFz) ((aR p1 i1).aFu)) (i1:Int) [])]:Z aJ)).length≤68719476736) (bd (sW fu p3 ((aR p1 i1).aFz)) fun x9=>so (loopN (uT fu p3 p1 i1 v3 x9) (x9.length-0) 0 (v3++([(aJ.mk (aD.mk ((aR p1 i1).aFz) ((aR p1 i1).aFu)) (i1:Int) [])]:Z aJ))) fun v12=>some (.next v12)))
def w5(fu:Nat)(p3:aH)(p1:Z aD):J ((Z aJ)):=so (loopN (A8 fu p3 p1) (p1.length-0) 0 ([])) fun v3=>some v3
theorem W2(fu:Nat)(p3:aH)(p1:Z aD)(r:(Z aJ))(H:w5 fu p3 p1=some r):bU prog 15 [(aH.pv p3),b0 p1] (b5 r):=by
 refine qJ func15 H (fun C hC H=>?_)
 refine gQ 2 ?_;refine q1 (fQ ([aP p3.aFr])) ?_;refine gQ 4 ?_;refine q1 (sM ([]:Z aJ)) ?_;refine gQ 7 ?_;refine gV 1 (aD.tl _) (fun hl4=>?_)
 try dsimp only at hl4
 refine bV (σ:=(Z aJ)) (fun i1 v3=>⟨[(1,b0 p1),(2,.ptr 0 0),(4,.nil),(5,gJ v3 0),(6,pN i1)],⟨[some ⟨26,[aP p3.aFr]⟩],[⟨99,6,aJ.trs (v3),false⟩]⟩⟩) (fun v3=>⟨[(4,.nil),(5,gJ v3 0)],⟨[some ⟨26,[aP p3.aFr]⟩],[⟨99,6,aJ.trs (v3),false⟩]⟩⟩) (fA H) ?_ ?_
 ·rintro i1 v3 H
  refine gQ 8 ?_;refine cZ H (fun h5 h5l H=>?_) (fun h5 H=>?_)
  ·refine gQ 4 ?_;refine cB H fun z6 H=>(cB H fun z7 H=>(dW (dI [5] bI (dI [1] bI (dI [6] bI (dI [19,20] mU (dI [21] xE (dI [22] wH (dI [1] bI (dI [6] bI (dI [24,25] mU (dI [26] xE (dI [27] (gZ (aA.cs ((aR p1 i1).aFu))) ?_)))))))))))))
   refine dI [28] (bJ func56 (vM ((aR p1 i1).aFu) z6)) (dI [23,29] rQ (dI [6] bI (dI [30,31] rQ (dI [32] (iL ([(aJ.mk (aD.mk ((aR p1 i1).aFz) ((aR p1 i1).aFu)) (i1:Int) [])]:Z aJ)) (dE [18,33] (lO z7) (dI [34] bI (dN (qS (bN H fun x9 z8 H=>(dW (dD [2] (b4 [aP p3.aFr]) (dI [1] bI (dI [6] bI ?_)))))))))))))
   refine dI [36,37] mU (dI [38] xE (dI [39] wH (dI [35,40] (bJ func57 (PH fu p3 ((aR p1 i1).aFz) _ z8)) (dI [41] bI (dN ?_)))))
   refine gQ 4 ?_;refine gV 7 (b6 _) (fun hl13=>?_)
   try dsimp only at hl13
   refine bV (σ:=(Z aJ)) (fun i10 v12=>⟨[(1,b0 p1),(2,.ptr 0 0),(4,.nil),(5,gJ v12 0),(6,pN i1),(7,rS x9),(8,pN i10),(12,pN i1),(13,b0 p1),(14,pN p1.length),(15,pB (decide ((i1:Int)<(p1.length:Int)))),(18,gJ v3 0),(19,b0 p1),(20,pN i1),(21,.eptr (aD.cs (aR p1 i1))),(22,.eptr (aD.cs (aR p1 i1))),(23,pS ((aR p1 i1).aFz)),(24,b0 p1),(25,pN i1),(26,.eptr (aD.cs (aR p1 i1))),(27,.eptr ((aD.cs (aR p1 i1)).drop 1)),(28,(aA.pv ((aR p1 i1).aFu))),(29,(aA.pv ((aR p1 i1).aFu))),(30,.agg [pS ((aR p1 i1).aFz),pI (((aR p1 i1).aFu).aFw),pS (((aR p1 i1).aFu).aFs),aV (((aR p1 i1).aFu).aFt)]),(31,pN i1),(32,.agg [pS ((aR p1 i1).aFz),pI (((aR p1 i1).aFu).aFw),pS (((aR p1 i1).aFu).aFs),aV (((aR p1 i1).aFu).aFt),pN i1,.nil]),(33,b5 ([(aJ.mk (aD.mk ((aR p1 i1).aFz) ((aR p1 i1).aFu)) (i1:Int) [])]:Z aJ)),(34,gJ (v3++([(aJ.mk (aD.mk ((aR p1 i1).aFz) ((aR p1 i1).aFu)) (i1:Int) [])]:Z aJ)) 0),(35,(aH.pv p3)),(36,b0 p1),(37,pN i1),(38,.eptr (aD.cs (aR p1 i1))),(39,.eptr (aD.cs (aR p1 i1))),(40,pS ((aR p1 i1).aFz)),(41,rS x9)],⟨[some ⟨26,[aP p3.aFr]⟩],[⟨99,6,aJ.trs (v12),false⟩]⟩⟩) (fun v12=>⟨[(1,b0 p1),(2,.ptr 0 0),(4,.nil),(5,gJ v12 0),(6,pN i1),(7,rS x9),(12,pN i1),(13,b0 p1),(14,pN p1.length),(15,pB (decide ((i1:Int)<(p1.length:Int)))),(18,gJ v3 0),(19,b0 p1),(20,pN i1),(21,.eptr (aD.cs (aR p1 i1))),(22,.eptr (aD.cs (aR p1 i1))),(23,pS ((aR p1 i1).aFz)),(24,b0 p1),(25,pN i1),(26,.eptr (aD.cs (aR p1 i1))),(27,.eptr ((aD.cs (aR p1 i1)).drop 1)),(28,(aA.pv ((aR p1 i1).aFu))),(29,(aA.pv ((aR p1 i1).aFu))),(30,.agg [pS ((aR p1 i1).aFz),pI (((aR p1 i1).aFu).aFw),pS (((aR p1 i1).aFu).aFs),aV (((aR p1 i1).aFu).aFt)]),(31,pN i1),(32,.agg [pS ((aR p1 i1).aFz),pI (((aR p1 i1).aFu).aFw),pS (((aR p1 i1).aFu).aFs),aV (((aR p1 i1).aFu).aFt),pN i1,.nil]),(33,b5 ([(aJ.mk (aD.mk ((aR p1 i1).aFz) ((aR p1 i1).aFu)) (i1:Int) [])]:Z aJ)),(34,gJ (v3++([(aJ.mk (aD.mk ((aR p1 i1).aFz) ((aR p1 i1).aFu)) (i1:Int) [])]:Z aJ)) 0),(35,(aH.pv p3)),(36,b0 p1),(37,pN i1),(38,.eptr (aD.cs (aR p1 i1))),(39,.eptr (aD.cs (aR p1 i1))),(40,pS ((aR p1 i1).aFz)),(41,rS x9)],⟨[some ⟨26,[aP p3.aFr]⟩],[⟨99,6,aJ.trs (v12),false⟩]⟩⟩) (fA H) ?_ ?_
   ·rintro i10 v12 H
    refine gQ 8 ?_;refine cZ H (fun h14 h14l H=>?_) (fun h14 H=>?_)
    ·refine gQ 4 ?_;refine eX H fun x16 x17 z15 H=>(dW (dD [2] (b4 [aP p3.aFr]) (dI [1] bI (dI [6] bI (dI [50,51] mU (dI [52] xE (dI [53] wH (dI [7] bI (dI [8] bI (dI [55,56] mU (dI [57] wH (dI [49,54,58] (bJ func58 (DO fu p3 ((aR p1 i1).aFz) (aR x9 i10) _ z15)) (dI [59] bI ?_)))))))))))))
     iterate 2 refine dI [48] rEx ?_
     refine dI [60] bI (dI [61] bI (dN (cB H fun z18 H=>(dW (dI [5] bI (dI [7] bI (dI [8] bI (dI [63,64] mU (dI [65] wH (dI [1] bI (dI [6] bI (dI [67,68] mU (dI [69] xE ?_)))))))))))))
     refine dI [70] (gZ (aA.cs ((aR p1 i1).aFu))) (dI [71] (bJ func56 (vM ((aR p1 i1).aFu) z6)) (dI [66,72] rQ (dI [6] bI (dI [9] bI (dI [73,74,75] rQ (dI [76] (iL ([(aJ.mk (aD.mk (aR x9 i10) ((aR p1 i1).aFu)) (i1:Int) x16)]:Z aJ)) (dE [62,77] (lO z18) (dI [78] bI (dN ?_)))))))))
     exact gE 5
    exact gE 0
   rintro v12 H
   exact gE 5
  exact gE 0
 rintro v3 H
 exact gE 5
def uQ(fu:Nat)(pw:aH)(p0:Z aD)(i1:Nat)(v3:Z aJ)(x9:LB):Nat→((Z aJ))→J (LR ((Z aJ)) (LR ((Z aJ)) ((Z aJ)))):=fun i10 v12=>bd (l8 fu pw ((aR p0 i1).aFz) (aR x9 i10)) fun(x16,x17)=>gd ((v12).length+(([(aJ.mk (aD.mk (aR x9 i10) ((aR p0 i1).aFu)) (i1:Int) x16)]:Z aJ)).length≤68719476736) (some (.next (v12++([(aJ.mk (aD.mk (aR x9 i10) ((aR p0 i1).aFu)) (i1:Int) x16)]:Z aJ))))
def AW(fu:Nat)(pw:aH)(p0:Z aD):Nat→((Z aJ))→J (LR ((Z aJ)) ((Z aJ))):=fun i1 v3=>gd (gO ((aR p0 i1).aFu)) (gd ((v3).length+(([(aJ.mk (aD.mk ((aR p0 i1).aFz) ((aR p0 i1).aFu)) (i1:Int) [])]:Z aJ)).length≤68719476736) (bd (sT fu pw ((aR p0 i1).aFz)) fun x9=>so (loopN (uQ fu pw p0 i1 v3 x9) (x9.length-0) 0 (v3++([(aJ.mk (aD.mk ((aR p0 i1).aFz) ((aR p0 i1).aFu)) (i1:Int) [])]:Z aJ))) fun v12=>some (.next v12)))
def wM(fu:Nat)(pw:aH)(p0:Z aD):J ((Z aJ)):=so (loopN (AW fu pw p0) (p0.length-0) 0 ([])) fun v3=>some v3
theorem WV(fu:Nat)(pw:aH)(p0:Z aD)(r:(Z aJ))(H:wM fu pw p0=some r):bU prog 99 [(aH.pv pw),b0 p0] (b5 r):=by
 refine qJ func99 H (fun C hC H=>?_)
 refine gQ 2 ?_;refine q1 (fQ ([aP pw.aFr])) ?_;refine gQ 4 ?_;refine q1 (sM ([]:Z aJ)) ?_;refine gQ 9 ?_;refine gV 1 (aD.tl _) (fun hl4=>?_)
 try dsimp only at hl4
 refine bV (σ:=(Z aJ)) (fun i1 v3=>⟨[(2,.ptr 0 0),(4,.nil),(5,gJ v3 0),(13,b0 p0),(14,pN p0.length),(15,pN i1)],⟨[some ⟨26,[aP pw.aFr]⟩],[⟨99,6,aJ.trs (v3),false⟩]⟩⟩) (fun v3=>⟨[(4,.nil),(5,gJ v3 0)],⟨[some ⟨26,[aP pw.aFr]⟩],[⟨99,6,aJ.trs (v3),false⟩]⟩⟩) (fA H) ?_ ?_
 ·rintro i1 v3 H
  refine gQ 5 ?_;refine cZ H (fun h5 h5l H=>?_) (fun h5 H=>?_)
  ·refine gQ 7 ?_;refine q1 (gZ (aD.cs (aR p0 i1))) ?_;refine gQ 5 ?_;refine cB H fun z6 H=>(cB H fun z7 H=>(dW (dI [5] bI (dI [7] bW (dD [21] eG (dI [7] bW (dD [23] (b4 [pI (((aR p0 i1).aFu).aFw),pS (((aR p0 i1).aFu).aFs),aV (((aR p0 i1).aFu).aFt)]) (dI [24] (bJ func79 (tT ((aR p0 i1).aFu) z6)) (dI [22,25] rQ (dI [6] bI (dI [26,27] rQ (dI [28] (iL ([(aJ.mk (aD.mk ((aR p0 i1).aFz) ((aR p0 i1).aFu)) (i1:Int) [])]:Z aJ)) (dE [20,29] (lO z7) ?_)))))))))))))
   refine dI [30] bI (dN ?_)
   refine gQ 2 ?_;refine q1 (b4 [aP pw.aFr]) ?_;refine gQ 2 ?_;refine bN H fun x9 z8 H=>(q1 (bJ func147 (OS fu pw ((aR p0 i1).aFz) _ z8)) ?_)
   refine gQ 3 ?_;refine gV 34 (b6 _) (fun hl13=>?_)
   try dsimp only at hl13
   refine bV (σ:=(Z aJ)) (fun i10 v12=>⟨[(2,.ptr 0 0),(4,.nil),(5,gJ v12 0),(6,pN i1),(7,.ptr 1 0),(13,b0 p0),(14,pN p0.length),(15,pN i1),(16,pB (decide ((i1:Int)<(p0.length:Int)))),(17,pN i1),(18,.eptr (aD.cs (aR p0 i1))),(19,(aD.pv (aR p0 i1))),(20,gJ v3 0),(21,.ptr 1 0),(22,pS ((aR p0 i1).aFz)),(23,.ptr 1 1),(24,(aA.pv ((aR p0 i1).aFu))),(25,(aA.pv ((aR p0 i1).aFu))),(26,.agg [pS ((aR p0 i1).aFz),pI (((aR p0 i1).aFu).aFw),pS (((aR p0 i1).aFu).aFs),aV (((aR p0 i1).aFu).aFt)]),(27,pN i1),(28,.agg [pS ((aR p0 i1).aFz),pI (((aR p0 i1).aFu).aFw),pS (((aR p0 i1).aFu).aFs),aV (((aR p0 i1).aFu).aFt),pN i1,.nil]),(29,b5 ([(aJ.mk (aD.mk ((aR p0 i1).aFz) ((aR p0 i1).aFu)) (i1:Int) [])]:Z aJ)),(30,gJ (v3++([(aJ.mk (aD.mk ((aR p0 i1).aFz) ((aR p0 i1).aFu)) (i1:Int) [])]:Z aJ)) 0),(31,(aH.pv pw)),(32,.ptr 1 0),(33,pS ((aR p0 i1).aFz)),(34,rS x9),(35,pN x9.length),(36,pN i10)],⟨[some ⟨26,[aP pw.aFr]⟩,some ⟨32,b8 (aR p0 i1)⟩],[⟨99,6,aJ.trs (v12),false⟩]⟩⟩) (fun v12=>⟨[(2,.ptr 0 0),(4,.nil),(5,gJ v12 0),(6,pN i1),(7,.ptr 1 0),(13,b0 p0),(14,pN p0.length),(15,pN i1),(16,pB (decide ((i1:Int)<(p0.length:Int)))),(17,pN i1),(18,.eptr (aD.cs (aR p0 i1))),(19,(aD.pv (aR p0 i1))),(20,gJ v3 0),(21,.ptr 1 0),(22,pS ((aR p0 i1).aFz)),(23,.ptr 1 1),(24,(aA.pv ((aR p0 i1).aFu))),(25,(aA.pv ((aR p0 i1).aFu))),(26,.agg [pS ((aR p0 i1).aFz),pI (((aR p0 i1).aFu).aFw),pS (((aR p0 i1).aFu).aFs),aV (((aR p0 i1).aFu).aFt)]),(27,pN i1),(28,.agg [pS ((aR p0 i1).aFz),pI (((aR p0 i1).aFu).aFw),pS (((aR p0 i1).aFu).aFs),aV (((aR p0 i1).aFu).aFt),pN i1,.nil]),(29,b5 ([(aJ.mk (aD.mk ((aR p0 i1).aFz) ((aR p0 i1).aFu)) (i1:Int) [])]:Z aJ)),(30,gJ (v3++([(aJ.mk (aD.mk ((aR p0 i1).aFz) ((aR p0 i1).aFu)) (i1:Int) [])]:Z aJ)) 0),(31,(aH.pv pw)),(32,.ptr 1 0),(33,pS ((aR p0 i1).aFz)),(34,rS x9),(35,pN x9.length)],⟨[some ⟨26,[aP pw.aFr]⟩,some ⟨32,b8 (aR p0 i1)⟩],[⟨99,6,aJ.trs (v12),false⟩]⟩⟩) (fA H) ?_ ?_
   ·rintro i10 v12 H
    refine gQ 5 ?_;refine cZ H (fun h14 h14l H=>?_) (fun h14 H=>?_)
    ·refine gQ 11 ?_;refine q1 (b4 [aP pw.aFr]) ?_;refine gQ 3 ?_;refine eX H fun x16 x17 z15 H=>(q1 (bJ func116 (C7 fu pw ((aR p0 i1).aFz) (aR x9 i10) _ z15)) ?_)
     refine gQ 10 ?_;refine q1 (b4 [pI (((aR p0 i1).aFu).aFw),pS (((aR p0 i1).aFu).aFs),aV (((aR p0 i1).aFu).aFt)]) (q1 (bJ func79 (tT ((aR p0 i1).aFu) z6)) ?_)
     refine gQ 4 ?_;refine q1 (iL ([(aJ.mk (aD.mk (aR x9 i10) ((aR p0 i1).aFu)) (i1:Int) x16)]:Z aJ)) (cB H fun z18 H=>(q1 (lO z18) ?_))
     exact gE 6
    exact gE 0
   rintro v12 H
   exact gE 4
  exact gE 0
 rintro v3 H
 exact gE 5
def w6(fu:Nat)(pa pb:aD):J Bool:=sw (decide (pa.aFz=pb.aFz)) (some (aA.eq pa.aFu pb.aFu)) (some false)
theorem N0(fu:Nat)(pa:aD)(pb:aD)(r:Bool)(H:w6 fu pa pb=some r):bU prog 55 [(aD.pv pa),(aD.pv pb)] (pB r):=by
 refine qJ func55 H (fun C hC H=>?_)
 refine gQ 2 ?_;refine q1 (fQ (b8 pa)) (q1 (fQ (b8 pb)) ?_)
 refine gQ 10 ?_;refine dY 10 H (fun g1 H=>?_) fun g1 H=>?_
 ·refine qg g1 bW (qg g1 (b4 [pI pa.aFu.aFw,pS pa.aFu.aFs,aV pa.aFu.aFt]) (qg g1 bW (qg g1 (b4 [pI pb.aFu.aFw,pS pb.aFu.aFs,aV pb.aFu.aFt]) (qg g1 (bJ func38 (FM pa.aFu pb.aFu)) ?_))))
  exact gE 3
 exact gE 8
def DG(fu:Nat)(p2:Z aJ)(pg:aD):Nat→Unit→J (LR Unit Int):=fun i1 _=>lt (aR p2 i1) fun y4=>bd (w6 fu y4.aFZ pg) fun x7=>sw x7 (some (.ret (i1:Int))) (some (.next ()))
def mA(fu:Nat)(p2:Z aJ)(pg:aD):J Int:=so (loopN (DG fu p2 pg) (p2.length-0) 0 ()) fun _=>some (-1)
theorem vC(fu:Nat)(p2:Z aJ)(pg:aD)(r:Int)(H:mA fu p2 pg=some r):bU prog 14 [b5 p2,(aD.pv pg)] (pI r):=by
 refine qJ func14 H (fun C hC H=>?_)
 refine gQ 2 ?_;refine q1 (fQ (b8 pg)) ?_;refine gQ 7 ?_;refine gV 0 (aJ.tl _) (fun hl2=>?_)
 try dsimp only at hl2
 refine bV (σ:=Unit) (fun i1 _=>⟨[(0,b5 p2),(3,.ptr 0 0),(4,pI 0),(5,pN i1)],⟨[some ⟨32,b8 pg⟩],[]⟩⟩) (fun _=>⟨[(4,pI 0)],⟨[some ⟨32,b8 pg⟩],[]⟩⟩) (fA H) ?_ ?_
 ·rintro i1 ⟨⟩ H
  refine gQ 8 ?_;refine cZ H (fun h3 h3l H=>?_) (fun h3 H=>?_)
  ·refine gQ 4 ?_;refine gM H fun y4 h5 H=>(bN H fun x7 z6 H=>(dW (dI [0] bI (dI [5] bI (dI [12,13] (AR h5 h3l) (dI [14] xE (dI [15] (gZ (aD.cs y4.aFZ)) (dD [3] (b4 [pS pg.aFz,pI pg.aFu.aFw,pS pg.aFu.aFs,aV pg.aFu.aFt]) (dI [16,17] (bJ func55 (N0 fu y4.aFZ pg _ z6)) (dN ?_))))))))))
   refine bG H (fun h8 H=>gE 5) fun h8 H=>?_;exact gE 6
  exact gE 0
 rintro⟨⟩ H
 exact gE 4
def wO(fu:Nat)(pa pb:aD):J Bool:=sw (decide (pa.aFz=pb.aFz)) (some (aA.eq pa.aFu pb.aFu)) (some false)
theorem NY(fu:Nat)(pa:aD)(pb:aD)(r:Bool)(H:wO fu pa pb=some r):bU prog 84 [(aD.pv pa),(aD.pv pb)] (pB r):=by
 refine qJ func84 H (fun C hC H=>?_)
 refine gQ 2 ?_;refine q1 (fQ (b8 pa)) (q1 (fQ (b8 pb)) ?_)
 refine gQ 10 ?_;refine dY 10 H (fun g1 H=>?_) fun g1 H=>?_
 ·refine qg g1 bW (qg g1 (b4 [pI pa.aFu.aFw,pS pa.aFu.aFs,aV pa.aFu.aFt]) (qg g1 bW (qg g1 (b4 [pI pb.aFu.aFw,pS pb.aFu.aFs,aV pb.aFu.aFt]) (qg g1 (bJ func95 (FD pa.aFu pb.aFu)) ?_))))
  exact gE 3
 exact gE 8
def uA(fu:Nat)(pa:aJ)(c1:aD):J Bool:=bd (wO fu pa.aFZ c1) fun x2=>some x2
theorem KE(fu:Nat)(pa:aJ)(c1:aD)(r:Bool)(H:uA fu pa c1=some r):cM prog 149 [(aJ.pv pa),.ptr 0 0] ⟨[some ⟨32,b8 c1⟩],[]⟩ (fun q t=>q=(pB r)∧t=⟨[some ⟨32,b8 c1⟩],[]⟩):=by
 refine qJ func149 H (fun C hC H=>?_)
 refine gQ 2 ?_;refine q1 (fQ ([pS pa.aFZ.aFz,pI pa.aFZ.aFu.aFw,pS pa.aFZ.aFu.aFs,aV pa.aFZ.aFu.aFt,pI pa.aF7,rI pa.aF8])) ?_;refine gQ 5 ?_;refine q1 (b4 [pS pa.aFZ.aFz,pI pa.aFZ.aFu.aFw,pS pa.aFZ.aFu.aFs,aV pa.aFZ.aFu.aFt]) (q1 (b4 [pS c1.aFz,pI c1.aFu.aFw,pS c1.aFu.aFs,aV c1.aFu.aFt]) (bN H fun x2 z1 H=>(q1 (bJ func84 (NY fu pa.aFZ c1 _ z1)) ?_)))
 exact gE 2
def kE(fu:Nat)(ps:Z aJ)(c1_0:aD):Nat→Unit→J (LR Unit Int):=fun i1 _=>lt (aR ps i1) fun y4=>bd (uA fu y4 c1_0) fun x7=>sw x7 (some (.ret (i1:Int))) (some (.next ()))
def gB(fu:Nat)(ps:Z aJ)(c1_0:aD):J Int:=so (loopN (kE fu ps c1_0) (ps.length-0) 0 ()) fun _=>some (-1)
theorem qP(fu:Nat)(ps:Z aJ)(c1_0:aD)(r:Int)(H:gB fu ps c1_0=some r):cM prog 148 [b5 ps,.fn 149 [.ptr 0 0]] ⟨[some ⟨32,b8 c1_0⟩],[]⟩ (fun q t=>q=(pI r)∧t=⟨[some ⟨32,b8 c1_0⟩],[]⟩):=by
 refine qJ func148 H (fun C hC H=>?_)
 refine gQ 11 ?_;refine gV 0 (aJ.tl _) (fun hl2=>?_)
 try dsimp only at hl2
 refine bV (σ:=Unit) (fun i1 _=>⟨[(0,b5 ps),(1,.fn 149 [.ptr 0 0]),(4,pI 0),(7,pN ps.length),(8,pN i1)],⟨[some ⟨32,b8 c1_0⟩],[]⟩⟩) (fun _=>⟨[(4,pI 0)],⟨[some ⟨32,b8 c1_0⟩],[]⟩⟩) (fA H) ?_ ?_
 ·rintro i1 ⟨⟩ H
  refine gQ 5 ?_;refine cZ H (fun h3 h3l H=>?_) (fun h3 H=>?_)
  ·refine gQ 13 ?_;refine gM H fun y4 h5 H=>(q1 (AR h5 h3l) (q1 (gZ (aJ.cs y4)) (bN H fun x7 z6 H=>(q1 (vO (pre:=⟨[some ⟨32,b8 c1_0⟩],[]⟩) (st':=⟨[some ⟨32,b8 c1_0⟩],[]⟩) (ps:= [_]) (cs:= [.ptr 0 0]) (qs:= [(aJ.pv y4),.ptr 0 0]) [0] [] rfl rfl rfl func149 (by kernel_rfl) rfl rfl rfl (lM.of ⟨⟨_,rfl,rfl,mG,rfl⟩,trivial⟩ trivial (by decide) (by decide)) mG rfl rfl rfl (KE fu y4 c1_0 _ z6)) (qN ?_)))))
   refine bG H (fun h8 H=>gE 5) fun h8 H=>?_;exact gE 5
  exact gE 0
 rintro⟨⟩ H
 exact gE 4
def nZ(fu:Nat)(p2:Z aJ)(pg:aD):J Int:=bd (gB fu p2 pg) fun x2=>some x2
theorem C5(fu:Nat)(p2:Z aJ)(pg:aD)(r:Int)(H:nZ fu p2 pg=some r):bU prog 101 [b5 p2,(aD.pv pg)] (pI r):=by
 refine qJ func101 H (fun C hC H=>?_)
 refine gQ 2 ?_;refine q1 (fQ (b8 pg)) ?_;refine gQ 5 ?_;refine q1 rMf (bN H fun x2 z1 H=>(q1 (fO [0] [] func148 (qP fu p2 pg _ z1)) ?_))
 exact gE 2
end
end Go.Proofs.YtfcoaagbccmahaaGreat.W
namespace Go.Proofs.YtfcoaagbccmahaaGreat.W
open Go.RowKit Go.WalkArith
def FI(l:Z aK)(v:Y):aA:=match F1 l v with
 |some b=>b.aFu
 |none=> .mk 0 ⟨#[]⟩ []
def KQ(l:Z aK)(v:Y):Bool:=(F1 l v).isSome
def kJ(p t:aA):Z aK:=(lF p t []).getD []
theorem at7(l:Z aK)(v:Y)(hb:s3 l):bU Tryz.prog 151 [.t (.row 4 (aK.trs l)),.t (.leaf (.string v))] (.tup [(aA.pv (FI l v)),.t (.leaf (.bool (KQ l v)))]):=by
 refine aaM 0 l v (FI l v,KQ l v) ?_
 rw [aaL 0 l v hb]
 unfold FI KQ
 cases F1 l v<;>rfl
theorem arM(p t:aA)(hp:aX p.tr≤68719476735)(ht:gO t):bU Tryz.prog 161 [(aA.pv p),(aA.pv t)] (.tup [.t (.row 4 (aK.trs (kJ p t))),.t (.leaf (.bool (nM p t)))]):=by
 obtain⟨fu,hf⟩:=(aeI p).get
 refine aeJ (fu+1) p t (kJ p t,nM p t) ?_
 have h1:=af9 (fu:=fu) (ps:= [p]) (by simpa using hf) (ts:= [t]) (s:= []) rfl (by simpa using ht) s3.nil (by rw [X0];simp only [List.length_nil];omega)
 rw [IG] at h1
 unfold R4 EM nM kJ
 cases hq:lF p t [] with
 |none=>
  rw [hq] at h1
  obtain⟨a,b,h1⟩:=h1
  exact iP (iK rfl (iP h1 (iK rfl rfl))) rfl
 |some s=>
  rw [hq] at h1
  exact iP (iK rfl (iP h1 (jL rfl (f7 rfl rfl)))) rfl
end Go.Proofs.YtfcoaagbccmahaaGreat.W
namespace Go.Proofs.YtfcoaagbccmahaaGreat.W
set_option maxRecDepth 100000
set_option maxHeartbeats 40000000
noncomputable section
open Tryz Go.RowKit Go.Proofs
attribute [local irreducible] lt
abbrev GI:=(List aK)→aA→Option aA
abbrev vS:=(List aK)→(List aA)→Option ((List aA))
def KD(m:GI):Prop:= ∀(p0:Z aK) (pt:aA) (r:aA),m p0 pt=some r→bU prog 16 [iE p0,(aA.pv pt)] ((aA.pv r):PV)
def EC(m:vS):Prop:= ∀(p0:Z aK) (p3:Z aA) (r:(Z aA)),m p0 p3=some r→bU prog 60 [iE p0,aV p3] (aV r:PV)
def Y5(fu:Nat)(p4:GI)(p1:vS)(p0:Z aK)(pt:aA):J aA:=sw (decide (pt.aFw=1)) (bd (GL fu p0 pt.aFs) fun(x3,x4)=>sw x4 (some x3) (bd (p1 p0 pt.aFt) fun x7=>some (aA.mk pt.aFw pt.aFs x7))) (bd (p1 p0 pt.aFt) fun x9=>some (aA.mk pt.aFw pt.aFs x9))
theorem ai0(fu:Nat)(p4:GI)(p1:vS)(p8:KD p4)(p6:EC p1):KD (Y5 fu p4 p1):=by
 intro p0 pt r H
 refine qJ func16 H (fun C hC H=>?_)
 refine gQ 2 ?_;refine q1 (fQ (cF pt)) ?_;refine gQ 9 ?_;refine bG H (fun h1 H=>?_) (fun h1 H=>?_)
 ·refine gQ 5 ?_;refine eX H fun x3 x4 z2 H=>(q1 (bJ func59 (ZC fu p0 pt.aFs _ z2)) ?_)
  refine gQ 11 ?_;refine bG H (fun h5 H=>?_) (fun h5 H=>?_)
  ·refine gQ 2 ?_;refine q1 (b4 [pI x3.aFw,pS x3.aFs,aV x3.aFt]) ?_;exact gE 2
  refine gQ 2 ?_;refine bN H fun x7 z6 H=>(dW (dI [3] bW (dD [19] eG (dI [3] bW (dD [21] eG (dI [0] bI (dI [3] bW (dD [24] eG (dI [23,25] (bJ func60 (p6 p0 pt.aFt _ z6)) (dI [20,22,26] rQ (iW [4,27] hY (dN ?_))))))))))))
  exact gE 0
 refine gQ 2 ?_;refine bN H fun x9 z8 H=>(dW (dI [3] bW (dD [19] eG (dI [3] bW (dD [21] eG (dI [0] bI (dI [3] bW (dD [24] eG (dI [23,25] (bJ func60 (p6 p0 pt.aFt _ z8)) (dI [20,22,26] rQ (iW [4,27] hY (dN ?_))))))))))))
 exact gE 0
def Q9(fu:Nat)(p4:GI)(p1:vS)(p0:Z aK)(p3:Z aA):Nat→((Z aA))→J (LR ((Z aA)) ((Z aA))):=fun i2 v3=>bd (p4 p0 (aR p3 i2)) fun x7=>gd (i2=(v3).length) (some (.next (v3++([x7]:Z aA))))
def KC(fu:Nat)(p4:GI)(p1:vS)(p0:Z aK)(p3:Z aA):J ((Z aA)):=gd (p3.length≤68719476736) (so (loopN (Q9 fu p4 p1 p0 p3) (p3.length-0) 0 ([])) fun v3=>gd ((v3).length=p3.length) (some v3))
theorem Y4(fu:Nat)(p4:GI)(p1:vS)(p8:KD p4)(p6:EC p1):EC (KC fu p4 p1):=by
 intro p0 p3 r H
 refine qJ func60 H (fun C hC H=>?_)
 refine gQ 8 ?_;refine cB H fun z1 H=>(q1 (cX.makeSlice (N:=p3.length) rfl rfl rfl rfl atC.h azC.h (by decide) (Nat.le_trans (Nat.mul_le_mul_left _ z1) (by decide)) (Nat.le_trans z1 (by decide))) ?_)
 refine gQ 9 ?_;refine gV 1 (aA.tl _) (fun hl4=>?_)
 refine bV (σ:=(Z aA)) (fun i2 v3=>⟨[(0,iE p0),(4,.nil),(5,.full 3 (p3.length) 0),(11,aV p3),(12,pN p3.length),(13,pN i2)],⟨[],[⟨30,3,aA.trs (v3),true⟩]⟩⟩) (fun v3=>⟨[(4,.nil),(5,.full 3 (p3.length) 0)],⟨[],[⟨30,3,aA.trs (v3),true⟩]⟩⟩) (fA H) ?_ ?_
 ·rintro i2 v3 H
  refine gQ 5 ?_;refine cZ H (fun h5 h5l H=>?_) (fun h5 H=>?_)
  ·refine gQ 7 ?_;refine q1 (gZ (aA.cs (aR p3 i2))) ?_;refine gQ 8 ?_;refine q1 (b4 [pI ((aR p3 i2).aFw),pS ((aR p3 i2).aFs),aV ((aR p3 i2).aFt)]) (bN H fun x7 z6 H=>(q1 (bJ func16 (p8 p0 (aR p3 i2) _ z6)) (q1 (zB (k:=i2) rfl rfl rfl rfl h5l atC.h) (cB H fun z8 H=>?_))))
   refine q1 (zD (e:=aA.cs x7) (es2:=aA.trs (v3++([x7]:Z aA))) 18 rfl rfl rfl rfl rfl rfl mG rfl rfl ay7.h (by rw [aA.tl];exact z8) h5l (by rw [aA.tm,aA.tm,List.map_append];simp [aA.tc])) ?_;exact gE 5
  exact gE 0
 rintro v3 H
 refine gQ 3 ?_;refine cB H fun z9 H=>?_;refine AL.weak (Wk.full (i:=25) rfl rfl (by rw [aA.tl];exact z9)) ?_;exact gE 2
mutual
def tA:Nat→(Z aK)→aA→J aA
 |0,_,_=>none
 |fu+1,p0,pt=>Y5 fu (tA fu) (nY fu) p0 pt
def nY:Nat→(Z aK)→(Z aA)→J ((Z aA))
 |0,_,_=>none
 |fu+1,p0,p3=>KC fu (tA fu) (nY fu) p0 p3
end
theorem amS(fu:Nat):KD (tA fu)∧EC (nY fu):=by
 induction fu with
 |zero=>exact⟨(fun p0 pt r H=>by simp only [tA] at H;cases H),(fun p0 p3 r H=>by simp only [nY] at H;cases H)⟩
 |succ fu ih=>exact⟨(fun p0 pt r H=>by simp only [tA] at H;exact ai0 fu (tA fu) (nY fu) ih.1 ih.2 p0 pt r H),(fun p0 p3 r H=>by simp only [nY] at H;exact Y4 fu (tA fu) (nY fu) ih.1 ih.2 p0 p3 r H)⟩
theorem aqT(fu:Nat):KD (tA fu):=(amS fu).1
abbrev GX:=(List aK)→aA→Option aA
abbrev vY:=(List aK)→(List aA)→Option ((List aA))
def KW(m:GX):Prop:= ∀(p0:Z aK) (pt:aA) (r:aA),m p0 pt=some r→bU prog 110 [iE p0,(aA.pv pt)] ((aA.pv r):PV)
def EJ(m:vY):Prop:= ∀(p0:Z aK) (p3:Z aA) (r:(Z aA)),m p0 p3=some r→bU prog 152 [iE p0,aV p3] (aV r:PV)
def Z8(fu:Nat)(p5:GX)(p2:vY)(p0:Z aK)(pt:aA):J aA:=sw (decide (pt.aFw=1)) (gd (s3 p0) (sw (KQ p0 pt.aFs) (some (FI p0 pt.aFs)) (bd (p2 p0 pt.aFt) fun x5=>some (aA.mk pt.aFw pt.aFs x5)))) (bd (p2 p0 pt.aFt) fun x7=>some (aA.mk pt.aFw pt.aFs x7))
theorem ajY(fu:Nat)(p5:GX)(p2:vY)(p9:KW p5)(p7:EJ p2):KW (Z8 fu p5 p2):=by
 intro p0 pt r H
 refine qJ func110 H (fun C hC H=>?_)
 refine gQ 2 ?_;refine q1 (fQ (cF pt)) ?_;refine gQ 9 ?_;refine bG H (fun h1 H=>?_) (fun h1 H=>?_)
 ·refine gQ 5 ?_;refine cB H fun z2 H=>(q1 (bJ func151 (at7 p0 pt.aFs z2)) ?_)
  refine gQ 11 ?_;refine bG H (fun h3 H=>?_) (fun h3 H=>?_)
  ·refine gQ 2 ?_;refine q1 (b4 [pI ((FI p0 pt.aFs).aFw),pS ((FI p0 pt.aFs).aFs),aV ((FI p0 pt.aFs).aFt)]) ?_;exact gE 2
  refine gQ 2 ?_;refine bN H fun x5 z4 H=>(dW (dI [3] bW (dD [19] eG (dI [3] bW (dD [21] eG (dI [0] bI (dI [3] bW (dD [24] eG (dI [23,25] (bJ func152 (p7 p0 pt.aFt _ z4)) (dI [20,22,26] rQ (iW [4,27] hY (dN ?_))))))))))))
  exact gE 0
 refine gQ 2 ?_;refine bN H fun x7 z6 H=>(dW (dI [3] bW (dD [19] eG (dI [3] bW (dD [21] eG (dI [0] bI (dI [3] bW (dD [24] eG (dI [23,25] (bJ func152 (p7 p0 pt.aFt _ z6)) (dI [20,22,26] rQ (iW [4,27] hY (dN ?_))))))))))))
 exact gE 0
def R0(fu:Nat)(p5:GX)(p2:vY)(p0:Z aK)(p3:Z aA):Nat→((Z aA))→J (LR ((Z aA)) ((Z aA))):=fun i1 v3=>bd (p5 p0 (aR p3 i1)) fun x7=>gd ((v3).length+(([x7]:Z aA)).length≤68719476736) (some (.next (v3++([x7]:Z aA))))
def KV(fu:Nat)(p5:GX)(p2:vY)(p0:Z aK)(p3:Z aA):J ((Z aA)):=so (loopN (R0 fu p5 p2 p0 p3) (p3.length-0) 0 ([])) fun v3=>some v3
theorem Z7(fu:Nat)(p5:GX)(p2:vY)(p9:KW p5)(p7:EJ p2):EJ (KV fu p5 p2):=by
 intro p0 p3 r H
 refine qJ func152 H (fun C hC H=>?_)
 refine gQ 6 ?_;refine q1 (sM ([]:Z aA)) ?_;refine gQ 7 ?_;refine gV 1 (aA.tl _) (fun hl4=>?_)
 refine bV (σ:=(Z aA)) (fun i1 v3=>⟨[(0,iE p0),(1,aV p3),(4,.nil),(5,jO v3 0),(6,pN i1)],⟨[],[⟨30,3,aA.trs (v3),false⟩]⟩⟩) (fun v3=>⟨[(4,.nil),(5,jO v3 0)],⟨[],[⟨30,3,aA.trs (v3),false⟩]⟩⟩) (fA H) ?_ ?_
 ·rintro i1 v3 H
  refine gQ 8 ?_;refine cZ H (fun h5 h5l H=>?_) (fun h5 H=>?_)
  ·refine gQ 9 ?_;refine q1 (gZ (aA.cs (aR p3 i1))) (bN H fun x7 z6 H=>(q1 (bJ func110 (p9 p0 (aR p3 i1) _ z6)) (q1 (iL ([x7]:Z aA)) (cB H fun z8 H=>(q1 (lO z8) ?_)))))
   exact gE 7
  exact gE 0
 rintro v3 H
 exact gE 5
mutual
def tH:Nat→(Z aK)→aA→J aA
 |0,_,_=>none
 |fu+1,p0,pt=>Z8 fu (tH fu) (n8 fu) p0 pt
def n8:Nat→(Z aK)→(Z aA)→J ((Z aA))
 |0,_,_=>none
 |fu+1,p0,p3=>KV fu (tH fu) (n8 fu) p0 p3
end
theorem anE(fu:Nat):KW (tH fu)∧EJ (n8 fu):=by
 induction fu with
 |zero=>exact⟨(fun p0 pt r H=>by simp only [tH] at H;cases H),(fun p0 p3 r H=>by simp only [n8] at H;cases H)⟩
 |succ fu ih=>exact⟨(fun p0 pt r H=>by simp only [tH] at H;exact ajY fu (tH fu) (n8 fu) ih.1 ih.2 p0 pt r H),(fun p0 p3 r H=>by simp only [n8] at H;exact Z7 fu (tH fu) (n8 fu) ih.1 ih.2 p0 p3 r H)⟩
theorem arK(fu:Nat):KW (tH fu):=(anE fu).1
end
end Go.Proofs.YtfcoaagbccmahaaGreat.W
namespace Go.Proofs.YtfcoaagbccmahaaGreat
open Go.RowKit Go.WalkArith Go.IntWalk Go.WideShapes
section
variable {P:Program} {C:qT} {n:Nat} {s:AS} {o:Oper} {x y:Operand} {T T':TypeId}
theorem asK{a b:Int}(ho:o.op= .call { callee:= .builtin .min,args:= #[x,y],argTypes:= #[T,T'] })(hd:bL o.dst n=true)(hx:s.ev x=some (pI a))(hy:s.ev y=some (pI b)):cX P C n o s (s.putO o.dst (pI (min a b))):=
 dV (c4 hd) fun m a' w h=>by
  obtain⟨h1,h3⟩:=cH.leaf_eq (h.eval hx)
  obtain⟨h2,h4⟩:=cH.leaf_eq (h.eval hy)
  have he:(if b<a then b else a)=min a b:=by rw [Int.min_def];split<;>split<;>omega
  refine⟨.int .i64 (min a b),?_,cH.leaf ?_⟩
  ·unfold execOp
   simp [ho,resolve,invoke,builtin,h1,h2,Builtin.min_,Builtin.min2,he]
  ·rw [← he]
   split
   ·exact h4
   ·exact h3
end
section
variable {P:Program} {C:qT} {n:Nat} {s:AS} {o:Oper} {x y:Operand} {T T':TypeId}
theorem rMn{a b:Nat}(ho:o.op= .call { callee:= .builtin .min,args:= #[x,y],argTypes:= #[T,T'] }:=by exact rfl)(hd:bL o.dst n=true:=by exact rfl)(hx:s.ev x=some (pN a):=by exact rfl)(hy:s.ev y=some (pN b):=by exact rfl):cX P C n o s (s.putO o.dst (pN (min a b))):=by
 have h:=asK (P:=P) (C:=C) ho hd hx hy
 have e:(min (a:Int) (b:Int))=((min a b:Nat):Int):=by omega
 rw [e] at h
 exact h
end
section
variable {P:Program} {C:qT} {n:Nat} {s:AS} {o:Oper} {Q:Exit→AS→Prop}
theorem ao0{ops:Array Oper}{rest:Z Oper}{T yT t:TypeId}{x:Operand}{sz:Nat}{es:Z (Z Tr)}(hT:P.underlying T=some (.slice t))(h: ∀b:Bool,(b=true→es= [])→AL P C n ops rest Q (s.putO o.dst (.t (.leaf (.bool b)))))
 (ho:o.op= .binOp .eql T x (.const (.slice none 0 0)) yT:=by exact rfl) (hd:bL o.dst n=true:=by exact rfl) (hx:s.ev x=some (.t (.row sz es)):=by exact rfl) (hg:o.guard=none:=by exact rfl):AL P C n ops (o::rest) Q s:=fun m a w hr=>by
 have hv:=hr.eval hx
 have hv':cH _ w (.row sz es) (a.eval x):=hv
 have key: ∃A cap,a.eval x= .slice A es.length cap∧(A.isNone=true→es= []):=by
  generalize a.eval x=v at hv'
  cases hv' with
  |row c h1 h2 h3 h4=>
   refine⟨_,_,rfl,fun hn=>?_⟩
   cases es with
   |nil=>rfl
   |cons e l=>
    obtain⟨b,off,ha,_⟩:=h3 (by simp)
    rw [ha] at hn
    cases hn
 obtain⟨A,cap,hA,hb⟩:=key
 refine wpList_plain hg fun K hK=>?_
 have hrun:(execOp a.eval o).run P w= .ok (.value (.bool A.isNone)) w:=by
  have h1:=Lib.run_eql_slice_nil (P:=P) w T t A es.length cap 0 0 hT
  unfold execOp
  simp only [ho,hA]
  have h2:a.eval (.const (.slice none 0 0))= .slice none 0 0:=rfl
  simp only [h2]
  rw [Sem.run_bind]
  simp [eqGuard,h1]
 unfold Oper.wp
 rw [hrun]
 exact hK _ w (h A.isNone hb m _ w (hr.put (c4 hd) (cH.leaf (by trivial))))
end
section
variable {P:Program} {C:qT} {n:Nat} {s:AS}
theorem YP{i E sz N r:Nat}{es:Z (Z Tr)}{b:Bool}(hx:s.lk i=some (.full sz N r))(hrow:s.st.rows[r]?=some ⟨E,sz,es,b⟩)(hl:es.length=N):Wk C n s (s.put i (.lit sz es)):=fun m a w h=>by
 refine⟨m,h.dfr,h.tsz,h.sto,fun j q hq=>?_,h.ev⟩
 rw [CE] at hq
 split at hq
 ·rename_i e
  subst e
  cases hq
  obtain⟨v,hv,row,g,q1,q2,q3,q4,q5⟩:=h.env j _ hx
  refine⟨v,hv,?_⟩
  rw [hrow] at q1
  cases q1
  obtain⟨-,-,hplace⟩:=h.sto.row r _ hrow
  rcases hplace with⟨z1,-⟩|⟨g',c',cur,z1,hob,hcs,hfit,hmax,hrep⟩
  ·rw [q4] at z1;cases z1
  rw [q4] at z1
  injection z1 with z1
  injection z1 with e1 e2
  subst e1 e2
  subst q5
  have:cH (kV C.av s.st m) w (.row sz es) (.slice (some ⟨g,0,none⟩) es.length N):=hrep
  rw [hl] at this
  exact⟨this,some ⟨g,0,none⟩,by rw [hl]⟩
 ·exact h.env j q hq
end
section
variable {av:Nat→Nat→Prop} {s st':dL} {m m':kQ} {w w':World} {ks:Z Nat} {rs:Z mV}
def WU(s:dL)(m m':kQ)(ks:Z Nat)(i:Nat):J (Nat×Nat):=if i<s.rows.length then m.γ i else m'.γ (ks.getD (i-s.rows.length) 0)
theorem arI(h:lM s ⟨[],[]⟩ [] [])(hs:fY av s m w)(hst:fY (ET av s ⟨[],[]⟩ m [] [] w) st' m' w')(he:Ev ⟨[],[]⟩ (m.via [] []) w st' m' w')
 (hrow: ∀i row,rs[i]?=some row→st'.rows[ks.getD i 0]?=some row) (hks: ∀i j,i<rs.length→j<rs.length→ks.getD i 0=ks.getD j 0→i=j):
 Ev s m w ⟨s.boxes,s.rows++rs⟩ ⟨m.ρ,WU s m m' ks⟩ w'∧fY av ⟨s.boxes,s.rows++rs⟩ ⟨m.ρ,WU s m m' ks⟩ w'∧
 (∀b o,b<w'.heap.size→kV (ET av s ⟨[],[]⟩ m [] [] w) st' m' b o→kV av ⟨s.boxes,s.rows++rs⟩ ⟨m.ρ,WU s m m' ks⟩ b o):=by
 have old: ∀i,i<s.rows.length→WU s m m' ks i=m.γ i:=fun i hi=>if_pos hi
 have new: ∀i,WU s m m' ks (s.rows.length+i)=m'.γ (ks.getD i 0):=fun i=>by
  unfold WU
  rw [if_neg (by omega),show s.rows.length+i-s.rows.length=i by omega]
 have hfresh: ∀i row g c,rs[i]?=some row→m'.γ (ks.getD i 0)=some (g,c)→w.heap.size≤g:=fun i row g c hi hg=>by
  rcases he.rfresh _ row g c (hrow i row hi) hg with⟨row0,c0,hr,-⟩|hf
  ·simp at hr
  ·exact hf
 have rk: ∀(i:Nat) (z:mV) (g c:Nat),(s.rows++rs)[i]?=some z→WU s m m' ks i=some (g,c)→(s.rows[i]?=some z∧m.γ i=some (g,c))∨ ∃j,i=s.rows.length+j∧rs[j]?=some z∧m'.γ (ks.getD j 0)=some (g,c):=fun i z g c hi hg=>by
  rcases Nat.lt_or_ge i s.rows.length with hl|hl
  ·rw [List.getElem?_append_left hl] at hi
   rw [old i hl] at hg
   exact .inl ⟨hi,hg⟩
  ·obtain⟨j,rfl⟩: ∃j,i=s.rows.length+j:=⟨i-s.rows.length,by omega⟩
   rw [List.getElem?_append_right hl,show s.rows.length+j-s.rows.length=j by omega] at hi
   rw [new] at hg
   exact .inr ⟨j,rfl,hi,hg⟩
 have okk: ∀b o,b<w.heap.size→s.ok m b o→dL.ok ⟨s.boxes,s.rows++rs⟩ ⟨m.ρ,WU s m m' ks⟩ b o:=fun b o hb hk=>by
  refine⟨fun i z hi=>hk.1 i z hi,fun i z g c hi hg e=>?_⟩
  rcases rk i z g c hi hg with⟨h1,h2⟩|⟨j,-,h2,h3⟩
  ·exact hk.2 i z g c h1 h2 e
  ·have:=hfresh j z g c h2 h3;omega
 have ev:Ev s m w ⟨s.boxes,s.rows++rs⟩ ⟨m.ρ,WU s m m' ks⟩ w':=by
  refine⟨he.os,he.tape,he.output,he.size,fun b hb h1 h2=>he.blk b hb (fun i x hi=>by simp at hi) (fun r row0 g c hr _=>by simp at hr),fun b o hb hk=>he.cell b o hb (h.ok (av:=fun _ _=>False) (w:=w) ⟨id,hk⟩).2,okk,fun i y hi=>⟨⟨y,hi⟩,rfl⟩,fun i z hi=> .inl ⟨z,hi⟩,fun i row0 hi=>⟨row0,?_,rfl,Nat.le_refl _,?_⟩,fun i z g c hi hg=>?_⟩
  ·show(s.rows++rs)[i]?=_
   rw [List.getElem?_append_left (dK hi)];exact hi
  ·exact⟨fun _=>old i (dK hi),fun hw=>⟨hw,old i (dK hi)⟩⟩
  ·rcases rk i z g c hi hg with⟨h1,h2⟩|⟨j,-,h2,h3⟩
   ·exact .inl ⟨z,c,h1,h2⟩
   ·exact .inr (hfresh j z g c h2 h3)
 have back: ∀b o,b<w'.heap.size→kV (ET av s ⟨[],[]⟩ m [] [] w) st' m' b o→kV av ⟨s.boxes,s.rows++rs⟩ ⟨m.ρ,WU s m m' ks⟩ b o:=fun b o _ hk=>by
  rcases Nat.lt_or_ge b w.heap.size with hlt|hge
  ·by_cases hA:kV av s m b o
   ·exact⟨hA.1,okk b o hlt hA.2⟩
   ·exact absurd ⟨hlt,hA,fun i x h1 h2=>by simp at h1,fun r row0 g c h1 h2 h3=>by simp at h1⟩ hk.1
  ·refine⟨fun ho=>by have:=hs.avlt _ _ ho;omega,fun i z hi=>?_,fun i z g c hi hg e=>?_⟩
   ·have:=hs.box_lt hi
    show m.ρ i≠b
    omega
   ·rcases rk i z g c hi hg with⟨h1,h2⟩|⟨j,-,h2,h3⟩
    ·have:=hs.row_lt h1 h2
     omega
    ·exact hk.2.2 _ _ g c (hrow j z h2) h3 e
 refine⟨ev,⟨fun i z hi=>?_,fun i i' z z' hi hi' hne=>hs.binj i i' z z' hi hi' hne,fun i z hi=>?_,fun i i' z z' g c c' hi hi' hg hg'=>?_,fun i z r row0 g c hi hr hg=>?_,fun b o hb=>Nat.lt_of_lt_of_le (hs.avlt b o hb) he.size,fun i z g c hi hg o ho=>?_,fun i z hi=>hs.avb i z hi⟩,back⟩
 ·obtain⟨vs,k1,k2⟩:=hs.box i z hi
  exact⟨vs,k1.keep (he.blk _ k1.lt (fun j x hj=>by simp at hj) (fun r row0 g c hr _=>by simp at hr)),iM.mono ev _ _ k2⟩
 ·rcases Nat.lt_or_ge i s.rows.length with hl|hl
  ·have hi':s.rows[i]?=some z:=by
    have h0:(s.rows++rs)[i]?=some z:=hi
    rwa [List.getElem?_append_left hl] at h0
   obtain⟨k1,k2,k3⟩:=hs.row i z hi'
   refine⟨k1,k2,?_⟩
   simp only [old i hl]
   rcases k3 with k3|⟨g,c,cur,q1,q2,q3,q4,q5,q6⟩
   ·exact .inl k3
   ·exact .inr ⟨g,c,cur,q1,(he.blk g q2.lt (fun j x hj e=>by simp at hj) (fun r row0 g' c' hr _=>by simp at hr)).trans q2,q3,q4,q5,RV.mono ev (.t _) _ q6⟩
  ·obtain⟨j,rfl⟩: ∃j,i=s.rows.length+j:=⟨i-s.rows.length,by omega⟩
   have hj:rs[j]?=some z:=by
    have h0:(s.rows++rs)[s.rows.length+j]?=some z:=hi
    rwa [List.getElem?_append_right hl,show s.rows.length+j-s.rows.length=j by omega] at h0
   obtain⟨k1,k2,k3⟩:=hst.row _ _ (hrow j z hj)
   refine⟨k1,k2,?_⟩
   simp only [new]
   rcases k3 with k3|⟨g,c,cur,q1,q2,q3,q4,q5,q6⟩
   ·exact .inl k3
   ·exact .inr ⟨g,c,cur,q1,q2,q3,q4,q5,cH.mono q6 (Nat.le_refl _) back (fun _ _ _ _=>rfl)⟩
 ·rcases rk i z g c hi hg with⟨h1,h2⟩|⟨j,rfl,h2,h3⟩<;>rcases rk i' z' g c' hi' hg' with⟨h1',h2'⟩|⟨j',rfl,h2',h3'⟩
  ·exact hs.rinj i i' z z' g c c' h1 h1' h2 h2'
  ·have:=hs.row_lt h1 h2
   have:=hfresh j' z' g c' h2' h3'
   omega
  ·have:=hs.row_lt h1' h2'
   have:=hfresh j z g c h2 h3
   omega
  ·have h4:=hst.rinj _ _ z z' g c c' (hrow j z h2) (hrow j' z' h2') h3 h3'
   rw [hks j j' (dK h2) (dK h2') h4]
 ·rcases rk r row0 g c hr hg with⟨h1,h2⟩|⟨j,-,h2,h3⟩
  ·exact hs.br i z r row0 g c hi h1 h2
  ·have:=hs.box_lt hi
   have:=hfresh j row0 g c h2 h3
   show m.ρ i≠g
   omega
 ·rcases rk i z g c hi hg with⟨h1,h2⟩|⟨j,-,h2,h3⟩
  ·exact hs.avr i z g c h1 h2 o ho
  ·have:=hs.avlt _ _ ho
   have:=hfresh j z g c h2 h3
   omega
end
def adJ(P:Program)(f:FuncId)(args:Z PV)(rs:Z mV)(R:Z Nat→PV):Prop:=
 cM P f args ⟨[],[]⟩ (fun r t=> ∃ks:Z Nat,r=R ks∧(∀i row,rs[i]?=some row→t.rows[ks.getD i 0]?=some row)∧(∀i j,i<rs.length→j<rs.length→ks.getD i 0=ks.getD j 0→i=j))
theorem vP{ok ok':Nat→Nat→Prop}{st st':dL}{m m':kQ}{w:World}{sz k k':Nat}{es:Z (Z Tr)}{row:mV}{v:Value}(h:RV ok st m w (.acc sz es k) v)(hr:st.rows[k]?=some row)(hr':st'.rows[k']?=some row)(hg:m'.γ k'=m.γ k)(hk: ∀b o,b<w.heap.size→ok b o→ok' b o):RV ok' st' m' w (.acc sz es k') v:=by
 obtain⟨row0,h1,h2,h3,h4,h5⟩:=h
 rw [hr] at h1
 obtain rfl:=Option.some.inj h1
 exact⟨row,hr',h2,h3,cH.mono h4 (Nat.le_refl _) hk (fun _ _ _ _=>rfl),fun e=>by rw [hg];exact h5 e⟩
section
variable {P:Program} {C:qT} {n:Nat} {s:AS} {o:Oper}
theorem BR{f:FuncId}{fn:Func}{xs:Z Operand}{ts:Array TypeId}{ps qs:Z PV}{rs:Z mV}{R:Z Nat→PV}{q:PV}(ho:o.op= .call { callee:= .value (.func f),args:=⟨xs⟩,argTypes:=ts })(hd:bL o.dst n=true)(hf:P.funcs[f]?=some fn)(hnm:(fn.name== "runtime.NumGoroutine")=false)(hb:fn.body.isNone=false)
 (hx:xs.map s.ev=ps.map some) (hle:tN ps (B4 [] [] qs)) (hok:mJ ⟨[],[]⟩ qs=true) (hc:adJ P f qs rs R)
 (hmv: ∀(ok ok':Nat→Nat→Prop) (st st':dL) (m m':kQ) (w:World) (v:Value) (ks:Z Nat),(∀i row,rs[i]?=some row→st.rows[ks.getD i 0]?=some row∧st'.rows[s.st.rows.length+i]?=some row∧m'.γ (s.st.rows.length+i)=m.γ (ks.getD i 0))→(∀b o,b<w.heap.size→ok b o→ok' b o)→RV ok st m w (R ks) v→RV ok' st' m' w q v):
 cX P C n o s ((⟨s.env,⟨s.st.boxes,s.st.rows++rs⟩⟩:AS).putO o.dst q):=fun m a w h K Q hK=>by
 have hp:lM s.st ⟨[],[]⟩ [] []:=lM.of trivial trivial (by decide) (by decide)
 have h2:=evL h hx
 have h1:(execOp a.eval o).run P w= .ok (.enter f ⟨xs.map a.eval⟩) w:=by
  have hcf:=jF (P:=P) hf hnm hb
  unfold execOp
  simp only [ho]
  simp [resolve,invoke,Deferred.ofValue,Act.eval,hcf]
 unfold Oper.wp
 rw [h1]
 have h3:=hc (ET C.av s.st ⟨[],[]⟩ m [] [] w) (m.via [] []) w _ (hp.sto h.sto) (iM.unren hp (fun b o _ k=>hp.ok k) _ _ hok (tN.rv hle h2))
 refine Calls.mono h3 fun e w'=>?_;rintro⟨r,st',m',v,rfl,⟨ks,rfl,hrow,hks⟩,h4,h5,h6⟩
 obtain⟨q1,q2,q3⟩:=arI hp h.sto h4 h5 hrow hks
 refine hK _ _ w' ((h.step q1 q2).put (c4 hd) (hmv _ _ _ _ _ _ _ _ ks (fun i row hi=>⟨hrow i row hi,?_,?_⟩) q3 h6))
 ·show(s.st.rows++rs)[s.st.rows.length+i]?=_
  rw [List.getElem?_append_right (by omega),show s.st.rows.length+i-s.st.rows.length=i by omega]
  exact hi
 ·show WU s.st m m' ks (s.st.rows.length+i)=_
  unfold WU
  rw [if_neg (by omega),show s.st.rows.length+i-s.st.rows.length=i by omega]
theorem YN{ok ok':Nat→Nat→Prop}{st st':dL}{m m':kQ}{w:World}{v:Value}{a b c a' b' c':PV}(ha: ∀u,RV ok st m w a u→RV ok' st' m' w a' u)(hb: ∀u,RV ok st m w b u→RV ok' st' m' w b' u)(hc: ∀u,RV ok st m w c u→RV ok' st' m' w c' u)(h:RV ok st m w (.agg [a,b,c]) v):RV ok' st' m' w (.agg [a',b',c']) v:=by
 obtain⟨vs,rfl,hvs⟩:=h
 refine⟨vs,rfl,?_⟩
 rcases vs with _|⟨v0,_|⟨v1,_|⟨v2,_|⟨v3,vs⟩⟩⟩⟩<;>simp only [iM] at hvs
 ·exact hvs.2.elim
 ·exact hvs.2.2.elim
 ·exact⟨ha _ hvs.1,hb _ hvs.2.1,hc _ hvs.2.2.1,trivial⟩
 ·exact hvs.2.2.2.elim
abbrev asR(P:Program)(f:FuncId)(args:List PV)(r0 r1 r2:mV):Prop:=adJ P f args [r0,r1,r2] fun ks=> .agg [.acc r0.sz r0.es (ks.getD 0 0),.acc r1.sz r1.es (ks.getD 1 0),.acc r2.sz r2.es (ks.getD 2 0)]
abbrev asQ(P:Program)(f:FuncId)(args:List PV)(r0:mV)(sz:Nat)(es:List (List Tr))(r2:mV):Prop:=adJ P f args [r0,r2] fun ks=> .agg [.acc r0.sz r0.es (ks.getD 0 0),.lit sz es,.acc r2.sz r2.es (ks.getD 1 0)]
section
variable {f:FuncId} {fn:Func} {xs:Z Operand} {ts:Array TypeId} {ps qs:Z PV} {r0 r1 r2:mV}
theorem ae2(ho:o.op= .call { callee:= .value (.func f),args:=⟨xs⟩,argTypes:=ts })(hd:bL o.dst n=true)(hf:P.funcs[f]?=some fn)(hnm:(fn.name== "runtime.NumGoroutine")=false)(hb:fn.body.isNone=false)
 (hx:xs.map s.ev=ps.map some) (hle:tN ps (B4 [] [] qs)) (hok:mJ ⟨[],[]⟩ qs=true) (hc:asR P f qs r0 r1 r2):
 cX P C n o s ((⟨s.env,⟨s.st.boxes,s.st.rows++ [r0,r1,r2]⟩⟩:AS).putO o.dst (.agg [.acc r0.sz r0.es s.st.rows.length,.acc r1.sz r1.es (s.st.rows.length+1),.acc r2.sz r2.es (s.st.rows.length+2)])):=
 BR ho hd hf hnm hb hx hle hok hc fun ok ok' st st' m m' w v ks hr hk=>
  YN (fun u h=>vP h (hr 0 r0 rfl).1 (hr 0 r0 rfl).2.1 (hr 0 r0 rfl).2.2 hk) (fun u h=>vP h (hr 1 r1 rfl).1 (hr 1 r1 rfl).2.1 (hr 1 r1 rfl).2.2 hk) (fun u h=>vP h (hr 2 r2 rfl).1 (hr 2 r2 rfl).2.1 (hr 2 r2 rfl).2.2 hk)
theorem ae1{sz:Nat}{es:Z (Z Tr)}(ho:o.op= .call { callee:= .value (.func f),args:=⟨xs⟩,argTypes:=ts })(hd:bL o.dst n=true)(hf:P.funcs[f]?=some fn)(hnm:(fn.name== "runtime.NumGoroutine")=false)(hb:fn.body.isNone=false)
 (hx:xs.map s.ev=ps.map some) (hle:tN ps (B4 [] [] qs)) (hok:mJ ⟨[],[]⟩ qs=true) (hc:asQ P f qs r0 sz es r2):
 cX P C n o s ((⟨s.env,⟨s.st.boxes,s.st.rows++ [r0,r2]⟩⟩:AS).putO o.dst (.agg [.acc r0.sz r0.es s.st.rows.length,.lit sz es,.acc r2.sz r2.es (s.st.rows.length+1)])):=
 BR ho hd hf hnm hb hx hle hok hc fun ok ok' st st' m m' w v ks hr hk=>
  YN (fun u h=>vP h (hr 0 r0 rfl).1 (hr 0 r0 rfl).2.1 (hr 0 r0 rfl).2.2 hk) (fun u h=>⟨cH.mono h.1 (Nat.le_refl _) hk (fun _ _ _ _=>rfl),h.2⟩) (fun u h=>vP h (hr 1 r2 rfl).1 (hr 1 r2 rfl).2.1 (hr 1 r2 rfl).2.2 hk)
end
end
section
variable {P:Program} {C:qT} {n:Nat} {s:AS} {o:Oper}
theorem rCl{f:FuncId}{fn:Func}{xs:Z Operand}{ts:Array TypeId}{ps qs:Z PV}{sz:Nat}{es:Z (Z Tr)}(hf:P.funcs[f]?=some fn)(hc:bU P f qs (.lit sz es))(ho:o.op= .call { callee:= .value (.func f),args:=⟨xs⟩,argTypes:=ts }:=by exact rfl)(hd:bL o.dst n=true:=by exact rfl)(hnm:(fn.name== "runtime.NumGoroutine")=false:=by kernel_rfl)(hb:fn.body.isNone=false:=by exact rfl)
 (hx:evA s xs=some ps:=by exact rfl) (hle:tN ps (B4 [] [] qs):=by exact mG) (h1:mJ ⟨[],[]⟩ qs=true:=by exact rfl):cX P C n o s (s.putO o.dst (.lit sz es)):=
 cX.congr (BR (rs:= []) (R:=fun _=> .lit sz es) (q:= .lit sz es) ho hd hf hnm hb (LX hx) hle h1 (cM.mono hc fun r t ⟨h,_⟩=>⟨[],h,fun i row hi=>by simp at hi,fun i j hi=>by simp at hi⟩) fun ok ok' st st' m m' w v ks _ hk h=>⟨cH.mono h.1 (Nat.le_refl _) hk (fun _ _ _ _=>rfl),h.2⟩) (by simp)
end
section
variable {P:Program} {C:qT} {n:Nat} {s:AS} {o:Oper}
theorem X2{T E sz by_:Nat}{x y:Operand}{es:Z (Z Tr)}{p:PV}(ho:o.op= .call { callee:= .builtin .append,args:= #[x,y],argTypes:= #[T,T] })(hd:bL o.dst n=true)
 (hx:s.ev x=some (.lit sz es)) (hy:s.ev y=some p) (hp:mK p=some (sz,[])) (hT:elemOf? P T=some (E,sz,by_)):cX P C n o s (s.putO o.dst (.lit sz es)):=
 dV (c4 hd) fun m a w h=>by
  obtain⟨i,hu,hi,hs,hby⟩:=elemOf?.spec hT
  have hl:=h.eval hx
  obtain⟨hr1,ad,hv1⟩:=hl
  obtain⟨ad2,cap2,hv2,-,-⟩:=(uL hp (h.eval hy)).shape
  refine⟨a.eval x,?_,hr1,ad,hv1⟩
  unfold execOp
  simp only [ho,resolve,invoke,builtin,Sem.run_bind,Sem.run_pure,Result.andThen_ok,List.map_toArray,List.map_cons,List.map_nil,hv1,hv2]
  have hfc: ∀W,(Builtin.firstCells i.size 0 (.slice ad2 0 cap2)).run P W= .ok #[] W:=fun W=>by
   cases ad2 with
   |none=>simp [Builtin.firstCells]
   |some q=>simp [Builtin.firstCells,loadCells,loadCellsFrom]
  cases ad with
  |none=>simp [Builtin.append_,run_underlying hu,Go.sizeOf,typeInfo,hi,Builtin.lenOf,hfc]
  |some q=>simp [Builtin.append_,run_underlying hu,Go.sizeOf,typeInfo,hi,Builtin.lenOf,hfc,storeCells]
theorem JX{T E sz by_:Nat}{x y:Operand}{es2:Z (Z Tr)}{p:PV}(ho:o.op= .call { callee:= .builtin .append,args:= #[x,y],argTypes:= #[T,T] })(hd:bL o.dst n=true)
 (hx:s.ev x=some (.lit sz [])) (hy:s.ev y=some p) (hp:mK p=some (sz,es2)) (h2: ∀e∈es2,e.length=sz) (hne:es2≠ []) (hsz:0<sz)
 (hT:elemOf? P T=some (E,sz,by_)) (hz:(P.info? E).bind (fun i=>i.zero.map (fun z=>z.cells.size))=some sz) (hb:0<by_) (hlen:es2.length*by_≤140737488355328):
 cX P C n o s ((⟨s.env,s.st.addRow ⟨E,sz,es2,false⟩⟩:AS).putO o.dst (.acc sz es2 s.st.rows.length)):=
 cX.run hd (s1:=⟨s.env,s.st.addRow ⟨E,sz,es2,false⟩⟩) (fun m a w h=>by
  obtain⟨i,hu,hi,hs,hby⟩:=elemOf?.spec hT
  have hE:=F4 (row:=⟨E,sz,[],false⟩) h.sto
  have hS:=JD (row:=⟨E,sz,[],false⟩) h.sto hsz rfl
  have h':=h.step hE hS
  obtain⟨-,ad,hv1⟩:=h'.eval hx
  replace hv1:a.eval x= .slice ad 0 0:=hv1
  have h3:=uL hp (h'.eval hy)
  obtain⟨b,off,c2,news,hv2,hnl,hnews,hone,hnd⟩:=h3.news h2 hne hsz
  have hpos2:0<es2.length:=List.length_pos_iff.2 hne
  have hlen:es2.length*i.bytes≤140737488355328:=by rw [hby];exact hlen
  have h63:es2.length≤140737488355328:=Nat.le_trans (Nat.le_mul_of_pos_right _ (by omega)) hlen
  cases hzz:i.zero with
  |none=>simp [hi,hzz] at hz
  |some z=>
   have hzs:z.cells.size=sz:=by simpa [hi,hzz] using hz
   have hrun: ∀v w1,(Builtin.append_ #[T,T] o.type #[a.eval x,a.eval y]).run P w= .ok v w1→(execOp a.eval o).run P w= .ok (.value v) w1:=fun v w1 hr=>by
    unfold execOp
    simp only [ho,resolve,invoke,builtin,Sem.run_bind,Sem.run_pure,Result.andThen_ok,List.map_toArray,List.map_cons,List.map_nil,hr]
   have happ:(Builtin.append_ #[T,T] o.type #[a.eval x,a.eval y]).run P w= .ok (.slice (some ⟨w.heap.size,0,none⟩) es2.length (grownCap w es2.length 0 E)) (w.drew.alloc (.cells (news.toArray++Builtin.zeroCells z.cells (grownCap w es2.length 0 E-es2.length)) E)):=by
    rw [hv1,hv2]
    cases ad with
    |none=>exact run_append_nil (P:=P) w T o.type E i z hu hi hzz ⟨b,off,none⟩ es2.length c2 news (by rw [hnl,hs]) hnews (by omega) (by omega) (by omega)
    |some A=>
     have:=run_append_grow (P:=P) w T o.type E i z hu hi hzz A 0 0 [] (by simp) (fun j v hj=>by simp at hj) ⟨b,off,none⟩ es2.length c2 news (by rw [hnl,hs]) hnews (by omega) (by omega) (growslice_fits (by omega) (by rw [Nat.zero_add];exact hlen))
     simpa only [Nat.zero_add,List.nil_append,Array.empty_append,List.size_toArray,show([]:Z Value).toArray= #[] from rfl] using this
   have hG:WG C.av (s.st.addRow ⟨E,sz,[],false⟩) ⟨m.ρ,CR m.γ s.st.rows.length none⟩ w s.st.rows.length ⟨E,sz,[],false⟩ es2 w.heap.size (grownCap w es2.length 0 E) (news.toArray++Builtin.zeroCells z.cells (grownCap w es2.length 0 E-es2.length)) (w.drew.alloc (.cells (news.toArray++Builtin.zeroCells z.cells (grownCap w es2.length 0 E-es2.length)) E)):=by
    have hge:=grownCap_ge w es2.length 0 E
    refine⟨by show(s.st.rows++ [_])[s.st.rows.length]?=_;simp,rfl,rfl,rfl,by simp,fun b hb _=>Below.heap_alloc w.drew _ b hb,heap_alloc_new w.drew _,?_,by show 0+_≤_;omega,grownCap_le_maxLen w _ _ _ (by unfold maxLen;omega),h2,fun q e hq=>by simp at hq,fun q e hq j d hd=>?_,.inr (Nat.le_refl _),fun hc=>?_⟩
    ·show _=_*sz
     rw [Array.size_append,size_zeroCells,hzs]
     simp only [List.size_toArray,hnl]
     rw [← Nat.add_mul]
     congr 1
     omega
    ·obtain⟨v,hv,hr⟩:=hnd q e hq j d hd
     refine⟨v,?_,hr⟩
     show(news.toArray++_)[(0+q)*sz+j]?=_
     rw [Nat.zero_add,← Array.getElem?_toList,Array.toList_append,List.getElem?_append_left (dK hv),hv]
    ·rcases hc with hc|hc
     ·cases hc
     ·exact absurd hc hne
   have hst1:(s.st.addRow ⟨E,sz,[],false⟩).setRow s.st.rows.length { (⟨E,sz,[],false⟩:mV) with es:=([]:Z (Z Tr))++es2 }=s.st.addRow ⟨E,sz,es2,false⟩:=by
    simp [dL.setRow,dL.addRow,List.set_append_right]
   have hE1:=hE.trans (hG.ev hS)
   have hS1:=hG.sto hS
   have hA1:=hG.acc hS
   rw [hst1] at hE1 hS1 hA1
   refine⟨_,_,_,hrun _ _ happ,hE1,hS1,?_⟩
   simpa using hA1) rfl
end
end Go.Proofs.YtfcoaagbccmahaaGreat
namespace Go.Proofs.YtfcoaagbccmahaaGreat.W
set_option maxRecDepth 100000
set_option maxHeartbeats 40000000
noncomputable section
open Tryz Go.RowKit Go.Proofs
attribute [local irreducible] lt
abbrev mZ:=aC→aC→Option Bool
abbrev yW:=(List aC)→(List aC)→Option Bool
def qH(m:mZ):Prop:= ∀(pa:aC) (pb:aC) (r:Bool),m pa pb=some r→bU prog 20 [(aC.pv pa),(aC.pv pb)] (pB r:PV)
def I1(m:yW):Prop:= ∀(pa:Z aC) (pb:Z aC) (r:Bool),m pa pb=some r→bU prog 63 [bK pa,bK pb] (pB r:PV)
def yM(fu:Nat)(p1:mZ)(p8:yW)(pa pb:aC):J Bool:=sw (decide (pa.aFw=pb.aFw)) (sw (decide (pa.aGa=pb.aGa)) (sw (decide (pa.aFS.aFF=pb.aFS.aFF)&&decide (pa.aFS.aFS=pb.aFS.aFS)) (bd (p8 pa.aFt pb.aFt) fun x5=>some x5) (some false)) (some false)) (some false)
theorem NB(fu:Nat)(p1:mZ)(p8:yW)(pC:qH p1)(pH:I1 p8):qH (yM fu p1 p8):=by
 intro pa pb r H
 refine qJ func20 H (fun C hC H=>?_)
 refine gQ 2 ?_;refine q1 (fQ (cR pa)) (q1 (fQ (cR pb)) ?_)
 refine gQ 10 ?_;refine dY 10 H (fun g1 H=>?_) fun g1 H=>?_
 ·refine gQ 7 ?_;refine dY 17 H (fun g2 H=>?_) fun g2 H=>?_
  ·refine qg g2 bW (qg g2 (b4 [pI pa.aFS.aFF,pI pa.aFS.aFS]) (qg g2 bW (qg g2 (b4 [pI pb.aFS.aFF,pI pb.aFS.aFS]) (qg g2 (ah1 rfl rfl rfl rfl awG awH) ?_))))
   refine gQ 2 ?_;refine dY 24 H (fun g3 H=>?_) fun g3 H=>?_
   ·refine gQ 4 ?_;refine bN H fun x5 z4 H=>(qg g3 (bJ func63 (pH pa.aFt pb.aFt _ z4)) ?_)
    exact gE 3
   exact gE 8
  exact gE 15
 exact gE 22
def V1(fu:Nat)(p1:mZ)(p8:yW)(pa pb:Z aC):Nat→Unit→J (LR Unit Bool):=fun i2 _=>gd (i2<(pb).length) (bd (p1 (aR pa i2) (aR pb i2)) fun x7=>sw (!(x7)) (some (.ret false)) (some (.next ())))
def P3(fu:Nat)(p1:mZ)(p8:yW)(pa pb:Z aC):J Bool:=sw (!decide ((pa.length:Int)=(pb.length:Int))) (some false) (so (loopN (V1 fu p1 p8 pa pb) (pa.length-0) 0 ()) fun _=>some true)
theorem adC(fu:Nat)(p1:mZ)(p8:yW)(pC:qH p1)(pH:I1 p8):I1 (P3 fu p1 p8):=by
 intro pa pb r H
 refine qJ func63 H (fun C hC H=>?_)
 refine gQ 13 ?_;refine bG H (fun h1 H=>gE 4) fun h1 H=>?_;refine gQ 6 ?_;refine gV 0 (aC.tl _) (fun hl3=>?_)
 try dsimp only at hl3
 refine bV (σ:=Unit) (fun i2 _=>⟨[(0,bK pa),(1,bK pb),(4,pB false),(5,pN i2)],⟨[],[]⟩⟩) (fun _=>⟨[(4,pB false)],⟨[],[]⟩⟩) (fA H) ?_ ?_
 ·rintro i2 ⟨⟩ H
  refine gQ 8 ?_;refine cZ H (fun h4 h4l H=>?_) (fun h4 H=>?_)
  ·refine gQ 4 ?_;refine cB H fun z5 H=>(bN H fun x7 z6 H=>(dW (dI [0] bI (dI [5] bI (dI [17,18] mU (dI [19] (gZ (aC.cs (aR pa i2))) (dI [1] bI (dI [5] bI (dI [21,22] mU (dI [23] (gZ (aC.cs (aR pb i2))) (dI [20,24] (bJ func20 (pC (aR pa i2) (aR pb i2) _ z6)) (dI [25] JP (dN ?_)))))))))))))
   refine bG H (fun h8 H=>gE 4) fun h8 H=>?_;exact gE 6
  exact gE 0
 rintro⟨⟩ H
 exact gE 4
mutual
def fW:Nat→aC→aC→J Bool
 |0,_,_=>none
 |fu+1,pa,pb=>yM fu (fW fu) (o7 fu) pa pb
def o7:Nat→(Z aC)→(Z aC)→J Bool
 |0,_,_=>none
 |fu+1,pa,pb=>P3 fu (fW fu) (o7 fu) pa pb
end
theorem PI(fu:Nat):qH (fW fu)∧I1 (o7 fu):=by
 induction fu with
 |zero=>exact⟨(fun pa pb r H=>by simp only [fW] at H;cases H),(fun pa pb r H=>by simp only [o7] at H;cases H)⟩
 |succ fu ih=>exact⟨(fun pa pb r H=>by simp only [fW] at H;exact NB fu (fW fu) (o7 fu) ih.1 ih.2 pa pb r H),(fun pa pb r H=>by simp only [o7] at H;exact adC fu (fW fu) (o7 fu) ih.1 ih.2 pa pb r H)⟩
theorem R1(fu:Nat):qH (fW fu):=(PI fu).1
abbrev mW:=aC→aC→Option Bool
abbrev dH:=(List aC)→(List aC)→Option Bool
def qA(m:mW):Prop:= ∀(pa:aC) (pb:aC) (r:Bool),m pa pb=some r→bU prog 81 [(aC.pv pa),(aC.pv pb)] (pB r:PV)
def fG(m:dH):Prop:= ∀(pJ:Z aC) (pL:Z aC) (r:Bool),m pJ pL=some r→bU prog 135 [bK pJ,bK pL,.fn 81 []] (pB r:PV)
def xV(fu:Nat)(p2:mW)(p0:dH)(pa pb:aC):J Bool:=sw (decide (pa.aFw=pb.aFw)) (sw (decide (pa.aGa=pb.aGa)) (sw (decide (pa.aFS.aFF=pb.aFS.aFF)&&decide (pa.aFS.aFS=pb.aFS.aFS)) (bd (p0 pa.aFt pb.aFt) fun x5=>some x5) (some false)) (some false)) (some false)
theorem M5(fu:Nat)(p2:mW)(p0:dH)(pD:qA p2)(p7:fG p0):qA (xV fu p2 p0):=by
 intro pa pb r H
 refine qJ func81 H (fun C hC H=>?_)
 refine gQ 2 ?_;refine q1 (fQ (cR pa)) (q1 (fQ (cR pb)) ?_)
 refine gQ 10 ?_;refine dY 10 H (fun g1 H=>?_) fun g1 H=>?_
 ·refine gQ 7 ?_;refine dY 17 H (fun g2 H=>?_) fun g2 H=>?_
  ·refine qg g2 bW (qg g2 (b4 [pI pa.aFS.aFF,pI pa.aFS.aFS]) (qg g2 bW (qg g2 (b4 [pI pb.aFS.aFF,pI pb.aFS.aFS]) (qg g2 (ah1 rfl rfl rfl rfl awG awH) ?_))))
   refine gQ 2 ?_;refine dY 24 H (fun g3 H=>?_) fun g3 H=>?_
   ·refine gQ 4 ?_;refine bN H fun x5 z4 H=>(qg g3 (bJ func135 (p7 pa.aFt pb.aFt _ z4)) ?_)
    exact gE 3
   exact gE 8
  exact gE 15
 exact gE 22
def lX(fu:Nat)(p2:mW)(p0:dH)(pJ pL:Z aC):Nat→Unit→J (LR Unit Bool):=fun i2 _=>gd (i2<(pL).length) (bd (p2 (aR pJ i2) (aR pL i2)) fun x7=>sw (!(x7)) (some (.ret false)) (some (.next ())))
def iR(fu:Nat)(p2:mW)(p0:dH)(pJ pL:Z aC):J Bool:=sw (!decide ((pJ.length:Int)=(pL.length:Int))) (some false) (so (loopN (lX fu p2 p0 pJ pL) (pJ.length-0) 0 ()) fun _=>some true)
theorem sO(fu:Nat)(p2:mW)(p0:dH)(pD:qA p2)(p7:fG p0):fG (iR fu p2 p0):=by
 intro pJ pL r H
 refine qJ func135 H (fun C hC H=>?_)
 refine gQ 13 ?_;refine bG H (fun h1 H=>gE 4) fun h1 H=>?_;refine gQ 8 ?_;refine gV 0 (aC.tl _) (fun hl3=>?_)
 try dsimp only at hl3
 refine bV (σ:=Unit) (fun i2 _=>⟨[(1,bK pL),(2,.fn 81 []),(6,pB false),(15,bK pJ),(16,pN pJ.length),(17,pN i2)],⟨[],[]⟩⟩) (fun _=>⟨[(6,pB false)],⟨[],[]⟩⟩) (fA H) ?_ ?_
 ·rintro i2 ⟨⟩ H
  refine gQ 5 ?_;refine cZ H (fun h4 h4l H=>?_) (fun h4 H=>?_)
  ·refine gQ 7 ?_;refine q1 (gZ (aC.cs (aR pJ i2))) ?_;refine gQ 8 ?_;refine cB H fun z5 H=>(q1 mU (q1 (gZ (aC.cs (aR pL i2))) ?_))
   refine gQ 6 ?_;refine q1 (b4 [pI ((aR pJ i2).aFw),pI ((aR pJ i2).aGa),pI ((aR pJ i2).aFS.aFF),pI ((aR pJ i2).aFS.aFS),bK ((aR pJ i2).aFt)]) (q1 (b4 [pI ((aR pL i2).aFw),pI ((aR pL i2).aGa),pI ((aR pL i2).aFS.aFF),pI ((aR pL i2).aFS.aFS),bK ((aR pL i2).aFt)]) (bN H fun x7 z6 H=>(q1 (rCv func81 (pD (aR pJ i2) (aR pL i2) _ z6)) ?_)))
   refine gQ 2 ?_;refine bG H (fun h8 H=>gE 4) fun h8 H=>?_;exact gE 5
  exact gE 0
 rintro⟨⟩ H
 exact gE 4
mutual
def fT:Nat→aC→aC→J Bool
 |0,_,_=>none
 |fu+1,pa,pb=>xV fu (fT fu) (bZ fu) pa pb
def bZ:Nat→(Z aC)→(Z aC)→J Bool
 |0,_,_=>none
 |fu+1,pJ,pL=>iR fu (fT fu) (bZ fu) pJ pL
end
theorem OT(fu:Nat):qA (fT fu)∧fG (bZ fu):=by
 induction fu with
 |zero=>exact⟨(fun pa pb r H=>by simp only [fT] at H;cases H),(fun pJ pL r H=>by simp only [bZ] at H;cases H)⟩
 |succ fu ih=>exact⟨(fun pa pb r H=>by simp only [fT] at H;exact M5 fu (fT fu) (bZ fu) ih.1 ih.2 pa pb r H),(fun pJ pL r H=>by simp only [bZ] at H;exact sO fu (fT fu) (bZ fu) ih.1 ih.2 pJ pL r H)⟩
theorem RB(fu:Nat):qA (fT fu):=(OT fu).1
abbrev yV:=aC→Option aC
abbrev rN:=(List aC)→Option ((List aC))
def DY(m:yV):Prop:= ∀(pe:aC) (r:aC),m pe=some r→bU prog 129 [(aC.pv pe)] ((aC.pv r):PV)
def t4(m:rN):Prop:= ∀(p5:Z aC) (r:(Z aC)),m p5=some r→xF prog 168 [bK p5] ⟨[],[]⟩ [] 55 5 (aC.trs (r)) (fun k=>cS r k)
theorem adA{m:rN}(h:t4 m)(p5:Z aC)(r:(Z aC))(H:m p5=some r):bU prog 168 [bK p5] (bK r:PV):=(h p5 r H).plain (fun _=>mG) (hp:=af1)
def P0(fu:Nat)(p9:yV)(p6:rN)(pe:aC):J aC:=bd (p6 pe.aFt) fun x2=>some (aC.mk pe.aFw pe.aGa pe.aFS x2)
theorem adB(fu:Nat)(p9:yV)(p6:rN)(pK:DY p9)(pG:t4 p6):DY (P0 fu p9 p6):=by
 intro pe r H
 refine qJ func129 H (fun C hC H=>?_)
 refine gQ 2 ?_;refine q1 (fQ (cR pe)) ?_;refine gQ 6 ?_;refine bN H fun x2 z1 H=>(q1 (bJ func168 (adA (pG) pe.aFt _ z1)) ?_)
 refine gQ 5 ?_;refine q1 (b4 [pI pe.aFw,pI pe.aGa,pI pe.aFS.aFF,pI pe.aFS.aFS,bK x2]) ?_;exact gE 2
def N6(fu:Nat)(p9:yV)(p6:rN)(p5:Z aC):Nat→((Z aC))→J (LR ((Z aC)) ((Z aC))):=fun i1 v3=>bd (p9 (aR p5 i1)) fun x7=>gd ((v3).length+(([x7]:Z aC)).length≤68719476736) (some (.next (v3++([x7]:Z aC))))
def I0(fu:Nat)(p9:yV)(p6:rN)(p5:Z aC):J ((Z aC)):=so (loopN (N6 fu p9 p6 p5) (p5.length-0) 0 ([])) fun v3=>some v3
theorem XG(fu:Nat)(p9:yV)(p6:rN)(pK:DY p9)(pG:t4 p6):t4 (I0 fu p9 p6):=by
 intro p5 r H
 unfold xF
 refine qJ func168 H (fun C hC H=>?_)
 refine gQ 6 ?_;refine q1 (sM ([]:Z aC)) ?_;refine gQ 7 ?_;refine gV 0 (aC.tl _) (fun hl4=>?_)
 try dsimp only at hl4
 refine bV (σ:=(Z aC)) (fun i1 v3=>⟨[(0,bK p5),(2,.nil),(3,cS v3 0),(4,pN i1)],⟨[],[⟨55,5,aC.trs (v3),false⟩]⟩⟩) (fun v3=>⟨[(2,.nil),(3,cS v3 0)],⟨[],[⟨55,5,aC.trs (v3),false⟩]⟩⟩) (fA H) ?_ ?_
 ·rintro i1 v3 H
  refine gQ 8 ?_;refine cZ H (fun h5 h5l H=>?_) (fun h5 H=>?_)
  ·refine gQ 8 ?_;refine q1 (gZ (aC.cs (aR p5 i1))) (bN H fun x7 z6 H=>(q1 (bJ func129 (pK (aR p5 i1) _ z6)) (q1 (sM ([x7]:Z aC)) (cB H fun z8 H=>(q1 (lO z8) ?_)))))
   exact gE 7
  exact gE 0
 rintro v3 H
 refine gQ 5 ?_;refine dR.ret ?_
 obtain rfl:_=r:=(tO H:)
 exact SX (st':=⟨[],[⟨55,5,aC.trs (v3),false⟩]⟩) ⟨0,rfl,rfl,rfl⟩
mutual
def lK:Nat→aC→J aC
 |0,_=>none
 |fu+1,pe=>P0 fu (lK fu) (kL fu) pe
def kL:Nat→(Z aC)→J ((Z aC))
 |0,_=>none
 |fu+1,p5=>I0 fu (lK fu) (kL fu) p5
end
theorem SJ(fu:Nat):DY (lK fu)∧t4 (kL fu):=by
 induction fu with
 |zero=>exact⟨(fun pe r H=>by simp only [lK] at H;cases H),(fun p5 r H=>by simp only [kL] at H;cases H)⟩
 |succ fu ih=>exact⟨(fun pe r H=>by simp only [lK] at H;exact adB fu (lK fu) (kL fu) ih.1 ih.2 pe r H),(fun p5 r H=>by simp only [kL] at H;exact XG fu (lK fu) (kL fu) ih.1 ih.2 p5 r H)⟩
theorem V0(fu:Nat):DY (lK fu):=(SJ fu).1
theorem N7(fu:Nat):t4 (kL fu):=(SJ fu).2
def AE(fu:Nat)(pe:aC)(pA:Z Int)(x2:aC):Nat→(Int×Int×Int×Int×(Z aC))→J (LR (Int×Int×Int×Int×(Z aC)) aC):=fun i3 (v4,v5,v6,v7,v8)=>some (.next (3,(aR pA i3),0,0,([(aC.mk v4 v5 (aF.mk v6 v7) v8)]:Z aC)))
def kP(fu:Nat)(pe:aC)(pA:Z Int):J aC:=bd (lK fu pe) fun x2=>so (loopN (AE fu pe pA x2) (pA.length-0) 0 (x2.aFw,x2.aGa,x2.aFS.aFF,x2.aFS.aFS,x2.aFt)) fun(v4,v5,v6,v7,v8)=>some (aC.mk v4 v5 (aF.mk v6 v7) v8)
theorem AF(fu:Nat)(pe:aC)(pA:Z Int)(r:aC)(H:kP fu pe pA=some r):bU prog 120 [(aC.pv pe),rI pA] ((aC.pv r)):=by
 refine qJ func120 H (fun C hC H=>?_)
 refine gQ 2 ?_;refine q1 (fQ (cR pe)) ?_;refine gQ 4 ?_;refine q1 (b4 [pI pe.aFw,pI pe.aGa,pI pe.aFS.aFF,pI pe.aFS.aFS,bK pe.aFt]) (bN H fun x2 z1 H=>(q1 (bJ func129 (V0 fu pe _ z1)) ?_))
 refine gQ 8 ?_;refine gV 1 (fF _) (fun hl9=>?_)
 try dsimp only at hl9
 refine bV (σ:=Int×Int×Int×Int×(Z aC)) (fun i3 (v4,v5,v6,v7,v8)=>⟨[(1,rI pA),(4,.ptr 1 0),(5,.ptr 2 0),(6,pN i3)],⟨[some ⟨55,cR pe⟩,some ⟨55,[pI 0,pI 0,pI 0,pI 0,.nil]⟩,some ⟨55,[pI v4,pI v5,pI v6,pI v7,bK v8]⟩],[]⟩⟩) (fun(v4,v5,v6,v7,v8)=>⟨[(4,.ptr 1 0),(5,.ptr 2 0)],⟨[some ⟨55,cR pe⟩,some ⟨55,[pI 0,pI 0,pI 0,pI 0,.nil]⟩,some ⟨55,[pI v4,pI v5,pI v6,pI v7,bK v8]⟩],[]⟩⟩) (fA H) ?_ ?_
 ·rintro i3 ⟨v4,v5,v6,v7,v8⟩ H
  refine gQ 8 ?_;refine cZ H (fun h10 h10l H=>?_) (fun h10 H=>?_)
  ·refine gQ 3 ?_;refine dW (dI [1] bI (dI [6] bI (dI [15,16] mU (dI [17] wH (dD [5] (b4 [pI v4,pI v5,pI v6,pI v7,bK v8]) (dI [19] (iL ([(aC.mk v4 v5 (aF.mk v6 v7) v8)]:Z aC)) (dI [18,20] rQ (iW [5,21] hY (dN ?_)))))))))
   exact gE 5
  exact gE 0
 rintro⟨v4,v5,v6,v7,v8⟩ H
 refine gQ 2 ?_;refine q1 (b4 [pI v4,pI v5,pI v6,pI v7,bK v8]) ?_;exact gE 2
abbrev nO:=aC→Option aC
abbrev mX:=(List aC)→Option ((List aC))
def rZ(m:nO):Prop:= ∀(pe:aC) (r:aC),m pe=some r→bU prog 80 [(aC.pv pe)] ((aC.pv r):PV)
def qB(m:mX):Prop:= ∀(pl:Z aC) (r:(Z aC)),m pl=some r→bU prog 77 [bK pl] (.lit 5 (aC.trs (r)):PV)
def AY(fu:Nat)(p4:nO)(p3:mX)(pe:aC):J aC:=bd (p3 pe.aFt) fun x2=>some (aC.mk pe.aFw pe.aGa pe.aFS x2)
theorem OV(fu:Nat)(p4:nO)(p3:mX)(pF:rZ p4)(pE:qB p3):rZ (AY fu p4 p3):=by
 intro pe r H
 refine qJ func80 H (fun C hC H=>?_)
 refine gQ 2 ?_;refine q1 (fQ (cR pe)) ?_;refine gQ 6 ?_;refine bN H fun x2 z1 H=>(q1 (rCl func77 (pE pe.aFt _ z1)) ?_)
 refine gQ 5 ?_;refine q1 (b4 [pI pe.aFw,pI pe.aGa,pI pe.aFS.aFF,pI pe.aFS.aFS,.lit 5 (aC.trs (x2))]) ?_;exact gE 2
def EG(fu:Nat)(p4:nO)(p3:mX)(pl:Z aC):Nat→((Z aC))→J (LR ((Z aC)) ((Z aC))):=fun i2 v3=>bd (p4 (aR pl i2)) fun x7=>gd (i2=(v3).length) (some (.next (v3++([x7]:Z aC))))
def xX(fu:Nat)(p4:nO)(p3:mX)(pl:Z aC):J ((Z aC)):=gd (pl.length≤68719476736) (so (loopN (EG fu p4 p3 pl) (pl.length-0) 0 ([])) fun v3=>gd ((v3).length=pl.length) (some v3))
theorem M7(fu:Nat)(p4:nO)(p3:mX)(pF:rZ p4)(pE:qB p3):qB (xX fu p4 p3):=by
 intro pl r H
 refine qJ func77 H (fun C hC H=>?_)
 refine gQ 8 ?_;refine cB H fun z1 H=>(q1 (cX.makeSlice (N:=pl.length) rfl rfl rfl rfl au8.h azD.h (by decide) (Nat.le_trans (Nat.mul_le_mul_left _ z1) (by decide)) (Nat.le_trans z1 (by decide))) ?_)
 refine gQ 9 ?_;refine gV 0 (aC.tl _) (fun hl4=>?_)
 try dsimp only at hl4
 refine bV (σ:=(Z aC)) (fun i2 v3=>⟨[(2,.nil),(3,.full 5 (pl.length) 0),(9,bK pl),(10,pN pl.length),(11,pN i2)],⟨[],[⟨55,5,aC.trs (v3),true⟩]⟩⟩) (fun v3=>⟨[(2,.nil),(3,.full 5 (pl.length) 0)],⟨[],[⟨55,5,aC.trs (v3),true⟩]⟩⟩) (fA H) ?_ ?_
 ·rintro i2 v3 H
  refine gQ 5 ?_;refine cZ H (fun h5 h5l H=>?_) (fun h5 H=>?_)
  ·refine gQ 7 ?_;refine q1 (gZ (aC.cs (aR pl i2))) ?_;refine gQ 7 ?_;refine q1 (b4 [pI ((aR pl i2).aFw),pI ((aR pl i2).aGa),pI ((aR pl i2).aFS.aFF),pI ((aR pl i2).aFS.aFS),bK ((aR pl i2).aFt)]) (bN H fun x7 z6 H=>(q1 (bJ func80 (pF (aR pl i2) _ z6)) (q1 (zB (k:=i2) rfl rfl rfl rfl h5l au8.h) (cB H fun z8 H=>?_))))
   refine q1 (zD (e:=aC.cs x7) (es2:=aC.trs (v3++([x7]:Z aC))) 16 rfl rfl rfl rfl rfl rfl mG rfl rfl aBr.h (by rw [aC.tl];exact z8) h5l (by rw [aC.tm,aC.tm,List.map_append];simp [aC.tc])) ?_;exact gE 5
  exact gE 0
 rintro v3 H
 refine gQ 3 ?_;refine cB H fun z9 H=>?_;refine AL.weak (YP (i:=22) rfl rfl (by rw [aC.tl];exact z9)) ?_;exact gE 2
mutual
def eZ:Nat→aC→J aC
 |0,_=>none
 |fu+1,pe=>AY fu (eZ fu) (fU fu) pe
def fU:Nat→(Z aC)→J ((Z aC))
 |0,_=>none
 |fu+1,pl=>xX fu (eZ fu) (fU fu) pl
end
theorem EF(fu:Nat):rZ (eZ fu)∧qB (fU fu):=by
 induction fu with
 |zero=>exact⟨(fun pe r H=>by simp only [eZ] at H;cases H),(fun pl r H=>by simp only [fU] at H;cases H)⟩
 |succ fu ih=>exact⟨(fun pe r H=>by simp only [eZ] at H;exact OV fu (eZ fu) (fU fu) ih.1 ih.2 pe r H),(fun pl r H=>by simp only [fU] at H;exact M7 fu (eZ fu) (fU fu) ih.1 ih.2 pl r H)⟩
theorem GM(fu:Nat):rZ (eZ fu):=(EF fu).1
theorem RI(fu:Nat):qB (fU fu):=(EF fu).2
def zV(fu:Nat)(pe:aC)(pA:Z Int)(x2:aC):Nat→(Int×Int×Int×Int×(Z aC))→J (LR (Int×Int×Int×Int×(Z aC)) aC):=fun i3 (v4,v5,v6,v7,v8)=>some (.next (3,(aR pA i3),0,0,([(aC.mk v4 v5 (aF.mk v6 v7) v8)]:Z aC)))
def iY(fu:Nat)(pe:aC)(pA:Z Int):J aC:=bd (eZ fu pe) fun x2=>so (loopN (zV fu pe pA x2) (pA.length-0) 0 (x2.aFw,x2.aGa,x2.aFS.aFF,x2.aFS.aFS,x2.aFt)) fun(v4,v5,v6,v7,v8)=>some (aC.mk v4 v5 (aF.mk v6 v7) v8)
theorem zW(fu:Nat)(pe:aC)(pA:Z Int)(r:aC)(H:iY fu pe pA=some r):bU prog 114 [(aC.pv pe),rI pA] ((aC.pv r)):=by
 refine qJ func114 H (fun C hC H=>?_)
 refine gQ 2 ?_;refine q1 (fQ (cR pe)) ?_;refine gQ 4 ?_;refine q1 (b4 [pI pe.aFw,pI pe.aGa,pI pe.aFS.aFF,pI pe.aFS.aFS,bK pe.aFt]) (bN H fun x2 z1 H=>(q1 (bJ func80 (GM fu pe _ z1)) ?_))
 refine gQ 10 ?_;refine gV 1 (fF _) (fun hl9=>?_)
 try dsimp only at hl9
 refine bV (σ:=Int×Int×Int×Int×(Z aC)) (fun i3 (v4,v5,v6,v7,v8)=>⟨[(4,.ptr 1 0),(5,.ptr 2 0),(10,rI pA),(11,pN pA.length),(12,pN i3)],⟨[some ⟨55,cR pe⟩,some ⟨55,[pI 0,pI 0,pI 0,pI 0,.nil]⟩,some ⟨55,[pI v4,pI v5,pI v6,pI v7,bK v8]⟩],[]⟩⟩) (fun(v4,v5,v6,v7,v8)=>⟨[(4,.ptr 1 0),(5,.ptr 2 0)],⟨[some ⟨55,cR pe⟩,some ⟨55,[pI 0,pI 0,pI 0,pI 0,.nil]⟩,some ⟨55,[pI v4,pI v5,pI v6,pI v7,bK v8]⟩],[]⟩⟩) (fA H) ?_ ?_
 ·rintro i3 ⟨v4,v5,v6,v7,v8⟩ H
  refine gQ 5 ?_;refine cZ H (fun h10 h10l H=>?_) (fun h10 H=>?_)
  ·refine gQ 11 ?_;refine q1 (b4 [pI v4,pI v5,pI v6,pI v7,bK v8]) (q1 (iL ([(aC.mk v4 v5 (aF.mk v6 v7) v8)]:Z aC)) ?_)
   exact gE 7
  exact gE 0
 rintro⟨v4,v5,v6,v7,v8⟩ H
 refine gQ 2 ?_;refine q1 (b4 [pI v4,pI v5,pI v6,pI v7,bK v8]) ?_;exact gE 2
def agT(m:(Z aD)→J ((Z aD))):Prop:= ∀(p5:Z aD) (r:(Z aD)),m p5=some r→xF prog 167 [b0 p5] ⟨[],[]⟩ [] 32 4 (aD.trs (r)) (fun k=>fZ r k)
def N3(fu:Nat)(p5:Z aD):Nat→((Z aD))→J (LR ((Z aD)) ((Z aD))):=fun i1 v3=>gd (gO ((aR p5 i1).aFu)) (gd ((v3).length+(([(aD.mk ((aR p5 i1).aFz) ((aR p5 i1).aFu))]:Z aD)).length≤68719476736) (some (.next (v3++([(aD.mk ((aR p5 i1).aFz) ((aR p5 i1).aFu))]:Z aD)))))
def IW(fu:Nat)(p5:Z aD):J ((Z aD)):=so (loopN (N3 fu p5) (p5.length-0) 0 ([])) fun v3=>some v3
theorem N4(fu:Nat):agT (IW fu):=by
 intro p5 r H
 unfold xF
 refine qJ func167 H (fun C hC H=>?_)
 refine gQ 6 ?_;refine q1 (sM ([]:Z aD)) ?_;refine gQ 7 ?_;refine gV 0 (aD.tl _) (fun hl4=>?_)
 try dsimp only at hl4
 refine bV (σ:=(Z aD)) (fun i1 v3=>⟨[(0,b0 p5),(2,.nil),(3,fZ v3 0),(4,pN i1)],⟨[],[⟨32,4,aD.trs (v3),false⟩]⟩⟩) (fun v3=>⟨[(2,.nil),(3,fZ v3 0)],⟨[],[⟨32,4,aD.trs (v3),false⟩]⟩⟩) (fA H) ?_ ?_
 ·rintro i1 v3 H
  refine gQ 8 ?_;refine cZ H (fun h5 h5l H=>?_) (fun h5 H=>?_)
  ·refine gQ 3 ?_;refine cB H fun z6 H=>(cB H fun z7 H=>(dW (dI [3] bI (dI [0] bI (dI [4] bI (dI [13,14] mU (dI [15] xE (dI [16] wH (dI [0] bI (dI [4] bI (dI [18,19] mU (dI [20] xE (dI [21] (gZ (aA.cs ((aR p5 i1).aFu))) ?_)))))))))))))
   refine dI [22] (bJ func56 (vM ((aR p5 i1).aFu) z6)) (dI [17,23] rQ (dE [24] (sM ([(aD.mk ((aR p5 i1).aFz) ((aR p5 i1).aFu))]:Z aD)) (dE [12,25] (lO z7) (dI [26] bI (dN ?_)))))
   exact gE 5
  exact gE 0
 rintro v3 H
 refine gQ 5 ?_;refine dR.ret ?_
 obtain rfl:_=r:=(tO H:)
 exact SX (st':=⟨[],[⟨32,4,aD.trs (v3),false⟩]⟩) ⟨0,rfl,rfl,rfl⟩
end
end Go.Proofs.YtfcoaagbccmahaaGreat.W
namespace Go.Proofs.YtfcoaagbccmahaaGreat
open Go.RowKit Go.WalkArith Go.IntWalk Go.WideShapes
theorem aiY(l:Z aA)(hl:l.length≤68719476735):xF Tryz.prog 107 [aV l] ⟨[],[]⟩ [] 30 3 (aA.trs l) (fun k=> .acc 3 (aA.trs l) k):=by
 unfold xF
 refine qI Tryz.func107 (fun C hC=>?_)
 refine gQ 8 ?_;refine ao0 Tryz.underlying28 (fun b hb=>?_)
 refine gQ 1 ?_;refine dR.cond (b:=b) rfl (fun hb'=>?_) (fun hb'=>?_)
 ·obtain rfl:l= []:=by
   have:=hb hb'
   cases l with
   |nil=>rfl
   |cons a l=>simp [aA.trs] at this
  refine gQ 4 ?_;refine kC (as1 (i:=2) 30 3 (by decide) rfl) (dR.ret ?_)
  exact SX (st':=⟨[],[⟨30,3,aA.trs [],false⟩]⟩) ⟨0,rfl,rfl,rfl⟩
 refine gQ 3 ?_;refine q1 (sM ([]:Z aA)) (q1 bI (q1 (lO (a:= []) (b:=l) (by simpa using Nat.le_succ_of_le hl)) ?_))
 refine gQ 2 ?_;refine dR.ret ?_;exact SX (st':=⟨[],[⟨30,3,aA.trs l,false⟩]⟩) ⟨0,rfl,rfl,rfl⟩
theorem afP(l:Z Int)(hl:l.length≤68719476735):xF Tryz.prog 76 [rI l] ⟨[],[]⟩ [] 3 1 (c7 l) (fun k=> .acc 1 (c7 l) k):=by
 unfold xF
 refine qI Tryz.func76 (fun C hC=>?_)
 refine gQ 8 ?_;refine ao0 Tryz.underlying64 (fun b hb=>?_)
 refine gQ 1 ?_;refine dR.cond (b:=b) rfl (fun hb'=>?_) (fun hb'=>?_)
 ·obtain rfl:l= []:=by
   have:=hb hb'
   cases l with
   |nil=>rfl
   |cons a l=>simp [c7] at this
  refine gQ 4 ?_;refine kC (as1 (i:=2) 3 1 (by decide) rfl) (dR.ret ?_)
  exact SX (st':=⟨[],[⟨3,1,c7 [],false⟩]⟩) ⟨0,rfl,rfl,rfl⟩
 refine gQ 3 ?_;refine q1 (sM ([]:Z Int)) (q1 bI (q1 (lO (a:= []) (b:=l) (by simpa using Nat.le_succ_of_le hl)) ?_))
 refine gQ 2 ?_;refine dR.ret ?_;exact SX (st':=⟨[],[⟨3,1,c7 l,false⟩]⟩) ⟨0,rfl,rfl,rfl⟩
end Go.Proofs.YtfcoaagbccmahaaGreat
namespace Go.Proofs.YtfcoaagbccmahaaGreat.W
open Tryz Go.RowKit Go.Proofs
mutual
def mN(l:Z aK):aA→aA
 | .mk k n xs=>if k=1 then(if KQ l n=true then FI l n else .mk k n (J6 l xs)) else .mk k n (J6 l xs)
def J6(l:Z aK):Z aA→Z aA
 | []=> []
 |x::r=>mN l x::J6 l r
end
theorem HW(l:Z aK): ∀xs,J6 l xs=xs.map (mN l)
 | []=>rfl
 |x::r=>by rw [J6,HW l r,List.map_cons]
theorem agA{l:Z aK}{xs:Z aA}(hb:xs.length≤68719476735)(h: ∀x∈xs,eK fun fu=>tH fu l x=some (mN l x)):eK fun fu=>n8 fu l xs=some (J6 l xs):=by
 refine bY ((jI h).imp fun fu hf=>?_)
 simp only [n8,KV]
 rw [PC (g:=mN l) fun i s hi hp=>?_,HW]
 ·rfl
 ·rw [R0,iP (hf _ (cA hi)) rfl,f7 (by simp;omega) rfl]
theorem arJ{l:Z aK}(hl:s3 l): ∀t:aA,gO t→eK fun fu=>tH fu l t=some (mN l t):=by
 refine aA.ind fun k n xs ih hb=>?_
 have h1:=hb.len
 refine bY ((agA (l:=l) (xs:=xs) h1 fun x hx=>ih x hx (C0 (t:= .mk k n xs) hx hb)).imp fun fu hf=>?_)
 simp only [tH,Z8,aA.aFw.eq_1,aA.aFs.eq_1,aA.aFt.eq_1,hf,mN]
 by_cases hk:k=1
 ·rw [if_pos hk]
  refine jL (decide_eq_true hk) (f7 hl ?_)
  cases KQ l n<;>rfl
 ·rw [if_neg hk]
  exact iK (decide_eq_false hk) rfl
theorem aeG(l:Z aK)(t:aA)(hl:s3 l)(hb:gO t):bU prog 110 [.t (.row 4 (aK.trs l)),(aA.pv t)] (aA.pv (mN l t)):=by
 obtain⟨fu,h⟩:=(arJ hl t hb).get
 exact arK fu l t _ h
theorem afR{l:Z aK}{xs:Z aA}(hb:xs.length≤68719476735)(h: ∀x∈xs,eK fun fu=>tA fu l x=some (mN l x)):eK fun fu=>nY fu l xs=some (J6 l xs):=by
 refine bY ((jI h).imp fun fu hf=>?_)
 simp only [nY,KC]
 refine f7 (by omega) ?_
 rw [PC (g:=mN l) fun i s hi hp=>?_,HW]
 ·exact f7 (by simp) rfl
 ·rw [Q9,iP (hf _ (cA hi)) rfl,f7 hp.symm rfl]
theorem aqS{l:Z aK}(hl:s3 l): ∀t:aA,gO t→eK fun fu=>tA fu l t=some (mN l t):=by
 refine aA.ind fun k n xs ih hb=>?_
 have h1:=hb.len
 refine bY ((afR (l:=l) (xs:=xs) h1 fun x hx=>ih x hx (C0 (t:= .mk k n xs) hx hb)).imp fun fu hf=>?_)
 simp only [tA,Y5,aA.aFw.eq_1,aA.aFs.eq_1,aA.aFt.eq_1,hf,mN]
 by_cases hk:k=1
 ·rw [if_pos hk,ZB fu l n hl]
  refine jL (decide_eq_true hk) ?_
  unfold KQ FI
  cases F1 l n<;>rfl
 ·rw [if_neg hk]
  exact iK (decide_eq_false hk) rfl
theorem adX(l:Z aK)(t:aA)(hl:s3 l)(hb:gO t):bU prog 16 [.t (.row 4 (aK.trs l)),(aA.pv t)] (aA.pv (mN l t)):=by
 obtain⟨fu,h⟩:=(aqS hl t hb).get
 exact aqT fu l t _ h
theorem aeB{σ β:Type}{F:Nat→σ→J (LR σ β)}{x:β}: ∀k i v,loopN F k i v=some (.inl x)→ ∃j u,F j u=some (.ret x)
 |0,i,v,h=>by rw [loopN] at h;cases h
 |k+1,i,v,h=>by
  rw [loopN] at h
  cases hf:F i v with
  |none=>rw [hf] at h;cases h
  |some y=>
   rw [hf] at h
   cases y with
   |next s=>exact aeB k (i+1) s h
   |brk s=>cases h
   |ret z=>cases h;exact⟨i,v,hf⟩
theorem ajL{fu:Nat}{s a b:Z aK}{ps ts:Z aA}(h:f8 fu s ps ts=some (a,false,b)):a= []:=by
 cases fu with
 |zero=>rw [f8] at h;cases h
 |succ fu=>
  rw [f8] at h
  unfold zZ at h
  cases hd:(!decide ((((ps.length:Nat):Int):Int)=((ts.length:Nat):Int))) with
  |true=>rw [hd] at h;cases h;rfl
  |false=>
   rw [hd] at h
   obtain⟨y,hy,H⟩:=fA (hd0 (show so _ _=some (a,false,b) from h))
   cases y with
   |inr v=>
    have H2:Hd (some (v,true,v)) (fun r=>r=(a,false,b)):=H
    have e:(v,true,v)=(a,false,b):=tO (K:=fun r=>r=(a,false,b)) H2
    cases e
   |inl r=>
    obtain⟨j,u,hf⟩:=aeB _ _ _ hy
    have hr:r=(a,false,b):=H
    subst hr
    unfold BY at hf
    obtain⟨z,hz,H⟩:=bdI (gdI (hd0 hf)).2
    obtain⟨z1,z2,z3⟩:=z
    cases z2 with
    |true=>exact absurd (tO (gdI H).2) (by simp)
    |false=>
     have e:=tO H
     cases e
     rfl
theorem aqX(p t:aA)(hp:aX p.tr≤68719476735)(ht:gO t):bU prog 119 [(aA.pv p),(aA.pv t)] (.tup [.t (.row 4 (aK.trs (kJ p t))),.t (.leaf (.bool (nM p t)))]):=by
 obtain⟨fu,hf⟩:=(adY p).get
 refine adZ (fu+1) p t (kJ p t,nM p t) ?_
 have h1:=afQ (fu:=fu) (ps:= [p]) (by simpa using hf) (ts:= [t]) (s:= []) rfl (by simpa using ht) s3.nil (by rw [X0];simp only [List.length_nil];omega)
 rw [IG] at h1
 unfold RD nM kJ
 cases hq:lF p t [] with
 |none=>
  rw [hq] at h1
  obtain⟨a,b,h1⟩:=h1
  obtain rfl:=ajL h1
  exact iP h1 (iK rfl rfl)
 |some s=>
  rw [hq] at h1
  exact iP h1 (jL rfl (f7 rfl rfl))
attribute [local irreducible] lt
theorem Q7{l:LB}{s:Y}:wL l s=true↔s∈l:=by
 unfold wL
 rw [List.any_eq_true]
 constructor
 ·rintro⟨x,hx,h⟩
  rw [decide_eq_true_eq] at h
  exact h ▸ hx
 ·exact fun h=>⟨s,h,decide_eq_true rfl⟩
def EA(w:aH):LB:=w.aFr.flatMap fun p=>p.aFK.flatMap fun t=>t.aFD
theorem afO{α β:Type}[Wt α](f:α→Z β)(h: ∀x,(f x).length≤wt x): ∀l:Z α,(l.flatMap f).length≤wl l
 | []=>Nat.zero_le _
 |x::l=>by
  rw [List.flatMap_cons,List.length_append,ahU]
  have:=h x
  have:=afO f h l
  omega
theorem aiM{w:aH}(hw:wt w≤13000000):(EA w).length≤13000000:=by
 have h:=afO (fun p:aN=>p.aFK.flatMap fun t=>t.aFD) (fun p=>by
  have h1:=afO (fun t:aZ=>t.aFD) (fun t=>by
   have:=aZ.we t
   have:=bE t.aFD
   omega) p.aFK
  have:=aN.we p
  omega) w.aFr
 have:=aH.we w
 unfold EA
 omega
theorem SQ{w:aH}{n s:Y}(h:s∈(uX w n).1.aFD):s∈EA w:=by
 unfold uX at h
 cases hq:(List.range' 0 w.aFr.length).findSome? (tQ w n) with
 |none=>rw [hq] at h;cases h
 |some r=>
  rw [hq] at h
  obtain⟨i,hi,hq⟩:=List.exists_of_findSome?_eq_some hq
  unfold tQ at hq
  obtain⟨k,hk,hq⟩:=List.exists_of_findSome?_eq_some hq
  rw [List.mem_range'_1] at hi hk
  split at hq
  ·cases hq
   exact List.mem_flatMap.2 ⟨_,cA (by omega:i<w.aFr.length),List.mem_flatMap.2 ⟨_,cA (by omega:k<(aR w.aFr i).aFK.length),h⟩⟩
  ·cases hq
def IE(U:LB)(v:LB):Nat:=U.countP fun s=> !wL v s
theorem ajH{U v v':LB}(h: ∀x∈v,x∈v'):IE U v'≤IE U v:=by
 refine List.countP_mono_left fun x _ hx=>?_
 rw [Bool.not_eq_true',Bool.eq_false_iff,ne_eq,Q7] at hx ⊢
 exact fun k=>hx (h x k)
theorem ad9{v:LB}{s:Y}(hn:wL v s=false): ∀ {U:LB},s∈U→IE U (v++ [s])<IE U v
 |x::U,h=>by
  have hm:=ajH (U:=U) (v:=v) (v':=v++ [s]) fun x hx=>List.mem_append_left _ hx
  unfold IE at hm ⊢
  rw [List.countP_cons,List.countP_cons]
  by_cases hx:x=s
  ·subst hx
   have h1:wL (v++ [x]) x=true:=Q7.2 (by simp)
   rw [h1,hn]
   simp only [Bool.not_true,Bool.not_false,if_true]
   simp
   omega
  ·have ih:=ad9 hn (U:=U) (by
    rcases List.mem_cons.1 h with h|h
    ·exact absurd h.symm hx
    ·exact h)
   unfold IE at ih
   have h1:(if(!wL (v++ [s]) x)=true then 1 else 0)≤(if(!wL v x)=true then 1 else 0:Nat):=by
    cases hq:wL v x with
    |true=>
     have:wL (v++ [s]) x=true:=Q7.2 (List.mem_append_left _ (Q7.1 hq))
     rw [this]
     exact Nat.le_refl _
    |false=>cases wL (v++ [s]) x<;>simp
   omega
def SO(w:aH):Nat→LB→Y→LB
 |0,out,_=>out
 |n+1,out,name=>(uX w name).1.aFD.foldl (fun v s=>if wL v s=true then v else SO w n (v++ [s]) s) out
def SOk(w:aH)(m:Nat)(v:LB):Prop:=v.length+IE (EA w) v≤13000000∧IE (EA w) v≤m
theorem adW{σ α:Type}(P:σ→Prop){g:σ→α→σ}: ∀ {l:Z α} {v:σ},(∀v x,x∈l→P v→P (g v x))→P v→P (l.foldl g v)
 | [],v,_,h=>h
 |x::l,v,hs,h=>adW P (l:=l) (fun v y hy=>hs v y (List.mem_cons_of_mem _ hy)) (hs v x (by simp) h)
theorem R5{w:aH}{m:Nat}{v:LB}{s:Y}(h:SOk w m v)(hs:s∈EA w)(hn:wL v s=false):SOk w (m-1) (v++ [s])∧0<m∧v.length<13000000:=by
 have h1:=ad9 hn hs
 obtain⟨h2,h3⟩:=h
 refine⟨⟨?_,by omega⟩,by omega,by omega⟩
 rw [List.length_append,List.length_singleton]
 omega
theorem SOk.le{w:aH}{m k:Nat}{v:LB}(h:SOk w m v)(hk:m≤k):SOk w k v:=⟨h.1,Nat.le_trans h.2 hk⟩
theorem SP{w:aH}: ∀n m out name,SOk w m out→SOk w m (SO w n out name)
 |0,m,out,name,h=>h
 |n+1,m,out,name,h=>by
  rw [SO]
  refine adW (SOk w m) (fun v s hs hv=>?_) h
  split
  ·exact hv
  ·rename_i hn
   exact(SP n (m-1) _ s (R5 hv (SQ hs) (by simpa using hn)).1).le (by omega)
theorem apG{w:aH}: ∀n m out name,SOk w m out→13000001+m<n→jJ n w out name=some (SO w n out name)
 |0,m,out,name,_,h=>by omega
 |n+1,m,out,name,h,hn=>by
  rw [jJ,SO]
  unfold C8
  rw [GQ]
  show so (loopN (A0 n (jJ n) w out name (uX w name).1 (uX w name).2.1 (uX w name).2.2) ((uX w name).1.aFD.length-0) 0 out) _=_
  rw [lZ (l:=(uX w name).1.aFD) (g:=fun v s=>if wL v s=true then v else SO w n (v++ [s]) s) (fun _ v=>SOk w m v) (fun i v hi hv=>by
   unfold A0
   have hs:=SQ (cA hi)
   generalize aR (uX w name).1.aFD i=s at hs ⊢
   rw [QV]
   show sw (!wL v s) _ _=_∧_
   cases hq:wL v s with
   |true=>exact⟨rfl,hv⟩
   |false=>
    obtain⟨k1,k2,k3⟩:=R5 hv hs hq
    exact⟨f7 (by simp only [List.length_singleton];omega) (iP (apG n (m-1) _ s k1 (by omega)) rfl),(SP n (m-1) _ s k1).le (by omega)⟩) h]
  rfl
theorem apO{w:aH}(hw:wt w≤13000000): ∀n m out name,SOk w m out→13000001+m<n→lV n w name out=some (SO w n out name)
 |0,m,out,name,_,h=>by omega
 |n+1,m,out,name,h,hn=>by
  rw [lV,SO]
  unfold IY
  rw [EO n w name (aH.sw_ hw (by omega))]
  show so (loopN (FS n (lV n) w name out (uX w name).1 (uX w name).2.1 (uX w name).2.2) ((uX w name).1.aFD.length-0) 0 out) _=_
  rw [lZ (l:=(uX w name).1.aFD) (g:=fun v s=>if wL v s=true then v else SO w n (v++ [s]) s) (fun _ v=>SOk w m v) (fun i v hi hv=>by
   unfold FS
   have hs:=SQ (cA hi)
   generalize aR (uX w name).1.aFD i=s at hs ⊢
   rw [U3]
   show sw (!wL v s) _ _=_∧_
   cases hq:wL v s with
   |true=>exact⟨rfl,hv⟩
   |false=>
    obtain⟨k1,k2,k3⟩:=R5 hv hs hq
    exact⟨f7 (by simp only [List.length_singleton];omega) (iP (apO hw n (m-1) _ s k1 (by omega)) rfl),(SP n (m-1) _ s k1).le (by omega)⟩) h]
  rfl
def BF(fu:Nat)(w:aH)(name:Y):LB:=SO w fu [] name
theorem XV{w:aH}(hw:wt w≤13000000):SOk w 13000000 []:=by
 have h:=aiM hw
 have h1:IE (EA w) []≤(EA w).length:=List.countP_le_length
 refine⟨?_,?_⟩
 ·rw [List.length_nil];omega
 ·omega
theorem amQ{fu:Nat}{w:aH}(hw:wt w≤13000000)(hf:27000000≤fu)(name:Y):sT fu w name=some (BF fu w name):=by
 unfold sT BF
 rw [apG fu 13000000 [] name (XV hw) (by omega)]
 rfl
theorem anD{fu:Nat}{w:aH}(hw:wt w≤13000000)(hf:27000000≤fu)(name:Y):sW fu w name=some (BF fu w name):=by
 unfold sW BF
 rw [apO hw fu 13000000 [] name (XV hw) (by omega)]
 rfl
theorem abS{fu:Nat}{w:aH}(hw:wt w≤13000000)(name:Y):(BF fu w name).length≤13000000:=by
 have h:=(SP fu 13000000 [] name (XV hw)).1
 unfold BF
 omega
def SN(w:aH)(a:Y)(f:Y→Z Int×Bool)(i:Nat):J (Z Int×Bool):=if(f (aR (uX w a).1.aFD i)).2=true then some ([((i:Nat):Int)]++(f (aR (uX w a).1.aFD i)).1,true) else none
def lN(w:aH):Nat→Y→Y→Z Int×Bool
 |0,a,b=>if a=b then([],true) else([],false)
 |k+1,a,b=>if a=b then([],true) else((List.range' 0 (uX w a).1.aFD.length).findSome? (SN w a fun s=>lN w k s b)).getD ([],false)
theorem T9(w:aH): ∀k a b,(lN w k a b).1.length≤k
 |0,a,b=>by rw [lN];split<;>exact Nat.le_refl _
 |k+1,a,b=>by
  rw [lN]
  split
  ·exact Nat.zero_le _
  ·cases h:(List.range' 0 (uX w a).1.aFD.length).findSome? (SN w a fun s=>lN w k s b) with
   |none=>exact Nat.zero_le _
   |some r=>
    obtain⟨i,hi,h⟩:=List.exists_of_findSome?_eq_some h
    unfold SN at h
    split at h
    ·cases h
     have:=T9 w k (aR (uX w a).1.aFD i) b
     show([((i:Nat):Int)]++(lN w k (aR (uX w a).1.aFD i) b).1).length≤_
     rw [List.length_append,List.length_singleton]
     omega
    ·cases h
theorem ai6{w:aH}: ∀k n a b,k≤8→k<n→nP n w a b ((k:Nat):Int)=some (lN w k a b)
 |k,0,a,b,_,h=>by omega
 |0,n+1,a,b,hk,hn=>by
  rw [nP,lN]
  unfold L4
  by_cases h:a=b
  ·rw [if_pos h];exact jL (decide_eq_true h) rfl
  ·rw [if_neg h];exact iK (decide_eq_false h) (jL rfl rfl)
 |k+1,n+1,a,b,hk,hn=>by
  rw [nP,lN]
  unfold L4
  by_cases h:a=b
  ·rw [if_pos h];exact jL (decide_eq_true h) rfl
  ·rw [if_neg h]
   refine iK (decide_eq_false h) (iK (decide_eq_false (by omega)) ?_)
   rw [GQ]
   have hl:=rD (f:=OW n (nP n) w a b ((k+1:Nat):Int) (uX w a).1 (uX w a).2.1 (uX w a).2.2) (q:=SN w a fun s=>lN w k s b) (fun r=>r) (s:=()) (n:=(uX w a).1.aFD.length) (fun i hi=>by
    unfold OW SN
    generalize aR (uX w a).1.aFD i=s
    have h1:=T9 w k s b
    rw [show bB (((k+1:Nat):Int)-1)=((k:Nat):Int) from by rw [SR (by omega) (by omega)];omega,ai6 k n s b (by omega) (by omega)]
    show sw (lN w k s b).2 _ _=_
    cases h2:(lN w k s b).2 with
    |true=>exact f7 (by simp only [List.length_singleton];omega) (by rw [if_pos rfl])
    |false=>rw [if_neg (by simp)];rfl) _ 0 rfl
   show so (OX n (nP n) w a b ((k+1:Nat):Int) (uX w a).1 (uX w a).2.1 (uX w a).2.2) _=_
   unfold OX
   refine(congrArg (fun x=>so x _) hl).trans ?_
   simp only [Nat.sub_zero]
   cases(List.range' 0 (uX w a).1.aFD.length).findSome? (SN w a fun s=>lN w k s b)<;>rfl
theorem ai5(fu:Nat)(hf:100≤fu)(w:aH)(a b:Y):l8 fu w a b=some (lN w 8 a b):=by
 unfold l8
 rw [show(8:Int)=((8:Nat):Int) from rfl,ai6 8 fu a b (by omega) (by omega)]
 rfl
theorem aj4{w:aH}(hw:wt w≤13000000): ∀k n a b,k≤8→13000001+k<n→jX n w a b ((k:Nat):Int)=some (lN w k a b)
 |k,0,a,b,_,h=>by omega
 |0,n+1,a,b,hk,hn=>by
  rw [jX,lN]
  unfold EX
  by_cases h:a=b
  ·rw [if_pos h];exact jL (decide_eq_true h) rfl
  ·rw [if_neg h]
   refine iK (decide_eq_false h) ?_
   rw [EO n w a (aH.sw_ hw (by omega))]
   show so (xC n (jX n) w a b ((0:Nat):Int) (uX w a).1 (uX w a).2.1 (uX w a).2.2) _=_
   unfold xC
   cases hz:(uX w a).1.aFD.length-0 with
   |zero=>rw [loopN];rfl
   |succ m=>
    rw [loopN]
    unfold CA
    rfl
 |k+1,n+1,a,b,hk,hn=>by
  rw [jX,lN]
  unfold EX
  by_cases h:a=b
  ·rw [if_pos h];exact jL (decide_eq_true h) rfl
  ·rw [if_neg h]
   refine iK (decide_eq_false h) ?_
   rw [EO n w a (aH.sw_ hw (by omega))]
   have hl:=rD (f:=CA n (jX n) w a b ((k+1:Nat):Int) (uX w a).1 (uX w a).2.1 (uX w a).2.2) (q:=SN w a fun s=>lN w k s b) (fun r=>r) (s:=()) (n:=(uX w a).1.aFD.length) (fun i hi=>by
    unfold CA SN
    generalize aR (uX w a).1.aFD i=s
    have h1:=T9 w k s b
    refine jL (decide_eq_true (by omega)) ?_
    rw [show bB (((k+1:Nat):Int)-1)=((k:Nat):Int) from by rw [SR (by omega) (by omega)];omega,aj4 hw k n s b (by omega) (by omega)]
    show sw (lN w k s b).2 _ _=_
    cases h2:(lN w k s b).2 with
    |true=>exact f7 (by simp only [List.length_singleton];omega) (by rw [if_pos rfl])
    |false=>rw [if_neg (by simp)];rfl) _ 0 rfl
   show so (xC n (jX n) w a b ((k+1:Nat):Int) (uX w a).1 (uX w a).2.1 (uX w a).2.2) _=_
   unfold xC
   refine(congrArg (fun x=>so x _) hl).trans ?_
   simp only [Nat.sub_zero]
   cases(List.range' 0 (uX w a).1.aFD.length).findSome? (SN w a fun s=>lN w k s b)<;>rfl
theorem aj3{fu:Nat}{w:aH}(hw:wt w≤13000000)(hf:27000000≤fu)(a b:Y):oJ fu w a b=some (lN w 8 a b):=by
 unfold oJ
 rw [show(8:Int)=((8:Nat):Int) from rfl,aj4 hw 8 fu a b (by omega) (by omega)]
 rfl
end Go.Proofs.YtfcoaagbccmahaaGreat.W
namespace Go.Proofs.YtfcoaagbccmahaaGreat.W
open Go.RowKit Go.Proofs
theorem LU(a b:Y):(a==b)=decide (a=b):=by
 by_cases h:a=b
 ·subst h
  rw [C2]
  simp
 ·rw [HZ h]
  simp [h]
theorem aA.eq_iff: ∀a b:aA,aA.eq a b=true↔a=b:=by
 refine aA.ind fun k n xs ih b=>?_
 obtain⟨l,m,ys⟩:=b
 have hL: ∀(l r:Z aA),(∀x∈l,∀y,aA.eq x y=true↔x=y)→(aA.eqs l r=true↔l=r):=by
  intro l
  induction l with
  |nil=>intro r _;cases r<;>simp [aA.eqs]
  |cons x l ihl=>
   intro r hx
   cases r with
   |nil=>simp [aA.eqs]
   |cons y r=>
    rw [aA.eqs,Bool.and_eq_true,hx x (by simp) y,ihl r (fun z hz=>hx z (List.mem_cons_of_mem _ hz)),List.cons.injEq]
 rw [aA.eq,Bool.and_eq_true,Bool.and_eq_true,hL xs ys ih,LU,decide_eq_true_eq,beq_iff_eq]
 constructor
 ·rintro⟨rfl,rfl,rfl⟩;rfl
 ·intro h;cases h;exact⟨rfl,rfl,rfl⟩
attribute [local irreducible] lt
theorem aD.eq_iff: ∀a b:aD,aD.eq a b=true↔a=b
 | .mk n x,.mk m y=>by
  rw [aD.eq,Bool.and_eq_true,LU,decide_eq_true_eq,aA.eq_iff]
  constructor
  ·rintro⟨rfl,rfl⟩;rfl
  ·intro h;cases h;exact⟨rfl,rfl⟩
theorem aD.eq_self(a:aD):aD.eq a a=true:=(aD.eq_iff a a).2 rfl
def F0(fu:Nat)(w:aH)(i:Nat)(b:aD):Z aJ:=
 [aJ.mk (aD.mk b.aFz b.aFu) ((i:Nat):Int) []]++(List.range' 0 (BF fu w b.aFz).length).map fun k=>aJ.mk (aD.mk (aR (BF fu w b.aFz) k) b.aFu) ((i:Nat):Int) (lN w 8 b.aFz (aR (BF fu w b.aFz) k)).1
def ab5(fu:Nat)(w:aH)(l:Z aD):Z aJ:=(List.range' 0 l.length).flatMap fun i=>F0 fu w i (aR l i)
theorem aqK{fu:Nat}{w:aH}(hw:wt w≤13000000)(i:Nat)(b:aD):(F0 fu w i b).length≤13000001:=by
 have h:=abS (fu:=fu) hw b.aFz
 unfold F0
 rw [List.length_append,List.length_singleton,List.length_map,List.length_range']
 omega
theorem aiX{α:Type}{f:Nat→Z α}{M:Nat}(h: ∀i,(f i).length≤M): ∀k j,((List.range' j k).flatMap f).length≤M*k
 |0,j=>by simp
 |k+1,j=>by
  rw [List.range'_succ,List.flatMap_cons,List.length_append,Nat.mul_succ]
  have:=h j
  have:=aiX h k (j+1)
  omega
theorem aiR{fu:Nat}{w:aH}(hw:wt w≤13000000){l:Z aD}(hl:l.length≤1000):(ab5 fu w l).length≤13000001*1000:=by
 have h:=aiX (f:=fun i=>F0 fu w i (aR l i)) (M:=13000001) (fun i=>aqK hw i _) l.length 0
 unfold ab5
 exact Nat.le_trans h (Nat.mul_le_mul_left _ hl)
section
variable {fu:Nat} {w:aH} (hw:wt w≤13000000) (hf:27000000≤fu) {l:Z aD} (hl:l.length≤1000) (hb: ∀b∈l,gO b.aFu)
include hw hf hl hb
theorem avD:wM fu w l=some (ab5 fu w l):=by
 have h:=yG (F:=AW fu w l) (g:=fun i=>F0 fu w i (aR l i)) (n:=l.length) (M:=68719476736) (fun i v hi hv=>by
  have hB:=hb _ (cA hi)
  have hs:=abS (fu:=fu) hw (aR l i).aFz
  have h2:=GU (F:=uQ fu w l i v (BF fu w (aR l i).aFz)) (g:=fun k=>aJ.mk (aD.mk (aR (BF fu w (aR l i).aFz) k) (aR l i).aFu) ((i:Nat):Int) (lN w 8 (aR l i).aFz (aR (BF fu w (aR l i).aFz) k)).1) (n:=(BF fu w (aR l i).aFz).length) (M:=68719476736) (fun k u hk hu=>by
   unfold uQ
   rw [ai5 fu (by omega)]
   exact f7 hu rfl) _ 0 (v++ [aJ.mk (aD.mk (aR l i).aFz (aR l i).aFu) ((i:Nat):Int) []]) rfl (by
   unfold F0 at hv
   rw [List.length_append,List.length_singleton,List.length_map,List.length_range'] at hv
   rw [List.length_append,List.length_singleton]
   omega)
  unfold AW
  refine f7 hB (f7 (by
   unfold F0 at hv
   rw [List.length_append,List.length_singleton] at hv
   rw [List.length_singleton]
   omega) ?_)
  rw [amQ hw hf]
  show so (loopN (uQ fu w l i v (BF fu w (aR l i).aFz)) ((BF fu w (aR l i).aFz).length-0) 0 _) _=_
  rw [h2]
  unfold F0
  rw [List.append_assoc]
  rfl) _ 0 [] rfl (by
  have:=aiR (fu:=fu) hw hl
  unfold ab5 at this
  rw [List.length_nil,Nat.zero_add,Nat.sub_zero]
  omega)
 unfold wM
 rw [h]
 rfl
theorem avV:w5 fu w l=some (ab5 fu w l):=by
 have h:=yG (F:=A8 fu w l) (g:=fun i=>F0 fu w i (aR l i)) (n:=l.length) (M:=68719476736) (fun i v hi hv=>by
  have hB:=hb _ (cA hi)
  have hs:=abS (fu:=fu) hw (aR l i).aFz
  have h2:=GU (F:=uT fu w l i v (BF fu w (aR l i).aFz)) (g:=fun k=>aJ.mk (aD.mk (aR (BF fu w (aR l i).aFz) k) (aR l i).aFu) ((i:Nat):Int) (lN w 8 (aR l i).aFz (aR (BF fu w (aR l i).aFz) k)).1) (n:=(BF fu w (aR l i).aFz).length) (M:=68719476736) (fun k u hk hu=>by
   unfold uT
   rw [aj3 hw hf]
   exact f7 hu rfl) _ 0 (v++ [aJ.mk (aD.mk (aR l i).aFz (aR l i).aFu) ((i:Nat):Int) []]) rfl (by
   unfold F0 at hv
   rw [List.length_append,List.length_singleton,List.length_map,List.length_range'] at hv
   rw [List.length_append,List.length_singleton]
   omega)
  unfold A8
  refine f7 hB (f7 (by
   unfold F0 at hv
   rw [List.length_append,List.length_singleton] at hv
   rw [List.length_singleton]
   omega) ?_)
  rw [anD hw hf]
  show so (loopN (uT fu w l i v (BF fu w (aR l i).aFz)) ((BF fu w (aR l i).aFz).length-0) 0 _) _=_
  rw [h2]
  unfold F0
  rw [List.append_assoc]
  rfl) _ 0 [] rfl (by
  have:=aiR (fu:=fu) hw hl
  unfold ab5 at this
  rw [List.length_nil,Nat.zero_add,Nat.sub_zero]
  omega)
 unfold w5
 rw [h]
 rfl
end
def wG(l:Z aJ)(g:aD):Int:=match l.findIdx? (fun a=>aD.eq a.aFZ g) with
 |some i=>((i:Nat):Int)
 |none=> -1
theorem Y7(fu:Nat)(a b:aD):wO fu a b=some (aD.eq a b):=by
 obtain⟨n,x⟩:=a
 obtain⟨m,y⟩:=b
 unfold wO
 rw [aD.eq,LU]
 show sw (decide (n=m)) (some (aA.eq x y)) (some false)=_
 cases decide (n=m)<;>rfl
theorem L3(fu:Nat)(l:Z aJ)(g:aD):nZ fu l g=some (wG l g):=by
 unfold nZ gB wG
 rw [tG (p:=fun a=>aD.eq a.aFZ g) (fun i hi=>by
  unfold kE uA
  refine SW rfl ?_
  rw [Y7]
  show sw (aD.eq (aR l i).aFZ g) _ _=_
  cases aD.eq (aR l i).aFZ g<;>rfl)]
 cases l.findIdx? fun a=>aD.eq a.aFZ g<;>rfl
open Go.WalkArith Go.IntWalk Go.WideShapes
theorem Y0{σ α:Type}(P:σ→Prop){g h:σ→α→σ}: ∀ {l:Z α} {v:σ},(∀v x,x∈l→P v→g v x=h v x∧P (g v x))→P v→l.foldl g v=l.foldl h v
 | [],v,_,_=>rfl
 |x::l,v,hs,hv=>by
  obtain⟨e,hp⟩:=hs v x (by simp) hv
  rw [List.foldl_cons,List.foldl_cons,← e]
  exact Y0 P (fun v y hy=>hs v y (List.mem_cons_of_mem _ hy)) hp
theorem aeT{w:aH}: ∀n m out name,SOk w m out→m<n→SO w (n+1) out name=SO w n out name
 |0,m,out,name,_,h=>by omega
 |n+1,m,out,name,h,hn=>by
  rw [SO,SO]
  refine Y0 (SOk w m) (fun v s hs hv=>?_) h
  cases hq:wL v s with
  |true=>exact⟨rfl,hv⟩
  |false=>
   obtain⟨k1,k2,k3⟩:=R5 hv (SQ hs) hq
   refine⟨?_,?_⟩
   ·rw [if_neg (by simp),if_neg (by simp)]
    exact aeT n (m-1) _ s k1 (by omega)
   ·rw [if_neg (by simp)]
    exact(SP (n+1) (m-1) _ s k1).le (by omega)
theorem aeU{w:aH}(hw:wt w≤13000000)(name:Y): ∀k,BF (27000000+k) w name=BF 27000000 w name
 |0=>rfl
 |k+1=>(aeT (27000000+k) 13000000 [] name (XV hw) (by omega)).trans (aeU hw name k)
theorem aqL{fu:Nat}{w:aH}(hw:wt w≤13000000)(hf:27000000≤fu)(l:Z aD):ab5 fu w l=ab5 27000000 w l:=by
 have h:BF fu w=BF 27000000 w:=funext fun name=>by
  have:=aeU hw name (fu-27000000)
  rwa [show 27000000+(fu-27000000)=fu by omega] at this
 unfold ab5 F0
 rw [h]
def M3(w:aH)(l:Z aD):Z aJ:=ab5 27000000 w l
structure NV (w:aH) (l:List aD):Prop where
 hw:wt w≤13000000
 hl:l.length≤1000
 ht: ∀b∈l,gO b.aFu
set_option maxRecDepth 100000 in
theorem af6(w:aH)(l:Z aD)(h:NV w l):asF Tryz.prog 50 [(aH.pv w),b0 l] 145 [aP w.aFr,b5 (M3 w l)]:=by
 have hA:wM 27000000 w l=some (M3 w l):=avD h.hw (Nat.le_refl _) h.hl h.ht
 unfold asF
 refine qI Tryz.func50 (fun C hC=>?_)
 refine gQ 2 ?_;refine q1 (fQ ([aP w.aFr])) (q1 (VG (.inl rfl)) ?_)
 refine gQ 2 ?_;refine dW (dD [2] (b4 [aP w.aFr]) (dD [2] (b4 [aP w.aFr]) (dI [1] bI (dI [6,7] (bJ Tryz.func99 (WV 27000000 w l _ hA)) (dI [5,8] rQ (dE [9] (fQ [aP w.aFr,b5 (M3 w l)]) (dI [10] bI (dN ?_))))))))
 refine dR.ret ?_;exact D1.mk (ps:= [_]) (.inr rfl) ⟨rfl,trivial⟩ rfl (StLe_mk' (st':=⟨[none,some ⟨145,[aP w.aFr,b5 (M3 w l)]⟩],[]⟩) ⟨⟨rfl,mG,rfl⟩,trivial⟩ rfl) (ad8 hC) (q:= .ptr 1 0) (.refl _) rfl ⟨1,rfl,rfl,fun i x hx=>by rcases i with _|_|i<;>simp at hx<;>simp,rfl⟩
end Go.Proofs.YtfcoaagbccmahaaGreat.W
