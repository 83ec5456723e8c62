/- Well-formed types and bounds, as plain functions: both sides answer the same. Conditions: the program and the type are not too great. -/
import Derived.Test.YtpioomclpaiomaaGreatQh2d3bfa3c
import Derived.Test.YtpioomclpaiomaaGreatQh7b7fa178
import Derived.Test.YtpioomclpaiomaaGreatQh73782e98
import Derived.Test.YtpioomclpaiomaaGreatQh270167b8
import Derived.Test.YtpioomclpaiomaaGreatQh38b1491e
import Derived.Test.YtpioomclpaiomaaGreatQhcea472ae
set_option linter.unusedSimpArgs false
set_option linter.unusedVariables false
namespace Go.Proofs.YtpioomclpaiomaaGreat.W
open Go.RowKit Go.Proofs
attribute [local irreducible] lt
def CN(w:aF)(i k:Int):Bool:=RT (sG w i) k
theorem M9{fu:Nat}{w:aF}(hw:wt w≤13000000)(i k:Int):n7 fu w i k=some (CN w i k):=by
 unfold n7
 exact xC hw (jB (U3 fu _ _) rfl)
theorem MH(fu:Nat)(w:aF)(i k:Int):zG fu (bS.mk w (sG w i)) k=some (CN w i k):=by
 have e:RT (sG w i) k=(sG w i).any fun x=>decide (k=x):=by
  unfold RT
  congr 1
  funext x
  exact decide_eq_decide.2 ⟨Eq.symm,Eq.symm⟩
 unfold zG wM DA IV CN
 show bd (bd (so (loopN (A7 fu (sG w i) k) ((sG w i).length-0) 0 ()) _) _) _=_
 rw [tK (p:=fun x=>decide (k=x)) (fun j hj=>by
  unfold A7
  cases decide (k=aW (sG w i) j)<;>rfl),e,← OP]
 cases(sG w i).findIdx? fun x=>decide (k=x)<;>rfl
def TB(w:aF)(i:Int)(s:ByteArray):aP×Bool:=((tOf w s).1,(tOf w s).2.2&&CN w i (tOf w s).2.1)
def daV(w:aF)(i:Int)(s:ByteArray):aH×Bool:=((Y5 w s).1,(Y5 w s).2.2&&CN w i (Y5 w s).2.1)
section
variable {fu:Nat} {w:aF} (hw:wt w≤13000000) (hf:13000000<fu) (i:Int) (s:ByteArray)
include hw hf
theorem Z1:qG fu w i s=some (TB w i s):=by
 unfold qG TB
 refine jB (adA fu w s (aF.small_wt hw hf)) ?_
 obtain⟨t,k,b⟩:=tOf w s
 cases b with
 |true=>exact iG rfl (jB (M9 hw i k) rfl)
 |false=>exact hY rfl rfl
theorem arI:EA fu w i s=some (daV w i s):=by
 unfold EA daV
 refine jB (UX fu w s (aF.small_wt hw hf)) ?_
 obtain⟨t,k,b⟩:=Y5 w s
 cases b with
 |true=>exact iG rfl (jB (M9 hw i k) rfl)
 |false=>exact hY rfl rfl
end
theorem ZH(fu:Nat)(w:aF)(i:Int)(s:ByteArray):uV fu (bS.mk w (sG w i)) s=some (TB w i s):=by
 unfold uV TB
 refine jB (ak4 fu w s) ?_
 obtain⟨t,k,b⟩:=tOf w s
 cases b with
 |true=>exact iG rfl (jB (MH fu w i k) rfl)
 |false=>exact hY rfl rfl
theorem aq4(fu:Nat)(w:aF)(i:Int)(s:ByteArray):MP fu (bS.mk w (sG w i)) s=some (daV w i s):=by
 unfold MP daV
 refine jB (acV fu w s) ?_
 obtain⟨t,k,b⟩:=Y5 w s
 cases b with
 |true=>exact iG rfl (jB (MH fu w i k) rfl)
 |false=>exact hY rfl rfl
mutual
def LT(v:ByteArray):aB→Nat
 | .mk k n xs=>(if k=1 then(if n=v then 1 else 0) else 0)+N7 v xs
def N7(v:ByteArray):List aB→Nat
 | []=>0
 |x::r=>LT v x+N7 v r
end
theorem Y4(v:ByteArray): ∀xs:List aB,(∀x∈xs,LT v x≤wt x+1)→N7 v xs≤wl xs
 | [],_=>Nat.le_refl _
 |x::r,h=>by
  rw [N7,apU]
  have:=h x (by simp)
  have:=Y4 v r fun y hy=>h y (List.mem_cons_of_mem _ hy)
  omega
theorem ajN(v:ByteArray): ∀t:aB,LT v t≤wt t+1:=by
 refine aB.ind fun k n xs ih=>?_
 have h1:=Y4 v xs ih
 have h2:=aB.wt_mk k n xs
 rw [LT]
 split
 ·split<;>omega
 ·omega
theorem TT(v:ByteArray): ∀(xs:List aB) (s:Int),xs.foldl (fun s x=>s+((LT v x:Nat):Int)) s=s+((N7 v xs:Nat):Int)
 | [],s=>by simp [N7]
 |x::r,s=>by
  rw [List.foldl_cons,TT v r,N7]
  omega
theorem aj3(v:ByteArray): ∀(n:Nat) (t:aB),wt t<n→wt t≤1000000000→cT n t v=some ((LT v t:Nat):Int)
 |0,t,h,_=>by omega
 |n+1,.mk k m xs,h,hb=>by
  have h2:=aB.wt_mk k m xs
  have h3:=Y4 v xs fun x _=>ajN v x
  rw [cT,LT]
  unfold mL
  have hC:pJ n (cT n) (.mk k m xs) v=some (.inr (((if k=1 then(if m=v then 1 else 0) else 0:Nat):Nat):Int)):=by
   unfold pJ
   simp only [aB.gKind_mk,aB.gName_mk]
   by_cases h1:k=1
   ·rw [if_pos h1]
    by_cases h5:m=v
    ·rw [if_pos h5];exact iG (decide_eq_true h1) (iG (decide_eq_true h5) rfl)
    ·rw [if_neg h5];exact iG (decide_eq_true h1) (hY (decide_eq_false h5) rfl)
   ·rw [if_neg h1];exact hY (decide_eq_false h1) rfl
  have hi:(if k=1 then(if m=v then 1 else 0) else 0:Nat)≤1:=by
   split
   ·split<;>omega
   ·omega
  generalize(if k=1 then(if m=v then 1 else 0) else 0:Nat)=a at hC hi ⊢
  refine soR hC (soR (s:=((a:Nat):Int)+((N7 v xs:Nat):Int)) ?_ (by rw [Int.natCast_add]))
  unfold uP
  simp only [aB.gArgs_mk]
  rw [FU (l:=xs) (g:=fun s x=>s+((LT v x:Nat):Int)) (fun i s=>0≤s∧s+((N7 v (xs.drop i):Nat):Int)≤2000000000) (fun i s hi2 hp=>?_) ⟨by omega,by rw [List.drop_zero];omega⟩,TT]
  have hx:=b7 xs i hi2
  rw [pR hi2,N7] at hp
  refine⟨?_,by omega,by omega⟩
  unfold uO
  simp only [aB.gArgs_mk]
  refine jB (aj3 v n (aW xs i) (by omega) (by omega)) ?_
  rw [rN (by omega) (by omega)]
theorem ajU(v:ByteArray): ∀(n:Nat) (t:aB) (c:Int),wt t<n→wt t≤1000000000→0≤c→c+((LT v t:Nat):Int)≤3000000000→cA n t v c=some (c+((LT v t:Nat):Int))
 |0,t,c,h,_,_,_=>by omega
 |n+1,.mk k m xs,c,h,hb,h0,hc=>by
  have h2:=aB.wt_mk k m xs
  rw [LT] at hc
  rw [cA,LT]
  unfold iW
  have hC:lI n (.mk k m xs) v c=some (c+(((if k=1 then(if m=v then 1 else 0) else 0:Nat):Nat):Int)):=by
   unfold lI
   simp only [aB.gKind_mk,aB.gName_mk]
   by_cases h1:k=1
   ·rw [if_pos h1] at hc ⊢
    by_cases h5:m=v
    ·rw [if_pos h5] at hc ⊢;exact iG (decide_eq_true h1) (iG (decide_eq_true h5) (by rw [rN (by omega) (by omega)];rfl))
    ·rw [if_neg h5];exact iG (decide_eq_true h1) (hY (decide_eq_false h5) (by simp))
   ·rw [if_neg h1];exact hY (decide_eq_false h1) (by simp)
  generalize(if k=1 then(if m=v then 1 else 0) else 0:Nat)=a at hC hc ⊢
  refine jB hC (soR (s:=c+((a:Nat):Int)+((N7 v xs:Nat):Int)) ?_ (by rw [Int.natCast_add,Int.add_assoc]))
  unfold l0
  simp only [aB.gArgs_mk]
  rw [FU (l:=xs) (g:=fun s x=>s+((LT v x:Nat):Int)) (fun i s=>0≤s∧s+((N7 v (xs.drop i):Nat):Int)≤3000000000) (fun i s hi2 hp=>?_) ⟨by omega,by rw [List.drop_zero];omega⟩,TT]
  have hx:=b7 xs i hi2
  rw [pR hi2,N7] at hp
  refine⟨?_,by omega,by omega⟩
  unfold lZ
  simp only [aB.gArgs_mk]
  exact jB (ajU v n (aW xs i) s (by omega) (by omega) hp.1 (by omega)) rfl
def HQ(v:ByteArray)(t:aB):Bool:=decide (((LT v t:Nat):Int)>0)
theorem aj5{fu:Nat}(hf:27000000≤fu)(v:ByteArray){t:aB}(ht:wt t≤13000000):qB fu v t=some (HQ v t):=by
 unfold qB
 exact jB (aj3 v fu t (by omega) (by omega)) rfl
theorem ajW{fu:Nat}(hf:27000000≤fu)(v:ByteArray){t:aB}(ht:wt t≤13000000):vZ fu v t=some (HQ v t):=by
 have h:=ajN v t
 unfold vZ p5
 refine jB (jB (ajU v fu t 0 (by omega) (by omega) (Int.le_refl _) (by omega)) rfl) ?_
 rw [Int.zero_add]
 rfl
def CG(g:aC):Bool:=HQ dH g.gResult||g.gParams.any (HQ dH)
def TX(t:aP):Bool:= !t.gAssoc&& !t.gSignatures.any CG
theorem apI{fu:Nat}(hf:27000000≤fu){t:aP}(ht:wt t≤13000000):yA fu t=some (TX t):=by
 have hT:=aP.wt_eq t
 unfold yA I7 TX
 rw [Q3 (l:=t.gSignatures) (p:=fun g=> !CG g) (r:=false) (s:=()) (fun i hi=>by
  have hs:=b7 t.gSignatures i hi
  have hg:=aC.wt_eq (aW t.gSignatures i)
  unfold I5
  refine zZ rfl ?_
  generalize aW t.gSignatures i=g at hs hg ⊢
  refine jB (aj5 hf dH (by omega)) ?_
  unfold CG
  cases HQ dH g.gResult with
  |true=>exact iG rfl rfl
  |false=>
   refine hY rfl ?_
   unfold I8
   rw [Q3 (l:=g.gParams) (p:=fun t=> !HQ dH t) (r:=LR.ret false) (s:=()) (fun j hj=>by
    have hp:=b7 g.gParams j hj
    unfold I6
    refine jB (aj5 hf dH (by omega)) ?_
    cases HQ dH (aW g.gParams j)<;>rfl)]
   rw [Bool.false_or]
   have e:(g.gParams.all fun t=> !HQ dH t)= !g.gParams.any (HQ dH):=by simp [List.all_eq_not_any_not]
   rw [e]
   cases g.gParams.any (HQ dH)<;>rfl)]
 have e:(t.gSignatures.all fun g=> !CG g)= !t.gSignatures.any CG:=by simp [List.all_eq_not_any_not]
 rw [e]
 cases t.gSignatures.any CG<;>cases t.gAssoc<;>rfl
theorem anH{fu:Nat}(hf:27000000≤fu){g:aC}(hg:wt g≤13000000):sN fu g=some (CG g):=by
 have hG:=aC.wt_eq g
 unfold sN CG
 refine jB (ajW hf dH (by omega)) ?_
 cases HQ dH g.gResult with
 |true=>exact iG rfl rfl
 |false=>
  refine hY rfl ?_
  have h1:fN fu g.gParams=some (match g.gParams.findIdx? (HQ dH) with|some i=>((i:Nat):Int)|none=> -1):=by
   unfold fN lM
   rw [tK (l:=g.gParams) (p:=HQ dH) (fun j hj=>by
    have hp:=b7 g.gParams j hj
    unfold lL t2
    refine jB (jB (ajW hf dH (by omega)) rfl) ?_
    cases HQ dH (aW g.gParams j)<;>rfl)]
   cases g.gParams.findIdx? (HQ dH)<;>rfl
  refine jB (show eZ fu g.gParams=some (g.gParams.any (HQ dH)) from ?_) (by rw [Bool.false_or])
  unfold eZ
  exact jB h1 (congrArg some OP)
theorem ao6{fu:Nat}(hf:27000000≤fu){t:aP}(ht:wt t≤13000000):xS fu t=some (TX t):=by
 have hT:=aP.wt_eq t
 unfold xS TX
 cases t.gAssoc with
 |true=>exact hY rfl rfl
 |false=>
  refine iG rfl ?_
  have h1:e7 fu t.gSignatures=some (match t.gSignatures.findIdx? CG with|some i=>((i:Nat):Int)|none=> -1):=by
   unfold e7 kH
   rw [tK (l:=t.gSignatures) (p:=CG) (fun j hj=>by
    have hp:=b7 t.gSignatures j hj
    unfold kG
    refine zZ rfl (jB (anH hf (by omega)) ?_)
    cases CG (aW t.gSignatures j)<;>rfl)]
   cases t.gSignatures.findIdx? CG<;>rfl
  refine jB (show eG fu t.gSignatures=some (t.gSignatures.any CG) from ?_) rfl
  unfold eG
  exact jB h1 (congrArg some OP)
def akX(w:aF)(i:Int)(s:ByteArray):Int:=if(TB w i s).2=true then(if TX (TB w i s).1=true then 0 else 5) else 3
def FI(w:aF)(i:Int)(t:aB):Int:=
 if t.gKind=1 then 0 else if t.gKind=4 then akX w i t.gName
 else if t.gKind=3 then(if(TB w i t.gName).2=true then(if(TB w i t.gName).1.gAssoc=true then 0 else 4) else 3)
 else if t.gKind=2 then(if t.gName=fC then 0 else if t.gName=eX then 0 else if(daV w i t.gName).2=true then(if(daV w i t.gName).1.gVars.length=t.gArgs.length then 0 else 2) else 1)
 else 1
section
variable {fu:Nat} {w:aF} (hw:wt w≤13000000) (hf:27000000≤fu) (i:Int)
include hw hf
theorem ac7(s:ByteArray):CS fu w i s=some (akX w i s):=by
 have ht:wt (TB w i s).1≤13000000:=ajF hw
 unfold CS akX
 refine jB (Z1 hw (by omega) i s) ?_
 generalize TB w i s=q at ht ⊢
 obtain⟨t,b⟩:=q
 cases b with
 |false=>exact iG rfl rfl
 |true=>
  refine hY rfl (jB (apI hf ht) ?_)
  rw [if_pos rfl]
  show sw (!TX t) _ _=some (if TX t=true then 0 else 5)
  cases TX t<;>rfl
theorem acQ(s:ByteArray):t4 fu (bS.mk w (sG w i)) s=some (akX w i s):=by
 have ht:wt (TB w i s).1≤13000000:=ajF hw
 unfold t4 akX
 refine jB (ZH fu w i s) ?_
 generalize TB w i s=q at ht ⊢
 obtain⟨t,b⟩:=q
 cases b with
 |false=>exact iG rfl rfl
 |true=>
  refine hY rfl (jB (ao6 hf ht) ?_)
  rw [if_pos rfl]
  show sw (!TX t) _ _=some (if TX t=true then 0 else 5)
  cases TX t<;>rfl
theorem an2(t:aB):EC fu w i t=some (FI w i t):=by
 unfold EC FI
 by_cases h1:t.gKind=1
 ·rw [if_pos h1];exact iG (decide_eq_true h1) rfl
 rw [if_neg h1]
 refine hY (decide_eq_false h1) ?_
 by_cases h4:t.gKind=4
 ·rw [if_pos h4];exact iG (decide_eq_true h4) (jB (ac7 hw hf i t.gName) rfl)
 rw [if_neg h4]
 refine hY (decide_eq_false h4) ?_
 by_cases h3:t.gKind=3
 ·rw [if_pos h3]
  refine iG (decide_eq_true h3) (jB (Z1 hw (by omega) i t.gName) ?_)
  obtain⟨x,b⟩:=TB w i t.gName
  cases b with
  |false=>exact iG rfl rfl
  |true=>
   refine hY rfl ?_
   rw [if_pos rfl]
   show sw (!x.gAssoc) _ _=some (if x.gAssoc=true then 0 else 4)
   cases x.gAssoc<;>rfl
 rw [if_neg h3]
 refine hY (decide_eq_false h3) ?_
 by_cases h2:t.gKind=2
 ·rw [if_pos h2]
  refine iG (decide_eq_true h2) ?_
  unfold yN
  by_cases n1:t.gName=fC
  ·rw [if_pos n1];exact jB (iG (decide_eq_true n1) rfl) (iG rfl rfl)
  rw [if_neg n1]
  refine jB (hY (decide_eq_false n1) rfl) ?_
  by_cases n2:t.gName=eX
  ·rw [if_pos n2];exact iG (decide_eq_true n2) rfl
  rw [if_neg n2]
  refine hY (decide_eq_false n2) (jB (arI hw (by omega) i t.gName) ?_)
  obtain⟨d,b⟩:=daV w i t.gName
  cases b with
  |false=>exact iG rfl rfl
  |true=>
   refine hY rfl ?_
   rw [if_pos rfl]
   show _=some (if d.gVars.length=t.gArgs.length then 0 else 2)
   by_cases hl:d.gVars.length=t.gArgs.length
   ·rw [if_pos hl];exact hY (by rw [decide_eq_true (by rw [hl])];rfl) rfl
   ·rw [if_neg hl];exact iG (by rw [decide_eq_false (by omega)];rfl) rfl
 rw [if_neg h2]
 exact hY (decide_eq_false h2) rfl
theorem anG(t:aB):xU fu (bS.mk w (sG w i)) t=some (FI w i t):=by
 unfold xU FI
 by_cases h1:t.gKind=1
 ·rw [if_pos h1];exact iG (decide_eq_true h1) rfl
 rw [if_neg h1]
 refine hY (decide_eq_false h1) ?_
 by_cases h2:t.gKind=2
 ·rw [if_neg (by omega),if_neg (by omega),if_pos h2]
  refine iG (decide_eq_true h2) ?_
  unfold DH
  by_cases n1:t.gName=fC
  ·rw [if_pos n1];exact jB (iG (decide_eq_true n1) rfl) (iG rfl rfl)
  rw [if_neg n1]
  refine jB (hY (decide_eq_false n1) rfl) ?_
  by_cases n2:t.gName=eX
  ·rw [if_pos n2];exact iG (decide_eq_true n2) rfl
  rw [if_neg n2]
  refine hY (decide_eq_false n2) (jB (aq4 fu w i t.gName) ?_)
  obtain⟨d,b⟩:=daV w i t.gName
  cases b with
  |false=>exact iG rfl rfl
  |true=>
   refine hY rfl ?_
   rw [if_pos rfl]
   show _=some (if d.gVars.length=t.gArgs.length then 0 else 2)
   by_cases hl:d.gVars.length=t.gArgs.length
   ·rw [if_pos hl];exact hY (by rw [decide_eq_true (by rw [hl])];rfl) rfl
   ·rw [if_neg hl];exact iG (by rw [decide_eq_false (by omega)];rfl) rfl
 refine hY (decide_eq_false h2) ?_
 by_cases h3:t.gKind=3
 ·rw [if_neg (by omega),if_pos h3]
  refine iG (decide_eq_true h3) (jB (ZH fu w i t.gName) ?_)
  obtain⟨x,b⟩:=TB w i t.gName
  cases b with
  |false=>exact iG rfl rfl
  |true=>
   refine hY rfl ?_
   rw [if_pos rfl]
   show sw (!x.gAssoc) _ _=some (if x.gAssoc=true then 0 else 4)
   cases x.gAssoc<;>rfl
 refine hY (decide_eq_false h3) ?_
 by_cases h4:t.gKind=4
 ·rw [if_pos h4];exact iG (decide_eq_true h4) (jB (acQ hw hf i t.gName) rfl)
 rw [if_neg h4,if_neg h3,if_neg h2]
 exact hY (decide_eq_false h4) rfl
end
mutual
def yX(w:aF)(i:Int):aB→Int
 | .mk k n xs=>if FI w i (.mk k n xs)=0 then N6 w i xs else FI w i (.mk k n xs)
def N6(w:aF)(i:Int):List aB→Int
 | []=>0
 |x::r=>if yX w i x=0 then N6 w i r else yX w i x
end
theorem X0{w:aF}{i:Int}: ∀ {xs:List aB},N6 w i xs=0→ ∀x∈xs,yX w i x=0
 |y::r,h,x,hx=>by
  rw [N6] at h
  by_cases hy:yX w i y=0
  ·rw [if_pos hy] at h
   rcases List.mem_cons.1 hx with rfl|hx
   ·exact hy
   ·exact X0 h x hx
  ·rw [if_neg hy] at h
   exact absurd h hy
theorem akV{w:aF}{i:Int}{t:aB}(h:yX w i t=0): ∀x∈t.gArgs,yX w i x=0:=by
 obtain⟨k,n,xs⟩:=t
 rw [yX] at h
 split at h
 ·exact X0 h
 ·rename_i hn
  exact absurd h hn
theorem DN{β α:Type}[Inhabited α]{F:Nat→Int→Option (LR Int β)}{l:List α}{g:α→Int}{gl:List α→Int}(h0:gl []=0)(hc: ∀x r,gl (x::r)=if g x=0 then gl r else g x)(hs: ∀i,i<l.length→F i 0=some (.next (g (aW l i))))(hb: ∀i c,i<l.length→c≠0→F i c=some (.brk c)):
 ∀k i,l.length-i=k→loopN F k i 0=some (.inr (gl (l.drop i)))
 |0,i,hk=>by rw [loopN,List.drop_of_length_le (by omega),h0]
 |k+1,i,hk=>by
  have hi:i<l.length:=by omega
  rw [loopN,hs i hi,pR hi,hc]
  by_cases h:g (aW l i)=0
  ·rw [if_pos h]
   show loopN F k (i+1) (g (aW l i))=_
   rw [h]
   exact DN h0 hc hs hb k (i+1) (by omega)
  ·rw [if_neg h]
   show loopN F k (i+1) (g (aW l i))=_
   cases k with
   |zero=>rw [loopN]
   |succ k=>rw [loopN,hb (i+1) _ (by omega) h]
section
variable {w:aF} (hw:wt w≤13000000) (i:Int)
include hw
theorem aj2: ∀(n:Nat) (t:aB),27000000+wt t<n→hL n w i t=some (yX w i t)
 |0,t,h=>by omega
 |n+1,.mk k m xs,h=>by
  have h2:=aB.wt_mk k m xs
  rw [hL,yX]
  unfold DR
  refine jB (an2 hw (by omega) i _) ?_
  unfold I2
  simp only [aB.gArgs_mk]
  by_cases hz:FI w i (.mk k m xs)=0
  ·rw [if_pos hz,hz]
   rw [DN (l:=xs) (g:=yX w i) (gl:=N6 w i) (by rw [N6]) (fun x r=>by rw [N6]) (fun j hj=>by
    have hx:=b7 xs j hj
    unfold sC
    simp only [aB.gArgs_mk]
    exact iG rfl (jB (aj2 n (aW xs j) (by omega)) rfl)) (fun j c hj hc=>by
    unfold sC
    exact hY (decide_eq_false hc) rfl) _ 0 rfl,List.drop_zero]
   rfl
  ·rw [if_neg hz]
   cases hq:xs.length-0 with
   |zero=>rw [loopN];rfl
   |succ q=>
    rw [loopN]
    have:sC n (hL n) w i (.mk k m xs) (FI w i (.mk k m xs)) 0 (FI w i (.mk k m xs))=some (.brk (FI w i (.mk k m xs))):=by
     unfold sC
     exact hY (decide_eq_false hz) rfl
    rw [this]
    rfl
theorem S3: ∀(n:Nat),(∀t:aB,27000001+2*wt t<n→eW n (bS.mk w (sG w i)) t=some (yX w i t))∧(∀l:List aB,27000000+2*wl l<n→gO n (bS.mk w (sG w i)) l=some (N6 w i l))
 |0=>⟨fun t h=>by omega,fun l h=>by omega⟩
 |n+1=>by
  obtain⟨ih1,ih2⟩:=S3 n
  refine⟨fun t h=>?_,fun l h=>?_⟩
  ·obtain⟨k,m,xs⟩:=t
   have h2:=aB.wt_mk k m xs
   rw [eW,yX]
   unfold BC
   refine jB (anG hw (by omega) i _) ?_
   by_cases hz:FI w i (.mk k m xs)=0
   ·rw [if_pos hz]
    exact hY (by rw [decide_eq_true hz];rfl) (jB (ih2 xs (by omega)) rfl)
   ·rw [if_neg hz]
    exact iG (by rw [decide_eq_false hz];rfl) rfl
  ·rw [gO]
   unfold zF EM
   have key: ∀k j,l.length-j=k→loopN (sO n (eW n) (gO n) (bS.mk w (sG w i)) l) k j ()=some (if N6 w i (l.drop j)=0 then .inr () else .inl (N6 w i (l.drop j))):=by
    intro k
    induction k with
    |zero=>
     intro j hj
     rw [loopN,List.drop_of_length_le (by omega),N6]
     rfl
    |succ k ihk=>
     intro j hj
     have hi:j<l.length:=by omega
     have hx:=b7 l j hi
     have e:sO n (eW n) (gO n) (bS.mk w (sG w i)) l j ()=some (if yX w i (aW l j)=0 then .next () else .ret (yX w i (aW l j))):=by
      unfold sO
      refine jB (ih1 (aW l j) (by omega)) ?_
      by_cases hz:yX w i (aW l j)=0
      ·rw [if_pos hz]
       exact hY (by rw [decide_eq_true hz];rfl) rfl
      ·rw [if_neg hz]
       exact iG (by rw [decide_eq_false hz];rfl) rfl
     rw [loopN,e,pR hi,N6]
     by_cases hz:yX w i (aW l j)=0
     ·rw [if_pos hz,if_pos hz]
      exact ihk (j+1) (by omega)
     ·rw [if_neg hz,if_neg hz,if_neg hz]
   rw [key _ 0 rfl,List.drop_zero]
   by_cases hz:N6 w i l=0
   ·rw [if_pos hz,hz];rfl
   ·rw [if_neg hz];rfl
end
def am7(w:aF)(i:Int)(b:aM):Int:=if(TB w i b.gTrait).2=true then yX w i b.gType else 3
section
variable {fu:Nat} {w:aF} (hw:wt w≤13000000) (hf:270000000≤fu) (i:Int)
include hw hf
theorem UW{t:aB}(ht:wt t≤13000000):hL fu w i t=some (yX w i t):=aj2 hw i fu t (by omega)
theorem acP{t:aB}(ht:wt t≤13000000):tY fu w i t=some (yX w i t):=by
 unfold tY uU
 exact jB (xC hw rfl) (jB ((S3 hw i fu).1 t (by omega)) rfl)
theorem an0{b:aM}(hb:wt b.gType≤13000000):vL fu w i b=some (am7 w i b):=by
 unfold vL am7
 refine jB (Z1 hw (by omega) i b.gTrait) ?_
 obtain⟨t,c⟩:=TB w i b.gTrait
 cases c with
 |false=>exact iG rfl rfl
 |true=>exact hY rfl (jB (UW hw hf i hb) rfl)
theorem anE{b:aM}(hb:wt b.gType≤13000000):vI fu w i b=some (am7 w i b):=by
 unfold vI uU
 refine jB (xC hw rfl) (jB (show t3 fu (bS.mk w (sG w i)) b=some (am7 w i b) from ?_) rfl)
 unfold t3 am7
 refine jB (ZH fu w i b.gTrait) ?_
 obtain⟨t,c⟩:=TB w i b.gTrait
 cases c with
 |false=>exact iG rfl rfl
 |true=>exact hY rfl (jB ((S3 hw i fu).1 b.gType (by omega)) rfl)
end
end Go.Proofs.YtpioomclpaiomaaGreat.W
