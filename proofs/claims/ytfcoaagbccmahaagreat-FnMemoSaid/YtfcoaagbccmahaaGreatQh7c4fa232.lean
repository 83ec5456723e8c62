/- Words, rules and walks of several kinds, laid together: WSolP, WEv, WAuto, WSolve, WCopyC, Slot, MaLMemo, OkG, WLMemo. No conditions but those that each theorem states. -/
import Derived.Test.YtfcoaagbccmahaaGreatQhfea6c720
import Derived.Test.YtfcoaagbccmahaaGreatQh524c6f93
import Derived.Test.YtfcoaagbccmahaaGreatQh43cb035d
import Derived.Test.YtfcoaagbccmahaaGreatQhb99b45eb
import Derived.Test.YtfcoaagbccmahaaGreatQhfd937320
import Derived.Test.YtfcoaagbccmahaaGreatQh4b16361d
set_option linter.unusedSimpArgs false
set_option linter.unusedVariables false
namespace Go.Proofs.YtfcoaagbccmahaaGreat.W
open Go.RowKit Go.WalkArith Go.Proofs
attribute [local irreducible] lt
def ad0(Q:aA→Prop)(R:Int→ByteArray→Nat→Prop):Prop:= ∀k n xs,Q (.mk k n xs)↔R k n xs.length∧ ∀x∈xs,Q x
def RU(U:LB)(k:Int)(n:ByteArray)(m:Nat):Prop:=(k=1→n∈U)∧m≤68719476735
theorem EY(U:LB):ad0 (Gd U) (RU U):=fun k n xs=>by
 rw [Gd,wZ]
 unfold RU
 constructor
 ·rintro⟨h1,h2,h3⟩;exact⟨⟨h1,h2⟩,h3⟩
 ·rintro⟨⟨h1,h2⟩,h3⟩;exact⟨h1,h2,h3⟩
section
variable {Q:aA→Prop} {R:Int→ByteArray→Nat→Prop}
theorem ad0.args(hQ:ad0 Q R){t:aA}(h:Q t): ∀x∈t.aBt,Q x:=by
 obtain⟨k,n,xs⟩:=t
 exact((hQ k n xs).1 h).2
def BQ(Q:aA→Prop)(l:List aJ):Prop:= ∀b∈l,Q b.aBu
theorem BQ.nil:BQ Q []:=fun b hb=>by simp at hb
theorem ae2: ∀(ps:List aA),(∀x∈ps,∀t s s',jY x t s=some s'→BQ Q s→Q t→BQ Q s')→ ∀ts s s',lW ps ts s=some s'→BQ Q s→(∀t∈ts,Q t)→BQ Q s'
 | [],_,ts,s,s',h,hb,_=>by
  rw [lW] at h
  obtain rfl:=Option.some.inj h
  exact hb
 |p::ps,hp,ts,s,s',h,hb,ht=>by
  cases ts with
  |nil=>simp [lW] at h
  |cons t ts=>
   rw [lW] at h
   cases hq:jY p t s with
   |none=>rw [hq] at h;cases h
   |some s1=>
    rw [hq] at h
    exact ae2 ps (fun x hx=>hp x (List.mem_cons_of_mem _ hx)) ts s1 s' h (hp p (by simp) t s s1 hq hb (ht t (by simp))) (fun x hx=>ht x (List.mem_cons_of_mem _ hx))
theorem anV(hQ:ad0 Q R): ∀(p t:aA) (s s':List aJ),jY p t s=some s'→BQ Q s→Q t→BQ Q s':=by
 refine aA.ind fun k n ps ih t s s' h hb ht=>?_
 rw [jY] at h
 split at h
 ·split at h
  ·split at h
   ·obtain rfl:=Option.some.inj h
    exact hb
   ·cases h
  ·obtain rfl:=Option.some.inj h
   intro b hb'
   rcases List.mem_append.1 hb' with h1|h1
   ·exact hb b h1
   ·obtain rfl:=List.mem_singleton.1 h1
    exact ht
 ·split at h
  ·split at h
   ·split at h
    ·exact ae2 ps ih _ _ _ h hb (hQ.args ht)
    ·cases h
   ·cases h
  ·cases h
theorem ME(hQ:ad0 Q R)(p t:aA)(ht:Q t):BQ Q (jE p t):=by
 unfold jE
 cases hq:jY p t [] with
 |none=>exact BQ.nil
 |some s=>exact anV hQ p t [] s hq BQ.nil ht
theorem ad7(hQ:ad0 Q R){l:List aJ}(hl:BQ Q l): ∀t,Q t→Q (lD l t):=by
 refine aA.ind fun k n xs ih h=>?_
 have h1:=(hQ k n xs).1 h
 have h2:Q (.mk k n (GZ l xs)):=by
  rw [hQ,ES,List.length_map]
  refine⟨h1.1,fun y hy=>?_⟩
  obtain⟨x,hx,rfl⟩:=List.mem_map.1 hy
  exact ih x hx (h1.2 x hx)
 rw [lD]
 split
 ·split
  ·rename_i hk
   unfold HW DB at hk
   unfold CT DB
   cases hq:l.find? fun b=>decide (b.aB9=n) with
   |none=>rw [hq] at hk;cases hk
   |some b=>exact hl b (List.mem_of_find?_eq_some hq)
  ·exact h2
 ·exact h2
end
mutual
def szT:aA→Int
 | .mk _ _ xs=>szL 1 xs
def szL:Int→List aA→Int
 |a,[]=>a
 |a,x::l=>szL (aZ (a+szT x)) l
end
theorem XG: ∀(l:List aA) (a:Int),szL a l=l.foldl (fun a x=>aZ (a+szT x)) a
 | [],a=>rfl
 |x::l,a=>by rw [szL,XG l,List.foldl_cons]
def UN(vs:LB)(ts:List aA):List aJ:=(List.range' 0 vs.length).map fun i=>aJ.mk (aT vs i) (aT ts i)
theorem aaY{Q:aA→Prop}{vs:LB}{ts:List aA}(hl:vs.length=ts.length)(ht: ∀t∈ts,Q t):BQ Q (UN vs ts):=fun b hb=>by
 obtain⟨i,hi,rfl⟩:=List.mem_map.1 hb
 rw [List.mem_range'_1] at hi
 exact ht _ (cE (by omega))
theorem akD{U:LB}(hU:U.length≤68719476736){l:List aJ}(h:BQ (Gd U) l):qP l:=fun b hb=>⟨U,hU,h b hb⟩
def aqJ(n:ByteArray):Bool:=decide (n=eU)||decide (n=eE)
def sQ{α:Type}(f:α→Int):List α→Int
 | []=>0
 |t::l=>if f t=0 then sQ f l else f t
def uG(w:aH)(t:aA):Bool:=decide (t.aBw=2)&&((J3 w t.aBs).2.2&&decide ((J3 w t.aBs).1.aBF.length=t.aBt.length))
def EV(b:Bool)(t:aA):Bool:=decide (t.aBw=2)&&(aqJ t.aBs&&(b||decide (t.aBt.length=0)))
def TR(w:aH)(t f:aA):aA:=lD (UN (J3 w t.aBs).1.aBF t.aBt) f
def uF(b:Bool)(w:aH)(l:List aK)(tr:ByteArray):Nat→List aA→aA→Int
 |0,_,_=>3
 |k+1,op,t=>
  bif EV b t then 0 else
  bif decide (uC l (.mk tr t)≥0) then 0 else
  bif !uG w t then 1 else
  bif op.any (fun u=>aA.eq u t) then 0 else
  bif decide (30<op.length)||decide (szT t>400) then 3 else
  sQ (fun c=>sQ (fun f=>uF b w l tr k (op++ [t]) (TR w t f)) (aE.aBM c)) (J3 w t.aBs).1.aBx
def zEv:aC:= .mk 0 0 (.mk 0 0) []
def VN(out:aC)(n:Int):aC:= .mk 3 n (.mk 0 0) [out]
def aeZ(x:aC)(steps:List Int):aC:=steps.foldl VN x
def C9(f:aD→aC×Int):List aD→List aC→List aC×Int
 | [],out=>(out,0)
 |b::r,out=>if(f b).2=0 then C9 f r (out++ [(f b).1]) else([],(f b).2)
def arR(l:List aK)(g:aD):aC:=aeZ (.mk 2 (aT l (uC l g).toNat).aB7 (.mk 0 0) []) (aT l (uC l g).toNat).aB8
def RZ(w:aH)(o:aF)(g b:aD):aD:= .mk b.aBz (lD (jE (cJ w o).aBH g.aBu) b.aBu)
def kA(b:Bool)(w:aH)(l:List aK):Nat→aD→aC×Int
 |0,g=>bif decide (uC l g≥0) then(arR l g,0) else(zEv,3)
 |k+1,g=>
  bif decide (uC l g≥0) then(arR l g,0) else
  bif (tC w g.aBz).1.aB1 then(if uF b w l g.aBz 32 [] g.aBu=0 then(.mk 5 0 (.mk 0 0) [],0) else(zEv,uF b w l g.aBz 32 [] g.aBu)) else
  bif decide (g.aBu.aBw=1)||decide (g.aBu.aBw=3) then(zEv,1) else
  bif decide (g.aBu.aBw=4)&&(kB w 8 g.aBu.aBs g.aBz).2 then(aeZ (.mk 4 0 (.mk 0 0) []) (kB w 8 g.aBu.aBs g.aBz).1,0) else
  if(f7 w g).2=0 then
   (if(C9 (fun x=>kA b w l k (RZ w (f7 w g).1 g x)) (cJ w (f7 w g).1).aBK []).2=0 then
    (.mk 1 0 (f7 w g).1 (C9 (fun x=>kA b w l k (RZ w (f7 w g).1 g x)) (cJ w (f7 w g).1).aBK []).1,0)
   else(zEv,(C9 (fun x=>kA b w l k (RZ w (f7 w g).1 g x)) (cJ w (f7 w g).1).aBK []).2))
  else(zEv,(f7 w g).2)
structure WQ (Q:aA→Prop) (w:aH):Prop where
 wh: ∀o,uN w o→ ∀b∈(cJ w o).aBK,Q b.aBu
 fl: ∀n,∀c∈(J3 w n).1.aBx,∀f∈c.aBM,Q f
 ac: ∀o,uN w o→Q (cJ w o).aBR
def aiB(x:aL):LB:=(x.aBK.flatMap fun b=>EB b.aBu)++EB x.aBR
def al8(d:aO):LB:=d.aBx.flatMap fun c=>c.aBM.flatMap EB
def ae5(w:aH):LB:=w.aBr.flatMap fun p=>p.aBE.flatMap aiB++p.aBA.flatMap al8
theorem AI{α β:Type}[Wt α](f:α→List β)(h: ∀x,(f x).length≤wt x+1): ∀l:List α,(l.flatMap f).length≤wl l
 | []=>Nat.zero_le _
 |x::l=>by
  rw [List.flatMap_cons,List.length_append,adF]
  have:=h x
  have:=AI f h l
  omega
theorem abK(t:aA):(EB t).length≤wt t+1:=by
 have h:=ae9 t
 rw [NO] at h
 omega
theorem anY(w:aH):(ae5 w).length≤wt w:=by
 have hI: ∀x:aL,(aiB x).length≤wt x+1:=fun x=>by
  have h1:=AI (fun b:aD=>EB b.aBu) (fun b=>by
   have:=abK b.aBu
   have:=aD.wt_eq b
   show(EB b.aBu).length≤_
   omega) x.aBK
  have h2:=abK x.aBR
  have h3:=aL.wt_eq x
  unfold aiB
  rw [List.length_append]
  omega
 have hD: ∀d:aO,(al8 d).length≤wt d+1:=fun d=>by
  have h1:=AI (fun c:aE=>c.aBM.flatMap EB) (fun c=>by
   have h2:=AI EB abK c.aBM
   have:=aE.wt_eq c
   show(c.aBM.flatMap EB).length≤_
   omega) d.aBx
  have:=aO.wt_eq d
  unfold al8
  omega
 have h:=AI (fun p:aN=>p.aBE.flatMap aiB++p.aBA.flatMap al8) (fun p=>by
  have h1:=AI aiB hI p.aBE
  have h2:=AI al8 hD p.aBA
  have:=aN.wt_eq p
  show(p.aBE.flatMap aiB++p.aBA.flatMap al8).length≤_
  rw [List.length_append]
  omega) w.aBr
 have:=aH.wt_eq w
 unfold ae5
 omega
theorem akE(w:aH)(n:ByteArray):(J3 w n).1=aO.mk s_ [] []∨ ∃p∈w.aBr,(J3 w n).1∈p.aBA:=by
 unfold J3
 cases hq:(List.range' 0 w.aBr.length).findSome? (dQ w n) with
 |none=>exact .inl rfl
 |some r=>
  obtain⟨i,hi,hq⟩:=List.exists_of_findSome?_eq_some hq
  unfold dQ at hq
  obtain⟨k,hk,hq⟩:=List.exists_of_findSome?_eq_some hq
  rw [List.mem_range'_1] at hi hk
  split at hq
  ·cases hq
   exact .inr ⟨_,cE (by omega:i<w.aBr.length),cE (by omega:k<(aT w.aBr i).aBA.length)⟩
  ·cases hq
theorem VG{w:aH}{o:aF}(h:uN w o): ∃p∈w.aBr,cJ w o∈p.aBE:=by
 obtain⟨i,k,rfl,hi,hk⟩:=h
 exact⟨_,cE hi,cE (l:=(aT w.aBr i).aBE) hk⟩
theorem WQ.of{Q:aA→Prop}{w:aH}(hI: ∀p∈w.aBr,∀x∈p.aBE,(∀b∈x.aBK,Q b.aBu)∧Q x.aBR)(hD: ∀p∈w.aBr,∀d∈p.aBA,∀c∈d.aBx,∀f∈c.aBM,Q f):WQ Q w where
 wh:=fun o ho=>by obtain⟨p,hp,hx⟩:=VG ho;exact(hI p hp _ hx).1
 fl:=fun n c hc f hf=>by
  rcases akE w n with h|⟨p,hp,hd⟩
  ·rw [h] at hc;simp at hc
  ·exact hD p hp _ hd c hc f hf
 ac:=fun o ho=>by obtain⟨p,hp,hx⟩:=VG ho;exact(hI p hp _ hx).2
theorem ag7{w:aH}(hw:wt w≤13000000){V:LB}:WQ (Gd (ae5 w++V)) w:=by
 have key: ∀t:aA,wt t≤13000000→(∀n∈EB t,n∈ae5 w)→Gd (ae5 w++V) t:=fun t ht hn=>
  (Gd.own t (by rw [NO];omega)).mono (fun n h=>List.mem_append_left _ (hn n h)) t
 have hP: ∀p∈w.aBr,wt p≤13000000:=fun p hp=>by
  have:=aH.wt_eq w
  have:=C2 hp
  omega
 refine WQ.of (fun p hp x hx=>?_) (fun p hp d hd c hc f hf=>?_)
 ·have h1:=hP p hp
  have h2:=aN.wt_eq p
  have h3:=C2 hx
  have h4:=aL.wt_eq x
  have hin: ∀n∈aiB x,n∈ae5 w:=fun n hn=>List.mem_flatMap.2 ⟨p,hp,List.mem_append_left _ (List.mem_flatMap.2 ⟨x,hx,hn⟩)⟩
  refine⟨fun b hb=>key _ ?_ fun n hn=>hin n (List.mem_append_left _ (List.mem_flatMap.2 ⟨b,hb,hn⟩)),key _ (by omega) fun n hn=>hin n (List.mem_append_right _ hn)⟩
  have h5:=C2 hb
  have h6:=aD.wt_eq b
  omega
 ·have h1:=hP p hp
  have h2:=aN.wt_eq p
  have h3:=C2 hd
  have h4:=aO.wt_eq d
  have h5:=C2 hc
  have h6:=aE.wt_eq c
  have h7:=C2 hf
  refine key _ (by omega) fun n hn=>List.mem_flatMap.2 ⟨p,hp,List.mem_append_right _ (List.mem_flatMap.2 ⟨d,hd,List.mem_flatMap.2 ⟨c,hc,List.mem_flatMap.2 ⟨f,hf,hn⟩⟩⟩)⟩
theorem aoL{Q:aA→Prop}{R:Int→ByteArray→Nat→Prop}(hQ:ad0 Q R){w:aH}(hW:WQ Q w){o:aF}(ho:uN w o){g b:aD}(hg:Q g.aBu)(hb:b∈(cJ w o).aBK):Q (RZ w o g b).aBu:=
 ad7 hQ (ME hQ _ _ hg) _ (hW.wh o ho b hb)
theorem aq9{Q:aA→Prop}{R:Int→ByteArray→Nat→Prop}(hQ:ad0 Q R){w:aH}(hW:WQ Q w){t:aA}(ht:Q t)(hc:uG w t=true){c:aE}(hm:c∈(J3 w t.aBs).1.aBx){f:aA}(hf:f∈c.aBM):Q (TR w t f):=by
 unfold uG at hc
 rw [Bool.and_eq_true,Bool.and_eq_true,decide_eq_true_eq,decide_eq_true_eq] at hc
 exact ad7 hQ (aaY hc.2.2 (hQ.args ht)) _ (hW.fl _ c hm f hf)
theorem OX{w:aH}{g:aD}(h:(f7 w g).2=0):uN w (f7 w g).1:=by
 unfold f7 at h ⊢
 cases hq:(fV w g).find? fun o=> !xX w (fV w g) o with
 |none=>rw [hq] at h;cases h
 |some o=>
  rw [hq] at h
  show uN w (CU w g o).1
  replace h:(CU w g o).2=0:=h
  unfold CU at h ⊢
  cases hp:(cJ w o).aBX&& !iQ g.aBu with
  |true=>rw [hp] at h;cases h
  |false=>exact DE (List.mem_of_find?_eq_some hq)
end Go.Proofs.YtfcoaagbccmahaaGreat.W

namespace Go.Proofs.YtfcoaagbccmahaaGreat.W
open Go.RowKit Go.WalkArith Go.Proofs
attribute [local irreducible] lt
theorem OW: ∀t:aA,bS fun fu=>mP fu t=some (szT t):=by
 refine aA.ind fun k n xs ih=>?_;refine bS.succ ((bS.list ih).imp fun fu hf=>?_)
 simp only [mP,H9,aA.aBt.eq_1]
 rw [kM (l:=xs) (g:=fun a x=>aZ (a+szT x)) (fun _ _=>True) (fun i s hi _=>⟨?_,trivial⟩) trivial,szT,XG]
 ·rfl
 ·rw [OV]
  exact hY (hf _ (cE hi)) rfl
theorem OA: ∀t:aA,bS fun fu=>mG fu t=some (szT t):=by
 refine aA.ind fun k n xs ih=>?_;refine bS.succ ((bS.list ih).imp fun fu hf=>?_)
 simp only [mG,HF,aA.aBt.eq_1]
 rw [kM (l:=xs) (g:=fun a x=>aZ (a+szT x)) (fun _ _=>True) (fun i s hi _=>⟨?_,trivial⟩) trivial,szT,XG]
 ·rfl
 ·rw [N9]
  exact hY (hf _ (cE hi)) rfl
mutual
def CK:aC→Prop
 | .mk _ _ _ xs=>xs.length≤68719476735∧adK xs
def adK:List aC→Prop
 | []=>True
 |x::l=>CK x∧adK l
end
theorem ZF: ∀ {l:List aC},adK l↔ ∀x∈l,CK x
 | []=>by simp [adK]
 |a::l=>by rw [adK,ZF (l:=l)];simp
theorem NP{k n:Int}{o:aF}{xs:List aC}:CK (.mk k n o xs)↔xs.length≤68719476735∧ ∀x∈xs,CK x:=by rw [CK,ZF]
theorem kT{k n:Int}{o:aF}:CK (.mk k n o []):=NP.2 ⟨by simp,by simp⟩
theorem I0: ∀ {l:List Int} {e:aC},CK e→CK (aeZ e l)
 | [],e,h=>h
 |n::l,e,h=>I0 (l:=l) (e:=VN e n) (NP.2 ⟨by simp,fun x hx=>by rw [List.mem_singleton.1 hx];exact h⟩)
theorem FC{α β:Type}[Inhabited α]{f:Nat→List α→Option (LR (List α) β)}{l:List α}(hs: ∀i,i<l.length→(l.take i).length=i→f i (l.take i)=some (.next (l.take i++ [aT l i]))):loopN f (l.length-0) 0 []=some (.inr l):=by
 have key: ∀k i,l.length-i=k→i≤l.length→loopN f k i (l.take i)=some (.inr l):=by
  intro k
  induction k with
  |zero=>
   intro i hk hi
   rw [loopN,List.take_of_length_le (by omega)]
  |succ k ih=>
   intro i hk hi
   have h:i<l.length:=by omega
   rw [loopN,hs i h (by rw [List.length_take];omega),← XH h]
   exact ih (i+1) (by omega) (by omega)
 exact key _ 0 (by omega) (Nat.zero_le _)
theorem V1{fu:Nat}{xs:List aC}(hl:xs.length≤68719476735)(hf: ∀x∈xs,j7 fu x=some x):jG (fu+1) xs=some xs:=by
 simp only [jG,FZ]
 rw [FC (l:=xs) fun i hi hn=>?_]
 ·rfl
 ·rw [K6]
  exact hY (hf _ (cE hi)) (fT (by rw [hn];simp;omega) rfl)
theorem ED: ∀e:aC,CK e→bS fun fu=>j7 fu e=some e:=by
 refine aC.ind fun k n o xs ih h=>?_
 rw [NP] at h
 refine bS.succ (bS.succ ((bS.list fun x hx=>ih x hx (h.2 x hx)).imp fun fu hf=>?_))
 simp only [j7,M0]
 exact hY (V1 h.1 hf) rfl
theorem V0{xs:List aC}(hl:xs.length≤68719476735)(h: ∀x∈xs,CK x):bS fun fu=>jG fu xs=some xs:=
 bS.succ ((bS.list fun x hx=>ED x (h x hx)).imp fun fu hf=>V1 hl hf)
theorem U0{fu:Nat}{xs:List aC}(hl:xs.length≤68719476735)(hf: ∀x∈xs,eI fu x=some x):fA (fu+1) xs=some xs:=by
 simp only [fA,vT]
 refine fT (by omega) ?_
 rw [FC (l:=xs) fun i hi hn=>?_]
 ·exact fT rfl rfl
 ·rw [BR]
  exact hY (hf _ (cE hi)) (fT hn.symm rfl)
theorem DZ: ∀e:aC,CK e→bS fun fu=>eI fu e=some e:=by
 refine aC.ind fun k n o xs ih h=>?_
 rw [NP] at h
 refine bS.succ (bS.succ ((bS.list fun x hx=>ih x hx (h.2 x hx)).imp fun fu hf=>?_))
 simp only [eI,yB]
 exact hY (U0 h.1 hf) rfl
theorem ah3{xs:List aC}(hl:xs.length≤68719476735)(h: ∀x∈xs,CK x):bS fun fu=>fA fu xs=some xs:=
 bS.succ ((bS.list fun x hx=>DZ x (h x hx)).imp fun fu hf=>U0 hl hf)
def DG(e:aC):Int×Int×Int×Int×List aC:=(e.aBw,e.aCa,e.aBS.aBD,e.aBS.aBS,e.aBt)
theorem NQ(e:aC):aC.mk (DG e).1 (DG e).2.1 (.mk (DG e).2.2.1 (DG e).2.2.2.1) (DG e).2.2.2.2=e:=by
 obtain⟨k,n,⟨p,a⟩,xs⟩:=e
 rfl
theorem ZT{β:Type}{f:Nat→(Int×Int×Int×Int×List aC)→Option (LR (Int×Int×Int×Int×List aC) β)}{l:List Int}(hs: ∀i e,i<l.length→f i (DG e)=some (.next (DG (VN e (aT l i)))))(e:aC):loopN f (l.length-0) 0 (DG e)=some (.inr (DG (aeZ e l))):=by
 have key: ∀k i e,l.length-i=k→i≤l.length→loopN f k i (DG e)=some (.inr (DG (aeZ e (l.drop i)))):=by
  intro k
  induction k with
  |zero=>
   intro i e hk hi
   rw [loopN,List.drop_of_length_le (by omega)]
   rfl
  |succ k ih=>
   intro i e hk hi
   have h:i<l.length:=by omega
   rw [loopN,hs i e h,qY h]
   exact ih (i+1) _ (by omega) (by omega)
 have:=key _ 0 e rfl (Nat.zero_le _)
 rwa [List.drop_zero] at this
theorem V9{fu:Nat}{e:aC}(h:j7 fu e=some e)(l:List Int):jK fu e l=some (aeZ e l):=by
 unfold jK
 refine hY h ?_
 rw [show(e.aBw,e.aCa,e.aBS.aBD,e.aBS.aBS,e.aBt)=DG e from rfl,ZT (l:=l) fun i e' hi=>by rw [xO,NQ];rfl]
 exact congrArg some (NQ _)
theorem U3{fu:Nat}{e:aC}(h:eI fu e=some e)(l:List Int):gT fu e l=some (aeZ e l):=by
 unfold gT
 refine hY h ?_
 rw [show(e.aBw,e.aCa,e.aBS.aBD,e.aBS.aBS,e.aBt)=DG e from rfl,ZT (l:=l) fun i e' hi=>by rw [xF,NQ];rfl]
 exact congrArg some (NQ _)
mutual
def LS:aC→aC→Bool
 | .mk k n o xs,y=>decide (k=y.aBw)&&(decide (n=y.aCa)&&((decide (o.aBD=y.aBS.aBD)&&decide (o.aBS=y.aBS.aBS))&&DF xs y.aBt))
def DF:List aC→List aC→Bool
 | [],ys=>ys.isEmpty
 |x::xs,ys=>match ys with
  | []=>false
  |y::ys=>LS x y&&DF xs ys
end
theorem ZD: ∀ {l r:List aC},DF l r=true→l.length=r.length
 | [],[],_=>rfl
 | [],_::_,h=>by simp [DF] at h
 |_::_,[],h=>by simp [DF] at h
 |a::l,b::r,h=>by
  simp only [DF,Bool.and_eq_true] at h
  simp [ZD h.2]
theorem R7: ∀ {l r:List aC},l.length=r.length→DF l r=(List.range l.length).all fun i=>LS (aT l i) (aT r i)
 | [],[],_=>rfl
 | [],_::_,h=>by simp at h
 |_::_,[],h=>by simp at h
 |a::l,b::r,h=>by
  rw [DF,List.length_cons,List.range_succ_eq_map,List.all_cons,List.all_map,R7 (l:=l) (r:=r) (by simpa using h)]
  rfl
theorem UT: ∀(l:List aC),(∀x∈l,LS x x=true)→DF l l=true
 | [],_=>rfl
 |a::l,h=>by rw [DF,h a (by simp),UT l fun x hx=>h x (List.mem_cons_of_mem _ hx)];rfl
theorem alL: ∀e:aC,LS e e=true:=by
 refine aC.ind fun k n o xs ih=>?_
 rw [LS,aC.aBt.eq_1,UT xs ih]
 simp
theorem anN{β:Type}{F:Nat→Unit→Option (LR Unit Bool)}{xs ys:List aC}(hl:xs.length=ys.length)(hs: ∀i,i<xs.length→F i ()=some (if LS (aT xs i) (aT ys i) then .next () else .ret false)):so (loopN F (xs.length-0) 0 ()) (fun _=>some true)=some (DF xs ys):=by
 have:=HX (l:=List.range xs.length) (f:=F) (p:=fun i=>LS (aT xs i) (aT ys i)) (r:=false) (s:=()) fun i hi=>by
  have hi':i<xs.length:=by simpa using hi
  rw [PR hi',hs i hi']
  cases LS (aT xs i) (aT ys i)<;>rfl
 rw [List.length_range] at this
 rw [this,R7 hl]
 cases(List.range xs.length).all fun i=>LS (aT xs i) (aT ys i)<;>rfl
theorem an6: ∀a b:aC,bS fun fu=>fC fu a b=some (LS a b):=by
 refine aC.ind fun k n o xs ih b=>?_;refine bS.succ (bS.succ ((bS.below (k:=xs.length) (P:=fun i fu=>fC fu (aT xs i) (aT b.aBt i)=some (LS (aT xs i) (aT b.aBt i))) fun i hi=>ih _ (cE hi) _).imp fun fu hf=>?_))
 have hS:m5 (fu+1) xs b.aBt=some (DF xs b.aBt):=by
  simp only [m5,M1]
  by_cases hl:xs.length=b.aBt.length
  ·refine jA (by simp [hl]) (anN (β:=Bool) hl fun i hi=>?_)
   rw [SM]
   refine fT (by omega) (hY (hf i hi) ?_)
   cases LS (aT xs i) (aT b.aBt i)<;>rfl
  ·cases hq:DF xs b.aBt with
   |true=>exact absurd (ZD hq) hl
   |false=>exact kS (by simp;omega) rfl
 rw [fC,LS]
 unfold wG
 show sw (decide (k=b.aBw)) (sw (decide (n=b.aCa)) (sw (decide (o.aBD=b.aBS.aBD)&&decide (o.aBS=b.aBS.aBS)) (bd (m5 (fu+1) xs b.aBt) _) _) _) _=_
 by_cases h1:k=b.aBw
 ·rw [decide_eq_true h1,Bool.true_and]
  refine kS rfl ?_
  by_cases h2:n=b.aCa
  ·rw [decide_eq_true h2,Bool.true_and]
   refine kS rfl ?_
   by_cases h3:o.aBD=b.aBS.aBD∧o.aBS=b.aBS.aBS
   ·rw [decide_eq_true h3.1,decide_eq_true h3.2,Bool.true_and,Bool.true_and]
    exact kS rfl (hY hS rfl)
   ·have h4:(decide (o.aBD=b.aBS.aBD)&&decide (o.aBS=b.aBS.aBS))=false:=by
     rw [Bool.and_eq_false_iff,decide_eq_false_iff_not,decide_eq_false_iff_not]
     exact Classical.not_and_iff_not_or_not.1 h3
    rw [h4,Bool.false_and]
    exact jA rfl rfl
  ·rw [decide_eq_false h2,Bool.false_and]
   exact jA rfl rfl
 ·rw [decide_eq_false h1,Bool.false_and]
  exact jA rfl rfl
structure am5 (l:List aC):Prop where
 n:l.length≤68719476735
 v: ∀x∈l,CK x
theorem an7(a b:aC):bQ Tryz.prog 20 [(aC.pv a),(aC.pv b)] (.t (.leaf (.bool (LS a b)))):=by
 obtain⟨fu,h⟩:=(an6 a b).get
 exact OQ fu a b _ h
theorem Z1(e:aC)(h:CK e):bQ Tryz.prog 129 [(aC.pv e)] (aC.pv e):=by
 obtain⟨fu,h⟩:=(ED e h).get
 exact SL fu e _ h
theorem alR(e:aC)(h:CK e):bQ Tryz.prog 80 [(aC.pv e)] (aC.pv e):=by
 obtain⟨fu,h⟩:=(DZ e h).get
 exact D1 fu e _ h
theorem aeJ(l:List aC)(h:am5 l):bQ Tryz.prog 77 [bL l] (.lit 5 (aC.trs l)):=by
 obtain⟨fu,h⟩:=(ah3 h.n h.v).get
 exact OE fu l _ h
end Go.Proofs.YtfcoaagbccmahaaGreat.W

namespace Go.Proofs.YtfcoaagbccmahaaGreat.W
open Go.RowKit Go.WalkArith Go.Proofs
attribute [local irreducible] lt J3
theorem V3(fu:Nat)(a b:aD):uY fu a b=some (aD.eq a b):=by
 obtain⟨n,x⟩:=a
 obtain⟨m,y⟩:=b
 unfold uY
 rw [aD.eq,PT]
 show sw (decide (n=m)) (some (aA.eq x y)) (some false)=_
 cases decide (n=m)<;>rfl
theorem bS.succ'{P:Nat→Prop}(h:bS P):bS fun n=>P (n+1):=by
 obtain⟨a,h⟩:=h
 exact⟨a,fun n hn=>h (n+1) (by omega)⟩
theorem QW(fu:Nat)(l:List aK)(g:aD):kX fu l g=some (uC l g):=by
 unfold kX uC
 rw [rF (p:=fun a=>aD.eq a.aBZ g) (fun i hi=>by
  unfold AX
  refine ZW rfl ?_
  rw [V3]
  show sw (aD.eq (aT l i).aBZ g) _ _=_
  cases aD.eq (aT l i).aBZ g<;>rfl)]
 cases l.findIdx? fun a=>aD.eq a.aBZ g<;>rfl
theorem TW{l:List aK}{g:aD}(h:uC l g≥0):(uC l g).toNat<l.length:=by
 unfold uC at h ⊢
 cases hq:l.findIdx? fun a=>aD.eq a.aBZ g with
 |none=>rw [hq] at h;exact absurd h (by decide)
 |some i=>
  rw [List.findIdx?_eq_some_iff_getElem] at hq
  exact hq.1
theorem NN{α β:Type}[Inhabited α]{f:α→Int}{l:List α}{F:Nat→Unit→Option (LR Unit β)}(g:Int→β)(hs: ∀i,i<l.length→F i ()=some (if f (aT l i)=0 then .next () else .ret (g (f (aT l i))))):loopN F (l.length-0) 0 ()=some (if sQ f l=0 then .inr () else .inl (g (sQ f l))):=by
 have key: ∀k i,l.length-i=k→loopN F k i ()=some (if sQ f (l.drop i)=0 then .inr () else .inl (g (sQ f (l.drop i)))):=by
  intro k
  induction k with
  |zero=>
   intro i hk
   rw [loopN,List.drop_of_length_le (by omega)]
   rfl
  |succ k ih=>
   intro i hk
   have h:i<l.length:=by omega
   rw [loopN,hs i h,qY h,sQ]
   by_cases h0:f (aT l i)=0
   ·rw [if_pos h0,if_pos h0]
    exact ih (i+1) (by omega)
   ·rw [if_neg h0,if_neg h0,if_neg h0]
 have:=key _ 0 rfl
 rwa [List.drop_zero] at this
theorem aoI{x:Int}:so (some (if x=0 then(.inr ():Int⊕Unit) else .inl x)) (fun _=>some 0)=some x:=by
 by_cases h:x=0
 ·rw [if_pos h,h];rfl
 ·rw [if_neg h];rfl
theorem akT{x:Int}:so (some (if x=0 then(.inr ():(LR Unit Int)⊕Unit) else .inl (.ret x))) (fun _=>some (.next ()))=some (if x=0 then(.next ():LR Unit Int) else .ret x):=by
 by_cases h:x=0
 ·rw [if_pos h,if_pos h];rfl
 ·rw [if_neg h,if_neg h];rfl
theorem aoO{x:Int}:sw (!decide (x=0)) (some (.ret (.ret x))) (some (.next ()))=some (if x=0 then(.next ():LR Unit (LR Unit Int)) else .ret (.ret x)):=by
 by_cases h:x=0
 ·rw [if_pos h];exact jA (by simp [h]) rfl
 ·rw [if_neg h];exact kS (by simp [h]) rfl
theorem sw3{α:Type}{b1 b2 b3 c:Bool}{x y z:α}(h:(b1&&(b2&&b3))=c)(k:(bif !c then x else y)=z):sw (!b1) x (sw (!b2) x (sw (!b3) x y))=z:=by
 subst h
 rw [← k]
 cases b1<;>cases b2<;>cases b3<;>rfl
theorem aaZ(w:aH)(t:aA):(decide ((t.aBw:Int)=2)&&((J3 w t.aBs).2.2&&decide ((((J3 w t.aBs).1.aBF.length:Nat):Int)=((t.aBt.length:Nat):Int))))=uG w t:=
 congrArg (fun b=>decide (t.aBw=2)&&((J3 w t.aBs).2.2&&b)) (decide_eq_decide.2 Int.ofNat_inj)
theorem ZB{β:Type}{vs:LB}{ts:List aA}(hv:vs.length≤68719476736){F:Nat→List aJ→Option (LR (List aJ) β)}(hs: ∀i v,i<vs.length→v.length+1≤68719476736→F i v=some (.next (v++ [aJ.mk (aT vs i) (aT ts i)]))):loopN F (vs.length-0) 0 []=some (.inr (UN vs ts)):=by
 have h:=D8 (F:=F) (g:=fun i=>aJ.mk (aT vs i) (aT ts i)) (n:=vs.length) (M:=68719476736) hs (vs.length-0) 0 [] rfl (by rw [List.length_nil];omega)
 rw [List.nil_append] at h
 exact h
theorem alP(fu:Nat){vs:LB}{ts:List aA}(hl:vs.length=ts.length)(hv:vs.length≤68719476736):OD fu vs ts=some (UN vs ts):=by
 unfold OD
 rw [show min vs.length ts.length=vs.length by omega,ZB (ts:=ts) hv fun i v hi hn=>by
  unfold ZL
  exact fT hi (fT (by omega) (fT (by simpa using hn) rfl))]
 rfl
theorem aeL(fu:Nat)(l:List aA)(t:aA):gL fu l t=some (l.any fun u=>aA.eq u t):=by
 have h1:iP fu l t=some (match l.findIdx? (fun u=>aA.eq u t) with|some i=>((i:Nat):Int)|none=> -1):=by
  unfold iP
  rw [rF (l:=l) (p:=fun u=>aA.eq u t) fun i hi=>by
   unfold oU LZ
   show sw (aA.eq (aT l i) t) _ _=_
   cases aA.eq (aT l i) t<;>rfl]
  cases l.findIdx? fun u=>aA.eq u t<;>rfl
 unfold gL
 exact hY h1 (congrArg some P8)
theorem aeI(fu:Nat)(r:AP)(q:bP)(tr:ByteArray)(t:aA)(op:List aA):QE fu r q tr t op=some (bif EV false t then .inl 0 else .inr ()):=by
 unfold QE E6 EV aqJ
 rw [show decide ((((t.aBt.length:Nat):Int):Int)=0)=decide (t.aBt.length=0) from decide_eq_decide.2 (by omega)]
 cases decide (t.aBw=2)<;>cases decide (t.aBs=eU)<;>cases decide (t.aBs=eE)<;>cases decide (t.aBt.length=0)<;>rfl
theorem afE(fu:Nat)(r:oM)(w:aH)(l:List aK)(g:aD)(op:List aA):IN fu r w l g op=some (bif EV true g.aBu then .inl 0 else bif decide (uC l g≥0) then .inl 0 else .inr ()):=by
 unfold IN zY EV aqJ
 rw [QW]
 cases decide (g.aBu.aBw=2)<;>cases decide (g.aBu.aBs=eU)<;>cases decide (g.aBu.aBs=eE)<;>cases h:decide (uC l g≥0)<;>simp [sw,bd,h]
section
variable {U:LB} (hU:U.length≤68719476736) {w:aH} (hw:wt w≤13000000) (hW:WQ (Gd U) w) (l:List aK) (tr:ByteArray)
include hU hw hW
theorem ag4{n:ByteArray}:(J3 w n).1.aBF.length≤68719476736:=by
 have _:=hU;have _:=hW
 rcases akE w n with h|⟨p,hp,hd⟩
 ·rw [h];simp
 ·have:=aH.wt_eq w
  have:=C2 hp
  have:=aN.wt_eq p
  have:=C2 hd
  have:=aO.wt_eq (J3 w n).1
  have:=bB (J3 w n).1.aBF
  omega
theorem aoM{M:Nat→aA→Option Int}{f:aA→Int}{t:aA}(ht:Gd U t)(h: ∀x,Gd U x→bS fun fu=>M fu x=some (f x)):bS fun fu=>uG w t=true→ ∀c∈(J3 w t.aBs).1.aBx,∀x∈c.aBM,M fu (TR w t x)=some (f (TR w t x)):=by
 have _:=hU;have _:=hw
 by_cases hc:uG w t=true
 ·exact(bS.list (l:=(J3 w t.aBs).1.aBx) (P:=fun c fu=> ∀x∈c.aBM,M fu (TR w t x)=some (f (TR w t x))) fun c hm=>bS.list fun x hx=>h _ (aq9 (EY U) hW ht hc hm hx)).imp fun fu h _=>h
 ·exact .all fun fu hk=>absurd hk hc
theorem anR: ∀(k:Nat) (op:List aA) (t:aA),op.length+k=31→Gd U t→bS fun fu=>rB fu (bP.mk w l) tr t op=some (uF false w l tr (k+1) op t):=by
 intro k
 induction k with
 |zero=>
  intro op t hk ht
  refine bS.succ ((OA t).imp fun fu hs=>?_)
  rw [rB,uF]
  unfold OK
  rw [aeI]
  cases h1:EV false t with
  |true=>rfl
  |false=>
   refine UA rfl (hY (I2 fu l _) ?_)
   cases h2:decide (uC l (.mk tr t)≥0) with
   |true=>exact kS rfl rfl
   |false=>
    refine jA rfl (hY (aeO fu w t.aBs) (sw3 (c:=uG w t) (aaZ w t) ?_))
    cases h3:uG w t with
    |false=>rfl
    |true=>
     refine hY (aeL fu op t) ?_
     cases h4:op.any fun u=>aA.eq u t with
     |true=>rfl
     |false=>
      rw [decide_eq_true (show 30<op.length by omega)]
      exact jA rfl (kS (decide_eq_true (by omega)) rfl)
 |succ k ih=>
  intro op t hk ht
  have hsub:=aoM (w:=w) hU hw hW (M:=fun fu x=>rB fu (bP.mk w l) tr x (op++ [t])) (f:=fun x=>uF false w l tr (k+1) (op++ [t]) x) ht fun x hx=>ih (op++ [t]) x (by rw [List.length_append,List.length_singleton];omega) hx
  refine bS.succ (((OA t).and hsub).imp fun fu hf=>?_)
  obtain⟨hs,hf⟩:=hf
  rw [rB,uF]
  unfold OK
  rw [aeI]
  cases h1:EV false t with
  |true=>rfl
  |false=>
   refine UA rfl (hY (I2 fu l _) ?_)
   cases h2:decide (uC l (.mk tr t)≥0) with
   |true=>exact kS rfl rfl
   |false=>
    refine jA rfl (hY (aeO fu w t.aBs) (sw3 (c:=uG w t) (aaZ w t) ?_))
    cases h3:uG w t with
    |false=>rfl
    |true=>
     refine hY (aeL fu op t) ?_
     cases h4:op.any fun u=>aA.eq u t with
     |true=>rfl
     |false=>
      rw [decide_eq_false (show ¬30<op.length by omega)]
      refine jA rfl (jA (decide_eq_false (by omega)) (hY hs ?_))
      cases h5:decide (szT t>400) with
      |true=>exact kS rfl rfl
      |false=>
       have hl:(J3 w t.aBs).1.aBF.length=t.aBt.length:=by
        have:=h3
        unfold uG at this
        rw [Bool.and_eq_true,Bool.and_eq_true,decide_eq_true_eq,decide_eq_true_eq] at this
        exact this.2.2
       refine jA rfl (hY (alP fu hl (ag4 hU hw hW)) (fT (by omega) (fT (by rw [List.length_singleton];omega) ?_)))
       have hb:qP (UN (J3 w t.aBs).1.aBF t.aBt):=akD hU (aaY hl ((EY U).args ht))
       rw [NN (l:=(J3 w t.aBs).1.aBx) (f:=fun c=>sQ (fun x=>uF false w l tr (k+1) (op++ [t]) (TR w t x)) c.aBM) (fun x=>x) fun i hi=>?_]
       ·exact aoI
       ·unfold ZN
        have hc:=cE hi
        have hf2:=hf h3 _ hc
        have hg2:=fun x hx=>hW.fl t.aBs _ hc x hx
        generalize hgc:aT (J3 w t.aBs).1.aBx i=c at hf2 hg2 ⊢
        rw [NN (l:=c.aBM) (f:=fun x=>uF false w l tr (k+1) (op++ [t]) (TR w t x)) (fun x=> .ret x) fun j hj=>?_]
        ·exact akT
        ·unfold ZO
         rw [hgc]
         refine fT hb (fT ⟨U,hU,hg2 _ (cE hj)⟩ (hY (hf2 _ (cE hj)) aoO))
theorem an5: ∀(k:Nat) (op:List aA) (t:aA),op.length+k=31→Gd U t→(∀u∈op,uG w u=true)→bS fun fu=>j8 fu w l (.mk tr t) op=some (uF true w l tr (k+1) op t):=by
 intro k
 induction k with
 |zero=>
  intro op t hk ht ho
  refine bS.succ (((OW t).and (bS.ge 13000001)).imp fun fu hs=>?_)
  rw [j8,uF]
  unfold F1
  rw [afE]
  cases h1:EV true t with
  |true=>simp only [aD.aBu.eq_1,h1];rfl
  |false=>
   simp only [aD.aBu.eq_1,h1]
   cases h2:decide (uC l (.mk tr t)≥0) with
   |true=>rfl
   |false=>
    refine UA rfl ?_
    rw [mJ (l:=op) (p:=fun u=>aA.eq u t) (r:=fun _=>0) (fun i hi=>by unfold IP;show sw (aA.eq (aT op i) t) _ _=_;cases aA.eq (aT op i) t<;>rfl)]
    cases h4:op.find? fun u=>aA.eq u t with
    |some u=>
     have hm:=List.mem_of_find?_eq_some h4
     have he:=(aA.eq_iff _ _).1 (List.find?_some (p:=fun u=>aA.eq u t) h4)
     have hc:=ho u hm
     rw [he] at hc
     rw [hc,List.any_eq_true.2 ⟨u,hm,List.find?_some (p:=fun u=>aA.eq u t) h4⟩]
     rfl
    |none=>
     rw [show op.any (fun u=>aA.eq u t)=false from List.any_eq_false.2 fun u hu=>List.find?_eq_none.1 h4 u hu]
     refine UA rfl (hY (V2 fu w t.aBs (aH.small_wt hw (by omega))) (sw3 (c:=uG w t) (aaZ w t) ?_))
     cases h3:uG w t with
     |false=>rfl
     |true=>
      rw [decide_eq_true (show 30<op.length by omega)]
      exact kS (decide_eq_true (by omega)) rfl
 |succ k ih=>
  intro op t hk ht ho
  have hsub:bS fun fu=>uG w t=true→ ∀c∈(J3 w t.aBs).1.aBx,∀x∈c.aBM,j8 fu w l (.mk tr (TR w t x)) (op++ [t])=some (uF true w l tr (k+1) (op++ [t]) (TR w t x)):=by
   by_cases hc:uG w t=true
   ·refine aoM (w:=w) hU hw hW (M:=fun fu x=>j8 fu w l (.mk tr x) (op++ [t])) (f:=fun x=>uF true w l tr (k+1) (op++ [t]) x) ht fun x hx=>ih (op++ [t]) x (by rw [List.length_append,List.length_singleton];omega) hx fun u hu=>?_
    rcases List.mem_append.1 hu with h|h
    ·exact ho u h
    ·rw [List.mem_singleton.1 h];exact hc
   ·exact .all fun fu h=>absurd h hc
  refine bS.succ ((((OW t).and (bS.ge 13000001)).and hsub).imp fun fu hf=>?_)
  obtain⟨⟨hs,hfu⟩,hf⟩:=hf
  rw [j8,uF]
  unfold F1
  rw [afE]
  cases h1:EV true t with
  |true=>simp only [aD.aBu.eq_1,h1];rfl
  |false=>
   simp only [aD.aBu.eq_1,h1]
   cases h2:decide (uC l (.mk tr t)≥0) with
   |true=>rfl
   |false=>
    refine UA rfl ?_
    rw [mJ (l:=op) (p:=fun u=>aA.eq u t) (r:=fun _=>0) (fun i hi=>by unfold IP;show sw (aA.eq (aT op i) t) _ _=_;cases aA.eq (aT op i) t<;>rfl)]
    cases h4:op.find? fun u=>aA.eq u t with
    |some u=>
     have hm:=List.mem_of_find?_eq_some h4
     have he:=(aA.eq_iff _ _).1 (List.find?_some (p:=fun u=>aA.eq u t) h4)
     have hc:=ho u hm
     rw [he] at hc
     rw [hc,List.any_eq_true.2 ⟨u,hm,List.find?_some (p:=fun u=>aA.eq u t) h4⟩]
     rfl
    |none=>
     rw [show op.any (fun u=>aA.eq u t)=false from List.any_eq_false.2 fun u hu=>List.find?_eq_none.1 h4 u hu]
     refine UA rfl (hY (V2 fu w t.aBs (aH.small_wt hw (by omega))) (sw3 (c:=uG w t) (aaZ w t) ?_))
     cases h3:uG w t with
     |false=>rfl
     |true=>
      rw [decide_eq_false (show ¬30<op.length by omega)]
      refine jA (decide_eq_false (by omega)) (hY hs ?_)
      cases h5:decide (szT t>400) with
      |true=>exact kS rfl rfl
      |false=>
       have hl:(J3 w t.aBs).1.aBF.length=t.aBt.length:=by
        have:=h3
        unfold uG at this
        rw [Bool.and_eq_true,Bool.and_eq_true,decide_eq_true_eq,decide_eq_true_eq] at this
        exact this.2.2
       have hb:qP (UN (J3 w t.aBs).1.aBF t.aBt):=akD hU (aaY hl ((EY U).args ht))
       refine jA rfl (UA (s:=UN (J3 w t.aBs).1.aBF t.aBt) (ZB (ts:=t.aBt) (ag4 hU hw hW) fun i v hi hn=>?_) (fT (by rw [List.length_nil];omega) (fT (by simp only [List.nil_append,List.length_singleton];omega) ?_)))
       ·unfold SN
        exact fT (by show i<t.aBt.length;omega) (fT (by simpa using hn) rfl)
       ·rw [NN (l:=(J3 w t.aBs).1.aBx) (f:=fun c=>sQ (fun x=>uF true w l tr (k+1) (op++ [t]) (TR w t x)) c.aBM) (fun x=>x) fun i hi=>?_]
        ·exact aoI
        ·unfold SO
         have hc:=cE hi
         have hf2:=hf h3 _ hc
         have hg2:=fun x hx=>hW.fl t.aBs _ hc x hx
         generalize hgc:aT (J3 w t.aBs).1.aBx i=c at hf2 hg2 ⊢
         rw [NN (l:=c.aBM) (f:=fun x=>uF true w l tr (k+1) (op++ [t]) (TR w t x)) (fun x=> .ret x) fun j hj=>?_]
         ·exact akT
         ·unfold SP
          rw [hgc]
          refine fT hb (fT ⟨U,hU,hg2 _ (cE hj)⟩ (hY (hf2 _ (cE hj)) aoO))
end
end Go.Proofs.YtfcoaagbccmahaaGreat.W

namespace Go.Proofs.YtfcoaagbccmahaaGreat.W
open Go.RowKit Go.WalkArith Go.Proofs
attribute [local irreducible] lt J3 tC
theorem ad5{f:aD→aC×Int}: ∀(l:List aD) (out:List aC),(C9 f l out).2=0→(C9 f l out).1.length=out.length+l.length
 | [],out,h=>by simp [C9]
 |b::r,out,h=>by
  rw [C9] at h ⊢
  by_cases h0:(f b).2=0
  ·rw [if_pos h0] at h ⊢
   rw [ad5 r _ h,List.length_append,List.length_singleton,List.length_cons]
   omega
  ·rw [if_neg h0] at h
   exact absurd h h0
theorem ad4{f:aD→aC×Int}{P:aC→Prop}: ∀(l:List aD) (out:List aC),(∀b∈l,(f b).2=0→P (f b).1)→(∀e∈out,P e)→ ∀e∈(C9 f l out).1,P e
 | [],out,_,h=>h
 |b::r,out,hf,h=>by
  rw [C9]
  by_cases h0:(f b).2=0
  ·rw [if_pos h0]
   exact ad4 r _ (fun x hx=>hf x (List.mem_cons_of_mem _ hx)) fun e he=>by
    rcases List.mem_append.1 he with h1|h1
    ·exact h e h1
    ·rw [List.mem_singleton.1 h1];exact hf b (by simp) h0
  ·rw [if_neg h0]
   intro e he
   simp at he
theorem ad6{f:aD→aC×Int}{l:List aD}{F:Nat→List aC→Option (LR (List aC) (aC×Int))}(hl:l.length≤68719476736)(hs: ∀i v,i<l.length→v.length=i→F i v=some (if(f (aT l i)).2=0 then .next (v++ [(f (aT l i)).1]) else .ret (zEv,(f (aT l i)).2))):loopN F (l.length-0) 0 []=some (if(C9 f l []).2=0 then .inr (C9 f l []).1 else .inl (zEv,(C9 f l []).2)):=by
 have key: ∀k i v,l.length-i=k→i≤l.length→v.length=i→loopN F k i v=some (if(C9 f (l.drop i) v).2=0 then .inr (C9 f (l.drop i) v).1 else .inl (zEv,(C9 f (l.drop i) v).2)):=by
  intro k
  induction k with
  |zero=>
   intro i v hk hi hv
   rw [loopN,List.drop_of_length_le (by omega)]
   rfl
  |succ k ih=>
   intro i v hk hi hv
   have h:i<l.length:=by omega
   rw [loopN,hs i v h hv,qY h,C9]
   by_cases h0:(f (aT l i)).2=0
   ·rw [if_pos h0,if_pos h0]
    exact ih (i+1) _ (by omega) (by omega) (by rw [List.length_append,List.length_singleton];omega)
   ·rw [if_neg h0,if_neg h0,if_neg h0]
 have:=key _ 0 [] rfl (Nat.zero_le _) rfl
 rwa [List.drop_zero] at this
theorem aoN{v:List aC}{x:aC}{c:Int}{i:Nat}(hn:v.length=i)(hi:i+1≤68719476736):sw (!decide (c=0)) (some (.ret (zEv,c))) (gd (v.length+([x]:List aC).length≤68719476736) (some (.next (v++ [x]))))=some (if c=0 then(.next (v++ [x]):LR (List aC) (aC×Int)) else .ret (zEv,c)):=by
 by_cases h:c=0
 ·rw [if_pos h];exact jA (by simp [h]) (fT (by rw [List.length_singleton];omega) rfl)
 ·rw [if_neg h];exact kS (by simp [h]) rfl
theorem aoH{r:List aC×Int}{o:aF}:so (some (if r.2=0 then(.inr r.1:(aC×Int)⊕List aC) else .inl (zEv,r.2))) (fun v=>some (aC.mk 1 0 o v,0))=some (if r.2=0 then(aC.mk 1 0 o r.1,0) else(zEv,r.2)):=by
 by_cases h:r.2=0
 ·rw [if_pos h,if_pos h];rfl
 ·rw [if_neg h,if_neg h];rfl
theorem nd0{c:Int}(h:c=0):(!decide (c=0))=false:=by rw [decide_eq_true h];rfl
theorem nd1{c:Int}(h: ¬c=0):(!decide (c=0))=true:=by rw [decide_eq_false h];rfl
theorem ag2{w:aH}{n:ByteArray}(h:(tC w n).1.aB1=true):(tC w n).2.2=true:=by
 unfold tC at h ⊢
 cases hq:(List.range' 0 w.aBr.length).findSome? (tQ w n) with
 |none=>rw [hq] at h;cases h
 |some r=>
  obtain⟨i,hi,hq⟩:=List.exists_of_findSome?_eq_some hq
  unfold tQ at hq
  obtain⟨k,hk,hq⟩:=List.exists_of_findSome?_eq_some hq
  split at hq
  ·cases hq;rfl
  ·cases hq
theorem JX{b:Bool}{w:aH}(hw:wt w≤13000000)(l:List aK): ∀k g,CK (kA b w l k g).1
 |0,g=>by
  rw [kA]
  cases decide (uC l g≥0)
  ·exact kT
  ·exact I0 kT
 |k+1,g=>by
  rw [kA]
  cases decide (uC l g≥0)
  ·rw [cond_false]
   cases(tC w g.aBz).1.aB1
   ·rw [cond_false]
    cases decide (g.aBu.aBw=1)||decide (g.aBu.aBw=3)
    ·rw [cond_false]
     cases decide (g.aBu.aBw=4)&&(kB w 8 g.aBu.aBs g.aBz).2
     ·rw [cond_false]
      split
      ·rename_i hs
       split
       ·rename_i ha
        have hR:=OX hs
        have h1:=T3 hw hR
        have h2:=aL.wt_eq (cJ w (f7 w g).1)
        have h3:=bB (cJ w (f7 w g).1).aBK
        have h4:=ad5 _ _ ha
        refine NP.2 ⟨by rw [h4,List.length_nil];omega,ad4 _ _ (fun x hx _=>JX hw l k _) (by simp)⟩
       ·exact kT
      ·exact kT
     ·exact I0 kT
    ·exact kT
   ·rw [cond_true]
    split<;>exact kT
  ·exact I0 kT
section
variable {U:LB} (hU:U.length≤68719476736) {w:aH} (hw:wt w≤13000000) (hW:WQ (Gd U) w) (l:List aK)
include hU hw hW
theorem alU: ∀(k:Nat) (n:Int),n+k=12→0≤n→ ∀g:aD,Gd U g.aBu→bS fun fu=>nH fu (bP.mk w l) g n=some (kA false w l k g):=by
 intro k
 induction k with
 |zero=>
  intro n hk hn g hg
  refine bS.succ ((DZ (.mk 2 (aT l (uC l g).toNat).aB7 (.mk 0 0) []) kT).imp fun fu hs=>?_)
  rw [nH,kA]
  unfold I5
  refine hY (I2 fu l g) ?_
  cases h2:decide (uC l g≥0) with
  |true=>exact kS rfl (fT ⟨of_decide_eq_true h2,TW (of_decide_eq_true h2)⟩ (ZW rfl (hY (U3 hs _) rfl)))
  |false=>exact jA rfl (kS (decide_eq_true (by omega)) rfl)
 |succ k ih=>
  intro n hk hn g hg
  have hg':gK g.aBu:=⟨U,hU,hg⟩
  have hsub:bS fun fu=>(f7 w g).2=0→ ∀b∈(cJ w (f7 w g).1).aBK,nH fu (bP.mk w l) (RZ w (f7 w g).1 g b) (n+1)=some (kA false w l k (RZ w (f7 w g).1 g b)):=by
   by_cases hs:(f7 w g).2=0
   ·exact(bS.list fun b hb=>ih (n+1) (by omega) (by omega) _ (aoL (EY U) hW (OX hs) hg hb)).imp fun fu h _=>h
   ·exact .all fun fu h=>absurd h hs
  refine bS.succ (((((DZ (.mk 2 (aT l (uC l g).toNat).aB7 (.mk 0 0) []) kT).and (DZ (.mk 4 0 (.mk 0 0) []) kT)).and (anR hU hw hW l g.aBz 31 [] g.aBu rfl hg)).and (hsub.and (bS.ge 100))).imp fun fu hf=>?_)
  obtain⟨⟨⟨hs,hs4⟩,hau⟩,hf,hfu⟩:=hf
  rw [nH,kA]
  unfold I5
  refine hY (I2 fu l g) ?_
  cases h2:decide (uC l g≥0) with
  |true=>exact kS rfl (fT ⟨of_decide_eq_true h2,TW (of_decide_eq_true h2)⟩ (ZW rfl (hY (U3 hs _) rfl)))
  |false=>
   refine jA rfl (jA (decide_eq_false (by omega)) ?_)
   unfold VJ
   cases h3:(tC w g.aBz).1.aB1 with
   |true=>
    rw [cond_false,cond_true]
    by_cases h4:uF false w l g.aBz 32 [] g.aBu=0
    ·rw [if_pos h4]
     exact soL (hY (D5 fu w g.aBz) (kS (ag2 h3) (kS h3 (hY hau (jA (nd0 h4) rfl)))))
    ·rw [if_neg h4]
     exact soL (hY (D5 fu w g.aBz) (kS (ag2 h3) (kS h3 (hY hau (kS (nd1 h4) rfl)))))
   |false=>
    rw [cond_false,cond_false]
    refine UA (s:=((tC w g.aBz).1.aBs,(tC w g.aBz).1.aBB,(tC w g.aBz).1.aB1,(tC w g.aBz).1.aBR,(tC w g.aBz).1.aBP)) (hY (D5 fu w g.aBz) ?_) ?_
    ·show sw (tC w g.aBz).2.2 (sw (tC w g.aBz).1.aB1 _ _) _=_
     cases(tC w g.aBz).2.2 with
     |true=>exact kS rfl (jA h3 rfl)
     |false=>exact jA rfl rfl
    ·show so (L0 fu _ (bP.mk w l) g n (uC l g) _ _ _ _ _) _=_
     unfold L0
     have hC3: ∀r a1 a2 a3 a4 a5,L1 fu r (bP.mk w l) g n (uC l g) a1 a2 a3 a4 a5=some (.inr (decide (g.aBu.aBw=1)||decide (g.aBu.aBw=3))):=fun r a1 a2 a3 a4 a5=>by
      unfold L1
      cases decide (g.aBu.aBw=1)<;>rfl
     rw [hC3]
     cases h4:decide (g.aBu.aBw=1)||decide (g.aBu.aBw=3) with
     |true=>rfl
     |false=>
      rw [cond_false]
      have hP:=aeM fu hfu w g.aBu.aBs g.aBz
      have hC2: ∀(X:Unit→Option (aC×Int)) (R:aC×Int),X ()=some R→so (so (some (.inr false:((aC×Int)⊕Unit)⊕Bool)) (fun v24=>sw v24 (some (.inl ((aC.mk 0 0 (aF.mk 0 0) [],1):aC×Int))) (sw (decide ((g.aBu.aBw:Int)=4)) (bd (kU fu w g.aBu.aBs g.aBz) (fun(x29,x30)=>sw (x30) (bd (gT fu (aC.mk 4 0 (aF.mk 0 0) []) x29) (fun x33=>some (.inl (x33,0)))) (some (.inr ())))) (some (.inr ()))))) X=some (bif decide (g.aBu.aBw=4)&&(kB w 8 g.aBu.aBs g.aBz).2 then(aeZ (.mk 4 0 (.mk 0 0) []) (kB w 8 g.aBu.aBs g.aBz).1,0) else R):=fun X R hX=>by
       cases h5:decide (g.aBu.aBw=4) with
       |false=>exact hX
       |true=>
        rw [hP]
        show so (sw (kB w 8 g.aBu.aBs g.aBz).2 (bd (gT fu _ (kB w 8 g.aBu.aBs g.aBz).1) _) _) _=_
        cases h6:(kB w 8 g.aBu.aBs g.aBz).2 with
        |false=>exact hX
        |true=>exact soL (kS rfl (hY (U3 hs4 _) rfl))
      refine hC2 _ _ (hY (ao9 hw hg') ?_)
      by_cases h7:(f7 w g).2=0
      ·rw [if_pos h7]
       have hR:=OX h7
       have hf:=hf h7
       refine jA (nd0 h7) (hY (OF fu w (f7 w g).1 hR) (fT (vN hw hR) (fT hg' ?_)))
       have h1:=T3 hw hR
       have h2:=aL.wt_eq (cJ w (f7 w g).1)
       have h3:=bB (cJ w (f7 w g).1).aBK
       rw [ad6 (l:=(cJ w (f7 w g).1).aBK) (f:=fun x=>kA false w l k (RZ w (f7 w g).1 g x)) (by omega) fun i v hi hv=>?_]
       ·exact aoH
       ·unfold VK
        have hm:=cE hi
        refine fT (akD hU (ME (EY U) _ _ hg)) (fT ⟨U,hU,hW.wh _ hR _ hm⟩ ?_)
        rw [JZ (by omega) (by omega)]
        exact hY (hf _ hm) (aoN hv (by omega))
      ·rw [if_neg h7]
       exact kS (nd1 h7) rfl
theorem amG: ∀(k:Nat),k≤12→ ∀g:aD,Gd U g.aBu→bS fun fu=>iL fu w l g (k:Int)=some (kA true w l k g):=by
 intro k
 induction k with
 |zero=>
  intro hk g hg
  refine bS.succ ((ED (.mk 2 (aT l (uC l g).toNat).aB7 (.mk 0 0) []) kT).imp fun fu hs=>?_)
  rw [iL,kA]
  unfold CE
  refine hY (QW fu l g) ?_
  cases h2:decide (uC l g≥0) with
  |true=>exact kS rfl (fT ⟨of_decide_eq_true h2,TW (of_decide_eq_true h2)⟩ (ZW rfl (hY (V9 hs _) rfl)))
  |false=>exact jA rfl (kS (decide_eq_true (by omega)) rfl)
 |succ k ih=>
  intro hk g hg
  have hg':gK g.aBu:=⟨U,hU,hg⟩
  have hsub:bS fun fu=>(f7 w g).2=0→ ∀b∈(cJ w (f7 w g).1).aBK,iL fu w l (RZ w (f7 w g).1 g b) (k:Int)=some (kA true w l k (RZ w (f7 w g).1 g b)):=by
   by_cases hs:(f7 w g).2=0
   ·exact(bS.list fun b hb=>ih (by omega) _ (aoL (EY U) hW (OX hs) hg hb)).imp fun fu h _=>h
   ·exact .all fun fu h=>absurd h hs
  refine bS.succ (bS.succ ((hsub.and (bS.ge 27000000)).imp2 (bS.succ' (((ED (.mk 2 (aT l (uC l g).toNat).aB7 (.mk 0 0) []) kT).and (ED (.mk 4 0 (.mk 0 0) []) kT)).and (an5 hU hw hW l g.aBz 31 [] g.aBu rfl hg (by simp)))) fun fu hf hf1=>?_))
  obtain⟨hf,hfu⟩:=hf
  obtain⟨⟨hs,hs4⟩,hau⟩:=hf1
  have hau':j8 (fu+1) w l g []=some (uF true w l g.aBz 32 [] g.aBu):=by cases g;exact hau
  have hI:oO (fu+1) w l g ((k+1:Nat):Int)=some (if(f7 w g).2=0 then(if(C9 (fun x=>kA true w l k (RZ w (f7 w g).1 g x)) (cJ w (f7 w g).1).aBK []).2=0 then(aC.mk 1 0 (f7 w g).1 (C9 (fun x=>kA true w l k (RZ w (f7 w g).1 g x)) (cJ w (f7 w g).1).aBK []).1,0) else(zEv,(C9 (fun x=>kA true w l k (RZ w (f7 w g).1 g x)) (cJ w (f7 w g).1).aBK []).2)) else(zEv,(f7 w g).2)):=by
   rw [oO]
   unfold M2
   refine hY (apN hw hg' (by omega)) ?_
   by_cases h7:(f7 w g).2=0
   ·rw [if_pos h7]
    have hR:=OX h7
    have hf:=hf h7
    refine jA (nd0 h7) (TX hR fun p=>fT (vN hw hR) (fT hg' ?_))
    have h1:=T3 hw hR
    have h2:=aL.wt_eq (cJ w (f7 w g).1)
    have h3:=bB (cJ w (f7 w g).1).aBK
    rw [ad6 (l:=(cJ w (f7 w g).1).aBK) (f:=fun x=>kA true w l k (RZ w (f7 w g).1 g x)) (by omega) fun i v hi hv=>?_]
    ·exact aoH
    ·unfold SR
     have hm:=cE hi
     refine fT (akD hU (ME (EY U) _ _ hg)) (fT ⟨U,hU,hW.wh _ hR _ hm⟩ ?_)
     rw [show aZ (((k+1:Nat):Int)-1)=(k:Int) by rw [JZ (by omega) (by omega)];omega]
     exact hY (hf _ hm) (aoN hv (by omega))
   ·rw [if_neg h7]
    exact kS (nd1 h7) rfl
  rw [iL,kA]
  unfold CE
  refine hY (QW _ l g) ?_
  cases h2:decide (uC l g≥0) with
  |true=>exact kS rfl (fT ⟨of_decide_eq_true h2,TW (of_decide_eq_true h2)⟩ (ZW rfl (hY (V9 hs _) rfl)))
  |false=>
   refine jA rfl (jA (decide_eq_false (by omega)) (hY (BY _ w g.aBz (aH.small_wt hw (by omega))) ?_))
   show sw (tC w g.aBz).1.aB1 _ _=_
   cases h3:(tC w g.aBz).1.aB1 with
   |true=>
    rw [cond_false,cond_true]
    by_cases h4:uF true w l g.aBz 32 [] g.aBu=0
    ·rw [if_pos h4]
     exact kS rfl (hY hau' (jA (nd0 h4) rfl))
    ·rw [if_neg h4]
     exact kS rfl (hY hau' (kS (nd1 h4) rfl))
   |false=>
    rw [cond_false,cond_false]
    refine jA rfl ?_
    cases h4:decide (g.aBu.aBw=1) with
    |true=>rfl
    |false=>
     cases h5:decide (g.aBu.aBw=3) with
     |true=>rfl
     |false=>
      refine jA rfl (jA rfl ?_)
      show _=some (bif _ then _ else _)
      cases h6:decide (g.aBu.aBw=4) with
      |false=>exact jA rfl (hY hI rfl)
      |true=>
       refine kS rfl (hY (afH hw (by omega) g.aBu.aBs g.aBz) ?_)
       show sw (kB w 8 g.aBu.aBs g.aBz).2 (bd (jK _ _ (kB w 8 g.aBu.aBs g.aBz).1) _) _=_
       cases h8:(kB w 8 g.aBu.aBs g.aBz).2 with
       |false=>exact jA rfl (hY hI rfl)
       |true=>exact kS rfl (hY (V9 hs4 _) rfl)
end
section
variable {w:aH} (hw:wt w≤13000000) {l:List aD} (hl:l.length≤1000) (hb: ∀b∈l,gK b.aBu) {g:aD} (hg:wt g.aBu≤13000000)
include hw hl hb hg
theorem akI:(ae5 w++EB g.aBu).length≤68719476736∧Gd (ae5 w++EB g.aBu) g.aBu:=by
 have _:=hl;have _:=hb
 have h1:=anY w
 have h2:=abK g.aBu
 refine⟨by rw [List.length_append];omega,(Gd.own _ (by rw [NO];omega)).mono (fun n h=>List.mem_append_right _ h) _⟩
theorem ah4:bS fun fu=>U8 fu w l g=some (kA false w (J2 w l) 12 g):=by
 obtain⟨h1,h2⟩:=akI hw hl hb hg
 refine(alU h1 hw (ag7 hw) (J2 w l) 12 0 rfl (Int.le_refl _) g h2).imp fun fu h=>?_
 unfold U8
 exact fT ⟨hw,hl,hb⟩ (hY h rfl)
theorem aiM:bS fun fu=>WJ fu w l g=some (kA true w (J2 w l) 12 g):=by
 obtain⟨h1,h2⟩:=akI hw hl hb hg
 refine((amG h1 hw (ag7 hw) (J2 w l) 12 (Nat.le_refl _) g h2).and (bS.ge 27000000)).imp fun fu h=>?_
 unfold WJ
 exact hY ((apM hw h.2 hl hb).trans (congrArg some (alG hw h.2 l))) (hY h.1 rfl)
end
def iN(w:aH)(l:List aD)(g:aD):aC×Int:=kA false w (J2 w l) 12 g
def eN(w:aH)(l:List aD)(g:aD):aC×Int:=kA true w (J2 w l) 12 g
theorem ZK(w:aH)(l:List aD)(g:aD)(h:R4 w l)(hg:wt g.aBu≤13000000):bQ Tryz.prog 18 [(aH.pv w),bW l,(aD.pv g)] (.tup [(aC.pv (iN w l g).1),pI (iN w l g).2]):=by
 obtain⟨fu,hf⟩:=(ah4 h.hw h.hl h.ht hg).get
 exact alV fu w l g _ hf
theorem Z4(w:aH)(l:List aD)(g:aD)(h:R4 w l)(hg:wt g.aBu≤13000000):bQ Tryz.prog 19 [(aH.pv w),bW l,(aD.pv g)] (.tup [(aC.pv (eN w l g).1),pI (eN w l g).2]):=by
 obtain⟨fu,hf⟩:=(aiM h.hw h.hl h.ht hg).get
 exact amH fu w l g _ hf
end Go.Proofs.YtfcoaagbccmahaaGreat.W

namespace Go.Proofs.YtfcoaagbccmahaaGreat.W
open Go.RowKit Go.WalkArith Go.IntWalk Go.WideShapes Go.Proofs
attribute [local irreducible] lt
structure TS (m:bC):Prop where
 g:m.aBO.length≤68719476735
 t: ∀b∈m.aBO,gK b.aBu
 c:m.aBQ.length≤68719476735
 e:m.aBG.length≤68719476735
 v: ∀x∈m.aBG,CK x
theorem ae4(b:aD):aD.mk b.aBz b.aBu=b:=by cases b;rfl
theorem VZ(fu:Nat){l:List aD}(hl:l.length≤68719476735)(ht: ∀b∈l,gK b.aBu):FW fu l=some l:=by
 unfold FW
 rw [FC (l:=l) fun i hi hn=>?_]
 ·rfl
 ·unfold K3
  rw [ae4]
  exact fT (ht _ (cE hi)) (fT (by rw [hn,List.length_singleton];omega) rfl)
set_option maxRecDepth 100000 in
theorem aeX(m:bC)(h:TS m)(hn:decide ((bC.aBQ m).length=0)=false):am4 Tryz.prog 128 [(bC.pv m)] ⟨32,4,aD.trs (bC.aBO m),false⟩ ⟨3,1,d9 (bC.aBQ m),false⟩ ⟨55,5,aC.trs (bC.aBG m),false⟩:=by
 obtain⟨fu,hE⟩:=(V0 h.e h.v).get
 have hG:=VZ fu h.g h.t
 have hne:d9 m.aBQ≠ []:=by
  have:=of_decide_eq_false hn
  intro e
  exact this (by rw [← eG,e];rfl)
 unfold am4 adJ
 refine qI Tryz.func128 (fun C hC=>?_)
 refine gQ 2 ?_;refine q1 (fE (AG m)) ?_;refine gQ 3 ?_;refine dW (dI [1] bZ (dD [3] eB (dE [4] (bD.callOwn (pre:=⟨[],[]⟩) (B:= []) (R:=fun k=>nV m.aBO k) (ps:= [_]) (qs:= [bW m.aBO]) [] rfl rfl Tryz.func167 (by kernel_rfl) rfl rfl rfl (eH.of trivial trivial (by decide) (by decide)) rfl iX rfl rfl rfl (fun k k'=>Mv.acc) (K4 fu m.aBO _ hG)) (dI [] (vD ([]:List Int)) (dI [1] bZ (dB [7] 0 1 sM ?_))))))
 refine dE [6,8] (bD.appendLitA rfl rfl rfl rfl rfl (fun e he=>(by obtain⟨x,_,rfl⟩:=List.mem_map.1 he;rfl)) hne (by decide) aqR.h asM.h (by decide) (by rw [eG];have:=h.c;omega)) ?_;refine dI [1] bZ (dB [10] 0 2 sM (dE [11] (bD.callOwn (pre:=⟨[],[]⟩) (B:= []) (R:=fun k=>eX m.aBG k) (ps:= [_]) (qs:= [bL m.aBG]) [] rfl rfl Tryz.func168 (by kernel_rfl) rfl rfl rfl (eH.of trivial trivial (by decide) (by decide)) rfl iX rfl rfl rfl (fun k k'=>Mv.acc) (K7 fu m.aBG _ hE)) (dI [5,9,12] oP (iY [2,13] hM (dN ?_)))))
 refine gQ 0 ?_;refine cO.ret ?_;refine PG (st':=⟨[],[⟨32,4,aD.trs m.aBO,false⟩,⟨3,1,d9 m.aBQ,false⟩,⟨55,5,aC.trs m.aBG,false⟩]⟩) ⟨[0,1,2],rfl,fun i row hi=>?_,fun i j hi hj e=>?_⟩ ⟨⟨_,_,_,rfl,rfl,SH.h,rfl,rfl⟩,trivial⟩
 ·rcases i with _|_|_|i<;>simp at hi<;>subst hi<;>rfl
 ·rcases i with _|_|_|i<;>rcases j with _|_|_|j<;>simp at hi hj e<;>first|rfl|omega
set_option maxRecDepth 100000 in
theorem aeW(m:bC)(h:TS m)(hn:decide ((bC.aBQ m).length=0)=true):am3 Tryz.prog 128 [(bC.pv m)] ⟨32,4,aD.trs (bC.aBO m),false⟩ 1 (d9 (bC.aBQ m)) ⟨55,5,aC.trs (bC.aBG m),false⟩:=by
 obtain⟨fu,hE⟩:=(V0 h.e h.v).get
 have hG:=VZ fu h.g h.t
 obtain⟨g,c,ev⟩:=m
 obtain rfl:c= []:=List.eq_nil_of_length_eq_zero (of_decide_eq_true hn)
 unfold am3 adJ
 refine qI Tryz.func128 (fun C hC=>?_)
 refine gQ 2 ?_;refine q1 (fE (AG (bC.mk g [] ev))) ?_;refine gQ 3 ?_;refine dW (dI [1] bZ (dD [3] eB (dE [4] (bD.callOwn (pre:=⟨[],[]⟩) (B:= []) (R:=fun k=>nV g k) (ps:= [_]) (qs:= [bW g]) [] rfl rfl Tryz.func167 (by kernel_rfl) rfl rfl rfl (eH.of trivial trivial (by decide) (by decide)) rfl iX rfl rfl rfl (fun k k'=>Mv.acc) (K4 fu g _ hG)) (dI [] (vD ([]:List Int)) (dI [1] bZ (dB [7] 0 1 sM ?_))))))
 refine dI [6,8] (bD.appendLit0 rfl rfl rfl rfl rfl aqR.h) ?_;refine dI [1] bZ (dB [10] 0 1 sM (dE [11] (bD.callOwn (pre:=⟨[],[]⟩) (B:= []) (R:=fun k=>eX ev k) (ps:= [_]) (qs:= [bL ev]) [] rfl rfl Tryz.func168 (by kernel_rfl) rfl rfl rfl (eH.of trivial trivial (by decide) (by decide)) rfl iX rfl rfl rfl (fun k k'=>Mv.acc) (K7 fu ev _ hE)) (dI [5,9,12] oP (iY [2,13] hM (dN ?_)))))
 refine gQ 0 ?_;refine cO.ret ?_;refine PG (st':=⟨[],[⟨32,4,aD.trs g,false⟩,⟨55,5,aC.trs ev,false⟩]⟩) ⟨[0,1],rfl,fun i row hi=>?_,fun i j hi hj e=>?_⟩ ⟨⟨_,_,_,rfl,rfl,SH.h,rfl,rfl⟩,trivial⟩
 ·rcases i with _|_|i<;>simp at hi<;>subst hi<;>rfl
 ·rcases i with _|_|i<;>rcases j with _|_|j<;>simp at hi hj e<;>first|rfl|omega
end Go.Proofs.YtfcoaagbccmahaaGreat.W

namespace Go.Proofs.YtfcoaagbccmahaaGreat
open Go.RowKit Go.WalkArith Go.IntWalk Go.WideShapes
theorem BC{l:List (Option c3)}{k:Nat}{y:c3}(h:(l++ [none])[k]?=some (some y)):l[k]?=some (some y):=by
 rcases getElem?_snoc h with h|⟨h1,h2⟩
 ·exact h.2
 ·cases h2
theorem wW{l:List (Option c3)}{k i:Nat}{x y:c3}(h:(l.set k (some x))[i]?=some (some y)):(i≠k∧l[i]?=some (some y))∨(i=k∧y=x):=by
 rw [List.getElem?_set] at h
 split at h
 ·rename_i e
  split at h
  ·exact .inr ⟨e.symm,by cases h;rfl⟩
  ·cases h
 ·rename_i e
  exact .inl ⟨fun h=>e h.symm,h⟩
section
variable {st:c4} {m:jP} {w w':World} {x:c3} {b k:Nat}
theorem akG(hk:st.boxes[k]?=some none)(hx:uB w w')(hb:w.heap.size≤b):Ev st m w ⟨st.boxes.set k (some x),st.rows⟩ ⟨xC m.ρ k b,m.γ⟩ w':=by
 have hne: ∀ {i y},st.boxes[i]?=some (some y)→i≠k:=fun {i y} hi e=>by rw [e,hk] at hi;cases hi
 refine⟨hx.os,hx.tape,hx.output,hx.size,fun b hb _ _=>hx.block b hb,fun b o hb _=>iB (hx.block b hb),fun c o hc h=>⟨fun i y hi=>?_,h.2⟩,fun i y hi=>⟨⟨y,?_⟩,?_⟩,fun i y hi=>?_,fun _ row h=>⟨row,h,rfl,Nat.le_refl _,fun _=>rfl,fun h=>⟨h,rfl⟩⟩,fun _ row _ c h h'=> .inl ⟨row,c,h,h'⟩⟩
 ·rcases wW hi with⟨h1,h2⟩|⟨rfl,rfl⟩
  ·simp only [c6 h1]
   exact h.1 i y h2
  ·simp only [b4]
   omega
 ·show(st.boxes.set k (some x))[i]?=_
  rw [List.getElem?_set_ne (hne hi).symm];exact hi
 ·exact c6 (hne hi)
 ·rcases wW hi with⟨h1,h2⟩|⟨rfl,rfl⟩
  ·exact .inl ⟨y,h2⟩
  ·exact .inr (by simpa [b4] using hb)
theorem aoJ{av:Nat→Nat→Prop}{vs:List Value}(hk:st.boxes[k]?=some none)(h:eW av st m w)(hx:uB w w')(hb:w.heap.size≤b)(ho:ZA w' b x.ty vs)
 (hc:f6 (kJ av ⟨st.boxes.set k (some x),st.rows⟩ ⟨xC m.ρ k b,m.γ⟩) ⟨st.boxes.set k (some x),st.rows⟩ ⟨xC m.ρ k b,m.γ⟩ w' x.cells vs):eW av ⟨st.boxes.set k (some x),st.rows⟩ ⟨xC m.ρ k b,m.γ⟩ w':=by
 have he:Ev st m w ⟨st.boxes.set k (some x),st.rows⟩ ⟨xC m.ρ k b,m.γ⟩ w':=akG hk hx hb
 have hw:=fun i y (hi:st.boxes[i]?=some (some y))=>h.box_lt hi
 refine⟨fun i y hi=>?_,fun i i' y y' hi hi' hne=>?_,fun r row hr=>?_,h.rinj,fun i y r row g c hi hr hg=>?_,fun b o hb=>Nat.lt_of_lt_of_le (h.avlt b o hb) hx.size,h.avr,fun i y hi o ha=>?_⟩
 ·rcases wW hi with⟨h1,h2⟩|⟨rfl,rfl⟩
  ·obtain⟨us,k1,k2⟩:=h.box i y h2
   simp only [c6 h1]
   exact⟨us,k1.ext hx,f6.mono he _ _ k2⟩
  ·simp only [b4]
   exact⟨vs,ho,hc⟩
 ·rcases wW hi with⟨h1,h2⟩|⟨rfl,rfl⟩<;>rcases wW hi' with⟨h1',h2'⟩|⟨rfl,rfl⟩
  ·simp only [c6 h1,c6 h1']
   exact h.binj i i' y y' h2 h2' hne
  ·simp only [c6 h1,b4]
   have:=hw i y h2
   omega
  ·simp only [c6 h1',b4]
   have:=hw i' y' h2'
   omega
  ·exact absurd rfl hne
 ·obtain⟨k1,k2,k3⟩:=h.row r row hr
  refine⟨k1,k2,?_⟩
  rcases k3 with k3|⟨g,c,cur,q1,q2,q3,q4,q5,q6⟩
  ·exact .inl k3
  ·exact .inr ⟨g,c,cur,q1,q2.ext hx,q3,q4,q5,RV.mono he (.t _) _ q6⟩
 ·rcases wW hi with⟨h1,h2⟩|⟨rfl,rfl⟩
  ·simp only [c6 h1]
   exact h.br i y r row g c h2 hr hg
  ·simp only [b4]
   have:=h.row_lt hr hg
   omega
 ·rcases wW hi with⟨h1,h2⟩|⟨rfl,rfl⟩
  ·simp only [c6 h1] at ha
   exact h.avb i y h2 o ha
  ·simp only [b4] at ha
   have:=h.avlt _ _ ha
   omega
end
section
variable {P:Program} {C:nR} {n:Nat} {s:AS} {o:Oper}
theorem Wk.slot:Wk C n s ⟨s.env,⟨s.st.boxes++ [none],s.st.rows⟩⟩:=fun m a w h=>by
 have hE:Ev s.st m w ⟨s.st.boxes++ [none],s.st.rows⟩ m w:=⟨rfl,rfl,rfl,Nat.le_refl _,fun _ _ _ _=>rfl,fun _ _ _ _=>rfl,fun b o _ h=>⟨fun k y hk=>h.1 k y (BC hk),h.2⟩,fun k y hk=>⟨⟨y,by show(s.st.boxes++ [none])[k]?=_;rw [List.getElem?_append_left (cU hk)];exact hk⟩,rfl⟩,fun k y hk=> .inl ⟨y,BC hk⟩,fun _ row h=>⟨row,h,rfl,Nat.le_refl _,fun _=>rfl,fun h=>⟨h,rfl⟩⟩,fun _ row _ c h h'=> .inl ⟨row,c,h,h'⟩⟩
 refine⟨m,h.step hE ⟨fun k y hk=>?_,fun k k' y y' hk hk' hne=>h.sto.binj k k' y y' (BC hk) (BC hk') hne,fun r row hr=>?_,h.sto.rinj,fun k y r row g c hk=>h.sto.br k y r row g c (BC hk),h.sto.avlt,h.sto.avr,fun k y hk=>h.sto.avb k y (BC hk)⟩⟩
 ·obtain⟨vs,k1,k2⟩:=h.sto.box k y (BC hk)
  exact⟨vs,k1,f6.mono hE _ _ k2⟩
 ·obtain⟨k1,k2,k3⟩:=h.sto.row r row hr
  refine⟨k1,k2,?_⟩
  rcases k3 with k3|⟨g,c,cur,q1,q2,q3,q4,q5,q6⟩
  ·exact .inl k3
  ·exact .inr ⟨g,c,cur,q1,q2,q3,q4,q5,RV.mono hE (.t _) _ q6⟩
theorem aqA(k:Nat){T:TypeId}{ps:List PV}(hz:gR P T=some ps)(ho:o.op= .alloc T:=by exact rfl)(hd:bJ o.dst n=true:=by exact rfl)(hk:s.st.boxes[k]?=some none:=by exact rfl):bD P C n o s ((⟨s.env,⟨s.st.boxes.set k (some ⟨T,ps⟩),s.st.rows⟩⟩:AS).putO o.dst (.ptr k 0)):=
 bD.run hd (s1:=⟨s.env,⟨s.st.boxes.set k (some ⟨T,ps⟩),s.st.rows⟩⟩) (fun m a w h=>by
  obtain⟨i,z,hi,hzz,hr⟩:=gR.spec hz
  refine⟨.pointer (some ⟨w.heap.size,0,none⟩),⟨xC m.ρ k w.heap.size,m.γ⟩,w.alloc (.cells ⟨z.cells.toList⟩ T),?_,akG hk (.alloc (.refl _) _) (Nat.le_refl _),aoJ (vs:=z.cells.toList) hk h.sto (.alloc (.refl _) _) (Nat.le_refl _) (ZA.of (OB.new w _ _)) (hr _ _ _ _),⟨⟨T,ps⟩,?_⟩,by simp [b4]⟩
  ·unfold execOp
   simp [ho,Instr.alloc,zeroValue,typeInfo,hi,hzz,newVar,newRow]
  ·show(s.st.boxes.set k _)[k]?=_
   rw [List.getElem?_set_self (cU hk)]) rfl
end
end Go.Proofs.YtfcoaagbccmahaaGreat

namespace Go.Proofs.YtfcoaagbccmahaaGreat.W
set_option maxRecDepth 100000
set_option maxHeartbeats 40000000
noncomputable section
open Tryz Go.RowKit Go.Proofs
attribute [local irreducible] lt
def HJ(fu:Nat)(pl:List aD):Nat→((List aD))→Option (LR ((List aD)) ((List aD))):=fun i2 v3=>gd (gK ((aT pl i2).aBu)) (gd (i2=(v3).length) (some (.next (v3++([(aD.mk ((aT pl i2).aBz) ((aT pl i2).aBu))]:List aD)))))
def w5(fu:Nat)(pl:List aD):Option ((List aD)):=gd (pl.length≤68719476736) (so (loopN (HJ fu pl) (pl.length-0) 0 ([])) fun v3=>gd ((v3).length=pl.length) (some v3))
theorem VA(fu:Nat)(pl:List aD)(r:(List aD))(H:w5 fu pl=some r):bQ Tryz.prog 75 [bW pl] (.lit 4 (aD.trs (r))):=by
 refine qJ func75 H (fun C hC H=>?_)
 refine gQ 8 ?_;refine cA H fun z1 H=>(q1 (bD.makeSlice (N:=pl.length) rfl rfl rfl rfl alK.h arB.h (by decide) (Nat.le_trans (Nat.mul_le_mul_left _ z1) (by decide)) (Nat.le_trans z1 (by decide))) ?_)
 refine gQ 9 ?_;refine fS 0 (aD.trs_len _) (fun hl4=>?_)
 try dsimp only at hl4
 refine bU (σ:=(List aD)) (fun i2 v3=>⟨[(2,.nil),(3,.full 4 (pl.length) 0),(9,bW pl),(10,pN pl.length),(11,pN i2)],⟨[],[⟨32,4,aD.trs (v3),true⟩]⟩⟩) (fun v3=>⟨[(2,.nil),(3,.full 4 (pl.length) 0)],⟨[],[⟨32,4,aD.trs (v3),true⟩]⟩⟩) (eJ H) ?_ ?_
 ·rintro i2 v3 H
  refine gQ 5 ?_;refine cT H (fun h5 h5l H=>?_) (fun h5 H=>?_)
  ·refine gQ 7 ?_;refine q1 (gS (aD.cs (aT pl i2))) ?_;refine gQ 4 ?_;refine cA H fun z6 H=>(cA H fun z7 H=>(dW (dI [3] bH (dI [4] bH (dI [5] bZ (dD [18] eB (dI [5] bZ (dD [20] (b6 [pI (((aT pl i2).aBu).aBw),pS (((aT pl i2).aBu).aBs),aU (((aT pl i2).aBu).aBt)]) (dI [21] (bI func79 (rP ((aT pl i2).aBu) z6)) (dI [19,22] oP (dI [16,17] (bD.indexFull (k:=i2) rfl rfl rfl rfl h5l alK.h) ?_)))))))))))
   refine iY [24,23,16] (bD.storeRptr (e:=aD.cs (aD.mk ((aT pl i2).aBz) ((aT pl i2).aBu))) (es2:=aD.trs (v3++([(aD.mk ((aT pl i2).aBz) ((aT pl i2).aBu))]:List aD))) 16 rfl rfl rfl rfl rfl rfl iX rfl rfl avJ.h (by rw [aD.trs_len];exact z7) h5l (by rw [aD.trs_map,aD.trs_map,List.map_append];simp [aD.tr_cs])) ?_;refine dN ?_;exact gE 4
  exact gE 0
 rintro v3 H
 refine gQ 3 ?_;refine cA H fun z8 H=>?_;refine AL.weak (Wk.fullLit (i:=26) rfl rfl (by rw [aD.trs_len];exact z8)) ?_;exact gE 2
def yA(fu:Nat)(pb c1:aD):Option Bool:=bd (uK fu pb c1) fun x2=>some x2
theorem P5(fu:Nat)(pb:aD)(c1:aD)(r:Bool)(H:yA fu pb c1=some r):cB Tryz.prog 83 [(aD.pv pb),.ptr 0 0] ⟨[some ⟨32,cH c1⟩],[]⟩ (fun q t=>q=(pB r)∧t=⟨[some ⟨32,cH c1⟩],[]⟩):=by
 refine qJ func83 H (fun C hC H=>?_)
 refine gQ 2 ?_;refine q1 (fE (cH pb)) ?_;refine gQ 4 ?_;refine q1 (b6 [pS pb.aBz,pI pb.aBu.aBw,pS pb.aBu.aBs,aU pb.aBu.aBt]) (q1 (b6 [pS c1.aBz,pI c1.aBu.aBw,pS c1.aBu.aBs,aU c1.aBu.aBt]) (bM H fun x2 z1 H=>(q1 (bI func84 (KX fu pb c1 _ z1)) ?_)))
 exact gE 2
def lU(fu:Nat)(ps:List aD)(c1_0:aD):Nat→Unit→Option (LR Unit Int):=fun i1 _=>bd (yA fu (aT ps i1) c1_0) fun x5=>sw x5 (some (.ret (i1:Int))) (some (.next ()))
def iW(fu:Nat)(ps:List aD)(c1_0:aD):Option Int:=so (loopN (lU fu ps c1_0) (ps.length-0) 0 ()) fun _=>some (-1)
theorem tD(fu:Nat)(ps:List aD)(c1_0:aD)(r:Int)(H:iW fu ps c1_0=some r):cB Tryz.prog 82 [bW ps,.fn 83 [.ptr 0 0]] ⟨[some ⟨32,cH c1_0⟩],[]⟩ (fun q t=>q=(pI r)∧t=⟨[some ⟨32,cH c1_0⟩],[]⟩):=by
 refine qJ func82 H (fun C hC H=>?_)
 refine gQ 11 ?_;refine fS 0 (aD.trs_len _) (fun hl2=>?_)
 try dsimp only at hl2
 refine bU (σ:=Unit) (fun i1 _=>⟨[(0,bW ps),(1,.fn 83 [.ptr 0 0]),(4,pI 0),(7,pN ps.length),(8,pN i1)],⟨[some ⟨32,cH c1_0⟩],[]⟩⟩) (fun _=>⟨[(4,pI 0)],⟨[some ⟨32,cH c1_0⟩],[]⟩⟩) (eJ H) ?_ ?_
 ·rintro i1 ⟨⟩ H
  refine gQ 5 ?_;refine cT H (fun h3 h3l H=>?_) (fun h3 H=>?_)
  ·refine gQ 14 ?_;refine q1 (gS (aD.cs (aT ps i1))) (bM H fun x5 z4 H=>(q1 (bD.callVPE (pre:=⟨[some ⟨32,cH c1_0⟩],[]⟩) (st':=⟨[some ⟨32,cH c1_0⟩],[]⟩) (ps:= [_]) (cs:= [.ptr 0 0]) (qs:= [(aD.pv (aT ps i1)),.ptr 0 0]) [0] [] rfl rfl rfl func83 (by kernel_rfl) rfl rfl rfl (eH.of ⟨⟨_,rfl,rfl,iX,rfl⟩,trivial⟩ trivial (by decide) (by decide)) iX rfl rfl rfl (P5 fu (aT ps i1) c1_0 _ z4)) (qN ?_)))
   refine bF H (fun h6 H=>gE 5) fun h6 H=>?_;exact gE 5
  exact gE 0
 rintro⟨⟩ H
 exact gE 4
def sS(fu:Nat)(pm:bC)(pg:aD):Option Int:=bd (iW fu pm.aBO pg) fun x2=>some x2
theorem G7(fu:Nat)(pm:bC)(pg:aD)(r:Int)(H:sS fu pm pg=some r):bQ Tryz.prog 32 [(bC.pv pm),(aD.pv pg)] (pI r):=by
 refine qJ func32 H (fun C hC H=>?_)
 refine gQ 2 ?_;refine q1 (fE (AG pm)) (q1 (fE (cH pg)) ?_)
 refine gQ 6 ?_;refine q1 rMf (bM H fun x2 z1 H=>(q1 (fD [1] [] func82 (tD fu pm.aBO pg _ z1)) ?_))
 exact gE 2
def nE(fu:Nat)(pw:aH)(pm:bC)(pg:aD):Option (bC×aC×Int):=bd (w5 fu pm.aBO) fun x2=>gd ((pm.aBQ).length≤68719476735) (gd (am5 pm.aBG) (gd (R4 pw ([])) (gd (wt (aD.aBu pg)≤13000000) (gd (gK pg.aBu) (sw (iQ pg.aBu) (bd (sS fu pm pg) fun x10=>sw (decide (x10<0)) (gd (x2.length+(([pg]:List aD)).length≤68719476736) (gd ((pm.aBQ).length+(([((iN pw ([]) pg).2)]:List Int)).length≤68719476736) (gd (CK ((iN pw ([]) pg).1)) (gd ((pm.aBG).length+(([((iN pw ([]) pg).1)]:List aC)).length≤68719476736) (some ((bC.mk (x2++([pg]:List aD)) (pm.aBQ++([((iN pw ([]) pg).2)]:List Int)) (pm.aBG++([((iN pw ([]) pg).1)]:List aC))),((iN pw ([]) pg).1),((iN pw ([]) pg).2))))))) (some ((bC.mk x2 pm.aBQ pm.aBG),((iN pw ([]) pg).1),((iN pw ([]) pg).2)))) (some ((bC.mk x2 pm.aBQ pm.aBG),((iN pw ([]) pg).1),((iN pw ([]) pg).2))))))))
theorem GD(fu:Nat)(pw:aH)(pm:bC)(pg:aD)(r:bC×aC×Int)(H:nE fu pw pm pg=some r):bQ Tryz.prog 29 [(aH.pv pw),(bC.pv pm),(aD.pv pg)] (.tup [(bC.pv r.1),(aC.pv r.2.1),pI r.2.2]):=by
 refine qJ func29 H (fun C hC H=>?_)
 refine gQ 2 ?_;refine q1 (fE ([aR pw.aBr])) (q1 (fE (AG pm)) (q1 (fE (cH pg)) ?_))
 refine gQ 5 ?_;refine bM H fun x2 z1 H=>(cA H fun z3 H=>(cA H fun z4 H=>(dWa (dI [4] bZ (XL [12] 0 0 sM (dI [13] (rCl func75 (VA fu pm.aBO _ z1)) (dI [4] bZ (XL [15] 0 0 sM ?_))))))))
 refine dEz [16] (fun _ z=>by cases z<;>exact bD.callOwn (pre:=⟨[],[]⟩) (B:= []) (R:=fun k=>aI pm.aBQ k) (ps:= [_]) (qs:= [rI pm.aBQ]) [] rfl rfl func76 (by kernel_rfl) rfl rfl rfl (eH.of trivial trivial (by decide) (by decide)) rfl iX rfl rfl rfl (fun k k'=>Mv.acc) (aa2 pm.aBQ z3)) ?_;refine dI [4] bZ (XL [18] 0 1 sM (dI [19] (rCl func77 (aeJ pm.aBG z4)) (dI [14,17,20] oP (dA (fun _ st h=>vAl h arD.h) (dZ 9 [9,21] hM (dN ?_))))))
 refine gQ 2 ?_;refine q1 (b6 [aR pw.aBr]) (q1 (b6 [pS pg.aBz,pI pg.aBu.aBw,pS pg.aBu.aBs,aU pg.aBu.aBt]) (cA H fun z5 H=>(cA H fun z6 H=>(q1 (bI func18 (ZK pw ([]) pg z5 z6)) ?_))))
 refine gQ 11 ?_;refine q1 (b6 [pI pg.aBu.aBw,pS pg.aBu.aBs,aU pg.aBu.aBt]) (cA H fun z7 H=>(q1 (bI func78 (N7 pg.aBu z7)) (q1 bH ?_)))
 refine AL.weak (s':=⟨[(4,.ptr 1 0),(5,.ptr 2 0),(6,.ptr 3 0),(7,.ptr 4 0),(8,pI 0),(9,.ptr 5 0),(10,.ptr 6 0),(11,pI ((iN pw ([]) pg).2)),(31,pB (iQ pg.aBu))],⟨[some ⟨26,[aR pw.aBr]⟩,some ⟨68,AG pm⟩,some ⟨32,cH pg⟩,some ⟨68,[.nil,.nil,.nil]⟩,some ⟨55,[pI 0,pI 0,pI 0,pI 0,.nil]⟩,some ⟨68,[.lit 4 (aD.trs (x2)),aI pm.aBQ 0,.lit 5 (aC.trs (pm.aBG))]⟩,some ⟨55,lJ ((iN pw ([]) pg).1)⟩],[⟨3,1,d9 (pm.aBQ),false⟩]⟩⟩) wkA ?_;refine dL 31 H (fun g8 H=>?_) fun g8 H=>?_
 ·refine qg g8 (b6 [bW pm.aBO,rI pm.aBQ,bL pm.aBG]) (qg g8 (b6 [pS pg.aBz,pI pg.aBu.aBw,pS pg.aBu.aBs,aU pg.aBu.aBt]) (bM H fun x10 z9 H=>(qg g8 (bI func32 (G7 fu pm pg _ z9)) ?_)))
  refine gQ 3 ?_;refine bF H (fun h11 H=>?_) (fun h11 H=>?_)
  ·refine qS (cA H fun z12 H=>(dW (dI [9] bZ (dD [37] eB (dI [5] bZ (dD [39] eB (dI [5] bZ (dD [41] (b6 [pI pg.aBu.aBw,pS pg.aBu.aBs,aU pg.aBu.aBt]) (dI [42] (bI func79 (rP pg.aBu z7)) (dI [40,43] oP (dI [44] (fY ([pg]:List aD)) ?_)))))))))))
   refine dI [38,45] (bD.appendLit (es1:=aD.trs (x2)) (es2:=aD.trs (([pg]:List aD))) (es3:=aD.trs (x2++([pg]:List aD))) rfl rfl rfl rfl rfl (fun e he=>by rw [aD.trs_map] at he;obtain⟨x,_,rfl⟩:=List.mem_map.1 he;rw [aD.tr_cs];rfl) (fun e he=>by rw [aD.trs_map] at he;obtain⟨x,_,rfl⟩:=List.mem_map.1 he;rw [aD.tr_cs];rfl) (by rw [aD.trs_map];exact List.cons_ne_nil _ _) (by decide) alK.h arB.h (by decide) (by rw [aD.trs_len,aD.trs_len];exact uW z12 (by decide)) (by rw [aD.trs_map,aD.trs_map,aD.trs_map,List.map_append])) ?_;refine dI [9] bZ (iY [47,46] hM (dN ?_))
   refine gQ 5 ?_;refine q1 (fY ([((iN pw ([]) pg).2)]:List Int)) (cA H fun z13 H=>(q1 (jO z13) ?_))
   refine gQ 3 ?_;refine cA H fun z14 H=>(cA H fun z15 H=>(dW (dI [9] bZ (dD [54] eB (dD [10] (b6 [pI (((iN pw ([]) pg).1).aBw),pI (((iN pw ([]) pg).1).aCa),pI (((iN pw ([]) pg).1).aBS.aBD),pI (((iN pw ([]) pg).1).aBS.aBS),bL (((iN pw ([]) pg).1).aBt)]) (dI [56] (bI func80 (alR ((iN pw ([]) pg).1) z14)) (dI [57] (fY ([((iN pw ([]) pg).1)]:List aC)) ?_)))))))
   refine dI [55,58] (bD.appendLit (es1:=aC.trs (pm.aBG)) (es2:=aC.trs (([((iN pw ([]) pg).1)]:List aC))) (es3:=aC.trs (pm.aBG++([((iN pw ([]) pg).1)]:List aC))) rfl rfl rfl rfl rfl (fun e he=>by rw [aC.trs_map] at he;obtain⟨x,_,rfl⟩:=List.mem_map.1 he;rw [aC.tr_cs];rfl) (fun e he=>by rw [aC.trs_map] at he;obtain⟨x,_,rfl⟩:=List.mem_map.1 he;rw [aC.tr_cs];rfl) (by rw [aC.trs_map];exact List.cons_ne_nil _ _) (by decide) aqQ.h asL.h (by decide) (by rw [aC.trs_len,aC.trs_len];exact uW z15 (by decide)) (by rw [aC.trs_map,aC.trs_map,aC.trs_map,List.map_append])) ?_;refine dI [9] bZ (iY [60,59] hM (dN (qS (dW (dD [9] (b6 [bW (x2++([pg]:List aD)),aI (pm.aBQ++([((iN pw ([]) pg).2)]:List Int)) 0,bL (pm.aBG++([((iN pw ([]) pg).1)]:List aC))]) (dB [10] 0 1 (zN [pI (((iN pw ([]) pg).1).aBw),pI (((iN pw ([]) pg).1).aCa),pI (((iN pw ([]) pg).1).aBS.aBD),pI (((iN pw ([]) pg).1).aBS.aBS),bL (((iN pw ([]) pg).1).aBt)]) (dI [11] bH (iY [6,61] hM (iY [7,62] hM (dI [63] bH (dN (cO.ret ?_))))))))))))
   cases s3 H
   exact qe3 (hr:=⟨⟨_,_,_,rfl,rfl,abZ.h,rfl,rfl⟩,⟨_,_,_,rfl,rfl,abY.h,rfl,rfl⟩,rfl,trivial⟩)
  refine gQ 2 ?_;refine dW (dD [9] (b6 [.lit 4 (aD.trs (x2)),aI pm.aBQ 0,.lit 5 (aC.trs (pm.aBG))]) (dB [10] 0 1 (zN [pI (((iN pw ([]) pg).1).aBw),pI (((iN pw ([]) pg).1).aCa),pI (((iN pw ([]) pg).1).aBS.aBD),pI (((iN pw ([]) pg).1).aBS.aBS),bL (((iN pw ([]) pg).1).aBt)]) (dI [11] bH (iY [6,61] hM (iY [7,62] hM (dI [63] bH (dN (cO.ret ?_))))))))
  cases s3 H
  exact qe3 (hr:=⟨⟨_,_,_,rfl,rfl,abZ.h,rfl,rfl⟩,⟨_,_,_,rfl,rfl,abY.h,rfl,rfl⟩,rfl,trivial⟩)
 refine gQ 9 ?_;refine dW (dD [9] (b6 [.lit 4 (aD.trs (x2)),aI pm.aBQ 0,.lit 5 (aC.trs (pm.aBG))]) (dB [10] 0 1 (zN [pI (((iN pw ([]) pg).1).aBw),pI (((iN pw ([]) pg).1).aCa),pI (((iN pw ([]) pg).1).aBS.aBD),pI (((iN pw ([]) pg).1).aBS.aBS),bL (((iN pw ([]) pg).1).aBt)]) (dI [11] bH (iY [6,61] hM (iY [7,62] hM (dI [63] bH (dN (cO.ret ?_))))))))
 cases s3 H
 exact qe3 (hr:=⟨⟨_,_,_,rfl,rfl,abZ.h,rfl,rfl⟩,⟨_,_,_,rfl,rfl,abY.h,rfl,rfl⟩,rfl,trivial⟩)
def H6(fu:Nat)(pm:bC)(pg:aD):Nat→Unit→Option (LR Unit Int):=fun i1 _=>bd (uY fu (aT pm.aBO i1) pg) fun x5=>sw x5 (some (.ret (i1:Int))) (some (.next ()))
def pT(fu:Nat)(pm:bC)(pg:aD):Option Int:=so (loopN (H6 fu pm pg) (pm.aBO.length-0) 0 ()) fun _=>some (-1)
theorem AW(fu:Nat)(pm:bC)(pg:aD)(r:Int)(H:pT fu pm pg=some r):bQ Tryz.prog 33 [(bC.pv pm),(aD.pv pg)] (pI r):=by
 refine qJ func33 H (fun C hC H=>?_)
 refine gQ 2 ?_;refine q1 (fE (AG pm)) (q1 (fE (cH pg)) ?_)
 refine gQ 7 ?_;refine cO.fact (cK 0 0 rfl rfl rfl (aD.trs_len _)) (fun hl2=>?_)
 try dsimp only at hl2
 refine bU (σ:=Unit) (fun i1 _=>⟨[(2,.ptr 0 0),(3,.ptr 1 0),(4,pI 0),(5,pN i1)],⟨[some ⟨68,AG pm⟩,some ⟨32,cH pg⟩],[]⟩⟩) (fun _=>⟨[(4,pI 0)],⟨[some ⟨68,AG pm⟩,some ⟨32,cH pg⟩],[]⟩⟩) (eJ H) ?_ ?_
 ·rintro i1 ⟨⟩ H
  refine gQ 9 ?_;refine cT H (fun h3 h3l H=>?_) (fun h3 H=>?_)
  ·refine gQ 4 ?_;refine bM H fun x5 z4 H=>(dW (dI [2] bZ (dD [13] eB (dI [5] bH (dI [14,15] m9 (dI [16] (gS (aD.cs (aT pm.aBO i1))) (dD [3] (b6 [pS pg.aBz,pI pg.aBu.aBw,pS pg.aBu.aBs,aU pg.aBu.aBt]) (dI [17,18] (bI func55 (KZ fu (aT pm.aBO i1) pg _ z4)) (dN ?_)))))))))
   refine bF H (fun h6 H=>gE 5) fun h6 H=>?_;exact gE 6
  exact gE 0
 rintro⟨⟩ H
 exact gE 4
def nM(fu:Nat)(pw:aH)(pm:bC)(pg:aD):Option (bC×aC×Int):=gd (TS pm) (sw (decide ((bC.aBQ pm).length=0)) (gd (R4 pw ([])) (gd (wt (aD.aBu pg)≤13000000) (gd (gK pg.aBu) (sw (iQ pg.aBu) (bd (pT fu pm pg) fun x8=>sw (decide (x8<0)) (gd (((bC.aBO pm)).length+(([pg]:List aD)).length≤68719476736) (gd (((bC.aBQ pm)).length+(([((eN pw ([]) pg).2)]:List Int)).length≤68719476736) (gd (CK ((eN pw ([]) pg).1)) (gd (((bC.aBG pm)).length+(([((eN pw ([]) pg).1)]:List aC)).length≤68719476736) (some ((bC.mk ((bC.aBO pm)++([pg]:List aD)) ((bC.aBQ pm)++([((eN pw ([]) pg).2)]:List Int)) ((bC.aBG pm)++([((eN pw ([]) pg).1)]:List aC))),((eN pw ([]) pg).1),((eN pw ([]) pg).2))))))) (some ((bC.mk (bC.aBO pm) (bC.aBQ pm) (bC.aBG pm)),((eN pw ([]) pg).1),((eN pw ([]) pg).2)))) (some ((bC.mk (bC.aBO pm) (bC.aBQ pm) (bC.aBG pm)),((eN pw ([]) pg).1),((eN pw ([]) pg).2))))))) (gd (R4 pw ([])) (gd (wt (aD.aBu pg)≤13000000) (gd (gK pg.aBu) (sw (iQ pg.aBu) (bd (pT fu pm pg) fun x19=>sw (decide (x19<0)) (gd (((bC.aBO pm)).length+(([pg]:List aD)).length≤68719476736) (gd (((bC.aBQ pm)).length+(([((eN pw ([]) pg).2)]:List Int)).length≤68719476736) (gd (CK ((eN pw ([]) pg).1)) (gd (((bC.aBG pm)).length+(([((eN pw ([]) pg).1)]:List aC)).length≤68719476736) (some ((bC.mk ((bC.aBO pm)++([pg]:List aD)) ((bC.aBQ pm)++([((eN pw ([]) pg).2)]:List Int)) ((bC.aBG pm)++([((eN pw ([]) pg).1)]:List aC))),((eN pw ([]) pg).1),((eN pw ([]) pg).2))))))) (some ((bC.mk (bC.aBO pm) (bC.aBQ pm) (bC.aBG pm)),((eN pw ([]) pg).1),((eN pw ([]) pg).2)))) (some ((bC.mk (bC.aBO pm) (bC.aBQ pm) (bC.aBG pm)),((eN pw ([]) pg).1),((eN pw ([]) pg).2))))))))
theorem GJ(fu:Nat)(pw:aH)(pm:bC)(pg:aD)(r:bC×aC×Int)(H:nM fu pw pm pg=some r):bQ Tryz.prog 71 [(aH.pv pw),(bC.pv pm),(aD.pv pg)] (.tup [(bC.pv r.1),(aC.pv r.2.1),pI r.2.2]):=by
 refine qJ func71 H (fun C hC H=>?_)
 refine gQ 2 ?_;refine q1 (fE ([aR pw.aBr])) (q1 (fE (AG pm)) (q1 (fE (cH pg)) ?_))
 refine gQ 6 ?_;refine q1 (b6 [bW pm.aBO,rI pm.aBQ,bL pm.aBG]) (cA H fun z1 H=>?_)
 rcases nS (decide ((bC.aBQ pm).length=0)) with g2|g2
 ·have H:=sE H g2
  refine q1 (bD.callOwn2 (ps:= [_]) rfl rfl func128 (by kernel_rfl) rfl rfl iX rfl (aeW pm z1 g2)) ?_;refine gQ 5 ?_;refine q1 (b6 [aR pw.aBr]) (q1 (b6 [pS pg.aBz,pI pg.aBu.aBw,pS pg.aBu.aBs,aU pg.aBu.aBt]) (cA H fun z3 H=>(cA H fun z4 H=>(q1 (bI func19 (Z4 pw ([]) pg z3 z4)) ?_))))
  refine gQ 11 ?_;refine q1 (b6 [pI pg.aBu.aBw,pS pg.aBu.aBs,aU pg.aBu.aBt]) (cA H fun z5 H=>(q1 (bI func34 (FK pg.aBu z5)) (q1 bH ?_)))
  refine AL.weak (s':=⟨[(4,.ptr 1 0),(5,.ptr 2 0),(6,.ptr 3 0),(7,.ptr 4 0),(8,pI 0),(9,.ptr 5 0),(10,.ptr 6 0),(11,pI ((eN pw ([]) pg).2)),(23,pB (iQ pg.aBu))],⟨[some ⟨26,[aR pw.aBr]⟩,some ⟨68,AG pm⟩,some ⟨32,cH pg⟩,some ⟨68,[.nil,.nil,.nil]⟩,some ⟨55,[pI 0,pI 0,pI 0,pI 0,.nil]⟩,some ⟨68,[nV (bC.aBO pm) 0,.lit 1 (d9 ((bC.aBQ pm))),eX (bC.aBG pm) 1]⟩,some ⟨55,lJ ((eN pw ([]) pg).1)⟩],[⟨32,4,aD.trs ((bC.aBO pm)),false⟩,⟨55,5,aC.trs ((bC.aBG pm)),false⟩]⟩⟩) wkA ?_;refine dL 23 H (fun g6 H=>?_) fun g6 H=>?_
  ·refine qg g6 (b6 [bW pm.aBO,rI pm.aBQ,bL pm.aBG]) (qg g6 (b6 [pS pg.aBz,pI pg.aBu.aBw,pS pg.aBu.aBs,aU pg.aBu.aBt]) (bM H fun x8 z7 H=>(qg g6 (bI func33 (AW fu pm pg _ z7)) ?_)))
   refine gQ 3 ?_;refine bF H (fun h9 H=>?_) (fun h9 H=>?_)
   ·refine qS (cA H fun z10 H=>(dW (dI [9] bZ (dD [29] eB (dI [5] bZ (dD [31] eB (dI [5] bZ (dD [33] (b6 [pI pg.aBu.aBw,pS pg.aBu.aBs,aU pg.aBu.aBt]) (dI [34] (bI func56 (tW pg.aBu z5)) (dI [32,35] oP (dI [36] (fY ([pg]:List aD)) (dE [30,37] (jO z10) (dI [9] bZ ?_)))))))))))))
    refine iY [39,38] hM (dN ?_)
    refine gQ 5 ?_;refine q1 (fY ([((eN pw ([]) pg).2)]:List Int)) (cA H fun z11 H=>?_)
    refine q1 (bD.appendLit (es1:=d9 ((bC.aBQ pm))) (es2:=d9 (([((eN pw ([]) pg).2)]:List Int))) (es3:=d9 ((bC.aBQ pm)++([((eN pw ([]) pg).2)]:List Int))) rfl rfl rfl rfl rfl (VH _) (VH _) (by exact List.cons_ne_nil _ _) (by decide) aqR.h asM.h (by decide) (by rw [eG,eG];exact uW z11 (by decide)) (X6 _ _)) ?_;refine gQ 3 ?_;refine cA H fun z12 H=>(cA H fun z13 H=>(dW (dI [9] bZ (dD [46] eB (dD [10] (b6 [pI (((eN pw ([]) pg).1).aBw),pI (((eN pw ([]) pg).1).aCa),pI (((eN pw ([]) pg).1).aBS.aBD),pI (((eN pw ([]) pg).1).aBS.aBS),bL (((eN pw ([]) pg).1).aBt)]) (dI [48] (bI func129 (Z1 ((eN pw ([]) pg).1) z12)) (dI [49] (fY ([((eN pw ([]) pg).1)]:List aC)) (dE [47,50] (jO z13) (dI [9] bZ (iY [52,51] hM (dN (qS (dW ?_)))))))))))))
    refine dD [9] (b6 [nV ((bC.aBO pm)++([pg]:List aD)) 0,rI ((bC.aBQ pm)++([((eN pw ([]) pg).2)]:List Int)),eX ((bC.aBG pm)++([((eN pw ([]) pg).1)]:List aC)) 1]) (dB [10] 0 1 (zN [pI (((eN pw ([]) pg).1).aBw),pI (((eN pw ([]) pg).1).aCa),pI (((eN pw ([]) pg).1).aBS.aBD),pI (((eN pw ([]) pg).1).aBS.aBS),bL (((eN pw ([]) pg).1).aBt)]) (dI [11] bH (iY [6,53] hM (iY [7,54] hM (dI [55] bH (dN (cO.ret ?_)))))))
    cases s3 H
    exact qe3 (hr:=⟨⟨_,_,_,rfl,rfl,abZ.h,rfl,rfl⟩,⟨_,_,_,rfl,rfl,abY.h,rfl,rfl⟩,rfl,trivial⟩)
   refine gQ 2 ?_;refine dW (dD [9] (b6 [nV (bC.aBO pm) 0,.lit 1 (d9 ((bC.aBQ pm))),eX (bC.aBG pm) 1]) (dB [10] 0 1 (zN [pI (((eN pw ([]) pg).1).aBw),pI (((eN pw ([]) pg).1).aCa),pI (((eN pw ([]) pg).1).aBS.aBD),pI (((eN pw ([]) pg).1).aBS.aBS),bL (((eN pw ([]) pg).1).aBt)]) (dI [11] bH (iY [6,53] hM (iY [7,54] hM (dI [55] bH (dN (cO.ret ?_))))))))
   cases s3 H
   exact qe3 (hr:=⟨⟨_,_,_,rfl,rfl,abZ.h,rfl,rfl⟩,⟨_,_,_,rfl,rfl,abY.h,rfl,rfl⟩,rfl,trivial⟩)
  refine gQ 9 ?_;refine dW (dD [9] (b6 [nV (bC.aBO pm) 0,.lit 1 (d9 ((bC.aBQ pm))),eX (bC.aBG pm) 1]) (dB [10] 0 1 (zN [pI (((eN pw ([]) pg).1).aBw),pI (((eN pw ([]) pg).1).aCa),pI (((eN pw ([]) pg).1).aBS.aBD),pI (((eN pw ([]) pg).1).aBS.aBS),bL (((eN pw ([]) pg).1).aBt)]) (dI [11] bH (iY [6,53] hM (iY [7,54] hM (dI [55] bH (dN (cO.ret ?_))))))))
  cases s3 H
  exact qe3 (hr:=⟨⟨_,_,_,rfl,rfl,abZ.h,rfl,rfl⟩,⟨_,_,_,rfl,rfl,abY.h,rfl,rfl⟩,rfl,trivial⟩)
 have H:=sD H g2
 refine q1 (bD.callOwn3 (ps:= [_]) rfl rfl func128 (by kernel_rfl) rfl rfl iX rfl (aeX pm z1 g2)) ?_;refine gQ 5 ?_;refine q1 (b6 [aR pw.aBr]) (q1 (b6 [pS pg.aBz,pI pg.aBu.aBw,pS pg.aBu.aBs,aU pg.aBu.aBt]) (cA H fun z14 H=>(cA H fun z15 H=>(q1 (bI func19 (Z4 pw ([]) pg z14 z15)) ?_))))
 refine gQ 11 ?_;refine q1 (b6 [pI pg.aBu.aBw,pS pg.aBu.aBs,aU pg.aBu.aBt]) (cA H fun z16 H=>(q1 (bI func34 (FK pg.aBu z16)) (q1 bH ?_)))
 refine AL.weak (s':=⟨[(4,.ptr 1 0),(5,.ptr 2 0),(6,.ptr 3 0),(7,.ptr 4 0),(8,pI 0),(9,.ptr 5 0),(10,.ptr 6 0),(11,pI ((eN pw ([]) pg).2)),(23,pB (iQ pg.aBu))],⟨[some ⟨26,[aR pw.aBr]⟩,some ⟨68,AG pm⟩,some ⟨32,cH pg⟩,some ⟨68,[.nil,.nil,.nil]⟩,some ⟨55,[pI 0,pI 0,pI 0,pI 0,.nil]⟩,some ⟨68,[nV (bC.aBO pm) 0,aI (bC.aBQ pm) 1,eX (bC.aBG pm) 2]⟩,some ⟨55,lJ ((eN pw ([]) pg).1)⟩],[⟨32,4,aD.trs ((bC.aBO pm)),false⟩,⟨3,1,d9 ((bC.aBQ pm)),false⟩,⟨55,5,aC.trs ((bC.aBG pm)),false⟩]⟩⟩) wkA ?_;refine dL 23 H (fun g17 H=>?_) fun g17 H=>?_
 ·refine qg g17 (b6 [bW pm.aBO,rI pm.aBQ,bL pm.aBG]) (qg g17 (b6 [pS pg.aBz,pI pg.aBu.aBw,pS pg.aBu.aBs,aU pg.aBu.aBt]) (bM H fun x19 z18 H=>(qg g17 (bI func33 (AW fu pm pg _ z18)) ?_)))
  refine gQ 3 ?_;refine bF H (fun h20 H=>?_) (fun h20 H=>?_)
  ·refine qS (cA H fun z21 H=>(dW (dI [9] bZ (dD [29] eB (dI [5] bZ (dD [31] eB (dI [5] bZ (dD [33] (b6 [pI pg.aBu.aBw,pS pg.aBu.aBs,aU pg.aBu.aBt]) (dI [34] (bI func56 (tW pg.aBu z16)) (dI [32,35] oP (dI [36] (fY ([pg]:List aD)) (dE [30,37] (jO z21) (dI [9] bZ ?_)))))))))))))
   refine iY [39,38] hM (dN ?_)
   refine gQ 5 ?_;refine q1 (fY ([((eN pw ([]) pg).2)]:List Int)) (cA H fun z22 H=>(q1 (jO z22) ?_))
   refine gQ 3 ?_;refine cA H fun z23 H=>(cA H fun z24 H=>(dW (dI [9] bZ (dD [46] eB (dD [10] (b6 [pI (((eN pw ([]) pg).1).aBw),pI (((eN pw ([]) pg).1).aCa),pI (((eN pw ([]) pg).1).aBS.aBD),pI (((eN pw ([]) pg).1).aBS.aBS),bL (((eN pw ([]) pg).1).aBt)]) (dI [48] (bI func129 (Z1 ((eN pw ([]) pg).1) z23)) (dI [49] (fY ([((eN pw ([]) pg).1)]:List aC)) (dE [47,50] (jO z24) (dI [9] bZ (iY [52,51] hM (dN (qS (dW ?_)))))))))))))
   refine dD [9] (b6 [nV ((bC.aBO pm)++([pg]:List aD)) 0,aI ((bC.aBQ pm)++([((eN pw ([]) pg).2)]:List Int)) 1,eX ((bC.aBG pm)++([((eN pw ([]) pg).1)]:List aC)) 2]) (dB [10] 0 1 (zN [pI (((eN pw ([]) pg).1).aBw),pI (((eN pw ([]) pg).1).aCa),pI (((eN pw ([]) pg).1).aBS.aBD),pI (((eN pw ([]) pg).1).aBS.aBS),bL (((eN pw ([]) pg).1).aBt)]) (dI [11] bH (iY [6,53] hM (iY [7,54] hM (dI [55] bH (dN (cO.ret ?_)))))))
   cases s3 H
   exact qe3 (hr:=⟨⟨_,_,_,rfl,rfl,abZ.h,rfl,rfl⟩,⟨_,_,_,rfl,rfl,abY.h,rfl,rfl⟩,rfl,trivial⟩)
  refine gQ 2 ?_;refine dW (dD [9] (b6 [nV (bC.aBO pm) 0,aI (bC.aBQ pm) 1,eX (bC.aBG pm) 2]) (dB [10] 0 1 (zN [pI (((eN pw ([]) pg).1).aBw),pI (((eN pw ([]) pg).1).aCa),pI (((eN pw ([]) pg).1).aBS.aBD),pI (((eN pw ([]) pg).1).aBS.aBS),bL (((eN pw ([]) pg).1).aBt)]) (dI [11] bH (iY [6,53] hM (iY [7,54] hM (dI [55] bH (dN (cO.ret ?_))))))))
  cases s3 H
  exact qe3 (hr:=⟨⟨_,_,_,rfl,rfl,abZ.h,rfl,rfl⟩,⟨_,_,_,rfl,rfl,abY.h,rfl,rfl⟩,rfl,trivial⟩)
 refine gQ 9 ?_;refine dW (dD [9] (b6 [nV (bC.aBO pm) 0,aI (bC.aBQ pm) 1,eX (bC.aBG pm) 2]) (dB [10] 0 1 (zN [pI (((eN pw ([]) pg).1).aBw),pI (((eN pw ([]) pg).1).aCa),pI (((eN pw ([]) pg).1).aBS.aBD),pI (((eN pw ([]) pg).1).aBS.aBS),bL (((eN pw ([]) pg).1).aBt)]) (dI [11] bH (iY [6,53] hM (iY [7,54] hM (dI [55] bH (dN (cO.ret ?_))))))))
 cases s3 H
 exact qe3 (hr:=⟨⟨_,_,_,rfl,rfl,abZ.h,rfl,rfl⟩,⟨_,_,_,rfl,rfl,abY.h,rfl,rfl⟩,rfl,trivial⟩)
def O4(fu:Nat)(pc d1:DS):Nat→((List aD)×DS)→Option (LR ((List aD)×DS) ((List aD)×DS)):=fun i3 (v6,v5)=>sw (decide ((v6.length:Int)>0)) (lt (v5.after 3) fun d10=>sw (decide (v5.below 3=0)) (lt (d10.after v6.length) fun d13=>gd (d10.below v6.length<(v6).length) (gd ((v6).length+(([(aT v6 (d10.below v6.length))]:List aD)).length≤68719476736) (some (.next ((v6++([(aT v6 (d10.below v6.length))]:List aD)),d13))))) (bd (BA fu d10) fun(x18,x19)=>gd ((v6).length+(([x18]:List aD)).length≤68719476736) (some (.next ((v6++([x18]:List aD)),x19))))) (bd (BA fu v5) fun(x22,x23)=>gd ((v6).length+(([x22]:List aD)).length≤68719476736) (some (.next ((v6++([x22]:List aD)),x23))))
def CF(fu:Nat)(pc:DS):Option ((List aD)×DS):=lt (pc.after 6) fun d1=>so (loopN (O4 fu pc d1) (pc.below 6-0) 0 (([]),d1)) fun(v6,v5)=>some (v6,v5)
theorem acY(fu:Nat)(pc:DS)(r:(List aD)×DS)(H:CF fu pc=some r):cB Tryz.prog 70 [.ptr 0 0] ⟨[some ⟨133,dC pc⟩],[]⟩ (fun q t=>q=(bW r.1)∧t=⟨[some ⟨133,dC r.2⟩],[]⟩):=by
 refine qJ func70 H (fun C hC H=>?_)
 refine gQ 6 ?_;refine q1 (nU ([]:List aD)) ?_;refine gQ 5 ?_;refine fZ H fun d1 h2 H=>(q1 (fD [0] [] func73 (FF h2 (fK pc 6))) ?_)
 refine gQ 7 ?_
 have hb7:=DS.below_lt (d:=pc) (n:=6) (by decide)
 refine bU (σ:=(List aD)×DS) (fun i3 (v6,v5)=>⟨[(0,.ptr 0 0),(2,.nil),(3,nV v6 0),(4,pN (pc.below 6)),(5,pN i3)],⟨[some ⟨133,dC v5⟩],[⟨32,4,aD.trs (v6),false⟩]⟩⟩) (fun(v6,v5)=>⟨[(2,.nil),(3,nV v6 0)],⟨[some ⟨133,dC v5⟩],[⟨32,4,aD.trs (v6),false⟩]⟩⟩) (eJ H) ?_ ?_
 ·rintro i3 ⟨v6,v5⟩ H
  refine gQ 7 ?_;refine cT H (fun h8 h8l H=>?_) (fun h8 H=>?_)
  ·have h8n:i3<pc.below 6:=by have:=of_decide_eq_true h8;omega
   refine gQ 9 ?_;refine AL.weak (s':=⟨[(0,.ptr 0 0),(2,.nil),(3,nV v6 0),(4,pN (pc.below 6)),(5,pN i3),(9,pN i3),(10,pN (pc.below 6)),(11,pB (decide ((i3:Int)<(pc.below 6:Int)))),(14,nV v6 0),(15,pN v6.length),(16,pB (decide ((v6.length:Int)>0))),(17,pB (decide ((v6.length:Int)>0)))],⟨[some ⟨133,dC v5⟩],[⟨32,4,aD.trs (v6),false⟩]⟩⟩) wkA ?_;refine dL 17 H (fun g9 H=>?_) fun g9 H=>?_
   ·refine qg g9 bH (fZ H fun d10 h11 H=>(qg g9 (fD [0] [] func45 (FF h11 (m8 v5 3))) ?_))
    refine gQ 2 ?_;refine bF H (fun h12 H=>?_) (fun h12 H=>?_)
    ·refine gQ 6 ?_;refine fZ H fun d13 h14 H=>(q1 (fD [0] [] func73 (FF h14 (fK d10 v6.length))) (cA H fun z15 H=>(q1 m9 (q1 (gS (aD.cs (aT v6 (d10.below v6.length)))) (q1 (fY ([(aT v6 (d10.below v6.length))]:List aD)) (cA H fun z16 H=>(q1 (jO z16) ?_)))))))
     exact gE 7
    refine gQ 3 ?_;refine eF H fun x18 x19 z17 H=>(q1 (fD [0] [] func74 (SQ fu d10 _ z17)) (q1 (fY ([x18]:List aD)) (cA H fun z20 H=>(q1 (jO z20) ?_))))
    exact gE 7
   refine gQ 8 ?_;refine eF H fun x22 x23 z21 H=>(q1 (fD [0] [] func74 (SQ fu v5 _ z21)) (q1 (fY ([x22]:List aD)) (cA H fun z24 H=>(q1 (jO z24) ?_))))
   exact gE 7
  exact gE 0
 rintro⟨v6,v5⟩ H
 exact gE 5
def tA(fu:Nat)(p1:List UInt8):Option (aH×(List aD)):=gd ((p1).length≤1048576) (bd (IL fu (DS.start p1)) fun(x3,x4)=>bd (CF fu x4) fun(x6,x7)=>some (x3,x6))
theorem QU(fu:Nat)(p1:List UInt8)(r:aH×(List aD))(H:tA fu p1=some r):bQ Tryz.prog 25 [rU p1] (.tup [(aH.pv r.1),bW r.2]):=by
 refine qJ func25 H (fun C hC H=>?_)
 refine gQ 8 ?_;refine cA H fun z1 H=>(q1 (bD.callNew (ps:= [_]) rfl rfl func43 (by kernel_rfl) rfl rfl iX rfl rfl (aqW p1 z1)) ?_)
 refine gQ 5 ?_;refine eF H fun x3 x4 z2 H=>(q1 (fD [1] [] func69 (acU fu (DS.start p1) _ z2)) (q1 bH (eF H fun x6 x7 z5 H=>(q1 (fD [1] [] func70 (acY fu x4 _ z5)) ?_))))
 exact gE 3
def E4(fu:Nat)(pw:aH)(p0:List aD):Nat→((List aD)×(List Int)×(List aC)×Int×(List aC)×(List Int))→Option (LR ((List aD)×(List Int)×(List aC)×Int×(List aC)×(List Int)) ((List aC)×(List Int)×Int)):=fun i1 (v5,v6,v7,v4,v8,v9)=>bd (sS fu (bC.mk v5 v6 v7) (aT p0 i1)) fun x13=>sw (decide (x13≥0)) (bd (nE fu pw (bC.mk v5 v6 v7) (aT p0 i1)) fun(x16,x17,x18)=>gd ((v8).length+(([x17]:List aC)).length≤68719476736) (gd ((v9).length+(([x18]:List Int)).length≤68719476736) (some (.next (x16.aBO,x16.aBQ,x16.aBG,(aZ (v4+1)),(v8++([x17]:List aC)),(v9++([x18]:List Int))))))) (bd (nE fu pw (bC.mk v5 v6 v7) (aT p0 i1)) fun(x22,x23,x24)=>gd ((v8).length+(([x23]:List aC)).length≤68719476736) (gd ((v9).length+(([x24]:List Int)).length≤68719476736) (some (.next (x22.aBO,x22.aBQ,x22.aBG,v4,(v8++([x23]:List aC)),(v9++([x24]:List Int)))))))
def BM(fu:Nat)(pw:aH)(p0:List aD):Option ((List aC)×(List Int)×Int):=so (loopN (E4 fu pw p0) (p0.length-0) 0 ([],[],[],0,([]),([]))) fun(v5,v6,v7,v4,v8,v9)=>some (v8,v9,v4)
theorem aa8(fu:Nat)(pw:aH)(p0:List aD)(r:(List aC)×(List Int)×Int)(H:BM fu pw p0=some r):bQ Tryz.prog 26 [(aH.pv pw),bW p0] (.tup [bL r.1,rI r.2.1,pI r.2.2]):=by
 refine qJ func26 H (fun C hC H=>?_)
 refine gQ 2 ?_;refine q1 (fE ([aR pw.aBr])) ?_;refine gQ 12 ?_;refine q1 (nU ([]:List aC)) ?_;refine gQ 4 ?_;refine q1 (nU ([]:List Int)) ?_;refine gQ 13 ?_;refine fS 1 (aD.trs_len _) (fun hl10=>?_)
 try dsimp only at hl10
 refine bU (σ:=(List aD)×(List Int)×(List aC)×Int×(List aC)×(List Int)) (fun i1 (v5,v6,v7,v4,v8,v9)=>⟨[(2,.ptr 0 0),(4,.nil),(5,.nil),(6,pI 0),(7,.ptr 1 0),(8,eX v8 0),(9,aI v9 1),(10,pI v4),(18,bW p0),(19,pN p0.length),(20,pN i1)],⟨[some ⟨26,[aR pw.aBr]⟩,some ⟨68,[bW v5,rI v6,bL v7]⟩],[⟨55,5,aC.trs (v8),false⟩,⟨3,1,d9 (v9),false⟩]⟩⟩) (fun(v5,v6,v7,v4,v8,v9)=>⟨[(4,.nil),(5,.nil),(6,pI 0),(8,eX v8 0),(9,aI v9 1),(10,pI v4)],⟨[some ⟨26,[aR pw.aBr]⟩,some ⟨68,[bW v5,rI v6,bL v7]⟩],[⟨55,5,aC.trs (v8),false⟩,⟨3,1,d9 (v9),false⟩]⟩⟩) (eJ H) ?_ ?_
 ·rintro i1 ⟨v5,v6,v7,v4,v8,v9⟩ H
  refine gQ 5 ?_;refine cT H (fun h11 h11l H=>?_) (fun h11 H=>?_)
  ·refine gQ 6 ?_;refine q1 (gS (aD.cs (aT p0 i1))) ?_;refine gQ 6 ?_;refine q1 (b6 [bW v5,rI v6,bL v7]) (q1 (b6 [pS ((aT p0 i1).aBz),pI ((aT p0 i1).aBu.aBw),pS ((aT p0 i1).aBu.aBs),aU ((aT p0 i1).aBu.aBt)]) (bM H fun x13 z12 H=>(q1 (bI func32 (G7 fu (bC.mk v5 v6 v7) (aT p0 i1) _ z12)) ?_)))
   refine gQ 2 ?_;refine bF H (fun h14 H=>?_) (fun h14 H=>?_)
   ·refine gQ 15 ?_;refine q1 (b6 [aR pw.aBr]) (q1 (b6 [bW v5,rI v6,bL v7]) (q1 (b6 [pS ((aT p0 i1).aBz),pI ((aT p0 i1).aBu.aBw),pS ((aT p0 i1).aBu.aBs),aU ((aT p0 i1).aBu.aBt)]) (DC H fun x16 x17 x18 z15 H=>(q1 (bI func29 (GD fu pw (bC.mk v5 v6 v7) (aT p0 i1) _ z15)) ?_))))
    refine gQ 11 ?_;refine q1 (b6 [pI x17.aBw,pI x17.aCa,pI x17.aBS.aBD,pI x17.aBS.aBS,bL x17.aBt]) (q1 (fY ([x17]:List aC)) (cA H fun z19 H=>(q1 (jO z19) ?_)))
    refine gQ 5 ?_;refine q1 (fY ([x18]:List Int)) (cA H fun z20 H=>(q1 (jO z20) ?_))
    exact gE 6
   refine gQ 11 ?_;refine q1 (b6 [aR pw.aBr]) (q1 (b6 [bW v5,rI v6,bL v7]) (q1 (b6 [pS ((aT p0 i1).aBz),pI ((aT p0 i1).aBu.aBw),pS ((aT p0 i1).aBu.aBs),aU ((aT p0 i1).aBu.aBt)]) (DC H fun x22 x23 x24 z21 H=>(q1 (bI func29 (GD fu pw (bC.mk v5 v6 v7) (aT p0 i1) _ z21)) ?_))))
   refine gQ 11 ?_;refine q1 (b6 [pI x23.aBw,pI x23.aCa,pI x23.aBS.aBD,pI x23.aBS.aBS,bL x23.aBt]) (q1 (fY ([x23]:List aC)) (cA H fun z25 H=>(q1 (jO z25) ?_)))
   refine gQ 5 ?_;refine q1 (fY ([x24]:List Int)) (cA H fun z26 H=>(q1 (jO z26) ?_))
   exact gE 6
  exact gE 0
 rintro⟨v5,v6,v7,v4,v8,v9⟩ H
 exact gE 9
def FL(fu:Nat)(pw:aH)(p0:List aD):Nat→((List aD)×(List Int)×(List aC)×Int×(List aC)×(List Int))→Option (LR ((List aD)×(List Int)×(List aC)×Int×(List aC)×(List Int)) ((List aC)×(List Int)×Int)):=fun i1 (v5,v6,v7,v4,v8,v9)=>bd (pT fu (bC.mk v5 v6 v7) (aT p0 i1)) fun x13=>sw (decide (x13≥0)) (bd (nM fu pw (bC.mk v5 v6 v7) (aT p0 i1)) fun(x16,x17,x18)=>gd ((v8).length+(([x17]:List aC)).length≤68719476736) (gd ((v9).length+(([x18]:List Int)).length≤68719476736) (some (.next (x16.aBO,x16.aBQ,x16.aBG,(aZ (v4+1)),(v8++([x17]:List aC)),(v9++([x18]:List Int))))))) (bd (nM fu pw (bC.mk v5 v6 v7) (aT p0 i1)) fun(x22,x23,x24)=>gd ((v8).length+(([x23]:List aC)).length≤68719476736) (gd ((v9).length+(([x24]:List Int)).length≤68719476736) (some (.next (x22.aBO,x22.aBQ,x22.aBG,v4,(v8++([x23]:List aC)),(v9++([x24]:List Int)))))))
def BX(fu:Nat)(pw:aH)(p0:List aD):Option ((List aC)×(List Int)×Int):=so (loopN (FL fu pw p0) (p0.length-0) 0 ([],[],[],0,([]),([]))) fun(v5,v6,v7,v4,v8,v9)=>some (v8,v9,v4)
theorem abV(fu:Nat)(pw:aH)(p0:List aD)(r:(List aC)×(List Int)×Int)(H:BX fu pw p0=some r):bQ Tryz.prog 27 [(aH.pv pw),bW p0] (.tup [bL r.1,rI r.2.1,pI r.2.2]):=by
 refine qJ func27 H (fun C hC H=>?_)
 refine gQ 2 ?_;refine q1 (fE ([aR pw.aBr])) ?_;refine gQ 12 ?_;refine q1 (nU ([]:List aC)) ?_;refine gQ 4 ?_;refine q1 (nU ([]:List Int)) ?_;refine gQ 11 ?_;refine fS 1 (aD.trs_len _) (fun hl10=>?_)
 try dsimp only at hl10
 refine bU (σ:=(List aD)×(List Int)×(List aC)×Int×(List aC)×(List Int)) (fun i1 (v5,v6,v7,v4,v8,v9)=>⟨[(1,bW p0),(2,.ptr 0 0),(4,.nil),(5,.nil),(6,pI 0),(7,.ptr 1 0),(8,eX v8 0),(9,aI v9 1),(10,pI v4),(11,pN i1)],⟨[some ⟨26,[aR pw.aBr]⟩,some ⟨68,[bW v5,rI v6,bL v7]⟩],[⟨55,5,aC.trs (v8),false⟩,⟨3,1,d9 (v9),false⟩]⟩⟩) (fun(v5,v6,v7,v4,v8,v9)=>⟨[(4,.nil),(5,.nil),(6,pI 0),(8,eX v8 0),(9,aI v9 1),(10,pI v4)],⟨[some ⟨26,[aR pw.aBr]⟩,some ⟨68,[bW v5,rI v6,bL v7]⟩],[⟨55,5,aC.trs (v8),false⟩,⟨3,1,d9 (v9),false⟩]⟩⟩) (eJ H) ?_ ?_
 ·rintro i1 ⟨v5,v6,v7,v4,v8,v9⟩ H
  refine gQ 8 ?_;refine cT H (fun h11 h11l H=>?_) (fun h11 H=>?_)
  ·refine gQ 5 ?_;refine bM H fun x13 z12 H=>(dW (dD [7] (b6 [bW v5,rI v6,bL v7]) (dI [1] bH (dI [11] bH (dI [25,26] m9 (dI [27] (gS (aD.cs (aT p0 i1))) (dI [24,28] (bI func33 (AW fu (bC.mk v5 v6 v7) (aT p0 i1) _ z12)) (dI [29] rGe (dN ?_)))))))))
   refine bF H (fun h14 H=>?_) (fun h14 H=>?_)
   ·refine gQ 6 ?_;refine DC H fun x16 x17 x18 z15 H=>(cO.wk Wk.slot (dWa (XL [2] 0 1 (zN [aR pw.aBr]) (XL [7] 0 1 (zN [bW v5,rI v6,bL v7]) (dI [1] bH (dI [11] bH (dI [36,37] m9 (dI [38] (gS (aD.cs (aT p0 i1))) (dI [34,35,39] (bI func71 (GJ fu pw (bC.mk v5 v6 v7) (aT p0 i1) _ z15)) (dI [40] bH ?_))))))))))
    iterate 3 refine dI [33] rEx ?_
    refine dEz [] (fun _ z=>by cases z<;>exact aqA 2 arD.h) ?_;refine dA (fun _ st h=>vAl h arC.h) (dZ 13 [12,41,13] hM (dZ 13 [13,42] hM (dI [43] bH (dN ?_))))
    refine gQ 2 ?_;refine q1 (b6 [bW x16.aBO,rI x16.aBQ,bL x16.aBG]) ?_;refine gQ 5 ?_;refine q1 (b6 [pI x17.aBw,pI x17.aCa,pI x17.aBS.aBD,pI x17.aBS.aBS,bL x17.aBt]) (q1 (fY ([x17]:List aC)) (cA H fun z19 H=>(q1 (jO z19) ?_)))
    refine gQ 5 ?_;refine q1 (fY ([x18]:List Int)) (cA H fun z20 H=>(q1 (jO z20) ?_))
    exact gE 7
   refine gQ 2 ?_;refine DC H fun x22 x23 x24 z21 H=>(cO.wk Wk.slot (dWa (XL [2] 0 1 (zN [aR pw.aBr]) (XL [7] 0 1 (zN [bW v5,rI v6,bL v7]) (dI [1] bH (dI [11] bH (dI [36,37] m9 (dI [38] (gS (aD.cs (aT p0 i1))) (dI [34,35,39] (bI func71 (GJ fu pw (bC.mk v5 v6 v7) (aT p0 i1) _ z21)) (dI [40] bH ?_))))))))))
   iterate 3 refine dI [33] rEx ?_
   refine dEz [] (fun _ z=>by cases z<;>exact aqA 2 arD.h) ?_;refine dA (fun _ st h=>vAl h arC.h) (dZ 13 [12,41,13] hM (dZ 13 [13,42] hM (dI [43] bH (dN ?_))))
   refine gQ 2 ?_;refine q1 (b6 [bW x22.aBO,rI x22.aBQ,bL x22.aBG]) ?_;refine gQ 5 ?_;refine q1 (b6 [pI x23.aBw,pI x23.aCa,pI x23.aBS.aBD,pI x23.aBS.aBS,bL x23.aBt]) (q1 (fY ([x23]:List aC)) (cA H fun z25 H=>(q1 (jO z25) ?_)))
   refine gQ 5 ?_;refine q1 (fY ([x24]:List Int)) (cA H fun z26 H=>(q1 (jO z26) ?_))
   exact gE 7
  exact gE 0
 rintro⟨v5,v6,v7,v4,v8,v9⟩ H
 exact gE 9
def VM(fu:Nat)(p2:List UInt8)(x2:Bool)(x5:aH)(x6:List aD)(x8:List aC)(x9:List Int)(x10:Int)(x12:List aC)(x13:List Int)(x14:Int):Nat→Unit→Option (LR Unit Bool):=fun i18 _=>gd (R4 x5 ([])) (gd (wt (aD.aBu (aT x6 i18))≤13000000) (gd (i18<x9.length) (sw (!decide (((iN x5 ([]) (aT x6 i18)).2:Int)=aT x9 i18)) (some (.ret false)) (gd (i18<x8.length) (sw (!(LS ((iN x5 ([]) (aT x6 i18)).1) (aT x8 i18))) (some (.ret false)) (some (.next ())))))))
def QO(fu:Nat)(p2:List UInt8):Option Bool:=bd (aiA fu p2) fun x2=>sw x2 (some true) (bd (tA fu p2) fun(x5,x6)=>bd (BM fu x5 x6) fun(x8,x9,x10)=>bd (BX fu x5 x6) fun(x12,x13,x14)=>sw (!decide ((x8.length:Int)=(x6.length:Int))) (some false) (sw (!decide ((x9.length:Int)=(x6.length:Int))) (some false) (sw (!decide (x10=x14)) (some false) (so (loopN (VM fu p2 x2 x5 x6 x8 x9 x10 x12 x13 x14) (x6.length-0) 0 ()) fun _=>some true))))
theorem ah9(fu:Nat)(p2:List UInt8)(r:Bool)(H:QO fu p2=some r):bQ Tryz.prog 5 [rU p2] (pB r):=by
 refine qJ func5 H (fun C hC H=>?_)
 refine gQ 8 ?_;refine bM H fun x2 z1 H=>(q1 (bI func9 (apA fu p2 _ z1)) (qN ?_))
 refine bF H (fun h3 H=>gE 4) fun h3 H=>?_;refine gQ 4 ?_;refine eF H fun x5 x6 z4 H=>(q1 (bI func25 (QU fu p2 _ z4)) ?_)
 refine gQ 9 ?_;refine q1 (b6 [aR x5.aBr]) (q1 bH (DC H fun x8 x9 x10 z7 H=>(q1 (bI func26 (aa8 fu x5 x6 _ z7)) ?_)))
 refine gQ 10 ?_;refine q1 (b6 [aR x5.aBr]) (q1 bH (DC H fun x12 x13 x14 z11 H=>(q1 (bI func27 (abV fu x5 x6 _ z11)) ?_)))
 refine gQ 17 ?_;refine AL.weak (s':=⟨[(2,pB false),(3,.ptr 0 0),(4,bW x6),(5,bL x8),(6,rI x9),(7,pI x10),(10,pI x14),(40,pB (!decide ((x8.length:Int)=(x6.length:Int))))],⟨[some ⟨26,[aR x5.aBr]⟩],[]⟩⟩) wkA ?_;refine dL 40 H (fun g15 H=>gE 17) fun g15 H=>?_;refine gQ 7 ?_;refine AL.weak (s':=⟨[(2,pB false),(3,.ptr 0 0),(4,bW x6),(5,bL x8),(6,rI x9),(7,pI x10),(10,pI x14),(47,pB (!decide ((x9.length:Int)=(x6.length:Int))))],⟨[some ⟨26,[aR x5.aBr]⟩],[]⟩⟩) wkA ?_;refine dL 47 H (fun g16 H=>gE 10) fun g16 H=>?_;refine gQ 5 ?_;refine bF H (fun h17 H=>gE 4) fun h17 H=>?_;refine gQ 6 ?_;refine fS 4 (aD.trs_len _) (fun hl19=>?_)
 try dsimp only at hl19
 refine bU (σ:=Unit) (fun i18 _=>⟨[(2,pB false),(3,.ptr 0 0),(4,bW x6),(5,bL x8),(6,rI x9),(11,pN i18)],⟨[some ⟨26,[aR x5.aBr]⟩],[]⟩⟩) (fun _=>⟨[(2,pB false)],⟨[some ⟨26,[aR x5.aBr]⟩],[]⟩⟩) (eJ H) ?_ ?_
 ·rintro i18 ⟨⟩ H
  refine gQ 8 ?_;refine cT H (fun h20 h20l H=>?_) (fun h20 H=>?_)
  ·refine gQ 4 ?_;refine cA H fun z21 H=>(cA H fun z22 H=>(dW (dB [3] 0 1 (zN [aR x5.aBr]) (dI [4] bH (dI [11] bH (dI [60,61] m9 (dI [62] (gS (aD.cs (aT x6 i18))) (dI [59,63] (bI func18 (ZK x5 ([]) (aT x6 i18) z21 z22)) (dI [64] bH ?_)))))))))
   iterate 2 refine dI [58] rEx ?_
   refine dE [] tAl (iY [12,65] hM (dI [66] bH (dN (qS (cA H fun z23 H=>?_)))))
   rcases nS (!decide (((iN x5 ([]) (aT x6 i18)).2:Int)=aT x9 i18)) with g24|g24
   ·have H:=sE H g24
    refine dW (dI [13] bH (dI [6] bH (dI [11] bH (dI [68,69] m9 (dI [70] vE (dI [67,71] rNe (dI [72] bH ?_)))))))
    iterate 7 refine NB g24 ?_
    refine dI [73] (C3 g24) (dN ?_)
    exact gE 5
   have H:=sD H g24
   refine cA H fun z25 H=>(dW (dI [13] bH (dI [6] bH (dI [11] bH (dI [68,69] m9 (dI [70] vE (dI [67,71] rNe (dI [72] bH (dD (hg:=bG g24) [12] (b6 [pI (((iN x5 ([]) (aT x6 i18)).1).aBw),pI (((iN x5 ([]) (aT x6 i18)).1).aCa),pI (((iN x5 ([]) (aT x6 i18)).1).aBS.aBD),pI (((iN x5 ([]) (aT x6 i18)).1).aBS.aBS),bL (((iN x5 ([]) (aT x6 i18)).1).aBt)]) (dI (hg:=bG g24) [5] bH (dI (hg:=bG g24) [11] bH (dI (hg:=bG g24) [75,76] m9 (dI (hg:=bG g24) [77] (gS (aC.cs (aT x8 i18))) ?_)))))))))))))
   refine dI (hg:=bG g24) [74,78] (bI func20 (an7 ((iN x5 ([]) (aT x6 i18)).1) (aT x8 i18))) (dI (hg:=bG g24) [79] J6 (dI [73,80] (FG g24) (dN ?_)))
   refine bF H (fun h26 H=>gE 4) fun h26 H=>?_;exact gE 6
  exact gE 0
 rintro⟨⟩ H
 exact gE 4
end
end Go.Proofs.YtfcoaagbccmahaaGreat.W

namespace Go.Proofs.YtfcoaagbccmahaaGreat.W
open Go.RowKit Go.WalkArith Go.Proofs
attribute [local irreducible] lt wl
def XN(l:List aD):Prop:=l.length≤6∧ ∀b∈l,wt b≤100000
def adZ(fu:Nat):Prop:= ∀d:DS,Ok (CF fu d) fun r=>XN r.1
theorem aeV:bS adZ:=ah8.imp fun fu hG d=>by
 have snoc: ∀ {l:List aD} {x:aD} {i:Nat} {d:DS},l.length=i∧(∀b∈l,wt b≤100000)→i<6→wt x≤100000→Ok (gd (l.length+([x]:List aD).length≤68719476736) (some (LR.next (l++ [x],d):LR (List aD×DS) (List aD×DS)))) (PL (fun r=>XN r.1) (fun q=>q.1.length=i+1∧ ∀b∈q.1,wt b≤100000) fun q=>XN q.1):=fun {l x i d} h hi hx=>by
  refine Ok.gd (by rw [List.length_singleton];omega) (Ok.some ⟨by show(l++ [x]).length=_;rw [List.length_append,List.length_singleton];omega,fun b hb=>?_⟩)
  rcases List.mem_append.1 hb with h1|h1
  ·exact h.2 b h1
  ·rw [List.mem_singleton.1 h1];exact hx
 have h6:=DS.below_lt d (n:=6) (by decide)
 unfold CF
 refine Ok.lt fun d1 _=>Ok.sok (E:=fun q=>XN q.1) ?_ fun q h=>Ok.some h
 refine Ok.loopN0 (fun i q=>i≤6∧q.1.length=i∧ ∀b∈q.1,wt b≤100000) ⟨by omega,rfl,by simp⟩ (fun i q _ h=>⟨by omega,h.2.2⟩) ?_;rintro i ⟨l,c⟩ hi ⟨-,h⟩
 have h':i<6:=by omega
 have fin: ∀ {x:aD} {d:DS},wt x≤100000→Ok (gd (l.length+([x]:List aD).length≤68719476736) (some (LR.next (l++ [x],d):LR (List aD×DS) (List aD×DS)))) (PL (fun r=>XN r.1) (fun q=>i+1≤6∧q.1.length=i+1∧ ∀b∈q.1,wt b≤100000) fun q=>XN q.1):=fun {x d} hx=>by
  obtain⟨a,ha,hp⟩:=snoc (d:=d) h h' hx
  refine⟨a,ha,?_⟩
  cases a with
  |next q=>exact⟨by omega,hp⟩
  |_=>exact hp
 have draw: ∀c:DS,Ok (bd (BA fu c) fun(x,y)=>gd (l.length+([x]:List aD).length≤68719476736) (some (LR.next (l++ [x],y):LR (List aD×DS) (List aD×DS)))) (PL (fun r=>XN r.1) (fun q=>i+1≤6∧q.1.length=i+1∧ ∀b∈q.1,wt b≤100000) fun q=>XN q.1):=fun c=>by
  refine Ok.bd (hG c) ?_;rintro⟨x,y⟩ hx
  exact fin hx
 unfold O4
 refine Ok.sw (fun hp=>Ok.lt fun d10 _=>Ok.sw (fun _=>Ok.lt fun d13 _=>?_) fun _=>draw _) fun _=>draw _
 have hl:0<l.length:=by have:=of_decide_eq_true hp;omega
 have hb:=DS.below_lt d10 (n:=l.length) hl
 exact Ok.gd hb (fin (h.2 _ (cE hb)))
end Go.Proofs.YtfcoaagbccmahaaGreat.W

namespace Go.Proofs.YtfcoaagbccmahaaGreat.W
open Go.RowKit Go.WalkArith Go.Proofs
attribute [local irreducible] lt wl
def cix(G:List aD)(g:aD):Int:=match G.findIdx? (fun b=>aD.eq b g) with
 |some i=>((i:Nat):Int)
 |none=> -1
theorem aa5(fu:Nat)(m:bC)(g:aD):sS fu m g=some (cix m.aBO g):=by
 unfold sS iW cix
 rw [rF (p:=fun b=>aD.eq b g) (fun i hi=>by
  unfold lU yA
  rw [U1]
  show sw (aD.eq (aT m.aBO i) g) _ _=_
  cases aD.eq (aT m.aBO i) g<;>rfl)]
 cases m.aBO.findIdx? fun b=>aD.eq b g<;>rfl
theorem abO(fu:Nat)(m:bC)(g:aD):pT fu m g=some (cix m.aBO g):=by
 unfold pT cix
 rw [rF (p:=fun b=>aD.eq b g) (fun i hi=>by
  unfold H6
  rw [V3]
  show sw (aD.eq (aT m.aBO i) g) _ _=_
  cases aD.eq (aT m.aBO i) g<;>rfl)]
 cases m.aBO.findIdx? fun b=>aD.eq b g<;>rfl
def D9(G:List aD)(g:aD):List aD:=bif iQ g.aBu&&decide (cix G g<0) then G++ [g] else G
def sW(l:List aD):Nat→List aD
 |0=> []
 |i+1=>D9 (sW l i) (aT l i)
def HY(l:List aD):Nat→Nat
 |0=>0
 |i+1=>if cix (sW l i) (aT l i)≥0 then HY l i+1 else HY l i
theorem ae3(l:List aD): ∀i,HY l i≤i
 |0=>Nat.le_refl _
 |i+1=>by rw [HY];have:=ae3 l i;split<;>omega
theorem VR{l:List aD}: ∀i,i≤l.length→(sW l i).length≤i∧ ∀b∈sW l i,b∈l
 |0,_=>⟨Nat.le_refl _,by simp [sW]⟩
 |i+1,hi=>by
  have h:=VR (l:=l) i (by omega)
  rw [sW]
  unfold D9
  cases iQ (aT l i).aBu&&decide (cix (sW l i) (aT l i)<0) with
  |false=>exact⟨by rw [cond_false];omega,h.2⟩
  |true=>
   rw [cond_true]
   refine⟨by rw [List.length_append,List.length_singleton];omega,fun b hb=>?_⟩
   rcases List.mem_append.1 hb with h1|h1
   ·exact h.2 b h1
   ·rw [List.mem_singleton.1 h1];exact cE (by omega)
def AH(f:aD→aC×Int)(G:List aD):bC:= .mk G (G.map fun g=>(f g).2) (G.map fun g=>(f g).1)
theorem SB{σ β:Type}{F:Nat→σ→Option (LR σ β)}{n:Nat}(St:Nat→σ)(hs: ∀i,i<n→F i (St i)=some (.next (St (i+1)))):loopN F (n-0) 0 (St 0)=some (.inr (St n)):=by
 have key: ∀k i,n-i=k→i≤n→loopN F k i (St i)=some (.inr (St n)):=by
  intro k
  induction k with
  |zero=>
   intro i hk hi
   obtain rfl:i=n:=by omega
   rw [loopN]
  |succ k ih=>
   intro i hk hi
   rw [loopN,hs i (by omega)]
   exact ih (i+1) (by omega) (by omega)
 exact key _ 0 rfl (Nat.zero_le _)
theorem UZ(fu:Nat){l:List aD}(hl:l.length≤68719476735)(ht: ∀b∈l,gK b.aBu):w5 fu l=some l:=by
 unfold w5
 refine fT (by omega) ?_
 rw [FC (l:=l) fun i hi hn=>?_]
 ·exact fT rfl rfl
 ·unfold HJ
  rw [ae4]
  exact fT (ht _ (cE hi)) (fT hn.symm rfl)
theorem akV{b:aD}(h:wt b≤100000):gK b.aBu∧wt b.aBu≤13000000:=by
 have h1:=aD.wt_eq b
 exact⟨gK.of (by rw [NO];omega),by omega⟩
section
variable {w:aH} (hw:wt w≤13000000) {G:List aD} (hn:G.length≤1000) (hG: ∀b∈G,wt b≤100000) {g:aD} (hg:wt g≤100000)
include hw hn hG hg
theorem ad9(b:Bool):TS (AH (fun g=>kA b w (J2 w []) 12 g) G)∧am5 (AH (fun g=>kA b w (J2 w []) 12 g) G).aBG:=by
 have _:=hg
 have h1:(AH (fun g=>kA b w (J2 w []) 12 g) G).aBG.length≤68719476735:=by
  show(List.map _ G).length≤_
  rw [List.length_map];omega
 have h2: ∀x∈(AH (fun g=>kA b w (J2 w []) 12 g) G).aBG,CK x:=fun x hx=>by
  obtain⟨y,_,rfl⟩:=List.mem_map.1 hx
  exact JX hw _ _ _
 refine⟨⟨by show G.length≤_;omega,fun b hb=>(akV (hG b hb)).1,?_,h1,h2⟩,h1,h2⟩
 show(List.map _ G).length≤_
 rw [List.length_map];omega
theorem UO(f:aD→aC×Int){X:Option (bC×aC×Int)}(h1:iQ g.aBu=true→cix G g<0→X=some (.mk (G++ [g]) (G.map (fun g=>(f g).2)++ [(f g).2]) (G.map (fun g=>(f g).1)++ [(f g).1]),(f g).1,(f g).2))(h2:(iQ g.aBu&&decide (cix G g<0))=false→X=some (AH f G,(f g).1,(f g).2)):X=some (AH f (D9 G g),(f g).1,(f g).2):=by
 have _:=hw;have _:=hn;have _:=hG;have _:=hg
 unfold D9
 cases hq:iQ g.aBu&&decide (cix G g<0) with
 |false=>exact h2 hq
 |true=>
  rw [Bool.and_eq_true,decide_eq_true_eq] at hq
  rw [h1 hq.1 hq.2,cond_true]
  unfold AH
  rw [List.map_append,List.map_append]
  rfl
theorem ah2(fu:Nat):nE fu w (AH (iN w []) G) g=some (AH (iN w []) (D9 G g),(iN w [] g).1,(iN w [] g).2):=by
 obtain⟨hC,hE⟩:=ad9 hw hn hG hg false
 have hT:=akV hg
 refine UO hw hn hG hg (iN w []) (fun h1 h2=>?_) fun h=>?_
 ·unfold nE
  refine hY (UZ fu hC.g hC.t) (fT hC.c (fT hE (fT ⟨hw,by simp,by simp⟩ (fT hT.2 (fT hT.1 (kS h1 (hY (aa5 fu _ g) (kS (decide_eq_true h2) (fT ?_ (fT ?_ (fT (JX hw _ _ _) (fT ?_ rfl))))))))))))
  ·rw [List.length_singleton];show G.length+1≤_;omega
  ·rw [List.length_singleton];show(List.map _ G).length+1≤_;rw [List.length_map];omega
  ·rw [List.length_singleton];show(List.map _ G).length+1≤_;rw [List.length_map];omega
 ·unfold nE
  refine hY (UZ fu hC.g hC.t) (fT hC.c (fT hE (fT ⟨hw,by simp,by simp⟩ (fT hT.2 (fT hT.1 ?_)))))
  cases hq:iQ g.aBu with
  |false=>exact jA rfl rfl
  |true=>
   rw [hq,Bool.true_and] at h
   exact kS rfl (hY (aa5 fu _ g) (jA h rfl))
theorem aiK(fu:Nat):nM fu w (AH (eN w []) G) g=some (AH (eN w []) (D9 G g),(eN w [] g).1,(eN w [] g).2):=by
 obtain⟨hC,hE⟩:=ad9 hw hn hG hg true
 have hT:=akV hg
 have hB: ∀ {A:Prop} {b:Bool} {X Y Z:Option (bC×aC×Int)},X=Z→Y=Z→sw b X Y=Z:=fun {A b X Y Z} h k=>by cases b<;>assumption
 refine UO hw hn hG hg (eN w []) (fun h1 h2=>?_) fun h=>?_
 ·unfold nM
  refine fT hC ?_;refine hB (A:=True) ?_ ?_
  all_goals
   refine fT ⟨hw,by simp,by simp⟩ (fT hT.2 (fT hT.1 (kS h1 (hY (abO fu _ g) (kS (decide_eq_true h2) (fT ?_ (fT ?_ (fT (JX hw _ _ _) (fT ?_ rfl)))))))))
   ·rw [List.length_singleton];show G.length+1≤_;omega
   ·rw [List.length_singleton];show(List.map _ G).length+1≤_;rw [List.length_map];omega
   ·rw [List.length_singleton];show(List.map _ G).length+1≤_;rw [List.length_map];omega
 ·unfold nM
  refine fT hC ?_;refine hB (A:=True) ?_ ?_
  all_goals
   refine fT ⟨hw,by simp,by simp⟩ (fT hT.2 (fT hT.1 ?_))
   cases hq:iQ g.aBu with
   |false=>exact jA rfl rfl
   |true=>
    rw [hq,Bool.true_and] at h
    exact kS rfl (hY (abO fu _ g) (jA h rfl))
end
def NL(f:aD→aC×Int)(l:List aD)(i:Nat):List aD×List Int×List aC×Int×List aC×List Int:=
 (sW l i,(sW l i).map (fun g=>(f g).2),(sW l i).map (fun g=>(f g).1),((HY l i:Nat):Int),(l.take i).map (fun g=>(f g).1),(l.take i).map (fun g=>(f g).2))
theorem ag3{α:Type}(f:aD→α){l:List aD}{i:Nat}(h:i<l.length):(l.take (i+1)).map f=(l.take i).map f++ [f (aT l i)]:=by rw [XH h,List.map_append];rfl
theorem NM{f:aD→aC×Int}{l:List aD}{i:Nat}(hi:i<l.length)(hl:l.length≤6){b:Bool}(hb:b=decide (cix (sW l i) (aT l i)≥0)){N:Int}(hN:N=if b then aZ (((HY l i:Nat):Int)+1) else((HY l i:Nat):Int)):(sW l (i+1),(sW l (i+1)).map (fun g=>(f g).2),(sW l (i+1)).map (fun g=>(f g).1),N,(l.take i).map (fun g=>(f g).1)++ [(f (aT l i)).1],(l.take i).map (fun g=>(f g).2)++ [(f (aT l i)).2])=NL f l (i+1):=by
 unfold NL
 rw [ag3 _ hi,ag3 _ hi]
 have h:=ae3 l i
 have:N=((HY l (i+1):Nat):Int):=by
  rw [hN,hb,HY]
  by_cases hc:cix (sW l i) (aT l i)≥0
  ·rw [if_pos hc,if_pos (decide_eq_true hc),JZ (by omega) (by omega)];omega
  ·rw [if_neg hc,if_neg (by simpa using hc)]
 rw [this]
section
variable {w:aH} (hw:wt w≤13000000) {l:List aD} (hl:XN l)
include hw hl
theorem ao6(fu:Nat):BM fu w l=some (l.map (fun g=>(iN w [] g).1),l.map (fun g=>(iN w [] g).2),((HY l l.length:Nat):Int)):=by
 have h:=SB (F:=E4 fu w l) (n:=l.length) (NL (iN w []) l) fun i hi=>by
  obtain⟨k1,k2⟩:=VR (l:=l) i (by omega)
  have hl6:=hl.1
  have hg:=hl.2 _ (cE hi)
  have hC:=ah2 hw (G:=sW l i) (by omega) (fun b hb=>hl.2 b (k2 b hb)) hg fu
  unfold E4 NL
  refine hY (aa5 fu _ _) ?_
  have r1:((l.take i).map fun g=>(iN w [] g).1).length+1≤68719476736:=by rw [List.length_map,List.length_take];omega
  have r2:((l.take i).map fun g=>(iN w [] g).2).length+1≤68719476736:=by rw [List.length_map,List.length_take];omega
  show sw (decide (cix (sW l i) (aT l i)≥0)) _ _=_
  cases hq:decide (cix (sW l i) (aT l i)≥0) with
  |true=>exact kS rfl (hY hC (fT r1 (fT r2 (congrArg (fun x=>some (LR.next x)) (NM hi hl6 hq.symm rfl)))))
  |false=>exact jA rfl (hY hC (fT r1 (fT r2 (congrArg (fun x=>some (LR.next x)) (NM hi hl6 hq.symm rfl)))))
 unfold BM
 refine UA (s:=NL (iN w []) l l.length) h ?_
 unfold NL
 rw [List.take_length]
theorem apK(fu:Nat): ∃a b,BX fu w l=some (a,b,((HY l l.length:Nat):Int)):=by
 have h:=SB (F:=FL fu w l) (n:=l.length) (NL (eN w []) l) fun i hi=>by
  obtain⟨k1,k2⟩:=VR (l:=l) i (by omega)
  have hl6:=hl.1
  have hg:=hl.2 _ (cE hi)
  have hC:=aiK hw (G:=sW l i) (by omega) (fun b hb=>hl.2 b (k2 b hb)) hg fu
  unfold FL NL
  refine hY (abO fu _ _) ?_
  have r1:((l.take i).map fun g=>(eN w [] g).1).length+1≤68719476736:=by rw [List.length_map,List.length_take];omega
  have r2:((l.take i).map fun g=>(eN w [] g).2).length+1≤68719476736:=by rw [List.length_map,List.length_take];omega
  show sw (decide (cix (sW l i) (aT l i)≥0)) _ _=_
  cases hq:decide (cix (sW l i) (aT l i)≥0) with
  |true=>exact kS rfl (hY hC (fT r1 (fT r2 (congrArg (fun x=>some (LR.next x)) (NM hi hl6 hq.symm rfl)))))
  |false=>exact jA rfl (hY hC (fT r1 (fT r2 (congrArg (fun x=>some (LR.next x)) (NM hi hl6 hq.symm rfl)))))
 unfold BX
 exact⟨_,_,UA (s:=NL (eN w []) l l.length) h rfl⟩
end
theorem akA{α β:Type}[Inhabited α][Inhabited β](f:α→β){l:List α}{i:Nat}(h:i<l.length):aT (l.map f) i=f (aT l i):=by
 rw [iV (by rw [List.length_map];exact h),iV h,List.getElem_map]
theorem anX(code:List UInt8): ∃fu,QO fu code=some true:=by
 obtain⟨fu,⟨hfu,kW⟩,kG⟩:=(((bS.ge 2147483648).and aeU).and aeV).get
 refine⟨fu,?_⟩
 unfold QO aiA
 by_cases hb:code.length≤1048576
 ·refine jA (decide_eq_false (by omega)) ?_
  obtain⟨⟨w,d⟩,hr,hw⟩:=kW (DS.start code)
  replace hw:wt w≤13000000:=hw
  obtain⟨⟨l,d2⟩,hg,hl⟩:=kG d
  replace hl:XN l:=hl
  have hd:tA fu code=some (w,l):=by
   unfold tA
   exact fT hb (hY hr (hY hg rfl))
  rw [hd]
  obtain⟨a,b,hS⟩:=apK hw hl fu
  refine hY rfl (hY (ao6 hw hl fu) (hY hS (jA (by simp) (jA (by simp) (jA (by simp) ?_)))))
  refine(congrArg (fun x=>so x fun _=>some true) (FB (n:=l.length) (s:=()) (fun i hi=>?_) _ 0 rfl)).trans rfl
  have hT:=akV (hl.2 _ (cE hi))
  unfold VM
  refine fT ⟨hw,by simp,by simp⟩ (fT hT.2 (fT (by rw [List.length_map];exact hi) (jA ?_ (fT (by rw [List.length_map];exact hi) (jA ?_ rfl)))))
  ·rw [akA _ hi];simp
  ·rw [akA _ hi,alL];rfl
 ·exact kS (decide_eq_true (by omega)) rfl
theorem apB(code:List UInt8):bQ Tryz.prog 5 [rU code] (pB true):=let⟨fu,h⟩:=anX code;ah9 fu code true h
end Go.Proofs.YtfcoaagbccmahaaGreat.W
