/- Words, rules and walks of several kinds, laid together: Ph, PgD, PgS, PmQ, MaP1, MaP2, MaP3. No conditions but those that each theorem states. -/
import Derived.Test.YtpioomclpaiomaaGreatQhfd96fd82
import Derived.Test.YtpioomclpaiomaaGreatQh7e1aa739
import Derived.Laws.BytesArg
set_option linter.unusedSimpArgs false
set_option linter.unusedVariables false
namespace Go.Proofs.YtpioomclpaiomaaGreat
set_option linter.unusedSimpArgs false
set_option linter.unusedVariables false
open Go.RowKit Go.WalkArith Go.IntWalk Go.WideShapes
section
variable {P:Program} {C:qB} {n:Nat} {o:Oper}
theorem ajU{a:Act}{K1 K:Act→World→Prop}{Q:Exit→Act→World→Prop}(hv: ∀v w',K1 (a.put o.dst v) w'→K (a.put o.dst v) w')
 (hd: ∀d w',K1 (({ a with defers:=d::a.defers }:Act).put o.dst undef) w'→K (({ a with defers:=d::a.defers }:Act).put o.dst undef) w'): ∀r,o.upon P a K1 Q r→o.upon P a K Q r:=by
 intro r h
 cases r with
 |ok x w'=>
  cases x with
  |value v=>exact hv v w' h
  |skip=>exact hv undef w' h
  |defer d=>exact hd d w' h
  |enter f args=>
   refine Calls.mono h fun e w'' he=>?_
   cases e with
   |returned v=>exact hv v w'' he
   |panicked c=>exact he
   |outgrown=>exact he
  |row r args=>exact Rows.mono h fun v w'' he=>hv v w'' he
  |_=>exact h
 |halt x w'=>
  cases x with
  |panic v=>exact h
  |_=>exact h
theorem W9(s:AS)(d:Nat)(p:PV)(i:Nat):(s.putO (some d) p).lk i=if i=d then some p else s.lk i:=AS.lk_put s d i p
theorem aX.frame{E:List (Nat×PV)}{st st1:cY}{p:PV}{s':AS}(h: ∀C',aX P C' n o ⟨E,st⟩ ((⟨E,st1⟩:AS).putO o.dst p))(hst:s'.st=st)(hl: ∀t q,E.lookup t=some q→s'.lk t=some q):
 aX P C n o s' ((⟨s'.env,st1⟩:AS).putO o.dst p):=fun m a w hr K Q hK=>by
 subst hst
 have hr':RA ⟨C.av,s'.st,m,w⟩ n ⟨E,s'.st⟩ m a w:=⟨hr.dfr,hr.tsz,hr.sto,fun i q hq=>hr.env i q (hl i q hq),Ev.refl _ _ _⟩
 have h1:=h ⟨C.av,s'.st,m,w⟩ m a w hr' (fun a' w'=> ∃m',RA ⟨C.av,s'.st,m,w⟩ n ((⟨E,st1⟩:AS).putO o.dst p) m' a' w') Q (fun m' a' w' h=>⟨m',h⟩)
 unfold Oper.wp at h1 ⊢
 refine ajU (fun v w'=>?_) (fun d w'=>?_) _ h1
 ·rintro⟨m',h2⟩
  refine hK m' _ w' ?_
  have key: ∀(dst:Option Nat),dst=o.dst→RA C n ((⟨s'.env,st1⟩:AS).putO dst p) m' (a.put dst v) w':=fun dst hdst=>by
   rw [← hdst] at h2
   cases dst with
   |none=>
    have hE:Ev s'.st m w st1 m' w':=h2.ev
    exact⟨h2.dfr,h2.tsz,h2.sto,fun i q hq=>by
     obtain⟨v',hv',hrv⟩:=hr.env i q hq
     exact⟨v',hv',RV.mono hE q v' hrv⟩,hr.ev.trans hE⟩
   |some d=>
    have hE:Ev s'.st m w st1 m' w':=h2.ev
    refine⟨h2.dfr,h2.tsz,h2.sto,fun i q hq=>?_,hr.ev.trans hE⟩
    rw [W9] at hq
    by_cases hi:i=d
    ·rw [if_pos hi] at hq
     cases hq
     exact h2.env i _ (by rw [W9,if_pos hi])
    ·rw [if_neg hi] at hq
     obtain⟨v',hv',hrv⟩:=hr.env i q hq
     exact⟨v',by simp only [Act.put];rw [Array.getElem?_setIfInBounds_ne (fun e=>hi e.symm)];exact hv',RV.mono hE q v' hrv⟩
  exact key o.dst rfl
 ·rintro⟨m',h2⟩
  have h3:=h2.dfr
  have h4:(({ a with defers:=d::a.defers }:Act).put o.dst undef).defers=d::a.defers:=by
   cases o.dst<;>rfl
  rw [h4] at h3
  cases h3
theorem aX.frame0{E:List (Nat×PV)}{st st1:cY}{s':AS}(hn:o.dst=none)(h: ∀C',aX P C' n o ⟨E,st⟩ ⟨E,st1⟩)(hst:s'.st=st)(hl: ∀t q,E.lookup t=some q→s'.lk t=some q):
 aX P C n o s' ⟨s'.env,st1⟩:=by
 have:=aX.frame (C:=C) (P:=P) (n:=n) (o:=o) (p:= .nil) (E:=E) (st:=st) (st1:=st1) (s':=s') (by rw [hn];exact h) hst hl
 rw [hn] at this
 exact this
structure DD where
 outs:List (Option PV)
 ks:List (Option DK)
 ins:List (List Nat)
 effs:List Nat
 fs:List (Option c5→cY)
 rds:List ((Nat×Nat)×Nat×Option (Option c5))
 az:Option (Nat×c5)
def DD.cz(g:DD):Option c5:=g.az.map (·.2)
def ab:Option c5→cY→cY
 |none,st=>st
 |some z,st=>st.addBox z
def HP:cY:=⟨[],[⟨0,0,[],false⟩]⟩
def tw(st:cY):Option c5→cY
 |none=>HP
 |some _=>st
theorem al3{C:qB}{n:Nat}{env:List (Nat×PV)}{m:jE}{a:Act}{w:World}(h:RA C n ⟨env,HP⟩ m a w):False:=by
 have:=(h.sto.row 0 ⟨0,0,[],false⟩ rfl).1
 exact absurd this (by decide)
theorem aX.bad{P:Program}{C:qB}{n:Nat}{o:Oper}{s s1:AS}(hs:s.st=HP):aX P C n o s s1:=fun m a w hr K Q hK=>by
 obtain⟨env,st⟩:=s
 cases hs
 exact(al3 hr).elim
theorem aX.away{P:Program}{C:qB}{n:Nat}{o:Oper}{s s1:AS}{t k off:Nat}(hl:s.lk t=some (.ptr k off))(hk:s.st.boxes[k]?=none):aX P C n o s s1:=fun m a w hr K Q hK=>by
 obtain⟨v,-,⟨x,hx⟩,-⟩:=hr.env t _ hl
 rw [hk] at hx
 cases hx
def rs(s:AS):List Nat→List (Nat×PV)
 | []=> []
 |t::ts=>match s.lk t with
  |some p=>(t,p)::rs s ts
  |none=>rs s ts
theorem ahG{s:AS}{t:Nat}{q:PV}: ∀ {I:List Nat},(rs s I).lookup t=some q→t∈I∧s.lk t=some q
 | [],h=>by cases h
 |x::I,h=>by
  unfold rs at h
  cases hx:s.lk x with
  |none=>
   rw [hx] at h
   obtain⟨h1,h2⟩:=ahG (I:=I) h
   exact⟨.tail _ h1,h2⟩
  |some p=>
   rw [hx] at h
   dsimp only at h
   rw [List.lookup_cons] at h
   by_cases htx:t=x
   ·subst htx
    simp only [BEq.rfl] at h
    cases h
    exact⟨.head _,hx⟩
   ·rw [show(t==x)=false by simp [htx]] at h
    obtain⟨h1,h2⟩:=ahG (I:=I) h
    exact⟨.tail _ h1,h2⟩
def V3(l:List Oper)(e0:List (Nat×PV))(outs:List (Option PV))(i t:Nat)(p:PV):Prop:=
 (∃(j:Nat) (o:Oper),j<i∧l[j]?=some o∧o.dst=some t∧outs[j]?=some (some p))∨(e0.lookup t=some p∧ ∀(j:Nat) (o:Oper),j<i→l[j]?=some o→o.dst≠some t)
inductive WD (l:List Oper) (e0:List (Nat×PV)) (outs:List (Option PV)) (i:Nat) (o:Oper):Bool→Prop
 |n:o.guard=none→WD l e0 outs i o true
 |y {j d:Nat} {b c:Bool}:o.guard=some (j,c)→(l[j]?).bind (·.dst)=some d→V3 l e0 outs i d (.t (.leaf (.bool b)))→WD l e0 outs i o (b==c)
 |u {j d:Nat} {c:Bool}:o.guard=some (j,c)→(l[j]?).bind (·.dst)=some d→V3 l e0 outs i d (.tup [])→WD l e0 outs i o false
inductive WS (l:List Oper) (s:AS) (o:Oper):Bool→Prop
 |n:o.guard=none→WS l s o true
 |y {j d:Nat} {b c:Bool}:o.guard=some (j,c)→(l[j]?).bind (·.dst)=some d→s.lk d=some (.t (.leaf (.bool b)))→WS l s o (b==c)
 |u {j d:Nat} {c:Bool}:o.guard=some (j,c)→(l[j]?).bind (·.dst)=some d→s.lk d=some (.tup [])→WS l s o false
inductive NR (P:Program) (n N:Nat) (md:Bool) (g:DD) (i:Nat) (o:Oper) (E:List (Nat×PV)):Prop
 |q {p:PV}:g.ks[i]?=some none→g.outs[i]?=some (some p)→(∀C' st,aX P C' n o ⟨E,st⟩ ((⟨E,st⟩:AS).putO o.dst p))→NR P n N md g i o E
 |r {lo hi k:Nat} {X:Option (Option c5)} {p:PV}:g.ks[i]?=some (some (.q lo hi))→g.outs[i]?=some (some p)→((lo,hi),k,X)∈g.rds→(md=true→k<N)→(∀C' (st:cY),st.boxes[k]?=X→aX P C' n o ⟨E,st⟩ ((⟨E,st⟩:AS).putO o.dst p))→NR P n N md g i o E
 |c {j:Nat} {f:Option c5→cY} {p:PV}:g.ks[i]?=some (some (.q j j))→g.outs[i]?=some (some p)→g.fs[j]?=some f→(∀C' z,aX P C' n o ⟨E,f z⟩ ((⟨E,f z⟩:AS).putO o.dst p))→NR P n N md g i o E
 |e {j:Nat} {f f1:Option c5→cY} {p:PV}:g.ks[i]?=some (some (.ef j))→g.outs[i]?=some (some p)→g.fs[j]?=some f→g.fs[j+1]?=some f1→(∀C' z,aX P C' n o ⟨E,f z⟩ ((⟨E,f1 z⟩:AS).putO o.dst p))→NR P n N md g i o E
 |e0 {j:Nat} {f f1:Option c5→cY}:g.ks[i]?=some (some (.ef j))→o.dst=none→g.fs[j]?=some f→g.fs[j+1]?=some f1→(∀C' z,aX P C' n o ⟨E,f z⟩ ⟨E,f1 z⟩)→NR P n N md g i o E
 |ea {j a t off:Nat} {zb:c5} {f f1:Option c5→cY}:g.az=some (a,zb)→g.ks[i]?=some (some (.ef j))→o.dst=none→g.fs[j]?=some f→g.fs[j+1]?=some f1→E.lookup t=some (.ptr N off)→(f none=HP∨(f none).boxes.length=N)→(∀C',aX P C' n o ⟨E,f (some zb)⟩ ⟨E,f1 (some zb)⟩)→NR P n N md g i o E
 |al {zb:c5}:md=true→g.az=some (i,zb)→g.ks[i]?=some (some .al)→g.outs[i]?=some (some (.ptr N 0))→(∀C' st,st.boxes.length=N→aX P C' n o ⟨[],st⟩ ((⟨[],st.addBox zb⟩:AS).putO o.dst (.ptr N 0)))→NR P n N md g i o E
inductive QD (P:Program) (n N:Nat) (md:Bool) (l:List Oper) (e0:List (Nat×PV)) (g:DD) (i:Nat) (o:Oper):Prop
 |does {E:List (Nat×PV)} {I:List Nat}:WD l e0 g.outs i o true→g.ins[i]?=some I→(∀t q,E.lookup t=some q→t∈I∧V3 l e0 g.outs i t q)→NR P n N md g i o E→QD P n N md l e0 g i o
 |skip:WD l e0 g.outs i o false→g.ks[i]?=some none→g.outs[i]?=some (some (.tup []))→bQ o.dst n=true→QD P n N md l e0 g i o
structure DD.le (g g':DD):Prop where
 outs: ∀(i:Nat) (x:Option PV),g.outs[i]?=some x→g'.outs[i]?=some x
 ks: ∀(i:Nat) (x:Option DK),g.ks[i]?=some x→g'.ks[i]?=some x
 ins: ∀(i:Nat) (x:List Nat),g.ins[i]?=some x→g'.ins[i]?=some x
 fs: ∀(i:Nat) (x:Option c5→cY),g.fs[i]?=some x→g'.fs[i]?=some x
 rds: ∀x∈g.rds,x∈g'.rds
 az: ∀x,g.az=some x→g'.az=some x
theorem NO{g g':DD}(h:g.le g'){l:List Oper}{e0:List (Nat×PV)}{i t:Nat}{p:PV}(k:V3 l e0 g.outs i t p):V3 l e0 g'.outs i t p:=by
 rcases k with⟨j,o,h1,h2,h3,h4⟩|k
 ·exact .inl ⟨j,o,h1,h2,h3,h.outs _ _ h4⟩
 ·exact .inr k
theorem ahM{g g':DD}(h:g.le g'){l:List Oper}{e0:List (Nat×PV)}{i:Nat}{o:Oper}{b:Bool}(k:WD l e0 g.outs i o b):WD l e0 g'.outs i o b:=by
 cases k with
 |n a=>exact .n a
 |y a b c=>exact .y a b (NO h c)
 |u a b c=>exact .u a b (NO h c)
theorem QD.mono{N:Nat}{md:Bool}{l:List Oper}{e0:List (Nat×PV)}{g g':DD}{i:Nat}{o:Oper}(h:g.le g')(k:QD P n N md l e0 g i o):QD P n N md l e0 g' i o:=by
 cases k with
 |does h1 h2 h3 h4=>
  refine .does (ahM h h1) (h.ins _ _ h2) (fun t q ht=>⟨(h3 t q ht).1,NO h (h3 t q ht).2⟩) ?_
  cases h4 with
  |q a b c=>exact .q (h.ks _ _ a) (h.outs _ _ b) c
  |r a b c d e=>exact .r (h.ks _ _ a) (h.outs _ _ b) (h.rds _ c) d e
  |c a b c d=>exact .c (h.ks _ _ a) (h.outs _ _ b) (h.fs _ _ c) d
  |e a b c d e=>exact .e (h.ks _ _ a) (h.outs _ _ b) (h.fs _ _ c) (h.fs _ _ d) e
  |e0 a b c d e=>exact .e0 (h.ks _ _ a) b (h.fs _ _ c) (h.fs _ _ d) e
  |ea z a b c d e f q=>exact .ea (h.az _ z) (h.ks _ _ a) b (h.fs _ _ c) (h.fs _ _ d) e f q
  |al md z a b c=>exact .al md (h.az _ z) (h.ks _ _ a) (h.outs _ _ b) c
 |skip h1 h2 h3 h4=>exact .skip (ahM h h1) (h.ks _ _ h2) (h.outs _ _ h3) h4
structure ahP (P:Program) (n:Nat) (md:Bool) (l:List Oper) (s0:AS) (g:DD) (s:AS):Prop where
 hs0: ∃f,g.fs[0]?=some f∧f none=s0.st
 hfl:g.fs.length=g.effs.length+1
 hlast: ∃f,g.fs[g.effs.length]?=some f∧f g.cz=s.st∧(md=false→f=fun _=>s.st)∧(md=true→g.az=none→f=fun z=>ab z s.st)
 hk:g.ks.length=g.outs.length
 hi:g.ins.length=g.outs.length
 hz:md=true→ ∀f∈g.fs,f none=HP∨((f none).boxes.length=s0.st.boxes.length∧ ∀z,f (some z)=(f none).addBox z)
 hm:md=false→g.az=none
 hlk: ∀t p,s.lk t=some p→V3 l s0.env g.outs g.outs.length t p
 hf: ∀(i:Nat) (o:Oper),l[i]?=some o→i<g.outs.length→QD P n s0.st.boxes.length md l s0.env g i o
def DW(P:Program)(C:qB)(n id:Nat)(md:Bool)(l:List Oper)(Q:Exit→AS→Prop)(s0:AS)(g:DD)(s:AS)(rest:List Oper):Prop:=
 ahP P n md l s0 g s→l.drop g.outs.length=rest→aQ P C n (.region id l.toArray true) Q s0
variable {id:Nat} {l:List Oper} {Q:Exit→AS→Prop} {s0 s:AS} {g:DD} {rest:List Oper} {md:Bool}
theorem dW(h:DW P C n id false l Q s ⟨[],[],[],[],[fun _=>s.st],[],none⟩ s l):aQ P C n (.region id l.toArray true) Q s:=
 h ⟨⟨_,rfl,rfl⟩,rfl,⟨_,rfl,rfl,fun _=>rfl,fun h=>(by cases h)⟩,rfl,rfl,fun h=>(by cases h),fun _=>rfl,fun t p ht=> .inr ⟨ht,fun j o hj=>(by cases hj)⟩,fun i o _ hi=>(by cases hi)⟩ rfl
theorem dWa(h:DW P C n id true l Q s ⟨[],[],[],[],[fun z=>ab z s.st],[],none⟩ s l):aQ P C n (.region id l.toArray true) Q s:=
 h ⟨⟨_,rfl,rfl⟩,rfl,⟨_,rfl,rfl,fun h=>(by cases h),fun _ _=>rfl⟩,rfl,rfl,fun _ f hf=>(by obtain rfl:=List.mem_singleton.1 hf;exact .inr ⟨rfl,fun z=>rfl⟩),fun h=>(by cases h),fun t p ht=> .inr ⟨ht,fun j o hj=>by cases hj⟩,fun i o _ hi=>by cases hi⟩ rfl
theorem c9{α:Type}{l:List α}{y:α}(i:Nat)(x:α)(h:l[i]?=some x):(l++ [y])[i]?=some x:=by
 obtain⟨hi,-⟩:=List.getElem?_eq_some_iff.1 h
 rw [List.getElem?_append_left hi]
 exact h
theorem b5{α:Type}{l:List α}{y:α}{k:Nat}(h:l.length=k):(l++ [y])[k]?=some y:=by subst h;simp
theorem t9{o:Oper}(h:l.drop g.outs.length=o::rest):l[g.outs.length]?=some o∧l.drop (g.outs.length+1)=rest:=by
 constructor
 ·have:=congrArg (fun x=>x[0]?) h
  simpa using this
 ·rw [← List.drop_drop,h]
  rfl
theorem ahP.next{g':DD}{s':AS}(hv:ahP P n md l s0 g s)(ho:l[g.outs.length]?=some o)(hle:g.le g')(h0:g'.outs.length=g.outs.length+1)(hk:g'.ks.length=g.ks.length+1)(hi:g'.ins.length=g.ins.length+1)(hfl:g'.fs.length=g'.effs.length+1)
 (hlast: ∃f,g'.fs[g'.effs.length]?=some f∧f g'.cz=s'.st∧(md=false→f=fun _=>s'.st)∧(md=true→g'.az=none→f=fun z=>ab z s'.st)) (hz:md=true→ ∀f∈g'.fs,f none=HP∨((f none).boxes.length=s0.st.boxes.length∧ ∀z,f (some z)=(f none).addBox z)) (hm:md=false→g'.az=none)
 (hlk: ∀t p,s'.lk t=some p→(o.dst=some t∧g'.outs[g.outs.length]?=some (some p))∨(o.dst≠some t∧s.lk t=some p)) (hf:QD P n s0.st.boxes.length md l s0.env g' g.outs.length o):ahP P n md l s0 g' s' where
 hs0:=by obtain⟨f,h1,h2⟩:=hv.hs0;exact⟨f,hle.fs _ _ h1,h2⟩
 hfl:=hfl
 hlast:=hlast
 hk:=by rw [hk,h0,hv.hk]
 hi:=by rw [hi,h0,hv.hi]
 hz:=hz
 hm:=hm
 hlk:=fun t p ht=>by
  rcases hlk t p ht with⟨h1,h2⟩|⟨h1,h2⟩
  ·exact .inl ⟨_,o,by omega,ho,h1,h2⟩
  ·rcases hv.hlk t p h2 with⟨j,oj,a,b,c,d⟩|⟨a,b⟩
   ·exact .inl ⟨j,oj,by omega,b,c,hle.outs _ _ d⟩
   ·refine .inr ⟨a,fun j oj hj hoj=>?_⟩
    rcases Nat.lt_or_ge j g.outs.length with hlt|hge
    ·exact b j oj hlt hoj
    ·obtain rfl:j=g.outs.length:=by omega
     rw [ho] at hoj
     cases hoj
     exact h1
 hf:=fun i oi hoi hi'=>by
  rcases Nat.lt_or_ge i g.outs.length with hlt|hge
  ·exact(hv.hf i oi hoi hlt).mono hle
  ·obtain rfl:i=g.outs.length:=by omega
   rw [ho] at hoi
   cases hoi
   exact hf
theorem yI{st1:cY}{p:PV}(t:Nat)(q:PV)(outs:List (Option PV))(k:Nat)(hk:outs[k]?=some (some p))(h:((⟨s.env,st1⟩:AS).putO o.dst p).lk t=some q):(o.dst=some t∧outs[k]?=some (some q))∨(o.dst≠some t∧s.lk t=some q):=by
 cases hd:o.dst with
 |none=>rw [hd] at h;exact .inr ⟨by simp,h⟩
 |some d=>
  rw [hd,W9] at h
  by_cases htd:t=d
  ·rw [if_pos htd] at h
   cases h
   exact .inl ⟨by rw [htd],hk⟩
  ·rw [if_neg htd] at h
   exact .inr ⟨fun e=>htd (Option.some.inj e).symm,h⟩
theorem yX(s:AS)(d:Option Nat)(p:PV):(s.putO d p).st=s.st:=by cases d<;>rfl
theorem WS.wd{g':DD}{b:Bool}(h:WS l s o b)(hv:ahP P n md l s0 g s)(hle:g.le g'):WD l s0.env g'.outs g.outs.length o b:=by
 cases h with
 |n a=>exact .n a
 |y a b c=>exact .y a b (NO hle (hv.hlk _ _ c))
 |u a b c=>exact .u a b (NO hle (hv.hlk _ _ c))
theorem DT{g':DD}(hv:ahP P n md l s0 g s)(hle:g.le g')(I:List Nat): ∀t q,(rs s I).lookup t=some q→t∈I∧V3 l s0.env g'.outs g.outs.length t q:=fun t q h=>⟨(ahG h).1,NO hle (hv.hlk t q (ahG h).2)⟩
theorem dI(I:List Nat){p:PV}(h: ∀ {C':qB} {st:cY},aX P C' n o ⟨rs s I,st⟩ ((⟨rs s I,st⟩:AS).putO o.dst p))(k:DW P C n id md l Q s0 ⟨g.outs++ [some p],g.ks++ [none],g.ins++ [I],g.effs,g.fs,g.rds,g.az⟩ (s.putO o.dst p) rest)(hg:WS l s o true:=by exact .n rfl):
 DW P C n id md l Q s0 g s (o::rest):=fun hv hr=>by
 obtain⟨ho,hd⟩:=t9 hr
 have hle:g.le ⟨g.outs++ [some p],g.ks++ [none],g.ins++ [I],g.effs,g.fs,g.rds,g.az⟩:=⟨c9,c9,c9,fun _ _ h=>h,fun _ h=>h,fun _ h=>h⟩
 refine k (hv.next ho hle (by simp) (by simp) (by simp) hv.hfl (by rw [yX];exact hv.hlast) hv.hz hv.hm (fun t q hq=>yI t q _ _ (b5 rfl) hq) ?_) (by simpa using hd)
 exact .does (hg.wd hv hle) (b5 hv.hi) (DT hv hle I) (.q (b5 hv.hk) (b5 rfl) fun _ _=>h)
theorem dD(I:List Nat){p:PV}(h: ∀ {C':qB},aX P C' n o ⟨rs s I,s.st⟩ ((⟨rs s I,s.st⟩:AS).putO o.dst p))(k:DW P C n id false l Q s0 ⟨g.outs++ [some p],g.ks++ [some (.q g.effs.length g.effs.length)],g.ins++ [I],g.effs,g.fs,g.rds,g.az⟩ (s.putO o.dst p) rest)(hg:WS l s o true:=by exact .n rfl):
 DW P C n id false l Q s0 g s (o::rest):=fun hv hr=>by
 obtain⟨ho,hd⟩:=t9 hr
 obtain⟨f,q1,-,q2,-⟩:=hv.hlast
 have q2:=q2 rfl
 subst q2
 have hle:g.le ⟨g.outs++ [some p],g.ks++ [some (.q g.effs.length g.effs.length)],g.ins++ [I],g.effs,g.fs,g.rds,g.az⟩:=⟨c9,c9,c9,fun _ _ h=>h,fun _ h=>h,fun _ h=>h⟩
 refine k (hv.next ho hle (by simp) (by simp) (by simp) hv.hfl (by rw [yX];exact hv.hlast) hv.hz hv.hm (fun t q hq=>yI t q _ _ (b5 rfl) hq) ?_) (by simpa using hd)
 exact .does (hg.wd hv hle) (b5 hv.hi) (DT hv hle I) (.c (b5 hv.hk) (b5 rfl) q1 fun _ _=>h)
def alZ(P:Program)(n:Nat)(o:Oper)(s:AS)(I:List Nat)(kb:Nat)(X:Option (Option c5))(p:PV):Prop:= ∀C' (st:cY),st.boxes[kb]?=X→aX P C' n o ⟨rs s I,st⟩ ((⟨rs s I,st⟩:AS).putO o.dst p)
theorem dB(I:List Nat)(lo hi:Nat){kb:Nat}{X:Option (Option c5)}{p:PV}(h:alZ P n o s I kb X p)(k:DW P C n id false l Q s0 ⟨g.outs++ [some p],g.ks++ [some (.q lo hi)],g.ins++ [I],g.effs,g.fs,g.rds++ [((lo,hi),kb,X)],g.az⟩ (s.putO o.dst p) rest)(hg:WS l s o true:=by exact .n rfl):
 DW P C n id false l Q s0 g s (o::rest):=fun hv hr=>by
 obtain⟨ho,hd⟩:=t9 hr
 have hle:g.le ⟨g.outs++ [some p],g.ks++ [some (.q lo hi)],g.ins++ [I],g.effs,g.fs,g.rds++ [((lo,hi),kb,X)],g.az⟩:=⟨c9,c9,c9,fun _ _ h=>h,fun _ h=>List.mem_append_left _ h,fun _ h=>h⟩
 refine k (hv.next ho hle (by simp) (by simp) (by simp) hv.hfl (by rw [yX];exact hv.hlast) hv.hz hv.hm (fun t q hq=>yI t q _ _ (b5 rfl) hq) ?_) (by simpa using hd)
 exact .does (hg.wd hv hle) (b5 hv.hi) (DT hv hle I) (.r (b5 hv.hk) (b5 rfl) (by simp) (fun h=>by cases h) h)
theorem dBz(I:List Nat)(lo hi:Nat){kb:Nat}{X:Option (Option c5)}{p:PV}(h:alZ P n o s I kb X p)(k:DW P C n id true l Q s0 ⟨g.outs++ [some p],g.ks++ [some (.q lo hi)],g.ins++ [I],g.effs,g.fs,g.rds++ [((lo,hi),kb,X)],g.az⟩ (s.putO o.dst p) rest)(hg:WS l s o true:=by exact .n rfl)(hkN:(decide (kb<s0.st.boxes.length))=true:=by exact rfl):
 DW P C n id true l Q s0 g s (o::rest):=fun hv hr=>by
 obtain⟨ho,hd⟩:=t9 hr
 have hle:g.le ⟨g.outs++ [some p],g.ks++ [some (.q lo hi)],g.ins++ [I],g.effs,g.fs,g.rds++ [((lo,hi),kb,X)],g.az⟩:=⟨c9,c9,c9,fun _ _ h=>h,fun _ h=>List.mem_append_left _ h,fun _ h=>h⟩
 refine k (hv.next ho hle (by simp) (by simp) (by simp) hv.hfl (by rw [yX];exact hv.hlast) hv.hz hv.hm (fun t q hq=>yI t q _ _ (b5 rfl) hq) ?_) (by simpa using hd)
 exact .does (hg.wd hv hle) (b5 hv.hi) (DT hv hle I) (.r (b5 hv.hk) (b5 rfl) (by simp) (fun _=>of_decide_eq_true hkN) h)
theorem uI{I:List Nat}{T:TypeId}{x:Operand}{kb d z:Nat}{bx:c5}{p:PV}(hT:cA P T=some (false,z))
 (ho:o.op= .load T x:=by exact rfl) (hd:bQ o.dst n=true:=by exact rfl) (hx:(⟨rs s I,s.st⟩:AS).ev x=some (.ptr kb d):=by exact rfl) (hb:s.st.boxes[kb]?=some (some bx):=by exact rfl) (hc:bx.cells[d]?=some p:=by exact rfl):alZ P n o s I kb (some (some bx)) p:=
 fun C' st hst=>aX.loadPtr1 ho hd (by cases x<;>exact hx) hst hT hc
theorem TG{I:List Nat}{T:TypeId}{x:Operand}{kb d z:Nat}{bx:c5}(cs:List PV)(hT:cA P T=some (true,z))
 (ho:o.op= .load T x:=by exact rfl) (hd:bQ o.dst n=true:=by exact rfl) (hx:(⟨rs s I,s.st⟩:AS).ev x=some (.ptr kb d):=by exact rfl) (hb:s.st.boxes[kb]?=some (some bx):=by exact rfl) (hc:(bx.cells.drop d).take z=cs:=by exact rfl) (hl:cs.length=z:=by exact rfl):alZ P n o s I kb (some (some bx)) (.agg cs):=
 fun C' st hst=>aX.loadPtr ho hd (by cases x<;>exact hx) hst hT hc hl
theorem dE(I:List Nat){p:PV}{st1:cY}(h: ∀ {C':qB},aX P C' n o ⟨rs s I,s.st⟩ ((⟨rs s I,st1⟩:AS).putO o.dst p))(k:DW P C n id false l Q s0 ⟨g.outs++ [some p],g.ks++ [some (.ef g.effs.length)],g.ins++ [I],g.effs++ [g.outs.length],g.fs++ [fun _=>st1],g.rds,g.az⟩ ((⟨s.env,st1⟩:AS).putO o.dst p) rest)(hg:WS l s o true:=by exact .n rfl):
 DW P C n id false l Q s0 g s (o::rest):=fun hv hr=>by
 obtain⟨ho,hd⟩:=t9 hr
 obtain⟨f,q1,-,q2,-⟩:=hv.hlast
 have q2:=q2 rfl
 subst q2
 have hle:g.le ⟨g.outs++ [some p],g.ks++ [some (.ef g.effs.length)],g.ins++ [I],g.effs++ [g.outs.length],g.fs++ [fun _=>st1],g.rds,g.az⟩:=⟨c9,c9,c9,c9,fun _ h=>h,fun _ h=>h⟩
 refine k (hv.next ho hle (by simp) (by simp) (by simp) (by simp [hv.hfl]) (by rw [yX];exact⟨_,b5 (by simp [hv.hfl]),rfl,fun _=>rfl,fun h=>by cases h⟩) (fun h=>by cases h) hv.hm (fun t q hq=>yI t q _ _ (b5 rfl) hq) ?_) (by simpa using hd)
 exact .does (hg.wd hv hle) (b5 hv.hi) (DT hv hle I) (.e (b5 hv.hk) (b5 rfl) (hle.fs _ _ q1) (b5 hv.hfl) fun _ _=>h)
theorem mN(I:List Nat){st1:cY}(h: ∀ {C':qB},aX P C' n o ⟨rs s I,s.st⟩ ⟨rs s I,st1⟩)(k:DW P C n id false l Q s0 ⟨g.outs++ [none],g.ks++ [some (.ef g.effs.length)],g.ins++ [I],g.effs++ [g.outs.length],g.fs++ [fun _=>st1],g.rds,g.az⟩ ⟨s.env,st1⟩ rest)(hn:o.dst=none:=by exact rfl)(hg:WS l s o true:=by exact .n rfl):
 DW P C n id false l Q s0 g s (o::rest):=fun hv hr=>by
 obtain⟨ho,hd⟩:=t9 hr
 obtain⟨f,q1,-,q2,-⟩:=hv.hlast
 have q2:=q2 rfl
 subst q2
 have hle:g.le ⟨g.outs++ [none],g.ks++ [some (.ef g.effs.length)],g.ins++ [I],g.effs++ [g.outs.length],g.fs++ [fun _=>st1],g.rds,g.az⟩:=⟨c9,c9,c9,c9,fun _ h=>h,fun _ h=>h⟩
 refine k (hv.next ho hle (by simp) (by simp) (by simp) (by simp [hv.hfl]) ⟨_,b5 (by simp [hv.hfl]),rfl,fun _=>rfl,fun h=>by cases h⟩ (fun h=>by cases h) hv.hm (fun t q hq=> .inr ⟨by rw [hn];simp,hq⟩) ?_) (by simpa using hd)
 exact .does (hg.wd hv hle) (b5 hv.hi) (DT hv hle I) (.e0 (b5 hv.hk) hn (hle.fs _ _ q1) (b5 hv.hfl) fun _ _=>h)
theorem dEz(I:List Nat){p:PV}{st1:cY}(h: ∀C' z,aX P C' n o ⟨rs s I,ab z s.st⟩ ((⟨rs s I,ab z st1⟩:AS).putO o.dst p))(k:DW P C n id true l Q s0 ⟨g.outs++ [some p],g.ks++ [some (.ef g.effs.length)],g.ins++ [I],g.effs++ [g.outs.length],g.fs++ [fun z=>ab z st1],g.rds,g.az⟩ ((⟨s.env,st1⟩:AS).putO o.dst p) rest)(hg:WS l s o true:=by exact .n rfl)(haz:g.az=none:=by exact rfl)(hlen:st1.boxes.length=s0.st.boxes.length:=by exact rfl):
 DW P C n id true l Q s0 g s (o::rest):=fun hv hr=>by
 obtain⟨ho,hd⟩:=t9 hr
 obtain⟨f,q1,-,-,q2⟩:=hv.hlast
 have q2:=q2 rfl haz
 subst q2
 have hcz:g.cz=none:=by unfold DD.cz;rw [haz];rfl
 have hle:g.le ⟨g.outs++ [some p],g.ks++ [some (.ef g.effs.length)],g.ins++ [I],g.effs++ [g.outs.length],g.fs++ [fun z=>ab z st1],g.rds,g.az⟩:=⟨c9,c9,c9,c9,fun _ h=>h,fun _ h=>h⟩
 refine k (hv.next ho hle (by simp) (by simp) (by simp) (by simp [hv.hfl]) (by rw [yX];exact⟨_,b5 (by simp [hv.hfl]),(by show ab g.cz st1=st1;rw [hcz];rfl),fun h=>(by cases h),fun _ _=>rfl⟩) (fun hmd f hf=>(List.mem_append.1 hf).elim (hv.hz hmd f) fun h=>by obtain rfl:=List.mem_singleton.1 h;exact .inr ⟨hlen,fun z=>rfl⟩) hv.hm (fun t q hq=>yI t q _ _ (b5 rfl) hq) ?_) (by simpa using hd)
 exact .does (hg.wd hv hle) (b5 hv.hi) (DT hv hle I) (.e (b5 hv.hk) (b5 rfl) (hle.fs _ _ q1) (b5 hv.hfl) h)
theorem dA{zb:c5}(h: ∀C' st,st.boxes.length=s0.st.boxes.length→aX P C' n o ⟨[],st⟩ ((⟨[],st.addBox zb⟩:AS).putO o.dst (.ptr s0.st.boxes.length 0)))(k:DW P C n id true l Q s0 ⟨g.outs++ [some (.ptr s0.st.boxes.length 0)],g.ks++ [some .al],g.ins++ [[]],g.effs,g.fs,g.rds,some (g.outs.length,zb)⟩ ((⟨s.env,s.st.addBox zb⟩:AS).putO o.dst (.ptr s0.st.boxes.length 0)) rest)(hg:WS l s o true:=by exact .n rfl)(haz:g.az=none:=by exact rfl):
 DW P C n id true l Q s0 g s (o::rest):=fun hv hr=>by
 obtain⟨ho,hd⟩:=t9 hr
 obtain⟨f,q1,-,-,q2⟩:=hv.hlast
 have q2:=q2 rfl haz
 subst q2
 have hle:g.le ⟨g.outs++ [some (.ptr s0.st.boxes.length 0)],g.ks++ [some .al],g.ins++ [[]],g.effs,g.fs,g.rds,some (g.outs.length,zb)⟩:=⟨c9,c9,c9,fun _ _ h=>h,fun _ h=>h,fun x h=>by rw [haz] at h;cases h⟩
 refine k (hv.next ho hle (by simp) (by simp) (by simp) hv.hfl ⟨_,q1,by rw [yX];rfl,fun h=>(by cases h),fun _ h=>by cases h⟩ hv.hz (fun h=>by cases h) (fun t q hq=>yI t q _ _ (b5 rfl) hq) ?_) (by simpa using hd)
 exact .does (E:= []) (hg.wd hv hle) (b5 hv.hi) (fun t q h=>by cases h) (.al rfl rfl (b5 hv.hk) (b5 rfl) h)
theorem dZ(t:Nat)(I:List Nat){off a:Nat}{zb:c5}{st1:cY}(h: ∀ {C':qB},aX P C' n o ⟨rs s I,s.st⟩ ⟨rs s I,st1⟩)(k:DW P C n id true l Q s0 ⟨g.outs++ [none],g.ks++ [some (.ef g.effs.length)],g.ins++ [I],g.effs++ [g.outs.length],g.fs++ [tw st1],g.rds,g.az⟩ ⟨s.env,st1⟩ rest)(hn:o.dst=none:=by exact rfl)(hg:WS l s o true:=by exact .n rfl)(haz:g.az=some (a,zb):=by exact rfl)(hp:(rs s I).lookup t=some (.ptr s0.st.boxes.length off):=by exact rfl):
 DW P C n id true l Q s0 g s (o::rest):=fun hv hr=>by
 obtain⟨ho,hd⟩:=t9 hr
 obtain⟨f,q1,q2,-,-⟩:=hv.hlast
 have hcz:g.cz=some zb:=by unfold DD.cz;rw [haz];rfl
 rw [hcz] at q2
 have q3:=hv.hz rfl f (List.mem_iff_getElem?.2 ⟨_,q1⟩)
 have hle:g.le ⟨g.outs++ [none],g.ks++ [some (.ef g.effs.length)],g.ins++ [I],g.effs++ [g.outs.length],g.fs++ [tw st1],g.rds,g.az⟩:=⟨c9,c9,c9,c9,fun _ h=>h,fun _ h=>h⟩
 refine k (hv.next ho hle (by simp) (by simp) (by simp) (by simp [hv.hfl]) ⟨_,b5 (by simp [hv.hfl]),(by show tw st1 g.cz=st1;rw [hcz];rfl),fun h=>(by cases h),fun _ h=>(by rw [show g.az=none from h] at haz;cases haz)⟩ (fun hmd f hf=>(List.mem_append.1 hf).elim (hv.hz hmd f) fun h=>by obtain rfl:=List.mem_singleton.1 h;exact .inl rfl) hv.hm (fun t q hq=> .inr ⟨by rw [hn];simp,hq⟩) ?_) (by simpa using hd)
 exact .does (hg.wd hv hle) (b5 hv.hi) (DT hv hle I) (.ea haz (b5 hv.hk) hn (hle.fs _ _ q1) (b5 hv.hfl) hp (q3.imp (fun x=>x) (·.1)) (by rw [q2];exact fun _=>h))
theorem vAl{T:TypeId}{ps:List PV}{st:cY}{N:Nat}(hN:st.boxes.length=N)(hz:cS P T=some ps)(ho:o.op= .alloc T:=by exact rfl)(hd:bQ o.dst n=true:=by exact rfl):aX P C n o ⟨[],st⟩ ((⟨[],st.addBox ⟨T,ps⟩⟩:AS).putO o.dst (.ptr N 0)):=by
 subst hN
 exact aX.alloc (s:=⟨[],st⟩) ho hd hz
theorem dS(k:DW P C n id md l Q s0 ⟨g.outs++ [some (.tup [])],g.ks++ [none],g.ins++ [[]],g.effs,g.fs,g.rds,g.az⟩ (s.putO o.dst (.tup [])) rest)(hg:WS l s o false)(hd':bQ o.dst n=true):
 DW P C n id md l Q s0 g s (o::rest):=fun hv hr=>by
 obtain⟨ho,hd⟩:=t9 hr
 have hle:g.le ⟨g.outs++ [some (.tup [])],g.ks++ [none],g.ins++ [[]],g.effs,g.fs,g.rds,g.az⟩:=⟨c9,c9,c9,fun _ _ h=>h,fun _ h=>h,fun _ h=>h⟩
 refine k (hv.next ho hle (by simp) (by simp) (by simp) hv.hfl (by rw [yX];exact hv.hlast) hv.hz hv.hm (fun t q hq=>yI t q _ _ (b5 rfl) hq) ?_) (by simpa using hd)
 exact .skip (hg.wd hv hle) (b5 hv.hk) (b5 rfl) hd'
theorem CQ{j d:Nat}{b c e:Bool}(hv:b=e)(k:DW P C n id md l Q s0 ⟨g.outs++ [some (.tup [])],g.ks++ [none],g.ins++ [[]],g.effs,g.fs,g.rds,g.az⟩ (s.putO o.dst (.tup [])) rest)(hg:o.guard=some (j,c):=by exact rfl)(hj:(l[j]?).bind (·.dst)=some d:=by exact rfl)(hb:s.lk d=some (.t (.leaf (.bool b))):=by exact rfl)(hne:(e==c)=false:=by exact rfl)(hd':bQ o.dst n=true:=by exact rfl):
 DW P C n id md l Q s0 g s (o::rest):=dS k (by subst hv;have:=WS.y hg hj hb;rwa [hne] at this) hd'
theorem dSu{j d:Nat}{c:Bool}(k:DW P C n id md l Q s0 ⟨g.outs++ [some (.tup [])],g.ks++ [none],g.ins++ [[]],g.effs,g.fs,g.rds,g.az⟩ (s.putO o.dst (.tup [])) rest)(hg:o.guard=some (j,c):=by exact rfl)(hj:(l[j]?).bind (·.dst)=some d:=by exact rfl)(hb:s.lk d=some (.tup []):=by exact rfl)(hd':bQ o.dst n=true:=by exact rfl):
 DW P C n id md l Q s0 g s (o::rest):=dS k (.u hg hj hb) hd'
theorem a5{j d:Nat}{b c:Bool}(hv:b=c)(hg:o.guard=some (j,c):=by exact rfl)(hj:(l[j]?).bind (·.dst)=some d:=by exact rfl)(hb:s.lk d=some (.t (.leaf (.bool b))):=by exact rfl):WS l s o true:=by
 subst hv
 have:=WS.y hg hj hb
 rwa [BEq.rfl] at this
theorem aj5{ops:Array Oper}(h: ∀i o,ops[i]?=some o→ ∀e∈o.after,Region.binds .any e=true→e.on<i): ∀(fuel i j:Nat),NV ops fuel i j=true→i<j
 |0,_,_,h'=>by simp [NV] at h'
 |fuel+1,i,j,h'=>by
  simp only [NV] at h'
  split at h'
  ·rename_i o ho
   rw [List.any_eq_true] at h'
   obtain⟨e,he,h'⟩:=h'
   simp only [Bool.and_eq_true,Bool.or_eq_true,beq_iff_eq] at h'
   have h1:=h j o ho e (by simpa using he) h'.1
   rcases h'.2 with h2|h2
   ·omega
   ·have:=aj5 h fuel i e.on h2
    omega
  ·cases h'
def S8(l:List Oper)(i t:Nat):Option Nat:=match nT l.toArray t with
 |some j=>if j<i then some j else none
 |none=>none
def DD.draw(g:DD)(l:List Oper)(s0:AS):dF where
 ops:=l.toArray
 env0:=s0.env
 F:=fun j b=>match g.fs[j]? with
  |some f=>f (bif b then g.cz else none)
  |none=>ab (bif b then g.cz else none) s0.st
 out:=fun i=>(g.outs[i]?).getD none
 kind:=fun i=>match g.ks[i]? with
  |some (some k)=>k
  |_=> .q 0 g.effs.length
 effs:=g.effs
 alloc:=g.az.map (·.1)
 ins:=fun i=>((g.ins[i]?).getD []).map fun t=>(t,S8 l i t)
def akX(fs:List (Option c5→cY))(z:Option c5)(x:(Nat×Nat)×Nat×Option (Option c5)):List (Option (Option (Option c5))):=(List.range' x.1.1 (x.1.2+1-x.1.1)).map fun j=>(fs[j]?).map fun f=>(f z).boxes[x.2.1]?
def akW(x:(Nat×Nat)×Nat×Option (Option c5)):List (Option (Option (Option c5))):=(List.range' x.1.1 (x.1.2+1-x.1.1)).map fun _=>some x.2.2
theorem NQ(hn:xI l.toArray=true){j t:Nat}(ho:l[j]?=some o)(hd:o.dst=some t):nT l.toArray t=some j:=gB hn (by simpa using ho) hd
theorem ao0{fs:List (Option c5→cY)}{z:Option c5}{rds:List ((Nat×Nat)×Nat×Option (Option c5))}(h:rds.map (akX fs z)=rds.map akW){lo hi kb j:Nat}{X:Option (Option c5)}(hm:((lo,hi),kb,X)∈rds)(h1:lo≤j)(h2:j≤hi){f:Option c5→cY}(hs:fs[j]?=some f):(f z).boxes[kb]?=X:=by
 have e:=List.map_inj_left.1 h _ hm
 unfold akX akW at e
 have:=List.map_inj_left.1 e j (by simp [List.mem_range'];exact⟨j-lo,by omega,by omega⟩)
 simpa [hs] using this
theorem dN(h:Q .normal s)(hm:P.follows .mixedOrders=true:=by exact ahC)(hok:(g.draw l s0).ok=true:=by kernel_rfl)(hrd:g.rds.map (akX g.fs g.cz)=g.rds.map akW:=by kernel_rfl):DW P C n id md l Q s0 g s []:=fun hv hr=>by
 have hlen:l.length≤g.outs.length:=by
  have:=congrArg List.length hr
  simp at this
  omega
 have hok':=hok
 simp only [dF.ok,Bool.and_eq_true] at hok'
 have hn:xI l.toArray=true:=hok'.1.1.1.2
 have hpv: ∀i t q,V3 l s0.env g.outs i t q→(g.draw l s0).pv (t,S8 l i t)=some q:=fun i t q hs=>by
  rcases hs with⟨j,oj,h1,h2,h3,h4⟩|⟨h1,h2⟩
  ·have hw:=NQ hn h2 h3
   unfold S8
   rw [hw]
   dsimp only
   rw [if_pos h1]
   show(g.outs[j]?).getD none=some q
   rw [h4]
   rfl
  ·have hw:S8 l i t=none:=by
    unfold S8
    split
    ·rename_i j hj
     obtain⟨-,oj,h3,h4⟩:=uJ hj
     split
     ·rename_i hji
      exact absurd h4 (h2 j oj hji (by simpa using h3))
     ·rfl
    ·rfl
   rw [hw]
   exact h1
 have hF: ∀ {j:Nat} {f:Option c5→cY},g.fs[j]?=some f→ ∀b,(g.draw l s0).F j b=f (bif b then g.cz else none):=fun {j f} hj b=>by show(match g.fs[j]? with|some f=>f (bif b then g.cz else none)|none=>ab (bif b then g.cz else none) s0.st)=_;rw [hj]
 have hK: ∀ {i:Nat} {k:DK},g.ks[i]?=some (some k)→(g.draw l s0).kind i=k:=fun {i k} hk=>by show(match g.ks[i]? with|some (some k)=>k|_=> .q 0 g.effs.length)=_;rw [hk]
 have hK0: ∀ {i:Nat},g.ks[i]?=some none→(g.draw l s0).kind i= .q 0 g.effs.length:=fun {i} hk=>by show(match g.ks[i]? with|some (some k)=>k|_=>DK.q 0 g.effs.length)=_;rw [hk]
 have hout: ∀ {i:Nat} {p:PV},g.outs[i]?=some (some p)→(g.draw l s0).out i=some p:=fun hp=>by show(g.outs[_]?).getD none=_;rw [hp];rfl
 have hops:=hok'.1.1.1.1
 rw [List.all_eq_true] at hops
 have hgs: ∀(i:Nat) (o:Oper) (j d:Nat) (c:Bool) (p:PV),l[i]?=some o→o.guard=some (j,c)→(l[j]?).bind (·.dst)=some d→V3 l s0.env g.outs i d p→(g.draw l s0).out j=some p:=fun i o j d c p ho hg hj hs=>by
  obtain⟨oj,hoj,hdj⟩: ∃oj,l[j]?=some oj∧oj.dst=some d:=by
   cases hx:l[j]? with
   |none=>rw [hx] at hj;cases hj
   |some oj=>rw [hx] at hj;exact⟨oj,rfl,hj⟩
  have hw:=NQ hn hoj hdj
  rcases hs with⟨j',oj',h1,h2,h3,h4⟩|⟨h1,h2⟩
  ·have hw':=NQ hn h2 h3
   rw [hw] at hw'
   cases hw'
   exact hout h4
  ·have hil:=(List.getElem?_eq_some_iff.1 ho).1
   have h5:=hops i (by simpa [DD.draw] using hil)
   have ho':(g.draw l s0).ops[i]?=some o:=by simpa [DD.draw] using ho
   simp only [dF.okOp,ho',hg,Bool.and_eq_true] at h5
   have h6:(g.draw l s0).anc j i=true:=h5.2.1
   have:=aj5 (fun i' o' ho' e he hb=>by
    have hil':=(Array.getElem?_eq_some_iff.1 ho').1
    have h7:=hops i' (by simpa using hil')
    simp only [dF.okOp,ho',Bool.and_eq_true,Array.all_eq_true'] at h7
    have h3:=h7.1 e he
    simpa [hb] using h3) _ _ _ h6
   exact absurd hdj (h2 j oj this hoj)
 have hwant: ∀ {i:Nat} {o:Oper} {b:Bool},l[i]?=some o→WD l s0.env g.outs i o b→(g.draw l s0).want o=some b:=fun {i o b} ho hw=>by
  unfold dF.want
  cases hw with
  |n a=>rw [a]
  |y a b c=>rw [a];dsimp only;rw [hgs _ _ _ _ _ _ ho a b c]
  |u a b c=>rw [a];dsimp only;rw [hgs _ _ _ _ _ _ ho a b c]
 have hstep: ∀i o,(g.draw l s0).ops[i]?=some o→(g.draw l s0).step P C n i o:=fun i o ho=>by
  have ho':l[i]?=some o:=by simpa [DD.draw] using ho
  obtain⟨hil,-⟩:=List.getElem?_eq_some_iff.1 ho'
  cases hv.hf i o ho' (by omega) with
  |does h1 h2 h3 h4=>
   rename_i E I
   refine .inl ⟨hwant ho' h1,?_⟩
   have hl: ∀s':AS,(∀t src p,(t,src)∈(g.draw l s0).ins i→(g.draw l s0).pv (t,src)=some p→s'.lk t=some p)→ ∀t q,E.lookup t=some q→s'.lk t=some q:=fun s' hl t q ht=>by
    obtain⟨h5,h6⟩:=h3 t q ht
    refine hl t (S8 l i t) q ?_ (hpv i t q h6)
    show(t,S8 l i t)∈((g.ins[i]?).getD []).map _
    rw [h2]
    exact List.mem_map.2 ⟨t,h5,rfl⟩
   unfold dF.does
   cases h4 with
   |q a b c=>
    rw [hK0 a]
    exact fun s' j bb _ _ hs hin=>⟨_,hout b,aX.frame (st:=s'.st) (fun C'=>c C' s'.st) rfl (hl s' hin)⟩
   |r a b c kN d=>
    rename_i lo hi kb X p
    have hk:=hK a
    rw [hk]
    intro s' j bb q1 q2 hs hin
    have hjl:hi<g.fs.length:=by
     have:=hok'.1.1.2
     rw [List.all_eq_true] at this
     have:=this i (by simpa [DD.draw] using hil)
     simp only [Bool.and_eq_true,dF.okKind,hk] at this
     have h9:=this.1.1.1.1.1.2
     simp only [decide_eq_true_eq] at h9
     have h10:hi≤g.effs.length:=h9
     rw [hv.hfl]
     omega
    obtain⟨f,hst⟩: ∃f,g.fs[j]?=some f:=⟨_,List.getElem?_eq_getElem (by omega)⟩
    have hX:=ao0 hrd c q1 q2 hst
    rw [hF hst] at hs
    have hcase:s'.st=f g.cz∨(md=true∧s'.st=f none):=by
     cases bb with
     |true=>exact .inl hs
     |false=>
      cases md with
      |true=>exact .inr ⟨rfl,hs⟩
      |false=>
       have:g.cz=none:=by unfold DD.cz;rw [hv.hm rfl];rfl
       rw [this]
       exact .inl hs
    rcases hcase with hs|⟨hmd,hs⟩
    ·exact⟨_,hout b,aX.frame (st:=s'.st) (fun C'=>d C' s'.st (by rw [hs];exact hX)) rfl (hl s' hin)⟩
    ·rcases hv.hz hmd f (List.mem_iff_getElem?.2 ⟨_,hst⟩) with h9|⟨h9,h10⟩
     ·exact⟨_,hout b,aX.bad (by rw [hs,h9])⟩
     ·refine⟨_,hout b,aX.frame (st:=s'.st) (fun C'=>d C' s'.st ?_) rfl (hl s' hin)⟩
      rw [hs,← hX]
      cases hz:g.cz with
      |none=>rfl
      |some z=>
       rw [h10 z]
       show _=((f none).boxes++ [some z])[kb]?
       rw [List.getElem?_append_left (by rw [h9];exact kN hmd)]
   |c a b c d=>
    rename_i j f p
    rw [hK a]
    refine fun s' jj bb q1 q2 hs hin=>⟨_,hout b,?_⟩
    obtain rfl:jj=j:=by omega
    exact aX.frame (st:=s'.st) (fun C'=>by rw [hs,hF c];exact d C' _) rfl (hl s' hin)
   |e a b c d e=>
    rename_i j f f1 p
    rw [hK a]
    refine fun s' bb hs hin=> .inl ⟨_,hout b,?_⟩
    rw [hF d]
    exact aX.frame (fun C'=>e C' _) (by rw [hs,hF c]) (hl s' hin)
   |e0 a b c d e=>
    rename_i j f f1
    rw [hK a]
    refine fun s' bb hs hin=> .inr ⟨b,?_⟩
    rw [hF d]
    exact aX.frame0 b (fun C'=>e C' _) (by rw [hs,hF c]) (hl s' hin)
   |ea z a b c d e f q=>
    rename_i j a' t off zb f0 f1
    have hcz:g.cz=some zb:=by unfold DD.cz;rw [z];rfl
    rw [hK a]
    refine fun s' bb hs hin=> .inr ⟨b,?_⟩
    rw [hF d]
    rw [hF c] at hs
    cases bb with
    |true=>
     rw [hcz] at hs ⊢
     exact aX.frame0 b q hs (hl s' hin)
    |false=>
     rcases f with f|f
     ·exact aX.bad (hs.trans f)
     ·refine aX.away (hl s' hin t _ e) ?_
      rw [hs]
      show(f0 none).boxes[_]?=none
      rw [List.getElem?_eq_none (by rw [f];exact Nat.le_refl _)]
   |al hmd z a b c=>
    rename_i zb
    have hcz:g.cz=some zb:=by unfold DD.cz;rw [z];rfl
    rw [hK a]
    refine fun s' j hs=>⟨_,hout b,?_⟩
    have key:s'.st=HP∨(s'.st.boxes.length=s0.st.boxes.length∧(g.draw l s0).F j true=s'.st.addBox zb):=by
     cases hj:g.fs[j]? with
     |none=>
      have h8: ∀b,(g.draw l s0).F j b=ab (bif b then g.cz else none) s0.st:=fun b=>by show(match g.fs[j]? with|some f=>f (bif b then g.cz else none)|none=>ab (bif b then g.cz else none) s0.st)=_;rw [hj]
      rw [h8] at hs ⊢
      refine .inr ⟨by rw [hs];rfl,?_⟩
      rw [hs,hcz]
      rfl
     |some f=>
      rw [hF hj] at hs ⊢
      rcases hv.hz hmd f (List.mem_iff_getElem?.2 ⟨_,hj⟩) with h9|⟨h9,h10⟩
      ·exact .inl (hs.trans h9)
      ·refine .inr ⟨by rw [hs];exact h9,?_⟩
       rw [hs,hcz]
       exact h10 zb
    rcases key with h9|⟨h9,h10⟩
    ·exact aX.bad h9
    ·rw [h10]
     exact aX.frame (E:= []) (fun C'=>c C' s'.st h9) rfl (fun t q h=>by cases h)
  |skip h1 h2 h3 h4=>exact .inr ⟨hwant ho' h1,⟨_,_,hK0 h2⟩,.inr ⟨hout h3,h4⟩⟩
 intro m a w hra
 refine wp_mono (aQ.drawn (g.draw l s0) (Q:=fun e s'=>e= .normal∧s'=⟨((List.range (g.draw l s0).ops.size).filterMap ((g.draw l s0).gX (Array.replicate (g.draw l s0).ops.size true)))++(g.draw l s0).env0,(g.draw l s0).F (g.draw l s0).effs.length (g.draw l s0).alloc.isSome⟩) hm hok rfl (by obtain⟨f,h1,h2⟩:=hv.hs0;rw [hF h1];exact h2.symm) hstep ⟨rfl,rfl⟩ m a w hra) fun e a' w'=>?_;rintro⟨s',m',⟨rfl,rfl⟩,h2⟩
 obtain⟨f,q1,q2,-,-⟩:=hv.hlast
 refine⟨s,m',h,RA.congr h2 ((hF q1 _).trans (Eq.trans (by cases ha:g.az with|none=>(show f (bif (g.az.map (·.1)).isSome then g.cz else none)=f g.cz;unfold DD.cz;rw [ha];rfl)|some x=>(show f (bif (g.az.map (·.1)).isSome then g.cz else none)=f g.cz;unfold DD.cz;rw [ha];rfl)) q2)) fun t p ht=>?_⟩
 show((g.draw l s0).sX (Array.replicate (g.draw l s0).ops.size true)).lk t=some p
 rcases hv.hlk t p ht with⟨j,oj,h1,h3,h4,h5⟩|⟨h1,h3⟩
 ·have hjl:j<l.length:=(List.getElem?_eq_some_iff.1 h3).1
  exact IB hn (i:=j) (o:=oj) (by have:j<(g.draw l s0).ops.size:=(by simpa [DD.draw] using hjl);simp [Array.getD_eq_getD_getElem?,this]) (by simpa [DD.draw] using h3) h4 (hout h5)
 ·rw [EY hn fun i hi=>?_]
  ·exact h1
  ·obtain⟨hil,oi,h6,h7⟩:=uJ hi
   exact absurd h7 (h3 i oi (by have:i<l.length:=(by simpa [DD.draw] using hil);omega) (by simpa [DD.draw] using h6))
end
end Go.Proofs.YtpioomclpaiomaaGreat

namespace Go.Proofs.YtpioomclpaiomaaGreat
instance:TC aO:=⟨aO.cs,aO.trs,2,aO.trs_at,aO.trs_len,fun l=>by rw [aO.trs_map];exact List.map_congr_left fun x _=>aO.tr_cs x,fun _=>rfl⟩
abbrev XB(l:List aO):PV:= .t (.row 2 (aO.trs l))
abbrev wA(l:List aO)(r:Nat):PV:= .acc 2 (aO.trs l) r
instance:TC aA:=⟨aA.cs,aA.trs,3,aA.trs_at,aA.trs_len,fun l=>by rw [aA.trs_map];exact List.map_congr_left fun x _=>aA.tr_cs x,fun _=>rfl⟩
abbrev a3(l:List aA):PV:= .t (.row 3 (aA.trs l))
abbrev NU(l:List aA)(r:Nat):PV:= .acc 3 (aA.trs l) r
instance:TC aG:=⟨aG.cs,aG.trs,9,aG.trs_at,aG.trs_len,fun l=>by rw [aG.trs_map];exact List.map_congr_left fun x _=>aG.tr_cs x,fun _=>rfl⟩
abbrev f9(l:List aG):PV:= .t (.row 9 (aG.trs l))
abbrev QM(l:List aG)(r:Nat):PV:= .acc 9 (aG.trs l) r
instance:TC bK:=⟨bK.cs,bK.trs,11,bK.trs_at,bK.trs_len,fun l=>by rw [bK.trs_map];exact List.map_congr_left fun x _=>bK.tr_cs x,fun _=>rfl⟩
abbrev m3(l:List bK):PV:= .t (.row 11 (bK.trs l))
abbrev ah5(l:List bK)(r:Nat):PV:= .acc 11 (bK.trs l) r
instance:TC aF:=⟨aF.cs,aF.trs,4,aF.trs_at,aF.trs_len,fun l=>by rw [aF.trs_map];exact List.map_congr_left fun x _=>aF.tr_cs x,fun _=>rfl⟩
abbrev cG(l:List aF):PV:= .t (.row 4 (aF.trs l))
abbrev LQ(l:List aF)(r:Nat):PV:= .acc 4 (aF.trs l) r
instance:TC aU:=⟨aU.cs,aU.trs,4,aU.trs_at,aU.trs_len,fun l=>by rw [aU.trs_map];exact List.map_congr_left fun x _=>aU.tr_cs x,fun _=>rfl⟩
abbrev RK(l:List aU):PV:= .t (.row 4 (aU.trs l))
abbrev WH(l:List aU)(r:Nat):PV:= .acc 4 (aU.trs l) r
instance:TC aP:=⟨aP.cs,aP.trs,11,aP.trs_at,aP.trs_len,fun l=>by rw [aP.trs_map];exact List.map_congr_left fun x _=>aP.tr_cs x,fun _=>rfl⟩
abbrev kR(l:List aP):PV:= .t (.row 11 (aP.trs l))
abbrev A4(l:List aP)(r:Nat):PV:= .acc 11 (aP.trs l) r
instance:TC aC:=⟨aC.cs,aC.trs,2,aC.trs_at,aC.trs_len,fun l=>by rw [aC.trs_map];exact List.map_congr_left fun x _=>aC.tr_cs x,fun _=>rfl⟩
abbrev e7(l:List aC):PV:= .t (.row 2 (aC.trs l))
abbrev vZ(l:List aC)(r:Nat):PV:= .acc 2 (aC.trs l) r
instance:TC aD:=⟨aD.cs,aD.trs,16,aD.trs_at,aD.trs_len,fun l=>by rw [aD.trs_map];exact List.map_congr_left fun x _=>aD.tr_cs x,fun _=>rfl⟩
abbrev jU(l:List aD):PV:= .t (.row 16 (aD.trs l))
abbrev kL(l:List aD)(r:Nat):PV:= .acc 16 (aD.trs l) r
instance:TC aT:=⟨aT.cs,aT.trs,5,aT.trs_at,aT.trs_len,fun l=>by rw [aT.trs_map];exact List.map_congr_left fun x _=>aT.tr_cs x,fun _=>rfl⟩
abbrev MK(l:List aT):PV:= .t (.row 5 (aT.trs l))
abbrev w5(l:List aT)(r:Nat):PV:= .acc 5 (aT.trs l) r
instance:TC aN:=⟨aN.cs,aN.trs,3,aN.trs_at,aN.trs_len,fun l=>by rw [aN.trs_map];exact List.map_congr_left fun x _=>aN.tr_cs x,fun _=>rfl⟩
abbrev r8(l:List aN):PV:= .t (.row 3 (aN.trs l))
abbrev mE(l:List aN)(r:Nat):PV:= .acc 3 (aN.trs l) r
instance:TC aH:=⟨aH.cs,aH.trs,12,aH.trs_at,aH.trs_len,fun l=>by rw [aH.trs_map];exact List.map_congr_left fun x _=>aH.tr_cs x,fun _=>rfl⟩
abbrev wW(l:List aH):PV:= .t (.row 12 (aH.trs l))
abbrev mG(l:List aH)(r:Nat):PV:= .acc 12 (aH.trs l) r
instance:TC aM:=⟨aM.cs,aM.trs,16,aM.trs_at,aM.trs_len,fun l=>by rw [aM.trs_map];exact List.map_congr_left fun x _=>aM.tr_cs x,fun _=>rfl⟩
abbrev E5(l:List aM):PV:= .t (.row 16 (aM.trs l))
abbrev mF(l:List aM)(r:Nat):PV:= .acc 16 (aM.trs l) r
instance:TC aL:=⟨aL.cs,aL.trs,6,aL.trs_at,aL.trs_len,fun l=>by rw [aL.trs_map];exact List.map_congr_left fun x _=>aL.tr_cs x,fun _=>rfl⟩
abbrev bC(l:List aL):PV:= .t (.row 6 (aL.trs l))
abbrev qK(l:List aL)(r:Nat):PV:= .acc 6 (aL.trs l) r
instance:TC aI:=⟨aI.cs,aI.trs,1,aI.trs_at,aI.trs_len,fun l=>by rw [aI.trs_map];exact List.map_congr_left fun x _=>aI.tr_cs x,fun _=>rfl⟩
instance:TC aB:=⟨aB.cs,aB.trs,2,aB.trs_at,aB.trs_len,fun l=>by rw [aB.trs_map];exact List.map_congr_left fun x _=>aB.tr_cs x,fun _=>rfl⟩
abbrev bB(l:List aB):PV:= .t (.row 2 (aB.trs l))
abbrev dV(l:List aB)(r:Nat):PV:= .acc 2 (aB.trs l) r
instance:TC aJ:=⟨aJ.cs,aJ.trs,6,aJ.trs_at,aJ.trs_len,fun l=>by rw [aJ.trs_map];exact List.map_congr_left fun x _=>aJ.tr_cs x,fun _=>rfl⟩
abbrev gK(l:List aJ):PV:= .t (.row 6 (aJ.trs l))
abbrev fG(l:List aJ)(r:Nat):PV:= .acc 6 (aJ.trs l) r
instance:TC aK:=⟨aK.cs,aK.trs,4,aK.trs_at,aK.trs_len,fun l=>by rw [aK.trs_map];exact List.map_congr_left fun x _=>aK.tr_cs x,fun _=>rfl⟩
abbrev jG(l:List aK):PV:= .t (.row 4 (aK.trs l))
abbrev uL(l:List aK)(r:Nat):PV:= .acc 4 (aK.trs l) r
abbrev dU(x:aA):List PV:= [pI x.gKind,pS x.gName,a3 x.gArgs]
abbrev hM(x:aG):List PV:= [pI x.gKind,pS x.gTrait,pS x.gName,pI x.gN,pI x.gType.gKind,pS x.gType.gName,a3 x.gType.gArgs,f9 x.gArgs,m3 x.gArms]
abbrev sJ(x:aF):List PV:= [pS x.gTrait,pI x.gType.gKind,pS x.gType.gName,a3 x.gType.gArgs]
abbrev ad6(x:aD):List PV:= [pS x.gName,a3 x.gParams,pI x.gResult.gKind,pS x.gResult.gName,a3 x.gResult.gArgs,pB x.gHasDefault,rS x.gVars,pI x.gBody.gKind,pS x.gBody.gTrait,pS x.gBody.gName,pI x.gBody.gN,pI x.gBody.gType.gKind,pS x.gBody.gType.gName,a3 x.gBody.gType.gArgs,f9 x.gBody.gArgs,m3 x.gBody.gArms]
abbrev qC(x:aT):List PV:= [pS x.gName,rS x.gSupertraits,pB x.gAuto,pB x.gAssoc,jU x.gSignatures]
abbrev wR(x:aN):List PV:= [pS x.gName,rS x.gVars,e7 x.gConstructors]
abbrev jO(x:aH):List PV:= [pS x.gTrait,rS x.gVars,pI x.gHead.gKind,pS x.gHead.gName,a3 x.gHead.gArgs,cG x.gWhere,pB x.gDefault,pB x.gHasAssoc,pI x.gAssoc.gKind,pS x.gAssoc.gName,a3 x.gAssoc.gArgs,kR x.gMethods]
abbrev wS(x:aM):List PV:= [pS x.gName,rS x.gVars,cG x.gWhere,RK x.gParams,pI x.gResult.gKind,pS x.gResult.gName,a3 x.gResult.gArgs,pI x.gBody.gKind,pS x.gBody.gTrait,pS x.gBody.gName,pI x.gBody.gN,pI x.gBody.gType.gKind,pS x.gBody.gType.gName,a3 x.gBody.gType.gArgs,f9 x.gBody.gArgs,m3 x.gBody.gArms]
abbrev fQ(x:aL):List PV:= [pS x.gName,rS x.gDeps,MK x.gTraits,r8 x.gDataTypes,wW x.gInstances,E5 x.gFunctions]
end Go.Proofs.YtpioomclpaiomaaGreat

namespace Go.Proofs.YtpioomclpaiomaaGreat
abbrev zV:ByteArray:=⟨#[40,99,97,108,108,32,98,111,116,104,32,40,99,97,108,108,32,105,100,32,40,99,97,108,108,32,105,100,32,40,110,101,119,32,116,97,103,32,50,41,41,41,41]⟩
abbrev cV:ByteArray:=⟨(List.append [32,40,105,110,115,116,32,115,104,111,119,32,40,41,32,105,110,116,32,40,41,32,40,41,32,40,41,32,40,109,32,40,120,41,32,120,41,41,32,40,105,110,115] [116,32,115,104,111,119,32,40,41,32,98,111,111,108,32,40,41,32,40,41,32,40,41,32,40,109,32,40,120,41,32,40,105,102,32,120,32,49,32,48,41,41,41]).toArray⟩
abbrev zW:ByteArray:=⟨(List.append [40,108,101,116,32,122,32,40,109,101,116,104,111,100,32,97,100,100,32,112,108,117,115,32,40,110,101,119,32,98,111,120,32,49] [41,32,40,110,101,119,32,98,111,120,32,50,41,41,32,40,99,97,115,101,32,122,32,40,98,111,120,32,110,32,110,41,41,41]).toArray⟩
abbrev fK:ByteArray:=⟨(List.append [32,40,105,110,115,116,32,101,113,32,40,97,41,32,40,98,111,120,32,39,97,41,32,40,40,101,113,32,39,97,41,41,32,40,41,32,40,41,32,40,115,97,109,101,32,40,120,32,121,41,32,40,99] [97,115,101,32,120,32,40,98,111,120,32,112,32,40,99,97,115,101,32,121,32,40,98,111,120,32,113,32,40,109,101,116,104,111,100,32,101,113,32,115,97,109,101,32,112,32,113,41,41,41,41,41,41,41]).toArray⟩
abbrev zX:ByteArray:=⟨#[40,99,97,108,108,32,98,111,116,104,32,40,110,101,119,32,112,97,105,114,32,51,32,116,114,117,101,41,41]⟩
abbrev nN:ByteArray:=⟨#[32,40,102,110,32,109,97,105,110,32,40,41,32,40,41,32,40,41,32,105,110,116,32]⟩
abbrev J2:ByteArray:=⟨(List.append [32,40,105,110,115,116,32,115,104,111,119,32,40,41,32,40,108,105,115,116,32,116,97,103,41,32,40,41,32,40,41,32,40,41,32,40,109,32,40,120,41] [32,52,41,41,32,40,105,110,115,116,32,115,104,111,119,32,40,41,32,116,97,103,32,40,41,32,40,41,32,40,41,32,40,109,32,40,120,41,32,53,41,41]).toArray⟩
abbrev zY:ByteArray:=⟨(List.append [32,40,102,110,32,103,114,111,119,32,40,97,41,32,40,40,115,104,111,119,32,39,97,41,41,32,40,40,110,32,105,110,116,41,32,40,120,32,39,97,41,41,32,105,110,116,32,40,105,102,32,40,60,32,110,32] [49,41,32,40,109,101,116,104,111,100,32,115,104,111,119,32,109,32,120,41,32,40,99,97,108,108,32,103,114,111,119,32,40,45,32,110,32,49,41,32,40,110,101,119,32,112,97,105,114,32,120,32,120,41,41,41,41]).toArray⟩
abbrev J3:ByteArray:=⟨(List.append [32,40,105,110,115,116,32,101,113,32,40,41,32,116,97,103,32,40,41,32,40,41,32,40,41,32,40,115,97,109,101,32,40,120,32,121,41,32,116,114,117,101,41,41,32] [40,105,110,115,116,32,111,114,100,32,40,41,32,116,97,103,32,40,41,32,40,41,32,40,41,32,40,108,101,115,115,32,40,120,32,121,41,32,102,97,108,115,101,41,41]).toArray⟩
abbrev zZ:ByteArray:=⟨(List.append [40,109,101,116,104,111,100,32,115,104,111,119,32,109,32,40,110,101,119,32,99,111,110,115,32,49,32,40,110,101,119,32,99,111] [110,115,32,50,32,40,116,104,101,32,40,108,105,115,116,32,105,110,116,41,32,40,110,101,119,32,110,105,108,41,41,41,41,41]).toArray⟩
abbrev z0:ByteArray:=⟨#[40,99,97,108,108,32,98,111,116,104,32,53,41]⟩
abbrev AA:ByteArray:=⟨#[40,43,32,40,99,97,108,108,32,105,100,32,52,41,32,40,109,101,116,104,111,100,32,115,104,111,119,32,109,32,40,110,101,119,32,116,97,103,32,55,41,41,41]⟩
abbrev AB:ByteArray:=⟨#[40,105,102,32,40,109,101,116,104,111,100,32,111,114,100,32,108,101,115,115,32,49,32,50,41,32,40,99,97,108,108,32,98,111,116,104,32,116,114,117,101,41,32,48,41]⟩
abbrev AC:ByteArray:=⟨(List.append [40,109,101,116,104,111,100,32,115,104,111,119,32,109,32,40,110,101,119,32,99,111,110,115,32,40,110,101,119,32,116,97] [103,32,49,41,32,40,116,104,101,32,40,108,105,115,116,32,116,97,103,41,32,40,110,101,119,32,110,105,108,41,41,41,41]).toArray⟩
abbrev J4:ByteArray:=⟨#[32,40,105,110,115,116,32,111,114,100,32,40,41,32,116,97,103,32,40,41,32,40,41,32,40,41,32,40,108,101,115,115,32,40,120,32,121,41,32,116,114,117,101,41,41]⟩
abbrev AD:ByteArray:=⟨#[40,109,101,116,104,111,100,32,115,104,111,119,32,109,32,40,110,101,119,32,110,105,108,41,41]⟩
abbrev cN:ByteArray:=⟨(List.append [40,112,97,99,107,97,103,101,32,99,111,114,101,32,40,41,32,40,116,114,97,105,116,32,115,104,111,119,32,40,41,32,40,41,32,40,109,32,40,41,32,105,110,116,41,32,40,116,119,111,32,40,39,115,101] [108,102,41,32,105,110,116,32,40,120,32,121,41,32,40,43,32,40,109,101,116,104,111,100,32,115,104,111,119,32,109,32,120,41,32,40,109,101,116,104,111,100,32,115,104,111,119,32,109,32,121,41,41,41,41]).toArray⟩
abbrev jY:ByteArray:=⟨(List.append (List.append [32,40,105,110,115,116,32,97,100,100,32,40,97,41,32,40,98,111,120,32,39,97,41,32,40,40,97,100,100,32,39,97,41,41,32] [40,41,32,40,40,98,111,120,32,40,97,115,115,111,99,32,97,100,100,32,39,97,41,41,41,32,40,112,108,117,115,32,40,120,32]) (List.append [121,41,32,40,99,97,115,101,32,120,32,40,98,111,120,32,112,32,40,99,97,115,101,32,121,32,40,98,111,120,32,113,32,40,110] [101,119,32,98,111,120,32,40,109,101,116,104,111,100,32,97,100,100,32,112,108,117,115,32,112,32,113,41,41,41,41,41,41,41,41])).toArray⟩
abbrev dK:ByteArray:=⟨(List.append [32,40,105,110,115,116,32,115,104,111,119,32,40,97,32,98,41,32,40,112,97,105,114,32,39,97,32,39,98,41,32,40,40,115,104,111,119,32,39,97,41,32,40,115,104,111,119,32,39,98,41,41,32,40,41,32,40,41,32,40,109,32,40] [120,41,32,40,99,97,115,101,32,120,32,40,112,97,105,114,32,121,32,122,32,40,45,32,40,109,101,116,104,111,100,32,115,104,111,119,32,109,32,121,41,32,40,109,101,116,104,111,100,32,115,104,111,119,32,109,32,122,41,41,41,41,41,41]).toArray⟩
abbrev AE:ByteArray:=⟨#[40,109,101,116,104,111,100,32,115,104,111,119,32,109,32,40,112,97,99,107,32,115,104,111,119,32,51,41,41]⟩
abbrev iI:ByteArray:=⟨(List.append [32,40,105,110,115,116,32,115,104,111,119,32,40,97,41,32,40,108,105,115,116,32,39,97,41,32,40,40,115,104,111,119,32,39,97,41,41,32,40,41,32,40,41,32,40,109,32,40,120,41,32,40,99,97,115,101,32,120,32,40] [110,105,108,32,48,41,32,40,99,111,110,115,32,104,32,116,32,40,43,32,40,109,101,116,104,111,100,32,115,104,111,119,32,109,32,104,41,32,40,109,101,116,104,111,100,32,115,104,111,119,32,109,32,116,41,41,41,41,41,41]).toArray⟩
abbrev nO:ByteArray:=⟨(List.append [32,40,102,110,32,105,100,32,40,97,41,32,40,41,32,40,40,120,32,39,97,41,41,32,39,97,32,120,41,32,40,102,110,32,98,111,116,104,32,40,97,41,32,40,40] [115,104,111,119,32,39,97,41,41,32,40,40,120,32,39,97,41,41,32,105,110,116,32,40,109,101,116,104,111,100,32,115,104,111,119,32,116,119,111,32,120,32,120,41,41]).toArray⟩
abbrev J5:ByteArray:=⟨#[32,40,105,110,115,116,32,115,104,111,119,32,40,41,32,116,97,103,32,40,41,32,40,41,32,40,41,32,40,109,32,40,120,41,32,40,99,97,115,101,32,120,32,40,116,97,103,32,110,32,110,41,32,40,110,111,110,101,32,48,41,41,41,41]⟩
abbrev cQ:ByteArray:=⟨(List.append [32,40,100,97,116,97,32,108,105,115,116,32,40,97,41,32,40,110,105,108,41,32,40,99,111,110,115,32,39,97,32,40,108,105,115,116,32,39,97,41,41,41,32,40,100,97,116,97,32,112,97,105,114,32,40,97,32,98,41] [32,40,112,97,105,114,32,39,97,32,39,98,41,41,32,40,100,97,116,97,32,98,111,120,32,40,97,41,32,40,98,111,120,32,39,97,41,41,32,40,100,97,116,97,32,117,110,105,116,32,40,41,32,40,117,110,105,116,41,41]).toArray⟩
abbrev J6:ByteArray:=⟨(List.append [32,40,102,110,32,108,101,110,32,40,97,41,32,40,41,32,40,40,120,32,40,108,105,115,116,32,39,97,41,41,41,32,105,110,116,32,40,99,97,115,101] [32,120,32,40,110,105,108,32,48,41,32,40,99,111,110,115,32,104,32,116,32,40,43,32,49,32,40,99,97,108,108,32,108,101,110,32,116,41,41,41,41,41]).toArray⟩
abbrev J7:ByteArray:=⟨#[32,40,105,110,115,116,32,115,104,111,119,32,40,97,41,32,39,97,32,40,40,101,113,32,39,97,41,41,32,40,41,32,40,41,32,40,109,32,40,120,41,32,49,41,41]⟩
abbrev J8:ByteArray:=⟨#[32,40,105,110,115,116,32,115,104,111,119,32,40,41,32,116,97,103,32,40,41,32,40,41,32,40,41,32,40,109,32,40,120,41,32,40,99,97,115,101,32,120,32,40,110,111,110,101,32,48,41,32,40,116,97,103,32,110,32,110,41,41,41,41]⟩
abbrev gU:ByteArray:=⟨#[32,40,105,110,115,116,32,97,100,100,32,40,41,32,105,110,116,32,40,41,32,40,41,32,40,105,110,116,41,32,40,112,108,117,115,32,40,120,32,121,41,32,40,43,32,120,32,121,41,41,41]⟩
abbrev cO:ByteArray:=⟨(List.append (List.append [32,40,116,114,97,105,116,32,101,113,32,40,41,32,40,41,32,40,115,97,109,101,32,40,39,115,101,108,102,41,32,98,111,111,108,41,41,32,40] [116,114,97,105,116,32,111,114,100,32,40,101,113,41,32,40,41,32,40,108,101,115,115,32,40,39,115,101,108,102,41,32,98,111,111,108,41,41,32]) (List.append [40,116,114,97,105,116,32,97,100,100,32,40,41,32,40,97,115,115,111,99,41,32,40,112,108,117,115,32,40,39,115,101,108,102,41,32,40,97,115] [115,111,99,32,97,100,100,32,39,115,101,108,102,41,41,41,32,40,116,114,97,105,116,32,115,101,110,100,32,40,41,32,40,97,117,116,111,41,41])).toArray⟩
abbrev J9:ByteArray:=⟨(List.append [32,40,102,110,32,115,117,109,32,40,97,41,32,40,40,97,100,100,32,39,97,41,41,32,40,40,120,32,39,97,41,32,40,121,32,39,97,41] [41,32,40,97,115,115,111,99,32,97,100,100,32,39,97,41,32,40,109,101,116,104,111,100,32,97,100,100,32,112,108,117,115,32,120,32,121,41,41]).toArray⟩
abbrev eM:ByteArray:=⟨#[40,112,97,99,107,97,103,101,32,97,112,112,32,40,99,111,114,101,41,32,40,100,97,116,97,32,116,97,103,32,40,41,32,40,116,97,103,32,105,110,116,41,32,40,110,111,110,101,41,41]⟩
abbrev eN:ByteArray:=⟨(List.append [32,40,105,110,115,116,32,101,113,32,40,41,32,105,110,116,32,40,41,32,40,41,32,40,41,32,40,115,97,109,101,32,40,120,32,121,41,32,40,61,32,120,32,121,41,41,41] [32,40,105,110,115,116,32,111,114,100,32,40,41,32,105,110,116,32,40,41,32,40,41,32,40,41,32,40,108,101,115,115,32,40,120,32,121,41,32,40,60,32,120,32,121,41,41,41]).toArray⟩
abbrev iJ:ByteArray:=⟨(List.append (List.append [32,40,105,110,115,116,32,115,104,111,119,32,40,97,41,32,40,108,105,115,116,32,39,97,41,32,40,41,32,40,100,101,102,97,117,108] [116,41,32,40,41,32,40,109,32,40,120,41,32,55,41,41,32,40,105,110,115,116,32,115,104,111,119,32,40,41,32,40,108,105,115,116,32]) (List.append [105,110,116,41,32,40,41,32,40,41,32,40,41,32,40,109,32,40,120,41,32,40,99,97,115,101,32,120,32,40,110,105,108,32,48,41,32] [40,99,111,110,115,32,104,32,116,32,40,43,32,104,32,40,109,101,116,104,111,100,32,115,104,111,119,32,109,32,116,41,41,41,41,41,41])).toArray⟩
abbrev KA:ByteArray:=⟨#[32,40,105,110,115,116,32,115,104,111,119,32,40,41,32,105,110,116,32,40,41,32,40,41,32,40,41,32,40,109,32,40,120,41,32,57,41,41]⟩
abbrev s_:ByteArray:=⟨#[]⟩
abbrev s_0:ByteArray:=⟨#[48]⟩
abbrev s_A:ByteArray:=⟨#[65]⟩
abbrev f7:ByteArray:=⟨#[97]⟩
abbrev hQ:ByteArray:=⟨#[97,100,100]⟩
abbrev iA:ByteArray:=⟨#[97,115,115,111,99]⟩
abbrev xO:ByteArray:=⟨#[97,117,116,111]⟩
abbrev zL:ByteArray:=⟨#[98]⟩
abbrev fN:ByteArray:=⟨#[98,111,111,108]⟩
abbrev p9:ByteArray:=⟨#[98,111,120]⟩
abbrev s_c:ByteArray:=⟨#[99]⟩
abbrev M6:ByteArray:=⟨#[99,97,108,108]⟩
abbrev vN:ByteArray:=⟨#[99,97,115,101]⟩
abbrev cF:ByteArray:=⟨#[99,111,110,115]⟩
abbrev fV:ByteArray:=⟨#[99,111,114,101]⟩
abbrev M7:ByteArray:=⟨#[100,97,116,97]⟩
abbrev tV:ByteArray:=⟨#[100,101,102,97,117,108,116]⟩
abbrev vX:ByteArray:=⟨#[100,121,110]⟩
abbrev uU:ByteArray:=⟨#[101,113]⟩
abbrev s_f:ByteArray:=⟨#[102]⟩
abbrev kS:ByteArray:=⟨#[102,97,108,115,101]⟩
abbrev aiZ:ByteArray:=⟨#[102,110]⟩
abbrev s_g:ByteArray:=⟨#[103]⟩
abbrev s_h:ByteArray:=⟨#[104]⟩
abbrev BS:ByteArray:=⟨#[105,102]⟩
abbrev M8:ByteArray:=⟨#[105,110,115,116]⟩
abbrev fW:ByteArray:=⟨#[105,110,116]⟩
abbrev CL:ByteArray:=⟨#[108,101,116]⟩
abbrev cH:ByteArray:=⟨#[108,105,115,116]⟩
abbrev eO:ByteArray:=⟨#[109]⟩
abbrev nQ:ByteArray:=⟨#[109,101,116,104,111,100]⟩
abbrev CM:ByteArray:=⟨#[110,101,119]⟩
abbrev fL:ByteArray:=⟨#[110,105,108]⟩
abbrev SG:ByteArray:=⟨#[111,110,101]⟩
abbrev iE:ByteArray:=⟨#[111,114,100]⟩
abbrev s_p:ByteArray:=⟨#[112]⟩
abbrev vO:ByteArray:=⟨#[112,97,99,107]⟩
abbrev VR:ByteArray:=⟨#[112,97,99,107,97,103,101]⟩
abbrev vP:ByteArray:=⟨#[112,97,105,114]⟩
abbrev s_q:ByteArray:=⟨#[113]⟩
abbrev iS:ByteArray:=⟨#[115,101,108,102]⟩
abbrev bF:ByteArray:=⟨#[115,104,111,119]⟩
abbrev s_t:ByteArray:=⟨#[116]⟩
abbrev VS:ByteArray:=⟨#[116,104,101]⟩
abbrev E8:ByteArray:=⟨#[116,114,97,105,116]⟩
abbrev n8:ByteArray:=⟨#[116,114,117,101]⟩
abbrev fC:ByteArray:=⟨#[116,119,105,99,101]⟩
abbrev iH:ByteArray:=⟨#[117,110,105,116]⟩
abbrev eK:ByteArray:=⟨#[120]⟩
abbrev pW:ByteArray:=⟨#[121]⟩
abbrev ajV:ByteArray:=⟨#[10]⟩
abbrev ajW:ByteArray:=⟨#[39]⟩
abbrev xZ:ByteArray:=⟨#[41]⟩
abbrev LB:ByteArray:=⟨#[42]⟩
abbrev yA:ByteArray:=⟨#[43]⟩
abbrev CZ:ByteArray:=⟨#[45]⟩
abbrev LC:ByteArray:=⟨#[60]⟩
abbrev LD:ByteArray:=⟨#[61]⟩
end Go.Proofs.YtpioomclpaiomaaGreat

namespace Go.Proofs.YtpioomclpaiomaaGreat
set_option linter.unusedSimpArgs false
set_option linter.unusedVariables false
open Go.RowKit Go.WalkArith Go.IntWalk Go.WideShapes
def EJ(a:Int):UInt8:=UInt8.ofNat (a%256).toNat
theorem ZL(a:Int):IntKind.wrap .u8 a=((EJ a).toNat:Int):=by
 unfold EJ IntKind.wrap
 simp [IntKind.bits,IntKind.signed]
 omega
def bytesStr(l:List UInt8):ByteArray:=⟨l.toArray⟩
theorem TP(l:List UInt8):(bytesStr l).size=l.length:=by simp [bytesStr,ByteArray.size]
theorem TO(l:List UInt8):strOfNums (l.map fun b=>(b.toNat:Int))=bytesStr l:=by
 unfold strOfNums bytesStr
 congr 2
 rw [List.map_map]
 conv=>rhs;rw [← List.map_id l]
 apply List.map_congr_left
 intro b _
 simp
section
variable {P:Program} {C:qB} {n:Nat} {s:AS} {o:Oper}
theorem aX.quoI{T yT:TypeId}{x y:Operand}{a b:Int}(ho:o.op= .binOp .quo T x y yT)(hd:bQ o.dst n=true)(hx:s.ev x=some (.t (.leaf (.int .i64 a))))(hy:s.ev y=some (.t (.leaf (.int .i64 b))))(hb:b≠0):
 aX P C n o s (s.putO o.dst (.t (.leaf (.int .i64 (aR (a.tdiv b)))))):=aX.bin ho hd hx hy (fun w=>by simp [eqGuard,binOp,Op.intDiv,hb,aR]) (wf_wrap .i64 _)
theorem aX.remI{T yT:TypeId}{x y:Operand}{a b:Int}(ho:o.op= .binOp .rem T x y yT)(hd:bQ o.dst n=true)(hx:s.ev x=some (.t (.leaf (.int .i64 a))))(hy:s.ev y=some (.t (.leaf (.int .i64 b))))(hb:b≠0):
 aX P C n o s (s.putO o.dst (.t (.leaf (.int .i64 (a.tmod b))))):=
 aX.quiet (c3 hd) fun m ac w h=>by
  obtain⟨h1,h3⟩:=cJ.leaf_eq (h.eval hx)
  have h2:=(cJ.leaf_eq (h.eval hy)).1
  have h4: -9223372036854775808≤a∧a≤9223372036854775807:=by
   have h5:(Lit.int .i64 a).wf=true:=h3
   simpa [Lit.wf,IntKind.min,IntKind.max,IntKind.bits,IntKind.signed] using h5
  have h6:(a.tmod b).natAbs≤a.natAbs:=by rw [Int.natAbs_tmod];exact Nat.mod_le _ _
  have h7:0≤a→0≤a.tmod b:=fun h=>Int.tmod_nonneg b h
  have h8:a≤0→a.tmod b≤0:=fun h=>by have:=Int.tmod_nonneg b (show 0≤ -a by omega);rw [Int.neg_tmod] at this;omega
  refine⟨.int .i64 (a.tmod b),?_,cJ.leaf (wf_i64 (by omega))⟩
  unfold execOp
  simp [ho,h1,h2,eqGuard,binOp,Op.intDiv,hb]
theorem aX.convU8{S T:TypeId}{x:Operand}{k:IntKind}{a:Int}(ho:o.op= .convert S T x)(hd:bQ o.dst n=true)(hx:s.ev x=some (.t (.leaf (.int k a))))(hS: ∃k',P.underlying S=some (.int k'))(hT:P.underlying T=some (.int .u8)):
 aX P C n o s (s.putO o.dst (.t (.leaf (.int .u8 ((EJ a).toNat:Int))))):=
 aX.quiet (c3 hd) fun m ac w h=>⟨.int .u8 ((EJ a).toNat:Int),by
  have h3:=(cJ.leaf_eq (h.eval hx)).1
  obtain⟨k',hS⟩:=hS
  unfold execOp
  simp [ho,h3,convert,run_underlying hS,run_underlying hT,Conv.intToInt,ZL],cJ.leaf (by rw [← ZL];exact wf_wrap .u8 a)⟩
theorem aX.subU8{T yT:TypeId}{x y:Operand}{a b:Int}(ho:o.op= .binOp .sub T x y yT)(hd:bQ o.dst n=true)(hx:s.ev x=some (.t (.leaf (.int .u8 a))))(hy:s.ev y=some (.t (.leaf (.int .u8 b)))):
 aX P C n o s (s.putO o.dst (.t (.leaf (.int .u8 ((EJ (a-b)).toNat:Int))))):=by
 rw [← ZL]
 exact aX.subW ho hd hx hy
theorem aX.bytesStr{S T e:TypeId}{x:Operand}{p:PV}{l:List UInt8}(ho:o.op= .convert S T x)(hd:bQ o.dst n=true)(hx:s.ev x=some p)(hp:mL p=some (1,cK l))(hS:P.underlying S=some (.slice e))(he:P.underlying e=some (.int .u8))(hT:P.underlying T=some .string):
 aX P C n o s (s.putO o.dst (.t (.leaf (.string (bytesStr l))))):=
 aX.quiet (c3 hd) fun m ac w h=>by
  have h1:=uT hp (h.eval hx)
  obtain⟨a0,cap0,hv0,hl0,hm0⟩:=h1.shape
  rw [gG] at hl0
  have hsz:sH (.string (Go.Proofs.YtpioomclpaiomaaGreat.bytesStr l)):=by show(Go.Proofs.YtpioomclpaiomaaGreat.bytesStr l).size≤maxLen;rw [TP];omega
  refine⟨.string (Go.Proofs.YtpioomclpaiomaaGreat.bytesStr l),?_,cJ.leaf hsz⟩
  generalize hv:ac.eval x=v at*
  cases h1 with
  |row c q1 q2 q3 q4=>
   have keyAll: ∀(a:Option Addr) (cap:Nat) (q3:cK l≠ []→ ∃b off,a=some ⟨b,off,none⟩∧b<w.heap.size∧ ∀(i:Nat) (e:List Tr),(cK l)[i]?=some e→ ∀(j:Nat) (d:Tr),e[j]?=some d→j9 C.av s.st m b (off+i*1+j)∧w.cell? ⟨b,off+i*1+j,none⟩=some (c i j)),(convert S T (.slice a (cK l).length cap)).run P w= .ok (.string (Go.Proofs.YtpioomclpaiomaaGreat.bytesStr l)) w:=fun a cap q3=>by
    by_cases hne:l= []
    ·subst hne
     have hlen:(cK []).length=0:=rfl
     rw [hlen]
     cases a with
     |none=>exact run_convert_bytes_nil (P:=P) w S e hS he 0 cap T hT
     |some a=>
      obtain⟨b,off,sp⟩:=a
      have hld:(loadCells ⟨b,off,sp⟩ 0).run P w= .ok (([]:List Int).map (Value.int .u8)).toArray w:=by simp [loadCells,loadCellsFrom]
      rw [run_convert_bytes_string w S T e _ 0 cap hS he hT,run_bytesToString w _ 0 cap [] hld]
      rfl
    ·obtain⟨b,off,ha,hb,hc⟩:=q3 (by intro h0;apply hne;have:=congrArg List.length h0;rw [gG] at this;exact List.eq_nil_of_length_eq_zero this)
     subst ha
     have:=run_convert_bytes_arg (P:=P) w S e hS he b off (cK l).length cap (l.map fun b=>(b.toNat:Int)) (by simp [gG]) (fun i hi=>by
      rw [gG] at hi
      have h4:=(hc i _ (w6 hi) 0 (.leaf (.int .u8 ((l[i]).toNat:Int))) rfl).2
      have h5:=(q4 i _ (w6 hi) 0 (.leaf (.int .u8 ((l[i]).toNat:Int))) rfl).rep.leaf_eq.1
      rw [Nat.mul_one,Nat.add_zero] at h4
      rw [h4,h5]
      simp [hi]) T hT
     rw [TO] at this
     exact this
   unfold execOp
   simp only [ho,hv]
   rw [Sem.run_bind,keyAll _ _ q3]
   rfl
end
end Go.Proofs.YtpioomclpaiomaaGreat

namespace Go.Proofs.YtpioomclpaiomaaGreat.W
set_option maxRecDepth 100000
set_option maxHeartbeats 40000000
noncomputable section
open Go.RowKit Go.Proofs
set_option linter.unusedSimpArgs false
set_option linter.unusedVariables false
attribute [local irreducible] lt
def XL(m:ByteArray→UInt8→Option ((List ByteArray))):Prop:= ∀(ps:ByteArray) (pby:UInt8) (r:(List ByteArray)),m ps pby=some r→b4 Tryz.prog 191 [pS ps,pU pby] (rS r:PV)
def UE(fu:Nat)(ps:ByteArray)(pby:UInt8):((List ByteArray)×Int×Int)→Option (LR ((List ByteArray)×Int×Int) ((List ByteArray))):=
 fun(v4,v2,v3)=>sw (decide (v3≤(ps.size:Int)))
 (sw (decide (v3=(ps.size:Int)))
 (gd ((0:Int)≤v2∧(v2:Int)≤v3∧(v3:Int)≤(ps.size:Int))
 (gd ((v4).length+(([(ps.extract (v2:Int).toNat (v3:Int).toNat)]:List ByteArray)).length≤68719476736)
 (some (.next ((v4++([(ps.extract (v2:Int).toNat (v3:Int).toNat)]:List ByteArray)),(aR (v3+1)),(aR (v3+1)))))))
 (gd (0≤v3∧(v3).toNat<(ps).size)
 (sw (decide ((((A5 ps ((v3).toNat)).toNat:Int):Int)=(pby.toNat:Int)))
 (gd ((0:Int)≤v2∧(v2:Int)≤v3∧(v3:Int)≤(ps.size:Int))
 (gd ((v4).length+(([(ps.extract (v2:Int).toNat (v3:Int).toNat)]:List ByteArray)).length≤68719476736)
 (some (.next ((v4++([(ps.extract (v2:Int).toNat (v3:Int).toNat)]:List ByteArray)),(aR (v3+1)),(aR (v3+1)))))))
 (some (.next (v4,v2,(aR (v3+1))))))))
 (some (.brk (v4,v2,v3)))
def UF(fu:Nat)(ps:ByteArray)(pby:UInt8):Option (((List ByteArray))⊕((List ByteArray)×Int×Int)):=
 loopW (UE fu ps pby) fu (([]),0,0)
def BQ(fu:Nat)(ps:ByteArray)(pby:UInt8):Option ((List ByteArray)):=
 so (UF fu ps pby) (fun(v4,v2,v3)=>
 some v4)
theorem UG(fu:Nat):XL (BQ fu):=by
 intro ps pby r H
 have H:=eF H
 refine qI Tryz.func191 (fun C hC=>?_)
 refine qS (qR (q1 aE (qN (qS (qR (q1 (qZ ([]:List ByteArray) bU kG) (q1 aE (qN (qS (qR (q1 aE (qN ?_))))))))))))
 iterate 2 refine qS ?_
 refine qR (q1 aE (qN ?_))
 refine j8 5 (a9 _) (fun hl6=>?_)
 refine VM (σ:=(List ByteArray)×Int×Int) (fun(v4,v2,v3)=>⟨[(0,pS ps),(1,pU pby),(4,.nil),(5,aS v4 0),(6,pI v2),(7,pI v3)],⟨[],[⟨9,1,a4 (v4),false⟩]⟩⟩) (fun(v4,v2,v3)=>⟨[(4,.nil),(5,aS v4 0)],⟨[],[⟨9,1,a4 (v4),false⟩]⟩⟩) (f8 H) ?_ ?_
 ·rintro k5 ⟨v4,v2,v3⟩ H
  iterate 2 refine qS ?_
  refine qR ?_
  iterate 2 refine q1 aE ?_
  refine q1 (aX.lenS rfl rfl rfl Tryz.underlying9) (q1 rLe (qN ?_))
  refine bA H (fun h7 H=>?_) (fun h7 H=>?_)
  ·refine aQ.skip (qS (aQ.block (qS (qR ?_))))
   iterate 2 refine q1 aE ?_
   refine q1 (aX.lenS rfl rfl rfl Tryz.underlying9) (q1 eG (q1 aE ?_))
   refine dY 19 H (fun g8 H=>?_) fun g8 H=>?_
   ·refine qk g8 ?_
    iterate 4 refine qk g8 ?_
    refine q1 (bS g8) (qN (dM rfl (qS (qR ?_))))
    iterate 4 refine q1 aE ?_
    refine cX H fun z9 H=>(q1 (aX.sliceS (l:=v2) (k:=v3) rfl rfl rfl rfl rfl z9 Tryz.underlying9) (q1 (hH ([(ps.extract (v2:Int).toNat (v3:Int).toNat)]:List ByteArray) bU kG) (cX H fun z10 H=>(q1 (kX z10 bU qH) (q1 aE (qN (qR (q1 aE (q1 RJ (q1 aE (qN (qR (q1 aE ?_)))))))))))))
    refine q1 RJ (q1 aE (qN ?_))
    exact lwN ⟨_,(aZ H:),b0⟩
   iterate 2 refine qg g8 aE ?_
   refine cX H fun z11 H=>(qg g8 (aX.indexSI (y:=v3) rfl rfl rfl rfl z11.1 z11.2 Tryz.underlying9) (qg g8 aE (qg g8 eG (q1 (b6 g8) (qN ?_)))))
   refine bA H (fun h12 H=>?_) (fun h12 H=>?_)
   ·refine qS (qR ?_)
    iterate 4 refine q1 aE ?_
    refine cX H fun z13 H=>(q1 (aX.sliceS (l:=v2) (k:=v3) rfl rfl rfl rfl rfl z13 Tryz.underlying9) (q1 (hH ([(ps.extract (v2:Int).toNat (v3:Int).toNat)]:List ByteArray) bU kG) (cX H fun z14 H=>(q1 (kX z14 bU qH) (q1 aE (qN (qR (q1 aE (q1 RJ (q1 aE (qN (qR (q1 aE ?_)))))))))))))
    refine q1 RJ (q1 aE (qN ?_))
    exact lwN ⟨_,(aZ H:),b0⟩
   refine aQ.skip (qR (q1 aE (q1 RJ (q1 aE (qN ?_)))))
   exact lwN ⟨_,(aZ H:),b0⟩
  refine aQ.exit ?_;exact lwB ⟨_,(aZ H:),b0⟩
 rintro⟨v4,v2,v3⟩ H
 refine qS (qR ?_)
 iterate 2 refine q1 aE ?_
 refine qN (aQ.ret ?_)
 cases aZ H
 exact bL
def ajJ(m:cM→Option cM):Prop:= ∀(pr:cM) (r:cM),m pr=some r→cP Tryz.prog 216 [.ptr 0 0] ⟨[some ⟨250,[pS pr.gs,pI pr.gat,pI pr.gdeep,pI pr.gsize,pB pr.gbad]⟩],[]⟩ (fun q t=>q=(.tup []:PV)∧t=⟨[some ⟨250,[pS r.gs,pI r.gat,pI r.gdeep,pI r.gsize,pB r.gbad]⟩],[]⟩)
def S1(fu:Nat)(pr:cM):Int→Option (LR Int cM):=
 fun v1=>sw (decide (v1<(pr.gs.size:Int)))
 (gd (0≤v1∧(v1).toNat<(pr.gs).size)
 (sw (decide ((((A5 pr.gs ((v1).toNat)).toNat:Int):Int)=32))
 (some (.next (aR (v1+1))))
 (sw (decide ((((A5 pr.gs ((v1).toNat)).toNat:Int):Int)=10))
 (some (.next (aR (v1+1))))
 (some (.brk v1)))))
 (some (.brk v1))
def S2(fu:Nat)(pr:cM):Option (cM⊕Int):=
 loopW (S1 fu pr) fu pr.gat
def wX(fu:Nat)(pr:cM):Option cM:=
 so (S2 fu pr) (fun v1=>
 some (cM.mk pr.gs v1 pr.gdeep pr.gsize pr.gbad))
theorem JE(fu:Nat):ajJ (wX fu):=by
 intro pr r H
 have H:=eF H
 refine qI Tryz.func216 (fun C hC=>?_)
 refine VM (σ:=Int) (fun v1=>⟨[(0,.ptr 0 0)],⟨[some ⟨250,[pS pr.gs,pI v1,pI pr.gdeep,pI pr.gsize,pB pr.gbad]⟩],[]⟩⟩) (fun v1=>⟨[],⟨[some ⟨250,[pS pr.gs,pI v1,pI pr.gdeep,pI pr.gsize,pB pr.gbad]⟩],[]⟩⟩) (f8 H) ?_ ?_
 ·rintro k2 v1 H
  iterate 2 refine qS ?_
  rcases lC (decide (v1<(pr.gs.size:Int))) with g3|g3
  ·have H:=oE H g3
   refine cX H fun z4 H=>?_
   rcases lC (decide ((((A5 pr.gs ((v1).toNat)).toNat:Int):Int)=32)) with g5|g5
   ·have H:=oE H g5
    refine dW (dI [0] aE (dI [2] pT (dI [3] (a6 fB) (dD [4] (bD jN) (dI [0] aE (dI [6] pT (dI [7] (a6 lD) (dD [8] (bD eE) (dI [9] (aX.lenS rfl rfl rfl Tryz.underlying9) (dI [5,10] gP (dI [11] aE (dI (hg:=a5 g3) [0] aE (dI (hg:=a5 g3) [13] pT ?_)))))))))))))
    refine dI (hg:=a5 g3) [14] (a6 lD) (dD (hg:=a5 g3) [15] (bD eE) (dI (hg:=a5 g3) [0] aE (dI (hg:=a5 g3) [17] pT (dI (hg:=a5 g3) [18] (a6 fB) (dD (hg:=a5 g3) [19] (bD jN) (dI (hg:=a5 g3) [16,20] (aX.indexSI (y:=v1) rfl rfl rfl rfl z4.1 z4.2 Tryz.underlying9) (dI (hg:=a5 g3) [21] eG (dI (hg:=a5 g3) [22] aE ?_))))))))
    iterate 10 refine CQ g5 ?_
    refine dI (hg:=a5 g3) [23] (bS g5) (dI [12,34] (bS g3) (dN (dM rfl (aQ.skip (aQ.block (qR ?_))))))
    iterate 2 refine q1 aE ?_
    refine q1 pT (q1 (a6 fB) (q1 (bD jN) (q1 RJ (q1 pT (q1 (a6 fB) (q1 (bR sz3) (qN ?_)))))))
    exact lwN ⟨_,(aZ H:),b0⟩
   have H:=oA H g5
   refine dW (dI [0] aE (dI [2] pT (dI [3] (a6 fB) (dD [4] (bD jN) (dI [0] aE (dI [6] pT (dI [7] (a6 lD) (dD [8] (bD eE) (dI [9] (aX.lenS rfl rfl rfl Tryz.underlying9) (dI [5,10] gP (dI [11] aE (dI (hg:=a5 g3) [0] aE (dI (hg:=a5 g3) [13] pT ?_)))))))))))))
   refine dI (hg:=a5 g3) [14] (a6 lD) (dD (hg:=a5 g3) [15] (bD eE) (dI (hg:=a5 g3) [0] aE (dI (hg:=a5 g3) [17] pT (dI (hg:=a5 g3) [18] (a6 fB) (dD (hg:=a5 g3) [19] (bD jN) (dI (hg:=a5 g3) [16,20] (aX.indexSI (y:=v1) rfl rfl rfl rfl z4.1 z4.2 Tryz.underlying9) (dI (hg:=a5 g3) [21] eG (dI (hg:=a5 g3) [22] aE (dI (hg:=a5 g5) [0] aE (dI (hg:=a5 g5) [24] pT (dI (hg:=a5 g5) [25] (a6 lD) (dD (hg:=a5 g5) [26] (bD eE) (dI (hg:=a5 g5) [0] aE ?_)))))))))))))
   refine dI (hg:=a5 g5) [28] pT (dI (hg:=a5 g5) [29] (a6 fB) (dD (hg:=a5 g5) [30] (bD jN) (dI (hg:=a5 g5) [27,31] (aX.indexSI (y:=v1) rfl rfl rfl rfl z4.1 z4.2 Tryz.underlying9) (dI (hg:=a5 g5) [32] eG (dI (hg:=a5 g3) [23,33] (b6 g5) (dI [12,34] (bS g3) (dN ?_)))))))
   refine bA H (fun h6 H=>?_) (fun h6 H=>?_)
   ·refine aQ.skip (aQ.block (qR ?_))
    iterate 2 refine q1 aE ?_
    refine q1 pT (q1 (a6 fB) (q1 (bD jN) (q1 RJ (q1 pT (q1 (a6 fB) (q1 (bR sz3) (qN ?_)))))))
    exact lwN ⟨_,(aZ H:),b0⟩
   refine aQ.exit ?_;exact lwB ⟨_,(aZ H:),b0⟩
  have H:=oA H g3
  refine dW (dI [0] aE (dI [2] pT (dI [3] (a6 fB) (dD [4] (bD jN) (dI [0] aE (dI [6] pT (dI [7] (a6 lD) (dD [8] (bD eE) (dI [9] (aX.lenS rfl rfl rfl Tryz.underlying9) (dI [5,10] gP (dI [11] aE ?_)))))))))))
  iterate 11 refine CQ g3 ?_
  iterate 10 refine dSu ?_
  refine CQ g3 (dI [12] (b6 g3) (dN (kJ rfl (aQ.exit ?_))))
  exact lwB ⟨_,(aZ H:),b0⟩
 rintro v1 H
 cases aZ H
 exact qe (ps:= []) ⟨rfl,rfl⟩ trivial
def ajF(m:UInt8→Option Bool):Prop:= ∀(px:UInt8) (r:Bool),m px=some r→b4 Tryz.prog 226 [pU px] (pB r:PV)
def FC(fu:Nat)(px:UInt8):Option Bool:=
 sw (decide ((px.toNat:Int)≥97))
 (sw (decide ((px.toNat:Int)≤122))
 (some true)
 (sw (decide ((px.toNat:Int)≥48))
 (sw (decide ((px.toNat:Int)≤57))
 (some true)
 (sw (decide ((px.toNat:Int)=39))
 (some true)
 (sw (decide ((px.toNat:Int)=45))
 (some true)
 (sw (decide ((px.toNat:Int)=43))
 (some true)
 (sw (decide ((px.toNat:Int)=42))
 (some true)
 (sw (decide ((px.toNat:Int)=60))
 (some true)
 (sw (decide ((px.toNat:Int)=61))
 (some true)
 (some (decide ((px.toNat:Int)=46))))))))))
 (sw (decide ((px.toNat:Int)=39))
 (some true)
 (sw (decide ((px.toNat:Int)=45))
 (some true)
 (sw (decide ((px.toNat:Int)=43))
 (some true)
 (sw (decide ((px.toNat:Int)=42))
 (some true)
 (sw (decide ((px.toNat:Int)=60))
 (some true)
 (sw (decide ((px.toNat:Int)=61))
 (some true)
 (some (decide ((px.toNat:Int)=46)))))))))))
 (sw (decide ((px.toNat:Int)≥48))
 (sw (decide ((px.toNat:Int)≤57))
 (some true)
 (sw (decide ((px.toNat:Int)=39))
 (some true)
 (sw (decide ((px.toNat:Int)=45))
 (some true)
 (sw (decide ((px.toNat:Int)=43))
 (some true)
 (sw (decide ((px.toNat:Int)=42))
 (some true)
 (sw (decide ((px.toNat:Int)=60))
 (some true)
 (sw (decide ((px.toNat:Int)=61))
 (some true)
 (some (decide ((px.toNat:Int)=46))))))))))
 (sw (decide ((px.toNat:Int)=39))
 (some true)
 (sw (decide ((px.toNat:Int)=45))
 (some true)
 (sw (decide ((px.toNat:Int)=43))
 (some true)
 (sw (decide ((px.toNat:Int)=42))
 (some true)
 (sw (decide ((px.toNat:Int)=60))
 (some true)
 (sw (decide ((px.toNat:Int)=61))
 (some true)
 (some (decide ((px.toNat:Int)=46))))))))))
theorem SW(fu:Nat):ajF (FC fu):=by
 intro px r H
 have H:=eF H
 refine qI Tryz.func226 (fun C hC=>?_)
 refine qS (qR (q1 aE (qN (qS (qR (q1 aE (q1 TX (q1 aE ?_))))))))
 refine dY 5 H (fun g1 H=>?_) fun g1 H=>?_
 ·refine qg g1 aE (qg g1 rLe (q1 (bS g1) (q1 aE ?_)))
  refine dY 9 H (fun g2 H=>?_) fun g2 H=>?_
  ·refine qk g2 ?_
   iterate 2 refine qk g2 ?_
   iterate 2 refine KM ?_
   refine qk g2 (q1 (bS g2) (q1 aE ?_))
   iterate 2 refine qk rfl ?_
   refine q1 (bS rfl) (q1 aE ?_)
   iterate 2 refine qk rfl ?_
   refine q1 (bS rfl) (q1 aE ?_)
   iterate 2 refine qk rfl ?_
   refine q1 (bS rfl) (q1 aE ?_)
   iterate 2 refine qk rfl ?_
   refine q1 (bS rfl) (q1 aE ?_)
   iterate 2 refine qk rfl ?_
   refine q1 (bS rfl) (q1 aE ?_)
   iterate 2 refine qk rfl ?_
   refine q1 (bS rfl) (q1 aE ?_)
   iterate 2 refine qk rfl ?_
   refine q1 (bS rfl) (q1 aE (qN (aQ.ret ?_)))
   cases aZ H
   exact bL
  refine qg g2 aE (qg g2 TX (qg g2 aE ?_))
  refine dY 12 H (fun g3 H=>?_) fun g3 H=>?_
  ·refine qg g3 aE (qg g3 rLe (qg g2 (bS g3) (q1 (b6 g2) (q1 aE ?_))))
   refine dY 17 H (fun g4 H=>?_) fun g4 H=>?_
   ·refine qk g4 (qk g4 (q1 (bS g4) (q1 aE ?_)))
    iterate 2 refine qk rfl ?_
    refine q1 (bS rfl) (q1 aE ?_)
    iterate 2 refine qk rfl ?_
    refine q1 (bS rfl) (q1 aE ?_)
    iterate 2 refine qk rfl ?_
    refine q1 (bS rfl) (q1 aE ?_)
    iterate 2 refine qk rfl ?_
    refine q1 (bS rfl) (q1 aE ?_)
    iterate 2 refine qk rfl ?_
    refine q1 (bS rfl) (q1 aE ?_)
    iterate 2 refine qk rfl ?_
    refine q1 (bS rfl) (q1 aE (qN (aQ.ret ?_)))
    cases aZ H
    exact bL
   refine qg g4 aE (qg g4 eG (q1 (b6 g4) (q1 aE ?_)))
   refine dY 21 H (fun g5 H=>?_) fun g5 H=>?_
   ·refine qk g5 (qk g5 (q1 (bS g5) (q1 aE ?_)))
    iterate 2 refine qk rfl ?_
    refine q1 (bS rfl) (q1 aE ?_)
    iterate 2 refine qk rfl ?_
    refine q1 (bS rfl) (q1 aE ?_)
    iterate 2 refine qk rfl ?_
    refine q1 (bS rfl) (q1 aE ?_)
    iterate 2 refine qk rfl ?_
    refine q1 (bS rfl) (q1 aE ?_)
    iterate 2 refine qk rfl ?_
    refine q1 (bS rfl) (q1 aE (qN (aQ.ret ?_)))
    cases aZ H
    exact bL
   refine qg g5 aE (qg g5 eG (q1 (b6 g5) (q1 aE ?_)))
   refine dY 25 H (fun g6 H=>?_) fun g6 H=>?_
   ·refine qk g6 (qk g6 (q1 (bS g6) (q1 aE ?_)))
    iterate 2 refine qk rfl ?_
    refine q1 (bS rfl) (q1 aE ?_)
    iterate 2 refine qk rfl ?_
    refine q1 (bS rfl) (q1 aE ?_)
    iterate 2 refine qk rfl ?_
    refine q1 (bS rfl) (q1 aE ?_)
    iterate 2 refine qk rfl ?_
    refine q1 (bS rfl) (q1 aE (qN (aQ.ret ?_)))
    cases aZ H
    exact bL
   refine qg g6 aE (qg g6 eG (q1 (b6 g6) (q1 aE ?_)))
   refine dY 29 H (fun g7 H=>?_) fun g7 H=>?_
   ·refine qk g7 (qk g7 (q1 (bS g7) (q1 aE ?_)))
    iterate 2 refine qk rfl ?_
    refine q1 (bS rfl) (q1 aE ?_)
    iterate 2 refine qk rfl ?_
    refine q1 (bS rfl) (q1 aE ?_)
    iterate 2 refine qk rfl ?_
    refine q1 (bS rfl) (q1 aE (qN (aQ.ret ?_)))
    cases aZ H
    exact bL
   refine qg g7 aE (qg g7 eG (q1 (b6 g7) (q1 aE ?_)))
   refine dY 33 H (fun g8 H=>?_) fun g8 H=>?_
   ·refine qk g8 (qk g8 (q1 (bS g8) (q1 aE ?_)))
    iterate 2 refine qk rfl ?_
    refine q1 (bS rfl) (q1 aE ?_)
    iterate 2 refine qk rfl ?_
    refine q1 (bS rfl) (q1 aE (qN (aQ.ret ?_)))
    cases aZ H
    exact bL
   refine qg g8 aE (qg g8 eG (q1 (b6 g8) (q1 aE ?_)))
   refine dY 37 H (fun g9 H=>?_) fun g9 H=>?_
   ·refine qk g9 (qk g9 (q1 (bS g9) (q1 aE ?_)))
    iterate 2 refine qk rfl ?_
    refine q1 (bS rfl) (q1 aE (qN (aQ.ret ?_)))
    cases aZ H
    exact bL
   refine qg g9 aE (qg g9 eG (q1 (b6 g9) (q1 aE ?_)))
   refine dY 41 H (fun g10 H=>?_) fun g10 H=>?_
   ·refine qk g10 (qk g10 (q1 (bS g10) (q1 aE (qN (aQ.ret ?_)))))
    cases aZ H
    exact bL
   refine qg g10 aE (qg g10 eG (q1 (b6 g10) (q1 aE (qN (aQ.ret ?_)))))
   cases aZ H
   exact bL
  iterate 2 refine qk g3 ?_
  refine qg g2 (b6 g3) (q1 (b6 g2) (q1 aE (qg rfl aE (qg rfl eG (q1 (b6 rfl) (q1 aE ?_))))))
  refine dY 21 H (fun g11 H=>?_) fun g11 H=>?_
  ·refine qk g11 (qk g11 (q1 (bS g11) (q1 aE ?_)))
   iterate 2 refine qk rfl ?_
   refine q1 (bS rfl) (q1 aE ?_)
   iterate 2 refine qk rfl ?_
   refine q1 (bS rfl) (q1 aE ?_)
   iterate 2 refine qk rfl ?_
   refine q1 (bS rfl) (q1 aE ?_)
   iterate 2 refine qk rfl ?_
   refine q1 (bS rfl) (q1 aE ?_)
   iterate 2 refine qk rfl ?_
   refine q1 (bS rfl) (q1 aE (qN (aQ.ret ?_)))
   cases aZ H
   exact bL
  refine qg g11 aE (qg g11 eG (q1 (b6 g11) (q1 aE ?_)))
  refine dY 25 H (fun g12 H=>?_) fun g12 H=>?_
  ·refine qk g12 (qk g12 (q1 (bS g12) (q1 aE ?_)))
   iterate 2 refine qk rfl ?_
   refine q1 (bS rfl) (q1 aE ?_)
   iterate 2 refine qk rfl ?_
   refine q1 (bS rfl) (q1 aE ?_)
   iterate 2 refine qk rfl ?_
   refine q1 (bS rfl) (q1 aE ?_)
   iterate 2 refine qk rfl ?_
   refine q1 (bS rfl) (q1 aE (qN (aQ.ret ?_)))
   cases aZ H
   exact bL
  refine qg g12 aE (qg g12 eG (q1 (b6 g12) (q1 aE ?_)))
  refine dY 29 H (fun g13 H=>?_) fun g13 H=>?_
  ·refine qk g13 (qk g13 (q1 (bS g13) (q1 aE ?_)))
   iterate 2 refine qk rfl ?_
   refine q1 (bS rfl) (q1 aE ?_)
   iterate 2 refine qk rfl ?_
   refine q1 (bS rfl) (q1 aE ?_)
   iterate 2 refine qk rfl ?_
   refine q1 (bS rfl) (q1 aE (qN (aQ.ret ?_)))
   cases aZ H
   exact bL
  refine qg g13 aE (qg g13 eG (q1 (b6 g13) (q1 aE ?_)))
  refine dY 33 H (fun g14 H=>?_) fun g14 H=>?_
  ·refine qk g14 (qk g14 (q1 (bS g14) (q1 aE ?_)))
   iterate 2 refine qk rfl ?_
   refine q1 (bS rfl) (q1 aE ?_)
   iterate 2 refine qk rfl ?_
   refine q1 (bS rfl) (q1 aE (qN (aQ.ret ?_)))
   cases aZ H
   exact bL
  refine qg g14 aE (qg g14 eG (q1 (b6 g14) (q1 aE ?_)))
  refine dY 37 H (fun g15 H=>?_) fun g15 H=>?_
  ·refine qk g15 (qk g15 (q1 (bS g15) (q1 aE ?_)))
   iterate 2 refine qk rfl ?_
   refine q1 (bS rfl) (q1 aE (qN (aQ.ret ?_)))
   cases aZ H
   exact bL
  refine qg g15 aE (qg g15 eG (q1 (b6 g15) (q1 aE ?_)))
  refine dY 41 H (fun g16 H=>?_) fun g16 H=>?_
  ·refine qk g16 (qk g16 (q1 (bS g16) (q1 aE (qN (aQ.ret ?_)))))
   cases aZ H
   exact bL
  refine qg g16 aE (qg g16 eG (q1 (b6 g16) (q1 aE (qN (aQ.ret ?_)))))
  cases aZ H
  exact bL
 iterate 2 refine qk g1 ?_
 refine q1 (b6 g1) (q1 aE (qg rfl aE (qg rfl TX (qg rfl aE ?_))))
 refine dY 12 H (fun g17 H=>?_) fun g17 H=>?_
 ·refine qg g17 aE (qg g17 rLe (qg rfl (bS g17) (q1 (b6 rfl) (q1 aE ?_))))
  refine dY 17 H (fun g18 H=>?_) fun g18 H=>?_
  ·refine qk g18 (qk g18 (q1 (bS g18) (q1 aE ?_)))
   iterate 2 refine qk rfl ?_
   refine q1 (bS rfl) (q1 aE ?_)
   iterate 2 refine qk rfl ?_
   refine q1 (bS rfl) (q1 aE ?_)
   iterate 2 refine qk rfl ?_
   refine q1 (bS rfl) (q1 aE ?_)
   iterate 2 refine qk rfl ?_
   refine q1 (bS rfl) (q1 aE ?_)
   iterate 2 refine qk rfl ?_
   refine q1 (bS rfl) (q1 aE ?_)
   iterate 2 refine qk rfl ?_
   refine q1 (bS rfl) (q1 aE (qN (aQ.ret ?_)))
   cases aZ H
   exact bL
  refine qg g18 aE (qg g18 eG (q1 (b6 g18) (q1 aE ?_)))
  refine dY 21 H (fun g19 H=>?_) fun g19 H=>?_
  ·refine qk g19 (qk g19 (q1 (bS g19) (q1 aE ?_)))
   iterate 2 refine qk rfl ?_
   refine q1 (bS rfl) (q1 aE ?_)
   iterate 2 refine qk rfl ?_
   refine q1 (bS rfl) (q1 aE ?_)
   iterate 2 refine qk rfl ?_
   refine q1 (bS rfl) (q1 aE ?_)
   iterate 2 refine qk rfl ?_
   refine q1 (bS rfl) (q1 aE ?_)
   iterate 2 refine qk rfl ?_
   refine q1 (bS rfl) (q1 aE (qN (aQ.ret ?_)))
   cases aZ H
   exact bL
  refine qg g19 aE (qg g19 eG (q1 (b6 g19) (q1 aE ?_)))
  refine dY 25 H (fun g20 H=>?_) fun g20 H=>?_
  ·refine qk g20 (qk g20 (q1 (bS g20) (q1 aE ?_)))
   iterate 2 refine qk rfl ?_
   refine q1 (bS rfl) (q1 aE ?_)
   iterate 2 refine qk rfl ?_
   refine q1 (bS rfl) (q1 aE ?_)
   iterate 2 refine qk rfl ?_
   refine q1 (bS rfl) (q1 aE ?_)
   iterate 2 refine qk rfl ?_
   refine q1 (bS rfl) (q1 aE (qN (aQ.ret ?_)))
   cases aZ H
   exact bL
  refine qg g20 aE (qg g20 eG (q1 (b6 g20) (q1 aE ?_)))
  refine dY 29 H (fun g21 H=>?_) fun g21 H=>?_
  ·refine qk g21 (qk g21 (q1 (bS g21) (q1 aE ?_)))
   iterate 2 refine qk rfl ?_
   refine q1 (bS rfl) (q1 aE ?_)
   iterate 2 refine qk rfl ?_
   refine q1 (bS rfl) (q1 aE ?_)
   iterate 2 refine qk rfl ?_
   refine q1 (bS rfl) (q1 aE (qN (aQ.ret ?_)))
   cases aZ H
   exact bL
  refine qg g21 aE (qg g21 eG (q1 (b6 g21) (q1 aE ?_)))
  refine dY 33 H (fun g22 H=>?_) fun g22 H=>?_
  ·refine qk g22 (qk g22 (q1 (bS g22) (q1 aE ?_)))
   iterate 2 refine qk rfl ?_
   refine q1 (bS rfl) (q1 aE ?_)
   iterate 2 refine qk rfl ?_
   refine q1 (bS rfl) (q1 aE (qN (aQ.ret ?_)))
   cases aZ H
   exact bL
  refine qg g22 aE (qg g22 eG (q1 (b6 g22) (q1 aE ?_)))
  refine dY 37 H (fun g23 H=>?_) fun g23 H=>?_
  ·refine qk g23 (qk g23 (q1 (bS g23) (q1 aE ?_)))
   iterate 2 refine qk rfl ?_
   refine q1 (bS rfl) (q1 aE (qN (aQ.ret ?_)))
   cases aZ H
   exact bL
  refine qg g23 aE (qg g23 eG (q1 (b6 g23) (q1 aE ?_)))
  refine dY 41 H (fun g24 H=>?_) fun g24 H=>?_
  ·refine qk g24 (qk g24 (q1 (bS g24) (q1 aE (qN (aQ.ret ?_)))))
   cases aZ H
   exact bL
  refine qg g24 aE (qg g24 eG (q1 (b6 g24) (q1 aE (qN (aQ.ret ?_)))))
  cases aZ H
  exact bL
 iterate 2 refine qk g17 ?_
 refine qg rfl (b6 g17) (q1 (b6 rfl) (q1 aE (qg rfl aE (qg rfl eG (q1 (b6 rfl) (q1 aE ?_))))))
 refine dY 21 H (fun g25 H=>?_) fun g25 H=>?_
 ·refine qk g25 (qk g25 (q1 (bS g25) (q1 aE ?_)))
  iterate 2 refine qk rfl ?_
  refine q1 (bS rfl) (q1 aE ?_)
  iterate 2 refine qk rfl ?_
  refine q1 (bS rfl) (q1 aE ?_)
  iterate 2 refine qk rfl ?_
  refine q1 (bS rfl) (q1 aE ?_)
  iterate 2 refine qk rfl ?_
  refine q1 (bS rfl) (q1 aE ?_)
  iterate 2 refine qk rfl ?_
  refine q1 (bS rfl) (q1 aE (qN (aQ.ret ?_)))
  cases aZ H
  exact bL
 refine qg g25 aE (qg g25 eG (q1 (b6 g25) (q1 aE ?_)))
 refine dY 25 H (fun g26 H=>?_) fun g26 H=>?_
 ·refine qk g26 (qk g26 (q1 (bS g26) (q1 aE ?_)))
  iterate 2 refine qk rfl ?_
  refine q1 (bS rfl) (q1 aE ?_)
  iterate 2 refine qk rfl ?_
  refine q1 (bS rfl) (q1 aE ?_)
  iterate 2 refine qk rfl ?_
  refine q1 (bS rfl) (q1 aE ?_)
  iterate 2 refine qk rfl ?_
  refine q1 (bS rfl) (q1 aE (qN (aQ.ret ?_)))
  cases aZ H
  exact bL
 refine qg g26 aE (qg g26 eG (q1 (b6 g26) (q1 aE ?_)))
 refine dY 29 H (fun g27 H=>?_) fun g27 H=>?_
 ·refine qk g27 (qk g27 (q1 (bS g27) (q1 aE ?_)))
  iterate 2 refine qk rfl ?_
  refine q1 (bS rfl) (q1 aE ?_)
  iterate 2 refine qk rfl ?_
  refine q1 (bS rfl) (q1 aE ?_)
  iterate 2 refine qk rfl ?_
  refine q1 (bS rfl) (q1 aE (qN (aQ.ret ?_)))
  cases aZ H
  exact bL
 refine qg g27 aE (qg g27 eG (q1 (b6 g27) (q1 aE ?_)))
 refine dY 33 H (fun g28 H=>?_) fun g28 H=>?_
 ·refine qk g28 (qk g28 (q1 (bS g28) (q1 aE ?_)))
  iterate 2 refine qk rfl ?_
  refine q1 (bS rfl) (q1 aE ?_)
  iterate 2 refine qk rfl ?_
  refine q1 (bS rfl) (q1 aE (qN (aQ.ret ?_)))
  cases aZ H
  exact bL
 refine qg g28 aE (qg g28 eG (q1 (b6 g28) (q1 aE ?_)))
 refine dY 37 H (fun g29 H=>?_) fun g29 H=>?_
 ·refine qk g29 (qk g29 (q1 (bS g29) (q1 aE ?_)))
  iterate 2 refine qk rfl ?_
  refine q1 (bS rfl) (q1 aE (qN (aQ.ret ?_)))
  cases aZ H
  exact bL
 refine qg g29 aE (qg g29 eG (q1 (b6 g29) (q1 aE ?_)))
 refine dY 41 H (fun g30 H=>?_) fun g30 H=>?_
 ·refine qk g30 (qk g30 (q1 (bS g30) (q1 aE (qN (aQ.ret ?_)))))
  cases aZ H
  exact bL
 refine qg g30 aE (qg g30 eG (q1 (b6 g30) (q1 aE (qN (aQ.ret ?_)))))
 cases aZ H
 exact bL
abbrev sB:=cM→Option (aB×cM)
def FG(m:sB):Prop:= ∀(pq0:cM) (r:aB×cM),m pq0=some r→cP Tryz.prog 215 [.ptr 0 0] ⟨[some ⟨250,[pS pq0.gs,pI pq0.gat,pI pq0.gdeep,pI pq0.gsize,pB pq0.gbad]⟩],[]⟩ (fun q t=>q=((aB.pv r.1):PV)∧t=⟨[some ⟨250,[pS r.2.gs,pI r.2.gat,pI r.2.gdeep,pI r.2.gsize,pB r.2.gbad]⟩],[]⟩)
def SX(fu:Nat)(r_sl2Read:sB)(pq0 x2:cM):Int→Option (LR Int (aB×cM)):=
 fun v5=>sw (decide (v5<(x2.gs.size:Int)))
 (gd (0≤v5∧(v5).toNat<(x2.gs).size)
 (bd (FC fu (A5 x2.gs ((v5).toNat))) (fun x10=>
 sw (x10)
 (some (.next (aR (v5+1))))
 (some (.brk v5)))))
 (some (.brk v5))
def SZ(fu:Nat)(r_sl2Read:sB)(pq0 x2:cM):Option ((aB×cM)⊕Int):=
 loopW (SX fu r_sl2Read pq0 x2) fu x2.gat
def SY(fu:Nat)(r_sl2Read:sB)(pq0 x2:cM)(v5:Int):(ByteArray×Int×Int×Int×Bool×(List aB))→Option (LR (ByteArray×Int×Int×Int×Bool×(List aB)) (aB×cM)):=
 fun(v17,v18,v19,v20,v21,v23)=>sw (!(v21))
 (bd (wX fu (cM.mk v17 v18 v19 v20 v21)) (fun x27=>
 sw (decide (x27.gat<(x27.gs.size:Int)))
 (gd (0≤x27.gat∧(x27.gat).toNat<(x27.gs).size)
 (sw (decide ((((A5 x27.gs ((x27.gat).toNat)).toNat:Int):Int)=41))
 (some (.ret ((aB.mk s_ v23),(cM.mk x27.gs (aR (x27.gat+1)) (aR (x27.gdeep-1)) x27.gsize x27.gbad))))
 (bd (r_sl2Read x27) (fun(x32,x33)=>
 gd ((v23).length+(([x32]:List aB)).length≤68719476736)
 (some (.next (x33.gs,x33.gat,x33.gdeep,x33.gsize,x33.gbad,(v23++([x32]:List aB)))))))))
 (bd (r_sl2Read x27) (fun(x36,x37)=>
 gd ((v23).length+(([x36]:List aB)).length≤68719476736)
 (some (.next (x37.gs,x37.gat,x37.gdeep,x37.gsize,x37.gbad,(v23++([x36]:List aB)))))))))
 (some (.brk (v17,v18,v19,v20,v21,v23)))
def S0(fu:Nat)(r_sl2Read:sB)(pq0 x2:cM)(v5:Int):Option ((aB×cM)⊕(ByteArray×Int×Int×Int×Bool×(List aB))):=
 loopW (SY fu r_sl2Read pq0 x2 v5) fu (x2.gs,(aR (v5+1)),(aR (x2.gdeep+1)),(aR (x2.gsize+1)),x2.gbad,([]))
def FF(fu:Nat)(r_sl2Read:sB)(pq0:cM):Option (aB×cM):=
 bd (wX fu pq0) (fun x2=>
 sw (decide (x2.gat≥(x2.gs.size:Int)))
 (some ((aB.mk s_ []),(cM.mk x2.gs x2.gat x2.gdeep (aR (x2.gsize+1)) true)))
 (sw (decide ((aR (x2.gsize+1):Int)>900))
 (some ((aB.mk s_ []),(cM.mk x2.gs x2.gat x2.gdeep (aR (x2.gsize+1)) true)))
 (so (SZ fu r_sl2Read pq0 x2) (fun v5=>
 sw (decide (v5>x2.gat))
 (gd ((0:Int)≤x2.gat∧(x2.gat:Int)≤v5∧(v5:Int)≤(x2.gs.size:Int))
 (some ((aB.mk (x2.gs.extract (x2.gat:Int).toNat (v5:Int).toNat) []),(cM.mk x2.gs v5 x2.gdeep (aR (x2.gsize+1)) x2.gbad))))
 (gd (0≤v5∧(v5).toNat<(x2.gs).size)
 (sw (!decide ((((A5 x2.gs ((v5).toNat)).toNat:Int):Int)=40))
 (some ((aB.mk s_ []),(cM.mk x2.gs v5 x2.gdeep (aR (x2.gsize+1)) true)))
 (sw (decide (x2.gdeep=14))
 (some ((aB.mk s_ []),(cM.mk x2.gs v5 x2.gdeep (aR (x2.gsize+1)) true)))
 (so (S0 fu r_sl2Read pq0 x2 v5) (fun(v17,v18,v19,v20,v21,v23)=>
 some ((aB.mk s_ v23),(cM.mk v17 v18 v19 v20 v21)))))))))))
theorem Y6(fu:Nat)(r_sl2Read:sB)(h_sl2Read:FG r_sl2Read):FG (FF fu r_sl2Read):=by
 intro pq0 r H
 have H:=eF H
 refine qI Tryz.func215 (fun C hC=>?_)
 refine qS (qR (q1 (gM b7) (qN (qS (qR (q1 aE (bN H fun x2 z1 H=>(q1 (fM [0] [] Tryz.func216 (JE fu pq0 _ z1)) (qN (qS (qR ?_)))))))))))
 iterate 2 refine q1 aE ?_
 refine q1 pT (q1 (a6 WV) (q1 (bD jN) (q1 RJ (q1 pT (q1 (a6 WV) (q1 (bR sz3) (qN ?_)))))))
 iterate 2 refine qS ?_
 rcases lC (decide (x2.gat≥(x2.gs.size:Int))) with g3|g3
 ·have H:=oE H g3
  refine dW (dI [0] aE (dI [15] pT (dI [16] (a6 fB) (dD [17] (bD jN) (dI [0] aE (dI [19] pT (dI [20] (a6 lD) (dD [21] (bD eE) (dI [22] (aX.lenS rfl rfl rfl Tryz.underlying9) (dI [18,23] TX (dI [24] aE ?_)))))))))))
  iterate 5 refine CQ g3 ?_
  refine dI [25] (bS g3) (dN (dM rfl (qS (qR (q1 aE (q1 pT (q1 (a6 ET) (q1 (bR sz4) (qN (qS (qR (q1 (eU b7 mK) (q1 (bR eA) ?_)))))))))))))
  refine qN (aQ.ret ?_)
  cases aZ H
  exact bL (hr:=⟨⟨_,_,_,rfl,rfl,bP,rfl,rfl⟩,trivial⟩)
 have H:=oA H g3
 refine dW (dI [0] aE (dI [15] pT (dI [16] (a6 fB) (dD [17] (bD jN) (dI [0] aE (dI [19] pT (dI [20] (a6 lD) (dD [21] (bD eE) (dI [22] (aX.lenS rfl rfl rfl Tryz.underlying9) (dI [18,23] TX (dI [24] aE (dI (hg:=a5 g3) [0] aE (dI (hg:=a5 g3) [26] pT ?_)))))))))))))
 refine dI (hg:=a5 g3) [27] (a6 WV) (dD (hg:=a5 g3) [28] (bD jN) (dI (hg:=a5 g3) [29] KN (dI [25,30] (b6 g3) (dN ?_))))
 refine bA H (fun h4 H=>?_) (fun h4 H=>?_)
 ·refine qS (qR (q1 aE (q1 pT (q1 (a6 ET) (q1 (bR sz4) (qN (qS (qR (q1 (eU b7 mK) (q1 (bR eA) (qN (aQ.ret ?_))))))))))))
  cases aZ H
  exact bL (hr:=⟨⟨_,_,_,rfl,rfl,bP,rfl,rfl⟩,trivial⟩)
 refine aQ.skip (qS (qR (q1 aE (q1 pT (q1 (a6 fB) (q1 (bD jN) (q1 aE (qN (qS ?_)))))))))
 refine VM (σ:=Int) (fun v5=>⟨[(0,.ptr 0 0),(2,.ptr 1 0),(3,pI x2.gat)],⟨[some ⟨250,[pS x2.gs,pI v5,pI x2.gdeep,pI (aR (x2.gsize+1)),pB x2.gbad]⟩,some ⟨237,[pS s_,.nil]⟩],[]⟩⟩) (fun v5=>⟨[(0,.ptr 0 0),(2,.ptr 1 0),(3,pI x2.gat)],⟨[some ⟨250,[pS x2.gs,pI v5,pI x2.gdeep,pI (aR (x2.gsize+1)),pB x2.gbad]⟩,some ⟨237,[pS s_,.nil]⟩],[]⟩⟩) (f8 H) ?_ ?_
 ·rintro k6 v5 H
  iterate 2 refine qS ?_
  rcases lC (decide (v5<(x2.gs.size:Int))) with g7|g7
  ·have H:=oE H g7
   refine cX H fun z8 H=>(bN H fun x10 z9 H=>(dW (dI [0] aE (dI [40] pT (dI [41] (a6 fB) (dD [42] (bD jN) (dI [0] aE (dI [44] pT (dI [45] (a6 lD) (dD [46] (bD eE) (dI [47] (aX.lenS rfl rfl rfl Tryz.underlying9) (dI [43,48] gP (dI [49] aE ?_)))))))))))))
   refine dI (hg:=a5 g7) [0] aE (dI (hg:=a5 g7) [51] pT (dI (hg:=a5 g7) [52] (a6 lD) (dD (hg:=a5 g7) [53] (bD eE) (dI (hg:=a5 g7) [0] aE (dI (hg:=a5 g7) [55] pT (dI (hg:=a5 g7) [56] (a6 fB) (dD (hg:=a5 g7) [57] (bD jN) (dI (hg:=a5 g7) [54,58] (aX.indexSI (y:=v5) rfl rfl rfl rfl z8.1 z8.2 Tryz.underlying9) (dI (hg:=a5 g7) [59] (bG Tryz.func226 (SW fu (A5 x2.gs ((v5).toNat)) _ z9)) (dI [50,60] (bS g7) (dN ?_)))))))))))
   refine bA H (fun h11 H=>?_) (fun h11 H=>?_)
   ·refine aQ.skip (aQ.block (qR ?_))
    iterate 2 refine q1 aE ?_
    refine q1 pT (q1 (a6 fB) (q1 (bD jN) (q1 RJ (q1 pT (q1 (a6 fB) (q1 (bR sz3) (qN ?_)))))))
    exact lwN ⟨_,(aZ H:),b0⟩
   refine aQ.exit ?_;exact lwB ⟨_,(aZ H:),b0⟩
  have H:=oA H g7
  refine dW (dI [0] aE (dI [40] pT (dI [41] (a6 fB) (dD [42] (bD jN) (dI [0] aE (dI [44] pT (dI [45] (a6 lD) (dD [46] (bD eE) (dI [47] (aX.lenS rfl rfl rfl Tryz.underlying9) (dI [43,48] gP (dI [49] aE ?_)))))))))))
  iterate 10 refine CQ g7 ?_
  refine dI [50] (b6 g7) (dN (kJ rfl (aQ.exit ?_)))
  exact lwB ⟨_,(aZ H:),b0⟩
 rintro v5 H
 iterate 2 refine qS ?_
 refine qR (q1 aE (q1 pT (q1 (a6 fB) (q1 (bD jN) (q1 aE (q1 KN (qN ?_)))))))
 refine bA H (fun h12 H=>?_) (fun h12 H=>?_)
 ·refine qS (cX H fun z13 H=>(dW (dI [0] aE (dI [76] pT (dI [77] (a6 lD) (dD [78] (bD eE) (dI [3] aE (dI [0] aE (dI [81] pT (dI [82] (a6 fB) (dD [83] (bD jN) (dI [79,80,84] (aX.sliceS (l:=x2.gat) (k:=v5) rfl rfl rfl rfl rfl z13 Tryz.underlying9) (dI [85] (eU b7 mK) ?_)))))))))))))
  refine mN [2,86] (bR eA) (dN (aQ.ret ?_))
  cases aZ H
  exact bL (hr:=⟨⟨_,_,_,rfl,rfl,bP,rfl,rfl⟩,trivial⟩)
 refine aQ.skip ?_
 iterate 2 refine qS ?_
 refine cX H fun z14 H=>?_
 rcases lC (!decide ((((A5 x2.gs ((v5).toNat)).toNat:Int):Int)=40)) with g15|g15
 ·have H:=oE H g15
  refine dW (dI [0] aE (dI [87] pT (dI [88] (a6 lD) (dD [89] (bD eE) (dI [0] aE (dI [91] pT (dI [92] (a6 fB) (dD [93] (bD jN) (dI [90,94] (aX.indexSI (y:=v5) rfl rfl rfl rfl z14.1 z14.2 Tryz.underlying9) (dI [95] P5 (dI [96] aE ?_)))))))))))
  iterate 5 refine CQ g15 ?_
  refine dI [97] (bS g15) (dN (dM rfl (qS (qR (q1 aE (q1 pT (q1 (a6 ET) (q1 (bR sz4) (qN (qS (qR (q1 (eU b7 mK) (q1 (bR eA) ?_)))))))))))))
  refine qN (aQ.ret ?_)
  cases aZ H
  exact bL (hr:=⟨⟨_,_,_,rfl,rfl,bP,rfl,rfl⟩,trivial⟩)
 have H:=oA H g15
 refine dW (dI [0] aE (dI [87] pT (dI [88] (a6 lD) (dD [89] (bD eE) (dI [0] aE (dI [91] pT (dI [92] (a6 fB) (dD [93] (bD jN) (dI [90,94] (aX.indexSI (y:=v5) rfl rfl rfl rfl z14.1 z14.2 Tryz.underlying9) (dI [95] P5 (dI [96] aE (dI (hg:=a5 g15) [0] aE (dI (hg:=a5 g15) [98] pT ?_)))))))))))))
 refine dI (hg:=a5 g15) [99] (a6 J0) (dD (hg:=a5 g15) [100] (bD jN) (dI (hg:=a5 g15) [101] eG (dI [97,102] (b6 g15) (dN ?_))))
 refine bA H (fun h16 H=>?_) (fun h16 H=>?_)
 ·refine qS (qR (q1 aE (q1 pT (q1 (a6 ET) (q1 (bR sz4) (qN (qS (qR (q1 (eU b7 mK) (q1 (bR eA) (qN (aQ.ret ?_))))))))))))
  cases aZ H
  exact bL (hr:=⟨⟨_,_,_,rfl,rfl,bP,rfl,rfl⟩,trivial⟩)
 refine aQ.skip (qS (qR ?_))
 iterate 2 refine q1 aE ?_
 refine q1 pT (q1 (a6 fB) (q1 (bD jN) (q1 RJ (q1 pT (q1 (a6 fB) (q1 (bR sz3) (qN (qS (qR ?_)))))))))
 iterate 2 refine q1 aE ?_
 refine q1 pT (q1 (a6 J0) (q1 (bD jN) (q1 RJ (q1 pT (q1 (a6 J0) (q1 (bR sz3) (qN (qS (qR (q1 (eU b7 mK) (q1 (gM b7) (q1 (bR eA) (qN ?_)))))))))))))
 refine qS (aQ.wk (Wk.regBox (k:=2) (j:=1) 237 2 (by decide) rfl rfl) ?_)
 refine VM (σ:=ByteArray×Int×Int×Int×Bool×(List aB)) (fun(v17,v18,v19,v20,v21,v23)=>⟨[(0,.ptr 0 0),(2,.ptr 1 0),(4,.ptr 2 0)],⟨[some ⟨250,[pS v17,pI v18,pI v19,pI v20,pB v21]⟩,some ⟨237,[pS s_,.nil]⟩,some ⟨237,[pS s_,dV v23 0]⟩],[⟨237,2,aB.trs (v23),false⟩]⟩⟩) (fun(v17,v18,v19,v20,v21,v23)=>⟨[(2,.ptr 1 0),(4,.ptr 2 0)],⟨[some ⟨250,[pS v17,pI v18,pI v19,pI v20,pB v21]⟩,some ⟨237,[pS s_,.nil]⟩,some ⟨237,[pS s_,dV v23 0]⟩],[⟨237,2,aB.trs (v23),false⟩]⟩⟩) (f8 H) ?_ ?_
 ·rintro k24 ⟨v17,v18,v19,v20,v21,v23⟩ H
  iterate 2 refine qS ?_
  refine qR (q1 aE (q1 pT (q1 (a6 ET) (q1 (bD sh4) (q1 gW (qN ?_))))))
  refine bA H (fun h25 H=>?_) (fun h25 H=>?_)
  ·refine aQ.skip (aQ.block (qS (qR (q1 aE (bN H fun x27 z26 H=>(q1 (fM [0] [] Tryz.func216 (JE fu (cM.mk v17 v18 v19 v20 v21) _ z26)) (qN ?_)))))))
   iterate 2 refine qS ?_
   rcases lC (decide (x27.gat<(x27.gs.size:Int))) with g28|g28
   ·have H:=oE H g28
    refine cX H fun z29 H=>(dW (dI [0] aE (dI [132] pT (dI [133] (a6 fB) (dD [134] (bD jN) (dI [0] aE (dI [136] pT (dI [137] (a6 lD) (dD [138] (bD eE) (dI [139] (aX.lenS rfl rfl rfl Tryz.underlying9) (dI [135,140] gP (dI [141] aE (dI (hg:=a5 g28) [0] aE ?_)))))))))))))
    refine dI (hg:=a5 g28) [143] pT (dI (hg:=a5 g28) [144] (a6 lD) (dD (hg:=a5 g28) [145] (bD eE) (dI (hg:=a5 g28) [0] aE (dI (hg:=a5 g28) [147] pT (dI (hg:=a5 g28) [148] (a6 fB) (dD (hg:=a5 g28) [149] (bD jN) (dI (hg:=a5 g28) [146,150] (aX.indexSI (y:=x27.gat) rfl rfl rfl rfl z29.1 z29.2 Tryz.underlying9) (dI (hg:=a5 g28) [151] eG (dI [142,152] (bS g28) (dN ?_))))))))))
    refine bA H (fun h30 H=>?_) (fun h30 H=>?_)
    ·refine qS (qR ?_)
     iterate 2 refine q1 aE ?_
     refine q1 pT (q1 (a6 fB) (q1 (bD jN) (q1 RJ (q1 pT (q1 (a6 fB) (q1 (bR sz3) (qN (qS (qR ?_)))))))))
     iterate 2 refine q1 aE ?_
     refine q1 pT (q1 (a6 J0) (q1 (bD jN) (q1 AY (q1 pT (q1 (a6 J0) (q1 (bR sz3) (qN (qS (qR (q1 (cU [pS s_,dV v23 0] bP) (q1 (bR eA) (qN (aQ.ret ?_)))))))))))))
     obtain rfl:_=r:=(lwR (aZ H):)
     exact bL (hr:=⟨⟨_,_,_,rfl,rfl,bP,rfl,rfl⟩,trivial⟩)
    refine aQ.skip (eT H fun x32 x33 z31 H=>(cX H fun z34 H=>(dW (dI [4] (a6 bH) (dB [171] 0 1 (uI cR) (dI [0] aE (dE [173] (fM [0] [] Tryz.func215 (h_sl2Read x27 _ z31)) (dI [174] (hH ([x32]:List aB) bI b7) (dE [172,175] (kX z34 bI qA) (dI [4] (a6 bH) (mN [177,176] (bR yY) (dN ?_))))))))))))
    exact lwN ⟨_,(aZ H:),b0⟩
   have H:=oA H g28
   refine dW (dI [0] aE (dI [132] pT (dI [133] (a6 fB) (dD [134] (bD jN) (dI [0] aE (dI [136] pT (dI [137] (a6 lD) (dD [138] (bD eE) (dI [139] (aX.lenS rfl rfl rfl Tryz.underlying9) (dI [135,140] gP (dI [141] aE ?_)))))))))))
   iterate 10 refine CQ g28 ?_
   refine dI [142] (b6 g28) (dN (kJ rfl (aQ.skip (eT H fun x36 x37 z35 H=>(cX H fun z38 H=>(dW (dI [4] (a6 bH) (dB [171] 0 1 (uI cR) (dI [0] aE (dE [173] (fM [0] [] Tryz.func215 (h_sl2Read x27 _ z35)) (dI [174] (hH ([x36]:List aB) bI b7) (dE [172,175] (kX z38 bI qA) (dI [4] (a6 bH) ?_)))))))))))))
   refine mN [177,176] (bR yY) (dN ?_)
   exact lwN ⟨_,(aZ H:),b0⟩
  refine aQ.exit ?_;exact lwB ⟨_,(aZ H:),b0⟩
 rintro⟨v17,v18,v19,v20,v21,v23⟩ H
 refine qS (qR (q1 (cU [pS s_,dV v23 0] bP) (q1 (bR eA) (qN (aQ.ret ?_)))))
 cases aZ H
 exact bL (hr:=⟨⟨_,_,_,rfl,rfl,bP,rfl,rfl⟩,trivial⟩)
def pZ:Nat→cM→Option (aB×cM)
 |0,_=>none
 |fu+1,pq0=>FF fu (pZ fu) pq0
theorem ac5(fu:Nat):FG (pZ fu):=by
 induction fu with
 |zero=>exact(fun pq0 r H=>by simp only [pZ] at H;cases H)
 |succ fu ih=>exact(fun pq0 r H=>by simp only [pZ] at H;exact Y6 fu (pZ fu) ih pq0 r H)
theorem af5(fu:Nat):FG (pZ fu):=(ac5 fu)
abbrev t3:=aB→Int→Option Int
def FE(m:t3):Prop:= ∀(px:aB) (pleft:Int) (r:Int),m px pleft=some r→b4 Tryz.prog 227 [(aB.pv px),pI pleft] (pI r:PV)
def af0(fu:Nat)(r_sl2Left:t3)(px:aB)(pleft:Int):Nat→Int→Option (LR Int Int):=
 fun i1 v2=>sw (decide (v2≥0))
 (bd (r_sl2Left (aW px.gList i1) v2) (fun x7=>
 some (.next x7)))
 (some (.brk v2))
def af1(fu:Nat)(r_sl2Left:t3)(px:aB)(pleft:Int):Option (Int⊕Int):=
 loopN (af0 fu r_sl2Left px pleft) (px.gList.length-0) 0 (aR (pleft-1))
def NJ(fu:Nat)(r_sl2Left:t3)(px:aB)(pleft:Int):Option Int:=
 so (af1 fu r_sl2Left px pleft) (fun v2=>
 some v2)
theorem Y5(fu:Nat)(r_sl2Left:t3)(h_sl2Left:FE r_sl2Left):FE (NJ fu r_sl2Left):=by
 intro px pleft r H
 have H:=eF H
 refine qI Tryz.func227 (fun C hC=>?_)
 refine qS (qR (q1 (jP ([pS px.gAtom,bB px.gList])) (q1 aE (qN (qS (qR (q1 aE (q1 AY (q1 aE (qN ?_))))))))))
 iterate 2 refine qS ?_
 refine qR (q1 aE (qN ?_))
 refine aQ.fact (cE 0 1 rfl rfl rfl (aB.trs_len _)) (fun hl3=>?_)
 refine b9 (σ:=Int) (fun i1 v2=>⟨[(1,pI v2),(2,.ptr 0 0),(4,pI 0),(5,pN i1)],⟨[some ⟨237,[pS px.gAtom,bB px.gList]⟩],[]⟩⟩) (fun v2=>⟨[(1,pI v2),(4,pI 0)],⟨[some ⟨237,[pS px.gAtom,bB px.gList]⟩],[]⟩⟩) (f8 H) ?_ ?_
 ·rintro i1 v2 H
  iterate 2 refine qS ?_
  refine qR (q1 aE (q1 (a6 bH) (q1 (bD cR) (q1 (eB bI (aB.trs_len _)) (q1 gP (q1 aE ?_))))))
  refine AL.splitB 13 rfl (fun g4=>?_) (fun g4=>?_)
  ·have g4l:=tO g4
   have H:=lnT g4l H
   have g4n:=a8 g4
   refine qg g4 aE (qg g4 TX (q1 (bS g4) (qN ?_)))
   refine bA H (fun h5 H=>?_) (fun h5 H=>?_)
   ·refine aQ.skip (qS (aQ.block (qR (q1 (a6 bH) (q1 (bD cR) (q1 aE (q1 (gV g4n bI) (q1 (jW (aB.cs (aW px.gList i1)) bP) (q1 aE (bN H fun x7 z6 H=>(q1 (bG Tryz.func227 (h_sl2Left (aW px.gList i1) v2 _ z6)) (q1 aE (qN ?_)))))))))))))
    refine qR (q1 aE (q1 (aX.addI rfl rfl rfl rfl (c:=((i1+1:Nat):Int)) (by omega) (by omega)) (q1 aE (qN ?_))))
    exact iK g4l ⟨_,(aZ H:),b0⟩
   refine aQ.exit ?_;exact lpB ⟨_,(aZ H:),b0⟩
  have H:=lnE (tN g4) H
  iterate 2 refine qk g4 ?_
  refine q1 (b6 g4) (qN (kJ rfl (aQ.exit ?_)))
  exact j0 ⟨_,H,b0⟩
 rintro v2 H
 refine qS (qR ?_)
 iterate 2 refine q1 aE ?_
 refine qN (aQ.ret ?_)
 cases aZ H
 exact bL
def nX:Nat→aB→Int→Option Int
 |0,_,_=>none
 |fu+1,px,pleft=>NJ fu (nX fu) px pleft
theorem ac4(fu:Nat):FE (nX fu):=by
 induction fu with
 |zero=>exact(fun px pleft r H=>by simp only [nX] at H;cases H)
 |succ fu ih=>exact(fun px pleft r H=>by simp only [nX] at H;exact Y5 fu (nX fu) ih px pleft r H)
theorem af3(fu:Nat):FE (nX fu):=(ac4 fu)
def amL(m:Int→Int→Int→Option Bool):Prop:= ∀(px:Int) (plo:Int) (phi:Int) (r:Bool),m px plo phi=some r→b4 Tryz.prog 108 [pI px,pI plo,pI phi] (pB r:PV)
def lO(fu:Nat)(px plo phi:Int):Option Bool:=
 sw (decide (px≥plo))
 (some (decide (px≤phi)))
 (some false)
theorem uZ(fu:Nat):amL (lO fu):=by
 intro px plo phi r H
 have H:=eF H
 refine qI Tryz.func108 (fun C hC=>?_)
 refine qS (qR (q1 aE (qN (qS (qR ?_)))))
 iterate 2 refine q1 aE ?_
 refine q1 TX (q1 aE ?_)
 refine dY 10 H (fun g1 H=>?_) fun g1 H=>?_
 ·refine qg g1 aE (qg g1 aE (qg g1 rLe (q1 (bS g1) (q1 aE (qN (aQ.ret ?_))))))
  cases aZ H
  exact bL
 iterate 3 refine qk g1 ?_
 refine q1 (b6 g1) (q1 aE (qN (aQ.ret ?_)))
 cases aZ H
 exact bL
def R1(m:ByteArray→Option Bool):Prop:= ∀(ps:ByteArray) (r:Bool),m ps=some r→b4 Tryz.prog 241 [pS ps] (pB r:PV)
def O3(fu:Nat)(ps:ByteArray):Nat→Unit→Option (LR Unit Bool):=
 fun i1 _=>gd (i1<(ps).size)
 (bd (FC fu (A5 ps i1)) (fun x6=>
 sw (!(x6))
 (some (.ret false))
 (some (.next ()))))
def O4(fu:Nat)(ps:ByteArray):Option (Bool⊕Unit):=
 loopN (O3 fu ps) (ps.size-0) 0 ()
def xM(fu:Nat)(ps:ByteArray):Option Bool:=
 so (O4 fu ps) (fun _=>
 bd (lO fu (ps.size:Int) 1 12) (fun x9=>
 some x9))
theorem O5(fu:Nat):R1 (xM fu):=by
 intro ps r H
 have H:=eF H
 refine qI Tryz.func241 (fun C hC=>?_)
 refine qS (qR (q1 aE (qN ?_)))
 iterate 2 refine qS ?_
 refine qR (q1 aE (qN ?_))
 refine szF 0 (fun hl2=>?_)
 refine b9 (σ:=Unit) (fun i1 _=>⟨[(0,pS ps),(2,pB false),(3,pN i1)],⟨[],[]⟩⟩) (fun _=>⟨[(0,pS ps),(2,pB false)],⟨[],[]⟩⟩) (f8 H) ?_ ?_
 ·rintro i1 ⟨⟩ H
  iterate 2 refine qS ?_
  refine qR ?_
  iterate 2 refine q1 aE ?_
  refine q1 (aX.lenS rfl rfl rfl Tryz.underlying9) (q1 gP (qN ?_))
  refine dT H (fun h3 h3l H=>?_) (fun h3 H=>?_)
  ·have h3n:i1<ps.size:=by have:=of_decide_eq_true h3;omega
   refine aQ.skip (qS (aQ.block (qS (qR ?_))))
   iterate 2 refine q1 aE ?_
   refine cX H fun z4 H=>(q1 (aX.indexS (k:=i1) rfl rfl rfl rfl z4 Tryz.underlying9) (bN H fun x6 z5 H=>(q1 (bG Tryz.func226 (SW fu (A5 ps i1) _ z5)) (q1 gW (qN ?_)))))
   refine bA H (fun h7 H=>?_) (fun h7 H=>?_)
   ·refine qS (qR (q1 aE (qN (aQ.ret ?_))))
    obtain rfl:_=r:=(p8 (aZ H):)
    exact bL
   refine aQ.skip (qR (q1 aE (q1 (aX.addI rfl rfl rfl rfl (c:=((i1+1:Nat):Int)) (by omega) (by omega)) (q1 aE (qN ?_)))))
   exact iK h3l ⟨_,(aZ H:),b0⟩
  refine aQ.exit ?_;exact j0 ⟨_,H,b0⟩
 rintro⟨⟩ H
 refine qS (qR (q1 aE (q1 (aX.lenS rfl rfl rfl Tryz.underlying9) (bN H fun x9 z8 H=>(q1 (bG Tryz.func108 (uZ fu (ps.size:Int) 1 12 _ z8)) (q1 aE (qN (aQ.ret ?_))))))))
 cases aZ H
 exact bL
abbrev t2:=aB→Option Bool
def FD(m:t2):Prop:= ∀(px:aB) (r:Bool),m px=some r→b4 Tryz.prog 228 [(aB.pv px)] (pB r:PV)
def afW(fu:Nat)(r_sl2Form:t2)(px:aB):Nat→Unit→Option (LR Unit Bool):=
 fun i5 _=>bd (r_sl2Form (aW px.gList i5)) (fun x9=>
 sw (!(x9))
 (some (.ret false))
 (some (.next ())))
def afX(fu:Nat)(r_sl2Form:t2)(px:aB):Option (Bool⊕Unit):=
 loopN (afW fu r_sl2Form px) (px.gList.length-0) 0 ()
def NI(fu:Nat)(r_sl2Form:t2)(px:aB):Option Bool:=
 sw (!decide (px.gAtom=s_))
 (bd (xM fu px.gAtom) (fun x3=>
 sw (x3)
 (some (decide ((px.gList.length:Int)=0)))
 (some false)))
 (so (afX fu r_sl2Form px) (fun _=>
 some true))
theorem Y4(fu:Nat)(r_sl2Form:t2)(h_sl2Form:FD r_sl2Form):FD (NI fu r_sl2Form):=by
 intro px r H
 have H:=eF H
 refine qI Tryz.func228 (fun C hC=>?_)
 refine qS (qR (q1 (jP ([pS px.gAtom,bB px.gList])) (q1 aE (qN ?_))))
 iterate 2 refine qS ?_
 refine qR (q1 (a6 fA) (q1 (bD eE) (q1 RL (qN ?_))))
 refine bA H (fun h1 H=>?_) (fun h1 H=>?_)
 ·refine qS (qR (q1 (a6 fA) (q1 (bD eE) (bN H fun x3 z2 H=>(q1 (bG Tryz.func241 (O5 fu px.gAtom _ z2)) (q1 aE ?_))))))
  refine dY 10 H (fun g4 H=>?_) fun g4 H=>?_
  ·refine qg g4 (a6 bH) (qg g4 (bD cR) (qg g4 (eB bI (aB.trs_len _)) (qg g4 eG (q1 (bS g4) (q1 aE (qN (aQ.ret ?_)))))))
   cases aZ H
   exact bL
  iterate 4 refine qk g4 ?_
  refine q1 (b6 g4) (q1 aE (qN (aQ.ret ?_)))
  cases aZ H
  exact bL
 refine aQ.skip ?_
 iterate 2 refine qS ?_
 refine qR (q1 aE (qN ?_))
 refine aQ.fact (cE 0 1 rfl rfl rfl (aB.trs_len _)) (fun hl6=>?_)
 refine b9 (σ:=Unit) (fun i5 _=>⟨[(1,.ptr 0 0),(2,pB false),(3,pN i5)],⟨[some ⟨237,[pS px.gAtom,bB px.gList]⟩],[]⟩⟩) (fun _=>⟨[(2,pB false)],⟨[some ⟨237,[pS px.gAtom,bB px.gList]⟩],[]⟩⟩) (f8 H) ?_ ?_
 ·rintro i5 ⟨⟩ H
  iterate 2 refine qS ?_
  refine qR (q1 aE (q1 (a6 bH) (q1 (bD cR) (q1 (eB bI (aB.trs_len _)) (q1 gP (qN ?_))))))
  refine dT H (fun h7 h7l H=>?_) (fun h7 H=>?_)
  ·have h7n:=a8 h7
   refine aQ.skip (qS (aQ.block (qS (qR (q1 (a6 bH) (q1 (bD cR) (q1 aE (q1 (gV h7n bI) (q1 (jW (aB.cs (aW px.gList i5)) bP) (bN H fun x9 z8 H=>(q1 (bG Tryz.func228 (h_sl2Form (aW px.gList i5) _ z8)) (q1 gW (qN ?_)))))))))))))
   refine bA H (fun h10 H=>?_) (fun h10 H=>?_)
   ·refine qS (qR (q1 aE (qN (aQ.ret ?_))))
    obtain rfl:_=r:=(p8 (aZ H):)
    exact bL
   refine aQ.skip (qR (q1 aE (q1 (aX.addI rfl rfl rfl rfl (c:=((i5+1:Nat):Int)) (by omega) (by omega)) (q1 aE (qN ?_)))))
   exact iK h7l ⟨_,(aZ H:),b0⟩
  refine aQ.exit ?_;exact j0 ⟨_,H,b0⟩
 rintro⟨⟩ H
 refine qS (qR (q1 aE (qN (aQ.ret ?_))))
 cases aZ H
 exact bL
def nW:Nat→aB→Option Bool
 |0,_=>none
 |fu+1,px=>NI fu (nW fu) px
theorem ac3(fu:Nat):FD (nW fu):=by
 induction fu with
 |zero=>exact(fun px r H=>by simp only [nW] at H;cases H)
 |succ fu ih=>exact(fun px r H=>by simp only [nW] at H;exact Y4 fu (nW fu) ih px r H)
theorem afZ(fu:Nat):FD (nW fu):=(ac3 fu)
def alA(m:Int→Int→Option Int):Prop:= ∀(pa:Int) (pb:Int) (r:Int),m pa pb=some r→b4 Tryz.prog 242 [pI pa,pI pb] (pI r:PV)
def K7(fu:Nat)(pa pb:Int):Option Int:=
 sw (decide (pa>pb))
 (some pa)
 (some pb)
theorem VV(fu:Nat):alA (K7 fu):=by
 intro pa pb r H
 have H:=eF H
 refine qI Tryz.func242 (fun C hC=>?_)
 refine qS (qR (q1 aE (qN ?_)))
 iterate 2 refine qS ?_
 refine qR ?_
 iterate 2 refine q1 aE ?_
 refine q1 KN (qN ?_)
 refine bA H (fun h1 H=>?_) (fun h1 H=>?_)
 ·refine qS (qR ?_)
  iterate 2 refine q1 aE ?_
  refine qN (aQ.ret ?_)
  cases aZ H
  exact bL
 refine aQ.skip (qS (qR ?_))
 iterate 2 refine q1 aE ?_
 refine qN (aQ.ret ?_)
 cases aZ H
 exact bL
abbrev lZ:=aB→Option Int
def uE(m:lZ):Prop:= ∀(px:aB) (r:Int),m px=some r→b4 Tryz.prog 229 [(aB.pv px)] (pI r:PV)
def SB(fu:Nat)(r_sSExprDepth:lZ)(px:aB):Nat→Int→Option (LR Int Int):=
 fun i2 v3=>bd (r_sSExprDepth (aW px.gList i2)) (fun x7=>
 bd (K7 fu v3 x7) (fun x9=>
 some (.next x9)))
def SC(fu:Nat)(r_sSExprDepth:lZ)(px:aB):Option (Int⊕Int):=
 loopN (SB fu r_sSExprDepth px) (px.gList.length-0) 0 0
def zK(fu:Nat)(r_sSExprDepth:lZ)(px:aB):Option Int:=
 sw (!decide (px.gAtom=s_))
 (some 0)
 (so (SC fu r_sSExprDepth px) (fun v3=>
 some (aR (v3+1))))
theorem MW(fu:Nat)(r_sSExprDepth:lZ)(h_sSExprDepth:uE r_sSExprDepth):uE (zK fu r_sSExprDepth):=by
 intro px r H
 have H:=eF H
 refine qI Tryz.func229 (fun C hC=>?_)
 refine qS (qR (q1 (jP ([pS px.gAtom,bB px.gList])) (q1 aE (qN ?_))))
 iterate 2 refine qS ?_
 refine qR (q1 (a6 fA) (q1 (bD eE) (q1 RL (qN ?_))))
 refine bA H (fun h1 H=>?_) (fun h1 H=>?_)
 ·refine qS (qR (q1 aE (qN (aQ.ret ?_))))
  cases aZ H
  exact bL
 refine aQ.skip (qS (qR (q1 aE (qN ?_))))
 iterate 2 refine qS ?_
 refine qR (q1 aE (qN ?_))
 refine aQ.fact (cE 0 1 rfl rfl rfl (aB.trs_len _)) (fun hl4=>?_)
 refine b9 (σ:=Int) (fun i2 v3=>⟨[(1,.ptr 0 0),(2,pI 0),(3,pI v3),(4,pN i2)],⟨[some ⟨237,[pS px.gAtom,bB px.gList]⟩],[]⟩⟩) (fun v3=>⟨[(2,pI 0),(3,pI v3)],⟨[some ⟨237,[pS px.gAtom,bB px.gList]⟩],[]⟩⟩) (f8 H) ?_ ?_
 ·rintro i2 v3 H
  iterate 2 refine qS ?_
  refine qR (q1 aE (q1 (a6 bH) (q1 (bD cR) (q1 (eB bI (aB.trs_len _)) (q1 gP (qN ?_))))))
  refine dT H (fun h5 h5l H=>?_) (fun h5 H=>?_)
  ·have h5n:=a8 h5
   refine aQ.skip (qS (aQ.block (qR (q1 aE (q1 (a6 bH) (q1 (bD cR) (q1 aE (q1 (gV h5n bI) (q1 (jW (aB.cs (aW px.gList i2)) bP) (bN H fun x7 z6 H=>(q1 (bG Tryz.func229 (h_sSExprDepth (aW px.gList i2) _ z6)) (bN H fun x9 z8 H=>(q1 (bG Tryz.func242 (VV fu v3 x7 _ z8)) ?_)))))))))))))
   refine q1 aE (qN (qR (q1 aE (q1 (aX.addI rfl rfl rfl rfl (c:=((i2+1:Nat):Int)) (by omega) (by omega)) (q1 aE (qN ?_))))))
   exact iK h5l ⟨_,(aZ H:),b0⟩
  refine aQ.exit ?_;exact j0 ⟨_,H,b0⟩
 rintro v3 H
 refine qS (qR (q1 aE (q1 RJ (q1 aE (qN (aQ.ret ?_))))))
 cases aZ H
 exact bL
def hU:Nat→aB→Option Int
 |0,_=>none
 |fu+1,px=>zK fu (hU fu) px
theorem PF(fu:Nat):uE (hU fu):=by
 induction fu with
 |zero=>exact(fun px r H=>by simp only [hU] at H;cases H)
 |succ fu ih=>exact(fun px r H=>by simp only [hU] at H;exact MW fu (hU fu) ih px r H)
theorem SE(fu:Nat):uE (hU fu):=(PF fu)
def PB(m:aB→Option Bool):Prop:= ∀(px:aB) (r:Bool),m px=some r→b4 Tryz.prog 217 [(aB.pv px)] (pB r:PV)
def gQ(fu:Nat)(px:aB):Option Bool:=
 bd (nX fu px 900) (fun x2=>
 sw (decide (x2≥0))
 (bd (nW fu px) (fun x5=>
 sw (x5)
 (bd (hU fu px) (fun x8=>
 some (decide (x8≤14))))
 (some false)))
 (some false))
theorem cZ(fu:Nat):PB (gQ fu):=by
 intro px r H
 have H:=eF H
 refine qI Tryz.func217 (fun C hC=>?_)
 refine qS (qR (q1 (jP ([pS px.gAtom,bB px.gList])) (q1 aE (qN (qS (qR (q1 (cU [pS px.gAtom,bB px.gList] bP) (bN H fun x2 z1 H=>(q1 (bG Tryz.func227 (af3 fu px 900 _ z1)) (q1 TX (q1 aE ?_)))))))))))
 refine dY 6 H (fun g3 H=>?_) fun g3 H=>?_
 ·refine qg g3 (cU [pS px.gAtom,bB px.gList] bP) (bN H fun x5 z4 H=>(qg g3 (bG Tryz.func228 (afZ fu px _ z4)) (q1 (bS g3) (q1 aE ?_))))
  refine dY 10 H (fun g6 H=>?_) fun g6 H=>?_
  ·refine qg g6 (cU [pS px.gAtom,bB px.gList] bP) (bN H fun x8 z7 H=>(qg g6 (bG Tryz.func229 (SE fu px _ z7)) (qg g6 rLe (q1 (bS g6) (q1 aE (qN (aQ.ret ?_)))))))
   cases aZ H
   exact bL
  iterate 3 refine qk g6 ?_
  refine q1 (b6 g6) (q1 aE (qN (aQ.ret ?_)))
  cases aZ H
  exact bL
 iterate 2 refine qk g3 ?_
 refine q1 (b6 g3) (q1 aE ?_)
 iterate 3 refine qk rfl ?_
 refine q1 (b6 rfl) (q1 aE (qN (aQ.ret ?_)))
 cases aZ H
 exact bL
def UC(m:ByteArray→Option (aB×Bool)):Prop:= ∀(ps:ByteArray) (r:aB×Bool),m ps=some r→b4 Tryz.prog 207 [pS ps] (.tup [(aB.pv r.1),pB r.2]:PV)
def uD(fu:Nat)(ps:ByteArray):Option (aB×Bool):=
 bd (pZ fu (cM.mk ps 0 0 0 false)) (fun(x2,x3)=>
 bd (wX fu x3) (fun x5=>
 sw (x5.gbad)
 (some ((aB.mk s_ []),false))
 (sw (!decide (x5.gat=(ps.size:Int)))
 (some ((aB.mk s_ []),false))
 (bd (gQ fu x2) (fun x9=>
 sw (!(x9))
 (some ((aB.mk s_ []),false))
 (some (x2,true)))))))
theorem SA(fu:Nat):UC (uD fu):=by
 intro ps r H
 have H:=eF H
 refine qI Tryz.func207 (fun C hC=>?_)
 refine qS (qR (q1 (gM b7) (q1 aE (qN (qS (qR (q1 aE (q1 (eU apH aoU) (q1 (jP ([pS ps,pI 0,pI 0,pI 0,pB false])) (q1 aE (qN (qS (qR ?_)))))))))))))
 refine q1 aE (eT H fun x2 x3 z1 H=>(q1 (fM [1] [] Tryz.func215 (af5 fu (cM.mk ps 0 0 0 false) _ z1)) (q1 (gM b7) (q1 (bR eA) (qN (qS (qR (q1 aE (bN H fun x5 z4 H=>(q1 (fM [1] [] Tryz.func216 (JE fu x3 _ z4)) (qN ?_)))))))))))
 iterate 2 refine qS ?_
 refine qR (q1 aE (q1 pT (q1 (a6 ET) (q1 (bD sh4) (q1 aE ?_)))))
 refine dY 17 H (fun g6 H=>?_) fun g6 H=>?_
 ·refine qk g6 ?_
  iterate 6 refine qk g6 ?_
  refine q1 (bS g6) (q1 aE ?_)
  iterate 3 refine qk rfl ?_
  refine q1 (bS rfl) (qN (dM rfl (qS (qR (q1 (eU b7 mK) (q1 (bR eA) (q1 aE (qN (aQ.ret ?_)))))))))
  cases aZ H
  exact jM (hr:=⟨⟨_,_,_,rfl,rfl,bP,rfl,rfl⟩,rfl,trivial⟩)
 refine qg g6 aE (qg g6 pT (qg g6 (a6 fB) (qg g6 (bD jN) (qg g6 aE (qg g6 (aX.lenS rfl rfl rfl Tryz.underlying9) (qg g6 P5 (q1 (b6 g6) (q1 aE ?_))))))))
 refine dY 26 H (fun g7 H=>?_) fun g7 H=>?_
 ·refine qk g7 ?_
  iterate 2 refine qk g7 ?_
  refine q1 (bS g7) (qN (dM rfl (qS (qR (q1 (eU b7 mK) (q1 (bR eA) (q1 aE (qN (aQ.ret ?_)))))))))
  cases aZ H
  exact jM (hr:=⟨⟨_,_,_,rfl,rfl,bP,rfl,rfl⟩,rfl,trivial⟩)
 refine qg g7 (cU [pS x2.gAtom,bB x2.gList] bP) (bN H fun x9 z8 H=>(qg g7 (bG Tryz.func217 (cZ fu x2 _ z8)) (qg g7 gW (q1 (b6 g7) (qN ?_)))))
 refine bA H (fun h10 H=>?_) (fun h10 H=>?_)
 ·refine qS (qR (q1 (eU b7 mK) (q1 (bR eA) (q1 aE (qN (aQ.ret ?_))))))
  cases aZ H
  exact jM (hr:=⟨⟨_,_,_,rfl,rfl,bP,rfl,rfl⟩,rfl,trivial⟩)
 refine aQ.skip (qS (qR (q1 (cU [pS x2.gAtom,bB x2.gList] bP) (q1 (bR eA) (q1 aE (qN (aQ.ret ?_)))))))
 cases aZ H
 exact jM (hr:=⟨⟨_,_,_,rfl,rfl,bP,rfl,rfl⟩,rfl,trivial⟩)
def afV(m:(List aB)→Option ((List ByteArray)×Bool)):Prop:= ∀(plist:List aB) (r:(List ByteArray)×Bool),m plist=some r→b4 Tryz.prog 218 [bB plist] (.tup [rS r.1,pB r.2]:PV)
def ac1(fu:Nat)(plist:List aB):Nat→((List ByteArray))→Option (LR ((List ByteArray)) ((List ByteArray)×Bool)):=
 fun i1 v3=>sw (decide ((aW plist i1).gAtom=s_))
 (some (.ret (([]),false)))
 (gd ((v3).length+(([((aW plist i1).gAtom)]:List ByteArray)).length≤68719476736)
 (some (.next (v3++([((aW plist i1).gAtom)]:List ByteArray)))))
def ac2(fu:Nat)(plist:List aB):Option (((List ByteArray)×Bool)⊕((List ByteArray))):=
 loopN (ac1 fu plist) (plist.length-0) 0 ([])
def xS(fu:Nat)(plist:List aB):Option ((List ByteArray)×Bool):=
 so (ac2 fu plist) (fun v3=>
 some (v3,true))
theorem EH(fu:Nat):afV (xS fu):=by
 intro plist r H
 have H:=eF H
 refine qI Tryz.func218 (fun C hC=>?_)
 refine qS (qR ?_)
 iterate 2 refine q1 aE ?_
 refine qN (qS (qR (q1 (qZ ([]:List ByteArray) bU kG) (q1 aE (qN ?_)))))
 iterate 2 refine qS ?_
 refine qR (q1 aE (qN ?_))
 refine j8 0 (aB.trs_len _) (fun hl4=>?_)
 refine b9 (σ:=(List ByteArray)) (fun i1 v3=>⟨[(0,bB plist),(2,.nil),(3,pB false),(4,aS v3 0),(5,pN i1)],⟨[],[⟨9,1,a4 (v3),false⟩]⟩⟩) (fun v3=>⟨[(2,.nil),(3,pB false),(4,aS v3 0)],⟨[],[⟨9,1,a4 (v3),false⟩]⟩⟩) (f8 H) ?_ ?_
 ·rintro i1 v3 H
  iterate 2 refine qS ?_
  refine qR ?_
  iterate 2 refine q1 aE ?_
  refine q1 (eB bI (aB.trs_len _)) (q1 gP (qN ?_))
  refine dT H (fun h5 h5l H=>?_) (fun h5 H=>?_)
  ·have h5n:=a8 h5
   refine aQ.skip (qS (aQ.block ?_))
   iterate 2 refine qS ?_
   refine qR ?_
   iterate 2 refine q1 aE ?_
   refine q1 (gV h5n bI) (q1 (nK fA) (q1 (mC eE) (q1 E6 (qN ?_))))
   refine bA H (fun h6 H=>?_) (fun h6 H=>?_)
   ·refine qS (qR (q1 (qZ ([]:List ByteArray) bU kG) ?_))
    iterate 2 refine q1 aE ?_
    refine qN (aQ.ret ?_)
    obtain rfl:_=r:=(p8 (aZ H):)
    exact jM
   refine aQ.skip (qR ?_)
   iterate 3 refine q1 aE ?_
   refine q1 (gV h5n bI) (q1 (nK fA) (q1 (mC eE) (q1 (hH ([((aW plist i1).gAtom)]:List ByteArray) bU kG) (cX H fun z7 H=>(q1 (kX z7 bU qH) (q1 aE (qN (qR (q1 aE (q1 (aX.addI rfl rfl rfl rfl (c:=((i1+1:Nat):Int)) (by omega) (by omega)) (q1 aE (qN ?_))))))))))))
   exact iK h5l ⟨_,(aZ H:),b0⟩
  refine aQ.exit ?_;exact j0 ⟨_,H,b0⟩
 rintro v3 H
 refine qS (qR ?_)
 iterate 3 refine q1 aE ?_
 refine qN (aQ.ret ?_)
 cases aZ H
 exact jM
def ajE(m:ByteArray→Option aB):Prop:= ∀(ps:ByteArray) (r:aB),m ps=some r→b4 Tryz.prog 266 [pS ps] ((aB.pv r):PV)
def cC(fu:Nat)(ps:ByteArray):Option aB:=
 some (aB.mk ps [])
theorem b3(fu:Nat):ajE (cC fu):=by
 intro ps r H
 have H:=eF H
 refine qI Tryz.func266 (fun C hC=>?_)
 refine qS (qR (q1 (gM b7) (qN (qS (qR (q1 aE (q1 (eU b7 mK) (q1 (bR eA) (qN (aQ.ret ?_))))))))))
 cases aZ H
 exact bL (hr:=⟨⟨_,_,_,rfl,rfl,bP,rfl,rfl⟩,trivial⟩)
def af6(m:(List ByteArray)→Option ((List aB))):Prop:= ∀(plist:List ByteArray) (r:(List aB)),m plist=some r→b4 Tryz.prog 280 [rS plist] (bB r:PV)
def ac6(fu:Nat)(plist:List ByteArray):Nat→((List aB))→Option (LR ((List aB)) ((List aB))):=
 fun i1 v3=>bd (cC fu (aW plist i1)) (fun x7=>
 gd ((v3).length+(([x7]:List aB)).length≤68719476736)
 (some (.next (v3++([x7]:List aB)))))
def ac7(fu:Nat)(plist:List ByteArray):Option (((List aB))⊕((List aB))):=
 loopN (ac6 fu plist) (plist.length-0) 0 ([])
def B5(fu:Nat)(plist:List ByteArray):Option ((List aB)):=
 so (ac7 fu plist) (fun v3=>
 some v3)
theorem N9(fu:Nat):af6 (B5 fu):=by
 intro plist r H
 have H:=eF H
 refine qI Tryz.func280 (fun C hC=>?_)
 refine qS (qR (q1 aE (qN (qS (qR (q1 (qZ ([]:List aB) bI b7) (q1 aE (qN ?_))))))))
 iterate 2 refine qS ?_
 refine qR (q1 aE (qN ?_))
 refine j8 0 (a9 _) (fun hl4=>?_)
 refine b9 (σ:=(List aB)) (fun i1 v3=>⟨[(0,rS plist),(2,.nil),(3,dV v3 0),(4,pN i1)],⟨[],[⟨237,2,aB.trs (v3),false⟩]⟩⟩) (fun v3=>⟨[(2,.nil),(3,dV v3 0)],⟨[],[⟨237,2,aB.trs (v3),false⟩]⟩⟩) (f8 H) ?_ ?_
 ·rintro i1 v3 H
  iterate 2 refine qS ?_
  refine qR ?_
  iterate 2 refine q1 aE ?_
  refine q1 (eB bU (a9 _)) (q1 gP (qN ?_))
  refine dT H (fun h5 h5l H=>?_) (fun h5 H=>?_)
  ·have h5n:=a8 h5
   refine aQ.skip (qS (aQ.block (qR ?_)))
   iterate 3 refine q1 aE ?_
   refine q1 (gV h5n bU) (q1 (mC eE) (bN H fun x7 z6 H=>(q1 (bG Tryz.func266 (b3 fu (aW plist i1) _ z6)) (q1 (hH ([x7]:List aB) bI b7) (cX H fun z8 H=>(q1 (kX z8 bI qA) (q1 aE (qN (qR (q1 aE (q1 (aX.addI rfl rfl rfl rfl (c:=((i1+1:Nat):Int)) (by omega) (by omega)) (q1 aE (qN ?_)))))))))))))
   exact iK h5l ⟨_,(aZ H:),b0⟩
  refine aQ.exit ?_;exact j0 ⟨_,H,b0⟩
 rintro v3 H
 refine qS (qR ?_)
 iterate 2 refine q1 aE ?_
 refine qN (aQ.ret ?_)
 cases aZ H
 exact bL
def VW(m:(List aB)→Option aB):Prop:= ∀(plist:List aB) (r:aB),m plist=some r→V2 Tryz.prog 265 [bB plist] ⟨[],[]⟩ [] 237 2 (aB.trs (r.gList)) (fun k=> .agg [pS r.gAtom,dV r.gList k])
theorem B4{m:(List aB)→Option aB}(h:VW m)(plist:List aB)(r:aB)(H:m plist=some r):b4 Tryz.prog 265 [bB plist] ((aB.pv r):PV):=(h plist r H).plain (fun _=>kP) (hp:=anV)
def lB(fu:Nat)(plist:List aB):Option aB:=
 gd (([]:List aB).length+(plist).length≤68719476736)
 (some (aB.mk s_ (([])++plist)))
theorem l7(fu:Nat):VW (lB fu):=by
 intro plist r H
 unfold V2
 have H:=eF H
 refine qI Tryz.func265 (fun C hC=>?_)
 refine qS (qR (q1 (gM b7) (qN (qS (qR (q1 (qZ ([]:List aB) bI b7) (q1 aE (cX H fun z1 H=>(q1 (kX z1 bI qA) (q1 (eU b7 mK) (q1 (bR eA) (qN (aQ.ret ?_)))))))))))))
 cases aZ H
 exact bL (st':=⟨[],[⟨237,2,aB.trs (([])++plist),false⟩]⟩) ⟨0,rfl,rfl,rfl⟩ (hr:=⟨⟨_,_,_,rfl,rfl,bP,rfl,rfl⟩,trivial⟩)
abbrev lX:=aB→aB→Option Bool
def uC(m:lX):Prop:= ∀(pa:aB) (pb:aB) (r:Bool),m pa pb=some r→b4 Tryz.prog 248 [(aB.pv pa),(aB.pv pb)] (pB r:PV)
def RU(fu:Nat)(r_sEqualSExpr:lX)(pa pb:aB):Nat→Unit→Option (LR Unit Bool):=
 fun i3 _=>gd (i3<(pb.gList).length)
 (bd (r_sEqualSExpr (aW pa.gList i3) (aW pb.gList i3)) (fun x8=>
 sw (!(x8))
 (some (.ret false))
 (some (.next ()))))
def RW(fu:Nat)(r_sEqualSExpr:lX)(pa pb:aB):Option (Bool⊕Unit):=
 loopN (RU fu r_sEqualSExpr pa pb) (pa.gList.length-0) 0 ()
def zG(fu:Nat)(r_sEqualSExpr:lX)(pa pb:aB):Option Bool:=
 sw (!decide (pa.gAtom=pb.gAtom))
 (some false)
 (sw (!decide ((pa.gList.length:Int)=(pb.gList.length:Int)))
 (some false)
 (so (RW fu r_sEqualSExpr pa pb) (fun _=>
 some true)))
theorem MM(fu:Nat)(r_sEqualSExpr:lX)(h_sEqualSExpr:uC r_sEqualSExpr):uC (zG fu r_sEqualSExpr):=by
 intro pa pb r H
 have H:=eF H
 refine qI Tryz.func248 (fun C hC=>?_)
 refine qS (qR (q1 (jP ([pS pa.gAtom,bB pa.gList])) (q1 (jP ([pS pb.gAtom,bB pb.gList])) (q1 aE (qN ?_)))))
 iterate 2 refine qS ?_
 refine qR (q1 (a6 fA) (q1 (bD eE) (q1 (a6 fA) (q1 (bD eE) (q1 RL (q1 aE ?_))))))
 refine dY 11 H (fun g1 H=>?_) fun g1 H=>?_
 ·refine qk g1 ?_
  iterate 6 refine qk g1 ?_
  refine q1 (bS g1) (qN (dM rfl (qS (qR (q1 aE (qN (aQ.ret ?_)))))))
  cases aZ H
  exact bL
 refine qg g1 (a6 bH) (qg g1 (bD cR) (qg g1 (eB bI (aB.trs_len _)) (qg g1 (a6 bH) (qg g1 (bD cR) (qg g1 (eB bI (aB.trs_len _)) (qg g1 P5 (q1 (b6 g1) (qN ?_))))))))
 refine bA H (fun h2 H=>?_) (fun h2 H=>?_)
 ·refine qS (qR (q1 aE (qN (aQ.ret ?_))))
  cases aZ H
  exact bL
 refine aQ.skip ?_
 iterate 2 refine qS ?_
 refine qR (q1 aE (qN ?_))
 refine j8 13 (aB.trs_len _) (fun hl4=>?_)
 refine b9 (σ:=Unit) (fun i3 _=>⟨[(2,.ptr 0 0),(3,.ptr 1 0),(4,pB false),(5,pN i3)],⟨[some ⟨237,[pS pa.gAtom,bB pa.gList]⟩,some ⟨237,[pS pb.gAtom,bB pb.gList]⟩],[]⟩⟩) (fun _=>⟨[(4,pB false)],⟨[some ⟨237,[pS pa.gAtom,bB pa.gList]⟩,some ⟨237,[pS pb.gAtom,bB pb.gList]⟩],[]⟩⟩) (f8 H) ?_ ?_
 ·rintro i3 ⟨⟩ H
  iterate 2 refine qS ?_
  refine qR (q1 aE (q1 (a6 bH) (q1 (bD cR) (q1 (eB bI (aB.trs_len _)) (q1 gP (qN ?_))))))
  refine dT H (fun h5 h5l H=>?_) (fun h5 H=>?_)
  ·have h5n:=a8 h5
   refine aQ.skip (qS (aQ.block (qS (cX H fun z6 H=>(bN H fun x8 z7 H=>(dW (dI [2] (a6 bH) (dD [27] (bD cR) (dI [5] aE (dI [28,29] (gV h5n bI) (dI [30] (jW (aB.cs (aW pa.gList i3)) bP) (dI [3] (a6 bH) (dD [32] (bD cR) ?_)))))))))))))
   refine dI [5] aE (dI [33,34] (gV z6 bI) (dI [35] (jW (aB.cs (aW pb.gList i3)) bP) (dI [31,36] (bG Tryz.func248 (h_sEqualSExpr (aW pa.gList i3) (aW pb.gList i3) _ z7)) (dI [37] gW (dN ?_)))))
   refine bA H (fun h9 H=>?_) (fun h9 H=>?_)
   ·refine qS (qR (q1 aE (qN (aQ.ret ?_))))
    obtain rfl:_=r:=(p8 (aZ H):)
    exact bL
   refine aQ.skip (qR (q1 aE (q1 (aX.addI rfl rfl rfl rfl (c:=((i3+1:Nat):Int)) (by omega) (by omega)) (q1 aE (qN ?_)))))
   exact iK h5l ⟨_,(aZ H:),b0⟩
  refine aQ.exit ?_;exact j0 ⟨_,H,b0⟩
 rintro⟨⟩ H
 refine qS (qR (q1 aE (qN (aQ.ret ?_))))
 cases aZ H
 exact bL
def fE:Nat→aB→aB→Option Bool
 |0,_,_=>none
 |fu+1,pa,pb=>zG fu (fE fu) pa pb
theorem O1(fu:Nat):uC (fE fu):=by
 induction fu with
 |zero=>exact(fun pa pb r H=>by simp only [fE] at H;cases H)
 |succ fu ih=>exact(fun pa pb r H=>by simp only [fE] at H;exact MM fu (fE fu) ih pa pb r H)
theorem sV(fu:Nat):uC (fE fu):=(O1 fu)
end
end Go.Proofs.YtpioomclpaiomaaGreat.W

namespace Go.Proofs.YtpioomclpaiomaaGreat.W
set_option maxRecDepth 100000
set_option maxHeartbeats 40000000
noncomputable section
open Go.RowKit Go.Proofs
set_option linter.unusedSimpArgs false
set_option linter.unusedVariables false
attribute [local irreducible] lt
def ak9(m:(List ByteArray)→ByteArray→Option Bool):Prop:= ∀(plist:List ByteArray) (ps:ByteArray) (r:Bool),m plist ps=some r→b4 Tryz.prog 125 [rS plist,pS ps] (pB r:PV)
def VT(fu:Nat)(plist:List ByteArray)(ps:ByteArray):Nat→Unit→Option (LR Unit Bool):=
 fun i1 _=>sw (decide (aW plist i1=ps))
 (some (.ret true))
 (some (.next ()))
def VU(fu:Nat)(plist:List ByteArray)(ps:ByteArray):Option (Bool⊕Unit):=
 loopN (VT fu plist ps) (plist.length-0) 0 ()
def jZ(fu:Nat)(plist:List ByteArray)(ps:ByteArray):Option Bool:=
 so (VU fu plist ps) (fun _=>
 some false)
theorem lA(fu:Nat):ak9 (jZ fu):=by
 intro plist ps r H
 have H:=eF H
 refine qI Tryz.func125 (fun C hC=>?_)
 refine qS (qR (q1 aE (qN ?_)))
 iterate 2 refine qS ?_
 refine qR (q1 aE (qN ?_))
 refine j8 0 (a9 _) (fun hl2=>?_)
 refine b9 (σ:=Unit) (fun i1 _=>⟨[(0,rS plist),(1,pS ps),(4,pB false),(5,pN i1)],⟨[],[]⟩⟩) (fun _=>⟨[(4,pB false)],⟨[],[]⟩⟩) (f8 H) ?_ ?_
 ·rintro i1 ⟨⟩ H
  iterate 2 refine qS ?_
  refine qR ?_
  iterate 2 refine q1 aE ?_
  refine q1 (eB bU (a9 _)) (q1 gP (qN ?_))
  refine dT H (fun h3 h3l H=>?_) (fun h3 H=>?_)
  ·have h3n:=a8 h3
   refine aQ.skip (qS (aQ.block (qS (qR ?_))))
   iterate 2 refine q1 aE ?_
   refine q1 (gV h3n bU) (q1 (mC eE) (q1 aE (q1 E6 (qN ?_))))
   refine bA H (fun h4 H=>?_) (fun h4 H=>?_)
   ·refine qS (qR (q1 aE (qN (aQ.ret ?_))))
    obtain rfl:_=r:=(p8 (aZ H):)
    exact bL
   refine aQ.skip (qR (q1 aE (q1 (aX.addI rfl rfl rfl rfl (c:=((i1+1:Nat):Int)) (by omega) (by omega)) (q1 aE (qN ?_)))))
   exact iK h3l ⟨_,(aZ H:),b0⟩
  refine aQ.exit ?_;exact j0 ⟨_,H,b0⟩
 rintro⟨⟩ H
 refine qS (qR (q1 aE (qN (aQ.ret ?_))))
 cases aZ H
 exact bL
def UB(m:ByteArray→Option Bool):Prop:= ∀(ps:ByteArray) (r:Bool),m ps=some r→b4 Tryz.prog 254 [pS ps] (pB r:PV)
def zJ(fu:Nat)(ps:ByteArray):Option Bool:=
 bd (jZ fu ([fW,fN,iA,vX,BS,CL,vN,CM,nQ,vO,n8,kS]:List ByteArray) ps) (fun x2=>
 some x2)
theorem R0(fu:Nat):UB (zJ fu):=by
 intro ps r H
 have H:=eF H
 refine qI Tryz.func254 (fun C hC=>?_)
 refine qS (qR (q1 aE (qN (qS (qR (q1 (hH ([fW,fN,iA,vX,BS,CL,vN,CM,nQ,vO,n8,kS]:List ByteArray) bU kG) (q1 aE (bN H fun x2 z1 H=>(q1 (bG Tryz.func125 (lA fu ([fW,fN,iA,vX,BS,CL,vN,CM,nQ,vO,n8,kS]:List ByteArray) ps _ z1)) (q1 aE (qN (aQ.ret ?_))))))))))))
 cases aZ H
 exact bL
def R3(m:ByteArray→Option Bool):Prop:= ∀(ps:ByteArray) (r:Bool),m ps=some r→b4 Tryz.prog 235 [pS ps] (pB r:PV)
def O8(fu:Nat)(ps:ByteArray)(x2 x5:Bool):Nat→Unit→Option (LR Unit Bool):=
 fun i7 _=>gd (i7<(ps).size)
 (sw (decide ((((A5 ps i7).toNat:Int):Int)≥97))
 (sw (!(decide ((((A5 ps i7).toNat:Int):Int)≤122)))
 (sw (decide ((i7:Int)=0))
 (some (.ret false))
 (sw (decide ((((A5 ps i7).toNat:Int):Int)<48))
 (some (.ret false))
 (sw (decide ((((A5 ps i7).toNat:Int):Int)>57))
 (some (.ret false))
 (some (.next ())))))
 (some (.next ())))
 (sw (decide ((i7:Int)=0))
 (some (.ret false))
 (sw (decide ((((A5 ps i7).toNat:Int):Int)<48))
 (some (.ret false))
 (sw (decide ((((A5 ps i7).toNat:Int):Int)>57))
 (some (.ret false))
 (some (.next ()))))))
def O9(fu:Nat)(ps:ByteArray)(x2 x5:Bool):Option (Bool⊕Unit):=
 loopN (O8 fu ps x2 x5) (ps.size-0) 0 ()
def dH(fu:Nat)(ps:ByteArray):Option Bool:=
 bd (lO fu (ps.size:Int) 1 8) (fun x2=>
 sw (!(x2))
 (some false)
 (bd (zJ fu ps) (fun x5=>
 sw (x5)
 (some false)
 (so (O9 fu ps x2 x5) (fun _=>
 some true)))))
theorem dQ(fu:Nat):R3 (dH fu):=by
 intro ps r H
 have H:=eF H
 refine qI Tryz.func235 (fun C hC=>?_)
 refine qS (qR (q1 aE (qN ?_)))
 iterate 2 refine qS ?_
 refine qR (q1 aE (q1 (aX.lenS rfl rfl rfl Tryz.underlying9) (bN H fun x2 z1 H=>(q1 (bG Tryz.func108 (uZ fu (ps.size:Int) 1 8 _ z1)) (q1 gW (q1 aE ?_))))))
 refine dY 9 H (fun g3 H=>?_) fun g3 H=>?_
 ·refine qk g3 (qk g3 (q1 (bS g3) (qN (dM rfl (qS (qR (q1 aE (qN (aQ.ret ?_)))))))))
  cases aZ H
  exact bL
 refine qg g3 aE (bN H fun x5 z4 H=>(qg g3 (bG Tryz.func254 (R0 fu ps _ z4)) (q1 (b6 g3) (qN ?_))))
 refine bA H (fun h6 H=>?_) (fun h6 H=>?_)
 ·refine qS (qR (q1 aE (qN (aQ.ret ?_))))
  cases aZ H
  exact bL
 refine aQ.skip ?_
 iterate 2 refine qS ?_
 refine qR (q1 aE (qN ?_))
 refine szF 0 (fun hl8=>?_)
 refine b9 (σ:=Unit) (fun i7 _=>⟨[(0,pS ps),(2,pB false),(3,pN i7)],⟨[],[]⟩⟩) (fun _=>⟨[(2,pB false)],⟨[],[]⟩⟩) (f8 H) ?_ ?_
 ·rintro i7 ⟨⟩ H
  iterate 2 refine qS ?_
  refine qR ?_
  iterate 2 refine q1 aE ?_
  refine q1 (aX.lenS rfl rfl rfl Tryz.underlying9) (q1 gP (qN ?_))
  refine dT H (fun h9 h9l H=>?_) (fun h9 H=>?_)
  ·have h9n:i7<ps.size:=by have:=of_decide_eq_true h9;omega
   refine aQ.skip (qS (aQ.block (qS (qR ?_))))
   iterate 2 refine q1 aE ?_
   refine cX H fun z10 H=>(q1 (aX.indexS (k:=i7) rfl rfl rfl rfl z10 Tryz.underlying9) (q1 TX (q1 aE ?_)))
   refine dY 23 H (fun g11 H=>?_) fun g11 H=>?_
   ·refine qg g11 aE (qg g11 aE (qg g11 (aX.indexS (k:=i7) rfl rfl rfl rfl z10 Tryz.underlying9) (qg g11 rLe (q1 (bS g11) (q1 aE (qN (qS (qR (q1 aE (q1 gW (q1 aE ?_)))))))))))
    refine dY 31 H (fun g12 H=>?_) fun g12 H=>?_
    ·refine qg g12 aE (qg g12 eG (qg g12 aE ?_))
     refine dY 34 H (fun g13 H=>?_) fun g13 H=>?_
     ·refine qk g13 ?_
      iterate 3 refine qk g13 ?_
      refine qg g12 (bS g13) (qg g12 aE ?_)
      iterate 4 refine qk rfl ?_
      refine qg g12 (bS rfl) (q1 (bS g12) (qN (dM rfl (qS (qR (q1 aE (qN (aQ.ret ?_))))))))
      obtain rfl:_=r:=(p8 (aZ H):)
      exact bL
     iterate 2 refine qg g13 aE ?_
     refine qg g13 (aX.indexS (k:=i7) rfl rfl rfl rfl z10 Tryz.underlying9) (qg g13 gP (qg g12 (b6 g13) (qg g12 aE ?_)))
     refine dY 40 H (fun g14 H=>?_) fun g14 H=>?_
     ·refine qk g14 ?_
      iterate 3 refine qk g14 ?_
      refine qg g12 (bS g14) (q1 (bS g12) (qN (dM rfl (qS (qR (q1 aE (qN (aQ.ret ?_))))))))
      obtain rfl:_=r:=(p8 (aZ H):)
      exact bL
     iterate 2 refine qg g14 aE ?_
     refine qg g14 (aX.indexS (k:=i7) rfl rfl rfl rfl z10 Tryz.underlying9) (qg g14 KN (qg g12 (b6 g14) (q1 (bS g12) (qN ?_))))
     refine bA H (fun h15 H=>?_) (fun h15 H=>?_)
     ·refine qS (qR (q1 aE (qN (aQ.ret ?_))))
      obtain rfl:_=r:=(p8 (aZ H):)
      exact bL
     refine aQ.skip (qR (q1 aE (q1 (aX.addI rfl rfl rfl rfl (c:=((i7+1:Nat):Int)) (by omega) (by omega)) (q1 aE (qN ?_)))))
     exact iK h9l ⟨_,(aZ H:),b0⟩
    iterate 3 refine qk g12 ?_
    iterate 4 refine KM ?_
    iterate 2 refine qk g12 ?_
    iterate 4 refine KM ?_
    refine qk g12 (q1 (b6 g12) (qN (kJ rfl (aQ.skip (qR (q1 aE (q1 (aX.addI rfl rfl rfl rfl (c:=((i7+1:Nat):Int)) (by omega) (by omega)) (q1 aE (qN ?_)))))))))
    exact iK h9l ⟨_,(aZ H:),b0⟩
   iterate 4 refine qk g11 ?_
   refine q1 (b6 g11) (q1 aE (qN (qS (qR (q1 aE (q1 gW (q1 aE (qg (congrArg (fun b=> !b) (rfl:false=false)) aE (qg (congrArg (fun b=> !b) (rfl:false=false)) eG (qg (congrArg (fun b=> !b) (rfl:false=false)) aE ?_))))))))))
   refine dY 34 H (fun g16 H=>?_) fun g16 H=>?_
   ·refine qk g16 ?_
    iterate 3 refine qk g16 ?_
    refine qg (congrArg (fun b=> !b) (rfl:false=false)) (bS g16) (qg (congrArg (fun b=> !b) (rfl:false=false)) aE ?_)
    iterate 4 refine qk rfl ?_
    refine qg (congrArg (fun b=> !b) (rfl:false=false)) (bS rfl) (q1 (bS (congrArg (fun b=> !b) (rfl:false=false))) (qN (dM rfl (qS (qR (q1 aE (qN (aQ.ret ?_))))))))
    obtain rfl:_=r:=(p8 (aZ H):)
    exact bL
   iterate 2 refine qg g16 aE ?_
   refine qg g16 (aX.indexS (k:=i7) rfl rfl rfl rfl z10 Tryz.underlying9) (qg g16 gP (qg (congrArg (fun b=> !b) (rfl:false=false)) (b6 g16) (qg (congrArg (fun b=> !b) (rfl:false=false)) aE ?_)))
   refine dY 40 H (fun g17 H=>?_) fun g17 H=>?_
   ·refine qk g17 ?_
    iterate 3 refine qk g17 ?_
    refine qg (congrArg (fun b=> !b) (rfl:false=false)) (bS g17) (q1 (bS (congrArg (fun b=> !b) (rfl:false=false))) (qN (dM rfl (qS (qR (q1 aE (qN (aQ.ret ?_))))))))
    obtain rfl:_=r:=(p8 (aZ H):)
    exact bL
   iterate 2 refine qg g17 aE ?_
   refine qg g17 (aX.indexS (k:=i7) rfl rfl rfl rfl z10 Tryz.underlying9) (qg g17 KN (qg (congrArg (fun b=> !b) (rfl:false=false)) (b6 g17) (q1 (bS (congrArg (fun b=> !b) (rfl:false=false))) (qN ?_))))
   refine bA H (fun h18 H=>?_) (fun h18 H=>?_)
   ·refine qS (qR (q1 aE (qN (aQ.ret ?_))))
    obtain rfl:_=r:=(p8 (aZ H):)
    exact bL
   refine aQ.skip (qR (q1 aE (q1 (aX.addI rfl rfl rfl rfl (c:=((i7+1:Nat):Int)) (by omega) (by omega)) (q1 aE (qN ?_)))))
   exact iK h9l ⟨_,(aZ H:),b0⟩
  refine aQ.exit ?_;exact j0 ⟨_,H,b0⟩
 rintro⟨⟩ H
 refine qS (qR (q1 aE (qN (aQ.ret ?_))))
 cases aZ H
 exact bL
def af7(m:(List ByteArray)→Option Bool):Prop:= ∀(plist:List ByteArray) (r:Bool),m plist=some r→b4 Tryz.prog 255 [rS plist] (pB r:PV)
def ac8(fu:Nat)(plist:List ByteArray):Nat→Unit→Option (LR Unit Bool):=
 fun i1 _=>bd (dH fu (aW plist i1)) (fun x5=>
 sw (!(x5))
 (some (.ret false))
 (some (.next ())))
def ac9(fu:Nat)(plist:List ByteArray):Option (Bool⊕Unit):=
 loopN (ac8 fu plist) (plist.length-0) 0 ()
def B6(fu:Nat)(plist:List ByteArray):Option Bool:=
 so (ac9 fu plist) (fun _=>
 some true)
theorem OA(fu:Nat):af7 (B6 fu):=by
 intro plist r H
 have H:=eF H
 refine qI Tryz.func255 (fun C hC=>?_)
 refine qS (qR (q1 aE (qN ?_)))
 iterate 2 refine qS ?_
 refine qR (q1 aE (qN ?_))
 refine j8 0 (a9 _) (fun hl2=>?_)
 refine b9 (σ:=Unit) (fun i1 _=>⟨[(0,rS plist),(2,pB false),(3,pN i1)],⟨[],[]⟩⟩) (fun _=>⟨[(2,pB false)],⟨[],[]⟩⟩) (f8 H) ?_ ?_
 ·rintro i1 ⟨⟩ H
  iterate 2 refine qS ?_
  refine qR ?_
  iterate 2 refine q1 aE ?_
  refine q1 (eB bU (a9 _)) (q1 gP (qN ?_))
  refine dT H (fun h3 h3l H=>?_) (fun h3 H=>?_)
  ·have h3n:=a8 h3
   refine aQ.skip (qS (aQ.block (qS (qR ?_))))
   iterate 2 refine q1 aE ?_
   refine q1 (gV h3n bU) (q1 (mC eE) (bN H fun x5 z4 H=>(q1 (bG Tryz.func235 (dQ fu (aW plist i1) _ z4)) (q1 gW (qN ?_)))))
   refine bA H (fun h6 H=>?_) (fun h6 H=>?_)
   ·refine qS (qR (q1 aE (qN (aQ.ret ?_))))
    obtain rfl:_=r:=(p8 (aZ H):)
    exact bL
   refine aQ.skip (qR (q1 aE (q1 (aX.addI rfl rfl rfl rfl (c:=((i1+1:Nat):Int)) (by omega) (by omega)) (q1 aE (qN ?_)))))
   exact iK h3l ⟨_,(aZ H:),b0⟩
  refine aQ.exit ?_;exact j0 ⟨_,H,b0⟩
 rintro⟨⟩ H
 refine qS (qR (q1 aE (qN (aQ.ret ?_))))
 cases aZ H
 exact bL
def RN(m:(List ByteArray)→Option Bool):Prop:= ∀(plist:List ByteArray) (r:Bool),m plist=some r→b4 Tryz.prog 237 [rS plist] (pB r:PV)
def OW(fu:Nat)(plist:List ByteArray):Nat→Unit→Option (LR Unit Bool):=
 fun i1 _=>gd ((0:Int)≤0∧(0:Int)≤(i1:Int)∧(i1:Int)≤(plist.length:Int))
 (bd (jZ fu (List.drop (0:Int).toNat (List.take (i1:Int).toNat plist)) (aW plist i1)) (fun x6=>
 sw (x6)
 (some (.ret false))
 (some (.next ()))))
def OX(fu:Nat)(plist:List ByteArray):Option (Bool⊕Unit):=
 loopN (OW fu plist) (plist.length-0) 0 ()
def jH(fu:Nat)(plist:List ByteArray):Option Bool:=
 so (OX fu plist) (fun _=>
 some true)
theorem k8(fu:Nat):RN (jH fu):=by
 intro plist r H
 have H:=eF H
 refine qI Tryz.func237 (fun C hC=>?_)
 refine qS (qR (q1 aE (qN ?_)))
 iterate 2 refine qS ?_
 refine qR (q1 aE (qN ?_))
 refine j8 0 (a9 _) (fun hl2=>?_)
 refine b9 (σ:=Unit) (fun i1 _=>⟨[(0,rS plist),(2,pB false),(3,pN i1)],⟨[],[]⟩⟩) (fun _=>⟨[(2,pB false)],⟨[],[]⟩⟩) (f8 H) ?_ ?_
 ·rintro i1 ⟨⟩ H
  iterate 2 refine qS ?_
  refine qR ?_
  iterate 2 refine q1 aE ?_
  refine q1 (eB bU (a9 _)) (q1 gP (qN ?_))
  refine dT H (fun h3 h3l H=>?_) (fun h3 H=>?_)
  ·have h3n:=a8 h3
   refine aQ.skip (qS (aQ.block (qS (cX H fun z4 H=>(bN H fun x6 z5 H=>(dW (dI [0] aE (dI [3] aE ?_))))))))
   refine dI [10,11] (aX.congrP (aX.sliceR (es:=a4 (plist)) (l:=0) (k:=(i1:Int)) rfl rfl rfl rfl rfl (by rw [a9];exact rfl) (by rw [a9];exact z4) bU) (adG _ _ _)) ?_;refine dI [0] aE (dI [3] aE (dI [13,14] (gV h3n bU) (dI [15] (mC eE) (dI [12,16] (bG Tryz.func125 (lA fu (List.drop (0:Int).toNat (List.take (i1:Int).toNat plist)) (aW plist i1) _ z5)) (dN ?_)))))
   refine bA H (fun h7 H=>?_) (fun h7 H=>?_)
   ·refine qS (qR (q1 aE (qN (aQ.ret ?_))))
    obtain rfl:_=r:=(p8 (aZ H):)
    exact bL
   refine aQ.skip (qR (q1 aE (q1 (aX.addI rfl rfl rfl rfl (c:=((i1+1:Nat):Int)) (by omega) (by omega)) (q1 aE (qN ?_)))))
   exact iK h3l ⟨_,(aZ H:),b0⟩
  refine aQ.exit ?_;exact j0 ⟨_,H,b0⟩
 rintro⟨⟩ H
 refine qS (qR (q1 aE (qN (aQ.ret ?_))))
 cases aZ H
 exact bL
def alF(m:ByteArray→Option aA):Prop:= ∀(ps:ByteArray) (r:aA),m ps=some r→b4 Tryz.prog 118 [pS ps] ((aA.pv r):PV)
def lP(fu:Nat)(ps:ByteArray):Option aA:=
 some (aA.mk 1 ps [])
theorem iW(fu:Nat):alF (lP fu):=by
 intro ps r H
 have H:=eF H
 refine qI Tryz.func118 (fun C hC=>?_)
 refine qS (qR (q1 (gM eP) (qN (qS (qR (q1 aE (q1 (eU eP sF) (q1 (bR eS) (qN (aQ.ret ?_))))))))))
 cases aZ H
 exact bL (hr:=⟨⟨_,_,_,rfl,rfl,bZ,rfl,rfl⟩,trivial⟩)
def alC(m:ByteArray→(List aA)→Option aA):Prop:= ∀(ps:ByteArray) (pargs:List aA) (r:aA),m ps pargs=some r→b4 Tryz.prog 85 [pS ps,a3 pargs] ((aA.pv r):PV)
def jL(fu:Nat)(ps:ByteArray)(pargs:List aA):Option aA:=
 gd (([]:List aA).length+(pargs).length≤68719476736)
 (some (aA.mk 2 ps (([])++pargs)))
theorem iV(fu:Nat):alC (jL fu):=by
 intro ps pargs r H
 have H:=eF H
 refine qI Tryz.func85 (fun C hC=>?_)
 refine qS (qR (q1 (gM eP) (qN (qS (qR (q1 aE (q1 (qZ ([]:List aA) c8 eP) (q1 aE (cX H fun z1 H=>(q1 (kX z1 c8 agY) (q1 (eU eP sF) (q1 (bR eS) (qN ?_)))))))))))))
 refine aQ.ret ?_
 cases aZ H
 exact bL (hr:=⟨⟨_,_,_,rfl,rfl,bZ,rfl,rfl⟩,trivial⟩)
abbrev CA:=aB→Option aA
def P8(m:CA):Prop:= ∀(pa0:aB) (r:aA),m pa0=some r→b4 Tryz.prog 246 [(aB.pv pa0)] ((aA.pv r):PV)
def alL(fu:Nat)(r_sl5Ty:CA)(pa0:aB):Nat→((List aA))→Option (LR ((List aA)) aA):=
 fun i11 v13=>bd (r_sl5Ty (aW pa0.gList i11)) (fun x17=>
 gd ((v13).length+(([x17]:List aA)).length≤68719476736)
 (some (.next (v13++([x17]:List aA)))))
def alM(fu:Nat)(r_sl5Ty:CA)(pa0:aB):Option (aA⊕((List aA))):=
 loopN (alL fu r_sl5Ty pa0) (pa0.gList.length-1) 1 ([])
def ZH(fu:Nat)(r_sl5Ty:CA)(pa0:aB):Option aA:=
 sw (!decide (pa0.gAtom=s_))
 (gd (0<(pa0.gAtom).size)
 (sw (decide ((((A5 pa0.gAtom 0).toNat:Int):Int)=39))
 (gd ((0:Int)≤1∧(1:Int)≤(pa0.gAtom.size:Int)∧(pa0.gAtom.size:Int)≤(pa0.gAtom.size:Int))
 (bd (lP fu (pa0.gAtom.extract (1:Int).toNat (pa0.gAtom.size:Int).toNat)) (fun x6=>
 some x6)))
 (bd (jL fu pa0.gAtom ([])) (fun x8=>
 some x8))))
 (sw (decide ((pa0.gList.length:Int)<2))
 (some (aA.mk 0 s_ []))
 (gd (0<(pa0.gList).length)
 (so (alM fu r_sl5Ty pa0) (fun v13=>
 sw (decide ((aW pa0.gList 0).gAtom=iA))
 (sw (decide ((v13.length:Int)=2))
 (gd (1<(pa0.gList).length)
 (sw (!decide ((aW pa0.gList 1).gAtom=s_))
 (gd ((0:Int)≤1∧(1:Int)≤(v13.length:Int)∧(v13.length:Int)≤(v13.length:Int))
 (some (aA.mk 3 ((aW pa0.gList 1).gAtom) (List.drop (1:Int).toNat (List.take (v13.length:Int).toNat v13)))))
 (sw (decide ((aW pa0.gList 0).gAtom=vX))
 (some (aA.mk 2 ((aW pa0.gList 0).gAtom) v13))
 (some (aA.mk 2 ((aW pa0.gList 0).gAtom) v13)))))
 (sw (decide ((aW pa0.gList 0).gAtom=vX))
 (sw (decide ((v13.length:Int)=1))
 (gd (1<(pa0.gList).length)
 (sw (!decide ((aW pa0.gList 1).gAtom=s_))
 (some (aA.mk 4 ((aW pa0.gList 1).gAtom) []))
 (some (aA.mk 2 ((aW pa0.gList 0).gAtom) v13))))
 (some (aA.mk 2 ((aW pa0.gList 0).gAtom) v13)))
 (some (aA.mk 2 ((aW pa0.gList 0).gAtom) v13))))
 (sw (decide ((aW pa0.gList 0).gAtom=vX))
 (sw (decide ((v13.length:Int)=1))
 (gd (1<(pa0.gList).length)
 (sw (!decide ((aW pa0.gList 1).gAtom=s_))
 (some (aA.mk 4 ((aW pa0.gList 1).gAtom) []))
 (some (aA.mk 2 ((aW pa0.gList 0).gAtom) v13))))
 (some (aA.mk 2 ((aW pa0.gList 0).gAtom) v13)))
 (some (aA.mk 2 ((aW pa0.gList 0).gAtom) v13)))))))
theorem agT(fu:Nat)(r_sl5Ty:CA)(h_sl5Ty:P8 r_sl5Ty):P8 (ZH fu r_sl5Ty):=by
 intro pa0 r H
 have H:=eF H
 refine qI Tryz.func246 (fun C hC=>?_)
 refine qS (qR (q1 (jP ([pS pa0.gAtom,bB pa0.gList])) (q1 (gM eP) (qN ?_))))
 iterate 2 refine qS ?_
 refine qR (q1 (a6 fA) (q1 (bD eE) (q1 RL (qN ?_))))
 refine bA H (fun h1 H=>?_) (fun h1 H=>?_)
 ·refine qS (qS (qR (q1 (a6 fA) (q1 (bD eE) (cX H fun z2 H=>(q1 (aX.indexS (k:=0) rfl rfl rfl rfl z2 Tryz.underlying9) (q1 eG (qN ?_))))))))
  refine bA H (fun h3 H=>?_) (fun h3 H=>?_)
  ·refine qS (qR (q1 (a6 fA) (q1 (bD eE) (cX H fun z4 H=>(q1 (aX.sliceS (l:=1) (k:=(pa0.gAtom.size:Int)) rfl rfl rfl rfl rfl z4 Tryz.underlying9) (bN H fun x6 z5 H=>(q1 (bG Tryz.func118 (iW fu (pa0.gAtom.extract (1:Int).toNat (pa0.gAtom.size:Int).toNat) _ z5)) (q1 (bR eS) (qN (aQ.ret ?_))))))))))
   cases aZ H
   exact bL (hr:=⟨⟨_,_,_,rfl,rfl,bZ,rfl,rfl⟩,trivial⟩)
  refine aQ.skip (qS (qR (q1 (a6 fA) (q1 (bD eE) (bN H fun x8 z7 H=>(q1 (bG Tryz.func85 (iV fu pa0.gAtom ([]) _ z7)) (q1 (bR eS) (qN (aQ.ret ?_)))))))))
  cases aZ H
  exact bL (hr:=⟨⟨_,_,_,rfl,rfl,bZ,rfl,rfl⟩,trivial⟩)
 refine aQ.skip ?_
 iterate 2 refine qS ?_
 refine qR (q1 (a6 bH) (q1 (bD cR) (q1 (eB bI (aB.trs_len _)) (q1 gP (qN ?_)))))
 refine bA H (fun h9 H=>?_) (fun h9 H=>?_)
 ·have h9n:pa0.gList.length<2:=by have:=of_decide_eq_true h9;omega
  refine qS (qR (q1 (eU eP sF) (q1 (bR eS) (qN (aQ.ret ?_)))))
  cases aZ H
  exact bL (hr:=⟨⟨_,_,_,rfl,rfl,bZ,rfl,rfl⟩,trivial⟩)
 refine aQ.skip (qS (qR (q1 (a6 bH) (q1 (bD cR) (cX H fun z10 H=>(q1 (gV z10 bI) (q1 (nK fA) (q1 (mC eE) (q1 aE (qN (qS (qR (q1 (qZ ([]:List aA) c8 eP) ?_)))))))))))))
 refine q1 aE (qN ?_)
 iterate 2 refine qS ?_
 refine qR (q1 aE (qN ?_))
 refine j8 21 (aB.trs_len _) (fun hl14=>?_)
 refine b9 (σ:=(List aA)) (fun i11 v13=>⟨[(1,.ptr 0 0),(2,.ptr 1 0),(3,pS ((aW pa0.gList 0).gAtom)),(4,NU v13 0),(5,pN i11)],⟨[some ⟨237,[pS pa0.gAtom,bB pa0.gList]⟩,some ⟨35,[pI 0,pS s_,.nil]⟩],[⟨35,3,aA.trs (v13),false⟩]⟩⟩) (fun v13=>⟨[(1,.ptr 0 0),(2,.ptr 1 0),(3,pS ((aW pa0.gList 0).gAtom)),(4,NU v13 0)],⟨[some ⟨237,[pS pa0.gAtom,bB pa0.gList]⟩,some ⟨35,[pI 0,pS s_,.nil]⟩],[⟨35,3,aA.trs (v13),false⟩]⟩⟩) (f8 H) ?_ ?_
 ·rintro i11 v13 H
  iterate 2 refine qS ?_
  refine qR (q1 aE (q1 (a6 bH) (q1 (bD cR) (q1 (eB bI (aB.trs_len _)) (q1 gP (qN ?_))))))
  refine dT H (fun h15 h15l H=>?_) (fun h15 H=>?_)
  ·have h15n:=a8 h15
   refine aQ.skip (qS (aQ.block (qR (q1 aE (q1 (a6 bH) (q1 (bD cR) (q1 aE (q1 (gV h15n bI) (q1 (jW (aB.cs (aW pa0.gList i11)) bP) (bN H fun x17 z16 H=>(q1 (bG Tryz.func246 (h_sl5Ty (aW pa0.gList i11) _ z16)) (q1 (hH ([x17]:List aA) c8 eP) (cX H fun z18 H=>?_)))))))))))))
   refine q1 (kX z18 c8 agY) (q1 aE (qN (qR (q1 aE (q1 (aX.addI rfl rfl rfl rfl (c:=((i11+1:Nat):Int)) (by omega) (by omega)) (q1 aE (qN ?_)))))))
   exact iK h15l ⟨_,(aZ H:),b0⟩
  refine aQ.exit ?_;exact j0 ⟨_,H,b0⟩
 rintro v13 H
 refine qS (aQ.block (qS (qR (q1 aE (q1 E6 (q1 aE ?_))))))
 refine dY 50 H (fun g19 H=>?_) fun g19 H=>?_
 ·refine qg g19 aE (qg g19 (eB c8 (aA.trs_len _)) (qg g19 eG (q1 (bS g19) (q1 aE ?_))))
  refine dY 55 H (fun g20 H=>?_) fun g20 H=>?_
  ·refine qg g20 (a6 bH) (qg g20 (bD cR) (cX H fun z21 H=>(qg g20 (gV z21 bI) (qg g20 (nK fA) (qg g20 (mC eE) (qg g20 RL (q1 (bS g20) (q1 aE (qN ?_)))))))))
   refine bA H (fun h22 H=>?_) (fun h22 H=>?_)
   ·refine qS (cX H fun z23 H=>(dW (dI [1] (a6 bH) (dD [63] (bD cR) (dI [64] (gV z21 bI) (dI [65] (nK fA) (dI [66] (mC eE) (dI [4] aE ?_))))))))
    refine dI [68] (aX.congrP (aX.sliceR (es:=aA.trs (v13)) (l:=1) (k:=(v13.length:Int)) rfl rfl rfl rfl rfl (by rw [aA.trs_len];exact rfl) (by rw [aA.trs_len];exact z23) c8) (aA.trs_part _ _ _)) ?_;refine dI [67,69] (eU eP sF) (mN [2,70] (bR eS) (dN (aQ.ret ?_)))
    cases aZ H
    exact bL (hr:=⟨⟨_,_,_,rfl,rfl,bZ,rfl,rfl⟩,trivial⟩)
   refine qS (qR (q1 aE (q1 E6 (q1 aE ?_))))
   refine dY 74 H (fun g24 H=>?_) fun g24 H=>?_
   ·refine qg g24 aE (qg g24 (eB c8 (aA.trs_len _)) (qg g24 eG (q1 (bS g24) (q1 aE ?_))))
    iterate 6 refine qk (dne (b:=1) g20 (by decide)) ?_
    refine q1 (b6 (dne (b:=1) g20 (by decide))) (q1 aE (qN (kJ rfl (aQ.skip (qS (qR ?_))))))
    iterate 2 refine q1 aE ?_
    refine q1 (eU eP sF) (q1 (bR eS) (qN (aQ.ret ?_)))
    cases aZ H
    exact bL (hr:=⟨⟨_,_,_,rfl,rfl,bZ,rfl,rfl⟩,trivial⟩)
   iterate 3 refine qk g24 ?_
   refine q1 (b6 g24) (q1 aE ?_)
   iterate 6 refine qk rfl ?_
   refine q1 (b6 rfl) (q1 aE (qN (kJ rfl (aQ.skip (qS (qR ?_))))))
   iterate 2 refine q1 aE ?_
   refine q1 (eU eP sF) (q1 (bR eS) (qN (aQ.ret ?_)))
   cases aZ H
   exact bL (hr:=⟨⟨_,_,_,rfl,rfl,bZ,rfl,rfl⟩,trivial⟩)
  iterate 6 refine qk g20 ?_
  refine q1 (b6 g20) (q1 aE (qN (kJ rfl (qS (qR (q1 aE (q1 E6 (q1 aE ?_))))))))
  refine dY 74 H (fun g25 H=>?_) fun g25 H=>?_
  ·refine qg g25 aE (qg g25 (eB c8 (aA.trs_len _)) (qg g25 eG (q1 (bS g25) (q1 aE ?_))))
   refine dY 79 H (fun g26 H=>?_) fun g26 H=>?_
   ·refine qg g26 (a6 bH) (qg g26 (bD cR) (cX H fun z27 H=>(qg g26 (gV z27 bI) (qg g26 (nK fA) (qg g26 (mC eE) (qg g26 RL (q1 (bS g26) (q1 aE (qN ?_)))))))))
    refine bA H (fun h28 H=>?_) (fun h28 H=>?_)
    ·refine qS (qR (q1 (a6 bH) (q1 (bD cR) (q1 (gV z27 bI) (q1 (nK fA) (q1 (mC eE) (q1 (eU eP sF) (q1 (bR eS) (qN (aQ.ret ?_))))))))))
     cases aZ H
     exact bL (hr:=⟨⟨_,_,_,rfl,rfl,bZ,rfl,rfl⟩,trivial⟩)
    refine aQ.skip (qS (qR ?_))
    iterate 2 refine q1 aE ?_
    refine q1 (eU eP sF) (q1 (bR eS) (qN (aQ.ret ?_)))
    cases aZ H
    exact bL (hr:=⟨⟨_,_,_,rfl,rfl,bZ,rfl,rfl⟩,trivial⟩)
   iterate 6 refine qk g26 ?_
   refine q1 (b6 g26) (q1 aE (qN (kJ rfl (aQ.skip (qS (qR ?_))))))
   iterate 2 refine q1 aE ?_
   refine q1 (eU eP sF) (q1 (bR eS) (qN (aQ.ret ?_)))
   cases aZ H
   exact bL (hr:=⟨⟨_,_,_,rfl,rfl,bZ,rfl,rfl⟩,trivial⟩)
  iterate 3 refine qk g25 ?_
  refine q1 (b6 g25) (q1 aE ?_)
  iterate 6 refine qk rfl ?_
  refine q1 (b6 rfl) (q1 aE (qN (kJ rfl (aQ.skip (qS (qR ?_))))))
  iterate 2 refine q1 aE ?_
  refine q1 (eU eP sF) (q1 (bR eS) (qN (aQ.ret ?_)))
  cases aZ H
  exact bL (hr:=⟨⟨_,_,_,rfl,rfl,bZ,rfl,rfl⟩,trivial⟩)
 iterate 3 refine qk g19 ?_
 refine q1 (b6 g19) (q1 aE ?_)
 iterate 6 refine qk rfl ?_
 refine q1 (b6 rfl) (q1 aE (qN (kJ rfl (qS (qR (q1 aE (q1 E6 (q1 aE ?_))))))))
 refine dY 74 H (fun g29 H=>?_) fun g29 H=>?_
 ·refine qg g29 aE (qg g29 (eB c8 (aA.trs_len _)) (qg g29 eG (q1 (bS g29) (q1 aE ?_))))
  refine dY 79 H (fun g30 H=>?_) fun g30 H=>?_
  ·refine qg g30 (a6 bH) (qg g30 (bD cR) (cX H fun z31 H=>(qg g30 (gV z31 bI) (qg g30 (nK fA) (qg g30 (mC eE) (qg g30 RL (q1 (bS g30) (q1 aE (qN ?_)))))))))
   refine bA H (fun h32 H=>?_) (fun h32 H=>?_)
   ·refine qS (qR (q1 (a6 bH) (q1 (bD cR) (q1 (gV z31 bI) (q1 (nK fA) (q1 (mC eE) (q1 (eU eP sF) (q1 (bR eS) (qN (aQ.ret ?_))))))))))
    cases aZ H
    exact bL (hr:=⟨⟨_,_,_,rfl,rfl,bZ,rfl,rfl⟩,trivial⟩)
   refine aQ.skip (qS (qR ?_))
   iterate 2 refine q1 aE ?_
   refine q1 (eU eP sF) (q1 (bR eS) (qN (aQ.ret ?_)))
   cases aZ H
   exact bL (hr:=⟨⟨_,_,_,rfl,rfl,bZ,rfl,rfl⟩,trivial⟩)
  iterate 6 refine qk g30 ?_
  refine q1 (b6 g30) (q1 aE (qN (kJ rfl (aQ.skip (qS (qR ?_))))))
  iterate 2 refine q1 aE ?_
  refine q1 (eU eP sF) (q1 (bR eS) (qN (aQ.ret ?_)))
  cases aZ H
  exact bL (hr:=⟨⟨_,_,_,rfl,rfl,bZ,rfl,rfl⟩,trivial⟩)
 iterate 3 refine qk g29 ?_
 refine q1 (b6 g29) (q1 aE ?_)
 iterate 6 refine qk rfl ?_
 refine q1 (b6 rfl) (q1 aE (qN (kJ rfl (aQ.skip (qS (qR ?_))))))
 iterate 2 refine q1 aE ?_
 refine q1 (eU eP sF) (q1 (bR eS) (qN (aQ.ret ?_)))
 cases aZ H
 exact bL (hr:=⟨⟨_,_,_,rfl,rfl,bZ,rfl,rfl⟩,trivial⟩)
def lR:Nat→aB→Option aA
 |0,_=>none
 |fu+1,pa0=>ZH fu (lR fu) pa0
theorem ajS(fu:Nat):P8 (lR fu):=by
 induction fu with
 |zero=>exact(fun pa0 r H=>by simp only [lR] at H;cases H)
 |succ fu ih=>exact(fun pa0 r H=>by simp only [lR] at H;exact agT fu (lR fu) ih pa0 r H)
theorem u3(fu:Nat):P8 (lR fu):=(ajS fu)
abbrev wP:=aA→Option aB
def P7(m:wP):Prop:= ∀(pa0:aA) (r:aB),m pa0=some r→b4 Tryz.prog 269 [(aA.pv pa0)] ((aB.pv r):PV)
def alG(fu:Nat)(r_sl5Sx:wP)(pa0:aA):Option (aB⊕Unit):=
 sw (decide (pa0.gKind=1))
 (gd ((ajW).size+(pa0.gName).size≤1099511627776)
 (bd (cC fu (ajW++pa0.gName)) (fun x4=>
 some (.inl x4))))
 (sw (decide (pa0.gKind=4))
 (bd (cC fu vX) (fun x7=>
 bd (cC fu pa0.gName) (fun x9=>
 bd (lB fu ([x7,x9]:List aB)) (fun x11=>
 some (.inl x11)))))
 (sw (decide (pa0.gKind=2))
 (sw (decide ((pa0.gArgs.length:Int)=0))
 (bd (cC fu pa0.gName) (fun x15=>
 some (.inl x15)))
 (some (.inr ())))
 (some (.inr ()))))
def alH(fu:Nat)(r_sl5Sx:wP)(pa0:aA):Option (aB⊕((List aB))):=
 sw (decide (pa0.gKind=3))
 (bd (cC fu iA) (fun x20=>
 gd (([]:List aB).length+(([x20]:List aB)).length≤68719476736)
 (some (.inr (([])++([x20]:List aB))))))
 (some (.inr ([])))
def alI(fu:Nat)(r_sl5Sx:wP)(pa0:aA)(v17:List aB)(x23:aB):Nat→((List aB))→Option (LR ((List aB)) aB):=
 fun i25 v27=>bd (r_sl5Sx (aW pa0.gArgs i25)) (fun x31=>
 gd ((v27).length+(([x31]:List aB)).length≤68719476736)
 (some (.next (v27++([x31]:List aB)))))
def alJ(fu:Nat)(r_sl5Sx:wP)(pa0:aA)(v17:List aB)(x23:aB):Option (aB⊕((List aB))):=
 loopN (alI fu r_sl5Sx pa0 v17 x23) (pa0.gArgs.length-0) 0 (v17++([x23]:List aB))
def ZG(fu:Nat)(r_sl5Sx:wP)(pa0:aA):Option aB:=
 so (alG fu r_sl5Sx pa0) (fun _=>
 so (alH fu r_sl5Sx pa0) (fun v17=>
 bd (cC fu pa0.gName) (fun x23=>
 gd ((v17).length+(([x23]:List aB)).length≤68719476736)
 (so (alJ fu r_sl5Sx pa0 v17 x23) (fun v27=>
 some (aB.mk s_ v27))))))
theorem agS(fu:Nat)(r_sl5Sx:wP)(h_sl5Sx:P7 r_sl5Sx):P7 (ZG fu r_sl5Sx):=by
 intro pa0 r H
 have H:=eF H
 refine qI Tryz.func269 (fun C hC=>?_)
 refine qS (qR (q1 (jP (dU pa0)) (q1 (gM b7) (qN (qS ?_)))))
 refine qD (σ:=Unit) (fun _=>⟨[(1,.ptr 0 0),(2,.ptr 1 0)],⟨[some ⟨35,dU pa0⟩,some ⟨237,[pS s_,.nil]⟩],[]⟩⟩) (f8 H) (fun H=>?_) ?_
 ·refine aQ.block (qS (qR (q1 (a6 iF) (q1 (bD jN) (q1 eG (q1 aE (qN ?_)))))))
  refine bA H (fun h1 H=>?_) (fun h1 H=>?_)
  ·refine qS (qR (q1 (a6 gR) (q1 (bD eE) (cX H fun z2 H=>(q1 (aX.addS rfl rfl rfl rfl (Nat.le_trans z2 (by decide))) (bN H fun x4 z3 H=>(q1 (bG Tryz.func266 (b3 fu (ajW++pa0.gName) _ z3)) (q1 (bR eA) (qN (aQ.ret ?_))))))))))
   obtain rfl:_=r:=(CY (aZ H):)
   exact bL (hr:=⟨⟨_,_,_,rfl,rfl,bP,rfl,rfl⟩,trivial⟩)
  refine qS (qR (q1 (a6 iF) (q1 (bD jN) (q1 eG (q1 aE (qN ?_))))))
  refine bA H (fun h5 H=>?_) (fun h5 H=>?_)
  ·refine qS (bN H fun x7 z6 H=>(bN H fun x9 z8 H=>(bN H fun x11 z10 H=>(dW (dI [] (bG Tryz.func266 (b3 fu vX _ z6)) (dI [1] (a6 gR) (dD [18] (bD eE) (dI [19] (bG Tryz.func266 (b3 fu pa0.gName _ z8)) (dI [17,20] (hH ([x7,x9]:List aB) bI b7) (dI [21] (bG Tryz.func265 (B4 (l7 fu) ([x7,x9]:List aB) _ z10)) (mN [2,22] (bR eA) (dN (aQ.ret ?_)))))))))))))
   obtain rfl:_=r:=(CY (aZ H):)
   exact bL (hr:=⟨⟨_,_,_,rfl,rfl,bP,rfl,rfl⟩,trivial⟩)
  refine qS (qR (q1 (a6 iF) (q1 (bD jN) (q1 eG (q1 aE ?_)))))
  refine dY 27 H (fun g12 H=>?_) fun g12 H=>?_
  ·refine qg g12 (a6 eZ) (qg g12 (bD kT) (qg g12 (eB c8 (aA.trs_len _)) (qg g12 eG (q1 (bS g12) (q1 aE (qN ?_))))))
   refine bA H (fun h13 H=>?_) (fun h13 H=>?_)
   ·refine qS (qR (q1 (a6 gR) (q1 (bD eE) (bN H fun x15 z14 H=>(q1 (bG Tryz.func266 (b3 fu pa0.gName _ z14)) (q1 (bR eA) (qN (aQ.ret ?_))))))))
    obtain rfl:_=r:=(CY (aZ H):)
    exact bL (hr:=⟨⟨_,_,_,rfl,rfl,bP,rfl,rfl⟩,trivial⟩)
   refine aQ.skip ?_;exact dO ⟨_,(aZ H:),b0⟩
  iterate 4 refine qk g12 ?_
  refine q1 (b6 g12) (q1 aE (qN (kJ rfl (aQ.skip ?_))))
  exact dO ⟨_,(aZ H:),b0⟩
 rintro⟨⟩ H
 refine qS (qR (q1 (eU b7 mK) (q1 (gM b7) (q1 (bR eA) (qN (qS (aQ.wk (Wk.regBox (k:=2) (j:=1) 237 2 (by decide) rfl rfl) ?_)))))))
 refine qD (σ:=(List aB)) (fun v17=>⟨[(1,.ptr 0 0),(2,.ptr 1 0),(3,.ptr 2 0)],⟨[some ⟨35,dU pa0⟩,some ⟨237,[pS s_,.nil]⟩,some ⟨237,[pS s_,dV v17 0]⟩],[⟨237,2,aB.trs (v17),false⟩]⟩⟩) (f8 H) (fun H=>?_) ?_
 ·refine qS (qR (q1 (a6 iF) (q1 (bD jN) (q1 eG (qN ?_)))))
  refine bA H (fun h18 H=>?_) (fun h18 H=>?_)
  ·refine bN H fun x20 z19 H=>(cX H fun z21 H=>(dW (dI [3] (a6 bH) (dD [40] (bD cR) (dI [] (bG Tryz.func266 (b3 fu iA _ z19)) (dI [42] (hH ([x20]:List aB) bI b7) (dE [41,43] (kX z21 bI qA) (dI [3] (a6 bH) (mN [45,44] (bR yY) (dN ?_))))))))))
   exact dO ⟨_,(aZ H:),b0⟩
  refine aQ.skip ?_;exact dO ⟨_,(aZ H:),b0⟩
 rintro v17 H
 refine qS (bN H fun x23 z22 H=>(cX H fun z24 H=>(dW (dI [3] (a6 bH) (dD [46] (bD cR) (dI [1] (a6 gR) (dD [48] (bD eE) (dI [49] (bG Tryz.func266 (b3 fu pa0.gName _ z22)) (dI [50] (hH ([x23]:List aB) bI b7) (dE [47,51] (kX z24 bI qA) (dI [3] (a6 bH) (mN [53,52] (bR yY) (dN ?_)))))))))))))
 iterate 2 refine qS ?_
 refine qR (q1 aE (qN ?_))
 refine aQ.fact (cE 0 2 rfl rfl rfl (aA.trs_len _)) (fun hl28=>?_)
 refine b9 (σ:=(List aB)) (fun i25 v27=>⟨[(1,.ptr 0 0),(2,.ptr 1 0),(3,.ptr 2 0),(4,pN i25)],⟨[some ⟨35,dU pa0⟩,some ⟨237,[pS s_,.nil]⟩,some ⟨237,[pS s_,dV v27 0]⟩],[⟨237,2,aB.trs (v27),false⟩]⟩⟩) (fun v27=>⟨[(2,.ptr 1 0),(3,.ptr 2 0)],⟨[some ⟨35,dU pa0⟩,some ⟨237,[pS s_,.nil]⟩,some ⟨237,[pS s_,dV v27 0]⟩],[⟨237,2,aB.trs (v27),false⟩]⟩⟩) (f8 H) ?_ ?_
 ·rintro i25 v27 H
  iterate 2 refine qS ?_
  refine qR (q1 aE (q1 (a6 eZ) (q1 (bD kT) (q1 (eB c8 (aA.trs_len _)) (q1 gP (qN ?_))))))
  refine dT H (fun h29 h29l H=>?_) (fun h29 H=>?_)
  ·have h29n:=a8 h29
   refine aQ.skip (qS (aQ.block (bN H fun x31 z30 H=>(cX H fun z32 H=>(dW (dI [3] (a6 bH) (dD [61] (bD cR) (dI [1] (a6 eZ) (dD [63] (bD kT) (dI [4] aE (dI [64,65] (gV h29n c8) (dI [66] (jW (aA.cs (aW pa0.gArgs i25)) bZ) (dI [67] (bG Tryz.func269 (h_sl5Sx (aW pa0.gArgs i25) _ z30)) ?_)))))))))))))
   refine dI [68] (hH ([x31]:List aB) bI b7) (dE [62,69] (kX z32 bI qA) (dI [3] (a6 bH) (mN [71,70] (bR yY) (dN (qR (q1 aE (q1 (aX.addI rfl rfl rfl rfl (c:=((i25+1:Nat):Int)) (by omega) (by omega)) (q1 aE (qN ?_)))))))))
   exact iK h29l ⟨_,(aZ H:),b0⟩
  refine aQ.exit ?_;exact j0 ⟨_,H,b0⟩
 rintro v27 H
 refine qS (qR (q1 (cU [pS s_,dV v27 0] bP) (q1 (bR eA) (qN (aQ.ret ?_)))))
 cases aZ H
 exact bL (hr:=⟨⟨_,_,_,rfl,rfl,bP,rfl,rfl⟩,trivial⟩)
def lQ:Nat→aA→Option aB
 |0,_=>none
 |fu+1,pa0=>ZG fu (lQ fu) pa0
theorem ajR(fu:Nat):P7 (lQ fu):=by
 induction fu with
 |zero=>exact(fun pa0 r H=>by simp only [lQ] at H;cases H)
 |succ fu ih=>exact(fun pa0 r H=>by simp only [lQ] at H;exact agS fu (lQ fu) ih pa0 r H)
theorem u2(fu:Nat):P7 (lQ fu):=(ajR fu)
abbrev t6:=aA→Int→Option Int
def FJ(m:t6):Prop:= ∀(pt:aA) (pleft:Int) (r:Int),m pt pleft=some r→b4 Tryz.prog 289 [(aA.pv pt),pI pleft] (pI r:PV)
def agG(fu:Nat)(r_sl4Left:t6)(pt:aA)(pleft:Int):Nat→Int→Option (LR Int Int):=
 fun i1 v2=>sw (decide (v2≥0))
 (bd (r_sl4Left (aW pt.gArgs i1) v2) (fun x7=>
 some (.next x7)))
 (some (.brk v2))
def agH(fu:Nat)(r_sl4Left:t6)(pt:aA)(pleft:Int):Option (Int⊕Int):=
 loopN (agG fu r_sl4Left pt pleft) (pt.gArgs.length-0) 0 (aR (pleft-1))
def NL(fu:Nat)(r_sl4Left:t6)(pt:aA)(pleft:Int):Option Int:=
 so (agH fu r_sl4Left pt pleft) (fun v2=>
 some v2)
theorem ZC(fu:Nat)(r_sl4Left:t6)(h_sl4Left:FJ r_sl4Left):FJ (NL fu r_sl4Left):=by
 intro pt pleft r H
 have H:=eF H
 refine qI Tryz.func289 (fun C hC=>?_)
 refine qS (qR (q1 (jP (dU pt)) (q1 aE (qN (qS (qR (q1 aE (q1 AY (q1 aE (qN ?_))))))))))
 iterate 2 refine qS ?_
 refine qR (q1 aE (qN ?_))
 refine aQ.fact (cE 0 2 rfl rfl rfl (aA.trs_len _)) (fun hl3=>?_)
 refine b9 (σ:=Int) (fun i1 v2=>⟨[(1,pI v2),(2,.ptr 0 0),(4,pI 0),(5,pN i1)],⟨[some ⟨35,dU pt⟩],[]⟩⟩) (fun v2=>⟨[(1,pI v2),(4,pI 0)],⟨[some ⟨35,dU pt⟩],[]⟩⟩) (f8 H) ?_ ?_
 ·rintro i1 v2 H
  iterate 2 refine qS ?_
  refine qR (q1 aE (q1 (a6 eZ) (q1 (bD kT) (q1 (eB c8 (aA.trs_len _)) (q1 gP (q1 aE ?_))))))
  refine AL.splitB 13 rfl (fun g4=>?_) (fun g4=>?_)
  ·have g4l:=tO g4
   have H:=lnT g4l H
   have g4n:=a8 g4
   refine qg g4 aE (qg g4 TX (q1 (bS g4) (qN ?_)))
   refine bA H (fun h5 H=>?_) (fun h5 H=>?_)
   ·refine aQ.skip (qS (aQ.block (qR (q1 (a6 eZ) (q1 (bD kT) (q1 aE (q1 (gV g4n c8) (q1 (jW (aA.cs (aW pt.gArgs i1)) bZ) (q1 aE (bN H fun x7 z6 H=>(q1 (bG Tryz.func289 (h_sl4Left (aW pt.gArgs i1) v2 _ z6)) (q1 aE (qN ?_)))))))))))))
    refine qR (q1 aE (q1 (aX.addI rfl rfl rfl rfl (c:=((i1+1:Nat):Int)) (by omega) (by omega)) (q1 aE (qN ?_))))
    exact iK g4l ⟨_,(aZ H:),b0⟩
   refine aQ.exit ?_;exact lpB ⟨_,(aZ H:),b0⟩
  have H:=lnE (tN g4) H
  iterate 2 refine qk g4 ?_
  refine q1 (b6 g4) (qN (kJ rfl (aQ.exit ?_)))
  exact j0 ⟨_,H,b0⟩
 rintro v2 H
 refine qS (qR ?_)
 iterate 2 refine q1 aE ?_
 refine qN (aQ.ret ?_)
 cases aZ H
 exact bL
def n0:Nat→aA→Int→Option Int
 |0,_,_=>none
 |fu+1,pt,pleft=>NL fu (n0 fu) pt pleft
theorem adB(fu:Nat):FJ (n0 fu):=by
 induction fu with
 |zero=>exact(fun pt pleft r H=>by simp only [n0] at H;cases H)
 |succ fu ih=>exact(fun pt pleft r H=>by simp only [n0] at H;exact ZC fu (n0 fu) ih pt pleft r H)
theorem agJ(fu:Nat):FJ (n0 fu):=(adB fu)
abbrev nA:=aA→Option Int
def wL(m:nA):Prop:= ∀(pt:aA) (r:Int),m pt=some r→b4 Tryz.prog 290 [(aA.pv pt)] (pI r:PV)
def UH(fu:Nat)(r_sTypeDepth:nA)(pt:aA):Nat→Int→Option (LR Int Int):=
 fun i1 v2=>bd (r_sTypeDepth (aW pt.gArgs i1)) (fun x6=>
 bd (K7 fu v2 (aR (1+x6))) (fun x8=>
 some (.next x8)))
def UI(fu:Nat)(r_sTypeDepth:nA)(pt:aA):Option (Int⊕Int):=
 loopN (UH fu r_sTypeDepth pt) (pt.gArgs.length-0) 0 0
def BR(fu:Nat)(r_sTypeDepth:nA)(pt:aA):Option Int:=
 so (UI fu r_sTypeDepth pt) (fun v2=>
 some v2)
theorem PI(fu:Nat)(r_sTypeDepth:nA)(h_sTypeDepth:wL r_sTypeDepth):wL (BR fu r_sTypeDepth):=by
 intro pt r H
 have H:=eF H
 refine qI Tryz.func290 (fun C hC=>?_)
 refine qS (qR (q1 (jP (dU pt)) (q1 aE (qN (qS (qR (q1 aE (qN ?_))))))))
 iterate 2 refine qS ?_
 refine qR (q1 aE (qN ?_))
 refine aQ.fact (cE 0 2 rfl rfl rfl (aA.trs_len _)) (fun hl3=>?_)
 refine b9 (σ:=Int) (fun i1 v2=>⟨[(1,.ptr 0 0),(2,pI 0),(3,pI v2),(4,pN i1)],⟨[some ⟨35,dU pt⟩],[]⟩⟩) (fun v2=>⟨[(2,pI 0),(3,pI v2)],⟨[some ⟨35,dU pt⟩],[]⟩⟩) (f8 H) ?_ ?_
 ·rintro i1 v2 H
  iterate 2 refine qS ?_
  refine qR (q1 aE (q1 (a6 eZ) (q1 (bD kT) (q1 (eB c8 (aA.trs_len _)) (q1 gP (qN ?_))))))
  refine dT H (fun h4 h4l H=>?_) (fun h4 H=>?_)
  ·have h4n:=a8 h4
   refine aQ.skip (qS (aQ.block (qR (q1 aE (q1 (a6 eZ) (q1 (bD kT) (q1 aE (q1 (gV h4n c8) (q1 (jW (aA.cs (aW pt.gArgs i1)) bZ) (bN H fun x6 z5 H=>(q1 (bG Tryz.func290 (h_sTypeDepth (aW pt.gArgs i1) _ z5)) (q1 RJ (bN H fun x8 z7 H=>?_)))))))))))))
   refine q1 (bG Tryz.func242 (VV fu v2 (aR (1+x6)) _ z7)) (q1 aE (qN (qR (q1 aE (q1 (aX.addI rfl rfl rfl rfl (c:=((i1+1:Nat):Int)) (by omega) (by omega)) (q1 aE (qN ?_)))))))
   exact iK h4l ⟨_,(aZ H:),b0⟩
  refine aQ.exit ?_;exact j0 ⟨_,H,b0⟩
 rintro v2 H
 refine qS (qR ?_)
 iterate 2 refine q1 aE ?_
 refine qN (aQ.ret ?_)
 cases aZ H
 exact bL
def jB:Nat→aA→Option Int
 |0,_=>none
 |fu+1,pt=>BR fu (jB fu) pt
theorem SF(fu:Nat):wL (jB fu):=by
 induction fu with
 |zero=>exact(fun pt r H=>by simp only [jB] at H;cases H)
 |succ fu ih=>exact(fun pt r H=>by simp only [jB] at H;exact PI fu (jB fu) ih pt r H)
theorem UK(fu:Nat):wL (jB fu):=(SF fu)
def ajK(m:ByteArray→Option Bool):Prop:= ∀(ps:ByteArray) (r:Bool),m ps=some r→b4 Tryz.prog 153 [pS ps] (pB r:PV)
def FH(fu:Nat)(ps:ByteArray):Option Bool:=
 sw (decide (ps=fW))
 (some true)
 (some (decide (ps=fN)))
theorem S3(fu:Nat):ajK (FH fu):=by
 intro ps r H
 have H:=eF H
 refine qI Tryz.func153 (fun C hC=>?_)
 refine qS (qR (q1 aE (qN (qS (qR (q1 aE (q1 E6 (q1 aE ?_))))))))
 refine dY 5 H (fun g1 H=>?_) fun g1 H=>?_
 ·refine qk g1 (qk g1 (q1 (bS g1) (q1 aE (qN (aQ.ret ?_)))))
  cases aZ H
  exact bL
 refine qg g1 aE (qg g1 E6 (q1 (b6 g1) (q1 aE (qN (aQ.ret ?_)))))
 cases aZ H
 exact bL
abbrev p6:=aA→Option Bool
def FI(m:p6):Prop:= ∀(pa0:aA) (r:Bool),m pa0=some r→b4 Tryz.prog 291 [(aA.pv pa0)] (pB r:PV)
def agB(fu:Nat)(r_sl4Form:p6)(pa0:aA)(x2:Bool):Option ((Bool⊕Bool)⊕Bool):=
 sw (decide (pa0.gKind=1))
 (some (.inr (decide (pa0.gKind=1))))
 (some (.inr (decide (pa0.gKind=4))))
def agA(fu:Nat)(r_sl4Form:p6)(pa0:aA)(x2:Bool):Option (Bool⊕Bool):=
 so (agB fu r_sl4Form pa0 x2) (fun v4=>
 sw (v4)
 (sw (x2)
 (some (.inr (decide ((pa0.gArgs.length:Int)=0))))
 (some (.inr false)))
 (sw (decide (pa0.gKind=3))
 (sw (x2)
 (some (.inr (decide ((pa0.gArgs.length:Int)=1))))
 (some (.inr false)))
 (sw (decide (pa0.gKind=2))
 (sw (x2)
 (sw (decide ((pa0.gArgs.length:Int)≤3))
 (some (.inr true))
 (bd (FH fu pa0.gName) (fun x14=>
 sw (x14)
 (some (.inr (decide ((pa0.gArgs.length:Int)=0))))
 (some (.inr false)))))
 (bd (FH fu pa0.gName) (fun x17=>
 sw (x17)
 (some (.inr (decide ((pa0.gArgs.length:Int)=0))))
 (some (.inr false)))))
 (some (.inl false)))))
def agC(fu:Nat)(r_sl4Form:p6)(pa0:aA)(x2 v3:Bool):Nat→Bool→Option (LR Bool Bool):=
 fun i19 v20=>sw (v20)
 (bd (r_sl4Form (aW pa0.gArgs i19)) (fun x25=>
 some (.next x25)))
 (some (.next false))
def agD(fu:Nat)(r_sl4Form:p6)(pa0:aA)(x2 v3:Bool):Option (Bool⊕Bool):=
 loopN (agC fu r_sl4Form pa0 x2 v3) (pa0.gArgs.length-0) 0 v3
def NK(fu:Nat)(r_sl4Form:p6)(pa0:aA):Option Bool:=
 bd (dH fu pa0.gName) (fun x2=>
 so (agA fu r_sl4Form pa0 x2) (fun v3=>
 so (agD fu r_sl4Form pa0 x2 v3) (fun v20=>
 some v20)))
theorem ZB(fu:Nat)(r_sl4Form:p6)(h_sl4Form:FI r_sl4Form):FI (NK fu r_sl4Form):=by
 intro pa0 r H
 have H:=eF H
 refine qI Tryz.func291 (fun C hC=>?_)
 refine qS (qR (q1 (jP (dU pa0)) (q1 aE (qN (qS (qR (q1 (a6 gR) (q1 (bD eE) (bN H fun x2 z1 H=>(q1 (bG Tryz.func235 (dQ fu pa0.gName _ z1)) (q1 aE (qN (qS ?_)))))))))))))
 refine qD (σ:=Bool) (fun v3=>⟨[(1,.ptr 0 0),(2,pB false),(3,pB v3)],⟨[some ⟨35,dU pa0⟩],[]⟩⟩) (f8 H) (fun H=>?_) ?_
 ·refine qS (qR (q1 (a6 iF) (q1 (bD jN) (qN (aQ.block (qS ?_))))))
  refine qD (σ:=Bool) (fun v4=>⟨[(1,.ptr 0 0),(2,pB false),(3,pB x2),(9,pI pa0.gKind),(10,pB v4)],⟨[some ⟨35,dU pa0⟩],[]⟩⟩) (f8 H) (fun H=>?_) ?_
  ·refine qS (qR (q1 eG (q1 aE (qN ?_))))
   refine bA H (fun h5 H=>?_) (fun h5 H=>?_)
   ·refine aQ.skip ?_;exact dO ⟨_,(aZ H:),b0⟩
   refine qR (q1 eG (q1 aE (qN ?_)))
   exact dO ⟨_,(aZ H:),b0⟩
  rintro v4 H
  refine bA H (fun h6 H=>?_) (fun h6 H=>?_)
  ·refine qR ?_
   iterate 2 refine q1 aE ?_
   refine dY 14 H (fun g7 H=>?_) fun g7 H=>?_
   ·refine qg g7 (a6 eZ) (qg g7 (bD kT) (qg g7 (eB c8 (aA.trs_len _)) (qg g7 eG (q1 (bS g7) (q1 aE (qN ?_))))))
    exact dO ⟨_,(aZ H:),b0⟩
   iterate 4 refine qk g7 ?_
   refine q1 (b6 g7) (q1 aE (qN ?_))
   exact dO ⟨_,(aZ H:),b0⟩
  refine qS (qR (q1 eG (q1 aE (qN ?_))))
  refine bA H (fun h8 H=>?_) (fun h8 H=>?_)
  ·refine qR ?_
   iterate 2 refine q1 aE ?_
   refine dY 23 H (fun g9 H=>?_) fun g9 H=>?_
   ·refine qg g9 (a6 eZ) (qg g9 (bD kT) (qg g9 (eB c8 (aA.trs_len _)) (qg g9 eG (q1 (bS g9) (q1 aE (qN ?_))))))
    exact dO ⟨_,(aZ H:),b0⟩
   iterate 4 refine qk g9 ?_
   refine q1 (b6 g9) (q1 aE (qN ?_))
   exact dO ⟨_,(aZ H:),b0⟩
  refine qS (qR (q1 eG (q1 aE (qN ?_))))
  refine bA H (fun h10 H=>?_) (fun h10 H=>?_)
  ·refine qR ?_
   iterate 2 refine q1 aE ?_
   refine dY 32 H (fun g11 H=>?_) fun g11 H=>?_
   ·refine qg g11 (a6 eZ) (qg g11 (bD kT) (qg g11 (eB c8 (aA.trs_len _)) (qg g11 rLe (q1 (bS g11) (q1 aE ?_)))))
    refine dY 38 H (fun g12 H=>?_) fun g12 H=>?_
    ·refine qk g12 ?_
     iterate 3 refine qk g12 ?_
     iterate 4 refine KM ?_
     refine qk g12 (q1 (bS g12) (q1 aE (qN ?_)))
     exact dO ⟨_,(aZ H:),b0⟩
    refine qg g12 (a6 gR) (qg g12 (bD eE) (bN H fun x14 z13 H=>(qg g12 (bG Tryz.func153 (S3 fu pa0.gName _ z13)) (qg g12 aE ?_))))
    refine dY 42 H (fun g15 H=>?_) fun g15 H=>?_
    ·refine qg g15 (a6 eZ) (qg g15 (bD kT) (qg g15 (eB c8 (aA.trs_len _)) (qg g15 eG (qg g12 (bS g15) (q1 (b6 g12) (q1 aE (qN ?_)))))))
     exact dO ⟨_,(aZ H:),b0⟩
    iterate 4 refine qk g15 ?_
    refine qg g12 (b6 g15) (q1 (b6 g12) (q1 aE (qN ?_)))
    exact dO ⟨_,(aZ H:),b0⟩
   iterate 4 refine qk g11 ?_
   refine q1 (b6 g11) (q1 aE (qg rfl (a6 gR) (qg rfl (bD eE) (bN H fun x17 z16 H=>(qg rfl (bG Tryz.func153 (S3 fu pa0.gName _ z16)) (qg rfl aE ?_))))))
   refine dY 42 H (fun g18 H=>?_) fun g18 H=>?_
   ·refine qg g18 (a6 eZ) (qg g18 (bD kT) (qg g18 (eB c8 (aA.trs_len _)) (qg g18 eG (qg rfl (bS g18) (q1 (b6 rfl) (q1 aE (qN ?_)))))))
    exact dO ⟨_,(aZ H:),b0⟩
   iterate 4 refine qk g18 ?_
   refine qg rfl (b6 g18) (q1 (b6 rfl) (q1 aE (qN ?_)))
   exact dO ⟨_,(aZ H:),b0⟩
  refine qS (qR (q1 aE (qN (aQ.ret ?_))))
  obtain rfl:_=r:=(CY (aZ H):)
  exact bL
 rintro v3 H
 iterate 2 refine qS ?_
 refine qR (q1 aE (qN ?_))
 refine aQ.fact (cE 0 2 rfl rfl rfl (aA.trs_len _)) (fun hl21=>?_)
 refine b9 (σ:=Bool) (fun i19 v20=>⟨[(1,.ptr 0 0),(2,pB false),(3,pB v20),(4,pN i19)],⟨[some ⟨35,dU pa0⟩],[]⟩⟩) (fun v20=>⟨[(2,pB false),(3,pB v20)],⟨[some ⟨35,dU pa0⟩],[]⟩⟩) (f8 H) ?_ ?_
 ·rintro i19 v20 H
  iterate 2 refine qS ?_
  refine qR (q1 aE (q1 (a6 eZ) (q1 (bD kT) (q1 (eB c8 (aA.trs_len _)) (q1 gP (qN ?_))))))
  refine dT H (fun h22 h22l H=>?_) (fun h22 H=>?_)
  ·have h22n:=a8 h22
   refine aQ.skip (qS (aQ.block (qR ?_)))
   iterate 2 refine q1 aE ?_
   refine dY 57 H (fun g23 H=>?_) fun g23 H=>?_
   ·refine qg g23 (a6 eZ) (qg g23 (bD kT) (qg g23 aE (qg g23 (gV h22n c8) (qg g23 (jW (aA.cs (aW pa0.gArgs i19)) bZ) (bN H fun x25 z24 H=>(qg g23 (bG Tryz.func291 (h_sl4Form (aW pa0.gArgs i19) _ z24)) (q1 (bS g23) (q1 aE (qN (qR (q1 aE (q1 (aX.addI rfl rfl rfl rfl (c:=((i19+1:Nat):Int)) (by omega) (by omega)) (q1 aE ?_)))))))))))))
    refine qN ?_;exact iK h22l ⟨_,(aZ H:),b0⟩
   iterate 6 refine qk g23 ?_
   refine q1 (b6 g23) (q1 aE (qN (qR (q1 aE (q1 (aX.addI rfl rfl rfl rfl (c:=((i19+1:Nat):Int)) (by omega) (by omega)) (q1 aE (qN ?_)))))))
   exact iK h22l ⟨_,(aZ H:),b0⟩
  refine aQ.exit ?_;exact j0 ⟨_,H,b0⟩
 rintro v20 H
 refine qS (qR ?_)
 iterate 2 refine q1 aE ?_
 refine qN (aQ.ret ?_)
 cases aZ H
 exact bL
def nZ:Nat→aA→Option Bool
 |0,_=>none
 |fu+1,pa0=>NK fu (nZ fu) pa0
theorem adA(fu:Nat):FI (nZ fu):=by
 induction fu with
 |zero=>exact(fun pa0 r H=>by simp only [nZ] at H;cases H)
 |succ fu ih=>exact(fun pa0 r H=>by simp only [nZ] at H;exact ZB fu (nZ fu) ih pa0 r H)
theorem agF(fu:Nat):FI (nZ fu):=(adA fu)
def R4(m:aA→Option Bool):Prop:= ∀(pt:aA) (r:Bool),m pt=some r→b4 Tryz.prog 284 [(aA.pv pt)] (pB r:PV)
def jJ(fu:Nat)(pt:aA):Option Bool:=
 bd (n0 fu pt 60) (fun x2=>
 sw (decide (x2≥0))
 (bd (jB fu pt) (fun x5=>
 sw (decide (x5≤6))
 (bd (nZ fu pt) (fun x8=>
 some x8))
 (some false)))
 (some false))
theorem k9(fu:Nat):R4 (jJ fu):=by
 intro pt r H
 have H:=eF H
 refine qI Tryz.func284 (fun C hC=>?_)
 refine qS (qR (q1 (jP (dU pt)) (q1 aE (qN (qS (qR (q1 (cU [pI pt.gKind,pS pt.gName,a3 pt.gArgs] bZ) (bN H fun x2 z1 H=>(q1 (bG Tryz.func289 (agJ fu pt 60 _ z1)) (q1 TX (q1 aE ?_)))))))))))
 refine dY 6 H (fun g3 H=>?_) fun g3 H=>?_
 ·refine qg g3 (cU [pI pt.gKind,pS pt.gName,a3 pt.gArgs] bZ) (bN H fun x5 z4 H=>(qg g3 (bG Tryz.func290 (UK fu pt _ z4)) (qg g3 rLe (q1 (bS g3) (q1 aE ?_)))))
  refine dY 11 H (fun g6 H=>?_) fun g6 H=>?_
  ·refine qg g6 (cU [pI pt.gKind,pS pt.gName,a3 pt.gArgs] bZ) (bN H fun x8 z7 H=>(qg g6 (bG Tryz.func291 (agF fu pt _ z7)) (q1 (bS g6) (q1 aE (qN (aQ.ret ?_))))))
   cases aZ H
   exact bL
  iterate 2 refine qk g6 ?_
  refine q1 (b6 g6) (q1 aE (qN (aQ.ret ?_)))
  cases aZ H
  exact bL
 iterate 3 refine qk g3 ?_
 refine q1 (b6 g3) (q1 aE ?_)
 iterate 2 refine qk rfl ?_
 refine q1 (b6 rfl) (q1 aE (qN (aQ.ret ?_)))
 cases aZ H
 exact bL
abbrev jA:=aA→aA→Option Bool
abbrev n3:=(List aA)→(List aA)→Option Bool
def sW(m:jA):Prop:= ∀(pa:aA) (pb:aA) (r:Bool),m pa pb=some r→b4 Tryz.prog 16 [(aA.pv pa),(aA.pv pb)] (pB r:PV)
def FL(m:n3):Prop:= ∀(pa:List aA) (pb:List aA) (r:Bool),m pa pb=some r→b4 Tryz.prog 66 [a3 pa,a3 pb] (pB r:PV)
def wK(fu:Nat)(r_sEqualType:jA)(r_sl4Same:n3)(pa pb:aA):Option Bool:=
 sw (decide (pa.gKind=pb.gKind))
 (sw (decide (pa.gName=pb.gName))
 (bd (r_sl4Same pa.gArgs pb.gArgs) (fun x4=>
 some x4))
 (some false))
 (some false)
theorem O2(fu:Nat)(r_sEqualType:jA)(r_sl4Same:n3)(h_sEqualType:sW r_sEqualType)(h_sl4Same:FL r_sl4Same):sW (wK fu r_sEqualType r_sl4Same):=by
 intro pa pb r H
 have H:=eF H
 refine qI Tryz.func16 (fun C hC=>?_)
 refine qS (qR (q1 (jP (dU pa)) (q1 (jP (dU pb)) (q1 aE (qN (qS (qR (q1 (a6 iF) (q1 (bD jN) (q1 (a6 iF) (q1 (bD jN) (q1 eG (q1 aE ?_)))))))))))))
 refine dY 10 H (fun g1 H=>?_) fun g1 H=>?_
 ·refine qg g1 (a6 gR) (qg g1 (bD eE) (qg g1 (a6 gR) (qg g1 (bD eE) (qg g1 E6 (q1 (bS g1) (q1 aE ?_))))))
  refine dY 17 H (fun g2 H=>?_) fun g2 H=>?_
  ·refine qg g2 (a6 eZ) (qg g2 (bD kT) (qg g2 (a6 eZ) (qg g2 (bD kT) (bN H fun x4 z3 H=>(qg g2 (bG Tryz.func66 (h_sl4Same pa.gArgs pb.gArgs _ z3)) (q1 (bS g2) (q1 aE (qN (aQ.ret ?_)))))))))
   cases aZ H
   exact bL
  iterate 5 refine qk g2 ?_
  refine q1 (b6 g2) (q1 aE (qN (aQ.ret ?_)))
  cases aZ H
  exact bL
 iterate 5 refine qk g1 ?_
 refine q1 (b6 g1) (q1 aE ?_)
 iterate 5 refine qk rfl ?_
 refine q1 (b6 rfl) (q1 aE (qN (aQ.ret ?_)))
 cases aZ H
 exact bL
def JF(fu:Nat)(r_sEqualType:jA)(r_sl4Same:n3)(pa pb:List aA):Nat→Unit→Option (LR Unit Bool):=
 fun i2 _=>gd (i2<(pb).length)
 (bd (r_sEqualType (aW pa i2) (aW pb i2)) (fun x7=>
 sw (!(x7))
 (some (.ret false))
 (some (.next ()))))
def JG(fu:Nat)(r_sEqualType:jA)(r_sl4Same:n3)(pa pb:List aA):Option (Bool⊕Unit):=
 loopN (JF fu r_sEqualType r_sl4Same pa pb) (pa.length-0) 0 ()
def AW(fu:Nat)(r_sEqualType:jA)(r_sl4Same:n3)(pa pb:List aA):Option Bool:=
 sw (!decide ((pa.length:Int)=(pb.length:Int)))
 (some false)
 (so (JG fu r_sEqualType r_sl4Same pa pb) (fun _=>
 some true))
theorem ZD(fu:Nat)(r_sEqualType:jA)(r_sl4Same:n3)(h_sEqualType:sW r_sEqualType)(h_sl4Same:FL r_sl4Same):FL (AW fu r_sEqualType r_sl4Same):=by
 intro pa pb r H
 have H:=eF H
 refine qI Tryz.func66 (fun C hC=>?_)
 refine qS (qR (q1 aE (qN ?_)))
 iterate 2 refine qS ?_
 refine qR (q1 aE (q1 (eB c8 (aA.trs_len _)) (q1 aE (q1 (eB c8 (aA.trs_len _)) (q1 P5 (qN ?_))))))
 refine bA H (fun h1 H=>?_) (fun h1 H=>?_)
 ·refine qS (qR (q1 aE (qN (aQ.ret ?_))))
  cases aZ H
  exact bL
 refine aQ.skip ?_
 iterate 2 refine qS ?_
 refine qR (q1 aE (qN ?_))
 refine j8 0 (aA.trs_len _) (fun hl3=>?_)
 refine b9 (σ:=Unit) (fun i2 _=>⟨[(0,a3 pa),(1,a3 pb),(4,pB false),(5,pN i2)],⟨[],[]⟩⟩) (fun _=>⟨[(4,pB false)],⟨[],[]⟩⟩) (f8 H) ?_ ?_
 ·rintro i2 ⟨⟩ H
  iterate 2 refine qS ?_
  refine qR ?_
  iterate 2 refine q1 aE ?_
  refine q1 (eB c8 (aA.trs_len _)) (q1 gP (qN ?_))
  refine dT H (fun h4 h4l H=>?_) (fun h4 H=>?_)
  ·have h4n:=a8 h4
   refine aQ.skip (qS (aQ.block (qS (cX H fun z5 H=>(bN H fun x7 z6 H=>(dW (dI [0] aE (dI [5] aE (dI [17,18] (gV h4n c8) (dI [19] (jW (aA.cs (aW pa i2)) bZ) (dI [1] aE (dI [5] aE (dI [21,22] (gV z5 c8) ?_)))))))))))))
   refine dI [23] (jW (aA.cs (aW pb i2)) bZ) (dI [20,24] (bG Tryz.func16 (h_sEqualType (aW pa i2) (aW pb i2) _ z6)) (dI [25] gW (dN ?_)))
   refine bA H (fun h8 H=>?_) (fun h8 H=>?_)
   ·refine qS (qR (q1 aE (qN (aQ.ret ?_))))
    obtain rfl:_=r:=(p8 (aZ H):)
    exact bL
   refine aQ.skip (qR (q1 aE (q1 (aX.addI rfl rfl rfl rfl (c:=((i2+1:Nat):Int)) (by omega) (by omega)) (q1 aE (qN ?_)))))
   exact iK h4l ⟨_,(aZ H:),b0⟩
  refine aQ.exit ?_;exact j0 ⟨_,H,b0⟩
 rintro⟨⟩ H
 refine qS (qR (q1 aE (qN (aQ.ret ?_))))
 cases aZ H
 exact bL
mutual
def e8:Nat→aA→aA→Option Bool
 |0,_,_=>none
 |fu+1,pa,pb=>wK fu (e8 fu) (jR fu) pa pb
def jR:Nat→(List aA)→(List aA)→Option Bool
 |0,_,_=>none
 |fu+1,pa,pb=>AW fu (e8 fu) (jR fu) pa pb
end
theorem RY(fu:Nat):sW (e8 fu)∧FL (jR fu):=by
 induction fu with
 |zero=>exact⟨(fun pa pb r H=>by simp only [e8] at H;cases H),(fun pa pb r H=>by simp only [jR] at H;cases H)⟩
 |succ fu ih=>exact⟨(fun pa pb r H=>by simp only [e8] at H;exact O2 fu (e8 fu) (jR fu) ih.1 ih.2 pa pb r H),(fun pa pb r H=>by simp only [jR] at H;exact ZD fu (e8 fu) (jR fu) ih.1 ih.2 pa pb r H)⟩
theorem GW(fu:Nat):sW (e8 fu):=(RY fu).1
abbrev sD:=aA→(List ByteArray)→Option ((List ByteArray))
def FM(m:sD):Prop:= ∀(pt:aA) (pout:List ByteArray) (r:(List ByteArray)),m pt pout=some r→cP Tryz.prog 176 [(aA.pv pt),aS pout 0] ⟨[],[⟨9,1,a4 (pout),false⟩]⟩ (fun q t=>q=(aS r 0:PV)∧t=⟨[],[⟨9,1,a4 (r),false⟩]⟩)
def agN(fu:Nat)(r_sl4Vars:sD)(pt:aA)(pout:List ByteArray):Option (((List ByteArray))⊕((List ByteArray))):=
 sw (decide (pt.gKind=1))
 (bd (jZ fu pout pt.gName) (fun x5=>
 sw (!(x5))
 (gd ((pout).length+(([pt.gName]:List ByteArray)).length≤68719476736)
 (some (.inr (pout++([pt.gName]:List ByteArray)))))
 (some (.inr pout))))
 (some (.inr pout))
def agO(fu:Nat)(r_sl4Vars:sD)(pt:aA)(pout v2:List ByteArray):Nat→((List ByteArray))→Option (LR ((List ByteArray)) ((List ByteArray))):=
 fun i8 v10=>bd (r_sl4Vars (aW pt.gArgs i8) v10) (fun x14=>
 some (.next x14))
def agP(fu:Nat)(r_sl4Vars:sD)(pt:aA)(pout v2:List ByteArray):Option (((List ByteArray))⊕((List ByteArray))):=
 loopN (agO fu r_sl4Vars pt pout v2) (pt.gArgs.length-0) 0 v2
def NM(fu:Nat)(r_sl4Vars:sD)(pt:aA)(pout:List ByteArray):Option ((List ByteArray)):=
 so (agN fu r_sl4Vars pt pout) (fun v2=>
 so (agP fu r_sl4Vars pt pout v2) (fun v10=>
 some v10))
theorem ZF(fu:Nat)(r_sl4Vars:sD)(h_sl4Vars:FM r_sl4Vars):FM (NM fu r_sl4Vars):=by
 intro pt pout r H
 have H:=eF H
 refine qI Tryz.func176 (fun C hC=>?_)
 refine qS (qR (q1 (jP (dU pt)) (q1 aE (qN (qS ?_)))))
 refine qD (σ:=(List ByteArray)) (fun v2=>⟨[(1,aS v2 0),(2,.ptr 0 0),(4,.nil)],⟨[some ⟨35,dU pt⟩],[⟨9,1,a4 (v2),false⟩]⟩⟩) (f8 H) (fun H=>?_) ?_
 ·refine qS (qR (q1 (a6 iF) (q1 (bD jN) (q1 eG (q1 aE ?_)))))
  refine dY 9 H (fun g3 H=>?_) fun g3 H=>?_
  ·refine qg g3 aE (qg g3 (a6 gR) (qg g3 (bD eE) (bN H fun x5 z4 H=>(qg g3 (bG Tryz.func125 (lA fu pout pt.gName _ z4)) (qg g3 gW (q1 (bS g3) (qN ?_)))))))
   refine bA H (fun h6 H=>?_) (fun h6 H=>?_)
   ·refine qR (q1 aE (q1 (a6 gR) (q1 (bD eE) (q1 (hH ([pt.gName]:List ByteArray) bU kG) (cX H fun z7 H=>(q1 (kX z7 bU qH) (q1 aE (qN ?_))))))))
    exact dO ⟨_,(aZ H:),b0⟩
   refine aQ.skip ?_;exact dO ⟨_,(aZ H:),b0⟩
  iterate 5 refine qk g3 ?_
  refine q1 (b6 g3) (qN (kJ rfl (aQ.skip ?_)))
  exact dO ⟨_,(aZ H:),b0⟩
 rintro v2 H
 iterate 2 refine qS ?_
 refine qR (q1 aE (qN ?_))
 refine aQ.fact (cE 0 2 rfl rfl rfl (aA.trs_len _)) (fun hl11=>?_)
 refine b9 (σ:=(List ByteArray)) (fun i8 v10=>⟨[(1,aS v10 0),(2,.ptr 0 0),(4,.nil),(5,pN i8)],⟨[some ⟨35,dU pt⟩],[⟨9,1,a4 (v10),false⟩]⟩⟩) (fun v10=>⟨[(1,aS v10 0),(4,.nil)],⟨[some ⟨35,dU pt⟩],[⟨9,1,a4 (v10),false⟩]⟩⟩) (f8 H) ?_ ?_
 ·rintro i8 v10 H
  iterate 2 refine qS ?_
  refine qR (q1 aE (q1 (a6 eZ) (q1 (bD kT) (q1 (eB c8 (aA.trs_len _)) (q1 gP (qN ?_))))))
  refine dT H (fun h12 h12l H=>?_) (fun h12 H=>?_)
  ·have h12n:=a8 h12
   refine aQ.skip (qS (aQ.block (qR (q1 (a6 eZ) (q1 (bD kT) (q1 aE (q1 (gV h12n c8) (q1 (jW (aA.cs (aW pt.gArgs i8)) bZ) (q1 aE (bN H fun x14 z13 H=>(q1 (fM [] [0] Tryz.func176 (h_sl4Vars (aW pt.gArgs i8) v10 _ z13)) (q1 aE (qN ?_)))))))))))))
   refine qR (q1 aE (q1 (aX.addI rfl rfl rfl rfl (c:=((i8+1:Nat):Int)) (by omega) (by omega)) (q1 aE (qN ?_))))
   exact iK h12l ⟨_,(aZ H:),b0⟩
  refine aQ.exit ?_;exact j0 ⟨_,H,b0⟩
 rintro v10 H
 refine qS (qR ?_)
 iterate 2 refine q1 aE ?_
 refine qN (aQ.ret ?_)
 cases aZ H
 exact bL
def n4:Nat→aA→(List ByteArray)→Option ((List ByteArray))
 |0,_,_=>none
 |fu+1,pt,pout=>NM fu (n4 fu) pt pout
theorem adC(fu:Nat):FM (n4 fu):=by
 induction fu with
 |zero=>exact(fun pt pout r H=>by simp only [n4] at H;cases H)
 |succ fu ih=>exact(fun pt pout r H=>by simp only [n4] at H;exact ZF fu (n4 fu) ih pt pout r H)
theorem agR(fu:Nat):FM (n4 fu):=(adC fu)
def M5(m:aA→Option ((List ByteArray))):Prop:= ∀(pt:aA) (r:(List ByteArray)),m pt=some r→b4 Tryz.prog 138 [(aA.pv pt)] (rS r:PV)
def tU(fu:Nat)(pt:aA):Option ((List ByteArray)):=
 bd (n4 fu pt ([])) (fun x2=>
 some x2)
theorem KZ(fu:Nat):M5 (tU fu):=by
 intro pt r H
 have H:=eF H
 refine qI Tryz.func138 (fun C hC=>?_)
 refine qS (qR (q1 (jP (dU pt)) (q1 aE (qN (qS (qR (q1 (cU [pI pt.gKind,pS pt.gName,a3 pt.gArgs] bZ) (q1 (qZ ([]:List ByteArray) bU kG) (bN H fun x2 z1 H=>(q1 (fM [] [0] Tryz.func176 (agR fu pt ([]) _ z1)) (q1 aE (qN (aQ.ret ?_)))))))))))))
 cases aZ H
 exact bL
abbrev iR:=aA→Option Bool
def pV(m:iR):Prop:= ∀(pt:aA) (r:Bool),m pt=some r→b4 Tryz.prog 139 [(aA.pv pt)] (pB r:PV)
def KT(fu:Nat)(r_sHasProjection:iR)(pt:aA):Nat→Unit→Option (LR Unit Bool):=
 fun i1 _=>bd (r_sHasProjection (aW pt.gArgs i1)) (fun x5=>
 sw (x5)
 (some (.ret true))
 (some (.next ())))
def KU(fu:Nat)(r_sHasProjection:iR)(pt:aA):Option (Bool⊕Unit):=
 loopN (KT fu r_sHasProjection pt) (pt.gArgs.length-0) 0 ()
def tT(fu:Nat)(r_sHasProjection:iR)(pt:aA):Option Bool:=
 so (KU fu r_sHasProjection pt) (fun _=>
 some (decide (pt.gKind=3)))
theorem FZ(fu:Nat)(r_sHasProjection:iR)(h_sHasProjection:pV r_sHasProjection):pV (tT fu r_sHasProjection):=by
 intro pt r H
 have H:=eF H
 refine qI Tryz.func139 (fun C hC=>?_)
 refine qS (qR (q1 (jP (dU pt)) (q1 aE (qN ?_))))
 iterate 2 refine qS ?_
 refine qR (q1 aE (qN ?_))
 refine aQ.fact (cE 0 2 rfl rfl rfl (aA.trs_len _)) (fun hl2=>?_)
 refine b9 (σ:=Unit) (fun i1 _=>⟨[(1,.ptr 0 0),(2,pB false),(3,pN i1)],⟨[some ⟨35,dU pt⟩],[]⟩⟩) (fun _=>⟨[(1,.ptr 0 0),(2,pB false)],⟨[some ⟨35,dU pt⟩],[]⟩⟩) (f8 H) ?_ ?_
 ·rintro i1 ⟨⟩ H
  iterate 2 refine qS ?_
  refine qR (q1 aE (q1 (a6 eZ) (q1 (bD kT) (q1 (eB c8 (aA.trs_len _)) (q1 gP (qN ?_))))))
  refine dT H (fun h3 h3l H=>?_) (fun h3 H=>?_)
  ·have h3n:=a8 h3
   refine aQ.skip (qS (aQ.block (qS (qR (q1 (a6 eZ) (q1 (bD kT) (q1 aE (q1 (gV h3n c8) (q1 (jW (aA.cs (aW pt.gArgs i1)) bZ) (bN H fun x5 z4 H=>(q1 (bG Tryz.func139 (h_sHasProjection (aW pt.gArgs i1) _ z4)) (qN ?_))))))))))))
   refine bA H (fun h6 H=>?_) (fun h6 H=>?_)
   ·refine qS (qR (q1 aE (qN (aQ.ret ?_))))
    obtain rfl:_=r:=(p8 (aZ H):)
    exact bL
   refine aQ.skip (qR (q1 aE (q1 (aX.addI rfl rfl rfl rfl (c:=((i1+1:Nat):Int)) (by omega) (by omega)) (q1 aE (qN ?_)))))
   exact iK h3l ⟨_,(aZ H:),b0⟩
  refine aQ.exit ?_;exact j0 ⟨_,H,b0⟩
 rintro⟨⟩ H
 refine qS (qR (q1 (a6 iF) (q1 (bD jN) (q1 eG (q1 aE (qN (aQ.ret ?_)))))))
 cases aZ H
 exact bL
def eR:Nat→aA→Option Bool
 |0,_=>none
 |fu+1,pt=>tT fu (eR fu) pt
theorem IM(fu:Nat):pV (eR fu):=by
 induction fu with
 |zero=>exact(fun pt r H=>by simp only [eR] at H;cases H)
 |succ fu ih=>exact(fun pt r H=>by simp only [eR] at H;exact FZ fu (eR fu) ih pt r H)
theorem yN(fu:Nat):pV (eR fu):=(IM fu)
abbrev eW:=aA→ByteArray→Option Int
def lK(m:eW):Prop:= ∀(pt:aA) (pv:ByteArray) (r:Int),m pt pv=some r→b4 Tryz.prog 211 [(aA.pv pt),pS pv] (pI r:PV)
def CT(fu:Nat)(r_sCountTypeVariable:eW)(pt:aA)(pv:ByteArray):Option (Int⊕Int):=
 sw (decide (pt.gKind=1))
 (sw (decide (pt.gName=pv))
 (some (.inr 1))
 (some (.inr 0)))
 (some (.inr 0))
def CU(fu:Nat)(r_sCountTypeVariable:eW)(pt:aA)(pv:ByteArray)(v1:Int):Nat→Int→Option (LR Int Int):=
 fun i4 v5=>bd (r_sCountTypeVariable (aW pt.gArgs i4) pv) (fun x9=>
 some (.next (aR (v5+x9))))
def CV(fu:Nat)(r_sCountTypeVariable:eW)(pt:aA)(pv:ByteArray)(v1:Int):Option (Int⊕Int):=
 loopN (CU fu r_sCountTypeVariable pt pv v1) (pt.gArgs.length-0) 0 v1
def pF(fu:Nat)(r_sCountTypeVariable:eW)(pt:aA)(pv:ByteArray):Option Int:=
 so (CT fu r_sCountTypeVariable pt pv) (fun v1=>
 so (CV fu r_sCountTypeVariable pt pv v1) (fun v5=>
 some v5))
theorem AN(fu:Nat)(r_sCountTypeVariable:eW)(h_sCountTypeVariable:lK r_sCountTypeVariable):lK (pF fu r_sCountTypeVariable):=by
 intro pt pv r H
 have H:=eF H
 refine qI Tryz.func211 (fun C hC=>?_)
 refine qS (qR (q1 (jP (dU pt)) (q1 aE (qN (qS (qR (q1 aE (qN (qS ?_)))))))))
 refine qD (σ:=Int) (fun v1=>⟨[(1,pS pv),(2,.ptr 0 0),(4,pI 0),(5,pI v1)],⟨[some ⟨35,dU pt⟩],[]⟩⟩) (f8 H) (fun H=>?_) ?_
 ·refine qS (qR (q1 (a6 iF) (q1 (bD jN) (q1 eG (q1 aE ?_)))))
  refine dY 10 H (fun g2 H=>?_) fun g2 H=>?_
  ·refine qg g2 (a6 gR) (qg g2 (bD eE) (qg g2 aE (qg g2 E6 (q1 (bS g2) (qN ?_)))))
   refine bA H (fun h3 H=>?_) (fun h3 H=>?_)
   ·refine qR (q1 aE (qN ?_))
    exact dO ⟨_,(aZ H:),b0⟩
   refine aQ.skip ?_;exact dO ⟨_,(aZ H:),b0⟩
  iterate 4 refine qk g2 ?_
  refine q1 (b6 g2) (qN (kJ rfl (aQ.skip ?_)))
  exact dO ⟨_,(aZ H:),b0⟩
 rintro v1 H
 iterate 2 refine qS ?_
 refine qR (q1 aE (qN ?_))
 refine aQ.fact (cE 0 2 rfl rfl rfl (aA.trs_len _)) (fun hl6=>?_)
 refine b9 (σ:=Int) (fun i4 v5=>⟨[(1,pS pv),(2,.ptr 0 0),(4,pI 0),(5,pI v5),(6,pN i4)],⟨[some ⟨35,dU pt⟩],[]⟩⟩) (fun v5=>⟨[(4,pI 0),(5,pI v5)],⟨[some ⟨35,dU pt⟩],[]⟩⟩) (f8 H) ?_ ?_
 ·rintro i4 v5 H
  iterate 2 refine qS ?_
  refine qR (q1 aE (q1 (a6 eZ) (q1 (bD kT) (q1 (eB c8 (aA.trs_len _)) (q1 gP (qN ?_))))))
  refine dT H (fun h7 h7l H=>?_) (fun h7 H=>?_)
  ·have h7n:=a8 h7
   refine aQ.skip (qS (aQ.block (qR (q1 aE (q1 (a6 eZ) (q1 (bD kT) (q1 aE (q1 (gV h7n c8) (q1 (jW (aA.cs (aW pt.gArgs i4)) bZ) (q1 aE (bN H fun x9 z8 H=>(q1 (bG Tryz.func211 (h_sCountTypeVariable (aW pt.gArgs i4) pv _ z8)) (q1 RJ ?_)))))))))))))
   refine q1 aE (qN (qR (q1 aE (q1 (aX.addI rfl rfl rfl rfl (c:=((i4+1:Nat):Int)) (by omega) (by omega)) (q1 aE (qN ?_))))))
   exact iK h7l ⟨_,(aZ H:),b0⟩
  refine aQ.exit ?_;exact j0 ⟨_,H,b0⟩
 rintro v5 H
 refine qS (qR ?_)
 iterate 2 refine q1 aE ?_
 refine qN (aQ.ret ?_)
 cases aZ H
 exact bL
def dL:Nat→aA→ByteArray→Option Int
 |0,_,_=>none
 |fu+1,pt,pv=>pF fu (dL fu) pt pv
theorem BO(fu:Nat):lK (dL fu):=by
 induction fu with
 |zero=>exact(fun pt pv r H=>by simp only [dL] at H;cases H)
 |succ fu ih=>exact(fun pt pv r H=>by simp only [dL] at H;exact AN fu (dL fu) ih pt pv r H)
theorem CX(fu:Nat):lK (dL fu):=(BO fu)
def aa1(m:ByteArray→aA→Option Bool):Prop:= ∀(pv:ByteArray) (pt:aA) (r:Bool),m pv pt=some r→b4 Tryz.prog 200 [pS pv,(aA.pv pt)] (pB r:PV)
def DZ(fu:Nat)(pv:ByteArray)(pt:aA):Option Bool:=
 bd (dL fu pt pv) (fun x2=>
 some (decide (x2>0)))
theorem XI(fu:Nat):aa1 (DZ fu):=by
 intro pv pt r H
 have H:=eF H
 refine qI Tryz.func200 (fun C hC=>?_)
 refine qS (qR (q1 (jP (dU pt)) (q1 aE (qN (qS (qR (q1 (cU [pI pt.gKind,pS pt.gName,a3 pt.gArgs] bZ) (q1 aE (bN H fun x2 z1 H=>(q1 (bG Tryz.func211 (CX fu pt pv _ z1)) (q1 KN (q1 aE (qN ?_)))))))))))))
 refine aQ.ret ?_
 cases aZ H
 exact bL
end
end Go.Proofs.YtpioomclpaiomaaGreat.W

namespace Go.Proofs.YtpioomclpaiomaaGreat.W
set_option maxRecDepth 100000
set_option maxHeartbeats 40000000
noncomputable section
open Go.RowKit Go.Proofs
set_option linter.unusedSimpArgs false
set_option linter.unusedVariables false
attribute [local irreducible] lt
def XG(m:Int→Option ByteArray):Prop:= ∀(pn:Int) (r:ByteArray),m pn=some r→b4 Tryz.prog 281 [pI pn] (pS r:PV)
def GX(fu:Nat)(pn:Int):(Int×ByteArray)→Option (LR (Int×ByteArray) ByteArray):=
 fun(v2,v3)=>sw (!decide (v2=0))
 (sw (decide (((v2).tmod 10:Int)<0))
 (gd ((bytesStr ([(EJ (aR (48+(aR (0-((v2).tmod 10))))))]:List UInt8)).size+(v3).size≤1099511627776)
 (some (.next ((aR ((v2).tdiv 10)),((bytesStr ([(EJ (aR (48+(aR (0-((v2).tmod 10))))))]:List UInt8))++v3)))))
 (gd ((bytesStr ([(EJ (aR (48+((v2).tmod 10))))]:List UInt8)).size+(v3).size≤1099511627776)
 (some (.next ((aR ((v2).tdiv 10)),((bytesStr ([(EJ (aR (48+((v2).tmod 10))))]:List UInt8))++v3))))))
 (some (.brk (v2,v3)))
def GY(fu:Nat)(pn:Int):Option (ByteArray⊕(Int×ByteArray)):=
 loopW (GX fu pn) fu (pn,s_)
def m6(fu:Nat)(pn:Int):Option ByteArray:=
 sw (decide (pn=0))
 (some s_0)
 (so (GY fu pn) (fun(v2,v3)=>
 sw (decide (pn<0))
 (gd ((CZ).size+(v3).size≤1099511627776)
 (some (CZ++v3)))
 (some v3)))
theorem zH(fu:Nat):XG (m6 fu):=by
 intro pn r H
 have H:=eF H
 refine qI Tryz.func281 (fun C hC=>?_)
 refine qS (qR (q1 aE (qN ?_)))
 iterate 2 refine qS ?_
 refine qR (q1 aE (q1 eG (qN ?_)))
 refine bA H (fun h1 H=>?_) (fun h1 H=>?_)
 ·refine qS (qR (q1 aE (qN (aQ.ret ?_))))
  cases aZ H
  exact bL
 refine aQ.skip (qS (qR (q1 aE (q1 gP (q1 aE (qN (qS (qR (q1 aE (qN (qS ?_)))))))))))
 refine VM (σ:=Int×ByteArray) (fun(v2,v3)=>⟨[(0,pI v2),(2,pS s_),(3,pB (decide (pn<0))),(4,pS v3)],⟨[],[]⟩⟩) (fun(v2,v3)=>⟨[(2,pS s_),(3,pB (decide (pn<0))),(4,pS v3)],⟨[],[]⟩⟩) (f8 H) ?_ ?_
 ·rintro k4 ⟨v2,v3⟩ H
  iterate 2 refine qS ?_
  refine qR (q1 aE (q1 P5 (qN ?_)))
  refine bA H (fun h5 H=>?_) (fun h5 H=>?_)
  ·refine aQ.skip (aQ.block (qS (qR (q1 aE (q1 (aX.remI (a:=v2) (b:=10) rfl rfl rfl rfl (by decide)) (q1 aE (qN ?_)))))))
   iterate 2 refine qS ?_
   refine qR (q1 aE (q1 gP (qN ?_)))
   refine bA H (fun h6 H=>?_) (fun h6 H=>?_)
   ·refine qR (q1 aE (q1 AY (q1 aE (qN (qS (qR (q1 aE (q1 RJ (q1 (aX.convU8 (a:=aR (48+(aR (0-((v2).tmod 10))))) rfl rfl rfl ⟨_,Tryz.underlying3⟩ Tryz.underlying5) (q1 (hH ([(EJ (aR (48+(aR (0-((v2).tmod 10))))))]:List UInt8) Z9 zr5) (q1 (aX.bytesStr rfl rfl rfl rfl Tryz.underlying22 Tryz.underlying5 Tryz.underlying9) (q1 aE (cX H fun z7 H=>?_)))))))))))))
    refine q1 (aX.addS rfl rfl rfl rfl (Nat.le_trans z7 (by decide))) (q1 aE (qN (qR (q1 aE (q1 (aX.quoI (a:=v2) (b:=10) rfl rfl rfl rfl (by decide)) (q1 aE (qN ?_)))))))
    exact lwN ⟨_,(aZ H:),b0⟩
   refine aQ.skip (qS (qR (q1 aE (q1 RJ (q1 (aX.convU8 (a:=aR (48+((v2).tmod 10))) rfl rfl rfl ⟨_,Tryz.underlying3⟩ Tryz.underlying5) (q1 (hH ([(EJ (aR (48+((v2).tmod 10))))]:List UInt8) Z9 zr5) (q1 (aX.bytesStr rfl rfl rfl rfl Tryz.underlying22 Tryz.underlying5 Tryz.underlying9) (q1 aE (cX H fun z8 H=>(q1 (aX.addS rfl rfl rfl rfl (Nat.le_trans z8 (by decide))) (q1 aE (qN (qR ?_)))))))))))))
   refine q1 aE (q1 (aX.quoI (a:=v2) (b:=10) rfl rfl rfl rfl (by decide)) (q1 aE (qN ?_)))
   exact lwN ⟨_,(aZ H:),b0⟩
  refine aQ.exit ?_;exact lwB ⟨_,(aZ H:),b0⟩
 rintro⟨v2,v3⟩ H
 iterate 2 refine qS ?_
 refine qR (q1 aE (qN ?_))
 refine bA H (fun h9 H=>?_) (fun h9 H=>?_)
 ·refine qS (qR (q1 aE (cX H fun z10 H=>(q1 (aX.addS rfl rfl rfl rfl (Nat.le_trans z10 (by decide))) (q1 aE (qN (aQ.ret ?_)))))))
  cases aZ H
  exact bL
 refine aQ.skip (qS (qR ?_))
 iterate 2 refine q1 aE ?_
 refine qN (aQ.ret ?_)
 cases aZ H
 exact bL
def ajD(m:ByteArray→Int→Option (Int×Bool)):Prop:= ∀(ps:ByteArray) (pmost:Int) (r:Int×Bool),m ps pmost=some r→b4 Tryz.prog 279 [pS ps,pI pmost] (.tup [pI r.1,pB r.2]:PV)
def SQ(fu:Nat)(ps:ByteArray)(pmost:Int):Option ((Int×Bool)⊕ByteArray):=
 sw (decide ((((A5 ps 0).toNat:Int):Int)=45))
 (gd ((0:Int)≤1∧(1:Int)≤(ps.size:Int)∧(ps.size:Int)≤(ps.size:Int))
 (some (.inr (ps.extract (1:Int).toNat (ps.size:Int).toNat))))
 (some (.inr ps))
def SS(fu:Nat)(ps:ByteArray)(pmost:Int)(v3:ByteArray):Nat→Int→Option (LR Int (Int×Bool)):=
 fun i8 v9=>gd (i8<(v3).size)
 (sw (decide ((((A5 v3 i8).toNat:Int):Int)<48))
 (some (.ret (0,false)))
 (sw (decide ((((A5 v3 i8).toNat:Int):Int)>57))
 (some (.ret (0,false)))
 (some (.next (aR ((aR (10*v9))+((EJ (((A5 v3 i8).toNat:Int)-48)).toNat:Int)))))))
def SU(fu:Nat)(ps:ByteArray)(pmost:Int)(v3:ByteArray):Option ((Int×Bool)⊕Int):=
 loopN (SS fu ps pmost v3) (v3.size-0) 0 0
def SR(fu:Nat)(ps:ByteArray)(pmost:Int)(v3:ByteArray)(v9:Int):Option ((Int×Bool)⊕Int):=
 sw (decide ((((A5 ps 0).toNat:Int):Int)=45))
 (some (.inr (aR (0-v9))))
 (some (.inr v9))
def ST(fu:Nat)(ps:ByteArray)(pmost:Int):Nat→Int→Option (LR Int (Int×Bool)):=
 fun i22 v23=>gd (i22<(ps).size)
 (sw (decide ((((A5 ps i22).toNat:Int):Int)<48))
 (some (.ret (0,false)))
 (sw (decide ((((A5 ps i22).toNat:Int):Int)>57))
 (some (.ret (0,false)))
 (some (.next (aR ((aR (10*v23))+((EJ (((A5 ps i22).toNat:Int)-48)).toNat:Int)))))))
def SV(fu:Nat)(ps:ByteArray)(pmost:Int):Option ((Int×Bool)⊕Int):=
 loopN (ST fu ps pmost) (ps.size-0) 0 0
def NH(fu:Nat)(ps:ByteArray)(pmost:Int):Option (Int×Bool):=
 sw (decide ((ps.size:Int)>0))
 (gd (0<(ps).size)
 (so (SQ fu ps pmost) (fun v3=>
 sw (decide ((v3.size:Int)<1))
 (some (0,false))
 (sw (decide ((v3.size:Int)>pmost))
 (some (0,false))
 (so (SU fu ps pmost v3) (fun v9=>
 so (SR fu ps pmost v3 v9) (fun v15=>
 bd (m6 fu v15) (fun x18=>
 sw (!decide (x18=ps))
 (some (0,false))
 (some (v15,true))))))))))
 (sw (decide ((ps.size:Int)<1))
 (some (0,false))
 (sw (decide ((ps.size:Int)>pmost))
 (some (0,false))
 (so (SV fu ps pmost) (fun v23=>
 bd (m6 fu v23) (fun x30=>
 sw (!decide (x30=ps))
 (some (0,false))
 (some (v23,true)))))))
theorem afU(fu:Nat):ajD (NH fu):=by
 intro ps pmost r H
 have H:=eF H
 refine qI Tryz.func279 (fun C hC=>?_)
 refine qS (qR ?_)
 iterate 2 refine q1 aE ?_
 refine qN (qS (qR (q1 aE (q1 (aX.lenS rfl rfl rfl Tryz.underlying9) (q1 KN (q1 aE ?_))))))
 refine dY 13 H (fun g1 H=>?_) fun g1 H=>?_
 ·refine qg g1 aE (cX H fun z2 H=>(qg g1 (aX.indexS (k:=0) rfl rfl rfl rfl z2 Tryz.underlying9) (qg g1 eG (q1 (bS g1) (q1 aE (qN (qS (qR ?_))))))))
  iterate 2 refine q1 aE ?_
  refine qN (qS ?_)
  refine qD (σ:=ByteArray) (fun v3=>⟨[(0,pS ps),(1,pI pmost),(4,pI 0),(5,pB false),(6,pB (decide ((((A5 ps 0).toNat:Int):Int)=45))),(7,pS v3)],⟨[],[]⟩⟩) (f8 H) (fun H=>?_) ?_
  ·refine qS (qR (q1 aE (qN ?_)))
   refine bA H (fun h4 H=>?_) (fun h4 H=>?_)
   ·refine qR (q1 aE (cX H fun z5 H=>(q1 (aX.sliceS (l:=1) (k:=(ps.size:Int)) rfl rfl rfl rfl rfl z5 Tryz.underlying9) (q1 aE (qN ?_)))))
    exact dO ⟨_,(aZ H:),b0⟩
   refine aQ.skip ?_;exact dO ⟨_,(aZ H:),b0⟩
  rintro v3 H
  iterate 2 refine qS ?_
  refine qR (q1 aE (q1 (aX.lenS rfl rfl rfl Tryz.underlying9) (q1 gP (q1 aE ?_))))
  refine dY 25 H (fun g6 H=>?_) fun g6 H=>?_
  ·have g6n:v3.size<1:=by have:=of_decide_eq_true g6;omega
   iterate 4 refine qk g6 ?_
   refine q1 (bS g6) (qN (dM rfl (qS (qR ?_))))
   iterate 2 refine q1 aE ?_
   refine qN (aQ.ret ?_)
   cases aZ H
   exact jM
  refine qg g6 aE (qg g6 (aX.lenS rfl rfl rfl Tryz.underlying9) (qg g6 aE (qg g6 KN (q1 (b6 g6) (qN ?_)))))
  refine bA H (fun h7 H=>?_) (fun h7 H=>?_)
  ·refine qS (qR ?_)
   iterate 2 refine q1 aE ?_
   refine qN (aQ.ret ?_)
   cases aZ H
   exact jM
  refine aQ.skip (qS (qR (q1 aE (qN ?_))))
  iterate 2 refine qS ?_
  refine qR (q1 aE (qN ?_))
  refine szF 7 (fun hl10=>?_)
  refine b9 (σ:=Int) (fun i8 v9=>⟨[(0,pS ps),(4,pI 0),(5,pB false),(6,pB (decide ((((A5 ps 0).toNat:Int):Int)=45))),(7,pS v3),(8,pI v9),(9,pN i8)],⟨[],[]⟩⟩) (fun v9=>⟨[(0,pS ps),(4,pI 0),(5,pB false),(6,pB (decide ((((A5 ps 0).toNat:Int):Int)=45))),(8,pI v9)],⟨[],[]⟩⟩) (f8 H) ?_ ?_
  ·rintro i8 v9 H
   iterate 2 refine qS ?_
   refine qR ?_
   iterate 2 refine q1 aE ?_
   refine q1 (aX.lenS rfl rfl rfl Tryz.underlying9) (q1 gP (qN ?_))
   refine dT H (fun h11 h11l H=>?_) (fun h11 H=>?_)
   ·have h11n:i8<v3.size:=by have:=of_decide_eq_true h11;omega
    refine aQ.skip (qS (aQ.block ?_))
    iterate 2 refine qS ?_
    refine qR ?_
    iterate 2 refine q1 aE ?_
    refine cX H fun z12 H=>(q1 (aX.indexS (k:=i8) rfl rfl rfl rfl z12 Tryz.underlying9) (q1 gP (q1 aE ?_)))
    refine dY 41 H (fun g13 H=>?_) fun g13 H=>?_
    ·refine qk g13 ?_
     iterate 3 refine qk g13 ?_
     refine q1 (bS g13) (qN (dM rfl (qS (qR ?_))))
     iterate 2 refine q1 aE ?_
     refine qN (aQ.ret ?_)
     obtain rfl:_=r:=(p8 (aZ H):)
     exact jM
    iterate 2 refine qg g13 aE ?_
    refine qg g13 (aX.indexS (k:=i8) rfl rfl rfl rfl z12 Tryz.underlying9) (qg g13 KN (q1 (b6 g13) (qN ?_)))
    refine bA H (fun h14 H=>?_) (fun h14 H=>?_)
    ·refine qS (qR ?_)
     iterate 2 refine q1 aE ?_
     refine qN (aQ.ret ?_)
     obtain rfl:_=r:=(p8 (aZ H):)
     exact jM
    refine aQ.skip (qR (q1 aE (q1 (aX.mulW rfl rfl rfl rfl) ?_)))
    iterate 2 refine q1 aE ?_
    refine q1 (aX.indexS (k:=i8) rfl rfl rfl rfl z12 Tryz.underlying9) (q1 (aX.subU8 rfl rfl rfl rfl) ?_)
    refine q1 (aX.convI rfl rfl rfl ⟨_,Tryz.underlying5⟩ Tryz.underlying3 (by first|omega|(have:=UInt8.toNat_lt (EJ (((A5 v3 i8).toNat:Int)-48));omega)) (by first|omega|(have:=UInt8.toNat_lt (EJ (((A5 v3 i8).toNat:Int)-48));omega))) ?_;refine q1 RJ (q1 aE (qN (qR (q1 aE (q1 (aX.addI rfl rfl rfl rfl (c:=((i8+1:Nat):Int)) (by omega) (by omega)) (q1 aE (qN ?_)))))))
    exact iK h11l ⟨_,(aZ H:),b0⟩
   refine aQ.exit ?_;exact j0 ⟨_,H,b0⟩
  rintro v9 H
  refine qS ?_;refine qD (σ:=Int) (fun v15=>⟨[(0,pS ps),(4,pI 0),(5,pB false),(8,pI v15)],⟨[],[]⟩⟩) (f8 H) (fun H=>?_) ?_
  ·refine qS (qR (q1 aE (qN ?_)))
   refine bA H (fun h16 H=>?_) (fun h16 H=>?_)
   ·refine qR (q1 aE (q1 AY (q1 aE (qN ?_))))
    exact dO ⟨_,(aZ H:),b0⟩
   refine aQ.skip ?_;exact dO ⟨_,(aZ H:),b0⟩
  rintro v15 H
  iterate 2 refine qS ?_
  refine qR (q1 aE (bN H fun x18 z17 H=>(q1 (bG Tryz.func281 (zH fu v15 _ z17)) (q1 aE (q1 RL (qN ?_))))))
  refine bA H (fun h19 H=>?_) (fun h19 H=>?_)
  ·refine qS (qR ?_)
   iterate 2 refine q1 aE ?_
   refine qN (aQ.ret ?_)
   cases aZ H
   exact jM
  refine aQ.skip (qS (qR ?_))
  iterate 3 refine q1 aE ?_
  refine qN (aQ.ret ?_)
  cases aZ H
  exact jM
 iterate 3 refine qk g1 ?_
 refine q1 (b6 g1) (q1 aE (qN (qS (qR ?_))))
 iterate 2 refine q1 aE ?_
 refine qN ?_
 iterate 2 refine qS ?_
 refine qR (q1 aE (qN (kJ rfl (aQ.skip ?_))))
 iterate 2 refine qS ?_
 refine qR (q1 aE (q1 (aX.lenS rfl rfl rfl Tryz.underlying9) (q1 gP (q1 aE ?_))))
 refine dY 25 H (fun g20 H=>?_) fun g20 H=>?_
 ·have g20n:ps.size<1:=by have:=of_decide_eq_true g20;omega
  iterate 4 refine qk g20 ?_
  refine q1 (bS g20) (qN (dM rfl (qS (qR ?_))))
  iterate 2 refine q1 aE ?_
  refine qN (aQ.ret ?_)
  cases aZ H
  exact jM
 refine qg g20 aE (qg g20 (aX.lenS rfl rfl rfl Tryz.underlying9) (qg g20 aE (qg g20 KN (q1 (b6 g20) (qN ?_)))))
 refine bA H (fun h21 H=>?_) (fun h21 H=>?_)
 ·refine qS (qR ?_)
  iterate 2 refine q1 aE ?_
  refine qN (aQ.ret ?_)
  cases aZ H
  exact jM
 refine aQ.skip (qS (qR (q1 aE (qN ?_))))
 iterate 2 refine qS ?_
 refine qR (q1 aE (qN ?_))
 refine szF 0 (fun hl24=>?_)
 refine b9 (σ:=Int) (fun i22 v23=>⟨[(0,pS ps),(4,pI 0),(5,pB false),(6,pB false),(7,pS ps),(8,pI v23),(9,pN i22)],⟨[],[]⟩⟩) (fun v23=>⟨[(0,pS ps),(4,pI 0),(5,pB false),(6,pB false),(8,pI v23)],⟨[],[]⟩⟩) (f8 H) ?_ ?_
 ·rintro i22 v23 H
  iterate 2 refine qS ?_
  refine qR ?_
  iterate 2 refine q1 aE ?_
  refine q1 (aX.lenS rfl rfl rfl Tryz.underlying9) (q1 gP (qN ?_))
  refine dT H (fun h25 h25l H=>?_) (fun h25 H=>?_)
  ·have h25n:i22<ps.size:=by have:=of_decide_eq_true h25;omega
   refine aQ.skip (qS (aQ.block ?_))
   iterate 2 refine qS ?_
   refine qR ?_
   iterate 2 refine q1 aE ?_
   refine cX H fun z26 H=>(q1 (aX.indexS (k:=i22) rfl rfl rfl rfl z26 Tryz.underlying9) (q1 gP (q1 aE ?_)))
   refine dY 41 H (fun g27 H=>?_) fun g27 H=>?_
   ·refine qk g27 ?_
    iterate 3 refine qk g27 ?_
    refine q1 (bS g27) (qN (dM rfl (qS (qR ?_))))
    iterate 2 refine q1 aE ?_
    refine qN (aQ.ret ?_)
    obtain rfl:_=r:=(p8 (aZ H):)
    exact jM
   iterate 2 refine qg g27 aE ?_
   refine qg g27 (aX.indexS (k:=i22) rfl rfl rfl rfl z26 Tryz.underlying9) (qg g27 KN (q1 (b6 g27) (qN ?_)))
   refine bA H (fun h28 H=>?_) (fun h28 H=>?_)
   ·refine qS (qR ?_)
    iterate 2 refine q1 aE ?_
    refine qN (aQ.ret ?_)
    obtain rfl:_=r:=(p8 (aZ H):)
    exact jM
   refine aQ.skip (qR (q1 aE (q1 (aX.mulW rfl rfl rfl rfl) ?_)))
   iterate 2 refine q1 aE ?_
   refine q1 (aX.indexS (k:=i22) rfl rfl rfl rfl z26 Tryz.underlying9) (q1 (aX.subU8 rfl rfl rfl rfl) ?_)
   refine q1 (aX.convI rfl rfl rfl ⟨_,Tryz.underlying5⟩ Tryz.underlying3 (by first|omega|(have:=UInt8.toNat_lt (EJ (((A5 ps i22).toNat:Int)-48));omega)) (by first|omega|(have:=UInt8.toNat_lt (EJ (((A5 ps i22).toNat:Int)-48));omega))) ?_;refine q1 RJ (q1 aE (qN (qR (q1 aE (q1 (aX.addI rfl rfl rfl rfl (c:=((i22+1:Nat):Int)) (by omega) (by omega)) (q1 aE (qN ?_)))))))
   exact iK h25l ⟨_,(aZ H:),b0⟩
  refine aQ.exit ?_;exact j0 ⟨_,H,b0⟩
 rintro v23 H
 iterate 2 refine qS ?_
 refine qR (q1 aE (qN (kJ rfl (aQ.skip ?_))))
 iterate 2 refine qS ?_
 refine qR (q1 aE (bN H fun x30 z29 H=>(q1 (bG Tryz.func281 (zH fu v23 _ z29)) (q1 aE (q1 RL (qN ?_))))))
 refine bA H (fun h31 H=>?_) (fun h31 H=>?_)
 ·refine qS (qR ?_)
  iterate 2 refine q1 aE ?_
  refine qN (aQ.ret ?_)
  cases aZ H
  exact jM
 refine aQ.skip (qS (qR ?_))
 iterate 3 refine q1 aE ?_
 refine qN (aQ.ret ?_)
 cases aZ H
 exact jM
def aa2(m:ByteArray→Option (Int×Bool)):Prop:= ∀(ps:ByteArray) (r:Int×Bool),m ps=some r→b4 Tryz.prog 262 [pS ps] (.tup [pI r.1,pB r.2]:PV)
def yO(fu:Nat)(ps:ByteArray):Option (Int×Bool):=
 bd (NH fu ps 12) (fun(x2,x3)=>
 some (x2,x3))
theorem XK(fu:Nat):aa2 (yO fu):=by
 intro ps r H
 have H:=eF H
 refine qI Tryz.func262 (fun C hC=>?_)
 refine qS (qR ?_)
 iterate 2 refine q1 aE ?_
 refine qN (qS (qR (q1 aE (eT H fun x2 x3 z1 H=>(q1 (bG Tryz.func279 (afU fu ps 12 _ z1)) ?_)))))
 iterate 2 refine q1 uB ?_
 iterate 2 refine q1 aE ?_
 refine qN (aQ.ret ?_)
 cases aZ H
 exact jM
def ai1(m:Int→Option aG):Prop:= ∀(pn:Int) (r:aG),m pn=some r→b4 Tryz.prog 159 [pI pn] ((aG.pv r):PV)
def sA(fu:Nat)(pn:Int):Option aG:=
 some (aG.mk 1 s_ s_ pn (aA.mk 0 s_ []) [] [])
theorem tX(fu:Nat):ai1 (sA fu):=by
 intro pn r H
 have H:=eF H
 refine qI Tryz.func159 (fun C hC=>?_)
 refine qS (qR (q1 (gM kB) (qN (qS (qR (q1 aE (q1 (eU kB xJ) (q1 (bR p7) (qN (aQ.ret ?_))))))))))
 cases aZ H
 exact bL (hr:=⟨⟨_,_,_,rfl,rfl,gY,rfl,rfl⟩,trivial⟩)
def ai2(m:ByteArray→Option aG):Prop:= ∀(ps:ByteArray) (r:aG),m ps=some r→b4 Tryz.prog 157 [pS ps] ((aG.pv r):PV)
def tZ(fu:Nat)(ps:ByteArray):Option aG:=
 some (aG.mk 3 s_ ps 0 (aA.mk 0 s_ []) [] [])
theorem xP(fu:Nat):ai2 (tZ fu):=by
 intro ps r H
 have H:=eF H
 refine qI Tryz.func157 (fun C hC=>?_)
 refine qS (qR (q1 (gM kB) (qN (qS (qR (q1 aE (q1 (eU kB xJ) (q1 (bR p7) (qN (aQ.ret ?_))))))))))
 cases aZ H
 exact bL (hr:=⟨⟨_,_,_,rfl,rfl,gY,rfl,rfl⟩,trivial⟩)
def alB(m:Int→Int→Option Int):Prop:= ∀(pa:Int) (pb:Int) (r:Int),m pa pb=some r→b4 Tryz.prog 261 [pI pa,pI pb] (pI r:PV)
def pK(fu:Nat)(pa pb:Int):Option Int:=
 sw (decide (pa<pb))
 (some pa)
 (some pb)
theorem pY(fu:Nat):alB (pK fu):=by
 intro pa pb r H
 have H:=eF H
 refine qI Tryz.func261 (fun C hC=>?_)
 refine qS (qR (q1 aE (qN ?_)))
 iterate 2 refine qS ?_
 refine qR ?_
 iterate 2 refine q1 aE ?_
 refine q1 gP (qN ?_)
 refine bA H (fun h1 H=>?_) (fun h1 H=>?_)
 ·refine qS (qR ?_)
  iterate 2 refine q1 aE ?_
  refine qN (aQ.ret ?_)
  cases aZ H
  exact bL
 refine aQ.skip (qS (qR ?_))
 iterate 2 refine q1 aE ?_
 refine qN (aQ.ret ?_)
 cases aZ H
 exact bL
abbrev gT:=aB→Option aG
abbrev fX:=(List aB)→Option ((List aG))
abbrev iU:=aB→Option bK
def t0(m:gT):Prop:= ∀(pa0:aB) (r:aG),m pa0=some r→b4 Tryz.prog 247 [(aB.pv pa0)] ((aG.pv r):PV)
def uW(m:fX):Prop:= ∀(plist:List aB) (r:(List aG)),m plist=some r→b4 Tryz.prog 263 [bB plist] (f9 r:PV)
def AQ(m:iU):Prop:= ∀(px:aB) (r:bK),m px=some r→b4 Tryz.prog 264 [(aB.pv px)] ((bK.pv r):PV)
def ab8(fu:Nat)(r_sl12Expr:gT)(r_sl12Exprs:fX)(r_sl12Arm:iU)(pa0 y15 y18:aB)(x67:Int)(x70:List aG):Nat→((List bK))→Option (LR ((List bK)) aG):=
 fun i71 v73=>bd (r_sl12Arm (aW pa0.gList i71)) (fun x77=>
 gd ((v73).length+(([x77]:List bK)).length≤68719476736)
 (some (.next (v73++([x77]:List bK)))))
def ab9(fu:Nat)(r_sl12Expr:gT)(r_sl12Exprs:fX)(r_sl12Arm:iU)(pa0 y15 y18:aB)(x67:Int)(x70:List aG):Option (aG⊕((List bK))):=
 loopN (ab8 fu r_sl12Expr r_sl12Exprs r_sl12Arm pa0 y15 y18 x67 x70) (pa0.gList.length-2) 2 ([])
def I7(fu:Nat)(r_sl12Expr:gT)(r_sl12Exprs:fX)(r_sl12Arm:iU)(pa0:aB):Option aG:=
 sw (!decide (pa0.gAtom=s_))
 (bd (yO fu pa0.gAtom) (fun(x3,x4)=>
 sw (x4)
 (bd (sA fu x3) (fun x7=>
 some x7))
 (sw (decide (pa0.gAtom=n8))
 (some (aG.mk 2 s_ s_ 1 (aA.mk 0 s_ []) [] []))
 (sw (decide (pa0.gAtom=kS))
 (some (aG.mk 2 s_ s_ 0 (aA.mk 0 s_ []) [] []))
 (bd (tZ fu pa0.gAtom) (fun x11=>
 some x11))))))
 (gd (([]:List aB).length+(pa0.gList).length≤68719476736)
 (gd ((([])++pa0.gList).length+(([(aB.mk s_ []),(aB.mk s_ []),(aB.mk s_ [])]:List aB)).length≤68719476736)
 (gd (1<((([])++pa0.gList)++([(aB.mk s_ []),(aB.mk s_ []),(aB.mk s_ [])]:List aB)).length)
 (lt (aW ((([])++pa0.gList)++([(aB.mk s_ []),(aB.mk s_ []),(aB.mk s_ [])]:List aB)) 1) (fun y15=>
 gd (0<((([])++pa0.gList)++([(aB.mk s_ []),(aB.mk s_ []),(aB.mk s_ [])]:List aB)).length)
 (lt (aW ((([])++pa0.gList)++([(aB.mk s_ []),(aB.mk s_ []),(aB.mk s_ [])]:List aB)) 0) (fun y18=>
 sw (decide (y18.gAtom=M6))
 (bd (pK fu 2 (pa0.gList.length:Int)) (fun x22=>
 gd ((0:Int)≤x22∧(x22:Int)≤(pa0.gList.length:Int)∧(pa0.gList.length:Int)≤(pa0.gList.length:Int))
 (bd (r_sl12Exprs (List.drop (x22:Int).toNat (List.take (pa0.gList.length:Int).toNat pa0.gList))) (fun x25=>
 some (aG.mk 4 s_ y15.gAtom 0 (aA.mk 0 s_ []) x25 [])))))
 (sw (decide (y18.gAtom=nQ))
 (gd (2<((([])++pa0.gList)++([(aB.mk s_ []),(aB.mk s_ []),(aB.mk s_ [])]:List aB)).length)
 (lt (aW ((([])++pa0.gList)++([(aB.mk s_ []),(aB.mk s_ []),(aB.mk s_ [])]:List aB)) 2) (fun y28=>
 bd (pK fu 3 (pa0.gList.length:Int)) (fun x31=>
 gd ((0:Int)≤x31∧(x31:Int)≤(pa0.gList.length:Int)∧(pa0.gList.length:Int)≤(pa0.gList.length:Int))
 (bd (r_sl12Exprs (List.drop (x31:Int).toNat (List.take (pa0.gList.length:Int).toNat pa0.gList))) (fun x34=>
 some (aG.mk 5 y15.gAtom y28.gAtom 0 (aA.mk 0 s_ []) x34 [])))))))
 (sw (decide (y18.gAtom=CM))
 (bd (pK fu 2 (pa0.gList.length:Int)) (fun x37=>
 gd ((0:Int)≤x37∧(x37:Int)≤(pa0.gList.length:Int)∧(pa0.gList.length:Int)≤(pa0.gList.length:Int))
 (bd (r_sl12Exprs (List.drop (x37:Int).toNat (List.take (pa0.gList.length:Int).toNat pa0.gList))) (fun x40=>
 some (aG.mk 6 s_ y15.gAtom 0 (aA.mk 0 s_ []) x40 [])))))
 (sw (decide (y18.gAtom=CL))
 (bd (pK fu 2 (pa0.gList.length:Int)) (fun x43=>
 gd ((0:Int)≤x43∧(x43:Int)≤(pa0.gList.length:Int)∧(pa0.gList.length:Int)≤(pa0.gList.length:Int))
 (bd (r_sl12Exprs (List.drop (x43:Int).toNat (List.take (pa0.gList.length:Int).toNat pa0.gList))) (fun x46=>
 some (aG.mk 8 s_ y15.gAtom 0 (aA.mk 0 s_ []) x46 [])))))
 (sw (decide (y18.gAtom=BS))
 (gd ((0:Int)≤1∧(1:Int)≤(pa0.gList.length:Int)∧(pa0.gList.length:Int)≤(pa0.gList.length:Int))
 (bd (r_sl12Exprs (List.drop (1:Int).toNat (List.take (pa0.gList.length:Int).toNat pa0.gList))) (fun x50=>
 some (aG.mk 9 s_ s_ 0 (aA.mk 0 s_ []) x50 []))))
 (sw (decide (y18.gAtom=vO))
 (bd (pK fu 2 (pa0.gList.length:Int)) (fun x53=>
 gd ((0:Int)≤x53∧(x53:Int)≤(pa0.gList.length:Int)∧(pa0.gList.length:Int)≤(pa0.gList.length:Int))
 (bd (r_sl12Exprs (List.drop (x53:Int).toNat (List.take (pa0.gList.length:Int).toNat pa0.gList))) (fun x56=>
 some (aG.mk 11 y15.gAtom s_ 0 (aA.mk 0 s_ []) x56 [])))))
 (sw (decide (y18.gAtom=VS))
 (bd (lR fu y15) (fun x59=>
 bd (pK fu 2 (pa0.gList.length:Int)) (fun x61=>
 gd ((0:Int)≤x61∧(x61:Int)≤(pa0.gList.length:Int)∧(pa0.gList.length:Int)≤(pa0.gList.length:Int))
 (bd (r_sl12Exprs (List.drop (x61:Int).toNat (List.take (pa0.gList.length:Int).toNat pa0.gList))) (fun x64=>
 some (aG.mk 12 s_ s_ 0 x59 x64 []))))))
 (sw (decide (y18.gAtom=vN))
 (bd (pK fu 2 (pa0.gList.length:Int)) (fun x67=>
 gd ((0:Int)≤1∧(1:Int)≤x67∧(x67:Int)≤(pa0.gList.length:Int))
 (bd (r_sl12Exprs (List.drop (1:Int).toNat (List.take (x67:Int).toNat pa0.gList))) (fun x70=>
 so (ab9 fu r_sl12Expr r_sl12Exprs r_sl12Arm pa0 y15 y18 x67 x70) (fun v73=>
 some (aG.mk 7 s_ s_ 0 (aA.mk 0 s_ []) x70 v73))))))
 (bd (pK fu 1 (pa0.gList.length:Int)) (fun x80=>
 gd ((0:Int)≤x80∧(x80:Int)≤(pa0.gList.length:Int)∧(pa0.gList.length:Int)≤(pa0.gList.length:Int))
 (bd (r_sl12Exprs (List.drop (x80:Int).toNat (List.take (pa0.gList.length:Int).toNat pa0.gList))) (fun x83=>
 some (aG.mk 10 s_ y18.gAtom 0 (aA.mk 0 s_ []) x83 [])))))))))))))))))))
theorem UR(fu:Nat)(r_sl12Expr:gT)(r_sl12Exprs:fX)(r_sl12Arm:iU)(h_sl12Expr:t0 r_sl12Expr)(h_sl12Exprs:uW r_sl12Exprs)(h_sl12Arm:AQ r_sl12Arm):t0 (I7 fu r_sl12Expr r_sl12Exprs r_sl12Arm):=by
 intro pa0 r H
 have H:=eF H
 refine qI Tryz.func247 (fun C hC=>?_)
 refine qS (qR (q1 (jP ([pS pa0.gAtom,bB pa0.gList])) (q1 (gM kB) (qN ?_))))
 iterate 2 refine qS ?_
 refine qR (q1 (a6 fA) (q1 (bD eE) (q1 RL (qN ?_))))
 refine bA H (fun h1 H=>?_) (fun h1 H=>?_)
 ·refine qS (qR (q1 (a6 fA) (q1 (bD eE) (eT H fun x3 x4 z2 H=>(q1 (bG Tryz.func262 (XK fu pa0.gAtom _ z2)) (q1 aE ?_))))))
  iterate 2 refine q1 uB ?_
  iterate 2 refine q1 aE ?_
  refine qN (qS (aQ.block (qS (qR ?_))))
  iterate 2 refine q1 aE ?_
  refine qN ?_;refine bA H (fun h5 H=>?_) (fun h5 H=>?_)
  ·refine qS (qR (q1 aE (bN H fun x7 z6 H=>(q1 (bG Tryz.func159 (tX fu x3 _ z6)) (q1 (bR p7) (qN (aQ.ret ?_)))))))
   cases aZ H
   exact bL (hr:=⟨⟨_,_,_,rfl,rfl,gY,rfl,rfl⟩,trivial⟩)
  refine qS (qR (q1 (a6 fA) (q1 (bD eE) (q1 E6 (q1 aE (qN ?_))))))
  refine bA H (fun h8 H=>?_) (fun h8 H=>?_)
  ·refine qS (qR (q1 (eU kB xJ) (q1 (bR p7) (qN (aQ.ret ?_)))))
   cases aZ H
   exact bL (hr:=⟨⟨_,_,_,rfl,rfl,gY,rfl,rfl⟩,trivial⟩)
  refine qS (qR (q1 (a6 fA) (q1 (bD eE) (q1 E6 (q1 aE (qN ?_))))))
  refine bA H (fun h9 H=>?_) (fun h9 H=>?_)
  ·refine qS (qR (q1 (eU kB xJ) (q1 (bR p7) (qN (aQ.ret ?_)))))
   cases aZ H
   exact bL (hr:=⟨⟨_,_,_,rfl,rfl,gY,rfl,rfl⟩,trivial⟩)
  refine aQ.skip (qS (qR (q1 (a6 fA) (q1 (bD eE) (bN H fun x11 z10 H=>(q1 (bG Tryz.func157 (xP fu pa0.gAtom _ z10)) (q1 (bR p7) (qN (aQ.ret ?_)))))))))
  cases aZ H
  exact bL (hr:=⟨⟨_,_,_,rfl,rfl,gY,rfl,rfl⟩,trivial⟩)
 refine aQ.skip (qS (qR (q1 (qZ ([]:List aB) bI b7) (q1 (a6 bH) (q1 (bD cR) (cX H fun z12 H=>(q1 (kX z12 bI qA) ?_)))))))
 iterate 3 refine q1 (eU b7 mK) ?_
 refine q1 (hH ([(aB.mk s_ []),(aB.mk s_ []),(aB.mk s_ [])]:List aB) bI b7) (cX H fun z13 H=>(q1 (kX z13 bI qA) (q1 aE (qN (qS (qR (q1 (a6 bH) (q1 (bD cR) (q1 (eB bI (aB.trs_len _)) (q1 aE (qN (qS (qR ?_)))))))))))))
 refine q1 aE (cX H fun z14 H=>(gL H fun y15 h16 H=>(q1 (vT h16 z14 bI) (q1 (nK fA) (q1 (mC eE) (q1 aE (qN ?_)))))))
 iterate 2 refine qS ?_
 refine qR (q1 aE (cX H fun z17 H=>(gL H fun y18 h19 H=>(q1 (vT h19 z17 bI) (q1 (nK fA) (q1 (mC eE) (qN (aQ.block (qS (qR (q1 E6 (q1 aE (qN ?_)))))))))))))
 refine bA H (fun h20 H=>?_) (fun h20 H=>?_)
 ·refine qS (bN H fun x22 z21 H=>(cX H fun z23 H=>(bN H fun x25 z24 H=>(dW (dI [7] aE (dI [1] (a6 bH) (dD [59] (bD cR) (dI [6] aE (dI [61] (bG Tryz.func261 (pY fu 2 (pa0.gList.length:Int) _ z21)) ?_)))))))))
  refine dI [60,62] (aX.congrP (aX.sliceR (es:=aB.trs (pa0.gList)) (l:=x22) (k:=(pa0.gList.length:Int)) rfl rfl rfl rfl rfl (by rw [aB.trs_len];exact rfl) (by rw [aB.trs_len];exact z23) bI) (aB.trs_part _ _ _)) ?_;refine dI [63] (bG Tryz.func263 (h_sl12Exprs (List.drop (x22:Int).toNat (List.take (pa0.gList.length:Int).toNat pa0.gList)) _ z24)) (dI [58,64] (eU kB xJ) (mN [2,65] (bR p7) (dN (aQ.ret ?_))))
  cases aZ H
  exact bL (hr:=⟨⟨_,_,_,rfl,rfl,gY,rfl,rfl⟩,trivial⟩)
 refine qS (qR (q1 E6 (q1 aE (qN ?_))))
 refine bA H (fun h26 H=>?_) (fun h26 H=>?_)
 ·refine qS (cX H fun z27 H=>(gL H fun y28 h29 H=>(bN H fun x31 z30 H=>(cX H fun z32 H=>(bN H fun x34 z33 H=>(dW (dI [7] aE (dI [5] aE (dI [69] (vT h29 z27 bI) (dI [70] (nK fA) (dI [71] (mC eE) (dI [1] (a6 bH) (dD [73] (bD cR) ?_)))))))))))))
  refine dI [6] aE (dI [75] (bG Tryz.func261 (pY fu 3 (pa0.gList.length:Int) _ z30)) ?_)
  refine dI [74,76] (aX.congrP (aX.sliceR (es:=aB.trs (pa0.gList)) (l:=x31) (k:=(pa0.gList.length:Int)) rfl rfl rfl rfl rfl (by rw [aB.trs_len];exact rfl) (by rw [aB.trs_len];exact z32) bI) (aB.trs_part _ _ _)) ?_;refine dI [77] (bG Tryz.func263 (h_sl12Exprs (List.drop (x31:Int).toNat (List.take (pa0.gList.length:Int).toNat pa0.gList)) _ z33)) (dI [68,72,78] (eU kB xJ) (mN [2,79] (bR p7) (dN (aQ.ret ?_))))
  cases aZ H
  exact bL (hr:=⟨⟨_,_,_,rfl,rfl,gY,rfl,rfl⟩,trivial⟩)
 refine qS (qR (q1 E6 (q1 aE (qN ?_))))
 refine bA H (fun h35 H=>?_) (fun h35 H=>?_)
 ·refine qS (bN H fun x37 z36 H=>(cX H fun z38 H=>(bN H fun x40 z39 H=>(dW (dI [7] aE (dI [1] (a6 bH) (dD [83] (bD cR) (dI [6] aE (dI [85] (bG Tryz.func261 (pY fu 2 (pa0.gList.length:Int) _ z36)) ?_)))))))))
  refine dI [84,86] (aX.congrP (aX.sliceR (es:=aB.trs (pa0.gList)) (l:=x37) (k:=(pa0.gList.length:Int)) rfl rfl rfl rfl rfl (by rw [aB.trs_len];exact rfl) (by rw [aB.trs_len];exact z38) bI) (aB.trs_part _ _ _)) ?_;refine dI [87] (bG Tryz.func263 (h_sl12Exprs (List.drop (x37:Int).toNat (List.take (pa0.gList.length:Int).toNat pa0.gList)) _ z39)) (dI [82,88] (eU kB xJ) (mN [2,89] (bR p7) (dN (aQ.ret ?_))))
  cases aZ H
  exact bL (hr:=⟨⟨_,_,_,rfl,rfl,gY,rfl,rfl⟩,trivial⟩)
 refine qS (qR (q1 E6 (q1 aE (qN ?_))))
 refine bA H (fun h41 H=>?_) (fun h41 H=>?_)
 ·refine qS (bN H fun x43 z42 H=>(cX H fun z44 H=>(bN H fun x46 z45 H=>(dW (dI [7] aE (dI [1] (a6 bH) (dD [93] (bD cR) (dI [6] aE (dI [95] (bG Tryz.func261 (pY fu 2 (pa0.gList.length:Int) _ z42)) ?_)))))))))
  refine dI [94,96] (aX.congrP (aX.sliceR (es:=aB.trs (pa0.gList)) (l:=x43) (k:=(pa0.gList.length:Int)) rfl rfl rfl rfl rfl (by rw [aB.trs_len];exact rfl) (by rw [aB.trs_len];exact z44) bI) (aB.trs_part _ _ _)) ?_;refine dI [97] (bG Tryz.func263 (h_sl12Exprs (List.drop (x43:Int).toNat (List.take (pa0.gList.length:Int).toNat pa0.gList)) _ z45)) (dI [92,98] (eU kB xJ) (mN [2,99] (bR p7) (dN (aQ.ret ?_))))
  cases aZ H
  exact bL (hr:=⟨⟨_,_,_,rfl,rfl,gY,rfl,rfl⟩,trivial⟩)
 refine qS (qR (q1 E6 (q1 aE (qN ?_))))
 refine bA H (fun h47 H=>?_) (fun h47 H=>?_)
 ·refine qS (qR (q1 (a6 bH) (q1 (bD cR) (cX H fun z48 H=>?_))))
  refine q1 (aX.congrP (aX.sliceR (es:=aB.trs (pa0.gList)) (l:=1) (k:=(pa0.gList.length:Int)) rfl rfl rfl rfl rfl (by rw [aB.trs_len];exact rfl) (by rw [aB.trs_len];exact z48) bI) (aB.trs_part _ _ _)) ?_;refine bN H fun x50 z49 H=>(q1 (bG Tryz.func263 (h_sl12Exprs (List.drop (1:Int).toNat (List.take (pa0.gList.length:Int).toNat pa0.gList)) _ z49)) (q1 (eU kB xJ) (q1 (bR p7) (qN (aQ.ret ?_)))))
  cases aZ H
  exact bL (hr:=⟨⟨_,_,_,rfl,rfl,gY,rfl,rfl⟩,trivial⟩)
 refine qS (qR (q1 E6 (q1 aE (qN ?_))))
 refine bA H (fun h51 H=>?_) (fun h51 H=>?_)
 ·refine qS (bN H fun x53 z52 H=>(cX H fun z54 H=>(bN H fun x56 z55 H=>(dW (dI [7] aE (dI [1] (a6 bH) (dD [110] (bD cR) (dI [6] aE (dI [112] (bG Tryz.func261 (pY fu 2 (pa0.gList.length:Int) _ z52)) ?_)))))))))
  refine dI [111,113] (aX.congrP (aX.sliceR (es:=aB.trs (pa0.gList)) (l:=x53) (k:=(pa0.gList.length:Int)) rfl rfl rfl rfl rfl (by rw [aB.trs_len];exact rfl) (by rw [aB.trs_len];exact z54) bI) (aB.trs_part _ _ _)) ?_;refine dI [114] (bG Tryz.func263 (h_sl12Exprs (List.drop (x53:Int).toNat (List.take (pa0.gList.length:Int).toNat pa0.gList)) _ z55)) (dI [109,115] (eU kB xJ) (mN [2,116] (bR p7) (dN (aQ.ret ?_))))
  cases aZ H
  exact bL (hr:=⟨⟨_,_,_,rfl,rfl,gY,rfl,rfl⟩,trivial⟩)
 refine qS (qR (q1 E6 (q1 aE (qN ?_))))
 refine bA H (fun h57 H=>?_) (fun h57 H=>?_)
 ·refine qS (bN H fun x59 z58 H=>(bN H fun x61 z60 H=>(cX H fun z62 H=>(bN H fun x64 z63 H=>(dW (dI [5] aE (dI [119] (vT h16 z14 bI) (dI [120] (jW (aB.cs y15) bP) (dI [121] (bG Tryz.func246 (u3 fu y15 _ z58)) (dI [1] (a6 bH) (dD [123] (bD cR) (dI [6] aE (dI [125] (bG Tryz.func261 (pY fu 2 (pa0.gList.length:Int) _ z60)) ?_)))))))))))))
  refine dI [124,126] (aX.congrP (aX.sliceR (es:=aB.trs (pa0.gList)) (l:=x61) (k:=(pa0.gList.length:Int)) rfl rfl rfl rfl rfl (by rw [aB.trs_len];exact rfl) (by rw [aB.trs_len];exact z62) bI) (aB.trs_part _ _ _)) ?_;refine dI [127] (bG Tryz.func263 (h_sl12Exprs (List.drop (x61:Int).toNat (List.take (pa0.gList.length:Int).toNat pa0.gList)) _ z63)) (dI [122,128] (eU kB xJ) (mN [2,129] (bR p7) (dN (aQ.ret ?_))))
  cases aZ H
  exact bL (hr:=⟨⟨_,_,_,rfl,rfl,gY,rfl,rfl⟩,trivial⟩)
 refine qS (qR (q1 E6 (q1 aE (qN ?_))))
 refine bA H (fun h65 H=>?_) (fun h65 H=>?_)
 ·refine qS (bN H fun x67 z66 H=>(cX H fun z68 H=>(bN H fun x70 z69 H=>(dW (dI [1] (a6 bH) (dB [132] 0 1 (uI cR) (dI [6] aE (dI [134] (bG Tryz.func261 (pY fu 2 (pa0.gList.length:Int) _ z66)) ?_))))))))
  refine dI [133,135] (aX.congrP (aX.sliceR (es:=aB.trs (pa0.gList)) (l:=1) (k:=x67) rfl rfl rfl rfl rfl (by rw [aB.trs_len];exact rfl) (by rw [aB.trs_len];exact z68) bI) (aB.trs_part _ _ _)) ?_;refine dI [136] (bG Tryz.func263 (h_sl12Exprs (List.drop (1:Int).toNat (List.take (x67:Int).toNat pa0.gList)) _ z69)) (dI [137] (eU kB xJ) (dE [] (gM kB) (mN [8,138] (bR p7) (dN ?_))))
  iterate 2 refine qS ?_
  refine qR (q1 aE (qN (aQ.wk (Wk.regBox (k:=2) (j:=8) 92 11 (by decide) rfl rfl) ?_)))
  refine j8 38 (aB.trs_len _) (fun hl74=>?_)
  refine b9 (σ:=(List bK)) (fun i71 v73=>⟨[(1,.ptr 0 0),(2,.ptr 1 0),(5,dV ((([])++pa0.gList)++([(aB.mk s_ []),(aB.mk s_ []),(aB.mk s_ [])]:List aB)) 0),(6,pN pa0.gList.length),(8,.ptr 2 0),(9,pN i71)],⟨[some ⟨237,[pS pa0.gAtom,bB pa0.gList]⟩,some ⟨87,[pI 0,pS s_,pS s_,pI 0,pI 0,pS s_,.nil,.nil,.nil]⟩,some ⟨87,[pI 7,pS s_,pS s_,pI 0,pI 0,pS s_,.nil,f9 x70,ah5 v73 1]⟩],[⟨237,2,aB.trs ((([])++pa0.gList)++([(aB.mk s_ []),(aB.mk s_ []),(aB.mk s_ [])]:List aB)),false⟩,⟨92,11,bK.trs (v73),false⟩]⟩⟩) (fun v73=>⟨[(1,.ptr 0 0),(2,.ptr 1 0),(5,dV ((([])++pa0.gList)++([(aB.mk s_ []),(aB.mk s_ []),(aB.mk s_ [])]:List aB)) 0),(6,pN pa0.gList.length),(8,.ptr 2 0)],⟨[some ⟨237,[pS pa0.gAtom,bB pa0.gList]⟩,some ⟨87,[pI 0,pS s_,pS s_,pI 0,pI 0,pS s_,.nil,.nil,.nil]⟩,some ⟨87,[pI 7,pS s_,pS s_,pI 0,pI 0,pS s_,.nil,f9 x70,ah5 v73 1]⟩],[⟨237,2,aB.trs ((([])++pa0.gList)++([(aB.mk s_ []),(aB.mk s_ []),(aB.mk s_ [])]:List aB)),false⟩,⟨92,11,bK.trs (v73),false⟩]⟩⟩) (f8 H) ?_ ?_
  ·rintro i71 v73 H
   iterate 2 refine qS ?_
   refine qR ?_
   iterate 2 refine q1 aE ?_
   refine q1 gP (qN ?_)
   refine dT H (fun h75 h75l H=>?_) (fun h75 H=>?_)
   ·have h75n:=a8 h75
    refine aQ.skip (qS (aQ.block (bN H fun x77 z76 H=>(cX H fun z78 H=>(dW (dI [8] (a6 fR) (dD [144] (bD qG) (dI [1] (a6 bH) (dD [146] (bD cR) (dI [9] aE (dI [147,148] (gV h75n bI) (dI [149] (jW (aB.cs (aW pa0.gList i71)) bP) (dI [150] (bG Tryz.func264 (h_sl12Arm (aW pa0.gList i71) _ z76)) ?_)))))))))))))
    refine dI [151] (hH ([x77]:List bK) nM PM) (dE [145,152] (kX z78 nM apG) (dI [8] (a6 fR) (mN [154,153] (bR ao7) (dN (qR (q1 aE (q1 (aX.addI rfl rfl rfl rfl (c:=((i71+1:Nat):Int)) (by omega) (by omega)) (q1 aE (qN ?_)))))))))
    exact iK h75l ⟨_,(aZ H:),b0⟩
   refine aQ.exit ?_;exact j0 ⟨_,H,b0⟩
  rintro v73 H
  refine qS (qR (q1 (cU [pI 7,pS s_,pS s_,pI 0,pI 0,pS s_,.nil,f9 x70,ah5 v73 1] gY) (q1 (bR p7) (qN (aQ.ret ?_)))))
  cases aZ H
  exact bL (hr:=⟨⟨_,_,_,rfl,rfl,gY,rfl,rfl⟩,trivial⟩)
 refine aQ.skip (qS (bN H fun x80 z79 H=>(cX H fun z81 H=>(bN H fun x83 z82 H=>(dW (dI [5] aE (dI [156] (vT h19 z17 bI) (dI [157] (nK fA) (dI [158] (mC eE) (dI [1] (a6 bH) (dD [160] (bD cR) (dI [6] aE (dI [162] (bG Tryz.func261 (pY fu 1 (pa0.gList.length:Int) _ z79)) ?_)))))))))))))
 refine dI [161,163] (aX.congrP (aX.sliceR (es:=aB.trs (pa0.gList)) (l:=x80) (k:=(pa0.gList.length:Int)) rfl rfl rfl rfl rfl (by rw [aB.trs_len];exact rfl) (by rw [aB.trs_len];exact z81) bI) (aB.trs_part _ _ _)) ?_;refine dI [164] (bG Tryz.func263 (h_sl12Exprs (List.drop (x80:Int).toNat (List.take (pa0.gList.length:Int).toNat pa0.gList)) _ z82)) (dI [159,165] (eU kB xJ) (mN [2,166] (bR p7) (dN (aQ.ret ?_))))
 cases aZ H
 exact bL (hr:=⟨⟨_,_,_,rfl,rfl,gY,rfl,rfl⟩,trivial⟩)
def XY(fu:Nat)(r_sl12Expr:gT)(r_sl12Exprs:fX)(r_sl12Arm:iU)(plist:List aB):Nat→((List aG))→Option (LR ((List aG)) ((List aG))):=
 fun i1 v3=>bd (r_sl12Expr (aW plist i1)) (fun x7=>
 gd ((v3).length+(([x7]:List aG)).length≤68719476736)
 (some (.next (v3++([x7]:List aG)))))
def XZ(fu:Nat)(r_sl12Expr:gT)(r_sl12Exprs:fX)(r_sl12Arm:iU)(plist:List aB):Option (((List aG))⊕((List aG))):=
 loopN (XY fu r_sl12Expr r_sl12Exprs r_sl12Arm plist) (plist.length-0) 0 ([])
def D4(fu:Nat)(r_sl12Expr:gT)(r_sl12Exprs:fX)(r_sl12Arm:iU)(plist:List aB):Option ((List aG)):=
 so (XZ fu r_sl12Expr r_sl12Exprs r_sl12Arm plist) (fun v3=>
 some v3)
theorem SI(fu:Nat)(r_sl12Expr:gT)(r_sl12Exprs:fX)(r_sl12Arm:iU)(h_sl12Expr:t0 r_sl12Expr)(h_sl12Exprs:uW r_sl12Exprs)(h_sl12Arm:AQ r_sl12Arm):uW (D4 fu r_sl12Expr r_sl12Exprs r_sl12Arm):=by
 intro plist r H
 have H:=eF H
 refine qI Tryz.func263 (fun C hC=>?_)
 refine qS (qR (q1 aE (qN (qS (qR (q1 (qZ ([]:List aG) mA kB) (q1 aE (qN ?_))))))))
 iterate 2 refine qS ?_
 refine qR (q1 aE (qN ?_))
 refine j8 0 (aB.trs_len _) (fun hl4=>?_)
 refine b9 (σ:=(List aG)) (fun i1 v3=>⟨[(0,bB plist),(2,.nil),(3,QM v3 0),(4,pN i1)],⟨[],[⟨87,9,aG.trs (v3),false⟩]⟩⟩) (fun v3=>⟨[(2,.nil),(3,QM v3 0)],⟨[],[⟨87,9,aG.trs (v3),false⟩]⟩⟩) (f8 H) ?_ ?_
 ·rintro i1 v3 H
  iterate 2 refine qS ?_
  refine qR ?_
  iterate 2 refine q1 aE ?_
  refine q1 (eB bI (aB.trs_len _)) (q1 gP (qN ?_))
  refine dT H (fun h5 h5l H=>?_) (fun h5 H=>?_)
  ·have h5n:=a8 h5
   refine aQ.skip (qS (aQ.block (qR ?_)))
   iterate 3 refine q1 aE ?_
   refine q1 (gV h5n bI) (q1 (jW (aB.cs (aW plist i1)) bP) (bN H fun x7 z6 H=>(q1 (bG Tryz.func247 (h_sl12Expr (aW plist i1) _ z6)) (q1 (hH ([x7]:List aG) mA kB) (cX H fun z8 H=>(q1 (kX z8 mA an9) (q1 aE (qN (qR (q1 aE (q1 (aX.addI rfl rfl rfl rfl (c:=((i1+1:Nat):Int)) (by omega) (by omega)) (q1 aE (qN ?_)))))))))))))
   exact iK h5l ⟨_,(aZ H:),b0⟩
  refine aQ.exit ?_;exact j0 ⟨_,H,b0⟩
 rintro v3 H
 refine qS (qR ?_)
 iterate 2 refine q1 aE ?_
 refine qN (aQ.ret ?_)
 cases aZ H
 exact bL
def NA(fu:Nat)(r_sl12Expr:gT)(r_sl12Exprs:fX)(r_sl12Arm:iU)(px:aB):Option bK:=
 sw (decide ((px.gList.length:Int)<2))
 (some (bK.mk s_ [] (aG.mk 0 s_ s_ 0 (aA.mk 0 s_ []) [] [])))
 (gd ((0:Int)≤1∧(1:Int)≤aR ((px.gList.length:Int)-1)∧(aR ((px.gList.length:Int)-1):Int)≤(px.gList.length:Int))
 (bd (xS fu (List.drop (1:Int).toNat (List.take (aR ((px.gList.length:Int)-1):Int).toNat px.gList))) (fun(x4,x5)=>
 gd (0<(px.gList).length)
 (gd (0≤aR ((px.gList.length:Int)-1)∧(aR ((px.gList.length:Int)-1)).toNat<(px.gList).length)
 (lt (aW px.gList ((aR ((px.gList.length:Int)-1)).toNat)) (fun y8=>
 bd (r_sl12Expr y8) (fun x11=>
 some (bK.mk ((aW px.gList 0).gAtom) x4 x11))))))))
theorem XW(fu:Nat)(r_sl12Expr:gT)(r_sl12Exprs:fX)(r_sl12Arm:iU)(h_sl12Expr:t0 r_sl12Expr)(h_sl12Exprs:uW r_sl12Exprs)(h_sl12Arm:AQ r_sl12Arm):AQ (NA fu r_sl12Expr r_sl12Exprs r_sl12Arm):=by
 intro px r H
 have H:=eF H
 refine qI Tryz.func264 (fun C hC=>?_)
 refine qS (qR (q1 (jP ([pS px.gAtom,bB px.gList])) (q1 (gM PM) (qN (qS (qR (q1 (a6 bH) (q1 (bD cR) (q1 (eB bI (aB.trs_len _)) (q1 aE (qN ?_)))))))))))
 iterate 2 refine qS ?_
 refine qR (q1 aE (q1 gP (qN ?_)))
 refine bA H (fun h1 H=>?_) (fun h1 H=>?_)
 ·have h1n:px.gList.length<2:=by have:=of_decide_eq_true h1;omega
  refine qS (qR (q1 (eU PM akV) (q1 (bR amT) (qN (aQ.ret ?_)))))
  cases aZ H
  exact bL (hr:=⟨⟨_,_,_,rfl,rfl,amJ,rfl,rfl⟩,trivial⟩)
 refine aQ.skip (qS (qR (q1 (a6 bH) (q1 (bD cR) (q1 aE (q1 AY (cX H fun z2 H=>?_)))))))
 refine q1 (aX.congrP (aX.sliceR (es:=aB.trs (px.gList)) (l:=1) (k:=aR ((px.gList.length:Int)-1)) rfl rfl rfl rfl rfl (by rw [aB.trs_len];exact rfl) (by rw [aB.trs_len];exact z2) bI) (aB.trs_part _ _ _)) ?_;refine eT H fun x4 x5 z3 H=>(q1 (bG Tryz.func218 (EH fu (List.drop (1:Int).toNat (List.take (aR ((px.gList.length:Int)-1):Int).toNat px.gList)) _ z3)) (q1 aE ?_))
 iterate 2 refine q1 uB ?_
 iterate 2 refine q1 aE ?_
 refine qN (qS (cX H fun z6 H=>(cX H fun z7 H=>(gL H fun y8 h9 H=>(bN H fun x11 z10 H=>(dW (dI [1] (a6 bH) (dD [21] (bD cR) (dI [22] (gV z6 bI) (dI [23] (nK fA) (dI [24] (mC eE) (dI [4] aE (dI [1] (a6 bH) ?_)))))))))))))
 refine dD [27] (bD cR) (dI [3] aE (dI [29] AY (dI [28,30] (rIm h9 z7 bI) (dI [31] (jW (aB.cs y8) bP) (dI [32] (bG Tryz.func247 (h_sl12Expr y8 _ z10)) (dI [25,26,33] (eU PM akV) (mN [2,34] (bR amT) (dN (aQ.ret ?_)))))))))
 cases aZ H
 exact bL (hr:=⟨⟨_,_,_,rfl,rfl,amJ,rfl,rfl⟩,trivial⟩)
mutual
def gF:Nat→aB→Option aG
 |0,_=>none
 |fu+1,pa0=>I7 fu (gF fu) (jK fu) (mM fu) pa0
def jK:Nat→(List aB)→Option ((List aG))
 |0,_=>none
 |fu+1,plist=>D4 fu (gF fu) (jK fu) (mM fu) plist
def mM:Nat→aB→Option bK
 |0,_=>none
 |fu+1,px=>NA fu (gF fu) (jK fu) (mM fu) px
end
theorem XX(fu:Nat):t0 (gF fu)∧uW (jK fu)∧AQ (mM fu):=by
 induction fu with
 |zero=>exact⟨(fun pa0 r H=>by simp only [gF] at H;cases H),(fun plist r H=>by simp only [jK] at H;cases H),(fun px r H=>by simp only [mM] at H;cases H)⟩
 |succ fu ih=>exact⟨(fun pa0 r H=>by simp only [gF] at H;exact UR fu (gF fu) (jK fu) (mM fu) ih.1 ih.2.1 ih.2.2 pa0 r H),(fun plist r H=>by simp only [jK] at H;exact SI fu (gF fu) (jK fu) (mM fu) ih.1 ih.2.1 ih.2.2 plist r H),(fun px r H=>by simp only [mM] at H;exact XW fu (gF fu) (jK fu) (mM fu) ih.1 ih.2.1 ih.2.2 px r H)⟩
theorem D3(fu:Nat):t0 (gF fu):=(XX fu).1
abbrev nR:=aG→Option aB
abbrev jV:=(List aB)→(List aG)→Option aB
def D5(m:nR):Prop:= ∀(pa0:aG) (r:aB),m pa0=some r→b4 Tryz.prog 270 [(aG.pv pa0)] ((aB.pv r):PV)
def BY(m:jV):Prop:= ∀(phead:List aB) (plist:List aG) (r:aB),m phead plist=some r→cP Tryz.prog 282 [dV phead 0,f9 plist] ⟨[],[⟨237,2,aB.trs (phead),false⟩]⟩ (fun q t=>q=(.agg [pS r.gAtom,dV r.gList 0]:PV)∧t=⟨[],[⟨237,2,aB.trs (r.gList),false⟩]⟩)
def ai3(fu:Nat)(r_sl12Sx:nR)(r_sl12Args:jV)(pa0:aG)(x68 x70:aB):Nat→((List aB))→Option (LR ((List aB)) aB):=
 fun i71 v73=>lt (aW pa0.gArms i71) (fun y76=>
 bd (cC fu y76.gConstructor) (fun x79=>
 bd (B5 fu y76.gVars) (fun x81=>
 gd ((([x79]:List aB)).length+(x81).length≤68719476736)
 (bd (r_sl12Sx y76.gBody) (fun x84=>
 gd ((([x79]:List aB)++x81).length+(([x84]:List aB)).length≤68719476736)
 (gd ((v73).length+(([(aB.mk s_ ((([x79]:List aB)++x81)++([x84]:List aB)))]:List aB)).length≤68719476736)
 (some (.next (v73++([(aB.mk s_ ((([x79]:List aB)++x81)++([x84]:List aB)))]:List aB))))))))))
def ai4(fu:Nat)(r_sl12Sx:nR)(r_sl12Args:jV)(pa0:aG)(x68 x70:aB):Option (aB⊕((List aB))):=
 loopN (ai3 fu r_sl12Sx r_sl12Args pa0 x68 x70) (pa0.gArms.length-0) 0 x70.gList
def SJ(fu:Nat)(r_sl12Sx:nR)(r_sl12Args:jV)(pa0:aG):Option aB:=
 sw (decide (pa0.gKind=1))
 (bd (m6 fu pa0.gN) (fun x3=>
 bd (cC fu x3) (fun x5=>
 some x5)))
 (sw (decide (pa0.gKind=2))
 (gd (0≤pa0.gN∧(pa0.gN).toNat<(([kS,n8]:List ByteArray)).length)
 (bd (cC fu (aW ([kS,n8]:List ByteArray) ((pa0.gN).toNat))) (fun x9=>
 some x9)))
 (sw (decide (pa0.gKind=3))
 (bd (cC fu pa0.gName) (fun x12=>
 some x12))
 (sw (decide (pa0.gKind=4))
 (bd (cC fu M6) (fun x15=>
 bd (cC fu pa0.gName) (fun x17=>
 bd (r_sl12Args ([x15,x17]:List aB) pa0.gArgs) (fun x19=>
 some (aB.mk x19.gAtom x19.gList)))))
 (sw (decide (pa0.gKind=5))
 (bd (cC fu nQ) (fun x22=>
 bd (cC fu pa0.gTrait) (fun x24=>
 bd (cC fu pa0.gName) (fun x26=>
 bd (r_sl12Args ([x22,x24,x26]:List aB) pa0.gArgs) (fun x28=>
 some (aB.mk x28.gAtom x28.gList))))))
 (sw (decide (pa0.gKind=6))
 (bd (cC fu CM) (fun x31=>
 bd (cC fu pa0.gName) (fun x33=>
 bd (r_sl12Args ([x31,x33]:List aB) pa0.gArgs) (fun x35=>
 some (aB.mk x35.gAtom x35.gList)))))
 (sw (decide (pa0.gKind=8))
 (bd (cC fu CL) (fun x38=>
 bd (cC fu pa0.gName) (fun x40=>
 bd (r_sl12Args ([x38,x40]:List aB) pa0.gArgs) (fun x42=>
 some (aB.mk x42.gAtom x42.gList)))))
 (sw (decide (pa0.gKind=9))
 (bd (cC fu BS) (fun x45=>
 bd (r_sl12Args ([x45]:List aB) pa0.gArgs) (fun x47=>
 some (aB.mk x47.gAtom x47.gList))))
 (sw (decide (pa0.gKind=10))
 (bd (cC fu pa0.gName) (fun x50=>
 bd (r_sl12Args ([x50]:List aB) pa0.gArgs) (fun x52=>
 some (aB.mk x52.gAtom x52.gList))))
 (sw (decide (pa0.gKind=11))
 (bd (cC fu vO) (fun x55=>
 bd (cC fu pa0.gTrait) (fun x57=>
 bd (r_sl12Args ([x55,x57]:List aB) pa0.gArgs) (fun x59=>
 some (aB.mk x59.gAtom x59.gList)))))
 (sw (decide (pa0.gKind=12))
 (bd (cC fu VS) (fun x62=>
 bd (lQ fu pa0.gType) (fun x64=>
 bd (r_sl12Args ([x62,x64]:List aB) pa0.gArgs) (fun x66=>
 some (aB.mk x66.gAtom x66.gList)))))
 (bd (cC fu vN) (fun x68=>
 bd (r_sl12Args ([x68]:List aB) pa0.gArgs) (fun x70=>
 so (ai4 fu r_sl12Sx r_sl12Args pa0 x68 x70) (fun v73=>
 some (aB.mk x70.gAtom v73)))))))))))))))
theorem acB(fu:Nat)(r_sl12Sx:nR)(r_sl12Args:jV)(h_sl12Sx:D5 r_sl12Sx)(h_sl12Args:BY r_sl12Args):D5 (SJ fu r_sl12Sx r_sl12Args):=by
 intro pa0 r H
 have H:=eF H
 refine qI Tryz.func270 (fun C hC=>?_)
 refine qS (qR (q1 (jP (hM pa0)) (q1 (gM b7) (qN ?_))))
 iterate 2 refine qS ?_
 refine qR (q1 (a6 rD) (q1 (bD jN) (qN (aQ.block (qS (qR (q1 eG (q1 aE (qN ?_)))))))))
 refine bA H (fun h1 H=>?_) (fun h1 H=>?_)
 ·refine qS (qR (q1 (a6 DC) (q1 (bD jN) (bN H fun x3 z2 H=>(q1 (bG Tryz.func281 (zH fu pa0.gN _ z2)) (bN H fun x5 z4 H=>(q1 (bG Tryz.func266 (b3 fu x3 _ z4)) (q1 (bR eA) (qN (aQ.ret ?_))))))))))
  cases aZ H
  exact bL (hr:=⟨⟨_,_,_,rfl,rfl,bP,rfl,rfl⟩,trivial⟩)
 refine qS (qR (q1 eG (q1 aE (qN ?_))))
 refine bA H (fun h6 H=>?_) (fun h6 H=>?_)
 ·refine qS (qR (q1 (hH ([kS,n8]:List ByteArray) bU kG) (q1 (a6 DC) (q1 (bD jN) (cX H fun z7 H=>(q1 (rIy z7 bU) (q1 (mC eE) (bN H fun x9 z8 H=>(q1 (bG Tryz.func266 (b3 fu (aW ([kS,n8]:List ByteArray) ((pa0.gN).toNat)) _ z8)) (q1 (bR eA) (qN (aQ.ret ?_))))))))))))
  cases aZ H
  exact bL (hr:=⟨⟨_,_,_,rfl,rfl,bP,rfl,rfl⟩,trivial⟩)
 refine qS (qR (q1 eG (q1 aE (qN ?_))))
 refine bA H (fun h10 H=>?_) (fun h10 H=>?_)
 ·refine qS (qR (q1 (a6 oV) (q1 (bD eE) (bN H fun x12 z11 H=>(q1 (bG Tryz.func266 (b3 fu pa0.gName _ z11)) (q1 (bR eA) (qN (aQ.ret ?_))))))))
  cases aZ H
  exact bL (hr:=⟨⟨_,_,_,rfl,rfl,bP,rfl,rfl⟩,trivial⟩)
 refine qS (qR (q1 eG (q1 aE (qN ?_))))
 refine bA H (fun h13 H=>?_) (fun h13 H=>?_)
 ·refine qS (bN H fun x15 z14 H=>(bN H fun x17 z16 H=>(bN H fun x19 z18 H=>(dW (dI [] (bG Tryz.func266 (b3 fu M6 _ z14)) (dI [1] (a6 oV) (dD [31] (bD eE) (dI [32] (bG Tryz.func266 (b3 fu pa0.gName _ z16)) (dE [30,33] (qZ ([x15,x17]:List aB) bI b7) (dI [1] (a6 iG) (dB [35] 0 1 (uI tW) (dE [34,36] (fM [] [0] Tryz.func282 (h_sl12Args ([x15,x17]:List aB) pa0.gArgs _ z18)) (mN [2,37] (bR eA) ?_)))))))))))))
  refine dN (aQ.ret ?_)
  cases aZ H
  exact bL (hr:=⟨⟨_,_,_,rfl,rfl,bP,rfl,rfl⟩,trivial⟩)
 refine qS (qR (q1 eG (q1 aE (qN ?_))))
 refine bA H (fun h20 H=>?_) (fun h20 H=>?_)
 ·refine qS (bN H fun x22 z21 H=>(bN H fun x24 z23 H=>(bN H fun x26 z25 H=>(bN H fun x28 z27 H=>(dW (dI [] (bG Tryz.func266 (b3 fu nQ _ z21)) (dI [1] (a6 L1) (dD [41] (bD eE) (dI [42] (bG Tryz.func266 (b3 fu pa0.gTrait _ z23)) (dI [1] (a6 oV) (dD [44] (bD eE) (dI [45] (bG Tryz.func266 (b3 fu pa0.gName _ z25)) (dE [40,43,46] (qZ ([x22,x24,x26]:List aB) bI b7) ?_)))))))))))))
  refine dI [1] (a6 iG) (dB [48] 0 1 (uI tW) (dE [47,49] (fM [] [0] Tryz.func282 (h_sl12Args ([x22,x24,x26]:List aB) pa0.gArgs _ z27)) (mN [2,50] (bR eA) (dN (aQ.ret ?_)))))
  cases aZ H
  exact bL (hr:=⟨⟨_,_,_,rfl,rfl,bP,rfl,rfl⟩,trivial⟩)
 refine qS (qR (q1 eG (q1 aE (qN ?_))))
 refine bA H (fun h29 H=>?_) (fun h29 H=>?_)
 ·refine qS (bN H fun x31 z30 H=>(bN H fun x33 z32 H=>(bN H fun x35 z34 H=>(dW (dI [] (bG Tryz.func266 (b3 fu CM _ z30)) (dI [1] (a6 oV) (dD [54] (bD eE) (dI [55] (bG Tryz.func266 (b3 fu pa0.gName _ z32)) (dE [53,56] (qZ ([x31,x33]:List aB) bI b7) (dI [1] (a6 iG) (dB [58] 0 1 (uI tW) (dE [57,59] (fM [] [0] Tryz.func282 (h_sl12Args ([x31,x33]:List aB) pa0.gArgs _ z34)) (mN [2,60] (bR eA) ?_)))))))))))))
  refine dN (aQ.ret ?_)
  cases aZ H
  exact bL (hr:=⟨⟨_,_,_,rfl,rfl,bP,rfl,rfl⟩,trivial⟩)
 refine qS (qR (q1 eG (q1 aE (qN ?_))))
 refine bA H (fun h36 H=>?_) (fun h36 H=>?_)
 ·refine qS (bN H fun x38 z37 H=>(bN H fun x40 z39 H=>(bN H fun x42 z41 H=>(dW (dI [] (bG Tryz.func266 (b3 fu CL _ z37)) (dI [1] (a6 oV) (dD [64] (bD eE) (dI [65] (bG Tryz.func266 (b3 fu pa0.gName _ z39)) (dE [63,66] (qZ ([x38,x40]:List aB) bI b7) (dI [1] (a6 iG) (dB [68] 0 1 (uI tW) (dE [67,69] (fM [] [0] Tryz.func282 (h_sl12Args ([x38,x40]:List aB) pa0.gArgs _ z41)) (mN [2,70] (bR eA) ?_)))))))))))))
  refine dN (aQ.ret ?_)
  cases aZ H
  exact bL (hr:=⟨⟨_,_,_,rfl,rfl,bP,rfl,rfl⟩,trivial⟩)
 refine qS (qR (q1 eG (q1 aE (qN ?_))))
 refine bA H (fun h43 H=>?_) (fun h43 H=>?_)
 ·refine qS (bN H fun x45 z44 H=>(bN H fun x47 z46 H=>(dW (dI [] (bG Tryz.func266 (b3 fu BS _ z44)) (dE [73] (qZ ([x45]:List aB) bI b7) (dI [1] (a6 iG) (dB [75] 0 1 (uI tW) (dE [74,76] (fM [] [0] Tryz.func282 (h_sl12Args ([x45]:List aB) pa0.gArgs _ z46)) (mN [2,77] (bR eA) (dN (aQ.ret ?_)))))))))))
  cases aZ H
  exact bL (hr:=⟨⟨_,_,_,rfl,rfl,bP,rfl,rfl⟩,trivial⟩)
 refine qS (qR (q1 eG (q1 aE (qN ?_))))
 refine bA H (fun h48 H=>?_) (fun h48 H=>?_)
 ·refine qS (bN H fun x50 z49 H=>(bN H fun x52 z51 H=>(dW (dI [1] (a6 oV) (dD [80] (bD eE) (dI [81] (bG Tryz.func266 (b3 fu pa0.gName _ z49)) (dE [82] (qZ ([x50]:List aB) bI b7) (dI [1] (a6 iG) (dB [84] 0 1 (uI tW) (dE [83,85] (fM [] [0] Tryz.func282 (h_sl12Args ([x50]:List aB) pa0.gArgs _ z51)) (mN [2,86] (bR eA) (dN (aQ.ret ?_)))))))))))))
  cases aZ H
  exact bL (hr:=⟨⟨_,_,_,rfl,rfl,bP,rfl,rfl⟩,trivial⟩)
 refine qS (qR (q1 eG (q1 aE (qN ?_))))
 refine bA H (fun h53 H=>?_) (fun h53 H=>?_)
 ·refine qS (bN H fun x55 z54 H=>(bN H fun x57 z56 H=>(bN H fun x59 z58 H=>(dW (dI [] (bG Tryz.func266 (b3 fu vO _ z54)) (dI [1] (a6 L1) (dD [90] (bD eE) (dI [91] (bG Tryz.func266 (b3 fu pa0.gTrait _ z56)) (dE [89,92] (qZ ([x55,x57]:List aB) bI b7) (dI [1] (a6 iG) (dB [94] 0 1 (uI tW) (dE [93,95] (fM [] [0] Tryz.func282 (h_sl12Args ([x55,x57]:List aB) pa0.gArgs _ z58)) (mN [2,96] (bR eA) ?_)))))))))))))
  refine dN (aQ.ret ?_)
  cases aZ H
  exact bL (hr:=⟨⟨_,_,_,rfl,rfl,bP,rfl,rfl⟩,trivial⟩)
 refine qS (qR (q1 eG (q1 aE (qN ?_))))
 refine bA H (fun h60 H=>?_) (fun h60 H=>?_)
 ·refine qS (bN H fun x62 z61 H=>(bN H fun x64 z63 H=>(bN H fun x66 z65 H=>(dW (dI [] (bG Tryz.func266 (b3 fu VS _ z61)) (dI [1] (a6 rE) (dD [100] (cU [pI pa0.gType.gKind,pS pa0.gType.gName,a3 pa0.gType.gArgs] bZ) (dI [101] (bG Tryz.func269 (u2 fu pa0.gType _ z63)) (dE [99,102] (qZ ([x62,x64]:List aB) bI b7) (dI [1] (a6 iG) (dB [104] 0 1 (uI tW) (dE [103,105] (fM [] [0] Tryz.func282 (h_sl12Args ([x62,x64]:List aB) pa0.gArgs _ z65)) (mN [2,106] (bR eA) ?_)))))))))))))
  refine dN (aQ.ret ?_)
  cases aZ H
  exact bL (hr:=⟨⟨_,_,_,rfl,rfl,bP,rfl,rfl⟩,trivial⟩)
 refine aQ.skip (qS (bN H fun x68 z67 H=>(bN H fun x70 z69 H=>(dWa (dI [] (bG Tryz.func266 (b3 fu vN _ z67)) ?_)))))
 refine dEz [107] (fun _ z=>by cases z<;>exact qZ ([x68]:List aB) bI b7) ?_;refine dI [1] (a6 iG) (dBz [109] 0 1 (uI tW) ?_)
 refine dEz [108,110] (fun _ z=>by cases z<;>exact fM [] [0] Tryz.func282 (h_sl12Args ([x68]:List aB) pa0.gArgs _ z69)) ?_;refine dA (fun _ st h=>vAl h b7) (dZ 3 [3,111] (bR eA) (dN ?_))
 iterate 2 refine qS ?_
 refine qR (q1 aE (qN ?_))
 refine aQ.fact (cE 0 8 rfl rfl rfl (bK.trs_len _)) (fun hl74=>?_)
 refine b9 (σ:=(List aB)) (fun i71 v73=>⟨[(1,.ptr 0 0),(2,.ptr 1 0),(3,.ptr 2 0),(4,pN i71)],⟨[some ⟨87,hM pa0⟩,some ⟨237,[pS s_,.nil]⟩,some ⟨237,[pS x70.gAtom,dV v73 0]⟩],[⟨237,2,aB.trs (v73),false⟩]⟩⟩) (fun v73=>⟨[(2,.ptr 1 0),(3,.ptr 2 0)],⟨[some ⟨87,hM pa0⟩,some ⟨237,[pS s_,.nil]⟩,some ⟨237,[pS x70.gAtom,dV v73 0]⟩],[⟨237,2,aB.trs (v73),false⟩]⟩⟩) (f8 H) ?_ ?_
 ·rintro i71 v73 H
  iterate 2 refine qS ?_
  refine qR (q1 aE (q1 (a6 fR) (q1 (bD qG) (q1 (eB nM (bK.trs_len _)) (q1 gP (qN ?_))))))
  refine dT H (fun h75 h75l H=>?_) (fun h75 H=>?_)
  ·have h75n:=a8 h75
   refine aQ.skip (qS (aQ.block (qS (qR (q1 (a6 fR) (q1 (bD qG) (q1 aE (gL H fun y76 h77 H=>(q1 (vT h77 h75n nM) (q1 (jW (bK.cs y76) amJ) (q1 (gM PM) (q1 (bR amT) (qN ?_)))))))))))))
   refine qS (bN H fun x79 z78 H=>(bN H fun x81 z80 H=>(cX H fun z82 H=>(dW (dI [5] (a6 BA) (dD [124] (bD eE) (dI [125] (bG Tryz.func266 (b3 fu y76.gConstructor _ z78)) (dE [126] (qZ ([x79]:List aB) bI b7) (dI [5] (a6 BB) (dB [128] 0 1 (uI jC) (dI [129] (bG Tryz.func280 (N9 fu y76.gVars _ z80)) (dE [127,130] (kX z82 bI qA) (dI [131] aE ?_)))))))))))))
   refine dN (bN H fun x84 z83 H=>(cX H fun z85 H=>(cX H fun z86 H=>(dW (dI [3] (a6 bH) (dB [132] 0 1 (uI cR) (dI [6] aE (dI [5] (a6 HR) (dD [135] (cU [pI y76.gBody.gKind,pS y76.gBody.gTrait,pS y76.gBody.gName,pI y76.gBody.gN,pI y76.gBody.gType.gKind,pS y76.gBody.gType.gName,a3 y76.gBody.gType.gArgs,f9 y76.gBody.gArgs,m3 y76.gBody.gArms] gY) (dI [136] (bG Tryz.func270 (h_sl12Sx y76.gBody _ z83)) (dI [137] (hH ([x84]:List aB) bI b7) (dE [134,138] (kX z85 bI qA) (dI [139] (eU b7 mK) ?_)))))))))))))
   refine dI [140] (hH ([(aB.mk s_ ((([x79]:List aB)++x81)++([x84]:List aB)))]:List aB) bI b7) (dE [133,141] (kX z86 bI qA) (dI [3] (a6 bH) (mN [143,142] (bR yY) (dN (qR (q1 aE (q1 (aX.addI rfl rfl rfl rfl (c:=((i71+1:Nat):Int)) (by omega) (by omega)) (q1 aE (qN ?_)))))))))
   exact iK h75l ⟨_,(aZ H:),b0⟩
  refine aQ.exit ?_;exact j0 ⟨_,H,b0⟩
 rintro v73 H
 refine qS (qR (q1 (cU [pS x70.gAtom,dV v73 0] bP) (q1 (bR eA) (qN (aQ.ret ?_)))))
 cases aZ H
 exact bL (hr:=⟨⟨_,_,_,rfl,rfl,bP,rfl,rfl⟩,trivial⟩)
def ab5(fu:Nat)(r_sl12Sx:nR)(r_sl12Args:jV)(phead:List aB)(plist:List aG):Nat→((List aB))→Option (LR ((List aB)) aB):=
 fun i1 v3=>lt (aW plist i1) (fun y6=>
 bd (r_sl12Sx y6) (fun x9=>
 gd ((v3).length+(([x9]:List aB)).length≤68719476736)
 (some (.next (v3++([x9]:List aB))))))
def ab6(fu:Nat)(r_sl12Sx:nR)(r_sl12Args:jV)(phead:List aB)(plist:List aG):Option (aB⊕((List aB))):=
 loopN (ab5 fu r_sl12Sx r_sl12Args phead plist) (plist.length-0) 0 phead
def I6(fu:Nat)(r_sl12Sx:nR)(r_sl12Args:jV)(phead:List aB)(plist:List aG):Option aB:=
 so (ab6 fu r_sl12Sx r_sl12Args phead plist) (fun v3=>
 some (aB.mk s_ v3))
theorem UQ(fu:Nat)(r_sl12Sx:nR)(r_sl12Args:jV)(h_sl12Sx:D5 r_sl12Sx)(h_sl12Args:BY r_sl12Args):BY (I6 fu r_sl12Sx r_sl12Args):=by
 intro phead plist r H
 have H:=eF H
 refine qI Tryz.func282 (fun C hC=>?_)
 refine qS (qR (q1 (gM b7) (qN (qS (qR (q1 aE (q1 (eU b7 mK) (q1 (gM b7) (q1 (bR eA) (qN ?_))))))))))
 iterate 2 refine qS ?_
 refine qR (q1 aE (qN ?_))
 refine j8 1 (aG.trs_len _) (fun hl4=>?_)
 refine b9 (σ:=(List aB)) (fun i1 v3=>⟨[(1,f9 plist),(4,.ptr 0 0),(5,.ptr 1 0),(6,pN i1)],⟨[some ⟨237,[pS s_,.nil]⟩,some ⟨237,[pS s_,dV v3 0]⟩],[⟨237,2,aB.trs (v3),false⟩]⟩⟩) (fun v3=>⟨[(4,.ptr 0 0),(5,.ptr 1 0)],⟨[some ⟨237,[pS s_,.nil]⟩,some ⟨237,[pS s_,dV v3 0]⟩],[⟨237,2,aB.trs (v3),false⟩]⟩⟩) (f8 H) ?_ ?_
 ·rintro i1 v3 H
  iterate 2 refine qS ?_
  refine qR ?_
  iterate 2 refine q1 aE ?_
  refine q1 (eB mA (aG.trs_len _)) (q1 gP (qN ?_))
  refine dT H (fun h5 h5l H=>?_) (fun h5 H=>?_)
  ·have h5n:=a8 h5
   refine aQ.skip (qS (aQ.block (gL H fun y6 h7 H=>(bN H fun x9 z8 H=>(cX H fun z10 H=>(dW (dI [5] (a6 bH) (dD [15] (bD cR) (dI [1] aE (dI [6] aE (dI [17,18] (vT h7 h5n mA) (dI [19] (jW (aG.cs y6) gY) (dI [20] (bG Tryz.func270 (h_sl12Sx y6 _ z8)) ?_)))))))))))))
   refine dI [21] (hH ([x9]:List aB) bI b7) (dE [16,22] (kX z10 bI qA) (dI [5] (a6 bH) (mN [24,23] (bR yY) (dN (qR (q1 aE (q1 (aX.addI rfl rfl rfl rfl (c:=((i1+1:Nat):Int)) (by omega) (by omega)) (q1 aE (qN ?_)))))))))
   exact iK h5l ⟨_,(aZ H:),b0⟩
  refine aQ.exit ?_;exact j0 ⟨_,H,b0⟩
 rintro v3 H
 refine qS (qR (q1 (cU [pS s_,dV v3 0] bP) (q1 (bR eA) (qN (aQ.ret ?_)))))
 cases aZ H
 exact bL (hr:=⟨⟨_,_,_,rfl,rfl,bP,rfl,rfl⟩,trivial⟩)
mutual
def lL:Nat→aG→Option aB
 |0,_=>none
 |fu+1,pa0=>SJ fu (lL fu) (nE fu) pa0
def nE:Nat→(List aB)→(List aG)→Option aB
 |0,_,_=>none
 |fu+1,phead,plist=>I6 fu (lL fu) (nE fu) phead plist
end
theorem ae7(fu:Nat):D5 (lL fu)∧BY (nE fu):=by
 induction fu with
 |zero=>exact⟨(fun pa0 r H=>by simp only [lL] at H;cases H),(fun phead plist r H=>by simp only [nE] at H;cases H)⟩
 |succ fu ih=>exact⟨(fun pa0 r H=>by simp only [lL] at H;exact acB fu (lL fu) (nE fu) ih.1 ih.2 pa0 r H),(fun phead plist r H=>by simp only [nE] at H;exact UQ fu (lL fu) (nE fu) ih.1 ih.2 phead plist r H)⟩
theorem NB(fu:Nat):D5 (lL fu):=(ae7 fu).1
end
end Go.Proofs.YtpioomclpaiomaaGreat.W
