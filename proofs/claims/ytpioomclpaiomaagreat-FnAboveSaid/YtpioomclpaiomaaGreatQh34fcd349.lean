/- Words, rules and walks of several kinds, laid together: Pg, Ph, PgD, PgS, PmQ, MaP1, MaP2. No conditions but those that each theorem states. -/
import Derived.Test.YtpioomclpaiomaaGreatQhae6a8691
import Derived.Test.YtpioomclpaiomaaGreatQhbde349b7
import Derived.Laws.BytesArg
set_option linter.unusedSimpArgs false
set_option linter.unusedVariables false
namespace Go.Proofs.YtpioomclpaiomaaGreat
set_option linter.unusedSimpArgs false
set_option linter.unusedVariables false
open Go.RowKit Go.WalkArith Go.IntWalk Go.WideShapes
abbrev pI(x:Int):PV:= .t (.leaf (.int .i64 x))
abbrev pN(x:Nat):PV:= .t (.leaf (.int .i64 (x:Int)))
abbrev pU(x:UInt8):PV:= .t (.leaf (.int .u8 (x.toNat:Int)))
abbrev pS(x:ByteArray):PV:= .t (.leaf (.string x))
abbrev pB(x:Bool):PV:= .t (.leaf (.bool x))
abbrev rS(l:List ByteArray):PV:= .t (.row 1 (aW l))
abbrev rU(l:List UInt8):PV:= .t (.row 1 (cL l))
abbrev aS(l:List ByteArray)(r:Nat):PV:= .acc 1 (aW l) r
abbrev dC(d:DS):List PV:= [.t (.row 1 (cL d.code)),.t (.leaf (.int .i64 (d.p:Int))),.t (.leaf (.int .i64 d.h))]
class TC (α:Type) [Inhabited α] where
 cs:α→List Tr
 trs:List α→List (List Tr)
 sz:Nat
 at_: ∀ {l:List α} {k:Nat},k<l.length→(trs l)[k]?=some (cs (a3 l k))
 len: ∀l:List α,(trs l).length=l.length
 map: ∀l:List α,trs l=l.map cs
 csz: ∀a,(cs a).length=sz
instance:TC ByteArray:=⟨fun x=> [.leaf (.string x)],aW,1,aeD,bC,fun _=>rfl,fun _=>rfl⟩
instance:TC Int:=⟨fun x=> [.leaf (.int .i64 x)],nX,1,ac2,f8,fun _=>rfl,fun _=>rfl⟩
instance:TC UInt8:=⟨fun x=> [.leaf (.int .u8 (x.toNat:Int))],cL,1,YV,gB,fun _=>rfl,fun _=>rfl⟩
section
variable {α:Type} [Inhabited α] [TC α]
theorem TC.all(l:List α): ∀e∈TC.trs l,e.length=TC.sz α:=fun e he=>by
 rw [TC.map] at he
 obtain⟨x,_,rfl⟩:=List.mem_map.1 he
 exact TC.csz x
theorem TC.app(a b:List α):TC.trs a++TC.trs b=TC.trs (a++b):=by rw [TC.map,TC.map,TC.map,List.map_append]
end
def Hd{β:Type}(m:Option β)(K:β→Prop):Prop:= ∃v,m=some v∧K v
section
variable {α β σ:Type} {K:β→Prop} {r:β}
theorem fI{m:Option β}(h:m=some r):Hd m (fun v=>v=r):=⟨r,h,rfl⟩
theorem gdI{p:Prop}{x:Option β}(h:Hd (gd p x) K):p∧Hd x K:=by
 obtain⟨v,h1,h2⟩:=h
 by_cases hp:p
 ·rw [uG hp rfl] at h1;exact⟨hp,v,h1,h2⟩
 ·rw [gdF hp] at h1;cases h1
theorem bdI{o:Option α}{f:α→Option β}(h:Hd (bd o f) K): ∃a,o=some a∧Hd (f a) K:=by
 obtain⟨v,h1,h2⟩:=h
 cases o with
 |none=>cases h1
 |some a=>exact⟨a,rfl,v,h1,h2⟩
theorem dF{G p:Prop}{x:Option β}(h:Hd (gd p x) K)(k:p→Hd x K→G):G:=k (gdI h).1 (gdI h).2
theorem bO{G:Prop}{o:Option α}{f:α→Option β}(h:Hd (bd o f) K)(k: ∀a,o=some a→Hd (f a) K→G):G:=by
 obtain⟨a,h1,h2⟩:=bdI h
 exact k a h1 h2
theorem fK{G:Prop}{A B:Type}{o:Option (A×B)}{f:A×B→Option β}(h:Hd (bd o f) K)(k: ∀a b,o=some (a,b)→Hd (f (a,b)) K→G):G:=bO h fun _=>k _ _
theorem acW{G:Prop}{A B C:Type}{o:Option (A×B×C)}{f:A×B×C→Option β}(h:Hd (bd o f) K)(k: ∀a b c,o=some (a,b,c)→Hd (f (a,b,c)) K→G):G:=bO h fun _=>k _ _ _
theorem ajT{G:Prop}{A B C D:Type}{o:Option (A×B×C×D)}{f:A×B×C×D→Option β}(h:Hd (bd o f) K)(k: ∀a b c d,o=some (a,b,c,d)→Hd (f (a,b,c,d)) K→G):G:=bO h fun _=>k _ _ _ _
theorem g0{G:Prop}{x:α}{f:α→Option β}(h:Hd (lt x f) K)(k: ∀y,y=x→Hd (f y) K→G):G:=k x rfl h
theorem nR{b:Bool}{x y:Option β}(h:Hd (sw b x y) K)(e:b=true):Hd x K:=by subst e;exact h
theorem nQ{b:Bool}{x y:Option β}(h:Hd (sw b x y) K)(e:b=false):Hd y K:=by subst e;exact h
theorem aY{v:β}(h:Hd (some v) K):K v:=by
 obtain⟨u,h1,h2⟩:=h
 cases h1
 exact h2
def SK(f:σ→Option β)(K:β→Prop):β⊕σ→Prop
 | .inl x=>K x
 | .inr s=>Hd (f s) K
theorem gU{m:Option (β⊕σ)}{f:σ→Option β}(h:Hd (so m f) K):Hd m (SK f K):=by
 obtain⟨v,h1,h2⟩:=h
 cases m with
 |none=>cases h1
 |some a=>
  refine⟨a,rfl,?_⟩
  cases a with
  |inl x=>cases h1;exact h2
  |inr s=>exact⟨v,h1,h2⟩
def LK(f:Nat→σ→Option (LR σ β))(n i:Nat)(K:β⊕σ→Prop):LR σ β→Prop
 | .next s=>Hd (loopN f (n-(i+1)) (i+1) s) K
 | .brk s=>K (.inr s)
 | .ret x=>K (.inl x)
def LW(f:σ→Option (LR σ β))(k:Nat)(K:β⊕σ→Prop):LR σ β→Prop
 | .next s=>Hd (loopW f k s) K
 | .brk s=>K (.inr s)
 | .ret x=>K (.inl x)
theorem EH{f:σ→Option β}{x:β}(h:SK f K (.inl x)):K x:=h
theorem rG{f:Nat→σ→Option (LR σ β)}{n i:Nat}{K:β⊕σ→Prop}{x:β}(h:LK f n i K (.ret x)):K (.inl x):=h
theorem lwR{f:σ→Option (LR σ β)}{k:Nat}{K:β⊕σ→Prop}{x:β}(h:LW f k K (.ret x)):K (.inl x):=h
theorem lnT{f:Nat→σ→Option (LR σ β)}{n i:Nat}{s:σ}{K:β⊕σ→Prop}(hl:i<n)(h:Hd (loopN f (n-i) i s) K):Hd (f i s) (LK f n i K):=by
 obtain⟨v,h1,h2⟩:=h
 rw [show n-i=(n-(i+1))+1 by omega,loopN] at h1
 cases hf:f i s with
 |none=>rw [hf] at h1;cases h1
 |some x=>
  rw [hf] at h1
  refine⟨x,rfl,?_⟩
  cases x with
  |next s'=>exact⟨v,h1,h2⟩
  |brk s'=>cases h1;exact h2
  |ret x=>cases h1;exact h2
theorem lnE{f:Nat→σ→Option (LR σ β)}{n i:Nat}{s:σ}{K:β⊕σ→Prop}(hl:n≤i)(h:Hd (loopN f (n-i) i s) K):K (.inr s):=by
 obtain⟨v,h1,h2⟩:=h
 rw [show n-i=0 by omega,loopN] at h1
 cases h1
 exact h2
theorem lwT{f:σ→Option (LR σ β)}{k:Nat}{s:σ}{K:β⊕σ→Prop}(h:Hd (loopW f k s) K): ∃k',k=k'+1∧Hd (f s) (LW f k' K):=by
 obtain⟨v,h1,h2⟩:=h
 cases k with
 |zero=>cases h1
 |succ k=>
  rw [loopW] at h1
  refine⟨k,rfl,?_⟩
  cases hf:f s with
  |none=>rw [hf] at h1;cases h1
  |some x=>
   rw [hf] at h1
   refine⟨x,rfl,?_⟩
   cases x with
   |next s'=>exact⟨v,h1,h2⟩
   |brk s'=>cases h1;exact h2
   |ret x=>cases h1;exact h2
end
section
variable {P:Program} {C:oZ} {n:Nat} {s s':AS}
theorem ab0{st':c3}(h:lC C.st st':=by first|exact yN (by assumption)|(refine eH (by assumption) ?_ ?_;(first|exact ahY|exact jS rfl|exact ahZ rfl|exact ah0 rfl);exact Nat.le_of_ble_eq_true rfl)):lC C.st st':=h
theorem acB{st st':c3}(hb:wH st' st.boxes st'.boxes:=by repeat' (first|exact trivial|refine⟨⟨rfl,lH,rfl⟩,?_⟩))(hr:st.rows.take st'.rows.length=st'.rows:=by first|rfl|simp):nH st st':=nH.mk' hb hr
theorem b0(hst:nH s.st s'.st:=by exact acB)(hp:lC C.st s'.st:=by exact ab0)(he:QW s s'.st s'.env:=by repeat' (first|exact trivial|refine⟨⟨_,rfl,lH,rfl⟩,?_⟩)):Wk C n s s':=Wk.mk hst hp he
end
theorem AO{P:Program}{f:FuncId}{args:List PV}{pre:c3}{q:PV}{y d:DS}{T:TypeId}(hy:y=d)(h:cY P f args pre (fun r t=>r=q∧t=DS.box T d)):cY P f args pre (fun r t=>r=q∧t=DS.box T y):=by subst hy;exact h
theorem LC{P:Program}{f:FuncId}{args:List PV}{pre:c3}{x z:ByteArray}{y d:DS}{T:TypeId}(hy:y=d)(hx:x=z)(h:cY P f args pre (fun r t=>r=pS z∧t=DS.box T d)):cY P f args pre (fun r t=>r=pS x∧t=DS.box T y):=by subst hy hx;exact h
def ah2{β σ:Type}(C:oZ)(n:Nat)(I:σ→AS)(K:β⊕σ→Prop)(Q:Exit→AS→Prop):Exit→AS→Prop
 | .normal,s=> ∃v,K (.inr v)∧Wk C n s (I v)
 |e,s=>Q e s
def lpQ{β σ:Type}(C:oZ)(n:Nat)(id:Nat)(I:Nat→σ→AS)(O:σ→AS)(f:Nat→σ→Option (LR σ β))(m i:Nat)(K:β⊕σ→Prop)(Q:Exit→AS→Prop):Exit→AS→Prop
 | .normal,s=>i<m∧ ∃v,Hd (loopN f (m-(i+1)) (i+1) v) K∧Wk C n s (I (i+1) v)
 | .exit j,s=>if j=id then ∃v,K (.inr v)∧Wk C n s (O v) else Q (.exit j) s
 |e,s=>Q e s
def lwQ{β σ:Type}(C:oZ)(n:Nat)(id:Nat)(I:σ→AS)(O:σ→AS)(f:σ→Option (LR σ β))(k:Nat)(K:β⊕σ→Prop)(Q:Exit→AS→Prop):Exit→AS→Prop
 | .normal,s=> ∃v,Hd (loopW f k v) K∧Wk C n s (I v)
 | .exit j,s=>if j=id then ∃v,K (.inr v)∧Wk C n s (O v) else Q (.exit j) s
 |e,s=>Q e s
section
variable {P:Program} {C:oZ} {n:Nat} {s:AS} {Q:Exit→AS→Prop} {β σ:Type}
theorem aiD{I:σ→AS}{K:β⊕σ→Prop}(hq:QC C n Q):QC C n (ah2 C n I K Q):=fun e s s' h k=>by
 cases e with
 |normal=>obtain⟨v,h1,h2⟩:=k;exact⟨v,h1,h.trans h2⟩
 |_=>exact hq _ s s' h k
theorem ajA{id:Nat}{I:Nat→σ→AS}{O:σ→AS}{f:Nat→σ→Option (LR σ β)}{m i:Nat}{K:β⊕σ→Prop}(hq:QC C n Q):QC C n (lpQ C n id I O f m i K Q):=fun e s s' h k=>by
 cases e with
 |normal=>obtain⟨h0,v,h1,h2⟩:=k;exact⟨h0,v,h1,h.trans h2⟩
 |exit j=>
  simp only [lpQ] at k ⊢
  split
  ·rename_i hj;rw [if_pos hj] at k;obtain⟨v,h1,h2⟩:=k;exact⟨v,h1,h.trans h2⟩
  ·rename_i hj;rw [if_neg hj] at k;exact hq _ s s' h k
 |_=>exact hq _ s s' h k
theorem ajB{id:Nat}{I:σ→AS}{O:σ→AS}{f:σ→Option (LR σ β)}{m:Nat}{K:β⊕σ→Prop}(hq:QC C n Q):QC C n (lwQ C n id I O f m K Q):=fun e s s' h k=>by
 cases e with
 |normal=>obtain⟨v,h1,h2⟩:=k;exact⟨v,h1,h.trans h2⟩
 |exit j=>
  simp only [lwQ] at k ⊢
  split
  ·rename_i hj;rw [if_pos hj] at k;obtain⟨v,h1,h2⟩:=k;exact⟨v,h1,h.trans h2⟩
  ·rename_i hj;rw [if_neg hj] at k;exact hq _ s s' h k
 |_=>exact hq _ s s' h k
theorem qcA(h:QC C n Q:=by repeat' (first|exact aiE|exact ai3|apply aiD|apply ajA|apply ajB|apply aiF|apply agO)):QC C n Q:=h
theorem o7{c:Code}{m:Option (β⊕σ)}{K:β⊕σ→Prop}(I:σ→AS)(H:Hd m K)(h:Hd m K→aP P C n c (ah2 C n I K Q) s)(k: ∀v,K (.inr v)→Q .normal (I v))(hq:QC C n Q:=by exact qcA):aP P C n c Q s:=
 aP.mono (h H) fun e s' hc=>by
  cases e with
  |normal=>
   obtain⟨v,h1,h2⟩:=hc
   exact hq _ _ _ h2 (k v h1)
  |_=>exact hc
theorem dP{I:σ→AS}{K:β⊕σ→Prop}{e:Exit}(h: ∃v,K (.inr v)∧Wk C n s (I v))(he:e= .normal:=by exact rfl):ah2 C n I K Q e s:=by subst he;exact h
theorem cM{c:Code}{id:Nat}{f:Nat→σ→Option (LR σ β)}{m i0:Nat}{v0:σ}{K:β⊕σ→Prop}(I:Nat→σ→AS)(O:σ→AS)(H:Hd (loopN f (m-i0) i0 v0) K)
 (round: ∀i v,Hd (loopN f (m-i) i v) K→aP P C n c (lpQ C n id I O f m i K Q) (I i v)) (k: ∀v,K (.inr v)→Q .normal (O v)) (h0:Wk C n s (I i0 v0):=by exact b0) (hq:QC C n Q:=by exact qcA):aP P C n (.block id (.loop c)) Q s:=by
 refine aP.block ?_;refine aP.loopJ (ι:=Nat×σ) (fun x=>Hd (loopN f (m-x.1) x.1 x.2) K) (fun x=>I x.1 x.2) (fun x=>m-x.1) (i0,v0) H h0 ?_;rintro⟨i,v⟩ hj
 refine aP.mono (round i v hj) fun e s' h=>?_
 cases e with
 |normal=>
  obtain⟨h1,v',h2,h3⟩:=h
  exact⟨(i+1,v'),h2,h3,by show m-(i+1)<m-i;omega⟩
 |exit j=>
  simp only [lpQ] at h
  show tG id Q (.exit j) s'
  simp only [tG]
  split
  ·rename_i hj;rw [if_pos hj] at h;obtain⟨v',h1,h2⟩:=h;exact hq _ _ _ h2 (k v' h1)
  ·rename_i hj;rw [if_neg hj] at h;exact h
 |_=>exact h
theorem RC{c:Code}{id:Nat}{f:σ→Option (LR σ β)}{k0:Nat}{v0:σ}{K:β⊕σ→Prop}(I:σ→AS)(O:σ→AS)(H:Hd (loopW f k0 v0) K)
 (round: ∀k v,Hd (f v) (LW f k K)→aP P C n c (lwQ C n id I O f k K Q) (I v)) (k: ∀v,K (.inr v)→Q .normal (O v)) (h0:Wk C n s (I v0):=by exact b0) (hq:QC C n Q:=by exact qcA):aP P C n (.block id (.loop c)) Q s:=by
 refine aP.block ?_;refine aP.loopJ (ι:=Nat×σ) (fun x=>Hd (loopW f x.1 x.2) K) (fun x=>I x.2) (fun x=>x.1) (k0,v0) H h0 ?_;rintro⟨i,v⟩ hj
 obtain⟨i',rfl,hj'⟩:=lwT (f:=f) (k:=i) (s:=v) hj
 refine aP.mono (round i' v hj') fun e s' h=>?_
 cases e with
 |normal=>
  obtain⟨v',h2,h3⟩:=h
  exact⟨(i',v'),h2,h3,by show i'<i'+1;omega⟩
 |exit j=>
  simp only [lwQ] at h
  show tG id Q (.exit j) s'
  simp only [tG]
  split
  ·rename_i hj;rw [if_pos hj] at h;obtain⟨v',h1,h2⟩:=h;exact hq _ _ _ h2 (k v' h1)
  ·rename_i hj;rw [if_neg hj] at h;exact h
 |_=>exact h
theorem iY{id:Nat}{I:Nat→σ→AS}{O:σ→AS}{f:Nat→σ→Option (LR σ β)}{m i:Nat}{K:β⊕σ→Prop}{e:Exit}(hi:i<m)(h: ∃v,LK f m i K (.next v)∧Wk C n s (I (i+1) v))(he:e= .normal:=by exact rfl):lpQ C n id I O f m i K Q e s:=by subst he;exact⟨hi,h⟩
theorem lS{id:Nat}{I:Nat→σ→AS}{O:σ→AS}{f:Nat→σ→Option (LR σ β)}{m i:Nat}{K:β⊕σ→Prop}{e:Exit}(h: ∃v,K (.inr v)∧Wk C n s (O v))(he:e= .exit id:=by exact rfl):lpQ C n id I O f m i K Q e s:=by
 subst he
 simp only [lpQ,if_pos]
 exact h
theorem lpB{id:Nat}{I:Nat→σ→AS}{O:σ→AS}{f:Nat→σ→Option (LR σ β)}{m i:Nat}{K:β⊕σ→Prop}{e:Exit}(h: ∃v,LK f m i K (.brk v)∧Wk C n s (O v))(he:e= .exit id:=by exact rfl):lpQ C n id I O f m i K Q e s:=lS h he
theorem lwN{id:Nat}{I:σ→AS}{O:σ→AS}{f:σ→Option (LR σ β)}{k:Nat}{K:β⊕σ→Prop}{e:Exit}(h: ∃v,LW f k K (.next v)∧Wk C n s (I v))(he:e= .normal:=by exact rfl):lwQ C n id I O f k K Q e s:=by subst he;exact h
theorem lwB{id:Nat}{I:σ→AS}{O:σ→AS}{f:σ→Option (LR σ β)}{k:Nat}{K:β⊕σ→Prop}{e:Exit}(h: ∃v,LW f k K (.brk v)∧Wk C n s (O v))(he:e= .exit id:=by exact rfl):lwQ C n id I O f k K Q e s:=by
 subst he
 simp only [lwQ,if_pos]
 exact h
theorem d9{β:Type}{K:β→Prop}{x y:Option β}{ops:Array Oper}{l:List Oper}(d:Nat){b:Bool}(H:Hd (sw b x y) K)(h1:b=true→Hd x K→AL P C n ops l Q s)(h0:b=false→Hd y K→AL P C n ops l Q s)(hb:s.lk d=some (.t (.leaf (.bool b))):=by exact rfl):AL P C n ops l Q s:=AL.splitB d hb (fun h=>h1 h (nR H h)) (fun h=>h0 h (nQ H h))
theorem bA{K:β→Prop}{c:Operand}{b:Bool}{x y:Option β}{cx cy:Code}(H:Hd (sw b x y) K)(ht:b=true→Hd x K→aP P C n cx Q s)(hf:b=false→Hd y K→aP P C n cy Q s)(hc:s.ev c=some (.t (.leaf (.bool b))):=by exact rfl):aP P C n (.cond c cx cy) Q s:=
 aP.cond hc (fun h=>ht h (nR H h)) fun h=>hf h (nQ H h)
theorem dV{c:Operand}{b:Bool}{cx cy:Code}(e:b=true)(h:aP P C n cx Q s)(hc:s.ev c=some (.t (.leaf (.bool b))):=by exact rfl):aP P C n (.cond c cx cy) Q s:=aP.cond hc (fun _=>h) fun h=>absurd (e.symm.trans h) (by decide)
theorem iX{c:Operand}{b:Bool}{cx cy:Code}(e:b=false)(h:aP P C n cy Q s)(hc:s.ev c=some (.t (.leaf (.bool b))):=by exact rfl):aP P C n (.cond c cx cy) Q s:=aP.cond hc (fun h=>absurd (e.symm.trans h) (by decide)) fun _=>h
theorem eW{K:β⊕σ→Prop}{f:Nat→σ→Option (LR σ β)}{m i:Nat}{v:σ}{c:Operand}{b:Bool}{cx cy:Code}(H:Hd (loopN f (m-i) i v) K)(ht:b=true→i<m→Hd (f i v) (LK f m i K)→aP P C n cx Q s)(hf:b=false→K (.inr v)→aP P C n cy Q s)(h1:b=true→i<m:=by first|exact sH|exact Y8)(h0:b=false→m≤i:=by first|exact sG|exact Y7)(hc:s.ev c=some (.t (.leaf (.bool b))):=by exact rfl):aP P C n (.cond c cx cy) Q s:=
 aP.cond hc (fun h=>ht h (h1 h) (lnT (h1 h) H)) fun h=>hf h (lnE (h0 h) H)
theorem qI{f:FuncId}{fn:Func}{c:Code}{args:List PV}{pre:c3}{R:PV→c3→Prop}(hf:P.funcs[f]?=some fn)(h: ∀C:oZ,C.st=pre→aP P C fn.ntmps c (xQ P C fn.ntmps fn R) ⟨FF 0 args,pre⟩)(hb:fn.body=some c:=by exact rfl)(hn:args.length≤fn.ntmps:=by first|decide|(simp;done)|(simp;decide)):cY P f args pre R:=cY.intro hf hb hn h
theorem qS{x y:Code}(h:aP P C n x (YB (aP P C n y Q) Q) s):aP P C n (.seq x y) Q s:=aP.seq h
theorem qR{id:Nat}{l:List Oper}(h:AL P C n l.toArray l Q s):aP P C n (.region id l.toArray false) Q s:=aP.region_lit h
theorem qN{ops:Array Oper}(h:Q .normal s):AL P C n ops [] Q s:=AL.nil h
theorem q1{ops:Array Oper}{o:Oper}{rest:List Oper}{s1:AS}(ho:aV P C n o s s1)(h:AL P C n ops rest Q s1)(hg:o.guard=none:=by exact rfl):AL P C n ops (o::rest) Q s:=AL.cons hg ho h
theorem qg{ops:Array Oper}{o:Oper}{rest:List Oper}{s1:AS}{j d:Nat}{b c:Bool}(hv:b=c)(ho:aV P C n o s s1)(h:AL P C n ops rest Q s1)(hg:o.guard=some (j,c):=by exact rfl)(hj:(ops[j]?).bind (·.dst)=some d:=by exact rfl)(hb:s.lk d=some (.t (.leaf (.bool b))):=by exact rfl):AL P C n ops (o::rest) Q s:=AL.cons_gv hg hj hb hv ho h
theorem qk{ops:Array Oper}{o:Oper}{rest:List Oper}{j d:Nat}{b c e:Bool}(hv:b=e)(h:AL P C n ops rest Q (s.putO o.dst (.tup [])))(hg:o.guard=some (j,c):=by exact rfl)(hj:(ops[j]?).bind (·.dst)=some d:=by exact rfl)(hb:s.lk d=some (.t (.leaf (.bool b))):=by exact rfl)(hne:(e==c)=false:=by exact rfl)(hd:bQ o.dst n=true:=by exact rfl):AL P C n ops (o::rest) Q s:=AL.skipP hg hj hb hv hne hd h
theorem GR{ops:Array Oper}{o:Oper}{rest:List Oper}{j d:Nat}{c:Bool}(h:AL P C n ops rest Q (s.putO o.dst (.tup [])))(hg:o.guard=some (j,c):=by exact rfl)(hj:(ops[j]?).bind (·.dst)=some d:=by exact rfl)(hb:s.lk d=some (.tup []):=by exact rfl)(hd:bQ o.dst n=true:=by exact rfl):AL P C n ops (o::rest) Q s:=AL.skipU hg hj hb hd h
theorem qe{fn:Func}{R:PV→c3→Prop}{e:Exit}{ps:List PV}{res q:PV}{st':c3}(hR:R q st':=by exact⟨rfl,rfl⟩)(hr:VG P s fn.results.toList ps)(he:e= .normal∨e= .ret:=by first|exact .inr rfl|exact .inl rfl)(hres:(match ps with| [p]=>p|ps=> .tup ps)=res:=by exact rfl)
 (hst:nH s.st st':=by exact acB) (hp:lC C.st st':=by exact ab0) (hle:PV.Le res q:=by exact lH) (hk:PV.okIn st' q=true:=by exact rfl):xQ P C n fn R e s:=xQ.mk he hr hres hst hp hle hk hR
theorem bM{fn:Func}{R:PV→c3→Prop}{e:Exit}{p q:PV}{st':c3}(hR:R q st':=by exact⟨rfl,rfl⟩)(hr:VG P s fn.results.toList [p]:=by exact⟨rfl,trivial⟩)(he:e= .normal∨e= .ret:=by first|exact .inr rfl|exact .inl rfl)
 (hst:nH s.st st':=by exact acB) (hp:lC C.st st':=by exact ab0) (hle:PV.Le p q:=by exact lH) (hk:PV.okIn st' q=true:=by exact rfl):xQ P C n fn R e s:=xQ.mk he hr rfl hst hp hle hk hR
theorem lB{fn:Func}{R:PV→c3→Prop}{e:Exit}{p1 p2 q:PV}{st':c3}(hR:R q st':=by exact⟨rfl,rfl⟩)(hr:VG P s fn.results.toList [p1,p2]:=by exact⟨rfl,rfl,trivial⟩)(he:e= .normal∨e= .ret:=by first|exact .inr rfl|exact .inl rfl)
 (hst:nH s.st st':=by exact acB) (hp:lC C.st st':=by exact ab0) (hle:PV.Le (.tup [p1,p2]) q:=by exact lH) (hk:PV.okIn st' q=true:=by exact rfl):xQ P C n fn R e s:=xQ.mk he hr rfl hst hp hle hk hR
theorem lR(i:Nat){p:PV}{sz:Nat}{es:List (List Tr)}{N:Nat}{c:Code}(hl:es.length=N)(k:N≤9223372036854775807→aP P C n c Q s)(hx:s.lk i=some p:=by exact rfl)(hp:l4 p=some (sz,es):=by exact rfl):aP P C n c Q s:=aP.fact (MI i hx hp hl) k
theorem szF(i:Nat){v:ByteArray}{c:Code}(k:v.size≤9223372036854775807→aP P C n c Q s)(hx:s.lk i=some (.t (.leaf (.string v))):=by exact rfl):aP P C n c Q s:=aP.fact (fun m a w h=>by
 obtain⟨u,-,hr⟩:=h.env i _ hx
 have h1:v.size≤maxLen:=(cF.leaf_eq hr).2
 unfold maxLen at h1
 omega) k
theorem ah6(i:Nat){p:PV}{sz:Nat}{es:List (List Tr)}{N:Nat}{ops:Array Oper}{l:List Oper}(hl:es.length=N)(k:N≤9223372036854775807→AL P C n ops l Q s)(hx:s.lk i=some p:=by exact rfl)(hp:l4 p=some (sz,es):=by exact rfl):AL P C n ops l Q s:=AL.fact (MI i hx hp hl) k
end
section
variable {P:Program} {C:oZ} {n:Nat}
end
def pk{α:Type}[Inhabited α](l:List α)(j:Nat):α:=l.getD j (l.getLastD default)
instance:Inhabited DS:=⟨⟨[],0,0⟩⟩
instance:Inhabited PV:=⟨.nil⟩
instance:Inhabited c3:=⟨⟨[],[]⟩⟩
instance:Inhabited n8:=⟨⟨0,0,[],false⟩⟩
def evA(s:AS):List Operand→Option (List PV)
 | []=>some []
 |x::xs=>match s.ev x with
  |some p=>match evA s xs with
   |some ps=>some (p::ps)
   |none=>none
  |none=>none
theorem L8{s:AS}: ∀ {xs:List Operand} {ps:List PV},evA s xs=some ps→xs.map s.ev=ps.map some
 | [],ps,h=>by cases h;rfl
 |x::xs,ps,h=>by
  unfold evA at h
  split at h
  ·rename_i p hp
   split at h
   ·rename_i qs hq
    cases h
    rw [List.map_cons,List.map_cons,hp,L8 hq]
   ·cases h
  ·cases h
section
variable {P:Program} {C:oZ} {n:Nat} {s:AS} {o:Oper}
theorem aF{x:Operand}{p:PV}(ho:o.op= .move x∨o.op= .assign x:=by first|exact .inl rfl|exact .inr rfl)(hd:bQ o.dst n=true:=by exact rfl)(hx:s.ev x=some p:=by exact rfl):aV P C n o s (s.putO o.dst p):=aV.move ho hd hx
theorem bG{T:TypeId}{x:Operand}{k d z:Nat}{bx:c5}{p:PV}(hT:b8 P T=some (false,z))(ho:o.op= .load T x:=by exact rfl)(hd:bQ o.dst n=true:=by exact rfl)(hx:s.ev x=some (.ptr k d):=by exact rfl)(hb:s.st.boxes[k]?=some (some bx):=by exact rfl)(hc:bx.cells[d]?=some p:=by exact rfl):aV P C n o s (s.putO o.dst p):=aV.loadPtr1 ho hd hx hb hT hc
theorem cV{T:TypeId}{x:Operand}{k d z:Nat}{bx:c5}(cs:List PV)(hT:b8 P T=some (true,z))(ho:o.op= .load T x:=by exact rfl)(hd:bQ o.dst n=true:=by exact rfl)(hx:s.ev x=some (.ptr k d):=by exact rfl)(hb:s.st.boxes[k]?=some (some bx):=by exact rfl)(hc:(bx.cells.drop d).take z=cs:=by exact rfl)(hl:cs.length=z:=by exact rfl):aV P C n o s (s.putO o.dst (.agg cs)):=aV.loadPtr ho hd hx hb hT hc hl
theorem pZ{T:TypeId}{x:Operand}{z:Nat}{d:Tr}{cs:List Tr}(hT:b8 P T=some (false,z))(ho:o.op= .load T x:=by exact rfl)(hd:bQ o.dst n=true:=by exact rfl)(hx:s.ev x=some (.eptr cs):=by exact rfl)(hc:cs[0]?=some d:=by exact rfl):aV P C n o s (s.putO o.dst (.t d)):=aV.loadEptr1 ho hd hx hT hc
theorem j0{T:TypeId}{x:Operand}{z:Nat}{cs:List Tr}(ds:List Tr)(hT:b8 P T=some (true,z))(ho:o.op= .load T x:=by exact rfl)(hd:bQ o.dst n=true:=by exact rfl)(hx:s.ev x=some (.eptr cs):=by exact rfl)(hc:cs.take z=ds:=by exact rfl)(hl:ds.length=z:=by exact rfl):aV P C n o s (s.putO o.dst (.agg (ds.map PV.t))):=aV.loadEptr ho hd hx hT hc hl
theorem a5{T:TypeId}{x:Operand}{f k d e:Nat}(hf:bB P T f=some e)(ho:o.op= .fieldAddr T x f:=by exact rfl)(hd:bQ o.dst n=true:=by exact rfl)(hx:s.ev x=some (.ptr k d):=by exact rfl):aV P C n o s (s.putO o.dst (.ptr k (d+e))):=aV.fieldPtr ho hd hx hf
theorem qX{T:TypeId}{x:Operand}{f e:Nat}{cs:List Tr}(hf:bB P T f=some e)(ho:o.op= .fieldAddr T x f:=by exact rfl)(hd:bQ o.dst n=true:=by exact rfl)(hx:s.ev x=some (.eptr cs):=by exact rfl):aV P C n o s (s.putO o.dst (.eptr (cs.drop e))):=aV.fieldEptr ho hd hx hf
theorem iV{T:TypeId}{ps:List PV}(hz:cW P T=some ps)(ho:o.op= .alloc T:=by exact rfl)(hd:bQ o.dst n=true:=by exact rfl):aV P C n o s ((⟨s.env,s.st.addBox ⟨T,ps⟩⟩:AS).putO o.dst (.ptr s.st.boxes.length 0)):=aV.alloc ho hd hz
theorem jU{T:TypeId}{x:Operand}{p:PV}(cs:List PV)(ho:o.op= .box T x:=by exact rfl)(hd:bQ o.dst n=true:=by exact rfl)(hx:s.ev x=some p:=by exact rfl)(hc:tV p=cs:=by exact rfl)(ht:sI p=true:=by exact rfl):aV P C n o s ((⟨s.env,s.st.addBox ⟨T,cs⟩⟩:AS).putO o.dst (.ptr s.st.boxes.length 0)):=aV.box ho hd hx hc ht
theorem bU{T:TypeId}{x y:Operand}{k d:Nat}{bx:c5}{p:PV}{cs ds:List PV}(hT:(P.info? T).map (·.size)=some cs.length)(ho:o.op= .store T x y:=by exact rfl)(hx:s.ev x=some (.ptr k d):=by exact rfl)(hb:s.st.boxes[k]?=some (some bx):=by exact rfl)(hy:s.ev y=some p:=by exact rfl)(hc:tV p=cs:=by exact rfl)(ht:sI p=true:=by exact rfl)(hf:EL cs=true:=by exact rfl)
 (hfit:d+cs.length≤bx.cells.length:=by exact Nat.le_of_ble_eq_true rfl) (hds:bx.cells.take d++cs++bx.cells.drop (d+cs.length)=ds:=by exact rfl):aV P C n o s ((⟨s.env,s.st.setBox k ⟨bx.ty,ds⟩⟩:AS).delO o.dst):=aV.storePtr ho hx hb hy hc ht hf hT hfit hds
theorem eT{T:TypeId}{x:Operand}{p:PV}{sz N:Nat}{es:List (List Tr)}{E:Nat×Nat×Nat}(hT:elemOf? P T=some E)(hl:es.length=N)(ho:o.op= .call { callee:= .builtin .len,args:= #[x],argTypes:= #[T] }:=by exact rfl)(hd:bQ o.dst n=true:=by exact rfl)(hx:s.ev x=some p:=by exact rfl)(hp:l4 p=some (sz,es):=by exact rfl):aV P C n o s (s.putO o.dst (.t (.leaf (.int .i64 (N:Int))))):=aV.lenN ho hd hx hp hT hl
theorem eM{T yT:TypeId}{x y:Operand}{k:IntKind}{a b:Int}(ho:o.op= .binOp .eql T x y yT:=by exact rfl)(hd:bQ o.dst n=true:=by exact rfl)(hx:s.ev x=some (.t (.leaf (.int k a))):=by exact rfl)(hy:s.ev y=some (.t (.leaf (.int k b))):=by exact rfl):aV P C n o s (s.putO o.dst (.t (.leaf (.bool (decide (a=b)))))):=aV.eqlI ho hd hx hy
theorem MM{T yT:TypeId}{x y:Operand}{k:IntKind}{a b:Int}(ho:o.op= .binOp .neq T x y yT:=by exact rfl)(hd:bQ o.dst n=true:=by exact rfl)(hx:s.ev x=some (.t (.leaf (.int k a))):=by exact rfl)(hy:s.ev y=some (.t (.leaf (.int k b))):=by exact rfl):aV P C n o s (s.putO o.dst (.t (.leaf (.bool (!decide (a=b)))))):=aV.neqI ho hd hx hy
theorem hZ{T yT:TypeId}{x y:Operand}{k:IntKind}{a b:Int}(ho:o.op= .binOp .lss T x y yT:=by exact rfl)(hd:bQ o.dst n=true:=by exact rfl)(hx:s.ev x=some (.t (.leaf (.int k a))):=by exact rfl)(hy:s.ev y=some (.t (.leaf (.int k b))):=by exact rfl):aV P C n o s (s.putO o.dst (.t (.leaf (.bool (decide (a<b)))))):=aV.lss ho hd hx hy
theorem rLe{T yT:TypeId}{x y:Operand}{k:IntKind}{a b:Int}(ho:o.op= .binOp .leq T x y yT:=by exact rfl)(hd:bQ o.dst n=true:=by exact rfl)(hx:s.ev x=some (.t (.leaf (.int k a))):=by exact rfl)(hy:s.ev y=some (.t (.leaf (.int k b))):=by exact rfl):aV P C n o s (s.putO o.dst (.t (.leaf (.bool (decide (a≤b)))))):=aV.leq ho hd hx hy
theorem IB{T yT:TypeId}{x y:Operand}{k:IntKind}{a b:Int}(ho:o.op= .binOp .gtr T x y yT:=by exact rfl)(hd:bQ o.dst n=true:=by exact rfl)(hx:s.ev x=some (.t (.leaf (.int k a))):=by exact rfl)(hy:s.ev y=some (.t (.leaf (.int k b))):=by exact rfl):aV P C n o s (s.putO o.dst (.t (.leaf (.bool (decide (a>b)))))):=aV.gtr ho hd hx hy
theorem RG{T yT:TypeId}{x y:Operand}{k:IntKind}{a b:Int}(ho:o.op= .binOp .geq T x y yT:=by exact rfl)(hd:bQ o.dst n=true:=by exact rfl)(hx:s.ev x=some (.t (.leaf (.int k a))):=by exact rfl)(hy:s.ev y=some (.t (.leaf (.int k b))):=by exact rfl):aV P C n o s (s.putO o.dst (.t (.leaf (.bool (decide (a≥b)))))):=aV.geq ho hd hx hy
theorem GS{T yT:TypeId}{x y:Operand}{a b:ByteArray}(ho:o.op= .binOp .eql T x y yT:=by exact rfl)(hd:bQ o.dst n=true:=by exact rfl)(hx:s.ev x=some (.t (.leaf (.string a))):=by exact rfl)(hy:s.ev y=some (.t (.leaf (.string b))):=by exact rfl):aV P C n o s (s.putO o.dst (.t (.leaf (.bool (decide (a=b)))))):=aV.eqlS ho hd hx hy
theorem MN{T yT:TypeId}{x y:Operand}{a b:ByteArray}(ho:o.op= .binOp .neq T x y yT:=by exact rfl)(hd:bQ o.dst n=true:=by exact rfl)(hx:s.ev x=some (.t (.leaf (.string a))):=by exact rfl)(hy:s.ev y=some (.t (.leaf (.string b))):=by exact rfl):aV P C n o s (s.putO o.dst (.t (.leaf (.bool (!decide (a=b)))))):=aV.neqS ho hd hx hy
theorem gT{T:TypeId}{x:Operand}{b:Bool}(ho:o.op= .unOp .not T x:=by exact rfl)(hd:bQ o.dst n=true:=by exact rfl)(hx:s.ev x=some (.t (.leaf (.bool b))):=by exact rfl):aV P C n o s (s.putO o.dst (.t (.leaf (.bool (!b))))):=aV.notB ho hd hx
theorem ML{T yT:TypeId}{x y:Operand}{k:IntKind}{a b:Int}(ho:o.op= .binOp .add T x y yT:=by exact rfl)(hd:bQ o.dst n=true:=by exact rfl)(hx:s.ev x=some (.t (.leaf (.int k a))):=by exact rfl)(hy:s.ev y=some (.t (.leaf (.int k b))):=by exact rfl):aV P C n o s (s.putO o.dst (.t (.leaf (.int k (k.wrap (a+b)))))):=aV.addW ho hd hx hy
theorem AF{T yT:TypeId}{x y:Operand}{k:IntKind}{a b:Int}(ho:o.op= .binOp .sub T x y yT:=by exact rfl)(hd:bQ o.dst n=true:=by exact rfl)(hx:s.ev x=some (.t (.leaf (.int k a))):=by exact rfl)(hy:s.ev y=some (.t (.leaf (.int k b))):=by exact rfl):aV P C n o s (s.putO o.dst (.t (.leaf (.int k (k.wrap (a-b)))))):=aV.subW ho hd hx hy
theorem iH{α:Type}[Inhabited α][TC α]{l:List α}{T E sz by_:Nat}{x i:Operand}{p:PV}{k:Nat}(h:k<l.length)(hT:elemOf? P T=some (E,sz,by_))(ho:o.op= .indexAddr T x i:=by exact rfl)(hd:bQ o.dst n=true:=by exact rfl)(hx:s.ev x=some p:=by exact rfl)(hp:l4 p=some (sz,TC.trs l):=by exact rfl)(hi:s.ev i=some (.t (.leaf (.int .i64 (k:Int)))):=by exact rfl):aV P C n o s (s.putO o.dst (.eptr (TC.cs (a3 l k)))):=aV.index ho hd hx hp hi (TC.at_ h) hT
theorem rIy{α:Type}[Inhabited α][TC α]{l:List α}{T E sz by_:Nat}{x i:Operand}{p:PV}{y:Int}(h:0≤y∧y.toNat<l.length)(hT:elemOf? P T=some (E,sz,by_))(ho:o.op= .indexAddr T x i:=by exact rfl)(hd:bQ o.dst n=true:=by exact rfl)(hx:s.ev x=some p:=by exact rfl)(hp:l4 p=some (sz,TC.trs l):=by exact rfl)(hi:s.ev i=some (.t (.leaf (.int .i64 y))):=by exact rfl):aV P C n o s (s.putO o.dst (.eptr (TC.cs (a3 l y.toNat)))):=aV.indexI ho hd hx hp hi h.1 (TC.at_ h.2) hT
theorem yO{α:Type}[Inhabited α][TC α]{l:List α}{T E sz by_:Nat}{x i:Operand}{p:PV}{k:Nat}{z:α}(hz:z=a3 l k)(h:k<l.length)(hT:elemOf? P T=some (E,sz,by_))(ho:o.op= .indexAddr T x i:=by exact rfl)(hd:bQ o.dst n=true:=by exact rfl)(hx:s.ev x=some p:=by exact rfl)(hp:l4 p=some (sz,TC.trs l):=by exact rfl)(hi:s.ev i=some (.t (.leaf (.int .i64 (k:Int)))):=by exact rfl):aV P C n o s (s.putO o.dst (.eptr (TC.cs z))):=by
 subst hz
 exact iH h hT ho hd hx hp hi
theorem rIm{α:Type}[Inhabited α][TC α]{l:List α}{T E sz by_:Nat}{x i:Operand}{p:PV}{y:Int}{z:α}(hz:z=a3 l y.toNat)(h:0≤y∧y.toNat<l.length)(hT:elemOf? P T=some (E,sz,by_))(ho:o.op= .indexAddr T x i:=by exact rfl)(hd:bQ o.dst n=true:=by exact rfl)(hx:s.ev x=some p:=by exact rfl)(hp:l4 p=some (sz,TC.trs l):=by exact rfl)(hi:s.ev i=some (.t (.leaf (.int .i64 y))):=by exact rfl):aV P C n o s (s.putO o.dst (.eptr (TC.cs z))):=by
 subst hz
 exact rIy h hT ho hd hx hp hi
theorem rF1{T:TypeId}{x:Operand}{f e z:Nat}{cs:List PV}{p:PV}(hf:qH P T f=some (e,false,z))(ho:o.op= .field T x f:=by exact rfl)(hd:bQ o.dst n=true:=by exact rfl)(hx:s.ev x=some (.agg cs):=by exact rfl)(hc:cs[e]?=some p:=by exact rfl):aV P C n o s (s.putO o.dst p):=aV.field1 ho hd hx hf hc
theorem y1{x:Operand}{i:Nat}{ps:List PV}{p:PV}(ho:o.op= .extract x i:=by exact rfl)(hd:bQ o.dst n=true:=by exact rfl)(hx:s.ev x=some (.tup ps):=by exact rfl)(hi:ps[i]?=some p:=by exact rfl):aV P C n o s (s.putO o.dst p):=aV.extract ho hd hx hi
theorem f6{T:TypeId}{parts:Array (Nat×Operand)}{ps:List (Nat×List PV)}{zs cs:List PV}{places:List (Nat×Nat)}(hz:cW P T=some zs)(hpl:fZ P T=some places)(ho:o.op= .build T parts:=by exact rfl)(hd:bQ o.dst n=true:=by exact rfl)(hp:nO s parts.toList=some ps:=by exact rfl)(hc:rV (fun i=>places.toArray[i]?) zs ps=some cs:=by exact rfl):aV P C n o s (s.putO o.dst (.agg cs)):=aV.build ho hd hz hpl hp hc
theorem iA{α:Type}[Inhabited α][TC α]{T E by_ len:Nat}{parts:Array (Nat×Operand)}{ps:List (Nat×List PV)}{zs cs:List PV}(l:List α)(hT:elemOf? P T=some (E,TC.sz α,by_))(hz:cW P E=some zs)(ho:o.op= .buildSlice T len parts:=by exact rfl)(hd:bQ o.dst n=true:=by exact rfl)(hp:nO s parts.toList=some ps:=by exact rfl)
 (hc:rV (fun i=>some (i*TC.sz α,TC.sz α)) (List.replicate len zs).flatten ps=some cs:=by exact rfl) (hle:rQ cs ((l.map TC.cs).flatten.map PV.t):=by exact lH) (hel:l.length=len:=by exact rfl) (hsz:0<TC.sz α:=by decide) (hzl:zs.length=TC.sz α:=by exact rfl) (hsm:len*TC.sz α≤16777216:=by decide):aV P C n o s (s.putO o.dst (.t (.row (TC.sz α) (TC.trs l)))):=
 aV.buildSliceE (es:=l.map TC.cs) ho hd hT hz hp hc hle (by rw [List.length_map];exact hel) (fun e he=>TC.all l e (by rw [TC.map];exact he)) hsz hzl hsm (TC.map l).symm
theorem rW{α:Type}[Inhabited α][TC α]{T E by_ len:Nat}{parts:Array (Nat×Operand)}{ps:List (Nat×List PV)}{zs cs:List PV}(l:List α)(hT:elemOf? P T=some (E,TC.sz α,by_))(hz:cW P E=some zs)(ho:o.op= .buildSlice T len parts:=by exact rfl)(hd:bQ o.dst n=true:=by exact rfl)(hp:nO s parts.toList=some ps:=by exact rfl)
 (hc:rV (fun i=>some (i*TC.sz α,TC.sz α)) (List.replicate len zs).flatten ps=some cs:=by exact rfl) (hle:rQ cs ((l.map TC.cs).flatten.map PV.t):=by exact lH) (hel:l.length=len:=by exact rfl) (hsz:0<TC.sz α:=by decide) (hzl:zs.length=TC.sz α:=by exact rfl) (hsm:len*TC.sz α≤16777216:=by decide):aV P C n o s (s.putO o.dst (.lit (TC.sz α) (TC.trs l))):=
 aV.buildSliceLE (es:=l.map TC.cs) ho hd hT hz hp hc hle (by rw [List.length_map];exact hel) (fun e he=>TC.all l e (by rw [TC.map];exact he)) hsz hzl hsm (TC.map l).symm
theorem t2{α:Type}[Inhabited α][TC α]{T E by_ len:Nat}{parts:Array (Nat×Operand)}{ps:List (Nat×List PV)}{zs cs:List PV}(l:List α)(hT:elemOf? P T=some (E,TC.sz α,by_))(hz:cW P E=some zs)(ho:o.op= .buildSlice T len parts:=by exact rfl)(hd:bQ o.dst n=true:=by exact rfl)(hp:nO s parts.toList=some ps:=by exact rfl)
 (hc:rV (fun i=>some (i*TC.sz α,TC.sz α)) (List.replicate len zs).flatten ps=some cs:=by exact rfl) (hle:rQ cs ((l.map TC.cs).flatten.map PV.t):=by exact lH) (hel:l.length=len:=by exact rfl) (hsz:0<TC.sz α:=by decide) (hzl:zs.length=TC.sz α:=by exact rfl) (hsm:len*TC.sz α≤16777216:=by decide):aV P C n o s ((⟨s.env,s.st.addRow ⟨E,TC.sz α,TC.trs l,false⟩⟩:AS).putO o.dst (.acc (TC.sz α) (TC.trs l) s.st.rows.length)):=
 aV.buildSliceA (es:=l.map TC.cs) ho hd hT hz hp hc hle (by rw [List.length_map];exact hel) (fun e he=>TC.all l e (by rw [TC.map];exact he)) hsz hzl hsm (TC.map l).symm
theorem mJ{α:Type}[Inhabited α][TC α]{T E by_:Nat}{x y:Operand}{a b:List α}{r:Nat}{row:n8}{p:PV}(h:a.length+b.length≤68719476736)(hT:elemOf? P T=some (E,TC.sz α,by_))(hz:(P.info? E).bind (fun i=>i.zero.map (fun z=>z.cells.size))=some (TC.sz α))(ho:o.op= .call { callee:= .builtin .append,args:= #[x,y],argTypes:= #[T,T] }:=by exact rfl)(hd:bQ o.dst n=true:=by exact rfl)
 (hx:s.ev x=some (.acc (TC.sz α) (TC.trs a) r):=by exact rfl) (hrow:s.st.rows[r]?=some row:=by exact rfl) (hes:row.es=TC.trs a:=by exact rfl) (hE:row.E=E:=by exact rfl) (hw:row.whole=false:=by exact rfl) (hy:s.ev y=some p:=by exact rfl) (hp:l4 p=some (TC.sz α,TC.trs b):=by exact rfl)
 (hb:0<by_:=by decide) (hb2:by_≤2048:=by decide):aV P C n o s ((⟨s.env,s.st.setRow r { row with es:=TC.trs (a++b) }⟩:AS).putO o.dst (.acc (TC.sz α) (TC.trs (a++b)) r)):=
 aV.appendE ho hd hx hrow hes hE hw hy hp (TC.all b) hT hz hb (by rw [TC.len,TC.len];exact wN h hb2) (TC.app a b)
theorem oO{x:Operand}{k d:Nat}(ho:o.op= .nilCheck x:=by exact rfl)(hd:bQ o.dst n=true:=by exact rfl)(hx:s.ev x=some (.ptr k d):=by exact rfl):aV P C n o s (s.putO o.dst (.ptr k d)):=aV.nilPtr ho hd hx
theorem bR{x y z:Operand}{b:Bool}{p:PV}(hb:b=true)(ho:o.op= .pick x y z:=by exact rfl)(hd:bQ o.dst n=true:=by exact rfl)(hx:s.ev x=some (.t (.leaf (.bool b))):=by exact rfl)(hy:s.ev y=some p:=by exact rfl):aV P C n o s (s.putO o.dst p):=aV.pickT ho hd hx hb hy
theorem b5{x y z:Operand}{b:Bool}{p:PV}(hb:b=false)(ho:o.op= .pick x y z:=by exact rfl)(hd:bQ o.dst n=true:=by exact rfl)(hx:s.ev x=some (.t (.leaf (.bool b))):=by exact rfl)(hy:s.ev z=some p:=by exact rfl):aV P C n o s (s.putO o.dst p):=aV.pickF ho hd hx hb hy
theorem bI{f:FuncId}{fn:Func}{xs:List Operand}{ts:Array TypeId}{ps qs:List PV}{res:PV}(hf:P.funcs[f]?=some fn)(hc:cE P f qs res)(ho:o.op= .call { callee:= .value (.func f),args:=⟨xs⟩,argTypes:=ts }:=by exact rfl)(hd:bQ o.dst n=true:=by exact rfl)(hnm:(fn.name== "runtime.NumGoroutine")=false:=by kernel_rfl)(hb:fn.body.isNone=false:=by exact rfl)
 (hx:evA s xs=some ps:=by exact rfl) (hle:rQ ps qs:=by exact lH) (h1:jM qs=true:=by exact rfl) (h2:PV.free res=true:=by exact rfl):aV P C n o s (s.putO o.dst res):=aV.callF ho hd hf hnm hb (L8 hx) hle h1 h2 hc
theorem rCv{y:Operand}{f:FuncId}{fn:Func}{xs:List Operand}{ts:Array TypeId}{ps cs qs:List PV}{res:PV}(hf:P.funcs[f]?=some fn)(hc:cE P f qs res)(ho:o.op= .call { callee:= .value y,args:=⟨xs⟩,argTypes:=ts }:=by exact rfl)(hd:bQ o.dst n=true:=by exact rfl)(hy:s.ev y=some (.fn f cs):=by exact rfl)(hnm:(fn.name== "runtime.NumGoroutine")=false:=by kernel_rfl)(hb:fn.body.isNone=false:=by exact rfl)
 (hx:evA s xs=some ps:=by exact rfl) (hle:rQ (ps++cs) qs:=by exact lH) (h1:jM qs=true:=by exact rfl) (h2:PV.free res=true:=by exact rfl):aV P C n o s (s.putO o.dst res):=aV.callV ho hd hy hf hnm hb (L8 hx) hle h1 h2 hc
theorem ai8{S pre:c3}{fb fr:List Nat}(hb:n9 S fb fr pre fb pre.boxes:=by repeat' (first|exact trivial|refine⟨⟨_,rfl,rfl,lH,rfl⟩,?_⟩))(hr:qY S fr pre.rows:=by repeat' (first|exact trivial|refine⟨rfl,?_⟩))(h1:fb.Nodup:=by decide)(h2:fr.Nodup:=by decide):mW S pre fb fr:=mW.of hb hr h1 h2
theorem f7{f:FuncId}{fn:Func}{xs:List Operand}{ts:Array TypeId}{ps qs:List PV}{res:PV}{pre st':c3}(fb fr:List Nat)(hf:P.funcs[f]?=some fn)(hc:cY P f qs pre (fun r t=>r=res∧t=st'))(ho:o.op= .call { callee:= .value (.func f),args:=⟨xs⟩,argTypes:=ts }:=by exact rfl)(hd:bQ o.dst n=true:=by exact rfl)(hnm:(fn.name== "runtime.NumGoroutine")=false:=by kernel_rfl)(hb:fn.body.isNone=false:=by exact rfl)
 (hx:evA s xs=some ps:=by exact rfl) (hp:mW s.st pre fb fr:=by exact ai8) (hle:rQ ps (AQ fb fr qs):=by exact lH) (hok:l0 pre qs=true:=by exact rfl) (hbl:st'.boxes.length=pre.boxes.length:=by exact rfl) (hrl:st'.rows.length=pre.rows.length:=by exact rfl):aV P C n o s ((⟨s.env,s.st.over st' fb fr⟩:AS).putO o.dst (PV.ren fb fr res)):=aV.callPE fb fr ho hd hf hnm hb (L8 hx) rfl hp hle hok hbl hrl hc
end
theorem dne{x a b:Int}(h:decide (x=a)=true)(hab:a≠b):decide (x=b)=false:=by
 rw [of_decide_eq_true h]
 exact decide_eq_false hab
theorem abQ{x b:Int}(h:(decide (x=2)||decide (x=3))=true)(h2:2≠b)(h3:3≠b):decide (x=b)=false:=by
 rw [Bool.or_eq_true,decide_eq_true_eq,decide_eq_true_eq] at h
 refine decide_eq_false fun e=>?_
 omega
theorem ahC{x:Int}(h:(decide (x=2)||decide (x=3))=true)(h2:decide (x=2)=false):decide (x=3)=true:=by
 rw [h2,Bool.false_or] at h
 exact h
theorem ai5{x:Int}(h:(decide (x=2)||decide (x=3))=false):decide (x=2)=false:=(Bool.or_eq_false_iff.1 h).1
theorem ai6{x:Int}(h:(decide (x=2)||decide (x=3))=false):decide (x=3)=false:=(Bool.or_eq_false_iff.1 h).2
theorem aV.appendLitBE{P:Program}{C:oZ}{n:Nat}{s:AS}{o:Oper}{T E sz by_:Nat}{x y:Operand}{es1 es2 es3:List (List Tr)}{cs:List PV}{p:PV}{len:Nat}(ho:o.op= .call { callee:= .builtin .append,args:= #[x,y],argTypes:= #[T,T] })(hd:bQ o.dst n=true)
 (hx:s.ev x=some (.lit sz es1)) (hy:s.ev y=some p) (hp:l4 p=some (sz,es2)) (h1: ∀e∈es1,e.length=sz) (h2: ∀e∈es2,e.length=sz) (hne:es2≠ []) (hsz:0<sz)
 (hT:elemOf? P T=some (E,sz,by_)) (hz:(P.info? E).bind (fun i=>i.zero.map (fun z=>z.cells.size))=some sz) (hb:0<by_) (hlen:(es1.length+es2.length)*by_≤140737488355328) (h3:es1++es2=es3) (hcs:es3.flatten.map PV.t=cs) (hl:es1.length+es2.length=len):
 aV P C n o s ((⟨s.env,s.st.addBox ⟨E,cs⟩⟩:AS).putO o.dst (.gsl s.st.boxes.length len)):=aV.appendLitB ho hd hx hy hp h1 h2 hne hsz hT hz hb hlen (by rw [h3];exact hcs) hl
end Go.Proofs.YtpioomclpaiomaaGreat

namespace Go.Proofs.YtpioomclpaiomaaGreat
set_option linter.unusedSimpArgs false
set_option linter.unusedVariables false
open Go.RowKit Go.WalkArith Go.IntWalk Go.WideShapes
section
variable {P:Program} {C:oZ} {n:Nat} {o:Oper}
theorem aeE{a:Act}{K1 K:Act→World→Prop}{Q:Exit→Act→World→Prop}(hv: ∀v w',K1 (a.put o.dst v) w'→K (a.put o.dst v) w')
 (hd: ∀d w',K1 (({ a with defers:=d::a.defers }:Act).put o.dst undef) w'→K (({ a with defers:=d::a.defers }:Act).put o.dst undef) w'): ∀r,o.upon P a K1 Q r→o.upon P a K Q r:=by
 intro r h
 cases r with
 |ok x w'=>
  cases x with
  |value v=>exact hv v w' h
  |skip=>exact hv undef w' h
  |defer d=>exact hd d w' h
  |enter f args=>
   refine Calls.mono h fun e w'' he=>?_
   cases e with
   |returned v=>exact hv v w'' he
   |panicked c=>exact he
   |outgrown=>exact he
  |row r args=>exact Rows.mono h fun v w'' he=>hv v w'' he
  |_=>exact h
 |halt x w'=>
  cases x with
  |panic v=>exact h
  |_=>exact h
theorem SM(s:AS)(d:Nat)(p:PV)(i:Nat):(s.putO (some d) p).lk i=if i=d then some p else s.lk i:=AS.lk_put s d i p
theorem aV.frame{E:List (Nat×PV)}{st st1:c3}{p:PV}{s':AS}(h: ∀C',aV P C' n o ⟨E,st⟩ ((⟨E,st1⟩:AS).putO o.dst p))(hst:s'.st=st)(hl: ∀t q,E.lookup t=some q→s'.lk t=some q):
 aV P C n o s' ((⟨s'.env,st1⟩:AS).putO o.dst p):=fun m a w hr K Q hK=>by
 subst hst
 have hr':RA ⟨C.av,s'.st,m,w⟩ n ⟨E,s'.st⟩ m a w:=⟨hr.dfr,hr.tsz,hr.sto,fun i q hq=>hr.env i q (hl i q hq),Ev.refl _ _ _⟩
 have h1:=h ⟨C.av,s'.st,m,w⟩ m a w hr' (fun a' w'=> ∃m',RA ⟨C.av,s'.st,m,w⟩ n ((⟨E,st1⟩:AS).putO o.dst p) m' a' w') Q (fun m' a' w' h=>⟨m',h⟩)
 unfold Oper.wp at h1 ⊢
 refine aeE (fun v w'=>?_) (fun d w'=>?_) _ h1
 ·rintro⟨m',h2⟩
  refine hK m' _ w' ?_
  have key: ∀(dst:Option Nat),dst=o.dst→RA C n ((⟨s'.env,st1⟩:AS).putO dst p) m' (a.put dst v) w':=fun dst hdst=>by
   rw [← hdst] at h2
   cases dst with
   |none=>
    have hE:Ev s'.st m w st1 m' w':=h2.ev
    exact⟨h2.dfr,h2.tsz,h2.sto,fun i q hq=>by
     obtain⟨v',hv',hrv⟩:=hr.env i q hq
     exact⟨v',hv',RV.mono hE q v' hrv⟩,hr.ev.trans hE⟩
   |some d=>
    have hE:Ev s'.st m w st1 m' w':=h2.ev
    refine⟨h2.dfr,h2.tsz,h2.sto,fun i q hq=>?_,hr.ev.trans hE⟩
    rw [SM] at hq
    by_cases hi:i=d
    ·rw [if_pos hi] at hq
     cases hq
     exact h2.env i _ (by rw [SM,if_pos hi])
    ·rw [if_neg hi] at hq
     obtain⟨v',hv',hrv⟩:=hr.env i q hq
     exact⟨v',by simp only [Act.put];rw [Array.getElem?_setIfInBounds_ne (fun e=>hi e.symm)];exact hv',RV.mono hE q v' hrv⟩
  exact key o.dst rfl
 ·rintro⟨m',h2⟩
  have h3:=h2.dfr
  have h4:(({ a with defers:=d::a.defers }:Act).put o.dst undef).defers=d::a.defers:=by
   cases o.dst<;>rfl
  rw [h4] at h3
  cases h3
theorem aV.frame0{E:List (Nat×PV)}{st st1:c3}{s':AS}(hn:o.dst=none)(h: ∀C',aV P C' n o ⟨E,st⟩ ⟨E,st1⟩)(hst:s'.st=st)(hl: ∀t q,E.lookup t=some q→s'.lk t=some q):
 aV P C n o s' ⟨s'.env,st1⟩:=by
 have:=aV.frame (C:=C) (P:=P) (n:=n) (o:=o) (p:= .nil) (E:=E) (st:=st) (st1:=st1) (s':=s') (by rw [hn];exact h) hst hl
 rw [hn] at this
 exact this
structure DD where
 outs:List (Option PV)
 ks:List (Option DK)
 ins:List (List Nat)
 effs:List Nat
 fs:List (Option c5→c3)
 rds:List ((Nat×Nat)×Nat×Option (Option c5))
 az:Option (Nat×c5)
def DD.cz(g:DD):Option c5:=g.az.map (·.2)
def ab:Option c5→c3→c3
 |none,st=>st
 |some z,st=>st.addBox z
def FG:c3:=⟨[],[⟨0,0,[],false⟩]⟩
def tw(st:c3):Option c5→c3
 |none=>FG
 |some _=>st
theorem agC{C:oZ}{n:Nat}{env:List (Nat×PV)}{m:jD}{a:Act}{w:World}(h:RA C n ⟨env,FG⟩ m a w):False:=by
 have:=(h.sto.row 0 ⟨0,0,[],false⟩ rfl).1
 exact absurd this (by decide)
theorem aV.bad{P:Program}{C:oZ}{n:Nat}{o:Oper}{s s1:AS}(hs:s.st=FG):aV P C n o s s1:=fun m a w hr K Q hK=>by
 obtain⟨env,st⟩:=s
 cases hs
 exact(agC hr).elim
theorem aV.away{P:Program}{C:oZ}{n:Nat}{o:Oper}{s s1:AS}{t k off:Nat}(hl:s.lk t=some (.ptr k off))(hk:s.st.boxes[k]?=none):aV P C n o s s1:=fun m a w hr K Q hK=>by
 obtain⟨v,-,⟨x,hx⟩,-⟩:=hr.env t _ hl
 rw [hk] at hx
 cases hx
def rs(s:AS):List Nat→List (Nat×PV)
 | []=> []
 |t::ts=>match s.lk t with
  |some p=>(t,p)::rs s ts
  |none=>rs s ts
theorem ab6{s:AS}{t:Nat}{q:PV}: ∀ {I:List Nat},(rs s I).lookup t=some q→t∈I∧s.lk t=some q
 | [],h=>by cases h
 |x::I,h=>by
  unfold rs at h
  cases hx:s.lk x with
  |none=>
   rw [hx] at h
   obtain⟨h1,h2⟩:=ab6 (I:=I) h
   exact⟨.tail _ h1,h2⟩
  |some p=>
   rw [hx] at h
   dsimp only at h
   rw [List.lookup_cons] at h
   by_cases htx:t=x
   ·subst htx
    simp only [BEq.rfl] at h
    cases h
    exact⟨.head _,hx⟩
   ·rw [show(t==x)=false by simp [htx]] at h
    obtain⟨h1,h2⟩:=ab6 (I:=I) h
    exact⟨.tail _ h1,h2⟩
def RR(l:List Oper)(e0:List (Nat×PV))(outs:List (Option PV))(i t:Nat)(p:PV):Prop:=
 (∃(j:Nat) (o:Oper),j<i∧l[j]?=some o∧o.dst=some t∧outs[j]?=some (some p))∨(e0.lookup t=some p∧ ∀(j:Nat) (o:Oper),j<i→l[j]?=some o→o.dst≠some t)
inductive WD (l:List Oper) (e0:List (Nat×PV)) (outs:List (Option PV)) (i:Nat) (o:Oper):Bool→Prop
 |n:o.guard=none→WD l e0 outs i o true
 |y {j d:Nat} {b c:Bool}:o.guard=some (j,c)→(l[j]?).bind (·.dst)=some d→RR l e0 outs i d (.t (.leaf (.bool b)))→WD l e0 outs i o (b==c)
 |u {j d:Nat} {c:Bool}:o.guard=some (j,c)→(l[j]?).bind (·.dst)=some d→RR l e0 outs i d (.tup [])→WD l e0 outs i o false
inductive WS (l:List Oper) (s:AS) (o:Oper):Bool→Prop
 |n:o.guard=none→WS l s o true
 |y {j d:Nat} {b c:Bool}:o.guard=some (j,c)→(l[j]?).bind (·.dst)=some d→s.lk d=some (.t (.leaf (.bool b)))→WS l s o (b==c)
 |u {j d:Nat} {c:Bool}:o.guard=some (j,c)→(l[j]?).bind (·.dst)=some d→s.lk d=some (.tup [])→WS l s o false
inductive KG (P:Program) (n N:Nat) (md:Bool) (g:DD) (i:Nat) (o:Oper) (E:List (Nat×PV)):Prop
 |q {p:PV}:g.ks[i]?=some none→g.outs[i]?=some (some p)→(∀C' st,aV P C' n o ⟨E,st⟩ ((⟨E,st⟩:AS).putO o.dst p))→KG P n N md g i o E
 |r {lo hi k:Nat} {X:Option (Option c5)} {p:PV}:g.ks[i]?=some (some (.q lo hi))→g.outs[i]?=some (some p)→((lo,hi),k,X)∈g.rds→(md=true→k<N)→(∀C' (st:c3),st.boxes[k]?=X→aV P C' n o ⟨E,st⟩ ((⟨E,st⟩:AS).putO o.dst p))→KG P n N md g i o E
 |c {j:Nat} {f:Option c5→c3} {p:PV}:g.ks[i]?=some (some (.q j j))→g.outs[i]?=some (some p)→g.fs[j]?=some f→(∀C' z,aV P C' n o ⟨E,f z⟩ ((⟨E,f z⟩:AS).putO o.dst p))→KG P n N md g i o E
 |e {j:Nat} {f f1:Option c5→c3} {p:PV}:g.ks[i]?=some (some (.ef j))→g.outs[i]?=some (some p)→g.fs[j]?=some f→g.fs[j+1]?=some f1→(∀C' z,aV P C' n o ⟨E,f z⟩ ((⟨E,f1 z⟩:AS).putO o.dst p))→KG P n N md g i o E
 |e0 {j:Nat} {f f1:Option c5→c3}:g.ks[i]?=some (some (.ef j))→o.dst=none→g.fs[j]?=some f→g.fs[j+1]?=some f1→(∀C' z,aV P C' n o ⟨E,f z⟩ ⟨E,f1 z⟩)→KG P n N md g i o E
 |ea {j a t off:Nat} {zb:c5} {f f1:Option c5→c3}:g.az=some (a,zb)→g.ks[i]?=some (some (.ef j))→o.dst=none→g.fs[j]?=some f→g.fs[j+1]?=some f1→E.lookup t=some (.ptr N off)→(f none=FG∨(f none).boxes.length=N)→(∀C',aV P C' n o ⟨E,f (some zb)⟩ ⟨E,f1 (some zb)⟩)→KG P n N md g i o E
 |al {zb:c5}:md=true→g.az=some (i,zb)→g.ks[i]?=some (some .al)→g.outs[i]?=some (some (.ptr N 0))→(∀C' st,st.boxes.length=N→aV P C' n o ⟨[],st⟩ ((⟨[],st.addBox zb⟩:AS).putO o.dst (.ptr N 0)))→KG P n N md g i o E
inductive MT (P:Program) (n N:Nat) (md:Bool) (l:List Oper) (e0:List (Nat×PV)) (g:DD) (i:Nat) (o:Oper):Prop
 |does {E:List (Nat×PV)} {I:List Nat}:WD l e0 g.outs i o true→g.ins[i]?=some I→(∀t q,E.lookup t=some q→t∈I∧RR l e0 g.outs i t q)→KG P n N md g i o E→MT P n N md l e0 g i o
 |skip:WD l e0 g.outs i o false→g.ks[i]?=some none→g.outs[i]?=some (some (.tup []))→bQ o.dst n=true→MT P n N md l e0 g i o
structure DD.le (g g':DD):Prop where
 outs: ∀(i:Nat) (x:Option PV),g.outs[i]?=some x→g'.outs[i]?=some x
 ks: ∀(i:Nat) (x:Option DK),g.ks[i]?=some x→g'.ks[i]?=some x
 ins: ∀(i:Nat) (x:List Nat),g.ins[i]?=some x→g'.ins[i]?=some x
 fs: ∀(i:Nat) (x:Option c5→c3),g.fs[i]?=some x→g'.fs[i]?=some x
 rds: ∀x∈g.rds,x∈g'.rds
 az: ∀x,g.az=some x→g'.az=some x
theorem KE{g g':DD}(h:g.le g'){l:List Oper}{e0:List (Nat×PV)}{i t:Nat}{p:PV}(k:RR l e0 g.outs i t p):RR l e0 g'.outs i t p:=by
 rcases k with⟨j,o,h1,h2,h3,h4⟩|k
 ·exact .inl ⟨j,o,h1,h2,h3,h.outs _ _ h4⟩
 ·exact .inr k
theorem acC{g g':DD}(h:g.le g'){l:List Oper}{e0:List (Nat×PV)}{i:Nat}{o:Oper}{b:Bool}(k:WD l e0 g.outs i o b):WD l e0 g'.outs i o b:=by
 cases k with
 |n a=>exact .n a
 |y a b c=>exact .y a b (KE h c)
 |u a b c=>exact .u a b (KE h c)
theorem MT.mono{N:Nat}{md:Bool}{l:List Oper}{e0:List (Nat×PV)}{g g':DD}{i:Nat}{o:Oper}(h:g.le g')(k:MT P n N md l e0 g i o):MT P n N md l e0 g' i o:=by
 cases k with
 |does h1 h2 h3 h4=>
  refine .does (acC h h1) (h.ins _ _ h2) (fun t q ht=>⟨(h3 t q ht).1,KE h (h3 t q ht).2⟩) ?_
  cases h4 with
  |q a b c=>exact .q (h.ks _ _ a) (h.outs _ _ b) c
  |r a b c d e=>exact .r (h.ks _ _ a) (h.outs _ _ b) (h.rds _ c) d e
  |c a b c d=>exact .c (h.ks _ _ a) (h.outs _ _ b) (h.fs _ _ c) d
  |e a b c d e=>exact .e (h.ks _ _ a) (h.outs _ _ b) (h.fs _ _ c) (h.fs _ _ d) e
  |e0 a b c d e=>exact .e0 (h.ks _ _ a) b (h.fs _ _ c) (h.fs _ _ d) e
  |ea z a b c d e f q=>exact .ea (h.az _ z) (h.ks _ _ a) b (h.fs _ _ c) (h.fs _ _ d) e f q
  |al md z a b c=>exact .al md (h.az _ z) (h.ks _ _ a) (h.outs _ _ b) c
 |skip h1 h2 h3 h4=>exact .skip (acC h h1) (h.ks _ _ h2) (h.outs _ _ h3) h4
structure acE (P:Program) (n:Nat) (md:Bool) (l:List Oper) (s0:AS) (g:DD) (s:AS):Prop where
 hs0: ∃f,g.fs[0]?=some f∧f none=s0.st
 hfl:g.fs.length=g.effs.length+1
 hlast: ∃f,g.fs[g.effs.length]?=some f∧f g.cz=s.st∧(md=false→f=fun _=>s.st)∧(md=true→g.az=none→f=fun z=>ab z s.st)
 hk:g.ks.length=g.outs.length
 hi:g.ins.length=g.outs.length
 hz:md=true→ ∀f∈g.fs,f none=FG∨((f none).boxes.length=s0.st.boxes.length∧ ∀z,f (some z)=(f none).addBox z)
 hm:md=false→g.az=none
 hlk: ∀t p,s.lk t=some p→RR l s0.env g.outs g.outs.length t p
 hf: ∀(i:Nat) (o:Oper),l[i]?=some o→i<g.outs.length→MT P n s0.st.boxes.length md l s0.env g i o
def DW(P:Program)(C:oZ)(n id:Nat)(md:Bool)(l:List Oper)(Q:Exit→AS→Prop)(s0:AS)(g:DD)(s:AS)(rest:List Oper):Prop:=
 acE P n md l s0 g s→l.drop g.outs.length=rest→aP P C n (.region id l.toArray true) Q s0
variable {id:Nat} {l:List Oper} {Q:Exit→AS→Prop} {s0 s:AS} {g:DD} {rest:List Oper} {md:Bool}
theorem dW(h:DW P C n id false l Q s ⟨[],[],[],[],[fun _=>s.st],[],none⟩ s l):aP P C n (.region id l.toArray true) Q s:=
 h ⟨⟨_,rfl,rfl⟩,rfl,⟨_,rfl,rfl,fun _=>rfl,fun h=>(by cases h)⟩,rfl,rfl,fun h=>(by cases h),fun _=>rfl,fun t p ht=> .inr ⟨ht,fun j o hj=>(by cases hj)⟩,fun i o _ hi=>(by cases hi)⟩ rfl
theorem dWa(h:DW P C n id true l Q s ⟨[],[],[],[],[fun z=>ab z s.st],[],none⟩ s l):aP P C n (.region id l.toArray true) Q s:=
 h ⟨⟨_,rfl,rfl⟩,rfl,⟨_,rfl,rfl,fun h=>(by cases h),fun _ _=>rfl⟩,rfl,rfl,fun _ f hf=>(by obtain rfl:=List.mem_singleton.1 hf;exact .inr ⟨rfl,fun z=>rfl⟩),fun h=>(by cases h),fun t p ht=> .inr ⟨ht,fun j o hj=>by cases hj⟩,fun i o _ hi=>by cases hi⟩ rfl
theorem c8{α:Type}{l:List α}{y:α}(i:Nat)(x:α)(h:l[i]?=some x):(l++ [y])[i]?=some x:=by
 obtain⟨hi,-⟩:=List.getElem?_eq_some_iff.1 h
 rw [List.getElem?_append_left hi]
 exact h
theorem b4{α:Type}{l:List α}{y:α}{k:Nat}(h:l.length=k):(l++ [y])[k]?=some y:=by subst h;simp
theorem s4{o:Oper}(h:l.drop g.outs.length=o::rest):l[g.outs.length]?=some o∧l.drop (g.outs.length+1)=rest:=by
 constructor
 ·have:=congrArg (fun x=>x[0]?) h
  simpa using this
 ·rw [← List.drop_drop,h]
  rfl
theorem acE.next{g':DD}{s':AS}(hv:acE P n md l s0 g s)(ho:l[g.outs.length]?=some o)(hle:g.le g')(h0:g'.outs.length=g.outs.length+1)(hk:g'.ks.length=g.ks.length+1)(hi:g'.ins.length=g.ins.length+1)(hfl:g'.fs.length=g'.effs.length+1)
 (hlast: ∃f,g'.fs[g'.effs.length]?=some f∧f g'.cz=s'.st∧(md=false→f=fun _=>s'.st)∧(md=true→g'.az=none→f=fun z=>ab z s'.st)) (hz:md=true→ ∀f∈g'.fs,f none=FG∨((f none).boxes.length=s0.st.boxes.length∧ ∀z,f (some z)=(f none).addBox z)) (hm:md=false→g'.az=none)
 (hlk: ∀t p,s'.lk t=some p→(o.dst=some t∧g'.outs[g.outs.length]?=some (some p))∨(o.dst≠some t∧s.lk t=some p)) (hf:MT P n s0.st.boxes.length md l s0.env g' g.outs.length o):acE P n md l s0 g' s' where
 hs0:=by obtain⟨f,h1,h2⟩:=hv.hs0;exact⟨f,hle.fs _ _ h1,h2⟩
 hfl:=hfl
 hlast:=hlast
 hk:=by rw [hk,h0,hv.hk]
 hi:=by rw [hi,h0,hv.hi]
 hz:=hz
 hm:=hm
 hlk:=fun t p ht=>by
  rcases hlk t p ht with⟨h1,h2⟩|⟨h1,h2⟩
  ·exact .inl ⟨_,o,by omega,ho,h1,h2⟩
  ·rcases hv.hlk t p h2 with⟨j,oj,a,b,c,d⟩|⟨a,b⟩
   ·exact .inl ⟨j,oj,by omega,b,c,hle.outs _ _ d⟩
   ·refine .inr ⟨a,fun j oj hj hoj=>?_⟩
    rcases Nat.lt_or_ge j g.outs.length with hlt|hge
    ·exact b j oj hlt hoj
    ·obtain rfl:j=g.outs.length:=by omega
     rw [ho] at hoj
     cases hoj
     exact h1
 hf:=fun i oi hoi hi'=>by
  rcases Nat.lt_or_ge i g.outs.length with hlt|hge
  ·exact(hv.hf i oi hoi hlt).mono hle
  ·obtain rfl:i=g.outs.length:=by omega
   rw [ho] at hoi
   cases hoi
   exact hf
theorem wM{st1:c3}{p:PV}(t:Nat)(q:PV)(outs:List (Option PV))(k:Nat)(hk:outs[k]?=some (some p))(h:((⟨s.env,st1⟩:AS).putO o.dst p).lk t=some q):(o.dst=some t∧outs[k]?=some (some q))∨(o.dst≠some t∧s.lk t=some q):=by
 cases hd:o.dst with
 |none=>rw [hd] at h;exact .inr ⟨by simp,h⟩
 |some d=>
  rw [hd,SM] at h
  by_cases htd:t=d
  ·rw [if_pos htd] at h
   cases h
   exact .inl ⟨by rw [htd],hk⟩
  ·rw [if_neg htd] at h
   exact .inr ⟨fun e=>htd (Option.some.inj e).symm,h⟩
theorem wZ(s:AS)(d:Option Nat)(p:PV):(s.putO d p).st=s.st:=by cases d<;>rfl
theorem WS.wd{g':DD}{b:Bool}(h:WS l s o b)(hv:acE P n md l s0 g s)(hle:g.le g'):WD l s0.env g'.outs g.outs.length o b:=by
 cases h with
 |n a=>exact .n a
 |y a b c=>exact .y a b (KE hle (hv.hlk _ _ c))
 |u a b c=>exact .u a b (KE hle (hv.hlk _ _ c))
theorem BS{g':DD}(hv:acE P n md l s0 g s)(hle:g.le g')(I:List Nat): ∀t q,(rs s I).lookup t=some q→t∈I∧RR l s0.env g'.outs g.outs.length t q:=fun t q h=>⟨(ab6 h).1,KE hle (hv.hlk t q (ab6 h).2)⟩
theorem dI(I:List Nat){p:PV}(h: ∀ {C':oZ} {st:c3},aV P C' n o ⟨rs s I,st⟩ ((⟨rs s I,st⟩:AS).putO o.dst p))(k:DW P C n id md l Q s0 ⟨g.outs++ [some p],g.ks++ [none],g.ins++ [I],g.effs,g.fs,g.rds,g.az⟩ (s.putO o.dst p) rest)(hg:WS l s o true:=by exact .n rfl):
 DW P C n id md l Q s0 g s (o::rest):=fun hv hr=>by
 obtain⟨ho,hd⟩:=s4 hr
 have hle:g.le ⟨g.outs++ [some p],g.ks++ [none],g.ins++ [I],g.effs,g.fs,g.rds,g.az⟩:=⟨c8,c8,c8,fun _ _ h=>h,fun _ h=>h,fun _ h=>h⟩
 refine k (hv.next ho hle (by simp) (by simp) (by simp) hv.hfl (by rw [wZ];exact hv.hlast) hv.hz hv.hm (fun t q hq=>wM t q _ _ (b4 rfl) hq) ?_) (by simpa using hd)
 exact .does (hg.wd hv hle) (b4 hv.hi) (BS hv hle I) (.q (b4 hv.hk) (b4 rfl) fun _ _=>h)
theorem dD(I:List Nat){p:PV}(h: ∀ {C':oZ},aV P C' n o ⟨rs s I,s.st⟩ ((⟨rs s I,s.st⟩:AS).putO o.dst p))(k:DW P C n id false l Q s0 ⟨g.outs++ [some p],g.ks++ [some (.q g.effs.length g.effs.length)],g.ins++ [I],g.effs,g.fs,g.rds,g.az⟩ (s.putO o.dst p) rest)(hg:WS l s o true:=by exact .n rfl):
 DW P C n id false l Q s0 g s (o::rest):=fun hv hr=>by
 obtain⟨ho,hd⟩:=s4 hr
 obtain⟨f,q1,-,q2,-⟩:=hv.hlast
 have q2:=q2 rfl
 subst q2
 have hle:g.le ⟨g.outs++ [some p],g.ks++ [some (.q g.effs.length g.effs.length)],g.ins++ [I],g.effs,g.fs,g.rds,g.az⟩:=⟨c8,c8,c8,fun _ _ h=>h,fun _ h=>h,fun _ h=>h⟩
 refine k (hv.next ho hle (by simp) (by simp) (by simp) hv.hfl (by rw [wZ];exact hv.hlast) hv.hz hv.hm (fun t q hq=>wM t q _ _ (b4 rfl) hq) ?_) (by simpa using hd)
 exact .does (hg.wd hv hle) (b4 hv.hi) (BS hv hle I) (.c (b4 hv.hk) (b4 rfl) q1 fun _ _=>h)
def af9(P:Program)(n:Nat)(o:Oper)(s:AS)(I:List Nat)(kb:Nat)(X:Option (Option c5))(p:PV):Prop:= ∀C' (st:c3),st.boxes[kb]?=X→aV P C' n o ⟨rs s I,st⟩ ((⟨rs s I,st⟩:AS).putO o.dst p)
theorem dB(I:List Nat)(lo hi:Nat){kb:Nat}{X:Option (Option c5)}{p:PV}(h:af9 P n o s I kb X p)(k:DW P C n id false l Q s0 ⟨g.outs++ [some p],g.ks++ [some (.q lo hi)],g.ins++ [I],g.effs,g.fs,g.rds++ [((lo,hi),kb,X)],g.az⟩ (s.putO o.dst p) rest)(hg:WS l s o true:=by exact .n rfl):
 DW P C n id false l Q s0 g s (o::rest):=fun hv hr=>by
 obtain⟨ho,hd⟩:=s4 hr
 have hle:g.le ⟨g.outs++ [some p],g.ks++ [some (.q lo hi)],g.ins++ [I],g.effs,g.fs,g.rds++ [((lo,hi),kb,X)],g.az⟩:=⟨c8,c8,c8,fun _ _ h=>h,fun _ h=>List.mem_append_left _ h,fun _ h=>h⟩
 refine k (hv.next ho hle (by simp) (by simp) (by simp) hv.hfl (by rw [wZ];exact hv.hlast) hv.hz hv.hm (fun t q hq=>wM t q _ _ (b4 rfl) hq) ?_) (by simpa using hd)
 exact .does (hg.wd hv hle) (b4 hv.hi) (BS hv hle I) (.r (b4 hv.hk) (b4 rfl) (by simp) (fun h=>by cases h) h)
theorem dBz(I:List Nat)(lo hi:Nat){kb:Nat}{X:Option (Option c5)}{p:PV}(h:af9 P n o s I kb X p)(k:DW P C n id true l Q s0 ⟨g.outs++ [some p],g.ks++ [some (.q lo hi)],g.ins++ [I],g.effs,g.fs,g.rds++ [((lo,hi),kb,X)],g.az⟩ (s.putO o.dst p) rest)(hg:WS l s o true:=by exact .n rfl)(hkN:(decide (kb<s0.st.boxes.length))=true:=by exact rfl):
 DW P C n id true l Q s0 g s (o::rest):=fun hv hr=>by
 obtain⟨ho,hd⟩:=s4 hr
 have hle:g.le ⟨g.outs++ [some p],g.ks++ [some (.q lo hi)],g.ins++ [I],g.effs,g.fs,g.rds++ [((lo,hi),kb,X)],g.az⟩:=⟨c8,c8,c8,fun _ _ h=>h,fun _ h=>List.mem_append_left _ h,fun _ h=>h⟩
 refine k (hv.next ho hle (by simp) (by simp) (by simp) hv.hfl (by rw [wZ];exact hv.hlast) hv.hz hv.hm (fun t q hq=>wM t q _ _ (b4 rfl) hq) ?_) (by simpa using hd)
 exact .does (hg.wd hv hle) (b4 hv.hi) (BS hv hle I) (.r (b4 hv.hk) (b4 rfl) (by simp) (fun _=>of_decide_eq_true hkN) h)
theorem vC{I:List Nat}{T:TypeId}{x:Operand}{kb d z:Nat}{bx:c5}{p:PV}(hT:b8 P T=some (false,z))
 (ho:o.op= .load T x:=by exact rfl) (hd:bQ o.dst n=true:=by exact rfl) (hx:(⟨rs s I,s.st⟩:AS).ev x=some (.ptr kb d):=by exact rfl) (hb:s.st.boxes[kb]?=some (some bx):=by exact rfl) (hc:bx.cells[d]?=some p:=by exact rfl):af9 P n o s I kb (some (some bx)) p:=
 fun C' st hst=>aV.loadPtr1 ho hd (by cases x<;>exact hx) hst hT hc
theorem UU{I:List Nat}{T:TypeId}{x:Operand}{kb d z:Nat}{bx:c5}(cs:List PV)(hT:b8 P T=some (true,z))
 (ho:o.op= .load T x:=by exact rfl) (hd:bQ o.dst n=true:=by exact rfl) (hx:(⟨rs s I,s.st⟩:AS).ev x=some (.ptr kb d):=by exact rfl) (hb:s.st.boxes[kb]?=some (some bx):=by exact rfl) (hc:(bx.cells.drop d).take z=cs:=by exact rfl) (hl:cs.length=z:=by exact rfl):af9 P n o s I kb (some (some bx)) (.agg cs):=
 fun C' st hst=>aV.loadPtr ho hd (by cases x<;>exact hx) hst hT hc hl
theorem dE(I:List Nat){p:PV}{st1:c3}(h: ∀ {C':oZ},aV P C' n o ⟨rs s I,s.st⟩ ((⟨rs s I,st1⟩:AS).putO o.dst p))(k:DW P C n id false l Q s0 ⟨g.outs++ [some p],g.ks++ [some (.ef g.effs.length)],g.ins++ [I],g.effs++ [g.outs.length],g.fs++ [fun _=>st1],g.rds,g.az⟩ ((⟨s.env,st1⟩:AS).putO o.dst p) rest)(hg:WS l s o true:=by exact .n rfl):
 DW P C n id false l Q s0 g s (o::rest):=fun hv hr=>by
 obtain⟨ho,hd⟩:=s4 hr
 obtain⟨f,q1,-,q2,-⟩:=hv.hlast
 have q2:=q2 rfl
 subst q2
 have hle:g.le ⟨g.outs++ [some p],g.ks++ [some (.ef g.effs.length)],g.ins++ [I],g.effs++ [g.outs.length],g.fs++ [fun _=>st1],g.rds,g.az⟩:=⟨c8,c8,c8,c8,fun _ h=>h,fun _ h=>h⟩
 refine k (hv.next ho hle (by simp) (by simp) (by simp) (by simp [hv.hfl]) (by rw [wZ];exact⟨_,b4 (by simp [hv.hfl]),rfl,fun _=>rfl,fun h=>by cases h⟩) (fun h=>by cases h) hv.hm (fun t q hq=>wM t q _ _ (b4 rfl) hq) ?_) (by simpa using hd)
 exact .does (hg.wd hv hle) (b4 hv.hi) (BS hv hle I) (.e (b4 hv.hk) (b4 rfl) (hle.fs _ _ q1) (b4 hv.hfl) fun _ _=>h)
theorem nI(I:List Nat){st1:c3}(h: ∀ {C':oZ},aV P C' n o ⟨rs s I,s.st⟩ ⟨rs s I,st1⟩)(k:DW P C n id false l Q s0 ⟨g.outs++ [none],g.ks++ [some (.ef g.effs.length)],g.ins++ [I],g.effs++ [g.outs.length],g.fs++ [fun _=>st1],g.rds,g.az⟩ ⟨s.env,st1⟩ rest)(hn:o.dst=none:=by exact rfl)(hg:WS l s o true:=by exact .n rfl):
 DW P C n id false l Q s0 g s (o::rest):=fun hv hr=>by
 obtain⟨ho,hd⟩:=s4 hr
 obtain⟨f,q1,-,q2,-⟩:=hv.hlast
 have q2:=q2 rfl
 subst q2
 have hle:g.le ⟨g.outs++ [none],g.ks++ [some (.ef g.effs.length)],g.ins++ [I],g.effs++ [g.outs.length],g.fs++ [fun _=>st1],g.rds,g.az⟩:=⟨c8,c8,c8,c8,fun _ h=>h,fun _ h=>h⟩
 refine k (hv.next ho hle (by simp) (by simp) (by simp) (by simp [hv.hfl]) ⟨_,b4 (by simp [hv.hfl]),rfl,fun _=>rfl,fun h=>by cases h⟩ (fun h=>by cases h) hv.hm (fun t q hq=> .inr ⟨by rw [hn];simp,hq⟩) ?_) (by simpa using hd)
 exact .does (hg.wd hv hle) (b4 hv.hi) (BS hv hle I) (.e0 (b4 hv.hk) hn (hle.fs _ _ q1) (b4 hv.hfl) fun _ _=>h)
theorem dEz(I:List Nat){p:PV}{st1:c3}(h: ∀C' z,aV P C' n o ⟨rs s I,ab z s.st⟩ ((⟨rs s I,ab z st1⟩:AS).putO o.dst p))(k:DW P C n id true l Q s0 ⟨g.outs++ [some p],g.ks++ [some (.ef g.effs.length)],g.ins++ [I],g.effs++ [g.outs.length],g.fs++ [fun z=>ab z st1],g.rds,g.az⟩ ((⟨s.env,st1⟩:AS).putO o.dst p) rest)(hg:WS l s o true:=by exact .n rfl)(haz:g.az=none:=by exact rfl)(hlen:st1.boxes.length=s0.st.boxes.length:=by exact rfl):
 DW P C n id true l Q s0 g s (o::rest):=fun hv hr=>by
 obtain⟨ho,hd⟩:=s4 hr
 obtain⟨f,q1,-,-,q2⟩:=hv.hlast
 have q2:=q2 rfl haz
 subst q2
 have hcz:g.cz=none:=by unfold DD.cz;rw [haz];rfl
 have hle:g.le ⟨g.outs++ [some p],g.ks++ [some (.ef g.effs.length)],g.ins++ [I],g.effs++ [g.outs.length],g.fs++ [fun z=>ab z st1],g.rds,g.az⟩:=⟨c8,c8,c8,c8,fun _ h=>h,fun _ h=>h⟩
 refine k (hv.next ho hle (by simp) (by simp) (by simp) (by simp [hv.hfl]) (by rw [wZ];exact⟨_,b4 (by simp [hv.hfl]),(by show ab g.cz st1=st1;rw [hcz];rfl),fun h=>(by cases h),fun _ _=>rfl⟩) (fun hmd f hf=>(List.mem_append.1 hf).elim (hv.hz hmd f) fun h=>by obtain rfl:=List.mem_singleton.1 h;exact .inr ⟨hlen,fun z=>rfl⟩) hv.hm (fun t q hq=>wM t q _ _ (b4 rfl) hq) ?_) (by simpa using hd)
 exact .does (hg.wd hv hle) (b4 hv.hi) (BS hv hle I) (.e (b4 hv.hk) (b4 rfl) (hle.fs _ _ q1) (b4 hv.hfl) h)
theorem dA{zb:c5}(h: ∀C' st,st.boxes.length=s0.st.boxes.length→aV P C' n o ⟨[],st⟩ ((⟨[],st.addBox zb⟩:AS).putO o.dst (.ptr s0.st.boxes.length 0)))(k:DW P C n id true l Q s0 ⟨g.outs++ [some (.ptr s0.st.boxes.length 0)],g.ks++ [some .al],g.ins++ [[]],g.effs,g.fs,g.rds,some (g.outs.length,zb)⟩ ((⟨s.env,s.st.addBox zb⟩:AS).putO o.dst (.ptr s0.st.boxes.length 0)) rest)(hg:WS l s o true:=by exact .n rfl)(haz:g.az=none:=by exact rfl):
 DW P C n id true l Q s0 g s (o::rest):=fun hv hr=>by
 obtain⟨ho,hd⟩:=s4 hr
 obtain⟨f,q1,-,-,q2⟩:=hv.hlast
 have q2:=q2 rfl haz
 subst q2
 have hle:g.le ⟨g.outs++ [some (.ptr s0.st.boxes.length 0)],g.ks++ [some .al],g.ins++ [[]],g.effs,g.fs,g.rds,some (g.outs.length,zb)⟩:=⟨c8,c8,c8,fun _ _ h=>h,fun _ h=>h,fun x h=>by rw [haz] at h;cases h⟩
 refine k (hv.next ho hle (by simp) (by simp) (by simp) hv.hfl ⟨_,q1,by rw [wZ];rfl,fun h=>(by cases h),fun _ h=>by cases h⟩ hv.hz (fun h=>by cases h) (fun t q hq=>wM t q _ _ (b4 rfl) hq) ?_) (by simpa using hd)
 exact .does (E:= []) (hg.wd hv hle) (b4 hv.hi) (fun t q h=>by cases h) (.al rfl rfl (b4 hv.hk) (b4 rfl) h)
theorem dZ(t:Nat)(I:List Nat){off a:Nat}{zb:c5}{st1:c3}(h: ∀ {C':oZ},aV P C' n o ⟨rs s I,s.st⟩ ⟨rs s I,st1⟩)(k:DW P C n id true l Q s0 ⟨g.outs++ [none],g.ks++ [some (.ef g.effs.length)],g.ins++ [I],g.effs++ [g.outs.length],g.fs++ [tw st1],g.rds,g.az⟩ ⟨s.env,st1⟩ rest)(hn:o.dst=none:=by exact rfl)(hg:WS l s o true:=by exact .n rfl)(haz:g.az=some (a,zb):=by exact rfl)(hp:(rs s I).lookup t=some (.ptr s0.st.boxes.length off):=by exact rfl):
 DW P C n id true l Q s0 g s (o::rest):=fun hv hr=>by
 obtain⟨ho,hd⟩:=s4 hr
 obtain⟨f,q1,q2,-,-⟩:=hv.hlast
 have hcz:g.cz=some zb:=by unfold DD.cz;rw [haz];rfl
 rw [hcz] at q2
 have q3:=hv.hz rfl f (List.mem_iff_getElem?.2 ⟨_,q1⟩)
 have hle:g.le ⟨g.outs++ [none],g.ks++ [some (.ef g.effs.length)],g.ins++ [I],g.effs++ [g.outs.length],g.fs++ [tw st1],g.rds,g.az⟩:=⟨c8,c8,c8,c8,fun _ h=>h,fun _ h=>h⟩
 refine k (hv.next ho hle (by simp) (by simp) (by simp) (by simp [hv.hfl]) ⟨_,b4 (by simp [hv.hfl]),(by show tw st1 g.cz=st1;rw [hcz];rfl),fun h=>(by cases h),fun _ h=>(by rw [show g.az=none from h] at haz;cases haz)⟩ (fun hmd f hf=>(List.mem_append.1 hf).elim (hv.hz hmd f) fun h=>by obtain rfl:=List.mem_singleton.1 h;exact .inl rfl) hv.hm (fun t q hq=> .inr ⟨by rw [hn];simp,hq⟩) ?_) (by simpa using hd)
 exact .does (hg.wd hv hle) (b4 hv.hi) (BS hv hle I) (.ea haz (b4 hv.hk) hn (hle.fs _ _ q1) (b4 hv.hfl) hp (q3.imp (fun x=>x) (·.1)) (by rw [q2];exact fun _=>h))
theorem vAl{T:TypeId}{ps:List PV}{st:c3}{N:Nat}(hN:st.boxes.length=N)(hz:cW P T=some ps)(ho:o.op= .alloc T:=by exact rfl)(hd:bQ o.dst n=true:=by exact rfl):aV P C n o ⟨[],st⟩ ((⟨[],st.addBox ⟨T,ps⟩⟩:AS).putO o.dst (.ptr N 0)):=by
 subst hN
 exact aV.alloc (s:=⟨[],st⟩) ho hd hz
theorem dS(k:DW P C n id md l Q s0 ⟨g.outs++ [some (.tup [])],g.ks++ [none],g.ins++ [[]],g.effs,g.fs,g.rds,g.az⟩ (s.putO o.dst (.tup [])) rest)(hg:WS l s o false)(hd':bQ o.dst n=true):
 DW P C n id md l Q s0 g s (o::rest):=fun hv hr=>by
 obtain⟨ho,hd⟩:=s4 hr
 have hle:g.le ⟨g.outs++ [some (.tup [])],g.ks++ [none],g.ins++ [[]],g.effs,g.fs,g.rds,g.az⟩:=⟨c8,c8,c8,fun _ _ h=>h,fun _ h=>h,fun _ h=>h⟩
 refine k (hv.next ho hle (by simp) (by simp) (by simp) hv.hfl (by rw [wZ];exact hv.hlast) hv.hz hv.hm (fun t q hq=>wM t q _ _ (b4 rfl) hq) ?_) (by simpa using hd)
 exact .skip (hg.wd hv hle) (b4 hv.hk) (b4 rfl) hd'
theorem CL{j d:Nat}{b c e:Bool}(hv:b=e)(k:DW P C n id md l Q s0 ⟨g.outs++ [some (.tup [])],g.ks++ [none],g.ins++ [[]],g.effs,g.fs,g.rds,g.az⟩ (s.putO o.dst (.tup [])) rest)(hg:o.guard=some (j,c):=by exact rfl)(hj:(l[j]?).bind (·.dst)=some d:=by exact rfl)(hb:s.lk d=some (.t (.leaf (.bool b))):=by exact rfl)(hne:(e==c)=false:=by exact rfl)(hd':bQ o.dst n=true:=by exact rfl):
 DW P C n id md l Q s0 g s (o::rest):=dS k (by subst hv;have:=WS.y hg hj hb;rwa [hne] at this) hd'
theorem dSu{j d:Nat}{c:Bool}(k:DW P C n id md l Q s0 ⟨g.outs++ [some (.tup [])],g.ks++ [none],g.ins++ [[]],g.effs,g.fs,g.rds,g.az⟩ (s.putO o.dst (.tup [])) rest)(hg:o.guard=some (j,c):=by exact rfl)(hj:(l[j]?).bind (·.dst)=some d:=by exact rfl)(hb:s.lk d=some (.tup []):=by exact rfl)(hd':bQ o.dst n=true:=by exact rfl):
 DW P C n id md l Q s0 g s (o::rest):=dS k (.u hg hj hb) hd'
theorem aZ{j d:Nat}{b c:Bool}(hv:b=c)(hg:o.guard=some (j,c):=by exact rfl)(hj:(l[j]?).bind (·.dst)=some d:=by exact rfl)(hb:s.lk d=some (.t (.leaf (.bool b))):=by exact rfl):WS l s o true:=by
 subst hv
 have:=WS.y hg hj hb
 rwa [BEq.rfl] at this
theorem aeT{ops:Array Oper}(h: ∀i o,ops[i]?=some o→ ∀e∈o.after,Region.binds .any e=true→e.on<i): ∀(fuel i j:Nat),KI ops fuel i j=true→i<j
 |0,_,_,h'=>by simp [KI] at h'
 |fuel+1,i,j,h'=>by
  simp only [KI] at h'
  split at h'
  ·rename_i o ho
   rw [List.any_eq_true] at h'
   obtain⟨e,he,h'⟩:=h'
   simp only [Bool.and_eq_true,Bool.or_eq_true,beq_iff_eq] at h'
   have h1:=h j o ho e (by simpa using he) h'.1
   rcases h'.2 with h2|h2
   ·omega
   ·have:=aeT h fuel i e.on h2
    omega
  ·cases h'
def O9(l:List Oper)(i t:Nat):Option Nat:=match m8 l.toArray t with
 |some j=>if j<i then some j else none
 |none=>none
def DD.draw(g:DD)(l:List Oper)(s0:AS):c9 where
 ops:=l.toArray
 env0:=s0.env
 F:=fun j b=>match g.fs[j]? with
  |some f=>f (bif b then g.cz else none)
  |none=>ab (bif b then g.cz else none) s0.st
 out:=fun i=>(g.outs[i]?).getD none
 kind:=fun i=>match g.ks[i]? with
  |some (some k)=>k
  |_=> .q 0 g.effs.length
 effs:=g.effs
 alloc:=g.az.map (·.1)
 ins:=fun i=>((g.ins[i]?).getD []).map fun t=>(t,O9 l i t)
def afA(fs:List (Option c5→c3))(z:Option c5)(x:(Nat×Nat)×Nat×Option (Option c5)):List (Option (Option (Option c5))):=(List.range' x.1.1 (x.1.2+1-x.1.1)).map fun j=>(fs[j]?).map fun f=>(f z).boxes[x.2.1]?
def ae9(x:(Nat×Nat)×Nat×Option (Option c5)):List (Option (Option (Option c5))):=(List.range' x.1.1 (x.1.2+1-x.1.1)).map fun _=>some x.2.2
theorem KF(hn:vR l.toArray=true){j t:Nat}(ho:l[j]?=some o)(hd:o.dst=some t):m8 l.toArray t=some j:=fX hn (by simpa using ho) hd
theorem ajC{fs:List (Option c5→c3)}{z:Option c5}{rds:List ((Nat×Nat)×Nat×Option (Option c5))}(h:rds.map (afA fs z)=rds.map ae9){lo hi kb j:Nat}{X:Option (Option c5)}(hm:((lo,hi),kb,X)∈rds)(h1:lo≤j)(h2:j≤hi){f:Option c5→c3}(hs:fs[j]?=some f):(f z).boxes[kb]?=X:=by
 have e:=List.map_inj_left.1 h _ hm
 unfold afA ae9 at e
 have:=List.map_inj_left.1 e j (by simp [List.mem_range'];exact⟨j-lo,by omega,by omega⟩)
 simpa [hs] using this
theorem dN(h:Q .normal s)(hm:P.follows .mixedOrders=true:=by exact ab2)(hok:(g.draw l s0).ok=true:=by kernel_rfl)(hrd:g.rds.map (afA g.fs g.cz)=g.rds.map ae9:=by kernel_rfl):DW P C n id md l Q s0 g s []:=fun hv hr=>by
 have hlen:l.length≤g.outs.length:=by
  have:=congrArg List.length hr
  simp at this
  omega
 have hok':=hok
 simp only [c9.ok,Bool.and_eq_true] at hok'
 have hn:vR l.toArray=true:=hok'.1.1.1.2
 have hpv: ∀i t q,RR l s0.env g.outs i t q→(g.draw l s0).pv (t,O9 l i t)=some q:=fun i t q hs=>by
  rcases hs with⟨j,oj,h1,h2,h3,h4⟩|⟨h1,h2⟩
  ·have hw:=KF hn h2 h3
   unfold O9
   rw [hw]
   dsimp only
   rw [if_pos h1]
   show(g.outs[j]?).getD none=some q
   rw [h4]
   rfl
  ·have hw:O9 l i t=none:=by
    unfold O9
    split
    ·rename_i j hj
     obtain⟨-,oj,h3,h4⟩:=tB hj
     split
     ·rename_i hji
      exact absurd h4 (h2 j oj hji (by simpa using h3))
     ·rfl
    ·rfl
   rw [hw]
   exact h1
 have hF: ∀ {j:Nat} {f:Option c5→c3},g.fs[j]?=some f→ ∀b,(g.draw l s0).F j b=f (bif b then g.cz else none):=fun {j f} hj b=>by show(match g.fs[j]? with|some f=>f (bif b then g.cz else none)|none=>ab (bif b then g.cz else none) s0.st)=_;rw [hj]
 have hK: ∀ {i:Nat} {k:DK},g.ks[i]?=some (some k)→(g.draw l s0).kind i=k:=fun {i k} hk=>by show(match g.ks[i]? with|some (some k)=>k|_=> .q 0 g.effs.length)=_;rw [hk]
 have hK0: ∀ {i:Nat},g.ks[i]?=some none→(g.draw l s0).kind i= .q 0 g.effs.length:=fun {i} hk=>by show(match g.ks[i]? with|some (some k)=>k|_=>DK.q 0 g.effs.length)=_;rw [hk]
 have hout: ∀ {i:Nat} {p:PV},g.outs[i]?=some (some p)→(g.draw l s0).out i=some p:=fun hp=>by show(g.outs[_]?).getD none=_;rw [hp];rfl
 have hops:=hok'.1.1.1.1
 rw [List.all_eq_true] at hops
 have hgs: ∀(i:Nat) (o:Oper) (j d:Nat) (c:Bool) (p:PV),l[i]?=some o→o.guard=some (j,c)→(l[j]?).bind (·.dst)=some d→RR l s0.env g.outs i d p→(g.draw l s0).out j=some p:=fun i o j d c p ho hg hj hs=>by
  obtain⟨oj,hoj,hdj⟩: ∃oj,l[j]?=some oj∧oj.dst=some d:=by
   cases hx:l[j]? with
   |none=>rw [hx] at hj;cases hj
   |some oj=>rw [hx] at hj;exact⟨oj,rfl,hj⟩
  have hw:=KF hn hoj hdj
  rcases hs with⟨j',oj',h1,h2,h3,h4⟩|⟨h1,h2⟩
  ·have hw':=KF hn h2 h3
   rw [hw] at hw'
   cases hw'
   exact hout h4
  ·have hil:=(List.getElem?_eq_some_iff.1 ho).1
   have h5:=hops i (by simpa [DD.draw] using hil)
   have ho':(g.draw l s0).ops[i]?=some o:=by simpa [DD.draw] using ho
   simp only [c9.okOp,ho',hg,Bool.and_eq_true] at h5
   have h6:(g.draw l s0).anc j i=true:=h5.2.1
   have:=aeT (fun i' o' ho' e he hb=>by
    have hil':=(Array.getElem?_eq_some_iff.1 ho').1
    have h7:=hops i' (by simpa using hil')
    simp only [c9.okOp,ho',Bool.and_eq_true,Array.all_eq_true'] at h7
    have h3:=h7.1 e he
    simpa [hb] using h3) _ _ _ h6
   exact absurd hdj (h2 j oj this hoj)
 have hwant: ∀ {i:Nat} {o:Oper} {b:Bool},l[i]?=some o→WD l s0.env g.outs i o b→(g.draw l s0).want o=some b:=fun {i o b} ho hw=>by
  unfold c9.want
  cases hw with
  |n a=>rw [a]
  |y a b c=>rw [a];dsimp only;rw [hgs _ _ _ _ _ _ ho a b c]
  |u a b c=>rw [a];dsimp only;rw [hgs _ _ _ _ _ _ ho a b c]
 have hstep: ∀i o,(g.draw l s0).ops[i]?=some o→(g.draw l s0).step P C n i o:=fun i o ho=>by
  have ho':l[i]?=some o:=by simpa [DD.draw] using ho
  obtain⟨hil,-⟩:=List.getElem?_eq_some_iff.1 ho'
  cases hv.hf i o ho' (by omega) with
  |does h1 h2 h3 h4=>
   rename_i E I
   refine .inl ⟨hwant ho' h1,?_⟩
   have hl: ∀s':AS,(∀t src p,(t,src)∈(g.draw l s0).ins i→(g.draw l s0).pv (t,src)=some p→s'.lk t=some p)→ ∀t q,E.lookup t=some q→s'.lk t=some q:=fun s' hl t q ht=>by
    obtain⟨h5,h6⟩:=h3 t q ht
    refine hl t (O9 l i t) q ?_ (hpv i t q h6)
    show(t,O9 l i t)∈((g.ins[i]?).getD []).map _
    rw [h2]
    exact List.mem_map.2 ⟨t,h5,rfl⟩
   unfold c9.does
   cases h4 with
   |q a b c=>
    rw [hK0 a]
    exact fun s' j bb _ _ hs hin=>⟨_,hout b,aV.frame (st:=s'.st) (fun C'=>c C' s'.st) rfl (hl s' hin)⟩
   |r a b c kN d=>
    rename_i lo hi kb X p
    have hk:=hK a
    rw [hk]
    intro s' j bb q1 q2 hs hin
    have hjl:hi<g.fs.length:=by
     have:=hok'.1.1.2
     rw [List.all_eq_true] at this
     have:=this i (by simpa [DD.draw] using hil)
     simp only [Bool.and_eq_true,c9.okKind,hk] at this
     have h9:=this.1.1.1.1.1.2
     simp only [decide_eq_true_eq] at h9
     have h10:hi≤g.effs.length:=h9
     rw [hv.hfl]
     omega
    obtain⟨f,hst⟩: ∃f,g.fs[j]?=some f:=⟨_,List.getElem?_eq_getElem (by omega)⟩
    have hX:=ajC hrd c q1 q2 hst
    rw [hF hst] at hs
    have hcase:s'.st=f g.cz∨(md=true∧s'.st=f none):=by
     cases bb with
     |true=>exact .inl hs
     |false=>
      cases md with
      |true=>exact .inr ⟨rfl,hs⟩
      |false=>
       have:g.cz=none:=by unfold DD.cz;rw [hv.hm rfl];rfl
       rw [this]
       exact .inl hs
    rcases hcase with hs|⟨hmd,hs⟩
    ·exact⟨_,hout b,aV.frame (st:=s'.st) (fun C'=>d C' s'.st (by rw [hs];exact hX)) rfl (hl s' hin)⟩
    ·rcases hv.hz hmd f (List.mem_iff_getElem?.2 ⟨_,hst⟩) with h9|⟨h9,h10⟩
     ·exact⟨_,hout b,aV.bad (by rw [hs,h9])⟩
     ·refine⟨_,hout b,aV.frame (st:=s'.st) (fun C'=>d C' s'.st ?_) rfl (hl s' hin)⟩
      rw [hs,← hX]
      cases hz:g.cz with
      |none=>rfl
      |some z=>
       rw [h10 z]
       show _=((f none).boxes++ [some z])[kb]?
       rw [List.getElem?_append_left (by rw [h9];exact kN hmd)]
   |c a b c d=>
    rename_i j f p
    rw [hK a]
    refine fun s' jj bb q1 q2 hs hin=>⟨_,hout b,?_⟩
    obtain rfl:jj=j:=by omega
    exact aV.frame (st:=s'.st) (fun C'=>by rw [hs,hF c];exact d C' _) rfl (hl s' hin)
   |e a b c d e=>
    rename_i j f f1 p
    rw [hK a]
    refine fun s' bb hs hin=> .inl ⟨_,hout b,?_⟩
    rw [hF d]
    exact aV.frame (fun C'=>e C' _) (by rw [hs,hF c]) (hl s' hin)
   |e0 a b c d e=>
    rename_i j f f1
    rw [hK a]
    refine fun s' bb hs hin=> .inr ⟨b,?_⟩
    rw [hF d]
    exact aV.frame0 b (fun C'=>e C' _) (by rw [hs,hF c]) (hl s' hin)
   |ea z a b c d e f q=>
    rename_i j a' t off zb f0 f1
    have hcz:g.cz=some zb:=by unfold DD.cz;rw [z];rfl
    rw [hK a]
    refine fun s' bb hs hin=> .inr ⟨b,?_⟩
    rw [hF d]
    rw [hF c] at hs
    cases bb with
    |true=>
     rw [hcz] at hs ⊢
     exact aV.frame0 b q hs (hl s' hin)
    |false=>
     rcases f with f|f
     ·exact aV.bad (hs.trans f)
     ·refine aV.away (hl s' hin t _ e) ?_
      rw [hs]
      show(f0 none).boxes[_]?=none
      rw [List.getElem?_eq_none (by rw [f];exact Nat.le_refl _)]
   |al hmd z a b c=>
    rename_i zb
    have hcz:g.cz=some zb:=by unfold DD.cz;rw [z];rfl
    rw [hK a]
    refine fun s' j hs=>⟨_,hout b,?_⟩
    have key:s'.st=FG∨(s'.st.boxes.length=s0.st.boxes.length∧(g.draw l s0).F j true=s'.st.addBox zb):=by
     cases hj:g.fs[j]? with
     |none=>
      have h8: ∀b,(g.draw l s0).F j b=ab (bif b then g.cz else none) s0.st:=fun b=>by show(match g.fs[j]? with|some f=>f (bif b then g.cz else none)|none=>ab (bif b then g.cz else none) s0.st)=_;rw [hj]
      rw [h8] at hs ⊢
      refine .inr ⟨by rw [hs];rfl,?_⟩
      rw [hs,hcz]
      rfl
     |some f=>
      rw [hF hj] at hs ⊢
      rcases hv.hz hmd f (List.mem_iff_getElem?.2 ⟨_,hj⟩) with h9|⟨h9,h10⟩
      ·exact .inl (hs.trans h9)
      ·refine .inr ⟨by rw [hs];exact h9,?_⟩
       rw [hs,hcz]
       exact h10 zb
    rcases key with h9|⟨h9,h10⟩
    ·exact aV.bad h9
    ·rw [h10]
     exact aV.frame (E:= []) (fun C'=>c C' s'.st h9) rfl (fun t q h=>by cases h)
  |skip h1 h2 h3 h4=>exact .inr ⟨hwant ho' h1,⟨_,_,hK0 h2⟩,.inr ⟨hout h3,h4⟩⟩
 intro m a w hra
 refine wp_mono (aP.drawn (g.draw l s0) (Q:=fun e s'=>e= .normal∧s'=⟨((List.range (g.draw l s0).ops.size).filterMap ((g.draw l s0).gX (Array.replicate (g.draw l s0).ops.size true)))++(g.draw l s0).env0,(g.draw l s0).F (g.draw l s0).effs.length (g.draw l s0).alloc.isSome⟩) hm hok rfl (by obtain⟨f,h1,h2⟩:=hv.hs0;rw [hF h1];exact h2.symm) hstep ⟨rfl,rfl⟩ m a w hra) fun e a' w'=>?_;rintro⟨s',m',⟨rfl,rfl⟩,h2⟩
 obtain⟨f,q1,q2,-,-⟩:=hv.hlast
 refine⟨s,m',h,RA.congr h2 ((hF q1 _).trans (Eq.trans (by cases ha:g.az with|none=>(show f (bif (g.az.map (·.1)).isSome then g.cz else none)=f g.cz;unfold DD.cz;rw [ha];rfl)|some x=>(show f (bif (g.az.map (·.1)).isSome then g.cz else none)=f g.cz;unfold DD.cz;rw [ha];rfl)) q2)) fun t p ht=>?_⟩
 show((g.draw l s0).sX (Array.replicate (g.draw l s0).ops.size true)).lk t=some p
 rcases hv.hlk t p ht with⟨j,oj,h1,h3,h4,h5⟩|⟨h1,h3⟩
 ·have hjl:j<l.length:=(List.getElem?_eq_some_iff.1 h3).1
  exact FS hn (i:=j) (o:=oj) (by have:j<(g.draw l s0).ops.size:=(by simpa [DD.draw] using hjl);simp [Array.getD_eq_getD_getElem?,this]) (by simpa [DD.draw] using h3) h4 (hout h5)
 ·rw [CS hn fun i hi=>?_]
  ·exact h1
  ·obtain⟨hil,oi,h6,h7⟩:=tB hi
   exact absurd h7 (h3 i oi (by have:i<l.length:=(by simpa [DD.draw] using hil);omega) (by simpa [DD.draw] using h6))
end
end Go.Proofs.YtpioomclpaiomaaGreat

namespace Go.Proofs.YtpioomclpaiomaaGreat
instance:TC aC:=⟨aC.cs,aC.trs,2,aC.trs_at,aC.trs_len,fun l=>by rw [aC.trs_map];exact List.map_congr_left fun x _=>aC.tr_cs x,fun _=>rfl⟩
abbrev cD(l:List aC):PV:= .t (.row 2 (aC.trs l))
abbrev fF(l:List aC)(r:Nat):PV:= .acc 2 (aC.trs l) r
instance:TC aA:=⟨aA.cs,aA.trs,3,aA.trs_at,aA.trs_len,fun l=>by rw [aA.trs_map];exact List.map_congr_left fun x _=>aA.tr_cs x,fun _=>rfl⟩
abbrev a4(l:List aA):PV:= .t (.row 3 (aA.trs l))
abbrev Q5(l:List aA)(r:Nat):PV:= .acc 3 (aA.trs l) r
instance:TC aG:=⟨aG.cs,aG.trs,9,aG.trs_at,aG.trs_len,fun l=>by rw [aG.trs_map];exact List.map_congr_left fun x _=>aG.tr_cs x,fun _=>rfl⟩
abbrev gQ(l:List aG):PV:= .t (.row 9 (aG.trs l))
abbrev ag4(l:List aG)(r:Nat):PV:= .acc 9 (aG.trs l) r
instance:TC bJ:=⟨bJ.cs,bJ.trs,11,bJ.trs_at,bJ.trs_len,fun l=>by rw [bJ.trs_map];exact List.map_congr_left fun x _=>bJ.tr_cs x,fun _=>rfl⟩
abbrev oM(l:List bJ):PV:= .t (.row 11 (bJ.trs l))
abbrev ahV(l:List bJ)(r:Nat):PV:= .acc 11 (bJ.trs l) r
instance:TC aJ:=⟨aJ.cs,aJ.trs,4,aJ.trs_at,aJ.trs_len,fun l=>by rw [aJ.trs_map];exact List.map_congr_left fun x _=>aJ.tr_cs x,fun _=>rfl⟩
abbrev fO(l:List aJ):PV:= .t (.row 4 (aJ.trs l))
abbrev aeP(l:List aJ)(r:Nat):PV:= .acc 4 (aJ.trs l) r
instance:TC aR:=⟨aR.cs,aR.trs,4,aR.trs_at,aR.trs_len,fun l=>by rw [aR.trs_map];exact List.map_congr_left fun x _=>aR.tr_cs x,fun _=>rfl⟩
abbrev NT(l:List aR):PV:= .t (.row 4 (aR.trs l))
abbrev R3(l:List aR)(r:Nat):PV:= .acc 4 (aR.trs l) r
instance:TC aN:=⟨aN.cs,aN.trs,11,aN.trs_at,aN.trs_len,fun l=>by rw [aN.trs_map];exact List.map_congr_left fun x _=>aN.tr_cs x,fun _=>rfl⟩
abbrev kS(l:List aN):PV:= .t (.row 11 (aN.trs l))
abbrev L7(l:List aN)(r:Nat):PV:= .acc 11 (aN.trs l) r
instance:TC aD:=⟨aD.cs,aD.trs,2,aD.trs_at,aD.trs_len,fun l=>by rw [aD.trs_map];exact List.map_congr_left fun x _=>aD.tr_cs x,fun _=>rfl⟩
abbrev eX(l:List aD):PV:= .t (.row 2 (aD.trs l))
abbrev uN(l:List aD)(r:Nat):PV:= .acc 2 (aD.trs l) r
instance:TC aE:=⟨aE.cs,aE.trs,16,aE.trs_at,aE.trs_len,fun l=>by rw [aE.trs_map];exact List.map_congr_left fun x _=>aE.tr_cs x,fun _=>rfl⟩
abbrev kC(l:List aE):PV:= .t (.row 16 (aE.trs l))
abbrev j8(l:List aE)(r:Nat):PV:= .acc 16 (aE.trs l) r
instance:TC aT:=⟨aT.cs,aT.trs,5,aT.trs_at,aT.trs_len,fun l=>by rw [aT.trs_map];exact List.map_congr_left fun x _=>aT.tr_cs x,fun _=>rfl⟩
abbrev SO(l:List aT):PV:= .t (.row 5 (aT.trs l))
abbrev vF(l:List aT)(r:Nat):PV:= .acc 5 (aT.trs l) r
instance:TC aL:=⟨aL.cs,aL.trs,3,aL.trs_at,aL.trs_len,fun l=>by rw [aL.trs_map];exact List.map_congr_left fun x _=>aL.tr_cs x,fun _=>rfl⟩
abbrev qO(l:List aL):PV:= .t (.row 3 (aL.trs l))
abbrev lU(l:List aL)(r:Nat):PV:= .acc 3 (aL.trs l) r
instance:TC aH:=⟨aH.cs,aH.trs,12,aH.trs_at,aH.trs_len,fun l=>by rw [aH.trs_map];exact List.map_congr_left fun x _=>aH.tr_cs x,fun _=>rfl⟩
abbrev vA(l:List aH):PV:= .t (.row 12 (aH.trs l))
abbrev lW(l:List aH)(r:Nat):PV:= .acc 12 (aH.trs l) r
instance:TC aI:=⟨aI.cs,aI.trs,16,aI.trs_at,aI.trs_len,fun l=>by rw [aI.trs_map];exact List.map_congr_left fun x _=>aI.tr_cs x,fun _=>rfl⟩
abbrev CW(l:List aI):PV:= .t (.row 16 (aI.trs l))
abbrev lV(l:List aI)(r:Nat):PV:= .acc 16 (aI.trs l) r
instance:TC aK:=⟨aK.cs,aK.trs,6,aK.trs_at,aK.trs_len,fun l=>by rw [aK.trs_map];exact List.map_congr_left fun x _=>aK.tr_cs x,fun _=>rfl⟩
abbrev bV(l:List aK):PV:= .t (.row 6 (aK.trs l))
abbrev pD(l:List aK)(r:Nat):PV:= .acc 6 (aK.trs l) r
instance:TC aO:=⟨aO.cs,aO.trs,1,aO.trs_at,aO.trs_len,fun l=>by rw [aO.trs_map];exact List.map_congr_left fun x _=>aO.tr_cs x,fun _=>rfl⟩
instance:TC aB:=⟨aB.cs,aB.trs,2,aB.trs_at,aB.trs_len,fun l=>by rw [aB.trs_map];exact List.map_congr_left fun x _=>aB.tr_cs x,fun _=>rfl⟩
abbrev a9(l:List aB):PV:= .t (.row 2 (aB.trs l))
abbrev dY(l:List aB)(r:Nat):PV:= .acc 2 (aB.trs l) r
instance:TC a7:=⟨a7.cs,a7.trs,6,a7.trs_at,a7.trs_len,fun l=>by rw [a7.trs_map];exact List.map_congr_left fun x _=>a7.tr_cs x,fun _=>rfl⟩
instance:TC aM:=⟨aM.cs,aM.trs,4,aM.trs_at,aM.trs_len,fun l=>by rw [aM.trs_map];exact List.map_congr_left fun x _=>aM.tr_cs x,fun _=>rfl⟩
abbrev n3(l:List aM):PV:= .t (.row 4 (aM.trs l))
abbrev tD(l:List aM)(r:Nat):PV:= .acc 4 (aM.trs l) r
abbrev dJ(x:aA):List PV:= [pI x.gKind,pS x.gName,a4 x.gArgs]
abbrev gY(x:aG):List PV:= [pI x.gKind,pS x.gTrait,pS x.gName,pI x.gN,pI x.gType.gKind,pS x.gType.gName,a4 x.gType.gArgs,gQ x.gArgs,oM x.gArms]
abbrev ah1(x:aJ):List PV:= [pS x.gTrait,pI x.gType.gKind,pS x.gType.gName,a4 x.gType.gArgs]
abbrev YW(x:aE):List PV:= [pS x.gName,a4 x.gParams,pI x.gResult.gKind,pS x.gResult.gName,a4 x.gResult.gArgs,pB x.gHasDefault,rS x.gVars,pI x.gBody.gKind,pS x.gBody.gTrait,pS x.gBody.gName,pI x.gBody.gN,pI x.gBody.gType.gKind,pS x.gBody.gType.gName,a4 x.gBody.gType.gArgs,gQ x.gBody.gArgs,oM x.gBody.gArms]
abbrev A8(x:aT):List PV:= [pS x.gName,rS x.gSupertraits,pB x.gAuto,pB x.gAssoc,kC x.gSignatures]
abbrev u4(x:aL):List PV:= [pS x.gName,rS x.gVars,eX x.gConstructors]
abbrev gO(x:aH):List PV:= [pS x.gTrait,rS x.gVars,pI x.gHead.gKind,pS x.gHead.gName,a4 x.gHead.gArgs,fO x.gWhere,pB x.gDefault,pB x.gHasAssoc,pI x.gAssoc.gKind,pS x.gAssoc.gName,a4 x.gAssoc.gArgs,kS x.gMethods]
abbrev u5(x:aI):List PV:= [pS x.gName,rS x.gVars,fO x.gWhere,NT x.gParams,pI x.gResult.gKind,pS x.gResult.gName,a4 x.gResult.gArgs,pI x.gBody.gKind,pS x.gBody.gTrait,pS x.gBody.gName,pI x.gBody.gN,pI x.gBody.gType.gKind,pS x.gBody.gType.gName,a4 x.gBody.gType.gArgs,gQ x.gBody.gArgs,oM x.gBody.gArms]
abbrev gH(x:aK):List PV:= [pS x.gName,rS x.gDeps,SO x.gTraits,qO x.gDataTypes,vA x.gInstances,CW x.gFunctions]
end Go.Proofs.YtpioomclpaiomaaGreat

namespace Go.Proofs.YtpioomclpaiomaaGreat
abbrev xX:ByteArray:=⟨#[40,99,97,108,108,32,98,111,116,104,32,40,99,97,108,108,32,105,100,32,40,99,97,108,108,32,105,100,32,40,110,101,119,32,116,97,103,32,50,41,41,41,41]⟩
abbrev cS:ByteArray:=⟨(List.append [32,40,105,110,115,116,32,115,104,111,119,32,40,41,32,105,110,116,32,40,41,32,40,41,32,40,41,32,40,109,32,40,120,41,32,120,41,41,32,40,105,110,115] [116,32,115,104,111,119,32,40,41,32,98,111,111,108,32,40,41,32,40,41,32,40,41,32,40,109,32,40,120,41,32,40,105,102,32,120,32,49,32,48,41,41,41]).toArray⟩
abbrev xY:ByteArray:=⟨(List.append [40,108,101,116,32,122,32,40,109,101,116,104,111,100,32,97,100,100,32,112,108,117,115,32,40,110,101,119,32,98,111,120,32,49] [41,32,40,110,101,119,32,98,111,120,32,50,41,41,32,40,99,97,115,101,32,122,32,40,98,111,120,32,110,32,110,41,41,41]).toArray⟩
abbrev fH:ByteArray:=⟨(List.append [32,40,105,110,115,116,32,101,113,32,40,97,41,32,40,98,111,120,32,39,97,41,32,40,40,101,113,32,39,97,41,41,32,40,41,32,40,41,32,40,115,97,109,101,32,40,120,32,121,41,32,40,99] [97,115,101,32,120,32,40,98,111,120,32,112,32,40,99,97,115,101,32,121,32,40,98,111,120,32,113,32,40,109,101,116,104,111,100,32,101,113,32,115,97,109,101,32,112,32,113,41,41,41,41,41,41,41]).toArray⟩
abbrev xZ:ByteArray:=⟨#[40,99,97,108,108,32,98,111,116,104,32,40,110,101,119,32,112,97,105,114,32,51,32,116,114,117,101,41,41]⟩
abbrev mX:ByteArray:=⟨#[32,40,102,110,32,109,97,105,110,32,40,41,32,40,41,32,40,41,32,105,110,116,32]⟩
abbrev HA:ByteArray:=⟨(List.append [32,40,105,110,115,116,32,115,104,111,119,32,40,41,32,40,108,105,115,116,32,116,97,103,41,32,40,41,32,40,41,32,40,41,32,40,109,32,40,120,41] [32,52,41,41,32,40,105,110,115,116,32,115,104,111,119,32,40,41,32,116,97,103,32,40,41,32,40,41,32,40,41,32,40,109,32,40,120,41,32,53,41,41]).toArray⟩
abbrev yA:ByteArray:=⟨(List.append [32,40,102,110,32,103,114,111,119,32,40,97,41,32,40,40,115,104,111,119,32,39,97,41,41,32,40,40,110,32,105,110,116,41,32,40,120,32,39,97,41,41,32,105,110,116,32,40,105,102,32,40,60,32,110,32] [49,41,32,40,109,101,116,104,111,100,32,115,104,111,119,32,109,32,120,41,32,40,99,97,108,108,32,103,114,111,119,32,40,45,32,110,32,49,41,32,40,110,101,119,32,112,97,105,114,32,120,32,120,41,41,41,41]).toArray⟩
abbrev HB:ByteArray:=⟨(List.append [32,40,105,110,115,116,32,101,113,32,40,41,32,116,97,103,32,40,41,32,40,41,32,40,41,32,40,115,97,109,101,32,40,120,32,121,41,32,116,114,117,101,41,41,32] [40,105,110,115,116,32,111,114,100,32,40,41,32,116,97,103,32,40,41,32,40,41,32,40,41,32,40,108,101,115,115,32,40,120,32,121,41,32,102,97,108,115,101,41,41]).toArray⟩
abbrev yB:ByteArray:=⟨(List.append [40,109,101,116,104,111,100,32,115,104,111,119,32,109,32,40,110,101,119,32,99,111,110,115,32,49,32,40,110,101,119,32,99,111] [110,115,32,50,32,40,116,104,101,32,40,108,105,115,116,32,105,110,116,41,32,40,110,101,119,32,110,105,108,41,41,41,41,41]).toArray⟩
abbrev yC:ByteArray:=⟨#[40,99,97,108,108,32,98,111,116,104,32,53,41]⟩
abbrev yD:ByteArray:=⟨#[40,43,32,40,99,97,108,108,32,105,100,32,52,41,32,40,109,101,116,104,111,100,32,115,104,111,119,32,109,32,40,110,101,119,32,116,97,103,32,55,41,41,41]⟩
abbrev yE:ByteArray:=⟨#[40,105,102,32,40,109,101,116,104,111,100,32,111,114,100,32,108,101,115,115,32,49,32,50,41,32,40,99,97,108,108,32,98,111,116,104,32,116,114,117,101,41,32,48,41]⟩
abbrev yF:ByteArray:=⟨(List.append [40,109,101,116,104,111,100,32,115,104,111,119,32,109,32,40,110,101,119,32,99,111,110,115,32,40,110,101,119,32,116,97] [103,32,49,41,32,40,116,104,101,32,40,108,105,115,116,32,116,97,103,41,32,40,110,101,119,32,110,105,108,41,41,41,41]).toArray⟩
abbrev HC:ByteArray:=⟨#[32,40,105,110,115,116,32,111,114,100,32,40,41,32,116,97,103,32,40,41,32,40,41,32,40,41,32,40,108,101,115,115,32,40,120,32,121,41,32,116,114,117,101,41,41]⟩
abbrev yG:ByteArray:=⟨#[40,109,101,116,104,111,100,32,115,104,111,119,32,109,32,40,110,101,119,32,110,105,108,41,41]⟩
abbrev cJ:ByteArray:=⟨(List.append [40,112,97,99,107,97,103,101,32,99,111,114,101,32,40,41,32,40,116,114,97,105,116,32,115,104,111,119,32,40,41,32,40,41,32,40,109,32,40,41,32,105,110,116,41,32,40,116,119,111,32,40,39,115,101] [108,102,41,32,105,110,116,32,40,120,32,121,41,32,40,43,32,40,109,101,116,104,111,100,32,115,104,111,119,32,109,32,120,41,32,40,109,101,116,104,111,100,32,115,104,111,119,32,109,32,121,41,41,41,41]).toArray⟩
abbrev jN:ByteArray:=⟨(List.append (List.append [32,40,105,110,115,116,32,97,100,100,32,40,97,41,32,40,98,111,120,32,39,97,41,32,40,40,97,100,100,32,39,97,41,41,32] [40,41,32,40,40,98,111,120,32,40,97,115,115,111,99,32,97,100,100,32,39,97,41,41,41,32,40,112,108,117,115,32,40,120,32]) (List.append [121,41,32,40,99,97,115,101,32,120,32,40,98,111,120,32,112,32,40,99,97,115,101,32,121,32,40,98,111,120,32,113,32,40,110] [101,119,32,98,111,120,32,40,109,101,116,104,111,100,32,97,100,100,32,112,108,117,115,32,112,32,113,41,41,41,41,41,41,41,41])).toArray⟩
abbrev dL:ByteArray:=⟨(List.append [32,40,105,110,115,116,32,115,104,111,119,32,40,97,32,98,41,32,40,112,97,105,114,32,39,97,32,39,98,41,32,40,40,115,104,111,119,32,39,97,41,32,40,115,104,111,119,32,39,98,41,41,32,40,41,32,40,41,32,40,109,32,40] [120,41,32,40,99,97,115,101,32,120,32,40,112,97,105,114,32,121,32,122,32,40,45,32,40,109,101,116,104,111,100,32,115,104,111,119,32,109,32,121,41,32,40,109,101,116,104,111,100,32,115,104,111,119,32,109,32,122,41,41,41,41,41,41]).toArray⟩
abbrev yH:ByteArray:=⟨#[40,109,101,116,104,111,100,32,115,104,111,119,32,109,32,40,112,97,99,107,32,115,104,111,119,32,51,41,41]⟩
abbrev hU:ByteArray:=⟨(List.append [32,40,105,110,115,116,32,115,104,111,119,32,40,97,41,32,40,108,105,115,116,32,39,97,41,32,40,40,115,104,111,119,32,39,97,41,41,32,40,41,32,40,41,32,40,109,32,40,120,41,32,40,99,97,115,101,32,120,32,40] [110,105,108,32,48,41,32,40,99,111,110,115,32,104,32,116,32,40,43,32,40,109,101,116,104,111,100,32,115,104,111,119,32,109,32,104,41,32,40,109,101,116,104,111,100,32,115,104,111,119,32,109,32,116,41,41,41,41,41,41]).toArray⟩
abbrev mY:ByteArray:=⟨(List.append [32,40,102,110,32,105,100,32,40,97,41,32,40,41,32,40,40,120,32,39,97,41,41,32,39,97,32,120,41,32,40,102,110,32,98,111,116,104,32,40,97,41,32,40,40] [115,104,111,119,32,39,97,41,41,32,40,40,120,32,39,97,41,41,32,105,110,116,32,40,109,101,116,104,111,100,32,115,104,111,119,32,116,119,111,32,120,32,120,41,41]).toArray⟩
abbrev HD:ByteArray:=⟨#[32,40,105,110,115,116,32,115,104,111,119,32,40,41,32,116,97,103,32,40,41,32,40,41,32,40,41,32,40,109,32,40,120,41,32,40,99,97,115,101,32,120,32,40,116,97,103,32,110,32,110,41,32,40,110,111,110,101,32,48,41,41,41,41]⟩
abbrev cP:ByteArray:=⟨(List.append [32,40,100,97,116,97,32,108,105,115,116,32,40,97,41,32,40,110,105,108,41,32,40,99,111,110,115,32,39,97,32,40,108,105,115,116,32,39,97,41,41,41,32,40,100,97,116,97,32,112,97,105,114,32,40,97,32,98,41] [32,40,112,97,105,114,32,39,97,32,39,98,41,41,32,40,100,97,116,97,32,98,111,120,32,40,97,41,32,40,98,111,120,32,39,97,41,41,32,40,100,97,116,97,32,117,110,105,116,32,40,41,32,40,117,110,105,116,41,41]).toArray⟩
abbrev HE:ByteArray:=⟨(List.append [32,40,102,110,32,108,101,110,32,40,97,41,32,40,41,32,40,40,120,32,40,108,105,115,116,32,39,97,41,41,41,32,105,110,116,32,40,99,97,115,101] [32,120,32,40,110,105,108,32,48,41,32,40,99,111,110,115,32,104,32,116,32,40,43,32,49,32,40,99,97,108,108,32,108,101,110,32,116,41,41,41,41,41]).toArray⟩
abbrev HF:ByteArray:=⟨#[32,40,105,110,115,116,32,115,104,111,119,32,40,97,41,32,39,97,32,40,40,101,113,32,39,97,41,41,32,40,41,32,40,41,32,40,109,32,40,120,41,32,49,41,41]⟩
abbrev HG:ByteArray:=⟨#[32,40,105,110,115,116,32,115,104,111,119,32,40,41,32,116,97,103,32,40,41,32,40,41,32,40,41,32,40,109,32,40,120,41,32,40,99,97,115,101,32,120,32,40,110,111,110,101,32,48,41,32,40,116,97,103,32,110,32,110,41,41,41,41]⟩
abbrev gP:ByteArray:=⟨#[32,40,105,110,115,116,32,97,100,100,32,40,41,32,105,110,116,32,40,41,32,40,41,32,40,105,110,116,41,32,40,112,108,117,115,32,40,120,32,121,41,32,40,43,32,120,32,121,41,41,41]⟩
abbrev cK:ByteArray:=⟨(List.append (List.append [32,40,116,114,97,105,116,32,101,113,32,40,41,32,40,41,32,40,115,97,109,101,32,40,39,115,101,108,102,41,32,98,111,111,108,41,41,32,40] [116,114,97,105,116,32,111,114,100,32,40,101,113,41,32,40,41,32,40,108,101,115,115,32,40,39,115,101,108,102,41,32,98,111,111,108,41,41,32]) (List.append [40,116,114,97,105,116,32,97,100,100,32,40,41,32,40,97,115,115,111,99,41,32,40,112,108,117,115,32,40,39,115,101,108,102,41,32,40,97,115] [115,111,99,32,97,100,100,32,39,115,101,108,102,41,41,41,32,40,116,114,97,105,116,32,115,101,110,100,32,40,41,32,40,97,117,116,111,41,41])).toArray⟩
abbrev HH:ByteArray:=⟨(List.append [32,40,102,110,32,115,117,109,32,40,97,41,32,40,40,97,100,100,32,39,97,41,41,32,40,40,120,32,39,97,41,32,40,121,32,39,97,41] [41,32,40,97,115,115,111,99,32,97,100,100,32,39,97,41,32,40,109,101,116,104,111,100,32,97,100,100,32,112,108,117,115,32,120,32,121,41,41]).toArray⟩
abbrev eK:ByteArray:=⟨#[40,112,97,99,107,97,103,101,32,97,112,112,32,40,99,111,114,101,41,32,40,100,97,116,97,32,116,97,103,32,40,41,32,40,116,97,103,32,105,110,116,41,32,40,110,111,110,101,41,41]⟩
abbrev eL:ByteArray:=⟨(List.append [32,40,105,110,115,116,32,101,113,32,40,41,32,105,110,116,32,40,41,32,40,41,32,40,41,32,40,115,97,109,101,32,40,120,32,121,41,32,40,61,32,120,32,121,41,41,41] [32,40,105,110,115,116,32,111,114,100,32,40,41,32,105,110,116,32,40,41,32,40,41,32,40,41,32,40,108,101,115,115,32,40,120,32,121,41,32,40,60,32,120,32,121,41,41,41]).toArray⟩
abbrev hY:ByteArray:=⟨(List.append (List.append [32,40,105,110,115,116,32,115,104,111,119,32,40,97,41,32,40,108,105,115,116,32,39,97,41,32,40,41,32,40,100,101,102,97,117,108] [116,41,32,40,41,32,40,109,32,40,120,41,32,55,41,41,32,40,105,110,115,116,32,115,104,111,119,32,40,41,32,40,108,105,115,116,32]) (List.append [105,110,116,41,32,40,41,32,40,41,32,40,41,32,40,109,32,40,120,41,32,40,99,97,115,101,32,120,32,40,110,105,108,32,48,41,32] [40,99,111,110,115,32,104,32,116,32,40,43,32,104,32,40,109,101,116,104,111,100,32,115,104,111,119,32,109,32,116,41,41,41,41,41,41])).toArray⟩
abbrev HI:ByteArray:=⟨#[32,40,105,110,115,116,32,115,104,111,119,32,40,41,32,105,110,116,32,40,41,32,40,41,32,40,41,32,40,109,32,40,120,41,32,57,41,41]⟩
abbrev s_:ByteArray:=⟨#[]⟩
abbrev s_0:ByteArray:=⟨#[48]⟩
abbrev s_A:ByteArray:=⟨#[65]⟩
abbrev f9:ByteArray:=⟨#[97]⟩
abbrev jP:ByteArray:=⟨#[97,100,100]⟩
abbrev hH:ByteArray:=⟨#[97,115,115,111,99]⟩
abbrev vV:ByteArray:=⟨#[97,117,116,111]⟩
abbrev A0:ByteArray:=⟨#[98]⟩
abbrev fP:ByteArray:=⟨#[98,111,111,108]⟩
abbrev wQ:ByteArray:=⟨#[98,111,120]⟩
abbrev s_c:ByteArray:=⟨#[99]⟩
abbrev JX:ByteArray:=⟨#[99,97,108,108]⟩
abbrev uA:ByteArray:=⟨#[99,97,115,101]⟩
abbrev cG:ByteArray:=⟨#[99,111,110,115]⟩
abbrev fQ:ByteArray:=⟨#[99,111,114,101]⟩
abbrev JY:ByteArray:=⟨#[100,97,116,97]⟩
abbrev sO:ByteArray:=⟨#[100,101,102,97,117,108,116]⟩
abbrev uK:ByteArray:=⟨#[100,121,110]⟩
abbrev tM:ByteArray:=⟨#[101,113]⟩
abbrev s_f:ByteArray:=⟨#[102]⟩
abbrev kF:ByteArray:=⟨#[102,97,108,115,101]⟩
abbrev adE:ByteArray:=⟨#[102,110]⟩
abbrev s_g:ByteArray:=⟨#[103]⟩
abbrev ZH:ByteArray:=⟨#[104]⟩
abbrev zU:ByteArray:=⟨#[105,102]⟩
abbrev JZ:ByteArray:=⟨#[105,110,115,116]⟩
abbrev fU:ByteArray:=⟨#[105,110,116]⟩
abbrev AI:ByteArray:=⟨#[108,101,116]⟩
abbrev cU:ByteArray:=⟨#[108,105,115,116]⟩
abbrev eN:ByteArray:=⟨#[109]⟩
abbrev m4:ByteArray:=⟨#[109,101,116,104,111,100]⟩
abbrev AJ:ByteArray:=⟨#[110,101,119]⟩
abbrev fJ:ByteArray:=⟨#[110,105,108]⟩
abbrev OH:ByteArray:=⟨#[111,110,101]⟩
abbrev kD:ByteArray:=⟨#[111,114,100]⟩
abbrev YE:ByteArray:=⟨#[112]⟩
abbrev uB:ByteArray:=⟨#[112,97,99,107]⟩
abbrev RH:ByteArray:=⟨#[112,97,99,107,97,103,101]⟩
abbrev uC:ByteArray:=⟨#[112,97,105,114]⟩
abbrev s_q:ByteArray:=⟨#[113]⟩
abbrev iJ:ByteArray:=⟨#[115,101,108,102]⟩
abbrev bH:ByteArray:=⟨#[115,104,111,119]⟩
abbrev ZI:ByteArray:=⟨#[116]⟩
abbrev RI:ByteArray:=⟨#[116,104,101]⟩
abbrev CZ:ByteArray:=⟨#[116,114,97,105,116]⟩
abbrev nP:ByteArray:=⟨#[116,114,117,101]⟩
abbrev e8:ByteArray:=⟨#[116,119,105,99,101]⟩
abbrev hO:ByteArray:=⟨#[117,110,105,116]⟩
abbrev eI:ByteArray:=⟨#[120]⟩
abbrev oT:ByteArray:=⟨#[121]⟩
abbrev aeF:ByteArray:=⟨#[10]⟩
abbrev aeG:ByteArray:=⟨#[39]⟩
abbrev wF:ByteArray:=⟨#[41]⟩
abbrev H8:ByteArray:=⟨#[42]⟩
abbrev wG:ByteArray:=⟨#[43]⟩
abbrev AY:ByteArray:=⟨#[45]⟩
abbrev H9:ByteArray:=⟨#[60]⟩
abbrev IA:ByteArray:=⟨#[61]⟩
end Go.Proofs.YtpioomclpaiomaaGreat

namespace Go.Proofs.YtpioomclpaiomaaGreat
set_option linter.unusedSimpArgs false
set_option linter.unusedVariables false
open Go.RowKit Go.WalkArith Go.IntWalk Go.WideShapes
def CD(a:Int):UInt8:=UInt8.ofNat (a%256).toNat
theorem UX(a:Int):IntKind.wrap .u8 a=((CD a).toNat:Int):=by
 unfold CD IntKind.wrap
 simp [IntKind.bits,IntKind.signed]
 omega
def bytesStr(l:List UInt8):ByteArray:=⟨l.toArray⟩
theorem PQ(l:List UInt8):(bytesStr l).size=l.length:=by simp [bytesStr,ByteArray.size]
theorem PP(l:List UInt8):strOfNums (l.map fun b=>(b.toNat:Int))=bytesStr l:=by
 unfold strOfNums bytesStr
 congr 2
 rw [List.map_map]
 conv=>rhs;rw [← List.map_id l]
 apply List.map_congr_left
 intro b _
 simp
section
variable {P:Program} {C:oZ} {n:Nat} {s:AS} {o:Oper}
theorem aV.quoI{T yT:TypeId}{x y:Operand}{a b:Int}(ho:o.op= .binOp .quo T x y yT)(hd:bQ o.dst n=true)(hx:s.ev x=some (.t (.leaf (.int .i64 a))))(hy:s.ev y=some (.t (.leaf (.int .i64 b))))(hb:b≠0):
 aV P C n o s (s.putO o.dst (.t (.leaf (.int .i64 (aQ (a.tdiv b)))))):=aV.bin ho hd hx hy (fun w=>by simp [eqGuard,binOp,Op.intDiv,hb,aQ]) (wf_wrap .i64 _)
theorem aV.remI{T yT:TypeId}{x y:Operand}{a b:Int}(ho:o.op= .binOp .rem T x y yT)(hd:bQ o.dst n=true)(hx:s.ev x=some (.t (.leaf (.int .i64 a))))(hy:s.ev y=some (.t (.leaf (.int .i64 b))))(hb:b≠0):
 aV P C n o s (s.putO o.dst (.t (.leaf (.int .i64 (a.tmod b))))):=
 aV.quiet (cX hd) fun m ac w h=>by
  obtain⟨h1,h3⟩:=cF.leaf_eq (h.eval hx)
  have h2:=(cF.leaf_eq (h.eval hy)).1
  have h4: -9223372036854775808≤a∧a≤9223372036854775807:=by
   have h5:(Lit.int .i64 a).wf=true:=h3
   simpa [Lit.wf,IntKind.min,IntKind.max,IntKind.bits,IntKind.signed] using h5
  have h6:(a.tmod b).natAbs≤a.natAbs:=by rw [Int.natAbs_tmod];exact Nat.mod_le _ _
  have h7:0≤a→0≤a.tmod b:=fun h=>Int.tmod_nonneg b h
  have h8:a≤0→a.tmod b≤0:=fun h=>by have:=Int.tmod_nonneg b (show 0≤ -a by omega);rw [Int.neg_tmod] at this;omega
  refine⟨.int .i64 (a.tmod b),?_,cF.leaf (wf_i64 (by omega))⟩
  unfold execOp
  simp [ho,h1,h2,eqGuard,binOp,Op.intDiv,hb]
theorem aV.convU8{S T:TypeId}{x:Operand}{k:IntKind}{a:Int}(ho:o.op= .convert S T x)(hd:bQ o.dst n=true)(hx:s.ev x=some (.t (.leaf (.int k a))))(hS: ∃k',P.underlying S=some (.int k'))(hT:P.underlying T=some (.int .u8)):
 aV P C n o s (s.putO o.dst (.t (.leaf (.int .u8 ((CD a).toNat:Int))))):=
 aV.quiet (cX hd) fun m ac w h=>⟨.int .u8 ((CD a).toNat:Int),by
  have h3:=(cF.leaf_eq (h.eval hx)).1
  obtain⟨k',hS⟩:=hS
  unfold execOp
  simp [ho,h3,convert,run_underlying hS,run_underlying hT,Conv.intToInt,UX],cF.leaf (by rw [← UX];exact wf_wrap .u8 a)⟩
theorem aV.subU8{T yT:TypeId}{x y:Operand}{a b:Int}(ho:o.op= .binOp .sub T x y yT)(hd:bQ o.dst n=true)(hx:s.ev x=some (.t (.leaf (.int .u8 a))))(hy:s.ev y=some (.t (.leaf (.int .u8 b)))):
 aV P C n o s (s.putO o.dst (.t (.leaf (.int .u8 ((CD (a-b)).toNat:Int))))):=by
 rw [← UX]
 exact aV.subW ho hd hx hy
theorem aV.bytesStr{S T e:TypeId}{x:Operand}{p:PV}{l:List UInt8}(ho:o.op= .convert S T x)(hd:bQ o.dst n=true)(hx:s.ev x=some p)(hp:l4 p=some (1,cL l))(hS:P.underlying S=some (.slice e))(he:P.underlying e=some (.int .u8))(hT:P.underlying T=some .string):
 aV P C n o s (s.putO o.dst (.t (.leaf (.string (bytesStr l))))):=
 aV.quiet (cX hd) fun m ac w h=>by
  have h1:=tK hp (h.eval hx)
  obtain⟨a0,cap0,hv0,hl0,hm0⟩:=h1.shape
  rw [gB] at hl0
  have hsz:rY (.string (Go.Proofs.YtpioomclpaiomaaGreat.bytesStr l)):=by show(Go.Proofs.YtpioomclpaiomaaGreat.bytesStr l).size≤maxLen;rw [PQ];omega
  refine⟨.string (Go.Proofs.YtpioomclpaiomaaGreat.bytesStr l),?_,cF.leaf hsz⟩
  generalize hv:ac.eval x=v at*
  cases h1 with
  |row c q1 q2 q3 q4=>
   have keyAll: ∀(a:Option Addr) (cap:Nat) (q3:cL l≠ []→ ∃b off,a=some ⟨b,off,none⟩∧b<w.heap.size∧ ∀(i:Nat) (e:List Tr),(cL l)[i]?=some e→ ∀(j:Nat) (d:Tr),e[j]?=some d→jW C.av s.st m b (off+i*1+j)∧w.cell? ⟨b,off+i*1+j,none⟩=some (c i j)),(convert S T (.slice a (cL l).length cap)).run P w= .ok (.string (Go.Proofs.YtpioomclpaiomaaGreat.bytesStr l)) w:=fun a cap q3=>by
    by_cases hne:l= []
    ·subst hne
     have hlen:(cL []).length=0:=rfl
     rw [hlen]
     cases a with
     |none=>exact run_convert_bytes_nil (P:=P) w S e hS he 0 cap T hT
     |some a=>
      obtain⟨b,off,sp⟩:=a
      have hld:(loadCells ⟨b,off,sp⟩ 0).run P w= .ok (([]:List Int).map (Value.int .u8)).toArray w:=by simp [loadCells,loadCellsFrom]
      rw [run_convert_bytes_string w S T e _ 0 cap hS he hT,run_bytesToString w _ 0 cap [] hld]
      rfl
    ·obtain⟨b,off,ha,hb,hc⟩:=q3 (by intro h0;apply hne;have:=congrArg List.length h0;rw [gB] at this;exact List.eq_nil_of_length_eq_zero this)
     subst ha
     have:=run_convert_bytes_arg (P:=P) w S e hS he b off (cL l).length cap (l.map fun b=>(b.toNat:Int)) (by simp [gB]) (fun i hi=>by
      rw [gB] at hi
      have h4:=(hc i _ (vH hi) 0 (.leaf (.int .u8 ((l[i]).toNat:Int))) rfl).2
      have h5:=(q4 i _ (vH hi) 0 (.leaf (.int .u8 ((l[i]).toNat:Int))) rfl).rep.leaf_eq.1
      rw [Nat.mul_one,Nat.add_zero] at h4
      rw [h4,h5]
      simp [hi]) T hT
     rw [PP] at this
     exact this
   unfold execOp
   simp only [ho,hv]
   rw [Sem.run_bind,keyAll _ _ q3]
   rfl
end
end Go.Proofs.YtpioomclpaiomaaGreat

namespace Go.Proofs.YtpioomclpaiomaaGreat.W
set_option maxRecDepth 100000
set_option maxHeartbeats 40000000
noncomputable section
open Go.RowKit Go.Proofs
set_option linter.unusedSimpArgs false
set_option linter.unusedVariables false
attribute [local irreducible] lt
def SX(m:ByteArray→UInt8→Option ((List ByteArray))):Prop:= ∀(ps:ByteArray) (pby:UInt8) (r:(List ByteArray)),m ps pby=some r→cE Tryz.prog 191 [pS ps,pU pby] (rS r:PV)
def QG(fu:Nat)(ps:ByteArray)(pby:UInt8):((List ByteArray)×Int×Int)→Option (LR ((List ByteArray)×Int×Int) ((List ByteArray))):=
 fun(v4,v2,v3)=>sw (decide ((v3:Int)≤((ps.size:Nat):Int)))
 (sw (decide ((v3:Int)=((ps.size:Nat):Int)))
 (gd ((0:Int)≤v2∧(v2:Int)≤v3∧(v3:Int)≤((ps.size:Nat):Int))
 (gd ((v4).length+(([(ps.extract (v2:Int).toNat (v3:Int).toNat)]:List ByteArray)).length≤68719476736)
 (some (.next ((v4++([(ps.extract (v2:Int).toNat (v3:Int).toNat)]:List ByteArray)),(aQ (v3+1)),(aQ (v3+1)))))))
 (gd (0≤v3∧(v3).toNat<(ps).size)
 (sw (decide ((((zC ps ((v3).toNat)).toNat:Int):Int)=(pby.toNat:Int)))
 (gd ((0:Int)≤v2∧(v2:Int)≤v3∧(v3:Int)≤((ps.size:Nat):Int))
 (gd ((v4).length+(([(ps.extract (v2:Int).toNat (v3:Int).toNat)]:List ByteArray)).length≤68719476736)
 (some (.next ((v4++([(ps.extract (v2:Int).toNat (v3:Int).toNat)]:List ByteArray)),(aQ (v3+1)),(aQ (v3+1)))))))
 (some (.next (v4,v2,(aQ (v3+1))))))))
 (some (.brk (v4,v2,v3)))
def QH(fu:Nat)(ps:ByteArray)(pby:UInt8):Option (((List ByteArray))⊕((List ByteArray)×Int×Int)):=
 loopW (QG fu ps pby) fu (([]),0,0)
def zS(fu:Nat)(ps:ByteArray)(pby:UInt8):Option ((List ByteArray)):=
 so (QH fu ps pby) (fun(v4,v2,v3)=>
 some v4)
theorem QI(fu:Nat):SX (zS fu):=by
 intro ps pby r H
 have H:=fI H
 refine qI Tryz.func191 (fun C hC=>?_)
 refine qS (qR (q1 aF (qN (qS (qR (q1 (t2 ([]:List ByteArray) b3 lA) (q1 aF (qN (qS (qR (q1 aF (qN ?_))))))))))))
 iterate 2 refine qS ?_
 refine qR (q1 aF (qN ?_))
 refine lR 5 (bC _) (fun hl6=>?_)
 refine RC (σ:=(List ByteArray)×Int×Int) (fun(v4,v2,v3)=>⟨[(0,pS ps),(1,pU pby),(4,.nil),(5,aS v4 0),(6,pI v2),(7,pI v3)],⟨[],[⟨9,1,aW (v4),false⟩]⟩⟩) (fun(v4,v2,v3)=>⟨[(4,.nil),(5,aS v4 0)],⟨[],[⟨9,1,aW (v4),false⟩]⟩⟩) (gU H) ?_ ?_
 ·rintro k5 ⟨v4,v2,v3⟩ H
  iterate 2 refine qS ?_
  refine qR ?_
  iterate 2 refine q1 aF ?_
  refine q1 (aV.lenS rfl rfl rfl Tryz.underlying9) (q1 rLe (qN ?_))
  refine bA H (fun h7 H=>?_) (fun h7 H=>?_)
  ·refine aP.skip (qS (aP.block (qS (qR ?_))))
   iterate 2 refine q1 aF ?_
   refine q1 (aV.lenS rfl rfl rfl Tryz.underlying9) (q1 eM (q1 aF ?_))
   refine d9 19 H (fun g8 H=>?_) fun g8 H=>?_
   ·refine qk g8 ?_
    iterate 4 refine qk g8 ?_
    refine q1 (bR g8) (qN (dV rfl (qS (qR ?_))))
    iterate 4 refine q1 aF ?_
    refine dF H fun z9 H=>(q1 (aV.sliceS (l:=v2) (k:=v3) rfl rfl rfl rfl rfl z9 Tryz.underlying9) (q1 (iA ([(ps.extract (v2:Int).toNat (v3:Int).toNat)]:List ByteArray) b3 lA) (dF H fun z10 H=>(q1 (mJ z10 b3 rT) (q1 aF (qN (qR (q1 aF (q1 ML (q1 aF (qN (qR (q1 aF ?_)))))))))))))
    refine q1 ML (q1 aF (qN ?_))
    exact lwN ⟨_,(aY H:),b0⟩
   iterate 2 refine qg g8 aF ?_
   refine dF H fun z11 H=>(qg g8 (aV.indexSI (y:=v3) rfl rfl rfl rfl z11.1 z11.2 Tryz.underlying9) (qg g8 aF (qg g8 eM (q1 (b5 g8) (qN ?_)))))
   refine bA H (fun h12 H=>?_) (fun h12 H=>?_)
   ·refine qS (qR ?_)
    iterate 4 refine q1 aF ?_
    refine dF H fun z13 H=>(q1 (aV.sliceS (l:=v2) (k:=v3) rfl rfl rfl rfl rfl z13 Tryz.underlying9) (q1 (iA ([(ps.extract (v2:Int).toNat (v3:Int).toNat)]:List ByteArray) b3 lA) (dF H fun z14 H=>(q1 (mJ z14 b3 rT) (q1 aF (qN (qR (q1 aF (q1 ML (q1 aF (qN (qR (q1 aF ?_)))))))))))))
    refine q1 ML (q1 aF (qN ?_))
    exact lwN ⟨_,(aY H:),b0⟩
   refine aP.skip (qR (q1 aF (q1 ML (q1 aF (qN ?_)))))
   exact lwN ⟨_,(aY H:),b0⟩
  refine aP.exit ?_;exact lwB ⟨_,(aY H:),b0⟩
 rintro⟨v4,v2,v3⟩ H
 refine qS (qR ?_)
 iterate 2 refine q1 aF ?_
 refine qN (aP.ret ?_)
 obtain rfl:_=r:=(aY H:)
 exact bM
def ad1(m:cC→Option cC):Prop:= ∀(pr:cC) (r:cC),m pr=some r→cY Tryz.prog 216 [.ptr 0 0] ⟨[some ⟨250,[pS pr.gs,pI pr.gat,pI pr.gdeep,pI pr.gsize,pB pr.gbad]⟩],[]⟩ (fun q t=>q=(.tup []:PV)∧t=⟨[some ⟨250,[pS r.gs,pI r.gat,pI r.gdeep,pI r.gsize,pB r.gbad]⟩],[]⟩)
def O0(fu:Nat)(pr:cC):Int→Option (LR Int cC):=
 fun v1=>sw (decide ((v1:Int)<((pr.gs.size:Nat):Int)))
 (gd (0≤v1∧(v1).toNat<(pr.gs).size)
 (sw (decide ((((zC pr.gs ((v1).toNat)).toNat:Int):Int)=32))
 (some (.next (aQ (v1+1))))
 (sw (decide ((((zC pr.gs ((v1).toNat)).toNat:Int):Int)=10))
 (some (.next (aQ (v1+1))))
 (some (.brk v1)))))
 (some (.brk v1))
def O1(fu:Nat)(pr:cC):Option (cC⊕Int):=
 loopW (O0 fu pr) fu pr.gat
def vB(fu:Nat)(pr:cC):Option cC:=
 so (O1 fu pr) (fun v1=>
 some (cC.mk pr.gs v1 pr.gdeep pr.gsize pr.gbad))
theorem GM(fu:Nat):ad1 (vB fu):=by
 intro pr r H
 have H:=fI H
 refine qI Tryz.func216 (fun C hC=>?_)
 refine RC (σ:=Int) (fun v1=>⟨[(0,.ptr 0 0)],⟨[some ⟨250,[pS pr.gs,pI v1,pI pr.gdeep,pI pr.gsize,pB pr.gbad]⟩],[]⟩⟩) (fun v1=>⟨[],⟨[some ⟨250,[pS pr.gs,pI v1,pI pr.gdeep,pI pr.gsize,pB pr.gbad]⟩],[]⟩⟩) (gU H) ?_ ?_
 ·rintro k2 v1 H
  iterate 2 refine qS ?_
  rcases kM (decide ((v1:Int)<((pr.gs.size:Nat):Int))) with g3|g3
  ·have H:=nR H g3
   refine dF H fun z4 H=>?_
   rcases kM (decide ((((zC pr.gs ((v1).toNat)).toNat:Int):Int)=32)) with g5|g5
   ·have H:=nR H g5
    refine dW (dI [0] aF (dI [2] oO (dI [3] (a5 e7) (dD [4] (bG jQ) (dI [0] aF (dI [6] oO (dI [7] (a5 kO) (dD [8] (bG fB) (dI [9] (aV.lenS rfl rfl rfl Tryz.underlying9) (dI [5,10] hZ (dI [11] aF (dI (hg:=aZ g3) [0] aF (dI (hg:=aZ g3) [13] oO ?_)))))))))))))
    refine dI (hg:=aZ g3) [14] (a5 kO) (dD (hg:=aZ g3) [15] (bG fB) (dI (hg:=aZ g3) [0] aF (dI (hg:=aZ g3) [17] oO (dI (hg:=aZ g3) [18] (a5 e7) (dD (hg:=aZ g3) [19] (bG jQ) (dI (hg:=aZ g3) [16,20] (aV.indexSI (y:=v1) rfl rfl rfl rfl z4.1 z4.2 Tryz.underlying9) (dI (hg:=aZ g3) [21] eM (dI (hg:=aZ g3) [22] aF ?_))))))))
    iterate 10 refine CL g5 ?_
    refine dI (hg:=aZ g3) [23] (bR g5) (dI [12,34] (bR g3) (dN (dV rfl (aP.skip (aP.block (qR ?_))))))
    iterate 2 refine q1 aF ?_
    refine q1 oO (q1 (a5 e7) (q1 (bG jQ) (q1 ML (q1 oO (q1 (a5 e7) (q1 (bU sz3) (qN ?_)))))))
    exact lwN ⟨_,(aY H:),b0⟩
   have H:=nQ H g5
   refine dW (dI [0] aF (dI [2] oO (dI [3] (a5 e7) (dD [4] (bG jQ) (dI [0] aF (dI [6] oO (dI [7] (a5 kO) (dD [8] (bG fB) (dI [9] (aV.lenS rfl rfl rfl Tryz.underlying9) (dI [5,10] hZ (dI [11] aF (dI (hg:=aZ g3) [0] aF (dI (hg:=aZ g3) [13] oO ?_)))))))))))))
   refine dI (hg:=aZ g3) [14] (a5 kO) (dD (hg:=aZ g3) [15] (bG fB) (dI (hg:=aZ g3) [0] aF (dI (hg:=aZ g3) [17] oO (dI (hg:=aZ g3) [18] (a5 e7) (dD (hg:=aZ g3) [19] (bG jQ) (dI (hg:=aZ g3) [16,20] (aV.indexSI (y:=v1) rfl rfl rfl rfl z4.1 z4.2 Tryz.underlying9) (dI (hg:=aZ g3) [21] eM (dI (hg:=aZ g3) [22] aF (dI (hg:=aZ g5) [0] aF (dI (hg:=aZ g5) [24] oO (dI (hg:=aZ g5) [25] (a5 kO) (dD (hg:=aZ g5) [26] (bG fB) (dI (hg:=aZ g5) [0] aF ?_)))))))))))))
   refine dI (hg:=aZ g5) [28] oO (dI (hg:=aZ g5) [29] (a5 e7) (dD (hg:=aZ g5) [30] (bG jQ) (dI (hg:=aZ g5) [27,31] (aV.indexSI (y:=v1) rfl rfl rfl rfl z4.1 z4.2 Tryz.underlying9) (dI (hg:=aZ g5) [32] eM (dI (hg:=aZ g3) [23,33] (b5 g5) (dI [12,34] (bR g3) (dN ?_)))))))
   refine bA H (fun h6 H=>?_) (fun h6 H=>?_)
   ·refine aP.skip (aP.block (qR ?_))
    iterate 2 refine q1 aF ?_
    refine q1 oO (q1 (a5 e7) (q1 (bG jQ) (q1 ML (q1 oO (q1 (a5 e7) (q1 (bU sz3) (qN ?_)))))))
    exact lwN ⟨_,(aY H:),b0⟩
   refine aP.exit ?_;exact lwB ⟨_,(aY H:),b0⟩
  have H:=nQ H g3
  refine dW (dI [0] aF (dI [2] oO (dI [3] (a5 e7) (dD [4] (bG jQ) (dI [0] aF (dI [6] oO (dI [7] (a5 kO) (dD [8] (bG fB) (dI [9] (aV.lenS rfl rfl rfl Tryz.underlying9) (dI [5,10] hZ (dI [11] aF ?_)))))))))))
  iterate 11 refine CL g3 ?_
  iterate 10 refine dSu ?_
  refine CL g3 (dI [12] (b5 g3) (dN (iX rfl (aP.exit ?_))))
  exact lwB ⟨_,(aY H:),b0⟩
 rintro v1 H
 obtain rfl:_=r:=(aY H:)
 exact qe (ps:= []) ⟨rfl,rfl⟩ trivial
def adX(m:UInt8→Option Bool):Prop:= ∀(px:UInt8) (r:Bool),m px=some r→cE Tryz.prog 226 [pU px] (pB r:PV)
def C3(fu:Nat)(px:UInt8):Option Bool:=
 sw (decide (((px.toNat:Int):Int)≥97))
 (sw (decide (((px.toNat:Int):Int)≤122))
 (some true)
 (sw (decide (((px.toNat:Int):Int)≥48))
 (sw (decide (((px.toNat:Int):Int)≤57))
 (some true)
 (sw (decide (((px.toNat:Int):Int)=39))
 (some true)
 (sw (decide (((px.toNat:Int):Int)=45))
 (some true)
 (sw (decide (((px.toNat:Int):Int)=43))
 (some true)
 (sw (decide (((px.toNat:Int):Int)=42))
 (some true)
 (sw (decide (((px.toNat:Int):Int)=60))
 (some true)
 (sw (decide (((px.toNat:Int):Int)=61))
 (some true)
 (some (decide (((px.toNat:Int):Int)=46))))))))))
 (sw (decide (((px.toNat:Int):Int)=39))
 (some true)
 (sw (decide (((px.toNat:Int):Int)=45))
 (some true)
 (sw (decide (((px.toNat:Int):Int)=43))
 (some true)
 (sw (decide (((px.toNat:Int):Int)=42))
 (some true)
 (sw (decide (((px.toNat:Int):Int)=60))
 (some true)
 (sw (decide (((px.toNat:Int):Int)=61))
 (some true)
 (some (decide (((px.toNat:Int):Int)=46)))))))))))
 (sw (decide (((px.toNat:Int):Int)≥48))
 (sw (decide (((px.toNat:Int):Int)≤57))
 (some true)
 (sw (decide (((px.toNat:Int):Int)=39))
 (some true)
 (sw (decide (((px.toNat:Int):Int)=45))
 (some true)
 (sw (decide (((px.toNat:Int):Int)=43))
 (some true)
 (sw (decide (((px.toNat:Int):Int)=42))
 (some true)
 (sw (decide (((px.toNat:Int):Int)=60))
 (some true)
 (sw (decide (((px.toNat:Int):Int)=61))
 (some true)
 (some (decide (((px.toNat:Int):Int)=46))))))))))
 (sw (decide (((px.toNat:Int):Int)=39))
 (some true)
 (sw (decide (((px.toNat:Int):Int)=45))
 (some true)
 (sw (decide (((px.toNat:Int):Int)=43))
 (some true)
 (sw (decide (((px.toNat:Int):Int)=42))
 (some true)
 (sw (decide (((px.toNat:Int):Int)=60))
 (some true)
 (sw (decide (((px.toNat:Int):Int)=61))
 (some true)
 (some (decide (((px.toNat:Int):Int)=46))))))))))
theorem OV(fu:Nat):adX (C3 fu):=by
 intro px r H
 have H:=fI H
 refine qI Tryz.func226 (fun C hC=>?_)
 refine qS (qR (q1 aF (qN (qS (qR (q1 aF (q1 RG (q1 aF ?_))))))))
 refine d9 5 H (fun g1 H=>?_) fun g1 H=>?_
 ·refine qg g1 aF (qg g1 rLe (q1 (bR g1) (q1 aF ?_)))
  refine d9 9 H (fun g2 H=>?_) fun g2 H=>?_
  ·refine qk g2 ?_
   iterate 2 refine qk g2 ?_
   iterate 2 refine GR ?_
   refine qk g2 (q1 (bR g2) (q1 aF ?_))
   iterate 2 refine qk rfl ?_
   refine q1 (bR rfl) (q1 aF ?_)
   iterate 2 refine qk rfl ?_
   refine q1 (bR rfl) (q1 aF ?_)
   iterate 2 refine qk rfl ?_
   refine q1 (bR rfl) (q1 aF ?_)
   iterate 2 refine qk rfl ?_
   refine q1 (bR rfl) (q1 aF ?_)
   iterate 2 refine qk rfl ?_
   refine q1 (bR rfl) (q1 aF ?_)
   iterate 2 refine qk rfl ?_
   refine q1 (bR rfl) (q1 aF ?_)
   iterate 2 refine qk rfl ?_
   refine q1 (bR rfl) (q1 aF (qN (aP.ret ?_)))
   obtain rfl:_=r:=(aY H:)
   exact bM
  refine qg g2 aF (qg g2 RG (qg g2 aF ?_))
  refine d9 12 H (fun g3 H=>?_) fun g3 H=>?_
  ·refine qg g3 aF (qg g3 rLe (qg g2 (bR g3) (q1 (b5 g2) (q1 aF ?_))))
   refine d9 17 H (fun g4 H=>?_) fun g4 H=>?_
   ·refine qk g4 (qk g4 (q1 (bR g4) (q1 aF ?_)))
    iterate 2 refine qk rfl ?_
    refine q1 (bR rfl) (q1 aF ?_)
    iterate 2 refine qk rfl ?_
    refine q1 (bR rfl) (q1 aF ?_)
    iterate 2 refine qk rfl ?_
    refine q1 (bR rfl) (q1 aF ?_)
    iterate 2 refine qk rfl ?_
    refine q1 (bR rfl) (q1 aF ?_)
    iterate 2 refine qk rfl ?_
    refine q1 (bR rfl) (q1 aF ?_)
    iterate 2 refine qk rfl ?_
    refine q1 (bR rfl) (q1 aF (qN (aP.ret ?_)))
    obtain rfl:_=r:=(aY H:)
    exact bM
   refine qg g4 aF (qg g4 eM (q1 (b5 g4) (q1 aF ?_)))
   refine d9 21 H (fun g5 H=>?_) fun g5 H=>?_
   ·refine qk g5 (qk g5 (q1 (bR g5) (q1 aF ?_)))
    iterate 2 refine qk rfl ?_
    refine q1 (bR rfl) (q1 aF ?_)
    iterate 2 refine qk rfl ?_
    refine q1 (bR rfl) (q1 aF ?_)
    iterate 2 refine qk rfl ?_
    refine q1 (bR rfl) (q1 aF ?_)
    iterate 2 refine qk rfl ?_
    refine q1 (bR rfl) (q1 aF ?_)
    iterate 2 refine qk rfl ?_
    refine q1 (bR rfl) (q1 aF (qN (aP.ret ?_)))
    obtain rfl:_=r:=(aY H:)
    exact bM
   refine qg g5 aF (qg g5 eM (q1 (b5 g5) (q1 aF ?_)))
   refine d9 25 H (fun g6 H=>?_) fun g6 H=>?_
   ·refine qk g6 (qk g6 (q1 (bR g6) (q1 aF ?_)))
    iterate 2 refine qk rfl ?_
    refine q1 (bR rfl) (q1 aF ?_)
    iterate 2 refine qk rfl ?_
    refine q1 (bR rfl) (q1 aF ?_)
    iterate 2 refine qk rfl ?_
    refine q1 (bR rfl) (q1 aF ?_)
    iterate 2 refine qk rfl ?_
    refine q1 (bR rfl) (q1 aF (qN (aP.ret ?_)))
    obtain rfl:_=r:=(aY H:)
    exact bM
   refine qg g6 aF (qg g6 eM (q1 (b5 g6) (q1 aF ?_)))
   refine d9 29 H (fun g7 H=>?_) fun g7 H=>?_
   ·refine qk g7 (qk g7 (q1 (bR g7) (q1 aF ?_)))
    iterate 2 refine qk rfl ?_
    refine q1 (bR rfl) (q1 aF ?_)
    iterate 2 refine qk rfl ?_
    refine q1 (bR rfl) (q1 aF ?_)
    iterate 2 refine qk rfl ?_
    refine q1 (bR rfl) (q1 aF (qN (aP.ret ?_)))
    obtain rfl:_=r:=(aY H:)
    exact bM
   refine qg g7 aF (qg g7 eM (q1 (b5 g7) (q1 aF ?_)))
   refine d9 33 H (fun g8 H=>?_) fun g8 H=>?_
   ·refine qk g8 (qk g8 (q1 (bR g8) (q1 aF ?_)))
    iterate 2 refine qk rfl ?_
    refine q1 (bR rfl) (q1 aF ?_)
    iterate 2 refine qk rfl ?_
    refine q1 (bR rfl) (q1 aF (qN (aP.ret ?_)))
    obtain rfl:_=r:=(aY H:)
    exact bM
   refine qg g8 aF (qg g8 eM (q1 (b5 g8) (q1 aF ?_)))
   refine d9 37 H (fun g9 H=>?_) fun g9 H=>?_
   ·refine qk g9 (qk g9 (q1 (bR g9) (q1 aF ?_)))
    iterate 2 refine qk rfl ?_
    refine q1 (bR rfl) (q1 aF (qN (aP.ret ?_)))
    obtain rfl:_=r:=(aY H:)
    exact bM
   refine qg g9 aF (qg g9 eM (q1 (b5 g9) (q1 aF ?_)))
   refine d9 41 H (fun g10 H=>?_) fun g10 H=>?_
   ·refine qk g10 (qk g10 (q1 (bR g10) (q1 aF (qN (aP.ret ?_)))))
    obtain rfl:_=r:=(aY H:)
    exact bM
   refine qg g10 aF (qg g10 eM (q1 (b5 g10) (q1 aF (qN (aP.ret ?_)))))
   obtain rfl:_=r:=(aY H:)
   exact bM
  iterate 2 refine qk g3 ?_
  refine qg g2 (b5 g3) (q1 (b5 g2) (q1 aF (qg rfl aF (qg rfl eM (q1 (b5 rfl) (q1 aF ?_))))))
  refine d9 21 H (fun g11 H=>?_) fun g11 H=>?_
  ·refine qk g11 (qk g11 (q1 (bR g11) (q1 aF ?_)))
   iterate 2 refine qk rfl ?_
   refine q1 (bR rfl) (q1 aF ?_)
   iterate 2 refine qk rfl ?_
   refine q1 (bR rfl) (q1 aF ?_)
   iterate 2 refine qk rfl ?_
   refine q1 (bR rfl) (q1 aF ?_)
   iterate 2 refine qk rfl ?_
   refine q1 (bR rfl) (q1 aF ?_)
   iterate 2 refine qk rfl ?_
   refine q1 (bR rfl) (q1 aF (qN (aP.ret ?_)))
   obtain rfl:_=r:=(aY H:)
   exact bM
  refine qg g11 aF (qg g11 eM (q1 (b5 g11) (q1 aF ?_)))
  refine d9 25 H (fun g12 H=>?_) fun g12 H=>?_
  ·refine qk g12 (qk g12 (q1 (bR g12) (q1 aF ?_)))
   iterate 2 refine qk rfl ?_
   refine q1 (bR rfl) (q1 aF ?_)
   iterate 2 refine qk rfl ?_
   refine q1 (bR rfl) (q1 aF ?_)
   iterate 2 refine qk rfl ?_
   refine q1 (bR rfl) (q1 aF ?_)
   iterate 2 refine qk rfl ?_
   refine q1 (bR rfl) (q1 aF (qN (aP.ret ?_)))
   obtain rfl:_=r:=(aY H:)
   exact bM
  refine qg g12 aF (qg g12 eM (q1 (b5 g12) (q1 aF ?_)))
  refine d9 29 H (fun g13 H=>?_) fun g13 H=>?_
  ·refine qk g13 (qk g13 (q1 (bR g13) (q1 aF ?_)))
   iterate 2 refine qk rfl ?_
   refine q1 (bR rfl) (q1 aF ?_)
   iterate 2 refine qk rfl ?_
   refine q1 (bR rfl) (q1 aF ?_)
   iterate 2 refine qk rfl ?_
   refine q1 (bR rfl) (q1 aF (qN (aP.ret ?_)))
   obtain rfl:_=r:=(aY H:)
   exact bM
  refine qg g13 aF (qg g13 eM (q1 (b5 g13) (q1 aF ?_)))
  refine d9 33 H (fun g14 H=>?_) fun g14 H=>?_
  ·refine qk g14 (qk g14 (q1 (bR g14) (q1 aF ?_)))
   iterate 2 refine qk rfl ?_
   refine q1 (bR rfl) (q1 aF ?_)
   iterate 2 refine qk rfl ?_
   refine q1 (bR rfl) (q1 aF (qN (aP.ret ?_)))
   obtain rfl:_=r:=(aY H:)
   exact bM
  refine qg g14 aF (qg g14 eM (q1 (b5 g14) (q1 aF ?_)))
  refine d9 37 H (fun g15 H=>?_) fun g15 H=>?_
  ·refine qk g15 (qk g15 (q1 (bR g15) (q1 aF ?_)))
   iterate 2 refine qk rfl ?_
   refine q1 (bR rfl) (q1 aF (qN (aP.ret ?_)))
   obtain rfl:_=r:=(aY H:)
   exact bM
  refine qg g15 aF (qg g15 eM (q1 (b5 g15) (q1 aF ?_)))
  refine d9 41 H (fun g16 H=>?_) fun g16 H=>?_
  ·refine qk g16 (qk g16 (q1 (bR g16) (q1 aF (qN (aP.ret ?_)))))
   obtain rfl:_=r:=(aY H:)
   exact bM
  refine qg g16 aF (qg g16 eM (q1 (b5 g16) (q1 aF (qN (aP.ret ?_)))))
  obtain rfl:_=r:=(aY H:)
  exact bM
 iterate 2 refine qk g1 ?_
 refine q1 (b5 g1) (q1 aF (qg rfl aF (qg rfl RG (qg rfl aF ?_))))
 refine d9 12 H (fun g17 H=>?_) fun g17 H=>?_
 ·refine qg g17 aF (qg g17 rLe (qg rfl (bR g17) (q1 (b5 rfl) (q1 aF ?_))))
  refine d9 17 H (fun g18 H=>?_) fun g18 H=>?_
  ·refine qk g18 (qk g18 (q1 (bR g18) (q1 aF ?_)))
   iterate 2 refine qk rfl ?_
   refine q1 (bR rfl) (q1 aF ?_)
   iterate 2 refine qk rfl ?_
   refine q1 (bR rfl) (q1 aF ?_)
   iterate 2 refine qk rfl ?_
   refine q1 (bR rfl) (q1 aF ?_)
   iterate 2 refine qk rfl ?_
   refine q1 (bR rfl) (q1 aF ?_)
   iterate 2 refine qk rfl ?_
   refine q1 (bR rfl) (q1 aF ?_)
   iterate 2 refine qk rfl ?_
   refine q1 (bR rfl) (q1 aF (qN (aP.ret ?_)))
   obtain rfl:_=r:=(aY H:)
   exact bM
  refine qg g18 aF (qg g18 eM (q1 (b5 g18) (q1 aF ?_)))
  refine d9 21 H (fun g19 H=>?_) fun g19 H=>?_
  ·refine qk g19 (qk g19 (q1 (bR g19) (q1 aF ?_)))
   iterate 2 refine qk rfl ?_
   refine q1 (bR rfl) (q1 aF ?_)
   iterate 2 refine qk rfl ?_
   refine q1 (bR rfl) (q1 aF ?_)
   iterate 2 refine qk rfl ?_
   refine q1 (bR rfl) (q1 aF ?_)
   iterate 2 refine qk rfl ?_
   refine q1 (bR rfl) (q1 aF ?_)
   iterate 2 refine qk rfl ?_
   refine q1 (bR rfl) (q1 aF (qN (aP.ret ?_)))
   obtain rfl:_=r:=(aY H:)
   exact bM
  refine qg g19 aF (qg g19 eM (q1 (b5 g19) (q1 aF ?_)))
  refine d9 25 H (fun g20 H=>?_) fun g20 H=>?_
  ·refine qk g20 (qk g20 (q1 (bR g20) (q1 aF ?_)))
   iterate 2 refine qk rfl ?_
   refine q1 (bR rfl) (q1 aF ?_)
   iterate 2 refine qk rfl ?_
   refine q1 (bR rfl) (q1 aF ?_)
   iterate 2 refine qk rfl ?_
   refine q1 (bR rfl) (q1 aF ?_)
   iterate 2 refine qk rfl ?_
   refine q1 (bR rfl) (q1 aF (qN (aP.ret ?_)))
   obtain rfl:_=r:=(aY H:)
   exact bM
  refine qg g20 aF (qg g20 eM (q1 (b5 g20) (q1 aF ?_)))
  refine d9 29 H (fun g21 H=>?_) fun g21 H=>?_
  ·refine qk g21 (qk g21 (q1 (bR g21) (q1 aF ?_)))
   iterate 2 refine qk rfl ?_
   refine q1 (bR rfl) (q1 aF ?_)
   iterate 2 refine qk rfl ?_
   refine q1 (bR rfl) (q1 aF ?_)
   iterate 2 refine qk rfl ?_
   refine q1 (bR rfl) (q1 aF (qN (aP.ret ?_)))
   obtain rfl:_=r:=(aY H:)
   exact bM
  refine qg g21 aF (qg g21 eM (q1 (b5 g21) (q1 aF ?_)))
  refine d9 33 H (fun g22 H=>?_) fun g22 H=>?_
  ·refine qk g22 (qk g22 (q1 (bR g22) (q1 aF ?_)))
   iterate 2 refine qk rfl ?_
   refine q1 (bR rfl) (q1 aF ?_)
   iterate 2 refine qk rfl ?_
   refine q1 (bR rfl) (q1 aF (qN (aP.ret ?_)))
   obtain rfl:_=r:=(aY H:)
   exact bM
  refine qg g22 aF (qg g22 eM (q1 (b5 g22) (q1 aF ?_)))
  refine d9 37 H (fun g23 H=>?_) fun g23 H=>?_
  ·refine qk g23 (qk g23 (q1 (bR g23) (q1 aF ?_)))
   iterate 2 refine qk rfl ?_
   refine q1 (bR rfl) (q1 aF (qN (aP.ret ?_)))
   obtain rfl:_=r:=(aY H:)
   exact bM
  refine qg g23 aF (qg g23 eM (q1 (b5 g23) (q1 aF ?_)))
  refine d9 41 H (fun g24 H=>?_) fun g24 H=>?_
  ·refine qk g24 (qk g24 (q1 (bR g24) (q1 aF (qN (aP.ret ?_)))))
   obtain rfl:_=r:=(aY H:)
   exact bM
  refine qg g24 aF (qg g24 eM (q1 (b5 g24) (q1 aF (qN (aP.ret ?_)))))
  obtain rfl:_=r:=(aY H:)
  exact bM
 iterate 2 refine qk g17 ?_
 refine qg rfl (b5 g17) (q1 (b5 rfl) (q1 aF (qg rfl aF (qg rfl eM (q1 (b5 rfl) (q1 aF ?_))))))
 refine d9 21 H (fun g25 H=>?_) fun g25 H=>?_
 ·refine qk g25 (qk g25 (q1 (bR g25) (q1 aF ?_)))
  iterate 2 refine qk rfl ?_
  refine q1 (bR rfl) (q1 aF ?_)
  iterate 2 refine qk rfl ?_
  refine q1 (bR rfl) (q1 aF ?_)
  iterate 2 refine qk rfl ?_
  refine q1 (bR rfl) (q1 aF ?_)
  iterate 2 refine qk rfl ?_
  refine q1 (bR rfl) (q1 aF ?_)
  iterate 2 refine qk rfl ?_
  refine q1 (bR rfl) (q1 aF (qN (aP.ret ?_)))
  obtain rfl:_=r:=(aY H:)
  exact bM
 refine qg g25 aF (qg g25 eM (q1 (b5 g25) (q1 aF ?_)))
 refine d9 25 H (fun g26 H=>?_) fun g26 H=>?_
 ·refine qk g26 (qk g26 (q1 (bR g26) (q1 aF ?_)))
  iterate 2 refine qk rfl ?_
  refine q1 (bR rfl) (q1 aF ?_)
  iterate 2 refine qk rfl ?_
  refine q1 (bR rfl) (q1 aF ?_)
  iterate 2 refine qk rfl ?_
  refine q1 (bR rfl) (q1 aF ?_)
  iterate 2 refine qk rfl ?_
  refine q1 (bR rfl) (q1 aF (qN (aP.ret ?_)))
  obtain rfl:_=r:=(aY H:)
  exact bM
 refine qg g26 aF (qg g26 eM (q1 (b5 g26) (q1 aF ?_)))
 refine d9 29 H (fun g27 H=>?_) fun g27 H=>?_
 ·refine qk g27 (qk g27 (q1 (bR g27) (q1 aF ?_)))
  iterate 2 refine qk rfl ?_
  refine q1 (bR rfl) (q1 aF ?_)
  iterate 2 refine qk rfl ?_
  refine q1 (bR rfl) (q1 aF ?_)
  iterate 2 refine qk rfl ?_
  refine q1 (bR rfl) (q1 aF (qN (aP.ret ?_)))
  obtain rfl:_=r:=(aY H:)
  exact bM
 refine qg g27 aF (qg g27 eM (q1 (b5 g27) (q1 aF ?_)))
 refine d9 33 H (fun g28 H=>?_) fun g28 H=>?_
 ·refine qk g28 (qk g28 (q1 (bR g28) (q1 aF ?_)))
  iterate 2 refine qk rfl ?_
  refine q1 (bR rfl) (q1 aF ?_)
  iterate 2 refine qk rfl ?_
  refine q1 (bR rfl) (q1 aF (qN (aP.ret ?_)))
  obtain rfl:_=r:=(aY H:)
  exact bM
 refine qg g28 aF (qg g28 eM (q1 (b5 g28) (q1 aF ?_)))
 refine d9 37 H (fun g29 H=>?_) fun g29 H=>?_
 ·refine qk g29 (qk g29 (q1 (bR g29) (q1 aF ?_)))
  iterate 2 refine qk rfl ?_
  refine q1 (bR rfl) (q1 aF (qN (aP.ret ?_)))
  obtain rfl:_=r:=(aY H:)
  exact bM
 refine qg g29 aF (qg g29 eM (q1 (b5 g29) (q1 aF ?_)))
 refine d9 41 H (fun g30 H=>?_) fun g30 H=>?_
 ·refine qk g30 (qk g30 (q1 (bR g30) (q1 aF (qN (aP.ret ?_)))))
  obtain rfl:_=r:=(aY H:)
  exact bM
 refine qg g30 aF (qg g30 eM (q1 (b5 g30) (q1 aF (qN (aP.ret ?_)))))
 obtain rfl:_=r:=(aY H:)
 exact bM
abbrev qV:=cC→Option (aB×cC)
def C7(m:qV):Prop:= ∀(pq0:cC) (r:aB×cC),m pq0=some r→cY Tryz.prog 215 [.ptr 0 0] ⟨[some ⟨250,[pS pq0.gs,pI pq0.gat,pI pq0.gdeep,pI pq0.gsize,pB pq0.gbad]⟩],[]⟩ (fun q t=>q=((aB.pv r.1):PV)∧t=⟨[some ⟨250,[pS r.2.gs,pI r.2.gat,pI r.2.gdeep,pI r.2.gsize,pB r.2.gbad]⟩],[]⟩)
def OW(fu:Nat)(r_sl2Read:qV)(pq0 x2:cC):Int→Option (LR Int (aB×cC)):=
 fun v5=>sw (decide ((v5:Int)<((x2.gs.size:Nat):Int)))
 (gd (0≤v5∧(v5).toNat<(x2.gs).size)
 (bd (C3 fu (zC x2.gs ((v5).toNat))) (fun x10=>
 sw (x10)
 (some (.next (aQ (v5+1))))
 (some (.brk v5)))))
 (some (.brk v5))
def OY(fu:Nat)(r_sl2Read:qV)(pq0 x2:cC):Option ((aB×cC)⊕Int):=
 loopW (OW fu r_sl2Read pq0 x2) fu x2.gat
def OX(fu:Nat)(r_sl2Read:qV)(pq0 x2:cC)(v5:Int):(ByteArray×Int×Int×Int×Bool×(List aB))→Option (LR (ByteArray×Int×Int×Int×Bool×(List aB)) (aB×cC)):=
 fun(v17,v18,v19,v20,v21,v23)=>sw (!(v21))
 (bd (vB fu (cC.mk v17 v18 v19 v20 v21)) (fun x27=>
 sw (decide ((x27.gat:Int)<((x27.gs.size:Nat):Int)))
 (gd (0≤x27.gat∧(x27.gat).toNat<(x27.gs).size)
 (sw (decide ((((zC x27.gs ((x27.gat).toNat)).toNat:Int):Int)=41))
 (some (.ret ((aB.mk s_ v23),(cC.mk x27.gs (aQ (x27.gat+1)) (aQ (x27.gdeep-1)) x27.gsize x27.gbad))))
 (bd (r_sl2Read x27) (fun(x32,x33)=>
 gd ((v23).length+(([x32]:List aB)).length≤68719476736)
 (some (.next (x33.gs,x33.gat,x33.gdeep,x33.gsize,x33.gbad,(v23++([x32]:List aB)))))))))
 (bd (r_sl2Read x27) (fun(x36,x37)=>
 gd ((v23).length+(([x36]:List aB)).length≤68719476736)
 (some (.next (x37.gs,x37.gat,x37.gdeep,x37.gsize,x37.gbad,(v23++([x36]:List aB)))))))))
 (some (.brk (v17,v18,v19,v20,v21,v23)))
def OZ(fu:Nat)(r_sl2Read:qV)(pq0 x2:cC)(v5:Int):Option ((aB×cC)⊕(ByteArray×Int×Int×Int×Bool×(List aB))):=
 loopW (OX fu r_sl2Read pq0 x2 v5) fu (x2.gs,(aQ (v5+1)),(aQ (x2.gdeep+1)),(aQ (x2.gsize+1)),x2.gbad,([]))
def C6(fu:Nat)(r_sl2Read:qV)(pq0:cC):Option (aB×cC):=
 bd (vB fu pq0) (fun x2=>
 sw (decide ((x2.gat:Int)≥((x2.gs.size:Nat):Int)))
 (some ((aB.mk s_ []),(cC.mk x2.gs x2.gat x2.gdeep (aQ (x2.gsize+1)) true)))
 (sw (decide ((aQ (x2.gsize+1):Int)>900))
 (some ((aB.mk s_ []),(cC.mk x2.gs x2.gat x2.gdeep (aQ (x2.gsize+1)) true)))
 (so (OY fu r_sl2Read pq0 x2) (fun v5=>
 sw (decide ((v5:Int)>x2.gat))
 (gd ((0:Int)≤x2.gat∧(x2.gat:Int)≤v5∧(v5:Int)≤((x2.gs.size:Nat):Int))
 (some ((aB.mk (x2.gs.extract (x2.gat:Int).toNat (v5:Int).toNat) []),(cC.mk x2.gs v5 x2.gdeep (aQ (x2.gsize+1)) x2.gbad))))
 (gd (0≤v5∧(v5).toNat<(x2.gs).size)
 (sw (!decide ((((zC x2.gs ((v5).toNat)).toNat:Int):Int)=40))
 (some ((aB.mk s_ []),(cC.mk x2.gs v5 x2.gdeep (aQ (x2.gsize+1)) true)))
 (sw (decide ((x2.gdeep:Int)=14))
 (some ((aB.mk s_ []),(cC.mk x2.gs v5 x2.gdeep (aQ (x2.gsize+1)) true)))
 (so (OZ fu r_sl2Read pq0 x2 v5) (fun(v17,v18,v19,v20,v21,v23)=>
 some ((aB.mk s_ v23),(cC.mk v17 v18 v19 v20 v21)))))))))))
theorem UF(fu:Nat)(r_sl2Read:qV)(h_sl2Read:C7 r_sl2Read):C7 (C6 fu r_sl2Read):=by
 intro pq0 r H
 have H:=fI H
 refine qI Tryz.func215 (fun C hC=>?_)
 refine qS (qR (q1 (iV b6) (qN (qS (qR (q1 aF (bO H fun x2 z1 H=>(q1 (f7 [0] [] Tryz.func216 (GM fu pq0 _ z1)) (qN (qS (qR ?_)))))))))))
 iterate 2 refine q1 aF ?_
 refine q1 oO (q1 (a5 SG) (q1 (bG jQ) (q1 ML (q1 oO (q1 (a5 SG) (q1 (bU sz3) (qN ?_)))))))
 iterate 2 refine qS ?_
 rcases kM (decide ((x2.gat:Int)≥((x2.gs.size:Nat):Int))) with g3|g3
 ·have H:=nR H g3
  refine dW (dI [0] aF (dI [15] oO (dI [16] (a5 e7) (dD [17] (bG jQ) (dI [0] aF (dI [19] oO (dI [20] (a5 kO) (dD [21] (bG fB) (dI [22] (aV.lenS rfl rfl rfl Tryz.underlying9) (dI [18,23] RG (dI [24] aF ?_)))))))))))
  iterate 5 refine CL g3 ?_
  refine dI [25] (bR g3) (dN (dV rfl (qS (qR (q1 aF (q1 oO (q1 (a5 CO) (q1 (bU sz4) (qN (qS (qR (q1 (f6 b6 l3) (q1 (bU eA) ?_)))))))))))))
  refine qN (aP.ret ?_)
  obtain rfl:_=r:=(aY H:)
  exact bM (hr:=⟨⟨_,_,_,rfl,rfl,bN,rfl,rfl⟩,trivial⟩)
 have H:=nQ H g3
 refine dW (dI [0] aF (dI [15] oO (dI [16] (a5 e7) (dD [17] (bG jQ) (dI [0] aF (dI [19] oO (dI [20] (a5 kO) (dD [21] (bG fB) (dI [22] (aV.lenS rfl rfl rfl Tryz.underlying9) (dI [18,23] RG (dI [24] aF (dI (hg:=aZ g3) [0] aF (dI (hg:=aZ g3) [26] oO ?_)))))))))))))
 refine dI (hg:=aZ g3) [27] (a5 SG) (dD (hg:=aZ g3) [28] (bG jQ) (dI (hg:=aZ g3) [29] IB (dI [25,30] (b5 g3) (dN ?_))))
 refine bA H (fun h4 H=>?_) (fun h4 H=>?_)
 ·refine qS (qR (q1 aF (q1 oO (q1 (a5 CO) (q1 (bU sz4) (qN (qS (qR (q1 (f6 b6 l3) (q1 (bU eA) (qN (aP.ret ?_))))))))))))
  obtain rfl:_=r:=(aY H:)
  exact bM (hr:=⟨⟨_,_,_,rfl,rfl,bN,rfl,rfl⟩,trivial⟩)
 refine aP.skip (qS (qR (q1 aF (q1 oO (q1 (a5 e7) (q1 (bG jQ) (q1 aF (qN (qS ?_)))))))))
 refine RC (σ:=Int) (fun v5=>⟨[(0,.ptr 0 0),(2,.ptr 1 0),(3,pI x2.gat)],⟨[some ⟨250,[pS x2.gs,pI v5,pI x2.gdeep,pI (aQ (x2.gsize+1)),pB x2.gbad]⟩,some ⟨237,[pS s_,.nil]⟩],[]⟩⟩) (fun v5=>⟨[(0,.ptr 0 0),(2,.ptr 1 0),(3,pI x2.gat)],⟨[some ⟨250,[pS x2.gs,pI v5,pI x2.gdeep,pI (aQ (x2.gsize+1)),pB x2.gbad]⟩,some ⟨237,[pS s_,.nil]⟩],[]⟩⟩) (gU H) ?_ ?_
 ·rintro k6 v5 H
  iterate 2 refine qS ?_
  rcases kM (decide ((v5:Int)<((x2.gs.size:Nat):Int))) with g7|g7
  ·have H:=nR H g7
   refine dF H fun z8 H=>(bO H fun x10 z9 H=>(dW (dI [0] aF (dI [40] oO (dI [41] (a5 e7) (dD [42] (bG jQ) (dI [0] aF (dI [44] oO (dI [45] (a5 kO) (dD [46] (bG fB) (dI [47] (aV.lenS rfl rfl rfl Tryz.underlying9) (dI [43,48] hZ (dI [49] aF ?_)))))))))))))
   refine dI (hg:=aZ g7) [0] aF (dI (hg:=aZ g7) [51] oO (dI (hg:=aZ g7) [52] (a5 kO) (dD (hg:=aZ g7) [53] (bG fB) (dI (hg:=aZ g7) [0] aF (dI (hg:=aZ g7) [55] oO (dI (hg:=aZ g7) [56] (a5 e7) (dD (hg:=aZ g7) [57] (bG jQ) (dI (hg:=aZ g7) [54,58] (aV.indexSI (y:=v5) rfl rfl rfl rfl z8.1 z8.2 Tryz.underlying9) (dI (hg:=aZ g7) [59] (bI Tryz.func226 (OV fu (zC x2.gs ((v5).toNat)) _ z9)) (dI [50,60] (bR g7) (dN ?_)))))))))))
   refine bA H (fun h11 H=>?_) (fun h11 H=>?_)
   ·refine aP.skip (aP.block (qR ?_))
    iterate 2 refine q1 aF ?_
    refine q1 oO (q1 (a5 e7) (q1 (bG jQ) (q1 ML (q1 oO (q1 (a5 e7) (q1 (bU sz3) (qN ?_)))))))
    exact lwN ⟨_,(aY H:),b0⟩
   refine aP.exit ?_;exact lwB ⟨_,(aY H:),b0⟩
  have H:=nQ H g7
  refine dW (dI [0] aF (dI [40] oO (dI [41] (a5 e7) (dD [42] (bG jQ) (dI [0] aF (dI [44] oO (dI [45] (a5 kO) (dD [46] (bG fB) (dI [47] (aV.lenS rfl rfl rfl Tryz.underlying9) (dI [43,48] hZ (dI [49] aF ?_)))))))))))
  iterate 10 refine CL g7 ?_
  refine dI [50] (b5 g7) (dN (iX rfl (aP.exit ?_)))
  exact lwB ⟨_,(aY H:),b0⟩
 rintro v5 H
 iterate 2 refine qS ?_
 refine qR (q1 aF (q1 oO (q1 (a5 e7) (q1 (bG jQ) (q1 aF (q1 IB (qN ?_)))))))
 refine bA H (fun h12 H=>?_) (fun h12 H=>?_)
 ·refine qS (dF H fun z13 H=>(dW (dI [0] aF (dI [76] oO (dI [77] (a5 kO) (dD [78] (bG fB) (dI [3] aF (dI [0] aF (dI [81] oO (dI [82] (a5 e7) (dD [83] (bG jQ) (dI [79,80,84] (aV.sliceS (l:=x2.gat) (k:=v5) rfl rfl rfl rfl rfl z13 Tryz.underlying9) (dI [85] (f6 b6 l3) ?_)))))))))))))
  refine nI [2,86] (bU eA) (dN (aP.ret ?_))
  obtain rfl:_=r:=(aY H:)
  exact bM (hr:=⟨⟨_,_,_,rfl,rfl,bN,rfl,rfl⟩,trivial⟩)
 refine aP.skip ?_
 iterate 2 refine qS ?_
 refine dF H fun z14 H=>?_
 rcases kM (!decide ((((zC x2.gs ((v5).toNat)).toNat:Int):Int)=40)) with g15|g15
 ·have H:=nR H g15
  refine dW (dI [0] aF (dI [87] oO (dI [88] (a5 kO) (dD [89] (bG fB) (dI [0] aF (dI [91] oO (dI [92] (a5 e7) (dD [93] (bG jQ) (dI [90,94] (aV.indexSI (y:=v5) rfl rfl rfl rfl z14.1 z14.2 Tryz.underlying9) (dI [95] MM (dI [96] aF ?_)))))))))))
  iterate 5 refine CL g15 ?_
  refine dI [97] (bR g15) (dN (dV rfl (qS (qR (q1 aF (q1 oO (q1 (a5 CO) (q1 (bU sz4) (qN (qS (qR (q1 (f6 b6 l3) (q1 (bU eA) ?_)))))))))))))
  refine qN (aP.ret ?_)
  obtain rfl:_=r:=(aY H:)
  exact bM (hr:=⟨⟨_,_,_,rfl,rfl,bN,rfl,rfl⟩,trivial⟩)
 have H:=nQ H g15
 refine dW (dI [0] aF (dI [87] oO (dI [88] (a5 kO) (dD [89] (bG fB) (dI [0] aF (dI [91] oO (dI [92] (a5 e7) (dD [93] (bG jQ) (dI [90,94] (aV.indexSI (y:=v5) rfl rfl rfl rfl z14.1 z14.2 Tryz.underlying9) (dI [95] MM (dI [96] aF (dI (hg:=aZ g15) [0] aF (dI (hg:=aZ g15) [98] oO ?_)))))))))))))
 refine dI (hg:=aZ g15) [99] (a5 G8) (dD (hg:=aZ g15) [100] (bG jQ) (dI (hg:=aZ g15) [101] eM (dI [97,102] (b5 g15) (dN ?_))))
 refine bA H (fun h16 H=>?_) (fun h16 H=>?_)
 ·refine qS (qR (q1 aF (q1 oO (q1 (a5 CO) (q1 (bU sz4) (qN (qS (qR (q1 (f6 b6 l3) (q1 (bU eA) (qN (aP.ret ?_))))))))))))
  obtain rfl:_=r:=(aY H:)
  exact bM (hr:=⟨⟨_,_,_,rfl,rfl,bN,rfl,rfl⟩,trivial⟩)
 refine aP.skip (qS (qR ?_))
 iterate 2 refine q1 aF ?_
 refine q1 oO (q1 (a5 e7) (q1 (bG jQ) (q1 ML (q1 oO (q1 (a5 e7) (q1 (bU sz3) (qN (qS (qR ?_)))))))))
 iterate 2 refine q1 aF ?_
 refine q1 oO (q1 (a5 G8) (q1 (bG jQ) (q1 ML (q1 oO (q1 (a5 G8) (q1 (bU sz3) (qN (qS (qR (q1 (f6 b6 l3) (q1 (iV b6) (q1 (bU eA) (qN ?_)))))))))))))
 refine qS (aP.wk (Wk.regBox (k:=2) (j:=1) 237 2 (by decide) rfl rfl) ?_)
 refine RC (σ:=ByteArray×Int×Int×Int×Bool×(List aB)) (fun(v17,v18,v19,v20,v21,v23)=>⟨[(0,.ptr 0 0),(2,.ptr 1 0),(4,.ptr 2 0)],⟨[some ⟨250,[pS v17,pI v18,pI v19,pI v20,pB v21]⟩,some ⟨237,[pS s_,.nil]⟩,some ⟨237,[pS s_,dY v23 0]⟩],[⟨237,2,aB.trs (v23),false⟩]⟩⟩) (fun(v17,v18,v19,v20,v21,v23)=>⟨[(2,.ptr 1 0),(4,.ptr 2 0)],⟨[some ⟨250,[pS v17,pI v18,pI v19,pI v20,pB v21]⟩,some ⟨237,[pS s_,.nil]⟩,some ⟨237,[pS s_,dY v23 0]⟩],[⟨237,2,aB.trs (v23),false⟩]⟩⟩) (gU H) ?_ ?_
 ·rintro k24 ⟨v17,v18,v19,v20,v21,v23⟩ H
  iterate 2 refine qS ?_
  refine qR (q1 aF (q1 oO (q1 (a5 CO) (q1 (bG sh4) (q1 gT (qN ?_))))))
  refine bA H (fun h25 H=>?_) (fun h25 H=>?_)
  ·refine aP.skip (aP.block (qS (qR (q1 aF (bO H fun x27 z26 H=>(q1 (f7 [0] [] Tryz.func216 (GM fu (cC.mk v17 v18 v19 v20 v21) _ z26)) (qN ?_)))))))
   iterate 2 refine qS ?_
   rcases kM (decide ((x27.gat:Int)<((x27.gs.size:Nat):Int))) with g28|g28
   ·have H:=nR H g28
    refine dF H fun z29 H=>(dW (dI [0] aF (dI [132] oO (dI [133] (a5 e7) (dD [134] (bG jQ) (dI [0] aF (dI [136] oO (dI [137] (a5 kO) (dD [138] (bG fB) (dI [139] (aV.lenS rfl rfl rfl Tryz.underlying9) (dI [135,140] hZ (dI [141] aF (dI (hg:=aZ g28) [0] aF ?_)))))))))))))
    refine dI (hg:=aZ g28) [143] oO (dI (hg:=aZ g28) [144] (a5 kO) (dD (hg:=aZ g28) [145] (bG fB) (dI (hg:=aZ g28) [0] aF (dI (hg:=aZ g28) [147] oO (dI (hg:=aZ g28) [148] (a5 e7) (dD (hg:=aZ g28) [149] (bG jQ) (dI (hg:=aZ g28) [146,150] (aV.indexSI (y:=x27.gat) rfl rfl rfl rfl z29.1 z29.2 Tryz.underlying9) (dI (hg:=aZ g28) [151] eM (dI [142,152] (bR g28) (dN ?_))))))))))
    refine bA H (fun h30 H=>?_) (fun h30 H=>?_)
    ·refine qS (qR ?_)
     iterate 2 refine q1 aF ?_
     refine q1 oO (q1 (a5 e7) (q1 (bG jQ) (q1 ML (q1 oO (q1 (a5 e7) (q1 (bU sz3) (qN (qS (qR ?_)))))))))
     iterate 2 refine q1 aF ?_
     refine q1 oO (q1 (a5 G8) (q1 (bG jQ) (q1 AF (q1 oO (q1 (a5 G8) (q1 (bU sz3) (qN (qS (qR (q1 (cV [pS s_,dY v23 0] bN) (q1 (bU eA) (qN (aP.ret ?_)))))))))))))
     obtain rfl:_=r:=(lwR (aY H):)
     exact bM (hr:=⟨⟨_,_,_,rfl,rfl,bN,rfl,rfl⟩,trivial⟩)
    refine aP.skip (fK H fun x32 x33 z31 H=>(dF H fun z34 H=>(dW (dI [4] (a5 bD) (dB [171] 0 1 (vC cQ) (dI [0] aF (dE [173] (f7 [0] [] Tryz.func215 (h_sl2Read x27 _ z31)) (dI [174] (iA ([x32]:List aB) bE b6) (dE [172,175] (mJ z34 bE o6) (dI [4] (a5 bD) (nI [177,176] (bU w5) (dN ?_))))))))))))
    exact lwN ⟨_,(aY H:),b0⟩
   have H:=nQ H g28
   refine dW (dI [0] aF (dI [132] oO (dI [133] (a5 e7) (dD [134] (bG jQ) (dI [0] aF (dI [136] oO (dI [137] (a5 kO) (dD [138] (bG fB) (dI [139] (aV.lenS rfl rfl rfl Tryz.underlying9) (dI [135,140] hZ (dI [141] aF ?_)))))))))))
   iterate 10 refine CL g28 ?_
   refine dI [142] (b5 g28) (dN (iX rfl (aP.skip (fK H fun x36 x37 z35 H=>(dF H fun z38 H=>(dW (dI [4] (a5 bD) (dB [171] 0 1 (vC cQ) (dI [0] aF (dE [173] (f7 [0] [] Tryz.func215 (h_sl2Read x27 _ z35)) (dI [174] (iA ([x36]:List aB) bE b6) (dE [172,175] (mJ z38 bE o6) (dI [4] (a5 bD) ?_)))))))))))))
   refine nI [177,176] (bU w5) (dN ?_)
   exact lwN ⟨_,(aY H:),b0⟩
  refine aP.exit ?_;exact lwB ⟨_,(aY H:),b0⟩
 rintro⟨v17,v18,v19,v20,v21,v23⟩ H
 refine qS (qR (q1 (cV [pS s_,dY v23 0] bN) (q1 (bU eA) (qN (aP.ret ?_)))))
 obtain rfl:_=r:=(aY H:)
 exact bM (hr:=⟨⟨_,_,_,rfl,rfl,bN,rfl,rfl⟩,trivial⟩)
def oV:Nat→cC→Option (aB×cC)
 |0,_=>none
 |fu+1,pq0=>C6 fu (oV fu) pq0
theorem XY(fu:Nat):C7 (oV fu):=by
 induction fu with
 |zero=>exact(fun pq0 r H=>by simp only [oV] at H;cases H)
 |succ fu ih=>exact(fun pq0 r H=>by simp only [oV] at H;exact UF fu (oV fu) ih pq0 r H)
theorem aaU(fu:Nat):C7 (oV fu):=(XY fu)
abbrev sW:=aB→Int→Option Int
def C5(m:sW):Prop:= ∀(px:aB) (pleft:Int) (r:Int),m px pleft=some r→cE Tryz.prog 227 [(aB.pv px),pI pleft] (pI r:PV)
def aaP(fu:Nat)(r_sl2Left:sW)(px:aB)(pleft:Int):Nat→Int→Option (LR Int Int):=
 fun i1 v2=>sw (decide ((v2:Int)≥0))
 (bd (r_sl2Left (a3 px.gList i1) v2) (fun x7=>
 some (.next x7)))
 (some (.brk v2))
def aaQ(fu:Nat)(r_sl2Left:sW)(px:aB)(pleft:Int):Option (Int⊕Int):=
 loopN (aaP fu r_sl2Left px pleft) (px.gList.length-0) 0 (aQ (pleft-1))
def J9(fu:Nat)(r_sl2Left:sW)(px:aB)(pleft:Int):Option Int:=
 so (aaQ fu r_sl2Left px pleft) (fun v2=>
 some v2)
theorem UE(fu:Nat)(r_sl2Left:sW)(h_sl2Left:C5 r_sl2Left):C5 (J9 fu r_sl2Left):=by
 intro px pleft r H
 have H:=fI H
 refine qI Tryz.func227 (fun C hC=>?_)
 refine qS (qR (q1 (jU ([pS px.gAtom,a9 px.gList])) (q1 aF (qN (qS (qR (q1 aF (q1 AF (q1 aF (qN ?_))))))))))
 iterate 2 refine qS ?_
 refine qR (q1 aF (qN ?_))
 refine aP.fact (cO 0 1 rfl rfl rfl (aB.trs_len _)) (fun hl3=>?_)
 refine cM (σ:=Int) (fun i1 v2=>⟨[(1,pI v2),(2,.ptr 0 0),(4,pI 0),(5,pN i1)],⟨[some ⟨237,[pS px.gAtom,a9 px.gList]⟩],[]⟩⟩) (fun v2=>⟨[(1,pI v2),(4,pI 0)],⟨[some ⟨237,[pS px.gAtom,a9 px.gList]⟩],[]⟩⟩) (gU H) ?_ ?_
 ·rintro i1 v2 H
  iterate 2 refine qS ?_
  refine qR (q1 aF (q1 (a5 bD) (q1 (bG cQ) (q1 (eT bE (aB.trs_len _)) (q1 hZ (q1 aF ?_))))))
  refine AL.splitB 13 rfl (fun g4=>?_) (fun g4=>?_)
  ·have g4l:=sH g4
   have H:=lnT g4l H
   have g4n:=a8 g4
   refine qg g4 aF (qg g4 RG (q1 (bR g4) (qN ?_)))
   refine bA H (fun h5 H=>?_) (fun h5 H=>?_)
   ·refine aP.skip (qS (aP.block (qR (q1 (a5 bD) (q1 (bG cQ) (q1 aF (q1 (iH g4n bE) (q1 (j0 (aB.cs (a3 px.gList i1)) bN) (q1 aF (bO H fun x7 z6 H=>(q1 (bI Tryz.func227 (h_sl2Left (a3 px.gList i1) v2 _ z6)) (q1 aF (qN ?_)))))))))))))
    refine qR (q1 aF (q1 (aV.addI rfl rfl rfl rfl (c:=((i1+1:Nat):Int)) (by omega) (by omega)) (q1 aF (qN ?_))))
    exact iY g4l ⟨_,(aY H:),b0⟩
   refine aP.exit ?_;exact lpB ⟨_,(aY H:),b0⟩
  have H:=lnE (sG g4) H
  iterate 2 refine qk g4 ?_
  refine q1 (b5 g4) (qN (iX rfl (aP.exit ?_)))
  exact lS ⟨_,H,b0⟩
 rintro v2 H
 refine qS (qR ?_)
 iterate 2 refine q1 aF ?_
 refine qN (aP.ret ?_)
 obtain rfl:_=r:=(aY H:)
 exact bM
def nB:Nat→aB→Int→Option Int
 |0,_,_=>none
 |fu+1,px,pleft=>J9 fu (nB fu) px pleft
theorem XX(fu:Nat):C5 (nB fu):=by
 induction fu with
 |zero=>exact(fun px pleft r H=>by simp only [nB] at H;cases H)
 |succ fu ih=>exact(fun px pleft r H=>by simp only [nB] at H;exact UE fu (nB fu) ih px pleft r H)
theorem aaS(fu:Nat):C5 (nB fu):=(XX fu)
def agU(m:Int→Int→Int→Option Bool):Prop:= ∀(px:Int) (plo:Int) (phi:Int) (r:Bool),m px plo phi=some r→cE Tryz.prog 108 [pI px,pI plo,pI phi] (pB r:PV)
def kZ(fu:Nat)(px plo phi:Int):Option Bool:=
 sw (decide ((px:Int)≥plo))
 (some (decide ((px:Int)≤phi)))
 (some false)
theorem tP(fu:Nat):agU (kZ fu):=by
 intro px plo phi r H
 have H:=fI H
 refine qI Tryz.func108 (fun C hC=>?_)
 refine qS (qR (q1 aF (qN (qS (qR ?_)))))
 iterate 2 refine q1 aF ?_
 refine q1 RG (q1 aF ?_)
 refine d9 10 H (fun g1 H=>?_) fun g1 H=>?_
 ·refine qg g1 aF (qg g1 aF (qg g1 rLe (q1 (bR g1) (q1 aF (qN (aP.ret ?_))))))
  obtain rfl:_=r:=(aY H:)
  exact bM
 iterate 3 refine qk g1 ?_
 refine q1 (b5 g1) (q1 aF (qN (aP.ret ?_)))
 obtain rfl:_=r:=(aY H:)
 exact bM
def N2(m:ByteArray→Option Bool):Prop:= ∀(ps:ByteArray) (r:Bool),m ps=some r→cE Tryz.prog 241 [pS ps] (pB r:PV)
def LL(fu:Nat)(ps:ByteArray):Nat→Unit→Option (LR Unit Bool):=
 fun i1 _=>gd (i1<(ps).size)
 (bd (C3 fu (zC ps i1)) (fun x6=>
 sw (!(x6))
 (some (.ret false))
 (some (.next ()))))
def LM(fu:Nat)(ps:ByteArray):Option (Bool⊕Unit):=
 loopN (LL fu ps) (ps.size-0) 0 ()
def vT(fu:Nat)(ps:ByteArray):Option Bool:=
 so (LM fu ps) (fun _=>
 bd (kZ fu ((ps.size:Nat):Int) 1 12) (fun x9=>
 some x9))
theorem LN(fu:Nat):N2 (vT fu):=by
 intro ps r H
 have H:=fI H
 refine qI Tryz.func241 (fun C hC=>?_)
 refine qS (qR (q1 aF (qN ?_)))
 iterate 2 refine qS ?_
 refine qR (q1 aF (qN ?_))
 refine szF 0 (fun hl2=>?_)
 refine cM (σ:=Unit) (fun i1 _=>⟨[(0,pS ps),(2,pB false),(3,pN i1)],⟨[],[]⟩⟩) (fun _=>⟨[(0,pS ps),(2,pB false)],⟨[],[]⟩⟩) (gU H) ?_ ?_
 ·rintro i1 ⟨⟩ H
  iterate 2 refine qS ?_
  refine qR ?_
  iterate 2 refine q1 aF ?_
  refine q1 (aV.lenS rfl rfl rfl Tryz.underlying9) (q1 hZ (qN ?_))
  refine eW H (fun h3 h3l H=>?_) (fun h3 H=>?_)
  ·have h3n:i1<ps.size:=by have:=of_decide_eq_true h3;omega
   refine aP.skip (qS (aP.block (qS (qR ?_))))
   iterate 2 refine q1 aF ?_
   refine dF H fun z4 H=>(q1 (aV.indexS (k:=i1) rfl rfl rfl rfl z4 Tryz.underlying9) (bO H fun x6 z5 H=>(q1 (bI Tryz.func226 (OV fu (zC ps i1) _ z5)) (q1 gT (qN ?_)))))
   refine bA H (fun h7 H=>?_) (fun h7 H=>?_)
   ·refine qS (qR (q1 aF (qN (aP.ret ?_))))
    obtain rfl:_=r:=(rG (aY H):)
    exact bM
   refine aP.skip (qR (q1 aF (q1 (aV.addI rfl rfl rfl rfl (c:=((i1+1:Nat):Int)) (by omega) (by omega)) (q1 aF (qN ?_)))))
   exact iY h3l ⟨_,(aY H:),b0⟩
  refine aP.exit ?_;exact lS ⟨_,H,b0⟩
 rintro⟨⟩ H
 refine qS (qR (q1 aF (q1 (aV.lenS rfl rfl rfl Tryz.underlying9) (bO H fun x9 z8 H=>(q1 (bI Tryz.func108 (tP fu ((ps.size:Nat):Int) 1 12 _ z8)) (q1 aF (qN (aP.ret ?_))))))))
 obtain rfl:_=r:=(aY H:)
 exact bM
abbrev sV:=aB→Option Bool
def C4(m:sV):Prop:= ∀(px:aB) (r:Bool),m px=some r→cE Tryz.prog 228 [(aB.pv px)] (pB r:PV)
def aaL(fu:Nat)(r_sl2Form:sV)(px:aB):Nat→Unit→Option (LR Unit Bool):=
 fun i5 _=>bd (r_sl2Form (a3 px.gList i5)) (fun x9=>
 sw (!(x9))
 (some (.ret false))
 (some (.next ())))
def aaM(fu:Nat)(r_sl2Form:sV)(px:aB):Option (Bool⊕Unit):=
 loopN (aaL fu r_sl2Form px) (px.gList.length-0) 0 ()
def J8(fu:Nat)(r_sl2Form:sV)(px:aB):Option Bool:=
 sw (!decide (px.gAtom=s_))
 (bd (vT fu px.gAtom) (fun x3=>
 sw (x3)
 (some (decide ((((px.gList.length:Nat):Int):Int)=0)))
 (some false)))
 (so (aaM fu r_sl2Form px) (fun _=>
 some true))
theorem UD(fu:Nat)(r_sl2Form:sV)(h_sl2Form:C4 r_sl2Form):C4 (J8 fu r_sl2Form):=by
 intro px r H
 have H:=fI H
 refine qI Tryz.func228 (fun C hC=>?_)
 refine qS (qR (q1 (jU ([pS px.gAtom,a9 px.gList])) (q1 aF (qN ?_))))
 iterate 2 refine qS ?_
 refine qR (q1 (a5 e6) (q1 (bG fB) (q1 MN (qN ?_))))
 refine bA H (fun h1 H=>?_) (fun h1 H=>?_)
 ·refine qS (qR (q1 (a5 e6) (q1 (bG fB) (bO H fun x3 z2 H=>(q1 (bI Tryz.func241 (LN fu px.gAtom _ z2)) (q1 aF ?_))))))
  refine d9 10 H (fun g4 H=>?_) fun g4 H=>?_
  ·refine qg g4 (a5 bD) (qg g4 (bG cQ) (qg g4 (eT bE (aB.trs_len _)) (qg g4 eM (q1 (bR g4) (q1 aF (qN (aP.ret ?_)))))))
   obtain rfl:_=r:=(aY H:)
   exact bM
  iterate 4 refine qk g4 ?_
  refine q1 (b5 g4) (q1 aF (qN (aP.ret ?_)))
  obtain rfl:_=r:=(aY H:)
  exact bM
 refine aP.skip ?_
 iterate 2 refine qS ?_
 refine qR (q1 aF (qN ?_))
 refine aP.fact (cO 0 1 rfl rfl rfl (aB.trs_len _)) (fun hl6=>?_)
 refine cM (σ:=Unit) (fun i5 _=>⟨[(1,.ptr 0 0),(2,pB false),(3,pN i5)],⟨[some ⟨237,[pS px.gAtom,a9 px.gList]⟩],[]⟩⟩) (fun _=>⟨[(2,pB false)],⟨[some ⟨237,[pS px.gAtom,a9 px.gList]⟩],[]⟩⟩) (gU H) ?_ ?_
 ·rintro i5 ⟨⟩ H
  iterate 2 refine qS ?_
  refine qR (q1 aF (q1 (a5 bD) (q1 (bG cQ) (q1 (eT bE (aB.trs_len _)) (q1 hZ (qN ?_))))))
  refine eW H (fun h7 h7l H=>?_) (fun h7 H=>?_)
  ·have h7n:=a8 h7
   refine aP.skip (qS (aP.block (qS (qR (q1 (a5 bD) (q1 (bG cQ) (q1 aF (q1 (iH h7n bE) (q1 (j0 (aB.cs (a3 px.gList i5)) bN) (bO H fun x9 z8 H=>(q1 (bI Tryz.func228 (h_sl2Form (a3 px.gList i5) _ z8)) (q1 gT (qN ?_)))))))))))))
   refine bA H (fun h10 H=>?_) (fun h10 H=>?_)
   ·refine qS (qR (q1 aF (qN (aP.ret ?_))))
    obtain rfl:_=r:=(rG (aY H):)
    exact bM
   refine aP.skip (qR (q1 aF (q1 (aV.addI rfl rfl rfl rfl (c:=((i5+1:Nat):Int)) (by omega) (by omega)) (q1 aF (qN ?_)))))
   exact iY h7l ⟨_,(aY H:),b0⟩
  refine aP.exit ?_;exact lS ⟨_,H,b0⟩
 rintro⟨⟩ H
 refine qS (qR (q1 aF (qN (aP.ret ?_))))
 obtain rfl:_=r:=(aY H:)
 exact bM
def nA:Nat→aB→Option Bool
 |0,_=>none
 |fu+1,px=>J8 fu (nA fu) px
theorem XW(fu:Nat):C4 (nA fu):=by
 induction fu with
 |zero=>exact(fun px r H=>by simp only [nA] at H;cases H)
 |succ fu ih=>exact(fun px r H=>by simp only [nA] at H;exact UD fu (nA fu) ih px r H)
theorem aaO(fu:Nat):C4 (nA fu):=(XW fu)
def afJ(m:Int→Int→Option Int):Prop:= ∀(pa:Int) (pb:Int) (r:Int),m pa pb=some r→cE Tryz.prog 242 [pI pa,pI pb] (pI r:PV)
def H4(fu:Nat)(pa pb:Int):Option Int:=
 sw (decide ((pa:Int)>pb))
 (some pa)
 (some pb)
theorem RJ(fu:Nat):afJ (H4 fu):=by
 intro pa pb r H
 have H:=fI H
 refine qI Tryz.func242 (fun C hC=>?_)
 refine qS (qR (q1 aF (qN ?_)))
 iterate 2 refine qS ?_
 refine qR ?_
 iterate 2 refine q1 aF ?_
 refine q1 IB (qN ?_)
 refine bA H (fun h1 H=>?_) (fun h1 H=>?_)
 ·refine qS (qR ?_)
  iterate 2 refine q1 aF ?_
  refine qN (aP.ret ?_)
  obtain rfl:_=r:=(aY H:)
  exact bM
 refine aP.skip (qS (qR ?_))
 iterate 2 refine q1 aF ?_
 refine qN (aP.ret ?_)
 obtain rfl:_=r:=(aY H:)
 exact bM
abbrev lJ:=aB→Option Int
def s8(m:lJ):Prop:= ∀(px:aB) (r:Int),m px=some r→cE Tryz.prog 229 [(aB.pv px)] (pI r:PV)
def OC(fu:Nat)(r_sSExprDepth:lJ)(px:aB):Nat→Int→Option (LR Int Int):=
 fun i2 v3=>bd (r_sSExprDepth (a3 px.gList i2)) (fun x7=>
 bd (H4 fu v3 x7) (fun x9=>
 some (.next x9)))
def OD(fu:Nat)(r_sSExprDepth:lJ)(px:aB):Option (Int⊕Int):=
 loopN (OC fu r_sSExprDepth px) (px.gList.length-0) 0 0
def xO(fu:Nat)(r_sSExprDepth:lJ)(px:aB):Option Int:=
 sw (!decide (px.gAtom=s_))
 (some 0)
 (so (OD fu r_sSExprDepth px) (fun v3=>
 some (aQ (v3+1))))
theorem JN(fu:Nat)(r_sSExprDepth:lJ)(h_sSExprDepth:s8 r_sSExprDepth):s8 (xO fu r_sSExprDepth):=by
 intro px r H
 have H:=fI H
 refine qI Tryz.func229 (fun C hC=>?_)
 refine qS (qR (q1 (jU ([pS px.gAtom,a9 px.gList])) (q1 aF (qN ?_))))
 iterate 2 refine qS ?_
 refine qR (q1 (a5 e6) (q1 (bG fB) (q1 MN (qN ?_))))
 refine bA H (fun h1 H=>?_) (fun h1 H=>?_)
 ·refine qS (qR (q1 aF (qN (aP.ret ?_))))
  obtain rfl:_=r:=(aY H:)
  exact bM
 refine aP.skip (qS (qR (q1 aF (qN ?_))))
 iterate 2 refine qS ?_
 refine qR (q1 aF (qN ?_))
 refine aP.fact (cO 0 1 rfl rfl rfl (aB.trs_len _)) (fun hl4=>?_)
 refine cM (σ:=Int) (fun i2 v3=>⟨[(1,.ptr 0 0),(2,pI 0),(3,pI v3),(4,pN i2)],⟨[some ⟨237,[pS px.gAtom,a9 px.gList]⟩],[]⟩⟩) (fun v3=>⟨[(2,pI 0),(3,pI v3)],⟨[some ⟨237,[pS px.gAtom,a9 px.gList]⟩],[]⟩⟩) (gU H) ?_ ?_
 ·rintro i2 v3 H
  iterate 2 refine qS ?_
  refine qR (q1 aF (q1 (a5 bD) (q1 (bG cQ) (q1 (eT bE (aB.trs_len _)) (q1 hZ (qN ?_))))))
  refine eW H (fun h5 h5l H=>?_) (fun h5 H=>?_)
  ·have h5n:=a8 h5
   refine aP.skip (qS (aP.block (qR (q1 aF (q1 (a5 bD) (q1 (bG cQ) (q1 aF (q1 (iH h5n bE) (q1 (j0 (aB.cs (a3 px.gList i2)) bN) (bO H fun x7 z6 H=>(q1 (bI Tryz.func229 (h_sSExprDepth (a3 px.gList i2) _ z6)) (bO H fun x9 z8 H=>(q1 (bI Tryz.func242 (RJ fu v3 x7 _ z8)) ?_)))))))))))))
   refine q1 aF (qN (qR (q1 aF (q1 (aV.addI rfl rfl rfl rfl (c:=((i2+1:Nat):Int)) (by omega) (by omega)) (q1 aF (qN ?_))))))
   exact iY h5l ⟨_,(aY H:),b0⟩
  refine aP.exit ?_;exact lS ⟨_,H,b0⟩
 rintro v3 H
 refine qS (qR (q1 aF (q1 ML (q1 aF (qN (aP.ret ?_))))))
 obtain rfl:_=r:=(aY H:)
 exact bM
def gW:Nat→aB→Option Int
 |0,_=>none
 |fu+1,px=>xO fu (gW fu) px
theorem LY(fu:Nat):s8 (gW fu):=by
 induction fu with
 |zero=>exact(fun px r H=>by simp only [gW] at H;cases H)
 |succ fu ih=>exact(fun px r H=>by simp only [gW] at H;exact JN fu (gW fu) ih px r H)
theorem OF(fu:Nat):s8 (gW fu):=(LY fu)
def LT(m:aB→Option Bool):Prop:= ∀(px:aB) (r:Bool),m px=some r→cE Tryz.prog 217 [(aB.pv px)] (pB r:PV)
def gK(fu:Nat)(px:aB):Option Bool:=
 bd (nB fu px 900) (fun x2=>
 sw (decide ((x2:Int)≥0))
 (bd (nA fu px) (fun x5=>
 sw (x5)
 (bd (gW fu px) (fun x8=>
 some (decide ((x8:Int)≤14))))
 (some false)))
 (some false))
theorem cZ(fu:Nat):LT (gK fu):=by
 intro px r H
 have H:=fI H
 refine qI Tryz.func217 (fun C hC=>?_)
 refine qS (qR (q1 (jU ([pS px.gAtom,a9 px.gList])) (q1 aF (qN (qS (qR (q1 (cV [pS px.gAtom,a9 px.gList] bN) (bO H fun x2 z1 H=>(q1 (bI Tryz.func227 (aaS fu px 900 _ z1)) (q1 RG (q1 aF ?_)))))))))))
 refine d9 6 H (fun g3 H=>?_) fun g3 H=>?_
 ·refine qg g3 (cV [pS px.gAtom,a9 px.gList] bN) (bO H fun x5 z4 H=>(qg g3 (bI Tryz.func228 (aaO fu px _ z4)) (q1 (bR g3) (q1 aF ?_))))
  refine d9 10 H (fun g6 H=>?_) fun g6 H=>?_
  ·refine qg g6 (cV [pS px.gAtom,a9 px.gList] bN) (bO H fun x8 z7 H=>(qg g6 (bI Tryz.func229 (OF fu px _ z7)) (qg g6 rLe (q1 (bR g6) (q1 aF (qN (aP.ret ?_)))))))
   obtain rfl:_=r:=(aY H:)
   exact bM
  iterate 3 refine qk g6 ?_
  refine q1 (b5 g6) (q1 aF (qN (aP.ret ?_)))
  obtain rfl:_=r:=(aY H:)
  exact bM
 iterate 2 refine qk g3 ?_
 refine q1 (b5 g3) (q1 aF ?_)
 iterate 3 refine qk rfl ?_
 refine q1 (b5 rfl) (q1 aF (qN (aP.ret ?_)))
 obtain rfl:_=r:=(aY H:)
 exact bM
def QE(m:ByteArray→Option (aB×Bool)):Prop:= ∀(ps:ByteArray) (r:aB×Bool),m ps=some r→cE Tryz.prog 207 [pS ps] (.tup [(aB.pv r.1),pB r.2]:PV)
def s7(fu:Nat)(ps:ByteArray):Option (aB×Bool):=
 bd (oV fu (cC.mk ps 0 0 0 false)) (fun(x2,x3)=>
 bd (vB fu x3) (fun x5=>
 sw (x5.gbad)
 (some ((aB.mk s_ []),false))
 (sw (!decide ((x5.gat:Int)=((ps.size:Nat):Int)))
 (some ((aB.mk s_ []),false))
 (bd (gK fu x2) (fun x9=>
 sw (!(x9))
 (some ((aB.mk s_ []),false))
 (some (x2,true)))))))
theorem OA(fu:Nat):QE (s7 fu):=by
 intro ps r H
 have H:=fI H
 refine qI Tryz.func207 (fun C hC=>?_)
 refine qS (qR (q1 (iV b6) (q1 aF (qN (qS (qR (q1 aF (q1 (f6 ajQ ai9) (q1 (jU ([pS ps,pI 0,pI 0,pI 0,pB false])) (q1 aF (qN (qS (qR ?_)))))))))))))
 refine q1 aF (fK H fun x2 x3 z1 H=>(q1 (f7 [1] [] Tryz.func215 (aaU fu (cC.mk ps 0 0 0 false) _ z1)) (q1 (iV b6) (q1 (bU eA) (qN (qS (qR (q1 aF (bO H fun x5 z4 H=>(q1 (f7 [1] [] Tryz.func216 (GM fu x3 _ z4)) (qN ?_)))))))))))
 iterate 2 refine qS ?_
 refine qR (q1 aF (q1 oO (q1 (a5 CO) (q1 (bG sh4) (q1 aF ?_)))))
 refine d9 17 H (fun g6 H=>?_) fun g6 H=>?_
 ·refine qk g6 ?_
  iterate 6 refine qk g6 ?_
  refine q1 (bR g6) (q1 aF ?_)
  iterate 3 refine qk rfl ?_
  refine q1 (bR rfl) (qN (dV rfl (qS (qR (q1 (f6 b6 l3) (q1 (bU eA) (q1 aF (qN (aP.ret ?_)))))))))
  obtain rfl:_=r:=(aY H:)
  exact lB (hr:=⟨⟨_,_,_,rfl,rfl,bN,rfl,rfl⟩,rfl,trivial⟩)
 refine qg g6 aF (qg g6 oO (qg g6 (a5 e7) (qg g6 (bG jQ) (qg g6 aF (qg g6 (aV.lenS rfl rfl rfl Tryz.underlying9) (qg g6 MM (q1 (b5 g6) (q1 aF ?_))))))))
 refine d9 26 H (fun g7 H=>?_) fun g7 H=>?_
 ·refine qk g7 ?_
  iterate 2 refine qk g7 ?_
  refine q1 (bR g7) (qN (dV rfl (qS (qR (q1 (f6 b6 l3) (q1 (bU eA) (q1 aF (qN (aP.ret ?_)))))))))
  obtain rfl:_=r:=(aY H:)
  exact lB (hr:=⟨⟨_,_,_,rfl,rfl,bN,rfl,rfl⟩,rfl,trivial⟩)
 refine qg g7 (cV [pS x2.gAtom,a9 x2.gList] bN) (bO H fun x9 z8 H=>(qg g7 (bI Tryz.func217 (cZ fu x2 _ z8)) (qg g7 gT (q1 (b5 g7) (qN ?_)))))
 refine bA H (fun h10 H=>?_) (fun h10 H=>?_)
 ·refine qS (qR (q1 (f6 b6 l3) (q1 (bU eA) (q1 aF (qN (aP.ret ?_))))))
  obtain rfl:_=r:=(aY H:)
  exact lB (hr:=⟨⟨_,_,_,rfl,rfl,bN,rfl,rfl⟩,rfl,trivial⟩)
 refine aP.skip (qS (qR (q1 (cV [pS x2.gAtom,a9 x2.gList] bN) (q1 (bU eA) (q1 aF (qN (aP.ret ?_)))))))
 obtain rfl:_=r:=(aY H:)
 exact lB (hr:=⟨⟨_,_,_,rfl,rfl,bN,rfl,rfl⟩,rfl,trivial⟩)
def aaK(m:(List aB)→Option ((List ByteArray)×Bool)):Prop:= ∀(plist:List aB) (r:(List ByteArray)×Bool),m plist=some r→cE Tryz.prog 218 [a9 plist] (.tup [rS r.1,pB r.2]:PV)
def XU(fu:Nat)(plist:List aB):Nat→((List ByteArray))→Option (LR ((List ByteArray)) ((List ByteArray)×Bool)):=
 fun i1 v3=>sw (decide ((a3 plist i1).gAtom=s_))
 (some (.ret (([]),false)))
 (gd ((v3).length+(([((a3 plist i1).gAtom)]:List ByteArray)).length≤68719476736)
 (some (.next (v3++([((a3 plist i1).gAtom)]:List ByteArray)))))
def XV(fu:Nat)(plist:List aB):Option (((List ByteArray)×Bool)⊕((List ByteArray))):=
 loopN (XU fu plist) (plist.length-0) 0 ([])
def vY(fu:Nat)(plist:List aB):Option ((List ByteArray)×Bool):=
 so (XV fu plist) (fun v3=>
 some (v3,true))
theorem CB(fu:Nat):aaK (vY fu):=by
 intro plist r H
 have H:=fI H
 refine qI Tryz.func218 (fun C hC=>?_)
 refine qS (qR ?_)
 iterate 2 refine q1 aF ?_
 refine qN (qS (qR (q1 (t2 ([]:List ByteArray) b3 lA) (q1 aF (qN ?_)))))
 iterate 2 refine qS ?_
 refine qR (q1 aF (qN ?_))
 refine lR 0 (aB.trs_len _) (fun hl4=>?_)
 refine cM (σ:=(List ByteArray)) (fun i1 v3=>⟨[(0,a9 plist),(2,.nil),(3,pB false),(4,aS v3 0),(5,pN i1)],⟨[],[⟨9,1,aW (v3),false⟩]⟩⟩) (fun v3=>⟨[(2,.nil),(3,pB false),(4,aS v3 0)],⟨[],[⟨9,1,aW (v3),false⟩]⟩⟩) (gU H) ?_ ?_
 ·rintro i1 v3 H
  iterate 2 refine qS ?_
  refine qR ?_
  iterate 2 refine q1 aF ?_
  refine q1 (eT bE (aB.trs_len _)) (q1 hZ (qN ?_))
  refine eW H (fun h5 h5l H=>?_) (fun h5 H=>?_)
  ·have h5n:=a8 h5
   refine aP.skip (qS (aP.block ?_))
   iterate 2 refine qS ?_
   refine qR ?_
   iterate 2 refine q1 aF ?_
   refine q1 (iH h5n bE) (q1 (qX e6) (q1 (pZ fB) (q1 GS (qN ?_))))
   refine bA H (fun h6 H=>?_) (fun h6 H=>?_)
   ·refine qS (qR (q1 (t2 ([]:List ByteArray) b3 lA) ?_))
    iterate 2 refine q1 aF ?_
    refine qN (aP.ret ?_)
    obtain rfl:_=r:=(rG (aY H):)
    exact lB
   refine aP.skip (qR ?_)
   iterate 3 refine q1 aF ?_
   refine q1 (iH h5n bE) (q1 (qX e6) (q1 (pZ fB) (q1 (iA ([((a3 plist i1).gAtom)]:List ByteArray) b3 lA) (dF H fun z7 H=>(q1 (mJ z7 b3 rT) (q1 aF (qN (qR (q1 aF (q1 (aV.addI rfl rfl rfl rfl (c:=((i1+1:Nat):Int)) (by omega) (by omega)) (q1 aF (qN ?_))))))))))))
   exact iY h5l ⟨_,(aY H:),b0⟩
  refine aP.exit ?_;exact lS ⟨_,H,b0⟩
 rintro v3 H
 refine qS (qR ?_)
 iterate 3 refine q1 aF ?_
 refine qN (aP.ret ?_)
 obtain rfl:_=r:=(aY H:)
 exact lB
def adW(m:ByteArray→Option aB):Prop:= ∀(ps:ByteArray) (r:aB),m ps=some r→cE Tryz.prog 266 [pS ps] ((aB.pv r):PV)
def b9(fu:Nat)(ps:ByteArray):Option aB:=
 some (aB.mk ps [])
theorem bW(fu:Nat):adW (b9 fu):=by
 intro ps r H
 have H:=fI H
 refine qI Tryz.func266 (fun C hC=>?_)
 refine qS (qR (q1 (iV b6) (qN (qS (qR (q1 aF (q1 (f6 b6 l3) (q1 (bU eA) (qN (aP.ret ?_))))))))))
 obtain rfl:_=r:=(aY H:)
 exact bM (hr:=⟨⟨_,_,_,rfl,rfl,bN,rfl,rfl⟩,trivial⟩)
def aaV(m:(List ByteArray)→Option ((List aB))):Prop:= ∀(plist:List ByteArray) (r:(List aB)),m plist=some r→cE Tryz.prog 280 [rS plist] (a9 r:PV)
def XZ(fu:Nat)(plist:List ByteArray):Nat→((List aB))→Option (LR ((List aB)) ((List aB))):=
 fun i1 v3=>bd (b9 fu (a3 plist i1)) (fun x7=>
 gd ((v3).length+(([x7]:List aB)).length≤68719476736)
 (some (.next (v3++([x7]:List aB)))))
def X0(fu:Nat)(plist:List ByteArray):Option (((List aB))⊕((List aB))):=
 loopN (XZ fu plist) (plist.length-0) 0 ([])
def AA(fu:Nat)(plist:List ByteArray):Option ((List aB)):=
 so (X0 fu plist) (fun v3=>
 some v3)
theorem KW(fu:Nat):aaV (AA fu):=by
 intro plist r H
 have H:=fI H
 refine qI Tryz.func280 (fun C hC=>?_)
 refine qS (qR (q1 aF (qN (qS (qR (q1 (t2 ([]:List aB) bE b6) (q1 aF (qN ?_))))))))
 iterate 2 refine qS ?_
 refine qR (q1 aF (qN ?_))
 refine lR 0 (bC _) (fun hl4=>?_)
 refine cM (σ:=(List aB)) (fun i1 v3=>⟨[(0,rS plist),(2,.nil),(3,dY v3 0),(4,pN i1)],⟨[],[⟨237,2,aB.trs (v3),false⟩]⟩⟩) (fun v3=>⟨[(2,.nil),(3,dY v3 0)],⟨[],[⟨237,2,aB.trs (v3),false⟩]⟩⟩) (gU H) ?_ ?_
 ·rintro i1 v3 H
  iterate 2 refine qS ?_
  refine qR ?_
  iterate 2 refine q1 aF ?_
  refine q1 (eT b3 (bC _)) (q1 hZ (qN ?_))
  refine eW H (fun h5 h5l H=>?_) (fun h5 H=>?_)
  ·have h5n:=a8 h5
   refine aP.skip (qS (aP.block (qR ?_)))
   iterate 3 refine q1 aF ?_
   refine q1 (iH h5n b3) (q1 (pZ fB) (bO H fun x7 z6 H=>(q1 (bI Tryz.func266 (bW fu (a3 plist i1) _ z6)) (q1 (iA ([x7]:List aB) bE b6) (dF H fun z8 H=>(q1 (mJ z8 bE o6) (q1 aF (qN (qR (q1 aF (q1 (aV.addI rfl rfl rfl rfl (c:=((i1+1:Nat):Int)) (by omega) (by omega)) (q1 aF (qN ?_)))))))))))))
   exact iY h5l ⟨_,(aY H:),b0⟩
  refine aP.exit ?_;exact lS ⟨_,H,b0⟩
 rintro v3 H
 refine qS (qR ?_)
 iterate 2 refine q1 aF ?_
 refine qN (aP.ret ?_)
 obtain rfl:_=r:=(aY H:)
 exact bM
def RK(m:(List aB)→Option aB):Prop:= ∀(plist:List aB) (r:aB),m plist=some r→RQ Tryz.prog 265 [a9 plist] ⟨[],[]⟩ [] 237 2 (aB.trs (r.gList)) (fun k=> .agg [pS r.gAtom,dY r.gList k])
theorem z0{m:(List aB)→Option aB}(h:RK m)(plist:List aB)(r:aB)(H:m plist=some r):cE Tryz.prog 265 [a9 plist] ((aB.pv r):PV):=(h plist r H).plain (fun _=>lH) (hp:=ah4)
def kK(fu:Nat)(plist:List aB):Option aB:=
 gd (([]:List aB).length+(plist).length≤68719476736)
 (some (aB.mk s_ (([])++plist)))
theorem lP(fu:Nat):RK (kK fu):=by
 intro plist r H
 unfold RQ
 have H:=fI H
 refine qI Tryz.func265 (fun C hC=>?_)
 refine qS (qR (q1 (iV b6) (qN (qS (qR (q1 (t2 ([]:List aB) bE b6) (q1 aF (dF H fun z1 H=>(q1 (mJ z1 bE o6) (q1 (f6 b6 l3) (q1 (bU eA) (qN (aP.ret ?_)))))))))))))
 obtain rfl:_=r:=(aY H:)
 exact bM (st':=⟨[],[⟨237,2,aB.trs (([])++plist),false⟩]⟩) ⟨0,rfl,rfl,rfl⟩ (hr:=⟨⟨_,_,_,rfl,rfl,bN,rfl,rfl⟩,trivial⟩)
abbrev lI:=aB→aB→Option Bool
def s6(m:lI):Prop:= ∀(pa:aB) (pb:aB) (r:Bool),m pa pb=some r→cE Tryz.prog 248 [(aB.pv pa),(aB.pv pb)] (pB r:PV)
def NX(fu:Nat)(r_sEqualSExpr:lI)(pa pb:aB):Nat→Unit→Option (LR Unit Bool):=
 fun i3 _=>gd (i3<(pb.gList).length)
 (bd (r_sEqualSExpr (a3 pa.gList i3) (a3 pb.gList i3)) (fun x8=>
 sw (!(x8))
 (some (.ret false))
 (some (.next ()))))
def NY(fu:Nat)(r_sEqualSExpr:lI)(pa pb:aB):Option (Bool⊕Unit):=
 loopN (NX fu r_sEqualSExpr pa pb) (pa.gList.length-0) 0 ()
def xJ(fu:Nat)(r_sEqualSExpr:lI)(pa pb:aB):Option Bool:=
 sw (!decide (pa.gAtom=pb.gAtom))
 (some false)
 (sw (!decide ((((pa.gList.length:Nat):Int):Int)=((pb.gList.length:Nat):Int)))
 (some false)
 (so (NY fu r_sEqualSExpr pa pb) (fun _=>
 some true)))
theorem JD(fu:Nat)(r_sEqualSExpr:lI)(h_sEqualSExpr:s6 r_sEqualSExpr):s6 (xJ fu r_sEqualSExpr):=by
 intro pa pb r H
 have H:=fI H
 refine qI Tryz.func248 (fun C hC=>?_)
 refine qS (qR (q1 (jU ([pS pa.gAtom,a9 pa.gList])) (q1 (jU ([pS pb.gAtom,a9 pb.gList])) (q1 aF (qN ?_)))))
 iterate 2 refine qS ?_
 refine qR (q1 (a5 e6) (q1 (bG fB) (q1 (a5 e6) (q1 (bG fB) (q1 MN (q1 aF ?_))))))
 refine d9 11 H (fun g1 H=>?_) fun g1 H=>?_
 ·refine qk g1 ?_
  iterate 6 refine qk g1 ?_
  refine q1 (bR g1) (qN (dV rfl (qS (qR (q1 aF (qN (aP.ret ?_)))))))
  obtain rfl:_=r:=(aY H:)
  exact bM
 refine qg g1 (a5 bD) (qg g1 (bG cQ) (qg g1 (eT bE (aB.trs_len _)) (qg g1 (a5 bD) (qg g1 (bG cQ) (qg g1 (eT bE (aB.trs_len _)) (qg g1 MM (q1 (b5 g1) (qN ?_))))))))
 refine bA H (fun h2 H=>?_) (fun h2 H=>?_)
 ·refine qS (qR (q1 aF (qN (aP.ret ?_))))
  obtain rfl:_=r:=(aY H:)
  exact bM
 refine aP.skip ?_
 iterate 2 refine qS ?_
 refine qR (q1 aF (qN ?_))
 refine lR 13 (aB.trs_len _) (fun hl4=>?_)
 refine cM (σ:=Unit) (fun i3 _=>⟨[(2,.ptr 0 0),(3,.ptr 1 0),(4,pB false),(5,pN i3)],⟨[some ⟨237,[pS pa.gAtom,a9 pa.gList]⟩,some ⟨237,[pS pb.gAtom,a9 pb.gList]⟩],[]⟩⟩) (fun _=>⟨[(4,pB false)],⟨[some ⟨237,[pS pa.gAtom,a9 pa.gList]⟩,some ⟨237,[pS pb.gAtom,a9 pb.gList]⟩],[]⟩⟩) (gU H) ?_ ?_
 ·rintro i3 ⟨⟩ H
  iterate 2 refine qS ?_
  refine qR (q1 aF (q1 (a5 bD) (q1 (bG cQ) (q1 (eT bE (aB.trs_len _)) (q1 hZ (qN ?_))))))
  refine eW H (fun h5 h5l H=>?_) (fun h5 H=>?_)
  ·have h5n:=a8 h5
   refine aP.skip (qS (aP.block (qS (dF H fun z6 H=>(bO H fun x8 z7 H=>(dW (dI [2] (a5 bD) (dD [27] (bG cQ) (dI [5] aF (dI [28,29] (iH h5n bE) (dI [30] (j0 (aB.cs (a3 pa.gList i3)) bN) (dI [3] (a5 bD) (dD [32] (bG cQ) ?_)))))))))))))
   refine dI [5] aF (dI [33,34] (iH z6 bE) (dI [35] (j0 (aB.cs (a3 pb.gList i3)) bN) (dI [31,36] (bI Tryz.func248 (h_sEqualSExpr (a3 pa.gList i3) (a3 pb.gList i3) _ z7)) (dI [37] gT (dN ?_)))))
   refine bA H (fun h9 H=>?_) (fun h9 H=>?_)
   ·refine qS (qR (q1 aF (qN (aP.ret ?_))))
    obtain rfl:_=r:=(rG (aY H):)
    exact bM
   refine aP.skip (qR (q1 aF (q1 (aV.addI rfl rfl rfl rfl (c:=((i3+1:Nat):Int)) (by omega) (by omega)) (q1 aF (qN ?_)))))
   exact iY h5l ⟨_,(aY H:),b0⟩
  refine aP.exit ?_;exact lS ⟨_,H,b0⟩
 rintro⟨⟩ H
 refine qS (qR (q1 aF (qN (aP.ret ?_))))
 obtain rfl:_=r:=(aY H:)
 exact bM
def fA:Nat→aB→aB→Option Bool
 |0,_,_=>none
 |fu+1,pa,pb=>xJ fu (fA fu) pa pb
theorem LI(fu:Nat):s6 (fA fu):=by
 induction fu with
 |zero=>exact(fun pa pb r H=>by simp only [fA] at H;cases H)
 |succ fu ih=>exact(fun pa pb r H=>by simp only [fA] at H;exact JD fu (fA fu) ih pa pb r H)
theorem rI(fu:Nat):s6 (fA fu):=(LI fu)
end
end Go.Proofs.YtpioomclpaiomaaGreat.W

namespace Go.Proofs.YtpioomclpaiomaaGreat.W
set_option maxRecDepth 100000
set_option maxHeartbeats 40000000
noncomputable section
open Go.RowKit Go.Proofs
set_option linter.unusedSimpArgs false
set_option linter.unusedVariables false
attribute [local irreducible] lt
def afI(m:(List ByteArray)→ByteArray→Option Bool):Prop:= ∀(plist:List ByteArray) (ps:ByteArray) (r:Bool),m plist ps=some r→cE Tryz.prog 125 [rS plist,pS ps] (pB r:PV)
def adT(fu:Nat)(plist:List ByteArray)(ps:ByteArray):Nat→Unit→Option (LR Unit Bool):=
 fun i1 _=>sw (decide (a3 plist i1=ps))
 (some (.ret true))
 (some (.next ()))
def adU(fu:Nat)(plist:List ByteArray)(ps:ByteArray):Option (Bool⊕Unit):=
 loopN (adT fu plist ps) (plist.length-0) 0 ()
def l7(fu:Nat)(plist:List ByteArray)(ps:ByteArray):Option Bool:=
 so (adU fu plist ps) (fun _=>
 some false)
theorem l8(fu:Nat):afI (l7 fu):=by
 intro plist ps r H
 have H:=fI H
 refine qI Tryz.func125 (fun C hC=>?_)
 refine qS (qR (q1 aF (qN ?_)))
 iterate 2 refine qS ?_
 refine qR (q1 aF (qN ?_))
 refine lR 0 (bC _) (fun hl2=>?_)
 refine cM (σ:=Unit) (fun i1 _=>⟨[(0,rS plist),(1,pS ps),(4,pB false),(5,pN i1)],⟨[],[]⟩⟩) (fun _=>⟨[(4,pB false)],⟨[],[]⟩⟩) (gU H) ?_ ?_
 ·rintro i1 ⟨⟩ H
  iterate 2 refine qS ?_
  refine qR ?_
  iterate 2 refine q1 aF ?_
  refine q1 (eT b3 (bC _)) (q1 hZ (qN ?_))
  refine eW H (fun h3 h3l H=>?_) (fun h3 H=>?_)
  ·have h3n:=a8 h3
   refine aP.skip (qS (aP.block (qS (qR ?_))))
   iterate 2 refine q1 aF ?_
   refine q1 (iH h3n b3) (q1 (pZ fB) (q1 aF (q1 GS (qN ?_))))
   refine bA H (fun h4 H=>?_) (fun h4 H=>?_)
   ·refine qS (qR (q1 aF (qN (aP.ret ?_))))
    obtain rfl:_=r:=(rG (aY H):)
    exact bM
   refine aP.skip (qR (q1 aF (q1 (aV.addI rfl rfl rfl rfl (c:=((i1+1:Nat):Int)) (by omega) (by omega)) (q1 aF (qN ?_)))))
   exact iY h3l ⟨_,(aY H:),b0⟩
  refine aP.exit ?_;exact lS ⟨_,H,b0⟩
 rintro⟨⟩ H
 refine qS (qR (q1 aF (qN (aP.ret ?_))))
 obtain rfl:_=r:=(aY H:)
 exact bM
def QD(m:ByteArray→Option Bool):Prop:= ∀(ps:ByteArray) (r:Bool),m ps=some r→cE Tryz.prog 254 [pS ps] (pB r:PV)
def xL(fu:Nat)(ps:ByteArray):Option Bool:=
 bd (l7 fu ([fU,fP,hH,uK,zU,AI,uA,AJ,m4,uB,nP,kF]:List ByteArray) ps) (fun x2=>
 some x2)
theorem N1(fu:Nat):QD (xL fu):=by
 intro ps r H
 have H:=fI H
 refine qI Tryz.func254 (fun C hC=>?_)
 refine qS (qR (q1 aF (qN (qS (qR (q1 (iA ([fU,fP,hH,uK,zU,AI,uA,AJ,m4,uB,nP,kF]:List ByteArray) b3 lA) (q1 aF (bO H fun x2 z1 H=>(q1 (bI Tryz.func125 (l8 fu ([fU,fP,hH,uK,zU,AI,uA,AJ,m4,uB,nP,kF]:List ByteArray) ps _ z1)) (q1 aF (qN (aP.ret ?_))))))))))))
 obtain rfl:_=r:=(aY H:)
 exact bM
def N4(m:ByteArray→Option Bool):Prop:= ∀(ps:ByteArray) (r:Bool),m ps=some r→cE Tryz.prog 235 [pS ps] (pB r:PV)
def LQ(fu:Nat)(ps:ByteArray)(x2 x5:Bool):Nat→Unit→Option (LR Unit Bool):=
 fun i7 _=>gd (i7<(ps).size)
 (sw (decide ((((zC ps i7).toNat:Int):Int)≥97))
 (sw (!(decide ((((zC ps i7).toNat:Int):Int)≤122)))
 (sw (decide ((((i7:Nat):Int):Int)=0))
 (some (.ret false))
 (sw (decide ((((zC ps i7).toNat:Int):Int)<48))
 (some (.ret false))
 (sw (decide ((((zC ps i7).toNat:Int):Int)>57))
 (some (.ret false))
 (some (.next ())))))
 (some (.next ())))
 (sw (decide ((((i7:Nat):Int):Int)=0))
 (some (.ret false))
 (sw (decide ((((zC ps i7).toNat:Int):Int)<48))
 (some (.ret false))
 (sw (decide ((((zC ps i7).toNat:Int):Int)>57))
 (some (.ret false))
 (some (.next ()))))))
def LS(fu:Nat)(ps:ByteArray)(x2 x5:Bool):Option (Bool⊕Unit):=
 loopN (LQ fu ps x2 x5) (ps.size-0) 0 ()
def dH(fu:Nat)(ps:ByteArray):Option Bool:=
 bd (kZ fu ((ps.size:Nat):Int) 1 8) (fun x2=>
 sw (!(x2))
 (some false)
 (bd (xL fu ps) (fun x5=>
 sw (x5)
 (some false)
 (so (LS fu ps x2 x5) (fun _=>
 some true)))))
theorem dU(fu:Nat):N4 (dH fu):=by
 intro ps r H
 have H:=fI H
 refine qI Tryz.func235 (fun C hC=>?_)
 refine qS (qR (q1 aF (qN ?_)))
 iterate 2 refine qS ?_
 refine qR (q1 aF (q1 (aV.lenS rfl rfl rfl Tryz.underlying9) (bO H fun x2 z1 H=>(q1 (bI Tryz.func108 (tP fu ((ps.size:Nat):Int) 1 8 _ z1)) (q1 gT (q1 aF ?_))))))
 refine d9 9 H (fun g3 H=>?_) fun g3 H=>?_
 ·refine qk g3 (qk g3 (q1 (bR g3) (qN (dV rfl (qS (qR (q1 aF (qN (aP.ret ?_)))))))))
  obtain rfl:_=r:=(aY H:)
  exact bM
 refine qg g3 aF (bO H fun x5 z4 H=>(qg g3 (bI Tryz.func254 (N1 fu ps _ z4)) (q1 (b5 g3) (qN ?_))))
 refine bA H (fun h6 H=>?_) (fun h6 H=>?_)
 ·refine qS (qR (q1 aF (qN (aP.ret ?_))))
  obtain rfl:_=r:=(aY H:)
  exact bM
 refine aP.skip ?_
 iterate 2 refine qS ?_
 refine qR (q1 aF (qN ?_))
 refine szF 0 (fun hl8=>?_)
 refine cM (σ:=Unit) (fun i7 _=>⟨[(0,pS ps),(2,pB false),(3,pN i7)],⟨[],[]⟩⟩) (fun _=>⟨[(2,pB false)],⟨[],[]⟩⟩) (gU H) ?_ ?_
 ·rintro i7 ⟨⟩ H
  iterate 2 refine qS ?_
  refine qR ?_
  iterate 2 refine q1 aF ?_
  refine q1 (aV.lenS rfl rfl rfl Tryz.underlying9) (q1 hZ (qN ?_))
  refine eW H (fun h9 h9l H=>?_) (fun h9 H=>?_)
  ·have h9n:i7<ps.size:=by have:=of_decide_eq_true h9;omega
   refine aP.skip (qS (aP.block (qS (qR ?_))))
   iterate 2 refine q1 aF ?_
   refine dF H fun z10 H=>(q1 (aV.indexS (k:=i7) rfl rfl rfl rfl z10 Tryz.underlying9) (q1 RG (q1 aF ?_)))
   refine d9 23 H (fun g11 H=>?_) fun g11 H=>?_
   ·refine qg g11 aF (qg g11 aF (qg g11 (aV.indexS (k:=i7) rfl rfl rfl rfl z10 Tryz.underlying9) (qg g11 rLe (q1 (bR g11) (q1 aF (qN (qS (qR (q1 aF (q1 gT (q1 aF ?_)))))))))))
    refine d9 31 H (fun g12 H=>?_) fun g12 H=>?_
    ·refine qg g12 aF (qg g12 eM (qg g12 aF ?_))
     refine d9 34 H (fun g13 H=>?_) fun g13 H=>?_
     ·refine qk g13 ?_
      iterate 3 refine qk g13 ?_
      refine qg g12 (bR g13) (qg g12 aF ?_)
      iterate 4 refine qk rfl ?_
      refine qg g12 (bR rfl) (q1 (bR g12) (qN (dV rfl (qS (qR (q1 aF (qN (aP.ret ?_))))))))
      obtain rfl:_=r:=(rG (aY H):)
      exact bM
     iterate 2 refine qg g13 aF ?_
     refine qg g13 (aV.indexS (k:=i7) rfl rfl rfl rfl z10 Tryz.underlying9) (qg g13 hZ (qg g12 (b5 g13) (qg g12 aF ?_)))
     refine d9 40 H (fun g14 H=>?_) fun g14 H=>?_
     ·refine qk g14 ?_
      iterate 3 refine qk g14 ?_
      refine qg g12 (bR g14) (q1 (bR g12) (qN (dV rfl (qS (qR (q1 aF (qN (aP.ret ?_))))))))
      obtain rfl:_=r:=(rG (aY H):)
      exact bM
     iterate 2 refine qg g14 aF ?_
     refine qg g14 (aV.indexS (k:=i7) rfl rfl rfl rfl z10 Tryz.underlying9) (qg g14 IB (qg g12 (b5 g14) (q1 (bR g12) (qN ?_))))
     refine bA H (fun h15 H=>?_) (fun h15 H=>?_)
     ·refine qS (qR (q1 aF (qN (aP.ret ?_))))
      obtain rfl:_=r:=(rG (aY H):)
      exact bM
     refine aP.skip (qR (q1 aF (q1 (aV.addI rfl rfl rfl rfl (c:=((i7+1:Nat):Int)) (by omega) (by omega)) (q1 aF (qN ?_)))))
     exact iY h9l ⟨_,(aY H:),b0⟩
    iterate 3 refine qk g12 ?_
    iterate 4 refine GR ?_
    iterate 2 refine qk g12 ?_
    iterate 4 refine GR ?_
    refine qk g12 (q1 (b5 g12) (qN (iX rfl (aP.skip (qR (q1 aF (q1 (aV.addI rfl rfl rfl rfl (c:=((i7+1:Nat):Int)) (by omega) (by omega)) (q1 aF (qN ?_)))))))))
    exact iY h9l ⟨_,(aY H:),b0⟩
   iterate 4 refine qk g11 ?_
   refine q1 (b5 g11) (q1 aF (qN (qS (qR (q1 aF (q1 gT (q1 aF (qg (congrArg (fun b=> !b) (rfl:false=false)) aF (qg (congrArg (fun b=> !b) (rfl:false=false)) eM (qg (congrArg (fun b=> !b) (rfl:false=false)) aF ?_))))))))))
   refine d9 34 H (fun g16 H=>?_) fun g16 H=>?_
   ·refine qk g16 ?_
    iterate 3 refine qk g16 ?_
    refine qg (congrArg (fun b=> !b) (rfl:false=false)) (bR g16) (qg (congrArg (fun b=> !b) (rfl:false=false)) aF ?_)
    iterate 4 refine qk rfl ?_
    refine qg (congrArg (fun b=> !b) (rfl:false=false)) (bR rfl) (q1 (bR (congrArg (fun b=> !b) (rfl:false=false))) (qN (dV rfl (qS (qR (q1 aF (qN (aP.ret ?_))))))))
    obtain rfl:_=r:=(rG (aY H):)
    exact bM
   iterate 2 refine qg g16 aF ?_
   refine qg g16 (aV.indexS (k:=i7) rfl rfl rfl rfl z10 Tryz.underlying9) (qg g16 hZ (qg (congrArg (fun b=> !b) (rfl:false=false)) (b5 g16) (qg (congrArg (fun b=> !b) (rfl:false=false)) aF ?_)))
   refine d9 40 H (fun g17 H=>?_) fun g17 H=>?_
   ·refine qk g17 ?_
    iterate 3 refine qk g17 ?_
    refine qg (congrArg (fun b=> !b) (rfl:false=false)) (bR g17) (q1 (bR (congrArg (fun b=> !b) (rfl:false=false))) (qN (dV rfl (qS (qR (q1 aF (qN (aP.ret ?_))))))))
    obtain rfl:_=r:=(rG (aY H):)
    exact bM
   iterate 2 refine qg g17 aF ?_
   refine qg g17 (aV.indexS (k:=i7) rfl rfl rfl rfl z10 Tryz.underlying9) (qg g17 IB (qg (congrArg (fun b=> !b) (rfl:false=false)) (b5 g17) (q1 (bR (congrArg (fun b=> !b) (rfl:false=false))) (qN ?_))))
   refine bA H (fun h18 H=>?_) (fun h18 H=>?_)
   ·refine qS (qR (q1 aF (qN (aP.ret ?_))))
    obtain rfl:_=r:=(rG (aY H):)
    exact bM
   refine aP.skip (qR (q1 aF (q1 (aV.addI rfl rfl rfl rfl (c:=((i7+1:Nat):Int)) (by omega) (by omega)) (q1 aF (qN ?_)))))
   exact iY h9l ⟨_,(aY H:),b0⟩
  refine aP.exit ?_;exact lS ⟨_,H,b0⟩
 rintro⟨⟩ H
 refine qS (qR (q1 aF (qN (aP.ret ?_))))
 obtain rfl:_=r:=(aY H:)
 exact bM
def aaW(m:(List ByteArray)→Option Bool):Prop:= ∀(plist:List ByteArray) (r:Bool),m plist=some r→cE Tryz.prog 255 [rS plist] (pB r:PV)
def X1(fu:Nat)(plist:List ByteArray):Nat→Unit→Option (LR Unit Bool):=
 fun i1 _=>bd (dH fu (a3 plist i1)) (fun x5=>
 sw (!(x5))
 (some (.ret false))
 (some (.next ())))
def X2(fu:Nat)(plist:List ByteArray):Option (Bool⊕Unit):=
 loopN (X1 fu plist) (plist.length-0) 0 ()
def AB(fu:Nat)(plist:List ByteArray):Option Bool:=
 so (X2 fu plist) (fun _=>
 some true)
theorem KX(fu:Nat):aaW (AB fu):=by
 intro plist r H
 have H:=fI H
 refine qI Tryz.func255 (fun C hC=>?_)
 refine qS (qR (q1 aF (qN ?_)))
 iterate 2 refine qS ?_
 refine qR (q1 aF (qN ?_))
 refine lR 0 (bC _) (fun hl2=>?_)
 refine cM (σ:=Unit) (fun i1 _=>⟨[(0,rS plist),(2,pB false),(3,pN i1)],⟨[],[]⟩⟩) (fun _=>⟨[(2,pB false)],⟨[],[]⟩⟩) (gU H) ?_ ?_
 ·rintro i1 ⟨⟩ H
  iterate 2 refine qS ?_
  refine qR ?_
  iterate 2 refine q1 aF ?_
  refine q1 (eT b3 (bC _)) (q1 hZ (qN ?_))
  refine eW H (fun h3 h3l H=>?_) (fun h3 H=>?_)
  ·have h3n:=a8 h3
   refine aP.skip (qS (aP.block (qS (qR ?_))))
   iterate 2 refine q1 aF ?_
   refine q1 (iH h3n b3) (q1 (pZ fB) (bO H fun x5 z4 H=>(q1 (bI Tryz.func235 (dU fu (a3 plist i1) _ z4)) (q1 gT (qN ?_)))))
   refine bA H (fun h6 H=>?_) (fun h6 H=>?_)
   ·refine qS (qR (q1 aF (qN (aP.ret ?_))))
    obtain rfl:_=r:=(rG (aY H):)
    exact bM
   refine aP.skip (qR (q1 aF (q1 (aV.addI rfl rfl rfl rfl (c:=((i1+1:Nat):Int)) (by omega) (by omega)) (q1 aF (qN ?_)))))
   exact iY h3l ⟨_,(aY H:),b0⟩
  refine aP.exit ?_;exact lS ⟨_,H,b0⟩
 rintro⟨⟩ H
 refine qS (qR (q1 aF (qN (aP.ret ?_))))
 obtain rfl:_=r:=(aY H:)
 exact bM
def NV(m:(List ByteArray)→Option Bool):Prop:= ∀(plist:List ByteArray) (r:Bool),m plist=some r→cE Tryz.prog 237 [rS plist] (pB r:PV)
def LE(fu:Nat)(plist:List ByteArray):Nat→Unit→Option (LR Unit Bool):=
 fun i1 _=>gd ((0:Int)≤0∧(0:Int)≤((i1:Nat):Int)∧(((i1:Nat):Int):Int)≤((plist.length:Nat):Int))
 (bd (l7 fu (List.drop (0:Int).toNat (List.take (((i1:Nat):Int):Int).toNat plist)) (a3 plist i1)) (fun x6=>
 sw (x6)
 (some (.ret false))
 (some (.next ()))))
def LF(fu:Nat)(plist:List ByteArray):Option (Bool⊕Unit):=
 loopN (LE fu plist) (plist.length-0) 0 ()
def iZ(fu:Nat)(plist:List ByteArray):Option Bool:=
 so (LF fu plist) (fun _=>
 some true)
theorem kI(fu:Nat):NV (iZ fu):=by
 intro plist r H
 have H:=fI H
 refine qI Tryz.func237 (fun C hC=>?_)
 refine qS (qR (q1 aF (qN ?_)))
 iterate 2 refine qS ?_
 refine qR (q1 aF (qN ?_))
 refine lR 0 (bC _) (fun hl2=>?_)
 refine cM (σ:=Unit) (fun i1 _=>⟨[(0,rS plist),(2,pB false),(3,pN i1)],⟨[],[]⟩⟩) (fun _=>⟨[(2,pB false)],⟨[],[]⟩⟩) (gU H) ?_ ?_
 ·rintro i1 ⟨⟩ H
  iterate 2 refine qS ?_
  refine qR ?_
  iterate 2 refine q1 aF ?_
  refine q1 (eT b3 (bC _)) (q1 hZ (qN ?_))
  refine eW H (fun h3 h3l H=>?_) (fun h3 H=>?_)
  ·have h3n:=a8 h3
   refine aP.skip (qS (aP.block (qS (dF H fun z4 H=>(bO H fun x6 z5 H=>(dW (dI [0] aF (dI [3] aF ?_))))))))
   refine dI [10,11] (aV.congrP (aV.sliceR (es:=aW (plist)) (l:=0) (k:=((i1:Nat):Int)) rfl rfl rfl rfl rfl (by rw [bC];exact rfl) (by rw [bC];exact z4) b3) (YA _ _ _)) ?_;refine dI [0] aF (dI [3] aF (dI [13,14] (iH h3n b3) (dI [15] (pZ fB) (dI [12,16] (bI Tryz.func125 (l8 fu (List.drop (0:Int).toNat (List.take (((i1:Nat):Int):Int).toNat plist)) (a3 plist i1) _ z5)) (dN ?_)))))
   refine bA H (fun h7 H=>?_) (fun h7 H=>?_)
   ·refine qS (qR (q1 aF (qN (aP.ret ?_))))
    obtain rfl:_=r:=(rG (aY H):)
    exact bM
   refine aP.skip (qR (q1 aF (q1 (aV.addI rfl rfl rfl rfl (c:=((i1+1:Nat):Int)) (by omega) (by omega)) (q1 aF (qN ?_)))))
   exact iY h3l ⟨_,(aY H:),b0⟩
  refine aP.exit ?_;exact lS ⟨_,H,b0⟩
 rintro⟨⟩ H
 refine qS (qR (q1 aF (qN (aP.ret ?_))))
 obtain rfl:_=r:=(aY H:)
 exact bM
def afO(m:ByteArray→Option aA):Prop:= ∀(ps:ByteArray) (r:aA),m ps=some r→cE Tryz.prog 118 [pS ps] ((aA.pv r):PV)
def l9(fu:Nat)(ps:ByteArray):Option aA:=
 some (aA.mk 1 ps [])
theorem jI(fu:Nat):afO (l9 fu):=by
 intro ps r H
 have H:=fI H
 refine qI Tryz.func118 (fun C hC=>?_)
 refine qS (qR (q1 (iV gV) (qN (qS (qR (q1 aF (q1 (f6 gV zP) (q1 (bU hQ) (qN (aP.ret ?_))))))))))
 obtain rfl:_=r:=(aY H:)
 exact bM (hr:=⟨⟨_,_,_,rfl,rfl,cH,rfl,rfl⟩,trivial⟩)
def afL(m:ByteArray→(List aA)→Option aA):Prop:= ∀(ps:ByteArray) (pargs:List aA) (r:aA),m ps pargs=some r→cE Tryz.prog 85 [pS ps,a4 pargs] ((aA.pv r):PV)
def jR(fu:Nat)(ps:ByteArray)(pargs:List aA):Option aA:=
 gd (([]:List aA).length+(pargs).length≤68719476736)
 (some (aA.mk 2 ps (([])++pargs)))
theorem jG(fu:Nat):afL (jR fu):=by
 intro ps pargs r H
 have H:=fI H
 refine qI Tryz.func85 (fun C hC=>?_)
 refine qS (qR (q1 (iV gV) (qN (qS (qR (q1 aF (q1 (t2 ([]:List aA) dX gV) (q1 aF (dF H fun z1 H=>(q1 (mJ z1 dX af5) (q1 (f6 gV zP) (q1 (bU hQ) (qN ?_)))))))))))))
 refine aP.ret ?_
 obtain rfl:_=r:=(aY H:)
 exact bM (hr:=⟨⟨_,_,_,rfl,rfl,cH,rfl,rfl⟩,trivial⟩)
abbrev AC:=aB→Option aA
def MR(m:AC):Prop:= ∀(pa0:aB) (r:aA),m pa0=some r→cE Tryz.prog 246 [(aB.pv pa0)] ((aA.pv r):PV)
def afU(fu:Nat)(r_sl5Ty:AC)(pa0:aB):Nat→((List aA))→Option (LR ((List aA)) aA):=
 fun i11 v13=>bd (r_sl5Ty (a3 pa0.gList i11)) (fun x17=>
 gd ((v13).length+(([x17]:List aA)).length≤68719476736)
 (some (.next (v13++([x17]:List aA)))))
def afV(fu:Nat)(r_sl5Ty:AC)(pa0:aB):Option (aA⊕((List aA))):=
 loopN (afU fu r_sl5Ty pa0) (pa0.gList.length-1) 1 ([])
def UP(fu:Nat)(r_sl5Ty:AC)(pa0:aB):Option aA:=
 sw (!decide (pa0.gAtom=s_))
 (gd (0<(pa0.gAtom).size)
 (sw (decide ((((zC pa0.gAtom 0).toNat:Int):Int)=39))
 (gd ((0:Int)≤1∧(1:Int)≤((pa0.gAtom.size:Nat):Int)∧(((pa0.gAtom.size:Nat):Int):Int)≤((pa0.gAtom.size:Nat):Int))
 (bd (l9 fu (pa0.gAtom.extract (1:Int).toNat (((pa0.gAtom.size:Nat):Int):Int).toNat)) (fun x6=>
 some x6)))
 (bd (jR fu pa0.gAtom ([])) (fun x8=>
 some x8))))
 (sw (decide ((((pa0.gList.length:Nat):Int):Int)<2))
 (some (aA.mk 0 s_ []))
 (gd (0<(pa0.gList).length)
 (so (afV fu r_sl5Ty pa0) (fun v13=>
 sw (decide ((a3 pa0.gList 0).gAtom=hH))
 (sw (decide ((((v13.length:Nat):Int):Int)=2))
 (gd (1<(pa0.gList).length)
 (sw (!decide ((a3 pa0.gList 1).gAtom=s_))
 (gd ((0:Int)≤1∧(1:Int)≤((v13.length:Nat):Int)∧(((v13.length:Nat):Int):Int)≤((v13.length:Nat):Int))
 (some (aA.mk 3 ((a3 pa0.gList 1).gAtom) (List.drop (1:Int).toNat (List.take (((v13.length:Nat):Int):Int).toNat v13)))))
 (sw (decide ((a3 pa0.gList 0).gAtom=uK))
 (some (aA.mk 2 ((a3 pa0.gList 0).gAtom) v13))
 (some (aA.mk 2 ((a3 pa0.gList 0).gAtom) v13)))))
 (sw (decide ((a3 pa0.gList 0).gAtom=uK))
 (sw (decide ((((v13.length:Nat):Int):Int)=1))
 (gd (1<(pa0.gList).length)
 (sw (!decide ((a3 pa0.gList 1).gAtom=s_))
 (some (aA.mk 4 ((a3 pa0.gList 1).gAtom) []))
 (some (aA.mk 2 ((a3 pa0.gList 0).gAtom) v13))))
 (some (aA.mk 2 ((a3 pa0.gList 0).gAtom) v13)))
 (some (aA.mk 2 ((a3 pa0.gList 0).gAtom) v13))))
 (sw (decide ((a3 pa0.gList 0).gAtom=uK))
 (sw (decide ((((v13.length:Nat):Int):Int)=1))
 (gd (1<(pa0.gList).length)
 (sw (!decide ((a3 pa0.gList 1).gAtom=s_))
 (some (aA.mk 4 ((a3 pa0.gList 1).gAtom) []))
 (some (aA.mk 2 ((a3 pa0.gList 0).gAtom) v13))))
 (some (aA.mk 2 ((a3 pa0.gList 0).gAtom) v13)))
 (some (aA.mk 2 ((a3 pa0.gList 0).gAtom) v13)))))))
theorem abI(fu:Nat)(r_sl5Ty:AC)(h_sl5Ty:MR r_sl5Ty):MR (UP fu r_sl5Ty):=by
 intro pa0 r H
 have H:=fI H
 refine qI Tryz.func246 (fun C hC=>?_)
 refine qS (qR (q1 (jU ([pS pa0.gAtom,a9 pa0.gList])) (q1 (iV gV) (qN ?_))))
 iterate 2 refine qS ?_
 refine qR (q1 (a5 e6) (q1 (bG fB) (q1 MN (qN ?_))))
 refine bA H (fun h1 H=>?_) (fun h1 H=>?_)
 ·refine qS (qS (qR (q1 (a5 e6) (q1 (bG fB) (dF H fun z2 H=>(q1 (aV.indexS (k:=0) rfl rfl rfl rfl z2 Tryz.underlying9) (q1 eM (qN ?_))))))))
  refine bA H (fun h3 H=>?_) (fun h3 H=>?_)
  ·refine qS (qR (q1 (a5 e6) (q1 (bG fB) (dF H fun z4 H=>(q1 (aV.sliceS (l:=1) (k:=((pa0.gAtom.size:Nat):Int)) rfl rfl rfl rfl rfl z4 Tryz.underlying9) (bO H fun x6 z5 H=>(q1 (bI Tryz.func118 (jI fu (pa0.gAtom.extract (1:Int).toNat (((pa0.gAtom.size:Nat):Int):Int).toNat) _ z5)) (q1 (bU hQ) (qN (aP.ret ?_))))))))))
   obtain rfl:_=r:=(aY H:)
   exact bM (hr:=⟨⟨_,_,_,rfl,rfl,cH,rfl,rfl⟩,trivial⟩)
  refine aP.skip (qS (qR (q1 (a5 e6) (q1 (bG fB) (bO H fun x8 z7 H=>(q1 (bI Tryz.func85 (jG fu pa0.gAtom ([]) _ z7)) (q1 (bU hQ) (qN (aP.ret ?_)))))))))
  obtain rfl:_=r:=(aY H:)
  exact bM (hr:=⟨⟨_,_,_,rfl,rfl,cH,rfl,rfl⟩,trivial⟩)
 refine aP.skip ?_
 iterate 2 refine qS ?_
 refine qR (q1 (a5 bD) (q1 (bG cQ) (q1 (eT bE (aB.trs_len _)) (q1 hZ (qN ?_)))))
 refine bA H (fun h9 H=>?_) (fun h9 H=>?_)
 ·have h9n:pa0.gList.length<2:=by have:=of_decide_eq_true h9;omega
  refine qS (qR (q1 (f6 gV zP) (q1 (bU hQ) (qN (aP.ret ?_)))))
  obtain rfl:_=r:=(aY H:)
  exact bM (hr:=⟨⟨_,_,_,rfl,rfl,cH,rfl,rfl⟩,trivial⟩)
 refine aP.skip (qS (qR (q1 (a5 bD) (q1 (bG cQ) (dF H fun z10 H=>(q1 (iH z10 bE) (q1 (qX e6) (q1 (pZ fB) (q1 aF (qN (qS (qR (q1 (t2 ([]:List aA) dX gV) ?_)))))))))))))
 refine q1 aF (qN ?_)
 iterate 2 refine qS ?_
 refine qR (q1 aF (qN ?_))
 refine lR 21 (aB.trs_len _) (fun hl14=>?_)
 refine cM (σ:=(List aA)) (fun i11 v13=>⟨[(1,.ptr 0 0),(2,.ptr 1 0),(3,pS ((a3 pa0.gList 0).gAtom)),(4,Q5 v13 0),(5,pN i11)],⟨[some ⟨237,[pS pa0.gAtom,a9 pa0.gList]⟩,some ⟨35,[pI 0,pS s_,.nil]⟩],[⟨35,3,aA.trs (v13),false⟩]⟩⟩) (fun v13=>⟨[(1,.ptr 0 0),(2,.ptr 1 0),(3,pS ((a3 pa0.gList 0).gAtom)),(4,Q5 v13 0)],⟨[some ⟨237,[pS pa0.gAtom,a9 pa0.gList]⟩,some ⟨35,[pI 0,pS s_,.nil]⟩],[⟨35,3,aA.trs (v13),false⟩]⟩⟩) (gU H) ?_ ?_
 ·rintro i11 v13 H
  iterate 2 refine qS ?_
  refine qR (q1 aF (q1 (a5 bD) (q1 (bG cQ) (q1 (eT bE (aB.trs_len _)) (q1 hZ (qN ?_))))))
  refine eW H (fun h15 h15l H=>?_) (fun h15 H=>?_)
  ·have h15n:=a8 h15
   refine aP.skip (qS (aP.block (qR (q1 aF (q1 (a5 bD) (q1 (bG cQ) (q1 aF (q1 (iH h15n bE) (q1 (j0 (aB.cs (a3 pa0.gList i11)) bN) (bO H fun x17 z16 H=>(q1 (bI Tryz.func246 (h_sl5Ty (a3 pa0.gList i11) _ z16)) (q1 (iA ([x17]:List aA) dX gV) (dF H fun z18 H=>?_)))))))))))))
   refine q1 (mJ z18 dX af5) (q1 aF (qN (qR (q1 aF (q1 (aV.addI rfl rfl rfl rfl (c:=((i11+1:Nat):Int)) (by omega) (by omega)) (q1 aF (qN ?_)))))))
   exact iY h15l ⟨_,(aY H:),b0⟩
  refine aP.exit ?_;exact lS ⟨_,H,b0⟩
 rintro v13 H
 refine qS (aP.block (qS (qR (q1 aF (q1 GS (q1 aF ?_))))))
 refine d9 50 H (fun g19 H=>?_) fun g19 H=>?_
 ·refine qg g19 aF (qg g19 (eT dX (aA.trs_len _)) (qg g19 eM (q1 (bR g19) (q1 aF ?_))))
  refine d9 55 H (fun g20 H=>?_) fun g20 H=>?_
  ·refine qg g20 (a5 bD) (qg g20 (bG cQ) (dF H fun z21 H=>(qg g20 (iH z21 bE) (qg g20 (qX e6) (qg g20 (pZ fB) (qg g20 MN (q1 (bR g20) (q1 aF (qN ?_)))))))))
   refine bA H (fun h22 H=>?_) (fun h22 H=>?_)
   ·refine qS (dF H fun z23 H=>(dW (dI [1] (a5 bD) (dD [63] (bG cQ) (dI [64] (iH z21 bE) (dI [65] (qX e6) (dI [66] (pZ fB) (dI [4] aF ?_))))))))
    refine dI [68] (aV.congrP (aV.sliceR (es:=aA.trs (v13)) (l:=1) (k:=((v13.length:Nat):Int)) rfl rfl rfl rfl rfl (by rw [aA.trs_len];exact rfl) (by rw [aA.trs_len];exact z23) dX) (aA.trs_part _ _ _)) ?_;refine dI [67,69] (f6 gV zP) (nI [2,70] (bU hQ) (dN (aP.ret ?_)))
    obtain rfl:_=r:=(aY H:)
    exact bM (hr:=⟨⟨_,_,_,rfl,rfl,cH,rfl,rfl⟩,trivial⟩)
   refine qS (qR (q1 aF (q1 GS (q1 aF ?_))))
   refine d9 74 H (fun g24 H=>?_) fun g24 H=>?_
   ·refine qg g24 aF (qg g24 (eT dX (aA.trs_len _)) (qg g24 eM (q1 (bR g24) (q1 aF ?_))))
    iterate 6 refine qk (dne (b:=1) g20 (by decide)) ?_
    refine q1 (b5 (dne (b:=1) g20 (by decide))) (q1 aF (qN (iX rfl (aP.skip (qS (qR ?_))))))
    iterate 2 refine q1 aF ?_
    refine q1 (f6 gV zP) (q1 (bU hQ) (qN (aP.ret ?_)))
    obtain rfl:_=r:=(aY H:)
    exact bM (hr:=⟨⟨_,_,_,rfl,rfl,cH,rfl,rfl⟩,trivial⟩)
   iterate 3 refine qk g24 ?_
   refine q1 (b5 g24) (q1 aF ?_)
   iterate 6 refine qk rfl ?_
   refine q1 (b5 rfl) (q1 aF (qN (iX rfl (aP.skip (qS (qR ?_))))))
   iterate 2 refine q1 aF ?_
   refine q1 (f6 gV zP) (q1 (bU hQ) (qN (aP.ret ?_)))
   obtain rfl:_=r:=(aY H:)
   exact bM (hr:=⟨⟨_,_,_,rfl,rfl,cH,rfl,rfl⟩,trivial⟩)
  iterate 6 refine qk g20 ?_
  refine q1 (b5 g20) (q1 aF (qN (iX rfl (qS (qR (q1 aF (q1 GS (q1 aF ?_))))))))
  refine d9 74 H (fun g25 H=>?_) fun g25 H=>?_
  ·refine qg g25 aF (qg g25 (eT dX (aA.trs_len _)) (qg g25 eM (q1 (bR g25) (q1 aF ?_))))
   refine d9 79 H (fun g26 H=>?_) fun g26 H=>?_
   ·refine qg g26 (a5 bD) (qg g26 (bG cQ) (dF H fun z27 H=>(qg g26 (iH z27 bE) (qg g26 (qX e6) (qg g26 (pZ fB) (qg g26 MN (q1 (bR g26) (q1 aF (qN ?_)))))))))
    refine bA H (fun h28 H=>?_) (fun h28 H=>?_)
    ·refine qS (qR (q1 (a5 bD) (q1 (bG cQ) (q1 (iH z27 bE) (q1 (qX e6) (q1 (pZ fB) (q1 (f6 gV zP) (q1 (bU hQ) (qN (aP.ret ?_))))))))))
     obtain rfl:_=r:=(aY H:)
     exact bM (hr:=⟨⟨_,_,_,rfl,rfl,cH,rfl,rfl⟩,trivial⟩)
    refine aP.skip (qS (qR ?_))
    iterate 2 refine q1 aF ?_
    refine q1 (f6 gV zP) (q1 (bU hQ) (qN (aP.ret ?_)))
    obtain rfl:_=r:=(aY H:)
    exact bM (hr:=⟨⟨_,_,_,rfl,rfl,cH,rfl,rfl⟩,trivial⟩)
   iterate 6 refine qk g26 ?_
   refine q1 (b5 g26) (q1 aF (qN (iX rfl (aP.skip (qS (qR ?_))))))
   iterate 2 refine q1 aF ?_
   refine q1 (f6 gV zP) (q1 (bU hQ) (qN (aP.ret ?_)))
   obtain rfl:_=r:=(aY H:)
   exact bM (hr:=⟨⟨_,_,_,rfl,rfl,cH,rfl,rfl⟩,trivial⟩)
  iterate 3 refine qk g25 ?_
  refine q1 (b5 g25) (q1 aF ?_)
  iterate 6 refine qk rfl ?_
  refine q1 (b5 rfl) (q1 aF (qN (iX rfl (aP.skip (qS (qR ?_))))))
  iterate 2 refine q1 aF ?_
  refine q1 (f6 gV zP) (q1 (bU hQ) (qN (aP.ret ?_)))
  obtain rfl:_=r:=(aY H:)
  exact bM (hr:=⟨⟨_,_,_,rfl,rfl,cH,rfl,rfl⟩,trivial⟩)
 iterate 3 refine qk g19 ?_
 refine q1 (b5 g19) (q1 aF ?_)
 iterate 6 refine qk rfl ?_
 refine q1 (b5 rfl) (q1 aF (qN (iX rfl (qS (qR (q1 aF (q1 GS (q1 aF ?_))))))))
 refine d9 74 H (fun g29 H=>?_) fun g29 H=>?_
 ·refine qg g29 aF (qg g29 (eT dX (aA.trs_len _)) (qg g29 eM (q1 (bR g29) (q1 aF ?_))))
  refine d9 79 H (fun g30 H=>?_) fun g30 H=>?_
  ·refine qg g30 (a5 bD) (qg g30 (bG cQ) (dF H fun z31 H=>(qg g30 (iH z31 bE) (qg g30 (qX e6) (qg g30 (pZ fB) (qg g30 MN (q1 (bR g30) (q1 aF (qN ?_)))))))))
   refine bA H (fun h32 H=>?_) (fun h32 H=>?_)
   ·refine qS (qR (q1 (a5 bD) (q1 (bG cQ) (q1 (iH z31 bE) (q1 (qX e6) (q1 (pZ fB) (q1 (f6 gV zP) (q1 (bU hQ) (qN (aP.ret ?_))))))))))
    obtain rfl:_=r:=(aY H:)
    exact bM (hr:=⟨⟨_,_,_,rfl,rfl,cH,rfl,rfl⟩,trivial⟩)
   refine aP.skip (qS (qR ?_))
   iterate 2 refine q1 aF ?_
   refine q1 (f6 gV zP) (q1 (bU hQ) (qN (aP.ret ?_)))
   obtain rfl:_=r:=(aY H:)
   exact bM (hr:=⟨⟨_,_,_,rfl,rfl,cH,rfl,rfl⟩,trivial⟩)
  iterate 6 refine qk g30 ?_
  refine q1 (b5 g30) (q1 aF (qN (iX rfl (aP.skip (qS (qR ?_))))))
  iterate 2 refine q1 aF ?_
  refine q1 (f6 gV zP) (q1 (bU hQ) (qN (aP.ret ?_)))
  obtain rfl:_=r:=(aY H:)
  exact bM (hr:=⟨⟨_,_,_,rfl,rfl,cH,rfl,rfl⟩,trivial⟩)
 iterate 3 refine qk g29 ?_
 refine q1 (b5 g29) (q1 aF ?_)
 iterate 6 refine qk rfl ?_
 refine q1 (b5 rfl) (q1 aF (qN (iX rfl (aP.skip (qS (qR ?_))))))
 iterate 2 refine q1 aF ?_
 refine q1 (f6 gV zP) (q1 (bU hQ) (qN (aP.ret ?_)))
 obtain rfl:_=r:=(aY H:)
 exact bM (hr:=⟨⟨_,_,_,rfl,rfl,cH,rfl,rfl⟩,trivial⟩)
def k8:Nat→aB→Option aA
 |0,_=>none
 |fu+1,pa0=>UP fu (k8 fu) pa0
theorem aeC(fu:Nat):MR (k8 fu):=by
 induction fu with
 |zero=>exact(fun pa0 r H=>by simp only [k8] at H;cases H)
 |succ fu ih=>exact(fun pa0 r H=>by simp only [k8] at H;exact abI fu (k8 fu) ih pa0 r H)
theorem tS(fu:Nat):MR (k8 fu):=(aeC fu)
abbrev u2:=aA→Option aB
def MQ(m:u2):Prop:= ∀(pa0:aA) (r:aB),m pa0=some r→cE Tryz.prog 269 [(aA.pv pa0)] ((aB.pv r):PV)
def afP(fu:Nat)(r_sl5Sx:u2)(pa0:aA):Option (aB⊕Unit):=
 sw (decide ((pa0.gKind:Int)=1))
 (gd ((aeG).size+(pa0.gName).size≤1099511627776)
 (bd (b9 fu (aeG++pa0.gName)) (fun x4=>
 some (.inl x4))))
 (sw (decide ((pa0.gKind:Int)=4))
 (bd (b9 fu uK) (fun x7=>
 bd (b9 fu pa0.gName) (fun x9=>
 bd (kK fu ([x7,x9]:List aB)) (fun x11=>
 some (.inl x11)))))
 (sw (decide ((pa0.gKind:Int)=2))
 (sw (decide ((((pa0.gArgs.length:Nat):Int):Int)=0))
 (bd (b9 fu pa0.gName) (fun x15=>
 some (.inl x15)))
 (some (.inr ())))
 (some (.inr ()))))
def afQ(fu:Nat)(r_sl5Sx:u2)(pa0:aA):Option (aB⊕((List aB))):=
 sw (decide ((pa0.gKind:Int)=3))
 (bd (b9 fu hH) (fun x20=>
 gd (([]:List aB).length+(([x20]:List aB)).length≤68719476736)
 (some (.inr (([])++([x20]:List aB))))))
 (some (.inr ([])))
def afR(fu:Nat)(r_sl5Sx:u2)(pa0:aA)(v17:List aB)(x23:aB):Nat→((List aB))→Option (LR ((List aB)) aB):=
 fun i25 v27=>bd (r_sl5Sx (a3 pa0.gArgs i25)) (fun x31=>
 gd ((v27).length+(([x31]:List aB)).length≤68719476736)
 (some (.next (v27++([x31]:List aB)))))
def afS(fu:Nat)(r_sl5Sx:u2)(pa0:aA)(v17:List aB)(x23:aB):Option (aB⊕((List aB))):=
 loopN (afR fu r_sl5Sx pa0 v17 x23) (pa0.gArgs.length-0) 0 (v17++([x23]:List aB))
def UO(fu:Nat)(r_sl5Sx:u2)(pa0:aA):Option aB:=
 so (afP fu r_sl5Sx pa0) (fun _=>
 so (afQ fu r_sl5Sx pa0) (fun v17=>
 bd (b9 fu pa0.gName) (fun x23=>
 gd ((v17).length+(([x23]:List aB)).length≤68719476736)
 (so (afS fu r_sl5Sx pa0 v17 x23) (fun v27=>
 some (aB.mk s_ v27))))))
theorem abH(fu:Nat)(r_sl5Sx:u2)(h_sl5Sx:MQ r_sl5Sx):MQ (UO fu r_sl5Sx):=by
 intro pa0 r H
 have H:=fI H
 refine qI Tryz.func269 (fun C hC=>?_)
 refine qS (qR (q1 (jU (dJ pa0)) (q1 (iV b6) (qN (qS ?_)))))
 refine o7 (σ:=Unit) (fun _=>⟨[(1,.ptr 0 0),(2,.ptr 1 0)],⟨[some ⟨35,dJ pa0⟩,some ⟨237,[pS s_,.nil]⟩],[]⟩⟩) (gU H) (fun H=>?_) ?_
 ·refine aP.block (qS (qR (q1 (a5 lD) (q1 (bG jQ) (q1 eM (q1 aF (qN ?_)))))))
  refine bA H (fun h1 H=>?_) (fun h1 H=>?_)
  ·refine qS (qR (q1 (a5 jT) (q1 (bG fB) (dF H fun z2 H=>(q1 (aV.addS rfl rfl rfl rfl (Nat.le_trans z2 (by decide))) (bO H fun x4 z3 H=>(q1 (bI Tryz.func266 (bW fu (aeG++pa0.gName) _ z3)) (q1 (bU eA) (qN (aP.ret ?_))))))))))
   obtain rfl:_=r:=(EH (aY H):)
   exact bM (hr:=⟨⟨_,_,_,rfl,rfl,bN,rfl,rfl⟩,trivial⟩)
  refine qS (qR (q1 (a5 lD) (q1 (bG jQ) (q1 eM (q1 aF (qN ?_))))))
  refine bA H (fun h5 H=>?_) (fun h5 H=>?_)
  ·refine qS (bO H fun x7 z6 H=>(bO H fun x9 z8 H=>(bO H fun x11 z10 H=>(dW (dI [] (bI Tryz.func266 (bW fu uK _ z6)) (dI [1] (a5 jT) (dD [18] (bG fB) (dI [19] (bI Tryz.func266 (bW fu pa0.gName _ z8)) (dI [17,20] (iA ([x7,x9]:List aB) bE b6) (dI [21] (bI Tryz.func265 (z0 (lP fu) ([x7,x9]:List aB) _ z10)) (nI [2,22] (bU eA) (dN (aP.ret ?_)))))))))))))
   obtain rfl:_=r:=(EH (aY H):)
   exact bM (hr:=⟨⟨_,_,_,rfl,rfl,bN,rfl,rfl⟩,trivial⟩)
  refine qS (qR (q1 (a5 lD) (q1 (bG jQ) (q1 eM (q1 aF ?_)))))
  refine d9 27 H (fun g12 H=>?_) fun g12 H=>?_
  ·refine qg g12 (a5 fV) (qg g12 (bG l5) (qg g12 (eT dX (aA.trs_len _)) (qg g12 eM (q1 (bR g12) (q1 aF (qN ?_))))))
   refine bA H (fun h13 H=>?_) (fun h13 H=>?_)
   ·refine qS (qR (q1 (a5 jT) (q1 (bG fB) (bO H fun x15 z14 H=>(q1 (bI Tryz.func266 (bW fu pa0.gName _ z14)) (q1 (bU eA) (qN (aP.ret ?_))))))))
    obtain rfl:_=r:=(EH (aY H):)
    exact bM (hr:=⟨⟨_,_,_,rfl,rfl,bN,rfl,rfl⟩,trivial⟩)
   refine aP.skip ?_;exact dP ⟨_,(aY H:),b0⟩
  iterate 4 refine qk g12 ?_
  refine q1 (b5 g12) (q1 aF (qN (iX rfl (aP.skip ?_))))
  exact dP ⟨_,(aY H:),b0⟩
 rintro⟨⟩ H
 refine qS (qR (q1 (f6 b6 l3) (q1 (iV b6) (q1 (bU eA) (qN (qS (aP.wk (Wk.regBox (k:=2) (j:=1) 237 2 (by decide) rfl rfl) ?_)))))))
 refine o7 (σ:=(List aB)) (fun v17=>⟨[(1,.ptr 0 0),(2,.ptr 1 0),(3,.ptr 2 0)],⟨[some ⟨35,dJ pa0⟩,some ⟨237,[pS s_,.nil]⟩,some ⟨237,[pS s_,dY v17 0]⟩],[⟨237,2,aB.trs (v17),false⟩]⟩⟩) (gU H) (fun H=>?_) ?_
 ·refine qS (qR (q1 (a5 lD) (q1 (bG jQ) (q1 eM (qN ?_)))))
  refine bA H (fun h18 H=>?_) (fun h18 H=>?_)
  ·refine bO H fun x20 z19 H=>(dF H fun z21 H=>(dW (dI [3] (a5 bD) (dD [40] (bG cQ) (dI [] (bI Tryz.func266 (bW fu hH _ z19)) (dI [42] (iA ([x20]:List aB) bE b6) (dE [41,43] (mJ z21 bE o6) (dI [3] (a5 bD) (nI [45,44] (bU w5) (dN ?_))))))))))
   exact dP ⟨_,(aY H:),b0⟩
  refine aP.skip ?_;exact dP ⟨_,(aY H:),b0⟩
 rintro v17 H
 refine qS (bO H fun x23 z22 H=>(dF H fun z24 H=>(dW (dI [3] (a5 bD) (dD [46] (bG cQ) (dI [1] (a5 jT) (dD [48] (bG fB) (dI [49] (bI Tryz.func266 (bW fu pa0.gName _ z22)) (dI [50] (iA ([x23]:List aB) bE b6) (dE [47,51] (mJ z24 bE o6) (dI [3] (a5 bD) (nI [53,52] (bU w5) (dN ?_)))))))))))))
 iterate 2 refine qS ?_
 refine qR (q1 aF (qN ?_))
 refine aP.fact (cO 0 2 rfl rfl rfl (aA.trs_len _)) (fun hl28=>?_)
 refine cM (σ:=(List aB)) (fun i25 v27=>⟨[(1,.ptr 0 0),(2,.ptr 1 0),(3,.ptr 2 0),(4,pN i25)],⟨[some ⟨35,dJ pa0⟩,some ⟨237,[pS s_,.nil]⟩,some ⟨237,[pS s_,dY v27 0]⟩],[⟨237,2,aB.trs (v27),false⟩]⟩⟩) (fun v27=>⟨[(2,.ptr 1 0),(3,.ptr 2 0)],⟨[some ⟨35,dJ pa0⟩,some ⟨237,[pS s_,.nil]⟩,some ⟨237,[pS s_,dY v27 0]⟩],[⟨237,2,aB.trs (v27),false⟩]⟩⟩) (gU H) ?_ ?_
 ·rintro i25 v27 H
  iterate 2 refine qS ?_
  refine qR (q1 aF (q1 (a5 fV) (q1 (bG l5) (q1 (eT dX (aA.trs_len _)) (q1 hZ (qN ?_))))))
  refine eW H (fun h29 h29l H=>?_) (fun h29 H=>?_)
  ·have h29n:=a8 h29
   refine aP.skip (qS (aP.block (bO H fun x31 z30 H=>(dF H fun z32 H=>(dW (dI [3] (a5 bD) (dD [61] (bG cQ) (dI [1] (a5 fV) (dD [63] (bG l5) (dI [4] aF (dI [64,65] (iH h29n dX) (dI [66] (j0 (aA.cs (a3 pa0.gArgs i25)) cH) (dI [67] (bI Tryz.func269 (h_sl5Sx (a3 pa0.gArgs i25) _ z30)) ?_)))))))))))))
   refine dI [68] (iA ([x31]:List aB) bE b6) (dE [62,69] (mJ z32 bE o6) (dI [3] (a5 bD) (nI [71,70] (bU w5) (dN (qR (q1 aF (q1 (aV.addI rfl rfl rfl rfl (c:=((i25+1:Nat):Int)) (by omega) (by omega)) (q1 aF (qN ?_)))))))))
   exact iY h29l ⟨_,(aY H:),b0⟩
  refine aP.exit ?_;exact lS ⟨_,H,b0⟩
 rintro v27 H
 refine qS (qR (q1 (cV [pS s_,dY v27 0] bN) (q1 (bU eA) (qN (aP.ret ?_)))))
 obtain rfl:_=r:=(aY H:)
 exact bM (hr:=⟨⟨_,_,_,rfl,rfl,bN,rfl,rfl⟩,trivial⟩)
def k7:Nat→aA→Option aB
 |0,_=>none
 |fu+1,pa0=>UO fu (k7 fu) pa0
theorem aeB(fu:Nat):MQ (k7 fu):=by
 induction fu with
 |zero=>exact(fun pa0 r H=>by simp only [k7] at H;cases H)
 |succ fu ih=>exact(fun pa0 r H=>by simp only [k7] at H;exact abH fu (k7 fu) ih pa0 r H)
theorem tR(fu:Nat):MQ (k7 fu):=(aeB fu)
abbrev s3:=aA→Int→Option Int
def DB(m:s3):Prop:= ∀(pt:aA) (pleft:Int) (r:Int),m pt pleft=some r→cE Tryz.prog 289 [(aA.pv pt),pI pleft] (pI r:PV)
def aa5(fu:Nat)(r_sl4Left:s3)(pt:aA)(pleft:Int):Nat→Int→Option (LR Int Int):=
 fun i1 v2=>sw (decide ((v2:Int)≥0))
 (bd (r_sl4Left (a3 pt.gArgs i1) v2) (fun x7=>
 some (.next x7)))
 (some (.brk v2))
def aa6(fu:Nat)(r_sl4Left:s3)(pt:aA)(pleft:Int):Option (Int⊕Int):=
 loopN (aa5 fu r_sl4Left pt pleft) (pt.gArgs.length-0) 0 (aQ (pleft-1))
def KB(fu:Nat)(r_sl4Left:s3)(pt:aA)(pleft:Int):Option Int:=
 so (aa6 fu r_sl4Left pt pleft) (fun v2=>
 some v2)
theorem UK(fu:Nat)(r_sl4Left:s3)(h_sl4Left:DB r_sl4Left):DB (KB fu r_sl4Left):=by
 intro pt pleft r H
 have H:=fI H
 refine qI Tryz.func289 (fun C hC=>?_)
 refine qS (qR (q1 (jU (dJ pt)) (q1 aF (qN (qS (qR (q1 aF (q1 AF (q1 aF (qN ?_))))))))))
 iterate 2 refine qS ?_
 refine qR (q1 aF (qN ?_))
 refine aP.fact (cO 0 2 rfl rfl rfl (aA.trs_len _)) (fun hl3=>?_)
 refine cM (σ:=Int) (fun i1 v2=>⟨[(1,pI v2),(2,.ptr 0 0),(4,pI 0),(5,pN i1)],⟨[some ⟨35,dJ pt⟩],[]⟩⟩) (fun v2=>⟨[(1,pI v2),(4,pI 0)],⟨[some ⟨35,dJ pt⟩],[]⟩⟩) (gU H) ?_ ?_
 ·rintro i1 v2 H
  iterate 2 refine qS ?_
  refine qR (q1 aF (q1 (a5 fV) (q1 (bG l5) (q1 (eT dX (aA.trs_len _)) (q1 hZ (q1 aF ?_))))))
  refine AL.splitB 13 rfl (fun g4=>?_) (fun g4=>?_)
  ·have g4l:=sH g4
   have H:=lnT g4l H
   have g4n:=a8 g4
   refine qg g4 aF (qg g4 RG (q1 (bR g4) (qN ?_)))
   refine bA H (fun h5 H=>?_) (fun h5 H=>?_)
   ·refine aP.skip (qS (aP.block (qR (q1 (a5 fV) (q1 (bG l5) (q1 aF (q1 (iH g4n dX) (q1 (j0 (aA.cs (a3 pt.gArgs i1)) cH) (q1 aF (bO H fun x7 z6 H=>(q1 (bI Tryz.func289 (h_sl4Left (a3 pt.gArgs i1) v2 _ z6)) (q1 aF (qN ?_)))))))))))))
    refine qR (q1 aF (q1 (aV.addI rfl rfl rfl rfl (c:=((i1+1:Nat):Int)) (by omega) (by omega)) (q1 aF (qN ?_))))
    exact iY g4l ⟨_,(aY H:),b0⟩
   refine aP.exit ?_;exact lpB ⟨_,(aY H:),b0⟩
  have H:=lnE (sG g4) H
  iterate 2 refine qk g4 ?_
  refine q1 (b5 g4) (qN (iX rfl (aP.exit ?_)))
  exact lS ⟨_,H,b0⟩
 rintro v2 H
 refine qS (qR ?_)
 iterate 2 refine q1 aF ?_
 refine qN (aP.ret ?_)
 obtain rfl:_=r:=(aY H:)
 exact bM
def nE:Nat→aA→Int→Option Int
 |0,_,_=>none
 |fu+1,pt,pleft=>KB fu (nE fu) pt pleft
theorem X5(fu:Nat):DB (nE fu):=by
 induction fu with
 |zero=>exact(fun pt pleft r H=>by simp only [nE] at H;cases H)
 |succ fu ih=>exact(fun pt pleft r H=>by simp only [nE] at H;exact UK fu (nE fu) ih pt pleft r H)
theorem aa8(fu:Nat):DB (nE fu):=(X5 fu)
abbrev mO:=aA→Option Int
def uY(m:mO):Prop:= ∀(pt:aA) (r:Int),m pt=some r→cE Tryz.prog 290 [(aA.pv pt)] (pI r:PV)
def QJ(fu:Nat)(r_sTypeDepth:mO)(pt:aA):Nat→Int→Option (LR Int Int):=
 fun i1 v2=>bd (r_sTypeDepth (a3 pt.gArgs i1)) (fun x6=>
 bd (H4 fu v2 (aQ (1+x6))) (fun x8=>
 some (.next x8)))
def QK(fu:Nat)(r_sTypeDepth:mO)(pt:aA):Option (Int⊕Int):=
 loopN (QJ fu r_sTypeDepth pt) (pt.gArgs.length-0) 0 0
def zT(fu:Nat)(r_sTypeDepth:mO)(pt:aA):Option Int:=
 so (QK fu r_sTypeDepth pt) (fun v2=>
 some v2)
theorem L1(fu:Nat)(r_sTypeDepth:mO)(h_sTypeDepth:uY r_sTypeDepth):uY (zT fu r_sTypeDepth):=by
 intro pt r H
 have H:=fI H
 refine qI Tryz.func290 (fun C hC=>?_)
 refine qS (qR (q1 (jU (dJ pt)) (q1 aF (qN (qS (qR (q1 aF (qN ?_))))))))
 iterate 2 refine qS ?_
 refine qR (q1 aF (qN ?_))
 refine aP.fact (cO 0 2 rfl rfl rfl (aA.trs_len _)) (fun hl3=>?_)
 refine cM (σ:=Int) (fun i1 v2=>⟨[(1,.ptr 0 0),(2,pI 0),(3,pI v2),(4,pN i1)],⟨[some ⟨35,dJ pt⟩],[]⟩⟩) (fun v2=>⟨[(2,pI 0),(3,pI v2)],⟨[some ⟨35,dJ pt⟩],[]⟩⟩) (gU H) ?_ ?_
 ·rintro i1 v2 H
  iterate 2 refine qS ?_
  refine qR (q1 aF (q1 (a5 fV) (q1 (bG l5) (q1 (eT dX (aA.trs_len _)) (q1 hZ (qN ?_))))))
  refine eW H (fun h4 h4l H=>?_) (fun h4 H=>?_)
  ·have h4n:=a8 h4
   refine aP.skip (qS (aP.block (qR (q1 aF (q1 (a5 fV) (q1 (bG l5) (q1 aF (q1 (iH h4n dX) (q1 (j0 (aA.cs (a3 pt.gArgs i1)) cH) (bO H fun x6 z5 H=>(q1 (bI Tryz.func290 (h_sTypeDepth (a3 pt.gArgs i1) _ z5)) (q1 ML (bO H fun x8 z7 H=>?_)))))))))))))
   refine q1 (bI Tryz.func242 (RJ fu v2 (aQ (1+x6)) _ z7)) (q1 aF (qN (qR (q1 aF (q1 (aV.addI rfl rfl rfl rfl (c:=((i1+1:Nat):Int)) (by omega) (by omega)) (q1 aF (qN ?_)))))))
   exact iY h4l ⟨_,(aY H:),b0⟩
  refine aP.exit ?_;exact lS ⟨_,H,b0⟩
 rintro v2 H
 refine qS (qR ?_)
 iterate 2 refine q1 aF ?_
 refine qN (aP.ret ?_)
 obtain rfl:_=r:=(aY H:)
 exact bM
def iU:Nat→aA→Option Int
 |0,_=>none
 |fu+1,pt=>zT fu (iU fu) pt
theorem OG(fu:Nat):uY (iU fu):=by
 induction fu with
 |zero=>exact(fun pt r H=>by simp only [iU] at H;cases H)
 |succ fu ih=>exact(fun pt r H=>by simp only [iU] at H;exact L1 fu (iU fu) ih pt r H)
theorem QM(fu:Nat):uY (iU fu):=(OG fu)
def ad3(m:ByteArray→Option Bool):Prop:= ∀(ps:ByteArray) (r:Bool),m ps=some r→cE Tryz.prog 153 [pS ps] (pB r:PV)
def C8(fu:Nat)(ps:ByteArray):Option Bool:=
 sw (decide (ps=fU))
 (some true)
 (some (decide (ps=fP)))
theorem O2(fu:Nat):ad3 (C8 fu):=by
 intro ps r H
 have H:=fI H
 refine qI Tryz.func153 (fun C hC=>?_)
 refine qS (qR (q1 aF (qN (qS (qR (q1 aF (q1 GS (q1 aF ?_))))))))
 refine d9 5 H (fun g1 H=>?_) fun g1 H=>?_
 ·refine qk g1 (qk g1 (q1 (bR g1) (q1 aF (qN (aP.ret ?_)))))
  obtain rfl:_=r:=(aY H:)
  exact bM
 refine qg g1 aF (qg g1 GS (q1 (b5 g1) (q1 aF (qN (aP.ret ?_)))))
 obtain rfl:_=r:=(aY H:)
 exact bM
abbrev oY:=aA→Option Bool
def DA(m:oY):Prop:= ∀(pa0:aA) (r:Bool),m pa0=some r→cE Tryz.prog 291 [(aA.pv pa0)] (pB r:PV)
def aa0(fu:Nat)(r_sl4Form:oY)(pa0:aA)(x2:Bool):Option ((Bool⊕Bool)⊕Bool):=
 sw (decide ((pa0.gKind:Int)=1))
 (some (.inr (decide ((pa0.gKind:Int)=1))))
 (some (.inr (decide ((pa0.gKind:Int)=4))))
def aaZ(fu:Nat)(r_sl4Form:oY)(pa0:aA)(x2:Bool):Option (Bool⊕Bool):=
 so (aa0 fu r_sl4Form pa0 x2) (fun v4=>
 sw (v4)
 (sw (x2)
 (some (.inr (decide ((((pa0.gArgs.length:Nat):Int):Int)=0))))
 (some (.inr false)))
 (sw (decide ((pa0.gKind:Int)=3))
 (sw (x2)
 (some (.inr (decide ((((pa0.gArgs.length:Nat):Int):Int)=1))))
 (some (.inr false)))
 (sw (decide ((pa0.gKind:Int)=2))
 (sw (x2)
 (sw (decide ((((pa0.gArgs.length:Nat):Int):Int)≤3))
 (some (.inr true))
 (bd (C8 fu pa0.gName) (fun x14=>
 sw (x14)
 (some (.inr (decide ((((pa0.gArgs.length:Nat):Int):Int)=0))))
 (some (.inr false)))))
 (bd (C8 fu pa0.gName) (fun x17=>
 sw (x17)
 (some (.inr (decide ((((pa0.gArgs.length:Nat):Int):Int)=0))))
 (some (.inr false)))))
 (some (.inl false)))))
def aa1(fu:Nat)(r_sl4Form:oY)(pa0:aA)(x2 v3:Bool):Nat→Bool→Option (LR Bool Bool):=
 fun i19 v20=>sw (v20)
 (bd (r_sl4Form (a3 pa0.gArgs i19)) (fun x25=>
 some (.next x25)))
 (some (.next false))
def aa2(fu:Nat)(r_sl4Form:oY)(pa0:aA)(x2 v3:Bool):Option (Bool⊕Bool):=
 loopN (aa1 fu r_sl4Form pa0 x2 v3) (pa0.gArgs.length-0) 0 v3
def KA(fu:Nat)(r_sl4Form:oY)(pa0:aA):Option Bool:=
 bd (dH fu pa0.gName) (fun x2=>
 so (aaZ fu r_sl4Form pa0 x2) (fun v3=>
 so (aa2 fu r_sl4Form pa0 x2 v3) (fun v20=>
 some v20)))
theorem UJ(fu:Nat)(r_sl4Form:oY)(h_sl4Form:DA r_sl4Form):DA (KA fu r_sl4Form):=by
 intro pa0 r H
 have H:=fI H
 refine qI Tryz.func291 (fun C hC=>?_)
 refine qS (qR (q1 (jU (dJ pa0)) (q1 aF (qN (qS (qR (q1 (a5 jT) (q1 (bG fB) (bO H fun x2 z1 H=>(q1 (bI Tryz.func235 (dU fu pa0.gName _ z1)) (q1 aF (qN (qS ?_)))))))))))))
 refine o7 (σ:=Bool) (fun v3=>⟨[(1,.ptr 0 0),(2,pB false),(3,pB v3)],⟨[some ⟨35,dJ pa0⟩],[]⟩⟩) (gU H) (fun H=>?_) ?_
 ·refine qS (qR (q1 (a5 lD) (q1 (bG jQ) (qN (aP.block (qS ?_))))))
  refine o7 (σ:=Bool) (fun v4=>⟨[(1,.ptr 0 0),(2,pB false),(3,pB x2),(9,pI pa0.gKind),(10,pB v4)],⟨[some ⟨35,dJ pa0⟩],[]⟩⟩) (gU H) (fun H=>?_) ?_
  ·refine qS (qR (q1 eM (q1 aF (qN ?_))))
   refine bA H (fun h5 H=>?_) (fun h5 H=>?_)
   ·refine aP.skip ?_;exact dP ⟨_,(aY H:),b0⟩
   refine qR (q1 eM (q1 aF (qN ?_)))
   exact dP ⟨_,(aY H:),b0⟩
  rintro v4 H
  refine bA H (fun h6 H=>?_) (fun h6 H=>?_)
  ·refine qR ?_
   iterate 2 refine q1 aF ?_
   refine d9 14 H (fun g7 H=>?_) fun g7 H=>?_
   ·refine qg g7 (a5 fV) (qg g7 (bG l5) (qg g7 (eT dX (aA.trs_len _)) (qg g7 eM (q1 (bR g7) (q1 aF (qN ?_))))))
    exact dP ⟨_,(aY H:),b0⟩
   iterate 4 refine qk g7 ?_
   refine q1 (b5 g7) (q1 aF (qN ?_))
   exact dP ⟨_,(aY H:),b0⟩
  refine qS (qR (q1 eM (q1 aF (qN ?_))))
  refine bA H (fun h8 H=>?_) (fun h8 H=>?_)
  ·refine qR ?_
   iterate 2 refine q1 aF ?_
   refine d9 23 H (fun g9 H=>?_) fun g9 H=>?_
   ·refine qg g9 (a5 fV) (qg g9 (bG l5) (qg g9 (eT dX (aA.trs_len _)) (qg g9 eM (q1 (bR g9) (q1 aF (qN ?_))))))
    exact dP ⟨_,(aY H:),b0⟩
   iterate 4 refine qk g9 ?_
   refine q1 (b5 g9) (q1 aF (qN ?_))
   exact dP ⟨_,(aY H:),b0⟩
  refine qS (qR (q1 eM (q1 aF (qN ?_))))
  refine bA H (fun h10 H=>?_) (fun h10 H=>?_)
  ·refine qR ?_
   iterate 2 refine q1 aF ?_
   refine d9 32 H (fun g11 H=>?_) fun g11 H=>?_
   ·refine qg g11 (a5 fV) (qg g11 (bG l5) (qg g11 (eT dX (aA.trs_len _)) (qg g11 rLe (q1 (bR g11) (q1 aF ?_)))))
    refine d9 38 H (fun g12 H=>?_) fun g12 H=>?_
    ·refine qk g12 ?_
     iterate 3 refine qk g12 ?_
     iterate 4 refine GR ?_
     refine qk g12 (q1 (bR g12) (q1 aF (qN ?_)))
     exact dP ⟨_,(aY H:),b0⟩
    refine qg g12 (a5 jT) (qg g12 (bG fB) (bO H fun x14 z13 H=>(qg g12 (bI Tryz.func153 (O2 fu pa0.gName _ z13)) (qg g12 aF ?_))))
    refine d9 42 H (fun g15 H=>?_) fun g15 H=>?_
    ·refine qg g15 (a5 fV) (qg g15 (bG l5) (qg g15 (eT dX (aA.trs_len _)) (qg g15 eM (qg g12 (bR g15) (q1 (b5 g12) (q1 aF (qN ?_)))))))
     exact dP ⟨_,(aY H:),b0⟩
    iterate 4 refine qk g15 ?_
    refine qg g12 (b5 g15) (q1 (b5 g12) (q1 aF (qN ?_)))
    exact dP ⟨_,(aY H:),b0⟩
   iterate 4 refine qk g11 ?_
   refine q1 (b5 g11) (q1 aF (qg rfl (a5 jT) (qg rfl (bG fB) (bO H fun x17 z16 H=>(qg rfl (bI Tryz.func153 (O2 fu pa0.gName _ z16)) (qg rfl aF ?_))))))
   refine d9 42 H (fun g18 H=>?_) fun g18 H=>?_
   ·refine qg g18 (a5 fV) (qg g18 (bG l5) (qg g18 (eT dX (aA.trs_len _)) (qg g18 eM (qg rfl (bR g18) (q1 (b5 rfl) (q1 aF (qN ?_)))))))
    exact dP ⟨_,(aY H:),b0⟩
   iterate 4 refine qk g18 ?_
   refine qg rfl (b5 g18) (q1 (b5 rfl) (q1 aF (qN ?_)))
   exact dP ⟨_,(aY H:),b0⟩
  refine qS (qR (q1 aF (qN (aP.ret ?_))))
  obtain rfl:_=r:=(EH (aY H):)
  exact bM
 rintro v3 H
 iterate 2 refine qS ?_
 refine qR (q1 aF (qN ?_))
 refine aP.fact (cO 0 2 rfl rfl rfl (aA.trs_len _)) (fun hl21=>?_)
 refine cM (σ:=Bool) (fun i19 v20=>⟨[(1,.ptr 0 0),(2,pB false),(3,pB v20),(4,pN i19)],⟨[some ⟨35,dJ pa0⟩],[]⟩⟩) (fun v20=>⟨[(2,pB false),(3,pB v20)],⟨[some ⟨35,dJ pa0⟩],[]⟩⟩) (gU H) ?_ ?_
 ·rintro i19 v20 H
  iterate 2 refine qS ?_
  refine qR (q1 aF (q1 (a5 fV) (q1 (bG l5) (q1 (eT dX (aA.trs_len _)) (q1 hZ (qN ?_))))))
  refine eW H (fun h22 h22l H=>?_) (fun h22 H=>?_)
  ·have h22n:=a8 h22
   refine aP.skip (qS (aP.block (qR ?_)))
   iterate 2 refine q1 aF ?_
   refine d9 57 H (fun g23 H=>?_) fun g23 H=>?_
   ·refine qg g23 (a5 fV) (qg g23 (bG l5) (qg g23 aF (qg g23 (iH h22n dX) (qg g23 (j0 (aA.cs (a3 pa0.gArgs i19)) cH) (bO H fun x25 z24 H=>(qg g23 (bI Tryz.func291 (h_sl4Form (a3 pa0.gArgs i19) _ z24)) (q1 (bR g23) (q1 aF (qN (qR (q1 aF (q1 (aV.addI rfl rfl rfl rfl (c:=((i19+1:Nat):Int)) (by omega) (by omega)) (q1 aF ?_)))))))))))))
    refine qN ?_;exact iY h22l ⟨_,(aY H:),b0⟩
   iterate 6 refine qk g23 ?_
   refine q1 (b5 g23) (q1 aF (qN (qR (q1 aF (q1 (aV.addI rfl rfl rfl rfl (c:=((i19+1:Nat):Int)) (by omega) (by omega)) (q1 aF (qN ?_)))))))
   exact iY h22l ⟨_,(aY H:),b0⟩
  refine aP.exit ?_;exact lS ⟨_,H,b0⟩
 rintro v20 H
 refine qS (qR ?_)
 iterate 2 refine q1 aF ?_
 refine qN (aP.ret ?_)
 obtain rfl:_=r:=(aY H:)
 exact bM
def nD:Nat→aA→Option Bool
 |0,_=>none
 |fu+1,pa0=>KA fu (nD fu) pa0
theorem X4(fu:Nat):DA (nD fu):=by
 induction fu with
 |zero=>exact(fun pa0 r H=>by simp only [nD] at H;cases H)
 |succ fu ih=>exact(fun pa0 r H=>by simp only [nD] at H;exact UJ fu (nD fu) ih pa0 r H)
theorem aa4(fu:Nat):DA (nD fu):=(X4 fu)
def N5(m:aA→Option Bool):Prop:= ∀(pt:aA) (r:Bool),m pt=some r→cE Tryz.prog 284 [(aA.pv pt)] (pB r:PV)
def jA(fu:Nat)(pt:aA):Option Bool:=
 bd (nE fu pt 60) (fun x2=>
 sw (decide ((x2:Int)≥0))
 (bd (iU fu pt) (fun x5=>
 sw (decide ((x5:Int)≤6))
 (bd (nD fu pt) (fun x8=>
 some x8))
 (some false)))
 (some false))
theorem kJ(fu:Nat):N5 (jA fu):=by
 intro pt r H
 have H:=fI H
 refine qI Tryz.func284 (fun C hC=>?_)
 refine qS (qR (q1 (jU (dJ pt)) (q1 aF (qN (qS (qR (q1 (cV [pI pt.gKind,pS pt.gName,a4 pt.gArgs] cH) (bO H fun x2 z1 H=>(q1 (bI Tryz.func289 (aa8 fu pt 60 _ z1)) (q1 RG (q1 aF ?_)))))))))))
 refine d9 6 H (fun g3 H=>?_) fun g3 H=>?_
 ·refine qg g3 (cV [pI pt.gKind,pS pt.gName,a4 pt.gArgs] cH) (bO H fun x5 z4 H=>(qg g3 (bI Tryz.func290 (QM fu pt _ z4)) (qg g3 rLe (q1 (bR g3) (q1 aF ?_)))))
  refine d9 11 H (fun g6 H=>?_) fun g6 H=>?_
  ·refine qg g6 (cV [pI pt.gKind,pS pt.gName,a4 pt.gArgs] cH) (bO H fun x8 z7 H=>(qg g6 (bI Tryz.func291 (aa4 fu pt _ z7)) (q1 (bR g6) (q1 aF (qN (aP.ret ?_))))))
   obtain rfl:_=r:=(aY H:)
   exact bM
  iterate 2 refine qk g6 ?_
  refine q1 (b5 g6) (q1 aF (qN (aP.ret ?_)))
  obtain rfl:_=r:=(aY H:)
  exact bM
 iterate 3 refine qk g3 ?_
 refine q1 (b5 g3) (q1 aF ?_)
 iterate 2 refine qk rfl ?_
 refine q1 (b5 rfl) (q1 aF (qN (aP.ret ?_)))
 obtain rfl:_=r:=(aY H:)
 exact bM
abbrev iR:=aA→aA→Option Bool
abbrev nF:=(List aA)→(List aA)→Option Bool
def rJ(m:iR):Prop:= ∀(pa:aA) (pb:aA) (r:Bool),m pa pb=some r→cE Tryz.prog 16 [(aA.pv pa),(aA.pv pb)] (pB r:PV)
def DE(m:nF):Prop:= ∀(pa:List aA) (pb:List aA) (r:Bool),m pa pb=some r→cE Tryz.prog 66 [a4 pa,a4 pb] (pB r:PV)
def uX(fu:Nat)(r_sEqualType:iR)(r_sl4Same:nF)(pa pb:aA):Option Bool:=
 sw (decide ((pa.gKind:Int)=pb.gKind))
 (sw (decide (pa.gName=pb.gName))
 (bd (r_sl4Same pa.gArgs pb.gArgs) (fun x4=>
 some x4))
 (some false))
 (some false)
theorem LJ(fu:Nat)(r_sEqualType:iR)(r_sl4Same:nF)(h_sEqualType:rJ r_sEqualType)(h_sl4Same:DE r_sl4Same):rJ (uX fu r_sEqualType r_sl4Same):=by
 intro pa pb r H
 have H:=fI H
 refine qI Tryz.func16 (fun C hC=>?_)
 refine qS (qR (q1 (jU (dJ pa)) (q1 (jU (dJ pb)) (q1 aF (qN (qS (qR (q1 (a5 lD) (q1 (bG jQ) (q1 (a5 lD) (q1 (bG jQ) (q1 eM (q1 aF ?_)))))))))))))
 refine d9 10 H (fun g1 H=>?_) fun g1 H=>?_
 ·refine qg g1 (a5 jT) (qg g1 (bG fB) (qg g1 (a5 jT) (qg g1 (bG fB) (qg g1 GS (q1 (bR g1) (q1 aF ?_))))))
  refine d9 17 H (fun g2 H=>?_) fun g2 H=>?_
  ·refine qg g2 (a5 fV) (qg g2 (bG l5) (qg g2 (a5 fV) (qg g2 (bG l5) (bO H fun x4 z3 H=>(qg g2 (bI Tryz.func66 (h_sl4Same pa.gArgs pb.gArgs _ z3)) (q1 (bR g2) (q1 aF (qN (aP.ret ?_)))))))))
   obtain rfl:_=r:=(aY H:)
   exact bM
  iterate 5 refine qk g2 ?_
  refine q1 (b5 g2) (q1 aF (qN (aP.ret ?_)))
  obtain rfl:_=r:=(aY H:)
  exact bM
 iterate 5 refine qk g1 ?_
 refine q1 (b5 g1) (q1 aF ?_)
 iterate 5 refine qk rfl ?_
 refine q1 (b5 rfl) (q1 aF (qN (aP.ret ?_)))
 obtain rfl:_=r:=(aY H:)
 exact bM
def GN(fu:Nat)(r_sEqualType:iR)(r_sl4Same:nF)(pa pb:List aA):Nat→Unit→Option (LR Unit Bool):=
 fun i2 _=>gd (i2<(pb).length)
 (bd (r_sEqualType (a3 pa i2) (a3 pb i2)) (fun x7=>
 sw (!(x7))
 (some (.ret false))
 (some (.next ()))))
def GO(fu:Nat)(r_sEqualType:iR)(r_sl4Same:nF)(pa pb:List aA):Option (Bool⊕Unit):=
 loopN (GN fu r_sEqualType r_sl4Same pa pb) (pa.length-0) 0 ()
def yY(fu:Nat)(r_sEqualType:iR)(r_sl4Same:nF)(pa pb:List aA):Option Bool:=
 sw (!decide ((((pa.length:Nat):Int):Int)=((pb.length:Nat):Int)))
 (some false)
 (so (GO fu r_sEqualType r_sl4Same pa pb) (fun _=>
 some true))
theorem UL(fu:Nat)(r_sEqualType:iR)(r_sl4Same:nF)(h_sEqualType:rJ r_sEqualType)(h_sl4Same:DE r_sl4Same):DE (yY fu r_sEqualType r_sl4Same):=by
 intro pa pb r H
 have H:=fI H
 refine qI Tryz.func66 (fun C hC=>?_)
 refine qS (qR (q1 aF (qN ?_)))
 iterate 2 refine qS ?_
 refine qR (q1 aF (q1 (eT dX (aA.trs_len _)) (q1 aF (q1 (eT dX (aA.trs_len _)) (q1 MM (qN ?_))))))
 refine bA H (fun h1 H=>?_) (fun h1 H=>?_)
 ·refine qS (qR (q1 aF (qN (aP.ret ?_))))
  obtain rfl:_=r:=(aY H:)
  exact bM
 refine aP.skip ?_
 iterate 2 refine qS ?_
 refine qR (q1 aF (qN ?_))
 refine lR 0 (aA.trs_len _) (fun hl3=>?_)
 refine cM (σ:=Unit) (fun i2 _=>⟨[(0,a4 pa),(1,a4 pb),(4,pB false),(5,pN i2)],⟨[],[]⟩⟩) (fun _=>⟨[(4,pB false)],⟨[],[]⟩⟩) (gU H) ?_ ?_
 ·rintro i2 ⟨⟩ H
  iterate 2 refine qS ?_
  refine qR ?_
  iterate 2 refine q1 aF ?_
  refine q1 (eT dX (aA.trs_len _)) (q1 hZ (qN ?_))
  refine eW H (fun h4 h4l H=>?_) (fun h4 H=>?_)
  ·have h4n:=a8 h4
   refine aP.skip (qS (aP.block (qS (dF H fun z5 H=>(bO H fun x7 z6 H=>(dW (dI [0] aF (dI [5] aF (dI [17,18] (iH h4n dX) (dI [19] (j0 (aA.cs (a3 pa i2)) cH) (dI [1] aF (dI [5] aF (dI [21,22] (iH z5 dX) ?_)))))))))))))
   refine dI [23] (j0 (aA.cs (a3 pb i2)) cH) (dI [20,24] (bI Tryz.func16 (h_sEqualType (a3 pa i2) (a3 pb i2) _ z6)) (dI [25] gT (dN ?_)))
   refine bA H (fun h8 H=>?_) (fun h8 H=>?_)
   ·refine qS (qR (q1 aF (qN (aP.ret ?_))))
    obtain rfl:_=r:=(rG (aY H):)
    exact bM
   refine aP.skip (qR (q1 aF (q1 (aV.addI rfl rfl rfl rfl (c:=((i2+1:Nat):Int)) (by omega) (by omega)) (q1 aF (qN ?_)))))
   exact iY h4l ⟨_,(aY H:),b0⟩
  refine aP.exit ?_;exact lS ⟨_,H,b0⟩
 rintro⟨⟩ H
 refine qS (qR (q1 aF (qN (aP.ret ?_))))
 obtain rfl:_=r:=(aY H:)
 exact bM
mutual
def eY:Nat→aA→aA→Option Bool
 |0,_,_=>none
 |fu+1,pa,pb=>uX fu (eY fu) (jH fu) pa pb
def jH:Nat→(List aA)→(List aA)→Option Bool
 |0,_,_=>none
 |fu+1,pa,pb=>yY fu (eY fu) (jH fu) pa pb
end
theorem N0(fu:Nat):rJ (eY fu)∧DE (jH fu):=by
 induction fu with
 |zero=>exact⟨(fun pa pb r H=>by simp only [eY] at H;cases H),(fun pa pb r H=>by simp only [jH] at H;cases H)⟩
 |succ fu ih=>exact⟨(fun pa pb r H=>by simp only [eY] at H;exact LJ fu (eY fu) (jH fu) ih.1 ih.2 pa pb r H),(fun pa pb r H=>by simp only [jH] at H;exact UL fu (eY fu) (jH fu) ih.1 ih.2 pa pb r H)⟩
theorem EP(fu:Nat):rJ (eY fu):=(N0 fu).1
abbrev qW:=aA→(List ByteArray)→Option ((List ByteArray))
def DF(m:qW):Prop:= ∀(pt:aA) (pout:List ByteArray) (r:(List ByteArray)),m pt pout=some r→cY Tryz.prog 176 [(aA.pv pt),aS pout 0] ⟨[],[⟨9,1,aW (pout),false⟩]⟩ (fun q t=>q=(aS r 0:PV)∧t=⟨[],[⟨9,1,aW (r),false⟩]⟩)
def abC(fu:Nat)(r_sl4Vars:qW)(pt:aA)(pout:List ByteArray):Option (((List ByteArray))⊕((List ByteArray))):=
 sw (decide ((pt.gKind:Int)=1))
 (bd (l7 fu pout pt.gName) (fun x5=>
 sw (!(x5))
 (gd ((pout).length+(([pt.gName]:List ByteArray)).length≤68719476736)
 (some (.inr (pout++([pt.gName]:List ByteArray)))))
 (some (.inr pout))))
 (some (.inr pout))
def abD(fu:Nat)(r_sl4Vars:qW)(pt:aA)(pout v2:List ByteArray):Nat→((List ByteArray))→Option (LR ((List ByteArray)) ((List ByteArray))):=
 fun i8 v10=>bd (r_sl4Vars (a3 pt.gArgs i8) v10) (fun x14=>
 some (.next x14))
def abE(fu:Nat)(r_sl4Vars:qW)(pt:aA)(pout v2:List ByteArray):Option (((List ByteArray))⊕((List ByteArray))):=
 loopN (abD fu r_sl4Vars pt pout v2) (pt.gArgs.length-0) 0 v2
def KC(fu:Nat)(r_sl4Vars:qW)(pt:aA)(pout:List ByteArray):Option ((List ByteArray)):=
 so (abC fu r_sl4Vars pt pout) (fun v2=>
 so (abE fu r_sl4Vars pt pout v2) (fun v10=>
 some v10))
theorem UN(fu:Nat)(r_sl4Vars:qW)(h_sl4Vars:DF r_sl4Vars):DF (KC fu r_sl4Vars):=by
 intro pt pout r H
 have H:=fI H
 refine qI Tryz.func176 (fun C hC=>?_)
 refine qS (qR (q1 (jU (dJ pt)) (q1 aF (qN (qS ?_)))))
 refine o7 (σ:=(List ByteArray)) (fun v2=>⟨[(1,aS v2 0),(2,.ptr 0 0),(4,.nil)],⟨[some ⟨35,dJ pt⟩],[⟨9,1,aW (v2),false⟩]⟩⟩) (gU H) (fun H=>?_) ?_
 ·refine qS (qR (q1 (a5 lD) (q1 (bG jQ) (q1 eM (q1 aF ?_)))))
  refine d9 9 H (fun g3 H=>?_) fun g3 H=>?_
  ·refine qg g3 aF (qg g3 (a5 jT) (qg g3 (bG fB) (bO H fun x5 z4 H=>(qg g3 (bI Tryz.func125 (l8 fu pout pt.gName _ z4)) (qg g3 gT (q1 (bR g3) (qN ?_)))))))
   refine bA H (fun h6 H=>?_) (fun h6 H=>?_)
   ·refine qR (q1 aF (q1 (a5 jT) (q1 (bG fB) (q1 (iA ([pt.gName]:List ByteArray) b3 lA) (dF H fun z7 H=>(q1 (mJ z7 b3 rT) (q1 aF (qN ?_))))))))
    exact dP ⟨_,(aY H:),b0⟩
   refine aP.skip ?_;exact dP ⟨_,(aY H:),b0⟩
  iterate 5 refine qk g3 ?_
  refine q1 (b5 g3) (qN (iX rfl (aP.skip ?_)))
  exact dP ⟨_,(aY H:),b0⟩
 rintro v2 H
 iterate 2 refine qS ?_
 refine qR (q1 aF (qN ?_))
 refine aP.fact (cO 0 2 rfl rfl rfl (aA.trs_len _)) (fun hl11=>?_)
 refine cM (σ:=(List ByteArray)) (fun i8 v10=>⟨[(1,aS v10 0),(2,.ptr 0 0),(4,.nil),(5,pN i8)],⟨[some ⟨35,dJ pt⟩],[⟨9,1,aW (v10),false⟩]⟩⟩) (fun v10=>⟨[(1,aS v10 0),(4,.nil)],⟨[some ⟨35,dJ pt⟩],[⟨9,1,aW (v10),false⟩]⟩⟩) (gU H) ?_ ?_
 ·rintro i8 v10 H
  iterate 2 refine qS ?_
  refine qR (q1 aF (q1 (a5 fV) (q1 (bG l5) (q1 (eT dX (aA.trs_len _)) (q1 hZ (qN ?_))))))
  refine eW H (fun h12 h12l H=>?_) (fun h12 H=>?_)
  ·have h12n:=a8 h12
   refine aP.skip (qS (aP.block (qR (q1 (a5 fV) (q1 (bG l5) (q1 aF (q1 (iH h12n dX) (q1 (j0 (aA.cs (a3 pt.gArgs i8)) cH) (q1 aF (bO H fun x14 z13 H=>(q1 (f7 [] [0] Tryz.func176 (h_sl4Vars (a3 pt.gArgs i8) v10 _ z13)) (q1 aF (qN ?_)))))))))))))
   refine qR (q1 aF (q1 (aV.addI rfl rfl rfl rfl (c:=((i8+1:Nat):Int)) (by omega) (by omega)) (q1 aF (qN ?_))))
   exact iY h12l ⟨_,(aY H:),b0⟩
  refine aP.exit ?_;exact lS ⟨_,H,b0⟩
 rintro v10 H
 refine qS (qR ?_)
 iterate 2 refine q1 aF ?_
 refine qN (aP.ret ?_)
 obtain rfl:_=r:=(aY H:)
 exact bM
def nG:Nat→aA→(List ByteArray)→Option ((List ByteArray))
 |0,_,_=>none
 |fu+1,pt,pout=>KC fu (nG fu) pt pout
theorem X6(fu:Nat):DF (nG fu):=by
 induction fu with
 |zero=>exact(fun pt pout r H=>by simp only [nG] at H;cases H)
 |succ fu ih=>exact(fun pt pout r H=>by simp only [nG] at H;exact UN fu (nG fu) ih pt pout r H)
theorem abG(fu:Nat):DF (nG fu):=(X6 fu)
def JW(m:aA→Option ((List ByteArray))):Prop:= ∀(pt:aA) (r:(List ByteArray)),m pt=some r→cE Tryz.prog 138 [(aA.pv pt)] (rS r:PV)
def sN(fu:Nat)(pt:aA):Option ((List ByteArray)):=
 bd (nG fu pt ([])) (fun x2=>
 some x2)
theorem HX(fu:Nat):JW (sN fu):=by
 intro pt r H
 have H:=fI H
 refine qI Tryz.func138 (fun C hC=>?_)
 refine qS (qR (q1 (jU (dJ pt)) (q1 aF (qN (qS (qR (q1 (cV [pI pt.gKind,pS pt.gName,a4 pt.gArgs] cH) (q1 (t2 ([]:List ByteArray) b3 lA) (bO H fun x2 z1 H=>(q1 (f7 [] [0] Tryz.func176 (abG fu pt ([]) _ z1)) (q1 aF (qN (aP.ret ?_)))))))))))))
 obtain rfl:_=r:=(aY H:)
 exact bM
abbrev iI:=aA→Option Bool
def oQ(m:iI):Prop:= ∀(pt:aA) (r:Bool),m pt=some r→cE Tryz.prog 139 [(aA.pv pt)] (pB r:PV)
def HS(fu:Nat)(r_sHasProjection:iI)(pt:aA):Nat→Unit→Option (LR Unit Bool):=
 fun i1 _=>bd (r_sHasProjection (a3 pt.gArgs i1)) (fun x5=>
 sw (x5)
 (some (.ret true))
 (some (.next ())))
def HT(fu:Nat)(r_sHasProjection:iI)(pt:aA):Option (Bool⊕Unit):=
 loopN (HS fu r_sHasProjection pt) (pt.gArgs.length-0) 0 ()
def sM(fu:Nat)(r_sHasProjection:iI)(pt:aA):Option Bool:=
 so (HT fu r_sHasProjection pt) (fun _=>
 some (decide ((pt.gKind:Int)=3)))
theorem DP(fu:Nat)(r_sHasProjection:iI)(h_sHasProjection:oQ r_sHasProjection):oQ (sM fu r_sHasProjection):=by
 intro pt r H
 have H:=fI H
 refine qI Tryz.func139 (fun C hC=>?_)
 refine qS (qR (q1 (jU (dJ pt)) (q1 aF (qN ?_))))
 iterate 2 refine qS ?_
 refine qR (q1 aF (qN ?_))
 refine aP.fact (cO 0 2 rfl rfl rfl (aA.trs_len _)) (fun hl2=>?_)
 refine cM (σ:=Unit) (fun i1 _=>⟨[(1,.ptr 0 0),(2,pB false),(3,pN i1)],⟨[some ⟨35,dJ pt⟩],[]⟩⟩) (fun _=>⟨[(1,.ptr 0 0),(2,pB false)],⟨[some ⟨35,dJ pt⟩],[]⟩⟩) (gU H) ?_ ?_
 ·rintro i1 ⟨⟩ H
  iterate 2 refine qS ?_
  refine qR (q1 aF (q1 (a5 fV) (q1 (bG l5) (q1 (eT dX (aA.trs_len _)) (q1 hZ (qN ?_))))))
  refine eW H (fun h3 h3l H=>?_) (fun h3 H=>?_)
  ·have h3n:=a8 h3
   refine aP.skip (qS (aP.block (qS (qR (q1 (a5 fV) (q1 (bG l5) (q1 aF (q1 (iH h3n dX) (q1 (j0 (aA.cs (a3 pt.gArgs i1)) cH) (bO H fun x5 z4 H=>(q1 (bI Tryz.func139 (h_sHasProjection (a3 pt.gArgs i1) _ z4)) (qN ?_))))))))))))
   refine bA H (fun h6 H=>?_) (fun h6 H=>?_)
   ·refine qS (qR (q1 aF (qN (aP.ret ?_))))
    obtain rfl:_=r:=(rG (aY H):)
    exact bM
   refine aP.skip (qR (q1 aF (q1 (aV.addI rfl rfl rfl rfl (c:=((i1+1:Nat):Int)) (by omega) (by omega)) (q1 aF (qN ?_)))))
   exact iY h3l ⟨_,(aY H:),b0⟩
  refine aP.exit ?_;exact lS ⟨_,H,b0⟩
 rintro⟨⟩ H
 refine qS (qR (q1 (a5 lD) (q1 (bG jQ) (q1 eM (q1 aF (qN (aP.ret ?_)))))))
 obtain rfl:_=r:=(aY H:)
 exact bM
def eS:Nat→aA→Option Bool
 |0,_=>none
 |fu+1,pt=>sM fu (eS fu) pt
theorem FX(fu:Nat):oQ (eS fu):=by
 induction fu with
 |zero=>exact(fun pt r H=>by simp only [eS] at H;cases H)
 |succ fu ih=>exact(fun pt r H=>by simp only [eS] at H;exact DP fu (eS fu) ih pt r H)
theorem wO(fu:Nat):oQ (eS fu):=(FX fu)
abbrev eU:=aA→ByteArray→Option Int
def kU(m:eU):Prop:= ∀(pt:aA) (pv:ByteArray) (r:Int),m pt pv=some r→cE Tryz.prog 211 [(aA.pv pt),pS pv] (pI r:PV)
def AR(fu:Nat)(r_sCountTypeVariable:eU)(pt:aA)(pv:ByteArray):Option (Int⊕Int):=
 sw (decide ((pt.gKind:Int)=1))
 (sw (decide (pt.gName=pv))
 (some (.inr 1))
 (some (.inr 0)))
 (some (.inr 0))
def AT(fu:Nat)(r_sCountTypeVariable:eU)(pt:aA)(pv:ByteArray)(v1:Int):Nat→Int→Option (LR Int Int):=
 fun i4 v5=>bd (r_sCountTypeVariable (a3 pt.gArgs i4) pv) (fun x9=>
 some (.next (aQ (v5+x9))))
def AU(fu:Nat)(r_sCountTypeVariable:eU)(pt:aA)(pv:ByteArray)(v1:Int):Option (Int⊕Int):=
 loopN (AT fu r_sCountTypeVariable pt pv v1) (pt.gArgs.length-0) 0 v1
def n4(fu:Nat)(r_sCountTypeVariable:eU)(pt:aA)(pv:ByteArray):Option Int:=
 so (AR fu r_sCountTypeVariable pt pv) (fun v1=>
 so (AU fu r_sCountTypeVariable pt pv v1) (fun v5=>
 some v5))
theorem yR(fu:Nat)(r_sCountTypeVariable:eU)(h_sCountTypeVariable:kU r_sCountTypeVariable):kU (n4 fu r_sCountTypeVariable):=by
 intro pt pv r H
 have H:=fI H
 refine qI Tryz.func211 (fun C hC=>?_)
 refine qS (qR (q1 (jU (dJ pt)) (q1 aF (qN (qS (qR (q1 aF (qN (qS ?_)))))))))
 refine o7 (σ:=Int) (fun v1=>⟨[(1,pS pv),(2,.ptr 0 0),(4,pI 0),(5,pI v1)],⟨[some ⟨35,dJ pt⟩],[]⟩⟩) (gU H) (fun H=>?_) ?_
 ·refine qS (qR (q1 (a5 lD) (q1 (bG jQ) (q1 eM (q1 aF ?_)))))
  refine d9 10 H (fun g2 H=>?_) fun g2 H=>?_
  ·refine qg g2 (a5 jT) (qg g2 (bG fB) (qg g2 aF (qg g2 GS (q1 (bR g2) (qN ?_)))))
   refine bA H (fun h3 H=>?_) (fun h3 H=>?_)
   ·refine qR (q1 aF (qN ?_))
    exact dP ⟨_,(aY H:),b0⟩
   refine aP.skip ?_;exact dP ⟨_,(aY H:),b0⟩
  iterate 4 refine qk g2 ?_
  refine q1 (b5 g2) (qN (iX rfl (aP.skip ?_)))
  exact dP ⟨_,(aY H:),b0⟩
 rintro v1 H
 iterate 2 refine qS ?_
 refine qR (q1 aF (qN ?_))
 refine aP.fact (cO 0 2 rfl rfl rfl (aA.trs_len _)) (fun hl6=>?_)
 refine cM (σ:=Int) (fun i4 v5=>⟨[(1,pS pv),(2,.ptr 0 0),(4,pI 0),(5,pI v5),(6,pN i4)],⟨[some ⟨35,dJ pt⟩],[]⟩⟩) (fun v5=>⟨[(4,pI 0),(5,pI v5)],⟨[some ⟨35,dJ pt⟩],[]⟩⟩) (gU H) ?_ ?_
 ·rintro i4 v5 H
  iterate 2 refine qS ?_
  refine qR (q1 aF (q1 (a5 fV) (q1 (bG l5) (q1 (eT dX (aA.trs_len _)) (q1 hZ (qN ?_))))))
  refine eW H (fun h7 h7l H=>?_) (fun h7 H=>?_)
  ·have h7n:=a8 h7
   refine aP.skip (qS (aP.block (qR (q1 aF (q1 (a5 fV) (q1 (bG l5) (q1 aF (q1 (iH h7n dX) (q1 (j0 (aA.cs (a3 pt.gArgs i4)) cH) (q1 aF (bO H fun x9 z8 H=>(q1 (bI Tryz.func211 (h_sCountTypeVariable (a3 pt.gArgs i4) pv _ z8)) (q1 ML ?_)))))))))))))
   refine q1 aF (qN (qR (q1 aF (q1 (aV.addI rfl rfl rfl rfl (c:=((i4+1:Nat):Int)) (by omega) (by omega)) (q1 aF (qN ?_))))))
   exact iY h7l ⟨_,(aY H:),b0⟩
  refine aP.exit ?_;exact lS ⟨_,H,b0⟩
 rintro v5 H
 refine qS (qR ?_)
 iterate 2 refine q1 aF ?_
 refine qN (aP.ret ?_)
 obtain rfl:_=r:=(aY H:)
 exact bM
def dO:Nat→aA→ByteArray→Option Int
 |0,_,_=>none
 |fu+1,pt,pv=>n4 fu (dO fu) pt pv
theorem zQ(fu:Nat):kU (dO fu):=by
 induction fu with
 |zero=>exact(fun pt pv r H=>by simp only [dO] at H;cases H)
 |succ fu ih=>exact(fun pt pv r H=>by simp only [dO] at H;exact yR fu (dO fu) ih pt pv r H)
theorem AW(fu:Nat):kU (dO fu):=(zQ fu)
def V0(m:ByteArray→aA→Option Bool):Prop:= ∀(pv:ByteArray) (pt:aA) (r:Bool),m pv pt=some r→cE Tryz.prog 200 [pS pv,(aA.pv pt)] (pB r:PV)
def BV(fu:Nat)(pv:ByteArray)(pt:aA):Option Bool:=
 bd (dO fu pt pv) (fun x2=>
 some (decide ((x2:Int)>0)))
theorem SV(fu:Nat):V0 (BV fu):=by
 intro pv pt r H
 have H:=fI H
 refine qI Tryz.func200 (fun C hC=>?_)
 refine qS (qR (q1 (jU (dJ pt)) (q1 aF (qN (qS (qR (q1 (cV [pI pt.gKind,pS pt.gName,a4 pt.gArgs] cH) (q1 aF (bO H fun x2 z1 H=>(q1 (bI Tryz.func211 (AW fu pt pv _ z1)) (q1 IB (q1 aF (qN ?_)))))))))))))
 refine aP.ret ?_
 obtain rfl:_=r:=(aY H:)
 exact bM
end
end Go.Proofs.YtpioomclpaiomaaGreat.W
