/- Words, rules and walks of several kinds, laid together: Pg, Ph, PgD, PgS, PmQ, MaP1, MaP2. No conditions but those that each theorem states. -/
import Derived.Test.YtpioomclpaiomaaGreatQh5e29f3dd
import Derived.Test.YtpioomclpaiomaaGreatQh484d5f53
import Derived.Laws.BytesArg
set_option linter.unusedSimpArgs false
set_option linter.unusedVariables false
namespace Go.Proofs.YtpioomclpaiomaaGreat
set_option linter.unusedSimpArgs false
set_option linter.unusedVariables false
open Go.RowKit Go.WalkArith Go.IntWalk Go.WideShapes
abbrev pI(x:Int):PV:= .t (.leaf (.int .i64 x))
abbrev pN(x:Nat):PV:= .t (.leaf (.int .i64 (x:Int)))
abbrev pU(x:UInt8):PV:= .t (.leaf (.int .u8 (x.toNat:Int)))
abbrev pS(x:ByteArray):PV:= .t (.leaf (.string x))
abbrev pB(x:Bool):PV:= .t (.leaf (.bool x))
abbrev rS(l:List ByteArray):PV:= .t (.row 1 (aX l))
abbrev rU(l:List UInt8):PV:= .t (.row 1 (cL l))
abbrev aS(l:List ByteArray)(r:Nat):PV:= .acc 1 (aX l) r
abbrev dC(d:DS):List PV:= [.t (.row 1 (cL d.code)),.t (.leaf (.int .i64 (d.p:Int))),.t (.leaf (.int .i64 d.h))]
class TC (α:Type) [Inhabited α] where
 cs:α→List Tr
 trs:List α→List (List Tr)
 sz:Nat
 at_: ∀ {l:List α} {k:Nat},k<l.length→(trs l)[k]?=some (cs (a5 l k))
 len: ∀l:List α,(trs l).length=l.length
 map: ∀l:List α,trs l=l.map cs
 csz: ∀a,(cs a).length=sz
instance:TC ByteArray:=⟨fun x=> [.leaf (.string x)],aX,1,acY,bE,fun _=>rfl,fun _=>rfl⟩
instance:TC Int:=⟨fun x=> [.leaf (.int .i64 x)],nG,1,ac6,fT,fun _=>rfl,fun _=>rfl⟩
instance:TC UInt8:=⟨fun x=> [.leaf (.int .u8 (x.toNat:Int))],cL,1,ZA,fV,fun _=>rfl,fun _=>rfl⟩
section
variable {α:Type} [Inhabited α] [TC α]
theorem TC.all(l:List α): ∀e∈TC.trs l,e.length=TC.sz α:=fun e he=>by
 rw [TC.map] at he
 obtain⟨x,_,rfl⟩:=List.mem_map.1 he
 exact TC.csz x
theorem TC.app(a b:List α):TC.trs a++TC.trs b=TC.trs (a++b):=by rw [TC.map,TC.map,TC.map,List.map_append]
end
def Hd{β:Type}(m:Option β)(K:β→Prop):Prop:= ∃v,m=some v∧K v
section
variable {α β σ:Type} {K:β→Prop} {r:β}
theorem fC{m:Option β}(h:m=some r):Hd m (fun v=>v=r):=⟨r,h,rfl⟩
theorem gdI{p:Prop}{x:Option β}(h:Hd (gd p x) K):p∧Hd x K:=by
 obtain⟨v,h1,h2⟩:=h
 by_cases hp:p
 ·rw [gdT hp rfl] at h1;exact⟨hp,v,h1,h2⟩
 ·rw [gdF hp] at h1;cases h1
theorem bdI{o:Option α}{f:α→Option β}(h:Hd (bd o f) K): ∃a,o=some a∧Hd (f a) K:=by
 obtain⟨v,h1,h2⟩:=h
 cases o with
 |none=>cases h1
 |some a=>exact⟨a,rfl,v,h1,h2⟩
theorem ltI{x:α}{f:α→Option β}(h:Hd (lt x f) K): ∃y,y=x∧Hd (f y) K:=⟨x,rfl,h⟩
theorem dK{G p:Prop}{x:Option β}(h:Hd (gd p x) K)(k:p→Hd x K→G):G:=k (gdI h).1 (gdI h).2
theorem bO{G:Prop}{o:Option α}{f:α→Option β}(h:Hd (bd o f) K)(k: ∀a,o=some a→Hd (f a) K→G):G:=by
 obtain⟨a,h1,h2⟩:=bdI h
 exact k a h1 h2
theorem f8{G:Prop}{A B:Type}{o:Option (A×B)}{f:A×B→Option β}(h:Hd (bd o f) K)(k: ∀a b,o=some (a,b)→Hd (f (a,b)) K→G):G:=bO h fun _=>k _ _
theorem abO{G:Prop}{A B C:Type}{o:Option (A×B×C)}{f:A×B×C→Option β}(h:Hd (bd o f) K)(k: ∀a b c,o=some (a,b,c)→Hd (f (a,b,c)) K→G):G:=bO h fun _=>k _ _ _
theorem ai6{G:Prop}{A B C D:Type}{o:Option (A×B×C×D)}{f:A×B×C×D→Option β}(h:Hd (bd o f) K)(k: ∀a b c d,o=some (a,b,c,d)→Hd (f (a,b,c,d)) K→G):G:=bO h fun _=>k _ _ _ _
theorem gE{G:Prop}{x:α}{f:α→Option β}(h:Hd (lt x f) K)(k: ∀y,y=x→Hd (f y) K→G):G:=k x rfl h
theorem oJ{b:Bool}{x y:Option β}(h:Hd (sw b x y) K)(e:b=true):Hd x K:=by subst e;exact h
theorem oH{b:Bool}{x y:Option β}(h:Hd (sw b x y) K)(e:b=false):Hd y K:=by subst e;exact h
theorem aY{v:β}(h:Hd (some v) K):K v:=by
 obtain⟨u,h1,h2⟩:=h
 cases h1
 exact h2
def SK(f:σ→Option β)(K:β→Prop):β⊕σ→Prop
 | .inl x=>K x
 | .inr s=>Hd (f s) K
theorem f9{m:Option (β⊕σ)}{f:σ→Option β}(h:Hd (so m f) K):Hd m (SK f K):=by
 obtain⟨v,h1,h2⟩:=h
 cases m with
 |none=>cases h1
 |some a=>
  refine⟨a,rfl,?_⟩
  cases a with
  |inl x=>cases h1;exact h2
  |inr s=>exact⟨v,h1,h2⟩
def LK(f:Nat→σ→Option (LR σ β))(n i:Nat)(K:β⊕σ→Prop):LR σ β→Prop
 | .next s=>Hd (loopN f (n-(i+1)) (i+1) s) K
 | .brk s=>K (.inr s)
 | .ret x=>K (.inl x)
def LW(f:σ→Option (LR σ β))(k:Nat)(K:β⊕σ→Prop):LR σ β→Prop
 | .next s=>Hd (loopW f k s) K
 | .brk s=>K (.inr s)
 | .ret x=>K (.inl x)
theorem zV{f:σ→Option β}{x:β}(h:SK f K (.inl x)):K x:=h
theorem pY{f:Nat→σ→Option (LR σ β)}{n i:Nat}{K:β⊕σ→Prop}{x:β}(h:LK f n i K (.ret x)):K (.inl x):=h
theorem lwR{f:σ→Option (LR σ β)}{k:Nat}{K:β⊕σ→Prop}{x:β}(h:LW f k K (.ret x)):K (.inl x):=h
theorem lnT{f:Nat→σ→Option (LR σ β)}{n i:Nat}{s:σ}{K:β⊕σ→Prop}(hl:i<n)(h:Hd (loopN f (n-i) i s) K):Hd (f i s) (LK f n i K):=by
 obtain⟨v,h1,h2⟩:=h
 rw [show n-i=(n-(i+1))+1 by omega,loopN] at h1
 cases hf:f i s with
 |none=>rw [hf] at h1;cases h1
 |some x=>
  rw [hf] at h1
  refine⟨x,rfl,?_⟩
  cases x with
  |next s'=>exact⟨v,h1,h2⟩
  |brk s'=>cases h1;exact h2
  |ret x=>cases h1;exact h2
theorem lnE{f:Nat→σ→Option (LR σ β)}{n i:Nat}{s:σ}{K:β⊕σ→Prop}(hl:n≤i)(h:Hd (loopN f (n-i) i s) K):K (.inr s):=by
 obtain⟨v,h1,h2⟩:=h
 rw [show n-i=0 by omega,loopN] at h1
 cases h1
 exact h2
theorem lwT{f:σ→Option (LR σ β)}{k:Nat}{s:σ}{K:β⊕σ→Prop}(h:Hd (loopW f k s) K): ∃k',k=k'+1∧Hd (f s) (LW f k' K):=by
 obtain⟨v,h1,h2⟩:=h
 cases k with
 |zero=>cases h1
 |succ k=>
  rw [loopW] at h1
  refine⟨k,rfl,?_⟩
  cases hf:f s with
  |none=>rw [hf] at h1;cases h1
  |some x=>
   rw [hf] at h1
   refine⟨x,rfl,?_⟩
   cases x with
   |next s'=>exact⟨v,h1,h2⟩
   |brk s'=>cases h1;exact h2
   |ret x=>cases h1;exact h2
end
section
variable {P:Program} {C:oE} {n:Nat} {s s':AS}
theorem VT{st':cU}(h:kZ C.st st':=by first|exact xP (by assumption)|(refine eA (by assumption) ?_ ?_;(first|exact ag1|exact jE rfl|exact ag6 rfl|exact ahG rfl);exact Nat.le_of_ble_eq_true rfl)):kZ C.st st':=h
theorem UA{st st':cU}(hb:vJ st' st.boxes st'.boxes:=by repeat' (first|exact trivial|refine⟨⟨rfl,mD,rfl⟩,?_⟩))(hr:st.rows.take st'.rows.length=st'.rows:=by first|rfl|simp):mQ st st':=mQ.mk' hb hr
theorem bZ(hst:mQ s.st s'.st:=by exact UA)(hp:kZ C.st s'.st:=by exact VT)(he:PR s s'.st s'.env:=by repeat' (first|exact trivial|refine⟨⟨_,rfl,mD,rfl⟩,?_⟩)):Wk C n s s':=Wk.mk hst hp he
end
theorem AN{P:Program}{f:FuncId}{args:List PV}{pre:cU}{q:PV}{y d:DS}{T:TypeId}(hy:y=d)(h:dG P f args pre (fun r t=>r=q∧t=DS.box T d)):dG P f args pre (fun r t=>r=q∧t=DS.box T y):=by subst hy;exact h
theorem K6{P:Program}{f:FuncId}{args:List PV}{pre:cU}{x z:ByteArray}{y d:DS}{T:TypeId}(hy:y=d)(hx:x=z)(h:dG P f args pre (fun r t=>r=pS z∧t=DS.box T d)):dG P f args pre (fun r t=>r=pS x∧t=DS.box T y):=by subst hy hx;exact h
def ag7{β σ:Type}(C:oE)(n:Nat)(I:σ→AS)(K:β⊕σ→Prop)(Q:Exit→AS→Prop):Exit→AS→Prop
 | .normal,s=> ∃v,K (.inr v)∧Wk C n s (I v)
 |e,s=>Q e s
def lpQ{β σ:Type}(C:oE)(n:Nat)(id:Nat)(I:Nat→σ→AS)(O:σ→AS)(f:Nat→σ→Option (LR σ β))(m i:Nat)(K:β⊕σ→Prop)(Q:Exit→AS→Prop):Exit→AS→Prop
 | .normal,s=>i<m∧ ∃v,Hd (loopN f (m-(i+1)) (i+1) v) K∧Wk C n s (I (i+1) v)
 | .exit j,s=>if j=id then ∃v,K (.inr v)∧Wk C n s (O v) else Q (.exit j) s
 |e,s=>Q e s
def lwQ{β σ:Type}(C:oE)(n:Nat)(id:Nat)(I:σ→AS)(O:σ→AS)(f:σ→Option (LR σ β))(k:Nat)(K:β⊕σ→Prop)(Q:Exit→AS→Prop):Exit→AS→Prop
 | .normal,s=> ∃v,Hd (loopW f k v) K∧Wk C n s (I v)
 | .exit j,s=>if j=id then ∃v,K (.inr v)∧Wk C n s (O v) else Q (.exit j) s
 |e,s=>Q e s
section
variable {P:Program} {C:oE} {n:Nat} {s:AS} {Q:Exit→AS→Prop} {β σ:Type}
theorem ahC{I:σ→AS}{K:β⊕σ→Prop}(hq:QC C n Q):QC C n (ag7 C n I K Q):=fun e s s' h k=>by
 cases e with
 |normal=>obtain⟨v,h1,h2⟩:=k;exact⟨v,h1,h.trans h2⟩
 |_=>exact hq _ s s' h k
theorem ahT{id:Nat}{I:Nat→σ→AS}{O:σ→AS}{f:Nat→σ→Option (LR σ β)}{m i:Nat}{K:β⊕σ→Prop}(hq:QC C n Q):QC C n (lpQ C n id I O f m i K Q):=fun e s s' h k=>by
 cases e with
 |normal=>obtain⟨h0,v,h1,h2⟩:=k;exact⟨h0,v,h1,h.trans h2⟩
 |exit j=>
  simp only [lpQ] at k ⊢
  split
  ·rename_i hj;rw [if_pos hj] at k;obtain⟨v,h1,h2⟩:=k;exact⟨v,h1,h.trans h2⟩
  ·rename_i hj;rw [if_neg hj] at k;exact hq _ s s' h k
 |_=>exact hq _ s s' h k
theorem aiH{id:Nat}{I:σ→AS}{O:σ→AS}{f:σ→Option (LR σ β)}{m:Nat}{K:β⊕σ→Prop}(hq:QC C n Q):QC C n (lwQ C n id I O f m K Q):=fun e s s' h k=>by
 cases e with
 |normal=>obtain⟨v,h1,h2⟩:=k;exact⟨v,h1,h.trans h2⟩
 |exit j=>
  simp only [lwQ] at k ⊢
  split
  ·rename_i hj;rw [if_pos hj] at k;obtain⟨v,h1,h2⟩:=k;exact⟨v,h1,h.trans h2⟩
  ·rename_i hj;rw [if_neg hj] at k;exact hq _ s s' h k
 |_=>exact hq _ s s' h k
theorem qcA(h:QC C n Q:=by repeat' (first|exact agX|exact aiP|apply ahC|apply ahT|apply aiH|apply ahL|apply afS)):QC C n Q:=h
theorem oM{c:Code}{m:Option (β⊕σ)}{K:β⊕σ→Prop}(I:σ→AS)(H:Hd m K)(h:Hd m K→aO P C n c (ag7 C n I K Q) s)(k: ∀v,K (.inr v)→Q .normal (I v))(hq:QC C n Q:=by exact qcA):aO P C n c Q s:=
 aO.mono (h H) fun e s' hc=>by
  cases e with
  |normal=>
   obtain⟨v,h1,h2⟩:=hc
   exact hq _ _ _ h2 (k v h1)
  |_=>exact hc
theorem dH{I:σ→AS}{K:β⊕σ→Prop}{e:Exit}(h: ∃v,K (.inr v)∧Wk C n s (I v))(he:e= .normal:=by exact rfl):ag7 C n I K Q e s:=by subst he;exact h
theorem cG{c:Code}{id:Nat}{f:Nat→σ→Option (LR σ β)}{m i0:Nat}{v0:σ}{K:β⊕σ→Prop}(I:Nat→σ→AS)(O:σ→AS)(H:Hd (loopN f (m-i0) i0 v0) K)
 (round: ∀i v,Hd (loopN f (m-i) i v) K→aO P C n c (lpQ C n id I O f m i K Q) (I i v)) (k: ∀v,K (.inr v)→Q .normal (O v)) (h0:Wk C n s (I i0 v0):=by exact bZ) (hq:QC C n Q:=by exact qcA):aO P C n (.block id (.loop c)) Q s:=by
 refine aO.block ?_;refine aO.loopJ (ι:=Nat×σ) (fun x=>Hd (loopN f (m-x.1) x.1 x.2) K) (fun x=>I x.1 x.2) (fun x=>m-x.1) (i0,v0) H h0 ?_;rintro⟨i,v⟩ hj
 refine aO.mono (round i v hj) fun e s' h=>?_
 cases e with
 |normal=>
  obtain⟨h1,v',h2,h3⟩:=h
  exact⟨(i+1,v'),h2,h3,by show m-(i+1)<m-i;omega⟩
 |exit j=>
  simp only [lpQ] at h
  show s8 id Q (.exit j) s'
  simp only [s8]
  split
  ·rename_i hj;rw [if_pos hj] at h;obtain⟨v',h1,h2⟩:=h;exact hq _ _ _ h2 (k v' h1)
  ·rename_i hj;rw [if_neg hj] at h;exact h
 |_=>exact h
theorem J6{c:Code}{id:Nat}{f:σ→Option (LR σ β)}{k0:Nat}{v0:σ}{K:β⊕σ→Prop}(I:σ→AS)(O:σ→AS)(H:Hd (loopW f k0 v0) K)
 (round: ∀k v,Hd (f v) (LW f k K)→aO P C n c (lwQ C n id I O f k K Q) (I v)) (k: ∀v,K (.inr v)→Q .normal (O v)) (h0:Wk C n s (I v0):=by exact bZ) (hq:QC C n Q:=by exact qcA):aO P C n (.block id (.loop c)) Q s:=by
 refine aO.block ?_;refine aO.loopJ (ι:=Nat×σ) (fun x=>Hd (loopW f x.1 x.2) K) (fun x=>I x.2) (fun x=>x.1) (k0,v0) H h0 ?_;rintro⟨i,v⟩ hj
 obtain⟨i',rfl,hj'⟩:=lwT (f:=f) (k:=i) (s:=v) hj
 refine aO.mono (round i' v hj') fun e s' h=>?_
 cases e with
 |normal=>
  obtain⟨v',h2,h3⟩:=h
  exact⟨(i',v'),h2,h3,by show i'<i'+1;omega⟩
 |exit j=>
  simp only [lwQ] at h
  show s8 id Q (.exit j) s'
  simp only [s8]
  split
  ·rename_i hj;rw [if_pos hj] at h;obtain⟨v',h1,h2⟩:=h;exact hq _ _ _ h2 (k v' h1)
  ·rename_i hj;rw [if_neg hj] at h;exact h
 |_=>exact h
theorem jA{id:Nat}{I:Nat→σ→AS}{O:σ→AS}{f:Nat→σ→Option (LR σ β)}{m i:Nat}{K:β⊕σ→Prop}{e:Exit}(hi:i<m)(h: ∃v,LK f m i K (.next v)∧Wk C n s (I (i+1) v))(he:e= .normal:=by exact rfl):lpQ C n id I O f m i K Q e s:=by subst he;exact⟨hi,h⟩
theorem k7{id:Nat}{I:Nat→σ→AS}{O:σ→AS}{f:Nat→σ→Option (LR σ β)}{m i:Nat}{K:β⊕σ→Prop}{e:Exit}(h: ∃v,K (.inr v)∧Wk C n s (O v))(he:e= .exit id:=by exact rfl):lpQ C n id I O f m i K Q e s:=by
 subst he
 simp only [lpQ,if_pos]
 exact h
theorem lpB{id:Nat}{I:Nat→σ→AS}{O:σ→AS}{f:Nat→σ→Option (LR σ β)}{m i:Nat}{K:β⊕σ→Prop}{e:Exit}(h: ∃v,LK f m i K (.brk v)∧Wk C n s (O v))(he:e= .exit id:=by exact rfl):lpQ C n id I O f m i K Q e s:=k7 h he
theorem lwN{id:Nat}{I:σ→AS}{O:σ→AS}{f:σ→Option (LR σ β)}{k:Nat}{K:β⊕σ→Prop}{e:Exit}(h: ∃v,LW f k K (.next v)∧Wk C n s (I v))(he:e= .normal:=by exact rfl):lwQ C n id I O f k K Q e s:=by subst he;exact h
theorem lwB{id:Nat}{I:σ→AS}{O:σ→AS}{f:σ→Option (LR σ β)}{k:Nat}{K:β⊕σ→Prop}{e:Exit}(h: ∃v,LW f k K (.brk v)∧Wk C n s (O v))(he:e= .exit id:=by exact rfl):lwQ C n id I O f k K Q e s:=by
 subst he
 simp only [lwQ,if_pos]
 exact h
theorem dY{β:Type}{K:β→Prop}{x y:Option β}{ops:Array Oper}{l:List Oper}(d:Nat){b:Bool}(H:Hd (sw b x y) K)(h1:b=true→Hd x K→AL P C n ops l Q s)(h0:b=false→Hd y K→AL P C n ops l Q s)(hb:s.lk d=some (.t (.leaf (.bool b))):=by exact rfl):AL P C n ops l Q s:=AL.splitB d hb (fun h=>h1 h (oJ H h)) (fun h=>h0 h (oH H h))
theorem a9{K:β→Prop}{c:Operand}{b:Bool}{x y:Option β}{cx cy:Code}(H:Hd (sw b x y) K)(ht:b=true→Hd x K→aO P C n cx Q s)(hf:b=false→Hd y K→aO P C n cy Q s)(hc:s.ev c=some (.t (.leaf (.bool b))):=by exact rfl):aO P C n (.cond c cx cy) Q s:=
 aO.cond hc (fun h=>ht h (oJ H h)) fun h=>hf h (oH H h)
theorem dT{c:Operand}{b:Bool}{cx cy:Code}(e:b=true)(h:aO P C n cx Q s)(hc:s.ev c=some (.t (.leaf (.bool b))):=by exact rfl):aO P C n (.cond c cx cy) Q s:=aO.cond hc (fun _=>h) fun h=>absurd (e.symm.trans h) (by decide)
theorem kL{c:Operand}{b:Bool}{cx cy:Code}(e:b=false)(h:aO P C n cy Q s)(hc:s.ev c=some (.t (.leaf (.bool b))):=by exact rfl):aO P C n (.cond c cx cy) Q s:=aO.cond hc (fun h=>absurd (e.symm.trans h) (by decide)) fun _=>h
theorem eJ{K:β⊕σ→Prop}{f:Nat→σ→Option (LR σ β)}{m i:Nat}{v:σ}{c:Operand}{b:Bool}{cx cy:Code}(H:Hd (loopN f (m-i) i v) K)(ht:b=true→i<m→Hd (f i v) (LK f m i K)→aO P C n cx Q s)(hf:b=false→K (.inr v)→aO P C n cy Q s)(h1:b=true→i<m:=by first|exact uP|exact X5)(h0:b=false→m≤i:=by first|exact uZ|exact YT)(hc:s.ev c=some (.t (.leaf (.bool b))):=by exact rfl):aO P C n (.cond c cx cy) Q s:=
 aO.cond hc (fun h=>ht h (h1 h) (lnT (h1 h) H)) fun h=>hf h (lnE (h0 h) H)
theorem qI{f:FuncId}{fn:Func}{c:Code}{args:List PV}{pre:cU}{R:PV→cU→Prop}(hf:P.funcs[f]?=some fn)(h: ∀C:oE,C.st=pre→aO P C fn.ntmps c (uW P C fn.ntmps fn R) ⟨E5 0 args,pre⟩)(hb:fn.body=some c:=by exact rfl)(hn:args.length≤fn.ntmps:=by first|decide|(simp;done)|(simp;decide)):dG P f args pre R:=dG.intro hf hb hn h
theorem qS{x y:Code}(h:aO P C n x (WX (aO P C n y Q) Q) s):aO P C n (.seq x y) Q s:=aO.seq h
theorem qR{id:Nat}{l:List Oper}(h:AL P C n l.toArray l Q s):aO P C n (.region id l.toArray false) Q s:=aO.region_lit h
theorem qN{ops:Array Oper}(h:Q .normal s):AL P C n ops [] Q s:=AL.nil h
theorem q1{ops:Array Oper}{o:Oper}{rest:List Oper}{s1:AS}(ho:aW P C n o s s1)(h:AL P C n ops rest Q s1)(hg:o.guard=none:=by exact rfl):AL P C n ops (o::rest) Q s:=AL.cons hg ho h
theorem qg{ops:Array Oper}{o:Oper}{rest:List Oper}{s1:AS}{j d:Nat}{b c:Bool}(hv:b=c)(ho:aW P C n o s s1)(h:AL P C n ops rest Q s1)(hg:o.guard=some (j,c):=by exact rfl)(hj:(ops[j]?).bind (·.dst)=some d:=by exact rfl)(hb:s.lk d=some (.t (.leaf (.bool b))):=by exact rfl):AL P C n ops (o::rest) Q s:=AL.cons_gv hg hj hb hv ho h
theorem qk{ops:Array Oper}{o:Oper}{rest:List Oper}{j d:Nat}{b c e:Bool}(hv:b=e)(h:AL P C n ops rest Q (s.putO o.dst (.tup [])))(hg:o.guard=some (j,c):=by exact rfl)(hj:(ops[j]?).bind (·.dst)=some d:=by exact rfl)(hb:s.lk d=some (.t (.leaf (.bool b))):=by exact rfl)(hne:(e==c)=false:=by exact rfl)(hd:bQ o.dst n=true:=by exact rfl):AL P C n ops (o::rest) Q s:=AL.skipP hg hj hb hv hne hd h
theorem F1{ops:Array Oper}{o:Oper}{rest:List Oper}{j d:Nat}{c:Bool}(h:AL P C n ops rest Q (s.putO o.dst (.tup [])))(hg:o.guard=some (j,c):=by exact rfl)(hj:(ops[j]?).bind (·.dst)=some d:=by exact rfl)(hb:s.lk d=some (.tup []):=by exact rfl)(hd:bQ o.dst n=true:=by exact rfl):AL P C n ops (o::rest) Q s:=AL.skipU hg hj hb hd h
theorem qe{fn:Func}{R:PV→cU→Prop}{e:Exit}{ps:List PV}{res q:PV}{st':cU}(hR:R q st':=by exact⟨rfl,rfl⟩)(hr:RN P s fn.results.toList ps)(he:e= .normal∨e= .ret:=by first|exact .inr rfl|exact .inl rfl)(hres:(match ps with| [p]=>p|ps=> .tup ps)=res:=by exact rfl)
 (hst:mQ s.st st':=by exact UA) (hp:kZ C.st st':=by exact VT) (hle:PV.Le res q:=by exact mD) (hk:PV.okIn st' q=true:=by exact rfl):uW P C n fn R e s:=uW.mk he hr hres hst hp hle hk hR
theorem bN{fn:Func}{R:PV→cU→Prop}{e:Exit}{p q:PV}{st':cU}(hR:R q st':=by exact⟨rfl,rfl⟩)(hr:RN P s fn.results.toList [p]:=by exact⟨rfl,trivial⟩)(he:e= .normal∨e= .ret:=by first|exact .inr rfl|exact .inl rfl)
 (hst:mQ s.st st':=by exact UA) (hp:kZ C.st st':=by exact VT) (hle:PV.Le p q:=by exact mD) (hk:PV.okIn st' q=true:=by exact rfl):uW P C n fn R e s:=uW.mk he hr rfl hst hp hle hk hR
theorem rA{fn:Func}{R:PV→cU→Prop}{e:Exit}{p1 p2 q:PV}{st':cU}(hR:R q st':=by exact⟨rfl,rfl⟩)(hr:RN P s fn.results.toList [p1,p2]:=by exact⟨rfl,rfl,trivial⟩)(he:e= .normal∨e= .ret:=by first|exact .inr rfl|exact .inl rfl)
 (hst:mQ s.st st':=by exact UA) (hp:kZ C.st st':=by exact VT) (hle:PV.Le (.tup [p1,p2]) q:=by exact mD) (hk:PV.okIn st' q=true:=by exact rfl):uW P C n fn R e s:=uW.mk he hr rfl hst hp hle hk hR
theorem qe3{fn:Func}{R:PV→cU→Prop}{e:Exit}{p1 p2 p3 q:PV}{st':cU}(hR:R q st':=by exact⟨rfl,rfl⟩)(hr:RN P s fn.results.toList [p1,p2,p3]:=by exact⟨rfl,rfl,rfl,trivial⟩)(he:e= .normal∨e= .ret:=by first|exact .inr rfl|exact .inl rfl)
 (hst:mQ s.st st':=by exact UA) (hp:kZ C.st st':=by exact VT) (hle:PV.Le (.tup [p1,p2,p3]) q:=by exact mD) (hk:PV.okIn st' q=true:=by exact rfl):uW P C n fn R e s:=uW.mk he hr rfl hst hp hle hk hR
theorem nF(i:Nat){p:PV}{sz:Nat}{es:List (List Tr)}{N:Nat}{c:Code}(hl:es.length=N)(k:N≤9223372036854775807→aO P C n c Q s)(hx:s.lk i=some p:=by exact rfl)(hp:lF p=some (sz,es):=by exact rfl):aO P C n c Q s:=aO.fact (LG i hx hp hl) k
theorem szF(i:Nat){v:ByteArray}{c:Code}(k:v.size≤9223372036854775807→aO P C n c Q s)(hx:s.lk i=some (.t (.leaf (.string v))):=by exact rfl):aO P C n c Q s:=aO.fact (fun m a w h=>by
 obtain⟨u,-,hr⟩:=h.env i _ hx
 have h1:v.size≤maxLen:=(cF.leaf_eq hr).2
 unfold maxLen at h1
 omega) k
theorem ZL(i:Nat){p:PV}{sz:Nat}{es:List (List Tr)}{N:Nat}{ops:Array Oper}{l:List Oper}(hl:es.length=N)(k:N≤9223372036854775807→AL P C n ops l Q s)(hx:s.lk i=some p:=by exact rfl)(hp:lF p=some (sz,es):=by exact rfl):AL P C n ops l Q s:=AL.fact (LG i hx hp hl) k
end
section
variable {P:Program} {C:oE} {n:Nat}
theorem dk{D:cY}{i j lo hi:Nat}{o:Oper}{b c e:Bool}(hv:b=e)(hg:o.guard=some (j,c):=by exact rfl)(hj:D.out j=some (.t (.leaf (.bool b))):=by exact rfl)(hk:D.kind i= .q lo hi:=by exact rfl)(hne:(e==c)=false:=by exact rfl)(ho:D.out i=some (.tup []):=by exact rfl)(hd:bQ o.dst n=true:=by exact rfl):D.step P C n i o:=
 .inr ⟨by subst hv;unfold cY.want;rw [hg];dsimp only;rw [hj];dsimp only;rw [hne],⟨_,_,hk⟩,.inr ⟨ho,hd⟩⟩
end
def pk{α:Type}[Inhabited α](l:List α)(j:Nat):α:=l.getD j (l.getLastD default)
instance:Inhabited DS:=⟨⟨[],0,0⟩⟩
instance:Inhabited PV:=⟨.nil⟩
instance:Inhabited cU:=⟨⟨[],[]⟩⟩
instance:Inhabited oO:=⟨⟨0,0,[],false⟩⟩
def evA(s:AS):List Operand→Option (List PV)
 | []=>some []
 |x::xs=>match s.ev x with
  |some p=>match evA s xs with
   |some ps=>some (p::ps)
   |none=>none
  |none=>none
theorem TU{s:AS}: ∀ {xs:List Operand} {ps:List PV},evA s xs=some ps→xs.map s.ev=ps.map some
 | [],ps,h=>by cases h;rfl
 |x::xs,ps,h=>by
  unfold evA at h
  split at h
  ·rename_i p hp
   split at h
   ·rename_i qs hq
    cases h
    rw [List.map_cons,List.map_cons,hp,TU hq]
   ·cases h
  ·cases h
section
variable {P:Program} {C:oE} {n:Nat} {s:AS} {o:Oper}
theorem aF{x:Operand}{p:PV}(ho:o.op= .move x∨o.op= .assign x:=by first|exact .inl rfl|exact .inr rfl)(hd:bQ o.dst n=true:=by exact rfl)(hx:s.ev x=some p:=by exact rfl):aW P C n o s (s.putO o.dst p):=aW.move ho hd hx
theorem bB{T:TypeId}{x:Operand}{k d z:Nat}{bx:cV}{p:PV}(hT:b8 P T=some (false,z))(ho:o.op= .load T x:=by exact rfl)(hd:bQ o.dst n=true:=by exact rfl)(hx:s.ev x=some (.ptr k d):=by exact rfl)(hb:s.st.boxes[k]?=some (some bx):=by exact rfl)(hc:bx.cells[d]?=some p:=by exact rfl):aW P C n o s (s.putO o.dst p):=aW.loadPtr1 ho hd hx hb hT hc
theorem c6{T:TypeId}{x:Operand}{k d z:Nat}{bx:cV}(cs:List PV)(hT:b8 P T=some (true,z))(ho:o.op= .load T x:=by exact rfl)(hd:bQ o.dst n=true:=by exact rfl)(hx:s.ev x=some (.ptr k d):=by exact rfl)(hb:s.st.boxes[k]?=some (some bx):=by exact rfl)(hc:(bx.cells.drop d).take z=cs:=by exact rfl)(hl:cs.length=z:=by exact rfl):aW P C n o s (s.putO o.dst (.agg cs)):=aW.loadPtr ho hd hx hb hT hc hl
theorem mR{T:TypeId}{x:Operand}{z:Nat}{d:Tr}{cs:List Tr}(hT:b8 P T=some (false,z))(ho:o.op= .load T x:=by exact rfl)(hd:bQ o.dst n=true:=by exact rfl)(hx:s.ev x=some (.eptr cs):=by exact rfl)(hc:cs[0]?=some d:=by exact rfl):aW P C n o s (s.putO o.dst (.t d)):=aW.loadEptr1 ho hd hx hT hc
theorem j7{T:TypeId}{x:Operand}{z:Nat}{cs:List Tr}(ds:List Tr)(hT:b8 P T=some (true,z))(ho:o.op= .load T x:=by exact rfl)(hd:bQ o.dst n=true:=by exact rfl)(hx:s.ev x=some (.eptr cs):=by exact rfl)(hc:cs.take z=ds:=by exact rfl)(hl:ds.length=z:=by exact rfl):aW P C n o s (s.putO o.dst (.agg (ds.map PV.t))):=aW.loadEptr ho hd hx hT hc hl
theorem aZ{T:TypeId}{x:Operand}{f k d e:Nat}(hf:bD P T f=some e)(ho:o.op= .fieldAddr T x f:=by exact rfl)(hd:bQ o.dst n=true:=by exact rfl)(hx:s.ev x=some (.ptr k d):=by exact rfl):aW P C n o s (s.putO o.dst (.ptr k (d+e))):=aW.fieldPtr ho hd hx hf
theorem nD{T:TypeId}{x:Operand}{f e:Nat}{cs:List Tr}(hf:bD P T f=some e)(ho:o.op= .fieldAddr T x f:=by exact rfl)(hd:bQ o.dst n=true:=by exact rfl)(hx:s.ev x=some (.eptr cs):=by exact rfl):aW P C n o s (s.putO o.dst (.eptr (cs.drop e))):=aW.fieldEptr ho hd hx hf
theorem hH{T:TypeId}{ps:List PV}(hz:cS P T=some ps)(ho:o.op= .alloc T:=by exact rfl)(hd:bQ o.dst n=true:=by exact rfl):aW P C n o s ((⟨s.env,s.st.addBox ⟨T,ps⟩⟩:AS).putO o.dst (.ptr s.st.boxes.length 0)):=aW.alloc ho hd hz
theorem lA{T:TypeId}{x:Operand}{p:PV}(cs:List PV)(ho:o.op= .box T x:=by exact rfl)(hd:bQ o.dst n=true:=by exact rfl)(hx:s.ev x=some p:=by exact rfl)(hc:uR p=cs:=by exact rfl)(ht:u5 p=true:=by exact rfl):aW P C n o s ((⟨s.env,s.st.addBox ⟨T,cs⟩⟩:AS).putO o.dst (.ptr s.st.boxes.length 0)):=aW.box ho hd hx hc ht
theorem bV{T:TypeId}{x y:Operand}{k d:Nat}{bx:cV}{p:PV}{cs ds:List PV}(hT:(P.info? T).map (·.size)=some cs.length)(ho:o.op= .store T x y:=by exact rfl)(hx:s.ev x=some (.ptr k d):=by exact rfl)(hb:s.st.boxes[k]?=some (some bx):=by exact rfl)(hy:s.ev y=some p:=by exact rfl)(hc:uR p=cs:=by exact rfl)(ht:u5 p=true:=by exact rfl)(hf:J9 cs=true:=by exact rfl)
 (hfit:d+cs.length≤bx.cells.length:=by exact Nat.le_of_ble_eq_true rfl) (hds:bx.cells.take d++cs++bx.cells.drop (d+cs.length)=ds:=by exact rfl):aW P C n o s ((⟨s.env,s.st.setBox k ⟨bx.ty,ds⟩⟩:AS).delO o.dst):=aW.storePtr ho hx hb hy hc ht hf hT hfit hds
theorem eM{T:TypeId}{x:Operand}{p:PV}{sz N:Nat}{es:List (List Tr)}{E:Nat×Nat×Nat}(hT:elemOf? P T=some E)(hl:es.length=N)(ho:o.op= .call { callee:= .builtin .len,args:= #[x],argTypes:= #[T] }:=by exact rfl)(hd:bQ o.dst n=true:=by exact rfl)(hx:s.ev x=some p:=by exact rfl)(hp:lF p=some (sz,es):=by exact rfl):aW P C n o s (s.putO o.dst (.t (.leaf (.int .i64 (N:Int))))):=aW.lenN ho hd hx hp hT hl
theorem dP{T yT:TypeId}{x y:Operand}{k:IntKind}{a b:Int}(ho:o.op= .binOp .eql T x y yT:=by exact rfl)(hd:bQ o.dst n=true:=by exact rfl)(hx:s.ev x=some (.t (.leaf (.int k a))):=by exact rfl)(hy:s.ev y=some (.t (.leaf (.int k b))):=by exact rfl):aW P C n o s (s.putO o.dst (.t (.leaf (.bool (decide (a=b)))))):=aW.eqlI ho hd hx hy
theorem QI{T yT:TypeId}{x y:Operand}{k:IntKind}{a b:Int}(ho:o.op= .binOp .neq T x y yT:=by exact rfl)(hd:bQ o.dst n=true:=by exact rfl)(hx:s.ev x=some (.t (.leaf (.int k a))):=by exact rfl)(hy:s.ev y=some (.t (.leaf (.int k b))):=by exact rfl):aW P C n o s (s.putO o.dst (.t (.leaf (.bool (!decide (a=b)))))):=aW.neqI ho hd hx hy
theorem gU{T yT:TypeId}{x y:Operand}{k:IntKind}{a b:Int}(ho:o.op= .binOp .lss T x y yT:=by exact rfl)(hd:bQ o.dst n=true:=by exact rfl)(hx:s.ev x=some (.t (.leaf (.int k a))):=by exact rfl)(hy:s.ev y=some (.t (.leaf (.int k b))):=by exact rfl):aW P C n o s (s.putO o.dst (.t (.leaf (.bool (decide (a<b)))))):=aW.lss ho hd hx hy
theorem rLe{T yT:TypeId}{x y:Operand}{k:IntKind}{a b:Int}(ho:o.op= .binOp .leq T x y yT:=by exact rfl)(hd:bQ o.dst n=true:=by exact rfl)(hx:s.ev x=some (.t (.leaf (.int k a))):=by exact rfl)(hy:s.ev y=some (.t (.leaf (.int k b))):=by exact rfl):aW P C n o s (s.putO o.dst (.t (.leaf (.bool (decide (a≤b)))))):=aW.leq ho hd hx hy
theorem HB{T yT:TypeId}{x y:Operand}{k:IntKind}{a b:Int}(ho:o.op= .binOp .gtr T x y yT:=by exact rfl)(hd:bQ o.dst n=true:=by exact rfl)(hx:s.ev x=some (.t (.leaf (.int k a))):=by exact rfl)(hy:s.ev y=some (.t (.leaf (.int k b))):=by exact rfl):aW P C n o s (s.putO o.dst (.t (.leaf (.bool (decide (a>b)))))):=aW.gtr ho hd hx hy
theorem P7{T yT:TypeId}{x y:Operand}{k:IntKind}{a b:Int}(ho:o.op= .binOp .geq T x y yT:=by exact rfl)(hd:bQ o.dst n=true:=by exact rfl)(hx:s.ev x=some (.t (.leaf (.int k a))):=by exact rfl)(hy:s.ev y=some (.t (.leaf (.int k b))):=by exact rfl):aW P C n o s (s.putO o.dst (.t (.leaf (.bool (decide (a≥b)))))):=aW.geq ho hd hx hy
theorem EC{T yT:TypeId}{x y:Operand}{a b:ByteArray}(ho:o.op= .binOp .eql T x y yT:=by exact rfl)(hd:bQ o.dst n=true:=by exact rfl)(hx:s.ev x=some (.t (.leaf (.string a))):=by exact rfl)(hy:s.ev y=some (.t (.leaf (.string b))):=by exact rfl):aW P C n o s (s.putO o.dst (.t (.leaf (.bool (decide (a=b)))))):=aW.eqlS ho hd hx hy
theorem O9{T yT:TypeId}{x y:Operand}{a b:ByteArray}(ho:o.op= .binOp .neq T x y yT:=by exact rfl)(hd:bQ o.dst n=true:=by exact rfl)(hx:s.ev x=some (.t (.leaf (.string a))):=by exact rfl)(hy:s.ev y=some (.t (.leaf (.string b))):=by exact rfl):aW P C n o s (s.putO o.dst (.t (.leaf (.bool (!decide (a=b)))))):=aW.neqS ho hd hx hy
theorem gS{T:TypeId}{x:Operand}{b:Bool}(ho:o.op= .unOp .not T x:=by exact rfl)(hd:bQ o.dst n=true:=by exact rfl)(hx:s.ev x=some (.t (.leaf (.bool b))):=by exact rfl):aW P C n o s (s.putO o.dst (.t (.leaf (.bool (!b))))):=aW.notB ho hd hx
theorem LQ{T yT:TypeId}{x y:Operand}{k:IntKind}{a b:Int}(ho:o.op= .binOp .add T x y yT:=by exact rfl)(hd:bQ o.dst n=true:=by exact rfl)(hx:s.ev x=some (.t (.leaf (.int k a))):=by exact rfl)(hy:s.ev y=some (.t (.leaf (.int k b))):=by exact rfl):aW P C n o s (s.putO o.dst (.t (.leaf (.int k (k.wrap (a+b)))))):=aW.addW ho hd hx hy
theorem zZ{T yT:TypeId}{x y:Operand}{k:IntKind}{a b:Int}(ho:o.op= .binOp .sub T x y yT:=by exact rfl)(hd:bQ o.dst n=true:=by exact rfl)(hx:s.ev x=some (.t (.leaf (.int k a))):=by exact rfl)(hy:s.ev y=some (.t (.leaf (.int k b))):=by exact rfl):aW P C n o s (s.putO o.dst (.t (.leaf (.int k (k.wrap (a-b)))))):=aW.subW ho hd hx hy
theorem j0{α:Type}[Inhabited α][TC α]{l:List α}{T E sz by_:Nat}{x i:Operand}{p:PV}{k:Nat}(h:k<l.length)(hT:elemOf? P T=some (E,sz,by_))(ho:o.op= .indexAddr T x i:=by exact rfl)(hd:bQ o.dst n=true:=by exact rfl)(hx:s.ev x=some p:=by exact rfl)(hp:lF p=some (sz,TC.trs l):=by exact rfl)(hi:s.ev i=some (.t (.leaf (.int .i64 (k:Int)))):=by exact rfl):aW P C n o s (s.putO o.dst (.eptr (TC.cs (a5 l k)))):=aW.index ho hd hx hp hi (TC.at_ h) hT
theorem rIy{α:Type}[Inhabited α][TC α]{l:List α}{T E sz by_:Nat}{x i:Operand}{p:PV}{y:Int}(h:0≤y∧y.toNat<l.length)(hT:elemOf? P T=some (E,sz,by_))(ho:o.op= .indexAddr T x i:=by exact rfl)(hd:bQ o.dst n=true:=by exact rfl)(hx:s.ev x=some p:=by exact rfl)(hp:lF p=some (sz,TC.trs l):=by exact rfl)(hi:s.ev i=some (.t (.leaf (.int .i64 y))):=by exact rfl):aW P C n o s (s.putO o.dst (.eptr (TC.cs (a5 l y.toNat)))):=aW.indexI ho hd hx hp hi h.1 (TC.at_ h.2) hT
theorem pA{α:Type}[Inhabited α][TC α]{l:List α}{T E sz by_:Nat}{x i:Operand}{p:PV}{k:Nat}{z:α}(hz:z=a5 l k)(h:k<l.length)(hT:elemOf? P T=some (E,sz,by_))(ho:o.op= .indexAddr T x i:=by exact rfl)(hd:bQ o.dst n=true:=by exact rfl)(hx:s.ev x=some p:=by exact rfl)(hp:lF p=some (sz,TC.trs l):=by exact rfl)(hi:s.ev i=some (.t (.leaf (.int .i64 (k:Int)))):=by exact rfl):aW P C n o s (s.putO o.dst (.eptr (TC.cs z))):=by
 subst hz
 exact j0 h hT ho hd hx hp hi
theorem rIm{α:Type}[Inhabited α][TC α]{l:List α}{T E sz by_:Nat}{x i:Operand}{p:PV}{y:Int}{z:α}(hz:z=a5 l y.toNat)(h:0≤y∧y.toNat<l.length)(hT:elemOf? P T=some (E,sz,by_))(ho:o.op= .indexAddr T x i:=by exact rfl)(hd:bQ o.dst n=true:=by exact rfl)(hx:s.ev x=some p:=by exact rfl)(hp:lF p=some (sz,TC.trs l):=by exact rfl)(hi:s.ev i=some (.t (.leaf (.int .i64 y))):=by exact rfl):aW P C n o s (s.putO o.dst (.eptr (TC.cs z))):=by
 subst hz
 exact rIy h hT ho hd hx hp hi
theorem rF1{T:TypeId}{x:Operand}{f e z:Nat}{cs:List PV}{p:PV}(hf:qB P T f=some (e,false,z))(ho:o.op= .field T x f:=by exact rfl)(hd:bQ o.dst n=true:=by exact rfl)(hx:s.ev x=some (.agg cs):=by exact rfl)(hc:cs[e]?=some p:=by exact rfl):aW P C n o s (s.putO o.dst p):=aW.field1 ho hd hx hf hc
theorem KJ{x:Operand}{i:Nat}{ps:List PV}{p:PV}(ho:o.op= .extract x i:=by exact rfl)(hd:bQ o.dst n=true:=by exact rfl)(hx:s.ev x=some (.tup ps):=by exact rfl)(hi:ps[i]?=some p:=by exact rfl):aW P C n o s (s.putO o.dst p):=aW.extract ho hd hx hi
theorem fM{T:TypeId}{parts:Array (Nat×Operand)}{ps:List (Nat×List PV)}{zs cs:List PV}{places:List (Nat×Nat)}(hz:cS P T=some zs)(hpl:fY P T=some places)(ho:o.op= .build T parts:=by exact rfl)(hd:bQ o.dst n=true:=by exact rfl)(hp:m9 s parts.toList=some ps:=by exact rfl)(hc:rD (fun i=>places.toArray[i]?) zs ps=some cs:=by exact rfl):aW P C n o s (s.putO o.dst (.agg cs)):=aW.build ho hd hz hpl hp hc
theorem iI{α:Type}[Inhabited α][TC α]{T E by_ len:Nat}{parts:Array (Nat×Operand)}{ps:List (Nat×List PV)}{zs cs:List PV}(l:List α)(hT:elemOf? P T=some (E,TC.sz α,by_))(hz:cS P E=some zs)(ho:o.op= .buildSlice T len parts:=by exact rfl)(hd:bQ o.dst n=true:=by exact rfl)(hp:m9 s parts.toList=some ps:=by exact rfl)
 (hc:rD (fun i=>some (i*TC.sz α,TC.sz α)) (List.replicate len zs).flatten ps=some cs:=by exact rfl) (hle:sS cs ((l.map TC.cs).flatten.map PV.t):=by exact mD) (hel:l.length=len:=by exact rfl) (hsz:0<TC.sz α:=by decide) (hzl:zs.length=TC.sz α:=by exact rfl) (hsm:len*TC.sz α≤16777216:=by decide):aW P C n o s (s.putO o.dst (.t (.row (TC.sz α) (TC.trs l)))):=
 aW.buildSliceE (es:=l.map TC.cs) ho hd hT hz hp hc hle (by rw [List.length_map];exact hel) (fun e he=>TC.all l e (by rw [TC.map];exact he)) hsz hzl hsm (TC.map l).symm
theorem rE{α:Type}[Inhabited α][TC α]{T E by_ len:Nat}{parts:Array (Nat×Operand)}{ps:List (Nat×List PV)}{zs cs:List PV}(l:List α)(hT:elemOf? P T=some (E,TC.sz α,by_))(hz:cS P E=some zs)(ho:o.op= .buildSlice T len parts:=by exact rfl)(hd:bQ o.dst n=true:=by exact rfl)(hp:m9 s parts.toList=some ps:=by exact rfl)
 (hc:rD (fun i=>some (i*TC.sz α,TC.sz α)) (List.replicate len zs).flatten ps=some cs:=by exact rfl) (hle:sS cs ((l.map TC.cs).flatten.map PV.t):=by exact mD) (hel:l.length=len:=by exact rfl) (hsz:0<TC.sz α:=by decide) (hzl:zs.length=TC.sz α:=by exact rfl) (hsm:len*TC.sz α≤16777216:=by decide):aW P C n o s (s.putO o.dst (.lit (TC.sz α) (TC.trs l))):=
 aW.buildSliceLE (es:=l.map TC.cs) ho hd hT hz hp hc hle (by rw [List.length_map];exact hel) (fun e he=>TC.all l e (by rw [TC.map];exact he)) hsz hzl hsm (TC.map l).symm
theorem rC{α:Type}[Inhabited α][TC α]{T E by_ len:Nat}{parts:Array (Nat×Operand)}{ps:List (Nat×List PV)}{zs cs:List PV}(l:List α)(hT:elemOf? P T=some (E,TC.sz α,by_))(hz:cS P E=some zs)(ho:o.op= .buildSlice T len parts:=by exact rfl)(hd:bQ o.dst n=true:=by exact rfl)(hp:m9 s parts.toList=some ps:=by exact rfl)
 (hc:rD (fun i=>some (i*TC.sz α,TC.sz α)) (List.replicate len zs).flatten ps=some cs:=by exact rfl) (hle:sS cs ((l.map TC.cs).flatten.map PV.t):=by exact mD) (hel:l.length=len:=by exact rfl) (hsz:0<TC.sz α:=by decide) (hzl:zs.length=TC.sz α:=by exact rfl) (hsm:len*TC.sz α≤16777216:=by decide):aW P C n o s ((⟨s.env,s.st.addRow ⟨E,TC.sz α,TC.trs l,false⟩⟩:AS).putO o.dst (.acc (TC.sz α) (TC.trs l) s.st.rows.length)):=
 aW.buildSliceA (es:=l.map TC.cs) ho hd hT hz hp hc hle (by rw [List.length_map];exact hel) (fun e he=>TC.all l e (by rw [TC.map];exact he)) hsz hzl hsm (TC.map l).symm
theorem lC{α:Type}[Inhabited α][TC α]{T E by_:Nat}{x y:Operand}{a b:List α}{r:Nat}{row:oO}{p:PV}(h:a.length+b.length≤68719476736)(hT:elemOf? P T=some (E,TC.sz α,by_))(hz:(P.info? E).bind (fun i=>i.zero.map (fun z=>z.cells.size))=some (TC.sz α))(ho:o.op= .call { callee:= .builtin .append,args:= #[x,y],argTypes:= #[T,T] }:=by exact rfl)(hd:bQ o.dst n=true:=by exact rfl)
 (hx:s.ev x=some (.acc (TC.sz α) (TC.trs a) r):=by exact rfl) (hrow:s.st.rows[r]?=some row:=by exact rfl) (hes:row.es=TC.trs a:=by exact rfl) (hE:row.E=E:=by exact rfl) (hw:row.whole=false:=by exact rfl) (hy:s.ev y=some p:=by exact rfl) (hp:lF p=some (TC.sz α,TC.trs b):=by exact rfl)
 (hb:0<by_:=by decide) (hb2:by_≤2048:=by decide):aW P C n o s ((⟨s.env,s.st.setRow r { row with es:=TC.trs (a++b) }⟩:AS).putO o.dst (.acc (TC.sz α) (TC.trs (a++b)) r)):=
 aW.appendE ho hd hx hrow hes hE hw hy hp (TC.all b) hT hz hb (by rw [TC.len,TC.len];exact vV h hb2) (TC.app a b)
theorem n5{x:Operand}{k d:Nat}(ho:o.op= .nilCheck x:=by exact rfl)(hd:bQ o.dst n=true:=by exact rfl)(hx:s.ev x=some (.ptr k d):=by exact rfl):aW P C n o s (s.putO o.dst (.ptr k d)):=aW.nilPtr ho hd hx
theorem bS{x y z:Operand}{b:Bool}{p:PV}(hb:b=true)(ho:o.op= .pick x y z:=by exact rfl)(hd:bQ o.dst n=true:=by exact rfl)(hx:s.ev x=some (.t (.leaf (.bool b))):=by exact rfl)(hy:s.ev y=some p:=by exact rfl):aW P C n o s (s.putO o.dst p):=aW.pickT ho hd hx hb hy
theorem b4{x y z:Operand}{b:Bool}{p:PV}(hb:b=false)(ho:o.op= .pick x y z:=by exact rfl)(hd:bQ o.dst n=true:=by exact rfl)(hx:s.ev x=some (.t (.leaf (.bool b))):=by exact rfl)(hy:s.ev z=some p:=by exact rfl):aW P C n o s (s.putO o.dst p):=aW.pickF ho hd hx hb hy
theorem bJ{f:FuncId}{fn:Func}{xs:List Operand}{ts:Array TypeId}{ps qs:List PV}{res:PV}(hf:P.funcs[f]?=some fn)(hc:cH P f qs res)(ho:o.op= .call { callee:= .value (.func f),args:=⟨xs⟩,argTypes:=ts }:=by exact rfl)(hd:bQ o.dst n=true:=by exact rfl)(hnm:(fn.name== "runtime.NumGoroutine")=false:=by kernel_rfl)(hb:fn.body.isNone=false:=by exact rfl)
 (hx:evA s xs=some ps:=by exact rfl) (hle:sS ps qs:=by exact mD) (h1:iW qs=true:=by exact rfl) (h2:PV.free res=true:=by exact rfl):aW P C n o s (s.putO o.dst res):=aW.callF ho hd hf hnm hb (TU hx) hle h1 h2 hc
theorem aiB{S pre:cU}{fb fr:List Nat}(hb:n6 S fb fr pre fb pre.boxes:=by repeat' (first|exact trivial|refine⟨⟨_,rfl,rfl,mD,rfl⟩,?_⟩))(hr:qK S fr pre.rows:=by repeat' (first|exact trivial|refine⟨rfl,?_⟩))(h1:fb.Nodup:=by decide)(h2:fr.Nodup:=by decide):mO S pre fb fr:=mO.of hb hr h1 h2
theorem gF{f:FuncId}{fn:Func}{xs:List Operand}{ts:Array TypeId}{ps qs:List PV}{res:PV}{pre st':cU}(fb fr:List Nat)(hf:P.funcs[f]?=some fn)(hc:dG P f qs pre (fun r t=>r=res∧t=st'))(ho:o.op= .call { callee:= .value (.func f),args:=⟨xs⟩,argTypes:=ts }:=by exact rfl)(hd:bQ o.dst n=true:=by exact rfl)(hnm:(fn.name== "runtime.NumGoroutine")=false:=by kernel_rfl)(hb:fn.body.isNone=false:=by exact rfl)
 (hx:evA s xs=some ps:=by exact rfl) (hp:mO s.st pre fb fr:=by exact aiB) (hle:sS ps (zX fb fr qs):=by exact mD) (hok:lP pre qs=true:=by exact rfl) (hbl:st'.boxes.length=pre.boxes.length:=by exact rfl) (hrl:st'.rows.length=pre.rows.length:=by exact rfl):aW P C n o s ((⟨s.env,s.st.over st' fb fr⟩:AS).putO o.dst (PV.ren fb fr res)):=aW.callPE fb fr ho hd hf hnm hb (TU hx) rfl hp hle hok hbl hrl hc
end
theorem dne{x a b:Int}(h:decide (x=a)=true)(hab:a≠b):decide (x=b)=false:=by
 rw [of_decide_eq_true h]
 exact decide_eq_false hab
theorem aa1{x b:Int}(h:(decide (x=2)||decide (x=3))=true)(h2:2≠b)(h3:3≠b):decide (x=b)=false:=by
 rw [Bool.or_eq_true,decide_eq_true_eq,decide_eq_true_eq] at h
 refine decide_eq_false fun e=>?_
 omega
theorem agT{x:Int}(h:(decide (x=2)||decide (x=3))=true)(h2:decide (x=2)=false):decide (x=3)=true:=by
 rw [h2,Bool.false_or] at h
 exact h
theorem ah6{x:Int}(h:(decide (x=2)||decide (x=3))=false):decide (x=2)=false:=(Bool.or_eq_false_iff.1 h).1
theorem aiR{x:Int}(h:(decide (x=2)||decide (x=3))=false):decide (x=3)=false:=(Bool.or_eq_false_iff.1 h).2
theorem aW.appendLitBE{P:Program}{C:oE}{n:Nat}{s:AS}{o:Oper}{T E sz by_:Nat}{x y:Operand}{es1 es2 es3:List (List Tr)}{cs:List PV}{p:PV}{len:Nat}(ho:o.op= .call { callee:= .builtin .append,args:= #[x,y],argTypes:= #[T,T] })(hd:bQ o.dst n=true)
 (hx:s.ev x=some (.lit sz es1)) (hy:s.ev y=some p) (hp:lF p=some (sz,es2)) (h1: ∀e∈es1,e.length=sz) (h2: ∀e∈es2,e.length=sz) (hne:es2≠ []) (hsz:0<sz)
 (hT:elemOf? P T=some (E,sz,by_)) (hz:(P.info? E).bind (fun i=>i.zero.map (fun z=>z.cells.size))=some sz) (hb:0<by_) (hlen:(es1.length+es2.length)*by_≤140737488355328) (h3:es1++es2=es3) (hcs:es3.flatten.map PV.t=cs) (hl:es1.length+es2.length=len):
 aW P C n o s ((⟨s.env,s.st.addBox ⟨E,cs⟩⟩:AS).putO o.dst (.gsl s.st.boxes.length len)):=aW.appendLitB ho hd hx hy hp h1 h2 hne hsz hT hz hb hlen (by rw [h3];exact hcs) hl
end Go.Proofs.YtpioomclpaiomaaGreat

namespace Go.Proofs.YtpioomclpaiomaaGreat
set_option linter.unusedSimpArgs false
set_option linter.unusedVariables false
open Go.RowKit Go.WalkArith Go.IntWalk Go.WideShapes
section
variable {P:Program} {C:oE} {n:Nat} {o:Oper}
theorem adE{a:Act}{K1 K:Act→World→Prop}{Q:Exit→Act→World→Prop}(hv: ∀v w',K1 (a.put o.dst v) w'→K (a.put o.dst v) w')
 (hd: ∀d w',K1 (({ a with defers:=d::a.defers }:Act).put o.dst undef) w'→K (({ a with defers:=d::a.defers }:Act).put o.dst undef) w'): ∀r,o.upon P a K1 Q r→o.upon P a K Q r:=by
 intro r h
 cases r with
 |ok x w'=>
  cases x with
  |value v=>exact hv v w' h
  |skip=>exact hv undef w' h
  |defer d=>exact hd d w' h
  |enter f args=>
   refine Calls.mono h fun e w'' he=>?_
   cases e with
   |returned v=>exact hv v w'' he
   |panicked c=>exact he
   |outgrown=>exact he
  |row r args=>exact Rows.mono h fun v w'' he=>hv v w'' he
  |_=>exact h
 |halt x w'=>
  cases x with
  |panic v=>exact h
  |_=>exact h
theorem TT(s:AS)(d:Nat)(p:PV)(i:Nat):(s.putO (some d) p).lk i=if i=d then some p else s.lk i:=AS.lk_put s d i p
theorem aW.frame{E:List (Nat×PV)}{st st1:cU}{p:PV}{s':AS}(h: ∀C',aW P C' n o ⟨E,st⟩ ((⟨E,st1⟩:AS).putO o.dst p))(hst:s'.st=st)(hl: ∀t q,E.lookup t=some q→s'.lk t=some q):
 aW P C n o s' ((⟨s'.env,st1⟩:AS).putO o.dst p):=fun m a w hr K Q hK=>by
 subst hst
 have hr':RA ⟨C.av,s'.st,m,w⟩ n ⟨E,s'.st⟩ m a w:=⟨hr.dfr,hr.tsz,hr.sto,fun i q hq=>hr.env i q (hl i q hq),Ev.refl _ _ _⟩
 have h1:=h ⟨C.av,s'.st,m,w⟩ m a w hr' (fun a' w'=> ∃m',RA ⟨C.av,s'.st,m,w⟩ n ((⟨E,st1⟩:AS).putO o.dst p) m' a' w') Q (fun m' a' w' h=>⟨m',h⟩)
 unfold Oper.wp at h1 ⊢
 refine adE (fun v w'=>?_) (fun d w'=>?_) _ h1
 ·rintro⟨m',h2⟩
  refine hK m' _ w' ?_
  have key: ∀(dst:Option Nat),dst=o.dst→RA C n ((⟨s'.env,st1⟩:AS).putO dst p) m' (a.put dst v) w':=fun dst hdst=>by
   rw [← hdst] at h2
   cases dst with
   |none=>
    have hE:Ev s'.st m w st1 m' w':=h2.ev
    exact⟨h2.dfr,h2.tsz,h2.sto,fun i q hq=>by
     obtain⟨v',hv',hrv⟩:=hr.env i q hq
     exact⟨v',hv',RV.mono hE q v' hrv⟩,hr.ev.trans hE⟩
   |some d=>
    have hE:Ev s'.st m w st1 m' w':=h2.ev
    refine⟨h2.dfr,h2.tsz,h2.sto,fun i q hq=>?_,hr.ev.trans hE⟩
    rw [TT] at hq
    by_cases hi:i=d
    ·rw [if_pos hi] at hq
     cases hq
     exact h2.env i _ (by rw [TT,if_pos hi])
    ·rw [if_neg hi] at hq
     obtain⟨v',hv',hrv⟩:=hr.env i q hq
     exact⟨v',by simp only [Act.put];rw [Array.getElem?_setIfInBounds_ne (fun e=>hi e.symm)];exact hv',RV.mono hE q v' hrv⟩
  exact key o.dst rfl
 ·rintro⟨m',h2⟩
  have h3:=h2.dfr
  have h4:(({ a with defers:=d::a.defers }:Act).put o.dst undef).defers=d::a.defers:=by
   cases o.dst<;>rfl
  rw [h4] at h3
  cases h3
theorem aW.frame0{E:List (Nat×PV)}{st st1:cU}{s':AS}(hn:o.dst=none)(h: ∀C',aW P C' n o ⟨E,st⟩ ⟨E,st1⟩)(hst:s'.st=st)(hl: ∀t q,E.lookup t=some q→s'.lk t=some q):
 aW P C n o s' ⟨s'.env,st1⟩:=by
 have:=aW.frame (C:=C) (P:=P) (n:=n) (o:=o) (p:= .nil) (E:=E) (st:=st) (st1:=st1) (s':=s') (by rw [hn];exact h) hst hl
 rw [hn] at this
 exact this
structure DD where
 outs:List (Option PV)
 ks:List (Option DK)
 ins:List (List Nat)
 effs:List Nat
 fs:List (Option cV→cU)
 rds:List ((Nat×Nat)×Nat×Option (Option cV))
 az:Option (Nat×cV)
def DD.cz(g:DD):Option cV:=g.az.map (·.2)
def ab:Option cV→cU→cU
 |none,st=>st
 |some z,st=>st.addBox z
def FT:cU:=⟨[],[⟨0,0,[],false⟩]⟩
def tw(st:cU):Option cV→cU
 |none=>FT
 |some _=>st
theorem af4{C:oE}{n:Nat}{env:List (Nat×PV)}{m:iH}{a:Act}{w:World}(h:RA C n ⟨env,FT⟩ m a w):False:=by
 have:=(h.sto.row 0 ⟨0,0,[],false⟩ rfl).1
 exact absurd this (by decide)
theorem aW.bad{P:Program}{C:oE}{n:Nat}{o:Oper}{s s1:AS}(hs:s.st=FT):aW P C n o s s1:=fun m a w hr K Q hK=>by
 obtain⟨env,st⟩:=s
 cases hs
 exact(af4 hr).elim
theorem aW.away{P:Program}{C:oE}{n:Nat}{o:Oper}{s s1:AS}{t k off:Nat}(hl:s.lk t=some (.ptr k off))(hk:s.st.boxes[k]?=none):aW P C n o s s1:=fun m a w hr K Q hK=>by
 obtain⟨v,-,⟨x,hx⟩,-⟩:=hr.env t _ hl
 rw [hk] at hx
 cases hx
def rs(s:AS):List Nat→List (Nat×PV)
 | []=> []
 |t::ts=>match s.lk t with
  |some p=>(t,p)::rs s ts
  |none=>rs s ts
theorem aaT{s:AS}{t:Nat}{q:PV}: ∀ {I:List Nat},(rs s I).lookup t=some q→t∈I∧s.lk t=some q
 | [],h=>by cases h
 |x::I,h=>by
  unfold rs at h
  cases hx:s.lk x with
  |none=>
   rw [hx] at h
   obtain⟨h1,h2⟩:=aaT (I:=I) h
   exact⟨.tail _ h1,h2⟩
  |some p=>
   rw [hx] at h
   dsimp only at h
   rw [List.lookup_cons] at h
   by_cases htx:t=x
   ·subst htx
    simp only [BEq.rfl] at h
    cases h
    exact⟨.head _,hx⟩
   ·rw [show(t==x)=false by simp [htx]] at h
    obtain⟨h1,h2⟩:=aaT (I:=I) h
    exact⟨.tail _ h1,h2⟩
def TS(l:List Oper)(e0:List (Nat×PV))(outs:List (Option PV))(i t:Nat)(p:PV):Prop:=
 (∃(j:Nat) (o:Oper),j<i∧l[j]?=some o∧o.dst=some t∧outs[j]?=some (some p))∨(e0.lookup t=some p∧ ∀(j:Nat) (o:Oper),j<i→l[j]?=some o→o.dst≠some t)
inductive WD (l:List Oper) (e0:List (Nat×PV)) (outs:List (Option PV)) (i:Nat) (o:Oper):Bool→Prop
 |n:o.guard=none→WD l e0 outs i o true
 |y {j d:Nat} {b c:Bool}:o.guard=some (j,c)→(l[j]?).bind (·.dst)=some d→TS l e0 outs i d (.t (.leaf (.bool b)))→WD l e0 outs i o (b==c)
 |u {j d:Nat} {c:Bool}:o.guard=some (j,c)→(l[j]?).bind (·.dst)=some d→TS l e0 outs i d (.tup [])→WD l e0 outs i o false
inductive WS (l:List Oper) (s:AS) (o:Oper):Bool→Prop
 |n:o.guard=none→WS l s o true
 |y {j d:Nat} {b c:Bool}:o.guard=some (j,c)→(l[j]?).bind (·.dst)=some d→s.lk d=some (.t (.leaf (.bool b)))→WS l s o (b==c)
 |u {j d:Nat} {c:Bool}:o.guard=some (j,c)→(l[j]?).bind (·.dst)=some d→s.lk d=some (.tup [])→WS l s o false
inductive J1 (P:Program) (n N:Nat) (md:Bool) (g:DD) (i:Nat) (o:Oper) (E:List (Nat×PV)):Prop
 |q {p:PV}:g.ks[i]?=some none→g.outs[i]?=some (some p)→(∀C' st,aW P C' n o ⟨E,st⟩ ((⟨E,st⟩:AS).putO o.dst p))→J1 P n N md g i o E
 |r {lo hi k:Nat} {X:Option (Option cV)} {p:PV}:g.ks[i]?=some (some (.q lo hi))→g.outs[i]?=some (some p)→((lo,hi),k,X)∈g.rds→(md=true→k<N)→(∀C' (st:cU),st.boxes[k]?=X→aW P C' n o ⟨E,st⟩ ((⟨E,st⟩:AS).putO o.dst p))→J1 P n N md g i o E
 |c {j:Nat} {f:Option cV→cU} {p:PV}:g.ks[i]?=some (some (.q j j))→g.outs[i]?=some (some p)→g.fs[j]?=some f→(∀C' z,aW P C' n o ⟨E,f z⟩ ((⟨E,f z⟩:AS).putO o.dst p))→J1 P n N md g i o E
 |e {j:Nat} {f f1:Option cV→cU} {p:PV}:g.ks[i]?=some (some (.ef j))→g.outs[i]?=some (some p)→g.fs[j]?=some f→g.fs[j+1]?=some f1→(∀C' z,aW P C' n o ⟨E,f z⟩ ((⟨E,f1 z⟩:AS).putO o.dst p))→J1 P n N md g i o E
 |e0 {j:Nat} {f f1:Option cV→cU}:g.ks[i]?=some (some (.ef j))→o.dst=none→g.fs[j]?=some f→g.fs[j+1]?=some f1→(∀C' z,aW P C' n o ⟨E,f z⟩ ⟨E,f1 z⟩)→J1 P n N md g i o E
 |ea {j a t off:Nat} {zb:cV} {f f1:Option cV→cU}:g.az=some (a,zb)→g.ks[i]?=some (some (.ef j))→o.dst=none→g.fs[j]?=some f→g.fs[j+1]?=some f1→E.lookup t=some (.ptr N off)→(f none=FT∨(f none).boxes.length=N)→(∀C',aW P C' n o ⟨E,f (some zb)⟩ ⟨E,f1 (some zb)⟩)→J1 P n N md g i o E
 |al {zb:cV}:md=true→g.az=some (i,zb)→g.ks[i]?=some (some .al)→g.outs[i]?=some (some (.ptr N 0))→(∀C' st,st.boxes.length=N→aW P C' n o ⟨[],st⟩ ((⟨[],st.addBox zb⟩:AS).putO o.dst (.ptr N 0)))→J1 P n N md g i o E
inductive L5 (P:Program) (n N:Nat) (md:Bool) (l:List Oper) (e0:List (Nat×PV)) (g:DD) (i:Nat) (o:Oper):Prop
 |does {E:List (Nat×PV)} {I:List Nat}:WD l e0 g.outs i o true→g.ins[i]?=some I→(∀t q,E.lookup t=some q→t∈I∧TS l e0 g.outs i t q)→J1 P n N md g i o E→L5 P n N md l e0 g i o
 |skip:WD l e0 g.outs i o false→g.ks[i]?=some none→g.outs[i]?=some (some (.tup []))→bQ o.dst n=true→L5 P n N md l e0 g i o
structure DD.le (g g':DD):Prop where
 outs: ∀(i:Nat) (x:Option PV),g.outs[i]?=some x→g'.outs[i]?=some x
 ks: ∀(i:Nat) (x:Option DK),g.ks[i]?=some x→g'.ks[i]?=some x
 ins: ∀(i:Nat) (x:List Nat),g.ins[i]?=some x→g'.ins[i]?=some x
 fs: ∀(i:Nat) (x:Option cV→cU),g.fs[i]?=some x→g'.fs[i]?=some x
 rds: ∀x∈g.rds,x∈g'.rds
 az: ∀x,g.az=some x→g'.az=some x
theorem II{g g':DD}(h:g.le g'){l:List Oper}{e0:List (Nat×PV)}{i t:Nat}{p:PV}(k:TS l e0 g.outs i t p):TS l e0 g'.outs i t p:=by
 rcases k with⟨j,o,h1,h2,h3,h4⟩|k
 ·exact .inl ⟨j,o,h1,h2,h3,h.outs _ _ h4⟩
 ·exact .inr k
theorem aa7{g g':DD}(h:g.le g'){l:List Oper}{e0:List (Nat×PV)}{i:Nat}{o:Oper}{b:Bool}(k:WD l e0 g.outs i o b):WD l e0 g'.outs i o b:=by
 cases k with
 |n a=>exact .n a
 |y a b c=>exact .y a b (II h c)
 |u a b c=>exact .u a b (II h c)
theorem L5.mono{N:Nat}{md:Bool}{l:List Oper}{e0:List (Nat×PV)}{g g':DD}{i:Nat}{o:Oper}(h:g.le g')(k:L5 P n N md l e0 g i o):L5 P n N md l e0 g' i o:=by
 cases k with
 |does h1 h2 h3 h4=>
  refine .does (aa7 h h1) (h.ins _ _ h2) (fun t q ht=>⟨(h3 t q ht).1,II h (h3 t q ht).2⟩) ?_
  cases h4 with
  |q a b c=>exact .q (h.ks _ _ a) (h.outs _ _ b) c
  |r a b c d e=>exact .r (h.ks _ _ a) (h.outs _ _ b) (h.rds _ c) d e
  |c a b c d=>exact .c (h.ks _ _ a) (h.outs _ _ b) (h.fs _ _ c) d
  |e a b c d e=>exact .e (h.ks _ _ a) (h.outs _ _ b) (h.fs _ _ c) (h.fs _ _ d) e
  |e0 a b c d e=>exact .e0 (h.ks _ _ a) b (h.fs _ _ c) (h.fs _ _ d) e
  |ea z a b c d e f q=>exact .ea (h.az _ z) (h.ks _ _ a) b (h.fs _ _ c) (h.fs _ _ d) e f q
  |al md z a b c=>exact .al md (h.az _ z) (h.ks _ _ a) (h.outs _ _ b) c
 |skip h1 h2 h3 h4=>exact .skip (aa7 h h1) (h.ks _ _ h2) (h.outs _ _ h3) h4
structure acS (P:Program) (n:Nat) (md:Bool) (l:List Oper) (s0:AS) (g:DD) (s:AS):Prop where
 hs0: ∃f,g.fs[0]?=some f∧f none=s0.st
 hfl:g.fs.length=g.effs.length+1
 hlast: ∃f,g.fs[g.effs.length]?=some f∧f g.cz=s.st∧(md=false→f=fun _=>s.st)∧(md=true→g.az=none→f=fun z=>ab z s.st)
 hk:g.ks.length=g.outs.length
 hi:g.ins.length=g.outs.length
 hz:md=true→ ∀f∈g.fs,f none=FT∨((f none).boxes.length=s0.st.boxes.length∧ ∀z,f (some z)=(f none).addBox z)
 hm:md=false→g.az=none
 hlk: ∀t p,s.lk t=some p→TS l s0.env g.outs g.outs.length t p
 hf: ∀(i:Nat) (o:Oper),l[i]?=some o→i<g.outs.length→L5 P n s0.st.boxes.length md l s0.env g i o
def DW(P:Program)(C:oE)(n id:Nat)(md:Bool)(l:List Oper)(Q:Exit→AS→Prop)(s0:AS)(g:DD)(s:AS)(rest:List Oper):Prop:=
 acS P n md l s0 g s→l.drop g.outs.length=rest→aO P C n (.region id l.toArray true) Q s0
variable {id:Nat} {l:List Oper} {Q:Exit→AS→Prop} {s0 s:AS} {g:DD} {rest:List Oper} {md:Bool}
theorem dW(h:DW P C n id false l Q s ⟨[],[],[],[],[fun _=>s.st],[],none⟩ s l):aO P C n (.region id l.toArray true) Q s:=
 h ⟨⟨_,rfl,rfl⟩,rfl,⟨_,rfl,rfl,fun _=>rfl,fun h=>(by cases h)⟩,rfl,rfl,fun h=>(by cases h),fun _=>rfl,fun t p ht=> .inr ⟨ht,fun j o hj=>(by cases hj)⟩,fun i o _ hi=>(by cases hi)⟩ rfl
theorem dWa(h:DW P C n id true l Q s ⟨[],[],[],[],[fun z=>ab z s.st],[],none⟩ s l):aO P C n (.region id l.toArray true) Q s:=
 h ⟨⟨_,rfl,rfl⟩,rfl,⟨_,rfl,rfl,fun h=>(by cases h),fun _ _=>rfl⟩,rfl,rfl,fun _ f hf=>(by obtain rfl:=List.mem_singleton.1 hf;exact .inr ⟨rfl,fun z=>rfl⟩),fun h=>(by cases h),fun t p ht=> .inr ⟨ht,fun j o hj=>by cases hj⟩,fun i o _ hi=>by cases hi⟩ rfl
theorem cZ{α:Type}{l:List α}{y:α}(i:Nat)(x:α)(h:l[i]?=some x):(l++ [y])[i]?=some x:=by
 obtain⟨hi,-⟩:=List.getElem?_eq_some_iff.1 h
 rw [List.getElem?_append_left hi]
 exact h
theorem b0{α:Type}{l:List α}{y:α}{k:Nat}(h:l.length=k):(l++ [y])[k]?=some y:=by subst h;simp
theorem sP{o:Oper}(h:l.drop g.outs.length=o::rest):l[g.outs.length]?=some o∧l.drop (g.outs.length+1)=rest:=by
 constructor
 ·have:=congrArg (fun x=>x[0]?) h
  simpa using this
 ·rw [← List.drop_drop,h]
  rfl
theorem acS.next{g':DD}{s':AS}(hv:acS P n md l s0 g s)(ho:l[g.outs.length]?=some o)(hle:g.le g')(h0:g'.outs.length=g.outs.length+1)(hk:g'.ks.length=g.ks.length+1)(hi:g'.ins.length=g.ins.length+1)(hfl:g'.fs.length=g'.effs.length+1)
 (hlast: ∃f,g'.fs[g'.effs.length]?=some f∧f g'.cz=s'.st∧(md=false→f=fun _=>s'.st)∧(md=true→g'.az=none→f=fun z=>ab z s'.st)) (hz:md=true→ ∀f∈g'.fs,f none=FT∨((f none).boxes.length=s0.st.boxes.length∧ ∀z,f (some z)=(f none).addBox z)) (hm:md=false→g'.az=none)
 (hlk: ∀t p,s'.lk t=some p→(o.dst=some t∧g'.outs[g.outs.length]?=some (some p))∨(o.dst≠some t∧s.lk t=some p)) (hf:L5 P n s0.st.boxes.length md l s0.env g' g.outs.length o):acS P n md l s0 g' s' where
 hs0:=by obtain⟨f,h1,h2⟩:=hv.hs0;exact⟨f,hle.fs _ _ h1,h2⟩
 hfl:=hfl
 hlast:=hlast
 hk:=by rw [hk,h0,hv.hk]
 hi:=by rw [hi,h0,hv.hi]
 hz:=hz
 hm:=hm
 hlk:=fun t p ht=>by
  rcases hlk t p ht with⟨h1,h2⟩|⟨h1,h2⟩
  ·exact .inl ⟨_,o,by omega,ho,h1,h2⟩
  ·rcases hv.hlk t p h2 with⟨j,oj,a,b,c,d⟩|⟨a,b⟩
   ·exact .inl ⟨j,oj,by omega,b,c,hle.outs _ _ d⟩
   ·refine .inr ⟨a,fun j oj hj hoj=>?_⟩
    rcases Nat.lt_or_ge j g.outs.length with hlt|hge
    ·exact b j oj hlt hoj
    ·obtain rfl:j=g.outs.length:=by omega
     rw [ho] at hoj
     cases hoj
     exact h1
 hf:=fun i oi hoi hi'=>by
  rcases Nat.lt_or_ge i g.outs.length with hlt|hge
  ·exact(hv.hf i oi hoi hlt).mono hle
  ·obtain rfl:i=g.outs.length:=by omega
   rw [ho] at hoi
   cases hoi
   exact hf
theorem vO{st1:cU}{p:PV}(t:Nat)(q:PV)(outs:List (Option PV))(k:Nat)(hk:outs[k]?=some (some p))(h:((⟨s.env,st1⟩:AS).putO o.dst p).lk t=some q):(o.dst=some t∧outs[k]?=some (some q))∨(o.dst≠some t∧s.lk t=some q):=by
 cases hd:o.dst with
 |none=>rw [hd] at h;exact .inr ⟨by simp,h⟩
 |some d=>
  rw [hd,TT] at h
  by_cases htd:t=d
  ·rw [if_pos htd] at h
   cases h
   exact .inl ⟨by rw [htd],hk⟩
  ·rw [if_neg htd] at h
   exact .inr ⟨fun e=>htd (Option.some.inj e).symm,h⟩
theorem vW(s:AS)(d:Option Nat)(p:PV):(s.putO d p).st=s.st:=by cases d<;>rfl
theorem WS.wd{g':DD}{b:Bool}(h:WS l s o b)(hv:acS P n md l s0 g s)(hle:g.le g'):WD l s0.env g'.outs g.outs.length o b:=by
 cases h with
 |n a=>exact .n a
 |y a b c=>exact .y a b (II hle (hv.hlk _ _ c))
 |u a b c=>exact .u a b (II hle (hv.hlk _ _ c))
theorem AK{g':DD}(hv:acS P n md l s0 g s)(hle:g.le g')(I:List Nat): ∀t q,(rs s I).lookup t=some q→t∈I∧TS l s0.env g'.outs g.outs.length t q:=fun t q h=>⟨(aaT h).1,II hle (hv.hlk t q (aaT h).2)⟩
theorem dI(I:List Nat){p:PV}(h: ∀ {C':oE} {st:cU},aW P C' n o ⟨rs s I,st⟩ ((⟨rs s I,st⟩:AS).putO o.dst p))(k:DW P C n id md l Q s0 ⟨g.outs++ [some p],g.ks++ [none],g.ins++ [I],g.effs,g.fs,g.rds,g.az⟩ (s.putO o.dst p) rest)(hg:WS l s o true:=by exact .n rfl):
 DW P C n id md l Q s0 g s (o::rest):=fun hv hr=>by
 obtain⟨ho,hd⟩:=sP hr
 have hle:g.le ⟨g.outs++ [some p],g.ks++ [none],g.ins++ [I],g.effs,g.fs,g.rds,g.az⟩:=⟨cZ,cZ,cZ,fun _ _ h=>h,fun _ h=>h,fun _ h=>h⟩
 refine k (hv.next ho hle (by simp) (by simp) (by simp) hv.hfl (by rw [vW];exact hv.hlast) hv.hz hv.hm (fun t q hq=>vO t q _ _ (b0 rfl) hq) ?_) (by simpa using hd)
 exact .does (hg.wd hv hle) (b0 hv.hi) (AK hv hle I) (.q (b0 hv.hk) (b0 rfl) fun _ _=>h)
theorem dD(I:List Nat){p:PV}(h: ∀ {C':oE},aW P C' n o ⟨rs s I,s.st⟩ ((⟨rs s I,s.st⟩:AS).putO o.dst p))(k:DW P C n id false l Q s0 ⟨g.outs++ [some p],g.ks++ [some (.q g.effs.length g.effs.length)],g.ins++ [I],g.effs,g.fs,g.rds,g.az⟩ (s.putO o.dst p) rest)(hg:WS l s o true:=by exact .n rfl):
 DW P C n id false l Q s0 g s (o::rest):=fun hv hr=>by
 obtain⟨ho,hd⟩:=sP hr
 obtain⟨f,q1,-,q2,-⟩:=hv.hlast
 have q2:=q2 rfl
 subst q2
 have hle:g.le ⟨g.outs++ [some p],g.ks++ [some (.q g.effs.length g.effs.length)],g.ins++ [I],g.effs,g.fs,g.rds,g.az⟩:=⟨cZ,cZ,cZ,fun _ _ h=>h,fun _ h=>h,fun _ h=>h⟩
 refine k (hv.next ho hle (by simp) (by simp) (by simp) hv.hfl (by rw [vW];exact hv.hlast) hv.hz hv.hm (fun t q hq=>vO t q _ _ (b0 rfl) hq) ?_) (by simpa using hd)
 exact .does (hg.wd hv hle) (b0 hv.hi) (AK hv hle I) (.c (b0 hv.hk) (b0 rfl) q1 fun _ _=>h)
def af6(P:Program)(n:Nat)(o:Oper)(s:AS)(I:List Nat)(kb:Nat)(X:Option (Option cV))(p:PV):Prop:= ∀C' (st:cU),st.boxes[kb]?=X→aW P C' n o ⟨rs s I,st⟩ ((⟨rs s I,st⟩:AS).putO o.dst p)
theorem dB(I:List Nat)(lo hi:Nat){kb:Nat}{X:Option (Option cV)}{p:PV}(h:af6 P n o s I kb X p)(k:DW P C n id false l Q s0 ⟨g.outs++ [some p],g.ks++ [some (.q lo hi)],g.ins++ [I],g.effs,g.fs,g.rds++ [((lo,hi),kb,X)],g.az⟩ (s.putO o.dst p) rest)(hg:WS l s o true:=by exact .n rfl):
 DW P C n id false l Q s0 g s (o::rest):=fun hv hr=>by
 obtain⟨ho,hd⟩:=sP hr
 have hle:g.le ⟨g.outs++ [some p],g.ks++ [some (.q lo hi)],g.ins++ [I],g.effs,g.fs,g.rds++ [((lo,hi),kb,X)],g.az⟩:=⟨cZ,cZ,cZ,fun _ _ h=>h,fun _ h=>List.mem_append_left _ h,fun _ h=>h⟩
 refine k (hv.next ho hle (by simp) (by simp) (by simp) hv.hfl (by rw [vW];exact hv.hlast) hv.hz hv.hm (fun t q hq=>vO t q _ _ (b0 rfl) hq) ?_) (by simpa using hd)
 exact .does (hg.wd hv hle) (b0 hv.hi) (AK hv hle I) (.r (b0 hv.hk) (b0 rfl) (by simp) (fun h=>by cases h) h)
theorem dBz(I:List Nat)(lo hi:Nat){kb:Nat}{X:Option (Option cV)}{p:PV}(h:af6 P n o s I kb X p)(k:DW P C n id true l Q s0 ⟨g.outs++ [some p],g.ks++ [some (.q lo hi)],g.ins++ [I],g.effs,g.fs,g.rds++ [((lo,hi),kb,X)],g.az⟩ (s.putO o.dst p) rest)(hg:WS l s o true:=by exact .n rfl)(hkN:(decide (kb<s0.st.boxes.length))=true:=by exact rfl):
 DW P C n id true l Q s0 g s (o::rest):=fun hv hr=>by
 obtain⟨ho,hd⟩:=sP hr
 have hle:g.le ⟨g.outs++ [some p],g.ks++ [some (.q lo hi)],g.ins++ [I],g.effs,g.fs,g.rds++ [((lo,hi),kb,X)],g.az⟩:=⟨cZ,cZ,cZ,fun _ _ h=>h,fun _ h=>List.mem_append_left _ h,fun _ h=>h⟩
 refine k (hv.next ho hle (by simp) (by simp) (by simp) hv.hfl (by rw [vW];exact hv.hlast) hv.hz hv.hm (fun t q hq=>vO t q _ _ (b0 rfl) hq) ?_) (by simpa using hd)
 exact .does (hg.wd hv hle) (b0 hv.hi) (AK hv hle I) (.r (b0 hv.hk) (b0 rfl) (by simp) (fun _=>of_decide_eq_true hkN) h)
theorem s5{I:List Nat}{T:TypeId}{x:Operand}{kb d z:Nat}{bx:cV}{p:PV}(hT:b8 P T=some (false,z))
 (ho:o.op= .load T x:=by exact rfl) (hd:bQ o.dst n=true:=by exact rfl) (hx:(⟨rs s I,s.st⟩:AS).ev x=some (.ptr kb d):=by exact rfl) (hb:s.st.boxes[kb]?=some (some bx):=by exact rfl) (hc:bx.cells[d]?=some p:=by exact rfl):af6 P n o s I kb (some (some bx)) p:=
 fun C' st hst=>aW.loadPtr1 ho hd (by cases x<;>exact hx) hst hT hc
theorem PY{I:List Nat}{T:TypeId}{x:Operand}{kb d z:Nat}{bx:cV}(cs:List PV)(hT:b8 P T=some (true,z))
 (ho:o.op= .load T x:=by exact rfl) (hd:bQ o.dst n=true:=by exact rfl) (hx:(⟨rs s I,s.st⟩:AS).ev x=some (.ptr kb d):=by exact rfl) (hb:s.st.boxes[kb]?=some (some bx):=by exact rfl) (hc:(bx.cells.drop d).take z=cs:=by exact rfl) (hl:cs.length=z:=by exact rfl):af6 P n o s I kb (some (some bx)) (.agg cs):=
 fun C' st hst=>aW.loadPtr ho hd (by cases x<;>exact hx) hst hT hc hl
theorem dE(I:List Nat){p:PV}{st1:cU}(h: ∀ {C':oE},aW P C' n o ⟨rs s I,s.st⟩ ((⟨rs s I,st1⟩:AS).putO o.dst p))(k:DW P C n id false l Q s0 ⟨g.outs++ [some p],g.ks++ [some (.ef g.effs.length)],g.ins++ [I],g.effs++ [g.outs.length],g.fs++ [fun _=>st1],g.rds,g.az⟩ ((⟨s.env,st1⟩:AS).putO o.dst p) rest)(hg:WS l s o true:=by exact .n rfl):
 DW P C n id false l Q s0 g s (o::rest):=fun hv hr=>by
 obtain⟨ho,hd⟩:=sP hr
 obtain⟨f,q1,-,q2,-⟩:=hv.hlast
 have q2:=q2 rfl
 subst q2
 have hle:g.le ⟨g.outs++ [some p],g.ks++ [some (.ef g.effs.length)],g.ins++ [I],g.effs++ [g.outs.length],g.fs++ [fun _=>st1],g.rds,g.az⟩:=⟨cZ,cZ,cZ,cZ,fun _ h=>h,fun _ h=>h⟩
 refine k (hv.next ho hle (by simp) (by simp) (by simp) (by simp [hv.hfl]) (by rw [vW];exact⟨_,b0 (by simp [hv.hfl]),rfl,fun _=>rfl,fun h=>by cases h⟩) (fun h=>by cases h) hv.hm (fun t q hq=>vO t q _ _ (b0 rfl) hq) ?_) (by simpa using hd)
 exact .does (hg.wd hv hle) (b0 hv.hi) (AK hv hle I) (.e (b0 hv.hk) (b0 rfl) (hle.fs _ _ q1) (b0 hv.hfl) fun _ _=>h)
theorem mZ(I:List Nat){st1:cU}(h: ∀ {C':oE},aW P C' n o ⟨rs s I,s.st⟩ ⟨rs s I,st1⟩)(k:DW P C n id false l Q s0 ⟨g.outs++ [none],g.ks++ [some (.ef g.effs.length)],g.ins++ [I],g.effs++ [g.outs.length],g.fs++ [fun _=>st1],g.rds,g.az⟩ ⟨s.env,st1⟩ rest)(hn:o.dst=none:=by exact rfl)(hg:WS l s o true:=by exact .n rfl):
 DW P C n id false l Q s0 g s (o::rest):=fun hv hr=>by
 obtain⟨ho,hd⟩:=sP hr
 obtain⟨f,q1,-,q2,-⟩:=hv.hlast
 have q2:=q2 rfl
 subst q2
 have hle:g.le ⟨g.outs++ [none],g.ks++ [some (.ef g.effs.length)],g.ins++ [I],g.effs++ [g.outs.length],g.fs++ [fun _=>st1],g.rds,g.az⟩:=⟨cZ,cZ,cZ,cZ,fun _ h=>h,fun _ h=>h⟩
 refine k (hv.next ho hle (by simp) (by simp) (by simp) (by simp [hv.hfl]) ⟨_,b0 (by simp [hv.hfl]),rfl,fun _=>rfl,fun h=>by cases h⟩ (fun h=>by cases h) hv.hm (fun t q hq=> .inr ⟨by rw [hn];simp,hq⟩) ?_) (by simpa using hd)
 exact .does (hg.wd hv hle) (b0 hv.hi) (AK hv hle I) (.e0 (b0 hv.hk) hn (hle.fs _ _ q1) (b0 hv.hfl) fun _ _=>h)
theorem dEz(I:List Nat){p:PV}{st1:cU}(h: ∀C' z,aW P C' n o ⟨rs s I,ab z s.st⟩ ((⟨rs s I,ab z st1⟩:AS).putO o.dst p))(k:DW P C n id true l Q s0 ⟨g.outs++ [some p],g.ks++ [some (.ef g.effs.length)],g.ins++ [I],g.effs++ [g.outs.length],g.fs++ [fun z=>ab z st1],g.rds,g.az⟩ ((⟨s.env,st1⟩:AS).putO o.dst p) rest)(hg:WS l s o true:=by exact .n rfl)(haz:g.az=none:=by exact rfl)(hlen:st1.boxes.length=s0.st.boxes.length:=by exact rfl):
 DW P C n id true l Q s0 g s (o::rest):=fun hv hr=>by
 obtain⟨ho,hd⟩:=sP hr
 obtain⟨f,q1,-,-,q2⟩:=hv.hlast
 have q2:=q2 rfl haz
 subst q2
 have hcz:g.cz=none:=by unfold DD.cz;rw [haz];rfl
 have hle:g.le ⟨g.outs++ [some p],g.ks++ [some (.ef g.effs.length)],g.ins++ [I],g.effs++ [g.outs.length],g.fs++ [fun z=>ab z st1],g.rds,g.az⟩:=⟨cZ,cZ,cZ,cZ,fun _ h=>h,fun _ h=>h⟩
 refine k (hv.next ho hle (by simp) (by simp) (by simp) (by simp [hv.hfl]) (by rw [vW];exact⟨_,b0 (by simp [hv.hfl]),(by show ab g.cz st1=st1;rw [hcz];rfl),fun h=>(by cases h),fun _ _=>rfl⟩) (fun hmd f hf=>(List.mem_append.1 hf).elim (hv.hz hmd f) fun h=>by obtain rfl:=List.mem_singleton.1 h;exact .inr ⟨hlen,fun z=>rfl⟩) hv.hm (fun t q hq=>vO t q _ _ (b0 rfl) hq) ?_) (by simpa using hd)
 exact .does (hg.wd hv hle) (b0 hv.hi) (AK hv hle I) (.e (b0 hv.hk) (b0 rfl) (hle.fs _ _ q1) (b0 hv.hfl) h)
theorem dA{zb:cV}(h: ∀C' st,st.boxes.length=s0.st.boxes.length→aW P C' n o ⟨[],st⟩ ((⟨[],st.addBox zb⟩:AS).putO o.dst (.ptr s0.st.boxes.length 0)))(k:DW P C n id true l Q s0 ⟨g.outs++ [some (.ptr s0.st.boxes.length 0)],g.ks++ [some .al],g.ins++ [[]],g.effs,g.fs,g.rds,some (g.outs.length,zb)⟩ ((⟨s.env,s.st.addBox zb⟩:AS).putO o.dst (.ptr s0.st.boxes.length 0)) rest)(hg:WS l s o true:=by exact .n rfl)(haz:g.az=none:=by exact rfl):
 DW P C n id true l Q s0 g s (o::rest):=fun hv hr=>by
 obtain⟨ho,hd⟩:=sP hr
 obtain⟨f,q1,-,-,q2⟩:=hv.hlast
 have q2:=q2 rfl haz
 subst q2
 have hle:g.le ⟨g.outs++ [some (.ptr s0.st.boxes.length 0)],g.ks++ [some .al],g.ins++ [[]],g.effs,g.fs,g.rds,some (g.outs.length,zb)⟩:=⟨cZ,cZ,cZ,fun _ _ h=>h,fun _ h=>h,fun x h=>by rw [haz] at h;cases h⟩
 refine k (hv.next ho hle (by simp) (by simp) (by simp) hv.hfl ⟨_,q1,by rw [vW];rfl,fun h=>(by cases h),fun _ h=>by cases h⟩ hv.hz (fun h=>by cases h) (fun t q hq=>vO t q _ _ (b0 rfl) hq) ?_) (by simpa using hd)
 exact .does (E:= []) (hg.wd hv hle) (b0 hv.hi) (fun t q h=>by cases h) (.al rfl rfl (b0 hv.hk) (b0 rfl) h)
theorem dZ(t:Nat)(I:List Nat){off a:Nat}{zb:cV}{st1:cU}(h: ∀ {C':oE},aW P C' n o ⟨rs s I,s.st⟩ ⟨rs s I,st1⟩)(k:DW P C n id true l Q s0 ⟨g.outs++ [none],g.ks++ [some (.ef g.effs.length)],g.ins++ [I],g.effs++ [g.outs.length],g.fs++ [tw st1],g.rds,g.az⟩ ⟨s.env,st1⟩ rest)(hn:o.dst=none:=by exact rfl)(hg:WS l s o true:=by exact .n rfl)(haz:g.az=some (a,zb):=by exact rfl)(hp:(rs s I).lookup t=some (.ptr s0.st.boxes.length off):=by exact rfl):
 DW P C n id true l Q s0 g s (o::rest):=fun hv hr=>by
 obtain⟨ho,hd⟩:=sP hr
 obtain⟨f,q1,q2,-,-⟩:=hv.hlast
 have hcz:g.cz=some zb:=by unfold DD.cz;rw [haz];rfl
 rw [hcz] at q2
 have q3:=hv.hz rfl f (List.mem_iff_getElem?.2 ⟨_,q1⟩)
 have hle:g.le ⟨g.outs++ [none],g.ks++ [some (.ef g.effs.length)],g.ins++ [I],g.effs++ [g.outs.length],g.fs++ [tw st1],g.rds,g.az⟩:=⟨cZ,cZ,cZ,cZ,fun _ h=>h,fun _ h=>h⟩
 refine k (hv.next ho hle (by simp) (by simp) (by simp) (by simp [hv.hfl]) ⟨_,b0 (by simp [hv.hfl]),(by show tw st1 g.cz=st1;rw [hcz];rfl),fun h=>(by cases h),fun _ h=>(by rw [show g.az=none from h] at haz;cases haz)⟩ (fun hmd f hf=>(List.mem_append.1 hf).elim (hv.hz hmd f) fun h=>by obtain rfl:=List.mem_singleton.1 h;exact .inl rfl) hv.hm (fun t q hq=> .inr ⟨by rw [hn];simp,hq⟩) ?_) (by simpa using hd)
 exact .does (hg.wd hv hle) (b0 hv.hi) (AK hv hle I) (.ea haz (b0 hv.hk) hn (hle.fs _ _ q1) (b0 hv.hfl) hp (q3.imp (fun x=>x) (·.1)) (by rw [q2];exact fun _=>h))
theorem vAl{T:TypeId}{ps:List PV}{st:cU}{N:Nat}(hN:st.boxes.length=N)(hz:cS P T=some ps)(ho:o.op= .alloc T:=by exact rfl)(hd:bQ o.dst n=true:=by exact rfl):aW P C n o ⟨[],st⟩ ((⟨[],st.addBox ⟨T,ps⟩⟩:AS).putO o.dst (.ptr N 0)):=by
 subst hN
 exact aW.alloc (s:=⟨[],st⟩) ho hd hz
theorem dS(k:DW P C n id md l Q s0 ⟨g.outs++ [some (.tup [])],g.ks++ [none],g.ins++ [[]],g.effs,g.fs,g.rds,g.az⟩ (s.putO o.dst (.tup [])) rest)(hg:WS l s o false)(hd':bQ o.dst n=true):
 DW P C n id md l Q s0 g s (o::rest):=fun hv hr=>by
 obtain⟨ho,hd⟩:=sP hr
 have hle:g.le ⟨g.outs++ [some (.tup [])],g.ks++ [none],g.ins++ [[]],g.effs,g.fs,g.rds,g.az⟩:=⟨cZ,cZ,cZ,fun _ _ h=>h,fun _ h=>h,fun _ h=>h⟩
 refine k (hv.next ho hle (by simp) (by simp) (by simp) hv.hfl (by rw [vW];exact hv.hlast) hv.hz hv.hm (fun t q hq=>vO t q _ _ (b0 rfl) hq) ?_) (by simpa using hd)
 exact .skip (hg.wd hv hle) (b0 hv.hk) (b0 rfl) hd'
theorem wD{j d:Nat}{b c e:Bool}(hv:b=e)(k:DW P C n id md l Q s0 ⟨g.outs++ [some (.tup [])],g.ks++ [none],g.ins++ [[]],g.effs,g.fs,g.rds,g.az⟩ (s.putO o.dst (.tup [])) rest)(hg:o.guard=some (j,c):=by exact rfl)(hj:(l[j]?).bind (·.dst)=some d:=by exact rfl)(hb:s.lk d=some (.t (.leaf (.bool b))):=by exact rfl)(hne:(e==c)=false:=by exact rfl)(hd':bQ o.dst n=true:=by exact rfl):
 DW P C n id md l Q s0 g s (o::rest):=dS k (by subst hv;have:=WS.y hg hj hb;rwa [hne] at this) hd'
theorem dSu{j d:Nat}{c:Bool}(k:DW P C n id md l Q s0 ⟨g.outs++ [some (.tup [])],g.ks++ [none],g.ins++ [[]],g.effs,g.fs,g.rds,g.az⟩ (s.putO o.dst (.tup [])) rest)(hg:o.guard=some (j,c):=by exact rfl)(hj:(l[j]?).bind (·.dst)=some d:=by exact rfl)(hb:s.lk d=some (.tup []):=by exact rfl)(hd':bQ o.dst n=true:=by exact rfl):
 DW P C n id md l Q s0 g s (o::rest):=dS k (.u hg hj hb) hd'
theorem aT{j d:Nat}{b c:Bool}(hv:b=c)(hg:o.guard=some (j,c):=by exact rfl)(hj:(l[j]?).bind (·.dst)=some d:=by exact rfl)(hb:s.lk d=some (.t (.leaf (.bool b))):=by exact rfl):WS l s o true:=by
 subst hv
 have:=WS.y hg hj hb
 rwa [BEq.rfl] at this
theorem adW{ops:Array Oper}(h: ∀i o,ops[i]?=some o→ ∀e∈o.after,Region.binds .any e=true→e.on<i): ∀(fuel i j:Nat),J4 ops fuel i j=true→i<j
 |0,_,_,h'=>by simp [J4] at h'
 |fuel+1,i,j,h'=>by
  simp only [J4] at h'
  split at h'
  ·rename_i o ho
   rw [List.any_eq_true] at h'
   obtain⟨e,he,h'⟩:=h'
   simp only [Bool.and_eq_true,Bool.or_eq_true,beq_iff_eq] at h'
   have h1:=h j o ho e (by simpa using he) h'.1
   rcases h'.2 with h2|h2
   ·omega
   ·have:=adW h fuel i e.on h2
    omega
  ·cases h'
def MT(l:List Oper)(i t:Nat):Option Nat:=match mK l.toArray t with
 |some j=>if j<i then some j else none
 |none=>none
def DD.draw(g:DD)(l:List Oper)(s0:AS):cY where
 ops:=l.toArray
 env0:=s0.env
 F:=fun j b=>match g.fs[j]? with
  |some f=>f (bif b then g.cz else none)
  |none=>ab (bif b then g.cz else none) s0.st
 out:=fun i=>(g.outs[i]?).getD none
 kind:=fun i=>match g.ks[i]? with
  |some (some k)=>k
  |_=> .q 0 g.effs.length
 effs:=g.effs
 alloc:=g.az.map (·.1)
 ins:=fun i=>((g.ins[i]?).getD []).map fun t=>(t,MT l i t)
def adZ(fs:List (Option cV→cU))(z:Option cV)(x:(Nat×Nat)×Nat×Option (Option cV)):List (Option (Option (Option cV))):=(List.range' x.1.1 (x.1.2+1-x.1.1)).map fun j=>(fs[j]?).map fun f=>(f z).boxes[x.2.1]?
def adY(x:(Nat×Nat)×Nat×Option (Option cV)):List (Option (Option (Option cV))):=(List.range' x.1.1 (x.1.2+1-x.1.1)).map fun _=>some x.2.2
theorem IX(hn:uN l.toArray=true){j t:Nat}(ho:l[j]?=some o)(hd:o.dst=some t):mK l.toArray t=some j:=fP hn (by simpa using ho) hd
theorem ah8{fs:List (Option cV→cU)}{z:Option cV}{rds:List ((Nat×Nat)×Nat×Option (Option cV))}(h:rds.map (adZ fs z)=rds.map adY){lo hi kb j:Nat}{X:Option (Option cV)}(hm:((lo,hi),kb,X)∈rds)(h1:lo≤j)(h2:j≤hi){f:Option cV→cU}(hs:fs[j]?=some f):(f z).boxes[kb]?=X:=by
 have e:=List.map_inj_left.1 h _ hm
 unfold adZ adY at e
 have:=List.map_inj_left.1 e j (by simp [List.mem_range'];exact⟨j-lo,by omega,by omega⟩)
 simpa [hs] using this
theorem dN(h:Q .normal s)(hm:P.follows .mixedOrders=true:=by exact aaU)(hok:(g.draw l s0).ok=true:=by kernel_rfl)(hrd:g.rds.map (adZ g.fs g.cz)=g.rds.map adY:=by kernel_rfl):DW P C n id md l Q s0 g s []:=fun hv hr=>by
 have hlen:l.length≤g.outs.length:=by
  have:=congrArg List.length hr
  simp at this
  omega
 have hok':=hok
 simp only [cY.ok,Bool.and_eq_true] at hok'
 have hn:uN l.toArray=true:=hok'.1.1.1.2
 have hpv: ∀i t q,TS l s0.env g.outs i t q→(g.draw l s0).pv (t,MT l i t)=some q:=fun i t q hs=>by
  rcases hs with⟨j,oj,h1,h2,h3,h4⟩|⟨h1,h2⟩
  ·have hw:=IX hn h2 h3
   unfold MT
   rw [hw]
   dsimp only
   rw [if_pos h1]
   show(g.outs[j]?).getD none=some q
   rw [h4]
   rfl
  ·have hw:MT l i t=none:=by
    unfold MT
    split
    ·rename_i j hj
     obtain⟨-,oj,h3,h4⟩:=sQ hj
     split
     ·rename_i hji
      exact absurd h4 (h2 j oj hji (by simpa using h3))
     ·rfl
    ·rfl
   rw [hw]
   exact h1
 have hF: ∀ {j:Nat} {f:Option cV→cU},g.fs[j]?=some f→ ∀b,(g.draw l s0).F j b=f (bif b then g.cz else none):=fun {j f} hj b=>by show(match g.fs[j]? with|some f=>f (bif b then g.cz else none)|none=>ab (bif b then g.cz else none) s0.st)=_;rw [hj]
 have hK: ∀ {i:Nat} {k:DK},g.ks[i]?=some (some k)→(g.draw l s0).kind i=k:=fun {i k} hk=>by show(match g.ks[i]? with|some (some k)=>k|_=> .q 0 g.effs.length)=_;rw [hk]
 have hK0: ∀ {i:Nat},g.ks[i]?=some none→(g.draw l s0).kind i= .q 0 g.effs.length:=fun {i} hk=>by show(match g.ks[i]? with|some (some k)=>k|_=>DK.q 0 g.effs.length)=_;rw [hk]
 have hout: ∀ {i:Nat} {p:PV},g.outs[i]?=some (some p)→(g.draw l s0).out i=some p:=fun hp=>by show(g.outs[_]?).getD none=_;rw [hp];rfl
 have hops:=hok'.1.1.1.1
 rw [List.all_eq_true] at hops
 have hgs: ∀(i:Nat) (o:Oper) (j d:Nat) (c:Bool) (p:PV),l[i]?=some o→o.guard=some (j,c)→(l[j]?).bind (·.dst)=some d→TS l s0.env g.outs i d p→(g.draw l s0).out j=some p:=fun i o j d c p ho hg hj hs=>by
  obtain⟨oj,hoj,hdj⟩: ∃oj,l[j]?=some oj∧oj.dst=some d:=by
   cases hx:l[j]? with
   |none=>rw [hx] at hj;cases hj
   |some oj=>rw [hx] at hj;exact⟨oj,rfl,hj⟩
  have hw:=IX hn hoj hdj
  rcases hs with⟨j',oj',h1,h2,h3,h4⟩|⟨h1,h2⟩
  ·have hw':=IX hn h2 h3
   rw [hw] at hw'
   cases hw'
   exact hout h4
  ·have hil:=(List.getElem?_eq_some_iff.1 ho).1
   have h5:=hops i (by simpa [DD.draw] using hil)
   have ho':(g.draw l s0).ops[i]?=some o:=by simpa [DD.draw] using ho
   simp only [cY.okOp,ho',hg,Bool.and_eq_true] at h5
   have h6:(g.draw l s0).anc j i=true:=h5.2.1
   have:=adW (fun i' o' ho' e he hb=>by
    have hil':=(Array.getElem?_eq_some_iff.1 ho').1
    have h7:=hops i' (by simpa using hil')
    simp only [cY.okOp,ho',Bool.and_eq_true,Array.all_eq_true'] at h7
    have h3:=h7.1 e he
    simpa [hb] using h3) _ _ _ h6
   exact absurd hdj (h2 j oj this hoj)
 have hwant: ∀ {i:Nat} {o:Oper} {b:Bool},l[i]?=some o→WD l s0.env g.outs i o b→(g.draw l s0).want o=some b:=fun {i o b} ho hw=>by
  unfold cY.want
  cases hw with
  |n a=>rw [a]
  |y a b c=>rw [a];dsimp only;rw [hgs _ _ _ _ _ _ ho a b c]
  |u a b c=>rw [a];dsimp only;rw [hgs _ _ _ _ _ _ ho a b c]
 have hstep: ∀i o,(g.draw l s0).ops[i]?=some o→(g.draw l s0).step P C n i o:=fun i o ho=>by
  have ho':l[i]?=some o:=by simpa [DD.draw] using ho
  obtain⟨hil,-⟩:=List.getElem?_eq_some_iff.1 ho'
  cases hv.hf i o ho' (by omega) with
  |does h1 h2 h3 h4=>
   rename_i E I
   refine .inl ⟨hwant ho' h1,?_⟩
   have hl: ∀s':AS,(∀t src p,(t,src)∈(g.draw l s0).ins i→(g.draw l s0).pv (t,src)=some p→s'.lk t=some p)→ ∀t q,E.lookup t=some q→s'.lk t=some q:=fun s' hl t q ht=>by
    obtain⟨h5,h6⟩:=h3 t q ht
    refine hl t (MT l i t) q ?_ (hpv i t q h6)
    show(t,MT l i t)∈((g.ins[i]?).getD []).map _
    rw [h2]
    exact List.mem_map.2 ⟨t,h5,rfl⟩
   unfold cY.does
   cases h4 with
   |q a b c=>
    rw [hK0 a]
    exact fun s' j bb _ _ hs hin=>⟨_,hout b,aW.frame (st:=s'.st) (fun C'=>c C' s'.st) rfl (hl s' hin)⟩
   |r a b c kN d=>
    rename_i lo hi kb X p
    have hk:=hK a
    rw [hk]
    intro s' j bb q1 q2 hs hin
    have hjl:hi<g.fs.length:=by
     have:=hok'.1.1.2
     rw [List.all_eq_true] at this
     have:=this i (by simpa [DD.draw] using hil)
     simp only [Bool.and_eq_true,cY.okKind,hk] at this
     have h9:=this.1.1.1.1.1.2
     simp only [decide_eq_true_eq] at h9
     have h10:hi≤g.effs.length:=h9
     rw [hv.hfl]
     omega
    obtain⟨f,hst⟩: ∃f,g.fs[j]?=some f:=⟨_,List.getElem?_eq_getElem (by omega)⟩
    have hX:=ah8 hrd c q1 q2 hst
    rw [hF hst] at hs
    have hcase:s'.st=f g.cz∨(md=true∧s'.st=f none):=by
     cases bb with
     |true=>exact .inl hs
     |false=>
      cases md with
      |true=>exact .inr ⟨rfl,hs⟩
      |false=>
       have:g.cz=none:=by unfold DD.cz;rw [hv.hm rfl];rfl
       rw [this]
       exact .inl hs
    rcases hcase with hs|⟨hmd,hs⟩
    ·exact⟨_,hout b,aW.frame (st:=s'.st) (fun C'=>d C' s'.st (by rw [hs];exact hX)) rfl (hl s' hin)⟩
    ·rcases hv.hz hmd f (List.mem_iff_getElem?.2 ⟨_,hst⟩) with h9|⟨h9,h10⟩
     ·exact⟨_,hout b,aW.bad (by rw [hs,h9])⟩
     ·refine⟨_,hout b,aW.frame (st:=s'.st) (fun C'=>d C' s'.st ?_) rfl (hl s' hin)⟩
      rw [hs,← hX]
      cases hz:g.cz with
      |none=>rfl
      |some z=>
       rw [h10 z]
       show _=((f none).boxes++ [some z])[kb]?
       rw [List.getElem?_append_left (by rw [h9];exact kN hmd)]
   |c a b c d=>
    rename_i j f p
    rw [hK a]
    refine fun s' jj bb q1 q2 hs hin=>⟨_,hout b,?_⟩
    obtain rfl:jj=j:=by omega
    exact aW.frame (st:=s'.st) (fun C'=>by rw [hs,hF c];exact d C' _) rfl (hl s' hin)
   |e a b c d e=>
    rename_i j f f1 p
    rw [hK a]
    refine fun s' bb hs hin=> .inl ⟨_,hout b,?_⟩
    rw [hF d]
    exact aW.frame (fun C'=>e C' _) (by rw [hs,hF c]) (hl s' hin)
   |e0 a b c d e=>
    rename_i j f f1
    rw [hK a]
    refine fun s' bb hs hin=> .inr ⟨b,?_⟩
    rw [hF d]
    exact aW.frame0 b (fun C'=>e C' _) (by rw [hs,hF c]) (hl s' hin)
   |ea z a b c d e f q=>
    rename_i j a' t off zb f0 f1
    have hcz:g.cz=some zb:=by unfold DD.cz;rw [z];rfl
    rw [hK a]
    refine fun s' bb hs hin=> .inr ⟨b,?_⟩
    rw [hF d]
    rw [hF c] at hs
    cases bb with
    |true=>
     rw [hcz] at hs ⊢
     exact aW.frame0 b q hs (hl s' hin)
    |false=>
     rcases f with f|f
     ·exact aW.bad (hs.trans f)
     ·refine aW.away (hl s' hin t _ e) ?_
      rw [hs]
      show(f0 none).boxes[_]?=none
      rw [List.getElem?_eq_none (by rw [f];exact Nat.le_refl _)]
   |al hmd z a b c=>
    rename_i zb
    have hcz:g.cz=some zb:=by unfold DD.cz;rw [z];rfl
    rw [hK a]
    refine fun s' j hs=>⟨_,hout b,?_⟩
    have key:s'.st=FT∨(s'.st.boxes.length=s0.st.boxes.length∧(g.draw l s0).F j true=s'.st.addBox zb):=by
     cases hj:g.fs[j]? with
     |none=>
      have h8: ∀b,(g.draw l s0).F j b=ab (bif b then g.cz else none) s0.st:=fun b=>by show(match g.fs[j]? with|some f=>f (bif b then g.cz else none)|none=>ab (bif b then g.cz else none) s0.st)=_;rw [hj]
      rw [h8] at hs ⊢
      refine .inr ⟨by rw [hs];rfl,?_⟩
      rw [hs,hcz]
      rfl
     |some f=>
      rw [hF hj] at hs ⊢
      rcases hv.hz hmd f (List.mem_iff_getElem?.2 ⟨_,hj⟩) with h9|⟨h9,h10⟩
      ·exact .inl (hs.trans h9)
      ·refine .inr ⟨by rw [hs];exact h9,?_⟩
       rw [hs,hcz]
       exact h10 zb
    rcases key with h9|⟨h9,h10⟩
    ·exact aW.bad h9
    ·rw [h10]
     exact aW.frame (E:= []) (fun C'=>c C' s'.st h9) rfl (fun t q h=>by cases h)
  |skip h1 h2 h3 h4=>exact .inr ⟨hwant ho' h1,⟨_,_,hK0 h2⟩,.inr ⟨hout h3,h4⟩⟩
 intro m a w hra
 refine wp_mono (aO.drawn (g.draw l s0) (Q:=fun e s'=>e= .normal∧s'=⟨((List.range (g.draw l s0).ops.size).filterMap ((g.draw l s0).gX (Array.replicate (g.draw l s0).ops.size true)))++(g.draw l s0).env0,(g.draw l s0).F (g.draw l s0).effs.length (g.draw l s0).alloc.isSome⟩) hm hok rfl (by obtain⟨f,h1,h2⟩:=hv.hs0;rw [hF h1];exact h2.symm) hstep ⟨rfl,rfl⟩ m a w hra) fun e a' w'=>?_;rintro⟨s',m',⟨rfl,rfl⟩,h2⟩
 obtain⟨f,q1,q2,-,-⟩:=hv.hlast
 refine⟨s,m',h,RA.congr h2 ((hF q1 _).trans (Eq.trans (by cases ha:g.az with|none=>(show f (bif (g.az.map (·.1)).isSome then g.cz else none)=f g.cz;unfold DD.cz;rw [ha];rfl)|some x=>(show f (bif (g.az.map (·.1)).isSome then g.cz else none)=f g.cz;unfold DD.cz;rw [ha];rfl)) q2)) fun t p ht=>?_⟩
 show((g.draw l s0).sX (Array.replicate (g.draw l s0).ops.size true)).lk t=some p
 rcases hv.hlk t p ht with⟨j,oj,h1,h3,h4,h5⟩|⟨h1,h3⟩
 ·have hjl:j<l.length:=(List.getElem?_eq_some_iff.1 h3).1
  exact EM hn (i:=j) (o:=oj) (by have:j<(g.draw l s0).ops.size:=(by simpa [DD.draw] using hjl);simp [Array.getD_eq_getD_getElem?,this]) (by simpa [DD.draw] using h3) h4 (hout h5)
 ·rw [CD hn fun i hi=>?_]
  ·exact h1
  ·obtain⟨hil,oi,h6,h7⟩:=sQ hi
   exact absurd h7 (h3 i oi (by have:i<l.length:=(by simpa [DD.draw] using hil);omega) (by simpa [DD.draw] using h6))
end
end Go.Proofs.YtpioomclpaiomaaGreat

namespace Go.Proofs.YtpioomclpaiomaaGreat
instance:TC aE:=⟨aE.cs,aE.trs,2,aE.trs_at,aE.trs_len,fun l=>by rw [aE.trs_map];exact List.map_congr_left fun x _=>aE.tr_cs x,fun _=>rfl⟩
abbrev jH(l:List aE):PV:= .t (.row 2 (aE.trs l))
abbrev iC(l:List aE)(r:Nat):PV:= .acc 2 (aE.trs l) r
instance:TC aB:=⟨aB.cs,aB.trs,3,aB.trs_at,aB.trs_len,fun l=>by rw [aB.trs_map];exact List.map_congr_left fun x _=>aB.tr_cs x,fun _=>rfl⟩
abbrev a6(l:List aB):PV:= .t (.row 3 (aB.trs l))
abbrev PT(l:List aB)(r:Nat):PV:= .acc 3 (aB.trs l) r
instance:TC aG:=⟨aG.cs,aG.trs,9,aG.trs_at,aG.trs_len,fun l=>by rw [aG.trs_map];exact List.map_congr_left fun x _=>aG.tr_cs x,fun _=>rfl⟩
abbrev fD(l:List aG):PV:= .t (.row 9 (aG.trs l))
abbrev L0(l:List aG)(r:Nat):PV:= .acc 9 (aG.trs l) r
instance:TC bC:=⟨bC.cs,bC.trs,11,bC.trs_at,bC.trs_len,fun l=>by rw [bC.trs_map];exact List.map_congr_left fun x _=>bC.tr_cs x,fun _=>rfl⟩
abbrev lH(l:List bC):PV:= .t (.row 11 (bC.trs l))
abbrev acX(l:List bC)(r:Nat):PV:= .acc 11 (bC.trs l) r
instance:TC aJ:=⟨aJ.cs,aJ.trs,4,aJ.trs_at,aJ.trs_len,fun l=>by rw [aJ.trs_map];exact List.map_congr_left fun x _=>aJ.tr_cs x,fun _=>rfl⟩
abbrev eK(l:List aJ):PV:= .t (.row 4 (aJ.trs l))
abbrev RU(l:List aJ)(r:Nat):PV:= .acc 4 (aJ.trs l) r
instance:TC aR:=⟨aR.cs,aR.trs,4,aR.trs_at,aR.trs_len,fun l=>by rw [aR.trs_map];exact List.map_congr_left fun x _=>aR.tr_cs x,fun _=>rfl⟩
abbrev NN(l:List aR):PV:= .t (.row 4 (aR.trs l))
abbrev QL(l:List aR)(r:Nat):PV:= .acc 4 (aR.trs l) r
instance:TC aN:=⟨aN.cs,aN.trs,11,aN.trs_at,aN.trs_len,fun l=>by rw [aN.trs_map];exact List.map_congr_left fun x _=>aN.tr_cs x,fun _=>rfl⟩
abbrev jY(l:List aN):PV:= .t (.row 11 (aN.trs l))
abbrev zF(l:List aN)(r:Nat):PV:= .acc 11 (aN.trs l) r
instance:TC aC:=⟨aC.cs,aC.trs,2,aC.trs_at,aC.trs_len,fun l=>by rw [aC.trs_map];exact List.map_congr_left fun x _=>aC.tr_cs x,fun _=>rfl⟩
abbrev eF(l:List aC):PV:= .t (.row 2 (aC.trs l))
abbrev t8(l:List aC)(r:Nat):PV:= .acc 2 (aC.trs l) r
instance:TC aD:=⟨aD.cs,aD.trs,16,aD.trs_at,aD.trs_len,fun l=>by rw [aD.trs_map];exact List.map_congr_left fun x _=>aD.tr_cs x,fun _=>rfl⟩
abbrev hM(l:List aD):PV:= .t (.row 16 (aD.trs l))
abbrev gR(l:List aD)(r:Nat):PV:= .acc 16 (aD.trs l) r
instance:TC aP:=⟨aP.cs,aP.trs,5,aP.trs_at,aP.trs_len,fun l=>by rw [aP.trs_map];exact List.map_congr_left fun x _=>aP.tr_cs x,fun _=>rfl⟩
abbrev HZ(l:List aP):PV:= .t (.row 5 (aP.trs l))
abbrev u7(l:List aP)(r:Nat):PV:= .acc 5 (aP.trs l) r
instance:TC aI:=⟨aI.cs,aI.trs,3,aI.trs_at,aI.trs_len,fun l=>by rw [aI.trs_map];exact List.map_congr_left fun x _=>aI.tr_cs x,fun _=>rfl⟩
abbrev m8(l:List aI):PV:= .t (.row 3 (aI.trs l))
abbrev lS(l:List aI)(r:Nat):PV:= .acc 3 (aI.trs l) r
instance:TC aH:=⟨aH.cs,aH.trs,12,aH.trs_at,aH.trs_len,fun l=>by rw [aH.trs_map];exact List.map_congr_left fun x _=>aH.tr_cs x,fun _=>rfl⟩
abbrev uD(l:List aH):PV:= .t (.row 12 (aH.trs l))
abbrev lJ(l:List aH)(r:Nat):PV:= .acc 12 (aH.trs l) r
instance:TC aL:=⟨aL.cs,aL.trs,16,aL.trs_at,aL.trs_len,fun l=>by rw [aL.trs_map];exact List.map_congr_left fun x _=>aL.tr_cs x,fun _=>rfl⟩
abbrev CF(l:List aL):PV:= .t (.row 16 (aL.trs l))
abbrev lM(l:List aL)(r:Nat):PV:= .acc 16 (aL.trs l) r
instance:TC aK:=⟨aK.cs,aK.trs,6,aK.trs_at,aK.trs_len,fun l=>by rw [aK.trs_map];exact List.map_congr_left fun x _=>aK.tr_cs x,fun _=>rfl⟩
abbrev bA(l:List aK):PV:= .t (.row 6 (aK.trs l))
abbrev o6(l:List aK)(r:Nat):PV:= .acc 6 (aK.trs l) r
instance:TC aM:=⟨aM.cs,aM.trs,1,aM.trs_at,aM.trs_len,fun l=>by rw [aM.trs_map];exact List.map_congr_left fun x _=>aM.tr_cs x,fun _=>rfl⟩
instance:TC aA:=⟨aA.cs,aA.trs,2,aA.trs_at,aA.trs_len,fun l=>by rw [aA.trs_map];exact List.map_congr_left fun x _=>aA.tr_cs x,fun _=>rfl⟩
abbrev a8(l:List aA):PV:= .t (.row 2 (aA.trs l))
abbrev dM(l:List aA)(r:Nat):PV:= .acc 2 (aA.trs l) r
instance:TC a4:=⟨a4.cs,a4.trs,6,a4.trs_at,a4.trs_len,fun l=>by rw [a4.trs_map];exact List.map_congr_left fun x _=>a4.tr_cs x,fun _=>rfl⟩
instance:TC bR:=⟨bR.cs,bR.trs,4,bR.trs_at,bR.trs_len,fun l=>by rw [bR.trs_map];exact List.map_congr_left fun x _=>bR.tr_cs x,fun _=>rfl⟩
abbrev fB(x:aB):List PV:= [pI x.gKind,pS x.gName,a6 x.gArgs]
abbrev gK(x:aG):List PV:= [pI x.gKind,pS x.gTrait,pS x.gName,pI x.gN,pI x.gType.gKind,pS x.gType.gName,a6 x.gType.gArgs,fD x.gArgs,lH x.gArms]
abbrev ahM(x:aJ):List PV:= [pS x.gTrait,pI x.gType.gKind,pS x.gType.gName,a6 x.gType.gArgs]
abbrev MK(x:aD):List PV:= [pS x.gName,a6 x.gParams,pI x.gResult.gKind,pS x.gResult.gName,a6 x.gResult.gArgs,pB x.gHasDefault,rS x.gVars,pI x.gBody.gKind,pS x.gBody.gTrait,pS x.gBody.gName,pI x.gBody.gN,pI x.gBody.gType.gKind,pS x.gBody.gType.gName,a6 x.gBody.gType.gArgs,fD x.gBody.gArgs,lH x.gBody.gArms]
abbrev uV(x:aP):List PV:= [pS x.gName,rS x.gSupertraits,pB x.gAuto,pB x.gAssoc,hM x.gSignatures]
abbrev uJ(x:aI):List PV:= [pS x.gName,rS x.gVars,eF x.gConstructors]
abbrev iP(x:aH):List PV:= [pS x.gTrait,rS x.gVars,pI x.gHead.gKind,pS x.gHead.gName,a6 x.gHead.gArgs,eK x.gWhere,pB x.gDefault,pB x.gHasAssoc,pI x.gAssoc.gKind,pS x.gAssoc.gName,a6 x.gAssoc.gArgs,jY x.gMethods]
abbrev uG(x:aL):List PV:= [pS x.gName,rS x.gVars,eK x.gWhere,NN x.gParams,pI x.gResult.gKind,pS x.gResult.gName,a6 x.gResult.gArgs,pI x.gBody.gKind,pS x.gBody.gTrait,pS x.gBody.gName,pI x.gBody.gN,pI x.gBody.gType.gKind,pS x.gBody.gType.gName,a6 x.gBody.gType.gArgs,fD x.gBody.gArgs,lH x.gBody.gArms]
abbrev eR(x:aK):List PV:= [pS x.gName,rS x.gDeps,HZ x.gTraits,m8 x.gDataTypes,uD x.gInstances,CF x.gFunctions]
end Go.Proofs.YtpioomclpaiomaaGreat

namespace Go.Proofs.YtpioomclpaiomaaGreat
abbrev wT:ByteArray:=⟨#[40,99,97,108,108,32,98,111,116,104,32,40,99,97,108,108,32,105,100,32,40,99,97,108,108,32,105,100,32,40,110,101,119,32,116,97,103,32,50,41,41,41,41]⟩
abbrev cQ:ByteArray:=⟨(List.append [32,40,105,110,115,116,32,115,104,111,119,32,40,41,32,105,110,116,32,40,41,32,40,41,32,40,41,32,40,109,32,40,120,41,32,120,41,41,32,40,105,110,115] [116,32,115,104,111,119,32,40,41,32,98,111,111,108,32,40,41,32,40,41,32,40,41,32,40,109,32,40,120,41,32,40,105,102,32,120,32,49,32,48,41,41,41]).toArray⟩
abbrev xR:ByteArray:=⟨(List.append [40,108,101,116,32,122,32,40,109,101,116,104,111,100,32,97,100,100,32,112,108,117,115,32,40,110,101,119,32,98,111,120,32,49] [41,32,40,110,101,119,32,98,111,120,32,50,41,41,32,40,99,97,115,101,32,122,32,40,98,111,120,32,110,32,110,41,41,41]).toArray⟩
abbrev e9:ByteArray:=⟨(List.append [32,40,105,110,115,116,32,101,113,32,40,97,41,32,40,98,111,120,32,39,97,41,32,40,40,101,113,32,39,97,41,41,32,40,41,32,40,41,32,40,115,97,109,101,32,40,120,32,121,41,32,40,99] [97,115,101,32,120,32,40,98,111,120,32,112,32,40,99,97,115,101,32,121,32,40,98,111,120,32,113,32,40,109,101,116,104,111,100,32,101,113,32,115,97,109,101,32,112,32,113,41,41,41,41,41,41,41]).toArray⟩
abbrev wX:ByteArray:=⟨#[40,99,97,108,108,32,98,111,116,104,32,40,110,101,119,32,112,97,105,114,32,51,32,116,114,117,101,41,41]⟩
abbrev mT:ByteArray:=⟨#[32,40,102,110,32,109,97,105,110,32,40,41,32,40,41,32,40,41,32,105,110,116,32]⟩
abbrev GT:ByteArray:=⟨(List.append [32,40,105,110,115,116,32,115,104,111,119,32,40,41,32,40,108,105,115,116,32,116,97,103,41,32,40,41,32,40,41,32,40,41,32,40,109,32,40,120,41] [32,52,41,41,32,40,105,110,115,116,32,115,104,111,119,32,40,41,32,116,97,103,32,40,41,32,40,41,32,40,41,32,40,109,32,40,120,41,32,53,41,41]).toArray⟩
abbrev xC:ByteArray:=⟨(List.append [32,40,102,110,32,103,114,111,119,32,40,97,41,32,40,40,115,104,111,119,32,39,97,41,41,32,40,40,110,32,105,110,116,41,32,40,120,32,39,97,41,41,32,105,110,116,32,40,105,102,32,40,60,32,110,32] [49,41,32,40,109,101,116,104,111,100,32,115,104,111,119,32,109,32,120,41,32,40,99,97,108,108,32,103,114,111,119,32,40,45,32,110,32,49,41,32,40,110,101,119,32,112,97,105,114,32,120,32,120,41,41,41,41]).toArray⟩
abbrev F0:ByteArray:=⟨(List.append [32,40,105,110,115,116,32,101,113,32,40,41,32,116,97,103,32,40,41,32,40,41,32,40,41,32,40,115,97,109,101,32,40,120,32,121,41,32,116,114,117,101,41,41,32] [40,105,110,115,116,32,111,114,100,32,40,41,32,116,97,103,32,40,41,32,40,41,32,40,41,32,40,108,101,115,115,32,40,120,32,121,41,32,102,97,108,115,101,41,41]).toArray⟩
abbrev xB:ByteArray:=⟨(List.append [40,109,101,116,104,111,100,32,115,104,111,119,32,109,32,40,110,101,119,32,99,111,110,115,32,49,32,40,110,101,119,32,99,111] [110,115,32,50,32,40,116,104,101,32,40,108,105,115,116,32,105,110,116,41,32,40,110,101,119,32,110,105,108,41,41,41,41,41]).toArray⟩
abbrev xG:ByteArray:=⟨#[40,99,97,108,108,32,98,111,116,104,32,53,41]⟩
abbrev xE:ByteArray:=⟨#[40,43,32,40,99,97,108,108,32,105,100,32,52,41,32,40,109,101,116,104,111,100,32,115,104,111,119,32,109,32,40,110,101,119,32,116,97,103,32,55,41,41,41]⟩
abbrev wY:ByteArray:=⟨#[40,105,102,32,40,109,101,116,104,111,100,32,111,114,100,32,108,101,115,115,32,49,32,50,41,32,40,99,97,108,108,32,98,111,116,104,32,116,114,117,101,41,32,48,41]⟩
abbrev wV:ByteArray:=⟨(List.append [40,109,101,116,104,111,100,32,115,104,111,119,32,109,32,40,110,101,119,32,99,111,110,115,32,40,110,101,119,32,116,97] [103,32,49,41,32,40,116,104,101,32,40,108,105,115,116,32,116,97,103,41,32,40,110,101,119,32,110,105,108,41,41,41,41]).toArray⟩
abbrev GV:ByteArray:=⟨#[32,40,105,110,115,116,32,111,114,100,32,40,41,32,116,97,103,32,40,41,32,40,41,32,40,41,32,40,108,101,115,115,32,40,120,32,121,41,32,116,114,117,101,41,41]⟩
abbrev xQ:ByteArray:=⟨#[40,109,101,116,104,111,100,32,115,104,111,119,32,109,32,40,110,101,119,32,110,105,108,41,41]⟩
abbrev cK:ByteArray:=⟨(List.append [40,112,97,99,107,97,103,101,32,99,111,114,101,32,40,41,32,40,116,114,97,105,116,32,115,104,111,119,32,40,41,32,40,41,32,40,109,32,40,41,32,105,110,116,41,32,40,116,119,111,32,40,39,115,101] [108,102,41,32,105,110,116,32,40,120,32,121,41,32,40,43,32,40,109,101,116,104,111,100,32,115,104,111,119,32,109,32,120,41,32,40,109,101,116,104,111,100,32,115,104,111,119,32,109,32,121,41,41,41,41]).toArray⟩
abbrev iZ:ByteArray:=⟨(List.append (List.append [32,40,105,110,115,116,32,97,100,100,32,40,97,41,32,40,98,111,120,32,39,97,41,32,40,40,97,100,100,32,39,97,41,41,32] [40,41,32,40,40,98,111,120,32,40,97,115,115,111,99,32,97,100,100,32,39,97,41,41,41,32,40,112,108,117,115,32,40,120,32]) (List.append [121,41,32,40,99,97,115,101,32,120,32,40,98,111,120,32,112,32,40,99,97,115,101,32,121,32,40,98,111,120,32,113,32,40,110] [101,119,32,98,111,120,32,40,109,101,116,104,111,100,32,97,100,100,32,112,108,117,115,32,112,32,113,41,41,41,41,41,41,41,41])).toArray⟩
abbrev c7:ByteArray:=⟨(List.append [32,40,105,110,115,116,32,115,104,111,119,32,40,97,32,98,41,32,40,112,97,105,114,32,39,97,32,39,98,41,32,40,40,115,104,111,119,32,39,97,41,32,40,115,104,111,119,32,39,98,41,41,32,40,41,32,40,41,32,40,109,32,40] [120,41,32,40,99,97,115,101,32,120,32,40,112,97,105,114,32,121,32,122,32,40,45,32,40,109,101,116,104,111,100,32,115,104,111,119,32,109,32,121,41,32,40,109,101,116,104,111,100,32,115,104,111,119,32,109,32,122,41,41,41,41,41,41]).toArray⟩
abbrev wZ:ByteArray:=⟨#[40,109,101,116,104,111,100,32,115,104,111,119,32,109,32,40,112,97,99,107,32,115,104,111,119,32,51,41,41]⟩
abbrev g0:ByteArray:=⟨(List.append [32,40,105,110,115,116,32,115,104,111,119,32,40,97,41,32,40,108,105,115,116,32,39,97,41,32,40,40,115,104,111,119,32,39,97,41,41,32,40,41,32,40,41,32,40,109,32,40,120,41,32,40,99,97,115,101,32,120,32,40] [110,105,108,32,48,41,32,40,99,111,110,115,32,104,32,116,32,40,43,32,40,109,101,116,104,111,100,32,115,104,111,119,32,109,32,104,41,32,40,109,101,116,104,111,100,32,115,104,111,119,32,109,32,116,41,41,41,41,41,41]).toArray⟩
abbrev mN:ByteArray:=⟨(List.append [32,40,102,110,32,105,100,32,40,97,41,32,40,41,32,40,40,120,32,39,97,41,41,32,39,97,32,120,41,32,40,102,110,32,98,111,116,104,32,40,97,41,32,40,40] [115,104,111,119,32,39,97,41,41,32,40,40,120,32,39,97,41,41,32,105,110,116,32,40,109,101,116,104,111,100,32,115,104,111,119,32,116,119,111,32,120,32,120,41,41]).toArray⟩
abbrev G0:ByteArray:=⟨#[32,40,105,110,115,116,32,115,104,111,119,32,40,41,32,116,97,103,32,40,41,32,40,41,32,40,41,32,40,109,32,40,120,41,32,40,99,97,115,101,32,120,32,40,116,97,103,32,110,32,110,41,32,40,110,111,110,101,32,48,41,41,41,41]⟩
abbrev cM:ByteArray:=⟨(List.append [32,40,100,97,116,97,32,108,105,115,116,32,40,97,41,32,40,110,105,108,41,32,40,99,111,110,115,32,39,97,32,40,108,105,115,116,32,39,97,41,41,41,32,40,100,97,116,97,32,112,97,105,114,32,40,97,32,98,41] [32,40,112,97,105,114,32,39,97,32,39,98,41,41,32,40,100,97,116,97,32,98,111,120,32,40,97,41,32,40,98,111,120,32,39,97,41,41,32,40,100,97,116,97,32,117,110,105,116,32,40,41,32,40,117,110,105,116,41,41]).toArray⟩
abbrev GP:ByteArray:=⟨(List.append [32,40,102,110,32,108,101,110,32,40,97,41,32,40,41,32,40,40,120,32,40,108,105,115,116,32,39,97,41,41,41,32,105,110,116,32,40,99,97,115,101] [32,120,32,40,110,105,108,32,48,41,32,40,99,111,110,115,32,104,32,116,32,40,43,32,49,32,40,99,97,108,108,32,108,101,110,32,116,41,41,41,41,41]).toArray⟩
abbrev GX:ByteArray:=⟨#[32,40,105,110,115,116,32,115,104,111,119,32,40,97,41,32,39,97,32,40,40,101,113,32,39,97,41,41,32,40,41,32,40,41,32,40,109,32,40,120,41,32,49,41,41]⟩
abbrev GN:ByteArray:=⟨#[32,40,105,110,115,116,32,115,104,111,119,32,40,41,32,116,97,103,32,40,41,32,40,41,32,40,41,32,40,109,32,40,120,41,32,40,99,97,115,101,32,120,32,40,110,111,110,101,32,48,41,32,40,116,97,103,32,110,32,110,41,41,41,41]⟩
abbrev gG:ByteArray:=⟨#[32,40,105,110,115,116,32,97,100,100,32,40,41,32,105,110,116,32,40,41,32,40,41,32,40,105,110,116,41,32,40,112,108,117,115,32,40,120,32,121,41,32,40,43,32,120,32,121,41,41,41]⟩
abbrev cJ:ByteArray:=⟨(List.append (List.append [32,40,116,114,97,105,116,32,101,113,32,40,41,32,40,41,32,40,115,97,109,101,32,40,39,115,101,108,102,41,32,98,111,111,108,41,41,32,40] [116,114,97,105,116,32,111,114,100,32,40,101,113,41,32,40,41,32,40,108,101,115,115,32,40,39,115,101,108,102,41,32,98,111,111,108,41,41,32]) (List.append [40,116,114,97,105,116,32,97,100,100,32,40,41,32,40,97,115,115,111,99,41,32,40,112,108,117,115,32,40,39,115,101,108,102,41,32,40,97,115] [115,111,99,32,97,100,100,32,39,115,101,108,102,41,41,41,32,40,116,114,97,105,116,32,115,101,110,100,32,40,41,32,40,97,117,116,111,41,41])).toArray⟩
abbrev GF:ByteArray:=⟨(List.append [32,40,102,110,32,115,117,109,32,40,97,41,32,40,40,97,100,100,32,39,97,41,41,32,40,40,120,32,39,97,41,32,40,121,32,39,97,41] [41,32,40,97,115,115,111,99,32,97,100,100,32,39,97,41,32,40,109,101,116,104,111,100,32,97,100,100,32,112,108,117,115,32,120,32,121,41,41]).toArray⟩
abbrev eD:ByteArray:=⟨#[40,112,97,99,107,97,103,101,32,97,112,112,32,40,99,111,114,101,41,32,40,100,97,116,97,32,116,97,103,32,40,41,32,40,116,97,103,32,105,110,116,41,32,40,110,111,110,101,41,41]⟩
abbrev eC:ByteArray:=⟨(List.append [32,40,105,110,115,116,32,101,113,32,40,41,32,105,110,116,32,40,41,32,40,41,32,40,41,32,40,115,97,109,101,32,40,120,32,121,41,32,40,61,32,120,32,121,41,41,41] [32,40,105,110,115,116,32,111,114,100,32,40,41,32,105,110,116,32,40,41,32,40,41,32,40,41,32,40,108,101,115,115,32,40,120,32,121,41,32,40,60,32,120,32,121,41,41,41]).toArray⟩
abbrev gZ:ByteArray:=⟨(List.append (List.append [32,40,105,110,115,116,32,115,104,111,119,32,40,97,41,32,40,108,105,115,116,32,39,97,41,32,40,41,32,40,100,101,102,97,117,108] [116,41,32,40,41,32,40,109,32,40,120,41,32,55,41,41,32,40,105,110,115,116,32,115,104,111,119,32,40,41,32,40,108,105,115,116,32]) (List.append [105,110,116,41,32,40,41,32,40,41,32,40,41,32,40,109,32,40,120,41,32,40,99,97,115,101,32,120,32,40,110,105,108,32,48,41,32] [40,99,111,110,115,32,104,32,116,32,40,43,32,104,32,40,109,101,116,104,111,100,32,115,104,111,119,32,109,32,116,41,41,41,41,41,41])).toArray⟩
abbrev G1:ByteArray:=⟨#[32,40,105,110,115,116,32,115,104,111,119,32,40,41,32,105,110,116,32,40,41,32,40,41,32,40,41,32,40,109,32,40,120,41,32,57,41,41]⟩
abbrev s_:ByteArray:=⟨#[]⟩
abbrev s_0:ByteArray:=⟨#[48]⟩
abbrev s_A:ByteArray:=⟨#[65]⟩
abbrev fU:ByteArray:=⟨#[97]⟩
abbrev iU:ByteArray:=⟨#[97,100,100]⟩
abbrev gM:ByteArray:=⟨#[97,115,115,111,99]⟩
abbrev uT:ByteArray:=⟨#[97,117,116,111]⟩
abbrev z0:ByteArray:=⟨#[98]⟩
abbrev eO:ByteArray:=⟨#[98,111,111,108]⟩
abbrev vK:ByteArray:=⟨#[98,111,120]⟩
abbrev s_c:ByteArray:=⟨#[99]⟩
abbrev I4:ByteArray:=⟨#[99,97,108,108]⟩
abbrev tC:ByteArray:=⟨#[99,97,115,101]⟩
abbrev cD:ByteArray:=⟨#[99,111,110,115]⟩
abbrev fK:ByteArray:=⟨#[99,111,114,101]⟩
abbrev IB:ByteArray:=⟨#[100,97,116,97]⟩
abbrev sB:ByteArray:=⟨#[100,101,102,97,117,108,116]⟩
abbrev tU:ByteArray:=⟨#[100,121,110]⟩
abbrev s9:ByteArray:=⟨#[101,113]⟩
abbrev s_f:ByteArray:=⟨#[102]⟩
abbrev jX:ByteArray:=⟨#[102,97,108,115,101]⟩
abbrev ab3:ByteArray:=⟨#[102,110]⟩
abbrev s_g:ByteArray:=⟨#[103]⟩
abbrev Y8:ByteArray:=⟨#[104]⟩
abbrev y1:ByteArray:=⟨#[105,102]⟩
abbrev IJ:ByteArray:=⟨#[105,110,115,116]⟩
abbrev e7:ByteArray:=⟨#[105,110,116]⟩
abbrev zK:ByteArray:=⟨#[108,101,116]⟩
abbrev cR:ByteArray:=⟨#[108,105,115,116]⟩
abbrev eE:ByteArray:=⟨#[109]⟩
abbrev mM:ByteArray:=⟨#[109,101,116,104,111,100]⟩
abbrev zJ:ByteArray:=⟨#[110,101,119]⟩
abbrev fA:ByteArray:=⟨#[110,105,108]⟩
abbrev NE:ByteArray:=⟨#[111,110,101]⟩
abbrev jV:ByteArray:=⟨#[111,114,100]⟩
abbrev XN:ByteArray:=⟨#[112]⟩
abbrev tP:ByteArray:=⟨#[112,97,99,107]⟩
abbrev PP:ByteArray:=⟨#[112,97,99,107,97,103,101]⟩
abbrev tG:ByteArray:=⟨#[112,97,105,114]⟩
abbrev s_q:ByteArray:=⟨#[113]⟩
abbrev hU:ByteArray:=⟨#[115,101,108,102]⟩
abbrev bI:ByteArray:=⟨#[115,104,111,119]⟩
abbrev ZV:ByteArray:=⟨#[116]⟩
abbrev QJ:ByteArray:=⟨#[116,104,101]⟩
abbrev BR:ByteArray:=⟨#[116,114,97,105,116]⟩
abbrev nC:ByteArray:=⟨#[116,114,117,101]⟩
abbrev eV:ByteArray:=⟨#[116,119,105,99,101]⟩
abbrev gY:ByteArray:=⟨#[117,110,105,116]⟩
abbrev d9:ByteArray:=⟨#[120]⟩
abbrev nZ:ByteArray:=⟨#[121]⟩
abbrev acV:ByteArray:=⟨#[10]⟩
abbrev ab6:ByteArray:=⟨#[39]⟩
abbrev vH:ByteArray:=⟨#[41]⟩
abbrev G7:ByteArray:=⟨#[42]⟩
abbrev vG:ByteArray:=⟨#[43]⟩
abbrev zY:ByteArray:=⟨#[45]⟩
abbrev GU:ByteArray:=⟨#[60]⟩
abbrev F8:ByteArray:=⟨#[61]⟩
end Go.Proofs.YtpioomclpaiomaaGreat

namespace Go.Proofs.YtpioomclpaiomaaGreat
set_option linter.unusedSimpArgs false
set_option linter.unusedVariables false
open Go.RowKit Go.WalkArith Go.IntWalk Go.WideShapes
def AW(a:Int):UInt8:=UInt8.ofNat (a%256).toNat
theorem R7(a:Int):IntKind.wrap .u8 a=((AW a).toNat:Int):=by
 unfold AW IntKind.wrap
 simp [IntKind.bits,IntKind.signed]
 omega
def bytesStr(l:List UInt8):ByteArray:=⟨l.toArray⟩
theorem PD(l:List UInt8):(bytesStr l).size=l.length:=by simp [bytesStr,ByteArray.size]
theorem OG(l:List UInt8):strOfNums (l.map fun b=>(b.toNat:Int))=bytesStr l:=by
 unfold strOfNums bytesStr
 congr 2
 rw [List.map_map]
 conv=>rhs;rw [← List.map_id l]
 apply List.map_congr_left
 intro b _
 simp
section
variable {P:Program} {C:oE} {n:Nat} {s:AS} {o:Oper}
theorem aW.quoI{T yT:TypeId}{x y:Operand}{a b:Int}(ho:o.op= .binOp .quo T x y yT)(hd:bQ o.dst n=true)(hx:s.ev x=some (.t (.leaf (.int .i64 a))))(hy:s.ev y=some (.t (.leaf (.int .i64 b))))(hb:b≠0):
 aW P C n o s (s.putO o.dst (.t (.leaf (.int .i64 (aQ (a.tdiv b)))))):=aW.bin ho hd hx hy (fun w=>by simp [eqGuard,binOp,Op.intDiv,hb,aQ]) (wf_wrap .i64 _)
theorem aW.remI{T yT:TypeId}{x y:Operand}{a b:Int}(ho:o.op= .binOp .rem T x y yT)(hd:bQ o.dst n=true)(hx:s.ev x=some (.t (.leaf (.int .i64 a))))(hy:s.ev y=some (.t (.leaf (.int .i64 b))))(hb:b≠0):
 aW P C n o s (s.putO o.dst (.t (.leaf (.int .i64 (a.tmod b))))):=
 aW.quiet (cW hd) fun m ac w h=>by
  obtain⟨h1,h3⟩:=cF.leaf_eq (h.eval hx)
  have h2:=(cF.leaf_eq (h.eval hy)).1
  have h4: -9223372036854775808≤a∧a≤9223372036854775807:=by
   have h5:(Lit.int .i64 a).wf=true:=h3
   simpa [Lit.wf,IntKind.min,IntKind.max,IntKind.bits,IntKind.signed] using h5
  have h6:(a.tmod b).natAbs≤a.natAbs:=by rw [Int.natAbs_tmod];exact Nat.mod_le _ _
  have h7:0≤a→0≤a.tmod b:=fun h=>Int.tmod_nonneg b h
  have h8:a≤0→a.tmod b≤0:=fun h=>by have:=Int.tmod_nonneg b (show 0≤ -a by omega);rw [Int.neg_tmod] at this;omega
  refine⟨.int .i64 (a.tmod b),?_,cF.leaf (wf_i64 (by omega))⟩
  unfold execOp
  simp [ho,h1,h2,eqGuard,binOp,Op.intDiv,hb]
theorem aW.convU8{S T:TypeId}{x:Operand}{k:IntKind}{a:Int}(ho:o.op= .convert S T x)(hd:bQ o.dst n=true)(hx:s.ev x=some (.t (.leaf (.int k a))))(hS: ∃k',P.underlying S=some (.int k'))(hT:P.underlying T=some (.int .u8)):
 aW P C n o s (s.putO o.dst (.t (.leaf (.int .u8 ((AW a).toNat:Int))))):=
 aW.quiet (cW hd) fun m ac w h=>⟨.int .u8 ((AW a).toNat:Int),by
  have h3:=(cF.leaf_eq (h.eval hx)).1
  obtain⟨k',hS⟩:=hS
  unfold execOp
  simp [ho,h3,convert,run_underlying hS,run_underlying hT,Conv.intToInt,R7],cF.leaf (by rw [← R7];exact wf_wrap .u8 a)⟩
theorem aW.subU8{T yT:TypeId}{x y:Operand}{a b:Int}(ho:o.op= .binOp .sub T x y yT)(hd:bQ o.dst n=true)(hx:s.ev x=some (.t (.leaf (.int .u8 a))))(hy:s.ev y=some (.t (.leaf (.int .u8 b)))):
 aW P C n o s (s.putO o.dst (.t (.leaf (.int .u8 ((AW (a-b)).toNat:Int))))):=by
 rw [← R7]
 exact aW.subW ho hd hx hy
theorem aW.bytesStr{S T e:TypeId}{x:Operand}{p:PV}{l:List UInt8}(ho:o.op= .convert S T x)(hd:bQ o.dst n=true)(hx:s.ev x=some p)(hp:lF p=some (1,cL l))(hS:P.underlying S=some (.slice e))(he:P.underlying e=some (.int .u8))(hT:P.underlying T=some .string):
 aW P C n o s (s.putO o.dst (.t (.leaf (.string (bytesStr l))))):=
 aW.quiet (cW hd) fun m ac w h=>by
  have h1:=sU hp (h.eval hx)
  obtain⟨a0,cap0,hv0,hl0,hm0⟩:=h1.shape
  rw [fV] at hl0
  have hsz:oF (.string (Go.Proofs.YtpioomclpaiomaaGreat.bytesStr l)):=by show(Go.Proofs.YtpioomclpaiomaaGreat.bytesStr l).size≤maxLen;rw [PD];omega
  refine⟨.string (Go.Proofs.YtpioomclpaiomaaGreat.bytesStr l),?_,cF.leaf hsz⟩
  generalize hv:ac.eval x=v at*
  cases h1 with
  |row c q1 q2 q3 q4=>
   have keyAll: ∀(a:Option Addr) (cap:Nat) (q3:cL l≠ []→ ∃b off,a=some ⟨b,off,none⟩∧b<w.heap.size∧ ∀(i:Nat) (e:List Tr),(cL l)[i]?=some e→ ∀(j:Nat) (d:Tr),e[j]?=some d→jL C.av s.st m b (off+i*1+j)∧w.cell? ⟨b,off+i*1+j,none⟩=some (c i j)),(convert S T (.slice a (cL l).length cap)).run P w= .ok (.string (Go.Proofs.YtpioomclpaiomaaGreat.bytesStr l)) w:=fun a cap q3=>by
    by_cases hne:l= []
    ·subst hne
     have hlen:(cL []).length=0:=rfl
     rw [hlen]
     cases a with
     |none=>exact run_convert_bytes_nil (P:=P) w S e hS he 0 cap T hT
     |some a=>
      obtain⟨b,off,sp⟩:=a
      have hld:(loadCells ⟨b,off,sp⟩ 0).run P w= .ok (([]:List Int).map (Value.int .u8)).toArray w:=by simp [loadCells,loadCellsFrom]
      rw [run_convert_bytes_string w S T e _ 0 cap hS he hT,run_bytesToString w _ 0 cap [] hld]
      rfl
    ·obtain⟨b,off,ha,hb,hc⟩:=q3 (by intro h0;apply hne;have:=congrArg List.length h0;rw [fV] at this;exact List.eq_nil_of_length_eq_zero this)
     subst ha
     have:=run_convert_bytes_arg (P:=P) w S e hS he b off (cL l).length cap (l.map fun b=>(b.toNat:Int)) (by simp [fV]) (fun i hi=>by
      rw [fV] at hi
      have h4:=(hc i _ (uQ hi) 0 (.leaf (.int .u8 ((l[i]).toNat:Int))) rfl).2
      have h5:=(q4 i _ (uQ hi) 0 (.leaf (.int .u8 ((l[i]).toNat:Int))) rfl).rep.leaf_eq.1
      rw [Nat.mul_one,Nat.add_zero] at h4
      rw [h4,h5]
      simp [hi]) T hT
     rw [OG] at this
     exact this
   unfold execOp
   simp only [ho,hv]
   rw [Sem.run_bind,keyAll _ _ q3]
   rfl
end
end Go.Proofs.YtpioomclpaiomaaGreat

namespace Go.Proofs.YtpioomclpaiomaaGreat.W
set_option maxRecDepth 100000
set_option maxHeartbeats 40000000
noncomputable section
open Go.RowKit Go.Proofs
set_option linter.unusedSimpArgs false
set_option linter.unusedVariables false
attribute [local irreducible] lt
def SD(m:ByteArray→UInt8→Option ((List ByteArray))):Prop:= ∀(ps:ByteArray) (pby:UInt8) (r:(List ByteArray)),m ps pby=some r→cH Tryz.prog 191 [pS ps,pU pby] (rS r:PV)
def PE(fu:Nat)(ps:ByteArray)(pby:UInt8):((List ByteArray)×Int×Int)→Option (LR ((List ByteArray)×Int×Int) ((List ByteArray))):=
 fun(v4,v2,v3)=>sw (decide ((v3:Int)≤((ps.size:Nat):Int)))
 (sw (decide ((v3:Int)=((ps.size:Nat):Int)))
 (gd ((0:Int)≤v2∧(v2:Int)≤v3∧(v3:Int)≤((ps.size:Nat):Int))
 (gd ((v4).length+(([(ps.extract (v2:Int).toNat (v3:Int).toNat)]:List ByteArray)).length≤68719476736)
 (some (.next ((v4++([(ps.extract (v2:Int).toNat (v3:Int).toNat)]:List ByteArray)),(aQ (v3+1)),(aQ (v3+1)))))))
 (gd (0≤v3∧(v3).toNat<(ps).size)
 (sw (decide ((((y2 ps ((v3).toNat)).toNat:Int):Int)=(pby.toNat:Int)))
 (gd ((0:Int)≤v2∧(v2:Int)≤v3∧(v3:Int)≤((ps.size:Nat):Int))
 (gd ((v4).length+(([(ps.extract (v2:Int).toNat (v3:Int).toNat)]:List ByteArray)).length≤68719476736)
 (some (.next ((v4++([(ps.extract (v2:Int).toNat (v3:Int).toNat)]:List ByteArray)),(aQ (v3+1)),(aQ (v3+1)))))))
 (some (.next (v4,v2,(aQ (v3+1))))))))
 (some (.brk (v4,v2,v3)))
def O4(fu:Nat)(ps:ByteArray)(pby:UInt8):Option (((List ByteArray))⊕((List ByteArray)×Int×Int)):=
 loopW (PE fu ps pby) fu (([]),0,0)
def yW(fu:Nat)(ps:ByteArray)(pby:UInt8):Option ((List ByteArray)):=
 so (O4 fu ps pby) (fun(v4,v2,v3)=>
 some v4)
theorem N8(fu:Nat):SD (yW fu):=by
 intro ps pby r H
 have H:=fC H
 refine qI Tryz.func191 (fun C hC=>?_)
 refine qS (qR (q1 aF (qN (qS (qR (q1 (rC ([]:List ByteArray) bW jZ) (q1 aF (qN (qS (qR (q1 aF (qN ?_))))))))))))
 iterate 2 refine qS ?_
 refine qR (q1 aF (qN ?_))
 refine nF 5 (bE _) (fun hl6=>?_)
 refine J6 (σ:=(List ByteArray)×Int×Int) (fun(v4,v2,v3)=>⟨[(0,pS ps),(1,pU pby),(4,.nil),(5,aS v4 0),(6,pI v2),(7,pI v3)],⟨[],[⟨9,1,aX (v4),false⟩]⟩⟩) (fun(v4,v2,v3)=>⟨[(4,.nil),(5,aS v4 0)],⟨[],[⟨9,1,aX (v4),false⟩]⟩⟩) (f9 H) ?_ ?_
 ·rintro k5 ⟨v4,v2,v3⟩ H
  iterate 2 refine qS ?_
  refine qR ?_
  iterate 2 refine q1 aF ?_
  refine q1 (aW.lenS rfl rfl rfl Tryz.underlying9) (q1 rLe (qN ?_))
  refine a9 H (fun h7 H=>?_) (fun h7 H=>?_)
  ·refine aO.skip (qS (aO.block (qS (qR ?_))))
   iterate 2 refine q1 aF ?_
   refine q1 (aW.lenS rfl rfl rfl Tryz.underlying9) (q1 dP (q1 aF ?_))
   refine dY 19 H (fun g8 H=>?_) fun g8 H=>?_
   ·refine qk g8 ?_
    iterate 4 refine qk g8 ?_
    refine q1 (bS g8) (qN (dT rfl (qS (qR ?_))))
    iterate 4 refine q1 aF ?_
    refine dK H fun z9 H=>(q1 (aW.sliceS (l:=v2) (k:=v3) rfl rfl rfl rfl rfl z9 Tryz.underlying9) (q1 (iI ([(ps.extract (v2:Int).toNat (v3:Int).toNat)]:List ByteArray) bW jZ) (dK H fun z10 H=>(q1 (lC z10 bW oT) (q1 aF (qN (qR (q1 aF (q1 LQ (q1 aF (qN (qR (q1 aF ?_)))))))))))))
    refine q1 LQ (q1 aF (qN ?_))
    exact lwN ⟨_,(aY H:),bZ⟩
   iterate 2 refine qg g8 aF ?_
   refine dK H fun z11 H=>(qg g8 (aW.indexSI (y:=v3) rfl rfl rfl rfl z11.1 z11.2 Tryz.underlying9) (qg g8 aF (qg g8 dP (q1 (b4 g8) (qN ?_)))))
   refine a9 H (fun h12 H=>?_) (fun h12 H=>?_)
   ·refine qS (qR ?_)
    iterate 4 refine q1 aF ?_
    refine dK H fun z13 H=>(q1 (aW.sliceS (l:=v2) (k:=v3) rfl rfl rfl rfl rfl z13 Tryz.underlying9) (q1 (iI ([(ps.extract (v2:Int).toNat (v3:Int).toNat)]:List ByteArray) bW jZ) (dK H fun z14 H=>(q1 (lC z14 bW oT) (q1 aF (qN (qR (q1 aF (q1 LQ (q1 aF (qN (qR (q1 aF ?_)))))))))))))
    refine q1 LQ (q1 aF (qN ?_))
    exact lwN ⟨_,(aY H:),bZ⟩
   refine aO.skip (qR (q1 aF (q1 LQ (q1 aF (qN ?_)))))
   exact lwN ⟨_,(aY H:),bZ⟩
  refine aO.exit ?_;exact lwB ⟨_,(aY H:),bZ⟩
 rintro⟨v4,v2,v3⟩ H
 refine qS (qR ?_)
 iterate 2 refine q1 aF ?_
 refine qN (aO.ret ?_)
 obtain rfl:_=r:=(aY H:)
 exact bN
def acH(m:cC→Option cC):Prop:= ∀(pr:cC) (r:cC),m pr=some r→dG Tryz.prog 216 [.ptr 0 0] ⟨[some ⟨250,[pS pr.gs,pI pr.gat,pI pr.gdeep,pI pr.gsize,pB pr.gbad]⟩],[]⟩ (fun q t=>q=(.tup []:PV)∧t=⟨[some ⟨250,[pS r.gs,pI r.gat,pI r.gdeep,pI r.gsize,pB r.gbad]⟩],[]⟩)
def NF(fu:Nat)(pr:cC):Int→Option (LR Int cC):=
 fun v1=>sw (decide ((v1:Int)<((pr.gs.size:Nat):Int)))
 (gd (0≤v1∧(v1).toNat<(pr.gs).size)
 (sw (decide ((((y2 pr.gs ((v1).toNat)).toNat:Int):Int)=32))
 (some (.next (aQ (v1+1))))
 (sw (decide ((((y2 pr.gs ((v1).toNat)).toNat:Int):Int)=10))
 (some (.next (aQ (v1+1))))
 (some (.brk v1)))))
 (some (.brk v1))
def NT(fu:Nat)(pr:cC):Option (cC⊕Int):=
 loopW (NF fu pr) fu pr.gat
def uI(fu:Nat)(pr:cC):Option cC:=
 so (NT fu pr) (fun v1=>
 some (cC.mk pr.gs v1 pr.gdeep pr.gsize pr.gbad))
theorem D5(fu:Nat):acH (uI fu):=by
 intro pr r H
 have H:=fC H
 refine qI Tryz.func216 (fun C hC=>?_)
 refine J6 (σ:=Int) (fun v1=>⟨[(0,.ptr 0 0)],⟨[some ⟨250,[pS pr.gs,pI v1,pI pr.gdeep,pI pr.gsize,pB pr.gbad]⟩],[]⟩⟩) (fun v1=>⟨[],⟨[some ⟨250,[pS pr.gs,pI v1,pI pr.gdeep,pI pr.gsize,pB pr.gbad]⟩],[]⟩⟩) (f9 H) ?_ ?_
 ·rintro k2 v1 H
  iterate 2 refine qS ?_
  rcases jS (decide ((v1:Int)<((pr.gs.size:Nat):Int))) with g3|g3
  ·have H:=oJ H g3
   refine dK H fun z4 H=>?_
   rcases jS (decide ((((y2 pr.gs ((v1).toNat)).toNat:Int):Int)=32)) with g5|g5
   ·have H:=oJ H g5
    refine dW (dI [0] aF (dI [2] n5 (dI [3] (aZ eT) (dD [4] (bB iG) (dI [0] aF (dI [6] n5 (dI [7] (aZ kH) (dD [8] (bB e8) (dI [9] (aW.lenS rfl rfl rfl Tryz.underlying9) (dI [5,10] gU (dI [11] aF (dI (hg:=aT g3) [0] aF (dI (hg:=aT g3) [13] n5 ?_)))))))))))))
    refine dI (hg:=aT g3) [14] (aZ kH) (dD (hg:=aT g3) [15] (bB e8) (dI (hg:=aT g3) [0] aF (dI (hg:=aT g3) [17] n5 (dI (hg:=aT g3) [18] (aZ eT) (dD (hg:=aT g3) [19] (bB iG) (dI (hg:=aT g3) [16,20] (aW.indexSI (y:=v1) rfl rfl rfl rfl z4.1 z4.2 Tryz.underlying9) (dI (hg:=aT g3) [21] dP (dI (hg:=aT g3) [22] aF ?_))))))))
    iterate 10 refine wD g5 ?_
    refine dI (hg:=aT g3) [23] (bS g5) (dI [12,34] (bS g3) (dN (dT rfl (aO.skip (aO.block (qR ?_))))))
    iterate 2 refine q1 aF ?_
    refine q1 n5 (q1 (aZ eT) (q1 (bB iG) (q1 LQ (q1 n5 (q1 (aZ eT) (q1 (bV sz3) (qN ?_)))))))
    exact lwN ⟨_,(aY H:),bZ⟩
   have H:=oH H g5
   refine dW (dI [0] aF (dI [2] n5 (dI [3] (aZ eT) (dD [4] (bB iG) (dI [0] aF (dI [6] n5 (dI [7] (aZ kH) (dD [8] (bB e8) (dI [9] (aW.lenS rfl rfl rfl Tryz.underlying9) (dI [5,10] gU (dI [11] aF (dI (hg:=aT g3) [0] aF (dI (hg:=aT g3) [13] n5 ?_)))))))))))))
   refine dI (hg:=aT g3) [14] (aZ kH) (dD (hg:=aT g3) [15] (bB e8) (dI (hg:=aT g3) [0] aF (dI (hg:=aT g3) [17] n5 (dI (hg:=aT g3) [18] (aZ eT) (dD (hg:=aT g3) [19] (bB iG) (dI (hg:=aT g3) [16,20] (aW.indexSI (y:=v1) rfl rfl rfl rfl z4.1 z4.2 Tryz.underlying9) (dI (hg:=aT g3) [21] dP (dI (hg:=aT g3) [22] aF (dI (hg:=aT g5) [0] aF (dI (hg:=aT g5) [24] n5 (dI (hg:=aT g5) [25] (aZ kH) (dD (hg:=aT g5) [26] (bB e8) (dI (hg:=aT g5) [0] aF ?_)))))))))))))
   refine dI (hg:=aT g5) [28] n5 (dI (hg:=aT g5) [29] (aZ eT) (dD (hg:=aT g5) [30] (bB iG) (dI (hg:=aT g5) [27,31] (aW.indexSI (y:=v1) rfl rfl rfl rfl z4.1 z4.2 Tryz.underlying9) (dI (hg:=aT g5) [32] dP (dI (hg:=aT g3) [23,33] (b4 g5) (dI [12,34] (bS g3) (dN ?_)))))))
   refine a9 H (fun h6 H=>?_) (fun h6 H=>?_)
   ·refine aO.skip (aO.block (qR ?_))
    iterate 2 refine q1 aF ?_
    refine q1 n5 (q1 (aZ eT) (q1 (bB iG) (q1 LQ (q1 n5 (q1 (aZ eT) (q1 (bV sz3) (qN ?_)))))))
    exact lwN ⟨_,(aY H:),bZ⟩
   refine aO.exit ?_;exact lwB ⟨_,(aY H:),bZ⟩
  have H:=oH H g3
  refine dW (dI [0] aF (dI [2] n5 (dI [3] (aZ eT) (dD [4] (bB iG) (dI [0] aF (dI [6] n5 (dI [7] (aZ kH) (dD [8] (bB e8) (dI [9] (aW.lenS rfl rfl rfl Tryz.underlying9) (dI [5,10] gU (dI [11] aF ?_)))))))))))
  iterate 11 refine wD g3 ?_
  iterate 10 refine dSu ?_
  refine wD g3 (dI [12] (b4 g3) (dN (kL rfl (aO.exit ?_))))
  exact lwB ⟨_,(aY H:),bZ⟩
 rintro v1 H
 obtain rfl:_=r:=(aY H:)
 exact qe (ps:= []) ⟨rfl,rfl⟩ trivial
def ab5(m:UInt8→Option Bool):Prop:= ∀(px:UInt8) (r:Bool),m px=some r→cH Tryz.prog 226 [pU px] (pB r:PV)
def B6(fu:Nat)(px:UInt8):Option Bool:=
 sw (decide (((px.toNat:Int):Int)≥97))
 (sw (decide (((px.toNat:Int):Int)≤122))
 (some true)
 (sw (decide (((px.toNat:Int):Int)≥48))
 (sw (decide (((px.toNat:Int):Int)≤57))
 (some true)
 (sw (decide (((px.toNat:Int):Int)=39))
 (some true)
 (sw (decide (((px.toNat:Int):Int)=45))
 (some true)
 (sw (decide (((px.toNat:Int):Int)=43))
 (some true)
 (sw (decide (((px.toNat:Int):Int)=42))
 (some true)
 (sw (decide (((px.toNat:Int):Int)=60))
 (some true)
 (sw (decide (((px.toNat:Int):Int)=61))
 (some true)
 (some (decide (((px.toNat:Int):Int)=46))))))))))
 (sw (decide (((px.toNat:Int):Int)=39))
 (some true)
 (sw (decide (((px.toNat:Int):Int)=45))
 (some true)
 (sw (decide (((px.toNat:Int):Int)=43))
 (some true)
 (sw (decide (((px.toNat:Int):Int)=42))
 (some true)
 (sw (decide (((px.toNat:Int):Int)=60))
 (some true)
 (sw (decide (((px.toNat:Int):Int)=61))
 (some true)
 (some (decide (((px.toNat:Int):Int)=46)))))))))))
 (sw (decide (((px.toNat:Int):Int)≥48))
 (sw (decide (((px.toNat:Int):Int)≤57))
 (some true)
 (sw (decide (((px.toNat:Int):Int)=39))
 (some true)
 (sw (decide (((px.toNat:Int):Int)=45))
 (some true)
 (sw (decide (((px.toNat:Int):Int)=43))
 (some true)
 (sw (decide (((px.toNat:Int):Int)=42))
 (some true)
 (sw (decide (((px.toNat:Int):Int)=60))
 (some true)
 (sw (decide (((px.toNat:Int):Int)=61))
 (some true)
 (some (decide (((px.toNat:Int):Int)=46))))))))))
 (sw (decide (((px.toNat:Int):Int)=39))
 (some true)
 (sw (decide (((px.toNat:Int):Int)=45))
 (some true)
 (sw (decide (((px.toNat:Int):Int)=43))
 (some true)
 (sw (decide (((px.toNat:Int):Int)=42))
 (some true)
 (sw (decide (((px.toNat:Int):Int)=60))
 (some true)
 (sw (decide (((px.toNat:Int):Int)=61))
 (some true)
 (some (decide (((px.toNat:Int):Int)=46))))))))))
theorem MG(fu:Nat):ab5 (B6 fu):=by
 intro px r H
 have H:=fC H
 refine qI Tryz.func226 (fun C hC=>?_)
 refine qS (qR (q1 aF (qN (qS (qR (q1 aF (q1 P7 (q1 aF ?_))))))))
 refine dY 5 H (fun g1 H=>?_) fun g1 H=>?_
 ·refine qg g1 aF (qg g1 rLe (q1 (bS g1) (q1 aF ?_)))
  refine dY 9 H (fun g2 H=>?_) fun g2 H=>?_
  ·refine qk g2 ?_
   iterate 2 refine qk g2 ?_
   iterate 2 refine F1 ?_
   refine qk g2 (q1 (bS g2) (q1 aF ?_))
   iterate 2 refine qk rfl ?_
   refine q1 (bS rfl) (q1 aF ?_)
   iterate 2 refine qk rfl ?_
   refine q1 (bS rfl) (q1 aF ?_)
   iterate 2 refine qk rfl ?_
   refine q1 (bS rfl) (q1 aF ?_)
   iterate 2 refine qk rfl ?_
   refine q1 (bS rfl) (q1 aF ?_)
   iterate 2 refine qk rfl ?_
   refine q1 (bS rfl) (q1 aF ?_)
   iterate 2 refine qk rfl ?_
   refine q1 (bS rfl) (q1 aF ?_)
   iterate 2 refine qk rfl ?_
   refine q1 (bS rfl) (q1 aF (qN (aO.ret ?_)))
   obtain rfl:_=r:=(aY H:)
   exact bN
  refine qg g2 aF (qg g2 P7 (qg g2 aF ?_))
  refine dY 12 H (fun g3 H=>?_) fun g3 H=>?_
  ·refine qg g3 aF (qg g3 rLe (qg g2 (bS g3) (q1 (b4 g2) (q1 aF ?_))))
   refine dY 17 H (fun g4 H=>?_) fun g4 H=>?_
   ·refine qk g4 (qk g4 (q1 (bS g4) (q1 aF ?_)))
    iterate 2 refine qk rfl ?_
    refine q1 (bS rfl) (q1 aF ?_)
    iterate 2 refine qk rfl ?_
    refine q1 (bS rfl) (q1 aF ?_)
    iterate 2 refine qk rfl ?_
    refine q1 (bS rfl) (q1 aF ?_)
    iterate 2 refine qk rfl ?_
    refine q1 (bS rfl) (q1 aF ?_)
    iterate 2 refine qk rfl ?_
    refine q1 (bS rfl) (q1 aF ?_)
    iterate 2 refine qk rfl ?_
    refine q1 (bS rfl) (q1 aF (qN (aO.ret ?_)))
    obtain rfl:_=r:=(aY H:)
    exact bN
   refine qg g4 aF (qg g4 dP (q1 (b4 g4) (q1 aF ?_)))
   refine dY 21 H (fun g5 H=>?_) fun g5 H=>?_
   ·refine qk g5 (qk g5 (q1 (bS g5) (q1 aF ?_)))
    iterate 2 refine qk rfl ?_
    refine q1 (bS rfl) (q1 aF ?_)
    iterate 2 refine qk rfl ?_
    refine q1 (bS rfl) (q1 aF ?_)
    iterate 2 refine qk rfl ?_
    refine q1 (bS rfl) (q1 aF ?_)
    iterate 2 refine qk rfl ?_
    refine q1 (bS rfl) (q1 aF ?_)
    iterate 2 refine qk rfl ?_
    refine q1 (bS rfl) (q1 aF (qN (aO.ret ?_)))
    obtain rfl:_=r:=(aY H:)
    exact bN
   refine qg g5 aF (qg g5 dP (q1 (b4 g5) (q1 aF ?_)))
   refine dY 25 H (fun g6 H=>?_) fun g6 H=>?_
   ·refine qk g6 (qk g6 (q1 (bS g6) (q1 aF ?_)))
    iterate 2 refine qk rfl ?_
    refine q1 (bS rfl) (q1 aF ?_)
    iterate 2 refine qk rfl ?_
    refine q1 (bS rfl) (q1 aF ?_)
    iterate 2 refine qk rfl ?_
    refine q1 (bS rfl) (q1 aF ?_)
    iterate 2 refine qk rfl ?_
    refine q1 (bS rfl) (q1 aF (qN (aO.ret ?_)))
    obtain rfl:_=r:=(aY H:)
    exact bN
   refine qg g6 aF (qg g6 dP (q1 (b4 g6) (q1 aF ?_)))
   refine dY 29 H (fun g7 H=>?_) fun g7 H=>?_
   ·refine qk g7 (qk g7 (q1 (bS g7) (q1 aF ?_)))
    iterate 2 refine qk rfl ?_
    refine q1 (bS rfl) (q1 aF ?_)
    iterate 2 refine qk rfl ?_
    refine q1 (bS rfl) (q1 aF ?_)
    iterate 2 refine qk rfl ?_
    refine q1 (bS rfl) (q1 aF (qN (aO.ret ?_)))
    obtain rfl:_=r:=(aY H:)
    exact bN
   refine qg g7 aF (qg g7 dP (q1 (b4 g7) (q1 aF ?_)))
   refine dY 33 H (fun g8 H=>?_) fun g8 H=>?_
   ·refine qk g8 (qk g8 (q1 (bS g8) (q1 aF ?_)))
    iterate 2 refine qk rfl ?_
    refine q1 (bS rfl) (q1 aF ?_)
    iterate 2 refine qk rfl ?_
    refine q1 (bS rfl) (q1 aF (qN (aO.ret ?_)))
    obtain rfl:_=r:=(aY H:)
    exact bN
   refine qg g8 aF (qg g8 dP (q1 (b4 g8) (q1 aF ?_)))
   refine dY 37 H (fun g9 H=>?_) fun g9 H=>?_
   ·refine qk g9 (qk g9 (q1 (bS g9) (q1 aF ?_)))
    iterate 2 refine qk rfl ?_
    refine q1 (bS rfl) (q1 aF (qN (aO.ret ?_)))
    obtain rfl:_=r:=(aY H:)
    exact bN
   refine qg g9 aF (qg g9 dP (q1 (b4 g9) (q1 aF ?_)))
   refine dY 41 H (fun g10 H=>?_) fun g10 H=>?_
   ·refine qk g10 (qk g10 (q1 (bS g10) (q1 aF (qN (aO.ret ?_)))))
    obtain rfl:_=r:=(aY H:)
    exact bN
   refine qg g10 aF (qg g10 dP (q1 (b4 g10) (q1 aF (qN (aO.ret ?_)))))
   obtain rfl:_=r:=(aY H:)
   exact bN
  iterate 2 refine qk g3 ?_
  refine qg g2 (b4 g3) (q1 (b4 g2) (q1 aF (qg rfl aF (qg rfl dP (q1 (b4 rfl) (q1 aF ?_))))))
  refine dY 21 H (fun g11 H=>?_) fun g11 H=>?_
  ·refine qk g11 (qk g11 (q1 (bS g11) (q1 aF ?_)))
   iterate 2 refine qk rfl ?_
   refine q1 (bS rfl) (q1 aF ?_)
   iterate 2 refine qk rfl ?_
   refine q1 (bS rfl) (q1 aF ?_)
   iterate 2 refine qk rfl ?_
   refine q1 (bS rfl) (q1 aF ?_)
   iterate 2 refine qk rfl ?_
   refine q1 (bS rfl) (q1 aF ?_)
   iterate 2 refine qk rfl ?_
   refine q1 (bS rfl) (q1 aF (qN (aO.ret ?_)))
   obtain rfl:_=r:=(aY H:)
   exact bN
  refine qg g11 aF (qg g11 dP (q1 (b4 g11) (q1 aF ?_)))
  refine dY 25 H (fun g12 H=>?_) fun g12 H=>?_
  ·refine qk g12 (qk g12 (q1 (bS g12) (q1 aF ?_)))
   iterate 2 refine qk rfl ?_
   refine q1 (bS rfl) (q1 aF ?_)
   iterate 2 refine qk rfl ?_
   refine q1 (bS rfl) (q1 aF ?_)
   iterate 2 refine qk rfl ?_
   refine q1 (bS rfl) (q1 aF ?_)
   iterate 2 refine qk rfl ?_
   refine q1 (bS rfl) (q1 aF (qN (aO.ret ?_)))
   obtain rfl:_=r:=(aY H:)
   exact bN
  refine qg g12 aF (qg g12 dP (q1 (b4 g12) (q1 aF ?_)))
  refine dY 29 H (fun g13 H=>?_) fun g13 H=>?_
  ·refine qk g13 (qk g13 (q1 (bS g13) (q1 aF ?_)))
   iterate 2 refine qk rfl ?_
   refine q1 (bS rfl) (q1 aF ?_)
   iterate 2 refine qk rfl ?_
   refine q1 (bS rfl) (q1 aF ?_)
   iterate 2 refine qk rfl ?_
   refine q1 (bS rfl) (q1 aF (qN (aO.ret ?_)))
   obtain rfl:_=r:=(aY H:)
   exact bN
  refine qg g13 aF (qg g13 dP (q1 (b4 g13) (q1 aF ?_)))
  refine dY 33 H (fun g14 H=>?_) fun g14 H=>?_
  ·refine qk g14 (qk g14 (q1 (bS g14) (q1 aF ?_)))
   iterate 2 refine qk rfl ?_
   refine q1 (bS rfl) (q1 aF ?_)
   iterate 2 refine qk rfl ?_
   refine q1 (bS rfl) (q1 aF (qN (aO.ret ?_)))
   obtain rfl:_=r:=(aY H:)
   exact bN
  refine qg g14 aF (qg g14 dP (q1 (b4 g14) (q1 aF ?_)))
  refine dY 37 H (fun g15 H=>?_) fun g15 H=>?_
  ·refine qk g15 (qk g15 (q1 (bS g15) (q1 aF ?_)))
   iterate 2 refine qk rfl ?_
   refine q1 (bS rfl) (q1 aF (qN (aO.ret ?_)))
   obtain rfl:_=r:=(aY H:)
   exact bN
  refine qg g15 aF (qg g15 dP (q1 (b4 g15) (q1 aF ?_)))
  refine dY 41 H (fun g16 H=>?_) fun g16 H=>?_
  ·refine qk g16 (qk g16 (q1 (bS g16) (q1 aF (qN (aO.ret ?_)))))
   obtain rfl:_=r:=(aY H:)
   exact bN
  refine qg g16 aF (qg g16 dP (q1 (b4 g16) (q1 aF (qN (aO.ret ?_)))))
  obtain rfl:_=r:=(aY H:)
  exact bN
 iterate 2 refine qk g1 ?_
 refine q1 (b4 g1) (q1 aF (qg rfl aF (qg rfl P7 (qg rfl aF ?_))))
 refine dY 12 H (fun g17 H=>?_) fun g17 H=>?_
 ·refine qg g17 aF (qg g17 rLe (qg rfl (bS g17) (q1 (b4 rfl) (q1 aF ?_))))
  refine dY 17 H (fun g18 H=>?_) fun g18 H=>?_
  ·refine qk g18 (qk g18 (q1 (bS g18) (q1 aF ?_)))
   iterate 2 refine qk rfl ?_
   refine q1 (bS rfl) (q1 aF ?_)
   iterate 2 refine qk rfl ?_
   refine q1 (bS rfl) (q1 aF ?_)
   iterate 2 refine qk rfl ?_
   refine q1 (bS rfl) (q1 aF ?_)
   iterate 2 refine qk rfl ?_
   refine q1 (bS rfl) (q1 aF ?_)
   iterate 2 refine qk rfl ?_
   refine q1 (bS rfl) (q1 aF ?_)
   iterate 2 refine qk rfl ?_
   refine q1 (bS rfl) (q1 aF (qN (aO.ret ?_)))
   obtain rfl:_=r:=(aY H:)
   exact bN
  refine qg g18 aF (qg g18 dP (q1 (b4 g18) (q1 aF ?_)))
  refine dY 21 H (fun g19 H=>?_) fun g19 H=>?_
  ·refine qk g19 (qk g19 (q1 (bS g19) (q1 aF ?_)))
   iterate 2 refine qk rfl ?_
   refine q1 (bS rfl) (q1 aF ?_)
   iterate 2 refine qk rfl ?_
   refine q1 (bS rfl) (q1 aF ?_)
   iterate 2 refine qk rfl ?_
   refine q1 (bS rfl) (q1 aF ?_)
   iterate 2 refine qk rfl ?_
   refine q1 (bS rfl) (q1 aF ?_)
   iterate 2 refine qk rfl ?_
   refine q1 (bS rfl) (q1 aF (qN (aO.ret ?_)))
   obtain rfl:_=r:=(aY H:)
   exact bN
  refine qg g19 aF (qg g19 dP (q1 (b4 g19) (q1 aF ?_)))
  refine dY 25 H (fun g20 H=>?_) fun g20 H=>?_
  ·refine qk g20 (qk g20 (q1 (bS g20) (q1 aF ?_)))
   iterate 2 refine qk rfl ?_
   refine q1 (bS rfl) (q1 aF ?_)
   iterate 2 refine qk rfl ?_
   refine q1 (bS rfl) (q1 aF ?_)
   iterate 2 refine qk rfl ?_
   refine q1 (bS rfl) (q1 aF ?_)
   iterate 2 refine qk rfl ?_
   refine q1 (bS rfl) (q1 aF (qN (aO.ret ?_)))
   obtain rfl:_=r:=(aY H:)
   exact bN
  refine qg g20 aF (qg g20 dP (q1 (b4 g20) (q1 aF ?_)))
  refine dY 29 H (fun g21 H=>?_) fun g21 H=>?_
  ·refine qk g21 (qk g21 (q1 (bS g21) (q1 aF ?_)))
   iterate 2 refine qk rfl ?_
   refine q1 (bS rfl) (q1 aF ?_)
   iterate 2 refine qk rfl ?_
   refine q1 (bS rfl) (q1 aF ?_)
   iterate 2 refine qk rfl ?_
   refine q1 (bS rfl) (q1 aF (qN (aO.ret ?_)))
   obtain rfl:_=r:=(aY H:)
   exact bN
  refine qg g21 aF (qg g21 dP (q1 (b4 g21) (q1 aF ?_)))
  refine dY 33 H (fun g22 H=>?_) fun g22 H=>?_
  ·refine qk g22 (qk g22 (q1 (bS g22) (q1 aF ?_)))
   iterate 2 refine qk rfl ?_
   refine q1 (bS rfl) (q1 aF ?_)
   iterate 2 refine qk rfl ?_
   refine q1 (bS rfl) (q1 aF (qN (aO.ret ?_)))
   obtain rfl:_=r:=(aY H:)
   exact bN
  refine qg g22 aF (qg g22 dP (q1 (b4 g22) (q1 aF ?_)))
  refine dY 37 H (fun g23 H=>?_) fun g23 H=>?_
  ·refine qk g23 (qk g23 (q1 (bS g23) (q1 aF ?_)))
   iterate 2 refine qk rfl ?_
   refine q1 (bS rfl) (q1 aF (qN (aO.ret ?_)))
   obtain rfl:_=r:=(aY H:)
   exact bN
  refine qg g23 aF (qg g23 dP (q1 (b4 g23) (q1 aF ?_)))
  refine dY 41 H (fun g24 H=>?_) fun g24 H=>?_
  ·refine qk g24 (qk g24 (q1 (bS g24) (q1 aF (qN (aO.ret ?_)))))
   obtain rfl:_=r:=(aY H:)
   exact bN
  refine qg g24 aF (qg g24 dP (q1 (b4 g24) (q1 aF (qN (aO.ret ?_)))))
  obtain rfl:_=r:=(aY H:)
  exact bN
 iterate 2 refine qk g17 ?_
 refine qg rfl (b4 g17) (q1 (b4 rfl) (q1 aF (qg rfl aF (qg rfl dP (q1 (b4 rfl) (q1 aF ?_))))))
 refine dY 21 H (fun g25 H=>?_) fun g25 H=>?_
 ·refine qk g25 (qk g25 (q1 (bS g25) (q1 aF ?_)))
  iterate 2 refine qk rfl ?_
  refine q1 (bS rfl) (q1 aF ?_)
  iterate 2 refine qk rfl ?_
  refine q1 (bS rfl) (q1 aF ?_)
  iterate 2 refine qk rfl ?_
  refine q1 (bS rfl) (q1 aF ?_)
  iterate 2 refine qk rfl ?_
  refine q1 (bS rfl) (q1 aF ?_)
  iterate 2 refine qk rfl ?_
  refine q1 (bS rfl) (q1 aF (qN (aO.ret ?_)))
  obtain rfl:_=r:=(aY H:)
  exact bN
 refine qg g25 aF (qg g25 dP (q1 (b4 g25) (q1 aF ?_)))
 refine dY 25 H (fun g26 H=>?_) fun g26 H=>?_
 ·refine qk g26 (qk g26 (q1 (bS g26) (q1 aF ?_)))
  iterate 2 refine qk rfl ?_
  refine q1 (bS rfl) (q1 aF ?_)
  iterate 2 refine qk rfl ?_
  refine q1 (bS rfl) (q1 aF ?_)
  iterate 2 refine qk rfl ?_
  refine q1 (bS rfl) (q1 aF ?_)
  iterate 2 refine qk rfl ?_
  refine q1 (bS rfl) (q1 aF (qN (aO.ret ?_)))
  obtain rfl:_=r:=(aY H:)
  exact bN
 refine qg g26 aF (qg g26 dP (q1 (b4 g26) (q1 aF ?_)))
 refine dY 29 H (fun g27 H=>?_) fun g27 H=>?_
 ·refine qk g27 (qk g27 (q1 (bS g27) (q1 aF ?_)))
  iterate 2 refine qk rfl ?_
  refine q1 (bS rfl) (q1 aF ?_)
  iterate 2 refine qk rfl ?_
  refine q1 (bS rfl) (q1 aF ?_)
  iterate 2 refine qk rfl ?_
  refine q1 (bS rfl) (q1 aF (qN (aO.ret ?_)))
  obtain rfl:_=r:=(aY H:)
  exact bN
 refine qg g27 aF (qg g27 dP (q1 (b4 g27) (q1 aF ?_)))
 refine dY 33 H (fun g28 H=>?_) fun g28 H=>?_
 ·refine qk g28 (qk g28 (q1 (bS g28) (q1 aF ?_)))
  iterate 2 refine qk rfl ?_
  refine q1 (bS rfl) (q1 aF ?_)
  iterate 2 refine qk rfl ?_
  refine q1 (bS rfl) (q1 aF (qN (aO.ret ?_)))
  obtain rfl:_=r:=(aY H:)
  exact bN
 refine qg g28 aF (qg g28 dP (q1 (b4 g28) (q1 aF ?_)))
 refine dY 37 H (fun g29 H=>?_) fun g29 H=>?_
 ·refine qk g29 (qk g29 (q1 (bS g29) (q1 aF ?_)))
  iterate 2 refine qk rfl ?_
  refine q1 (bS rfl) (q1 aF (qN (aO.ret ?_)))
  obtain rfl:_=r:=(aY H:)
  exact bN
 refine qg g29 aF (qg g29 dP (q1 (b4 g29) (q1 aF ?_)))
 refine dY 41 H (fun g30 H=>?_) fun g30 H=>?_
 ·refine qk g30 (qk g30 (q1 (bS g30) (q1 aF (qN (aO.ret ?_)))))
  obtain rfl:_=r:=(aY H:)
  exact bN
 refine qg g30 aF (qg g30 dP (q1 (b4 g30) (q1 aF (qN (aO.ret ?_)))))
 obtain rfl:_=r:=(aY H:)
 exact bN
abbrev p9:=cC→Option (aA×cC)
def B7(m:p9):Prop:= ∀(pq0:cC) (r:aA×cC),m pq0=some r→dG Tryz.prog 215 [.ptr 0 0] ⟨[some ⟨250,[pS pq0.gs,pI pq0.gat,pI pq0.gdeep,pI pq0.gsize,pB pq0.gbad]⟩],[]⟩ (fun q t=>q=((aA.pv r.1):PV)∧t=⟨[some ⟨250,[pS r.2.gs,pI r.2.gat,pI r.2.gdeep,pI r.2.gsize,pB r.2.gbad]⟩],[]⟩)
def MO(fu:Nat)(r_sl2Read:p9)(pq0 x2:cC):Int→Option (LR Int (aA×cC)):=
 fun v5=>sw (decide ((v5:Int)<((x2.gs.size:Nat):Int)))
 (gd (0≤v5∧(v5).toNat<(x2.gs).size)
 (bd (B6 fu (y2 x2.gs ((v5).toNat))) (fun x10=>
 sw (x10)
 (some (.next (aQ (v5+1))))
 (some (.brk v5)))))
 (some (.brk v5))
def MU(fu:Nat)(r_sl2Read:p9)(pq0 x2:cC):Option ((aA×cC)⊕Int):=
 loopW (MO fu r_sl2Read pq0 x2) fu x2.gat
def MP(fu:Nat)(r_sl2Read:p9)(pq0 x2:cC)(v5:Int):(ByteArray×Int×Int×Int×Bool×(List aA))→Option (LR (ByteArray×Int×Int×Int×Bool×(List aA)) (aA×cC)):=
 fun(v17,v18,v19,v20,v21,v23)=>sw (!(v21))
 (bd (uI fu (cC.mk v17 v18 v19 v20 v21)) (fun x27=>
 sw (decide ((x27.gat:Int)<((x27.gs.size:Nat):Int)))
 (gd (0≤x27.gat∧(x27.gat).toNat<(x27.gs).size)
 (sw (decide ((((y2 x27.gs ((x27.gat).toNat)).toNat:Int):Int)=41))
 (some (.ret ((aA.mk s_ v23),(cC.mk x27.gs (aQ (x27.gat+1)) (aQ (x27.gdeep-1)) x27.gsize x27.gbad))))
 (bd (r_sl2Read x27) (fun(x32,x33)=>
 gd ((v23).length+(([x32]:List aA)).length≤68719476736)
 (some (.next (x33.gs,x33.gat,x33.gdeep,x33.gsize,x33.gbad,(v23++([x32]:List aA)))))))))
 (bd (r_sl2Read x27) (fun(x36,x37)=>
 gd ((v23).length+(([x36]:List aA)).length≤68719476736)
 (some (.next (x37.gs,x37.gat,x37.gdeep,x37.gsize,x37.gbad,(v23++([x36]:List aA)))))))))
 (some (.brk (v17,v18,v19,v20,v21,v23)))
def MB(fu:Nat)(r_sl2Read:p9)(pq0 x2:cC)(v5:Int):Option ((aA×cC)⊕(ByteArray×Int×Int×Int×Bool×(List aA))):=
 loopW (MP fu r_sl2Read pq0 x2 v5) fu (x2.gs,(aQ (v5+1)),(aQ (x2.gdeep+1)),(aQ (x2.gsize+1)),x2.gbad,([]))
def BQ(fu:Nat)(r_sl2Read:p9)(pq0:cC):Option (aA×cC):=
 bd (uI fu pq0) (fun x2=>
 sw (decide ((x2.gat:Int)≥((x2.gs.size:Nat):Int)))
 (some ((aA.mk s_ []),(cC.mk x2.gs x2.gat x2.gdeep (aQ (x2.gsize+1)) true)))
 (sw (decide ((aQ (x2.gsize+1):Int)>900))
 (some ((aA.mk s_ []),(cC.mk x2.gs x2.gat x2.gdeep (aQ (x2.gsize+1)) true)))
 (so (MU fu r_sl2Read pq0 x2) (fun v5=>
 sw (decide ((v5:Int)>x2.gat))
 (gd ((0:Int)≤x2.gat∧(x2.gat:Int)≤v5∧(v5:Int)≤((x2.gs.size:Nat):Int))
 (some ((aA.mk (x2.gs.extract (x2.gat:Int).toNat (v5:Int).toNat) []),(cC.mk x2.gs v5 x2.gdeep (aQ (x2.gsize+1)) x2.gbad))))
 (gd (0≤v5∧(v5).toNat<(x2.gs).size)
 (sw (!decide ((((y2 x2.gs ((v5).toNat)).toNat:Int):Int)=40))
 (some ((aA.mk s_ []),(cC.mk x2.gs v5 x2.gdeep (aQ (x2.gsize+1)) true)))
 (sw (decide ((x2.gdeep:Int)=14))
 (some ((aA.mk s_ []),(cC.mk x2.gs v5 x2.gdeep (aQ (x2.gsize+1)) true)))
 (so (MB fu r_sl2Read pq0 x2 v5) (fun(v17,v18,v19,v20,v21,v23)=>
 some ((aA.mk s_ v23),(cC.mk v17 v18 v19 v20 v21)))))))))))
theorem S0(fu:Nat)(r_sl2Read:p9)(h_sl2Read:B7 r_sl2Read):B7 (BQ fu r_sl2Read):=by
 intro pq0 r H
 have H:=fC H
 refine qI Tryz.func215 (fun C hC=>?_)
 refine qS (qR (q1 (hH b3) (qN (qS (qR (q1 aF (bO H fun x2 z1 H=>(q1 (gF [0] [] Tryz.func216 (D5 fu pq0 _ z1)) (qN (qS (qR ?_)))))))))))
 iterate 2 refine q1 aF ?_
 refine q1 n5 (q1 (aZ R3) (q1 (bB iG) (q1 LQ (q1 n5 (q1 (aZ R3) (q1 (bV sz3) (qN ?_)))))))
 iterate 2 refine qS ?_
 rcases jS (decide ((x2.gat:Int)≥((x2.gs.size:Nat):Int))) with g3|g3
 ·have H:=oJ H g3
  refine dW (dI [0] aF (dI [15] n5 (dI [16] (aZ eT) (dD [17] (bB iG) (dI [0] aF (dI [19] n5 (dI [20] (aZ kH) (dD [21] (bB e8) (dI [22] (aW.lenS rfl rfl rfl Tryz.underlying9) (dI [18,23] P7 (dI [24] aF ?_)))))))))))
  iterate 5 refine wD g3 ?_
  refine dI [25] (bS g3) (dN (dT rfl (qS (qR (q1 aF (q1 n5 (q1 (aZ CE) (q1 (bV sz4) (qN (qS (qR (q1 (fM b3 lG) (q1 (bV dR) ?_)))))))))))))
  refine qN (aO.ret ?_)
  obtain rfl:_=r:=(aY H:)
  exact bN (hr:=⟨⟨_,_,_,rfl,rfl,bP,rfl,rfl⟩,trivial⟩)
 have H:=oH H g3
 refine dW (dI [0] aF (dI [15] n5 (dI [16] (aZ eT) (dD [17] (bB iG) (dI [0] aF (dI [19] n5 (dI [20] (aZ kH) (dD [21] (bB e8) (dI [22] (aW.lenS rfl rfl rfl Tryz.underlying9) (dI [18,23] P7 (dI [24] aF (dI (hg:=aT g3) [0] aF (dI (hg:=aT g3) [26] n5 ?_)))))))))))))
 refine dI (hg:=aT g3) [27] (aZ R3) (dD (hg:=aT g3) [28] (bB iG) (dI (hg:=aT g3) [29] HB (dI [25,30] (b4 g3) (dN ?_))))
 refine a9 H (fun h4 H=>?_) (fun h4 H=>?_)
 ·refine qS (qR (q1 aF (q1 n5 (q1 (aZ CE) (q1 (bV sz4) (qN (qS (qR (q1 (fM b3 lG) (q1 (bV dR) (qN (aO.ret ?_))))))))))))
  obtain rfl:_=r:=(aY H:)
  exact bN (hr:=⟨⟨_,_,_,rfl,rfl,bP,rfl,rfl⟩,trivial⟩)
 refine aO.skip (qS (qR (q1 aF (q1 n5 (q1 (aZ eT) (q1 (bB iG) (q1 aF (qN (qS ?_)))))))))
 refine J6 (σ:=Int) (fun v5=>⟨[(0,.ptr 0 0),(2,.ptr 1 0),(3,pI x2.gat)],⟨[some ⟨250,[pS x2.gs,pI v5,pI x2.gdeep,pI (aQ (x2.gsize+1)),pB x2.gbad]⟩,some ⟨237,[pS s_,.nil]⟩],[]⟩⟩) (fun v5=>⟨[(0,.ptr 0 0),(2,.ptr 1 0),(3,pI x2.gat)],⟨[some ⟨250,[pS x2.gs,pI v5,pI x2.gdeep,pI (aQ (x2.gsize+1)),pB x2.gbad]⟩,some ⟨237,[pS s_,.nil]⟩],[]⟩⟩) (f9 H) ?_ ?_
 ·rintro k6 v5 H
  iterate 2 refine qS ?_
  rcases jS (decide ((v5:Int)<((x2.gs.size:Nat):Int))) with g7|g7
  ·have H:=oJ H g7
   refine dK H fun z8 H=>(bO H fun x10 z9 H=>(dW (dI [0] aF (dI [40] n5 (dI [41] (aZ eT) (dD [42] (bB iG) (dI [0] aF (dI [44] n5 (dI [45] (aZ kH) (dD [46] (bB e8) (dI [47] (aW.lenS rfl rfl rfl Tryz.underlying9) (dI [43,48] gU (dI [49] aF ?_)))))))))))))
   refine dI (hg:=aT g7) [0] aF (dI (hg:=aT g7) [51] n5 (dI (hg:=aT g7) [52] (aZ kH) (dD (hg:=aT g7) [53] (bB e8) (dI (hg:=aT g7) [0] aF (dI (hg:=aT g7) [55] n5 (dI (hg:=aT g7) [56] (aZ eT) (dD (hg:=aT g7) [57] (bB iG) (dI (hg:=aT g7) [54,58] (aW.indexSI (y:=v5) rfl rfl rfl rfl z8.1 z8.2 Tryz.underlying9) (dI (hg:=aT g7) [59] (bJ Tryz.func226 (MG fu (y2 x2.gs ((v5).toNat)) _ z9)) (dI [50,60] (bS g7) (dN ?_)))))))))))
   refine a9 H (fun h11 H=>?_) (fun h11 H=>?_)
   ·refine aO.skip (aO.block (qR ?_))
    iterate 2 refine q1 aF ?_
    refine q1 n5 (q1 (aZ eT) (q1 (bB iG) (q1 LQ (q1 n5 (q1 (aZ eT) (q1 (bV sz3) (qN ?_)))))))
    exact lwN ⟨_,(aY H:),bZ⟩
   refine aO.exit ?_;exact lwB ⟨_,(aY H:),bZ⟩
  have H:=oH H g7
  refine dW (dI [0] aF (dI [40] n5 (dI [41] (aZ eT) (dD [42] (bB iG) (dI [0] aF (dI [44] n5 (dI [45] (aZ kH) (dD [46] (bB e8) (dI [47] (aW.lenS rfl rfl rfl Tryz.underlying9) (dI [43,48] gU (dI [49] aF ?_)))))))))))
  iterate 10 refine wD g7 ?_
  refine dI [50] (b4 g7) (dN (kL rfl (aO.exit ?_)))
  exact lwB ⟨_,(aY H:),bZ⟩
 rintro v5 H
 iterate 2 refine qS ?_
 refine qR (q1 aF (q1 n5 (q1 (aZ eT) (q1 (bB iG) (q1 aF (q1 HB (qN ?_)))))))
 refine a9 H (fun h12 H=>?_) (fun h12 H=>?_)
 ·refine qS (dK H fun z13 H=>(dW (dI [0] aF (dI [76] n5 (dI [77] (aZ kH) (dD [78] (bB e8) (dI [3] aF (dI [0] aF (dI [81] n5 (dI [82] (aZ eT) (dD [83] (bB iG) (dI [79,80,84] (aW.sliceS (l:=x2.gat) (k:=v5) rfl rfl rfl rfl rfl z13 Tryz.underlying9) (dI [85] (fM b3 lG) ?_)))))))))))))
  refine mZ [2,86] (bV dR) (dN (aO.ret ?_))
  obtain rfl:_=r:=(aY H:)
  exact bN (hr:=⟨⟨_,_,_,rfl,rfl,bP,rfl,rfl⟩,trivial⟩)
 refine aO.skip ?_
 iterate 2 refine qS ?_
 refine dK H fun z14 H=>?_
 rcases jS (!decide ((((y2 x2.gs ((v5).toNat)).toNat:Int):Int)=40)) with g15|g15
 ·have H:=oJ H g15
  refine dW (dI [0] aF (dI [87] n5 (dI [88] (aZ kH) (dD [89] (bB e8) (dI [0] aF (dI [91] n5 (dI [92] (aZ eT) (dD [93] (bB iG) (dI [90,94] (aW.indexSI (y:=v5) rfl rfl rfl rfl z14.1 z14.2 Tryz.underlying9) (dI [95] QI (dI [96] aF ?_)))))))))))
  iterate 5 refine wD g15 ?_
  refine dI [97] (bS g15) (dN (dT rfl (qS (qR (q1 aF (q1 n5 (q1 (aZ CE) (q1 (bV sz4) (qN (qS (qR (q1 (fM b3 lG) (q1 (bV dR) ?_)))))))))))))
  refine qN (aO.ret ?_)
  obtain rfl:_=r:=(aY H:)
  exact bN (hr:=⟨⟨_,_,_,rfl,rfl,bP,rfl,rfl⟩,trivial⟩)
 have H:=oH H g15
 refine dW (dI [0] aF (dI [87] n5 (dI [88] (aZ kH) (dD [89] (bB e8) (dI [0] aF (dI [91] n5 (dI [92] (aZ eT) (dD [93] (bB iG) (dI [90,94] (aW.indexSI (y:=v5) rfl rfl rfl rfl z14.1 z14.2 Tryz.underlying9) (dI [95] QI (dI [96] aF (dI (hg:=aT g15) [0] aF (dI (hg:=aT g15) [98] n5 ?_)))))))))))))
 refine dI (hg:=aT g15) [99] (aZ F9) (dD (hg:=aT g15) [100] (bB iG) (dI (hg:=aT g15) [101] dP (dI [97,102] (b4 g15) (dN ?_))))
 refine a9 H (fun h16 H=>?_) (fun h16 H=>?_)
 ·refine qS (qR (q1 aF (q1 n5 (q1 (aZ CE) (q1 (bV sz4) (qN (qS (qR (q1 (fM b3 lG) (q1 (bV dR) (qN (aO.ret ?_))))))))))))
  obtain rfl:_=r:=(aY H:)
  exact bN (hr:=⟨⟨_,_,_,rfl,rfl,bP,rfl,rfl⟩,trivial⟩)
 refine aO.skip (qS (qR ?_))
 iterate 2 refine q1 aF ?_
 refine q1 n5 (q1 (aZ eT) (q1 (bB iG) (q1 LQ (q1 n5 (q1 (aZ eT) (q1 (bV sz3) (qN (qS (qR ?_)))))))))
 iterate 2 refine q1 aF ?_
 refine q1 n5 (q1 (aZ F9) (q1 (bB iG) (q1 LQ (q1 n5 (q1 (aZ F9) (q1 (bV sz3) (qN (qS (qR (q1 (fM b3 lG) (q1 (hH b3) (q1 (bV dR) (qN ?_)))))))))))))
 refine qS (aO.wk (Wk.regBox (k:=2) (j:=1) 237 2 (by decide) rfl rfl) ?_)
 refine J6 (σ:=ByteArray×Int×Int×Int×Bool×(List aA)) (fun(v17,v18,v19,v20,v21,v23)=>⟨[(0,.ptr 0 0),(2,.ptr 1 0),(4,.ptr 2 0)],⟨[some ⟨250,[pS v17,pI v18,pI v19,pI v20,pB v21]⟩,some ⟨237,[pS s_,.nil]⟩,some ⟨237,[pS s_,dM v23 0]⟩],[⟨237,2,aA.trs (v23),false⟩]⟩⟩) (fun(v17,v18,v19,v20,v21,v23)=>⟨[(2,.ptr 1 0),(4,.ptr 2 0)],⟨[some ⟨250,[pS v17,pI v18,pI v19,pI v20,pB v21]⟩,some ⟨237,[pS s_,.nil]⟩,some ⟨237,[pS s_,dM v23 0]⟩],[⟨237,2,aA.trs (v23),false⟩]⟩⟩) (f9 H) ?_ ?_
 ·rintro k24 ⟨v17,v18,v19,v20,v21,v23⟩ H
  iterate 2 refine qS ?_
  refine qR (q1 aF (q1 n5 (q1 (aZ CE) (q1 (bB sh4) (q1 gS (qN ?_))))))
  refine a9 H (fun h25 H=>?_) (fun h25 H=>?_)
  ·refine aO.skip (aO.block (qS (qR (q1 aF (bO H fun x27 z26 H=>(q1 (gF [0] [] Tryz.func216 (D5 fu (cC.mk v17 v18 v19 v20 v21) _ z26)) (qN ?_)))))))
   iterate 2 refine qS ?_
   rcases jS (decide ((x27.gat:Int)<((x27.gs.size:Nat):Int))) with g28|g28
   ·have H:=oJ H g28
    refine dK H fun z29 H=>(dW (dI [0] aF (dI [132] n5 (dI [133] (aZ eT) (dD [134] (bB iG) (dI [0] aF (dI [136] n5 (dI [137] (aZ kH) (dD [138] (bB e8) (dI [139] (aW.lenS rfl rfl rfl Tryz.underlying9) (dI [135,140] gU (dI [141] aF (dI (hg:=aT g28) [0] aF ?_)))))))))))))
    refine dI (hg:=aT g28) [143] n5 (dI (hg:=aT g28) [144] (aZ kH) (dD (hg:=aT g28) [145] (bB e8) (dI (hg:=aT g28) [0] aF (dI (hg:=aT g28) [147] n5 (dI (hg:=aT g28) [148] (aZ eT) (dD (hg:=aT g28) [149] (bB iG) (dI (hg:=aT g28) [146,150] (aW.indexSI (y:=x27.gat) rfl rfl rfl rfl z29.1 z29.2 Tryz.underlying9) (dI (hg:=aT g28) [151] dP (dI [142,152] (bS g28) (dN ?_))))))))))
    refine a9 H (fun h30 H=>?_) (fun h30 H=>?_)
    ·refine qS (qR ?_)
     iterate 2 refine q1 aF ?_
     refine q1 n5 (q1 (aZ eT) (q1 (bB iG) (q1 LQ (q1 n5 (q1 (aZ eT) (q1 (bV sz3) (qN (qS (qR ?_)))))))))
     iterate 2 refine q1 aF ?_
     refine q1 n5 (q1 (aZ F9) (q1 (bB iG) (q1 zZ (q1 n5 (q1 (aZ F9) (q1 (bV sz3) (qN (qS (qR (q1 (c6 [pS s_,dM v23 0] bP) (q1 (bV dR) (qN (aO.ret ?_)))))))))))))
     obtain rfl:_=r:=(lwR (aY H):)
     exact bN (hr:=⟨⟨_,_,_,rfl,rfl,bP,rfl,rfl⟩,trivial⟩)
    refine aO.skip (f8 H fun x32 x33 z31 H=>(dK H fun z34 H=>(dW (dI [4] (aZ bF) (dB [171] 0 1 (s5 cN) (dI [0] aF (dE [173] (gF [0] [] Tryz.func215 (h_sl2Read x27 _ z31)) (dI [174] (iI ([x32]:List aA) bH b3) (dE [172,175] (lC z34 bH oA) (dI [4] (aZ bF) (mZ [177,176] (bV vI) (dN ?_))))))))))))
    exact lwN ⟨_,(aY H:),bZ⟩
   have H:=oH H g28
   refine dW (dI [0] aF (dI [132] n5 (dI [133] (aZ eT) (dD [134] (bB iG) (dI [0] aF (dI [136] n5 (dI [137] (aZ kH) (dD [138] (bB e8) (dI [139] (aW.lenS rfl rfl rfl Tryz.underlying9) (dI [135,140] gU (dI [141] aF ?_)))))))))))
   iterate 10 refine wD g28 ?_
   refine dI [142] (b4 g28) (dN (kL rfl (aO.skip (f8 H fun x36 x37 z35 H=>(dK H fun z38 H=>(dW (dI [4] (aZ bF) (dB [171] 0 1 (s5 cN) (dI [0] aF (dE [173] (gF [0] [] Tryz.func215 (h_sl2Read x27 _ z35)) (dI [174] (iI ([x36]:List aA) bH b3) (dE [172,175] (lC z38 bH oA) (dI [4] (aZ bF) ?_)))))))))))))
   refine mZ [177,176] (bV vI) (dN ?_)
   exact lwN ⟨_,(aY H:),bZ⟩
  refine aO.exit ?_;exact lwB ⟨_,(aY H:),bZ⟩
 rintro⟨v17,v18,v19,v20,v21,v23⟩ H
 refine qS (qR (q1 (c6 [pS s_,dM v23 0] bP) (q1 (bV dR) (qN (aO.ret ?_)))))
 obtain rfl:_=r:=(aY H:)
 exact bN (hr:=⟨⟨_,_,_,rfl,rfl,bP,rfl,rfl⟩,trivial⟩)
def n0:Nat→cC→Option (aA×cC)
 |0,_=>none
 |fu+1,pq0=>BQ fu (n0 fu) pq0
theorem XA(fu:Nat):B7 (n0 fu):=by
 induction fu with
 |zero=>exact(fun pq0 r H=>by simp only [n0] at H;cases H)
 |succ fu ih=>exact(fun pq0 r H=>by simp only [n0] at H;exact S0 fu (n0 fu) ih pq0 r H)
theorem XY(fu:Nat):B7 (n0 fu):=(XA fu)
abbrev rR:=aA→Int→Option Int
def BW(m:rR):Prop:= ∀(px:aA) (pleft:Int) (r:Int),m px pleft=some r→cH Tryz.prog 227 [(aA.pv px),pI pleft] (pI r:PV)
def XP(fu:Nat)(r_sl2Left:rR)(px:aA)(pleft:Int):Nat→Int→Option (LR Int Int):=
 fun i1 v2=>sw (decide ((v2:Int)≥0))
 (bd (r_sl2Left (a5 px.gList i1) v2) (fun x7=>
 some (.next x7)))
 (some (.brk v2))
def YK(fu:Nat)(r_sl2Left:rR)(px:aA)(pleft:Int):Option (Int⊕Int):=
 loopN (XP fu r_sl2Left px pleft) (px.gList.length-0) 0 (aQ (pleft-1))
def I2(fu:Nat)(r_sl2Left:rR)(px:aA)(pleft:Int):Option Int:=
 so (YK fu r_sl2Left px pleft) (fun v2=>
 some v2)
theorem R9(fu:Nat)(r_sl2Left:rR)(h_sl2Left:BW r_sl2Left):BW (I2 fu r_sl2Left):=by
 intro px pleft r H
 have H:=fC H
 refine qI Tryz.func227 (fun C hC=>?_)
 refine qS (qR (q1 (lA ([pS px.gAtom,a8 px.gList])) (q1 aF (qN (qS (qR (q1 aF (q1 zZ (q1 aF (qN ?_))))))))))
 iterate 2 refine qS ?_
 refine qR (q1 aF (qN ?_))
 refine aO.fact (cB 0 1 rfl rfl rfl (aA.trs_len _)) (fun hl3=>?_)
 refine cG (σ:=Int) (fun i1 v2=>⟨[(1,pI v2),(2,.ptr 0 0),(4,pI 0),(5,pN i1)],⟨[some ⟨237,[pS px.gAtom,a8 px.gList]⟩],[]⟩⟩) (fun v2=>⟨[(1,pI v2),(4,pI 0)],⟨[some ⟨237,[pS px.gAtom,a8 px.gList]⟩],[]⟩⟩) (f9 H) ?_ ?_
 ·rintro i1 v2 H
  iterate 2 refine qS ?_
  refine qR (q1 aF (q1 (aZ bF) (q1 (bB cN) (q1 (eM bH (aA.trs_len _)) (q1 gU (q1 aF ?_))))))
  refine AL.splitB 13 rfl (fun g4=>?_) (fun g4=>?_)
  ·have g4l:=uP g4
   have H:=lnT g4l H
   have g4n:=a7 g4
   refine qg g4 aF (qg g4 P7 (q1 (bS g4) (qN ?_)))
   refine a9 H (fun h5 H=>?_) (fun h5 H=>?_)
   ·refine aO.skip (qS (aO.block (qR (q1 (aZ bF) (q1 (bB cN) (q1 aF (q1 (j0 g4n bH) (q1 (j7 (aA.cs (a5 px.gList i1)) bP) (q1 aF (bO H fun x7 z6 H=>(q1 (bJ Tryz.func227 (h_sl2Left (a5 px.gList i1) v2 _ z6)) (q1 aF (qN ?_)))))))))))))
    refine qR (q1 aF (q1 (aW.addI rfl rfl rfl rfl (c:=((i1+1:Nat):Int)) (by omega) (by omega)) (q1 aF (qN ?_))))
    exact jA g4l ⟨_,(aY H:),bZ⟩
   refine aO.exit ?_;exact lpB ⟨_,(aY H:),bZ⟩
  have H:=lnE (uZ g4) H
  iterate 2 refine qk g4 ?_
  refine q1 (b4 g4) (qN (kL rfl (aO.exit ?_)))
  exact k7 ⟨_,H,bZ⟩
 rintro v2 H
 refine qS (qR ?_)
 iterate 2 refine q1 aF ?_
 refine qN (aO.ret ?_)
 obtain rfl:_=r:=(aY H:)
 exact bN
def m3:Nat→aA→Int→Option Int
 |0,_,_=>none
 |fu+1,px,pleft=>I2 fu (m3 fu) px pleft
theorem VP(fu:Nat):BW (m3 fu):=by
 induction fu with
 |zero=>exact(fun px pleft r H=>by simp only [m3] at H;cases H)
 |succ fu ih=>exact(fun px pleft r H=>by simp only [m3] at H;exact R9 fu (m3 fu) ih px pleft r H)
theorem ZX(fu:Nat):BW (m3 fu):=(VP fu)
def afI(m:Int→Int→Int→Option Bool):Prop:= ∀(px:Int) (plo:Int) (phi:Int) (r:Bool),m px plo phi=some r→cH Tryz.prog 108 [pI px,pI plo,pI phi] (pB r:PV)
def nX(fu:Nat)(px plo phi:Int):Option Bool:=
 sw (decide ((px:Int)≥plo))
 (some (decide ((px:Int)≤phi)))
 (some false)
theorem sY(fu:Nat):afI (nX fu):=by
 intro px plo phi r H
 have H:=fC H
 refine qI Tryz.func108 (fun C hC=>?_)
 refine qS (qR (q1 aF (qN (qS (qR ?_)))))
 iterate 2 refine q1 aF ?_
 refine q1 P7 (q1 aF ?_)
 refine dY 10 H (fun g1 H=>?_) fun g1 H=>?_
 ·refine qg g1 aF (qg g1 aF (qg g1 rLe (q1 (bS g1) (q1 aF (qN (aO.ret ?_))))))
  obtain rfl:_=r:=(aY H:)
  exact bN
 iterate 3 refine qk g1 ?_
 refine q1 (b4 g1) (q1 aF (qN (aO.ret ?_)))
 obtain rfl:_=r:=(aY H:)
 exact bN
def MA(m:ByteArray→Option Bool):Prop:= ∀(ps:ByteArray) (r:Bool),m ps=some r→cH Tryz.prog 241 [pS ps] (pB r:PV)
def KI(fu:Nat)(ps:ByteArray):Nat→Unit→Option (LR Unit Bool):=
 fun i1 _=>gd (i1<(ps).size)
 (bd (B6 fu (y2 ps i1)) (fun x6=>
 sw (!(x6))
 (some (.ret false))
 (some (.next ()))))
def KQ(fu:Nat)(ps:ByteArray):Option (Bool⊕Unit):=
 loopN (KI fu ps) (ps.size-0) 0 ()
def uK(fu:Nat)(ps:ByteArray):Option Bool:=
 so (KQ fu ps) (fun _=>
 bd (nX fu ((ps.size:Nat):Int) 1 12) (fun x9=>
 some x9))
theorem KO(fu:Nat):MA (uK fu):=by
 intro ps r H
 have H:=fC H
 refine qI Tryz.func241 (fun C hC=>?_)
 refine qS (qR (q1 aF (qN ?_)))
 iterate 2 refine qS ?_
 refine qR (q1 aF (qN ?_))
 refine szF 0 (fun hl2=>?_)
 refine cG (σ:=Unit) (fun i1 _=>⟨[(0,pS ps),(2,pB false),(3,pN i1)],⟨[],[]⟩⟩) (fun _=>⟨[(0,pS ps),(2,pB false)],⟨[],[]⟩⟩) (f9 H) ?_ ?_
 ·rintro i1 ⟨⟩ H
  iterate 2 refine qS ?_
  refine qR ?_
  iterate 2 refine q1 aF ?_
  refine q1 (aW.lenS rfl rfl rfl Tryz.underlying9) (q1 gU (qN ?_))
  refine eJ H (fun h3 h3l H=>?_) (fun h3 H=>?_)
  ·have h3n:i1<ps.size:=by have:=of_decide_eq_true h3;omega
   refine aO.skip (qS (aO.block (qS (qR ?_))))
   iterate 2 refine q1 aF ?_
   refine dK H fun z4 H=>(q1 (aW.indexS (k:=i1) rfl rfl rfl rfl z4 Tryz.underlying9) (bO H fun x6 z5 H=>(q1 (bJ Tryz.func226 (MG fu (y2 ps i1) _ z5)) (q1 gS (qN ?_)))))
   refine a9 H (fun h7 H=>?_) (fun h7 H=>?_)
   ·refine qS (qR (q1 aF (qN (aO.ret ?_))))
    obtain rfl:_=r:=(pY (aY H):)
    exact bN
   refine aO.skip (qR (q1 aF (q1 (aW.addI rfl rfl rfl rfl (c:=((i1+1:Nat):Int)) (by omega) (by omega)) (q1 aF (qN ?_)))))
   exact jA h3l ⟨_,(aY H:),bZ⟩
  refine aO.exit ?_;exact k7 ⟨_,H,bZ⟩
 rintro⟨⟩ H
 refine qS (qR (q1 aF (q1 (aW.lenS rfl rfl rfl Tryz.underlying9) (bO H fun x9 z8 H=>(q1 (bJ Tryz.func108 (sY fu ((ps.size:Nat):Int) 1 12 _ z8)) (q1 aF (qN (aO.ret ?_))))))))
 obtain rfl:_=r:=(aY H:)
 exact bN
abbrev r9:=aA→Option Bool
def BN(m:r9):Prop:= ∀(px:aA) (r:Bool),m px=some r→cH Tryz.prog 228 [(aA.pv px)] (pB r:PV)
def YO(fu:Nat)(r_sl2Form:r9)(px:aA):Nat→Unit→Option (LR Unit Bool):=
 fun i5 _=>bd (r_sl2Form (a5 px.gList i5)) (fun x9=>
 sw (!(x9))
 (some (.ret false))
 (some (.next ())))
def X6(fu:Nat)(r_sl2Form:r9)(px:aA):Option (Bool⊕Unit):=
 loopN (YO fu r_sl2Form px) (px.gList.length-0) 0 ()
def JA(fu:Nat)(r_sl2Form:r9)(px:aA):Option Bool:=
 sw (!decide (px.gAtom=s_))
 (bd (uK fu px.gAtom) (fun x3=>
 sw (x3)
 (some (decide ((((px.gList.length:Nat):Int):Int)=0)))
 (some false)))
 (so (X6 fu r_sl2Form px) (fun _=>
 some true))
theorem QX(fu:Nat)(r_sl2Form:r9)(h_sl2Form:BN r_sl2Form):BN (JA fu r_sl2Form):=by
 intro px r H
 have H:=fC H
 refine qI Tryz.func228 (fun C hC=>?_)
 refine qS (qR (q1 (lA ([pS px.gAtom,a8 px.gList])) (q1 aF (qN ?_))))
 iterate 2 refine qS ?_
 refine qR (q1 (aZ eS) (q1 (bB e8) (q1 O9 (qN ?_))))
 refine a9 H (fun h1 H=>?_) (fun h1 H=>?_)
 ·refine qS (qR (q1 (aZ eS) (q1 (bB e8) (bO H fun x3 z2 H=>(q1 (bJ Tryz.func241 (KO fu px.gAtom _ z2)) (q1 aF ?_))))))
  refine dY 10 H (fun g4 H=>?_) fun g4 H=>?_
  ·refine qg g4 (aZ bF) (qg g4 (bB cN) (qg g4 (eM bH (aA.trs_len _)) (qg g4 dP (q1 (bS g4) (q1 aF (qN (aO.ret ?_)))))))
   obtain rfl:_=r:=(aY H:)
   exact bN
  iterate 4 refine qk g4 ?_
  refine q1 (b4 g4) (q1 aF (qN (aO.ret ?_)))
  obtain rfl:_=r:=(aY H:)
  exact bN
 refine aO.skip ?_
 iterate 2 refine qS ?_
 refine qR (q1 aF (qN ?_))
 refine aO.fact (cB 0 1 rfl rfl rfl (aA.trs_len _)) (fun hl6=>?_)
 refine cG (σ:=Unit) (fun i5 _=>⟨[(1,.ptr 0 0),(2,pB false),(3,pN i5)],⟨[some ⟨237,[pS px.gAtom,a8 px.gList]⟩],[]⟩⟩) (fun _=>⟨[(2,pB false)],⟨[some ⟨237,[pS px.gAtom,a8 px.gList]⟩],[]⟩⟩) (f9 H) ?_ ?_
 ·rintro i5 ⟨⟩ H
  iterate 2 refine qS ?_
  refine qR (q1 aF (q1 (aZ bF) (q1 (bB cN) (q1 (eM bH (aA.trs_len _)) (q1 gU (qN ?_))))))
  refine eJ H (fun h7 h7l H=>?_) (fun h7 H=>?_)
  ·have h7n:=a7 h7
   refine aO.skip (qS (aO.block (qS (qR (q1 (aZ bF) (q1 (bB cN) (q1 aF (q1 (j0 h7n bH) (q1 (j7 (aA.cs (a5 px.gList i5)) bP) (bO H fun x9 z8 H=>(q1 (bJ Tryz.func228 (h_sl2Form (a5 px.gList i5) _ z8)) (q1 gS (qN ?_)))))))))))))
   refine a9 H (fun h10 H=>?_) (fun h10 H=>?_)
   ·refine qS (qR (q1 aF (qN (aO.ret ?_))))
    obtain rfl:_=r:=(pY (aY H):)
    exact bN
   refine aO.skip (qR (q1 aF (q1 (aW.addI rfl rfl rfl rfl (c:=((i5+1:Nat):Int)) (by omega) (by omega)) (q1 aF (qN ?_)))))
   exact jA h7l ⟨_,(aY H:),bZ⟩
  refine aO.exit ?_;exact k7 ⟨_,H,bZ⟩
 rintro⟨⟩ H
 refine qS (qR (q1 aF (qN (aO.ret ?_))))
 obtain rfl:_=r:=(aY H:)
 exact bN
def mX:Nat→aA→Option Bool
 |0,_=>none
 |fu+1,px=>JA fu (mX fu) px
theorem VK(fu:Nat):BN (mX fu):=by
 induction fu with
 |zero=>exact(fun px r H=>by simp only [mX] at H;cases H)
 |succ fu ih=>exact(fun px r H=>by simp only [mX] at H;exact QX fu (mX fu) ih px r H)
theorem aaA(fu:Nat):BN (mX fu):=(VK fu)
def aeJ(m:Int→Int→Option Int):Prop:= ∀(pa:Int) (pb:Int) (r:Int),m pa pb=some r→cH Tryz.prog 242 [pI pa,pI pb] (pI r:PV)
def G8(fu:Nat)(pa pb:Int):Option Int:=
 sw (decide ((pa:Int)>pb))
 (some pa)
 (some pb)
theorem PU(fu:Nat):aeJ (G8 fu):=by
 intro pa pb r H
 have H:=fC H
 refine qI Tryz.func242 (fun C hC=>?_)
 refine qS (qR (q1 aF (qN ?_)))
 iterate 2 refine qS ?_
 refine qR ?_
 iterate 2 refine q1 aF ?_
 refine q1 HB (qN ?_)
 refine a9 H (fun h1 H=>?_) (fun h1 H=>?_)
 ·refine qS (qR ?_)
  iterate 2 refine q1 aF ?_
  refine qN (aO.ret ?_)
  obtain rfl:_=r:=(aY H:)
  exact bN
 refine aO.skip (qS (qR ?_))
 iterate 2 refine q1 aF ?_
 refine qN (aO.ret ?_)
 obtain rfl:_=r:=(aY H:)
 exact bN
abbrev kR:=aA→Option Int
def sR(m:kR):Prop:= ∀(px:aA) (r:Int),m px=some r→cH Tryz.prog 229 [(aA.pv px)] (pI r:PV)
def MS(fu:Nat)(r_sSExprDepth:kR)(px:aA):Nat→Int→Option (LR Int Int):=
 fun i2 v3=>bd (r_sSExprDepth (a5 px.gList i2)) (fun x7=>
 bd (G8 fu v3 x7) (fun x9=>
 some (.next x9)))
def M5(fu:Nat)(r_sSExprDepth:kR)(px:aA):Option (Int⊕Int):=
 loopN (MS fu r_sSExprDepth px) (px.gList.length-0) 0 0
def wK(fu:Nat)(r_sSExprDepth:kR)(px:aA):Option Int:=
 sw (!decide (px.gAtom=s_))
 (some 0)
 (so (M5 fu r_sSExprDepth px) (fun v3=>
 some (aQ (v3+1))))
theorem JQ(fu:Nat)(r_sSExprDepth:kR)(h_sSExprDepth:sR r_sSExprDepth):sR (wK fu r_sSExprDepth):=by
 intro px r H
 have H:=fC H
 refine qI Tryz.func229 (fun C hC=>?_)
 refine qS (qR (q1 (lA ([pS px.gAtom,a8 px.gList])) (q1 aF (qN ?_))))
 iterate 2 refine qS ?_
 refine qR (q1 (aZ eS) (q1 (bB e8) (q1 O9 (qN ?_))))
 refine a9 H (fun h1 H=>?_) (fun h1 H=>?_)
 ·refine qS (qR (q1 aF (qN (aO.ret ?_))))
  obtain rfl:_=r:=(aY H:)
  exact bN
 refine aO.skip (qS (qR (q1 aF (qN ?_))))
 iterate 2 refine qS ?_
 refine qR (q1 aF (qN ?_))
 refine aO.fact (cB 0 1 rfl rfl rfl (aA.trs_len _)) (fun hl4=>?_)
 refine cG (σ:=Int) (fun i2 v3=>⟨[(1,.ptr 0 0),(2,pI 0),(3,pI v3),(4,pN i2)],⟨[some ⟨237,[pS px.gAtom,a8 px.gList]⟩],[]⟩⟩) (fun v3=>⟨[(2,pI 0),(3,pI v3)],⟨[some ⟨237,[pS px.gAtom,a8 px.gList]⟩],[]⟩⟩) (f9 H) ?_ ?_
 ·rintro i2 v3 H
  iterate 2 refine qS ?_
  refine qR (q1 aF (q1 (aZ bF) (q1 (bB cN) (q1 (eM bH (aA.trs_len _)) (q1 gU (qN ?_))))))
  refine eJ H (fun h5 h5l H=>?_) (fun h5 H=>?_)
  ·have h5n:=a7 h5
   refine aO.skip (qS (aO.block (qR (q1 aF (q1 (aZ bF) (q1 (bB cN) (q1 aF (q1 (j0 h5n bH) (q1 (j7 (aA.cs (a5 px.gList i2)) bP) (bO H fun x7 z6 H=>(q1 (bJ Tryz.func229 (h_sSExprDepth (a5 px.gList i2) _ z6)) (bO H fun x9 z8 H=>(q1 (bJ Tryz.func242 (PU fu v3 x7 _ z8)) ?_)))))))))))))
   refine q1 aF (qN (qR (q1 aF (q1 (aW.addI rfl rfl rfl rfl (c:=((i2+1:Nat):Int)) (by omega) (by omega)) (q1 aF (qN ?_))))))
   exact jA h5l ⟨_,(aY H:),bZ⟩
  refine aO.exit ?_;exact k7 ⟨_,H,bZ⟩
 rintro v3 H
 refine qS (qR (q1 aF (q1 LQ (q1 aF (qN (aO.ret ?_))))))
 obtain rfl:_=r:=(aY H:)
 exact bN
def gL:Nat→aA→Option Int
 |0,_=>none
 |fu+1,px=>wK fu (gL fu) px
theorem KX(fu:Nat):sR (gL fu):=by
 induction fu with
 |zero=>exact(fun px r H=>by simp only [gL] at H;cases H)
 |succ fu ih=>exact(fun px r H=>by simp only [gL] at H;exact JQ fu (gL fu) ih px r H)
theorem L3(fu:Nat):sR (gL fu):=(KX fu)
def KF(m:aA→Option Bool):Prop:= ∀(px:aA) (r:Bool),m px=some r→cH Tryz.prog 217 [(aA.pv px)] (pB r:PV)
def gA(fu:Nat)(px:aA):Option Bool:=
 bd (m3 fu px 900) (fun x2=>
 sw (decide ((x2:Int)≥0))
 (bd (mX fu px) (fun x5=>
 sw (x5)
 (bd (gL fu px) (fun x8=>
 some (decide ((x8:Int)≤14))))
 (some false)))
 (some false))
theorem cT(fu:Nat):KF (gA fu):=by
 intro px r H
 have H:=fC H
 refine qI Tryz.func217 (fun C hC=>?_)
 refine qS (qR (q1 (lA ([pS px.gAtom,a8 px.gList])) (q1 aF (qN (qS (qR (q1 (c6 [pS px.gAtom,a8 px.gList] bP) (bO H fun x2 z1 H=>(q1 (bJ Tryz.func227 (ZX fu px 900 _ z1)) (q1 P7 (q1 aF ?_)))))))))))
 refine dY 6 H (fun g3 H=>?_) fun g3 H=>?_
 ·refine qg g3 (c6 [pS px.gAtom,a8 px.gList] bP) (bO H fun x5 z4 H=>(qg g3 (bJ Tryz.func228 (aaA fu px _ z4)) (q1 (bS g3) (q1 aF ?_))))
  refine dY 10 H (fun g6 H=>?_) fun g6 H=>?_
  ·refine qg g6 (c6 [pS px.gAtom,a8 px.gList] bP) (bO H fun x8 z7 H=>(qg g6 (bJ Tryz.func229 (L3 fu px _ z7)) (qg g6 rLe (q1 (bS g6) (q1 aF (qN (aO.ret ?_)))))))
   obtain rfl:_=r:=(aY H:)
   exact bN
  iterate 3 refine qk g6 ?_
  refine q1 (b4 g6) (q1 aF (qN (aO.ret ?_)))
  obtain rfl:_=r:=(aY H:)
  exact bN
 iterate 2 refine qk g3 ?_
 refine q1 (b4 g3) (q1 aF ?_)
 iterate 3 refine qk rfl ?_
 refine q1 (b4 rfl) (q1 aF (qN (aO.ret ?_)))
 obtain rfl:_=r:=(aY H:)
 exact bN
def PF(m:ByteArray→Option (aA×Bool)):Prop:= ∀(ps:ByteArray) (r:aA×Bool),m ps=some r→cH Tryz.prog 207 [pS ps] (.tup [(aA.pv r.1),pB r.2]:PV)
def sK(fu:Nat)(ps:ByteArray):Option (aA×Bool):=
 bd (n0 fu (cC.mk ps 0 0 0 false)) (fun(x2,x3)=>
 bd (uI fu x3) (fun x5=>
 sw (x5.gbad)
 (some ((aA.mk s_ []),false))
 (sw (!decide ((x5.gat:Int)=((ps.size:Nat):Int)))
 (some ((aA.mk s_ []),false))
 (bd (gA fu x2) (fun x9=>
 sw (!(x9))
 (some ((aA.mk s_ []),false))
 (some (x2,true)))))))
theorem L2(fu:Nat):PF (sK fu):=by
 intro ps r H
 have H:=fC H
 refine qI Tryz.func207 (fun C hC=>?_)
 refine qS (qR (q1 (hH b3) (q1 aF (qN (qS (qR (q1 aF (q1 (fM ah7 aiA) (q1 (lA ([pS ps,pI 0,pI 0,pI 0,pB false])) (q1 aF (qN (qS (qR ?_)))))))))))))
 refine q1 aF (f8 H fun x2 x3 z1 H=>(q1 (gF [1] [] Tryz.func215 (XY fu (cC.mk ps 0 0 0 false) _ z1)) (q1 (hH b3) (q1 (bV dR) (qN (qS (qR (q1 aF (bO H fun x5 z4 H=>(q1 (gF [1] [] Tryz.func216 (D5 fu x3 _ z4)) (qN ?_)))))))))))
 iterate 2 refine qS ?_
 refine qR (q1 aF (q1 n5 (q1 (aZ CE) (q1 (bB sh4) (q1 aF ?_)))))
 refine dY 17 H (fun g6 H=>?_) fun g6 H=>?_
 ·refine qk g6 ?_
  iterate 6 refine qk g6 ?_
  refine q1 (bS g6) (q1 aF ?_)
  iterate 3 refine qk rfl ?_
  refine q1 (bS rfl) (qN (dT rfl (qS (qR (q1 (fM b3 lG) (q1 (bV dR) (q1 aF (qN (aO.ret ?_)))))))))
  obtain rfl:_=r:=(aY H:)
  exact rA (hr:=⟨⟨_,_,_,rfl,rfl,bP,rfl,rfl⟩,rfl,trivial⟩)
 refine qg g6 aF (qg g6 n5 (qg g6 (aZ eT) (qg g6 (bB iG) (qg g6 aF (qg g6 (aW.lenS rfl rfl rfl Tryz.underlying9) (qg g6 QI (q1 (b4 g6) (q1 aF ?_))))))))
 refine dY 26 H (fun g7 H=>?_) fun g7 H=>?_
 ·refine qk g7 ?_
  iterate 2 refine qk g7 ?_
  refine q1 (bS g7) (qN (dT rfl (qS (qR (q1 (fM b3 lG) (q1 (bV dR) (q1 aF (qN (aO.ret ?_)))))))))
  obtain rfl:_=r:=(aY H:)
  exact rA (hr:=⟨⟨_,_,_,rfl,rfl,bP,rfl,rfl⟩,rfl,trivial⟩)
 refine qg g7 (c6 [pS x2.gAtom,a8 x2.gList] bP) (bO H fun x9 z8 H=>(qg g7 (bJ Tryz.func217 (cT fu x2 _ z8)) (qg g7 gS (q1 (b4 g7) (qN ?_)))))
 refine a9 H (fun h10 H=>?_) (fun h10 H=>?_)
 ·refine qS (qR (q1 (fM b3 lG) (q1 (bV dR) (q1 aF (qN (aO.ret ?_))))))
  obtain rfl:_=r:=(aY H:)
  exact rA (hr:=⟨⟨_,_,_,rfl,rfl,bP,rfl,rfl⟩,rfl,trivial⟩)
 refine aO.skip (qS (qR (q1 (c6 [pS x2.gAtom,a8 x2.gList] bP) (q1 (bV dR) (q1 aF (qN (aO.ret ?_)))))))
 obtain rfl:_=r:=(aY H:)
 exact rA (hr:=⟨⟨_,_,_,rfl,rfl,bP,rfl,rfl⟩,rfl,trivial⟩)
def ZE(m:(List aA)→Option ((List ByteArray)×Bool)):Prop:= ∀(plist:List aA) (r:(List ByteArray)×Bool),m plist=some r→cH Tryz.prog 218 [a8 plist] (.tup [rS r.1,pB r.2]:PV)
def W8(fu:Nat)(plist:List aA):Nat→((List ByteArray))→Option (LR ((List ByteArray)) ((List ByteArray)×Bool)):=
 fun i1 v3=>sw (decide ((a5 plist i1).gAtom=s_))
 (some (.ret (([]),false)))
 (gd ((v3).length+(([((a5 plist i1).gAtom)]:List ByteArray)).length≤68719476736)
 (some (.next (v3++([((a5 plist i1).gAtom)]:List ByteArray)))))
def UK(fu:Nat)(plist:List aA):Option (((List ByteArray)×Bool)⊕((List ByteArray))):=
 loopN (W8 fu plist) (plist.length-0) 0 ([])
def uO(fu:Nat)(plist:List aA):Option ((List ByteArray)×Bool):=
 so (UK fu plist) (fun v3=>
 some (v3,true))
theorem AM(fu:Nat):ZE (uO fu):=by
 intro plist r H
 have H:=fC H
 refine qI Tryz.func218 (fun C hC=>?_)
 refine qS (qR ?_)
 iterate 2 refine q1 aF ?_
 refine qN (qS (qR (q1 (rC ([]:List ByteArray) bW jZ) (q1 aF (qN ?_)))))
 iterate 2 refine qS ?_
 refine qR (q1 aF (qN ?_))
 refine nF 0 (aA.trs_len _) (fun hl4=>?_)
 refine cG (σ:=(List ByteArray)) (fun i1 v3=>⟨[(0,a8 plist),(2,.nil),(3,pB false),(4,aS v3 0),(5,pN i1)],⟨[],[⟨9,1,aX (v3),false⟩]⟩⟩) (fun v3=>⟨[(2,.nil),(3,pB false),(4,aS v3 0)],⟨[],[⟨9,1,aX (v3),false⟩]⟩⟩) (f9 H) ?_ ?_
 ·rintro i1 v3 H
  iterate 2 refine qS ?_
  refine qR ?_
  iterate 2 refine q1 aF ?_
  refine q1 (eM bH (aA.trs_len _)) (q1 gU (qN ?_))
  refine eJ H (fun h5 h5l H=>?_) (fun h5 H=>?_)
  ·have h5n:=a7 h5
   refine aO.skip (qS (aO.block ?_))
   iterate 2 refine qS ?_
   refine qR ?_
   iterate 2 refine q1 aF ?_
   refine q1 (j0 h5n bH) (q1 (nD eS) (q1 (mR e8) (q1 EC (qN ?_))))
   refine a9 H (fun h6 H=>?_) (fun h6 H=>?_)
   ·refine qS (qR (q1 (rC ([]:List ByteArray) bW jZ) ?_))
    iterate 2 refine q1 aF ?_
    refine qN (aO.ret ?_)
    obtain rfl:_=r:=(pY (aY H):)
    exact rA
   refine aO.skip (qR ?_)
   iterate 3 refine q1 aF ?_
   refine q1 (j0 h5n bH) (q1 (nD eS) (q1 (mR e8) (q1 (iI ([((a5 plist i1).gAtom)]:List ByteArray) bW jZ) (dK H fun z7 H=>(q1 (lC z7 bW oT) (q1 aF (qN (qR (q1 aF (q1 (aW.addI rfl rfl rfl rfl (c:=((i1+1:Nat):Int)) (by omega) (by omega)) (q1 aF (qN ?_))))))))))))
   exact jA h5l ⟨_,(aY H:),bZ⟩
  refine aO.exit ?_;exact k7 ⟨_,H,bZ⟩
 rintro v3 H
 refine qS (qR ?_)
 iterate 3 refine q1 aF ?_
 refine qN (aO.ret ?_)
 obtain rfl:_=r:=(aY H:)
 exact rA
def acW(m:ByteArray→Option aA):Prop:= ∀(ps:ByteArray) (r:aA),m ps=some r→cH Tryz.prog 266 [pS ps] ((aA.pv r):PV)
def b7(fu:Nat)(ps:ByteArray):Option aA:=
 some (aA.mk ps [])
theorem bY(fu:Nat):acW (b7 fu):=by
 intro ps r H
 have H:=fC H
 refine qI Tryz.func266 (fun C hC=>?_)
 refine qS (qR (q1 (hH b3) (qN (qS (qR (q1 aF (q1 (fM b3 lG) (q1 (bV dR) (qN (aO.ret ?_))))))))))
 obtain rfl:_=r:=(aY H:)
 exact bN (hr:=⟨⟨_,_,_,rfl,rfl,bP,rfl,rfl⟩,trivial⟩)
def ZM(m:(List ByteArray)→Option ((List aA))):Prop:= ∀(plist:List ByteArray) (r:(List aA)),m plist=some r→cH Tryz.prog 280 [rS plist] (a8 r:PV)
def VA(fu:Nat)(plist:List ByteArray):Nat→((List aA))→Option (LR ((List aA)) ((List aA))):=
 fun i1 v3=>bd (b7 fu (a5 plist i1)) (fun x7=>
 gd ((v3).length+(([x7]:List aA)).length≤68719476736)
 (some (.next (v3++([x7]:List aA)))))
def VU(fu:Nat)(plist:List ByteArray):Option (((List aA))⊕((List aA))):=
 loopN (VA fu plist) (plist.length-0) 0 ([])
def yH(fu:Nat)(plist:List ByteArray):Option ((List aA)):=
 so (VU fu plist) (fun v3=>
 some v3)
theorem KD(fu:Nat):ZM (yH fu):=by
 intro plist r H
 have H:=fC H
 refine qI Tryz.func280 (fun C hC=>?_)
 refine qS (qR (q1 aF (qN (qS (qR (q1 (rC ([]:List aA) bH b3) (q1 aF (qN ?_))))))))
 iterate 2 refine qS ?_
 refine qR (q1 aF (qN ?_))
 refine nF 0 (bE _) (fun hl4=>?_)
 refine cG (σ:=(List aA)) (fun i1 v3=>⟨[(0,rS plist),(2,.nil),(3,dM v3 0),(4,pN i1)],⟨[],[⟨237,2,aA.trs (v3),false⟩]⟩⟩) (fun v3=>⟨[(2,.nil),(3,dM v3 0)],⟨[],[⟨237,2,aA.trs (v3),false⟩]⟩⟩) (f9 H) ?_ ?_
 ·rintro i1 v3 H
  iterate 2 refine qS ?_
  refine qR ?_
  iterate 2 refine q1 aF ?_
  refine q1 (eM bW (bE _)) (q1 gU (qN ?_))
  refine eJ H (fun h5 h5l H=>?_) (fun h5 H=>?_)
  ·have h5n:=a7 h5
   refine aO.skip (qS (aO.block (qR ?_)))
   iterate 3 refine q1 aF ?_
   refine q1 (j0 h5n bW) (q1 (mR e8) (bO H fun x7 z6 H=>(q1 (bJ Tryz.func266 (bY fu (a5 plist i1) _ z6)) (q1 (iI ([x7]:List aA) bH b3) (dK H fun z8 H=>(q1 (lC z8 bH oA) (q1 aF (qN (qR (q1 aF (q1 (aW.addI rfl rfl rfl rfl (c:=((i1+1:Nat):Int)) (by omega) (by omega)) (q1 aF (qN ?_)))))))))))))
   exact jA h5l ⟨_,(aY H:),bZ⟩
  refine aO.exit ?_;exact k7 ⟨_,H,bZ⟩
 rintro v3 H
 refine qS (qR ?_)
 iterate 2 refine q1 aF ?_
 refine qN (aO.ret ?_)
 obtain rfl:_=r:=(aY H:)
 exact bN
def PX(m:(List aA)→Option aA):Prop:= ∀(plist:List aA) (r:aA),m plist=some r→QZ Tryz.prog 265 [a8 plist] ⟨[],[]⟩ [] 237 2 (aA.trs (r.gList)) (fun k=> .agg [pS r.gAtom,dM r.gList k])
theorem yV{m:(List aA)→Option aA}(h:PX m)(plist:List aA)(r:aA)(H:m plist=some r):cH Tryz.prog 265 [a8 plist] ((aA.pv r):PV):=(h plist r H).plain (fun _=>mD) (hp:=ahA)
def kB(fu:Nat)(plist:List aA):Option aA:=
 gd (([]:List aA).length+(plist).length≤68719476736)
 (some (aA.mk s_ (([])++plist)))
theorem kX(fu:Nat):PX (kB fu):=by
 intro plist r H
 unfold QZ
 have H:=fC H
 refine qI Tryz.func265 (fun C hC=>?_)
 refine qS (qR (q1 (hH b3) (qN (qS (qR (q1 (rC ([]:List aA) bH b3) (q1 aF (dK H fun z1 H=>(q1 (lC z1 bH oA) (q1 (fM b3 lG) (q1 (bV dR) (qN (aO.ret ?_)))))))))))))
 obtain rfl:_=r:=(aY H:)
 exact bN (st':=⟨[],[⟨237,2,aA.trs (([])++plist),false⟩]⟩) ⟨0,rfl,rfl,rfl⟩ (hr:=⟨⟨_,_,_,rfl,rfl,bP,rfl,rfl⟩,trivial⟩)
abbrev kV:=aA→aA→Option Bool
def sN(m:kV):Prop:= ∀(pa:aA) (pb:aA) (r:Bool),m pa pb=some r→cH Tryz.prog 248 [(aA.pv pa),(aA.pv pb)] (pB r:PV)
def MH(fu:Nat)(r_sEqualSExpr:kV)(pa pb:aA):Nat→Unit→Option (LR Unit Bool):=
 fun i3 _=>gd (i3<(pb.gList).length)
 (bd (r_sEqualSExpr (a5 pa.gList i3) (a5 pb.gList i3)) (fun x8=>
 sw (!(x8))
 (some (.ret false))
 (some (.next ()))))
def M0(fu:Nat)(r_sEqualSExpr:kV)(pa pb:aA):Option (Bool⊕Unit):=
 loopN (MH fu r_sEqualSExpr pa pb) (pa.gList.length-0) 0 ()
def wG(fu:Nat)(r_sEqualSExpr:kV)(pa pb:aA):Option Bool:=
 sw (!decide (pa.gAtom=pb.gAtom))
 (some false)
 (sw (!decide ((((pa.gList.length:Nat):Int):Int)=((pb.gList.length:Nat):Int)))
 (some false)
 (so (M0 fu r_sEqualSExpr pa pb) (fun _=>
 some true)))
theorem HO(fu:Nat)(r_sEqualSExpr:kV)(h_sEqualSExpr:sN r_sEqualSExpr):sN (wG fu r_sEqualSExpr):=by
 intro pa pb r H
 have H:=fC H
 refine qI Tryz.func248 (fun C hC=>?_)
 refine qS (qR (q1 (lA ([pS pa.gAtom,a8 pa.gList])) (q1 (lA ([pS pb.gAtom,a8 pb.gList])) (q1 aF (qN ?_)))))
 iterate 2 refine qS ?_
 refine qR (q1 (aZ eS) (q1 (bB e8) (q1 (aZ eS) (q1 (bB e8) (q1 O9 (q1 aF ?_))))))
 refine dY 11 H (fun g1 H=>?_) fun g1 H=>?_
 ·refine qk g1 ?_
  iterate 6 refine qk g1 ?_
  refine q1 (bS g1) (qN (dT rfl (qS (qR (q1 aF (qN (aO.ret ?_)))))))
  obtain rfl:_=r:=(aY H:)
  exact bN
 refine qg g1 (aZ bF) (qg g1 (bB cN) (qg g1 (eM bH (aA.trs_len _)) (qg g1 (aZ bF) (qg g1 (bB cN) (qg g1 (eM bH (aA.trs_len _)) (qg g1 QI (q1 (b4 g1) (qN ?_))))))))
 refine a9 H (fun h2 H=>?_) (fun h2 H=>?_)
 ·refine qS (qR (q1 aF (qN (aO.ret ?_))))
  obtain rfl:_=r:=(aY H:)
  exact bN
 refine aO.skip ?_
 iterate 2 refine qS ?_
 refine qR (q1 aF (qN ?_))
 refine nF 13 (aA.trs_len _) (fun hl4=>?_)
 refine cG (σ:=Unit) (fun i3 _=>⟨[(2,.ptr 0 0),(3,.ptr 1 0),(4,pB false),(5,pN i3)],⟨[some ⟨237,[pS pa.gAtom,a8 pa.gList]⟩,some ⟨237,[pS pb.gAtom,a8 pb.gList]⟩],[]⟩⟩) (fun _=>⟨[(4,pB false)],⟨[some ⟨237,[pS pa.gAtom,a8 pa.gList]⟩,some ⟨237,[pS pb.gAtom,a8 pb.gList]⟩],[]⟩⟩) (f9 H) ?_ ?_
 ·rintro i3 ⟨⟩ H
  iterate 2 refine qS ?_
  refine qR (q1 aF (q1 (aZ bF) (q1 (bB cN) (q1 (eM bH (aA.trs_len _)) (q1 gU (qN ?_))))))
  refine eJ H (fun h5 h5l H=>?_) (fun h5 H=>?_)
  ·have h5n:=a7 h5
   refine aO.skip (qS (aO.block (qS (dK H fun z6 H=>(bO H fun x8 z7 H=>(dW (dI [2] (aZ bF) (dD [27] (bB cN) (dI [5] aF (dI [28,29] (j0 h5n bH) (dI [30] (j7 (aA.cs (a5 pa.gList i3)) bP) (dI [3] (aZ bF) (dD [32] (bB cN) ?_)))))))))))))
   refine dI [5] aF (dI [33,34] (j0 z6 bH) (dI [35] (j7 (aA.cs (a5 pb.gList i3)) bP) (dI [31,36] (bJ Tryz.func248 (h_sEqualSExpr (a5 pa.gList i3) (a5 pb.gList i3) _ z7)) (dI [37] gS (dN ?_)))))
   refine a9 H (fun h9 H=>?_) (fun h9 H=>?_)
   ·refine qS (qR (q1 aF (qN (aO.ret ?_))))
    obtain rfl:_=r:=(pY (aY H):)
    exact bN
   refine aO.skip (qR (q1 aF (q1 (aW.addI rfl rfl rfl rfl (c:=((i3+1:Nat):Int)) (by omega) (by omega)) (q1 aF (qN ?_)))))
   exact jA h5l ⟨_,(aY H:),bZ⟩
  refine aO.exit ?_;exact k7 ⟨_,H,bZ⟩
 rintro⟨⟩ H
 refine qS (qR (q1 aF (qN (aO.ret ?_))))
 obtain rfl:_=r:=(aY H:)
 exact bN
def eW:Nat→aA→aA→Option Bool
 |0,_,_=>none
 |fu+1,pa,pb=>wG fu (eW fu) pa pb
theorem LA(fu:Nat):sN (eW fu):=by
 induction fu with
 |zero=>exact(fun pa pb r H=>by simp only [eW] at H;cases H)
 |succ fu ih=>exact(fun pa pb r H=>by simp only [eW] at H;exact HO fu (eW fu) ih pa pb r H)
theorem q9(fu:Nat):sN (eW fu):=(LA fu)
end
end Go.Proofs.YtpioomclpaiomaaGreat.W

namespace Go.Proofs.YtpioomclpaiomaaGreat.W
set_option maxRecDepth 100000
set_option maxHeartbeats 40000000
noncomputable section
open Go.RowKit Go.Proofs
set_option linter.unusedSimpArgs false
set_option linter.unusedVariables false
attribute [local irreducible] lt
def aeC(m:(List ByteArray)→ByteArray→Option Bool):Prop:= ∀(plist:List ByteArray) (ps:ByteArray) (r:Bool),m plist ps=some r→cH Tryz.prog 125 [rS plist,pS ps] (pB r:PV)
def adK(fu:Nat)(plist:List ByteArray)(ps:ByteArray):Nat→Unit→Option (LR Unit Bool):=
 fun i1 _=>sw (decide (a5 plist i1=ps))
 (some (.ret true))
 (some (.next ()))
def ab9(fu:Nat)(plist:List ByteArray)(ps:ByteArray):Option (Bool⊕Unit):=
 loopN (adK fu plist ps) (plist.length-0) 0 ()
def lO(fu:Nat)(plist:List ByteArray)(ps:ByteArray):Option Bool:=
 so (ab9 fu plist ps) (fun _=>
 some false)
theorem lR(fu:Nat):aeC (lO fu):=by
 intro plist ps r H
 have H:=fC H
 refine qI Tryz.func125 (fun C hC=>?_)
 refine qS (qR (q1 aF (qN ?_)))
 iterate 2 refine qS ?_
 refine qR (q1 aF (qN ?_))
 refine nF 0 (bE _) (fun hl2=>?_)
 refine cG (σ:=Unit) (fun i1 _=>⟨[(0,rS plist),(1,pS ps),(4,pB false),(5,pN i1)],⟨[],[]⟩⟩) (fun _=>⟨[(4,pB false)],⟨[],[]⟩⟩) (f9 H) ?_ ?_
 ·rintro i1 ⟨⟩ H
  iterate 2 refine qS ?_
  refine qR ?_
  iterate 2 refine q1 aF ?_
  refine q1 (eM bW (bE _)) (q1 gU (qN ?_))
  refine eJ H (fun h3 h3l H=>?_) (fun h3 H=>?_)
  ·have h3n:=a7 h3
   refine aO.skip (qS (aO.block (qS (qR ?_))))
   iterate 2 refine q1 aF ?_
   refine q1 (j0 h3n bW) (q1 (mR e8) (q1 aF (q1 EC (qN ?_))))
   refine a9 H (fun h4 H=>?_) (fun h4 H=>?_)
   ·refine qS (qR (q1 aF (qN (aO.ret ?_))))
    obtain rfl:_=r:=(pY (aY H):)
    exact bN
   refine aO.skip (qR (q1 aF (q1 (aW.addI rfl rfl rfl rfl (c:=((i1+1:Nat):Int)) (by omega) (by omega)) (q1 aF (qN ?_)))))
   exact jA h3l ⟨_,(aY H:),bZ⟩
  refine aO.exit ?_;exact k7 ⟨_,H,bZ⟩
 rintro⟨⟩ H
 refine qS (qR (q1 aF (qN (aO.ret ?_))))
 obtain rfl:_=r:=(aY H:)
 exact bN
def PM(m:ByteArray→Option Bool):Prop:= ∀(ps:ByteArray) (r:Bool),m ps=some r→cH Tryz.prog 254 [pS ps] (pB r:PV)
def wL(fu:Nat)(ps:ByteArray):Option Bool:=
 bd (lO fu ([e7,eO,gM,tU,y1,zK,tC,zJ,mM,tP,nC,jX]:List ByteArray) ps) (fun x2=>
 some x2)
theorem NI(fu:Nat):PM (wL fu):=by
 intro ps r H
 have H:=fC H
 refine qI Tryz.func254 (fun C hC=>?_)
 refine qS (qR (q1 aF (qN (qS (qR (q1 (iI ([e7,eO,gM,tU,y1,zK,tC,zJ,mM,tP,nC,jX]:List ByteArray) bW jZ) (q1 aF (bO H fun x2 z1 H=>(q1 (bJ Tryz.func125 (lR fu ([e7,eO,gM,tU,y1,zK,tC,zJ,mM,tP,nC,jX]:List ByteArray) ps _ z1)) (q1 aF (qN (aO.ret ?_))))))))))))
 obtain rfl:_=r:=(aY H:)
 exact bN
def M1(m:ByteArray→Option Bool):Prop:= ∀(ps:ByteArray) (r:Bool),m ps=some r→cH Tryz.prog 235 [pS ps] (pB r:PV)
def K7(fu:Nat)(ps:ByteArray)(x2 x5:Bool):Nat→Unit→Option (LR Unit Bool):=
 fun i7 _=>gd (i7<(ps).size)
 (sw (decide ((((y2 ps i7).toNat:Int):Int)≥97))
 (sw (!(decide ((((y2 ps i7).toNat:Int):Int)≤122)))
 (sw (decide ((((i7:Nat):Int):Int)=0))
 (some (.ret false))
 (sw (decide ((((y2 ps i7).toNat:Int):Int)<48))
 (some (.ret false))
 (sw (decide ((((y2 ps i7).toNat:Int):Int)>57))
 (some (.ret false))
 (some (.next ())))))
 (some (.next ())))
 (sw (decide ((((i7:Nat):Int):Int)=0))
 (some (.ret false))
 (sw (decide ((((y2 ps i7).toNat:Int):Int)<48))
 (some (.ret false))
 (sw (decide ((((y2 ps i7).toNat:Int):Int)>57))
 (some (.ret false))
 (some (.next ()))))))
def K3(fu:Nat)(ps:ByteArray)(x2 x5:Bool):Option (Bool⊕Unit):=
 loopN (K7 fu ps x2 x5) (ps.size-0) 0 ()
def c5(fu:Nat)(ps:ByteArray):Option Bool:=
 bd (nX fu ((ps.size:Nat):Int) 1 8) (fun x2=>
 sw (!(x2))
 (some false)
 (bd (wL fu ps) (fun x5=>
 sw (x5)
 (some false)
 (so (K3 fu ps x2 x5) (fun _=>
 some true)))))
theorem dJ(fu:Nat):M1 (c5 fu):=by
 intro ps r H
 have H:=fC H
 refine qI Tryz.func235 (fun C hC=>?_)
 refine qS (qR (q1 aF (qN ?_)))
 iterate 2 refine qS ?_
 refine qR (q1 aF (q1 (aW.lenS rfl rfl rfl Tryz.underlying9) (bO H fun x2 z1 H=>(q1 (bJ Tryz.func108 (sY fu ((ps.size:Nat):Int) 1 8 _ z1)) (q1 gS (q1 aF ?_))))))
 refine dY 9 H (fun g3 H=>?_) fun g3 H=>?_
 ·refine qk g3 (qk g3 (q1 (bS g3) (qN (dT rfl (qS (qR (q1 aF (qN (aO.ret ?_)))))))))
  obtain rfl:_=r:=(aY H:)
  exact bN
 refine qg g3 aF (bO H fun x5 z4 H=>(qg g3 (bJ Tryz.func254 (NI fu ps _ z4)) (q1 (b4 g3) (qN ?_))))
 refine a9 H (fun h6 H=>?_) (fun h6 H=>?_)
 ·refine qS (qR (q1 aF (qN (aO.ret ?_))))
  obtain rfl:_=r:=(aY H:)
  exact bN
 refine aO.skip ?_
 iterate 2 refine qS ?_
 refine qR (q1 aF (qN ?_))
 refine szF 0 (fun hl8=>?_)
 refine cG (σ:=Unit) (fun i7 _=>⟨[(0,pS ps),(2,pB false),(3,pN i7)],⟨[],[]⟩⟩) (fun _=>⟨[(2,pB false)],⟨[],[]⟩⟩) (f9 H) ?_ ?_
 ·rintro i7 ⟨⟩ H
  iterate 2 refine qS ?_
  refine qR ?_
  iterate 2 refine q1 aF ?_
  refine q1 (aW.lenS rfl rfl rfl Tryz.underlying9) (q1 gU (qN ?_))
  refine eJ H (fun h9 h9l H=>?_) (fun h9 H=>?_)
  ·have h9n:i7<ps.size:=by have:=of_decide_eq_true h9;omega
   refine aO.skip (qS (aO.block (qS (qR ?_))))
   iterate 2 refine q1 aF ?_
   refine dK H fun z10 H=>(q1 (aW.indexS (k:=i7) rfl rfl rfl rfl z10 Tryz.underlying9) (q1 P7 (q1 aF ?_)))
   refine dY 23 H (fun g11 H=>?_) fun g11 H=>?_
   ·refine qg g11 aF (qg g11 aF (qg g11 (aW.indexS (k:=i7) rfl rfl rfl rfl z10 Tryz.underlying9) (qg g11 rLe (q1 (bS g11) (q1 aF (qN (qS (qR (q1 aF (q1 gS (q1 aF ?_)))))))))))
    refine dY 31 H (fun g12 H=>?_) fun g12 H=>?_
    ·refine qg g12 aF (qg g12 dP (qg g12 aF ?_))
     refine dY 34 H (fun g13 H=>?_) fun g13 H=>?_
     ·refine qk g13 ?_
      iterate 3 refine qk g13 ?_
      refine qg g12 (bS g13) (qg g12 aF ?_)
      iterate 4 refine qk rfl ?_
      refine qg g12 (bS rfl) (q1 (bS g12) (qN (dT rfl (qS (qR (q1 aF (qN (aO.ret ?_))))))))
      obtain rfl:_=r:=(pY (aY H):)
      exact bN
     iterate 2 refine qg g13 aF ?_
     refine qg g13 (aW.indexS (k:=i7) rfl rfl rfl rfl z10 Tryz.underlying9) (qg g13 gU (qg g12 (b4 g13) (qg g12 aF ?_)))
     refine dY 40 H (fun g14 H=>?_) fun g14 H=>?_
     ·refine qk g14 ?_
      iterate 3 refine qk g14 ?_
      refine qg g12 (bS g14) (q1 (bS g12) (qN (dT rfl (qS (qR (q1 aF (qN (aO.ret ?_))))))))
      obtain rfl:_=r:=(pY (aY H):)
      exact bN
     iterate 2 refine qg g14 aF ?_
     refine qg g14 (aW.indexS (k:=i7) rfl rfl rfl rfl z10 Tryz.underlying9) (qg g14 HB (qg g12 (b4 g14) (q1 (bS g12) (qN ?_))))
     refine a9 H (fun h15 H=>?_) (fun h15 H=>?_)
     ·refine qS (qR (q1 aF (qN (aO.ret ?_))))
      obtain rfl:_=r:=(pY (aY H):)
      exact bN
     refine aO.skip (qR (q1 aF (q1 (aW.addI rfl rfl rfl rfl (c:=((i7+1:Nat):Int)) (by omega) (by omega)) (q1 aF (qN ?_)))))
     exact jA h9l ⟨_,(aY H:),bZ⟩
    iterate 3 refine qk g12 ?_
    iterate 4 refine F1 ?_
    iterate 2 refine qk g12 ?_
    iterate 4 refine F1 ?_
    refine qk g12 (q1 (b4 g12) (qN (kL rfl (aO.skip (qR (q1 aF (q1 (aW.addI rfl rfl rfl rfl (c:=((i7+1:Nat):Int)) (by omega) (by omega)) (q1 aF (qN ?_)))))))))
    exact jA h9l ⟨_,(aY H:),bZ⟩
   iterate 4 refine qk g11 ?_
   refine q1 (b4 g11) (q1 aF (qN (qS (qR (q1 aF (q1 gS (q1 aF (qg (congrArg (fun b=> !b) (rfl:false=false)) aF (qg (congrArg (fun b=> !b) (rfl:false=false)) dP (qg (congrArg (fun b=> !b) (rfl:false=false)) aF ?_))))))))))
   refine dY 34 H (fun g16 H=>?_) fun g16 H=>?_
   ·refine qk g16 ?_
    iterate 3 refine qk g16 ?_
    refine qg (congrArg (fun b=> !b) (rfl:false=false)) (bS g16) (qg (congrArg (fun b=> !b) (rfl:false=false)) aF ?_)
    iterate 4 refine qk rfl ?_
    refine qg (congrArg (fun b=> !b) (rfl:false=false)) (bS rfl) (q1 (bS (congrArg (fun b=> !b) (rfl:false=false))) (qN (dT rfl (qS (qR (q1 aF (qN (aO.ret ?_))))))))
    obtain rfl:_=r:=(pY (aY H):)
    exact bN
   iterate 2 refine qg g16 aF ?_
   refine qg g16 (aW.indexS (k:=i7) rfl rfl rfl rfl z10 Tryz.underlying9) (qg g16 gU (qg (congrArg (fun b=> !b) (rfl:false=false)) (b4 g16) (qg (congrArg (fun b=> !b) (rfl:false=false)) aF ?_)))
   refine dY 40 H (fun g17 H=>?_) fun g17 H=>?_
   ·refine qk g17 ?_
    iterate 3 refine qk g17 ?_
    refine qg (congrArg (fun b=> !b) (rfl:false=false)) (bS g17) (q1 (bS (congrArg (fun b=> !b) (rfl:false=false))) (qN (dT rfl (qS (qR (q1 aF (qN (aO.ret ?_))))))))
    obtain rfl:_=r:=(pY (aY H):)
    exact bN
   iterate 2 refine qg g17 aF ?_
   refine qg g17 (aW.indexS (k:=i7) rfl rfl rfl rfl z10 Tryz.underlying9) (qg g17 HB (qg (congrArg (fun b=> !b) (rfl:false=false)) (b4 g17) (q1 (bS (congrArg (fun b=> !b) (rfl:false=false))) (qN ?_))))
   refine a9 H (fun h18 H=>?_) (fun h18 H=>?_)
   ·refine qS (qR (q1 aF (qN (aO.ret ?_))))
    obtain rfl:_=r:=(pY (aY H):)
    exact bN
   refine aO.skip (qR (q1 aF (q1 (aW.addI rfl rfl rfl rfl (c:=((i7+1:Nat):Int)) (by omega) (by omega)) (q1 aF (qN ?_)))))
   exact jA h9l ⟨_,(aY H:),bZ⟩
  refine aO.exit ?_;exact k7 ⟨_,H,bZ⟩
 rintro⟨⟩ H
 refine qS (qR (q1 aF (qN (aO.ret ?_))))
 obtain rfl:_=r:=(aY H:)
 exact bN
def aaI(m:(List ByteArray)→Option Bool):Prop:= ∀(plist:List ByteArray) (r:Bool),m plist=some r→cH Tryz.prog 255 [rS plist] (pB r:PV)
def VL(fu:Nat)(plist:List ByteArray):Nat→Unit→Option (LR Unit Bool):=
 fun i1 _=>bd (c5 fu (a5 plist i1)) (fun x5=>
 sw (!(x5))
 (some (.ret false))
 (some (.next ())))
def WN(fu:Nat)(plist:List ByteArray):Option (Bool⊕Unit):=
 loopN (VL fu plist) (plist.length-0) 0 ()
def xW(fu:Nat)(plist:List ByteArray):Option Bool:=
 so (WN fu plist) (fun _=>
 some true)
theorem J8(fu:Nat):aaI (xW fu):=by
 intro plist r H
 have H:=fC H
 refine qI Tryz.func255 (fun C hC=>?_)
 refine qS (qR (q1 aF (qN ?_)))
 iterate 2 refine qS ?_
 refine qR (q1 aF (qN ?_))
 refine nF 0 (bE _) (fun hl2=>?_)
 refine cG (σ:=Unit) (fun i1 _=>⟨[(0,rS plist),(2,pB false),(3,pN i1)],⟨[],[]⟩⟩) (fun _=>⟨[(2,pB false)],⟨[],[]⟩⟩) (f9 H) ?_ ?_
 ·rintro i1 ⟨⟩ H
  iterate 2 refine qS ?_
  refine qR ?_
  iterate 2 refine q1 aF ?_
  refine q1 (eM bW (bE _)) (q1 gU (qN ?_))
  refine eJ H (fun h3 h3l H=>?_) (fun h3 H=>?_)
  ·have h3n:=a7 h3
   refine aO.skip (qS (aO.block (qS (qR ?_))))
   iterate 2 refine q1 aF ?_
   refine q1 (j0 h3n bW) (q1 (mR e8) (bO H fun x5 z4 H=>(q1 (bJ Tryz.func235 (dJ fu (a5 plist i1) _ z4)) (q1 gS (qN ?_)))))
   refine a9 H (fun h6 H=>?_) (fun h6 H=>?_)
   ·refine qS (qR (q1 aF (qN (aO.ret ?_))))
    obtain rfl:_=r:=(pY (aY H):)
    exact bN
   refine aO.skip (qR (q1 aF (q1 (aW.addI rfl rfl rfl rfl (c:=((i1+1:Nat):Int)) (by omega) (by omega)) (q1 aF (qN ?_)))))
   exact jA h3l ⟨_,(aY H:),bZ⟩
  refine aO.exit ?_;exact k7 ⟨_,H,bZ⟩
 rintro⟨⟩ H
 refine qS (qR (q1 aF (qN (aO.ret ?_))))
 obtain rfl:_=r:=(aY H:)
 exact bN
def M8(m:(List ByteArray)→Option Bool):Prop:= ∀(plist:List ByteArray) (r:Bool),m plist=some r→cH Tryz.prog 237 [rS plist] (pB r:PV)
def LC(fu:Nat)(plist:List ByteArray):Nat→Unit→Option (LR Unit Bool):=
 fun i1 _=>gd ((0:Int)≤0∧(0:Int)≤((i1:Nat):Int)∧(((i1:Nat):Int):Int)≤((plist.length:Nat):Int))
 (bd (lO fu (List.drop (0:Int).toNat (List.take (((i1:Nat):Int):Int).toNat plist)) (a5 plist i1)) (fun x6=>
 sw (x6)
 (some (.ret false))
 (some (.next ()))))
def K0(fu:Nat)(plist:List ByteArray):Option (Bool⊕Unit):=
 loopN (LC fu plist) (plist.length-0) 0 ()
def iJ(fu:Nat)(plist:List ByteArray):Option Bool:=
 so (K0 fu plist) (fun _=>
 some true)
theorem j8(fu:Nat):M8 (iJ fu):=by
 intro plist r H
 have H:=fC H
 refine qI Tryz.func237 (fun C hC=>?_)
 refine qS (qR (q1 aF (qN ?_)))
 iterate 2 refine qS ?_
 refine qR (q1 aF (qN ?_))
 refine nF 0 (bE _) (fun hl2=>?_)
 refine cG (σ:=Unit) (fun i1 _=>⟨[(0,rS plist),(2,pB false),(3,pN i1)],⟨[],[]⟩⟩) (fun _=>⟨[(2,pB false)],⟨[],[]⟩⟩) (f9 H) ?_ ?_
 ·rintro i1 ⟨⟩ H
  iterate 2 refine qS ?_
  refine qR ?_
  iterate 2 refine q1 aF ?_
  refine q1 (eM bW (bE _)) (q1 gU (qN ?_))
  refine eJ H (fun h3 h3l H=>?_) (fun h3 H=>?_)
  ·have h3n:=a7 h3
   refine aO.skip (qS (aO.block (qS (dK H fun z4 H=>(bO H fun x6 z5 H=>(dW (dI [0] aF (dI [3] aF ?_))))))))
   refine dI [10,11] (aW.congrP (aW.sliceR (es:=aX (plist)) (l:=0) (k:=((i1:Nat):Int)) rfl rfl rfl rfl rfl (by rw [bE];exact rfl) (by rw [bE];exact z4) bW) (XD _ _ _)) ?_;refine dI [0] aF (dI [3] aF (dI [13,14] (j0 h3n bW) (dI [15] (mR e8) (dI [12,16] (bJ Tryz.func125 (lR fu (List.drop (0:Int).toNat (List.take (((i1:Nat):Int):Int).toNat plist)) (a5 plist i1) _ z5)) (dN ?_)))))
   refine a9 H (fun h7 H=>?_) (fun h7 H=>?_)
   ·refine qS (qR (q1 aF (qN (aO.ret ?_))))
    obtain rfl:_=r:=(pY (aY H):)
    exact bN
   refine aO.skip (qR (q1 aF (q1 (aW.addI rfl rfl rfl rfl (c:=((i1+1:Nat):Int)) (by omega) (by omega)) (q1 aF (qN ?_)))))
   exact jA h3l ⟨_,(aY H:),bZ⟩
  refine aO.exit ?_;exact k7 ⟨_,H,bZ⟩
 rintro⟨⟩ H
 refine qS (qR (q1 aF (qN (aO.ret ?_))))
 obtain rfl:_=r:=(aY H:)
 exact bN
def adP(m:ByteArray→Option aB):Prop:= ∀(ps:ByteArray) (r:aB),m ps=some r→cH Tryz.prog 118 [pS ps] ((aB.pv r):PV)
def lL(fu:Nat)(ps:ByteArray):Option aB:=
 some (aB.mk 1 ps [])
theorem iN(fu:Nat):adP (lL fu):=by
 intro ps r H
 have H:=fC H
 refine qI Tryz.func118 (fun C hC=>?_)
 refine qS (qR (q1 (hH jO) (qN (qS (qR (q1 aF (q1 (fM jO zM) (q1 (bV iV) (qN (aO.ret ?_))))))))))
 obtain rfl:_=r:=(aY H:)
 exact bN (hr:=⟨⟨_,_,_,rfl,rfl,dL,rfl,rfl⟩,trivial⟩)
def adS(m:ByteArray→(List aB)→Option aB):Prop:= ∀(ps:ByteArray) (pargs:List aB) (r:aB),m ps pargs=some r→cH Tryz.prog 85 [pS ps,a6 pargs] ((aB.pv r):PV)
def iX(fu:Nat)(ps:ByteArray)(pargs:List aB):Option aB:=
 gd (([]:List aB).length+(pargs).length≤68719476736)
 (some (aB.mk 2 ps (([])++pargs)))
theorem iM(fu:Nat):adS (iX fu):=by
 intro ps pargs r H
 have H:=fC H
 refine qI Tryz.func85 (fun C hC=>?_)
 refine qS (qR (q1 (hH jO) (qN (qS (qR (q1 aF (q1 (rC ([]:List aB) fX jO) (q1 aF (dK H fun z1 H=>(q1 (lC z1 fX afE) (q1 (fM jO zM) (q1 (bV iV) (qN ?_)))))))))))))
 refine aO.ret ?_
 obtain rfl:_=r:=(aY H:)
 exact bN (hr:=⟨⟨_,_,_,rfl,rfl,dL,rfl,rfl⟩,trivial⟩)
abbrev yG:=aA→Option aB
def LS(m:yG):Prop:= ∀(pa0:aA) (r:aB),m pa0=some r→cH Tryz.prog 246 [(aA.pv pa0)] ((aB.pv r):PV)
def ae7(fu:Nat)(r_sl5Ty:yG)(pa0:aA):Nat→((List aB))→Option (LR ((List aB)) aB):=
 fun i11 v13=>bd (r_sl5Ty (a5 pa0.gList i11)) (fun x17=>
 gd ((v13).length+(([x17]:List aB)).length≤68719476736)
 (some (.next (v13++([x17]:List aB)))))
def aeP(fu:Nat)(r_sl5Ty:yG)(pa0:aA):Option (aB⊕((List aB))):=
 loopN (ae7 fu r_sl5Ty pa0) (pa0.gList.length-1) 1 ([])
def SR(fu:Nat)(r_sl5Ty:yG)(pa0:aA):Option aB:=
 sw (!decide (pa0.gAtom=s_))
 (gd (0<(pa0.gAtom).size)
 (sw (decide ((((y2 pa0.gAtom 0).toNat:Int):Int)=39))
 (gd ((0:Int)≤1∧(1:Int)≤((pa0.gAtom.size:Nat):Int)∧(((pa0.gAtom.size:Nat):Int):Int)≤((pa0.gAtom.size:Nat):Int))
 (bd (lL fu (pa0.gAtom.extract (1:Int).toNat (((pa0.gAtom.size:Nat):Int):Int).toNat)) (fun x6=>
 some x6)))
 (bd (iX fu pa0.gAtom ([])) (fun x8=>
 some x8))))
 (sw (decide ((((pa0.gList.length:Nat):Int):Int)<2))
 (some (aB.mk 0 s_ []))
 (gd (0<(pa0.gList).length)
 (so (aeP fu r_sl5Ty pa0) (fun v13=>
 sw (decide ((a5 pa0.gList 0).gAtom=gM))
 (sw (decide ((((v13.length:Nat):Int):Int)=2))
 (gd (1<(pa0.gList).length)
 (sw (!decide ((a5 pa0.gList 1).gAtom=s_))
 (gd ((0:Int)≤1∧(1:Int)≤((v13.length:Nat):Int)∧(((v13.length:Nat):Int):Int)≤((v13.length:Nat):Int))
 (some (aB.mk 3 ((a5 pa0.gList 1).gAtom) (List.drop (1:Int).toNat (List.take (((v13.length:Nat):Int):Int).toNat v13)))))
 (sw (decide ((a5 pa0.gList 0).gAtom=tU))
 (some (aB.mk 2 ((a5 pa0.gList 0).gAtom) v13))
 (some (aB.mk 2 ((a5 pa0.gList 0).gAtom) v13)))))
 (sw (decide ((a5 pa0.gList 0).gAtom=tU))
 (sw (decide ((((v13.length:Nat):Int):Int)=1))
 (gd (1<(pa0.gList).length)
 (sw (!decide ((a5 pa0.gList 1).gAtom=s_))
 (some (aB.mk 4 ((a5 pa0.gList 1).gAtom) []))
 (some (aB.mk 2 ((a5 pa0.gList 0).gAtom) v13))))
 (some (aB.mk 2 ((a5 pa0.gList 0).gAtom) v13)))
 (some (aB.mk 2 ((a5 pa0.gList 0).gAtom) v13))))
 (sw (decide ((a5 pa0.gList 0).gAtom=tU))
 (sw (decide ((((v13.length:Nat):Int):Int)=1))
 (gd (1<(pa0.gList).length)
 (sw (!decide ((a5 pa0.gList 1).gAtom=s_))
 (some (aB.mk 4 ((a5 pa0.gList 1).gAtom) []))
 (some (aB.mk 2 ((a5 pa0.gList 0).gAtom) v13))))
 (some (aB.mk 2 ((a5 pa0.gList 0).gAtom) v13)))
 (some (aB.mk 2 ((a5 pa0.gList 0).gAtom) v13)))))))
theorem ZQ(fu:Nat)(r_sl5Ty:yG)(h_sl5Ty:LS r_sl5Ty):LS (SR fu r_sl5Ty):=by
 intro pa0 r H
 have H:=fC H
 refine qI Tryz.func246 (fun C hC=>?_)
 refine qS (qR (q1 (lA ([pS pa0.gAtom,a8 pa0.gList])) (q1 (hH jO) (qN ?_))))
 iterate 2 refine qS ?_
 refine qR (q1 (aZ eS) (q1 (bB e8) (q1 O9 (qN ?_))))
 refine a9 H (fun h1 H=>?_) (fun h1 H=>?_)
 ·refine qS (qS (qR (q1 (aZ eS) (q1 (bB e8) (dK H fun z2 H=>(q1 (aW.indexS (k:=0) rfl rfl rfl rfl z2 Tryz.underlying9) (q1 dP (qN ?_))))))))
  refine a9 H (fun h3 H=>?_) (fun h3 H=>?_)
  ·refine qS (qR (q1 (aZ eS) (q1 (bB e8) (dK H fun z4 H=>(q1 (aW.sliceS (l:=1) (k:=((pa0.gAtom.size:Nat):Int)) rfl rfl rfl rfl rfl z4 Tryz.underlying9) (bO H fun x6 z5 H=>(q1 (bJ Tryz.func118 (iN fu (pa0.gAtom.extract (1:Int).toNat (((pa0.gAtom.size:Nat):Int):Int).toNat) _ z5)) (q1 (bV iV) (qN (aO.ret ?_))))))))))
   obtain rfl:_=r:=(aY H:)
   exact bN (hr:=⟨⟨_,_,_,rfl,rfl,dL,rfl,rfl⟩,trivial⟩)
  refine aO.skip (qS (qR (q1 (aZ eS) (q1 (bB e8) (bO H fun x8 z7 H=>(q1 (bJ Tryz.func85 (iM fu pa0.gAtom ([]) _ z7)) (q1 (bV iV) (qN (aO.ret ?_)))))))))
  obtain rfl:_=r:=(aY H:)
  exact bN (hr:=⟨⟨_,_,_,rfl,rfl,dL,rfl,rfl⟩,trivial⟩)
 refine aO.skip ?_
 iterate 2 refine qS ?_
 refine qR (q1 (aZ bF) (q1 (bB cN) (q1 (eM bH (aA.trs_len _)) (q1 gU (qN ?_)))))
 refine a9 H (fun h9 H=>?_) (fun h9 H=>?_)
 ·have h9n:pa0.gList.length<2:=by have:=of_decide_eq_true h9;omega
  refine qS (qR (q1 (fM jO zM) (q1 (bV iV) (qN (aO.ret ?_)))))
  obtain rfl:_=r:=(aY H:)
  exact bN (hr:=⟨⟨_,_,_,rfl,rfl,dL,rfl,rfl⟩,trivial⟩)
 refine aO.skip (qS (qR (q1 (aZ bF) (q1 (bB cN) (dK H fun z10 H=>(q1 (j0 z10 bH) (q1 (nD eS) (q1 (mR e8) (q1 aF (qN (qS (qR (q1 (rC ([]:List aB) fX jO) ?_)))))))))))))
 refine q1 aF (qN ?_)
 iterate 2 refine qS ?_
 refine qR (q1 aF (qN ?_))
 refine nF 21 (aA.trs_len _) (fun hl14=>?_)
 refine cG (σ:=(List aB)) (fun i11 v13=>⟨[(1,.ptr 0 0),(2,.ptr 1 0),(3,pS ((a5 pa0.gList 0).gAtom)),(4,PT v13 0),(5,pN i11)],⟨[some ⟨237,[pS pa0.gAtom,a8 pa0.gList]⟩,some ⟨35,[pI 0,pS s_,.nil]⟩],[⟨35,3,aB.trs (v13),false⟩]⟩⟩) (fun v13=>⟨[(1,.ptr 0 0),(2,.ptr 1 0),(3,pS ((a5 pa0.gList 0).gAtom)),(4,PT v13 0)],⟨[some ⟨237,[pS pa0.gAtom,a8 pa0.gList]⟩,some ⟨35,[pI 0,pS s_,.nil]⟩],[⟨35,3,aB.trs (v13),false⟩]⟩⟩) (f9 H) ?_ ?_
 ·rintro i11 v13 H
  iterate 2 refine qS ?_
  refine qR (q1 aF (q1 (aZ bF) (q1 (bB cN) (q1 (eM bH (aA.trs_len _)) (q1 gU (qN ?_))))))
  refine eJ H (fun h15 h15l H=>?_) (fun h15 H=>?_)
  ·have h15n:=a7 h15
   refine aO.skip (qS (aO.block (qR (q1 aF (q1 (aZ bF) (q1 (bB cN) (q1 aF (q1 (j0 h15n bH) (q1 (j7 (aA.cs (a5 pa0.gList i11)) bP) (bO H fun x17 z16 H=>(q1 (bJ Tryz.func246 (h_sl5Ty (a5 pa0.gList i11) _ z16)) (q1 (iI ([x17]:List aB) fX jO) (dK H fun z18 H=>?_)))))))))))))
   refine q1 (lC z18 fX afE) (q1 aF (qN (qR (q1 aF (q1 (aW.addI rfl rfl rfl rfl (c:=((i11+1:Nat):Int)) (by omega) (by omega)) (q1 aF (qN ?_)))))))
   exact jA h15l ⟨_,(aY H:),bZ⟩
  refine aO.exit ?_;exact k7 ⟨_,H,bZ⟩
 rintro v13 H
 refine qS (aO.block (qS (qR (q1 aF (q1 EC (q1 aF ?_))))))
 refine dY 50 H (fun g19 H=>?_) fun g19 H=>?_
 ·refine qg g19 aF (qg g19 (eM fX (aB.trs_len _)) (qg g19 dP (q1 (bS g19) (q1 aF ?_))))
  refine dY 55 H (fun g20 H=>?_) fun g20 H=>?_
  ·refine qg g20 (aZ bF) (qg g20 (bB cN) (dK H fun z21 H=>(qg g20 (j0 z21 bH) (qg g20 (nD eS) (qg g20 (mR e8) (qg g20 O9 (q1 (bS g20) (q1 aF (qN ?_)))))))))
   refine a9 H (fun h22 H=>?_) (fun h22 H=>?_)
   ·refine qS (dK H fun z23 H=>(dW (dI [1] (aZ bF) (dD [63] (bB cN) (dI [64] (j0 z21 bH) (dI [65] (nD eS) (dI [66] (mR e8) (dI [4] aF ?_))))))))
    refine dI [68] (aW.congrP (aW.sliceR (es:=aB.trs (v13)) (l:=1) (k:=((v13.length:Nat):Int)) rfl rfl rfl rfl rfl (by rw [aB.trs_len];exact rfl) (by rw [aB.trs_len];exact z23) fX) (aB.trs_part _ _ _)) ?_;refine dI [67,69] (fM jO zM) (mZ [2,70] (bV iV) (dN (aO.ret ?_)))
    obtain rfl:_=r:=(aY H:)
    exact bN (hr:=⟨⟨_,_,_,rfl,rfl,dL,rfl,rfl⟩,trivial⟩)
   refine qS (qR (q1 aF (q1 EC (q1 aF ?_))))
   refine dY 74 H (fun g24 H=>?_) fun g24 H=>?_
   ·refine qg g24 aF (qg g24 (eM fX (aB.trs_len _)) (qg g24 dP (q1 (bS g24) (q1 aF ?_))))
    iterate 6 refine qk (dne (b:=1) g20 (by decide)) ?_
    refine q1 (b4 (dne (b:=1) g20 (by decide))) (q1 aF (qN (kL rfl (aO.skip (qS (qR ?_))))))
    iterate 2 refine q1 aF ?_
    refine q1 (fM jO zM) (q1 (bV iV) (qN (aO.ret ?_)))
    obtain rfl:_=r:=(aY H:)
    exact bN (hr:=⟨⟨_,_,_,rfl,rfl,dL,rfl,rfl⟩,trivial⟩)
   iterate 3 refine qk g24 ?_
   refine q1 (b4 g24) (q1 aF ?_)
   iterate 6 refine qk rfl ?_
   refine q1 (b4 rfl) (q1 aF (qN (kL rfl (aO.skip (qS (qR ?_))))))
   iterate 2 refine q1 aF ?_
   refine q1 (fM jO zM) (q1 (bV iV) (qN (aO.ret ?_)))
   obtain rfl:_=r:=(aY H:)
   exact bN (hr:=⟨⟨_,_,_,rfl,rfl,dL,rfl,rfl⟩,trivial⟩)
  iterate 6 refine qk g20 ?_
  refine q1 (b4 g20) (q1 aF (qN (kL rfl (qS (qR (q1 aF (q1 EC (q1 aF ?_))))))))
  refine dY 74 H (fun g25 H=>?_) fun g25 H=>?_
  ·refine qg g25 aF (qg g25 (eM fX (aB.trs_len _)) (qg g25 dP (q1 (bS g25) (q1 aF ?_))))
   refine dY 79 H (fun g26 H=>?_) fun g26 H=>?_
   ·refine qg g26 (aZ bF) (qg g26 (bB cN) (dK H fun z27 H=>(qg g26 (j0 z27 bH) (qg g26 (nD eS) (qg g26 (mR e8) (qg g26 O9 (q1 (bS g26) (q1 aF (qN ?_)))))))))
    refine a9 H (fun h28 H=>?_) (fun h28 H=>?_)
    ·refine qS (qR (q1 (aZ bF) (q1 (bB cN) (q1 (j0 z27 bH) (q1 (nD eS) (q1 (mR e8) (q1 (fM jO zM) (q1 (bV iV) (qN (aO.ret ?_))))))))))
     obtain rfl:_=r:=(aY H:)
     exact bN (hr:=⟨⟨_,_,_,rfl,rfl,dL,rfl,rfl⟩,trivial⟩)
    refine aO.skip (qS (qR ?_))
    iterate 2 refine q1 aF ?_
    refine q1 (fM jO zM) (q1 (bV iV) (qN (aO.ret ?_)))
    obtain rfl:_=r:=(aY H:)
    exact bN (hr:=⟨⟨_,_,_,rfl,rfl,dL,rfl,rfl⟩,trivial⟩)
   iterate 6 refine qk g26 ?_
   refine q1 (b4 g26) (q1 aF (qN (kL rfl (aO.skip (qS (qR ?_))))))
   iterate 2 refine q1 aF ?_
   refine q1 (fM jO zM) (q1 (bV iV) (qN (aO.ret ?_)))
   obtain rfl:_=r:=(aY H:)
   exact bN (hr:=⟨⟨_,_,_,rfl,rfl,dL,rfl,rfl⟩,trivial⟩)
  iterate 3 refine qk g25 ?_
  refine q1 (b4 g25) (q1 aF ?_)
  iterate 6 refine qk rfl ?_
  refine q1 (b4 rfl) (q1 aF (qN (kL rfl (aO.skip (qS (qR ?_))))))
  iterate 2 refine q1 aF ?_
  refine q1 (fM jO zM) (q1 (bV iV) (qN (aO.ret ?_)))
  obtain rfl:_=r:=(aY H:)
  exact bN (hr:=⟨⟨_,_,_,rfl,rfl,dL,rfl,rfl⟩,trivial⟩)
 iterate 3 refine qk g19 ?_
 refine q1 (b4 g19) (q1 aF ?_)
 iterate 6 refine qk rfl ?_
 refine q1 (b4 rfl) (q1 aF (qN (kL rfl (qS (qR (q1 aF (q1 EC (q1 aF ?_))))))))
 refine dY 74 H (fun g29 H=>?_) fun g29 H=>?_
 ·refine qg g29 aF (qg g29 (eM fX (aB.trs_len _)) (qg g29 dP (q1 (bS g29) (q1 aF ?_))))
  refine dY 79 H (fun g30 H=>?_) fun g30 H=>?_
  ·refine qg g30 (aZ bF) (qg g30 (bB cN) (dK H fun z31 H=>(qg g30 (j0 z31 bH) (qg g30 (nD eS) (qg g30 (mR e8) (qg g30 O9 (q1 (bS g30) (q1 aF (qN ?_)))))))))
   refine a9 H (fun h32 H=>?_) (fun h32 H=>?_)
   ·refine qS (qR (q1 (aZ bF) (q1 (bB cN) (q1 (j0 z31 bH) (q1 (nD eS) (q1 (mR e8) (q1 (fM jO zM) (q1 (bV iV) (qN (aO.ret ?_))))))))))
    obtain rfl:_=r:=(aY H:)
    exact bN (hr:=⟨⟨_,_,_,rfl,rfl,dL,rfl,rfl⟩,trivial⟩)
   refine aO.skip (qS (qR ?_))
   iterate 2 refine q1 aF ?_
   refine q1 (fM jO zM) (q1 (bV iV) (qN (aO.ret ?_)))
   obtain rfl:_=r:=(aY H:)
   exact bN (hr:=⟨⟨_,_,_,rfl,rfl,dL,rfl,rfl⟩,trivial⟩)
  iterate 6 refine qk g30 ?_
  refine q1 (b4 g30) (q1 aF (qN (kL rfl (aO.skip (qS (qR ?_))))))
  iterate 2 refine q1 aF ?_
  refine q1 (fM jO zM) (q1 (bV iV) (qN (aO.ret ?_)))
  obtain rfl:_=r:=(aY H:)
  exact bN (hr:=⟨⟨_,_,_,rfl,rfl,dL,rfl,rfl⟩,trivial⟩)
 iterate 3 refine qk g29 ?_
 refine q1 (b4 g29) (q1 aF ?_)
 iterate 6 refine qk rfl ?_
 refine q1 (b4 rfl) (q1 aF (qN (kL rfl (aO.skip (qS (qR ?_))))))
 iterate 2 refine q1 aF ?_
 refine q1 (fM jO zM) (q1 (bV iV) (qN (aO.ret ?_)))
 obtain rfl:_=r:=(aY H:)
 exact bN (hr:=⟨⟨_,_,_,rfl,rfl,dL,rfl,rfl⟩,trivial⟩)
def kM:Nat→aA→Option aB
 |0,_=>none
 |fu+1,pa0=>SR fu (kM fu) pa0
theorem ab8(fu:Nat):LS (kM fu):=by
 induction fu with
 |zero=>exact(fun pa0 r H=>by simp only [kM] at H;cases H)
 |succ fu ih=>exact(fun pa0 r H=>by simp only [kM] at H;exact ZQ fu (kM fu) ih pa0 r H)
theorem sV(fu:Nat):LS (kM fu):=(ab8 fu)
abbrev t5:=aB→Option aA
def LP(m:t5):Prop:= ∀(pa0:aB) (r:aA),m pa0=some r→cH Tryz.prog 269 [(aB.pv pa0)] ((aA.pv r):PV)
def ae8(fu:Nat)(r_sl5Sx:t5)(pa0:aB):Option (aA⊕Unit):=
 sw (decide ((pa0.gKind:Int)=1))
 (gd ((ab6).size+(pa0.gName).size≤1099511627776)
 (bd (b7 fu (ab6++pa0.gName)) (fun x4=>
 some (.inl x4))))
 (sw (decide ((pa0.gKind:Int)=4))
 (bd (b7 fu tU) (fun x7=>
 bd (b7 fu pa0.gName) (fun x9=>
 bd (kB fu ([x7,x9]:List aA)) (fun x11=>
 some (.inl x11)))))
 (sw (decide ((pa0.gKind:Int)=2))
 (sw (decide ((((pa0.gArgs.length:Nat):Int):Int)=0))
 (bd (b7 fu pa0.gName) (fun x15=>
 some (.inl x15)))
 (some (.inr ())))
 (some (.inr ()))))
def ae1(fu:Nat)(r_sl5Sx:t5)(pa0:aB):Option (aA⊕((List aA))):=
 sw (decide ((pa0.gKind:Int)=3))
 (bd (b7 fu gM) (fun x20=>
 gd (([]:List aA).length+(([x20]:List aA)).length≤68719476736)
 (some (.inr (([])++([x20]:List aA))))))
 (some (.inr ([])))
def ad5(fu:Nat)(r_sl5Sx:t5)(pa0:aB)(v17:List aA)(x23:aA):Nat→((List aA))→Option (LR ((List aA)) aA):=
 fun i25 v27=>bd (r_sl5Sx (a5 pa0.gArgs i25)) (fun x31=>
 gd ((v27).length+(([x31]:List aA)).length≤68719476736)
 (some (.next (v27++([x31]:List aA)))))
def ae6(fu:Nat)(r_sl5Sx:t5)(pa0:aB)(v17:List aA)(x23:aA):Option (aA⊕((List aA))):=
 loopN (ad5 fu r_sl5Sx pa0 v17 x23) (pa0.gArgs.length-0) 0 (v17++([x23]:List aA))
def SB(fu:Nat)(r_sl5Sx:t5)(pa0:aB):Option aA:=
 so (ae8 fu r_sl5Sx pa0) (fun _=>
 so (ae1 fu r_sl5Sx pa0) (fun v17=>
 bd (b7 fu pa0.gName) (fun x23=>
 gd ((v17).length+(([x23]:List aA)).length≤68719476736)
 (so (ae6 fu r_sl5Sx pa0 v17 x23) (fun v27=>
 some (aA.mk s_ v27))))))
theorem XZ(fu:Nat)(r_sl5Sx:t5)(h_sl5Sx:LP r_sl5Sx):LP (SB fu r_sl5Sx):=by
 intro pa0 r H
 have H:=fC H
 refine qI Tryz.func269 (fun C hC=>?_)
 refine qS (qR (q1 (lA (fB pa0)) (q1 (hH b3) (qN (qS ?_)))))
 refine oM (σ:=Unit) (fun _=>⟨[(1,.ptr 0 0),(2,.ptr 1 0)],⟨[some ⟨35,fB pa0⟩,some ⟨237,[pS s_,.nil]⟩],[]⟩⟩) (f9 H) (fun H=>?_) ?_
 ·refine aO.block (qS (qR (q1 (aZ oQ) (q1 (bB iG) (q1 dP (q1 aF (qN ?_)))))))
  refine a9 H (fun h1 H=>?_) (fun h1 H=>?_)
  ·refine qS (qR (q1 (aZ l6) (q1 (bB e8) (dK H fun z2 H=>(q1 (aW.addS rfl rfl rfl rfl (Nat.le_trans z2 (by decide))) (bO H fun x4 z3 H=>(q1 (bJ Tryz.func266 (bY fu (ab6++pa0.gName) _ z3)) (q1 (bV dR) (qN (aO.ret ?_))))))))))
   obtain rfl:_=r:=(zV (aY H):)
   exact bN (hr:=⟨⟨_,_,_,rfl,rfl,bP,rfl,rfl⟩,trivial⟩)
  refine qS (qR (q1 (aZ oQ) (q1 (bB iG) (q1 dP (q1 aF (qN ?_))))))
  refine a9 H (fun h5 H=>?_) (fun h5 H=>?_)
  ·refine qS (bO H fun x7 z6 H=>(bO H fun x9 z8 H=>(bO H fun x11 z10 H=>(dW (dI [] (bJ Tryz.func266 (bY fu tU _ z6)) (dI [1] (aZ l6) (dD [18] (bB e8) (dI [19] (bJ Tryz.func266 (bY fu pa0.gName _ z8)) (dI [17,20] (iI ([x7,x9]:List aA) bH b3) (dI [21] (bJ Tryz.func265 (yV (kX fu) ([x7,x9]:List aA) _ z10)) (mZ [2,22] (bV dR) (dN (aO.ret ?_)))))))))))))
   obtain rfl:_=r:=(zV (aY H):)
   exact bN (hr:=⟨⟨_,_,_,rfl,rfl,bP,rfl,rfl⟩,trivial⟩)
  refine qS (qR (q1 (aZ oQ) (q1 (bB iG) (q1 dP (q1 aF ?_)))))
  refine dY 27 H (fun g12 H=>?_) fun g12 H=>?_
  ·refine qg g12 (aZ iT) (qg g12 (bB nY) (qg g12 (eM fX (aB.trs_len _)) (qg g12 dP (q1 (bS g12) (q1 aF (qN ?_))))))
   refine a9 H (fun h13 H=>?_) (fun h13 H=>?_)
   ·refine qS (qR (q1 (aZ l6) (q1 (bB e8) (bO H fun x15 z14 H=>(q1 (bJ Tryz.func266 (bY fu pa0.gName _ z14)) (q1 (bV dR) (qN (aO.ret ?_))))))))
    obtain rfl:_=r:=(zV (aY H):)
    exact bN (hr:=⟨⟨_,_,_,rfl,rfl,bP,rfl,rfl⟩,trivial⟩)
   refine aO.skip ?_;exact dH ⟨_,(aY H:),bZ⟩
  iterate 4 refine qk g12 ?_
  refine q1 (b4 g12) (q1 aF (qN (kL rfl (aO.skip ?_))))
  exact dH ⟨_,(aY H:),bZ⟩
 rintro⟨⟩ H
 refine qS (qR (q1 (fM b3 lG) (q1 (hH b3) (q1 (bV dR) (qN (qS (aO.wk (Wk.regBox (k:=2) (j:=1) 237 2 (by decide) rfl rfl) ?_)))))))
 refine oM (σ:=(List aA)) (fun v17=>⟨[(1,.ptr 0 0),(2,.ptr 1 0),(3,.ptr 2 0)],⟨[some ⟨35,fB pa0⟩,some ⟨237,[pS s_,.nil]⟩,some ⟨237,[pS s_,dM v17 0]⟩],[⟨237,2,aA.trs (v17),false⟩]⟩⟩) (f9 H) (fun H=>?_) ?_
 ·refine qS (qR (q1 (aZ oQ) (q1 (bB iG) (q1 dP (qN ?_)))))
  refine a9 H (fun h18 H=>?_) (fun h18 H=>?_)
  ·refine bO H fun x20 z19 H=>(dK H fun z21 H=>(dW (dI [3] (aZ bF) (dD [40] (bB cN) (dI [] (bJ Tryz.func266 (bY fu gM _ z19)) (dI [42] (iI ([x20]:List aA) bH b3) (dE [41,43] (lC z21 bH oA) (dI [3] (aZ bF) (mZ [45,44] (bV vI) (dN ?_))))))))))
   exact dH ⟨_,(aY H:),bZ⟩
  refine aO.skip ?_;exact dH ⟨_,(aY H:),bZ⟩
 rintro v17 H
 refine qS (bO H fun x23 z22 H=>(dK H fun z24 H=>(dW (dI [3] (aZ bF) (dD [46] (bB cN) (dI [1] (aZ l6) (dD [48] (bB e8) (dI [49] (bJ Tryz.func266 (bY fu pa0.gName _ z22)) (dI [50] (iI ([x23]:List aA) bH b3) (dE [47,51] (lC z24 bH oA) (dI [3] (aZ bF) (mZ [53,52] (bV vI) (dN ?_)))))))))))))
 iterate 2 refine qS ?_
 refine qR (q1 aF (qN ?_))
 refine aO.fact (cB 0 2 rfl rfl rfl (aB.trs_len _)) (fun hl28=>?_)
 refine cG (σ:=(List aA)) (fun i25 v27=>⟨[(1,.ptr 0 0),(2,.ptr 1 0),(3,.ptr 2 0),(4,pN i25)],⟨[some ⟨35,fB pa0⟩,some ⟨237,[pS s_,.nil]⟩,some ⟨237,[pS s_,dM v27 0]⟩],[⟨237,2,aA.trs (v27),false⟩]⟩⟩) (fun v27=>⟨[(2,.ptr 1 0),(3,.ptr 2 0)],⟨[some ⟨35,fB pa0⟩,some ⟨237,[pS s_,.nil]⟩,some ⟨237,[pS s_,dM v27 0]⟩],[⟨237,2,aA.trs (v27),false⟩]⟩⟩) (f9 H) ?_ ?_
 ·rintro i25 v27 H
  iterate 2 refine qS ?_
  refine qR (q1 aF (q1 (aZ iT) (q1 (bB nY) (q1 (eM fX (aB.trs_len _)) (q1 gU (qN ?_))))))
  refine eJ H (fun h29 h29l H=>?_) (fun h29 H=>?_)
  ·have h29n:=a7 h29
   refine aO.skip (qS (aO.block (bO H fun x31 z30 H=>(dK H fun z32 H=>(dW (dI [3] (aZ bF) (dD [61] (bB cN) (dI [1] (aZ iT) (dD [63] (bB nY) (dI [4] aF (dI [64,65] (j0 h29n fX) (dI [66] (j7 (aB.cs (a5 pa0.gArgs i25)) dL) (dI [67] (bJ Tryz.func269 (h_sl5Sx (a5 pa0.gArgs i25) _ z30)) ?_)))))))))))))
   refine dI [68] (iI ([x31]:List aA) bH b3) (dE [62,69] (lC z32 bH oA) (dI [3] (aZ bF) (mZ [71,70] (bV vI) (dN (qR (q1 aF (q1 (aW.addI rfl rfl rfl rfl (c:=((i25+1:Nat):Int)) (by omega) (by omega)) (q1 aF (qN ?_)))))))))
   exact jA h29l ⟨_,(aY H:),bZ⟩
  refine aO.exit ?_;exact k7 ⟨_,H,bZ⟩
 rintro v27 H
 refine qS (qR (q1 (c6 [pS s_,dM v27 0] bP) (q1 (bV dR) (qN (aO.ret ?_)))))
 obtain rfl:_=r:=(aY H:)
 exact bN (hr:=⟨⟨_,_,_,rfl,rfl,bP,rfl,rfl⟩,trivial⟩)
def kK:Nat→aB→Option aA
 |0,_=>none
 |fu+1,pa0=>SB fu (kK fu) pa0
theorem abS(fu:Nat):LP (kK fu):=by
 induction fu with
 |zero=>exact(fun pa0 r H=>by simp only [kK] at H;cases H)
 |succ fu ih=>exact(fun pa0 r H=>by simp only [kK] at H;exact XZ fu (kK fu) ih pa0 r H)
theorem sT(fu:Nat):LP (kK fu):=(abS fu)
abbrev rH:=aB→Int→Option Int
def B9(m:rH):Prop:= ∀(pt:aB) (pleft:Int) (r:Int),m pt pleft=some r→cH Tryz.prog 289 [(aB.pv pt),pI pleft] (pI r:PV)
def Y5(fu:Nat)(r_sl4Left:rH)(pt:aB)(pleft:Int):Nat→Int→Option (LR Int Int):=
 fun i1 v2=>sw (decide ((v2:Int)≥0))
 (bd (r_sl4Left (a5 pt.gArgs i1) v2) (fun x7=>
 some (.next x7)))
 (some (.brk v2))
def YQ(fu:Nat)(r_sl4Left:rH)(pt:aB)(pleft:Int):Option (Int⊕Int):=
 loopN (Y5 fu r_sl4Left pt pleft) (pt.gArgs.length-0) 0 (aQ (pleft-1))
def H4(fu:Nat)(r_sl4Left:rH)(pt:aB)(pleft:Int):Option Int:=
 so (YQ fu r_sl4Left pt pleft) (fun v2=>
 some v2)
theorem S3(fu:Nat)(r_sl4Left:rH)(h_sl4Left:B9 r_sl4Left):B9 (H4 fu r_sl4Left):=by
 intro pt pleft r H
 have H:=fC H
 refine qI Tryz.func289 (fun C hC=>?_)
 refine qS (qR (q1 (lA (fB pt)) (q1 aF (qN (qS (qR (q1 aF (q1 zZ (q1 aF (qN ?_))))))))))
 iterate 2 refine qS ?_
 refine qR (q1 aF (qN ?_))
 refine aO.fact (cB 0 2 rfl rfl rfl (aB.trs_len _)) (fun hl3=>?_)
 refine cG (σ:=Int) (fun i1 v2=>⟨[(1,pI v2),(2,.ptr 0 0),(4,pI 0),(5,pN i1)],⟨[some ⟨35,fB pt⟩],[]⟩⟩) (fun v2=>⟨[(1,pI v2),(4,pI 0)],⟨[some ⟨35,fB pt⟩],[]⟩⟩) (f9 H) ?_ ?_
 ·rintro i1 v2 H
  iterate 2 refine qS ?_
  refine qR (q1 aF (q1 (aZ iT) (q1 (bB nY) (q1 (eM fX (aB.trs_len _)) (q1 gU (q1 aF ?_))))))
  refine AL.splitB 13 rfl (fun g4=>?_) (fun g4=>?_)
  ·have g4l:=uP g4
   have H:=lnT g4l H
   have g4n:=a7 g4
   refine qg g4 aF (qg g4 P7 (q1 (bS g4) (qN ?_)))
   refine a9 H (fun h5 H=>?_) (fun h5 H=>?_)
   ·refine aO.skip (qS (aO.block (qR (q1 (aZ iT) (q1 (bB nY) (q1 aF (q1 (j0 g4n fX) (q1 (j7 (aB.cs (a5 pt.gArgs i1)) dL) (q1 aF (bO H fun x7 z6 H=>(q1 (bJ Tryz.func289 (h_sl4Left (a5 pt.gArgs i1) v2 _ z6)) (q1 aF (qN ?_)))))))))))))
    refine qR (q1 aF (q1 (aW.addI rfl rfl rfl rfl (c:=((i1+1:Nat):Int)) (by omega) (by omega)) (q1 aF (qN ?_))))
    exact jA g4l ⟨_,(aY H:),bZ⟩
   refine aO.exit ?_;exact lpB ⟨_,(aY H:),bZ⟩
  have H:=lnE (uZ g4) H
  iterate 2 refine qk g4 ?_
  refine q1 (b4 g4) (qN (kL rfl (aO.exit ?_)))
  exact k7 ⟨_,H,bZ⟩
 rintro v2 H
 refine qS (qR ?_)
 iterate 2 refine q1 aF ?_
 refine qN (aO.ret ?_)
 obtain rfl:_=r:=(aY H:)
 exact bN
def m6:Nat→aB→Int→Option Int
 |0,_,_=>none
 |fu+1,pt,pleft=>H4 fu (m6 fu) pt pleft
theorem U6(fu:Nat):B9 (m6 fu):=by
 induction fu with
 |zero=>exact(fun pt pleft r H=>by simp only [m6] at H;cases H)
 |succ fu ih=>exact(fun pt pleft r H=>by simp only [m6] at H;exact S3 fu (m6 fu) ih pt pleft r H)
theorem ZG(fu:Nat):B9 (m6 fu):=(U6 fu)
abbrev mG:=aB→Option Int
def t4(m:mG):Prop:= ∀(pt:aB) (r:Int),m pt=some r→cH Tryz.prog 290 [(aB.pv pt)] (pI r:PV)
def O6(fu:Nat)(r_sTypeDepth:mG)(pt:aB):Nat→Int→Option (LR Int Int):=
 fun i1 v2=>bd (r_sTypeDepth (a5 pt.gArgs i1)) (fun x6=>
 bd (G8 fu v2 (aQ (1+x6))) (fun x8=>
 some (.next x8)))
def O1(fu:Nat)(r_sTypeDepth:mG)(pt:aB):Option (Int⊕Int):=
 loopN (O6 fu r_sTypeDepth pt) (pt.gArgs.length-0) 0 0
def yD(fu:Nat)(r_sTypeDepth:mG)(pt:aB):Option Int:=
 so (O1 fu r_sTypeDepth pt) (fun v2=>
 some v2)
theorem KE(fu:Nat)(r_sTypeDepth:mG)(h_sTypeDepth:t4 r_sTypeDepth):t4 (yD fu r_sTypeDepth):=by
 intro pt r H
 have H:=fC H
 refine qI Tryz.func290 (fun C hC=>?_)
 refine qS (qR (q1 (lA (fB pt)) (q1 aF (qN (qS (qR (q1 aF (qN ?_))))))))
 iterate 2 refine qS ?_
 refine qR (q1 aF (qN ?_))
 refine aO.fact (cB 0 2 rfl rfl rfl (aB.trs_len _)) (fun hl3=>?_)
 refine cG (σ:=Int) (fun i1 v2=>⟨[(1,.ptr 0 0),(2,pI 0),(3,pI v2),(4,pN i1)],⟨[some ⟨35,fB pt⟩],[]⟩⟩) (fun v2=>⟨[(2,pI 0),(3,pI v2)],⟨[some ⟨35,fB pt⟩],[]⟩⟩) (f9 H) ?_ ?_
 ·rintro i1 v2 H
  iterate 2 refine qS ?_
  refine qR (q1 aF (q1 (aZ iT) (q1 (bB nY) (q1 (eM fX (aB.trs_len _)) (q1 gU (qN ?_))))))
  refine eJ H (fun h4 h4l H=>?_) (fun h4 H=>?_)
  ·have h4n:=a7 h4
   refine aO.skip (qS (aO.block (qR (q1 aF (q1 (aZ iT) (q1 (bB nY) (q1 aF (q1 (j0 h4n fX) (q1 (j7 (aB.cs (a5 pt.gArgs i1)) dL) (bO H fun x6 z5 H=>(q1 (bJ Tryz.func290 (h_sTypeDepth (a5 pt.gArgs i1) _ z5)) (q1 LQ (bO H fun x8 z7 H=>?_)))))))))))))
   refine q1 (bJ Tryz.func242 (PU fu v2 (aQ (1+x6)) _ z7)) (q1 aF (qN (qR (q1 aF (q1 (aW.addI rfl rfl rfl rfl (c:=((i1+1:Nat):Int)) (by omega) (by omega)) (q1 aF (qN ?_)))))))
   exact jA h4l ⟨_,(aY H:),bZ⟩
  refine aO.exit ?_;exact k7 ⟨_,H,bZ⟩
 rintro v2 H
 refine qS (qR ?_)
 iterate 2 refine q1 aF ?_
 refine qN (aO.ret ?_)
 obtain rfl:_=r:=(aY H:)
 exact bN
def iE:Nat→aB→Option Int
 |0,_=>none
 |fu+1,pt=>yD fu (iE fu) pt
theorem NM(fu:Nat):t4 (iE fu):=by
 induction fu with
 |zero=>exact(fun pt r H=>by simp only [iE] at H;cases H)
 |succ fu ih=>exact(fun pt r H=>by simp only [iE] at H;exact KE fu (iE fu) ih pt r H)
theorem OS(fu:Nat):t4 (iE fu):=(NM fu)
def acI(m:ByteArray→Option Bool):Prop:= ∀(ps:ByteArray) (r:Bool),m ps=some r→cH Tryz.prog 153 [pS ps] (pB r:PV)
def uE(fu:Nat)(ps:ByteArray):Option Bool:=
 sw (decide (ps=e7))
 (some true)
 (some (decide (ps=eO)))
theorem ER(fu:Nat):acI (uE fu):=by
 intro ps r H
 have H:=fC H
 refine qI Tryz.func153 (fun C hC=>?_)
 refine qS (qR (q1 aF (qN (qS (qR (q1 aF (q1 EC (q1 aF ?_))))))))
 refine dY 5 H (fun g1 H=>?_) fun g1 H=>?_
 ·refine qk g1 (qk g1 (q1 (bS g1) (q1 aF (qN (aO.ret ?_)))))
  obtain rfl:_=r:=(aY H:)
  exact bN
 refine qg g1 aF (qg g1 EC (q1 (b4 g1) (q1 aF (qN (aO.ret ?_)))))
 obtain rfl:_=r:=(aY H:)
 exact bN
abbrev nV:=aB→Option Bool
def CG(m:nV):Prop:= ∀(pa0:aB) (r:Bool),m pa0=some r→cH Tryz.prog 291 [(aB.pv pa0)] (pB r:PV)
def aaN(fu:Nat)(r_sl4Form:nV)(pa0:aB)(x2:Bool):Option ((Bool⊕Bool)⊕Bool):=
 sw (decide ((pa0.gKind:Int)=1))
 (some (.inr (decide ((pa0.gKind:Int)=1))))
 (some (.inr (decide ((pa0.gKind:Int)=4))))
def ZI(fu:Nat)(r_sl4Form:nV)(pa0:aB)(x2:Bool):Option (Bool⊕Bool):=
 so (aaN fu r_sl4Form pa0 x2) (fun v4=>
 sw (v4)
 (sw (x2)
 (some (.inr (decide ((((pa0.gArgs.length:Nat):Int):Int)=0))))
 (some (.inr false)))
 (sw (decide ((pa0.gKind:Int)=3))
 (sw (x2)
 (some (.inr (decide ((((pa0.gArgs.length:Nat):Int):Int)=1))))
 (some (.inr false)))
 (sw (decide ((pa0.gKind:Int)=2))
 (sw (x2)
 (sw (decide ((((pa0.gArgs.length:Nat):Int):Int)≤3))
 (some (.inr true))
 (bd (uE fu pa0.gName) (fun x14=>
 sw (x14)
 (some (.inr (decide ((((pa0.gArgs.length:Nat):Int):Int)=0))))
 (some (.inr false)))))
 (bd (uE fu pa0.gName) (fun x17=>
 sw (x17)
 (some (.inr (decide ((((pa0.gArgs.length:Nat):Int):Int)=0))))
 (some (.inr false)))))
 (some (.inl false)))))
def aaL(fu:Nat)(r_sl4Form:nV)(pa0:aB)(x2 v3:Bool):Nat→Bool→Option (LR Bool Bool):=
 fun i19 v20=>sw (v20)
 (bd (r_sl4Form (a5 pa0.gArgs i19)) (fun x25=>
 some (.next x25)))
 (some (.next false))
def YJ(fu:Nat)(r_sl4Form:nV)(pa0:aB)(x2 v3:Bool):Option (Bool⊕Bool):=
 loopN (aaL fu r_sl4Form pa0 x2 v3) (pa0.gArgs.length-0) 0 v3
def JN(fu:Nat)(r_sl4Form:nV)(pa0:aB):Option Bool:=
 bd (c5 fu pa0.gName) (fun x2=>
 so (ZI fu r_sl4Form pa0 x2) (fun v3=>
 so (YJ fu r_sl4Form pa0 x2 v3) (fun v20=>
 some v20)))
theorem R4(fu:Nat)(r_sl4Form:nV)(h_sl4Form:CG r_sl4Form):CG (JN fu r_sl4Form):=by
 intro pa0 r H
 have H:=fC H
 refine qI Tryz.func291 (fun C hC=>?_)
 refine qS (qR (q1 (lA (fB pa0)) (q1 aF (qN (qS (qR (q1 (aZ l6) (q1 (bB e8) (bO H fun x2 z1 H=>(q1 (bJ Tryz.func235 (dJ fu pa0.gName _ z1)) (q1 aF (qN (qS ?_)))))))))))))
 refine oM (σ:=Bool) (fun v3=>⟨[(1,.ptr 0 0),(2,pB false),(3,pB v3)],⟨[some ⟨35,fB pa0⟩],[]⟩⟩) (f9 H) (fun H=>?_) ?_
 ·refine qS (qR (q1 (aZ oQ) (q1 (bB iG) (qN (aO.block (qS ?_))))))
  refine oM (σ:=Bool) (fun v4=>⟨[(1,.ptr 0 0),(2,pB false),(3,pB x2),(9,pI pa0.gKind),(10,pB v4)],⟨[some ⟨35,fB pa0⟩],[]⟩⟩) (f9 H) (fun H=>?_) ?_
  ·refine qS (qR (q1 dP (q1 aF (qN ?_))))
   refine a9 H (fun h5 H=>?_) (fun h5 H=>?_)
   ·refine aO.skip ?_;exact dH ⟨_,(aY H:),bZ⟩
   refine qR (q1 dP (q1 aF (qN ?_)))
   exact dH ⟨_,(aY H:),bZ⟩
  rintro v4 H
  refine a9 H (fun h6 H=>?_) (fun h6 H=>?_)
  ·refine qR ?_
   iterate 2 refine q1 aF ?_
   refine dY 14 H (fun g7 H=>?_) fun g7 H=>?_
   ·refine qg g7 (aZ iT) (qg g7 (bB nY) (qg g7 (eM fX (aB.trs_len _)) (qg g7 dP (q1 (bS g7) (q1 aF (qN ?_))))))
    exact dH ⟨_,(aY H:),bZ⟩
   iterate 4 refine qk g7 ?_
   refine q1 (b4 g7) (q1 aF (qN ?_))
   exact dH ⟨_,(aY H:),bZ⟩
  refine qS (qR (q1 dP (q1 aF (qN ?_))))
  refine a9 H (fun h8 H=>?_) (fun h8 H=>?_)
  ·refine qR ?_
   iterate 2 refine q1 aF ?_
   refine dY 23 H (fun g9 H=>?_) fun g9 H=>?_
   ·refine qg g9 (aZ iT) (qg g9 (bB nY) (qg g9 (eM fX (aB.trs_len _)) (qg g9 dP (q1 (bS g9) (q1 aF (qN ?_))))))
    exact dH ⟨_,(aY H:),bZ⟩
   iterate 4 refine qk g9 ?_
   refine q1 (b4 g9) (q1 aF (qN ?_))
   exact dH ⟨_,(aY H:),bZ⟩
  refine qS (qR (q1 dP (q1 aF (qN ?_))))
  refine a9 H (fun h10 H=>?_) (fun h10 H=>?_)
  ·refine qR ?_
   iterate 2 refine q1 aF ?_
   refine dY 32 H (fun g11 H=>?_) fun g11 H=>?_
   ·refine qg g11 (aZ iT) (qg g11 (bB nY) (qg g11 (eM fX (aB.trs_len _)) (qg g11 rLe (q1 (bS g11) (q1 aF ?_)))))
    refine dY 38 H (fun g12 H=>?_) fun g12 H=>?_
    ·refine qk g12 ?_
     iterate 3 refine qk g12 ?_
     iterate 4 refine F1 ?_
     refine qk g12 (q1 (bS g12) (q1 aF (qN ?_)))
     exact dH ⟨_,(aY H:),bZ⟩
    refine qg g12 (aZ l6) (qg g12 (bB e8) (bO H fun x14 z13 H=>(qg g12 (bJ Tryz.func153 (ER fu pa0.gName _ z13)) (qg g12 aF ?_))))
    refine dY 42 H (fun g15 H=>?_) fun g15 H=>?_
    ·refine qg g15 (aZ iT) (qg g15 (bB nY) (qg g15 (eM fX (aB.trs_len _)) (qg g15 dP (qg g12 (bS g15) (q1 (b4 g12) (q1 aF (qN ?_)))))))
     exact dH ⟨_,(aY H:),bZ⟩
    iterate 4 refine qk g15 ?_
    refine qg g12 (b4 g15) (q1 (b4 g12) (q1 aF (qN ?_)))
    exact dH ⟨_,(aY H:),bZ⟩
   iterate 4 refine qk g11 ?_
   refine q1 (b4 g11) (q1 aF (qg rfl (aZ l6) (qg rfl (bB e8) (bO H fun x17 z16 H=>(qg rfl (bJ Tryz.func153 (ER fu pa0.gName _ z16)) (qg rfl aF ?_))))))
   refine dY 42 H (fun g18 H=>?_) fun g18 H=>?_
   ·refine qg g18 (aZ iT) (qg g18 (bB nY) (qg g18 (eM fX (aB.trs_len _)) (qg g18 dP (qg rfl (bS g18) (q1 (b4 rfl) (q1 aF (qN ?_)))))))
    exact dH ⟨_,(aY H:),bZ⟩
   iterate 4 refine qk g18 ?_
   refine qg rfl (b4 g18) (q1 (b4 rfl) (q1 aF (qN ?_)))
   exact dH ⟨_,(aY H:),bZ⟩
  refine qS (qR (q1 aF (qN (aO.ret ?_))))
  obtain rfl:_=r:=(zV (aY H):)
  exact bN
 rintro v3 H
 iterate 2 refine qS ?_
 refine qR (q1 aF (qN ?_))
 refine aO.fact (cB 0 2 rfl rfl rfl (aB.trs_len _)) (fun hl21=>?_)
 refine cG (σ:=Bool) (fun i19 v20=>⟨[(1,.ptr 0 0),(2,pB false),(3,pB v20),(4,pN i19)],⟨[some ⟨35,fB pa0⟩],[]⟩⟩) (fun v20=>⟨[(2,pB false),(3,pB v20)],⟨[some ⟨35,fB pa0⟩],[]⟩⟩) (f9 H) ?_ ?_
 ·rintro i19 v20 H
  iterate 2 refine qS ?_
  refine qR (q1 aF (q1 (aZ iT) (q1 (bB nY) (q1 (eM fX (aB.trs_len _)) (q1 gU (qN ?_))))))
  refine eJ H (fun h22 h22l H=>?_) (fun h22 H=>?_)
  ·have h22n:=a7 h22
   refine aO.skip (qS (aO.block (qR ?_)))
   iterate 2 refine q1 aF ?_
   refine dY 57 H (fun g23 H=>?_) fun g23 H=>?_
   ·refine qg g23 (aZ iT) (qg g23 (bB nY) (qg g23 aF (qg g23 (j0 h22n fX) (qg g23 (j7 (aB.cs (a5 pa0.gArgs i19)) dL) (bO H fun x25 z24 H=>(qg g23 (bJ Tryz.func291 (h_sl4Form (a5 pa0.gArgs i19) _ z24)) (q1 (bS g23) (q1 aF (qN (qR (q1 aF (q1 (aW.addI rfl rfl rfl rfl (c:=((i19+1:Nat):Int)) (by omega) (by omega)) (q1 aF ?_)))))))))))))
    refine qN ?_;exact jA h22l ⟨_,(aY H:),bZ⟩
   iterate 6 refine qk g23 ?_
   refine q1 (b4 g23) (q1 aF (qN (qR (q1 aF (q1 (aW.addI rfl rfl rfl rfl (c:=((i19+1:Nat):Int)) (by omega) (by omega)) (q1 aF (qN ?_)))))))
   exact jA h22l ⟨_,(aY H:),bZ⟩
  refine aO.exit ?_;exact k7 ⟨_,H,bZ⟩
 rintro v20 H
 refine qS (qR ?_)
 iterate 2 refine q1 aF ?_
 refine qN (aO.ret ?_)
 obtain rfl:_=r:=(aY H:)
 exact bN
def mW:Nat→aB→Option Bool
 |0,_=>none
 |fu+1,pa0=>JN fu (mW fu) pa0
theorem VN(fu:Nat):CG (mW fu):=by
 induction fu with
 |zero=>exact(fun pa0 r H=>by simp only [mW] at H;cases H)
 |succ fu ih=>exact(fun pa0 r H=>by simp only [mW] at H;exact R4 fu (mW fu) ih pa0 r H)
theorem YU(fu:Nat):CG (mW fu):=(VN fu)
def NW(m:aB→Option Bool):Prop:= ∀(pt:aB) (r:Bool),m pt=some r→cH Tryz.prog 284 [(aB.pv pt)] (pB r:PV)
def iL(fu:Nat)(pt:aB):Option Bool:=
 bd (m6 fu pt 60) (fun x2=>
 sw (decide ((x2:Int)≥0))
 (bd (iE fu pt) (fun x5=>
 sw (decide ((x5:Int)≤6))
 (bd (mW fu pt) (fun x8=>
 some x8))
 (some false)))
 (some false))
theorem j9(fu:Nat):NW (iL fu):=by
 intro pt r H
 have H:=fC H
 refine qI Tryz.func284 (fun C hC=>?_)
 refine qS (qR (q1 (lA (fB pt)) (q1 aF (qN (qS (qR (q1 (c6 [pI pt.gKind,pS pt.gName,a6 pt.gArgs] dL) (bO H fun x2 z1 H=>(q1 (bJ Tryz.func289 (ZG fu pt 60 _ z1)) (q1 P7 (q1 aF ?_)))))))))))
 refine dY 6 H (fun g3 H=>?_) fun g3 H=>?_
 ·refine qg g3 (c6 [pI pt.gKind,pS pt.gName,a6 pt.gArgs] dL) (bO H fun x5 z4 H=>(qg g3 (bJ Tryz.func290 (OS fu pt _ z4)) (qg g3 rLe (q1 (bS g3) (q1 aF ?_)))))
  refine dY 11 H (fun g6 H=>?_) fun g6 H=>?_
  ·refine qg g6 (c6 [pI pt.gKind,pS pt.gName,a6 pt.gArgs] dL) (bO H fun x8 z7 H=>(qg g6 (bJ Tryz.func291 (YU fu pt _ z7)) (q1 (bS g6) (q1 aF (qN (aO.ret ?_))))))
   obtain rfl:_=r:=(aY H:)
   exact bN
  iterate 2 refine qk g6 ?_
  refine q1 (b4 g6) (q1 aF (qN (aO.ret ?_)))
  obtain rfl:_=r:=(aY H:)
  exact bN
 iterate 3 refine qk g3 ?_
 refine q1 (b4 g3) (q1 aF ?_)
 iterate 2 refine qk rfl ?_
 refine q1 (b4 rfl) (q1 aF (qN (aO.ret ?_)))
 obtain rfl:_=r:=(aY H:)
 exact bN
abbrev iF:=aB→aB→Option Bool
abbrev mY:=(List aB)→(List aB)→Option Bool
def qG(m:iF):Prop:= ∀(pa:aB) (pb:aB) (r:Bool),m pa pb=some r→cH Tryz.prog 16 [(aB.pv pa),(aB.pv pb)] (pB r:PV)
def BO(m:mY):Prop:= ∀(pa:List aB) (pb:List aB) (r:Bool),m pa pb=some r→cH Tryz.prog 66 [a6 pa,a6 pb] (pB r:PV)
def xV(fu:Nat)(r_sEqualType:iF)(r_sl4Same:mY)(pa pb:aB):Option Bool:=
 sw (decide ((pa.gKind:Int)=pb.gKind))
 (sw (decide (pa.gName=pb.gName))
 (bd (r_sl4Same pa.gArgs pb.gArgs) (fun x4=>
 some x4))
 (some false))
 (some false)
theorem KN(fu:Nat)(r_sEqualType:iF)(r_sl4Same:mY)(h_sEqualType:qG r_sEqualType)(h_sl4Same:BO r_sl4Same):qG (xV fu r_sEqualType r_sl4Same):=by
 intro pa pb r H
 have H:=fC H
 refine qI Tryz.func16 (fun C hC=>?_)
 refine qS (qR (q1 (lA (fB pa)) (q1 (lA (fB pb)) (q1 aF (qN (qS (qR (q1 (aZ oQ) (q1 (bB iG) (q1 (aZ oQ) (q1 (bB iG) (q1 dP (q1 aF ?_)))))))))))))
 refine dY 10 H (fun g1 H=>?_) fun g1 H=>?_
 ·refine qg g1 (aZ l6) (qg g1 (bB e8) (qg g1 (aZ l6) (qg g1 (bB e8) (qg g1 EC (q1 (bS g1) (q1 aF ?_))))))
  refine dY 17 H (fun g2 H=>?_) fun g2 H=>?_
  ·refine qg g2 (aZ iT) (qg g2 (bB nY) (qg g2 (aZ iT) (qg g2 (bB nY) (bO H fun x4 z3 H=>(qg g2 (bJ Tryz.func66 (h_sl4Same pa.gArgs pb.gArgs _ z3)) (q1 (bS g2) (q1 aF (qN (aO.ret ?_)))))))))
   obtain rfl:_=r:=(aY H:)
   exact bN
  iterate 5 refine qk g2 ?_
  refine q1 (b4 g2) (q1 aF (qN (aO.ret ?_)))
  obtain rfl:_=r:=(aY H:)
  exact bN
 iterate 5 refine qk g1 ?_
 refine q1 (b4 g1) (q1 aF ?_)
 iterate 5 refine qk rfl ?_
 refine q1 (b4 rfl) (q1 aF (qN (aO.ret ?_)))
 obtain rfl:_=r:=(aY H:)
 exact bN
def ZP(fu:Nat)(r_sEqualType:iF)(r_sl4Same:mY)(pa pb:List aB):Nat→Unit→Option (LR Unit Bool):=
 fun i2 _=>gd (i2<(pb).length)
 (bd (r_sEqualType (a5 pa i2) (a5 pb i2)) (fun x7=>
 sw (!(x7))
 (some (.ret false))
 (some (.next ()))))
def Y0(fu:Nat)(r_sEqualType:iF)(r_sl4Same:mY)(pa pb:List aB):Option (Bool⊕Unit):=
 loopN (ZP fu r_sEqualType r_sl4Same pa pb) (pa.length-0) 0 ()
def IS(fu:Nat)(r_sEqualType:iF)(r_sl4Same:mY)(pa pb:List aB):Option Bool:=
 sw (!decide ((((pa.length:Nat):Int):Int)=((pb.length:Nat):Int)))
 (some false)
 (so (Y0 fu r_sEqualType r_sl4Same pa pb) (fun _=>
 some true))
theorem TQ(fu:Nat)(r_sEqualType:iF)(r_sl4Same:mY)(h_sEqualType:qG r_sEqualType)(h_sl4Same:BO r_sl4Same):BO (IS fu r_sEqualType r_sl4Same):=by
 intro pa pb r H
 have H:=fC H
 refine qI Tryz.func66 (fun C hC=>?_)
 refine qS (qR (q1 aF (qN ?_)))
 iterate 2 refine qS ?_
 refine qR (q1 aF (q1 (eM fX (aB.trs_len _)) (q1 aF (q1 (eM fX (aB.trs_len _)) (q1 QI (qN ?_))))))
 refine a9 H (fun h1 H=>?_) (fun h1 H=>?_)
 ·refine qS (qR (q1 aF (qN (aO.ret ?_))))
  obtain rfl:_=r:=(aY H:)
  exact bN
 refine aO.skip ?_
 iterate 2 refine qS ?_
 refine qR (q1 aF (qN ?_))
 refine nF 0 (aB.trs_len _) (fun hl3=>?_)
 refine cG (σ:=Unit) (fun i2 _=>⟨[(0,a6 pa),(1,a6 pb),(4,pB false),(5,pN i2)],⟨[],[]⟩⟩) (fun _=>⟨[(4,pB false)],⟨[],[]⟩⟩) (f9 H) ?_ ?_
 ·rintro i2 ⟨⟩ H
  iterate 2 refine qS ?_
  refine qR ?_
  iterate 2 refine q1 aF ?_
  refine q1 (eM fX (aB.trs_len _)) (q1 gU (qN ?_))
  refine eJ H (fun h4 h4l H=>?_) (fun h4 H=>?_)
  ·have h4n:=a7 h4
   refine aO.skip (qS (aO.block (qS (dK H fun z5 H=>(bO H fun x7 z6 H=>(dW (dI [0] aF (dI [5] aF (dI [17,18] (j0 h4n fX) (dI [19] (j7 (aB.cs (a5 pa i2)) dL) (dI [1] aF (dI [5] aF (dI [21,22] (j0 z5 fX) ?_)))))))))))))
   refine dI [23] (j7 (aB.cs (a5 pb i2)) dL) (dI [20,24] (bJ Tryz.func16 (h_sEqualType (a5 pa i2) (a5 pb i2) _ z6)) (dI [25] gS (dN ?_)))
   refine a9 H (fun h8 H=>?_) (fun h8 H=>?_)
   ·refine qS (qR (q1 aF (qN (aO.ret ?_))))
    obtain rfl:_=r:=(pY (aY H):)
    exact bN
   refine aO.skip (qR (q1 aF (q1 (aW.addI rfl rfl rfl rfl (c:=((i2+1:Nat):Int)) (by omega) (by omega)) (q1 aF (qN ?_)))))
   exact jA h4l ⟨_,(aY H:),bZ⟩
  refine aO.exit ?_;exact k7 ⟨_,H,bZ⟩
 rintro⟨⟩ H
 refine qS (qR (q1 aF (qN (aO.ret ?_))))
 obtain rfl:_=r:=(aY H:)
 exact bN
mutual
def f6:Nat→aB→aB→Option Bool
 |0,_,_=>none
 |fu+1,pa,pb=>xV fu (f6 fu) (nU fu) pa pb
def nU:Nat→(List aB)→(List aB)→Option Bool
 |0,_,_=>none
 |fu+1,pa,pb=>IS fu (f6 fu) (nU fu) pa pb
end
theorem NS(fu:Nat):qG (f6 fu)∧BO (nU fu):=by
 induction fu with
 |zero=>exact⟨(fun pa pb r H=>by simp only [f6] at H;cases H),(fun pa pb r H=>by simp only [nU] at H;cases H)⟩
 |succ fu ih=>exact⟨(fun pa pb r H=>by simp only [f6] at H;exact KN fu (f6 fu) (nU fu) ih.1 ih.2 pa pb r H),(fun pa pb r H=>by simp only [nU] at H;exact TQ fu (f6 fu) (nU fu) ih.1 ih.2 pa pb r H)⟩
theorem OE(fu:Nat):qG (f6 fu):=(NS fu).1
abbrev p8:=aB→(List ByteArray)→Option ((List ByteArray))
def BZ(m:p8):Prop:= ∀(pt:aB) (pout:List ByteArray) (r:(List ByteArray)),m pt pout=some r→dG Tryz.prog 176 [(aB.pv pt),aS pout 0] ⟨[],[⟨9,1,aX (pout),false⟩]⟩ (fun q t=>q=(aS r 0:PV)∧t=⟨[],[⟨9,1,aX (r),false⟩]⟩)
def ZY(fu:Nat)(r_sl4Vars:p8)(pt:aB)(pout:List ByteArray):Option (((List ByteArray))⊕((List ByteArray))):=
 sw (decide ((pt.gKind:Int)=1))
 (bd (lO fu pout pt.gName) (fun x5=>
 sw (!(x5))
 (gd ((pout).length+(([pt.gName]:List ByteArray)).length≤68719476736)
 (some (.inr (pout++([pt.gName]:List ByteArray)))))
 (some (.inr pout))))
 (some (.inr pout))
def Y1(fu:Nat)(r_sl4Vars:p8)(pt:aB)(pout v2:List ByteArray):Nat→((List ByteArray))→Option (LR ((List ByteArray)) ((List ByteArray))):=
 fun i8 v10=>bd (r_sl4Vars (a5 pt.gArgs i8) v10) (fun x14=>
 some (.next x14))
def XQ(fu:Nat)(r_sl4Vars:p8)(pt:aB)(pout v2:List ByteArray):Option (((List ByteArray))⊕((List ByteArray))):=
 loopN (Y1 fu r_sl4Vars pt pout v2) (pt.gArgs.length-0) 0 v2
def IZ(fu:Nat)(r_sl4Vars:p8)(pt:aB)(pout:List ByteArray):Option ((List ByteArray)):=
 so (ZY fu r_sl4Vars pt pout) (fun v2=>
 so (XQ fu r_sl4Vars pt pout v2) (fun v10=>
 some v10))
theorem SN(fu:Nat)(r_sl4Vars:p8)(h_sl4Vars:BZ r_sl4Vars):BZ (IZ fu r_sl4Vars):=by
 intro pt pout r H
 have H:=fC H
 refine qI Tryz.func176 (fun C hC=>?_)
 refine qS (qR (q1 (lA (fB pt)) (q1 aF (qN (qS ?_)))))
 refine oM (σ:=(List ByteArray)) (fun v2=>⟨[(1,aS v2 0),(2,.ptr 0 0),(4,.nil)],⟨[some ⟨35,fB pt⟩],[⟨9,1,aX (v2),false⟩]⟩⟩) (f9 H) (fun H=>?_) ?_
 ·refine qS (qR (q1 (aZ oQ) (q1 (bB iG) (q1 dP (q1 aF ?_)))))
  refine dY 9 H (fun g3 H=>?_) fun g3 H=>?_
  ·refine qg g3 aF (qg g3 (aZ l6) (qg g3 (bB e8) (bO H fun x5 z4 H=>(qg g3 (bJ Tryz.func125 (lR fu pout pt.gName _ z4)) (qg g3 gS (q1 (bS g3) (qN ?_)))))))
   refine a9 H (fun h6 H=>?_) (fun h6 H=>?_)
   ·refine qR (q1 aF (q1 (aZ l6) (q1 (bB e8) (q1 (iI ([pt.gName]:List ByteArray) bW jZ) (dK H fun z7 H=>(q1 (lC z7 bW oT) (q1 aF (qN ?_))))))))
    exact dH ⟨_,(aY H:),bZ⟩
   refine aO.skip ?_;exact dH ⟨_,(aY H:),bZ⟩
  iterate 5 refine qk g3 ?_
  refine q1 (b4 g3) (qN (kL rfl (aO.skip ?_)))
  exact dH ⟨_,(aY H:),bZ⟩
 rintro v2 H
 iterate 2 refine qS ?_
 refine qR (q1 aF (qN ?_))
 refine aO.fact (cB 0 2 rfl rfl rfl (aB.trs_len _)) (fun hl11=>?_)
 refine cG (σ:=(List ByteArray)) (fun i8 v10=>⟨[(1,aS v10 0),(2,.ptr 0 0),(4,.nil),(5,pN i8)],⟨[some ⟨35,fB pt⟩],[⟨9,1,aX (v10),false⟩]⟩⟩) (fun v10=>⟨[(1,aS v10 0),(4,.nil)],⟨[some ⟨35,fB pt⟩],[⟨9,1,aX (v10),false⟩]⟩⟩) (f9 H) ?_ ?_
 ·rintro i8 v10 H
  iterate 2 refine qS ?_
  refine qR (q1 aF (q1 (aZ iT) (q1 (bB nY) (q1 (eM fX (aB.trs_len _)) (q1 gU (qN ?_))))))
  refine eJ H (fun h12 h12l H=>?_) (fun h12 H=>?_)
  ·have h12n:=a7 h12
   refine aO.skip (qS (aO.block (qR (q1 (aZ iT) (q1 (bB nY) (q1 aF (q1 (j0 h12n fX) (q1 (j7 (aB.cs (a5 pt.gArgs i8)) dL) (q1 aF (bO H fun x14 z13 H=>(q1 (gF [] [0] Tryz.func176 (h_sl4Vars (a5 pt.gArgs i8) v10 _ z13)) (q1 aF (qN ?_)))))))))))))
   refine qR (q1 aF (q1 (aW.addI rfl rfl rfl rfl (c:=((i8+1:Nat):Int)) (by omega) (by omega)) (q1 aF (qN ?_))))
   exact jA h12l ⟨_,(aY H:),bZ⟩
  refine aO.exit ?_;exact k7 ⟨_,H,bZ⟩
 rintro v10 H
 refine qS (qR ?_)
 iterate 2 refine q1 aF ?_
 refine qN (aO.ret ?_)
 obtain rfl:_=r:=(aY H:)
 exact bN
def m5:Nat→aB→(List ByteArray)→Option ((List ByteArray))
 |0,_,_=>none
 |fu+1,pt,pout=>IZ fu (m5 fu) pt pout
theorem V6(fu:Nat):BZ (m5 fu):=by
 induction fu with
 |zero=>exact(fun pt pout r H=>by simp only [m5] at H;cases H)
 |succ fu ih=>exact(fun pt pout r H=>by simp only [m5] at H;exact SN fu (m5 fu) ih pt pout r H)
theorem YA(fu:Nat):BZ (m5 fu):=(V6 fu)
def I6(m:aB→Option ((List ByteArray))):Prop:= ∀(pt:aB) (r:(List ByteArray)),m pt=some r→cH Tryz.prog 138 [(aB.pv pt)] (rS r:PV)
def sC(fu:Nat)(pt:aB):Option ((List ByteArray)):=
 bd (m5 fu pt ([])) (fun x2=>
 some x2)
theorem GD(fu:Nat):I6 (sC fu):=by
 intro pt r H
 have H:=fC H
 refine qI Tryz.func138 (fun C hC=>?_)
 refine qS (qR (q1 (lA (fB pt)) (q1 aF (qN (qS (qR (q1 (c6 [pI pt.gKind,pS pt.gName,a6 pt.gArgs] dL) (q1 (rC ([]:List ByteArray) bW jZ) (bO H fun x2 z1 H=>(q1 (gF [] [0] Tryz.func176 (YA fu pt ([]) _ z1)) (q1 aF (qN (aO.ret ?_)))))))))))))
 obtain rfl:_=r:=(aY H:)
 exact bN
abbrev hZ:=aB→Option Bool
def nT(m:hZ):Prop:= ∀(pt:aB) (r:Bool),m pt=some r→cH Tryz.prog 139 [(aB.pv pt)] (pB r:PV)
def GO(fu:Nat)(r_sHasProjection:hZ)(pt:aB):Nat→Unit→Option (LR Unit Bool):=
 fun i1 _=>bd (r_sHasProjection (a5 pt.gArgs i1)) (fun x5=>
 sw (x5)
 (some (.ret true))
 (some (.next ())))
def FW(fu:Nat)(r_sHasProjection:hZ)(pt:aB):Option (Bool⊕Unit):=
 loopN (GO fu r_sHasProjection pt) (pt.gArgs.length-0) 0 ()
def sA(fu:Nat)(r_sHasProjection:hZ)(pt:aB):Option Bool:=
 so (FW fu r_sHasProjection pt) (fun _=>
 some (decide ((pt.gKind:Int)=3)))
theorem CN(fu:Nat)(r_sHasProjection:hZ)(h_sHasProjection:nT r_sHasProjection):nT (sA fu r_sHasProjection):=by
 intro pt r H
 have H:=fC H
 refine qI Tryz.func139 (fun C hC=>?_)
 refine qS (qR (q1 (lA (fB pt)) (q1 aF (qN ?_))))
 iterate 2 refine qS ?_
 refine qR (q1 aF (qN ?_))
 refine aO.fact (cB 0 2 rfl rfl rfl (aB.trs_len _)) (fun hl2=>?_)
 refine cG (σ:=Unit) (fun i1 _=>⟨[(1,.ptr 0 0),(2,pB false),(3,pN i1)],⟨[some ⟨35,fB pt⟩],[]⟩⟩) (fun _=>⟨[(1,.ptr 0 0),(2,pB false)],⟨[some ⟨35,fB pt⟩],[]⟩⟩) (f9 H) ?_ ?_
 ·rintro i1 ⟨⟩ H
  iterate 2 refine qS ?_
  refine qR (q1 aF (q1 (aZ iT) (q1 (bB nY) (q1 (eM fX (aB.trs_len _)) (q1 gU (qN ?_))))))
  refine eJ H (fun h3 h3l H=>?_) (fun h3 H=>?_)
  ·have h3n:=a7 h3
   refine aO.skip (qS (aO.block (qS (qR (q1 (aZ iT) (q1 (bB nY) (q1 aF (q1 (j0 h3n fX) (q1 (j7 (aB.cs (a5 pt.gArgs i1)) dL) (bO H fun x5 z4 H=>(q1 (bJ Tryz.func139 (h_sHasProjection (a5 pt.gArgs i1) _ z4)) (qN ?_))))))))))))
   refine a9 H (fun h6 H=>?_) (fun h6 H=>?_)
   ·refine qS (qR (q1 aF (qN (aO.ret ?_))))
    obtain rfl:_=r:=(pY (aY H):)
    exact bN
   refine aO.skip (qR (q1 aF (q1 (aW.addI rfl rfl rfl rfl (c:=((i1+1:Nat):Int)) (by omega) (by omega)) (q1 aF (qN ?_)))))
   exact jA h3l ⟨_,(aY H:),bZ⟩
  refine aO.exit ?_;exact k7 ⟨_,H,bZ⟩
 rintro⟨⟩ H
 refine qS (qR (q1 (aZ oQ) (q1 (bB iG) (q1 dP (q1 aF (qN (aO.ret ?_)))))))
 obtain rfl:_=r:=(aY H:)
 exact bN
def eH:Nat→aB→Option Bool
 |0,_=>none
 |fu+1,pt=>sA fu (eH fu) pt
theorem FO(fu:Nat):nT (eH fu):=by
 induction fu with
 |zero=>exact(fun pt r H=>by simp only [eH] at H;cases H)
 |succ fu ih=>exact(fun pt r H=>by simp only [eH] at H;exact CN fu (eH fu) ih pt r H)
theorem vS(fu:Nat):nT (eH fu):=(FO fu)
abbrev eL:=aB→ByteArray→Option Int
def kO(m:eL):Prop:= ∀(pt:aB) (pv:ByteArray) (r:Int),m pt pv=some r→cH Tryz.prog 211 [(aB.pv pt),pS pv] (pI r:PV)
def zN(fu:Nat)(r_sCountTypeVariable:eL)(pt:aB)(pv:ByteArray):Option (Int⊕Int):=
 sw (decide ((pt.gKind:Int)=1))
 (sw (decide (pt.gName=pv))
 (some (.inr 1))
 (some (.inr 0)))
 (some (.inr 0))
def zS(fu:Nat)(r_sCountTypeVariable:eL)(pt:aB)(pv:ByteArray)(v1:Int):Nat→Int→Option (LR Int Int):=
 fun i4 v5=>bd (r_sCountTypeVariable (a5 pt.gArgs i4) pv) (fun x9=>
 some (.next (aQ (v5+x9))))
def zT(fu:Nat)(r_sCountTypeVariable:eL)(pt:aB)(pv:ByteArray)(v1:Int):Option (Int⊕Int):=
 loopN (zS fu r_sCountTypeVariable pt pv v1) (pt.gArgs.length-0) 0 v1
def nK(fu:Nat)(r_sCountTypeVariable:eL)(pt:aB)(pv:ByteArray):Option Int:=
 so (zN fu r_sCountTypeVariable pt pv) (fun v1=>
 so (zT fu r_sCountTypeVariable pt pv v1) (fun v5=>
 some v5))
theorem w9(fu:Nat)(r_sCountTypeVariable:eL)(h_sCountTypeVariable:kO r_sCountTypeVariable):kO (nK fu r_sCountTypeVariable):=by
 intro pt pv r H
 have H:=fC H
 refine qI Tryz.func211 (fun C hC=>?_)
 refine qS (qR (q1 (lA (fB pt)) (q1 aF (qN (qS (qR (q1 aF (qN (qS ?_)))))))))
 refine oM (σ:=Int) (fun v1=>⟨[(1,pS pv),(2,.ptr 0 0),(4,pI 0),(5,pI v1)],⟨[some ⟨35,fB pt⟩],[]⟩⟩) (f9 H) (fun H=>?_) ?_
 ·refine qS (qR (q1 (aZ oQ) (q1 (bB iG) (q1 dP (q1 aF ?_)))))
  refine dY 10 H (fun g2 H=>?_) fun g2 H=>?_
  ·refine qg g2 (aZ l6) (qg g2 (bB e8) (qg g2 aF (qg g2 EC (q1 (bS g2) (qN ?_)))))
   refine a9 H (fun h3 H=>?_) (fun h3 H=>?_)
   ·refine qR (q1 aF (qN ?_))
    exact dH ⟨_,(aY H:),bZ⟩
   refine aO.skip ?_;exact dH ⟨_,(aY H:),bZ⟩
  iterate 4 refine qk g2 ?_
  refine q1 (b4 g2) (qN (kL rfl (aO.skip ?_)))
  exact dH ⟨_,(aY H:),bZ⟩
 rintro v1 H
 iterate 2 refine qS ?_
 refine qR (q1 aF (qN ?_))
 refine aO.fact (cB 0 2 rfl rfl rfl (aB.trs_len _)) (fun hl6=>?_)
 refine cG (σ:=Int) (fun i4 v5=>⟨[(1,pS pv),(2,.ptr 0 0),(4,pI 0),(5,pI v5),(6,pN i4)],⟨[some ⟨35,fB pt⟩],[]⟩⟩) (fun v5=>⟨[(4,pI 0),(5,pI v5)],⟨[some ⟨35,fB pt⟩],[]⟩⟩) (f9 H) ?_ ?_
 ·rintro i4 v5 H
  iterate 2 refine qS ?_
  refine qR (q1 aF (q1 (aZ iT) (q1 (bB nY) (q1 (eM fX (aB.trs_len _)) (q1 gU (qN ?_))))))
  refine eJ H (fun h7 h7l H=>?_) (fun h7 H=>?_)
  ·have h7n:=a7 h7
   refine aO.skip (qS (aO.block (qR (q1 aF (q1 (aZ iT) (q1 (bB nY) (q1 aF (q1 (j0 h7n fX) (q1 (j7 (aB.cs (a5 pt.gArgs i4)) dL) (q1 aF (bO H fun x9 z8 H=>(q1 (bJ Tryz.func211 (h_sCountTypeVariable (a5 pt.gArgs i4) pv _ z8)) (q1 LQ ?_)))))))))))))
   refine q1 aF (qN (qR (q1 aF (q1 (aW.addI rfl rfl rfl rfl (c:=((i4+1:Nat):Int)) (by omega) (by omega)) (q1 aF (qN ?_))))))
   exact jA h7l ⟨_,(aY H:),bZ⟩
  refine aO.exit ?_;exact k7 ⟨_,H,bZ⟩
 rintro v5 H
 refine qS (qR ?_)
 iterate 2 refine q1 aF ?_
 refine qN (aO.ret ?_)
 obtain rfl:_=r:=(aY H:)
 exact bN
def c8:Nat→aB→ByteArray→Option Int
 |0,_,_=>none
 |fu+1,pt,pv=>nK fu (c8 fu) pt pv
theorem yM(fu:Nat):kO (c8 fu):=by
 induction fu with
 |zero=>exact(fun pt pv r H=>by simp only [c8] at H;cases H)
 |succ fu ih=>exact(fun pt pv r H=>by simp only [c8] at H;exact w9 fu (c8 fu) ih pt pv r H)
theorem zO(fu:Nat):kO (c8 fu):=(yM fu)
def WA(m:ByteArray→aB→Option Bool):Prop:= ∀(pv:ByteArray) (pt:aB) (r:Bool),m pv pt=some r→cH Tryz.prog 200 [pS pv,(aB.pv pt)] (pB r:PV)
def BF(fu:Nat)(pv:ByteArray)(pt:aB):Option Bool:=
 bd (c8 fu pt pv) (fun x2=>
 some (decide ((x2:Int)>0)))
theorem SA(fu:Nat):WA (BF fu):=by
 intro pv pt r H
 have H:=fC H
 refine qI Tryz.func200 (fun C hC=>?_)
 refine qS (qR (q1 (lA (fB pt)) (q1 aF (qN (qS (qR (q1 (c6 [pI pt.gKind,pS pt.gName,a6 pt.gArgs] dL) (q1 aF (bO H fun x2 z1 H=>(q1 (bJ Tryz.func211 (zO fu pt pv _ z1)) (q1 HB (q1 aF (qN ?_)))))))))))))
 refine aO.ret ?_
 obtain rfl:_=r:=(aY H:)
 exact bN
end
end Go.Proofs.YtpioomclpaiomaaGreat.W
