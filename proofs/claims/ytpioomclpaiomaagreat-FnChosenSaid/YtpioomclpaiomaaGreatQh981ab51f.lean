/- Words, rules and walks of several kinds, laid together: Pg, Ph, PgD, PgS, PmQ, MaP1, MaP2. No conditions but those that each theorem states. -/
import Derived.Test.YtpioomclpaiomaaGreatQh8fabc4e5
import Derived.Test.YtpioomclpaiomaaGreatQh54773eaf
import Derived.Laws.BytesArg
set_option linter.unusedSimpArgs false
set_option linter.unusedVariables false
namespace Go.Proofs.YtpioomclpaiomaaGreat
set_option linter.unusedSimpArgs false
set_option linter.unusedVariables false
open Go.RowKit Go.WalkArith Go.IntWalk Go.WideShapes
abbrev pI(x:Int):PV:= .t (.leaf (.int .i64 x))
abbrev pN(x:Nat):PV:= .t (.leaf (.int .i64 (x:Int)))
abbrev pU(x:UInt8):PV:= .t (.leaf (.int .u8 (x.toNat:Int)))
abbrev pS(x:ByteArray):PV:= .t (.leaf (.string x))
abbrev pB(x:Bool):PV:= .t (.leaf (.bool x))
abbrev rS(l:List ByteArray):PV:= .t (.row 1 (aX l))
abbrev rU(l:List UInt8):PV:= .t (.row 1 (cW l))
abbrev aS(l:List ByteArray)(r:Nat):PV:= .acc 1 (aX l) r
abbrev dC(d:DS):List PV:= [.t (.row 1 (cW d.code)),.t (.leaf (.int .i64 (d.p:Int))),.t (.leaf (.int .i64 d.h))]
class TC (α:Type) [Inhabited α] where
 cs:α→List Tr
 trs:List α→List (List Tr)
 sz:Nat
 at_: ∀ {l:List α} {k:Nat},k<l.length→(trs l)[k]?=some (cs (bB l k))
 len: ∀l:List α,(trs l).length=l.length
 map: ∀l:List α,trs l=l.map cs
 csz: ∀a,(cs a).length=sz
instance:TC ByteArray:=⟨fun x=> [.leaf (.string x)],aX,1,akB,bI,fun _=>rfl,fun _=>rfl⟩
instance:TC Int:=⟨fun x=> [.leaf (.int .i64 x)],tF,1,ai2,gZ,fun _=>rfl,fun _=>rfl⟩
instance:TC UInt8:=⟨fun x=> [.leaf (.int .u8 (x.toNat:Int))],cW,1,aeH,hQ,fun _=>rfl,fun _=>rfl⟩
section
variable {α:Type} [Inhabited α] [TC α]
theorem TC.all(l:List α): ∀e∈TC.trs l,e.length=TC.sz α:=fun e he=>by
 rw [TC.map] at he
 obtain⟨x,_,rfl⟩:=List.mem_map.1 he
 exact TC.csz x
theorem TC.app(a b:List α):TC.trs a++TC.trs b=TC.trs (a++b):=by rw [TC.map,TC.map,TC.map,List.map_append]
end
def Hd{β:Type}(m:Option β)(K:β→Prop):Prop:= ∃v,m=some v∧K v
section
variable {α β σ:Type} {K:β→Prop} {r:β}
theorem fF{m:Option β}(h:m=some r):Hd m (fun v=>v=r):=⟨r,h,rfl⟩
theorem gdI{p:Prop}{x:Option β}(h:Hd (gd p x) K):p∧Hd x K:=by
 obtain⟨v,h1,h2⟩:=h
 by_cases hp:p
 ·rw [s5 hp rfl] at h1;exact⟨hp,v,h1,h2⟩
 ·rw [gdF hp] at h1;cases h1
theorem bdI{o:Option α}{f:α→Option β}(h:Hd (bd o f) K): ∃a,o=some a∧Hd (f a) K:=by
 obtain⟨v,h1,h2⟩:=h
 cases o with
 |none=>cases h1
 |some a=>exact⟨a,rfl,v,h1,h2⟩
theorem ltI{x:α}{f:α→Option β}(h:Hd (lt x f) K): ∃y,y=x∧Hd (f y) K:=⟨x,rfl,h⟩
theorem c9{G p:Prop}{x:Option β}(h:Hd (gd p x) K)(k:p→Hd x K→G):G:=k (gdI h).1 (gdI h).2
theorem bU{G:Prop}{o:Option α}{f:α→Option β}(h:Hd (bd o f) K)(k: ∀a,o=some a→Hd (f a) K→G):G:=by
 obtain⟨a,h1,h2⟩:=bdI h
 exact k a h1 h2
theorem fQ{G:Prop}{A B:Type}{o:Option (A×B)}{f:A×B→Option β}(h:Hd (bd o f) K)(k: ∀a b,o=some (a,b)→Hd (f (a,b)) K→G):G:=bU h fun _=>k _ _
theorem aiO{G:Prop}{A B C:Type}{o:Option (A×B×C)}{f:A×B×C→Option β}(h:Hd (bd o f) K)(k: ∀a b c,o=some (a,b,c)→Hd (f (a,b,c)) K→G):G:=bU h fun _=>k _ _ _
theorem ap5{G:Prop}{A B C D:Type}{o:Option (A×B×C×D)}{f:A×B×C×D→Option β}(h:Hd (bd o f) K)(k: ∀a b c d,o=some (a,b,c,d)→Hd (f (a,b,c,d)) K→G):G:=bU h fun _=>k _ _ _ _
theorem gU{G:Prop}{x:α}{f:α→Option β}(h:Hd (lt x f) K)(k: ∀y,y=x→Hd (f y) K→G):G:=k x rfl h
theorem qZ{b:Bool}{x y:Option β}(h:Hd (sw b x y) K)(e:b=true):Hd x K:=by subst e;exact h
theorem qY{b:Bool}{x y:Option β}(h:Hd (sw b x y) K)(e:b=false):Hd y K:=by subst e;exact h
theorem aZ{v:β}(h:Hd (some v) K):K v:=by
 obtain⟨u,h1,h2⟩:=h
 cases h1
 exact h2
def SK(f:σ→Option β)(K:β→Prop):β⊕σ→Prop
 | .inl x=>K x
 | .inr s=>Hd (f s) K
theorem gW{m:Option (β⊕σ)}{f:σ→Option β}(h:Hd (so m f) K):Hd m (SK f K):=by
 obtain⟨v,h1,h2⟩:=h
 cases m with
 |none=>cases h1
 |some a=>
  refine⟨a,rfl,?_⟩
  cases a with
  |inl x=>cases h1;exact h2
  |inr s=>exact⟨v,h1,h2⟩
def LK(f:Nat→σ→Option (LR σ β))(n i:Nat)(K:β⊕σ→Prop):LR σ β→Prop
 | .next s=>Hd (loopN f (n-(i+1)) (i+1) s) K
 | .brk s=>K (.inr s)
 | .ret x=>K (.inl x)
def LW(f:σ→Option (LR σ β))(k:Nat)(K:β⊕σ→Prop):LR σ β→Prop
 | .next s=>Hd (loopW f k s) K
 | .brk s=>K (.inr s)
 | .ret x=>K (.inl x)
theorem F3{f:σ→Option β}{x:β}(h:SK f K (.inl x)):K x:=h
theorem rK{f:Nat→σ→Option (LR σ β)}{n i:Nat}{K:β⊕σ→Prop}{x:β}(h:LK f n i K (.ret x)):K (.inl x):=h
theorem lwR{f:σ→Option (LR σ β)}{k:Nat}{K:β⊕σ→Prop}{x:β}(h:LW f k K (.ret x)):K (.inl x):=h
theorem lnT{f:Nat→σ→Option (LR σ β)}{n i:Nat}{s:σ}{K:β⊕σ→Prop}(hl:i<n)(h:Hd (loopN f (n-i) i s) K):Hd (f i s) (LK f n i K):=by
 obtain⟨v,h1,h2⟩:=h
 rw [show n-i=(n-(i+1))+1 by omega,loopN] at h1
 cases hf:f i s with
 |none=>rw [hf] at h1;cases h1
 |some x=>
  rw [hf] at h1
  refine⟨x,rfl,?_⟩
  cases x with
  |next s'=>exact⟨v,h1,h2⟩
  |brk s'=>cases h1;exact h2
  |ret x=>cases h1;exact h2
theorem lnE{f:Nat→σ→Option (LR σ β)}{n i:Nat}{s:σ}{K:β⊕σ→Prop}(hl:n≤i)(h:Hd (loopN f (n-i) i s) K):K (.inr s):=by
 obtain⟨v,h1,h2⟩:=h
 rw [show n-i=0 by omega,loopN] at h1
 cases h1
 exact h2
theorem lwT{f:σ→Option (LR σ β)}{k:Nat}{s:σ}{K:β⊕σ→Prop}(h:Hd (loopW f k s) K): ∃k',k=k'+1∧Hd (f s) (LW f k' K):=by
 obtain⟨v,h1,h2⟩:=h
 cases k with
 |zero=>cases h1
 |succ k=>
  rw [loopW] at h1
  refine⟨k,rfl,?_⟩
  cases hf:f s with
  |none=>rw [hf] at h1;cases h1
  |some x=>
   rw [hf] at h1
   refine⟨x,rfl,?_⟩
   cases x with
   |next s'=>exact⟨v,h1,h2⟩
   |brk s'=>cases h1;exact h2
   |ret x=>cases h1;exact h2
end
section
variable {P:Program} {C:q9} {n:Nat} {s s':AS}
theorem ahP{st':dK}(h:mI C.st st':=by first|exact BF (by assumption)|(refine eX (by assumption) ?_ ?_;(first|exact an3|exact lD rfl|exact an4 rfl|exact an5 rfl);exact Nat.le_of_ble_eq_true rfl)):mI C.st st':=h
theorem ah2{st st':dK}(hb:y1 st' st.boxes st'.boxes:=by repeat' (first|exact trivial|refine⟨⟨rfl,lG,rfl⟩,?_⟩))(hr:st.rows.take st'.rows.length=st'.rows:=by first|rfl|simp):oF st st':=oF.mk' hb hr
theorem b9(hst:oF s.st s'.st:=by exact ah2)(hp:mI C.st s'.st:=by exact ahP)(he:V4 s s'.st s'.env:=by repeat' (first|exact trivial|refine⟨⟨_,rfl,lG,rfl⟩,?_⟩)):Wk C n s s':=Wk.mk hst hp he
end
theorem DX{P:Program}{f:FuncId}{args:List PV}{pre:dK}{q:PV}{y d:DS}{T:TypeId}(hy:y=d)(h:cP P f args pre (fun r t=>r=q∧t=DS.box T d)):cP P f args pre (fun r t=>r=q∧t=DS.box T y):=by subst hy;exact h
theorem KO{P:Program}{f:FuncId}{args:List PV}{pre:dK}{x z:ByteArray}{y d:DS}{T:TypeId}(hy:y=d)(hx:x=z)(h:cP P f args pre (fun r t=>r=pS z∧t=DS.box T d)):cP P f args pre (fun r t=>r=pS x∧t=DS.box T y):=by subst hy hx;exact h
def an6{β σ:Type}(C:q9)(n:Nat)(I:σ→AS)(K:β⊕σ→Prop)(Q:Exit→AS→Prop):Exit→AS→Prop
 | .normal,s=> ∃v,K (.inr v)∧Wk C n s (I v)
 |e,s=>Q e s
def lpQ{β σ:Type}(C:q9)(n:Nat)(id:Nat)(I:Nat→σ→AS)(O:σ→AS)(f:Nat→σ→Option (LR σ β))(m i:Nat)(K:β⊕σ→Prop)(Q:Exit→AS→Prop):Exit→AS→Prop
 | .normal,s=>i<m∧ ∃v,Hd (loopN f (m-(i+1)) (i+1) v) K∧Wk C n s (I (i+1) v)
 | .exit j,s=>if j=id then ∃v,K (.inr v)∧Wk C n s (O v) else Q (.exit j) s
 |e,s=>Q e s
def lwQ{β σ:Type}(C:q9)(n:Nat)(id:Nat)(I:σ→AS)(O:σ→AS)(f:σ→Option (LR σ β))(k:Nat)(K:β⊕σ→Prop)(Q:Exit→AS→Prop):Exit→AS→Prop
 | .normal,s=> ∃v,Hd (loopW f k v) K∧Wk C n s (I v)
 | .exit j,s=>if j=id then ∃v,K (.inr v)∧Wk C n s (O v) else Q (.exit j) s
 |e,s=>Q e s
section
variable {P:Program} {C:q9} {n:Nat} {s:AS} {Q:Exit→AS→Prop} {β σ:Type}
theorem aoH{I:σ→AS}{K:β⊕σ→Prop}(hq:QC C n Q):QC C n (an6 C n I K Q):=fun e s s' h k=>by
 cases e with
 |normal=>obtain⟨v,h1,h2⟩:=k;exact⟨v,h1,h.trans h2⟩
 |_=>exact hq _ s s' h k
theorem apF{id:Nat}{I:Nat→σ→AS}{O:σ→AS}{f:Nat→σ→Option (LR σ β)}{m i:Nat}{K:β⊕σ→Prop}(hq:QC C n Q):QC C n (lpQ C n id I O f m i K Q):=fun e s s' h k=>by
 cases e with
 |normal=>obtain⟨h0,v,h1,h2⟩:=k;exact⟨h0,v,h1,h.trans h2⟩
 |exit j=>
  simp only [lpQ] at k ⊢
  split
  ·rename_i hj;rw [if_pos hj] at k;obtain⟨v,h1,h2⟩:=k;exact⟨v,h1,h.trans h2⟩
  ·rename_i hj;rw [if_neg hj] at k;exact hq _ s s' h k
 |_=>exact hq _ s s' h k
theorem apG{id:Nat}{I:σ→AS}{O:σ→AS}{f:σ→Option (LR σ β)}{m:Nat}{K:β⊕σ→Prop}(hq:QC C n Q):QC C n (lwQ C n id I O f m K Q):=fun e s s' h k=>by
 cases e with
 |normal=>obtain⟨v,h1,h2⟩:=k;exact⟨v,h1,h.trans h2⟩
 |exit j=>
  simp only [lwQ] at k ⊢
  split
  ·rename_i hj;rw [if_pos hj] at k;obtain⟨v,h1,h2⟩:=k;exact⟨v,h1,h.trans h2⟩
  ·rename_i hj;rw [if_neg hj] at k;exact hq _ s s' h k
 |_=>exact hq _ s s' h k
theorem qcA(h:QC C n Q:=by repeat' (first|exact aoI|exact ao8|apply aoH|apply apF|apply apG|apply aoJ|apply amT)):QC C n Q:=h
theorem qF{c:Code}{m:Option (β⊕σ)}{K:β⊕σ→Prop}(I:σ→AS)(H:Hd m K)(h:Hd m K→aO P C n c (an6 C n I K Q) s)(k: ∀v,K (.inr v)→Q .normal (I v))(hq:QC C n Q:=by exact qcA):aO P C n c Q s:=
 aO.mono (h H) fun e s' hc=>by
  cases e with
  |normal=>
   obtain⟨v,h1,h2⟩:=hc
   exact hq _ _ _ h2 (k v h1)
  |_=>exact hc
theorem eC{I:σ→AS}{K:β⊕σ→Prop}{e:Exit}(h: ∃v,K (.inr v)∧Wk C n s (I v))(he:e= .normal:=by exact rfl):an6 C n I K Q e s:=by subst he;exact h
theorem cM{c:Code}{id:Nat}{f:Nat→σ→Option (LR σ β)}{m i0:Nat}{v0:σ}{K:β⊕σ→Prop}(I:Nat→σ→AS)(O:σ→AS)(H:Hd (loopN f (m-i0) i0 v0) K)
 (round: ∀i v,Hd (loopN f (m-i) i v) K→aO P C n c (lpQ C n id I O f m i K Q) (I i v)) (k: ∀v,K (.inr v)→Q .normal (O v)) (h0:Wk C n s (I i0 v0):=by exact b9) (hq:QC C n Q:=by exact qcA):aO P C n (.block id (.loop c)) Q s:=by
 refine aO.block ?_;refine aO.loopJ (ι:=Nat×σ) (fun x=>Hd (loopN f (m-x.1) x.1 x.2) K) (fun x=>I x.1 x.2) (fun x=>m-x.1) (i0,v0) H h0 ?_;rintro⟨i,v⟩ hj
 refine aO.mono (round i v hj) fun e s' h=>?_
 cases e with
 |normal=>
  obtain⟨h1,v',h2,h3⟩:=h
  exact⟨(i+1,v'),h2,h3,by show m-(i+1)<m-i;omega⟩
 |exit j=>
  simp only [lpQ] at h
  show vG id Q (.exit j) s'
  simp only [vG]
  split
  ·rename_i hj;rw [if_pos hj] at h;obtain⟨v',h1,h2⟩:=h;exact hq _ _ _ h2 (k v' h1)
  ·rename_i hj;rw [if_neg hj] at h;exact h
 |_=>exact h
theorem WJ{c:Code}{id:Nat}{f:σ→Option (LR σ β)}{k0:Nat}{v0:σ}{K:β⊕σ→Prop}(I:σ→AS)(O:σ→AS)(H:Hd (loopW f k0 v0) K)
 (round: ∀k v,Hd (f v) (LW f k K)→aO P C n c (lwQ C n id I O f k K Q) (I v)) (k: ∀v,K (.inr v)→Q .normal (O v)) (h0:Wk C n s (I v0):=by exact b9) (hq:QC C n Q:=by exact qcA):aO P C n (.block id (.loop c)) Q s:=by
 refine aO.block ?_;refine aO.loopJ (ι:=Nat×σ) (fun x=>Hd (loopW f x.1 x.2) K) (fun x=>I x.2) (fun x=>x.1) (k0,v0) H h0 ?_;rintro⟨i,v⟩ hj
 obtain⟨i',rfl,hj'⟩:=lwT (f:=f) (k:=i) (s:=v) hj
 refine aO.mono (round i' v hj') fun e s' h=>?_
 cases e with
 |normal=>
  obtain⟨v',h2,h3⟩:=h
  exact⟨(i',v'),h2,h3,by show i'<i'+1;omega⟩
 |exit j=>
  simp only [lwQ] at h
  show vG id Q (.exit j) s'
  simp only [vG]
  split
  ·rename_i hj;rw [if_pos hj] at h;obtain⟨v',h1,h2⟩:=h;exact hq _ _ _ h2 (k v' h1)
  ·rename_i hj;rw [if_neg hj] at h;exact h
 |_=>exact h
theorem j8{id:Nat}{I:Nat→σ→AS}{O:σ→AS}{f:Nat→σ→Option (LR σ β)}{m i:Nat}{K:β⊕σ→Prop}{e:Exit}(hi:i<m)(h: ∃v,LK f m i K (.next v)∧Wk C n s (I (i+1) v))(he:e= .normal:=by exact rfl):lpQ C n id I O f m i K Q e s:=by subst he;exact⟨hi,h⟩
theorem lP{id:Nat}{I:Nat→σ→AS}{O:σ→AS}{f:Nat→σ→Option (LR σ β)}{m i:Nat}{K:β⊕σ→Prop}{e:Exit}(h: ∃v,K (.inr v)∧Wk C n s (O v))(he:e= .exit id:=by exact rfl):lpQ C n id I O f m i K Q e s:=by
 subst he
 simp only [lpQ,if_pos]
 exact h
theorem lpB{id:Nat}{I:Nat→σ→AS}{O:σ→AS}{f:Nat→σ→Option (LR σ β)}{m i:Nat}{K:β⊕σ→Prop}{e:Exit}(h: ∃v,LK f m i K (.brk v)∧Wk C n s (O v))(he:e= .exit id:=by exact rfl):lpQ C n id I O f m i K Q e s:=lP h he
theorem lwN{id:Nat}{I:σ→AS}{O:σ→AS}{f:σ→Option (LR σ β)}{k:Nat}{K:β⊕σ→Prop}{e:Exit}(h: ∃v,LW f k K (.next v)∧Wk C n s (I v))(he:e= .normal:=by exact rfl):lwQ C n id I O f k K Q e s:=by subst he;exact h
theorem lwB{id:Nat}{I:σ→AS}{O:σ→AS}{f:σ→Option (LR σ β)}{k:Nat}{K:β⊕σ→Prop}{e:Exit}(h: ∃v,LW f k K (.brk v)∧Wk C n s (O v))(he:e= .exit id:=by exact rfl):lwQ C n id I O f k K Q e s:=by
 subst he
 simp only [lwQ,if_pos]
 exact h
theorem eK{β:Type}{K:β→Prop}{x y:Option β}{ops:Array Oper}{l:List Oper}(d:Nat){b:Bool}(H:Hd (sw b x y) K)(h1:b=true→Hd x K→AL P C n ops l Q s)(h0:b=false→Hd y K→AL P C n ops l Q s)(hb:s.lk d=some (.t (.leaf (.bool b))):=by exact rfl):AL P C n ops l Q s:=AL.splitB d hb (fun h=>h1 h (qZ H h)) (fun h=>h0 h (qY H h))
theorem bH{K:β→Prop}{c:Operand}{b:Bool}{x y:Option β}{cx cy:Code}(H:Hd (sw b x y) K)(ht:b=true→Hd x K→aO P C n cx Q s)(hf:b=false→Hd y K→aO P C n cy Q s)(hc:s.ev c=some (.t (.leaf (.bool b))):=by exact rfl):aO P C n (.cond c cx cy) Q s:=
 aO.cond hc (fun h=>ht h (qZ H h)) fun h=>hf h (qY H h)
theorem eM{c:Operand}{b:Bool}{cx cy:Code}(e:b=true)(h:aO P C n cx Q s)(hc:s.ev c=some (.t (.leaf (.bool b))):=by exact rfl):aO P C n (.cond c cx cy) Q s:=aO.cond hc (fun _=>h) fun h=>absurd (e.symm.trans h) (by decide)
theorem kP{c:Operand}{b:Bool}{cx cy:Code}(e:b=false)(h:aO P C n cy Q s)(hc:s.ev c=some (.t (.leaf (.bool b))):=by exact rfl):aO P C n (.cond c cx cy) Q s:=aO.cond hc (fun h=>absurd (e.symm.trans h) (by decide)) fun _=>h
theorem eO{K:β⊕σ→Prop}{f:Nat→σ→Option (LR σ β)}{m i:Nat}{v:σ}{c:Operand}{b:Bool}{cx cy:Code}(H:Hd (loopN f (m-i) i v) K)(ht:b=true→i<m→Hd (f i v) (LK f m i K)→aO P C n cx Q s)(hf:b=false→K (.inr v)→aO P C n cy Q s)(h1:b=true→i<m:=by first|exact yF|exact aeV)(h0:b=false→m≤i:=by first|exact yE|exact aeU)(hc:s.ev c=some (.t (.leaf (.bool b))):=by exact rfl):aO P C n (.cond c cx cy) Q s:=
 aO.cond hc (fun h=>ht h (h1 h) (lnT (h1 h) H)) fun h=>hf h (lnE (h0 h) H)
theorem qI{f:FuncId}{fn:Func}{c:Code}{args:List PV}{pre:dK}{R:PV→dK→Prop}(hf:P.funcs[f]?=some fn)(h: ∀C:q9,C.st=pre→aO P C fn.ntmps c (zU P C fn.ntmps fn R) ⟨I2 0 args,pre⟩)(hb:fn.body=some c:=by exact rfl)(hn:args.length≤fn.ntmps:=by first|decide|(simp;done)|(simp;decide)):cP P f args pre R:=cP.intro hf hb hn h
theorem qS{x y:Code}(h:aO P C n x (adV (aO P C n y Q) Q) s):aO P C n (.seq x y) Q s:=aO.seq h
theorem qR{id:Nat}{l:List Oper}(h:AL P C n l.toArray l Q s):aO P C n (.region id l.toArray false) Q s:=aO.region_lit h
theorem qN{ops:Array Oper}(h:Q .normal s):AL P C n ops [] Q s:=AL.nil h
theorem q1{ops:Array Oper}{o:Oper}{rest:List Oper}{s1:AS}(ho:aV P C n o s s1)(h:AL P C n ops rest Q s1)(hg:o.guard=none:=by exact rfl):AL P C n ops (o::rest) Q s:=AL.cons hg ho h
theorem qg{ops:Array Oper}{o:Oper}{rest:List Oper}{s1:AS}{j d:Nat}{b c:Bool}(hv:b=c)(ho:aV P C n o s s1)(h:AL P C n ops rest Q s1)(hg:o.guard=some (j,c):=by exact rfl)(hj:(ops[j]?).bind (·.dst)=some d:=by exact rfl)(hb:s.lk d=some (.t (.leaf (.bool b))):=by exact rfl):AL P C n ops (o::rest) Q s:=AL.cons_gv hg hj hb hv ho h
theorem qk{ops:Array Oper}{o:Oper}{rest:List Oper}{j d:Nat}{b c e:Bool}(hv:b=e)(h:AL P C n ops rest Q (s.putO o.dst (.tup [])))(hg:o.guard=some (j,c):=by exact rfl)(hj:(ops[j]?).bind (·.dst)=some d:=by exact rfl)(hb:s.lk d=some (.t (.leaf (.bool b))):=by exact rfl)(hne:(e==c)=false:=by exact rfl)(hd:bW o.dst n=true:=by exact rfl):AL P C n ops (o::rest) Q s:=AL.skipP hg hj hb hv hne hd h
theorem IF{ops:Array Oper}{o:Oper}{rest:List Oper}{j d:Nat}{c:Bool}(h:AL P C n ops rest Q (s.putO o.dst (.tup [])))(hg:o.guard=some (j,c):=by exact rfl)(hj:(ops[j]?).bind (·.dst)=some d:=by exact rfl)(hb:s.lk d=some (.tup []):=by exact rfl)(hd:bW o.dst n=true:=by exact rfl):AL P C n ops (o::rest) Q s:=AL.skipU hg hj hb hd h
theorem qe{fn:Func}{R:PV→dK→Prop}{e:Exit}{ps:List PV}{res q:PV}{st':dK}(hR:R q st':=by exact⟨rfl,rfl⟩)(hr:aaX P s fn.results.toList ps)(he:e= .normal∨e= .ret:=by first|exact .inr rfl|exact .inl rfl)(hres:(match ps with| [p]=>p|ps=> .tup ps)=res:=by exact rfl)
 (hst:oF s.st st':=by exact ah2) (hp:mI C.st st':=by exact ahP) (hle:PV.Le res q:=by exact lG) (hk:PV.okIn st' q=true:=by exact rfl):zU P C n fn R e s:=zU.mk he hr hres hst hp hle hk hR
theorem bR{fn:Func}{R:PV→dK→Prop}{e:Exit}{p q:PV}{st':dK}(hR:R q st':=by exact⟨rfl,rfl⟩)(hr:aaX P s fn.results.toList [p]:=by exact⟨rfl,trivial⟩)(he:e= .normal∨e= .ret:=by first|exact .inr rfl|exact .inl rfl)
 (hst:oF s.st st':=by exact ah2) (hp:mI C.st st':=by exact ahP) (hle:PV.Le p q:=by exact lG) (hk:PV.okIn st' q=true:=by exact rfl):zU P C n fn R e s:=zU.mk he hr rfl hst hp hle hk hR
theorem lW{fn:Func}{R:PV→dK→Prop}{e:Exit}{p1 p2 q:PV}{st':dK}(hR:R q st':=by exact⟨rfl,rfl⟩)(hr:aaX P s fn.results.toList [p1,p2]:=by exact⟨rfl,rfl,trivial⟩)(he:e= .normal∨e= .ret:=by first|exact .inr rfl|exact .inl rfl)
 (hst:oF s.st st':=by exact ah2) (hp:mI C.st st':=by exact ahP) (hle:PV.Le (.tup [p1,p2]) q:=by exact lG) (hk:PV.okIn st' q=true:=by exact rfl):zU P C n fn R e s:=zU.mk he hr rfl hst hp hle hk hR
theorem kV(i:Nat){p:PV}{sz:Nat}{es:List (List Tr)}{N:Nat}{c:Code}(hl:es.length=N)(k:N≤9223372036854775807→aO P C n c Q s)(hx:s.lk i=some p:=by exact rfl)(hp:mZ p=some (sz,es):=by exact rfl):aO P C n c Q s:=aO.fact (Q3 i hx hp hl) k
theorem szF(i:Nat){v:ByteArray}{c:Code}(k:v.size≤9223372036854775807→aO P C n c Q s)(hx:s.lk i=some (.t (.leaf (.string v))):=by exact rfl):aO P C n c Q s:=aO.fact (fun m a w h=>by
 obtain⟨u,-,hr⟩:=h.env i _ hx
 have h1:v.size≤maxLen:=(cJ.leaf_eq hr).2
 unfold maxLen at h1
 omega) k
theorem amO(i:Nat){p:PV}{sz:Nat}{es:List (List Tr)}{N:Nat}{ops:Array Oper}{l:List Oper}(hl:es.length=N)(k:N≤9223372036854775807→AL P C n ops l Q s)(hx:s.lk i=some p:=by exact rfl)(hp:mZ p=some (sz,es):=by exact rfl):AL P C n ops l Q s:=AL.fact (Q3 i hx hp hl) k
end
section
variable {P:Program} {C:q9} {n:Nat}
theorem dk{D:dT}{i j lo hi:Nat}{o:Oper}{b c e:Bool}(hv:b=e)(hg:o.guard=some (j,c):=by exact rfl)(hj:D.out j=some (.t (.leaf (.bool b))):=by exact rfl)(hk:D.kind i= .q lo hi:=by exact rfl)(hne:(e==c)=false:=by exact rfl)(ho:D.out i=some (.tup []):=by exact rfl)(hd:bW o.dst n=true:=by exact rfl):D.step P C n i o:=
 .inr ⟨by subst hv;unfold dT.want;rw [hg];dsimp only;rw [hj];dsimp only;rw [hne],⟨_,_,hk⟩,.inr ⟨ho,hd⟩⟩
end
def pk{α:Type}[Inhabited α](l:List α)(j:Nat):α:=l.getD j (l.getLastD default)
instance:Inhabited DS:=⟨⟨[],0,0⟩⟩
instance:Inhabited PV:=⟨.nil⟩
instance:Inhabited dK:=⟨⟨[],[]⟩⟩
instance:Inhabited pO:=⟨⟨0,0,[],false⟩⟩
def evA(s:AS):List Operand→Option (List PV)
 | []=>some []
 |x::xs=>match s.ev x with
  |some p=>match evA s xs with
   |some ps=>some (p::ps)
   |none=>none
  |none=>none
theorem KZ{s:AS}: ∀ {xs:List Operand} {ps:List PV},evA s xs=some ps→xs.map s.ev=ps.map some
 | [],ps,h=>by cases h;rfl
 |x::xs,ps,h=>by
  unfold evA at h
  split at h
  ·rename_i p hp
   split at h
   ·rename_i qs hq
    cases h
    rw [List.map_cons,List.map_cons,hp,KZ hq]
   ·cases h
  ·cases h
section
variable {P:Program} {C:q9} {n:Nat} {s:AS} {o:Oper}
theorem aF{x:Operand}{p:PV}(ho:o.op= .move x∨o.op= .assign x:=by first|exact .inl rfl|exact .inr rfl)(hd:bW o.dst n=true:=by exact rfl)(hx:s.ev x=some p:=by exact rfl):aV P C n o s (s.putO o.dst p):=aV.move ho hd hx
theorem bL{T:TypeId}{x:Operand}{k d z:Nat}{bx:dO}{p:PV}(hT:cH P T=some (false,z))(ho:o.op= .load T x:=by exact rfl)(hd:bW o.dst n=true:=by exact rfl)(hx:s.ev x=some (.ptr k d):=by exact rfl)(hb:s.st.boxes[k]?=some (some bx):=by exact rfl)(hc:bx.cells[d]?=some p:=by exact rfl):aV P C n o s (s.putO o.dst p):=aV.loadPtr1 ho hd hx hb hT hc
theorem cY{T:TypeId}{x:Operand}{k d z:Nat}{bx:dO}(cs:List PV)(hT:cH P T=some (true,z))(ho:o.op= .load T x:=by exact rfl)(hd:bW o.dst n=true:=by exact rfl)(hx:s.ev x=some (.ptr k d):=by exact rfl)(hb:s.st.boxes[k]?=some (some bx):=by exact rfl)(hc:(bx.cells.drop d).take z=cs:=by exact rfl)(hl:cs.length=z:=by exact rfl):aV P C n o s (s.putO o.dst (.agg cs)):=aV.loadPtr ho hd hx hb hT hc hl
theorem p9{T:TypeId}{x:Operand}{z:Nat}{d:Tr}{cs:List Tr}(hT:cH P T=some (false,z))(ho:o.op= .load T x:=by exact rfl)(hd:bW o.dst n=true:=by exact rfl)(hx:s.ev x=some (.eptr cs):=by exact rfl)(hc:cs[0]?=some d:=by exact rfl):aV P C n o s (s.putO o.dst (.t d)):=aV.loadEptr1 ho hd hx hT hc
theorem lB{T:TypeId}{x:Operand}{z:Nat}{cs:List Tr}(ds:List Tr)(hT:cH P T=some (true,z))(ho:o.op= .load T x:=by exact rfl)(hd:bW o.dst n=true:=by exact rfl)(hx:s.ev x=some (.eptr cs):=by exact rfl)(hc:cs.take z=ds:=by exact rfl)(hl:ds.length=z:=by exact rfl):aV P C n o s (s.putO o.dst (.agg (ds.map PV.t))):=aV.loadEptr ho hd hx hT hc hl
theorem bC{T:TypeId}{x:Operand}{f k d e:Nat}(hf:bK P T f=some e)(ho:o.op= .fieldAddr T x f:=by exact rfl)(hd:bW o.dst n=true:=by exact rfl)(hx:s.ev x=some (.ptr k d):=by exact rfl):aV P C n o s (s.putO o.dst (.ptr k (d+e))):=aV.fieldPtr ho hd hx hf
theorem rC{T:TypeId}{x:Operand}{f e:Nat}{cs:List Tr}(hf:bK P T f=some e)(ho:o.op= .fieldAddr T x f:=by exact rfl)(hd:bW o.dst n=true:=by exact rfl)(hx:s.ev x=some (.eptr cs):=by exact rfl):aV P C n o s (s.putO o.dst (.eptr (cs.drop e))):=aV.fieldEptr ho hd hx hf
theorem iG{T:TypeId}{ps:List PV}(hz:c7 P T=some ps)(ho:o.op= .alloc T:=by exact rfl)(hd:bW o.dst n=true:=by exact rfl):aV P C n o s ((⟨s.env,s.st.addBox ⟨T,ps⟩⟩:AS).putO o.dst (.ptr s.st.boxes.length 0)):=aV.alloc ho hd hz
theorem kQ{T:TypeId}{x:Operand}{p:PV}(cs:List PV)(ho:o.op= .box T x:=by exact rfl)(hd:bW o.dst n=true:=by exact rfl)(hx:s.ev x=some p:=by exact rfl)(hc:vR p=cs:=by exact rfl)(ht:uH p=true:=by exact rfl):aV P C n o s ((⟨s.env,s.st.addBox ⟨T,cs⟩⟩:AS).putO o.dst (.ptr s.st.boxes.length 0)):=aV.box ho hd hx hc ht
theorem b3{T:TypeId}{x y:Operand}{k d:Nat}{bx:dO}{p:PV}{cs ds:List PV}(hT:(P.info? T).map (·.size)=some cs.length)(ho:o.op= .store T x y:=by exact rfl)(hx:s.ev x=some (.ptr k d):=by exact rfl)(hb:s.st.boxes[k]?=some (some bx):=by exact rfl)(hy:s.ev y=some p:=by exact rfl)(hc:vR p=cs:=by exact rfl)(ht:uH p=true:=by exact rfl)(hf:H9 cs=true:=by exact rfl)
 (hfit:d+cs.length≤bx.cells.length:=by exact Nat.le_of_ble_eq_true rfl) (hds:bx.cells.take d++cs++bx.cells.drop (d+cs.length)=ds:=by exact rfl):aV P C n o s ((⟨s.env,s.st.setBox k ⟨bx.ty,ds⟩⟩:AS).delO o.dst):=aV.storePtr ho hx hb hy hc ht hf hT hfit hds
theorem eR{T:TypeId}{x:Operand}{p:PV}{sz N:Nat}{es:List (List Tr)}{E:Nat×Nat×Nat}(hT:elemOf? P T=some E)(hl:es.length=N)(ho:o.op= .call { callee:= .builtin .len,args:= #[x],argTypes:= #[T] }:=by exact rfl)(hd:bW o.dst n=true:=by exact rfl)(hx:s.ev x=some p:=by exact rfl)(hp:mZ p=some (sz,es):=by exact rfl):aV P C n o s (s.putO o.dst (.t (.leaf (.int .i64 (N:Int))))):=aV.lenN ho hd hx hp hT hl
theorem eP{T yT:TypeId}{x y:Operand}{k:IntKind}{a b:Int}(ho:o.op= .binOp .eql T x y yT:=by exact rfl)(hd:bW o.dst n=true:=by exact rfl)(hx:s.ev x=some (.t (.leaf (.int k a))):=by exact rfl)(hy:s.ev y=some (.t (.leaf (.int k b))):=by exact rfl):aV P C n o s (s.putO o.dst (.t (.leaf (.bool (decide (a=b)))))):=aV.eqlI ho hd hx hy
theorem MJ{T yT:TypeId}{x y:Operand}{k:IntKind}{a b:Int}(ho:o.op= .binOp .neq T x y yT:=by exact rfl)(hd:bW o.dst n=true:=by exact rfl)(hx:s.ev x=some (.t (.leaf (.int k a))):=by exact rfl)(hy:s.ev y=some (.t (.leaf (.int k b))):=by exact rfl):aV P C n o s (s.putO o.dst (.t (.leaf (.bool (!decide (a=b)))))):=aV.neqI ho hd hx hy
theorem iQ{T yT:TypeId}{x y:Operand}{k:IntKind}{a b:Int}(ho:o.op= .binOp .lss T x y yT:=by exact rfl)(hd:bW o.dst n=true:=by exact rfl)(hx:s.ev x=some (.t (.leaf (.int k a))):=by exact rfl)(hy:s.ev y=some (.t (.leaf (.int k b))):=by exact rfl):aV P C n o s (s.putO o.dst (.t (.leaf (.bool (decide (a<b)))))):=aV.lss ho hd hx hy
theorem rLe{T yT:TypeId}{x y:Operand}{k:IntKind}{a b:Int}(ho:o.op= .binOp .leq T x y yT:=by exact rfl)(hd:bW o.dst n=true:=by exact rfl)(hx:s.ev x=some (.t (.leaf (.int k a))):=by exact rfl)(hy:s.ev y=some (.t (.leaf (.int k b))):=by exact rfl):aV P C n o s (s.putO o.dst (.t (.leaf (.bool (decide (a≤b)))))):=aV.leq ho hd hx hy
theorem MI{T yT:TypeId}{x y:Operand}{k:IntKind}{a b:Int}(ho:o.op= .binOp .gtr T x y yT:=by exact rfl)(hd:bW o.dst n=true:=by exact rfl)(hx:s.ev x=some (.t (.leaf (.int k a))):=by exact rfl)(hy:s.ev y=some (.t (.leaf (.int k b))):=by exact rfl):aV P C n o s (s.putO o.dst (.t (.leaf (.bool (decide (a>b)))))):=aV.gtr ho hd hx hy
theorem UH{T yT:TypeId}{x y:Operand}{k:IntKind}{a b:Int}(ho:o.op= .binOp .geq T x y yT:=by exact rfl)(hd:bW o.dst n=true:=by exact rfl)(hx:s.ev x=some (.t (.leaf (.int k a))):=by exact rfl)(hy:s.ev y=some (.t (.leaf (.int k b))):=by exact rfl):aV P C n o s (s.putO o.dst (.t (.leaf (.bool (decide (a≥b)))))):=aV.geq ho hd hx hy
theorem JL{T yT:TypeId}{x y:Operand}{a b:ByteArray}(ho:o.op= .binOp .eql T x y yT:=by exact rfl)(hd:bW o.dst n=true:=by exact rfl)(hx:s.ev x=some (.t (.leaf (.string a))):=by exact rfl)(hy:s.ev y=some (.t (.leaf (.string b))):=by exact rfl):aV P C n o s (s.putO o.dst (.t (.leaf (.bool (decide (a=b)))))):=aV.eqlS ho hd hx hy
theorem SP{T yT:TypeId}{x y:Operand}{a b:ByteArray}(ho:o.op= .binOp .neq T x y yT:=by exact rfl)(hd:bW o.dst n=true:=by exact rfl)(hx:s.ev x=some (.t (.leaf (.string a))):=by exact rfl)(hy:s.ev y=some (.t (.leaf (.string b))):=by exact rfl):aV P C n o s (s.putO o.dst (.t (.leaf (.bool (!decide (a=b)))))):=aV.neqS ho hd hx hy
theorem iS{T:TypeId}{x:Operand}{b:Bool}(ho:o.op= .unOp .not T x:=by exact rfl)(hd:bW o.dst n=true:=by exact rfl)(hx:s.ev x=some (.t (.leaf (.bool b))):=by exact rfl):aV P C n o s (s.putO o.dst (.t (.leaf (.bool (!b))))):=aV.notB ho hd hx
theorem Q6{T yT:TypeId}{x y:Operand}{k:IntKind}{a b:Int}(ho:o.op= .binOp .add T x y yT:=by exact rfl)(hd:bW o.dst n=true:=by exact rfl)(hx:s.ev x=some (.t (.leaf (.int k a))):=by exact rfl)(hy:s.ev y=some (.t (.leaf (.int k b))):=by exact rfl):aV P C n o s (s.putO o.dst (.t (.leaf (.int k (k.wrap (a+b)))))):=aV.addW ho hd hx hy
theorem GQ{T yT:TypeId}{x y:Operand}{k:IntKind}{a b:Int}(ho:o.op= .binOp .sub T x y yT:=by exact rfl)(hd:bW o.dst n=true:=by exact rfl)(hx:s.ev x=some (.t (.leaf (.int k a))):=by exact rfl)(hy:s.ev y=some (.t (.leaf (.int k b))):=by exact rfl):aV P C n o s (s.putO o.dst (.t (.leaf (.int k (k.wrap (a-b)))))):=aV.subW ho hd hx hy
theorem jH{α:Type}[Inhabited α][TC α]{l:List α}{T E sz by_:Nat}{x i:Operand}{p:PV}{k:Nat}(h:k<l.length)(hT:elemOf? P T=some (E,sz,by_))(ho:o.op= .indexAddr T x i:=by exact rfl)(hd:bW o.dst n=true:=by exact rfl)(hx:s.ev x=some p:=by exact rfl)(hp:mZ p=some (sz,TC.trs l):=by exact rfl)(hi:s.ev i=some (.t (.leaf (.int .i64 (k:Int)))):=by exact rfl):aV P C n o s (s.putO o.dst (.eptr (TC.cs (bB l k)))):=aV.index ho hd hx hp hi (TC.at_ h) hT
theorem rIy{α:Type}[Inhabited α][TC α]{l:List α}{T E sz by_:Nat}{x i:Operand}{p:PV}{y:Int}(h:0≤y∧y.toNat<l.length)(hT:elemOf? P T=some (E,sz,by_))(ho:o.op= .indexAddr T x i:=by exact rfl)(hd:bW o.dst n=true:=by exact rfl)(hx:s.ev x=some p:=by exact rfl)(hp:mZ p=some (sz,TC.trs l):=by exact rfl)(hi:s.ev i=some (.t (.leaf (.int .i64 y))):=by exact rfl):aV P C n o s (s.putO o.dst (.eptr (TC.cs (bB l y.toNat)))):=aV.indexI ho hd hx hp hi h.1 (TC.at_ h.2) hT
theorem yI{α:Type}[Inhabited α][TC α]{l:List α}{T E sz by_:Nat}{x i:Operand}{p:PV}{k:Nat}{z:α}(hz:z=bB l k)(h:k<l.length)(hT:elemOf? P T=some (E,sz,by_))(ho:o.op= .indexAddr T x i:=by exact rfl)(hd:bW o.dst n=true:=by exact rfl)(hx:s.ev x=some p:=by exact rfl)(hp:mZ p=some (sz,TC.trs l):=by exact rfl)(hi:s.ev i=some (.t (.leaf (.int .i64 (k:Int)))):=by exact rfl):aV P C n o s (s.putO o.dst (.eptr (TC.cs z))):=by
 subst hz
 exact jH h hT ho hd hx hp hi
theorem rIm{α:Type}[Inhabited α][TC α]{l:List α}{T E sz by_:Nat}{x i:Operand}{p:PV}{y:Int}{z:α}(hz:z=bB l y.toNat)(h:0≤y∧y.toNat<l.length)(hT:elemOf? P T=some (E,sz,by_))(ho:o.op= .indexAddr T x i:=by exact rfl)(hd:bW o.dst n=true:=by exact rfl)(hx:s.ev x=some p:=by exact rfl)(hp:mZ p=some (sz,TC.trs l):=by exact rfl)(hi:s.ev i=some (.t (.leaf (.int .i64 y))):=by exact rfl):aV P C n o s (s.putO o.dst (.eptr (TC.cs z))):=by
 subst hz
 exact rIy h hT ho hd hx hp hi
theorem rF1{T:TypeId}{x:Operand}{f e z:Nat}{cs:List PV}{p:PV}(hf:sN P T f=some (e,false,z))(ho:o.op= .field T x f:=by exact rfl)(hd:bW o.dst n=true:=by exact rfl)(hx:s.ev x=some (.agg cs):=by exact rfl)(hc:cs[e]?=some p:=by exact rfl):aV P C n o s (s.putO o.dst p):=aV.field1 ho hd hx hf hc
theorem BH{x:Operand}{i:Nat}{ps:List PV}{p:PV}(ho:o.op= .extract x i:=by exact rfl)(hd:bW o.dst n=true:=by exact rfl)(hx:s.ev x=some (.tup ps):=by exact rfl)(hi:ps[i]?=some p:=by exact rfl):aV P C n o s (s.putO o.dst p):=aV.extract ho hd hx hi
theorem gD{T:TypeId}{parts:Array (Nat×Operand)}{ps:List (Nat×List PV)}{zs cs:List PV}{places:List (Nat×Nat)}(hz:c7 P T=some zs)(hpl:gV P T=some places)(ho:o.op= .build T parts:=by exact rfl)(hd:bW o.dst n=true:=by exact rfl)(hp:pA s parts.toList=some ps:=by exact rfl)(hc:tY (fun i=>places.toArray[i]?) zs ps=some cs:=by exact rfl):aV P C n o s (s.putO o.dst (.agg cs)):=aV.build ho hd hz hpl hp hc
theorem iW{α:Type}[Inhabited α][TC α]{T E by_ len:Nat}{parts:Array (Nat×Operand)}{ps:List (Nat×List PV)}{zs cs:List PV}(l:List α)(hT:elemOf? P T=some (E,TC.sz α,by_))(hz:c7 P E=some zs)(ho:o.op= .buildSlice T len parts:=by exact rfl)(hd:bW o.dst n=true:=by exact rfl)(hp:pA s parts.toList=some ps:=by exact rfl)
 (hc:tY (fun i=>some (i*TC.sz α,TC.sz α)) (List.replicate len zs).flatten ps=some cs:=by exact rfl) (hle:s7 cs ((l.map TC.cs).flatten.map PV.t):=by exact lG) (hel:l.length=len:=by exact rfl) (hsz:0<TC.sz α:=by decide) (hzl:zs.length=TC.sz α:=by exact rfl) (hsm:len*TC.sz α≤16777216:=by decide):aV P C n o s (s.putO o.dst (.t (.row (TC.sz α) (TC.trs l)))):=
 aV.buildSliceE (es:=l.map TC.cs) ho hd hT hz hp hc hle (by rw [List.length_map];exact hel) (fun e he=>TC.all l e (by rw [TC.map];exact he)) hsz hzl hsm (TC.map l).symm
theorem tZ{α:Type}[Inhabited α][TC α]{T E by_ len:Nat}{parts:Array (Nat×Operand)}{ps:List (Nat×List PV)}{zs cs:List PV}(l:List α)(hT:elemOf? P T=some (E,TC.sz α,by_))(hz:c7 P E=some zs)(ho:o.op= .buildSlice T len parts:=by exact rfl)(hd:bW o.dst n=true:=by exact rfl)(hp:pA s parts.toList=some ps:=by exact rfl)
 (hc:tY (fun i=>some (i*TC.sz α,TC.sz α)) (List.replicate len zs).flatten ps=some cs:=by exact rfl) (hle:s7 cs ((l.map TC.cs).flatten.map PV.t):=by exact lG) (hel:l.length=len:=by exact rfl) (hsz:0<TC.sz α:=by decide) (hzl:zs.length=TC.sz α:=by exact rfl) (hsm:len*TC.sz α≤16777216:=by decide):aV P C n o s (s.putO o.dst (.lit (TC.sz α) (TC.trs l))):=
 aV.buildSliceLE (es:=l.map TC.cs) ho hd hT hz hp hc hle (by rw [List.length_map];exact hel) (fun e he=>TC.all l e (by rw [TC.map];exact he)) hsz hzl hsm (TC.map l).symm
theorem wA{α:Type}[Inhabited α][TC α]{T E by_ len:Nat}{parts:Array (Nat×Operand)}{ps:List (Nat×List PV)}{zs cs:List PV}(l:List α)(hT:elemOf? P T=some (E,TC.sz α,by_))(hz:c7 P E=some zs)(ho:o.op= .buildSlice T len parts:=by exact rfl)(hd:bW o.dst n=true:=by exact rfl)(hp:pA s parts.toList=some ps:=by exact rfl)
 (hc:tY (fun i=>some (i*TC.sz α,TC.sz α)) (List.replicate len zs).flatten ps=some cs:=by exact rfl) (hle:s7 cs ((l.map TC.cs).flatten.map PV.t):=by exact lG) (hel:l.length=len:=by exact rfl) (hsz:0<TC.sz α:=by decide) (hzl:zs.length=TC.sz α:=by exact rfl) (hsm:len*TC.sz α≤16777216:=by decide):aV P C n o s ((⟨s.env,s.st.addRow ⟨E,TC.sz α,TC.trs l,false⟩⟩:AS).putO o.dst (.acc (TC.sz α) (TC.trs l) s.st.rows.length)):=
 aV.buildSliceA (es:=l.map TC.cs) ho hd hT hz hp hc hle (by rw [List.length_map];exact hel) (fun e he=>TC.all l e (by rw [TC.map];exact he)) hsz hzl hsm (TC.map l).symm
theorem oE{α:Type}[Inhabited α][TC α]{T E by_:Nat}{x y:Operand}{a b:List α}{r:Nat}{row:pO}{p:PV}(h:a.length+b.length≤68719476736)(hT:elemOf? P T=some (E,TC.sz α,by_))(hz:(P.info? E).bind (fun i=>i.zero.map (fun z=>z.cells.size))=some (TC.sz α))(ho:o.op= .call { callee:= .builtin .append,args:= #[x,y],argTypes:= #[T,T] }:=by exact rfl)(hd:bW o.dst n=true:=by exact rfl)
 (hx:s.ev x=some (.acc (TC.sz α) (TC.trs a) r):=by exact rfl) (hrow:s.st.rows[r]?=some row:=by exact rfl) (hes:row.es=TC.trs a:=by exact rfl) (hE:row.E=E:=by exact rfl) (hw:row.whole=false:=by exact rfl) (hy:s.ev y=some p:=by exact rfl) (hp:mZ p=some (TC.sz α,TC.trs b):=by exact rfl)
 (hb:0<by_:=by decide) (hb2:by_≤2048:=by decide):aV P C n o s ((⟨s.env,s.st.setRow r { row with es:=TC.trs (a++b) }⟩:AS).putO o.dst (.acc (TC.sz α) (TC.trs (a++b)) r)):=
 aV.appendE ho hd hx hrow hes hE hw hy hp (TC.all b) hT hz hb (by rw [TC.len,TC.len];exact zE h hb2) (TC.app a b)
theorem rMf{f:FuncId}{cap:Array Operand}{ps:List PV}(ho:o.op= .makeFunc (.func f) #[] cap:=by exact rfl)(hd:bW o.dst n=true:=by exact rfl)(hc:evA s cap.toList=some ps:=by exact rfl):aV P C n o s (s.putO o.dst (.fn f ps)):=aV.makeFunc ho hd (KZ hc)
theorem qM{x:Operand}{k d:Nat}(ho:o.op= .nilCheck x:=by exact rfl)(hd:bW o.dst n=true:=by exact rfl)(hx:s.ev x=some (.ptr k d):=by exact rfl):aV P C n o s (s.putO o.dst (.ptr k d)):=aV.nilPtr ho hd hx
theorem b0{x y z:Operand}{b:Bool}{p:PV}(hb:b=true)(ho:o.op= .pick x y z:=by exact rfl)(hd:bW o.dst n=true:=by exact rfl)(hx:s.ev x=some (.t (.leaf (.bool b))):=by exact rfl)(hy:s.ev y=some p:=by exact rfl):aV P C n o s (s.putO o.dst p):=aV.pickT ho hd hx hb hy
theorem cC{x y z:Operand}{b:Bool}{p:PV}(hb:b=false)(ho:o.op= .pick x y z:=by exact rfl)(hd:bW o.dst n=true:=by exact rfl)(hx:s.ev x=some (.t (.leaf (.bool b))):=by exact rfl)(hy:s.ev z=some p:=by exact rfl):aV P C n o s (s.putO o.dst p):=aV.pickF ho hd hx hb hy
theorem bQ{f:FuncId}{fn:Func}{xs:List Operand}{ts:Array TypeId}{ps qs:List PV}{res:PV}(hf:P.funcs[f]?=some fn)(hc:cA P f qs res)(ho:o.op= .call { callee:= .value (.func f),args:=⟨xs⟩,argTypes:=ts }:=by exact rfl)(hd:bW o.dst n=true:=by exact rfl)(hnm:(fn.name== "runtime.NumGoroutine")=false:=by kernel_rfl)(hb:fn.body.isNone=false:=by exact rfl)
 (hx:evA s xs=some ps:=by exact rfl) (hle:s7 ps qs:=by exact lG) (h1:kF qs=true:=by exact rfl) (h2:PV.free res=true:=by exact rfl):aV P C n o s (s.putO o.dst res):=aV.callF ho hd hf hnm hb (KZ hx) hle h1 h2 hc
theorem rCv{y:Operand}{f:FuncId}{fn:Func}{xs:List Operand}{ts:Array TypeId}{ps cs qs:List PV}{res:PV}(hf:P.funcs[f]?=some fn)(hc:cA P f qs res)(ho:o.op= .call { callee:= .value y,args:=⟨xs⟩,argTypes:=ts }:=by exact rfl)(hd:bW o.dst n=true:=by exact rfl)(hy:s.ev y=some (.fn f cs):=by exact rfl)(hnm:(fn.name== "runtime.NumGoroutine")=false:=by kernel_rfl)(hb:fn.body.isNone=false:=by exact rfl)
 (hx:evA s xs=some ps:=by exact rfl) (hle:s7 (ps++cs) qs:=by exact lG) (h1:kF qs=true:=by exact rfl) (h2:PV.free res=true:=by exact rfl):aV P C n o s (s.putO o.dst res):=aV.callV ho hd hy hf hnm hb (KZ hx) hle h1 h2 hc
theorem apD{S pre:dK}{fb fr:List Nat}(hb:qE S fb fr pre fb pre.boxes:=by repeat' (first|exact trivial|refine⟨⟨_,rfl,rfl,lG,rfl⟩,?_⟩))(hr:s8 S fr pre.rows:=by repeat' (first|exact trivial|refine⟨rfl,?_⟩))(h1:fb.Nodup:=by decide)(h2:fr.Nodup:=by decide):l6 S pre fb fr:=l6.of hb hr h1 h2
theorem f6{f:FuncId}{fn:Func}{xs:List Operand}{ts:Array TypeId}{ps qs:List PV}{res:PV}{pre st':dK}(fb fr:List Nat)(hf:P.funcs[f]?=some fn)(hc:cP P f qs pre (fun r t=>r=res∧t=st'))(ho:o.op= .call { callee:= .value (.func f),args:=⟨xs⟩,argTypes:=ts }:=by exact rfl)(hd:bW o.dst n=true:=by exact rfl)(hnm:(fn.name== "runtime.NumGoroutine")=false:=by kernel_rfl)(hb:fn.body.isNone=false:=by exact rfl)
 (hx:evA s xs=some ps:=by exact rfl) (hp:l6 s.st pre fb fr:=by exact apD) (hle:s7 ps (CM fb fr qs):=by exact lG) (hok:mY pre qs=true:=by exact rfl) (hbl:st'.boxes.length=pre.boxes.length:=by exact rfl) (hrl:st'.rows.length=pre.rows.length:=by exact rfl):aV P C n o s ((⟨s.env,s.st.over st' fb fr⟩:AS).putO o.dst (PV.ren fb fr res)):=aV.callPE fb fr ho hd hf hnm hb (KZ hx) rfl hp hle hok hbl hrl hc
end
theorem dne{x a b:Int}(h:decide (x=a)=true)(hab:a≠b):decide (x=b)=false:=by
 rw [of_decide_eq_true h]
 exact decide_eq_false hab
theorem ahG{x b:Int}(h:(decide (x=2)||decide (x=3))=true)(h2:2≠b)(h3:3≠b):decide (x=b)=false:=by
 rw [Bool.or_eq_true,decide_eq_true_eq,decide_eq_true_eq] at h
 refine decide_eq_false fun e=>?_
 omega
theorem anJ{x:Int}(h:(decide (x=2)||decide (x=3))=true)(h2:decide (x=2)=false):decide (x=3)=true:=by
 rw [h2,Bool.false_or] at h
 exact h
theorem apA{x:Int}(h:(decide (x=2)||decide (x=3))=false):decide (x=2)=false:=(Bool.or_eq_false_iff.1 h).1
theorem apB{x:Int}(h:(decide (x=2)||decide (x=3))=false):decide (x=3)=false:=(Bool.or_eq_false_iff.1 h).2
theorem aV.appendLitBE{P:Program}{C:q9}{n:Nat}{s:AS}{o:Oper}{T E sz by_:Nat}{x y:Operand}{es1 es2 es3:List (List Tr)}{cs:List PV}{p:PV}{len:Nat}(ho:o.op= .call { callee:= .builtin .append,args:= #[x,y],argTypes:= #[T,T] })(hd:bW o.dst n=true)
 (hx:s.ev x=some (.lit sz es1)) (hy:s.ev y=some p) (hp:mZ p=some (sz,es2)) (h1: ∀e∈es1,e.length=sz) (h2: ∀e∈es2,e.length=sz) (hne:es2≠ []) (hsz:0<sz)
 (hT:elemOf? P T=some (E,sz,by_)) (hz:(P.info? E).bind (fun i=>i.zero.map (fun z=>z.cells.size))=some sz) (hb:0<by_) (hlen:(es1.length+es2.length)*by_≤140737488355328) (h3:es1++es2=es3) (hcs:es3.flatten.map PV.t=cs) (hl:es1.length+es2.length=len):
 aV P C n o s ((⟨s.env,s.st.addBox ⟨E,cs⟩⟩:AS).putO o.dst (.gsl s.st.boxes.length len)):=aV.appendLitB ho hd hx hy hp h1 h2 hne hsz hT hz hb hlen (by rw [h3];exact hcs) hl
end Go.Proofs.YtpioomclpaiomaaGreat

namespace Go.Proofs.YtpioomclpaiomaaGreat
set_option linter.unusedSimpArgs false
set_option linter.unusedVariables false
open Go.RowKit Go.WalkArith Go.IntWalk Go.WideShapes
section
variable {P:Program} {C:q9} {n:Nat} {o:Oper}
theorem akD{a:Act}{K1 K:Act→World→Prop}{Q:Exit→Act→World→Prop}(hv: ∀v w',K1 (a.put o.dst v) w'→K (a.put o.dst v) w')
 (hd: ∀d w',K1 (({ a with defers:=d::a.defers }:Act).put o.dst undef) w'→K (({ a with defers:=d::a.defers }:Act).put o.dst undef) w'): ∀r,o.upon P a K1 Q r→o.upon P a K Q r:=by
 intro r h
 cases r with
 |ok x w'=>
  cases x with
  |value v=>exact hv v w' h
  |skip=>exact hv undef w' h
  |defer d=>exact hd d w' h
  |enter f args=>
   refine Calls.mono h fun e w'' he=>?_
   cases e with
   |returned v=>exact hv v w'' he
   |panicked c=>exact he
   |outgrown=>exact he
  |row r args=>exact Rows.mono h fun v w'' he=>hv v w'' he
  |_=>exact h
 |halt x w'=>
  cases x with
  |panic v=>exact h
  |_=>exact h
theorem X6(s:AS)(d:Nat)(p:PV)(i:Nat):(s.putO (some d) p).lk i=if i=d then some p else s.lk i:=AS.lk_put s d i p
theorem aV.frame{E:List (Nat×PV)}{st st1:dK}{p:PV}{s':AS}(h: ∀C',aV P C' n o ⟨E,st⟩ ((⟨E,st1⟩:AS).putO o.dst p))(hst:s'.st=st)(hl: ∀t q,E.lookup t=some q→s'.lk t=some q):
 aV P C n o s' ((⟨s'.env,st1⟩:AS).putO o.dst p):=fun m a w hr K Q hK=>by
 subst hst
 have hr':RA ⟨C.av,s'.st,m,w⟩ n ⟨E,s'.st⟩ m a w:=⟨hr.dfr,hr.tsz,hr.sto,fun i q hq=>hr.env i q (hl i q hq),Ev.refl _ _ _⟩
 have h1:=h ⟨C.av,s'.st,m,w⟩ m a w hr' (fun a' w'=> ∃m',RA ⟨C.av,s'.st,m,w⟩ n ((⟨E,st1⟩:AS).putO o.dst p) m' a' w') Q (fun m' a' w' h=>⟨m',h⟩)
 unfold Oper.wp at h1 ⊢
 refine akD (fun v w'=>?_) (fun d w'=>?_) _ h1
 ·rintro⟨m',h2⟩
  refine hK m' _ w' ?_
  have key: ∀(dst:Option Nat),dst=o.dst→RA C n ((⟨s'.env,st1⟩:AS).putO dst p) m' (a.put dst v) w':=fun dst hdst=>by
   rw [← hdst] at h2
   cases dst with
   |none=>
    have hE:Ev s'.st m w st1 m' w':=h2.ev
    exact⟨h2.dfr,h2.tsz,h2.sto,fun i q hq=>by
     obtain⟨v',hv',hrv⟩:=hr.env i q hq
     exact⟨v',hv',RV.mono hE q v' hrv⟩,hr.ev.trans hE⟩
   |some d=>
    have hE:Ev s'.st m w st1 m' w':=h2.ev
    refine⟨h2.dfr,h2.tsz,h2.sto,fun i q hq=>?_,hr.ev.trans hE⟩
    rw [X6] at hq
    by_cases hi:i=d
    ·rw [if_pos hi] at hq
     cases hq
     exact h2.env i _ (by rw [X6,if_pos hi])
    ·rw [if_neg hi] at hq
     obtain⟨v',hv',hrv⟩:=hr.env i q hq
     exact⟨v',by simp only [Act.put];rw [Array.getElem?_setIfInBounds_ne (fun e=>hi e.symm)];exact hv',RV.mono hE q v' hrv⟩
  exact key o.dst rfl
 ·rintro⟨m',h2⟩
  have h3:=h2.dfr
  have h4:(({ a with defers:=d::a.defers }:Act).put o.dst undef).defers=d::a.defers:=by
   cases o.dst<;>rfl
  rw [h4] at h3
  cases h3
theorem aV.frame0{E:List (Nat×PV)}{st st1:dK}{s':AS}(hn:o.dst=none)(h: ∀C',aV P C' n o ⟨E,st⟩ ⟨E,st1⟩)(hst:s'.st=st)(hl: ∀t q,E.lookup t=some q→s'.lk t=some q):
 aV P C n o s' ⟨s'.env,st1⟩:=by
 have:=aV.frame (C:=C) (P:=P) (n:=n) (o:=o) (p:= .nil) (E:=E) (st:=st) (st1:=st1) (s':=s') (by rw [hn];exact h) hst hl
 rw [hn] at this
 exact this
structure DD where
 outs:List (Option PV)
 ks:List (Option DK)
 ins:List (List Nat)
 effs:List Nat
 fs:List (Option dO→dK)
 rds:List ((Nat×Nat)×Nat×Option (Option dO))
 az:Option (Nat×dO)
def DD.cz(g:DD):Option dO:=g.az.map (·.2)
def ab:Option dO→dK→dK
 |none,st=>st
 |some z,st=>st.addBox z
def I3:dK:=⟨[],[⟨0,0,[],false⟩]⟩
def tw(st:dK):Option dO→dK
 |none=>I3
 |some _=>st
theorem amH{C:q9}{n:Nat}{env:List (Nat×PV)}{m:kD}{a:Act}{w:World}(h:RA C n ⟨env,I3⟩ m a w):False:=by
 have:=(h.sto.row 0 ⟨0,0,[],false⟩ rfl).1
 exact absurd this (by decide)
theorem aV.bad{P:Program}{C:q9}{n:Nat}{o:Oper}{s s1:AS}(hs:s.st=I3):aV P C n o s s1:=fun m a w hr K Q hK=>by
 obtain⟨env,st⟩:=s
 cases hs
 exact(amH hr).elim
theorem aV.away{P:Program}{C:q9}{n:Nat}{o:Oper}{s s1:AS}{t k off:Nat}(hl:s.lk t=some (.ptr k off))(hk:s.st.boxes[k]?=none):aV P C n o s s1:=fun m a w hr K Q hK=>by
 obtain⟨v,-,⟨x,hx⟩,-⟩:=hr.env t _ hl
 rw [hk] at hx
 cases hx
def rs(s:AS):List Nat→List (Nat×PV)
 | []=> []
 |t::ts=>match s.lk t with
  |some p=>(t,p)::rs s ts
  |none=>rs s ts
theorem ahX{s:AS}{t:Nat}{q:PV}: ∀ {I:List Nat},(rs s I).lookup t=some q→t∈I∧s.lk t=some q
 | [],h=>by cases h
 |x::I,h=>by
  unfold rs at h
  cases hx:s.lk x with
  |none=>
   rw [hx] at h
   obtain⟨h1,h2⟩:=ahX (I:=I) h
   exact⟨.tail _ h1,h2⟩
  |some p=>
   rw [hx] at h
   dsimp only at h
   rw [List.lookup_cons] at h
   by_cases htx:t=x
   ·subst htx
    simp only [BEq.rfl] at h
    cases h
    exact⟨.head _,hx⟩
   ·rw [show(t==x)=false by simp [htx]] at h
    obtain⟨h1,h2⟩:=ahX (I:=I) h
    exact⟨.tail _ h1,h2⟩
def W1(l:List Oper)(e0:List (Nat×PV))(outs:List (Option PV))(i t:Nat)(p:PV):Prop:=
 (∃(j:Nat) (o:Oper),j<i∧l[j]?=some o∧o.dst=some t∧outs[j]?=some (some p))∨(e0.lookup t=some p∧ ∀(j:Nat) (o:Oper),j<i→l[j]?=some o→o.dst≠some t)
inductive WD (l:List Oper) (e0:List (Nat×PV)) (outs:List (Option PV)) (i:Nat) (o:Oper):Bool→Prop
 |n:o.guard=none→WD l e0 outs i o true
 |y {j d:Nat} {b c:Bool}:o.guard=some (j,c)→(l[j]?).bind (·.dst)=some d→W1 l e0 outs i d (.t (.leaf (.bool b)))→WD l e0 outs i o (b==c)
 |u {j d:Nat} {c:Bool}:o.guard=some (j,c)→(l[j]?).bind (·.dst)=some d→W1 l e0 outs i d (.tup [])→WD l e0 outs i o false
inductive WS (l:List Oper) (s:AS) (o:Oper):Bool→Prop
 |n:o.guard=none→WS l s o true
 |y {j d:Nat} {b c:Bool}:o.guard=some (j,c)→(l[j]?).bind (·.dst)=some d→s.lk d=some (.t (.leaf (.bool b)))→WS l s o (b==c)
 |u {j d:Nat} {c:Bool}:o.guard=some (j,c)→(l[j]?).bind (·.dst)=some d→s.lk d=some (.tup [])→WS l s o false
inductive OQ (P:Program) (n N:Nat) (md:Bool) (g:DD) (i:Nat) (o:Oper) (E:List (Nat×PV)):Prop
 |q {p:PV}:g.ks[i]?=some none→g.outs[i]?=some (some p)→(∀C' st,aV P C' n o ⟨E,st⟩ ((⟨E,st⟩:AS).putO o.dst p))→OQ P n N md g i o E
 |r {lo hi k:Nat} {X:Option (Option dO)} {p:PV}:g.ks[i]?=some (some (.q lo hi))→g.outs[i]?=some (some p)→((lo,hi),k,X)∈g.rds→(md=true→k<N)→(∀C' (st:dK),st.boxes[k]?=X→aV P C' n o ⟨E,st⟩ ((⟨E,st⟩:AS).putO o.dst p))→OQ P n N md g i o E
 |c {j:Nat} {f:Option dO→dK} {p:PV}:g.ks[i]?=some (some (.q j j))→g.outs[i]?=some (some p)→g.fs[j]?=some f→(∀C' z,aV P C' n o ⟨E,f z⟩ ((⟨E,f z⟩:AS).putO o.dst p))→OQ P n N md g i o E
 |e {j:Nat} {f f1:Option dO→dK} {p:PV}:g.ks[i]?=some (some (.ef j))→g.outs[i]?=some (some p)→g.fs[j]?=some f→g.fs[j+1]?=some f1→(∀C' z,aV P C' n o ⟨E,f z⟩ ((⟨E,f1 z⟩:AS).putO o.dst p))→OQ P n N md g i o E
 |e0 {j:Nat} {f f1:Option dO→dK}:g.ks[i]?=some (some (.ef j))→o.dst=none→g.fs[j]?=some f→g.fs[j+1]?=some f1→(∀C' z,aV P C' n o ⟨E,f z⟩ ⟨E,f1 z⟩)→OQ P n N md g i o E
 |ea {j a t off:Nat} {zb:dO} {f f1:Option dO→dK}:g.az=some (a,zb)→g.ks[i]?=some (some (.ef j))→o.dst=none→g.fs[j]?=some f→g.fs[j+1]?=some f1→E.lookup t=some (.ptr N off)→(f none=I3∨(f none).boxes.length=N)→(∀C',aV P C' n o ⟨E,f (some zb)⟩ ⟨E,f1 (some zb)⟩)→OQ P n N md g i o E
 |al {zb:dO}:md=true→g.az=some (i,zb)→g.ks[i]?=some (some .al)→g.outs[i]?=some (some (.ptr N 0))→(∀C' st,st.boxes.length=N→aV P C' n o ⟨[],st⟩ ((⟨[],st.addBox zb⟩:AS).putO o.dst (.ptr N 0)))→OQ P n N md g i o E
inductive RE (P:Program) (n N:Nat) (md:Bool) (l:List Oper) (e0:List (Nat×PV)) (g:DD) (i:Nat) (o:Oper):Prop
 |does {E:List (Nat×PV)} {I:List Nat}:WD l e0 g.outs i o true→g.ins[i]?=some I→(∀t q,E.lookup t=some q→t∈I∧W1 l e0 g.outs i t q)→OQ P n N md g i o E→RE P n N md l e0 g i o
 |skip:WD l e0 g.outs i o false→g.ks[i]?=some none→g.outs[i]?=some (some (.tup []))→bW o.dst n=true→RE P n N md l e0 g i o
structure DD.le (g g':DD):Prop where
 outs: ∀(i:Nat) (x:Option PV),g.outs[i]?=some x→g'.outs[i]?=some x
 ks: ∀(i:Nat) (x:Option DK),g.ks[i]?=some x→g'.ks[i]?=some x
 ins: ∀(i:Nat) (x:List Nat),g.ins[i]?=some x→g'.ins[i]?=some x
 fs: ∀(i:Nat) (x:Option dO→dK),g.fs[i]?=some x→g'.fs[i]?=some x
 rds: ∀x∈g.rds,x∈g'.rds
 az: ∀x,g.az=some x→g'.az=some x
theorem ON{g g':DD}(h:g.le g'){l:List Oper}{e0:List (Nat×PV)}{i t:Nat}{p:PV}(k:W1 l e0 g.outs i t p):W1 l e0 g'.outs i t p:=by
 rcases k with⟨j,o,h1,h2,h3,h4⟩|k
 ·exact .inl ⟨j,o,h1,h2,h3,h.outs _ _ h4⟩
 ·exact .inr k
theorem ah6{g g':DD}(h:g.le g'){l:List Oper}{e0:List (Nat×PV)}{i:Nat}{o:Oper}{b:Bool}(k:WD l e0 g.outs i o b):WD l e0 g'.outs i o b:=by
 cases k with
 |n a=>exact .n a
 |y a b c=>exact .y a b (ON h c)
 |u a b c=>exact .u a b (ON h c)
theorem RE.mono{N:Nat}{md:Bool}{l:List Oper}{e0:List (Nat×PV)}{g g':DD}{i:Nat}{o:Oper}(h:g.le g')(k:RE P n N md l e0 g i o):RE P n N md l e0 g' i o:=by
 cases k with
 |does h1 h2 h3 h4=>
  refine .does (ah6 h h1) (h.ins _ _ h2) (fun t q ht=>⟨(h3 t q ht).1,ON h (h3 t q ht).2⟩) ?_
  cases h4 with
  |q a b c=>exact .q (h.ks _ _ a) (h.outs _ _ b) c
  |r a b c d e=>exact .r (h.ks _ _ a) (h.outs _ _ b) (h.rds _ c) d e
  |c a b c d=>exact .c (h.ks _ _ a) (h.outs _ _ b) (h.fs _ _ c) d
  |e a b c d e=>exact .e (h.ks _ _ a) (h.outs _ _ b) (h.fs _ _ c) (h.fs _ _ d) e
  |e0 a b c d e=>exact .e0 (h.ks _ _ a) b (h.fs _ _ c) (h.fs _ _ d) e
  |ea z a b c d e f q=>exact .ea (h.az _ z) (h.ks _ _ a) b (h.fs _ _ c) (h.fs _ _ d) e f q
  |al md z a b c=>exact .al md (h.az _ z) (h.ks _ _ a) (h.outs _ _ b) c
 |skip h1 h2 h3 h4=>exact .skip (ah6 h h1) (h.ks _ _ h2) (h.outs _ _ h3) h4
structure ah9 (P:Program) (n:Nat) (md:Bool) (l:List Oper) (s0:AS) (g:DD) (s:AS):Prop where
 hs0: ∃f,g.fs[0]?=some f∧f none=s0.st
 hfl:g.fs.length=g.effs.length+1
 hlast: ∃f,g.fs[g.effs.length]?=some f∧f g.cz=s.st∧(md=false→f=fun _=>s.st)∧(md=true→g.az=none→f=fun z=>ab z s.st)
 hk:g.ks.length=g.outs.length
 hi:g.ins.length=g.outs.length
 hz:md=true→ ∀f∈g.fs,f none=I3∨((f none).boxes.length=s0.st.boxes.length∧ ∀z,f (some z)=(f none).addBox z)
 hm:md=false→g.az=none
 hlk: ∀t p,s.lk t=some p→W1 l s0.env g.outs g.outs.length t p
 hf: ∀(i:Nat) (o:Oper),l[i]?=some o→i<g.outs.length→RE P n s0.st.boxes.length md l s0.env g i o
def DW(P:Program)(C:q9)(n id:Nat)(md:Bool)(l:List Oper)(Q:Exit→AS→Prop)(s0:AS)(g:DD)(s:AS)(rest:List Oper):Prop:=
 ah9 P n md l s0 g s→l.drop g.outs.length=rest→aO P C n (.region id l.toArray true) Q s0
variable {id:Nat} {l:List Oper} {Q:Exit→AS→Prop} {s0 s:AS} {g:DD} {rest:List Oper} {md:Bool}
theorem dW(h:DW P C n id false l Q s ⟨[],[],[],[],[fun _=>s.st],[],none⟩ s l):aO P C n (.region id l.toArray true) Q s:=
 h ⟨⟨_,rfl,rfl⟩,rfl,⟨_,rfl,rfl,fun _=>rfl,fun h=>(by cases h)⟩,rfl,rfl,fun h=>(by cases h),fun _=>rfl,fun t p ht=> .inr ⟨ht,fun j o hj=>(by cases hj)⟩,fun i o _ hi=>(by cases hi)⟩ rfl
theorem dWa(h:DW P C n id true l Q s ⟨[],[],[],[],[fun z=>ab z s.st],[],none⟩ s l):aO P C n (.region id l.toArray true) Q s:=
 h ⟨⟨_,rfl,rfl⟩,rfl,⟨_,rfl,rfl,fun h=>(by cases h),fun _ _=>rfl⟩,rfl,rfl,fun _ f hf=>(by obtain rfl:=List.mem_singleton.1 hf;exact .inr ⟨rfl,fun z=>rfl⟩),fun h=>(by cases h),fun t p ht=> .inr ⟨ht,fun j o hj=>by cases hj⟩,fun i o _ hi=>by cases hi⟩ rfl
theorem dV{α:Type}{l:List α}{y:α}(i:Nat)(x:α)(h:l[i]?=some x):(l++ [y])[i]?=some x:=by
 obtain⟨hi,-⟩:=List.getElem?_eq_some_iff.1 h
 rw [List.getElem?_append_left hi]
 exact h
theorem cD{α:Type}{l:List α}{y:α}{k:Nat}(h:l.length=k):(l++ [y])[k]?=some y:=by subst h;simp
theorem uW{o:Oper}(h:l.drop g.outs.length=o::rest):l[g.outs.length]?=some o∧l.drop (g.outs.length+1)=rest:=by
 constructor
 ·have:=congrArg (fun x=>x[0]?) h
  simpa using this
 ·rw [← List.drop_drop,h]
  rfl
theorem ah9.next{g':DD}{s':AS}(hv:ah9 P n md l s0 g s)(ho:l[g.outs.length]?=some o)(hle:g.le g')(h0:g'.outs.length=g.outs.length+1)(hk:g'.ks.length=g.ks.length+1)(hi:g'.ins.length=g.ins.length+1)(hfl:g'.fs.length=g'.effs.length+1)
 (hlast: ∃f,g'.fs[g'.effs.length]?=some f∧f g'.cz=s'.st∧(md=false→f=fun _=>s'.st)∧(md=true→g'.az=none→f=fun z=>ab z s'.st)) (hz:md=true→ ∀f∈g'.fs,f none=I3∨((f none).boxes.length=s0.st.boxes.length∧ ∀z,f (some z)=(f none).addBox z)) (hm:md=false→g'.az=none)
 (hlk: ∀t p,s'.lk t=some p→(o.dst=some t∧g'.outs[g.outs.length]?=some (some p))∨(o.dst≠some t∧s.lk t=some p)) (hf:RE P n s0.st.boxes.length md l s0.env g' g.outs.length o):ah9 P n md l s0 g' s' where
 hs0:=by obtain⟨f,h1,h2⟩:=hv.hs0;exact⟨f,hle.fs _ _ h1,h2⟩
 hfl:=hfl
 hlast:=hlast
 hk:=by rw [hk,h0,hv.hk]
 hi:=by rw [hi,h0,hv.hi]
 hz:=hz
 hm:=hm
 hlk:=fun t p ht=>by
  rcases hlk t p ht with⟨h1,h2⟩|⟨h1,h2⟩
  ·exact .inl ⟨_,o,by omega,ho,h1,h2⟩
  ·rcases hv.hlk t p h2 with⟨j,oj,a,b,c,d⟩|⟨a,b⟩
   ·exact .inl ⟨j,oj,by omega,b,c,hle.outs _ _ d⟩
   ·refine .inr ⟨a,fun j oj hj hoj=>?_⟩
    rcases Nat.lt_or_ge j g.outs.length with hlt|hge
    ·exact b j oj hlt hoj
    ·obtain rfl:j=g.outs.length:=by omega
     rw [ho] at hoj
     cases hoj
     exact h1
 hf:=fun i oi hoi hi'=>by
  rcases Nat.lt_or_ge i g.outs.length with hlt|hge
  ·exact(hv.hf i oi hoi hlt).mono hle
  ·obtain rfl:i=g.outs.length:=by omega
   rw [ho] at hoi
   cases hoi
   exact hf
theorem zD{st1:dK}{p:PV}(t:Nat)(q:PV)(outs:List (Option PV))(k:Nat)(hk:outs[k]?=some (some p))(h:((⟨s.env,st1⟩:AS).putO o.dst p).lk t=some q):(o.dst=some t∧outs[k]?=some (some q))∨(o.dst≠some t∧s.lk t=some q):=by
 cases hd:o.dst with
 |none=>rw [hd] at h;exact .inr ⟨by simp,h⟩
 |some d=>
  rw [hd,X6] at h
  by_cases htd:t=d
  ·rw [if_pos htd] at h
   cases h
   exact .inl ⟨by rw [htd],hk⟩
  ·rw [if_neg htd] at h
   exact .inr ⟨fun e=>htd (Option.some.inj e).symm,h⟩
theorem zR(s:AS)(d:Option Nat)(p:PV):(s.putO d p).st=s.st:=by cases d<;>rfl
theorem WS.wd{g':DD}{b:Bool}(h:WS l s o b)(hv:ah9 P n md l s0 g s)(hle:g.le g'):WD l s0.env g'.outs g.outs.length o b:=by
 cases h with
 |n a=>exact .n a
 |y a b c=>exact .y a b (ON hle (hv.hlk _ _ c))
 |u a b c=>exact .u a b (ON hle (hv.hlk _ _ c))
theorem EP{g':DD}(hv:ah9 P n md l s0 g s)(hle:g.le g')(I:List Nat): ∀t q,(rs s I).lookup t=some q→t∈I∧W1 l s0.env g'.outs g.outs.length t q:=fun t q h=>⟨(ahX h).1,ON hle (hv.hlk t q (ahX h).2)⟩
theorem dI(I:List Nat){p:PV}(h: ∀ {C':q9} {st:dK},aV P C' n o ⟨rs s I,st⟩ ((⟨rs s I,st⟩:AS).putO o.dst p))(k:DW P C n id md l Q s0 ⟨g.outs++ [some p],g.ks++ [none],g.ins++ [I],g.effs,g.fs,g.rds,g.az⟩ (s.putO o.dst p) rest)(hg:WS l s o true:=by exact .n rfl):
 DW P C n id md l Q s0 g s (o::rest):=fun hv hr=>by
 obtain⟨ho,hd⟩:=uW hr
 have hle:g.le ⟨g.outs++ [some p],g.ks++ [none],g.ins++ [I],g.effs,g.fs,g.rds,g.az⟩:=⟨dV,dV,dV,fun _ _ h=>h,fun _ h=>h,fun _ h=>h⟩
 refine k (hv.next ho hle (by simp) (by simp) (by simp) hv.hfl (by rw [zR];exact hv.hlast) hv.hz hv.hm (fun t q hq=>zD t q _ _ (cD rfl) hq) ?_) (by simpa using hd)
 exact .does (hg.wd hv hle) (cD hv.hi) (EP hv hle I) (.q (cD hv.hk) (cD rfl) fun _ _=>h)
theorem dD(I:List Nat){p:PV}(h: ∀ {C':q9},aV P C' n o ⟨rs s I,s.st⟩ ((⟨rs s I,s.st⟩:AS).putO o.dst p))(k:DW P C n id false l Q s0 ⟨g.outs++ [some p],g.ks++ [some (.q g.effs.length g.effs.length)],g.ins++ [I],g.effs,g.fs,g.rds,g.az⟩ (s.putO o.dst p) rest)(hg:WS l s o true:=by exact .n rfl):
 DW P C n id false l Q s0 g s (o::rest):=fun hv hr=>by
 obtain⟨ho,hd⟩:=uW hr
 obtain⟨f,q1,-,q2,-⟩:=hv.hlast
 have q2:=q2 rfl
 subst q2
 have hle:g.le ⟨g.outs++ [some p],g.ks++ [some (.q g.effs.length g.effs.length)],g.ins++ [I],g.effs,g.fs,g.rds,g.az⟩:=⟨dV,dV,dV,fun _ _ h=>h,fun _ h=>h,fun _ h=>h⟩
 refine k (hv.next ho hle (by simp) (by simp) (by simp) hv.hfl (by rw [zR];exact hv.hlast) hv.hz hv.hm (fun t q hq=>zD t q _ _ (cD rfl) hq) ?_) (by simpa using hd)
 exact .does (hg.wd hv hle) (cD hv.hi) (EP hv hle I) (.c (cD hv.hk) (cD rfl) q1 fun _ _=>h)
def amE(P:Program)(n:Nat)(o:Oper)(s:AS)(I:List Nat)(kb:Nat)(X:Option (Option dO))(p:PV):Prop:= ∀C' (st:dK),st.boxes[kb]?=X→aV P C' n o ⟨rs s I,st⟩ ((⟨rs s I,st⟩:AS).putO o.dst p)
theorem dB(I:List Nat)(lo hi:Nat){kb:Nat}{X:Option (Option dO)}{p:PV}(h:amE P n o s I kb X p)(k:DW P C n id false l Q s0 ⟨g.outs++ [some p],g.ks++ [some (.q lo hi)],g.ins++ [I],g.effs,g.fs,g.rds++ [((lo,hi),kb,X)],g.az⟩ (s.putO o.dst p) rest)(hg:WS l s o true:=by exact .n rfl):
 DW P C n id false l Q s0 g s (o::rest):=fun hv hr=>by
 obtain⟨ho,hd⟩:=uW hr
 have hle:g.le ⟨g.outs++ [some p],g.ks++ [some (.q lo hi)],g.ins++ [I],g.effs,g.fs,g.rds++ [((lo,hi),kb,X)],g.az⟩:=⟨dV,dV,dV,fun _ _ h=>h,fun _ h=>List.mem_append_left _ h,fun _ h=>h⟩
 refine k (hv.next ho hle (by simp) (by simp) (by simp) hv.hfl (by rw [zR];exact hv.hlast) hv.hz hv.hm (fun t q hq=>zD t q _ _ (cD rfl) hq) ?_) (by simpa using hd)
 exact .does (hg.wd hv hle) (cD hv.hi) (EP hv hle I) (.r (cD hv.hk) (cD rfl) (by simp) (fun h=>by cases h) h)
theorem dBz(I:List Nat)(lo hi:Nat){kb:Nat}{X:Option (Option dO)}{p:PV}(h:amE P n o s I kb X p)(k:DW P C n id true l Q s0 ⟨g.outs++ [some p],g.ks++ [some (.q lo hi)],g.ins++ [I],g.effs,g.fs,g.rds++ [((lo,hi),kb,X)],g.az⟩ (s.putO o.dst p) rest)(hg:WS l s o true:=by exact .n rfl)(hkN:(decide (kb<s0.st.boxes.length))=true:=by exact rfl):
 DW P C n id true l Q s0 g s (o::rest):=fun hv hr=>by
 obtain⟨ho,hd⟩:=uW hr
 have hle:g.le ⟨g.outs++ [some p],g.ks++ [some (.q lo hi)],g.ins++ [I],g.effs,g.fs,g.rds++ [((lo,hi),kb,X)],g.az⟩:=⟨dV,dV,dV,fun _ _ h=>h,fun _ h=>List.mem_append_left _ h,fun _ h=>h⟩
 refine k (hv.next ho hle (by simp) (by simp) (by simp) hv.hfl (by rw [zR];exact hv.hlast) hv.hz hv.hm (fun t q hq=>zD t q _ _ (cD rfl) hq) ?_) (by simpa using hd)
 exact .does (hg.wd hv hle) (cD hv.hi) (EP hv hle I) (.r (cD hv.hk) (cD rfl) (by simp) (fun _=>of_decide_eq_true hkN) h)
theorem vQ{I:List Nat}{T:TypeId}{x:Operand}{kb d z:Nat}{bx:dO}{p:PV}(hT:cH P T=some (false,z))
 (ho:o.op= .load T x:=by exact rfl) (hd:bW o.dst n=true:=by exact rfl) (hx:(⟨rs s I,s.st⟩:AS).ev x=some (.ptr kb d):=by exact rfl) (hb:s.st.boxes[kb]?=some (some bx):=by exact rfl) (hc:bx.cells[d]?=some p:=by exact rfl):amE P n o s I kb (some (some bx)) p:=
 fun C' st hst=>aV.loadPtr1 ho hd (by cases x<;>exact hx) hst hT hc
theorem RC{I:List Nat}{T:TypeId}{x:Operand}{kb d z:Nat}{bx:dO}(cs:List PV)(hT:cH P T=some (true,z))
 (ho:o.op= .load T x:=by exact rfl) (hd:bW o.dst n=true:=by exact rfl) (hx:(⟨rs s I,s.st⟩:AS).ev x=some (.ptr kb d):=by exact rfl) (hb:s.st.boxes[kb]?=some (some bx):=by exact rfl) (hc:(bx.cells.drop d).take z=cs:=by exact rfl) (hl:cs.length=z:=by exact rfl):amE P n o s I kb (some (some bx)) (.agg cs):=
 fun C' st hst=>aV.loadPtr ho hd (by cases x<;>exact hx) hst hT hc hl
theorem dE(I:List Nat){p:PV}{st1:dK}(h: ∀ {C':q9},aV P C' n o ⟨rs s I,s.st⟩ ((⟨rs s I,st1⟩:AS).putO o.dst p))(k:DW P C n id false l Q s0 ⟨g.outs++ [some p],g.ks++ [some (.ef g.effs.length)],g.ins++ [I],g.effs++ [g.outs.length],g.fs++ [fun _=>st1],g.rds,g.az⟩ ((⟨s.env,st1⟩:AS).putO o.dst p) rest)(hg:WS l s o true:=by exact .n rfl):
 DW P C n id false l Q s0 g s (o::rest):=fun hv hr=>by
 obtain⟨ho,hd⟩:=uW hr
 obtain⟨f,q1,-,q2,-⟩:=hv.hlast
 have q2:=q2 rfl
 subst q2
 have hle:g.le ⟨g.outs++ [some p],g.ks++ [some (.ef g.effs.length)],g.ins++ [I],g.effs++ [g.outs.length],g.fs++ [fun _=>st1],g.rds,g.az⟩:=⟨dV,dV,dV,dV,fun _ h=>h,fun _ h=>h⟩
 refine k (hv.next ho hle (by simp) (by simp) (by simp) (by simp [hv.hfl]) (by rw [zR];exact⟨_,cD (by simp [hv.hfl]),rfl,fun _=>rfl,fun h=>by cases h⟩) (fun h=>by cases h) hv.hm (fun t q hq=>zD t q _ _ (cD rfl) hq) ?_) (by simpa using hd)
 exact .does (hg.wd hv hle) (cD hv.hi) (EP hv hle I) (.e (cD hv.hk) (cD rfl) (hle.fs _ _ q1) (cD hv.hfl) fun _ _=>h)
theorem m4(I:List Nat){st1:dK}(h: ∀ {C':q9},aV P C' n o ⟨rs s I,s.st⟩ ⟨rs s I,st1⟩)(k:DW P C n id false l Q s0 ⟨g.outs++ [none],g.ks++ [some (.ef g.effs.length)],g.ins++ [I],g.effs++ [g.outs.length],g.fs++ [fun _=>st1],g.rds,g.az⟩ ⟨s.env,st1⟩ rest)(hn:o.dst=none:=by exact rfl)(hg:WS l s o true:=by exact .n rfl):
 DW P C n id false l Q s0 g s (o::rest):=fun hv hr=>by
 obtain⟨ho,hd⟩:=uW hr
 obtain⟨f,q1,-,q2,-⟩:=hv.hlast
 have q2:=q2 rfl
 subst q2
 have hle:g.le ⟨g.outs++ [none],g.ks++ [some (.ef g.effs.length)],g.ins++ [I],g.effs++ [g.outs.length],g.fs++ [fun _=>st1],g.rds,g.az⟩:=⟨dV,dV,dV,dV,fun _ h=>h,fun _ h=>h⟩
 refine k (hv.next ho hle (by simp) (by simp) (by simp) (by simp [hv.hfl]) ⟨_,cD (by simp [hv.hfl]),rfl,fun _=>rfl,fun h=>by cases h⟩ (fun h=>by cases h) hv.hm (fun t q hq=> .inr ⟨by rw [hn];simp,hq⟩) ?_) (by simpa using hd)
 exact .does (hg.wd hv hle) (cD hv.hi) (EP hv hle I) (.e0 (cD hv.hk) hn (hle.fs _ _ q1) (cD hv.hfl) fun _ _=>h)
theorem dEz(I:List Nat){p:PV}{st1:dK}(h: ∀C' z,aV P C' n o ⟨rs s I,ab z s.st⟩ ((⟨rs s I,ab z st1⟩:AS).putO o.dst p))(k:DW P C n id true l Q s0 ⟨g.outs++ [some p],g.ks++ [some (.ef g.effs.length)],g.ins++ [I],g.effs++ [g.outs.length],g.fs++ [fun z=>ab z st1],g.rds,g.az⟩ ((⟨s.env,st1⟩:AS).putO o.dst p) rest)(hg:WS l s o true:=by exact .n rfl)(haz:g.az=none:=by exact rfl)(hlen:st1.boxes.length=s0.st.boxes.length:=by exact rfl):
 DW P C n id true l Q s0 g s (o::rest):=fun hv hr=>by
 obtain⟨ho,hd⟩:=uW hr
 obtain⟨f,q1,-,-,q2⟩:=hv.hlast
 have q2:=q2 rfl haz
 subst q2
 have hcz:g.cz=none:=by unfold DD.cz;rw [haz];rfl
 have hle:g.le ⟨g.outs++ [some p],g.ks++ [some (.ef g.effs.length)],g.ins++ [I],g.effs++ [g.outs.length],g.fs++ [fun z=>ab z st1],g.rds,g.az⟩:=⟨dV,dV,dV,dV,fun _ h=>h,fun _ h=>h⟩
 refine k (hv.next ho hle (by simp) (by simp) (by simp) (by simp [hv.hfl]) (by rw [zR];exact⟨_,cD (by simp [hv.hfl]),(by show ab g.cz st1=st1;rw [hcz];rfl),fun h=>(by cases h),fun _ _=>rfl⟩) (fun hmd f hf=>(List.mem_append.1 hf).elim (hv.hz hmd f) fun h=>by obtain rfl:=List.mem_singleton.1 h;exact .inr ⟨hlen,fun z=>rfl⟩) hv.hm (fun t q hq=>zD t q _ _ (cD rfl) hq) ?_) (by simpa using hd)
 exact .does (hg.wd hv hle) (cD hv.hi) (EP hv hle I) (.e (cD hv.hk) (cD rfl) (hle.fs _ _ q1) (cD hv.hfl) h)
theorem dA{zb:dO}(h: ∀C' st,st.boxes.length=s0.st.boxes.length→aV P C' n o ⟨[],st⟩ ((⟨[],st.addBox zb⟩:AS).putO o.dst (.ptr s0.st.boxes.length 0)))(k:DW P C n id true l Q s0 ⟨g.outs++ [some (.ptr s0.st.boxes.length 0)],g.ks++ [some .al],g.ins++ [[]],g.effs,g.fs,g.rds,some (g.outs.length,zb)⟩ ((⟨s.env,s.st.addBox zb⟩:AS).putO o.dst (.ptr s0.st.boxes.length 0)) rest)(hg:WS l s o true:=by exact .n rfl)(haz:g.az=none:=by exact rfl):
 DW P C n id true l Q s0 g s (o::rest):=fun hv hr=>by
 obtain⟨ho,hd⟩:=uW hr
 obtain⟨f,q1,-,-,q2⟩:=hv.hlast
 have q2:=q2 rfl haz
 subst q2
 have hle:g.le ⟨g.outs++ [some (.ptr s0.st.boxes.length 0)],g.ks++ [some .al],g.ins++ [[]],g.effs,g.fs,g.rds,some (g.outs.length,zb)⟩:=⟨dV,dV,dV,fun _ _ h=>h,fun _ h=>h,fun x h=>by rw [haz] at h;cases h⟩
 refine k (hv.next ho hle (by simp) (by simp) (by simp) hv.hfl ⟨_,q1,by rw [zR];rfl,fun h=>(by cases h),fun _ h=>by cases h⟩ hv.hz (fun h=>by cases h) (fun t q hq=>zD t q _ _ (cD rfl) hq) ?_) (by simpa using hd)
 exact .does (E:= []) (hg.wd hv hle) (cD hv.hi) (fun t q h=>by cases h) (.al rfl rfl (cD hv.hk) (cD rfl) h)
theorem dZ(t:Nat)(I:List Nat){off a:Nat}{zb:dO}{st1:dK}(h: ∀ {C':q9},aV P C' n o ⟨rs s I,s.st⟩ ⟨rs s I,st1⟩)(k:DW P C n id true l Q s0 ⟨g.outs++ [none],g.ks++ [some (.ef g.effs.length)],g.ins++ [I],g.effs++ [g.outs.length],g.fs++ [tw st1],g.rds,g.az⟩ ⟨s.env,st1⟩ rest)(hn:o.dst=none:=by exact rfl)(hg:WS l s o true:=by exact .n rfl)(haz:g.az=some (a,zb):=by exact rfl)(hp:(rs s I).lookup t=some (.ptr s0.st.boxes.length off):=by exact rfl):
 DW P C n id true l Q s0 g s (o::rest):=fun hv hr=>by
 obtain⟨ho,hd⟩:=uW hr
 obtain⟨f,q1,q2,-,-⟩:=hv.hlast
 have hcz:g.cz=some zb:=by unfold DD.cz;rw [haz];rfl
 rw [hcz] at q2
 have q3:=hv.hz rfl f (List.mem_iff_getElem?.2 ⟨_,q1⟩)
 have hle:g.le ⟨g.outs++ [none],g.ks++ [some (.ef g.effs.length)],g.ins++ [I],g.effs++ [g.outs.length],g.fs++ [tw st1],g.rds,g.az⟩:=⟨dV,dV,dV,dV,fun _ h=>h,fun _ h=>h⟩
 refine k (hv.next ho hle (by simp) (by simp) (by simp) (by simp [hv.hfl]) ⟨_,cD (by simp [hv.hfl]),(by show tw st1 g.cz=st1;rw [hcz];rfl),fun h=>(by cases h),fun _ h=>(by rw [show g.az=none from h] at haz;cases haz)⟩ (fun hmd f hf=>(List.mem_append.1 hf).elim (hv.hz hmd f) fun h=>by obtain rfl:=List.mem_singleton.1 h;exact .inl rfl) hv.hm (fun t q hq=> .inr ⟨by rw [hn];simp,hq⟩) ?_) (by simpa using hd)
 exact .does (hg.wd hv hle) (cD hv.hi) (EP hv hle I) (.ea haz (cD hv.hk) hn (hle.fs _ _ q1) (cD hv.hfl) hp (q3.imp (fun x=>x) (·.1)) (by rw [q2];exact fun _=>h))
theorem vAl{T:TypeId}{ps:List PV}{st:dK}{N:Nat}(hN:st.boxes.length=N)(hz:c7 P T=some ps)(ho:o.op= .alloc T:=by exact rfl)(hd:bW o.dst n=true:=by exact rfl):aV P C n o ⟨[],st⟩ ((⟨[],st.addBox ⟨T,ps⟩⟩:AS).putO o.dst (.ptr N 0)):=by
 subst hN
 exact aV.alloc (s:=⟨[],st⟩) ho hd hz
theorem dS(k:DW P C n id md l Q s0 ⟨g.outs++ [some (.tup [])],g.ks++ [none],g.ins++ [[]],g.effs,g.fs,g.rds,g.az⟩ (s.putO o.dst (.tup [])) rest)(hg:WS l s o false)(hd':bW o.dst n=true):
 DW P C n id md l Q s0 g s (o::rest):=fun hv hr=>by
 obtain⟨ho,hd⟩:=uW hr
 have hle:g.le ⟨g.outs++ [some (.tup [])],g.ks++ [none],g.ins++ [[]],g.effs,g.fs,g.rds,g.az⟩:=⟨dV,dV,dV,fun _ _ h=>h,fun _ h=>h,fun _ h=>h⟩
 refine k (hv.next ho hle (by simp) (by simp) (by simp) hv.hfl (by rw [zR];exact hv.hlast) hv.hz hv.hm (fun t q hq=>zD t q _ _ (cD rfl) hq) ?_) (by simpa using hd)
 exact .skip (hg.wd hv hle) (cD hv.hk) (cD rfl) hd'
theorem H8{j d:Nat}{b c e:Bool}(hv:b=e)(k:DW P C n id md l Q s0 ⟨g.outs++ [some (.tup [])],g.ks++ [none],g.ins++ [[]],g.effs,g.fs,g.rds,g.az⟩ (s.putO o.dst (.tup [])) rest)(hg:o.guard=some (j,c):=by exact rfl)(hj:(l[j]?).bind (·.dst)=some d:=by exact rfl)(hb:s.lk d=some (.t (.leaf (.bool b))):=by exact rfl)(hne:(e==c)=false:=by exact rfl)(hd':bW o.dst n=true:=by exact rfl):
 DW P C n id md l Q s0 g s (o::rest):=dS k (by subst hv;have:=WS.y hg hj hb;rwa [hne] at this) hd'
theorem dSu{j d:Nat}{c:Bool}(k:DW P C n id md l Q s0 ⟨g.outs++ [some (.tup [])],g.ks++ [none],g.ins++ [[]],g.effs,g.fs,g.rds,g.az⟩ (s.putO o.dst (.tup [])) rest)(hg:o.guard=some (j,c):=by exact rfl)(hj:(l[j]?).bind (·.dst)=some d:=by exact rfl)(hb:s.lk d=some (.tup []):=by exact rfl)(hd':bW o.dst n=true:=by exact rfl):
 DW P C n id md l Q s0 g s (o::rest):=dS k (.u hg hj hb) hd'
theorem bE{j d:Nat}{b c:Bool}(hv:b=c)(hg:o.guard=some (j,c):=by exact rfl)(hj:(l[j]?).bind (·.dst)=some d:=by exact rfl)(hb:s.lk d=some (.t (.leaf (.bool b))):=by exact rfl):WS l s o true:=by
 subst hv
 have:=WS.y hg hj hb
 rwa [BEq.rfl] at this
theorem akR{ops:Array Oper}(h: ∀i o,ops[i]?=some o→ ∀e∈o.after,Region.binds .any e=true→e.on<i): ∀(fuel i j:Nat),OS ops fuel i j=true→i<j
 |0,_,_,h'=>by simp [OS] at h'
 |fuel+1,i,j,h'=>by
  simp only [OS] at h'
  split at h'
  ·rename_i o ho
   rw [List.any_eq_true] at h'
   obtain⟨e,he,h'⟩:=h'
   simp only [Bool.and_eq_true,Bool.or_eq_true,beq_iff_eq] at h'
   have h1:=h j o ho e (by simpa using he) h'.1
   rcases h'.2 with h2|h2
   ·omega
   ·have:=akR h fuel i e.on h2
    omega
  ·cases h'
def UB(l:List Oper)(i t:Nat):Option Nat:=match oY l.toArray t with
 |some j=>if j<i then some j else none
 |none=>none
def DD.draw(g:DD)(l:List Oper)(s0:AS):dT where
 ops:=l.toArray
 env0:=s0.env
 F:=fun j b=>match g.fs[j]? with
  |some f=>f (bif b then g.cz else none)
  |none=>ab (bif b then g.cz else none) s0.st
 out:=fun i=>(g.outs[i]?).getD none
 kind:=fun i=>match g.ks[i]? with
  |some (some k)=>k
  |_=> .q 0 g.effs.length
 effs:=g.effs
 alloc:=g.az.map (·.1)
 ins:=fun i=>((g.ins[i]?).getD []).map fun t=>(t,UB l i t)
def alD(fs:List (Option dO→dK))(z:Option dO)(x:(Nat×Nat)×Nat×Option (Option dO)):List (Option (Option (Option dO))):=(List.range' x.1.1 (x.1.2+1-x.1.1)).map fun j=>(fs[j]?).map fun f=>(f z).boxes[x.2.1]?
def alC(x:(Nat×Nat)×Nat×Option (Option dO)):List (Option (Option (Option dO))):=(List.range' x.1.1 (x.1.2+1-x.1.1)).map fun _=>some x.2.2
theorem OP(hn:yG l.toArray=true){j t:Nat}(ho:l[j]?=some o)(hd:o.dst=some t):oY l.toArray t=some j:=gS hn (by simpa using ho) hd
theorem apH{fs:List (Option dO→dK)}{z:Option dO}{rds:List ((Nat×Nat)×Nat×Option (Option dO))}(h:rds.map (alD fs z)=rds.map alC){lo hi kb j:Nat}{X:Option (Option dO)}(hm:((lo,hi),kb,X)∈rds)(h1:lo≤j)(h2:j≤hi){f:Option dO→dK}(hs:fs[j]?=some f):(f z).boxes[kb]?=X:=by
 have e:=List.map_inj_left.1 h _ hm
 unfold alD alC at e
 have:=List.map_inj_left.1 e j (by simp [List.mem_range'];exact⟨j-lo,by omega,by omega⟩)
 simpa [hs] using this
theorem dN(h:Q .normal s)(hm:P.follows .mixedOrders=true:=by exact ahR)(hok:(g.draw l s0).ok=true:=by kernel_rfl)(hrd:g.rds.map (alD g.fs g.cz)=g.rds.map alC:=by kernel_rfl):DW P C n id md l Q s0 g s []:=fun hv hr=>by
 have hlen:l.length≤g.outs.length:=by
  have:=congrArg List.length hr
  simp at this
  omega
 have hok':=hok
 simp only [dT.ok,Bool.and_eq_true] at hok'
 have hn:yG l.toArray=true:=hok'.1.1.1.2
 have hpv: ∀i t q,W1 l s0.env g.outs i t q→(g.draw l s0).pv (t,UB l i t)=some q:=fun i t q hs=>by
  rcases hs with⟨j,oj,h1,h2,h3,h4⟩|⟨h1,h2⟩
  ·have hw:=OP hn h2 h3
   unfold UB
   rw [hw]
   dsimp only
   rw [if_pos h1]
   show(g.outs[j]?).getD none=some q
   rw [h4]
   rfl
  ·have hw:UB l i t=none:=by
    unfold UB
    split
    ·rename_i j hj
     obtain⟨-,oj,h3,h4⟩:=u9 hj
     split
     ·rename_i hji
      exact absurd h4 (h2 j oj hji (by simpa using h3))
     ·rfl
    ·rfl
   rw [hw]
   exact h1
 have hF: ∀ {j:Nat} {f:Option dO→dK},g.fs[j]?=some f→ ∀b,(g.draw l s0).F j b=f (bif b then g.cz else none):=fun {j f} hj b=>by show(match g.fs[j]? with|some f=>f (bif b then g.cz else none)|none=>ab (bif b then g.cz else none) s0.st)=_;rw [hj]
 have hK: ∀ {i:Nat} {k:DK},g.ks[i]?=some (some k)→(g.draw l s0).kind i=k:=fun {i k} hk=>by show(match g.ks[i]? with|some (some k)=>k|_=> .q 0 g.effs.length)=_;rw [hk]
 have hK0: ∀ {i:Nat},g.ks[i]?=some none→(g.draw l s0).kind i= .q 0 g.effs.length:=fun {i} hk=>by show(match g.ks[i]? with|some (some k)=>k|_=>DK.q 0 g.effs.length)=_;rw [hk]
 have hout: ∀ {i:Nat} {p:PV},g.outs[i]?=some (some p)→(g.draw l s0).out i=some p:=fun hp=>by show(g.outs[_]?).getD none=_;rw [hp];rfl
 have hops:=hok'.1.1.1.1
 rw [List.all_eq_true] at hops
 have hgs: ∀(i:Nat) (o:Oper) (j d:Nat) (c:Bool) (p:PV),l[i]?=some o→o.guard=some (j,c)→(l[j]?).bind (·.dst)=some d→W1 l s0.env g.outs i d p→(g.draw l s0).out j=some p:=fun i o j d c p ho hg hj hs=>by
  obtain⟨oj,hoj,hdj⟩: ∃oj,l[j]?=some oj∧oj.dst=some d:=by
   cases hx:l[j]? with
   |none=>rw [hx] at hj;cases hj
   |some oj=>rw [hx] at hj;exact⟨oj,rfl,hj⟩
  have hw:=OP hn hoj hdj
  rcases hs with⟨j',oj',h1,h2,h3,h4⟩|⟨h1,h2⟩
  ·have hw':=OP hn h2 h3
   rw [hw] at hw'
   cases hw'
   exact hout h4
  ·have hil:=(List.getElem?_eq_some_iff.1 ho).1
   have h5:=hops i (by simpa [DD.draw] using hil)
   have ho':(g.draw l s0).ops[i]?=some o:=by simpa [DD.draw] using ho
   simp only [dT.okOp,ho',hg,Bool.and_eq_true] at h5
   have h6:(g.draw l s0).anc j i=true:=h5.2.1
   have:=akR (fun i' o' ho' e he hb=>by
    have hil':=(Array.getElem?_eq_some_iff.1 ho').1
    have h7:=hops i' (by simpa using hil')
    simp only [dT.okOp,ho',Bool.and_eq_true,Array.all_eq_true'] at h7
    have h3:=h7.1 e he
    simpa [hb] using h3) _ _ _ h6
   exact absurd hdj (h2 j oj this hoj)
 have hwant: ∀ {i:Nat} {o:Oper} {b:Bool},l[i]?=some o→WD l s0.env g.outs i o b→(g.draw l s0).want o=some b:=fun {i o b} ho hw=>by
  unfold dT.want
  cases hw with
  |n a=>rw [a]
  |y a b c=>rw [a];dsimp only;rw [hgs _ _ _ _ _ _ ho a b c]
  |u a b c=>rw [a];dsimp only;rw [hgs _ _ _ _ _ _ ho a b c]
 have hstep: ∀i o,(g.draw l s0).ops[i]?=some o→(g.draw l s0).step P C n i o:=fun i o ho=>by
  have ho':l[i]?=some o:=by simpa [DD.draw] using ho
  obtain⟨hil,-⟩:=List.getElem?_eq_some_iff.1 ho'
  cases hv.hf i o ho' (by omega) with
  |does h1 h2 h3 h4=>
   rename_i E I
   refine .inl ⟨hwant ho' h1,?_⟩
   have hl: ∀s':AS,(∀t src p,(t,src)∈(g.draw l s0).ins i→(g.draw l s0).pv (t,src)=some p→s'.lk t=some p)→ ∀t q,E.lookup t=some q→s'.lk t=some q:=fun s' hl t q ht=>by
    obtain⟨h5,h6⟩:=h3 t q ht
    refine hl t (UB l i t) q ?_ (hpv i t q h6)
    show(t,UB l i t)∈((g.ins[i]?).getD []).map _
    rw [h2]
    exact List.mem_map.2 ⟨t,h5,rfl⟩
   unfold dT.does
   cases h4 with
   |q a b c=>
    rw [hK0 a]
    exact fun s' j bb _ _ hs hin=>⟨_,hout b,aV.frame (st:=s'.st) (fun C'=>c C' s'.st) rfl (hl s' hin)⟩
   |r a b c kN d=>
    rename_i lo hi kb X p
    have hk:=hK a
    rw [hk]
    intro s' j bb q1 q2 hs hin
    have hjl:hi<g.fs.length:=by
     have:=hok'.1.1.2
     rw [List.all_eq_true] at this
     have:=this i (by simpa [DD.draw] using hil)
     simp only [Bool.and_eq_true,dT.okKind,hk] at this
     have h9:=this.1.1.1.1.1.2
     simp only [decide_eq_true_eq] at h9
     have h10:hi≤g.effs.length:=h9
     rw [hv.hfl]
     omega
    obtain⟨f,hst⟩: ∃f,g.fs[j]?=some f:=⟨_,List.getElem?_eq_getElem (by omega)⟩
    have hX:=apH hrd c q1 q2 hst
    rw [hF hst] at hs
    have hcase:s'.st=f g.cz∨(md=true∧s'.st=f none):=by
     cases bb with
     |true=>exact .inl hs
     |false=>
      cases md with
      |true=>exact .inr ⟨rfl,hs⟩
      |false=>
       have:g.cz=none:=by unfold DD.cz;rw [hv.hm rfl];rfl
       rw [this]
       exact .inl hs
    rcases hcase with hs|⟨hmd,hs⟩
    ·exact⟨_,hout b,aV.frame (st:=s'.st) (fun C'=>d C' s'.st (by rw [hs];exact hX)) rfl (hl s' hin)⟩
    ·rcases hv.hz hmd f (List.mem_iff_getElem?.2 ⟨_,hst⟩) with h9|⟨h9,h10⟩
     ·exact⟨_,hout b,aV.bad (by rw [hs,h9])⟩
     ·refine⟨_,hout b,aV.frame (st:=s'.st) (fun C'=>d C' s'.st ?_) rfl (hl s' hin)⟩
      rw [hs,← hX]
      cases hz:g.cz with
      |none=>rfl
      |some z=>
       rw [h10 z]
       show _=((f none).boxes++ [some z])[kb]?
       rw [List.getElem?_append_left (by rw [h9];exact kN hmd)]
   |c a b c d=>
    rename_i j f p
    rw [hK a]
    refine fun s' jj bb q1 q2 hs hin=>⟨_,hout b,?_⟩
    obtain rfl:jj=j:=by omega
    exact aV.frame (st:=s'.st) (fun C'=>by rw [hs,hF c];exact d C' _) rfl (hl s' hin)
   |e a b c d e=>
    rename_i j f f1 p
    rw [hK a]
    refine fun s' bb hs hin=> .inl ⟨_,hout b,?_⟩
    rw [hF d]
    exact aV.frame (fun C'=>e C' _) (by rw [hs,hF c]) (hl s' hin)
   |e0 a b c d e=>
    rename_i j f f1
    rw [hK a]
    refine fun s' bb hs hin=> .inr ⟨b,?_⟩
    rw [hF d]
    exact aV.frame0 b (fun C'=>e C' _) (by rw [hs,hF c]) (hl s' hin)
   |ea z a b c d e f q=>
    rename_i j a' t off zb f0 f1
    have hcz:g.cz=some zb:=by unfold DD.cz;rw [z];rfl
    rw [hK a]
    refine fun s' bb hs hin=> .inr ⟨b,?_⟩
    rw [hF d]
    rw [hF c] at hs
    cases bb with
    |true=>
     rw [hcz] at hs ⊢
     exact aV.frame0 b q hs (hl s' hin)
    |false=>
     rcases f with f|f
     ·exact aV.bad (hs.trans f)
     ·refine aV.away (hl s' hin t _ e) ?_
      rw [hs]
      show(f0 none).boxes[_]?=none
      rw [List.getElem?_eq_none (by rw [f];exact Nat.le_refl _)]
   |al hmd z a b c=>
    rename_i zb
    have hcz:g.cz=some zb:=by unfold DD.cz;rw [z];rfl
    rw [hK a]
    refine fun s' j hs=>⟨_,hout b,?_⟩
    have key:s'.st=I3∨(s'.st.boxes.length=s0.st.boxes.length∧(g.draw l s0).F j true=s'.st.addBox zb):=by
     cases hj:g.fs[j]? with
     |none=>
      have h8: ∀b,(g.draw l s0).F j b=ab (bif b then g.cz else none) s0.st:=fun b=>by show(match g.fs[j]? with|some f=>f (bif b then g.cz else none)|none=>ab (bif b then g.cz else none) s0.st)=_;rw [hj]
      rw [h8] at hs ⊢
      refine .inr ⟨by rw [hs];rfl,?_⟩
      rw [hs,hcz]
      rfl
     |some f=>
      rw [hF hj] at hs ⊢
      rcases hv.hz hmd f (List.mem_iff_getElem?.2 ⟨_,hj⟩) with h9|⟨h9,h10⟩
      ·exact .inl (hs.trans h9)
      ·refine .inr ⟨by rw [hs];exact h9,?_⟩
       rw [hs,hcz]
       exact h10 zb
    rcases key with h9|⟨h9,h10⟩
    ·exact aV.bad h9
    ·rw [h10]
     exact aV.frame (E:= []) (fun C'=>c C' s'.st h9) rfl (fun t q h=>by cases h)
  |skip h1 h2 h3 h4=>exact .inr ⟨hwant ho' h1,⟨_,_,hK0 h2⟩,.inr ⟨hout h3,h4⟩⟩
 intro m a w hra
 refine wp_mono (aO.drawn (g.draw l s0) (Q:=fun e s'=>e= .normal∧s'=⟨((List.range (g.draw l s0).ops.size).filterMap ((g.draw l s0).gX (Array.replicate (g.draw l s0).ops.size true)))++(g.draw l s0).env0,(g.draw l s0).F (g.draw l s0).effs.length (g.draw l s0).alloc.isSome⟩) hm hok rfl (by obtain⟨f,h1,h2⟩:=hv.hs0;rw [hF h1];exact h2.symm) hstep ⟨rfl,rfl⟩ m a w hra) fun e a' w'=>?_;rintro⟨s',m',⟨rfl,rfl⟩,h2⟩
 obtain⟨f,q1,q2,-,-⟩:=hv.hlast
 refine⟨s,m',h,RA.congr h2 ((hF q1 _).trans (Eq.trans (by cases ha:g.az with|none=>(show f (bif (g.az.map (·.1)).isSome then g.cz else none)=f g.cz;unfold DD.cz;rw [ha];rfl)|some x=>(show f (bif (g.az.map (·.1)).isSome then g.cz else none)=f g.cz;unfold DD.cz;rw [ha];rfl)) q2)) fun t p ht=>?_⟩
 show((g.draw l s0).sX (Array.replicate (g.draw l s0).ops.size true)).lk t=some p
 rcases hv.hlk t p ht with⟨j,oj,h1,h3,h4,h5⟩|⟨h1,h3⟩
 ·have hjl:j<l.length:=(List.getElem?_eq_some_iff.1 h3).1
  exact JJ hn (i:=j) (o:=oj) (by have:j<(g.draw l s0).ops.size:=(by simpa [DD.draw] using hjl);simp [Array.getD_eq_getD_getElem?,this]) (by simpa [DD.draw] using h3) h4 (hout h5)
 ·rw [FV hn fun i hi=>?_]
  ·exact h1
  ·obtain⟨hil,oi,h6,h7⟩:=u9 hi
   exact absurd h7 (h3 i oi (by have:i<l.length:=(by simpa [DD.draw] using hil);omega) (by simpa [DD.draw] using h6))
end
end Go.Proofs.YtpioomclpaiomaaGreat

namespace Go.Proofs.YtpioomclpaiomaaGreat
instance:TC aC:=⟨aC.cs,aC.trs,2,aC.trs_at,aC.trs_len,fun l=>by rw [aC.trs_map];exact List.map_congr_left fun x _=>aC.tr_cs x,fun _=>rfl⟩
abbrev cK(l:List aC):PV:= .t (.row 2 (aC.trs l))
abbrev f8(l:List aC)(r:Nat):PV:= .acc 2 (aC.trs l) r
instance:TC aA:=⟨aA.cs,aA.trs,3,aA.trs_at,aA.trs_len,fun l=>by rw [aA.trs_map];exact List.map_congr_left fun x _=>aA.tr_cs x,fun _=>rfl⟩
abbrev aW(l:List aA):PV:= .t (.row 3 (aA.trs l))
abbrev WA(l:List aA)(r:Nat):PV:= .acc 3 (aA.trs l) r
instance:TC aH:=⟨aH.cs,aH.trs,9,aH.trs_at,aH.trs_len,fun l=>by rw [aH.trs_map];exact List.map_congr_left fun x _=>aH.tr_cs x,fun _=>rfl⟩
abbrev fZ(l:List aH):PV:= .t (.row 9 (aH.trs l))
abbrev anD(l:List aH)(r:Nat):PV:= .acc 9 (aH.trs l) r
instance:TC bM:=⟨bM.cs,bM.trs,11,bM.trs_at,bM.trs_len,fun l=>by rw [bM.trs_map];exact List.map_congr_left fun x _=>bM.tr_cs x,fun _=>rfl⟩
abbrev nG(l:List bM):PV:= .t (.row 11 (bM.trs l))
abbrev anZ(l:List bM)(r:Nat):PV:= .acc 11 (bM.trs l) r
instance:TC aI:=⟨aI.cs,aI.trs,4,aI.trs_at,aI.trs_len,fun l=>by rw [aI.trs_map];exact List.map_congr_left fun x _=>aI.tr_cs x,fun _=>rfl⟩
abbrev fD(l:List aI):PV:= .t (.row 4 (aI.trs l))
abbrev akO(l:List aI)(r:Nat):PV:= .acc 4 (aI.trs l) r
instance:TC aR:=⟨aR.cs,aR.trs,4,aR.trs_at,aR.trs_len,fun l=>by rw [aR.trs_map];exact List.map_congr_left fun x _=>aR.tr_cs x,fun _=>rfl⟩
abbrev SO(l:List aR):PV:= .t (.row 4 (aR.trs l))
abbrev XD(l:List aR)(r:Nat):PV:= .acc 4 (aR.trs l) r
instance:TC aN:=⟨aN.cs,aN.trs,11,aN.trs_at,aN.trs_len,fun l=>by rw [aN.trs_map];exact List.map_congr_left fun x _=>aN.tr_cs x,fun _=>rfl⟩
abbrev jK(l:List aN):PV:= .t (.row 11 (aN.trs l))
abbrev QQ(l:List aN)(r:Nat):PV:= .acc 11 (aN.trs l) r
instance:TC aD:=⟨aD.cs,aD.trs,2,aD.trs_at,aD.trs_len,fun l=>by rw [aD.trs_map];exact List.map_congr_left fun x _=>aD.tr_cs x,fun _=>rfl⟩
abbrev fM(l:List aD):PV:= .t (.row 2 (aD.trs l))
abbrev wT(l:List aD)(r:Nat):PV:= .acc 2 (aD.trs l) r
instance:TC aE:=⟨aE.cs,aE.trs,16,aE.trs_at,aE.trs_len,fun l=>by rw [aE.trs_map];exact List.map_congr_left fun x _=>aE.tr_cs x,fun _=>rfl⟩
abbrev lT(l:List aE):PV:= .t (.row 16 (aE.trs l))
abbrev lQ(l:List aE)(r:Nat):PV:= .acc 16 (aE.trs l) r
instance:TC aU:=⟨aU.cs,aU.trs,5,aU.trs_at,aU.trs_len,fun l=>by rw [aU.trs_map];exact List.map_congr_left fun x _=>aU.tr_cs x,fun _=>rfl⟩
abbrev YA(l:List aU):PV:= .t (.row 5 (aU.trs l))
abbrev xQ(l:List aU)(r:Nat):PV:= .acc 5 (aU.trs l) r
instance:TC aM:=⟨aM.cs,aM.trs,3,aM.trs_at,aM.trs_len,fun l=>by rw [aM.trs_map];exact List.map_congr_left fun x _=>aM.tr_cs x,fun _=>rfl⟩
abbrev sT(l:List aM):PV:= .t (.row 3 (aM.trs l))
abbrev m6(l:List aM)(r:Nat):PV:= .acc 3 (aM.trs l) r
instance:TC aG:=⟨aG.cs,aG.trs,12,aG.trs_at,aG.trs_len,fun l=>by rw [aG.trs_map];exact List.map_congr_left fun x _=>aG.tr_cs x,fun _=>rfl⟩
abbrev nH(l:List aG):PV:= .t (.row 12 (aG.trs l))
abbrev m8(l:List aG)(r:Nat):PV:= .acc 12 (aG.trs l) r
instance:TC aK:=⟨aK.cs,aK.trs,16,aK.trs_at,aK.trs_len,fun l=>by rw [aK.trs_map];exact List.map_congr_left fun x _=>aK.tr_cs x,fun _=>rfl⟩
abbrev FZ(l:List aK):PV:= .t (.row 16 (aK.trs l))
abbrev m7(l:List aK)(r:Nat):PV:= .acc 16 (aK.trs l) r
instance:TC aJ:=⟨aJ.cs,aJ.trs,6,aJ.trs_at,aJ.trs_len,fun l=>by rw [aJ.trs_map];exact List.map_congr_left fun x _=>aJ.tr_cs x,fun _=>rfl⟩
abbrev bZ(l:List aJ):PV:= .t (.row 6 (aJ.trs l))
abbrev rE(l:List aJ)(r:Nat):PV:= .acc 6 (aJ.trs l) r
instance:TC aP:=⟨aP.cs,aP.trs,1,aP.trs_at,aP.trs_len,fun l=>by rw [aP.trs_map];exact List.map_congr_left fun x _=>aP.tr_cs x,fun _=>rfl⟩
instance:TC aB:=⟨aB.cs,aB.trs,2,aB.trs_at,aB.trs_len,fun l=>by rw [aB.trs_map];exact List.map_congr_left fun x _=>aB.tr_cs x,fun _=>rfl⟩
abbrev bJ(l:List aB):PV:= .t (.row 2 (aB.trs l))
abbrev eL(l:List aB)(r:Nat):PV:= .acc 2 (aB.trs l) r
instance:TC bG:=⟨bG.cs,bG.trs,6,bG.trs_at,bG.trs_len,fun l=>by rw [bG.trs_map];exact List.map_congr_left fun x _=>bG.tr_cs x,fun _=>rfl⟩
instance:TC aL:=⟨aL.cs,aL.trs,4,aL.trs_at,aL.trs_len,fun l=>by rw [aL.trs_map];exact List.map_congr_left fun x _=>aL.tr_cs x,fun _=>rfl⟩
abbrev p8(l:List aL):PV:= .t (.row 4 (aL.trs l))
abbrev vB(l:List aL)(r:Nat):PV:= .acc 4 (aL.trs l) r
abbrev c5(x:aA):List PV:= [pI x.gKind,pS x.gName,aW x.gArgs]
abbrev iR(x:aH):List PV:= [pI x.gKind,pS x.gTrait,pS x.gName,pI x.gN,pI x.gType.gKind,pS x.gType.gName,aW x.gType.gArgs,fZ x.gArgs,nG x.gArms]
abbrev rV(x:aI):List PV:= [pS x.gTrait,pI x.gType.gKind,pS x.gType.gName,aW x.gType.gArgs]
abbrev aeI(x:aE):List PV:= [pS x.gName,aW x.gParams,pI x.gResult.gKind,pS x.gResult.gName,aW x.gResult.gArgs,pB x.gHasDefault,rS x.gVars,pI x.gBody.gKind,pS x.gBody.gTrait,pS x.gBody.gName,pI x.gBody.gN,pI x.gBody.gType.gKind,pS x.gBody.gType.gName,aW x.gBody.gType.gArgs,fZ x.gBody.gArgs,nG x.gBody.gArms]
abbrev D5(x:aU):List PV:= [pS x.gName,rS x.gSupertraits,pB x.gAuto,pB x.gAssoc,lT x.gSignatures]
abbrev xF(x:aM):List PV:= [pS x.gName,rS x.gVars,fM x.gConstructors]
abbrev eH(x:aG):List PV:= [pS x.gTrait,rS x.gVars,pI x.gHead.gKind,pS x.gHead.gName,aW x.gHead.gArgs,fD x.gWhere,pB x.gDefault,pB x.gHasAssoc,pI x.gAssoc.gKind,pS x.gAssoc.gName,aW x.gAssoc.gArgs,jK x.gMethods]
abbrev xG(x:aK):List PV:= [pS x.gName,rS x.gVars,fD x.gWhere,SO x.gParams,pI x.gResult.gKind,pS x.gResult.gName,aW x.gResult.gArgs,pI x.gBody.gKind,pS x.gBody.gTrait,pS x.gBody.gName,pI x.gBody.gN,pI x.gBody.gType.gKind,pS x.gBody.gType.gName,aW x.gBody.gType.gArgs,fZ x.gBody.gArgs,nG x.gBody.gArms]
abbrev gG(x:aJ):List PV:= [pS x.gName,rS x.gDeps,YA x.gTraits,sT x.gDataTypes,nH x.gInstances,FZ x.gFunctions]
end Go.Proofs.YtpioomclpaiomaaGreat

namespace Go.Proofs.YtpioomclpaiomaaGreat
abbrev AW:ByteArray:=⟨#[40,99,97,108,108,32,98,111,116,104,32,40,99,97,108,108,32,105,100,32,40,99,97,108,108,32,105,100,32,40,110,101,119,32,116,97,103,32,50,41,41,41,41]⟩
abbrev dG:ByteArray:=⟨(List.append [32,40,105,110,115,116,32,115,104,111,119,32,40,41,32,105,110,116,32,40,41,32,40,41,32,40,41,32,40,109,32,40,120,41,32,120,41,41,32,40,105,110,115] [116,32,115,104,111,119,32,40,41,32,98,111,111,108,32,40,41,32,40,41,32,40,41,32,40,109,32,40,120,41,32,40,105,102,32,120,32,49,32,48,41,41,41]).toArray⟩
abbrev AX:ByteArray:=⟨(List.append [40,108,101,116,32,122,32,40,109,101,116,104,111,100,32,97,100,100,32,112,108,117,115,32,40,110,101,119,32,98,111,120,32,49] [41,32,40,110,101,119,32,98,111,120,32,50,41,41,32,40,99,97,115,101,32,122,32,40,98,111,120,32,110,32,110,41,41,41]).toArray⟩
abbrev f9:ByteArray:=⟨(List.append [32,40,105,110,115,116,32,101,113,32,40,97,41,32,40,98,111,120,32,39,97,41,32,40,40,101,113,32,39,97,41,41,32,40,41,32,40,41,32,40,115,97,109,101,32,40,120,32,121,41,32,40,99] [97,115,101,32,120,32,40,98,111,120,32,112,32,40,99,97,115,101,32,121,32,40,98,111,120,32,113,32,40,109,101,116,104,111,100,32,101,113,32,115,97,109,101,32,112,32,113,41,41,41,41,41,41,41]).toArray⟩
abbrev AY:ByteArray:=⟨#[40,99,97,108,108,32,98,111,116,104,32,40,110,101,119,32,112,97,105,114,32,51,32,116,114,117,101,41,41]⟩
abbrev oH:ByteArray:=⟨#[32,40,102,110,32,109,97,105,110,32,40,41,32,40,41,32,40,41,32,105,110,116,32]⟩
abbrev K8:ByteArray:=⟨(List.append [32,40,105,110,115,116,32,115,104,111,119,32,40,41,32,40,108,105,115,116,32,116,97,103,41,32,40,41,32,40,41,32,40,41,32,40,109,32,40,120,41] [32,52,41,41,32,40,105,110,115,116,32,115,104,111,119,32,40,41,32,116,97,103,32,40,41,32,40,41,32,40,41,32,40,109,32,40,120,41,32,53,41,41]).toArray⟩
abbrev AZ:ByteArray:=⟨(List.append [32,40,102,110,32,103,114,111,119,32,40,97,41,32,40,40,115,104,111,119,32,39,97,41,41,32,40,40,110,32,105,110,116,41,32,40,120,32,39,97,41,41,32,105,110,116,32,40,105,102,32,40,60,32,110,32] [49,41,32,40,109,101,116,104,111,100,32,115,104,111,119,32,109,32,120,41,32,40,99,97,108,108,32,103,114,111,119,32,40,45,32,110,32,49,41,32,40,110,101,119,32,112,97,105,114,32,120,32,120,41,41,41,41]).toArray⟩
abbrev K9:ByteArray:=⟨(List.append [32,40,105,110,115,116,32,101,113,32,40,41,32,116,97,103,32,40,41,32,40,41,32,40,41,32,40,115,97,109,101,32,40,120,32,121,41,32,116,114,117,101,41,41,32] [40,105,110,115,116,32,111,114,100,32,40,41,32,116,97,103,32,40,41,32,40,41,32,40,41,32,40,108,101,115,115,32,40,120,32,121,41,32,102,97,108,115,101,41,41]).toArray⟩
abbrev A0:ByteArray:=⟨(List.append [40,109,101,116,104,111,100,32,115,104,111,119,32,109,32,40,110,101,119,32,99,111,110,115,32,49,32,40,110,101,119,32,99,111] [110,115,32,50,32,40,116,104,101,32,40,108,105,115,116,32,105,110,116,41,32,40,110,101,119,32,110,105,108,41,41,41,41,41]).toArray⟩
abbrev A1:ByteArray:=⟨#[40,99,97,108,108,32,98,111,116,104,32,53,41]⟩
abbrev A2:ByteArray:=⟨#[40,43,32,40,99,97,108,108,32,105,100,32,52,41,32,40,109,101,116,104,111,100,32,115,104,111,119,32,109,32,40,110,101,119,32,116,97,103,32,55,41,41,41]⟩
abbrev A3:ByteArray:=⟨#[40,105,102,32,40,109,101,116,104,111,100,32,111,114,100,32,108,101,115,115,32,49,32,50,41,32,40,99,97,108,108,32,98,111,116,104,32,116,114,117,101,41,32,48,41]⟩
abbrev A4:ByteArray:=⟨(List.append [40,109,101,116,104,111,100,32,115,104,111,119,32,109,32,40,110,101,119,32,99,111,110,115,32,40,110,101,119,32,116,97] [103,32,49,41,32,40,116,104,101,32,40,108,105,115,116,32,116,97,103,41,32,40,110,101,119,32,110,105,108,41,41,41,41]).toArray⟩
abbrev LA:ByteArray:=⟨#[32,40,105,110,115,116,32,111,114,100,32,40,41,32,116,97,103,32,40,41,32,40,41,32,40,41,32,40,108,101,115,115,32,40,120,32,121,41,32,116,114,117,101,41,41]⟩
abbrev A5:ByteArray:=⟨#[40,109,101,116,104,111,100,32,115,104,111,119,32,109,32,40,110,101,119,32,110,105,108,41,41]⟩
abbrev cU:ByteArray:=⟨(List.append [40,112,97,99,107,97,103,101,32,99,111,114,101,32,40,41,32,40,116,114,97,105,116,32,115,104,111,119,32,40,41,32,40,41,32,40,109,32,40,41,32,105,110,116,41,32,40,116,119,111,32,40,39,115,101] [108,102,41,32,105,110,116,32,40,120,32,121,41,32,40,43,32,40,109,101,116,104,111,100,32,115,104,111,119,32,109,32,120,41,32,40,109,101,116,104,111,100,32,115,104,111,119,32,109,32,121,41,41,41,41]).toArray⟩
abbrev lC:ByteArray:=⟨(List.append (List.append [32,40,105,110,115,116,32,97,100,100,32,40,97,41,32,40,98,111,120,32,39,97,41,32,40,40,97,100,100,32,39,97,41,41,32] [40,41,32,40,40,98,111,120,32,40,97,115,115,111,99,32,97,100,100,32,39,97,41,41,41,32,40,112,108,117,115,32,40,120,32]) (List.append [121,41,32,40,99,97,115,101,32,120,32,40,98,111,120,32,112,32,40,99,97,115,101,32,121,32,40,98,111,120,32,113,32,40,110] [101,119,32,98,111,120,32,40,109,101,116,104,111,100,32,97,100,100,32,112,108,117,115,32,112,32,113,41,41,41,41,41,41,41,41])).toArray⟩
abbrev eF:ByteArray:=⟨(List.append [32,40,105,110,115,116,32,115,104,111,119,32,40,97,32,98,41,32,40,112,97,105,114,32,39,97,32,39,98,41,32,40,40,115,104,111,119,32,39,97,41,32,40,115,104,111,119,32,39,98,41,41,32,40,41,32,40,41,32,40,109,32,40] [120,41,32,40,99,97,115,101,32,120,32,40,112,97,105,114,32,121,32,122,32,40,45,32,40,109,101,116,104,111,100,32,115,104,111,119,32,109,32,121,41,32,40,109,101,116,104,111,100,32,115,104,111,119,32,109,32,122,41,41,41,41,41,41]).toArray⟩
abbrev A6:ByteArray:=⟨#[40,109,101,116,104,111,100,32,115,104,111,119,32,109,32,40,112,97,99,107,32,115,104,111,119,32,51,41,41]⟩
abbrev jL:ByteArray:=⟨(List.append [32,40,105,110,115,116,32,115,104,111,119,32,40,97,41,32,40,108,105,115,116,32,39,97,41,32,40,40,115,104,111,119,32,39,97,41,41,32,40,41,32,40,41,32,40,109,32,40,120,41,32,40,99,97,115,101,32,120,32,40] [110,105,108,32,48,41,32,40,99,111,110,115,32,104,32,116,32,40,43,32,40,109,101,116,104,111,100,32,115,104,111,119,32,109,32,104,41,32,40,109,101,116,104,111,100,32,115,104,111,119,32,109,32,116,41,41,41,41,41,41]).toArray⟩
abbrev oJ:ByteArray:=⟨(List.append [32,40,102,110,32,105,100,32,40,97,41,32,40,41,32,40,40,120,32,39,97,41,41,32,39,97,32,120,41,32,40,102,110,32,98,111,116,104,32,40,97,41,32,40,40] [115,104,111,119,32,39,97,41,41,32,40,40,120,32,39,97,41,41,32,105,110,116,32,40,109,101,116,104,111,100,32,115,104,111,119,32,116,119,111,32,120,32,120,41,41]).toArray⟩
abbrev LB:ByteArray:=⟨#[32,40,105,110,115,116,32,115,104,111,119,32,40,41,32,116,97,103,32,40,41,32,40,41,32,40,41,32,40,109,32,40,120,41,32,40,99,97,115,101,32,120,32,40,116,97,103,32,110,32,110,41,32,40,110,111,110,101,32,48,41,41,41,41]⟩
abbrev c4:ByteArray:=⟨(List.append [32,40,100,97,116,97,32,108,105,115,116,32,40,97,41,32,40,110,105,108,41,32,40,99,111,110,115,32,39,97,32,40,108,105,115,116,32,39,97,41,41,41,32,40,100,97,116,97,32,112,97,105,114,32,40,97,32,98,41] [32,40,112,97,105,114,32,39,97,32,39,98,41,41,32,40,100,97,116,97,32,98,111,120,32,40,97,41,32,40,98,111,120,32,39,97,41,41,32,40,100,97,116,97,32,117,110,105,116,32,40,41,32,40,117,110,105,116,41,41]).toArray⟩
abbrev LC:ByteArray:=⟨(List.append [32,40,102,110,32,108,101,110,32,40,97,41,32,40,41,32,40,40,120,32,40,108,105,115,116,32,39,97,41,41,41,32,105,110,116,32,40,99,97,115,101] [32,120,32,40,110,105,108,32,48,41,32,40,99,111,110,115,32,104,32,116,32,40,43,32,49,32,40,99,97,108,108,32,108,101,110,32,116,41,41,41,41,41]).toArray⟩
abbrev LD:ByteArray:=⟨#[32,40,105,110,115,116,32,115,104,111,119,32,40,97,41,32,39,97,32,40,40,101,113,32,39,97,41,41,32,40,41,32,40,41,32,40,109,32,40,120,41,32,49,41,41]⟩
abbrev LE:ByteArray:=⟨#[32,40,105,110,115,116,32,115,104,111,119,32,40,41,32,116,97,103,32,40,41,32,40,41,32,40,41,32,40,109,32,40,120,41,32,40,99,97,115,101,32,120,32,40,110,111,110,101,32,48,41,32,40,116,97,103,32,110,32,110,41,41,41,41]⟩
abbrev iL:ByteArray:=⟨#[32,40,105,110,115,116,32,97,100,100,32,40,41,32,105,110,116,32,40,41,32,40,41,32,40,105,110,116,41,32,40,112,108,117,115,32,40,120,32,121,41,32,40,43,32,120,32,121,41,41,41]⟩
abbrev cV:ByteArray:=⟨(List.append (List.append [32,40,116,114,97,105,116,32,101,113,32,40,41,32,40,41,32,40,115,97,109,101,32,40,39,115,101,108,102,41,32,98,111,111,108,41,41,32,40] [116,114,97,105,116,32,111,114,100,32,40,101,113,41,32,40,41,32,40,108,101,115,115,32,40,39,115,101,108,102,41,32,98,111,111,108,41,41,32]) (List.append [40,116,114,97,105,116,32,97,100,100,32,40,41,32,40,97,115,115,111,99,41,32,40,112,108,117,115,32,40,39,115,101,108,102,41,32,40,97,115] [115,111,99,32,97,100,100,32,39,115,101,108,102,41,41,41,32,40,116,114,97,105,116,32,115,101,110,100,32,40,41,32,40,97,117,116,111,41,41])).toArray⟩
abbrev LF:ByteArray:=⟨(List.append [32,40,102,110,32,115,117,109,32,40,97,41,32,40,40,97,100,100,32,39,97,41,41,32,40,40,120,32,39,97,41,32,40,121,32,39,97,41] [41,32,40,97,115,115,111,99,32,97,100,100,32,39,97,41,32,40,109,101,116,104,111,100,32,97,100,100,32,112,108,117,115,32,120,32,121,41,41]).toArray⟩
abbrev fA:ByteArray:=⟨#[40,112,97,99,107,97,103,101,32,97,112,112,32,40,99,111,114,101,41,32,40,100,97,116,97,32,116,97,103,32,40,41,32,40,116,97,103,32,105,110,116,41,32,40,110,111,110,101,41,41]⟩
abbrev fB:ByteArray:=⟨(List.append [32,40,105,110,115,116,32,101,113,32,40,41,32,105,110,116,32,40,41,32,40,41,32,40,41,32,40,115,97,109,101,32,40,120,32,121,41,32,40,61,32,120,32,121,41,41,41] [32,40,105,110,115,116,32,111,114,100,32,40,41,32,105,110,116,32,40,41,32,40,41,32,40,41,32,40,108,101,115,115,32,40,120,32,121,41,32,40,60,32,120,32,121,41,41,41]).toArray⟩
abbrev jM:ByteArray:=⟨(List.append (List.append [32,40,105,110,115,116,32,115,104,111,119,32,40,97,41,32,40,108,105,115,116,32,39,97,41,32,40,41,32,40,100,101,102,97,117,108] [116,41,32,40,41,32,40,109,32,40,120,41,32,55,41,41,32,40,105,110,115,116,32,115,104,111,119,32,40,41,32,40,108,105,115,116,32]) (List.append [105,110,116,41,32,40,41,32,40,41,32,40,41,32,40,109,32,40,120,41,32,40,99,97,115,101,32,120,32,40,110,105,108,32,48,41,32] [40,99,111,110,115,32,104,32,116,32,40,43,32,104,32,40,109,101,116,104,111,100,32,115,104,111,119,32,109,32,116,41,41,41,41,41,41])).toArray⟩
abbrev LG:ByteArray:=⟨#[32,40,105,110,115,116,32,115,104,111,119,32,40,41,32,105,110,116,32,40,41,32,40,41,32,40,41,32,40,109,32,40,120,41,32,57,41,41]⟩
abbrev s_:ByteArray:=⟨#[]⟩
abbrev s_0:ByteArray:=⟨#[48]⟩
abbrev s_A:ByteArray:=⟨#[65]⟩
abbrev gO:ByteArray:=⟨#[97]⟩
abbrev eN:ByteArray:=⟨#[97,100,100]⟩
abbrev iY:ByteArray:=⟨#[97,115,115,111,99]⟩
abbrev yQ:ByteArray:=⟨#[97,117,116,111]⟩
abbrev AK:ByteArray:=⟨#[98]⟩
abbrev fE:ByteArray:=⟨#[98,111,111,108]⟩
abbrev zJ:ByteArray:=⟨#[98,111,120]⟩
abbrev s_c:ByteArray:=⟨#[99]⟩
abbrev N6:ByteArray:=⟨#[99,97,108,108]⟩
abbrev wH:ByteArray:=⟨#[99,97,115,101]⟩
abbrev cN:ByteArray:=⟨#[99,111,110,115]⟩
abbrev gJ:ByteArray:=⟨#[99,111,114,101]⟩
abbrev N7:ByteArray:=⟨#[100,97,116,97]⟩
abbrev uK:ByteArray:=⟨#[100,101,102,97,117,108,116]⟩
abbrev wQ:ByteArray:=⟨#[100,121,110]⟩
abbrev kC:ByteArray:=⟨#[101,113]⟩
abbrev s_f:ByteArray:=⟨#[102]⟩
abbrev lY:ByteArray:=⟨#[102,97,108,115,101]⟩
abbrev ajF:ByteArray:=⟨#[102,110]⟩
abbrev s_g:ByteArray:=⟨#[103]⟩
abbrev s_h:ByteArray:=⟨#[104]⟩
abbrev CS:ByteArray:=⟨#[105,102]⟩
abbrev N8:ByteArray:=⟨#[105,110,115,116]⟩
abbrev fK:ByteArray:=⟨#[105,110,116]⟩
abbrev DE:ByteArray:=⟨#[108,101,116]⟩
abbrev cZ:ByteArray:=⟨#[108,105,115,116]⟩
abbrev fC:ByteArray:=⟨#[109]⟩
abbrev oT:ByteArray:=⟨#[109,101,116,104,111,100]⟩
abbrev DF:ByteArray:=⟨#[110,101,119]⟩
abbrev gB:ByteArray:=⟨#[110,105,108]⟩
abbrev TF:ByteArray:=⟨#[111,110,101]⟩
abbrev eU:ByteArray:=⟨#[111,114,100]⟩
abbrev s_p:ByteArray:=⟨#[112]⟩
abbrev wI:ByteArray:=⟨#[112,97,99,107]⟩
abbrev WO:ByteArray:=⟨#[112,97,99,107,97,103,101]⟩
abbrev wJ:ByteArray:=⟨#[112,97,105,114]⟩
abbrev s_q:ByteArray:=⟨#[113]⟩
abbrev jX:ByteArray:=⟨#[115,101,108,102]⟩
abbrev jI:ByteArray:=⟨#[115,101,110,100]⟩
abbrev bD:ByteArray:=⟨#[115,104,111,119]⟩
abbrev s_t:ByteArray:=⟨#[116]⟩
abbrev EU:ByteArray:=⟨#[116,97,103]⟩
abbrev WP:ByteArray:=⟨#[116,104,101]⟩
abbrev F2:ByteArray:=⟨#[116,114,97,105,116]⟩
abbrev pC:ByteArray:=⟨#[116,114,117,101]⟩
abbrev fU:ByteArray:=⟨#[116,119,105,99,101]⟩
abbrev jJ:ByteArray:=⟨#[117,110,105,116]⟩
abbrev eY:ByteArray:=⟨#[120]⟩
abbrev qT:ByteArray:=⟨#[121]⟩
abbrev tW:ByteArray:=⟨#[122,122]⟩
abbrev akE:ByteArray:=⟨#[10]⟩
abbrev akF:ByteArray:=⟨#[39]⟩
abbrev yY:ByteArray:=⟨#[41]⟩
abbrev MF:ByteArray:=⟨#[42]⟩
abbrev yZ:ByteArray:=⟨#[43]⟩
abbrev DV:ByteArray:=⟨#[45]⟩
abbrev MG:ByteArray:=⟨#[60]⟩
abbrev MH:ByteArray:=⟨#[61]⟩
end Go.Proofs.YtpioomclpaiomaaGreat

namespace Go.Proofs.YtpioomclpaiomaaGreat
set_option linter.unusedSimpArgs false
set_option linter.unusedVariables false
open Go.RowKit Go.WalkArith Go.IntWalk Go.WideShapes
def FD(a:Int):UInt8:=UInt8.ofNat (a%256).toNat
theorem aaE(a:Int):IntKind.wrap .u8 a=((FD a).toNat:Int):=by
 unfold FD IntKind.wrap
 simp [IntKind.bits,IntKind.signed]
 omega
def bytesStr(l:List UInt8):ByteArray:=⟨l.toArray⟩
theorem UP(l:List UInt8):(bytesStr l).size=l.length:=by simp [bytesStr,ByteArray.size]
theorem UO(l:List UInt8):strOfNums (l.map fun b=>(b.toNat:Int))=bytesStr l:=by
 unfold strOfNums bytesStr
 congr 2
 rw [List.map_map]
 conv=>rhs;rw [← List.map_id l]
 apply List.map_congr_left
 intro b _
 simp
section
variable {P:Program} {C:q9} {n:Nat} {s:AS} {o:Oper}
theorem aV.quoI{T yT:TypeId}{x y:Operand}{a b:Int}(ho:o.op= .binOp .quo T x y yT)(hd:bW o.dst n=true)(hx:s.ev x=some (.t (.leaf (.int .i64 a))))(hy:s.ev y=some (.t (.leaf (.int .i64 b))))(hb:b≠0):
 aV P C n o s (s.putO o.dst (.t (.leaf (.int .i64 (aQ (a.tdiv b)))))):=aV.bin ho hd hx hy (fun w=>by simp [eqGuard,binOp,Op.intDiv,hb,aQ]) (wf_wrap .i64 _)
theorem aV.remI{T yT:TypeId}{x y:Operand}{a b:Int}(ho:o.op= .binOp .rem T x y yT)(hd:bW o.dst n=true)(hx:s.ev x=some (.t (.leaf (.int .i64 a))))(hy:s.ev y=some (.t (.leaf (.int .i64 b))))(hb:b≠0):
 aV P C n o s (s.putO o.dst (.t (.leaf (.int .i64 (a.tmod b))))):=
 aV.quiet (dF hd) fun m ac w h=>by
  obtain⟨h1,h3⟩:=cJ.leaf_eq (h.eval hx)
  have h2:=(cJ.leaf_eq (h.eval hy)).1
  have h4: -9223372036854775808≤a∧a≤9223372036854775807:=by
   have h5:(Lit.int .i64 a).wf=true:=h3
   simpa [Lit.wf,IntKind.min,IntKind.max,IntKind.bits,IntKind.signed] using h5
  have h6:(a.tmod b).natAbs≤a.natAbs:=by rw [Int.natAbs_tmod];exact Nat.mod_le _ _
  have h7:0≤a→0≤a.tmod b:=fun h=>Int.tmod_nonneg b h
  have h8:a≤0→a.tmod b≤0:=fun h=>by have:=Int.tmod_nonneg b (show 0≤ -a by omega);rw [Int.neg_tmod] at this;omega
  refine⟨.int .i64 (a.tmod b),?_,cJ.leaf (wf_i64 (by omega))⟩
  unfold execOp
  simp [ho,h1,h2,eqGuard,binOp,Op.intDiv,hb]
theorem aV.convU8{S T:TypeId}{x:Operand}{k:IntKind}{a:Int}(ho:o.op= .convert S T x)(hd:bW o.dst n=true)(hx:s.ev x=some (.t (.leaf (.int k a))))(hS: ∃k',P.underlying S=some (.int k'))(hT:P.underlying T=some (.int .u8)):
 aV P C n o s (s.putO o.dst (.t (.leaf (.int .u8 ((FD a).toNat:Int))))):=
 aV.quiet (dF hd) fun m ac w h=>⟨.int .u8 ((FD a).toNat:Int),by
  have h3:=(cJ.leaf_eq (h.eval hx)).1
  obtain⟨k',hS⟩:=hS
  unfold execOp
  simp [ho,h3,convert,run_underlying hS,run_underlying hT,Conv.intToInt,aaE],cJ.leaf (by rw [← aaE];exact wf_wrap .u8 a)⟩
theorem aV.subU8{T yT:TypeId}{x y:Operand}{a b:Int}(ho:o.op= .binOp .sub T x y yT)(hd:bW o.dst n=true)(hx:s.ev x=some (.t (.leaf (.int .u8 a))))(hy:s.ev y=some (.t (.leaf (.int .u8 b)))):
 aV P C n o s (s.putO o.dst (.t (.leaf (.int .u8 ((FD (a-b)).toNat:Int))))):=by
 rw [← aaE]
 exact aV.subW ho hd hx hy
theorem aV.bytesStr{S T e:TypeId}{x:Operand}{p:PV}{l:List UInt8}(ho:o.op= .convert S T x)(hd:bW o.dst n=true)(hx:s.ev x=some p)(hp:mZ p=some (1,cW l))(hS:P.underlying S=some (.slice e))(he:P.underlying e=some (.int .u8))(hT:P.underlying T=some .string):
 aV P C n o s (s.putO o.dst (.t (.leaf (.string (bytesStr l))))):=
 aV.quiet (dF hd) fun m ac w h=>by
  have h1:=vJ hp (h.eval hx)
  obtain⟨a0,cap0,hv0,hl0,hm0⟩:=h1.shape
  rw [hQ] at hl0
  have hsz:rA (.string (Go.Proofs.YtpioomclpaiomaaGreat.bytesStr l)):=by show(Go.Proofs.YtpioomclpaiomaaGreat.bytesStr l).size≤maxLen;rw [UP];omega
  refine⟨.string (Go.Proofs.YtpioomclpaiomaaGreat.bytesStr l),?_,cJ.leaf hsz⟩
  generalize hv:ac.eval x=v at*
  cases h1 with
  |row c q1 q2 q3 q4=>
   have keyAll: ∀(a:Option Addr) (cap:Nat) (q3:cW l≠ []→ ∃b off,a=some ⟨b,off,none⟩∧b<w.heap.size∧ ∀(i:Nat) (e:List Tr),(cW l)[i]?=some e→ ∀(j:Nat) (d:Tr),e[j]?=some d→lA C.av s.st m b (off+i*1+j)∧w.cell? ⟨b,off+i*1+j,none⟩=some (c i j)),(convert S T (.slice a (cW l).length cap)).run P w= .ok (.string (Go.Proofs.YtpioomclpaiomaaGreat.bytesStr l)) w:=fun a cap q3=>by
    by_cases hne:l= []
    ·subst hne
     have hlen:(cW []).length=0:=rfl
     rw [hlen]
     cases a with
     |none=>exact run_convert_bytes_nil (P:=P) w S e hS he 0 cap T hT
     |some a=>
      obtain⟨b,off,sp⟩:=a
      have hld:(loadCells ⟨b,off,sp⟩ 0).run P w= .ok (([]:List Int).map (Value.int .u8)).toArray w:=by simp [loadCells,loadCellsFrom]
      rw [run_convert_bytes_string w S T e _ 0 cap hS he hT,run_bytesToString w _ 0 cap [] hld]
      rfl
    ·obtain⟨b,off,ha,hb,hc⟩:=q3 (by intro h0;apply hne;have:=congrArg List.length h0;rw [hQ] at this;exact List.eq_nil_of_length_eq_zero this)
     subst ha
     have:=run_convert_bytes_arg (P:=P) w S e hS he b off (cW l).length cap (l.map fun b=>(b.toNat:Int)) (by simp [hQ]) (fun i hi=>by
      rw [hQ] at hi
      have h4:=(hc i _ (xR hi) 0 (.leaf (.int .u8 ((l[i]).toNat:Int))) rfl).2
      have h5:=(q4 i _ (xR hi) 0 (.leaf (.int .u8 ((l[i]).toNat:Int))) rfl).rep.leaf_eq.1
      rw [Nat.mul_one,Nat.add_zero] at h4
      rw [h4,h5]
      simp [hi]) T hT
     rw [UO] at this
     exact this
   unfold execOp
   simp only [ho,hv]
   rw [Sem.run_bind,keyAll _ _ q3]
   rfl
end
end Go.Proofs.YtpioomclpaiomaaGreat

namespace Go.Proofs.YtpioomclpaiomaaGreat.W
set_option maxRecDepth 100000
set_option maxHeartbeats 40000000
noncomputable section
open Go.RowKit Go.Proofs
set_option linter.unusedSimpArgs false
set_option linter.unusedVariables false
attribute [local irreducible] lt
def YJ(m:ByteArray→UInt8→Option ((List ByteArray))):Prop:= ∀(ps:ByteArray) (pby:UInt8) (r:(List ByteArray)),m ps pby=some r→cA Tryz.prog 191 [pS ps,pU pby] (rS r:PV)
def VN(fu:Nat)(ps:ByteArray)(pby:UInt8):((List ByteArray)×Int×Int)→Option (LR ((List ByteArray)×Int×Int) ((List ByteArray))):=
 fun(v4,v2,v3)=>sw (decide (v3≤(ps.size:Int)))
 (sw (decide (v3=(ps.size:Int)))
 (gd ((0:Int)≤v2∧(v2:Int)≤v3∧(v3:Int)≤(ps.size:Int))
 (gd ((v4).length+(([(ps.extract (v2:Int).toNat (v3:Int).toNat)]:List ByteArray)).length≤68719476736)
 (some (.next ((v4++([(ps.extract (v2:Int).toNat (v3:Int).toNat)]:List ByteArray)),(aQ (v3+1)),(aQ (v3+1)))))))
 (gd (0≤v3∧(v3).toNat<(ps).size)
 (sw (decide ((((B4 ps ((v3).toNat)).toNat:Int):Int)=(pby.toNat:Int)))
 (gd ((0:Int)≤v2∧(v2:Int)≤v3∧(v3:Int)≤(ps.size:Int))
 (gd ((v4).length+(([(ps.extract (v2:Int).toNat (v3:Int).toNat)]:List ByteArray)).length≤68719476736)
 (some (.next ((v4++([(ps.extract (v2:Int).toNat (v3:Int).toNat)]:List ByteArray)),(aQ (v3+1)),(aQ (v3+1)))))))
 (some (.next (v4,v2,(aQ (v3+1))))))))
 (some (.brk (v4,v2,v3)))
def VO(fu:Nat)(ps:ByteArray)(pby:UInt8):Option (((List ByteArray))⊕((List ByteArray)×Int×Int)):=
 loopW (VN fu ps pby) fu (([]),0,0)
def CQ(fu:Nat)(ps:ByteArray)(pby:UInt8):Option ((List ByteArray)):=
 so (VO fu ps pby) (fun(v4,v2,v3)=>
 some v4)
theorem VP(fu:Nat):YJ (CQ fu):=by
 intro ps pby r H
 have H:=fF H
 refine qI Tryz.func191 (fun C hC=>?_)
 refine qS (qR (q1 aF (qN (qS (qR (q1 (wA ([]:List ByteArray) b6 lO) (q1 aF (qN (qS (qR (q1 aF (qN ?_))))))))))))
 iterate 2 refine qS ?_
 refine qR (q1 aF (qN ?_))
 refine kV 5 (bI _) (fun hl6=>?_)
 refine WJ (σ:=(List ByteArray)×Int×Int) (fun(v4,v2,v3)=>⟨[(0,pS ps),(1,pU pby),(4,.nil),(5,aS v4 0),(6,pI v2),(7,pI v3)],⟨[],[⟨9,1,aX (v4),false⟩]⟩⟩) (fun(v4,v2,v3)=>⟨[(4,.nil),(5,aS v4 0)],⟨[],[⟨9,1,aX (v4),false⟩]⟩⟩) (gW H) ?_ ?_
 ·rintro k5 ⟨v4,v2,v3⟩ H
  iterate 2 refine qS ?_
  refine qR ?_
  iterate 2 refine q1 aF ?_
  refine q1 (aV.lenS rfl rfl rfl Tryz.underlying9) (q1 rLe (qN ?_))
  refine bH H (fun h7 H=>?_) (fun h7 H=>?_)
  ·refine aO.skip (qS (aO.block (qS (qR ?_))))
   iterate 2 refine q1 aF ?_
   refine q1 (aV.lenS rfl rfl rfl Tryz.underlying9) (q1 eP (q1 aF ?_))
   refine eK 19 H (fun g8 H=>?_) fun g8 H=>?_
   ·refine qk g8 ?_
    iterate 4 refine qk g8 ?_
    refine q1 (b0 g8) (qN (eM rfl (qS (qR ?_))))
    iterate 4 refine q1 aF ?_
    refine c9 H fun z9 H=>(q1 (aV.sliceS (l:=v2) (k:=v3) rfl rfl rfl rfl rfl z9 Tryz.underlying9) (q1 (iW ([(ps.extract (v2:Int).toNat (v3:Int).toNat)]:List ByteArray) b6 lO) (c9 H fun z10 H=>(q1 (oE z10 b6 sM) (q1 aF (qN (qR (q1 aF (q1 Q6 (q1 aF (qN (qR (q1 aF ?_)))))))))))))
    refine q1 Q6 (q1 aF (qN ?_))
    exact lwN ⟨_,(aZ H:),b9⟩
   iterate 2 refine qg g8 aF ?_
   refine c9 H fun z11 H=>(qg g8 (aV.indexSI (y:=v3) rfl rfl rfl rfl z11.1 z11.2 Tryz.underlying9) (qg g8 aF (qg g8 eP (q1 (cC g8) (qN ?_)))))
   refine bH H (fun h12 H=>?_) (fun h12 H=>?_)
   ·refine qS (qR ?_)
    iterate 4 refine q1 aF ?_
    refine c9 H fun z13 H=>(q1 (aV.sliceS (l:=v2) (k:=v3) rfl rfl rfl rfl rfl z13 Tryz.underlying9) (q1 (iW ([(ps.extract (v2:Int).toNat (v3:Int).toNat)]:List ByteArray) b6 lO) (c9 H fun z14 H=>(q1 (oE z14 b6 sM) (q1 aF (qN (qR (q1 aF (q1 Q6 (q1 aF (qN (qR (q1 aF ?_)))))))))))))
    refine q1 Q6 (q1 aF (qN ?_))
    exact lwN ⟨_,(aZ H:),b9⟩
   refine aO.skip (qR (q1 aF (q1 Q6 (q1 aF (qN ?_)))))
   exact lwN ⟨_,(aZ H:),b9⟩
  refine aO.exit ?_;exact lwB ⟨_,(aZ H:),b9⟩
 rintro⟨v4,v2,v3⟩ H
 refine qS (qR ?_)
 iterate 2 refine q1 aF ?_
 refine qN (aO.ret ?_)
 cases aZ H
 exact bR
def aj0(m:cT→Option cT):Prop:= ∀(pr:cT) (r:cT),m pr=some r→cP Tryz.prog 216 [.ptr 0 0] ⟨[some ⟨250,[pS pr.gs,pI pr.gat,pI pr.gdeep,pI pr.gsize,pB pr.gbad]⟩],[]⟩ (fun q t=>q=(.tup []:PV)∧t=⟨[some ⟨250,[pS r.gs,pI r.gat,pI r.gdeep,pI r.gsize,pB r.gbad]⟩],[]⟩)
def TY(fu:Nat)(pr:cT):Int→Option (LR Int cT):=
 fun v1=>sw (decide (v1<(pr.gs.size:Int)))
 (gd (0≤v1∧(v1).toNat<(pr.gs).size)
 (sw (decide ((((B4 pr.gs ((v1).toNat)).toNat:Int):Int)=32))
 (some (.next (aQ (v1+1))))
 (sw (decide ((((B4 pr.gs ((v1).toNat)).toNat:Int):Int)=10))
 (some (.next (aQ (v1+1))))
 (some (.brk v1)))))
 (some (.brk v1))
def TZ(fu:Nat)(pr:cT):Option (cT⊕Int):=
 loopW (TY fu pr) fu pr.gat
def xL(fu:Nat)(pr:cT):Option cT:=
 so (TZ fu pr) (fun v1=>
 some (cT.mk pr.gs v1 pr.gdeep pr.gsize pr.gbad))
theorem KG(fu:Nat):aj0 (xL fu):=by
 intro pr r H
 have H:=fF H
 refine qI Tryz.func216 (fun C hC=>?_)
 refine WJ (σ:=Int) (fun v1=>⟨[(0,.ptr 0 0)],⟨[some ⟨250,[pS pr.gs,pI v1,pI pr.gdeep,pI pr.gsize,pB pr.gbad]⟩],[]⟩⟩) (fun v1=>⟨[],⟨[some ⟨250,[pS pr.gs,pI v1,pI pr.gdeep,pI pr.gsize,pB pr.gbad]⟩],[]⟩⟩) (gW H) ?_ ?_
 ·rintro k2 v1 H
  iterate 2 refine qS ?_
  rcases nN (decide (v1<(pr.gs.size:Int))) with g3|g3
  ·have H:=qZ H g3
   refine c9 H fun z4 H=>?_
   rcases nN (decide ((((B4 pr.gs ((v1).toNat)).toNat:Int):Int)=32)) with g5|g5
   ·have H:=qZ H g5
    refine dW (dI [0] aF (dI [2] qM (dI [3] (bC fS) (dD [4] (bL kZ) (dI [0] aF (dI [6] qM (dI [7] (bC l7) (dD [8] (bL fO) (dI [9] (aV.lenS rfl rfl rfl Tryz.underlying9) (dI [5,10] iQ (dI [11] aF (dI (hg:=bE g3) [0] aF (dI (hg:=bE g3) [13] qM ?_)))))))))))))
    refine dI (hg:=bE g3) [14] (bC l7) (dD (hg:=bE g3) [15] (bL fO) (dI (hg:=bE g3) [0] aF (dI (hg:=bE g3) [17] qM (dI (hg:=bE g3) [18] (bC fS) (dD (hg:=bE g3) [19] (bL kZ) (dI (hg:=bE g3) [16,20] (aV.indexSI (y:=v1) rfl rfl rfl rfl z4.1 z4.2 Tryz.underlying9) (dI (hg:=bE g3) [21] eP (dI (hg:=bE g3) [22] aF ?_))))))))
    iterate 10 refine H8 g5 ?_
    refine dI (hg:=bE g3) [23] (b0 g5) (dI [12,34] (b0 g3) (dN (eM rfl (aO.skip (aO.block (qR ?_))))))
    iterate 2 refine q1 aF ?_
    refine q1 qM (q1 (bC fS) (q1 (bL kZ) (q1 Q6 (q1 qM (q1 (bC fS) (q1 (b3 sz3) (qN ?_)))))))
    exact lwN ⟨_,(aZ H:),b9⟩
   have H:=qY H g5
   refine dW (dI [0] aF (dI [2] qM (dI [3] (bC fS) (dD [4] (bL kZ) (dI [0] aF (dI [6] qM (dI [7] (bC l7) (dD [8] (bL fO) (dI [9] (aV.lenS rfl rfl rfl Tryz.underlying9) (dI [5,10] iQ (dI [11] aF (dI (hg:=bE g3) [0] aF (dI (hg:=bE g3) [13] qM ?_)))))))))))))
   refine dI (hg:=bE g3) [14] (bC l7) (dD (hg:=bE g3) [15] (bL fO) (dI (hg:=bE g3) [0] aF (dI (hg:=bE g3) [17] qM (dI (hg:=bE g3) [18] (bC fS) (dD (hg:=bE g3) [19] (bL kZ) (dI (hg:=bE g3) [16,20] (aV.indexSI (y:=v1) rfl rfl rfl rfl z4.1 z4.2 Tryz.underlying9) (dI (hg:=bE g3) [21] eP (dI (hg:=bE g3) [22] aF (dI (hg:=bE g5) [0] aF (dI (hg:=bE g5) [24] qM (dI (hg:=bE g5) [25] (bC l7) (dD (hg:=bE g5) [26] (bL fO) (dI (hg:=bE g5) [0] aF ?_)))))))))))))
   refine dI (hg:=bE g5) [28] qM (dI (hg:=bE g5) [29] (bC fS) (dD (hg:=bE g5) [30] (bL kZ) (dI (hg:=bE g5) [27,31] (aV.indexSI (y:=v1) rfl rfl rfl rfl z4.1 z4.2 Tryz.underlying9) (dI (hg:=bE g5) [32] eP (dI (hg:=bE g3) [23,33] (cC g5) (dI [12,34] (b0 g3) (dN ?_)))))))
   refine bH H (fun h6 H=>?_) (fun h6 H=>?_)
   ·refine aO.skip (aO.block (qR ?_))
    iterate 2 refine q1 aF ?_
    refine q1 qM (q1 (bC fS) (q1 (bL kZ) (q1 Q6 (q1 qM (q1 (bC fS) (q1 (b3 sz3) (qN ?_)))))))
    exact lwN ⟨_,(aZ H:),b9⟩
   refine aO.exit ?_;exact lwB ⟨_,(aZ H:),b9⟩
  have H:=qY H g3
  refine dW (dI [0] aF (dI [2] qM (dI [3] (bC fS) (dD [4] (bL kZ) (dI [0] aF (dI [6] qM (dI [7] (bC l7) (dD [8] (bL fO) (dI [9] (aV.lenS rfl rfl rfl Tryz.underlying9) (dI [5,10] iQ (dI [11] aF ?_)))))))))))
  iterate 11 refine H8 g3 ?_
  iterate 10 refine dSu ?_
  refine H8 g3 (dI [12] (cC g3) (dN (kP rfl (aO.exit ?_))))
  exact lwB ⟨_,(aZ H:),b9⟩
 rintro v1 H
 cases aZ H
 exact qe (ps:= []) ⟨rfl,rfl⟩ trivial
def ajW(m:UInt8→Option Bool):Prop:= ∀(px:UInt8) (r:Bool),m px=some r→cA Tryz.prog 226 [pU px] (pB r:PV)
def F7(fu:Nat)(px:UInt8):Option Bool:=
 sw (decide ((px.toNat:Int)≥97))
 (sw (decide ((px.toNat:Int)≤122))
 (some true)
 (sw (decide ((px.toNat:Int)≥48))
 (sw (decide ((px.toNat:Int)≤57))
 (some true)
 (sw (decide ((px.toNat:Int)=39))
 (some true)
 (sw (decide ((px.toNat:Int)=45))
 (some true)
 (sw (decide ((px.toNat:Int)=43))
 (some true)
 (sw (decide ((px.toNat:Int)=42))
 (some true)
 (sw (decide ((px.toNat:Int)=60))
 (some true)
 (sw (decide ((px.toNat:Int)=61))
 (some true)
 (some (decide ((px.toNat:Int)=46))))))))))
 (sw (decide ((px.toNat:Int)=39))
 (some true)
 (sw (decide ((px.toNat:Int)=45))
 (some true)
 (sw (decide ((px.toNat:Int)=43))
 (some true)
 (sw (decide ((px.toNat:Int)=42))
 (some true)
 (sw (decide ((px.toNat:Int)=60))
 (some true)
 (sw (decide ((px.toNat:Int)=61))
 (some true)
 (some (decide ((px.toNat:Int)=46)))))))))))
 (sw (decide ((px.toNat:Int)≥48))
 (sw (decide ((px.toNat:Int)≤57))
 (some true)
 (sw (decide ((px.toNat:Int)=39))
 (some true)
 (sw (decide ((px.toNat:Int)=45))
 (some true)
 (sw (decide ((px.toNat:Int)=43))
 (some true)
 (sw (decide ((px.toNat:Int)=42))
 (some true)
 (sw (decide ((px.toNat:Int)=60))
 (some true)
 (sw (decide ((px.toNat:Int)=61))
 (some true)
 (some (decide ((px.toNat:Int)=46))))))))))
 (sw (decide ((px.toNat:Int)=39))
 (some true)
 (sw (decide ((px.toNat:Int)=45))
 (some true)
 (sw (decide ((px.toNat:Int)=43))
 (some true)
 (sw (decide ((px.toNat:Int)=42))
 (some true)
 (sw (decide ((px.toNat:Int)=60))
 (some true)
 (sw (decide ((px.toNat:Int)=61))
 (some true)
 (some (decide ((px.toNat:Int)=46))))))))))
theorem TT(fu:Nat):ajW (F7 fu):=by
 intro px r H
 have H:=fF H
 refine qI Tryz.func226 (fun C hC=>?_)
 refine qS (qR (q1 aF (qN (qS (qR (q1 aF (q1 UH (q1 aF ?_))))))))
 refine eK 5 H (fun g1 H=>?_) fun g1 H=>?_
 ·refine qg g1 aF (qg g1 rLe (q1 (b0 g1) (q1 aF ?_)))
  refine eK 9 H (fun g2 H=>?_) fun g2 H=>?_
  ·refine qk g2 ?_
   iterate 2 refine qk g2 ?_
   iterate 2 refine IF ?_
   refine qk g2 (q1 (b0 g2) (q1 aF ?_))
   iterate 2 refine qk rfl ?_
   refine q1 (b0 rfl) (q1 aF ?_)
   iterate 2 refine qk rfl ?_
   refine q1 (b0 rfl) (q1 aF ?_)
   iterate 2 refine qk rfl ?_
   refine q1 (b0 rfl) (q1 aF ?_)
   iterate 2 refine qk rfl ?_
   refine q1 (b0 rfl) (q1 aF ?_)
   iterate 2 refine qk rfl ?_
   refine q1 (b0 rfl) (q1 aF ?_)
   iterate 2 refine qk rfl ?_
   refine q1 (b0 rfl) (q1 aF ?_)
   iterate 2 refine qk rfl ?_
   refine q1 (b0 rfl) (q1 aF (qN (aO.ret ?_)))
   cases aZ H
   exact bR
  refine qg g2 aF (qg g2 UH (qg g2 aF ?_))
  refine eK 12 H (fun g3 H=>?_) fun g3 H=>?_
  ·refine qg g3 aF (qg g3 rLe (qg g2 (b0 g3) (q1 (cC g2) (q1 aF ?_))))
   refine eK 17 H (fun g4 H=>?_) fun g4 H=>?_
   ·refine qk g4 (qk g4 (q1 (b0 g4) (q1 aF ?_)))
    iterate 2 refine qk rfl ?_
    refine q1 (b0 rfl) (q1 aF ?_)
    iterate 2 refine qk rfl ?_
    refine q1 (b0 rfl) (q1 aF ?_)
    iterate 2 refine qk rfl ?_
    refine q1 (b0 rfl) (q1 aF ?_)
    iterate 2 refine qk rfl ?_
    refine q1 (b0 rfl) (q1 aF ?_)
    iterate 2 refine qk rfl ?_
    refine q1 (b0 rfl) (q1 aF ?_)
    iterate 2 refine qk rfl ?_
    refine q1 (b0 rfl) (q1 aF (qN (aO.ret ?_)))
    cases aZ H
    exact bR
   refine qg g4 aF (qg g4 eP (q1 (cC g4) (q1 aF ?_)))
   refine eK 21 H (fun g5 H=>?_) fun g5 H=>?_
   ·refine qk g5 (qk g5 (q1 (b0 g5) (q1 aF ?_)))
    iterate 2 refine qk rfl ?_
    refine q1 (b0 rfl) (q1 aF ?_)
    iterate 2 refine qk rfl ?_
    refine q1 (b0 rfl) (q1 aF ?_)
    iterate 2 refine qk rfl ?_
    refine q1 (b0 rfl) (q1 aF ?_)
    iterate 2 refine qk rfl ?_
    refine q1 (b0 rfl) (q1 aF ?_)
    iterate 2 refine qk rfl ?_
    refine q1 (b0 rfl) (q1 aF (qN (aO.ret ?_)))
    cases aZ H
    exact bR
   refine qg g5 aF (qg g5 eP (q1 (cC g5) (q1 aF ?_)))
   refine eK 25 H (fun g6 H=>?_) fun g6 H=>?_
   ·refine qk g6 (qk g6 (q1 (b0 g6) (q1 aF ?_)))
    iterate 2 refine qk rfl ?_
    refine q1 (b0 rfl) (q1 aF ?_)
    iterate 2 refine qk rfl ?_
    refine q1 (b0 rfl) (q1 aF ?_)
    iterate 2 refine qk rfl ?_
    refine q1 (b0 rfl) (q1 aF ?_)
    iterate 2 refine qk rfl ?_
    refine q1 (b0 rfl) (q1 aF (qN (aO.ret ?_)))
    cases aZ H
    exact bR
   refine qg g6 aF (qg g6 eP (q1 (cC g6) (q1 aF ?_)))
   refine eK 29 H (fun g7 H=>?_) fun g7 H=>?_
   ·refine qk g7 (qk g7 (q1 (b0 g7) (q1 aF ?_)))
    iterate 2 refine qk rfl ?_
    refine q1 (b0 rfl) (q1 aF ?_)
    iterate 2 refine qk rfl ?_
    refine q1 (b0 rfl) (q1 aF ?_)
    iterate 2 refine qk rfl ?_
    refine q1 (b0 rfl) (q1 aF (qN (aO.ret ?_)))
    cases aZ H
    exact bR
   refine qg g7 aF (qg g7 eP (q1 (cC g7) (q1 aF ?_)))
   refine eK 33 H (fun g8 H=>?_) fun g8 H=>?_
   ·refine qk g8 (qk g8 (q1 (b0 g8) (q1 aF ?_)))
    iterate 2 refine qk rfl ?_
    refine q1 (b0 rfl) (q1 aF ?_)
    iterate 2 refine qk rfl ?_
    refine q1 (b0 rfl) (q1 aF (qN (aO.ret ?_)))
    cases aZ H
    exact bR
   refine qg g8 aF (qg g8 eP (q1 (cC g8) (q1 aF ?_)))
   refine eK 37 H (fun g9 H=>?_) fun g9 H=>?_
   ·refine qk g9 (qk g9 (q1 (b0 g9) (q1 aF ?_)))
    iterate 2 refine qk rfl ?_
    refine q1 (b0 rfl) (q1 aF (qN (aO.ret ?_)))
    cases aZ H
    exact bR
   refine qg g9 aF (qg g9 eP (q1 (cC g9) (q1 aF ?_)))
   refine eK 41 H (fun g10 H=>?_) fun g10 H=>?_
   ·refine qk g10 (qk g10 (q1 (b0 g10) (q1 aF (qN (aO.ret ?_)))))
    cases aZ H
    exact bR
   refine qg g10 aF (qg g10 eP (q1 (cC g10) (q1 aF (qN (aO.ret ?_)))))
   cases aZ H
   exact bR
  iterate 2 refine qk g3 ?_
  refine qg g2 (cC g3) (q1 (cC g2) (q1 aF (qg rfl aF (qg rfl eP (q1 (cC rfl) (q1 aF ?_))))))
  refine eK 21 H (fun g11 H=>?_) fun g11 H=>?_
  ·refine qk g11 (qk g11 (q1 (b0 g11) (q1 aF ?_)))
   iterate 2 refine qk rfl ?_
   refine q1 (b0 rfl) (q1 aF ?_)
   iterate 2 refine qk rfl ?_
   refine q1 (b0 rfl) (q1 aF ?_)
   iterate 2 refine qk rfl ?_
   refine q1 (b0 rfl) (q1 aF ?_)
   iterate 2 refine qk rfl ?_
   refine q1 (b0 rfl) (q1 aF ?_)
   iterate 2 refine qk rfl ?_
   refine q1 (b0 rfl) (q1 aF (qN (aO.ret ?_)))
   cases aZ H
   exact bR
  refine qg g11 aF (qg g11 eP (q1 (cC g11) (q1 aF ?_)))
  refine eK 25 H (fun g12 H=>?_) fun g12 H=>?_
  ·refine qk g12 (qk g12 (q1 (b0 g12) (q1 aF ?_)))
   iterate 2 refine qk rfl ?_
   refine q1 (b0 rfl) (q1 aF ?_)
   iterate 2 refine qk rfl ?_
   refine q1 (b0 rfl) (q1 aF ?_)
   iterate 2 refine qk rfl ?_
   refine q1 (b0 rfl) (q1 aF ?_)
   iterate 2 refine qk rfl ?_
   refine q1 (b0 rfl) (q1 aF (qN (aO.ret ?_)))
   cases aZ H
   exact bR
  refine qg g12 aF (qg g12 eP (q1 (cC g12) (q1 aF ?_)))
  refine eK 29 H (fun g13 H=>?_) fun g13 H=>?_
  ·refine qk g13 (qk g13 (q1 (b0 g13) (q1 aF ?_)))
   iterate 2 refine qk rfl ?_
   refine q1 (b0 rfl) (q1 aF ?_)
   iterate 2 refine qk rfl ?_
   refine q1 (b0 rfl) (q1 aF ?_)
   iterate 2 refine qk rfl ?_
   refine q1 (b0 rfl) (q1 aF (qN (aO.ret ?_)))
   cases aZ H
   exact bR
  refine qg g13 aF (qg g13 eP (q1 (cC g13) (q1 aF ?_)))
  refine eK 33 H (fun g14 H=>?_) fun g14 H=>?_
  ·refine qk g14 (qk g14 (q1 (b0 g14) (q1 aF ?_)))
   iterate 2 refine qk rfl ?_
   refine q1 (b0 rfl) (q1 aF ?_)
   iterate 2 refine qk rfl ?_
   refine q1 (b0 rfl) (q1 aF (qN (aO.ret ?_)))
   cases aZ H
   exact bR
  refine qg g14 aF (qg g14 eP (q1 (cC g14) (q1 aF ?_)))
  refine eK 37 H (fun g15 H=>?_) fun g15 H=>?_
  ·refine qk g15 (qk g15 (q1 (b0 g15) (q1 aF ?_)))
   iterate 2 refine qk rfl ?_
   refine q1 (b0 rfl) (q1 aF (qN (aO.ret ?_)))
   cases aZ H
   exact bR
  refine qg g15 aF (qg g15 eP (q1 (cC g15) (q1 aF ?_)))
  refine eK 41 H (fun g16 H=>?_) fun g16 H=>?_
  ·refine qk g16 (qk g16 (q1 (b0 g16) (q1 aF (qN (aO.ret ?_)))))
   cases aZ H
   exact bR
  refine qg g16 aF (qg g16 eP (q1 (cC g16) (q1 aF (qN (aO.ret ?_)))))
  cases aZ H
  exact bR
 iterate 2 refine qk g1 ?_
 refine q1 (cC g1) (q1 aF (qg rfl aF (qg rfl UH (qg rfl aF ?_))))
 refine eK 12 H (fun g17 H=>?_) fun g17 H=>?_
 ·refine qg g17 aF (qg g17 rLe (qg rfl (b0 g17) (q1 (cC rfl) (q1 aF ?_))))
  refine eK 17 H (fun g18 H=>?_) fun g18 H=>?_
  ·refine qk g18 (qk g18 (q1 (b0 g18) (q1 aF ?_)))
   iterate 2 refine qk rfl ?_
   refine q1 (b0 rfl) (q1 aF ?_)
   iterate 2 refine qk rfl ?_
   refine q1 (b0 rfl) (q1 aF ?_)
   iterate 2 refine qk rfl ?_
   refine q1 (b0 rfl) (q1 aF ?_)
   iterate 2 refine qk rfl ?_
   refine q1 (b0 rfl) (q1 aF ?_)
   iterate 2 refine qk rfl ?_
   refine q1 (b0 rfl) (q1 aF ?_)
   iterate 2 refine qk rfl ?_
   refine q1 (b0 rfl) (q1 aF (qN (aO.ret ?_)))
   cases aZ H
   exact bR
  refine qg g18 aF (qg g18 eP (q1 (cC g18) (q1 aF ?_)))
  refine eK 21 H (fun g19 H=>?_) fun g19 H=>?_
  ·refine qk g19 (qk g19 (q1 (b0 g19) (q1 aF ?_)))
   iterate 2 refine qk rfl ?_
   refine q1 (b0 rfl) (q1 aF ?_)
   iterate 2 refine qk rfl ?_
   refine q1 (b0 rfl) (q1 aF ?_)
   iterate 2 refine qk rfl ?_
   refine q1 (b0 rfl) (q1 aF ?_)
   iterate 2 refine qk rfl ?_
   refine q1 (b0 rfl) (q1 aF ?_)
   iterate 2 refine qk rfl ?_
   refine q1 (b0 rfl) (q1 aF (qN (aO.ret ?_)))
   cases aZ H
   exact bR
  refine qg g19 aF (qg g19 eP (q1 (cC g19) (q1 aF ?_)))
  refine eK 25 H (fun g20 H=>?_) fun g20 H=>?_
  ·refine qk g20 (qk g20 (q1 (b0 g20) (q1 aF ?_)))
   iterate 2 refine qk rfl ?_
   refine q1 (b0 rfl) (q1 aF ?_)
   iterate 2 refine qk rfl ?_
   refine q1 (b0 rfl) (q1 aF ?_)
   iterate 2 refine qk rfl ?_
   refine q1 (b0 rfl) (q1 aF ?_)
   iterate 2 refine qk rfl ?_
   refine q1 (b0 rfl) (q1 aF (qN (aO.ret ?_)))
   cases aZ H
   exact bR
  refine qg g20 aF (qg g20 eP (q1 (cC g20) (q1 aF ?_)))
  refine eK 29 H (fun g21 H=>?_) fun g21 H=>?_
  ·refine qk g21 (qk g21 (q1 (b0 g21) (q1 aF ?_)))
   iterate 2 refine qk rfl ?_
   refine q1 (b0 rfl) (q1 aF ?_)
   iterate 2 refine qk rfl ?_
   refine q1 (b0 rfl) (q1 aF ?_)
   iterate 2 refine qk rfl ?_
   refine q1 (b0 rfl) (q1 aF (qN (aO.ret ?_)))
   cases aZ H
   exact bR
  refine qg g21 aF (qg g21 eP (q1 (cC g21) (q1 aF ?_)))
  refine eK 33 H (fun g22 H=>?_) fun g22 H=>?_
  ·refine qk g22 (qk g22 (q1 (b0 g22) (q1 aF ?_)))
   iterate 2 refine qk rfl ?_
   refine q1 (b0 rfl) (q1 aF ?_)
   iterate 2 refine qk rfl ?_
   refine q1 (b0 rfl) (q1 aF (qN (aO.ret ?_)))
   cases aZ H
   exact bR
  refine qg g22 aF (qg g22 eP (q1 (cC g22) (q1 aF ?_)))
  refine eK 37 H (fun g23 H=>?_) fun g23 H=>?_
  ·refine qk g23 (qk g23 (q1 (b0 g23) (q1 aF ?_)))
   iterate 2 refine qk rfl ?_
   refine q1 (b0 rfl) (q1 aF (qN (aO.ret ?_)))
   cases aZ H
   exact bR
  refine qg g23 aF (qg g23 eP (q1 (cC g23) (q1 aF ?_)))
  refine eK 41 H (fun g24 H=>?_) fun g24 H=>?_
  ·refine qk g24 (qk g24 (q1 (b0 g24) (q1 aF (qN (aO.ret ?_)))))
   cases aZ H
   exact bR
  refine qg g24 aF (qg g24 eP (q1 (cC g24) (q1 aF (qN (aO.ret ?_)))))
  cases aZ H
  exact bR
 iterate 2 refine qk g17 ?_
 refine qg rfl (cC g17) (q1 (cC rfl) (q1 aF (qg rfl aF (qg rfl eP (q1 (cC rfl) (q1 aF ?_))))))
 refine eK 21 H (fun g25 H=>?_) fun g25 H=>?_
 ·refine qk g25 (qk g25 (q1 (b0 g25) (q1 aF ?_)))
  iterate 2 refine qk rfl ?_
  refine q1 (b0 rfl) (q1 aF ?_)
  iterate 2 refine qk rfl ?_
  refine q1 (b0 rfl) (q1 aF ?_)
  iterate 2 refine qk rfl ?_
  refine q1 (b0 rfl) (q1 aF ?_)
  iterate 2 refine qk rfl ?_
  refine q1 (b0 rfl) (q1 aF ?_)
  iterate 2 refine qk rfl ?_
  refine q1 (b0 rfl) (q1 aF (qN (aO.ret ?_)))
  cases aZ H
  exact bR
 refine qg g25 aF (qg g25 eP (q1 (cC g25) (q1 aF ?_)))
 refine eK 25 H (fun g26 H=>?_) fun g26 H=>?_
 ·refine qk g26 (qk g26 (q1 (b0 g26) (q1 aF ?_)))
  iterate 2 refine qk rfl ?_
  refine q1 (b0 rfl) (q1 aF ?_)
  iterate 2 refine qk rfl ?_
  refine q1 (b0 rfl) (q1 aF ?_)
  iterate 2 refine qk rfl ?_
  refine q1 (b0 rfl) (q1 aF ?_)
  iterate 2 refine qk rfl ?_
  refine q1 (b0 rfl) (q1 aF (qN (aO.ret ?_)))
  cases aZ H
  exact bR
 refine qg g26 aF (qg g26 eP (q1 (cC g26) (q1 aF ?_)))
 refine eK 29 H (fun g27 H=>?_) fun g27 H=>?_
 ·refine qk g27 (qk g27 (q1 (b0 g27) (q1 aF ?_)))
  iterate 2 refine qk rfl ?_
  refine q1 (b0 rfl) (q1 aF ?_)
  iterate 2 refine qk rfl ?_
  refine q1 (b0 rfl) (q1 aF ?_)
  iterate 2 refine qk rfl ?_
  refine q1 (b0 rfl) (q1 aF (qN (aO.ret ?_)))
  cases aZ H
  exact bR
 refine qg g27 aF (qg g27 eP (q1 (cC g27) (q1 aF ?_)))
 refine eK 33 H (fun g28 H=>?_) fun g28 H=>?_
 ·refine qk g28 (qk g28 (q1 (b0 g28) (q1 aF ?_)))
  iterate 2 refine qk rfl ?_
  refine q1 (b0 rfl) (q1 aF ?_)
  iterate 2 refine qk rfl ?_
  refine q1 (b0 rfl) (q1 aF (qN (aO.ret ?_)))
  cases aZ H
  exact bR
 refine qg g28 aF (qg g28 eP (q1 (cC g28) (q1 aF ?_)))
 refine eK 37 H (fun g29 H=>?_) fun g29 H=>?_
 ·refine qk g29 (qk g29 (q1 (b0 g29) (q1 aF ?_)))
  iterate 2 refine qk rfl ?_
  refine q1 (b0 rfl) (q1 aF (qN (aO.ret ?_)))
  cases aZ H
  exact bR
 refine qg g29 aF (qg g29 eP (q1 (cC g29) (q1 aF ?_)))
 refine eK 41 H (fun g30 H=>?_) fun g30 H=>?_
 ·refine qk g30 (qk g30 (q1 (b0 g30) (q1 aF (qN (aO.ret ?_)))))
  cases aZ H
  exact bR
 refine qg g30 aF (qg g30 eP (q1 (cC g30) (q1 aF (qN (aO.ret ?_)))))
 cases aZ H
 exact bR
abbrev sW:=cT→Option (aB×cT)
def GB(m:sW):Prop:= ∀(pq0:cT) (r:aB×cT),m pq0=some r→cP Tryz.prog 215 [.ptr 0 0] ⟨[some ⟨250,[pS pq0.gs,pI pq0.gat,pI pq0.gdeep,pI pq0.gsize,pB pq0.gbad]⟩],[]⟩ (fun q t=>q=((aB.pv r.1):PV)∧t=⟨[some ⟨250,[pS r.2.gs,pI r.2.gat,pI r.2.gdeep,pI r.2.gsize,pB r.2.gbad]⟩],[]⟩)
def TU(fu:Nat)(r_sl2Read:sW)(pq0 x2:cT):Int→Option (LR Int (aB×cT)):=
 fun v5=>sw (decide (v5<(x2.gs.size:Int)))
 (gd (0≤v5∧(v5).toNat<(x2.gs).size)
 (bd (F7 fu (B4 x2.gs ((v5).toNat))) (fun x10=>
 sw (x10)
 (some (.next (aQ (v5+1))))
 (some (.brk v5)))))
 (some (.brk v5))
def TW(fu:Nat)(r_sl2Read:sW)(pq0 x2:cT):Option ((aB×cT)⊕Int):=
 loopW (TU fu r_sl2Read pq0 x2) fu x2.gat
def TV(fu:Nat)(r_sl2Read:sW)(pq0 x2:cT)(v5:Int):(ByteArray×Int×Int×Int×Bool×(List aB))→Option (LR (ByteArray×Int×Int×Int×Bool×(List aB)) (aB×cT)):=
 fun(v17,v18,v19,v20,v21,v23)=>sw (!(v21))
 (bd (xL fu (cT.mk v17 v18 v19 v20 v21)) (fun x27=>
 sw (decide (x27.gat<(x27.gs.size:Int)))
 (gd (0≤x27.gat∧(x27.gat).toNat<(x27.gs).size)
 (sw (decide ((((B4 x27.gs ((x27.gat).toNat)).toNat:Int):Int)=41))
 (some (.ret ((aB.mk s_ v23),(cT.mk x27.gs (aQ (x27.gat+1)) (aQ (x27.gdeep-1)) x27.gsize x27.gbad))))
 (bd (r_sl2Read x27) (fun(x32,x33)=>
 gd ((v23).length+(([x32]:List aB)).length≤68719476736)
 (some (.next (x33.gs,x33.gat,x33.gdeep,x33.gsize,x33.gbad,(v23++([x32]:List aB)))))))))
 (bd (r_sl2Read x27) (fun(x36,x37)=>
 gd ((v23).length+(([x36]:List aB)).length≤68719476736)
 (some (.next (x37.gs,x37.gat,x37.gdeep,x37.gsize,x37.gbad,(v23++([x36]:List aB)))))))))
 (some (.brk (v17,v18,v19,v20,v21,v23)))
def TX(fu:Nat)(r_sl2Read:sW)(pq0 x2:cT)(v5:Int):Option ((aB×cT)⊕(ByteArray×Int×Int×Int×Bool×(List aB))):=
 loopW (TV fu r_sl2Read pq0 x2 v5) fu (x2.gs,(aQ (v5+1)),(aQ (x2.gdeep+1)),(aQ (x2.gsize+1)),x2.gbad,([]))
def GA(fu:Nat)(r_sl2Read:sW)(pq0:cT):Option (aB×cT):=
 bd (xL fu pq0) (fun x2=>
 sw (decide (x2.gat≥(x2.gs.size:Int)))
 (some ((aB.mk s_ []),(cT.mk x2.gs x2.gat x2.gdeep (aQ (x2.gsize+1)) true)))
 (sw (decide ((aQ (x2.gsize+1):Int)>900))
 (some ((aB.mk s_ []),(cT.mk x2.gs x2.gat x2.gdeep (aQ (x2.gsize+1)) true)))
 (so (TW fu r_sl2Read pq0 x2) (fun v5=>
 sw (decide (v5>x2.gat))
 (gd ((0:Int)≤x2.gat∧(x2.gat:Int)≤v5∧(v5:Int)≤(x2.gs.size:Int))
 (some ((aB.mk (x2.gs.extract (x2.gat:Int).toNat (v5:Int).toNat) []),(cT.mk x2.gs v5 x2.gdeep (aQ (x2.gsize+1)) x2.gbad))))
 (gd (0≤v5∧(v5).toNat<(x2.gs).size)
 (sw (!decide ((((B4 x2.gs ((v5).toNat)).toNat:Int):Int)=40))
 (some ((aB.mk s_ []),(cT.mk x2.gs v5 x2.gdeep (aQ (x2.gsize+1)) true)))
 (sw (decide (x2.gdeep=14))
 (some ((aB.mk s_ []),(cT.mk x2.gs v5 x2.gdeep (aQ (x2.gsize+1)) true)))
 (so (TX fu r_sl2Read pq0 x2 v5) (fun(v17,v18,v19,v20,v21,v23)=>
 some ((aB.mk s_ v23),(cT.mk v17 v18 v19 v20 v21)))))))))))
theorem ZX(fu:Nat)(r_sl2Read:sW)(h_sl2Read:GB r_sl2Read):GB (GA fu r_sl2Read):=by
 intro pq0 r H
 have H:=fF H
 refine qI Tryz.func215 (fun C hC=>?_)
 refine qS (qR (q1 (iG cF) (qN (qS (qR (q1 aF (bU H fun x2 z1 H=>(q1 (f6 [0] [] Tryz.func216 (KG fu pq0 _ z1)) (qN (qS (qR ?_)))))))))))
 iterate 2 refine q1 aF ?_
 refine q1 qM (q1 (bC XQ) (q1 (bL kZ) (q1 Q6 (q1 qM (q1 (bC XQ) (q1 (b3 sz3) (qN ?_)))))))
 iterate 2 refine qS ?_
 rcases nN (decide (x2.gat≥(x2.gs.size:Int))) with g3|g3
 ·have H:=qZ H g3
  refine dW (dI [0] aF (dI [15] qM (dI [16] (bC fS) (dD [17] (bL kZ) (dI [0] aF (dI [19] qM (dI [20] (bC l7) (dD [21] (bL fO) (dI [22] (aV.lenS rfl rfl rfl Tryz.underlying9) (dI [18,23] UH (dI [24] aF ?_)))))))))))
  iterate 5 refine H8 g3 ?_
  refine dI [25] (b0 g3) (dN (eM rfl (qS (qR (q1 aF (q1 qM (q1 (bC FQ) (q1 (b3 sz4) (qN (qS (qR (q1 (gD cF nF) (q1 (b3 eQ) ?_)))))))))))))
  refine qN (aO.ret ?_)
  cases aZ H
  exact bR (hr:=⟨⟨_,_,_,rfl,rfl,bY,rfl,rfl⟩,trivial⟩)
 have H:=qY H g3
 refine dW (dI [0] aF (dI [15] qM (dI [16] (bC fS) (dD [17] (bL kZ) (dI [0] aF (dI [19] qM (dI [20] (bC l7) (dD [21] (bL fO) (dI [22] (aV.lenS rfl rfl rfl Tryz.underlying9) (dI [18,23] UH (dI [24] aF (dI (hg:=bE g3) [0] aF (dI (hg:=bE g3) [26] qM ?_)))))))))))))
 refine dI (hg:=bE g3) [27] (bC XQ) (dD (hg:=bE g3) [28] (bL kZ) (dI (hg:=bE g3) [29] MI (dI [25,30] (cC g3) (dN ?_))))
 refine bH H (fun h4 H=>?_) (fun h4 H=>?_)
 ·refine qS (qR (q1 aF (q1 qM (q1 (bC FQ) (q1 (b3 sz4) (qN (qS (qR (q1 (gD cF nF) (q1 (b3 eQ) (qN (aO.ret ?_))))))))))))
  cases aZ H
  exact bR (hr:=⟨⟨_,_,_,rfl,rfl,bY,rfl,rfl⟩,trivial⟩)
 refine aO.skip (qS (qR (q1 aF (q1 qM (q1 (bC fS) (q1 (bL kZ) (q1 aF (qN (qS ?_)))))))))
 refine WJ (σ:=Int) (fun v5=>⟨[(0,.ptr 0 0),(2,.ptr 1 0),(3,pI x2.gat)],⟨[some ⟨250,[pS x2.gs,pI v5,pI x2.gdeep,pI (aQ (x2.gsize+1)),pB x2.gbad]⟩,some ⟨237,[pS s_,.nil]⟩],[]⟩⟩) (fun v5=>⟨[(0,.ptr 0 0),(2,.ptr 1 0),(3,pI x2.gat)],⟨[some ⟨250,[pS x2.gs,pI v5,pI x2.gdeep,pI (aQ (x2.gsize+1)),pB x2.gbad]⟩,some ⟨237,[pS s_,.nil]⟩],[]⟩⟩) (gW H) ?_ ?_
 ·rintro k6 v5 H
  iterate 2 refine qS ?_
  rcases nN (decide (v5<(x2.gs.size:Int))) with g7|g7
  ·have H:=qZ H g7
   refine c9 H fun z8 H=>(bU H fun x10 z9 H=>(dW (dI [0] aF (dI [40] qM (dI [41] (bC fS) (dD [42] (bL kZ) (dI [0] aF (dI [44] qM (dI [45] (bC l7) (dD [46] (bL fO) (dI [47] (aV.lenS rfl rfl rfl Tryz.underlying9) (dI [43,48] iQ (dI [49] aF ?_)))))))))))))
   refine dI (hg:=bE g7) [0] aF (dI (hg:=bE g7) [51] qM (dI (hg:=bE g7) [52] (bC l7) (dD (hg:=bE g7) [53] (bL fO) (dI (hg:=bE g7) [0] aF (dI (hg:=bE g7) [55] qM (dI (hg:=bE g7) [56] (bC fS) (dD (hg:=bE g7) [57] (bL kZ) (dI (hg:=bE g7) [54,58] (aV.indexSI (y:=v5) rfl rfl rfl rfl z8.1 z8.2 Tryz.underlying9) (dI (hg:=bE g7) [59] (bQ Tryz.func226 (TT fu (B4 x2.gs ((v5).toNat)) _ z9)) (dI [50,60] (b0 g7) (dN ?_)))))))))))
   refine bH H (fun h11 H=>?_) (fun h11 H=>?_)
   ·refine aO.skip (aO.block (qR ?_))
    iterate 2 refine q1 aF ?_
    refine q1 qM (q1 (bC fS) (q1 (bL kZ) (q1 Q6 (q1 qM (q1 (bC fS) (q1 (b3 sz3) (qN ?_)))))))
    exact lwN ⟨_,(aZ H:),b9⟩
   refine aO.exit ?_;exact lwB ⟨_,(aZ H:),b9⟩
  have H:=qY H g7
  refine dW (dI [0] aF (dI [40] qM (dI [41] (bC fS) (dD [42] (bL kZ) (dI [0] aF (dI [44] qM (dI [45] (bC l7) (dD [46] (bL fO) (dI [47] (aV.lenS rfl rfl rfl Tryz.underlying9) (dI [43,48] iQ (dI [49] aF ?_)))))))))))
  iterate 10 refine H8 g7 ?_
  refine dI [50] (cC g7) (dN (kP rfl (aO.exit ?_)))
  exact lwB ⟨_,(aZ H:),b9⟩
 rintro v5 H
 iterate 2 refine qS ?_
 refine qR (q1 aF (q1 qM (q1 (bC fS) (q1 (bL kZ) (q1 aF (q1 MI (qN ?_)))))))
 refine bH H (fun h12 H=>?_) (fun h12 H=>?_)
 ·refine qS (c9 H fun z13 H=>(dW (dI [0] aF (dI [76] qM (dI [77] (bC l7) (dD [78] (bL fO) (dI [3] aF (dI [0] aF (dI [81] qM (dI [82] (bC fS) (dD [83] (bL kZ) (dI [79,80,84] (aV.sliceS (l:=x2.gat) (k:=v5) rfl rfl rfl rfl rfl z13 Tryz.underlying9) (dI [85] (gD cF nF) ?_)))))))))))))
  refine m4 [2,86] (b3 eQ) (dN (aO.ret ?_))
  cases aZ H
  exact bR (hr:=⟨⟨_,_,_,rfl,rfl,bY,rfl,rfl⟩,trivial⟩)
 refine aO.skip ?_
 iterate 2 refine qS ?_
 refine c9 H fun z14 H=>?_
 rcases nN (!decide ((((B4 x2.gs ((v5).toNat)).toNat:Int):Int)=40)) with g15|g15
 ·have H:=qZ H g15
  refine dW (dI [0] aF (dI [87] qM (dI [88] (bC l7) (dD [89] (bL fO) (dI [0] aF (dI [91] qM (dI [92] (bC fS) (dD [93] (bL kZ) (dI [90,94] (aV.indexSI (y:=v5) rfl rfl rfl rfl z14.1 z14.2 Tryz.underlying9) (dI [95] MJ (dI [96] aF ?_)))))))))))
  iterate 5 refine H8 g15 ?_
  refine dI [97] (b0 g15) (dN (eM rfl (qS (qR (q1 aF (q1 qM (q1 (bC FQ) (q1 (b3 sz4) (qN (qS (qR (q1 (gD cF nF) (q1 (b3 eQ) ?_)))))))))))))
  refine qN (aO.ret ?_)
  cases aZ H
  exact bR (hr:=⟨⟨_,_,_,rfl,rfl,bY,rfl,rfl⟩,trivial⟩)
 have H:=qY H g15
 refine dW (dI [0] aF (dI [87] qM (dI [88] (bC l7) (dD [89] (bL fO) (dI [0] aF (dI [91] qM (dI [92] (bC fS) (dD [93] (bL kZ) (dI [90,94] (aV.indexSI (y:=v5) rfl rfl rfl rfl z14.1 z14.2 Tryz.underlying9) (dI [95] MJ (dI [96] aF (dI (hg:=bE g15) [0] aF (dI (hg:=bE g15) [98] qM ?_)))))))))))))
 refine dI (hg:=bE g15) [99] (bC K6) (dD (hg:=bE g15) [100] (bL kZ) (dI (hg:=bE g15) [101] eP (dI [97,102] (cC g15) (dN ?_))))
 refine bH H (fun h16 H=>?_) (fun h16 H=>?_)
 ·refine qS (qR (q1 aF (q1 qM (q1 (bC FQ) (q1 (b3 sz4) (qN (qS (qR (q1 (gD cF nF) (q1 (b3 eQ) (qN (aO.ret ?_))))))))))))
  cases aZ H
  exact bR (hr:=⟨⟨_,_,_,rfl,rfl,bY,rfl,rfl⟩,trivial⟩)
 refine aO.skip (qS (qR ?_))
 iterate 2 refine q1 aF ?_
 refine q1 qM (q1 (bC fS) (q1 (bL kZ) (q1 Q6 (q1 qM (q1 (bC fS) (q1 (b3 sz3) (qN (qS (qR ?_)))))))))
 iterate 2 refine q1 aF ?_
 refine q1 qM (q1 (bC K6) (q1 (bL kZ) (q1 Q6 (q1 qM (q1 (bC K6) (q1 (b3 sz3) (qN (qS (qR (q1 (gD cF nF) (q1 (iG cF) (q1 (b3 eQ) (qN ?_)))))))))))))
 refine qS (aO.wk (Wk.regBox (k:=2) (j:=1) 237 2 (by decide) rfl rfl) ?_)
 refine WJ (σ:=ByteArray×Int×Int×Int×Bool×(List aB)) (fun(v17,v18,v19,v20,v21,v23)=>⟨[(0,.ptr 0 0),(2,.ptr 1 0),(4,.ptr 2 0)],⟨[some ⟨250,[pS v17,pI v18,pI v19,pI v20,pB v21]⟩,some ⟨237,[pS s_,.nil]⟩,some ⟨237,[pS s_,eL v23 0]⟩],[⟨237,2,aB.trs (v23),false⟩]⟩⟩) (fun(v17,v18,v19,v20,v21,v23)=>⟨[(2,.ptr 1 0),(4,.ptr 2 0)],⟨[some ⟨250,[pS v17,pI v18,pI v19,pI v20,pB v21]⟩,some ⟨237,[pS s_,.nil]⟩,some ⟨237,[pS s_,eL v23 0]⟩],[⟨237,2,aB.trs (v23),false⟩]⟩⟩) (gW H) ?_ ?_
 ·rintro k24 ⟨v17,v18,v19,v20,v21,v23⟩ H
  iterate 2 refine qS ?_
  refine qR (q1 aF (q1 qM (q1 (bC FQ) (q1 (bL sh4) (q1 iS (qN ?_))))))
  refine bH H (fun h25 H=>?_) (fun h25 H=>?_)
  ·refine aO.skip (aO.block (qS (qR (q1 aF (bU H fun x27 z26 H=>(q1 (f6 [0] [] Tryz.func216 (KG fu (cT.mk v17 v18 v19 v20 v21) _ z26)) (qN ?_)))))))
   iterate 2 refine qS ?_
   rcases nN (decide (x27.gat<(x27.gs.size:Int))) with g28|g28
   ·have H:=qZ H g28
    refine c9 H fun z29 H=>(dW (dI [0] aF (dI [132] qM (dI [133] (bC fS) (dD [134] (bL kZ) (dI [0] aF (dI [136] qM (dI [137] (bC l7) (dD [138] (bL fO) (dI [139] (aV.lenS rfl rfl rfl Tryz.underlying9) (dI [135,140] iQ (dI [141] aF (dI (hg:=bE g28) [0] aF ?_)))))))))))))
    refine dI (hg:=bE g28) [143] qM (dI (hg:=bE g28) [144] (bC l7) (dD (hg:=bE g28) [145] (bL fO) (dI (hg:=bE g28) [0] aF (dI (hg:=bE g28) [147] qM (dI (hg:=bE g28) [148] (bC fS) (dD (hg:=bE g28) [149] (bL kZ) (dI (hg:=bE g28) [146,150] (aV.indexSI (y:=x27.gat) rfl rfl rfl rfl z29.1 z29.2 Tryz.underlying9) (dI (hg:=bE g28) [151] eP (dI [142,152] (b0 g28) (dN ?_))))))))))
    refine bH H (fun h30 H=>?_) (fun h30 H=>?_)
    ·refine qS (qR ?_)
     iterate 2 refine q1 aF ?_
     refine q1 qM (q1 (bC fS) (q1 (bL kZ) (q1 Q6 (q1 qM (q1 (bC fS) (q1 (b3 sz3) (qN (qS (qR ?_)))))))))
     iterate 2 refine q1 aF ?_
     refine q1 qM (q1 (bC K6) (q1 (bL kZ) (q1 GQ (q1 qM (q1 (bC K6) (q1 (b3 sz3) (qN (qS (qR (q1 (cY [pS s_,eL v23 0] bY) (q1 (b3 eQ) (qN (aO.ret ?_)))))))))))))
     obtain rfl:_=r:=(lwR (aZ H):)
     exact bR (hr:=⟨⟨_,_,_,rfl,rfl,bY,rfl,rfl⟩,trivial⟩)
    refine aO.skip (fQ H fun x32 x33 z31 H=>(c9 H fun z34 H=>(dW (dI [4] (bC bN) (dB [171] 0 1 (vQ c6) (dI [0] aF (dE [173] (f6 [0] [] Tryz.func215 (h_sl2Read x27 _ z31)) (dI [174] (iW ([x32]:List aB) bO cF) (dE [172,175] (oE z34 bO q8) (dI [4] (bC bN) (m4 [177,176] (b3 zS) (dN ?_))))))))))))
    exact lwN ⟨_,(aZ H:),b9⟩
   have H:=qY H g28
   refine dW (dI [0] aF (dI [132] qM (dI [133] (bC fS) (dD [134] (bL kZ) (dI [0] aF (dI [136] qM (dI [137] (bC l7) (dD [138] (bL fO) (dI [139] (aV.lenS rfl rfl rfl Tryz.underlying9) (dI [135,140] iQ (dI [141] aF ?_)))))))))))
   iterate 10 refine H8 g28 ?_
   refine dI [142] (cC g28) (dN (kP rfl (aO.skip (fQ H fun x36 x37 z35 H=>(c9 H fun z38 H=>(dW (dI [4] (bC bN) (dB [171] 0 1 (vQ c6) (dI [0] aF (dE [173] (f6 [0] [] Tryz.func215 (h_sl2Read x27 _ z35)) (dI [174] (iW ([x36]:List aB) bO cF) (dE [172,175] (oE z38 bO q8) (dI [4] (bC bN) ?_)))))))))))))
   refine m4 [177,176] (b3 zS) (dN ?_)
   exact lwN ⟨_,(aZ H:),b9⟩
  refine aO.exit ?_;exact lwB ⟨_,(aZ H:),b9⟩
 rintro⟨v17,v18,v19,v20,v21,v23⟩ H
 refine qS (qR (q1 (cY [pS s_,eL v23 0] bY) (q1 (b3 eQ) (qN (aO.ret ?_)))))
 cases aZ H
 exact bR (hr:=⟨⟨_,_,_,rfl,rfl,bY,rfl,rfl⟩,trivial⟩)
def qV:Nat→cT→Option (aB×cT)
 |0,_=>none
 |fu+1,pq0=>GA fu (qV fu) pq0
theorem adH(fu:Nat):GB (qV fu):=by
 induction fu with
 |zero=>exact(fun pq0 r H=>by simp only [qV] at H;cases H)
 |succ fu ih=>exact(fun pq0 r H=>by simp only [qV] at H;exact ZX fu (qV fu) ih pq0 r H)
theorem agG(fu:Nat):GB (qV fu):=(adH fu)
abbrev uS:=aB→Int→Option Int
def F9(m:uS):Prop:= ∀(px:aB) (pleft:Int) (r:Int),m px pleft=some r→cA Tryz.prog 227 [(aB.pv px),pI pleft] (pI r:PV)
def agB(fu:Nat)(r_sl2Left:uS)(px:aB)(pleft:Int):Nat→Int→Option (LR Int Int):=
 fun i1 v2=>sw (decide (v2≥0))
 (bd (r_sl2Left (bB px.gList i1) v2) (fun x7=>
 some (.next x7)))
 (some (.brk v2))
def agC(fu:Nat)(r_sl2Left:uS)(px:aB)(pleft:Int):Option (Int⊕Int):=
 loopN (agB fu r_sl2Left px pleft) (px.gList.length-0) 0 (aQ (pleft-1))
def OJ(fu:Nat)(r_sl2Left:uS)(px:aB)(pleft:Int):Option Int:=
 so (agC fu r_sl2Left px pleft) (fun v2=>
 some v2)
theorem ZW(fu:Nat)(r_sl2Left:uS)(h_sl2Left:F9 r_sl2Left):F9 (OJ fu r_sl2Left):=by
 intro px pleft r H
 have H:=fF H
 refine qI Tryz.func227 (fun C hC=>?_)
 refine qS (qR (q1 (kQ ([pS px.gAtom,bJ px.gList])) (q1 aF (qN (qS (qR (q1 aF (q1 GQ (q1 aF (qN ?_))))))))))
 iterate 2 refine qS ?_
 refine qR (q1 aF (qN ?_))
 refine aO.fact (c3 0 1 rfl rfl rfl (aB.trs_len _)) (fun hl3=>?_)
 refine cM (σ:=Int) (fun i1 v2=>⟨[(1,pI v2),(2,.ptr 0 0),(4,pI 0),(5,pN i1)],⟨[some ⟨237,[pS px.gAtom,bJ px.gList]⟩],[]⟩⟩) (fun v2=>⟨[(1,pI v2),(4,pI 0)],⟨[some ⟨237,[pS px.gAtom,bJ px.gList]⟩],[]⟩⟩) (gW H) ?_ ?_
 ·rintro i1 v2 H
  iterate 2 refine qS ?_
  refine qR (q1 aF (q1 (bC bN) (q1 (bL c6) (q1 (eR bO (aB.trs_len _)) (q1 iQ (q1 aF ?_))))))
  refine AL.splitB 13 rfl (fun g4=>?_) (fun g4=>?_)
  ·have g4l:=yF g4
   have H:=lnT g4l H
   have g4n:=bF g4
   refine qg g4 aF (qg g4 UH (q1 (b0 g4) (qN ?_)))
   refine bH H (fun h5 H=>?_) (fun h5 H=>?_)
   ·refine aO.skip (qS (aO.block (qR (q1 (bC bN) (q1 (bL c6) (q1 aF (q1 (jH g4n bO) (q1 (lB (aB.cs (bB px.gList i1)) bY) (q1 aF (bU H fun x7 z6 H=>(q1 (bQ Tryz.func227 (h_sl2Left (bB px.gList i1) v2 _ z6)) (q1 aF (qN ?_)))))))))))))
    refine qR (q1 aF (q1 (aV.addI rfl rfl rfl rfl (c:=((i1+1:Nat):Int)) (by omega) (by omega)) (q1 aF (qN ?_))))
    exact j8 g4l ⟨_,(aZ H:),b9⟩
   refine aO.exit ?_;exact lpB ⟨_,(aZ H:),b9⟩
  have H:=lnE (yE g4) H
  iterate 2 refine qk g4 ?_
  refine q1 (cC g4) (qN (kP rfl (aO.exit ?_)))
  exact lP ⟨_,H,b9⟩
 rintro v2 H
 refine qS (qR ?_)
 iterate 2 refine q1 aF ?_
 refine qN (aO.ret ?_)
 cases aZ H
 exact bR
def o4:Nat→aB→Int→Option Int
 |0,_,_=>none
 |fu+1,px,pleft=>OJ fu (o4 fu) px pleft
theorem adG(fu:Nat):F9 (o4 fu):=by
 induction fu with
 |zero=>exact(fun px pleft r H=>by simp only [o4] at H;cases H)
 |succ fu ih=>exact(fun px pleft r H=>by simp only [o4] at H;exact ZW fu (o4 fu) ih px pleft r H)
theorem agE(fu:Nat):F9 (o4 fu):=(adG fu)
def am0(m:Int→Int→Int→Option Bool):Prop:= ∀(px:Int) (plo:Int) (phi:Int) (r:Bool),m px plo phi=some r→cA Tryz.prog 108 [pI px,pI plo,pI phi] (pB r:PV)
def CY(fu:Nat)(px plo phi:Int):Option Bool:=
 sw (decide (px≥plo))
 (some (decide (px≤phi)))
 (some false)
theorem FA(fu:Nat):am0 (CY fu):=by
 intro px plo phi r H
 have H:=fF H
 refine qI Tryz.func108 (fun C hC=>?_)
 refine qS (qR (q1 aF (qN (qS (qR ?_)))))
 iterate 2 refine q1 aF ?_
 refine q1 UH (q1 aF ?_)
 refine eK 10 H (fun g1 H=>?_) fun g1 H=>?_
 ·refine qg g1 aF (qg g1 aF (qg g1 rLe (q1 (b0 g1) (q1 aF (qN (aO.ret ?_))))))
  cases aZ H
  exact bR
 iterate 3 refine qk g1 ?_
 refine q1 (cC g1) (q1 aF (qN (aO.ret ?_)))
 cases aZ H
 exact bR
def S0(m:ByteArray→Option Bool):Prop:= ∀(ps:ByteArray) (r:Bool),m ps=some r→cA Tryz.prog 241 [pS ps] (pB r:PV)
def P5(fu:Nat)(ps:ByteArray):Nat→Unit→Option (LR Unit Bool):=
 fun i1 _=>gd (i1<(ps).size)
 (bd (F7 fu (B4 ps i1)) (fun x6=>
 sw (!(x6))
 (some (.ret false))
 (some (.next ()))))
def P6(fu:Nat)(ps:ByteArray):Option (Bool⊕Unit):=
 loopN (P5 fu ps) (ps.size-0) 0 ()
def yK(fu:Nat)(ps:ByteArray):Option Bool:=
 so (P6 fu ps) (fun _=>
 bd (CY fu (ps.size:Int) 1 12) (fun x9=>
 some x9))
theorem P7(fu:Nat):S0 (yK fu):=by
 intro ps r H
 have H:=fF H
 refine qI Tryz.func241 (fun C hC=>?_)
 refine qS (qR (q1 aF (qN ?_)))
 iterate 2 refine qS ?_
 refine qR (q1 aF (qN ?_))
 refine szF 0 (fun hl2=>?_)
 refine cM (σ:=Unit) (fun i1 _=>⟨[(0,pS ps),(2,pB false),(3,pN i1)],⟨[],[]⟩⟩) (fun _=>⟨[(0,pS ps),(2,pB false)],⟨[],[]⟩⟩) (gW H) ?_ ?_
 ·rintro i1 ⟨⟩ H
  iterate 2 refine qS ?_
  refine qR ?_
  iterate 2 refine q1 aF ?_
  refine q1 (aV.lenS rfl rfl rfl Tryz.underlying9) (q1 iQ (qN ?_))
  refine eO H (fun h3 h3l H=>?_) (fun h3 H=>?_)
  ·have h3n:i1<ps.size:=by have:=of_decide_eq_true h3;omega
   refine aO.skip (qS (aO.block (qS (qR ?_))))
   iterate 2 refine q1 aF ?_
   refine c9 H fun z4 H=>(q1 (aV.indexS (k:=i1) rfl rfl rfl rfl z4 Tryz.underlying9) (bU H fun x6 z5 H=>(q1 (bQ Tryz.func226 (TT fu (B4 ps i1) _ z5)) (q1 iS (qN ?_)))))
   refine bH H (fun h7 H=>?_) (fun h7 H=>?_)
   ·refine qS (qR (q1 aF (qN (aO.ret ?_))))
    obtain rfl:_=r:=(rK (aZ H):)
    exact bR
   refine aO.skip (qR (q1 aF (q1 (aV.addI rfl rfl rfl rfl (c:=((i1+1:Nat):Int)) (by omega) (by omega)) (q1 aF (qN ?_)))))
   exact j8 h3l ⟨_,(aZ H:),b9⟩
  refine aO.exit ?_;exact lP ⟨_,H,b9⟩
 rintro⟨⟩ H
 refine qS (qR (q1 aF (q1 (aV.lenS rfl rfl rfl Tryz.underlying9) (bU H fun x9 z8 H=>(q1 (bQ Tryz.func108 (FA fu (ps.size:Int) 1 12 _ z8)) (q1 aF (qN (aO.ret ?_))))))))
 cases aZ H
 exact bR
abbrev uR:=aB→Option Bool
def F8(m:uR):Prop:= ∀(px:aB) (r:Bool),m px=some r→cA Tryz.prog 228 [(aB.pv px)] (pB r:PV)
def af7(fu:Nat)(r_sl2Form:uR)(px:aB):Nat→Unit→Option (LR Unit Bool):=
 fun i5 _=>bd (r_sl2Form (bB px.gList i5)) (fun x9=>
 sw (!(x9))
 (some (.ret false))
 (some (.next ())))
def af8(fu:Nat)(r_sl2Form:uR)(px:aB):Option (Bool⊕Unit):=
 loopN (af7 fu r_sl2Form px) (px.gList.length-0) 0 ()
def OI(fu:Nat)(r_sl2Form:uR)(px:aB):Option Bool:=
 sw (!decide (px.gAtom=s_))
 (bd (yK fu px.gAtom) (fun x3=>
 sw (x3)
 (some (decide ((px.gList.length:Int)=0)))
 (some false)))
 (so (af8 fu r_sl2Form px) (fun _=>
 some true))
theorem ZV(fu:Nat)(r_sl2Form:uR)(h_sl2Form:F8 r_sl2Form):F8 (OI fu r_sl2Form):=by
 intro px r H
 have H:=fF H
 refine qI Tryz.func228 (fun C hC=>?_)
 refine qS (qR (q1 (kQ ([pS px.gAtom,bJ px.gList])) (q1 aF (qN ?_))))
 iterate 2 refine qS ?_
 refine qR (q1 (bC fR) (q1 (bL fO) (q1 SP (qN ?_))))
 refine bH H (fun h1 H=>?_) (fun h1 H=>?_)
 ·refine qS (qR (q1 (bC fR) (q1 (bL fO) (bU H fun x3 z2 H=>(q1 (bQ Tryz.func241 (P7 fu px.gAtom _ z2)) (q1 aF ?_))))))
  refine eK 10 H (fun g4 H=>?_) fun g4 H=>?_
  ·refine qg g4 (bC bN) (qg g4 (bL c6) (qg g4 (eR bO (aB.trs_len _)) (qg g4 eP (q1 (b0 g4) (q1 aF (qN (aO.ret ?_)))))))
   cases aZ H
   exact bR
  iterate 4 refine qk g4 ?_
  refine q1 (cC g4) (q1 aF (qN (aO.ret ?_)))
  cases aZ H
  exact bR
 refine aO.skip ?_
 iterate 2 refine qS ?_
 refine qR (q1 aF (qN ?_))
 refine aO.fact (c3 0 1 rfl rfl rfl (aB.trs_len _)) (fun hl6=>?_)
 refine cM (σ:=Unit) (fun i5 _=>⟨[(1,.ptr 0 0),(2,pB false),(3,pN i5)],⟨[some ⟨237,[pS px.gAtom,bJ px.gList]⟩],[]⟩⟩) (fun _=>⟨[(2,pB false)],⟨[some ⟨237,[pS px.gAtom,bJ px.gList]⟩],[]⟩⟩) (gW H) ?_ ?_
 ·rintro i5 ⟨⟩ H
  iterate 2 refine qS ?_
  refine qR (q1 aF (q1 (bC bN) (q1 (bL c6) (q1 (eR bO (aB.trs_len _)) (q1 iQ (qN ?_))))))
  refine eO H (fun h7 h7l H=>?_) (fun h7 H=>?_)
  ·have h7n:=bF h7
   refine aO.skip (qS (aO.block (qS (qR (q1 (bC bN) (q1 (bL c6) (q1 aF (q1 (jH h7n bO) (q1 (lB (aB.cs (bB px.gList i5)) bY) (bU H fun x9 z8 H=>(q1 (bQ Tryz.func228 (h_sl2Form (bB px.gList i5) _ z8)) (q1 iS (qN ?_)))))))))))))
   refine bH H (fun h10 H=>?_) (fun h10 H=>?_)
   ·refine qS (qR (q1 aF (qN (aO.ret ?_))))
    obtain rfl:_=r:=(rK (aZ H):)
    exact bR
   refine aO.skip (qR (q1 aF (q1 (aV.addI rfl rfl rfl rfl (c:=((i5+1:Nat):Int)) (by omega) (by omega)) (q1 aF (qN ?_)))))
   exact j8 h7l ⟨_,(aZ H:),b9⟩
  refine aO.exit ?_;exact lP ⟨_,H,b9⟩
 rintro⟨⟩ H
 refine qS (qR (q1 aF (qN (aO.ret ?_))))
 cases aZ H
 exact bR
def o3:Nat→aB→Option Bool
 |0,_=>none
 |fu+1,px=>OI fu (o3 fu) px
theorem adF(fu:Nat):F8 (o3 fu):=by
 induction fu with
 |zero=>exact(fun px r H=>by simp only [o3] at H;cases H)
 |succ fu ih=>exact(fun px r H=>by simp only [o3] at H;exact ZV fu (o3 fu) ih px r H)
theorem agA(fu:Nat):F8 (o3 fu):=(adF fu)
def alN(m:Int→Int→Option Int):Prop:= ∀(pa:Int) (pb:Int) (r:Int),m pa pb=some r→cA Tryz.prog 242 [pI pa,pI pb] (pI r:PV)
def MA(fu:Nat)(pa pb:Int):Option Int:=
 sw (decide (pa>pb))
 (some pa)
 (some pb)
theorem WT(fu:Nat):alN (MA fu):=by
 intro pa pb r H
 have H:=fF H
 refine qI Tryz.func242 (fun C hC=>?_)
 refine qS (qR (q1 aF (qN ?_)))
 iterate 2 refine qS ?_
 refine qR ?_
 iterate 2 refine q1 aF ?_
 refine q1 MI (qN ?_)
 refine bH H (fun h1 H=>?_) (fun h1 H=>?_)
 ·refine qS (qR ?_)
  iterate 2 refine q1 aF ?_
  refine qN (aO.ret ?_)
  cases aZ H
  exact bR
 refine aO.skip (qS (qR ?_))
 iterate 2 refine q1 aF ?_
 refine qN (aO.ret ?_)
 cases aZ H
 exact bR
abbrev mP:=aB→Option Int
def u4(m:mP):Prop:= ∀(px:aB) (r:Int),m px=some r→cA Tryz.prog 229 [(aB.pv px)] (pI r:PV)
def S9(fu:Nat)(r_sSExprDepth:mP)(px:aB):Nat→Int→Option (LR Int Int):=
 fun i2 v3=>bd (r_sSExprDepth (bB px.gList i2)) (fun x7=>
 bd (MA fu v3 x7) (fun x9=>
 some (.next x9)))
def TA(fu:Nat)(r_sSExprDepth:mP)(px:aB):Option (Int⊕Int):=
 loopN (S9 fu r_sSExprDepth px) (px.gList.length-0) 0 0
def AJ(fu:Nat)(r_sSExprDepth:mP)(px:aB):Option Int:=
 sw (!decide (px.gAtom=s_))
 (some 0)
 (so (TA fu r_sSExprDepth px) (fun v3=>
 some (aQ (v3+1))))
theorem NW(fu:Nat)(r_sSExprDepth:mP)(h_sSExprDepth:u4 r_sSExprDepth):u4 (AJ fu r_sSExprDepth):=by
 intro px r H
 have H:=fF H
 refine qI Tryz.func229 (fun C hC=>?_)
 refine qS (qR (q1 (kQ ([pS px.gAtom,bJ px.gList])) (q1 aF (qN ?_))))
 iterate 2 refine qS ?_
 refine qR (q1 (bC fR) (q1 (bL fO) (q1 SP (qN ?_))))
 refine bH H (fun h1 H=>?_) (fun h1 H=>?_)
 ·refine qS (qR (q1 aF (qN (aO.ret ?_))))
  cases aZ H
  exact bR
 refine aO.skip (qS (qR (q1 aF (qN ?_))))
 iterate 2 refine qS ?_
 refine qR (q1 aF (qN ?_))
 refine aO.fact (c3 0 1 rfl rfl rfl (aB.trs_len _)) (fun hl4=>?_)
 refine cM (σ:=Int) (fun i2 v3=>⟨[(1,.ptr 0 0),(2,pI 0),(3,pI v3),(4,pN i2)],⟨[some ⟨237,[pS px.gAtom,bJ px.gList]⟩],[]⟩⟩) (fun v3=>⟨[(2,pI 0),(3,pI v3)],⟨[some ⟨237,[pS px.gAtom,bJ px.gList]⟩],[]⟩⟩) (gW H) ?_ ?_
 ·rintro i2 v3 H
  iterate 2 refine qS ?_
  refine qR (q1 aF (q1 (bC bN) (q1 (bL c6) (q1 (eR bO (aB.trs_len _)) (q1 iQ (qN ?_))))))
  refine eO H (fun h5 h5l H=>?_) (fun h5 H=>?_)
  ·have h5n:=bF h5
   refine aO.skip (qS (aO.block (qR (q1 aF (q1 (bC bN) (q1 (bL c6) (q1 aF (q1 (jH h5n bO) (q1 (lB (aB.cs (bB px.gList i2)) bY) (bU H fun x7 z6 H=>(q1 (bQ Tryz.func229 (h_sSExprDepth (bB px.gList i2) _ z6)) (bU H fun x9 z8 H=>(q1 (bQ Tryz.func242 (WT fu v3 x7 _ z8)) ?_)))))))))))))
   refine q1 aF (qN (qR (q1 aF (q1 (aV.addI rfl rfl rfl rfl (c:=((i2+1:Nat):Int)) (by omega) (by omega)) (q1 aF (qN ?_))))))
   exact j8 h5l ⟨_,(aZ H:),b9⟩
  refine aO.exit ?_;exact lP ⟨_,H,b9⟩
 rintro v3 H
 refine qS (qR (q1 aF (q1 Q6 (q1 aF (qN (aO.ret ?_))))))
 cases aZ H
 exact bR
def iT:Nat→aB→Option Int
 |0,_=>none
 |fu+1,px=>AJ fu (iT fu) px
theorem QI(fu:Nat):u4 (iT fu):=by
 induction fu with
 |zero=>exact(fun px r H=>by simp only [iT] at H;cases H)
 |succ fu ih=>exact(fun px r H=>by simp only [iT] at H;exact NW fu (iT fu) ih px r H)
theorem TD(fu:Nat):u4 (iT fu):=(QI fu)
def QD(m:aB→Option Bool):Prop:= ∀(px:aB) (r:Bool),m px=some r→cA Tryz.prog 217 [(aB.pv px)] (pB r:PV)
def iE(fu:Nat)(px:aB):Option Bool:=
 bd (o4 fu px 900) (fun x2=>
 sw (decide (x2≥0))
 (bd (o3 fu px) (fun x5=>
 sw (x5)
 (bd (iT fu px) (fun x8=>
 some (decide (x8≤14))))
 (some false)))
 (some false))
theorem dL(fu:Nat):QD (iE fu):=by
 intro px r H
 have H:=fF H
 refine qI Tryz.func217 (fun C hC=>?_)
 refine qS (qR (q1 (kQ ([pS px.gAtom,bJ px.gList])) (q1 aF (qN (qS (qR (q1 (cY [pS px.gAtom,bJ px.gList] bY) (bU H fun x2 z1 H=>(q1 (bQ Tryz.func227 (agE fu px 900 _ z1)) (q1 UH (q1 aF ?_)))))))))))
 refine eK 6 H (fun g3 H=>?_) fun g3 H=>?_
 ·refine qg g3 (cY [pS px.gAtom,bJ px.gList] bY) (bU H fun x5 z4 H=>(qg g3 (bQ Tryz.func228 (agA fu px _ z4)) (q1 (b0 g3) (q1 aF ?_))))
  refine eK 10 H (fun g6 H=>?_) fun g6 H=>?_
  ·refine qg g6 (cY [pS px.gAtom,bJ px.gList] bY) (bU H fun x8 z7 H=>(qg g6 (bQ Tryz.func229 (TD fu px _ z7)) (qg g6 rLe (q1 (b0 g6) (q1 aF (qN (aO.ret ?_)))))))
   cases aZ H
   exact bR
  iterate 3 refine qk g6 ?_
  refine q1 (cC g6) (q1 aF (qN (aO.ret ?_)))
  cases aZ H
  exact bR
 iterate 2 refine qk g3 ?_
 refine q1 (cC g3) (q1 aF ?_)
 iterate 3 refine qk rfl ?_
 refine q1 (cC rfl) (q1 aF (qN (aO.ret ?_)))
 cases aZ H
 exact bR
def VL(m:ByteArray→Option (aB×Bool)):Prop:= ∀(ps:ByteArray) (r:aB×Bool),m ps=some r→cA Tryz.prog 207 [pS ps] (.tup [(aB.pv r.1),pB r.2]:PV)
def uZ(fu:Nat)(ps:ByteArray):Option (aB×Bool):=
 bd (qV fu (cT.mk ps 0 0 0 false)) (fun(x2,x3)=>
 bd (xL fu x3) (fun x5=>
 sw (x5.gbad)
 (some ((aB.mk s_ []),false))
 (sw (!decide (x5.gat=(ps.size:Int)))
 (some ((aB.mk s_ []),false))
 (bd (iE fu x2) (fun x9=>
 sw (!(x9))
 (some ((aB.mk s_ []),false))
 (some (x2,true)))))))
theorem S8(fu:Nat):VL (uZ fu):=by
 intro ps r H
 have H:=fF H
 refine qI Tryz.func207 (fun C hC=>?_)
 refine qS (qR (q1 (iG cF) (q1 aF (qN (qS (qR (q1 aF (q1 (gD apY apE) (q1 (kQ ([pS ps,pI 0,pI 0,pI 0,pB false])) (q1 aF (qN (qS (qR ?_)))))))))))))
 refine q1 aF (fQ H fun x2 x3 z1 H=>(q1 (f6 [1] [] Tryz.func215 (agG fu (cT.mk ps 0 0 0 false) _ z1)) (q1 (iG cF) (q1 (b3 eQ) (qN (qS (qR (q1 aF (bU H fun x5 z4 H=>(q1 (f6 [1] [] Tryz.func216 (KG fu x3 _ z4)) (qN ?_)))))))))))
 iterate 2 refine qS ?_
 refine qR (q1 aF (q1 qM (q1 (bC FQ) (q1 (bL sh4) (q1 aF ?_)))))
 refine eK 17 H (fun g6 H=>?_) fun g6 H=>?_
 ·refine qk g6 ?_
  iterate 6 refine qk g6 ?_
  refine q1 (b0 g6) (q1 aF ?_)
  iterate 3 refine qk rfl ?_
  refine q1 (b0 rfl) (qN (eM rfl (qS (qR (q1 (gD cF nF) (q1 (b3 eQ) (q1 aF (qN (aO.ret ?_)))))))))
  cases aZ H
  exact lW (hr:=⟨⟨_,_,_,rfl,rfl,bY,rfl,rfl⟩,rfl,trivial⟩)
 refine qg g6 aF (qg g6 qM (qg g6 (bC fS) (qg g6 (bL kZ) (qg g6 aF (qg g6 (aV.lenS rfl rfl rfl Tryz.underlying9) (qg g6 MJ (q1 (cC g6) (q1 aF ?_))))))))
 refine eK 26 H (fun g7 H=>?_) fun g7 H=>?_
 ·refine qk g7 ?_
  iterate 2 refine qk g7 ?_
  refine q1 (b0 g7) (qN (eM rfl (qS (qR (q1 (gD cF nF) (q1 (b3 eQ) (q1 aF (qN (aO.ret ?_)))))))))
  cases aZ H
  exact lW (hr:=⟨⟨_,_,_,rfl,rfl,bY,rfl,rfl⟩,rfl,trivial⟩)
 refine qg g7 (cY [pS x2.gAtom,bJ x2.gList] bY) (bU H fun x9 z8 H=>(qg g7 (bQ Tryz.func217 (dL fu x2 _ z8)) (qg g7 iS (q1 (cC g7) (qN ?_)))))
 refine bH H (fun h10 H=>?_) (fun h10 H=>?_)
 ·refine qS (qR (q1 (gD cF nF) (q1 (b3 eQ) (q1 aF (qN (aO.ret ?_))))))
  cases aZ H
  exact lW (hr:=⟨⟨_,_,_,rfl,rfl,bY,rfl,rfl⟩,rfl,trivial⟩)
 refine aO.skip (qS (qR (q1 (cY [pS x2.gAtom,bJ x2.gList] bY) (q1 (b3 eQ) (q1 aF (qN (aO.ret ?_)))))))
 cases aZ H
 exact lW (hr:=⟨⟨_,_,_,rfl,rfl,bY,rfl,rfl⟩,rfl,trivial⟩)
def af6(m:(List aB)→Option ((List ByteArray)×Bool)):Prop:= ∀(plist:List aB) (r:(List ByteArray)×Bool),m plist=some r→cA Tryz.prog 218 [bJ plist] (.tup [rS r.1,pB r.2]:PV)
def adD(fu:Nat)(plist:List aB):Nat→((List ByteArray))→Option (LR ((List ByteArray)) ((List ByteArray)×Bool)):=
 fun i1 v3=>sw (decide ((bB plist i1).gAtom=s_))
 (some (.ret (([]),false)))
 (gd ((v3).length+(([((bB plist i1).gAtom)]:List ByteArray)).length≤68719476736)
 (some (.next (v3++([((bB plist i1).gAtom)]:List ByteArray)))))
def adE(fu:Nat)(plist:List aB):Option (((List ByteArray)×Bool)⊕((List ByteArray))):=
 loopN (adD fu plist) (plist.length-0) 0 ([])
def yU(fu:Nat)(plist:List aB):Option ((List ByteArray)×Bool):=
 so (adE fu plist) (fun v3=>
 some (v3,true))
theorem FB(fu:Nat):af6 (yU fu):=by
 intro plist r H
 have H:=fF H
 refine qI Tryz.func218 (fun C hC=>?_)
 refine qS (qR ?_)
 iterate 2 refine q1 aF ?_
 refine qN (qS (qR (q1 (wA ([]:List ByteArray) b6 lO) (q1 aF (qN ?_)))))
 iterate 2 refine qS ?_
 refine qR (q1 aF (qN ?_))
 refine kV 0 (aB.trs_len _) (fun hl4=>?_)
 refine cM (σ:=(List ByteArray)) (fun i1 v3=>⟨[(0,bJ plist),(2,.nil),(3,pB false),(4,aS v3 0),(5,pN i1)],⟨[],[⟨9,1,aX (v3),false⟩]⟩⟩) (fun v3=>⟨[(2,.nil),(3,pB false),(4,aS v3 0)],⟨[],[⟨9,1,aX (v3),false⟩]⟩⟩) (gW H) ?_ ?_
 ·rintro i1 v3 H
  iterate 2 refine qS ?_
  refine qR ?_
  iterate 2 refine q1 aF ?_
  refine q1 (eR bO (aB.trs_len _)) (q1 iQ (qN ?_))
  refine eO H (fun h5 h5l H=>?_) (fun h5 H=>?_)
  ·have h5n:=bF h5
   refine aO.skip (qS (aO.block ?_))
   iterate 2 refine qS ?_
   refine qR ?_
   iterate 2 refine q1 aF ?_
   refine q1 (jH h5n bO) (q1 (rC fR) (q1 (p9 fO) (q1 JL (qN ?_))))
   refine bH H (fun h6 H=>?_) (fun h6 H=>?_)
   ·refine qS (qR (q1 (wA ([]:List ByteArray) b6 lO) ?_))
    iterate 2 refine q1 aF ?_
    refine qN (aO.ret ?_)
    obtain rfl:_=r:=(rK (aZ H):)
    exact lW
   refine aO.skip (qR ?_)
   iterate 3 refine q1 aF ?_
   refine q1 (jH h5n bO) (q1 (rC fR) (q1 (p9 fO) (q1 (iW ([((bB plist i1).gAtom)]:List ByteArray) b6 lO) (c9 H fun z7 H=>(q1 (oE z7 b6 sM) (q1 aF (qN (qR (q1 aF (q1 (aV.addI rfl rfl rfl rfl (c:=((i1+1:Nat):Int)) (by omega) (by omega)) (q1 aF (qN ?_))))))))))))
   exact j8 h5l ⟨_,(aZ H:),b9⟩
  refine aO.exit ?_;exact lP ⟨_,H,b9⟩
 rintro v3 H
 refine qS (qR ?_)
 iterate 3 refine q1 aF ?_
 refine qN (aO.ret ?_)
 cases aZ H
 exact lW
def ajV(m:ByteArray→Option aB):Prop:= ∀(ps:ByteArray) (r:aB),m ps=some r→cA Tryz.prog 266 [pS ps] ((aB.pv r):PV)
def cI(fu:Nat)(ps:ByteArray):Option aB:=
 some (aB.mk ps [])
theorem cB(fu:Nat):ajV (cI fu):=by
 intro ps r H
 have H:=fF H
 refine qI Tryz.func266 (fun C hC=>?_)
 refine qS (qR (q1 (iG cF) (qN (qS (qR (q1 aF (q1 (gD cF nF) (q1 (b3 eQ) (qN (aO.ret ?_))))))))))
 cases aZ H
 exact bR (hr:=⟨⟨_,_,_,rfl,rfl,bY,rfl,rfl⟩,trivial⟩)
def agH(m:(List ByteArray)→Option ((List aB))):Prop:= ∀(plist:List ByteArray) (r:(List aB)),m plist=some r→cA Tryz.prog 280 [rS plist] (bJ r:PV)
def adI(fu:Nat)(plist:List ByteArray):Nat→((List aB))→Option (LR ((List aB)) ((List aB))):=
 fun i1 v3=>bd (cI fu (bB plist i1)) (fun x7=>
 gd ((v3).length+(([x7]:List aB)).length≤68719476736)
 (some (.next (v3++([x7]:List aB)))))
def adJ(fu:Nat)(plist:List ByteArray):Option (((List aB))⊕((List aB))):=
 loopN (adI fu plist) (plist.length-0) 0 ([])
def C0(fu:Nat)(plist:List ByteArray):Option ((List aB)):=
 so (adJ fu plist) (fun v3=>
 some v3)
theorem O6(fu:Nat):agH (C0 fu):=by
 intro plist r H
 have H:=fF H
 refine qI Tryz.func280 (fun C hC=>?_)
 refine qS (qR (q1 aF (qN (qS (qR (q1 (wA ([]:List aB) bO cF) (q1 aF (qN ?_))))))))
 iterate 2 refine qS ?_
 refine qR (q1 aF (qN ?_))
 refine kV 0 (bI _) (fun hl4=>?_)
 refine cM (σ:=(List aB)) (fun i1 v3=>⟨[(0,rS plist),(2,.nil),(3,eL v3 0),(4,pN i1)],⟨[],[⟨237,2,aB.trs (v3),false⟩]⟩⟩) (fun v3=>⟨[(2,.nil),(3,eL v3 0)],⟨[],[⟨237,2,aB.trs (v3),false⟩]⟩⟩) (gW H) ?_ ?_
 ·rintro i1 v3 H
  iterate 2 refine qS ?_
  refine qR ?_
  iterate 2 refine q1 aF ?_
  refine q1 (eR b6 (bI _)) (q1 iQ (qN ?_))
  refine eO H (fun h5 h5l H=>?_) (fun h5 H=>?_)
  ·have h5n:=bF h5
   refine aO.skip (qS (aO.block (qR ?_)))
   iterate 3 refine q1 aF ?_
   refine q1 (jH h5n b6) (q1 (p9 fO) (bU H fun x7 z6 H=>(q1 (bQ Tryz.func266 (cB fu (bB plist i1) _ z6)) (q1 (iW ([x7]:List aB) bO cF) (c9 H fun z8 H=>(q1 (oE z8 bO q8) (q1 aF (qN (qR (q1 aF (q1 (aV.addI rfl rfl rfl rfl (c:=((i1+1:Nat):Int)) (by omega) (by omega)) (q1 aF (qN ?_)))))))))))))
   exact j8 h5l ⟨_,(aZ H:),b9⟩
  refine aO.exit ?_;exact lP ⟨_,H,b9⟩
 rintro v3 H
 refine qS (qR ?_)
 iterate 2 refine q1 aF ?_
 refine qN (aO.ret ?_)
 cases aZ H
 exact bR
def WU(m:(List aB)→Option aB):Prop:= ∀(plist:List aB) (r:aB),m plist=some r→W0 Tryz.prog 265 [bJ plist] ⟨[],[]⟩ [] 237 2 (aB.trs (r.gList)) (fun k=> .agg [pS r.gAtom,eL r.gList k])
theorem CZ{m:(List aB)→Option aB}(h:WU m)(plist:List aB)(r:aB)(H:m plist=some r):cA Tryz.prog 265 [bJ plist] ((aB.pv r):PV):=(h plist r H).plain (fun _=>lG) (hp:=aoA)
def l5(fu:Nat)(plist:List aB):Option aB:=
 gd (([]:List aB).length+(plist).length≤68719476736)
 (some (aB.mk s_ (([])++plist)))
theorem mV(fu:Nat):WU (l5 fu):=by
 intro plist r H
 unfold W0
 have H:=fF H
 refine qI Tryz.func265 (fun C hC=>?_)
 refine qS (qR (q1 (iG cF) (qN (qS (qR (q1 (wA ([]:List aB) bO cF) (q1 aF (c9 H fun z1 H=>(q1 (oE z1 bO q8) (q1 (gD cF nF) (q1 (b3 eQ) (qN (aO.ret ?_)))))))))))))
 cases aZ H
 exact bR (st':=⟨[],[⟨237,2,aB.trs (([])++plist),false⟩]⟩) ⟨0,rfl,rfl,rfl⟩ (hr:=⟨⟨_,_,_,rfl,rfl,bY,rfl,rfl⟩,trivial⟩)
abbrev mO:=aB→aB→Option Bool
def uY(m:mO):Prop:= ∀(pa:aB) (pb:aB) (r:Bool),m pa pb=some r→cA Tryz.prog 248 [(aB.pv pa),(aB.pv pb)] (pB r:PV)
def SV(fu:Nat)(r_sEqualSExpr:mO)(pa pb:aB):Nat→Unit→Option (LR Unit Bool):=
 fun i3 _=>gd (i3<(pb.gList).length)
 (bd (r_sEqualSExpr (bB pa.gList i3) (bB pb.gList i3)) (fun x8=>
 sw (!(x8))
 (some (.ret false))
 (some (.next ()))))
def SW(fu:Nat)(r_sEqualSExpr:mO)(pa pb:aB):Option (Bool⊕Unit):=
 loopN (SV fu r_sEqualSExpr pa pb) (pa.gList.length-0) 0 ()
def AG(fu:Nat)(r_sEqualSExpr:mO)(pa pb:aB):Option Bool:=
 sw (!decide (pa.gAtom=pb.gAtom))
 (some false)
 (sw (!decide ((pa.gList.length:Int)=(pb.gList.length:Int)))
 (some false)
 (so (SW fu r_sEqualSExpr pa pb) (fun _=>
 some true)))
theorem NK(fu:Nat)(r_sEqualSExpr:mO)(h_sEqualSExpr:uY r_sEqualSExpr):uY (AG fu r_sEqualSExpr):=by
 intro pa pb r H
 have H:=fF H
 refine qI Tryz.func248 (fun C hC=>?_)
 refine qS (qR (q1 (kQ ([pS pa.gAtom,bJ pa.gList])) (q1 (kQ ([pS pb.gAtom,bJ pb.gList])) (q1 aF (qN ?_)))))
 iterate 2 refine qS ?_
 refine qR (q1 (bC fR) (q1 (bL fO) (q1 (bC fR) (q1 (bL fO) (q1 SP (q1 aF ?_))))))
 refine eK 11 H (fun g1 H=>?_) fun g1 H=>?_
 ·refine qk g1 ?_
  iterate 6 refine qk g1 ?_
  refine q1 (b0 g1) (qN (eM rfl (qS (qR (q1 aF (qN (aO.ret ?_)))))))
  cases aZ H
  exact bR
 refine qg g1 (bC bN) (qg g1 (bL c6) (qg g1 (eR bO (aB.trs_len _)) (qg g1 (bC bN) (qg g1 (bL c6) (qg g1 (eR bO (aB.trs_len _)) (qg g1 MJ (q1 (cC g1) (qN ?_))))))))
 refine bH H (fun h2 H=>?_) (fun h2 H=>?_)
 ·refine qS (qR (q1 aF (qN (aO.ret ?_))))
  cases aZ H
  exact bR
 refine aO.skip ?_
 iterate 2 refine qS ?_
 refine qR (q1 aF (qN ?_))
 refine kV 13 (aB.trs_len _) (fun hl4=>?_)
 refine cM (σ:=Unit) (fun i3 _=>⟨[(2,.ptr 0 0),(3,.ptr 1 0),(4,pB false),(5,pN i3)],⟨[some ⟨237,[pS pa.gAtom,bJ pa.gList]⟩,some ⟨237,[pS pb.gAtom,bJ pb.gList]⟩],[]⟩⟩) (fun _=>⟨[(4,pB false)],⟨[some ⟨237,[pS pa.gAtom,bJ pa.gList]⟩,some ⟨237,[pS pb.gAtom,bJ pb.gList]⟩],[]⟩⟩) (gW H) ?_ ?_
 ·rintro i3 ⟨⟩ H
  iterate 2 refine qS ?_
  refine qR (q1 aF (q1 (bC bN) (q1 (bL c6) (q1 (eR bO (aB.trs_len _)) (q1 iQ (qN ?_))))))
  refine eO H (fun h5 h5l H=>?_) (fun h5 H=>?_)
  ·have h5n:=bF h5
   refine aO.skip (qS (aO.block (qS (c9 H fun z6 H=>(bU H fun x8 z7 H=>(dW (dI [2] (bC bN) (dD [27] (bL c6) (dI [5] aF (dI [28,29] (jH h5n bO) (dI [30] (lB (aB.cs (bB pa.gList i3)) bY) (dI [3] (bC bN) (dD [32] (bL c6) ?_)))))))))))))
   refine dI [5] aF (dI [33,34] (jH z6 bO) (dI [35] (lB (aB.cs (bB pb.gList i3)) bY) (dI [31,36] (bQ Tryz.func248 (h_sEqualSExpr (bB pa.gList i3) (bB pb.gList i3) _ z7)) (dI [37] iS (dN ?_)))))
   refine bH H (fun h9 H=>?_) (fun h9 H=>?_)
   ·refine qS (qR (q1 aF (qN (aO.ret ?_))))
    obtain rfl:_=r:=(rK (aZ H):)
    exact bR
   refine aO.skip (qR (q1 aF (q1 (aV.addI rfl rfl rfl rfl (c:=((i3+1:Nat):Int)) (by omega) (by omega)) (q1 aF (qN ?_)))))
   exact j8 h5l ⟨_,(aZ H:),b9⟩
  refine aO.exit ?_;exact lP ⟨_,H,b9⟩
 rintro⟨⟩ H
 refine qS (qR (q1 aF (qN (aO.ret ?_))))
 cases aZ H
 exact bR
def fW:Nat→aB→aB→Option Bool
 |0,_,_=>none
 |fu+1,pa,pb=>AG fu (fW fu) pa pb
theorem P3(fu:Nat):uY (fW fu):=by
 induction fu with
 |zero=>exact(fun pa pb r H=>by simp only [fW] at H;cases H)
 |succ fu ih=>exact(fun pa pb r H=>by simp only [fW] at H;exact NK fu (fW fu) ih pa pb r H)
theorem tM(fu:Nat):uY (fW fu):=(P3 fu)
end
end Go.Proofs.YtpioomclpaiomaaGreat.W

namespace Go.Proofs.YtpioomclpaiomaaGreat.W
set_option maxRecDepth 100000
set_option maxHeartbeats 40000000
noncomputable section
open Go.RowKit Go.Proofs
set_option linter.unusedSimpArgs false
set_option linter.unusedVariables false
attribute [local irreducible] lt
def alM(m:(List ByteArray)→ByteArray→Option Bool):Prop:= ∀(plist:List ByteArray) (ps:ByteArray) (r:Bool),m plist ps=some r→cA Tryz.prog 125 [rS plist,pS ps] (pB r:PV)
def WQ(fu:Nat)(plist:List ByteArray)(ps:ByteArray):Nat→Unit→Option (LR Unit Bool):=
 fun i1 _=>sw (decide (bB plist i1=ps))
 (some (.ret true))
 (some (.next ()))
def WR(fu:Nat)(plist:List ByteArray)(ps:ByteArray):Option (Bool⊕Unit):=
 loopN (WQ fu plist ps) (plist.length-0) 0 ()
def lV(fu:Nat)(plist:List ByteArray)(ps:ByteArray):Option Bool:=
 so (WR fu plist ps) (fun _=>
 some false)
theorem nK(fu:Nat):alM (lV fu):=by
 intro plist ps r H
 have H:=fF H
 refine qI Tryz.func125 (fun C hC=>?_)
 refine qS (qR (q1 aF (qN ?_)))
 iterate 2 refine qS ?_
 refine qR (q1 aF (qN ?_))
 refine kV 0 (bI _) (fun hl2=>?_)
 refine cM (σ:=Unit) (fun i1 _=>⟨[(0,rS plist),(1,pS ps),(4,pB false),(5,pN i1)],⟨[],[]⟩⟩) (fun _=>⟨[(4,pB false)],⟨[],[]⟩⟩) (gW H) ?_ ?_
 ·rintro i1 ⟨⟩ H
  iterate 2 refine qS ?_
  refine qR ?_
  iterate 2 refine q1 aF ?_
  refine q1 (eR b6 (bI _)) (q1 iQ (qN ?_))
  refine eO H (fun h3 h3l H=>?_) (fun h3 H=>?_)
  ·have h3n:=bF h3
   refine aO.skip (qS (aO.block (qS (qR ?_))))
   iterate 2 refine q1 aF ?_
   refine q1 (jH h3n b6) (q1 (p9 fO) (q1 aF (q1 JL (qN ?_))))
   refine bH H (fun h4 H=>?_) (fun h4 H=>?_)
   ·refine qS (qR (q1 aF (qN (aO.ret ?_))))
    obtain rfl:_=r:=(rK (aZ H):)
    exact bR
   refine aO.skip (qR (q1 aF (q1 (aV.addI rfl rfl rfl rfl (c:=((i1+1:Nat):Int)) (by omega) (by omega)) (q1 aF (qN ?_)))))
   exact j8 h3l ⟨_,(aZ H:),b9⟩
  refine aO.exit ?_;exact lP ⟨_,H,b9⟩
 rintro⟨⟩ H
 refine qS (qR (q1 aF (qN (aO.ret ?_))))
 cases aZ H
 exact bR
def VK(m:ByteArray→Option Bool):Prop:= ∀(ps:ByteArray) (r:Bool),m ps=some r→cA Tryz.prog 254 [pS ps] (pB r:PV)
def AI(fu:Nat)(ps:ByteArray):Option Bool:=
 bd (lV fu ([fK,fE,iY,wQ,CS,DE,wH,DF,oT,wI,pC,lY]:List ByteArray) ps) (fun x2=>
 some x2)
theorem SZ(fu:Nat):VK (AI fu):=by
 intro ps r H
 have H:=fF H
 refine qI Tryz.func254 (fun C hC=>?_)
 refine qS (qR (q1 aF (qN (qS (qR (q1 (iW ([fK,fE,iY,wQ,CS,DE,wH,DF,oT,wI,pC,lY]:List ByteArray) b6 lO) (q1 aF (bU H fun x2 z1 H=>(q1 (bQ Tryz.func125 (nK fu ([fK,fE,iY,wQ,CS,DE,wH,DF,oT,wI,pC,lY]:List ByteArray) ps _ z1)) (q1 aF (qN (aO.ret ?_))))))))))))
 cases aZ H
 exact bR
def S2(m:ByteArray→Option Bool):Prop:= ∀(ps:ByteArray) (r:Bool),m ps=some r→cA Tryz.prog 235 [pS ps] (pB r:PV)
def QA(fu:Nat)(ps:ByteArray)(x2 x5:Bool):Nat→Unit→Option (LR Unit Bool):=
 fun i7 _=>gd (i7<(ps).size)
 (sw (decide ((((B4 ps i7).toNat:Int):Int)≥97))
 (sw (!(decide ((((B4 ps i7).toNat:Int):Int)≤122)))
 (sw (decide ((i7:Int)=0))
 (some (.ret false))
 (sw (decide ((((B4 ps i7).toNat:Int):Int)<48))
 (some (.ret false))
 (sw (decide ((((B4 ps i7).toNat:Int):Int)>57))
 (some (.ret false))
 (some (.next ())))))
 (some (.next ())))
 (sw (decide ((i7:Int)=0))
 (some (.ret false))
 (sw (decide ((((B4 ps i7).toNat:Int):Int)<48))
 (some (.ret false))
 (sw (decide ((((B4 ps i7).toNat:Int):Int)>57))
 (some (.ret false))
 (some (.next ()))))))
def QB(fu:Nat)(ps:ByteArray)(x2 x5:Bool):Option (Bool⊕Unit):=
 loopN (QA fu ps x2 x5) (ps.size-0) 0 ()
def eB(fu:Nat)(ps:ByteArray):Option Bool:=
 bd (CY fu (ps.size:Int) 1 8) (fun x2=>
 sw (!(x2))
 (some false)
 (bd (AI fu ps) (fun x5=>
 sw (x5)
 (some false)
 (so (QB fu ps x2 x5) (fun _=>
 some true)))))
theorem eJ(fu:Nat):S2 (eB fu):=by
 intro ps r H
 have H:=fF H
 refine qI Tryz.func235 (fun C hC=>?_)
 refine qS (qR (q1 aF (qN ?_)))
 iterate 2 refine qS ?_
 refine qR (q1 aF (q1 (aV.lenS rfl rfl rfl Tryz.underlying9) (bU H fun x2 z1 H=>(q1 (bQ Tryz.func108 (FA fu (ps.size:Int) 1 8 _ z1)) (q1 iS (q1 aF ?_))))))
 refine eK 9 H (fun g3 H=>?_) fun g3 H=>?_
 ·refine qk g3 (qk g3 (q1 (b0 g3) (qN (eM rfl (qS (qR (q1 aF (qN (aO.ret ?_)))))))))
  cases aZ H
  exact bR
 refine qg g3 aF (bU H fun x5 z4 H=>(qg g3 (bQ Tryz.func254 (SZ fu ps _ z4)) (q1 (cC g3) (qN ?_))))
 refine bH H (fun h6 H=>?_) (fun h6 H=>?_)
 ·refine qS (qR (q1 aF (qN (aO.ret ?_))))
  cases aZ H
  exact bR
 refine aO.skip ?_
 iterate 2 refine qS ?_
 refine qR (q1 aF (qN ?_))
 refine szF 0 (fun hl8=>?_)
 refine cM (σ:=Unit) (fun i7 _=>⟨[(0,pS ps),(2,pB false),(3,pN i7)],⟨[],[]⟩⟩) (fun _=>⟨[(2,pB false)],⟨[],[]⟩⟩) (gW H) ?_ ?_
 ·rintro i7 ⟨⟩ H
  iterate 2 refine qS ?_
  refine qR ?_
  iterate 2 refine q1 aF ?_
  refine q1 (aV.lenS rfl rfl rfl Tryz.underlying9) (q1 iQ (qN ?_))
  refine eO H (fun h9 h9l H=>?_) (fun h9 H=>?_)
  ·have h9n:i7<ps.size:=by have:=of_decide_eq_true h9;omega
   refine aO.skip (qS (aO.block (qS (qR ?_))))
   iterate 2 refine q1 aF ?_
   refine c9 H fun z10 H=>(q1 (aV.indexS (k:=i7) rfl rfl rfl rfl z10 Tryz.underlying9) (q1 UH (q1 aF ?_)))
   refine eK 23 H (fun g11 H=>?_) fun g11 H=>?_
   ·refine qg g11 aF (qg g11 aF (qg g11 (aV.indexS (k:=i7) rfl rfl rfl rfl z10 Tryz.underlying9) (qg g11 rLe (q1 (b0 g11) (q1 aF (qN (qS (qR (q1 aF (q1 iS (q1 aF ?_)))))))))))
    refine eK 31 H (fun g12 H=>?_) fun g12 H=>?_
    ·refine qg g12 aF (qg g12 eP (qg g12 aF ?_))
     refine eK 34 H (fun g13 H=>?_) fun g13 H=>?_
     ·refine qk g13 ?_
      iterate 3 refine qk g13 ?_
      refine qg g12 (b0 g13) (qg g12 aF ?_)
      iterate 4 refine qk rfl ?_
      refine qg g12 (b0 rfl) (q1 (b0 g12) (qN (eM rfl (qS (qR (q1 aF (qN (aO.ret ?_))))))))
      obtain rfl:_=r:=(rK (aZ H):)
      exact bR
     iterate 2 refine qg g13 aF ?_
     refine qg g13 (aV.indexS (k:=i7) rfl rfl rfl rfl z10 Tryz.underlying9) (qg g13 iQ (qg g12 (cC g13) (qg g12 aF ?_)))
     refine eK 40 H (fun g14 H=>?_) fun g14 H=>?_
     ·refine qk g14 ?_
      iterate 3 refine qk g14 ?_
      refine qg g12 (b0 g14) (q1 (b0 g12) (qN (eM rfl (qS (qR (q1 aF (qN (aO.ret ?_))))))))
      obtain rfl:_=r:=(rK (aZ H):)
      exact bR
     iterate 2 refine qg g14 aF ?_
     refine qg g14 (aV.indexS (k:=i7) rfl rfl rfl rfl z10 Tryz.underlying9) (qg g14 MI (qg g12 (cC g14) (q1 (b0 g12) (qN ?_))))
     refine bH H (fun h15 H=>?_) (fun h15 H=>?_)
     ·refine qS (qR (q1 aF (qN (aO.ret ?_))))
      obtain rfl:_=r:=(rK (aZ H):)
      exact bR
     refine aO.skip (qR (q1 aF (q1 (aV.addI rfl rfl rfl rfl (c:=((i7+1:Nat):Int)) (by omega) (by omega)) (q1 aF (qN ?_)))))
     exact j8 h9l ⟨_,(aZ H:),b9⟩
    iterate 3 refine qk g12 ?_
    iterate 4 refine IF ?_
    iterate 2 refine qk g12 ?_
    iterate 4 refine IF ?_
    refine qk g12 (q1 (cC g12) (qN (kP rfl (aO.skip (qR (q1 aF (q1 (aV.addI rfl rfl rfl rfl (c:=((i7+1:Nat):Int)) (by omega) (by omega)) (q1 aF (qN ?_)))))))))
    exact j8 h9l ⟨_,(aZ H:),b9⟩
   iterate 4 refine qk g11 ?_
   refine q1 (cC g11) (q1 aF (qN (qS (qR (q1 aF (q1 iS (q1 aF (qg (congrArg (fun b=> !b) (rfl:false=false)) aF (qg (congrArg (fun b=> !b) (rfl:false=false)) eP (qg (congrArg (fun b=> !b) (rfl:false=false)) aF ?_))))))))))
   refine eK 34 H (fun g16 H=>?_) fun g16 H=>?_
   ·refine qk g16 ?_
    iterate 3 refine qk g16 ?_
    refine qg (congrArg (fun b=> !b) (rfl:false=false)) (b0 g16) (qg (congrArg (fun b=> !b) (rfl:false=false)) aF ?_)
    iterate 4 refine qk rfl ?_
    refine qg (congrArg (fun b=> !b) (rfl:false=false)) (b0 rfl) (q1 (b0 (congrArg (fun b=> !b) (rfl:false=false))) (qN (eM rfl (qS (qR (q1 aF (qN (aO.ret ?_))))))))
    obtain rfl:_=r:=(rK (aZ H):)
    exact bR
   iterate 2 refine qg g16 aF ?_
   refine qg g16 (aV.indexS (k:=i7) rfl rfl rfl rfl z10 Tryz.underlying9) (qg g16 iQ (qg (congrArg (fun b=> !b) (rfl:false=false)) (cC g16) (qg (congrArg (fun b=> !b) (rfl:false=false)) aF ?_)))
   refine eK 40 H (fun g17 H=>?_) fun g17 H=>?_
   ·refine qk g17 ?_
    iterate 3 refine qk g17 ?_
    refine qg (congrArg (fun b=> !b) (rfl:false=false)) (b0 g17) (q1 (b0 (congrArg (fun b=> !b) (rfl:false=false))) (qN (eM rfl (qS (qR (q1 aF (qN (aO.ret ?_))))))))
    obtain rfl:_=r:=(rK (aZ H):)
    exact bR
   iterate 2 refine qg g17 aF ?_
   refine qg g17 (aV.indexS (k:=i7) rfl rfl rfl rfl z10 Tryz.underlying9) (qg g17 MI (qg (congrArg (fun b=> !b) (rfl:false=false)) (cC g17) (q1 (b0 (congrArg (fun b=> !b) (rfl:false=false))) (qN ?_))))
   refine bH H (fun h18 H=>?_) (fun h18 H=>?_)
   ·refine qS (qR (q1 aF (qN (aO.ret ?_))))
    obtain rfl:_=r:=(rK (aZ H):)
    exact bR
   refine aO.skip (qR (q1 aF (q1 (aV.addI rfl rfl rfl rfl (c:=((i7+1:Nat):Int)) (by omega) (by omega)) (q1 aF (qN ?_)))))
   exact j8 h9l ⟨_,(aZ H:),b9⟩
  refine aO.exit ?_;exact lP ⟨_,H,b9⟩
 rintro⟨⟩ H
 refine qS (qR (q1 aF (qN (aO.ret ?_))))
 cases aZ H
 exact bR
def agI(m:(List ByteArray)→Option Bool):Prop:= ∀(plist:List ByteArray) (r:Bool),m plist=some r→cA Tryz.prog 255 [rS plist] (pB r:PV)
def adK(fu:Nat)(plist:List ByteArray):Nat→Unit→Option (LR Unit Bool):=
 fun i1 _=>bd (eB fu (bB plist i1)) (fun x5=>
 sw (!(x5))
 (some (.ret false))
 (some (.next ())))
def adL(fu:Nat)(plist:List ByteArray):Option (Bool⊕Unit):=
 loopN (adK fu plist) (plist.length-0) 0 ()
def C1(fu:Nat)(plist:List ByteArray):Option Bool:=
 so (adL fu plist) (fun _=>
 some true)
theorem O7(fu:Nat):agI (C1 fu):=by
 intro plist r H
 have H:=fF H
 refine qI Tryz.func255 (fun C hC=>?_)
 refine qS (qR (q1 aF (qN ?_)))
 iterate 2 refine qS ?_
 refine qR (q1 aF (qN ?_))
 refine kV 0 (bI _) (fun hl2=>?_)
 refine cM (σ:=Unit) (fun i1 _=>⟨[(0,rS plist),(2,pB false),(3,pN i1)],⟨[],[]⟩⟩) (fun _=>⟨[(2,pB false)],⟨[],[]⟩⟩) (gW H) ?_ ?_
 ·rintro i1 ⟨⟩ H
  iterate 2 refine qS ?_
  refine qR ?_
  iterate 2 refine q1 aF ?_
  refine q1 (eR b6 (bI _)) (q1 iQ (qN ?_))
  refine eO H (fun h3 h3l H=>?_) (fun h3 H=>?_)
  ·have h3n:=bF h3
   refine aO.skip (qS (aO.block (qS (qR ?_))))
   iterate 2 refine q1 aF ?_
   refine q1 (jH h3n b6) (q1 (p9 fO) (bU H fun x5 z4 H=>(q1 (bQ Tryz.func235 (eJ fu (bB plist i1) _ z4)) (q1 iS (qN ?_)))))
   refine bH H (fun h6 H=>?_) (fun h6 H=>?_)
   ·refine qS (qR (q1 aF (qN (aO.ret ?_))))
    obtain rfl:_=r:=(rK (aZ H):)
    exact bR
   refine aO.skip (qR (q1 aF (q1 (aV.addI rfl rfl rfl rfl (c:=((i1+1:Nat):Int)) (by omega) (by omega)) (q1 aF (qN ?_)))))
   exact j8 h3l ⟨_,(aZ H:),b9⟩
  refine aO.exit ?_;exact lP ⟨_,H,b9⟩
 rintro⟨⟩ H
 refine qS (qR (q1 aF (qN (aO.ret ?_))))
 cases aZ H
 exact bR
def ST(m:(List ByteArray)→Option Bool):Prop:= ∀(plist:List ByteArray) (r:Bool),m plist=some r→cA Tryz.prog 237 [rS plist] (pB r:PV)
def PX(fu:Nat)(plist:List ByteArray):Nat→Unit→Option (LR Unit Bool):=
 fun i1 _=>gd ((0:Int)≤0∧(0:Int)≤(i1:Int)∧(i1:Int)≤(plist.length:Int))
 (bd (lV fu (List.drop (0:Int).toNat (List.take (i1:Int).toNat plist)) (bB plist i1)) (fun x6=>
 sw (x6)
 (some (.ret false))
 (some (.next ()))))
def PY(fu:Nat)(plist:List ByteArray):Option (Bool⊕Unit):=
 loopN (PX fu plist) (plist.length-0) 0 ()
def kK(fu:Nat)(plist:List ByteArray):Option Bool:=
 so (PY fu plist) (fun _=>
 some true)
theorem l3(fu:Nat):ST (kK fu):=by
 intro plist r H
 have H:=fF H
 refine qI Tryz.func237 (fun C hC=>?_)
 refine qS (qR (q1 aF (qN ?_)))
 iterate 2 refine qS ?_
 refine qR (q1 aF (qN ?_))
 refine kV 0 (bI _) (fun hl2=>?_)
 refine cM (σ:=Unit) (fun i1 _=>⟨[(0,rS plist),(2,pB false),(3,pN i1)],⟨[],[]⟩⟩) (fun _=>⟨[(2,pB false)],⟨[],[]⟩⟩) (gW H) ?_ ?_
 ·rintro i1 ⟨⟩ H
  iterate 2 refine qS ?_
  refine qR ?_
  iterate 2 refine q1 aF ?_
  refine q1 (eR b6 (bI _)) (q1 iQ (qN ?_))
  refine eO H (fun h3 h3l H=>?_) (fun h3 H=>?_)
  ·have h3n:=bF h3
   refine aO.skip (qS (aO.block (qS (c9 H fun z4 H=>(bU H fun x6 z5 H=>(dW (dI [0] aF (dI [3] aF ?_))))))))
   refine dI [10,11] (aV.congrP (aV.sliceR (es:=aX (plist)) (l:=0) (k:=(i1:Int)) rfl rfl rfl rfl rfl (by rw [bI];exact rfl) (by rw [bI];exact z4) b6) (adU _ _ _)) ?_;refine dI [0] aF (dI [3] aF (dI [13,14] (jH h3n b6) (dI [15] (p9 fO) (dI [12,16] (bQ Tryz.func125 (nK fu (List.drop (0:Int).toNat (List.take (i1:Int).toNat plist)) (bB plist i1) _ z5)) (dN ?_)))))
   refine bH H (fun h7 H=>?_) (fun h7 H=>?_)
   ·refine qS (qR (q1 aF (qN (aO.ret ?_))))
    obtain rfl:_=r:=(rK (aZ H):)
    exact bR
   refine aO.skip (qR (q1 aF (q1 (aV.addI rfl rfl rfl rfl (c:=((i1+1:Nat):Int)) (by omega) (by omega)) (q1 aF (qN ?_)))))
   exact j8 h3l ⟨_,(aZ H:),b9⟩
  refine aO.exit ?_;exact lP ⟨_,H,b9⟩
 rintro⟨⟩ H
 refine qS (qR (q1 aF (qN (aO.ret ?_))))
 cases aZ H
 exact bR
def alS(m:ByteArray→Option aA):Prop:= ∀(ps:ByteArray) (r:aA),m ps=some r→cA Tryz.prog 118 [pS ps] ((aA.pv r):PV)
def nL(fu:Nat)(ps:ByteArray):Option aA:=
 some (aA.mk 1 ps [])
theorem kT(fu:Nat):alS (nL fu):=by
 intro ps r H
 have H:=fF H
 refine qI Tryz.func118 (fun C hC=>?_)
 refine qS (qR (q1 (iG hP) (qN (qS (qR (q1 aF (q1 (gD hP CL) (q1 (b3 hH) (qN (aO.ret ?_))))))))))
 cases aZ H
 exact bR (hr:=⟨⟨_,_,_,rfl,rfl,b8,rfl,rfl⟩,trivial⟩)
def alP(m:ByteArray→(List aA)→Option aA):Prop:= ∀(ps:ByteArray) (pargs:List aA) (r:aA),m ps pargs=some r→cA Tryz.prog 85 [pS ps,aW pargs] ((aA.pv r):PV)
def iZ(fu:Nat)(ps:ByteArray)(pargs:List aA):Option aA:=
 gd (([]:List aA).length+(pargs).length≤68719476736)
 (some (aA.mk 2 ps (([])++pargs)))
theorem iM(fu:Nat):alP (iZ fu):=by
 intro ps pargs r H
 have H:=fF H
 refine qI Tryz.func85 (fun C hC=>?_)
 refine qS (qR (q1 (iG hP) (qN (qS (qR (q1 aF (q1 (wA ([]:List aA) dX hP) (q1 aF (c9 H fun z1 H=>(q1 (oE z1 dX al7) (q1 (gD hP CL) (q1 (b3 hH) (qN ?_)))))))))))))
 refine aO.ret ?_
 cases aZ H
 exact bR (hr:=⟨⟨_,_,_,rfl,rfl,b8,rfl,rfl⟩,trivial⟩)
abbrev C2:=aB→Option aA
def RB(m:C2):Prop:= ∀(pa0:aB) (r:aA),m pa0=some r→cA Tryz.prog 246 [(aB.pv pa0)] ((aA.pv r):PV)
def alZ(fu:Nat)(r_sl5Ty:C2)(pa0:aB):Nat→((List aA))→Option (LR ((List aA)) aA):=
 fun i11 v13=>bd (r_sl5Ty (bB pa0.gList i11)) (fun x17=>
 gd ((v13).length+(([x17]:List aA)).length≤68719476736)
 (some (.next (v13++([x17]:List aA)))))
def al0(fu:Nat)(r_sl5Ty:C2)(pa0:aB):Option (aA⊕((List aA))):=
 loopN (alZ fu r_sl5Ty pa0) (pa0.gList.length-1) 1 ([])
def Z7(fu:Nat)(r_sl5Ty:C2)(pa0:aB):Option aA:=
 sw (!decide (pa0.gAtom=s_))
 (gd (0<(pa0.gAtom).size)
 (sw (decide ((((B4 pa0.gAtom 0).toNat:Int):Int)=39))
 (gd ((0:Int)≤1∧(1:Int)≤(pa0.gAtom.size:Int)∧(pa0.gAtom.size:Int)≤(pa0.gAtom.size:Int))
 (bd (nL fu (pa0.gAtom.extract (1:Int).toNat (pa0.gAtom.size:Int).toNat)) (fun x6=>
 some x6)))
 (bd (iZ fu pa0.gAtom ([])) (fun x8=>
 some x8))))
 (sw (decide ((pa0.gList.length:Int)<2))
 (some (aA.mk 0 s_ []))
 (gd (0<(pa0.gList).length)
 (so (al0 fu r_sl5Ty pa0) (fun v13=>
 sw (decide ((bB pa0.gList 0).gAtom=iY))
 (sw (decide ((v13.length:Int)=2))
 (gd (1<(pa0.gList).length)
 (sw (!decide ((bB pa0.gList 1).gAtom=s_))
 (gd ((0:Int)≤1∧(1:Int)≤(v13.length:Int)∧(v13.length:Int)≤(v13.length:Int))
 (some (aA.mk 3 ((bB pa0.gList 1).gAtom) (List.drop (1:Int).toNat (List.take (v13.length:Int).toNat v13)))))
 (sw (decide ((bB pa0.gList 0).gAtom=wQ))
 (some (aA.mk 2 ((bB pa0.gList 0).gAtom) v13))
 (some (aA.mk 2 ((bB pa0.gList 0).gAtom) v13)))))
 (sw (decide ((bB pa0.gList 0).gAtom=wQ))
 (sw (decide ((v13.length:Int)=1))
 (gd (1<(pa0.gList).length)
 (sw (!decide ((bB pa0.gList 1).gAtom=s_))
 (some (aA.mk 4 ((bB pa0.gList 1).gAtom) []))
 (some (aA.mk 2 ((bB pa0.gList 0).gAtom) v13))))
 (some (aA.mk 2 ((bB pa0.gList 0).gAtom) v13)))
 (some (aA.mk 2 ((bB pa0.gList 0).gAtom) v13))))
 (sw (decide ((bB pa0.gList 0).gAtom=wQ))
 (sw (decide ((v13.length:Int)=1))
 (gd (1<(pa0.gList).length)
 (sw (!decide ((bB pa0.gList 1).gAtom=s_))
 (some (aA.mk 4 ((bB pa0.gList 1).gAtom) []))
 (some (aA.mk 2 ((bB pa0.gList 0).gAtom) v13))))
 (some (aA.mk 2 ((bB pa0.gList 0).gAtom) v13)))
 (some (aA.mk 2 ((bB pa0.gList 0).gAtom) v13)))))))
theorem ag2(fu:Nat)(r_sl5Ty:C2)(h_sl5Ty:RB r_sl5Ty):RB (Z7 fu r_sl5Ty):=by
 intro pa0 r H
 have H:=fF H
 refine qI Tryz.func246 (fun C hC=>?_)
 refine qS (qR (q1 (kQ ([pS pa0.gAtom,bJ pa0.gList])) (q1 (iG hP) (qN ?_))))
 iterate 2 refine qS ?_
 refine qR (q1 (bC fR) (q1 (bL fO) (q1 SP (qN ?_))))
 refine bH H (fun h1 H=>?_) (fun h1 H=>?_)
 ·refine qS (qS (qR (q1 (bC fR) (q1 (bL fO) (c9 H fun z2 H=>(q1 (aV.indexS (k:=0) rfl rfl rfl rfl z2 Tryz.underlying9) (q1 eP (qN ?_))))))))
  refine bH H (fun h3 H=>?_) (fun h3 H=>?_)
  ·refine qS (qR (q1 (bC fR) (q1 (bL fO) (c9 H fun z4 H=>(q1 (aV.sliceS (l:=1) (k:=(pa0.gAtom.size:Int)) rfl rfl rfl rfl rfl z4 Tryz.underlying9) (bU H fun x6 z5 H=>(q1 (bQ Tryz.func118 (kT fu (pa0.gAtom.extract (1:Int).toNat (pa0.gAtom.size:Int).toNat) _ z5)) (q1 (b3 hH) (qN (aO.ret ?_))))))))))
   cases aZ H
   exact bR (hr:=⟨⟨_,_,_,rfl,rfl,b8,rfl,rfl⟩,trivial⟩)
  refine aO.skip (qS (qR (q1 (bC fR) (q1 (bL fO) (bU H fun x8 z7 H=>(q1 (bQ Tryz.func85 (iM fu pa0.gAtom ([]) _ z7)) (q1 (b3 hH) (qN (aO.ret ?_)))))))))
  cases aZ H
  exact bR (hr:=⟨⟨_,_,_,rfl,rfl,b8,rfl,rfl⟩,trivial⟩)
 refine aO.skip ?_
 iterate 2 refine qS ?_
 refine qR (q1 (bC bN) (q1 (bL c6) (q1 (eR bO (aB.trs_len _)) (q1 iQ (qN ?_)))))
 refine bH H (fun h9 H=>?_) (fun h9 H=>?_)
 ·have h9n:pa0.gList.length<2:=by have:=of_decide_eq_true h9;omega
  refine qS (qR (q1 (gD hP CL) (q1 (b3 hH) (qN (aO.ret ?_)))))
  cases aZ H
  exact bR (hr:=⟨⟨_,_,_,rfl,rfl,b8,rfl,rfl⟩,trivial⟩)
 refine aO.skip (qS (qR (q1 (bC bN) (q1 (bL c6) (c9 H fun z10 H=>(q1 (jH z10 bO) (q1 (rC fR) (q1 (p9 fO) (q1 aF (qN (qS (qR (q1 (wA ([]:List aA) dX hP) ?_)))))))))))))
 refine q1 aF (qN ?_)
 iterate 2 refine qS ?_
 refine qR (q1 aF (qN ?_))
 refine kV 21 (aB.trs_len _) (fun hl14=>?_)
 refine cM (σ:=(List aA)) (fun i11 v13=>⟨[(1,.ptr 0 0),(2,.ptr 1 0),(3,pS ((bB pa0.gList 0).gAtom)),(4,WA v13 0),(5,pN i11)],⟨[some ⟨237,[pS pa0.gAtom,bJ pa0.gList]⟩,some ⟨35,[pI 0,pS s_,.nil]⟩],[⟨35,3,aA.trs (v13),false⟩]⟩⟩) (fun v13=>⟨[(1,.ptr 0 0),(2,.ptr 1 0),(3,pS ((bB pa0.gList 0).gAtom)),(4,WA v13 0)],⟨[some ⟨237,[pS pa0.gAtom,bJ pa0.gList]⟩,some ⟨35,[pI 0,pS s_,.nil]⟩],[⟨35,3,aA.trs (v13),false⟩]⟩⟩) (gW H) ?_ ?_
 ·rintro i11 v13 H
  iterate 2 refine qS ?_
  refine qR (q1 aF (q1 (bC bN) (q1 (bL c6) (q1 (eR bO (aB.trs_len _)) (q1 iQ (qN ?_))))))
  refine eO H (fun h15 h15l H=>?_) (fun h15 H=>?_)
  ·have h15n:=bF h15
   refine aO.skip (qS (aO.block (qR (q1 aF (q1 (bC bN) (q1 (bL c6) (q1 aF (q1 (jH h15n bO) (q1 (lB (aB.cs (bB pa0.gList i11)) bY) (bU H fun x17 z16 H=>(q1 (bQ Tryz.func246 (h_sl5Ty (bB pa0.gList i11) _ z16)) (q1 (iW ([x17]:List aA) dX hP) (c9 H fun z18 H=>?_)))))))))))))
   refine q1 (oE z18 dX al7) (q1 aF (qN (qR (q1 aF (q1 (aV.addI rfl rfl rfl rfl (c:=((i11+1:Nat):Int)) (by omega) (by omega)) (q1 aF (qN ?_)))))))
   exact j8 h15l ⟨_,(aZ H:),b9⟩
  refine aO.exit ?_;exact lP ⟨_,H,b9⟩
 rintro v13 H
 refine qS (aO.block (qS (qR (q1 aF (q1 JL (q1 aF ?_))))))
 refine eK 50 H (fun g19 H=>?_) fun g19 H=>?_
 ·refine qg g19 aF (qg g19 (eR dX (aA.trs_len _)) (qg g19 eP (q1 (b0 g19) (q1 aF ?_))))
  refine eK 55 H (fun g20 H=>?_) fun g20 H=>?_
  ·refine qg g20 (bC bN) (qg g20 (bL c6) (c9 H fun z21 H=>(qg g20 (jH z21 bO) (qg g20 (rC fR) (qg g20 (p9 fO) (qg g20 SP (q1 (b0 g20) (q1 aF (qN ?_)))))))))
   refine bH H (fun h22 H=>?_) (fun h22 H=>?_)
   ·refine qS (c9 H fun z23 H=>(dW (dI [1] (bC bN) (dD [63] (bL c6) (dI [64] (jH z21 bO) (dI [65] (rC fR) (dI [66] (p9 fO) (dI [4] aF ?_))))))))
    refine dI [68] (aV.congrP (aV.sliceR (es:=aA.trs (v13)) (l:=1) (k:=(v13.length:Int)) rfl rfl rfl rfl rfl (by rw [aA.trs_len];exact rfl) (by rw [aA.trs_len];exact z23) dX) (aA.trs_part _ _ _)) ?_;refine dI [67,69] (gD hP CL) (m4 [2,70] (b3 hH) (dN (aO.ret ?_)))
    cases aZ H
    exact bR (hr:=⟨⟨_,_,_,rfl,rfl,b8,rfl,rfl⟩,trivial⟩)
   refine qS (qR (q1 aF (q1 JL (q1 aF ?_))))
   refine eK 74 H (fun g24 H=>?_) fun g24 H=>?_
   ·refine qg g24 aF (qg g24 (eR dX (aA.trs_len _)) (qg g24 eP (q1 (b0 g24) (q1 aF ?_))))
    iterate 6 refine qk (dne (b:=1) g20 (by decide)) ?_
    refine q1 (cC (dne (b:=1) g20 (by decide))) (q1 aF (qN (kP rfl (aO.skip (qS (qR ?_))))))
    iterate 2 refine q1 aF ?_
    refine q1 (gD hP CL) (q1 (b3 hH) (qN (aO.ret ?_)))
    cases aZ H
    exact bR (hr:=⟨⟨_,_,_,rfl,rfl,b8,rfl,rfl⟩,trivial⟩)
   iterate 3 refine qk g24 ?_
   refine q1 (cC g24) (q1 aF ?_)
   iterate 6 refine qk rfl ?_
   refine q1 (cC rfl) (q1 aF (qN (kP rfl (aO.skip (qS (qR ?_))))))
   iterate 2 refine q1 aF ?_
   refine q1 (gD hP CL) (q1 (b3 hH) (qN (aO.ret ?_)))
   cases aZ H
   exact bR (hr:=⟨⟨_,_,_,rfl,rfl,b8,rfl,rfl⟩,trivial⟩)
  iterate 6 refine qk g20 ?_
  refine q1 (cC g20) (q1 aF (qN (kP rfl (qS (qR (q1 aF (q1 JL (q1 aF ?_))))))))
  refine eK 74 H (fun g25 H=>?_) fun g25 H=>?_
  ·refine qg g25 aF (qg g25 (eR dX (aA.trs_len _)) (qg g25 eP (q1 (b0 g25) (q1 aF ?_))))
   refine eK 79 H (fun g26 H=>?_) fun g26 H=>?_
   ·refine qg g26 (bC bN) (qg g26 (bL c6) (c9 H fun z27 H=>(qg g26 (jH z27 bO) (qg g26 (rC fR) (qg g26 (p9 fO) (qg g26 SP (q1 (b0 g26) (q1 aF (qN ?_)))))))))
    refine bH H (fun h28 H=>?_) (fun h28 H=>?_)
    ·refine qS (qR (q1 (bC bN) (q1 (bL c6) (q1 (jH z27 bO) (q1 (rC fR) (q1 (p9 fO) (q1 (gD hP CL) (q1 (b3 hH) (qN (aO.ret ?_))))))))))
     cases aZ H
     exact bR (hr:=⟨⟨_,_,_,rfl,rfl,b8,rfl,rfl⟩,trivial⟩)
    refine aO.skip (qS (qR ?_))
    iterate 2 refine q1 aF ?_
    refine q1 (gD hP CL) (q1 (b3 hH) (qN (aO.ret ?_)))
    cases aZ H
    exact bR (hr:=⟨⟨_,_,_,rfl,rfl,b8,rfl,rfl⟩,trivial⟩)
   iterate 6 refine qk g26 ?_
   refine q1 (cC g26) (q1 aF (qN (kP rfl (aO.skip (qS (qR ?_))))))
   iterate 2 refine q1 aF ?_
   refine q1 (gD hP CL) (q1 (b3 hH) (qN (aO.ret ?_)))
   cases aZ H
   exact bR (hr:=⟨⟨_,_,_,rfl,rfl,b8,rfl,rfl⟩,trivial⟩)
  iterate 3 refine qk g25 ?_
  refine q1 (cC g25) (q1 aF ?_)
  iterate 6 refine qk rfl ?_
  refine q1 (cC rfl) (q1 aF (qN (kP rfl (aO.skip (qS (qR ?_))))))
  iterate 2 refine q1 aF ?_
  refine q1 (gD hP CL) (q1 (b3 hH) (qN (aO.ret ?_)))
  cases aZ H
  exact bR (hr:=⟨⟨_,_,_,rfl,rfl,b8,rfl,rfl⟩,trivial⟩)
 iterate 3 refine qk g19 ?_
 refine q1 (cC g19) (q1 aF ?_)
 iterate 6 refine qk rfl ?_
 refine q1 (cC rfl) (q1 aF (qN (kP rfl (qS (qR (q1 aF (q1 JL (q1 aF ?_))))))))
 refine eK 74 H (fun g29 H=>?_) fun g29 H=>?_
 ·refine qg g29 aF (qg g29 (eR dX (aA.trs_len _)) (qg g29 eP (q1 (b0 g29) (q1 aF ?_))))
  refine eK 79 H (fun g30 H=>?_) fun g30 H=>?_
  ·refine qg g30 (bC bN) (qg g30 (bL c6) (c9 H fun z31 H=>(qg g30 (jH z31 bO) (qg g30 (rC fR) (qg g30 (p9 fO) (qg g30 SP (q1 (b0 g30) (q1 aF (qN ?_)))))))))
   refine bH H (fun h32 H=>?_) (fun h32 H=>?_)
   ·refine qS (qR (q1 (bC bN) (q1 (bL c6) (q1 (jH z31 bO) (q1 (rC fR) (q1 (p9 fO) (q1 (gD hP CL) (q1 (b3 hH) (qN (aO.ret ?_))))))))))
    cases aZ H
    exact bR (hr:=⟨⟨_,_,_,rfl,rfl,b8,rfl,rfl⟩,trivial⟩)
   refine aO.skip (qS (qR ?_))
   iterate 2 refine q1 aF ?_
   refine q1 (gD hP CL) (q1 (b3 hH) (qN (aO.ret ?_)))
   cases aZ H
   exact bR (hr:=⟨⟨_,_,_,rfl,rfl,b8,rfl,rfl⟩,trivial⟩)
  iterate 6 refine qk g30 ?_
  refine q1 (cC g30) (q1 aF (qN (kP rfl (aO.skip (qS (qR ?_))))))
  iterate 2 refine q1 aF ?_
  refine q1 (gD hP CL) (q1 (b3 hH) (qN (aO.ret ?_)))
  cases aZ H
  exact bR (hr:=⟨⟨_,_,_,rfl,rfl,b8,rfl,rfl⟩,trivial⟩)
 iterate 3 refine qk g29 ?_
 refine q1 (cC g29) (q1 aF ?_)
 iterate 6 refine qk rfl ?_
 refine q1 (cC rfl) (q1 aF (qN (kP rfl (aO.skip (qS (qR ?_))))))
 iterate 2 refine q1 aF ?_
 refine q1 (gD hP CL) (q1 (b3 hH) (qN (aO.ret ?_)))
 cases aZ H
 exact bR (hr:=⟨⟨_,_,_,rfl,rfl,b8,rfl,rfl⟩,trivial⟩)
def mH:Nat→aB→Option aA
 |0,_=>none
 |fu+1,pa0=>Z7 fu (mH fu) pa0
theorem akA(fu:Nat):RB (mH fu):=by
 induction fu with
 |zero=>exact(fun pa0 r H=>by simp only [mH] at H;cases H)
 |succ fu ih=>exact(fun pa0 r H=>by simp only [mH] at H;exact ag2 fu (mH fu) ih pa0 r H)
theorem vP(fu:Nat):RB (mH fu):=(akA fu)
abbrev xE:=aA→Option aB
def Q9(m:xE):Prop:= ∀(pa0:aA) (r:aB),m pa0=some r→cA Tryz.prog 269 [(aA.pv pa0)] ((aB.pv r):PV)
def alT(fu:Nat)(r_sl5Sx:xE)(pa0:aA):Option (aB⊕Unit):=
 sw (decide (pa0.gKind=1))
 (gd ((akF).size+(pa0.gName).size≤1099511627776)
 (bd (cI fu (akF++pa0.gName)) (fun x4=>
 some (.inl x4))))
 (sw (decide (pa0.gKind=4))
 (bd (cI fu wQ) (fun x7=>
 bd (cI fu pa0.gName) (fun x9=>
 bd (l5 fu ([x7,x9]:List aB)) (fun x11=>
 some (.inl x11)))))
 (sw (decide (pa0.gKind=2))
 (sw (decide ((pa0.gArgs.length:Int)=0))
 (bd (cI fu pa0.gName) (fun x15=>
 some (.inl x15)))
 (some (.inr ())))
 (some (.inr ()))))
def alU(fu:Nat)(r_sl5Sx:xE)(pa0:aA):Option (aB⊕((List aB))):=
 sw (decide (pa0.gKind=3))
 (bd (cI fu iY) (fun x20=>
 gd (([]:List aB).length+(([x20]:List aB)).length≤68719476736)
 (some (.inr (([])++([x20]:List aB))))))
 (some (.inr ([])))
def alV(fu:Nat)(r_sl5Sx:xE)(pa0:aA)(v17:List aB)(x23:aB):Nat→((List aB))→Option (LR ((List aB)) aB):=
 fun i25 v27=>bd (r_sl5Sx (bB pa0.gArgs i25)) (fun x31=>
 gd ((v27).length+(([x31]:List aB)).length≤68719476736)
 (some (.next (v27++([x31]:List aB)))))
def alW(fu:Nat)(r_sl5Sx:xE)(pa0:aA)(v17:List aB)(x23:aB):Option (aB⊕((List aB))):=
 loopN (alV fu r_sl5Sx pa0 v17 x23) (pa0.gArgs.length-0) 0 (v17++([x23]:List aB))
def Z6(fu:Nat)(r_sl5Sx:xE)(pa0:aA):Option aB:=
 so (alT fu r_sl5Sx pa0) (fun _=>
 so (alU fu r_sl5Sx pa0) (fun v17=>
 bd (cI fu pa0.gName) (fun x23=>
 gd ((v17).length+(([x23]:List aB)).length≤68719476736)
 (so (alW fu r_sl5Sx pa0 v17 x23) (fun v27=>
 some (aB.mk s_ v27))))))
theorem ag1(fu:Nat)(r_sl5Sx:xE)(h_sl5Sx:Q9 r_sl5Sx):Q9 (Z6 fu r_sl5Sx):=by
 intro pa0 r H
 have H:=fF H
 refine qI Tryz.func269 (fun C hC=>?_)
 refine qS (qR (q1 (kQ (c5 pa0)) (q1 (iG cF) (qN (qS ?_)))))
 refine qF (σ:=Unit) (fun _=>⟨[(1,.ptr 0 0),(2,.ptr 1 0)],⟨[some ⟨35,c5 pa0⟩,some ⟨237,[pS s_,.nil]⟩],[]⟩⟩) (gW H) (fun H=>?_) ?_
 ·refine aO.block (qS (qR (q1 (bC lR) (q1 (bL kZ) (q1 eP (q1 aF (qN ?_)))))))
  refine bH H (fun h1 H=>?_) (fun h1 H=>?_)
  ·refine qS (qR (q1 (bC kE) (q1 (bL fO) (c9 H fun z2 H=>(q1 (aV.addS rfl rfl rfl rfl (Nat.le_trans z2 (by decide))) (bU H fun x4 z3 H=>(q1 (bQ Tryz.func266 (cB fu (akF++pa0.gName) _ z3)) (q1 (b3 eQ) (qN (aO.ret ?_))))))))))
   obtain rfl:_=r:=(F3 (aZ H):)
   exact bR (hr:=⟨⟨_,_,_,rfl,rfl,bY,rfl,rfl⟩,trivial⟩)
  refine qS (qR (q1 (bC lR) (q1 (bL kZ) (q1 eP (q1 aF (qN ?_))))))
  refine bH H (fun h5 H=>?_) (fun h5 H=>?_)
  ·refine qS (bU H fun x7 z6 H=>(bU H fun x9 z8 H=>(bU H fun x11 z10 H=>(dW (dI [] (bQ Tryz.func266 (cB fu wQ _ z6)) (dI [1] (bC kE) (dD [18] (bL fO) (dI [19] (bQ Tryz.func266 (cB fu pa0.gName _ z8)) (dI [17,20] (iW ([x7,x9]:List aB) bO cF) (dI [21] (bQ Tryz.func265 (CZ (mV fu) ([x7,x9]:List aB) _ z10)) (m4 [2,22] (b3 eQ) (dN (aO.ret ?_)))))))))))))
   obtain rfl:_=r:=(F3 (aZ H):)
   exact bR (hr:=⟨⟨_,_,_,rfl,rfl,bY,rfl,rfl⟩,trivial⟩)
  refine qS (qR (q1 (bC lR) (q1 (bL kZ) (q1 eP (q1 aF ?_)))))
  refine eK 27 H (fun g12 H=>?_) fun g12 H=>?_
  ·refine qg g12 (bC gC) (qg g12 (bL mQ) (qg g12 (eR dX (aA.trs_len _)) (qg g12 eP (q1 (b0 g12) (q1 aF (qN ?_))))))
   refine bH H (fun h13 H=>?_) (fun h13 H=>?_)
   ·refine qS (qR (q1 (bC kE) (q1 (bL fO) (bU H fun x15 z14 H=>(q1 (bQ Tryz.func266 (cB fu pa0.gName _ z14)) (q1 (b3 eQ) (qN (aO.ret ?_))))))))
    obtain rfl:_=r:=(F3 (aZ H):)
    exact bR (hr:=⟨⟨_,_,_,rfl,rfl,bY,rfl,rfl⟩,trivial⟩)
   refine aO.skip ?_;exact eC ⟨_,(aZ H:),b9⟩
  iterate 4 refine qk g12 ?_
  refine q1 (cC g12) (q1 aF (qN (kP rfl (aO.skip ?_))))
  exact eC ⟨_,(aZ H:),b9⟩
 rintro⟨⟩ H
 refine qS (qR (q1 (gD cF nF) (q1 (iG cF) (q1 (b3 eQ) (qN (qS (aO.wk (Wk.regBox (k:=2) (j:=1) 237 2 (by decide) rfl rfl) ?_)))))))
 refine qF (σ:=(List aB)) (fun v17=>⟨[(1,.ptr 0 0),(2,.ptr 1 0),(3,.ptr 2 0)],⟨[some ⟨35,c5 pa0⟩,some ⟨237,[pS s_,.nil]⟩,some ⟨237,[pS s_,eL v17 0]⟩],[⟨237,2,aB.trs (v17),false⟩]⟩⟩) (gW H) (fun H=>?_) ?_
 ·refine qS (qR (q1 (bC lR) (q1 (bL kZ) (q1 eP (qN ?_)))))
  refine bH H (fun h18 H=>?_) (fun h18 H=>?_)
  ·refine bU H fun x20 z19 H=>(c9 H fun z21 H=>(dW (dI [3] (bC bN) (dD [40] (bL c6) (dI [] (bQ Tryz.func266 (cB fu iY _ z19)) (dI [42] (iW ([x20]:List aB) bO cF) (dE [41,43] (oE z21 bO q8) (dI [3] (bC bN) (m4 [45,44] (b3 zS) (dN ?_))))))))))
   exact eC ⟨_,(aZ H:),b9⟩
  refine aO.skip ?_;exact eC ⟨_,(aZ H:),b9⟩
 rintro v17 H
 refine qS (bU H fun x23 z22 H=>(c9 H fun z24 H=>(dW (dI [3] (bC bN) (dD [46] (bL c6) (dI [1] (bC kE) (dD [48] (bL fO) (dI [49] (bQ Tryz.func266 (cB fu pa0.gName _ z22)) (dI [50] (iW ([x23]:List aB) bO cF) (dE [47,51] (oE z24 bO q8) (dI [3] (bC bN) (m4 [53,52] (b3 zS) (dN ?_)))))))))))))
 iterate 2 refine qS ?_
 refine qR (q1 aF (qN ?_))
 refine aO.fact (c3 0 2 rfl rfl rfl (aA.trs_len _)) (fun hl28=>?_)
 refine cM (σ:=(List aB)) (fun i25 v27=>⟨[(1,.ptr 0 0),(2,.ptr 1 0),(3,.ptr 2 0),(4,pN i25)],⟨[some ⟨35,c5 pa0⟩,some ⟨237,[pS s_,.nil]⟩,some ⟨237,[pS s_,eL v27 0]⟩],[⟨237,2,aB.trs (v27),false⟩]⟩⟩) (fun v27=>⟨[(2,.ptr 1 0),(3,.ptr 2 0)],⟨[some ⟨35,c5 pa0⟩,some ⟨237,[pS s_,.nil]⟩,some ⟨237,[pS s_,eL v27 0]⟩],[⟨237,2,aB.trs (v27),false⟩]⟩⟩) (gW H) ?_ ?_
 ·rintro i25 v27 H
  iterate 2 refine qS ?_
  refine qR (q1 aF (q1 (bC gC) (q1 (bL mQ) (q1 (eR dX (aA.trs_len _)) (q1 iQ (qN ?_))))))
  refine eO H (fun h29 h29l H=>?_) (fun h29 H=>?_)
  ·have h29n:=bF h29
   refine aO.skip (qS (aO.block (bU H fun x31 z30 H=>(c9 H fun z32 H=>(dW (dI [3] (bC bN) (dD [61] (bL c6) (dI [1] (bC gC) (dD [63] (bL mQ) (dI [4] aF (dI [64,65] (jH h29n dX) (dI [66] (lB (aA.cs (bB pa0.gArgs i25)) b8) (dI [67] (bQ Tryz.func269 (h_sl5Sx (bB pa0.gArgs i25) _ z30)) ?_)))))))))))))
   refine dI [68] (iW ([x31]:List aB) bO cF) (dE [62,69] (oE z32 bO q8) (dI [3] (bC bN) (m4 [71,70] (b3 zS) (dN (qR (q1 aF (q1 (aV.addI rfl rfl rfl rfl (c:=((i25+1:Nat):Int)) (by omega) (by omega)) (q1 aF (qN ?_)))))))))
   exact j8 h29l ⟨_,(aZ H:),b9⟩
  refine aO.exit ?_;exact lP ⟨_,H,b9⟩
 rintro v27 H
 refine qS (qR (q1 (cY [pS s_,eL v27 0] bY) (q1 (b3 eQ) (qN (aO.ret ?_)))))
 cases aZ H
 exact bR (hr:=⟨⟨_,_,_,rfl,rfl,bY,rfl,rfl⟩,trivial⟩)
def mG:Nat→aA→Option aB
 |0,_=>none
 |fu+1,pa0=>Z6 fu (mG fu) pa0
theorem aj9(fu:Nat):Q9 (mG fu):=by
 induction fu with
 |zero=>exact(fun pa0 r H=>by simp only [mG] at H;cases H)
 |succ fu ih=>exact(fun pa0 r H=>by simp only [mG] at H;exact ag1 fu (mG fu) ih pa0 r H)
theorem vO(fu:Nat):Q9 (mG fu):=(aj9 fu)
abbrev uV:=aA→Int→Option Int
def GF(m:uV):Prop:= ∀(pt:aA) (pleft:Int) (r:Int),m pt pleft=some r→cA Tryz.prog 289 [(aA.pv pt),pI pleft] (pI r:PV)
def agR(fu:Nat)(r_sl4Left:uV)(pt:aA)(pleft:Int):Nat→Int→Option (LR Int Int):=
 fun i1 v2=>sw (decide (v2≥0))
 (bd (r_sl4Left (bB pt.gArgs i1) v2) (fun x7=>
 some (.next x7)))
 (some (.brk v2))
def agS(fu:Nat)(r_sl4Left:uV)(pt:aA)(pleft:Int):Option (Int⊕Int):=
 loopN (agR fu r_sl4Left pt pleft) (pt.gArgs.length-0) 0 (aQ (pleft-1))
def OL(fu:Nat)(r_sl4Left:uV)(pt:aA)(pleft:Int):Option Int:=
 so (agS fu r_sl4Left pt pleft) (fun v2=>
 some v2)
theorem Z2(fu:Nat)(r_sl4Left:uV)(h_sl4Left:GF r_sl4Left):GF (OL fu r_sl4Left):=by
 intro pt pleft r H
 have H:=fF H
 refine qI Tryz.func289 (fun C hC=>?_)
 refine qS (qR (q1 (kQ (c5 pt)) (q1 aF (qN (qS (qR (q1 aF (q1 GQ (q1 aF (qN ?_))))))))))
 iterate 2 refine qS ?_
 refine qR (q1 aF (qN ?_))
 refine aO.fact (c3 0 2 rfl rfl rfl (aA.trs_len _)) (fun hl3=>?_)
 refine cM (σ:=Int) (fun i1 v2=>⟨[(1,pI v2),(2,.ptr 0 0),(4,pI 0),(5,pN i1)],⟨[some ⟨35,c5 pt⟩],[]⟩⟩) (fun v2=>⟨[(1,pI v2),(4,pI 0)],⟨[some ⟨35,c5 pt⟩],[]⟩⟩) (gW H) ?_ ?_
 ·rintro i1 v2 H
  iterate 2 refine qS ?_
  refine qR (q1 aF (q1 (bC gC) (q1 (bL mQ) (q1 (eR dX (aA.trs_len _)) (q1 iQ (q1 aF ?_))))))
  refine AL.splitB 13 rfl (fun g4=>?_) (fun g4=>?_)
  ·have g4l:=yF g4
   have H:=lnT g4l H
   have g4n:=bF g4
   refine qg g4 aF (qg g4 UH (q1 (b0 g4) (qN ?_)))
   refine bH H (fun h5 H=>?_) (fun h5 H=>?_)
   ·refine aO.skip (qS (aO.block (qR (q1 (bC gC) (q1 (bL mQ) (q1 aF (q1 (jH g4n dX) (q1 (lB (aA.cs (bB pt.gArgs i1)) b8) (q1 aF (bU H fun x7 z6 H=>(q1 (bQ Tryz.func289 (h_sl4Left (bB pt.gArgs i1) v2 _ z6)) (q1 aF (qN ?_)))))))))))))
    refine qR (q1 aF (q1 (aV.addI rfl rfl rfl rfl (c:=((i1+1:Nat):Int)) (by omega) (by omega)) (q1 aF (qN ?_))))
    exact j8 g4l ⟨_,(aZ H:),b9⟩
   refine aO.exit ?_;exact lpB ⟨_,(aZ H:),b9⟩
  have H:=lnE (yE g4) H
  iterate 2 refine qk g4 ?_
  refine q1 (cC g4) (qN (kP rfl (aO.exit ?_)))
  exact lP ⟨_,H,b9⟩
 rintro v2 H
 refine qS (qR ?_)
 iterate 2 refine q1 aF ?_
 refine qN (aO.ret ?_)
 cases aZ H
 exact bR
def o7:Nat→aA→Int→Option Int
 |0,_,_=>none
 |fu+1,pt,pleft=>OL fu (o7 fu) pt pleft
theorem adO(fu:Nat):GF (o7 fu):=by
 induction fu with
 |zero=>exact(fun pt pleft r H=>by simp only [o7] at H;cases H)
 |succ fu ih=>exact(fun pt pleft r H=>by simp only [o7] at H;exact Z2 fu (o7 fu) ih pt pleft r H)
theorem agU(fu:Nat):GF (o7 fu):=(adO fu)
abbrev n6:=aA→Option Int
def xB(m:n6):Prop:= ∀(pt:aA) (r:Int),m pt=some r→cA Tryz.prog 290 [(aA.pv pt)] (pI r:PV)
def VQ(fu:Nat)(r_sTypeDepth:n6)(pt:aA):Nat→Int→Option (LR Int Int):=
 fun i1 v2=>bd (r_sTypeDepth (bB pt.gArgs i1)) (fun x6=>
 bd (MA fu v2 (aQ (1+x6))) (fun x8=>
 some (.next x8)))
def VR(fu:Nat)(r_sTypeDepth:n6)(pt:aA):Option (Int⊕Int):=
 loopN (VQ fu r_sTypeDepth pt) (pt.gArgs.length-0) 0 0
def CR(fu:Nat)(r_sTypeDepth:n6)(pt:aA):Option Int:=
 so (VR fu r_sTypeDepth pt) (fun v2=>
 some v2)
theorem QL(fu:Nat)(r_sTypeDepth:n6)(h_sTypeDepth:xB r_sTypeDepth):xB (CR fu r_sTypeDepth):=by
 intro pt r H
 have H:=fF H
 refine qI Tryz.func290 (fun C hC=>?_)
 refine qS (qR (q1 (kQ (c5 pt)) (q1 aF (qN (qS (qR (q1 aF (qN ?_))))))))
 iterate 2 refine qS ?_
 refine qR (q1 aF (qN ?_))
 refine aO.fact (c3 0 2 rfl rfl rfl (aA.trs_len _)) (fun hl3=>?_)
 refine cM (σ:=Int) (fun i1 v2=>⟨[(1,.ptr 0 0),(2,pI 0),(3,pI v2),(4,pN i1)],⟨[some ⟨35,c5 pt⟩],[]⟩⟩) (fun v2=>⟨[(2,pI 0),(3,pI v2)],⟨[some ⟨35,c5 pt⟩],[]⟩⟩) (gW H) ?_ ?_
 ·rintro i1 v2 H
  iterate 2 refine qS ?_
  refine qR (q1 aF (q1 (bC gC) (q1 (bL mQ) (q1 (eR dX (aA.trs_len _)) (q1 iQ (qN ?_))))))
  refine eO H (fun h4 h4l H=>?_) (fun h4 H=>?_)
  ·have h4n:=bF h4
   refine aO.skip (qS (aO.block (qR (q1 aF (q1 (bC gC) (q1 (bL mQ) (q1 aF (q1 (jH h4n dX) (q1 (lB (aA.cs (bB pt.gArgs i1)) b8) (bU H fun x6 z5 H=>(q1 (bQ Tryz.func290 (h_sTypeDepth (bB pt.gArgs i1) _ z5)) (q1 Q6 (bU H fun x8 z7 H=>?_)))))))))))))
   refine q1 (bQ Tryz.func242 (WT fu v2 (aQ (1+x6)) _ z7)) (q1 aF (qN (qR (q1 aF (q1 (aV.addI rfl rfl rfl rfl (c:=((i1+1:Nat):Int)) (by omega) (by omega)) (q1 aF (qN ?_)))))))
   exact j8 h4l ⟨_,(aZ H:),b9⟩
  refine aO.exit ?_;exact lP ⟨_,H,b9⟩
 rintro v2 H
 refine qS (qR ?_)
 iterate 2 refine q1 aF ?_
 refine qN (aO.ret ?_)
 cases aZ H
 exact bR
def kB:Nat→aA→Option Int
 |0,_=>none
 |fu+1,pt=>CR fu (kB fu) pt
theorem TE(fu:Nat):xB (kB fu):=by
 induction fu with
 |zero=>exact(fun pt r H=>by simp only [kB] at H;cases H)
 |succ fu ih=>exact(fun pt r H=>by simp only [kB] at H;exact QL fu (kB fu) ih pt r H)
theorem VT(fu:Nat):xB (kB fu):=(TE fu)
def aj1(m:ByteArray→Option Bool):Prop:= ∀(ps:ByteArray) (r:Bool),m ps=some r→cA Tryz.prog 153 [pS ps] (pB r:PV)
def GC(fu:Nat)(ps:ByteArray):Option Bool:=
 sw (decide (ps=fK))
 (some true)
 (some (decide (ps=fE)))
theorem T3(fu:Nat):aj1 (GC fu):=by
 intro ps r H
 have H:=fF H
 refine qI Tryz.func153 (fun C hC=>?_)
 refine qS (qR (q1 aF (qN (qS (qR (q1 aF (q1 JL (q1 aF ?_))))))))
 refine eK 5 H (fun g1 H=>?_) fun g1 H=>?_
 ·refine qk g1 (qk g1 (q1 (b0 g1) (q1 aF (qN (aO.ret ?_)))))
  cases aZ H
  exact bR
 refine qg g1 aF (qg g1 JL (q1 (cC g1) (q1 aF (qN (aO.ret ?_)))))
 cases aZ H
 exact bR
abbrev qW:=aA→Option Bool
def GE(m:qW):Prop:= ∀(pa0:aA) (r:Bool),m pa0=some r→cA Tryz.prog 291 [(aA.pv pa0)] (pB r:PV)
def agM(fu:Nat)(r_sl4Form:qW)(pa0:aA)(x2:Bool):Option ((Bool⊕Bool)⊕Bool):=
 sw (decide (pa0.gKind=1))
 (some (.inr (decide (pa0.gKind=1))))
 (some (.inr (decide (pa0.gKind=4))))
def agL(fu:Nat)(r_sl4Form:qW)(pa0:aA)(x2:Bool):Option (Bool⊕Bool):=
 so (agM fu r_sl4Form pa0 x2) (fun v4=>
 sw (v4)
 (sw (x2)
 (some (.inr (decide ((pa0.gArgs.length:Int)=0))))
 (some (.inr false)))
 (sw (decide (pa0.gKind=3))
 (sw (x2)
 (some (.inr (decide ((pa0.gArgs.length:Int)=1))))
 (some (.inr false)))
 (sw (decide (pa0.gKind=2))
 (sw (x2)
 (sw (decide ((pa0.gArgs.length:Int)≤3))
 (some (.inr true))
 (bd (GC fu pa0.gName) (fun x14=>
 sw (x14)
 (some (.inr (decide ((pa0.gArgs.length:Int)=0))))
 (some (.inr false)))))
 (bd (GC fu pa0.gName) (fun x17=>
 sw (x17)
 (some (.inr (decide ((pa0.gArgs.length:Int)=0))))
 (some (.inr false)))))
 (some (.inl false)))))
def agN(fu:Nat)(r_sl4Form:qW)(pa0:aA)(x2 v3:Bool):Nat→Bool→Option (LR Bool Bool):=
 fun i19 v20=>sw (v20)
 (bd (r_sl4Form (bB pa0.gArgs i19)) (fun x25=>
 some (.next x25)))
 (some (.next false))
def agO(fu:Nat)(r_sl4Form:qW)(pa0:aA)(x2 v3:Bool):Option (Bool⊕Bool):=
 loopN (agN fu r_sl4Form pa0 x2 v3) (pa0.gArgs.length-0) 0 v3
def OK(fu:Nat)(r_sl4Form:qW)(pa0:aA):Option Bool:=
 bd (eB fu pa0.gName) (fun x2=>
 so (agL fu r_sl4Form pa0 x2) (fun v3=>
 so (agO fu r_sl4Form pa0 x2 v3) (fun v20=>
 some v20)))
theorem Z1(fu:Nat)(r_sl4Form:qW)(h_sl4Form:GE r_sl4Form):GE (OK fu r_sl4Form):=by
 intro pa0 r H
 have H:=fF H
 refine qI Tryz.func291 (fun C hC=>?_)
 refine qS (qR (q1 (kQ (c5 pa0)) (q1 aF (qN (qS (qR (q1 (bC kE) (q1 (bL fO) (bU H fun x2 z1 H=>(q1 (bQ Tryz.func235 (eJ fu pa0.gName _ z1)) (q1 aF (qN (qS ?_)))))))))))))
 refine qF (σ:=Bool) (fun v3=>⟨[(1,.ptr 0 0),(2,pB false),(3,pB v3)],⟨[some ⟨35,c5 pa0⟩],[]⟩⟩) (gW H) (fun H=>?_) ?_
 ·refine qS (qR (q1 (bC lR) (q1 (bL kZ) (qN (aO.block (qS ?_))))))
  refine qF (σ:=Bool) (fun v4=>⟨[(1,.ptr 0 0),(2,pB false),(3,pB x2),(9,pI pa0.gKind),(10,pB v4)],⟨[some ⟨35,c5 pa0⟩],[]⟩⟩) (gW H) (fun H=>?_) ?_
  ·refine qS (qR (q1 eP (q1 aF (qN ?_))))
   refine bH H (fun h5 H=>?_) (fun h5 H=>?_)
   ·refine aO.skip ?_;exact eC ⟨_,(aZ H:),b9⟩
   refine qR (q1 eP (q1 aF (qN ?_)))
   exact eC ⟨_,(aZ H:),b9⟩
  rintro v4 H
  refine bH H (fun h6 H=>?_) (fun h6 H=>?_)
  ·refine qR ?_
   iterate 2 refine q1 aF ?_
   refine eK 14 H (fun g7 H=>?_) fun g7 H=>?_
   ·refine qg g7 (bC gC) (qg g7 (bL mQ) (qg g7 (eR dX (aA.trs_len _)) (qg g7 eP (q1 (b0 g7) (q1 aF (qN ?_))))))
    exact eC ⟨_,(aZ H:),b9⟩
   iterate 4 refine qk g7 ?_
   refine q1 (cC g7) (q1 aF (qN ?_))
   exact eC ⟨_,(aZ H:),b9⟩
  refine qS (qR (q1 eP (q1 aF (qN ?_))))
  refine bH H (fun h8 H=>?_) (fun h8 H=>?_)
  ·refine qR ?_
   iterate 2 refine q1 aF ?_
   refine eK 23 H (fun g9 H=>?_) fun g9 H=>?_
   ·refine qg g9 (bC gC) (qg g9 (bL mQ) (qg g9 (eR dX (aA.trs_len _)) (qg g9 eP (q1 (b0 g9) (q1 aF (qN ?_))))))
    exact eC ⟨_,(aZ H:),b9⟩
   iterate 4 refine qk g9 ?_
   refine q1 (cC g9) (q1 aF (qN ?_))
   exact eC ⟨_,(aZ H:),b9⟩
  refine qS (qR (q1 eP (q1 aF (qN ?_))))
  refine bH H (fun h10 H=>?_) (fun h10 H=>?_)
  ·refine qR ?_
   iterate 2 refine q1 aF ?_
   refine eK 32 H (fun g11 H=>?_) fun g11 H=>?_
   ·refine qg g11 (bC gC) (qg g11 (bL mQ) (qg g11 (eR dX (aA.trs_len _)) (qg g11 rLe (q1 (b0 g11) (q1 aF ?_)))))
    refine eK 38 H (fun g12 H=>?_) fun g12 H=>?_
    ·refine qk g12 ?_
     iterate 3 refine qk g12 ?_
     iterate 4 refine IF ?_
     refine qk g12 (q1 (b0 g12) (q1 aF (qN ?_)))
     exact eC ⟨_,(aZ H:),b9⟩
    refine qg g12 (bC kE) (qg g12 (bL fO) (bU H fun x14 z13 H=>(qg g12 (bQ Tryz.func153 (T3 fu pa0.gName _ z13)) (qg g12 aF ?_))))
    refine eK 42 H (fun g15 H=>?_) fun g15 H=>?_
    ·refine qg g15 (bC gC) (qg g15 (bL mQ) (qg g15 (eR dX (aA.trs_len _)) (qg g15 eP (qg g12 (b0 g15) (q1 (cC g12) (q1 aF (qN ?_)))))))
     exact eC ⟨_,(aZ H:),b9⟩
    iterate 4 refine qk g15 ?_
    refine qg g12 (cC g15) (q1 (cC g12) (q1 aF (qN ?_)))
    exact eC ⟨_,(aZ H:),b9⟩
   iterate 4 refine qk g11 ?_
   refine q1 (cC g11) (q1 aF (qg rfl (bC kE) (qg rfl (bL fO) (bU H fun x17 z16 H=>(qg rfl (bQ Tryz.func153 (T3 fu pa0.gName _ z16)) (qg rfl aF ?_))))))
   refine eK 42 H (fun g18 H=>?_) fun g18 H=>?_
   ·refine qg g18 (bC gC) (qg g18 (bL mQ) (qg g18 (eR dX (aA.trs_len _)) (qg g18 eP (qg rfl (b0 g18) (q1 (cC rfl) (q1 aF (qN ?_)))))))
    exact eC ⟨_,(aZ H:),b9⟩
   iterate 4 refine qk g18 ?_
   refine qg rfl (cC g18) (q1 (cC rfl) (q1 aF (qN ?_)))
   exact eC ⟨_,(aZ H:),b9⟩
  refine qS (qR (q1 aF (qN (aO.ret ?_))))
  obtain rfl:_=r:=(F3 (aZ H):)
  exact bR
 rintro v3 H
 iterate 2 refine qS ?_
 refine qR (q1 aF (qN ?_))
 refine aO.fact (c3 0 2 rfl rfl rfl (aA.trs_len _)) (fun hl21=>?_)
 refine cM (σ:=Bool) (fun i19 v20=>⟨[(1,.ptr 0 0),(2,pB false),(3,pB v20),(4,pN i19)],⟨[some ⟨35,c5 pa0⟩],[]⟩⟩) (fun v20=>⟨[(2,pB false),(3,pB v20)],⟨[some ⟨35,c5 pa0⟩],[]⟩⟩) (gW H) ?_ ?_
 ·rintro i19 v20 H
  iterate 2 refine qS ?_
  refine qR (q1 aF (q1 (bC gC) (q1 (bL mQ) (q1 (eR dX (aA.trs_len _)) (q1 iQ (qN ?_))))))
  refine eO H (fun h22 h22l H=>?_) (fun h22 H=>?_)
  ·have h22n:=bF h22
   refine aO.skip (qS (aO.block (qR ?_)))
   iterate 2 refine q1 aF ?_
   refine eK 57 H (fun g23 H=>?_) fun g23 H=>?_
   ·refine qg g23 (bC gC) (qg g23 (bL mQ) (qg g23 aF (qg g23 (jH h22n dX) (qg g23 (lB (aA.cs (bB pa0.gArgs i19)) b8) (bU H fun x25 z24 H=>(qg g23 (bQ Tryz.func291 (h_sl4Form (bB pa0.gArgs i19) _ z24)) (q1 (b0 g23) (q1 aF (qN (qR (q1 aF (q1 (aV.addI rfl rfl rfl rfl (c:=((i19+1:Nat):Int)) (by omega) (by omega)) (q1 aF ?_)))))))))))))
    refine qN ?_;exact j8 h22l ⟨_,(aZ H:),b9⟩
   iterate 6 refine qk g23 ?_
   refine q1 (cC g23) (q1 aF (qN (qR (q1 aF (q1 (aV.addI rfl rfl rfl rfl (c:=((i19+1:Nat):Int)) (by omega) (by omega)) (q1 aF (qN ?_)))))))
   exact j8 h22l ⟨_,(aZ H:),b9⟩
  refine aO.exit ?_;exact lP ⟨_,H,b9⟩
 rintro v20 H
 refine qS (qR ?_)
 iterate 2 refine q1 aF ?_
 refine qN (aO.ret ?_)
 cases aZ H
 exact bR
def o6:Nat→aA→Option Bool
 |0,_=>none
 |fu+1,pa0=>OK fu (o6 fu) pa0
theorem adN(fu:Nat):GE (o6 fu):=by
 induction fu with
 |zero=>exact(fun pa0 r H=>by simp only [o6] at H;cases H)
 |succ fu ih=>exact(fun pa0 r H=>by simp only [o6] at H;exact Z1 fu (o6 fu) ih pa0 r H)
theorem agQ(fu:Nat):GE (o6 fu):=(adN fu)
def S3(m:aA→Option Bool):Prop:= ∀(pt:aA) (r:Bool),m pt=some r→cA Tryz.prog 284 [(aA.pv pt)] (pB r:PV)
def kL(fu:Nat)(pt:aA):Option Bool:=
 bd (o7 fu pt 60) (fun x2=>
 sw (decide (x2≥0))
 (bd (kB fu pt) (fun x5=>
 sw (decide (x5≤6))
 (bd (o6 fu pt) (fun x8=>
 some x8))
 (some false)))
 (some false))
theorem l4(fu:Nat):S3 (kL fu):=by
 intro pt r H
 have H:=fF H
 refine qI Tryz.func284 (fun C hC=>?_)
 refine qS (qR (q1 (kQ (c5 pt)) (q1 aF (qN (qS (qR (q1 (cY [pI pt.gKind,pS pt.gName,aW pt.gArgs] b8) (bU H fun x2 z1 H=>(q1 (bQ Tryz.func289 (agU fu pt 60 _ z1)) (q1 UH (q1 aF ?_)))))))))))
 refine eK 6 H (fun g3 H=>?_) fun g3 H=>?_
 ·refine qg g3 (cY [pI pt.gKind,pS pt.gName,aW pt.gArgs] b8) (bU H fun x5 z4 H=>(qg g3 (bQ Tryz.func290 (VT fu pt _ z4)) (qg g3 rLe (q1 (b0 g3) (q1 aF ?_)))))
  refine eK 11 H (fun g6 H=>?_) fun g6 H=>?_
  ·refine qg g6 (cY [pI pt.gKind,pS pt.gName,aW pt.gArgs] b8) (bU H fun x8 z7 H=>(qg g6 (bQ Tryz.func291 (agQ fu pt _ z7)) (q1 (b0 g6) (q1 aF (qN (aO.ret ?_))))))
   cases aZ H
   exact bR
  iterate 2 refine qk g6 ?_
  refine q1 (cC g6) (q1 aF (qN (aO.ret ?_)))
  cases aZ H
  exact bR
 iterate 3 refine qk g3 ?_
 refine q1 (cC g3) (q1 aF ?_)
 iterate 2 refine qk rfl ?_
 refine q1 (cC rfl) (q1 aF (qN (aO.ret ?_)))
 cases aZ H
 exact bR
abbrev kA:=aA→aA→Option Bool
abbrev o8:=(List aA)→(List aA)→Option Bool
def tN(m:kA):Prop:= ∀(pa:aA) (pb:aA) (r:Bool),m pa pb=some r→cA Tryz.prog 16 [(aA.pv pa),(aA.pv pb)] (pB r:PV)
def GH(m:o8):Prop:= ∀(pa:List aA) (pb:List aA) (r:Bool),m pa pb=some r→cA Tryz.prog 66 [aW pa,aW pb] (pB r:PV)
def xA(fu:Nat)(r_sEqualType:kA)(r_sl4Same:o8)(pa pb:aA):Option Bool:=
 sw (decide (pa.gKind=pb.gKind))
 (sw (decide (pa.gName=pb.gName))
 (bd (r_sl4Same pa.gArgs pb.gArgs) (fun x4=>
 some x4))
 (some false))
 (some false)
theorem P4(fu:Nat)(r_sEqualType:kA)(r_sl4Same:o8)(h_sEqualType:tN r_sEqualType)(h_sl4Same:GH r_sl4Same):tN (xA fu r_sEqualType r_sl4Same):=by
 intro pa pb r H
 have H:=fF H
 refine qI Tryz.func16 (fun C hC=>?_)
 refine qS (qR (q1 (kQ (c5 pa)) (q1 (kQ (c5 pb)) (q1 aF (qN (qS (qR (q1 (bC lR) (q1 (bL kZ) (q1 (bC lR) (q1 (bL kZ) (q1 eP (q1 aF ?_)))))))))))))
 refine eK 10 H (fun g1 H=>?_) fun g1 H=>?_
 ·refine qg g1 (bC kE) (qg g1 (bL fO) (qg g1 (bC kE) (qg g1 (bL fO) (qg g1 JL (q1 (b0 g1) (q1 aF ?_))))))
  refine eK 17 H (fun g2 H=>?_) fun g2 H=>?_
  ·refine qg g2 (bC gC) (qg g2 (bL mQ) (qg g2 (bC gC) (qg g2 (bL mQ) (bU H fun x4 z3 H=>(qg g2 (bQ Tryz.func66 (h_sl4Same pa.gArgs pb.gArgs _ z3)) (q1 (b0 g2) (q1 aF (qN (aO.ret ?_)))))))))
   cases aZ H
   exact bR
  iterate 5 refine qk g2 ?_
  refine q1 (cC g2) (q1 aF (qN (aO.ret ?_)))
  cases aZ H
  exact bR
 iterate 5 refine qk g1 ?_
 refine q1 (cC g1) (q1 aF ?_)
 iterate 5 refine qk rfl ?_
 refine q1 (cC rfl) (q1 aF (qN (aO.ret ?_)))
 cases aZ H
 exact bR
def KH(fu:Nat)(r_sEqualType:kA)(r_sl4Same:o8)(pa pb:List aA):Nat→Unit→Option (LR Unit Bool):=
 fun i2 _=>gd (i2<(pb).length)
 (bd (r_sEqualType (bB pa i2) (bB pb i2)) (fun x7=>
 sw (!(x7))
 (some (.ret false))
 (some (.next ()))))
def KI(fu:Nat)(r_sEqualType:kA)(r_sl4Same:o8)(pa pb:List aA):Option (Bool⊕Unit):=
 loopN (KH fu r_sEqualType r_sl4Same pa pb) (pa.length-0) 0 ()
def BR(fu:Nat)(r_sEqualType:kA)(r_sl4Same:o8)(pa pb:List aA):Option Bool:=
 sw (!decide ((pa.length:Int)=(pb.length:Int)))
 (some false)
 (so (KI fu r_sEqualType r_sl4Same pa pb) (fun _=>
 some true))
theorem Z3(fu:Nat)(r_sEqualType:kA)(r_sl4Same:o8)(h_sEqualType:tN r_sEqualType)(h_sl4Same:GH r_sl4Same):GH (BR fu r_sEqualType r_sl4Same):=by
 intro pa pb r H
 have H:=fF H
 refine qI Tryz.func66 (fun C hC=>?_)
 refine qS (qR (q1 aF (qN ?_)))
 iterate 2 refine qS ?_
 refine qR (q1 aF (q1 (eR dX (aA.trs_len _)) (q1 aF (q1 (eR dX (aA.trs_len _)) (q1 MJ (qN ?_))))))
 refine bH H (fun h1 H=>?_) (fun h1 H=>?_)
 ·refine qS (qR (q1 aF (qN (aO.ret ?_))))
  cases aZ H
  exact bR
 refine aO.skip ?_
 iterate 2 refine qS ?_
 refine qR (q1 aF (qN ?_))
 refine kV 0 (aA.trs_len _) (fun hl3=>?_)
 refine cM (σ:=Unit) (fun i2 _=>⟨[(0,aW pa),(1,aW pb),(4,pB false),(5,pN i2)],⟨[],[]⟩⟩) (fun _=>⟨[(4,pB false)],⟨[],[]⟩⟩) (gW H) ?_ ?_
 ·rintro i2 ⟨⟩ H
  iterate 2 refine qS ?_
  refine qR ?_
  iterate 2 refine q1 aF ?_
  refine q1 (eR dX (aA.trs_len _)) (q1 iQ (qN ?_))
  refine eO H (fun h4 h4l H=>?_) (fun h4 H=>?_)
  ·have h4n:=bF h4
   refine aO.skip (qS (aO.block (qS (c9 H fun z5 H=>(bU H fun x7 z6 H=>(dW (dI [0] aF (dI [5] aF (dI [17,18] (jH h4n dX) (dI [19] (lB (aA.cs (bB pa i2)) b8) (dI [1] aF (dI [5] aF (dI [21,22] (jH z5 dX) ?_)))))))))))))
   refine dI [23] (lB (aA.cs (bB pb i2)) b8) (dI [20,24] (bQ Tryz.func16 (h_sEqualType (bB pa i2) (bB pb i2) _ z6)) (dI [25] iS (dN ?_)))
   refine bH H (fun h8 H=>?_) (fun h8 H=>?_)
   ·refine qS (qR (q1 aF (qN (aO.ret ?_))))
    obtain rfl:_=r:=(rK (aZ H):)
    exact bR
   refine aO.skip (qR (q1 aF (q1 (aV.addI rfl rfl rfl rfl (c:=((i2+1:Nat):Int)) (by omega) (by omega)) (q1 aF (qN ?_)))))
   exact j8 h4l ⟨_,(aZ H:),b9⟩
  refine aO.exit ?_;exact lP ⟨_,H,b9⟩
 rintro⟨⟩ H
 refine qS (qR (q1 aF (qN (aO.ret ?_))))
 cases aZ H
 exact bR
mutual
def fN:Nat→aA→aA→Option Bool
 |0,_,_=>none
 |fu+1,pa,pb=>xA fu (fN fu) (kS fu) pa pb
def kS:Nat→(List aA)→(List aA)→Option Bool
 |0,_,_=>none
 |fu+1,pa,pb=>BR fu (fN fu) (kS fu) pa pb
end
theorem SY(fu:Nat):tN (fN fu)∧GH (kS fu):=by
 induction fu with
 |zero=>exact⟨(fun pa pb r H=>by simp only [fN] at H;cases H),(fun pa pb r H=>by simp only [kS] at H;cases H)⟩
 |succ fu ih=>exact⟨(fun pa pb r H=>by simp only [fN] at H;exact P4 fu (fN fu) (kS fu) ih.1 ih.2 pa pb r H),(fun pa pb r H=>by simp only [kS] at H;exact Z3 fu (fN fu) (kS fu) ih.1 ih.2 pa pb r H)⟩
theorem IG(fu:Nat):tN (fN fu):=(SY fu).1
abbrev sZ:=aA→(List ByteArray)→Option ((List ByteArray))
def GJ(m:sZ):Prop:= ∀(pt:aA) (pout:List ByteArray) (r:(List ByteArray)),m pt pout=some r→cP Tryz.prog 176 [(aA.pv pt),aS pout 0] ⟨[],[⟨9,1,aX (pout),false⟩]⟩ (fun q t=>q=(aS r 0:PV)∧t=⟨[],[⟨9,1,aX (r),false⟩]⟩)
def KJ(fu:Nat)(r_sl4Vars:sZ)(pt:aA)(pout:List ByteArray):Option (((List ByteArray))⊕((List ByteArray))):=
 sw (decide (pt.gKind=1))
 (bd (lV fu pout pt.gName) (fun x5=>
 sw (!(x5))
 (gd ((pout).length+(([pt.gName]:List ByteArray)).length≤68719476736)
 (some (.inr (pout++([pt.gName]:List ByteArray)))))
 (some (.inr pout))))
 (some (.inr pout))
def T8(fu:Nat)(r_sl4Vars:sZ)(pt:aA)(pout v2:List ByteArray):Nat→((List ByteArray))→Option (LR ((List ByteArray)) ((List ByteArray))):=
 fun i8 v10=>bd (r_sl4Vars (bB pt.gArgs i8) v10) (fun x14=>
 some (.next x14))
def T9(fu:Nat)(r_sl4Vars:sZ)(pt:aA)(pout v2:List ByteArray):Option (((List ByteArray))⊕((List ByteArray))):=
 loopN (T8 fu r_sl4Vars pt pout v2) (pt.gArgs.length-0) 0 v2
def GI(fu:Nat)(r_sl4Vars:sZ)(pt:aA)(pout:List ByteArray):Option ((List ByteArray)):=
 so (KJ fu r_sl4Vars pt pout) (fun v2=>
 so (T9 fu r_sl4Vars pt pout v2) (fun v10=>
 some v10))
theorem Z5(fu:Nat)(r_sl4Vars:sZ)(h_sl4Vars:GJ r_sl4Vars):GJ (GI fu r_sl4Vars):=by
 intro pt pout r H
 have H:=fF H
 refine qI Tryz.func176 (fun C hC=>?_)
 refine qS (qR (q1 (kQ (c5 pt)) (q1 aF (qN (qS ?_)))))
 refine qF (σ:=(List ByteArray)) (fun v2=>⟨[(1,aS v2 0),(2,.ptr 0 0),(4,.nil)],⟨[some ⟨35,c5 pt⟩],[⟨9,1,aX (v2),false⟩]⟩⟩) (gW H) (fun H=>?_) ?_
 ·refine qS (qR (q1 (bC lR) (q1 (bL kZ) (q1 eP (q1 aF ?_)))))
  refine eK 9 H (fun g3 H=>?_) fun g3 H=>?_
  ·refine qg g3 aF (qg g3 (bC kE) (qg g3 (bL fO) (bU H fun x5 z4 H=>(qg g3 (bQ Tryz.func125 (nK fu pout pt.gName _ z4)) (qg g3 iS (q1 (b0 g3) (qN ?_)))))))
   refine bH H (fun h6 H=>?_) (fun h6 H=>?_)
   ·refine qR (q1 aF (q1 (bC kE) (q1 (bL fO) (q1 (iW ([pt.gName]:List ByteArray) b6 lO) (c9 H fun z7 H=>(q1 (oE z7 b6 sM) (q1 aF (qN ?_))))))))
    exact eC ⟨_,(aZ H:),b9⟩
   refine aO.skip ?_;exact eC ⟨_,(aZ H:),b9⟩
  iterate 5 refine qk g3 ?_
  refine q1 (cC g3) (qN (kP rfl (aO.skip ?_)))
  exact eC ⟨_,(aZ H:),b9⟩
 rintro v2 H
 iterate 2 refine qS ?_
 refine qR (q1 aF (qN ?_))
 refine aO.fact (c3 0 2 rfl rfl rfl (aA.trs_len _)) (fun hl11=>?_)
 refine cM (σ:=(List ByteArray)) (fun i8 v10=>⟨[(1,aS v10 0),(2,.ptr 0 0),(4,.nil),(5,pN i8)],⟨[some ⟨35,c5 pt⟩],[⟨9,1,aX (v10),false⟩]⟩⟩) (fun v10=>⟨[(1,aS v10 0),(4,.nil)],⟨[some ⟨35,c5 pt⟩],[⟨9,1,aX (v10),false⟩]⟩⟩) (gW H) ?_ ?_
 ·rintro i8 v10 H
  iterate 2 refine qS ?_
  refine qR (q1 aF (q1 (bC gC) (q1 (bL mQ) (q1 (eR dX (aA.trs_len _)) (q1 iQ (qN ?_))))))
  refine eO H (fun h12 h12l H=>?_) (fun h12 H=>?_)
  ·have h12n:=bF h12
   refine aO.skip (qS (aO.block (qR (q1 (bC gC) (q1 (bL mQ) (q1 aF (q1 (jH h12n dX) (q1 (lB (aA.cs (bB pt.gArgs i8)) b8) (q1 aF (bU H fun x14 z13 H=>(q1 (f6 [] [0] Tryz.func176 (h_sl4Vars (bB pt.gArgs i8) v10 _ z13)) (q1 aF (qN ?_)))))))))))))
   refine qR (q1 aF (q1 (aV.addI rfl rfl rfl rfl (c:=((i8+1:Nat):Int)) (by omega) (by omega)) (q1 aF (qN ?_))))
   exact j8 h12l ⟨_,(aZ H:),b9⟩
  refine aO.exit ?_;exact lP ⟨_,H,b9⟩
 rintro v10 H
 refine qS (qR ?_)
 iterate 2 refine q1 aF ?_
 refine qN (aO.ret ?_)
 cases aZ H
 exact bR
def lM:Nat→aA→(List ByteArray)→Option ((List ByteArray))
 |0,_,_=>none
 |fu+1,pt,pout=>GI fu (lM fu) pt pout
theorem adP(fu:Nat):GJ (lM fu):=by
 induction fu with
 |zero=>exact(fun pt pout r H=>by simp only [lM] at H;cases H)
 |succ fu ih=>exact(fun pt pout r H=>by simp only [lM] at H;exact Z5 fu (lM fu) ih pt pout r H)
theorem ag0(fu:Nat):GJ (lM fu):=(adP fu)
def N5(m:aA→Option ((List ByteArray))):Prop:= ∀(pt:aA) (r:(List ByteArray)),m pt=some r→cA Tryz.prog 138 [(aA.pv pt)] (rS r:PV)
def nI(fu:Nat)(pt:aA):Option ((List ByteArray)):=
 bd (lM fu pt ([])) (fun x2=>
 some x2)
theorem zI(fu:Nat):N5 (nI fu):=by
 intro pt r H
 have H:=fF H
 refine qI Tryz.func138 (fun C hC=>?_)
 refine qS (qR (q1 (kQ (c5 pt)) (q1 aF (qN (qS (qR (q1 (cY [pI pt.gKind,pS pt.gName,aW pt.gArgs] b8) (q1 (wA ([]:List ByteArray) b6 lO) (bU H fun x2 z1 H=>(q1 (f6 [] [0] Tryz.func176 (ag0 fu pt ([]) _ z1)) (q1 aF (qN (aO.ret ?_)))))))))))))
 cases aZ H
 exact bR
abbrev jW:=aA→Option Bool
def qQ(m:jW):Prop:= ∀(pt:aA) (r:Bool),m pt=some r→cA Tryz.prog 139 [(aA.pv pt)] (pB r:PV)
def zF(fu:Nat)(r_sHasProjection:jW)(pt:aA):Nat→Unit→Option (LR Unit Bool):=
 fun i1 _=>bd (r_sHasProjection (bB pt.gArgs i1)) (fun x5=>
 sw (x5)
 (some (.ret true))
 (some (.next ())))
def zG(fu:Nat)(r_sHasProjection:jW)(pt:aA):Option (Bool⊕Unit):=
 loopN (zF fu r_sHasProjection pt) (pt.gArgs.length-0) 0 ()
def qP(fu:Nat)(r_sHasProjection:jW)(pt:aA):Option Bool:=
 so (zG fu r_sHasProjection pt) (fun _=>
 some (decide (pt.gKind=3)))
theorem GX(fu:Nat)(r_sHasProjection:jW)(h_sHasProjection:qQ r_sHasProjection):qQ (qP fu r_sHasProjection):=by
 intro pt r H
 have H:=fF H
 refine qI Tryz.func139 (fun C hC=>?_)
 refine qS (qR (q1 (kQ (c5 pt)) (q1 aF (qN ?_))))
 iterate 2 refine qS ?_
 refine qR (q1 aF (qN ?_))
 refine aO.fact (c3 0 2 rfl rfl rfl (aA.trs_len _)) (fun hl2=>?_)
 refine cM (σ:=Unit) (fun i1 _=>⟨[(1,.ptr 0 0),(2,pB false),(3,pN i1)],⟨[some ⟨35,c5 pt⟩],[]⟩⟩) (fun _=>⟨[(1,.ptr 0 0),(2,pB false)],⟨[some ⟨35,c5 pt⟩],[]⟩⟩) (gW H) ?_ ?_
 ·rintro i1 ⟨⟩ H
  iterate 2 refine qS ?_
  refine qR (q1 aF (q1 (bC gC) (q1 (bL mQ) (q1 (eR dX (aA.trs_len _)) (q1 iQ (qN ?_))))))
  refine eO H (fun h3 h3l H=>?_) (fun h3 H=>?_)
  ·have h3n:=bF h3
   refine aO.skip (qS (aO.block (qS (qR (q1 (bC gC) (q1 (bL mQ) (q1 aF (q1 (jH h3n dX) (q1 (lB (aA.cs (bB pt.gArgs i1)) b8) (bU H fun x5 z4 H=>(q1 (bQ Tryz.func139 (h_sHasProjection (bB pt.gArgs i1) _ z4)) (qN ?_))))))))))))
   refine bH H (fun h6 H=>?_) (fun h6 H=>?_)
   ·refine qS (qR (q1 aF (qN (aO.ret ?_))))
    obtain rfl:_=r:=(rK (aZ H):)
    exact bR
   refine aO.skip (qR (q1 aF (q1 (aV.addI rfl rfl rfl rfl (c:=((i1+1:Nat):Int)) (by omega) (by omega)) (q1 aF (qN ?_)))))
   exact j8 h3l ⟨_,(aZ H:),b9⟩
  refine aO.exit ?_;exact lP ⟨_,H,b9⟩
 rintro⟨⟩ H
 refine qS (qR (q1 (bC lR) (q1 (bL kZ) (q1 eP (q1 aF (qN (aO.ret ?_)))))))
 cases aZ H
 exact bR
def dU:Nat→aA→Option Bool
 |0,_=>none
 |fu+1,pt=>qP fu (dU fu) pt
theorem JP(fu:Nat):qQ (dU fu):=by
 induction fu with
 |zero=>exact(fun pt r H=>by simp only [dU] at H;cases H)
 |succ fu ih=>exact(fun pt r H=>by simp only [dU] at H;exact GX fu (dU fu) ih pt r H)
theorem tO(fu:Nat):qQ (dU fu):=(JP fu)
abbrev fJ:=aA→ByteArray→Option Int
def mC(m:fJ):Prop:= ∀(pt:aA) (pv:ByteArray) (r:Int),m pt pv=some r→cA Tryz.prog 211 [(aA.pv pt),pS pv] (pI r:PV)
def DN(fu:Nat)(r_sCountTypeVariable:fJ)(pt:aA)(pv:ByteArray):Option (Int⊕Int):=
 sw (decide (pt.gKind=1))
 (sw (decide (pt.gName=pv))
 (some (.inr 1))
 (some (.inr 0)))
 (some (.inr 0))
def DO(fu:Nat)(r_sCountTypeVariable:fJ)(pt:aA)(pv:ByteArray)(v1:Int):Nat→Int→Option (LR Int Int):=
 fun i4 v5=>bd (r_sCountTypeVariable (bB pt.gArgs i4) pv) (fun x9=>
 some (.next (aQ (v5+x9))))
def DP(fu:Nat)(r_sCountTypeVariable:fJ)(pt:aA)(pv:ByteArray)(v1:Int):Option (Int⊕Int):=
 loopN (DO fu r_sCountTypeVariable pt pv v1) (pt.gArgs.length-0) 0 v1
def qA(fu:Nat)(r_sCountTypeVariable:fJ)(pt:aA)(pv:ByteArray):Option Int:=
 so (DN fu r_sCountTypeVariable pt pv) (fun v1=>
 so (DP fu r_sCountTypeVariable pt pv v1) (fun v5=>
 some v5))
theorem BK(fu:Nat)(r_sCountTypeVariable:fJ)(h_sCountTypeVariable:mC r_sCountTypeVariable):mC (qA fu r_sCountTypeVariable):=by
 intro pt pv r H
 have H:=fF H
 refine qI Tryz.func211 (fun C hC=>?_)
 refine qS (qR (q1 (kQ (c5 pt)) (q1 aF (qN (qS (qR (q1 aF (qN (qS ?_)))))))))
 refine qF (σ:=Int) (fun v1=>⟨[(1,pS pv),(2,.ptr 0 0),(4,pI 0),(5,pI v1)],⟨[some ⟨35,c5 pt⟩],[]⟩⟩) (gW H) (fun H=>?_) ?_
 ·refine qS (qR (q1 (bC lR) (q1 (bL kZ) (q1 eP (q1 aF ?_)))))
  refine eK 10 H (fun g2 H=>?_) fun g2 H=>?_
  ·refine qg g2 (bC kE) (qg g2 (bL fO) (qg g2 aF (qg g2 JL (q1 (b0 g2) (qN ?_)))))
   refine bH H (fun h3 H=>?_) (fun h3 H=>?_)
   ·refine qR (q1 aF (qN ?_))
    exact eC ⟨_,(aZ H:),b9⟩
   refine aO.skip ?_;exact eC ⟨_,(aZ H:),b9⟩
  iterate 4 refine qk g2 ?_
  refine q1 (cC g2) (qN (kP rfl (aO.skip ?_)))
  exact eC ⟨_,(aZ H:),b9⟩
 rintro v1 H
 iterate 2 refine qS ?_
 refine qR (q1 aF (qN ?_))
 refine aO.fact (c3 0 2 rfl rfl rfl (aA.trs_len _)) (fun hl6=>?_)
 refine cM (σ:=Int) (fun i4 v5=>⟨[(1,pS pv),(2,.ptr 0 0),(4,pI 0),(5,pI v5),(6,pN i4)],⟨[some ⟨35,c5 pt⟩],[]⟩⟩) (fun v5=>⟨[(4,pI 0),(5,pI v5)],⟨[some ⟨35,c5 pt⟩],[]⟩⟩) (gW H) ?_ ?_
 ·rintro i4 v5 H
  iterate 2 refine qS ?_
  refine qR (q1 aF (q1 (bC gC) (q1 (bL mQ) (q1 (eR dX (aA.trs_len _)) (q1 iQ (qN ?_))))))
  refine eO H (fun h7 h7l H=>?_) (fun h7 H=>?_)
  ·have h7n:=bF h7
   refine aO.skip (qS (aO.block (qR (q1 aF (q1 (bC gC) (q1 (bL mQ) (q1 aF (q1 (jH h7n dX) (q1 (lB (aA.cs (bB pt.gArgs i4)) b8) (q1 aF (bU H fun x9 z8 H=>(q1 (bQ Tryz.func211 (h_sCountTypeVariable (bB pt.gArgs i4) pv _ z8)) (q1 Q6 ?_)))))))))))))
   refine q1 aF (qN (qR (q1 aF (q1 (aV.addI rfl rfl rfl rfl (c:=((i4+1:Nat):Int)) (by omega) (by omega)) (q1 aF (qN ?_))))))
   exact j8 h7l ⟨_,(aZ H:),b9⟩
  refine aO.exit ?_;exact lP ⟨_,H,b9⟩
 rintro v5 H
 refine qS (qR ?_)
 iterate 2 refine q1 aF ?_
 refine qN (aO.ret ?_)
 cases aZ H
 exact bR
def eG:Nat→aA→ByteArray→Option Int
 |0,_,_=>none
 |fu+1,pt,pv=>qA fu (eG fu) pt pv
theorem CN(fu:Nat):mC (eG fu):=by
 induction fu with
 |zero=>exact(fun pt pv r H=>by simp only [eG] at H;cases H)
 |succ fu ih=>exact(fun pt pv r H=>by simp only [eG] at H;exact BK fu (eG fu) ih pt pv r H)
theorem DR(fu:Nat):mC (eG fu):=(CN fu)
def abN(m:ByteArray→aA→Option Bool):Prop:= ∀(pv:ByteArray) (pt:aA) (r:Bool),m pv pt=some r→cA Tryz.prog 200 [pS pv,(aA.pv pt)] (pB r:PV)
def ET(fu:Nat)(pv:ByteArray)(pt:aA):Option Bool:=
 bd (eG fu pt pv) (fun x2=>
 some (decide (x2>0)))
theorem YH(fu:Nat):abN (ET fu):=by
 intro pv pt r H
 have H:=fF H
 refine qI Tryz.func200 (fun C hC=>?_)
 refine qS (qR (q1 (kQ (c5 pt)) (q1 aF (qN (qS (qR (q1 (cY [pI pt.gKind,pS pt.gName,aW pt.gArgs] b8) (q1 aF (bU H fun x2 z1 H=>(q1 (bQ Tryz.func211 (DR fu pt pv _ z1)) (q1 MI (q1 aF (qN ?_)))))))))))))
 refine aO.ret ?_
 cases aZ H
 exact bR
end
end Go.Proofs.YtpioomclpaiomaaGreat.W
