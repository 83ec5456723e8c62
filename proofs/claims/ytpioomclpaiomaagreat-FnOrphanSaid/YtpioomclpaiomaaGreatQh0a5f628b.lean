/- Words, rules and walks of several kinds, laid together: Bk, Pl, PlOk, OkW, OkA1, OkA2, OkH, OkA3, OkA4, OkA5, OkA6, OkD, OkA7, WFnd, Fresh, WOrph, MaLOrphan. No conditions but those that each theorem states. -/
import Derived.Test.YtpioomclpaiomaaGreatQh5e29f3dd
import Derived.Test.YtpioomclpaiomaaGreatQh23a14147
import Derived.Test.YtpioomclpaiomaaGreatQhe62b1444
import Derived.Test.YtpioomclpaiomaaGreatQh51a665e6
import Derived.Test.YtpioomclpaiomaaGreatQh484d5f53
set_option linter.unusedSimpArgs false
set_option linter.unusedVariables false
namespace Go.Proofs.YtpioomclpaiomaaGreat
set_option linter.unusedSimpArgs false
set_option linter.unusedVariables false
open Go.RowKit
theorem gT: ∀(a b:List Tr),Tr.bulkL (a++b)=Tr.bulkL a+Tr.bulkL b
 | [],b=>by simp [Tr.bulkL]
 |t::a,b=>by simp [Tr.bulkL,gT a b,Nat.add_assoc]
theorem agB:Tr.bulkAll (aX [])=0:=rfl
theorem ae4(a:ByteArray)(l:List ByteArray):Tr.bulkAll (aX (a::l))=a.size+Tr.bulkAll (aX l):=by simp [aX,Tr.bulkAll,Tr.bulkL,Tr.bulk]
theorem aB.bk_mk(v0:Int)(v1:ByteArray)(v2:List aB):Tr.bulkL (aB.tr (.mk v0 v1 v2))=v1.size+(v2.length+Tr.bulkAll (aB.trs v2)):=by
 simp only [aB.tr,gT,Tr.bulkL,Tr.bulk,bE,fT,e6,aB.trs_len]
 first|done|omega
theorem aB.bks_nil:Tr.bulkAll (aB.trs [])=0:=by simp [aB.trs_map,Tr.bulkAll]
theorem aB.bks_cons(a:aB)(l:List aB):Tr.bulkAll (aB.trs (a::l))=Tr.bulkL (aB.tr a)+Tr.bulkAll (aB.trs l):=by simp [aB.trs_map,Tr.bulkAll]
theorem aA.bk_mk(v0:ByteArray)(v1:List aA):Tr.bulkL (aA.tr (.mk v0 v1))=v0.size+(v1.length+Tr.bulkAll (aA.trs v1)):=by
 simp only [aA.tr,gT,Tr.bulkL,Tr.bulk,bE,fT,e6,aA.trs_len]
 first|done|omega
theorem aA.bks_nil:Tr.bulkAll (aA.trs [])=0:=by simp [aA.trs_map,Tr.bulkAll]
theorem aA.bks_cons(a:aA)(l:List aA):Tr.bulkAll (aA.trs (a::l))=Tr.bulkL (aA.tr a)+Tr.bulkAll (aA.trs l):=by simp [aA.trs_map,Tr.bulkAll]
theorem aG.bk_mk(v0:Int)(v1:ByteArray)(v2:ByteArray)(v3:Int)(v4:aB)(v5:List aG)(v6:List bC):Tr.bulkL (aG.tr (.mk v0 v1 v2 v3 v4 v5 v6))=v1.size+v2.size+Tr.bulkL (aB.tr v4)+(v5.length+Tr.bulkAll (aG.trs v5))+(v6.length+Tr.bulkAll (bC.trs v6)):=by
 simp only [aG.tr,gT,Tr.bulkL,Tr.bulk,bE,fT,e6,aG.trs_len,bC.trs_len]
 first|done|omega
theorem aG.bks_nil:Tr.bulkAll (aG.trs [])=0:=by simp [aG.trs_map,Tr.bulkAll]
theorem aG.bks_cons(a:aG)(l:List aG):Tr.bulkAll (aG.trs (a::l))=Tr.bulkL (aG.tr a)+Tr.bulkAll (aG.trs l):=by simp [aG.trs_map,Tr.bulkAll]
theorem bC.bk_mk(v0:ByteArray)(v1:List ByteArray)(v2:aG):Tr.bulkL (bC.tr (.mk v0 v1 v2))=v0.size+(v1.length+Tr.bulkAll (aX v1))+Tr.bulkL (aG.tr v2):=by
 simp only [bC.tr,gT,Tr.bulkL,Tr.bulk,bE,fT,e6]
 first|done|omega
theorem bC.bks_nil:Tr.bulkAll (bC.trs [])=0:=by simp [bC.trs_map,Tr.bulkAll]
theorem bC.bks_cons(a:bC)(l:List bC):Tr.bulkAll (bC.trs (a::l))=Tr.bulkL (bC.tr a)+Tr.bulkAll (bC.trs l):=by simp [bC.trs_map,Tr.bulkAll]
theorem aJ.bk_mk(v0:ByteArray)(v1:aB):Tr.bulkL (aJ.tr (.mk v0 v1))=v0.size+Tr.bulkL (aB.tr v1):=by
 simp only [aJ.tr,gT,Tr.bulkL,Tr.bulk,bE,fT,e6]
 first|done|omega
theorem aJ.bks_nil:Tr.bulkAll (aJ.trs [])=0:=by simp [aJ.trs_map,Tr.bulkAll]
theorem aJ.bks_cons(a:aJ)(l:List aJ):Tr.bulkAll (aJ.trs (a::l))=Tr.bulkL (aJ.tr a)+Tr.bulkAll (aJ.trs l):=by simp [aJ.trs_map,Tr.bulkAll]
theorem aR.bk_mk(v0:ByteArray)(v1:aB):Tr.bulkL (aR.tr (.mk v0 v1))=v0.size+Tr.bulkL (aB.tr v1):=by
 simp only [aR.tr,gT,Tr.bulkL,Tr.bulk,bE,fT,e6]
 first|done|omega
theorem aR.bks_nil:Tr.bulkAll (aR.trs [])=0:=by simp [aR.trs_map,Tr.bulkAll]
theorem aR.bks_cons(a:aR)(l:List aR):Tr.bulkAll (aR.trs (a::l))=Tr.bulkL (aR.tr a)+Tr.bulkAll (aR.trs l):=by simp [aR.trs_map,Tr.bulkAll]
theorem aN.bk_mk(v0:ByteArray)(v1:List ByteArray)(v2:aG):Tr.bulkL (aN.tr (.mk v0 v1 v2))=v0.size+(v1.length+Tr.bulkAll (aX v1))+Tr.bulkL (aG.tr v2):=by
 simp only [aN.tr,gT,Tr.bulkL,Tr.bulk,bE,fT,e6]
 first|done|omega
theorem aN.bks_nil:Tr.bulkAll (aN.trs [])=0:=by simp [aN.trs_map,Tr.bulkAll]
theorem aN.bks_cons(a:aN)(l:List aN):Tr.bulkAll (aN.trs (a::l))=Tr.bulkL (aN.tr a)+Tr.bulkAll (aN.trs l):=by simp [aN.trs_map,Tr.bulkAll]
theorem aC.bk_mk(v0:ByteArray)(v1:List aB):Tr.bulkL (aC.tr (.mk v0 v1))=v0.size+(v1.length+Tr.bulkAll (aB.trs v1)):=by
 simp only [aC.tr,gT,Tr.bulkL,Tr.bulk,bE,fT,e6,aB.trs_len]
 first|done|omega
theorem aC.bks_nil:Tr.bulkAll (aC.trs [])=0:=by simp [aC.trs_map,Tr.bulkAll]
theorem aC.bks_cons(a:aC)(l:List aC):Tr.bulkAll (aC.trs (a::l))=Tr.bulkL (aC.tr a)+Tr.bulkAll (aC.trs l):=by simp [aC.trs_map,Tr.bulkAll]
theorem aD.bk_mk(v0:ByteArray)(v1:List aB)(v2:aB)(v3:Bool)(v4:List ByteArray)(v5:aG):Tr.bulkL (aD.tr (.mk v0 v1 v2 v3 v4 v5))=v0.size+(v1.length+Tr.bulkAll (aB.trs v1))+Tr.bulkL (aB.tr v2)+(v4.length+Tr.bulkAll (aX v4))+Tr.bulkL (aG.tr v5):=by
 simp only [aD.tr,gT,Tr.bulkL,Tr.bulk,bE,fT,e6,aB.trs_len]
 first|done|omega
theorem aD.bks_nil:Tr.bulkAll (aD.trs [])=0:=by simp [aD.trs_map,Tr.bulkAll]
theorem aD.bks_cons(a:aD)(l:List aD):Tr.bulkAll (aD.trs (a::l))=Tr.bulkL (aD.tr a)+Tr.bulkAll (aD.trs l):=by simp [aD.trs_map,Tr.bulkAll]
theorem aP.bk_mk(v0:ByteArray)(v1:List ByteArray)(v2:Bool)(v3:Bool)(v4:List aD):Tr.bulkL (aP.tr (.mk v0 v1 v2 v3 v4))=v0.size+(v1.length+Tr.bulkAll (aX v1))+(v4.length+Tr.bulkAll (aD.trs v4)):=by
 simp only [aP.tr,gT,Tr.bulkL,Tr.bulk,bE,fT,e6,aD.trs_len]
 first|done|omega
theorem aP.bks_nil:Tr.bulkAll (aP.trs [])=0:=by simp [aP.trs_map,Tr.bulkAll]
theorem aP.bks_cons(a:aP)(l:List aP):Tr.bulkAll (aP.trs (a::l))=Tr.bulkL (aP.tr a)+Tr.bulkAll (aP.trs l):=by simp [aP.trs_map,Tr.bulkAll]
theorem aI.bk_mk(v0:ByteArray)(v1:List ByteArray)(v2:List aC):Tr.bulkL (aI.tr (.mk v0 v1 v2))=v0.size+(v1.length+Tr.bulkAll (aX v1))+(v2.length+Tr.bulkAll (aC.trs v2)):=by
 simp only [aI.tr,gT,Tr.bulkL,Tr.bulk,bE,fT,e6,aC.trs_len]
 first|done|omega
theorem aI.bks_nil:Tr.bulkAll (aI.trs [])=0:=by simp [aI.trs_map,Tr.bulkAll]
theorem aI.bks_cons(a:aI)(l:List aI):Tr.bulkAll (aI.trs (a::l))=Tr.bulkL (aI.tr a)+Tr.bulkAll (aI.trs l):=by simp [aI.trs_map,Tr.bulkAll]
theorem aH.bk_mk(v0:ByteArray)(v1:List ByteArray)(v2:aB)(v3:List aJ)(v4:Bool)(v5:Bool)(v6:aB)(v7:List aN):Tr.bulkL (aH.tr (.mk v0 v1 v2 v3 v4 v5 v6 v7))=v0.size+(v1.length+Tr.bulkAll (aX v1))+Tr.bulkL (aB.tr v2)+(v3.length+Tr.bulkAll (aJ.trs v3))+Tr.bulkL (aB.tr v6)+(v7.length+Tr.bulkAll (aN.trs v7)):=by
 simp only [aH.tr,gT,Tr.bulkL,Tr.bulk,bE,fT,e6,aJ.trs_len,aN.trs_len]
 first|done|omega
theorem aH.bks_nil:Tr.bulkAll (aH.trs [])=0:=by simp [aH.trs_map,Tr.bulkAll]
theorem aH.bks_cons(a:aH)(l:List aH):Tr.bulkAll (aH.trs (a::l))=Tr.bulkL (aH.tr a)+Tr.bulkAll (aH.trs l):=by simp [aH.trs_map,Tr.bulkAll]
theorem aL.bk_mk(v0:ByteArray)(v1:List ByteArray)(v2:List aJ)(v3:List aR)(v4:aB)(v5:aG):Tr.bulkL (aL.tr (.mk v0 v1 v2 v3 v4 v5))=v0.size+(v1.length+Tr.bulkAll (aX v1))+(v2.length+Tr.bulkAll (aJ.trs v2))+(v3.length+Tr.bulkAll (aR.trs v3))+Tr.bulkL (aB.tr v4)+Tr.bulkL (aG.tr v5):=by
 simp only [aL.tr,gT,Tr.bulkL,Tr.bulk,bE,fT,e6,aJ.trs_len,aR.trs_len]
 first|done|omega
theorem aL.bks_nil:Tr.bulkAll (aL.trs [])=0:=by simp [aL.trs_map,Tr.bulkAll]
theorem aL.bks_cons(a:aL)(l:List aL):Tr.bulkAll (aL.trs (a::l))=Tr.bulkL (aL.tr a)+Tr.bulkAll (aL.trs l):=by simp [aL.trs_map,Tr.bulkAll]
theorem aK.bk_mk(v0:ByteArray)(v1:List ByteArray)(v2:List aP)(v3:List aI)(v4:List aH)(v5:List aL):Tr.bulkL (aK.tr (.mk v0 v1 v2 v3 v4 v5))=v0.size+(v1.length+Tr.bulkAll (aX v1))+(v2.length+Tr.bulkAll (aP.trs v2))+(v3.length+Tr.bulkAll (aI.trs v3))+(v4.length+Tr.bulkAll (aH.trs v4))+(v5.length+Tr.bulkAll (aL.trs v5)):=by
 simp only [aK.tr,gT,Tr.bulkL,Tr.bulk,bE,fT,e6,aP.trs_len,aI.trs_len,aH.trs_len,aL.trs_len]
 first|done|omega
theorem aK.bks_nil:Tr.bulkAll (aK.trs [])=0:=by simp [aK.trs_map,Tr.bulkAll]
theorem aK.bks_cons(a:aK)(l:List aK):Tr.bulkAll (aK.trs (a::l))=Tr.bulkL (aK.tr a)+Tr.bulkAll (aK.trs l):=by simp [aK.trs_map,Tr.bulkAll]
theorem aM.bk_mk(v0:List aK):Tr.bulkL (aM.tr (.mk v0))=(v0.length+Tr.bulkAll (aK.trs v0)):=by
 simp only [aM.tr,gT,Tr.bulkL,Tr.bulk,bE,fT,e6,aK.trs_len]
 first|done|omega
end Go.Proofs.YtpioomclpaiomaaGreat

namespace Go.Proofs.YtpioomclpaiomaaGreat
set_option linter.unusedSimpArgs false
set_option linter.unusedVariables false
def b6(P:Nat→Prop):Prop:= ∃N,∀n,N≤n→P n
theorem b6.all{P:Nat→Prop}(h: ∀n,P n):b6 P:=⟨0,fun n _=>h n⟩
theorem b6.and{P Q:Nat→Prop}(h:b6 P)(k:b6 Q):b6 fun n=>P n∧Q n:=by
 obtain⟨a,h⟩:=h
 obtain⟨b,k⟩:=k
 exact⟨max a b,fun n hn=>⟨h n (by omega),k n (by omega)⟩⟩
theorem b6.imp{P Q:Nat→Prop}(h:b6 P)(k: ∀n,P n→Q n):b6 Q:=by
 obtain⟨a,h⟩:=h
 exact⟨a,fun n hn=>k n (h n hn)⟩
theorem b6.succ{P:Nat→Prop}(h:b6 fun n=>P (n+1)):b6 P:=by
 obtain⟨a,h⟩:=h
 exact⟨a+1,fun n hn=>by
  obtain⟨m,rfl⟩: ∃m,n=m+1:=⟨n-1,by omega⟩
  exact h m (by omega)⟩
theorem b6.below{P:Nat→Nat→Prop}: ∀ {k:Nat},(∀i,i<k→b6 (P i))→b6 fun n=> ∀i,i<k→P i n
 |0,_=> .all fun n i hi=>by omega
 |k+1,h=>((h k (by omega)).and (b6.below (k:=k) fun i hi=>h i (Nat.lt_succ_of_lt hi))).imp fun n hn i hi=>by
  rcases Nat.lt_or_ge i k with h1|h1
  ·exact hn.2 i h1
  ·obtain rfl:i=k:=by omega
   exact hn.1
theorem b6.get{P:Nat→Prop}(h:b6 P): ∃n,P n:=by
 obtain⟨a,h⟩:=h
 exact⟨a,h a (Nat.le_refl _)⟩
section
variable {α σ β:Type} [Inhabited α] {f:Nat→σ→Option (LR σ β)}
theorem LF{l:List α}{i:Nat}(h:i<l.length):a5 l i∈l:=by rw [jG h];exact List.getElem_mem h
theorem XE{l:List α}{i:Nat}(h:i<l.length):l.drop i=a5 l i::l.drop (i+1):=by rw [jG h];exact List.drop_eq_getElem_cons h
theorem VD{l:List α}{i:Nat}(h:i<l.length):l.take (i+1)=l.take i++ [a5 l i]:=by rw [jG h];exact List.take_succ_eq_append_getElem h
theorem YC{n i:Nat}{s s':σ}(h:i<n)(e:f i s=some (.next s')):loopN f (n-i) i s=loopN f (n-(i+1)) (i+1) s':=vD h rfl e
theorem ac1{n i:Nat}{s:σ}{x:β}(h:i<n)(e:f i s=some (.ret x)):loopN f (n-i) i s=some (.inl x):=ac9 h rfl e
theorem abM{n i:Nat}{s s':σ}(h:i<n)(e:f i s=some (.brk s')):loopN f (n-i) i s=some (.inr s'):=adF h rfl e
theorem abI{n i:Nat}{s:σ}(h:n≤i):loopN f (n-i) i s=some (.inr s):=ab2 h rfl
end
end Go.Proofs.YtpioomclpaiomaaGreat

namespace Go.Proofs.YtpioomclpaiomaaGreat
set_option linter.unusedSimpArgs false
set_option linter.unusedVariables false
open Go.RowKit Go.WalkArith Go.IntWalk
def Ok{α:Type}(o:Option α)(P:α→Prop):Prop:= ∃a,o=some a∧P a
theorem Ok.some{α:Type}{P:α→Prop}{a:α}(h:P a):Ok (Option.some a) P:=⟨a,rfl,h⟩
theorem Ok.mono{α:Type}{P Q:α→Prop}{o:Option α}(h:Ok o P)(k: ∀a,P a→Q a):Ok o Q:=by
 obtain⟨a,e,h⟩:=h
 exact⟨a,e,k a h⟩
theorem Ok.bd{α β:Type}{o:Option α}{f:α→Option β}{Q:α→Prop}{P:β→Prop}(h:Ok o Q)(k: ∀a,Q a→Ok (f a) P):Ok (bd o f) P:=by
 obtain⟨a,rfl,h⟩:=h
 exact k a h
theorem Ok.sw{α:Type}{c:Bool}{a b:Option α}{P:α→Prop}(ht:c=true→Ok a P)(hf:c=false→Ok b P):Ok (sw c a b) P:=by
 cases c
 ·exact hf rfl
 ·exact ht rfl
theorem Ok.gd{α:Type}{g:Prop}{a:Option α}{P:α→Prop}(h:g)(k:Ok a P):Ok (gd g a) P:=by
 rw [gdT h rfl]
 exact k
theorem Ok.so{σ β:Type}{o:Option (β⊕σ)}{f:σ→Option β}{Q:β⊕σ→Prop}{P:β→Prop}(h:Ok o Q)(k1: ∀x,Q (.inl x)→P x)(k2: ∀s,Q (.inr s)→Ok (f s) P):Ok (so o f) P:=by
 obtain⟨a,rfl,h⟩:=h
 cases a with
 |inl x=>exact⟨x,rfl,k1 x h⟩
 |inr s=>exact k2 s h
theorem Ok.lt{α β:Type}{x:α}{f:α→Option β}{P:β→Prop}(k: ∀y,y=x→Ok (f y) P):Ok (lt x f) P:=k x rfl
theorem DS.pick_mem(d:DS){l:List ByteArray}(h:0<l.length):d.pick l∈l:=by
 rw [DS.pick_eq (d.below_lt h)]
 exact List.getElem_mem _
theorem DS.pick_size(d:DS){l:List ByteArray}{k:Nat}(h:0<l.length)(hs: ∀v∈l,v.size≤k):(d.pick l).size≤k:=hs _ (d.pick_mem h)
def PS{σ β:Type}(Q:β→Prop)(E:σ→Prop):β⊕σ→Prop
 | .inl x=>Q x
 | .inr s=>E s
def PL{σ β:Type}(Q:β→Prop)(N E:σ→Prop):LR σ β→Prop
 | .next s=>N s
 | .brk s=>E s
 | .ret x=>Q x
theorem Ok.gdk{α:Type}{g:Prop}{a:Option α}{P:α→Prop}(h:g)(k:g→Ok a P):Ok (Go.Proofs.YtpioomclpaiomaaGreat.gd g a) P:=Ok.gd h (k h)
theorem Ok.sok{σ β:Type}{o:Option (β⊕σ)}{f:σ→Option β}{P:β→Prop}{E:σ→Prop}(h:Ok o (PS P E))(k: ∀s,E s→Ok (f s) P):Ok (Go.Proofs.YtpioomclpaiomaaGreat.so o f) P:=Ok.so h (fun _ hx=>hx) k
theorem Ok.loopN{σ β:Type}{f:Nat→σ→Option (LR σ β)}{n:Nat}{Q:β→Prop}{E:σ→Prop}(I:Nat→σ→Prop)(hE: ∀i s,n≤i→I i s→E s)(hs: ∀i s,i<n→I i s→Ok (f i s) (PL Q (I (i+1)) E)):
 ∀(k i:Nat) (s:σ),n-i=k→I i s→Ok (Go.Proofs.YtpioomclpaiomaaGreat.loopN f (n-i) i s) (PS Q E)
 |0,i,s,hk,hi=>by rw [abI (by omega)];exact Ok.some (hE i s (by omega) hi)
 |k+1,i,s,hk,hi=>by
  have hlt:i<n:=by omega
  obtain⟨r,hr,hp⟩:=hs i s hlt hi
  cases r with
  |next s'=>rw [YC hlt hr];exact Ok.loopN I hE hs k (i+1) s' (by omega) hp
  |brk s'=>rw [abM hlt hr];exact Ok.some hp
  |ret x=>rw [ac1 hlt hr];exact Ok.some hp
theorem Ok.loopN0{σ β:Type}{f:Nat→σ→Option (LR σ β)}{n i:Nat}{s:σ}{Q:β→Prop}{E:σ→Prop}(I:Nat→σ→Prop)(h0:I i s)(hE: ∀i s,n≤i→I i s→E s)(hs: ∀i s,i<n→I i s→Ok (f i s) (PL Q (I (i+1)) E)):Ok (Go.Proofs.YtpioomclpaiomaaGreat.loopN f (n-i) i s) (PS Q E):=
 Ok.loopN I hE hs (n-i) i s rfl h0
theorem Ok.loopW{σ β:Type}{f:σ→Option (LR σ β)}{Q:β→Prop}{E:σ→Prop}(I:σ→Prop)(μ:σ→Nat)(hs: ∀s,I s→Ok (f s) (PL Q (fun s'=>I s'∧μ s'<μ s) E)):
 ∀(k:Nat) (s:σ),μ s<k→I s→Ok (Go.Proofs.YtpioomclpaiomaaGreat.loopW f k s) (PS Q E)
 |0,s,hk,_=>absurd hk (Nat.not_lt_zero _)
 |k+1,s,hk,hi=>by
  obtain⟨r,hr,hp⟩:=hs s hi
  unfold Go.Proofs.YtpioomclpaiomaaGreat.loopW
  rw [hr]
  cases r with
  |next s'=>exact Ok.loopW I μ hs k s' (by have:=hp.2;omega) hp.1
  |brk s'=>exact Ok.some hp
  |ret x=>exact Ok.some hp
theorem b6.ge(k:Nat):b6 fun fu=>k≤fu:=⟨k,fun _ h=>h⟩
end Go.Proofs.YtpioomclpaiomaaGreat

namespace Go.Proofs.YtpioomclpaiomaaGreat
set_option linter.unusedSimpArgs false
set_option linter.unusedVariables false
open Go.RowKit Go.WalkArith Go.IntWalk
class Wt (α:Type) where
 wtOf:α→Nat
def wt{α:Type}[Wt α](x:α):Nat:=Wt.wtOf x
def wl{α:Type}[Wt α]:List α→Nat
 | []=>0
 |a::l=>wt a+1+wl l
instance:Wt ByteArray:=⟨ByteArray.size⟩
theorem a3(b:ByteArray):wt b=b.size:=rfl
theorem A2(l:List ByteArray):wl l=l.length+Tr.bulkAll (aX l):=by
 induction l with
 |nil=>rw [agB];rfl
 |cons a l ih=>rw [ae4];simp only [wl,List.length_cons,a3];omega
section
variable {α:Type} [Wt α]
theorem aU:wl ([]:List α)=0∧([]:List α).length=0:=⟨rfl,rfl⟩
theorem afN(a:α)(l:List α):wl (a::l)=wt a+1+wl l:=rfl
theorem bU(a b:List α):wl (a++b)=wl a+wl b∧(a++b).length=a.length+b.length:=by
 refine⟨?_,List.length_append⟩
 induction a with
 |nil=>simp [wl]
 |cons x a ih=>simp only [List.cons_append,wl];omega
theorem b5(a:α):wl [a]=wt a+1∧ [a].length=1:=⟨rfl,rfl⟩
theorem iY(a b:α):wl [a,b]=wt a+wt b+2∧ [a,b].length=2:=⟨by simp only [wl];omega,rfl⟩
theorem BH(a b c:α):wl [a,b,c]=wt a+wt b+wt c+3∧ [a,b,c].length=3:=⟨by simp only [wl];omega,rfl⟩
theorem ai0(a b c d:α):wl [a,b,c,d]=wt a+wt b+wt c+wt d+4∧ [a,b,c,d].length=4:=⟨by simp only [wl];omega,rfl⟩
theorem ah9(a b c d e:α):wl [a,b,c,d,e]=wt a+wt b+wt c+wt d+wt e+5∧ [a,b,c,d,e].length=5:=⟨by simp only [wl];omega,rfl⟩
theorem aiO(a b c d e f g:α):wl [a,b,c,d,e,f,g]=wt a+wt b+wt c+wt d+wt e+wt f+wt g+7∧ [a,b,c,d,e,f,g].length=7:=⟨by simp only [wl];omega,rfl⟩
theorem aV(l:List α):l.length≤wl l:=by
 induction l with
 |nil=>simp
 |cons a l ih=>simp only [wl,List.length_cons];omega
theorem AP(k:Nat)(l:List α):wl (l.take k)+wl (l.drop k)=wl l:=by
 have:=(bU (l.take k) (l.drop k)).1
 rw [List.take_append_drop] at this
 omega
theorem l8(l:List α)(k:Nat):wl (l.take k)≤wl l:=by have:=AP k l;omega
theorem afG(k:Nat)(l:List α):wl (l.drop k)≤wl l:=by have:=AP k l;omega
theorem LZ(a b:Nat)(l:List α):wl (List.drop a (List.take b l))≤wl l∧(List.drop a (List.take b l)).length=min b l.length-a:=by
 have h1:=afG a (l.take b)
 have h2:=l8 l b
 exact⟨by omega,by simp⟩
theorem adT{l:List α}{x:α}(h:x∈l):wt x+1≤wl l:=by
 induction l with
 |nil=>simp at h
 |cons a l ih=>
  simp only [wl]
  rcases List.mem_cons.1 h with rfl|h
  ·omega
  ·have:=ih h;omega
theorem TJ(l:List α)(a b:Nat):a≤b→wl (l.take a)≤wl (l.take b):=fun h=>by
 have:=l8 (l.take b) a
 rwa [List.take_take,Nat.min_eq_left h] at this
theorem agZ(L:List α)(b:Nat):1≤b→wl (List.drop (1:Int).toNat (List.take b L))+wl (List.take 1 L)≤wl (List.take b L):=fun h=>by
 have:=AP 1 (L.take b)
 rw [List.take_take,Nat.min_eq_left h] at this
 show wl (List.drop 1 _)+_≤_
 omega
variable [Inhabited α]
theorem cE(l:List α)(i:Nat):i<l.length→wt (a5 l i)+1≤wl l:=fun h=>adT (LF h)
theorem mC(l:List α)(i:Nat)(h:i<l.length):wl (l.take (i+1))=wl (l.take i)+wt (a5 l i)+1:=by
 rw [VD h,(bU _ _).1,(b5 _).1]
 omega
theorem DT(l:List α)(i:Nat):i<l.length→wl (l.take (i+1))=wl (l.take i)+wt (a5 l i)+1:=mC l i
end
theorem eB(E:Int): -9223372036854775808≤E∧E≤9223372036854775807→aQ E=E:=fun h=>by
 unfold aQ IntKind.wrap
 simp [IntKind.bits,IntKind.signed]
 omega
theorem yP(b:ByteArray)(i j:Nat):(b.extract i j).size=min j b.size-i:=by simp [ByteArray.size_extract]
theorem eG(a b:ByteArray):(a++b).size=a.size+b.size:=ByteArray.size_append
theorem aeW(l:List UInt8):(bytesStr l).size=l.length:=by simp [bytesStr,ByteArray.size]
theorem A9{b:ByteArray}(h: ¬b=⟨#[]⟩):0<b.size:=by
 rcases Nat.eq_zero_or_pos b.size with h0|h0
 ·refine absurd ?_ h
  obtain⟨a⟩:=b
  have h1:a.size=0:=h0
  rw [Array.eq_empty_of_size_eq_zero h1]
 ·exact h0
theorem bM{p:Prop}(h:p:=by first|omega|(dsimp only;omega)|trivial|(dsimp only;trivial)):p:=h
theorem Ok.next{σ β:Type}{N E:σ→Prop}{Q:β→Prop}{s:σ}(h:N s):Ok (Option.some (LR.next s)) (PL Q N E):=⟨_,rfl,h⟩
theorem Ok.brk{σ β:Type}{N E:σ→Prop}{Q:β→Prop}{s:σ}(h:E s):Ok (Option.some (LR.brk s)) (PL Q N E):=⟨_,rfl,h⟩
theorem Ok.ret{σ β:Type}{N E:σ→Prop}{Q:β→Prop}{x:β}(h:Q x):Ok (Option.some (LR.ret (σ:=σ) x)) (PL Q N E):=⟨_,rfl,h⟩
theorem Ok.inl{σ β:Type}{E:σ→Prop}{Q:β→Prop}{x:β}(h:Q x):Ok (Option.some (Sum.inl (β:=σ) x)) (PS Q E):=⟨_,rfl,h⟩
theorem Ok.inr{σ β:Type}{E:σ→Prop}{Q:β→Prop}{s:σ}(h:E s):Ok (Option.some (Sum.inr (α:=β) s)) (PS Q E):=⟨_,rfl,h⟩
theorem Ok.swd{α:Type}{p:Prop}[Decidable p]{a b:Option α}{P:α→Prop}(ht:p→Ok a P)(hf: ¬p→Ok b P):Ok (Go.Proofs.YtpioomclpaiomaaGreat.sw (decide p) a b) P:=Ok.sw (fun h=>ht (of_decide_eq_true h)) (fun h=>hf (of_decide_eq_false h))
theorem Ok.swn{α:Type}{p:Prop}[Decidable p]{a b:Option α}{P:α→Prop}(ht: ¬p→Ok a P)(hf:p→Ok b P):Ok (Go.Proofs.YtpioomclpaiomaaGreat.sw (!decide p) a b) P:=Ok.sw (fun h=>ht (by simpa using h)) (fun h=>hf (by simpa using h))
theorem Ok.swb{α:Type}{x:Bool}{a b:Option α}{P:α→Prop}(ht:x=false→Ok a P)(hf:x=true→Ok b P):Ok (Go.Proofs.YtpioomclpaiomaaGreat.sw (!x) a b) P:=Ok.sw (fun h=>ht (by simpa using h)) (fun h=>hf (by simpa using h))
theorem Ok.loop0{σ β:Type}{f:Nat→σ→Option (LR σ β)}{n i:Nat}{s:σ}{Q:β→Prop}{E:σ→Prop}(I:Nat→σ→Prop)(h0:I i s)(hE: ∀i s,n≤i→I i s→E s)(hs: ∀i s,i<n→I i s→Ok (f i s) (PL Q (I (i+1)) E)):Ok (Go.Proofs.YtpioomclpaiomaaGreat.loopN f (n-i) i s) (PS Q E):=Ok.loopN0 I h0 hE hs
theorem Ok.loop1{σ β:Type}{f:Nat→σ→Option (LR σ β)}{n i:Nat}{s:σ}{Q:β→Prop}(hs: ∀i s,i<n→Ok (f i s) (PL Q (fun _=>True) (fun _=>True))):Ok (Go.Proofs.YtpioomclpaiomaaGreat.loopN f (n-i) i s) (PS Q (fun _=>True)):=Ok.loopN0 (fun _ _=>True) trivial (fun _ _ _ _=>trivial) (fun i s hi _=>hs i s hi)
theorem oG{α:Type}{g:Prop}{a:Option α}{P:α→Prop}(k:g→Ok a P)(h:g:=by first|omega|trivial):Ok (Go.Proofs.YtpioomclpaiomaaGreat.gd g a) P:=Ok.gdk h k
theorem oD{α:Type}{p:Prop}[Decidable p]{a b:Option α}{P:α→Prop}(ht:p→Ok a P)(hf: ¬p→Ok b P):Ok (Go.Proofs.YtpioomclpaiomaaGreat.sw (decide p) a b) P:=Ok.swd ht hf
theorem oN{α:Type}{p:Prop}[Decidable p]{a b:Option α}{P:α→Prop}(ht: ¬p→Ok a P)(hf:p→Ok b P):Ok (Go.Proofs.YtpioomclpaiomaaGreat.sw (!decide p) a b) P:=Ok.swn ht hf
theorem oW{α:Type}{x:Bool}{a b:Option α}{P:α→Prop}(ht:x=false→Ok a P)(hf:x=true→Ok b P):Ok (Go.Proofs.YtpioomclpaiomaaGreat.sw (!x) a b) P:=Ok.swb ht hf
theorem oC{α:Type}{c:Bool}{a b:Option α}{P:α→Prop}(ht:c=true→Ok a P)(hf:c=false→Ok b P):Ok (Go.Proofs.YtpioomclpaiomaaGreat.sw c a b) P:=Ok.sw ht hf
theorem oB{α β:Type}{o:Option α}{f:α→Option β}{Q:α→Prop}{P:β→Prop}(h:Ok o Q)(k: ∀a,Q a→Ok (f a) P):Ok (Go.Proofs.YtpioomclpaiomaaGreat.bd o f) P:=Ok.bd h k
theorem J5{α β:Type}{o:Option α}{f:α→Option β}{Q1 Q2:α→Prop}{P:β→Prop}(h:Ok o (fun r=>Q1 r∧Q2 r))(k: ∀a,Q1 a→Q2 a→Ok (f a) P):Ok (Go.Proofs.YtpioomclpaiomaaGreat.bd o f) P:=Ok.bd h fun a q=>k a q.1 q.2
theorem rV{A B β:Type}{o:Option (A×B)}{f:A×B→Option β}{Q:A×B→Prop}{P:β→Prop}(h:Ok o Q)(k: ∀a b,Q (a,b)→Ok (f (a,b)) P):Ok (Go.Proofs.YtpioomclpaiomaaGreat.bd o f) P:=Ok.bd h fun _ q=>k _ _ q
theorem oB4{A B C D β:Type}{o:Option (A×B×C×D)}{f:A×B×C×D→Option β}{Q:A×B×C×D→Prop}{P:β→Prop}(h:Ok o Q)(k: ∀a b c d,Q (a,b,c,d)→Ok (f (a,b,c,d)) P):Ok (Go.Proofs.YtpioomclpaiomaaGreat.bd o f) P:=Ok.bd h fun _ q=>k _ _ _ _ q
theorem oB6{A B C D E F β:Type}{o:Option (A×B×C×D×E×F)}{f:A×B×C×D×E×F→Option β}{Q:A×B×C×D×E×F→Prop}{P:β→Prop}(h:Ok o Q)(k: ∀a b c d e g,Q (a,b,c,d,e,g)→Ok (f (a,b,c,d,e,g)) P):Ok (Go.Proofs.YtpioomclpaiomaaGreat.bd o f) P:=Ok.bd h fun _ q=>k _ _ _ _ _ _ q
theorem oS{α:Type}{P:α→Prop}{a:α}(h:P a:=by first|trivial|omega|(dsimp only;omega)):Ok (Option.some a) P:=⟨a,rfl,h⟩
theorem lU{σ β:Type}{N E:σ→Prop}{Q:β→Prop}{s:σ}(h:N s:=by first|trivial|omega|(dsimp only;omega)):Ok (Option.some (LR.next s)) (PL Q N E):=⟨_,rfl,h⟩
theorem oK{σ β:Type}{N E:σ→Prop}{Q:β→Prop}{s:σ}(h:E s:=by first|trivial|omega|(dsimp only;omega)):Ok (Option.some (LR.brk s)) (PL Q N E):=⟨_,rfl,h⟩
theorem oR{σ β:Type}{N E:σ→Prop}{Q:β→Prop}{x:β}(h:Q x:=by first|trivial|omega|(dsimp only;omega)):Ok (Option.some (LR.ret (σ:=σ) x)) (PL Q N E):=⟨_,rfl,h⟩
theorem oL{σ β:Type}{E:σ→Prop}{Q:β→Prop}{x:β}(h:Q x:=by first|trivial|omega|(dsimp only;omega)):Ok (Option.some (Sum.inl (β:=σ) x)) (PS Q E):=⟨_,rfl,h⟩
theorem oI{σ β:Type}{E:σ→Prop}{Q:β→Prop}{s:σ}(h:E s:=by first|trivial|omega|(dsimp only;omega)):Ok (Option.some (Sum.inr (α:=β) s)) (PS Q E):=⟨_,rfl,h⟩
theorem zP{σ β:Type}{o:Option (β⊕σ)}{f:σ→Option β}{P:β→Prop}(h:Ok o (PS P fun _=>True))(k: ∀s,True→Ok (f s) P):Ok (Go.Proofs.YtpioomclpaiomaaGreat.so o f) P:=Ok.sok h k
theorem oEN{σ β:Type}{n i0:Nat}{s0:σ}{F:Nat→σ→Option (LR σ β)}{f:σ→Option β}{P:β→Prop}(hs: ∀i s,i<n→Ok (F i s) (PL P (fun _=>True) (fun _=>True)))(k: ∀s,True→Ok (f s) P):Ok (Go.Proofs.YtpioomclpaiomaaGreat.so (Go.Proofs.YtpioomclpaiomaaGreat.loopN F (n-i0) i0 s0) f) P:=Ok.sok (Ok.loop1 hs) k
theorem DJ{A B β:Type}[Wt A][Wt B][Inhabited A]{F:Nat→List B→Option (LR (List B) β)}{f:List B→Option β}{i0:Nat}{v0:List B}{Q:β→Prop}(L:List A)(c:Nat)
 (hs: ∀i v,i<L.length→wl v+c*wl (List.take i0 L)≤wl v0+c*wl (List.take i L)→wl (L.take (i+1))=wl (L.take i)+wt (a5 L i)+1→wl (L.take (i+1))≤wl L→
  Ok (F i v) (PL Q (fun v=>wl v+c*wl (List.take i0 L)≤wl v0+c*wl (List.take (i+1) L)) (fun v=>wl v+c*wl (List.take i0 L)≤wl v0+c*wl L)))
 (k: ∀v,wl v+c*wl (List.take i0 L)≤wl v0+c*wl L→Ok (f v) Q):Ok (Go.Proofs.YtpioomclpaiomaaGreat.so (Go.Proofs.YtpioomclpaiomaaGreat.loopN F (L.length-i0) i0 v0) f) Q:=
 Ok.sok (Ok.loopN0 (fun i v=>wl v+c*wl (List.take i0 L)≤wl v0+c*wl (List.take i L)) (Nat.le_refl _) (fun i v _ h=>Nat.le_trans h (Nat.add_le_add_left (Nat.mul_le_mul_left _ (l8 L i)) _)) (fun i v hi h=>hs i v hi h (mC L i hi) (l8 L _))) k
theorem afO{A B β:Type}[Wt A][Wt B][Inhabited A]{F:Nat→List B→Option (LR (List B) β)}{f:List B→Option β}{i0:Nat}{Q:β→Prop}{PA:B→Prop}(L:List A)(c:Nat)
 (hs: ∀i v,i<L.length→wl v+c*wl (List.take i0 L)≤wl ([]:List B)+c*wl (List.take i L)→(∀a∈v,PA a)→wl (L.take (i+1))=wl (L.take i)+wt (a5 L i)+1→wl (L.take (i+1))≤wl L→
  Ok (F i v) (PL Q (fun v=>wl v+c*wl (List.take i0 L)≤wl ([]:List B)+c*wl (List.take (i+1) L)∧ ∀a∈v,PA a) (fun v=>wl v+c*wl (List.take i0 L)≤wl ([]:List B)+c*wl L∧ ∀a∈v,PA a)))
 (k: ∀v,(wl v+c*wl (List.take i0 L)≤wl ([]:List B)+c*wl L∧ ∀a∈v,PA a)→Ok (f v) Q):Ok (Go.Proofs.YtpioomclpaiomaaGreat.so (Go.Proofs.YtpioomclpaiomaaGreat.loopN F (L.length-i0) i0 []) f) Q:=
 Ok.sok (Ok.loopN0 (fun i v=>wl v+c*wl (List.take i0 L)≤wl ([]:List B)+c*wl (List.take i L)∧ ∀a∈v,PA a) ⟨Nat.le_refl _,by simp⟩ (fun i v _ h=>⟨Nat.le_trans h.1 (Nat.add_le_add_left (Nat.mul_le_mul_left _ (l8 L i)) _),h.2⟩) (fun i v hi h=>hs i v hi h.1 h.2 (mC L i hi) (l8 L _))) k
instance:Wt aB:=⟨fun x=>Tr.bulkL (aB.tr x)⟩
instance:Wt aA:=⟨fun x=>Tr.bulkL (aA.tr x)⟩
instance:Wt aG:=⟨fun x=>Tr.bulkL (aG.tr x)⟩
instance:Wt bC:=⟨fun x=>Tr.bulkL (bC.tr x)⟩
instance:Wt aJ:=⟨fun x=>Tr.bulkL (aJ.tr x)⟩
instance:Wt aR:=⟨fun x=>Tr.bulkL (aR.tr x)⟩
instance:Wt aN:=⟨fun x=>Tr.bulkL (aN.tr x)⟩
instance:Wt aC:=⟨fun x=>Tr.bulkL (aC.tr x)⟩
instance:Wt aD:=⟨fun x=>Tr.bulkL (aD.tr x)⟩
instance:Wt aP:=⟨fun x=>Tr.bulkL (aP.tr x)⟩
instance:Wt aI:=⟨fun x=>Tr.bulkL (aI.tr x)⟩
instance:Wt aH:=⟨fun x=>Tr.bulkL (aH.tr x)⟩
instance:Wt aL:=⟨fun x=>Tr.bulkL (aL.tr x)⟩
instance:Wt aK:=⟨fun x=>Tr.bulkL (aK.tr x)⟩
instance:Wt aM:=⟨fun x=>Tr.bulkL (aM.tr x)⟩
theorem aB.wl_bulk(l:List aB):wl l=l.length+Tr.bulkAll (aB.trs l):=by
 induction l with
 |nil=>rw [aB.bks_nil];rfl
 |cons a l ih=>
  rw [aB.bks_cons]
  simp only [wl,List.length_cons,ih]
  show Tr.bulkL (aB.tr a)+1+_=_
  omega
theorem aA.wl_bulk(l:List aA):wl l=l.length+Tr.bulkAll (aA.trs l):=by
 induction l with
 |nil=>rw [aA.bks_nil];rfl
 |cons a l ih=>
  rw [aA.bks_cons]
  simp only [wl,List.length_cons,ih]
  show Tr.bulkL (aA.tr a)+1+_=_
  omega
theorem aG.wl_bulk(l:List aG):wl l=l.length+Tr.bulkAll (aG.trs l):=by
 induction l with
 |nil=>rw [aG.bks_nil];rfl
 |cons a l ih=>
  rw [aG.bks_cons]
  simp only [wl,List.length_cons,ih]
  show Tr.bulkL (aG.tr a)+1+_=_
  omega
theorem bC.wl_bulk(l:List bC):wl l=l.length+Tr.bulkAll (bC.trs l):=by
 induction l with
 |nil=>rw [bC.bks_nil];rfl
 |cons a l ih=>
  rw [bC.bks_cons]
  simp only [wl,List.length_cons,ih]
  show Tr.bulkL (bC.tr a)+1+_=_
  omega
theorem aJ.wl_bulk(l:List aJ):wl l=l.length+Tr.bulkAll (aJ.trs l):=by
 induction l with
 |nil=>rw [aJ.bks_nil];rfl
 |cons a l ih=>
  rw [aJ.bks_cons]
  simp only [wl,List.length_cons,ih]
  show Tr.bulkL (aJ.tr a)+1+_=_
  omega
theorem aR.wl_bulk(l:List aR):wl l=l.length+Tr.bulkAll (aR.trs l):=by
 induction l with
 |nil=>rw [aR.bks_nil];rfl
 |cons a l ih=>
  rw [aR.bks_cons]
  simp only [wl,List.length_cons,ih]
  show Tr.bulkL (aR.tr a)+1+_=_
  omega
theorem aN.wl_bulk(l:List aN):wl l=l.length+Tr.bulkAll (aN.trs l):=by
 induction l with
 |nil=>rw [aN.bks_nil];rfl
 |cons a l ih=>
  rw [aN.bks_cons]
  simp only [wl,List.length_cons,ih]
  show Tr.bulkL (aN.tr a)+1+_=_
  omega
theorem aC.wl_bulk(l:List aC):wl l=l.length+Tr.bulkAll (aC.trs l):=by
 induction l with
 |nil=>rw [aC.bks_nil];rfl
 |cons a l ih=>
  rw [aC.bks_cons]
  simp only [wl,List.length_cons,ih]
  show Tr.bulkL (aC.tr a)+1+_=_
  omega
theorem aD.wl_bulk(l:List aD):wl l=l.length+Tr.bulkAll (aD.trs l):=by
 induction l with
 |nil=>rw [aD.bks_nil];rfl
 |cons a l ih=>
  rw [aD.bks_cons]
  simp only [wl,List.length_cons,ih]
  show Tr.bulkL (aD.tr a)+1+_=_
  omega
theorem aP.wl_bulk(l:List aP):wl l=l.length+Tr.bulkAll (aP.trs l):=by
 induction l with
 |nil=>rw [aP.bks_nil];rfl
 |cons a l ih=>
  rw [aP.bks_cons]
  simp only [wl,List.length_cons,ih]
  show Tr.bulkL (aP.tr a)+1+_=_
  omega
theorem aI.wl_bulk(l:List aI):wl l=l.length+Tr.bulkAll (aI.trs l):=by
 induction l with
 |nil=>rw [aI.bks_nil];rfl
 |cons a l ih=>
  rw [aI.bks_cons]
  simp only [wl,List.length_cons,ih]
  show Tr.bulkL (aI.tr a)+1+_=_
  omega
theorem aH.wl_bulk(l:List aH):wl l=l.length+Tr.bulkAll (aH.trs l):=by
 induction l with
 |nil=>rw [aH.bks_nil];rfl
 |cons a l ih=>
  rw [aH.bks_cons]
  simp only [wl,List.length_cons,ih]
  show Tr.bulkL (aH.tr a)+1+_=_
  omega
theorem aL.wl_bulk(l:List aL):wl l=l.length+Tr.bulkAll (aL.trs l):=by
 induction l with
 |nil=>rw [aL.bks_nil];rfl
 |cons a l ih=>
  rw [aL.bks_cons]
  simp only [wl,List.length_cons,ih]
  show Tr.bulkL (aL.tr a)+1+_=_
  omega
theorem aK.wl_bulk(l:List aK):wl l=l.length+Tr.bulkAll (aK.trs l):=by
 induction l with
 |nil=>rw [aK.bks_nil];rfl
 |cons a l ih=>
  rw [aK.bks_cons]
  simp only [wl,List.length_cons,ih]
  show Tr.bulkL (aK.tr a)+1+_=_
  omega
theorem aB.wt_mk(v0:Int)(v1:ByteArray)(v2:List aB):wt (aB.mk v0 v1 v2)=v1.size+wl v2:=by
 show Tr.bulkL (aB.tr (.mk v0 v1 v2))=_
 rw [aB.bk_mk]
 simp only [aB.wl_bulk]
 try rfl
theorem aB.wt_eq(x:aB):wt x=x.gName.size+wl x.gArgs:=by
 obtain⟨v0,v1,v2⟩:=x
 exact aB.wt_mk v0 v1 v2
theorem aA.wt_mk(v0:ByteArray)(v1:List aA):wt (aA.mk v0 v1)=v0.size+wl v1:=by
 show Tr.bulkL (aA.tr (.mk v0 v1))=_
 rw [aA.bk_mk]
 simp only [aA.wl_bulk]
 try rfl
theorem aA.wt_eq(x:aA):wt x=x.gAtom.size+wl x.gList:=by
 obtain⟨v0,v1⟩:=x
 exact aA.wt_mk v0 v1
theorem aG.wt_mk(v0:Int)(v1:ByteArray)(v2:ByteArray)(v3:Int)(v4:aB)(v5:List aG)(v6:List bC):wt (aG.mk v0 v1 v2 v3 v4 v5 v6)=v1.size+v2.size+wt v4+wl v5+wl v6:=by
 show Tr.bulkL (aG.tr (.mk v0 v1 v2 v3 v4 v5 v6))=_
 rw [aG.bk_mk]
 simp only [aG.wl_bulk,bC.wl_bulk]
 try rfl
theorem aG.wt_eq(x:aG):wt x=x.gTrait.size+x.gName.size+wt x.gType+wl x.gArgs+wl x.gArms:=by
 obtain⟨v0,v1,v2,v3,v4,v5,v6⟩:=x
 exact aG.wt_mk v0 v1 v2 v3 v4 v5 v6
theorem bC.wt_mk(v0:ByteArray)(v1:List ByteArray)(v2:aG):wt (bC.mk v0 v1 v2)=v0.size+wl v1+wt v2:=by
 show Tr.bulkL (bC.tr (.mk v0 v1 v2))=_
 rw [bC.bk_mk]
 simp only [A2]
 try rfl
theorem bC.wt_eq(x:bC):wt x=x.gConstructor.size+wl x.gVars+wt x.gBody:=by
 obtain⟨v0,v1,v2⟩:=x
 exact bC.wt_mk v0 v1 v2
theorem aJ.wt_mk(v0:ByteArray)(v1:aB):wt (aJ.mk v0 v1)=v0.size+wt v1:=by
 show Tr.bulkL (aJ.tr (.mk v0 v1))=_
 rw [aJ.bk_mk]
 try rfl
theorem aJ.wt_eq(x:aJ):wt x=x.gTrait.size+wt x.gType:=by
 obtain⟨v0,v1⟩:=x
 exact aJ.wt_mk v0 v1
theorem aR.wt_mk(v0:ByteArray)(v1:aB):wt (aR.mk v0 v1)=v0.size+wt v1:=by
 show Tr.bulkL (aR.tr (.mk v0 v1))=_
 rw [aR.bk_mk]
 try rfl
theorem aR.wt_eq(x:aR):wt x=x.gName.size+wt x.gType:=by
 obtain⟨v0,v1⟩:=x
 exact aR.wt_mk v0 v1
theorem aN.wt_mk(v0:ByteArray)(v1:List ByteArray)(v2:aG):wt (aN.mk v0 v1 v2)=v0.size+wl v1+wt v2:=by
 show Tr.bulkL (aN.tr (.mk v0 v1 v2))=_
 rw [aN.bk_mk]
 simp only [A2]
 try rfl
theorem aN.wt_eq(x:aN):wt x=x.gName.size+wl x.gVars+wt x.gBody:=by
 obtain⟨v0,v1,v2⟩:=x
 exact aN.wt_mk v0 v1 v2
theorem aC.wt_mk(v0:ByteArray)(v1:List aB):wt (aC.mk v0 v1)=v0.size+wl v1:=by
 show Tr.bulkL (aC.tr (.mk v0 v1))=_
 rw [aC.bk_mk]
 simp only [aB.wl_bulk]
 try rfl
theorem aC.wt_eq(x:aC):wt x=x.gName.size+wl x.gFields:=by
 obtain⟨v0,v1⟩:=x
 exact aC.wt_mk v0 v1
theorem aD.wt_mk(v0:ByteArray)(v1:List aB)(v2:aB)(v3:Bool)(v4:List ByteArray)(v5:aG):wt (aD.mk v0 v1 v2 v3 v4 v5)=v0.size+wl v1+wt v2+wl v4+wt v5:=by
 show Tr.bulkL (aD.tr (.mk v0 v1 v2 v3 v4 v5))=_
 rw [aD.bk_mk]
 simp only [aB.wl_bulk,A2]
 try rfl
theorem aD.wt_eq(x:aD):wt x=x.gName.size+wl x.gParams+wt x.gResult+wl x.gVars+wt x.gBody:=by
 obtain⟨v0,v1,v2,v3,v4,v5⟩:=x
 exact aD.wt_mk v0 v1 v2 v3 v4 v5
theorem aP.wt_mk(v0:ByteArray)(v1:List ByteArray)(v2:Bool)(v3:Bool)(v4:List aD):wt (aP.mk v0 v1 v2 v3 v4)=v0.size+wl v1+wl v4:=by
 show Tr.bulkL (aP.tr (.mk v0 v1 v2 v3 v4))=_
 rw [aP.bk_mk]
 simp only [A2,aD.wl_bulk]
 try rfl
theorem aP.wt_eq(x:aP):wt x=x.gName.size+wl x.gSupertraits+wl x.gSignatures:=by
 obtain⟨v0,v1,v2,v3,v4⟩:=x
 exact aP.wt_mk v0 v1 v2 v3 v4
theorem aI.wt_mk(v0:ByteArray)(v1:List ByteArray)(v2:List aC):wt (aI.mk v0 v1 v2)=v0.size+wl v1+wl v2:=by
 show Tr.bulkL (aI.tr (.mk v0 v1 v2))=_
 rw [aI.bk_mk]
 simp only [A2,aC.wl_bulk]
 try rfl
theorem aI.wt_eq(x:aI):wt x=x.gName.size+wl x.gVars+wl x.gConstructors:=by
 obtain⟨v0,v1,v2⟩:=x
 exact aI.wt_mk v0 v1 v2
theorem aH.wt_mk(v0:ByteArray)(v1:List ByteArray)(v2:aB)(v3:List aJ)(v4:Bool)(v5:Bool)(v6:aB)(v7:List aN):wt (aH.mk v0 v1 v2 v3 v4 v5 v6 v7)=v0.size+wl v1+wt v2+wl v3+wt v6+wl v7:=by
 show Tr.bulkL (aH.tr (.mk v0 v1 v2 v3 v4 v5 v6 v7))=_
 rw [aH.bk_mk]
 simp only [A2,aJ.wl_bulk,aN.wl_bulk]
 try rfl
theorem aH.wt_eq(x:aH):wt x=x.gTrait.size+wl x.gVars+wt x.gHead+wl x.gWhere+wt x.gAssoc+wl x.gMethods:=by
 obtain⟨v0,v1,v2,v3,v4,v5,v6,v7⟩:=x
 exact aH.wt_mk v0 v1 v2 v3 v4 v5 v6 v7
theorem aL.wt_mk(v0:ByteArray)(v1:List ByteArray)(v2:List aJ)(v3:List aR)(v4:aB)(v5:aG):wt (aL.mk v0 v1 v2 v3 v4 v5)=v0.size+wl v1+wl v2+wl v3+wt v4+wt v5:=by
 show Tr.bulkL (aL.tr (.mk v0 v1 v2 v3 v4 v5))=_
 rw [aL.bk_mk]
 simp only [A2,aJ.wl_bulk,aR.wl_bulk]
 try rfl
theorem aL.wt_eq(x:aL):wt x=x.gName.size+wl x.gVars+wl x.gWhere+wl x.gParams+wt x.gResult+wt x.gBody:=by
 obtain⟨v0,v1,v2,v3,v4,v5⟩:=x
 exact aL.wt_mk v0 v1 v2 v3 v4 v5
theorem aK.wt_mk(v0:ByteArray)(v1:List ByteArray)(v2:List aP)(v3:List aI)(v4:List aH)(v5:List aL):wt (aK.mk v0 v1 v2 v3 v4 v5)=v0.size+wl v1+wl v2+wl v3+wl v4+wl v5:=by
 show Tr.bulkL (aK.tr (.mk v0 v1 v2 v3 v4 v5))=_
 rw [aK.bk_mk]
 simp only [A2,aP.wl_bulk,aI.wl_bulk,aH.wl_bulk,aL.wl_bulk]
 try rfl
theorem aK.wt_eq(x:aK):wt x=x.gName.size+wl x.gDeps+wl x.gTraits+wl x.gDataTypes+wl x.gInstances+wl x.gFunctions:=by
 obtain⟨v0,v1,v2,v3,v4,v5⟩:=x
 exact aK.wt_mk v0 v1 v2 v3 v4 v5
theorem aM.wt_mk(v0:List aK):wt (aM.mk v0)=wl v0:=by
 show Tr.bulkL (aM.tr (.mk v0))=_
 rw [aM.bk_mk]
 simp only [aK.wl_bulk]
 try rfl
theorem aM.wt_eq(x:aM):wt x=wl x.gPackages:=by
 obtain⟨v0⟩:=x
 exact aM.wt_mk v0
end Go.Proofs.YtpioomclpaiomaaGreat

namespace Go.Proofs.YtpioomclpaiomaaGreat.W
set_option linter.unusedSimpArgs false
set_option linter.unusedVariables false
set_option maxRecDepth 20000
set_option maxHeartbeats 4000000
open Go.RowKit Go.WalkArith Go.IntWalk
def PQ(fu:Nat):Prop:= ∀(px:UInt8),Ok (B6 fu px) (fun _=>True)
theorem CA:b6 PQ:=(b6.ge 2147483648).imp fun fu hfu px=>by
 refine oD (fun g1=>?_) fun g1=>?_
 ·refine oD (fun _=>oS) fun g2=>?_;refine oD (fun g3=>?_) fun g3=>?_
  ·exact oD (fun _=>oS) fun g4=>oD (fun _=>oS) fun g5=>oD (fun _=>oS) fun g6=>oD (fun _=>oS) fun g7=>oD (fun _=>oS) fun g8=>oD (fun _=>oS) fun g9=>oD (fun _=>oS) fun g10=>oS
  exact oD (fun _=>oS) fun g11=>oD (fun _=>oS) fun g12=>oD (fun _=>oS) fun g13=>oD (fun _=>oS) fun g14=>oD (fun _=>oS) fun g15=>oD (fun _=>oS) fun g16=>oS
 refine oD (fun g17=>?_) fun g17=>?_
 ·exact oD (fun _=>oS) fun g18=>oD (fun _=>oS) fun g19=>oD (fun _=>oS) fun g20=>oD (fun _=>oS) fun g21=>oD (fun _=>oS) fun g22=>oD (fun _=>oS) fun g23=>oD (fun _=>oS) fun g24=>oS
 exact oD (fun _=>oS) fun g25=>oD (fun _=>oS) fun g26=>oD (fun _=>oS) fun g27=>oD (fun _=>oS) fun g28=>oD (fun _=>oS) fun g29=>oD (fun _=>oS) fun g30=>oS
def aa9(fu:Nat):Prop:= ∀(px plo phi:Int),Ok (nX fu px plo phi) (fun _=>True)
theorem n9:b6 aa9:=(b6.ge 2147483648).imp fun fu hfu px plo phi=>by
 exact oD (fun _=>oS) fun g1=>oS
def A0(fu:Nat):Prop:= ∀(ps:ByteArray),ps.size≤1073741824→Ok (uK fu ps) (fun _=>True)
theorem nP:b6 A0:=(((b6.ge 2147483648).and CA).and n9).imp fun fu ⟨⟨hfu,CA⟩,n9⟩ ps hpre=>by
 refine zP ?_ ?_
 ·refine Ok.loop1 ?_;rintro i1 ⟨⟩ hl2
  exact oG fun z4=>oB (CA (y2 ps i1)) fun x6 _=>oW (fun _=>oR) fun g6=>lU
 rintro⟨⟩-
 exact oB (n9 ((ps.size:Nat):Int) 1 12) fun x9 _=>oS
def acB(fu:Nat):Prop:= ∀(px:aA) (pleft:Int),wt px≤1073741824→Ok (m3 fu px pleft) (fun _=>True)
def HN(n:Nat)(m:rR):Prop:= ∀(px:aA) (pleft:Int),wt px<n→wt px≤1073741824→Ok (m px pleft) (fun _=>True)
theorem ZB{n fu:Nat}(hfu:2147483648≤fu){r_sl2Left:rR}(h_sl2Left:HN n r_sl2Left):HN (n+1) (I2 fu r_sl2Left):=by
 intro px pleft hm hpre
 refine oEN (fun i1 v2 hl2=>?_) ?_
 ·have:=aA.wt_eq px
  have:=aV px.gList
  refine oD (fun g4=>?_) fun g4=>?_
  ·have:=cE px.gList i1 hl2
   exact oB (h_sl2Left (a5 px.gList i1) v2 bM bM) fun x7 _=>lU
  exact oK
 intro v2 _
 exact oS
theorem acJ(n:Nat):b6 fun fu=>HN n (m3 fu):=by
 induction n with
 |zero=>exact .all fun fu=>fun _ _ h=>absurd h (Nat.not_lt_zero _)
 |succ n ih=>exact b6.succ ((ih.and (b6.ge 2147483648)).imp fun fu ⟨h,hfu⟩=>fun px pleft=>by rw [m3];exact ZB hfu h px pleft)
theorem I0:b6 acB:=(acJ 8589934592).imp fun fu h px pleft hpre=>h px pleft bM hpre
def abQ(fu:Nat):Prop:= ∀(px:aA),wt px≤1073741824→Ok (mX fu px) (fun _=>True)
def H8(n:Nat)(m:r9):Prop:= ∀(px:aA),wt px<n→wt px≤1073741824→Ok (m px) (fun _=>True)
theorem ZC{n fu:Nat}(hfu:2147483648≤fu)(nP:A0 fu){r_sl2Form:r9}(h_sl2Form:H8 n r_sl2Form):H8 (n+1) (JA fu r_sl2Form):=by
 intro px hm hpre
 have:=aA.wt_eq px
 have:s_.size=0:=rfl
 refine oN (fun g1=>?_) fun g1=>?_
 ·have:=A9 g1
  exact oB (nP px.gAtom bM) fun x3 _=>oC (fun _=>oS) fun g3=>oS
 refine zP ?_ ?_
 ·refine Ok.loop1 ?_;rintro i5 ⟨⟩ hl5
  have:=aV px.gList
  have:=cE px.gList i5 hl5
  exact oB (h_sl2Form (a5 px.gList i5) bM bM) fun x9 _=>oW (fun _=>oR) fun g8=>lU
 rintro⟨⟩-
 exact oS
theorem abT(n:Nat):b6 fun fu=>H8 n (mX fu):=by
 induction n with
 |zero=>exact .all fun fu=>fun _ h=>absurd h (Nat.not_lt_zero _)
 |succ n ih=>exact b6.succ ((ih.and ((b6.ge 2147483648).and nP)).imp fun fu ⟨h,⟨hfu,nP⟩⟩=>fun px=>by rw [mX];exact ZC hfu nP h px)
theorem IG:b6 abQ:=(abT 8589934592).imp fun fu h px hpre=>h px bM hpre
def NK(fu:Nat):Prop:= ∀(pa pb:Int),Ok (G8 fu pa pb) (fun _=>True)
theorem oV:b6 NK:=(b6.ge 2147483648).imp fun fu hfu pa pb=>by
 exact oD (fun _=>oS) fun g1=>oS
def O0(fu:Nat):Prop:= ∀(px:aA),wt px≤1073741824→Ok (gL fu px) (fun _=>True)
def wH(n:Nat)(m:kR):Prop:= ∀(px:aA),wt px<n→wt px≤1073741824→Ok (m px) (fun _=>True)
theorem MX{n fu:Nat}(hfu:2147483648≤fu)(oV:NK fu){r_sSExprDepth:kR}(h_sSExprDepth:wH n r_sSExprDepth):wH (n+1) (wK fu r_sSExprDepth):=by
 intro px hm hpre
 have:=aA.wt_eq px
 have:s_.size=0:=rfl
 refine oN (fun _=>oS) fun g1=>?_;refine oEN (fun i2 v3 hl3=>?_) ?_
 ·have:=aV px.gList
  have:=cE px.gList i2 hl3
  exact oB (h_sSExprDepth (a5 px.gList i2) bM bM) fun x7 _=>oB (oV v3 x7) fun x9 _=>lU
 intro v3 _
 exact oS
theorem OO(n:Nat):b6 fun fu=>wH n (gL fu):=by
 induction n with
 |zero=>exact .all fun fu=>fun _ h=>absurd h (Nat.not_lt_zero _)
 |succ n ih=>exact b6.succ ((ih.and ((b6.ge 2147483648).and oV)).imp fun fu ⟨h,⟨hfu,oV⟩⟩=>fun px=>by rw [gL];exact MX hfu oV h px)
theorem wJ:b6 O0:=(OO 8589934592).imp fun fu h px hpre=>h px bM hpre
def KM(fu:Nat):Prop:= ∀(px:aA),wt px≤1073741824→Ok (gA fu px) (fun _=>True)
theorem cI:b6 KM:=((((b6.ge 2147483648).and I0).and IG).and wJ).imp fun fu ⟨⟨⟨hfu,I0⟩,IG⟩,wJ⟩ px hpre=>by
 refine oB (I0 px 900 bM) fun x2 _=>?_;refine oD (fun g2=>?_) fun g2=>?_
 ·refine oB (IG px bM) fun x5 _=>?_;refine oC (fun g4=>?_) fun g4=>?_
  ·exact oB (wJ px bM) fun x8 _=>oS
  exact oS
 exact oS
def yR(fu:Nat):Prop:= ∀(plist:List aA),wl plist≤1073741824→Ok (uO fu plist) (fun r=>wl r.1≤wl plist)
theorem gD:b6 yR:=(b6.ge 2147483648).imp fun fu hfu plist hpre=>by
 have:=(aU:wl ([]:List ByteArray)=0∧_)
 refine DJ plist 1 (fun i1 v3 hl2 hI3 _ _=>?_) ?_
 ·have:=aV plist
  have:=cE plist i1 hl2
  have:=aA.wt_eq (a5 plist i1)
  have:s_.size=0:=rfl
  refine oD (fun _=>oR) fun g4=>?_
  have:=A9 g4
  have:=aV (v3)
  have:=b5 ((a5 plist i1).gAtom)
  have:=a3 ((a5 plist i1).gAtom)
  refine oG fun z5=>?_
  have:=bU v3 ([((a5 plist i1).gAtom)]:List ByteArray)
  exact lU
 intro v3 h1
 exact oS
def BT(fu:Nat):Prop:= ∀(ps:ByteArray),Ok (b7 fu ps) (fun r=>wt r=ps.size)
theorem bL:b6 BT:=(b6.ge 2147483648).imp fun fu hfu ps=>by
 have:=(aU:wl ([]:List aA)=0∧_)
 have:=aA.wt_mk ps []
 exact oS
def FP(fu:Nat):Prop:= ∀(plist:List ByteArray),wl plist≤1073741824→Ok (yH fu plist) (fun r=>wl r≤wl plist)
theorem kU:b6 FP:=((b6.ge 2147483648).and bL).imp fun fu ⟨hfu,bL⟩ plist hpre=>by
 have:=(aU:wl ([]:List aA)=0∧_)
 refine DJ plist 1 (fun i1 v3 hl2 hI3 _ _=>?_) ?_
 ·have:=aV plist
  have:=cE plist i1 hl2
  have:=a3 (a5 plist i1)
  refine oB (bL (a5 plist i1)) fun x7 h4=>?_
  have:=aV (v3)
  have:=b5 x7
  refine oG fun z5=>?_
  have:=bU v3 ([x7]:List aA)
  exact lU
 intro v3 h1
 exact oS
def PO(fu:Nat):Prop:= ∀(plist:List aA),wl plist≤1073741824→Ok (kB fu plist) (fun r=>wt r=wl plist)
theorem dX:b6 PO:=(b6.ge 2147483648).imp fun fu hfu plist hpre=>by
 have:=(aU:wl ([]:List aA)=0∧_)
 have:=aV (plist)
 refine oG fun z1=>?_
 have:s_.size=0:=rfl
 have:=bU ([]:List aA) plist
 have:=aA.wt_mk s_ (([])++plist)
 exact oS
def OT(fu:Nat):Prop:= ∀(pa pb:aA),wt pa≤1073741824→Ok (eW fu pa pb) (fun _=>True)
def wM(n:Nat)(m:kV):Prop:= ∀(pa pb:aA),wt pa<n→wt pa≤1073741824→Ok (m pa pb) (fun _=>True)
theorem M4{n fu:Nat}(hfu:2147483648≤fu){r_sEqualSExpr:kV}(h_sEqualSExpr:wM n r_sEqualSExpr):wM (n+1) (wG fu r_sEqualSExpr):=by
 intro pa pb hm hpre
 have:=aA.wt_eq pa
 have:=aA.wt_eq pb
 refine oN (fun _=>oS) fun g1=>?_
 have:=aV pa.gList
 have:=aV pb.gList
 refine oN (fun _=>oS) fun g2=>?_;refine zP ?_ ?_
 ·refine Ok.loop1 ?_;rintro i3 ⟨⟩ hl4
  have:=aV (pb.gList)
  refine oG fun z6=>?_
  have:=cE pa.gList i3 hl4
  have:=cE pb.gList i3 z6
  exact oB (h_sEqualSExpr (a5 pa.gList i3) (a5 pb.gList i3) bM bM) fun x8 _=>oW (fun _=>oR) fun g8=>lU
 rintro⟨⟩-
 exact oS
theorem OP(n:Nat):b6 fun fu=>wM n (eW fu):=by
 induction n with
 |zero=>exact .all fun fu=>fun _ _ h=>absurd h (Nat.not_lt_zero _)
 |succ n ih=>exact b6.succ ((ih.and (b6.ge 2147483648)).imp fun fu ⟨h,hfu⟩=>fun pa pb=>by rw [eW];exact M4 hfu h pa pb)
theorem fL:b6 OT:=(OP 8589934592).imp fun fu h pa pb hpre=>h pa pb bM hpre
end Go.Proofs.YtpioomclpaiomaaGreat.W

namespace Go.Proofs.YtpioomclpaiomaaGreat.W
set_option linter.unusedSimpArgs false
set_option linter.unusedVariables false
set_option maxRecDepth 20000
set_option maxHeartbeats 4000000
open Go.RowKit Go.WalkArith Go.IntWalk
def MJ(fu:Nat):Prop:= ∀(plist:List ByteArray) (ps:ByteArray),Ok (lO fu plist ps) (fun _=>True)
theorem c4:b6 MJ:=(b6.ge 2147483648).imp fun fu hfu plist ps=>by
 refine zP ?_ ?_
 ·refine Ok.loop1 ?_;rintro i1 ⟨⟩ hl2
  have:=aV plist
  exact oD (fun _=>oR) fun g4=>lU
 rintro⟨⟩-
 exact oS
def OI(fu:Nat):Prop:= ∀(ps:ByteArray),Ok (wL fu ps) (fun _=>True)
theorem wN:b6 OI:=((b6.ge 2147483648).and c4).imp fun fu ⟨hfu,c4⟩ ps=>by
 have:e7.size=3:=rfl
 have:eO.size=4:=rfl
 have:gM.size=5:=rfl
 have:tU.size=3:=rfl
 have:y1.size=2:=rfl
 have:zK.size=3:=rfl
 have:tC.size=4:=rfl
 have:zJ.size=3:=rfl
 have:mM.size=6:=rfl
 have:tP.size=4:=rfl
 have:nC.size=4:=rfl
 have:jX.size=5:=rfl
 have:wl ([e7,eO,gM,tU,y1,zK,tC,zJ,mM,tP,nC,jX]:List ByteArray)=58:=rfl
 exact oB (c4 ([e7,eO,gM,tU,y1,zK,tC,zJ,mM,tP,nC,jX]:List ByteArray) ps) fun x2 _=>oS
def uM(fu:Nat):Prop:= ∀(ps:ByteArray),Ok (c5 fu ps) (fun _=>True)
theorem bG:b6 uM:=(((b6.ge 2147483648).and n9).and wN).imp fun fu ⟨⟨hfu,n9⟩,wN⟩ ps=>by
 refine oB (n9 ((ps.size:Nat):Int) 1 8) fun x2 _=>oW (fun _=>oS) fun g2=>oB (wN ps) fun x5 _=>oC (fun _=>oS) fun g4=>?_;refine zP ?_ ?_
 ·refine Ok.loop1 ?_;rintro i7 ⟨⟩ hl6
  refine oG fun z8=>?_;refine oD (fun g9=>?_) fun g9=>?_
  ·refine oW (fun g10=>?_) fun g10=>?_
   ·exact oD (fun _=>oR) fun g11=>oD (fun _=>oR) fun g12=>oD (fun _=>oR) fun g13=>lU
   exact lU
  exact oD (fun _=>oR) fun g14=>oD (fun _=>oR) fun g15=>oD (fun _=>oR) fun g16=>lU
 rintro⟨⟩-
 exact oS
def M3(fu:Nat):Prop:= ∀(plist:List ByteArray),Ok (xW fu plist) (fun _=>True)
theorem nS:b6 M3:=((b6.ge 2147483648).and bG).imp fun fu ⟨hfu,bG⟩ plist=>by
 refine zP ?_ ?_
 ·refine Ok.loop1 ?_;rintro i1 ⟨⟩ hl2
  have:=aV plist
  have:=cE plist i1 hl2
  have:=a3 (a5 plist i1)
  exact oB (bG (a5 plist i1)) fun x5 _=>oW (fun _=>oR) fun g5=>lU
 rintro⟨⟩-
 exact oS
def BA(fu:Nat):Prop:= ∀(plist:List ByteArray),Ok (iJ fu plist) (fun _=>True)
theorem dU:b6 BA:=((b6.ge 2147483648).and c4).imp fun fu ⟨hfu,c4⟩ plist=>by
 refine zP ?_ ?_
 ·refine Ok.loop1 ?_;rintro i1 ⟨⟩ hl2
  have:=aV plist
  refine oG fun z4=>?_
  have:=LZ (0:Int).toNat (((i1:Nat):Int):Int).toNat plist
  have:=cE plist i1 hl2
  have:=a3 (a5 plist i1)
  exact oB (c4 (List.drop (0:Int).toNat (List.take (((i1:Nat):Int):Int).toNat plist)) (a5 plist i1)) fun x6 _=>oC (fun _=>oR) fun g6=>lU
 rintro⟨⟩-
 exact oS
def MY(fu:Nat):Prop:= ∀(ps:ByteArray),Ok (lL fu ps) (fun r=>wt r=ps.size)
theorem eI:b6 MY:=(b6.ge 2147483648).imp fun fu hfu ps=>by
 have:=(aU:wl ([]:List aB)=0∧_)
 have:=aB.wt_mk 1 ps []
 exact oS
def NR(fu:Nat):Prop:= ∀(ps:ByteArray) (pargs:List aB),ps.size+wl pargs≤1073741824→Ok (iX fu ps pargs) (fun r=>wt r=ps.size+wl pargs)
theorem dO:b6 NR:=(b6.ge 2147483648).imp fun fu hfu ps pargs hpre=>by
 have:=(aU:wl ([]:List aB)=0∧_)
 have:=aV (pargs)
 refine oG fun z1=>?_
 have:=bU ([]:List aB) pargs
 have:=aB.wt_mk 2 ps (([])++pargs)
 exact oS
def RY(fu:Nat):Prop:= ∀(pa0:aB),wt pa0≤67108864→Ok (kK fu pa0) (fun r=>wt r+1≤8*(wt pa0+1))
def Q5(n:Nat)(m:t5):Prop:= ∀(pa0:aB),wt pa0<n→wt pa0≤67108864→Ok (m pa0) (fun r=>wt r+1≤8*(wt pa0+1))
theorem aeG{n fu:Nat}(hfu:2147483648≤fu)(bL:BT fu)(dX:PO fu){r_sl5Sx:t5}(h_sl5Sx:Q5 n r_sl5Sx):Q5 (n+1) (SB fu r_sl5Sx):=by
 intro pa0 hm hpre
 refine zP ?_ ?_
 ·have:=aB.wt_eq pa0
  refine oD (fun g2=>?_) fun g2=>?_
  ·have:ab6.size=1:=rfl
   refine oG fun z3=>?_
   have:=eG ab6 pa0.gName
   exact oB (bL (ab6++pa0.gName)) fun x4 h4=>oL
  refine oD (fun g5=>?_) fun g5=>?_
  ·have:tU.size=3:=rfl
   refine oB (bL tU) fun x7 h6=>oB (bL pa0.gName) fun x9 h7=>?_
   have:=iY x7 x9
   exact oB (dX ([x7,x9]:List aA) bM) fun x11 h8=>oL
  refine oD (fun g9=>?_) fun g9=>?_
  ·have:=aV pa0.gArgs
   refine oD (fun g10=>?_) fun g10=>?_
   ·exact oB (bL pa0.gName) fun x15 h11=>oL
   exact oI
  exact oI
 rintro⟨⟩-
 refine Ok.sok (E:=fun v17=>wl v17≤6) ?_ ?_
 ·have:=aB.wt_eq pa0
  refine oD (fun g13=>?_) fun g13=>?_
  ·have:gM.size=5:=rfl
   refine oB (bL gM) fun x20 h14=>?_
   have:=(aU:wl ([]:List aA)=0∧_)
   have:=b5 x20
   refine oG fun z15=>?_
   have:=bU ([]:List aA) ([x20]:List aA)
   exact oI
  have:=(aU:wl ([]:List aA)=0∧_)
  exact oI
 intro v17 h12
 have:=aB.wt_eq pa0
 refine oB (bL pa0.gName) fun x23 h16=>?_
 have:=aV (v17)
 have:=b5 x23
 refine oG fun z17=>?_
 have:=bU v17 ([x23]:List aA)
 refine DJ pa0.gArgs 8 (fun i25 v27 hl19 hI20 _ _=>?_) ?_
 ·have:=aV pa0.gArgs
  have:=cE pa0.gArgs i25 hl19
  refine oB (h_sl5Sx (a5 pa0.gArgs i25) bM bM) fun x31 h21=>?_
  have:=aV (v27)
  have:=b5 x31
  refine oG fun z22=>?_
  have:=bU v27 ([x31]:List aA)
  exact lU
 intro v27 h18
 have:s_.size=0:=rfl
 have:=aA.wt_mk s_ v27
 exact oS
theorem af5(n:Nat):b6 fun fu=>Q5 n (kK fu):=by
 induction n with
 |zero=>exact .all fun fu=>fun _ h=>absurd h (Nat.not_lt_zero _)
 |succ n ih=>exact b6.succ ((ih.and (((b6.ge 2147483648).and bL).and dX)).imp fun fu ⟨h,⟨⟨hfu,bL⟩,dX⟩⟩=>fun pa0=>by rw [kK];exact aeG hfu bL dX h pa0)
theorem gI:b6 RY:=(af5 8589934592).imp fun fu h pa0 hpre=>h pa0 bM hpre
def ac3(fu:Nat):Prop:= ∀(pt:aB) (pleft:Int),wt pt≤1073741824→Ok (m6 fu pt pleft) (fun _=>True)
def IV(n:Nat)(m:rH):Prop:= ∀(pt:aB) (pleft:Int),wt pt<n→wt pt≤1073741824→Ok (m pt pleft) (fun _=>True)
theorem XS{n fu:Nat}(hfu:2147483648≤fu){r_sl4Left:rH}(h_sl4Left:IV n r_sl4Left):IV (n+1) (H4 fu r_sl4Left):=by
 intro pt pleft hm hpre
 refine oEN (fun i1 v2 hl2=>?_) ?_
 ·have:=aB.wt_eq pt
  have:=aV pt.gArgs
  refine oD (fun g4=>?_) fun g4=>?_
  ·have:=cE pt.gArgs i1 hl2
   exact oB (h_sl4Left (a5 pt.gArgs i1) v2 bM bM) fun x7 _=>lU
  exact oK
 intro v2 _
 exact oS
theorem ac2(n:Nat):b6 fun fu=>IV n (m6 fu):=by
 induction n with
 |zero=>exact .all fun fu=>fun _ _ h=>absurd h (Nat.not_lt_zero _)
 |succ n ih=>exact b6.succ ((ih.and (b6.ge 2147483648)).imp fun fu ⟨h,hfu⟩=>fun pt pleft=>by rw [m6];exact XS hfu h pt pleft)
theorem H7:b6 ac3:=(ac2 8589934592).imp fun fu h pt pleft hpre=>h pt pleft bM hpre
def TB(fu:Nat):Prop:= ∀(pt:aB),wt pt≤1073741824→Ok (iE fu pt) (fun _=>True)
def xU(n:Nat)(m:mG):Prop:= ∀(pt:aB),wt pt<n→wt pt≤1073741824→Ok (m pt) (fun _=>True)
theorem ON{n fu:Nat}(hfu:2147483648≤fu)(oV:NK fu){r_sTypeDepth:mG}(h_sTypeDepth:xU n r_sTypeDepth):xU (n+1) (yD fu r_sTypeDepth):=by
 intro pt hm hpre
 refine oEN (fun i1 v2 hl2=>?_) ?_
 ·have:=aB.wt_eq pt
  have:=aV pt.gArgs
  have:=cE pt.gArgs i1 hl2
  refine oB (h_sTypeDepth (a5 pt.gArgs i1) bM bM) fun x6 _=>?_
  have:=eB (1+x6)
  exact oB (oV v2 (aQ (1+x6))) fun x8 _=>lU
 intro v2 _
 exact oS
theorem RW(n:Nat):b6 fun fu=>xU n (iE fu):=by
 induction n with
 |zero=>exact .all fun fu=>fun _ h=>absurd h (Nat.not_lt_zero _)
 |succ n ih=>exact b6.succ ((ih.and ((b6.ge 2147483648).and oV)).imp fun fu ⟨h,⟨hfu,oV⟩⟩=>fun pt=>by rw [iE];exact ON hfu oV h pt)
theorem yU:b6 TB:=(RW 8589934592).imp fun fu h pt hpre=>h pt bM hpre
def P0(fu:Nat):Prop:= ∀(ps:ByteArray),Ok (uE fu ps) (fun _=>True)
theorem uB:b6 P0:=(b6.ge 2147483648).imp fun fu hfu ps=>by
 exact oD (fun _=>oS) fun g1=>oS
def adH(fu:Nat):Prop:= ∀(pa0:aB),wt pa0≤1073741824→Ok (mW fu pa0) (fun _=>True)
def I1(n:Nat)(m:nV):Prop:= ∀(pa0:aB),wt pa0<n→wt pa0≤1073741824→Ok (m pa0) (fun _=>True)
theorem X1{n fu:Nat}(hfu:2147483648≤fu)(bG:uM fu)(uB:P0 fu){r_sl4Form:nV}(h_sl4Form:I1 n r_sl4Form):I1 (n+1) (JN fu r_sl4Form):=by
 intro pa0 hm hpre
 have:=aB.wt_eq pa0
 refine oB (bG pa0.gName) fun x2 _=>?_;refine zP ?_ ?_
 ·refine zP ?_ ?_
  ·exact oD (fun _=>oI) fun g4=>oI
  intro v4 _
  refine oC (fun g5=>?_) fun g5=>?_
  ·exact oC (fun _=>oI) fun g6=>oI
  refine oD (fun g7=>?_) fun g7=>?_
  ·exact oC (fun _=>oI) fun g8=>oI
  refine oD (fun g9=>?_) fun g9=>?_
  ·refine oC (fun g10=>?_) fun g10=>?_
   ·exact oD (fun _=>oI) fun g11=>oB (uB pa0.gName) fun x14 _=>oC (fun _=>oI) fun g13=>oI
   exact oB (uB pa0.gName) fun x17 _=>oC (fun _=>oI) fun g15=>oI
  exact oL
 intro v3 _
 refine oEN (fun i19 v20 hl17=>?_) ?_
 ·have:=aV pa0.gArgs
  refine oC (fun g19=>?_) fun g19=>?_
  ·have:=cE pa0.gArgs i19 hl17
   exact oB (h_sl4Form (a5 pa0.gArgs i19) bM bM) fun x25 _=>lU
  exact lU
 intro v20 _
 exact oS
theorem adD(n:Nat):b6 fun fu=>I1 n (mW fu):=by
 induction n with
 |zero=>exact .all fun fu=>fun _ h=>absurd h (Nat.not_lt_zero _)
 |succ n ih=>exact b6.succ ((ih.and (((b6.ge 2147483648).and bG).and uB)).imp fun fu ⟨h,⟨⟨hfu,bG⟩,uB⟩⟩=>fun pa0=>by rw [mW];exact X1 hfu bG uB h pa0)
theorem JJ:b6 adH:=(adD 8589934592).imp fun fu h pa0 hpre=>h pa0 bM hpre
def AQ(fu:Nat):Prop:= ∀(pt:aB),wt pt≤1073741824→Ok (iL fu pt) (fun _=>True)
theorem dV:b6 AQ:=((((b6.ge 2147483648).and H7).and yU).and JJ).imp fun fu ⟨⟨⟨hfu,H7⟩,yU⟩,JJ⟩ pt hpre=>by
 refine oB (H7 pt 60 bM) fun x2 _=>?_;refine oD (fun g2=>?_) fun g2=>?_
 ·refine oB (yU pt bM) fun x5 _=>?_;refine oD (fun g4=>?_) fun g4=>?_
  ·exact oB (JJ pt bM) fun x8 _=>oS
  exact oS
 exact oS
def F5(fu:Nat):Prop:= ∀(pa pb:aB),wt pa≤1073741824→Ok (f6 fu pa pb) (fun _=>True)
def uA(n:Nat)(m:iF):Prop:= ∀(pa pb:aB),2*wt pa+1<n→wt pa≤1073741824→Ok (m pa pb) (fun _=>True)
def BX(n:Nat)(m:mY):Prop:= ∀(pa pb:List aB),2*wl pa<n→wl pa≤1073741824→Ok (m pa pb) (fun _=>True)
theorem PI{n fu:Nat}(hfu:2147483648≤fu){r_sEqualType:iF}(h_sEqualType:uA n r_sEqualType){r_sl4Same:mY}(h_sl4Same:BX n r_sl4Same):uA (n+1) (xV fu r_sEqualType r_sl4Same):=by
 intro pa pb hm hpre
 have:=aB.wt_eq pa
 have:=aB.wt_eq pb
 refine oD (fun g1=>?_) fun g1=>?_
 ·refine oD (fun g2=>?_) fun g2=>?_
  ·exact oB (h_sl4Same pa.gArgs pb.gArgs bM bM) fun x4 _=>oS
  exact oS
 exact oS
theorem ZN{n fu:Nat}(hfu:2147483648≤fu){r_sEqualType:iF}(h_sEqualType:uA n r_sEqualType){r_sl4Same:mY}(h_sl4Same:BX n r_sl4Same):BX (n+1) (IS fu r_sEqualType r_sl4Same):=by
 intro pa pb hm hpre
 have:=aV pa
 have:=aV pb
 refine oN (fun _=>oS) fun g1=>?_;refine zP ?_ ?_
 ·refine Ok.loop1 ?_;rintro i2 ⟨⟩ hl3
  have:=aV (pb)
  refine oG fun z5=>?_
  have:=cE pa i2 hl3
  have:=cE pb i2 z5
  exact oB (h_sEqualType (a5 pa i2) (a5 pb i2) bM bM) fun x7 _=>oW (fun _=>oR) fun g7=>lU
 rintro⟨⟩-
 exact oS
theorem QK(n:Nat):b6 fun fu=>uA n (f6 fu)∧BX n (nU fu):=by
 induction n with
 |zero=>exact .all fun fu=>⟨fun _ _ h=>absurd h (Nat.not_lt_zero _),fun _ _ h=>absurd h (Nat.not_lt_zero _)⟩
 |succ n ih=>exact b6.succ ((ih.and (b6.ge 2147483648)).imp fun fu ⟨h,hfu⟩=>⟨fun pa pb=>by rw [f6];exact PI hfu h.1 h.2 pa pb,fun pa pb=>by rw [nU];exact ZN hfu h.1 h.2 pa pb⟩)
theorem qH:b6 F5:=(QK 8589934592).imp fun fu h pa pb hpre=>h.1 pa pb bM hpre
def adB(fu:Nat):Prop:= ∀(pt:aB) (pout:List ByteArray),wt pt+wl pout≤268435456→Ok (m5 fu pt pout) (fun r=>wl r≤wl pout+wt pt+1)
def H9(n:Nat)(m:p8):Prop:= ∀(pt:aB) (pout:List ByteArray),wt pt<n→wt pt+wl pout≤268435456→Ok (m pt pout) (fun r=>wl r≤wl pout+wt pt+1)
theorem aaK{n fu:Nat}(hfu:2147483648≤fu)(c4:MJ fu){r_sl4Vars:p8}(h_sl4Vars:H9 n r_sl4Vars):H9 (n+1) (IZ fu r_sl4Vars):=by
 intro pt pout hm hpre
 have:=aB.wt_eq pt
 refine Ok.sok (E:=fun v2=>wl v2+wl pt.gArgs≤wl pout+wt pt+1) ?_ ?_
 ·refine oD (fun g2=>?_) fun g2=>?_
  ·refine oB (c4 pout pt.gName) fun x5 _=>?_;refine oW (fun g4=>?_) fun g4=>?_
   ·have:=aV (pout)
    have:=b5 pt.gName
    have:=a3 pt.gName
    refine oG fun z5=>?_
    have:=bU pout ([pt.gName]:List ByteArray)
    exact oI
   exact oI
  exact oI
 intro v2 h1
 refine DJ pt.gArgs 1 (fun i8 v10 hl7 hI8 _ _=>?_) ?_
 ·have:=aV pt.gArgs
  have:=cE pt.gArgs i8 hl7
  exact oB (h_sl4Vars (a5 pt.gArgs i8) v10 bM bM) fun x14 h9=>lU
 intro v10 h6
 exact oS
theorem ac8(n:Nat):b6 fun fu=>H9 n (m5 fu):=by
 induction n with
 |zero=>exact .all fun fu=>fun _ _ h=>absurd h (Nat.not_lt_zero _)
 |succ n ih=>exact b6.succ ((ih.and ((b6.ge 2147483648).and c4)).imp fun fu ⟨h,⟨hfu,c4⟩⟩=>fun pt pout=>by rw [m5];exact aaK hfu c4 h pt pout)
theorem IR:b6 adB:=(ac8 8589934592).imp fun fu h pt pout hpre=>h pt pout bM hpre
def HW(fu:Nat):Prop:= ∀(pt:aB),wt pt≤268435456→Ok (sC fu pt) (fun r=>wl r≤wt pt+1)
theorem rL:b6 HW:=((b6.ge 2147483648).and IR).imp fun fu ⟨hfu,IR⟩ pt hpre=>by
 have:=(aU:wl ([]:List ByteArray)=0∧_)
 exact oB (IR pt ([]:List ByteArray) bM) fun x2 h1=>oS
def HG(fu:Nat):Prop:= ∀(pt:aB),wt pt≤1073741824→Ok (eH fu pt) (fun _=>True)
def r8(n:Nat)(m:hZ):Prop:= ∀(pt:aB),wt pt<n→wt pt≤1073741824→Ok (m pt) (fun _=>True)
theorem G3{n fu:Nat}(hfu:2147483648≤fu){r_sHasProjection:hZ}(h_sHasProjection:r8 n r_sHasProjection):r8 (n+1) (sA fu r_sHasProjection):=by
 intro pt hm hpre
 refine zP ?_ ?_
 ·refine Ok.loop1 ?_;rintro i1 ⟨⟩ hl2
  have:=aB.wt_eq pt
  have:=aV pt.gArgs
  have:=cE pt.gArgs i1 hl2
  exact oB (h_sHasProjection (a5 pt.gArgs i1) bM bM) fun x5 _=>oC (fun _=>oR) fun g5=>lU
 rintro⟨⟩-
 exact oS
theorem JL(n:Nat):b6 fun fu=>r8 n (eH fu):=by
 induction n with
 |zero=>exact .all fun fu=>fun _ h=>absurd h (Nat.not_lt_zero _)
 |succ n ih=>exact b6.succ ((ih.and (b6.ge 2147483648)).imp fun fu ⟨h,hfu⟩=>fun pt=>by rw [eH];exact G3 hfu h pt)
theorem jP:b6 HG:=(JL 8589934592).imp fun fu h pt hpre=>h pt bM hpre
def AD(fu:Nat):Prop:= ∀(pt:aB) (pv:ByteArray),wt pt+pv.size≤1073741824→Ok (c8 fu pt pv) (fun _=>True)
def nJ(n:Nat)(m:eL):Prop:= ∀(pt:aB) (pv:ByteArray),wt pt<n→wt pt+pv.size≤1073741824→Ok (m pt pv) (fun _=>True)
theorem zW{n fu:Nat}(hfu:2147483648≤fu){r_sCountTypeVariable:eL}(h_sCountTypeVariable:nJ n r_sCountTypeVariable):nJ (n+1) (nK fu r_sCountTypeVariable):=by
 intro pt pv hm hpre
 refine zP ?_ ?_
 ·refine oD (fun g2=>?_) fun g2=>?_
  ·exact oD (fun _=>oI) fun g3=>oI
  exact oI
 intro v1 _
 refine oEN (fun i4 v5 hl5=>?_) ?_
 ·have:=aB.wt_eq pt
  have:=aV pt.gArgs
  have:=cE pt.gArgs i4 hl5
  exact oB (h_sCountTypeVariable (a5 pt.gArgs i4) pv bM bM) fun x9 _=>lU
 intro v5 _
 exact oS
theorem A5(n:Nat):b6 fun fu=>nJ n (c8 fu):=by
 induction n with
 |zero=>exact .all fun fu=>fun _ _ h=>absurd h (Nat.not_lt_zero _)
 |succ n ih=>exact b6.succ ((ih.and (b6.ge 2147483648)).imp fun fu ⟨h,hfu⟩=>fun pt pv=>by rw [c8];exact zW hfu h pt pv)
theorem nR:b6 AD:=(A5 8589934592).imp fun fu h pt pv hpre=>h pt pv bM hpre
def VX(fu:Nat):Prop:= ∀(pv:ByteArray) (pt:aB),pv.size+wt pt≤1073741824→Ok (BF fu pv pt) (fun _=>True)
theorem AV:b6 VX:=((b6.ge 2147483648).and nR).imp fun fu ⟨hfu,nR⟩ pv pt hpre=>by
 exact oB (nR pt pv bM) fun x2 _=>oS
end Go.Proofs.YtpioomclpaiomaaGreat.W

namespace Go.Proofs.YtpioomclpaiomaaGreat.W
set_option linter.unusedSimpArgs false
set_option linter.unusedVariables false
open Go.RowKit Go.WalkArith Go.IntWalk
theorem af7(d:DS)(l:List ByteArray):0<l.length→(d.pick l).size+1≤wl l:=fun h=>by
 have:=adT (d.pick_mem h)
 exact this
theorem ab7(d:DS)(n:Nat):0<n→d.below n<n:=fun h=>d.below_lt h
theorem adQ(E:Int): -9223372036854775808≤aQ E∧aQ E≤9223372036854775807:=by
 unfold aQ IntKind.wrap
 simp [IntKind.bits,IntKind.signed]
 omega
inductive EX:aG→Prop
 |mk {k:Int} {t n:ByteArray} {i:Int} {ty:aB} {args:List aG} {arms:List bC} (h:(k=2→0≤i∧i≤1)∧(k=1→i.natAbs≤9223372036854775808)) (ha: ∀a∈args,EX a) (hm: ∀m∈arms,EX m.gBody):EX (.mk k t n i ty args arms)
theorem EX.num{e:aG}(h:EX e):(e.gKind=2→0≤e.gN∧e.gN≤1)∧(e.gKind=1→e.gN.natAbs≤9223372036854775808):=by cases h;assumption
theorem EX.arg{e:aG}(h:EX e): ∀a∈e.gArgs,EX a:=by cases h;assumption
theorem EX.arm{e:aG}(h:EX e): ∀m∈e.gArms,EX m.gBody:=by cases h;assumption
theorem EX.zero:EX (aG.mk 0 s_ s_ 0 (aB.mk 0 s_ []) [] []):= .mk ⟨by omega,by omega⟩ (by simp) (by simp)
section
variable {α:Type}
theorem aa2{P:α→Prop}: ∀a∈([]:List α),P a:=by simp
theorem adX{P:α→Prop}{l:List α}{x:α}(h: ∀a∈l,P a)(hx:P x): ∀a∈l++ [x],P a:=by
 intro a ha
 rcases List.mem_append.1 ha with ha|ha
 ·exact h a ha
 ·obtain rfl:=List.mem_singleton.1 ha
  exact hx
theorem TA [Inhabited α]{P:α→Prop}{l:List α}{i:Nat}(h: ∀a∈l,P a)(hi:i<l.length):P (a5 l i):=h _ (LF hi)
variable [Wt α]
theorem Y9(a:List α)(x:α):(a.length=0→wl (List.drop 1 (a++ [x]))=0)∧(0<a.length→wl (List.drop 1 (a++ [x]))=wl (List.drop 1 a)+wt x+1):=by
 cases a with
 |nil=>exact⟨fun _=>rfl,fun h=>by simp at h⟩
 |cons b a=>exact⟨fun h=>by simp at h,fun _=>by simp only [List.cons_append,List.drop_succ_cons,List.drop_zero];rw [(bU _ _).1,(b5 _).1];omega⟩
theorem aiS(v:List α):wl (List.drop (1:Int).toNat (List.take (((v.length:Nat):Int):Int).toNat v))=wl (List.drop 1 v):=by
 have:List.take (((v.length:Nat):Int):Int).toNat v=v:=by simp
 rw [this]
 rfl
theorem t2(L:List α)(x:Int)(k:Nat):(((k:Int)≤((L.length:Nat):Int)∧x=k)∨(((L.length:Nat):Int)≤k∧x=((L.length:Nat):Int)))→wl (List.drop (x:Int).toNat (List.take (((L.length:Nat):Int):Int).toNat L))+wl (List.take k L)≤wl L:=by
 have e:List.take (((L.length:Nat):Int):Int).toNat L=L:=by simp
 rw [e]
 rintro(⟨h,rfl⟩|⟨h,rfl⟩)
 ·have:=AP k L
  simp only [Int.toNat_natCast]
  omega
 ·simp only [Int.toNat_natCast,List.drop_length]
  have:=l8 L k
  show 0+_≤_
  omega
theorem afP(L:List α)(x:Int):(((2:Int)≤((L.length:Nat):Int)∧x=2)∨(((L.length:Nat):Int)≤2∧x=((L.length:Nat):Int)))→wl (List.drop (1:Int).toNat (List.take (x:Int).toNat L))+wl (List.take 1 L)≤wl (List.take 2 L):=by
 have key: ∀M:List α,wl (List.drop (1:Int).toNat M)+wl (List.take 1 M)=wl M:=fun M=>by
  have:=AP 1 M
  show wl (List.drop 1 M)+_=_
  omega
 rintro(⟨h,rfl⟩|⟨h,rfl⟩)
 ·have:=key (L.take 2)
  rw [List.take_take] at this
  exact Nat.le_of_eq this
 ·have h2:L.length≤2:=by omega
  have:=key L
  rw [show List.take (((L.length:Nat):Int):Int).toNat L=L by simp,List.take_of_length_le h2]
  exact Nat.le_of_eq this
variable [Inhabited α]
theorem aaM(L:List α)(a b c:α)(k k1:Nat)(hk:k+1=k1):(k<L.length→wt (a5 ((([])++L)++([a,b,c]:List α)) k)+1+wl (List.take k L)=wl (List.take k1 L))∧(L.length≤k→k<L.length+3→wt (a5 ((([])++L)++([a,b,c]:List α)) k)≤wt a+wt b+wt c∧wl (List.take k L)=wl L∧wl (List.take k1 L)=wl L)∧wl (List.take k1 L)≤wl L:=by
 subst hk
 rw [List.nil_append]
 refine⟨fun h=>?_,fun h h3=>⟨?_,by rw [List.take_of_length_le h],by rw [List.take_of_length_le (by omega)]⟩,l8 L _⟩
 ·have h2:=mC L k h
  have e:a5 (L++ [a,b,c]) k=a5 L k:=by
   unfold a5
   rw [List.getElem?_append_left h]
  rw [e]
  omega
 ·have e:a5 (L++ [a,b,c]) k=a5 [a,b,c] (k-L.length):=by
   unfold a5
   rw [List.getElem?_append_right h]
  rw [e]
  have:k-L.length=0∨k-L.length=1∨k-L.length=2:=by omega
  rcases this with h|h|h<;>rw [h]<;>simp [a5]<;>omega
end
theorem oX{α β:Type}[Wt α]{v:List α}{x:α}{PA:α→Prop}{E:List α→Prop}{Q:β→Prop}{m:List α→Prop}(hB: ∀a∈v,PA a)(h:m (v++ [x]):=by first|omega|(dsimp only;omega))(hx:PA x:=by first|assumption|exact EX.zero):Ok (some (LR.next (v++ [x]))) (PL Q (fun v=>m v∧ ∀a∈v,PA a) E):=⟨_,rfl,h,adX hB hx⟩
theorem TY{α:Type}{P1 P2:α→Prop}{a:α}(h:P1 a:=by first|omega|(dsimp only;omega))(k:P2 a:=by first|assumption|exact EX.zero|exact .mk ⟨by omega,by omega⟩ (by first|assumption|exact aa2) (by first|assumption|exact aa2)):Ok (some a) (fun a=>P1 a∧P2 a):=⟨a,rfl,h,k⟩
def aiU(p r:cC):Prop:=r.gs=p.gs∧p.gat≤r.gat∧r.gat≤((p.gs.size:Nat):Int)∧r.gdeep=p.gdeep∧r.gbad=p.gbad
def QH(fu:Nat):Prop:= ∀p:cC,0≤p.gat→p.gat≤((p.gs.size:Nat):Int)→p.gs.size≤1048576→Ok (uI fu p) (aiU p)
theorem QB:b6 QH:=(b6.ge 2147483648).imp fun fu hfu p h0 h1 h2=>by
 unfold uI
 refine Ok.sok (E:=fun v1=>p.gat≤v1∧v1≤((p.gs.size:Nat):Int)) ?_ (fun v1 h=>Ok.some ⟨rfl,h.1,h.2,rfl,rfl⟩)
 unfold NT
 refine Ok.loopW (fun v1=>p.gat≤v1∧v1≤((p.gs.size:Nat):Int)) (fun v1=>(((p.gs.size:Nat):Int)-v1).toNat) ?_ _ _ bM bM
 intro v1 hI
 have:=eB (v1+1)
 unfold NF
 refine Ok.swd (fun g=>?_) (fun g=>Ok.brk hI)
 refine Ok.gdk bM (fun z=>?_)
 refine Ok.swd (fun _=>Ok.next bM) (fun _=>?_)
 refine Ok.swd (fun _=>Ok.next bM) (fun _=>Ok.brk hI)
def UW(p:cC)(r:aA×cC):Prop:=r.2.gs=p.gs∧p.gat≤r.2.gat∧r.2.gat≤((p.gs.size:Nat):Int)∧(r.2.gbad=false→r.2.gdeep=p.gdeep∧(wt r.1:Int)+1≤2*(r.2.gat-p.gat))
def adR(n:Nat)(r:cC→Option (aA×cC)):Prop:= ∀p:cC,(14-p.gdeep).toNat<n→0≤p.gat→p.gat≤((p.gs.size:Nat):Int)→p.gs.size≤1048576→0≤p.gdeep→p.gdeep≤14→p.gbad=false→Ok (r p) (UW p)
theorem XR(n fu:Nat)(hfu:2147483648≤fu)(k1:QH fu)(k2:PQ fu)(r:p9)(hr:adR n r):adR (n+1) (BQ fu r):=by
 intro p hn h0 h1 h2 hd hd2 hb
 unfold BQ
 refine Ok.bd (k1 p h0 h1 h2) ?_;rintro x ⟨e1,e2,e3,e4,e5⟩
 have e3':x.gat≤((x.gs.size:Nat):Int):=by rw [e1];exact e3
 have bad: ∀v:Int,p.gat≤v→v≤((p.gs.size:Nat):Int)→Ok (some ((aA.mk s_ []),(cC.mk x.gs v x.gdeep (aQ (x.gsize+1)) true))) (UW p):=fun v hv hv2=>Ok.some ⟨e1,hv,hv2,fun h=>by cases h⟩
 refine Ok.swd (fun _=>bad _ e2 e3) (fun g1=>?_)
 refine Ok.swd (fun _=>bad _ e2 e3) (fun g2=>?_)
 refine Ok.sok (E:=fun v=>x.gat≤v∧v≤((x.gs.size:Nat):Int)) ?_ ?_
 ·unfold MU
  have hz:x.gs.size≤1048576:=by rw [e1];exact h2
  refine Ok.loopW (fun v1=>x.gat≤v1∧v1≤((x.gs.size:Nat):Int)) (fun v1=>(((x.gs.size:Nat):Int)-v1).toNat) ?_ _ _ bM bM
  intro v1 hI
  have:=eB (v1+1)
  unfold MO
  refine Ok.swd (fun g=>?_) (fun g=>Ok.brk hI)
  refine Ok.gdk bM (fun z=>?_)
  refine Ok.bd (k2 _) ?_;rintro b-
  exact Ok.sw (fun _=>Ok.next bM) (fun _=>Ok.brk hI)
 intro v hv
 refine Ok.swd (fun g3=>?_) (fun g3=>?_)
 ·refine Ok.gdk bM (fun z=>Ok.some ⟨e1,by show _≤v;omega,by show v≤_;rw [← e1];exact hv.2,fun _=>⟨e4,?_⟩⟩)
  show(wt (aA.mk _ []):Int)+1≤2*(v-p.gat)
  rw [aA.wt_mk,yP]
  have:wl ([]:List aA)=0:=rfl
  omega
 ·refine Ok.gdk bM (fun z=>?_)
  have hvp:v≤((p.gs.size:Nat):Int):=by rw [← e1];exact hv.2
  refine Ok.swn (fun _=>bad _ (by omega) hvp) (fun g4=>?_)
  refine Ok.swd (fun _=>bad _ (by omega) hvp) (fun g5=>?_)
  have w1:=eB (v+1)
  have w2:=eB (x.gdeep+1)
  have hz:x.gs.size≤1048576:=by rw [e1];exact h2
  refine Ok.sok (E:=fun(q:ByteArray×Int×Int×Int×Bool×List aA)=>q.1=p.gs∧p.gat≤q.2.1∧q.2.1≤((p.gs.size:Nat):Int)∧q.2.2.2.2.1=true) ?_ ?_
  ·unfold MB
   refine Ok.loopW (fun(q:ByteArray×Int×Int×Int×Bool×List aA)=>q.1=p.gs∧v+1≤q.2.1∧q.2.1≤((p.gs.size:Nat):Int)∧(q.2.2.2.2.1=false→q.2.2.1=p.gdeep+1∧(wl q.2.2.2.2.2:Int)≤2*(q.2.1-(v+1)))) (fun q=>(2*(((p.gs.size:Nat):Int)-q.2.1)).toNat+(if q.2.2.2.2.1 then 0 else 1)) ?_ _ _ ?_ ?_
   ·rintro⟨v17,v18,v19,v20,v21,v23⟩ ⟨i1,i2,i3,i4⟩
    dsimp only at i1 i2 i3 i4
    subst i1
    unfold MP
    refine Ok.swb (fun g6=>?_) (fun g6=>Ok.brk ⟨rfl,by show p.gat≤v18;omega,i3,g6⟩)
    subst g6
    obtain⟨i5,i6⟩:=i4 rfl
    subst i5
    refine Ok.bd (k1 _ (by show 0≤v18;omega) i3 h2) ?_;rintro y ⟨f1,f2,f3,f4,f5⟩
    replace f1:y.gs=p.gs:=f1
    replace f2:v18≤y.gat:=f2
    replace f3:y.gat≤((p.gs.size:Nat):Int):=f3
    replace f4:y.gdeep=p.gdeep+1:=f4
    replace f5:y.gbad=false:=f5
    have hl:=aV v23
    have step: ∀q:aA×cC,UW y q→Ok (gd ((v23).length+(([q.1]:List aA)).length≤68719476736) (some (LR.next (q.2.gs,q.2.gat,q.2.gdeep,q.2.gsize,q.2.gbad,(v23++([q.1]:List aA)))))) (PL (UW p) (fun s'=>(fun(q:ByteArray×Int×Int×Int×Bool×List aA)=>q.1=p.gs∧v+1≤q.2.1∧q.2.1≤((p.gs.size:Nat):Int)∧(q.2.2.2.2.1=false→q.2.2.1=p.gdeep+1∧(wl q.2.2.2.2.2:Int)≤2*(q.2.1-(v+1)))) s'∧(fun(q:ByteArray×Int×Int×Int×Bool×List aA)=>(2*(((p.gs.size:Nat):Int)-q.2.1)).toNat+(if q.2.2.2.2.1 then 0 else 1)) s'<(fun(q:ByteArray×Int×Int×Int×Bool×List aA)=>(2*(((p.gs.size:Nat):Int)-q.2.1)).toNat+(if q.2.2.2.2.1 then 0 else 1)) (p.gs,v18,p.gdeep+1,v20,false,v23)) (fun(q:ByteArray×Int×Int×Int×Bool×List aA)=>q.1=p.gs∧p.gat≤q.2.1∧q.2.1≤((p.gs.size:Nat):Int)∧q.2.2.2.2.1=true)):=by
     rintro⟨a,b⟩ ⟨j1,j2,j3,j4⟩
     dsimp only at j1 j2 j3 j4
     have j3':b.gat≤((p.gs.size:Nat):Int):=by rw [← f1];exact j3
     have l1:=b5 a
     refine Ok.gdk (by dsimp only;omega) (fun _=>Ok.next ⟨⟨j1.trans f1,by show v+1≤b.gat;omega,j3',fun hb2=>?_⟩,?_⟩)
     ·obtain⟨j5,j6⟩:=j4 hb2
      refine⟨by show b.gdeep=_;rw [j5,f4],?_⟩
      show(wl (v23++ [a]):Int)≤2*(b.gat-(v+1))
      have:=bU v23 [a]
      omega
     ·dsimp only
      cases hbb:b.gbad with
      |true=>simp;omega
      |false=>
       obtain⟨j5,j6⟩:=j4 hbb
       simp
       omega
    have call:Ok (r y) (UW y):=hr y (by rw [f4];omega) (by omega) (by rw [f1];exact f3) (by rw [f1];exact h2) (by rw [f4];omega) (by rw [f4];omega) f5
    have w3:=eB (y.gat+1)
    have w4:=eB (y.gdeep-1)
    have hys:y.gs.size=p.gs.size:=by rw [f1]
    refine Ok.swd (fun g7=>?_) (fun g7=>Ok.bd call step)
    refine Ok.gdk (by omega) (fun z2=>?_)
    refine Ok.swd (fun g8=>Ok.ret ⟨f1,by show p.gat≤aQ _;omega,by show aQ _≤_;omega,fun _=>⟨by show aQ _=_;omega,?_⟩⟩) (fun g8=>Ok.bd call step)
    show(wt (aA.mk s_ v23):Int)+1≤2*(aQ (y.gat+1)-p.gat)
    rw [aA.wt_mk]
    have:s_.size=0:=rfl
    omega
   ·dsimp only
    have: ∀b:Bool,(if b then 0 else 1)≤1:=by decide
    have:=this x.gbad
    omega
   ·have hxs:x.gs.size=p.gs.size:=by rw [e1]
    refine⟨e1,by dsimp only;omega,by dsimp only;omega,fun _=>⟨by dsimp only;omega,?_⟩⟩
    show((wl ([]:List aA):Nat):Int)≤2*(aQ (v+1)-(v+1))
    have:wl ([]:List aA)=0:=rfl
    omega
  ·rintro⟨v17,v18,v19,v20,v21,v23⟩ ⟨i1,i2,i3,i4⟩
   dsimp only at i1 i2 i3 i4
   exact Ok.some ⟨i1,i2,i3,fun h=>by rw [show v21=false from h] at i4;cases i4⟩
theorem acN(n:Nat):b6 fun fu=>adR n (n0 fu):=by
 induction n with
 |zero=>exact .all fun fu p h=>absurd h (Nat.not_lt_zero _)
 |succ n ih=>
  refine b6.succ ((ih.and (((b6.ge 2147483648).and QB).and CA)).imp fun fu h=>?_)
  intro p
  rw [n0]
  exact XR n fu h.2.1.1 h.2.1.2 h.2.2 _ h.1 p
def OC(fu:Nat):Prop:= ∀ps:ByteArray,ps.size≤1048576→Ok (sK fu ps) (fun r=>wt r.1≤2*ps.size)
theorem wP:b6 OC:=(((acN 15).and QB).and cI).imp fun fu hh ps h=>by
 obtain⟨⟨k1,k2⟩,k3⟩:=hh
 have zero: ∀b:Bool,Ok (some ((aA.mk s_ []),b)) (fun r=>wt r.1≤2*ps.size):=fun b=>Ok.some (by
  show wt (aA.mk s_ [])≤_
  rw [aA.wt_mk]
  have:s_.size=0:=rfl
  have:wl ([]:List aA)=0:=rfl
  omega)
 unfold sK
 refine Ok.bd (k1 _ (by show(14-(0:Int)).toNat<15;omega) (Int.le_refl _) (by show(0:Int)≤_;omega) h (Int.le_refl _) (by show(0:Int)≤14;omega) rfl) ?_;rintro⟨x,r⟩ ⟨e1,e2,e3,e4⟩
 dsimp only at e1 e2 e3 e4
 replace e1:r.gs=ps:=e1
 replace e2:0≤r.gat:=e2
 replace e3:r.gat≤((ps.size:Nat):Int):=e3
 refine Ok.bd (k2 r e2 (by rw [e1];exact e3) (by rw [e1];exact h)) ?_;rintro y ⟨f1,f2,f3,f4,f5⟩
 refine Ok.sw (fun _=>zero _) (fun g=>?_)
 obtain⟨-,e5⟩:=e4 (by rw [← f5];exact g)
 replace e5:(wt x:Int)+1≤2*(r.gat-0):=e5
 refine Ok.swn (fun _=>zero _) (fun _=>?_)
 refine Ok.bd (k3 x (by omega)) ?_;rintro b-
 exact Ok.swb (fun _=>zero _) (fun _=>Ok.some (by show wt x≤_;omega))
theorem ahK{v:Int}{k:Nat}(h:v.natAbs<10^(k+1)):(v.tdiv 10).natAbs<10^k:=by
 rw [Int.natAbs_tdiv,Nat.pow_succ] at*
 show v.natAbs/10<_
 omega
def yK(fu:Nat):Prop:= ∀pn:Int,pn.natAbs≤9223372036854775808→Ok (l7 fu pn) (fun r=>r.size≤21)
theorem kC:b6 yK:=(b6.ge 18446744073709551616).imp fun fu hfu pn h=>by
 unfold l7
 refine Ok.swd (fun _=>Ok.some (by decide)) (fun _=>?_)
 refine Ok.sok (E:=fun q:Int×ByteArray=>q.2.size≤20) ?_ ?_
 ·unfold DO
  refine Ok.loopW (fun q:Int×ByteArray=>q.1.natAbs≤9223372036854775808∧ ∃k,q.2.size+k≤19∧q.1.natAbs<10^k) (fun q=>q.1.natAbs) ?_ _ _ (by dsimp only;omega) ⟨h,19,by show(0:Nat)+19≤19;omega,by dsimp only;omega⟩
  rintro⟨v2,v3⟩ ⟨h1,k,h2,h3⟩
  dsimp only at h1 h2 h3
  unfold DQ
  refine Ok.swn (fun g=>?_) (fun _=>Ok.brk (by dsimp only;omega))
  obtain⟨k,rfl⟩: ∃m,k=m+1:=by
   rcases k with _|m
   ·exfalso
    have:(10:Nat)^0=1:=rfl
    omega
   ·exact⟨m,rfl⟩
  have h4:=ahK h3
  have h5:(v2.tdiv 10).natAbs<v2.natAbs:=by
   rw [Int.natAbs_tdiv]
   show v2.natAbs/10<_
   omega
  have w:=eB (v2.tdiv 10)
  have w:aQ (v2.tdiv 10)=v2.tdiv 10:=w (by omega)
  have fin: ∀u:UInt8,Ok (gd ((bytesStr ([u]:List UInt8)).size+(v3).size≤1099511627776) (some (LR.next ((aQ ((v2).tdiv 10)),((bytesStr ([u]:List UInt8))++v3))))) (PL (fun r:ByteArray=>r.size≤21) (fun s'=>(fun q:Int×ByteArray=>q.1.natAbs≤9223372036854775808∧ ∃k,q.2.size+k≤19∧q.1.natAbs<10^k) s'∧(fun q:Int×ByteArray=>q.1.natAbs) s'<(fun q:Int×ByteArray=>q.1.natAbs) (v2,v3)) (fun q:Int×ByteArray=>q.2.size≤20)):=fun u=>by
   have e1:=aeW [u]
   have e2: [u].length=1:=rfl
   have e3:=eG (bytesStr [u]) v3
   refine Ok.gdk (by omega) (fun _=>Ok.next ⟨⟨by dsimp only;rw [w];omega,k,by dsimp only;omega,by dsimp only;rw [w];exact h4⟩,by dsimp only;rw [w];exact h5⟩)
  exact Ok.swd (fun _=>fin _) (fun _=>fin _)
 ·rintro⟨v2,v3⟩ hv
  dsimp only at hv
  have:zY.size=1:=rfl
  have:=eG zY v3
  exact Ok.swd (fun _=>Ok.gdk (by omega) (fun _=>Ok.some bM)) (fun _=>Ok.some bM)
def vZ(fu:Nat):Prop:= ∀ps:ByteArray,Ok (vY fu ps) (fun r=>r.1.natAbs≤9223372036854775808)
theorem kD:b6 vZ:=kC.imp fun fu k ps=>by
 have rng: ∀E:Int,(aQ E).natAbs≤9223372036854775808:=fun E=>by have:=adQ E;omega
 have fin: ∀v:Int,v.natAbs≤9223372036854775808→Ok (bd (l7 fu v) (fun x18=>sw (!decide (x18=ps)) (some ((0:Int),false)) (some (v,true)))) (fun r=>r.1.natAbs≤9223372036854775808):=fun v hv=>by
  refine Ok.bd (k v hv) ?_;rintro x-
  exact Ok.swn (fun _=>Ok.some (by decide)) (fun _=>Ok.some hv)
 have loop: ∀(f:Nat→Int→Option (LR Int (Int×Bool))) (n:Nat),(∀i s,i<n→Ok (f i s) (PL (fun r:Int×Bool=>r.1.natAbs≤9223372036854775808) (fun v:Int=>v.natAbs≤9223372036854775808) (fun v:Int=>v.natAbs≤9223372036854775808)))→Ok (loopN f (n-0) 0 0) (PS (fun r:Int×Bool=>r.1.natAbs≤9223372036854775808) (fun v:Int=>v.natAbs≤9223372036854775808)):=fun f n hf=>Ok.loop0 (fun _ v=>v.natAbs≤9223372036854775808) (by decide) (fun i s _ h=>h) (fun i s hi _=>hf i s hi)
 unfold vY
 refine Ok.bd (Q:=fun r:Int×Bool=>r.1.natAbs≤9223372036854775808) ?_ (fun r hr=>by obtain⟨a,b⟩:=r;exact Ok.some hr)
 unfold IM
 have hps:((ps.size:Nat):Int)=((ps.size:Nat):Int):=rfl
 refine Ok.swd (fun g=>?_) (fun g=>?_)
 ·refine Ok.gdk (by omega) (fun _=>?_)
  refine Ok.sok (E:=fun _=>True) ?_ ?_
  ·unfold N2
   exact Ok.swd (fun _=>Ok.gdk (by omega) (fun _=>Ok.inr trivial)) (fun _=>Ok.inr trivial)
  rintro v3-
  refine Ok.swd (fun _=>Ok.some (by decide)) (fun _=>?_)
  refine Ok.swd (fun _=>Ok.some (by decide)) (fun _=>?_)
  refine Ok.sok (E:=fun v:Int=>v.natAbs≤9223372036854775808) ?_ ?_
  ·unfold ME
   refine loop _ _ (fun i s hi=>?_)
   unfold MQ
   refine Ok.gdk hi (fun _=>?_)
   exact Ok.swd (fun _=>Ok.ret (by decide)) (fun _=>Ok.swd (fun _=>Ok.ret (by decide)) (fun _=>Ok.next (rng _)))
  intro v9 hv
  refine Ok.sok (E:=fun v:Int=>v.natAbs≤9223372036854775808) ?_ ?_
  ·unfold NX
   exact Ok.swd (fun _=>Ok.inr (rng _)) (fun _=>Ok.inr hv)
  intro v15 hv
  exact fin v15 hv
 ·refine Ok.swd (fun _=>Ok.some (by decide)) (fun _=>?_)
  refine Ok.swd (fun _=>Ok.some (by decide)) (fun _=>?_)
  refine Ok.sok (E:=fun v:Int=>v.natAbs≤9223372036854775808) ?_ (fun v hv=>fin v hv)
  unfold NA
  refine loop _ _ (fun i s hi=>?_)
  unfold MR
  refine Ok.gdk hi (fun _=>?_)
  exact Ok.swd (fun _=>Ok.ret (by decide)) (fun _=>Ok.swd (fun _=>Ok.ret (by decide)) (fun _=>Ok.next (rng _)))
end Go.Proofs.YtpioomclpaiomaaGreat.W

namespace Go.Proofs.YtpioomclpaiomaaGreat.W
set_option linter.unusedSimpArgs false
set_option linter.unusedVariables false
set_option maxRecDepth 20000
set_option maxHeartbeats 4000000
open Go.RowKit Go.WalkArith Go.IntWalk
attribute [local irreducible] wt wl
def LI(fu:Nat):Prop:= ∀(pa0:aA),wt pa0≤268435456→Ok (kM fu pa0) (fun r=>wt r≤2*wt pa0)
def QU(n:Nat)(m:yG):Prop:= ∀(pa0:aA),wt pa0<n→wt pa0≤268435456→Ok (m pa0) (fun r=>wt r≤2*wt pa0)
theorem aeH{n fu:Nat}(hfu:2147483648≤fu)(eI:MY fu)(dO:NR fu){r_sl5Ty:yG}(h_sl5Ty:QU n r_sl5Ty):QU (n+1) (SR fu r_sl5Ty):=by
 intro pa0 hm hpre
 have:=aA.wt_eq pa0
 have:s_.size=0:=rfl
 refine oN (fun g1=>?_) fun g1=>?_
 ·have:=A9 g1
  refine oG fun z2=>?_;refine oD (fun g3=>?_) fun g3=>?_
  ·refine oG fun z4=>?_
   have:=yP pa0.gAtom (1:Int).toNat (((pa0.gAtom.size:Nat):Int):Int).toNat
   exact oB (eI (pa0.gAtom.extract (1:Int).toNat (((pa0.gAtom.size:Nat):Int):Int).toNat)) fun x6 h5=>oS
  have:=(aU:wl ([]:List aB)=0∧_)
  exact oB (dO pa0.gAtom ([]:List aB) bM) fun x8 h6=>oS
 have:=aV pa0.gList
 refine oD (fun g7=>?_) fun g7=>?_
 ·have:=(aU:wl ([]:List aB)=0∧_)
  have:=aB.wt_mk 0 s_ []
  exact oS
 have:=aV (pa0.gList)
 refine oG fun z8=>?_
 have:=(aU:wl ([]:List aB)=0∧_)
 refine Ok.sok (E:=fun v13=>wl v13+2*wl (List.take 1 pa0.gList)≤wl ([]:List aB)+2*wl pa0.gList∧(v13.length=0∨wl (List.drop 1 v13)+2*wl (List.take 2 pa0.gList)≤2*wl pa0.gList)) ?_ ?_
 ·refine Ok.loop0 (fun i11 v13=>wl v13+2*wl (List.take 1 pa0.gList)≤wl ([]:List aB)+2*wl (List.take i11 pa0.gList)∧((i11=1∧v13.length=0)∨(2≤i11∧1≤v13.length∧wl (List.drop 1 v13)+2*wl (List.take 2 pa0.gList)≤2*wl (List.take i11 pa0.gList)))) (by exact bM) (by rintro i11 v13-hI;have:=l8 pa0.gList i11;(try dsimp only at hI ⊢);omega) ?_;rintro i11 v13 hl10 hI11
  have:=mC pa0.gList i11 hl10
  have:=l8 pa0.gList (i11+1)
  have:=cE pa0.gList i11 hl10
  refine oB (h_sl5Ty (a5 pa0.gList i11) bM bM) fun x17 h12=>?_
  have:=aV (v13)
  have:=b5 x17
  refine oG fun z13=>?_
  have:=bU v13 ([x17]:List aB)
  have:=Y9 v13 x17
  have:=TJ pa0.gList 2 (i11+1)
  exact Ok.next bM
 intro v13 h9
 have:=cE pa0.gList 0 z8
 have:wl (List.take 1 pa0.gList)=wl (List.take 0 pa0.gList)+wt (a5 pa0.gList 0)+1:=DT pa0.gList 0 z8
 have:=aA.wt_eq (a5 pa0.gList 0)
 have:gM.size=5:=rfl
 refine oD (fun g14=>?_) fun g14=>?_
 ·have:=congrArg ByteArray.size g14
  have:=aV v13
  refine oD (fun g15=>?_) fun g15=>?_
  ·refine oG fun z16=>?_
   have:=cE pa0.gList 1 z16
   have:wl (List.take 2 pa0.gList)=wl (List.take 1 pa0.gList)+wt (a5 pa0.gList 1)+1:=DT pa0.gList 1 z16
   have:=aA.wt_eq (a5 pa0.gList 1)
   refine oN (fun g17=>?_) fun g17=>?_
   ·have:=A9 g17
    refine oG fun z18=>?_
    have:=t2 v13 1 1
    have:=aiS v13
    have:=aB.wt_mk 3 ((a5 pa0.gList 1).gAtom) (List.drop (1:Int).toNat (List.take (((v13.length:Nat):Int):Int).toNat v13))
    exact oS
   have:tU.size=3:=rfl
   refine oD (fun g19=>?_) fun g19=>?_
   ·have:=congrArg ByteArray.size g19
    have:=aB.wt_mk 2 ((a5 pa0.gList 0).gAtom) v13
    exact oS
   have:=aB.wt_mk 2 ((a5 pa0.gList 0).gAtom) v13
   exact oS
  have:tU.size=3:=rfl
  refine oD (fun g20=>?_) fun g20=>?_
  ·have:=congrArg ByteArray.size g20
   refine oD (fun g21=>?_) fun g21=>?_
   ·refine oG fun z22=>?_
    have:=cE pa0.gList 1 z22
    have:wl (List.take 2 pa0.gList)=wl (List.take 1 pa0.gList)+wt (a5 pa0.gList 1)+1:=DT pa0.gList 1 z22
    have:=aA.wt_eq (a5 pa0.gList 1)
    refine oN (fun g23=>?_) fun g23=>?_
    ·have:=A9 g23
     have:=aB.wt_mk 4 ((a5 pa0.gList 1).gAtom) []
     exact oS
    have:=aB.wt_mk 2 ((a5 pa0.gList 0).gAtom) v13
    exact oS
   have:=aB.wt_mk 2 ((a5 pa0.gList 0).gAtom) v13
   exact oS
  have:=aB.wt_mk 2 ((a5 pa0.gList 0).gAtom) v13
  exact oS
 have:tU.size=3:=rfl
 refine oD (fun g24=>?_) fun g24=>?_
 ·have:=congrArg ByteArray.size g24
  have:=aV v13
  refine oD (fun g25=>?_) fun g25=>?_
  ·refine oG fun z26=>?_
   have:=cE pa0.gList 1 z26
   have:wl (List.take 2 pa0.gList)=wl (List.take 1 pa0.gList)+wt (a5 pa0.gList 1)+1:=DT pa0.gList 1 z26
   have:=aA.wt_eq (a5 pa0.gList 1)
   refine oN (fun g27=>?_) fun g27=>?_
   ·have:=A9 g27
    have:=aB.wt_mk 4 ((a5 pa0.gList 1).gAtom) []
    exact oS
   have:=aB.wt_mk 2 ((a5 pa0.gList 0).gAtom) v13
   exact oS
  have:=aB.wt_mk 2 ((a5 pa0.gList 0).gAtom) v13
  exact oS
 have:=aB.wt_mk 2 ((a5 pa0.gList 0).gAtom) v13
 exact oS
theorem afK(n:Nat):b6 fun fu=>QU n (kM fu):=by
 induction n with
 |zero=>exact .all fun fu=>fun _ h=>absurd h (Nat.not_lt_zero _)
 |succ n ih=>exact b6.succ ((ih.and (((b6.ge 2147483648).and eI).and dO)).imp fun fu ⟨h,⟨⟨hfu,eI⟩,dO⟩⟩=>fun pa0=>by rw [kM];exact aeH hfu eI dO h pa0)
theorem fW:b6 LI:=(afK 8589934592).imp fun fu h pa0 hpre=>h pa0 bM hpre
def xO(fu:Nat):Prop:= ∀(pn:Int),pn.natAbs≤9223372036854775808→Ok (qD fu pn) (fun r=>wt r=0∧EX r)
theorem eN:b6 xO:=(b6.ge 2147483648).imp fun fu hfu pn hpre=>by
 have:s_.size=0:=rfl
 have:=(aU:wl ([]:List aB)=0∧_)
 have:=aB.wt_mk 0 s_ []
 have:=(aU:wl ([]:List aG)=0∧_)
 have:=(aU:wl ([]:List bC)=0∧_)
 have:=aG.wt_mk 1 s_ s_ pn (aB.mk 0 s_ []) [] []
 exact TY
def w5(fu:Nat):Prop:= ∀(ps:ByteArray),Ok (rX fu ps) (fun r=>wt r=ps.size∧EX r)
theorem eX:b6 w5:=(b6.ge 2147483648).imp fun fu hfu ps=>by
 have:s_.size=0:=rfl
 have:=(aU:wl ([]:List aB)=0∧_)
 have:=aB.wt_mk 0 s_ []
 have:=(aU:wl ([]:List aG)=0∧_)
 have:=(aU:wl ([]:List bC)=0∧_)
 have:=aG.wt_mk 3 s_ ps 0 (aB.mk 0 s_ []) [] []
 exact TY
def GM(fu:Nat):Prop:= ∀(pa pb:Int),Ok (nO fu pa pb) (fun r=>(pa≤pb∧r=pa)∨(pb≤pa∧r=pb))
theorem gO:b6 GM:=(b6.ge 2147483648).imp fun fu hfu pa pb=>by
 exact oD (fun _=>oS) fun g1=>oS
def X0(fu:Nat):Prop:= ∀(pa0:aA),wt pa0≤67108864→Ok (fS fu pa0) (fun r=>wt r≤2*wt pa0∧EX r)
def uS(n:Nat)(m:gB):Prop:= ∀(pa0:aA),2*wt pa0+1<n→wt pa0≤67108864→Ok (m pa0) (fun r=>wt r≤2*wt pa0∧EX r)
def s7(n:Nat)(m:fH):Prop:= ∀(plist:List aA),2*wl plist<n→wl plist≤67108864→Ok (m plist) (fun r=>wl r≤2*wl plist∧ ∀a∈r,EX a)
def w6(n:Nat)(m:hP):Prop:= ∀(px:aA),2*wt px+1<n→wt px≤67108864→Ok (m px) (fun r=>wt r≤2*wt px∧EX r.gBody)
theorem V2{n fu:Nat}(hfu:2147483648≤fu)(kD:vZ fu)(eN:xO fu)(eX:w5 fu)(gO:GM fu)(fW:LI fu)(gD:yR fu){r_sl12Expr:gB}(h_sl12Expr:uS n r_sl12Expr){r_sl12Exprs:fH}(h_sl12Exprs:s7 n r_sl12Exprs){r_sl12Arm:hP}(h_sl12Arm:w6 n r_sl12Arm):uS (n+1) (DZ fu r_sl12Expr r_sl12Exprs r_sl12Arm):=by
 intro pa0 hm hpre
 have:=aA.wt_eq pa0
 have:s_.size=0:=rfl
 refine oN (fun g1=>?_) fun g1=>?_
 ·have:=A9 g1
  refine rV (kD pa0.gAtom) fun x3 x4 h2=>?_
  dsimp only at h2
  refine oC (fun g3=>?_) fun g3=>?_
  ·exact J5 (eN x3 bM) fun x7 h4 h4B=>TY
  have:nC.size=4:=rfl
  refine oD (fun g5=>?_) fun g5=>?_
  ·have:=congrArg ByteArray.size g5
   have:=(aU:wl ([]:List aB)=0∧_)
   have:=aB.wt_mk 0 s_ []
   have:=(aU:wl ([]:List aG)=0∧_)
   have:=(aU:wl ([]:List bC)=0∧_)
   have:=aG.wt_mk 2 s_ s_ 1 (aB.mk 0 s_ []) [] []
   exact TY
  have:jX.size=5:=rfl
  refine oD (fun g6=>?_) fun g6=>?_
  ·have:=congrArg ByteArray.size g6
   have:=(aU:wl ([]:List aB)=0∧_)
   have:=aB.wt_mk 0 s_ []
   have:=(aU:wl ([]:List aG)=0∧_)
   have:=(aU:wl ([]:List bC)=0∧_)
   have:=aG.wt_mk 2 s_ s_ 0 (aB.mk 0 s_ []) [] []
   exact TY
  exact J5 (eX pa0.gAtom) fun x11 h7 h7B=>TY
 have:=(aU:wl ([]:List aA)=0∧_)
 have:=aV (pa0.gList)
 refine oG fun z8=>?_
 have:=bU ([]:List aA) pa0.gList
 have:=aA.wt_mk s_ []
 have:=BH (aA.mk s_ []) (aA.mk s_ []) (aA.mk s_ [])
 refine oG fun z9=>?_
 have:=bU (([])++pa0.gList) ([(aA.mk s_ []),(aA.mk s_ []),(aA.mk s_ [])]:List aA)
 refine oG fun z10=>?_
 have:=aaM pa0.gList (aA.mk s_ []) (aA.mk s_ []) (aA.mk s_ []) 1 2 rfl
 refine Ok.lt fun y15 h11=>?_
 have:=congrArg wt h11
 refine oG fun z12=>?_
 have:=aaM pa0.gList (aA.mk s_ []) (aA.mk s_ []) (aA.mk s_ []) 0 1 rfl
 refine Ok.lt fun y18 h13=>?_
 have:=congrArg wt h13
 have:=aA.wt_eq y18
 have:I4.size=4:=rfl
 refine oD (fun g14=>?_) fun g14=>?_
 ·have:=congrArg ByteArray.size g14
  have:=aV pa0.gList
  refine oB (gO 2 ((pa0.gList.length:Nat):Int)) fun x22 h15=>oG fun z16=>?_
  have:=t2 pa0.gList x22 2
  refine J5 (h_sl12Exprs (List.drop (x22:Int).toNat (List.take (((pa0.gList.length:Nat):Int):Int).toNat pa0.gList)) bM bM) fun x25 h17 h17B=>?_
  have:=aA.wt_eq y15
  have:=(aU:wl ([]:List aB)=0∧_)
  have:=aB.wt_mk 0 s_ []
  have:=(aU:wl ([]:List bC)=0∧_)
  have:=aG.wt_mk 4 s_ y15.gAtom 0 (aB.mk 0 s_ []) x25 []
  exact TY
 have:mM.size=6:=rfl
 refine oD (fun g18=>?_) fun g18=>?_
 ·have:=congrArg ByteArray.size g18
  refine oG fun z19=>?_
  have:=aaM pa0.gList (aA.mk s_ []) (aA.mk s_ []) (aA.mk s_ []) 2 3 rfl
  refine Ok.lt fun y28 h20=>?_
  have:=congrArg wt h20
  have:=aV pa0.gList
  refine oB (gO 3 ((pa0.gList.length:Nat):Int)) fun x31 h21=>oG fun z22=>?_
  have:=t2 pa0.gList x31 3
  refine J5 (h_sl12Exprs (List.drop (x31:Int).toNat (List.take (((pa0.gList.length:Nat):Int):Int).toNat pa0.gList)) bM bM) fun x34 h23 h23B=>?_
  have:=aA.wt_eq y15
  have:=aA.wt_eq y28
  have:=(aU:wl ([]:List aB)=0∧_)
  have:=aB.wt_mk 0 s_ []
  have:=(aU:wl ([]:List bC)=0∧_)
  have:=aG.wt_mk 5 y15.gAtom y28.gAtom 0 (aB.mk 0 s_ []) x34 []
  exact TY
 have:zJ.size=3:=rfl
 refine oD (fun g24=>?_) fun g24=>?_
 ·have:=congrArg ByteArray.size g24
  have:=aV pa0.gList
  refine oB (gO 2 ((pa0.gList.length:Nat):Int)) fun x37 h25=>oG fun z26=>?_
  have:=t2 pa0.gList x37 2
  refine J5 (h_sl12Exprs (List.drop (x37:Int).toNat (List.take (((pa0.gList.length:Nat):Int):Int).toNat pa0.gList)) bM bM) fun x40 h27 h27B=>?_
  have:=aA.wt_eq y15
  have:=(aU:wl ([]:List aB)=0∧_)
  have:=aB.wt_mk 0 s_ []
  have:=(aU:wl ([]:List bC)=0∧_)
  have:=aG.wt_mk 6 s_ y15.gAtom 0 (aB.mk 0 s_ []) x40 []
  exact TY
 have:zK.size=3:=rfl
 refine oD (fun g28=>?_) fun g28=>?_
 ·have:=congrArg ByteArray.size g28
  have:=aV pa0.gList
  refine oB (gO 2 ((pa0.gList.length:Nat):Int)) fun x43 h29=>oG fun z30=>?_
  have:=t2 pa0.gList x43 2
  refine J5 (h_sl12Exprs (List.drop (x43:Int).toNat (List.take (((pa0.gList.length:Nat):Int):Int).toNat pa0.gList)) bM bM) fun x46 h31 h31B=>?_
  have:=aA.wt_eq y15
  have:=(aU:wl ([]:List aB)=0∧_)
  have:=aB.wt_mk 0 s_ []
  have:=(aU:wl ([]:List bC)=0∧_)
  have:=aG.wt_mk 8 s_ y15.gAtom 0 (aB.mk 0 s_ []) x46 []
  exact TY
 have:y1.size=2:=rfl
 refine oD (fun g32=>?_) fun g32=>?_
 ·have:=congrArg ByteArray.size g32
  have:=aV pa0.gList
  refine oG fun z33=>?_
  have:=t2 pa0.gList 1 1
  refine J5 (h_sl12Exprs (List.drop (1:Int).toNat (List.take (((pa0.gList.length:Nat):Int):Int).toNat pa0.gList)) bM bM) fun x50 h34 h34B=>?_
  have:=(aU:wl ([]:List aB)=0∧_)
  have:=aB.wt_mk 0 s_ []
  have:=(aU:wl ([]:List bC)=0∧_)
  have:=aG.wt_mk 9 s_ s_ 0 (aB.mk 0 s_ []) x50 []
  exact TY
 have:tP.size=4:=rfl
 refine oD (fun g35=>?_) fun g35=>?_
 ·have:=congrArg ByteArray.size g35
  have:=aV pa0.gList
  refine oB (gO 2 ((pa0.gList.length:Nat):Int)) fun x53 h36=>oG fun z37=>?_
  have:=t2 pa0.gList x53 2
  refine J5 (h_sl12Exprs (List.drop (x53:Int).toNat (List.take (((pa0.gList.length:Nat):Int):Int).toNat pa0.gList)) bM bM) fun x56 h38 h38B=>?_
  have:=aA.wt_eq y15
  have:=(aU:wl ([]:List aB)=0∧_)
  have:=aB.wt_mk 0 s_ []
  have:=(aU:wl ([]:List bC)=0∧_)
  have:=aG.wt_mk 11 y15.gAtom s_ 0 (aB.mk 0 s_ []) x56 []
  exact TY
 have:QJ.size=3:=rfl
 refine oD (fun g39=>?_) fun g39=>?_
 ·have:=congrArg ByteArray.size g39
  refine oB (fW y15 bM) fun x59 h40=>?_
  have:=aV pa0.gList
  refine oB (gO 2 ((pa0.gList.length:Nat):Int)) fun x61 h41=>oG fun z42=>?_
  have:=t2 pa0.gList x61 2
  refine J5 (h_sl12Exprs (List.drop (x61:Int).toNat (List.take (((pa0.gList.length:Nat):Int):Int).toNat pa0.gList)) bM bM) fun x64 h43 h43B=>?_
  have:=(aU:wl ([]:List bC)=0∧_)
  have:=aG.wt_mk 12 s_ s_ 0 x59 x64 []
  exact TY
 have:tC.size=4:=rfl
 refine oD (fun g44=>?_) fun g44=>?_
 ·have:=congrArg ByteArray.size g44
  have:=aV pa0.gList
  refine oB (gO 2 ((pa0.gList.length:Nat):Int)) fun x67 h45=>oG fun z46=>?_
  have:=afP pa0.gList x67
  refine J5 (h_sl12Exprs (List.drop (1:Int).toNat (List.take (x67:Int).toNat pa0.gList)) bM bM) fun x70 h47 h47B=>?_
  have:=(aU:wl ([]:List bC)=0∧_)
  refine afO (PA:=fun a=>EX a.gBody) pa0.gList 2 (fun i71 v73 hl49 hI50 hI50B _ _=>?_) ?_
  ·have:=cE pa0.gList i71 hl49
   refine J5 (h_sl12Arm (a5 pa0.gList i71) bM bM) fun x77 h51 h51B=>?_
   have:=aV (v73)
   have:=b5 x77
   refine oG fun z52=>?_
   have:=bU v73 ([x77]:List bC)
   exact oX hI50B
  rintro v73 ⟨h48,h48B⟩
  have:=(aU:wl ([]:List aB)=0∧_)
  have:=aB.wt_mk 0 s_ []
  have:=aG.wt_mk 7 s_ s_ 0 (aB.mk 0 s_ []) x70 v73
  exact TY
 have:=aV pa0.gList
 refine oB (gO 1 ((pa0.gList.length:Nat):Int)) fun x80 h53=>oG fun z54=>?_
 have:=t2 pa0.gList x80 1
 refine J5 (h_sl12Exprs (List.drop (x80:Int).toNat (List.take (((pa0.gList.length:Nat):Int):Int).toNat pa0.gList)) bM bM) fun x83 h55 h55B=>?_
 have:=(aU:wl ([]:List aB)=0∧_)
 have:=aB.wt_mk 0 s_ []
 have:=(aU:wl ([]:List bC)=0∧_)
 have:=aG.wt_mk 10 s_ y18.gAtom 0 (aB.mk 0 s_ []) x83 []
 exact TY
theorem S8{n fu:Nat}(hfu:2147483648≤fu)(kD:vZ fu)(eN:xO fu)(eX:w5 fu)(gO:GM fu)(fW:LI fu)(gD:yR fu){r_sl12Expr:gB}(h_sl12Expr:uS n r_sl12Expr){r_sl12Exprs:fH}(h_sl12Exprs:s7 n r_sl12Exprs){r_sl12Arm:hP}(h_sl12Arm:w6 n r_sl12Arm):s7 (n+1) (AE fu r_sl12Expr r_sl12Exprs r_sl12Arm):=by
 intro plist hm hpre
 have:=(aU:wl ([]:List aG)=0∧_)
 refine afO (PA:=fun a=>EX a) plist 2 (fun i1 v3 hl2 hI3 hI3B _ _=>?_) ?_
 ·have:=aV plist
  have:=cE plist i1 hl2
  refine J5 (h_sl12Expr (a5 plist i1) bM bM) fun x7 h4 h4B=>?_
  have:=aV (v3)
  have:=b5 x7
  refine oG fun z5=>?_
  have:=bU v3 ([x7]:List aG)
  exact oX hI3B
 rintro v3 ⟨h1,h1B⟩
 exact TY
theorem XU{n fu:Nat}(hfu:2147483648≤fu)(kD:vZ fu)(eN:xO fu)(eX:w5 fu)(gO:GM fu)(fW:LI fu)(gD:yR fu){r_sl12Expr:gB}(h_sl12Expr:uS n r_sl12Expr){r_sl12Exprs:fH}(h_sl12Exprs:s7 n r_sl12Exprs){r_sl12Arm:hP}(h_sl12Arm:w6 n r_sl12Arm):w6 (n+1) (I5 fu r_sl12Expr r_sl12Exprs r_sl12Arm):=by
 intro px hm hpre
 have:=aA.wt_eq px
 have:=aV px.gList
 refine oD (fun g1=>?_) fun g1=>?_
 ·have:s_.size=0:=rfl
  have:=(aU:wl ([]:List aB)=0∧_)
  have:=aB.wt_mk 0 s_ []
  have:=(aU:wl ([]:List aG)=0∧_)
  have:=(aU:wl ([]:List bC)=0∧_)
  have:=aG.wt_mk 0 s_ s_ 0 (aB.mk 0 s_ []) [] []
  have:=(aU:wl ([]:List ByteArray)=0∧_)
  have:=bC.wt_mk s_ [] (aG.mk 0 s_ s_ 0 (aB.mk 0 s_ []) [] [])
  exact TY
 have:=eB (((px.gList.length:Nat):Int)-1)
 refine oG fun z2=>?_
 have:=LZ (1:Int).toNat (aQ (((px.gList.length:Nat):Int)-1):Int).toNat px.gList
 have:=agZ px.gList (aQ (((px.gList.length:Nat):Int)-1):Int).toNat
 have:=DT px.gList (aQ (((px.gList.length:Nat):Int)-1):Int).toNat
 have:=l8 px.gList ((aQ (((px.gList.length:Nat):Int)-1):Int).toNat+1)
 refine rV (gD (List.drop (1:Int).toNat (List.take (aQ (((px.gList.length:Nat):Int)-1):Int).toNat px.gList)) bM) fun x4 x5 h3=>?_
 dsimp only at h3
 have:=aV (px.gList)
 refine oG fun z4=>oG fun z5=>?_
 have:=cE px.gList ((aQ (((px.gList.length:Nat):Int)-1)).toNat) z5.2
 refine Ok.lt fun y8 h6=>?_
 have:=congrArg wt h6
 refine J5 (h_sl12Expr y8 bM bM) fun x11 h7 h7B=>?_
 have:=cE px.gList 0 z4
 have:wl (List.take 1 px.gList)=wl (List.take 0 px.gList)+wt (a5 px.gList 0)+1:=DT px.gList 0 z4
 have:=aA.wt_eq (a5 px.gList 0)
 have:=bC.wt_mk ((a5 px.gList 0).gAtom) x4 x11
 exact TY
theorem YN(n:Nat):b6 fun fu=>uS n (fS fu)∧s7 n (iK fu)∧w6 n (lK fu):=by
 induction n with
 |zero=>exact .all fun fu=>⟨fun _ h=>absurd h (Nat.not_lt_zero _),fun _ h=>absurd h (Nat.not_lt_zero _),fun _ h=>absurd h (Nat.not_lt_zero _)⟩
 |succ n ih=>exact b6.succ ((ih.and (((((((b6.ge 2147483648).and kD).and eN).and eX).and gO).and fW).and gD)).imp fun fu ⟨h,⟨⟨⟨⟨⟨⟨hfu,kD⟩,eN⟩,eX⟩,gO⟩,fW⟩,gD⟩⟩=>⟨fun pa0=>by rw [fS];exact V2 hfu kD eN eX gO fW gD h.1 h.2.1 h.2.2 pa0,fun plist=>by rw [iK];exact S8 hfu kD eN eX gO fW gD h.1 h.2.1 h.2.2 plist,fun px=>by rw [lK];exact XU hfu kD eN eX gO fW gD h.1 h.2.1 h.2.2 px⟩)
theorem mE:b6 X0:=(YN 8589934592).imp fun fu h pa0 hpre=>h.1 pa0 bM hpre
def aeK(fu:Nat):Prop:= ∀(pa0:aG),wt pa0≤2097152→(EX pa0)→Ok (kJ fu pa0) (fun r=>wt r+8≤32*(wt pa0+1))
def G2(n:Nat)(m:mS):Prop:= ∀(pa0:aG),2*wt pa0+1<n→wt pa0≤2097152→(EX pa0)→Ok (m pa0) (fun r=>wt r+8≤32*(wt pa0+1))
def yN(n:Nat)(m:iR):Prop:= ∀(phead:List aA) (plist:List aG),2*wl plist<n→wl phead≤33554432∧wl plist≤2097152→(∀a∈plist,EX a)→Ok (m phead plist) (fun r=>wt r≤wl phead+32*wl plist)
theorem acP{n fu:Nat}(hfu:2147483648≤fu)(kC:yK fu)(bL:BT fu)(gI:RY fu)(kU:FP fu){r_sl12Sx:mS}(h_sl12Sx:G2 n r_sl12Sx){r_sl12Args:iR}(h_sl12Args:yN n r_sl12Args):G2 (n+1) (MD fu r_sl12Sx r_sl12Args):=by
 intro pa0 hm hpre hB
 have hN:=hB.num
 have:=aG.wt_eq pa0
 refine oD (fun g1=>?_) fun g1=>?_
 ·exact oB (kC pa0.gN bM) fun x3 h2=>oB (bL x3) fun x5 h3=>oS
 refine oD (fun g4=>?_) fun g4=>?_
 ·have:jX.size=5:=rfl
  have:nC.size=4:=rfl
  have:=iY jX nC
  have:=a3 jX
  have:=a3 nC
  refine oG fun z5=>?_
  have:=cE ([jX,nC]:List ByteArray) ((pa0.gN).toNat) z5.2
  have:=a3 (a5 ([jX,nC]:List ByteArray) ((pa0.gN).toNat))
  exact oB (bL (a5 ([jX,nC]:List ByteArray) ((pa0.gN).toNat))) fun x9 h6=>oS
 refine oD (fun g7=>?_) fun g7=>?_
 ·exact oB (bL pa0.gName) fun x12 h8=>oS
 refine oD (fun g9=>?_) fun g9=>?_
 ·have:I4.size=4:=rfl
  refine oB (bL I4) fun x15 h10=>oB (bL pa0.gName) fun x17 h11=>?_
  have:=iY x15 x17
  refine oB (h_sl12Args ([x15,x17]:List aA) pa0.gArgs bM bM (by exact hB.arg)) fun x19 h12=>?_
  have:=aA.wt_eq x19
  have:=aA.wt_mk x19.gAtom x19.gList
  exact oS
 refine oD (fun g13=>?_) fun g13=>?_
 ·have:mM.size=6:=rfl
  refine oB (bL mM) fun x22 h14=>oB (bL pa0.gTrait) fun x24 h15=>oB (bL pa0.gName) fun x26 h16=>?_
  have:=BH x22 x24 x26
  refine oB (h_sl12Args ([x22,x24,x26]:List aA) pa0.gArgs bM bM (by exact hB.arg)) fun x28 h17=>?_
  have:=aA.wt_eq x28
  have:=aA.wt_mk x28.gAtom x28.gList
  exact oS
 refine oD (fun g18=>?_) fun g18=>?_
 ·have:zJ.size=3:=rfl
  refine oB (bL zJ) fun x31 h19=>oB (bL pa0.gName) fun x33 h20=>?_
  have:=iY x31 x33
  refine oB (h_sl12Args ([x31,x33]:List aA) pa0.gArgs bM bM (by exact hB.arg)) fun x35 h21=>?_
  have:=aA.wt_eq x35
  have:=aA.wt_mk x35.gAtom x35.gList
  exact oS
 refine oD (fun g22=>?_) fun g22=>?_
 ·have:zK.size=3:=rfl
  refine oB (bL zK) fun x38 h23=>oB (bL pa0.gName) fun x40 h24=>?_
  have:=iY x38 x40
  refine oB (h_sl12Args ([x38,x40]:List aA) pa0.gArgs bM bM (by exact hB.arg)) fun x42 h25=>?_
  have:=aA.wt_eq x42
  have:=aA.wt_mk x42.gAtom x42.gList
  exact oS
 refine oD (fun g26=>?_) fun g26=>?_
 ·have:y1.size=2:=rfl
  refine oB (bL y1) fun x45 h27=>?_
  have:=b5 x45
  refine oB (h_sl12Args ([x45]:List aA) pa0.gArgs bM bM (by exact hB.arg)) fun x47 h28=>?_
  have:=aA.wt_eq x47
  have:=aA.wt_mk x47.gAtom x47.gList
  exact oS
 refine oD (fun g29=>?_) fun g29=>?_
 ·refine oB (bL pa0.gName) fun x50 h30=>?_
  have:=b5 x50
  refine oB (h_sl12Args ([x50]:List aA) pa0.gArgs bM bM (by exact hB.arg)) fun x52 h31=>?_
  have:=aA.wt_eq x52
  have:=aA.wt_mk x52.gAtom x52.gList
  exact oS
 refine oD (fun g32=>?_) fun g32=>?_
 ·have:tP.size=4:=rfl
  refine oB (bL tP) fun x55 h33=>oB (bL pa0.gTrait) fun x57 h34=>?_
  have:=iY x55 x57
  refine oB (h_sl12Args ([x55,x57]:List aA) pa0.gArgs bM bM (by exact hB.arg)) fun x59 h35=>?_
  have:=aA.wt_eq x59
  have:=aA.wt_mk x59.gAtom x59.gList
  exact oS
 refine oD (fun g36=>?_) fun g36=>?_
 ·have:QJ.size=3:=rfl
  refine oB (bL QJ) fun x62 h37=>oB (gI pa0.gType bM) fun x64 h38=>?_
  have:=iY x62 x64
  refine oB (h_sl12Args ([x62,x64]:List aA) pa0.gArgs bM bM (by exact hB.arg)) fun x66 h39=>?_
  have:=aA.wt_eq x66
  have:=aA.wt_mk x66.gAtom x66.gList
  exact oS
 have:tC.size=4:=rfl
 refine oB (bL tC) fun x68 h40=>?_
 have:=b5 x68
 refine oB (h_sl12Args ([x68]:List aA) pa0.gArgs bM bM (by exact hB.arg)) fun x70 h41=>?_
 have:=aA.wt_eq x70
 refine DJ pa0.gArms 32 (fun i71 v73 hl43 hI44 _ _=>?_) ?_
 ·have:=aV pa0.gArms
  have:=cE pa0.gArms i71 hl43
  refine Ok.lt fun y76 h45=>?_
  have:=congrArg wt h45
  have:=bC.wt_eq y76
  refine oB (bL y76.gConstructor) fun x79 h46=>oB (kU y76.gVars bM) fun x81 h47=>?_
  have:=b5 x79
  have:=aV (x81)
  refine oG fun z48=>oB (h_sl12Sx y76.gBody bM bM (by rw [show y76=a5 pa0.gArms i71 by assumption];exact TA hB.arm (by assumption))) fun x84 h49=>?_
  have:=bU ([x79]:List aA) x81
  have:=b5 x84
  refine oG fun z50=>?_
  have:=aV (v73)
  have:s_.size=0:=rfl
  have:=bU (([x79]:List aA)++x81) ([x84]:List aA)
  have:=aA.wt_mk s_ ((([x79]:List aA)++x81)++([x84]:List aA))
  have:=b5 (aA.mk s_ ((([x79]:List aA)++x81)++([x84]:List aA)))
  refine oG fun z51=>?_
  have:=bU v73 ([(aA.mk s_ ((([x79]:List aA)++x81)++([x84]:List aA)))]:List aA)
  exact lU
 intro v73 h42
 have:=aA.wt_mk x70.gAtom v73
 exact oS
theorem W3{n fu:Nat}(hfu:2147483648≤fu)(kC:yK fu)(bL:BT fu)(gI:RY fu)(kU:FP fu){r_sl12Sx:mS}(h_sl12Sx:G2 n r_sl12Sx){r_sl12Args:iR}(h_sl12Args:yN n r_sl12Args):yN (n+1) (EZ fu r_sl12Sx r_sl12Args):=by
 intro phead plist hm hpre hB
 refine DJ plist 32 (fun i1 v3 hl2 hI3 _ _=>?_) ?_
 ·have:=aV plist
  have:=cE plist i1 hl2
  refine Ok.lt fun y6 h4=>?_
  have:=congrArg wt h4
  refine oB (h_sl12Sx y6 bM bM (by rw [show y6=a5 plist i1 by assumption];exact TA hB (by assumption))) fun x9 h5=>?_
  have:=aV (v3)
  have:=b5 x9
  refine oG fun z6=>?_
  have:=bU v3 ([x9]:List aA)
  exact lU
 intro v3 h1
 have:s_.size=0:=rfl
 have:=aA.wt_mk s_ v3
 exact oS
theorem aeB(n:Nat):b6 fun fu=>G2 n (kJ fu)∧yN n (mI fu):=by
 induction n with
 |zero=>exact .all fun fu=>⟨fun _ h=>absurd h (Nat.not_lt_zero _),fun _ _ h=>absurd h (Nat.not_lt_zero _)⟩
 |succ n ih=>exact b6.succ ((ih.and (((((b6.ge 2147483648).and kC).and bL).and gI).and kU)).imp fun fu ⟨h,⟨⟨⟨⟨hfu,kC⟩,bL⟩,gI⟩,kU⟩⟩=>⟨fun pa0=>by rw [kJ];exact acP hfu kC bL gI kU h.1 h.2 pa0,fun phead plist=>by rw [mI];exact W3 hfu kC bL gI kU h.1 h.2 phead plist⟩)
theorem qP:b6 aeK:=(aeB 8589934592).imp fun fu h pa0 hpre hB=>h.1 pa0 bM hpre hB
end Go.Proofs.YtpioomclpaiomaaGreat.W

namespace Go.Proofs.YtpioomclpaiomaaGreat.W
set_option linter.unusedSimpArgs false
set_option linter.unusedVariables false
set_option maxRecDepth 20000
set_option maxHeartbeats 4000000
open Go.RowKit Go.WalkArith Go.IntWalk
attribute [local irreducible] wt wl
def Z3(fu:Nat):Prop:= ∀(pe:aG) (pleft:Int),wt pe≤1073741824→Ok (k8 fu pe pleft) (fun _=>True)
def ES(n:Nat)(m:lY):Prop:= ∀(pe:aG) (pleft:Int),wt pe<n→wt pe≤1073741824→Ok (m pe pleft) (fun _=>True)
theorem UX{n fu:Nat}(hfu:2147483648≤fu){r_sl11Left:lY}(h_sl11Left:ES n r_sl11Left):ES (n+1) (FU fu r_sl11Left):=by
 intro pe pleft hm hpre
 refine oEN (fun i1 v2 hl2=>?_) ?_
 ·have:=aG.wt_eq pe
  have:=aV pe.gArgs
  refine oD (fun g4=>?_) fun g4=>?_
  ·have:=cE pe.gArgs i1 hl2
   refine Ok.lt fun y6 h5=>?_
   have:=congrArg wt h5
   exact oB (h_sl11Left y6 v2 bM bM) fun x9 _=>lU
  exact oK
 intro v2 _
 refine oEN (fun i10 v11 hl8=>?_) ?_
 ·have:=aG.wt_eq pe
  have:=aV pe.gArms
  refine oD (fun g10=>?_) fun g10=>?_
  ·have:=cE pe.gArms i10 hl8
   refine Ok.lt fun y15 h11=>?_
   have:=congrArg wt h11
   have:=bC.wt_eq y15
   exact oB (h_sl11Left y15.gBody v11 bM bM) fun x18 _=>lU
  exact oK
 intro v11 _
 exact oS
theorem YB(n:Nat):b6 fun fu=>ES n (k8 fu):=by
 induction n with
 |zero=>exact .all fun fu=>fun _ _ h=>absurd h (Nat.not_lt_zero _)
 |succ n ih=>exact b6.succ ((ih.and (b6.ge 2147483648)).imp fun fu ⟨h,hfu⟩=>fun pe pleft=>by rw [k8];exact UX hfu h pe pleft)
theorem FL:b6 Z3:=(YB 8589934592).imp fun fu h pe pleft hpre=>h pe pleft bM hpre
def QD(fu:Nat):Prop:= ∀(pk:Int),Ok (H5 fu pk) (fun _=>True)
theorem wU:b6 QD:=(b6.ge 2147483648).imp fun fu hfu pk=>by
 refine zP ?_ ?_
 ·exact oD (fun _=>oI) fun g2=>oI
 intro v1 _
 refine oC (fun _=>oS) fun g3=>oD (fun _=>oS) fun g4=>?_;refine zP ?_ ?_
 ·exact oD (fun _=>oI) fun g6=>oI
 intro v5 _
 refine oC (fun _=>oS) fun g7=>oD (fun _=>oS) fun g8=>oD (fun _=>oS) fun g9=>?_;refine zP ?_ ?_
 ·exact oD (fun _=>oI) fun g11=>oI
 intro v10 _
 exact oC (fun _=>oS) fun g12=>oD (fun _=>oS) fun g13=>oD (fun _=>oS) fun g14=>oS
def L9(fu:Nat):Prop:= ∀(ps:ByteArray),Ok (ED fu ps) (fun _=>True)
theorem uL:b6 L9:=((b6.ge 2147483648).and c4).imp fun fu ⟨hfu,c4⟩ ps=>by
 have:vG.size=1:=rfl
 have:zY.size=1:=rfl
 have:G7.size=1:=rfl
 have:GU.size=1:=rfl
 have:F8.size=1:=rfl
 have:=ah9 vG zY G7 GU F8
 have:=a3 vG
 have:=a3 zY
 have:=a3 G7
 have:=a3 GU
 have:=a3 F8
 exact oB (c4 ([vG,zY,G7,GU,F8]:List ByteArray) ps) fun x2 _=>oS
def M7(fu:Nat):Prop:= ∀(pt:aB),Ok (pK fu pt) (fun _=>True)
theorem jU:b6 M7:=(b6.ge 2147483648).imp fun fu hfu pt=>by
 refine oD (fun g1=>?_) fun g1=>?_
 ·exact oD (fun _=>oS) fun g2=>oS
 exact oS
def Y2(fu:Nat):Prop:= ∀(pa0:aG),wt pa0≤1073741824→Ok (kS fu pa0) (fun _=>True)
def FG(n:Nat)(m:hQ):Prop:= ∀(pa0:aG),wt pa0<n→wt pa0≤1073741824→Ok (m pa0) (fun _=>True)
theorem V4{n fu:Nat}(hfu:2147483648≤fu)(wU:QD fu)(n9:aa9 fu)(bG:uM fu)(uL:L9 fu)(dV:AQ fu)(jU:M7 fu)(nS:M3 fu)(dU:BA fu){r_sl11Form:hQ}(h_sl11Form:FG n r_sl11Form):FG (n+1) (E7 fu r_sl11Form):=by
 intro pa0 hm hpre
 have:=aG.wt_eq pa0
 refine oB6 (wU pa0.gKind) fun x2 x3 x4 x5 x6 x7 _=>?_;refine zP ?_ ?_
 ·refine oB (n9 pa0.gKind 1 12) fun x9 _=>oW (fun _=>oL) fun g4=>oB (bG pa0.gTrait) fun x12 _=>oN (fun _=>oL) fun g6=>?_;refine oW (fun g7=>?_) fun g7=>?_
  ·refine oN (fun _=>oL) fun g8=>?_;refine oW (fun g9=>?_) fun g9=>?_
   ·exact oN (fun _=>oL) fun g10=>oN (fun _=>oL) fun g11=>oI
   exact oN (fun _=>oL) fun g12=>oI
  refine oW (fun g13=>?_) fun g13=>?_
  ·exact oN (fun _=>oL) fun g14=>oN (fun _=>oL) fun g15=>oI
  exact oN (fun _=>oL) fun g16=>oI
 rintro⟨⟩-
 refine zP ?_ ?_
 ·refine oD (fun g18=>?_) fun g18=>?_
  ·refine oB (uL pa0.gName) fun x26 _=>oW (fun _=>oL) fun g20=>?_;refine oN (fun g21=>?_) fun g21=>?_
   ·refine oB (bG pa0.gName) fun x30 _=>oN (fun _=>oL) fun g23=>?_;refine oW (fun g24=>?_) fun g24=>?_
    ·exact oN (fun _=>oL) fun g25=>oI
    exact oI
   exact oI
  refine oN (fun g26=>?_) fun g26=>?_
  ·refine oB (bG pa0.gName) fun x36 _=>oN (fun _=>oL) fun g28=>?_;refine oW (fun g29=>?_) fun g29=>?_
   ·exact oN (fun _=>oL) fun g30=>oI
   exact oI
  exact oI
 rintro⟨⟩-
 refine zP ?_ ?_
 ·refine oD (fun g32=>?_) fun g32=>?_
  ·have:=aV pa0.gArgs
   refine oN (fun _=>oL) fun g33=>?_;refine oD (fun g34=>?_) fun g34=>?_
   ·refine oD (fun _=>oL) fun g35=>?_;refine oC (fun g36=>?_) fun g36=>?_
    ·exact oB (dV pa0.gType bM) fun x46 _=>oW (fun _=>oL) fun g38=>oI
    exact oB (jU pa0.gType) fun x49 _=>oW (fun _=>oL) fun g40=>oI
   refine oC (fun g41=>?_) fun g41=>?_
   ·exact oB (dV pa0.gType bM) fun x53 _=>oW (fun _=>oL) fun g43=>oI
   exact oB (jU pa0.gType) fun x56 _=>oW (fun _=>oL) fun g45=>oI
  refine oD (fun g46=>?_) fun g46=>?_
  ·have:=aV pa0.gArgs
   refine oD (fun _=>oL) fun g47=>?_;refine oC (fun g48=>?_) fun g48=>?_
   ·exact oB (dV pa0.gType bM) fun x62 _=>oW (fun _=>oL) fun g50=>oI
   exact oB (jU pa0.gType) fun x65 _=>oW (fun _=>oL) fun g52=>oI
  refine oC (fun g53=>?_) fun g53=>?_
  ·exact oB (dV pa0.gType bM) fun x69 _=>oW (fun _=>oL) fun g55=>oI
  exact oB (jU pa0.gType) fun x72 _=>oW (fun _=>oL) fun g57=>oI
 rintro⟨⟩-
 refine zP ?_ ?_
 ·refine oD (fun g59=>?_) fun g59=>?_
  ·exact oB (n9 pa0.gN (-999999) 999999) fun x76 _=>oW (fun _=>oL) fun g61=>oI
  refine oD (fun g62=>?_) fun g62=>?_
  ·exact oB (n9 pa0.gN 0 1) fun x80 _=>oW (fun _=>oL) fun g64=>oI
  exact oI
 rintro⟨⟩-
 refine zP ?_ ?_
 ·refine Ok.loop1 ?_;rintro i82 ⟨⟩ hl66
  have:=aV pa0.gArgs
  have:=cE pa0.gArgs i82 hl66
  refine Ok.lt fun y85 h68=>?_
  have:=congrArg wt h68
  exact oB (h_sl11Form y85 bM bM) fun x88 _=>oW (fun _=>oR) fun g70=>lU
 rintro⟨⟩-
 refine zP ?_ ?_
 ·refine Ok.loop1 ?_;rintro i90 ⟨⟩ hl72
  have:=aV pa0.gArms
  have:=cE pa0.gArms i90 hl72
  refine Ok.lt fun y93 h74=>?_
  have:=congrArg wt h74
  have:=bC.wt_eq y93
  exact oB (bG y93.gConstructor) fun x96 _=>oW (fun _=>oR) fun g76=>oB (nS y93.gVars) fun x99 _=>oW (fun _=>oR) fun g78=>oB (dU y93.gVars) fun x102 _=>oW (fun _=>oR) fun g80=>oB (h_sl11Form y93.gBody bM bM) fun x105 _=>oW (fun _=>oR) fun g82=>lU
 rintro⟨⟩-
 exact oS
theorem aaD(n:Nat):b6 fun fu=>FG n (kS fu):=by
 induction n with
 |zero=>exact .all fun fu=>fun _ h=>absurd h (Nat.not_lt_zero _)
 |succ n ih=>exact b6.succ ((ih.and (((((((((b6.ge 2147483648).and wU).and n9).and bG).and uL).and dV).and jU).and nS).and dU)).imp fun fu ⟨h,⟨⟨⟨⟨⟨⟨⟨⟨hfu,wU⟩,n9⟩,bG⟩,uL⟩,dV⟩,jU⟩,nS⟩,dU⟩⟩=>fun pa0=>by rw [kS];exact V4 hfu wU n9 bG uL dV jU nS dU h pa0)
theorem EQ:b6 Y2:=(aaD 8589934592).imp fun fu h pa0 hpre=>h pa0 bM hpre
def NU(fu:Nat):Prop:= ∀(pe:aG),wt pe≤1073741824→Ok (uX fu pe) (fun _=>True)
theorem u9:b6 NU:=(((b6.ge 2147483648).and FL).and EQ).imp fun fu ⟨⟨hfu,FL⟩,EQ⟩ pe hpre=>by
 refine oB (FL pe 300 bM) fun x2 _=>?_;refine oD (fun g2=>?_) fun g2=>?_
 ·exact oB (EQ pe bM) fun x5 _=>oS
 exact oS
def JS(fu:Nat):Prop:= ∀(pa pb:List ByteArray),Ok (A4 fu pa pb) (fun _=>True)
theorem tA:b6 JS:=(b6.ge 2147483648).imp fun fu hfu pa pb=>by
 have:=aV pa
 have:=aV pb
 refine oN (fun _=>oS) fun g1=>?_;refine zP ?_ ?_
 ·refine Ok.loop1 ?_;rintro i2 ⟨⟩ hl3
  have:=aV (pb)
  exact oG fun z5=>oN (fun _=>oR) fun g6=>lU
 rintro⟨⟩-
 exact oS
def TR(fu:Nat):Prop:= ∀(pa0 pa1:aG),wt pa0≤536870912→Ok (iB fu pa0 pa1) (fun _=>True)
def yJ(n:Nat)(m:jI):Prop:= ∀(pa0 pa1:aG),wt pa0<n→wt pa0≤536870912→Ok (m pa0 pa1) (fun _=>True)
theorem O5{n fu:Nat}(hfu:2147483648≤fu)(qH:F5 fu)(tA:JS fu){r_sEqualExpr:jI}(h_sEqualExpr:yJ n r_sEqualExpr):yJ (n+1) (zE fu r_sEqualExpr):=by
 intro pa0 pa1 hm hpre
 have:=aG.wt_eq pa0
 have:=aG.wt_eq pa1
 refine oN (fun _=>oS) fun g1=>oN (fun _=>oS) fun g2=>oN (fun _=>oS) fun g3=>oN (fun _=>oS) fun g4=>oB (qH pa0.gType pa1.gType bM) fun x6 _=>oW (fun _=>oS) fun g6=>?_
 have:=aV pa0.gArgs
 have:=aV pa1.gArgs
 refine oN (fun _=>oS) fun g7=>?_
 have:=aV pa0.gArms
 have:=aV pa1.gArms
 refine oN (fun _=>oS) fun g8=>?_;refine zP ?_ ?_
 ·refine Ok.loop1 ?_;rintro i10 ⟨⟩ hl10
  have:=cE pa0.gArgs i10 hl10
  refine Ok.lt fun y13 h12=>?_
  have:=congrArg wt h12
  have:=aV (pa1.gArgs)
  refine oG fun z13=>?_
  have:=cE pa1.gArgs i10 z13
  refine Ok.lt fun y16 h14=>?_
  have:=congrArg wt h14
  exact oB (h_sEqualExpr y13 y16 bM bM) fun x19 _=>oW (fun _=>oR) fun g16=>lU
 rintro⟨⟩-
 refine zP ?_ ?_
 ·refine Ok.loop1 ?_;rintro i21 ⟨⟩ hl18
  have:=cE pa0.gArms i21 hl18
  refine Ok.lt fun y24 h20=>?_
  have:=congrArg wt h20
  have:=aV (pa1.gArms)
  refine oG fun z21=>?_
  have:=cE pa1.gArms i21 z21
  refine Ok.lt fun y27 h22=>?_
  have:=congrArg wt h22
  have:=bC.wt_eq y24
  have:=bC.wt_eq y27
  exact oN (fun _=>oR) fun g23=>oB (tA y24.gVars y27.gVars) fun x31 _=>oW (fun _=>oR) fun g25=>oB (h_sEqualExpr y24.gBody y27.gBody bM bM) fun x34 _=>oW (fun _=>oR) fun g27=>lU
 rintro⟨⟩-
 exact oS
theorem TE(n:Nat):b6 fun fu=>yJ n (iB fu):=by
 induction n with
 |zero=>exact .all fun fu=>fun _ _ h=>absurd h (Nat.not_lt_zero _)
 |succ n ih=>exact b6.succ ((ih.and (((b6.ge 2147483648).and qH).and tA)).imp fun fu ⟨h,⟨⟨hfu,qH⟩,tA⟩⟩=>fun pa0 pa1=>by rw [iB];exact O5 hfu qH tA h pa0 pa1)
theorem zG:b6 TR:=(TE 8589934592).imp fun fu h pa0 pa1 hpre=>h pa0 pa1 bM hpre
def X2(fu:Nat):Prop:= ∀(pa0:aG) (pa1 pa2:List ByteArray),wl pa1+wl pa2+2*wt pa0≤134217728→Ok (kQ fu pa0 pa1 pa2) (fun r=>wl r≤wl pa2+wt pa0+1)
def FN(n:Nat)(m:kY):Prop:= ∀(pa0:aG) (pa1 pa2:List ByteArray),wt pa0<n→wl pa1+wl pa2+2*wt pa0≤134217728→Ok (m pa0 pa1 pa2) (fun r=>wl r≤wl pa2+wt pa0+1)
theorem WQ{n fu:Nat}(hfu:2147483648≤fu)(c4:MJ fu){r_sl11Free:kY}(h_sl11Free:FN n r_sl11Free):FN (n+1) (D9 fu r_sl11Free):=by
 intro pa0 pa1 pa2 hm hpre
 have:=aG.wt_eq pa0
 refine Ok.sok (E:=fun v2=>wl v2+wl pa0.gArgs+wl pa0.gArms≤wl pa2+wt pa0+1) ?_ ?_
 ·refine oD (fun g2=>?_) fun g2=>?_
  ·refine oB (c4 pa1 pa0.gName) fun x5 _=>?_;refine oW (fun g4=>?_) fun g4=>?_
   ·refine oB (c4 pa2 pa0.gName) fun x8 _=>?_;refine oW (fun g6=>?_) fun g6=>?_
    ·have:=aV (pa2)
     have:=b5 pa0.gName
     have:=a3 pa0.gName
     refine oG fun z7=>?_
     have:=bU pa2 ([pa0.gName]:List ByteArray)
     exact oI
    exact oI
   exact oI
  exact oI
 intro v2 h1
 refine DJ pa0.gArgs 1 (fun i11 v13 hl9 hI10 _ _=>?_) ?_
 ·have:=aV pa0.gArgs
  refine oD (fun g11=>?_) fun g11=>?_
  ·refine oD (fun g12=>?_) fun g12=>?_
   ·have:=(aU:wl ([]:List ByteArray)=0∧_)
    have:=aV (pa1)
    refine oG fun z13=>?_
    have:=bU ([]:List ByteArray) pa1
    have:=b5 pa0.gName
    have:=a3 pa0.gName
    refine oG fun z14=>?_
    have:=cE pa0.gArgs i11 hl9
    refine Ok.lt fun y20 h15=>?_
    have:=congrArg wt h15
    have:=bU (([])++pa1) ([pa0.gName]:List ByteArray)
    exact oB (h_sl11Free y20 ((([])++pa1)++([pa0.gName]:List ByteArray)) v13 bM bM) fun x23 h16=>lU
   have:=cE pa0.gArgs i11 hl9
   refine Ok.lt fun y24 h17=>?_
   have:=congrArg wt h17
   exact oB (h_sl11Free y24 pa1 v13 bM bM) fun x27 h18=>lU
  have:=cE pa0.gArgs i11 hl9
  refine Ok.lt fun y28 h19=>?_
  have:=congrArg wt h19
  exact oB (h_sl11Free y28 pa1 v13 bM bM) fun x31 h20=>lU
 intro v13 h8
 refine DJ pa0.gArms 1 (fun i32 v34 hl22 hI23 _ _=>?_) ?_
 ·have:=aV pa0.gArms
  have:=cE pa0.gArms i32 hl22
  refine Ok.lt fun y37 h24=>?_
  have:=congrArg wt h24
  have:=(aU:wl ([]:List ByteArray)=0∧_)
  have:=aV (pa1)
  refine oG fun z25=>?_
  have:=bU ([]:List ByteArray) pa1
  have:=bC.wt_eq y37
  have:=aV (y37.gVars)
  refine oG fun z26=>?_
  have:=bU (([])++pa1) y37.gVars
  exact oB (h_sl11Free y37.gBody ((([])++pa1)++y37.gVars) v34 bM bM) fun x42 h27=>lU
 intro v34 h21
 exact oS
theorem ZK(n:Nat):b6 fun fu=>FN n (kQ fu):=by
 induction n with
 |zero=>exact .all fun fu=>fun _ _ _ h=>absurd h (Nat.not_lt_zero _)
 |succ n ih=>exact b6.succ ((ih.and ((b6.ge 2147483648).and c4)).imp fun fu ⟨h,⟨hfu,c4⟩⟩=>fun pa0 pa1 pa2=>by rw [kQ];exact WQ hfu c4 h pa0 pa1 pa2)
theorem EO:b6 X2:=(ZK 8589934592).imp fun fu h pa0 pa1 pa2 hpre=>h pa0 pa1 pa2 bM hpre
def JF(fu:Nat):Prop:= ∀(pe:aG),wt pe≤67108864→Ok (rZ fu pe) (fun r=>wl r≤wt pe+1)
theorem rG:b6 JF:=((b6.ge 2147483648).and EO).imp fun fu ⟨hfu,EO⟩ pe hpre=>by
 have:=(aU:wl ([]:List ByteArray)=0∧_)
 exact oB (EO pe ([]:List ByteArray) ([]:List ByteArray) bM) fun x2 h1=>oS
def Z6(fu:Nat):Prop:= ∀(pt:aB) (pvars:List ByteArray),wt pt+wl pvars≤67108864→Ok (lZ fu pt pvars) (fun _=>True)
theorem fG:b6 Z6:=((((b6.ge 2147483648).and rL).and c4).and dV).imp fun fu ⟨⟨⟨hfu,rL⟩,c4⟩,dV⟩ pt pvars hpre=>by
 refine oB (rL pt bM) fun x2 h1=>?_;refine zP ?_ ?_
 ·refine Ok.loop1 ?_;rintro i3 ⟨⟩ hl3
  have:=aV x2
  have:=cE x2 i3 hl3
  have:=a3 (a5 x2 i3)
  exact oB (c4 pvars (a5 x2 i3)) fun x7 _=>oW (fun _=>oR) fun g6=>lU
 rintro⟨⟩-
 exact oB (dV pt bM) fun x10 _=>oS
def abW(fu:Nat):Prop:= ∀(plist:List aB) (pvars:List ByteArray),wl plist+wl pvars≤67108864→Ok (BV fu plist pvars) (fun _=>True)
theorem uF:b6 abW:=((b6.ge 2147483648).and fG).imp fun fu ⟨hfu,fG⟩ plist pvars hpre=>by
 refine zP ?_ ?_
 ·refine Ok.loop1 ?_;rintro i1 ⟨⟩ hl2
  have:=aV plist
  have:=cE plist i1 hl2
  exact oB (fG (a5 plist i1) pvars bM) fun x5 _=>oW (fun _=>oR) fun g5=>lU
 rintro⟨⟩-
 exact oS
def YD(fu:Nat):Prop:= ∀(pe:aG),wt pe≤67108864→Ok (FM fu pe) (fun _=>True)
theorem FB:b6 YD:=((b6.ge 2147483648).and zG).imp fun fu ⟨hfu,zG⟩ pe hpre=>by
 have:s_.size=0:=rfl
 have:=(aU:wl ([]:List aB)=0∧_)
 have:=aB.wt_mk 0 s_ []
 have:=(aU:wl ([]:List aG)=0∧_)
 have:=(aU:wl ([]:List bC)=0∧_)
 have:=aG.wt_mk 0 s_ s_ 0 (aB.mk 0 s_ []) [] []
 exact oB (zG pe (aG.mk 0 s_ s_ 0 (aB.mk 0 s_ []) [] []) bM) fun x2 _=>oS
def UH(fu:Nat):Prop:= ∀(plist:List ByteArray) (pmost:Int),Ok (fI fu plist pmost) (fun _=>True)
theorem cP:b6 UH:=(((b6.ge 2147483648).and nS).and dU).imp fun fu ⟨⟨hfu,nS⟩,dU⟩ plist pmost=>by
 refine oD (fun g1=>?_) fun g1=>?_
 ·refine oB (nS plist) fun x3 _=>?_;refine oC (fun g3=>?_) fun g3=>?_
  ·exact oB (dU plist) fun x6 _=>oS
  exact oS
 exact oS
def Z0(fu:Nat):Prop:= ∀(pe:aG) (pvars:List ByteArray),wt pe+wl pvars≤67108864→Ok (u6 fu pe pvars) (fun _=>True)
theorem mJ:b6 Z0:=((((b6.ge 2147483648).and rG).and c4).and u9).imp fun fu ⟨⟨⟨hfu,rG⟩,c4⟩,u9⟩ pe pvars hpre=>by
 refine oB (rG pe bM) fun x2 h1=>?_;refine zP ?_ ?_
 ·refine Ok.loop1 ?_;rintro i3 ⟨⟩ hl3
  have:=aV x2
  have:=cE x2 i3 hl3
  have:=a3 (a5 x2 i3)
  exact oB (c4 pvars (a5 x2 i3)) fun x7 _=>oW (fun _=>oR) fun g6=>lU
 rintro⟨⟩-
 exact oB (u9 pe bM) fun x10 _=>oS
def abV(fu:Nat):Prop:= ∀(ps:aD),wt ps≤33554432→Ok (JD fu ps) (fun _=>True)
theorem HK:b6 abV:=(((((((b6.ge 2147483648).and bG).and uF).and fG).and FB).and cP).and mJ).imp fun fu ⟨⟨⟨⟨⟨⟨hfu,bG⟩,uF⟩,fG⟩,FB⟩,cP⟩,mJ⟩ ps hpre=>by
 have:=aD.wt_eq ps
 refine oB (bG ps.gName) fun x2 _=>oW (fun _=>oS) fun g2=>?_
 have:=aV ps.gParams
 refine oD (fun _=>oS) fun g3=>?_
 have:hU.size=4:=rfl
 have:=b5 hU
 have:=a3 hU
 refine oB (uF ps.gParams ([hU]:List ByteArray) bM) fun x6 _=>oW (fun _=>oS) fun g5=>oB (fG ps.gResult ([hU]:List ByteArray) bM) fun x9 _=>oW (fun _=>oS) fun g7=>?_;refine oW (fun g8=>?_) fun g8=>?_
 ·have:=aV ps.gVars
  refine oD (fun g9=>?_) fun g9=>?_
  ·exact oB (FB ps.gBody bM) fun x14 _=>oS
  exact oS
 refine oB (cP ps.gVars 5) fun x16 _=>?_;refine oC (fun g12=>?_) fun g12=>?_
 ·have:=aV ps.gVars
  have:=eB (((ps.gParams.length:Nat):Int)+1)
  refine oD (fun g13=>?_) fun g13=>?_
  ·exact oB (mJ ps.gBody ps.gVars bM) fun x20 _=>oS
  exact oS
 exact oS
def KZ(fu:Nat):Prop:= ∀(pt:aP),wt pt≤16777216→Ok (o9 fu pt) (fun _=>True)
theorem kA:b6 KZ:=((((b6.ge 2147483648).and HK).and bG).and cP).imp fun fu ⟨⟨⟨hfu,HK⟩,bG⟩,cP⟩ pt hpre=>by
 have:=(aU:wl ([]:List ByteArray)=0∧_)
 have:=aP.wt_eq pt
 refine DJ pt.gSignatures 1 (fun i1 v3 hl2 hI3 _ _=>?_) ?_
 ·have:=aV pt.gSignatures
  have:=cE pt.gSignatures i1 hl2
  refine Ok.lt fun y6 h4=>?_
  have:=congrArg wt h4
  refine oB (HK y6 bM) fun x9 _=>oW (fun _=>oR) fun g6=>?_
  have:=aV (v3)
  have:=aD.wt_eq y6
  have:=b5 y6.gName
  have:=a3 y6.gName
  refine oG fun z7=>?_
  have:=bU v3 ([y6.gName]:List ByteArray)
  exact lU
 intro v3 h1
 refine oC (fun g8=>?_) fun g8=>?_
 ·refine oC (fun _=>oS) fun g9=>oD (fun _=>oS) fun g10=>oD (fun _=>oS) fun g11=>oB (bG pt.gName) fun x17 _=>?_;refine oC (fun g13=>?_) fun g13=>?_
  ·refine oB (cP pt.gSupertraits 4) fun x20 _=>?_;refine oC (fun g15=>?_) fun g15=>?_
   ·exact oB (cP v3 6) fun x23 _=>oS
   exact oS
  exact oS
 refine oB (bG pt.gName) fun x25 _=>?_;refine oC (fun g18=>?_) fun g18=>?_
 ·refine oB (cP pt.gSupertraits 4) fun x28 _=>?_;refine oC (fun g20=>?_) fun g20=>?_
  ·exact oB (cP v3 6) fun x31 _=>oS
  exact oS
 exact oS
def EJ(fu:Nat):Prop:= ∀(pd:aI),wt pd≤16777216→Ok (mH fu pd) (fun _=>True)
theorem iA:b6 EJ:=((((b6.ge 2147483648).and uF).and bG).and cP).imp fun fu ⟨⟨⟨hfu,uF⟩,bG⟩,cP⟩ pd hpre=>by
 have:=(aU:wl ([]:List ByteArray)=0∧_)
 have:=aI.wt_eq pd
 refine DJ pd.gConstructors 1 (fun i1 v3 hl2 hI3 _ _=>?_) ?_
 ·have:=aV pd.gConstructors
  have:=cE pd.gConstructors i1 hl2
  have:=aC.wt_eq (a5 pd.gConstructors i1)
  have:=aV ((a5 pd.gConstructors i1).gFields)
  refine oD (fun _=>oR) fun g4=>oB (uF ((a5 pd.gConstructors i1).gFields) pd.gVars bM) fun x8 _=>oW (fun _=>oR) fun g6=>?_
  have:=aV (v3)
  have:=b5 ((a5 pd.gConstructors i1).gName)
  have:=a3 ((a5 pd.gConstructors i1).gName)
  refine oG fun z7=>?_
  have:=bU v3 ([((a5 pd.gConstructors i1).gName)]:List ByteArray)
  exact lU
 intro v3 h1
 refine oB (bG pd.gName) fun x12 _=>?_;refine oC (fun g9=>?_) fun g9=>?_
 ·refine oB (cP pd.gVars 3) fun x15 _=>?_;refine oC (fun g11=>?_) fun g11=>?_
  ·refine oD (fun g12=>?_) fun g12=>?_
   ·exact oB (cP v3 5) fun x19 _=>oS
   exact oS
  exact oS
 exact oS
def KL(fu:Nat):Prop:= ∀(pb:aJ),wt pb≤33554432→Ok (tT fu pb) (fun _=>True)
theorem tJ:b6 KL:=(((b6.ge 2147483648).and bG).and dV).imp fun fu ⟨⟨hfu,bG⟩,dV⟩ pb hpre=>by
 have:=aJ.wt_eq pb
 refine oB (bG pb.gTrait) fun x2 _=>?_;refine oC (fun g2=>?_) fun g2=>?_
 ·exact oB (dV pb.gType bM) fun x5 _=>oS
 exact oS
def U8(fu:Nat):Prop:= ∀(plist:List aJ) (pvars:List ByteArray),wl plist+wl pvars≤33554432→Ok (vT fu plist pvars) (fun _=>True)
theorem p6:b6 U8:=((((b6.ge 2147483648).and tJ).and fG).and jP).imp fun fu ⟨⟨⟨hfu,tJ⟩,fG⟩,jP⟩ plist pvars hpre=>by
 refine zP ?_ ?_
 ·refine Ok.loop1 ?_;rintro i1 ⟨⟩ hl2
  have:=aV plist
  have:=cE plist i1 hl2
  refine oB (tJ (a5 plist i1) bM) fun x5 _=>oW (fun _=>oR) fun g5=>?_
  have:=aJ.wt_eq (a5 plist i1)
  exact oB (fG ((a5 plist i1).gType) pvars bM) fun x8 _=>oW (fun _=>oR) fun g7=>oB (jP ((a5 plist i1).gType) bM) fun x11 _=>oC (fun _=>oR) fun g9=>lU
 rintro⟨⟩-
 exact oS
def FA(fu:Nat):Prop:= ∀(pa0:aH),wt pa0≤16777216→Ok (l4 fu pa0) (fun _=>True)
theorem hL:b6 FA:=(((((((((b6.ge 2147483648).and bG).and cP).and fG).and jP).and p6).and AV).and jU).and mJ).imp fun fu ⟨⟨⟨⟨⟨⟨⟨⟨hfu,bG⟩,cP⟩,fG⟩,jP⟩,p6⟩,AV⟩,jU⟩,mJ⟩ pa0 hpre=>by
 have:=aH.wt_eq pa0
 refine oB (bG pa0.gTrait) fun x2 _=>oW (fun _=>oS) fun g2=>oB (cP pa0.gVars 3) fun x5 _=>oW (fun _=>oS) fun g4=>oB (fG pa0.gHead pa0.gVars bM) fun x8 _=>oW (fun _=>oS) fun g6=>oB (jP pa0.gHead bM) fun x11 _=>oC (fun _=>oS) fun g8=>?_
 have:=aB.wt_eq pa0.gHead
 refine oD (fun _=>oS) fun g9=>oB (p6 pa0.gWhere pa0.gVars bM) fun x15 _=>oW (fun _=>oS) fun g11=>?_;refine zP ?_ ?_
 ·refine Ok.loop1 ?_;rintro i17 ⟨⟩ hl13
  have:=aV pa0.gVars
  have:=cE pa0.gVars i17 hl13
  have:=a3 (a5 pa0.gVars i17)
  exact oB (AV (a5 pa0.gVars i17) pa0.gHead bM) fun x21 _=>oW (fun _=>oR) fun g16=>lU
 rintro⟨⟩-
 refine zP ?_ ?_
 ·refine oC (fun g18=>?_) fun g18=>?_
  ·exact oB (fG pa0.gAssoc pa0.gVars bM) fun x25 _=>oW (fun _=>oL) fun g20=>oI
  exact oB (jU pa0.gAssoc) fun x28 _=>oW (fun _=>oL) fun g22=>oI
 rintro⟨⟩-
 have:=(aU:wl ([]:List ByteArray)=0∧_)
 refine DJ pa0.gMethods 1 (fun i30 v32 hl24 hI25 _ _=>?_) ?_
 ·have:=aV pa0.gMethods
  have:=cE pa0.gMethods i30 hl24
  refine Ok.lt fun y35 h26=>?_
  have:=congrArg wt h26
  have:=aN.wt_eq y35
  have:=aV y35.gVars
  refine oD (fun _=>oR) fun g27=>oB (cP y35.gVars 5) fun x39 _=>oW (fun _=>oR) fun g29=>oB (mJ y35.gBody y35.gVars bM) fun x42 _=>oW (fun _=>oR) fun g31=>?_
  have:=aV (v32)
  have:=b5 y35.gName
  have:=a3 y35.gName
  refine oG fun z32=>?_
  have:=bU v32 ([y35.gName]:List ByteArray)
  exact lU
 intro v32 h23
 exact oB (cP v32 6) fun x46 _=>oS
def FR(fu:Nat):Prop:= ∀(pf:aL),wt pf≤16777216→Ok (mF fu pf) (fun _=>True)
theorem hY:b6 FR:=((((((b6.ge 2147483648).and fG).and bG).and cP).and p6).and mJ).imp fun fu ⟨⟨⟨⟨⟨hfu,fG⟩,bG⟩,cP⟩,p6⟩,mJ⟩ pf hpre=>by
 have:=(aU:wl ([]:List ByteArray)=0∧_)
 have:=aL.wt_eq pf
 refine DJ pf.gParams 1 (fun i1 v3 hl2 hI3 _ _=>?_) ?_
 ·have:=aV pf.gParams
  have:=cE pf.gParams i1 hl2
  have:=aR.wt_eq (a5 pf.gParams i1)
  refine oB (fG ((a5 pf.gParams i1).gType) pf.gVars bM) fun x7 _=>oW (fun _=>oR) fun g5=>?_
  have:=aV (v3)
  have:=b5 ((a5 pf.gParams i1).gName)
  have:=a3 ((a5 pf.gParams i1).gName)
  refine oG fun z6=>?_
  have:=bU v3 ([((a5 pf.gParams i1).gName)]:List ByteArray)
  exact lU
 intro v3 h1
 refine oB (bG pf.gName) fun x11 _=>?_;refine oC (fun g8=>?_) fun g8=>?_
 ·refine oB (cP pf.gVars 3) fun x14 _=>?_;refine oC (fun g10=>?_) fun g10=>?_
  ·refine oB (p6 pf.gWhere pf.gVars bM) fun x17 _=>?_;refine oC (fun g12=>?_) fun g12=>?_
   ·refine oB (cP v3 5) fun x20 _=>?_;refine oC (fun g14=>?_) fun g14=>?_
    ·refine oB (fG pf.gResult pf.gVars bM) fun x23 _=>?_;refine oC (fun g16=>?_) fun g16=>?_
     ·exact oB (mJ pf.gBody v3 bM) fun x26 _=>oS
     exact oS
    exact oS
   exact oS
  exact oS
 exact oS
end Go.Proofs.YtpioomclpaiomaaGreat.W

namespace Go.Proofs.YtpioomclpaiomaaGreat.W
set_option linter.unusedSimpArgs false
set_option linter.unusedVariables false
set_option maxRecDepth 20000
set_option maxHeartbeats 4000000
open Go.RowKit Go.WalkArith Go.IntWalk
attribute [local irreducible] wt wl
def aeE(fu:Nat):Prop:= ∀(px:aA) (pi:Int),0≤pi∧wt px≤1073741824→Ok (cX fu px pi) (fun r=>wt r≤wt px)
theorem cA:b6 aeE:=(b6.ge 2147483648).imp fun fu hfu px pi hpre=>by
 have:=aA.wt_eq px
 have:=aV px.gList
 refine oD (fun g1=>?_) fun g1=>?_
 ·have:s_.size=0:=rfl
  have:=(aU:wl ([]:List aA)=0∧_)
  have:=aA.wt_mk s_ []
  exact oS
 have:=aV (px.gList)
 refine oG fun z2=>?_
 have:=cE px.gList ((pi).toNat) z2.2
 exact oS
def XI(fu:Nat):Prop:= ∀(px:aA),wt px≤1073741824→Ok (kF fu px) (fun r=>wl r≤wt px)
theorem fJ:b6 XI:=((b6.ge 2147483648).and gD).imp fun fu ⟨hfu,gD⟩ px hpre=>by
 have:=aA.wt_eq px
 refine rV (gD px.gList bM) fun x2 x3 h1=>?_
 dsimp only at h1
 exact oS
def X8(fu:Nat):Prop:= ∀(px:aA) (pi:Int),0≤pi→Ok (rT fu px pi) (fun r=>wl r≤wl px.gList)
theorem kP:b6 X8:=((b6.ge 2147483648).and gO).imp fun fu ⟨hfu,gO⟩ px pi hpre=>by
 have:=aA.wt_eq px
 have:=aV px.gList
 refine oB (gO pi ((px.gList.length:Nat):Int)) fun x2 h1=>oG fun z2=>?_
 have:=LZ (x2:Int).toNat (((px.gList.length:Nat):Int):Int).toNat px.gList
 exact oS
def ac7(fu:Nat):Prop:= ∀(plist:List aA),wl plist≤67108864→Ok (BS fu plist) (fun r=>wl r≤2*wl plist)
theorem uC:b6 ac7:=((b6.ge 2147483648).and fW).imp fun fu ⟨hfu,fW⟩ plist hpre=>by
 have:=(aU:wl ([]:List aB)=0∧_)
 refine DJ plist 2 (fun i1 v3 hl2 hI3 _ _=>?_) ?_
 ·have:=aV plist
  have:=cE plist i1 hl2
  refine oB (fW (a5 plist i1) bM) fun x7 h4=>?_
  have:=aV (v3)
  have:=b5 x7
  refine oG fun z5=>?_
  have:=bU v3 ([x7]:List aB)
  exact lU
 intro v3 h1
 exact oS
def WU(fu:Nat):Prop:= ∀(plist:List ByteArray),wl plist≤1073741824→Ok (jK fu plist) (fun r=>wt r≤wl plist)
theorem eZ:b6 WU:=((b6.ge 2147483648).and kU).imp fun fu ⟨hfu,kU⟩ plist hpre=>by
 refine oB (kU plist bM) fun x2 h1=>?_
 have:s_.size=0:=rfl
 have:=aA.wt_mk s_ x2
 exact oS
def UB(fu:Nat):Prop:= ∀(plist:List aB),wl plist≤33554432→Ok (vM fu plist) (fun r=>wl r≤8*wl plist)
theorem p5:b6 UB:=((b6.ge 2147483648).and gI).imp fun fu ⟨hfu,gI⟩ plist hpre=>by
 have:=(aU:wl ([]:List aA)=0∧_)
 refine DJ plist 8 (fun i1 v3 hl2 hI3 _ _=>?_) ?_
 ·have:=aV plist
  have:=cE plist i1 hl2
  refine oB (gI (a5 plist i1) bM) fun x7 h4=>?_
  have:=aV (v3)
  have:=b5 x7
  refine oG fun z5=>?_
  have:=bU v3 ([x7]:List aA)
  exact lU
 intro v3 h1
 exact oS
def aeQ(fu:Nat):Prop:= ∀(pok:Bool) (px:aA),wt px≤1073741824→Ok (xI fu pok px) (fun r=>wt r≤wt px)
theorem mP:b6 aeQ:=((b6.ge 2147483648).and cI).imp fun fu ⟨hfu,cI⟩ pok px hpre=>by
 refine oW (fun g1=>?_) fun g1=>?_
 ·have:s_.size=0:=rfl
  have:=(aU:wl ([]:List aA)=0∧_)
  have:=aA.wt_mk s_ []
  exact oS
 refine oB (cI px bM) fun x3 _=>?_;refine oW (fun g3=>?_) fun g3=>?_
 ·have:s_.size=0:=rfl
  have:=(aU:wl ([]:List aA)=0∧_)
  have:=aA.wt_mk s_ []
  exact oS
 exact oS
def KP(fu:Nat):Prop:= ∀(pa0:aP),wt pa0≤1048576→(∀a∈pa0.gSignatures,EX a.gBody)→Ok (tH fu pa0) (fun r=>wt r≤64*wt pa0+64)
theorem tE:b6 KP:=(((((((((b6.ge 2147483648).and kA).and bL).and eZ).and dX).and p5).and gI).and qP).and mP).imp fun fu ⟨⟨⟨⟨⟨⟨⟨⟨hfu,kA⟩,bL⟩,eZ⟩,dX⟩,p5⟩,gI⟩,qP⟩,mP⟩ pa0 hpre hB=>by
 refine oB (kA pa0 bM) fun x2 _=>?_;refine oW (fun g2=>?_) fun g2=>?_
 ·have:s_.size=0:=rfl
  have:=(aU:wl ([]:List aA)=0∧_)
  have:=aA.wt_mk s_ []
  exact oS
 refine Ok.sok (E:=fun v5=>wl v5≤5) ?_ ?_
 ·have:=aP.wt_eq pa0
  refine oC (fun g4=>?_) fun g4=>?_
  ·have:=(aU:wl ([]:List ByteArray)=0∧_)
   have:uT.size=4:=rfl
   have:=b5 uT
   have:=a3 uT
   refine oG fun z5=>?_
   have:=bU ([]:List ByteArray) ([uT]:List ByteArray)
   exact oI
  have:=(aU:wl ([]:List ByteArray)=0∧_)
  exact oI
 intro v5 h3
 refine Ok.sok (E:=fun v9=>wl v9≤11) ?_ ?_
 ·have:=aP.wt_eq pa0
  refine oC (fun g7=>?_) fun g7=>?_
  ·have:=aV (v5)
   have:gM.size=5:=rfl
   have:=b5 gM
   have:=a3 gM
   refine oG fun z8=>?_
   have:=bU v5 ([gM]:List ByteArray)
   exact oI
  exact oI
 intro v9 h6
 have:BR.size=5:=rfl
 refine oB (bL BR) fun x13 h9=>?_
 have:=aP.wt_eq pa0
 refine oB (bL pa0.gName) fun x15 h10=>oB (eZ pa0.gSupertraits bM) fun x17 h11=>oB (eZ v9 bM) fun x19 h12=>?_
 have:=ai0 x13 x15 x17 x19
 refine oB (dX ([x13,x15,x17,x19]:List aA) bM) fun x21 h13=>?_
 have:=aA.wt_eq x21
 refine DJ pa0.gSignatures 64 (fun i22 v24 hl15 hI16 _ _=>?_) ?_
 ·have:=aV pa0.gSignatures
  have:=cE pa0.gSignatures i22 hl15
  refine Ok.lt fun y27 h17=>?_
  have:=congrArg wt h17
  have:=aD.wt_eq y27
  refine oB (bL y27.gName) fun x30 h18=>oB (p5 y27.gParams bM) fun x32 h19=>oB (gI y27.gResult bM) fun x34 h20=>?_
  have:s_.size=0:=rfl
  have:=aA.wt_mk s_ x32
  have:=BH x30 (aA.mk s_ x32) x34
  refine oB (dX ([x30,(aA.mk s_ x32),x34]:List aA) bM) fun x36 h21=>?_;refine oC (fun g22=>?_) fun g22=>?_
  ·refine oB (eZ y27.gVars bM) fun x39 h23=>oB (qP y27.gBody bM (by rw [show y27=a5 pa0.gSignatures i22 by assumption];exact TA hB (by assumption))) fun x41 h24=>?_
   have:=aA.wt_eq x36
   have:=aV (x36.gList)
   have:=iY x39 x41
   refine oG fun z25=>?_
   have:=aV (v24)
   have:=bU x36.gList ([x39,x41]:List aA)
   have:=aA.wt_mk x36.gAtom (x36.gList++([x39,x41]:List aA))
   have:=b5 (aA.mk x36.gAtom (x36.gList++([x39,x41]:List aA)))
   refine oG fun z26=>?_
   have:=bU v24 ([(aA.mk x36.gAtom (x36.gList++([x39,x41]:List aA)))]:List aA)
   exact lU
  have:=aV (v24)
  have:=aA.wt_eq x36
  have:=aA.wt_mk x36.gAtom x36.gList
  have:=b5 (aA.mk x36.gAtom x36.gList)
  refine oG fun z27=>?_
  have:=bU v24 ([(aA.mk x36.gAtom x36.gList)]:List aA)
  exact lU
 intro v24 h14
 have:=aA.wt_mk x21.gAtom v24
 exact oB (mP true (aA.mk x21.gAtom v24) bM) fun x46 h28=>oS
def KV(fu:Nat):Prop:= ∀(pa0:aA),wt pa0≤65536→Ok (tM fu pa0) (fun r=>wt r.1≤16*wt pa0)
theorem tK:b6 KV:=(((((((((((b6.ge 2147483648).and cA).and fJ).and c4).and kP).and uC).and fW).and mE).and cI).and tE).and fL).imp fun fu ⟨⟨⟨⟨⟨⟨⟨⟨⟨⟨hfu,cA⟩,fJ⟩,c4⟩,kP⟩,uC⟩,fW⟩,mE⟩,cI⟩,tE⟩,fL⟩ pa0 hpre=>by
 refine oB (cA pa0 3 bM) fun x2 h1=>oB (fJ x2 bM) fun x4 h2=>oB (cA pa0 1 bM) fun x6 h3=>oB (cA pa0 2 bM) fun x8 h4=>oB (fJ x8 bM) fun x10 h5=>?_
 have:uT.size=4:=rfl
 refine oB (c4 x4 uT) fun x12 _=>?_
 have:gM.size=5:=rfl
 refine oB (c4 x4 gM) fun x14 _=>?_
 have:=aA.wt_eq pa0
 refine oB (kP pa0 4 bM) fun x16 h8=>?_
 have:=(aU:wl ([]:List aD)=0∧_)
 refine afO (PA:=fun a=>EX a.gBody) x16 8 (fun i17 v19 hl10 hI11 hI11B _ _=>?_) ?_
 ·have:=aV x16
  have:=cE x16 i17 hl10
  refine oB (cA (a5 x16 i17) 0 bM) fun x23 h12=>oB (cA (a5 x16 i17) 1 bM) fun x25 h13=>?_
  have:=aA.wt_eq x25
  refine oB (uC x25.gList bM) fun x27 h14=>oB (cA (a5 x16 i17) 2 bM) fun x29 h15=>oB (fW x29 bM) fun x31 h16=>?_
  have:=aA.wt_eq (a5 x16 i17)
  have:=aV ((a5 x16 i17).gList)
  refine oD (fun g17=>?_) fun g17=>?_
  ·refine oB (cA (a5 x16 i17) 3 bM) fun x34 h18=>oB (fJ x34 bM) fun x36 h19=>oB (cA (a5 x16 i17) 4 bM) fun x38 h20=>J5 (mE x38 bM) fun x40 h21 h21B=>?_
   have:=aV (v19)
   have:=aA.wt_eq x23
   have:=aD.wt_mk x23.gAtom x27 x31 true x36 x40
   have:=b5 (aD.mk x23.gAtom x27 x31 true x36 x40)
   refine oG fun z22=>?_
   have:=bU v19 ([(aD.mk x23.gAtom x27 x31 true x36 x40)]:List aD)
   exact oX hI11B
  have:=aV (v19)
  have:=aA.wt_eq x23
  have:s_.size=0:=rfl
  have:=(aU:wl ([]:List aB)=0∧_)
  have:=aB.wt_mk 0 s_ []
  have:=(aU:wl ([]:List aG)=0∧_)
  have:=(aU:wl ([]:List bC)=0∧_)
  have:=aG.wt_mk 0 s_ s_ 0 (aB.mk 0 s_ []) [] []
  have:=(aU:wl ([]:List ByteArray)=0∧_)
  have:=aD.wt_mk x23.gAtom x27 x31 false [] (aG.mk 0 s_ s_ 0 (aB.mk 0 s_ []) [] [])
  have:=b5 (aD.mk x23.gAtom x27 x31 false [] (aG.mk 0 s_ s_ 0 (aB.mk 0 s_ []) [] []))
  refine oG fun z23=>?_
  have:=bU v19 ([(aD.mk x23.gAtom x27 x31 false [] (aG.mk 0 s_ s_ 0 (aB.mk 0 s_ []) [] []))]:List aD)
  exact oX hI11B
 rintro v19 ⟨h9,h9B⟩
 refine oB (cI pa0 bM) fun x44 _=>?_;refine oW (fun g25=>?_) fun g25=>?_
 ·have:s_.size=0:=rfl
  have:=(aU:wl ([]:List ByteArray)=0∧_)
  have:=aP.wt_mk s_ [] false false []
  exact oS
 have:=aV pa0.gList
 refine oD (fun g26=>?_) fun g26=>?_
 ·have:s_.size=0:=rfl
  have:=(aU:wl ([]:List ByteArray)=0∧_)
  have:=aP.wt_mk s_ [] false false []
  exact oS
 have:=aA.wt_eq x6
 have:=aP.wt_mk x6.gAtom x10 x12 x14 v19
 refine oB (tE (aP.mk x6.gAtom x10 x12 x14 v19) bM (by first|assumption|trivial)) fun x48 h27=>oB (fL x48 pa0 bM) fun x50 _=>?_;refine oW (fun g29=>?_) fun g29=>?_
 ·have:s_.size=0:=rfl
  have:=(aU:wl ([]:List ByteArray)=0∧_)
  have:=aP.wt_mk s_ [] false false []
  exact oS
 exact oS
def D6(fu:Nat):Prop:= ∀(pd:aI),wt pd≤1048576→Ok (pX fu pd) (fun r=>wt r≤64*wt pd+64)
theorem pL:b6 D6:=(((((((b6.ge 2147483648).and bL).and eZ).and dX).and p5).and iA).and mP).imp fun fu ⟨⟨⟨⟨⟨⟨hfu,bL⟩,eZ⟩,dX⟩,p5⟩,iA⟩,mP⟩ pd hpre=>by
 have:IB.size=4:=rfl
 refine oB (bL IB) fun x2 h1=>?_
 have:=aI.wt_eq pd
 refine oB (bL pd.gName) fun x4 h2=>oB (eZ pd.gVars bM) fun x6 h3=>?_
 have:=BH x2 x4 x6
 refine oB (dX ([x2,x4,x6]:List aA) bM) fun x8 h4=>?_
 have:=aA.wt_eq x8
 refine DJ pd.gConstructors 64 (fun i9 v11 hl6 hI7 _ _=>?_) ?_
 ·have:=aV pd.gConstructors
  have:=cE pd.gConstructors i9 hl6
  have:=aC.wt_eq (a5 pd.gConstructors i9)
  refine oB (bL ((a5 pd.gConstructors i9).gName)) fun x15 h8=>oB (p5 ((a5 pd.gConstructors i9).gFields) bM) fun x17 h9=>?_
  have:=b5 x15
  have:=aV (x17)
  refine oG fun z10=>?_
  have:=aV (v11)
  have:s_.size=0:=rfl
  have:=bU ([x15]:List aA) x17
  have:=aA.wt_mk s_ (([x15]:List aA)++x17)
  have:=b5 (aA.mk s_ (([x15]:List aA)++x17))
  refine oG fun z11=>?_
  have:=bU v11 ([(aA.mk s_ (([x15]:List aA)++x17))]:List aA)
  exact lU
 intro v11 h5
 refine oB (iA pd bM) fun x21 _=>?_
 have:=aA.wt_mk x8.gAtom v11
 exact oB (mP x21 (aA.mk x8.gAtom v11) bM) fun x23 h13=>oS
def E6(fu:Nat):Prop:= ∀(px:aA),wt px≤65536→Ok (pE fu px) (fun r=>wt r.1≤16*wt px)
theorem pJ:b6 E6:=((((((((b6.ge 2147483648).and cA).and fJ).and kP).and uC).and cI).and pL).and fL).imp fun fu ⟨⟨⟨⟨⟨⟨⟨hfu,cA⟩,fJ⟩,kP⟩,uC⟩,cI⟩,pL⟩,fL⟩ px hpre=>by
 refine oB (cA px 1 bM) fun x2 h1=>oB (cA px 2 bM) fun x4 h2=>oB (fJ x4 bM) fun x6 h3=>?_
 have:=aA.wt_eq px
 refine oB (kP px 3 bM) fun x8 h4=>?_
 have:=(aU:wl ([]:List aC)=0∧_)
 refine DJ x8 4 (fun i9 v11 hl6 hI7 _ _=>?_) ?_
 ·have:=aV x8
  have:=cE x8 i9 hl6
  refine oB (cA (a5 x8 i9) 0 bM) fun x15 h8=>?_
  have:=aA.wt_eq (a5 x8 i9)
  refine oB (kP (a5 x8 i9) 1 bM) fun x17 h9=>oB (uC x17 bM) fun x19 h10=>?_
  have:=aV (v11)
  have:=aA.wt_eq x15
  have:=aC.wt_mk x15.gAtom x19
  have:=b5 (aC.mk x15.gAtom x19)
  refine oG fun z11=>?_
  have:=bU v11 ([(aC.mk x15.gAtom x19)]:List aC)
  exact lU
 intro v11 h5
 refine oB (cI px bM) fun x22 _=>?_;refine oW (fun g13=>?_) fun g13=>?_
 ·have:s_.size=0:=rfl
  have:=(aU:wl ([]:List ByteArray)=0∧_)
  have:=aI.wt_mk s_ [] []
  exact oS
 have:=aV px.gList
 refine oD (fun g14=>?_) fun g14=>?_
 ·have:s_.size=0:=rfl
  have:=(aU:wl ([]:List ByteArray)=0∧_)
  have:=aI.wt_mk s_ [] []
  exact oS
 have:=aA.wt_eq x2
 have:=aI.wt_mk x2.gAtom x6 v11
 refine oB (pL (aI.mk x2.gAtom x6 v11) bM) fun x26 h15=>oB (fL x26 px bM) fun x28 _=>?_;refine oW (fun g17=>?_) fun g17=>?_
 ·have:s_.size=0:=rfl
  have:=(aU:wl ([]:List ByteArray)=0∧_)
  have:=aI.wt_mk s_ [] []
  exact oS
 exact oS
def TF(fu:Nat):Prop:= ∀(px:aA),wt px≤33554432→Ok (t7 fu px) (fun r=>wl r≤4*wt px)
theorem nW:b6 TF:=(((b6.ge 2147483648).and cA).and fW).imp fun fu ⟨⟨hfu,cA⟩,fW⟩ px hpre=>by
 have:=(aU:wl ([]:List aJ)=0∧_)
 have:=aA.wt_eq px
 refine DJ px.gList 4 (fun i1 v3 hl2 hI3 _ _=>?_) ?_
 ·have:=aV px.gList
  have:=cE px.gList i1 hl2
  refine oB (cA (a5 px.gList i1) 0 bM) fun x7 h4=>oB (cA (a5 px.gList i1) 1 bM) fun x9 h5=>oB (fW x9 bM) fun x11 h6=>?_
  have:=aV (v3)
  have:=aA.wt_eq x7
  have:=aJ.wt_mk x7.gAtom x11
  have:=b5 (aJ.mk x7.gAtom x11)
  refine oG fun z7=>?_
  have:=bU v3 ([(aJ.mk x7.gAtom x11)]:List aJ)
  exact lU
 intro v3 h1
 exact oS
def UY(fu:Nat):Prop:= ∀(plist:List aJ),wl plist≤16777216→Ok (vX fu plist) (fun r=>wt r≤16*wl plist)
theorem qA:b6 UY:=((((b6.ge 2147483648).and bL).and gI).and dX).imp fun fu ⟨⟨⟨hfu,bL⟩,gI⟩,dX⟩ plist hpre=>by
 have:=(aU:wl ([]:List aA)=0∧_)
 refine DJ plist 16 (fun i1 v3 hl2 hI3 _ _=>?_) ?_
 ·have:=aV plist
  have:=cE plist i1 hl2
  have:=aJ.wt_eq (a5 plist i1)
  refine oB (bL ((a5 plist i1).gTrait)) fun x7 h4=>oB (gI ((a5 plist i1).gType) bM) fun x9 h5=>?_
  have:=iY x7 x9
  refine oB (dX ([x7,x9]:List aA) bM) fun x11 h6=>?_
  have:=aV (v3)
  have:=b5 x11
  refine oG fun z7=>?_
  have:=bU v3 ([x11]:List aA)
  exact lU
 intro v3 h1
 have:s_.size=0:=rfl
 have:=aA.wt_mk s_ v3
 exact oS
def FE(fu:Nat):Prop:= ∀(pa0:aH),wt pa0≤1048576→(∀a∈pa0.gMethods,EX a.gBody)→Ok (pZ fu pa0) (fun r=>wt r≤64*wt pa0+128)
theorem p4:b6 FE:=(((((((((b6.ge 2147483648).and hL).and gI).and dX).and bL).and eZ).and qA).and qP).and mP).imp fun fu ⟨⟨⟨⟨⟨⟨⟨⟨hfu,hL⟩,gI⟩,dX⟩,bL⟩,eZ⟩,qA⟩,qP⟩,mP⟩ pa0 hpre hB=>by
 refine oB (hL pa0 bM) fun x2 _=>?_;refine oW (fun g2=>?_) fun g2=>?_
 ·have:s_.size=0:=rfl
  have:=(aU:wl ([]:List aA)=0∧_)
  have:=aA.wt_mk s_ []
  exact oS
 refine Ok.sok (E:=fun v5=>wl v5≤8) ?_ ?_
 ·have:=aH.wt_eq pa0
  refine oC (fun g4=>?_) fun g4=>?_
  ·have:=(aU:wl ([]:List ByteArray)=0∧_)
   have:sB.size=7:=rfl
   have:=b5 sB
   have:=a3 sB
   refine oG fun z5=>?_
   have:=bU ([]:List ByteArray) ([sB]:List ByteArray)
   exact oI
  have:=(aU:wl ([]:List ByteArray)=0∧_)
  exact oI
 intro v5 h3
 have:=aH.wt_eq pa0
 refine Ok.sok (E:=fun(v8,v9)=>v8.size+wl v9≤8*wt pa0.gAssoc+16) ?_ ?_
 ·refine oC (fun g7=>?_) fun g7=>?_
  ·refine oB (gI pa0.gAssoc bM) fun x12 h8=>?_
   have:=b5 x12
   refine oB (dX ([x12]:List aA) bM) fun x14 h9=>?_
   have:=aA.wt_eq x14
   exact oI
  have:s_.size=0:=rfl
  have:=(aU:wl ([]:List aA)=0∧_)
  exact oI
 rintro⟨v8,v9⟩ h6
 dsimp only at h6
 have:IJ.size=4:=rfl
 refine oB (bL IJ) fun x16 h10=>oB (bL pa0.gTrait) fun x18 h11=>oB (eZ pa0.gVars bM) fun x20 h12=>oB (gI pa0.gHead bM) fun x22 h13=>oB (qA pa0.gWhere bM) fun x24 h14=>oB (eZ v5 bM) fun x26 h15=>?_
 have:=aA.wt_mk v8 v9
 have:=aiO x16 x18 x20 x22 x24 x26 (aA.mk v8 v9)
 refine oB (dX ([x16,x18,x20,x22,x24,x26,(aA.mk v8 v9)]:List aA) bM) fun x28 h16=>?_
 have:=aA.wt_eq x28
 refine DJ pa0.gMethods 64 (fun i29 v31 hl18 hI19 _ _=>?_) ?_
 ·have:=aV pa0.gMethods
  have:=cE pa0.gMethods i29 hl18
  refine Ok.lt fun y34 h20=>?_
  have:=congrArg wt h20
  have:=aN.wt_eq y34
  refine oB (bL y34.gName) fun x37 h21=>oB (eZ y34.gVars bM) fun x39 h22=>oB (qP y34.gBody bM (by rw [show y34=a5 pa0.gMethods i29 by assumption];exact TA hB (by assumption))) fun x41 h23=>?_
  have:=BH x37 x39 x41
  refine oB (dX ([x37,x39,x41]:List aA) bM) fun x43 h24=>?_
  have:=aV (v31)
  have:=aA.wt_eq x43
  have:=aA.wt_mk x43.gAtom x43.gList
  have:=b5 (aA.mk x43.gAtom x43.gList)
  refine oG fun z25=>?_
  have:=bU v31 ([(aA.mk x43.gAtom x43.gList)]:List aA)
  exact lU
 intro v31 h17
 have:=aA.wt_mk x28.gAtom v31
 exact oB (mP true (aA.mk x28.gAtom v31) bM) fun x46 h26=>oS
def EN(fu:Nat):Prop:= ∀(pa0:aA),wt pa0≤65536→Ok (pQ fu pa0) (fun r=>wt r.1≤16*wt pa0)
theorem pO:b6 EN:=((((((((((b6.ge 2147483648).and cA).and fJ).and fW).and nW).and kP).and mE).and cI).and p4).and fL).imp fun fu ⟨⟨⟨⟨⟨⟨⟨⟨⟨hfu,cA⟩,fJ⟩,fW⟩,nW⟩,kP⟩,mE⟩,cI⟩,p4⟩,fL⟩ pa0 hpre=>by
 refine oB (cA pa0 1 bM) fun x2 h1=>oB (cA pa0 2 bM) fun x4 h2=>oB (fJ x4 bM) fun x6 h3=>oB (cA pa0 3 bM) fun x8 h4=>oB (fW x8 bM) fun x10 h5=>oB (cA pa0 4 bM) fun x12 h6=>oB (nW x12 bM) fun x14 h7=>oB (cA pa0 5 bM) fun x16 h8=>oB (cA pa0 6 bM) fun x18 h9=>?_;refine Ok.sok (E:=fun(v22,v19,v20,v21)=>wl v22+v21.size≤2*wt x18) ?_ ?_
 ·have:=aA.wt_eq x18
  have:=aV x18.gList
  refine oD (fun g11=>?_) fun g11=>?_
  ·have:=aV (x18.gList)
   refine oG fun z12=>?_
   have:=cE x18.gList 0 z12
   have:wl (List.take 1 x18.gList)=wl (List.take 0 x18.gList)+wt (a5 x18.gList 0)+1:=DT x18.gList 0 z12
   refine oB (fW (a5 x18.gList 0) bM) fun x26 h13=>?_
   have:=aB.wt_eq x26
   exact oI
  have:s_.size=0:=rfl
  have:=(aU:wl ([]:List aB)=0∧_)
  exact oI
 rintro⟨v22,v19,v20,v21⟩ h10
 dsimp only at h10
 have:=aA.wt_eq pa0
 refine oB (kP pa0 7 bM) fun x28 h14=>?_
 have:=(aU:wl ([]:List aN)=0∧_)
 refine afO (PA:=fun a=>EX a.gBody) x28 4 (fun i29 v31 hl16 hI17 hI17B _ _=>?_) ?_
 ·have:=aV x28
  have:=cE x28 i29 hl16
  refine oB (cA (a5 x28 i29) 0 bM) fun x35 h18=>oB (cA (a5 x28 i29) 1 bM) fun x37 h19=>oB (fJ x37 bM) fun x39 h20=>oB (cA (a5 x28 i29) 2 bM) fun x41 h21=>J5 (mE x41 bM) fun x43 h22 h22B=>?_
  have:=aV (v31)
  have:=aA.wt_eq x35
  have:=aN.wt_mk x35.gAtom x39 x43
  have:=b5 (aN.mk x35.gAtom x39 x43)
  refine oG fun z23=>?_
  have:=bU v31 ([(aN.mk x35.gAtom x39 x43)]:List aN)
  exact oX hI17B
 rintro v31 ⟨h15,h15B⟩
 refine oB (cI pa0 bM) fun x46 _=>?_;refine oW (fun g25=>?_) fun g25=>?_
 ·have:s_.size=0:=rfl
  have:=(aU:wl ([]:List aB)=0∧_)
  have:=aB.wt_mk 0 s_ []
  have:=(aU:wl ([]:List ByteArray)=0∧_)
  have:=(aU:wl ([]:List aJ)=0∧_)
  have:=aH.wt_mk s_ [] (aB.mk 0 s_ []) [] false false (aB.mk 0 s_ []) []
  exact oS
 have:=aV pa0.gList
 refine oD (fun g26=>?_) fun g26=>?_
 ·have:s_.size=0:=rfl
  have:=(aU:wl ([]:List aB)=0∧_)
  have:=aB.wt_mk 0 s_ []
  have:=(aU:wl ([]:List ByteArray)=0∧_)
  have:=(aU:wl ([]:List aJ)=0∧_)
  have:=aH.wt_mk s_ [] (aB.mk 0 s_ []) [] false false (aB.mk 0 s_ []) []
  exact oS
 have:=aA.wt_eq x2
 have:=aA.wt_eq x16
 have:=aV x16.gList
 have:=aB.wt_mk v20 v21 v22
 have:=aH.wt_mk x2.gAtom x6 x10 x14 (decide ((((x16.gList.length:Nat):Int):Int)>0)) v19 (aB.mk v20 v21 v22) v31
 refine oB (p4 (aH.mk x2.gAtom x6 x10 x14 (decide ((((x16.gList.length:Nat):Int):Int)>0)) v19 (aB.mk v20 v21 v22) v31) bM (by first|assumption|trivial)) fun x50 h27=>oB (fL x50 pa0 bM) fun x52 _=>?_;refine oW (fun g29=>?_) fun g29=>?_
 ·have:s_.size=0:=rfl
  have:=(aU:wl ([]:List aB)=0∧_)
  have:=aB.wt_mk 0 s_ []
  have:=(aU:wl ([]:List ByteArray)=0∧_)
  have:=(aU:wl ([]:List aJ)=0∧_)
  have:=aH.wt_mk s_ [] (aB.mk 0 s_ []) [] false false (aB.mk 0 s_ []) []
  exact oS
 exact oS
def D1(fu:Nat):Prop:= ∀(pf:aL),wt pf≤1048576→(EX pf.gBody)→Ok (pT fu pf) (fun r=>wt r≤64*wt pf+128)
theorem pG:b6 D1:=(((((((((b6.ge 2147483648).and hY).and bL).and gI).and dX).and eZ).and qA).and qP).and mP).imp fun fu ⟨⟨⟨⟨⟨⟨⟨⟨hfu,hY⟩,bL⟩,gI⟩,dX⟩,eZ⟩,qA⟩,qP⟩,mP⟩ pf hpre hB=>by
 refine oB (hY pf bM) fun x2 _=>?_;refine oW (fun g2=>?_) fun g2=>?_
 ·have:s_.size=0:=rfl
  have:=(aU:wl ([]:List aA)=0∧_)
  have:=aA.wt_mk s_ []
  exact oS
 have:=(aU:wl ([]:List aA)=0∧_)
 have:=aL.wt_eq pf
 refine DJ pf.gParams 16 (fun i4 v6 hl4 hI5 _ _=>?_) ?_
 ·have:=aV pf.gParams
  have:=cE pf.gParams i4 hl4
  have:=aR.wt_eq (a5 pf.gParams i4)
  refine oB (bL ((a5 pf.gParams i4).gName)) fun x10 h6=>oB (gI ((a5 pf.gParams i4).gType) bM) fun x12 h7=>?_
  have:=iY x10 x12
  refine oB (dX ([x10,x12]:List aA) bM) fun x14 h8=>?_
  have:=aV (v6)
  have:=b5 x14
  refine oG fun z9=>?_
  have:=bU v6 ([x14]:List aA)
  exact lU
 intro v6 h3
 have:ab3.size=2:=rfl
 refine oB (bL ab3) fun x17 h10=>oB (bL pf.gName) fun x19 h11=>oB (eZ pf.gVars bM) fun x21 h12=>oB (qA pf.gWhere bM) fun x23 h13=>oB (gI pf.gResult bM) fun x25 h14=>oB (qP pf.gBody bM (by first|assumption|trivial)) fun x27 h15=>?_
 have:s_.size=0:=rfl
 have:=aA.wt_mk s_ v6
 have:=aiO x17 x19 x21 x23 (aA.mk s_ v6) x25 x27
 exact oB (dX ([x17,x19,x21,x23,(aA.mk s_ v6),x25,x27]:List aA) bM) fun x29 h16=>oB (mP true x29 bM) fun x31 h17=>oS
def EU(fu:Nat):Prop:= ∀(pa0:aA),wt pa0≤65536→Ok (pR fu pa0) (fun r=>wt r.1≤16*wt pa0)
theorem pF:b6 EU:=(((((((((b6.ge 2147483648).and cA).and fJ).and nW).and fW).and mE).and cI).and pG).and fL).imp fun fu ⟨⟨⟨⟨⟨⟨⟨⟨hfu,cA⟩,fJ⟩,nW⟩,fW⟩,mE⟩,cI⟩,pG⟩,fL⟩ pa0 hpre=>by
 refine oB (cA pa0 1 bM) fun x2 h1=>oB (cA pa0 2 bM) fun x4 h2=>oB (fJ x4 bM) fun x6 h3=>oB (cA pa0 3 bM) fun x8 h4=>oB (nW x8 bM) fun x10 h5=>oB (cA pa0 5 bM) fun x12 h6=>oB (fW x12 bM) fun x14 h7=>oB (cA pa0 6 bM) fun x16 h8=>J5 (mE x16 bM) fun x18 h9 h9B=>oB (cA pa0 4 bM) fun x20 h10=>?_
 have:=(aU:wl ([]:List aR)=0∧_)
 have:=aA.wt_eq x20
 refine DJ x20.gList 4 (fun i21 v23 hl12 hI13 _ _=>?_) ?_
 ·have:=aV x20.gList
  have:=cE x20.gList i21 hl12
  refine oB (cA (a5 x20.gList i21) 0 bM) fun x27 h14=>oB (cA (a5 x20.gList i21) 1 bM) fun x29 h15=>oB (fW x29 bM) fun x31 h16=>?_
  have:=aV (v23)
  have:=aA.wt_eq x27
  have:=aR.wt_mk x27.gAtom x31
  have:=b5 (aR.mk x27.gAtom x31)
  refine oG fun z17=>?_
  have:=bU v23 ([(aR.mk x27.gAtom x31)]:List aR)
  exact lU
 intro v23 h11
 refine oB (cI pa0 bM) fun x34 _=>?_;refine oW (fun g19=>?_) fun g19=>?_
 ·have:s_.size=0:=rfl
  have:=(aU:wl ([]:List aB)=0∧_)
  have:=aB.wt_mk 0 s_ []
  have:=(aU:wl ([]:List aG)=0∧_)
  have:=(aU:wl ([]:List bC)=0∧_)
  have:=aG.wt_mk 0 s_ s_ 0 (aB.mk 0 s_ []) [] []
  have:=(aU:wl ([]:List ByteArray)=0∧_)
  have:=(aU:wl ([]:List aJ)=0∧_)
  have:=aL.wt_mk s_ [] [] [] (aB.mk 0 s_ []) (aG.mk 0 s_ s_ 0 (aB.mk 0 s_ []) [] [])
  exact oS
 have:=aA.wt_eq pa0
 have:=aV pa0.gList
 refine oD (fun g20=>?_) fun g20=>?_
 ·have:s_.size=0:=rfl
  have:=(aU:wl ([]:List aB)=0∧_)
  have:=aB.wt_mk 0 s_ []
  have:=(aU:wl ([]:List aG)=0∧_)
  have:=(aU:wl ([]:List bC)=0∧_)
  have:=aG.wt_mk 0 s_ s_ 0 (aB.mk 0 s_ []) [] []
  have:=(aU:wl ([]:List ByteArray)=0∧_)
  have:=(aU:wl ([]:List aJ)=0∧_)
  have:=aL.wt_mk s_ [] [] [] (aB.mk 0 s_ []) (aG.mk 0 s_ s_ 0 (aB.mk 0 s_ []) [] [])
  exact oS
 have:=aA.wt_eq x2
 have:=aL.wt_mk x2.gAtom x6 x10 v23 x14 x18
 refine oB (pG (aL.mk x2.gAtom x6 x10 v23 x14 x18) bM (by first|assumption|trivial)) fun x38 h21=>oB (fL x38 pa0 bM) fun x40 _=>?_;refine oW (fun g23=>?_) fun g23=>?_
 ·have:s_.size=0:=rfl
  have:=(aU:wl ([]:List aB)=0∧_)
  have:=aB.wt_mk 0 s_ []
  have:=(aU:wl ([]:List aG)=0∧_)
  have:=(aU:wl ([]:List bC)=0∧_)
  have:=aG.wt_mk 0 s_ s_ 0 (aB.mk 0 s_ []) [] []
  have:=(aU:wl ([]:List ByteArray)=0∧_)
  have:=(aU:wl ([]:List aJ)=0∧_)
  have:=aL.wt_mk s_ [] [] [] (aB.mk 0 s_ []) (aG.mk 0 s_ s_ 0 (aB.mk 0 s_ []) [] [])
  exact oS
 exact oS
end Go.Proofs.YtpioomclpaiomaaGreat.W

namespace Go.Proofs.YtpioomclpaiomaaGreat.W
set_option linter.unusedSimpArgs false
set_option linter.unusedVariables false
set_option maxRecDepth 20000
set_option maxHeartbeats 4000000
open Go.RowKit Go.WalkArith Go.IntWalk
def S2(fu:Nat):Prop:= ∀(ps:ByteArray) (pby:UInt8),ps.size≤1073741824→Ok (yW fu ps pby) (fun r=>wl r≤ps.size+1)
theorem yE:b6 S2:=(b6.ge 2147483648).imp fun fu hfu ps pby hpre=>by
 have:=(aU:wl ([]:List ByteArray)=0∧_)
 refine Ok.sok (E:=fun(v4,v2,v3)=>wl v4≤ps.size+1) ?_ ?_
 ·refine Ok.loopW (fun(v4,v2,v3)=>0≤v2∧v2≤v3∧v3≤((ps.size:Nat):Int)+1∧((wl v4:Nat):Int)≤v2) (fun(v4,v2,v3)=>(((ps.size:Nat):Int)+2-v3).toNat) ?_ _ _ bM bM
  rintro⟨v4,v2,v3⟩ hI3
  try dsimp only at hI3
  refine oD (fun g4=>?_) fun g4=>?_
  ·refine oD (fun g5=>?_) fun g5=>?_
   ·refine oG fun z6=>?_
    have:=aV (v4)
    have:=yP ps (v2:Int).toNat (v3:Int).toNat
    have:=b5 (ps.extract (v2:Int).toNat (v3:Int).toNat)
    have:=a3 (ps.extract (v2:Int).toNat (v3:Int).toNat)
    refine oG fun z7=>?_
    have:=bU v4 ([(ps.extract (v2:Int).toNat (v3:Int).toNat)]:List ByteArray)
    have:=eB (v3+1)
    exact lU
   refine oG fun z8=>?_;refine oD (fun g9=>?_) fun g9=>?_
   ·refine oG fun z10=>?_
    have:=aV (v4)
    have:=yP ps (v2:Int).toNat (v3:Int).toNat
    have:=b5 (ps.extract (v2:Int).toNat (v3:Int).toNat)
    have:=a3 (ps.extract (v2:Int).toNat (v3:Int).toNat)
    refine oG fun z11=>?_
    have:=bU v4 ([(ps.extract (v2:Int).toNat (v3:Int).toNat)]:List ByteArray)
    have:=eB (v3+1)
    exact lU
   have:=eB (v3+1)
   exact lU
  exact oK
 rintro⟨v4,v2,v3⟩ h1
 dsimp only at h1
 exact oS
def U1(fu:Nat):Prop:= ∀(ps:ByteArray),ps.size≤1073741824→Ok (BG fu ps) (fun _=>True)
theorem AY:b6 U1:=(b6.ge 2147483648).imp fun fu hfu ps hpre=>by
 refine zP ?_ ?_
 ·refine Ok.loop1 ?_;rintro i1 ⟨⟩ hl2
  exact oG fun z4=>oN (fun _=>oR) fun g5=>lU
 rintro⟨⟩-
 exact oS
def YF(fu:Nat):Prop:= ∀(pq0:ByteArray×(List ByteArray)×(List aP)×(List aI)×(List aH)×(List aL)) (pa1:aA),wt pa1≤65536∧wl pq0.2.2.1+wl pq0.2.2.2.1+wl pq0.2.2.2.2.1+wl pq0.2.2.2.2.2≤1073741824→Ok (E9 fu pq0 pa1) (fun r=>r.2.1.size+wl r.2.2.1+wl r.2.2.2.1+wl r.2.2.2.2.1+wl r.2.2.2.2.2.1+wl r.2.2.2.2.2.2≤pq0.1.size+wl pq0.2.1+wl pq0.2.2.1+wl pq0.2.2.2.1+wl pq0.2.2.2.2.1+wl pq0.2.2.2.2.2+16*wt pa1+1)
theorem FJ:b6 YF:=((((((b6.ge 2147483648).and cA).and tK).and pJ).and pO).and pF).imp fun fu ⟨⟨⟨⟨⟨hfu,cA⟩,tK⟩,pJ⟩,pO⟩,pF⟩ pq0 pa1 hpre=>by
 have:=aV pq0.2.2.1
 have:=aV pq0.2.2.2.1
 have:=aV pq0.2.2.2.2.1
 have:=aV pq0.2.2.2.2.2
 refine oB (cA pa1 0 bM) fun x2 h1=>?_
 have:=aA.wt_eq x2
 have:BR.size=5:=rfl
 refine oD (fun g2=>?_) fun g2=>?_
 ·have:=congrArg ByteArray.size g2
  refine rV (tK pa1 bM) fun x5 x6 h3=>?_
  dsimp only at h3
  have:=aV (pq0.2.2.1)
  have:=b5 x5
  refine oG fun z4=>?_
  have:=bU pq0.2.2.1 ([x5]:List aP)
  exact oS
 have:IB.size=4:=rfl
 refine oD (fun g5=>?_) fun g5=>?_
 ·have:=congrArg ByteArray.size g5
  refine rV (pJ pa1 bM) fun x10 x11 h6=>?_
  dsimp only at h6
  have:=aV (pq0.2.2.2.1)
  have:=b5 x10
  refine oG fun z7=>?_
  have:=bU pq0.2.2.2.1 ([x10]:List aI)
  exact oS
 have:IJ.size=4:=rfl
 refine oD (fun g8=>?_) fun g8=>?_
 ·have:=congrArg ByteArray.size g8
  refine rV (pO pa1 bM) fun x15 x16 h9=>?_
  dsimp only at h9
  have:=aV (pq0.2.2.2.2.1)
  have:=b5 x15
  refine oG fun z10=>?_
  have:=bU pq0.2.2.2.2.1 ([x15]:List aH)
  exact oS
 have:ab3.size=2:=rfl
 refine oD (fun g11=>?_) fun g11=>?_
 ·have:=congrArg ByteArray.size g11
  refine rV (pF pa1 bM) fun x20 x21 h12=>?_
  dsimp only at h12
  have:=b5 x20
  refine oG fun z13=>?_
  have:=bU pq0.2.2.2.2.2 ([x20]:List aL)
  exact oS
 exact oS
def U5(fu:Nat):Prop:= ∀(pa0:aK),wt pa0≤4194304→Ok (BC fu pa0) (fun _=>True)
theorem AF:b6 U5:=(b6.ge 2147483648).imp fun fu hfu pa0 hpre=>by
 have:=(aU:wl ([]:List ByteArray)=0∧_)
 have:=aK.wt_eq pa0
 refine DJ pa0.gTraits 1 (fun i1 v3 hl2 hI3 _ _=>?_) ?_
 ·have:=aV pa0.gTraits
  have:=aV (v3)
  have:=cE pa0.gTraits i1 hl2
  have:=aP.wt_eq (a5 pa0.gTraits i1)
  have:=b5 ((a5 pa0.gTraits i1).gName)
  have:=a3 ((a5 pa0.gTraits i1).gName)
  refine oG fun z4=>?_
  have:=bU v3 ([((a5 pa0.gTraits i1).gName)]:List ByteArray)
  exact lU
 intro v3 h1
 refine Ok.sok (E:=fun(v10,v11)=>wl v10+1*wl (List.take 0 pa0.gDataTypes)≤wl ([]:List ByteArray)+1*wl pa0.gDataTypes∧wl v11+1*wl (List.take 0 pa0.gDataTypes)≤wl ([]:List ByteArray)+1*wl pa0.gDataTypes) ?_ ?_
 ·refine Ok.loop0 (fun i7 (v10,v11)=>wl v10+1*wl (List.take 0 pa0.gDataTypes)≤wl ([]:List ByteArray)+1*wl (List.take i7 pa0.gDataTypes)∧wl v11+1*wl (List.take 0 pa0.gDataTypes)≤wl ([]:List ByteArray)+1*wl (List.take i7 pa0.gDataTypes)) (by exact bM) (by rintro i7 ⟨v10,v11⟩-hI;have:=l8 pa0.gDataTypes i7;(try dsimp only at hI ⊢);omega) ?_;rintro i7 ⟨v10,v11⟩ hl6 hI7
  dsimp only at hI7
  have:=aV pa0.gDataTypes
  have:=mC pa0.gDataTypes i7 hl6
  have:=l8 pa0.gDataTypes (i7+1)
  have:=aV (v10)
  have:=cE pa0.gDataTypes i7 hl6
  have:=aI.wt_eq (a5 pa0.gDataTypes i7)
  have:=b5 ((a5 pa0.gDataTypes i7).gName)
  have:=a3 ((a5 pa0.gDataTypes i7).gName)
  refine oG fun z8=>?_;refine DJ ((a5 pa0.gDataTypes i7).gConstructors) 1 (fun i15 v17 hl10 hI11 _ _=>?_) ?_
  ·have:=aV ((a5 pa0.gDataTypes i7).gConstructors)
   have:=aV (v17)
   have:=cE ((a5 pa0.gDataTypes i7).gConstructors) i15 hl10
   have:=aC.wt_eq (a5 ((a5 pa0.gDataTypes i7).gConstructors) i15)
   have:=b5 ((a5 ((a5 pa0.gDataTypes i7).gConstructors) i15).gName)
   have:=a3 ((a5 ((a5 pa0.gDataTypes i7).gConstructors) i15).gName)
   refine oG fun z12=>?_
   have:=bU v17 ([((a5 ((a5 pa0.gDataTypes i7).gConstructors) i15).gName)]:List ByteArray)
   exact lU
  intro v17 h9
  have:=bU v10 ([((a5 pa0.gDataTypes i7).gName)]:List ByteArray)
  exact lU
 rintro⟨v10,v11⟩ h5
 dsimp only at h5
 refine DJ pa0.gFunctions 1 (fun i21 v23 hl14 hI15 _ _=>?_) ?_
 ·have:=aV pa0.gFunctions
  have:=cE pa0.gFunctions i21 hl14
  refine Ok.lt fun y26 h16=>?_
  have:=congrArg wt h16
  have:=aV (v23)
  have:=aL.wt_eq y26
  have:=b5 y26.gName
  have:=a3 y26.gName
  refine oG fun z17=>?_
  have:=bU v23 ([y26.gName]:List ByteArray)
  exact lU
 intro v23 h13
 exact oS
def XL(fu:Nat):Prop:= ∀(pp:aK),wt pp≤4194304→Ok (A3 fu pp) (fun _=>True)
theorem AZ:b6 XL:=(((((b6.ge 2147483648).and kA).and iA).and hL).and hY).imp fun fu ⟨⟨⟨⟨hfu,kA⟩,iA⟩,hL⟩,hY⟩ pp hpre=>by
 refine zP ?_ ?_
 ·refine Ok.loop1 ?_;rintro i1 ⟨⟩ hl2
  have:=aK.wt_eq pp
  have:=aV pp.gTraits
  have:=cE pp.gTraits i1 hl2
  exact oB (kA (a5 pp.gTraits i1) bM) fun x5 _=>oW (fun _=>oR) fun g5=>lU
 rintro⟨⟩-
 refine zP ?_ ?_
 ·refine Ok.loop1 ?_;rintro i7 ⟨⟩ hl7
  have:=aK.wt_eq pp
  have:=aV pp.gDataTypes
  have:=cE pp.gDataTypes i7 hl7
  exact oB (iA (a5 pp.gDataTypes i7) bM) fun x11 _=>oW (fun _=>oR) fun g10=>lU
 rintro⟨⟩-
 refine zP ?_ ?_
 ·refine Ok.loop1 ?_;rintro i13 ⟨⟩ hl12
  have:=aK.wt_eq pp
  have:=aV pp.gInstances
  have:=cE pp.gInstances i13 hl12
  refine Ok.lt fun y16 h14=>?_
  have:=congrArg wt h14
  exact oB (hL y16 bM) fun x19 _=>oW (fun _=>oR) fun g16=>lU
 rintro⟨⟩-
 refine zP ?_ ?_
 ·refine Ok.loop1 ?_;rintro i21 ⟨⟩ hl18
  have:=aK.wt_eq pp
  have:=aV pp.gFunctions
  have:=cE pp.gFunctions i21 hl18
  refine Ok.lt fun y24 h20=>?_
  have:=congrArg wt h20
  exact oB (hY y24 bM) fun x27 _=>oW (fun _=>oR) fun g22=>lU
 rintro⟨⟩-
 exact oS
def F2(fu:Nat):Prop:= ∀(pa0:aK),wt pa0≤4194304→Ok (qX fu pa0) (fun _=>True)
theorem qJ:b6 F2:=(((((((b6.ge 2147483648).and AF).and bG).and cP).and c4).and dU).and AZ).imp fun fu ⟨⟨⟨⟨⟨⟨hfu,AF⟩,bG⟩,cP⟩,c4⟩,dU⟩,AZ⟩ pa0 hpre=>by
 refine oB4 (AF pa0 bM) fun x2 x3 x4 x5 _=>?_
 have:=aK.wt_eq pa0
 refine oB (bG pa0.gName) fun x7 _=>oW (fun _=>oS) fun g3=>oB (cP pa0.gDeps 5) fun x10 _=>oW (fun _=>oS) fun g5=>oB (c4 pa0.gDeps pa0.gName) fun x13 _=>oC (fun _=>oS) fun g7=>?_
 have:=aV pa0.gTraits
 have:=aV pa0.gDataTypes
 have:=eB (((pa0.gTraits.length:Nat):Int)+((pa0.gDataTypes.length:Nat):Int))
 have:=aV pa0.gInstances
 have:=eB ((aQ (((pa0.gTraits.length:Nat):Int)+((pa0.gDataTypes.length:Nat):Int)))+((pa0.gInstances.length:Nat):Int))
 have:=aV pa0.gFunctions
 have:=eB ((aQ ((aQ (((pa0.gTraits.length:Nat):Int)+((pa0.gDataTypes.length:Nat):Int)))+((pa0.gInstances.length:Nat):Int)))+((pa0.gFunctions.length:Nat):Int))
 refine oD (fun _=>oS) fun g8=>oB (dU x2) fun x17 _=>?_;refine oC (fun g10=>?_) fun g10=>?_
 ·refine oB (dU x3) fun x20 _=>?_;refine oC (fun g12=>?_) fun g12=>?_
  ·refine oB (dU x4) fun x23 _=>?_;refine oC (fun g14=>?_) fun g14=>?_
   ·refine oB (dU x5) fun x26 _=>?_;refine oC (fun g16=>?_) fun g16=>?_
    ·exact oB (AZ pa0 bM) fun x29 _=>oS
    exact oS
   exact oS
  exact oS
 exact oS
def GQ(fu:Nat):Prop:= ∀(pa0:aA),wt pa0≤65536→Ok (qO fu pa0) (fun r=>wt r.1≤20*wt pa0)
theorem qE:b6 GQ:=((((((b6.ge 2147483648).and cA).and gD).and cI).and FJ).and qJ).imp fun fu ⟨⟨⟨⟨⟨hfu,cA⟩,gD⟩,cI⟩,FJ⟩,qJ⟩ pa0 hpre=>by
 refine oB (cA pa0 2 bM) fun x2 h1=>?_
 have:=aA.wt_eq x2
 refine rV (gD x2.gList bM) fun x4 x5 h2=>?_
 dsimp only at h2
 refine oB (cA pa0 1 bM) fun x7 h3=>oB (cI pa0 bM) fun x9 _=>?_;refine oW (fun g5=>?_) fun g5=>?_
 ·have:s_.size=0:=rfl
  have:=(aU:wl ([]:List ByteArray)=0∧_)
  have:=(aU:wl ([]:List aP)=0∧_)
  have:=(aU:wl ([]:List aI)=0∧_)
  have:=(aU:wl ([]:List aH)=0∧_)
  have:=(aU:wl ([]:List aL)=0∧_)
  have:=aK.wt_mk s_ [] [] [] [] []
  exact oS
 have:=aA.wt_eq pa0
 have:=aV pa0.gList
 refine oD (fun g6=>?_) fun g6=>?_
 ·have:s_.size=0:=rfl
  have:=(aU:wl ([]:List ByteArray)=0∧_)
  have:=(aU:wl ([]:List aP)=0∧_)
  have:=(aU:wl ([]:List aI)=0∧_)
  have:=(aU:wl ([]:List aH)=0∧_)
  have:=(aU:wl ([]:List aL)=0∧_)
  have:=aK.wt_mk s_ [] [] [] [] []
  exact oS
 have:=aV (pa0.gList)
 refine oG fun z7=>?_
 have:=cE pa0.gList 0 z7
 have:wl (List.take 1 pa0.gList)=wl (List.take 0 pa0.gList)+wt (a5 pa0.gList 0)+1:=DT pa0.gList 0 z7
 have:=aA.wt_eq (a5 pa0.gList 0)
 have:PP.size=7:=rfl
 refine oN (fun g8=>?_) fun g8=>?_
 ·have:s_.size=0:=rfl
  have:=(aU:wl ([]:List ByteArray)=0∧_)
  have:=(aU:wl ([]:List aP)=0∧_)
  have:=(aU:wl ([]:List aI)=0∧_)
  have:=(aU:wl ([]:List aH)=0∧_)
  have:=(aU:wl ([]:List aL)=0∧_)
  have:=aK.wt_mk s_ [] [] [] [] []
  exact oS
 have:=congrArg ByteArray.size g8
 refine oG fun z9=>?_
 have:=cE pa0.gList 2 z9
 have:wl (List.take 3 pa0.gList)=wl (List.take 2 pa0.gList)+wt (a5 pa0.gList 2)+1:=DT pa0.gList 2 z9
 have:=aA.wt_eq (a5 pa0.gList 2)
 have:s_.size=0:=rfl
 refine oN (fun g10=>?_) fun g10=>?_
 ·have:=A9 g10
  have:=(aU:wl ([]:List ByteArray)=0∧_)
  have:=(aU:wl ([]:List aP)=0∧_)
  have:=(aU:wl ([]:List aI)=0∧_)
  have:=(aU:wl ([]:List aH)=0∧_)
  have:=(aU:wl ([]:List aL)=0∧_)
  have:=aK.wt_mk s_ [] [] [] [] []
  exact oS
 refine oW (fun g11=>?_) fun g11=>?_
 ·have:=(aU:wl ([]:List ByteArray)=0∧_)
  have:=(aU:wl ([]:List aP)=0∧_)
  have:=(aU:wl ([]:List aI)=0∧_)
  have:=(aU:wl ([]:List aH)=0∧_)
  have:=(aU:wl ([]:List aL)=0∧_)
  have:=aK.wt_mk s_ [] [] [] [] []
  exact oS
 have:=(aU:wl ([]:List aP)=0∧_)
 have:=(aU:wl ([]:List aI)=0∧_)
 have:=(aU:wl ([]:List aH)=0∧_)
 have:=(aU:wl ([]:List aL)=0∧_)
 have:=aA.wt_eq x7
 refine Ok.sok (E:=fun(v18,v19,v24,v25,v26,v27)=>v18.size+wl v19+wl v24+wl v25+wl v26+wl v27≤x7.gAtom.size+wl x4+16*wl pa0.gList) ?_ ?_
 ·refine Ok.loop0 (fun i17 (v18,v19,v24,v25,v26,v27)=>v18.size+wl v19+wl v24+wl v25+wl v26+wl v27≤x7.gAtom.size+wl x4+16*wl (List.take i17 pa0.gList)) (by exact bM) (by rintro i17 ⟨v18,v19,v24,v25,v26,v27⟩-hI;have:=l8 pa0.gList i17;(try dsimp only at hI ⊢);omega) ?_;rintro i17 ⟨v18,v19,v24,v25,v26,v27⟩ hl13 hI14
  dsimp only at hI14
  have:=mC pa0.gList i17 hl13
  have:=l8 pa0.gList (i17+1)
  have:=cE pa0.gList i17 hl13
  refine rV (FJ (v18,v19,v24,v25,v26,v27) (a5 pa0.gList i17) bM) fun x31 x32 h15=>?_
  dsimp only at h15
  refine oW (fun g16=>?_) fun g16=>?_
  ·have:=(aU:wl ([]:List ByteArray)=0∧_)
   have:=(aU:wl ([]:List aP)=0∧_)
   have:=(aU:wl ([]:List aI)=0∧_)
   have:=(aU:wl ([]:List aH)=0∧_)
   have:=(aU:wl ([]:List aL)=0∧_)
   have:=aK.wt_mk s_ [] [] [] [] []
   exact oR
  exact lU
 rintro⟨v18,v19,v24,v25,v26,v27⟩ h12
 dsimp only at h12
 have:=aK.wt_mk v18 v19 v24 v25 v26 v27
 refine oB (qJ (aK.mk v18 v19 v24 v25 v26 v27) bM) fun x35 _=>?_;refine oW (fun g18=>?_) fun g18=>?_
 ·have:=(aU:wl ([]:List ByteArray)=0∧_)
  have:=(aU:wl ([]:List aP)=0∧_)
  have:=(aU:wl ([]:List aI)=0∧_)
  have:=(aU:wl ([]:List aH)=0∧_)
  have:=(aU:wl ([]:List aL)=0∧_)
  have:=aK.wt_mk s_ [] [] [] [] []
  exact oS
 exact oS
def K5(fu:Nat):Prop:= ∀(ps:ByteArray),ps.size≤16384→Ok (tR fu ps) (fun r=>wt r.1≤40*ps.size)
theorem tO:b6 K5:=(((b6.ge 2147483648).and wP).and qE).imp fun fu ⟨⟨hfu,wP⟩,qE⟩ ps hpre=>by
 refine rV (wP ps bM) fun x2 x3 h1=>?_
 dsimp only at h1
 refine oW (fun g2=>?_) fun g2=>?_
 ·have:s_.size=0:=rfl
  have:=(aU:wl ([]:List ByteArray)=0∧_)
  have:=(aU:wl ([]:List aP)=0∧_)
  have:=(aU:wl ([]:List aI)=0∧_)
  have:=(aU:wl ([]:List aH)=0∧_)
  have:=(aU:wl ([]:List aL)=0∧_)
  have:=aK.wt_mk s_ [] [] [] [] []
  exact oS
 refine rV (qE x2 bM) fun x6 x7 h3=>?_
 dsimp only at h3
 exact oS
def KR(fu:Nat):Prop:= ∀(ps:ByteArray),ps.size≤8192→Ok (tF fu ps) (fun r=>wt r.1≤40*(ps.size+1))
theorem tD:b6 KR:=((((b6.ge 2147483648).and yE).and AY).and tO).imp fun fu ⟨⟨⟨hfu,yE⟩,AY⟩,tO⟩ ps hpre=>by
 refine oB (yE ps (10:UInt8) bM) fun x2 h1=>?_
 have:=(aU:wl ([]:List aK)=0∧_)
 refine DJ x2 40 (fun i3 v5 hl3 hI4 _ _=>?_) ?_
 ·have:=aV x2
  have:=cE x2 i3 hl3
  have:=a3 (a5 x2 i3)
  refine oB (AY (a5 x2 i3) bM) fun x9 _=>oC (fun _=>lU) fun g6=>rV (tO (a5 x2 i3) bM) fun x12 x13 h7=>?_
  dsimp only at h7
  refine oW (fun g8=>?_) fun g8=>?_
  ·have:=aM.wt_mk []
   have:=aV v5
   exact oR
  have:=aV v5
  refine oD (fun g9=>?_) fun g9=>?_
  ·have:=aM.wt_mk []
   exact oR
  have:=aV (v5)
  have:=b5 x12
  refine oG fun z10=>?_
  have:=bU v5 ([x12]:List aK)
  exact lU
 intro v5 h2
 have:=aM.wt_mk v5
 exact oS
def XX(fu:Nat):Prop:= ∀(pc:DS),Ok (DY fu pc) (fun r=>r.1.size≤4000)
theorem EG:b6 XX:=(b6.ge 2147483648).imp fun fu hfu pc=>by
 have:cK.size=110:=rfl
 have:cJ.size=156:=rfl
 refine oG fun z1=>?_
 have:=eG cK cJ
 have:cM.size=119:=rfl
 refine oG fun z2=>?_
 have:=eG (cK++cJ) cM
 have:cQ.size=86:=rfl
 refine oG fun z3=>Ok.lt fun d4 h4=>?_;refine oC (fun g5=>?_) fun g5=>?_
 ·have:=eG ((cK++cJ)++cM) cQ
  have:g0.size=120:=rfl
  refine oG fun z6=>?_
  have:=eG (((cK++cJ)++cM)++cQ) g0
  have:c7.size=127:=rfl
  refine oG fun z7=>?_
  have:=eG ((((cK++cJ)++cM)++cQ)++g0) c7
  have:eC.size=95:=rfl
  refine oG fun z8=>?_
  have:=eG (((((cK++cJ)++cM)++cQ)++g0)++c7) eC
  have:e9.size=107:=rfl
  refine oG fun z9=>?_
  have:=eG ((((((cK++cJ)++cM)++cQ)++g0)++c7)++eC) e9
  have:gG.size=51:=rfl
  refine oG fun z10=>?_
  have:=eG (((((((cK++cJ)++cM)++cQ)++g0)++c7)++eC)++e9) gG
  have:iZ.size=140:=rfl
  refine oG fun z11=>?_
  have:=eG ((((((((cK++cJ)++cM)++cQ)++g0)++c7)++eC)++e9)++gG) iZ
  have:mN.size=90:=rfl
  refine oG fun z12=>?_
  have:=eG (((((((((cK++cJ)++cM)++cQ)++g0)++c7)++eC)++e9)++gG)++iZ) mN
  have:vH.size=1:=rfl
  refine oG fun z13=>?_
  have:=eG ((((((((((cK++cJ)++cM)++cQ)++g0)++c7)++eC)++e9)++gG)++iZ)++mN) vH
  exact oS
 have:=eG ((cK++cJ)++cM) cQ
 have:gZ.size=147:=rfl
 refine oG fun z14=>?_
 have:=eG (((cK++cJ)++cM)++cQ) gZ
 have:c7.size=127:=rfl
 refine oG fun z15=>?_
 have:=eG ((((cK++cJ)++cM)++cQ)++gZ) c7
 have:eC.size=95:=rfl
 refine oG fun z16=>?_
 have:=eG (((((cK++cJ)++cM)++cQ)++gZ)++c7) eC
 have:e9.size=107:=rfl
 refine oG fun z17=>?_
 have:=eG ((((((cK++cJ)++cM)++cQ)++gZ)++c7)++eC) e9
 have:gG.size=51:=rfl
 refine oG fun z18=>?_
 have:=eG (((((((cK++cJ)++cM)++cQ)++gZ)++c7)++eC)++e9) gG
 have:iZ.size=140:=rfl
 refine oG fun z19=>?_
 have:=eG ((((((((cK++cJ)++cM)++cQ)++gZ)++c7)++eC)++e9)++gG) iZ
 have:mN.size=90:=rfl
 refine oG fun z20=>?_
 have:=eG (((((((((cK++cJ)++cM)++cQ)++gZ)++c7)++eC)++e9)++gG)++iZ) mN
 have:vH.size=1:=rfl
 refine oG fun z21=>?_
 have:=eG ((((((((((cK++cJ)++cM)++cQ)++gZ)++c7)++eC)++e9)++gG)++iZ)++mN) vH
 exact oS
def abZ(fu:Nat):Prop:= ∀(pc:DS),Ok (H3 fu pc) (fun r=>r.1.size≤3000)
theorem IL:b6 abZ:=(b6.ge 2147483648).imp fun fu hfu pc=>by
 refine Ok.sok (E:=fun(v1,v2)=>v1.size≤1000) ?_ ?_
 ·refine Ok.lt fun d3 h2=>?_;refine oC (fun g3=>?_) fun g3=>?_
  ·have:eD.size=50:=rfl
   have:G1.size=38:=rfl
   refine oG fun z4=>?_
   have:=eG eD G1
   exact oI
  refine oC (fun g5=>?_) fun g5=>?_
  ·have:eD.size=50:=rfl
   have:GN.size=64:=rfl
   refine oG fun z6=>?_
   have:=eG eD GN
   exact oI
  refine oC (fun g7=>?_) fun g7=>?_
  ·have:eD.size=50:=rfl
   have:GT.size=83:=rfl
   refine oG fun z8=>?_
   have:=eG eD GT
   exact oI
  refine oC (fun g9=>?_) fun g9=>?_
  ·have:eD.size=50:=rfl
   have:GV.size=45:=rfl
   refine oG fun z10=>?_
   have:=eG eD GV
   exact oI
  refine oC (fun g11=>?_) fun g11=>?_
  ·have:eD.size=50:=rfl
   have:F0.size=90:=rfl
   refine oG fun z12=>?_
   have:=eG eD F0
   exact oI
  refine oC (fun g13=>?_) fun g13=>?_
  ·have:eD.size=50:=rfl
   have:GX.size=45:=rfl
   refine oG fun z14=>?_
   have:=eG eD GX
   exact oI
  have:eD.size=50:=rfl
  have:G0.size=64:=rfl
  refine oG fun z15=>?_
  have:=eG eD G0
  exact oI
 rintro⟨v1,v2⟩ h1
 dsimp only at h1
 have:mT.size=23:=rfl
 refine oG fun z16=>?_
 have:xG.size=13:=rfl
 have:xB.size=68:=rfl
 have:wX.size=29:=rfl
 have:xE.size=43:=rfl
 have:xR.size=68:=rfl
 have:xQ.size=25:=rfl
 have:wZ.size=29:=rfl
 have:wY.size=45:=rfl
 have:wV.size=65:=rfl
 have:wT.size=43:=rfl
 have:wl ([xG,xB,wX,xE,xR,xQ,wZ,wY,wV,wT]:List ByteArray)=438:=rfl
 refine Ok.lt fun d19 h17=>Ok.lt fun y21 h18=>?_
 have:=congrArg wt h18
 simp only [a3] at this
 have:y21.size≤200:=by rw [h18];exact DS.pick_size _ (by decide) (by decide)
 have:=eG v1 mT
 refine oG fun z19=>?_
 have:=eG (v1++mT) y21
 have:vH.size=1:=rfl
 refine oG fun z20=>?_;refine Ok.sok (E:=fun(v25,v26)=>v25.size≤2000) ?_ ?_
 ·refine Ok.lt fun d27 h22=>?_;refine oC (fun g23=>?_) fun g23=>?_
  ·have:=eG ((v1++mT)++y21) vH
   have:GP.size=83:=rfl
   refine oG fun z24=>?_
   have:=eG (((v1++mT)++y21)++vH) GP
   exact oI
  have:=eG ((v1++mT)++y21) vH
  exact oI
 rintro⟨v25,v26⟩ h21
 dsimp only at h21
 refine Ok.sok (E:=fun(v31,v32)=>v31.size≤2500) ?_ ?_
 ·refine Ok.lt fun d33 h26=>?_;refine oC (fun g27=>?_) fun g27=>?_
  ·have:GF.size=77:=rfl
   refine oG fun z28=>?_
   have:=eG v25 GF
   exact oI
  exact oI
 rintro⟨v31,v32⟩ h25
 dsimp only at h25
 refine Ok.lt fun d37 h29=>?_;refine oC (fun g30=>?_) fun g30=>?_
 ·have:xC.size=113:=rfl
  refine oG fun z31=>?_
  have:=eG v31 xC
  refine oG fun z32=>?_
  have:=eG (v31++xC) vH
  exact oS
 refine oG fun z33=>?_
 have:=eG v31 vH
 exact oS
def KH(fu:Nat):Prop:= ∀(pc:DS),Ok (tL fu pc) (fun r=>r.1.size≤7001)
theorem tI:b6 KH:=(((b6.ge 2147483648).and EG).and IL).imp fun fu ⟨⟨hfu,EG⟩,IL⟩ pc=>by
 refine rV (EG pc) fun x2 x3 h1=>?_
 dsimp only at h1
 refine Ok.lt fun d4 h2=>oC (fun _=>oS) fun g3=>?_
 have:acV.size=1:=rfl
 refine oG fun z4=>rV (IL d4) fun x9 x10 h5=>?_
 dsimp only at h5
 have:=eG x2 acV
 refine oG fun z6=>?_
 have:=eG (x2++acV) x9
 exact oS
def YH(fu:Nat):Prop:= ∀(pc:DS),Ok (EF fu pc) (fun r=>wt r.1≤327680)
theorem D3:b6 YH:=(((b6.ge 2147483648).and tI).and tD).imp fun fu ⟨⟨hfu,tI⟩,tD⟩ pc=>by
 refine rV (tI pc) fun x2 x3 h1=>?_
 dsimp only at h1
 refine rV (tD x2 bM) fun x5 x6 h2=>?_
 dsimp only at h2
 have:=aM.wt_eq x5
 have:=aM.wt_mk x5.gPackages
 exact oS
end Go.Proofs.YtpioomclpaiomaaGreat.W

namespace Go.Proofs.YtpioomclpaiomaaGreat.W
set_option linter.unusedSimpArgs false
set_option linter.unusedVariables false
open Go.RowKit Go.WalkArith Go.IntWalk
def bT:Nat→Nat
 |0=>1000
 |n+1=>2*bT n+20
theorem aa8: ∀n:Nat,1000≤bT n
 |0=>Nat.le_refl _
 |n+1=>by unfold bT;have:=aa8 n;omega
theorem afM(x:Int):0<x∧x≤4→bT x.toNat=2*bT (aQ (x-1)).toNat+20:=fun h=>by
 rw [eB (x-1) (by omega)]
 obtain⟨n,rfl⟩: ∃n:Nat,x=((n+1:Nat):Int):=⟨x.toNat-1,by omega⟩
 have e:(((n+1:Nat):Int)-1).toNat=n:=by omega
 rw [e]
 simp only [Int.toNat_natCast]
 rfl
theorem agL(x:Int):x≤4→bT x.toNat≤20000:=fun h=>by
 have:x.toNat=0∨x.toNat=1∨x.toNat=2∨x.toNat=3∨x.toNat=4:=by omega
 rcases this with h|h|h|h|h<;>rw [h]<;>decide
def bX:Nat→Nat
 |0=>3000
 |n+1=>4*bX n+22000
theorem ad9: ∀n:Nat,3000≤bX n
 |0=>Nat.le_refl _
 |n+1=>by unfold bX;have:=ad9 n;omega
theorem afL(x:Int):0<x∧x≤4→bX x.toNat=4*bX (aQ (x-1)).toNat+22000:=fun h=>by
 rw [eB (x-1) (by omega)]
 obtain⟨n,rfl⟩: ∃n:Nat,x=((n+1:Nat):Int):=⟨x.toNat-1,by omega⟩
 have e:(((n+1:Nat):Int)-1).toNat=n:=by omega
 rw [e]
 simp only [Int.toNat_natCast]
 rfl
theorem agS(x:Int):x≤3→bX x.toNat≤1000000:=fun h=>by
 have:x.toNat=0∨x.toNat=1∨x.toNat=2∨x.toNat=3:=by omega
 rcases this with h|h|h|h<;>rw [h]<;>decide
theorem QN:bT (1:Int).toNat=2020:=rfl
theorem ag4:bX (2:Int).toNat=158000:=rfl
theorem Z4:bT (2:Int).toNat=4060:=rfl
end Go.Proofs.YtpioomclpaiomaaGreat.W

namespace Go.Proofs.YtpioomclpaiomaaGreat.W
set_option linter.unusedSimpArgs false
set_option linter.unusedVariables false
set_option maxRecDepth 20000
set_option maxHeartbeats 4000000
open Go.RowKit Go.WalkArith Go.IntWalk
attribute [local irreducible] wt wl bT bX lt
def aa4(fu:Nat):Prop:= ∀(pc:DS) (pvars:List ByteArray) (pdeep:Int),wl pvars≤1000∧ -100≤pdeep∧pdeep≤4→Ok (pD fu pc pvars pdeep) (fun r=>wt r.1≤bT pdeep.toNat)
def SU(n:Nat)(m:G4):Prop:= ∀(pc:DS) (pvars:List ByteArray) (pdeep:Int),pdeep.toNat<n→wl pvars≤1000∧ -100≤pdeep∧pdeep≤4→Ok (m pc pvars pdeep) (fun r=>wt r.1≤bT pdeep.toNat)
theorem ad3{n fu:Nat}(hfu:2147483648≤fu)(eI:MY fu)(dO:NR fu){r_sl4Ty:G4}(h_sl4Ty:SU n r_sl4Ty):SU (n+1) (Q8 fu r_sl4Ty):=by
 intro pc pvars pdeep hm hpre
 have:=aa8 pdeep.toNat
 have:=aa8 (aQ (pdeep-1)).toNat
 have:=afM pdeep
 have:=agL (aQ (pdeep-1))
 refine Ok.lt fun d1 h1=>?_;refine oC (fun g2=>?_) fun g2=>?_
 ·have:=aV pvars
  refine oD (fun g3=>?_) fun g3=>?_
  ·refine Ok.lt fun d5 h4=>?_
   have:=ab7 d1 pvars.length
   have:=aV (pvars)
   refine oG fun z5=>?_
   have:=cE pvars (d1.below pvars.length) z5
   have:=a3 (a5 pvars (d1.below pvars.length))
   exact oB (eI (a5 pvars (d1.below pvars.length))) fun x9 h6=>oS
  refine oC (fun g7=>?_) fun g7=>?_
  ·have:e7.size=3:=rfl
   have:eO.size=4:=rfl
   have:gY.size=4:=rfl
   have:=BH e7 eO gY
   have:=a3 e7
   have:=a3 eO
   have:=a3 gY
   refine Ok.lt fun d11 h8=>Ok.lt fun y13 h9=>?_
   have:=congrArg wt h9
   simp only [a3] at this
   have:y13.size≤4:=by rw [h9];exact DS.pick_size _ (by decide) (by decide)
   have:=(aU:wl ([]:List aB)=0∧_)
   exact oB (dO y13 ([]:List aB) bM) fun x16 h10=>oS
  refine oD (fun g11=>?_) fun g11=>?_
  ·have:e7.size=3:=rfl
   have:eO.size=4:=rfl
   have:gY.size=4:=rfl
   have:=BH e7 eO gY
   have:=a3 e7
   have:=a3 eO
   have:=a3 gY
   refine Ok.lt fun d18 h12=>Ok.lt fun y20 h13=>?_
   have:=congrArg wt h13
   simp only [a3] at this
   have:y20.size≤4:=by rw [h13];exact DS.pick_size _ (by decide) (by decide)
   have:=(aU:wl ([]:List aB)=0∧_)
   exact oB (dO y20 ([]:List aB) bM) fun x23 h14=>oS
  refine oC (fun g15=>?_) fun g15=>?_
  ·have:=eB (pdeep-1)
   refine rV (h_sl4Ty d1 pvars (aQ (pdeep-1)) bM bM) fun x26 x27 h16=>?_
   dsimp only at h16
   refine rV (h_sl4Ty x27 pvars (aQ (pdeep-1)) bM bM) fun x29 x30 h17=>?_
   dsimp only at h17
   have:tG.size=4:=rfl
   have:=iY x26 x29
   exact oB (dO tG ([x26,x29]:List aB) bM) fun x32 h18=>oS
  have:cR.size=4:=rfl
  have:vK.size=3:=rfl
  have:=BH cR cR vK
  have:=a3 cR
  have:=a3 vK
  refine Ok.lt fun d33 h19=>Ok.lt fun y35 h20=>?_
  have:=congrArg wt h20
  simp only [a3] at this
  have:y35.size≤4:=by rw [h20];exact DS.pick_size _ (by decide) (by decide)
  have:=eB (pdeep-1)
  refine rV (h_sl4Ty d33 pvars (aQ (pdeep-1)) bM bM) fun x38 x39 h21=>?_
  dsimp only at h21
  have:=b5 x38
  exact oB (dO y35 ([x38]:List aB) bM) fun x41 h22=>oS
 refine oC (fun g23=>?_) fun g23=>?_
 ·have:e7.size=3:=rfl
  have:eO.size=4:=rfl
  have:gY.size=4:=rfl
  have:=BH e7 eO gY
  have:=a3 e7
  have:=a3 eO
  have:=a3 gY
  refine Ok.lt fun d43 h24=>Ok.lt fun y45 h25=>?_
  have:=congrArg wt h25
  simp only [a3] at this
  have:y45.size≤4:=by rw [h25];exact DS.pick_size _ (by decide) (by decide)
  have:=(aU:wl ([]:List aB)=0∧_)
  exact oB (dO y45 ([]:List aB) bM) fun x48 h26=>oS
 refine oD (fun g27=>?_) fun g27=>?_
 ·have:e7.size=3:=rfl
  have:eO.size=4:=rfl
  have:gY.size=4:=rfl
  have:=BH e7 eO gY
  have:=a3 e7
  have:=a3 eO
  have:=a3 gY
  refine Ok.lt fun d50 h28=>Ok.lt fun y52 h29=>?_
  have:=congrArg wt h29
  simp only [a3] at this
  have:y52.size≤4:=by rw [h29];exact DS.pick_size _ (by decide) (by decide)
  have:=(aU:wl ([]:List aB)=0∧_)
  exact oB (dO y52 ([]:List aB) bM) fun x55 h30=>oS
 refine oC (fun g31=>?_) fun g31=>?_
 ·have:=eB (pdeep-1)
  refine rV (h_sl4Ty d1 pvars (aQ (pdeep-1)) bM bM) fun x58 x59 h32=>?_
  dsimp only at h32
  refine rV (h_sl4Ty x59 pvars (aQ (pdeep-1)) bM bM) fun x61 x62 h33=>?_
  dsimp only at h33
  have:tG.size=4:=rfl
  have:=iY x58 x61
  exact oB (dO tG ([x58,x61]:List aB) bM) fun x64 h34=>oS
 have:cR.size=4:=rfl
 have:vK.size=3:=rfl
 have:=BH cR cR vK
 have:=a3 cR
 have:=a3 vK
 refine Ok.lt fun d65 h35=>Ok.lt fun y67 h36=>?_
 have:=congrArg wt h36
 simp only [a3] at this
 have:y67.size≤4:=by rw [h36];exact DS.pick_size _ (by decide) (by decide)
 have:=eB (pdeep-1)
 refine rV (h_sl4Ty d65 pvars (aQ (pdeep-1)) bM bM) fun x70 x71 h37=>?_
 dsimp only at h37
 have:=b5 x70
 exact oB (dO y67 ([x70]:List aB) bM) fun x73 h38=>oS
theorem afT(n:Nat):b6 fun fu=>SU n (pD fu):=by
 induction n with
 |zero=>exact .all fun fu=>fun _ _ _ h=>absurd h (Nat.not_lt_zero _)
 |succ n ih=>exact b6.succ ((ih.and (((b6.ge 2147483648).and eI).and dO)).imp fun fu ⟨h,⟨⟨hfu,eI⟩,dO⟩⟩=>fun pc pvars pdeep=>by rw [pD];exact ad3 hfu eI dO h pc pvars pdeep)
theorem q8:b6 aa4:=(afT 100).imp fun fu h pc pvars pdeep hpre=>h pc pvars pdeep bM hpre
def abP(fu:Nat):Prop:= ∀(pt:aB),wt pt≤268435456→Ok (fN fu pt) (fun r=>wt r≤wt pt)
def JZ(fu:Nat):Prop:= ∀(plist:List aB),wl plist≤268435456→Ok (eY fu plist) (fun r=>wl r≤wl plist)
def CC(n:Nat)(m:m4):Prop:= ∀(pt:aB),2*wt pt+1<n→wt pt≤268435456→Ok (m pt) (fun r=>wt r≤wt pt)
def vP(n:Nat)(m:jJ):Prop:= ∀(plist:List aB),2*wl plist<n→wl plist≤268435456→Ok (m plist) (fun r=>wl r≤wl plist)
theorem aaF{n fu:Nat}(hfu:2147483648≤fu){r_sl4Copy:m4}(h_sl4Copy:CC n r_sl4Copy){r_sl4Copies:jJ}(h_sl4Copies:vP n r_sl4Copies):CC (n+1) (CH fu r_sl4Copy r_sl4Copies):=by
 intro pt hm hpre
 have:=aB.wt_eq pt
 refine oB (h_sl4Copies pt.gArgs bM bM) fun x2 h1=>?_
 have:=aB.wt_mk pt.gKind pt.gName x2
 exact oS
theorem SZ{n fu:Nat}(hfu:2147483648≤fu){r_sl4Copy:m4}(h_sl4Copy:CC n r_sl4Copy){r_sl4Copies:jJ}(h_sl4Copies:vP n r_sl4Copies):vP (n+1) (wA fu r_sl4Copy r_sl4Copies):=by
 intro plist hm hpre
 have:=(aU:wl ([]:List aB)=0∧_)
 refine DJ plist 1 (fun i1 v3 hl2 hI3 _ _=>?_) ?_
 ·have:=aV plist
  have:=cE plist i1 hl2
  refine oB (h_sl4Copy (a5 plist i1) bM bM) fun x7 h4=>?_
  have:=aV (v3)
  have:=b5 x7
  refine oG fun z5=>?_
  have:=bU v3 ([x7]:List aB)
  exact lU
 intro v3 h1
 exact oS
theorem P3(n:Nat):b6 fun fu=>CC n (fN fu)∧vP n (eY fu):=by
 induction n with
 |zero=>exact .all fun fu=>⟨fun _ h=>absurd h (Nat.not_lt_zero _),fun _ h=>absurd h (Nat.not_lt_zero _)⟩
 |succ n ih=>exact b6.succ ((ih.and (b6.ge 2147483648)).imp fun fu ⟨h,hfu⟩=>⟨fun pt=>by rw [fN];exact aaF hfu h.1 h.2 pt,fun plist=>by rw [eY];exact SZ hfu h.1 h.2 plist⟩)
theorem jN:b6 abP:=(P3 8589934592).imp fun fu h pt hpre=>h.1 pt bM hpre
theorem lV:b6 JZ:=(P3 8589934592).imp fun fu h plist hpre=>h.2 plist bM hpre
def acR(fu:Nat):Prop:= ∀(ptrait:ByteArray) (pt:aB),ptrait.size+wt pt≤67108864→Ok (B8 fu ptrait pt) (fun r=>wt r≤ptrait.size+wt pt+1)
theorem BP:b6 acR:=((b6.ge 2147483648).and jN).imp fun fu ⟨hfu,jN⟩ ptrait pt hpre=>by
 refine oB (jN pt bM) fun x2 h1=>?_
 have:=b5 x2
 have:=aB.wt_mk 3 ptrait ([x2]:List aB)
 exact oS
def abG(fu:Nat):Prop:= ∀(pc:DS) (pdeep:Int),-100≤pdeep∧pdeep≤4→Ok (sG fu pc pdeep) (fun r=>wt r.1≤bT pdeep.toNat+60)
theorem lN:b6 abG:=((((b6.ge 2147483648).and q8).and BP).and dO).imp fun fu ⟨⟨⟨hfu,q8⟩,BP⟩,dO⟩ pc pdeep hpre=>by
 have:=aa8 pdeep.toNat
 have:=agL pdeep
 have:fU.size=1:=rfl
 have:z0.size=1:=rfl
 have:=iY fU z0
 have:=a3 fU
 have:=a3 z0
 refine rV (q8 pc ([fU,z0]:List ByteArray) pdeep bM) fun x2 x3 h1=>?_
 dsimp only at h1
 refine Ok.lt fun d4 h2=>?_;refine oC (fun g3=>?_) fun g3=>?_
 ·have:iU.size=3:=rfl
  have:bI.size=4:=rfl
  have:=iY iU bI
  have:=a3 iU
  have:=a3 bI
  refine Ok.lt fun d7 h4=>Ok.lt fun y9 h5=>?_
  have:=congrArg wt h5
  simp only [a3] at this
  have:y9.size≤4:=by rw [h5];exact DS.pick_size _ (by decide) (by decide)
  exact oB (BP y9 x2 bM) fun x12 h6=>oS
 refine oC (fun g7=>?_) fun g7=>?_
 ·have:iU.size=3:=rfl
  refine oB (BP iU x2 bM) fun x15 h8=>?_
  have:cR.size=4:=rfl
  have:=b5 x15
  exact oB (dO cR ([x15]:List aB) bM) fun x17 h9=>oS
 refine oC (fun g10=>?_) fun g10=>?_
 ·have:bI.size=4:=rfl
  have:=(aU:wl ([]:List aB)=0∧_)
  have:=aB.wt_mk 4 bI []
  exact oS
 exact oS
def VJ(fu:Nat):Prop:= ∀(pk:Int) (pname:ByteArray) (pargs:List aG),pname.size+wl pargs≤67108864→Ok (qM fu pk pname pargs) (fun r=>wt r=pname.size+wl pargs)
theorem lQ:b6 VJ:=(b6.ge 2147483648).imp fun fu hfu pk pname pargs hpre=>by
 have:=(aU:wl ([]:List aG)=0∧_)
 have:=aV (pargs)
 refine oG fun z1=>?_
 have:s_.size=0:=rfl
 have:=(aU:wl ([]:List aB)=0∧_)
 have:=aB.wt_mk 0 s_ []
 have:=bU ([]:List aG) pargs
 have:=(aU:wl ([]:List bC)=0∧_)
 have:=aG.wt_mk pk s_ pname 0 (aB.mk 0 s_ []) (([])++pargs) []
 exact oS
def Z9(fu:Nat):Prop:= ∀(pq0:DS) (pa1:List ByteArray) (pString:Int),wl pa1+10*pString.toNat≤900∧ -100≤pString∧pString≤3→Ok (jW fu pq0 pa1 pString) (fun r=>wt r.1≤bX pString.toNat)
def D4(n:Nat)(m:pW):Prop:= ∀(pq0:DS) (pa1:List ByteArray) (pString:Int),pString.toNat<n→wl pa1+10*pString.toNat≤900∧ -100≤pString∧pString≤3→Ok (m pq0 pa1 pString) (fun r=>wt r.1≤bX pString.toNat)
theorem V1{n fu:Nat}(hfu:2147483648≤fu)(eX:w5 fu)(eN:xO fu)(lQ:VJ fu)(q8:aa4 fu){r_sl11Expr:pW}(h_sl11Expr:D4 n r_sl11Expr):D4 (n+1) (FQ fu r_sl11Expr):=by
 intro pq0 pa1 pString hm hpre
 have:=ad9 pString.toNat
 have:=ad9 (aQ (pString-1)).toNat
 have:=afL pString
 have:=QN
 have:=agS pString
 have:=eB (pString-1)
 refine Ok.lt fun d1 h1=>?_;refine Ok.sok (E:=fun v3=>pString≤0→v3≤2) ?_ ?_
 ·refine oD (fun g3=>?_) fun g3=>?_
  ·have:=DS.below_lt pq0 (n:=13) (by decide)
   exact oI
  have:=DS.below_lt pq0 (n:=13) (by decide)
  exact oI
 intro v3 h2
 refine oD (fun g4=>?_) fun g4=>?_
 ·refine Ok.lt fun d6 h5=>?_
  have:s_.size=0:=rfl
  have:=DS.below_lt d1 (n:=2) (by decide)
  have:=(aU:wl ([]:List aB)=0∧_)
  have:=aB.wt_mk 0 s_ []
  have:=(aU:wl ([]:List aG)=0∧_)
  have:=(aU:wl ([]:List bC)=0∧_)
  have:=aG.wt_mk 2 s_ s_ ((d1.below 2:Nat):Int) (aB.mk 0 s_ []) [] []
  exact oS
 refine zP ?_ ?_
 ·exact oD (fun _=>oI) fun g7=>oI
 intro v8 _
 refine oC (fun g8=>?_) fun g8=>?_
 ·have:=aV pa1
  refine oD (fun g9=>?_) fun g9=>?_
  ·have:=aV (pa1)
   refine oG fun z10=>Ok.lt fun d13 h11=>?_
   have:=af7 d1 pa1
   refine Ok.lt fun y15 h12=>?_
   have:=congrArg wt h12
   simp only [a3] at this
   exact J5 (eX y15) fun x18 h13 h13B=>oS
  refine Ok.lt fun d19 h14=>?_
  have:=DS.below_lt d1 (n:=20) (by decide)
  have:=eB (((d1.below 20:Nat):Int)-5)
  exact J5 (eN (aQ (((d1.below 20:Nat):Int)-5)) bM) fun x22 h15 h15B=>oS
 refine oD (fun g16=>?_) fun g16=>?_
 ·have:s_f.size=1:=rfl
  have:s_g.size=1:=rfl
  have:=iY s_f s_g
  have:=a3 s_f
  have:=a3 s_g
  refine Ok.lt fun d24 h17=>Ok.lt fun y26 h18=>?_
  have:=congrArg wt h18
  simp only [a3] at this
  have:y26.size≤1:=by rw [h18];exact DS.pick_size _ (by decide) (by decide)
  have:=eB (pString-1)
  refine rV (h_sl11Expr d24 pa1 (aQ (pString-1)) bM bM) fun x29 x30 h19=>?_
  dsimp only at h19
  have:=b5 x29
  exact oB (lQ 4 y26 ([x29]:List aG) bM) fun x32 h20=>oS
 refine oD (fun g21=>?_) fun g21=>?_
 ·have:bI.size=4:=rfl
  have:iU.size=3:=rfl
  have:=iY bI iU
  have:=a3 bI
  have:=a3 iU
  refine Ok.lt fun d34 h22=>Ok.lt fun y36 h23=>?_
  have:=congrArg wt h23
  simp only [a3] at this
  have:y36.size≤4:=by rw [h23];exact DS.pick_size _ (by decide) (by decide)
  have:=eB (pString-1)
  refine rV (h_sl11Expr d34 pa1 (aQ (pString-1)) bM bM) fun x39 x40 h24=>?_
  dsimp only at h24
  refine rV (h_sl11Expr x40 pa1 (aQ (pString-1)) bM bM) fun x42 x43 h25=>?_
  dsimp only at h25
  have:eE.size=1:=rfl
  have:s_.size=0:=rfl
  have:=(aU:wl ([]:List aB)=0∧_)
  have:=aB.wt_mk 0 s_ []
  have:=iY x39 x42
  have:=(aU:wl ([]:List bC)=0∧_)
  have:=aG.wt_mk 5 y36 eE 0 (aB.mk 0 s_ []) ([x39,x42]:List aG) []
  exact oS
 refine oD (fun g26=>?_) fun g26=>?_
 ·have:=eB (pString-1)
  refine rV (h_sl11Expr d1 pa1 (aQ (pString-1)) bM bM) fun x46 x47 h27=>?_
  dsimp only at h27
  refine rV (h_sl11Expr x47 pa1 (aQ (pString-1)) bM bM) fun x49 x50 h28=>?_
  dsimp only at h28
  have:cD.size=4:=rfl
  have:=iY x46 x49
  exact oB (lQ 6 cD ([x46,x49]:List aG) bM) fun x52 h29=>oS
 refine oD (fun g30=>?_) fun g30=>?_
 ·have:=(aU:wl ([]:List ByteArray)=0∧_)
  have:=aV (pa1)
  refine oG fun z31=>?_
  have:=bU ([]:List ByteArray) pa1
  have:Y8.size=1:=rfl
  have:ZV.size=1:=rfl
  have:=iY Y8 ZV
  have:=a3 Y8
  have:=a3 ZV
  refine oG fun z32=>?_
  have:=eB (pString-1)
  refine rV (h_sl11Expr d1 pa1 (aQ (pString-1)) bM bM) fun x57 x58 h33=>?_
  dsimp only at h33
  refine rV (h_sl11Expr x58 pa1 (aQ (pString-1)) bM bM) fun x60 x61 h34=>?_
  dsimp only at h34
  have:=bU (([])++pa1) ([Y8,ZV]:List ByteArray)
  refine rV (h_sl11Expr x61 ((([])++pa1)++([Y8,ZV]:List ByteArray)) (aQ (pString-1)) bM bM) fun x63 x64 h35=>?_
  dsimp only at h35
  have:s_.size=0:=rfl
  have:=(aU:wl ([]:List aB)=0∧_)
  have:=aB.wt_mk 0 s_ []
  have:=b5 x57
  have:fA.size=3:=rfl
  have:=bC.wt_mk fA [] x60
  have:cD.size=4:=rfl
  have:=bC.wt_mk cD ([Y8,ZV]:List ByteArray) x63
  have:=iY (bC.mk fA [] x60) (bC.mk cD ([Y8,ZV]:List ByteArray) x63)
  have:=aG.wt_mk 7 s_ s_ 0 (aB.mk 0 s_ []) ([x57]:List aG) ([(bC.mk fA [] x60),(bC.mk cD ([Y8,ZV]:List ByteArray) x63)]:List bC)
  exact oS
 refine oD (fun g36=>?_) fun g36=>?_
 ·have:=eB (pString-1)
  refine rV (h_sl11Expr d1 pa1 (aQ (pString-1)) bM bM) fun x67 x68 h37=>?_
  dsimp only at h37
  have:=(aU:wl ([]:List ByteArray)=0∧_)
  have:=aV (pa1)
  refine oG fun z38=>?_
  have:=bU ([]:List ByteArray) pa1
  have:nZ.size=1:=rfl
  have:=b5 nZ
  have:=a3 nZ
  refine oG fun z39=>?_
  have:=bU (([])++pa1) ([nZ]:List ByteArray)
  refine rV (h_sl11Expr x68 ((([])++pa1)++([nZ]:List ByteArray)) (aQ (pString-1)) bM bM) fun x72 x73 h40=>?_
  dsimp only at h40
  have:=iY x67 x72
  exact oB (lQ 8 nZ ([x67,x72]:List aG) bM) fun x75 h41=>oS
 refine oD (fun g42=>?_) fun g42=>?_
 ·have:=eB (pString-1)
  refine rV (h_sl11Expr d1 pa1 (aQ (pString-1)) bM bM) fun x78 x79 h43=>?_
  dsimp only at h43
  refine rV (h_sl11Expr x79 pa1 (aQ (pString-1)) bM bM) fun x81 x82 h44=>?_
  dsimp only at h44
  refine rV (h_sl11Expr x82 pa1 (aQ (pString-1)) bM bM) fun x84 x85 h45=>?_
  dsimp only at h45
  have:s_.size=0:=rfl
  have:=BH x78 x81 x84
  exact oB (lQ 9 s_ ([x78,x81,x84]:List aG) bM) fun x87 h46=>oS
 refine oD (fun g47=>?_) fun g47=>?_
 ·have:vG.size=1:=rfl
  have:zY.size=1:=rfl
  have:G7.size=1:=rfl
  have:GU.size=1:=rfl
  have:F8.size=1:=rfl
  have:=ah9 vG zY G7 GU F8
  have:=a3 vG
  have:=a3 zY
  have:=a3 G7
  have:=a3 GU
  have:=a3 F8
  refine Ok.lt fun d89 h48=>Ok.lt fun y91 h49=>?_
  have:=congrArg wt h49
  simp only [a3] at this
  have:y91.size≤1:=by rw [h49];exact DS.pick_size _ (by decide) (by decide)
  have:=eB (pString-1)
  refine rV (h_sl11Expr d89 pa1 (aQ (pString-1)) bM bM) fun x94 x95 h50=>?_
  dsimp only at h50
  refine rV (h_sl11Expr x95 pa1 (aQ (pString-1)) bM bM) fun x97 x98 h51=>?_
  dsimp only at h51
  have:=iY x94 x97
  exact oB (lQ 10 y91 ([x94,x97]:List aG) bM) fun x100 h52=>oS
 refine oD (fun g53=>?_) fun g53=>?_
 ·have:=eB (pString-1)
  refine rV (h_sl11Expr d1 pa1 (aQ (pString-1)) bM bM) fun x103 x104 h54=>?_
  dsimp only at h54
  have:bI.size=4:=rfl
  have:s_.size=0:=rfl
  have:=(aU:wl ([]:List aB)=0∧_)
  have:=aB.wt_mk 0 s_ []
  have:=b5 x103
  have:=(aU:wl ([]:List bC)=0∧_)
  have:=aG.wt_mk 11 bI s_ 0 (aB.mk 0 s_ []) ([x103]:List aG) []
  exact oS
 refine oD (fun g55=>?_) fun g55=>?_
 ·have:fU.size=1:=rfl
  have:=b5 fU
  have:=a3 fU
  refine rV (q8 d1 ([fU]:List ByteArray) 1 bM) fun x107 x108 h56=>?_
  dsimp only at h56
  have:=eB (pString-1)
  refine rV (h_sl11Expr x108 pa1 (aQ (pString-1)) bM bM) fun x110 x111 h57=>?_
  dsimp only at h57
  have:s_.size=0:=rfl
  have:=b5 x110
  have:=(aU:wl ([]:List bC)=0∧_)
  have:=aG.wt_mk 12 s_ s_ 0 x107 ([x110]:List aG) []
  exact oS
 refine Ok.lt fun d112 h58=>?_
 have:=DS.below_lt d1 (n:=20) (by decide)
 have:=eB (((d1.below 20:Nat):Int)-5)
 exact J5 (eN (aQ (((d1.below 20:Nat):Int)-5)) bM) fun x115 h59 h59B=>oS
theorem YM(n:Nat):b6 fun fu=>D4 n (jW fu):=by
 induction n with
 |zero=>exact .all fun fu=>fun _ _ _ h=>absurd h (Nat.not_lt_zero _)
 |succ n ih=>exact b6.succ ((ih.and (((((b6.ge 2147483648).and eX).and eN).and lQ).and q8)).imp fun fu ⟨h,⟨⟨⟨⟨hfu,eX⟩,eN⟩,lQ⟩,q8⟩⟩=>fun pq0 pa1 pString=>by rw [jW];exact V1 hfu eX eN lQ q8 h pq0 pa1 pString)
theorem rP:b6 Z9:=(YM 100).imp fun fu h pq0 pa1 pString hpre=>h pq0 pa1 pString bM hpre
def aeD(fu:Nat):Prop:=Ok (xH fu) (fun r=>wt r≤3)
theorem oY:b6 aeD:=((b6.ge 2147483648).and dO).imp fun fu ⟨hfu,dO⟩=>by
 have:e7.size=3:=rfl
 have:=(aU:wl ([]:List aB)=0∧_)
 exact oB (dO e7 ([]:List aB) bM) fun x2 h1=>oS
def XV(fu:Nat):Prop:= ∀(pq0:DS),Ok (D7 fu pq0) (fun r=>wt r.1≤1000000)
theorem EA:b6 XV:=((((((((b6.ge 2147483648).and eN).and oY).and eI).and dO).and q8).and lN).and rP).imp fun fu ⟨⟨⟨⟨⟨⟨⟨hfu,eN⟩,oY⟩,eI⟩,dO⟩,q8⟩,lN⟩,rP⟩ pq0=>by
 have:=QN
 have:=Z4
 have:=ag4
 have:bI.size=4:=rfl
 have:s9.size=2:=rfl
 have:iU.size=3:=rfl
 have:=BH bI s9 iU
 have:=a3 bI
 have:=a3 s9
 have:=a3 iU
 refine Ok.lt fun d1 h1=>Ok.lt fun y3 h2=>?_
 have:=congrArg wt h2
 simp only [a3] at this
 have:y3.size≤4:=by rw [h2];exact DS.pick_size _ (by decide) (by decide)
 refine Ok.lt fun d5 h3=>?_
 have:=DS.below_lt d1 (n:=9) (by decide)
 refine J5 (eN ((d1.below 9:Nat):Int) bM) fun x8 h4 h4B=>?_;refine Ok.sok (E:=fun(v9,v10,v11,v12,v13,v14)=>wl v9≤10∧v11.size+wl v12≤100∧wl v13≤100) ?_ ?_
 ·refine Ok.lt fun d15 h6=>?_;refine oC (fun g7=>?_) fun g7=>?_
  ·refine oB (oY) fun x19 h8=>?_
   have:=aB.wt_eq x19
   have:=(aU:wl ([]:List ByteArray)=0∧_)
   have:=(aU:wl ([]:List aJ)=0∧_)
   exact oI
  refine oC (fun g9=>?_) fun g9=>?_
  ·have:fU.size=1:=rfl
   refine oB (eI fU) fun x22 h10=>?_
   have:cR.size=4:=rfl
   have:=b5 x22
   refine oB (dO cR ([x22]:List aB) bM) fun x24 h11=>?_
   have:=b5 fU
   have:=a3 fU
   have:=aB.wt_eq x24
   have:=aJ.wt_mk y3 x22
   have:=b5 (aJ.mk y3 x22)
   exact oI
  refine oC (fun g12=>?_) fun g12=>?_
  ·have:fU.size=1:=rfl
   refine oB (eI fU) fun x27 h13=>?_
   have:z0.size=1:=rfl
   refine oB (eI z0) fun x29 h14=>?_
   have:tG.size=4:=rfl
   have:=iY x27 x29
   refine oB (dO tG ([x27,x29]:List aB) bM) fun x31 h15=>?_
   have:=iY fU z0
   have:=a3 fU
   have:=a3 z0
   have:=aB.wt_eq x31
   have:=(aU:wl ([]:List aJ)=0∧_)
   exact oI
  have:fU.size=1:=rfl
  refine oB (eI fU) fun x33 h16=>?_
  have:=b5 fU
  have:=a3 fU
  have:=aB.wt_eq x33
  have:jV.size=3:=rfl
  have:=aJ.wt_mk jV x33
  have:=b5 (aJ.mk jV x33)
  exact oI
 rintro⟨v9,v10,v11,v12,v13,v14⟩ h5
 dsimp only at h5
 refine Ok.sok (E:=fun(v38,v35,v36,v37,v34)=>wl v38+v37.size≤5000) ?_ ?_
 ·refine Ok.lt fun d39 h18=>?_;refine oC (fun g19=>?_) fun g19=>?_
  ·refine rV (q8 d39 v9 1 bM) fun x43 x44 h20=>?_
   dsimp only at h20
   have:=aB.wt_eq x43
   exact oI
  have:s_.size=0:=rfl
  have:=(aU:wl ([]:List aB)=0∧_)
  exact oI
 rintro⟨v38,v35,v36,v37,v34⟩ h17
 dsimp only at h17
 refine Ok.lt fun d45 h21=>Ok.lt fun d47 h22=>?_;refine oC (fun g23=>?_) fun g23=>?_
 ·refine rV (lN d47 2 bM) fun x51 x52 h24=>?_
  dsimp only at h24
  have:=DS.below_lt v34 (n:=4) (by decide)
  have:=aB.wt_mk v36 v37 v38
  have:eE.size=1:=rfl
  have:d9.size=1:=rfl
  have:=b5 d9
  have:=a3 d9
  have:=aN.wt_mk eE ([d9]:List ByteArray) x8
  have:=b5 (aN.mk eE ([d9]:List ByteArray) x8)
  have:=aH.wt_mk y3 v9 x51 v13 (decide (v34.below 4=0)) v35 (aB.mk v36 v37 v38) ([(aN.mk eE ([d9]:List ByteArray) x8)]:List aN)
  exact oS
 refine oC (fun g25=>?_) fun g25=>?_
 ·have:fU.size=1:=rfl
  have:s_c.size=1:=rfl
  have:=iY fU s_c
  have:=a3 fU
  have:=a3 s_c
  refine Ok.lt fun d54 h26=>Ok.lt fun y56 h27=>?_
  have:=congrArg wt h27
  simp only [a3] at this
  have:y56.size≤1:=by rw [h27];exact DS.pick_size _ (by decide) (by decide)
  have:=aV (v9)
  have:=b5 y56
  have:=a3 y56
  refine oG fun z28=>?_
  have:=bU v9 ([y56]:List ByteArray)
  have:=aB.wt_mk v10 v11 v12
  have:=DS.below_lt v34 (n:=4) (by decide)
  have:=aB.wt_mk v36 v37 v38
  have:eE.size=1:=rfl
  have:d9.size=1:=rfl
  have:=b5 d9
  have:=a3 d9
  have:=aN.wt_mk eE ([d9]:List ByteArray) x8
  have:=b5 (aN.mk eE ([d9]:List ByteArray) x8)
  have:=aH.wt_mk y3 (v9++([y56]:List ByteArray)) (aB.mk v10 v11 v12) v13 (decide (v34.below 4=0)) v35 (aB.mk v36 v37 v38) ([(aN.mk eE ([d9]:List ByteArray) x8)]:List aN)
  exact oS
 refine oC (fun g29=>?_) fun g29=>?_
 ·refine rV (lN d47 1 bM) fun x61 x62 h30=>?_
  dsimp only at h30
  have:=aV (v13)
  have:=aJ.wt_mk s9 x61
  have:=b5 (aJ.mk s9 x61)
  refine oG fun z31=>?_
  have:=aB.wt_mk v10 v11 v12
  have:=bU v13 ([(aJ.mk s9 x61)]:List aJ)
  have:=DS.below_lt v34 (n:=4) (by decide)
  have:=aB.wt_mk v36 v37 v38
  have:eE.size=1:=rfl
  have:d9.size=1:=rfl
  have:=b5 d9
  have:=a3 d9
  have:=aN.wt_mk eE ([d9]:List ByteArray) x8
  have:=b5 (aN.mk eE ([d9]:List ByteArray) x8)
  have:=aH.wt_mk y3 v9 (aB.mk v10 v11 v12) (v13++([(aJ.mk s9 x61)]:List aJ)) (decide (v34.below 4=0)) v35 (aB.mk v36 v37 v38) ([(aN.mk eE ([d9]:List ByteArray) x8)]:List aN)
  exact oS
 refine oC (fun g32=>?_) fun g32=>?_
 ·have:d9.size=1:=rfl
  have:nZ.size=1:=rfl
  have:=iY d9 nZ
  have:=a3 d9
  have:=a3 nZ
  refine rV (rP d47 ([d9,nZ]:List ByteArray) 2 bM) fun x66 x67 h33=>?_
  dsimp only at h33
  have:=aB.wt_mk v10 v11 v12
  have:=DS.below_lt v34 (n:=4) (by decide)
  have:=aB.wt_mk v36 v37 v38
  have:eE.size=1:=rfl
  have:=b5 d9
  have:=aN.wt_mk eE ([d9]:List ByteArray) x66
  have:=b5 (aN.mk eE ([d9]:List ByteArray) x66)
  have:=aH.wt_mk y3 v9 (aB.mk v10 v11 v12) v13 (decide (v34.below 4=0)) v35 (aB.mk v36 v37 v38) ([(aN.mk eE ([d9]:List ByteArray) x66)]:List aN)
  exact oS
 refine oC (fun g34=>?_) fun g34=>?_
 ·refine oB (oY) fun x70 h35=>?_
  have:=aB.wt_mk v10 v11 v12
  have:=DS.below_lt v34 (n:=4) (by decide)
  have:eE.size=1:=rfl
  have:d9.size=1:=rfl
  have:=b5 d9
  have:=a3 d9
  have:=aN.wt_mk eE ([d9]:List ByteArray) x8
  have:=b5 (aN.mk eE ([d9]:List ByteArray) x8)
  have:=aH.wt_mk y3 v9 (aB.mk v10 v11 v12) v13 (decide (v34.below 4=0)) v35 x70 ([(aN.mk eE ([d9]:List ByteArray) x8)]:List aN)
  exact oS
 refine oC (fun g36=>?_) fun g36=>?_
 ·have:=aB.wt_mk v10 v11 v12
  have:=DS.below_lt v34 (n:=4) (by decide)
  have:=aB.wt_mk v36 v37 v38
  have:eE.size=1:=rfl
  have:=(aU:wl ([]:List ByteArray)=0∧_)
  have:=aN.wt_mk eE ([]) x8
  have:=b5 (aN.mk eE ([]) x8)
  have:=aH.wt_mk y3 v9 (aB.mk v10 v11 v12) v13 (decide (v34.below 4=0)) v35 (aB.mk v36 v37 v38) ([(aN.mk eE ([]) x8)]:List aN)
  exact oS
 have:=aB.wt_mk v10 v11 v12
 have:=DS.below_lt v34 (n:=4) (by decide)
 have:=aB.wt_mk v36 v37 v38
 have:eE.size=1:=rfl
 have:d9.size=1:=rfl
 have:=b5 d9
 have:=a3 d9
 have:=aN.wt_mk eE ([d9]:List ByteArray) x8
 have:=b5 (aN.mk eE ([d9]:List ByteArray) x8)
 have:=aH.wt_mk y3 v9 (aB.mk v10 v11 v12) v13 (decide (v34.below 4=0)) v35 (aB.mk v36 v37 v38) ([(aN.mk eE ([d9]:List ByteArray) x8)]:List aN)
 exact oS
def aeT(fu:Nat):Prop:= ∀(pc:DS),Ok (L7 fu pc) (fun r=>wt r.1≤2000000)
theorem L4:b6 aeT:=((((((b6.ge 2147483648).and eI).and oY).and eX).and lN).and rP).imp fun fu ⟨⟨⟨⟨⟨hfu,eI⟩,oY⟩,eX⟩,lN⟩,rP⟩ pc=>by
 have:=QN
 have:=Z4
 have:=agS 3 (by decide)
 have:s_f.size=1:=rfl
 have:s_g.size=1:=rfl
 have:=iY s_f s_g
 have:=a3 s_f
 have:=a3 s_g
 refine Ok.lt fun d1 h1=>Ok.lt fun y3 h2=>?_
 have:=congrArg wt h2
 simp only [a3] at this
 have:y3.size≤1:=by rw [h2];exact DS.pick_size _ (by decide) (by decide)
 have:fU.size=1:=rfl
 refine oB (eI fU) fun x6 h3=>oB (oY) fun x8 h4=>?_
 have:d9.size=1:=rfl
 refine J5 (eX d9) fun x10 h5 h5B=>Ok.lt fun d11 h6=>?_;refine oC (fun g7=>?_) fun g7=>?_
 ·refine rV (lN d11 2 bM) fun x15 x16 h8=>?_
  dsimp only at h8
  have:=b5 fU
  have:=a3 fU
  have:bI.size=4:=rfl
  have:=aJ.wt_mk bI x6
  have:=b5 (aJ.mk bI x6)
  have:=aR.wt_mk d9 x6
  have:=b5 (aR.mk d9 x6)
  have:eE.size=1:=rfl
  have:s_.size=0:=rfl
  have:=(aU:wl ([]:List aB)=0∧_)
  have:=aB.wt_mk 0 s_ []
  have:=b5 x10
  have:=(aU:wl ([]:List bC)=0∧_)
  have:=aG.wt_mk 5 bI eE 0 (aB.mk 0 s_ []) ([x10]:List aG) []
  have:=aL.wt_mk y3 ([fU]:List ByteArray) ([(aJ.mk bI x6)]:List aJ) ([(aR.mk d9 x6)]:List aR) x15 (aG.mk 5 bI eE 0 (aB.mk 0 s_ []) ([x10]:List aG) [])
  exact oS
 refine oC (fun g9=>?_) fun g9=>?_
 ·have:nZ.size=1:=rfl
  have:=iY d9 nZ
  have:=a3 d9
  have:=a3 nZ
  refine Ok.lt fun d18 h10=>Ok.lt fun y20 h11=>?_
  have:=congrArg wt h11
  simp only [a3] at this
  have:y20.size≤1:=by rw [h11];exact DS.pick_size _ (by decide) (by decide)
  have:=aR.wt_mk d9 x6
  have:=b5 (aR.mk d9 x6)
  have:=aR.wt_mk y20 x8
  have:=b5 (aR.mk y20 x8)
  refine oG fun z12=>?_
  have:=b5 fU
  have:=a3 fU
  have:bI.size=4:=rfl
  have:=aJ.wt_mk bI x6
  have:=b5 (aJ.mk bI x6)
  have:=bU ([(aR.mk d9 x6)]:List aR) ([(aR.mk y20 x8)]:List aR)
  have:eE.size=1:=rfl
  have:s_.size=0:=rfl
  have:=(aU:wl ([]:List aB)=0∧_)
  have:=aB.wt_mk 0 s_ []
  have:=b5 x10
  have:=(aU:wl ([]:List bC)=0∧_)
  have:=aG.wt_mk 5 bI eE 0 (aB.mk 0 s_ []) ([x10]:List aG) []
  have:=aL.wt_mk y3 ([fU]:List ByteArray) ([(aJ.mk bI x6)]:List aJ) (([(aR.mk d9 x6)]:List aR)++([(aR.mk y20 x8)]:List aR)) x8 (aG.mk 5 bI eE 0 (aB.mk 0 s_ []) ([x10]:List aG) [])
  exact oS
 refine oC (fun g13=>?_) fun g13=>?_
 ·have:nZ.size=1:=rfl
  have:=iY d9 nZ
  have:=a3 d9
  have:=a3 nZ
  refine rV (rP d11 ([d9,nZ]:List ByteArray) 3 bM) fun x25 x26 h14=>?_
  dsimp only at h14
  have:=b5 fU
  have:=a3 fU
  have:bI.size=4:=rfl
  have:=aJ.wt_mk bI x6
  have:=b5 (aJ.mk bI x6)
  have:=aR.wt_mk d9 x6
  have:=b5 (aR.mk d9 x6)
  have:=aL.wt_mk y3 ([fU]:List ByteArray) ([(aJ.mk bI x6)]:List aJ) ([(aR.mk d9 x6)]:List aR) x8 x25
  exact oS
 refine oC (fun g15=>?_) fun g15=>?_
 ·refine rV (lN d11 1 bM) fun x29 x30 h16=>?_
  dsimp only at h16
  have:=b5 fU
  have:=a3 fU
  have:bI.size=4:=rfl
  have:=aJ.wt_mk bI x29
  have:=b5 (aJ.mk bI x29)
  have:=aR.wt_mk d9 x6
  have:=b5 (aR.mk d9 x6)
  have:eE.size=1:=rfl
  have:s_.size=0:=rfl
  have:=(aU:wl ([]:List aB)=0∧_)
  have:=aB.wt_mk 0 s_ []
  have:=b5 x10
  have:=(aU:wl ([]:List bC)=0∧_)
  have:=aG.wt_mk 5 bI eE 0 (aB.mk 0 s_ []) ([x10]:List aG) []
  have:=aL.wt_mk y3 ([fU]:List ByteArray) ([(aJ.mk bI x29)]:List aJ) ([(aR.mk d9 x6)]:List aR) x8 (aG.mk 5 bI eE 0 (aB.mk 0 s_ []) ([x10]:List aG) [])
  exact oS
 refine oC (fun g17=>?_) fun g17=>?_
 ·have:s_.size=0:=rfl
  have:y1.size=2:=rfl
  have:=iY s_ y1
  have:=a3 s_
  have:=a3 y1
  refine Ok.lt fun d32 h18=>Ok.lt fun y34 h19=>?_
  have:=congrArg wt h19
  simp only [a3] at this
  have:y34.size≤2:=by rw [h19];exact DS.pick_size _ (by decide) (by decide)
  have:=b5 fU
  have:=a3 fU
  have:bI.size=4:=rfl
  have:=aJ.wt_mk bI x6
  have:=b5 (aJ.mk bI x6)
  have:=aR.wt_mk d9 x6
  have:=b5 (aR.mk d9 x6)
  have:eE.size=1:=rfl
  have:=(aU:wl ([]:List aB)=0∧_)
  have:=aB.wt_mk 0 s_ []
  have:=b5 x10
  have:=(aU:wl ([]:List bC)=0∧_)
  have:=aG.wt_mk 5 bI eE 0 (aB.mk 0 s_ []) ([x10]:List aG) []
  have:=aL.wt_mk y34 ([fU]:List ByteArray) ([(aJ.mk bI x6)]:List aJ) ([(aR.mk d9 x6)]:List aR) x8 (aG.mk 5 bI eE 0 (aB.mk 0 s_ []) ([x10]:List aG) [])
  exact oS
 have:=b5 fU
 have:=a3 fU
 have:bI.size=4:=rfl
 have:=aJ.wt_mk bI x6
 have:=b5 (aJ.mk bI x6)
 have:=aR.wt_mk d9 x6
 have:=b5 (aR.mk d9 x6)
 have:eE.size=1:=rfl
 have:s_.size=0:=rfl
 have:=(aU:wl ([]:List aB)=0∧_)
 have:=aB.wt_mk 0 s_ []
 have:=b5 x10
 have:=(aU:wl ([]:List bC)=0∧_)
 have:=aG.wt_mk 5 bI eE 0 (aB.mk 0 s_ []) ([x10]:List aG) []
 have:=aL.wt_mk y3 ([fU]:List ByteArray) ([(aJ.mk bI x6)]:List aJ) ([(aR.mk d9 x6)]:List aR) x8 (aG.mk 5 bI eE 0 (aB.mk 0 s_ []) ([x10]:List aG) [])
 exact oS
def WB(fu:Nat):Prop:= ∀(pq0:DS),Ok (BB fu pq0) (fun r=>wt r.1≤10000)
theorem AH:b6 WB:=((((((b6.ge 2147483648).and eI).and oY).and eX).and eN).and lQ).imp fun fu ⟨⟨⟨⟨⟨hfu,eI⟩,oY⟩,eX⟩,eN⟩,lQ⟩ pq0=>by
 have:hU.size=4:=rfl
 refine oB (eI hU) fun x2 h1=>?_
 have:bI.size=4:=rfl
 have:s9.size=2:=rfl
 have:iU.size=3:=rfl
 have:=BH bI s9 iU
 have:=a3 bI
 have:=a3 s9
 have:=a3 iU
 refine Ok.lt fun d3 h2=>Ok.lt fun y5 h3=>?_
 have:=congrArg wt h3
 simp only [a3] at this
 have:y5.size≤4:=by rw [h3];exact DS.pick_size _ (by decide) (by decide)
 refine Ok.lt fun d7 h4=>oB (oY) fun x10 h5=>?_;refine oC (fun g6=>?_) fun g6=>?_
 ·refine oC (fun g7=>?_) fun g7=>?_
  ·refine Ok.lt fun d13 h8=>?_
   have:d9.size=1:=rfl
   refine J5 (eX d9) fun x17 h9 h9B=>J5 (eN 1 bM) fun x19 h10 h10B=>?_
   have:vG.size=1:=rfl
   have:eE.size=1:=rfl
   have:s_.size=0:=rfl
   have:=(aU:wl ([]:List aB)=0∧_)
   have:=aB.wt_mk 0 s_ []
   have:=b5 x17
   have:=(aU:wl ([]:List bC)=0∧_)
   have:=aG.wt_mk 5 y5 eE 0 (aB.mk 0 s_ []) ([x17]:List aG) []
   have:=iY (aG.mk 5 y5 eE 0 (aB.mk 0 s_ []) ([x17]:List aG) []) x19
   refine oB (lQ 10 vG ([(aG.mk 5 y5 eE 0 (aB.mk 0 s_ []) ([x17]:List aG) []),x19]:List aG) bM) fun x21 h11=>?_
   have:=(aU:wl ([]:List aG)=0∧_)
   have:=aG.wt_mk 0 s_ s_ 0 (aB.mk 0 s_ []) [] []
   have:=(aU:wl ([]:List ByteArray)=0∧_)
   have:=aD.wt_mk eE [] x10 false [] (aG.mk 0 s_ s_ 0 (aB.mk 0 s_ []) [] [])
   have:=b5 (aD.mk eE [] x10 false [] (aG.mk 0 s_ s_ 0 (aB.mk 0 s_ []) [] []))
   have:eV.size=5:=rfl
   have:=b5 x2
   have:nZ.size=1:=rfl
   have:=iY d9 nZ
   have:=a3 d9
   have:=a3 nZ
   have:=aD.wt_mk eV ([x2]:List aB) x10 true ([d9,nZ]:List ByteArray) x21
   have:=b5 (aD.mk eV ([x2]:List aB) x10 true ([d9,nZ]:List ByteArray) x21)
   refine oG fun z12=>?_;refine Ok.sok (E:=fun v23=>wl v23≤10) ?_ ?_
   ·refine Ok.lt fun d24 h14=>?_;refine oC (fun g15=>?_) fun g15=>?_
    ·have:jV.size=3:=rfl
     have:=b5 jV
     have:=a3 jV
     exact oI
    exact oI
   intro v23 h13
   refine Ok.lt fun d28 h16=>?_;refine oC (fun g17=>?_) fun g17=>?_
   ·have:z0.size=1:=rfl
    have:=iY hU z0
    have:=a3 hU
    have:=a3 z0
    refine Ok.lt fun d31 h18=>Ok.lt fun y33 h19=>?_
    have:=congrArg wt h19
    simp only [a3] at this
    have:y33.size≤4:=by rw [h19];exact DS.pick_size _ (by decide) (by decide)
    refine oB (eI y33) fun x36 h20=>?_
    have:=DS.below_lt d3 (n:=3) (by decide)
    have:=aB.wt_mk 0 s_ ([])
    have:=aG.wt_mk 0 s_ s_ 0 (aB.mk 0 s_ ([])) ([]) ([])
    have:=aD.wt_mk eE ([]) x36 false ([]) (aG.mk 0 s_ s_ 0 (aB.mk 0 s_ ([])) ([]) ([]))
    have:=iY (aD.mk eE ([]) x36 false ([]) (aG.mk 0 s_ s_ 0 (aB.mk 0 s_ ([])) ([]) ([]))) (aD.mk eV ([x2]:List aB) x10 true ([d9,nZ]:List ByteArray) x21)
    have:=aP.wt_mk y5 v23 false (decide (d3.below 3=0)) ([(aD.mk eE ([]) x36 false ([]) (aG.mk 0 s_ s_ 0 (aB.mk 0 s_ ([])) ([]) ([]))),(aD.mk eV ([x2]:List aB) x10 true ([d9,nZ]:List ByteArray) x21)]:List aD)
    exact oS
   have:=DS.below_lt d3 (n:=3) (by decide)
   have:=aB.wt_mk 0 s_ ([])
   have:=aG.wt_mk 0 s_ s_ 0 (aB.mk 0 s_ ([])) ([]) ([])
   have:=aD.wt_mk eE ([]) x10 true ([]) (aG.mk 0 s_ s_ 0 (aB.mk 0 s_ ([])) ([]) ([]))
   have:=iY (aD.mk eE ([]) x10 true ([]) (aG.mk 0 s_ s_ 0 (aB.mk 0 s_ ([])) ([]) ([]))) (aD.mk eV ([x2]:List aB) x10 true ([d9,nZ]:List ByteArray) x21)
   have:=aP.wt_mk y5 v23 false (decide (d3.below 3=0)) ([(aD.mk eE ([]) x10 true ([]) (aG.mk 0 s_ s_ 0 (aB.mk 0 s_ ([])) ([]) ([]))),(aD.mk eV ([x2]:List aB) x10 true ([d9,nZ]:List ByteArray) x21)]:List aD)
   exact oS
  refine Ok.lt fun d37 h21=>?_;refine Ok.sok (E:=fun v40=>wl v40≤10) ?_ ?_
  ·refine Ok.lt fun d41 h23=>?_;refine oC (fun g24=>?_) fun g24=>?_
   ·have:jV.size=3:=rfl
    have:=b5 jV
    have:=a3 jV
    exact oI
   have:=(aU:wl ([]:List ByteArray)=0∧_)
   exact oI
  intro v40 h22
  refine Ok.lt fun d45 h25=>?_;refine oC (fun g26=>?_) fun g26=>?_
  ·have:z0.size=1:=rfl
   have:=iY hU z0
   have:=a3 hU
   have:=a3 z0
   refine Ok.lt fun d48 h27=>Ok.lt fun y50 h28=>?_
   have:=congrArg wt h28
   simp only [a3] at this
   have:y50.size≤4:=by rw [h28];exact DS.pick_size _ (by decide) (by decide)
   refine oB (eI y50) fun x53 h29=>?_
   have:=DS.below_lt d3 (n:=3) (by decide)
   have:eE.size=1:=rfl
   have:s_.size=0:=rfl
   have:=(aU:wl ([]:List aB)=0∧_)
   have:=aB.wt_mk 0 s_ []
   have:=(aU:wl ([]:List aG)=0∧_)
   have:=(aU:wl ([]:List bC)=0∧_)
   have:=aG.wt_mk 0 s_ s_ 0 (aB.mk 0 s_ []) [] []
   have:=(aU:wl ([]:List ByteArray)=0∧_)
   have:=aD.wt_mk eE [] x53 false [] (aG.mk 0 s_ s_ 0 (aB.mk 0 s_ []) [] [])
   have:=b5 (aD.mk eE [] x53 false [] (aG.mk 0 s_ s_ 0 (aB.mk 0 s_ []) [] []))
   have:=aP.wt_mk y5 v40 false (decide (d3.below 3=0)) ([(aD.mk eE [] x53 false [] (aG.mk 0 s_ s_ 0 (aB.mk 0 s_ []) [] []))]:List aD)
   exact oS
  have:=DS.below_lt d3 (n:=3) (by decide)
  have:eE.size=1:=rfl
  have:s_.size=0:=rfl
  have:=(aU:wl ([]:List aB)=0∧_)
  have:=aB.wt_mk 0 s_ []
  have:=(aU:wl ([]:List aG)=0∧_)
  have:=(aU:wl ([]:List bC)=0∧_)
  have:=aG.wt_mk 0 s_ s_ 0 (aB.mk 0 s_ []) [] []
  have:=(aU:wl ([]:List ByteArray)=0∧_)
  have:=aD.wt_mk eE [] x10 true [] (aG.mk 0 s_ s_ 0 (aB.mk 0 s_ []) [] [])
  have:=b5 (aD.mk eE [] x10 true [] (aG.mk 0 s_ s_ 0 (aB.mk 0 s_ []) [] []))
  have:=aP.wt_mk y5 v40 false (decide (d3.below 3=0)) ([(aD.mk eE [] x10 true [] (aG.mk 0 s_ s_ 0 (aB.mk 0 s_ []) [] []))]:List aD)
  exact oS
 refine Ok.sok (E:=fun v55=>wl v55≤1000∧0<v55.length) ?_ ?_
 ·refine Ok.lt fun d56 h31=>?_;refine oC (fun g32=>?_) fun g32=>?_
  ·have:d9.size=1:=rfl
   refine J5 (eX d9) fun x61 h33 h33B=>J5 (eN 1 bM) fun x63 h34 h34B=>?_
   have:vG.size=1:=rfl
   have:eE.size=1:=rfl
   have:s_.size=0:=rfl
   have:=(aU:wl ([]:List aB)=0∧_)
   have:=aB.wt_mk 0 s_ []
   have:=b5 x61
   have:=(aU:wl ([]:List bC)=0∧_)
   have:=aG.wt_mk 5 y5 eE 0 (aB.mk 0 s_ []) ([x61]:List aG) []
   have:=iY (aG.mk 5 y5 eE 0 (aB.mk 0 s_ []) ([x61]:List aG) []) x63
   refine oB (lQ 10 vG ([(aG.mk 5 y5 eE 0 (aB.mk 0 s_ []) ([x61]:List aG) []),x63]:List aG) bM) fun x65 h35=>?_
   have:=(aU:wl ([]:List aG)=0∧_)
   have:=aG.wt_mk 0 s_ s_ 0 (aB.mk 0 s_ []) [] []
   have:=(aU:wl ([]:List ByteArray)=0∧_)
   have:=aD.wt_mk eE [] x10 false [] (aG.mk 0 s_ s_ 0 (aB.mk 0 s_ []) [] [])
   have:=b5 (aD.mk eE [] x10 false [] (aG.mk 0 s_ s_ 0 (aB.mk 0 s_ []) [] []))
   have:eV.size=5:=rfl
   have:=b5 x2
   have:nZ.size=1:=rfl
   have:=iY d9 nZ
   have:=a3 d9
   have:=a3 nZ
   have:=aD.wt_mk eV ([x2]:List aB) x10 true ([d9,nZ]:List ByteArray) x65
   have:=b5 (aD.mk eV ([x2]:List aB) x10 true ([d9,nZ]:List ByteArray) x65)
   refine oG fun z36=>?_
   have:=bU ([(aD.mk eE [] x10 false [] (aG.mk 0 s_ s_ 0 (aB.mk 0 s_ []) [] []))]:List aD) ([(aD.mk eV ([x2]:List aB) x10 true ([d9,nZ]:List ByteArray) x65)]:List aD)
   exact oI
  have:eE.size=1:=rfl
  have:s_.size=0:=rfl
  have:=(aU:wl ([]:List aB)=0∧_)
  have:=aB.wt_mk 0 s_ []
  have:=(aU:wl ([]:List aG)=0∧_)
  have:=(aU:wl ([]:List bC)=0∧_)
  have:=aG.wt_mk 0 s_ s_ 0 (aB.mk 0 s_ []) [] []
  have:=(aU:wl ([]:List ByteArray)=0∧_)
  have:=aD.wt_mk eE [] x10 false [] (aG.mk 0 s_ s_ 0 (aB.mk 0 s_ []) [] [])
  have:=b5 (aD.mk eE [] x10 false [] (aG.mk 0 s_ s_ 0 (aB.mk 0 s_ []) [] []))
  exact oI
 intro v55 h30
 refine Ok.sok (E:=fun v67=>wl v67≤10) ?_ ?_
 ·refine Ok.lt fun d68 h38=>?_;refine oC (fun g39=>?_) fun g39=>?_
  ·have:jV.size=3:=rfl
   have:=b5 jV
   have:=a3 jV
   exact oI
  have:=(aU:wl ([]:List ByteArray)=0∧_)
  exact oI
 intro v67 h37
 refine Ok.lt fun d72 h40=>?_;refine oC (fun g41=>?_) fun g41=>?_
 ·have:=DS.below_lt d3 (n:=3) (by decide)
  have:=aP.wt_mk y5 v67 true (decide (d3.below 3=0)) v55
  exact oS
 refine oC (fun g42=>?_) fun g42=>?_
 ·have:s_.size=0:=rfl
  have:e7.size=3:=rfl
  have:s_A.size=1:=rfl
  have:=BH s_ e7 s_A
  have:=a3 s_
  have:=a3 e7
  have:=a3 s_A
  refine Ok.lt fun d76 h43=>Ok.lt fun y78 h44=>?_
  have:=congrArg wt h44
  simp only [a3] at this
  have:y78.size≤3:=by rw [h44];exact DS.pick_size _ (by decide) (by decide)
  have:=DS.below_lt d3 (n:=3) (by decide)
  have:=aP.wt_mk y78 v67 false (decide (d3.below 3=0)) v55
  exact oS
 refine oC (fun g45=>?_) fun g45=>?_
 ·have:=aV (v67)
  have:jV.size=3:=rfl
  have:=b5 jV
  have:=a3 jV
  refine oG fun z46=>?_
  have:=bU v67 ([jV]:List ByteArray)
  have:=DS.below_lt d3 (n:=3) (by decide)
  have:=aP.wt_mk y5 (v67++([jV]:List ByteArray)) false (decide (d3.below 3=0)) v55
  exact oS
 refine oC (fun g47=>?_) fun g47=>?_
 ·have:=aV (v55)
  refine oG fun z48=>?_
  have:=cE v55 0 z48
  have:wl (List.take 1 v55)=wl (List.take 0 v55)+wt (a5 v55 0)+1:=DT v55 0 z48
  refine Ok.lt fun y84 h49=>?_
  have:=congrArg wt h49
  have:=b5 y84
  refine oG fun z50=>?_
  have:=DS.below_lt d3 (n:=3) (by decide)
  have:=bU v55 ([y84]:List aD)
  have:=aP.wt_mk y5 v67 false (decide (d3.below 3=0)) (v55++([y84]:List aD))
  exact oS
 have:=DS.below_lt d3 (n:=3) (by decide)
 have:=aP.wt_mk y5 v67 false (decide (d3.below 3=0)) v55
 exact oS
def Z5(fu:Nat):Prop:= ∀(pc:DS),Ok (FS fu pc) (fun r=>wt r.1≤10000)
theorem EI:b6 Z5:=((((b6.ge 2147483648).and eI).and dO).and lN).imp fun fu ⟨⟨⟨hfu,eI⟩,dO⟩,lN⟩ pc=>by
 have:=QN
 have:=Z4
 have:fU.size=1:=rfl
 refine oB (eI fU) fun x2 h1=>?_
 have:cR.size=4:=rfl
 have:=b5 x2
 refine oB (dO cR ([x2]:List aB) bM) fun x4 h2=>Ok.lt fun d5 h3=>?_;refine oC (fun g4=>?_) fun g4=>?_
 ·have:z0.size=1:=rfl
  have:=iY fU z0
  have:=a3 fU
  have:=a3 z0
  refine Ok.lt fun d8 h5=>Ok.lt fun y10 h6=>?_
  have:=congrArg wt h6
  simp only [a3] at this
  have:y10.size≤1:=by rw [h6];exact DS.pick_size _ (by decide) (by decide)
  have:=b5 fU
  have:=b5 y10
  have:=a3 y10
  refine oG fun z7=>?_
  have:=bU ([fU]:List ByteArray) ([y10]:List ByteArray)
  have:fA.size=3:=rfl
  have:=(aU:wl ([]:List aB)=0∧_)
  have:=aC.wt_mk fA []
  have:cD.size=4:=rfl
  have:=iY x2 x4
  have:=aC.wt_mk cD ([x2,x4]:List aB)
  have:=iY (aC.mk fA []) (aC.mk cD ([x2,x4]:List aB))
  have:=aI.wt_mk cR (([fU]:List ByteArray)++([y10]:List ByteArray)) ([(aC.mk fA []),(aC.mk cD ([x2,x4]:List aB))]:List aC)
  exact oS
 refine oC (fun g8=>?_) fun g8=>?_
 ·refine Ok.lt fun d14 h9=>?_
  have:=DS.below_lt d5 (n:=2) (by decide)
  have:fA.size=3:=rfl
  have:=(aU:wl ([]:List aB)=0∧_)
  have:=aC.wt_mk fA []
  have:cD.size=4:=rfl
  have:=iY x2 x4
  have:=aC.wt_mk cD ([x2,x4]:List aB)
  have:=iY (aC.mk fA []) (aC.mk cD ([x2,x4]:List aB))
  refine oG fun z10=>?_
  have:=b5 fU
  have:=a3 fU
  have:=LZ (0:Int).toNat (((d5.below 2:Nat):Int):Int).toNat ([(aC.mk fA []),(aC.mk cD ([x2,x4]:List aB))]:List aC)
  have:=aI.wt_mk cR ([fU]:List ByteArray) (List.drop (0:Int).toNat (List.take (((d5.below 2:Nat):Int):Int).toNat ([(aC.mk fA []),(aC.mk cD ([x2,x4]:List aB))]:List aC)))
  exact oS
 refine oC (fun g11=>?_) fun g11=>?_
 ·refine rV (lN d5 2 bM) fun x19 x20 h12=>?_
  dsimp only at h12
  have:=b5 fU
  have:=a3 fU
  have:fA.size=3:=rfl
  have:=b5 x19
  have:=aC.wt_mk fA ([x19]:List aB)
  have:cD.size=4:=rfl
  have:=iY x2 x4
  have:=aC.wt_mk cD ([x2,x4]:List aB)
  have:=iY (aC.mk fA ([x19]:List aB)) (aC.mk cD ([x2,x4]:List aB))
  have:=aI.wt_mk cR ([fU]:List ByteArray) ([(aC.mk fA ([x19]:List aB)),(aC.mk cD ([x2,x4]:List aB))]:List aC)
  exact oS
 refine oC (fun g13=>?_) fun g13=>?_
 ·have:cD.size=4:=rfl
  have:s_.size=0:=rfl
  have:NE.size=3:=rfl
  have:=BH cD s_ NE
  have:=a3 cD
  have:=a3 s_
  have:=a3 NE
  refine Ok.lt fun d22 h14=>Ok.lt fun y24 h15=>?_
  have:=congrArg wt h15
  simp only [a3] at this
  have:y24.size≤4:=by rw [h15];exact DS.pick_size _ (by decide) (by decide)
  have:=b5 fU
  have:=a3 fU
  have:=(aU:wl ([]:List aB)=0∧_)
  have:=aC.wt_mk y24 []
  have:=iY x2 x4
  have:=aC.wt_mk cD ([x2,x4]:List aB)
  have:=iY (aC.mk y24 []) (aC.mk cD ([x2,x4]:List aB))
  have:=aI.wt_mk cR ([fU]:List ByteArray) ([(aC.mk y24 []),(aC.mk cD ([x2,x4]:List aB))]:List aC)
  exact oS
 have:=b5 fU
 have:=a3 fU
 have:fA.size=3:=rfl
 have:=(aU:wl ([]:List aB)=0∧_)
 have:=aC.wt_mk fA []
 have:cD.size=4:=rfl
 have:=iY x2 x4
 have:=aC.wt_mk cD ([x2,x4]:List aB)
 have:=iY (aC.mk fA []) (aC.mk cD ([x2,x4]:List aB))
 have:=aI.wt_mk cR ([fU]:List ByteArray) ([(aC.mk fA []),(aC.mk cD ([x2,x4]:List aB))]:List aC)
 exact oS
def abX(fu:Nat):Prop:= ∀(pq0:DS),Ok (IF fu pq0) (fun r=>wt r.1≤12000000)
theorem IC:b6 abX:=(((((b6.ge 2147483648).and AH).and EI).and EA).and L4).imp fun fu ⟨⟨⟨⟨hfu,AH⟩,EI⟩,EA⟩,L4⟩ pq0=>by
 refine Ok.lt fun d1 h1=>?_
 have:=DS.below_lt pq0 (n:=5) (by decide)
 have:=(aU:wl ([]:List aP)=0∧_)
 have:=(aU:wl ([]:List aI)=0∧_)
 have:=(aU:wl ([]:List aH)=0∧_)
 have:=(aU:wl ([]:List aL)=0∧_)
 refine Ok.sok (E:=fun(v9,v10,v11,v12,v4)=>wl v9+wl v10+wl v11+wl v12≤10000005) ?_ ?_
 ·refine Ok.loop0 (fun i3 (v9,v10,v11,v12,v4)=>wl v9+wl v10+wl v11+wl v12≤2000001*i3∧i3≤5) (by exact bM) (by rintro i3 ⟨v9,v10,v11,v12,v4⟩-hI;(try dsimp only at hI ⊢);omega) ?_;rintro i3 ⟨v9,v10,v11,v12,v4⟩ hl3 hI4
  dsimp only at hI4
  refine Ok.lt fun d15 h5=>?_;refine oC (fun g6=>?_) fun g6=>?_
  ·refine rV (AH d15) fun x19 x20 h7=>?_
   dsimp only at h7
   have:=aV (v9)
   have:=b5 x19
   refine oG fun z8=>?_
   have:=bU v9 ([x19]:List aP)
   exact lU
  refine oC (fun g9=>?_) fun g9=>?_
  ·refine rV (EI d15) fun x24 x25 h10=>?_
   dsimp only at h10
   have:=aV (v10)
   have:=b5 x24
   refine oG fun z11=>?_
   have:=bU v10 ([x24]:List aI)
   exact lU
  refine oC (fun g12=>?_) fun g12=>?_
  ·refine rV (EA d15) fun x29 x30 h13=>?_
   dsimp only at h13
   have:=aV (v11)
   have:=b5 x29
   refine oG fun z14=>?_
   have:=bU v11 ([x29]:List aH)
   exact lU
  refine rV (L4 d15) fun x33 x34 h15=>?_
  dsimp only at h15
  have:=aV (v12)
  have:=b5 x33
  refine oG fun z16=>?_
  have:=bU v12 ([x33]:List aL)
  exact lU
 rintro⟨v9,v10,v11,v12,v4⟩ h2
 dsimp only at h2
 refine Ok.lt fun d36 h17=>?_;refine oC (fun g18=>?_) fun g18=>?_
 ·have:s_.size=0:=rfl
  have:fK.size=4:=rfl
  have:=iY s_ fK
  have:=a3 s_
  have:=a3 fK
  refine Ok.lt fun d39 h19=>Ok.lt fun y41 h20=>?_
  have:=congrArg wt h20
  simp only [a3] at this
  have:y41.size≤4:=by rw [h20];exact DS.pick_size _ (by decide) (by decide)
  have:=b5 fK
  have:=aK.wt_mk y41 ([fK]:List ByteArray) v9 v10 v11 v12
  exact oS
 refine oC (fun g21=>?_) fun g21=>?_
 ·have:fK.size=4:=rfl
  have:s_q.size=1:=rfl
  have:XN.size=1:=rfl
  have:=BH fK s_q XN
  have:=a3 fK
  have:=a3 s_q
  have:=a3 XN
  refine Ok.lt fun d44 h22=>Ok.lt fun y46 h23=>?_
  have:=congrArg wt h23
  simp only [a3] at this
  have:y46.size≤4:=by rw [h23];exact DS.pick_size _ (by decide) (by decide)
  have:=b5 fK
  have:=b5 y46
  have:=a3 y46
  refine oG fun z24=>?_
  have:=bU ([fK]:List ByteArray) ([y46]:List ByteArray)
  have:=aK.wt_mk XN (([fK]:List ByteArray)++([y46]:List ByteArray)) v9 v10 v11 v12
  exact oS
 have:XN.size=1:=rfl
 have:fK.size=4:=rfl
 have:=b5 fK
 have:=a3 fK
 have:=aK.wt_mk XN ([fK]:List ByteArray) v9 v10 v11 v12
 exact oS
def UQ(fu:Nat):Prop:= ∀(pc:DS),Ok (AB fu pc) (fun r=>wt r.1≤13000000)
theorem WI:b6 UQ:=(((b6.ge 2147483648).and D3).and IC).imp fun fu ⟨⟨hfu,D3⟩,IC⟩ pc=>by
 refine rV (D3 pc) fun x2 x3 h1=>?_
 dsimp only at h1
 refine Ok.lt fun d4 h2=>?_;refine oC (fun g3=>?_) fun g3=>?_
 ·refine rV (IC d4) fun x8 x9 h4=>?_
  dsimp only at h4
  have:=aM.wt_eq x2
  have:=aV (x2.gPackages)
  have:=b5 x8
  refine oG fun z5=>?_
  have:=bU x2.gPackages ([x8]:List aK)
  have:=aM.wt_mk (x2.gPackages++([x8]:List aK))
  exact oS
 have:=aM.wt_eq x2
 have:=aM.wt_mk x2.gPackages
 exact oS
end Go.Proofs.YtpioomclpaiomaaGreat.W

namespace Go.Proofs.YtpioomclpaiomaaGreat.W
set_option linter.unusedSimpArgs false
set_option linter.unusedVariables false
open Go.RowKit Go.WalkArith Go.Proofs
attribute [local irreducible] lt
theorem abC{x:Int}(h0: -1≤x)(h1:x<9223372036854775807):aQ x=x:=by
 unfold aQ IntKind.wrap
 simp [IntKind.bits,IntKind.signed]
 omega
section
variable {β γ σ:Type}
theorem pH{f:Nat→σ→Option (LR σ β)}{q:Nat→Option γ}(g:γ→β){s:σ}{n:Nat}(hs: ∀i,i<n→f i s=some (match q i with|some r=> .ret (g r)|none=> .next s)):
 ∀k j,n-j=k→loopN f k j s=some (match(List.range' j k).findSome? q with|some r=> .inl (g r)|none=> .inr s)
 |0,j,hk=>by rw [loopN];rfl
 |k+1,j,hk=>by
  rw [loopN,hs j (by omega),List.range'_succ,List.findSome?_cons]
  cases q j with
  |some r=>rfl
  |none=>exact pH g hs k (j+1) (by omega)
theorem E4{f:Int→Option (LR Int β)}{q:Nat→Option γ}(g:γ→β){n:Nat}(hs: ∀i:Nat,i<n→f (i:Int)=some (match q i with|some r=> .ret (g r)|none=> .next ((i+1:Nat):Int)))(he:f (n:Int)=some (.brk (n:Int))):
 ∀k j fu,n-j=k→j≤n→k<fu→loopW f fu (j:Int)=some (match(List.range' j k).findSome? q with|some r=> .inl (g r)|none=> .inr (n:Int))
 |0,j,fu,hk,hj,hf=>by
  obtain⟨m,rfl⟩: ∃m,fu=m+1:=⟨fu-1,by omega⟩
  obtain rfl:j=n:=by omega
  rw [loopW,he]
  rfl
 |k+1,j,fu,hk,hj,hf=>by
  obtain⟨m,rfl⟩: ∃m,fu=m+1:=⟨fu-1,by omega⟩
  rw [loopW,hs j (by omega),List.range'_succ,List.findSome?_cons]
  cases q j with
  |some r=>rfl
  |none=>exact E4 g hs he k (j+1) m (by omega) (by omega) (by omega)
end
def tQ(w:aM)(s:ByteArray)(i:Nat):Option (aP×Int×Bool):=(List.range' 0 (a5 w.gPackages i).gTraits.length).findSome? fun k=>if(a5 (a5 w.gPackages i).gTraits k).gName=s then some (a5 (a5 w.gPackages i).gTraits k,(i:Int),true) else none
def dQ(w:aM)(s:ByteArray)(i:Nat):Option (aI×Int×Bool):=(List.range' 0 (a5 w.gPackages i).gDataTypes.length).findSome? fun k=>if(a5 (a5 w.gPackages i).gDataTypes k).gName=s then some (a5 (a5 w.gPackages i).gDataTypes k,(i:Int),true) else none
def N4(w:aM)(s:ByteArray):aP×Int×Bool:=((List.range' 0 w.gPackages.length).findSome? (tQ w s)).getD (aP.mk s_ [] false false [],0,false)
def dOf(w:aM)(s:ByteArray):aI×Int×Bool:=((List.range' 0 w.gPackages.length).findSome? (dQ w s)).getD (aI.mk s_ [] [],0,false)
theorem acE(fu:Nat)(w:aM)(s:ByteArray):AT fu w s=some (N4 w s):=by
 have h:=pH (f:=JC fu w s) (q:=tQ w s) (fun r=>r) (s:=()) (n:=w.gPackages.length) (fun i hi=>by
  have h2:=pH (f:=IT fu w s i (a5 w.gPackages i)) (q:=fun k=>if(a5 (a5 w.gPackages i).gTraits k).gName=s then some (a5 (a5 w.gPackages i).gTraits k,(i:Int),true) else none) (fun r=>LR.ret r) (s:=()) (n:=(a5 w.gPackages i).gTraits.length) (fun k hk=>by
   unfold IT
   by_cases hs:(a5 (a5 w.gPackages i).gTraits k).gName=s
   ·rw [if_pos hs];exact swT (decide_eq_true hs) rfl
   ·rw [if_neg hs];exact XM (decide_eq_false hs) rfl) _ 0 rfl
  unfold JC P9
  refine ltE rfl ?_
  rw [h2]
  unfold tQ
  cases(List.range' 0 (a5 w.gPackages i).gTraits.length).findSome? _<;>rfl) _ 0 rfl
 unfold AT P5 N4
 rw [h]
 cases(List.range' 0 w.gPackages.length).findSome? (tQ w s)<;>rfl
theorem adO(fu:Nat)(w:aM)(s:ByteArray):LX fu w s=some (dOf w s):=by
 have h:=pH (f:=MC fu w s) (q:=dQ w s) (fun r=>r) (s:=()) (n:=w.gPackages.length) (fun i hi=>by
  have h2:=pH (f:=L8 fu w s i (a5 w.gPackages i)) (q:=fun k=>if(a5 (a5 w.gPackages i).gDataTypes k).gName=s then some (a5 (a5 w.gPackages i).gDataTypes k,(i:Int),true) else none) (fun r=>LR.ret r) (s:=()) (n:=(a5 w.gPackages i).gDataTypes.length) (fun k hk=>by
   unfold L8
   by_cases hs:(a5 (a5 w.gPackages i).gDataTypes k).gName=s
   ·rw [if_pos hs];exact swT (decide_eq_true hs) rfl
   ·rw [if_neg hs];exact XM (decide_eq_false hs) rfl) _ 0 rfl
  unfold MC VB
  refine ltE rfl ?_
  rw [h2]
  unfold dQ
  cases(List.range' 0 (a5 w.gPackages i).gDataTypes.length).findSome? _<;>rfl) _ 0 rfl
 unfold LX WT dOf
 rw [h]
 cases(List.range' 0 w.gPackages.length).findSome? (dQ w s)<;>rfl
def aM.small(w:aM)(N:Nat):Prop:= ∀i,i<w.gPackages.length→(a5 w.gPackages i).gTraits.length<N∧(a5 w.gPackages i).gDataTypes.length<N∧(a5 w.gPackages i).gInstances.length<N
theorem KA(fu:Nat)(w:aM)(s:ByteArray)(hw:aM.small w fu):m7 fu w s=some (N4 w s):=by
 have h:=pH (f:=vC fu w s) (q:=tQ w s) (fun r=>r) (s:=()) (n:=w.gPackages.length) (fun i hi=>by
  have h2:=E4 (f:=qQ fu w s i) (q:=fun k=>if(a5 (a5 w.gPackages i).gTraits k).gName=s then some (a5 (a5 w.gPackages i).gTraits k,(i:Int),true) else none) (fun r=>LR.ret r) (n:=(a5 w.gPackages i).gTraits.length) (fun k hk=>by
   unfold qQ
   refine ltE rfl (swT (decide_eq_true (by omega)) (gdT (by omega) ?_))
   rw [Int.toNat_natCast]
   by_cases hs:(a5 (a5 w.gPackages i).gTraits k).gName=s
   ·rw [if_pos hs];exact swT (decide_eq_true hs) rfl
   ·rw [if_neg hs];exact XM (decide_eq_false hs) rfl) (by
   unfold qQ
   exact ltE rfl (XM (decide_eq_false (by omega)) rfl)) _ 0 fu rfl (Nat.zero_le _) (hw i hi).1
  unfold vC AO
  refine(congrArg (fun o=>so o _) h2).trans ?_
  unfold tQ
  simp only [Nat.sub_zero]
  cases(List.range' 0 (a5 w.gPackages i).gTraits.length).findSome? _<;>rfl) _ 0 rfl
 unfold m7 BI N4
 rw [h]
 cases(List.range' 0 w.gPackages.length).findSome? (tQ w s)<;>rfl
theorem X9(fu:Nat)(w:aM)(s:ByteArray)(hw:aM.small w fu):t6 fu w s=some (dOf w s):=by
 have h:=pH (f:=wE fu w s) (q:=dQ w s) (fun r=>r) (s:=()) (n:=w.gPackages.length) (fun i hi=>by
  have h2:=E4 (f:=sO fu w s i) (q:=fun k=>if(a5 (a5 w.gPackages i).gDataTypes k).gName=s then some (a5 (a5 w.gPackages i).gDataTypes k,(i:Int),true) else none) (fun r=>LR.ret r) (n:=(a5 w.gPackages i).gDataTypes.length) (fun k hk=>by
   unfold sO
   refine ltE rfl (swT (decide_eq_true (by omega)) (gdT (by omega) ?_))
   rw [Int.toNat_natCast]
   by_cases hs:(a5 (a5 w.gPackages i).gDataTypes k).gName=s
   ·rw [if_pos hs];exact swT (decide_eq_true hs) rfl
   ·rw [if_neg hs];exact XM (decide_eq_false hs) rfl) (by
   unfold sO
   exact ltE rfl (XM (decide_eq_false (by omega)) rfl)) _ 0 fu rfl (Nat.zero_le _) (hw i hi).2.1
  unfold wE DU
  refine(congrArg (fun o=>so o _) h2).trans ?_
  unfold dQ
  simp only [Nat.sub_zero]
  cases(List.range' 0 (a5 w.gPackages i).gDataTypes.length).findSome? _<;>rfl) _ 0 rfl
 unfold t6 DV dOf
 rw [h]
 cases(List.range' 0 w.gPackages.length).findSome? (dQ w s)<;>rfl
def hOf(w:aM)(t:aB):Int:=if t.gKind=2 then(if t.gName=e7 then-1 else if t.gName=eO then-1 else if(dOf w t.gName).2.2=true then(dOf w t.gName).2.1 else-1) else-1
theorem VQ(fu:Nat)(w:aM)(t:aB):gP fu w t=some (hOf w t):=by
 unfold gP zA hOf
 by_cases h1:t.gKind=2
 ·rw [if_pos h1]
  refine XM (by rw [decide_eq_true h1];rfl) ?_
  by_cases h2:t.gName=e7
  ·rw [if_pos h2,decide_eq_true h2];rfl
  ·rw [if_neg h2,decide_eq_false h2]
   by_cases h3:t.gName=eO
   ·rw [if_pos h3,decide_eq_true h3];rfl
   ·rw [if_neg h3,decide_eq_false h3,adO]
    cases h4:(dOf w t.gName).2.2<;>(show sw (!(dOf w t.gName).2.2) _ _=_;rw [h4];rfl)
 ·rw [if_neg h1]
  exact swT (by rw [decide_eq_false h1];rfl) rfl
theorem aeA(fu:Nat)(w:aM)(t:aB)(hw:aM.small w fu):jT fu w t=some (hOf w t):=by
 unfold jT uE hOf
 by_cases h1:t.gKind=2
 ·rw [if_pos h1]
  refine XM (by rw [decide_eq_true h1];rfl) ?_
  by_cases h2:t.gName=e7
  ·rw [if_pos h2,decide_eq_true h2];rfl
  ·rw [if_neg h2,decide_eq_false h2]
   by_cases h3:t.gName=eO
   ·rw [if_pos h3,decide_eq_true h3];rfl
   ·rw [if_neg h3,decide_eq_false h3,X9 fu w _ hw]
    cases h4:(dOf w t.gName).2.2<;>(show sw (!(dOf w t.gName).2.2) _ _=_;rw [h4];rfl)
 ·rw [if_neg h1]
  exact swT (by rw [decide_eq_false h1];rfl) rfl
def MF(w:aM)(o:aE):Prop:= ∃i k:Nat,o=aE.mk (i:Int) (k:Int)∧i<w.gPackages.length∧k<(a5 w.gPackages i).gInstances.length
def fQ(w:aM)(o:aE):aH:=a5 (a5 w.gPackages o.gPackage.toNat).gInstances o.gAt.toNat
theorem ae5(fu:Nat)(w:aM)(o:aE)(ho:MF w o):vL fu w o=some (fQ w o,true):=by
 obtain⟨i,k,rfl,hi,hk⟩:=ho
 unfold vL
 refine XM (decide_eq_false (by show ¬((i:Int)<0);omega)) (XM (decide_eq_false (by show ¬((i:Int)≥_);omega)) (XM (decide_eq_false (by show ¬((k:Int)<0);omega)) (gdT (by show 0≤(i:Int)∧(i:Int).toNat<_;omega) (ltE rfl (XM (decide_eq_false (by show ¬((k:Int)≥((a5 w.gPackages i).gInstances.length:Int));omega)) (gdT (by show 0≤(k:Int)∧(k:Int).toNat<(a5 w.gPackages i).gInstances.length;omega) (ltE rfl rfl)))))))
theorem VZ(fu:Nat)(w:aM)(o:aE)(ho:MF w o)(h1:w.gPackages.length≤13000000)(h2: ∀i,i<w.gPackages.length→(a5 w.gPackages i).gInstances.length≤13000000):qL fu w o=some (fQ w o,true):=by
 obtain⟨i,k,rfl,hi,hk⟩:=ho
 have h3:=h2 i hi
 have e1: ∀(x n:Nat),x<n→n≤13000000→nX fu (x:Int) 0 (aQ ((n:Int)-1))=some true:=fun x n hx hn=>by
  unfold nX
  rw [abC (by omega) (by omega)]
  exact swT (decide_eq_true (by omega)) (by rw [decide_eq_true (by omega)])
 unfold qL
 rw [show nX fu (aE.mk (i:Int) (k:Int)).gPackage 0 (aQ ((w.gPackages.length:Int)-1))=some true from e1 i _ hi h1]
 refine gdT (by show 0≤(i:Int)∧(i:Int).toNat<_;omega) (ltE rfl ?_)
 rw [show nX fu (aE.mk (i:Int) (k:Int)).gAt 0 (aQ (((a5 w.gPackages (aE.mk (i:Int) (k:Int)).gPackage.toNat).gInstances.length:Int)-1))=some true from e1 k _ hk h3]
 exact gdT (by show 0≤(k:Int)∧(k:Int).toNat<(a5 w.gPackages i).gInstances.length;omega) (ltE rfl rfl)
def jR(w:aM)(o:aE):Bool:=((N4 w (fQ w o).gTrait).2.2&&decide ((N4 w (fQ w o).gTrait).2.1=o.gPackage))||decide (hOf w (fQ w o).gHead=o.gPackage)
theorem WR(fu:Nat)(w:aM)(o:aE)(ho:MF w o):jF fu w o=some (jR w o):=by
 unfold jF jR
 rw [ae5 fu w o ho]
 show sw (!true) (some false) (bd (AT fu w (fQ w o).gTrait) fun r=>sw r.2.2 (sw (decide (r.2.1=o.gPackage)) (some true) (bd (gP fu w (fQ w o).gHead) fun x=>some (decide (x=o.gPackage)))) (bd (gP fu w (fQ w o).gHead) fun x=>some (decide (x=o.gPackage))))=_
 rw [acE,VQ]
 show sw (N4 w (fQ w o).gTrait).2.2 (sw (decide ((N4 w (fQ w o).gTrait).2.1=o.gPackage)) (some true) (some (decide (hOf w (fQ w o).gHead=o.gPackage)))) (some (decide (hOf w (fQ w o).gHead=o.gPackage)))=_
 cases(N4 w (fQ w o).gTrait).2.2<;>cases decide ((N4 w (fQ w o).gTrait).2.1=o.gPackage)<;>rfl
theorem ad7(fu:Nat)(w:aM)(o:aE)(ho:MF w o)(hw:aM.small w fu)(h1:w.gPackages.length≤13000000)(h2: ∀i,i<w.gPackages.length→(a5 w.gPackages i).gInstances.length≤13000000):jC fu w o=some (jR w o):=by
 unfold jC jR
 rw [VZ fu w o ho h1 h2]
 show sw (!true) (some false) (bd (m7 fu w (fQ w o).gTrait) fun r=>sw r.2.2 (sw (decide (r.2.1=o.gPackage)) (some true) (bd (jT fu w (fQ w o).gHead) fun x=>some (decide (x=o.gPackage)))) (bd (jT fu w (fQ w o).gHead) fun x=>some (decide (x=o.gPackage))))=_
 rw [KA fu w _ hw,aeA fu w _ hw]
 show sw (N4 w (fQ w o).gTrait).2.2 (sw (decide ((N4 w (fQ w o).gTrait).2.1=o.gPackage)) (some true) (some (decide (hOf w (fQ w o).gHead=o.gPackage)))) (some (decide (hOf w (fQ w o).gHead=o.gPackage)))=_
 cases(N4 w (fQ w o).gTrait).2.2<;>cases decide ((N4 w (fQ w o).gTrait).2.1=o.gPackage)<;>rfl
def I9(w:aM)(i:Nat):List aE:=(List.range' 0 (a5 w.gPackages i).gInstances.length).map fun(k:Nat)=>aE.mk (i:Int) (k:Int)
def eU(w:aM):List aE:=(List.range' 0 w.gPackages.length).flatMap (I9 w)
theorem TM{w:aM}{o:aE}(h:o∈eU w):MF w o:=by
 obtain⟨i,hi,ho⟩:=List.mem_flatMap.1 h
 obtain⟨k,hk,rfl⟩:=List.mem_map.1 ho
 rw [List.mem_range'_1] at hi hk
 exact⟨i,k,rfl,by omega,by omega⟩
section
variable {α β:Type}
theorem P4{F:Nat→List α→Option (LR (List α) β)}{n M:Nat}{g:Nat→α}(hs: ∀j v,j<n→v.length+1≤M→F j v=some (.next (v++ [g j]))):
 ∀k j (v:List α),n-j=k→v.length+k≤M→loopN F k j v=some (.inr (v++(List.range' j k).map g))
 |0,j,v,hk,_=>by rw [loopN];simp
 |k+1,j,v,hk,hl=>by
  rw [loopN,hs j v (by omega) (by omega)]
  have h:=P4 hs k (j+1) (v++ [g j]) (by omega) (by rw [List.length_append];simp only [List.length_singleton];omega)
  rw [List.append_assoc] at h
  rw [List.range'_succ,List.map_cons]
  exact h
theorem QE{F:List α×Int→Option (LR (List α×Int) β)}{n M:Nat}{g:Nat→α}(hs: ∀(j:Nat) v,j<n→v.length+1≤M→F (v,(j:Int))=some (.next (v++ [g j],((j+1:Nat):Int))))(he: ∀v,F (v,(n:Int))=some (.brk (v,(n:Int)))):
 ∀k j fu (v:List α),n-j=k→j≤n→k<fu→v.length+k≤M→loopW F fu (v,(j:Int))=some (.inr (v++(List.range' j k).map g,(n:Int)))
 |0,j,fu,v,hk,hj,hf,_=>by
  obtain⟨f,rfl⟩: ∃f,fu=f+1:=⟨fu-1,by omega⟩
  obtain rfl:j=n:=by omega
  rw [loopW,he]
  simp
 |k+1,j,fu,v,hk,hj,hf,hl=>by
  obtain⟨f,rfl⟩: ∃f,fu=f+1:=⟨fu-1,by omega⟩
  rw [loopW,hs j v (by omega) (by omega)]
  have h:=QE hs he k (j+1) f (v++ [g j]) (by omega) (by omega) (by omega) (by rw [List.length_append];simp only [List.length_singleton];omega)
  rw [List.append_assoc] at h
  rw [List.range'_succ,List.map_cons]
  exact h
theorem yL{F:Nat→List α→Option (LR (List α) β)}{n M:Nat}{g:Nat→List α}(hs: ∀j v,j<n→v.length+(g j).length≤M→F j v=some (.next (v++g j))):
 ∀k j (v:List α),n-j=k→v.length+((List.range' j k).flatMap g).length≤M→loopN F k j v=some (.inr (v++(List.range' j k).flatMap g))
 |0,j,v,hk,_=>by rw [loopN];simp
 |k+1,j,v,hk,hl=>by
  rw [List.range'_succ,List.flatMap_cons,List.length_append] at hl
  rw [loopN,hs j v (by omega) (by omega)]
  have h:=yL hs k (j+1) (v++g j) (by omega) (by rw [List.length_append];omega)
  rw [List.range'_succ,List.flatMap_cons,← List.append_assoc]
  exact h
end
theorem EY(w:aM)(i:Nat):(I9 w i).length=(a5 w.gPackages i).gInstances.length:=by
 unfold I9
 rw [List.length_map,List.length_range']
theorem agA(fu:Nat)(w:aM)(hw:(eU w).length≤68719476736):tS fu w=some (eU w):=by
 have h:=yL (F:=sD fu w) (g:=I9 w) (n:=w.gPackages.length) (M:=68719476736) (fun i v hi hv=>by
  rw [EY] at hv
  have h2:=P4 (F:=xM fu w i v (a5 w.gPackages i)) (g:=fun(k:Nat)=>aE.mk (i:Int) (k:Int)) (n:=(a5 w.gPackages i).gInstances.length) (M:=68719476736) (fun k u hk hu=>gdT hu rfl) _ 0 v rfl hv
  unfold sD xF
  refine ltE rfl ?_
  rw [h2]
  rfl) _ 0 [] rfl (by rw [List.length_nil,Nat.zero_add];exact hw)
 unfold tS xK
 rw [h]
 rfl
theorem afW(fu:Nat)(w:aM)(hw:(eU w).length≤68719476736)(hf:aM.small w fu)(h2: ∀i,i<w.gPackages.length→(a5 w.gPackages i).gInstances.length≤13000000):o7 fu w=some (eU w):=by
 have h:=yL (F:=sH fu w) (g:=I9 w) (n:=w.gPackages.length) (M:=68719476736) (fun i v hi hv=>by
  rw [EY] at hv
  have h3:=h2 i hi
  have h2:=QE (F:=n7 fu w i v) (g:=fun(k:Nat)=>aE.mk (i:Int) (k:Int)) (n:=(a5 w.gPackages i).gInstances.length) (M:=68719476736) (fun k u hk hu=>by
   unfold n7
   refine ltE rfl (swT (decide_eq_true (by omega)) (gdT hu ?_))
   rw [abC (by omega) (by omega)]
   rfl) (fun u=>by
   unfold n7
   exact ltE rfl (XM (decide_eq_false (by omega)) rfl)) _ 0 fu v rfl (Nat.zero_le _) (hf i hi).2.2 hv
  unfold sH w8
  refine(congrArg (fun o=>so o _) h2).trans ?_
  rfl) _ 0 [] rfl (by rw [List.length_nil,Nat.zero_add];exact hw)
 unfold o7 xS
 rw [h]
 rfl
theorem aM.len_wt{w:aM}(hw:wt w≤13000000):w.gPackages.length≤13000000:=by
 have:=aM.wt_eq w
 have:=aV w.gPackages
 omega
theorem aM.len_at{w:aM}(hw:wt w≤13000000)(i:Nat)(hi:i<w.gPackages.length):(a5 w.gPackages i).gTraits.length≤13000000∧(a5 w.gPackages i).gDataTypes.length≤13000000∧(a5 w.gPackages i).gInstances.length≤13000000:=by
 have:=aM.wt_eq w
 have:=cE w.gPackages i hi
 have:=aK.wt_eq (a5 w.gPackages i)
 have:=aV (a5 w.gPackages i).gTraits
 have:=aV (a5 w.gPackages i).gDataTypes
 have:=aV (a5 w.gPackages i).gInstances
 omega
theorem aM.small_wt{w:aM}{fu:Nat}(hw:wt w≤13000000)(hf:13000000<fu):aM.small w fu:=fun i hi=>by
 have:=aM.len_at hw i hi
 omega
theorem aa6(w:aM): ∀k j,w.gPackages.length-j=k→((List.range' j k).flatMap (I9 w)).length≤wl (w.gPackages.drop j)
 |0,j,hk=>by simp
 |k+1,j,hk=>by
  have h:=aa6 w k (j+1) (by omega)
  have h1:=aK.wt_eq (a5 w.gPackages j)
  have h2:=aV (a5 w.gPackages j).gInstances
  rw [List.range'_succ,List.flatMap_cons,List.length_append,EY,XE (by omega),afN]
  omega
theorem NH{w:aM}(hw:wt w≤13000000):(eU w).length≤13000000:=by
 have h:=aa6 w _ 0 rfl
 have:=aM.wt_eq w
 rw [List.drop_zero] at h
 unfold eU
 simp only [Nat.sub_zero] at h
 omega
end Go.Proofs.YtpioomclpaiomaaGreat.W

namespace Go.Proofs.YtpioomclpaiomaaGreat
set_option linter.unusedSimpArgs false
set_option linter.unusedVariables false
open Go.RowKit
theorem uH.repM{ok:Nat→Nat→Prop}{w:World}{t:Tr}{v:Value}{S:Nat→Prop}(h:uH w t v S)(hk: ∀b o,S b→b<w.heap.size→ok b o):cF ok w t v:=by
 induction h with
 |leaf h=>exact .leaf h
 |row c T h1 h2 h3 _ h5 h6 ih=>
  refine .row c h1 h2 (fun hne=>?_) (fun i e he j d hd=>ih i e he j d hd fun b o hb hl=>hk b o (h5 i e he j d hd b hb) hl)
  obtain⟨b,off,E,arr,ha,hb,hs,hc⟩:=h3 hne
  exact⟨b,off,ha,hb.lt,fun i e he j d hd=>⟨hk _ _ hs hb.lt,by rw [hb.cell];exact(hc i e he j d hd).1⟩⟩
theorem cH.ofFresh{P:Program}{f:FuncId}{args:List PV}{t:Tr}(hfr:iW args=true)(h: ∀w vals,OK w args vals→Calls P f ⟨vals⟩ w fun e w'=> ∃v,e= .returned v∧oU w w'∧uH w' t v (xT w w')):cH P f args (.t t):=fun av m w vals hst hv=>by
 refine(h w vals (iW.rv (fun b o _ _=>ok0 b o) args vals hfr hv)).mono fun e w'=>?_;rintro⟨v,rfl,hx,ho⟩
 refine⟨.t t,⟨[],[]⟩,m,v,rfl,⟨rfl,rfl⟩,eQ.nil fun b o hb=>Nat.lt_of_lt_of_le (hst.avlt b o hb) hx.size,?_,?_⟩
 ·exact⟨hx.os,hx.tape,hx.output,hx.size,fun b hb _ _=>hx.block b hb,fun b o hb _=>gV (hx.block b hb),fun _ _ _ h=>h,fun _ _ h=>by simp at h,fun _ _ h=>by simp at h,fun _ _ h=>by simp at h,fun _ _ _ _ h=>by simp at h⟩
 ·exact ho.repM fun b o hb _=>⟨fun ha=>by have:=hst.avlt b o ha;have:=hb.1;omega,fun _ _ h=>by simp at h,fun _ _ _ _ h=>by simp at h⟩
end Go.Proofs.YtpioomclpaiomaaGreat

namespace Go.Proofs.YtpioomclpaiomaaGreat.W
set_option linter.unusedSimpArgs false
set_option linter.unusedVariables false
open Go.RowKit Go.Proofs
theorem ahV:(Tryz.prog.info? 26).map (·.size)=some 1:=by kernel_rfl
theorem ai1:(Tryz.prog.info? 45).map (·.size)=some 2:=by kernel_rfl
theorem VS(l:List aE): ∀e∈aE.trs l,∀d∈e,∃u,d= .leaf u:=by
 intro e he d hd
 rw [aE.trs_map] at he
 obtain⟨x,_,rfl⟩:=List.mem_map.1 he
 exact NY x d hd
theorem JG(x0:aM)(x1:aE)(hO:MF x0 x1)(w:World)(c0 c1:List Value)(h0:gJ w x0.tr c0)(h1:gJ w x1.tr c1):Calls Tryz.prog 28 #[.agg ⟨c0⟩,.agg ⟨c1⟩] w fun e w'=>e= .returned (.bool (jR x0 x1))∧oU w w':=by
 rw [aM.tr_cs] at h0
 rw [aE.tr_cs] at h1
 exact cH.plain (gH 0 x0 x1 _ (WR 0 x0 x1 hO)) ⟨RV0.agg h0,RV0.agg h1,trivial⟩
theorem aeM(x0:aM)(w:World)(c0:List Value)(h0:gJ w x0.tr c0)(hb:(eU x0).length≤68719476736):Calls Tryz.prog 73 #[.agg ⟨c0⟩] w fun e w'=> ∃v,e= .returned v∧oU w w'∧uH w' (.row 2 (aE.trs (eU x0))) v (xT w w'):=by
 rw [aM.tr_cs] at h0
 exact(G9 0 x0 _ (agA 0 x0 hb)).own (VS _) (OK.cons (RV0.agg h0) OK.nil)
set_option maxRecDepth 100000 in
set_option maxHeartbeats 2000000 in
theorem O3(x0:aM)(c0:List Value)(B:Nat)(o:aE)(cs:List Value)(w:World)(hob:OB w B 26 ⟨c0⟩)(h0:gJ w x0.tr c0)(hr:gJ w o.tr cs)(hO:MF x0 o):Calls Tryz.prog 74 (#[.agg ⟨cs⟩]++ #[.pointer (some ⟨B,0,none⟩)]) w fun e w'=>e= .returned (.bool (jR x0 o))∧oU w w':=by
 have HOB:=Lib.hid hob
 have H0:=Lib.hid h0
 have HR:=Lib.hid hr
 have HI0:Hid ((Tryz.prog.info? 26).map (·.size)=some c0.length):=by rw [← h0.length,aM.tr_len];exact ahV
 have HI1:Hid ((Tryz.prog.info? 45).map (·.size)=some cs.length):=by rw [← hr.length,aE.tr_len];exact ai1
 clear hob h0 hr
 go_enter Tryz.func74,Tryz.ntmps74
 go_wp2_with (first
  |(refine iQ rfl 26 (.tmp 1) rfl B 0 rfl c0 _ Tryz.underlying26 HI0.out (HOB.out.ext (.alloc (.refl _) _)).cells0 ?_)
  |(refine iQ rfl 45 (.tmp 2) rfl w.heap.size 0 rfl cs _ Tryz.underlying45 HI1.out (OB.new w _ _).cells0 ?_))
 refine(JG x0 o hO _ _ _ (H0.out.ext (.alloc (.refl _) _)) (HR.out.ext (.alloc (.refl _) _))).mono ?_;rintro e w1 ⟨rfl,hw1⟩
 have HX:=Lib.hid (oU.trans (.alloc (.refl _) _) hw1)
 clear hw1
 go_wp2_with fail
 go_ret
 exact⟨rfl,HX.out⟩
set_option maxRecDepth 100000 in
set_option maxHeartbeats 2000000 in
theorem PK(x0:aM)(w:World)(c0:List Value)(h0:gJ w x0.tr c0)(hb:(eU x0).length≤68719476736):Calls Tryz.prog 24 #[.agg ⟨c0⟩] w fun e w'=> ∃v,e= .returned v∧oU w w'∧uH w' (.row 2 (aE.trs ((eU x0).filter fun o=> !jR x0 o))) v (xT w w'):=by
 have H0:=Lib.hid h0
 have HI0:Hid ((Tryz.prog.info? 26).map (·.size)=some c0.length):=by rw [← h0.length,aM.tr_len];exact ahV
 clear h0
 go_enter Tryz.func24,Tryz.ntmps24
 go_wp2_with (refine iQ rfl 26 (.tmp 1) rfl w.heap.size 0 rfl c0 _ Tryz.underlying26 HI0.out (OB.new w _ _).cells0 ?_)
 refine(aeM x0 _ c0 (H0.out.ext (.alloc (.refl _) _)) hb).mono ?_;rintro e w1 ⟨v,rfl,hw1,ho1⟩
 have HW1:=Lib.hid hw1
 have HO1:=Lib.hid ho1
 clear hw1 ho1
 go_wp2_with fail
 refine(MM (eU x0) (fun o=>jR x0 o) 74 #[.pointer (some ⟨w.heap.size,0,none⟩)] (kE Tryz.func74 (by kernel_rfl) (by kernel_rfl)) v w1 (xT (w.alloc _) w1) (fun x hx=>hx.2) (fun o ho cs W hW hr=>by
  have hx:=FY.ext HW1.out hW (fun x hx=>hx.1)
  exact O3 x0 c0 w.heap.size o cs W ((OB.new w _ _).ext hx) (H0.out.ext (oU.trans (.alloc (.refl _) _) hx)) hr (TM ho)) (by rw [← aE.trs_map];exact HO1.out)).mono ?_
 rintro e w2 ⟨v2,rfl,hc2,ho2⟩
 have hx2:=FY.ext HW1.out hc2 (fun x hx=>hx.1)
 have HX2:=Lib.hid (oU.trans (.alloc (.refl _) _) hx2)
 have hz:w1.heap.size≤w2.heap.size:=hc2.size
 have HO2:=Lib.hid ho2
 clear hc2 hx2 ho2
 go_wp2_with fail
 go_ret
 refine⟨_,rfl,HX2.out,?_⟩
 rw [aE.trs_map]
 exact HO2.out.mono fun x hx=>⟨by have h1:=hx.1;simp only [World.size_alloc] at h1;omega,by have h1:=hx.2;omega⟩
theorem WJ(w:aM)(hw:wt w≤13000000):cH Tryz.prog 24 [(aM.pv w)] (jH ((eU w).filter fun o=> !jR w o)):=
 cH.ofFresh rfl fun W vals hv=>by
  match vals,hv with
  | [v0],hv=>
   obtain⟨c0,rfl,h0⟩:=hv.1
   exact PK w W c0 (fZ.ofTr (ts:=w.tr) (by rw [aM.tr_cs];exact h0)) (Nat.le_trans (NH hw) (by decide))
end Go.Proofs.YtpioomclpaiomaaGreat.W

namespace Go.Proofs.YtpioomclpaiomaaGreat.W
set_option maxRecDepth 100000
set_option maxHeartbeats 40000000
noncomputable section
open Go.RowKit Go.Proofs
set_option linter.unusedSimpArgs false
set_option linter.unusedVariables false
attribute [local irreducible] lt
def yQ(m:(List UInt8)→Option aM):Prop:= ∀(pcode:List UInt8) (r:aM),m pcode=some r→cH Tryz.prog 23 [rU pcode] ((aM.pv r):PV)
def l0(fu:Nat)(pcode:List UInt8):Option aM:=
 gd ((pcode).length≤1048576)
 (bd (AB fu (DS.start pcode)) (fun(x3,x4)=>
 some x3))
theorem w7(fu:Nat):yQ (l0 fu):=by
 intro pcode r H
 have H:=fC H
 refine qI Tryz.func23 (fun C hC=>?_)
 refine qS (qR (q1 (hH NZ) (qN (qS (qR (q1 aF (dK H fun z1 H=>(q1 (aW.callNew (ps:= [_]) rfl rfl Tryz.func54 (by kernel_rfl) rfl rfl mD rfl rfl (ag0 pcode z1)) (f8 H fun x3 x4 z2 H=>(q1 (gF [1] [] Tryz.func55 (QS fu (DS.start pcode) _ z2)) (q1 (bV NQ) (qN (aO.ret ?_)))))))))))))
 obtain rfl:_=r:=(aY H:)
 exact bN (hr:=⟨⟨_,_,_,rfl,rfl,nI,rfl,rfl⟩,trivial⟩)
def XH(m:(List UInt8)→Option Bool):Prop:= ∀(pa0:List UInt8) (r:Bool),m pa0=some r→cH Tryz.prog 5 [rU pa0] (pB r:PV)
def F7(fu:Nat)(pa0:List UInt8)(x2:Bool)(x5:aM)(x8:List aE)(x10:Bool):Nat→Unit→Option (LR Unit Bool):=
 fun i12 _=>lt (a5 (List.filter (fun o=> !jR x5 o) (eU x5)) i12) (fun y15=>
 bd (wI fu x5 y15) (fun(x18,x19)=>
 bd (t3 fu x5 x18.gTrait) (fun(x21,x22,x23)=>
 sw (!(x19))
 (some (.ret false))
 (bd (jF fu x5 y15) (fun x26=>
 sw (x26)
 (some (.ret false))
 (sw (x23)
 (sw (decide ((x22:Int)=y15.gPackage))
 (some (.ret false))
 (bd (gP fu x5 x18.gHead) (fun x31=>
 sw (decide ((x31:Int)=y15.gPackage))
 (some (.ret false))
 (some (.next ())))))
 (bd (gP fu x5 x18.gHead) (fun x34=>
 sw (decide ((x34:Int)=y15.gPackage))
 (some (.ret false))
 (some (.next ()))))))))))
def yC(fu:Nat)(pa0:List UInt8)(x2:Bool)(x5:aM)(x8:List aE)(x10:Bool):Option (Bool⊕Unit):=
 loopN (F7 fu pa0 x2 x5 x8 x10) ((List.filter (fun o=> !jR x5 o) (eU x5)).length-0) 0 ()
def AX(fu:Nat)(pa0:List UInt8):Option Bool:=
 bd (ZT fu pa0) (fun x2=>
 sw (x2)
 (some true)
 (bd (l0 fu pa0) (fun x5=>
 gd (wt x5≤13000000)
 (bd (l3 fu x5) (fun x8=>
 bd (q7 fu (List.filter (fun o=> !jR x5 o) (eU x5)) x8) (fun x10=>
 sw (!(x10))
 (some false)
 (so (yC fu pa0 x2 x5 x8 x10) (fun _=>
 some true))))))))
theorem QO(fu:Nat):XH (AX fu):=by
 intro pa0 r H
 have H:=fC H
 refine qI Tryz.func5 (fun C hC=>?_)
 refine qS (qR (q1 aF (qN ?_)))
 iterate 2 refine qS ?_
 refine qR (q1 aF (bO H fun x2 z1 H=>(q1 (bJ Tryz.func10 (afV fu pa0 _ z1)) (qN ?_))))
 refine a9 H (fun h3 H=>?_) (fun h3 H=>?_)
 ·refine qS (qR (q1 aF (qN (aO.ret ?_))))
  obtain rfl:_=r:=(aY H:)
  exact bN
 refine aO.skip (qS (qR (q1 aF (bO H fun x5 z4 H=>(q1 (bJ Tryz.func23 (w7 fu pa0 _ z4)) (q1 (hH NZ) (q1 (bV NQ) (qN (qS (qR (q1 (c6 [bA x5.gPackages] nI) (dK H fun z6 H=>(q1 (bJ Tryz.func24 (WJ x5 z6)) ?_)))))))))))))
 refine q1 aF (qN ?_)
 iterate 2 refine qS ?_
 refine qR (q1 aF (q1 (c6 [bA x5.gPackages] nI) (bO H fun x8 z7 H=>(q1 (bJ Tryz.func25 (CT fu x5 _ z7)) (bO H fun x10 z9 H=>(q1 (bJ Tryz.func19 (O8 fu (List.filter (fun o=> !jR x5 o) (eU x5)) x8 _ z9)) (q1 gS (qN ?_))))))))
 refine a9 H (fun h11 H=>?_) (fun h11 H=>?_)
 ·refine qS (qR (q1 aF (qN (aO.ret ?_))))
  obtain rfl:_=r:=(aY H:)
  exact bN
 refine aO.skip ?_
 iterate 2 refine qS ?_
 refine qR (q1 aF (qN ?_))
 refine nF 4 (aE.trs_len _) (fun hl13=>?_)
 refine cG (σ:=Unit) (fun i12 _=>⟨[(2,pB false),(3,.ptr 0 0),(4,jH (List.filter (fun o=> !jR x5 o) (eU x5))),(5,pN i12)],⟨[some ⟨26,[bA x5.gPackages]⟩],[]⟩⟩) (fun _=>⟨[(2,pB false)],⟨[some ⟨26,[bA x5.gPackages]⟩],[]⟩⟩) (f9 H) ?_ ?_
 ·rintro i12 ⟨⟩ H
  iterate 2 refine qS ?_
  refine qR ?_
  iterate 2 refine q1 aF ?_
  refine q1 (eM rN (aE.trs_len _)) (q1 gU (qN ?_))
  refine eJ H (fun h14 h14l H=>?_) (fun h14 H=>?_)
  ·have h14n:=a7 h14
   refine aO.skip (qS (aO.block (qS (gE H fun y15 h16 H=>(f8 H fun x18 x19 z17 H=>(dW (dB [3] 0 1 (PY [bA x5.gPackages] nI) (dI [4] aF (dI [5] aF (dI [30,31] (pA h16 h14n rN) (dI [32] (j7 (aE.cs y15) KW) (dI [29,33] (bJ Tryz.func26 (L1 fu x5 y15 _ z17)) (dI [34] aF ?_)))))))))))))
   iterate 2 refine dI [28] KJ ?_
   refine dE [] (hH sZ) (mZ [6,35] (bV rB) (dI [36] aF (dN (qS (qR (q1 (c6 [bA x5.gPackages] nI) (q1 (aZ IU) (q1 (bB e8) (abO H fun x21 x22 x23 z20 H=>(q1 (bJ Tryz.func27 (OA fu x5 x18.gTrait _ z20)) (q1 aF ?_)))))))))))
   iterate 3 refine q1 KJ ?_
   refine q1 (hH rY) (q1 (bV qY) ?_)
   iterate 2 refine q1 aF ?_
   refine qN (qS ?_)
   rcases jS (!(x19)) with g24|g24
   ·have H:=oJ H g24
    refine dW (dI [7] aF (dI [45] gS (dI [46] aF ?_)))
    iterate 6 refine wD g24 ?_
    refine dI [47] (bS g24) (dI [54] aF ?_)
    iterate 2 refine wD rfl ?_
    iterate 7 refine dSu ?_
    refine wD rfl (dI [55] (bS rfl) (dI [66] aF ?_))
    iterate 10 refine wD rfl ?_
    refine dI [67] (bS rfl) (dN (dT rfl (qS (qR (q1 aF (qN (aO.ret ?_)))))))
    obtain rfl:_=r:=(pY (aY H):)
    exact bN
   have H:=oH H g24
   refine bO H fun x26 z25 H=>?_
   rcases jS (x26) with g27|g27
   ·have H:=oJ H g27
    refine dW (dI [7] aF (dI [45] gS (dI [46] aF (dD (hg:=aT g24) [3] (c6 [bA x5.gPackages] nI) (dI (hg:=aT g24) [4] aF (dI (hg:=aT g24) [5] aF (dI (hg:=aT g24) [49,50] (pA h16 h14n rN) (dI (hg:=aT g24) [51] (j7 (aE.cs y15) KW) (dI (hg:=aT g24) [48,52] (bJ Tryz.func28 (gH fu x5 y15 _ z25)) (dI [47,53] (b4 g24) (dI [54] aF ?_)))))))))))
    iterate 2 refine wD g27 ?_
    iterate 7 refine dSu ?_
    refine wD g27 (dI [55] (bS g27) (dI [66] aF ?_))
    iterate 10 refine wD rfl ?_
    refine dI [67] (bS rfl) (dN (dT rfl (qS (qR (q1 aF (qN (aO.ret ?_)))))))
    obtain rfl:_=r:=(pY (aY H):)
    exact bN
   have H:=oH H g27
   rcases jS (x23) with g28|g28
   ·have H:=oJ H g28
    rcases jS (decide ((x22:Int)=y15.gPackage)) with g29|g29
    ·have H:=oJ H g29
     refine dW (dI [7] aF (dI [45] gS (dI [46] aF (dD (hg:=aT g24) [3] (c6 [bA x5.gPackages] nI) (dI (hg:=aT g24) [4] aF (dI (hg:=aT g24) [5] aF (dI (hg:=aT g24) [49,50] (pA h16 h14n rN) (dI (hg:=aT g24) [51] (j7 (aE.cs y15) KW) (dI (hg:=aT g24) [48,52] (bJ Tryz.func28 (gH fu x5 y15 _ z25)) (dI [47,53] (b4 g24) (dI [54] aF (dI (hg:=aT g27) [10] aF (dI (hg:=aT g27) [56] aF ?_)))))))))))))
     refine dI (hg:=aT g28) [9] aF (dI (hg:=aT g28) [4] aF (dI (hg:=aT g28) [5] aF (dI (hg:=aT g28) [59,60] (pA h16 h14n rN) (dI (hg:=aT g28) [61] (nD iS) (dI (hg:=aT g28) [62] (mR iG) (dI (hg:=aT g28) [58,63] dP (dI (hg:=aT g27) [57,64] (bS g28) (dI [55,65] (b4 g27) (dI [66] aF ?_)))))))))
     iterate 10 refine wD g29 ?_
     refine dI [67] (bS g29) (dN (dT rfl (qS (qR (q1 aF (qN (aO.ret ?_)))))))
     obtain rfl:_=r:=(pY (aY H):)
     exact bN
    have H:=oH H g29
    refine bO H fun x31 z30 H=>(dW (dI [7] aF (dI [45] gS (dI [46] aF (dD (hg:=aT g24) [3] (c6 [bA x5.gPackages] nI) (dI (hg:=aT g24) [4] aF (dI (hg:=aT g24) [5] aF (dI (hg:=aT g24) [49,50] (pA h16 h14n rN) (dI (hg:=aT g24) [51] (j7 (aE.cs y15) KW) (dI (hg:=aT g24) [48,52] (bJ Tryz.func28 (gH fu x5 y15 _ z25)) (dI [47,53] (b4 g24) (dI [54] aF (dI (hg:=aT g27) [10] aF ?_)))))))))))))
    refine dI (hg:=aT g27) [56] aF (dI (hg:=aT g28) [9] aF (dI (hg:=aT g28) [4] aF (dI (hg:=aT g28) [5] aF (dI (hg:=aT g28) [59,60] (pA h16 h14n rN) (dI (hg:=aT g28) [61] (nD iS) (dI (hg:=aT g28) [62] (mR iG) (dI (hg:=aT g28) [58,63] dP (dI (hg:=aT g27) [57,64] (bS g28) (dI [55,65] (b4 g27) (dI [66] aF (dD (hg:=aT g29) [3] (c6 [bA x5.gPackages] nI) (dI (hg:=aT g29) [6] (aZ nB) (dD (hg:=aT g29) [69] (c6 [pI x18.gHead.gKind,pS x18.gHead.gName,a6 x18.gHead.gArgs] dL) ?_)))))))))))))
    refine dI (hg:=aT g29) [68,70] (bJ Tryz.func29 (o8 fu x5 x18.gHead _ z30)) (dI (hg:=aT g29) [4] aF (dI (hg:=aT g29) [5] aF (dI (hg:=aT g29) [72,73] (pA h16 h14n rN) (dI (hg:=aT g29) [74] (nD iS) (dI (hg:=aT g29) [75] (mR iG) (dI (hg:=aT g29) [71,76] dP (dI [67,77] (b4 g29) (dN ?_))))))))
    refine a9 H (fun h32 H=>?_) (fun h32 H=>?_)
    ·refine qS (qR (q1 aF (qN (aO.ret ?_))))
     obtain rfl:_=r:=(pY (aY H):)
     exact bN
    refine aO.skip (qR (q1 aF (q1 (aW.addI rfl rfl rfl rfl (c:=((i12+1:Nat):Int)) (by omega) (by omega)) (q1 aF (qN ?_)))))
    exact jA h14l ⟨_,(aY H:),bZ⟩
   have H:=oH H g28
   refine bO H fun x34 z33 H=>(dW (dI [7] aF (dI [45] gS (dI [46] aF (dD (hg:=aT g24) [3] (c6 [bA x5.gPackages] nI) (dI (hg:=aT g24) [4] aF (dI (hg:=aT g24) [5] aF (dI (hg:=aT g24) [49,50] (pA h16 h14n rN) (dI (hg:=aT g24) [51] (j7 (aE.cs y15) KW) (dI (hg:=aT g24) [48,52] (bJ Tryz.func28 (gH fu x5 y15 _ z25)) (dI [47,53] (b4 g24) (dI [54] aF (dI (hg:=aT g27) [10] aF ?_)))))))))))))
   refine dI (hg:=aT g27) [56] aF ?_
   iterate 7 refine wD g28 ?_
   refine dI (hg:=aT g27) [57] (b4 g28) (dI [55,65] (b4 g27) (dI [66] aF (dD (hg:=aT rfl) [3] (c6 [bA x5.gPackages] nI) (dI (hg:=aT rfl) [6] (aZ nB) (dD (hg:=aT rfl) [69] (c6 [pI x18.gHead.gKind,pS x18.gHead.gName,a6 x18.gHead.gArgs] dL) (dI (hg:=aT rfl) [68,70] (bJ Tryz.func29 (o8 fu x5 x18.gHead _ z33)) (dI (hg:=aT rfl) [4] aF (dI (hg:=aT rfl) [5] aF (dI (hg:=aT rfl) [72,73] (pA h16 h14n rN) (dI (hg:=aT rfl) [74] (nD iS) (dI (hg:=aT rfl) [75] (mR iG) (dI (hg:=aT rfl) [71,76] dP (dI [67,77] (b4 rfl) ?_)))))))))))))
   refine dN ?_;refine a9 H (fun h35 H=>?_) (fun h35 H=>?_)
   ·refine qS (qR (q1 aF (qN (aO.ret ?_))))
    obtain rfl:_=r:=(pY (aY H):)
    exact bN
   refine aO.skip (qR (q1 aF (q1 (aW.addI rfl rfl rfl rfl (c:=((i12+1:Nat):Int)) (by omega) (by omega)) (q1 aF (qN ?_)))))
   exact jA h14l ⟨_,(aY H:),bZ⟩
  refine aO.exit ?_;exact k7 ⟨_,H,bZ⟩
 rintro⟨⟩ H
 refine qS (qR (q1 aF (qN (aO.ret ?_))))
 obtain rfl:_=r:=(aY H:)
 exact bN
end
end Go.Proofs.YtpioomclpaiomaaGreat.W
