/- Words, rules and walks of several kinds, laid together: OkH, OkA3, OkA4, OkA5, OkA6, OkD, OkA7, WFnd, MaTy2, Ctr, Plain, SL, TyEq0, WTy, MaMat, WMatch. No conditions but those that each theorem states. -/
import Derived.Test.YtpioomclpaiomaaGreatQh53115a7d
import Derived.Test.YtpioomclpaiomaaGreatQha19938eb
import Derived.Test.YtpioomclpaiomaaGreatProg
import Derived.Test.YtpioomclpaiomaaGreatQhbde349b7
import Derived.Test.YtpioomclpaiomaaGreatQhae6a8691
import Derived.Test.YtpioomclpaiomaaGreatQh34fcd349
set_option linter.unusedSimpArgs false
set_option linter.unusedVariables false
namespace Go.Proofs.YtpioomclpaiomaaGreat.W
set_option linter.unusedSimpArgs false
set_option linter.unusedVariables false
open Go.RowKit Go.WalkArith Go.IntWalk
theorem agM(d:DS)(l:List ByteArray):0<l.length→(d.pick l).size+1≤wl l:=fun h=>by
 have:=af2 (d.pick_mem h)
 exact this
theorem acX(d:DS)(n:Nat):0<n→d.below n<n:=fun h=>d.below_lt h
theorem af3(E:Int): -9223372036854775808≤aQ E∧aQ E≤9223372036854775807:=by
 unfold aQ IntKind.wrap
 simp [IntKind.bits,IntKind.signed]
 omega
inductive EX:aG→Prop
 |mk {k:Int} {t n:ByteArray} {i:Int} {ty:aA} {args:List aG} {arms:List bJ} (h:(k=2→0≤i∧i≤1)∧(k=1→i.natAbs≤9223372036854775808)) (ha: ∀a∈args,EX a) (hm: ∀m∈arms,EX m.gBody):EX (.mk k t n i ty args arms)
theorem EX.num{e:aG}(h:EX e):(e.gKind=2→0≤e.gN∧e.gN≤1)∧(e.gKind=1→e.gN.natAbs≤9223372036854775808):=by cases h;assumption
theorem EX.arg{e:aG}(h:EX e): ∀a∈e.gArgs,EX a:=by cases h;assumption
theorem EX.arm{e:aG}(h:EX e): ∀m∈e.gArms,EX m.gBody:=by cases h;assumption
theorem EX.zero:EX (aG.mk 0 s_ s_ 0 (aA.mk 0 s_ []) [] []):= .mk ⟨by omega,by omega⟩ (by simp) (by simp)
section
variable {α:Type}
theorem abO{P:α→Prop}: ∀a∈([]:List α),P a:=by simp
theorem aeS{P:α→Prop}{l:List α}{x:α}(h: ∀a∈l,P a)(hx:P x): ∀a∈l++ [x],P a:=by
 intro a ha
 rcases List.mem_append.1 ha with ha|ha
 ·exact h a ha
 ·obtain rfl:=List.mem_singleton.1 ha
  exact hx
theorem R4 [Inhabited α]{P:α→Prop}{l:List α}{i:Nat}(h: ∀a∈l,P a)(hi:i<l.length):P (a3 l i):=h _ (kL hi)
variable [Wt α]
theorem YX(a:List α)(x:α):(a.length=0→wl (List.drop 1 (a++ [x]))=0)∧(0<a.length→wl (List.drop 1 (a++ [x]))=wl (List.drop 1 a)+wt x+1):=by
 cases a with
 |nil=>exact⟨fun _=>rfl,fun h=>by simp at h⟩
 |cons b a=>exact⟨fun h=>by simp at h,fun _=>by simp only [List.cons_append,List.drop_succ_cons,List.drop_zero];rw [(bY _ _).1,(cA _).1];omega⟩
theorem ai7(v:List α):wl (List.drop (1:Int).toNat (List.take (((v.length:Nat):Int):Int).toNat v))=wl (List.drop 1 v):=by
 have:List.take (((v.length:Nat):Int):Int).toNat v=v:=by simp
 rw [this]
 rfl
theorem uV(L:List α)(x:Int)(k:Nat):(((k:Int)≤((L.length:Nat):Int)∧x=k)∨(((L.length:Nat):Int)≤k∧x=((L.length:Nat):Int)))→wl (List.drop (x:Int).toNat (List.take (((L.length:Nat):Int):Int).toNat L))+wl (List.take k L)≤wl L:=by
 have e:List.take (((L.length:Nat):Int):Int).toNat L=L:=by simp
 rw [e]
 rintro(⟨h,rfl⟩|⟨h,rfl⟩)
 ·have:=CE k L
  simp only [Int.toNat_natCast]
  omega
 ·simp only [Int.toNat_natCast,List.drop_length]
  have:=mU L k
  show 0+_≤_
  omega
theorem agL(L:List α)(x:Int):(((2:Int)≤((L.length:Nat):Int)∧x=2)∨(((L.length:Nat):Int)≤2∧x=((L.length:Nat):Int)))→wl (List.drop (1:Int).toNat (List.take (x:Int).toNat L))+wl (List.take 1 L)≤wl (List.take 2 L):=by
 have key: ∀M:List α,wl (List.drop (1:Int).toNat M)+wl (List.take 1 M)=wl M:=fun M=>by
  have:=CE 1 M
  show wl (List.drop 1 M)+_=_
  omega
 rintro(⟨h,rfl⟩|⟨h,rfl⟩)
 ·have:=key (L.take 2)
  rw [List.take_take] at this
  exact Nat.le_of_eq this
 ·have h2:L.length≤2:=by omega
  have:=key L
  rw [show List.take (((L.length:Nat):Int):Int).toNat L=L by simp,List.take_of_length_le h2]
  exact Nat.le_of_eq this
variable [Inhabited α]
theorem ZA(L:List α)(a b c:α)(k k1:Nat)(hk:k+1=k1):(k<L.length→wt (a3 ((([])++L)++([a,b,c]:List α)) k)+1+wl (List.take k L)=wl (List.take k1 L))∧(L.length≤k→k<L.length+3→wt (a3 ((([])++L)++([a,b,c]:List α)) k)≤wt a+wt b+wt c∧wl (List.take k L)=wl L∧wl (List.take k1 L)=wl L)∧wl (List.take k1 L)≤wl L:=by
 subst hk
 rw [List.nil_append]
 refine⟨fun h=>?_,fun h h3=>⟨?_,by rw [List.take_of_length_le h],by rw [List.take_of_length_le (by omega)]⟩,mU L _⟩
 ·have h2:=mV L k h
  have e:a3 (L++ [a,b,c]) k=a3 L k:=by
   unfold a3
   rw [List.getElem?_append_left h]
  rw [e]
  omega
 ·have e:a3 (L++ [a,b,c]) k=a3 [a,b,c] (k-L.length):=by
   unfold a3
   rw [List.getElem?_append_right h]
  rw [e]
  have:k-L.length=0∨k-L.length=1∨k-L.length=2:=by omega
  rcases this with h|h|h<;>rw [h]<;>simp [a3]<;>omega
end
theorem oX{α β:Type}[Wt α]{v:List α}{x:α}{PA:α→Prop}{E:List α→Prop}{Q:β→Prop}{m:List α→Prop}(hB: ∀a∈v,PA a)(h:m (v++ [x]):=by first|omega|(dsimp only;omega))(hx:PA x:=by first|assumption|exact EX.zero):Ok (some (LR.next (v++ [x]))) (PL Q (fun v=>m v∧ ∀a∈v,PA a) E):=⟨_,rfl,h,aeS hB hx⟩
theorem U0{α:Type}{P1 P2:α→Prop}{a:α}(h:P1 a:=by first|omega|(dsimp only;omega))(k:P2 a:=by first|assumption|exact EX.zero|exact .mk ⟨by omega,by omega⟩ (by first|assumption|exact abO) (by first|assumption|exact abO)):Ok (some a) (fun a=>P1 a∧P2 a):=⟨a,rfl,h,k⟩
def aiW(p r:cC):Prop:=r.gs=p.gs∧p.gat≤r.gat∧r.gat≤((p.gs.size:Nat):Int)∧r.gdeep=p.gdeep∧r.gbad=p.gbad
def Q0(fu:Nat):Prop:= ∀p:cC,0≤p.gat→p.gat≤((p.gs.size:Nat):Int)→p.gs.size≤1048576→Ok (vB fu p) (aiW p)
theorem Q8:bZ Q0:=(bZ.ge 2147483648).imp fun fu hfu p h0 h1 h2=>by
 unfold vB
 refine Ok.sok (E:=fun v1=>p.gat≤v1∧v1≤((p.gs.size:Nat):Int)) ?_ (fun v1 h=>Ok.some ⟨rfl,h.1,h.2,rfl,rfl⟩)
 unfold O1
 refine Ok.loopW (fun v1=>p.gat≤v1∧v1≤((p.gs.size:Nat):Int)) (fun v1=>(((p.gs.size:Nat):Int)-v1).toNat) ?_ _ _ bP bP
 intro v1 hI
 have:=eJ (v1+1)
 unfold O0
 refine Ok.swd (fun g=>?_) (fun g=>Ok.brk hI)
 refine Ok.gdk bP (fun z=>?_)
 refine Ok.swd (fun _=>Ok.next bP) (fun _=>?_)
 refine Ok.swd (fun _=>Ok.next bP) (fun _=>Ok.brk hI)
def VF(p:cC)(r:aB×cC):Prop:=r.2.gs=p.gs∧p.gat≤r.2.gat∧r.2.gat≤((p.gs.size:Nat):Int)∧(r.2.gbad=false→r.2.gdeep=p.gdeep∧(wt r.1:Int)+1≤2*(r.2.gat-p.gat))
def aeN(n:Nat)(r:cC→Option (aB×cC)):Prop:= ∀p:cC,(14-p.gdeep).toNat<n→0≤p.gat→p.gat≤((p.gs.size:Nat):Int)→p.gs.size≤1048576→0≤p.gdeep→p.gdeep≤14→p.gbad=false→Ok (r p) (VF p)
theorem aaT(n fu:Nat)(hfu:2147483648≤fu)(k1:Q0 fu)(k2:QY fu)(r:qV)(hr:aeN n r):aeN (n+1) (C6 fu r):=by
 intro p hn h0 h1 h2 hd hd2 hb
 unfold C6
 refine Ok.bd (k1 p h0 h1 h2) ?_;rintro x ⟨e1,e2,e3,e4,e5⟩
 have e3':x.gat≤((x.gs.size:Nat):Int):=by rw [e1];exact e3
 have bad: ∀v:Int,p.gat≤v→v≤((p.gs.size:Nat):Int)→Ok (some ((aB.mk s_ []),(cC.mk x.gs v x.gdeep (aQ (x.gsize+1)) true))) (VF p):=fun v hv hv2=>Ok.some ⟨e1,hv,hv2,fun h=>by cases h⟩
 refine Ok.swd (fun _=>bad _ e2 e3) (fun g1=>?_)
 refine Ok.swd (fun _=>bad _ e2 e3) (fun g2=>?_)
 refine Ok.sok (E:=fun v=>x.gat≤v∧v≤((x.gs.size:Nat):Int)) ?_ ?_
 ·unfold OY
  have hz:x.gs.size≤1048576:=by rw [e1];exact h2
  refine Ok.loopW (fun v1=>x.gat≤v1∧v1≤((x.gs.size:Nat):Int)) (fun v1=>(((x.gs.size:Nat):Int)-v1).toNat) ?_ _ _ bP bP
  intro v1 hI
  have:=eJ (v1+1)
  unfold OW
  refine Ok.swd (fun g=>?_) (fun g=>Ok.brk hI)
  refine Ok.gdk bP (fun z=>?_)
  refine Ok.bd (k2 _) ?_;rintro b-
  exact Ok.sw (fun _=>Ok.next bP) (fun _=>Ok.brk hI)
 intro v hv
 refine Ok.swd (fun g3=>?_) (fun g3=>?_)
 ·refine Ok.gdk bP (fun z=>Ok.some ⟨e1,by show _≤v;omega,by show v≤_;rw [← e1];exact hv.2,fun _=>⟨e4,?_⟩⟩)
  show(wt (aB.mk _ []):Int)+1≤2*(v-p.gat)
  rw [aB.wt_mk,zD]
  have:wl ([]:List aB)=0:=rfl
  omega
 ·refine Ok.gdk bP (fun z=>?_)
  have hvp:v≤((p.gs.size:Nat):Int):=by rw [← e1];exact hv.2
  refine Ok.swn (fun _=>bad _ (by omega) hvp) (fun g4=>?_)
  refine Ok.swd (fun _=>bad _ (by omega) hvp) (fun g5=>?_)
  have w1:=eJ (v+1)
  have w2:=eJ (x.gdeep+1)
  have hz:x.gs.size≤1048576:=by rw [e1];exact h2
  refine Ok.sok (E:=fun(q:ByteArray×Int×Int×Int×Bool×List aB)=>q.1=p.gs∧p.gat≤q.2.1∧q.2.1≤((p.gs.size:Nat):Int)∧q.2.2.2.2.1=true) ?_ ?_
  ·unfold OZ
   refine Ok.loopW (fun(q:ByteArray×Int×Int×Int×Bool×List aB)=>q.1=p.gs∧v+1≤q.2.1∧q.2.1≤((p.gs.size:Nat):Int)∧(q.2.2.2.2.1=false→q.2.2.1=p.gdeep+1∧(wl q.2.2.2.2.2:Int)≤2*(q.2.1-(v+1)))) (fun q=>(2*(((p.gs.size:Nat):Int)-q.2.1)).toNat+(if q.2.2.2.2.1 then 0 else 1)) ?_ _ _ ?_ ?_
   ·rintro⟨v17,v18,v19,v20,v21,v23⟩ ⟨i1,i2,i3,i4⟩
    dsimp only at i1 i2 i3 i4
    subst i1
    unfold OX
    refine Ok.swb (fun g6=>?_) (fun g6=>Ok.brk ⟨rfl,by show p.gat≤v18;omega,i3,g6⟩)
    subst g6
    obtain⟨i5,i6⟩:=i4 rfl
    subst i5
    refine Ok.bd (k1 _ (by show 0≤v18;omega) i3 h2) ?_;rintro y ⟨f1,f2,f3,f4,f5⟩
    replace f1:y.gs=p.gs:=f1
    replace f2:v18≤y.gat:=f2
    replace f3:y.gat≤((p.gs.size:Nat):Int):=f3
    replace f4:y.gdeep=p.gdeep+1:=f4
    replace f5:y.gbad=false:=f5
    have hl:=aX v23
    have step: ∀q:aB×cC,VF y q→Ok (gd ((v23).length+(([q.1]:List aB)).length≤68719476736) (some (LR.next (q.2.gs,q.2.gat,q.2.gdeep,q.2.gsize,q.2.gbad,(v23++([q.1]:List aB)))))) (PL (VF p) (fun s'=>(fun(q:ByteArray×Int×Int×Int×Bool×List aB)=>q.1=p.gs∧v+1≤q.2.1∧q.2.1≤((p.gs.size:Nat):Int)∧(q.2.2.2.2.1=false→q.2.2.1=p.gdeep+1∧(wl q.2.2.2.2.2:Int)≤2*(q.2.1-(v+1)))) s'∧(fun(q:ByteArray×Int×Int×Int×Bool×List aB)=>(2*(((p.gs.size:Nat):Int)-q.2.1)).toNat+(if q.2.2.2.2.1 then 0 else 1)) s'<(fun(q:ByteArray×Int×Int×Int×Bool×List aB)=>(2*(((p.gs.size:Nat):Int)-q.2.1)).toNat+(if q.2.2.2.2.1 then 0 else 1)) (p.gs,v18,p.gdeep+1,v20,false,v23)) (fun(q:ByteArray×Int×Int×Int×Bool×List aB)=>q.1=p.gs∧p.gat≤q.2.1∧q.2.1≤((p.gs.size:Nat):Int)∧q.2.2.2.2.1=true)):=by
     rintro⟨a,b⟩ ⟨j1,j2,j3,j4⟩
     dsimp only at j1 j2 j3 j4
     have j3':b.gat≤((p.gs.size:Nat):Int):=by rw [← f1];exact j3
     have l1:=cA a
     refine Ok.gdk (by dsimp only;omega) (fun _=>Ok.next ⟨⟨j1.trans f1,by show v+1≤b.gat;omega,j3',fun hb2=>?_⟩,?_⟩)
     ·obtain⟨j5,j6⟩:=j4 hb2
      refine⟨by show b.gdeep=_;rw [j5,f4],?_⟩
      show(wl (v23++ [a]):Int)≤2*(b.gat-(v+1))
      have:=bY v23 [a]
      omega
     ·dsimp only
      cases hbb:b.gbad with
      |true=>simp;omega
      |false=>
       obtain⟨j5,j6⟩:=j4 hbb
       simp
       omega
    have call:Ok (r y) (VF y):=hr y (by rw [f4];omega) (by omega) (by rw [f1];exact f3) (by rw [f1];exact h2) (by rw [f4];omega) (by rw [f4];omega) f5
    have w3:=eJ (y.gat+1)
    have w4:=eJ (y.gdeep-1)
    have hys:y.gs.size=p.gs.size:=by rw [f1]
    refine Ok.swd (fun g7=>?_) (fun g7=>Ok.bd call step)
    refine Ok.gdk (by omega) (fun z2=>?_)
    refine Ok.swd (fun g8=>Ok.ret ⟨f1,by show p.gat≤aQ _;omega,by show aQ _≤_;omega,fun _=>⟨by show aQ _=_;omega,?_⟩⟩) (fun g8=>Ok.bd call step)
    show(wt (aB.mk s_ v23):Int)+1≤2*(aQ (y.gat+1)-p.gat)
    rw [aB.wt_mk]
    have:s_.size=0:=rfl
    omega
   ·dsimp only
    have: ∀b:Bool,(if b then 0 else 1)≤1:=by decide
    have:=this x.gbad
    omega
   ·have hxs:x.gs.size=p.gs.size:=by rw [e1]
    refine⟨e1,by dsimp only;omega,by dsimp only;omega,fun _=>⟨by dsimp only;omega,?_⟩⟩
    show((wl ([]:List aB):Nat):Int)≤2*(aQ (v+1)-(v+1))
    have:wl ([]:List aB)=0:=rfl
    omega
  ·rintro⟨v17,v18,v19,v20,v21,v23⟩ ⟨i1,i2,i3,i4⟩
   dsimp only at i1 i2 i3 i4
   exact Ok.some ⟨i1,i2,i3,fun h=>by rw [show v21=false from h] at i4;cases i4⟩
theorem ad0(n:Nat):bZ fun fu=>aeN n (oV fu):=by
 induction n with
 |zero=>exact .all fun fu p h=>absurd h (Nat.not_lt_zero _)
 |succ n ih=>
  refine bZ.succ ((ih.and (((bZ.ge 2147483648).and Q8).and CQ)).imp fun fu h=>?_)
  intro p
  rw [oV]
  exact aaT n fu h.2.1.1 h.2.1.2 h.2.2 _ h.1 p
def PN(fu:Nat):Prop:= ∀ps:ByteArray,ps.size≤1048576→Ok (s7 fu ps) (fun r=>wt r.1≤2*ps.size)
theorem xF:bZ PN:=(((ad0 15).and Q8).and cI).imp fun fu hh ps h=>by
 obtain⟨⟨k1,k2⟩,k3⟩:=hh
 have zero: ∀b:Bool,Ok (some ((aB.mk s_ []),b)) (fun r=>wt r.1≤2*ps.size):=fun b=>Ok.some (by
  show wt (aB.mk s_ [])≤_
  rw [aB.wt_mk]
  have:s_.size=0:=rfl
  have:wl ([]:List aB)=0:=rfl
  omega)
 unfold s7
 refine Ok.bd (k1 _ (by show(14-(0:Int)).toNat<15;omega) (Int.le_refl _) (by show(0:Int)≤_;omega) h (Int.le_refl _) (by show(0:Int)≤14;omega) rfl) ?_;rintro⟨x,r⟩ ⟨e1,e2,e3,e4⟩
 dsimp only at e1 e2 e3 e4
 replace e1:r.gs=ps:=e1
 replace e2:0≤r.gat:=e2
 replace e3:r.gat≤((ps.size:Nat):Int):=e3
 refine Ok.bd (k2 r e2 (by rw [e1];exact e3) (by rw [e1];exact h)) ?_;rintro y ⟨f1,f2,f3,f4,f5⟩
 refine Ok.sw (fun _=>zero _) (fun g=>?_)
 obtain⟨-,e5⟩:=e4 (by rw [← f5];exact g)
 replace e5:(wt x:Int)+1≤2*(r.gat-0):=e5
 refine Ok.swn (fun _=>zero _) (fun _=>?_)
 refine Ok.bd (k3 x (by omega)) ?_;rintro b-
 exact Ok.swb (fun _=>zero _) (fun _=>Ok.some (by show wt x≤_;omega))
theorem aiL{v:Int}{k:Nat}(h:v.natAbs<10^(k+1)):(v.tdiv 10).natAbs<10^k:=by
 rw [Int.natAbs_tdiv,Nat.pow_succ] at*
 show v.natAbs/10<_
 omega
def zA(fu:Nat):Prop:= ∀pn:Int,pn.natAbs≤9223372036854775808→Ok (mK fu pn) (fun r=>r.size≤21)
theorem kQ:bZ zA:=(bZ.ge 18446744073709551616).imp fun fu hfu pn h=>by
 unfold mK
 refine Ok.swd (fun _=>Ok.some (by decide)) (fun _=>?_)
 refine Ok.sok (E:=fun q:Int×ByteArray=>q.2.size≤20) ?_ ?_
 ·unfold ER
  refine Ok.loopW (fun q:Int×ByteArray=>q.1.natAbs≤9223372036854775808∧ ∃k,q.2.size+k≤19∧q.1.natAbs<10^k) (fun q=>q.1.natAbs) ?_ _ _ (by dsimp only;omega) ⟨h,19,by show(0:Nat)+19≤19;omega,by dsimp only;omega⟩
  rintro⟨v2,v3⟩ ⟨h1,k,h2,h3⟩
  dsimp only at h1 h2 h3
  unfold EQ
  refine Ok.swn (fun g=>?_) (fun _=>Ok.brk (by dsimp only;omega))
  obtain⟨k,rfl⟩: ∃m,k=m+1:=by
   rcases k with _|m
   ·exfalso
    have:(10:Nat)^0=1:=rfl
    omega
   ·exact⟨m,rfl⟩
  have h4:=aiL h3
  have h5:(v2.tdiv 10).natAbs<v2.natAbs:=by
   rw [Int.natAbs_tdiv]
   show v2.natAbs/10<_
   omega
  have w:=eJ (v2.tdiv 10)
  have w:aQ (v2.tdiv 10)=v2.tdiv 10:=w (by omega)
  have fin: ∀u:UInt8,Ok (gd ((bytesStr ([u]:List UInt8)).size+(v3).size≤1099511627776) (some (LR.next ((aQ ((v2).tdiv 10)),((bytesStr ([u]:List UInt8))++v3))))) (PL (fun r:ByteArray=>r.size≤21) (fun s'=>(fun q:Int×ByteArray=>q.1.natAbs≤9223372036854775808∧ ∃k,q.2.size+k≤19∧q.1.natAbs<10^k) s'∧(fun q:Int×ByteArray=>q.1.natAbs) s'<(fun q:Int×ByteArray=>q.1.natAbs) (v2,v3)) (fun q:Int×ByteArray=>q.2.size≤20)):=fun u=>by
   have e1:=aeV [u]
   have e2: [u].length=1:=rfl
   have e3:=eQ (bytesStr [u]) v3
   refine Ok.gdk (by omega) (fun _=>Ok.next ⟨⟨by dsimp only;rw [w];omega,k,by dsimp only;omega,by dsimp only;rw [w];exact h4⟩,by dsimp only;rw [w];exact h5⟩)
  exact Ok.swd (fun _=>fin _) (fun _=>fin _)
 ·rintro⟨v2,v3⟩ hv
  dsimp only at hv
  have:AY.size=1:=rfl
  have:=eQ AY v3
  exact Ok.swd (fun _=>Ok.gdk (by omega) (fun _=>Ok.some bP)) (fun _=>Ok.some bP)
def wJ(fu:Nat):Prop:= ∀ps:ByteArray,Ok (wP fu ps) (fun r=>r.1.natAbs≤9223372036854775808)
theorem kR:bZ wJ:=kQ.imp fun fu k ps=>by
 have rng: ∀E:Int,(aQ E).natAbs≤9223372036854775808:=fun E=>by have:=af3 E;omega
 have fin: ∀v:Int,v.natAbs≤9223372036854775808→Ok (bd (mK fu v) (fun x18=>sw (!decide (x18=ps)) (some ((0:Int),false)) (some (v,true)))) (fun r=>r.1.natAbs≤9223372036854775808):=fun v hv=>by
  refine Ok.bd (k v hv) ?_;rintro x-
  exact Ok.swn (fun _=>Ok.some (by decide)) (fun _=>Ok.some hv)
 have loop: ∀(f:Nat→Int→Option (LR Int (Int×Bool))) (n:Nat),(∀i s,i<n→Ok (f i s) (PL (fun r:Int×Bool=>r.1.natAbs≤9223372036854775808) (fun v:Int=>v.natAbs≤9223372036854775808) (fun v:Int=>v.natAbs≤9223372036854775808)))→Ok (loopN f (n-0) 0 0) (PS (fun r:Int×Bool=>r.1.natAbs≤9223372036854775808) (fun v:Int=>v.natAbs≤9223372036854775808)):=fun f n hf=>Ok.loop0 (fun _ v=>v.natAbs≤9223372036854775808) (by decide) (fun i s _ h=>h) (fun i s hi _=>hf i s hi)
 unfold wP
 refine Ok.bd (Q:=fun r:Int×Bool=>r.1.natAbs≤9223372036854775808) ?_ (fun r hr=>by obtain⟨a,b⟩:=r;exact Ok.some hr)
 unfold J7
 have hps:((ps.size:Nat):Int)=((ps.size:Nat):Int):=rfl
 refine Ok.swd (fun g=>?_) (fun g=>?_)
 ·refine Ok.gdk (by omega) (fun _=>?_)
  refine Ok.sok (E:=fun _=>True) ?_ ?_
  ·unfold OP
   exact Ok.swd (fun _=>Ok.gdk (by omega) (fun _=>Ok.inr trivial)) (fun _=>Ok.inr trivial)
  rintro v3-
  refine Ok.swd (fun _=>Ok.some (by decide)) (fun _=>?_)
  refine Ok.swd (fun _=>Ok.some (by decide)) (fun _=>?_)
  refine Ok.sok (E:=fun v:Int=>v.natAbs≤9223372036854775808) ?_ ?_
  ·unfold OT
   refine loop _ _ (fun i s hi=>?_)
   unfold OR
   refine Ok.gdk hi (fun _=>?_)
   exact Ok.swd (fun _=>Ok.ret (by decide)) (fun _=>Ok.swd (fun _=>Ok.ret (by decide)) (fun _=>Ok.next (rng _)))
  intro v9 hv
  refine Ok.sok (E:=fun v:Int=>v.natAbs≤9223372036854775808) ?_ ?_
  ·unfold OQ
   exact Ok.swd (fun _=>Ok.inr (rng _)) (fun _=>Ok.inr hv)
  intro v15 hv
  exact fin v15 hv
 ·refine Ok.swd (fun _=>Ok.some (by decide)) (fun _=>?_)
  refine Ok.swd (fun _=>Ok.some (by decide)) (fun _=>?_)
  refine Ok.sok (E:=fun v:Int=>v.natAbs≤9223372036854775808) ?_ (fun v hv=>fin v hv)
  unfold OU
  refine loop _ _ (fun i s hi=>?_)
  unfold OS
  refine Ok.gdk hi (fun _=>?_)
  exact Ok.swd (fun _=>Ok.ret (by decide)) (fun _=>Ok.swd (fun _=>Ok.ret (by decide)) (fun _=>Ok.next (rng _)))
end Go.Proofs.YtpioomclpaiomaaGreat.W

namespace Go.Proofs.YtpioomclpaiomaaGreat.W
set_option linter.unusedSimpArgs false
set_option linter.unusedVariables false
set_option maxRecDepth 20000
set_option maxHeartbeats 4000000
open Go.RowKit Go.WalkArith Go.IntWalk
attribute [local irreducible] wt wl
def L6(fu:Nat):Prop:= ∀(pa0:aB),wt pa0≤268435456→Ok (k8 fu pa0) (fun r=>wt r≤2*wt pa0)
def RW(n:Nat)(m:AC):Prop:= ∀(pa0:aB),wt pa0<n→wt pa0≤268435456→Ok (m pa0) (fun r=>wt r≤2*wt pa0)
theorem afW{n fu:Nat}(hfu:2147483648≤fu)(eR:M2 fu)(d2:M1 fu){r_sl5Ty:AC}(h_sl5Ty:RW n r_sl5Ty):RW (n+1) (UP fu r_sl5Ty):=by
 intro pa0 hm hpre
 have:=aB.wt_eq pa0
 have:s_.size=0:=rfl
 refine oN (fun g1=>?_) fun g1=>?_
 ·have:=A5 g1
  refine oG fun z2=>?_;refine oD (fun g3=>?_) fun g3=>?_
  ·refine oG fun z4=>?_
   have:=zD pa0.gAtom (1:Int).toNat (((pa0.gAtom.size:Nat):Int):Int).toNat
   exact oB (eR (pa0.gAtom.extract (1:Int).toNat (((pa0.gAtom.size:Nat):Int):Int).toNat)) fun x6 h5=>oS
  have:=(aU:wl ([]:List aA)=0∧_)
  exact oB (d2 pa0.gAtom ([]:List aA) bP) fun x8 h6=>oS
 have:=aX pa0.gList
 refine oD (fun g7=>?_) fun g7=>?_
 ·have:=(aU:wl ([]:List aA)=0∧_)
  have:=aA.wt_mk 0 s_ []
  exact oS
 have:=aX (pa0.gList)
 refine oG fun z8=>?_
 have:=(aU:wl ([]:List aA)=0∧_)
 refine Ok.sok (E:=fun v13=>wl v13+2*wl (List.take 1 pa0.gList)≤wl ([]:List aA)+2*wl pa0.gList∧(v13.length=0∨wl (List.drop 1 v13)+2*wl (List.take 2 pa0.gList)≤2*wl pa0.gList)) ?_ ?_
 ·refine Ok.loop0 (fun i11 v13=>wl v13+2*wl (List.take 1 pa0.gList)≤wl ([]:List aA)+2*wl (List.take i11 pa0.gList)∧((i11=1∧v13.length=0)∨(2≤i11∧1≤v13.length∧wl (List.drop 1 v13)+2*wl (List.take 2 pa0.gList)≤2*wl (List.take i11 pa0.gList)))) (by exact bP) (by rintro i11 v13-hI;have:=mU pa0.gList i11;(try dsimp only at hI ⊢);omega) ?_;rintro i11 v13 hl10 hI11
  have:=mV pa0.gList i11 hl10
  have:=mU pa0.gList (i11+1)
  have:=cN pa0.gList i11 hl10
  refine oB (h_sl5Ty (a3 pa0.gList i11) bP bP) fun x17 h12=>?_
  have:=aX (v13)
  have:=cA x17
  refine oG fun z13=>?_
  have:=bY v13 ([x17]:List aA)
  have:=YX v13 x17
  have:=UV pa0.gList 2 (i11+1)
  exact Ok.next bP
 intro v13 h9
 have:=cN pa0.gList 0 z8
 have:wl (List.take 1 pa0.gList)=wl (List.take 0 pa0.gList)+wt (a3 pa0.gList 0)+1:=EW pa0.gList 0 z8
 have:=aB.wt_eq (a3 pa0.gList 0)
 have:hH.size=5:=rfl
 refine oD (fun g14=>?_) fun g14=>?_
 ·have:=congrArg ByteArray.size g14
  have:=aX v13
  refine oD (fun g15=>?_) fun g15=>?_
  ·refine oG fun z16=>?_
   have:=cN pa0.gList 1 z16
   have:wl (List.take 2 pa0.gList)=wl (List.take 1 pa0.gList)+wt (a3 pa0.gList 1)+1:=EW pa0.gList 1 z16
   have:=aB.wt_eq (a3 pa0.gList 1)
   refine oN (fun g17=>?_) fun g17=>?_
   ·have:=A5 g17
    refine oG fun z18=>?_
    have:=uV v13 1 1
    have:=ai7 v13
    have:=aA.wt_mk 3 ((a3 pa0.gList 1).gAtom) (List.drop (1:Int).toNat (List.take (((v13.length:Nat):Int):Int).toNat v13))
    exact oS
   have:uK.size=3:=rfl
   refine oD (fun g19=>?_) fun g19=>?_
   ·have:=congrArg ByteArray.size g19
    have:=aA.wt_mk 2 ((a3 pa0.gList 0).gAtom) v13
    exact oS
   have:=aA.wt_mk 2 ((a3 pa0.gList 0).gAtom) v13
   exact oS
  have:uK.size=3:=rfl
  refine oD (fun g20=>?_) fun g20=>?_
  ·have:=congrArg ByteArray.size g20
   refine oD (fun g21=>?_) fun g21=>?_
   ·refine oG fun z22=>?_
    have:=cN pa0.gList 1 z22
    have:wl (List.take 2 pa0.gList)=wl (List.take 1 pa0.gList)+wt (a3 pa0.gList 1)+1:=EW pa0.gList 1 z22
    have:=aB.wt_eq (a3 pa0.gList 1)
    refine oN (fun g23=>?_) fun g23=>?_
    ·have:=A5 g23
     have:=aA.wt_mk 4 ((a3 pa0.gList 1).gAtom) []
     exact oS
    have:=aA.wt_mk 2 ((a3 pa0.gList 0).gAtom) v13
    exact oS
   have:=aA.wt_mk 2 ((a3 pa0.gList 0).gAtom) v13
   exact oS
  have:=aA.wt_mk 2 ((a3 pa0.gList 0).gAtom) v13
  exact oS
 have:uK.size=3:=rfl
 refine oD (fun g24=>?_) fun g24=>?_
 ·have:=congrArg ByteArray.size g24
  have:=aX v13
  refine oD (fun g25=>?_) fun g25=>?_
  ·refine oG fun z26=>?_
   have:=cN pa0.gList 1 z26
   have:wl (List.take 2 pa0.gList)=wl (List.take 1 pa0.gList)+wt (a3 pa0.gList 1)+1:=EW pa0.gList 1 z26
   have:=aB.wt_eq (a3 pa0.gList 1)
   refine oN (fun g27=>?_) fun g27=>?_
   ·have:=A5 g27
    have:=aA.wt_mk 4 ((a3 pa0.gList 1).gAtom) []
    exact oS
   have:=aA.wt_mk 2 ((a3 pa0.gList 0).gAtom) v13
   exact oS
  have:=aA.wt_mk 2 ((a3 pa0.gList 0).gAtom) v13
  exact oS
 have:=aA.wt_mk 2 ((a3 pa0.gList 0).gAtom) v13
 exact oS
theorem agX(n:Nat):bZ fun fu=>RW n (k8 fu):=by
 induction n with
 |zero=>exact .all fun fu=>fun _ h=>absurd h (Nat.not_lt_zero _)
 |succ n ih=>exact bZ.succ ((ih.and (((bZ.ge 2147483648).and eR).and d2)).imp fun fu ⟨h,⟨⟨hfu,eR⟩,d2⟩⟩=>fun pa0=>by rw [k8];exact afW hfu eR d2 h pa0)
theorem gF:bZ L6:=(agX 8589934592).imp fun fu h pa0 hpre=>h pa0 bP hpre
def xS(fu:Nat):Prop:= ∀(pn:Int),pn.natAbs≤9223372036854775808→Ok (qU fu pn) (fun r=>wt r=0∧EX r)
theorem eV:bZ xS:=(bZ.ge 2147483648).imp fun fu hfu pn hpre=>by
 have:s_.size=0:=rfl
 have:=(aU:wl ([]:List aA)=0∧_)
 have:=aA.wt_mk 0 s_ []
 have:=(aU:wl ([]:List aG)=0∧_)
 have:=(aU:wl ([]:List bJ)=0∧_)
 have:=aG.wt_mk 1 s_ s_ pn (aA.mk 0 s_ []) [] []
 exact U0
def xT(fu:Nat):Prop:= ∀(ps:ByteArray),Ok (sS fu ps) (fun r=>wt r=ps.size∧EX r)
theorem e9:bZ xT:=(bZ.ge 2147483648).imp fun fu hfu ps=>by
 have:s_.size=0:=rfl
 have:=(aU:wl ([]:List aA)=0∧_)
 have:=aA.wt_mk 0 s_ []
 have:=(aU:wl ([]:List aG)=0∧_)
 have:=(aU:wl ([]:List bJ)=0∧_)
 have:=aG.wt_mk 3 s_ ps 0 (aA.mk 0 s_ []) [] []
 exact U0
def GX(fu:Nat):Prop:= ∀(pa pb:Int),Ok (n6 fu pa pb) (fun r=>(pa≤pb∧r=pa)∨(pb≤pa∧r=pb))
theorem gZ:bZ GX:=(bZ.ge 2147483648).imp fun fu hfu pa pb=>by
 exact oD (fun _=>oS) fun g1=>oS
def YJ(fu:Nat):Prop:= ∀(pa0:aB),wt pa0≤67108864→Ok (gA fu pa0) (fun r=>wt r≤2*wt pa0∧EX r)
def vD(n:Nat)(m:gM):Prop:= ∀(pa0:aB),2*wt pa0+1<n→wt pa0≤67108864→Ok (m pa0) (fun r=>wt r≤2*wt pa0∧EX r)
def tC(n:Nat)(m:fR):Prop:= ∀(plist:List aB),2*wl plist<n→wl plist≤67108864→Ok (m plist) (fun r=>wl r≤2*wl plist∧ ∀a∈r,EX a)
def xR(n:Nat)(m:iL):Prop:= ∀(px:aB),2*wt px+1<n→wt px≤67108864→Ok (m px) (fun r=>wt r≤2*wt px∧EX r.gBody)
theorem W5{n fu:Nat}(hfu:2147483648≤fu)(kR:wJ fu)(eV:xS fu)(e9:xT fu)(gZ:GX fu)(gF:L6 fu)(gL:zB fu){r_sl12Expr:gM}(h_sl12Expr:vD n r_sl12Expr){r_sl12Exprs:fR}(h_sl12Exprs:tC n r_sl12Exprs){r_sl12Arm:iL}(h_sl12Arm:xR n r_sl12Arm):vD (n+1) (GF fu r_sl12Expr r_sl12Exprs r_sl12Arm):=by
 intro pa0 hm hpre
 have:=aB.wt_eq pa0
 have:s_.size=0:=rfl
 refine oN (fun g1=>?_) fun g1=>?_
 ·have:=A5 g1
  refine sJ (kR pa0.gAtom) fun x3 x4 h2=>?_
  dsimp only at h2
  refine oC (fun g3=>?_) fun g3=>?_
  ·exact KR (eV x3 bP) fun x7 h4 h4B=>U0
  have:nP.size=4:=rfl
  refine oD (fun g5=>?_) fun g5=>?_
  ·have:=congrArg ByteArray.size g5
   have:=(aU:wl ([]:List aA)=0∧_)
   have:=aA.wt_mk 0 s_ []
   have:=(aU:wl ([]:List aG)=0∧_)
   have:=(aU:wl ([]:List bJ)=0∧_)
   have:=aG.wt_mk 2 s_ s_ 1 (aA.mk 0 s_ []) [] []
   exact U0
  have:kF.size=5:=rfl
  refine oD (fun g6=>?_) fun g6=>?_
  ·have:=congrArg ByteArray.size g6
   have:=(aU:wl ([]:List aA)=0∧_)
   have:=aA.wt_mk 0 s_ []
   have:=(aU:wl ([]:List aG)=0∧_)
   have:=(aU:wl ([]:List bJ)=0∧_)
   have:=aG.wt_mk 2 s_ s_ 0 (aA.mk 0 s_ []) [] []
   exact U0
  exact KR (e9 pa0.gAtom) fun x11 h7 h7B=>U0
 have:=(aU:wl ([]:List aB)=0∧_)
 have:=aX (pa0.gList)
 refine oG fun z8=>?_
 have:=bY ([]:List aB) pa0.gList
 have:=aB.wt_mk s_ []
 have:=BO (aB.mk s_ []) (aB.mk s_ []) (aB.mk s_ [])
 refine oG fun z9=>?_
 have:=bY (([])++pa0.gList) ([(aB.mk s_ []),(aB.mk s_ []),(aB.mk s_ [])]:List aB)
 refine oG fun z10=>?_
 have:=ZA pa0.gList (aB.mk s_ []) (aB.mk s_ []) (aB.mk s_ []) 1 2 rfl
 refine Ok.lt fun y15 h11=>?_
 have:=congrArg wt h11
 refine oG fun z12=>?_
 have:=ZA pa0.gList (aB.mk s_ []) (aB.mk s_ []) (aB.mk s_ []) 0 1 rfl
 refine Ok.lt fun y18 h13=>?_
 have:=congrArg wt h13
 have:=aB.wt_eq y18
 have:JX.size=4:=rfl
 refine oD (fun g14=>?_) fun g14=>?_
 ·have:=congrArg ByteArray.size g14
  have:=aX pa0.gList
  refine oB (gZ 2 ((pa0.gList.length:Nat):Int)) fun x22 h15=>oG fun z16=>?_
  have:=uV pa0.gList x22 2
  refine KR (h_sl12Exprs (List.drop (x22:Int).toNat (List.take (((pa0.gList.length:Nat):Int):Int).toNat pa0.gList)) bP bP) fun x25 h17 h17B=>?_
  have:=aB.wt_eq y15
  have:=(aU:wl ([]:List aA)=0∧_)
  have:=aA.wt_mk 0 s_ []
  have:=(aU:wl ([]:List bJ)=0∧_)
  have:=aG.wt_mk 4 s_ y15.gAtom 0 (aA.mk 0 s_ []) x25 []
  exact U0
 have:m4.size=6:=rfl
 refine oD (fun g18=>?_) fun g18=>?_
 ·have:=congrArg ByteArray.size g18
  refine oG fun z19=>?_
  have:=ZA pa0.gList (aB.mk s_ []) (aB.mk s_ []) (aB.mk s_ []) 2 3 rfl
  refine Ok.lt fun y28 h20=>?_
  have:=congrArg wt h20
  have:=aX pa0.gList
  refine oB (gZ 3 ((pa0.gList.length:Nat):Int)) fun x31 h21=>oG fun z22=>?_
  have:=uV pa0.gList x31 3
  refine KR (h_sl12Exprs (List.drop (x31:Int).toNat (List.take (((pa0.gList.length:Nat):Int):Int).toNat pa0.gList)) bP bP) fun x34 h23 h23B=>?_
  have:=aB.wt_eq y15
  have:=aB.wt_eq y28
  have:=(aU:wl ([]:List aA)=0∧_)
  have:=aA.wt_mk 0 s_ []
  have:=(aU:wl ([]:List bJ)=0∧_)
  have:=aG.wt_mk 5 y15.gAtom y28.gAtom 0 (aA.mk 0 s_ []) x34 []
  exact U0
 have:AJ.size=3:=rfl
 refine oD (fun g24=>?_) fun g24=>?_
 ·have:=congrArg ByteArray.size g24
  have:=aX pa0.gList
  refine oB (gZ 2 ((pa0.gList.length:Nat):Int)) fun x37 h25=>oG fun z26=>?_
  have:=uV pa0.gList x37 2
  refine KR (h_sl12Exprs (List.drop (x37:Int).toNat (List.take (((pa0.gList.length:Nat):Int):Int).toNat pa0.gList)) bP bP) fun x40 h27 h27B=>?_
  have:=aB.wt_eq y15
  have:=(aU:wl ([]:List aA)=0∧_)
  have:=aA.wt_mk 0 s_ []
  have:=(aU:wl ([]:List bJ)=0∧_)
  have:=aG.wt_mk 6 s_ y15.gAtom 0 (aA.mk 0 s_ []) x40 []
  exact U0
 have:AI.size=3:=rfl
 refine oD (fun g28=>?_) fun g28=>?_
 ·have:=congrArg ByteArray.size g28
  have:=aX pa0.gList
  refine oB (gZ 2 ((pa0.gList.length:Nat):Int)) fun x43 h29=>oG fun z30=>?_
  have:=uV pa0.gList x43 2
  refine KR (h_sl12Exprs (List.drop (x43:Int).toNat (List.take (((pa0.gList.length:Nat):Int):Int).toNat pa0.gList)) bP bP) fun x46 h31 h31B=>?_
  have:=aB.wt_eq y15
  have:=(aU:wl ([]:List aA)=0∧_)
  have:=aA.wt_mk 0 s_ []
  have:=(aU:wl ([]:List bJ)=0∧_)
  have:=aG.wt_mk 8 s_ y15.gAtom 0 (aA.mk 0 s_ []) x46 []
  exact U0
 have:zU.size=2:=rfl
 refine oD (fun g32=>?_) fun g32=>?_
 ·have:=congrArg ByteArray.size g32
  have:=aX pa0.gList
  refine oG fun z33=>?_
  have:=uV pa0.gList 1 1
  refine KR (h_sl12Exprs (List.drop (1:Int).toNat (List.take (((pa0.gList.length:Nat):Int):Int).toNat pa0.gList)) bP bP) fun x50 h34 h34B=>?_
  have:=(aU:wl ([]:List aA)=0∧_)
  have:=aA.wt_mk 0 s_ []
  have:=(aU:wl ([]:List bJ)=0∧_)
  have:=aG.wt_mk 9 s_ s_ 0 (aA.mk 0 s_ []) x50 []
  exact U0
 have:uB.size=4:=rfl
 refine oD (fun g35=>?_) fun g35=>?_
 ·have:=congrArg ByteArray.size g35
  have:=aX pa0.gList
  refine oB (gZ 2 ((pa0.gList.length:Nat):Int)) fun x53 h36=>oG fun z37=>?_
  have:=uV pa0.gList x53 2
  refine KR (h_sl12Exprs (List.drop (x53:Int).toNat (List.take (((pa0.gList.length:Nat):Int):Int).toNat pa0.gList)) bP bP) fun x56 h38 h38B=>?_
  have:=aB.wt_eq y15
  have:=(aU:wl ([]:List aA)=0∧_)
  have:=aA.wt_mk 0 s_ []
  have:=(aU:wl ([]:List bJ)=0∧_)
  have:=aG.wt_mk 11 y15.gAtom s_ 0 (aA.mk 0 s_ []) x56 []
  exact U0
 have:RI.size=3:=rfl
 refine oD (fun g39=>?_) fun g39=>?_
 ·have:=congrArg ByteArray.size g39
  refine oB (gF y15 bP) fun x59 h40=>?_
  have:=aX pa0.gList
  refine oB (gZ 2 ((pa0.gList.length:Nat):Int)) fun x61 h41=>oG fun z42=>?_
  have:=uV pa0.gList x61 2
  refine KR (h_sl12Exprs (List.drop (x61:Int).toNat (List.take (((pa0.gList.length:Nat):Int):Int).toNat pa0.gList)) bP bP) fun x64 h43 h43B=>?_
  have:=(aU:wl ([]:List bJ)=0∧_)
  have:=aG.wt_mk 12 s_ s_ 0 x59 x64 []
  exact U0
 have:uA.size=4:=rfl
 refine oD (fun g44=>?_) fun g44=>?_
 ·have:=congrArg ByteArray.size g44
  have:=aX pa0.gList
  refine oB (gZ 2 ((pa0.gList.length:Nat):Int)) fun x67 h45=>oG fun z46=>?_
  have:=agL pa0.gList x67
  refine KR (h_sl12Exprs (List.drop (1:Int).toNat (List.take (x67:Int).toNat pa0.gList)) bP bP) fun x70 h47 h47B=>?_
  have:=(aU:wl ([]:List bJ)=0∧_)
  refine agK (PA:=fun a=>EX a.gBody) pa0.gList 2 (fun i71 v73 hl49 hI50 hI50B _ _=>?_) ?_
  ·have:=cN pa0.gList i71 hl49
   refine KR (h_sl12Arm (a3 pa0.gList i71) bP bP) fun x77 h51 h51B=>?_
   have:=aX (v73)
   have:=cA x77
   refine oG fun z52=>?_
   have:=bY v73 ([x77]:List bJ)
   exact oX hI50B
  rintro v73 ⟨h48,h48B⟩
  have:=(aU:wl ([]:List aA)=0∧_)
  have:=aA.wt_mk 0 s_ []
  have:=aG.wt_mk 7 s_ s_ 0 (aA.mk 0 s_ []) x70 v73
  exact U0
 have:=aX pa0.gList
 refine oB (gZ 1 ((pa0.gList.length:Nat):Int)) fun x80 h53=>oG fun z54=>?_
 have:=uV pa0.gList x80 1
 refine KR (h_sl12Exprs (List.drop (x80:Int).toNat (List.take (((pa0.gList.length:Nat):Int):Int).toNat pa0.gList)) bP bP) fun x83 h55 h55B=>?_
 have:=(aU:wl ([]:List aA)=0∧_)
 have:=aA.wt_mk 0 s_ []
 have:=(aU:wl ([]:List bJ)=0∧_)
 have:=aG.wt_mk 10 s_ y18.gAtom 0 (aA.mk 0 s_ []) x83 []
 exact U0
theorem S9{n fu:Nat}(hfu:2147483648≤fu)(kR:wJ fu)(eV:xS fu)(e9:xT fu)(gZ:GX fu)(gF:L6 fu)(gL:zB fu){r_sl12Expr:gM}(h_sl12Expr:vD n r_sl12Expr){r_sl12Exprs:fR}(h_sl12Exprs:tC n r_sl12Exprs){r_sl12Arm:iL}(h_sl12Arm:xR n r_sl12Arm):tC (n+1) (B3 fu r_sl12Expr r_sl12Exprs r_sl12Arm):=by
 intro plist hm hpre
 have:=(aU:wl ([]:List aG)=0∧_)
 refine agK (PA:=fun a=>EX a) plist 2 (fun i1 v3 hl2 hI3 hI3B _ _=>?_) ?_
 ·have:=aX plist
  have:=cN plist i1 hl2
  refine KR (h_sl12Expr (a3 plist i1) bP bP) fun x7 h4 h4B=>?_
  have:=aX (v3)
  have:=cA x7
  refine oG fun z5=>?_
  have:=bY v3 ([x7]:List aG)
  exact oX hI3B
 rintro v3 ⟨h1,h1B⟩
 exact U0
theorem ZU{n fu:Nat}(hfu:2147483648≤fu)(kR:wJ fu)(eV:xS fu)(e9:xT fu)(gZ:GX fu)(gF:L6 fu)(gL:zB fu){r_sl12Expr:gM}(h_sl12Expr:vD n r_sl12Expr){r_sl12Exprs:fR}(h_sl12Exprs:tC n r_sl12Exprs){r_sl12Arm:iL}(h_sl12Arm:xR n r_sl12Arm):xR (n+1) (J1 fu r_sl12Expr r_sl12Exprs r_sl12Arm):=by
 intro px hm hpre
 have:=aB.wt_eq px
 have:=aX px.gList
 refine oD (fun g1=>?_) fun g1=>?_
 ·have:s_.size=0:=rfl
  have:=(aU:wl ([]:List aA)=0∧_)
  have:=aA.wt_mk 0 s_ []
  have:=(aU:wl ([]:List aG)=0∧_)
  have:=(aU:wl ([]:List bJ)=0∧_)
  have:=aG.wt_mk 0 s_ s_ 0 (aA.mk 0 s_ []) [] []
  have:=(aU:wl ([]:List ByteArray)=0∧_)
  have:=bJ.wt_mk s_ [] (aG.mk 0 s_ s_ 0 (aA.mk 0 s_ []) [] [])
  exact U0
 have:=eJ (((px.gList.length:Nat):Int)-1)
 refine oG fun z2=>?_
 have:=MS (1:Int).toNat (aQ (((px.gList.length:Nat):Int)-1):Int).toNat px.gList
 have:=aiA px.gList (aQ (((px.gList.length:Nat):Int)-1):Int).toNat
 have:=EW px.gList (aQ (((px.gList.length:Nat):Int)-1):Int).toNat
 have:=mU px.gList ((aQ (((px.gList.length:Nat):Int)-1):Int).toNat+1)
 refine sJ (gL (List.drop (1:Int).toNat (List.take (aQ (((px.gList.length:Nat):Int)-1):Int).toNat px.gList)) bP) fun x4 x5 h3=>?_
 dsimp only at h3
 have:=aX (px.gList)
 refine oG fun z4=>oG fun z5=>?_
 have:=cN px.gList ((aQ (((px.gList.length:Nat):Int)-1)).toNat) z5.2
 refine Ok.lt fun y8 h6=>?_
 have:=congrArg wt h6
 refine KR (h_sl12Expr y8 bP bP) fun x11 h7 h7B=>?_
 have:=cN px.gList 0 z4
 have:wl (List.take 1 px.gList)=wl (List.take 0 px.gList)+wt (a3 px.gList 0)+1:=EW px.gList 0 z4
 have:=aB.wt_eq (a3 px.gList 0)
 have:=bJ.wt_mk ((a3 px.gList 0).gAtom) x4 x11
 exact U0
theorem ZV(n:Nat):bZ fun fu=>vD n (gA fu)∧tC n (jB fu)∧xR n (l6 fu):=by
 induction n with
 |zero=>exact .all fun fu=>⟨fun _ h=>absurd h (Nat.not_lt_zero _),fun _ h=>absurd h (Nat.not_lt_zero _),fun _ h=>absurd h (Nat.not_lt_zero _)⟩
 |succ n ih=>exact bZ.succ ((ih.and (((((((bZ.ge 2147483648).and kR).and eV).and e9).and gZ).and gF).and gL)).imp fun fu ⟨h,⟨⟨⟨⟨⟨⟨hfu,kR⟩,eV⟩,e9⟩,gZ⟩,gF⟩,gL⟩⟩=>⟨fun pa0=>by rw [gA];exact W5 hfu kR eV e9 gZ gF gL h.1 h.2.1 h.2.2 pa0,fun plist=>by rw [jB];exact S9 hfu kR eV e9 gZ gF gL h.1 h.2.1 h.2.2 plist,fun px=>by rw [l6];exact ZU hfu kR eV e9 gZ gF gL h.1 h.2.1 h.2.2 px⟩)
theorem mE:bZ YJ:=(ZV 8589934592).imp fun fu h pa0 hpre=>h.1 pa0 bP hpre
def aeI(fu:Nat):Prop:= ∀(pa0:aG),wt pa0≤2097152→(EX pa0)→Ok (kV fu pa0) (fun r=>wt r+8≤32*(wt pa0+1))
def GT(n:Nat)(m:m6):Prop:= ∀(pa0:aG),2*wt pa0+1<n→wt pa0≤2097152→(EX pa0)→Ok (m pa0) (fun r=>wt r+8≤32*(wt pa0+1))
def y7(n:Nat)(m:jL):Prop:= ∀(phead:List aB) (plist:List aG),2*wl plist<n→wl phead≤33554432∧wl plist≤2097152→(∀a∈plist,EX a)→Ok (m phead plist) (fun r=>wt r≤wl phead+32*wl plist)
theorem adM{n fu:Nat}(hfu:2147483648≤fu)(kQ:zA fu)(bL:CI fu)(gR:R1 fu)(lG:FE fu){r_sl12Sx:m6}(h_sl12Sx:GT n r_sl12Sx){r_sl12Args:jL}(h_sl12Args:y7 n r_sl12Args):GT (n+1) (OL fu r_sl12Sx r_sl12Args):=by
 intro pa0 hm hpre hB
 have hN:=hB.num
 have:=aG.wt_eq pa0
 refine oD (fun g1=>?_) fun g1=>?_
 ·exact oB (kQ pa0.gN bP) fun x3 h2=>oB (bL x3) fun x5 h3=>oS
 refine oD (fun g4=>?_) fun g4=>?_
 ·have:kF.size=5:=rfl
  have:nP.size=4:=rfl
  have:=jO kF nP
  have:=a6 kF
  have:=a6 nP
  refine oG fun z5=>?_
  have:=cN ([kF,nP]:List ByteArray) ((pa0.gN).toNat) z5.2
  have:=a6 (a3 ([kF,nP]:List ByteArray) ((pa0.gN).toNat))
  exact oB (bL (a3 ([kF,nP]:List ByteArray) ((pa0.gN).toNat))) fun x9 h6=>oS
 refine oD (fun g7=>?_) fun g7=>?_
 ·exact oB (bL pa0.gName) fun x12 h8=>oS
 refine oD (fun g9=>?_) fun g9=>?_
 ·have:JX.size=4:=rfl
  refine oB (bL JX) fun x15 h10=>oB (bL pa0.gName) fun x17 h11=>?_
  have:=jO x15 x17
  refine oB (h_sl12Args ([x15,x17]:List aB) pa0.gArgs bP bP (by exact hB.arg)) fun x19 h12=>?_
  have:=aB.wt_eq x19
  have:=aB.wt_mk x19.gAtom x19.gList
  exact oS
 refine oD (fun g13=>?_) fun g13=>?_
 ·have:m4.size=6:=rfl
  refine oB (bL m4) fun x22 h14=>oB (bL pa0.gTrait) fun x24 h15=>oB (bL pa0.gName) fun x26 h16=>?_
  have:=BO x22 x24 x26
  refine oB (h_sl12Args ([x22,x24,x26]:List aB) pa0.gArgs bP bP (by exact hB.arg)) fun x28 h17=>?_
  have:=aB.wt_eq x28
  have:=aB.wt_mk x28.gAtom x28.gList
  exact oS
 refine oD (fun g18=>?_) fun g18=>?_
 ·have:AJ.size=3:=rfl
  refine oB (bL AJ) fun x31 h19=>oB (bL pa0.gName) fun x33 h20=>?_
  have:=jO x31 x33
  refine oB (h_sl12Args ([x31,x33]:List aB) pa0.gArgs bP bP (by exact hB.arg)) fun x35 h21=>?_
  have:=aB.wt_eq x35
  have:=aB.wt_mk x35.gAtom x35.gList
  exact oS
 refine oD (fun g22=>?_) fun g22=>?_
 ·have:AI.size=3:=rfl
  refine oB (bL AI) fun x38 h23=>oB (bL pa0.gName) fun x40 h24=>?_
  have:=jO x38 x40
  refine oB (h_sl12Args ([x38,x40]:List aB) pa0.gArgs bP bP (by exact hB.arg)) fun x42 h25=>?_
  have:=aB.wt_eq x42
  have:=aB.wt_mk x42.gAtom x42.gList
  exact oS
 refine oD (fun g26=>?_) fun g26=>?_
 ·have:zU.size=2:=rfl
  refine oB (bL zU) fun x45 h27=>?_
  have:=cA x45
  refine oB (h_sl12Args ([x45]:List aB) pa0.gArgs bP bP (by exact hB.arg)) fun x47 h28=>?_
  have:=aB.wt_eq x47
  have:=aB.wt_mk x47.gAtom x47.gList
  exact oS
 refine oD (fun g29=>?_) fun g29=>?_
 ·refine oB (bL pa0.gName) fun x50 h30=>?_
  have:=cA x50
  refine oB (h_sl12Args ([x50]:List aB) pa0.gArgs bP bP (by exact hB.arg)) fun x52 h31=>?_
  have:=aB.wt_eq x52
  have:=aB.wt_mk x52.gAtom x52.gList
  exact oS
 refine oD (fun g32=>?_) fun g32=>?_
 ·have:uB.size=4:=rfl
  refine oB (bL uB) fun x55 h33=>oB (bL pa0.gTrait) fun x57 h34=>?_
  have:=jO x55 x57
  refine oB (h_sl12Args ([x55,x57]:List aB) pa0.gArgs bP bP (by exact hB.arg)) fun x59 h35=>?_
  have:=aB.wt_eq x59
  have:=aB.wt_mk x59.gAtom x59.gList
  exact oS
 refine oD (fun g36=>?_) fun g36=>?_
 ·have:RI.size=3:=rfl
  refine oB (bL RI) fun x62 h37=>oB (gR pa0.gType bP) fun x64 h38=>?_
  have:=jO x62 x64
  refine oB (h_sl12Args ([x62,x64]:List aB) pa0.gArgs bP bP (by exact hB.arg)) fun x66 h39=>?_
  have:=aB.wt_eq x66
  have:=aB.wt_mk x66.gAtom x66.gList
  exact oS
 have:uA.size=4:=rfl
 refine oB (bL uA) fun x68 h40=>?_
 have:=cA x68
 refine oB (h_sl12Args ([x68]:List aB) pa0.gArgs bP bP (by exact hB.arg)) fun x70 h41=>?_
 have:=aB.wt_eq x70
 refine I9 pa0.gArms 32 (fun i71 v73 hl43 hI44 _ _=>?_) ?_
 ·have:=aX pa0.gArms
  have:=cN pa0.gArms i71 hl43
  refine Ok.lt fun y76 h45=>?_
  have:=congrArg wt h45
  have:=bJ.wt_eq y76
  refine oB (bL y76.gConstructor) fun x79 h46=>oB (lG y76.gVars bP) fun x81 h47=>?_
  have:=cA x79
  have:=aX (x81)
  refine oG fun z48=>oB (h_sl12Sx y76.gBody bP bP (by rw [show y76=a3 pa0.gArms i71 by assumption];exact R4 hB.arm (by assumption))) fun x84 h49=>?_
  have:=bY ([x79]:List aB) x81
  have:=cA x84
  refine oG fun z50=>?_
  have:=aX (v73)
  have:s_.size=0:=rfl
  have:=bY (([x79]:List aB)++x81) ([x84]:List aB)
  have:=aB.wt_mk s_ ((([x79]:List aB)++x81)++([x84]:List aB))
  have:=cA (aB.mk s_ ((([x79]:List aB)++x81)++([x84]:List aB)))
  refine oG fun z51=>?_
  have:=bY v73 ([(aB.mk s_ ((([x79]:List aB)++x81)++([x84]:List aB)))]:List aB)
  exact nN
 intro v73 h42
 have:=aB.wt_mk x70.gAtom v73
 exact oS
theorem W2{n fu:Nat}(hfu:2147483648≤fu)(kQ:zA fu)(bL:CI fu)(gR:R1 fu)(lG:FE fu){r_sl12Sx:m6}(h_sl12Sx:GT n r_sl12Sx){r_sl12Args:jL}(h_sl12Args:y7 n r_sl12Args):y7 (n+1) (GE fu r_sl12Sx r_sl12Args):=by
 intro phead plist hm hpre hB
 refine I9 plist 32 (fun i1 v3 hl2 hI3 _ _=>?_) ?_
 ·have:=aX plist
  have:=cN plist i1 hl2
  refine Ok.lt fun y6 h4=>?_
  have:=congrArg wt h4
  refine oB (h_sl12Sx y6 bP bP (by rw [show y6=a3 plist i1 by assumption];exact R4 hB (by assumption))) fun x9 h5=>?_
  have:=aX (v3)
  have:=cA x9
  refine oG fun z6=>?_
  have:=bY v3 ([x9]:List aB)
  exact nN
 intro v3 h1
 have:s_.size=0:=rfl
 have:=aB.wt_mk s_ v3
 exact oS
theorem afE(n:Nat):bZ fun fu=>GT n (kV fu)∧y7 n (mQ fu):=by
 induction n with
 |zero=>exact .all fun fu=>⟨fun _ h=>absurd h (Nat.not_lt_zero _),fun _ _ h=>absurd h (Nat.not_lt_zero _)⟩
 |succ n ih=>exact bZ.succ ((ih.and (((((bZ.ge 2147483648).and kQ).and bL).and gR).and lG)).imp fun fu ⟨h,⟨⟨⟨⟨hfu,kQ⟩,bL⟩,gR⟩,lG⟩⟩=>⟨fun pa0=>by rw [kV];exact adM hfu kQ bL gR lG h.1 h.2 pa0,fun phead plist=>by rw [mQ];exact W2 hfu kQ bL gR lG h.1 h.2 phead plist⟩)
theorem rE:bZ aeI:=(afE 8589934592).imp fun fu h pa0 hpre hB=>h.1 pa0 bP hpre hB
end Go.Proofs.YtpioomclpaiomaaGreat.W

namespace Go.Proofs.YtpioomclpaiomaaGreat.W
set_option linter.unusedSimpArgs false
set_option linter.unusedVariables false
set_option maxRecDepth 20000
set_option maxHeartbeats 4000000
open Go.RowKit Go.WalkArith Go.IntWalk
attribute [local irreducible] wt wl
def YI(fu:Nat):Prop:= ∀(pe:aG) (pleft:Int),wt pe≤1073741824→Ok (lO fu pe pleft) (fun _=>True)
def E4(n:Nat)(m:mP):Prop:= ∀(pe:aG) (pleft:Int),wt pe<n→wt pe≤1073741824→Ok (m pe pleft) (fun _=>True)
theorem WW{n fu:Nat}(hfu:2147483648≤fu){r_sl11Left:mP}(h_sl11Left:E4 n r_sl11Left):E4 (n+1) (GC fu r_sl11Left):=by
 intro pe pleft hm hpre
 refine oEN (fun i1 v2 hl2=>?_) ?_
 ·have:=aG.wt_eq pe
  have:=aX pe.gArgs
  refine oD (fun g4=>?_) fun g4=>?_
  ·have:=cN pe.gArgs i1 hl2
   refine Ok.lt fun y6 h5=>?_
   have:=congrArg wt h5
   exact oB (h_sl11Left y6 v2 bP bP) fun x9 _=>nN
  exact oK
 intro v2 _
 refine oEN (fun i10 v11 hl8=>?_) ?_
 ·have:=aG.wt_eq pe
  have:=aX pe.gArms
  refine oD (fun g10=>?_) fun g10=>?_
  ·have:=cN pe.gArms i10 hl8
   refine Ok.lt fun y15 h11=>?_
   have:=congrArg wt h11
   have:=bJ.wt_eq y15
   exact oB (h_sl11Left y15.gBody v11 bP bP) fun x18 _=>nN
  exact oK
 intro v11 _
 exact oS
theorem ZR(n:Nat):bZ fun fu=>E4 n (lO fu):=by
 induction n with
 |zero=>exact .all fun fu=>fun _ _ h=>absurd h (Nat.not_lt_zero _)
 |succ n ih=>exact bZ.succ ((ih.and (bZ.ge 2147483648)).imp fun fu ⟨h,hfu⟩=>fun pe pleft=>by rw [lO];exact WW hfu h pe pleft)
theorem FK:bZ YI:=(ZR 8589934592).imp fun fu h pe pleft hpre=>h pe pleft bP hpre
def QX(fu:Nat):Prop:= ∀(pk:Int),Ok (J0 fu pk) (fun _=>True)
theorem yM:bZ QX:=(bZ.ge 2147483648).imp fun fu hfu pk=>by
 refine AP ?_ ?_
 ·exact oD (fun _=>oI) fun g2=>oI
 intro v1 _
 refine oC (fun _=>oS) fun g3=>oD (fun _=>oS) fun g4=>?_;refine AP ?_ ?_
 ·exact oD (fun _=>oI) fun g6=>oI
 intro v5 _
 refine oC (fun _=>oS) fun g7=>oD (fun _=>oS) fun g8=>oD (fun _=>oS) fun g9=>?_;refine AP ?_ ?_
 ·exact oD (fun _=>oI) fun g11=>oI
 intro v10 _
 exact oC (fun _=>oS) fun g12=>oD (fun _=>oS) fun g13=>oD (fun _=>oS) fun g14=>oS
def MW(fu:Nat):Prop:= ∀(ps:ByteArray),Ok (GD fu ps) (fun _=>True)
theorem vP:bZ MW:=((bZ.ge 2147483648).and dG).imp fun fu ⟨hfu,dG⟩ ps=>by
 have:wG.size=1:=rfl
 have:AY.size=1:=rfl
 have:H8.size=1:=rfl
 have:H9.size=1:=rfl
 have:IA.size=1:=rfl
 have:=ai0 wG AY H8 H9 IA
 have:=a6 wG
 have:=a6 AY
 have:=a6 H8
 have:=a6 H9
 have:=a6 IA
 exact oB (dG ([wG,AY,H8,H9,IA]:List ByteArray) ps) fun x2 _=>oS
def MX(fu:Nat):Prop:= ∀(pt:aA),Ok (qE fu pt) (fun _=>True)
theorem kB:bZ MX:=(bZ.ge 2147483648).imp fun fu hfu pt=>by
 refine oD (fun g1=>?_) fun g1=>?_
 ·exact oD (fun _=>oS) fun g2=>oS
 exact oS
def YG(fu:Nat):Prop:= ∀(pa0:aG),wt pa0≤1073741824→Ok (lL fu pa0) (fun _=>True)
def EZ(n:Nat)(m:iK):Prop:= ∀(pa0:aG),wt pa0<n→wt pa0≤1073741824→Ok (m pa0) (fun _=>True)
theorem WI{n fu:Nat}(hfu:2147483648≤fu)(yM:QX fu)(oJ:abM fu)(bF:vE fu)(vP:MW fu)(eC:A4 fu)(kB:MX fu)(n0:M0 fu)(eB:A1 fu){r_sl11Form:iK}(h_sl11Form:EZ n r_sl11Form):EZ (n+1) (GA fu r_sl11Form):=by
 intro pa0 hm hpre
 have:=aG.wt_eq pa0
 refine oB6 (yM pa0.gKind) fun x2 x3 x4 x5 x6 x7 _=>?_;refine AP ?_ ?_
 ·refine oB (oJ pa0.gKind 1 12) fun x9 _=>oW (fun _=>oL) fun g4=>oB (bF pa0.gTrait) fun x12 _=>oN (fun _=>oL) fun g6=>?_;refine oW (fun g7=>?_) fun g7=>?_
  ·refine oN (fun _=>oL) fun g8=>?_;refine oW (fun g9=>?_) fun g9=>?_
   ·exact oN (fun _=>oL) fun g10=>oN (fun _=>oL) fun g11=>oI
   exact oN (fun _=>oL) fun g12=>oI
  refine oW (fun g13=>?_) fun g13=>?_
  ·exact oN (fun _=>oL) fun g14=>oN (fun _=>oL) fun g15=>oI
  exact oN (fun _=>oL) fun g16=>oI
 rintro⟨⟩-
 refine AP ?_ ?_
 ·refine oD (fun g18=>?_) fun g18=>?_
  ·refine oB (vP pa0.gName) fun x26 _=>oW (fun _=>oL) fun g20=>?_;refine oN (fun g21=>?_) fun g21=>?_
   ·refine oB (bF pa0.gName) fun x30 _=>oN (fun _=>oL) fun g23=>?_;refine oW (fun g24=>?_) fun g24=>?_
    ·exact oN (fun _=>oL) fun g25=>oI
    exact oI
   exact oI
  refine oN (fun g26=>?_) fun g26=>?_
  ·refine oB (bF pa0.gName) fun x36 _=>oN (fun _=>oL) fun g28=>?_;refine oW (fun g29=>?_) fun g29=>?_
   ·exact oN (fun _=>oL) fun g30=>oI
   exact oI
  exact oI
 rintro⟨⟩-
 refine AP ?_ ?_
 ·refine oD (fun g32=>?_) fun g32=>?_
  ·have:=aX pa0.gArgs
   refine oN (fun _=>oL) fun g33=>?_;refine oD (fun g34=>?_) fun g34=>?_
   ·refine oD (fun _=>oL) fun g35=>?_;refine oC (fun g36=>?_) fun g36=>?_
    ·exact oB (eC pa0.gType bP) fun x46 _=>oW (fun _=>oL) fun g38=>oI
    exact oB (kB pa0.gType) fun x49 _=>oW (fun _=>oL) fun g40=>oI
   refine oC (fun g41=>?_) fun g41=>?_
   ·exact oB (eC pa0.gType bP) fun x53 _=>oW (fun _=>oL) fun g43=>oI
   exact oB (kB pa0.gType) fun x56 _=>oW (fun _=>oL) fun g45=>oI
  refine oD (fun g46=>?_) fun g46=>?_
  ·have:=aX pa0.gArgs
   refine oD (fun _=>oL) fun g47=>?_;refine oC (fun g48=>?_) fun g48=>?_
   ·exact oB (eC pa0.gType bP) fun x62 _=>oW (fun _=>oL) fun g50=>oI
   exact oB (kB pa0.gType) fun x65 _=>oW (fun _=>oL) fun g52=>oI
  refine oC (fun g53=>?_) fun g53=>?_
  ·exact oB (eC pa0.gType bP) fun x69 _=>oW (fun _=>oL) fun g55=>oI
  exact oB (kB pa0.gType) fun x72 _=>oW (fun _=>oL) fun g57=>oI
 rintro⟨⟩-
 refine AP ?_ ?_
 ·refine oD (fun g59=>?_) fun g59=>?_
  ·exact oB (oJ pa0.gN (-999999) 999999) fun x76 _=>oW (fun _=>oL) fun g61=>oI
  refine oD (fun g62=>?_) fun g62=>?_
  ·exact oB (oJ pa0.gN 0 1) fun x80 _=>oW (fun _=>oL) fun g64=>oI
  exact oI
 rintro⟨⟩-
 refine AP ?_ ?_
 ·refine Ok.loop1 ?_;rintro i82 ⟨⟩ hl66
  have:=aX pa0.gArgs
  have:=cN pa0.gArgs i82 hl66
  refine Ok.lt fun y85 h68=>?_
  have:=congrArg wt h68
  exact oB (h_sl11Form y85 bP bP) fun x88 _=>oW (fun _=>oR) fun g70=>nN
 rintro⟨⟩-
 refine AP ?_ ?_
 ·refine Ok.loop1 ?_;rintro i90 ⟨⟩ hl72
  have:=aX pa0.gArms
  have:=cN pa0.gArms i90 hl72
  refine Ok.lt fun y93 h74=>?_
  have:=congrArg wt h74
  have:=bJ.wt_eq y93
  exact oB (bF y93.gConstructor) fun x96 _=>oW (fun _=>oR) fun g76=>oB (n0 y93.gVars) fun x99 _=>oW (fun _=>oR) fun g78=>oB (eB y93.gVars) fun x102 _=>oW (fun _=>oR) fun g80=>oB (h_sl11Form y93.gBody bP bP) fun x105 _=>oW (fun _=>oR) fun g82=>nN
 rintro⟨⟩-
 exact oS
theorem ZL(n:Nat):bZ fun fu=>EZ n (lL fu):=by
 induction n with
 |zero=>exact .all fun fu=>fun _ h=>absurd h (Nat.not_lt_zero _)
 |succ n ih=>exact bZ.succ ((ih.and (((((((((bZ.ge 2147483648).and yM).and oJ).and bF).and vP).and eC).and kB).and n0).and eB)).imp fun fu ⟨h,⟨⟨⟨⟨⟨⟨⟨⟨hfu,yM⟩,oJ⟩,bF⟩,vP⟩,eC⟩,kB⟩,n0⟩,eB⟩⟩=>fun pa0=>by rw [lL];exact WI hfu yM oJ bF vP eC kB n0 eB h pa0)
theorem FI:bZ YG:=(ZL 8589934592).imp fun fu h pa0 hpre=>h pa0 bP hpre
def MV(fu:Nat):Prop:= ∀(pe:aG),wt pe≤1073741824→Ok (vU fu pe) (fun _=>True)
theorem vO:bZ MV:=(((bZ.ge 2147483648).and FK).and FI).imp fun fu ⟨⟨hfu,FK⟩,FI⟩ pe hpre=>by
 refine oB (FK pe 300 bP) fun x2 _=>?_;refine oD (fun g2=>?_) fun g2=>?_
 ·exact oB (FI pe bP) fun x5 _=>oS
 exact oS
def KH(fu:Nat):Prop:= ∀(pa pb:List ByteArray),Ok (BY fu pa pb) (fun _=>True)
theorem tH:bZ KH:=(bZ.ge 2147483648).imp fun fu hfu pa pb=>by
 have:=aX pa
 have:=aX pb
 refine oN (fun _=>oS) fun g1=>?_;refine AP ?_ ?_
 ·refine Ok.loop1 ?_;rintro i2 ⟨⟩ hl3
  have:=aX (pb)
  exact oG fun z5=>oN (fun _=>oR) fun g6=>nN
 rintro⟨⟩-
 exact oS
def RX(fu:Nat):Prop:= ∀(pa0 pa1:aG),wt pa0≤536870912→Ok (iQ fu pa0 pa1) (fun _=>True)
def y2(n:Nat)(m:jV):Prop:= ∀(pa0 pa1:aG),wt pa0<n→wt pa0≤536870912→Ok (m pa0 pa1) (fun _=>True)
theorem P6{n fu:Nat}(hfu:2147483648≤fu)(rB:GU fu)(tH:KH fu){r_sEqualExpr:jV}(h_sEqualExpr:y2 n r_sEqualExpr):y2 (n+1) (zR fu r_sEqualExpr):=by
 intro pa0 pa1 hm hpre
 have:=aG.wt_eq pa0
 have:=aG.wt_eq pa1
 refine oN (fun _=>oS) fun g1=>oN (fun _=>oS) fun g2=>oN (fun _=>oS) fun g3=>oN (fun _=>oS) fun g4=>oB (rB pa0.gType pa1.gType bP) fun x6 _=>oW (fun _=>oS) fun g6=>?_
 have:=aX pa0.gArgs
 have:=aX pa1.gArgs
 refine oN (fun _=>oS) fun g7=>?_
 have:=aX pa0.gArms
 have:=aX pa1.gArms
 refine oN (fun _=>oS) fun g8=>?_;refine AP ?_ ?_
 ·refine Ok.loop1 ?_;rintro i10 ⟨⟩ hl10
  have:=cN pa0.gArgs i10 hl10
  refine Ok.lt fun y13 h12=>?_
  have:=congrArg wt h12
  have:=aX (pa1.gArgs)
  refine oG fun z13=>?_
  have:=cN pa1.gArgs i10 z13
  refine Ok.lt fun y16 h14=>?_
  have:=congrArg wt h14
  exact oB (h_sEqualExpr y13 y16 bP bP) fun x19 _=>oW (fun _=>oR) fun g16=>nN
 rintro⟨⟩-
 refine AP ?_ ?_
 ·refine Ok.loop1 ?_;rintro i21 ⟨⟩ hl18
  have:=cN pa0.gArms i21 hl18
  refine Ok.lt fun y24 h20=>?_
  have:=congrArg wt h20
  have:=aX (pa1.gArms)
  refine oG fun z21=>?_
  have:=cN pa1.gArms i21 z21
  refine Ok.lt fun y27 h22=>?_
  have:=congrArg wt h22
  have:=bJ.wt_eq y24
  have:=bJ.wt_eq y27
  exact oN (fun _=>oR) fun g23=>oB (tH y24.gVars y27.gVars) fun x31 _=>oW (fun _=>oR) fun g25=>oB (h_sEqualExpr y24.gBody y27.gBody bP bP) fun x34 _=>oW (fun _=>oR) fun g27=>nN
 rintro⟨⟩-
 exact oS
theorem SR(n:Nat):bZ fun fu=>y2 n (iQ fu):=by
 induction n with
 |zero=>exact .all fun fu=>fun _ _ h=>absurd h (Nat.not_lt_zero _)
 |succ n ih=>exact bZ.succ ((ih.and (((bZ.ge 2147483648).and rB).and tH)).imp fun fu ⟨h,⟨⟨hfu,rB⟩,tH⟩⟩=>fun pa0 pa1=>by rw [iQ];exact P6 hfu rB tH h pa0 pa1)
theorem zL:bZ RX:=(SR 8589934592).imp fun fu h pa0 pa1 hpre=>h pa0 pa1 bP hpre
def YH(fu:Nat):Prop:= ∀(pa0:aG) (pa1 pa2:List ByteArray),wl pa1+wl pa2+2*wt pa0≤134217728→Ok (lM fu pa0 pa1 pa2) (fun r=>wl r≤wl pa2+wt pa0+1)
def E0(n:Nat)(m:lN):Prop:= ∀(pa0:aG) (pa1 pa2:List ByteArray),wt pa0<n→wl pa1+wl pa2+2*wt pa0≤134217728→Ok (m pa0 pa1 pa2) (fun r=>wl r≤wl pa2+wt pa0+1)
theorem WP{n fu:Nat}(hfu:2147483648≤fu)(dG:MY fu){r_sl11Free:lN}(h_sl11Free:E0 n r_sl11Free):E0 (n+1) (GB fu r_sl11Free):=by
 intro pa0 pa1 pa2 hm hpre
 have:=aG.wt_eq pa0
 refine Ok.sok (E:=fun v2=>wl v2+wl pa0.gArgs+wl pa0.gArms≤wl pa2+wt pa0+1) ?_ ?_
 ·refine oD (fun g2=>?_) fun g2=>?_
  ·refine oB (dG pa1 pa0.gName) fun x5 _=>?_;refine oW (fun g4=>?_) fun g4=>?_
   ·refine oB (dG pa2 pa0.gName) fun x8 _=>?_;refine oW (fun g6=>?_) fun g6=>?_
    ·have:=aX (pa2)
     have:=cA pa0.gName
     have:=a6 pa0.gName
     refine oG fun z7=>?_
     have:=bY pa2 ([pa0.gName]:List ByteArray)
     exact oI
    exact oI
   exact oI
  exact oI
 intro v2 h1
 refine I9 pa0.gArgs 1 (fun i11 v13 hl9 hI10 _ _=>?_) ?_
 ·have:=aX pa0.gArgs
  refine oD (fun g11=>?_) fun g11=>?_
  ·refine oD (fun g12=>?_) fun g12=>?_
   ·have:=(aU:wl ([]:List ByteArray)=0∧_)
    have:=aX (pa1)
    refine oG fun z13=>?_
    have:=bY ([]:List ByteArray) pa1
    have:=cA pa0.gName
    have:=a6 pa0.gName
    refine oG fun z14=>?_
    have:=cN pa0.gArgs i11 hl9
    refine Ok.lt fun y20 h15=>?_
    have:=congrArg wt h15
    have:=bY (([])++pa1) ([pa0.gName]:List ByteArray)
    exact oB (h_sl11Free y20 ((([])++pa1)++([pa0.gName]:List ByteArray)) v13 bP bP) fun x23 h16=>nN
   have:=cN pa0.gArgs i11 hl9
   refine Ok.lt fun y24 h17=>?_
   have:=congrArg wt h17
   exact oB (h_sl11Free y24 pa1 v13 bP bP) fun x27 h18=>nN
  have:=cN pa0.gArgs i11 hl9
  refine Ok.lt fun y28 h19=>?_
  have:=congrArg wt h19
  exact oB (h_sl11Free y28 pa1 v13 bP bP) fun x31 h20=>nN
 intro v13 h8
 refine I9 pa0.gArms 1 (fun i32 v34 hl22 hI23 _ _=>?_) ?_
 ·have:=aX pa0.gArms
  have:=cN pa0.gArms i32 hl22
  refine Ok.lt fun y37 h24=>?_
  have:=congrArg wt h24
  have:=(aU:wl ([]:List ByteArray)=0∧_)
  have:=aX (pa1)
  refine oG fun z25=>?_
  have:=bY ([]:List ByteArray) pa1
  have:=bJ.wt_eq y37
  have:=aX (y37.gVars)
  refine oG fun z26=>?_
  have:=bY (([])++pa1) y37.gVars
  exact oB (h_sl11Free y37.gBody ((([])++pa1)++y37.gVars) v34 bP bP) fun x42 h27=>nN
 intro v34 h21
 exact oS
theorem ZM(n:Nat):bZ fun fu=>E0 n (lM fu):=by
 induction n with
 |zero=>exact .all fun fu=>fun _ _ _ h=>absurd h (Nat.not_lt_zero _)
 |succ n ih=>exact bZ.succ ((ih.and ((bZ.ge 2147483648).and dG)).imp fun fu ⟨h,⟨hfu,dG⟩⟩=>fun pa0 pa1 pa2=>by rw [lM];exact WP hfu dG h pa0 pa1 pa2)
theorem FJ:bZ YH:=(ZM 8589934592).imp fun fu h pa0 pa1 pa2 hpre=>h pa0 pa1 pa2 bP hpre
def IJ(fu:Nat):Prop:= ∀(pe:aG),wt pe≤67108864→Ok (sL fu pe) (fun r=>wl r≤wt pe+1)
theorem r9:bZ IJ:=((bZ.ge 2147483648).and FJ).imp fun fu ⟨hfu,FJ⟩ pe hpre=>by
 have:=(aU:wl ([]:List ByteArray)=0∧_)
 exact oB (FJ pe ([]:List ByteArray) ([]:List ByteArray) bP) fun x2 h1=>oS
def YO(fu:Nat):Prop:= ∀(pt:aA) (pvars:List ByteArray),wt pt+wl pvars≤67108864→Ok (mR fu pt pvars) (fun _=>True)
theorem fM:bZ YO:=((((bZ.ge 2147483648).and sA).and dG).and eC).imp fun fu ⟨⟨⟨hfu,sA⟩,dG⟩,eC⟩ pt pvars hpre=>by
 refine oB (sA pt bP) fun x2 h1=>?_;refine AP ?_ ?_
 ·refine Ok.loop1 ?_;rintro i3 ⟨⟩ hl3
  have:=aX x2
  have:=cN x2 i3 hl3
  have:=a6 (a3 x2 i3)
  exact oB (dG pvars (a3 x2 i3)) fun x7 _=>oW (fun _=>oR) fun g6=>nN
 rintro⟨⟩-
 exact oB (eC pt bP) fun x10 _=>oS
def acG(fu:Nat):Prop:= ∀(plist:List aA) (pvars:List ByteArray),wl plist+wl pvars≤67108864→Ok (C0 fu plist pvars) (fun _=>True)
theorem u6:bZ acG:=((bZ.ge 2147483648).and fM).imp fun fu ⟨hfu,fM⟩ plist pvars hpre=>by
 refine AP ?_ ?_
 ·refine Ok.loop1 ?_;rintro i1 ⟨⟩ hl2
  have:=aX plist
  have:=cN plist i1 hl2
  exact oB (fM (a3 plist i1) pvars bP) fun x5 _=>oW (fun _=>oR) fun g5=>nN
 rintro⟨⟩-
 exact oS
def YN(fu:Nat):Prop:= ∀(pe:aG),wt pe≤67108864→Ok (GI fu pe) (fun _=>True)
theorem FN:bZ YN:=((bZ.ge 2147483648).and zL).imp fun fu ⟨hfu,zL⟩ pe hpre=>by
 have:s_.size=0:=rfl
 have:=(aU:wl ([]:List aA)=0∧_)
 have:=aA.wt_mk 0 s_ []
 have:=(aU:wl ([]:List aG)=0∧_)
 have:=(aU:wl ([]:List bJ)=0∧_)
 have:=aG.wt_mk 0 s_ s_ 0 (aA.mk 0 s_ []) [] []
 exact oB (zL pe (aG.mk 0 s_ s_ 0 (aA.mk 0 s_ []) [] []) bP) fun x2 _=>oS
def U5(fu:Nat):Prop:= ∀(plist:List ByteArray) (pmost:Int),Ok (fS fu plist pmost) (fun _=>True)
theorem cT:bZ U5:=(((bZ.ge 2147483648).and n0).and eB).imp fun fu ⟨⟨hfu,n0⟩,eB⟩ plist pmost=>by
 refine oD (fun g1=>?_) fun g1=>?_
 ·refine oB (n0 plist) fun x3 _=>?_;refine oC (fun g3=>?_) fun g3=>?_
  ·exact oB (eB plist) fun x6 _=>oS
  exact oS
 exact oS
def YK(fu:Nat):Prop:= ∀(pe:aG) (pvars:List ByteArray),wt pe+wl pvars≤67108864→Ok (vX fu pe pvars) (fun _=>True)
theorem mF:bZ YK:=((((bZ.ge 2147483648).and r9).and dG).and vO).imp fun fu ⟨⟨⟨hfu,r9⟩,dG⟩,vO⟩ pe pvars hpre=>by
 refine oB (r9 pe bP) fun x2 h1=>?_;refine AP ?_ ?_
 ·refine Ok.loop1 ?_;rintro i3 ⟨⟩ hl3
  have:=aX x2
  have:=cN x2 i3 hl3
  have:=a6 (a3 x2 i3)
  exact oB (dG pvars (a3 x2 i3)) fun x7 _=>oW (fun _=>oR) fun g6=>nN
 rintro⟨⟩-
 exact oB (vO pe bP) fun x10 _=>oS
def acH(fu:Nat):Prop:= ∀(ps:aE),wt ps≤33554432→Ok (J3 fu ps) (fun _=>True)
theorem IZ:bZ acH:=(((((((bZ.ge 2147483648).and bF).and u6).and fM).and FN).and cT).and mF).imp fun fu ⟨⟨⟨⟨⟨⟨hfu,bF⟩,u6⟩,fM⟩,FN⟩,cT⟩,mF⟩ ps hpre=>by
 have:=aE.wt_eq ps
 refine oB (bF ps.gName) fun x2 _=>oW (fun _=>oS) fun g2=>?_
 have:=aX ps.gParams
 refine oD (fun _=>oS) fun g3=>?_
 have:iJ.size=4:=rfl
 have:=cA iJ
 have:=a6 iJ
 refine oB (u6 ps.gParams ([iJ]:List ByteArray) bP) fun x6 _=>oW (fun _=>oS) fun g5=>oB (fM ps.gResult ([iJ]:List ByteArray) bP) fun x9 _=>oW (fun _=>oS) fun g7=>?_;refine oW (fun g8=>?_) fun g8=>?_
 ·have:=aX ps.gVars
  refine oD (fun g9=>?_) fun g9=>?_
  ·exact oB (FN ps.gBody bP) fun x14 _=>oS
  exact oS
 refine oB (cT ps.gVars 5) fun x16 _=>?_;refine oC (fun g12=>?_) fun g12=>?_
 ·have:=aX ps.gVars
  have:=eJ (((ps.gParams.length:Nat):Int)+1)
  refine oD (fun g13=>?_) fun g13=>?_
  ·exact oB (mF ps.gBody ps.gVars bP) fun x20 _=>oS
  exact oS
 exact oS
def K2(fu:Nat):Prop:= ∀(pt:aT),wt pt≤16777216→Ok (pM fu pt) (fun _=>True)
theorem kH:bZ K2:=((((bZ.ge 2147483648).and IZ).and bF).and cT).imp fun fu ⟨⟨⟨hfu,IZ⟩,bF⟩,cT⟩ pt hpre=>by
 have:=(aU:wl ([]:List ByteArray)=0∧_)
 have:=aT.wt_eq pt
 refine I9 pt.gSignatures 1 (fun i1 v3 hl2 hI3 _ _=>?_) ?_
 ·have:=aX pt.gSignatures
  have:=cN pt.gSignatures i1 hl2
  refine Ok.lt fun y6 h4=>?_
  have:=congrArg wt h4
  refine oB (IZ y6 bP) fun x9 _=>oW (fun _=>oR) fun g6=>?_
  have:=aX (v3)
  have:=aE.wt_eq y6
  have:=cA y6.gName
  have:=a6 y6.gName
  refine oG fun z7=>?_
  have:=bY v3 ([y6.gName]:List ByteArray)
  exact nN
 intro v3 h1
 refine oC (fun g8=>?_) fun g8=>?_
 ·refine oC (fun _=>oS) fun g9=>oD (fun _=>oS) fun g10=>oD (fun _=>oS) fun g11=>oB (bF pt.gName) fun x17 _=>?_;refine oC (fun g13=>?_) fun g13=>?_
  ·refine oB (cT pt.gSupertraits 4) fun x20 _=>?_;refine oC (fun g15=>?_) fun g15=>?_
   ·exact oB (cT v3 6) fun x23 _=>oS
   exact oS
  exact oS
 refine oB (bF pt.gName) fun x25 _=>?_;refine oC (fun g18=>?_) fun g18=>?_
 ·refine oB (cT pt.gSupertraits 4) fun x28 _=>?_;refine oC (fun g20=>?_) fun g20=>?_
  ·exact oB (cT v3 6) fun x31 _=>oS
  exact oS
 exact oS
def E8(fu:Nat):Prop:= ∀(pd:aL),wt pd≤16777216→Ok (mL fu pd) (fun _=>True)
theorem iE:bZ E8:=((((bZ.ge 2147483648).and u6).and bF).and cT).imp fun fu ⟨⟨⟨hfu,u6⟩,bF⟩,cT⟩ pd hpre=>by
 have:=(aU:wl ([]:List ByteArray)=0∧_)
 have:=aL.wt_eq pd
 refine I9 pd.gConstructors 1 (fun i1 v3 hl2 hI3 _ _=>?_) ?_
 ·have:=aX pd.gConstructors
  have:=cN pd.gConstructors i1 hl2
  have:=aD.wt_eq (a3 pd.gConstructors i1)
  have:=aX ((a3 pd.gConstructors i1).gFields)
  refine oD (fun _=>oR) fun g4=>oB (u6 ((a3 pd.gConstructors i1).gFields) pd.gVars bP) fun x8 _=>oW (fun _=>oR) fun g6=>?_
  have:=aX (v3)
  have:=cA ((a3 pd.gConstructors i1).gName)
  have:=a6 ((a3 pd.gConstructors i1).gName)
  refine oG fun z7=>?_
  have:=bY v3 ([((a3 pd.gConstructors i1).gName)]:List ByteArray)
  exact nN
 intro v3 h1
 refine oB (bF pd.gName) fun x12 _=>?_;refine oC (fun g9=>?_) fun g9=>?_
 ·refine oB (cT pd.gVars 3) fun x15 _=>?_;refine oC (fun g11=>?_) fun g11=>?_
  ·refine oD (fun g12=>?_) fun g12=>?_
   ·exact oB (cT v3 5) fun x19 _=>oS
   exact oS
  exact oS
 exact oS
def KZ(fu:Nat):Prop:= ∀(pb:aJ),wt pb≤33554432→Ok (t5 fu pb) (fun _=>True)
theorem tW:bZ KZ:=(((bZ.ge 2147483648).and bF).and eC).imp fun fu ⟨⟨hfu,bF⟩,eC⟩ pb hpre=>by
 have:=aJ.wt_eq pb
 refine oB (bF pb.gTrait) fun x2 _=>?_;refine oC (fun g2=>?_) fun g2=>?_
 ·exact oB (eC pb.gType bP) fun x5 _=>oS
 exact oS
def U4(fu:Nat):Prop:= ∀(plist:List aJ) (pvars:List ByteArray),wl plist+wl pvars≤33554432→Ok (wS fu plist pvars) (fun _=>True)
theorem qK:bZ U4:=((((bZ.ge 2147483648).and tW).and fM).and jZ).imp fun fu ⟨⟨⟨hfu,tW⟩,fM⟩,jZ⟩ plist pvars hpre=>by
 refine AP ?_ ?_
 ·refine Ok.loop1 ?_;rintro i1 ⟨⟩ hl2
  have:=aX plist
  have:=cN plist i1 hl2
  refine oB (tW (a3 plist i1) bP) fun x5 _=>oW (fun _=>oR) fun g5=>?_
  have:=aJ.wt_eq (a3 plist i1)
  exact oB (fM ((a3 plist i1).gType) pvars bP) fun x8 _=>oW (fun _=>oR) fun g7=>oB (jZ ((a3 plist i1).gType) bP) fun x11 _=>oC (fun _=>oR) fun g9=>nN
 rintro⟨⟩-
 exact oS
def FA(fu:Nat):Prop:= ∀(pa0:aH),wt pa0≤16777216→Ok (mN fu pa0) (fun _=>True)
theorem iG:bZ FA:=(((((((((bZ.ge 2147483648).and bF).and cT).and fM).and jZ).and qK).and BH).and kB).and mF).imp fun fu ⟨⟨⟨⟨⟨⟨⟨⟨hfu,bF⟩,cT⟩,fM⟩,jZ⟩,qK⟩,BH⟩,kB⟩,mF⟩ pa0 hpre=>by
 have:=aH.wt_eq pa0
 refine oB (bF pa0.gTrait) fun x2 _=>oW (fun _=>oS) fun g2=>oB (cT pa0.gVars 3) fun x5 _=>oW (fun _=>oS) fun g4=>oB (fM pa0.gHead pa0.gVars bP) fun x8 _=>oW (fun _=>oS) fun g6=>oB (jZ pa0.gHead bP) fun x11 _=>oC (fun _=>oS) fun g8=>?_
 have:=aA.wt_eq pa0.gHead
 refine oD (fun _=>oS) fun g9=>oB (qK pa0.gWhere pa0.gVars bP) fun x15 _=>oW (fun _=>oS) fun g11=>?_;refine AP ?_ ?_
 ·refine Ok.loop1 ?_;rintro i17 ⟨⟩ hl13
  have:=aX pa0.gVars
  have:=cN pa0.gVars i17 hl13
  have:=a6 (a3 pa0.gVars i17)
  exact oB (BH (a3 pa0.gVars i17) pa0.gHead bP) fun x21 _=>oW (fun _=>oR) fun g16=>nN
 rintro⟨⟩-
 refine AP ?_ ?_
 ·refine oC (fun g18=>?_) fun g18=>?_
  ·exact oB (fM pa0.gAssoc pa0.gVars bP) fun x25 _=>oW (fun _=>oL) fun g20=>oI
  exact oB (kB pa0.gAssoc) fun x28 _=>oW (fun _=>oL) fun g22=>oI
 rintro⟨⟩-
 have:=(aU:wl ([]:List ByteArray)=0∧_)
 refine I9 pa0.gMethods 1 (fun i30 v32 hl24 hI25 _ _=>?_) ?_
 ·have:=aX pa0.gMethods
  have:=cN pa0.gMethods i30 hl24
  refine Ok.lt fun y35 h26=>?_
  have:=congrArg wt h26
  have:=aN.wt_eq y35
  have:=aX y35.gVars
  refine oD (fun _=>oR) fun g27=>oB (cT y35.gVars 5) fun x39 _=>oW (fun _=>oR) fun g29=>oB (mF y35.gBody y35.gVars bP) fun x42 _=>oW (fun _=>oR) fun g31=>?_
  have:=aX (v32)
  have:=cA y35.gName
  have:=a6 y35.gName
  refine oG fun z32=>?_
  have:=bY v32 ([y35.gName]:List ByteArray)
  exact nN
 intro v32 h23
 exact oB (cT v32 6) fun x46 _=>oS
def E9(fu:Nat):Prop:= ∀(pf:aI),wt pf≤16777216→Ok (mM fu pf) (fun _=>True)
theorem iF:bZ E9:=((((((bZ.ge 2147483648).and fM).and bF).and cT).and qK).and mF).imp fun fu ⟨⟨⟨⟨⟨hfu,fM⟩,bF⟩,cT⟩,qK⟩,mF⟩ pf hpre=>by
 have:=(aU:wl ([]:List ByteArray)=0∧_)
 have:=aI.wt_eq pf
 refine I9 pf.gParams 1 (fun i1 v3 hl2 hI3 _ _=>?_) ?_
 ·have:=aX pf.gParams
  have:=cN pf.gParams i1 hl2
  have:=aR.wt_eq (a3 pf.gParams i1)
  refine oB (fM ((a3 pf.gParams i1).gType) pf.gVars bP) fun x7 _=>oW (fun _=>oR) fun g5=>?_
  have:=aX (v3)
  have:=cA ((a3 pf.gParams i1).gName)
  have:=a6 ((a3 pf.gParams i1).gName)
  refine oG fun z6=>?_
  have:=bY v3 ([((a3 pf.gParams i1).gName)]:List ByteArray)
  exact nN
 intro v3 h1
 refine oB (bF pf.gName) fun x11 _=>?_;refine oC (fun g8=>?_) fun g8=>?_
 ·refine oB (cT pf.gVars 3) fun x14 _=>?_;refine oC (fun g10=>?_) fun g10=>?_
  ·refine oB (qK pf.gWhere pf.gVars bP) fun x17 _=>?_;refine oC (fun g12=>?_) fun g12=>?_
   ·refine oB (cT v3 5) fun x20 _=>?_;refine oC (fun g14=>?_) fun g14=>?_
    ·refine oB (fM pf.gResult pf.gVars bP) fun x23 _=>?_;refine oC (fun g16=>?_) fun g16=>?_
     ·exact oB (mF pf.gBody v3 bP) fun x26 _=>oS
     exact oS
    exact oS
   exact oS
  exact oS
 exact oS
end Go.Proofs.YtpioomclpaiomaaGreat.W

namespace Go.Proofs.YtpioomclpaiomaaGreat.W
set_option linter.unusedSimpArgs false
set_option linter.unusedVariables false
set_option maxRecDepth 20000
set_option maxHeartbeats 4000000
open Go.RowKit Go.WalkArith Go.IntWalk
attribute [local irreducible] wt wl
def aeK(fu:Nat):Prop:= ∀(px:aB) (pi:Int),0≤pi∧wt px≤1073741824→Ok (c7 fu px pi) (fun r=>wt r≤wt px)
theorem cB:bZ aeK:=(bZ.ge 2147483648).imp fun fu hfu px pi hpre=>by
 have:=aB.wt_eq px
 have:=aX px.gList
 refine oD (fun g1=>?_) fun g1=>?_
 ·have:s_.size=0:=rfl
  have:=(aU:wl ([]:List aB)=0∧_)
  have:=aB.wt_mk s_ []
  exact oS
 have:=aX (px.gList)
 refine oG fun z2=>?_
 have:=cN px.gList ((pi).toNat) z2.2
 exact oS
def U6(fu:Nat):Prop:= ∀(px:aB),wt px≤1073741824→Ok (kX fu px) (fun r=>wl r≤wt px)
theorem fN:bZ U6:=((bZ.ge 2147483648).and gL).imp fun fu ⟨hfu,gL⟩ px hpre=>by
 have:=aB.wt_eq px
 refine sJ (gL px.gList bP) fun x2 x3 h1=>?_
 dsimp only at h1
 exact oS
def YP(fu:Nat):Prop:= ∀(px:aB) (pi:Int),0≤pi→Ok (sU fu px pi) (fun r=>wl r≤wl px.gList)
theorem lF:bZ YP:=((bZ.ge 2147483648).and gZ).imp fun fu ⟨hfu,gZ⟩ px pi hpre=>by
 have:=aB.wt_eq px
 have:=aX px.gList
 refine oB (gZ pi ((px.gList.length:Nat):Int)) fun x2 h1=>oG fun z2=>?_
 have:=MS (x2:Int).toNat (((px.gList.length:Nat):Int):Int).toNat px.gList
 exact oS
def acI(fu:Nat):Prop:= ∀(plist:List aB),wl plist≤67108864→Ok (C2 fu plist) (fun r=>wl r≤2*wl plist)
theorem u7:bZ acI:=((bZ.ge 2147483648).and gF).imp fun fu ⟨hfu,gF⟩ plist hpre=>by
 have:=(aU:wl ([]:List aA)=0∧_)
 refine I9 plist 2 (fun i1 v3 hl2 hI3 _ _=>?_) ?_
 ·have:=aX plist
  have:=cN plist i1 hl2
  refine oB (gF (a3 plist i1) bP) fun x7 h4=>?_
  have:=aX (v3)
  have:=cA x7
  refine oG fun z5=>?_
  have:=bY v3 ([x7]:List aA)
  exact nN
 intro v3 h1
 exact oS
def U9(fu:Nat):Prop:= ∀(plist:List ByteArray),wl plist≤1073741824→Ok (jX fu plist) (fun r=>wt r≤wl plist)
theorem fD:bZ U9:=((bZ.ge 2147483648).and lG).imp fun fu ⟨hfu,lG⟩ plist hpre=>by
 refine oB (lG plist bP) fun x2 h1=>?_
 have:s_.size=0:=rfl
 have:=aB.wt_mk s_ x2
 exact oS
def U7(fu:Nat):Prop:= ∀(plist:List aA),wl plist≤33554432→Ok (wU fu plist) (fun r=>wl r≤8*wl plist)
theorem qL:bZ U7:=((bZ.ge 2147483648).and gR).imp fun fu ⟨hfu,gR⟩ plist hpre=>by
 have:=(aU:wl ([]:List aB)=0∧_)
 refine I9 plist 8 (fun i1 v3 hl2 hI3 _ _=>?_) ?_
 ·have:=aX plist
  have:=cN plist i1 hl2
  refine oB (gR (a3 plist i1) bP) fun x7 h4=>?_
  have:=aX (v3)
  have:=cA x7
  refine oG fun z5=>?_
  have:=bY v3 ([x7]:List aB)
  exact nN
 intro v3 h1
 exact oS
def aeL(fu:Nat):Prop:= ∀(pok:Bool) (px:aB),wt px≤1073741824→Ok (yV fu pok px) (fun r=>wt r≤wt px)
theorem m3:bZ aeL:=((bZ.ge 2147483648).and cI).imp fun fu ⟨hfu,cI⟩ pok px hpre=>by
 refine oW (fun g1=>?_) fun g1=>?_
 ·have:s_.size=0:=rfl
  have:=(aU:wl ([]:List aB)=0∧_)
  have:=aB.wt_mk s_ []
  exact oS
 refine oB (cI px bP) fun x3 _=>?_;refine oW (fun g3=>?_) fun g3=>?_
 ·have:s_.size=0:=rfl
  have:=(aU:wl ([]:List aB)=0∧_)
  have:=aB.wt_mk s_ []
  exact oS
 exact oS
def K6(fu:Nat):Prop:= ∀(pa0:aT),wt pa0≤1048576→(∀a∈pa0.gSignatures,EX a.gBody)→Ok (t9 fu pa0) (fun r=>wt r≤64*wt pa0+64)
theorem t0:bZ K6:=(((((((((bZ.ge 2147483648).and kH).and bL).and fD).and eG).and qL).and gR).and rE).and m3).imp fun fu ⟨⟨⟨⟨⟨⟨⟨⟨hfu,kH⟩,bL⟩,fD⟩,eG⟩,qL⟩,gR⟩,rE⟩,m3⟩ pa0 hpre hB=>by
 refine oB (kH pa0 bP) fun x2 _=>?_;refine oW (fun g2=>?_) fun g2=>?_
 ·have:s_.size=0:=rfl
  have:=(aU:wl ([]:List aB)=0∧_)
  have:=aB.wt_mk s_ []
  exact oS
 refine Ok.sok (E:=fun v5=>wl v5≤5) ?_ ?_
 ·have:=aT.wt_eq pa0
  refine oC (fun g4=>?_) fun g4=>?_
  ·have:=(aU:wl ([]:List ByteArray)=0∧_)
   have:vV.size=4:=rfl
   have:=cA vV
   have:=a6 vV
   refine oG fun z5=>?_
   have:=bY ([]:List ByteArray) ([vV]:List ByteArray)
   exact oI
  have:=(aU:wl ([]:List ByteArray)=0∧_)
  exact oI
 intro v5 h3
 refine Ok.sok (E:=fun v9=>wl v9≤11) ?_ ?_
 ·have:=aT.wt_eq pa0
  refine oC (fun g7=>?_) fun g7=>?_
  ·have:=aX (v5)
   have:hH.size=5:=rfl
   have:=cA hH
   have:=a6 hH
   refine oG fun z8=>?_
   have:=bY v5 ([hH]:List ByteArray)
   exact oI
  exact oI
 intro v9 h6
 have:CZ.size=5:=rfl
 refine oB (bL CZ) fun x13 h9=>?_
 have:=aT.wt_eq pa0
 refine oB (bL pa0.gName) fun x15 h10=>oB (fD pa0.gSupertraits bP) fun x17 h11=>oB (fD v9 bP) fun x19 h12=>?_
 have:=ajU x13 x15 x17 x19
 refine oB (eG ([x13,x15,x17,x19]:List aB) bP) fun x21 h13=>?_
 have:=aB.wt_eq x21
 refine I9 pa0.gSignatures 64 (fun i22 v24 hl15 hI16 _ _=>?_) ?_
 ·have:=aX pa0.gSignatures
  have:=cN pa0.gSignatures i22 hl15
  refine Ok.lt fun y27 h17=>?_
  have:=congrArg wt h17
  have:=aE.wt_eq y27
  refine oB (bL y27.gName) fun x30 h18=>oB (qL y27.gParams bP) fun x32 h19=>oB (gR y27.gResult bP) fun x34 h20=>?_
  have:s_.size=0:=rfl
  have:=aB.wt_mk s_ x32
  have:=BO x30 (aB.mk s_ x32) x34
  refine oB (eG ([x30,(aB.mk s_ x32),x34]:List aB) bP) fun x36 h21=>?_;refine oC (fun g22=>?_) fun g22=>?_
  ·refine oB (fD y27.gVars bP) fun x39 h23=>oB (rE y27.gBody bP (by rw [show y27=a3 pa0.gSignatures i22 by assumption];exact R4 hB (by assumption))) fun x41 h24=>?_
   have:=aB.wt_eq x36
   have:=aX (x36.gList)
   have:=jO x39 x41
   refine oG fun z25=>?_
   have:=aX (v24)
   have:=bY x36.gList ([x39,x41]:List aB)
   have:=aB.wt_mk x36.gAtom (x36.gList++([x39,x41]:List aB))
   have:=cA (aB.mk x36.gAtom (x36.gList++([x39,x41]:List aB)))
   refine oG fun z26=>?_
   have:=bY v24 ([(aB.mk x36.gAtom (x36.gList++([x39,x41]:List aB)))]:List aB)
   exact nN
  have:=aX (v24)
  have:=aB.wt_eq x36
  have:=aB.wt_mk x36.gAtom x36.gList
  have:=cA (aB.mk x36.gAtom x36.gList)
  refine oG fun z27=>?_
  have:=bY v24 ([(aB.mk x36.gAtom x36.gList)]:List aB)
  exact nN
 intro v24 h14
 have:=aB.wt_mk x21.gAtom v24
 exact oB (m3 true (aB.mk x21.gAtom v24) bP) fun x46 h28=>oS
def K5(fu:Nat):Prop:= ∀(pa0:aB),wt pa0≤65536→Ok (t8 fu pa0) (fun r=>wt r.1≤16*wt pa0)
theorem tZ:bZ K5:=(((((((((((bZ.ge 2147483648).and cB).and fN).and dG).and lF).and u7).and gF).and mE).and cI).and t0).and fT).imp fun fu ⟨⟨⟨⟨⟨⟨⟨⟨⟨⟨hfu,cB⟩,fN⟩,dG⟩,lF⟩,u7⟩,gF⟩,mE⟩,cI⟩,t0⟩,fT⟩ pa0 hpre=>by
 refine oB (cB pa0 3 bP) fun x2 h1=>oB (fN x2 bP) fun x4 h2=>oB (cB pa0 1 bP) fun x6 h3=>oB (cB pa0 2 bP) fun x8 h4=>oB (fN x8 bP) fun x10 h5=>?_
 have:vV.size=4:=rfl
 refine oB (dG x4 vV) fun x12 _=>?_
 have:hH.size=5:=rfl
 refine oB (dG x4 hH) fun x14 _=>?_
 have:=aB.wt_eq pa0
 refine oB (lF pa0 4 bP) fun x16 h8=>?_
 have:=(aU:wl ([]:List aE)=0∧_)
 refine agK (PA:=fun a=>EX a.gBody) x16 8 (fun i17 v19 hl10 hI11 hI11B _ _=>?_) ?_
 ·have:=aX x16
  have:=cN x16 i17 hl10
  refine oB (cB (a3 x16 i17) 0 bP) fun x23 h12=>oB (cB (a3 x16 i17) 1 bP) fun x25 h13=>?_
  have:=aB.wt_eq x25
  refine oB (u7 x25.gList bP) fun x27 h14=>oB (cB (a3 x16 i17) 2 bP) fun x29 h15=>oB (gF x29 bP) fun x31 h16=>?_
  have:=aB.wt_eq (a3 x16 i17)
  have:=aX ((a3 x16 i17).gList)
  refine oD (fun g17=>?_) fun g17=>?_
  ·refine oB (cB (a3 x16 i17) 3 bP) fun x34 h18=>oB (fN x34 bP) fun x36 h19=>oB (cB (a3 x16 i17) 4 bP) fun x38 h20=>KR (mE x38 bP) fun x40 h21 h21B=>?_
   have:=aX (v19)
   have:=aB.wt_eq x23
   have:=aE.wt_mk x23.gAtom x27 x31 true x36 x40
   have:=cA (aE.mk x23.gAtom x27 x31 true x36 x40)
   refine oG fun z22=>?_
   have:=bY v19 ([(aE.mk x23.gAtom x27 x31 true x36 x40)]:List aE)
   exact oX hI11B
  have:=aX (v19)
  have:=aB.wt_eq x23
  have:s_.size=0:=rfl
  have:=(aU:wl ([]:List aA)=0∧_)
  have:=aA.wt_mk 0 s_ []
  have:=(aU:wl ([]:List aG)=0∧_)
  have:=(aU:wl ([]:List bJ)=0∧_)
  have:=aG.wt_mk 0 s_ s_ 0 (aA.mk 0 s_ []) [] []
  have:=(aU:wl ([]:List ByteArray)=0∧_)
  have:=aE.wt_mk x23.gAtom x27 x31 false [] (aG.mk 0 s_ s_ 0 (aA.mk 0 s_ []) [] [])
  have:=cA (aE.mk x23.gAtom x27 x31 false [] (aG.mk 0 s_ s_ 0 (aA.mk 0 s_ []) [] []))
  refine oG fun z23=>?_
  have:=bY v19 ([(aE.mk x23.gAtom x27 x31 false [] (aG.mk 0 s_ s_ 0 (aA.mk 0 s_ []) [] []))]:List aE)
  exact oX hI11B
 rintro v19 ⟨h9,h9B⟩
 refine oB (cI pa0 bP) fun x44 _=>?_;refine oW (fun g25=>?_) fun g25=>?_
 ·have:s_.size=0:=rfl
  have:=(aU:wl ([]:List ByteArray)=0∧_)
  have:=aT.wt_mk s_ [] false false []
  exact oS
 have:=aX pa0.gList
 refine oD (fun g26=>?_) fun g26=>?_
 ·have:s_.size=0:=rfl
  have:=(aU:wl ([]:List ByteArray)=0∧_)
  have:=aT.wt_mk s_ [] false false []
  exact oS
 have:=aB.wt_eq x6
 have:=aT.wt_mk x6.gAtom x10 x12 x14 v19
 refine oB (t0 (aT.mk x6.gAtom x10 x12 x14 v19) bP (by first|assumption|trivial)) fun x48 h27=>oB (fT x48 pa0 bP) fun x50 _=>?_;refine oW (fun g29=>?_) fun g29=>?_
 ·have:s_.size=0:=rfl
  have:=(aU:wl ([]:List ByteArray)=0∧_)
  have:=aT.wt_mk s_ [] false false []
  exact oS
 exact oS
def E5(fu:Nat):Prop:= ∀(pd:aL),wt pd≤1048576→Ok (p6 fu pd) (fun r=>wt r≤64*wt pd+64)
theorem pR:bZ E5:=(((((((bZ.ge 2147483648).and bL).and fD).and eG).and qL).and iE).and m3).imp fun fu ⟨⟨⟨⟨⟨⟨hfu,bL⟩,fD⟩,eG⟩,qL⟩,iE⟩,m3⟩ pd hpre=>by
 have:JY.size=4:=rfl
 refine oB (bL JY) fun x2 h1=>?_
 have:=aL.wt_eq pd
 refine oB (bL pd.gName) fun x4 h2=>oB (fD pd.gVars bP) fun x6 h3=>?_
 have:=BO x2 x4 x6
 refine oB (eG ([x2,x4,x6]:List aB) bP) fun x8 h4=>?_
 have:=aB.wt_eq x8
 refine I9 pd.gConstructors 64 (fun i9 v11 hl6 hI7 _ _=>?_) ?_
 ·have:=aX pd.gConstructors
  have:=cN pd.gConstructors i9 hl6
  have:=aD.wt_eq (a3 pd.gConstructors i9)
  refine oB (bL ((a3 pd.gConstructors i9).gName)) fun x15 h8=>oB (qL ((a3 pd.gConstructors i9).gFields) bP) fun x17 h9=>?_
  have:=cA x15
  have:=aX (x17)
  refine oG fun z10=>?_
  have:=aX (v11)
  have:s_.size=0:=rfl
  have:=bY ([x15]:List aB) x17
  have:=aB.wt_mk s_ (([x15]:List aB)++x17)
  have:=cA (aB.mk s_ (([x15]:List aB)++x17))
  refine oG fun z11=>?_
  have:=bY v11 ([(aB.mk s_ (([x15]:List aB)++x17))]:List aB)
  exact nN
 intro v11 h5
 refine oB (iE pd bP) fun x21 _=>?_
 have:=aB.wt_mk x8.gAtom v11
 exact oB (m3 x21 (aB.mk x8.gAtom v11) bP) fun x23 h13=>oS
def FB(fu:Nat):Prop:= ∀(px:aB),wt px≤65536→Ok (p9 fu px) (fun r=>wt r.1≤16*wt px)
theorem pW:bZ FB:=((((((((bZ.ge 2147483648).and cB).and fN).and lF).and u7).and cI).and pR).and fT).imp fun fu ⟨⟨⟨⟨⟨⟨⟨hfu,cB⟩,fN⟩,lF⟩,u7⟩,cI⟩,pR⟩,fT⟩ px hpre=>by
 refine oB (cB px 1 bP) fun x2 h1=>oB (cB px 2 bP) fun x4 h2=>oB (fN x4 bP) fun x6 h3=>?_
 have:=aB.wt_eq px
 refine oB (lF px 3 bP) fun x8 h4=>?_
 have:=(aU:wl ([]:List aD)=0∧_)
 refine I9 x8 4 (fun i9 v11 hl6 hI7 _ _=>?_) ?_
 ·have:=aX x8
  have:=cN x8 i9 hl6
  refine oB (cB (a3 x8 i9) 0 bP) fun x15 h8=>?_
  have:=aB.wt_eq (a3 x8 i9)
  refine oB (lF (a3 x8 i9) 1 bP) fun x17 h9=>oB (u7 x17 bP) fun x19 h10=>?_
  have:=aX (v11)
  have:=aB.wt_eq x15
  have:=aD.wt_mk x15.gAtom x19
  have:=cA (aD.mk x15.gAtom x19)
  refine oG fun z11=>?_
  have:=bY v11 ([(aD.mk x15.gAtom x19)]:List aD)
  exact nN
 intro v11 h5
 refine oB (cI px bP) fun x22 _=>?_;refine oW (fun g13=>?_) fun g13=>?_
 ·have:s_.size=0:=rfl
  have:=(aU:wl ([]:List ByteArray)=0∧_)
  have:=aL.wt_mk s_ [] []
  exact oS
 have:=aX px.gList
 refine oD (fun g14=>?_) fun g14=>?_
 ·have:s_.size=0:=rfl
  have:=(aU:wl ([]:List ByteArray)=0∧_)
  have:=aL.wt_mk s_ [] []
  exact oS
 have:=aB.wt_eq x2
 have:=aL.wt_mk x2.gAtom x6 v11
 refine oB (pR (aL.mk x2.gAtom x6 v11) bP) fun x26 h15=>oB (fT x26 px bP) fun x28 _=>?_;refine oW (fun g17=>?_) fun g17=>?_
 ·have:s_.size=0:=rfl
  have:=(aU:wl ([]:List ByteArray)=0∧_)
  have:=aL.wt_mk s_ [] []
  exact oS
 exact oS
def R0(fu:Nat):Prop:= ∀(px:aB),wt px≤33554432→Ok (uZ fu px) (fun r=>wl r≤4*wt px)
theorem oH:bZ R0:=(((bZ.ge 2147483648).and cB).and gF).imp fun fu ⟨⟨hfu,cB⟩,gF⟩ px hpre=>by
 have:=(aU:wl ([]:List aJ)=0∧_)
 have:=aB.wt_eq px
 refine I9 px.gList 4 (fun i1 v3 hl2 hI3 _ _=>?_) ?_
 ·have:=aX px.gList
  have:=cN px.gList i1 hl2
  refine oB (cB (a3 px.gList i1) 0 bP) fun x7 h4=>oB (cB (a3 px.gList i1) 1 bP) fun x9 h5=>oB (gF x9 bP) fun x11 h6=>?_
  have:=aX (v3)
  have:=aB.wt_eq x7
  have:=aJ.wt_mk x7.gAtom x11
  have:=cA (aJ.mk x7.gAtom x11)
  refine oG fun z7=>?_
  have:=bY v3 ([(aJ.mk x7.gAtom x11)]:List aJ)
  exact nN
 intro v3 h1
 exact oS
def U8(fu:Nat):Prop:= ∀(plist:List aJ),wl plist≤16777216→Ok (wV fu plist) (fun r=>wt r≤16*wl plist)
theorem qM:bZ U8:=((((bZ.ge 2147483648).and bL).and gR).and eG).imp fun fu ⟨⟨⟨hfu,bL⟩,gR⟩,eG⟩ plist hpre=>by
 have:=(aU:wl ([]:List aB)=0∧_)
 refine I9 plist 16 (fun i1 v3 hl2 hI3 _ _=>?_) ?_
 ·have:=aX plist
  have:=cN plist i1 hl2
  have:=aJ.wt_eq (a3 plist i1)
  refine oB (bL ((a3 plist i1).gTrait)) fun x7 h4=>oB (gR ((a3 plist i1).gType) bP) fun x9 h5=>?_
  have:=jO x7 x9
  refine oB (eG ([x7,x9]:List aB) bP) fun x11 h6=>?_
  have:=aX (v3)
  have:=cA x11
  refine oG fun z7=>?_
  have:=bY v3 ([x11]:List aB)
  exact nN
 intro v3 h1
 have:s_.size=0:=rfl
 have:=aB.wt_mk s_ v3
 exact oS
def E7(fu:Nat):Prop:= ∀(pa0:aH),wt pa0≤1048576→(∀a∈pa0.gMethods,EX a.gBody)→Ok (p8 fu pa0) (fun r=>wt r≤64*wt pa0+128)
theorem pV:bZ E7:=(((((((((bZ.ge 2147483648).and iG).and gR).and eG).and bL).and fD).and qM).and rE).and m3).imp fun fu ⟨⟨⟨⟨⟨⟨⟨⟨hfu,iG⟩,gR⟩,eG⟩,bL⟩,fD⟩,qM⟩,rE⟩,m3⟩ pa0 hpre hB=>by
 refine oB (iG pa0 bP) fun x2 _=>?_;refine oW (fun g2=>?_) fun g2=>?_
 ·have:s_.size=0:=rfl
  have:=(aU:wl ([]:List aB)=0∧_)
  have:=aB.wt_mk s_ []
  exact oS
 refine Ok.sok (E:=fun v5=>wl v5≤8) ?_ ?_
 ·have:=aH.wt_eq pa0
  refine oC (fun g4=>?_) fun g4=>?_
  ·have:=(aU:wl ([]:List ByteArray)=0∧_)
   have:sO.size=7:=rfl
   have:=cA sO
   have:=a6 sO
   refine oG fun z5=>?_
   have:=bY ([]:List ByteArray) ([sO]:List ByteArray)
   exact oI
  have:=(aU:wl ([]:List ByteArray)=0∧_)
  exact oI
 intro v5 h3
 have:=aH.wt_eq pa0
 refine Ok.sok (E:=fun(v8,v9)=>v8.size+wl v9≤8*wt pa0.gAssoc+16) ?_ ?_
 ·refine oC (fun g7=>?_) fun g7=>?_
  ·refine oB (gR pa0.gAssoc bP) fun x12 h8=>?_
   have:=cA x12
   refine oB (eG ([x12]:List aB) bP) fun x14 h9=>?_
   have:=aB.wt_eq x14
   exact oI
  have:s_.size=0:=rfl
  have:=(aU:wl ([]:List aB)=0∧_)
  exact oI
 rintro⟨v8,v9⟩ h6
 dsimp only at h6
 have:JZ.size=4:=rfl
 refine oB (bL JZ) fun x16 h10=>oB (bL pa0.gTrait) fun x18 h11=>oB (fD pa0.gVars bP) fun x20 h12=>oB (gR pa0.gHead bP) fun x22 h13=>oB (qM pa0.gWhere bP) fun x24 h14=>oB (fD v5 bP) fun x26 h15=>?_
 have:=aB.wt_mk v8 v9
 have:=ai1 x16 x18 x20 x22 x24 x26 (aB.mk v8 v9)
 refine oB (eG ([x16,x18,x20,x22,x24,x26,(aB.mk v8 v9)]:List aB) bP) fun x28 h16=>?_
 have:=aB.wt_eq x28
 refine I9 pa0.gMethods 64 (fun i29 v31 hl18 hI19 _ _=>?_) ?_
 ·have:=aX pa0.gMethods
  have:=cN pa0.gMethods i29 hl18
  refine Ok.lt fun y34 h20=>?_
  have:=congrArg wt h20
  have:=aN.wt_eq y34
  refine oB (bL y34.gName) fun x37 h21=>oB (fD y34.gVars bP) fun x39 h22=>oB (rE y34.gBody bP (by rw [show y34=a3 pa0.gMethods i29 by assumption];exact R4 hB (by assumption))) fun x41 h23=>?_
  have:=BO x37 x39 x41
  refine oB (eG ([x37,x39,x41]:List aB) bP) fun x43 h24=>?_
  have:=aX (v31)
  have:=aB.wt_eq x43
  have:=aB.wt_mk x43.gAtom x43.gList
  have:=cA (aB.mk x43.gAtom x43.gList)
  refine oG fun z25=>?_
  have:=bY v31 ([(aB.mk x43.gAtom x43.gList)]:List aB)
  exact nN
 intro v31 h17
 have:=aB.wt_mk x28.gAtom v31
 exact oB (m3 true (aB.mk x28.gAtom v31) bP) fun x46 h26=>oS
def FD(fu:Nat):Prop:= ∀(pa0:aB),wt pa0≤65536→Ok (qB fu pa0) (fun r=>wt r.1≤16*wt pa0)
theorem pY:bZ FD:=((((((((((bZ.ge 2147483648).and cB).and fN).and gF).and oH).and lF).and mE).and cI).and pV).and fT).imp fun fu ⟨⟨⟨⟨⟨⟨⟨⟨⟨hfu,cB⟩,fN⟩,gF⟩,oH⟩,lF⟩,mE⟩,cI⟩,pV⟩,fT⟩ pa0 hpre=>by
 refine oB (cB pa0 1 bP) fun x2 h1=>oB (cB pa0 2 bP) fun x4 h2=>oB (fN x4 bP) fun x6 h3=>oB (cB pa0 3 bP) fun x8 h4=>oB (gF x8 bP) fun x10 h5=>oB (cB pa0 4 bP) fun x12 h6=>oB (oH x12 bP) fun x14 h7=>oB (cB pa0 5 bP) fun x16 h8=>oB (cB pa0 6 bP) fun x18 h9=>?_;refine Ok.sok (E:=fun(v22,v19,v20,v21)=>wl v22+v21.size≤2*wt x18) ?_ ?_
 ·have:=aB.wt_eq x18
  have:=aX x18.gList
  refine oD (fun g11=>?_) fun g11=>?_
  ·have:=aX (x18.gList)
   refine oG fun z12=>?_
   have:=cN x18.gList 0 z12
   have:wl (List.take 1 x18.gList)=wl (List.take 0 x18.gList)+wt (a3 x18.gList 0)+1:=EW x18.gList 0 z12
   refine oB (gF (a3 x18.gList 0) bP) fun x26 h13=>?_
   have:=aA.wt_eq x26
   exact oI
  have:s_.size=0:=rfl
  have:=(aU:wl ([]:List aA)=0∧_)
  exact oI
 rintro⟨v22,v19,v20,v21⟩ h10
 dsimp only at h10
 have:=aB.wt_eq pa0
 refine oB (lF pa0 7 bP) fun x28 h14=>?_
 have:=(aU:wl ([]:List aN)=0∧_)
 refine agK (PA:=fun a=>EX a.gBody) x28 4 (fun i29 v31 hl16 hI17 hI17B _ _=>?_) ?_
 ·have:=aX x28
  have:=cN x28 i29 hl16
  refine oB (cB (a3 x28 i29) 0 bP) fun x35 h18=>oB (cB (a3 x28 i29) 1 bP) fun x37 h19=>oB (fN x37 bP) fun x39 h20=>oB (cB (a3 x28 i29) 2 bP) fun x41 h21=>KR (mE x41 bP) fun x43 h22 h22B=>?_
  have:=aX (v31)
  have:=aB.wt_eq x35
  have:=aN.wt_mk x35.gAtom x39 x43
  have:=cA (aN.mk x35.gAtom x39 x43)
  refine oG fun z23=>?_
  have:=bY v31 ([(aN.mk x35.gAtom x39 x43)]:List aN)
  exact oX hI17B
 rintro v31 ⟨h15,h15B⟩
 refine oB (cI pa0 bP) fun x46 _=>?_;refine oW (fun g25=>?_) fun g25=>?_
 ·have:s_.size=0:=rfl
  have:=(aU:wl ([]:List aA)=0∧_)
  have:=aA.wt_mk 0 s_ []
  have:=(aU:wl ([]:List ByteArray)=0∧_)
  have:=(aU:wl ([]:List aJ)=0∧_)
  have:=aH.wt_mk s_ [] (aA.mk 0 s_ []) [] false false (aA.mk 0 s_ []) []
  exact oS
 have:=aX pa0.gList
 refine oD (fun g26=>?_) fun g26=>?_
 ·have:s_.size=0:=rfl
  have:=(aU:wl ([]:List aA)=0∧_)
  have:=aA.wt_mk 0 s_ []
  have:=(aU:wl ([]:List ByteArray)=0∧_)
  have:=(aU:wl ([]:List aJ)=0∧_)
  have:=aH.wt_mk s_ [] (aA.mk 0 s_ []) [] false false (aA.mk 0 s_ []) []
  exact oS
 have:=aB.wt_eq x2
 have:=aB.wt_eq x16
 have:=aX x16.gList
 have:=aA.wt_mk v20 v21 v22
 have:=aH.wt_mk x2.gAtom x6 x10 x14 (decide ((((x16.gList.length:Nat):Int):Int)>0)) v19 (aA.mk v20 v21 v22) v31
 refine oB (pV (aH.mk x2.gAtom x6 x10 x14 (decide ((((x16.gList.length:Nat):Int):Int)>0)) v19 (aA.mk v20 v21 v22) v31) bP (by first|assumption|trivial)) fun x50 h27=>oB (fT x50 pa0 bP) fun x52 _=>?_;refine oW (fun g29=>?_) fun g29=>?_
 ·have:s_.size=0:=rfl
  have:=(aU:wl ([]:List aA)=0∧_)
  have:=aA.wt_mk 0 s_ []
  have:=(aU:wl ([]:List ByteArray)=0∧_)
  have:=(aU:wl ([]:List aJ)=0∧_)
  have:=aH.wt_mk s_ [] (aA.mk 0 s_ []) [] false false (aA.mk 0 s_ []) []
  exact oS
 exact oS
def E6(fu:Nat):Prop:= ∀(pf:aI),wt pf≤1048576→(EX pf.gBody)→Ok (p7 fu pf) (fun r=>wt r≤64*wt pf+128)
theorem pT:bZ E6:=(((((((((bZ.ge 2147483648).and iF).and bL).and gR).and eG).and fD).and qM).and rE).and m3).imp fun fu ⟨⟨⟨⟨⟨⟨⟨⟨hfu,iF⟩,bL⟩,gR⟩,eG⟩,fD⟩,qM⟩,rE⟩,m3⟩ pf hpre hB=>by
 refine oB (iF pf bP) fun x2 _=>?_;refine oW (fun g2=>?_) fun g2=>?_
 ·have:s_.size=0:=rfl
  have:=(aU:wl ([]:List aB)=0∧_)
  have:=aB.wt_mk s_ []
  exact oS
 have:=(aU:wl ([]:List aB)=0∧_)
 have:=aI.wt_eq pf
 refine I9 pf.gParams 16 (fun i4 v6 hl4 hI5 _ _=>?_) ?_
 ·have:=aX pf.gParams
  have:=cN pf.gParams i4 hl4
  have:=aR.wt_eq (a3 pf.gParams i4)
  refine oB (bL ((a3 pf.gParams i4).gName)) fun x10 h6=>oB (gR ((a3 pf.gParams i4).gType) bP) fun x12 h7=>?_
  have:=jO x10 x12
  refine oB (eG ([x10,x12]:List aB) bP) fun x14 h8=>?_
  have:=aX (v6)
  have:=cA x14
  refine oG fun z9=>?_
  have:=bY v6 ([x14]:List aB)
  exact nN
 intro v6 h3
 have:adE.size=2:=rfl
 refine oB (bL adE) fun x17 h10=>oB (bL pf.gName) fun x19 h11=>oB (fD pf.gVars bP) fun x21 h12=>oB (qM pf.gWhere bP) fun x23 h13=>oB (gR pf.gResult bP) fun x25 h14=>oB (rE pf.gBody bP (by first|assumption|trivial)) fun x27 h15=>?_
 have:s_.size=0:=rfl
 have:=aB.wt_mk s_ v6
 have:=ai1 x17 x19 x21 x23 (aB.mk s_ v6) x25 x27
 exact oB (eG ([x17,x19,x21,x23,(aB.mk s_ v6),x25,x27]:List aB) bP) fun x29 h16=>oB (m3 true x29 bP) fun x31 h17=>oS
def FC(fu:Nat):Prop:= ∀(pa0:aB),wt pa0≤65536→Ok (qA fu pa0) (fun r=>wt r.1≤16*wt pa0)
theorem pX:bZ FC:=(((((((((bZ.ge 2147483648).and cB).and fN).and oH).and gF).and mE).and cI).and pT).and fT).imp fun fu ⟨⟨⟨⟨⟨⟨⟨⟨hfu,cB⟩,fN⟩,oH⟩,gF⟩,mE⟩,cI⟩,pT⟩,fT⟩ pa0 hpre=>by
 refine oB (cB pa0 1 bP) fun x2 h1=>oB (cB pa0 2 bP) fun x4 h2=>oB (fN x4 bP) fun x6 h3=>oB (cB pa0 3 bP) fun x8 h4=>oB (oH x8 bP) fun x10 h5=>oB (cB pa0 5 bP) fun x12 h6=>oB (gF x12 bP) fun x14 h7=>oB (cB pa0 6 bP) fun x16 h8=>KR (mE x16 bP) fun x18 h9 h9B=>oB (cB pa0 4 bP) fun x20 h10=>?_
 have:=(aU:wl ([]:List aR)=0∧_)
 have:=aB.wt_eq x20
 refine I9 x20.gList 4 (fun i21 v23 hl12 hI13 _ _=>?_) ?_
 ·have:=aX x20.gList
  have:=cN x20.gList i21 hl12
  refine oB (cB (a3 x20.gList i21) 0 bP) fun x27 h14=>oB (cB (a3 x20.gList i21) 1 bP) fun x29 h15=>oB (gF x29 bP) fun x31 h16=>?_
  have:=aX (v23)
  have:=aB.wt_eq x27
  have:=aR.wt_mk x27.gAtom x31
  have:=cA (aR.mk x27.gAtom x31)
  refine oG fun z17=>?_
  have:=bY v23 ([(aR.mk x27.gAtom x31)]:List aR)
  exact nN
 intro v23 h11
 refine oB (cI pa0 bP) fun x34 _=>?_;refine oW (fun g19=>?_) fun g19=>?_
 ·have:s_.size=0:=rfl
  have:=(aU:wl ([]:List aA)=0∧_)
  have:=aA.wt_mk 0 s_ []
  have:=(aU:wl ([]:List aG)=0∧_)
  have:=(aU:wl ([]:List bJ)=0∧_)
  have:=aG.wt_mk 0 s_ s_ 0 (aA.mk 0 s_ []) [] []
  have:=(aU:wl ([]:List ByteArray)=0∧_)
  have:=(aU:wl ([]:List aJ)=0∧_)
  have:=aI.wt_mk s_ [] [] [] (aA.mk 0 s_ []) (aG.mk 0 s_ s_ 0 (aA.mk 0 s_ []) [] [])
  exact oS
 have:=aB.wt_eq pa0
 have:=aX pa0.gList
 refine oD (fun g20=>?_) fun g20=>?_
 ·have:s_.size=0:=rfl
  have:=(aU:wl ([]:List aA)=0∧_)
  have:=aA.wt_mk 0 s_ []
  have:=(aU:wl ([]:List aG)=0∧_)
  have:=(aU:wl ([]:List bJ)=0∧_)
  have:=aG.wt_mk 0 s_ s_ 0 (aA.mk 0 s_ []) [] []
  have:=(aU:wl ([]:List ByteArray)=0∧_)
  have:=(aU:wl ([]:List aJ)=0∧_)
  have:=aI.wt_mk s_ [] [] [] (aA.mk 0 s_ []) (aG.mk 0 s_ s_ 0 (aA.mk 0 s_ []) [] [])
  exact oS
 have:=aB.wt_eq x2
 have:=aI.wt_mk x2.gAtom x6 x10 v23 x14 x18
 refine oB (pT (aI.mk x2.gAtom x6 x10 v23 x14 x18) bP (by first|assumption|trivial)) fun x38 h21=>oB (fT x38 pa0 bP) fun x40 _=>?_;refine oW (fun g23=>?_) fun g23=>?_
 ·have:s_.size=0:=rfl
  have:=(aU:wl ([]:List aA)=0∧_)
  have:=aA.wt_mk 0 s_ []
  have:=(aU:wl ([]:List aG)=0∧_)
  have:=(aU:wl ([]:List bJ)=0∧_)
  have:=aG.wt_mk 0 s_ s_ 0 (aA.mk 0 s_ []) [] []
  have:=(aU:wl ([]:List ByteArray)=0∧_)
  have:=(aU:wl ([]:List aJ)=0∧_)
  have:=aI.wt_mk s_ [] [] [] (aA.mk 0 s_ []) (aG.mk 0 s_ s_ 0 (aA.mk 0 s_ []) [] [])
  exact oS
 exact oS
end Go.Proofs.YtpioomclpaiomaaGreat.W

namespace Go.Proofs.YtpioomclpaiomaaGreat.W
set_option linter.unusedSimpArgs false
set_option linter.unusedVariables false
set_option maxRecDepth 20000
set_option maxHeartbeats 4000000
open Go.RowKit Go.WalkArith Go.IntWalk
def RY(fu:Nat):Prop:= ∀(ps:ByteArray) (pby:UInt8),ps.size≤1073741824→Ok (zS fu ps pby) (fun r=>wl r≤ps.size+1)
theorem zM:bZ RY:=(bZ.ge 2147483648).imp fun fu hfu ps pby hpre=>by
 have:=(aU:wl ([]:List ByteArray)=0∧_)
 refine Ok.sok (E:=fun(v4,v2,v3)=>wl v4≤ps.size+1) ?_ ?_
 ·refine Ok.loopW (fun(v4,v2,v3)=>0≤v2∧v2≤v3∧v3≤((ps.size:Nat):Int)+1∧((wl v4:Nat):Int)≤v2) (fun(v4,v2,v3)=>(((ps.size:Nat):Int)+2-v3).toNat) ?_ _ _ bP bP
  rintro⟨v4,v2,v3⟩ hI3
  try dsimp only at hI3
  refine oD (fun g4=>?_) fun g4=>?_
  ·refine oD (fun g5=>?_) fun g5=>?_
   ·refine oG fun z6=>?_
    have:=aX (v4)
    have:=zD ps (v2:Int).toNat (v3:Int).toNat
    have:=cA (ps.extract (v2:Int).toNat (v3:Int).toNat)
    have:=a6 (ps.extract (v2:Int).toNat (v3:Int).toNat)
    refine oG fun z7=>?_
    have:=bY v4 ([(ps.extract (v2:Int).toNat (v3:Int).toNat)]:List ByteArray)
    have:=eJ (v3+1)
    exact nN
   refine oG fun z8=>?_;refine oD (fun g9=>?_) fun g9=>?_
   ·refine oG fun z10=>?_
    have:=aX (v4)
    have:=zD ps (v2:Int).toNat (v3:Int).toNat
    have:=cA (ps.extract (v2:Int).toNat (v3:Int).toNat)
    have:=a6 (ps.extract (v2:Int).toNat (v3:Int).toNat)
    refine oG fun z11=>?_
    have:=bY v4 ([(ps.extract (v2:Int).toNat (v3:Int).toNat)]:List ByteArray)
    have:=eJ (v3+1)
    exact nN
   have:=eJ (v3+1)
   exact nN
  exact oK
 rintro⟨v4,v2,v3⟩ h1
 dsimp only at h1
 exact oS
def VA(fu:Nat):Prop:= ∀(ps:ByteArray),ps.size≤1073741824→Ok (B7 fu ps) (fun _=>True)
theorem BJ:bZ VA:=(bZ.ge 2147483648).imp fun fu hfu ps hpre=>by
 refine AP ?_ ?_
 ·refine Ok.loop1 ?_;rintro i1 ⟨⟩ hl2
  exact oG fun z4=>oN (fun _=>oR) fun g5=>nN
 rintro⟨⟩-
 exact oS
def YR(fu:Nat):Prop:= ∀(pq0:ByteArray×(List ByteArray)×(List aT)×(List aL)×(List aH)×(List aI)) (pa1:aB),wt pa1≤65536∧wl pq0.2.2.1+wl pq0.2.2.2.1+wl pq0.2.2.2.2.1+wl pq0.2.2.2.2.2≤1073741824→Ok (GK fu pq0 pa1) (fun r=>r.2.1.size+wl r.2.2.1+wl r.2.2.2.1+wl r.2.2.2.2.1+wl r.2.2.2.2.2.1+wl r.2.2.2.2.2.2≤pq0.1.size+wl pq0.2.1+wl pq0.2.2.1+wl pq0.2.2.2.1+wl pq0.2.2.2.2.1+wl pq0.2.2.2.2.2+16*wt pa1+1)
theorem FP:bZ YR:=((((((bZ.ge 2147483648).and cB).and tZ).and pW).and pY).and pX).imp fun fu ⟨⟨⟨⟨⟨hfu,cB⟩,tZ⟩,pW⟩,pY⟩,pX⟩ pq0 pa1 hpre=>by
 have:=aX pq0.2.2.1
 have:=aX pq0.2.2.2.1
 have:=aX pq0.2.2.2.2.1
 have:=aX pq0.2.2.2.2.2
 refine oB (cB pa1 0 bP) fun x2 h1=>?_
 have:=aB.wt_eq x2
 have:CZ.size=5:=rfl
 refine oD (fun g2=>?_) fun g2=>?_
 ·have:=congrArg ByteArray.size g2
  refine sJ (tZ pa1 bP) fun x5 x6 h3=>?_
  dsimp only at h3
  have:=aX (pq0.2.2.1)
  have:=cA x5
  refine oG fun z4=>?_
  have:=bY pq0.2.2.1 ([x5]:List aT)
  exact oS
 have:JY.size=4:=rfl
 refine oD (fun g5=>?_) fun g5=>?_
 ·have:=congrArg ByteArray.size g5
  refine sJ (pW pa1 bP) fun x10 x11 h6=>?_
  dsimp only at h6
  have:=aX (pq0.2.2.2.1)
  have:=cA x10
  refine oG fun z7=>?_
  have:=bY pq0.2.2.2.1 ([x10]:List aL)
  exact oS
 have:JZ.size=4:=rfl
 refine oD (fun g8=>?_) fun g8=>?_
 ·have:=congrArg ByteArray.size g8
  refine sJ (pY pa1 bP) fun x15 x16 h9=>?_
  dsimp only at h9
  have:=aX (pq0.2.2.2.2.1)
  have:=cA x15
  refine oG fun z10=>?_
  have:=bY pq0.2.2.2.2.1 ([x15]:List aH)
  exact oS
 have:adE.size=2:=rfl
 refine oD (fun g11=>?_) fun g11=>?_
 ·have:=congrArg ByteArray.size g11
  refine sJ (pX pa1 bP) fun x20 x21 h12=>?_
  dsimp only at h12
  have:=cA x20
  refine oG fun z13=>?_
  have:=bY pq0.2.2.2.2.2 ([x20]:List aI)
  exact oS
 exact oS
def VB(fu:Nat):Prop:= ∀(pa0:aK),wt pa0≤4194304→Ok (B8 fu pa0) (fun _=>True)
theorem BK:bZ VB:=(bZ.ge 2147483648).imp fun fu hfu pa0 hpre=>by
 have:=(aU:wl ([]:List ByteArray)=0∧_)
 have:=aK.wt_eq pa0
 refine I9 pa0.gTraits 1 (fun i1 v3 hl2 hI3 _ _=>?_) ?_
 ·have:=aX pa0.gTraits
  have:=aX (v3)
  have:=cN pa0.gTraits i1 hl2
  have:=aT.wt_eq (a3 pa0.gTraits i1)
  have:=cA ((a3 pa0.gTraits i1).gName)
  have:=a6 ((a3 pa0.gTraits i1).gName)
  refine oG fun z4=>?_
  have:=bY v3 ([((a3 pa0.gTraits i1).gName)]:List ByteArray)
  exact nN
 intro v3 h1
 refine Ok.sok (E:=fun(v10,v11)=>wl v10+1*wl (List.take 0 pa0.gDataTypes)≤wl ([]:List ByteArray)+1*wl pa0.gDataTypes∧wl v11+1*wl (List.take 0 pa0.gDataTypes)≤wl ([]:List ByteArray)+1*wl pa0.gDataTypes) ?_ ?_
 ·refine Ok.loop0 (fun i7 (v10,v11)=>wl v10+1*wl (List.take 0 pa0.gDataTypes)≤wl ([]:List ByteArray)+1*wl (List.take i7 pa0.gDataTypes)∧wl v11+1*wl (List.take 0 pa0.gDataTypes)≤wl ([]:List ByteArray)+1*wl (List.take i7 pa0.gDataTypes)) (by exact bP) (by rintro i7 ⟨v10,v11⟩-hI;have:=mU pa0.gDataTypes i7;(try dsimp only at hI ⊢);omega) ?_;rintro i7 ⟨v10,v11⟩ hl6 hI7
  dsimp only at hI7
  have:=aX pa0.gDataTypes
  have:=mV pa0.gDataTypes i7 hl6
  have:=mU pa0.gDataTypes (i7+1)
  have:=aX (v10)
  have:=cN pa0.gDataTypes i7 hl6
  have:=aL.wt_eq (a3 pa0.gDataTypes i7)
  have:=cA ((a3 pa0.gDataTypes i7).gName)
  have:=a6 ((a3 pa0.gDataTypes i7).gName)
  refine oG fun z8=>?_;refine I9 ((a3 pa0.gDataTypes i7).gConstructors) 1 (fun i15 v17 hl10 hI11 _ _=>?_) ?_
  ·have:=aX ((a3 pa0.gDataTypes i7).gConstructors)
   have:=aX (v17)
   have:=cN ((a3 pa0.gDataTypes i7).gConstructors) i15 hl10
   have:=aD.wt_eq (a3 ((a3 pa0.gDataTypes i7).gConstructors) i15)
   have:=cA ((a3 ((a3 pa0.gDataTypes i7).gConstructors) i15).gName)
   have:=a6 ((a3 ((a3 pa0.gDataTypes i7).gConstructors) i15).gName)
   refine oG fun z12=>?_
   have:=bY v17 ([((a3 ((a3 pa0.gDataTypes i7).gConstructors) i15).gName)]:List ByteArray)
   exact nN
  intro v17 h9
  have:=bY v10 ([((a3 pa0.gDataTypes i7).gName)]:List ByteArray)
  exact nN
 rintro⟨v10,v11⟩ h5
 dsimp only at h5
 refine I9 pa0.gFunctions 1 (fun i21 v23 hl14 hI15 _ _=>?_) ?_
 ·have:=aX pa0.gFunctions
  have:=cN pa0.gFunctions i21 hl14
  refine Ok.lt fun y26 h16=>?_
  have:=congrArg wt h16
  have:=aX (v23)
  have:=aI.wt_eq y26
  have:=cA y26.gName
  have:=a6 y26.gName
  refine oG fun z17=>?_
  have:=bY v23 ([y26.gName]:List ByteArray)
  exact nN
 intro v23 h13
 exact oS
def VC(fu:Nat):Prop:= ∀(pp:aK),wt pp≤4194304→Ok (B9 fu pp) (fun _=>True)
theorem BL:bZ VC:=(((((bZ.ge 2147483648).and kH).and iE).and iG).and iF).imp fun fu ⟨⟨⟨⟨hfu,kH⟩,iE⟩,iG⟩,iF⟩ pp hpre=>by
 refine AP ?_ ?_
 ·refine Ok.loop1 ?_;rintro i1 ⟨⟩ hl2
  have:=aK.wt_eq pp
  have:=aX pp.gTraits
  have:=cN pp.gTraits i1 hl2
  exact oB (kH (a3 pp.gTraits i1) bP) fun x5 _=>oW (fun _=>oR) fun g5=>nN
 rintro⟨⟩-
 refine AP ?_ ?_
 ·refine Ok.loop1 ?_;rintro i7 ⟨⟩ hl7
  have:=aK.wt_eq pp
  have:=aX pp.gDataTypes
  have:=cN pp.gDataTypes i7 hl7
  exact oB (iE (a3 pp.gDataTypes i7) bP) fun x11 _=>oW (fun _=>oR) fun g10=>nN
 rintro⟨⟩-
 refine AP ?_ ?_
 ·refine Ok.loop1 ?_;rintro i13 ⟨⟩ hl12
  have:=aK.wt_eq pp
  have:=aX pp.gInstances
  have:=cN pp.gInstances i13 hl12
  refine Ok.lt fun y16 h14=>?_
  have:=congrArg wt h14
  exact oB (iG y16 bP) fun x19 _=>oW (fun _=>oR) fun g16=>nN
 rintro⟨⟩-
 refine AP ?_ ?_
 ·refine Ok.loop1 ?_;rintro i21 ⟨⟩ hl18
  have:=aK.wt_eq pp
  have:=aX pp.gFunctions
  have:=cN pp.gFunctions i21 hl18
  refine Ok.lt fun y24 h20=>?_
  have:=congrArg wt h20
  exact oB (iF y24 bP) fun x27 _=>oW (fun _=>oR) fun g22=>nN
 rintro⟨⟩-
 exact oS
def GV(fu:Nat):Prop:= ∀(pa0:aK),wt pa0≤4194304→Ok (rK fu pa0) (fun _=>True)
theorem rC:bZ GV:=(((((((bZ.ge 2147483648).and BK).and bF).and cT).and dG).and eB).and BL).imp fun fu ⟨⟨⟨⟨⟨⟨hfu,BK⟩,bF⟩,cT⟩,dG⟩,eB⟩,BL⟩ pa0 hpre=>by
 refine oB4 (BK pa0 bP) fun x2 x3 x4 x5 _=>?_
 have:=aK.wt_eq pa0
 refine oB (bF pa0.gName) fun x7 _=>oW (fun _=>oS) fun g3=>oB (cT pa0.gDeps 5) fun x10 _=>oW (fun _=>oS) fun g5=>oB (dG pa0.gDeps pa0.gName) fun x13 _=>oC (fun _=>oS) fun g7=>?_
 have:=aX pa0.gTraits
 have:=aX pa0.gDataTypes
 have:=eJ (((pa0.gTraits.length:Nat):Int)+((pa0.gDataTypes.length:Nat):Int))
 have:=aX pa0.gInstances
 have:=eJ ((aQ (((pa0.gTraits.length:Nat):Int)+((pa0.gDataTypes.length:Nat):Int)))+((pa0.gInstances.length:Nat):Int))
 have:=aX pa0.gFunctions
 have:=eJ ((aQ ((aQ (((pa0.gTraits.length:Nat):Int)+((pa0.gDataTypes.length:Nat):Int)))+((pa0.gInstances.length:Nat):Int)))+((pa0.gFunctions.length:Nat):Int))
 refine oD (fun _=>oS) fun g8=>oB (eB x2) fun x17 _=>?_;refine oC (fun g10=>?_) fun g10=>?_
 ·refine oB (eB x3) fun x20 _=>?_;refine oC (fun g12=>?_) fun g12=>?_
  ·refine oB (eB x4) fun x23 _=>?_;refine oC (fun g14=>?_) fun g14=>?_
   ·refine oB (eB x5) fun x26 _=>?_;refine oC (fun g16=>?_) fun g16=>?_
    ·exact oB (BL pa0 bP) fun x29 _=>oS
    exact oS
   exact oS
  exact oS
 exact oS
def GW(fu:Nat):Prop:= ∀(pa0:aB),wt pa0≤65536→Ok (rL fu pa0) (fun r=>wt r.1≤20*wt pa0)
theorem rD:bZ GW:=((((((bZ.ge 2147483648).and cB).and gL).and cI).and FP).and rC).imp fun fu ⟨⟨⟨⟨⟨hfu,cB⟩,gL⟩,cI⟩,FP⟩,rC⟩ pa0 hpre=>by
 refine oB (cB pa0 2 bP) fun x2 h1=>?_
 have:=aB.wt_eq x2
 refine sJ (gL x2.gList bP) fun x4 x5 h2=>?_
 dsimp only at h2
 refine oB (cB pa0 1 bP) fun x7 h3=>oB (cI pa0 bP) fun x9 _=>?_;refine oW (fun g5=>?_) fun g5=>?_
 ·have:s_.size=0:=rfl
  have:=(aU:wl ([]:List ByteArray)=0∧_)
  have:=(aU:wl ([]:List aT)=0∧_)
  have:=(aU:wl ([]:List aL)=0∧_)
  have:=(aU:wl ([]:List aH)=0∧_)
  have:=(aU:wl ([]:List aI)=0∧_)
  have:=aK.wt_mk s_ [] [] [] [] []
  exact oS
 have:=aB.wt_eq pa0
 have:=aX pa0.gList
 refine oD (fun g6=>?_) fun g6=>?_
 ·have:s_.size=0:=rfl
  have:=(aU:wl ([]:List ByteArray)=0∧_)
  have:=(aU:wl ([]:List aT)=0∧_)
  have:=(aU:wl ([]:List aL)=0∧_)
  have:=(aU:wl ([]:List aH)=0∧_)
  have:=(aU:wl ([]:List aI)=0∧_)
  have:=aK.wt_mk s_ [] [] [] [] []
  exact oS
 have:=aX (pa0.gList)
 refine oG fun z7=>?_
 have:=cN pa0.gList 0 z7
 have:wl (List.take 1 pa0.gList)=wl (List.take 0 pa0.gList)+wt (a3 pa0.gList 0)+1:=EW pa0.gList 0 z7
 have:=aB.wt_eq (a3 pa0.gList 0)
 have:RH.size=7:=rfl
 refine oN (fun g8=>?_) fun g8=>?_
 ·have:s_.size=0:=rfl
  have:=(aU:wl ([]:List ByteArray)=0∧_)
  have:=(aU:wl ([]:List aT)=0∧_)
  have:=(aU:wl ([]:List aL)=0∧_)
  have:=(aU:wl ([]:List aH)=0∧_)
  have:=(aU:wl ([]:List aI)=0∧_)
  have:=aK.wt_mk s_ [] [] [] [] []
  exact oS
 have:=congrArg ByteArray.size g8
 refine oG fun z9=>?_
 have:=cN pa0.gList 2 z9
 have:wl (List.take 3 pa0.gList)=wl (List.take 2 pa0.gList)+wt (a3 pa0.gList 2)+1:=EW pa0.gList 2 z9
 have:=aB.wt_eq (a3 pa0.gList 2)
 have:s_.size=0:=rfl
 refine oN (fun g10=>?_) fun g10=>?_
 ·have:=A5 g10
  have:=(aU:wl ([]:List ByteArray)=0∧_)
  have:=(aU:wl ([]:List aT)=0∧_)
  have:=(aU:wl ([]:List aL)=0∧_)
  have:=(aU:wl ([]:List aH)=0∧_)
  have:=(aU:wl ([]:List aI)=0∧_)
  have:=aK.wt_mk s_ [] [] [] [] []
  exact oS
 refine oW (fun g11=>?_) fun g11=>?_
 ·have:=(aU:wl ([]:List ByteArray)=0∧_)
  have:=(aU:wl ([]:List aT)=0∧_)
  have:=(aU:wl ([]:List aL)=0∧_)
  have:=(aU:wl ([]:List aH)=0∧_)
  have:=(aU:wl ([]:List aI)=0∧_)
  have:=aK.wt_mk s_ [] [] [] [] []
  exact oS
 have:=(aU:wl ([]:List aT)=0∧_)
 have:=(aU:wl ([]:List aL)=0∧_)
 have:=(aU:wl ([]:List aH)=0∧_)
 have:=(aU:wl ([]:List aI)=0∧_)
 have:=aB.wt_eq x7
 refine Ok.sok (E:=fun(v18,v19,v24,v25,v26,v27)=>v18.size+wl v19+wl v24+wl v25+wl v26+wl v27≤x7.gAtom.size+wl x4+16*wl pa0.gList) ?_ ?_
 ·refine Ok.loop0 (fun i17 (v18,v19,v24,v25,v26,v27)=>v18.size+wl v19+wl v24+wl v25+wl v26+wl v27≤x7.gAtom.size+wl x4+16*wl (List.take i17 pa0.gList)) (by exact bP) (by rintro i17 ⟨v18,v19,v24,v25,v26,v27⟩-hI;have:=mU pa0.gList i17;(try dsimp only at hI ⊢);omega) ?_;rintro i17 ⟨v18,v19,v24,v25,v26,v27⟩ hl13 hI14
  dsimp only at hI14
  have:=mV pa0.gList i17 hl13
  have:=mU pa0.gList (i17+1)
  have:=cN pa0.gList i17 hl13
  refine sJ (FP (v18,v19,v24,v25,v26,v27) (a3 pa0.gList i17) bP) fun x31 x32 h15=>?_
  dsimp only at h15
  refine oW (fun g16=>?_) fun g16=>?_
  ·have:=(aU:wl ([]:List ByteArray)=0∧_)
   have:=(aU:wl ([]:List aT)=0∧_)
   have:=(aU:wl ([]:List aL)=0∧_)
   have:=(aU:wl ([]:List aH)=0∧_)
   have:=(aU:wl ([]:List aI)=0∧_)
   have:=aK.wt_mk s_ [] [] [] [] []
   exact oR
  exact nN
 rintro⟨v18,v19,v24,v25,v26,v27⟩ h12
 dsimp only at h12
 have:=aK.wt_mk v18 v19 v24 v25 v26 v27
 refine oB (rC (aK.mk v18 v19 v24 v25 v26 v27) bP) fun x35 _=>?_;refine oW (fun g18=>?_) fun g18=>?_
 ·have:=(aU:wl ([]:List ByteArray)=0∧_)
  have:=(aU:wl ([]:List aT)=0∧_)
  have:=(aU:wl ([]:List aL)=0∧_)
  have:=(aU:wl ([]:List aH)=0∧_)
  have:=(aU:wl ([]:List aI)=0∧_)
  have:=aK.wt_mk s_ [] [] [] [] []
  exact oS
 exact oS
def K3(fu:Nat):Prop:= ∀(ps:ByteArray),ps.size≤16384→Ok (t6 fu ps) (fun r=>wt r.1≤40*ps.size)
theorem tX:bZ K3:=(((bZ.ge 2147483648).and xF).and rD).imp fun fu ⟨⟨hfu,xF⟩,rD⟩ ps hpre=>by
 refine sJ (xF ps bP) fun x2 x3 h1=>?_
 dsimp only at h1
 refine oW (fun g2=>?_) fun g2=>?_
 ·have:s_.size=0:=rfl
  have:=(aU:wl ([]:List ByteArray)=0∧_)
  have:=(aU:wl ([]:List aT)=0∧_)
  have:=(aU:wl ([]:List aL)=0∧_)
  have:=(aU:wl ([]:List aH)=0∧_)
  have:=(aU:wl ([]:List aI)=0∧_)
  have:=aK.wt_mk s_ [] [] [] [] []
  exact oS
 refine sJ (rD x2 bP) fun x6 x7 h3=>?_
 dsimp only at h3
 exact oS
def K4(fu:Nat):Prop:= ∀(ps:ByteArray),ps.size≤8192→Ok (t7 fu ps) (fun r=>wt r.1≤40*(ps.size+1))
theorem tY:bZ K4:=((((bZ.ge 2147483648).and zM).and BJ).and tX).imp fun fu ⟨⟨⟨hfu,zM⟩,BJ⟩,tX⟩ ps hpre=>by
 refine oB (zM ps (10:UInt8) bP) fun x2 h1=>?_
 have:=(aU:wl ([]:List aK)=0∧_)
 refine I9 x2 40 (fun i3 v5 hl3 hI4 _ _=>?_) ?_
 ·have:=aX x2
  have:=cN x2 i3 hl3
  have:=a6 (a3 x2 i3)
  refine oB (BJ (a3 x2 i3) bP) fun x9 _=>oC (fun _=>nN) fun g6=>sJ (tX (a3 x2 i3) bP) fun x12 x13 h7=>?_
  dsimp only at h7
  refine oW (fun g8=>?_) fun g8=>?_
  ·have:=aO.wt_mk []
   have:=aX v5
   exact oR
  have:=aX v5
  refine oD (fun g9=>?_) fun g9=>?_
  ·have:=aO.wt_mk []
   exact oR
  have:=aX (v5)
  have:=cA x12
  refine oG fun z10=>?_
  have:=bY v5 ([x12]:List aK)
  exact nN
 intro v5 h2
 have:=aO.wt_mk v5
 exact oS
def YQ(fu:Nat):Prop:= ∀(pc:DS),Ok (GJ fu pc) (fun r=>r.1.size≤4000)
theorem FO:bZ YQ:=(bZ.ge 2147483648).imp fun fu hfu pc=>by
 have:cJ.size=110:=rfl
 have:cK.size=156:=rfl
 refine oG fun z1=>?_
 have:=eQ cJ cK
 have:cP.size=119:=rfl
 refine oG fun z2=>?_
 have:=eQ (cJ++cK) cP
 have:cS.size=86:=rfl
 refine oG fun z3=>Ok.lt fun d4 h4=>?_;refine oC (fun g5=>?_) fun g5=>?_
 ·have:=eQ ((cJ++cK)++cP) cS
  have:hU.size=120:=rfl
  refine oG fun z6=>?_
  have:=eQ (((cJ++cK)++cP)++cS) hU
  have:dL.size=127:=rfl
  refine oG fun z7=>?_
  have:=eQ ((((cJ++cK)++cP)++cS)++hU) dL
  have:eL.size=95:=rfl
  refine oG fun z8=>?_
  have:=eQ (((((cJ++cK)++cP)++cS)++hU)++dL) eL
  have:fH.size=107:=rfl
  refine oG fun z9=>?_
  have:=eQ ((((((cJ++cK)++cP)++cS)++hU)++dL)++eL) fH
  have:gP.size=51:=rfl
  refine oG fun z10=>?_
  have:=eQ (((((((cJ++cK)++cP)++cS)++hU)++dL)++eL)++fH) gP
  have:jN.size=140:=rfl
  refine oG fun z11=>?_
  have:=eQ ((((((((cJ++cK)++cP)++cS)++hU)++dL)++eL)++fH)++gP) jN
  have:mY.size=90:=rfl
  refine oG fun z12=>?_
  have:=eQ (((((((((cJ++cK)++cP)++cS)++hU)++dL)++eL)++fH)++gP)++jN) mY
  have:wF.size=1:=rfl
  refine oG fun z13=>?_
  have:=eQ ((((((((((cJ++cK)++cP)++cS)++hU)++dL)++eL)++fH)++gP)++jN)++mY) wF
  exact oS
 have:=eQ ((cJ++cK)++cP) cS
 have:hY.size=147:=rfl
 refine oG fun z14=>?_
 have:=eQ (((cJ++cK)++cP)++cS) hY
 have:dL.size=127:=rfl
 refine oG fun z15=>?_
 have:=eQ ((((cJ++cK)++cP)++cS)++hY) dL
 have:eL.size=95:=rfl
 refine oG fun z16=>?_
 have:=eQ (((((cJ++cK)++cP)++cS)++hY)++dL) eL
 have:fH.size=107:=rfl
 refine oG fun z17=>?_
 have:=eQ ((((((cJ++cK)++cP)++cS)++hY)++dL)++eL) fH
 have:gP.size=51:=rfl
 refine oG fun z18=>?_
 have:=eQ (((((((cJ++cK)++cP)++cS)++hY)++dL)++eL)++fH) gP
 have:jN.size=140:=rfl
 refine oG fun z19=>?_
 have:=eQ ((((((((cJ++cK)++cP)++cS)++hY)++dL)++eL)++fH)++gP) jN
 have:mY.size=90:=rfl
 refine oG fun z20=>?_
 have:=eQ (((((((((cJ++cK)++cP)++cS)++hY)++dL)++eL)++fH)++gP)++jN) mY
 have:wF.size=1:=rfl
 refine oG fun z21=>?_
 have:=eQ ((((((((((cJ++cK)++cP)++cS)++hY)++dL)++eL)++fH)++gP)++jN)++mY) wF
 exact oS
def acJ(fu:Nat):Prop:= ∀(pc:DS),Ok (J4 fu pc) (fun r=>r.1.size≤3000)
theorem I0:bZ acJ:=(bZ.ge 2147483648).imp fun fu hfu pc=>by
 refine Ok.sok (E:=fun(v1,v2)=>v1.size≤1000) ?_ ?_
 ·refine Ok.lt fun d3 h2=>?_;refine oC (fun g3=>?_) fun g3=>?_
  ·have:eK.size=50:=rfl
   have:HI.size=38:=rfl
   refine oG fun z4=>?_
   have:=eQ eK HI
   exact oI
  refine oC (fun g5=>?_) fun g5=>?_
  ·have:eK.size=50:=rfl
   have:HG.size=64:=rfl
   refine oG fun z6=>?_
   have:=eQ eK HG
   exact oI
  refine oC (fun g7=>?_) fun g7=>?_
  ·have:eK.size=50:=rfl
   have:HA.size=83:=rfl
   refine oG fun z8=>?_
   have:=eQ eK HA
   exact oI
  refine oC (fun g9=>?_) fun g9=>?_
  ·have:eK.size=50:=rfl
   have:HC.size=45:=rfl
   refine oG fun z10=>?_
   have:=eQ eK HC
   exact oI
  refine oC (fun g11=>?_) fun g11=>?_
  ·have:eK.size=50:=rfl
   have:HB.size=90:=rfl
   refine oG fun z12=>?_
   have:=eQ eK HB
   exact oI
  refine oC (fun g13=>?_) fun g13=>?_
  ·have:eK.size=50:=rfl
   have:HF.size=45:=rfl
   refine oG fun z14=>?_
   have:=eQ eK HF
   exact oI
  have:eK.size=50:=rfl
  have:HD.size=64:=rfl
  refine oG fun z15=>?_
  have:=eQ eK HD
  exact oI
 rintro⟨v1,v2⟩ h1
 dsimp only at h1
 have:mX.size=23:=rfl
 refine oG fun z16=>?_
 have:yC.size=13:=rfl
 have:yB.size=68:=rfl
 have:xZ.size=29:=rfl
 have:yD.size=43:=rfl
 have:xY.size=68:=rfl
 have:yG.size=25:=rfl
 have:yH.size=29:=rfl
 have:yE.size=45:=rfl
 have:yF.size=65:=rfl
 have:xX.size=43:=rfl
 have:wl ([yC,yB,xZ,yD,xY,yG,yH,yE,yF,xX]:List ByteArray)=438:=rfl
 refine Ok.lt fun d19 h17=>Ok.lt fun y21 h18=>?_
 have:=congrArg wt h18
 simp only [a6] at this
 have:y21.size≤200:=by rw [h18];exact DS.pick_size _ (by decide) (by decide)
 have:=eQ v1 mX
 refine oG fun z19=>?_
 have:=eQ (v1++mX) y21
 have:wF.size=1:=rfl
 refine oG fun z20=>?_;refine Ok.sok (E:=fun(v25,v26)=>v25.size≤2000) ?_ ?_
 ·refine Ok.lt fun d27 h22=>?_;refine oC (fun g23=>?_) fun g23=>?_
  ·have:=eQ ((v1++mX)++y21) wF
   have:HE.size=83:=rfl
   refine oG fun z24=>?_
   have:=eQ (((v1++mX)++y21)++wF) HE
   exact oI
  have:=eQ ((v1++mX)++y21) wF
  exact oI
 rintro⟨v25,v26⟩ h21
 dsimp only at h21
 refine Ok.sok (E:=fun(v31,v32)=>v31.size≤2500) ?_ ?_
 ·refine Ok.lt fun d33 h26=>?_;refine oC (fun g27=>?_) fun g27=>?_
  ·have:HH.size=77:=rfl
   refine oG fun z28=>?_
   have:=eQ v25 HH
   exact oI
  exact oI
 rintro⟨v31,v32⟩ h25
 dsimp only at h25
 refine Ok.lt fun d37 h29=>?_;refine oC (fun g30=>?_) fun g30=>?_
 ·have:yA.size=113:=rfl
  refine oG fun z31=>?_
  have:=eQ v31 yA
  refine oG fun z32=>?_
  have:=eQ (v31++yA) wF
  exact oS
 refine oG fun z33=>?_
 have:=eQ v31 wF
 exact oS
def K7(fu:Nat):Prop:= ∀(pc:DS),Ok (uE fu pc) (fun r=>r.1.size≤7001)
theorem t1:bZ K7:=(((bZ.ge 2147483648).and FO).and I0).imp fun fu ⟨⟨hfu,FO⟩,I0⟩ pc=>by
 refine sJ (FO pc) fun x2 x3 h1=>?_
 dsimp only at h1
 refine Ok.lt fun d4 h2=>oC (fun _=>oS) fun g3=>?_
 have:aeF.size=1:=rfl
 refine oG fun z4=>sJ (I0 d4) fun x9 x10 h5=>?_
 dsimp only at h5
 have:=eQ x2 aeF
 refine oG fun z6=>?_
 have:=eQ (x2++aeF) x9
 exact oS
def YS(fu:Nat):Prop:= ∀(pc:DS),Ok (GL fu pc) (fun r=>wt r.1≤327680)
theorem FQ:bZ YS:=(((bZ.ge 2147483648).and t1).and tY).imp fun fu ⟨⟨hfu,t1⟩,tY⟩ pc=>by
 refine sJ (t1 pc) fun x2 x3 h1=>?_
 dsimp only at h1
 refine sJ (tY x2 bP) fun x5 x6 h2=>?_
 dsimp only at h2
 have:=aO.wt_eq x5
 have:=aO.wt_mk x5.gPackages
 exact oS
end Go.Proofs.YtpioomclpaiomaaGreat.W

namespace Go.Proofs.YtpioomclpaiomaaGreat.W
set_option linter.unusedSimpArgs false
set_option linter.unusedVariables false
open Go.RowKit Go.WalkArith Go.IntWalk
def bT:Nat→Nat
 |0=>1000
 |n+1=>2*bT n+20
theorem abP: ∀n:Nat,1000≤bT n
 |0=>Nat.le_refl _
 |n+1=>by unfold bT;have:=abP n;omega
theorem agA(x:Int):0<x∧x≤4→bT x.toNat=2*bT (aQ (x-1)).toNat+20:=fun h=>by
 rw [eJ (x-1) (by omega)]
 obtain⟨n,rfl⟩: ∃n:Nat,x=((n+1:Nat):Int):=⟨x.toNat-1,by omega⟩
 have e:(((n+1:Nat):Int)-1).toNat=n:=by omega
 rw [e]
 simp only [Int.toNat_natCast]
 rfl
theorem ag5(x:Int):x≤4→bT x.toNat≤20000:=fun h=>by
 have:x.toNat=0∨x.toNat=1∨x.toNat=2∨x.toNat=3∨x.toNat=4:=by omega
 rcases this with h|h|h|h|h<;>rw [h]<;>decide
def bX:Nat→Nat
 |0=>3000
 |n+1=>4*bX n+22000
theorem aeU: ∀n:Nat,3000≤bX n
 |0=>Nat.le_refl _
 |n+1=>by unfold bX;have:=aeU n;omega
theorem agB(x:Int):0<x∧x≤4→bX x.toNat=4*bX (aQ (x-1)).toNat+22000:=fun h=>by
 rw [eJ (x-1) (by omega)]
 obtain⟨n,rfl⟩: ∃n:Nat,x=((n+1:Nat):Int):=⟨x.toNat-1,by omega⟩
 have e:(((n+1:Nat):Int)-1).toNat=n:=by omega
 rw [e]
 simp only [Int.toNat_natCast]
 rfl
theorem ag6(x:Int):x≤3→bX x.toNat≤1000000:=fun h=>by
 have:x.toNat=0∨x.toNat=1∨x.toNat=2∨x.toNat=3:=by omega
 rcases this with h|h|h|h<;>rw [h]<;>decide
theorem R6:bT (1:Int).toNat=2020:=rfl
theorem ahX:bX (2:Int).toNat=158000:=rfl
theorem YU:bT (2:Int).toNat=4060:=rfl
end Go.Proofs.YtpioomclpaiomaaGreat.W

namespace Go.Proofs.YtpioomclpaiomaaGreat.W
set_option linter.unusedSimpArgs false
set_option linter.unusedVariables false
set_option maxRecDepth 20000
set_option maxHeartbeats 4000000
open Go.RowKit Go.WalkArith Go.IntWalk
attribute [local irreducible] wt wl bT bX lt
def abN(fu:Nat):Prop:= ∀(pc:DS) (pvars:List ByteArray) (pdeep:Int),wl pvars≤1000∧ -100≤pdeep∧pdeep≤4→Ok (pO fu pc pvars pdeep) (fun r=>wt r.1≤bT pdeep.toNat)
def RT(n:Nat)(m:H7):Prop:= ∀(pc:DS) (pvars:List ByteArray) (pdeep:Int),pdeep.toNat<n→wl pvars≤1000∧ -100≤pdeep∧pdeep≤4→Ok (m pc pvars pdeep) (fun r=>wt r.1≤bT pdeep.toNat)
theorem afN{n fu:Nat}(hfu:2147483648≤fu)(eR:M2 fu)(d2:M1 fu){r_sl4Ty:H7}(h_sl4Ty:RT n r_sl4Ty):RT (n+1) (UM fu r_sl4Ty):=by
 intro pc pvars pdeep hm hpre
 have:=abP pdeep.toNat
 have:=abP (aQ (pdeep-1)).toNat
 have:=agA pdeep
 have:=ag5 (aQ (pdeep-1))
 refine Ok.lt fun d1 h1=>?_;refine oC (fun g2=>?_) fun g2=>?_
 ·have:=aX pvars
  refine oD (fun g3=>?_) fun g3=>?_
  ·refine Ok.lt fun d5 h4=>?_
   have:=acX d1 pvars.length
   have:=aX (pvars)
   refine oG fun z5=>?_
   have:=cN pvars (d1.below pvars.length) z5
   have:=a6 (a3 pvars (d1.below pvars.length))
   exact oB (eR (a3 pvars (d1.below pvars.length))) fun x9 h6=>oS
  refine oC (fun g7=>?_) fun g7=>?_
  ·have:fU.size=3:=rfl
   have:fP.size=4:=rfl
   have:hO.size=4:=rfl
   have:=BO fU fP hO
   have:=a6 fU
   have:=a6 fP
   have:=a6 hO
   refine Ok.lt fun d11 h8=>Ok.lt fun y13 h9=>?_
   have:=congrArg wt h9
   simp only [a6] at this
   have:y13.size≤4:=by rw [h9];exact DS.pick_size _ (by decide) (by decide)
   have:=(aU:wl ([]:List aA)=0∧_)
   exact oB (d2 y13 ([]:List aA) bP) fun x16 h10=>oS
  refine oD (fun g11=>?_) fun g11=>?_
  ·have:fU.size=3:=rfl
   have:fP.size=4:=rfl
   have:hO.size=4:=rfl
   have:=BO fU fP hO
   have:=a6 fU
   have:=a6 fP
   have:=a6 hO
   refine Ok.lt fun d18 h12=>Ok.lt fun y20 h13=>?_
   have:=congrArg wt h13
   simp only [a6] at this
   have:y20.size≤4:=by rw [h13];exact DS.pick_size _ (by decide) (by decide)
   have:=(aU:wl ([]:List aA)=0∧_)
   exact oB (d2 y20 ([]:List aA) bP) fun x23 h14=>oS
  refine oC (fun g15=>?_) fun g15=>?_
  ·have:=eJ (pdeep-1)
   refine sJ (h_sl4Ty d1 pvars (aQ (pdeep-1)) bP bP) fun x26 x27 h16=>?_
   dsimp only at h16
   refine sJ (h_sl4Ty x27 pvars (aQ (pdeep-1)) bP bP) fun x29 x30 h17=>?_
   dsimp only at h17
   have:uC.size=4:=rfl
   have:=jO x26 x29
   exact oB (d2 uC ([x26,x29]:List aA) bP) fun x32 h18=>oS
  have:cU.size=4:=rfl
  have:wQ.size=3:=rfl
  have:=BO cU cU wQ
  have:=a6 cU
  have:=a6 wQ
  refine Ok.lt fun d33 h19=>Ok.lt fun y35 h20=>?_
  have:=congrArg wt h20
  simp only [a6] at this
  have:y35.size≤4:=by rw [h20];exact DS.pick_size _ (by decide) (by decide)
  have:=eJ (pdeep-1)
  refine sJ (h_sl4Ty d33 pvars (aQ (pdeep-1)) bP bP) fun x38 x39 h21=>?_
  dsimp only at h21
  have:=cA x38
  exact oB (d2 y35 ([x38]:List aA) bP) fun x41 h22=>oS
 refine oC (fun g23=>?_) fun g23=>?_
 ·have:fU.size=3:=rfl
  have:fP.size=4:=rfl
  have:hO.size=4:=rfl
  have:=BO fU fP hO
  have:=a6 fU
  have:=a6 fP
  have:=a6 hO
  refine Ok.lt fun d43 h24=>Ok.lt fun y45 h25=>?_
  have:=congrArg wt h25
  simp only [a6] at this
  have:y45.size≤4:=by rw [h25];exact DS.pick_size _ (by decide) (by decide)
  have:=(aU:wl ([]:List aA)=0∧_)
  exact oB (d2 y45 ([]:List aA) bP) fun x48 h26=>oS
 refine oD (fun g27=>?_) fun g27=>?_
 ·have:fU.size=3:=rfl
  have:fP.size=4:=rfl
  have:hO.size=4:=rfl
  have:=BO fU fP hO
  have:=a6 fU
  have:=a6 fP
  have:=a6 hO
  refine Ok.lt fun d50 h28=>Ok.lt fun y52 h29=>?_
  have:=congrArg wt h29
  simp only [a6] at this
  have:y52.size≤4:=by rw [h29];exact DS.pick_size _ (by decide) (by decide)
  have:=(aU:wl ([]:List aA)=0∧_)
  exact oB (d2 y52 ([]:List aA) bP) fun x55 h30=>oS
 refine oC (fun g31=>?_) fun g31=>?_
 ·have:=eJ (pdeep-1)
  refine sJ (h_sl4Ty d1 pvars (aQ (pdeep-1)) bP bP) fun x58 x59 h32=>?_
  dsimp only at h32
  refine sJ (h_sl4Ty x59 pvars (aQ (pdeep-1)) bP bP) fun x61 x62 h33=>?_
  dsimp only at h33
  have:uC.size=4:=rfl
  have:=jO x58 x61
  exact oB (d2 uC ([x58,x61]:List aA) bP) fun x64 h34=>oS
 have:cU.size=4:=rfl
 have:wQ.size=3:=rfl
 have:=BO cU cU wQ
 have:=a6 cU
 have:=a6 wQ
 refine Ok.lt fun d65 h35=>Ok.lt fun y67 h36=>?_
 have:=congrArg wt h36
 simp only [a6] at this
 have:y67.size≤4:=by rw [h36];exact DS.pick_size _ (by decide) (by decide)
 have:=eJ (pdeep-1)
 refine sJ (h_sl4Ty d65 pvars (aQ (pdeep-1)) bP bP) fun x70 x71 h37=>?_
 dsimp only at h37
 have:=cA x70
 exact oB (d2 y67 ([x70]:List aA) bP) fun x73 h38=>oS
theorem agV(n:Nat):bZ fun fu=>RT n (pO fu):=by
 induction n with
 |zero=>exact .all fun fu=>fun _ _ _ h=>absurd h (Nat.not_lt_zero _)
 |succ n ih=>exact bZ.succ ((ih.and (((bZ.ge 2147483648).and eR).and d2)).imp fun fu ⟨h,⟨⟨hfu,eR⟩,d2⟩⟩=>fun pc pvars pdeep=>by rw [pO];exact afN hfu eR d2 h pc pvars pdeep)
theorem rF:bZ abN:=(agV 100).imp fun fu h pc pvars pdeep hpre=>h pc pvars pdeep bP hpre
def acN(fu:Nat):Prop:= ∀(pt:aA),wt pt≤268435456→Ok (iM fu pt) (fun r=>wt r≤wt pt)
def CG(n:Nat)(m:nC):Prop:= ∀(pt:aA),2*wt pt+1<n→wt pt≤268435456→Ok (m pt) (fun r=>wt r≤wt pt)
def wI(n:Nat)(m:jY):Prop:= ∀(plist:List aA),2*wl plist<n→wl plist≤268435456→Ok (m plist) (fun r=>wl r≤wl plist)
theorem aaY{n fu:Nat}(hfu:2147483648≤fu){r_sl4Copy:nC}(h_sl4Copy:CG n r_sl4Copy){r_sl4Copies:jY}(h_sl4Copies:wI n r_sl4Copies):CG (n+1) (C9 fu r_sl4Copy r_sl4Copies):=by
 intro pt hm hpre
 have:=aA.wt_eq pt
 refine oB (h_sl4Copies pt.gArgs bP bP) fun x2 h1=>?_
 have:=aA.wt_mk pt.gKind pt.gName x2
 exact oS
theorem UH{n fu:Nat}(hfu:2147483648≤fu){r_sl4Copy:nC}(h_sl4Copy:CG n r_sl4Copy){r_sl4Copies:jY}(h_sl4Copies:wI n r_sl4Copies):wI (n+1) (wX fu r_sl4Copy r_sl4Copies):=by
 intro plist hm hpre
 have:=(aU:wl ([]:List aA)=0∧_)
 refine I9 plist 1 (fun i1 v3 hl2 hI3 _ _=>?_) ?_
 ·have:=aX plist
  have:=cN plist i1 hl2
  refine oB (h_sl4Copy (a3 plist i1) bP bP) fun x7 h4=>?_
  have:=aX (v3)
  have:=cA x7
  refine oG fun z5=>?_
  have:=bY v3 ([x7]:List aA)
  exact nN
 intro v3 h1
 exact oS
theorem ad4(n:Nat):bZ fun fu=>CG n (iM fu)∧wI n (jC fu):=by
 induction n with
 |zero=>exact .all fun fu=>⟨fun _ h=>absurd h (Nat.not_lt_zero _),fun _ h=>absurd h (Nat.not_lt_zero _)⟩
 |succ n ih=>exact bZ.succ ((ih.and (bZ.ge 2147483648)).imp fun fu ⟨h,hfu⟩=>⟨fun pt=>by rw [iM];exact aaY hfu h.1 h.2 pt,fun plist=>by rw [jC];exact UH hfu h.1 h.2 plist⟩)
theorem I4:bZ acN:=(ad4 8589934592).imp fun fu h pt hpre=>h.1 pt bP hpre
def acR(fu:Nat):Prop:= ∀(ptrait:ByteArray) (pt:aA),ptrait.size+wt pt≤67108864→Ok (DC fu ptrait pt) (fun r=>wt r≤ptrait.size+wt pt+1)
theorem CR:bZ acR:=((bZ.ge 2147483648).and I4).imp fun fu ⟨hfu,I4⟩ ptrait pt hpre=>by
 refine oB (I4 pt bP) fun x2 h1=>?_
 have:=cA x2
 have:=aA.wt_mk 3 ptrait ([x2]:List aA)
 exact oS
def acP(fu:Nat):Prop:= ∀(pc:DS) (pdeep:Int),-100≤pdeep∧pdeep≤4→Ok (sY fu pc pdeep) (fun r=>wt r.1≤bT pdeep.toNat+60)
theorem lY:bZ acP:=((((bZ.ge 2147483648).and rF).and CR).and d2).imp fun fu ⟨⟨⟨hfu,rF⟩,CR⟩,d2⟩ pc pdeep hpre=>by
 have:=abP pdeep.toNat
 have:=ag5 pdeep
 have:f9.size=1:=rfl
 have:A0.size=1:=rfl
 have:=jO f9 A0
 have:=a6 f9
 have:=a6 A0
 refine sJ (rF pc ([f9,A0]:List ByteArray) pdeep bP) fun x2 x3 h1=>?_
 dsimp only at h1
 refine Ok.lt fun d4 h2=>?_;refine oC (fun g3=>?_) fun g3=>?_
 ·have:jP.size=3:=rfl
  have:bH.size=4:=rfl
  have:=jO jP bH
  have:=a6 jP
  have:=a6 bH
  refine Ok.lt fun d7 h4=>Ok.lt fun y9 h5=>?_
  have:=congrArg wt h5
  simp only [a6] at this
  have:y9.size≤4:=by rw [h5];exact DS.pick_size _ (by decide) (by decide)
  exact oB (CR y9 x2 bP) fun x12 h6=>oS
 refine oC (fun g7=>?_) fun g7=>?_
 ·have:jP.size=3:=rfl
  refine oB (CR jP x2 bP) fun x15 h8=>?_
  have:cU.size=4:=rfl
  have:=cA x15
  exact oB (d2 cU ([x15]:List aA) bP) fun x17 h9=>oS
 refine oC (fun g10=>?_) fun g10=>?_
 ·have:bH.size=4:=rfl
  have:=(aU:wl ([]:List aA)=0∧_)
  have:=aA.wt_mk 4 bH []
  exact oS
 exact oS
def U2(fu:Nat):Prop:= ∀(pk:Int) (pname:ByteArray) (pargs:List aG),pname.size+wl pargs≤67108864→Ok (rO fu pk pname pargs) (fun r=>wt r=pname.size+wl pargs)
theorem lX:bZ U2:=(bZ.ge 2147483648).imp fun fu hfu pk pname pargs hpre=>by
 have:=(aU:wl ([]:List aG)=0∧_)
 have:=aX (pargs)
 refine oG fun z1=>?_
 have:s_.size=0:=rfl
 have:=(aU:wl ([]:List aA)=0∧_)
 have:=aA.wt_mk 0 s_ []
 have:=bY ([]:List aG) pargs
 have:=(aU:wl ([]:List bJ)=0∧_)
 have:=aG.wt_mk pk s_ pname 0 (aA.mk 0 s_ []) (([])++pargs) []
 exact oS
def YF(fu:Nat):Prop:= ∀(pq0:DS) (pa1:List ByteArray) (pString:Int),wl pa1+10*pString.toNat≤900∧ -100≤pString∧pString≤3→Ok (kE fu pq0 pa1 pString) (fun r=>wt r.1≤bX pString.toNat)
def EY(n:Nat)(m:qD):Prop:= ∀(pq0:DS) (pa1:List ByteArray) (pString:Int),pString.toNat<n→wl pa1+10*pString.toNat≤900∧ -100≤pString∧pString≤3→Ok (m pq0 pa1 pString) (fun r=>wt r.1≤bX pString.toNat)
theorem V8{n fu:Nat}(hfu:2147483648≤fu)(e9:xT fu)(eV:xS fu)(lX:U2 fu)(rF:abN fu){r_sl11Expr:qD}(h_sl11Expr:EY n r_sl11Expr):EY (n+1) (F9 fu r_sl11Expr):=by
 intro pq0 pa1 pString hm hpre
 have:=aeU pString.toNat
 have:=aeU (aQ (pString-1)).toNat
 have:=agB pString
 have:=R6
 have:=ag6 pString
 have:=eJ (pString-1)
 refine Ok.lt fun d1 h1=>?_;refine Ok.sok (E:=fun v3=>pString≤0→v3≤2) ?_ ?_
 ·refine oD (fun g3=>?_) fun g3=>?_
  ·have:=DS.below_lt pq0 (n:=13) (by decide)
   exact oI
  have:=DS.below_lt pq0 (n:=13) (by decide)
  exact oI
 intro v3 h2
 refine oD (fun g4=>?_) fun g4=>?_
 ·refine Ok.lt fun d6 h5=>?_
  have:s_.size=0:=rfl
  have:=DS.below_lt d1 (n:=2) (by decide)
  have:=(aU:wl ([]:List aA)=0∧_)
  have:=aA.wt_mk 0 s_ []
  have:=(aU:wl ([]:List aG)=0∧_)
  have:=(aU:wl ([]:List bJ)=0∧_)
  have:=aG.wt_mk 2 s_ s_ ((d1.below 2:Nat):Int) (aA.mk 0 s_ []) [] []
  exact oS
 refine AP ?_ ?_
 ·exact oD (fun _=>oI) fun g7=>oI
 intro v8 _
 refine oC (fun g8=>?_) fun g8=>?_
 ·have:=aX pa1
  refine oD (fun g9=>?_) fun g9=>?_
  ·have:=aX (pa1)
   refine oG fun z10=>Ok.lt fun d13 h11=>?_
   have:=agM d1 pa1
   refine Ok.lt fun y15 h12=>?_
   have:=congrArg wt h12
   simp only [a6] at this
   exact KR (e9 y15) fun x18 h13 h13B=>oS
  refine Ok.lt fun d19 h14=>?_
  have:=DS.below_lt d1 (n:=20) (by decide)
  have:=eJ (((d1.below 20:Nat):Int)-5)
  exact KR (eV (aQ (((d1.below 20:Nat):Int)-5)) bP) fun x22 h15 h15B=>oS
 refine oD (fun g16=>?_) fun g16=>?_
 ·have:s_f.size=1:=rfl
  have:s_g.size=1:=rfl
  have:=jO s_f s_g
  have:=a6 s_f
  have:=a6 s_g
  refine Ok.lt fun d24 h17=>Ok.lt fun y26 h18=>?_
  have:=congrArg wt h18
  simp only [a6] at this
  have:y26.size≤1:=by rw [h18];exact DS.pick_size _ (by decide) (by decide)
  have:=eJ (pString-1)
  refine sJ (h_sl11Expr d24 pa1 (aQ (pString-1)) bP bP) fun x29 x30 h19=>?_
  dsimp only at h19
  have:=cA x29
  exact oB (lX 4 y26 ([x29]:List aG) bP) fun x32 h20=>oS
 refine oD (fun g21=>?_) fun g21=>?_
 ·have:bH.size=4:=rfl
  have:jP.size=3:=rfl
  have:=jO bH jP
  have:=a6 bH
  have:=a6 jP
  refine Ok.lt fun d34 h22=>Ok.lt fun y36 h23=>?_
  have:=congrArg wt h23
  simp only [a6] at this
  have:y36.size≤4:=by rw [h23];exact DS.pick_size _ (by decide) (by decide)
  have:=eJ (pString-1)
  refine sJ (h_sl11Expr d34 pa1 (aQ (pString-1)) bP bP) fun x39 x40 h24=>?_
  dsimp only at h24
  refine sJ (h_sl11Expr x40 pa1 (aQ (pString-1)) bP bP) fun x42 x43 h25=>?_
  dsimp only at h25
  have:eN.size=1:=rfl
  have:s_.size=0:=rfl
  have:=(aU:wl ([]:List aA)=0∧_)
  have:=aA.wt_mk 0 s_ []
  have:=jO x39 x42
  have:=(aU:wl ([]:List bJ)=0∧_)
  have:=aG.wt_mk 5 y36 eN 0 (aA.mk 0 s_ []) ([x39,x42]:List aG) []
  exact oS
 refine oD (fun g26=>?_) fun g26=>?_
 ·have:=eJ (pString-1)
  refine sJ (h_sl11Expr d1 pa1 (aQ (pString-1)) bP bP) fun x46 x47 h27=>?_
  dsimp only at h27
  refine sJ (h_sl11Expr x47 pa1 (aQ (pString-1)) bP bP) fun x49 x50 h28=>?_
  dsimp only at h28
  have:cG.size=4:=rfl
  have:=jO x46 x49
  exact oB (lX 6 cG ([x46,x49]:List aG) bP) fun x52 h29=>oS
 refine oD (fun g30=>?_) fun g30=>?_
 ·have:=(aU:wl ([]:List ByteArray)=0∧_)
  have:=aX (pa1)
  refine oG fun z31=>?_
  have:=bY ([]:List ByteArray) pa1
  have:ZH.size=1:=rfl
  have:ZI.size=1:=rfl
  have:=jO ZH ZI
  have:=a6 ZH
  have:=a6 ZI
  refine oG fun z32=>?_
  have:=eJ (pString-1)
  refine sJ (h_sl11Expr d1 pa1 (aQ (pString-1)) bP bP) fun x57 x58 h33=>?_
  dsimp only at h33
  refine sJ (h_sl11Expr x58 pa1 (aQ (pString-1)) bP bP) fun x60 x61 h34=>?_
  dsimp only at h34
  have:=bY (([])++pa1) ([ZH,ZI]:List ByteArray)
  refine sJ (h_sl11Expr x61 ((([])++pa1)++([ZH,ZI]:List ByteArray)) (aQ (pString-1)) bP bP) fun x63 x64 h35=>?_
  dsimp only at h35
  have:s_.size=0:=rfl
  have:=(aU:wl ([]:List aA)=0∧_)
  have:=aA.wt_mk 0 s_ []
  have:=cA x57
  have:fJ.size=3:=rfl
  have:=bJ.wt_mk fJ [] x60
  have:cG.size=4:=rfl
  have:=bJ.wt_mk cG ([ZH,ZI]:List ByteArray) x63
  have:=jO (bJ.mk fJ [] x60) (bJ.mk cG ([ZH,ZI]:List ByteArray) x63)
  have:=aG.wt_mk 7 s_ s_ 0 (aA.mk 0 s_ []) ([x57]:List aG) ([(bJ.mk fJ [] x60),(bJ.mk cG ([ZH,ZI]:List ByteArray) x63)]:List bJ)
  exact oS
 refine oD (fun g36=>?_) fun g36=>?_
 ·have:=eJ (pString-1)
  refine sJ (h_sl11Expr d1 pa1 (aQ (pString-1)) bP bP) fun x67 x68 h37=>?_
  dsimp only at h37
  have:=(aU:wl ([]:List ByteArray)=0∧_)
  have:=aX (pa1)
  refine oG fun z38=>?_
  have:=bY ([]:List ByteArray) pa1
  have:oT.size=1:=rfl
  have:=cA oT
  have:=a6 oT
  refine oG fun z39=>?_
  have:=bY (([])++pa1) ([oT]:List ByteArray)
  refine sJ (h_sl11Expr x68 ((([])++pa1)++([oT]:List ByteArray)) (aQ (pString-1)) bP bP) fun x72 x73 h40=>?_
  dsimp only at h40
  have:=jO x67 x72
  exact oB (lX 8 oT ([x67,x72]:List aG) bP) fun x75 h41=>oS
 refine oD (fun g42=>?_) fun g42=>?_
 ·have:=eJ (pString-1)
  refine sJ (h_sl11Expr d1 pa1 (aQ (pString-1)) bP bP) fun x78 x79 h43=>?_
  dsimp only at h43
  refine sJ (h_sl11Expr x79 pa1 (aQ (pString-1)) bP bP) fun x81 x82 h44=>?_
  dsimp only at h44
  refine sJ (h_sl11Expr x82 pa1 (aQ (pString-1)) bP bP) fun x84 x85 h45=>?_
  dsimp only at h45
  have:s_.size=0:=rfl
  have:=BO x78 x81 x84
  exact oB (lX 9 s_ ([x78,x81,x84]:List aG) bP) fun x87 h46=>oS
 refine oD (fun g47=>?_) fun g47=>?_
 ·have:wG.size=1:=rfl
  have:AY.size=1:=rfl
  have:H8.size=1:=rfl
  have:H9.size=1:=rfl
  have:IA.size=1:=rfl
  have:=ai0 wG AY H8 H9 IA
  have:=a6 wG
  have:=a6 AY
  have:=a6 H8
  have:=a6 H9
  have:=a6 IA
  refine Ok.lt fun d89 h48=>Ok.lt fun y91 h49=>?_
  have:=congrArg wt h49
  simp only [a6] at this
  have:y91.size≤1:=by rw [h49];exact DS.pick_size _ (by decide) (by decide)
  have:=eJ (pString-1)
  refine sJ (h_sl11Expr d89 pa1 (aQ (pString-1)) bP bP) fun x94 x95 h50=>?_
  dsimp only at h50
  refine sJ (h_sl11Expr x95 pa1 (aQ (pString-1)) bP bP) fun x97 x98 h51=>?_
  dsimp only at h51
  have:=jO x94 x97
  exact oB (lX 10 y91 ([x94,x97]:List aG) bP) fun x100 h52=>oS
 refine oD (fun g53=>?_) fun g53=>?_
 ·have:=eJ (pString-1)
  refine sJ (h_sl11Expr d1 pa1 (aQ (pString-1)) bP bP) fun x103 x104 h54=>?_
  dsimp only at h54
  have:bH.size=4:=rfl
  have:s_.size=0:=rfl
  have:=(aU:wl ([]:List aA)=0∧_)
  have:=aA.wt_mk 0 s_ []
  have:=cA x103
  have:=(aU:wl ([]:List bJ)=0∧_)
  have:=aG.wt_mk 11 bH s_ 0 (aA.mk 0 s_ []) ([x103]:List aG) []
  exact oS
 refine oD (fun g55=>?_) fun g55=>?_
 ·have:f9.size=1:=rfl
  have:=cA f9
  have:=a6 f9
  refine sJ (rF d1 ([f9]:List ByteArray) 1 bP) fun x107 x108 h56=>?_
  dsimp only at h56
  have:=eJ (pString-1)
  refine sJ (h_sl11Expr x108 pa1 (aQ (pString-1)) bP bP) fun x110 x111 h57=>?_
  dsimp only at h57
  have:s_.size=0:=rfl
  have:=cA x110
  have:=(aU:wl ([]:List bJ)=0∧_)
  have:=aG.wt_mk 12 s_ s_ 0 x107 ([x110]:List aG) []
  exact oS
 refine Ok.lt fun d112 h58=>?_
 have:=DS.below_lt d1 (n:=20) (by decide)
 have:=eJ (((d1.below 20:Nat):Int)-5)
 exact KR (eV (aQ (((d1.below 20:Nat):Int)-5)) bP) fun x115 h59 h59B=>oS
theorem ZK(n:Nat):bZ fun fu=>EY n (kE fu):=by
 induction n with
 |zero=>exact .all fun fu=>fun _ _ _ h=>absurd h (Nat.not_lt_zero _)
 |succ n ih=>exact bZ.succ ((ih.and (((((bZ.ge 2147483648).and e9).and eV).and lX).and rF)).imp fun fu ⟨h,⟨⟨⟨⟨hfu,e9⟩,eV⟩,lX⟩,rF⟩⟩=>fun pq0 pa1 pString=>by rw [kE];exact V8 hfu e9 eV lX rF h pq0 pa1 pString)
theorem sB:bZ YF:=(ZK 100).imp fun fu h pq0 pa1 pString hpre=>h pq0 pa1 pString bP hpre
def aeM(fu:Nat):Prop:=Ok (yX fu) (fun r=>wt r≤3)
theorem pH:bZ aeM:=((bZ.ge 2147483648).and d2).imp fun fu ⟨hfu,d2⟩=>by
 have:fU.size=3:=rfl
 have:=(aU:wl ([]:List aA)=0∧_)
 exact oB (d2 fU ([]:List aA) bP) fun x2 h1=>oS
def YM(fu:Nat):Prop:= ∀(pq0:DS),Ok (GH fu pq0) (fun r=>wt r.1≤1000000)
theorem FM:bZ YM:=((((((((bZ.ge 2147483648).and eV).and pH).and eR).and d2).and rF).and lY).and sB).imp fun fu ⟨⟨⟨⟨⟨⟨⟨hfu,eV⟩,pH⟩,eR⟩,d2⟩,rF⟩,lY⟩,sB⟩ pq0=>by
 have:=R6
 have:=YU
 have:=ahX
 have:bH.size=4:=rfl
 have:tM.size=2:=rfl
 have:jP.size=3:=rfl
 have:=BO bH tM jP
 have:=a6 bH
 have:=a6 tM
 have:=a6 jP
 refine Ok.lt fun d1 h1=>Ok.lt fun y3 h2=>?_
 have:=congrArg wt h2
 simp only [a6] at this
 have:y3.size≤4:=by rw [h2];exact DS.pick_size _ (by decide) (by decide)
 refine Ok.lt fun d5 h3=>?_
 have:=DS.below_lt d1 (n:=9) (by decide)
 refine KR (eV ((d1.below 9:Nat):Int) bP) fun x8 h4 h4B=>?_;refine Ok.sok (E:=fun(v9,v10,v11,v12,v13,v14)=>wl v9≤10∧v11.size+wl v12≤100∧wl v13≤100) ?_ ?_
 ·refine Ok.lt fun d15 h6=>?_;refine oC (fun g7=>?_) fun g7=>?_
  ·refine oB (pH) fun x19 h8=>?_
   have:=aA.wt_eq x19
   have:=(aU:wl ([]:List ByteArray)=0∧_)
   have:=(aU:wl ([]:List aJ)=0∧_)
   exact oI
  refine oC (fun g9=>?_) fun g9=>?_
  ·have:f9.size=1:=rfl
   refine oB (eR f9) fun x22 h10=>?_
   have:cU.size=4:=rfl
   have:=cA x22
   refine oB (d2 cU ([x22]:List aA) bP) fun x24 h11=>?_
   have:=cA f9
   have:=a6 f9
   have:=aA.wt_eq x24
   have:=aJ.wt_mk y3 x22
   have:=cA (aJ.mk y3 x22)
   exact oI
  refine oC (fun g12=>?_) fun g12=>?_
  ·have:f9.size=1:=rfl
   refine oB (eR f9) fun x27 h13=>?_
   have:A0.size=1:=rfl
   refine oB (eR A0) fun x29 h14=>?_
   have:uC.size=4:=rfl
   have:=jO x27 x29
   refine oB (d2 uC ([x27,x29]:List aA) bP) fun x31 h15=>?_
   have:=jO f9 A0
   have:=a6 f9
   have:=a6 A0
   have:=aA.wt_eq x31
   have:=(aU:wl ([]:List aJ)=0∧_)
   exact oI
  have:f9.size=1:=rfl
  refine oB (eR f9) fun x33 h16=>?_
  have:=cA f9
  have:=a6 f9
  have:=aA.wt_eq x33
  have:kD.size=3:=rfl
  have:=aJ.wt_mk kD x33
  have:=cA (aJ.mk kD x33)
  exact oI
 rintro⟨v9,v10,v11,v12,v13,v14⟩ h5
 dsimp only at h5
 refine Ok.sok (E:=fun(v38,v35,v36,v37,v34)=>wl v38+v37.size≤5000) ?_ ?_
 ·refine Ok.lt fun d39 h18=>?_;refine oC (fun g19=>?_) fun g19=>?_
  ·refine sJ (rF d39 v9 1 bP) fun x43 x44 h20=>?_
   dsimp only at h20
   have:=aA.wt_eq x43
   exact oI
  have:s_.size=0:=rfl
  have:=(aU:wl ([]:List aA)=0∧_)
  exact oI
 rintro⟨v38,v35,v36,v37,v34⟩ h17
 dsimp only at h17
 refine Ok.lt fun d45 h21=>Ok.lt fun d47 h22=>?_;refine oC (fun g23=>?_) fun g23=>?_
 ·refine sJ (lY d47 2 bP) fun x51 x52 h24=>?_
  dsimp only at h24
  have:=DS.below_lt v34 (n:=4) (by decide)
  have:=aA.wt_mk v36 v37 v38
  have:eN.size=1:=rfl
  have:eI.size=1:=rfl
  have:=cA eI
  have:=a6 eI
  have:=aN.wt_mk eN ([eI]:List ByteArray) x8
  have:=cA (aN.mk eN ([eI]:List ByteArray) x8)
  have:=aH.wt_mk y3 v9 x51 v13 (decide (v34.below 4=0)) v35 (aA.mk v36 v37 v38) ([(aN.mk eN ([eI]:List ByteArray) x8)]:List aN)
  exact oS
 refine oC (fun g25=>?_) fun g25=>?_
 ·have:f9.size=1:=rfl
  have:s_c.size=1:=rfl
  have:=jO f9 s_c
  have:=a6 f9
  have:=a6 s_c
  refine Ok.lt fun d54 h26=>Ok.lt fun y56 h27=>?_
  have:=congrArg wt h27
  simp only [a6] at this
  have:y56.size≤1:=by rw [h27];exact DS.pick_size _ (by decide) (by decide)
  have:=aX (v9)
  have:=cA y56
  have:=a6 y56
  refine oG fun z28=>?_
  have:=bY v9 ([y56]:List ByteArray)
  have:=aA.wt_mk v10 v11 v12
  have:=DS.below_lt v34 (n:=4) (by decide)
  have:=aA.wt_mk v36 v37 v38
  have:eN.size=1:=rfl
  have:eI.size=1:=rfl
  have:=cA eI
  have:=a6 eI
  have:=aN.wt_mk eN ([eI]:List ByteArray) x8
  have:=cA (aN.mk eN ([eI]:List ByteArray) x8)
  have:=aH.wt_mk y3 (v9++([y56]:List ByteArray)) (aA.mk v10 v11 v12) v13 (decide (v34.below 4=0)) v35 (aA.mk v36 v37 v38) ([(aN.mk eN ([eI]:List ByteArray) x8)]:List aN)
  exact oS
 refine oC (fun g29=>?_) fun g29=>?_
 ·refine sJ (lY d47 1 bP) fun x61 x62 h30=>?_
  dsimp only at h30
  have:=aX (v13)
  have:=aJ.wt_mk tM x61
  have:=cA (aJ.mk tM x61)
  refine oG fun z31=>?_
  have:=aA.wt_mk v10 v11 v12
  have:=bY v13 ([(aJ.mk tM x61)]:List aJ)
  have:=DS.below_lt v34 (n:=4) (by decide)
  have:=aA.wt_mk v36 v37 v38
  have:eN.size=1:=rfl
  have:eI.size=1:=rfl
  have:=cA eI
  have:=a6 eI
  have:=aN.wt_mk eN ([eI]:List ByteArray) x8
  have:=cA (aN.mk eN ([eI]:List ByteArray) x8)
  have:=aH.wt_mk y3 v9 (aA.mk v10 v11 v12) (v13++([(aJ.mk tM x61)]:List aJ)) (decide (v34.below 4=0)) v35 (aA.mk v36 v37 v38) ([(aN.mk eN ([eI]:List ByteArray) x8)]:List aN)
  exact oS
 refine oC (fun g32=>?_) fun g32=>?_
 ·have:eI.size=1:=rfl
  have:oT.size=1:=rfl
  have:=jO eI oT
  have:=a6 eI
  have:=a6 oT
  refine sJ (sB d47 ([eI,oT]:List ByteArray) 2 bP) fun x66 x67 h33=>?_
  dsimp only at h33
  have:=aA.wt_mk v10 v11 v12
  have:=DS.below_lt v34 (n:=4) (by decide)
  have:=aA.wt_mk v36 v37 v38
  have:eN.size=1:=rfl
  have:=cA eI
  have:=aN.wt_mk eN ([eI]:List ByteArray) x66
  have:=cA (aN.mk eN ([eI]:List ByteArray) x66)
  have:=aH.wt_mk y3 v9 (aA.mk v10 v11 v12) v13 (decide (v34.below 4=0)) v35 (aA.mk v36 v37 v38) ([(aN.mk eN ([eI]:List ByteArray) x66)]:List aN)
  exact oS
 refine oC (fun g34=>?_) fun g34=>?_
 ·refine oB (pH) fun x70 h35=>?_
  have:=aA.wt_mk v10 v11 v12
  have:=DS.below_lt v34 (n:=4) (by decide)
  have:eN.size=1:=rfl
  have:eI.size=1:=rfl
  have:=cA eI
  have:=a6 eI
  have:=aN.wt_mk eN ([eI]:List ByteArray) x8
  have:=cA (aN.mk eN ([eI]:List ByteArray) x8)
  have:=aH.wt_mk y3 v9 (aA.mk v10 v11 v12) v13 (decide (v34.below 4=0)) v35 x70 ([(aN.mk eN ([eI]:List ByteArray) x8)]:List aN)
  exact oS
 refine oC (fun g36=>?_) fun g36=>?_
 ·have:=aA.wt_mk v10 v11 v12
  have:=DS.below_lt v34 (n:=4) (by decide)
  have:=aA.wt_mk v36 v37 v38
  have:eN.size=1:=rfl
  have:=(aU:wl ([]:List ByteArray)=0∧_)
  have:=aN.wt_mk eN ([]) x8
  have:=cA (aN.mk eN ([]) x8)
  have:=aH.wt_mk y3 v9 (aA.mk v10 v11 v12) v13 (decide (v34.below 4=0)) v35 (aA.mk v36 v37 v38) ([(aN.mk eN ([]) x8)]:List aN)
  exact oS
 have:=aA.wt_mk v10 v11 v12
 have:=DS.below_lt v34 (n:=4) (by decide)
 have:=aA.wt_mk v36 v37 v38
 have:eN.size=1:=rfl
 have:eI.size=1:=rfl
 have:=cA eI
 have:=a6 eI
 have:=aN.wt_mk eN ([eI]:List ByteArray) x8
 have:=cA (aN.mk eN ([eI]:List ByteArray) x8)
 have:=aH.wt_mk y3 v9 (aA.mk v10 v11 v12) v13 (decide (v34.below 4=0)) v35 (aA.mk v36 v37 v38) ([(aN.mk eN ([eI]:List ByteArray) x8)]:List aN)
 exact oS
def aeJ(fu:Nat):Prop:= ∀(pc:DS),Ok (ON fu pc) (fun r=>wt r.1≤2000000)
theorem NM:bZ aeJ:=((((((bZ.ge 2147483648).and eR).and pH).and e9).and lY).and sB).imp fun fu ⟨⟨⟨⟨⟨hfu,eR⟩,pH⟩,e9⟩,lY⟩,sB⟩ pc=>by
 have:=R6
 have:=YU
 have:=ag6 3 (by decide)
 have:s_f.size=1:=rfl
 have:s_g.size=1:=rfl
 have:=jO s_f s_g
 have:=a6 s_f
 have:=a6 s_g
 refine Ok.lt fun d1 h1=>Ok.lt fun y3 h2=>?_
 have:=congrArg wt h2
 simp only [a6] at this
 have:y3.size≤1:=by rw [h2];exact DS.pick_size _ (by decide) (by decide)
 have:f9.size=1:=rfl
 refine oB (eR f9) fun x6 h3=>oB (pH) fun x8 h4=>?_
 have:eI.size=1:=rfl
 refine KR (e9 eI) fun x10 h5 h5B=>Ok.lt fun d11 h6=>?_;refine oC (fun g7=>?_) fun g7=>?_
 ·refine sJ (lY d11 2 bP) fun x15 x16 h8=>?_
  dsimp only at h8
  have:=cA f9
  have:=a6 f9
  have:bH.size=4:=rfl
  have:=aJ.wt_mk bH x6
  have:=cA (aJ.mk bH x6)
  have:=aR.wt_mk eI x6
  have:=cA (aR.mk eI x6)
  have:eN.size=1:=rfl
  have:s_.size=0:=rfl
  have:=(aU:wl ([]:List aA)=0∧_)
  have:=aA.wt_mk 0 s_ []
  have:=cA x10
  have:=(aU:wl ([]:List bJ)=0∧_)
  have:=aG.wt_mk 5 bH eN 0 (aA.mk 0 s_ []) ([x10]:List aG) []
  have:=aI.wt_mk y3 ([f9]:List ByteArray) ([(aJ.mk bH x6)]:List aJ) ([(aR.mk eI x6)]:List aR) x15 (aG.mk 5 bH eN 0 (aA.mk 0 s_ []) ([x10]:List aG) [])
  exact oS
 refine oC (fun g9=>?_) fun g9=>?_
 ·have:oT.size=1:=rfl
  have:=jO eI oT
  have:=a6 eI
  have:=a6 oT
  refine Ok.lt fun d18 h10=>Ok.lt fun y20 h11=>?_
  have:=congrArg wt h11
  simp only [a6] at this
  have:y20.size≤1:=by rw [h11];exact DS.pick_size _ (by decide) (by decide)
  have:=aR.wt_mk eI x6
  have:=cA (aR.mk eI x6)
  have:=aR.wt_mk y20 x8
  have:=cA (aR.mk y20 x8)
  refine oG fun z12=>?_
  have:=cA f9
  have:=a6 f9
  have:bH.size=4:=rfl
  have:=aJ.wt_mk bH x6
  have:=cA (aJ.mk bH x6)
  have:=bY ([(aR.mk eI x6)]:List aR) ([(aR.mk y20 x8)]:List aR)
  have:eN.size=1:=rfl
  have:s_.size=0:=rfl
  have:=(aU:wl ([]:List aA)=0∧_)
  have:=aA.wt_mk 0 s_ []
  have:=cA x10
  have:=(aU:wl ([]:List bJ)=0∧_)
  have:=aG.wt_mk 5 bH eN 0 (aA.mk 0 s_ []) ([x10]:List aG) []
  have:=aI.wt_mk y3 ([f9]:List ByteArray) ([(aJ.mk bH x6)]:List aJ) (([(aR.mk eI x6)]:List aR)++([(aR.mk y20 x8)]:List aR)) x8 (aG.mk 5 bH eN 0 (aA.mk 0 s_ []) ([x10]:List aG) [])
  exact oS
 refine oC (fun g13=>?_) fun g13=>?_
 ·have:oT.size=1:=rfl
  have:=jO eI oT
  have:=a6 eI
  have:=a6 oT
  refine sJ (sB d11 ([eI,oT]:List ByteArray) 3 bP) fun x25 x26 h14=>?_
  dsimp only at h14
  have:=cA f9
  have:=a6 f9
  have:bH.size=4:=rfl
  have:=aJ.wt_mk bH x6
  have:=cA (aJ.mk bH x6)
  have:=aR.wt_mk eI x6
  have:=cA (aR.mk eI x6)
  have:=aI.wt_mk y3 ([f9]:List ByteArray) ([(aJ.mk bH x6)]:List aJ) ([(aR.mk eI x6)]:List aR) x8 x25
  exact oS
 refine oC (fun g15=>?_) fun g15=>?_
 ·refine sJ (lY d11 1 bP) fun x29 x30 h16=>?_
  dsimp only at h16
  have:=cA f9
  have:=a6 f9
  have:bH.size=4:=rfl
  have:=aJ.wt_mk bH x29
  have:=cA (aJ.mk bH x29)
  have:=aR.wt_mk eI x6
  have:=cA (aR.mk eI x6)
  have:eN.size=1:=rfl
  have:s_.size=0:=rfl
  have:=(aU:wl ([]:List aA)=0∧_)
  have:=aA.wt_mk 0 s_ []
  have:=cA x10
  have:=(aU:wl ([]:List bJ)=0∧_)
  have:=aG.wt_mk 5 bH eN 0 (aA.mk 0 s_ []) ([x10]:List aG) []
  have:=aI.wt_mk y3 ([f9]:List ByteArray) ([(aJ.mk bH x29)]:List aJ) ([(aR.mk eI x6)]:List aR) x8 (aG.mk 5 bH eN 0 (aA.mk 0 s_ []) ([x10]:List aG) [])
  exact oS
 refine oC (fun g17=>?_) fun g17=>?_
 ·have:s_.size=0:=rfl
  have:zU.size=2:=rfl
  have:=jO s_ zU
  have:=a6 s_
  have:=a6 zU
  refine Ok.lt fun d32 h18=>Ok.lt fun y34 h19=>?_
  have:=congrArg wt h19
  simp only [a6] at this
  have:y34.size≤2:=by rw [h19];exact DS.pick_size _ (by decide) (by decide)
  have:=cA f9
  have:=a6 f9
  have:bH.size=4:=rfl
  have:=aJ.wt_mk bH x6
  have:=cA (aJ.mk bH x6)
  have:=aR.wt_mk eI x6
  have:=cA (aR.mk eI x6)
  have:eN.size=1:=rfl
  have:=(aU:wl ([]:List aA)=0∧_)
  have:=aA.wt_mk 0 s_ []
  have:=cA x10
  have:=(aU:wl ([]:List bJ)=0∧_)
  have:=aG.wt_mk 5 bH eN 0 (aA.mk 0 s_ []) ([x10]:List aG) []
  have:=aI.wt_mk y34 ([f9]:List ByteArray) ([(aJ.mk bH x6)]:List aJ) ([(aR.mk eI x6)]:List aR) x8 (aG.mk 5 bH eN 0 (aA.mk 0 s_ []) ([x10]:List aG) [])
  exact oS
 have:=cA f9
 have:=a6 f9
 have:bH.size=4:=rfl
 have:=aJ.wt_mk bH x6
 have:=cA (aJ.mk bH x6)
 have:=aR.wt_mk eI x6
 have:=cA (aR.mk eI x6)
 have:eN.size=1:=rfl
 have:s_.size=0:=rfl
 have:=(aU:wl ([]:List aA)=0∧_)
 have:=aA.wt_mk 0 s_ []
 have:=cA x10
 have:=(aU:wl ([]:List bJ)=0∧_)
 have:=aG.wt_mk 5 bH eN 0 (aA.mk 0 s_ []) ([x10]:List aG) []
 have:=aI.wt_mk y3 ([f9]:List ByteArray) ([(aJ.mk bH x6)]:List aJ) ([(aR.mk eI x6)]:List aR) x8 (aG.mk 5 bH eN 0 (aA.mk 0 s_ []) ([x10]:List aG) [])
 exact oS
def U3(fu:Nat):Prop:= ∀(pq0:DS),Ok (B6 fu pq0) (fun r=>wt r.1≤10000)
theorem BI:bZ U3:=((((((bZ.ge 2147483648).and eR).and pH).and e9).and eV).and lX).imp fun fu ⟨⟨⟨⟨⟨hfu,eR⟩,pH⟩,e9⟩,eV⟩,lX⟩ pq0=>by
 have:iJ.size=4:=rfl
 refine oB (eR iJ) fun x2 h1=>?_
 have:bH.size=4:=rfl
 have:tM.size=2:=rfl
 have:jP.size=3:=rfl
 have:=BO bH tM jP
 have:=a6 bH
 have:=a6 tM
 have:=a6 jP
 refine Ok.lt fun d3 h2=>Ok.lt fun y5 h3=>?_
 have:=congrArg wt h3
 simp only [a6] at this
 have:y5.size≤4:=by rw [h3];exact DS.pick_size _ (by decide) (by decide)
 refine Ok.lt fun d7 h4=>oB (pH) fun x10 h5=>?_;refine oC (fun g6=>?_) fun g6=>?_
 ·refine oC (fun g7=>?_) fun g7=>?_
  ·refine Ok.lt fun d13 h8=>?_
   have:eI.size=1:=rfl
   refine KR (e9 eI) fun x17 h9 h9B=>KR (eV 1 bP) fun x19 h10 h10B=>?_
   have:wG.size=1:=rfl
   have:eN.size=1:=rfl
   have:s_.size=0:=rfl
   have:=(aU:wl ([]:List aA)=0∧_)
   have:=aA.wt_mk 0 s_ []
   have:=cA x17
   have:=(aU:wl ([]:List bJ)=0∧_)
   have:=aG.wt_mk 5 y5 eN 0 (aA.mk 0 s_ []) ([x17]:List aG) []
   have:=jO (aG.mk 5 y5 eN 0 (aA.mk 0 s_ []) ([x17]:List aG) []) x19
   refine oB (lX 10 wG ([(aG.mk 5 y5 eN 0 (aA.mk 0 s_ []) ([x17]:List aG) []),x19]:List aG) bP) fun x21 h11=>?_
   have:=(aU:wl ([]:List aG)=0∧_)
   have:=aG.wt_mk 0 s_ s_ 0 (aA.mk 0 s_ []) [] []
   have:=(aU:wl ([]:List ByteArray)=0∧_)
   have:=aE.wt_mk eN [] x10 false [] (aG.mk 0 s_ s_ 0 (aA.mk 0 s_ []) [] [])
   have:=cA (aE.mk eN [] x10 false [] (aG.mk 0 s_ s_ 0 (aA.mk 0 s_ []) [] []))
   have:e8.size=5:=rfl
   have:=cA x2
   have:oT.size=1:=rfl
   have:=jO eI oT
   have:=a6 eI
   have:=a6 oT
   have:=aE.wt_mk e8 ([x2]:List aA) x10 true ([eI,oT]:List ByteArray) x21
   have:=cA (aE.mk e8 ([x2]:List aA) x10 true ([eI,oT]:List ByteArray) x21)
   refine oG fun z12=>?_;refine Ok.sok (E:=fun v23=>wl v23≤10) ?_ ?_
   ·refine Ok.lt fun d24 h14=>?_;refine oC (fun g15=>?_) fun g15=>?_
    ·have:kD.size=3:=rfl
     have:=cA kD
     have:=a6 kD
     exact oI
    exact oI
   intro v23 h13
   refine Ok.lt fun d28 h16=>?_;refine oC (fun g17=>?_) fun g17=>?_
   ·have:A0.size=1:=rfl
    have:=jO iJ A0
    have:=a6 iJ
    have:=a6 A0
    refine Ok.lt fun d31 h18=>Ok.lt fun y33 h19=>?_
    have:=congrArg wt h19
    simp only [a6] at this
    have:y33.size≤4:=by rw [h19];exact DS.pick_size _ (by decide) (by decide)
    refine oB (eR y33) fun x36 h20=>?_
    have:=DS.below_lt d3 (n:=3) (by decide)
    have:=aA.wt_mk 0 s_ ([])
    have:=aG.wt_mk 0 s_ s_ 0 (aA.mk 0 s_ ([])) ([]) ([])
    have:=aE.wt_mk eN ([]) x36 false ([]) (aG.mk 0 s_ s_ 0 (aA.mk 0 s_ ([])) ([]) ([]))
    have:=jO (aE.mk eN ([]) x36 false ([]) (aG.mk 0 s_ s_ 0 (aA.mk 0 s_ ([])) ([]) ([]))) (aE.mk e8 ([x2]:List aA) x10 true ([eI,oT]:List ByteArray) x21)
    have:=aT.wt_mk y5 v23 false (decide (d3.below 3=0)) ([(aE.mk eN ([]) x36 false ([]) (aG.mk 0 s_ s_ 0 (aA.mk 0 s_ ([])) ([]) ([]))),(aE.mk e8 ([x2]:List aA) x10 true ([eI,oT]:List ByteArray) x21)]:List aE)
    exact oS
   have:=DS.below_lt d3 (n:=3) (by decide)
   have:=aA.wt_mk 0 s_ ([])
   have:=aG.wt_mk 0 s_ s_ 0 (aA.mk 0 s_ ([])) ([]) ([])
   have:=aE.wt_mk eN ([]) x10 true ([]) (aG.mk 0 s_ s_ 0 (aA.mk 0 s_ ([])) ([]) ([]))
   have:=jO (aE.mk eN ([]) x10 true ([]) (aG.mk 0 s_ s_ 0 (aA.mk 0 s_ ([])) ([]) ([]))) (aE.mk e8 ([x2]:List aA) x10 true ([eI,oT]:List ByteArray) x21)
   have:=aT.wt_mk y5 v23 false (decide (d3.below 3=0)) ([(aE.mk eN ([]) x10 true ([]) (aG.mk 0 s_ s_ 0 (aA.mk 0 s_ ([])) ([]) ([]))),(aE.mk e8 ([x2]:List aA) x10 true ([eI,oT]:List ByteArray) x21)]:List aE)
   exact oS
  refine Ok.lt fun d37 h21=>?_;refine Ok.sok (E:=fun v40=>wl v40≤10) ?_ ?_
  ·refine Ok.lt fun d41 h23=>?_;refine oC (fun g24=>?_) fun g24=>?_
   ·have:kD.size=3:=rfl
    have:=cA kD
    have:=a6 kD
    exact oI
   have:=(aU:wl ([]:List ByteArray)=0∧_)
   exact oI
  intro v40 h22
  refine Ok.lt fun d45 h25=>?_;refine oC (fun g26=>?_) fun g26=>?_
  ·have:A0.size=1:=rfl
   have:=jO iJ A0
   have:=a6 iJ
   have:=a6 A0
   refine Ok.lt fun d48 h27=>Ok.lt fun y50 h28=>?_
   have:=congrArg wt h28
   simp only [a6] at this
   have:y50.size≤4:=by rw [h28];exact DS.pick_size _ (by decide) (by decide)
   refine oB (eR y50) fun x53 h29=>?_
   have:=DS.below_lt d3 (n:=3) (by decide)
   have:eN.size=1:=rfl
   have:s_.size=0:=rfl
   have:=(aU:wl ([]:List aA)=0∧_)
   have:=aA.wt_mk 0 s_ []
   have:=(aU:wl ([]:List aG)=0∧_)
   have:=(aU:wl ([]:List bJ)=0∧_)
   have:=aG.wt_mk 0 s_ s_ 0 (aA.mk 0 s_ []) [] []
   have:=(aU:wl ([]:List ByteArray)=0∧_)
   have:=aE.wt_mk eN [] x53 false [] (aG.mk 0 s_ s_ 0 (aA.mk 0 s_ []) [] [])
   have:=cA (aE.mk eN [] x53 false [] (aG.mk 0 s_ s_ 0 (aA.mk 0 s_ []) [] []))
   have:=aT.wt_mk y5 v40 false (decide (d3.below 3=0)) ([(aE.mk eN [] x53 false [] (aG.mk 0 s_ s_ 0 (aA.mk 0 s_ []) [] []))]:List aE)
   exact oS
  have:=DS.below_lt d3 (n:=3) (by decide)
  have:eN.size=1:=rfl
  have:s_.size=0:=rfl
  have:=(aU:wl ([]:List aA)=0∧_)
  have:=aA.wt_mk 0 s_ []
  have:=(aU:wl ([]:List aG)=0∧_)
  have:=(aU:wl ([]:List bJ)=0∧_)
  have:=aG.wt_mk 0 s_ s_ 0 (aA.mk 0 s_ []) [] []
  have:=(aU:wl ([]:List ByteArray)=0∧_)
  have:=aE.wt_mk eN [] x10 true [] (aG.mk 0 s_ s_ 0 (aA.mk 0 s_ []) [] [])
  have:=cA (aE.mk eN [] x10 true [] (aG.mk 0 s_ s_ 0 (aA.mk 0 s_ []) [] []))
  have:=aT.wt_mk y5 v40 false (decide (d3.below 3=0)) ([(aE.mk eN [] x10 true [] (aG.mk 0 s_ s_ 0 (aA.mk 0 s_ []) [] []))]:List aE)
  exact oS
 refine Ok.sok (E:=fun v55=>wl v55≤1000∧0<v55.length) ?_ ?_
 ·refine Ok.lt fun d56 h31=>?_;refine oC (fun g32=>?_) fun g32=>?_
  ·have:eI.size=1:=rfl
   refine KR (e9 eI) fun x61 h33 h33B=>KR (eV 1 bP) fun x63 h34 h34B=>?_
   have:wG.size=1:=rfl
   have:eN.size=1:=rfl
   have:s_.size=0:=rfl
   have:=(aU:wl ([]:List aA)=0∧_)
   have:=aA.wt_mk 0 s_ []
   have:=cA x61
   have:=(aU:wl ([]:List bJ)=0∧_)
   have:=aG.wt_mk 5 y5 eN 0 (aA.mk 0 s_ []) ([x61]:List aG) []
   have:=jO (aG.mk 5 y5 eN 0 (aA.mk 0 s_ []) ([x61]:List aG) []) x63
   refine oB (lX 10 wG ([(aG.mk 5 y5 eN 0 (aA.mk 0 s_ []) ([x61]:List aG) []),x63]:List aG) bP) fun x65 h35=>?_
   have:=(aU:wl ([]:List aG)=0∧_)
   have:=aG.wt_mk 0 s_ s_ 0 (aA.mk 0 s_ []) [] []
   have:=(aU:wl ([]:List ByteArray)=0∧_)
   have:=aE.wt_mk eN [] x10 false [] (aG.mk 0 s_ s_ 0 (aA.mk 0 s_ []) [] [])
   have:=cA (aE.mk eN [] x10 false [] (aG.mk 0 s_ s_ 0 (aA.mk 0 s_ []) [] []))
   have:e8.size=5:=rfl
   have:=cA x2
   have:oT.size=1:=rfl
   have:=jO eI oT
   have:=a6 eI
   have:=a6 oT
   have:=aE.wt_mk e8 ([x2]:List aA) x10 true ([eI,oT]:List ByteArray) x65
   have:=cA (aE.mk e8 ([x2]:List aA) x10 true ([eI,oT]:List ByteArray) x65)
   refine oG fun z36=>?_
   have:=bY ([(aE.mk eN [] x10 false [] (aG.mk 0 s_ s_ 0 (aA.mk 0 s_ []) [] []))]:List aE) ([(aE.mk e8 ([x2]:List aA) x10 true ([eI,oT]:List ByteArray) x65)]:List aE)
   exact oI
  have:eN.size=1:=rfl
  have:s_.size=0:=rfl
  have:=(aU:wl ([]:List aA)=0∧_)
  have:=aA.wt_mk 0 s_ []
  have:=(aU:wl ([]:List aG)=0∧_)
  have:=(aU:wl ([]:List bJ)=0∧_)
  have:=aG.wt_mk 0 s_ s_ 0 (aA.mk 0 s_ []) [] []
  have:=(aU:wl ([]:List ByteArray)=0∧_)
  have:=aE.wt_mk eN [] x10 false [] (aG.mk 0 s_ s_ 0 (aA.mk 0 s_ []) [] [])
  have:=cA (aE.mk eN [] x10 false [] (aG.mk 0 s_ s_ 0 (aA.mk 0 s_ []) [] []))
  exact oI
 intro v55 h30
 refine Ok.sok (E:=fun v67=>wl v67≤10) ?_ ?_
 ·refine Ok.lt fun d68 h38=>?_;refine oC (fun g39=>?_) fun g39=>?_
  ·have:kD.size=3:=rfl
   have:=cA kD
   have:=a6 kD
   exact oI
  have:=(aU:wl ([]:List ByteArray)=0∧_)
  exact oI
 intro v67 h37
 refine Ok.lt fun d72 h40=>?_;refine oC (fun g41=>?_) fun g41=>?_
 ·have:=DS.below_lt d3 (n:=3) (by decide)
  have:=aT.wt_mk y5 v67 true (decide (d3.below 3=0)) v55
  exact oS
 refine oC (fun g42=>?_) fun g42=>?_
 ·have:s_.size=0:=rfl
  have:fU.size=3:=rfl
  have:s_A.size=1:=rfl
  have:=BO s_ fU s_A
  have:=a6 s_
  have:=a6 fU
  have:=a6 s_A
  refine Ok.lt fun d76 h43=>Ok.lt fun y78 h44=>?_
  have:=congrArg wt h44
  simp only [a6] at this
  have:y78.size≤3:=by rw [h44];exact DS.pick_size _ (by decide) (by decide)
  have:=DS.below_lt d3 (n:=3) (by decide)
  have:=aT.wt_mk y78 v67 false (decide (d3.below 3=0)) v55
  exact oS
 refine oC (fun g45=>?_) fun g45=>?_
 ·have:=aX (v67)
  have:kD.size=3:=rfl
  have:=cA kD
  have:=a6 kD
  refine oG fun z46=>?_
  have:=bY v67 ([kD]:List ByteArray)
  have:=DS.below_lt d3 (n:=3) (by decide)
  have:=aT.wt_mk y5 (v67++([kD]:List ByteArray)) false (decide (d3.below 3=0)) v55
  exact oS
 refine oC (fun g47=>?_) fun g47=>?_
 ·have:=aX (v55)
  refine oG fun z48=>?_
  have:=cN v55 0 z48
  have:wl (List.take 1 v55)=wl (List.take 0 v55)+wt (a3 v55 0)+1:=EW v55 0 z48
  refine Ok.lt fun y84 h49=>?_
  have:=congrArg wt h49
  have:=cA y84
  refine oG fun z50=>?_
  have:=DS.below_lt d3 (n:=3) (by decide)
  have:=bY v55 ([y84]:List aE)
  have:=aT.wt_mk y5 v67 false (decide (d3.below 3=0)) (v55++([y84]:List aE))
  exact oS
 have:=DS.below_lt d3 (n:=3) (by decide)
 have:=aT.wt_mk y5 v67 false (decide (d3.below 3=0)) v55
 exact oS
def YL(fu:Nat):Prop:= ∀(pc:DS),Ok (GG fu pc) (fun r=>wt r.1≤10000)
theorem FL:bZ YL:=((((bZ.ge 2147483648).and eR).and d2).and lY).imp fun fu ⟨⟨⟨hfu,eR⟩,d2⟩,lY⟩ pc=>by
 have:=R6
 have:=YU
 have:f9.size=1:=rfl
 refine oB (eR f9) fun x2 h1=>?_
 have:cU.size=4:=rfl
 have:=cA x2
 refine oB (d2 cU ([x2]:List aA) bP) fun x4 h2=>Ok.lt fun d5 h3=>?_;refine oC (fun g4=>?_) fun g4=>?_
 ·have:A0.size=1:=rfl
  have:=jO f9 A0
  have:=a6 f9
  have:=a6 A0
  refine Ok.lt fun d8 h5=>Ok.lt fun y10 h6=>?_
  have:=congrArg wt h6
  simp only [a6] at this
  have:y10.size≤1:=by rw [h6];exact DS.pick_size _ (by decide) (by decide)
  have:=cA f9
  have:=cA y10
  have:=a6 y10
  refine oG fun z7=>?_
  have:=bY ([f9]:List ByteArray) ([y10]:List ByteArray)
  have:fJ.size=3:=rfl
  have:=(aU:wl ([]:List aA)=0∧_)
  have:=aD.wt_mk fJ []
  have:cG.size=4:=rfl
  have:=jO x2 x4
  have:=aD.wt_mk cG ([x2,x4]:List aA)
  have:=jO (aD.mk fJ []) (aD.mk cG ([x2,x4]:List aA))
  have:=aL.wt_mk cU (([f9]:List ByteArray)++([y10]:List ByteArray)) ([(aD.mk fJ []),(aD.mk cG ([x2,x4]:List aA))]:List aD)
  exact oS
 refine oC (fun g8=>?_) fun g8=>?_
 ·refine Ok.lt fun d14 h9=>?_
  have:=DS.below_lt d5 (n:=2) (by decide)
  have:fJ.size=3:=rfl
  have:=(aU:wl ([]:List aA)=0∧_)
  have:=aD.wt_mk fJ []
  have:cG.size=4:=rfl
  have:=jO x2 x4
  have:=aD.wt_mk cG ([x2,x4]:List aA)
  have:=jO (aD.mk fJ []) (aD.mk cG ([x2,x4]:List aA))
  refine oG fun z10=>?_
  have:=cA f9
  have:=a6 f9
  have:=MS (0:Int).toNat (((d5.below 2:Nat):Int):Int).toNat ([(aD.mk fJ []),(aD.mk cG ([x2,x4]:List aA))]:List aD)
  have:=aL.wt_mk cU ([f9]:List ByteArray) (List.drop (0:Int).toNat (List.take (((d5.below 2:Nat):Int):Int).toNat ([(aD.mk fJ []),(aD.mk cG ([x2,x4]:List aA))]:List aD)))
  exact oS
 refine oC (fun g11=>?_) fun g11=>?_
 ·refine sJ (lY d5 2 bP) fun x19 x20 h12=>?_
  dsimp only at h12
  have:=cA f9
  have:=a6 f9
  have:fJ.size=3:=rfl
  have:=cA x19
  have:=aD.wt_mk fJ ([x19]:List aA)
  have:cG.size=4:=rfl
  have:=jO x2 x4
  have:=aD.wt_mk cG ([x2,x4]:List aA)
  have:=jO (aD.mk fJ ([x19]:List aA)) (aD.mk cG ([x2,x4]:List aA))
  have:=aL.wt_mk cU ([f9]:List ByteArray) ([(aD.mk fJ ([x19]:List aA)),(aD.mk cG ([x2,x4]:List aA))]:List aD)
  exact oS
 refine oC (fun g13=>?_) fun g13=>?_
 ·have:cG.size=4:=rfl
  have:s_.size=0:=rfl
  have:OH.size=3:=rfl
  have:=BO cG s_ OH
  have:=a6 cG
  have:=a6 s_
  have:=a6 OH
  refine Ok.lt fun d22 h14=>Ok.lt fun y24 h15=>?_
  have:=congrArg wt h15
  simp only [a6] at this
  have:y24.size≤4:=by rw [h15];exact DS.pick_size _ (by decide) (by decide)
  have:=cA f9
  have:=a6 f9
  have:=(aU:wl ([]:List aA)=0∧_)
  have:=aD.wt_mk y24 []
  have:=jO x2 x4
  have:=aD.wt_mk cG ([x2,x4]:List aA)
  have:=jO (aD.mk y24 []) (aD.mk cG ([x2,x4]:List aA))
  have:=aL.wt_mk cU ([f9]:List ByteArray) ([(aD.mk y24 []),(aD.mk cG ([x2,x4]:List aA))]:List aD)
  exact oS
 have:=cA f9
 have:=a6 f9
 have:fJ.size=3:=rfl
 have:=(aU:wl ([]:List aA)=0∧_)
 have:=aD.wt_mk fJ []
 have:cG.size=4:=rfl
 have:=jO x2 x4
 have:=aD.wt_mk cG ([x2,x4]:List aA)
 have:=jO (aD.mk fJ []) (aD.mk cG ([x2,x4]:List aA))
 have:=aL.wt_mk cU ([f9]:List ByteArray) ([(aD.mk fJ []),(aD.mk cG ([x2,x4]:List aA))]:List aD)
 exact oS
def acK(fu:Nat):Prop:= ∀(pq0:DS),Ok (J5 fu pq0) (fun r=>wt r.1≤12000000)
theorem I1:bZ acK:=(((((bZ.ge 2147483648).and BI).and FL).and FM).and NM).imp fun fu ⟨⟨⟨⟨hfu,BI⟩,FL⟩,FM⟩,NM⟩ pq0=>by
 refine Ok.lt fun d1 h1=>?_
 have:=DS.below_lt pq0 (n:=5) (by decide)
 have:=(aU:wl ([]:List aT)=0∧_)
 have:=(aU:wl ([]:List aL)=0∧_)
 have:=(aU:wl ([]:List aH)=0∧_)
 have:=(aU:wl ([]:List aI)=0∧_)
 refine Ok.sok (E:=fun(v9,v10,v11,v12,v4)=>wl v9+wl v10+wl v11+wl v12≤10000005) ?_ ?_
 ·refine Ok.loop0 (fun i3 (v9,v10,v11,v12,v4)=>wl v9+wl v10+wl v11+wl v12≤2000001*i3∧i3≤5) (by exact bP) (by rintro i3 ⟨v9,v10,v11,v12,v4⟩-hI;(try dsimp only at hI ⊢);omega) ?_;rintro i3 ⟨v9,v10,v11,v12,v4⟩ hl3 hI4
  dsimp only at hI4
  refine Ok.lt fun d15 h5=>?_;refine oC (fun g6=>?_) fun g6=>?_
  ·refine sJ (BI d15) fun x19 x20 h7=>?_
   dsimp only at h7
   have:=aX (v9)
   have:=cA x19
   refine oG fun z8=>?_
   have:=bY v9 ([x19]:List aT)
   exact nN
  refine oC (fun g9=>?_) fun g9=>?_
  ·refine sJ (FL d15) fun x24 x25 h10=>?_
   dsimp only at h10
   have:=aX (v10)
   have:=cA x24
   refine oG fun z11=>?_
   have:=bY v10 ([x24]:List aL)
   exact nN
  refine oC (fun g12=>?_) fun g12=>?_
  ·refine sJ (FM d15) fun x29 x30 h13=>?_
   dsimp only at h13
   have:=aX (v11)
   have:=cA x29
   refine oG fun z14=>?_
   have:=bY v11 ([x29]:List aH)
   exact nN
  refine sJ (NM d15) fun x33 x34 h15=>?_
  dsimp only at h15
  have:=aX (v12)
  have:=cA x33
  refine oG fun z16=>?_
  have:=bY v12 ([x33]:List aI)
  exact nN
 rintro⟨v9,v10,v11,v12,v4⟩ h2
 dsimp only at h2
 refine Ok.lt fun d36 h17=>?_;refine oC (fun g18=>?_) fun g18=>?_
 ·have:s_.size=0:=rfl
  have:fQ.size=4:=rfl
  have:=jO s_ fQ
  have:=a6 s_
  have:=a6 fQ
  refine Ok.lt fun d39 h19=>Ok.lt fun y41 h20=>?_
  have:=congrArg wt h20
  simp only [a6] at this
  have:y41.size≤4:=by rw [h20];exact DS.pick_size _ (by decide) (by decide)
  have:=cA fQ
  have:=aK.wt_mk y41 ([fQ]:List ByteArray) v9 v10 v11 v12
  exact oS
 refine oC (fun g21=>?_) fun g21=>?_
 ·have:fQ.size=4:=rfl
  have:s_q.size=1:=rfl
  have:YE.size=1:=rfl
  have:=BO fQ s_q YE
  have:=a6 fQ
  have:=a6 s_q
  have:=a6 YE
  refine Ok.lt fun d44 h22=>Ok.lt fun y46 h23=>?_
  have:=congrArg wt h23
  simp only [a6] at this
  have:y46.size≤4:=by rw [h23];exact DS.pick_size _ (by decide) (by decide)
  have:=cA fQ
  have:=cA y46
  have:=a6 y46
  refine oG fun z24=>?_
  have:=bY ([fQ]:List ByteArray) ([y46]:List ByteArray)
  have:=aK.wt_mk YE (([fQ]:List ByteArray)++([y46]:List ByteArray)) v9 v10 v11 v12
  exact oS
 have:YE.size=1:=rfl
 have:fQ.size=4:=rfl
 have:=cA fQ
 have:=a6 fQ
 have:=aK.wt_mk YE ([fQ]:List ByteArray) v9 v10 v11 v12
 exact oS
def VD(fu:Nat):Prop:= ∀(pc:DS),Ok (wW fu pc) (fun r=>wt r.1≤13000000)
theorem VQ:bZ VD:=(((bZ.ge 2147483648).and FQ).and I1).imp fun fu ⟨⟨hfu,FQ⟩,I1⟩ pc=>by
 refine sJ (FQ pc) fun x2 x3 h1=>?_
 dsimp only at h1
 refine Ok.lt fun d4 h2=>?_;refine oC (fun g3=>?_) fun g3=>?_
 ·refine sJ (I1 d4) fun x8 x9 h4=>?_
  dsimp only at h4
  have:=aO.wt_eq x2
  have:=aX (x2.gPackages)
  have:=cA x8
  refine oG fun z5=>?_
  have:=bY x2.gPackages ([x8]:List aK)
  have:=aO.wt_mk (x2.gPackages++([x8]:List aK))
  exact oS
 have:=aO.wt_eq x2
 have:=aO.wt_mk x2.gPackages
 exact oS
end Go.Proofs.YtpioomclpaiomaaGreat.W

namespace Go.Proofs.YtpioomclpaiomaaGreat.W
set_option linter.unusedSimpArgs false
set_option linter.unusedVariables false
open Go.RowKit Go.WalkArith Go.Proofs
attribute [local irreducible] lt
theorem UW{x:Int}(h0: -1≤x)(h1:x<9223372036854775807):aQ x=x:=by
 unfold aQ IntKind.wrap
 simp [IntKind.bits,IntKind.signed]
 omega
section
variable {β γ σ:Type}
end
def aO.small(w:aO)(N:Nat):Prop:= ∀i,i<w.gPackages.length→(a3 w.gPackages i).gTraits.length<N∧(a3 w.gPackages i).gDataTypes.length<N∧(a3 w.gPackages i).gInstances.length<N
def vN(w:aO)(o:aC):Prop:= ∃i k:Nat,o=aC.mk (i:Int) (k:Int)∧i<w.gPackages.length∧k<(a3 w.gPackages i).gInstances.length
def dR(w:aO)(o:aC):aH:=a3 (a3 w.gPackages o.gPackage.toNat).gInstances o.gAt.toNat
theorem HK(fu:Nat)(w:aO)(o:aC)(ho:vN w o):kP fu w o=some (dR w o,true):=by
 obtain⟨i,k,rfl,hi,hk⟩:=ho
 unfold kP
 refine uL (decide_eq_false (by show ¬((i:Int)<0);omega)) (uL (decide_eq_false (by show ¬((i:Int)≥_);omega)) (uL (decide_eq_false (by show ¬((k:Int)<0);omega)) (uG (by show 0≤(i:Int)∧(i:Int).toNat<_;omega) (ltE rfl (uL (decide_eq_false (by show ¬((k:Int)≥((a3 w.gPackages i).gInstances.length:Int));omega)) (uG (by show 0≤(k:Int)∧(k:Int).toNat<(a3 w.gPackages i).gInstances.length;omega) (ltE rfl rfl)))))))
theorem V5(fu:Nat)(w:aO)(o:aC)(ho:vN w o)(h1:w.gPackages.length≤13000000)(h2: ∀i,i<w.gPackages.length→(a3 w.gPackages i).gInstances.length≤13000000):mT fu w o=some (dR w o,true):=by
 obtain⟨i,k,rfl,hi,hk⟩:=ho
 have h3:=h2 i hi
 have e1: ∀(x n:Nat),x<n→n≤13000000→kZ fu (x:Int) 0 (aQ ((n:Int)-1))=some true:=fun x n hx hn=>by
  unfold kZ
  rw [UW (by omega) (by omega)]
  exact EV (decide_eq_true (by omega)) (by rw [decide_eq_true (by omega)])
 unfold mT
 rw [show kZ fu (aC.mk (i:Int) (k:Int)).gPackage 0 (aQ ((w.gPackages.length:Int)-1))=some true from e1 i _ hi h1]
 refine uG (by show 0≤(i:Int)∧(i:Int).toNat<_;omega) (ltE rfl ?_)
 rw [show kZ fu (aC.mk (i:Int) (k:Int)).gAt 0 (aQ (((a3 w.gPackages (aC.mk (i:Int) (k:Int)).gPackage.toNat).gInstances.length:Int)-1))=some true from e1 k _ hk h3]
 exact uG (by show 0≤(k:Int)∧(k:Int).toNat<(a3 w.gPackages i).gInstances.length;omega) (ltE rfl rfl)
def JA(w:aO)(i:Nat):List aC:=(List.range' 0 (a3 w.gPackages i).gInstances.length).map fun(k:Nat)=>aC.mk (i:Int) (k:Int)
def dT(w:aO):List aC:=(List.range' 0 w.gPackages.length).flatMap (JA w)
theorem MO{w:aO}{o:aC}(h:o∈dT w):vN w o:=by
 obtain⟨i,hi,ho⟩:=List.mem_flatMap.1 h
 obtain⟨k,hk,rfl⟩:=List.mem_map.1 ho
 rw [List.mem_range'_1] at hi hk
 exact⟨i,k,rfl,by omega,by omega⟩
section
variable {α β:Type}
theorem RB{F:Nat→List α→Option (LR (List α) β)}{n M:Nat}{g:Nat→α}(hs: ∀j v,j<n→v.length+1≤M→F j v=some (.next (v++ [g j]))):
 ∀k j (v:List α),n-j=k→v.length+k≤M→loopN F k j v=some (.inr (v++(List.range' j k).map g))
 |0,j,v,hk,_=>by rw [loopN];simp
 |k+1,j,v,hk,hl=>by
  rw [loopN,hs j v (by omega) (by omega)]
  have h:=RB hs k (j+1) (v++ [g j]) (by omega) (by rw [List.length_append];simp only [List.length_singleton];omega)
  rw [List.append_assoc] at h
  rw [List.range'_succ,List.map_cons]
  exact h
theorem RD{F:List α×Int→Option (LR (List α×Int) β)}{n M:Nat}{g:Nat→α}(hs: ∀(j:Nat) v,j<n→v.length+1≤M→F (v,(j:Int))=some (.next (v++ [g j],((j+1:Nat):Int))))(he: ∀v,F (v,(n:Int))=some (.brk (v,(n:Int)))):
 ∀k j fu (v:List α),n-j=k→j≤n→k<fu→v.length+k≤M→loopW F fu (v,(j:Int))=some (.inr (v++(List.range' j k).map g,(n:Int)))
 |0,j,fu,v,hk,hj,hf,_=>by
  obtain⟨f,rfl⟩: ∃f,fu=f+1:=⟨fu-1,by omega⟩
  obtain rfl:j=n:=by omega
  rw [loopW,he]
  simp
 |k+1,j,fu,v,hk,hj,hf,hl=>by
  obtain⟨f,rfl⟩: ∃f,fu=f+1:=⟨fu-1,by omega⟩
  rw [loopW,hs j v (by omega) (by omega)]
  have h:=RD hs he k (j+1) f (v++ [g j]) (by omega) (by omega) (by omega) (by rw [List.length_append];simp only [List.length_singleton];omega)
  rw [List.append_assoc] at h
  rw [List.range'_succ,List.map_cons]
  exact h
theorem sF{F:Nat→List α→Option (LR (List α) β)}{n M:Nat}{g:Nat→List α}(hs: ∀j v,j<n→v.length+(g j).length≤M→F j v=some (.next (v++g j))):
 ∀k j (v:List α),n-j=k→v.length+((List.range' j k).flatMap g).length≤M→loopN F k j v=some (.inr (v++(List.range' j k).flatMap g))
 |0,j,v,hk,_=>by rw [loopN];simp
 |k+1,j,v,hk,hl=>by
  rw [List.range'_succ,List.flatMap_cons,List.length_append] at hl
  rw [loopN,hs j v (by omega) (by omega)]
  have h:=sF hs k (j+1) (v++g j) (by omega) (by rw [List.length_append];omega)
  rw [List.range'_succ,List.flatMap_cons,← List.append_assoc]
  exact h
end
theorem FT(w:aO)(i:Nat):(JA w i).length=(a3 w.gPackages i).gInstances.length:=by
 unfold JA
 rw [List.length_map,List.length_range']
theorem abY(fu:Nat)(w:aO)(hw:(dT w).length≤68719476736):mZ fu w=some (dT w):=by
 have h:=sF (F:=r8 fu w) (g:=JA w) (n:=w.gPackages.length) (M:=68719476736) (fun i v hi hv=>by
  rw [FT] at hv
  have h2:=RB (F:=yI fu w i v (a3 w.gPackages i)) (g:=fun(k:Nat)=>aC.mk (i:Int) (k:Int)) (n:=(a3 w.gPackages i).gInstances.length) (M:=68719476736) (fun k u hk hu=>uG hu rfl) _ 0 v rfl hv
  unfold r8 yK
  refine ltE rfl ?_
  rw [h2]
  rfl) _ 0 [] rfl (by rw [List.length_nil,Nat.zero_add];exact hw)
 unfold mZ yJ
 rw [h]
 rfl
theorem ab7(fu:Nat)(w:aO)(hw:(dT w).length≤68719476736)(hf:aO.small w fu)(h2: ∀i,i<w.gPackages.length→(a3 w.gPackages i).gInstances.length≤13000000):pL fu w=some (dT w):=by
 have h:=sF (F:=sK fu w) (g:=JA w) (n:=w.gPackages.length) (M:=68719476736) (fun i v hi hv=>by
  rw [FT] at hv
  have h3:=h2 i hi
  have h2:=RD (F:=oP fu w i v) (g:=fun(k:Nat)=>aC.mk (i:Int) (k:Int)) (n:=(a3 w.gPackages i).gInstances.length) (M:=68719476736) (fun k u hk hu=>by
   unfold oP
   refine ltE rfl (EV (decide_eq_true (by omega)) (uG hu ?_))
   rw [UW (by omega) (by omega)]
   rfl) (fun u=>by
   unfold oP
   exact ltE rfl (uL (decide_eq_false (by omega)) rfl)) _ 0 fu v rfl (Nat.zero_le _) (hf i hi).2.2 hv
  unfold sK yQ
  refine(congrArg (fun o=>so o _) h2).trans ?_
  rfl) _ 0 [] rfl (by rw [List.length_nil,Nat.zero_add];exact hw)
 unfold pL yP
 rw [h]
 rfl
theorem aO.len_wt{w:aO}(hw:wt w≤13000000):w.gPackages.length≤13000000:=by
 have:=aO.wt_eq w
 have:=aX w.gPackages
 omega
theorem aO.len_at{w:aO}(hw:wt w≤13000000)(i:Nat)(hi:i<w.gPackages.length):(a3 w.gPackages i).gTraits.length≤13000000∧(a3 w.gPackages i).gDataTypes.length≤13000000∧(a3 w.gPackages i).gInstances.length≤13000000:=by
 have:=aO.wt_eq w
 have:=cN w.gPackages i hi
 have:=aK.wt_eq (a3 w.gPackages i)
 have:=aX (a3 w.gPackages i).gTraits
 have:=aX (a3 w.gPackages i).gDataTypes
 have:=aX (a3 w.gPackages i).gInstances
 omega
theorem aO.small_wt{w:aO}{fu:Nat}(hw:wt w≤13000000)(hf:13000000<fu):aO.small w fu:=fun i hi=>by
 have:=aO.len_at hw i hi
 omega
theorem abR(w:aO): ∀k j,w.gPackages.length-j=k→((List.range' j k).flatMap (JA w)).length≤wl (w.gPackages.drop j)
 |0,j,hk=>by simp
 |k+1,j,hk=>by
  have h:=abR w k (j+1) (by omega)
  have h1:=aK.wt_eq (a3 w.gPackages j)
  have h2:=aX (a3 w.gPackages j).gInstances
  rw [List.range'_succ,List.flatMap_cons,List.length_append,FT,vI (by omega),ag1]
  omega
theorem vG{w:aO}(hw:wt w≤13000000):(dT w).length≤13000000:=by
 have h:=abR w _ 0 rfl
 have:=aO.wt_eq w
 rw [List.drop_zero] at h
 unfold dT
 simp only [Nat.sub_zero] at h
 omega
end Go.Proofs.YtpioomclpaiomaaGreat.W

namespace Go.Proofs.YtpioomclpaiomaaGreat.W
set_option maxRecDepth 100000
set_option maxHeartbeats 40000000
noncomputable section
open Go.RowKit Go.Proofs
set_option linter.unusedSimpArgs false
set_option linter.unusedVariables false
attribute [local irreducible] lt
abbrev mC:=aA→aA→Option Bool
abbrev c6:=(List aA)→(List aA)→Option Bool
def q9(m:mC):Prop:= ∀(pa:aA) (pb:aA) (r:Bool),m pa pb=some r→cE Tryz.prog 124 [(aA.pv pa),(aA.pv pb)] (pB r:PV)
def gD(m:c6):Prop:= ∀(ps1:List aA) (ps2:List aA) (r:Bool),m ps1 ps2=some r→cE Tryz.prog 172 [a4 ps1,a4 ps2,.fn 124 []] (pB r:PV)
def zI(fu:Nat)(r_iEqualType:mC)(r_gEqualFunc_Type__iEqualType:c6)(pa pb:aA):Option Bool:=
 sw (decide ((pa.gKind:Int)=pb.gKind))
 (sw (decide (pa.gName=pb.gName))
 (bd (r_gEqualFunc_Type__iEqualType pa.gArgs pb.gArgs) (fun x4=>
 some x4))
 (some false))
 (some false)
theorem LA(fu:Nat)(r_iEqualType:mC)(r_gEqualFunc_Type__iEqualType:c6)(h_iEqualType:q9 r_iEqualType)(h_gEqualFunc_Type__iEqualType:gD r_gEqualFunc_Type__iEqualType):q9 (zI fu r_iEqualType r_gEqualFunc_Type__iEqualType):=by
 intro pa pb r H
 have H:=fI H
 refine qI Tryz.func124 (fun C hC=>?_)
 refine qS (qR (q1 (jU (dJ pa)) (q1 (jU (dJ pb)) (q1 aF (qN (qS (qR (q1 (a5 lD) (q1 (bG jQ) (q1 (a5 lD) (q1 (bG jQ) (q1 eM (q1 aF ?_)))))))))))))
 refine d9 10 H (fun g1 H=>?_) fun g1 H=>?_
 ·refine qg g1 (a5 jT) (qg g1 (bG fB) (qg g1 (a5 jT) (qg g1 (bG fB) (qg g1 GS (q1 (bR g1) (q1 aF ?_))))))
  refine d9 17 H (fun g2 H=>?_) fun g2 H=>?_
  ·refine qg g2 (a5 fV) (qg g2 (bG l5) (qg g2 (a5 fV) (qg g2 (bG l5) (bO H fun x4 z3 H=>(qg g2 (bI Tryz.func172 (h_gEqualFunc_Type__iEqualType pa.gArgs pb.gArgs _ z3)) (q1 (bR g2) (q1 aF (qN (aP.ret ?_)))))))))
   obtain rfl:_=r:=(aY H:)
   exact bM
  iterate 5 refine qk g2 ?_
  refine q1 (b5 g2) (q1 aF (qN (aP.ret ?_)))
  obtain rfl:_=r:=(aY H:)
  exact bM
 iterate 5 refine qk g1 ?_
 refine q1 (b5 g1) (q1 aF ?_)
 iterate 5 refine qk rfl ?_
 refine q1 (b5 rfl) (q1 aF (qN (aP.ret ?_)))
 obtain rfl:_=r:=(aY H:)
 exact bM
def iB(fu:Nat)(r_iEqualType:mC)(r_gEqualFunc_Type__iEqualType:c6)(ps1 ps2:List aA):Nat→Unit→Option (LR Unit Bool):=
 fun i2 _=>gd (i2<(ps2).length)
 (bd (r_iEqualType (a3 ps1 i2) (a3 ps2 i2)) (fun x7=>
 sw (!(x7))
 (some (.ret false))
 (some (.next ()))))
def iC(fu:Nat)(r_iEqualType:mC)(r_gEqualFunc_Type__iEqualType:c6)(ps1 ps2:List aA):Option (Bool⊕Unit):=
 loopN (iB fu r_iEqualType r_gEqualFunc_Type__iEqualType ps1 ps2) (ps1.length-0) 0 ()
def gC(fu:Nat)(r_iEqualType:mC)(r_gEqualFunc_Type__iEqualType:c6)(ps1 ps2:List aA):Option Bool:=
 sw (!decide ((((ps1.length:Nat):Int):Int)=((ps2.length:Nat):Int)))
 (some false)
 (so (iC fu r_iEqualType r_gEqualFunc_Type__iEqualType ps1 ps2) (fun _=>
 some true))
theorem q8(fu:Nat)(r_iEqualType:mC)(r_gEqualFunc_Type__iEqualType:c6)(h_iEqualType:q9 r_iEqualType)(h_gEqualFunc_Type__iEqualType:gD r_gEqualFunc_Type__iEqualType):gD (gC fu r_iEqualType r_gEqualFunc_Type__iEqualType):=by
 intro ps1 ps2 r H
 have H:=fI H
 refine qI Tryz.func172 (fun C hC=>?_)
 refine qS (qR (q1 aF (qN ?_)))
 iterate 2 refine qS ?_
 refine qR (q1 aF (q1 (eT dX (aA.trs_len _)) (q1 aF (q1 (eT dX (aA.trs_len _)) (q1 MM (qN ?_))))))
 refine bA H (fun h1 H=>?_) (fun h1 H=>?_)
 ·refine qS (qR (q1 aF (qN (aP.ret ?_))))
  obtain rfl:_=r:=(aY H:)
  exact bM
 refine aP.skip ?_
 iterate 2 refine qS ?_
 refine qR (q1 aF (q1 (eT dX (aA.trs_len _)) (q1 aF (qN ?_))))
 refine lR 0 (aA.trs_len _) (fun hl3=>?_)
 refine cM (σ:=Unit) (fun i2 _=>⟨[(1,a4 ps2),(2,.fn 124 []),(6,pB false),(15,a4 ps1),(16,pN ps1.length),(17,pN i2)],⟨[],[]⟩⟩) (fun _=>⟨[(6,pB false)],⟨[],[]⟩⟩) (gU H) ?_ ?_
 ·rintro i2 ⟨⟩ H
  refine qS (qR (q1 hZ (qN (qS ?_))))
  refine eW H (fun h4 h4l H=>?_) (fun h4 H=>?_)
  ·have h4n:=a8 h4
   refine aP.skip (qS (aP.block (qS (qR (q1 aF (q1 (iH h4n dX) (q1 (j0 (aA.cs (a3 ps1 i2)) cH) (q1 (iV gV) (q1 aF (q1 (bU hQ) (qN (qS (qR ?_)))))))))))))
   iterate 2 refine q1 aF ?_
   refine dF H fun z5 H=>(q1 (iH z5 dX) (q1 (j0 (aA.cs (a3 ps2 i2)) cH) (q1 (iV gV) (q1 (bU hQ) (qN (qS (qR (q1 aF (q1 (cV [pI ((a3 ps1 i2).gKind),pS ((a3 ps1 i2).gName),a4 ((a3 ps1 i2).gArgs)] cH) (q1 (cV [pI ((a3 ps2 i2).gKind),pS ((a3 ps2 i2).gName),a4 ((a3 ps2 i2).gArgs)] cH) (bO H fun x7 z6 H=>(q1 (rCv Tryz.func124 (h_iEqualType (a3 ps1 i2) (a3 ps2 i2) _ z6)) (q1 gT ?_)))))))))))))
   refine qN ?_;refine bA H (fun h8 H=>?_) (fun h8 H=>?_)
   ·refine qS (qR (q1 aF (qN (aP.ret ?_))))
    obtain rfl:_=r:=(rG (aY H):)
    exact bM
   refine aP.skip (qR (q1 (aV.addI rfl rfl rfl rfl (c:=((i2+1:Nat):Int)) (by omega) (by omega)) (q1 aF (qN ?_))))
   exact iY h4l ⟨_,(aY H:),b0⟩
  refine aP.exit ?_;exact lS ⟨_,H,b0⟩
 rintro⟨⟩ H
 refine qS (qR (q1 aF (qN (aP.ret ?_))))
 obtain rfl:_=r:=(aY H:)
 exact bM
mutual
def fW:Nat→aA→aA→Option Bool
 |0,_,_=>none
 |fu+1,pa,pb=>zI fu (fW fu) (bS fu) pa pb
def bS:Nat→(List aA)→(List aA)→Option Bool
 |0,_,_=>none
 |fu+1,ps1,ps2=>gC fu (fW fu) (bS fu) ps1 ps2
end
theorem NB(fu:Nat):q9 (fW fu)∧gD (bS fu):=by
 induction fu with
 |zero=>exact⟨(fun pa pb r H=>by simp only [fW] at H;cases H),(fun ps1 ps2 r H=>by simp only [bS] at H;cases H)⟩
 |succ fu ih=>exact⟨(fun pa pb r H=>by simp only [fW] at H;exact LA fu (fW fu) (bS fu) ih.1 ih.2 pa pb r H),(fun ps1 ps2 r H=>by simp only [bS] at H;exact q8 fu (fW fu) (bS fu) ih.1 ih.2 ps1 ps2 r H)⟩
theorem PW(fu:Nat):q9 (fW fu):=(NB fu).1
abbrev nV:=aA→Option aA
abbrev mD:=(List aA)→Option ((List aA))
def tE(m:nV):Prop:= ∀(pt:aA) (r:aA),m pt=some r→cE Tryz.prog 57 [(aA.pv pt)] ((aA.pv r):PV)
def uT(m:mD):Prop:= ∀(pl:List aA) (r:(List aA)),m pl=some r→cE Tryz.prog 119 [a4 pl] (a4 r:PV)
def BG(fu:Nat)(r_icopyType:nV)(r_icopyTypes:mD)(pt:aA):Option aA:=
 bd (r_icopyTypes pt.gArgs) (fun x2=>
 some (aA.mk pt.gKind pt.gName x2))
theorem NI(fu:Nat)(r_icopyType:nV)(r_icopyTypes:mD)(h_icopyType:tE r_icopyType)(h_icopyTypes:uT r_icopyTypes):tE (BG fu r_icopyType r_icopyTypes):=by
 intro pt r H
 have H:=fI H
 refine qI Tryz.func57 (fun C hC=>?_)
 refine qS (qR (q1 (jU (dJ pt)) (q1 (iV gV) (qN (qS (qR (q1 (a5 fV) (q1 (bG l5) (bO H fun x2 z1 H=>(q1 (bI Tryz.func119 (h_icopyTypes pt.gArgs _ z1)) (q1 (a5 fV) (q1 (bU ajH) (qN ?_)))))))))))))
 refine qS (qR (q1 (cV [pI pt.gKind,pS pt.gName,a4 x2] cH) (q1 (bU hQ) (qN (aP.ret ?_)))))
 obtain rfl:_=r:=(aY H:)
 exact bM (hr:=⟨⟨_,_,_,rfl,rfl,cH,rfl,rfl⟩,trivial⟩)
def EM(fu:Nat)(r_icopyType:nV)(r_icopyTypes:mD)(pl:List aA):Nat→((List aA))→Option (LR ((List aA)) ((List aA))):=
 fun i2 v3=>bd (r_icopyType (a3 pl i2)) (fun x7=>
 gd (i2=(v3).length)
 (some (.next (v3++([x7]:List aA)))))
def xD(fu:Nat)(r_icopyType:nV)(r_icopyTypes:mD)(pl:List aA):Option (((List aA))⊕((List aA))):=
 loopN (EM fu r_icopyType r_icopyTypes pl) (pl.length-0) 0 ([])
def zJ(fu:Nat)(r_icopyType:nV)(r_icopyTypes:mD)(pl:List aA):Option ((List aA)):=
 gd (pl.length≤68719476736)
 (so (xD fu r_icopyType r_icopyTypes pl) (fun v3=>
 gd ((v3).length=pl.length)
 (some v3)))
theorem LB(fu:Nat)(r_icopyType:nV)(r_icopyTypes:mD)(h_icopyType:tE r_icopyType)(h_icopyTypes:uT r_icopyTypes):uT (zJ fu r_icopyType r_icopyTypes):=by
 intro pl r H
 have H:=fI H
 refine qI Tryz.func119 (fun C hC=>?_)
 refine qS (qR (q1 aF (qN (qS (qR (q1 aF (q1 (eT dX (aA.trs_len _)) (dF H fun z1 H=>(q1 (aV.makeSlice (N:=pl.length) rfl rfl rfl rfl dX af5 (by decide) (Nat.le_trans (Nat.mul_le_mul_left _ z1) (by decide)) (Nat.le_trans z1 (by decide))) (q1 aF (qN ?_)))))))))))
 iterate 2 refine qS ?_
 refine qR (q1 aF (q1 (eT dX (aA.trs_len _)) (q1 aF (qN ?_))))
 refine lR 0 (aA.trs_len _) (fun hl4=>?_)
 refine cM (σ:=(List aA)) (fun i2 v3=>⟨[(2,.nil),(3,.full 3 (pl.length) 0),(9,a4 pl),(10,pN pl.length),(11,pN i2)],⟨[],[⟨35,3,aA.trs (v3),true⟩]⟩⟩) (fun v3=>⟨[(2,.nil),(3,.full 3 (pl.length) 0)],⟨[],[⟨35,3,aA.trs (v3),true⟩]⟩⟩) (gU H) ?_ ?_
 ·rintro i2 v3 H
  refine qS (qR (q1 hZ (qN (qS ?_))))
  refine eW H (fun h5 h5l H=>?_) (fun h5 H=>?_)
  ·have h5n:=a8 h5
   refine aP.skip (qS (aP.block (qS (qR (q1 aF (q1 (iH h5n dX) (q1 (j0 (aA.cs (a3 pl i2)) cH) (q1 (iV gV) (q1 aF (q1 (bU hQ) (qN (qR ?_))))))))))))
   iterate 2 refine q1 aF ?_
   refine q1 (cV [pI ((a3 pl i2).gKind),pS ((a3 pl i2).gName),a4 ((a3 pl i2).gArgs)] cH) (bO H fun x7 z6 H=>(q1 (bI Tryz.func57 (h_icopyType (a3 pl i2) _ z6)) (q1 (aV.indexFull (k:=i2) rfl rfl rfl rfl h5n dX) (dF H fun z8 H=>?_))))
   refine q1 (aV.storeRptr (e:=aA.cs x7) (es2:=aA.trs (v3++([x7]:List aA))) 16 rfl rfl rfl rfl rfl rfl lH rfl rfl hQ (by rw [aA.trs_len];exact z8) h5n (by rw [aA.trs_map,aA.trs_map,List.map_append];simp [aA.tr_cs])) ?_;refine qN (qR (q1 (aV.addI rfl rfl rfl rfl (c:=((i2+1:Nat):Int)) (by omega) (by omega)) (q1 aF (qN ?_))))
   exact iY h5l ⟨_,(aY H:),b0⟩
  refine aP.exit ?_;exact lS ⟨_,H,b0⟩
 rintro v3 H
 refine qS (qR (q1 aF (dF H fun z9 H=>?_)))
 refine AL.weak (Wk.full (i:=22) rfl rfl (by rw [aA.trs_len];exact z9)) ?_;refine q1 aF (qN (aP.ret ?_))
 obtain rfl:_=r:=(aY H:)
 exact bM
mutual
def hM:Nat→aA→Option aA
 |0,_=>none
 |fu+1,pt=>BG fu (hM fu) (iN fu) pt
def iN:Nat→(List aA)→Option ((List aA))
 |0,_=>none
 |fu+1,pl=>zJ fu (hM fu) (iN fu) pl
end
theorem PX(fu:Nat):tE (hM fu)∧uT (iN fu):=by
 induction fu with
 |zero=>exact⟨(fun pt r H=>by simp only [hM] at H;cases H),(fun pl r H=>by simp only [iN] at H;cases H)⟩
 |succ fu ih=>exact⟨(fun pt r H=>by simp only [hM] at H;exact NI fu (hM fu) (iN fu) ih.1 ih.2 pt r H),(fun pl r H=>by simp only [iN] at H;exact LB fu (hM fu) (iN fu) ih.1 ih.2 pl r H)⟩
theorem SJ(fu:Nat):tE (hM fu):=(PX fu).1
end
end Go.Proofs.YtpioomclpaiomaaGreat.W

namespace Go.Proofs.YtpioomclpaiomaaGreat
open Go.RowKit Go.Proofs
end Go.Proofs.YtpioomclpaiomaaGreat

namespace Go.Proofs.YtpioomclpaiomaaGreat
end Go.Proofs.YtpioomclpaiomaaGreat

namespace Go.Proofs.YtpioomclpaiomaaGreat
open Go.RowKit Go.Proofs
end Go.Proofs.YtpioomclpaiomaaGreat

namespace Go.Proofs.YtpioomclpaiomaaGreat
open Go.RowKit Go.Proofs
theorem A7(a:ByteArray):(a==a)=true:=by
 obtain⟨x⟩:=a
 show(x==x)=true
 simp
theorem GZ{a b:ByteArray}(h: ¬a=b):(a==b)=false:=by
 obtain⟨x⟩:=a
 obtain⟨y⟩:=b
 show(x==y)=false
 simp only [beq_eq_false_iff_ne,ne_eq]
 rintro rfl
 exact h rfl
mutual
def aA.eq:aA→aA→Bool
 | .mk k n xs,.mk l m ys=>k==l&&(n==m&&aA.eqs xs ys)
def aA.eqs:List aA→List aA→Bool
 | [],[]=>true
 |a::l,b::r=>aA.eq a b&&aA.eqs l r
 |_,_=>false
end
end Go.Proofs.YtpioomclpaiomaaGreat

namespace Go.Proofs.YtpioomclpaiomaaGreat.W
set_option linter.unusedSimpArgs false
set_option linter.unusedVariables false
open Go.RowKit Go.Proofs
theorem Q6{n i:Nat}(h:i<n):a3 (List.range n) i=i:=by rw [iW (by simpa using h)];simp
theorem R8: ∀ {l r:List aA},aA.eqs l r=true→l.length=r.length
 | [],[],_=>rfl
 | [],_::_,h=>by simp [aA.eqs] at h
 |_::_,[],h=>by simp [aA.eqs] at h
 |a::l,b::r,h=>by
  simp only [aA.eqs,Bool.and_eq_true] at h
  simp [R8 h.2]
theorem IN: ∀ {l r:List aA},l.length=r.length→aA.eqs l r=(List.range l.length).all fun i=>aA.eq (a3 l i) (a3 r i)
 | [],[],_=>rfl
 | [],_::_,h=>by simp at h
 |_::_,[],h=>by simp at h
 |a::l,b::r,h=>by
  rw [aA.eqs,List.length_cons,List.range_succ_eq_map,List.all_cons,List.all_map,IN (l:=l) (r:=r) (by simpa using h)]
  rfl
theorem aa9{xs ys:List aA}(h: ∀i,i<xs.length→i<ys.length→bZ fun fu=>eY fu (a3 xs i) (a3 ys i)=some (aA.eq (a3 xs i) (a3 ys i))):bZ fun fu=>jH fu xs ys=some (aA.eqs xs ys):=by
 refine bZ.succ ?_
 by_cases hl:xs.length=ys.length
 ·refine(bZ.below (k:=xs.length) fun i hi=>h i hi (by omega)).imp fun fu hf=>?_
  simp only [jH,yY]
  have hd:(!decide ((((xs.length:Nat):Int):Int)=((ys.length:Nat):Int)))=false:=by simp [hl]
  rw [hd]
  have hr: ∀fu',∀(r1:aA→aA→Option Bool),(∀i,i<xs.length→r1 (a3 xs i) (a3 ys i)=some (aA.eq (a3 xs i) (a3 ys i)))→GO fu' r1 (jH fu) xs ys=some (if(List.range xs.length).all (fun i=>aA.eq (a3 xs i) (a3 ys i)) then .inr () else .inl false):=by
   intro fu' r1 h1
   unfold GO
   have:=KN (l:=List.range xs.length) (f:=GN fu' r1 (jH fu) xs ys) (p:=fun i=>aA.eq (a3 xs i) (a3 ys i)) (r:=false) (s:=()) fun i hi=>by
    have hi':i<xs.length:=by simpa using hi
    rw [Q6 hi',GN]
    rw [uG (by omega) rfl,GY (h1 i hi') rfl]
    cases aA.eq (a3 xs i) (a3 ys i)<;>rfl
   rwa [List.length_range] at this
  rw [hr fu _ hf,IN hl]
  cases(List.range xs.length).all fun i=>aA.eq (a3 xs i) (a3 ys i)<;>rfl
 ·refine .all fun fu=>?_
  simp only [jH,yY]
  have hd:(!decide ((((xs.length:Nat):Int):Int)=((ys.length:Nat):Int)))=true:=by simp;omega
  rw [hd]
  cases hq:aA.eqs xs ys
  ·rfl
  ·exact absurd (R8 hq) hl
theorem P9: ∀a b:aA,bZ fun fu=>eY fu a b=some (aA.eq a b):=by
 refine aA.ind fun k n xs ih=>?_;rintro⟨l,m,ys⟩
 refine bZ.succ ((aa9 (xs:=xs) (ys:=ys) fun i hi hj=>ih _ (kL hi) _).imp fun fu hf=>?_)
 simp only [eY,uX,aA.gKind_mk,aA.gName_mk,aA.gArgs_mk,hf,aA.eq]
 by_cases h1:k=l
 ·subst h1
  by_cases h2:n=m
  ·subst h2
   simp [sw,bd,A7]
  ·simp [sw,h2,GZ]
 ·have:(k==l)=false:=by simpa using h1
  simp [sw,h1,this]
theorem QA(a b:aA):cE Tryz.prog 16 [(aA.pv a),(aA.pv b)] (.t (.leaf (.bool (aA.eq a b)))):=by
 obtain⟨fu,h⟩:=(P9 a b).get
 exact EP fu a b _ h
theorem PR{xs ys:List aA}(h: ∀i,i<xs.length→i<ys.length→bZ fun fu=>fW fu (a3 xs i) (a3 ys i)=some (aA.eq (a3 xs i) (a3 ys i))):bZ fun fu=>bS fu xs ys=some (aA.eqs xs ys):=by
 refine bZ.succ ?_
 by_cases hl:xs.length=ys.length
 ·refine(bZ.below (k:=xs.length) fun i hi=>h i hi (by omega)).imp fun fu hf=>?_
  simp only [bS,gC]
  have hd:(!decide ((((xs.length:Nat):Int):Int)=((ys.length:Nat):Int)))=false:=by simp [hl]
  rw [hd]
  have hr:iC fu (fW fu) (bS fu) xs ys=some (if(List.range xs.length).all (fun i=>aA.eq (a3 xs i) (a3 ys i)) then .inr () else .inl false):=by
   unfold iC
   have:=KN (l:=List.range xs.length) (f:=iB fu (fW fu) (bS fu) xs ys) (p:=fun i=>aA.eq (a3 xs i) (a3 ys i)) (r:=false) (s:=()) fun i hi=>by
    have hi':i<xs.length:=by simpa using hi
    rw [Q6 hi',iB]
    rw [uG (by omega) rfl,GY (hf i hi') rfl]
    cases aA.eq (a3 xs i) (a3 ys i)<;>rfl
   rwa [List.length_range] at this
  rw [hr,IN hl]
  cases(List.range xs.length).all fun i=>aA.eq (a3 xs i) (a3 ys i)<;>rfl
 ·refine .all fun fu=>?_
  simp only [bS,gC]
  have hd:(!decide ((((xs.length:Nat):Int):Int)=((ys.length:Nat):Int)))=true:=by simp;omega
  rw [hd]
  cases hq:aA.eqs xs ys
  ·rfl
  ·exact absurd (R8 hq) hl
theorem PT: ∀a b:aA,bZ fun fu=>fW fu a b=some (aA.eq a b):=by
 refine aA.ind fun k n xs ih=>?_;rintro⟨l,m,ys⟩
 refine bZ.succ ((PR (xs:=xs) (ys:=ys) fun i hi hj=>ih _ (kL hi) _).imp fun fu hf=>?_)
 simp only [fW,zI,aA.gKind_mk,aA.gName_mk,aA.gArgs_mk,hf,aA.eq]
 by_cases h1:k=l
 ·subst h1
  by_cases h2:n=m
  ·subst h2
   simp [sw,bd,A7]
  ·simp [sw,h2,GZ]
 ·have:(k==l)=false:=by simpa using h1
  simp [sw,h1,this]
theorem PU(a b:aA):cE Tryz.prog 124 [(aA.pv a),(aA.pv b)] (.t (.leaf (.bool (aA.eq a b)))):=by
 obtain⟨fu,h⟩:=(PT a b).get
 exact PW fu a b _ h
theorem NA{α:Type}: ∀(l a:List α),l.foldl (fun s x=>s++ [x]) a=a++l
 | [],a=>by simp
 |x::l,a=>by rw [List.foldl_cons,NA l];simp
theorem M5{xs:List aA}: ∀ {x:aA},x∈xs→Tr.bulkL x.tr≤Tr.bulkAll (aA.trs xs):=by
 induction xs with
 |nil=>intro x hx;simp at hx
 |cons a l ih=>
  intro x hx
  simp only [aA.trs,Tr.bulkAll]
  rcases List.mem_cons.1 hx with rfl|hx
  ·omega
  ·have:=ih hx;omega
theorem CJ(k:Int)(n:ByteArray)(xs:List aA):xs.length+Tr.bulkAll (aA.trs xs)≤Tr.bulkL (aA.mk k n xs).tr:=by
 simp only [aA.tr,Tr.bulkL_append,Tr.bulkL,Tr.bulk,aA.trs_len]
 omega
theorem UG{xs:List aA}(hb:xs.length≤68719476735)(h: ∀x∈xs,bZ fun fu=>iM fu x=some x):bZ fun fu=>jC fu xs=some xs:=by
 refine bZ.succ ((bZ.list h).imp fun fu hf=>?_)
 simp only [jC,wX,H6]
 rw [KO (l:=xs) (g:=fun s x=>s++ [x]) (fun i s=>s.length=i) (fun i s hi hp=>⟨?_,by simp [hp]⟩) rfl,NA]
 ·rfl
 ·rw [H5,GY (hf _ (kL hi)) rfl,uG (by simp;omega) rfl]
theorem aaX: ∀t:aA,Tr.bulkL t.tr≤68719476735→bZ fun fu=>iM fu t=some t:=by
 refine aA.ind fun k n xs ih hb=>?_
 have h1:=CJ k n xs
 refine bZ.succ ((UG (xs:=xs) (by omega) fun x hx=>ih x hx (by have:=M5 hx;omega)).imp fun fu hf=>?_)
 simp only [iM,C9,aA.gKind_mk,aA.gName_mk,aA.gArgs_mk,hf,bd]
theorem O4(t:aA)(hb:Tr.bulkL t.tr≤68719476735):cE Tryz.prog 60 [(aA.pv t)] (aA.pv t):=by
 obtain⟨fu,h⟩:=(aaX t hb).get
 exact O5 fu t _ h
theorem Y6{α β:Type}[Inhabited α]{f:Nat→List α→Option (LR (List α) β)}{l:List α}{g:α→α}(hs: ∀i s,i<l.length→s.length=i→f i s=some (.next (s++ [g (a3 l i)]))):loopN f (l.length-0) 0 []=some (.inr (l.map g)):=by
 rw [KO (l:=l) (g:=fun s x=>s++ [g x]) (fun i s=>s.length=i) (fun i s hi hp=>⟨hs i s hi hp,by simp [hp]⟩) rfl]
 have key: ∀(l a:List α),l.foldl (fun s x=>s++ [g x]) a=a++l.map g:=by
  intro l
  induction l with
  |nil=>intro a;simp
  |cons x l ih=>intro a;rw [List.foldl_cons,ih];simp
 rw [key,List.nil_append]
theorem PY{xs:List aA}(hb:xs.length≤68719476735)(h: ∀x∈xs,bZ fun fu=>hM fu x=some x):bZ fun fu=>iN fu xs=some xs:=by
 refine bZ.succ ((bZ.list h).imp fun fu hf=>?_)
 simp only [iN,zJ]
 rw [uG (by omega) rfl]
 have hR:xD fu (hM fu) (iN fu) xs=some (.inr xs):=by
  unfold xD
  rw [Y6 (l:=xs) (g:=id) fun i s hi hp=>?_,List.map_id]
  rw [EM,GY (hf _ (kL hi)) rfl,uG (by omega) rfl]
  rfl
 rw [soR hR rfl,uG rfl rfl]
theorem SI: ∀t:aA,Tr.bulkL t.tr≤68719476735→bZ fun fu=>hM fu t=some t:=by
 refine aA.ind fun k n xs ih hb=>?_
 have h1:=CJ k n xs
 refine bZ.succ ((PY (xs:=xs) (by omega) fun x hx=>ih x hx (by have:=M5 hx;omega)).imp fun fu hf=>?_)
 simp only [hM,BG,aA.gKind_mk,aA.gName_mk,aA.gArgs_mk,hf,bd]
theorem HJ(t:aA)(hb:Tr.bulkL t.tr≤68719476735):cE Tryz.prog 57 [(aA.pv t)] (aA.pv t):=by
 obtain⟨fu,h⟩:=(SI t hb).get
 exact SJ fu t _ h
end Go.Proofs.YtpioomclpaiomaaGreat.W

namespace Go.Proofs.YtpioomclpaiomaaGreat.W
set_option maxRecDepth 100000
set_option maxHeartbeats 40000000
noncomputable section
open Go.RowKit Go.Proofs
set_option linter.unusedSimpArgs false
set_option linter.unusedVariables false
attribute [local irreducible] lt
def adB(m:(List aM)→ByteArray→Option (aA×Bool)):Prop:= ∀(plist:List aM) (pv:ByteArray) (r:aA×Bool),m plist pv=some r→cE Tryz.prog 133 [n3 plist,pS pv] (.tup [(aA.pv r.1),pB r.2]:PV)
def N6(fu:Nat)(plist:List aM)(pv:ByteArray):Nat→Unit→Option (LR Unit (aA×Bool)):=
 fun i1 _=>sw (decide ((a3 plist i1).gVar=pv))
 (gd (Tr.bulkL (aA.tr ((a3 plist i1).gType))≤68719476735)
 (some (.ret (((a3 plist i1).gType),true))))
 (some (.next ()))
def N7(fu:Nat)(plist:List aM)(pv:ByteArray):Option ((aA×Bool)⊕Unit):=
 loopN (N6 fu plist pv) (plist.length-0) 0 ()
def CY(fu:Nat)(plist:List aM)(pv:ByteArray):Option (aA×Bool):=
 so (N7 fu plist pv) (fun _=>
 some ((aA.mk 0 s_ []),false))
theorem ZF(fu:Nat):adB (CY fu):=by
 intro plist pv r H
 have H:=fI H
 refine qI Tryz.func133 (fun C hC=>?_)
 refine qS (qR (q1 (iV gV) (q1 aF (qN ?_))))
 iterate 2 refine qS ?_
 refine qR (q1 aF (qN ?_))
 refine lR 0 (aM.trs_len _) (fun hl2=>?_)
 refine cM (σ:=Unit) (fun i1 _=>⟨[(0,n3 plist),(1,pS pv),(4,.ptr 0 0),(5,pB false),(6,pN i1)],⟨[some ⟨35,[pI 0,pS s_,.nil]⟩],[]⟩⟩) (fun _=>⟨[(4,.ptr 0 0),(5,pB false)],⟨[some ⟨35,[pI 0,pS s_,.nil]⟩],[]⟩⟩) (gU H) ?_ ?_
 ·rintro i1 ⟨⟩ H
  iterate 2 refine qS ?_
  refine qR ?_
  iterate 2 refine q1 aF ?_
  refine q1 (eT K8 (aM.trs_len _)) (q1 hZ (qN ?_))
  refine eW H (fun h3 h3l H=>?_) (fun h3 H=>?_)
  ·have h3n:=a8 h3
   refine aP.skip (qS (aP.block (qS (qR ?_))))
   iterate 2 refine q1 aF ?_
   refine q1 (iH h3n K8) (q1 (qX abU) (q1 (pZ fB) (q1 aF (q1 GS (qN ?_)))))
   refine bA H (fun h4 H=>?_) (fun h4 H=>?_)
   ·refine qS (qR ?_)
    iterate 2 refine q1 aF ?_
    refine q1 (iH h3n K8) (q1 (qX abV) (q1 (j0 (aA.cs ((a3 plist i1).gType)) cH) (dF H fun z5 H=>(q1 (bI Tryz.func60 (O4 ((a3 plist i1).gType) z5)) (q1 (bU hQ) (q1 aF (qN (aP.ret ?_))))))))
    obtain rfl:_=r:=(rG (aY H):)
    exact lB (hr:=⟨⟨_,_,_,rfl,rfl,cH,rfl,rfl⟩,rfl,trivial⟩)
   refine aP.skip (qR (q1 aF (q1 (aV.addI rfl rfl rfl rfl (c:=((i1+1:Nat):Int)) (by omega) (by omega)) (q1 aF (qN ?_)))))
   exact iY h3l ⟨_,(aY H:),b0⟩
  refine aP.exit ?_;exact lS ⟨_,H,b0⟩
 rintro⟨⟩ H
 refine qS (qR (q1 (f6 gV zP) (q1 (bU hQ) (q1 aF (qN (aP.ret ?_))))))
 obtain rfl:_=r:=(aY H:)
 exact lB (hr:=⟨⟨_,_,_,rfl,rfl,cH,rfl,rfl⟩,rfl,trivial⟩)
abbrev wA:=(List aA)→(List aA)→(List aM)→Option ((List aM)×Bool×(List aM))
abbrev qG:=aA→aA→(List aM)→Option ((List aM)×Bool×(List aM))
def CC(m:wA):Prop:= ∀(pp:List aA) (pall:List aA) (plist:List aM) (r:(List aM)×Bool×(List aM)),m pp pall plist=some r→cY Tryz.prog 135 [a4 pp,a4 pall,tD plist 0] ⟨[],[⟨171,4,aM.trs (plist),false⟩]⟩ (fun q t=>q=(.tup [(bif r.2.1 then .acc 4 (aM.trs (r.1)) 0 else .t (.row 4 (aM.trs (r.1)))),pB r.2.1]:PV)∧t=⟨[],[⟨171,4,aM.trs (r.2.2),false⟩]⟩)
def AD(m:qG):Prop:= ∀(pp:aA) (pt:aA) (plist:List aM) (r:(List aM)×Bool×(List aM)),m pp pt plist=some r→cY Tryz.prog 175 [(aA.pv pp),(aA.pv pt),tD plist 0] ⟨[],[⟨171,4,aM.trs (plist),false⟩]⟩ (fun q t=>q=(.tup [(bif r.2.1 then .acc 4 (aM.trs (r.1)) 0 else .t (.row 4 (aM.trs (r.1)))),pB r.2.1]:PV)∧t=⟨[],[⟨171,4,aM.trs (r.2.2),false⟩]⟩)
def KD(fu:Nat)(r_sl7All:wA)(r_sl7Match:qG)(pp pall:List aA)(plist:List aM):Nat→((List aM))→Option (LR ((List aM)) ((List aM)×Bool×(List aM))):=
 fun i1 v3=>gd (i1<(pall).length)
 (bd (r_sl7Match (a3 pp i1) (a3 pall i1) v3) (fun(x8,x9,x10)=>
 sw (x9)
 (gd (x8=x10)
 (some (.next x8)))
 (some (.ret (v3,false,x10)))))
def RL(fu:Nat)(r_sl7All:wA)(r_sl7Match:qG)(pp pall:List aA)(plist:List aM):Option (((List aM)×Bool×(List aM))⊕((List aM))):=
 loopN (KD fu r_sl7All r_sl7Match pp pall plist) (pp.length-0) 0 plist
def O8(fu:Nat)(r_sl7All:wA)(r_sl7Match:qG)(pp pall:List aA)(plist:List aM):Option ((List aM)×Bool×(List aM)):=
 so (RL fu r_sl7All r_sl7Match pp pall plist) (fun v3=>
 some (v3,true,v3))
theorem X7(fu:Nat)(r_sl7All:wA)(r_sl7Match:qG)(h_sl7All:CC r_sl7All)(h_sl7Match:AD r_sl7Match):CC (O8 fu r_sl7All r_sl7Match):=by
 intro pp pall plist r H
 have H:=fI H
 refine qI Tryz.func135 (fun C hC=>?_)
 refine qS (qR ?_)
 iterate 2 refine q1 aF ?_
 refine qN ?_
 iterate 2 refine qS ?_
 refine qR (q1 aF (qN ?_))
 refine lR 0 (aA.trs_len _) (fun hl4=>?_)
 refine cM (σ:=(List aM)) (fun i1 v3=>⟨[(0,a4 pp),(1,a4 pall),(2,tD v3 0),(6,.nil),(7,pB false),(8,pN i1)],⟨[],[⟨171,4,aM.trs (v3),false⟩]⟩⟩) (fun v3=>⟨[(2,tD v3 0),(6,.nil),(7,pB false)],⟨[],[⟨171,4,aM.trs (v3),false⟩]⟩⟩) (gU H) ?_ ?_
 ·rintro i1 v3 H
  iterate 2 refine qS ?_
  refine qR ?_
  iterate 2 refine q1 aF ?_
  refine q1 (eT dX (aA.trs_len _)) (q1 hZ (qN ?_))
  refine eW H (fun h5 h5l H=>?_) (fun h5 H=>?_)
  ·have h5n:=a8 h5
   refine aP.skip (qS (aP.block (qS (dF H fun z6 H=>(acW H fun x8 x9 x10 z7 H=>?_)))))
   cases x9
   ·have H:=nQ H rfl
    refine dW (dI [0] aF (dI [8] aF (dI [18,19] (iH h5n dX) (dI [20] (j0 (aA.cs (a3 pp i1)) cH) (dI [1] aF (dI [8] aF (dI [22,23] (iH z6 dX) (dI [24] (j0 (aA.cs (a3 pall i1)) cH) (dI [2] aF (dE [21,25,26] (f7 [] [0] Tryz.func175 (h_sl7Match (a3 pp i1) (a3 pall i1) v3 _ z7)) (dI [27] aF ?_)))))))))))
    iterate 2 refine dI [17] y1 ?_
    refine dI [28] aF (dI [29] aF (dN ?_))
    iterate 2 refine qS ?_
    refine qR (q1 aF (q1 gT (qN (dV (congrArg (fun b=> !b) (rfl:false=false)) (qS (qR ?_))))))
    iterate 3 refine q1 aF ?_
    refine qN (aP.ret ?_)
    obtain rfl:_=r:=(rG (aY H):)
    exact lB
   have H:=nR H rfl
   obtain⟨z11,H1⟩:=gdI H
   subst z11
   have H:=H1
   refine dW (dI [0] aF (dI [8] aF (dI [18,19] (iH h5n dX) (dI [20] (j0 (aA.cs (a3 pp i1)) cH) (dI [1] aF (dI [8] aF (dI [22,23] (iH z6 dX) (dI [24] (j0 (aA.cs (a3 pall i1)) cH) (dI [2] aF (dE [21,25,26] (f7 [] [0] Tryz.func175 (h_sl7Match (a3 pp i1) (a3 pall i1) v3 _ z7)) (dI [27] aF ?_)))))))))))
   iterate 2 refine dI [17] y1 ?_
   refine dI [28] aF (dI [29] aF (dN ?_))
   iterate 2 refine qS ?_
   refine qR (q1 aF (q1 gT (qN (iX (congrArg (fun b=> !b) (rfl:true=true)) (aP.skip (qR ?_))))))
   iterate 2 refine q1 aF ?_
   refine qN (qR (q1 aF (q1 (aV.addI rfl rfl rfl rfl (c:=((i1+1:Nat):Int)) (by omega) (by omega)) (q1 aF (qN ?_)))))
   exact iY h5l ⟨_,(aY H:),b0⟩
  refine aP.exit ?_;exact lS ⟨_,H,b0⟩
 rintro v3 H
 refine qS (qR ?_)
 iterate 3 refine q1 aF ?_
 refine qN (aP.ret ?_)
 obtain rfl:_=r:=(aY H:)
 exact lB
def GP(fu:Nat)(r_sl7All:wA)(r_sl7Match:qG)(pp pt:aA)(plist:List aM):Option ((List aM)×Bool×(List aM)):=
 sw (decide ((pp.gKind:Int)=1))
 (bd (CY fu plist pp.gName) (fun(x3,x4)=>
 sw (x4)
 (sw (aA.eq x3 pt)
 (some (plist,(aA.eq x3 pt),plist))
 (some (plist,(aA.eq x3 pt),plist)))
 (gd (Tr.bulkL (aA.tr pt)≤68719476735)
 (gd ((plist).length+(([(aM.mk pp.gName pt)]:List aM)).length≤68719476736)
 (some ((plist++([(aM.mk pp.gName pt)]:List aM)),true,(plist++([(aM.mk pp.gName pt)]:List aM))))))))
 (sw (!decide ((pp.gKind:Int)=pt.gKind))
 (some (plist,false,plist))
 (sw (!decide (pp.gName=pt.gName))
 (some (plist,false,plist))
 (sw (!decide ((((pp.gArgs.length:Nat):Int):Int)=((pt.gArgs.length:Nat):Int)))
 (some (plist,false,plist))
 (bd (r_sl7All pp.gArgs pt.gArgs plist) (fun(x13,x14,x15)=>
 sw (x14)
 (gd (x13=x15)
 (some (x13,true,x13)))
 (some (x13,false,x15)))))))
theorem QV(fu:Nat)(r_sl7All:wA)(r_sl7Match:qG)(h_sl7All:CC r_sl7All)(h_sl7Match:AD r_sl7Match):AD (GP fu r_sl7All r_sl7Match):=by
 intro pp pt plist r H
 have H:=fI H
 refine qI Tryz.func175 (fun C hC=>?_)
 refine qS (qR (q1 (jU (dJ pp)) (q1 (jU (dJ pt)) ?_)))
 iterate 2 refine q1 aF ?_
 refine qN ?_
 iterate 2 refine qS ?_
 refine qR (q1 (a5 lD) (q1 (bG jQ) (q1 eM (qN ?_))))
 refine bA H (fun h1 H=>?_) (fun h1 H=>?_)
 ·refine qS (qR (q1 aF (q1 (a5 jT) (q1 (bG fB) (fK H fun x3 x4 z2 H=>(q1 (bI Tryz.func133 (ZF fu plist pp.gName _ z2)) (q1 aF ?_)))))))
  iterate 2 refine q1 y1 ?_
  refine q1 (iV gV) (q1 (bU hQ) (q1 aF (qN ?_)))
  iterate 2 refine qS ?_
  refine qR (q1 aF (qN ?_))
  refine bA H (fun h5 H=>?_) (fun h5 H=>?_)
  ·refine qS (qR (q1 aF (q1 (cV [pI x3.gKind,pS x3.gName,a4 x3.gArgs] cH) (q1 (cV [pI pt.gKind,pS pt.gName,a4 pt.gArgs] cH) (q1 (bI Tryz.func16 (QA x3 pt)) ?_)))))
   iterate 2 refine q1 aF ?_
   refine qN (aP.ret ?_)
   rcases kM (aA.eq x3 pt) with g6|g6
   ·have H:=nR H g6
    obtain rfl:_=r:=(aY H:)
    exact lB (hle:=by rw [g6];exact lH) (hk:=by rw [g6];rfl)
   have H:=nQ H g6
   obtain rfl:_=r:=(aY H:)
   exact lB (hle:=by rw [g6];exact lH) (hk:=by rw [g6];rfl)
  refine aP.skip (qS (dF H fun z7 H=>(dF H fun z8 H=>(dW (dI [2] aF (dI [3] (a5 jT) (dD [26] (bG fB) (dD [4] (cV [pI pt.gKind,pS pt.gName,a4 pt.gArgs] cH) (dI [28] (bI Tryz.func60 (O4 pt z7)) (dI [27,29] (f6 KY ahF) (dI [30] (iA ([(aM.mk pp.gName pt)]:List aM) K8 KY) (dE [25,31] (mJ z8 K8 ajO) (dI [32] aF ?_)))))))))))))
  refine dI [] aF (dN (aP.ret ?_))
  obtain rfl:_=r:=(aY H:)
  exact lB
 refine aP.skip ?_
 iterate 2 refine qS ?_
 refine qR (q1 (a5 lD) (q1 (bG jQ) (q1 (a5 lD) (q1 (bG jQ) (q1 MM (q1 aF ?_))))))
 refine d9 38 H (fun g9 H=>?_) fun g9 H=>?_
 ·refine qk g9 ?_
  iterate 4 refine qk g9 ?_
  refine q1 (bR g9) (q1 aF ?_)
  iterate 7 refine qk rfl ?_
  refine q1 (bR rfl) (qN (dV rfl (qS (qR ?_))))
  iterate 3 refine q1 aF ?_
  refine qN (aP.ret ?_)
  obtain rfl:_=r:=(aY H:)
  exact lB
 refine qg g9 (a5 jT) (qg g9 (bG fB) (qg g9 (a5 jT) (qg g9 (bG fB) (qg g9 MN (q1 (b5 g9) (q1 aF ?_))))))
 refine d9 45 H (fun g10 H=>?_) fun g10 H=>?_
 ·refine qk g10 ?_
  iterate 6 refine qk g10 ?_
  refine q1 (bR g10) (qN (dV rfl (qS (qR ?_))))
  iterate 3 refine q1 aF ?_
  refine qN (aP.ret ?_)
  obtain rfl:_=r:=(aY H:)
  exact lB
 refine qg g10 (a5 fV) (qg g10 (bG l5) (qg g10 (eT dX (aA.trs_len _)) (qg g10 (a5 fV) (qg g10 (bG l5) (qg g10 (eT dX (aA.trs_len _)) (qg g10 MM (q1 (b5 g10) (qN ?_))))))))
 refine bA H (fun h11 H=>?_) (fun h11 H=>?_)
 ·refine qS (qR ?_)
  iterate 3 refine q1 aF ?_
  refine qN (aP.ret ?_)
  obtain rfl:_=r:=(aY H:)
  exact lB
 refine aP.skip (qS (qR (q1 (a5 fV) (q1 (bG l5) (q1 (a5 fV) (q1 (bG l5) (q1 aF (acW H fun x13 x14 x15 z12 H=>?_))))))))
 cases x14
 ·have H:=nQ H rfl
  refine q1 (f7 [] [0] Tryz.func135 (h_sl7All pp.gArgs pt.gArgs plist _ z12)) ?_
  iterate 2 refine q1 y1 ?_
  iterate 2 refine q1 aF ?_
  refine qN (aP.ret ?_)
  obtain rfl:_=r:=(aY H:)
  exact lB
 have H:=nR H rfl
 obtain⟨z16,H1⟩:=gdI H
 subst z16
 have H:=H1
 refine q1 (f7 [] [0] Tryz.func135 (h_sl7All pp.gArgs pt.gArgs plist _ z12)) ?_
 iterate 2 refine q1 y1 ?_
 iterate 2 refine q1 aF ?_
 refine qN (aP.ret ?_)
 obtain rfl:_=r:=(aY H:)
 exact lB
mutual
def m7:Nat→(List aA)→(List aA)→(List aM)→Option ((List aM)×Bool×(List aM))
 |0,_,_,_=>none
 |fu+1,pp,pall,plist=>O8 fu (m7 fu) (lQ fu) pp pall plist
def lQ:Nat→aA→aA→(List aM)→Option ((List aM)×Bool×(List aM))
 |0,_,_,_=>none
 |fu+1,pp,pt,plist=>GP fu (m7 fu) (lQ fu) pp pt plist
end
theorem abJ(fu:Nat):CC (m7 fu)∧AD (lQ fu):=by
 induction fu with
 |zero=>exact⟨(fun pp pall plist r H=>by simp only [m7] at H;cases H),(fun pp pt plist r H=>by simp only [lQ] at H;cases H)⟩
 |succ fu ih=>exact⟨(fun pp pall plist r H=>by simp only [m7] at H;exact X7 fu (m7 fu) (lQ fu) ih.1 ih.2 pp pall plist r H),(fun pp pt plist r H=>by simp only [lQ] at H;exact QV fu (m7 fu) (lQ fu) ih.1 ih.2 pp pt plist r H)⟩
theorem RM(fu:Nat):CC (m7 fu):=(abJ fu).1
def VY(m:(List aA)→(List aA)→Option ((List aM)×Bool)):Prop:= ∀(pp:List aA) (pall:List aA) (r:(List aM)×Bool),m pp pall=some r→cE Tryz.prog 90 [a4 pp,a4 pall] (.tup [n3 r.1,pB r.2]:PV)
def BU(fu:Nat)(pp pall:List aA):Option ((List aM)×Bool):=
 sw (!decide ((((pp.length:Nat):Int):Int)=((pall.length:Nat):Int)))
 (some (([]),false))
 (bd (m7 fu pp pall ([])) (fun(x3,x4,x5)=>
 sw (x4)
 (gd (x3=x5)
 (some (x3,true)))
 (some (([]),false))))
theorem SU(fu:Nat):VY (BU fu):=by
 intro pp pall r H
 have H:=fI H
 refine qI Tryz.func90 (fun C hC=>?_)
 refine qS (qR ?_)
 iterate 2 refine q1 aF ?_
 refine qN ?_
 iterate 2 refine qS ?_
 refine qR (q1 aF (q1 (eT dX (aA.trs_len _)) (q1 aF (q1 (eT dX (aA.trs_len _)) (q1 MM (qN ?_))))))
 refine bA H (fun h1 H=>?_) (fun h1 H=>?_)
 ·refine qS (qR (q1 (t2 ([]:List aM) K8 KY) ?_))
  iterate 2 refine q1 aF ?_
  refine qN (aP.ret ?_)
  obtain rfl:_=r:=(aY H:)
  exact lB
 refine aP.skip (qS (qR ?_))
 iterate 2 refine q1 aF ?_
 refine q1 (t2 ([]:List aM) K8 KY) (acW H fun x3 x4 x5 z2 H=>?_)
 cases x4
 ·have H:=nQ H rfl
  refine q1 (f7 [] [0] Tryz.func135 (RM fu pp pall ([]) _ z2)) (q1 aF ?_)
  iterate 2 refine q1 y1 ?_
  iterate 2 refine q1 aF ?_
  refine qN ?_
  iterate 2 refine qS ?_
  refine qR (q1 aF (q1 gT (qN (dV (congrArg (fun b=> !b) (rfl:false=false)) (qS (qR (q1 (t2 ([]:List aM) K8 KY) ?_)))))))
  iterate 2 refine q1 aF ?_
  refine qN (aP.ret ?_)
  obtain rfl:_=r:=(aY H:)
  exact lB
 have H:=nR H rfl
 obtain⟨z6,H1⟩:=gdI H
 subst z6
 have H:=H1
 refine q1 (f7 [] [0] Tryz.func135 (RM fu pp pall ([]) _ z2)) (q1 aF ?_)
 iterate 2 refine q1 y1 ?_
 iterate 2 refine q1 aF ?_
 refine qN ?_
 iterate 2 refine qS ?_
 refine qR (q1 aF (q1 gT (qN (iX (congrArg (fun b=> !b) (rfl:true=true)) (aP.skip (qS (qR ?_)))))))
 iterate 3 refine q1 aF ?_
 refine qN (aP.ret ?_)
 obtain rfl:_=r:=(aY H:)
 exact lB
def afB(m:aA→aA→Option ((List aM)×Bool)):Prop:= ∀(pp:aA) (pt:aA) (r:(List aM)×Bool),m pp pt=some r→cE Tryz.prog 33 [(aA.pv pp),(aA.pv pt)] (.tup [n3 r.1,pB r.2]:PV)
def N8(fu:Nat)(pp pt:aA):Option ((List aM)×Bool):=
 bd (BU fu ([pp]:List aA) ([pt]:List aA)) (fun(x2,x3)=>
 some (x2,x3))
theorem adD(fu:Nat):afB (N8 fu):=by
 intro pp pt r H
 have H:=fI H
 refine qI Tryz.func33 (fun C hC=>?_)
 refine qS (qR (q1 (jU (dJ pp)) (q1 (jU (dJ pt)) ?_)))
 iterate 2 refine q1 aF ?_
 refine qN (qS (qR (q1 (cV [pI pp.gKind,pS pp.gName,a4 pp.gArgs] cH) (q1 (iA ([pp]:List aA) dX gV) (q1 (cV [pI pt.gKind,pS pt.gName,a4 pt.gArgs] cH) (q1 (iA ([pt]:List aA) dX gV) (fK H fun x2 x3 z1 H=>(q1 (bI Tryz.func90 (SU fu ([pp]:List aA) ([pt]:List aA) _ z1)) ?_))))))))
 iterate 2 refine q1 y1 ?_
 iterate 2 refine q1 aF ?_
 refine qN (aP.ret ?_)
 obtain rfl:_=r:=(aY H:)
 exact lB
def ZG(m:aA→aA→Option Bool):Prop:= ∀(pp:aA) (pt:aA) (r:Bool),m pp pt=some r→cE Tryz.prog 99 [(aA.pv pp),(aA.pv pt)] (pB r:PV)
def N9(fu:Nat)(pp pt:aA):Option Bool:=
 bd (N8 fu pp pt) (fun(x2,x3)=>
 some x3)
theorem VZ(fu:Nat):ZG (N9 fu):=by
 intro pp pt r H
 have H:=fI H
 refine qI Tryz.func99 (fun C hC=>?_)
 refine qS (qR (q1 (jU (dJ pp)) (q1 (jU (dJ pt)) (q1 aF (qN (qS (qR (q1 (cV [pI pp.gKind,pS pp.gName,a4 pp.gArgs] cH) (q1 (cV [pI pt.gKind,pS pt.gName,a4 pt.gArgs] cH) (fK H fun x2 x3 z1 H=>(q1 (bI Tryz.func33 (adD fu pp pt _ z1)) (q1 aF ?_))))))))))))
 iterate 2 refine q1 y1 ?_
 iterate 2 refine q1 aF ?_
 refine qN (qS (qR ?_))
 iterate 2 refine q1 aF ?_
 refine qN (aP.ret ?_)
 obtain rfl:_=r:=(aY H:)
 exact bM
def acZ(m:(List aM)→ByteArray→Option (aA×Bool)):Prop:= ∀(plist:List aM) (pv:ByteArray) (r:aA×Bool),m plist pv=some r→cE Tryz.prog 91 [n3 plist,pS pv] (.tup [(aA.pv r.1),pB r.2]:PV)
def ND(fu:Nat)(plist:List aM)(pv:ByteArray):Nat→Unit→Option (LR Unit (aA×Bool)):=
 fun i1 _=>sw (decide ((a3 plist i1).gVar=pv))
 (gd (Tr.bulkL (aA.tr ((a3 plist i1).gType))≤68719476735)
 (some (.ret (((a3 plist i1).gType),true))))
 (some (.next ()))
def NE(fu:Nat)(plist:List aM)(pv:ByteArray):Option ((aA×Bool)⊕Unit):=
 loopN (ND fu plist pv) (plist.length-0) 0 ()
def CP(fu:Nat)(plist:List aM)(pv:ByteArray):Option (aA×Bool):=
 so (NE fu plist pv) (fun _=>
 some ((aA.mk 0 s_ []),false))
theorem Y1(fu:Nat):acZ (CP fu):=by
 intro plist pv r H
 have H:=fI H
 refine qI Tryz.func91 (fun C hC=>?_)
 refine qS (qR (q1 (iV gV) (q1 aF (qN ?_))))
 iterate 2 refine qS ?_
 refine qR (q1 aF (q1 (eT K8 (aM.trs_len _)) (q1 aF (qN ?_))))
 refine lR 0 (aM.trs_len _) (fun hl2=>?_)
 refine cM (σ:=Unit) (fun i1 _=>⟨[(1,pS pv),(4,.ptr 0 0),(5,pB false),(8,n3 plist),(9,pN plist.length),(10,pN i1)],⟨[some ⟨35,[pI 0,pS s_,.nil]⟩],[]⟩⟩) (fun _=>⟨[(4,.ptr 0 0),(5,pB false)],⟨[some ⟨35,[pI 0,pS s_,.nil]⟩],[]⟩⟩) (gU H) ?_ ?_
 ·rintro i1 ⟨⟩ H
  refine qS (qR (q1 hZ (qN (qS ?_))))
  refine eW H (fun h3 h3l H=>?_) (fun h3 H=>?_)
  ·have h3n:=a8 h3
   refine aP.skip (qS (aP.block (qS (qR (q1 (iH h3n K8) (q1 (j0 (aM.cs (a3 plist i1)) ajD) (q1 (iV KY) (q1 (bU ajF) (qN (qS (qR (q1 (a5 abU) (q1 (bG fB) ?_)))))))))))))
   refine q1 aF (q1 GS (qN ?_))
   refine bA H (fun h4 H=>?_) (fun h4 H=>?_)
   ·refine qS (qR (q1 (a5 abV) (q1 (cV [pI (((a3 plist i1).gType).gKind),pS (((a3 plist i1).gType).gName),a4 (((a3 plist i1).gType).gArgs)] cH) (dF H fun z5 H=>(q1 (bI Tryz.func57 (HJ ((a3 plist i1).gType) z5)) (q1 (bU hQ) (q1 aF (qN (aP.ret ?_)))))))))
    obtain rfl:_=r:=(rG (aY H):)
    exact lB (hr:=⟨⟨_,_,_,rfl,rfl,cH,rfl,rfl⟩,rfl,trivial⟩)
   refine aP.skip (qR (q1 (aV.addI rfl rfl rfl rfl (c:=((i1+1:Nat):Int)) (by omega) (by omega)) (q1 aF (qN ?_))))
   exact iY h3l ⟨_,(aY H:),b0⟩
  refine aP.exit ?_;exact lS ⟨_,H,b0⟩
 rintro⟨⟩ H
 refine qS (qR (q1 (f6 gV zP) (q1 (bU hQ) (q1 aF (qN (aP.ret ?_))))))
 obtain rfl:_=r:=(aY H:)
 exact lB (hr:=⟨⟨_,_,_,rfl,rfl,cH,rfl,rfl⟩,rfl,trivial⟩)
abbrev nW:=(List aM)→(List aA)→(List aA)→Option ((List aM)×Bool×(List aM))
abbrev vM:=(List aM)→aA→aA→Option ((List aM)×Bool×(List aM))
def tF(m:nW):Prop:= ∀(ps:List aM) (pp:List aA) (pall:List aA) (r:(List aM)×Bool×(List aM)),m ps pp pall=some r→cY Tryz.prog 132 [tD ps 0,a4 pp,a4 pall] ⟨[],[⟨171,4,aM.trs (ps),false⟩]⟩ (fun q t=>q=(.tup [(bif r.2.1 then .acc 4 (aM.trs (r.1)) 0 else .t (.row 4 (aM.trs (r.1)))),pB r.2.1]:PV)∧t=⟨[],[⟨171,4,aM.trs (r.2.2),false⟩]⟩)
def HN(m:vM):Prop:= ∀(ps:List aM) (pp:aA) (pt:aA) (r:(List aM)×Bool×(List aM)),m ps pp pt=some r→cY Tryz.prog 174 [tD ps 0,(aA.pv pp),(aA.pv pt)] ⟨[],[⟨171,4,aM.trs (ps),false⟩]⟩ (fun q t=>q=(.tup [(bif r.2.1 then .acc 4 (aM.trs (r.1)) 0 else .t (.row 4 (aM.trs (r.1)))),pB r.2.1]:PV)∧t=⟨[],[⟨171,4,aM.trs (r.2.2),false⟩]⟩)
def zK(fu:Nat)(r_imatchAll:nW)(r_imatch:vM)(ps:List aM)(pp pall:List aA):Nat→((List aM))→Option (LR ((List aM)) ((List aM)×Bool×(List aM))):=
 fun i2 v4=>gd (i2<(pall).length)
 (bd (r_imatch v4 (a3 pp i2) (a3 pall i2)) (fun(x9,x10,x11)=>
 sw (x10)
 (gd (x9=x11)
 (some (.next x9)))
 (some (.ret ([],false,x11)))))
def HL(fu:Nat)(r_imatchAll:nW)(r_imatch:vM)(ps:List aM)(pp pall:List aA):Option (((List aM)×Bool×(List aM))⊕((List aM))):=
 loopN (zK fu r_imatchAll r_imatch ps pp pall) (pp.length-0) 0 ps
def wK(fu:Nat)(r_imatchAll:nW)(r_imatch:vM)(ps:List aM)(pp pall:List aA):Option ((List aM)×Bool×(List aM)):=
 sw (!decide ((((pp.length:Nat):Int):Int)=((pall.length:Nat):Int)))
 (some ([],false,ps))
 (so (HL fu r_imatchAll r_imatch ps pp pall) (fun v4=>
 some (v4,true,v4)))
theorem NJ(fu:Nat)(r_imatchAll:nW)(r_imatch:vM)(h_imatchAll:tF r_imatchAll)(h_imatch:HN r_imatch):tF (wK fu r_imatchAll r_imatch):=by
 intro ps pp pall r H
 have H:=fI H
 refine qI Tryz.func132 (fun C hC=>?_)
 refine qS (qR ?_)
 iterate 2 refine q1 aF ?_
 refine qN ?_
 iterate 2 refine qS ?_
 refine qR (q1 aF (q1 (eT dX (aA.trs_len _)) (q1 aF (q1 (eT dX (aA.trs_len _)) (q1 MM (qN ?_))))))
 refine bA H (fun h1 H=>?_) (fun h1 H=>?_)
 ·refine qS (qR ?_)
  iterate 2 refine q1 aF ?_
  refine qN (aP.ret ?_)
  obtain rfl:_=r:=(aY H:)
  exact lB
 refine aP.skip ?_
 iterate 2 refine qS ?_
 refine qR (q1 aF (q1 (eT dX (aA.trs_len _)) (q1 aF (qN ?_))))
 refine lR 1 (aA.trs_len _) (fun hl5=>?_)
 refine cM (σ:=(List aM)) (fun i2 v4=>⟨[(0,tD v4 0),(1,a4 pp),(2,a4 pall),(6,.nil),(7,pB false),(17,pN pp.length),(18,pN i2)],⟨[],[⟨171,4,aM.trs (v4),false⟩]⟩⟩) (fun v4=>⟨[(0,tD v4 0),(6,.nil),(7,pB false)],⟨[],[⟨171,4,aM.trs (v4),false⟩]⟩⟩) (gU H) ?_ ?_
 ·rintro i2 v4 H
  refine qS (qR (q1 hZ (qN (qS ?_))))
  refine eW H (fun h6 h6l H=>?_) (fun h6 H=>?_)
  ·have h6n:=a8 h6
   refine aP.skip (qS (aP.block (qS (qR ?_))))
   iterate 2 refine q1 aF ?_
   refine qN (qS (dF H fun z7 H=>(acW H fun x9 x10 x11 z8 H=>?_)))
   cases x10
   ·have H:=nQ H rfl
    refine dW (dI [0] aF (dI [1] aF (dI [8] aF (dI [23,24] (iH h6n dX) (dI [25] (j0 (aA.cs (a3 pp i2)) cH) (dI [2] aF (dI [8] aF (dI [27,28] (iH z7 dX) (dI [29] (j0 (aA.cs (a3 pall i2)) cH) (dE [22,26,30] (f7 [] [0] Tryz.func174 (h_imatch v4 (a3 pp i2) (a3 pall i2) _ z8)) (dI [31] aF ?_)))))))))))
    iterate 2 refine dI [21] y1 ?_
    refine dI [32] aF (dI [33] aF (dN ?_))
    iterate 2 refine qS ?_
    refine qR (q1 aF (q1 gT (qN (dV (congrArg (fun b=> !b) (rfl:false=false)) (qS (qR ?_))))))
    iterate 2 refine q1 aF ?_
    refine qN (aP.ret ?_)
    obtain rfl:_=r:=(rG (aY H):)
    exact lB
   have H:=nR H rfl
   obtain⟨z12,H1⟩:=gdI H
   subst z12
   have H:=H1
   refine dW (dI [0] aF (dI [1] aF (dI [8] aF (dI [23,24] (iH h6n dX) (dI [25] (j0 (aA.cs (a3 pp i2)) cH) (dI [2] aF (dI [8] aF (dI [27,28] (iH z7 dX) (dI [29] (j0 (aA.cs (a3 pall i2)) cH) (dE [22,26,30] (f7 [] [0] Tryz.func174 (h_imatch v4 (a3 pp i2) (a3 pall i2) _ z8)) (dI [31] aF ?_)))))))))))
   iterate 2 refine dI [21] y1 ?_
   refine dI [32] aF (dI [33] aF (dN ?_))
   iterate 2 refine qS ?_
   refine qR (q1 aF (q1 gT (qN (iX (congrArg (fun b=> !b) (rfl:true=true)) (aP.skip (qR ?_))))))
   iterate 2 refine q1 aF ?_
   refine qN (qR (q1 (aV.addI rfl rfl rfl rfl (c:=((i2+1:Nat):Int)) (by omega) (by omega)) (q1 aF (qN ?_))))
   exact iY h6l ⟨_,(aY H:),b0⟩
  refine aP.exit ?_;exact lS ⟨_,H,b0⟩
 rintro v4 H
 refine qS (qR ?_)
 iterate 3 refine q1 aF ?_
 refine qN (aP.ret ?_)
 obtain rfl:_=r:=(aY H:)
 exact lB
def NK(fu:Nat)(r_imatchAll:nW)(r_imatch:vM)(ps:List aM)(pp pt:aA):Option ((List aM)×Bool×(List aM)):=
 sw (decide ((pp.gKind:Int)=1))
 (bd (CP fu ps pp.gName) (fun(x3,x4)=>
 sw (x4)
 (sw (aA.eq x3 pt)
 (some (ps,(aA.eq x3 pt),ps))
 (some (ps,(aA.eq x3 pt),ps)))
 (gd (Tr.bulkL (aA.tr pt)≤68719476735)
 (gd ((ps).length+(([(aM.mk pp.gName pt)]:List aM)).length≤68719476736)
 (some ((ps++([(aM.mk pp.gName pt)]:List aM)),true,(ps++([(aM.mk pp.gName pt)]:List aM))))))))
 (sw (!decide ((pp.gKind:Int)=pt.gKind))
 (some ([],false,ps))
 (sw (!decide (pp.gName=pt.gName))
 (some ([],false,ps))
 (bd (r_imatchAll ps pp.gArgs pt.gArgs) (fun(x12,x13,x14)=>
 sw (x13)
 (gd (x12=x14)
 (some (x12,true,x12)))
 (some (x12,false,x14))))))
theorem VO(fu:Nat)(r_imatchAll:nW)(r_imatch:vM)(h_imatchAll:tF r_imatchAll)(h_imatch:HN r_imatch):HN (NK fu r_imatchAll r_imatch):=by
 intro ps pp pt r H
 have H:=fI H
 refine qI Tryz.func174 (fun C hC=>?_)
 refine qS (qR (q1 (jU (dJ pp)) (q1 (jU (dJ pt)) ?_)))
 iterate 2 refine q1 aF ?_
 refine qN ?_
 iterate 2 refine qS ?_
 refine qR (q1 (a5 lD) (q1 (bG jQ) (q1 eM (qN ?_))))
 refine bA H (fun h1 H=>?_) (fun h1 H=>?_)
 ·refine qS (qS (qR (q1 aF (q1 (a5 jT) (q1 (bG fB) (fK H fun x3 x4 z2 H=>(q1 (bI Tryz.func91 (Y1 fu ps pp.gName _ z2)) (q1 aF ?_))))))))
  iterate 2 refine q1 y1 ?_
  refine q1 (iV gV) (q1 (bU hQ) (q1 aF (qN (qS (qR (q1 aF (qN ?_)))))))
  refine bA H (fun h5 H=>?_) (fun h5 H=>?_)
  ·refine qS (qR (q1 aF (q1 (cV [pI x3.gKind,pS x3.gName,a4 x3.gArgs] cH) (q1 (cV [pI pt.gKind,pS pt.gName,a4 pt.gArgs] cH) (q1 (bI Tryz.func124 (PU x3 pt)) ?_)))))
   iterate 2 refine q1 aF ?_
   refine qN (aP.ret ?_)
   rcases kM (aA.eq x3 pt) with g6|g6
   ·have H:=nR H g6
    obtain rfl:_=r:=(aY H:)
    exact lB (hle:=by rw [g6];exact lH) (hk:=by rw [g6];rfl)
   have H:=nQ H g6
   obtain rfl:_=r:=(aY H:)
   exact lB (hle:=by rw [g6];exact lH) (hk:=by rw [g6];rfl)
  refine aP.skip (qS (dF H fun z7 H=>(dF H fun z8 H=>(dW (dI [0] aF (dI [4] (a5 jT) (dD [26] (bG fB) (dD [5] (cV [pI pt.gKind,pS pt.gName,a4 pt.gArgs] cH) (dI [28] (bI Tryz.func57 (HJ pt z7)) (dI [27,29] (f6 KY ahF) (dI [30] (iA ([(aM.mk pp.gName pt)]:List aM) K8 KY) (dE [25,31] (mJ z8 K8 ajO) (dI [32] aF ?_)))))))))))))
  refine dI [] aF (dN (aP.ret ?_))
  obtain rfl:_=r:=(aY H:)
  exact lB
 refine aP.skip ?_
 iterate 2 refine qS ?_
 refine qR (q1 (a5 lD) (q1 (bG jQ) (q1 (a5 lD) (q1 (bG jQ) (q1 MM (q1 aF ?_))))))
 refine d9 38 H (fun g9 H=>?_) fun g9 H=>?_
 ·refine qk g9 ?_
  iterate 4 refine qk g9 ?_
  refine q1 (bR g9) (qN (dV rfl (qS (qR ?_))))
  iterate 2 refine q1 aF ?_
  refine qN (aP.ret ?_)
  obtain rfl:_=r:=(aY H:)
  exact lB
 refine qg g9 (a5 jT) (qg g9 (bG fB) (qg g9 (a5 jT) (qg g9 (bG fB) (qg g9 MN (q1 (b5 g9) (qN ?_))))))
 refine bA H (fun h10 H=>?_) (fun h10 H=>?_)
 ·refine qS (qR ?_)
  iterate 2 refine q1 aF ?_
  refine qN (aP.ret ?_)
  obtain rfl:_=r:=(aY H:)
  exact lB
 refine aP.skip (qS (qR (q1 aF (q1 (a5 fV) (q1 (bG l5) (q1 (a5 fV) (q1 (bG l5) (acW H fun x12 x13 x14 z11 H=>?_))))))))
 cases x13
 ·have H:=nQ H rfl
  refine q1 (f7 [] [0] Tryz.func132 (h_imatchAll ps pp.gArgs pt.gArgs _ z11)) ?_
  iterate 2 refine q1 y1 ?_
  iterate 2 refine q1 aF ?_
  refine qN (aP.ret ?_)
  obtain rfl:_=r:=(aY H:)
  exact lB
 have H:=nR H rfl
 obtain⟨z15,H1⟩:=gdI H
 subst z15
 have H:=H1
 refine q1 (f7 [] [0] Tryz.func132 (h_imatchAll ps pp.gArgs pt.gArgs _ z11)) ?_
 iterate 2 refine q1 y1 ?_
 iterate 2 refine q1 aF ?_
 refine qN (aP.ret ?_)
 obtain rfl:_=r:=(aY H:)
 exact lB
mutual
def gE:Nat→(List aM)→(List aA)→(List aA)→Option ((List aM)×Bool×(List aM))
 |0,_,_,_=>none
 |fu+1,ps,pp,pall=>wK fu (gE fu) (pF fu) ps pp pall
def pF:Nat→(List aM)→aA→aA→Option ((List aM)×Bool×(List aM))
 |0,_,_,_=>none
 |fu+1,ps,pp,pt=>NK fu (gE fu) (pF fu) ps pp pt
end
theorem PZ(fu:Nat):tF (gE fu)∧HN (pF fu):=by
 induction fu with
 |zero=>exact⟨(fun ps pp pall r H=>by simp only [gE] at H;cases H),(fun ps pp pt r H=>by simp only [pF] at H;cases H)⟩
 |succ fu ih=>exact⟨(fun ps pp pall r H=>by simp only [gE] at H;exact NJ fu (gE fu) (pF fu) ih.1 ih.2 ps pp pall r H),(fun ps pp pt r H=>by simp only [pF] at H;exact VO fu (gE fu) (pF fu) ih.1 ih.2 ps pp pt r H)⟩
theorem HM(fu:Nat):tF (gE fu):=(PZ fu).1
def ae2(m:aA→aA→Option ((List aM)×Bool)):Prop:= ∀(pp:aA) (pt:aA) (r:(List aM)×Bool),m pp pt=some r→cE Tryz.prog 88 [(aA.pv pp),(aA.pv pt)] (.tup [n3 r.1,pB r.2]:PV)
def NF(fu:Nat)(pp pt:aA):Option ((List aM)×Bool):=
 bd (gE fu ([]) ([pp]:List aA) ([pt]:List aA)) (fun(x2,x3,x4)=>
 sw (x3)
 (gd (x2=x4)
 (some (x2,true)))
 (some (x2,false)))
theorem ac1(fu:Nat):ae2 (NF fu):=by
 intro pp pt r H
 have H:=fI H
 refine qI Tryz.func88 (fun C hC=>?_)
 refine qS (qR (q1 (jU (dJ pp)) (q1 (jU (dJ pt)) ?_)))
 iterate 2 refine q1 aF ?_
 refine qN (qS (qR (q1 (cV [pI pp.gKind,pS pp.gName,a4 pp.gArgs] cH) (q1 (iA ([pp]:List aA) dX gV) (q1 (cV [pI pt.gKind,pS pt.gName,a4 pt.gArgs] cH) (q1 (iA ([pt]:List aA) dX gV) (acW H fun x2 x3 x4 z1 H=>?_)))))))
 cases x3
 ·have H:=nQ H rfl
  refine q1 (aV.callF (res:= .tup [n3 x2,pB false]) (ps:= [_,_,_]) (qs:= [.nil,a4 ([pp]:List aA),a4 ([pt]:List aA)]) rfl rfl Tryz.func132 (by kernel_rfl) rfl rfl lH rfl rfl (cY.regNil (l1:= []) (l2:= [a4 ([pp]:List aA),a4 ([pt]:List aA)]) (E:=171) (sz:=4) (q:= .tup [n3 x2,pB false]) (by decide) (HM fu ([]) ([pp]:List aA) ([pt]:List aA) _ z1) lH rfl)) ?_
  iterate 2 refine q1 y1 ?_
  iterate 2 refine q1 aF ?_
  refine qN (aP.ret ?_)
  obtain rfl:_=r:=(aY H:)
  exact lB
 have H:=nR H rfl
 obtain⟨z5,H1⟩:=gdI H
 subst z5
 have H:=H1
 refine q1 (aV.callF (res:= .tup [n3 x2,pB true]) (ps:= [_,_,_]) (qs:= [.nil,a4 ([pp]:List aA),a4 ([pt]:List aA)]) rfl rfl Tryz.func132 (by kernel_rfl) rfl rfl lH rfl rfl (cY.regNil (l1:= []) (l2:= [a4 ([pp]:List aA),a4 ([pt]:List aA)]) (E:=171) (sz:=4) (q:= .tup [n3 x2,pB true]) (by decide) (HM fu ([]) ([pp]:List aA) ([pt]:List aA) _ z1) lH rfl)) ?_
 iterate 2 refine q1 y1 ?_
 iterate 2 refine q1 aF ?_
 refine qN (aP.ret ?_)
 obtain rfl:_=r:=(aY H:)
 exact lB
def Y2(m:aA→aA→Option Bool):Prop:= ∀(pp:aA) (pt:aA) (r:Bool),m pp pt=some r→cE Tryz.prog 42 [(aA.pv pp),(aA.pv pt)] (pB r:PV)
def NG(fu:Nat)(pp pt:aA):Option Bool:=
 bd (NF fu pp pt) (fun(x2,x3)=>
 some x3)
theorem VK(fu:Nat):Y2 (NG fu):=by
 intro pp pt r H
 have H:=fI H
 refine qI Tryz.func42 (fun C hC=>?_)
 refine qS (qR (q1 (jU (dJ pp)) (q1 (jU (dJ pt)) (q1 aF (qN (qS (qR (q1 (cV [pI pp.gKind,pS pp.gName,a4 pp.gArgs] cH) (q1 (cV [pI pt.gKind,pS pt.gName,a4 pt.gArgs] cH) (fK H fun x2 x3 z1 H=>(q1 (bI Tryz.func88 (ac1 fu pp pt _ z1)) (q1 aF ?_))))))))))))
 iterate 2 refine q1 y1 ?_
 iterate 2 refine q1 aF ?_
 refine qN (qS (qR ?_))
 iterate 2 refine q1 aF ?_
 refine qN (aP.ret ?_)
 obtain rfl:_=r:=(aY H:)
 exact bM
end
end Go.Proofs.YtpioomclpaiomaaGreat.W

namespace Go.Proofs.YtpioomclpaiomaaGreat.W
set_option linter.unusedSimpArgs false
set_option linter.unusedVariables false
open Go.RowKit Go.WalkArith
def M3(l:List aM)(v:ByteArray):Option aM:=l.find? (fun b=>decide (b.gVar=v))
mutual
def mH:aA→aA→List aM→Option (List aM)
 | .mk k n ps,t,s=>
  if k=1 then(match M3 s n with
   |some b=>if aA.eq b.gType t=true then some s else none
   |none=>some (s++ [aM.mk n t]))
  else if k=t.gKind then(if n=t.gName then(if ps.length=t.gArgs.length then mG ps t.gArgs s else none) else none) else none
def mG:List aA→List aA→List aM→Option (List aM)
 | [],_,s=>some s
 |p::ps,ts,s=>match ts with
  | []=>none
  |t::ts=>match mH p t s with
   |none=>none
   |some s'=>mG ps ts s'
end
theorem nd{p:Prop}[Decidable p](h: ¬p):(!decide p)=true:=by simp [h]
def wtl(l:List aA):Nat:=l.length+Tr.bulkAll (aA.trs l)
theorem PH(x:aA)(l:List aA):wtl (x::l)=1+Tr.bulkL x.tr+wtl l:=by simp only [wtl,aA.trs,Tr.bulkAll,List.length_cons];omega
theorem PG(k:Int)(n:ByteArray)(ps:List aA):wtl ps≤Tr.bulkL (aA.mk k n ps).tr:=CJ k n ps
def xP(s:List aM):Prop:= ∀b∈s,Tr.bulkL b.gType.tr≤68719476735
theorem M4{t x:aA}(h:x∈t.gArgs)(ht:Tr.bulkL t.tr≤68719476735):Tr.bulkL x.tr≤68719476735:=by
 obtain⟨k,n,ps⟩:=t
 have h1:=M5 (show x∈ps from h)
 have h2:=CJ k n ps
 omega
theorem KQ: ∀(ps:List aA),(∀x∈ps,∀t s s',mH x t s=some s'→xP s→Tr.bulkL t.tr≤68719476735→xP s'∧s'.length≤s.length+1+Tr.bulkL x.tr)→
 ∀ts s s',mG ps ts s=some s'→xP s→(∀t∈ts,Tr.bulkL t.tr≤68719476735)→xP s'∧s'.length≤s.length+wtl ps
 | [],_,ts,s,s',h,hb,_=>by
  rw [mG] at h
  obtain rfl:=Option.some.inj h
  exact⟨hb,by omega⟩
 |p::ps,hp,ts,s,s',h,hb,ht=>by
  cases ts with
  |nil=>simp [mG] at h
  |cons t ts=>
   rw [mG] at h
   cases hq:mH p t s with
   |none=>rw [hq] at h;cases h
   |some s1=>
    rw [hq] at h
    have h1:=hp p (by simp) t s s1 hq hb (ht t (by simp))
    have h2:=KQ ps (fun x hx=>hp x (List.mem_cons_of_mem _ hx)) ts s1 s' h h1.1 (fun x hx=>ht x (List.mem_cons_of_mem _ hx))
    have h3:=PH p ps
    exact⟨h2.1,by omega⟩
theorem ac8: ∀(p t:aA) (s s':List aM),mH p t s=some s'→xP s→Tr.bulkL t.tr≤68719476735→xP s'∧s'.length≤s.length+1+Tr.bulkL p.tr:=by
 refine aA.ind fun k n ps ih t s s' h hb ht=>?_
 have hw:=PG k n ps
 rw [mH] at h
 split at h
 ·split at h
  ·split at h
   ·obtain rfl:=Option.some.inj h
    exact⟨hb,by omega⟩
   ·cases h
  ·obtain rfl:=Option.some.inj h
   refine⟨fun b hb'=>?_,by simp only [List.length_append,List.length_singleton];omega⟩
   rcases List.mem_append.1 hb' with h1|h1
   ·exact hb b h1
   ·obtain rfl:=List.mem_singleton.1 h1
    exact ht
 ·split at h
  ·split at h
   ·split at h
    ·have h1:=KQ ps ih _ _ _ h hb (fun x hx=>M4 hx ht)
     exact⟨h1.1,by omega⟩
    ·cases h
   ·cases h
  ·cases h
def Res(o:Option (List aM))(m:Option (List aM×Bool×List aM)):Prop:=match o with
 |some s'=>m=some (s',true,s')
 |none=> ∃a b,m=some (a,false,b)
def aiU(o:Option (List aM))(m:Option ((List aM×Bool×List aM)⊕List aM)):Prop:=match o with
 |some s'=>m=some (.inr s')
 |none=> ∃a b,m=some (.inl (a,false,b))
def aiT(o:Option (List aM))(m:Option (LR (List aM) (List aM×Bool×List aM))):Prop:=match o with
 |some s'=>m=some (.next s')
 |none=> ∃a b,m=some (.ret (a,false,b))
theorem RF{F:Nat→List aM→Option (LR (List aM) (List aM×Bool×List aM))}{ps ts:List aA}(hlen:ps.length=ts.length)(ht: ∀t∈ts,Tr.bulkL t.tr≤68719476735)
 (hs: ∀i s,i<ps.length→xP s→s.length+1+Tr.bulkL (a3 ps i).tr≤68719476736→aiT (mH (a3 ps i) (a3 ts i) s) (F i s)):
 ∀(k i:Nat) (s:List aM),ps.length-i=k→xP s→s.length+wtl (ps.drop i)≤68719476736→aiU (mG (ps.drop i) (ts.drop i) s) (loopN F (ps.length-i) i s)
 |0,i,s,hk,_,_=>by
  rw [List.drop_of_length_le (show ps.length≤i by omega),mG]
  exact CT (by omega)
 |k+1,i,s,hk,hb,hw=>by
  have hi:i<ps.length:=by omega
  have hi2:i<ts.length:=by omega
  rw [vI hi,PH] at hw
  have h1:=hs i s hi hb (by omega)
  rw [vI hi,vI hi2,mG]
  cases hq:mH (a3 ps i) (a3 ts i) s with
  |none=>
   rw [hq] at h1
   obtain⟨a,b,h1⟩:=h1
   exact⟨a,b,I8 hi h1⟩
  |some s'=>
   rw [hq] at h1
   have h2:=ac8 _ _ _ _ hq hb (ht _ (kL hi2))
   have h3:=RF hlen ht hs k (i+1) s' (by omega) h2.1 (by omega)
   rw [zO hi h1]
   exact h3
theorem NQ{F:Nat→List aM→Option (LR (List aM) (List aM×Bool×List aM))}{ps ts:List aA}(hlen:ps.length=ts.length)(ht: ∀t∈ts,Tr.bulkL t.tr≤68719476735)
 (hs: ∀i s,i<ps.length→xP s→s.length+1+Tr.bulkL (a3 ps i).tr≤68719476736→aiT (mH (a3 ps i) (a3 ts i) s) (F i s)) {s:List aM} (hb:xP s) (hw:s.length+wtl ps≤68719476736):aiU (mG ps ts s) (loopN F (ps.length-0) 0 s):=by
 have:=RF hlen ht hs ps.length 0 s (by omega) hb (by rwa [List.drop_zero])
 rwa [List.drop_zero,List.drop_zero] at this
theorem ZE(fu:Nat)(l:List aM)(v:ByteArray)(hb:xP l):CY fu l v=some (match M3 l v with
 |some b=>(b.gType,true)
 |none=>(aA.mk 0 (⟨#[]⟩) [],false)):=by
 unfold CY N7
 rw [BP (p:=fun b=>decide (b.gVar=v)) (r:=fun b=>(b.gType,true)) (fun i hi=>by
  unfold N6
  cases h:decide ((a3 l i).gVar=v)
  ·simp [sw,h]
  ·simp only [sw,h]
   rw [uG (hb _ (kL hi)) rfl]
   simp)]
 unfold M3
 cases l.find? (fun b=>decide (b.gVar=v))<;>rfl
def SMS(fu:Nat)(p:aA):Prop:= ∀(t:aA) (s:List aM),Tr.bulkL t.tr≤68719476735→xP s→s.length+1+Tr.bulkL p.tr≤68719476736→Res (mH p t s) (lQ fu p t s)
theorem ab8{fu:Nat}{ps:List aA}(hf: ∀x∈ps,SMS fu x){ts:List aA}{s:List aM}(hlen:ps.length=ts.length)(ht: ∀t∈ts,Tr.bulkL t.tr≤68719476735)(hb:xP s)(hw:s.length+wtl ps≤68719476736):Res (mG ps ts s) (m7 (fu+1) ps ts s):=by
 have hl:=NQ (F:=KD fu (m7 fu) (lQ fu) ps ts s) hlen ht (fun i s hi hb hw=>by
  have h1:=hf (a3 ps i) (kL hi) (a3 ts i) s (ht _ (kL (by omega))) hb hw
  unfold KD
  cases hq:mH (a3 ps i) (a3 ts i) s with
  |none=>
   rw [hq] at h1
   obtain⟨a,b,h1⟩:=h1
   exact⟨_,b,uG (by omega) (GY h1 rfl)⟩
  |some s'=>
   rw [hq] at h1
   exact uG (by omega) (GY h1 (EV rfl (uG rfl rfl)))) hb hw
 rw [m7,O8]
 unfold RL
 cases hq:mG ps ts s with
 |none=>
  rw [hq] at hl
  obtain⟨a,b,hl⟩:=hl
  exact⟨a,b,soL hl⟩
 |some s'=>
  rw [hq] at hl
  exact soR hl rfl
theorem adC: ∀p:aA,bZ fun fu=>SMS fu p:=by
 refine aA.ind fun k n ps ih=>?_;refine bZ.succ (bZ.succ ((bZ.list ih).imp fun fu hf t s ht hb hw=>?_))
 have hwa:=PG k n ps
 rw [lQ,GP,mH]
 simp only [aA.gKind_mk,aA.gName_mk,aA.gArgs_mk]
 by_cases hk:k=1
 ·rw [if_pos hk,ZE _ s n hb]
  cases hq:M3 s n with
  |some b=>
   cases he:aA.eq b.gType t with
   |true=>
    show Res (if aA.eq b.gType t=true then some s else none) _
    rw [if_pos he]
    show _=some (s,true,s)
    refine EV (decide_eq_true hk) (GY rfl (EV rfl (EV he ?_)))
    simp only [he]
   |false=>
    show Res (if aA.eq b.gType t=true then some s else none) _
    rw [if_neg (by simp [he])]
    refine⟨s,s,?_⟩
    refine EV (decide_eq_true hk) (GY rfl (EV rfl (uL he ?_)))
    simp only [he]
  |none=>
   show _=some (s++ [aM.mk n t],true,s++ [aM.mk n t])
   exact EV (decide_eq_true hk) (GY rfl (uL rfl (uG ht (uG (by simp only [List.length_singleton];omega) rfl))))
 ·rw [if_neg hk]
  by_cases h1:k=t.gKind
  ·rw [if_pos h1]
   by_cases h2:n=t.gName
   ·rw [if_pos h2]
    by_cases h3:ps.length=t.gArgs.length
    ·rw [if_pos h3]
     have ha:=ab8 hf (s:=s) h3 (fun x hx=>M4 hx ht) hb (by omega)
     cases hq:mG ps t.gArgs s with
     |none=>
      rw [hq] at ha
      obtain⟨a,b,ha⟩:=ha
      exact⟨_,_,uL (by simp [hk]) (uL (by simp [h1]) (uL (by simp [h2]) (uL (by simp [h3])<|GY ha (uL rfl rfl))))⟩
     |some s'=>
      rw [hq] at ha
      exact uL (by simp [hk]) (uL (by simp [h1]) (uL (by simp [h2]) (uL (by simp [h3])<|GY ha (EV rfl (uG rfl rfl)))))
    ·rw [if_neg h3]
     exact⟨_,_,uL (by simp [hk]) (uL (by simp [h1]) (uL (by simp [h2]) (EV (nd (fun h=>h3 (Int.ofNat_inj.1 h))) rfl)))⟩
   ·rw [if_neg h2]
    exact⟨_,_,uL (by simp [hk]) (uL (by simp [h1]) (EV (by simp [h2]) rfl))⟩
  ·rw [if_neg h1]
   exact⟨_,_,uL (by simp [hk]) (EV (by simp [h1]) rfl)⟩
theorem Y0(fu:Nat)(l:List aM)(v:ByteArray)(hb:xP l):CP fu l v=some (match M3 l v with
 |some b=>(b.gType,true)
 |none=>(aA.mk 0 (⟨#[]⟩) [],false)):=by
 unfold CP NE
 rw [BP (p:=fun b=>decide (b.gVar=v)) (r:=fun b=>(b.gType,true)) (fun i hi=>by
  unfold ND
  cases h:decide ((a3 l i).gVar=v)
  ·simp [sw,h]
  ·simp only [sw,h]
   rw [uG (hb _ (kL hi)) rfl]
   simp)]
 unfold M3
 cases l.find? (fun b=>decide (b.gVar=v))<;>rfl
def IMS(fu:Nat)(p:aA):Prop:= ∀(t:aA) (s:List aM),Tr.bulkL t.tr≤68719476735→xP s→s.length+1+Tr.bulkL p.tr≤68719476736→Res (mH p t s) (pF fu s p t)
theorem abZ{fu:Nat}{ps:List aA}(hf: ∀x∈ps,IMS fu x){ts:List aA}{s:List aM}(hlen:ps.length=ts.length)(ht: ∀t∈ts,Tr.bulkL t.tr≤68719476735)(hb:xP s)(hw:s.length+wtl ps≤68719476736):Res (mG ps ts s) (gE (fu+1) s ps ts):=by
 have hl:=NQ (F:=zK fu (gE fu) (pF fu) s ps ts) hlen ht (fun i s hi hb hw=>by
  have h1:=hf (a3 ps i) (kL hi) (a3 ts i) s (ht _ (kL (by omega))) hb hw
  unfold zK
  cases hq:mH (a3 ps i) (a3 ts i) s with
  |none=>
   rw [hq] at h1
   obtain⟨a,b,h1⟩:=h1
   exact⟨_,b,uG (by omega) (GY h1 rfl)⟩
  |some s'=>
   rw [hq] at h1
   exact uG (by omega) (GY h1 (EV rfl (uG rfl rfl)))) hb hw
 rw [gE,wK]
 rw [show sw (!decide (((ps.length:Nat):Int)=((ts.length:Nat):Int)))=fun(x y:Option (List aM×Bool×List aM))=>y by funext x y;exact uL (by simp [hlen]) rfl]
 unfold HL
 cases hq:mG ps ts s with
 |none=>
  rw [hq] at hl
  obtain⟨a,b,hl⟩:=hl
  exact⟨a,b,soL hl⟩
 |some s'=>
  rw [hq] at hl
  exact soR hl rfl
theorem ac0: ∀p:aA,bZ fun fu=>IMS fu p:=by
 refine aA.ind fun k n ps ih=>?_;refine bZ.succ (bZ.succ ((bZ.list ih).imp fun fu hf t s ht hb hw=>?_))
 have hwa:=PG k n ps
 rw [pF,NK,mH]
 simp only [aA.gKind_mk,aA.gName_mk,aA.gArgs_mk]
 by_cases hk:k=1
 ·rw [if_pos hk,Y0 _ s n hb]
  cases hq:M3 s n with
  |some b=>
   cases he:aA.eq b.gType t with
   |true=>
    show Res (if aA.eq b.gType t=true then some s else none) _
    rw [if_pos he]
    show _=some (s,true,s)
    refine EV (decide_eq_true hk) (GY rfl (EV rfl (EV he ?_)))
    simp only [he]
   |false=>
    show Res (if aA.eq b.gType t=true then some s else none) _
    rw [if_neg (by simp [he])]
    refine⟨s,s,?_⟩
    refine EV (decide_eq_true hk) (GY rfl (EV rfl (uL he ?_)))
    simp only [he]
  |none=>
   show _=some (s++ [aM.mk n t],true,s++ [aM.mk n t])
   exact EV (decide_eq_true hk) (GY rfl (uL rfl (uG ht (uG (by simp only [List.length_singleton];omega) rfl))))
 ·rw [if_neg hk]
  by_cases h1:k=t.gKind
  ·rw [if_pos h1]
   by_cases h2:n=t.gName
   ·rw [if_pos h2]
    by_cases h3:ps.length=t.gArgs.length
    ·rw [if_pos h3]
     have ha:=abZ hf (s:=s) h3 (fun x hx=>M4 hx ht) hb (by omega)
     cases hq:mG ps t.gArgs s with
     |none=>
      rw [hq] at ha
      obtain⟨a,b,ha⟩:=ha
      exact⟨_,_,uL (by simp [hk]) (uL (by simp [h1]) (uL (by simp [h2]) (GY ha (uL rfl rfl))))⟩
     |some s'=>
      rw [hq] at ha
      exact uL (by simp [hk]) (uL (by simp [h1]) (uL (by simp [h2]) (GY ha (EV rfl (uG rfl rfl)))))
    ·rw [if_neg h3]
     have ha:gE (fu+1) s ps t.gArgs=some ([],false,s):=by
      rw [gE,wK]
      exact EV (nd (fun h=>h3 (Int.ofNat_inj.1 h))) rfl
     exact⟨_,_,uL (by simp [hk]) (uL (by simp [h1]) (uL (by simp [h2]) (GY ha (uL rfl rfl))))⟩
   ·rw [if_neg h2]
    exact⟨_,_,uL (by simp [hk]) (uL (by simp [h1]) (EV (by simp [h2]) rfl))⟩
  ·rw [if_neg h1]
   exact⟨_,_,uL (by simp [hk]) (EV (by simp [h1]) rfl)⟩
def nM(p t:aA):Bool:=(mH p t []).isSome
theorem xP.nil:xP []:=fun b hb=>by simp at hb
theorem NP(p t:aA):mG [p] [t] []=mH p t []:=by
 rw [mG]
 cases hq:mH p t [] with
 |none=>simp [hq]
 |some s=>simp [hq,mG]
theorem acD(p:aA):wtl [p]=1+Tr.bulkL p.tr:=by rw [PH];simp [wtl,aA.trs,Tr.bulkAll]
theorem KS(p t:aA)(hp:Tr.bulkL p.tr≤68719476735)(ht:Tr.bulkL t.tr≤68719476735):cE Tryz.prog 99 [(aA.pv p),(aA.pv t)] (.t (.leaf (.bool (nM p t)))):=by
 obtain⟨fu,hf⟩:=(adC p).get
 refine VZ (fu+1) p t _ ?_
 have h1:=ab8 (fu:=fu) (ps:= [p]) (by simpa using hf) (ts:= [t]) (s:= []) rfl (by simpa using ht) xP.nil (by rw [acD];simp only [List.length_nil];omega)
 rw [NP] at h1
 unfold N9 N8 BU nM
 cases hq:mH p t [] with
 |none=>
  rw [hq] at h1
  obtain⟨a,b,h1⟩:=h1
  exact GY (GY (uL rfl (GY h1 (uL rfl rfl))) rfl) rfl
 |some s=>
  rw [hq] at h1
  exact GY (GY (uL rfl (GY h1 (EV rfl (uG rfl rfl)))) rfl) rfl
theorem KL(p t:aA)(hp:Tr.bulkL p.tr≤68719476735)(ht:Tr.bulkL t.tr≤68719476735):cE Tryz.prog 42 [(aA.pv p),(aA.pv t)] (.t (.leaf (.bool (nM p t)))):=by
 obtain⟨fu,hf⟩:=(ac0 p).get
 refine VK (fu+1) p t _ ?_
 have h1:=abZ (fu:=fu) (ps:= [p]) (by simpa using hf) (ts:= [t]) (s:= []) rfl (by simpa using ht) xP.nil (by rw [acD];simp only [List.length_nil];omega)
 rw [NP] at h1
 unfold NG NF nM
 cases hq:mH p t [] with
 |none=>
  rw [hq] at h1
  obtain⟨a,b,h1⟩:=h1
  exact GY (GY h1 (uL rfl rfl)) rfl
 |some s=>
  rw [hq] at h1
  exact GY (GY h1 (EV rfl (uG rfl rfl))) rfl
end Go.Proofs.YtpioomclpaiomaaGreat.W
