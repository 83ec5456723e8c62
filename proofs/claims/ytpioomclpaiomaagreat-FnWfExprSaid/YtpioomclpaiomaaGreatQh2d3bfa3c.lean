/- Words, rules and walks of several kinds, laid together: OkH, OkA3, OkA4, OkA5, OkA6, OkD, OkA7, WFnd, WRef, WVis, MaWf. No conditions but those that each theorem states. -/
import Derived.Test.YtpioomclpaiomaaGreatQhcea472ae
import Derived.Test.YtpioomclpaiomaaGreatQh270167b8
import Derived.Test.YtpioomclpaiomaaGreatQh38b1491e
import Derived.Test.YtpioomclpaiomaaGreatQh7b7fa178
import Derived.Test.YtpioomclpaiomaaGreatQh73782e98
set_option linter.unusedSimpArgs false
set_option linter.unusedVariables false
namespace Go.Proofs.YtpioomclpaiomaaGreat.W
open Go.RowKit Go.WalkArith Go.IntWalk
theorem apF(d:DS)(l:LB):0<l.length→(d.pick l).size+1≤wl l:=fun h=>by
 have:=aoR (d.pick_mem h)
 exact this
theorem akU(d:DS)(n:Nat):0<n→d.below n<n:=fun h=>d.below_lt h
theorem aoS(E:Int): -9223372036854775808≤aQ E∧aQ E≤9223372036854775807:=by
 unfold aQ IntKind.wrap
 simp [IntKind.bits,IntKind.signed]
 omega
inductive JJ:aG→Prop
 |mk {k:Int} {t n:ByteArray} {i:Int} {ty:aB} {args:List aG} {arms:List bA} (h:(k=2→0≤i∧i≤1)∧(k=1→i.natAbs≤9223372036854775808)) (ha: ∀a∈args,JJ a) (hm: ∀m∈arms,JJ m.gBody):JJ (.mk k t n i ty args arms)
theorem JJ.num{e:aG}(h:JJ e):(e.gKind=2→0≤e.gN∧e.gN≤1)∧(e.gKind=1→e.gN.natAbs≤9223372036854775808):=by cases h;assumption
theorem JJ.arg{e:aG}(h:JJ e): ∀a∈e.gArgs,JJ a:=by cases h;assumption
theorem JJ.arm{e:aG}(h:JJ e): ∀m∈e.gArms,JJ m.gBody:=by cases h;assumption
theorem JJ.zero:JJ (aG.mk 0 s_ s_ 0 (aB.mk 0 s_ []) [] []):= .mk ⟨by omega,by omega⟩ (by simp) (by simp)
section
variable {α:Type}
theorem ajL{P:α→Prop}: ∀a∈([]:List α),P a:=by simp
theorem am0{P:α→Prop}{l:List α}{x:α}(h: ∀a∈l,P a)(hx:P x): ∀a∈l++ [x],P a:=by
 intro a ha
 rcases List.mem_append.1 ha with ha|ha
 ·exact h a ha
 ·obtain rfl:=List.mem_singleton.1 ha
  exact hx
theorem YZ [Inhabited α]{P:α→Prop}{l:List α}{i:Nat}(h: ∀a∈l,P a)(hi:i<l.length):P (aW l i):=h _ (GQ hi)
variable [Wt α]
theorem agF(a:List α)(x:α):(a.length=0→wl (List.drop 1 (a++ [x]))=0)∧(0<a.length→wl (List.drop 1 (a++ [x]))=wl (List.drop 1 a)+wt x+1):=by
 cases a with
 |nil=>exact⟨fun _=>rfl,fun h=>by simp at h⟩
 |cons b a=>exact⟨fun h=>by simp at h,fun _=>by simp only [List.cons_append,List.drop_succ_cons,List.drop_zero];rw [(b6 _ _).1,(cE _).1];omega⟩
theorem ar7(v:List α):wl (List.drop (1:Int).toNat (List.take (((v.length:Nat):Int):Int).toNat v))=wl (List.drop 1 v):=by
 have:List.take (((v.length:Nat):Int):Int).toNat v=v:=by simp
 rw [this]
 rfl
theorem xW(L:List α)(x:Int)(k:Nat):(((k:Int)≤((L.length:Nat):Int)∧x=k)∨(((L.length:Nat):Int)≤k∧x=((L.length:Nat):Int)))→wl (List.drop (x:Int).toNat (List.take (((L.length:Nat):Int):Int).toNat L))+wl (List.take k L)≤wl L:=by
 have e:List.take (((L.length:Nat):Int):Int).toNat L=L:=by simp
 rw [e]
 rintro(⟨h,rfl⟩|⟨h,rfl⟩)
 ·have:=GL k L
  simp only [Int.toNat_natCast]
  omega
 ·simp only [Int.toNat_natCast,List.drop_length]
  have:=oJ L k
  show 0+_≤_
  omega
theorem apE(L:List α)(x:Int):(((2:Int)≤((L.length:Nat):Int)∧x=2)∨(((L.length:Nat):Int)≤2∧x=((L.length:Nat):Int)))→wl (List.drop (1:Int).toNat (List.take (x:Int).toNat L))+wl (List.take 1 L)≤wl (List.take 2 L):=by
 have key: ∀M:List α,wl (List.drop (1:Int).toNat M)+wl (List.take 1 M)=wl M:=fun M=>by
  have:=GL 1 M
  show wl (List.drop 1 M)+_=_
  omega
 rintro(⟨h,rfl⟩|⟨h,rfl⟩)
 ·have:=key (L.take 2)
  rw [List.take_take] at this
  exact Nat.le_of_eq this
 ·have h2:L.length≤2:=by omega
  have:=key L
  rw [show List.take (((L.length:Nat):Int):Int).toNat L=L by simp,List.take_of_length_le h2]
  exact Nat.le_of_eq this
variable [Inhabited α]
theorem agR(L:List α)(a b c:α)(k k1:Nat)(hk:k+1=k1):(k<L.length→wt (aW ((([])++L)++([a,b,c]:List α)) k)+1+wl (List.take k L)=wl (List.take k1 L))∧(L.length≤k→k<L.length+3→wt (aW ((([])++L)++([a,b,c]:List α)) k)≤wt a+wt b+wt c∧wl (List.take k L)=wl L∧wl (List.take k1 L)=wl L)∧wl (List.take k1 L)≤wl L:=by
 subst hk
 rw [List.nil_append]
 refine⟨fun h=>?_,fun h h3=>⟨?_,by rw [List.take_of_length_le h],by rw [List.take_of_length_le (by omega)]⟩,oJ L _⟩
 ·have h2:=oM L k h
  have e:aW (L++ [a,b,c]) k=aW L k:=by
   unfold aW
   rw [List.getElem?_append_left h]
  rw [e]
  omega
 ·have e:aW (L++ [a,b,c]) k=aW [a,b,c] (k-L.length):=by
   unfold aW
   rw [List.getElem?_append_right h]
  rw [e]
  have:k-L.length=0∨k-L.length=1∨k-L.length=2:=by omega
  rcases this with h|h|h<;>rw [h]<;>simp [aW]<;>omega
end
theorem oX{α β:Type}[Wt α]{v:List α}{x:α}{PA:α→Prop}{E:List α→Prop}{Q:β→Prop}{m:List α→Prop}(hB: ∀a∈v,PA a)(h:m (v++ [x]):=by first|omega|(dsimp only;omega))(hx:PA x:=by first|assumption|exact JJ.zero):Ok (some (LR.next (v++ [x]))) (PL Q (fun v=>m v∧ ∀a∈v,PA a) E):=⟨_,rfl,h,am0 hB hx⟩
theorem oS2{α:Type}{P1 P2:α→Prop}{a:α}(h:P1 a:=by first|omega|(dsimp only;omega))(k:P2 a:=by first|assumption|exact JJ.zero|exact .mk ⟨by omega,by omega⟩ (by first|assumption|exact ajL) (by first|assumption|exact ajL)):Ok (some a) (fun a=>P1 a∧P2 a):=⟨a,rfl,h,k⟩
def arW(p r:cP):Prop:=r.gs=p.gs∧p.gat≤r.gat∧r.gat≤((p.gs.size:Nat):Int)∧r.gdeep=p.gdeep∧r.gbad=p.gbad
def XT(fu:Nat):Prop:= ∀p:cP,0≤p.gat→p.gat≤((p.gs.size:Nat):Int)→p.gs.size≤1048576→Ok (yM fu p) (arW p)
theorem X7:cH XT:=(cH.ge 2147483648).imp fun fu hfu p h0 h1 h2=>by
 unfold yM
 refine Ok.sok (E:=fun v1=>p.gat≤v1∧v1≤((p.gs.size:Nat):Int)) ?_ (fun v1 h=>Ok.some ⟨rfl,h.1,h.2,rfl,rfl⟩)
 unfold V0
 refine Ok.loopW (fun v1=>p.gat≤v1∧v1≤((p.gs.size:Nat):Int)) (fun v1=>(((p.gs.size:Nat):Int)-v1).toNat) ?_ _ _ bQ bQ
 intro v1 hI
 have:=eT (v1+1)
 unfold VZ
 refine Ok.swd (fun g=>?_) (fun g=>Ok.brk hI)
 refine Ok.gdk bQ (fun z=>?_)
 refine Ok.swd (fun _=>Ok.next bQ) (fun _=>?_)
 refine Ok.swd (fun _=>Ok.next bQ) (fun _=>Ok.brk hI)
def acF(p:cP)(r:aA×cP):Prop:=r.2.gs=p.gs∧p.gat≤r.2.gat∧r.2.gat≤((p.gs.size:Nat):Int)∧(r.2.gbad=false→r.2.gdeep=p.gdeep∧(wt r.1:Int)+1≤2*(r.2.gat-p.gat))
def amX(n:Nat)(r:cP→Option (aA×cP)):Prop:= ∀p:cP,(14-p.gdeep).toNat<n→0≤p.gat→p.gat≤((p.gs.size:Nat):Int)→p.gs.size≤1048576→0≤p.gdeep→p.gdeep≤14→p.gbad=false→Ok (r p) (acF p)
theorem aiH(n fu:Nat)(hfu:2147483648≤fu)(k1:XT fu)(k2:XR fu)(r:tN)(hr:amX n r):amX (n+1) (HA fu r):=by
 intro p hn h0 h1 h2 hd hd2 hb
 unfold HA
 refine Ok.bd (k1 p h0 h1 h2) ?_;rintro x ⟨e1,e2,e3,e4,e5⟩
 have e3':x.gat≤((x.gs.size:Nat):Int):=by rw [e1];exact e3
 have bad: ∀v:Int,p.gat≤v→v≤((p.gs.size:Nat):Int)→Ok (some ((aA.mk s_ []),(cP.mk x.gs v x.gdeep (aQ (x.gsize+1)) true))) (acF p):=fun v hv hv2=>Ok.some ⟨e1,hv,hv2,fun h=>by cases h⟩
 refine Ok.swd (fun _=>bad _ e2 e3) (fun g1=>?_)
 refine Ok.swd (fun _=>bad _ e2 e3) (fun g2=>?_)
 refine Ok.sok (E:=fun v=>x.gat≤v∧v≤((x.gs.size:Nat):Int)) ?_ ?_
 ·unfold VX
  have hz:x.gs.size≤1048576:=by rw [e1];exact h2
  refine Ok.loopW (fun v1=>x.gat≤v1∧v1≤((x.gs.size:Nat):Int)) (fun v1=>(((x.gs.size:Nat):Int)-v1).toNat) ?_ _ _ bQ bQ
  intro v1 hI
  have:=eT (v1+1)
  unfold VV
  refine Ok.swd (fun g=>?_) (fun g=>Ok.brk hI)
  refine Ok.gdk bQ (fun z=>?_)
  refine Ok.bd (k2 _) ?_;rintro b-
  exact Ok.sw (fun _=>Ok.next bQ) (fun _=>Ok.brk hI)
 intro v hv
 refine Ok.swd (fun g3=>?_) (fun g3=>?_)
 ·refine Ok.gdk bQ (fun z=>Ok.some ⟨e1,by show _≤v;omega,by show v≤_;rw [← e1];exact hv.2,fun _=>⟨e4,?_⟩⟩)
  show(wt (aA.mk _ []):Int)+1≤2*(v-p.gat)
  rw [aA.wt_mk,C2]
  have:wl ([]:List aA)=0:=rfl
  omega
 ·refine Ok.gdk bQ (fun z=>?_)
  have hvp:v≤((p.gs.size:Nat):Int):=by rw [← e1];exact hv.2
  refine Ok.swn (fun _=>bad _ (by omega) hvp) (fun g4=>?_)
  refine Ok.swd (fun _=>bad _ (by omega) hvp) (fun g5=>?_)
  have w1:=eT (v+1)
  have w2:=eT (x.gdeep+1)
  have hz:x.gs.size≤1048576:=by rw [e1];exact h2
  refine Ok.sok (E:=fun(q:ByteArray×Int×Int×Int×Bool×List aA)=>q.1=p.gs∧p.gat≤q.2.1∧q.2.1≤((p.gs.size:Nat):Int)∧q.2.2.2.2.1=true) ?_ ?_
  ·unfold VY
   refine Ok.loopW (fun(q:ByteArray×Int×Int×Int×Bool×List aA)=>q.1=p.gs∧v+1≤q.2.1∧q.2.1≤((p.gs.size:Nat):Int)∧(q.2.2.2.2.1=false→q.2.2.1=p.gdeep+1∧(wl q.2.2.2.2.2:Int)≤2*(q.2.1-(v+1)))) (fun q=>(2*(((p.gs.size:Nat):Int)-q.2.1)).toNat+(if q.2.2.2.2.1 then 0 else 1)) ?_ _ _ ?_ ?_
   ·rintro⟨v17,v18,v19,v20,v21,v23⟩ ⟨i1,i2,i3,i4⟩
    dsimp only at i1 i2 i3 i4
    subst i1
    unfold VW
    refine Ok.swb (fun g6=>?_) (fun g6=>Ok.brk ⟨rfl,by show p.gat≤v18;omega,i3,g6⟩)
    subst g6
    obtain⟨i5,i6⟩:=i4 rfl
    subst i5
    refine Ok.bd (k1 _ (by show 0≤v18;omega) i3 h2) ?_;rintro y ⟨f1,f2,f3,f4,f5⟩
    replace f1:y.gs=p.gs:=f1
    replace f2:v18≤y.gat:=f2
    replace f3:y.gat≤((p.gs.size:Nat):Int):=f3
    replace f4:y.gdeep=p.gdeep+1:=f4
    replace f5:y.gbad=false:=f5
    have hl:=aY v23
    have step: ∀q:aA×cP,acF y q→Ok (gd ((v23).length+(([q.1]:List aA)).length≤68719476736) (some (LR.next (q.2.gs,q.2.gat,q.2.gdeep,q.2.gsize,q.2.gbad,(v23++([q.1]:List aA)))))) (PL (acF p) (fun s'=>(fun(q:ByteArray×Int×Int×Int×Bool×List aA)=>q.1=p.gs∧v+1≤q.2.1∧q.2.1≤((p.gs.size:Nat):Int)∧(q.2.2.2.2.1=false→q.2.2.1=p.gdeep+1∧(wl q.2.2.2.2.2:Int)≤2*(q.2.1-(v+1)))) s'∧(fun(q:ByteArray×Int×Int×Int×Bool×List aA)=>(2*(((p.gs.size:Nat):Int)-q.2.1)).toNat+(if q.2.2.2.2.1 then 0 else 1)) s'<(fun(q:ByteArray×Int×Int×Int×Bool×List aA)=>(2*(((p.gs.size:Nat):Int)-q.2.1)).toNat+(if q.2.2.2.2.1 then 0 else 1)) (p.gs,v18,p.gdeep+1,v20,false,v23)) (fun(q:ByteArray×Int×Int×Int×Bool×List aA)=>q.1=p.gs∧p.gat≤q.2.1∧q.2.1≤((p.gs.size:Nat):Int)∧q.2.2.2.2.1=true)):=by
     rintro⟨a,b⟩ ⟨j1,j2,j3,j4⟩
     dsimp only at j1 j2 j3 j4
     have j3':b.gat≤((p.gs.size:Nat):Int):=by rw [← f1];exact j3
     have l1:=cE a
     refine Ok.gdk (by dsimp only;omega) (fun _=>Ok.next ⟨⟨j1.trans f1,by show v+1≤b.gat;omega,j3',fun hb2=>?_⟩,?_⟩)
     ·obtain⟨j5,j6⟩:=j4 hb2
      refine⟨by show b.gdeep=_;rw [j5,f4],?_⟩
      show(wl (v23++ [a]):Int)≤2*(b.gat-(v+1))
      have:=b6 v23 [a]
      omega
     ·dsimp only
      cases hbb:b.gbad with
      |true=>simp;omega
      |false=>
       obtain⟨j5,j6⟩:=j4 hbb
       simp
       omega
    have call:Ok (r y) (acF y):=hr y (by rw [f4];omega) (by omega) (by rw [f1];exact f3) (by rw [f1];exact h2) (by rw [f4];omega) (by rw [f4];omega) f5
    have w3:=eT (y.gat+1)
    have w4:=eT (y.gdeep-1)
    have hys:y.gs.size=p.gs.size:=by rw [f1]
    refine Ok.swd (fun g7=>?_) (fun g7=>Ok.bd call step)
    refine Ok.gdk (by omega) (fun z2=>?_)
    refine Ok.swd (fun g8=>Ok.ret ⟨f1,by show p.gat≤aQ _;omega,by show aQ _≤_;omega,fun _=>⟨by show aQ _=_;omega,?_⟩⟩) (fun g8=>Ok.bd call step)
    show(wt (aA.mk s_ v23):Int)+1≤2*(aQ (y.gat+1)-p.gat)
    rw [aA.wt_mk]
    have:s_.size=0:=rfl
    omega
   ·dsimp only
    have: ∀b:Bool,(if b then 0 else 1)≤1:=by decide
    have:=this x.gbad
    omega
   ·have hxs:x.gs.size=p.gs.size:=by rw [e1]
    refine⟨e1,by dsimp only;omega,by dsimp only;omega,fun _=>⟨by dsimp only;omega,?_⟩⟩
    show((wl ([]:List aA):Nat):Int)≤2*(aQ (v+1)-(v+1))
    have:wl ([]:List aA)=0:=rfl
    omega
  ·rintro⟨v17,v18,v19,v20,v21,v23⟩ ⟨i1,i2,i3,i4⟩
   dsimp only at i1 i2 i3 i4
   exact Ok.some ⟨i1,i2,i3,fun h=>by rw [show v21=false from h] at i4;cases i4⟩
theorem al8(n:Nat):cH fun fu=>amX n (rJ fu):=by
 induction n with
 |zero=>exact .all fun fu p h=>absurd h (Nat.not_lt_zero _)
 |succ n ih=>
  refine cH.succ ((ih.and (((cH.ge 2147483648).and X7).and GW)).imp fun fu h=>?_)
  intro p
  rw [rJ]
  exact aiH n fu h.2.1.1 h.2.1.2 h.2.2 _ h.1 p
def WG(fu:Nat):Prop:= ∀ps:ByteArray,ps.size≤1048576→Ok (vP fu ps) (fun r=>wt r.1≤2*ps.size)
theorem BE:cH WG:=(((al8 15).and X7).and cN).imp fun fu hh ps h=>by
 obtain⟨⟨k1,k2⟩,k3⟩:=hh
 have zero: ∀b:Bool,Ok (some ((aA.mk s_ []),b)) (fun r=>wt r.1≤2*ps.size):=fun b=>Ok.some (by
  show wt (aA.mk s_ [])≤_
  rw [aA.wt_mk]
  have:s_.size=0:=rfl
  have:wl ([]:List aA)=0:=rfl
  omega)
 unfold vP
 refine Ok.bd (k1 _ (by show(14-(0:Int)).toNat<15;omega) (Int.le_refl _) (by show(0:Int)≤_;omega) h (Int.le_refl _) (by show(0:Int)≤14;omega) rfl) ?_;rintro⟨x,r⟩ ⟨e1,e2,e3,e4⟩
 dsimp only at e1 e2 e3 e4
 replace e1:r.gs=ps:=e1
 replace e2:0≤r.gat:=e2
 replace e3:r.gat≤((ps.size:Nat):Int):=e3
 refine Ok.bd (k2 r e2 (by rw [e1];exact e3) (by rw [e1];exact h)) ?_;rintro y ⟨f1,f2,f3,f4,f5⟩
 refine Ok.sw (fun _=>zero _) (fun g=>?_)
 obtain⟨-,e5⟩:=e4 (by rw [← f5];exact g)
 replace e5:(wt x:Int)+1≤2*(r.gat-0):=e5
 refine Ok.swn (fun _=>zero _) (fun _=>?_)
 refine Ok.bd (k3 x (by omega)) ?_;rintro b-
 exact Ok.swb (fun _=>zero _) (fun _=>Ok.some (by show wt x≤_;omega))
theorem arN{v:Int}{k:Nat}(h:v.natAbs<10^(k+1)):(v.tdiv 10).natAbs<10^k:=by
 rw [Int.natAbs_tdiv,Nat.pow_succ] at*
 show v.natAbs/10<_
 omega
def CZ(fu:Nat):Prop:= ∀pn:Int,pn.natAbs≤9223372036854775808→Ok (n3 fu pn) (fun r=>r.size≤21)
theorem mI:cH CZ:=(cH.ge 18446744073709551616).imp fun fu hfu pn h=>by
 unfold n3
 refine Ok.swd (fun _=>Ok.some (by decide)) (fun _=>?_)
 refine Ok.sok (E:=fun q:Int×ByteArray=>q.2.size≤20) ?_ ?_
 ·unfold I4
  refine Ok.loopW (fun q:Int×ByteArray=>q.1.natAbs≤9223372036854775808∧ ∃k,q.2.size+k≤19∧q.1.natAbs<10^k) (fun q=>q.1.natAbs) ?_ _ _ (by dsimp only;omega) ⟨h,19,by show(0:Nat)+19≤19;omega,by dsimp only;omega⟩
  rintro⟨v2,v3⟩ ⟨h1,k,h2,h3⟩
  dsimp only at h1 h2 h3
  unfold I3
  refine Ok.swn (fun g=>?_) (fun _=>Ok.brk (by dsimp only;omega))
  obtain⟨k,rfl⟩: ∃m,k=m+1:=by
   rcases k with _|m
   ·exfalso
    have:(10:Nat)^0=1:=rfl
    omega
   ·exact⟨m,rfl⟩
  have h4:=arN h3
  have h5:(v2.tdiv 10).natAbs<v2.natAbs:=by
   rw [Int.natAbs_tdiv]
   show v2.natAbs/10<_
   omega
  have w:=eT (v2.tdiv 10)
  have w:aQ (v2.tdiv 10)=v2.tdiv 10:=w (by omega)
  have fin: ∀u:UInt8,Ok (gd ((bytesStr ([u]:List UInt8)).size+(v3).size≤1099511627776) (some (LR.next ((aQ ((v2).tdiv 10)),((bytesStr ([u]:List UInt8))++v3))))) (PL (fun r:ByteArray=>r.size≤21) (fun s'=>(fun q:Int×ByteArray=>q.1.natAbs≤9223372036854775808∧ ∃k,q.2.size+k≤19∧q.1.natAbs<10^k) s'∧(fun q:Int×ByteArray=>q.1.natAbs) s'<(fun q:Int×ByteArray=>q.1.natAbs) (v2,v3)) (fun q:Int×ByteArray=>q.2.size≤20)):=fun u=>by
   have e1:=am4 [u]
   have e2: [u].length=1:=rfl
   have e3:=fF (bytesStr [u]) v3
   refine Ok.gdk (by omega) (fun _=>Ok.next ⟨⟨by dsimp only;rw [w];omega,k,by dsimp only;omega,by dsimp only;rw [w];exact h4⟩,by dsimp only;rw [w];exact h5⟩)
  exact Ok.swd (fun _=>fin _) (fun _=>fin _)
 ·rintro⟨v2,v3⟩ hv
  dsimp only at hv
  have:E4.size=1:=rfl
  have:=fF E4 v3
  exact Ok.swd (fun _=>Ok.gdk (by omega) (fun _=>Ok.some bQ)) (fun _=>Ok.some bQ)
def AE(fu:Nat):Prop:= ∀ps:ByteArray,Ok (AP fu ps) (fun r=>r.1.natAbs≤9223372036854775808)
theorem mJ:cH AE:=mI.imp fun fu k ps=>by
 have rng: ∀E:Int,(aQ E).natAbs≤9223372036854775808:=fun E=>by have:=aoS E;omega
 have fin: ∀v:Int,v.natAbs≤9223372036854775808→Ok (bd (n3 fu v) (fun x18=>sw (!decide (x18=ps)) (some ((0:Int),false)) (some (v,true)))) (fun r=>r.1.natAbs≤9223372036854775808):=fun v hv=>by
  refine Ok.bd (k v hv) ?_;rintro x-
  exact Ok.swn (fun _=>Ok.some (by decide)) (fun _=>Ok.some hv)
 have loop: ∀(f:Nat→Int→Option (LR Int (Int×Bool))) (n:Nat),(∀i s,i<n→Ok (f i s) (PL (fun r:Int×Bool=>r.1.natAbs≤9223372036854775808) (fun v:Int=>v.natAbs≤9223372036854775808) (fun v:Int=>v.natAbs≤9223372036854775808)))→Ok (loopN f (n-0) 0 0) (PS (fun r:Int×Bool=>r.1.natAbs≤9223372036854775808) (fun v:Int=>v.natAbs≤9223372036854775808)):=fun f n hf=>Ok.loop0 (fun _ v=>v.natAbs≤9223372036854775808) (by decide) (fun i s _ h=>h) (fun i s hi _=>hf i s hi)
 unfold AP
 refine Ok.bd (Q:=fun r:Int×Bool=>r.1.natAbs≤9223372036854775808) ?_ (fun r hr=>by obtain⟨a,b⟩:=r;exact Ok.some hr)
 unfold QD
 have hps:((ps.size:Nat):Int)=((ps.size:Nat):Int):=rfl
 refine Ok.swd (fun g=>?_) (fun g=>?_)
 ·refine Ok.gdk (by omega) (fun _=>?_)
  refine Ok.sok (E:=fun _=>True) ?_ ?_
  ·unfold VO
   exact Ok.swd (fun _=>Ok.gdk (by omega) (fun _=>Ok.inr trivial)) (fun _=>Ok.inr trivial)
  rintro v3-
  refine Ok.swd (fun _=>Ok.some (by decide)) (fun _=>?_)
  refine Ok.swd (fun _=>Ok.some (by decide)) (fun _=>?_)
  refine Ok.sok (E:=fun v:Int=>v.natAbs≤9223372036854775808) ?_ ?_
  ·unfold VS
   refine loop _ _ (fun i s hi=>?_)
   unfold VQ
   refine Ok.gdk hi (fun _=>?_)
   exact Ok.swd (fun _=>Ok.ret (by decide)) (fun _=>Ok.swd (fun _=>Ok.ret (by decide)) (fun _=>Ok.next (rng _)))
  intro v9 hv
  refine Ok.sok (E:=fun v:Int=>v.natAbs≤9223372036854775808) ?_ ?_
  ·unfold VP
   exact Ok.swd (fun _=>Ok.inr (rng _)) (fun _=>Ok.inr hv)
  intro v15 hv
  exact fin v15 hv
 ·refine Ok.swd (fun _=>Ok.some (by decide)) (fun _=>?_)
  refine Ok.swd (fun _=>Ok.some (by decide)) (fun _=>?_)
  refine Ok.sok (E:=fun v:Int=>v.natAbs≤9223372036854775808) ?_ (fun v hv=>fin v hv)
  unfold VT
  refine loop _ _ (fun i s hi=>?_)
  unfold VR
  refine Ok.gdk hi (fun _=>?_)
  exact Ok.swd (fun _=>Ok.ret (by decide)) (fun _=>Ok.swd (fun _=>Ok.ret (by decide)) (fun _=>Ok.next (rng _)))
end Go.Proofs.YtpioomclpaiomaaGreat.W

namespace Go.Proofs.YtpioomclpaiomaaGreat.W
set_option maxRecDepth 20000
set_option maxHeartbeats 4000000
open Go.RowKit Go.WalkArith Go.IntWalk
attribute [local irreducible] wt wl
def SW(fu:Nat):Prop:= ∀(pa0:aA),wt pa0≤268435456→Ok (mS fu pa0) (fun r=>wt r≤2*wt pa0)
def YR(n:Nat)(m:EG):Prop:= ∀(pa0:aA),wt pa0<n→wt pa0≤268435456→Ok (m pa0) (fun r=>wt r≤2*wt pa0)
theorem aoL{n fu:Nat}(hfu:2147483648≤fu)(fG:TN fu)(dF:TM fu){r_sl5Ty:EG}(h_sl5Ty:YR n r_sl5Ty):YR (n+1) (abT fu r_sl5Ty):=by
 intro pa0 hm hpre
 have:=aA.wt_eq pa0
 have:s_.size=0:=rfl
 refine oN (fun g1=>?_) fun g1=>?_
 ·have:=E9 g1
  refine oG fun z2=>?_;refine oD (fun g3=>?_) fun g3=>?_
  ·refine oG fun z4=>?_
   have:=C2 pa0.gAtom (1:Int).toNat (pa0.gAtom.size:Int).toNat
   exact oB (fG (pa0.gAtom.extract (1:Int).toNat (pa0.gAtom.size:Int).toNat)) fun x6 h5=>oS
  have:=(aV:wl ([]:List aB)=0∧_)
  exact oB (dF pa0.gAtom ([]:List aB) bQ) fun x8 h6=>oS
 have:=aY pa0.gList
 refine oD (fun g7=>?_) fun g7=>?_
 ·have:=(aV:wl ([]:List aB)=0∧_)
  have:=aB.wt_mk 0 s_ []
  exact oS
 have:=aY (pa0.gList)
 refine oG fun z8=>?_
 have:=(aV:wl ([]:List aB)=0∧_)
 refine Ok.sok (E:=fun v13=>wl v13+2*wl (List.take 1 pa0.gList)≤wl ([]:List aB)+2*wl pa0.gList∧(v13.length=0∨wl (List.drop 1 v13)+2*wl (List.take 2 pa0.gList)≤2*wl pa0.gList)) ?_ ?_
 ·refine Ok.loop0 (fun i11 v13=>wl v13+2*wl (List.take 1 pa0.gList)≤wl ([]:List aB)+2*wl (List.take i11 pa0.gList)∧((i11=1∧v13.length=0)∨(2≤i11∧1≤v13.length∧wl (List.drop 1 v13)+2*wl (List.take 2 pa0.gList)≤2*wl (List.take i11 pa0.gList)))) (by exact bQ) (by rintro i11 v13-hI;have:=oJ pa0.gList i11;(try dsimp only at hI ⊢);omega) ?_;rintro i11 v13 hl10 hI11
  have:=oM pa0.gList i11 hl10
  have:=oJ pa0.gList (i11+1)
  have:=b7 pa0.gList i11 hl10
  refine oB (h_sl5Ty (aW pa0.gList i11) bQ bQ) fun x17 h12=>?_
  have:=aY (v13)
  have:=cE x17
  refine oG fun z13=>?_
  have:=b6 v13 ([x17]:List aB)
  have:=agF v13 x17
  have:=abX pa0.gList 2 (i11+1)
  exact Ok.next bQ
 intro v13 h9
 have:=b7 pa0.gList 0 z8
 have:wl (List.take 1 pa0.gList)=wl (List.take 0 pa0.gList)+wt (aW pa0.gList 0)+1:=JI pa0.gList 0 z8
 have:=aA.wt_eq (aW pa0.gList 0)
 have:fX.size=5:=rfl
 refine oD (fun g14=>?_) fun g14=>?_
 ·have:=congrArg ByteArray.size g14
  have:=aY v13
  refine oD (fun g15=>?_) fun g15=>?_
  ·refine oG fun z16=>?_
   have:=b7 pa0.gList 1 z16
   have:wl (List.take 2 pa0.gList)=wl (List.take 1 pa0.gList)+wt (aW pa0.gList 1)+1:=JI pa0.gList 1 z16
   have:=aA.wt_eq (aW pa0.gList 1)
   refine oN (fun g17=>?_) fun g17=>?_
   ·have:=E9 g17
    refine oG fun z18=>?_
    have:=xW v13 1 1
    have:=ar7 v13
    have:=aB.wt_mk 3 ((aW pa0.gList 1).gAtom) (List.drop (1:Int).toNat (List.take (v13.length:Int).toNat v13))
    exact oS
   have:xJ.size=3:=rfl
   refine oD (fun g19=>?_) fun g19=>?_
   ·have:=congrArg ByteArray.size g19
    have:=aB.wt_mk 2 ((aW pa0.gList 0).gAtom) v13
    exact oS
   have:=aB.wt_mk 2 ((aW pa0.gList 0).gAtom) v13
   exact oS
  have:xJ.size=3:=rfl
  refine oD (fun g20=>?_) fun g20=>?_
  ·have:=congrArg ByteArray.size g20
   refine oD (fun g21=>?_) fun g21=>?_
   ·refine oG fun z22=>?_
    have:=b7 pa0.gList 1 z22
    have:wl (List.take 2 pa0.gList)=wl (List.take 1 pa0.gList)+wt (aW pa0.gList 1)+1:=JI pa0.gList 1 z22
    have:=aA.wt_eq (aW pa0.gList 1)
    refine oN (fun g23=>?_) fun g23=>?_
    ·have:=E9 g23
     have:=aB.wt_mk 4 ((aW pa0.gList 1).gAtom) []
     exact oS
    have:=aB.wt_mk 2 ((aW pa0.gList 0).gAtom) v13
    exact oS
   have:=aB.wt_mk 2 ((aW pa0.gList 0).gAtom) v13
   exact oS
  have:=aB.wt_mk 2 ((aW pa0.gList 0).gAtom) v13
  exact oS
 have:xJ.size=3:=rfl
 refine oD (fun g24=>?_) fun g24=>?_
 ·have:=congrArg ByteArray.size g24
  have:=aY v13
  refine oD (fun g25=>?_) fun g25=>?_
  ·refine oG fun z26=>?_
   have:=b7 pa0.gList 1 z26
   have:wl (List.take 2 pa0.gList)=wl (List.take 1 pa0.gList)+wt (aW pa0.gList 1)+1:=JI pa0.gList 1 z26
   have:=aA.wt_eq (aW pa0.gList 1)
   refine oN (fun g27=>?_) fun g27=>?_
   ·have:=E9 g27
    have:=aB.wt_mk 4 ((aW pa0.gList 1).gAtom) []
    exact oS
   have:=aB.wt_mk 2 ((aW pa0.gList 0).gAtom) v13
   exact oS
  have:=aB.wt_mk 2 ((aW pa0.gList 0).gAtom) v13
  exact oS
 have:=aB.wt_mk 2 ((aW pa0.gList 0).gAtom) v13
 exact oS
theorem apR(n:Nat):cH fun fu=>YR n (mS fu):=by
 induction n with
 |zero=>exact .all fun fu=>fun _ h=>absurd h (Nat.not_lt_zero _)
 |succ n ih=>exact cH.succ ((ih.and (((cH.ge 2147483648).and fG).and dF)).imp fun fu ⟨h,⟨⟨hfu,fG⟩,dF⟩⟩=>fun pa0=>by rw [mS];exact aoL hfu fG dF h pa0)
theorem iC:cH SW:=(apR 8589934592).imp fun fu h pa0 hpre=>h pa0 bQ hpre
def BR(fu:Nat):Prop:= ∀(pn:Int),pn.natAbs≤9223372036854775808→Ok (tM fu pn) (fun r=>wt r=0∧JJ r)
theorem fL:cH BR:=(cH.ge 2147483648).imp fun fu hfu pn hpre=>by
 have:s_.size=0:=rfl
 have:=(aV:wl ([]:List aB)=0∧_)
 have:=aB.wt_mk 0 s_ []
 have:=(aV:wl ([]:List aG)=0∧_)
 have:=(aV:wl ([]:List bA)=0∧_)
 have:=aG.wt_mk 1 s_ s_ pn (aB.mk 0 s_ []) [] []
 exact oS2
def BS(fu:Nat):Prop:= ∀(ps:ByteArray),Ok (vA fu ps) (fun r=>wt r=ps.size∧JJ r)
theorem f6:cH BS:=(cH.ge 2147483648).imp fun fu hfu ps=>by
 have:s_.size=0:=rfl
 have:=(aV:wl ([]:List aB)=0∧_)
 have:=aB.wt_mk 0 s_ []
 have:=(aV:wl ([]:List aG)=0∧_)
 have:=(aV:wl ([]:List bA)=0∧_)
 have:=aG.wt_mk 3 s_ ps 0 (aB.mk 0 s_ []) [] []
 exact oS2
def LP(fu:Nat):Prop:= ∀(pa pb:Int),Ok (qH fu pa pb) (fun r=>(pa≤pb∧r=pa)∨(pb≤pa∧r=pb))
theorem jC:cH LP:=(cH.ge 2147483648).imp fun fu hfu pa pb=>by
 exact oD (fun _=>oS) fun g1=>oS
def af1(fu:Nat):Prop:= ∀(pa0:aA),wt pa0≤67108864→Ok (iA fu pa0) (fun r=>wt r≤2*wt pa0∧JJ r)
def yQ(n:Nat)(m:iR):Prop:= ∀(pa0:aA),2*wt pa0+1<n→wt pa0≤67108864→Ok (m pa0) (fun r=>wt r≤2*wt pa0∧JJ r)
def vX(n:Nat)(m:gT):Prop:= ∀(plist:List aA),2*wl plist<n→wl plist≤67108864→Ok (m plist) (fun r=>wl r≤2*wl plist∧ ∀a∈r,JJ a)
def BQ(n:Nat)(m:jY):Prop:= ∀(px:aA),2*wt px+1<n→wt px≤67108864→Ok (m px) (fun r=>wt r≤2*wt px∧JJ r.gBody)
theorem aeF{n fu:Nat}(hfu:2147483648≤fu)(mJ:AE fu)(fL:BR fu)(f6:BS fu)(jC:LP fu)(iC:SW fu)(iQ:C0 fu){r_sl12Expr:iR}(h_sl12Expr:yQ n r_sl12Expr){r_sl12Exprs:gT}(h_sl12Exprs:vX n r_sl12Exprs){r_sl12Arm:jY}(h_sl12Arm:BQ n r_sl12Arm):yQ (n+1) (K9 fu r_sl12Expr r_sl12Exprs r_sl12Arm):=by
 intro pa0 hm hpre
 have:=aA.wt_eq pa0
 have:s_.size=0:=rfl
 refine oN (fun g1=>?_) fun g1=>?_
 ·have:=E9 g1
  refine uM (mJ pa0.gAtom) fun x3 x4 h2=>?_
  dsimp only at h2
  refine oC (fun g3=>?_) fun g3=>?_
  ·exact Q8 (fL x3 bQ) fun x7 h4 h4B=>oS2
  have:pK.size=4:=rfl
  refine oD (fun g5=>?_) fun g5=>?_
  ·have:=congrArg ByteArray.size g5
   have:=(aV:wl ([]:List aB)=0∧_)
   have:=aB.wt_mk 0 s_ []
   have:=(aV:wl ([]:List aG)=0∧_)
   have:=(aV:wl ([]:List bA)=0∧_)
   have:=aG.wt_mk 2 s_ s_ 1 (aB.mk 0 s_ []) [] []
   exact oS2
  have:l8.size=5:=rfl
  refine oD (fun g6=>?_) fun g6=>?_
  ·have:=congrArg ByteArray.size g6
   have:=(aV:wl ([]:List aB)=0∧_)
   have:=aB.wt_mk 0 s_ []
   have:=(aV:wl ([]:List aG)=0∧_)
   have:=(aV:wl ([]:List bA)=0∧_)
   have:=aG.wt_mk 2 s_ s_ 0 (aB.mk 0 s_ []) [] []
   exact oS2
  exact Q8 (f6 pa0.gAtom) fun x11 h7 h7B=>oS2
 have:=(aV:wl ([]:List aA)=0∧_)
 have:=aY (pa0.gList)
 refine oG fun z8=>?_
 have:=b6 ([]:List aA) pa0.gList
 have:=aA.wt_mk s_ []
 have:=EV (aA.mk s_ []) (aA.mk s_ []) (aA.mk s_ [])
 refine oG fun z9=>?_
 have:=b6 (([])++pa0.gList) ([(aA.mk s_ []),(aA.mk s_ []),(aA.mk s_ [])]:List aA)
 refine oG fun z10=>?_
 have:=agR pa0.gList (aA.mk s_ []) (aA.mk s_ []) (aA.mk s_ []) 1 2 rfl
 refine Ok.lt fun y15 h11=>?_
 have:=congrArg wt h11
 refine oG fun z12=>?_
 have:=agR pa0.gList (aA.mk s_ []) (aA.mk s_ []) (aA.mk s_ []) 0 1 rfl
 refine Ok.lt fun y18 h13=>?_
 have:=congrArg wt h13
 have:=aA.wt_eq y18
 have:u5.size=4:=rfl
 refine oD (fun g14=>?_) fun g14=>?_
 ·have:=congrArg ByteArray.size g14
  have:=aY pa0.gList
  refine oB (jC 2 (pa0.gList.length:Int)) fun x22 h15=>oG fun z16=>?_
  have:=xW pa0.gList x22 2
  refine Q8 (h_sl12Exprs (List.drop (x22:Int).toNat (List.take (pa0.gList.length:Int).toNat pa0.gList)) bQ bQ) fun x25 h17 h17B=>?_
  have:=aA.wt_eq y15
  have:=(aV:wl ([]:List aB)=0∧_)
  have:=aB.wt_mk 0 s_ []
  have:=(aV:wl ([]:List bA)=0∧_)
  have:=aG.wt_mk 4 s_ y15.gAtom 0 (aB.mk 0 s_ []) x25 []
  exact oS2
 have:jD.size=6:=rfl
 refine oD (fun g18=>?_) fun g18=>?_
 ·have:=congrArg ByteArray.size g18
  refine oG fun z19=>?_
  have:=agR pa0.gList (aA.mk s_ []) (aA.mk s_ []) (aA.mk s_ []) 2 3 rfl
  refine Ok.lt fun y28 h20=>?_
  have:=congrArg wt h20
  have:=aY pa0.gList
  refine oB (jC 3 (pa0.gList.length:Int)) fun x31 h21=>oG fun z22=>?_
  have:=xW pa0.gList x31 3
  refine Q8 (h_sl12Exprs (List.drop (x31:Int).toNat (List.take (pa0.gList.length:Int).toNat pa0.gList)) bQ bQ) fun x34 h23 h23B=>?_
  have:=aA.wt_eq y15
  have:=aA.wt_eq y28
  have:=(aV:wl ([]:List aB)=0∧_)
  have:=aB.wt_mk 0 s_ []
  have:=(aV:wl ([]:List bA)=0∧_)
  have:=aG.wt_mk 5 y15.gAtom y28.gAtom 0 (aB.mk 0 s_ []) x34 []
  exact oS2
 have:ES.size=3:=rfl
 refine oD (fun g24=>?_) fun g24=>?_
 ·have:=congrArg ByteArray.size g24
  have:=aY pa0.gList
  refine oB (jC 2 (pa0.gList.length:Int)) fun x37 h25=>oG fun z26=>?_
  have:=xW pa0.gList x37 2
  refine Q8 (h_sl12Exprs (List.drop (x37:Int).toNat (List.take (pa0.gList.length:Int).toNat pa0.gList)) bQ bQ) fun x40 h27 h27B=>?_
  have:=aA.wt_eq y15
  have:=(aV:wl ([]:List aB)=0∧_)
  have:=aB.wt_mk 0 s_ []
  have:=(aV:wl ([]:List bA)=0∧_)
  have:=aG.wt_mk 6 s_ y15.gAtom 0 (aB.mk 0 s_ []) x40 []
  exact oS2
 have:ER.size=3:=rfl
 refine oD (fun g28=>?_) fun g28=>?_
 ·have:=congrArg ByteArray.size g28
  have:=aY pa0.gList
  refine oB (jC 2 (pa0.gList.length:Int)) fun x43 h29=>oG fun z30=>?_
  have:=xW pa0.gList x43 2
  refine Q8 (h_sl12Exprs (List.drop (x43:Int).toNat (List.take (pa0.gList.length:Int).toNat pa0.gList)) bQ bQ) fun x46 h31 h31B=>?_
  have:=aA.wt_eq y15
  have:=(aV:wl ([]:List aB)=0∧_)
  have:=aB.wt_mk 0 s_ []
  have:=(aV:wl ([]:List bA)=0∧_)
  have:=aG.wt_mk 8 s_ y15.gAtom 0 (aB.mk 0 s_ []) x46 []
  exact oS2
 have:D1.size=2:=rfl
 refine oD (fun g32=>?_) fun g32=>?_
 ·have:=congrArg ByteArray.size g32
  have:=aY pa0.gList
  refine oG fun z33=>?_
  have:=xW pa0.gList 1 1
  refine Q8 (h_sl12Exprs (List.drop (1:Int).toNat (List.take (pa0.gList.length:Int).toNat pa0.gList)) bQ bQ) fun x50 h34 h34B=>?_
  have:=(aV:wl ([]:List aB)=0∧_)
  have:=aB.wt_mk 0 s_ []
  have:=(aV:wl ([]:List bA)=0∧_)
  have:=aG.wt_mk 9 s_ s_ 0 (aB.mk 0 s_ []) x50 []
  exact oS2
 have:w8.size=4:=rfl
 refine oD (fun g35=>?_) fun g35=>?_
 ·have:=congrArg ByteArray.size g35
  have:=aY pa0.gList
  refine oB (jC 2 (pa0.gList.length:Int)) fun x53 h36=>oG fun z37=>?_
  have:=xW pa0.gList x53 2
  refine Q8 (h_sl12Exprs (List.drop (x53:Int).toNat (List.take (pa0.gList.length:Int).toNat pa0.gList)) bQ bQ) fun x56 h38 h38B=>?_
  have:=aA.wt_eq y15
  have:=(aV:wl ([]:List aB)=0∧_)
  have:=aB.wt_mk 0 s_ []
  have:=(aV:wl ([]:List bA)=0∧_)
  have:=aG.wt_mk 11 y15.gAtom s_ 0 (aB.mk 0 s_ []) x56 []
  exact oS2
 have:YE.size=3:=rfl
 refine oD (fun g39=>?_) fun g39=>?_
 ·have:=congrArg ByteArray.size g39
  refine oB (iC y15 bQ) fun x59 h40=>?_
  have:=aY pa0.gList
  refine oB (jC 2 (pa0.gList.length:Int)) fun x61 h41=>oG fun z42=>?_
  have:=xW pa0.gList x61 2
  refine Q8 (h_sl12Exprs (List.drop (x61:Int).toNat (List.take (pa0.gList.length:Int).toNat pa0.gList)) bQ bQ) fun x64 h43 h43B=>?_
  have:=(aV:wl ([]:List bA)=0∧_)
  have:=aG.wt_mk 12 s_ s_ 0 x59 x64 []
  exact oS2
 have:w7.size=4:=rfl
 refine oD (fun g44=>?_) fun g44=>?_
 ·have:=congrArg ByteArray.size g44
  have:=aY pa0.gList
  refine oB (jC 2 (pa0.gList.length:Int)) fun x67 h45=>oG fun z46=>?_
  have:=apE pa0.gList x67
  refine Q8 (h_sl12Exprs (List.drop (1:Int).toNat (List.take (x67:Int).toNat pa0.gList)) bQ bQ) fun x70 h47 h47B=>?_
  have:=(aV:wl ([]:List bA)=0∧_)
  refine apD (PA:=fun a=>JJ a.gBody) pa0.gList 2 (fun i71 v73 hl49 hI50 hI50B _ _=>?_) ?_
  ·have:=b7 pa0.gList i71 hl49
   refine Q8 (h_sl12Arm (aW pa0.gList i71) bQ bQ) fun x77 h51 h51B=>?_
   have:=aY (v73)
   have:=cE x77
   refine oG fun z52=>?_
   have:=b6 v73 ([x77]:List bA)
   exact oX hI50B
  rintro v73 ⟨h48,h48B⟩
  have:=(aV:wl ([]:List aB)=0∧_)
  have:=aB.wt_mk 0 s_ []
  have:=aG.wt_mk 7 s_ s_ 0 (aB.mk 0 s_ []) x70 v73
  exact oS2
 have:=aY pa0.gList
 refine oB (jC 1 (pa0.gList.length:Int)) fun x80 h53=>oG fun z54=>?_
 have:=xW pa0.gList x80 1
 refine Q8 (h_sl12Exprs (List.drop (x80:Int).toNat (List.take (pa0.gList.length:Int).toNat pa0.gList)) bQ bQ) fun x83 h55 h55B=>?_
 have:=(aV:wl ([]:List aB)=0∧_)
 have:=aB.wt_mk 0 s_ []
 have:=(aV:wl ([]:List bA)=0∧_)
 have:=aG.wt_mk 10 s_ y18.gAtom 0 (aB.mk 0 s_ []) x83 []
 exact oS2
theorem aaF{n fu:Nat}(hfu:2147483648≤fu)(mJ:AE fu)(fL:BR fu)(f6:BS fu)(jC:LP fu)(iC:SW fu)(iQ:C0 fu){r_sl12Expr:iR}(h_sl12Expr:yQ n r_sl12Expr){r_sl12Exprs:gT}(h_sl12Exprs:vX n r_sl12Exprs){r_sl12Arm:jY}(h_sl12Arm:BQ n r_sl12Arm):vX (n+1) (F4 fu r_sl12Expr r_sl12Exprs r_sl12Arm):=by
 intro plist hm hpre
 have:=(aV:wl ([]:List aG)=0∧_)
 refine apD (PA:=fun a=>JJ a) plist 2 (fun i1 v3 hl2 hI3 hI3B _ _=>?_) ?_
 ·have:=aY plist
  have:=b7 plist i1 hl2
  refine Q8 (h_sl12Expr (aW plist i1) bQ bQ) fun x7 h4 h4B=>?_
  have:=aY (v3)
  have:=cE x7
  refine oG fun z5=>?_
  have:=b6 v3 ([x7]:List aG)
  exact oX hI3B
 rintro v3 ⟨h1,h1B⟩
 exact oS2
theorem ahC{n fu:Nat}(hfu:2147483648≤fu)(mJ:AE fu)(fL:BR fu)(f6:BS fu)(jC:LP fu)(iC:SW fu)(iQ:C0 fu){r_sl12Expr:iR}(h_sl12Expr:yQ n r_sl12Expr){r_sl12Exprs:gT}(h_sl12Exprs:vX n r_sl12Exprs){r_sl12Arm:jY}(h_sl12Arm:BQ n r_sl12Arm):BQ (n+1) (P6 fu r_sl12Expr r_sl12Exprs r_sl12Arm):=by
 intro px hm hpre
 have:=aA.wt_eq px
 have:=aY px.gList
 refine oD (fun g1=>?_) fun g1=>?_
 ·have:s_.size=0:=rfl
  have:=(aV:wl ([]:List aB)=0∧_)
  have:=aB.wt_mk 0 s_ []
  have:=(aV:wl ([]:List aG)=0∧_)
  have:=(aV:wl ([]:List bA)=0∧_)
  have:=aG.wt_mk 0 s_ s_ 0 (aB.mk 0 s_ []) [] []
  have:=(aV:wl ([]:LB)=0∧_)
  have:=bA.wt_mk s_ [] (aG.mk 0 s_ s_ 0 (aB.mk 0 s_ []) [] [])
  exact oS2
 have:=eT ((px.gList.length:Int)-1)
 refine oG fun z2=>?_
 have:=TD (1:Int).toNat (aQ ((px.gList.length:Int)-1):Int).toNat px.gList
 have:=arC px.gList (aQ ((px.gList.length:Int)-1):Int).toNat
 have:=JI px.gList (aQ ((px.gList.length:Int)-1):Int).toNat
 have:=oJ px.gList ((aQ ((px.gList.length:Int)-1):Int).toNat+1)
 refine uM (iQ (List.drop (1:Int).toNat (List.take (aQ ((px.gList.length:Int)-1):Int).toNat px.gList)) bQ) fun x4 x5 h3=>?_
 dsimp only at h3
 have:=aY (px.gList)
 refine oG fun z4=>oG fun z5=>?_
 have:=b7 px.gList ((aQ ((px.gList.length:Int)-1)).toNat) z5.2
 refine Ok.lt fun y8 h6=>?_
 have:=congrArg wt h6
 refine Q8 (h_sl12Expr y8 bQ bQ) fun x11 h7 h7B=>?_
 have:=b7 px.gList 0 z4
 have:wl (List.take 1 px.gList)=wl (List.take 0 px.gList)+wt (aW px.gList 0)+1:=JI px.gList 0 z4
 have:=aA.wt_eq (aW px.gList 0)
 have:=bA.wt_mk ((aW px.gList 0).gAtom) x4 x11
 exact oS2
theorem ahD(n:Nat):cH fun fu=>yQ n (iA fu)∧vX n (kK fu)∧BQ n (nP fu):=by
 induction n with
 |zero=>exact .all fun fu=>⟨fun _ h=>absurd h (Nat.not_lt_zero _),fun _ h=>absurd h (Nat.not_lt_zero _),fun _ h=>absurd h (Nat.not_lt_zero _)⟩
 |succ n ih=>exact cH.succ ((ih.and (((((((cH.ge 2147483648).and mJ).and fL).and f6).and jC).and iC).and iQ)).imp fun fu ⟨h,⟨⟨⟨⟨⟨⟨hfu,mJ⟩,fL⟩,f6⟩,jC⟩,iC⟩,iQ⟩⟩=>⟨fun pa0=>by rw [iA];exact aeF hfu mJ fL f6 jC iC iQ h.1 h.2.1 h.2.2 pa0,fun plist=>by rw [kK];exact aaF hfu mJ fL f6 jC iC iQ h.1 h.2.1 h.2.2 plist,fun px=>by rw [nP];exact ahC hfu mJ fL f6 jC iC iQ h.1 h.2.1 h.2.2 px⟩)
theorem nY:cH af1:=(ahD 8589934592).imp fun fu h pa0 hpre=>h.1 pa0 bQ hpre
def amR(fu:Nat):Prop:= ∀(pa0:aG),wt pa0≤2097152→(JJ pa0)→Ok (mO fu pa0) (fun r=>wt r+8≤32*(wt pa0+1))
def LL(n:Nat)(m:o3):Prop:= ∀(pa0:aG),2*wt pa0+1<n→wt pa0≤2097152→(JJ pa0)→Ok (m pa0) (fun r=>wt r+8≤32*(wt pa0+1))
def CY(n:Nat)(m:lA):Prop:= ∀(phead:List aA) (plist:List aG),2*wl plist<n→wl phead≤33554432∧wl plist≤2097152→(∀a∈plist,JJ a)→Ok (m phead plist) (fun r=>wt r≤wl phead+32*wl plist)
theorem alR{n fu:Nat}(hfu:2147483648≤fu)(mI:CZ fu)(bN:GP fu)(iU:YW fu)(mX:JY fu){r_sl12Sx:o3}(h_sl12Sx:LL n r_sl12Sx){r_sl12Args:lA}(h_sl12Args:CY n r_sl12Args):LL (n+1) (VH fu r_sl12Sx r_sl12Args):=by
 intro pa0 hm hpre hB
 have hN:=hB.num
 have:=aG.wt_eq pa0
 refine oD (fun g1=>?_) fun g1=>?_
 ·exact oB (mI pa0.gN bQ) fun x3 h2=>oB (bN x3) fun x5 h3=>oS
 refine oD (fun g4=>?_) fun g4=>?_
 ·have:l8.size=5:=rfl
  have:pK.size=4:=rfl
  have:=lE l8 pK
  have:=a9 l8
  have:=a9 pK
  refine oG fun z5=>?_
  have:=b7 ([l8,pK]:LB) ((pa0.gN).toNat) z5.2
  have:=a9 (aW ([l8,pK]:LB) ((pa0.gN).toNat))
  exact oB (bN (aW ([l8,pK]:LB) ((pa0.gN).toNat))) fun x9 h6=>oS
 refine oD (fun g7=>?_) fun g7=>?_
 ·exact oB (bN pa0.gName) fun x12 h8=>oS
 refine oD (fun g9=>?_) fun g9=>?_
 ·have:u5.size=4:=rfl
  refine oB (bN u5) fun x15 h10=>oB (bN pa0.gName) fun x17 h11=>?_
  have:=lE x15 x17
  refine oB (h_sl12Args ([x15,x17]:List aA) pa0.gArgs bQ bQ (by exact hB.arg)) fun x19 h12=>?_
  have:=aA.wt_eq x19
  have:=aA.wt_mk x19.gAtom x19.gList
  exact oS
 refine oD (fun g13=>?_) fun g13=>?_
 ·have:jD.size=6:=rfl
  refine oB (bN jD) fun x22 h14=>oB (bN pa0.gTrait) fun x24 h15=>oB (bN pa0.gName) fun x26 h16=>?_
  have:=EV x22 x24 x26
  refine oB (h_sl12Args ([x22,x24,x26]:List aA) pa0.gArgs bQ bQ (by exact hB.arg)) fun x28 h17=>?_
  have:=aA.wt_eq x28
  have:=aA.wt_mk x28.gAtom x28.gList
  exact oS
 refine oD (fun g18=>?_) fun g18=>?_
 ·have:ES.size=3:=rfl
  refine oB (bN ES) fun x31 h19=>oB (bN pa0.gName) fun x33 h20=>?_
  have:=lE x31 x33
  refine oB (h_sl12Args ([x31,x33]:List aA) pa0.gArgs bQ bQ (by exact hB.arg)) fun x35 h21=>?_
  have:=aA.wt_eq x35
  have:=aA.wt_mk x35.gAtom x35.gList
  exact oS
 refine oD (fun g22=>?_) fun g22=>?_
 ·have:ER.size=3:=rfl
  refine oB (bN ER) fun x38 h23=>oB (bN pa0.gName) fun x40 h24=>?_
  have:=lE x38 x40
  refine oB (h_sl12Args ([x38,x40]:List aA) pa0.gArgs bQ bQ (by exact hB.arg)) fun x42 h25=>?_
  have:=aA.wt_eq x42
  have:=aA.wt_mk x42.gAtom x42.gList
  exact oS
 refine oD (fun g26=>?_) fun g26=>?_
 ·have:D1.size=2:=rfl
  refine oB (bN D1) fun x45 h27=>?_
  have:=cE x45
  refine oB (h_sl12Args ([x45]:List aA) pa0.gArgs bQ bQ (by exact hB.arg)) fun x47 h28=>?_
  have:=aA.wt_eq x47
  have:=aA.wt_mk x47.gAtom x47.gList
  exact oS
 refine oD (fun g29=>?_) fun g29=>?_
 ·refine oB (bN pa0.gName) fun x50 h30=>?_
  have:=cE x50
  refine oB (h_sl12Args ([x50]:List aA) pa0.gArgs bQ bQ (by exact hB.arg)) fun x52 h31=>?_
  have:=aA.wt_eq x52
  have:=aA.wt_mk x52.gAtom x52.gList
  exact oS
 refine oD (fun g32=>?_) fun g32=>?_
 ·have:w8.size=4:=rfl
  refine oB (bN w8) fun x55 h33=>oB (bN pa0.gTrait) fun x57 h34=>?_
  have:=lE x55 x57
  refine oB (h_sl12Args ([x55,x57]:List aA) pa0.gArgs bQ bQ (by exact hB.arg)) fun x59 h35=>?_
  have:=aA.wt_eq x59
  have:=aA.wt_mk x59.gAtom x59.gList
  exact oS
 refine oD (fun g36=>?_) fun g36=>?_
 ·have:YE.size=3:=rfl
  refine oB (bN YE) fun x62 h37=>oB (iU pa0.gType bQ) fun x64 h38=>?_
  have:=lE x62 x64
  refine oB (h_sl12Args ([x62,x64]:List aA) pa0.gArgs bQ bQ (by exact hB.arg)) fun x66 h39=>?_
  have:=aA.wt_eq x66
  have:=aA.wt_mk x66.gAtom x66.gList
  exact oS
 have:w7.size=4:=rfl
 refine oB (bN w7) fun x68 h40=>?_
 have:=cE x68
 refine oB (h_sl12Args ([x68]:List aA) pa0.gArgs bQ bQ (by exact hB.arg)) fun x70 h41=>?_
 have:=aA.wt_eq x70
 refine MW pa0.gArms 32 (fun i71 v73 hl43 hI44 _ _=>?_) ?_
 ·have:=aY pa0.gArms
  have:=b7 pa0.gArms i71 hl43
  refine Ok.lt fun y76 h45=>?_
  have:=congrArg wt h45
  have:=bA.wt_eq y76
  refine oB (bN y76.gConstructor) fun x79 h46=>oB (mX y76.gVars bQ) fun x81 h47=>?_
  have:=cE x79
  have:=aY (x81)
  refine oG fun z48=>oB (h_sl12Sx y76.gBody bQ bQ (by rw [show y76=aW pa0.gArms i71 by assumption];exact YZ hB.arm (by assumption))) fun x84 h49=>?_
  have:=b6 ([x79]:List aA) x81
  have:=cE x84
  refine oG fun z50=>?_
  have:=aY (v73)
  have:s_.size=0:=rfl
  have:=b6 (([x79]:List aA)++x81) ([x84]:List aA)
  have:=aA.wt_mk s_ ((([x79]:List aA)++x81)++([x84]:List aA))
  have:=cE (aA.mk s_ ((([x79]:List aA)++x81)++([x84]:List aA)))
  refine oG fun z51=>?_
  have:=b6 v73 ([(aA.mk s_ ((([x79]:List aA)++x81)++([x84]:List aA)))]:List aA)
  exact oO
 intro v73 h42
 have:=aA.wt_mk x70.gAtom v73
 exact oS
theorem aeC{n fu:Nat}(hfu:2147483648≤fu)(mI:CZ fu)(bN:GP fu)(iU:YW fu)(mX:JY fu){r_sl12Sx:o3}(h_sl12Sx:LL n r_sl12Sx){r_sl12Args:lA}(h_sl12Args:CY n r_sl12Args):CY (n+1) (K8 fu r_sl12Sx r_sl12Args):=by
 intro phead plist hm hpre hB
 refine MW plist 32 (fun i1 v3 hl2 hI3 _ _=>?_) ?_
 ·have:=aY plist
  have:=b7 plist i1 hl2
  refine Ok.lt fun y6 h4=>?_
  have:=congrArg wt h4
  refine oB (h_sl12Sx y6 bQ bQ (by rw [show y6=aW plist i1 by assumption];exact YZ hB (by assumption))) fun x9 h5=>?_
  have:=aY (v3)
  have:=cE x9
  refine oG fun z6=>?_
  have:=b6 v3 ([x9]:List aA)
  exact oO
 intro v3 h1
 have:s_.size=0:=rfl
 have:=aA.wt_mk s_ v3
 exact oS
theorem an5(n:Nat):cH fun fu=>LL n (mO fu)∧CY n (oE fu):=by
 induction n with
 |zero=>exact .all fun fu=>⟨fun _ h=>absurd h (Nat.not_lt_zero _),fun _ _ h=>absurd h (Nat.not_lt_zero _)⟩
 |succ n ih=>exact cH.succ ((ih.and (((((cH.ge 2147483648).and mI).and bN).and iU).and mX)).imp fun fu ⟨h,⟨⟨⟨⟨hfu,mI⟩,bN⟩,iU⟩,mX⟩⟩=>⟨fun pa0=>by rw [mO];exact alR hfu mI bN iU mX h.1 h.2 pa0,fun phead plist=>by rw [oE];exact aeC hfu mI bN iU mX h.1 h.2 phead plist⟩)
theorem t9:cH amR:=(an5 8589934592).imp fun fu h pa0 hpre hB=>h.1 pa0 bQ hpre hB
end Go.Proofs.YtpioomclpaiomaaGreat.W

namespace Go.Proofs.YtpioomclpaiomaaGreat.W
set_option maxRecDepth 20000
set_option maxHeartbeats 4000000
open Go.RowKit Go.WalkArith Go.IntWalk
attribute [local irreducible] wt wl
def af0(fu:Nat):Prop:= ∀(pe:aG) (pleft:Int),wt pe≤1073741824→Ok (m7 fu pe pleft) (fun _=>True)
def JO(n:Nat)(m:oA):Prop:= ∀(pe:aG) (pleft:Int),wt pe<n→wt pe≤1073741824→Ok (m pe pleft) (fun _=>True)
theorem ad6{n fu:Nat}(hfu:2147483648≤fu){r_sl11Left:oA}(h_sl11Left:JO n r_sl11Left):JO (n+1) (K6 fu r_sl11Left):=by
 intro pe pleft hm hpre
 refine oEN (fun i1 v2 hl2=>?_) ?_
 ·have:=aG.wt_eq pe
  have:=aY pe.gArgs
  refine oD (fun g4=>?_) fun g4=>?_
  ·have:=b7 pe.gArgs i1 hl2
   refine Ok.lt fun y6 h5=>?_
   have:=congrArg wt h5
   exact oB (h_sl11Left y6 v2 bQ bQ) fun x9 _=>oO
  exact oK
 intro v2 _
 refine oEN (fun i10 v11 hl8=>?_) ?_
 ·have:=aG.wt_eq pe
  have:=aY pe.gArms
  refine oD (fun g10=>?_) fun g10=>?_
  ·have:=b7 pe.gArms i10 hl8
   refine Ok.lt fun y15 h11=>?_
   have:=congrArg wt h11
   have:=bA.wt_eq y15
   exact oB (h_sl11Left y15.gBody v11 bQ bQ) fun x18 _=>oO
  exact oK
 intro v11 _
 exact oS
theorem ag9(n:Nat):cH fun fu=>JO n (m7 fu):=by
 induction n with
 |zero=>exact .all fun fu=>fun _ _ h=>absurd h (Nat.not_lt_zero _)
 |succ n ih=>exact cH.succ ((ih.and (cH.ge 2147483648)).imp fun fu ⟨h,hfu⟩=>fun pe pleft=>by rw [m7];exact ad6 hfu h pe pleft)
theorem KA:cH af0:=(ag9 8589934592).imp fun fu h pe pleft hpre=>h pe pleft bQ hpre
def XQ(fu:Nat):Prop:= ∀(pk:Int),Ok (P5 fu pk) (fun _=>True)
theorem CE:cH XQ:=(cH.ge 2147483648).imp fun fu hfu pk=>by
 refine EW ?_ ?_
 ·exact oD (fun _=>oI) fun g2=>oI
 intro v1 _
 refine oC (fun _=>oS) fun g3=>oD (fun _=>oS) fun g4=>?_;refine EW ?_ ?_
 ·exact oD (fun _=>oI) fun g6=>oI
 intro v5 _
 refine oC (fun _=>oS) fun g7=>oD (fun _=>oS) fun g8=>oD (fun _=>oS) fun g9=>?_;refine EW ?_ ?_
 ·exact oD (fun _=>oI) fun g11=>oI
 intro v10 _
 exact oC (fun _=>oS) fun g12=>oD (fun _=>oS) fun g13=>oD (fun _=>oS) fun g14=>oS
def TH(fu:Nat):Prop:= ∀(ps:ByteArray),Ok (K7 fu ps) (fun _=>True)
theorem zI:cH TH:=((cH.ge 2147483648).and dT).imp fun fu ⟨hfu,dT⟩ ps=>by
 have:AC.size=1:=rfl
 have:E4.size=1:=rfl
 have:NP.size=1:=rfl
 have:NQ.size=1:=rfl
 have:NR.size=1:=rfl
 have:=aq8 AC E4 NP NQ NR
 have:=a9 AC
 have:=a9 E4
 have:=a9 NP
 have:=a9 NQ
 have:=a9 NR
 exact oB (dT ([AC,E4,NP,NQ,NR]:LB) ps) fun x2 _=>oS
def TI(fu:Nat):Prop:= ∀(pt:aB),Ok (tD fu pt) (fun _=>True)
theorem l4:cH TI:=(cH.ge 2147483648).imp fun fu hfu pt=>by
 refine oD (fun g1=>?_) fun g1=>?_
 ·exact oD (fun _=>oS) fun g2=>oS
 exact oS
def afY(fu:Nat):Prop:= ∀(pa0:aG),wt pa0≤1073741824→Ok (m4 fu pa0) (fun _=>True)
def JM(n:Nat)(m:jX):Prop:= ∀(pa0:aG),wt pa0<n→wt pa0≤1073741824→Ok (m pa0) (fun _=>True)
theorem adS{n fu:Nat}(hfu:2147483648≤fu)(CE:XQ fu)(q8:ajI fu)(bM:yR fu)(zI:TH fu)(eS:E8 fu)(l4:TI fu)(p8:TL fu)(eR:E5 fu){r_sl11Form:jX}(h_sl11Form:JM n r_sl11Form):JM (n+1) (K4 fu r_sl11Form):=by
 intro pa0 hm hpre
 have:=aG.wt_eq pa0
 refine oB6 (CE pa0.gKind) fun x2 x3 x4 x5 x6 x7 _=>?_;refine EW ?_ ?_
 ·refine oB (q8 pa0.gKind 1 12) fun x9 _=>oW (fun _=>oL) fun g4=>oB (bM pa0.gTrait) fun x12 _=>oN (fun _=>oL) fun g6=>?_;refine oW (fun g7=>?_) fun g7=>?_
  ·refine oN (fun _=>oL) fun g8=>?_;refine oW (fun g9=>?_) fun g9=>?_
   ·exact oN (fun _=>oL) fun g10=>oN (fun _=>oL) fun g11=>oI
   exact oN (fun _=>oL) fun g12=>oI
  refine oW (fun g13=>?_) fun g13=>?_
  ·exact oN (fun _=>oL) fun g14=>oN (fun _=>oL) fun g15=>oI
  exact oN (fun _=>oL) fun g16=>oI
 rintro⟨⟩-
 refine EW ?_ ?_
 ·refine oD (fun g18=>?_) fun g18=>?_
  ·refine oB (zI pa0.gName) fun x26 _=>oW (fun _=>oL) fun g20=>?_;refine oN (fun g21=>?_) fun g21=>?_
   ·refine oB (bM pa0.gName) fun x30 _=>oN (fun _=>oL) fun g23=>?_;refine oW (fun g24=>?_) fun g24=>?_
    ·exact oN (fun _=>oL) fun g25=>oI
    exact oI
   exact oI
  refine oN (fun g26=>?_) fun g26=>?_
  ·refine oB (bM pa0.gName) fun x36 _=>oN (fun _=>oL) fun g28=>?_;refine oW (fun g29=>?_) fun g29=>?_
   ·exact oN (fun _=>oL) fun g30=>oI
   exact oI
  exact oI
 rintro⟨⟩-
 refine EW ?_ ?_
 ·refine oD (fun g32=>?_) fun g32=>?_
  ·have:=aY pa0.gArgs
   refine oN (fun _=>oL) fun g33=>?_;refine oD (fun g34=>?_) fun g34=>?_
   ·refine oD (fun _=>oL) fun g35=>?_;refine oC (fun g36=>?_) fun g36=>?_
    ·exact oB (eS pa0.gType bQ) fun x46 _=>oW (fun _=>oL) fun g38=>oI
    exact oB (l4 pa0.gType) fun x49 _=>oW (fun _=>oL) fun g40=>oI
   refine oC (fun g41=>?_) fun g41=>?_
   ·exact oB (eS pa0.gType bQ) fun x53 _=>oW (fun _=>oL) fun g43=>oI
   exact oB (l4 pa0.gType) fun x56 _=>oW (fun _=>oL) fun g45=>oI
  refine oD (fun g46=>?_) fun g46=>?_
  ·have:=aY pa0.gArgs
   refine oD (fun _=>oL) fun g47=>?_;refine oC (fun g48=>?_) fun g48=>?_
   ·exact oB (eS pa0.gType bQ) fun x62 _=>oW (fun _=>oL) fun g50=>oI
   exact oB (l4 pa0.gType) fun x65 _=>oW (fun _=>oL) fun g52=>oI
  refine oC (fun g53=>?_) fun g53=>?_
  ·exact oB (eS pa0.gType bQ) fun x69 _=>oW (fun _=>oL) fun g55=>oI
  exact oB (l4 pa0.gType) fun x72 _=>oW (fun _=>oL) fun g57=>oI
 rintro⟨⟩-
 refine EW ?_ ?_
 ·refine oD (fun g59=>?_) fun g59=>?_
  ·exact oB (q8 pa0.gN (-999999) 999999) fun x76 _=>oW (fun _=>oL) fun g61=>oI
  refine oD (fun g62=>?_) fun g62=>?_
  ·exact oB (q8 pa0.gN 0 1) fun x80 _=>oW (fun _=>oL) fun g64=>oI
  exact oI
 rintro⟨⟩-
 refine EW ?_ ?_
 ·refine Ok.loop1 ?_;rintro i82 ⟨⟩ hl66
  have:=aY pa0.gArgs
  have:=b7 pa0.gArgs i82 hl66
  refine Ok.lt fun y85 h68=>?_
  have:=congrArg wt h68
  exact oB (h_sl11Form y85 bQ bQ) fun x88 _=>oW (fun _=>oR) fun g70=>oO
 rintro⟨⟩-
 refine EW ?_ ?_
 ·refine Ok.loop1 ?_;rintro i90 ⟨⟩ hl72
  have:=aY pa0.gArms
  have:=b7 pa0.gArms i90 hl72
  refine Ok.lt fun y93 h74=>?_
  have:=congrArg wt h74
  have:=bA.wt_eq y93
  exact oB (bM y93.gConstructor) fun x96 _=>oW (fun _=>oR) fun g76=>oB (p8 y93.gVars) fun x99 _=>oW (fun _=>oR) fun g78=>oB (eR y93.gVars) fun x102 _=>oW (fun _=>oR) fun g80=>oB (h_sl11Form y93.gBody bQ bQ) fun x105 _=>oW (fun _=>oR) fun g82=>oO
 rintro⟨⟩-
 exact oS
theorem ag3(n:Nat):cH fun fu=>JM n (m4 fu):=by
 induction n with
 |zero=>exact .all fun fu=>fun _ h=>absurd h (Nat.not_lt_zero _)
 |succ n ih=>exact cH.succ ((ih.and (((((((((cH.ge 2147483648).and CE).and q8).and bM).and zI).and eS).and l4).and p8).and eR)).imp fun fu ⟨h,⟨⟨⟨⟨⟨⟨⟨⟨hfu,CE⟩,q8⟩,bM⟩,zI⟩,eS⟩,l4⟩,p8⟩,eR⟩⟩=>fun pa0=>by rw [m4];exact adS hfu CE q8 bM zI eS l4 p8 eR h pa0)
theorem J8:cH afY:=(ag3 8589934592).imp fun fu h pa0 hpre=>h pa0 bQ hpre
def TG(fu:Nat):Prop:= ∀(pe:aG),wt pe≤1073741824→Ok (zO fu pe) (fun _=>True)
theorem zH:cH TG:=(((cH.ge 2147483648).and KA).and J8).imp fun fu ⟨⟨hfu,KA⟩,J8⟩ pe hpre=>by
 refine oB (KA pe 300 bQ) fun x2 _=>?_;refine oD (fun g2=>?_) fun g2=>?_
 ·exact oB (J8 pe bQ) fun x5 _=>oS
 exact oS
def QS(fu:Nat):Prop:= ∀(pa pb:LB),Ok (F2 fu pa pb) (fun _=>True)
theorem wA:cH QS:=(cH.ge 2147483648).imp fun fu hfu pa pb=>by
 have:=aY pa
 have:=aY pb
 refine oN (fun _=>oS) fun g1=>?_;refine EW ?_ ?_
 ·refine Ok.loop1 ?_;rintro i2 ⟨⟩ hl3
  have:=aY (pb)
  exact oG fun z5=>oN (fun _=>oR) fun g6=>oO
 rintro⟨⟩-
 exact oS
def YS(fu:Nat):Prop:= ∀(pa0 pa1:aG),wt pa0≤536870912→Ok (j0 fu pa0 pa1) (fun _=>True)
def CW(n:Nat)(m:lK):Prop:= ∀(pa0 pa1:aG),wt pa0<n→wt pa0≤536870912→Ok (m pa0 pa1) (fun _=>True)
theorem WZ{n fu:Nat}(hfu:2147483648≤fu)(t6:LM fu)(wA:QS fu){r_sEqualExpr:lK}(h_sEqualExpr:CW n r_sEqualExpr):CW (n+1) (DU fu r_sEqualExpr):=by
 intro pa0 pa1 hm hpre
 have:=aG.wt_eq pa0
 have:=aG.wt_eq pa1
 refine oN (fun _=>oS) fun g1=>oN (fun _=>oS) fun g2=>oN (fun _=>oS) fun g3=>oN (fun _=>oS) fun g4=>oB (t6 pa0.gType pa1.gType bQ) fun x6 _=>oW (fun _=>oS) fun g6=>?_
 have:=aY pa0.gArgs
 have:=aY pa1.gArgs
 refine oN (fun _=>oS) fun g7=>?_
 have:=aY pa0.gArms
 have:=aY pa1.gArms
 refine oN (fun _=>oS) fun g8=>?_;refine EW ?_ ?_
 ·refine Ok.loop1 ?_;rintro i10 ⟨⟩ hl10
  have:=b7 pa0.gArgs i10 hl10
  refine Ok.lt fun y13 h12=>?_
  have:=congrArg wt h12
  have:=aY (pa1.gArgs)
  refine oG fun z13=>?_
  have:=b7 pa1.gArgs i10 z13
  refine Ok.lt fun y16 h14=>?_
  have:=congrArg wt h14
  exact oB (h_sEqualExpr y13 y16 bQ bQ) fun x19 _=>oW (fun _=>oR) fun g16=>oO
 rintro⟨⟩-
 refine EW ?_ ?_
 ·refine Ok.loop1 ?_;rintro i21 ⟨⟩ hl18
  have:=b7 pa0.gArms i21 hl18
  refine Ok.lt fun y24 h20=>?_
  have:=congrArg wt h20
  have:=aY (pa1.gArms)
  refine oG fun z21=>?_
  have:=b7 pa1.gArms i21 z21
  refine Ok.lt fun y27 h22=>?_
  have:=congrArg wt h22
  have:=bA.wt_eq y24
  have:=bA.wt_eq y27
  exact oN (fun _=>oR) fun g23=>oB (wA y24.gVars y27.gVars) fun x31 _=>oW (fun _=>oR) fun g25=>oB (h_sEqualExpr y24.gBody y27.gBody bQ bQ) fun x34 _=>oW (fun _=>oR) fun g27=>oO
 rintro⟨⟩-
 exact oS
theorem ZU(n:Nat):cH fun fu=>CW n (j0 fu):=by
 induction n with
 |zero=>exact .all fun fu=>fun _ _ h=>absurd h (Nat.not_lt_zero _)
 |succ n ih=>exact cH.succ ((ih.and (((cH.ge 2147483648).and t6).and wA)).imp fun fu ⟨h,⟨⟨hfu,t6⟩,wA⟩⟩=>fun pa0 pa1=>by rw [j0];exact WZ hfu t6 wA h pa0 pa1)
theorem DJ:cH YS:=(ZU 8589934592).imp fun fu h pa0 pa1 hpre=>h pa0 pa1 bQ hpre
def afZ(fu:Nat):Prop:= ∀(pa0:aG) (pa1 pa2:LB),wl pa1+wl pa2+2*wt pa0≤134217728→Ok (m5 fu pa0 pa1 pa2) (fun r=>wl r≤wl pa2+wt pa0+1)
def JN(n:Nat)(m:m6):Prop:= ∀(pa0:aG) (pa1 pa2:LB),wt pa0<n→wl pa1+wl pa2+2*wt pa0≤134217728→Ok (m pa0 pa1 pa2) (fun r=>wl r≤wl pa2+wt pa0+1)
theorem adZ{n fu:Nat}(hfu:2147483648≤fu)(dT:TJ fu){r_sl11Free:m6}(h_sl11Free:JN n r_sl11Free):JN (n+1) (K5 fu r_sl11Free):=by
 intro pa0 pa1 pa2 hm hpre
 have:=aG.wt_eq pa0
 refine Ok.sok (E:=fun v2=>wl v2+wl pa0.gArgs+wl pa0.gArms≤wl pa2+wt pa0+1) ?_ ?_
 ·refine oD (fun g2=>?_) fun g2=>?_
  ·refine oB (dT pa1 pa0.gName) fun x5 _=>?_;refine oW (fun g4=>?_) fun g4=>?_
   ·refine oB (dT pa2 pa0.gName) fun x8 _=>?_;refine oW (fun g6=>?_) fun g6=>?_
    ·have:=aY (pa2)
     have:=cE pa0.gName
     have:=a9 pa0.gName
     refine oG fun z7=>?_
     have:=b6 pa2 ([pa0.gName]:LB)
     exact oI
    exact oI
   exact oI
  exact oI
 intro v2 h1
 refine MW pa0.gArgs 1 (fun i11 v13 hl9 hI10 _ _=>?_) ?_
 ·have:=aY pa0.gArgs
  refine oD (fun g11=>?_) fun g11=>?_
  ·refine oD (fun g12=>?_) fun g12=>?_
   ·have:=(aV:wl ([]:LB)=0∧_)
    have:=aY (pa1)
    refine oG fun z13=>?_
    have:=b6 ([]:LB) pa1
    have:=cE pa0.gName
    have:=a9 pa0.gName
    refine oG fun z14=>?_
    have:=b7 pa0.gArgs i11 hl9
    refine Ok.lt fun y20 h15=>?_
    have:=congrArg wt h15
    have:=b6 (([])++pa1) ([pa0.gName]:LB)
    exact oB (h_sl11Free y20 ((([])++pa1)++([pa0.gName]:LB)) v13 bQ bQ) fun x23 h16=>oO
   have:=b7 pa0.gArgs i11 hl9
   refine Ok.lt fun y24 h17=>?_
   have:=congrArg wt h17
   exact oB (h_sl11Free y24 pa1 v13 bQ bQ) fun x27 h18=>oO
  have:=b7 pa0.gArgs i11 hl9
  refine Ok.lt fun y28 h19=>?_
  have:=congrArg wt h19
  exact oB (h_sl11Free y28 pa1 v13 bQ bQ) fun x31 h20=>oO
 intro v13 h8
 refine MW pa0.gArms 1 (fun i32 v34 hl22 hI23 _ _=>?_) ?_
 ·have:=aY pa0.gArms
  have:=b7 pa0.gArms i32 hl22
  refine Ok.lt fun y37 h24=>?_
  have:=congrArg wt h24
  have:=(aV:wl ([]:LB)=0∧_)
  have:=aY (pa1)
  refine oG fun z25=>?_
  have:=b6 ([]:LB) pa1
  have:=bA.wt_eq y37
  have:=aY (y37.gVars)
  refine oG fun z26=>?_
  have:=b6 (([])++pa1) y37.gVars
  exact oB (h_sl11Free y37.gBody ((([])++pa1)++y37.gVars) v34 bQ bQ) fun x42 h27=>oO
 intro v34 h21
 exact oS
theorem ag4(n:Nat):cH fun fu=>JN n (m5 fu):=by
 induction n with
 |zero=>exact .all fun fu=>fun _ _ _ h=>absurd h (Nat.not_lt_zero _)
 |succ n ih=>exact cH.succ ((ih.and ((cH.ge 2147483648).and dT)).imp fun fu ⟨h,⟨hfu,dT⟩⟩=>fun pa0 pa1 pa2=>by rw [m5];exact adZ hfu dT h pa0 pa1 pa2)
theorem J9:cH afZ:=(ag4 8589934592).imp fun fu h pa0 pa1 pa2 hpre=>h pa0 pa1 pa2 bQ hpre
def N1(fu:Nat):Prop:= ∀(pe:aG),wt pe≤67108864→Ok (u2 fu pe) (fun r=>wl r≤wt pe+1)
theorem uW:cH N1:=((cH.ge 2147483648).and J9).imp fun fu ⟨hfu,J9⟩ pe hpre=>by
 have:=(aV:wl ([]:LB)=0∧_)
 exact oB (J9 pe ([]:LB) ([]:LB) bQ) fun x2 h1=>oS
def af6(fu:Nat):Prop:= ∀(pt:aB) (pvars:LB),wt pt+wl pvars≤67108864→Ok (oF fu pt pvars) (fun _=>True)
theorem gP:cH af6:=((((cH.ge 2147483648).and uX).and dT).and eS).imp fun fu ⟨⟨⟨hfu,uX⟩,dT⟩,eS⟩ pt pvars hpre=>by
 refine oB (uX pt bQ) fun x2 h1=>?_;refine EW ?_ ?_
 ·refine Ok.loop1 ?_;rintro i3 ⟨⟩ hl3
  have:=aY x2
  have:=b7 x2 i3 hl3
  have:=a9 (aW x2 i3)
  exact oB (dT pvars (aW x2 i3)) fun x7 _=>oW (fun _=>oR) fun g6=>oO
 rintro⟨⟩-
 exact oB (eS pt bQ) fun x10 _=>oS
def akC(fu:Nat):Prop:= ∀(plist:List aB) (pvars:LB),wl plist+wl pvars≤67108864→Ok (G3 fu plist pvars) (fun _=>True)
theorem yH:cH akC:=((cH.ge 2147483648).and gP).imp fun fu ⟨hfu,gP⟩ plist pvars hpre=>by
 refine EW ?_ ?_
 ·refine Ok.loop1 ?_;rintro i1 ⟨⟩ hl2
  have:=aY plist
  have:=b7 plist i1 hl2
  exact oB (gP (aW plist i1) pvars bQ) fun x5 _=>oW (fun _=>oR) fun g5=>oO
 rintro⟨⟩-
 exact oS
def af5(fu:Nat):Prop:= ∀(pe:aG),wt pe≤67108864→Ok (LD fu pe) (fun _=>True)
theorem KD:cH af5:=((cH.ge 2147483648).and DJ).imp fun fu ⟨hfu,DJ⟩ pe hpre=>by
 have:s_.size=0:=rfl
 have:=(aV:wl ([]:List aB)=0∧_)
 have:=aB.wt_mk 0 s_ []
 have:=(aV:wl ([]:List aG)=0∧_)
 have:=(aV:wl ([]:List bA)=0∧_)
 have:=aG.wt_mk 0 s_ s_ 0 (aB.mk 0 s_ []) [] []
 exact oB (DJ pe (aG.mk 0 s_ s_ 0 (aB.mk 0 s_ []) [] []) bQ) fun x2 _=>oS
def ab6(fu:Nat):Prop:= ∀(plist:LB) (pmost:Int),Ok (gU fu plist pmost) (fun _=>True)
theorem c3:cH ab6:=(((cH.ge 2147483648).and p8).and eR).imp fun fu ⟨⟨hfu,p8⟩,eR⟩ plist pmost=>by
 refine oD (fun g1=>?_) fun g1=>?_
 ·refine oB (p8 plist) fun x3 _=>?_;refine oC (fun g3=>?_) fun g3=>?_
  ·exact oB (eR plist) fun x6 _=>oS
  exact oS
 exact oS
def af2(fu:Nat):Prop:= ∀(pe:aG) (pvars:LB),wt pe+wl pvars≤67108864→Ok (zS fu pe pvars) (fun _=>True)
theorem nZ:cH af2:=((((cH.ge 2147483648).and uW).and dT).and zH).imp fun fu ⟨⟨⟨hfu,uW⟩,dT⟩,zH⟩ pe pvars hpre=>by
 refine oB (uW pe bQ) fun x2 h1=>?_;refine EW ?_ ?_
 ·refine Ok.loop1 ?_;rintro i3 ⟨⟩ hl3
  have:=aY x2
  have:=b7 x2 i3 hl3
  have:=a9 (aW x2 i3)
  exact oB (dT pvars (aW x2 i3)) fun x7 _=>oW (fun _=>oR) fun g6=>oO
 rintro⟨⟩-
 exact oB (zH pe bQ) fun x10 _=>oS
def akD(fu:Nat):Prop:= ∀(ps:aC),wt ps≤33554432→Ok (P8 fu ps) (fun _=>True)
theorem OU:cH akD:=(((((((cH.ge 2147483648).and bM).and yH).and gP).and KD).and c3).and nZ).imp fun fu ⟨⟨⟨⟨⟨⟨hfu,bM⟩,yH⟩,gP⟩,KD⟩,c3⟩,nZ⟩ ps hpre=>by
 have:=aC.wt_eq ps
 refine oB (bM ps.gName) fun x2 _=>oW (fun _=>oS) fun g2=>?_
 have:=aY ps.gParams
 refine oD (fun _=>oS) fun g3=>?_
 have:dH.size=4:=rfl
 have:=cE dH
 have:=a9 dH
 refine oB (yH ps.gParams ([dH]:LB) bQ) fun x6 _=>oW (fun _=>oS) fun g5=>oB (gP ps.gResult ([dH]:LB) bQ) fun x9 _=>oW (fun _=>oS) fun g7=>?_;refine oW (fun g8=>?_) fun g8=>?_
 ·have:=aY ps.gVars
  refine oD (fun g9=>?_) fun g9=>?_
  ·exact oB (KD ps.gBody bQ) fun x14 _=>oS
  exact oS
 refine oB (c3 ps.gVars 5) fun x16 _=>?_;refine oC (fun g12=>?_) fun g12=>?_
 ·have:=aY ps.gVars
  have:=eT ((ps.gParams.length:Int)+1)
  refine oD (fun g13=>?_) fun g13=>?_
  ·exact oB (nZ ps.gBody ps.gVars bQ) fun x20 _=>oS
  exact oS
 exact oS
def RM(fu:Nat):Prop:= ∀(pt:aP),wt pt≤16777216→Ok (sP fu pt) (fun _=>True)
theorem mB:cH RM:=((((cH.ge 2147483648).and OU).and bM).and c3).imp fun fu ⟨⟨⟨hfu,OU⟩,bM⟩,c3⟩ pt hpre=>by
 have:=(aV:wl ([]:LB)=0∧_)
 have:=aP.wt_eq pt
 refine MW pt.gSignatures 1 (fun i1 v3 hl2 hI3 _ _=>?_) ?_
 ·have:=aY pt.gSignatures
  have:=b7 pt.gSignatures i1 hl2
  refine Ok.lt fun y6 h4=>?_
  have:=congrArg wt h4
  refine oB (OU y6 bQ) fun x9 _=>oW (fun _=>oR) fun g6=>?_
  have:=aY (v3)
  have:=aC.wt_eq y6
  have:=cE y6.gName
  have:=a9 y6.gName
  refine oG fun z7=>?_
  have:=b6 v3 ([y6.gName]:LB)
  exact oO
 intro v3 h1
 refine oC (fun g8=>?_) fun g8=>?_
 ·refine oC (fun _=>oS) fun g9=>oD (fun _=>oS) fun g10=>oD (fun _=>oS) fun g11=>oB (bM pt.gName) fun x17 _=>?_;refine oC (fun g13=>?_) fun g13=>?_
  ·refine oB (c3 pt.gSupertraits 4) fun x20 _=>?_;refine oC (fun g15=>?_) fun g15=>?_
   ·exact oB (c3 v3 6) fun x23 _=>oS
   exact oS
  exact oS
 refine oB (bM pt.gName) fun x25 _=>?_;refine oC (fun g18=>?_) fun g18=>?_
 ·refine oB (c3 pt.gSupertraits 4) fun x28 _=>?_;refine oC (fun g20=>?_) fun g20=>?_
  ·exact oB (c3 v3 6) fun x31 _=>oS
  exact oS
 exact oS
def JS(fu:Nat):Prop:= ∀(pd:aH),wt pd≤16777216→Ok (n4 fu pd) (fun _=>True)
theorem jT:cH JS:=((((cH.ge 2147483648).and yH).and bM).and c3).imp fun fu ⟨⟨⟨hfu,yH⟩,bM⟩,c3⟩ pd hpre=>by
 have:=(aV:wl ([]:LB)=0∧_)
 have:=aH.wt_eq pd
 refine MW pd.gConstructors 1 (fun i1 v3 hl2 hI3 _ _=>?_) ?_
 ·have:=aY pd.gConstructors
  have:=b7 pd.gConstructors i1 hl2
  have:=aD.wt_eq (aW pd.gConstructors i1)
  have:=aY ((aW pd.gConstructors i1).gFields)
  refine oD (fun _=>oR) fun g4=>oB (yH ((aW pd.gConstructors i1).gFields) pd.gVars bQ) fun x8 _=>oW (fun _=>oR) fun g6=>?_
  have:=aY (v3)
  have:=cE ((aW pd.gConstructors i1).gName)
  have:=a9 ((aW pd.gConstructors i1).gName)
  refine oG fun z7=>?_
  have:=b6 v3 ([((aW pd.gConstructors i1).gName)]:LB)
  exact oO
 intro v3 h1
 refine oB (bM pd.gName) fun x12 _=>?_;refine oC (fun g9=>?_) fun g9=>?_
 ·refine oB (c3 pd.gVars 3) fun x15 _=>?_;refine oC (fun g11=>?_) fun g11=>?_
  ·refine oD (fun g12=>?_) fun g12=>?_
   ·exact oB (c3 v3 5) fun x19 _=>oS
   exact oS
  exact oS
 exact oS
def RK(fu:Nat):Prop:= ∀(pb:aM),wt pb≤33554432→Ok (wX fu pb) (fun _=>True)
theorem wQ:cH RK:=(((cH.ge 2147483648).and bM).and eS).imp fun fu ⟨⟨hfu,bM⟩,eS⟩ pb hpre=>by
 have:=aM.wt_eq pb
 refine oB (bM pb.gTrait) fun x2 _=>?_;refine oC (fun g2=>?_) fun g2=>?_
 ·exact oB (eS pb.gType bQ) fun x5 _=>oS
 exact oS
def ab5(fu:Nat):Prop:= ∀(plist:List aM) (pvars:LB),wl plist+wl pvars≤33554432→Ok (AR fu plist pvars) (fun _=>True)
theorem tH:cH ab5:=((((cH.ge 2147483648).and wQ).and gP).and lQ).imp fun fu ⟨⟨⟨hfu,wQ⟩,gP⟩,lQ⟩ plist pvars hpre=>by
 refine EW ?_ ?_
 ·refine Ok.loop1 ?_;rintro i1 ⟨⟩ hl2
  have:=aY plist
  have:=b7 plist i1 hl2
  refine oB (wQ (aW plist i1) bQ) fun x5 _=>oW (fun _=>oR) fun g5=>?_
  have:=aM.wt_eq (aW plist i1)
  exact oB (gP ((aW plist i1).gType) pvars bQ) fun x8 _=>oW (fun _=>oR) fun g7=>oB (lQ ((aW plist i1).gType) bQ) fun x11 _=>oC (fun _=>oR) fun g9=>oO
 rintro⟨⟩-
 exact oS
def JU(fu:Nat):Prop:= ∀(pa0:aL),wt pa0≤16777216→Ok (n6 fu pa0) (fun _=>True)
theorem jV:cH JU:=(((((((((cH.ge 2147483648).and bM).and c3).and gP).and lQ).and tH).and FM).and l4).and nZ).imp fun fu ⟨⟨⟨⟨⟨⟨⟨⟨hfu,bM⟩,c3⟩,gP⟩,lQ⟩,tH⟩,FM⟩,l4⟩,nZ⟩ pa0 hpre=>by
 have:=aL.wt_eq pa0
 refine oB (bM pa0.gTrait) fun x2 _=>oW (fun _=>oS) fun g2=>oB (c3 pa0.gVars 3) fun x5 _=>oW (fun _=>oS) fun g4=>oB (gP pa0.gHead pa0.gVars bQ) fun x8 _=>oW (fun _=>oS) fun g6=>oB (lQ pa0.gHead bQ) fun x11 _=>oC (fun _=>oS) fun g8=>?_
 have:=aB.wt_eq pa0.gHead
 refine oD (fun _=>oS) fun g9=>oB (tH pa0.gWhere pa0.gVars bQ) fun x15 _=>oW (fun _=>oS) fun g11=>?_;refine EW ?_ ?_
 ·refine Ok.loop1 ?_;rintro i17 ⟨⟩ hl13
  have:=aY pa0.gVars
  have:=b7 pa0.gVars i17 hl13
  have:=a9 (aW pa0.gVars i17)
  exact oB (FM (aW pa0.gVars i17) pa0.gHead bQ) fun x21 _=>oW (fun _=>oR) fun g16=>oO
 rintro⟨⟩-
 refine EW ?_ ?_
 ·refine oC (fun g18=>?_) fun g18=>?_
  ·exact oB (gP pa0.gAssoc pa0.gVars bQ) fun x25 _=>oW (fun _=>oL) fun g20=>oI
  exact oB (l4 pa0.gAssoc) fun x28 _=>oW (fun _=>oL) fun g22=>oI
 rintro⟨⟩-
 have:=(aV:wl ([]:LB)=0∧_)
 refine MW pa0.gMethods 1 (fun i30 v32 hl24 hI25 _ _=>?_) ?_
 ·have:=aY pa0.gMethods
  have:=b7 pa0.gMethods i30 hl24
  refine Ok.lt fun y35 h26=>?_
  have:=congrArg wt h26
  have:=aO.wt_eq y35
  have:=aY y35.gVars
  refine oD (fun _=>oR) fun g27=>oB (c3 y35.gVars 5) fun x39 _=>oW (fun _=>oR) fun g29=>oB (nZ y35.gBody y35.gVars bQ) fun x42 _=>oW (fun _=>oR) fun g31=>?_
  have:=aY (v32)
  have:=cE y35.gName
  have:=a9 y35.gName
  refine oG fun z32=>?_
  have:=b6 v32 ([y35.gName]:LB)
  exact oO
 intro v32 h23
 exact oB (c3 v32 6) fun x46 _=>oS
def JT(fu:Nat):Prop:= ∀(pf:aK),wt pf≤16777216→Ok (n5 fu pf) (fun _=>True)
theorem jU:cH JT:=((((((cH.ge 2147483648).and gP).and bM).and c3).and tH).and nZ).imp fun fu ⟨⟨⟨⟨⟨hfu,gP⟩,bM⟩,c3⟩,tH⟩,nZ⟩ pf hpre=>by
 have:=(aV:wl ([]:LB)=0∧_)
 have:=aK.wt_eq pf
 refine MW pf.gParams 1 (fun i1 v3 hl2 hI3 _ _=>?_) ?_
 ·have:=aY pf.gParams
  have:=b7 pf.gParams i1 hl2
  have:=aT.wt_eq (aW pf.gParams i1)
  refine oB (gP ((aW pf.gParams i1).gType) pf.gVars bQ) fun x7 _=>oW (fun _=>oR) fun g5=>?_
  have:=aY (v3)
  have:=cE ((aW pf.gParams i1).gName)
  have:=a9 ((aW pf.gParams i1).gName)
  refine oG fun z6=>?_
  have:=b6 v3 ([((aW pf.gParams i1).gName)]:LB)
  exact oO
 intro v3 h1
 refine oB (bM pf.gName) fun x11 _=>?_;refine oC (fun g8=>?_) fun g8=>?_
 ·refine oB (c3 pf.gVars 3) fun x14 _=>?_;refine oC (fun g10=>?_) fun g10=>?_
  ·refine oB (tH pf.gWhere pf.gVars bQ) fun x17 _=>?_;refine oC (fun g12=>?_) fun g12=>?_
   ·refine oB (c3 v3 5) fun x20 _=>?_;refine oC (fun g14=>?_) fun g14=>?_
    ·refine oB (gP pf.gResult pf.gVars bQ) fun x23 _=>?_;refine oC (fun g16=>?_) fun g16=>?_
     ·exact oB (nZ pf.gBody v3 bQ) fun x26 _=>oS
     exact oS
    exact oS
   exact oS
  exact oS
 exact oS
end Go.Proofs.YtpioomclpaiomaaGreat.W

namespace Go.Proofs.YtpioomclpaiomaaGreat.W
set_option maxRecDepth 20000
set_option maxHeartbeats 4000000
open Go.RowKit Go.WalkArith Go.IntWalk
attribute [local irreducible] wt wl
def amT(fu:Nat):Prop:= ∀(px:aA) (pi:Int),0≤pi∧wt px≤1073741824→Ok (dJ fu px pi) (fun r=>wt r≤wt px)
theorem cI:cH amT:=(cH.ge 2147483648).imp fun fu hfu px pi hpre=>by
 have:=aA.wt_eq px
 have:=aY px.gList
 refine oD (fun g1=>?_) fun g1=>?_
 ·have:s_.size=0:=rfl
  have:=(aV:wl ([]:List aA)=0∧_)
  have:=aA.wt_mk s_ []
  exact oS
 have:=aY (px.gList)
 refine oG fun z2=>?_
 have:=b7 px.gList ((pi).toNat) z2.2
 exact oS
def ab7(fu:Nat):Prop:= ∀(px:aA),wt px≤1073741824→Ok (mP fu px) (fun r=>wl r≤wt px)
theorem gQ:cH ab7:=((cH.ge 2147483648).and iQ).imp fun fu ⟨hfu,iQ⟩ px hpre=>by
 have:=aA.wt_eq px
 refine uM (iQ px.gList bQ) fun x2 x3 h1=>?_
 dsimp only at h1
 exact oS
def af7(fu:Nat):Prop:= ∀(px:aA) (pi:Int),0≤pi→Ok (vC fu px pi) (fun r=>wl r≤wl px.gList)
theorem mW:cH af7:=((cH.ge 2147483648).and jC).imp fun fu ⟨hfu,jC⟩ px pi hpre=>by
 have:=aA.wt_eq px
 have:=aY px.gList
 refine oB (jC pi (px.gList.length:Int)) fun x2 h1=>oG fun z2=>?_
 have:=TD (x2:Int).toNat (px.gList.length:Int).toNat px.gList
 exact oS
def akE(fu:Nat):Prop:= ∀(plist:List aA),wl plist≤67108864→Ok (G5 fu plist) (fun r=>wl r≤2*wl plist)
theorem yI:cH akE:=((cH.ge 2147483648).and iC).imp fun fu ⟨hfu,iC⟩ plist hpre=>by
 have:=(aV:wl ([]:List aB)=0∧_)
 refine MW plist 2 (fun i1 v3 hl2 hI3 _ _=>?_) ?_
 ·have:=aY plist
  have:=b7 plist i1 hl2
  refine oB (iC (aW plist i1) bQ) fun x7 h4=>?_
  have:=aY (v3)
  have:=cE x7
  refine oG fun z5=>?_
  have:=b6 v3 ([x7]:List aB)
  exact oO
 intro v3 h1
 exact oS
def acA(fu:Nat):Prop:= ∀(plist:LB),wl plist≤1073741824→Ok (lO fu plist) (fun r=>wt r≤wl plist)
theorem gD:cH acA:=((cH.ge 2147483648).and mX).imp fun fu ⟨hfu,mX⟩ plist hpre=>by
 refine oB (mX plist bQ) fun x2 h1=>?_
 have:s_.size=0:=rfl
 have:=aA.wt_mk s_ x2
 exact oS
def ab8(fu:Nat):Prop:= ∀(plist:List aB),wl plist≤33554432→Ok (AU fu plist) (fun r=>wl r≤8*wl plist)
theorem tI:cH ab8:=((cH.ge 2147483648).and iU).imp fun fu ⟨hfu,iU⟩ plist hpre=>by
 have:=(aV:wl ([]:List aA)=0∧_)
 refine MW plist 8 (fun i1 v3 hl2 hI3 _ _=>?_) ?_
 ·have:=aY plist
  have:=b7 plist i1 hl2
  refine oB (iU (aW plist i1) bQ) fun x7 h4=>?_
  have:=aY (v3)
  have:=cE x7
  refine oG fun z5=>?_
  have:=b6 v3 ([x7]:List aA)
  exact oO
 intro v3 h1
 exact oS
def amU(fu:Nat):Prop:= ∀(pok:Bool) (px:aA),wt px≤1073741824→Ok (CR fu pok px) (fun r=>wt r≤wt px)
theorem oV:cH amU:=((cH.ge 2147483648).and cN).imp fun fu ⟨hfu,cN⟩ pok px hpre=>by
 refine oW (fun g1=>?_) fun g1=>?_
 ·have:s_.size=0:=rfl
  have:=(aV:wl ([]:List aA)=0∧_)
  have:=aA.wt_mk s_ []
  exact oS
 refine oB (cN px bQ) fun x3 _=>?_;refine oW (fun g3=>?_) fun g3=>?_
 ·have:s_.size=0:=rfl
  have:=(aV:wl ([]:List aA)=0∧_)
  have:=aA.wt_mk s_ []
  exact oS
 exact oS
def RQ(fu:Nat):Prop:= ∀(pa0:aP),wt pa0≤1048576→(∀a∈pa0.gSignatures,JJ a.gBody)→Ok (w6 fu pa0) (fun r=>wt r≤64*wt pa0+64)
theorem wU:cH RQ:=(((((((((cH.ge 2147483648).and mB).and bN).and gD).and e8).and tI).and iU).and t9).and oV).imp fun fu ⟨⟨⟨⟨⟨⟨⟨⟨hfu,mB⟩,bN⟩,gD⟩,e8⟩,tI⟩,iU⟩,t9⟩,oV⟩ pa0 hpre hB=>by
 refine oB (mB pa0 bQ) fun x2 _=>?_;refine oW (fun g2=>?_) fun g2=>?_
 ·have:s_.size=0:=rfl
  have:=(aV:wl ([]:List aA)=0∧_)
  have:=aA.wt_mk s_ []
  exact oS
 refine Ok.sok (E:=fun v5=>wl v5≤5) ?_ ?_
 ·have:=aP.wt_eq pa0
  refine oC (fun g4=>?_) fun g4=>?_
  ·have:=(aV:wl ([]:LB)=0∧_)
   have:zP.size=4:=rfl
   have:=cE zP
   have:=a9 zP
   refine oG fun z5=>?_
   have:=b6 ([]:LB) ([zP]:LB)
   exact oI
  have:=(aV:wl ([]:LB)=0∧_)
  exact oI
 intro v5 h3
 refine Ok.sok (E:=fun v9=>wl v9≤11) ?_ ?_
 ·have:=aP.wt_eq pa0
  refine oC (fun g7=>?_) fun g7=>?_
  ·have:=aY (v5)
   have:fX.size=5:=rfl
   have:=cE fX
   have:=a9 fX
   refine oG fun z8=>?_
   have:=b6 v5 ([fX]:LB)
   exact oI
  exact oI
 intro v9 h6
 have:G2.size=5:=rfl
 refine oB (bN G2) fun x13 h9=>?_
 have:=aP.wt_eq pa0
 refine oB (bN pa0.gName) fun x15 h10=>oB (gD pa0.gSupertraits bQ) fun x17 h11=>oB (gD v9 bQ) fun x19 h12=>?_
 have:=as2 x13 x15 x17 x19
 refine oB (e8 ([x13,x15,x17,x19]:List aA) bQ) fun x21 h13=>?_
 have:=aA.wt_eq x21
 refine MW pa0.gSignatures 64 (fun i22 v24 hl15 hI16 _ _=>?_) ?_
 ·have:=aY pa0.gSignatures
  have:=b7 pa0.gSignatures i22 hl15
  refine Ok.lt fun y27 h17=>?_
  have:=congrArg wt h17
  have:=aC.wt_eq y27
  refine oB (bN y27.gName) fun x30 h18=>oB (tI y27.gParams bQ) fun x32 h19=>oB (iU y27.gResult bQ) fun x34 h20=>?_
  have:s_.size=0:=rfl
  have:=aA.wt_mk s_ x32
  have:=EV x30 (aA.mk s_ x32) x34
  refine oB (e8 ([x30,(aA.mk s_ x32),x34]:List aA) bQ) fun x36 h21=>?_;refine oC (fun g22=>?_) fun g22=>?_
  ·refine oB (gD y27.gVars bQ) fun x39 h23=>oB (t9 y27.gBody bQ (by rw [show y27=aW pa0.gSignatures i22 by assumption];exact YZ hB (by assumption))) fun x41 h24=>?_
   have:=aA.wt_eq x36
   have:=aY (x36.gList)
   have:=lE x39 x41
   refine oG fun z25=>?_
   have:=aY (v24)
   have:=b6 x36.gList ([x39,x41]:List aA)
   have:=aA.wt_mk x36.gAtom (x36.gList++([x39,x41]:List aA))
   have:=cE (aA.mk x36.gAtom (x36.gList++([x39,x41]:List aA)))
   refine oG fun z26=>?_
   have:=b6 v24 ([(aA.mk x36.gAtom (x36.gList++([x39,x41]:List aA)))]:List aA)
   exact oO
  have:=aY (v24)
  have:=aA.wt_eq x36
  have:=aA.wt_mk x36.gAtom x36.gList
  have:=cE (aA.mk x36.gAtom x36.gList)
  refine oG fun z27=>?_
  have:=b6 v24 ([(aA.mk x36.gAtom x36.gList)]:List aA)
  exact oO
 intro v24 h14
 have:=aA.wt_mk x21.gAtom v24
 exact oB (oV true (aA.mk x21.gAtom v24) bQ) fun x46 h28=>oS
def RP(fu:Nat):Prop:= ∀(pa0:aA),wt pa0≤65536→Ok (w5 fu pa0) (fun r=>wt r.1≤16*wt pa0)
theorem wT:cH RP:=(((((((((((cH.ge 2147483648).and cI).and gQ).and dT).and mW).and yI).and iC).and nY).and cN).and wU).and gV).imp fun fu ⟨⟨⟨⟨⟨⟨⟨⟨⟨⟨hfu,cI⟩,gQ⟩,dT⟩,mW⟩,yI⟩,iC⟩,nY⟩,cN⟩,wU⟩,gV⟩ pa0 hpre=>by
 refine oB (cI pa0 3 bQ) fun x2 h1=>oB (gQ x2 bQ) fun x4 h2=>oB (cI pa0 1 bQ) fun x6 h3=>oB (cI pa0 2 bQ) fun x8 h4=>oB (gQ x8 bQ) fun x10 h5=>?_
 have:zP.size=4:=rfl
 refine oB (dT x4 zP) fun x12 _=>?_
 have:fX.size=5:=rfl
 refine oB (dT x4 fX) fun x14 _=>?_
 have:=aA.wt_eq pa0
 refine oB (mW pa0 4 bQ) fun x16 h8=>?_
 have:=(aV:wl ([]:List aC)=0∧_)
 refine apD (PA:=fun a=>JJ a.gBody) x16 8 (fun i17 v19 hl10 hI11 hI11B _ _=>?_) ?_
 ·have:=aY x16
  have:=b7 x16 i17 hl10
  refine oB (cI (aW x16 i17) 0 bQ) fun x23 h12=>oB (cI (aW x16 i17) 1 bQ) fun x25 h13=>?_
  have:=aA.wt_eq x25
  refine oB (yI x25.gList bQ) fun x27 h14=>oB (cI (aW x16 i17) 2 bQ) fun x29 h15=>oB (iC x29 bQ) fun x31 h16=>?_
  have:=aA.wt_eq (aW x16 i17)
  have:=aY ((aW x16 i17).gList)
  refine oD (fun g17=>?_) fun g17=>?_
  ·refine oB (cI (aW x16 i17) 3 bQ) fun x34 h18=>oB (gQ x34 bQ) fun x36 h19=>oB (cI (aW x16 i17) 4 bQ) fun x38 h20=>Q8 (nY x38 bQ) fun x40 h21 h21B=>?_
   have:=aY (v19)
   have:=aA.wt_eq x23
   have:=aC.wt_mk x23.gAtom x27 x31 true x36 x40
   have:=cE (aC.mk x23.gAtom x27 x31 true x36 x40)
   refine oG fun z22=>?_
   have:=b6 v19 ([(aC.mk x23.gAtom x27 x31 true x36 x40)]:List aC)
   exact oX hI11B
  have:=aY (v19)
  have:=aA.wt_eq x23
  have:s_.size=0:=rfl
  have:=(aV:wl ([]:List aB)=0∧_)
  have:=aB.wt_mk 0 s_ []
  have:=(aV:wl ([]:List aG)=0∧_)
  have:=(aV:wl ([]:List bA)=0∧_)
  have:=aG.wt_mk 0 s_ s_ 0 (aB.mk 0 s_ []) [] []
  have:=(aV:wl ([]:LB)=0∧_)
  have:=aC.wt_mk x23.gAtom x27 x31 false [] (aG.mk 0 s_ s_ 0 (aB.mk 0 s_ []) [] [])
  have:=cE (aC.mk x23.gAtom x27 x31 false [] (aG.mk 0 s_ s_ 0 (aB.mk 0 s_ []) [] []))
  refine oG fun z23=>?_
  have:=b6 v19 ([(aC.mk x23.gAtom x27 x31 false [] (aG.mk 0 s_ s_ 0 (aB.mk 0 s_ []) [] []))]:List aC)
  exact oX hI11B
 rintro v19 ⟨h9,h9B⟩
 refine oB (cN pa0 bQ) fun x44 _=>?_;refine oW (fun g25=>?_) fun g25=>?_
 ·have:s_.size=0:=rfl
  have:=(aV:wl ([]:LB)=0∧_)
  have:=aP.wt_mk s_ [] false false []
  exact oS
 have:=aY pa0.gList
 refine oD (fun g26=>?_) fun g26=>?_
 ·have:s_.size=0:=rfl
  have:=(aV:wl ([]:LB)=0∧_)
  have:=aP.wt_mk s_ [] false false []
  exact oS
 have:=aA.wt_eq x6
 have:=aP.wt_mk x6.gAtom x10 x12 x14 v19
 refine oB (wU (aP.mk x6.gAtom x10 x12 x14 v19) bQ (by first|assumption|trivial)) fun x48 h27=>oB (gV x48 pa0 bQ) fun x50 _=>?_;refine oW (fun g29=>?_) fun g29=>?_
 ·have:s_.size=0:=rfl
  have:=(aV:wl ([]:LB)=0∧_)
  have:=aP.wt_mk s_ [] false false []
  exact oS
 exact oS
def JP(fu:Nat):Prop:= ∀(pd:aH),wt pd≤1048576→Ok (s5 fu pd) (fun r=>wt r≤64*wt pd+64)
theorem sU:cH JP:=(((((((cH.ge 2147483648).and bN).and gD).and e8).and tI).and jT).and oV).imp fun fu ⟨⟨⟨⟨⟨⟨hfu,bN⟩,gD⟩,e8⟩,tI⟩,jT⟩,oV⟩ pd hpre=>by
 have:P3.size=4:=rfl
 refine oB (bN P3) fun x2 h1=>?_
 have:=aH.wt_eq pd
 refine oB (bN pd.gName) fun x4 h2=>oB (gD pd.gVars bQ) fun x6 h3=>?_
 have:=EV x2 x4 x6
 refine oB (e8 ([x2,x4,x6]:List aA) bQ) fun x8 h4=>?_
 have:=aA.wt_eq x8
 refine MW pd.gConstructors 64 (fun i9 v11 hl6 hI7 _ _=>?_) ?_
 ·have:=aY pd.gConstructors
  have:=b7 pd.gConstructors i9 hl6
  have:=aD.wt_eq (aW pd.gConstructors i9)
  refine oB (bN ((aW pd.gConstructors i9).gName)) fun x15 h8=>oB (tI ((aW pd.gConstructors i9).gFields) bQ) fun x17 h9=>?_
  have:=cE x15
  have:=aY (x17)
  refine oG fun z10=>?_
  have:=aY (v11)
  have:s_.size=0:=rfl
  have:=b6 ([x15]:List aA) x17
  have:=aA.wt_mk s_ (([x15]:List aA)++x17)
  have:=cE (aA.mk s_ (([x15]:List aA)++x17))
  refine oG fun z11=>?_
  have:=b6 v11 ([(aA.mk s_ (([x15]:List aA)++x17))]:List aA)
  exact oO
 intro v11 h5
 refine oB (jT pd bQ) fun x21 _=>?_
 have:=aA.wt_mk x8.gAtom v11
 exact oB (oV x21 (aA.mk x8.gAtom v11) bQ) fun x23 h13=>oS
def JV(fu:Nat):Prop:= ∀(px:aA),wt px≤65536→Ok (s8 fu px) (fun r=>wt r.1≤16*wt px)
theorem sY:cH JV:=((((((((cH.ge 2147483648).and cI).and gQ).and mW).and yI).and cN).and sU).and gV).imp fun fu ⟨⟨⟨⟨⟨⟨⟨hfu,cI⟩,gQ⟩,mW⟩,yI⟩,cN⟩,sU⟩,gV⟩ px hpre=>by
 refine oB (cI px 1 bQ) fun x2 h1=>oB (cI px 2 bQ) fun x4 h2=>oB (gQ x4 bQ) fun x6 h3=>?_
 have:=aA.wt_eq px
 refine oB (mW px 3 bQ) fun x8 h4=>?_
 have:=(aV:wl ([]:List aD)=0∧_)
 refine MW x8 4 (fun i9 v11 hl6 hI7 _ _=>?_) ?_
 ·have:=aY x8
  have:=b7 x8 i9 hl6
  refine oB (cI (aW x8 i9) 0 bQ) fun x15 h8=>?_
  have:=aA.wt_eq (aW x8 i9)
  refine oB (mW (aW x8 i9) 1 bQ) fun x17 h9=>oB (yI x17 bQ) fun x19 h10=>?_
  have:=aY (v11)
  have:=aA.wt_eq x15
  have:=aD.wt_mk x15.gAtom x19
  have:=cE (aD.mk x15.gAtom x19)
  refine oG fun z11=>?_
  have:=b6 v11 ([(aD.mk x15.gAtom x19)]:List aD)
  exact oO
 intro v11 h5
 refine oB (cN px bQ) fun x22 _=>?_;refine oW (fun g13=>?_) fun g13=>?_
 ·have:s_.size=0:=rfl
  have:=(aV:wl ([]:LB)=0∧_)
  have:=aH.wt_mk s_ [] []
  exact oS
 have:=aY px.gList
 refine oD (fun g14=>?_) fun g14=>?_
 ·have:s_.size=0:=rfl
  have:=(aV:wl ([]:LB)=0∧_)
  have:=aH.wt_mk s_ [] []
  exact oS
 have:=aA.wt_eq x2
 have:=aH.wt_mk x2.gAtom x6 v11
 refine oB (sU (aH.mk x2.gAtom x6 v11) bQ) fun x26 h15=>oB (gV x26 px bQ) fun x28 _=>?_;refine oW (fun g17=>?_) fun g17=>?_
 ·have:s_.size=0:=rfl
  have:=(aV:wl ([]:LB)=0∧_)
  have:=aH.wt_mk s_ [] []
  exact oS
 exact oS
def YV(fu:Nat):Prop:= ∀(px:aA),wt px≤33554432→Ok (yC fu px) (fun r=>wl r≤4*wt px)
theorem q7:cH YV:=(((cH.ge 2147483648).and cI).and iC).imp fun fu ⟨⟨hfu,cI⟩,iC⟩ px hpre=>by
 have:=(aV:wl ([]:List aM)=0∧_)
 have:=aA.wt_eq px
 refine MW px.gList 4 (fun i1 v3 hl2 hI3 _ _=>?_) ?_
 ·have:=aY px.gList
  have:=b7 px.gList i1 hl2
  refine oB (cI (aW px.gList i1) 0 bQ) fun x7 h4=>oB (cI (aW px.gList i1) 1 bQ) fun x9 h5=>oB (iC x9 bQ) fun x11 h6=>?_
  have:=aY (v3)
  have:=aA.wt_eq x7
  have:=aM.wt_mk x7.gAtom x11
  have:=cE (aM.mk x7.gAtom x11)
  refine oG fun z7=>?_
  have:=b6 v3 ([(aM.mk x7.gAtom x11)]:List aM)
  exact oO
 intro v3 h1
 exact oS
def ab9(fu:Nat):Prop:= ∀(plist:List aM),wl plist≤16777216→Ok (AV fu plist) (fun r=>wt r≤16*wl plist)
theorem tJ:cH ab9:=((((cH.ge 2147483648).and bN).and iU).and e8).imp fun fu ⟨⟨⟨hfu,bN⟩,iU⟩,e8⟩ plist hpre=>by
 have:=(aV:wl ([]:List aA)=0∧_)
 refine MW plist 16 (fun i1 v3 hl2 hI3 _ _=>?_) ?_
 ·have:=aY plist
  have:=b7 plist i1 hl2
  have:=aM.wt_eq (aW plist i1)
  refine oB (bN ((aW plist i1).gTrait)) fun x7 h4=>oB (iU ((aW plist i1).gType) bQ) fun x9 h5=>?_
  have:=lE x7 x9
  refine oB (e8 ([x7,x9]:List aA) bQ) fun x11 h6=>?_
  have:=aY (v3)
  have:=cE x11
  refine oG fun z7=>?_
  have:=b6 v3 ([x11]:List aA)
  exact oO
 intro v3 h1
 have:s_.size=0:=rfl
 have:=aA.wt_mk s_ v3
 exact oS
def JR(fu:Nat):Prop:= ∀(pa0:aL),wt pa0≤1048576→(∀a∈pa0.gMethods,JJ a.gBody)→Ok (s7 fu pa0) (fun r=>wt r≤64*wt pa0+128)
theorem sW:cH JR:=(((((((((cH.ge 2147483648).and jV).and iU).and e8).and bN).and gD).and tJ).and t9).and oV).imp fun fu ⟨⟨⟨⟨⟨⟨⟨⟨hfu,jV⟩,iU⟩,e8⟩,bN⟩,gD⟩,tJ⟩,t9⟩,oV⟩ pa0 hpre hB=>by
 refine oB (jV pa0 bQ) fun x2 _=>?_;refine oW (fun g2=>?_) fun g2=>?_
 ·have:s_.size=0:=rfl
  have:=(aV:wl ([]:List aA)=0∧_)
  have:=aA.wt_mk s_ []
  exact oS
 refine Ok.sok (E:=fun v5=>wl v5≤8) ?_ ?_
 ·have:=aL.wt_eq pa0
  refine oC (fun g4=>?_) fun g4=>?_
  ·have:=(aV:wl ([]:LB)=0∧_)
   have:u6.size=7:=rfl
   have:=cE u6
   have:=a9 u6
   refine oG fun z5=>?_
   have:=b6 ([]:LB) ([u6]:LB)
   exact oI
  have:=(aV:wl ([]:LB)=0∧_)
  exact oI
 intro v5 h3
 have:=aL.wt_eq pa0
 refine Ok.sok (E:=fun(v8,v9)=>v8.size+wl v9≤8*wt pa0.gAssoc+16) ?_ ?_
 ·refine oC (fun g7=>?_) fun g7=>?_
  ·refine oB (iU pa0.gAssoc bQ) fun x12 h8=>?_
   have:=cE x12
   refine oB (e8 ([x12]:List aA) bQ) fun x14 h9=>?_
   have:=aA.wt_eq x14
   exact oI
  have:s_.size=0:=rfl
  have:=(aV:wl ([]:List aA)=0∧_)
  exact oI
 rintro⟨v8,v9⟩ h6
 dsimp only at h6
 have:P4.size=4:=rfl
 refine oB (bN P4) fun x16 h10=>oB (bN pa0.gTrait) fun x18 h11=>oB (gD pa0.gVars bQ) fun x20 h12=>oB (iU pa0.gHead bQ) fun x22 h13=>oB (tJ pa0.gWhere bQ) fun x24 h14=>oB (gD v5 bQ) fun x26 h15=>?_
 have:=aA.wt_mk v8 v9
 have:=ar1 x16 x18 x20 x22 x24 x26 (aA.mk v8 v9)
 refine oB (e8 ([x16,x18,x20,x22,x24,x26,(aA.mk v8 v9)]:List aA) bQ) fun x28 h16=>?_
 have:=aA.wt_eq x28
 refine MW pa0.gMethods 64 (fun i29 v31 hl18 hI19 _ _=>?_) ?_
 ·have:=aY pa0.gMethods
  have:=b7 pa0.gMethods i29 hl18
  refine Ok.lt fun y34 h20=>?_
  have:=congrArg wt h20
  have:=aO.wt_eq y34
  refine oB (bN y34.gName) fun x37 h21=>oB (gD y34.gVars bQ) fun x39 h22=>oB (t9 y34.gBody bQ (by rw [show y34=aW pa0.gMethods i29 by assumption];exact YZ hB (by assumption))) fun x41 h23=>?_
  have:=EV x37 x39 x41
  refine oB (e8 ([x37,x39,x41]:List aA) bQ) fun x43 h24=>?_
  have:=aY (v31)
  have:=aA.wt_eq x43
  have:=aA.wt_mk x43.gAtom x43.gList
  have:=cE (aA.mk x43.gAtom x43.gList)
  refine oG fun z25=>?_
  have:=b6 v31 ([(aA.mk x43.gAtom x43.gList)]:List aA)
  exact oO
 intro v31 h17
 have:=aA.wt_mk x28.gAtom v31
 exact oB (oV true (aA.mk x28.gAtom v31) bQ) fun x46 h26=>oS
def JX(fu:Nat):Prop:= ∀(pa0:aA),wt pa0≤65536→Ok (tA fu pa0) (fun r=>wt r.1≤16*wt pa0)
theorem s3:cH JX:=((((((((((cH.ge 2147483648).and cI).and gQ).and iC).and q7).and mW).and nY).and cN).and sW).and gV).imp fun fu ⟨⟨⟨⟨⟨⟨⟨⟨⟨hfu,cI⟩,gQ⟩,iC⟩,q7⟩,mW⟩,nY⟩,cN⟩,sW⟩,gV⟩ pa0 hpre=>by
 refine oB (cI pa0 1 bQ) fun x2 h1=>oB (cI pa0 2 bQ) fun x4 h2=>oB (gQ x4 bQ) fun x6 h3=>oB (cI pa0 3 bQ) fun x8 h4=>oB (iC x8 bQ) fun x10 h5=>oB (cI pa0 4 bQ) fun x12 h6=>oB (q7 x12 bQ) fun x14 h7=>oB (cI pa0 5 bQ) fun x16 h8=>oB (cI pa0 6 bQ) fun x18 h9=>?_;refine Ok.sok (E:=fun(v22,v19,v20,v21)=>wl v22+v21.size≤2*wt x18) ?_ ?_
 ·have:=aA.wt_eq x18
  have:=aY x18.gList
  refine oD (fun g11=>?_) fun g11=>?_
  ·have:=aY (x18.gList)
   refine oG fun z12=>?_
   have:=b7 x18.gList 0 z12
   have:wl (List.take 1 x18.gList)=wl (List.take 0 x18.gList)+wt (aW x18.gList 0)+1:=JI x18.gList 0 z12
   refine oB (iC (aW x18.gList 0) bQ) fun x26 h13=>?_
   have:=aB.wt_eq x26
   exact oI
  have:s_.size=0:=rfl
  have:=(aV:wl ([]:List aB)=0∧_)
  exact oI
 rintro⟨v22,v19,v20,v21⟩ h10
 dsimp only at h10
 have:=aA.wt_eq pa0
 refine oB (mW pa0 7 bQ) fun x28 h14=>?_
 have:=(aV:wl ([]:List aO)=0∧_)
 refine apD (PA:=fun a=>JJ a.gBody) x28 4 (fun i29 v31 hl16 hI17 hI17B _ _=>?_) ?_
 ·have:=aY x28
  have:=b7 x28 i29 hl16
  refine oB (cI (aW x28 i29) 0 bQ) fun x35 h18=>oB (cI (aW x28 i29) 1 bQ) fun x37 h19=>oB (gQ x37 bQ) fun x39 h20=>oB (cI (aW x28 i29) 2 bQ) fun x41 h21=>Q8 (nY x41 bQ) fun x43 h22 h22B=>?_
  have:=aY (v31)
  have:=aA.wt_eq x35
  have:=aO.wt_mk x35.gAtom x39 x43
  have:=cE (aO.mk x35.gAtom x39 x43)
  refine oG fun z23=>?_
  have:=b6 v31 ([(aO.mk x35.gAtom x39 x43)]:List aO)
  exact oX hI17B
 rintro v31 ⟨h15,h15B⟩
 refine oB (cN pa0 bQ) fun x46 _=>?_;refine oW (fun g25=>?_) fun g25=>?_
 ·have:s_.size=0:=rfl
  have:=(aV:wl ([]:List aB)=0∧_)
  have:=aB.wt_mk 0 s_ []
  have:=(aV:wl ([]:LB)=0∧_)
  have:=(aV:wl ([]:List aM)=0∧_)
  have:=aL.wt_mk s_ [] (aB.mk 0 s_ []) [] false false (aB.mk 0 s_ []) []
  exact oS
 have:=aY pa0.gList
 refine oD (fun g26=>?_) fun g26=>?_
 ·have:s_.size=0:=rfl
  have:=(aV:wl ([]:List aB)=0∧_)
  have:=aB.wt_mk 0 s_ []
  have:=(aV:wl ([]:LB)=0∧_)
  have:=(aV:wl ([]:List aM)=0∧_)
  have:=aL.wt_mk s_ [] (aB.mk 0 s_ []) [] false false (aB.mk 0 s_ []) []
  exact oS
 have:=aA.wt_eq x2
 have:=aA.wt_eq x16
 have:=aY x16.gList
 have:=aB.wt_mk v20 v21 v22
 have:=aL.wt_mk x2.gAtom x6 x10 x14 (decide ((x16.gList.length:Int)>0)) v19 (aB.mk v20 v21 v22) v31
 refine oB (sW (aL.mk x2.gAtom x6 x10 x14 (decide ((x16.gList.length:Int)>0)) v19 (aB.mk v20 v21 v22) v31) bQ (by first|assumption|trivial)) fun x50 h27=>oB (gV x50 pa0 bQ) fun x52 _=>?_;refine oW (fun g29=>?_) fun g29=>?_
 ·have:s_.size=0:=rfl
  have:=(aV:wl ([]:List aB)=0∧_)
  have:=aB.wt_mk 0 s_ []
  have:=(aV:wl ([]:LB)=0∧_)
  have:=(aV:wl ([]:List aM)=0∧_)
  have:=aL.wt_mk s_ [] (aB.mk 0 s_ []) [] false false (aB.mk 0 s_ []) []
  exact oS
 exact oS
def JQ(fu:Nat):Prop:= ∀(pf:aK),wt pf≤1048576→(JJ pf.gBody)→Ok (s6 fu pf) (fun r=>wt r≤64*wt pf+128)
theorem sV:cH JQ:=(((((((((cH.ge 2147483648).and jU).and bN).and iU).and e8).and gD).and tJ).and t9).and oV).imp fun fu ⟨⟨⟨⟨⟨⟨⟨⟨hfu,jU⟩,bN⟩,iU⟩,e8⟩,gD⟩,tJ⟩,t9⟩,oV⟩ pf hpre hB=>by
 refine oB (jU pf bQ) fun x2 _=>?_;refine oW (fun g2=>?_) fun g2=>?_
 ·have:s_.size=0:=rfl
  have:=(aV:wl ([]:List aA)=0∧_)
  have:=aA.wt_mk s_ []
  exact oS
 have:=(aV:wl ([]:List aA)=0∧_)
 have:=aK.wt_eq pf
 refine MW pf.gParams 16 (fun i4 v6 hl4 hI5 _ _=>?_) ?_
 ·have:=aY pf.gParams
  have:=b7 pf.gParams i4 hl4
  have:=aT.wt_eq (aW pf.gParams i4)
  refine oB (bN ((aW pf.gParams i4).gName)) fun x10 h6=>oB (iU ((aW pf.gParams i4).gType) bQ) fun x12 h7=>?_
  have:=lE x10 x12
  refine oB (e8 ([x10,x12]:List aA) bQ) fun x14 h8=>?_
  have:=aY (v6)
  have:=cE x14
  refine oG fun z9=>?_
  have:=b6 v6 ([x14]:List aA)
  exact oO
 intro v6 h3
 have:alJ.size=2:=rfl
 refine oB (bN alJ) fun x17 h10=>oB (bN pf.gName) fun x19 h11=>oB (gD pf.gVars bQ) fun x21 h12=>oB (tJ pf.gWhere bQ) fun x23 h13=>oB (iU pf.gResult bQ) fun x25 h14=>oB (t9 pf.gBody bQ (by first|assumption|trivial)) fun x27 h15=>?_
 have:s_.size=0:=rfl
 have:=aA.wt_mk s_ v6
 have:=ar1 x17 x19 x21 x23 (aA.mk s_ v6) x25 x27
 exact oB (e8 ([x17,x19,x21,x23,(aA.mk s_ v6),x25,x27]:List aA) bQ) fun x29 h16=>oB (oV true x29 bQ) fun x31 h17=>oS
def JW(fu:Nat):Prop:= ∀(pa0:aA),wt pa0≤65536→Ok (s9 fu pa0) (fun r=>wt r.1≤16*wt pa0)
theorem sZ:cH JW:=(((((((((cH.ge 2147483648).and cI).and gQ).and q7).and iC).and nY).and cN).and sV).and gV).imp fun fu ⟨⟨⟨⟨⟨⟨⟨⟨hfu,cI⟩,gQ⟩,q7⟩,iC⟩,nY⟩,cN⟩,sV⟩,gV⟩ pa0 hpre=>by
 refine oB (cI pa0 1 bQ) fun x2 h1=>oB (cI pa0 2 bQ) fun x4 h2=>oB (gQ x4 bQ) fun x6 h3=>oB (cI pa0 3 bQ) fun x8 h4=>oB (q7 x8 bQ) fun x10 h5=>oB (cI pa0 5 bQ) fun x12 h6=>oB (iC x12 bQ) fun x14 h7=>oB (cI pa0 6 bQ) fun x16 h8=>Q8 (nY x16 bQ) fun x18 h9 h9B=>oB (cI pa0 4 bQ) fun x20 h10=>?_
 have:=(aV:wl ([]:List aT)=0∧_)
 have:=aA.wt_eq x20
 refine MW x20.gList 4 (fun i21 v23 hl12 hI13 _ _=>?_) ?_
 ·have:=aY x20.gList
  have:=b7 x20.gList i21 hl12
  refine oB (cI (aW x20.gList i21) 0 bQ) fun x27 h14=>oB (cI (aW x20.gList i21) 1 bQ) fun x29 h15=>oB (iC x29 bQ) fun x31 h16=>?_
  have:=aY (v23)
  have:=aA.wt_eq x27
  have:=aT.wt_mk x27.gAtom x31
  have:=cE (aT.mk x27.gAtom x31)
  refine oG fun z17=>?_
  have:=b6 v23 ([(aT.mk x27.gAtom x31)]:List aT)
  exact oO
 intro v23 h11
 refine oB (cN pa0 bQ) fun x34 _=>?_;refine oW (fun g19=>?_) fun g19=>?_
 ·have:s_.size=0:=rfl
  have:=(aV:wl ([]:List aB)=0∧_)
  have:=aB.wt_mk 0 s_ []
  have:=(aV:wl ([]:List aG)=0∧_)
  have:=(aV:wl ([]:List bA)=0∧_)
  have:=aG.wt_mk 0 s_ s_ 0 (aB.mk 0 s_ []) [] []
  have:=(aV:wl ([]:LB)=0∧_)
  have:=(aV:wl ([]:List aM)=0∧_)
  have:=aK.wt_mk s_ [] [] [] (aB.mk 0 s_ []) (aG.mk 0 s_ s_ 0 (aB.mk 0 s_ []) [] [])
  exact oS
 have:=aA.wt_eq pa0
 have:=aY pa0.gList
 refine oD (fun g20=>?_) fun g20=>?_
 ·have:s_.size=0:=rfl
  have:=(aV:wl ([]:List aB)=0∧_)
  have:=aB.wt_mk 0 s_ []
  have:=(aV:wl ([]:List aG)=0∧_)
  have:=(aV:wl ([]:List bA)=0∧_)
  have:=aG.wt_mk 0 s_ s_ 0 (aB.mk 0 s_ []) [] []
  have:=(aV:wl ([]:LB)=0∧_)
  have:=(aV:wl ([]:List aM)=0∧_)
  have:=aK.wt_mk s_ [] [] [] (aB.mk 0 s_ []) (aG.mk 0 s_ s_ 0 (aB.mk 0 s_ []) [] [])
  exact oS
 have:=aA.wt_eq x2
 have:=aK.wt_mk x2.gAtom x6 x10 v23 x14 x18
 refine oB (sV (aK.mk x2.gAtom x6 x10 v23 x14 x18) bQ (by first|assumption|trivial)) fun x38 h21=>oB (gV x38 pa0 bQ) fun x40 _=>?_;refine oW (fun g23=>?_) fun g23=>?_
 ·have:s_.size=0:=rfl
  have:=(aV:wl ([]:List aB)=0∧_)
  have:=aB.wt_mk 0 s_ []
  have:=(aV:wl ([]:List aG)=0∧_)
  have:=(aV:wl ([]:List bA)=0∧_)
  have:=aG.wt_mk 0 s_ s_ 0 (aB.mk 0 s_ []) [] []
  have:=(aV:wl ([]:LB)=0∧_)
  have:=(aV:wl ([]:List aM)=0∧_)
  have:=aK.wt_mk s_ [] [] [] (aB.mk 0 s_ []) (aG.mk 0 s_ s_ 0 (aB.mk 0 s_ []) [] [])
  exact oS
 exact oS
end Go.Proofs.YtpioomclpaiomaaGreat.W

namespace Go.Proofs.YtpioomclpaiomaaGreat.W
set_option maxRecDepth 20000
set_option maxHeartbeats 4000000
open Go.RowKit Go.WalkArith Go.IntWalk
def YT(fu:Nat):Prop:= ∀(ps:ByteArray) (pby:UInt8),ps.size≤1073741824→Ok (DY fu ps pby) (fun r=>wl r≤ps.size+1)
theorem DL:cH YT:=(cH.ge 2147483648).imp fun fu hfu ps pby hpre=>by
 have:=(aV:wl ([]:LB)=0∧_)
 refine Ok.sok (E:=fun(v4,v2,v3)=>wl v4≤ps.size+1) ?_ ?_
 ·refine Ok.loopW (fun(v4,v2,v3)=>0≤v2∧v2≤v3∧v3≤(ps.size:Int)+1∧(wl v4:Int)≤v2) (fun(v4,v2,v3)=>((ps.size:Int)+2-v3).toNat) ?_ _ _ bQ bQ
  rintro⟨v4,v2,v3⟩ hI3
  try dsimp only at hI3
  refine oD (fun g4=>?_) fun g4=>?_
  ·refine oD (fun g5=>?_) fun g5=>?_
   ·refine oG fun z6=>?_
    have:=aY (v4)
    have:=C2 ps (v2:Int).toNat (v3:Int).toNat
    have:=cE (ps.extract (v2:Int).toNat (v3:Int).toNat)
    have:=a9 (ps.extract (v2:Int).toNat (v3:Int).toNat)
    refine oG fun z7=>?_
    have:=b6 v4 ([(ps.extract (v2:Int).toNat (v3:Int).toNat)]:LB)
    have:=eT (v3+1)
    exact oO
   refine oG fun z8=>?_;refine oD (fun g9=>?_) fun g9=>?_
   ·refine oG fun z10=>?_
    have:=aY (v4)
    have:=C2 ps (v2:Int).toNat (v3:Int).toNat
    have:=cE (ps.extract (v2:Int).toNat (v3:Int).toNat)
    have:=a9 (ps.extract (v2:Int).toNat (v3:Int).toNat)
    refine oG fun z11=>?_
    have:=b6 v4 ([(ps.extract (v2:Int).toNat (v3:Int).toNat)]:LB)
    have:=eT (v3+1)
    exact oO
   have:=eT (v3+1)
   exact oO
  exact oK
 rintro⟨v4,v2,v3⟩ h1
 dsimp only at h1
 exact oS
def acB(fu:Nat):Prop:= ∀(ps:ByteArray),ps.size≤1073741824→Ok (F8 fu ps) (fun _=>True)
theorem FO:cH acB:=(cH.ge 2147483648).imp fun fu hfu ps hpre=>by
 refine EW ?_ ?_
 ·refine Ok.loop1 ?_;rintro i1 ⟨⟩ hl2
  exact oG fun z4=>oN (fun _=>oR) fun g5=>oO
 rintro⟨⟩-
 exact oS
def af9(fu:Nat):Prop:= ∀(pq0:ByteArray×(LB)×(List aP)×(List aH)×(List aL)×(List aK)) (pa1:aA),wt pa1≤65536∧wl pq0.2.2.1+wl pq0.2.2.2.1+wl pq0.2.2.2.2.1+wl pq0.2.2.2.2.2≤1073741824→Ok (LF fu pq0 pa1) (fun r=>r.2.1.size+wl r.2.2.1+wl r.2.2.2.1+wl r.2.2.2.2.1+wl r.2.2.2.2.2.1+wl r.2.2.2.2.2.2≤pq0.1.size+wl pq0.2.1+wl pq0.2.2.1+wl pq0.2.2.2.1+wl pq0.2.2.2.2.1+wl pq0.2.2.2.2.2+16*wt pa1+1)
theorem KF:cH af9:=((((((cH.ge 2147483648).and cI).and wT).and sY).and s3).and sZ).imp fun fu ⟨⟨⟨⟨⟨hfu,cI⟩,wT⟩,sY⟩,s3⟩,sZ⟩ pq0 pa1 hpre=>by
 have:=aY pq0.2.2.1
 have:=aY pq0.2.2.2.1
 have:=aY pq0.2.2.2.2.1
 have:=aY pq0.2.2.2.2.2
 refine oB (cI pa1 0 bQ) fun x2 h1=>?_
 have:=aA.wt_eq x2
 have:G2.size=5:=rfl
 refine oD (fun g2=>?_) fun g2=>?_
 ·have:=congrArg ByteArray.size g2
  refine uM (wT pa1 bQ) fun x5 x6 h3=>?_
  dsimp only at h3
  have:=aY (pq0.2.2.1)
  have:=cE x5
  refine oG fun z4=>?_
  have:=b6 pq0.2.2.1 ([x5]:List aP)
  exact oS
 have:P3.size=4:=rfl
 refine oD (fun g5=>?_) fun g5=>?_
 ·have:=congrArg ByteArray.size g5
  refine uM (sY pa1 bQ) fun x10 x11 h6=>?_
  dsimp only at h6
  have:=aY (pq0.2.2.2.1)
  have:=cE x10
  refine oG fun z7=>?_
  have:=b6 pq0.2.2.2.1 ([x10]:List aH)
  exact oS
 have:P4.size=4:=rfl
 refine oD (fun g8=>?_) fun g8=>?_
 ·have:=congrArg ByteArray.size g8
  refine uM (s3 pa1 bQ) fun x15 x16 h9=>?_
  dsimp only at h9
  have:=aY (pq0.2.2.2.2.1)
  have:=cE x15
  refine oG fun z10=>?_
  have:=b6 pq0.2.2.2.2.1 ([x15]:List aL)
  exact oS
 have:alJ.size=2:=rfl
 refine oD (fun g11=>?_) fun g11=>?_
 ·have:=congrArg ByteArray.size g11
  refine uM (sZ pa1 bQ) fun x20 x21 h12=>?_
  dsimp only at h12
  have:=cE x20
  refine oG fun z13=>?_
  have:=b6 pq0.2.2.2.2.2 ([x20]:List aK)
  exact oS
 exact oS
def acC(fu:Nat):Prop:= ∀(pa0:aJ),wt pa0≤4194304→Ok (F9 fu pa0) (fun _=>True)
theorem FP:cH acC:=(cH.ge 2147483648).imp fun fu hfu pa0 hpre=>by
 have:=(aV:wl ([]:LB)=0∧_)
 have:=aJ.wt_eq pa0
 refine MW pa0.gTraits 1 (fun i1 v3 hl2 hI3 _ _=>?_) ?_
 ·have:=aY pa0.gTraits
  have:=aY (v3)
  have:=b7 pa0.gTraits i1 hl2
  have:=aP.wt_eq (aW pa0.gTraits i1)
  have:=cE ((aW pa0.gTraits i1).gName)
  have:=a9 ((aW pa0.gTraits i1).gName)
  refine oG fun z4=>?_
  have:=b6 v3 ([((aW pa0.gTraits i1).gName)]:LB)
  exact oO
 intro v3 h1
 refine Ok.sok (E:=fun(v10,v11)=>wl v10+1*wl (List.take 0 pa0.gDataTypes)≤wl ([]:LB)+1*wl pa0.gDataTypes∧wl v11+1*wl (List.take 0 pa0.gDataTypes)≤wl ([]:LB)+1*wl pa0.gDataTypes) ?_ ?_
 ·refine Ok.loop0 (fun i7 (v10,v11)=>wl v10+1*wl (List.take 0 pa0.gDataTypes)≤wl ([]:LB)+1*wl (List.take i7 pa0.gDataTypes)∧wl v11+1*wl (List.take 0 pa0.gDataTypes)≤wl ([]:LB)+1*wl (List.take i7 pa0.gDataTypes)) (by exact bQ) (by rintro i7 ⟨v10,v11⟩-hI;have:=oJ pa0.gDataTypes i7;(try dsimp only at hI ⊢);omega) ?_;rintro i7 ⟨v10,v11⟩ hl6 hI7
  dsimp only at hI7
  have:=aY pa0.gDataTypes
  have:=oM pa0.gDataTypes i7 hl6
  have:=oJ pa0.gDataTypes (i7+1)
  have:=aY (v10)
  have:=b7 pa0.gDataTypes i7 hl6
  have:=aH.wt_eq (aW pa0.gDataTypes i7)
  have:=cE ((aW pa0.gDataTypes i7).gName)
  have:=a9 ((aW pa0.gDataTypes i7).gName)
  refine oG fun z8=>?_;refine MW ((aW pa0.gDataTypes i7).gConstructors) 1 (fun i15 v17 hl10 hI11 _ _=>?_) ?_
  ·have:=aY ((aW pa0.gDataTypes i7).gConstructors)
   have:=aY (v17)
   have:=b7 ((aW pa0.gDataTypes i7).gConstructors) i15 hl10
   have:=aD.wt_eq (aW ((aW pa0.gDataTypes i7).gConstructors) i15)
   have:=cE ((aW ((aW pa0.gDataTypes i7).gConstructors) i15).gName)
   have:=a9 ((aW ((aW pa0.gDataTypes i7).gConstructors) i15).gName)
   refine oG fun z12=>?_
   have:=b6 v17 ([((aW ((aW pa0.gDataTypes i7).gConstructors) i15).gName)]:LB)
   exact oO
  intro v17 h9
  have:=b6 v10 ([((aW pa0.gDataTypes i7).gName)]:LB)
  exact oO
 rintro⟨v10,v11⟩ h5
 dsimp only at h5
 refine MW pa0.gFunctions 1 (fun i21 v23 hl14 hI15 _ _=>?_) ?_
 ·have:=aY pa0.gFunctions
  have:=b7 pa0.gFunctions i21 hl14
  refine Ok.lt fun y26 h16=>?_
  have:=congrArg wt h16
  have:=aY (v23)
  have:=aK.wt_eq y26
  have:=cE y26.gName
  have:=a9 y26.gName
  refine oG fun z17=>?_
  have:=b6 v23 ([y26.gName]:LB)
  exact oO
 intro v23 h13
 exact oS
def acD(fu:Nat):Prop:= ∀(pp:aJ),wt pp≤4194304→Ok (GA fu pp) (fun _=>True)
theorem FQ:cH acD:=(((((cH.ge 2147483648).and mB).and jT).and jV).and jU).imp fun fu ⟨⟨⟨⟨hfu,mB⟩,jT⟩,jV⟩,jU⟩ pp hpre=>by
 refine EW ?_ ?_
 ·refine Ok.loop1 ?_;rintro i1 ⟨⟩ hl2
  have:=aJ.wt_eq pp
  have:=aY pp.gTraits
  have:=b7 pp.gTraits i1 hl2
  exact oB (mB (aW pp.gTraits i1) bQ) fun x5 _=>oW (fun _=>oR) fun g5=>oO
 rintro⟨⟩-
 refine EW ?_ ?_
 ·refine Ok.loop1 ?_;rintro i7 ⟨⟩ hl7
  have:=aJ.wt_eq pp
  have:=aY pp.gDataTypes
  have:=b7 pp.gDataTypes i7 hl7
  exact oB (jT (aW pp.gDataTypes i7) bQ) fun x11 _=>oW (fun _=>oR) fun g10=>oO
 rintro⟨⟩-
 refine EW ?_ ?_
 ·refine Ok.loop1 ?_;rintro i13 ⟨⟩ hl12
  have:=aJ.wt_eq pp
  have:=aY pp.gInstances
  have:=b7 pp.gInstances i13 hl12
  refine Ok.lt fun y16 h14=>?_
  have:=congrArg wt h14
  exact oB (jV y16 bQ) fun x19 _=>oW (fun _=>oR) fun g16=>oO
 rintro⟨⟩-
 refine EW ?_ ?_
 ·refine Ok.loop1 ?_;rintro i21 ⟨⟩ hl18
  have:=aJ.wt_eq pp
  have:=aY pp.gFunctions
  have:=b7 pp.gFunctions i21 hl18
  refine Ok.lt fun y24 h20=>?_
  have:=congrArg wt h20
  exact oB (jU y24 bQ) fun x27 _=>oW (fun _=>oR) fun g22=>oO
 rintro⟨⟩-
 exact oS
def LN(fu:Nat):Prop:= ∀(pa0:aJ),wt pa0≤4194304→Ok (uE fu pa0) (fun _=>True)
theorem t7:cH LN:=(((((((cH.ge 2147483648).and FP).and bM).and c3).and dT).and eR).and FQ).imp fun fu ⟨⟨⟨⟨⟨⟨hfu,FP⟩,bM⟩,c3⟩,dT⟩,eR⟩,FQ⟩ pa0 hpre=>by
 refine oB4 (FP pa0 bQ) fun x2 x3 x4 x5 _=>?_
 have:=aJ.wt_eq pa0
 refine oB (bM pa0.gName) fun x7 _=>oW (fun _=>oS) fun g3=>oB (c3 pa0.gDeps 5) fun x10 _=>oW (fun _=>oS) fun g5=>oB (dT pa0.gDeps pa0.gName) fun x13 _=>oC (fun _=>oS) fun g7=>?_
 have:=aY pa0.gTraits
 have:=aY pa0.gDataTypes
 have:=eT ((pa0.gTraits.length:Int)+(pa0.gDataTypes.length:Int))
 have:=aY pa0.gInstances
 have:=eT ((aQ ((pa0.gTraits.length:Int)+(pa0.gDataTypes.length:Int)))+(pa0.gInstances.length:Int))
 have:=aY pa0.gFunctions
 have:=eT ((aQ ((aQ ((pa0.gTraits.length:Int)+(pa0.gDataTypes.length:Int)))+(pa0.gInstances.length:Int)))+(pa0.gFunctions.length:Int))
 refine oD (fun _=>oS) fun g8=>oB (eR x2) fun x17 _=>?_;refine oC (fun g10=>?_) fun g10=>?_
 ·refine oB (eR x3) fun x20 _=>?_;refine oC (fun g12=>?_) fun g12=>?_
  ·refine oB (eR x4) fun x23 _=>?_;refine oC (fun g14=>?_) fun g14=>?_
   ·refine oB (eR x5) fun x26 _=>?_;refine oC (fun g16=>?_) fun g16=>?_
    ·exact oB (FQ pa0 bQ) fun x29 _=>oS
    exact oS
   exact oS
  exact oS
 exact oS
def LO(fu:Nat):Prop:= ∀(pa0:aA),wt pa0≤65536→Ok (uF fu pa0) (fun r=>wt r.1≤20*wt pa0)
theorem t8:cH LO:=((((((cH.ge 2147483648).and cI).and iQ).and cN).and KF).and t7).imp fun fu ⟨⟨⟨⟨⟨hfu,cI⟩,iQ⟩,cN⟩,KF⟩,t7⟩ pa0 hpre=>by
 refine oB (cI pa0 2 bQ) fun x2 h1=>?_
 have:=aA.wt_eq x2
 refine uM (iQ x2.gList bQ) fun x4 x5 h2=>?_
 dsimp only at h2
 refine oB (cI pa0 1 bQ) fun x7 h3=>oB (cN pa0 bQ) fun x9 _=>?_;refine oW (fun g5=>?_) fun g5=>?_
 ·have:s_.size=0:=rfl
  have:=(aV:wl ([]:LB)=0∧_)
  have:=(aV:wl ([]:List aP)=0∧_)
  have:=(aV:wl ([]:List aH)=0∧_)
  have:=(aV:wl ([]:List aL)=0∧_)
  have:=(aV:wl ([]:List aK)=0∧_)
  have:=aJ.wt_mk s_ [] [] [] [] []
  exact oS
 have:=aA.wt_eq pa0
 have:=aY pa0.gList
 refine oD (fun g6=>?_) fun g6=>?_
 ·have:s_.size=0:=rfl
  have:=(aV:wl ([]:LB)=0∧_)
  have:=(aV:wl ([]:List aP)=0∧_)
  have:=(aV:wl ([]:List aH)=0∧_)
  have:=(aV:wl ([]:List aL)=0∧_)
  have:=(aV:wl ([]:List aK)=0∧_)
  have:=aJ.wt_mk s_ [] [] [] [] []
  exact oS
 have:=aY (pa0.gList)
 refine oG fun z7=>?_
 have:=b7 pa0.gList 0 z7
 have:wl (List.take 1 pa0.gList)=wl (List.take 0 pa0.gList)+wt (aW pa0.gList 0)+1:=JI pa0.gList 0 z7
 have:=aA.wt_eq (aW pa0.gList 0)
 have:YD.size=7:=rfl
 refine oN (fun g8=>?_) fun g8=>?_
 ·have:s_.size=0:=rfl
  have:=(aV:wl ([]:LB)=0∧_)
  have:=(aV:wl ([]:List aP)=0∧_)
  have:=(aV:wl ([]:List aH)=0∧_)
  have:=(aV:wl ([]:List aL)=0∧_)
  have:=(aV:wl ([]:List aK)=0∧_)
  have:=aJ.wt_mk s_ [] [] [] [] []
  exact oS
 have:=congrArg ByteArray.size g8
 refine oG fun z9=>?_
 have:=b7 pa0.gList 2 z9
 have:wl (List.take 3 pa0.gList)=wl (List.take 2 pa0.gList)+wt (aW pa0.gList 2)+1:=JI pa0.gList 2 z9
 have:=aA.wt_eq (aW pa0.gList 2)
 have:s_.size=0:=rfl
 refine oN (fun g10=>?_) fun g10=>?_
 ·have:=E9 g10
  have:=(aV:wl ([]:LB)=0∧_)
  have:=(aV:wl ([]:List aP)=0∧_)
  have:=(aV:wl ([]:List aH)=0∧_)
  have:=(aV:wl ([]:List aL)=0∧_)
  have:=(aV:wl ([]:List aK)=0∧_)
  have:=aJ.wt_mk s_ [] [] [] [] []
  exact oS
 refine oW (fun g11=>?_) fun g11=>?_
 ·have:=(aV:wl ([]:LB)=0∧_)
  have:=(aV:wl ([]:List aP)=0∧_)
  have:=(aV:wl ([]:List aH)=0∧_)
  have:=(aV:wl ([]:List aL)=0∧_)
  have:=(aV:wl ([]:List aK)=0∧_)
  have:=aJ.wt_mk s_ [] [] [] [] []
  exact oS
 have:=(aV:wl ([]:List aP)=0∧_)
 have:=(aV:wl ([]:List aH)=0∧_)
 have:=(aV:wl ([]:List aL)=0∧_)
 have:=(aV:wl ([]:List aK)=0∧_)
 have:=aA.wt_eq x7
 refine Ok.sok (E:=fun(v18,v19,v24,v25,v26,v27)=>v18.size+wl v19+wl v24+wl v25+wl v26+wl v27≤x7.gAtom.size+wl x4+16*wl pa0.gList) ?_ ?_
 ·refine Ok.loop0 (fun i17 (v18,v19,v24,v25,v26,v27)=>v18.size+wl v19+wl v24+wl v25+wl v26+wl v27≤x7.gAtom.size+wl x4+16*wl (List.take i17 pa0.gList)) (by exact bQ) (by rintro i17 ⟨v18,v19,v24,v25,v26,v27⟩-hI;have:=oJ pa0.gList i17;(try dsimp only at hI ⊢);omega) ?_;rintro i17 ⟨v18,v19,v24,v25,v26,v27⟩ hl13 hI14
  dsimp only at hI14
  have:=oM pa0.gList i17 hl13
  have:=oJ pa0.gList (i17+1)
  have:=b7 pa0.gList i17 hl13
  refine uM (KF (v18,v19,v24,v25,v26,v27) (aW pa0.gList i17) bQ) fun x31 x32 h15=>?_
  dsimp only at h15
  refine oW (fun g16=>?_) fun g16=>?_
  ·have:=(aV:wl ([]:LB)=0∧_)
   have:=(aV:wl ([]:List aP)=0∧_)
   have:=(aV:wl ([]:List aH)=0∧_)
   have:=(aV:wl ([]:List aL)=0∧_)
   have:=(aV:wl ([]:List aK)=0∧_)
   have:=aJ.wt_mk s_ [] [] [] [] []
   exact oR
  exact oO
 rintro⟨v18,v19,v24,v25,v26,v27⟩ h12
 dsimp only at h12
 have:=aJ.wt_mk v18 v19 v24 v25 v26 v27
 refine oB (t7 (aJ.mk v18 v19 v24 v25 v26 v27) bQ) fun x35 _=>?_;refine oW (fun g18=>?_) fun g18=>?_
 ·have:=(aV:wl ([]:LB)=0∧_)
  have:=(aV:wl ([]:List aP)=0∧_)
  have:=(aV:wl ([]:List aH)=0∧_)
  have:=(aV:wl ([]:List aL)=0∧_)
  have:=(aV:wl ([]:List aK)=0∧_)
  have:=aJ.wt_mk s_ [] [] [] [] []
  exact oS
 exact oS
def RN(fu:Nat):Prop:= ∀(ps:ByteArray),ps.size≤16384→Ok (wY fu ps) (fun r=>wt r.1≤40*ps.size)
theorem wR:cH RN:=(((cH.ge 2147483648).and BE).and t8).imp fun fu ⟨⟨hfu,BE⟩,t8⟩ ps hpre=>by
 refine uM (BE ps bQ) fun x2 x3 h1=>?_
 dsimp only at h1
 refine oW (fun g2=>?_) fun g2=>?_
 ·have:s_.size=0:=rfl
  have:=(aV:wl ([]:LB)=0∧_)
  have:=(aV:wl ([]:List aP)=0∧_)
  have:=(aV:wl ([]:List aH)=0∧_)
  have:=(aV:wl ([]:List aL)=0∧_)
  have:=(aV:wl ([]:List aK)=0∧_)
  have:=aJ.wt_mk s_ [] [] [] [] []
  exact oS
 refine uM (t8 x2 bQ) fun x6 x7 h3=>?_
 dsimp only at h3
 exact oS
def RO(fu:Nat):Prop:= ∀(ps:ByteArray),ps.size≤8192→Ok (wZ fu ps) (fun r=>wt r.1≤40*(ps.size+1))
theorem wS:cH RO:=((((cH.ge 2147483648).and DL).and FO).and wR).imp fun fu ⟨⟨⟨hfu,DL⟩,FO⟩,wR⟩ ps hpre=>by
 refine oB (DL ps (10:UInt8) bQ) fun x2 h1=>?_
 have:=(aV:wl ([]:List aJ)=0∧_)
 refine MW x2 40 (fun i3 v5 hl3 hI4 _ _=>?_) ?_
 ·have:=aY x2
  have:=b7 x2 i3 hl3
  have:=a9 (aW x2 i3)
  refine oB (FO (aW x2 i3) bQ) fun x9 _=>oC (fun _=>oO) fun g6=>uM (wR (aW x2 i3) bQ) fun x12 x13 h7=>?_
  dsimp only at h7
  refine oW (fun g8=>?_) fun g8=>?_
  ·have:=aF.wt_mk []
   have:=aY v5
   exact oR
  have:=aY v5
  refine oD (fun g9=>?_) fun g9=>?_
  ·have:=aF.wt_mk []
   exact oR
  have:=aY (v5)
  have:=cE x12
  refine oG fun z10=>?_
  have:=b6 v5 ([x12]:List aJ)
  exact oO
 intro v5 h2
 have:=aF.wt_mk v5
 exact oS
def af8(fu:Nat):Prop:= ∀(pc:DS),Ok (LE fu pc) (fun r=>r.1.size≤4000)
theorem KE:cH af8:=(cH.ge 2147483648).imp fun fu hfu pc=>by
 have:cQ.size=110:=rfl
 have:cR.size=156:=rfl
 refine oG fun z1=>?_
 have:=fF cQ cR
 have:cW.size=119:=rfl
 refine oG fun z2=>?_
 have:=fF (cQ++cR) cW
 have:cZ.size=86:=rfl
 refine oG fun z3=>Ok.lt fun d4 h4=>?_;refine oC (fun g5=>?_) fun g5=>?_
 ·have:=fF ((cQ++cR)++cW) cZ
  have:jO.size=120:=rfl
  refine oG fun z6=>?_
  have:=fF (((cQ++cR)++cW)++cZ) jO
  have:dX.size=127:=rfl
  refine oG fun z7=>?_
  have:=fF ((((cQ++cR)++cW)++cZ)++jO) dX
  have:fB.size=95:=rfl
  refine oG fun z8=>?_
  have:=fF (((((cQ++cR)++cW)++cZ)++jO)++dX) fB
  have:gH.size=107:=rfl
  refine oG fun z9=>?_
  have:=fF ((((((cQ++cR)++cW)++cZ)++jO)++dX)++fB) gH
  have:iT.size=51:=rfl
  refine oG fun z10=>?_
  have:=fF (((((((cQ++cR)++cW)++cZ)++jO)++dX)++fB)++gH) iT
  have:lC.size=140:=rfl
  refine oG fun z11=>?_
  have:=fF ((((((((cQ++cR)++cW)++cZ)++jO)++dX)++fB)++gH)++iT) lC
  have:oT.size=90:=rfl
  refine oG fun z12=>?_
  have:=fF (((((((((cQ++cR)++cW)++cZ)++jO)++dX)++fB)++gH)++iT)++lC) oT
  have:AB.size=1:=rfl
  refine oG fun z13=>?_
  have:=fF ((((((((((cQ++cR)++cW)++cZ)++jO)++dX)++fB)++gH)++iT)++lC)++oT) AB
  exact oS
 have:=fF ((cQ++cR)++cW) cZ
 have:jP.size=147:=rfl
 refine oG fun z14=>?_
 have:=fF (((cQ++cR)++cW)++cZ) jP
 have:dX.size=127:=rfl
 refine oG fun z15=>?_
 have:=fF ((((cQ++cR)++cW)++cZ)++jP) dX
 have:fB.size=95:=rfl
 refine oG fun z16=>?_
 have:=fF (((((cQ++cR)++cW)++cZ)++jP)++dX) fB
 have:gH.size=107:=rfl
 refine oG fun z17=>?_
 have:=fF ((((((cQ++cR)++cW)++cZ)++jP)++dX)++fB) gH
 have:iT.size=51:=rfl
 refine oG fun z18=>?_
 have:=fF (((((((cQ++cR)++cW)++cZ)++jP)++dX)++fB)++gH) iT
 have:lC.size=140:=rfl
 refine oG fun z19=>?_
 have:=fF ((((((((cQ++cR)++cW)++cZ)++jP)++dX)++fB)++gH)++iT) lC
 have:oT.size=90:=rfl
 refine oG fun z20=>?_
 have:=fF (((((((((cQ++cR)++cW)++cZ)++jP)++dX)++fB)++gH)++iT)++lC) oT
 have:AB.size=1:=rfl
 refine oG fun z21=>?_
 have:=fF ((((((((((cQ++cR)++cW)++cZ)++jP)++dX)++fB)++gH)++iT)++lC)++oT) AB
 exact oS
def akF(fu:Nat):Prop:= ∀(pc:DS),Ok (P9 fu pc) (fun r=>r.1.size≤3000)
theorem OV:cH akF:=(cH.ge 2147483648).imp fun fu hfu pc=>by
 refine Ok.sok (E:=fun(v1,v2)=>v1.size≤1000) ?_ ?_
 ·refine Ok.lt fun d3 h2=>?_;refine oC (fun g3=>?_) fun g3=>?_
  ·have:fA.size=50:=rfl
   have:MD.size=38:=rfl
   refine oG fun z4=>?_
   have:=fF fA MD
   exact oI
  refine oC (fun g5=>?_) fun g5=>?_
  ·have:fA.size=50:=rfl
   have:MB.size=64:=rfl
   refine oG fun z6=>?_
   have:=fF fA MB
   exact oI
  refine oC (fun g7=>?_) fun g7=>?_
  ·have:fA.size=50:=rfl
   have:L5.size=83:=rfl
   refine oG fun z8=>?_
   have:=fF fA L5
   exact oI
  refine oC (fun g9=>?_) fun g9=>?_
  ·have:fA.size=50:=rfl
   have:L7.size=45:=rfl
   refine oG fun z10=>?_
   have:=fF fA L7
   exact oI
  refine oC (fun g11=>?_) fun g11=>?_
  ·have:fA.size=50:=rfl
   have:L6.size=90:=rfl
   refine oG fun z12=>?_
   have:=fF fA L6
   exact oI
  refine oC (fun g13=>?_) fun g13=>?_
  ·have:fA.size=50:=rfl
   have:MA.size=45:=rfl
   refine oG fun z14=>?_
   have:=fF fA MA
   exact oI
  have:fA.size=50:=rfl
  have:L8.size=64:=rfl
  refine oG fun z15=>?_
  have:=fF fA L8
  exact oI
 rintro⟨v1,v2⟩ h1
 dsimp only at h1
 have:oQ.size=23:=rfl
 refine oG fun z16=>?_
 have:B6.size=13:=rfl
 have:B5.size=68:=rfl
 have:B3.size=29:=rfl
 have:B7.size=43:=rfl
 have:BZ.size=68:=rfl
 have:CA.size=25:=rfl
 have:CB.size=29:=rfl
 have:B8.size=45:=rfl
 have:B9.size=65:=rfl
 have:BY.size=43:=rfl
 have:wl ([B6,B5,B3,B7,BZ,CA,CB,B8,B9,BY]:LB)=438:=rfl
 refine Ok.lt fun d19 h17=>Ok.lt fun y21 h18=>?_
 have:=congrArg wt h18
 simp only [a9] at this
 have:y21.size≤200:=by rw [h18];exact DS.pick_size _ (by decide) (by decide)
 have:=fF v1 oQ
 refine oG fun z19=>?_
 have:=fF (v1++oQ) y21
 have:AB.size=1:=rfl
 refine oG fun z20=>?_;refine Ok.sok (E:=fun(v25,v26)=>v25.size≤2000) ?_ ?_
 ·refine Ok.lt fun d27 h22=>?_;refine oC (fun g23=>?_) fun g23=>?_
  ·have:=fF ((v1++oQ)++y21) AB
   have:L9.size=83:=rfl
   refine oG fun z24=>?_
   have:=fF (((v1++oQ)++y21)++AB) L9
   exact oI
  have:=fF ((v1++oQ)++y21) AB
  exact oI
 rintro⟨v25,v26⟩ h21
 dsimp only at h21
 refine Ok.sok (E:=fun(v31,v32)=>v31.size≤2500) ?_ ?_
 ·refine Ok.lt fun d33 h26=>?_;refine oC (fun g27=>?_) fun g27=>?_
  ·have:MC.size=77:=rfl
   refine oG fun z28=>?_
   have:=fF v25 MC
   exact oI
  exact oI
 rintro⟨v31,v32⟩ h25
 dsimp only at h25
 refine Ok.lt fun d37 h29=>?_;refine oC (fun g30=>?_) fun g30=>?_
 ·have:B4.size=113:=rfl
  refine oG fun z31=>?_
  have:=fF v31 B4
  refine oG fun z32=>?_
  have:=fF (v31++B4) AB
  exact oS
 refine oG fun z33=>?_
 have:=fF v31 AB
 exact oS
def RR(fu:Nat):Prop:= ∀(pc:DS),Ok (xA fu pc) (fun r=>r.1.size≤7001)
theorem wV:cH RR:=(((cH.ge 2147483648).and KE).and OV).imp fun fu ⟨⟨hfu,KE⟩,OV⟩ pc=>by
 refine uM (KE pc) fun x2 x3 h1=>?_
 dsimp only at h1
 refine Ok.lt fun d4 h2=>oC (fun _=>oS) fun g3=>?_
 have:amP.size=1:=rfl
 refine oG fun z4=>uM (OV d4) fun x9 x10 h5=>?_
 dsimp only at h5
 have:=fF x2 amP
 refine oG fun z6=>?_
 have:=fF (x2++amP) x9
 exact oS
def agA(fu:Nat):Prop:= ∀(pc:DS),Ok (LG fu pc) (fun r=>wt r.1≤327680)
theorem KG:cH agA:=(((cH.ge 2147483648).and wV).and wS).imp fun fu ⟨⟨hfu,wV⟩,wS⟩ pc=>by
 refine uM (wV pc) fun x2 x3 h1=>?_
 dsimp only at h1
 refine uM (wS x2 bQ) fun x5 x6 h2=>?_
 dsimp only at h2
 have:=aF.wt_eq x5
 have:=aF.wt_mk x5.gPackages
 exact oS
end Go.Proofs.YtpioomclpaiomaaGreat.W

namespace Go.Proofs.YtpioomclpaiomaaGreat.W
open Go.RowKit Go.WalkArith Go.IntWalk
def bT:Nat→Nat
 |0=>1000
 |n+1=>2*bT n+20
theorem acH: ∀n:Nat,1000≤bT n
 |0=>Nat.le_refl _
 |n+1=>by unfold bT;have:=acH n;omega
theorem aoY(x:Int):0<x∧x≤4→bT x.toNat=2*bT (aQ (x-1)).toNat+20:=fun h=>by
 rw [eT (x-1) (by omega)]
 obtain⟨n,rfl⟩: ∃n:Nat,x=((n+1:Nat):Int):=⟨x.toNat-1,by omega⟩
 have e:(((n+1:Nat):Int)-1).toNat=n:=by omega
 rw [e]
 simp only [Int.toNat_natCast]
 rfl
theorem am2(x:Int):x≤4→bT x.toNat≤20000:=fun h=>by
 have:x.toNat=0∨x.toNat=1∨x.toNat=2∨x.toNat=3∨x.toNat=4:=by omega
 rcases this with h|h|h|h|h<;>rw [h]<;>decide
def bX:Nat→Nat
 |0=>3000
 |n+1=>4*bX n+22000
theorem am3: ∀n:Nat,3000≤bX n
 |0=>Nat.le_refl _
 |n+1=>by unfold bX;have:=am3 n;omega
theorem aoZ(x:Int):0<x∧x≤4→bX x.toNat=4*bX (aQ (x-1)).toNat+22000:=fun h=>by
 rw [eT (x-1) (by omega)]
 obtain⟨n,rfl⟩: ∃n:Nat,x=((n+1:Nat):Int):=⟨x.toNat-1,by omega⟩
 have e:(((n+1:Nat):Int)-1).toNat=n:=by omega
 rw [e]
 simp only [Int.toNat_natCast]
 rfl
theorem apX(x:Int):x≤3→bX x.toNat≤1000000:=fun h=>by
 have:x.toNat=0∨x.toNat=1∨x.toNat=2∨x.toNat=3:=by omega
 rcases this with h|h|h|h<;>rw [h]<;>decide
theorem Y1:bT (1:Int).toNat=2020:=rfl
theorem aqU:bX (2:Int).toNat=158000:=rfl
theorem agC:bT (2:Int).toNat=4060:=rfl
end Go.Proofs.YtpioomclpaiomaaGreat.W

namespace Go.Proofs.YtpioomclpaiomaaGreat.W
set_option maxRecDepth 20000
set_option maxHeartbeats 4000000
open Go.RowKit Go.WalkArith Go.IntWalk
attribute [local irreducible] wt wl bT bX lt
def ajJ(fu:Nat):Prop:= ∀(pc:DS) (pvars:LB) (pdeep:Int),wl pvars≤1000∧ -100≤pdeep∧pdeep≤4→Ok (sQ fu pc pvars pdeep) (fun r=>wt r.1≤bT pdeep.toNat)
def YP(n:Nat)(m:HH):Prop:= ∀(pc:DS) (pvars:LB) (pdeep:Int),pdeep.toNat<n→wl pvars≤1000∧ -100≤pdeep∧pdeep≤4→Ok (m pc pvars pdeep) (fun r=>wt r.1≤bT pdeep.toNat)
theorem aoD{n fu:Nat}(hfu:2147483648≤fu)(fG:TN fu)(dF:TM fu){r_sl4Ty:HH}(h_sl4Ty:YP n r_sl4Ty):YP (n+1) (abQ fu r_sl4Ty):=by
 intro pc pvars pdeep hm hpre
 have:=acH pdeep.toNat
 have:=acH (aQ (pdeep-1)).toNat
 have:=aoY pdeep
 have:=am2 (aQ (pdeep-1))
 refine Ok.lt fun d1 h1=>?_;refine oC (fun g2=>?_) fun g2=>?_
 ·have:=aY pvars
  refine oD (fun g3=>?_) fun g3=>?_
  ·refine Ok.lt fun d5 h4=>?_
   have:=akU d1 pvars.length
   have:=aY (pvars)
   refine oG fun z5=>?_
   have:=b7 pvars (d1.below pvars.length) z5
   have:=a9 (aW pvars (d1.below pvars.length))
   refine oB (fG (aW pvars (d1.below pvars.length))) fun x9 h6=>?_
   have:=aB.wt_eq x9
   have:=aB.wt_mk x9.gKind x9.gName x9.gArgs
   exact oS
  refine oC (fun g7=>?_) fun g7=>?_
  ·have:fC.size=3:=rfl
   have:eX.size=4:=rfl
   have:jM.size=4:=rfl
   have:=EV fC eX jM
   have:=a9 fC
   have:=a9 eX
   have:=a9 jM
   refine Ok.lt fun d11 h8=>Ok.lt fun y13 h9=>?_
   have:=congrArg wt h9
   simp only [a9] at this
   have:y13.size≤4:=by rw [h9];exact DS.pick_size _ (by decide) (by decide)
   have:=(aV:wl ([]:List aB)=0∧_)
   refine oB (dF y13 ([]:List aB) bQ) fun x16 h10=>?_
   have:=aB.wt_eq x16
   have:=aB.wt_mk x16.gKind x16.gName x16.gArgs
   exact oS
  refine oD (fun g11=>?_) fun g11=>?_
  ·have:fC.size=3:=rfl
   have:eX.size=4:=rfl
   have:jM.size=4:=rfl
   have:=EV fC eX jM
   have:=a9 fC
   have:=a9 eX
   have:=a9 jM
   refine Ok.lt fun d18 h12=>Ok.lt fun y20 h13=>?_
   have:=congrArg wt h13
   simp only [a9] at this
   have:y20.size≤4:=by rw [h13];exact DS.pick_size _ (by decide) (by decide)
   have:=(aV:wl ([]:List aB)=0∧_)
   refine oB (dF y20 ([]:List aB) bQ) fun x23 h14=>?_
   have:=aB.wt_eq x23
   have:=aB.wt_mk x23.gKind x23.gName x23.gArgs
   exact oS
  refine oC (fun g15=>?_) fun g15=>?_
  ·have:=eT (pdeep-1)
   refine uM (h_sl4Ty d1 pvars (aQ (pdeep-1)) bQ bQ) fun x26 x27 h16=>?_
   dsimp only at h16
   refine uM (h_sl4Ty x27 pvars (aQ (pdeep-1)) bQ bQ) fun x29 x30 h17=>?_
   dsimp only at h17
   have:uG.size=4:=rfl
   have:=aB.wt_eq x26
   have:=aB.wt_mk x26.gKind x26.gName x26.gArgs
   have:=aB.wt_eq x29
   have:=aB.wt_mk x29.gKind x29.gName x29.gArgs
   have:=lE (aB.mk x26.gKind x26.gName x26.gArgs) (aB.mk x29.gKind x29.gName x29.gArgs)
   refine oB (dF uG ([(aB.mk x26.gKind x26.gName x26.gArgs),(aB.mk x29.gKind x29.gName x29.gArgs)]:List aB) bQ) fun x32 h18=>?_
   have:=aB.wt_eq x32
   have:=aB.wt_mk x32.gKind x32.gName x32.gArgs
   exact oS
  have:cS.size=4:=rfl
  have:AQ.size=3:=rfl
  have:=EV cS cS AQ
  have:=a9 cS
  have:=a9 AQ
  refine Ok.lt fun d33 h19=>Ok.lt fun y35 h20=>?_
  have:=congrArg wt h20
  simp only [a9] at this
  have:y35.size≤4:=by rw [h20];exact DS.pick_size _ (by decide) (by decide)
  have:=eT (pdeep-1)
  refine uM (h_sl4Ty d33 pvars (aQ (pdeep-1)) bQ bQ) fun x38 x39 h21=>?_
  dsimp only at h21
  have:=aB.wt_eq x38
  have:=aB.wt_mk x38.gKind x38.gName x38.gArgs
  have:=cE (aB.mk x38.gKind x38.gName x38.gArgs)
  refine oB (dF y35 ([(aB.mk x38.gKind x38.gName x38.gArgs)]:List aB) bQ) fun x41 h22=>?_
  have:=aB.wt_eq x41
  have:=aB.wt_mk x41.gKind x41.gName x41.gArgs
  exact oS
 refine oC (fun g23=>?_) fun g23=>?_
 ·have:fC.size=3:=rfl
  have:eX.size=4:=rfl
  have:jM.size=4:=rfl
  have:=EV fC eX jM
  have:=a9 fC
  have:=a9 eX
  have:=a9 jM
  refine Ok.lt fun d43 h24=>Ok.lt fun y45 h25=>?_
  have:=congrArg wt h25
  simp only [a9] at this
  have:y45.size≤4:=by rw [h25];exact DS.pick_size _ (by decide) (by decide)
  have:=(aV:wl ([]:List aB)=0∧_)
  refine oB (dF y45 ([]:List aB) bQ) fun x48 h26=>?_
  have:=aB.wt_eq x48
  have:=aB.wt_mk x48.gKind x48.gName x48.gArgs
  exact oS
 refine oD (fun g27=>?_) fun g27=>?_
 ·have:fC.size=3:=rfl
  have:eX.size=4:=rfl
  have:jM.size=4:=rfl
  have:=EV fC eX jM
  have:=a9 fC
  have:=a9 eX
  have:=a9 jM
  refine Ok.lt fun d50 h28=>Ok.lt fun y52 h29=>?_
  have:=congrArg wt h29
  simp only [a9] at this
  have:y52.size≤4:=by rw [h29];exact DS.pick_size _ (by decide) (by decide)
  have:=(aV:wl ([]:List aB)=0∧_)
  refine oB (dF y52 ([]:List aB) bQ) fun x55 h30=>?_
  have:=aB.wt_eq x55
  have:=aB.wt_mk x55.gKind x55.gName x55.gArgs
  exact oS
 refine oC (fun g31=>?_) fun g31=>?_
 ·have:=eT (pdeep-1)
  refine uM (h_sl4Ty d1 pvars (aQ (pdeep-1)) bQ bQ) fun x58 x59 h32=>?_
  dsimp only at h32
  refine uM (h_sl4Ty x59 pvars (aQ (pdeep-1)) bQ bQ) fun x61 x62 h33=>?_
  dsimp only at h33
  have:uG.size=4:=rfl
  have:=aB.wt_eq x58
  have:=aB.wt_mk x58.gKind x58.gName x58.gArgs
  have:=aB.wt_eq x61
  have:=aB.wt_mk x61.gKind x61.gName x61.gArgs
  have:=lE (aB.mk x58.gKind x58.gName x58.gArgs) (aB.mk x61.gKind x61.gName x61.gArgs)
  refine oB (dF uG ([(aB.mk x58.gKind x58.gName x58.gArgs),(aB.mk x61.gKind x61.gName x61.gArgs)]:List aB) bQ) fun x64 h34=>?_
  have:=aB.wt_eq x64
  have:=aB.wt_mk x64.gKind x64.gName x64.gArgs
  exact oS
 have:cS.size=4:=rfl
 have:AQ.size=3:=rfl
 have:=EV cS cS AQ
 have:=a9 cS
 have:=a9 AQ
 refine Ok.lt fun d65 h35=>Ok.lt fun y67 h36=>?_
 have:=congrArg wt h36
 simp only [a9] at this
 have:y67.size≤4:=by rw [h36];exact DS.pick_size _ (by decide) (by decide)
 have:=eT (pdeep-1)
 refine uM (h_sl4Ty d65 pvars (aQ (pdeep-1)) bQ bQ) fun x70 x71 h37=>?_
 dsimp only at h37
 have:=aB.wt_eq x70
 have:=aB.wt_mk x70.gKind x70.gName x70.gArgs
 have:=cE (aB.mk x70.gKind x70.gName x70.gArgs)
 refine oB (dF y67 ([(aB.mk x70.gKind x70.gName x70.gArgs)]:List aB) bQ) fun x73 h38=>?_
 have:=aB.wt_eq x73
 have:=aB.wt_mk x73.gKind x73.gName x73.gArgs
 exact oS
theorem apP(n:Nat):cH fun fu=>YP n (sQ fu):=by
 induction n with
 |zero=>exact .all fun fu=>fun _ _ _ h=>absurd h (Nat.not_lt_zero _)
 |succ n ih=>exact cH.succ ((ih.and (((cH.ge 2147483648).and fG).and dF)).imp fun fu ⟨h,⟨⟨hfu,fG⟩,dF⟩⟩=>fun pc pvars pdeep=>by rw [sQ];exact aoD hfu fG dF h pc pvars pdeep)
theorem uA:cH ajJ:=(apP 100).imp fun fu h pc pvars pdeep hpre=>h pc pvars pdeep bQ hpre
def akL(fu:Nat):Prop:= ∀(pt:aB),wt pt≤268435456→Ok (mF fu pt) (fun r=>wt r≤wt pt)
def QT(fu:Nat):Prop:= ∀(plist:List aB),wl plist≤268435456→Ok (jK fu plist) (fun r=>wl r≤wl plist)
def GN(n:Nat)(m:o8):Prop:= ∀(pt:aB),2*wt pt+1<n→wt pt≤268435456→Ok (m pt) (fun r=>wt r≤wt pt)
def AD(n:Nat)(m:lP):Prop:= ∀(plist:List aB),2*wl plist<n→wl plist≤268435456→Ok (m plist) (fun r=>wl r≤wl plist)
theorem aiP{n fu:Nat}(hfu:2147483648≤fu){r_sl4Copy:o8}(h_sl4Copy:GN n r_sl4Copy){r_sl4Copies:lP}(h_sl4Copies:AD n r_sl4Copies):GN (n+1) (QI fu r_sl4Copy r_sl4Copies):=by
 intro pt hm hpre
 have:=aB.wt_eq pt
 refine oB (h_sl4Copies pt.gArgs bQ bQ) fun x2 h1=>?_
 have:=aB.wt_mk pt.gKind pt.gName x2
 exact oS
theorem abK{n fu:Nat}(hfu:2147483648≤fu){r_sl4Copy:o8}(h_sl4Copy:GN n r_sl4Copy){r_sl4Copies:lP}(h_sl4Copies:AD n r_sl4Copies):AD (n+1) (GI fu r_sl4Copy r_sl4Copies):=by
 intro plist hm hpre
 have:=(aV:wl ([]:List aB)=0∧_)
 refine MW plist 1 (fun i1 v3 hl2 hI3 _ _=>?_) ?_
 ·have:=aY plist
  have:=b7 plist i1 hl2
  refine oB (h_sl4Copy (aW plist i1) bQ bQ) fun x7 h4=>?_
  have:=aY (v3)
  have:=cE x7
  refine oG fun z5=>?_
  have:=b6 v3 ([x7]:List aB)
  exact oO
 intro v3 h1
 exact oS
theorem YI(n:Nat):cH fun fu=>GN n (mF fu)∧AD n (jK fu):=by
 induction n with
 |zero=>exact .all fun fu=>⟨fun _ h=>absurd h (Nat.not_lt_zero _),fun _ h=>absurd h (Nat.not_lt_zero _)⟩
 |succ n ih=>exact cH.succ ((ih.and (cH.ge 2147483648)).imp fun fu ⟨h,hfu⟩=>⟨fun pt=>by rw [mF];exact aiP hfu h.1 h.2 pt,fun plist=>by rw [jK];exact abK hfu h.1 h.2 plist⟩)
theorem O0:cH akL:=(YI 8589934592).imp fun fu h pt hpre=>h.1 pt bQ hpre
theorem wB:cH QT:=(YI 8589934592).imp fun fu h plist hpre=>h.2 plist bQ hpre
def akP(fu:Nat):Prop:= ∀(ptrait:ByteArray) (pt:aB),ptrait.size+wt pt≤67108864→Ok (HF fu ptrait pt) (fun r=>wt r≤ptrait.size+wt pt+1)
theorem GX:cH akP:=((cH.ge 2147483648).and O0).imp fun fu ⟨hfu,O0⟩ ptrait pt hpre=>by
 refine oB (O0 pt bQ) fun x2 h1=>?_
 have:=cE x2
 have:=aB.wt_mk 3 ptrait ([x2]:List aB)
 exact oS
def akN(fu:Nat):Prop:= ∀(pc:DS) (pdeep:Int),-100≤pdeep∧pdeep≤4→Ok (tO fu pc pdeep) (fun r=>wt r.1≤bT pdeep.toNat+60)
theorem kO:cH akN:=((((cH.ge 2147483648).and uA).and GX).and dF).imp fun fu ⟨⟨⟨hfu,uA⟩,GX⟩,dF⟩ pc pdeep hpre=>by
 have:=acH pdeep.toNat
 have:=am2 pdeep
 have:hU.size=1:=rfl
 have:E0.size=1:=rfl
 have:=lE hU E0
 have:=a9 hU
 have:=a9 E0
 refine uM (uA pc ([hU,E0]:LB) pdeep bQ) fun x2 x3 h1=>?_
 dsimp only at h1
 refine Ok.lt fun d4 h2=>?_;refine oC (fun g3=>?_) fun g3=>?_
 ·have:kS.size=3:=rfl
  have:bH.size=4:=rfl
  have:=lE kS bH
  have:=a9 kS
  have:=a9 bH
  refine Ok.lt fun d7 h4=>Ok.lt fun y9 h5=>?_
  have:=congrArg wt h5
  simp only [a9] at this
  have:y9.size≤4:=by rw [h5];exact DS.pick_size _ (by decide) (by decide)
  have:=aB.wt_eq x2
  have:=aB.wt_mk x2.gKind x2.gName x2.gArgs
  refine oB (GX y9 (aB.mk x2.gKind x2.gName x2.gArgs) bQ) fun x12 h6=>?_
  have:=aB.wt_eq x12
  have:=aB.wt_mk x12.gKind x12.gName x12.gArgs
  exact oS
 refine oC (fun g7=>?_) fun g7=>?_
 ·have:kS.size=3:=rfl
  have:=aB.wt_eq x2
  have:=aB.wt_mk x2.gKind x2.gName x2.gArgs
  refine oB (GX kS (aB.mk x2.gKind x2.gName x2.gArgs) bQ) fun x15 h8=>?_
  have:cS.size=4:=rfl
  have:=aB.wt_eq x15
  have:=aB.wt_mk x15.gKind x15.gName x15.gArgs
  have:=cE (aB.mk x15.gKind x15.gName x15.gArgs)
  refine oB (dF cS ([(aB.mk x15.gKind x15.gName x15.gArgs)]:List aB) bQ) fun x17 h9=>?_
  have:=aB.wt_eq x17
  have:=aB.wt_mk x17.gKind x17.gName x17.gArgs
  exact oS
 refine oC (fun g10=>?_) fun g10=>?_
 ·have:bH.size=4:=rfl
  have:=(aV:wl ([]:List aB)=0∧_)
  have:=aB.wt_mk 4 bH []
  exact oS
 have:=aB.wt_eq x2
 have:=aB.wt_mk x2.gKind x2.gName x2.gArgs
 exact oS
def ab3(fu:Nat):Prop:= ∀(pk:Int) (pname:ByteArray) (pargs:List aG),pname.size+wl pargs≤67108864→Ok (uH fu pk pname pargs) (fun r=>wt r=pname.size+wl pargs)
theorem nI:cH ab3:=(cH.ge 2147483648).imp fun fu hfu pk pname pargs hpre=>by
 have:=(aV:wl ([]:List aG)=0∧_)
 have:=aY (pargs)
 refine oG fun z1=>?_
 have:s_.size=0:=rfl
 have:=(aV:wl ([]:List aB)=0∧_)
 have:=aB.wt_mk 0 s_ []
 have:=b6 ([]:List aG) pargs
 have:=(aV:wl ([]:List bA)=0∧_)
 have:=aG.wt_mk pk s_ pname 0 (aB.mk 0 s_ []) (([])++pargs) []
 exact oS
def afX(fu:Nat):Prop:= ∀(pq0:DS) (pa1:LB) (pString:Int),wl pa1+10*pString.toNat≤900∧ -100≤pString∧pString≤3→Ok (k9 fu pq0 pa1 pString) (fun r=>wt r.1≤bX pString.toNat)
def JL(n:Nat)(m:tC):Prop:= ∀(pq0:DS) (pa1:LB) (pString:Int),pString.toNat<n→wl pa1+10*pString.toNat≤900∧ -100≤pString∧pString≤3→Ok (m pq0 pa1 pString) (fun r=>wt r.1≤bX pString.toNat)
theorem adJ{n fu:Nat}(hfu:2147483648≤fu)(f6:BS fu)(fL:BR fu)(nI:ab3 fu)(uA:ajJ fu){r_sl11Expr:tC}(h_sl11Expr:JL n r_sl11Expr):JL (n+1) (K3 fu r_sl11Expr):=by
 intro pq0 pa1 pString hm hpre
 have:=am3 pString.toNat
 have:=am3 (aQ (pString-1)).toNat
 have:=aoZ pString
 have:=Y1
 have:=apX pString
 have:=eT (pString-1)
 refine Ok.lt fun d1 h1=>?_;refine Ok.sok (E:=fun v3=>pString≤0→v3≤2) ?_ ?_
 ·refine oD (fun g3=>?_) fun g3=>?_
  ·have:=DS.below_lt pq0 (n:=13) (by decide)
   exact oI
  have:=DS.below_lt pq0 (n:=13) (by decide)
  exact oI
 intro v3 h2
 refine oD (fun g4=>?_) fun g4=>?_
 ·refine Ok.lt fun d6 h5=>?_
  have:s_.size=0:=rfl
  have:=DS.below_lt d1 (n:=2) (by decide)
  have:=(aV:wl ([]:List aB)=0∧_)
  have:=aB.wt_mk 0 s_ []
  have:=(aV:wl ([]:List aG)=0∧_)
  have:=(aV:wl ([]:List bA)=0∧_)
  have:=aG.wt_mk 2 s_ s_ (d1.below 2:Int) (aB.mk 0 s_ []) [] []
  exact oS
 refine EW ?_ ?_
 ·exact oD (fun _=>oI) fun g7=>oI
 intro v8 _
 refine oC (fun g8=>?_) fun g8=>?_
 ·have:=aY pa1
  refine oD (fun g9=>?_) fun g9=>?_
  ·have:=aY (pa1)
   refine oG fun z10=>Ok.lt fun d13 h11=>?_
   have:=apF d1 pa1
   refine Ok.lt fun y15 h12=>?_
   have:=congrArg wt h12
   simp only [a9] at this
   exact Q8 (f6 y15) fun x18 h13 h13B=>oS
  refine Ok.lt fun d19 h14=>?_
  have:=DS.below_lt d1 (n:=20) (by decide)
  have:=eT ((d1.below 20:Int)-5)
  exact Q8 (fL (aQ ((d1.below 20:Int)-5)) bQ) fun x22 h15 h15B=>oS
 refine oD (fun g16=>?_) fun g16=>?_
 ·have:s_f.size=1:=rfl
  have:s_g.size=1:=rfl
  have:=lE s_f s_g
  have:=a9 s_f
  have:=a9 s_g
  refine Ok.lt fun d24 h17=>Ok.lt fun y26 h18=>?_
  have:=congrArg wt h18
  simp only [a9] at this
  have:y26.size≤1:=by rw [h18];exact DS.pick_size _ (by decide) (by decide)
  have:=eT (pString-1)
  refine uM (h_sl11Expr d24 pa1 (aQ (pString-1)) bQ bQ) fun x29 x30 h19=>?_
  dsimp only at h19
  have:=cE x29
  exact oB (nI 4 y26 ([x29]:List aG) bQ) fun x32 h20=>oS
 refine oD (fun g21=>?_) fun g21=>?_
 ·have:bH.size=4:=rfl
  have:kS.size=3:=rfl
  have:=lE bH kS
  have:=a9 bH
  have:=a9 kS
  refine Ok.lt fun d34 h22=>Ok.lt fun y36 h23=>?_
  have:=congrArg wt h23
  simp only [a9] at this
  have:y36.size≤4:=by rw [h23];exact DS.pick_size _ (by decide) (by decide)
  have:=eT (pString-1)
  refine uM (h_sl11Expr d34 pa1 (aQ (pString-1)) bQ bQ) fun x39 x40 h24=>?_
  dsimp only at h24
  refine uM (h_sl11Expr x40 pa1 (aQ (pString-1)) bQ bQ) fun x42 x43 h25=>?_
  dsimp only at h25
  have:fD.size=1:=rfl
  have:s_.size=0:=rfl
  have:=(aV:wl ([]:List aB)=0∧_)
  have:=aB.wt_mk 0 s_ []
  have:=lE x39 x42
  have:=(aV:wl ([]:List bA)=0∧_)
  have:=aG.wt_mk 5 y36 fD 0 (aB.mk 0 s_ []) ([x39,x42]:List aG) []
  exact oS
 refine oD (fun g26=>?_) fun g26=>?_
 ·have:=eT (pString-1)
  refine uM (h_sl11Expr d1 pa1 (aQ (pString-1)) bQ bQ) fun x46 x47 h27=>?_
  dsimp only at h27
  refine uM (h_sl11Expr x47 pa1 (aQ (pString-1)) bQ bQ) fun x49 x50 h28=>?_
  dsimp only at h28
  have:cK.size=4:=rfl
  have:=lE x46 x49
  exact oB (nI 6 cK ([x46,x49]:List aG) bQ) fun x52 h29=>oS
 refine oD (fun g30=>?_) fun g30=>?_
 ·have:=(aV:wl ([]:LB)=0∧_)
  have:=aY (pa1)
  refine oG fun z31=>?_
  have:=b6 ([]:LB) pa1
  have:s_h.size=1:=rfl
  have:s_t.size=1:=rfl
  have:=lE s_h s_t
  have:=a9 s_h
  have:=a9 s_t
  refine oG fun z32=>?_
  have:=eT (pString-1)
  refine uM (h_sl11Expr d1 pa1 (aQ (pString-1)) bQ bQ) fun x57 x58 h33=>?_
  dsimp only at h33
  refine uM (h_sl11Expr x58 pa1 (aQ (pString-1)) bQ bQ) fun x60 x61 h34=>?_
  dsimp only at h34
  have:=b6 (([])++pa1) ([s_h,s_t]:LB)
  refine uM (h_sl11Expr x61 ((([])++pa1)++([s_h,s_t]:LB)) (aQ (pString-1)) bQ bQ) fun x63 x64 h35=>?_
  dsimp only at h35
  have:s_.size=0:=rfl
  have:=(aV:wl ([]:List aB)=0∧_)
  have:=aB.wt_mk 0 s_ []
  have:=cE x57
  have:gJ.size=3:=rfl
  have:=bA.wt_mk gJ [] x60
  have:cK.size=4:=rfl
  have:=bA.wt_mk cK ([s_h,s_t]:LB) x63
  have:=lE (bA.mk gJ [] x60) (bA.mk cK ([s_h,s_t]:LB) x63)
  have:=aG.wt_mk 7 s_ s_ 0 (aB.mk 0 s_ []) ([x57]:List aG) ([(bA.mk gJ [] x60),(bA.mk cK ([s_h,s_t]:LB) x63)]:List bA)
  exact oS
 refine oD (fun g36=>?_) fun g36=>?_
 ·have:=eT (pString-1)
  refine uM (h_sl11Expr d1 pa1 (aQ (pString-1)) bQ bQ) fun x67 x68 h37=>?_
  dsimp only at h37
  have:=(aV:wl ([]:LB)=0∧_)
  have:=aY (pa1)
  refine oG fun z38=>?_
  have:=b6 ([]:LB) pa1
  have:rF.size=1:=rfl
  have:=cE rF
  have:=a9 rF
  refine oG fun z39=>?_
  have:=b6 (([])++pa1) ([rF]:LB)
  refine uM (h_sl11Expr x68 ((([])++pa1)++([rF]:LB)) (aQ (pString-1)) bQ bQ) fun x72 x73 h40=>?_
  dsimp only at h40
  have:=lE x67 x72
  exact oB (nI 8 rF ([x67,x72]:List aG) bQ) fun x75 h41=>oS
 refine oD (fun g42=>?_) fun g42=>?_
 ·have:=eT (pString-1)
  refine uM (h_sl11Expr d1 pa1 (aQ (pString-1)) bQ bQ) fun x78 x79 h43=>?_
  dsimp only at h43
  refine uM (h_sl11Expr x79 pa1 (aQ (pString-1)) bQ bQ) fun x81 x82 h44=>?_
  dsimp only at h44
  refine uM (h_sl11Expr x82 pa1 (aQ (pString-1)) bQ bQ) fun x84 x85 h45=>?_
  dsimp only at h45
  have:s_.size=0:=rfl
  have:=EV x78 x81 x84
  exact oB (nI 9 s_ ([x78,x81,x84]:List aG) bQ) fun x87 h46=>oS
 refine oD (fun g47=>?_) fun g47=>?_
 ·have:AC.size=1:=rfl
  have:E4.size=1:=rfl
  have:NP.size=1:=rfl
  have:NQ.size=1:=rfl
  have:NR.size=1:=rfl
  have:=aq8 AC E4 NP NQ NR
  have:=a9 AC
  have:=a9 E4
  have:=a9 NP
  have:=a9 NQ
  have:=a9 NR
  refine Ok.lt fun d89 h48=>Ok.lt fun y91 h49=>?_
  have:=congrArg wt h49
  simp only [a9] at this
  have:y91.size≤1:=by rw [h49];exact DS.pick_size _ (by decide) (by decide)
  have:=eT (pString-1)
  refine uM (h_sl11Expr d89 pa1 (aQ (pString-1)) bQ bQ) fun x94 x95 h50=>?_
  dsimp only at h50
  refine uM (h_sl11Expr x95 pa1 (aQ (pString-1)) bQ bQ) fun x97 x98 h51=>?_
  dsimp only at h51
  have:=lE x94 x97
  exact oB (nI 10 y91 ([x94,x97]:List aG) bQ) fun x100 h52=>oS
 refine oD (fun g53=>?_) fun g53=>?_
 ·have:=eT (pString-1)
  refine uM (h_sl11Expr d1 pa1 (aQ (pString-1)) bQ bQ) fun x103 x104 h54=>?_
  dsimp only at h54
  have:bH.size=4:=rfl
  have:s_.size=0:=rfl
  have:=(aV:wl ([]:List aB)=0∧_)
  have:=aB.wt_mk 0 s_ []
  have:=cE x103
  have:=(aV:wl ([]:List bA)=0∧_)
  have:=aG.wt_mk 11 bH s_ 0 (aB.mk 0 s_ []) ([x103]:List aG) []
  exact oS
 refine oD (fun g55=>?_) fun g55=>?_
 ·have:hU.size=1:=rfl
  have:=cE hU
  have:=a9 hU
  refine uM (uA d1 ([hU]:LB) 1 bQ) fun x107 x108 h56=>?_
  dsimp only at h56
  have:=eT (pString-1)
  refine uM (h_sl11Expr x108 pa1 (aQ (pString-1)) bQ bQ) fun x110 x111 h57=>?_
  dsimp only at h57
  have:s_.size=0:=rfl
  have:=cE x110
  have:=(aV:wl ([]:List bA)=0∧_)
  have:=aG.wt_mk 12 s_ s_ 0 x107 ([x110]:List aG) []
  exact oS
 refine Ok.lt fun d112 h58=>?_
 have:=DS.below_lt d1 (n:=20) (by decide)
 have:=eT ((d1.below 20:Int)-5)
 exact Q8 (fL (aQ ((d1.below 20:Int)-5)) bQ) fun x115 h59 h59B=>oS
theorem ag2(n:Nat):cH fun fu=>JL n (k9 fu):=by
 induction n with
 |zero=>exact .all fun fu=>fun _ _ _ h=>absurd h (Nat.not_lt_zero _)
 |succ n ih=>exact cH.succ ((ih.and (((((cH.ge 2147483648).and f6).and fL).and nI).and uA)).imp fun fu ⟨h,⟨⟨⟨⟨hfu,f6⟩,fL⟩,nI⟩,uA⟩⟩=>fun pq0 pa1 pString=>by rw [k9];exact adJ hfu f6 fL nI uA h pq0 pa1 pString)
theorem s4:cH afX:=(ag2 100).imp fun fu h pq0 pa1 pString hpre=>h pq0 pa1 pString bQ hpre
def amV(fu:Nat):Prop:=Ok (zY fu) (fun r=>wt r≤3)
theorem nJ:cH amV:=((cH.ge 2147483648).and dF).imp fun fu ⟨hfu,dF⟩=>by
 have:fC.size=3:=rfl
 have:=(aV:wl ([]:List aB)=0∧_)
 exact oB (dF fC ([]:List aB) bQ) fun x2 h1=>oS
def af4(fu:Nat):Prop:= ∀(pq0:DS),Ok (LC fu pq0) (fun r=>wt r.1≤1000000)
theorem KC:cH af4:=((((((((cH.ge 2147483648).and fL).and nJ).and fG).and dF).and uA).and kO).and s4).imp fun fu ⟨⟨⟨⟨⟨⟨⟨hfu,fL⟩,nJ⟩,fG⟩,dF⟩,uA⟩,kO⟩,s4⟩ pq0=>by
 have:=Y1
 have:=agC
 have:=aqU
 have:bH.size=4:=rfl
 have:wE.size=2:=rfl
 have:kS.size=3:=rfl
 have:=EV bH wE kS
 have:=a9 bH
 have:=a9 wE
 have:=a9 kS
 refine Ok.lt fun d1 h1=>Ok.lt fun y3 h2=>?_
 have:=congrArg wt h2
 simp only [a9] at this
 have:y3.size≤4:=by rw [h2];exact DS.pick_size _ (by decide) (by decide)
 refine Ok.lt fun d5 h3=>?_
 have:=DS.below_lt d1 (n:=9) (by decide)
 refine Q8 (fL (d1.below 9:Int) bQ) fun x8 h4 h4B=>?_;refine Ok.sok (E:=fun(v9,v10,v11,v12,v13,v14)=>wl v9≤10∧v11.size+wl v12≤100∧wl v13≤100) ?_ ?_
 ·refine Ok.lt fun d15 h6=>?_;refine oC (fun g7=>?_) fun g7=>?_
  ·refine oB (nJ) fun x19 h8=>?_
   have:=aB.wt_eq x19
   have:=(aV:wl ([]:LB)=0∧_)
   have:=(aV:wl ([]:List aM)=0∧_)
   exact oI
  refine oC (fun g9=>?_) fun g9=>?_
  ·have:hU.size=1:=rfl
   refine oB (fG hU) fun x22 h10=>?_
   have:cS.size=4:=rfl
   have:=cE x22
   refine oB (dF cS ([x22]:List aB) bQ) fun x24 h11=>?_
   have:=cE hU
   have:=a9 hU
   have:=aB.wt_eq x24
   have:=aM.wt_mk y3 x22
   have:=cE (aM.mk y3 x22)
   exact oI
  refine oC (fun g12=>?_) fun g12=>?_
  ·have:hU.size=1:=rfl
   refine oB (fG hU) fun x27 h13=>?_
   have:E0.size=1:=rfl
   refine oB (fG E0) fun x29 h14=>?_
   have:uG.size=4:=rfl
   have:=lE x27 x29
   refine oB (dF uG ([x27,x29]:List aB) bQ) fun x31 h15=>?_
   have:=lE hU E0
   have:=a9 hU
   have:=a9 E0
   have:=aB.wt_eq x31
   have:=(aV:wl ([]:List aM)=0∧_)
   exact oI
  have:hU.size=1:=rfl
  refine oB (fG hU) fun x33 h16=>?_
  have:=cE hU
  have:=a9 hU
  have:=aB.wt_eq x33
  have:l6.size=3:=rfl
  have:=aM.wt_mk l6 x33
  have:=cE (aM.mk l6 x33)
  exact oI
 rintro⟨v9,v10,v11,v12,v13,v14⟩ h5
 dsimp only at h5
 refine Ok.sok (E:=fun(v38,v35,v36,v37,v34)=>wl v38+v37.size≤5000) ?_ ?_
 ·refine Ok.lt fun d39 h18=>?_;refine oC (fun g19=>?_) fun g19=>?_
  ·refine uM (uA d39 v9 1 bQ) fun x43 x44 h20=>?_
   dsimp only at h20
   have:=aB.wt_eq x43
   exact oI
  have:s_.size=0:=rfl
  have:=(aV:wl ([]:List aB)=0∧_)
  exact oI
 rintro⟨v38,v35,v36,v37,v34⟩ h17
 dsimp only at h17
 refine Ok.lt fun d45 h21=>Ok.lt fun d47 h22=>?_;refine oC (fun g23=>?_) fun g23=>?_
 ·refine uM (kO d47 2 bQ) fun x51 x52 h24=>?_
  dsimp only at h24
  have:=DS.below_lt v34 (n:=4) (by decide)
  have:=aB.wt_mk v36 v37 v38
  have:fD.size=1:=rfl
  have:eP.size=1:=rfl
  have:=cE eP
  have:=a9 eP
  have:=aO.wt_mk fD ([eP]:LB) x8
  have:=cE (aO.mk fD ([eP]:LB) x8)
  have:=aL.wt_mk y3 v9 x51 v13 (decide (v34.below 4=0)) v35 (aB.mk v36 v37 v38) ([(aO.mk fD ([eP]:LB) x8)]:List aO)
  exact oS
 refine oC (fun g25=>?_) fun g25=>?_
 ·have:hU.size=1:=rfl
  have:s_c.size=1:=rfl
  have:=lE hU s_c
  have:=a9 hU
  have:=a9 s_c
  refine Ok.lt fun d54 h26=>Ok.lt fun y56 h27=>?_
  have:=congrArg wt h27
  simp only [a9] at this
  have:y56.size≤1:=by rw [h27];exact DS.pick_size _ (by decide) (by decide)
  have:=aY (v9)
  have:=cE y56
  have:=a9 y56
  refine oG fun z28=>?_
  have:=b6 v9 ([y56]:LB)
  have:=aB.wt_mk v10 v11 v12
  have:=DS.below_lt v34 (n:=4) (by decide)
  have:=aB.wt_mk v36 v37 v38
  have:fD.size=1:=rfl
  have:eP.size=1:=rfl
  have:=cE eP
  have:=a9 eP
  have:=aO.wt_mk fD ([eP]:LB) x8
  have:=cE (aO.mk fD ([eP]:LB) x8)
  have:=aL.wt_mk y3 (v9++([y56]:LB)) (aB.mk v10 v11 v12) v13 (decide (v34.below 4=0)) v35 (aB.mk v36 v37 v38) ([(aO.mk fD ([eP]:LB) x8)]:List aO)
  exact oS
 refine oC (fun g29=>?_) fun g29=>?_
 ·refine uM (kO d47 1 bQ) fun x61 x62 h30=>?_
  dsimp only at h30
  have:=aY (v13)
  have:=aM.wt_mk wE x61
  have:=cE (aM.mk wE x61)
  refine oG fun z31=>?_
  have:=aB.wt_mk v10 v11 v12
  have:=b6 v13 ([(aM.mk wE x61)]:List aM)
  have:=DS.below_lt v34 (n:=4) (by decide)
  have:=aB.wt_mk v36 v37 v38
  have:fD.size=1:=rfl
  have:eP.size=1:=rfl
  have:=cE eP
  have:=a9 eP
  have:=aO.wt_mk fD ([eP]:LB) x8
  have:=cE (aO.mk fD ([eP]:LB) x8)
  have:=aL.wt_mk y3 v9 (aB.mk v10 v11 v12) (v13++([(aM.mk wE x61)]:List aM)) (decide (v34.below 4=0)) v35 (aB.mk v36 v37 v38) ([(aO.mk fD ([eP]:LB) x8)]:List aO)
  exact oS
 refine oC (fun g32=>?_) fun g32=>?_
 ·have:eP.size=1:=rfl
  have:rF.size=1:=rfl
  have:=lE eP rF
  have:=a9 eP
  have:=a9 rF
  refine uM (s4 d47 ([eP,rF]:LB) 2 bQ) fun x66 x67 h33=>?_
  dsimp only at h33
  have:=aB.wt_mk v10 v11 v12
  have:=DS.below_lt v34 (n:=4) (by decide)
  have:=aB.wt_mk v36 v37 v38
  have:fD.size=1:=rfl
  have:=cE eP
  have:=aO.wt_mk fD ([eP]:LB) x66
  have:=cE (aO.mk fD ([eP]:LB) x66)
  have:=aL.wt_mk y3 v9 (aB.mk v10 v11 v12) v13 (decide (v34.below 4=0)) v35 (aB.mk v36 v37 v38) ([(aO.mk fD ([eP]:LB) x66)]:List aO)
  exact oS
 refine oC (fun g34=>?_) fun g34=>?_
 ·refine oB (nJ) fun x70 h35=>?_
  have:=aB.wt_mk v10 v11 v12
  have:=DS.below_lt v34 (n:=4) (by decide)
  have:fD.size=1:=rfl
  have:eP.size=1:=rfl
  have:=cE eP
  have:=a9 eP
  have:=aO.wt_mk fD ([eP]:LB) x8
  have:=cE (aO.mk fD ([eP]:LB) x8)
  have:=aL.wt_mk y3 v9 (aB.mk v10 v11 v12) v13 (decide (v34.below 4=0)) v35 x70 ([(aO.mk fD ([eP]:LB) x8)]:List aO)
  exact oS
 refine oC (fun g36=>?_) fun g36=>?_
 ·have:=aB.wt_mk v10 v11 v12
  have:=DS.below_lt v34 (n:=4) (by decide)
  have:=aB.wt_mk v36 v37 v38
  have:fD.size=1:=rfl
  have:=(aV:wl ([]:LB)=0∧_)
  have:=aO.wt_mk fD ([]) x8
  have:=cE (aO.mk fD ([]) x8)
  have:=aL.wt_mk y3 v9 (aB.mk v10 v11 v12) v13 (decide (v34.below 4=0)) v35 (aB.mk v36 v37 v38) ([(aO.mk fD ([]) x8)]:List aO)
  exact oS
 have:=aB.wt_mk v10 v11 v12
 have:=DS.below_lt v34 (n:=4) (by decide)
 have:=aB.wt_mk v36 v37 v38
 have:fD.size=1:=rfl
 have:eP.size=1:=rfl
 have:=cE eP
 have:=a9 eP
 have:=aO.wt_mk fD ([eP]:LB) x8
 have:=cE (aO.mk fD ([eP]:LB) x8)
 have:=aL.wt_mk y3 v9 (aB.mk v10 v11 v12) v13 (decide (v34.below 4=0)) v35 (aB.mk v36 v37 v38) ([(aO.mk fD ([eP]:LB) x8)]:List aO)
 exact oS
def amS(fu:Nat):Prop:= ∀(pc:DS),Ok (VJ fu pc) (fun r=>wt r.1≤2000000)
theorem UE:cH amS:=((((((cH.ge 2147483648).and fG).and nJ).and f6).and kO).and s4).imp fun fu ⟨⟨⟨⟨⟨hfu,fG⟩,nJ⟩,f6⟩,kO⟩,s4⟩ pc=>by
 have:=Y1
 have:=agC
 have:=apX 3 (by decide)
 have:s_f.size=1:=rfl
 have:s_g.size=1:=rfl
 have:=lE s_f s_g
 have:=a9 s_f
 have:=a9 s_g
 refine Ok.lt fun d1 h1=>Ok.lt fun y3 h2=>?_
 have:=congrArg wt h2
 simp only [a9] at this
 have:y3.size≤1:=by rw [h2];exact DS.pick_size _ (by decide) (by decide)
 have:hU.size=1:=rfl
 refine oB (fG hU) fun x6 h3=>oB (nJ) fun x8 h4=>?_
 have:eP.size=1:=rfl
 refine Q8 (f6 eP) fun x10 h5 h5B=>Ok.lt fun d11 h6=>?_;refine oC (fun g7=>?_) fun g7=>?_
 ·refine uM (kO d11 2 bQ) fun x15 x16 h8=>?_
  dsimp only at h8
  have:=cE hU
  have:=a9 hU
  have:bH.size=4:=rfl
  have:=aM.wt_mk bH x6
  have:=cE (aM.mk bH x6)
  have:=aT.wt_mk eP x6
  have:=cE (aT.mk eP x6)
  have:fD.size=1:=rfl
  have:s_.size=0:=rfl
  have:=(aV:wl ([]:List aB)=0∧_)
  have:=aB.wt_mk 0 s_ []
  have:=cE x10
  have:=(aV:wl ([]:List bA)=0∧_)
  have:=aG.wt_mk 5 bH fD 0 (aB.mk 0 s_ []) ([x10]:List aG) []
  have:=aK.wt_mk y3 ([hU]:LB) ([(aM.mk bH x6)]:List aM) ([(aT.mk eP x6)]:List aT) x15 (aG.mk 5 bH fD 0 (aB.mk 0 s_ []) ([x10]:List aG) [])
  exact oS
 refine oC (fun g9=>?_) fun g9=>?_
 ·have:rF.size=1:=rfl
  have:=lE eP rF
  have:=a9 eP
  have:=a9 rF
  refine Ok.lt fun d18 h10=>Ok.lt fun y20 h11=>?_
  have:=congrArg wt h11
  simp only [a9] at this
  have:y20.size≤1:=by rw [h11];exact DS.pick_size _ (by decide) (by decide)
  have:=aT.wt_mk eP x6
  have:=cE (aT.mk eP x6)
  have:=aT.wt_mk y20 x8
  have:=cE (aT.mk y20 x8)
  refine oG fun z12=>?_
  have:=cE hU
  have:=a9 hU
  have:bH.size=4:=rfl
  have:=aM.wt_mk bH x6
  have:=cE (aM.mk bH x6)
  have:=b6 ([(aT.mk eP x6)]:List aT) ([(aT.mk y20 x8)]:List aT)
  have:fD.size=1:=rfl
  have:s_.size=0:=rfl
  have:=(aV:wl ([]:List aB)=0∧_)
  have:=aB.wt_mk 0 s_ []
  have:=cE x10
  have:=(aV:wl ([]:List bA)=0∧_)
  have:=aG.wt_mk 5 bH fD 0 (aB.mk 0 s_ []) ([x10]:List aG) []
  have:=aK.wt_mk y3 ([hU]:LB) ([(aM.mk bH x6)]:List aM) (([(aT.mk eP x6)]:List aT)++([(aT.mk y20 x8)]:List aT)) x8 (aG.mk 5 bH fD 0 (aB.mk 0 s_ []) ([x10]:List aG) [])
  exact oS
 refine oC (fun g13=>?_) fun g13=>?_
 ·have:rF.size=1:=rfl
  have:=lE eP rF
  have:=a9 eP
  have:=a9 rF
  refine uM (s4 d11 ([eP,rF]:LB) 3 bQ) fun x25 x26 h14=>?_
  dsimp only at h14
  have:=cE hU
  have:=a9 hU
  have:bH.size=4:=rfl
  have:=aM.wt_mk bH x6
  have:=cE (aM.mk bH x6)
  have:=aT.wt_mk eP x6
  have:=cE (aT.mk eP x6)
  have:=aK.wt_mk y3 ([hU]:LB) ([(aM.mk bH x6)]:List aM) ([(aT.mk eP x6)]:List aT) x8 x25
  exact oS
 refine oC (fun g15=>?_) fun g15=>?_
 ·refine uM (kO d11 1 bQ) fun x29 x30 h16=>?_
  dsimp only at h16
  have:=cE hU
  have:=a9 hU
  have:bH.size=4:=rfl
  have:=aM.wt_mk bH x29
  have:=cE (aM.mk bH x29)
  have:=aT.wt_mk eP x6
  have:=cE (aT.mk eP x6)
  have:fD.size=1:=rfl
  have:s_.size=0:=rfl
  have:=(aV:wl ([]:List aB)=0∧_)
  have:=aB.wt_mk 0 s_ []
  have:=cE x10
  have:=(aV:wl ([]:List bA)=0∧_)
  have:=aG.wt_mk 5 bH fD 0 (aB.mk 0 s_ []) ([x10]:List aG) []
  have:=aK.wt_mk y3 ([hU]:LB) ([(aM.mk bH x29)]:List aM) ([(aT.mk eP x6)]:List aT) x8 (aG.mk 5 bH fD 0 (aB.mk 0 s_ []) ([x10]:List aG) [])
  exact oS
 refine oC (fun g17=>?_) fun g17=>?_
 ·have:s_.size=0:=rfl
  have:D1.size=2:=rfl
  have:=lE s_ D1
  have:=a9 s_
  have:=a9 D1
  refine Ok.lt fun d32 h18=>Ok.lt fun y34 h19=>?_
  have:=congrArg wt h19
  simp only [a9] at this
  have:y34.size≤2:=by rw [h19];exact DS.pick_size _ (by decide) (by decide)
  have:=cE hU
  have:=a9 hU
  have:bH.size=4:=rfl
  have:=aM.wt_mk bH x6
  have:=cE (aM.mk bH x6)
  have:=aT.wt_mk eP x6
  have:=cE (aT.mk eP x6)
  have:fD.size=1:=rfl
  have:=(aV:wl ([]:List aB)=0∧_)
  have:=aB.wt_mk 0 s_ []
  have:=cE x10
  have:=(aV:wl ([]:List bA)=0∧_)
  have:=aG.wt_mk 5 bH fD 0 (aB.mk 0 s_ []) ([x10]:List aG) []
  have:=aK.wt_mk y34 ([hU]:LB) ([(aM.mk bH x6)]:List aM) ([(aT.mk eP x6)]:List aT) x8 (aG.mk 5 bH fD 0 (aB.mk 0 s_ []) ([x10]:List aG) [])
  exact oS
 have:=cE hU
 have:=a9 hU
 have:bH.size=4:=rfl
 have:=aM.wt_mk bH x6
 have:=cE (aM.mk bH x6)
 have:=aT.wt_mk eP x6
 have:=cE (aT.mk eP x6)
 have:fD.size=1:=rfl
 have:s_.size=0:=rfl
 have:=(aV:wl ([]:List aB)=0∧_)
 have:=aB.wt_mk 0 s_ []
 have:=cE x10
 have:=(aV:wl ([]:List bA)=0∧_)
 have:=aG.wt_mk 5 bH fD 0 (aB.mk 0 s_ []) ([x10]:List aG) []
 have:=aK.wt_mk y3 ([hU]:LB) ([(aM.mk bH x6)]:List aM) ([(aT.mk eP x6)]:List aT) x8 (aG.mk 5 bH fD 0 (aB.mk 0 s_ []) ([x10]:List aG) [])
 exact oS
def ab4(fu:Nat):Prop:= ∀(pq0:DS),Ok (F7 fu pq0) (fun r=>wt r.1≤10000)
theorem FN:cH ab4:=((((((cH.ge 2147483648).and fG).and nJ).and f6).and fL).and nI).imp fun fu ⟨⟨⟨⟨⟨hfu,fG⟩,nJ⟩,f6⟩,fL⟩,nI⟩ pq0=>by
 have:dH.size=4:=rfl
 refine oB (fG dH) fun x2 h1=>?_
 have:bH.size=4:=rfl
 have:wE.size=2:=rfl
 have:kS.size=3:=rfl
 have:=EV bH wE kS
 have:=a9 bH
 have:=a9 wE
 have:=a9 kS
 refine Ok.lt fun d3 h2=>Ok.lt fun y5 h3=>?_
 have:=congrArg wt h3
 simp only [a9] at this
 have:y5.size≤4:=by rw [h3];exact DS.pick_size _ (by decide) (by decide)
 refine Ok.lt fun d7 h4=>oB (nJ) fun x10 h5=>?_;refine oC (fun g6=>?_) fun g6=>?_
 ·refine oC (fun g7=>?_) fun g7=>?_
  ·refine Ok.lt fun d13 h8=>?_
   have:eP.size=1:=rfl
   refine Q8 (f6 eP) fun x17 h9 h9B=>Q8 (fL 1 bQ) fun x19 h10 h10B=>?_
   have:AC.size=1:=rfl
   have:fD.size=1:=rfl
   have:s_.size=0:=rfl
   have:=(aV:wl ([]:List aB)=0∧_)
   have:=aB.wt_mk 0 s_ []
   have:=cE x17
   have:=(aV:wl ([]:List bA)=0∧_)
   have:=aG.wt_mk 5 y5 fD 0 (aB.mk 0 s_ []) ([x17]:List aG) []
   have:=lE (aG.mk 5 y5 fD 0 (aB.mk 0 s_ []) ([x17]:List aG) []) x19
   refine oB (nI 10 AC ([(aG.mk 5 y5 fD 0 (aB.mk 0 s_ []) ([x17]:List aG) []),x19]:List aG) bQ) fun x21 h11=>?_
   have:=(aV:wl ([]:List aG)=0∧_)
   have:=aG.wt_mk 0 s_ s_ 0 (aB.mk 0 s_ []) [] []
   have:=(aV:wl ([]:LB)=0∧_)
   have:=aC.wt_mk fD [] x10 false [] (aG.mk 0 s_ s_ 0 (aB.mk 0 s_ []) [] [])
   have:=cE (aC.mk fD [] x10 false [] (aG.mk 0 s_ s_ 0 (aB.mk 0 s_ []) [] []))
   have:fY.size=5:=rfl
   have:=cE x2
   have:rF.size=1:=rfl
   have:=lE eP rF
   have:=a9 eP
   have:=a9 rF
   have:=aC.wt_mk fY ([x2]:List aB) x10 true ([eP,rF]:LB) x21
   have:=cE (aC.mk fY ([x2]:List aB) x10 true ([eP,rF]:LB) x21)
   refine oG fun z12=>?_;refine Ok.sok (E:=fun v23=>wl v23≤10) ?_ ?_
   ·refine Ok.lt fun d24 h14=>?_;refine oC (fun g15=>?_) fun g15=>?_
    ·have:l6.size=3:=rfl
     have:=cE l6
     have:=a9 l6
     exact oI
    exact oI
   intro v23 h13
   refine Ok.lt fun d28 h16=>?_;refine oC (fun g17=>?_) fun g17=>?_
   ·have:E0.size=1:=rfl
    have:=lE dH E0
    have:=a9 dH
    have:=a9 E0
    refine Ok.lt fun d31 h18=>Ok.lt fun y33 h19=>?_
    have:=congrArg wt h19
    simp only [a9] at this
    have:y33.size≤4:=by rw [h19];exact DS.pick_size _ (by decide) (by decide)
    refine oB (fG y33) fun x36 h20=>?_
    have:=DS.below_lt d3 (n:=3) (by decide)
    have:=aB.wt_mk 0 s_ ([])
    have:=aG.wt_mk 0 s_ s_ 0 (aB.mk 0 s_ ([])) ([]) ([])
    have:=aC.wt_mk fD ([]) x36 false ([]) (aG.mk 0 s_ s_ 0 (aB.mk 0 s_ ([])) ([]) ([]))
    have:=lE (aC.mk fD ([]) x36 false ([]) (aG.mk 0 s_ s_ 0 (aB.mk 0 s_ ([])) ([]) ([]))) (aC.mk fY ([x2]:List aB) x10 true ([eP,rF]:LB) x21)
    have:=aP.wt_mk y5 v23 false (decide (d3.below 3=0)) ([(aC.mk fD ([]) x36 false ([]) (aG.mk 0 s_ s_ 0 (aB.mk 0 s_ ([])) ([]) ([]))),(aC.mk fY ([x2]:List aB) x10 true ([eP,rF]:LB) x21)]:List aC)
    exact oS
   have:=DS.below_lt d3 (n:=3) (by decide)
   have:=aB.wt_mk 0 s_ ([])
   have:=aG.wt_mk 0 s_ s_ 0 (aB.mk 0 s_ ([])) ([]) ([])
   have:=aC.wt_mk fD ([]) x10 true ([]) (aG.mk 0 s_ s_ 0 (aB.mk 0 s_ ([])) ([]) ([]))
   have:=lE (aC.mk fD ([]) x10 true ([]) (aG.mk 0 s_ s_ 0 (aB.mk 0 s_ ([])) ([]) ([]))) (aC.mk fY ([x2]:List aB) x10 true ([eP,rF]:LB) x21)
   have:=aP.wt_mk y5 v23 false (decide (d3.below 3=0)) ([(aC.mk fD ([]) x10 true ([]) (aG.mk 0 s_ s_ 0 (aB.mk 0 s_ ([])) ([]) ([]))),(aC.mk fY ([x2]:List aB) x10 true ([eP,rF]:LB) x21)]:List aC)
   exact oS
  refine Ok.lt fun d37 h21=>?_;refine Ok.sok (E:=fun v40=>wl v40≤10) ?_ ?_
  ·refine Ok.lt fun d41 h23=>?_;refine oC (fun g24=>?_) fun g24=>?_
   ·have:l6.size=3:=rfl
    have:=cE l6
    have:=a9 l6
    exact oI
   have:=(aV:wl ([]:LB)=0∧_)
   exact oI
  intro v40 h22
  refine Ok.lt fun d45 h25=>?_;refine oC (fun g26=>?_) fun g26=>?_
  ·have:E0.size=1:=rfl
   have:=lE dH E0
   have:=a9 dH
   have:=a9 E0
   refine Ok.lt fun d48 h27=>Ok.lt fun y50 h28=>?_
   have:=congrArg wt h28
   simp only [a9] at this
   have:y50.size≤4:=by rw [h28];exact DS.pick_size _ (by decide) (by decide)
   refine oB (fG y50) fun x53 h29=>?_
   have:=DS.below_lt d3 (n:=3) (by decide)
   have:fD.size=1:=rfl
   have:s_.size=0:=rfl
   have:=(aV:wl ([]:List aB)=0∧_)
   have:=aB.wt_mk 0 s_ []
   have:=(aV:wl ([]:List aG)=0∧_)
   have:=(aV:wl ([]:List bA)=0∧_)
   have:=aG.wt_mk 0 s_ s_ 0 (aB.mk 0 s_ []) [] []
   have:=(aV:wl ([]:LB)=0∧_)
   have:=aC.wt_mk fD [] x53 false [] (aG.mk 0 s_ s_ 0 (aB.mk 0 s_ []) [] [])
   have:=cE (aC.mk fD [] x53 false [] (aG.mk 0 s_ s_ 0 (aB.mk 0 s_ []) [] []))
   have:=aP.wt_mk y5 v40 false (decide (d3.below 3=0)) ([(aC.mk fD [] x53 false [] (aG.mk 0 s_ s_ 0 (aB.mk 0 s_ []) [] []))]:List aC)
   exact oS
  have:=DS.below_lt d3 (n:=3) (by decide)
  have:fD.size=1:=rfl
  have:s_.size=0:=rfl
  have:=(aV:wl ([]:List aB)=0∧_)
  have:=aB.wt_mk 0 s_ []
  have:=(aV:wl ([]:List aG)=0∧_)
  have:=(aV:wl ([]:List bA)=0∧_)
  have:=aG.wt_mk 0 s_ s_ 0 (aB.mk 0 s_ []) [] []
  have:=(aV:wl ([]:LB)=0∧_)
  have:=aC.wt_mk fD [] x10 true [] (aG.mk 0 s_ s_ 0 (aB.mk 0 s_ []) [] [])
  have:=cE (aC.mk fD [] x10 true [] (aG.mk 0 s_ s_ 0 (aB.mk 0 s_ []) [] []))
  have:=aP.wt_mk y5 v40 false (decide (d3.below 3=0)) ([(aC.mk fD [] x10 true [] (aG.mk 0 s_ s_ 0 (aB.mk 0 s_ []) [] []))]:List aC)
  exact oS
 refine Ok.sok (E:=fun v55=>wl v55≤1000∧0<v55.length) ?_ ?_
 ·refine Ok.lt fun d56 h31=>?_;refine oC (fun g32=>?_) fun g32=>?_
  ·have:eP.size=1:=rfl
   refine Q8 (f6 eP) fun x61 h33 h33B=>Q8 (fL 1 bQ) fun x63 h34 h34B=>?_
   have:AC.size=1:=rfl
   have:fD.size=1:=rfl
   have:s_.size=0:=rfl
   have:=(aV:wl ([]:List aB)=0∧_)
   have:=aB.wt_mk 0 s_ []
   have:=cE x61
   have:=(aV:wl ([]:List bA)=0∧_)
   have:=aG.wt_mk 5 y5 fD 0 (aB.mk 0 s_ []) ([x61]:List aG) []
   have:=lE (aG.mk 5 y5 fD 0 (aB.mk 0 s_ []) ([x61]:List aG) []) x63
   refine oB (nI 10 AC ([(aG.mk 5 y5 fD 0 (aB.mk 0 s_ []) ([x61]:List aG) []),x63]:List aG) bQ) fun x65 h35=>?_
   have:=(aV:wl ([]:List aG)=0∧_)
   have:=aG.wt_mk 0 s_ s_ 0 (aB.mk 0 s_ []) [] []
   have:=(aV:wl ([]:LB)=0∧_)
   have:=aC.wt_mk fD [] x10 false [] (aG.mk 0 s_ s_ 0 (aB.mk 0 s_ []) [] [])
   have:=cE (aC.mk fD [] x10 false [] (aG.mk 0 s_ s_ 0 (aB.mk 0 s_ []) [] []))
   have:fY.size=5:=rfl
   have:=cE x2
   have:rF.size=1:=rfl
   have:=lE eP rF
   have:=a9 eP
   have:=a9 rF
   have:=aC.wt_mk fY ([x2]:List aB) x10 true ([eP,rF]:LB) x65
   have:=cE (aC.mk fY ([x2]:List aB) x10 true ([eP,rF]:LB) x65)
   refine oG fun z36=>?_
   have:=b6 ([(aC.mk fD [] x10 false [] (aG.mk 0 s_ s_ 0 (aB.mk 0 s_ []) [] []))]:List aC) ([(aC.mk fY ([x2]:List aB) x10 true ([eP,rF]:LB) x65)]:List aC)
   exact oI
  have:fD.size=1:=rfl
  have:s_.size=0:=rfl
  have:=(aV:wl ([]:List aB)=0∧_)
  have:=aB.wt_mk 0 s_ []
  have:=(aV:wl ([]:List aG)=0∧_)
  have:=(aV:wl ([]:List bA)=0∧_)
  have:=aG.wt_mk 0 s_ s_ 0 (aB.mk 0 s_ []) [] []
  have:=(aV:wl ([]:LB)=0∧_)
  have:=aC.wt_mk fD [] x10 false [] (aG.mk 0 s_ s_ 0 (aB.mk 0 s_ []) [] [])
  have:=cE (aC.mk fD [] x10 false [] (aG.mk 0 s_ s_ 0 (aB.mk 0 s_ []) [] []))
  exact oI
 intro v55 h30
 refine Ok.sok (E:=fun v67=>wl v67≤10) ?_ ?_
 ·refine Ok.lt fun d68 h38=>?_;refine oC (fun g39=>?_) fun g39=>?_
  ·have:l6.size=3:=rfl
   have:=cE l6
   have:=a9 l6
   exact oI
  have:=(aV:wl ([]:LB)=0∧_)
  exact oI
 intro v67 h37
 refine Ok.lt fun d72 h40=>?_;refine oC (fun g41=>?_) fun g41=>?_
 ·have:=DS.below_lt d3 (n:=3) (by decide)
  have:=aP.wt_mk y5 v67 true (decide (d3.below 3=0)) v55
  exact oS
 refine oC (fun g42=>?_) fun g42=>?_
 ·have:s_.size=0:=rfl
  have:fC.size=3:=rfl
  have:s_A.size=1:=rfl
  have:=EV s_ fC s_A
  have:=a9 s_
  have:=a9 fC
  have:=a9 s_A
  refine Ok.lt fun d76 h43=>Ok.lt fun y78 h44=>?_
  have:=congrArg wt h44
  simp only [a9] at this
  have:y78.size≤3:=by rw [h44];exact DS.pick_size _ (by decide) (by decide)
  have:=DS.below_lt d3 (n:=3) (by decide)
  have:=aP.wt_mk y78 v67 false (decide (d3.below 3=0)) v55
  exact oS
 refine oC (fun g45=>?_) fun g45=>?_
 ·have:=aY (v67)
  have:l6.size=3:=rfl
  have:=cE l6
  have:=a9 l6
  refine oG fun z46=>?_
  have:=b6 v67 ([l6]:LB)
  have:=DS.below_lt d3 (n:=3) (by decide)
  have:=aP.wt_mk y5 (v67++([l6]:LB)) false (decide (d3.below 3=0)) v55
  exact oS
 refine oC (fun g47=>?_) fun g47=>?_
 ·have:=aY (v55)
  refine oG fun z48=>?_
  have:=b7 v55 0 z48
  have:wl (List.take 1 v55)=wl (List.take 0 v55)+wt (aW v55 0)+1:=JI v55 0 z48
  refine Ok.lt fun y84 h49=>?_
  have:=congrArg wt h49
  have:=cE y84
  refine oG fun z50=>?_
  have:=DS.below_lt d3 (n:=3) (by decide)
  have:=b6 v55 ([y84]:List aC)
  have:=aP.wt_mk y5 v67 false (decide (d3.below 3=0)) (v55++([y84]:List aC))
  exact oS
 have:=DS.below_lt d3 (n:=3) (by decide)
 have:=aP.wt_mk y5 v67 false (decide (d3.below 3=0)) v55
 exact oS
def af3(fu:Nat):Prop:= ∀(pc:DS),Ok (LA fu pc) (fun r=>wt r.1≤10000)
theorem KB:cH af3:=((((cH.ge 2147483648).and fG).and dF).and kO).imp fun fu ⟨⟨⟨hfu,fG⟩,dF⟩,kO⟩ pc=>by
 have:=Y1
 have:=agC
 have:hU.size=1:=rfl
 refine oB (fG hU) fun x2 h1=>?_
 have:cS.size=4:=rfl
 have:=cE x2
 refine oB (dF cS ([x2]:List aB) bQ) fun x4 h2=>Ok.lt fun d5 h3=>?_;refine oC (fun g4=>?_) fun g4=>?_
 ·have:E0.size=1:=rfl
  have:=lE hU E0
  have:=a9 hU
  have:=a9 E0
  refine Ok.lt fun d8 h5=>Ok.lt fun y10 h6=>?_
  have:=congrArg wt h6
  simp only [a9] at this
  have:y10.size≤1:=by rw [h6];exact DS.pick_size _ (by decide) (by decide)
  have:=cE hU
  have:=cE y10
  have:=a9 y10
  refine oG fun z7=>?_
  have:=b6 ([hU]:LB) ([y10]:LB)
  have:gJ.size=3:=rfl
  have:=(aV:wl ([]:List aB)=0∧_)
  have:=aD.wt_mk gJ []
  have:cK.size=4:=rfl
  have:=lE x2 x4
  have:=aD.wt_mk cK ([x2,x4]:List aB)
  have:=lE (aD.mk gJ []) (aD.mk cK ([x2,x4]:List aB))
  have:=aH.wt_mk cS (([hU]:LB)++([y10]:LB)) ([(aD.mk gJ []),(aD.mk cK ([x2,x4]:List aB))]:List aD)
  exact oS
 refine oC (fun g8=>?_) fun g8=>?_
 ·refine Ok.lt fun d14 h9=>?_
  have:=DS.below_lt d5 (n:=2) (by decide)
  have:gJ.size=3:=rfl
  have:=(aV:wl ([]:List aB)=0∧_)
  have:=aD.wt_mk gJ []
  have:cK.size=4:=rfl
  have:=lE x2 x4
  have:=aD.wt_mk cK ([x2,x4]:List aB)
  have:=lE (aD.mk gJ []) (aD.mk cK ([x2,x4]:List aB))
  refine oG fun z10=>?_
  have:=cE hU
  have:=a9 hU
  have:=TD (0:Int).toNat (d5.below 2:Int).toNat ([(aD.mk gJ []),(aD.mk cK ([x2,x4]:List aB))]:List aD)
  have:=aH.wt_mk cS ([hU]:LB) (List.drop (0:Int).toNat (List.take (d5.below 2:Int).toNat ([(aD.mk gJ []),(aD.mk cK ([x2,x4]:List aB))]:List aD)))
  exact oS
 refine oC (fun g11=>?_) fun g11=>?_
 ·refine uM (kO d5 2 bQ) fun x19 x20 h12=>?_
  dsimp only at h12
  have:=cE hU
  have:=a9 hU
  have:gJ.size=3:=rfl
  have:=cE x19
  have:=aD.wt_mk gJ ([x19]:List aB)
  have:cK.size=4:=rfl
  have:=lE x2 x4
  have:=aD.wt_mk cK ([x2,x4]:List aB)
  have:=lE (aD.mk gJ ([x19]:List aB)) (aD.mk cK ([x2,x4]:List aB))
  have:=aH.wt_mk cS ([hU]:LB) ([(aD.mk gJ ([x19]:List aB)),(aD.mk cK ([x2,x4]:List aB))]:List aD)
  exact oS
 refine oC (fun g13=>?_) fun g13=>?_
 ·have:cK.size=4:=rfl
  have:s_.size=0:=rfl
  have:VF.size=3:=rfl
  have:=EV cK s_ VF
  have:=a9 cK
  have:=a9 s_
  have:=a9 VF
  refine Ok.lt fun d22 h14=>Ok.lt fun y24 h15=>?_
  have:=congrArg wt h15
  simp only [a9] at this
  have:y24.size≤4:=by rw [h15];exact DS.pick_size _ (by decide) (by decide)
  have:=cE hU
  have:=a9 hU
  have:=(aV:wl ([]:List aB)=0∧_)
  have:=aD.wt_mk y24 []
  have:=lE x2 x4
  have:=aD.wt_mk cK ([x2,x4]:List aB)
  have:=lE (aD.mk y24 []) (aD.mk cK ([x2,x4]:List aB))
  have:=aH.wt_mk cS ([hU]:LB) ([(aD.mk y24 []),(aD.mk cK ([x2,x4]:List aB))]:List aD)
  exact oS
 have:=cE hU
 have:=a9 hU
 have:gJ.size=3:=rfl
 have:=(aV:wl ([]:List aB)=0∧_)
 have:=aD.wt_mk gJ []
 have:cK.size=4:=rfl
 have:=lE x2 x4
 have:=aD.wt_mk cK ([x2,x4]:List aB)
 have:=lE (aD.mk gJ []) (aD.mk cK ([x2,x4]:List aB))
 have:=aH.wt_mk cS ([hU]:LB) ([(aD.mk gJ []),(aD.mk cK ([x2,x4]:List aB))]:List aD)
 exact oS
def akG(fu:Nat):Prop:= ∀(pq0:DS),Ok (QA fu pq0) (fun r=>wt r.1≤12000000)
theorem OW:cH akG:=(((((cH.ge 2147483648).and FN).and KB).and KC).and UE).imp fun fu ⟨⟨⟨⟨hfu,FN⟩,KB⟩,KC⟩,UE⟩ pq0=>by
 refine Ok.lt fun d1 h1=>?_
 have:=DS.below_lt pq0 (n:=5) (by decide)
 have:=(aV:wl ([]:List aP)=0∧_)
 have:=(aV:wl ([]:List aH)=0∧_)
 have:=(aV:wl ([]:List aL)=0∧_)
 have:=(aV:wl ([]:List aK)=0∧_)
 refine Ok.sok (E:=fun(v9,v10,v11,v12,v4)=>wl v9+wl v10+wl v11+wl v12≤10000005) ?_ ?_
 ·refine Ok.loop0 (fun i3 (v9,v10,v11,v12,v4)=>wl v9+wl v10+wl v11+wl v12≤2000001*i3∧i3≤5) (by exact bQ) (by rintro i3 ⟨v9,v10,v11,v12,v4⟩-hI;(try dsimp only at hI ⊢);omega) ?_;rintro i3 ⟨v9,v10,v11,v12,v4⟩ hl3 hI4
  dsimp only at hI4
  refine Ok.lt fun d15 h5=>?_;refine oC (fun g6=>?_) fun g6=>?_
  ·refine uM (FN d15) fun x19 x20 h7=>?_
   dsimp only at h7
   have:=aY (v9)
   have:=cE x19
   refine oG fun z8=>?_
   have:=b6 v9 ([x19]:List aP)
   exact oO
  refine oC (fun g9=>?_) fun g9=>?_
  ·refine uM (KB d15) fun x24 x25 h10=>?_
   dsimp only at h10
   have:=aY (v10)
   have:=cE x24
   refine oG fun z11=>?_
   have:=b6 v10 ([x24]:List aH)
   exact oO
  refine oC (fun g12=>?_) fun g12=>?_
  ·refine uM (KC d15) fun x29 x30 h13=>?_
   dsimp only at h13
   have:=aY (v11)
   have:=cE x29
   refine oG fun z14=>?_
   have:=b6 v11 ([x29]:List aL)
   exact oO
  refine uM (UE d15) fun x33 x34 h15=>?_
  dsimp only at h15
  have:=aY (v12)
  have:=cE x33
  refine oG fun z16=>?_
  have:=b6 v12 ([x33]:List aK)
  exact oO
 rintro⟨v9,v10,v11,v12,v4⟩ h2
 dsimp only at h2
 refine Ok.lt fun d36 h17=>?_;refine oC (fun g18=>?_) fun g18=>?_
 ·have:s_.size=0:=rfl
  have:gS.size=4:=rfl
  have:=lE s_ gS
  have:=a9 s_
  have:=a9 gS
  refine Ok.lt fun d39 h19=>Ok.lt fun y41 h20=>?_
  have:=congrArg wt h20
  simp only [a9] at this
  have:y41.size≤4:=by rw [h20];exact DS.pick_size _ (by decide) (by decide)
  have:=cE gS
  have:=aJ.wt_mk y41 ([gS]:LB) v9 v10 v11 v12
  exact oS
 refine oC (fun g21=>?_) fun g21=>?_
 ·have:gS.size=4:=rfl
  have:s_q.size=1:=rfl
  have:s_p.size=1:=rfl
  have:=EV gS s_q s_p
  have:=a9 gS
  have:=a9 s_q
  have:=a9 s_p
  refine Ok.lt fun d44 h22=>Ok.lt fun y46 h23=>?_
  have:=congrArg wt h23
  simp only [a9] at this
  have:y46.size≤4:=by rw [h23];exact DS.pick_size _ (by decide) (by decide)
  have:=cE gS
  have:=cE y46
  have:=a9 y46
  refine oG fun z24=>?_
  have:=b6 ([gS]:LB) ([y46]:LB)
  have:=aJ.wt_mk s_p (([gS]:LB)++([y46]:LB)) v9 v10 v11 v12
  exact oS
 have:s_p.size=1:=rfl
 have:gS.size=4:=rfl
 have:=cE gS
 have:=a9 gS
 have:=aJ.wt_mk s_p ([gS]:LB) v9 v10 v11 v12
 exact oS
def acE(fu:Nat):Prop:= ∀(pc:DS),Ok (AX fu pc) (fun r=>wt r.1≤13000000)
theorem Q0:cH acE:=(((cH.ge 2147483648).and KG).and OW).imp fun fu ⟨⟨hfu,KG⟩,OW⟩ pc=>by
 refine uM (KG pc) fun x2 x3 h1=>?_
 dsimp only at h1
 refine Ok.lt fun d4 h2=>?_;refine oC (fun g3=>?_) fun g3=>?_
 ·refine uM (OW d4) fun x8 x9 h4=>?_
  dsimp only at h4
  have:=aF.wt_eq x2
  have:=aY (x2.gPackages)
  have:=cE x8
  refine oG fun z5=>?_
  have:=b6 x2.gPackages ([x8]:List aJ)
  have:=aF.wt_mk (x2.gPackages++([x8]:List aJ))
  exact oS
 have:=aF.wt_eq x2
 have:=aF.wt_mk x2.gPackages
 exact oS
end Go.Proofs.YtpioomclpaiomaaGreat.W

namespace Go.Proofs.YtpioomclpaiomaaGreat.W
open Go.RowKit Go.WalkArith Go.Proofs
attribute [local irreducible] lt
theorem rN{x:Int}(h0: -1≤x)(h1:x<9223372036854775807):aQ x=x:=by
 unfold aQ IntKind.wrap
 simp [IntKind.bits,IntKind.signed]
 omega
section
variable {β γ σ:Type}
theorem gR{f:Nat→σ→Option (LR σ β)}{q:Nat→Option γ}(g:γ→β){s:σ}{n:Nat}(hs: ∀i,i<n→f i s=some (match q i with|some r=> .ret (g r)|none=> .next s)):
 ∀k j,n-j=k→loopN f k j s=some (match(List.range' j k).findSome? q with|some r=> .inl (g r)|none=> .inr s)
 |0,j,hk=>by rw [loopN];rfl
 |k+1,j,hk=>by
  rw [loopN,hs j (by omega),List.range'_succ,List.findSome?_cons]
  cases q j with
  |some r=>rfl
  |none=>exact gR g hs k (j+1) (by omega)
theorem zJ{f:Int→Option (LR Int β)}{q:Nat→Option γ}(g:γ→β){n:Nat}(hs: ∀i:Nat,i<n→f (i:Int)=some (match q i with|some r=> .ret (g r)|none=> .next ((i+1:Nat):Int)))(he:f (n:Int)=some (.brk (n:Int))):
 ∀k j fu,n-j=k→j≤n→k<fu→loopW f fu (j:Int)=some (match(List.range' j k).findSome? q with|some r=> .inl (g r)|none=> .inr (n:Int))
 |0,j,fu,hk,hj,hf=>by
  obtain⟨m,rfl⟩: ∃m,fu=m+1:=⟨fu-1,by omega⟩
  obtain rfl:j=n:=by omega
  rw [loopW,he]
  rfl
 |k+1,j,fu,hk,hj,hf=>by
  obtain⟨m,rfl⟩: ∃m,fu=m+1:=⟨fu-1,by omega⟩
  rw [loopW,hs j (by omega),List.range'_succ,List.findSome?_cons]
  cases q j with
  |some r=>rfl
  |none=>exact zJ g hs he k (j+1) m (by omega) (by omega) (by omega)
end
def tQ(w:aF)(s:ByteArray)(i:Nat):Option (aP×Int×Bool):=(List.range' 0 (aW w.gPackages i).gTraits.length).findSome? fun k=>if(aW (aW w.gPackages i).gTraits k).gName=s then some (aW (aW w.gPackages i).gTraits k,(i:Int),true) else none
def dQ(w:aF)(s:ByteArray)(i:Nat):Option (aH×Int×Bool):=(List.range' 0 (aW w.gPackages i).gDataTypes.length).findSome? fun k=>if(aW (aW w.gPackages i).gDataTypes k).gName=s then some (aW (aW w.gPackages i).gDataTypes k,(i:Int),true) else none
def tOf(w:aF)(s:ByteArray):aP×Int×Bool:=((List.range' 0 w.gPackages.length).findSome? (tQ w s)).getD (aP.mk s_ [] false false [],0,false)
def Y5(w:aF)(s:ByteArray):aH×Int×Bool:=((List.range' 0 w.gPackages.length).findSome? (dQ w s)).getD (aH.mk s_ [] [],0,false)
theorem ak4(fu:Nat)(w:aF)(s:ByteArray):MN fu w s=some (tOf w s):=by
 have h:=gR (f:=OQ fu w s) (q:=tQ w s) (fun r=>r) (s:=()) (n:=w.gPackages.length) (fun i hi=>by
  have h2:=gR (f:=OR fu w s i (aW w.gPackages i)) (q:=fun k=>if(aW (aW w.gPackages i).gTraits k).gName=s then some (aW (aW w.gPackages i).gTraits k,(i:Int),true) else none) (fun r=>LR.ret r) (s:=()) (n:=(aW w.gPackages i).gTraits.length) (fun k hk=>by
   unfold OR
   by_cases hs:(aW (aW w.gPackages i).gTraits k).gName=s
   ·rw [if_pos hs];exact iG (decide_eq_true hs) rfl
   ·rw [if_neg hs];exact hY (decide_eq_false hs) rfl) _ 0 rfl
  unfold OQ X6
  refine zZ rfl ?_
  rw [h2]
  unfold tQ
  cases(List.range' 0 (aW w.gPackages i).gTraits.length).findSome? _<;>rfl) _ 0 rfl
 unfold MN X5 tOf
 rw [h]
 cases(List.range' 0 w.gPackages.length).findSome? (tQ w s)<;>rfl
theorem acV(fu:Nat)(w:aF)(s:ByteArray):MJ fu w s=some (Y5 w s):=by
 have h:=gR (f:=T8 fu w s) (q:=dQ w s) (fun r=>r) (s:=()) (n:=w.gPackages.length) (fun i hi=>by
  have h2:=gR (f:=T9 fu w s i (aW w.gPackages i)) (q:=fun k=>if(aW (aW w.gPackages i).gDataTypes k).gName=s then some (aW (aW w.gPackages i).gDataTypes k,(i:Int),true) else none) (fun r=>LR.ret r) (s:=()) (n:=(aW w.gPackages i).gDataTypes.length) (fun k hk=>by
   unfold T9
   by_cases hs:(aW (aW w.gPackages i).gDataTypes k).gName=s
   ·rw [if_pos hs];exact iG (decide_eq_true hs) rfl
   ·rw [if_neg hs];exact hY (decide_eq_false hs) rfl) _ 0 rfl
  unfold T8 acU
  refine zZ rfl ?_
  rw [h2]
  unfold dQ
  cases(List.range' 0 (aW w.gPackages i).gDataTypes.length).findSome? _<;>rfl) _ 0 rfl
 unfold MJ acT Y5
 rw [h]
 cases(List.range' 0 w.gPackages.length).findSome? (dQ w s)<;>rfl
def aF.small(w:aF)(N:Nat):Prop:= ∀i,i<w.gPackages.length→(aW w.gPackages i).gTraits.length<N∧(aW w.gPackages i).gDataTypes.length<N∧(aW w.gPackages i).gInstances.length<N
theorem adA(fu:Nat)(w:aF)(s:ByteArray)(hw:aF.small w fu):vT fu w s=some (tOf w s):=by
 have h:=gR (f:=zT fu w s) (q:=tQ w s) (fun r=>r) (s:=()) (n:=w.gPackages.length) (fun i hi=>by
  have h2:=zJ (f:=uJ fu w s i) (q:=fun k=>if(aW (aW w.gPackages i).gTraits k).gName=s then some (aW (aW w.gPackages i).gTraits k,(i:Int),true) else none) (fun r=>LR.ret r) (n:=(aW w.gPackages i).gTraits.length) (fun k hk=>by
   unfold uJ
   refine zZ rfl (iG (decide_eq_true (by omega)) (xC (by omega) ?_))
   rw [Int.toNat_natCast]
   by_cases hs:(aW (aW w.gPackages i).gTraits k).gName=s
   ·rw [if_pos hs];exact iG (decide_eq_true hs) rfl
   ·rw [if_neg hs];exact hY (decide_eq_false hs) rfl) (by
   unfold uJ
   exact zZ rfl (hY (decide_eq_false (by omega)) rfl)) _ 0 fu rfl (Nat.zero_le _) (hw i hi).1
  unfold zT GD
  refine(congrArg (fun o=>so o _) h2).trans ?_
  unfold tQ
  simp only [Nat.sub_zero]
  cases(List.range' 0 (aW w.gPackages i).gTraits.length).findSome? _<;>rfl) _ 0 rfl
 unfold vT GC tOf
 rw [h]
 cases(List.range' 0 w.gPackages.length).findSome? (tQ w s)<;>rfl
theorem UX(fu:Nat)(w:aF)(s:ByteArray)(hw:aF.small w fu):uI fu w s=some (Y5 w s):=by
 have h:=gR (f:=BP fu w s) (q:=dQ w s) (fun r=>r) (s:=()) (n:=w.gPackages.length) (fun i hi=>by
  have h2:=zJ (f:=vS fu w s i) (q:=fun k=>if(aW (aW w.gPackages i).gDataTypes k).gName=s then some (aW (aW w.gPackages i).gDataTypes k,(i:Int),true) else none) (fun r=>LR.ret r) (n:=(aW w.gPackages i).gDataTypes.length) (fun k hk=>by
   unfold vS
   refine zZ rfl (iG (decide_eq_true (by omega)) (xC (by omega) ?_))
   rw [Int.toNat_natCast]
   by_cases hs:(aW (aW w.gPackages i).gDataTypes k).gName=s
   ·rw [if_pos hs];exact iG (decide_eq_true hs) rfl
   ·rw [if_neg hs];exact hY (decide_eq_false hs) rfl) (by
   unfold vS
   exact zZ rfl (hY (decide_eq_false (by omega)) rfl)) _ 0 fu rfl (Nat.zero_le _) (hw i hi).2.1
  unfold BP JG
  refine(congrArg (fun o=>so o _) h2).trans ?_
  unfold dQ
  simp only [Nat.sub_zero]
  cases(List.range' 0 (aW w.gPackages i).gDataTypes.length).findSome? _<;>rfl) _ 0 rfl
 unfold uI JF Y5
 rw [h]
 cases(List.range' 0 w.gPackages.length).findSome? (dQ w s)<;>rfl
section
variable {α β:Type}
theorem UJ{F:Nat→List α→Option (LR (List α) β)}{n M:Nat}{g:Nat→List α}(hs: ∀j v,j<n→v.length+(g j).length≤M→F j v=some (.next (v++g j))):
 ∀k j (v:List α),n-j=k→v.length+((List.range' j k).flatMap g).length≤M→loopN F k j v=some (.inr (v++(List.range' j k).flatMap g))
 |0,j,v,hk,_=>by rw [loopN];simp
 |k+1,j,v,hk,hl=>by
  rw [List.range'_succ,List.flatMap_cons,List.length_append] at hl
  rw [loopN,hs j v (by omega) (by omega)]
  have h:=UJ hs k (j+1) (v++g j) (by omega) (by rw [List.length_append];omega)
  rw [List.range'_succ,List.flatMap_cons,← List.append_assoc]
  exact h
end
theorem aF.len_wt{w:aF}(hw:wt w≤13000000):w.gPackages.length≤13000000:=by
 have:=aF.wt_eq w
 have:=aY w.gPackages
 omega
theorem aF.len_at{w:aF}(hw:wt w≤13000000)(i:Nat)(hi:i<w.gPackages.length):(aW w.gPackages i).gTraits.length≤13000000∧(aW w.gPackages i).gDataTypes.length≤13000000∧(aW w.gPackages i).gInstances.length≤13000000:=by
 have:=aF.wt_eq w
 have:=b7 w.gPackages i hi
 have:=aJ.wt_eq (aW w.gPackages i)
 have:=aY (aW w.gPackages i).gTraits
 have:=aY (aW w.gPackages i).gDataTypes
 have:=aY (aW w.gPackages i).gInstances
 omega
theorem aF.small_wt{w:aF}{fu:Nat}(hw:wt w≤13000000)(hf:13000000<fu):aF.small w fu:=fun i hi=>by
 have:=aF.len_at hw i hi
 omega
end Go.Proofs.YtpioomclpaiomaaGreat.W

namespace Go.Proofs.YtpioomclpaiomaaGreat.W
open Go.RowKit Go.Proofs
attribute [local irreducible] lt wt wl
theorem u1{σ β:Type}{f:Nat→σ→Option (LR σ β)}{s:σ}{n:Nat}(hs: ∀i,i<n→f i s=some (.next s)): ∀k j,n-j=k→loopN f k j s=some (.inr s)
 |0,j,hk=>by rw [loopN]
 |k+1,j,hk=>by
  rw [loopN,hs j (by omega)]
  exact u1 hs k (j+1) (by omega)
theorem ajF{w:aF}{s:ByteArray}(hw:wt w≤13000000):wt (tOf w s).1≤13000000:=by
 unfold tOf
 cases h:(List.range' 0 w.gPackages.length).findSome? (tQ w s) with
 |none=>
  have:=aP.wt_mk s_ [] false false []
  have:=(aV:wl ([]:List aC)=0∧_)
  have:=(aV:wl ([]:LB)=0∧_)
  have:s_.size=0:=rfl
  show wt (aP.mk s_ [] false false [])≤_
  omega
 |some r=>
  obtain⟨i,hi,hq⟩:=List.exists_of_findSome?_eq_some h
  unfold tQ at hq
  obtain⟨k,hk,hq⟩:=List.exists_of_findSome?_eq_some hq
  rw [List.mem_range'_1] at hi hk
  split at hq
  ·cases hq
   have:=aF.wt_eq w
   have:=b7 w.gPackages i (by omega)
   have:=aJ.wt_eq (aW w.gPackages i)
   have:=b7 (aW w.gPackages i).gTraits k (by omega)
   show wt (aW (aW w.gPackages i).gTraits k)≤_
   omega
  ·cases hq
end Go.Proofs.YtpioomclpaiomaaGreat.W

namespace Go.Proofs.YtpioomclpaiomaaGreat.W
open Go.RowKit Go.Proofs
attribute [local irreducible] lt
def CH(w:aF)(s:ByteArray):Int:=match w.gPackages.findIdx? (fun p=>decide (p.gName=s)) with
 |some i=>((i:Nat):Int)
 |none=> -1
theorem apJ(fu:Nat)(w:aF)(s:ByteArray):oY fu w s=some (CH w s):=by
 unfold oY CM CH
 rw [tK (p:=fun p:aJ=>decide (p.gName=s)) (fun i hi=>by
  unfold CL
  refine zZ rfl ?_
  cases decide ((aW w.gPackages i).gName=s)<;>rfl)]
 cases w.gPackages.findIdx? fun p=>decide (p.gName=s)<;>rfl
theorem ao8(fu:Nat)(w:aF)(s:ByteArray):sM fu w s=some (CH w s):=by
 unfold sM gY kF CH
 rw [tK (p:=fun p:aJ=>decide (p.gName=s)) (fun i hi=>by
  unfold kE tZ
  refine zZ rfl ?_
  cases h:decide ((aW w.gPackages i).gName=s)<;>simp [bd,h,sw])]
 cases w.gPackages.findIdx? fun p=>decide (p.gName=s)<;>rfl
def RT(l:List Int)(x:Int):Bool:=l.any fun y=>decide (y=x)
theorem acN{l:List Int}{x:Int}:RT l x=true↔x∈l:=by
 unfold RT
 rw [List.any_eq_true]
 constructor
 ·rintro⟨y,hy,h⟩
  rw [decide_eq_true_eq] at h
  exact h ▸ hy
 ·exact fun h=>⟨x,h,decide_eq_true rfl⟩
theorem U3(fu:Nat)(l:List Int)(x:Int):wH fu l x=some (RT l x):=by
 have e:RT l x=(l.find? fun y=>decide (y=x)).isSome:=by
  unfold RT
  rw [Bool.eq_iff_iff,List.find?_isSome,List.any_eq_true]
 unfold wH NI
 rw [Q4 (p:=fun y=>decide (y=x)) (r:=fun _=>true) (fun i hi=>by
  unfold NH
  cases decide (aW l i=x)<;>rfl),e]
 cases l.find? fun y=>decide (y=x)<;>rfl
theorem XW{α:Type}[Inhabited α](f:α→Bool): ∀(l:List α) (k j:Nat),l.length-j=k→(List.range' j k).any (fun i=>f (aW l i))=(l.drop j).any f
 |l,0,j,hk=>by rw [List.drop_of_length_le (by omega)];simp
 |l,k+1,j,hk=>by
  rw [List.range'_succ,List.any_cons,XW f l k (j+1) (by omega),pR (by omega:j<l.length),List.any_cons]
def J1(w:aF)(p:Nat)(s:ByteArray):Bool:=decide (CH w s≥0)&&decide (CH w s<((p:Nat):Int))
def rQ(w:aF)(p:Nat)(A:List eV)(k:Nat):Bool:=(aW w.gPackages p).gDeps.any fun s=>J1 w p s&&RT (aW A (CH w s).toNat) ((k:Nat):Int)
def WT(w:aF)(p:Nat)(A:List eV):List Int:=((List.range' 0 p).flatMap fun k=>bif rQ w p A k then [((k:Nat):Int)] else [])++ [((p:Nat):Int)]
def BU(w:aF):Nat→List eV
 |0=> []
 |p+1=>BU w p++ [WT w p (BU w p)]
theorem LS(w:aF): ∀p,(BU w p).length=p
 |0=>rfl
 |p+1=>by rw [BU,List.length_append,LS w p];rfl
theorem SY(w:aF): ∀ {p j:Nat},j<p→aW (BU w p) j=WT w j (BU w j)
 |0,j,h=>by omega
 |p+1,j,h=>by
  have hl:=LS w p
  rw [BU,gE (by rw [List.length_append,hl];exact h)]
  by_cases hj:j<p
  ·rw [List.getElem_append_left (by omega),← gE (by omega),SY w hj]
  ·obtain rfl:j=p:=by omega
   rw [List.getElem_append_right (by omega)]
   simp [hl]
theorem Q5{β:Type}{F:List Int×Int→Option (LR (List Int×Int) β)}{q:Nat→Bool}{n:Nat}{v:List Int}{x:Int}(hs: ∀j:Nat,j<n→F (v,(j:Int))=some (bif q j then .brk (v++ [x],(j:Int)) else .next (v,((j+1:Nat):Int))))(he:F (v,(n:Int))=some (.brk (v,(n:Int)))):
 ∀k j fu,n-j=k→j≤n→k<fu→ ∃d,loopW F fu (v,(j:Int))=some (.inr (v++(bif (List.range' j k).any q then [x] else []),d))
 |0,j,fu,hk,hj,hf=>by
  obtain⟨m,rfl⟩: ∃m,fu=m+1:=⟨fu-1,by omega⟩
  obtain rfl:j=n:=by omega
  refine⟨(j:Int),?_⟩
  rw [loopW,he]
  simp
 |k+1,j,fu,hk,hj,hf=>by
  obtain⟨m,rfl⟩: ∃m,fu=m+1:=⟨fu-1,by omega⟩
  rw [loopW,hs j (by omega),List.range'_succ,List.any_cons]
  cases hq:q j with
  |true=>exact⟨_,rfl⟩
  |false=>exact Q5 hs he k (j+1) m (by omega) (by omega) (by omega)
theorem am9{w:aF}(hw:wt w≤13000000){p:Nat}(hp:p<w.gPackages.length):(aW w.gPackages p).gDeps.length≤13000000:=by
 have:=aF.wt_eq w
 have:=b7 w.gPackages p hp
 have:=aJ.wt_eq (aW w.gPackages p)
 have:=aY (aW w.gPackages p).gDeps
 omega
section
variable {fu:Nat} (hf:13000002≤fu) {w:aF} (hw:wt w≤13000000) {p:Nat} (hp:p<w.gPackages.length)
include hf hw hp
theorem asF(i:Int)(x2:Bool)(A:List eV)(hA:A.length=p)(k:Nat)(v:List Int)(hv:v.length+1≤68719476736):
 ∃d,xI fu w i x2 A (p:Int) k v=some (.inr (v++(bif rQ w p A k then [((k:Nat):Int)] else []),d)):=by
 have hd:=am9 hw hp
 have h:=Q5 (F:=nC fu w i x2 A (p:Int) k v) (q:=fun j=>J1 w p (aW (aW w.gPackages p).gDeps j)&&RT (aW A (CH w (aW (aW w.gPackages p).gDeps j)).toNat) ((k:Nat):Int)) (n:=(aW w.gPackages p).gDeps.length) (v:=v) (x:=((k:Nat):Int)) (fun j hj=>by
  unfold nC
  refine xC ⟨by omega,by omega⟩ (zZ rfl (iG (decide_eq_true (by show((j:Nat):Int)<((aW w.gPackages p).gDeps.length:Int);omega)) (xC ⟨by omega,by show j<(aW w.gPackages p).gDeps.length;omega⟩ ?_)))
  show bd (oY fu w (aW (aW w.gPackages p).gDeps j)) _=_
  generalize aW (aW w.gPackages p).gDeps j=s
  refine jB (apJ fu w s) ?_
  unfold J1
  by_cases h1:CH w s≥0
  ·by_cases h2:CH w s<((p:Nat):Int)
   ·rw [decide_eq_true h1,decide_eq_true h2]
    refine iG rfl (iG rfl (xC ⟨h1,by omega⟩ (jB (U3 fu _ _) ?_)))
    cases RT (aW A (CH w s).toNat) ((k:Nat):Int) with
    |true=>exact iG rfl (xC hv rfl)
    |false=>exact hY rfl rfl
   ·rw [decide_eq_true h1,decide_eq_false h2]
    exact iG rfl (hY rfl rfl)
  ·rw [decide_eq_false h1]
   exact hY rfl rfl) (by
  unfold nC
  exact xC ⟨by omega,by omega⟩ (zZ rfl (hY (decide_eq_false (by show ¬(((aW w.gPackages p).gDeps.length:Nat):Int)<((aW w.gPackages p).gDeps.length:Int);omega)) rfl))) _ 0 fu rfl (Nat.zero_le _) (by omega)
 obtain⟨d,h⟩:=h
 refine⟨d,?_⟩
 rw [XW (fun s=>J1 w p s&&RT (aW A (CH w s).toNat) ((k:Nat):Int)) _ _ 0 rfl,List.drop_zero] at h
 exact h
theorem asE(i:Int)(x2:Bool)(A:List eV)(hA:A.length=p):rZ fu w i x2 A (p:Int)=some (.inr ((List.range' 0 p).flatMap fun k=>bif rQ w p A k then [((k:Nat):Int)] else [])):=by
 have hl:=aF.len_wt hw
 have hlen: ∀k j,((List.range' j k).flatMap fun k=>bif rQ w p A k then [((k:Nat):Int)] else []).length≤k:=fun k=>by
  induction k with
  |zero=>intro j;simp
  |succ k ih=>
   intro j
   rw [List.range'_succ,List.flatMap_cons,List.length_append]
   have:=ih (j+1)
   have:(bif rQ w p A j then [((j:Nat):Int)] else []).length≤1:=by cases rQ w p A j<;>simp
   omega
 have h:=UJ (F:=rY fu w i x2 A (p:Int)) (g:=fun k=>bif rQ w p A k then [((k:Nat):Int)] else []) (n:=p) (M:=68719476735) (fun k v hk hv=>by
  obtain⟨d,h⟩:=asF hf hw hp i x2 A hA k v (by omega)
  unfold rY
  exact soR h rfl) p 0 [] (by omega) (by
  have:=hlen p 0
  rw [List.length_nil]
  omega)
 unfold rZ
 rw [Int.toNat_natCast]
 exact h
end
theorem anY(w:aF)(p:Nat)(A:List eV):(WT w p A).length≤p+1:=by
 have hlen: ∀k j,((List.range' j k).flatMap fun k=>bif rQ w p A k then [((k:Nat):Int)] else []).length≤k:=fun k=>by
  induction k with
  |zero=>intro j;simp
  |succ k ih=>
   intro j
   rw [List.range'_succ,List.flatMap_cons,List.length_append]
   have:=ih (j+1)
   have:(bif rQ w p A j then [((j:Nat):Int)] else []).length≤1:=by cases rQ w p A j<;>simp
   omega
 unfold WT
 rw [List.length_append,List.length_singleton]
 have:=hlen p 0
 omega
def sG(w:aF)(i:Int):List Int:=if 0≤i∧i<((w.gPackages.length:Nat):Int) then WT w i.toNat (BU w i.toNat) else []
theorem ap7{fu:Nat}(hf:13000002≤fu){w:aF}(hw:wt w≤13000000){i:Nat}(hi:i<w.gPackages.length)(x2:Bool): ∀k p m,i+1-p=k→p≤i+1→k<m→loopW (jH fu w (i:Int) x2) m (BU w p,((p:Nat):Int))=some (.inr (BU w (i+1),((i+1:Nat):Int)))
 |0,p,m,hk,hp,hm=>by
  obtain⟨m,rfl⟩: ∃n,m=n+1:=⟨m-1,by omega⟩
  obtain rfl:p=i+1:=by omega
  rw [loopW]
  have e:jH fu w (i:Int) x2 (BU w (i+1),((i+1:Nat):Int))=some (.brk (BU w (i+1),((i+1:Nat):Int))):=by
   unfold jH
   exact hY (decide_eq_false (by omega)) rfl
  rw [e]
 |k+1,p,m,hk,hp,hm=>by
  obtain⟨m,rfl⟩: ∃n,m=n+1:=⟨m-1,by omega⟩
  have hl:=aF.len_wt hw
  have ha:=LS w p
  have hr:=anY w p (BU w p)
  unfold WT at hr
  rw [List.length_append,List.length_singleton] at hr
  have e:jH fu w (i:Int) x2 (BU w p,((p:Nat):Int))=some (.next (BU w (p+1),((p+1:Nat):Int))):=by
   unfold jH
   refine iG (decide_eq_true (by omega)) (soR (asE hf hw (by omega) (i:Int) x2 (BU w p) ha) (xC (by rw [List.length_singleton];omega) (xC (by rw [List.length_singleton];omega) ?_)))
   rw [rN (by omega) (by omega)]
   rfl
  rw [loopW,e]
  exact ap7 hf hw hi x2 k (p+1) m (by omega) (by omega) (by omega)
theorem apL{fu:Nat}(hf:13000002≤fu){w:aF}(hw:wt w≤13000000)(i:Int):tB fu w i=some (sG w i):=by
 have hl:=aF.len_wt hw
 have e1:rG fu i 0 (aQ (((w.gPackages.length:Nat):Int)-1))=some (decide (0≤i∧i<((w.gPackages.length:Nat):Int))):=by
  unfold rG
  rw [rN (by omega) (by omega)]
  by_cases h:i≥0
  ·refine iG (decide_eq_true h) (congrArg some ?_)
   by_cases h':i≤((w.gPackages.length:Nat):Int)-1
   ·rw [decide_eq_true h',decide_eq_true (by omega)]
   ·rw [decide_eq_false h',decide_eq_false (by omega)]
  ·exact hY (decide_eq_false h) (by rw [decide_eq_false (by omega)])
 unfold tB sG
 refine jB e1 ?_
 by_cases h:0≤i∧i<((w.gPackages.length:Nat):Int)
 ·rw [if_pos h,decide_eq_true h]
  obtain⟨n,rfl⟩: ∃n:Nat,i=(n:Int):=⟨i.toNat,by omega⟩
  refine hY rfl (soR (ap7 hf hw (by omega:n<w.gPackages.length) true (n+1) 0 fu (by omega) (by omega) (by omega)) (xC ⟨by omega,by rw [LS];omega⟩ ?_))
  rw [Int.toNat_natCast,SY w (Nat.lt_succ_self n)]
 ·rw [if_neg h,decide_eq_false h]
  exact iG rfl rfl
theorem apM(w:aF)(i:Int)(hw:wt w≤13000000):b4 Tryz.prog 185 [(aF.pv w),pI i] (rI (sG w i)):=IQ 13000002 w i _ (apL (Nat.le_refl _) hw i)
def A2(w:aF)(p:Nat):List Nat:=(aW w.gPackages p).gDeps.flatMap fun s=>bif J1 w p s then [(CH w s).toNat] else []
theorem C4{w:aF}{p j:Nat}:j∈A2 w p↔ ∃s∈(aW w.gPackages p).gDeps,J1 w p s=true∧(CH w s).toNat=j:=by
 unfold A2
 rw [List.mem_flatMap]
 constructor
 ·rintro⟨s,hs,h⟩
  refine⟨s,hs,?_⟩
  cases hd:J1 w p s with
  |true=>rw [hd] at h;exact⟨rfl,(List.mem_singleton.1 h).symm⟩
  |false=>rw [hd] at h;cases h
 ·rintro⟨s,hs,hd,rfl⟩
  exact⟨s,hs,by rw [hd];exact List.mem_singleton.2 rfl⟩
theorem uR{w:aF}{p j:Nat}(h:j∈A2 w p):j<p:=by
 obtain⟨s,-,hd,rfl⟩:=C4.1 h
 unfold J1 at hd
 rw [Bool.and_eq_true,decide_eq_true_eq,decide_eq_true_eq] at hd
 omega
inductive Rch (w:aF):Nat→Nat→Prop
 |self (p:Nat):Rch w p p
 |dep {p j k:Nat}:j∈A2 w p→Rch w j k→Rch w p k
theorem Rch.snoc{w:aF}{p k j:Nat}(h:Rch w p k)(hj:j∈A2 w k):Rch w p j:=by
 induction h with
 |self p=>exact .dep hj (.self j)
 |dep h1 _ ih=>exact .dep h1 (ih hj)
theorem Rch.le{w:aF}{p k:Nat}(h:Rch w p k):k≤p:=by
 induction h with
 |self p=>exact Nat.le_refl _
 |dep h1 _ ih=>exact Nat.le_trans ih (Nat.le_of_lt (uR h1))
theorem ac6{w:aF}{p:Nat}{A:List eV}{k:Nat}:((k:Nat):Int)∈WT w p A↔(k<p∧rQ w p A k=true)∨k=p:=by
 unfold WT
 rw [List.mem_append,List.mem_flatMap,List.mem_singleton]
 constructor
 ·rintro(⟨j,hj,h⟩|h)
  ·rw [List.mem_range'_1] at hj
   cases hq:rQ w p A j with
   |true=>
    rw [hq] at h
    have h:=List.mem_singleton.1 h
    obtain rfl:k=j:=by omega
    exact .inl ⟨by omega,hq⟩
   |false=>rw [hq] at h;cases h
  ·exact .inr (by omega)
 ·rintro(⟨h1,h2⟩|rfl)
  ·exact .inl ⟨k,by rw [List.mem_range'_1];omega,by rw [h2];exact List.mem_singleton.2 rfl⟩
  ·exact .inr rfl
theorem UP{w:aF}: ∀(N p:Nat),p<N→ ∀k,((k:Nat):Int)∈WT w p (BU w p)↔Rch w p k
 |0,p,h,_=>by omega
 |N+1,p,h,k=>by
  have key:rQ w p (BU w p) k=true↔ ∃j∈A2 w p,Rch w j k:=by
   unfold rQ
   rw [List.any_eq_true]
   constructor
   ·rintro⟨s,hs,h1⟩
    rw [Bool.and_eq_true] at h1
    have hj:(CH w s).toNat∈A2 w p:=C4.2 ⟨s,hs,h1.1,rfl⟩
    have hl:=uR hj
    have h2:=acN.1 h1.2
    rw [SY w hl] at h2
    exact⟨_,hj,(UP N _ (by omega) k).1 h2⟩
   ·rintro⟨j,hj,hr⟩
    have hl:=uR hj
    obtain⟨s,hs,hd,rfl⟩:=C4.1 hj
    refine⟨s,hs,?_⟩
    rw [Bool.and_eq_true]
    refine⟨hd,acN.2 ?_⟩
    rw [SY w hl]
    exact(UP N _ (by omega) k).2 hr
  rw [ac6,key]
  constructor
  ·rintro(⟨-,j,hj,hr⟩|rfl)
   ·exact .dep hj hr
   ·exact .self _
  ·intro hr
   cases hr with
   |self=>exact .inr rfl
   |dep hj hr=>
    have:=hr.le
    have:=uR hj
    exact .inl ⟨by omega,_,hj,hr⟩
def EO(w:aF)(k:Nat)(v:List Bool)(s:ByteArray):List Bool:=bif J1 w k s then v.set (CH w s).toNat true else v
theorem YB(w:aF)(k:Nat): ∀(l:LB) (v:List Bool),(l.foldl (EO w k) v).length=v.length
 | [],v=>rfl
 |s::l,v=>by
  rw [List.foldl_cons,YB w k l]
  unfold EO
  cases J1 w k s<;>simp
theorem an3(v:List Bool)(j m:Nat)(hm:m<v.length):aW (v.set j true) m=(decide (j=m)||aW v m):=by
 rw [gE (by simpa using hm),gE hm,List.getElem_set]
 by_cases h:j=m
 ·rw [if_pos h,decide_eq_true h,Bool.true_or]
 ·rw [if_neg h,decide_eq_false h,Bool.false_or]
theorem ac2(w:aF)(k:Nat): ∀(l:LB) (v:List Bool) (m:Nat),m<v.length→aW (l.foldl (EO w k) v) m=(aW v m||l.any fun s=>J1 w k s&&decide ((CH w s).toNat=m))
 | [],v,m,_=>by simp
 |s::l,v,m,hm=>by
  have hl:(EO w k v s).length=v.length:=by unfold EO;cases J1 w k s<;>simp
  rw [List.foldl_cons,ac2 w k l _ m (by omega),List.any_cons,← Bool.or_assoc]
  congr 1
  unfold EO
  cases J1 w k s with
  |true=>rw [cond_true,an3 v _ m hm,Bool.true_and,Bool.or_comm]
  |false=>rw [cond_false,Bool.false_and,Bool.or_false]
def yS(w:aF)(i:Nat)(k:Nat)(v:List Bool):Prop:=v.length=i+1∧aW v i=true∧(∀m,m≤i→aW v m=true→Rch w i m)∧ ∀m,k≤m→m≤i→aW v m=true→ ∀j∈A2 w m,aW v j=true
section
variable {w:aF} {i:Nat}
theorem yS.skip{k:Nat}{v:List Bool}(h:yS w i (k+1) v)(hk:aW v k=false):yS w i k v:=by
 refine⟨h.1,h.2.1,h.2.2.1,fun m h1 h2 h3=>?_⟩
 by_cases e:m=k
 ·subst e
  rw [hk] at h3
  cases h3
 ·exact h.2.2.2 m (by omega) h2 h3
theorem yS.mark{k:Nat}{v:List Bool}(h:yS w i (k+1) v)(hki:k≤i)(hk:aW v k=true):yS w i k ((aW w.gPackages k).gDeps.foldl (EO w k) v):=by
 obtain⟨h1,h2,h3,h4⟩:=h
 have hl:=YB w k (aW w.gPackages k).gDeps v
 have ha:=fun m (hm:m≤i)=>ac2 w k (aW w.gPackages k).gDeps v m (by omega)
 have hd: ∀m,((aW w.gPackages k).gDeps.any fun s=>J1 w k s&&decide ((CH w s).toNat=m))=true↔m∈A2 w k:=fun m=>by
  rw [List.any_eq_true,C4]
  constructor
  ·rintro⟨s,hs,h⟩
   rw [Bool.and_eq_true,decide_eq_true_eq] at h
   exact⟨s,hs,h⟩
  ·rintro⟨s,hs,h5,h6⟩
   exact⟨s,hs,by rw [h5,decide_eq_true h6];rfl⟩
 have hm: ∀m,m≤i→(aW ((aW w.gPackages k).gDeps.foldl (EO w k) v) m=true↔aW v m=true∨m∈A2 w k):=fun m hm=>by rw [ha m hm,Bool.or_eq_true,hd]
 refine⟨by omega,(hm i (Nat.le_refl _)).2 (.inl h2),fun m h5 h6=>?_,fun m h5 h6 h7 j hj=>?_⟩
 ·rcases(hm m h5).1 h6 with h7|h7
  ·exact h3 m h5 h7
  ·exact(h3 k hki hk).snoc h7
 ·have hjm:=uR hj
  refine(hm j (by omega)).2 ?_
  rcases(hm m h6).1 h7 with h8|h8
  ·by_cases e:m=k
   ·subst e
    exact .inr hj
   ·exact .inl (h4 m (by omega) h6 h8 j hj)
  ·have:=uR h8
   omega
theorem yS.all{v:List Bool}(h:yS w i 0 v): ∀ {p m:Nat},Rch w p m→p≤i→aW v p=true→aW v m=true:=fun {p m} hr=>by
 induction hr with
 |self p=>exact fun _ h=>h
 |dep hj _ ih=>exact fun h1 h2=>ih (by have:=uR hj;omega) (h.2.2.2 _ (Nat.zero_le _) h1 h2 _ hj)
end
theorem TZ{α β:Type}{f g:α→List β}: ∀ {l:List α},(∀x∈l,f x=g x)→l.flatMap f=l.flatMap g
 | [],_=>rfl
 |x::l,h=>by rw [List.flatMap_cons,List.flatMap_cons,h x (by simp),TZ (l:=l) fun y hy=>h y (List.mem_cons_of_mem _ hy)]
theorem loopN_map'{β:Type}{F:Nat→List Int→Option (LR (List Int) β)}{q:Nat→Bool}{n:Nat}(hs: ∀j v,j<n→v.length+1≤68719476736→F j v=some (.next (v++(bif q j then [((j:Nat):Int)] else [])))):
 ∀k j (v:List Int),n-j=k→v.length+k≤68719476736→loopN F k j v=some (.inr (v++(List.range' j k).flatMap fun j=>bif q j then [((j:Nat):Int)] else []))
 |0,j,v,hk,_=>by rw [loopN];simp
 |k+1,j,v,hk,hl=>by
  rw [loopN,hs j v (by omega) (by omega)]
  have h1:(bif q j then [((j:Nat):Int)] else []).length≤1:=by cases q j<;>simp
  have h:=loopN_map' hs k (j+1) (v++(bif q j then [((j:Nat):Int)] else [])) (by omega) (by rw [List.length_append];omega)
  rw [List.range'_succ,List.flatMap_cons,← List.append_assoc]
  exact h
theorem ar0(fu:Nat){w:aF}{i k:Nat}(hki:k≤i)(hi:i≤13000000)(v:List Bool)(hv:v.length=i+1)(v7:List Bool):
 rW fu w (i:Int) v (k:Int) (aW w.gPackages k)=some (.inr ((aW w.gPackages k).gDeps.foldl (EO w k) v)):=by
 unfold rW
 refine FU (l:=(aW w.gPackages k).gDeps) (g:=EO w k) (fun _ u=>u.length=i+1) (fun j u hj hu=>?_) hv
 unfold xD
 generalize aW (aW w.gPackages k).gDeps j=s
 rw [ao8]
 unfold EO J1
 rw [rN (by omega) (by omega)]
 by_cases h1:CH w s≥0
 ·by_cases h2:CH w s<((k:Nat):Int)
  ·rw [decide_eq_true h1,decide_eq_true h2]
   refine⟨jB rfl (iG (decide_eq_true h1) (iG (decide_eq_true h2) (xC ⟨h1,by omega⟩ (xC (by omega) rfl)))),?_⟩
   show(u.set _ true).length=_
   rw [List.length_set]
   exact hu
  ·rw [decide_eq_true h1,decide_eq_false h2]
   exact⟨jB rfl (iG (decide_eq_true h1) (hY (decide_eq_false h2) rfl)),hu⟩
 ·rw [decide_eq_false h1]
  exact⟨jB rfl (hY (decide_eq_false h1) rfl),hu⟩
theorem anI{fu:Nat}{w:aF}(hw:wt w≤13000000){i:Nat}(hi:i<w.gPackages.length): ∀(k m:Nat) (v:List Bool),k≤i+1→k<m→yS w i k v→ ∃v',yS w i 0 v'∧loopW (gB fu w (i:Int)) m (v,((k:Nat):Int)-1)=some (.inr (v',-1))
 |0,m,v,hk,hm,hv=>by
  obtain⟨m,rfl⟩: ∃n,m=n+1:=⟨m-1,by omega⟩
  refine⟨v,hv,?_⟩
  have e:gB fu w (i:Int) (v,((0:Nat):Int)-1)=some (.brk (v,-1)):=by
   unfold gB
   exact hY (decide_eq_false (by omega)) rfl
  rw [loopW,e]
 |k+1,m,v,hk,hm,hv=>by
  obtain⟨m,rfl⟩: ∃n,m=n+1:=⟨m-1,by omega⟩
  have hl:=aF.len_wt hw
  have hlen:=hv.1
  have e0:((k+1:Nat):Int)-1=((k:Nat):Int):=by omega
  rw [e0,loopW]
  cases hq:aW v k with
  |false=>
   have e:gB fu w (i:Int) (v,((k:Nat):Int))=some (.next (v,((k:Nat):Int)-1)):=by
    unfold gB
    have w1:aQ (((k:Nat):Int)-1)=((k:Nat):Int)-1:=rN (by omega) (by omega)
    rw [rN (x:=((i:Nat):Int)+1) (by omega) (by omega)]
    refine iG (decide_eq_true (by omega)) (xC ⟨by omega,by omega⟩ (xC (by rw [Int.toNat_natCast];omega) (iG ?_ (by rw [w1]))))
    rw [Int.toNat_natCast,hq]
    rfl
   rw [e]
   exact anI hw hi k m v (by omega) (by omega) (hv.skip hq)
  |true=>
   have e:gB fu w (i:Int) (v,((k:Nat):Int))=some (.next ((aW w.gPackages k).gDeps.foldl (EO w k) v,((k:Nat):Int)-1)):=by
    unfold gB
    have w1:aQ (((k:Nat):Int)-1)=((k:Nat):Int)-1:=rN (by omega) (by omega)
    rw [rN (x:=((i:Nat):Int)+1) (by omega) (by omega)]
    refine iG (decide_eq_true (by omega)) (xC ⟨by omega,by omega⟩ (xC (by rw [Int.toNat_natCast];omega) (hY ?_ (xC ⟨by omega,by omega⟩ (zZ rfl ?_)))))
    ·rw [Int.toNat_natCast,hq]
     rfl
    ·exact soR (ar0 fu (by omega) (by omega) v hlen v) (by rw [w1])
   rw [e]
   exact anI hw hi k m _ (by omega) (by omega) (hv.mark (by omega) hq)
theorem apA{fu:Nat}(hf:13000002≤fu){w:aF}(hw:wt w≤13000000)(i:Int):sS fu w i=some (sG w i):=by
 have hl:=aF.len_wt hw
 unfold sS sG
 by_cases h1:i<0
 ·rw [if_neg (by omega)]
  exact iG (decide_eq_true h1) rfl
 by_cases h2:i≥((w.gPackages.length:Nat):Int)
 ·rw [if_neg (by omega)]
  exact hY (decide_eq_false h1) (iG (decide_eq_true h2) rfl)
 rw [if_pos (by omega)]
 obtain⟨n,rfl⟩: ∃n:Nat,i=(n:Int):=⟨i.toNat,by omega⟩
 have hn:n<w.gPackages.length:=by omega
 have e0:aQ (((n:Nat):Int)+1)=((n+1:Nat):Int):=by rw [rN (by omega) (by omega)];rfl
 have hr:(List.replicate (n+1) false).length=n+1:=by simp
 have hs: ∀m,m<n+1→aW ((List.replicate (n+1) false).set n true) m=decide (n=m):=fun m hm=>by
  rw [an3 _ n m (by rw [hr];exact hm)]
  have:aW (List.replicate (n+1) false) m=false:=by rw [gE (by rw [hr];exact hm)];simp
  rw [this,Bool.or_false]
 have h0:yS w n (n+1) ((List.replicate (n+1) false).set n true):=by
  refine⟨by rw [List.length_set,hr],by rw [hs n (by omega)];exact decide_eq_true rfl,fun m h3 h4=>?_,fun m h3 h4=>by omega⟩
  rw [hs m (by omega),decide_eq_true_eq] at h4
  subst h4
  exact .self _
 obtain⟨v,hv,hloop⟩:=anI (fu:=fu) hw hn (n+1) fu _ (Nat.le_refl _) (by omega) h0
 have hvl:=hv.1
 have hR1:rV fu w (n:Int)=some (.inr (v,-1)):=by
  unfold rV
  rw [e0,Int.toNat_natCast,Int.toNat_natCast]
  rw [show(((n+1:Nat):Int)-1)=(n:Int) from by omega] at hloop
  exact hloop
 refine hY (decide_eq_false h1) (hY (decide_eq_false h2) (xC ⟨by omega,by omega⟩ (xC ⟨by omega,by omega⟩ (xC (by rw [e0,Int.toNat_natCast,Int.toNat_natCast,hr];omega) (soR hR1 (xC (by omega) ?_))))))
 have hflat:=loopN_map' (F:=rT fu w (n:Int) v (-1)) (q:=fun k=>aW v k) (n:=n+1) (fun k u hk hu=>by
  unfold rT
  rw [e0,Int.toNat_natCast]
  refine xC hk (xC (by omega) ?_)
  cases aW v k with
  |true=>exact iG rfl (xC hu rfl)
  |false=>exact hY rfl (by simp)) (n+1) 0 [] (by omega) (by rw [List.length_nil];omega)
 unfold xE
 rw [e0,Int.toNat_natCast]
 refine soR hflat ?_
 rw [Int.toNat_natCast,List.nil_append]
 congr 1
 unfold WT
 rw [List.range'_concat,List.flatMap_append]
 have e3:aW v (0+1*n)=true:=by rw [Nat.zero_add,Nat.one_mul];exact hv.2.1
 congr 1
 ·refine TZ fun k hk=>?_
  rw [List.mem_range'_1] at hk
  have hk2:(aW v k=true)↔Rch w n k:=⟨hv.2.2.1 k (by omega),fun hr=>hv.all hr (Nat.le_refl _) hv.2.1⟩
  have hk3:rQ w n (BU w n) k=true↔Rch w n k:=by
   rw [← UP (n+1) n (by omega) k,ac6]
   constructor
   ·exact fun h=> .inl ⟨by omega,h⟩
   ·rintro(h|h)
    ·exact h.2
    ·omega
  have:aW v k=rQ w n (BU w n) k:=by rw [Bool.eq_iff_iff,hk2,hk3]
  rw [this]
 ·simp [e3]
  have:=hv.2.1
  simp [this]
theorem apB(w:aF)(i:Int)(hw:wt w≤13000000):b4 Tryz.prog 149 [(aF.pv w),pI i] (rI (sG w i)):=HP 13000002 w i _ (apA (Nat.le_refl _) hw i)
end Go.Proofs.YtpioomclpaiomaaGreat.W

namespace Go.Proofs.YtpioomclpaiomaaGreat.W
set_option maxRecDepth 100000
set_option maxHeartbeats 40000000
noncomputable section
open Tryz Go.RowKit Go.Proofs
attribute [local irreducible] lt
def ZY(m:aF→Int→Int→Option Bool):Prop:= ∀(pw:aF) (pi:Int) (pk:Int) (r:Bool),m pw pi pk=some r→b4 Tryz.prog 156 [(aF.pv pw),pI pi,pI pk] (pB r:PV)
def n7(fu:Nat)(pw:aF)(pi pk:Int):Option Bool:=
 gd (wt pw≤13000000)
 (bd (wH fu (sG pw pi) pk) (fun x3=>
 some x3))
theorem vO(fu:Nat):ZY (n7 fu):=by
 intro pw pi pk r H
 have H:=eE H
 refine qI func156 (fun C hC=>?_)
 refine qW (q1 (iM ([aN pw.gPackages])) (q1 aE (qN (qW (q1 (cJ [aN pw.gPackages] hZ) (q1 aE (dK H fun z1 H=>(q1 (bG func185 (apM pw pi z1)) (q1 aE (bI H fun x3 z2 H=>(q1 (bG func184 (NJ fu (sG pw pi) pk _ z2)) ?_)))))))))))
 refine q1 aE (qZ ?_)
 cases aX H
 exact bE
def ae9(m:aF→Int→ByteArray→Option (aP×Bool)):Prop:= ∀(pw:aF) (pi:Int) (pname:ByteArray) (r:aP×Bool),m pw pi pname=some r→b4 Tryz.prog 110 [(aF.pv pw),pI pi,pS pname] (.tup [(aP.pv r.1),pB r.2]:PV)
def qG(fu:Nat)(pw:aF)(pi:Int)(pname:ByteArray):Option (aP×Bool):=
 bd (vT fu pw pname) (fun(x2,x3,x4)=>
 sw (x4)
 (bd (n7 fu pw pi x3) (fun x7=>
 some (x2,x7)))
 (some (x2,false)))
theorem yE(fu:Nat):ae9 (qG fu):=by
 intro pw pi pname r H
 have H:=eE H
 refine qI func110 (fun C hC=>?_)
 refine qW (q1 (iM ([aN pw.gPackages])) (q1 (fO r3) (q1 aE (qN (qW (q1 (cJ [aN pw.gPackages] hZ) (q1 aE (FA H fun x2 x3 x4 z1 H=>(q1 (bG func79 (VL fu pw pname _ z1)) (q1 aE ?_))))))))))
 iterate 3 refine q1 AK ?_
 refine q1 (fO r3) (q1 (bR pL) ?_)
 iterate 2 refine q1 aE ?_
 refine qN (qS ?_)
 rcases mA (x4) with g5|g5
 ·have H:=sE H g5
  refine bI H fun x7 z6 H=>(dW (dD [8] (cJ [pS x2.gName,rS x2.gSupertraits,pB x2.gAuto,pB x2.gAssoc,c4 x2.gSignatures] l9) (dI [10] aE (dI [19] aE (dD (hg:=a6 g5) [3] (cJ [aN pw.gPackages] hZ) (dI (hg:=a6 g5) [1] aE (dI (hg:=a6 g5) [9] aE (dI (hg:=a6 g5) [21,22,23] (bG func156 (vO fu pw pi x3 _ z6)) (dI [20,24] (bV g5) (lH [6,18] (bR pL) (dI [25] aE (dN (aR.ret ?_)))))))))))))
  cases aX H
  exact tT (hr:=⟨⟨_,_,_,rfl,rfl,l9,rfl,rfl⟩,rfl,trivial⟩)
 have H:=sD H g5
 refine dW (dD [8] (cJ [pS x2.gName,rS x2.gSupertraits,pB x2.gAuto,pB x2.gAssoc,c4 x2.gSignatures] l9) (dI [10] aE (dI [19] aE ?_)))
 iterate 4 refine FE g5 ?_
 refine dI [20] (b9 g5) (lH [6,18] (bR pL) (dI [25] aE (dN (aR.ret ?_))))
 cases aX H
 exact tT (hr:=⟨⟨_,_,_,rfl,rfl,l9,rfl,rfl⟩,rfl,trivial⟩)
def ZX(m:aP→Option Bool):Prop:= ∀(pt:aP) (r:Bool),m pt=some r→b4 Tryz.prog 182 [(aP.pv pt)] (pB r:PV)
def I6(fu:Nat)(pt:aP)(i1:Nat)(y4:aC)(x7:Bool):Nat→Unit→Option (LR Unit (LR Unit Bool)):=
 fun i9 _=>bd (qB fu dH (aW y4.gParams i9)) (fun x13=>
 sw (x13)
 (some (.ret (.ret false)))
 (some (.next ())))
def I8(fu:Nat)(pt:aP)(i1:Nat)(y4:aC)(x7:Bool):Option ((LR Unit Bool)⊕Unit):=
 loopN (I6 fu pt i1 y4 x7) (y4.gParams.length-0) 0 ()
def I5(fu:Nat)(pt:aP):Nat→Unit→Option (LR Unit Bool):=
 fun i1 _=>lt (aW pt.gSignatures i1) (fun y4=>
 bd (qB fu dH y4.gResult) (fun x7=>
 sw (x7)
 (some (.ret false))
 (so (I8 fu pt i1 y4 x7) (fun _=>
 some (.next ())))))
def I7(fu:Nat)(pt:aP):Option (Bool⊕Unit):=
 loopN (I5 fu pt) (pt.gSignatures.length-0) 0 ()
def yA(fu:Nat)(pt:aP):Option Bool:=
 so (I7 fu pt) (fun _=>
 some (!(pt.gAssoc)))
theorem W4(fu:Nat):ZX (yA fu):=by
 intro pt r H
 have H:=eE H
 refine qI func182 (fun C hC=>?_)
 refine qW (q1 (iM (nH pt)) (q1 aE (qN ?_)))
 refine qS (qS (qR (q1 aE (qN ?_))))
 refine aR.fact (b5 0 4 rfl rfl rfl (aC.trs_len _)) (fun hl2=>?_)
 refine b0 (σ:=Unit) (fun i1 _=>⟨[(1,.ptr 0 0),(2,pB false),(3,pN i1)],⟨[some ⟨60,nH pt⟩],[]⟩⟩) (fun _=>⟨[(1,.ptr 0 0),(2,pB false)],⟨[some ⟨60,nH pt⟩],[]⟩⟩) (fK H) ?_ ?_
 ·rintro i1 ⟨⟩ H
  refine qS (qS (qR (q1 aE (q1 (a5 iV) (q1 (bD w9) (q1 (dL pT (aC.trs_len _)) (q1 gI (qN ?_))))))))
  refine dG H (fun h3 h3l H=>?_) (fun h3 H=>?_)
  ·have h3n:=a4 h3
   refine aR.skip (qS (aR.block ?_))
   refine qS (qS (qR (q1 (a5 iV) (q1 (bD w9) (q1 aE (fP H fun y4 h5 H=>(q1 (m9 h5 h3n pT) (q1 (lR GS) (q1 (kM (aB.cs y4.gResult) cU) (bI H fun x7 z6 H=>(q1 (bG func200 (DX fu dH y4.gResult _ z6)) (qN ?_))))))))))))
   refine a8 H (fun h8 H=>?_) (fun h8 H=>?_)
   ·refine qW (q1 aE (qZ ?_))
    obtain rfl:_=r:=(mT (aX H):)
    exact bE
   refine aR.skip (qW (q1 aE (qN ?_)))
   refine b0 (σ:=Unit) (fun i9 _=>⟨[(1,.ptr 0 0),(2,pB false),(3,pN i1),(4,pN i9),(5,pN i1),(6,.ptr 0 4),(7,c4 pt.gSignatures),(8,pN pt.gSignatures.length),(9,pB (decide ((i1:Int)<(pt.gSignatures.length:Int)))),(12,.ptr 0 4),(13,c4 pt.gSignatures),(14,pN i1),(15,.eptr (aC.cs y4)),(16,.eptr ((aC.cs y4).drop 2)),(17,(aB.pv y4.gResult)),(18,pB x7)],⟨[some ⟨60,nH pt⟩],[]⟩⟩) (fun _=>⟨[(1,.ptr 0 0),(2,pB false),(3,pN i1),(5,pN i1),(6,.ptr 0 4),(7,c4 pt.gSignatures),(8,pN pt.gSignatures.length),(9,pB (decide ((i1:Int)<(pt.gSignatures.length:Int)))),(12,.ptr 0 4),(13,c4 pt.gSignatures),(14,pN i1),(15,.eptr (aC.cs y4)),(16,.eptr ((aC.cs y4).drop 2)),(17,(aB.pv y4.gResult)),(18,pB x7)],⟨[some ⟨60,nH pt⟩],[]⟩⟩) (fK H) ?_ ?_
   ·rintro i9 ⟨⟩ H
    refine qS (qS (qR (q1 aE (q1 (a5 iV) (q1 (bD w9) (q1 aE (q1 (m9 h5 h3n pT) (q1 (lR xP) (q1 (kQ kY) ?_)))))))))
    refine FS 25 (aB.trs_len _) (fun hl10=>?_)
    refine q1 (dL eU (aB.trs_len _)) (q1 gI (qN ?_))
    refine dG H (fun h11 h11l H=>?_) (fun h11 H=>?_)
    ·have h11n:=a4 h11
     refine aR.skip (qS (aR.block (qW (q1 (a5 iV) (q1 (bD w9) (q1 aE (q1 (m9 h5 h3n pT) (q1 (lR xP) (q1 (kQ kY) (q1 aE (q1 (kP h11n eU) (q1 (kM (aB.cs (aW y4.gParams i9)) cU) ?_))))))))))))
     refine bI H fun x13 z12 H=>(q1 (bG func200 (DX fu dH (aW y4.gParams i9) _ z12)) (qN ?_))
     refine a8 H (fun h14 H=>?_) (fun h14 H=>?_)
     ·refine qW (q1 aE (qZ ?_))
      obtain rfl:_=r:=(mT (AA (mT (aX H))):)
      exact bE
     refine aR.skip (qR (q1 aE (q1 (rA (i9+1)) (q1 aE (qN ?_)))))
     exact iI h11l ⟨_,(aX H:),bW⟩
    refine aR.exit ?_;exact jJ ⟨_,H,bW⟩
   rintro⟨⟩ H
   refine qR (q1 aE (q1 (rA (i1+1)) (q1 aE (qN ?_))))
   exact iI h3l ⟨_,(aX H:),bW⟩
  refine aR.exit ?_;exact jJ ⟨_,H,bW⟩
 rintro⟨⟩ H
 refine qW (q1 (a5 OG) (q1 (bD Z3) (q1 hQ (q1 aE (qZ ?_)))))
 cases aX H
 exact bE
def alZ(m:aF→Int→ByteArray→Option Int):Prop:= ∀(pw:aF) (pi:Int) (pname:ByteArray) (r:Int),m pw pi pname=some r→b4 Tryz.prog 152 [(aF.pv pw),pI pi,pS pname] (pI r:PV)
def CS(fu:Nat)(pw:aF)(pi:Int)(pname:ByteArray):Option Int:=
 bd (qG fu pw pi pname) (fun(x2,x3)=>
 sw (!(x3))
 (some 3)
 (bd (yA fu x2) (fun x6=>
 sw (!(x6))
 (some 5)
 (some 0))))
theorem VM(fu:Nat):alZ (CS fu):=by
 intro pw pi pname r H
 have H:=eE H
 refine qI func152 (fun C hC=>?_)
 refine qW (q1 (iM ([aN pw.gPackages])) (q1 aE (qN (qW (q1 (cJ [aN pw.gPackages] hZ) ?_)))))
 iterate 2 refine q1 aE ?_
 refine fZ H fun x2 x3 z1 H=>(q1 (bG func110 (yE fu pw pi pname _ z1)) (q1 aE ?_))
 iterate 2 refine q1 AK ?_
 refine q1 (fO r3) (q1 (bR pL) (q1 aE (qN ?_)))
 refine qS (qS (qR (q1 aE (q1 hQ (qN ?_)))))
 refine a8 H (fun h4 H=>?_) (fun h4 H=>?_)
 ·refine qW (q1 aE (qZ ?_))
  cases aX H
  exact bE
 refine aR.skip ?_
 refine qS (qS (qR (q1 (cJ [pS x2.gName,rS x2.gSupertraits,pB x2.gAuto,pB x2.gAssoc,c4 x2.gSignatures] l9) (bI H fun x6 z5 H=>(q1 (bG func182 (W4 fu x2 _ z5)) (q1 hQ (qN ?_)))))))
 refine a8 H (fun h7 H=>?_) (fun h7 H=>?_)
 ·refine qW (q1 aE (qZ ?_))
  cases aX H
  exact bE
 refine aR.skip (qW (q1 aE (qZ ?_)))
 cases aX H
 exact bE
def ah3(m:aF→Int→ByteArray→Option (aH×Bool)):Prop:= ∀(pw:aF) (pi:Int) (pname:ByteArray) (r:aH×Bool),m pw pi pname=some r→b4 Tryz.prog 154 [(aF.pv pw),pI pi,pS pname] (.tup [(aH.pv r.1),pB r.2]:PV)
def EA(fu:Nat)(pw:aF)(pi:Int)(pname:ByteArray):Option (aH×Bool):=
 bd (uI fu pw pname) (fun(x2,x3,x4)=>
 sw (x4)
 (bd (n7 fu pw pi x3) (fun x7=>
 some (x2,x7)))
 (some (x2,false)))
theorem ae6(fu:Nat):ah3 (EA fu):=by
 intro pw pi pname r H
 have H:=eE H
 refine qI func154 (fun C hC=>?_)
 refine qW (q1 (iM ([aN pw.gPackages])) (q1 (fO jF) (q1 aE (qN (qW (q1 (cJ [aN pw.gPackages] hZ) (q1 aE (FA H fun x2 x3 x4 z1 H=>(q1 (bG func173 (JH fu pw pname _ z1)) (q1 aE ?_))))))))))
 iterate 3 refine q1 AK ?_
 refine q1 (fO jF) (q1 (bR iH) ?_)
 iterate 2 refine q1 aE ?_
 refine qN (qS ?_)
 rcases mA (x4) with g5|g5
 ·have H:=sE H g5
  refine bI H fun x7 z6 H=>(dW (dD [8] (cJ [pS x2.gName,rS x2.gVars,bY x2.gConstructors] fI) (dI [10] aE (dI [19] aE (dD (hg:=a6 g5) [3] (cJ [aN pw.gPackages] hZ) (dI (hg:=a6 g5) [1] aE (dI (hg:=a6 g5) [9] aE (dI (hg:=a6 g5) [21,22,23] (bG func156 (vO fu pw pi x3 _ z6)) (dI [20,24] (bV g5) (lH [6,18] (bR iH) (dI [25] aE (dN (aR.ret ?_)))))))))))))
  cases aX H
  exact tT (hr:=⟨⟨_,_,_,rfl,rfl,fI,rfl,rfl⟩,rfl,trivial⟩)
 have H:=sD H g5
 refine dW (dD [8] (cJ [pS x2.gName,rS x2.gVars,bY x2.gConstructors] fI) (dI [10] aE (dI [19] aE ?_)))
 iterate 4 refine FE g5 ?_
 refine dI [20] (b9 g5) (lH [6,18] (bR iH) (dI [25] aE (dN (aR.ret ?_))))
 cases aX H
 exact tT (hr:=⟨⟨_,_,_,rfl,rfl,fI,rfl,rfl⟩,rfl,trivial⟩)
def ah5(m:aF→Int→aB→Option Int):Prop:= ∀(pw:aF) (pi:Int) (pt:aB) (r:Int),m pw pi pt=some r→b4 Tryz.prog 107 [(aF.pv pw),pI pi,(aB.pv pt)] (pI r:PV)
def EC(fu:Nat)(pw:aF)(pi:Int)(pt:aB):Option Int:=
 sw (decide (pt.gKind=1))
 (some 0)
 (sw (decide (pt.gKind=4))
 (bd (CS fu pw pi pt.gName) (fun x4=>
 some x4))
 (sw (decide (pt.gKind=3))
 (bd (qG fu pw pi pt.gName) (fun(x7,x8)=>
 sw (!(x8))
 (some 3)
 (sw (!(x7.gAssoc))
 (some 4)
 (some 0))))
 (sw (decide (pt.gKind=2))
 (bd (yN fu pt.gName) (fun x13=>
 sw (x13)
 (some 0)
 (bd (EA fu pw pi pt.gName) (fun(x16,x17)=>
 sw (!(x17))
 (some 1)
 (sw (!decide ((x16.gVars.length:Int)=(pt.gArgs.length:Int)))
 (some 2)
 (some 0))))))
 (some 1))))
theorem ae8(fu:Nat):ah5 (EC fu):=by
 intro pw pi pt r H
 have H:=eE H
 refine qI func107 (fun C hC=>?_)
 refine qW (q1 (iM ([aN pw.gPackages])) (q1 (iM (eD pt)) (q1 aE (qN ?_))))
 refine qS (qS (qR (q1 (a5 pF) (q1 (bD nT) (qN (aR.block (qW (q1 dM (q1 aE (qN ?_))))))))))
 refine a8 H (fun h1 H=>?_) (fun h1 H=>?_)
 ·refine qW (q1 aE (qZ ?_))
  cases aX H
  exact bE
 refine qW (q1 dM (q1 aE (qN ?_)))
 refine a8 H (fun h2 H=>?_) (fun h2 H=>?_)
 ·refine qW (q1 (cJ [aN pw.gPackages] hZ) (q1 aE (q1 (a5 kU) (q1 (bD eJ) (bI H fun x4 z3 H=>(q1 (bG func152 (VM fu pw pi pt.gName _ z3)) (q1 aE (qZ ?_))))))))
  cases aX H
  exact bE
 refine qW (q1 dM (q1 aE (qN ?_)))
 refine a8 H (fun h5 H=>?_) (fun h5 H=>?_)
 ·refine qW (q1 (cJ [aN pw.gPackages] hZ) (q1 aE (q1 (a5 kU) (q1 (bD eJ) (fZ H fun x7 x8 z6 H=>(q1 (bG func110 (yE fu pw pi pt.gName _ z6)) (q1 aE ?_)))))))
  iterate 2 refine q1 AK ?_
  refine q1 (fO r3) (q1 (bR pL) (q1 aE (qN ?_)))
  refine qS (qS (qR (q1 aE (q1 hQ (qN ?_)))))
  refine a8 H (fun h9 H=>?_) (fun h9 H=>?_)
  ·refine qW (q1 aE (qZ ?_))
   cases aX H
   exact bE
  refine aR.skip ?_
  refine qS (qS (qR (q1 (a5 OG) (q1 (bD Z3) (q1 hQ (qN ?_))))))
  refine a8 H (fun h10 H=>?_) (fun h10 H=>?_)
  ·refine qW (q1 aE (qZ ?_))
   cases aX H
   exact bE
  refine aR.skip (qW (q1 aE (qZ ?_)))
  cases aX H
  exact bE
 refine qW (q1 dM (q1 aE (qN ?_)))
 refine a8 H (fun h11 H=>?_) (fun h11 H=>?_)
 ·refine qS (qW (q1 (a5 kU) (q1 (bD eJ) (bI H fun x13 z12 H=>(q1 (bG func153 (LJ fu pt.gName _ z12)) (qN ?_))))))
  refine a8 H (fun h14 H=>?_) (fun h14 H=>?_)
  ·refine qW (q1 aE (qZ ?_))
   cases aX H
   exact bE
  refine aR.skip (qW (q1 (cJ [aN pw.gPackages] hZ) (q1 aE (q1 (a5 kU) (q1 (bD eJ) (fZ H fun x16 x17 z15 H=>(q1 (bG func154 (ae6 fu pw pi pt.gName _ z15)) (q1 aE ?_))))))))
  iterate 2 refine q1 AK ?_
  refine q1 (fO jF) (q1 (bR iH) (q1 aE (qN ?_)))
  refine qS (qS (qR (q1 aE (q1 hQ (qN ?_)))))
  refine a8 H (fun h18 H=>?_) (fun h18 H=>?_)
  ·refine qW (q1 aE (qZ ?_))
   cases aX H
   exact bE
  refine aR.skip ?_
  refine qS (qS (qR (q1 (a5 C6) (q1 (bD kZ) (q1 (dL b3 (bC _)) (q1 (a5 gM) (q1 (bD kY) (q1 (dL eU (aB.trs_len _)) (q1 CI (qN ?_))))))))))
  refine a8 H (fun h19 H=>?_) (fun h19 H=>?_)
  ·refine qW (q1 aE (qZ ?_))
   cases aX H
   exact bE
  refine aR.skip (qW (q1 aE (qZ ?_)))
  cases aX H
  exact bE
 refine aR.skip (qW (q1 aE (qZ ?_)))
 cases aX H
 exact bE
abbrev uB:=aF→Int→aB→Option Int
def xY(m:uB):Prop:= ∀(pw:aF) (pi:Int) (pt:aB) (r:Int),m pw pi pt=some r→b4 Tryz.prog 46 [(aF.pv pw),pI pi,(aB.pv pt)] (pI r:PV)
def sC(fu:Nat)(r_sCheckType:uB)(pw:aF)(pi:Int)(pt:aB)(x2:Int):Nat→Int→Option (LR Int Int):=
 fun i3 v4=>sw (decide (v4=0))
 (bd (r_sCheckType pw pi (aW pt.gArgs i3)) (fun x9=>
 some (.next x9)))
 (some (.brk v4))
def I2(fu:Nat)(r_sCheckType:uB)(pw:aF)(pi:Int)(pt:aB)(x2:Int):Option (Int⊕Int):=
 loopN (sC fu r_sCheckType pw pi pt x2) (pt.gArgs.length-0) 0 x2
def DR(fu:Nat)(r_sCheckType:uB)(pw:aF)(pi:Int)(pt:aB):Option Int:=
 bd (EC fu pw pi pt) (fun x2=>
 so (I2 fu r_sCheckType pw pi pt x2) (fun v4=>
 some v4))
theorem R8(fu:Nat)(r_sCheckType:uB)(h_sCheckType:xY r_sCheckType):xY (DR fu r_sCheckType):=by
 intro pw pi pt r H
 have H:=eE H
 refine qI func46 (fun C hC=>?_)
 refine qW (q1 (iM ([aN pw.gPackages])) (q1 (iM (eD pt)) (q1 aE (qN (qW (q1 (cJ [aN pw.gPackages] hZ) (q1 aE (q1 (cJ [pI pt.gKind,pS pt.gName,a7 pt.gArgs] cU) (bI H fun x2 z1 H=>(q1 (bG func107 (ae8 fu pw pi pt _ z1)) (q1 aE ?_)))))))))))
 refine qN ?_
 refine qS (qS (qR (q1 aE (qN ?_))))
 refine aR.fact (b5 1 2 rfl rfl rfl (aB.trs_len _)) (fun hl5=>?_)
 refine b0 (σ:=Int) (fun i3 v4=>⟨[(1,pI pi),(3,.ptr 0 0),(5,.ptr 1 0),(6,pI 0),(7,pI v4),(8,pN i3)],⟨[some ⟨26,[aN pw.gPackages]⟩,some ⟨35,eD pt⟩],[]⟩⟩) (fun v4=>⟨[(6,pI 0),(7,pI v4)],⟨[some ⟨26,[aN pw.gPackages]⟩,some ⟨35,eD pt⟩],[]⟩⟩) (fK H) ?_ ?_
 ·rintro i3 v4 H
  refine qS (qS (qR (q1 aE (q1 (a5 gM) (q1 (bD kY) (q1 (dL eU (aB.trs_len _)) (q1 gI (q1 aE ?_))))))))
  refine AL.splitB 18 rfl (fun g6=>?_) (fun g6=>?_)
  ·have g6l:=qA g6
   have H:=lnT g6l H
   have g6n:=a4 g6
   refine qg g6 aE (qg g6 dM (q1 (bV g6) (qN ?_)))
   refine a8 H (fun h7 H=>?_) (fun h7 H=>?_)
   ·refine aR.skip (qS (aR.block (bI H fun x9 z8 H=>(dW (dD [3] (cJ [aN pw.gPackages] hZ) (dI [1] aE (dI [5] (a5 gM) (dD [26] (bD kY) (dI [8] aE (dI [27,28] (kP g6n eU) (dI [29] (kM (aB.cs (aW pt.gArgs i3)) cU) (dI [24,25,30] (bG func46 (h_sCheckType pw pi (aW pt.gArgs i3) _ z8)) (dI [31] aE ?_)))))))))))))
    refine dN (qR (q1 aE (q1 (rA (i3+1)) (q1 aE (qN ?_)))))
    exact iI g6l ⟨_,(aX H:),bW⟩
   refine aR.exit ?_;exact lpB ⟨_,(aX H:),bW⟩
  have H:=lnE (p9 g6) H
  iterate 2 refine qk g6 ?_
  refine q1 (b9 g6) (qN (jR rfl (aR.exit ?_)))
  exact jJ ⟨_,H,bW⟩
 rintro v4 H
 refine qS (qR ?_)
 iterate 2 refine q1 aE ?_
 refine qN (aR.ret ?_)
 cases aX H
 exact bE
def hL:Nat→aF→Int→aB→Option Int
 |0,_,_,_=>none
 |fu+1,pw,pi,pt=>DR fu (hL fu) pw pi pt
theorem UU(fu:Nat):xY (hL fu):=by
 induction fu with
 |zero=>exact(fun pw pi pt r H=>by simp only [hL] at H;cases H)
 |succ fu ih=>exact(fun pw pi pt r H=>by simp only [hL] at H;exact R8 fu (hL fu) ih pw pi pt r H)
theorem BI(fu:Nat):xY (hL fu):=(UU fu)
def WU(m:aF→Int→aM→Option Int):Prop:= ∀(pw:aF) (pi:Int) (pb:aM) (r:Int),m pw pi pb=some r→b4 Tryz.prog 50 [(aF.pv pw),pI pi,(aM.pv pb)] (pI r:PV)
def vL(fu:Nat)(pw:aF)(pi:Int)(pb:aM):Option Int:=
 bd (qG fu pw pi pb.gTrait) (fun(x2,x3)=>
 sw (!(x3))
 (some 3)
 (bd (hL fu pw pi pb.gType) (fun x6=>
 some x6)))
theorem US(fu:Nat):WU (vL fu):=by
 intro pw pi pb r H
 have H:=eE H
 refine qI func50 (fun C hC=>?_)
 refine qW (q1 (iM ([aN pw.gPackages])) (q1 (iM (Y2 pb)) (q1 aE (qN (qW (q1 (cJ [aN pw.gPackages] hZ) (q1 aE (q1 (a5 ZB) (q1 (bD eJ) (fZ H fun x2 x3 z1 H=>(q1 (bG func110 (yE fu pw pi pb.gTrait _ z1)) ?_)))))))))))
 refine q1 aE ?_
 iterate 2 refine q1 AK ?_
 refine q1 (fO r3) (q1 (bR pL) (q1 aE (qN ?_)))
 refine qS (qS (qR (q1 aE (q1 hQ (qN ?_)))))
 refine a8 H (fun h4 H=>?_) (fun h4 H=>?_)
 ·refine qW (q1 aE (qZ ?_))
  cases aX H
  exact bE
 refine aR.skip (qW (q1 (cJ [aN pw.gPackages] hZ) (q1 aE (q1 (a5 J2) (q1 (cJ [pI pb.gType.gKind,pS pb.gType.gName,a7 pb.gType.gArgs] cU) (bI H fun x6 z5 H=>(q1 (bG func46 (BI fu pw pi pb.gType _ z5)) (q1 aE (qZ ?_)))))))))
 cases aX H
 exact bE
def ak7(m:aF→Int→Option bS):Prop:= ∀(pw:aF) (pi:Int) (r:bS),m pw pi=some r→b4 Tryz.prog 105 [(aF.pv pw),pI pi] ((bS.pv r):PV)
def uU(fu:Nat)(pw:aF)(pi:Int):Option bS:=
 gd (wt pw≤13000000)
 (some (bS.mk pw (sG pw pi)))
theorem J7(fu:Nat):ak7 (uU fu):=by
 intro pw pi r H
 have H:=eE H
 refine qI func105 (fun C hC=>?_)
 refine qW (q1 (iM ([aN pw.gPackages])) (q1 (fO aqN) (qN (qS (dK H fun z1 H=>(dW ?_))))))
 iterate 2 refine dD [2] (cJ [aN pw.gPackages] hZ) ?_
 refine dI [1] aE (dI [6,7] (bG func149 (apB pw pi z1)) (dI [5,8] (gW aqN ar9) (lH [4,9] (bR asJ) (dN (aR.ret ?_)))))
 cases aX H
 exact bE (hr:=⟨⟨_,_,_,rfl,rfl,qE,rfl,rfl⟩,trivial⟩)
def ZD(m:(List Int)→Int→Option Int):Prop:= ∀(ps:List Int) (pv:Int) (r:Int),m ps pv=some r→b4 Tryz.prog 212 [rI ps,pI pv] (pI r:PV)
def A7(fu:Nat)(ps:List Int)(pv:Int):Nat→Unit→Option (LR Unit Int):=
 fun i1 _=>sw (decide (pv=aW ps i1))
 (some (.ret (i1:Int)))
 (some (.next ()))
def IV(fu:Nat)(ps:List Int)(pv:Int):Option (Int⊕Unit):=
 loopN (A7 fu ps pv) (ps.length-0) 0 ()
def DA(fu:Nat)(ps:List Int)(pv:Int):Option Int:=
 so (IV fu ps pv) (fun _=>
 some (-1))
theorem WK(fu:Nat):ZD (DA fu):=by
 intro ps pv r H
 have H:=eE H
 refine qI func212 (fun C hC=>?_)
 refine qW (q1 aE (qN ?_))
 refine qS (qS (qR (q1 aE (q1 (dL N8 (eM _)) (q1 aE (qN ?_))))))
 refine lD 0 (eM _) (fun hl2=>?_)
 refine b0 (σ:=Unit) (fun i1 _=>⟨[(0,rI ps),(1,pI pv),(4,pI 0),(7,pN ps.length),(8,pN i1)],⟨[],[]⟩⟩) (fun _=>⟨[(4,pI 0)],⟨[],[]⟩⟩) (fK H) ?_ ?_
 ·rintro i1 ⟨⟩ H
  refine qW (q1 gI (qN (qS ?_)))
  refine dG H (fun h3 h3l H=>?_) (fun h3 H=>?_)
  ·have h3n:=a4 h3
   refine aR.skip (qS (aR.block (qS (qR ?_))))
   iterate 2 refine q1 aE ?_
   refine qN (qS (qR ?_))
   iterate 3 refine q1 aE ?_
   refine q1 (kP h3n N8) (q1 (kQ nT) (q1 dM (qN ?_)))
   refine a8 H (fun h4 H=>?_) (fun h4 H=>?_)
   ·refine qS (qR ?_)
    iterate 2 refine q1 aE ?_
    refine qN (aR.ret ?_)
    obtain rfl:_=r:=(mT (aX H):)
    exact bE
   refine aR.skip (qR (q1 (rA (i1+1)) (q1 aE (qN ?_))))
   exact iI h3l ⟨_,(aX H:),bW⟩
  refine aR.exit ?_;exact jJ ⟨_,H,bW⟩
 rintro⟨⟩ H
 refine qW (q1 aE (qZ ?_))
 cases aX H
 exact bE
def RS(m:(List Int)→Int→Option Bool):Prop:= ∀(ps:List Int) (pv:Int) (r:Bool),m ps pv=some r→b4 Tryz.prog 201 [rI ps,pI pv] (pB r:PV)
def wM(fu:Nat)(ps:List Int)(pv:Int):Option Bool:=
 bd (DA fu ps pv) (fun x2=>
 some (decide (x2≥0)))
theorem OH(fu:Nat):RS (wM fu):=by
 intro ps pv r H
 have H:=eE H
 refine qI func201 (fun C hC=>?_)
 refine qW (q1 aE (qN (qS (qR ?_))))
 iterate 2 refine q1 aE ?_
 refine bI H fun x2 z1 H=>(q1 (bG func212 (WK fu ps pv _ z1)) (q1 S8 (q1 aE (qZ ?_))))
 cases aX H
 exact bE
def anM(m:bS→Int→Option Bool):Prop:= ∀(pv:bS) (pi:Int) (r:Bool),m pv pi=some r→b4 Tryz.prog 183 [(bS.pv pv),pI pi] (pB r:PV)
def zG(fu:Nat)(pv:bS)(pi:Int):Option Bool:=
 bd (wM fu pv.gvisible pi) (fun x2=>
 some x2)
theorem GV(fu:Nat):anM (zG fu):=by
 intro pv pi r H
 have H:=eE H
 refine qI func183 (fun C hC=>?_)
 refine qW (q1 (iM ([aN pv.gw.gPackages,rI pv.gvisible])) (q1 aE (qN (qW (q1 (a5 ao5) (q1 (bD arL) (q1 aE (bI H fun x2 z1 H=>(q1 (bG func201 (OH fu pv.gvisible pi _ z1)) (q1 aE (qN ?_)))))))))))
 refine aR.ret ?_
 cases aX H
 exact bE
def ak8(m:bS→ByteArray→Option (aP×Bool)):Prop:= ∀(pv:bS) (pname:ByteArray) (r:aP×Bool),m pv pname=some r→b4 Tryz.prog 155 [(bS.pv pv),pS pname] (.tup [(aP.pv r.1),pB r.2]:PV)
def uV(fu:Nat)(pv:bS)(pname:ByteArray):Option (aP×Bool):=
 bd (MN fu pv.gw pname) (fun(x2,x3,x4)=>
 sw (x4)
 (bd (zG fu pv x3) (fun x7=>
 some (x2,x7)))
 (some (x2,false)))
theorem DI(fu:Nat):ak8 (uV fu):=by
 intro pv pname r H
 have H:=eE H
 refine qI func155 (fun C hC=>?_)
 refine qW (q1 (iM ([aN pv.gw.gPackages,rI pv.gvisible])) (q1 (fO r3) (q1 aE (qN (qW (q1 (a5 LY) (q1 (cJ [aN pv.gw.gPackages] hZ) (q1 aE (FA H fun x2 x3 x4 z1 H=>(q1 (bG func82 (ak5 fu pv.gw pname _ z1)) (q1 aE ?_)))))))))))
 iterate 3 refine q1 AK ?_
 refine q1 (fO r3) (q1 (bR pL) ?_)
 iterate 2 refine q1 aE ?_
 refine qN (qS ?_)
 rcases mA (x4) with g5|g5
 ·have H:=sE H g5
  refine bI H fun x7 z6 H=>(dW (dD [6] (cJ [pS x2.gName,rS x2.gSupertraits,pB x2.gAuto,pB x2.gAssoc,c4 x2.gSignatures] l9) (dI [8] aE (dI [18] aE (dD (hg:=a6 g5) [2] (cJ [aN pv.gw.gPackages,rI pv.gvisible] qE) (dI (hg:=a6 g5) [7] aE (dI (hg:=a6 g5) [20,21] (bG func183 (GV fu pv x3 _ z6)) (dI [19,22] (bV g5) (lH [4,17] (bR pL) (dI [23] aE (dN (aR.ret ?_))))))))))))
  cases aX H
  exact tT (hr:=⟨⟨_,_,_,rfl,rfl,l9,rfl,rfl⟩,rfl,trivial⟩)
 have H:=sD H g5
 refine dW (dD [6] (cJ [pS x2.gName,rS x2.gSupertraits,pB x2.gAuto,pB x2.gAssoc,c4 x2.gSignatures] l9) (dI [8] aE (dI [18] aE ?_)))
 iterate 3 refine FE g5 ?_
 refine dI [19] (b9 g5) (lH [4,17] (bR pL) (dI [23] aE (dN (aR.ret ?_))))
 cases aX H
 exact tT (hr:=⟨⟨_,_,_,rfl,rfl,l9,rfl,rfl⟩,rfl,trivial⟩)
def anL(m:bS→ByteArray→Option (aH×Bool)):Prop:= ∀(pv:bS) (pname:ByteArray) (r:aH×Bool),m pv pname=some r→b4 Tryz.prog 180 [(bS.pv pv),pS pname] (.tup [(aH.pv r.1),pB r.2]:PV)
def MP(fu:Nat)(pv:bS)(pname:ByteArray):Option (aH×Bool):=
 bd (MJ fu pv.gw pname) (fun(x2,x3,x4)=>
 sw (x4)
 (bd (zG fu pv x3) (fun x7=>
 some (x2,x7)))
 (some (x2,false)))
theorem ak6(fu:Nat):anL (MP fu):=by
 intro pv pname r H
 have H:=eE H
 refine qI func180 (fun C hC=>?_)
 refine qW (q1 (iM ([aN pv.gw.gPackages,rI pv.gvisible])) (q1 (fO jF) (q1 aE (qN (qW (q1 (a5 LY) (q1 (cJ [aN pv.gw.gPackages] hZ) (q1 aE (FA H fun x2 x3 x4 z1 H=>(q1 (bG func84 (acW fu pv.gw pname _ z1)) (q1 aE ?_)))))))))))
 iterate 3 refine q1 AK ?_
 refine q1 (fO jF) (q1 (bR iH) ?_)
 iterate 2 refine q1 aE ?_
 refine qN (qS ?_)
 rcases mA (x4) with g5|g5
 ·have H:=sE H g5
  refine bI H fun x7 z6 H=>(dW (dD [6] (cJ [pS x2.gName,rS x2.gVars,bY x2.gConstructors] fI) (dI [8] aE (dI [18] aE (dD (hg:=a6 g5) [2] (cJ [aN pv.gw.gPackages,rI pv.gvisible] qE) (dI (hg:=a6 g5) [7] aE (dI (hg:=a6 g5) [20,21] (bG func183 (GV fu pv x3 _ z6)) (dI [19,22] (bV g5) (lH [4,17] (bR iH) (dI [23] aE (dN (aR.ret ?_))))))))))))
  cases aX H
  exact tT (hr:=⟨⟨_,_,_,rfl,rfl,fI,rfl,rfl⟩,rfl,trivial⟩)
 have H:=sD H g5
 refine dW (dD [6] (cJ [pS x2.gName,rS x2.gVars,bY x2.gConstructors] fI) (dI [8] aE (dI [18] aE ?_)))
 iterate 3 refine FE g5 ?_
 refine dI [19] (b9 g5) (lH [4,17] (bR iH) (dI [23] aE (dN (aR.ret ?_))))
 cases aX H
 exact tT (hr:=⟨⟨_,_,_,rfl,rfl,fI,rfl,rfl⟩,rfl,trivial⟩)
def DC(m:aB→ByteArray→Int→Option Int):Prop:= ∀(pu:aB) (c1:ByteArray) (c2:Int) (r:Int),m pu c1 c2=some r→c6 Tryz.prog 260 [(aB.pv pu),.ptr 0 0,.ptr 1 0] ⟨[some ⟨9,[pS c1]⟩,some ⟨3,[pI c2]⟩],[]⟩ (fun q t=>q=(.tup []:PV)∧t=⟨[some ⟨9,[pS c1]⟩,some ⟨3,[pI r]⟩],[]⟩)
def lI(fu:Nat)(pu:aB)(c1:ByteArray)(c2:Int):Option Int:=
 sw (decide (pu.gKind=1))
 (sw (decide (pu.gName=c1))
 (some (aQ (c2+1)))
 (some c2))
 (some c2)
theorem CC(fu:Nat):DC (lI fu):=by
 intro pu c1 c2 r H
 have H:=eE H
 refine qI func260 (fun C hC=>?_)
 refine qW (q1 (iM (eD pu)) (qN (qW (q1 (a5 pF) (q1 (bD nT) (q1 dM (q1 aE ?_)))))))
 refine eF 7 H (fun g1 H=>?_) fun g1 H=>?_
 ·refine qg g1 (a5 kU) ?_
  iterate 2 refine qg g1 (bD eJ) ?_
  refine qg g1 AM (q1 (bV g1) (qN ?_))
  refine a8 H (fun h2 H=>?_) (fun h2 H=>?_)
  ·refine qR (q1 (bD nT) (q1 MZ (q1 (bR sz3) (qN ?_))))
   cases aX H
   exact qe (ps:= []) ⟨rfl,rfl⟩ trivial
  refine aR.skip ?_
  cases aX H
  exact qe (ps:= []) ⟨rfl,rfl⟩ trivial
 iterate 4 refine qk g1 ?_
 refine q1 (b9 g1) (qN (jR rfl (aR.skip ?_)))
 cases aX H
 exact qe (ps:= []) ⟨rfl,rfl⟩ trivial
abbrev eK:=aB→ByteArray→Int→Option Int
def fW(m:eK):Prop:= ∀(pt:aB) (c1_0:ByteArray) (c1_1:Int) (r:Int),m pt c1_0 c1_1=some r→c6 Tryz.prog 144 [(aB.pv pt),.fn 260 [.ptr 0 0,.ptr 1 0]] ⟨[some ⟨9,[pS c1_0]⟩,some ⟨3,[pI c1_1]⟩],[]⟩ (fun q t=>q=(.tup []:PV)∧t=⟨[some ⟨9,[pS c1_0]⟩,some ⟨3,[pI r]⟩],[]⟩)
def lZ(fu:Nat)(r_ieachType__iCountTypeVariable_1:eK)(pt:aB)(c1_0:ByteArray)(c1_1 x2:Int):Nat→Int→Option (LR Int Int):=
 fun i3 v4=>bd (r_ieachType__iCountTypeVariable_1 (aW pt.gArgs i3) c1_0 v4) (fun x8=>
 some (.next x8))
def l0(fu:Nat)(r_ieachType__iCountTypeVariable_1:eK)(pt:aB)(c1_0:ByteArray)(c1_1 x2:Int):Option (Int⊕Int):=
 loopN (lZ fu r_ieachType__iCountTypeVariable_1 pt c1_0 c1_1 x2) (pt.gArgs.length-0) 0 x2
def iW(fu:Nat)(r_ieachType__iCountTypeVariable_1:eK)(pt:aB)(c1_0:ByteArray)(c1_1:Int):Option Int:=
 bd (lI fu pt c1_0 c1_1) (fun x2=>
 so (l0 fu r_ieachType__iCountTypeVariable_1 pt c1_0 c1_1 x2) (fun v4=>
 some v4))
theorem rX(fu:Nat)(r_ieachType__iCountTypeVariable_1:eK)(h_ieachType__iCountTypeVariable_1:fW r_ieachType__iCountTypeVariable_1):fW (iW fu r_ieachType__iCountTypeVariable_1):=by
 intro pt c1_0 c1_1 r H
 have H:=eE H
 refine qI func144 (fun C hC=>?_)
 refine qW (q1 (iM (eD pt)) (qN (qW (q1 aE (q1 (cJ [pI pt.gKind,pS pt.gName,a7 pt.gArgs] cU) (bI H fun x2 z1 H=>(q1 (a3.callVPE (pre:=⟨[some ⟨9,[pS c1_0]⟩,some ⟨3,[pI c1_1]⟩],[]⟩) (st':=⟨[some ⟨9,[pS c1_0]⟩,some ⟨3,[pI x2]⟩],[]⟩) (ps:= [_]) (cs:= [.ptr 0 0,.ptr 1 0]) (qs:= [(aB.pv pt),.ptr 0 0,.ptr 1 0]) [0,1] [] rfl rfl rfl func260 (by kernel_rfl) rfl rfl rfl (gA.of ⟨⟨_,rfl,rfl,iX,rfl⟩,⟨⟨_,rfl,rfl,iX,rfl⟩,trivial⟩⟩ trivial (by decide) (by decide)) iX rfl rfl rfl (CC fu pt c1_0 c1_1 _ z1)) (qN (qW (q1 (a5 gM) ?_))))))))))
 refine q1 (bD kY) (q1 (dL eU (aB.trs_len _)) (q1 aE (qN ?_)))
 refine lD 10 (aB.trs_len _) (fun hl5=>?_)
 refine b0 (σ:=Int) (fun i3 v4=>⟨[(1,.fn 260 [.ptr 0 0,.ptr 1 0]),(10,a7 pt.gArgs),(11,pN pt.gArgs.length),(12,pN i3)],⟨[some ⟨9,[pS c1_0]⟩,some ⟨3,[pI v4]⟩,some ⟨35,eD pt⟩],[]⟩⟩) (fun v4=>⟨[],⟨[some ⟨9,[pS c1_0]⟩,some ⟨3,[pI v4]⟩,some ⟨35,eD pt⟩],[]⟩⟩) (fK H) ?_ ?_
 ·rintro i3 v4 H
  refine qW (q1 gI (qN (qS ?_)))
  refine dG H (fun h6 h6l H=>?_) (fun h6 H=>?_)
  ·have h6n:=a4 h6
   refine aR.skip (qS (aR.block (qW (q1 (kP h6n eU) (q1 (kM (aB.cs (aW pt.gArgs i3)) cU) (q1 (fO jN) (q1 (bR jE) (qN (qR (q1 (cJ [pI ((aW pt.gArgs i3).gKind),pS ((aW pt.gArgs i3).gName),a7 ((aW pt.gArgs i3).gArgs)] cU) (q1 aE (bI H fun x8 z7 H=>?_))))))))))))
   refine q1 (iF [0,1] [] func144 (h_ieachType__iCountTypeVariable_1 (aW pt.gArgs i3) c1_0 v4 _ z7)) (qN (qR (q1 (rA (i3+1)) (q1 aE (qN ?_)))))
   exact iI h6l ⟨_,(aX H:),bW⟩
  refine aR.exit ?_;exact jJ ⟨_,H,bW⟩
 rintro v4 H
 cases aX H
 exact qe (ps:= []) ⟨rfl,rfl⟩ trivial
def cA:Nat→aB→ByteArray→Int→Option Int
 |0,_,_,_=>none
 |fu+1,pt,c1_0,c1_1=>iW fu (cA fu) pt c1_0 c1_1
theorem r7(fu:Nat):fW (cA fu):=by
 induction fu with
 |zero=>exact(fun pt c1_0 c1_1 r H=>by simp only [cA] at H;cases H)
 |succ fu ih=>exact(fun pt c1_0 c1_1 r H=>by simp only [cA] at H;exact rX fu (cA fu) ih pt c1_0 c1_1 r H)
theorem sT(fu:Nat):fW (cA fu):=(r7 fu)
def FJ(m:aB→ByteArray→Option Int):Prop:= ∀(pt:aB) (pv:ByteArray) (r:Int),m pt pv=some r→b4 Tryz.prog 239 [(aB.pv pt),pS pv] (pI r:PV)
def p5(fu:Nat)(pt:aB)(pv:ByteArray):Option Int:=
 bd (cA fu pt pv 0) (fun x2=>
 some x2)
theorem EU(fu:Nat):FJ (p5 fu):=by
 intro pt pv r H
 have H:=eE H
 refine qI func239 (fun C hC=>?_)
 refine qW (q1 (iM (eD pt)) (q1 (iM ([pS pv])) (q1 aE (qN (qW (q1 (fO zr3) (q1 (bR sz3) (qN (qW (q1 (cJ [pI pt.gKind,pS pt.gName,a7 pt.gArgs] cU) ?_))))))))))
 refine q1 rMf (bI H fun x2 z1 H=>(q1 (iF [1,2] [] func144 (sT fu pt pv 0 _ z1)) (qN (qW (q1 (bD nT) (q1 aE (qZ ?_)))))))
 cases aX H
 exact bE
def acR(m:ByteArray→aB→Option Bool):Prop:= ∀(pv:ByteArray) (pt:aB) (r:Bool),m pv pt=some r→b4 Tryz.prog 223 [pS pv,(aB.pv pt)] (pB r:PV)
def vZ(fu:Nat)(pv:ByteArray)(pt:aB):Option Bool:=
 bd (p5 fu pt pv) (fun x2=>
 some (decide (x2>0)))
theorem MF(fu:Nat):acR (vZ fu):=by
 intro pv pt r H
 have H:=eE H
 refine qI func223 (fun C hC=>?_)
 refine qW (q1 (iM (eD pt)) (q1 aE (qN (qW (q1 (cJ [pI pt.gKind,pS pt.gName,a7 pt.gArgs] cU) (q1 aE (bI H fun x2 z1 H=>(q1 (bG func239 (EU fu pt pv _ z1)) (q1 KL (q1 aE (qN ?_)))))))))))
 refine aR.ret ?_
 cases aX H
 exact bE
def MM(m:aB→Option Bool):Prop:= ∀(pt:aB) (r:Bool),m pt=some r→b4 Tryz.prog 225 [(aB.pv pt)] (pB r:PV)
def t2(fu:Nat)(pt:aB):Option Bool:=
 bd (vZ fu dH pt) (fun x2=>
 some x2)
theorem J6(fu:Nat):MM (t2 fu):=by
 intro pt r H
 have H:=eE H
 refine qI func225 (fun C hC=>?_)
 refine qW (q1 (iM (eD pt)) (q1 aE (qN (qW (q1 (cJ [pI pt.gKind,pS pt.gName,a7 pt.gArgs] cU) (bI H fun x2 z1 H=>(q1 (bG func223 (MF fu dH pt _ z1)) (q1 aE (qZ ?_)))))))))
 cases aX H
 exact bE
def sR(m:(List aB)→Option Int):Prop:= ∀(ps:List aB) (r:Int),m ps=some r→b4 Tryz.prog 240 [a7 ps,.fn 225 []] (pI r:PV)
def lL(fu:Nat)(ps:List aB):Nat→Unit→Option (LR Unit Int):=
 fun i1 _=>bd (t2 fu (aW ps i1)) (fun x5=>
 sw (x5)
 (some (.ret (i1:Int)))
 (some (.next ())))
def lM(fu:Nat)(ps:List aB):Option (Int⊕Unit):=
 loopN (lL fu ps) (ps.length-0) 0 ()
def fN(fu:Nat)(ps:List aB):Option Int:=
 so (lM fu ps) (fun _=>
 some (-1))
theorem r5(fu:Nat):sR (fN fu):=by
 intro ps r H
 have H:=eE H
 refine qI func240 (fun C hC=>?_)
 refine qW (q1 aE (qN ?_))
 refine qS (qS (qR (q1 aE (q1 (dL eU (aB.trs_len _)) (q1 aE (qN ?_))))))
 refine lD 0 (aB.trs_len _) (fun hl2=>?_)
 refine b0 (σ:=Unit) (fun i1 _=>⟨[(0,a7 ps),(1,.fn 225 []),(4,pI 0),(7,pN ps.length),(8,pN i1)],⟨[],[]⟩⟩) (fun _=>⟨[(4,pI 0)],⟨[],[]⟩⟩) (fK H) ?_ ?_
 ·rintro i1 ⟨⟩ H
  refine qW (q1 gI (qN (qS ?_)))
  refine dG H (fun h3 h3l H=>?_) (fun h3 H=>?_)
  ·have h3n:=a4 h3
   refine aR.skip (qS (aR.block (qS (qR ?_))))
   iterate 2 refine q1 aE ?_
   refine qN (qS (qR ?_))
   iterate 3 refine q1 aE ?_
   refine q1 (kP h3n eU) (q1 (kM (aB.cs (aW ps i1)) cU) (bI H fun x5 z4 H=>(q1 (rCv func225 (J6 fu (aW ps i1) _ z4)) (qN ?_))))
   refine a8 H (fun h6 H=>?_) (fun h6 H=>?_)
   ·refine qS (qR ?_)
    iterate 2 refine q1 aE ?_
    refine qN (aR.ret ?_)
    obtain rfl:_=r:=(mT (aX H):)
    exact bE
   refine aR.skip (qR (q1 (rA (i1+1)) (q1 aE (qN ?_))))
   exact iI h3l ⟨_,(aX H:),bW⟩
  refine aR.exit ?_;exact jJ ⟨_,H,bW⟩
 rintro⟨⟩ H
 refine qW (q1 aE (qZ ?_))
 cases aX H
 exact bE
def qT(m:(List aB)→Option Bool):Prop:= ∀(ps:List aB) (r:Bool),m ps=some r→b4 Tryz.prog 224 [a7 ps,.fn 225 []] (pB r:PV)
def eZ(fu:Nat)(ps:List aB):Option Bool:=
 bd (fN fu ps) (fun x2=>
 some (decide (x2≥0)))
theorem pY(fu:Nat):qT (eZ fu):=by
 intro ps r H
 have H:=eE H
 refine qI func224 (fun C hC=>?_)
 refine qW (q1 aE (qN (qS (qR ?_))))
 iterate 2 refine q1 aE ?_
 refine bI H fun x2 z1 H=>(q1 (bG func240 (r5 fu ps _ z1)) (q1 S8 (q1 aE (qZ ?_))))
 cases aX H
 exact bE
def RZ(m:aC→Option Bool):Prop:= ∀(pg:aC) (r:Bool),m pg=some r→b4 Tryz.prog 210 [(aC.pv pg)] (pB r:PV)
def sN(fu:Nat)(pg:aC):Option Bool:=
 bd (vZ fu dH pg.gResult) (fun x2=>
 sw (x2)
 (some true)
 (bd (eZ fu pg.gParams) (fun x5=>
 some x5)))
theorem OO(fu:Nat):RZ (sN fu):=by
 intro pg r H
 have H:=eE H
 refine qI func210 (fun C hC=>?_)
 refine qW (q1 (iM (TQ pg)) (q1 aE (qN (qW (q1 (a5 GS) (q1 (cJ [pI pg.gResult.gKind,pS pg.gResult.gName,a7 pg.gResult.gArgs] cU) (bI H fun x2 z1 H=>(q1 (bG func223 (MF fu dH pg.gResult _ z1)) (q1 aE ?_)))))))))
 refine eF 6 H (fun g3 H=>?_) fun g3 H=>?_
 ·refine qk g3 ?_
  iterate 2 refine qk g3 ?_
  refine q1 (bV g3) (q1 aE (qZ ?_))
  cases aX H
  exact bE
 refine qg g3 (a5 xP) (qg g3 (bD kY) (bI H fun x5 z4 H=>(qg g3 (bG func224 (pY fu pg.gParams _ z4)) (q1 (b9 g3) (q1 aE (qZ ?_))))))
 cases aX H
 exact bE
def qV(m:(List aC)→Option Int):Prop:= ∀(ps:List aC) (r:Int),m ps=some r→b4 Tryz.prog 222 [c4 ps,.fn 210 []] (pI r:PV)
def kG(fu:Nat)(ps:List aC):Nat→Unit→Option (LR Unit Int):=
 fun i1 _=>lt (aW ps i1) (fun y4=>
 bd (sN fu y4) (fun x7=>
 sw (x7)
 (some (.ret (i1:Int)))
 (some (.next ()))))
def kH(fu:Nat)(ps:List aC):Option (Int⊕Unit):=
 loopN (kG fu ps) (ps.length-0) 0 ()
def e7(fu:Nat)(ps:List aC):Option Int:=
 so (kH fu ps) (fun _=>
 some (-1))
theorem p4(fu:Nat):qV (e7 fu):=by
 intro ps r H
 have H:=eE H
 refine qI func222 (fun C hC=>?_)
 refine qW (q1 aE (qN ?_))
 refine qS (qS (qR (q1 aE (q1 (dL pT (aC.trs_len _)) (q1 aE (qN ?_))))))
 refine lD 0 (aC.trs_len _) (fun hl2=>?_)
 refine b0 (σ:=Unit) (fun i1 _=>⟨[(0,c4 ps),(1,.fn 210 []),(4,pI 0),(7,pN ps.length),(8,pN i1)],⟨[],[]⟩⟩) (fun _=>⟨[(4,pI 0)],⟨[],[]⟩⟩) (fK H) ?_ ?_
 ·rintro i1 ⟨⟩ H
  refine qW (q1 gI (qN (qS ?_)))
  refine dG H (fun h3 h3l H=>?_) (fun h3 H=>?_)
  ·have h3n:=a4 h3
   refine aR.skip (qS (aR.block (qS (qR ?_))))
   iterate 2 refine q1 aE ?_
   refine qN (qS (qR ?_))
   iterate 3 refine q1 aE ?_
   refine fP H fun y4 h5 H=>(q1 (m9 h5 h3n pT) (q1 (kM (aC.cs y4) CP) (bI H fun x7 z6 H=>(q1 (rCv func210 (OO fu y4 _ z6)) (qN ?_)))))
   refine a8 H (fun h8 H=>?_) (fun h8 H=>?_)
   ·refine qS (qR ?_)
    iterate 2 refine q1 aE ?_
    refine qN (aR.ret ?_)
    obtain rfl:_=r:=(mT (aX H):)
    exact bE
   refine aR.skip (qR (q1 (rA (i1+1)) (q1 aE (qN ?_))))
   exact iI h3l ⟨_,(aX H:),bW⟩
  refine aR.exit ?_;exact jJ ⟨_,H,bW⟩
 rintro⟨⟩ H
 refine qW (q1 aE (qZ ?_))
 cases aX H
 exact bE
def pG(m:(List aC)→Option Bool):Prop:= ∀(ps:List aC) (r:Bool),m ps=some r→b4 Tryz.prog 209 [c4 ps,.fn 210 []] (pB r:PV)
def eG(fu:Nat)(ps:List aC):Option Bool:=
 bd (e7 fu ps) (fun x2=>
 some (decide (x2≥0)))
theorem oP(fu:Nat):pG (eG fu):=by
 intro ps r H
 have H:=eE H
 refine qI func209 (fun C hC=>?_)
 refine qW (q1 aE (qN (qS (qR ?_))))
 iterate 2 refine q1 aE ?_
 refine bI H fun x2 z1 H=>(q1 (bG func222 (p4 fu ps _ z1)) (q1 S8 (q1 aE (qZ ?_))))
 cases aX H
 exact bE
def ZG(m:aP→Option Bool):Prop:= ∀(pt:aP) (r:Bool),m pt=some r→b4 Tryz.prog 199 [(aP.pv pt)] (pB r:PV)
def xS(fu:Nat)(pt:aP):Option Bool:=
 sw (!(pt.gAssoc))
 (bd (eG fu pt.gSignatures) (fun x3=>
 some (!(x3))))
 (some false)
theorem WM(fu:Nat):ZG (xS fu):=by
 intro pt r H
 have H:=eE H
 refine qI func199 (fun C hC=>?_)
 refine qW (q1 (iM (nH pt)) (q1 aE (qN (qW (q1 (a5 OG) (q1 (bD Z3) (q1 hQ (q1 aE ?_))))))))
 refine eF 6 H (fun g1 H=>?_) fun g1 H=>?_
 ·refine qg g1 (a5 iV) (qg g1 (bD w9) (bI H fun x3 z2 H=>(qg g1 (bG func209 (oP fu pt.gSignatures _ z2)) (qg g1 hQ (q1 (bV g1) (q1 aE (qZ ?_)))))))
  cases aX H
  exact bE
 iterate 4 refine qk g1 ?_
 refine q1 (b9 g1) (q1 aE (qZ ?_))
 cases aX H
 exact bE
def ZL(m:bS→ByteArray→Option Int):Prop:= ∀(pv:bS) (pname:ByteArray) (r:Int),m pv pname=some r→b4 Tryz.prog 181 [(bS.pv pv),pS pname] (pI r:PV)
def t4(fu:Nat)(pv:bS)(pname:ByteArray):Option Int:=
 bd (uV fu pv pname) (fun(x2,x3)=>
 sw (!(x3))
 (some 3)
 (bd (xS fu x2) (fun x6=>
 sw (!(x6))
 (some 5)
 (some 0))))
theorem IY(fu:Nat):ZL (t4 fu):=by
 intro pv pname r H
 have H:=eE H
 refine qI func181 (fun C hC=>?_)
 refine qW (q1 (iM ([aN pv.gw.gPackages,rI pv.gvisible])) (q1 aE (qN (qW (q1 (cJ [aN pv.gw.gPackages,rI pv.gvisible] qE) (q1 aE (fZ H fun x2 x3 z1 H=>(q1 (bG func155 (DI fu pv pname _ z1)) (q1 aE ?_)))))))))
 iterate 2 refine q1 AK ?_
 refine q1 (fO r3) (q1 (bR pL) (q1 aE (qN ?_)))
 refine qS (qS (qR (q1 aE (q1 hQ (qN ?_)))))
 refine a8 H (fun h4 H=>?_) (fun h4 H=>?_)
 ·refine qW (q1 aE (qZ ?_))
  cases aX H
  exact bE
 refine aR.skip ?_
 refine qS (qS (qR (q1 (cJ [pS x2.gName,rS x2.gSupertraits,pB x2.gAuto,pB x2.gAssoc,c4 x2.gSignatures] l9) (bI H fun x6 z5 H=>(q1 (bG func199 (WM fu x2 _ z5)) (q1 hQ (qN ?_)))))))
 refine a8 H (fun h7 H=>?_) (fun h7 H=>?_)
 ·refine qW (q1 aE (qZ ?_))
  cases aX H
  exact bE
 refine aR.skip (qW (q1 aE (qZ ?_)))
 cases aX H
 exact bE
def ZM(m:bS→aB→Option Int):Prop:= ∀(pv:bS) (pt:aB) (r:Int),m pv pt=some r→b4 Tryz.prog 150 [(bS.pv pv),(aB.pv pt)] (pI r:PV)
def xU(fu:Nat)(pv:bS)(pt:aB):Option Int:=
 sw (decide (pt.gKind=1))
 (some 0)
 (sw (decide (pt.gKind=2))
 (bd (DH fu pt.gName) (fun x4=>
 sw (x4)
 (some 0)
 (bd (MP fu pv pt.gName) (fun(x7,x8)=>
 sw (!(x8))
 (some 1)
 (sw (!decide ((pt.gArgs.length:Int)=(x7.gVars.length:Int)))
 (some 2)
 (some 0))))))
 (sw (decide (pt.gKind=3))
 (bd (uV fu pv pt.gName) (fun(x13,x14)=>
 sw (!(x14))
 (some 3)
 (sw (!(x13.gAssoc))
 (some 4)
 (some 0))))
 (sw (decide (pt.gKind=4))
 (bd (t4 fu pv pt.gName) (fun x19=>
 some x19))
 (some 1))))
theorem WQ(fu:Nat):ZM (xU fu):=by
 intro pv pt r H
 have H:=eE H
 refine qI func150 (fun C hC=>?_)
 refine qW (q1 (iM ([aN pv.gw.gPackages,rI pv.gvisible])) (q1 (iM (eD pt)) (q1 aE (qN ?_))))
 refine qS (qS (qR (q1 (a5 pF) (q1 (bD nT) (qN (aR.block (qW (q1 dM (q1 aE (qN ?_))))))))))
 refine a8 H (fun h1 H=>?_) (fun h1 H=>?_)
 ·refine qW (q1 aE (qZ ?_))
  cases aX H
  exact bE
 refine qW (q1 dM (q1 aE (qN ?_)))
 refine a8 H (fun h2 H=>?_) (fun h2 H=>?_)
 ·refine qS (qW (q1 (a5 kU) (q1 (bD eJ) (bI H fun x4 z3 H=>(q1 (bG func83 (WN fu pt.gName _ z3)) (qN ?_))))))
  refine a8 H (fun h5 H=>?_) (fun h5 H=>?_)
  ·refine qW (q1 aE (qZ ?_))
   cases aX H
   exact bE
  refine aR.skip (qW (q1 (cJ [aN pv.gw.gPackages,rI pv.gvisible] qE) (q1 (a5 kU) (q1 (bD eJ) (fZ H fun x7 x8 z6 H=>(q1 (bG func180 (ak6 fu pv pt.gName _ z6)) (q1 aE ?_)))))))
  iterate 2 refine q1 AK ?_
  refine q1 (fO jF) (q1 (bR iH) (q1 aE (qN ?_)))
  refine qS (qS (qR (q1 aE (q1 hQ (qN ?_)))))
  refine a8 H (fun h9 H=>?_) (fun h9 H=>?_)
  ·refine qW (q1 aE (qZ ?_))
   cases aX H
   exact bE
  refine aR.skip ?_
  refine qS (qS (qR (q1 (a5 gM) (q1 (bD kY) (q1 (dL eU (aB.trs_len _)) (q1 (a5 C6) (q1 (bD kZ) (q1 (dL b3 (bC _)) (q1 CI (qN ?_))))))))))
  refine a8 H (fun h10 H=>?_) (fun h10 H=>?_)
  ·refine qW (q1 aE (qZ ?_))
   cases aX H
   exact bE
  refine aR.skip (qW (q1 aE (qZ ?_)))
  cases aX H
  exact bE
 refine qW (q1 dM (q1 aE (qN ?_)))
 refine a8 H (fun h11 H=>?_) (fun h11 H=>?_)
 ·refine qW (q1 (cJ [aN pv.gw.gPackages,rI pv.gvisible] qE) (q1 (a5 kU) (q1 (bD eJ) (fZ H fun x13 x14 z12 H=>(q1 (bG func155 (DI fu pv pt.gName _ z12)) (q1 aE ?_))))))
  iterate 2 refine q1 AK ?_
  refine q1 (fO r3) (q1 (bR pL) (q1 aE (qN ?_)))
  refine qS (qS (qR (q1 aE (q1 hQ (qN ?_)))))
  refine a8 H (fun h15 H=>?_) (fun h15 H=>?_)
  ·refine qW (q1 aE (qZ ?_))
   cases aX H
   exact bE
  refine aR.skip ?_
  refine qS (qS (qR (q1 (a5 OG) (q1 (bD Z3) (q1 hQ (qN ?_))))))
  refine a8 H (fun h16 H=>?_) (fun h16 H=>?_)
  ·refine qW (q1 aE (qZ ?_))
   cases aX H
   exact bE
  refine aR.skip (qW (q1 aE (qZ ?_)))
  cases aX H
  exact bE
 refine qW (q1 dM (q1 aE (qN ?_)))
 refine a8 H (fun h17 H=>?_) (fun h17 H=>?_)
 ·refine qW (q1 (cJ [aN pv.gw.gPackages,rI pv.gvisible] qE) (q1 (a5 kU) (q1 (bD eJ) (bI H fun x19 z18 H=>(q1 (bG func181 (IY fu pv pt.gName _ z18)) (q1 aE (qZ ?_)))))))
  cases aX H
  exact bE
 refine aR.skip (qW (q1 aE (qZ ?_)))
 cases aX H
 exact bE
abbrev mV:=bS→aB→Option Int
abbrev l3:=bS→(List aB)→Option Int
def r9(m:mV):Prop:= ∀(pv:bS) (pt:aB) (r:Int),m pv pt=some r→b4 Tryz.prog 106 [(bS.pv pv),(aB.pv pt)] (pI r:PV)
def t5(m:l3):Prop:= ∀(pv:bS) (pl:List aB) (r:Int),m pv pl=some r→b4 Tryz.prog 151 [(bS.pv pv),a7 pl] (pI r:PV)
def BC(fu:Nat)(r_ivcheckType:mV)(r_ivcheckTypes:l3)(pv:bS)(pt:aB):Option Int:=
 bd (xU fu pv pt) (fun x2=>
 sw (!decide (x2=0))
 (some x2)
 (bd (r_ivcheckTypes pv pt.gArgs) (fun x5=>
 some x5)))
theorem OT(fu:Nat)(r_ivcheckType:mV)(r_ivcheckTypes:l3)(h_ivcheckType:r9 r_ivcheckType)(h_ivcheckTypes:t5 r_ivcheckTypes):r9 (BC fu r_ivcheckType r_ivcheckTypes):=by
 intro pv pt r H
 have H:=eE H
 refine qI func106 (fun C hC=>?_)
 refine qW (q1 (iM ([aN pv.gw.gPackages,rI pv.gvisible])) (q1 (iM (eD pt)) (q1 aE (qN ?_))))
 refine qS (qS (qR (q1 (cJ [aN pv.gw.gPackages,rI pv.gvisible] qE) (q1 (cJ [pI pt.gKind,pS pt.gName,a7 pt.gArgs] cU) (bI H fun x2 z1 H=>(q1 (bG func150 (WQ fu pv pt _ z1)) (q1 aE (qN (qW (q1 aE (q1 CI (qN ?_))))))))))))
 refine a8 H (fun h3 H=>?_) (fun h3 H=>?_)
 ·refine qS (qR ?_)
  iterate 2 refine q1 aE ?_
  refine qN (aR.ret ?_)
  cases aX H
  exact bE
 refine aR.skip (qW (q1 (cJ [aN pv.gw.gPackages,rI pv.gvisible] qE) (q1 (a5 gM) (q1 (bD kY) (bI H fun x5 z4 H=>(q1 (bG func151 (h_ivcheckTypes pv pt.gArgs _ z4)) (q1 aE (qZ ?_))))))))
 cases aX H
 exact bE
def sO(fu:Nat)(r_ivcheckType:mV)(r_ivcheckTypes:l3)(pv:bS)(pl:List aB):Nat→Unit→Option (LR Unit Int):=
 fun i1 _=>bd (r_ivcheckType pv (aW pl i1)) (fun x5=>
 sw (!decide (x5=0))
 (some (.ret x5))
 (some (.next ())))
def EM(fu:Nat)(r_ivcheckType:mV)(r_ivcheckTypes:l3)(pv:bS)(pl:List aB):Option (Int⊕Unit):=
 loopN (sO fu r_ivcheckType r_ivcheckTypes pv pl) (pl.length-0) 0 ()
def zF(fu:Nat)(r_ivcheckType:mV)(r_ivcheckTypes:l3)(pv:bS)(pl:List aB):Option Int:=
 so (EM fu r_ivcheckType r_ivcheckTypes pv pl) (fun _=>
 some 0)
theorem MO(fu:Nat)(r_ivcheckType:mV)(r_ivcheckTypes:l3)(h_ivcheckType:r9 r_ivcheckType)(h_ivcheckTypes:t5 r_ivcheckTypes):t5 (zF fu r_ivcheckType r_ivcheckTypes):=by
 intro pv pl r H
 have H:=eE H
 refine qI func151 (fun C hC=>?_)
 refine qW (q1 (iM ([aN pv.gw.gPackages,rI pv.gvisible])) (q1 aE (qN ?_)))
 refine qS (qS (qR (q1 aE (q1 (dL eU (aB.trs_len _)) (q1 aE (qN ?_))))))
 refine lD 1 (aB.trs_len _) (fun hl2=>?_)
 refine b0 (σ:=Unit) (fun i1 _=>⟨[(2,.ptr 0 0),(4,pI 0),(8,a7 pl),(9,pN pl.length),(10,pN i1)],⟨[some ⟨136,[aN pv.gw.gPackages,rI pv.gvisible]⟩],[]⟩⟩) (fun _=>⟨[(4,pI 0)],⟨[some ⟨136,[aN pv.gw.gPackages,rI pv.gvisible]⟩],[]⟩⟩) (fK H) ?_ ?_
 ·rintro i1 ⟨⟩ H
  refine qW (q1 gI (qN (qS ?_)))
  refine dG H (fun h3 h3l H=>?_) (fun h3 H=>?_)
  ·have h3n:=a4 h3
   refine aR.skip (qS (aR.block (qW (q1 (kP h3n eU) (q1 (kM (aB.cs (aW pl i1)) cU) (q1 (fO jN) (q1 (bR jE) (qN (qW (q1 (cJ [aN pv.gw.gPackages,rI pv.gvisible] qE) (q1 (cJ [pI ((aW pl i1).gKind),pS ((aW pl i1).gName),a7 ((aW pl i1).gArgs)] cU) ?_)))))))))))
   refine bI H fun x5 z4 H=>(q1 (bG func106 (h_ivcheckType pv (aW pl i1) _ z4)) (q1 aE (qN (qW (q1 aE (q1 CI (qN ?_)))))))
   refine a8 H (fun h6 H=>?_) (fun h6 H=>?_)
   ·refine qS (qR ?_)
    iterate 2 refine q1 aE ?_
    refine qN (aR.ret ?_)
    obtain rfl:_=r:=(mT (aX H):)
    exact bE
   refine aR.skip (qR (q1 (rA (i1+1)) (q1 aE (qN ?_))))
   exact iI h3l ⟨_,(aX H:),bW⟩
  refine aR.exit ?_;exact jJ ⟨_,H,bW⟩
 rintro⟨⟩ H
 refine qW (q1 aE (qZ ?_))
 cases aX H
 exact bE
mutual
def eW:Nat→bS→aB→Option Int
 |0,_,_=>none
 |fu+1,pv,pt=>BC fu (eW fu) (gO fu) pv pt
def gO:Nat→bS→(List aB)→Option Int
 |0,_,_=>none
 |fu+1,pv,pl=>zF fu (eW fu) (gO fu) pv pl
end
theorem R2(fu:Nat):r9 (eW fu)∧t5 (gO fu):=by
 induction fu with
 |zero=>exact⟨(fun pv pt r H=>by simp only [eW] at H;cases H),(fun pv pl r H=>by simp only [gO] at H;cases H)⟩
 |succ fu ih=>exact⟨(fun pv pt r H=>by simp only [eW] at H;exact OT fu (eW fu) (gO fu) ih.1 ih.2 pv pt r H),(fun pv pl r H=>by simp only [gO] at H;exact MO fu (eW fu) (gO fu) ih.1 ih.2 pv pl r H)⟩
theorem zE(fu:Nat):r9 (eW fu):=(R2 fu).1
def UB(m:bS→aM→Option Int):Prop:= ∀(pv:bS) (pb:aM) (r:Int),m pv pb=some r→b4 Tryz.prog 109 [(bS.pv pv),(aM.pv pb)] (pI r:PV)
def t3(fu:Nat)(pv:bS)(pb:aM):Option Int:=
 bd (uV fu pv pb.gTrait) (fun(x2,x3)=>
 sw (!(x3))
 (some 3)
 (bd (eW fu pv pb.gType) (fun x6=>
 some x6)))
theorem R0(fu:Nat):UB (t3 fu):=by
 intro pv pb r H
 have H:=eE H
 refine qI func109 (fun C hC=>?_)
 refine qW (q1 (iM ([aN pv.gw.gPackages,rI pv.gvisible])) (q1 (iM (Y2 pb)) (q1 aE (qN ?_))))
 refine qS (qS (qR (q1 (cJ [aN pv.gw.gPackages,rI pv.gvisible] qE) (q1 (a5 ZB) (q1 (bD eJ) (fZ H fun x2 x3 z1 H=>(q1 (bG func155 (DI fu pv pb.gTrait _ z1)) (q1 aE ?_))))))))
 iterate 2 refine q1 AK ?_
 refine q1 (fO r3) (q1 (bR pL) (q1 aE (qN (qW (q1 aE (q1 hQ (qN ?_)))))))
 refine a8 H (fun h4 H=>?_) (fun h4 H=>?_)
 ·refine qW (q1 aE (qZ ?_))
  cases aX H
  exact bE
 refine aR.skip (qW (q1 (cJ [aN pv.gw.gPackages,rI pv.gvisible] qE) (q1 (a5 J2) (q1 (cJ [pI pb.gType.gKind,pS pb.gType.gName,a7 pb.gType.gArgs] cU) (bI H fun x6 z5 H=>(q1 (bG func106 (zE fu pv pb.gType _ z5)) (q1 aE (qZ ?_))))))))
 cases aX H
 exact bE
def WL(m:aF→Int→aM→Option Int):Prop:= ∀(pw:aF) (pi:Int) (pb:aM) (r:Int),m pw pi pb=some r→b4 Tryz.prog 49 [(aF.pv pw),pI pi,(aM.pv pb)] (pI r:PV)
def vI(fu:Nat)(pw:aF)(pi:Int)(pb:aM):Option Int:=
 bd (uU fu pw pi) (fun x2=>
 bd (t3 fu x2 pb) (fun x4=>
 some x4))
theorem T3(fu:Nat):WL (vI fu):=by
 intro pw pi pb r H
 have H:=eE H
 refine qI func49 (fun C hC=>?_)
 refine qW (q1 (iM ([aN pw.gPackages])) (q1 (iM (Y2 pb)) (q1 aE (qN (qS (bI H fun x2 z1 H=>(bI H fun x4 z3 H=>(dW (dD [3] (cJ [aN pw.gPackages] hZ) (dI [1] aE (dI [7,8] (bG func105 (J7 fu pw pi _ z1)) (dD [5] (cJ [pS pb.gTrait,pI pb.gType.gKind,pS pb.gType.gName,a7 pb.gType.gArgs] asH) ?_))))))))))))
 refine dI [9,10] (bG func109 (R0 fu x2 pb _ z3)) (dI [11] aE (dN (aR.ret ?_)))
 cases aX H
 exact bE
def ZF(m:aF→Int→aB→Option Int):Prop:= ∀(pw:aF) (pi:Int) (pt:aB) (r:Int),m pw pi pt=some r→b4 Tryz.prog 45 [(aF.pv pw),pI pi,(aB.pv pt)] (pI r:PV)
def tY(fu:Nat)(pw:aF)(pi:Int)(pt:aB):Option Int:=
 bd (uU fu pw pi) (fun x2=>
 bd (eW fu x2 pt) (fun x4=>
 some x4))
theorem IW(fu:Nat):ZF (tY fu):=by
 intro pw pi pt r H
 have H:=eE H
 refine qI func45 (fun C hC=>?_)
 refine qW (q1 (iM ([aN pw.gPackages])) (q1 (iM (eD pt)) (q1 aE (qN (qS (bI H fun x2 z1 H=>(bI H fun x4 z3 H=>(dW (dD [3] (cJ [aN pw.gPackages] hZ) (dI [1] aE (dI [7,8] (bG func105 (J7 fu pw pi _ z1)) (dD [5] (cJ [pI pt.gKind,pS pt.gName,a7 pt.gArgs] cU) ?_))))))))))))
 refine dI [9,10] (bG func106 (zE fu x2 pt _ z3)) (dI [11] aE (dN (aR.ret ?_)))
 cases aX H
 exact bE
end
end Go.Proofs.YtpioomclpaiomaaGreat.W
