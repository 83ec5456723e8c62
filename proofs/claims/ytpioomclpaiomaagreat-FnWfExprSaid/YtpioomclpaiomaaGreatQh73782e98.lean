/- Words, rules and walks of several kinds, laid together: PmX, PmY, PmZ, PmW, PmV, PmN, PmO, PmDS, PmK, PmM, PmU, PmT, PmDraw, PmB, PlZ, PmR, PmBool, Pma, PmF, PmS, PmEq, PmaB, PmG, Pg, Ph, PgD. No conditions but those that each theorem states. -/
import Derived.Test.YtpioomclpaiomaaGreatQh7b7fa178
import Derived.Test.YtpioomclpaiomaaGreatProg
import Derived.Laws.MakeOwn
set_option linter.unusedSimpArgs false
set_option linter.unusedVariables false
namespace Go.Proofs.YtpioomclpaiomaaGreat
open Go.RowKit Go.WalkArith Go.IntWalk Go.WideShapes
section
variable {P:Program} {C:qM} {n:Nat} {s:AS} {Q:Exit→AS→Prop} {o:Oper} {ops:Array Oper} {rest:List Oper}
theorem AL.splitB(d:Nat){b:Bool}{l:List Oper}(_hb:s.lk d=some (.t (.leaf (.bool b))))(h1:b=true→AL P C n ops l Q s)(h2:b=false→AL P C n ops l Q s):AL P C n ops l Q s:=by
 cases b
 ·exact h2 rfl
 ·exact h1 rfl
theorem AL.cons_gv{s1:AS}{j d:Nat}{b c:Bool}(hg:o.guard=some (j,c))(hj:(ops[j]?).bind (·.dst)=some d)(hb:s.lk d=some (.t (.leaf (.bool b))))(hv:b=c)(ho:a3 P C n o s s1)(h:AL P C n ops rest Q s1):AL P C n ops (o::rest) Q s:=by
 subst hv
 exact AL.cons_g hg hj hb ho h
theorem AL.skip_v{j d:Nat}{b c e:Bool}(hg:o.guard=some (j,c))(hj:(ops[j]?).bind (·.dst)=some d)(hb:s.lk d=some (.t (.leaf (.bool b))))(hv:b=e)(hne:(e==c)=false)(h:AL P C n ops rest Q (s.delO o.dst)):AL P C n ops (o::rest) Q s:=by
 subst hv
 exact AL.skip hg hj hb hne h
theorem a3.pickT{x y z:Operand}{b:Bool}{p:PV}(ho:o.op= .pick x y z)(hd:bO o.dst n=true)(hx:s.ev x=some (.t (.leaf (.bool b))))(hb:b=true)(hy:s.ev y=some p):a3 P C n o s (s.putO o.dst p):=
 a3.pick ho hd hx (fun _=>hy) (q:=p) (fun h=>by rw [hb] at h;cases h)
theorem a3.pickF{x y z:Operand}{b:Bool}{p:PV}(ho:o.op= .pick x y z)(hd:bO o.dst n=true)(hx:s.ev x=some (.t (.leaf (.bool b))))(hb:b=false)(hz:s.ev z=some p):a3 P C n o s (s.putO o.dst p):=
 a3.pick ho hd hx (fun h=>by rw [hb] at h;cases h) (q:=p) (fun _=>hz)
theorem a3.lenN{T:TypeId}{x:Operand}{p:PV}{sz N:Nat}{es:List (List Tr)}{E:Nat×Nat×Nat}(ho:o.op= .call { callee:= .builtin .len,args:= #[x],argTypes:= #[T] })(hd:bO o.dst n=true)(hx:s.ev x=some p)(hp:nM p=some (sz,es))(hT:elemOf? P T=some E)(hl:es.length=N):
 a3 P C n o s (s.putO o.dst (.t (.leaf (.int .i64 (N:Int))))):=by
 subst hl
 exact a3.len (ty:=0) ho hd hx hp hT
theorem S5(i:Nat){p:PV}{sz N:Nat}{es:List (List Tr)}(hx:s.lk i=some p)(hp:nM p=some (sz,es))(hl:es.length=N): ∀m a w,RA C n s m a w→N≤9223372036854775807:=by
 subst hl
 exact aq9 i hx hp
theorem CF{st':c8}(h:C.st=⟨[],[]⟩):lF C.st st':=by rw [h];exact lF.nil
end
theorem a4{a b:Nat}(h:decide ((a:Int)<(b:Int))=true):a<b:=by
 have:=of_decide_eq_true h
 omega
theorem alF{a b:Nat}(h:decide ((a:Int)<(b:Int))=false):b≤a:=by
 have:=of_decide_eq_false h
 omega
end Go.Proofs.YtpioomclpaiomaaGreat

namespace Go.Proofs.YtpioomclpaiomaaGreat
open Go.RowKit Go.WalkArith Go.IntWalk Go.WideShapes
section
variable {P:Program} {C:qM} {n:Nat} {s:AS} {Q:Exit→AS→Prop} {o:Oper}
theorem a3.quietX{p:PV}(hd:bO o.dst n=true)(h: ∀m a w,RA C n s m a w→ ∃v w1,(execOp a.eval o).run P w= .ok (.value v) w1∧IR w w1∧RV (lT C.av s.st m) s.st m w1 p v):a3 P C n o s (s.putO o.dst p):=
 a3.run hd (s1:=s) (fun m a w hr=>by
  obtain⟨v,w1,h1,h2,h3⟩:=h m a w hr
  exact⟨v,m,w1,h1,Ev.later h2,hr.sto.later h2,h3⟩) rfl
theorem a3.buildSlice_run{T E sz by_ len:Nat}{parts:Array (Nat×Operand)}{ps:List (Nat×List PV)}{zs cs:List PV}(ho:o.op= .buildSlice T len parts)(hT:elemOf? P T=some (E,sz,by_))(hz:cO P E=some zs)(hp:pH s parts.toList=some ps)
 (hc:uL (fun i=>some (i*sz,sz)) (List.replicate len zs).flatten ps=some cs) (hcl:cs.length=len*sz) (hsz:0<sz) (hzl:zs.length=sz) (hsm:len*sz≤16777216) {m:kA} {a:Act} {w:World} (h:RA C n s m a w):
 ∃us,(execOp a.eval o).run P w= .ok (.value (.slice (some ⟨w.heap.size,0,none⟩) len len)) (w.alloc (.cells ⟨us⟩ E))∧iK (lT C.av s.st m) s.st m w cs us∧len≤maxLen:=by
 obtain⟨i,hu,hi,hs,hby⟩:=elemOf?.spec hT
 obtain⟨i',z,hi',hzz,hr⟩:=cO.spec hz
 rw [hi] at hi'
 cases hi'
 have hzv:=hr (lT C.av s.st m) s.st m w
 have hzs:z.cells.size=sz:=by have:=hzv.length;rw [hzl] at this;simpa using this.symm
 have hrl: ∀e∈List.replicate len zs,e.length=sz:=fun e he=>by rw [(List.mem_replicate.1 he).2];exact hzl
 have hzero:iK (lT C.av s.st m) s.st m w (List.replicate len zs).flatten ((List.range (len*sz)).map (fun q=>z.cells[q%z.cells.size]!)):=by
  refine iK.of_get (by rw [pV hrl];simp) fun j p hj=>?_
  have hjl:j<len*sz:=by have:=dR hj;rw [pV hrl] at this;simpa using this
  have hj1:j/sz<len:=by rw [Nat.div_lt_iff_lt_mul hsz];exact hjl
  have hj2:j%sz<zs.length:=by rw [hzl];exact Nat.mod_lt _ hsz
  have hpj:=tG (i:=j/sz) (j:=j%sz) (e:=zs) (d:=zs[j%sz]) hrl (by rw [List.getElem?_replicate,if_pos hj1]) (List.getElem?_eq_getElem hj2)
  rw [show j/sz*sz+j%sz=j by rw [Nat.mul_comm];exact Nat.div_add_mod j sz,hj] at hpj
  cases hpj
  obtain⟨v,hv,hrv⟩:=hzv.get (List.getElem?_eq_getElem hj2)
  refine⟨v,?_,hrv⟩
  rw [List.getElem?_map,List.getElem?_range hjl]
  simp only [Option.map_some,hzs]
  rw [Array.getElem?_toList] at hv
  obtain⟨hlt,hve⟩:=Array.getElem?_eq_some_iff.1 hv
  rw [getElem!_pos z.cells _ hlt,hve]
 obtain⟨us,h2,h3⟩:=LV (G1 h hp) hzero hc
 have hul:us.length=len*sz:=by have:=h3.length;rw [hcl] at this;exact this.symm
 have hrun:(Instr.buildSlice T len (parts.map fun(i,x)=>(i,a.eval x))).run P w= .ok (.slice (some ⟨w.heap.size,0,none⟩) len len) (w.alloc (.cells ⟨us⟩ E)):=by
  have hfill:Instr.fill (fun i=>some (i*sz,sz)) ((Array.range (len*sz)).map (z.cells[· %z.cells.size]!)) (parts.map fun(i,x)=>(i,a.eval x)).toList=some ⟨us⟩:=by
   rw [Array.toList_map,← h2]
   congr 1
   apply Array.ext'
   simp
  by_cases h0:len*sz=0
  ·have hl0:len=0:=by
    rcases Nat.mul_eq_zero.1 h0 with h|h
    ·exact h
    ·omega
   subst hl0
   rw [Nat.zero_mul] at hfill
   simp [Instr.buildSlice,run_underlying hu,Go.sizeOf,typeInfo,hi,hs,newRow]
   have e0:(Array.range 0).map (fun q=>z.cells[q%z.cells.size]!)= #[]:=by simp
   rw [e0] at hfill
   simp at hfill
   have e1:(Array.range 0).map (fun _=>(default:Value))= #[]:=by simp
   rw [e1,hfill]
   simp
  ·exact run_buildSlice w T E len _ ⟨us⟩ i z hu hi hzz (by rw [hs];omega) (by rw [hs];exact h0) (by rw [hs];exact hfill)
 refine⟨us,?_,h3,by have:=Nat.le_mul_of_pos_right len hsz;unfold maxLen;omega⟩
 unfold execOp
 simp [ho,hrun]
theorem tS.length{ps qs:List PV}(h:tS ps qs):ps.length=qs.length:=by
 induction ps generalizing qs with
 |nil=>cases h;rfl
 |cons p ps ih=>cases h with|cons _ k=>rw [List.length_cons,List.length_cons,ih k]
theorem a3.buildSlice_lit{T E sz by_ len:Nat}{parts:Array (Nat×Operand)}{ps:List (Nat×List PV)}{zs cs:List PV}{es:List (List Tr)}(ho:o.op= .buildSlice T len parts)(hT:elemOf? P T=some (E,sz,by_))(hz:cO P E=some zs)(hp:pH s parts.toList=some ps)
 (hc:uL (fun i=>some (i*sz,sz)) (List.replicate len zs).flatten ps=some cs) (hle:tS cs (es.flatten.map PV.t)) (hel:es.length=len) (hes: ∀e∈es,e.length=sz) (hsz:0<sz) (hzl:zs.length=sz) (hsm:len*sz≤16777216):
 ∀m a w,RA C n s m a w→ ∃v w1,(execOp a.eval o).run P w= .ok (.value v) w1∧IR w w1∧RV (lT C.av s.st m) s.st m w1 (.lit sz es) v:=by
 intro m a w h
 obtain⟨us,h1,h3,hm⟩:=a3.buildSlice_run ho hT hz hp hc (by rw [hle.length,List.length_map,pV hes,hel]) hsz hzl hsm h
 have h4:=tS.rv hle h3
 have hx:IR w (w.alloc (.cells ⟨us⟩ E)):= .alloc (.refl _) _
 refine⟨.slice (some ⟨w.heap.size,0,none⟩) len len,w.alloc (.cells ⟨us⟩ E),h1,hx,?_⟩
 have hget: ∀q e,es[q]?=some e→ ∀j d,e[j]?=some d→ ∃v,us[q*sz+j]?=some v∧cL (lT C.av s.st m) (w.alloc (.cells ⟨us⟩ E)) d v:=fun q e hq j d hj=>by
  have hf:=tG (sz:=sz) hes hq hj
  obtain⟨v,hv,hrv⟩:=h4.get (j:=q*sz+j) (p:= .t d) (by rw [List.getElem?_map,hf];rfl)
  exact⟨v,hv,cL.ext hrv hx⟩
 have:=cL.row (ok:=lT C.av s.st m) (w:=w.alloc (.cells ⟨us⟩ E)) (es:=es) (sz:=sz) (a:=some ⟨w.heap.size,0,none⟩) (cap:=len) (fun q j=>(us[q*sz+j]?).getD undef) (by omega) hm (fun _=>⟨w.heap.size,0,rfl,by simp,fun q e hq j d hd=>⟨S6 h.sto (Nat.le_refl _) _,?_⟩⟩) (fun q e hq j d hd=>?_)
 ·subst hel
  exact⟨this,_,rfl⟩
 ·obtain⟨v,hv,-⟩:=hget q e hq j d hd
  rw [Nat.zero_add,(OB.new w E ⟨us⟩).cell,hv]
  simpa using hv
 ·obtain⟨v,hv,hr⟩:=hget q e hq j d hd
  rw [hv]
  exact hr
theorem a3.buildSliceL{T E sz by_ len:Nat}{parts:Array (Nat×Operand)}{ps:List (Nat×List PV)}{zs cs:List PV}{es:List (List Tr)}(ho:o.op= .buildSlice T len parts)(hd:bO o.dst n=true)(hT:elemOf? P T=some (E,sz,by_))(hz:cO P E=some zs)(hp:pH s parts.toList=some ps)
 (hc:uL (fun i=>some (i*sz,sz)) (List.replicate len zs).flatten ps=some cs) (hle:tS cs (es.flatten.map PV.t)) (hel:es.length=len) (hes: ∀e∈es,e.length=sz) (hsz:0<sz) (hzl:zs.length=sz) (hsm:len*sz≤16777216):
 a3 P C n o s (s.putO o.dst (.lit sz es)):=
 a3.quietX hd (a3.buildSlice_lit ho hT hz hp hc hle hel hes hsz hzl hsm)
theorem a3.less{p q:PV}(hle:PV.Le p q)(hdl:bO o.dst n=true)(h: ∀m a w,RA C n s m a w→ ∃v w1,(execOp a.eval o).run P w= .ok (.value v) w1∧IR w w1∧RV (lT C.av s.st m) s.st m w1 p v):a3 P C n o s (s.putO o.dst q):=
 a3.quietX hdl fun m a w hr=>by
  obtain⟨v,w1,h1,h2,h3⟩:=h m a w hr
  exact⟨v,w1,h1,h2,hle.rv h3⟩
theorem a3.buildSliceQ{T E sz by_ len:Nat}{parts:Array (Nat×Operand)}{ps:List (Nat×List PV)}{zs cs:List PV}{es:List (List Tr)}(ho:o.op= .buildSlice T len parts)(hd:bO o.dst n=true)(hT:elemOf? P T=some (E,sz,by_))(hz:cO P E=some zs)(hp:pH s parts.toList=some ps)
 (hc:uL (fun i=>some (i*sz,sz)) (List.replicate len zs).flatten ps=some cs) (hle:tS cs (es.flatten.map PV.t)) (hel:es.length=len) (hes: ∀e∈es,e.length=sz) (hsz:0<sz) (hzl:zs.length=sz) (hsm:len*sz≤16777216):
 a3 P C n o s (s.putO o.dst (.t (.row sz es))):=
 a3.less (.lit sz es) hd (a3.buildSlice_lit ho hT hz hp hc hle hel hes hsz hzl hsm)
def dP.steps(P:Program)(C:qM)(n:Nat)(D:dP):Nat→List Oper→Prop
 |_,[]=>True
 |i,o::l=>D.step P C n i o∧dP.steps P C n D (i+1) l
theorem dP.steps_get{D:dP}: ∀ {l:List Oper} {k:Nat},D.steps P C n k l→ ∀(i:Nat) (o:Oper),l[i]?=some o→D.step P C n (k+i) o
 | [],_,_,i,o,h=>by simp at h
 |x::l,k,hs,0,o,h=>by simp at h;subst h;exact hs.1
 |x::l,k,hs,i+1,o,h=>by
  have:=dP.steps_get (l:=l) (k:=k+1) hs.2 i o (by simpa using h)
  rwa [show k+1+i=k+(i+1) by omega] at this
theorem aR.drawnL{id:Nat}{l:List Oper}{s1:AS}(D:dP)(hD:D.ops=l.toArray)(hm:P.follows .mixedOrders=true)(hok:D.ok=true)(henv:s.env=D.env0)(hst:s.st=D.F 0 false)(hsteps:D.steps P C n 0 l)
 (h1:(⟨((List.range D.ops.size).filterMap (D.gX (Array.replicate D.ops.size true)))++D.env0,D.F D.effs.length D.alloc.isSome⟩:AS)=s1) (h:Q .normal s1):aR P C n (.region id l.toArray true) Q s:=by
 subst h1
 rw [← hD]
 refine aR.drawn D hm hok henv hst (fun i o ho=>?_) h
 have:=dP.steps_get hsteps i o (by rw [hD] at ho;simpa using ho)
 rwa [Nat.zero_add] at this
theorem dP.step.q1{D:dP}{i:Nat}{o:Oper}(lo:Nat)(wt:D.want o=some true)(hk:D.kind i= .q lo lo)
 (h: ∀(s':AS) (b:Bool),s'.st=D.F lo b→(∀t src p,(t,src)∈D.ins i→D.pv (t,src)=some p→s'.lk t=some p)→ ∃p,D.out i=some p∧a3 P C n o s' (s'.putO o.dst p)):D.step P C n i o:=
 .inl ⟨wt,by
  unfold dP.does
  rw [hk]
  exact fun s' j b h1 h2 hs hl=>by
   obtain rfl:j=lo:=by omega
   exact h s' b hs hl⟩
end
end Go.Proofs.YtpioomclpaiomaaGreat

namespace Go.Proofs.YtpioomclpaiomaaGreat
open Go.RowKit
def agO:kA:=⟨fun _=>0,fun _=>none⟩
def av0:Nat→Nat→Prop:=fun _ _=>False
theorem ok0(b o:Nat):lT av0 ⟨[],[]⟩ agO b o:=⟨fun h=>h,fun k x h=>by simp at h,fun r row g c h=>by simp at h⟩
theorem as6(w:World):gF av0 ⟨[],[]⟩ agO w where
 box:=fun k x h=>by simp at h
 binj:=fun k k' x x' h=>by simp at h
 row:=fun r row h=>by simp at h
 rinj:=fun r r' row row' g c c' h=>by simp at h
 br:=fun k x r row g c h=>by simp at h
 avlt:=fun b o h=>h.elim
 avr:=fun r row g c h=>by simp at h
 avb:=fun k x h=>by simp at h
theorem Ev.ext{m m':kA}{w w':World}{st':c8}(h:Ev ⟨[],[]⟩ m w st' m' w'):IR w w' where
 os:=h.os
 tape:=h.tape
 output:=h.output
 size:=h.size
 block:=fun b hb=>h.blk b hb (fun k x h=>by simp at h) (fun r row g c h=>by simp at h)
abbrev akR(w:World)(ps:List PV)(vs:List Value):Prop:=iK (lT av0 ⟨[],[]⟩ agO) ⟨[],[]⟩ agO w ps vs
abbrev RV0(w:World)(p:PV)(v:Value):Prop:=RV (lT av0 ⟨[],[]⟩ agO) ⟨[],[]⟩ agO w p v
theorem RV0.agg{w:World}{ts:List Tr}{cs:List Value}(h:qP w ts cs):RV0 w (.agg (ts.map PV.t)) (.agg ⟨cs⟩):=⟨cs,rfl,h.toRVL fun b o _=>ok0 b o⟩
theorem RV0.t{w:World}{t:Tr}{v:Value}(h:IS w t v):RV0 w (.t t) v:=h.repM fun b o _=>ok0 b o
theorem b4.plain{P:Program}{f:FuncId}{args:List PV}{d:Value}(h:b4 P f args (.t (.leaf d))){w:World}{vals:List Value}(hv:akR w args vals):Calls P f ⟨vals⟩ w fun e w'=>e= .returned d∧IR w w':=
 (h av0 agO w vals (as6 w) hv).mono fun e w'=>by
  rintro⟨res,st',m',v,rfl,⟨rfl,rfl⟩,-,he,hr⟩
  exact⟨by rw [(cL.leaf_eq hr).1],he.ext⟩
end Go.Proofs.YtpioomclpaiomaaGreat

namespace Go.Proofs.YtpioomclpaiomaaGreat
open Go.RowKit Go.WalkArith Go.IntWalk Go.WideShapes
theorem qJ(l:List ByteArray): ∀e∈aZ l,e.length=1:=fun e he=>by
 unfold aZ at he
 obtain⟨x,_,rfl⟩:=List.mem_map.1 he
 rfl
theorem vU(a b:List ByteArray):aZ a++aZ b=aZ (a++b):=by simp [aZ]
section
variable {P:Program} {C:qM} {n:Nat} {s:AS} {Q:Exit→AS→Prop} {o:Oper}
theorem aR.wk{s':AS}{c:Code}(hw:Wk C n s s')(h:aR P C n c Q s'):aR P C n c Q s:=fun m a w hr=>by
 obtain⟨m',h'⟩:=hw m a w hr
 exact h m' a w h'
theorem a3.appendE{T E sz by_:Nat}{x y:Operand}{es es2 es3:List (List Tr)}{r:Nat}{row:rP}{p:PV}(ho:o.op= .call { callee:= .builtin .append,args:= #[x,y],argTypes:= #[T,T] })(hd:bO o.dst n=true)
 (hx:s.ev x=some (.acc sz es r)) (hrow:s.st.rows[r]?=some row) (hes:row.es=es) (hE:row.E=E) (hw:row.whole=false) (hy:s.ev y=some p) (hp:nM p=some (sz,es2)) (h2: ∀e∈es2,e.length=sz)
 (hT:elemOf? P T=some (E,sz,by_)) (hz:(P.info? E).bind (fun i=>i.zero.map (fun z=>z.cells.size))=some sz) (hb:0<by_) (hlen:(es.length+es2.length)*by_≤140737488355328) (h3:es++es2=es3):
 a3 P C n o s ((⟨s.env,s.st.setRow r { row with es:=es3 }⟩:AS).putO o.dst (.acc sz es3 r)):=by
 subst h3
 exact a3.append ho hd hx hrow hes hE hw hy hp h2 hT hz hb hlen
theorem a3.callPE{f:FuncId}{fn:Func}{xs:List Operand}{ts:Array TypeId}{ps qs:List PV}{res:PV}{pre st' S:c8}(fb fr:List Nat)(ho:o.op= .call { callee:= .value (.func f),args:=⟨xs⟩,argTypes:=ts })(hd:bO o.dst n=true)(hf:P.funcs[f]?=some fn)(hnm:(fn.name== "runtime.NumGoroutine")=false)(hb:fn.body.isNone=false)
 (hx:xs.map s.ev=ps.map some) (hS:s.st=S) (hp:gA S pre fb fr) (hle:tS ps (DP fb fr qs)) (hok:l5 pre qs=true) (hbl:st'.boxes.length=pre.boxes.length) (hrl:st'.rows.length=pre.rows.length) (hc:c6 P f qs pre (fun r t=>r=res∧t=st')):
 a3 P C n o s ((⟨s.env,S.over st' fb fr⟩:AS).putO o.dst (PV.ren fb fr res)):=by
 subst hS
 exact a3.callP fb fr ho hd hf hnm hb hx hp hle hok hbl hrl hc
end
end Go.Proofs.YtpioomclpaiomaaGreat

namespace Go.Proofs.YtpioomclpaiomaaGreat
open Go.RowKit Go.WalkArith Go.IntWalk Go.WideShapes
theorem mA(b:Bool):b=true∨b=false:=by cases b<;>simp
section
variable {P:Program} {C:qM} {n:Nat} {s:AS} {o:Oper}
theorem b5(k j:Nat){bx:c5}{p:PV}{sz N:Nat}{es:List (List Tr)}(hb:s.st.boxes[k]?=some (some bx))(hx:bx.cells[j]?=some p)(hp:nM p=some (sz,es))(hl:es.length=N): ∀m a w,RA C n s m a w→N≤9223372036854775807:=by
 subst hl
 exact ao1 k j hb hx hp
theorem a3.indexI{T E sz by_:Nat}{x i:Operand}{p:PV}{es:List (List Tr)}{e:List Tr}{y:Int}(ho:o.op= .indexAddr T x i)(hd:bO o.dst n=true)(hx:s.ev x=some p)(hp:nM p=some (sz,es))(hi:s.ev i=some (.t (.leaf (.int .i64 y))))(h0:0≤y)
 (he:es[y.toNat]?=some e) (hT:elemOf? P T=some (E,sz,by_)):a3 P C n o s (s.putO o.dst (.eptr e)):=
 a3.index (k:=y.toNat) ho hd hx hp (by rw [hi,Int.toNat_of_nonneg h0]) he hT
end
end Go.Proofs.YtpioomclpaiomaaGreat

namespace Go.Proofs.YtpioomclpaiomaaGreat
open Go.RowKit Go.WalkArith Go.IntWalk Go.WideShapes
theorem N9{st:c8}{m:kA}{w w':World}{x:c5}{b:Nat}(hx:IR w w')(hb:w.heap.size≤b):Ev st m w (st.addBox x) ⟨ET m.ρ st.boxes.length b,m.γ⟩ w':=by
 refine⟨hx.os,hx.tape,hx.output,hx.size,fun b hb _ _=>hx.block b hb,fun b o hb _=>kV (hx.block b hb),fun c o hc h=>⟨fun k y hk=>?_,h.2⟩,fun k y hk=>⟨⟨y,?_⟩,?_⟩,fun k y hk=>?_,fun _ row h=>⟨row,h,rfl,Nat.le_refl _,fun _=>rfl,fun h=>⟨h,rfl⟩⟩,fun _ row _ c h h'=> .inl ⟨row,c,h,h'⟩⟩
 ·rcases gL hk with⟨h1,h2⟩|⟨rfl,rfl⟩
  ·simp only [eA (show k≠st.boxes.length by omega)]
   exact h.1 k y h2
  ·simp only [cG]
   omega
 ·show(st.boxes++ [some x])[k]?=_
  rw [List.getElem?_append_left (dR hk)];exact hk
 ·exact eA (by have:=dR hk;omega)
 ·rcases gL hk with⟨h1,h2⟩|⟨rfl,rfl⟩
  ·exact .inl ⟨y,h2⟩
  ·exact .inr (by simpa [cG] using hb)
theorem V5{av:Nat→Nat→Prop}{st:c8}{m:kA}{w w':World}{x:c5}{b:Nat}{vs:List Value}(h:gF av st m w)(hx:IR w w')(hb:w.heap.size≤b)(ho:OBp w' b x.ty vs)
 (hc:iK (lT av (st.addBox x) ⟨ET m.ρ st.boxes.length b,m.γ⟩) (st.addBox x) ⟨ET m.ρ st.boxes.length b,m.γ⟩ w' x.cells vs):gF av (st.addBox x) ⟨ET m.ρ st.boxes.length b,m.γ⟩ w':=by
 have he:Ev st m w (st.addBox x) ⟨ET m.ρ st.boxes.length b,m.γ⟩ w':=N9 hx hb
 have hw:=fun k y (hk:st.boxes[k]?=some (some y))=>h.box_lt hk
 refine⟨fun k y hk=>?_,fun k k' y y' hk hk' hne=>?_,fun r row hr=>?_,h.rinj,fun k y r row g c hk hr hg=>?_,fun b o hb=>Nat.lt_of_lt_of_le (h.avlt b o hb) hx.size,h.avr,fun k y hk o ha=>?_⟩
 ·rcases gL hk with⟨h1,h2⟩|⟨rfl,rfl⟩
  ·obtain⟨us,k1,k2⟩:=h.box k y h2
   simp only [eA (show k≠st.boxes.length by omega)]
   exact⟨us,k1.ext hx,iK.mono he _ _ k2⟩
  ·simp only [cG]
   exact⟨vs,ho,hc⟩
 ·rcases gL hk with⟨h1,h2⟩|⟨rfl,rfl⟩<;>rcases gL hk' with⟨h1',h2'⟩|⟨rfl,rfl⟩
  ·simp only [eA (show k≠st.boxes.length by omega),eA (show k'≠st.boxes.length by omega)]
   exact h.binj k k' y y' h2 h2' hne
  ·simp only [eA (show k≠st.boxes.length by omega),cG]
   have:=hw k y h2
   omega
  ·simp only [eA (show k'≠st.boxes.length by omega),cG]
   have:=hw k' y' h2'
   omega
  ·exact absurd rfl hne
 ·obtain⟨k1,k2,k3⟩:=h.row r row hr
  refine⟨k1,k2,?_⟩
  rcases k3 with k3|⟨g,c,cur,q1,q2,q3,q4,q5,q6⟩
  ·exact .inl k3
  ·exact .inr ⟨g,c,cur,q1,q2.ext hx,q3,q4,q5,RV.mono he (.t _) _ q6⟩
 ·rcases gL hk with⟨h1,h2⟩|⟨rfl,rfl⟩
  ·simp only [eA (show k≠st.boxes.length by omega)]
   exact h.br k y r row g c h2 hr hg
  ·simp only [cG]
   have:=h.row_lt hr hg
   omega
 ·rcases gL hk with⟨h1,h2⟩|⟨rfl,rfl⟩
  ·simp only [eA (show k≠st.boxes.length by omega)] at ha
   exact h.avb k y h2 o ha
  ·simp only [cG] at ha
   have:=h.avlt _ _ ha
   omega
def arU(P:Program)(f:FuncId)(args:List PV)(T:TypeId)(cs:List PV):Prop:=c6 P f args ⟨[],[]⟩ (fun r st'=> ∃k,r= .ptr k 0∧st'.rows= []∧(∀i x,st'.boxes[i]?=some (some x)→i=k)∧st'.boxes[k]?=some (some ⟨T,cs⟩))
section
variable {P:Program} {C:qM} {n:Nat} {s:AS} {o:Oper}
theorem a3.callNew{f:FuncId}{fn:Func}{xs:List Operand}{ts:Array TypeId}{ps qs cs:List PV}{T:TypeId}(ho:o.op= .call { callee:= .value (.func f),args:=⟨xs⟩,argTypes:=ts })(hd:bO o.dst n=true)(hf:P.funcs[f]?=some fn)(hnm:(fn.name== "runtime.NumGoroutine")=false)(hb:fn.body.isNone=false)
 (hx:xs.map s.ev=ps.map some) (hle:tS ps qs) (hfr:lB qs=true) (hfr':lB cs=true) (hc:arU P f qs T cs):a3 P C n o s ((⟨s.env,s.st.addBox ⟨T,cs⟩⟩:AS).putO o.dst (.ptr s.st.boxes.length 0)):=fun m a w h K Q hK=>by
 have h2:=evL h hx
 have h1:(execOp a.eval o).run P w= .ok (.enter f ⟨xs.map a.eval⟩) w:=by
  have hcf:=kR (P:=P) hf hnm hb
  unfold execOp
  simp only [ho]
  simp [resolve,invoke,Deferred.ofValue,Act.eval,hcf]
 unfold Oper.wp
 rw [h1]
 have h3:=hc (apN C s m w) m w _ (gF.nil fun b o hb=>hb.1) (lB.rv (fun b o hb hk=>⟨fun hs=>hs.2 hk,fun _ _ h=>by simp at h,fun _ _ _ _ h=>by simp at h⟩) _ _ hfr (tS.rv hle h2))
 refine Calls.mono h3 fun e w'=>?_;rintro⟨r,st',m',v,rfl,⟨k,rfl,hrows,honly,hbox⟩,h4,h5,h6⟩
 have hx:IR w w':=⟨h5.os,h5.tape,h5.output,h5.size,fun b hb=>h5.blk b hb (fun _ _ h=>by simp at h) (fun _ _ _ _ h=>by simp at h)⟩
 have hfresh:w.heap.size≤m'.ρ k:=by
  rcases h5.fresh k _ hbox with⟨x,hx0⟩|hf
  ·simp at hx0
  ·exact hf
 obtain⟨vs,hob,hcs⟩:=h4.box k _ hbox
 have hk: ∀b o,b<w'.heap.size→lT (apN C s m w) st' m' b o→lT C.av (s.st.addBox ⟨T,cs⟩) ⟨ET m.ρ s.st.boxes.length (m'.ρ k),m.γ⟩ b o:=fun b o hb hk=>by
  have hnew:m'.ρ k≠b:=hk.2.1 k _ hbox
  have h0:lT C.av s.st m b o:=by
   rcases Nat.lt_or_ge b w.heap.size with hlt|hge
   ·exact Classical.byContradiction fun hn=>hk.1 ⟨hlt,hn⟩
   ·exact S6 h.sto hge o
  refine⟨h0.1,fun i y hi=>?_,h0.2.2⟩
  rcases gL hi with⟨q1,q2⟩|⟨rfl,rfl⟩
  ·simp only [eA (show i≠s.st.boxes.length by omega)]
   exact h0.2.1 i y q2
  ·simp only [cG]
   exact hnew
 have hE:Ev s.st m w (s.st.addBox ⟨T,cs⟩) ⟨ET m.ρ s.st.boxes.length (m'.ρ k),m.γ⟩ w':=N9 hx hfresh
 have hS:gF C.av (s.st.addBox ⟨T,cs⟩) ⟨ET m.ρ s.st.boxes.length (m'.ρ k),m.γ⟩ w':=V5 h.sto hx hfresh hob (lB.rv hk _ _ hfr' hcs)
 have hv:v= .pointer (some ⟨m'.ρ k,0,none⟩):=h6.2
 exact hK _ _ w' ((h.step hE hS).put (c9 hd) ⟨⟨⟨T,cs⟩,by simp [c8.addBox]⟩,by simp [cG,hv]⟩)
end
end Go.Proofs.YtpioomclpaiomaaGreat

namespace Go.Proofs.YtpioomclpaiomaaGreat
open Go.RowKit Go.WalkArith Go.IntWalk Go.WideShapes
def DB(x y:Int):Int:=IntKind.wrap .i64 ((BitVec.ofInt 64 x&&& BitVec.ofInt 64 y).toNat:Int)
def T6(x y:Int):Int:=IntKind.wrap .i64 ((BitVec.ofInt 64 x^^^BitVec.ofInt 64 y).toNat:Int)
def t0(x y:Int):Int:=x.fdiv (2^(min y.toNat 64))
def aQ(x:Int):Int:=IntKind.wrap .i64 x
section
variable {P:Program} {C:qM} {n:Nat} {s:AS} {o:Oper}
theorem a3.moveAny{v:Value}(ho:o.op= .assign (.const v)∨o.op= .move (.const v)):a3 P C n o s (s.delO o.dst):=fun m a w h K Q hK=>by
 have h1:(execOp a.eval o).run P w= .ok (.value v) w:=by
  unfold execOp
  rcases ho with ho|ho<;>simp [ho,Act.eval]
 unfold Oper.wp
 rw [h1]
 exact hK m _ w (h.del o.dst v)
theorem a3.andI{T yT:TypeId}{x y:Operand}{a b:Int}(ho:o.op= .binOp .and T x y yT)(hd:bO o.dst n=true)(hx:s.ev x=some (.t (.leaf (.int .i64 a))))(hy:s.ev y=some (.t (.leaf (.int .i64 b)))):
 a3 P C n o s (s.putO o.dst (.t (.leaf (.int .i64 (DB a b))))):=a3.bin ho hd hx hy (fun w=>by rfl) (wf_wrap .i64 _)
theorem a3.xorI{T yT:TypeId}{x y:Operand}{a b:Int}(ho:o.op= .binOp .xor T x y yT)(hd:bO o.dst n=true)(hx:s.ev x=some (.t (.leaf (.int .i64 a))))(hy:s.ev y=some (.t (.leaf (.int .i64 b)))):
 a3 P C n o s (s.putO o.dst (.t (.leaf (.int .i64 (T6 a b))))):=a3.bin ho hd hx hy (fun w=>by rfl) (wf_wrap .i64 _)
theorem a3.shrI{T yT:TypeId}{x y:Operand}{a b:Int}{k:IntKind}(ho:o.op= .binOp .shr T x y yT)(hd:bO o.dst n=true)(hx:s.ev x=some (.t (.leaf (.int .i64 a))))(hy:s.ev y=some (.t (.leaf (.int k b))))(hb:0≤b)(h1: -9223372036854775808≤t0 a b)(h2:t0 a b≤9223372036854775807):
 a3 P C n o s (s.putO o.dst (.t (.leaf (.int .i64 (t0 a b))))):=a3.bin ho hd hx hy (fun w=>by
  have: ¬b<0:=by omega
  simp [eqGuard,binOp,Op.shift,t0,IntKind.bits,this]) (wf_i64 (by omega))
theorem a3.remN{T yT:TypeId}{x y:Operand}{a b:Nat}(ho:o.op= .binOp .rem T x y yT)(hd:bO o.dst n=true)(hx:s.ev x=some (.t (.leaf (.int .i64 (a:Int)))))(hy:s.ev y=some (.t (.leaf (.int .i64 (b:Int)))))(hb:0<b)(ha:a≤9223372036854775807):
 a3 P C n o s (s.putO o.dst (.t (.leaf (.int .i64 ((a%b:Nat):Int))))):=a3.bin ho hd hx hy (fun w=>by
  have: ¬(b:Int)=0:=by omega
  have: ¬b=0:=by omega
  simp [eqGuard,binOp,Op.intDiv,this,Int.tmod_eq_emod_of_nonneg]) (wf_i64 (by have:=Nat.mod_le a b;omega))
theorem a3.convI{S T:TypeId}{x:Operand}{k:IntKind}{a:Int}(ho:o.op= .convert S T x)(hd:bO o.dst n=true)(hx:s.ev x=some (.t (.leaf (.int k a))))(hS: ∃k',P.underlying S=some (.int k'))(hT:P.underlying T=some (.int .i64))(h1: -9223372036854775808≤a)(h2:a≤9223372036854775807):
 a3 P C n o s (s.putO o.dst (.t (.leaf (.int .i64 a)))):=
 a3.quiet (c9 hd) fun m ac w h=>⟨.int .i64 a,by
  have h3:=(cL.leaf_eq (h.eval hx)).1
  obtain⟨k',hS⟩:=hS
  have hw:IntKind.wrap .i64 a=a:=by unfold IntKind.wrap;simp [IntKind.bits,IntKind.signed];omega
  unfold execOp
  simp [ho,h3,convert,run_underlying hS,run_underlying hT,Conv.intToInt,hw],cL.leaf (wf_i64 (by omega))⟩
end
end Go.Proofs.YtpioomclpaiomaaGreat

namespace Go.Proofs.YtpioomclpaiomaaGreat
open Go.RowKit Go.Proofs
def cM(l:List UInt8):List (List Tr):=l.map fun b=> [.leaf (.int .u8 (b.toNat:Int))]
theorem iB(l:List UInt8):(cM l).length=l.length:=by simp [cM]
theorem yV{l:List UInt8}{k:Nat}(h:k<l.length):(cM l)[k]?=some [.leaf (.int .u8 ((l[k]).toNat:Int))]:=by simp [cM,h]
structure DS where
 code:List UInt8
 p:Nat
 h:Int
def DS.cells(d:DS):List PV:= [.t (.row 1 (cM d.code)),.t (.leaf (.int .i64 (d.p:Int))),.t (.leaf (.int .i64 d.h))]
abbrev DS.box(T:TypeId)(d:DS):c8:=⟨[some ⟨T,d.cells⟩],[]⟩
def FV(h:Int):Int:=aQ (aQ (h*6364136223846793005)+1442695040888963407)
theorem HJ(x:Int): -9223372036854775808≤aQ x∧aQ x≤9223372036854775807:=by
 unfold aQ IntKind.wrap
 simp [IntKind.bits,IntKind.signed]
 omega
theorem S4{x y:Int}(h: -9223372036854775808≤x∧x≤9223372036854775807): -9223372036854775808≤t0 x y∧t0 x y≤9223372036854775807:=by
 unfold t0
 generalize min y.toNat 64=k
 have hp:(1:Int)≤2^k:=by
  have:=Nat.one_le_two_pow (n:=k)
  exact_mod_cast this
 generalize(2:Int)^k=d at hp
 rw [Int.fdiv_eq_ediv_of_nonneg _ (by omega)]
 have h1:x/d≤9223372036854775807:=by
  have:x/d≤9223372036854775807/d:=Int.ediv_le_ediv (by omega) h.2
  have:(9223372036854775807:Int)/d≤9223372036854775807:=Int.ediv_le_self _ (by omega)
  omega
 have h2: -9223372036854775808≤x/d:=by
  rw [Int.le_ediv_iff_mul_le (by omega)]
  omega
 exact⟨h2,h1⟩
def DS.byte(d:DS):Int:=let x:=DB (T6 (t0 (FV d.h) 33) (t0 (FV d.h) 45)) 255;if h:d.p<d.code.length then DB (aQ (x+(d.code[d.p].toNat:Int))) 255 else x
def DS.next(d:DS):DS:=⟨d.code,if d.p<d.code.length then d.p+1 else d.p,FV d.h⟩
theorem acO(x:Int):0≤DB x 255∧DB x 255≤255:=by
 unfold DB
 have h:(BitVec.ofInt 64 x&&& BitVec.ofInt 64 255).toNat≤255:=by
  rw [BitVec.toNat_and]
  exact Nat.le_trans Nat.and_le_right (by decide)
 generalize(BitVec.ofInt 64 x&&& BitVec.ofInt 64 255).toNat=k at h
 unfold IntKind.wrap
 simp [IntKind.bits,IntKind.signed]
 omega
theorem DS.byte_in(d:DS):0≤d.byte∧d.byte≤255:=by
 unfold DS.byte
 split
 ·exact acO _
 ·exact acO _
def DS.byteN(d:DS):Nat:=d.byte.toNat
theorem DS.byteN_le(d:DS):d.byteN≤255:=by have:=d.byte_in;unfold DS.byteN;omega
theorem DS.byteN_eq(d:DS):((d.byteN:Nat):Int)=d.byte:=by have:=d.byte_in;unfold DS.byteN;omega
def DS.below(d:DS)(n:Nat):Nat:=if n=0 then 0 else if n≤256 then d.byteN%n else(d.byteN*16777216+d.next.byteN*65536+d.next.next.byteN*256+d.next.next.next.byteN)%n
def DS.after(d:DS)(n:Nat):DS:=if n=0 then d else if n≤256 then d.next else d.next.next.next.next
theorem DS.below_lt(d:DS){n:Nat}(h:0<n):d.below n<n:=by
 unfold DS.below
 rw [if_neg (by omega)]
 split
 ·exact Nat.mod_lt _ h
 ·exact Nat.mod_lt _ h
def DS.pick(d:DS)(l:List ByteArray):ByteArray:=(l[d.below l.length]?).getD ⟨#[]⟩
theorem DS.pick_eq{d:DS}{l:List ByteArray}(h:d.below l.length<l.length):d.pick l=l[d.below l.length]:=by simp [DS.pick,h]
def G0(h:Int)(b:UInt8):Int:=DB (aQ (aQ (aQ (h*131)+(b.toNat:Int))+7)) 1073741823
def ar4(code:List UInt8):Int:=(code.take 4000).foldl G0 (28803+(code.length:Int))
def DS.start(code:List UInt8):DS:=⟨code,0,ar4 code⟩
theorem alG{code:List UInt8}{i:Nat}{h h' r:Int}(h1:i<code.length)(h2:i<4000)(hr:r=((code.take 4000).drop i).foldl G0 h)(hs:G0 h code[i]=h'):r=((code.take 4000).drop (i+1)).foldl G0 h':=by
 have hl:i<(code.take 4000).length:=by simp;omega
 rw [hr,List.drop_eq_getElem_cons hl,List.foldl_cons,List.getElem_take,hs]
theorem ac3{code:List UInt8}{i:Nat}{h r:Int}(h1:code.length≤i∨4000≤i)(hr:r=((code.take 4000).drop i).foldl G0 h):r=h:=by
 rw [hr,List.drop_of_length_le (by simp;omega),List.foldl_nil]
theorem uY{C:qM}{x:c5}{S:c8}(h:C.st=⟨[some x],[]⟩)(hs: ∃y,S.boxes[0]?=some (some y)):lF C.st S:=by
 rw [h]
 exact⟨fun k z hz=>by
  rcases k with _|k
  ·exact hs
  ·simp at hz,fun r row hr=>by simp at hr⟩
end Go.Proofs.YtpioomclpaiomaaGreat

namespace Go.Proofs.YtpioomclpaiomaaGreat
open Go.RowKit Go.WalkArith Go.IntWalk Go.WideShapes
section
variable {P:Program} {C:qM} {n:Nat} {s:AS} {o:Oper}
end
end Go.Proofs.YtpioomclpaiomaaGreat

namespace Go.Proofs.YtpioomclpaiomaaGreat
open Go.RowKit Go.WalkArith Go.IntWalk Go.WideShapes
mutual
inductive Mv (sz:Nat) (es:List (List Tr)) (k k':Nat):PV→PV→Prop
 |acc:Mv sz es k k' (.acc sz es k) (.acc sz es k')
 |free (p:PV):PV.free p=true→Mv sz es k k' p p
 |agg {ps qs:List PV}:CU sz es k k' ps qs→Mv sz es k k' (.agg ps) (.agg qs)
 |tup {ps qs:List PV}:CU sz es k k' ps qs→Mv sz es k k' (.tup ps) (.tup qs)
inductive CU (sz:Nat) (es:List (List Tr)) (k k':Nat):List PV→List PV→Prop
 |nil:CU sz es k k' [] []
 |cons {p q:PV} {ps qs:List PV}:Mv sz es k k' p q→CU sz es k k' ps qs→CU sz es k k' (p::ps) (q::qs)
end
section
variable {ok ok':Nat→Nat→Prop} {st st':c8} {m m':kA} {w:World} {sz k k':Nat} {es:List (List Tr)}
mutual
theorem Mv.rv(hk: ∀b o,b<w.heap.size→ok b o→ok' b o)(hrow: ∀row,st.rows[k]?=some row→st'.rows[k']?=some row∧m'.γ k'=m.γ k): ∀ {p q:PV} {v:Value},Mv sz es k k' p q→RV ok st m w p v→RV ok' st' m' w q v
 |_,_,_,.acc,h=>by
  obtain⟨row,h1,h2,h3,h4,h5⟩:=h
  obtain⟨k1,k2⟩:=hrow row h1
  exact⟨row,k1,h2,h3,cL.mono h4 (Nat.le_refl _) hk (fun _ _ _ _=>rfl),fun e=>by rw [k2];exact h5 e⟩
 |_,_,_,.free p hf,h=>PV.free.rv hk p _ hf h
 |_,_,_,.agg hl,h=>by
  obtain⟨vs,hv,h1⟩:=h
  exact⟨vs,hv,CU.rv hk hrow hl h1⟩
 |_,_,_,.tup hl,h=>by
  obtain⟨vs,hv,h1⟩:=h
  exact⟨vs,hv,CU.rv hk hrow hl h1⟩
theorem CU.rv(hk: ∀b o,b<w.heap.size→ok b o→ok' b o)(hrow: ∀row,st.rows[k]?=some row→st'.rows[k']?=some row∧m'.γ k'=m.γ k): ∀ {ps qs:List PV} {vs:List Value},CU sz es k k' ps qs→iK ok st m w ps vs→iK ok' st' m' w qs vs
 |_,_,[],.nil,h=>h
 |_,_,_::_,.nil,h=>h.elim
 |_,_,[],.cons _ _,h=>h.elim
 |_,_,_::_,.cons h1 h2,h=>⟨Mv.rv hk hrow h1 h.1,CU.rv hk hrow h2 h.2⟩
end
end
mutual
theorem PV.free.ren{fb fr:List Nat}: ∀(p:PV),PV.free p=true→PV.ren fb fr p=p
 | .t _,_=>rfl
 | .agg cs,h=>by rw [PV.ren,lB.ren cs h]
 | .tup cs,h=>by rw [PV.ren,lB.ren cs h]
 | .nil,_=>rfl
 | .eptr _,_=>rfl
 | .fn f cs,h=>by rw [PV.ren,lB.ren cs h]
 | .acc _ _ _,h=>by cases h
 | .ptr _ _,h=>by cases h
 | .full _ _ _,h=>by cases h
 | .rptr _ _,h=>by cases h
 | .lit _ _,h=>by cases h
 | .bsl _ _,h=>by cases h
 | .gsl _ _,h=>by cases h
theorem lB.ren{fb fr:List Nat}: ∀(ps:List PV),lB ps=true→DP fb fr ps=ps
 | [],_=>rfl
 |p::ps,h=>by
  simp only [lB,Bool.and_eq_true] at h
  rw [DP,PV.free.ren p h.1,lB.ren ps h.2]
end
section
variable {av:Nat→Nat→Prop} {s pre st':c8} {m m':kA} {fb:List Nat} {w w':World} {k:Nat} {row:rP}
theorem anR(h:gA s pre fb [])(hpr:pre.rows= [])(hs:gF av s m w)(hst:gF (JA av s pre m fb [] w) st' m' w')(he:Ev pre (m.via fb []) w st' m' w')(hbl:st'.boxes.length=pre.boxes.length)
 (hfree: ∀(j:Nat) (x:c5),st'.boxes[j]?=some (some x)→lB x.cells=true) (hrow:st'.rows[k]?=some row):
 Ev s m w ⟨(s.over ⟨st'.boxes,[]⟩ fb []).boxes,s.rows++ [row]⟩ ⟨m.ρ,ET m.γ s.rows.length (m'.γ k)⟩ w'∧gF av ⟨(s.over ⟨st'.boxes,[]⟩ fb []).boxes,s.rows++ [row]⟩ ⟨m.ρ,ET m.γ s.rows.length (m'.γ k)⟩ w'∧
 (∀b o,b<w'.heap.size→lT (JA av s pre m fb [] w) st' m' b o→lT av ⟨(s.over ⟨st'.boxes,[]⟩ fb []).boxes,s.rows++ [row]⟩ ⟨m.ρ,ET m.γ s.rows.length (m'.γ k)⟩ b o):=by
 have pb: ∀(i j:Nat),fb[j]?=some i→ ∃(x y:c5),pre.boxes[j]?=some (some x)∧s.boxes[i]?=some (some y)∧fb.getD j 0=i∧m'.ρ j=m.ρ i∧ ∃x':c5,st'.boxes[j]?=some (some x'):=fun i j hj=>by
  obtain⟨x,hx⟩:=h.all j (by rw [← h.fbl];exact dR hj)
  obtain⟨y,hy,-⟩:=h.box j x hx
  have e:fb.getD j 0=i:=by simp [List.getD_eq_getElem?_getD,hj]
  rw [e] at hy
  obtain⟨h1,h2⟩:=he.live j x hx
  exact⟨x,y,hx,hy,e,by rw [h2];show m.ρ (fb.getD j 0)=_;rw [e],h1⟩
 have ob: ∀(i:Nat) (z:c5),(s.over ⟨st'.boxes,[]⟩ fb []).boxes[i]?=some (some z)→(∃(j:Nat) (x:c5),fb[j]?=some i∧st'.boxes[j]?=some (some x)∧z=x.ren fb []∧i<s.boxes.length)∨(idx? fb i=none∧s.boxes[i]?=some (some z)):=fun i z hi=>UN (st':=⟨st'.boxes,[]⟩) hi
 have lv: ∀(i:Nat) (z:c5),(s.over ⟨st'.boxes,[]⟩ fb []).boxes[i]?=some (some z)→ ∃y:c5,s.boxes[i]?=some (some y):=fun i z hi=>by
  rcases ob i z hi with⟨j,x,h1,-⟩|⟨-,h2⟩
  ·obtain⟨-,y,-,hy,-⟩:=pb i j h1
   exact⟨y,hy⟩
  ·exact⟨z,h2⟩
 have hfresh: ∀g c,m'.γ k=some (g,c)→w.heap.size≤g:=fun g c hg=>by
  rcases he.rfresh k row g c hrow hg with⟨row0,c0,hr,-⟩|hf
  ·rw [hpr] at hr;simp at hr
  ·exact hf
 have rk: ∀(i:Nat) (z:rP) (g c:Nat),(s.rows++ [row])[i]?=some z→ET m.γ s.rows.length (m'.γ k) i=some (g,c)→(s.rows[i]?=some z∧m.γ i=some (g,c))∨(i=s.rows.length∧z=row∧m'.γ k=some (g,c)):=fun i z g c hi hg=>by
  rcases getElem?_snoc hi with⟨h1,h2⟩|⟨rfl,rfl⟩
  ·rw [eA (show i≠s.rows.length by omega)] at hg
   exact .inl ⟨h2,hg⟩
  ·simp only [cG] at hg
   exact .inr ⟨rfl,rfl,hg⟩
 have okk: ∀b o,b<w.heap.size→s.ok m b o→c8.ok ⟨(s.over ⟨st'.boxes,[]⟩ fb []).boxes,s.rows++ [row]⟩ ⟨m.ρ,ET m.γ s.rows.length (m'.γ k)⟩ b o:=fun b o hb hk=>by
  refine⟨fun i z hi=>?_,fun i z g c hi hg e=>?_⟩
  ·obtain⟨y,hy⟩:=lv i z hi
   exact hk.1 i y hy
  ·rcases rk i z g c hi hg with⟨h1,h2⟩|⟨-,-,h3⟩
   ·exact hk.2 i z g c h1 h2 e
   ·have:=hfresh g c h3;omega
 have ev:Ev s m w ⟨(s.over ⟨st'.boxes,[]⟩ fb []).boxes,s.rows++ [row]⟩ ⟨m.ρ,ET m.γ s.rows.length (m'.γ k)⟩ w':=by
  refine⟨he.os,he.tape,he.output,he.size,fun b hb h1 h2=>he.blk b hb (fun i x hi=>?_) (fun r row0 g c hr _=>?_),fun b o hb hk=>he.cell b o hb (h.ok (av:=fun _ _=>False) (w:=w) ⟨id,hk⟩).2,okk,fun i y hi=>⟨?_,rfl⟩,fun i z hi=> .inl (lv i z hi),fun i row0 hi=>⟨row0,?_,rfl,Nat.le_refl _,fun _=>?_,fun hw=>⟨hw,?_⟩⟩,fun i z g c hi hg=>?_⟩
  ·obtain⟨y,hy,-⟩:=h.box i x hi
   exact h1 _ y hy
  ·rw [hpr] at hr;simp at hr
  ·cases hq:idx? fb i with
   |none=>exact⟨y,by unfold c8.over;simp [List.getElem?_zipIdx,hi,hq]⟩
   |some j=>
    obtain⟨-,-,-,-,-,-,x',hx'⟩:=pb i j (idx?_some hq)
    exact⟨x'.ren fb [],by unfold c8.over;simp [List.getElem?_zipIdx,hi,hq,List.getD_eq_getElem?_getD,hx']⟩
  ·show(s.rows++ [row])[i]?=_
   rw [List.getElem?_append_left (dR hi)];exact hi
  ·exact eA (by have:=dR hi;omega)
  ·exact eA (by have:=dR hi;omega)
  ·rcases rk i z g c hi hg with⟨h1,h2⟩|⟨-,-,h3⟩
   ·exact .inl ⟨z,c,h1,h2⟩
   ·exact .inr (hfresh g c h3)
 have back: ∀b o,b<w'.heap.size→lT (JA av s pre m fb [] w) st' m' b o→lT av ⟨(s.over ⟨st'.boxes,[]⟩ fb []).boxes,s.rows++ [row]⟩ ⟨m.ρ,ET m.γ s.rows.length (m'.γ k)⟩ b o:=fun b o _ hk=>by
  rcases Nat.lt_or_ge b w.heap.size with hlt|hge
  ·by_cases hA:lT av s m b o
   ·exact⟨hA.1,okk b o hlt hA.2⟩
   ·by_cases hB: ∃i x,pre.boxes[i]?=some (some x)∧m.ρ (fb.getD i 0)=b
    ·obtain⟨i,x,h1,h2⟩:=hB
     obtain⟨⟨x',h3⟩,h4⟩:=he.live i x h1
     exact absurd (h4.trans h2) (hk.2.1 i x' h3)
    ·exact absurd ⟨hlt,hA,fun i x h1 h2=>hB ⟨i,x,h1,h2⟩,fun r row0 g c h1 h2 h3=>by rw [hpr] at h1;simp at h1⟩ hk.1
  ·refine⟨fun ho=>by have:=hs.avlt _ _ ho;omega,fun i z hi=>?_,fun i z g c hi hg e=>?_⟩
   ·obtain⟨y,hy⟩:=lv i z hi
    have:=hs.box_lt hy
    show m.ρ i≠b
    omega
   ·rcases rk i z g c hi hg with⟨h1,h2⟩|⟨-,rfl,h3⟩
    ·have:=hs.row_lt h1 h2
     omega
    ·exact hk.2.2 k _ g c hrow h3 e
 refine⟨ev,⟨fun i z hi=>?_,fun i i' z z' hi hi' hne=>?_,fun i z hi=>?_,fun i i' z z' g c c' hi hi' hg hg'=>?_,fun i z r row0 g c hi hr hg=>?_,fun b o hb=>Nat.lt_of_lt_of_le (hs.avlt b o hb) he.size,fun i z g c hi hg o ho=>?_,fun i z hi=>by obtain⟨y,hy⟩:=lv i z hi;exact hs.avb i y hy⟩,back⟩
 ·rcases ob i z hi with⟨j,x,h1,h2,rfl,-⟩|⟨h1,h2⟩
  ·obtain⟨-,-,-,-,-,h4,-⟩:=pb i j h1
   obtain⟨vs,k1,k2⟩:=hst.box j x h2
   refine⟨vs,?_,?_⟩
   ·show OBp w' (m.ρ i) _ _
    rw [← h4]
    exact k1
   ·show iK _ _ _ _ (DP fb [] x.cells) vs
    rw [lB.ren _ (hfree j x h2)]
    exact lB.rv back _ _ (hfree j x h2) k2
  ·obtain⟨vs,k1,k2⟩:=hs.box i z h2
   refine⟨vs,k1.keep (he.blk _ k1.lt (fun j x hj=>?_) (fun r row0 g c hr _=>?_)),iK.mono ev _ _ k2⟩
   ·obtain⟨y,hy,-⟩:=h.box j x hj
    have hj':=r6 (l:=fb) (k:=j) (by rw [h.fbl];exact dR hj)
    exact hs.binj _ _ y z hy h2 (fun e=>idx?_none h1 j (by rw [hj',e]))
   ·rw [hpr] at hr;simp at hr
 ·obtain⟨y,hy⟩:=lv i z hi
  obtain⟨y',hy'⟩:=lv i' z' hi'
  exact hs.binj i i' y y' hy hy' hne
 ·rcases getElem?_snoc hi with⟨h1,h2⟩|⟨rfl,rfl⟩
  ·obtain⟨k1,k2,k3⟩:=hs.row i z h2
   refine⟨k1,k2,?_⟩
   simp only [eA (show i≠s.rows.length by omega)]
   rcases k3 with k3|⟨g,c,cur,q1,q2,q3,q4,q5,q6⟩
   ·exact .inl k3
   ·refine .inr ⟨g,c,cur,q1,(he.blk g q2.lt (fun j x hj e=>?_) (fun r row0 g' c' hr _=>?_)).trans q2,q3,q4,q5,RV.mono ev (.t _) _ q6⟩
    ·obtain⟨y,hy,-⟩:=h.box j x hj
     exact hs.br _ y i z g c hy h2 q1 e
    ·rw [hpr] at hr;simp at hr
  ·obtain⟨k1,k2,k3⟩:=hst.row k _ hrow
   refine⟨k1,k2,?_⟩
   simp only [cG]
   rcases k3 with k3|⟨g,c,cur,q1,q2,q3,q4,q5,q6⟩
   ·exact .inl k3
   ·exact .inr ⟨g,c,cur,q1,q2,q3,q4,q5,cL.mono q6 (Nat.le_refl _) back (fun _ _ _ _=>rfl)⟩
 ·rcases rk i z g c hi hg with⟨h1,h2⟩|⟨h1,-,h3⟩<;>rcases rk i' z' g c' hi' hg' with⟨h1',h2'⟩|⟨h1',-,h3'⟩
  ·exact hs.rinj i i' z z' g c c' h1 h1' h2 h2'
  ·have:=hs.row_lt h1 h2
   have:=hfresh g c' h3'
   omega
  ·have:=hs.row_lt h1' h2'
   have:=hfresh g c h3
   omega
  ·omega
 ·obtain⟨y,hy⟩:=lv i z hi
  rcases rk r row0 g c hr hg with⟨h1,h2⟩|⟨-,-,h3⟩
  ·exact hs.br i y r row0 g c hy h1 h2
  ·have:=hs.box_lt hy
   have:=hfresh g c h3
   show m.ρ i≠g
   omega
 ·rcases rk i z g c hi hg with⟨h1,h2⟩|⟨-,-,h3⟩
  ·exact hs.avr i z g c h1 h2 o ho
  ·have:=hs.avlt _ _ ho
   have:=hfresh g c h3
   omega
end
def o5:List (Option c5)→Bool
 | []=>true
 |none::l=>o5 l
 |some x::l=>lB x.cells&&o5 l
theorem o5.get: ∀ {l:List (Option c5)} {j:Nat} {x:c5},o5 l=true→l[j]?=some (some x)→lB x.cells=true
 | [],_,_,_,h=>by simp at h
 |none::l,0,_,_,h=>by simp at h
 |none::l,j+1,x,hf,h=>o5.get (l:=l) (j:=j) hf (by simpa using h)
 |some y::l,0,x,hf,h=>by
  simp at h
  subst h
  simp only [o5,Bool.and_eq_true] at hf
  exact hf.1
 |some y::l,j+1,x,hf,h=>by
  simp only [o5,Bool.and_eq_true] at hf
  exact o5.get (l:=l) (j:=j) hf.2 (by simpa using h)
def CV(P:Program)(f:FuncId)(args:List PV)(pre:c8)(B:List (Option c5))(E:TypeId)(sz:Nat)(es:List (List Tr))(R:Nat→PV):Prop:=
 c6 P f args pre (fun r t=> ∃k,r=R k∧t.boxes=B∧t.rows[k]?=some ⟨E,sz,es,false⟩)
theorem yP.refl{st:c8}: ∀ {B:List (Option c5)},(∀x,some x∈B→l5 st x.cells=true)→yP st B B
 | [],_=>trivial
 |none::B,h=>yP.refl (B:=B) fun x hx=>h x (List.mem_cons_of_mem _ hx)
 |some x::B,h=>⟨⟨rfl,tS.refl _,h x (by simp)⟩,yP.refl (B:=B) fun y hy=>h y (List.mem_cons_of_mem _ hy)⟩
def S7(st:c8)(B:List (Option c5)):Bool:=B.all fun x=>match x with
 |none=>true
 |some x=>l5 st x.cells
theorem S7.mem{st:c8}{B:List (Option c5)}(h:S7 st B=true)(x:c5)(hx:some x∈B):l5 st x.cells=true:=by
 have:=List.all_eq_true.1 h _ hx
 exact this
theorem CV.plain{P:Program}{f:FuncId}{args:List PV}{pre:c8}{B:List (Option c5)}{E:TypeId}{sz:Nat}{es:List (List Tr)}{R:Nat→PV}{D:PV}(h:CV P f args pre B E sz es R)(hle: ∀k,PV.Le (R k) D)(hk:PV.okIn ⟨B,[]⟩ D=true:=by exact rfl)(hb:S7 ⟨B,[]⟩ B=true:=by exact rfl)(hp:lF pre ⟨B,[]⟩):c6 P f args pre (fun q t=>q=D∧t=⟨B,[]⟩):=fun av m w vals hst hv=>by
 refine(h av m w vals hst hv).mono fun e w'=>?_;rintro⟨r,st',m',v,k1,⟨k,rfl,rfl,-⟩,k3,k4,k5⟩
 have hl:nU st' ⟨st'.boxes,[]⟩:=nU.mk' (yP.refl (S7.mem hb)) rfl
 exact⟨D,⟨st'.boxes,[]⟩,m',v,k1,⟨rfl,rfl⟩,hl.sto k3,hl.ev k4 hp,hl.rv D _ hk ((hle k).rv k5)⟩
theorem agM{st:c8}:lF ⟨[],[]⟩ st:=lF.nil
theorem aq6{bs bs':List (Option c5)}(h: ∀(k:Nat) (x:c5),bs[k]?=some (some x)→ ∃x':c5,bs'[k]?=some (some x')):lF ⟨bs,[]⟩ ⟨bs',[]⟩:=⟨h,fun r row hr=>by simp at hr⟩
theorem anN{x x':c5}:lF ⟨[some x],[]⟩ ⟨[some x'],[]⟩:=aq6 fun k y hk=>by
 rcases k with _|k
 ·exact⟨x',rfl⟩
 ·simp at hk
section
variable {P:Program} {C:qM} {n:Nat} {s:AS} {o:Oper}
theorem a3.callOwn{f:FuncId}{fn:Func}{xs:List Operand}{ts:Array TypeId}{ps qs:List PV}{pre S:c8}{B:List (Option c5)}{E:TypeId}{sz:Nat}{es:List (List Tr)}{R:Nat→PV}(fb:List Nat)(ho:o.op= .call { callee:= .value (.func f),args:=⟨xs⟩,argTypes:=ts })(hd:bO o.dst n=true)(hf:P.funcs[f]?=some fn)(hnm:(fn.name== "runtime.NumGoroutine")=false)(hb:fn.body.isNone=false)
 (hx:xs.map s.ev=ps.map some) (hS:s.st=S) (hp:gA S pre fb []) (hpr:pre.rows= []) (hle:tS ps (DP fb [] qs)) (hok:l5 pre qs=true) (hbl:B.length=pre.boxes.length) (hfree:o5 B=true) (hR: ∀k k',Mv sz es k k' (R k) (R k')) (hc:CV P f qs pre B E sz es R):
 a3 P C n o s ((⟨s.env,⟨(S.over ⟨B,[]⟩ fb []).boxes,S.rows++ [⟨E,sz,es,false⟩]⟩⟩:AS).putO o.dst (R S.rows.length)):=fun m a w h K Q hK=>by
 subst hS
 have h2:=evL h hx
 have h1:(execOp a.eval o).run P w= .ok (.enter f ⟨xs.map a.eval⟩) w:=by
  have hcf:=kR (P:=P) hf hnm hb
  unfold execOp
  simp only [ho]
  simp [resolve,invoke,Deferred.ofValue,Act.eval,hcf]
 unfold Oper.wp
 rw [h1]
 have h3:=hc (JA C.av s.st pre m fb [] w) (m.via fb []) w _ (hp.sto h.sto) (iK.unren hp (fun b o _ k=>hp.ok k) _ _ hok (tS.rv hle h2))
 refine Calls.mono h3 fun e w'=>?_;rintro⟨r,st',m',v,rfl,⟨k,rfl,rfl,hrow⟩,h4,h5,h6⟩
 obtain⟨k1,k2,k3⟩:=anR hp hpr h.sto h4 h5 hbl (fun j x hj=>o5.get hfree hj) hrow
 refine hK _ _ w' ((h.step k1 k2).put (c9 hd) (Mv.rv k3 (fun row hr=>?_) (hR k s.st.rows.length) h6))
 rw [hrow] at hr
 obtain rfl:=Option.some.inj hr
 exact⟨by simp,by simp only [cG]⟩
end
end Go.Proofs.YtpioomclpaiomaaGreat

namespace Go.Proofs.YtpioomclpaiomaaGreat
open Go.RowKit Go.WalkArith Go.IntWalk Go.WideShapes
def tF(P:Program)(T f:Nat):Option (Nat×Bool×Nat):=
 match P.underlying T with
 |some (.struct fs)=>match fs[f]? with
  |some fd=>(cC P fd.type).map fun x=>(fd.offset,x.1,x.2)
  |none=>none
 |_=>none
theorem tF.spec{P:Program}{T f e z:Nat}{b:Bool}(h:tF P T f=some (e,b,z)): ∃fs fd,P.underlying T=some (.struct fs)∧fs[f]?=some fd∧cC P fd.type=some (b,z)∧fd.offset=e:=by
 unfold tF at h
 split at h
 ·rename_i fs hu
  split at h
  ·rename_i fd hf
   cases hs:cC P fd.type with
   |none=>simp [hs] at h
   |some x=>
    obtain⟨b',z'⟩:=x
    simp only [hs,Option.map_some,Option.some.injEq,Prod.mk.injEq] at h
    obtain⟨h1,rfl,rfl⟩:=h
    exact⟨fs,fd,hu,hf,hs,h1⟩
  ·cases h
 ·cases h
section
variable {P:Program} {C:qM} {n:Nat} {s:AS} {o:Oper}
theorem a3.field1{T:TypeId}{x:Operand}{f e z:Nat}{cs:List PV}{p:PV}(ho:o.op= .field T x f)(hd:bO o.dst n=true)(hx:s.ev x=some (.agg cs))(hf:tF P T f=some (e,false,z))(hc:cs[e]?=some p):a3 P C n o s (s.putO o.dst p):=
 a3.quiet (c9 hd) fun m a w h=>by
  obtain⟨vs,h1,h2⟩:=h.eval hx
  obtain⟨fs,fd,hu,hfd,hs,rfl⟩:=tF.spec hf
  obtain⟨v,hv,hr⟩:=h2.get hc
  refine⟨v,?_,hr⟩
  unfold execOp
  simp [ho,h1,Instr.field,Sem.run_bind,run_underlying hu,hfd,asAgg,part,O8 hs,hv]
end
end Go.Proofs.YtpioomclpaiomaaGreat

namespace Go.Proofs.YtpioomclpaiomaaGreat
open Go.RowKit Go.Proofs
theorem nT:cC Tryz.prog 3=some (false,1):=by kernel_rfl
theorem sz3:(Tryz.prog.info? 3).map (·.size)=some 1:=by kernel_rfl
theorem zr3:cO Tryz.prog 3=some [.t (.leaf (.int .i64 0))]:=by kernel_rfl
theorem Z3:cC Tryz.prog 4=some (false,1):=by kernel_rfl
theorem sz4:(Tryz.prog.info? 4).map (·.size)=some 1:=by kernel_rfl
theorem zr4:cO Tryz.prog 4=some [.t (.leaf (.bool false))]:=by kernel_rfl
theorem sh5:cC Tryz.prog 5=some (false,1):=by kernel_rfl
theorem zr5:cO Tryz.prog 5=some [.t (.leaf (.int .u8 0))]:=by kernel_rfl
theorem eJ:cC Tryz.prog 9=some (false,1):=by kernel_rfl
theorem sz9:(Tryz.prog.info? 9).map (·.size)=some 1:=by kernel_rfl
theorem lU:cO Tryz.prog 9=some [.t (.leaf (.string ⟨#[]⟩))]:=by kernel_rfl
theorem asG:cC Tryz.prog 22=some (false,1):=by kernel_rfl
theorem acJ:elemOf? Tryz.prog 22=some (5,1,1):=by kernel_rfl
theorem pP:cC Tryz.prog 24=some (false,1):=by kernel_rfl
theorem asK:(Tryz.prog.info? 24).map (·.size)=some 1:=by kernel_rfl
theorem mG:elemOf? Tryz.prog 24=some (131,6,136):=by kernel_rfl
theorem asT:(Tryz.prog.info? 131).bind (fun i=>i.zero.map (fun z=>z.cells.size))=some 6:=by kernel_rfl
theorem hZ:cC Tryz.prog 26=some (true,1):=by kernel_rfl
theorem GJ:(Tryz.prog.info? 26).map (·.size)=some 1:=by kernel_rfl
theorem NS:cO Tryz.prog 26=some [.nil]:=by kernel_rfl
theorem arD:hP Tryz.prog 26=some [(0,1)]:=by kernel_rfl
theorem alK:cC Tryz.prog 27=some (false,1):=by kernel_rfl
theorem arM:(Tryz.prog.info? 27).map (·.size)=some 1:=by kernel_rfl
theorem FF:elemOf? Tryz.prog 27=some (37,4,64):=by kernel_rfl
theorem asU:(Tryz.prog.info? 37).bind (fun i=>i.zero.map (fun z=>z.cells.size))=some 4:=by kernel_rfl
theorem kY:cC Tryz.prog 33=some (false,1):=by kernel_rfl
theorem asL:(Tryz.prog.info? 33).map (·.size)=some 1:=by kernel_rfl
theorem eU:elemOf? Tryz.prog 33=some (35,3,48):=by kernel_rfl
theorem aoT:(Tryz.prog.info? 35).bind (fun i=>i.zero.map (fun z=>z.cells.size))=some 3:=by kernel_rfl
theorem cU:cC Tryz.prog 35=some (true,3):=by kernel_rfl
theorem jE:(Tryz.prog.info? 35).map (·.size)=some 3:=by kernel_rfl
theorem jN:cO Tryz.prog 35=some [.t (.leaf (.int .i64 0)),.t (.leaf (.string ⟨#[]⟩)),.nil]:=by kernel_rfl
theorem EX:hP Tryz.prog 35=some [(0,1),(1,1),(2,1)]:=by kernel_rfl
theorem asH:cC Tryz.prog 37=some (true,4):=by kernel_rfl
theorem QP:cO Tryz.prog 37=some [.t (.leaf (.string ⟨#[]⟩)),.t (.leaf (.int .i64 0)),.t (.leaf (.string ⟨#[]⟩)),.nil]:=by kernel_rfl
theorem agS:hP Tryz.prog 37=some [(0,1),(1,3)]:=by kernel_rfl
theorem kZ:cC Tryz.prog 38=some (false,1):=by kernel_rfl
theorem SU:(Tryz.prog.info? 38).map (·.size)=some 1:=by kernel_rfl
theorem b3:elemOf? Tryz.prog 38=some (9,1,16):=by kernel_rfl
theorem tR:(Tryz.prog.info? 9).bind (fun i=>i.zero.map (fun z=>z.cells.size))=some 1:=by kernel_rfl
theorem arL:cC Tryz.prog 41=some (false,1):=by kernel_rfl
theorem N8:elemOf? Tryz.prog 41=some (3,1,8):=by kernel_rfl
theorem arP:(Tryz.prog.info? 3).bind (fun i=>i.zero.map (fun z=>z.cells.size))=some 1:=by kernel_rfl
theorem asX:cO Tryz.prog 41=some [.nil]:=by kernel_rfl
theorem arS:cO Tryz.prog 45=some [.t (.leaf (.int .i64 0)),.t (.leaf (.int .i64 0))]:=by kernel_rfl
theorem as3:hP Tryz.prog 45=some [(0,1),(1,1)]:=by kernel_rfl
theorem aq1:elemOf? Tryz.prog 48=some (45,2,16):=by kernel_rfl
theorem as9:(Tryz.prog.info? 45).bind (fun i=>i.zero.map (fun z=>z.cells.size))=some 2:=by kernel_rfl
theorem ag0:cC Tryz.prog 53=some (false,1):=by kernel_rfl
theorem as7:(Tryz.prog.info? 53).map (·.size)=some 1:=by kernel_rfl
theorem Y6:elemOf? Tryz.prog 53=some (161,11,184):=by kernel_rfl
theorem atA:(Tryz.prog.info? 161).bind (fun i=>i.zero.map (fun z=>z.cells.size))=some 11:=by kernel_rfl
theorem zQ:cC Tryz.prog 55=some (true,12):=by kernel_rfl
theorem NN:(Tryz.prog.info? 55).map (·.size)=some 12:=by kernel_rfl
theorem SV:cO Tryz.prog 55=some [.t (.leaf (.string ⟨#[]⟩)),.nil,.t (.leaf (.int .i64 0)),.t (.leaf (.string ⟨#[]⟩)),.nil,.nil,.t (.leaf (.bool false)),.t (.leaf (.bool false)),.t (.leaf (.int .i64 0)),.t (.leaf (.string ⟨#[]⟩)),.nil,.nil]:=by kernel_rfl
theorem anU:hP Tryz.prog 55=some [(0,1),(1,1),(2,3),(5,1),(6,1),(7,1),(8,3),(11,1)]:=by kernel_rfl
theorem w9:cC Tryz.prog 58=some (false,1):=by kernel_rfl
theorem aoN:(Tryz.prog.info? 58).map (·.size)=some 1:=by kernel_rfl
theorem pT:elemOf? Tryz.prog 58=some (164,16,264):=by kernel_rfl
theorem aoU:(Tryz.prog.info? 164).bind (fun i=>i.zero.map (fun z=>z.cells.size))=some 16:=by kernel_rfl
theorem l9:cC Tryz.prog 60=some (true,5):=by kernel_rfl
theorem pL:(Tryz.prog.info? 60).map (·.size)=some 5:=by kernel_rfl
theorem r3:cO Tryz.prog 60=some [.t (.leaf (.string ⟨#[]⟩)),.nil,.t (.leaf (.bool false)),.t (.leaf (.bool false)),.nil]:=by kernel_rfl
theorem ZS:hP Tryz.prog 60=some [(0,1),(1,1),(2,1),(3,1),(4,1)]:=by kernel_rfl
theorem oZ:cC Tryz.prog 84=some (false,1):=by kernel_rfl
theorem as8:(Tryz.prog.info? 84).map (·.size)=some 1:=by kernel_rfl
theorem jZ:elemOf? Tryz.prog 84=some (87,9,144):=by kernel_rfl
theorem arQ:(Tryz.prog.info? 87).bind (fun i=>i.zero.map (fun z=>z.cells.size))=some 9:=by kernel_rfl
theorem mN:cC Tryz.prog 85=some (false,1):=by kernel_rfl
theorem asM:(Tryz.prog.info? 85).map (·.size)=some 1:=by kernel_rfl
theorem jL:elemOf? Tryz.prog 85=some (92,11,184):=by kernel_rfl
theorem asV:(Tryz.prog.info? 92).bind (fun i=>i.zero.map (fun z=>z.cells.size))=some 11:=by kernel_rfl
theorem fE:cC Tryz.prog 87=some (true,9):=by kernel_rfl
theorem nA:(Tryz.prog.info? 87).map (·.size)=some 9:=by kernel_rfl
theorem kL:cO Tryz.prog 87=some [.t (.leaf (.int .i64 0)),.t (.leaf (.string ⟨#[]⟩)),.t (.leaf (.string ⟨#[]⟩)),.t (.leaf (.int .i64 0)),.t (.leaf (.int .i64 0)),.t (.leaf (.string ⟨#[]⟩)),.nil,.nil,.nil]:=by kernel_rfl
theorem zM:hP Tryz.prog 87=some [(0,1),(1,1),(2,1),(3,1),(4,3),(7,1),(8,1)]:=by kernel_rfl
theorem alL:cC Tryz.prog 92=some (true,11):=by kernel_rfl
theorem aoO:(Tryz.prog.info? 92).map (·.size)=some 11:=by kernel_rfl
theorem QQ:cO Tryz.prog 92=some [.t (.leaf (.string ⟨#[]⟩)),.nil,.t (.leaf (.int .i64 0)),.t (.leaf (.string ⟨#[]⟩)),.t (.leaf (.string ⟨#[]⟩)),.t (.leaf (.int .i64 0)),.t (.leaf (.int .i64 0)),.t (.leaf (.string ⟨#[]⟩)),.nil,.nil,.nil]:=by kernel_rfl
theorem anV:hP Tryz.prog 92=some [(0,1),(1,1),(2,9)]:=by kernel_rfl
theorem nN:cC Tryz.prog 114=some (false,1):=by kernel_rfl
theorem aqA:(Tryz.prog.info? 114).map (·.size)=some 1:=by kernel_rfl
theorem lW:elemOf? Tryz.prog 114=some (195,2,40):=by kernel_rfl
theorem asR:(Tryz.prog.info? 195).bind (fun i=>i.zero.map (fun z=>z.cells.size))=some 2:=by kernel_rfl
theorem fI:cC Tryz.prog 116=some (true,3):=by kernel_rfl
theorem iH:(Tryz.prog.info? 116).map (·.size)=some 3:=by kernel_rfl
theorem jF:cO Tryz.prog 116=some [.t (.leaf (.string ⟨#[]⟩)),.nil,.nil]:=by kernel_rfl
theorem MX:hP Tryz.prog 116=some [(0,1),(1,1),(2,1)]:=by kernel_rfl
theorem F0:cC Tryz.prog 126=some (false,1):=by kernel_rfl
theorem aqB:(Tryz.prog.info? 126).map (·.size)=some 1:=by kernel_rfl
theorem AF:elemOf? Tryz.prog 126=some (60,5,72):=by kernel_rfl
theorem aqI:(Tryz.prog.info? 60).bind (fun i=>i.zero.map (fun z=>z.cells.size))=some 5:=by kernel_rfl
theorem xK:cC Tryz.prog 127=some (false,1):=by kernel_rfl
theorem aqC:(Tryz.prog.info? 127).map (·.size)=some 1:=by kernel_rfl
theorem tE:elemOf? Tryz.prog 127=some (116,3,64):=by kernel_rfl
theorem aqJ:(Tryz.prog.info? 116).bind (fun i=>i.zero.map (fun z=>z.cells.size))=some 3:=by kernel_rfl
theorem YF:cC Tryz.prog 128=some (false,1):=by kernel_rfl
theorem aqD:(Tryz.prog.info? 128).map (·.size)=some 1:=by kernel_rfl
theorem QV:elemOf? Tryz.prog 128=some (55,12,192):=by kernel_rfl
theorem aqK:(Tryz.prog.info? 55).bind (fun i=>i.zero.map (fun z=>z.cells.size))=some 12:=by kernel_rfl
theorem CO:cC Tryz.prog 129=some (false,1):=by kernel_rfl
theorem aqE:(Tryz.prog.info? 129).map (·.size)=some 1:=by kernel_rfl
theorem xB:elemOf? Tryz.prog 129=some (148,16,280):=by kernel_rfl
theorem aqL:(Tryz.prog.info? 148).bind (fun i=>i.zero.map (fun z=>z.cells.size))=some 16:=by kernel_rfl
theorem nO:cC Tryz.prog 131=some (true,6):=by kernel_rfl
theorem sF:(Tryz.prog.info? 131).map (·.size)=some 6:=by kernel_rfl
theorem qL:cO Tryz.prog 131=some [.t (.leaf (.string ⟨#[]⟩)),.nil,.nil,.nil,.nil,.nil]:=by kernel_rfl
theorem IZ:hP Tryz.prog 131=some [(0,1),(1,1),(2,1),(3,1),(4,1),(5,1)]:=by kernel_rfl
theorem qE:cC Tryz.prog 136=some (true,2):=by kernel_rfl
theorem asJ:(Tryz.prog.info? 136).map (·.size)=some 2:=by kernel_rfl
theorem aqN:cO Tryz.prog 136=some [.nil,.nil]:=by kernel_rfl
theorem ar9:hP Tryz.prog 136=some [(0,1),(1,1)]:=by kernel_rfl
theorem I9:cC Tryz.prog 146=some (false,1):=by kernel_rfl
theorem aqF:(Tryz.prog.info? 146).map (·.size)=some 1:=by kernel_rfl
theorem BW:elemOf? Tryz.prog 146=some (226,4,64):=by kernel_rfl
theorem aqM:(Tryz.prog.info? 226).bind (fun i=>i.zero.map (fun z=>z.cells.size))=some 4:=by kernel_rfl
theorem lN:cC Tryz.prog 148=some (true,16):=by kernel_rfl
theorem qK:(Tryz.prog.info? 148).map (·.size)=some 16:=by kernel_rfl
theorem sH:cO Tryz.prog 148=some [.t (.leaf (.string ⟨#[]⟩)),.nil,.nil,.nil,.t (.leaf (.int .i64 0)),.t (.leaf (.string ⟨#[]⟩)),.nil,.t (.leaf (.int .i64 0)),.t (.leaf (.string ⟨#[]⟩)),.t (.leaf (.string ⟨#[]⟩)),.t (.leaf (.int .i64 0)),.t (.leaf (.int .i64 0)),.t (.leaf (.string ⟨#[]⟩)),.nil,.nil,.nil]:=by kernel_rfl
theorem UO:hP Tryz.prog 148=some [(0,1),(1,1),(2,1),(3,1),(4,3),(7,9)]:=by kernel_rfl
theorem aqO:cO Tryz.prog 151=some [.nil,.t (.leaf (.int .i64 0)),.t (.leaf (.int .i64 0))]:=by kernel_rfl
theorem ap5:hP Tryz.prog 151=some [(0,1),(1,1),(2,1)]:=by kernel_rfl
theorem ap8:cC Tryz.prog 161=some (true,11):=by kernel_rfl
theorem aqG:(Tryz.prog.info? 161).map (·.size)=some 11:=by kernel_rfl
theorem YL:cO Tryz.prog 161=some [.t (.leaf (.string ⟨#[]⟩)),.nil,.t (.leaf (.int .i64 0)),.t (.leaf (.string ⟨#[]⟩)),.t (.leaf (.string ⟨#[]⟩)),.t (.leaf (.int .i64 0)),.t (.leaf (.int .i64 0)),.t (.leaf (.string ⟨#[]⟩)),.nil,.nil,.nil]:=by kernel_rfl
theorem ap6:hP Tryz.prog 161=some [(0,1),(1,1),(2,9)]:=by kernel_rfl
theorem CP:cC Tryz.prog 164=some (true,16):=by kernel_rfl
theorem NM:(Tryz.prog.info? 164).map (·.size)=some 16:=by kernel_rfl
theorem sI:cO Tryz.prog 164=some [.t (.leaf (.string ⟨#[]⟩)),.nil,.t (.leaf (.int .i64 0)),.t (.leaf (.string ⟨#[]⟩)),.nil,.t (.leaf (.bool false)),.nil,.t (.leaf (.int .i64 0)),.t (.leaf (.string ⟨#[]⟩)),.t (.leaf (.string ⟨#[]⟩)),.t (.leaf (.int .i64 0)),.t (.leaf (.int .i64 0)),.t (.leaf (.string ⟨#[]⟩)),.nil,.nil,.nil]:=by kernel_rfl
theorem YC:hP Tryz.prog 164=some [(0,1),(1,1),(2,3),(5,1),(6,1),(7,9)]:=by kernel_rfl
theorem ap9:cC Tryz.prog 195=some (true,2):=by kernel_rfl
theorem aqH:(Tryz.prog.info? 195).map (·.size)=some 2:=by kernel_rfl
theorem V9:cO Tryz.prog 195=some [.t (.leaf (.string ⟨#[]⟩)),.nil]:=by kernel_rfl
theorem anS:hP Tryz.prog 195=some [(0,1),(1,1)]:=by kernel_rfl
theorem X1:elemOf? Tryz.prog 211=some (4,1,1):=by kernel_rfl
theorem YM:cO Tryz.prog 226=some [.t (.leaf (.string ⟨#[]⟩)),.t (.leaf (.int .i64 0)),.t (.leaf (.string ⟨#[]⟩)),.nil]:=by kernel_rfl
theorem anT:hP Tryz.prog 226=some [(0,1),(1,3)]:=by kernel_rfl
theorem acK:elemOf? Tryz.prog 231=some (41,1,24):=by kernel_rfl
theorem asS:(Tryz.prog.info? 41).bind (fun i=>i.zero.map (fun z=>z.cells.size))=some 1:=by kernel_rfl
theorem cX:cC Tryz.prog 235=some (false,1):=by kernel_rfl
theorem AZ:(Tryz.prog.info? 235).map (·.size)=some 1:=by kernel_rfl
theorem bL:elemOf? Tryz.prog 235=some (237,2,40):=by kernel_rfl
theorem rO:(Tryz.prog.info? 237).bind (fun i=>i.zero.map (fun z=>z.cells.size))=some 2:=by kernel_rfl
theorem bU:cC Tryz.prog 237=some (true,2):=by kernel_rfl
theorem eO:(Tryz.prog.info? 237).map (·.size)=some 2:=by kernel_rfl
theorem cD:cO Tryz.prog 237=some [.t (.leaf (.string ⟨#[]⟩)),.nil]:=by kernel_rfl
theorem nL:hP Tryz.prog 237=some [(0,1),(1,1)]:=by kernel_rfl
theorem asW:cO Tryz.prog 250=some [.t (.leaf (.string ⟨#[]⟩)),.t (.leaf (.int .i64 0)),.t (.leaf (.int .i64 0)),.t (.leaf (.int .i64 0)),.t (.leaf (.bool false))]:=by kernel_rfl
theorem asA:hP Tryz.prog 250=some [(0,1),(1,1),(2,1),(3,1),(4,1)]:=by kernel_rfl
theorem fR:bJ Tryz.prog 26 0=some 0:=by kernel_rfl
theorem pF:bJ Tryz.prog 35 0=some 0:=by kernel_rfl
theorem kU:bJ Tryz.prog 35 1=some 1:=by kernel_rfl
theorem gM:bJ Tryz.prog 35 2=some 2:=by kernel_rfl
theorem ZB:bJ Tryz.prog 37 0=some 0:=by kernel_rfl
theorem J2:bJ Tryz.prog 37 1=some 1:=by kernel_rfl
theorem agH:bJ Tryz.prog 55 0=some 0:=by kernel_rfl
theorem uS:bJ Tryz.prog 55 1=some 1:=by kernel_rfl
theorem A4:bJ Tryz.prog 55 2=some 2:=by kernel_rfl
theorem OD:bJ Tryz.prog 55 3=some 5:=by kernel_rfl
theorem anB:bJ Tryz.prog 55 4=some 6:=by kernel_rfl
theorem OE:bJ Tryz.prog 55 5=some 7:=by kernel_rfl
theorem OF:bJ Tryz.prog 55 6=some 8:=by kernel_rfl
theorem FG:bJ Tryz.prog 55 7=some 11:=by kernel_rfl
theorem C8:bJ Tryz.prog 60 0=some 0:=by kernel_rfl
theorem C9:bJ Tryz.prog 60 1=some 1:=by kernel_rfl
theorem agI:bJ Tryz.prog 60 2=some 2:=by kernel_rfl
theorem OG:bJ Tryz.prog 60 3=some 3:=by kernel_rfl
theorem iV:bJ Tryz.prog 60 4=some 4:=by kernel_rfl
theorem pW:bJ Tryz.prog 87 0=some 0:=by kernel_rfl
theorem A5:bJ Tryz.prog 87 1=some 1:=by kernel_rfl
theorem lX:bJ Tryz.prog 87 2=some 2:=by kernel_rfl
theorem FH:bJ Tryz.prog 87 3=some 3:=by kernel_rfl
theorem pX:bJ Tryz.prog 87 4=some 4:=by kernel_rfl
theorem fM:bJ Tryz.prog 87 5=some 7:=by kernel_rfl
theorem eI:bJ Tryz.prog 87 6=some 8:=by kernel_rfl
theorem tW:bJ Tryz.prog 92 0=some 0:=by kernel_rfl
theorem yY:bJ Tryz.prog 92 1=some 1:=by kernel_rfl
theorem A6:bJ Tryz.prog 92 2=some 2:=by kernel_rfl
theorem C5:bJ Tryz.prog 116 0=some 0:=by kernel_rfl
theorem C6:bJ Tryz.prog 116 1=some 1:=by kernel_rfl
theorem gG:bJ Tryz.prog 116 2=some 2:=by kernel_rfl
theorem LX:bJ Tryz.prog 131 0=some 0:=by kernel_rfl
theorem C7:bJ Tryz.prog 131 1=some 1:=by kernel_rfl
theorem qQ:bJ Tryz.prog 131 2=some 2:=by kernel_rfl
theorem l7:bJ Tryz.prog 131 3=some 3:=by kernel_rfl
theorem AG:bJ Tryz.prog 131 4=some 4:=by kernel_rfl
theorem nX:bJ Tryz.prog 131 5=some 5:=by kernel_rfl
theorem LY:bJ Tryz.prog 136 0=some 0:=by kernel_rfl
theorem ao5:bJ Tryz.prog 136 1=some 1:=by kernel_rfl
theorem GR:bJ Tryz.prog 148 0=some 0:=by kernel_rfl
theorem LZ:bJ Tryz.prog 148 1=some 1:=by kernel_rfl
theorem Y7:bJ Tryz.prog 148 2=some 2:=by kernel_rfl
theorem sJ:bJ Tryz.prog 148 3=some 3:=by kernel_rfl
theorem Y8:bJ Tryz.prog 148 4=some 4:=by kernel_rfl
theorem SZ:bJ Tryz.prog 148 5=some 7:=by kernel_rfl
theorem ajQ:bJ Tryz.prog 151 0=some 0:=by kernel_rfl
theorem S0:bJ Tryz.prog 151 1=some 1:=by kernel_rfl
theorem S1:bJ Tryz.prog 151 2=some 2:=by kernel_rfl
theorem ajR:bJ Tryz.prog 161 0=some 0:=by kernel_rfl
theorem L0:bJ Tryz.prog 161 1=some 1:=by kernel_rfl
theorem Y9:bJ Tryz.prog 161 2=some 2:=by kernel_rfl
theorem L1:bJ Tryz.prog 164 0=some 0:=by kernel_rfl
theorem xP:bJ Tryz.prog 164 1=some 1:=by kernel_rfl
theorem GS:bJ Tryz.prog 164 2=some 2:=by kernel_rfl
theorem L2:bJ Tryz.prog 164 3=some 5:=by kernel_rfl
theorem GT:bJ Tryz.prog 164 4=some 6:=by kernel_rfl
theorem S2:bJ Tryz.prog 164 5=some 7:=by kernel_rfl
theorem sK:bJ Tryz.prog 195 0=some 0:=by kernel_rfl
theorem xQ:bJ Tryz.prog 195 1=some 1:=by kernel_rfl
theorem ajS:bJ Tryz.prog 226 0=some 0:=by kernel_rfl
theorem ajT:bJ Tryz.prog 226 1=some 1:=by kernel_rfl
theorem fT:bJ Tryz.prog 237 0=some 0:=by kernel_rfl
theorem bK:bJ Tryz.prog 237 1=some 1:=by kernel_rfl
theorem mH:bJ Tryz.prog 250 0=some 0:=by kernel_rfl
theorem fU:bJ Tryz.prog 250 1=some 1:=by kernel_rfl
theorem L3:bJ Tryz.prog 250 2=some 2:=by kernel_rfl
theorem ZA:bJ Tryz.prog 250 3=some 3:=by kernel_rfl
theorem GU:bJ Tryz.prog 250 4=some 4:=by kernel_rfl
theorem tX:tF Tryz.prog 237 0=some (0,false,1):=by kernel_rfl
theorem ZC:tF Tryz.prog 237 1=some (1,false,1):=by kernel_rfl
theorem ajY:Tryz.prog.follows .mixedOrders=true:=by kernel_rfl
end Go.Proofs.YtpioomclpaiomaaGreat

namespace Go.Proofs.YtpioomclpaiomaaGreat
open Go.RowKit Go.Proofs
set_option maxRecDepth 100000 in
set_option maxHeartbeats 4000000 in
theorem ao2(d:DS):c6 Tryz.prog 146 [.ptr 0 0] (d.box 151) (fun r t=>r= .t (.leaf (.int .i64 d.byte))∧t=d.next.box 151):=by
 refine c6.intro Tryz.func146 rfl (by first|decide|(simp;done)|(simp;decide)) ?_;intro C hC
 refine aR.fact (b5 0 0 rfl rfl rfl (iB d.code)) (fun hl0=>?_)
 refine aR.seq ?_;refine aR.region_lit ?_;refine AL.cons rfl (a3.move (.inr rfl) rfl rfl) ?_;refine AL.nil ?_;refine aR.seq ?_;refine aR.region_lit ?_;refine AL.cons rfl (a3.move (.inl rfl) rfl rfl) ?_;refine AL.cons rfl (a3.move (.inl rfl) rfl rfl) ?_;refine AL.cons rfl (a3.nilPtr rfl rfl rfl) ?_;refine AL.cons rfl (a3.fieldPtr (k:=0) (d:=0) (e:=2) rfl rfl rfl S1) ?_;refine AL.cons rfl (a3.loadPtr1 rfl rfl rfl rfl nT rfl) ?_;refine AL.cons rfl (a3.mulW rfl rfl rfl rfl) ?_;refine AL.cons rfl (a3.addW rfl rfl rfl rfl) ?_;refine AL.cons rfl (a3.nilPtr rfl rfl rfl) ?_;refine AL.cons rfl (a3.fieldPtr (k:=0) (d:=0) (e:=2) rfl rfl rfl S1) ?_;refine AL.cons rfl (a3.storePtr (cs:= [.t (.leaf (.int .i64 (aQ ((aQ (d.h*6364136223846793005))+1442695040888963407))))]) (ds:= [.t (.row 1 (cM (d.code))),.t (.leaf (.int .i64 (((d.p:Nat):Int)))),.t (.leaf (.int .i64 (aQ ((aQ (d.h*6364136223846793005))+1442695040888963407))))]) rfl rfl rfl rfl rfl rfl rfl sz3 (Nat.le_of_ble_eq_true rfl) rfl) ?_;refine AL.nil ?_;refine aR.seq ?_;refine aR.drawnL ⟨_,_,fun _ _=>(⟨[some ⟨151,[.t (.row 1 (cM (d.code))),.t (.leaf (.int .i64 (((d.p:Nat):Int)))),.t (.leaf (.int .i64 (aQ ((aQ (d.h*6364136223846793005))+1442695040888963407))))]⟩],[]⟩:c8),fun q'=>([some (.ptr 0 0),some (.ptr 0 0),some (.ptr 0 2),some (.t (.leaf (.int .i64 (aQ ((aQ (d.h*6364136223846793005))+1442695040888963407))))),some (.t (.leaf (.int .i64 (t0 (aQ ((aQ (d.h*6364136223846793005))+1442695040888963407)) 33)))),some (.ptr 0 0),some (.ptr 0 0),some (.ptr 0 2),some (.t (.leaf (.int .i64 (aQ ((aQ (d.h*6364136223846793005))+1442695040888963407))))),some (.t (.leaf (.int .i64 (t0 (aQ ((aQ (d.h*6364136223846793005))+1442695040888963407)) 45)))),some (.t (.leaf (.int .i64 (T6 (t0 (aQ ((aQ (d.h*6364136223846793005))+1442695040888963407)) 33) (t0 (aQ ((aQ (d.h*6364136223846793005))+1442695040888963407)) 45))))),some (.t (.leaf (.int .i64 (DB (T6 (t0 (aQ ((aQ (d.h*6364136223846793005))+1442695040888963407)) 33) (t0 (aQ ((aQ (d.h*6364136223846793005))+1442695040888963407)) 45)) 255)))),some (.t (.leaf (.int .i64 (DB (T6 (t0 (aQ ((aQ (d.h*6364136223846793005))+1442695040888963407)) 33) (t0 (aQ ((aQ (d.h*6364136223846793005))+1442695040888963407)) 45)) 255))))]:List (Option PV)).getD q' none,fun q'=>([.q 0 0,.q 0 0,.q 0 0,.q 0 0,.q 0 0,.q 0 0,.q 0 0,.q 0 0,.q 0 0,.q 0 0,.q 0 0,.q 0 0,.q 0 0]:List DK).getD q' (.q 0 0),[],none,fun q'=>([[(0,none)],[(13,some 0)],[(14,some 1)],[(15,some 2)],[(16,some 3)],[(0,none)],[(18,some 5)],[(19,some 6)],[(20,some 7)],[(21,some 8)],[(17,some 4),(22,some 9)],[(23,some 10)],[(24,some 11)]]:List (List (Nat×Option Nat))).getD q' []⟩ rfl ajY (by kernel_rfl) rfl rfl ⟨?_,?_,?_,?_,?_,?_,?_,?_,?_,?_,?_,?_,?_,trivial⟩ rfl ?_
 ·exact dP.step.q1 0 rfl rfl fun s' bb hs hl=>⟨_,rfl,a3.move (.inl rfl) rfl (hl 0 none _ (.head _) rfl)⟩
 ·exact dP.step.q1 0 rfl rfl fun s' bb hs hl=>⟨_,rfl,a3.nilPtr rfl rfl (hl 13 (some 0) _ (.head _) rfl)⟩
 ·exact dP.step.q1 0 rfl rfl fun s' bb hs hl=>⟨_,rfl,a3.fieldPtr (k:=0) (d:=0) (e:=2) rfl rfl (hl 14 (some 1) _ (.head _) rfl) S1⟩
 ·exact dP.step.q1 0 rfl rfl fun s' bb hs hl=>⟨_,rfl,a3.loadPtr1 rfl rfl (hl 15 (some 2) _ (.head _) rfl) (by rw [hs];rfl) nT rfl⟩
 ·exact dP.step.q1 0 rfl rfl fun s' bb hs hl=>⟨_,rfl,a3.shrI (a:=aQ ((aQ (d.h*6364136223846793005))+1442695040888963407)) (b:=33) rfl rfl (hl 16 (some 3) _ (.head _) rfl) rfl (by decide) (S4 (HJ _)).1 (S4 (HJ _)).2⟩
 ·exact dP.step.q1 0 rfl rfl fun s' bb hs hl=>⟨_,rfl,a3.move (.inl rfl) rfl (hl 0 none _ (.head _) rfl)⟩
 ·exact dP.step.q1 0 rfl rfl fun s' bb hs hl=>⟨_,rfl,a3.nilPtr rfl rfl (hl 18 (some 5) _ (.head _) rfl)⟩
 ·exact dP.step.q1 0 rfl rfl fun s' bb hs hl=>⟨_,rfl,a3.fieldPtr (k:=0) (d:=0) (e:=2) rfl rfl (hl 19 (some 6) _ (.head _) rfl) S1⟩
 ·exact dP.step.q1 0 rfl rfl fun s' bb hs hl=>⟨_,rfl,a3.loadPtr1 rfl rfl (hl 20 (some 7) _ (.head _) rfl) (by rw [hs];rfl) nT rfl⟩
 ·exact dP.step.q1 0 rfl rfl fun s' bb hs hl=>⟨_,rfl,a3.shrI (a:=aQ ((aQ (d.h*6364136223846793005))+1442695040888963407)) (b:=45) rfl rfl (hl 21 (some 8) _ (.head _) rfl) rfl (by decide) (S4 (HJ _)).1 (S4 (HJ _)).2⟩
 ·exact dP.step.q1 0 rfl rfl fun s' bb hs hl=>⟨_,rfl,a3.xorI rfl rfl (hl 17 (some 4) _ (.head _) rfl) (hl 22 (some 9) _ (.tail _ (.head _)) rfl)⟩
 ·exact dP.step.q1 0 rfl rfl fun s' bb hs hl=>⟨_,rfl,a3.andI rfl rfl (hl 23 (some 10) _ (.head _) rfl) rfl⟩
 ·exact dP.step.q1 0 rfl rfl fun s' bb hs hl=>⟨_,rfl,a3.move (.inr rfl) rfl (hl 24 (some 11) _ (.head _) rfl)⟩
 refine aR.seq ?_;refine aR.seq ?_;refine aR.drawnL ⟨_,_,fun _ _=>(⟨[some ⟨151,[.t (.row 1 (cM (d.code))),.t (.leaf (.int .i64 (((d.p:Nat):Int)))),.t (.leaf (.int .i64 (aQ ((aQ (d.h*6364136223846793005))+1442695040888963407))))]⟩],[]⟩:c8),fun q'=>([some (.ptr 0 0),some (.ptr 0 0),some (.ptr 0 1),some (.t (.leaf (.int .i64 (((d.p:Nat):Int))))),some (.ptr 0 0),some (.ptr 0 0),some (.ptr 0 0),some (.t (.row 1 (cM (d.code)))),some (.t (.leaf (.int .i64 (((d.code.length:Nat):Int))))),some (.t (.leaf (.bool (decide ((((d.p:Nat):Int):Int)<((d.code.length:Nat):Int))))))]:List (Option PV)).getD q' none,fun q'=>([.q 0 0,.q 0 0,.q 0 0,.q 0 0,.q 0 0,.q 0 0,.q 0 0,.q 0 0,.q 0 0,.q 0 0]:List DK).getD q' (.q 0 0),[],none,fun q'=>([[(0,none)],[(25,some 0)],[(26,some 1)],[(27,some 2)],[(0,none)],[(29,some 4)],[(30,some 5)],[(31,some 6)],[(32,some 7)],[(28,some 3),(33,some 8)]]:List (List (Nat×Option Nat))).getD q' []⟩ rfl ajY (by kernel_rfl) rfl rfl ⟨?_,?_,?_,?_,?_,?_,?_,?_,?_,?_,trivial⟩ rfl ?_
 ·exact dP.step.q1 0 rfl rfl fun s' bb hs hl=>⟨_,rfl,a3.move (.inl rfl) rfl (hl 0 none _ (.head _) rfl)⟩
 ·exact dP.step.q1 0 rfl rfl fun s' bb hs hl=>⟨_,rfl,a3.nilPtr rfl rfl (hl 25 (some 0) _ (.head _) rfl)⟩
 ·exact dP.step.q1 0 rfl rfl fun s' bb hs hl=>⟨_,rfl,a3.fieldPtr (k:=0) (d:=0) (e:=1) rfl rfl (hl 26 (some 1) _ (.head _) rfl) S0⟩
 ·exact dP.step.q1 0 rfl rfl fun s' bb hs hl=>⟨_,rfl,a3.loadPtr1 rfl rfl (hl 27 (some 2) _ (.head _) rfl) (by rw [hs];rfl) nT rfl⟩
 ·exact dP.step.q1 0 rfl rfl fun s' bb hs hl=>⟨_,rfl,a3.move (.inl rfl) rfl (hl 0 none _ (.head _) rfl)⟩
 ·exact dP.step.q1 0 rfl rfl fun s' bb hs hl=>⟨_,rfl,a3.nilPtr rfl rfl (hl 29 (some 4) _ (.head _) rfl)⟩
 ·exact dP.step.q1 0 rfl rfl fun s' bb hs hl=>⟨_,rfl,a3.fieldPtr (k:=0) (d:=0) (e:=0) rfl rfl (hl 30 (some 5) _ (.head _) rfl) ajQ⟩
 ·exact dP.step.q1 0 rfl rfl fun s' bb hs hl=>⟨_,rfl,a3.loadPtr1 rfl rfl (hl 31 (some 6) _ (.head _) rfl) (by rw [hs];rfl) asG rfl⟩
 ·exact dP.step.q1 0 rfl rfl fun s' bb hs hl=>⟨_,rfl,a3.lenN rfl rfl (hl 32 (some 7) _ (.head _) rfl) rfl acJ (iB _)⟩
 ·exact dP.step.q1 0 rfl rfl fun s' bb hs hl=>⟨_,rfl,a3.lss rfl rfl (hl 28 (some 3) _ (.head _) rfl) (hl 33 (some 8) _ (.tail _ (.head _)) rfl)⟩
 refine aR.cond rfl (fun h1=>?_) (fun h1=>?_)
 ·have h1b:=h1
  try simp only [Bool.and_eq_true,Bool.or_eq_true,Bool.and_eq_false_iff,Bool.or_eq_false_iff,decide_eq_true_eq,decide_eq_false_iff_not,Bool.not_eq_true',Bool.not_eq_false',Bool.not_eq_eq_eq_not,Bool.not_true,Bool.not_false,ge_iff_le,gt_iff_lt,Int.not_lt,Int.not_le] at h1b
  have h1n:d.p<d.code.length:=by omega
  refine aR.seq ?_;refine aR.drawnL ⟨_,_,fun _ _=>(⟨[some ⟨151,[.t (.row 1 (cM (d.code))),.t (.leaf (.int .i64 (((d.p:Nat):Int)))),.t (.leaf (.int .i64 (aQ ((aQ (d.h*6364136223846793005))+1442695040888963407))))]⟩],[]⟩:c8),fun q'=>([some (.t (.leaf (.int .i64 (DB (T6 (t0 (aQ ((aQ (d.h*6364136223846793005))+1442695040888963407)) 33) (t0 (aQ ((aQ (d.h*6364136223846793005))+1442695040888963407)) 45)) 255)))),some (.ptr 0 0),some (.ptr 0 0),some (.ptr 0 0),some (.t (.row 1 (cM (d.code)))),some (.ptr 0 0),some (.ptr 0 0),some (.ptr 0 1),some (.t (.leaf (.int .i64 (((d.p:Nat):Int))))),some (.eptr ([.leaf (.int .u8 ((d.code[d.p]).toNat:Int))])),some (.t (.leaf (.int .u8 (((d.code[d.p]).toNat:Int))))),some (.t (.leaf (.int .i64 (((d.code[d.p]).toNat:Int))))),some (.t (.leaf (.int .i64 (aQ ((DB (T6 (t0 (aQ ((aQ (d.h*6364136223846793005))+1442695040888963407)) 33) (t0 (aQ ((aQ (d.h*6364136223846793005))+1442695040888963407)) 45)) 255)+((d.code[d.p]).toNat:Int)))))),some (.t (.leaf (.int .i64 (DB (aQ ((DB (T6 (t0 (aQ ((aQ (d.h*6364136223846793005))+1442695040888963407)) 33) (t0 (aQ ((aQ (d.h*6364136223846793005))+1442695040888963407)) 45)) 255)+((d.code[d.p]).toNat:Int))) 255)))),some (.t (.leaf (.int .i64 (DB (aQ ((DB (T6 (t0 (aQ ((aQ (d.h*6364136223846793005))+1442695040888963407)) 33) (t0 (aQ ((aQ (d.h*6364136223846793005))+1442695040888963407)) 45)) 255)+((d.code[d.p]).toNat:Int))) 255))))]:List (Option PV)).getD q' none,fun q'=>([.q 0 0,.q 0 0,.q 0 0,.q 0 0,.q 0 0,.q 0 0,.q 0 0,.q 0 0,.q 0 0,.q 0 0,.q 0 0,.q 0 0,.q 0 0,.q 0 0,.q 0 0]:List DK).getD q' (.q 0 0),[],none,fun q'=>([[(3,none)],[(0,none)],[(36,some 1)],[(37,some 2)],[(38,some 3)],[(0,none)],[(40,some 5)],[(41,some 6)],[(42,some 7)],[(39,some 4),(43,some 8)],[(44,some 9)],[(45,some 10)],[(35,some 0),(46,some 11)],[(47,some 12)],[(48,some 13)]]:List (List (Nat×Option Nat))).getD q' []⟩ rfl ajY (by kernel_rfl) rfl rfl ⟨?_,?_,?_,?_,?_,?_,?_,?_,?_,?_,?_,?_,?_,?_,?_,trivial⟩ rfl ?_
  ·exact dP.step.q1 0 rfl rfl fun s' bb hs hl=>⟨_,rfl,a3.move (.inl rfl) rfl (hl 3 none _ (.head _) rfl)⟩
  ·exact dP.step.q1 0 rfl rfl fun s' bb hs hl=>⟨_,rfl,a3.move (.inl rfl) rfl (hl 0 none _ (.head _) rfl)⟩
  ·exact dP.step.q1 0 rfl rfl fun s' bb hs hl=>⟨_,rfl,a3.nilPtr rfl rfl (hl 36 (some 1) _ (.head _) rfl)⟩
  ·exact dP.step.q1 0 rfl rfl fun s' bb hs hl=>⟨_,rfl,a3.fieldPtr (k:=0) (d:=0) (e:=0) rfl rfl (hl 37 (some 2) _ (.head _) rfl) ajQ⟩
  ·exact dP.step.q1 0 rfl rfl fun s' bb hs hl=>⟨_,rfl,a3.loadPtr1 rfl rfl (hl 38 (some 3) _ (.head _) rfl) (by rw [hs];rfl) asG rfl⟩
  ·exact dP.step.q1 0 rfl rfl fun s' bb hs hl=>⟨_,rfl,a3.move (.inl rfl) rfl (hl 0 none _ (.head _) rfl)⟩
  ·exact dP.step.q1 0 rfl rfl fun s' bb hs hl=>⟨_,rfl,a3.nilPtr rfl rfl (hl 40 (some 5) _ (.head _) rfl)⟩
  ·exact dP.step.q1 0 rfl rfl fun s' bb hs hl=>⟨_,rfl,a3.fieldPtr (k:=0) (d:=0) (e:=1) rfl rfl (hl 41 (some 6) _ (.head _) rfl) S0⟩
  ·exact dP.step.q1 0 rfl rfl fun s' bb hs hl=>⟨_,rfl,a3.loadPtr1 rfl rfl (hl 42 (some 7) _ (.head _) rfl) (by rw [hs];rfl) nT rfl⟩
  ·exact dP.step.q1 0 rfl rfl fun s' bb hs hl=>⟨_,rfl,a3.index (k:=d.p) rfl rfl (hl 39 (some 4) _ (.head _) rfl) rfl (hl 43 (some 8) _ (.tail _ (.head _)) rfl) (yV h1n) acJ⟩
  ·exact dP.step.q1 0 rfl rfl fun s' bb hs hl=>⟨_,rfl,a3.loadEptr1 (d:= .leaf (.int .u8 (((d.code[d.p]).toNat:Int)))) rfl rfl (hl 44 (some 9) _ (.head _) rfl) sh5 rfl⟩
  ·exact dP.step.q1 0 rfl rfl fun s' bb hs hl=>⟨_,rfl,a3.convI rfl rfl (hl 45 (some 10) _ (.head _) rfl) ⟨_,Tryz.underlying5⟩ Tryz.underlying3 (by first|omega|(have:=UInt8.toNat_lt (d.code[d.p]);omega)) (by first|omega|(have:=UInt8.toNat_lt (d.code[d.p]);omega))⟩
  ·exact dP.step.q1 0 rfl rfl fun s' bb hs hl=>⟨_,rfl,a3.addW rfl rfl (hl 35 (some 0) _ (.head _) rfl) (hl 46 (some 11) _ (.tail _ (.head _)) rfl)⟩
  ·exact dP.step.q1 0 rfl rfl fun s' bb hs hl=>⟨_,rfl,a3.andI rfl rfl (hl 47 (some 12) _ (.head _) rfl) rfl⟩
  ·exact dP.step.q1 0 rfl rfl fun s' bb hs hl=>⟨_,rfl,a3.move (.inr rfl) rfl (hl 48 (some 13) _ (.head _) rfl)⟩
  refine aR.region_lit ?_;refine AL.cons rfl (a3.move (.inl rfl) rfl rfl) ?_;refine AL.cons rfl (a3.move (.inl rfl) rfl rfl) ?_;refine AL.cons rfl (a3.nilPtr rfl rfl rfl) ?_;refine AL.cons rfl (a3.fieldPtr (k:=0) (d:=0) (e:=1) rfl rfl rfl S0) ?_;refine AL.cons rfl (a3.loadPtr1 rfl rfl rfl rfl nT rfl) ?_;refine AL.cons rfl (a3.addI rfl rfl rfl rfl (c:=((d.p+1:Nat):Int)) (by omega) (by omega)) ?_;refine AL.cons rfl (a3.nilPtr rfl rfl rfl) ?_;refine AL.cons rfl (a3.fieldPtr (k:=0) (d:=0) (e:=1) rfl rfl rfl S0) ?_;refine AL.cons rfl (a3.storePtr (cs:= [.t (.leaf (.int .i64 (((d.p+1:Nat):Int))))]) (ds:= [.t (.row 1 (cM (d.code))),.t (.leaf (.int .i64 (((d.p+1:Nat):Int)))),.t (.leaf (.int .i64 (aQ ((aQ (d.h*6364136223846793005))+1442695040888963407))))]) rfl rfl rfl rfl rfl rfl rfl sz3 (Nat.le_of_ble_eq_true rfl) rfl) ?_;refine AL.nil ?_;refine aR.seq ?_;refine aR.region_lit ?_;refine AL.cons rfl (a3.move (.inl rfl) rfl rfl) ?_;refine AL.cons rfl (a3.move (.inr rfl) rfl rfl) ?_;refine AL.nil ?_;refine aR.ret ?_;exact z0.mk (ps:= [_]) (.inr rfl) ⟨rfl,trivial⟩ rfl (nU.mk' (st':=⟨[some ⟨151,[.t (.row 1 (cM (d.code))),.t (.leaf (.int .i64 (((d.p+1:Nat):Int)))),.t (.leaf (.int .i64 (aQ ((aQ (d.h*6364136223846793005))+1442695040888963407))))]⟩],[]⟩) ⟨⟨rfl,iX,rfl⟩,trivial⟩ rfl) (uY hC ⟨_,rfl⟩) (q:= .t (.leaf (.int .i64 (DB (aQ ((DB (T6 (t0 (aQ ((aQ (d.h*6364136223846793005))+1442695040888963407)) 33) (t0 (aQ ((aQ (d.h*6364136223846793005))+1442695040888963407)) 45)) 255)+((d.code[d.p]).toNat:Int))) 255)))) (.refl _) rfl ⟨by first|(simp_all [DS.byte,FV];done)|(have hq: ¬d.p<d.code.length:=(by omega);simp [DS.byte,FV,hq]),by first|(simp_all [DS.box,DS.cells,DS.next,FV];done)|(have hq: ¬d.p<d.code.length:=(by omega);simp [DS.box,DS.cells,DS.next,FV,hq])⟩
 ·have h1b:=h1
  try simp only [Bool.and_eq_true,Bool.or_eq_true,Bool.and_eq_false_iff,Bool.or_eq_false_iff,decide_eq_true_eq,decide_eq_false_iff_not,Bool.not_eq_true',Bool.not_eq_false',Bool.not_eq_eq_eq_not,Bool.not_true,Bool.not_false,ge_iff_le,gt_iff_lt,Int.not_lt,Int.not_le] at h1b
  have h1n:d.p≥d.code.length:=by omega
  refine aR.skip ?_;refine aR.seq ?_;refine aR.region_lit ?_;refine AL.cons rfl (a3.move (.inl rfl) rfl rfl) ?_;refine AL.cons rfl (a3.move (.inr rfl) rfl rfl) ?_;refine AL.nil ?_;refine aR.ret ?_;exact z0.mk (ps:= [_]) (.inr rfl) ⟨rfl,trivial⟩ rfl (nU.mk' (st':=⟨[some ⟨151,[.t (.row 1 (cM (d.code))),.t (.leaf (.int .i64 (((d.p:Nat):Int)))),.t (.leaf (.int .i64 (aQ ((aQ (d.h*6364136223846793005))+1442695040888963407))))]⟩],[]⟩) ⟨⟨rfl,iX,rfl⟩,trivial⟩ rfl) (uY hC ⟨_,rfl⟩) (q:= .t (.leaf (.int .i64 (DB (T6 (t0 (aQ ((aQ (d.h*6364136223846793005))+1442695040888963407)) 33) (t0 (aQ ((aQ (d.h*6364136223846793005))+1442695040888963407)) 45)) 255)))) (.refl _) rfl ⟨by first|(simp_all [DS.byte,FV];done)|(have hq: ¬d.p<d.code.length:=(by omega);simp [DS.byte,FV,hq]),by first|(simp_all [DS.box,DS.cells,DS.next,FV];done)|(have hq: ¬d.p<d.code.length:=(by omega);simp [DS.box,DS.cells,DS.next,FV,hq])⟩
theorem FB(d:DS):c6 Tryz.prog 146 [.ptr 0 0] (d.box 151) (fun r t=>r= .t (.leaf (.int .i64 ((d.byteN:Nat):Int)))∧t=d.next.box 151):=by rw [d.byteN_eq];exact ao2 d
set_option maxRecDepth 100000 in
set_option maxHeartbeats 4000000 in
theorem eQ(d:DS)(n:Nat):c6 Tryz.prog 103 [.ptr 0 0,.t (.leaf (.int .i64 (((n:Nat):Int))))] (d.box 151) (fun r t=>r= .t (.leaf (.int .i64 (((d.below n:Nat):Int))))∧t=(d.after n).box 151):=by
 refine c6.intro Tryz.func103 rfl (by first|decide|(simp;done)|(simp;decide)) ?_;intro C hC
 refine aR.fact (b5 0 0 rfl rfl rfl (iB d.code)) (fun hl0=>?_)
 have hb0:=d.byteN_le
 have hb1:=d.next.byteN_le
 have hb2:=d.next.next.byteN_le
 have hb3:=d.next.next.next.byteN_le
 refine aR.seq ?_;refine aR.region_lit ?_;refine AL.cons rfl (a3.move (.inr rfl) rfl rfl) ?_;refine AL.nil ?_;refine aR.seq ?_;refine aR.seq ?_;refine aR.region_lit ?_;refine AL.cons rfl (a3.move (.inl rfl) rfl rfl) ?_;refine AL.cons rfl (a3.leq rfl rfl rfl rfl) ?_;refine AL.nil ?_;refine aR.cond rfl (fun h1=>?_) (fun h1=>?_)
 ·have h1b:=h1
  try simp only [Bool.and_eq_true,Bool.or_eq_true,Bool.and_eq_false_iff,Bool.or_eq_false_iff,decide_eq_true_eq,decide_eq_false_iff_not,Bool.not_eq_true',Bool.not_eq_false',Bool.not_eq_eq_eq_not,Bool.not_true,Bool.not_false,ge_iff_le,gt_iff_lt,Int.not_lt,Int.not_le] at h1b
  refine aR.seq ?_;refine aR.region_lit ?_;refine AL.cons rfl (a3.move (.inr rfl) rfl rfl) ?_;refine AL.nil ?_;refine aR.ret ?_;exact z0.mk (ps:= [_]) (.inr rfl) ⟨rfl,trivial⟩ rfl (nU.mk' (st':=⟨[some ⟨151,[.t (.row 1 (cM (d.code))),.t (.leaf (.int .i64 (((d.p:Nat):Int)))),.t (.leaf (.int .i64 (d.h)))]⟩],[]⟩) ⟨⟨rfl,iX,rfl⟩,trivial⟩ rfl) (uY hC ⟨_,rfl⟩) (q:= .t (.leaf (.int .i64 (0)))) iX rfl ⟨by first|(have hq:n=0:=(by omega);simp [DS.below,hq];done)|(have hq: ¬n=0:=(by omega);have hr:n≤256:=(by omega);simp [DS.below,hq,hr];done)|(have hq: ¬n=0:=(by omega);have hr: ¬n≤256:=(by omega);simp [DS.below,hq,hr]),by first|(have hq:n=0:=(by omega);simp [DS.after,DS.box,DS.cells,hq];done)|(have hq: ¬n=0:=(by omega);have hr:n≤256:=(by omega);simp [DS.after,DS.box,DS.cells,hq,hr];done)|(have hq: ¬n=0:=(by omega);have hr: ¬n≤256:=(by omega);simp [DS.after,DS.box,DS.cells,hq,hr])⟩
 ·have h1b:=h1
  try simp only [Bool.and_eq_true,Bool.or_eq_true,Bool.and_eq_false_iff,Bool.or_eq_false_iff,decide_eq_true_eq,decide_eq_false_iff_not,Bool.not_eq_true',Bool.not_eq_false',Bool.not_eq_eq_eq_not,Bool.not_true,Bool.not_false,ge_iff_le,gt_iff_lt,Int.not_lt,Int.not_le] at h1b
  refine aR.skip ?_;refine aR.seq ?_;refine aR.seq ?_;refine aR.region_lit ?_;refine AL.cons rfl (a3.move (.inl rfl) rfl rfl) ?_;refine AL.cons rfl (a3.leq rfl rfl rfl rfl) ?_;refine AL.nil ?_;refine aR.cond rfl (fun h2=>?_) (fun h2=>?_)
  ·have h2b:=h2
   try simp only [Bool.and_eq_true,Bool.or_eq_true,Bool.and_eq_false_iff,Bool.or_eq_false_iff,decide_eq_true_eq,decide_eq_false_iff_not,Bool.not_eq_true',Bool.not_eq_false',Bool.not_eq_eq_eq_not,Bool.not_true,Bool.not_false,ge_iff_le,gt_iff_lt,Int.not_lt,Int.not_le] at h2b
   refine aR.seq ?_;refine aR.region_lit ?_;refine AL.cons rfl (a3.move (.inl rfl) rfl rfl) ?_;refine AL.cons rfl (a3.callPE (pre:=⟨[some ⟨151,[.t (.row 1 (cM (d.code))),.t (.leaf (.int .i64 (((d.p:Nat):Int)))),.t (.leaf (.int .i64 (d.h)))]⟩],[]⟩) (st':=⟨[some ⟨151,[.t (.row 1 (cM (d.next.code))),.t (.leaf (.int .i64 (((d.next.p:Nat):Int)))),.t (.leaf (.int .i64 (d.next.h)))]⟩],[]⟩) (ps:= [_]) (qs:= [.ptr 0 0]) [0] [] rfl rfl Tryz.func146 (by kernel_rfl) rfl rfl rfl (by(try rw [hs]);exact⟨rfl,rfl,by decide,by decide,fun k h=>by rcases k with _|k<;>simp at h;exact⟨_,rfl⟩,fun k x h=>by rcases k with _|k<;>simp at h;subst h;exact⟨_,rfl,rfl,iX,rfl⟩,fun r row h=>by simp at h⟩) iX rfl rfl rfl (FB d)) ?_;refine AL.cons rfl (a3.move (.inl rfl) rfl rfl) ?_;refine AL.cons rfl (a3.remN (a:=d.byteN) (b:=n) rfl rfl rfl rfl (by omega) (by omega)) ?_;refine AL.cons rfl (a3.move (.inr rfl) rfl rfl) ?_;refine AL.nil ?_;refine aR.ret ?_;exact z0.mk (ps:= [_]) (.inr rfl) ⟨rfl,trivial⟩ rfl (nU.mk' (st':=⟨[some ⟨151,[.t (.row 1 (cM (d.next.code))),.t (.leaf (.int .i64 (((d.next.p:Nat):Int)))),.t (.leaf (.int .i64 (d.next.h)))]⟩],[]⟩) ⟨⟨rfl,iX,rfl⟩,trivial⟩ rfl) (uY hC ⟨_,rfl⟩) (q:= .t (.leaf (.int .i64 (((d.byteN%n:Nat):Int))))) iX rfl ⟨by first|(have hq:n=0:=(by omega);simp [DS.below,hq];done)|(have hq: ¬n=0:=(by omega);have hr:n≤256:=(by omega);simp [DS.below,hq,hr];done)|(have hq: ¬n=0:=(by omega);have hr: ¬n≤256:=(by omega);simp [DS.below,hq,hr]),by first|(have hq:n=0:=(by omega);simp [DS.after,DS.box,DS.cells,hq];done)|(have hq: ¬n=0:=(by omega);have hr:n≤256:=(by omega);simp [DS.after,DS.box,DS.cells,hq,hr];done)|(have hq: ¬n=0:=(by omega);have hr: ¬n≤256:=(by omega);simp [DS.after,DS.box,DS.cells,hq,hr])⟩
  ·have h2b:=h2
   try simp only [Bool.and_eq_true,Bool.or_eq_true,Bool.and_eq_false_iff,Bool.or_eq_false_iff,decide_eq_true_eq,decide_eq_false_iff_not,Bool.not_eq_true',Bool.not_eq_false',Bool.not_eq_eq_eq_not,Bool.not_true,Bool.not_false,ge_iff_le,gt_iff_lt,Int.not_lt,Int.not_le] at h2b
   refine aR.skip ?_;refine aR.seq ?_;refine aR.region_lit ?_;refine AL.cons rfl (a3.move (.inl rfl) rfl rfl) ?_;refine AL.cons rfl (a3.callPE (pre:=⟨[some ⟨151,[.t (.row 1 (cM (d.code))),.t (.leaf (.int .i64 (((d.p:Nat):Int)))),.t (.leaf (.int .i64 (d.h)))]⟩],[]⟩) (st':=⟨[some ⟨151,[.t (.row 1 (cM (d.next.code))),.t (.leaf (.int .i64 (((d.next.p:Nat):Int)))),.t (.leaf (.int .i64 (d.next.h)))]⟩],[]⟩) (ps:= [_]) (qs:= [.ptr 0 0]) [0] [] rfl rfl Tryz.func146 (by kernel_rfl) rfl rfl rfl (by(try rw [hs]);exact⟨rfl,rfl,by decide,by decide,fun k h=>by rcases k with _|k<;>simp at h;exact⟨_,rfl⟩,fun k x h=>by rcases k with _|k<;>simp at h;subst h;exact⟨_,rfl,rfl,iX,rfl⟩,fun r row h=>by simp at h⟩) iX rfl rfl rfl (FB d)) ?_;refine AL.cons rfl (a3.move (.inr rfl) rfl rfl) ?_;refine AL.nil ?_;refine aR.seq ?_;refine aR.region_lit ?_;refine AL.cons rfl (a3.move (.inl rfl) rfl rfl) ?_;refine AL.cons rfl (a3.callPE (pre:=⟨[some ⟨151,[.t (.row 1 (cM (d.next.code))),.t (.leaf (.int .i64 (((d.next.p:Nat):Int)))),.t (.leaf (.int .i64 (d.next.h)))]⟩],[]⟩) (st':=⟨[some ⟨151,[.t (.row 1 (cM (d.next.next.code))),.t (.leaf (.int .i64 (((d.next.next.p:Nat):Int)))),.t (.leaf (.int .i64 (d.next.next.h)))]⟩],[]⟩) (ps:= [_]) (qs:= [.ptr 0 0]) [0] [] rfl rfl Tryz.func146 (by kernel_rfl) rfl rfl rfl (by(try rw [hs]);exact⟨rfl,rfl,by decide,by decide,fun k h=>by rcases k with _|k<;>simp at h;exact⟨_,rfl⟩,fun k x h=>by rcases k with _|k<;>simp at h;subst h;exact⟨_,rfl,rfl,iX,rfl⟩,fun r row h=>by simp at h⟩) iX rfl rfl rfl (FB d.next)) ?_;refine AL.cons rfl (a3.move (.inr rfl) rfl rfl) ?_;refine AL.nil ?_;refine aR.seq ?_;refine aR.region_lit ?_;refine AL.cons rfl (a3.move (.inl rfl) rfl rfl) ?_;refine AL.cons rfl (a3.callPE (pre:=⟨[some ⟨151,[.t (.row 1 (cM (d.next.next.code))),.t (.leaf (.int .i64 (((d.next.next.p:Nat):Int)))),.t (.leaf (.int .i64 (d.next.next.h)))]⟩],[]⟩) (st':=⟨[some ⟨151,[.t (.row 1 (cM (d.next.next.next.code))),.t (.leaf (.int .i64 (((d.next.next.next.p:Nat):Int)))),.t (.leaf (.int .i64 (d.next.next.next.h)))]⟩],[]⟩) (ps:= [_]) (qs:= [.ptr 0 0]) [0] [] rfl rfl Tryz.func146 (by kernel_rfl) rfl rfl rfl (by(try rw [hs]);exact⟨rfl,rfl,by decide,by decide,fun k h=>by rcases k with _|k<;>simp at h;exact⟨_,rfl⟩,fun k x h=>by rcases k with _|k<;>simp at h;subst h;exact⟨_,rfl,rfl,iX,rfl⟩,fun r row h=>by simp at h⟩) iX rfl rfl rfl (FB d.next.next)) ?_;refine AL.cons rfl (a3.move (.inr rfl) rfl rfl) ?_;refine AL.nil ?_;refine aR.seq ?_;refine aR.region_lit ?_;refine AL.cons rfl (a3.move (.inl rfl) rfl rfl) ?_;refine AL.cons rfl (a3.callPE (pre:=⟨[some ⟨151,[.t (.row 1 (cM (d.next.next.next.code))),.t (.leaf (.int .i64 (((d.next.next.next.p:Nat):Int)))),.t (.leaf (.int .i64 (d.next.next.next.h)))]⟩],[]⟩) (st':=⟨[some ⟨151,[.t (.row 1 (cM (d.next.next.next.next.code))),.t (.leaf (.int .i64 (((d.next.next.next.next.p:Nat):Int)))),.t (.leaf (.int .i64 (d.next.next.next.next.h)))]⟩],[]⟩) (ps:= [_]) (qs:= [.ptr 0 0]) [0] [] rfl rfl Tryz.func146 (by kernel_rfl) rfl rfl rfl (by(try rw [hs]);exact⟨rfl,rfl,by decide,by decide,fun k h=>by rcases k with _|k<;>simp at h;exact⟨_,rfl⟩,fun k x h=>by rcases k with _|k<;>simp at h;subst h;exact⟨_,rfl,rfl,iX,rfl⟩,fun r row h=>by simp at h⟩) iX rfl rfl rfl (FB d.next.next.next)) ?_;refine AL.cons rfl (a3.move (.inr rfl) rfl rfl) ?_;refine AL.nil ?_;refine aR.seq ?_;refine aR.region_lit ?_;refine AL.cons rfl (a3.move (.inl rfl) rfl rfl) ?_;refine AL.cons rfl (a3.mulI rfl rfl rfl rfl (c:=((d.byteN*16777216:Nat):Int)) (by omega) (by omega)) ?_;refine AL.cons rfl (a3.move (.inl rfl) rfl rfl) ?_;refine AL.cons rfl (a3.mulI rfl rfl rfl rfl (c:=((d.next.byteN*65536:Nat):Int)) (by omega) (by omega)) ?_;refine AL.cons rfl (a3.addI rfl rfl rfl rfl (c:=(((d.byteN*16777216)+(d.next.byteN*65536):Nat):Int)) (by omega) (by omega)) ?_;refine AL.cons rfl (a3.move (.inl rfl) rfl rfl) ?_;refine AL.cons rfl (a3.mulI rfl rfl rfl rfl (c:=((d.next.next.byteN*256:Nat):Int)) (by omega) (by omega)) ?_;refine AL.cons rfl (a3.addI rfl rfl rfl rfl (c:=((((d.byteN*16777216)+(d.next.byteN*65536))+(d.next.next.byteN*256):Nat):Int)) (by omega) (by omega)) ?_;refine AL.cons rfl (a3.move (.inl rfl) rfl rfl) ?_;refine AL.cons rfl (a3.addI rfl rfl rfl rfl (c:=(((((d.byteN*16777216)+(d.next.byteN*65536))+(d.next.next.byteN*256))+d.next.next.next.byteN:Nat):Int)) (by omega) (by omega)) ?_;refine AL.cons rfl (a3.move (.inl rfl) rfl rfl) ?_;refine AL.cons rfl (a3.remN (a:=(((d.byteN*16777216)+(d.next.byteN*65536))+(d.next.next.byteN*256))+d.next.next.next.byteN) (b:=n) rfl rfl rfl rfl (by omega) (by omega)) ?_;refine AL.cons rfl (a3.move (.inr rfl) rfl rfl) ?_;refine AL.nil ?_;refine aR.ret ?_;exact z0.mk (ps:= [_]) (.inr rfl) ⟨rfl,trivial⟩ rfl (nU.mk' (st':=⟨[some ⟨151,[.t (.row 1 (cM (d.next.next.next.next.code))),.t (.leaf (.int .i64 (((d.next.next.next.next.p:Nat):Int)))),.t (.leaf (.int .i64 (d.next.next.next.next.h)))]⟩],[]⟩) ⟨⟨rfl,iX,rfl⟩,trivial⟩ rfl) (uY hC ⟨_,rfl⟩) (q:= .t (.leaf (.int .i64 (((((((d.byteN*16777216)+(d.next.byteN*65536))+(d.next.next.byteN*256))+d.next.next.next.byteN)%n:Nat):Int))))) iX rfl ⟨by first|(have hq:n=0:=(by omega);simp [DS.below,hq];done)|(have hq: ¬n=0:=(by omega);have hr:n≤256:=(by omega);simp [DS.below,hq,hr];done)|(have hq: ¬n=0:=(by omega);have hr: ¬n≤256:=(by omega);simp [DS.below,hq,hr]),by first|(have hq:n=0:=(by omega);simp [DS.after,DS.box,DS.cells,hq];done)|(have hq: ¬n=0:=(by omega);have hr:n≤256:=(by omega);simp [DS.after,DS.box,DS.cells,hq,hr];done)|(have hq: ¬n=0:=(by omega);have hr: ¬n≤256:=(by omega);simp [DS.after,DS.box,DS.cells,hq,hr])⟩
set_option maxRecDepth 100000 in
set_option maxHeartbeats 4000000 in
theorem nB(d:DS)(n:Nat):c6 Tryz.prog 112 [.ptr 0 0,.t (.leaf (.int .i64 (((n:Nat):Int))))] (d.box 151) (fun r t=>r= .t (.leaf (.bool (decide (d.below n=0))))∧t=(d.after n).box 151):=by
 refine c6.intro Tryz.func112 rfl (by first|decide|(simp;done)|(simp;decide)) ?_;intro C hC
 refine aR.fact (b5 0 0 rfl rfl rfl (iB d.code)) (fun hl0=>?_)
 refine aR.seq ?_;refine aR.region_lit ?_;refine AL.cons rfl (a3.move (.inr rfl) rfl rfl) ?_;refine AL.nil ?_;refine aR.seq ?_;refine aR.region_lit ?_;refine AL.cons rfl (a3.move (.inl rfl) rfl rfl) ?_;refine AL.cons rfl (a3.move (.inl rfl) rfl rfl) ?_;refine AL.cons rfl (a3.callPE (pre:=⟨[some ⟨151,[.t (.row 1 (cM (d.code))),.t (.leaf (.int .i64 (((d.p:Nat):Int)))),.t (.leaf (.int .i64 (d.h)))]⟩],[]⟩) (st':=⟨[some ⟨151,[.t (.row 1 (cM ((d.after n).code))),.t (.leaf (.int .i64 ((((d.after n).p:Nat):Int)))),.t (.leaf (.int .i64 ((d.after n).h)))]⟩],[]⟩) (ps:= [_,_]) (qs:= [.ptr 0 0,.t (.leaf (.int .i64 (((n:Nat):Int))))]) [0] [] rfl rfl Tryz.func103 (by kernel_rfl) rfl rfl rfl (by(try rw [hs]);exact⟨rfl,rfl,by decide,by decide,fun k h=>by rcases k with _|k<;>simp at h;exact⟨_,rfl⟩,fun k x h=>by rcases k with _|k<;>simp at h;subst h;exact⟨_,rfl,rfl,iX,rfl⟩,fun r row h=>by simp at h⟩) iX rfl rfl rfl (eQ d n)) ?_;refine AL.cons rfl (a3.eqlI rfl rfl rfl rfl) ?_;refine AL.cons rfl (a3.move (.inr rfl) rfl rfl) ?_;refine AL.nil ?_;refine aR.ret ?_;exact z0.mk (ps:= [_]) (.inr rfl) ⟨rfl,trivial⟩ rfl (nU.mk' (st':=⟨[some ⟨151,[.t (.row 1 (cM ((d.after n).code))),.t (.leaf (.int .i64 ((((d.after n).p:Nat):Int)))),.t (.leaf (.int .i64 ((d.after n).h)))]⟩],[]⟩) ⟨⟨rfl,iX,rfl⟩,trivial⟩ rfl) (uY hC ⟨_,rfl⟩) (q:= .t (.leaf (.bool (decide ((((d.below n:Nat):Int):Int)=0))))) iX rfl ⟨by first|rfl|(congr 4;simp),by rfl⟩
set_option maxRecDepth 100000 in
set_option maxHeartbeats 4000000 in
theorem iE(d:DS)(l:List ByteArray)(hl:0<l.length):c6 Tryz.prog 86 [.ptr 0 0,.t (.row 1 (aZ (l)))] (d.box 151) (fun r t=>r= .t (.leaf (.string (d.pick l)))∧t=(d.after l.length).box 151):=by
 refine c6.intro Tryz.func86 rfl (by first|decide|(simp;done)|(simp;decide)) ?_;intro C hC
 refine aR.fact (b5 0 0 rfl rfl rfl (iB d.code)) (fun hl0=>?_)
 refine aR.fact (S5 1 rfl rfl (bC _)) (fun hl1=>?_)
 have hx:d.below l.length<l.length:=d.below_lt hl
 refine aR.seq ?_;refine aR.region_lit ?_;refine AL.cons rfl (a3.move (.inr rfl) rfl rfl) ?_;refine AL.nil ?_;refine aR.seq ?_;refine aR.region_lit ?_;refine AL.cons rfl (a3.move (.inl rfl) rfl rfl) ?_;refine AL.cons rfl (a3.move (.inl rfl) rfl rfl) ?_;refine AL.cons rfl (a3.move (.inl rfl) rfl rfl) ?_;refine AL.cons rfl (a3.lenN rfl rfl rfl rfl b3 (bC _)) ?_;refine AL.cons rfl (a3.callPE (pre:=⟨[some ⟨151,[.t (.row 1 (cM (d.code))),.t (.leaf (.int .i64 (((d.p:Nat):Int)))),.t (.leaf (.int .i64 (d.h)))]⟩],[]⟩) (st':=⟨[some ⟨151,[.t (.row 1 (cM ((d.after l.length).code))),.t (.leaf (.int .i64 ((((d.after l.length).p:Nat):Int)))),.t (.leaf (.int .i64 ((d.after l.length).h)))]⟩],[]⟩) (ps:= [_,_]) (qs:= [.ptr 0 0,.t (.leaf (.int .i64 (((l.length:Nat):Int))))]) [0] [] rfl rfl Tryz.func103 (by kernel_rfl) rfl rfl rfl (by(try rw [hs]);exact⟨rfl,rfl,by decide,by decide,fun k h=>by rcases k with _|k<;>simp at h;exact⟨_,rfl⟩,fun k x h=>by rcases k with _|k<;>simp at h;subst h;exact⟨_,rfl,rfl,iX,rfl⟩,fun r row h=>by simp at h⟩) iX rfl rfl rfl (eQ d l.length)) ?_;refine AL.cons rfl (a3.index (k:=d.below l.length) rfl rfl rfl rfl rfl (YK hx) b3) ?_;refine AL.cons rfl (a3.loadEptr1 (d:= .leaf (.string (l[d.below l.length]))) rfl rfl rfl eJ rfl) ?_;refine AL.cons rfl (a3.move (.inr rfl) rfl rfl) ?_;refine AL.nil ?_;refine aR.ret ?_;exact z0.mk (ps:= [_]) (.inr rfl) ⟨rfl,trivial⟩ rfl (nU.mk' (st':=⟨[some ⟨151,[.t (.row 1 (cM ((d.after l.length).code))),.t (.leaf (.int .i64 ((((d.after l.length).p:Nat):Int)))),.t (.leaf (.int .i64 ((d.after l.length).h)))]⟩],[]⟩) ⟨⟨rfl,iX,rfl⟩,trivial⟩ rfl) (uY hC ⟨_,rfl⟩) (q:= .t (.leaf (.string (l[d.below l.length])))) iX rfl ⟨by rw [DS.pick_eq hx],by rfl⟩
set_option maxRecDepth 100000 in
set_option maxHeartbeats 4000000 in
theorem anP(code:List UInt8)(hb:code.length≤1048576):arU Tryz.prog 54 [.t (.row 1 (cM code))] 151 (DS.start code).cells:=by
 refine c6.intro Tryz.func54 rfl (by first|decide|(simp;done)|(simp;decide)) ?_;intro C hC
 refine aR.fact (S5 0 rfl rfl (iB _)) (fun hl1=>?_)
 refine aR.seq ?_;refine aR.region_lit ?_;refine AL.cons rfl (a3.moveAny (.inl rfl)) ?_;refine AL.nil ?_;refine aR.seq ?_;refine aR.region_lit ?_;refine AL.cons rfl (a3.move (.inl rfl) rfl rfl) ?_;refine AL.cons rfl (a3.lenN rfl rfl rfl rfl acJ (iB _)) ?_;refine AL.cons rfl (a3.addI rfl rfl rfl rfl (c:=((28803+code.length:Nat):Int)) (by omega) (by omega)) ?_;refine AL.cons rfl (a3.move (.inr rfl) rfl rfl) ?_;refine AL.nil ?_;refine aR.seq ?_;refine aR.seq ?_;refine aR.region_lit ?_;refine AL.cons rfl (a3.move (.inr rfl) rfl rfl) ?_;refine AL.nil ?_;refine aR.block ?_;refine aR.loopJ (ι:=Nat×Int) (fun⟨i,h⟩=>i≤code.length∧i≤4000∧ar4 code=((code.take 4000).drop i).foldl G0 h) (fun⟨i,h⟩=>⟨[(0,.t (.row 1 (cM (code)))),(3,.t (.leaf (.int .i64 (h)))),(4,.t (.leaf (.int .i64 (((i:Nat):Int)))))],⟨[],[]⟩⟩) (fun⟨i,h⟩=>code.length-i) (0,(28803+(code.length:Int))) ?_ ?_ ?_
 ·exact⟨Nat.zero_le _,Nat.zero_le _,rfl⟩
 ·exact Wk.mk (nU.mk' trivial rfl) (CF hC) ⟨⟨_,rfl,.refl _,rfl⟩,⟨⟨_,rfl,iX,rfl⟩,⟨⟨_,rfl,iX,rfl⟩,trivial⟩⟩⟩
 rintro⟨i,h⟩ hJ2
 obtain⟨hi1,hi2,hi3⟩:=hJ2
 refine aR.seq ?_;refine aR.seq ?_;refine aR.region_lit ?_;refine AL.cons rfl (a3.move (.inl rfl) rfl rfl) ?_;refine AL.cons rfl (a3.move (.inl rfl) rfl rfl) ?_;refine AL.cons rfl (a3.lenN rfl rfl rfl rfl acJ (iB _)) ?_;refine AL.cons rfl (a3.lss rfl rfl rfl rfl) ?_;refine AL.cons rfl (a3.move (.inl rfl) rfl rfl) ?_;refine AL.splitB 12 rfl (fun g3=>?_) (fun g3=>?_)
 ·have g3b:=g3
  try simp only [Bool.and_eq_true,Bool.or_eq_true,Bool.and_eq_false_iff,Bool.or_eq_false_iff,decide_eq_true_eq,decide_eq_false_iff_not,Bool.not_eq_true',Bool.not_eq_false',Bool.not_eq_eq_eq_not,Bool.not_true,Bool.not_false,ge_iff_le,gt_iff_lt,Int.not_lt,Int.not_le] at g3b
  have g3n:i<code.length:=by omega
  refine AL.cons_gv rfl rfl rfl g3 (a3.move (.inl rfl) rfl rfl) ?_;refine AL.cons_gv rfl rfl rfl g3 (a3.lss rfl rfl rfl rfl) ?_;refine AL.cons rfl (a3.pickT rfl rfl rfl g3 rfl) ?_;refine AL.nil ?_;refine aR.cond rfl (fun h4=>?_) (fun h4=>?_)
  ·have h4b:=h4
   try simp only [Bool.and_eq_true,Bool.or_eq_true,Bool.and_eq_false_iff,Bool.or_eq_false_iff,decide_eq_true_eq,decide_eq_false_iff_not,Bool.not_eq_true',Bool.not_eq_false',Bool.not_eq_eq_eq_not,Bool.not_true,Bool.not_false,ge_iff_le,gt_iff_lt,Int.not_lt,Int.not_le] at h4b
   refine aR.skip ?_;refine aR.seq ?_;refine aR.block ?_;refine aR.region_lit ?_;refine AL.cons rfl (a3.move (.inl rfl) rfl rfl) ?_;refine AL.cons rfl (a3.mulW rfl rfl rfl rfl) ?_;refine AL.cons rfl (a3.move (.inl rfl) rfl rfl) ?_;refine AL.cons rfl (a3.move (.inl rfl) rfl rfl) ?_;refine AL.cons rfl (a3.index (k:=i) rfl rfl rfl rfl rfl (yV g3n) acJ) ?_;refine AL.cons rfl (a3.loadEptr1 (d:= .leaf (.int .u8 (((code[i]).toNat:Int)))) rfl rfl rfl sh5 rfl) ?_;refine AL.cons rfl (a3.convI rfl rfl rfl ⟨_,Tryz.underlying5⟩ Tryz.underlying3 (by first|omega|(have:=UInt8.toNat_lt (code[i]);omega)) (by first|omega|(have:=UInt8.toNat_lt (code[i]);omega))) ?_;refine AL.cons rfl (a3.addW rfl rfl rfl rfl) ?_;refine AL.cons rfl (a3.addW rfl rfl rfl rfl) ?_;refine AL.cons rfl (a3.andI rfl rfl rfl rfl) ?_;refine AL.cons rfl (a3.move (.inr rfl) rfl rfl) ?_;refine AL.nil ?_;refine aR.region_lit ?_;refine AL.cons rfl (a3.move (.inl rfl) rfl rfl) ?_;refine AL.cons rfl (a3.addI rfl rfl rfl rfl (c:=((i+1:Nat):Int)) (by omega) (by omega)) ?_;refine AL.cons rfl (a3.move (.inr rfl) rfl rfl) ?_;refine AL.nil ?_;refine⟨(i+1,DB (aQ ((aQ ((aQ (h*131))+((code[i]).toNat:Int)))+7)) 1073741823),?_,?_,?_⟩
   ·exact⟨by omega,by omega,alG (by omega) (by omega) hi3 rfl⟩
   ·exact Wk.mk (nU.mk' trivial rfl) (CF hC) ⟨⟨_,rfl,.refl _,rfl⟩,⟨⟨_,rfl,iX,rfl⟩,⟨⟨_,rfl,iX,rfl⟩,trivial⟩⟩⟩
   ·dsimp only;omega
  ·have h4b:=h4
   try simp only [Bool.and_eq_true,Bool.or_eq_true,Bool.and_eq_false_iff,Bool.or_eq_false_iff,decide_eq_true_eq,decide_eq_false_iff_not,Bool.not_eq_true',Bool.not_eq_false',Bool.not_eq_eq_eq_not,Bool.not_true,Bool.not_false,ge_iff_le,gt_iff_lt,Int.not_lt,Int.not_le] at h4b
   refine aR.exit ?_;refine aR.seq ?_;refine aR.region_lit ?_;refine AL.cons rfl (a3.move (.inl rfl) rfl rfl) ?_;refine AL.cons rfl (a3.move (.inl rfl) rfl rfl) ?_;refine AL.cons rfl (a3.build rfl rfl aqO ap5 rfl rfl) ?_;refine AL.cons rfl (a3.box (cs:= [.t (.row 1 (cM (code))),.t (.leaf (.int .i64 (0))),.t (.leaf (.int .i64 (h)))]) rfl rfl rfl rfl rfl) ?_;refine AL.cons rfl (a3.move (.inr rfl) rfl rfl) ?_;refine AL.nil ?_;refine aR.ret ?_
   obtain rfl:=ac3 (by omega) hi3
   exact z0.mk (ps:= [_]) (.inr rfl) ⟨rfl,trivial⟩ rfl (nU.mk' (st':=⟨[some ⟨151,(DS.start code).cells⟩],[]⟩) ⟨⟨rfl,iX,rfl⟩,trivial⟩ rfl) (CF hC) (q:= .ptr 0 0) (.refl _) rfl ⟨0,rfl,rfl,fun i x hx=>by rcases i with _|i<;>simp at hx<;>simp,rfl⟩
 ·have g3b:=g3
  try simp only [Bool.and_eq_true,Bool.or_eq_true,Bool.and_eq_false_iff,Bool.or_eq_false_iff,decide_eq_true_eq,decide_eq_false_iff_not,Bool.not_eq_true',Bool.not_eq_false',Bool.not_eq_eq_eq_not,Bool.not_true,Bool.not_false,ge_iff_le,gt_iff_lt,Int.not_lt,Int.not_le] at g3b
  have g3n:i≥code.length:=by omega
  refine AL.skip_v rfl rfl rfl g3 rfl ?_;refine AL.skip_v rfl rfl rfl g3 rfl ?_;refine AL.cons rfl (a3.pickF rfl rfl rfl g3 rfl) ?_;refine AL.nil ?_;refine aR.cond rfl (fun h5=>?_) (fun h5=>?_)
  ·exact absurd (h5.symm.trans rfl) (by decide)
  ·have h5b:=h5
   try simp only [Bool.and_eq_true,Bool.or_eq_true,Bool.and_eq_false_iff,Bool.or_eq_false_iff,decide_eq_true_eq,decide_eq_false_iff_not,Bool.not_eq_true',Bool.not_eq_false',Bool.not_eq_eq_eq_not,Bool.not_true,Bool.not_false,ge_iff_le,gt_iff_lt,Int.not_lt,Int.not_le] at h5b
   refine aR.exit ?_;refine aR.seq ?_;refine aR.region_lit ?_;refine AL.cons rfl (a3.move (.inl rfl) rfl rfl) ?_;refine AL.cons rfl (a3.move (.inl rfl) rfl rfl) ?_;refine AL.cons rfl (a3.build rfl rfl aqO ap5 rfl rfl) ?_;refine AL.cons rfl (a3.box (cs:= [.t (.row 1 (cM (code))),.t (.leaf (.int .i64 (0))),.t (.leaf (.int .i64 (h)))]) rfl rfl rfl rfl rfl) ?_;refine AL.cons rfl (a3.move (.inr rfl) rfl rfl) ?_;refine AL.nil ?_;refine aR.ret ?_
   obtain rfl:=ac3 (by omega) hi3
   exact z0.mk (ps:= [_]) (.inr rfl) ⟨rfl,trivial⟩ rfl (nU.mk' (st':=⟨[some ⟨151,(DS.start code).cells⟩],[]⟩) ⟨⟨rfl,iX,rfl⟩,trivial⟩ rfl) (CF hC) (q:= .ptr 0 0) (.refl _) rfl ⟨0,rfl,rfl,fun i x hx=>by rcases i with _|i<;>simp at hx<;>simp,rfl⟩
end Go.Proofs.YtpioomclpaiomaaGreat

namespace Go.Proofs.YtpioomclpaiomaaGreat
open Go.RowKit
theorem acI{w:World}{xs:List Int}{v:Value}(h:IS w (.row 1 (xs.map fun n=> [Tr.leaf (.int .u8 n)])) v): ∃code:List UInt8,(xs.map fun n=> [Tr.leaf (.int .u8 n)])=cM code:=by
 have hr: ∀x∈xs,0≤x∧x≤255:=by
  intro x hx
  obtain⟨i,hi,rfl⟩:=List.mem_iff_getElem.1 hx
  cases h with
  |row c h1 h2 h3 h4=>
   have:=h4 i [Tr.leaf (.int .u8 xs[i])] (by simp [hi]) 0 _ rfl
   have:=(this.leaf_eq).2
   simpa [tU,Lit.wf,IntKind.min,IntKind.max,IntKind.bits,IntKind.signed] using this
 refine⟨xs.map fun n=>UInt8.ofNat n.toNat,?_⟩
 unfold cM
 rw [List.map_map]
 refine List.map_congr_left fun x hx=>?_
 have:=hr x hx
 have h2:(UInt8.ofNat x.toNat).toNat=x.toNat:=by
  rw [UInt8.toNat_ofNat']
  omega
 simp only [Function.comp,h2]
 rw [Int.toNat_of_nonneg this.1]
end Go.Proofs.YtpioomclpaiomaaGreat

namespace Go.Proofs.YtpioomclpaiomaaGreat
open Go.RowKit
theorem akR.nil{w:World}:akR w [] []:=trivial
theorem akR.cons{w:World}{p:PV}{ps:List PV}{v:Value}{vs:List Value}(h:RV0 w p v)(k:akR w ps vs):akR w (p::ps) (v::vs):=⟨h,k⟩
end Go.Proofs.YtpioomclpaiomaaGreat

namespace Go.Proofs.YtpioomclpaiomaaGreat
open Go.RowKit Go.WalkArith Go.IntWalk Go.WideShapes
theorem iK.set{ok:Nat→Nat→Prop}{st:c8}{m:kA}{w:World}{q:PV}: ∀ {ps:List PV} {vs:List Value} {j:Nat},iK ok st m w ps vs→(∀v,vs[j]?=some v→RV ok st m w q v)→iK ok st m w (ps.set j q) vs
 | [],[],j,_,_=>by simp [iK]
 |p::ps,v::vs,0,h,k=>⟨k v rfl,h.2⟩
 |p::ps,v::vs,j+1,h,k=>⟨h.1,iK.set h.2 fun u hu=>k u (by simpa using hu)⟩
 | [],_::_,_,h,_=>h.elim
 |_::_,[],_,h,_=>h.elim
section
variable {P:Program} {C:qM} {n:Nat} {s:AS}
theorem Wk.regBox{k j:Nat}{bx:c5}(E sz:Nat)(hsz:0<sz)(hb:s.st.boxes[k]?=some (some bx))(hj:bx.cells[j]?=some .nil):
 Wk C n s ⟨s.env,(s.st.addRow ⟨E,sz,[],false⟩).setBox k ⟨bx.ty,bx.cells.set j (.acc sz [] s.st.rows.length)⟩⟩:=fun m a w h=>by
 have hE:=X2 (row:=⟨E,sz,[],false⟩) h.sto
 have hS:=ajC (row:=⟨E,sz,[],false⟩) h.sto hsz rfl
 have h1:=h.step hE hS
 have hb1:(s.st.addRow ⟨E,sz,[],false⟩).boxes[k]?=some (some bx):=hb
 obtain⟨vs,hob,hcs⟩:=hS.box k bx hb1
 have hc:iK (lT C.av (s.st.addRow ⟨E,sz,[],false⟩) ⟨m.ρ,ET m.γ s.st.rows.length none⟩) (s.st.addRow ⟨E,sz,[],false⟩) ⟨m.ρ,ET m.γ s.st.rows.length none⟩ w (bx.cells.set j (.acc sz [] s.st.rows.length)) vs:=by
  refine iK.set hcs fun v hv=>?_
  obtain⟨u,hu,hr⟩:=hcs.get hj
  rw [hv] at hu
  cases hu
  obtain rfl:=(show v=_ from hr)
  exact⟨⟨E,sz,[],false⟩,by show(s.st.rows++ [_])[s.st.rows.length]?=_;simp,rfl,Nat.le_refl _,cL.nilRow _ _ _ _ (by unfold maxLen;omega),fun _=>by simp [cG,agV]⟩
 exact⟨_,h1.step (OA hS hb1 rfl rfl rfl rfl fun _ _=>rfl) (V6 hS hb1 rfl rfl rfl rfl (fun _ _=>rfl) hob hc)⟩
end
end Go.Proofs.YtpioomclpaiomaaGreat

namespace Go.Proofs.YtpioomclpaiomaaGreat
open Go.RowKit Go.WalkArith Go.IntWalk Go.WideShapes
section
variable {P:Program} {C:qM} {n:Nat} {s:AS} {o:Oper}
theorem apH{T:TypeId}(hT:P.underlying T=some .bool)(a b:Bool)(w:World):(Op.equalIn Op.maxDepth T (.bool a) (.bool b)).run P w= .ok (a==b) w:=by
 unfold Op.maxDepth Op.equalIn
 simp [run_underlying hT]
theorem a3.neqB{T yT:TypeId}{x y:Operand}{a b:Bool}(ho:o.op= .binOp .neq T x y yT)(hd:bO o.dst n=true)(hx:s.ev x=some (.t (.leaf (.bool a))))(hy:s.ev y=some (.t (.leaf (.bool b))))(hT:P.underlying T=some .bool):
 a3 P C n o s (s.putO o.dst (.t (.leaf (.bool (!decide (a=b)))))):=a3.bin ho hd hx hy (fun w=>by
  simp [eqGuard,binOp,Op.equal,apH hT]
  cases a<;>cases b<;>rfl) trivial
end
end Go.Proofs.YtpioomclpaiomaaGreat

namespace Go.Proofs.YtpioomclpaiomaaGreat
open Go.RowKit Go.WalkArith Go.IntWalk Go.WideShapes
inductive LR (σ β:Type) where
 |next (s:σ)
 |brk (s:σ)
 |ret (x:β)
def sw{α:Type}(b:Bool)(x y:α):α:=match b with
 |true=>x
 |false=>y
theorem iG{α:Type}{b:Bool}{x y z:α}(h:b=true)(k:x=z):sw b x y=z:=by rw [h];exact k
theorem hY{α:Type}{b:Bool}{x y z:α}(h:b=false)(k:y=z):sw b x y=z:=by rw [h];exact k
def lt{α β:Type}(x:α)(f:α→β):β:=f x
theorem zZ{α β:Type}{x y:α}{f:α→β}{z:β}(h:y=x)(k:f y=z):lt x f=z:=by subst h;exact k
noncomputable def gd{α:Type}(p:Prop)(x:Option α):Option α:= @ite _ p (Classical.propDecidable p) x none
theorem xC{α:Type}{p:Prop}{x z:Option α}(h:p)(k:x=z):gd p x=z:=by unfold gd;rw [if_pos h];exact k
theorem gdF{α:Type}{p:Prop}{x:Option α}(h: ¬p):gd p x=none:=by unfold gd;rw [if_neg h]
def bd{α β:Type}(m:Option α)(f:α→Option β):Option β:=match m with
 |none=>none
 |some a=>f a
theorem jB{α β:Type}{m:Option α}{f:α→Option β}{a:α}{z:Option β}(h:m=some a)(k:f a=z):bd m f=z:=by rw [h];exact k
def so{σ β:Type}(m:Option (β⊕σ))(f:σ→Option β):Option β:=match m with
 |none=>none
 |some (.inl x)=>some x
 |some (.inr s)=>f s
theorem soR{σ β:Type}{m:Option (β⊕σ)}{f:σ→Option β}{s:σ}{z:Option β}(h:m=some (.inr s))(k:f s=z):so m f=z:=by rw [h];exact k
def loopN{σ β:Type}(f:Nat→σ→Option (LR σ β)):Nat→Nat→σ→Option (β⊕σ)
 |0,_,s=>some (.inr s)
 |k+1,i,s=>match f i s with
  |none=>none
  |some (.next s')=>loopN f k (i+1) s'
  |some (.brk s')=>some (.inr s')
  |some (.ret x)=>some (.inl x)
def loopW{σ β:Type}(f:σ→Option (LR σ β)):Nat→σ→Option (β⊕σ)
 |0,_=>none
 |k+1,s=>match f s with
  |none=>none
  |some (.next s')=>loopW f k s'
  |some (.brk s')=>some (.inr s')
  |some (.ret x)=>some (.inl x)
section
variable {σ β:Type} {f:Nat→σ→Option (LR σ β)} {n i:Nat} {s s':σ} {x:β} {R:Option (β⊕σ)}
theorem u1(h:i<n)(hJ:R=loopN f (n-i) i s)(e:f i s=some (.next s')):R=loopN f (n-(i+1)) (i+1) s':=by
 rw [hJ,show n-i=(n-(i+1))+1 by omega,loopN,e]
theorem alB(h:i<n)(hJ:R=loopN f (n-i) i s)(e:f i s=some (.brk s')):R=some (.inr s'):=by
 rw [hJ,show n-i=(n-(i+1))+1 by omega,loopN,e]
theorem alE(h:i<n)(hJ:R=loopN f (n-i) i s)(e:f i s=some (.ret x)):R=some (.inl x):=by
 rw [hJ,show n-i=(n-(i+1))+1 by omega,loopN,e]
theorem alC(h:n≤i)(hJ:R=loopN f (n-i) i s):R=some (.inr s):=by
 rw [hJ,show n-i=0 by omega,loopN]
end
section
variable {σ β:Type} {f:σ→Option (LR σ β)} {k:Nat} {s s':σ} {x:β} {R:Option (β⊕σ)}
end
section
variable {P:Program} {C:qM} {n:Nat} {s:AS} {Q:Exit→AS→Prop}
def QC(C:qM)(n:Nat)(Q:Exit→AS→Prop):Prop:= ∀e s s',Wk C n s s'→Q e s'→Q e s
def NC(C:qM)(n:Nat)(N:AS→Prop):Prop:= ∀s s',Wk C n s s'→N s'→N s
theorem ar3{c:Code}:NC C n (aR P C n c Q):=fun _ _ h k=>aR.weak h k
theorem arG{N:AS→Prop}(hn:NC C n N)(hq:QC C n Q):QC C n (V8 N Q):=fun e s s' h k=>by
 cases e with
 |normal=>exact hn s s' h k
 |_=>exact hq _ s s' h k
theorem apG{id:Nat}(hq:QC C n Q):QC C n (r8 id Q):=fun e s s' h k=>by
 cases e with
 |exit i=>
  simp only [r8] at k ⊢
  split
  ·rename_i hi;rw [if_pos hi] at k;exact hq _ s s' h k
  ·rename_i hi;rw [if_neg hi] at k;exact hq _ s s' h k
 |_=>exact hq _ s s' h k
theorem arF{fn:Func}{R:PV→c8→Prop}:QC C n (z0 P C n fn R):=fun e s s' h k=>⟨k.1,fun m a w hr=>by
 obtain⟨m',h'⟩:=h m a w hr
 exact k.2 m' a w h'⟩
end
end Go.Proofs.YtpioomclpaiomaaGreat

namespace Go.Proofs.YtpioomclpaiomaaGreat
open Go.RowKit Go.WalkArith Go.IntWalk Go.WideShapes
section
variable {P:Program} {C:qM} {n:Nat} {s:AS} {o:Oper}
end
end Go.Proofs.YtpioomclpaiomaaGreat

namespace Go.Proofs.YtpioomclpaiomaaGreat
open Go.RowKit Go.WalkArith Go.IntWalk Go.WideShapes
def C1(v:ByteArray)(k:Nat):UInt8:=(v[k]?).getD 0
section
variable {P:Program} {C:qM} {n:Nat} {s:AS} {o:Oper}
theorem asQ(b:UInt8):tU (.int .u8 (b.toNat:Int)):=by
 have:=b.toNat_lt
 simp [tU,Lit.wf,IntKind.min,IntKind.max,IntKind.bits,IntKind.signed]
 omega
theorem a3.indexS{T:TypeId}{x i:Operand}{v:ByteArray}{k:Nat}(ho:o.op= .index T x i)(hd:bO o.dst n=true)(hx:s.ev x=some (.t (.leaf (.string v))))(hi:s.ev i=some (.t (.leaf (.int .i64 (k:Int)))))(hk:k<v.size)(hT:P.underlying T=some .string):
 a3 P C n o s (s.putO o.dst (.t (.leaf (.int .u8 ((C1 v k).toNat:Int))))):=
 a3.quiet (c9 hd) fun m a w h=>by
  have h1:=(cL.leaf_eq (h.eval hx)).1
  have h2:=(cL.leaf_eq (h.eval hi)).1
  refine⟨.int .u8 ((C1 v k).toNat:Int),?_,cL.leaf (asQ _)⟩
  have h3:v[k]?=some v[k]:=by simp [hk]
  unfold execOp
  simp [ho,h1,h2,Instr.index,asIntOf,run_underlying hT,h3,C1]
theorem a3.indexSI{T:TypeId}{x i:Operand}{v:ByteArray}{y:Int}(ho:o.op= .index T x i)(hd:bO o.dst n=true)(hx:s.ev x=some (.t (.leaf (.string v))))(hi:s.ev i=some (.t (.leaf (.int .i64 y))))(h0:0≤y)(hk:y.toNat<v.size)(hT:P.underlying T=some .string):
 a3 P C n o s (s.putO o.dst (.t (.leaf (.int .u8 ((C1 v y.toNat).toNat:Int))))):=
 a3.indexS (k:=y.toNat) ho hd hx (by rw [hi,Int.toNat_of_nonneg h0]) hk hT
def Q6(s:AS):Option Operand→Option Int
 |none=>some 0
 |some x=>match s.ev x with
  |some (.t (.leaf (.int .i64 y)))=>some y
  |_=>none
def A8(s:AS)(len:Nat):Option Operand→Option Int
 |none=>some (len:Int)
 |some x=>match s.ev x with
  |some (.t (.leaf (.int .i64 y)))=>some y
  |_=>none
theorem agG{m:kA}{a:Act}{w:World}(h:RA C n s m a w){x:Operand}{y:Int}(hx:s.ev x=some (.t (.leaf (.int .i64 y)))):a.eval x= .int .i64 y:=(cL.leaf_eq (h.eval hx)).1
theorem Q6.some'{x:Operand}{y:Int}(h:Q6 s (some x)=some y):s.ev x=some (.t (.leaf (.int .i64 y))):=by
 unfold Q6 at h
 simp only at h
 split at h
 ·rename_i z hz
  simp only [Option.some.injEq] at h
  rw [hz,h]
 ·cases h
theorem A8.some'{x:Operand}{y:Int}{len:Nat}(h:A8 s len (some x)=some y):s.ev x=some (.t (.leaf (.int .i64 y))):=by
 unfold A8 at h
 simp only at h
 split at h
 ·rename_i z hz
  simp only [Option.some.injEq] at h
  rw [hz,h]
 ·cases h
theorem UQ{m:kA}{a:Act}{w:World}(h:RA C n s m a w){isS:Bool}{len cap:Nat}{lo hi:Option Operand}{l k:Int}(hlen:len≤cap)(h1:Q6 s lo=some l)(h2:A8 s len hi=some k)(h3:0≤l)(h4:l≤k)(h5:k≤(len:Int)):
 (Instr.sliceBounds isS len cap (lo.map a.eval) (hi.map a.eval) none).run P w= .ok (l.toNat,k.toNat,cap) w:=by
 have hk:0≤k:=by omega
 have hkc:k≤(cap:Int):=by omega
 have hlk:l≤(k.toNat:Int):=by omega
 cases lo with
 |none=>
  simp only [Q6,Option.some.injEq] at h1
  subst h1
  cases hi with
  |none=>
   simp only [A8,Option.some.injEq] at h2
   subst h2
   simp [Instr.sliceBounds]
  |some y=>
   have e:=agG h (A8.some' h2)
   simp [Instr.sliceBounds,Instr.sliceBound,e,asIntOf,hk,hkc]
 |some x=>
  have e:=agG h (Q6.some' h1)
  cases hi with
  |none=>
   simp only [A8,Option.some.injEq] at h2
   subst h2
   simp [Instr.sliceBounds,Instr.sliceBound,e,asIntOf,h3,h4]
  |some y=>
   have e2:=agG h (A8.some' h2)
   have hm:max k 0=k:=Int.max_eq_left hk
   simp [Instr.sliceBounds,Instr.sliceBound,e,e2,asIntOf,hk,hkc,h3,hlk,hm,h4]
   try omega
theorem a3.sliceS{T:TypeId}{x:Operand}{lo hi:Option Operand}{v:ByteArray}{l k:Int}(ho:o.op= .slice T x lo hi none)(hd:bO o.dst n=true)(hx:s.ev x=some (.t (.leaf (.string v))))(h1:Q6 s lo=some l)(h2:A8 s v.size hi=some k)(h3:0≤l∧l≤k∧k≤(v.size:Int))(hT:P.underlying T=some .string):
 a3 P C n o s (s.putO o.dst (.t (.leaf (.string (v.extract l.toNat k.toNat))))):=
 a3.quiet (c9 hd) fun m a w h=>by
  obtain⟨e,h6⟩:=cL.leaf_eq (h.eval hx)
  have h6:v.size≤maxLen:=h6
  refine⟨.string (v.extract l.toNat k.toNat),?_,cL.leaf ?_⟩
  ·have hb:=UQ (P:=P) h (isS:=false) (Nat.le_refl v.size) h1 h2 h3.1 h3.2.1 h3.2.2
   unfold execOp
   simp [ho,e,Instr.sliceAt,Instr.slice,run_underlying hT,hb]
  ·show(v.extract l.toNat k.toNat).size≤maxLen
   rw [ByteArray.size_extract]
   omega
theorem cL.part{ok:Nat→Nat→Prop}{w:World}{sz:Nat}{es:List (List Tr)}{a:Option Addr}{cap l k:Nat}(h:cL ok w (.row sz es) (.slice a es.length cap))(h1:l≤k)(h2:k≤es.length):cL ok w (.row sz ((es.take k).drop l)) (.slice (if cap=l then a else a.map (·.add (l*sz))) (k-l) (cap-l)):=by
 cases h with
 |row c q1 q2 q3 q4=>
  have hlen:((es.take k).drop l).length=k-l:=by simp;omega
  have hget: ∀(i:Nat) e,((es.take k).drop l)[i]?=some e→es[l+i]?=some e:=fun i e he=>by
   rw [List.getElem?_drop,List.getElem?_take] at he
   split at he
   ·exact he
   ·cases he
  have:=cL.row (ok:=ok) (w:=w) (sz:=sz) (es:=(es.take k).drop l) (a:=if cap=l then a else a.map (·.add (l*sz))) (cap:=cap-l) (fun i j=>c (l+i) j) (by rw [hlen];omega) (by omega) (fun hne=>?_) (fun i e he j d hd=>q4 _ e (hget i e he) j d hd)
  ·rwa [hlen] at this
  ·have hkl:l<k:=by
    rcases Nat.lt_or_ge l k with h|h
    ·exact h
    ·exact absurd (List.length_eq_zero_iff.1 (by rw [hlen];omega)) hne
   obtain⟨b,off,rfl,hb,q5⟩:=q3 (by rintro rfl;simp at h2;omega)
   refine⟨b,off+l*sz,?_,hb,fun i e he j d hd=>?_⟩
   ·rw [if_neg (by omega)]
    have hadd:(⟨b,off,none⟩:Addr).add (l*sz)=⟨b,off+l*sz,none⟩:=by unfold Addr.add;split<;>simp_all
    simp [hadd]
   ·have:=q5 (l+i) e (hget i e he) j d hd
    rw [show off+l*sz+i*sz+j=off+(l+i)*sz+j by rw [Nat.add_mul];omega]
    exact this
theorem a3.sliceR{T E sz by_:Nat}{x:Operand}{lo hi:Option Operand}{p:PV}{es:List (List Tr)}{l k:Int}(ho:o.op= .slice T x lo hi none)(hd:bO o.dst n=true)(hx:s.ev x=some p)(hp:nM p=some (sz,es))(h1:Q6 s lo=some l)(h2:A8 s es.length hi=some k)(h3:0≤l∧l≤k∧k≤(es.length:Int))(hT:elemOf? P T=some (E,sz,by_)):
 a3 P C n o s (s.putO o.dst (.t (.row sz ((es.take k.toNat).drop l.toNat)))):=
 a3.quiet (c9 hd) fun m a w h=>by
  have hr:=wD hp (h.eval hx)
  obtain⟨i,hu,hi',hs,-⟩:=elemOf?.spec hT
  obtain⟨ad,cap,hv,hlc,hcm⟩:=hr.shape
  rw [hv] at hr
  refine⟨_,?_,hr.part (l:=l.toNat) (k:=k.toNat) (by omega) (by omega)⟩
  have hb:=UQ (P:=P) h (isS:=true) hlc h1 h2 h3.1 h3.2.1 h3.2.2
  unfold execOp
  simp [ho,hv,Instr.sliceAt,Instr.slice,run_underlying hu,hb,Go.sizeOf,typeInfo,hi',hs]
end
end Go.Proofs.YtpioomclpaiomaaGreat

namespace Go.Proofs.YtpioomclpaiomaaGreat
open Go.RowKit Go.Proofs
end Go.Proofs.YtpioomclpaiomaaGreat

namespace Go.Proofs.YtpioomclpaiomaaGreat
open Go.RowKit Go.WalkArith Go.IntWalk Go.WideShapes
instance:Inhabited ByteArray:=⟨⟨#[]⟩⟩
def aW{α:Type}[Inhabited α](l:List α)(k:Nat):α:=(l[k]?).getD default
theorem gE{α:Type}[Inhabited α]{l:List α}{k:Nat}(h:k<l.length):aW l k=l[k]:=by simp [aW,h]
theorem amK{l:List ByteArray}{k:Nat}(h:k<l.length):(aZ l)[k]?=some [.leaf (.string (aW l k))]:=by rw [gE h];exact YK h
theorem ak2{l:List Int}{k:Nat}(h:k<l.length):(jS l)[k]?=some [.leaf (.int .i64 (aW l k))]:=by rw [gE h];exact ak3 h
theorem agD{l:List UInt8}{k:Nat}(h:k<l.length):(cM l)[k]?=some [.leaf (.int .u8 ((aW l k).toNat:Int))]:=by rw [gE h];exact yV h
theorem AN{a b c:Nat}(h:a+b≤68719476736)(hc:c≤2048):(a+b)*c≤140737488355328:=by
 have:=Nat.mul_le_mul h hc
 omega
theorem afS(l:List ByteArray)(a b:Nat):((aZ l).take b).drop a=aZ ((l.take b).drop a):=by simp [aZ,List.map_drop,List.map_take]
theorem a3.congrP{P:Program}{C:qM}{n:Nat}{s:AS}{o:Oper}{sz:Nat}{es es':List (List Tr)}(h:a3 P C n o s (s.putO o.dst (.t (.row sz es))))(e:es=es'):a3 P C n o s (s.putO o.dst (.t (.row sz es'))):=e ▸ h
theorem qA{a b:Nat}(h:decide ((a:Int)<(b:Int))=true):a<b:=a4 h
theorem p9{a b:Nat}(h:decide ((a:Int)<(b:Int))=false):b≤a:=alF h
theorem UM{a:Nat}{b:Int}(h:decide ((a:Int)<b)=true):a<b.toNat:=by have:=of_decide_eq_true h;omega
theorem UL{a:Nat}{b:Int}(h:decide ((a:Int)<b)=false):b.toNat≤a:=by have:=of_decide_eq_false h;omega
def qO(s:c8)(fb0 fr0:List Nat)(pre:c8):List Nat→List (Option c5)→Prop
 | [],[]=>True
 |k::fb,some x::bs=>(∃y,s.boxes[k]?=some (some y)∧y.ty=x.ty∧tS y.cells (DP fb0 fr0 x.cells)∧l5 pre x.cells=true)∧qO s fb0 fr0 pre fb bs
 |_,_=>False
def tV(s:c8):List Nat→List rP→Prop
 | [],[]=>True
 |r::fr,row::rs=>s.rows[r]?=some row∧tV s fr rs
 |_,_=>False
theorem qO.len{s pre:c8}{fb0 fr0:List Nat}: ∀ {fb:List Nat} {bs:List (Option c5)},qO s fb0 fr0 pre fb bs→fb.length=bs.length
 | [],[],_=>rfl
 |_::_,some _::_,h=>by simp [qO.len h.2]
 |_::_,none::_,h=>h.elim
 | [],_::_,h=>h.elim
 |_::_,[],h=>h.elim
theorem qO.get{s pre:c8}{fb0 fr0:List Nat}: ∀ {fb:List Nat} {bs:List (Option c5)},qO s fb0 fr0 pre fb bs→ ∀k,k<bs.length→ ∃x,bs[k]?=some (some x)∧ ∃y,s.boxes[fb.getD k 0]?=some (some y)∧y.ty=x.ty∧tS y.cells (DP fb0 fr0 x.cells)∧l5 pre x.cells=true
 | [],[],_,k,h=>by simp at h
 |_::_,some x::_,h,0,_=>⟨x,rfl,h.1⟩
 |_::_,some _::_,h,k+1,hk=>by simpa using qO.get h.2 k (by simpa using hk)
 |_::_,none::_,h,_,_=>h.elim
 | [],_::_,h,_,_=>h.elim
 |_::_,[],h,_,_=>h.elim
theorem tV.len{s:c8}: ∀ {fr:List Nat} {rs:List rP},tV s fr rs→fr.length=rs.length
 | [],[],_=>rfl
 |_::_,_::_,h=>by simp [tV.len h.2]
 | [],_::_,h=>h.elim
 |_::_,[],h=>h.elim
theorem tV.get{s:c8}: ∀ {fr:List Nat} {rs:List rP},tV s fr rs→ ∀k row,rs[k]?=some row→s.rows[fr.getD k 0]?=some row
 | [],[],_,k,_,h=>by simp at h
 |_::_,_::_,h,0,row,hr=>by simp at hr;subst hr;exact h.1
 |_::_,_::_,h,k+1,row,hr=>by simpa using tV.get h.2 k row (by simpa using hr)
 | [],_::_,h,_,_,_=>h.elim
 |_::_,[],h,_,_,_=>h.elim
theorem gA.of{s pre:c8}{fb fr:List Nat}(hb:qO s fb fr pre fb pre.boxes)(hr:tV s fr pre.rows)(n1:fb.Nodup)(n2:fr.Nodup):gA s pre fb fr where
 fbl:=hb.len
 frl:=hr.len
 fbn:=n1
 frn:=n2
 all:=fun k hk=>by
  obtain⟨x,hx,-⟩:=hb.get k hk
  exact⟨x,hx⟩
 box:=fun k x hx=>by
  obtain⟨x',hx',h⟩:=hb.get k (List.getElem?_eq_some_iff.1 hx).1
  rw [hx] at hx'
  cases hx'
  exact h
 row:=hr.get
section
variable {P:Program} {C:qM} {n:Nat} {s:AS} {o:Oper}
theorem a3.callVPE{y:Operand}{f:FuncId}{fn:Func}{xs:List Operand}{ts:Array TypeId}{ps cs qs:List PV}{res:PV}{pre st' S:c8}(fb fr:List Nat)(ho:o.op= .call { callee:= .value y,args:=⟨xs⟩,argTypes:=ts })(hd:bO o.dst n=true)(hy:s.ev y=some (.fn f cs))(hf:P.funcs[f]?=some fn)(hnm:(fn.name== "runtime.NumGoroutine")=false)(hb:fn.body.isNone=false)
 (hx:xs.map s.ev=ps.map some) (hS:s.st=S) (hp:gA S pre fb fr) (hle:tS (ps++cs) (DP fb fr qs)) (hok:l5 pre qs=true) (hbl:st'.boxes.length=pre.boxes.length) (hrl:st'.rows.length=pre.rows.length) (hc:c6 P f qs pre (fun r t=>r=res∧t=st')):
 a3 P C n o s ((⟨s.env,S.over st' fb fr⟩:AS).putO o.dst (PV.ren fb fr res)):=by
 subst hS
 exact a3.enterP fb fr hd (fun m a w h=>by
  obtain⟨vs,h1,h2⟩:=h.eval hy
  refine⟨xs.map a.eval++vs,?_,iK.append (evL h hx) h2⟩
  have hcf:=kR (P:=P) hf hnm hb
  unfold execOp
  simp only [ho]
  simp [resolve,invoke,Deferred.ofValue,h1,hcf]) hp hle hok hbl hrl hc
theorem AL.skipP{ops:Array Oper}{rest:List Oper}{Q:Exit→AS→Prop}{j d:Nat}{b c e:Bool}(hg:o.guard=some (j,c))(hj:(ops[j]?).bind (·.dst)=some d)(hb:s.lk d=some (.t (.leaf (.bool b))))(hv:b=e)(hne:(e==c)=false)(hd:bO o.dst n=true)(h:AL P C n ops rest Q (s.putO o.dst (.tup []))):AL P C n ops (o::rest) Q s:=fun m a w hr=>
 wpList_step fun K hK=>by
  subst hv
  rw [if_neg (by simpa [Region.wanted,hg,hr.yielded hj hb] using hne)]
  exact hK _ _ (h m _ w (hr.put (c9 hd) ⟨[],rfl,trivial⟩))
theorem AL.skipU{ops:Array Oper}{rest:List Oper}{Q:Exit→AS→Prop}{j d:Nat}{c:Bool}(hg:o.guard=some (j,c))(hj:(ops[j]?).bind (·.dst)=some d)(hb:s.lk d=some (.tup []))(hd:bO o.dst n=true)(h:AL P C n ops rest Q (s.putO o.dst (.tup []))):AL P C n ops (o::rest) Q s:=fun m a w hr=>
 wpList_step fun K hK=>by
  have hy:yielded ops a.tmps j=none:=by
   obtain⟨v,hv,vs,rfl,hl⟩:=hr.env d _ hb
   simp [Go.yielded,hj,hv]
  rw [if_neg (by simp [Region.wanted,hg,hy])]
  exact hK _ _ (h m _ w (hr.put (c9 hd) ⟨[],rfl,trivial⟩))
theorem a3.buildSliceE{T E sz by_ len:Nat}{parts:Array (Nat×Operand)}{ps:List (Nat×List PV)}{zs cs:List PV}{es es':List (List Tr)}(ho:o.op= .buildSlice T len parts)(hd:bO o.dst n=true)(hT:elemOf? P T=some (E,sz,by_))(hz:cO P E=some zs)(hp:pH s parts.toList=some ps)
 (hc:uL (fun i=>some (i*sz,sz)) (List.replicate len zs).flatten ps=some cs) (hle:tS cs (es.flatten.map PV.t)) (hel:es.length=len) (hes: ∀e∈es,e.length=sz) (hsz:0<sz) (hzl:zs.length=sz) (hsm:len*sz≤16777216) (he:es=es'):
 a3 P C n o s (s.putO o.dst (.t (.row sz es'))):=he ▸ a3.buildSliceQ ho hd hT hz hp hc hle hel hes hsz hzl hsm
theorem a3.buildSliceA{T E sz by_ len:Nat}{parts:Array (Nat×Operand)}{ps:List (Nat×List PV)}{zs cs:List PV}{es es':List (List Tr)}(ho:o.op= .buildSlice T len parts)(hd:bO o.dst n=true)(hT:elemOf? P T=some (E,sz,by_))(hz:cO P E=some zs)(hp:pH s parts.toList=some ps)
 (hc:uL (fun i=>some (i*sz,sz)) (List.replicate len zs).flatten ps=some cs) (hle:tS cs (es.flatten.map PV.t)) (hel:es.length=len) (hes: ∀e∈es,e.length=sz) (hsz:0<sz) (hzl:zs.length=sz) (hsm:len*sz≤16777216) (he:es=es'):
 a3 P C n o s ((⟨s.env,s.st.addRow ⟨E,sz,es',false⟩⟩:AS).putO o.dst (.acc sz es' s.st.rows.length)):=he ▸ a3.buildSlice ho hd hT hz hp hc hle hel hes hsz hzl hsm
end
theorem e9{C:qM}{bs:List (Option c5)}{rs:List rP}{S:c8}(h:C.st=⟨bs,rs⟩)(hb: ∀k,k<bs.length→ ∃y,S.boxes[k]?=some (some y))(hl:rs.length≤S.rows.length):lF C.st S:=by
 rw [h]
 exact⟨fun k x hx=>hb k (List.getElem?_eq_some_iff.1 hx).1,fun k row hk=>⟨S.rows[k]'(Nat.lt_of_lt_of_le (List.getElem?_eq_some_iff.1 hk).1 hl),List.getElem?_eq_getElem _⟩⟩
theorem lG{S:c8}{x:c5}{bs:List (Option c5)}(h:S.boxes=some x::bs): ∀k,k<1→ ∃y,S.boxes[k]?=some (some y):=fun k hk=>by
 obtain rfl:k=0:=by omega
 exact⟨x,by rw [h];rfl⟩
theorem aqW{S:c8}{x y:c5}{bs:List (Option c5)}(h:S.boxes=some x::some y::bs): ∀k,k<2→ ∃y,S.boxes[k]?=some (some y):=fun k hk=>by
 rcases(by omega:k=0∨k=1) with rfl|rfl
 ·exact⟨x,by rw [h];rfl⟩
 ·exact⟨y,by rw [h];rfl⟩
theorem aqX{S:c8}{x y z:c5}{bs:List (Option c5)}(h:S.boxes=some x::some y::some z::bs): ∀k,k<3→ ∃y,S.boxes[k]?=some (some y):=fun k hk=>by
 rcases(by omega:k=0∨k=1∨k=2) with rfl|rfl|rfl
 ·exact⟨x,by rw [h];rfl⟩
 ·exact⟨y,by rw [h];rfl⟩
 ·exact⟨z,by rw [h];rfl⟩
theorem aqV{S:c8}: ∀k,k<0→ ∃y,S.boxes[k]?=some (some y):=fun k hk=>absurd hk (Nat.not_lt_zero _)
instance:Inhabited aU:=⟨.mk 0 0⟩
theorem aU.trs_at{l:List aU}{k:Nat}(h:k<l.length):(aU.trs l)[k]?=some (aW l k).cs:=by rw [gE h];exact aU.trs_cs h
instance:Inhabited aA:=⟨.mk ⟨#[]⟩ []⟩
theorem aA.trs_part(l:List aA)(a b:Nat):((aA.trs l).take b).drop a=aA.trs ((l.take b).drop a):=by rw [aA.trs_map,aA.trs_map,List.map_drop,List.map_take]
theorem aA.trs_at{l:List aA}{k:Nat}(h:k<l.length):(aA.trs l)[k]?=some (aW l k).cs:=by rw [gE h];exact aA.trs_cs h
instance:Inhabited aB:=⟨.mk 0 ⟨#[]⟩ []⟩
theorem aB.trs_part(l:List aB)(a b:Nat):((aB.trs l).take b).drop a=aB.trs ((l.take b).drop a):=by rw [aB.trs_map,aB.trs_map,List.map_drop,List.map_take]
theorem aB.trs_at{l:List aB}{k:Nat}(h:k<l.length):(aB.trs l)[k]?=some (aW l k).cs:=by rw [gE h];exact aB.trs_cs h
instance:Inhabited bZ:=⟨.mk ⟨#[]⟩ default⟩
theorem bZ.trs_at{l:List bZ}{k:Nat}(h:k<l.length):(bZ.trs l)[k]?=some (aW l k).cs:=by rw [gE h];exact bZ.trs_cs h
instance:Inhabited aG:=⟨.mk 0 ⟨#[]⟩ ⟨#[]⟩ 0 default [] []⟩
theorem aG.trs_at{l:List aG}{k:Nat}(h:k<l.length):(aG.trs l)[k]?=some (aW l k).cs:=by rw [gE h];exact aG.trs_cs h
instance:Inhabited bA:=⟨.mk ⟨#[]⟩ [] default⟩
theorem bA.trs_at{l:List bA}{k:Nat}(h:k<l.length):(bA.trs l)[k]?=some (aW l k).cs:=by rw [gE h];exact bA.trs_cs h
instance:Inhabited aC:=⟨.mk ⟨#[]⟩ [] default false [] default⟩
theorem aC.trs_at{l:List aC}{k:Nat}(h:k<l.length):(aC.trs l)[k]?=some (aW l k).cs:=by rw [gE h];exact aC.trs_cs h
instance:Inhabited aP:=⟨.mk ⟨#[]⟩ [] false false []⟩
theorem aP.trs_at{l:List aP}{k:Nat}(h:k<l.length):(aP.trs l)[k]?=some (aW l k).cs:=by rw [gE h];exact aP.trs_cs h
instance:Inhabited aD:=⟨.mk ⟨#[]⟩ []⟩
theorem aD.trs_part(l:List aD)(a b:Nat):((aD.trs l).take b).drop a=aD.trs ((l.take b).drop a):=by rw [aD.trs_map,aD.trs_map,List.map_drop,List.map_take]
theorem aD.trs_at{l:List aD}{k:Nat}(h:k<l.length):(aD.trs l)[k]?=some (aW l k).cs:=by rw [gE h];exact aD.trs_cs h
instance:Inhabited aH:=⟨.mk ⟨#[]⟩ [] []⟩
theorem aH.trs_at{l:List aH}{k:Nat}(h:k<l.length):(aH.trs l)[k]?=some (aW l k).cs:=by rw [gE h];exact aH.trs_cs h
instance:Inhabited aM:=⟨.mk ⟨#[]⟩ default⟩
theorem aM.trs_at{l:List aM}{k:Nat}(h:k<l.length):(aM.trs l)[k]?=some (aW l k).cs:=by rw [gE h];exact aM.trs_cs h
instance:Inhabited aO:=⟨.mk ⟨#[]⟩ [] default⟩
theorem aO.trs_at{l:List aO}{k:Nat}(h:k<l.length):(aO.trs l)[k]?=some (aW l k).cs:=by rw [gE h];exact aO.trs_cs h
instance:Inhabited aL:=⟨.mk ⟨#[]⟩ [] default [] false false default []⟩
theorem aL.trs_at{l:List aL}{k:Nat}(h:k<l.length):(aL.trs l)[k]?=some (aW l k).cs:=by rw [gE h];exact aL.trs_cs h
instance:Inhabited aT:=⟨.mk ⟨#[]⟩ default⟩
theorem aT.trs_at{l:List aT}{k:Nat}(h:k<l.length):(aT.trs l)[k]?=some (aW l k).cs:=by rw [gE h];exact aT.trs_cs h
instance:Inhabited aK:=⟨.mk ⟨#[]⟩ [] [] [] default default⟩
theorem aK.trs_at{l:List aK}{k:Nat}(h:k<l.length):(aK.trs l)[k]?=some (aW l k).cs:=by rw [gE h];exact aK.trs_cs h
instance:Inhabited aJ:=⟨.mk ⟨#[]⟩ [] [] [] [] []⟩
theorem aJ.trs_at{l:List aJ}{k:Nat}(h:k<l.length):(aJ.trs l)[k]?=some (aW l k).cs:=by rw [gE h];exact aJ.trs_cs h
instance:Inhabited aF:=⟨.mk []⟩
theorem aF.trs_at{l:List aF}{k:Nat}(h:k<l.length):(aF.trs l)[k]?=some (aW l k).cs:=by rw [gE h];exact aF.trs_cs h
instance:Inhabited bS:=⟨.mk default []⟩
theorem bS.trs_at{l:List bS}{k:Nat}(h:k<l.length):(bS.trs l)[k]?=some (aW l k).cs:=by rw [gE h];exact bS.trs_cs h
instance:Inhabited eY:=⟨.mk 0 0 default []⟩
instance:Inhabited bB:=⟨.mk default 0 []⟩
theorem bB.trs_at{l:List bB}{k:Nat}(h:k<l.length):(bB.trs l)[k]?=some (aW l k).cs:=by rw [gE h];exact bB.trs_cs h
instance:Inhabited cP:=⟨.mk ⟨#[]⟩ 0 0 0 false⟩
instance:Inhabited pE:=⟨.mk [] [] []⟩
end Go.Proofs.YtpioomclpaiomaaGreat

namespace Go.Proofs.YtpioomclpaiomaaGreat
open Go.RowKit Go.WalkArith Go.IntWalk Go.WideShapes
section
variable {P:Program} {C:qM} {n:Nat} {s:AS} {o:Oper}
theorem a3.buildSliceB{T E sz by_ len:Nat}{parts:Array (Nat×Operand)}{ps:List (Nat×List PV)}{zs cs:List PV}(ho:o.op= .buildSlice T len parts)(hd:bO o.dst n=true)(hT:elemOf? P T=some (E,sz,by_))(hz:cO P E=some zs)(hp:pH s parts.toList=some ps)
 (hc:uL (fun i=>some (i*sz,sz)) (List.replicate len zs).flatten ps=some cs) (hcl:cs.length=len*sz) (hsz:0<sz) (hzl:zs.length=sz) (hsm:len*sz≤16777216):
 a3 P C n o s ((⟨s.env,s.st.addBox ⟨E,cs⟩⟩:AS).putO o.dst (.bsl s.st.boxes.length len)):=
 a3.run hd (s1:=⟨s.env,s.st.addBox ⟨E,cs⟩⟩) (fun m a w h=>by
  obtain⟨us,h1,h2,h3⟩:=a3.buildSlice_run ho hT hz hp hc hcl hsz hzl hsm h
  exact⟨_,_,_,h1,BX (x:=⟨E,cs⟩),EH (x:=⟨E,cs⟩) h.sto h2,⟨⟨E,cs⟩,by simp [c8.addBox]⟩,by simp [cG]⟩) rfl
theorem a3.buildSliceLE{T E sz by_ len:Nat}{parts:Array (Nat×Operand)}{ps:List (Nat×List PV)}{zs cs:List PV}{es es':List (List Tr)}(ho:o.op= .buildSlice T len parts)(hd:bO o.dst n=true)(hT:elemOf? P T=some (E,sz,by_))(hz:cO P E=some zs)(hp:pH s parts.toList=some ps)
 (hc:uL (fun i=>some (i*sz,sz)) (List.replicate len zs).flatten ps=some cs) (hle:tS cs (es.flatten.map PV.t)) (hel:es.length=len) (hes: ∀e∈es,e.length=sz) (hsz:0<sz) (hzl:zs.length=sz) (hsm:len*sz≤16777216) (he:es=es'):
 a3 P C n o s (s.putO o.dst (.lit sz es')):=he ▸ a3.buildSliceL ho hd hT hz hp hc hle hel hes hsz hzl hsm
theorem a3.indexB{T E sz by_ k N i:Nat}{x y:Operand}(ho:o.op= .indexAddr T x y)(hd:bO o.dst n=true)(hx:s.ev x=some (.bsl k N))(hy:s.ev y=some (.t (.leaf (.int .i64 (i:Int)))))(hi:i<N)(hT:elemOf? P T=some (E,sz,by_)):
 a3 P C n o s (s.putO o.dst (.ptr k (i*sz))):=
 a3.quiet (c9 hd) fun m a w h=>by
  obtain⟨hb,hv⟩:=h.eval hx
  have h6:=(cL.leaf_eq (h.eval hy)).1
  refine⟨.pointer (some ⟨m.ρ k,0+i*sz,none⟩),?_,hb,by rw [Nat.zero_add]⟩
  unfold execOp
  simp only [ho,hv,h6,Sem.run_bind,run_indexAt' hT hi,Result.andThen_ok]
  rfl
theorem IT{T E sz by_:Nat}{x y:Operand}{es1 es2:List (List Tr)}{p:PV}(ho:o.op= .call { callee:= .builtin .append,args:= #[x,y],argTypes:= #[T,T] })
 (hx:s.ev x=some (.lit sz es1)) (hy:s.ev y=some p) (hp:nM p=some (sz,es2)) (h1: ∀e∈es1,e.length=sz) (h2: ∀e∈es2,e.length=sz) (hne:es2≠ []) (hsz:0<sz)
 (hT:elemOf? P T=some (E,sz,by_)) (hz:(P.info? E).bind (fun i=>i.zero.map (fun z=>z.cells.size))=some sz) (hb:0<by_) (hlen:(es1.length+es2.length)*by_≤140737488355328) {m:kA} {a:Act} {w:World} (h:RA C n s m a w):
 ∃c cur w1,(execOp a.eval o).run P w= .ok (.value (.slice (some ⟨w.heap.size,0,none⟩) (es1.length+es2.length) c)) w1∧IR w w1∧OB w1 w.heap.size E cur∧es1.length+es2.length≤c∧c≤maxLen∧
  (∀q e,(es1++es2)[q]?=some e→ ∀j d,e[j]?=some d→ ∃v,cur[q*sz+j]?=some v∧cL (lT C.av s.st m) w d v):=by
 obtain⟨i,hu,hi,hs,hby⟩:=elemOf?.spec hT
 obtain⟨hr1,ad,hv1⟩:=h.eval hx
 have hr2:=wD hp (h.eval hy)
 obtain⟨b,off,c2,news,hv2,hnl,hnews,hone,hnd⟩:=hr2.news h2 hne hsz
 have hpos2:0<es2.length:=List.length_pos_iff.2 hne
 have hlen:(es1.length+es2.length)*i.bytes≤140737488355328:=by rw [hby];exact hlen
 have h63:es1.length+es2.length≤140737488355328:=Nat.le_trans (Nat.le_mul_of_pos_right _ (by omega)) hlen
 have hrun: ∀v w1,(Builtin.append_ #[T,T] o.type #[a.eval x,a.eval y]).run P w= .ok v w1→(execOp a.eval o).run P w= .ok (.value v) w1:=fun v w1 hr=>by
  unfold execOp
  simp only [ho,resolve,invoke,builtin,Sem.run_bind,Sem.run_pure,Result.andThen_ok,List.map_toArray,List.map_cons,List.map_nil,hr]
 cases hzz:i.zero with
 |none=>simp [hi,hzz] at hz
 |some z=>
  have fin: ∀(olds:List Value) (cur:Array Value) (Z:List Value),cur.toList=olds++news++Z→olds.length=es1.length*sz→(∀i e,es1[i]?=some e→ ∀j d,e[j]?=some d→ ∃v,olds[i*sz+j]?=some v∧cL (lT C.av s.st m) w d v)→
   ∀q e,(es1++es2)[q]?=some e→ ∀j d,e[j]?=some d→ ∃v,cur[q*sz+j]?=some v∧cL (lT C.av s.st m) w d v:=fun olds cur Z hcur hol hod q e hq j d hj=>by
   rw [← Array.getElem?_toList,hcur,List.append_assoc]
   by_cases hlt:q<es1.length
   ·rw [List.getElem?_append_left hlt] at hq
    obtain⟨v,hv,hr⟩:=hod q e hq j d hj
    exact⟨v,by rw [List.getElem?_append_left (dR hv)];exact hv,hr⟩
   ·rw [List.getElem?_append_right (by omega)] at hq
    obtain⟨v,hv,hr⟩:=hnd _ e hq j d hj
    refine⟨v,?_,hr⟩
    have e1:q*sz+j=es1.length*sz+((q-es1.length)*sz+j):=by
     rw [← Nat.add_assoc,← Nat.add_mul]
     congr 2
     omega
    rw [e1,← hol,List.getElem?_append_right (by omega),Nat.add_sub_cancel_left,List.getElem?_append_left (dR hv)]
    exact hv
  have grow: ∀(A:Addr) (olds:List Value),ad=some A→olds.length=es1.length*sz→(∀j v,olds[j]?=some v→w.cell? (A.add j)=some v)→(∀i e,es1[i]?=some e→ ∀j d,e[j]?=some d→ ∃v,olds[i*sz+j]?=some v∧cL (lT C.av s.st m) w d v)→
   ∃c cur w1,(execOp a.eval o).run P w= .ok (.value (.slice (some ⟨w.heap.size,0,none⟩) (es1.length+es2.length) c)) w1∧IR w w1∧OB w1 w.heap.size E cur∧es1.length+es2.length≤c∧c≤maxLen∧
    (∀q e,(es1++es2)[q]?=some e→ ∀j d,e[j]?=some d→ ∃v,cur[q*sz+j]?=some v∧cL (lT C.av s.st m) w d v):=fun A olds hA hol hold hod=>by
   subst hA
   have happ:=run_append_grow (P:=P) w T o.type E i z hu hi hzz A es1.length es1.length olds (by rw [hs];exact hol) hold ⟨b,off,none⟩ es2.length c2 news (by rw [hnl,hs]) hnews (by omega) (by omega) (growslice_fits (by omega) hlen)
   rw [← hv2,← hv1] at happ
   have hge:=grownCap_ge w (es1.length+es2.length) es1.length E
   exact⟨_,_,_,hrun _ _ happ,.alloc (.drew (.refl _)) _,OB.new w.drew E _,hge,grownCap_le_maxLen w _ _ _ (by unfold maxLen;omega),fin olds _ _ (by simp;rfl) hol hod⟩
  by_cases he:es1= []
  ·cases ad with
   |none=>
    subst he
    have happ:=run_append_nil (P:=P) w T o.type E i z hu hi hzz ⟨b,off,none⟩ es2.length c2 news (by rw [hnl,hs]) hnews (by omega) (by omega) (by simp only [List.length_nil,Nat.zero_add] at hlen;omega)
    have hv1':a.eval x= .slice none 0 0:=hv1
    rw [← hv2,← hv1'] at happ
    have hge:=grownCap_ge w es2.length 0 E
    have hf:=fin [] (news.toArray++Builtin.zeroCells z.cells (grownCap w es2.length 0 E-es2.length)) (Builtin.zeroCells z.cells (grownCap w es2.length 0 E-es2.length)).toList (by simp) (by simp) (fun i e h=>by simp at h)
    have hcm:grownCap w es2.length 0 E≤maxLen:=grownCap_le_maxLen w _ _ _ (by unfold maxLen;omega)
    simp only [List.length_nil,Nat.zero_add,List.nil_append] at hf ⊢
    exact⟨_,_,_,hrun _ _ happ,.alloc (.drew (.refl _)) _,OB.new w.drew E _,by simpa using hge,hcm,hf⟩
   |some A=>
    subst he
    exact grow A [] rfl (by simp) (fun j v h=>by simp at h) (fun i e h=>by simp at h)
  ·obtain⟨b1,off1,c1,olds,hv1',hol,hold,-,hod⟩:=hr1.news h1 he hsz
   have hva:=hv1.symm.trans hv1'
   injection hva with e1 e2 e3
   exact grow _ olds e1 hol hold hod
theorem a3.appendLit{T E sz by_:Nat}{x y:Operand}{es1 es2 es3:List (List Tr)}{p:PV}(ho:o.op= .call { callee:= .builtin .append,args:= #[x,y],argTypes:= #[T,T] })(hd:bO o.dst n=true)
 (hx:s.ev x=some (.lit sz es1)) (hy:s.ev y=some p) (hp:nM p=some (sz,es2)) (h1: ∀e∈es1,e.length=sz) (h2: ∀e∈es2,e.length=sz) (hne:es2≠ []) (hsz:0<sz)
 (hT:elemOf? P T=some (E,sz,by_)) (hz:(P.info? E).bind (fun i=>i.zero.map (fun z=>z.cells.size))=some sz) (hb:0<by_) (hlen:(es1.length+es2.length)*by_≤140737488355328) (h3:es1++es2=es3):
 a3 P C n o s (s.putO o.dst (.t (.row sz es3))):=by
 subst h3
 refine a3.quietX hd fun m a w h=>?_
 obtain⟨c,cur,w1,hr,hX,hob,hc,hm,hget⟩:=IT ho hx hy hp h1 h2 hne hsz hT hz hb hlen h
 refine⟨_,w1,hr,hX,?_⟩
 have:=cL.row (ok:=lT C.av s.st m) (w:=w1) (es:=es1++es2) (sz:=sz) (a:=some ⟨w.heap.size,0,none⟩) (cap:=c) (fun q j=>(cur[q*sz+j]?).getD undef) (by rw [List.length_append];exact hc) hm (fun _=>⟨w.heap.size,0,rfl,hob.lt,fun q e hq j d hd=>⟨S6 h.sto (Nat.le_refl _) _,?_⟩⟩) (fun q e hq j d hd=>?_)
 ·rw [List.length_append] at this
  exact this
 ·obtain⟨v,hv,-⟩:=hget q e hq j d hd
  rw [Nat.zero_add,hob.cell,hv]
  rfl
 ·obtain⟨v,hv,hr⟩:=hget q e hq j d hd
  rw [hv]
  exact cL.ext hr hX
theorem QX{α:Type}{sz:Nat}(hsz:0<sz): ∀ {es:List (List α)} {k:Nat} {d:α},(∀e∈es,e.length=sz)→es.flatten[k]?=some d→ ∃e,es[k/sz]?=some e∧e[k%sz]?=some d
 | [],k,d,_,h=>by simp at h
 |e::es,k,d,hl,h=>by
  have he:=hl e (by simp)
  rw [List.flatten_cons] at h
  by_cases hk:k<sz
  ·rw [List.getElem?_append_left (by omega)] at h
   exact⟨e,by rw [Nat.div_eq_of_lt hk];rfl,by rw [Nat.mod_eq_of_lt hk];exact h⟩
  ·rw [List.getElem?_append_right (by omega),he] at h
   obtain⟨e2,h1,h2⟩:=QX hsz (fun e he=>hl e (by simp [he])) h
   obtain⟨j,rfl⟩: ∃j,k=j+sz:=⟨k-sz,by omega⟩
   rw [Nat.add_sub_cancel] at h1 h2
   exact⟨e2,by rw [Nat.add_div_right _ hsz];exact h1,by rw [Nat.add_mod_right];exact h2⟩
theorem a3.appendLitB{T E sz by_:Nat}{x y:Operand}{es1 es2:List (List Tr)}{cs:List PV}{p:PV}{len:Nat}(ho:o.op= .call { callee:= .builtin .append,args:= #[x,y],argTypes:= #[T,T] })(hd:bO o.dst n=true)
 (hx:s.ev x=some (.lit sz es1)) (hy:s.ev y=some p) (hp:nM p=some (sz,es2)) (h1: ∀e∈es1,e.length=sz) (h2: ∀e∈es2,e.length=sz) (hne:es2≠ []) (hsz:0<sz)
 (hT:elemOf? P T=some (E,sz,by_)) (hz:(P.info? E).bind (fun i=>i.zero.map (fun z=>z.cells.size))=some sz) (hb:0<by_) (hlen:(es1.length+es2.length)*by_≤140737488355328) (hcs:(es1++es2).flatten.map PV.t=cs) (hl:es1.length+es2.length=len):
 a3 P C n o s ((⟨s.env,s.st.addBox ⟨E,cs⟩⟩:AS).putO o.dst (.gsl s.st.boxes.length len)):=by
 subst hcs hl
 refine a3.run hd (s1:=⟨s.env,s.st.addBox ⟨E,(es1++es2).flatten.map PV.t⟩⟩) (fun m a w h=>?_) rfl
 obtain⟨c,cur,w1,hr,hX,hob,hc,hm,hget⟩:=IT ho hx hy hp h1 h2 hne hsz hT hz hb hlen h
 have hes: ∀e∈es1++es2,e.length=sz:=fun e he=>(List.mem_append.1 he).elim (h1 e) (h2 e)
 have hfl: ∀(k:Nat) d,(es1++es2).flatten[k]?=some d→ ∃v,cur[k]?=some v∧cL (lT C.av s.st m) w d v:=fun k d hk=>by
  obtain⟨e,q1,q2⟩:=QX hsz hes hk
  obtain⟨v,hv,hrv⟩:=hget _ e q1 _ d q2
  rw [Nat.div_add_mod'] at hv
  exact⟨v,hv,hrv⟩
 have hrvl:iK (lT C.av s.st m) s.st m w ((es1++es2).flatten.map PV.t) ((List.range' 0 (es1++es2).flatten.length).map fun k=>(cur[k]?).getD undef):=iK.of_fn 0 fun k d hk=>by
  obtain⟨v,hv,hrv⟩:=hfl k d hk
  rw [Nat.zero_add,hv]
  exact hrv
 have hE:Ev s.st m w (s.st.addBox ⟨E,(es1++es2).flatten.map PV.t⟩) ⟨ET m.ρ s.st.boxes.length w.heap.size,m.γ⟩ w1:=N9 hX (Nat.le_refl _)
 have hobp:OBp w1 w.heap.size E ((List.range' 0 (es1++es2).flatten.length).map fun k=>(cur[k]?).getD undef):=by
  refine⟨cur.toList.drop (es1++es2).flatten.length,?_⟩
  have e1:((List.range' 0 (es1++es2).flatten.length).map fun k=>(cur[k]?).getD undef)++cur.toList.drop (es1++es2).flatten.length=cur.toList:=by
   have hle:(es1++es2).flatten.length≤cur.toList.length:=by
    rcases Nat.eq_zero_or_pos (es1++es2).flatten.length with h0|h0
    ·omega
    ·obtain⟨v,hv,-⟩:=hfl ((es1++es2).flatten.length-1) _ (List.getElem?_eq_getElem (by omega))
     rw [← Array.getElem?_toList] at hv
     have:=dR hv
     omega
   refine List.ext_getElem? fun k=>?_
   by_cases hk:k<(es1++es2).flatten.length
   ·rw [List.getElem?_append_left (by simpa using hk),List.getElem?_map,List.getElem?_range' (by simpa using hk)]
    obtain⟨v,hv,-⟩:=hfl k _ (List.getElem?_eq_getElem hk)
    simp only [Option.map_some,Nat.zero_add,Nat.one_mul,hv,Option.getD_some]
    rw [← Array.getElem?_toList] at hv
    exact hv.symm
   ·rw [List.getElem?_append_right (by simpa using Nat.le_of_not_lt hk),List.getElem?_drop]
    congr 1
    simp
    simp at hk
    omega
  rw [e1]
  exact hob
 refine⟨_,_,w1,hr,hE,V5 h.sto hX (Nat.le_refl _) hobp (iK.mono hE _ _ hrvl),⟨⟨E,(es1++es2).flatten.map PV.t⟩,by simp [c8.addBox]⟩,c,hc,hm,by simp [cG]⟩
theorem a3.indexG{T E sz by_ k N i:Nat}{x y:Operand}(ho:o.op= .indexAddr T x y)(hd:bO o.dst n=true)(hx:s.ev x=some (.gsl k N))(hy:s.ev y=some (.t (.leaf (.int .i64 (i:Int)))))(hi:i<N)(hT:elemOf? P T=some (E,sz,by_)):
 a3 P C n o s (s.putO o.dst (.ptr k (i*sz))):=
 a3.quiet (c9 hd) fun m a w h=>by
  obtain⟨hb,c,hc,hm,hv⟩:=h.eval hx
  have h6:=(cL.leaf_eq (h.eval hy)).1
  refine⟨.pointer (some ⟨m.ρ k,0+i*sz,none⟩),?_,hb,by rw [Nat.zero_add]⟩
  unfold execOp
  simp only [ho,hv,h6,Sem.run_bind,run_indexAt' hT hi,Result.andThen_ok]
  rfl
mutual
inductive WB (k sz:Nat) (es:List (List Tr)):PV→PV→Prop
 |le {p q:PV}:PV.Le p q→WB k sz es p q
 |bsl {n:Nat}:es.length=n→WB k sz es (.bsl k n) (.t (.row sz es))
 |bslL {n:Nat}:es.length=n→WB k sz es (.bsl k n) (.lit sz es)
 |gsl {n:Nat}:es.length=n→WB k sz es (.gsl k n) (.t (.row sz es))
 |agg {ps qs:List PV}:NV k sz es ps qs→WB k sz es (.agg ps) (.agg qs)
inductive NV (k sz:Nat) (es:List (List Tr)):List PV→List PV→Prop
 |nil:NV k sz es [] []
 |cons {p q:PV} {ps qs:List PV}:WB k sz es p q→NV k sz es ps qs→NV k sz es (p::ps) (q::qs)
end
def YO(k sz:Nat)(es:List (List Tr))(st':c8):List (Option c5)→List (Option c5)→Prop
 |_,[]=>True
 |_::xs,none::ys=>YO k sz es st' xs ys
 |some x::xs,some y::ys=>(x.ty=y.ty∧NV k sz es x.cells y.cells∧l5 st' y.cells=true)∧YO k sz es st' xs ys
 |_,_=>False
theorem YO.get{k sz:Nat}{es:List (List Tr)}{st':c8}: ∀ {xs ys:List (Option c5)},YO k sz es st' xs ys→ ∀(i:Nat) (y:c5),ys[i]?=some (some y)→ ∃x:c5,xs[i]?=some (some x)∧x.ty=y.ty∧NV k sz es x.cells y.cells∧l5 st' y.cells=true
 |_,[],_,i,y,h=>by simp at h
 | [],none::ys,hl,i,y,h=>hl.elim
 |x::xs,none::ys,hl,0,y,h=>by simp at h
 |none::xs,none::ys,hl,i+1,y,h=>by simpa using YO.get (xs:=xs) hl i y (by simpa using h)
 |some _::xs,none::ys,hl,i+1,y,h=>by simpa using YO.get (xs:=xs) hl i y (by simpa using h)
 |some x::xs,some z::ys,hl,0,y,h=>by
  simp at h
  subst h
  exact⟨x,rfl,hl.1⟩
 |some x::xs,some z::ys,hl,i+1,y,h=>by simpa using YO.get (xs:=xs) hl.2 i y (by simpa using h)
 | [],some _::_,hl,_,_,_=>hl.elim
 |none::_,some _::_,hl,_,_,_=>hl.elim
def akB(k sz:Nat)(es:List (List Tr))(s:AS)(st':c8):List (Nat×PV)→Prop
 | []=>True
 |(i,q)::l=>(∃p,s.lk i=some p∧WB k sz es p q∧PV.okIn st' q=true)∧akB k sz es s st' l
theorem akB.get{k sz:Nat}{es:List (List Tr)}{s:AS}{st':c8}: ∀ {l:List (Nat×PV)} {i:Nat} {q:PV},akB k sz es s st' l→l.lookup i=some q→ ∃p,s.lk i=some p∧WB k sz es p q∧PV.okIn st' q=true
 | [],_,_,_,h=>by simp at h
 |(j,p)::l,i,q,hl,h=>by
  rw [List.lookup_cons] at h
  by_cases hik:i=j
  ·subst hik
   simp at h
   subst h
   exact hl.1
  ·rw [show(i==j)=false by simp [hik]] at h
   exact akB.get hl.2 h
mutual
theorem WB.rv{k sz:Nat}{es:List (List Tr)}{ok ok':Nat→Nat→Prop}{st st':c8}{m:kA}{w:World}(hle: ∀p v,PV.okIn st' p=true→RV ok st m w p v→RV ok' st' m w p v)(hb: ∀v c,es.length≤c→c≤maxLen→v= .slice (some ⟨m.ρ k,0,none⟩) es.length c→cL ok' w (.row sz es) v)(hm:es.length≤maxLen):
 ∀ {p q:PV} {v:Value},WB k sz es p q→PV.okIn st' q=true→RV ok st m w p v→RV ok' st' m w q v
 |_,_,_,.le h,hk,hr=>hle _ _ hk (h.rv hr)
 |_,_,_,.bsl h,_,hr=>hb _ _ (Nat.le_refl _) hm (h ▸ hr.2)
 |_,_,_,.bslL h,_,hr=>⟨hb _ _ (Nat.le_refl _) hm (h ▸ hr.2),_,h ▸ hr.2⟩
 |_,_,_,.gsl h,_,hr=>by
  obtain⟨-,c,hc,hcm,hv⟩:=hr
  subst h
  exact hb _ c hc hcm hv
 |_,_,_,.agg h,hk,hr=>by
  obtain⟨vs,hv,h1⟩:=hr
  exact⟨vs,hv,NV.rv hle hb hm h hk h1⟩
theorem NV.rv{k sz:Nat}{es:List (List Tr)}{ok ok':Nat→Nat→Prop}{st st':c8}{m:kA}{w:World}(hle: ∀p v,PV.okIn st' p=true→RV ok st m w p v→RV ok' st' m w p v)(hb: ∀v c,es.length≤c→c≤maxLen→v= .slice (some ⟨m.ρ k,0,none⟩) es.length c→cL ok' w (.row sz es) v)(hm:es.length≤maxLen):
 ∀ {ps qs:List PV} {vs:List Value},NV k sz es ps qs→l5 st' qs=true→iK ok st m w ps vs→iK ok' st' m w qs vs
 |_,_,[],.nil,_,h=>trivial
 |_,_,_::_,.nil,_,h=>h.elim
 |_,_,[],.cons _ _,_,h=>h.elim
 |_,_,_::_,.cons k1 k2,hk,h=>by
  simp only [l5,Bool.and_eq_true] at hk
  exact⟨WB.rv hle hb hm k1 hk.1 h.1,NV.rv hle hb hm k2 hk.2 h.2⟩
end
theorem Wk.freeze{k sz:Nat}{bx:c5}{es:List (List Tr)}{s':AS}(hb:s.st.boxes[k]?=some (some bx))(hc:tS bx.cells (es.flatten.map PV.t))(hes: ∀e∈es,e.length=sz)(hm:es.length≤16777216)
 (hbox:YO k sz es s'.st s.st.boxes s'.st.boxes) (hnone:s'.st.boxes[k]?=some none) (hr:s'.st.rows=s.st.rows) (hp:lF C.st s'.st) (he:akB k sz es s s'.st s'.env):Wk C n s s':=fun m a w h=>by
 have hsub:BT s.st s'.st:=⟨fun i x hi=>by obtain⟨y,hy,-⟩:=hbox.get i x hi;exact⟨y,hy⟩,fun r row hrow=>by rw [hr] at hrow;exact hrow⟩
 obtain⟨vs,hob,hvs⟩:=h.sto.box k bx hb
 have hts:=tS.rv hc hvs
 have hokk: ∀o,lT C.av s'.st m (m.ρ k) o:=fun o=>⟨h.sto.avb k bx hb o,fun i x hi=>by
  obtain⟨y,hy,-⟩:=hbox.get i x hi
  by_cases hik:i=k
  ·subst hik
   rw [hnone] at hi
   cases hi
  ·exact h.sto.binj i k y bx hy hb hik,fun r row g c hrow hg e=>absurd e.symm (h.sto.br k bx r row g c hb (hsub.rows r row hrow) hg)⟩
 have hmm:es.length≤maxLen:=by unfold maxLen;omega
 have hRep: ∀v c,es.length≤c→c≤maxLen→v= .slice (some ⟨m.ρ k,0,none⟩) es.length c→cL (lT C.av s'.st m) w (.row sz es) v:=by
  rintro _ c hc hcm rfl
  have hget: ∀q e,es[q]?=some e→ ∀j d,e[j]?=some d→ ∃v,vs[q*sz+j]?=some v∧cL (lT C.av s.st m) w d v:=fun q e hq j d hj=>by
   have hf:=tG (sz:=sz) hes hq hj
   obtain⟨v,hv,hrv⟩:=hts.get (j:=q*sz+j) (p:= .t d) (by rw [List.getElem?_map,hf];rfl)
   exact⟨v,hv,hrv⟩
  refine cL.row (fun q j=>(vs[q*sz+j]?).getD undef) hc hcm (fun _=>⟨m.ρ k,0,rfl,hob.lt,fun q e hq j d hd=>⟨hokk _,?_⟩⟩) (fun q e hq j d hd=>?_)
  ·obtain⟨v,hv,-⟩:=hget q e hq j d hd
   rw [Nat.zero_add,hob.cell hv,hv]
   rfl
  ·obtain⟨v,hv,hrr⟩:=hget q e hq j d hd
   rw [hv]
   exact cL.mono hrr (Nat.le_refl _) (fun _ _ _ k=>hsub.ok k) (fun _ _ _ _=>rfl)
 have hle: ∀p v,PV.okIn s'.st p=true→RV (lT C.av s.st m) s.st m w p v→RV (lT C.av s'.st m) s'.st m w p v:=fun p v=>hsub.rv p v
 refine⟨m,h.dfr,h.tsz,?_,fun i q hq=>?_,?_⟩
 ·exact {
   box:=fun i x hi=>by
    obtain⟨y,hy,ht,hl,hk⟩:=hbox.get i x hi
    obtain⟨us,k1,k2⟩:=h.sto.box i y hy
    exact⟨us,by rw [← ht];exact k1,NV.rv hle hRep hmm hl hk k2⟩
   binj:=fun i i' x x' hi hi'=>by
    obtain⟨y,hy,-⟩:=hbox.get i x hi
    obtain⟨y',hy',-⟩:=hbox.get i' x' hi'
    exact h.sto.binj i i' y y' hy hy'
   row:=fun r row hrow=>by
    obtain⟨k1,k2,k3⟩:=h.sto.row r row (hsub.rows r row hrow)
    refine⟨k1,k2,?_⟩
    rcases k3 with k3|⟨g,c,cur,q1,q2,q3,q4,q5,q6⟩
    ·exact .inl k3
    ·exact .inr ⟨g,c,cur,q1,q2,q3,q4,q5,cL.mono q6 (Nat.le_refl _) (fun _ _ _ k=>hsub.ok k) (fun _ _ _ _=>rfl)⟩
   rinj:=fun r r' row row' g c c' hi hi'=>h.sto.rinj r r' row row' g c c' (hsub.rows r row hi) (hsub.rows r' row' hi')
   br:=fun i x r row g c hi hrow=>by
    obtain⟨y,hy,-⟩:=hbox.get i x hi
    exact h.sto.br i y r row g c hy (hsub.rows r row hrow)
   avlt:=h.sto.avlt
   avr:=fun r row g c hrow=>h.sto.avr r row g c (hsub.rows r row hrow)
   avb:=fun i x hi=>by
    obtain⟨y,hy,-⟩:=hbox.get i x hi
    exact h.sto.avb i y hy }
 ·obtain⟨p,h1,h2,h3⟩:=he.get hq
  obtain⟨v,hv,hrv⟩:=h.env i p h1
  exact⟨v,hv,WB.rv hle hRep hmm h2 h3 hrv⟩
 ·exact {
   os:=h.ev.os
   tape:=h.ev.tape
   output:=h.ev.output
   size:=h.ev.size
   blk:=h.ev.blk
   cell:=h.ev.cell
   okk:=fun b o hb ho=>(hsub.ok (av:=fun _ _=>False) ⟨id,h.ev.okk b o hb ho⟩).2
   live:=fun i x hi=>⟨hp.1 i x hi,(h.ev.live i x hi).2⟩
   fresh:=fun i x' hi=>by
    obtain⟨y,hy,-⟩:=hbox.get i x' hi
    exact h.ev.fresh i y hy
   rowl:=fun r row hrow=>by
    obtain⟨row',hr'⟩:=hp.2 r row hrow
    obtain⟨row2,h1,h2⟩:=h.ev.rowl r row hrow
    have:=hsub.rows r row' hr'
    rw [h1] at this
    cases this
    exact⟨_,hr',h2⟩
   rfresh:=fun r row' g c hrow hg=>h.ev.rfresh r row' g c (hsub.rows r row' hrow) hg }
end
theorem Wk.freezeE{C:qM}{n:Nat}{s:AS}{k sz:Nat}{bx:c5}{es es':List (List Tr)}{s':AS}(heq:es=es')(hb:s.st.boxes[k]?=some (some bx))(hc:tS bx.cells (es.flatten.map PV.t))(hes: ∀e∈es,e.length=sz)(hm:es.length≤16777216)
 (hbox:YO k sz es' s'.st s.st.boxes s'.st.boxes) (hnone:s'.st.boxes[k]?=some none) (hr:s'.st.rows=s.st.rows) (hp:lF C.st s'.st) (he:akB k sz es' s s'.st s'.env):Wk C n s s':=by
 subst heq
 exact Wk.freeze hb hc hes hm hbox hnone hr hp he
theorem d9{p:Prop}(h:p:=by(repeat' (first|exact WB.bsl rfl|exact WB.bslL rfl|exact WB.gsl rfl|exact NV.nil|apply NV.cons|exact WB.le (PV.Le.refl _)|exact WB.le (PV.Le.acc _ _ _)|exact WB.le (PV.Le.nil _)|exact WB.le (PV.Le.lit _ _)|exact WB.le (PV.Le.nilLit _)|apply WB.agg))):p:=h
end Go.Proofs.YtpioomclpaiomaaGreat

namespace Go.Proofs.YtpioomclpaiomaaGreat
open Go.RowKit Go.WalkArith Go.IntWalk Go.WideShapes
abbrev pI(x:Int):PV:= .t (.leaf (.int .i64 x))
abbrev pN(x:Nat):PV:= .t (.leaf (.int .i64 (x:Int)))
abbrev pU(x:UInt8):PV:= .t (.leaf (.int .u8 (x.toNat:Int)))
abbrev pS(x:ByteArray):PV:= .t (.leaf (.string x))
abbrev pB(x:Bool):PV:= .t (.leaf (.bool x))
abbrev rS(l:List ByteArray):PV:= .t (.row 1 (aZ l))
abbrev rI(l:List Int):PV:= .t (.row 1 (jS l))
abbrev rU(l:List UInt8):PV:= .t (.row 1 (cM l))
abbrev aS(l:List ByteArray)(r:Nat):PV:= .acc 1 (aZ l) r
abbrev aI(l:List Int)(r:Nat):PV:= .acc 1 (jS l) r
abbrev dC(d:DS):List PV:= [.t (.row 1 (cM d.code)),.t (.leaf (.int .i64 (d.p:Int))),.t (.leaf (.int .i64 d.h))]
class TC (α:Type) [Inhabited α] where
 cs:α→List Tr
 trs:List α→List (List Tr)
 sz:Nat
 at_: ∀ {l:List α} {k:Nat},k<l.length→(trs l)[k]?=some (cs (aW l k))
 len: ∀l:List α,(trs l).length=l.length
 map: ∀l:List α,trs l=l.map cs
 csz: ∀a,(cs a).length=sz
instance:TC ByteArray:=⟨fun x=> [.leaf (.string x)],aZ,1,amK,bC,fun _=>rfl,fun _=>rfl⟩
instance:TC Int:=⟨fun x=> [.leaf (.int .i64 x)],jS,1,ak2,eM,fun _=>rfl,fun _=>rfl⟩
instance:TC UInt8:=⟨fun x=> [.leaf (.int .u8 (x.toNat:Int))],cM,1,agD,iB,fun _=>rfl,fun _=>rfl⟩
section
variable {α:Type} [Inhabited α] [TC α]
theorem TC.all(l:List α): ∀e∈TC.trs l,e.length=TC.sz α:=fun e he=>by
 rw [TC.map] at he
 obtain⟨x,_,rfl⟩:=List.mem_map.1 he
 exact TC.csz x
theorem TC.app(a b:List α):TC.trs a++TC.trs b=TC.trs (a++b):=by rw [TC.map,TC.map,TC.map,List.map_append]
end
def Hd{β:Type}(m:Option β)(K:β→Prop):Prop:= ∃v,m=some v∧K v
section
variable {α β σ:Type} {K:β→Prop} {r:β}
theorem eE{m:Option β}(h:m=some r):Hd m (fun v=>v=r):=⟨r,h,rfl⟩
theorem gdI{p:Prop}{x:Option β}(h:Hd (gd p x) K):p∧Hd x K:=by
 obtain⟨v,h1,h2⟩:=h
 by_cases hp:p
 ·rw [xC hp rfl] at h1;exact⟨hp,v,h1,h2⟩
 ·rw [gdF hp] at h1;cases h1
theorem bdI{o:Option α}{f:α→Option β}(h:Hd (bd o f) K): ∃a,o=some a∧Hd (f a) K:=by
 obtain⟨v,h1,h2⟩:=h
 cases o with
 |none=>cases h1
 |some a=>exact⟨a,rfl,v,h1,h2⟩
theorem dK{G p:Prop}{x:Option β}(h:Hd (gd p x) K)(k:p→Hd x K→G):G:=k (gdI h).1 (gdI h).2
theorem bI{G:Prop}{o:Option α}{f:α→Option β}(h:Hd (bd o f) K)(k: ∀a,o=some a→Hd (f a) K→G):G:=by
 obtain⟨a,h1,h2⟩:=bdI h
 exact k a h1 h2
theorem fZ{G:Prop}{A B:Type}{o:Option (A×B)}{f:A×B→Option β}(h:Hd (bd o f) K)(k: ∀a b,o=some (a,b)→Hd (f (a,b)) K→G):G:=bI h fun _=>k _ _
theorem FA{G:Prop}{A B C:Type}{o:Option (A×B×C)}{f:A×B×C→Option β}(h:Hd (bd o f) K)(k: ∀a b c,o=some (a,b,c)→Hd (f (a,b,c)) K→G):G:=bI h fun _=>k _ _ _
theorem asZ{G:Prop}{A B C D:Type}{o:Option (A×B×C×D)}{f:A×B×C×D→Option β}(h:Hd (bd o f) K)(k: ∀a b c d,o=some (a,b,c,d)→Hd (f (a,b,c,d)) K→G):G:=bI h fun _=>k _ _ _ _
theorem fP{G:Prop}{x:α}{f:α→Option β}(h:Hd (lt x f) K)(k: ∀y,y=x→Hd (f y) K→G):G:=k x rfl h
theorem sE{b:Bool}{x y:Option β}(h:Hd (sw b x y) K)(e:b=true):Hd x K:=by subst e;exact h
theorem sD{b:Bool}{x y:Option β}(h:Hd (sw b x y) K)(e:b=false):Hd y K:=by subst e;exact h
theorem aX{v:β}(h:Hd (some v) K):K v:=by
 obtain⟨u,h1,h2⟩:=h
 cases h1
 exact h2
def SK(f:σ→Option β)(K:β→Prop):β⊕σ→Prop
 | .inl x=>K x
 | .inr s=>Hd (f s) K
theorem fK{m:Option (β⊕σ)}{f:σ→Option β}(h:Hd (so m f) K):Hd m (SK f K):=by
 obtain⟨v,h1,h2⟩:=h
 cases m with
 |none=>cases h1
 |some a=>
  refine⟨a,rfl,?_⟩
  cases a with
  |inl x=>cases h1;exact h2
  |inr s=>exact⟨v,h1,h2⟩
def LK(f:Nat→σ→Option (LR σ β))(n i:Nat)(K:β⊕σ→Prop):LR σ β→Prop
 | .next s=>Hd (loopN f (n-(i+1)) (i+1) s) K
 | .brk s=>K (.inr s)
 | .ret x=>K (.inl x)
def LW(f:σ→Option (LR σ β))(k:Nat)(K:β⊕σ→Prop):LR σ β→Prop
 | .next s=>Hd (loopW f k s) K
 | .brk s=>K (.inr s)
 | .ret x=>K (.inl x)
theorem AA{f:σ→Option β}{x:β}(h:SK f K (.inl x)):K x:=h
theorem mT{f:Nat→σ→Option (LR σ β)}{n i:Nat}{K:β⊕σ→Prop}{x:β}(h:LK f n i K (.ret x)):K (.inl x):=h
theorem lwR{f:σ→Option (LR σ β)}{k:Nat}{K:β⊕σ→Prop}{x:β}(h:LW f k K (.ret x)):K (.inl x):=h
theorem lnT{f:Nat→σ→Option (LR σ β)}{n i:Nat}{s:σ}{K:β⊕σ→Prop}(hl:i<n)(h:Hd (loopN f (n-i) i s) K):Hd (f i s) (LK f n i K):=by
 obtain⟨v,h1,h2⟩:=h
 rw [show n-i=(n-(i+1))+1 by omega,loopN] at h1
 cases hf:f i s with
 |none=>rw [hf] at h1;cases h1
 |some x=>
  rw [hf] at h1
  refine⟨x,rfl,?_⟩
  cases x with
  |next s'=>exact⟨v,h1,h2⟩
  |brk s'=>cases h1;exact h2
  |ret x=>cases h1;exact h2
theorem lnE{f:Nat→σ→Option (LR σ β)}{n i:Nat}{s:σ}{K:β⊕σ→Prop}(hl:n≤i)(h:Hd (loopN f (n-i) i s) K):K (.inr s):=by
 obtain⟨v,h1,h2⟩:=h
 rw [show n-i=0 by omega,loopN] at h1
 cases h1
 exact h2
theorem lwT{f:σ→Option (LR σ β)}{k:Nat}{s:σ}{K:β⊕σ→Prop}(h:Hd (loopW f k s) K): ∃k',k=k'+1∧Hd (f s) (LW f k' K):=by
 obtain⟨v,h1,h2⟩:=h
 cases k with
 |zero=>cases h1
 |succ k=>
  rw [loopW] at h1
  refine⟨k,rfl,?_⟩
  cases hf:f s with
  |none=>rw [hf] at h1;cases h1
  |some x=>
   rw [hf] at h1
   refine⟨x,rfl,?_⟩
   cases x with
   |next s'=>exact⟨v,h1,h2⟩
   |brk s'=>cases h1;exact h2
   |ret x=>cases h1;exact h2
end
section
variable {P:Program} {C:qM} {n:Nat} {s s':AS}
theorem X8{st':c8}(h:lF C.st st':=by first|exact CF (by assumption)|(refine e9 (by assumption) ?_ ?_;(first|exact aqV|exact lG rfl|exact aqW rfl|exact aqX rfl);exact Nat.le_of_ble_eq_true rfl)):lF C.st st':=h
theorem afR{st st':c8}(hb:yP st' st.boxes st'.boxes:=by repeat' (first|exact trivial|refine⟨⟨rfl,iX,rfl⟩,?_⟩))(hr:st.rows.take st'.rows.length=st'.rows:=by first|rfl|simp):nU st st':=nU.mk' hb hr
theorem bW(hst:nU s.st s'.st:=by exact afR)(hp:lF C.st s'.st:=by exact X8)(he:TF s s'.st s'.env:=by repeat' (first|exact trivial|refine⟨⟨_,rfl,iX,rfl⟩,?_⟩)):Wk C n s s':=Wk.mk hst hp he
end
theorem BG{P:Program}{f:FuncId}{args:List PV}{pre:c8}{q:PV}{y d:DS}{T:TypeId}(hy:y=d)(h:c6 P f args pre (fun r t=>r=q∧t=DS.box T d)):c6 P f args pre (fun r t=>r=q∧t=DS.box T y):=by subst hy;exact h
theorem Q7{P:Program}{f:FuncId}{args:List PV}{pre:c8}{x z:ByteArray}{y d:DS}{T:TypeId}(hy:y=d)(hx:x=z)(h:c6 P f args pre (fun r t=>r=pS z∧t=DS.box T d)):c6 P f args pre (fun r t=>r=pS x∧t=DS.box T y):=by subst hy hx;exact h
def aqZ{β σ:Type}(C:qM)(n:Nat)(I:σ→AS)(K:β⊕σ→Prop)(Q:Exit→AS→Prop):Exit→AS→Prop
 | .normal,s=> ∃v,K (.inr v)∧Wk C n s (I v)
 |e,s=>Q e s
def lpQ{β σ:Type}(C:qM)(n:Nat)(id:Nat)(I:Nat→σ→AS)(O:σ→AS)(f:Nat→σ→Option (LR σ β))(m i:Nat)(K:β⊕σ→Prop)(Q:Exit→AS→Prop):Exit→AS→Prop
 | .normal,s=>i<m∧ ∃v,Hd (loopN f (m-(i+1)) (i+1) v) K∧Wk C n s (I (i+1) v)
 | .exit j,s=>if j=id then ∃v,K (.inr v)∧Wk C n s (O v) else Q (.exit j) s
 |e,s=>Q e s
def lwQ{β σ:Type}(C:qM)(n:Nat)(id:Nat)(I:σ→AS)(O:σ→AS)(f:σ→Option (LR σ β))(k:Nat)(K:β⊕σ→Prop)(Q:Exit→AS→Prop):Exit→AS→Prop
 | .normal,s=> ∃v,Hd (loopW f k v) K∧Wk C n s (I v)
 | .exit j,s=>if j=id then ∃v,K (.inr v)∧Wk C n s (O v) else Q (.exit j) s
 |e,s=>Q e s
section
variable {P:Program} {C:qM} {n:Nat} {s:AS} {Q:Exit→AS→Prop} {β σ:Type}
theorem arE{I:σ→AS}{K:β⊕σ→Prop}(hq:QC C n Q):QC C n (aqZ C n I K Q):=fun e s s' h k=>by
 cases e with
 |normal=>obtain⟨v,h1,h2⟩:=k;exact⟨v,h1,h.trans h2⟩
 |_=>exact hq _ s s' h k
theorem asB{id:Nat}{I:Nat→σ→AS}{O:σ→AS}{f:Nat→σ→Option (LR σ β)}{m i:Nat}{K:β⊕σ→Prop}(hq:QC C n Q):QC C n (lpQ C n id I O f m i K Q):=fun e s s' h k=>by
 cases e with
 |normal=>obtain⟨h0,v,h1,h2⟩:=k;exact⟨h0,v,h1,h.trans h2⟩
 |exit j=>
  simp only [lpQ] at k ⊢
  split
  ·rename_i hj;rw [if_pos hj] at k;obtain⟨v,h1,h2⟩:=k;exact⟨v,h1,h.trans h2⟩
  ·rename_i hj;rw [if_neg hj] at k;exact hq _ s s' h k
 |_=>exact hq _ s s' h k
theorem asC{id:Nat}{I:σ→AS}{O:σ→AS}{f:σ→Option (LR σ β)}{m:Nat}{K:β⊕σ→Prop}(hq:QC C n Q):QC C n (lwQ C n id I O f m K Q):=fun e s s' h k=>by
 cases e with
 |normal=>obtain⟨v,h1,h2⟩:=k;exact⟨v,h1,h.trans h2⟩
 |exit j=>
  simp only [lwQ] at k ⊢
  split
  ·rename_i hj;rw [if_pos hj] at k;obtain⟨v,h1,h2⟩:=k;exact⟨v,h1,h.trans h2⟩
  ·rename_i hj;rw [if_neg hj] at k;exact hq _ s s' h k
 |_=>exact hq _ s s' h k
theorem qcA(h:QC C n Q:=by repeat' (first|exact arF|exact ar3|apply arE|apply asB|apply asC|apply arG|apply apG)):QC C n Q:=h
theorem rR{c:Code}{m:Option (β⊕σ)}{K:β⊕σ→Prop}(I:σ→AS)(H:Hd m K)(h:Hd m K→aR P C n c (aqZ C n I K Q) s)(k: ∀v,K (.inr v)→Q .normal (I v))(hq:QC C n Q:=by exact qcA):aR P C n c Q s:=
 aR.mono (h H) fun e s' hc=>by
  cases e with
  |normal=>
   obtain⟨v,h1,h2⟩:=hc
   exact hq _ _ _ h2 (k v h1)
  |_=>exact hc
theorem dY{I:σ→AS}{K:β⊕σ→Prop}{e:Exit}(h: ∃v,K (.inr v)∧Wk C n s (I v))(he:e= .normal:=by exact rfl):aqZ C n I K Q e s:=by subst he;exact h
theorem b0{c:Code}{id:Nat}{f:Nat→σ→Option (LR σ β)}{m i0:Nat}{v0:σ}{K:β⊕σ→Prop}(I:Nat→σ→AS)(O:σ→AS)(H:Hd (loopN f (m-i0) i0 v0) K)
 (round: ∀i v,Hd (loopN f (m-i) i v) K→aR P C n c (lpQ C n id I O f m i K Q) (I i v)) (k: ∀v,K (.inr v)→Q .normal (O v)) (h0:Wk C n s (I i0 v0):=by exact bW) (hq:QC C n Q:=by exact qcA):aR P C n (.block id (.loop c)) Q s:=by
 refine aR.block ?_;refine aR.loopJ (ι:=Nat×σ) (fun x=>Hd (loopN f (m-x.1) x.1 x.2) K) (fun x=>I x.1 x.2) (fun x=>m-x.1) (i0,v0) H h0 ?_;rintro⟨i,v⟩ hj
 refine aR.mono (round i v hj) fun e s' h=>?_
 cases e with
 |normal=>
  obtain⟨h1,v',h2,h3⟩:=h
  exact⟨(i+1,v'),h2,h3,by show m-(i+1)<m-i;omega⟩
 |exit j=>
  simp only [lpQ] at h
  show r8 id Q (.exit j) s'
  simp only [r8]
  split
  ·rename_i hj;rw [if_pos hj] at h;obtain⟨v',h1,h2⟩:=h;exact hq _ _ _ h2 (k v' h1)
  ·rename_i hj;rw [if_neg hj] at h;exact h
 |_=>exact h
theorem EN{c:Code}{id:Nat}{f:σ→Option (LR σ β)}{k0:Nat}{v0:σ}{K:β⊕σ→Prop}(I:σ→AS)(O:σ→AS)(H:Hd (loopW f k0 v0) K)
 (round: ∀k v,Hd (f v) (LW f k K)→aR P C n c (lwQ C n id I O f k K Q) (I v)) (k: ∀v,K (.inr v)→Q .normal (O v)) (h0:Wk C n s (I v0):=by exact bW) (hq:QC C n Q:=by exact qcA):aR P C n (.block id (.loop c)) Q s:=by
 refine aR.block ?_;refine aR.loopJ (ι:=Nat×σ) (fun x=>Hd (loopW f x.1 x.2) K) (fun x=>I x.2) (fun x=>x.1) (k0,v0) H h0 ?_;rintro⟨i,v⟩ hj
 obtain⟨i',rfl,hj'⟩:=lwT (f:=f) (k:=i) (s:=v) hj
 refine aR.mono (round i' v hj') fun e s' h=>?_
 cases e with
 |normal=>
  obtain⟨v',h2,h3⟩:=h
  exact⟨(i',v'),h2,h3,by show i'<i'+1;omega⟩
 |exit j=>
  simp only [lwQ] at h
  show r8 id Q (.exit j) s'
  simp only [r8]
  split
  ·rename_i hj;rw [if_pos hj] at h;obtain⟨v',h1,h2⟩:=h;exact hq _ _ _ h2 (k v' h1)
  ·rename_i hj;rw [if_neg hj] at h;exact h
 |_=>exact h
theorem iI{id:Nat}{I:Nat→σ→AS}{O:σ→AS}{f:Nat→σ→Option (LR σ β)}{m i:Nat}{K:β⊕σ→Prop}{e:Exit}(hi:i<m)(h: ∃v,LK f m i K (.next v)∧Wk C n s (I (i+1) v))(he:e= .normal:=by exact rfl):lpQ C n id I O f m i K Q e s:=by subst he;exact⟨hi,h⟩
theorem jJ{id:Nat}{I:Nat→σ→AS}{O:σ→AS}{f:Nat→σ→Option (LR σ β)}{m i:Nat}{K:β⊕σ→Prop}{e:Exit}(h: ∃v,K (.inr v)∧Wk C n s (O v))(he:e= .exit id:=by exact rfl):lpQ C n id I O f m i K Q e s:=by
 subst he
 simp only [lpQ,if_pos]
 exact h
theorem lpB{id:Nat}{I:Nat→σ→AS}{O:σ→AS}{f:Nat→σ→Option (LR σ β)}{m i:Nat}{K:β⊕σ→Prop}{e:Exit}(h: ∃v,LK f m i K (.brk v)∧Wk C n s (O v))(he:e= .exit id:=by exact rfl):lpQ C n id I O f m i K Q e s:=jJ h he
theorem X9{id:Nat}{I:σ→AS}{O:σ→AS}{f:σ→Option (LR σ β)}{k:Nat}{K:β⊕σ→Prop}{e:Exit}(h: ∃v,LW f k K (.next v)∧Wk C n s (I v))(he:e= .normal:=by exact rfl):lwQ C n id I O f k K Q e s:=by subst he;exact h
theorem lwB{id:Nat}{I:σ→AS}{O:σ→AS}{f:σ→Option (LR σ β)}{k:Nat}{K:β⊕σ→Prop}{e:Exit}(h: ∃v,LW f k K (.brk v)∧Wk C n s (O v))(he:e= .exit id:=by exact rfl):lwQ C n id I O f k K Q e s:=by
 subst he
 simp only [lwQ,if_pos]
 exact h
theorem eF{β:Type}{K:β→Prop}{x y:Option β}{ops:Array Oper}{l:List Oper}(d:Nat){b:Bool}(H:Hd (sw b x y) K)(h1:b=true→Hd x K→AL P C n ops l Q s)(h0:b=false→Hd y K→AL P C n ops l Q s)(hb:s.lk d=some (.t (.leaf (.bool b))):=by exact rfl):AL P C n ops l Q s:=AL.splitB d hb (fun h=>h1 h (sE H h)) (fun h=>h0 h (sD H h))
theorem a8{K:β→Prop}{c:Operand}{b:Bool}{x y:Option β}{cx cy:Code}(H:Hd (sw b x y) K)(ht:b=true→Hd x K→aR P C n cx Q s)(hf:b=false→Hd y K→aR P C n cy Q s)(hc:s.ev c=some (.t (.leaf (.bool b))):=by exact rfl):aR P C n (.cond c cx cy) Q s:=
 aR.cond hc (fun h=>ht h (sE H h)) fun h=>hf h (sD H h)
theorem eL{c:Operand}{b:Bool}{cx cy:Code}(e:b=true)(h:aR P C n cx Q s)(hc:s.ev c=some (.t (.leaf (.bool b))):=by exact rfl):aR P C n (.cond c cx cy) Q s:=aR.cond hc (fun _=>h) fun h=>absurd (e.symm.trans h) (by decide)
theorem jR{c:Operand}{b:Bool}{cx cy:Code}(e:b=false)(h:aR P C n cy Q s)(hc:s.ev c=some (.t (.leaf (.bool b))):=by exact rfl):aR P C n (.cond c cx cy) Q s:=aR.cond hc (fun h=>absurd (e.symm.trans h) (by decide)) fun _=>h
theorem dG{K:β⊕σ→Prop}{f:Nat→σ→Option (LR σ β)}{m i:Nat}{v:σ}{c:Operand}{b:Bool}{cx cy:Code}(H:Hd (loopN f (m-i) i v) K)(ht:b=true→i<m→Hd (f i v) (LK f m i K)→aR P C n cx Q s)(hf:b=false→K (.inr v)→aR P C n cy Q s)(h1:b=true→i<m:=by first|exact qA|exact UM)(h0:b=false→m≤i:=by first|exact p9|exact UL)(hc:s.ev c=some (.t (.leaf (.bool b))):=by exact rfl):aR P C n (.cond c cx cy) Q s:=
 aR.cond hc (fun h=>ht h (h1 h) (lnT (h1 h) H)) fun h=>hf h (lnE (h0 h) H)
theorem qI{f:FuncId}{fn:Func}{c:Code}{args:List PV}{pre:c8}{R:PV→c8→Prop}(hf:P.funcs[f]?=some fn)(h: ∀C:qM,C.st=pre→aR P C fn.ntmps c (z0 P C fn.ntmps fn R) ⟨JZ 0 args,pre⟩)(hb:fn.body=some c:=by exact rfl)(hn:args.length≤fn.ntmps:=by first|decide|(simp;done)|(simp;decide)):c6 P f args pre R:=c6.intro hf hb hn h
theorem qS{x y:Code}(h:aR P C n x (V8 (aR P C n y Q) Q) s):aR P C n (.seq x y) Q s:=aR.seq h
theorem qR{id:Nat}{l:List Oper}(h:AL P C n l.toArray l Q s):aR P C n (.region id l.toArray false) Q s:=aR.region_lit h
theorem qN{ops:Array Oper}(h:Q .normal s):AL P C n ops [] Q s:=AL.nil h
theorem q1{ops:Array Oper}{o:Oper}{rest:List Oper}{s1:AS}(ho:a3 P C n o s s1)(h:AL P C n ops rest Q s1)(hg:o.guard=none:=by exact rfl):AL P C n ops (o::rest) Q s:=AL.cons hg ho h
theorem qg{ops:Array Oper}{o:Oper}{rest:List Oper}{s1:AS}{j d:Nat}{b c:Bool}(hv:b=c)(ho:a3 P C n o s s1)(h:AL P C n ops rest Q s1)(hg:o.guard=some (j,c):=by exact rfl)(hj:(ops[j]?).bind (·.dst)=some d:=by exact rfl)(hb:s.lk d=some (.t (.leaf (.bool b))):=by exact rfl):AL P C n ops (o::rest) Q s:=AL.cons_gv hg hj hb hv ho h
theorem qk{ops:Array Oper}{o:Oper}{rest:List Oper}{j d:Nat}{b c e:Bool}(hv:b=e)(h:AL P C n ops rest Q (s.putO o.dst (.tup [])))(hg:o.guard=some (j,c):=by exact rfl)(hj:(ops[j]?).bind (·.dst)=some d:=by exact rfl)(hb:s.lk d=some (.t (.leaf (.bool b))):=by exact rfl)(hne:(e==c)=false:=by exact rfl)(hd:bO o.dst n=true:=by exact rfl):AL P C n ops (o::rest) Q s:=AL.skipP hg hj hb hv hne hd h
theorem MY{ops:Array Oper}{o:Oper}{rest:List Oper}{j d:Nat}{c:Bool}(h:AL P C n ops rest Q (s.putO o.dst (.tup [])))(hg:o.guard=some (j,c):=by exact rfl)(hj:(ops[j]?).bind (·.dst)=some d:=by exact rfl)(hb:s.lk d=some (.tup []):=by exact rfl)(hd:bO o.dst n=true:=by exact rfl):AL P C n ops (o::rest) Q s:=AL.skipU hg hj hb hd h
theorem qe{fn:Func}{R:PV→c8→Prop}{e:Exit}{ps:List PV}{res q:PV}{st':c8}(hR:R q st':=by exact⟨rfl,rfl⟩)(hr:YX P s fn.results.toList ps)(he:e= .normal∨e= .ret:=by first|exact .inr rfl|exact .inl rfl)(hres:(match ps with| [p]=>p|ps=> .tup ps)=res:=by exact rfl)
 (hst:nU s.st st':=by exact afR) (hp:lF C.st st':=by exact X8) (hle:PV.Le res q:=by exact iX) (hk:PV.okIn st' q=true:=by exact rfl):z0 P C n fn R e s:=z0.mk he hr hres hst hp hle hk hR
theorem bE{fn:Func}{R:PV→c8→Prop}{e:Exit}{p q:PV}{st':c8}(hR:R q st':=by exact⟨rfl,rfl⟩)(hr:YX P s fn.results.toList [p]:=by exact⟨rfl,trivial⟩)(he:e= .normal∨e= .ret:=by first|exact .inr rfl|exact .inl rfl)
 (hst:nU s.st st':=by exact afR) (hp:lF C.st st':=by exact X8) (hle:PV.Le p q:=by exact iX) (hk:PV.okIn st' q=true:=by exact rfl):z0 P C n fn R e s:=z0.mk he hr rfl hst hp hle hk hR
theorem tT{fn:Func}{R:PV→c8→Prop}{e:Exit}{p1 p2 q:PV}{st':c8}(hR:R q st':=by exact⟨rfl,rfl⟩)(hr:YX P s fn.results.toList [p1,p2]:=by exact⟨rfl,rfl,trivial⟩)(he:e= .normal∨e= .ret:=by first|exact .inr rfl|exact .inl rfl)
 (hst:nU s.st st':=by exact afR) (hp:lF C.st st':=by exact X8) (hle:PV.Le (.tup [p1,p2]) q:=by exact iX) (hk:PV.okIn st' q=true:=by exact rfl):z0 P C n fn R e s:=z0.mk he hr rfl hst hp hle hk hR
theorem NT{fn:Func}{R:PV→c8→Prop}{e:Exit}{p1 p2 p3 q:PV}{st':c8}(hR:R q st':=by exact⟨rfl,rfl⟩)(hr:YX P s fn.results.toList [p1,p2,p3]:=by exact⟨rfl,rfl,rfl,trivial⟩)(he:e= .normal∨e= .ret:=by first|exact .inr rfl|exact .inl rfl)
 (hst:nU s.st st':=by exact afR) (hp:lF C.st st':=by exact X8) (hle:PV.Le (.tup [p1,p2,p3]) q:=by exact iX) (hk:PV.okIn st' q=true:=by exact rfl):z0 P C n fn R e s:=z0.mk he hr rfl hst hp hle hk hR
theorem lD(i:Nat){p:PV}{sz:Nat}{es:List (List Tr)}{N:Nat}{c:Code}(hl:es.length=N)(k:N≤9223372036854775807→aR P C n c Q s)(hx:s.lk i=some p:=by exact rfl)(hp:nM p=some (sz,es):=by exact rfl):aR P C n c Q s:=aR.fact (S5 i hx hp hl) k
theorem szF(i:Nat){v:ByteArray}{c:Code}(k:v.size≤9223372036854775807→aR P C n c Q s)(hx:s.lk i=some (.t (.leaf (.string v))):=by exact rfl):aR P C n c Q s:=aR.fact (fun m a w h=>by
 obtain⟨u,-,hr⟩:=h.env i _ hx
 have h1:v.size≤maxLen:=(cL.leaf_eq hr).2
 unfold maxLen at h1
 omega) k
theorem FS(i:Nat){p:PV}{sz:Nat}{es:List (List Tr)}{N:Nat}{ops:Array Oper}{l:List Oper}(hl:es.length=N)(k:N≤9223372036854775807→AL P C n ops l Q s)(hx:s.lk i=some p:=by exact rfl)(hp:nM p=some (sz,es):=by exact rfl):AL P C n ops l Q s:=AL.fact (S5 i hx hp hl) k
end
section
variable {P:Program} {C:qM} {n:Nat}
end
def pk{α:Type}[Inhabited α](l:List α)(j:Nat):α:=l.getD j (l.getLastD default)
instance:Inhabited DS:=⟨⟨[],0,0⟩⟩
instance:Inhabited PV:=⟨.nil⟩
instance:Inhabited c8:=⟨⟨[],[]⟩⟩
instance:Inhabited rP:=⟨⟨0,0,[],false⟩⟩
def evA(s:AS):List Operand→Option (List PV)
 | []=>some []
 |x::xs=>match s.ev x with
  |some p=>match evA s xs with
   |some ps=>some (p::ps)
   |none=>none
  |none=>none
theorem LU{s:AS}: ∀ {xs:List Operand} {ps:List PV},evA s xs=some ps→xs.map s.ev=ps.map some
 | [],ps,h=>by cases h;rfl
 |x::xs,ps,h=>by
  unfold evA at h
  split at h
  ·rename_i p hp
   split at h
   ·rename_i qs hq
    cases h
    rw [List.map_cons,List.map_cons,hp,LU hq]
   ·cases h
  ·cases h
section
variable {P:Program} {C:qM} {n:Nat} {s:AS} {o:Oper}
theorem aE{x:Operand}{p:PV}(ho:o.op= .move x∨o.op= .assign x:=by first|exact .inl rfl|exact .inr rfl)(hd:bO o.dst n=true:=by exact rfl)(hx:s.ev x=some p:=by exact rfl):a3 P C n o s (s.putO o.dst p):=a3.move ho hd hx
theorem bD{T:TypeId}{x:Operand}{k d z:Nat}{bx:c5}{p:PV}(hT:cC P T=some (false,z))(ho:o.op= .load T x:=by exact rfl)(hd:bO o.dst n=true:=by exact rfl)(hx:s.ev x=some (.ptr k d):=by exact rfl)(hb:s.st.boxes[k]?=some (some bx):=by exact rfl)(hc:bx.cells[d]?=some p:=by exact rfl):a3 P C n o s (s.putO o.dst p):=a3.loadPtr1 ho hd hx hb hT hc
theorem cJ{T:TypeId}{x:Operand}{k d z:Nat}{bx:c5}(cs:List PV)(hT:cC P T=some (true,z))(ho:o.op= .load T x:=by exact rfl)(hd:bO o.dst n=true:=by exact rfl)(hx:s.ev x=some (.ptr k d):=by exact rfl)(hb:s.st.boxes[k]?=some (some bx):=by exact rfl)(hc:(bx.cells.drop d).take z=cs:=by exact rfl)(hl:cs.length=z:=by exact rfl):a3 P C n o s (s.putO o.dst (.agg cs)):=a3.loadPtr ho hd hx hb hT hc hl
theorem kQ{T:TypeId}{x:Operand}{z:Nat}{d:Tr}{cs:List Tr}(hT:cC P T=some (false,z))(ho:o.op= .load T x:=by exact rfl)(hd:bO o.dst n=true:=by exact rfl)(hx:s.ev x=some (.eptr cs):=by exact rfl)(hc:cs[0]?=some d:=by exact rfl):a3 P C n o s (s.putO o.dst (.t d)):=a3.loadEptr1 ho hd hx hT hc
theorem kM{T:TypeId}{x:Operand}{z:Nat}{cs:List Tr}(ds:List Tr)(hT:cC P T=some (true,z))(ho:o.op= .load T x:=by exact rfl)(hd:bO o.dst n=true:=by exact rfl)(hx:s.ev x=some (.eptr cs):=by exact rfl)(hc:cs.take z=ds:=by exact rfl)(hl:ds.length=z:=by exact rfl):a3 P C n o s (s.putO o.dst (.agg (ds.map PV.t))):=a3.loadEptr ho hd hx hT hc hl
theorem a5{T:TypeId}{x:Operand}{f k d e:Nat}(hf:bJ P T f=some e)(ho:o.op= .fieldAddr T x f:=by exact rfl)(hd:bO o.dst n=true:=by exact rfl)(hx:s.ev x=some (.ptr k d):=by exact rfl):a3 P C n o s (s.putO o.dst (.ptr k (d+e))):=a3.fieldPtr ho hd hx hf
theorem lR{T:TypeId}{x:Operand}{f e:Nat}{cs:List Tr}(hf:bJ P T f=some e)(ho:o.op= .fieldAddr T x f:=by exact rfl)(hd:bO o.dst n=true:=by exact rfl)(hx:s.ev x=some (.eptr cs):=by exact rfl):a3 P C n o s (s.putO o.dst (.eptr (cs.drop e))):=a3.fieldEptr ho hd hx hf
theorem fO{T:TypeId}{ps:List PV}(hz:cO P T=some ps)(ho:o.op= .alloc T:=by exact rfl)(hd:bO o.dst n=true:=by exact rfl):a3 P C n o s ((⟨s.env,s.st.addBox ⟨T,ps⟩⟩:AS).putO o.dst (.ptr s.st.boxes.length 0)):=a3.alloc ho hd hz
theorem iM{T:TypeId}{x:Operand}{p:PV}(cs:List PV)(ho:o.op= .box T x:=by exact rfl)(hd:bO o.dst n=true:=by exact rfl)(hx:s.ev x=some p:=by exact rfl)(hc:yW p=cs:=by exact rfl)(ht:zL p=true:=by exact rfl):a3 P C n o s ((⟨s.env,s.st.addBox ⟨T,cs⟩⟩:AS).putO o.dst (.ptr s.st.boxes.length 0)):=a3.box ho hd hx hc ht
theorem bR{T:TypeId}{x y:Operand}{k d:Nat}{bx:c5}{p:PV}{cs ds:List PV}(hT:(P.info? T).map (·.size)=some cs.length)(ho:o.op= .store T x y:=by exact rfl)(hx:s.ev x=some (.ptr k d):=by exact rfl)(hb:s.st.boxes[k]?=some (some bx):=by exact rfl)(hy:s.ev y=some p:=by exact rfl)(hc:yW p=cs:=by exact rfl)(ht:zL p=true:=by exact rfl)(hf:QW cs=true:=by exact rfl)
 (hfit:d+cs.length≤bx.cells.length:=by exact Nat.le_of_ble_eq_true rfl) (hds:bx.cells.take d++cs++bx.cells.drop (d+cs.length)=ds:=by exact rfl):a3 P C n o s ((⟨s.env,s.st.setBox k ⟨bx.ty,ds⟩⟩:AS).delO o.dst):=a3.storePtr ho hx hb hy hc ht hf hT hfit hds
theorem dL{T:TypeId}{x:Operand}{p:PV}{sz N:Nat}{es:List (List Tr)}{E:Nat×Nat×Nat}(hT:elemOf? P T=some E)(hl:es.length=N)(ho:o.op= .call { callee:= .builtin .len,args:= #[x],argTypes:= #[T] }:=by exact rfl)(hd:bO o.dst n=true:=by exact rfl)(hx:s.ev x=some p:=by exact rfl)(hp:nM p=some (sz,es):=by exact rfl):a3 P C n o s (s.putO o.dst (.t (.leaf (.int .i64 (N:Int))))):=a3.lenN ho hd hx hp hT hl
theorem dM{T yT:TypeId}{x y:Operand}{k:IntKind}{a b:Int}(ho:o.op= .binOp .eql T x y yT:=by exact rfl)(hd:bO o.dst n=true:=by exact rfl)(hx:s.ev x=some (.t (.leaf (.int k a))):=by exact rfl)(hy:s.ev y=some (.t (.leaf (.int k b))):=by exact rfl):a3 P C n o s (s.putO o.dst (.t (.leaf (.bool (decide (a=b)))))):=a3.eqlI ho hd hx hy
theorem CI{T yT:TypeId}{x y:Operand}{k:IntKind}{a b:Int}(ho:o.op= .binOp .neq T x y yT:=by exact rfl)(hd:bO o.dst n=true:=by exact rfl)(hx:s.ev x=some (.t (.leaf (.int k a))):=by exact rfl)(hy:s.ev y=some (.t (.leaf (.int k b))):=by exact rfl):a3 P C n o s (s.putO o.dst (.t (.leaf (.bool (!decide (a=b)))))):=a3.neqI ho hd hx hy
theorem gI{T yT:TypeId}{x y:Operand}{k:IntKind}{a b:Int}(ho:o.op= .binOp .lss T x y yT:=by exact rfl)(hd:bO o.dst n=true:=by exact rfl)(hx:s.ev x=some (.t (.leaf (.int k a))):=by exact rfl)(hy:s.ev y=some (.t (.leaf (.int k b))):=by exact rfl):a3 P C n o s (s.putO o.dst (.t (.leaf (.bool (decide (a<b)))))):=a3.lss ho hd hx hy
theorem rLe{T yT:TypeId}{x y:Operand}{k:IntKind}{a b:Int}(ho:o.op= .binOp .leq T x y yT:=by exact rfl)(hd:bO o.dst n=true:=by exact rfl)(hx:s.ev x=some (.t (.leaf (.int k a))):=by exact rfl)(hy:s.ev y=some (.t (.leaf (.int k b))):=by exact rfl):a3 P C n o s (s.putO o.dst (.t (.leaf (.bool (decide (a≤b)))))):=a3.leq ho hd hx hy
theorem KL{T yT:TypeId}{x y:Operand}{k:IntKind}{a b:Int}(ho:o.op= .binOp .gtr T x y yT:=by exact rfl)(hd:bO o.dst n=true:=by exact rfl)(hx:s.ev x=some (.t (.leaf (.int k a))):=by exact rfl)(hy:s.ev y=some (.t (.leaf (.int k b))):=by exact rfl):a3 P C n o s (s.putO o.dst (.t (.leaf (.bool (decide (a>b)))))):=a3.gtr ho hd hx hy
theorem S8{T yT:TypeId}{x y:Operand}{k:IntKind}{a b:Int}(ho:o.op= .binOp .geq T x y yT:=by exact rfl)(hd:bO o.dst n=true:=by exact rfl)(hx:s.ev x=some (.t (.leaf (.int k a))):=by exact rfl)(hy:s.ev y=some (.t (.leaf (.int k b))):=by exact rfl):a3 P C n o s (s.putO o.dst (.t (.leaf (.bool (decide (a≥b)))))):=a3.geq ho hd hx hy
theorem AM{T yT:TypeId}{x y:Operand}{a b:ByteArray}(ho:o.op= .binOp .eql T x y yT:=by exact rfl)(hd:bO o.dst n=true:=by exact rfl)(hx:s.ev x=some (.t (.leaf (.string a))):=by exact rfl)(hy:s.ev y=some (.t (.leaf (.string b))):=by exact rfl):a3 P C n o s (s.putO o.dst (.t (.leaf (.bool (decide (a=b)))))):=a3.eqlS ho hd hx hy
theorem WA{T yT:TypeId}{x y:Operand}{a b:ByteArray}(ho:o.op= .binOp .neq T x y yT:=by exact rfl)(hd:bO o.dst n=true:=by exact rfl)(hx:s.ev x=some (.t (.leaf (.string a))):=by exact rfl)(hy:s.ev y=some (.t (.leaf (.string b))):=by exact rfl):a3 P C n o s (s.putO o.dst (.t (.leaf (.bool (!decide (a=b)))))):=a3.neqS ho hd hx hy
theorem hQ{T:TypeId}{x:Operand}{b:Bool}(ho:o.op= .unOp .not T x:=by exact rfl)(hd:bO o.dst n=true:=by exact rfl)(hx:s.ev x=some (.t (.leaf (.bool b))):=by exact rfl):a3 P C n o s (s.putO o.dst (.t (.leaf (.bool (!b))))):=a3.notB ho hd hx
theorem MZ{T yT:TypeId}{x y:Operand}{k:IntKind}{a b:Int}(ho:o.op= .binOp .add T x y yT:=by exact rfl)(hd:bO o.dst n=true:=by exact rfl)(hx:s.ev x=some (.t (.leaf (.int k a))):=by exact rfl)(hy:s.ev y=some (.t (.leaf (.int k b))):=by exact rfl):a3 P C n o s (s.putO o.dst (.t (.leaf (.int k (k.wrap (a+b)))))):=a3.addW ho hd hx hy
theorem EP{T yT:TypeId}{x y:Operand}{k:IntKind}{a b:Int}(ho:o.op= .binOp .sub T x y yT:=by exact rfl)(hd:bO o.dst n=true:=by exact rfl)(hx:s.ev x=some (.t (.leaf (.int k a))):=by exact rfl)(hy:s.ev y=some (.t (.leaf (.int k b))):=by exact rfl):a3 P C n o s (s.putO o.dst (.t (.leaf (.int k (k.wrap (a-b)))))):=a3.subW ho hd hx hy
theorem kP{α:Type}[Inhabited α][TC α]{l:List α}{T E sz by_:Nat}{x i:Operand}{p:PV}{k:Nat}(h:k<l.length)(hT:elemOf? P T=some (E,sz,by_))(ho:o.op= .indexAddr T x i:=by exact rfl)(hd:bO o.dst n=true:=by exact rfl)(hx:s.ev x=some p:=by exact rfl)(hp:nM p=some (sz,TC.trs l):=by exact rfl)(hi:s.ev i=some (.t (.leaf (.int .i64 (k:Int)))):=by exact rfl):a3 P C n o s (s.putO o.dst (.eptr (TC.cs (aW l k)))):=a3.index ho hd hx hp hi (TC.at_ h) hT
theorem rIy{α:Type}[Inhabited α][TC α]{l:List α}{T E sz by_:Nat}{x i:Operand}{p:PV}{y:Int}(h:0≤y∧y.toNat<l.length)(hT:elemOf? P T=some (E,sz,by_))(ho:o.op= .indexAddr T x i:=by exact rfl)(hd:bO o.dst n=true:=by exact rfl)(hx:s.ev x=some p:=by exact rfl)(hp:nM p=some (sz,TC.trs l):=by exact rfl)(hi:s.ev i=some (.t (.leaf (.int .i64 y))):=by exact rfl):a3 P C n o s (s.putO o.dst (.eptr (TC.cs (aW l y.toNat)))):=a3.indexI ho hd hx hp hi h.1 (TC.at_ h.2) hT
theorem m9{α:Type}[Inhabited α][TC α]{l:List α}{T E sz by_:Nat}{x i:Operand}{p:PV}{k:Nat}{z:α}(hz:z=aW l k)(h:k<l.length)(hT:elemOf? P T=some (E,sz,by_))(ho:o.op= .indexAddr T x i:=by exact rfl)(hd:bO o.dst n=true:=by exact rfl)(hx:s.ev x=some p:=by exact rfl)(hp:nM p=some (sz,TC.trs l):=by exact rfl)(hi:s.ev i=some (.t (.leaf (.int .i64 (k:Int)))):=by exact rfl):a3 P C n o s (s.putO o.dst (.eptr (TC.cs z))):=by
 subst hz
 exact kP h hT ho hd hx hp hi
theorem rIm{α:Type}[Inhabited α][TC α]{l:List α}{T E sz by_:Nat}{x i:Operand}{p:PV}{y:Int}{z:α}(hz:z=aW l y.toNat)(h:0≤y∧y.toNat<l.length)(hT:elemOf? P T=some (E,sz,by_))(ho:o.op= .indexAddr T x i:=by exact rfl)(hd:bO o.dst n=true:=by exact rfl)(hx:s.ev x=some p:=by exact rfl)(hp:nM p=some (sz,TC.trs l):=by exact rfl)(hi:s.ev i=some (.t (.leaf (.int .i64 y))):=by exact rfl):a3 P C n o s (s.putO o.dst (.eptr (TC.cs z))):=by
 subst hz
 exact rIy h hT ho hd hx hp hi
theorem rF1{T:TypeId}{x:Operand}{f e z:Nat}{cs:List PV}{p:PV}(hf:tF P T f=some (e,false,z))(ho:o.op= .field T x f:=by exact rfl)(hd:bO o.dst n=true:=by exact rfl)(hx:s.ev x=some (.agg cs):=by exact rfl)(hc:cs[e]?=some p:=by exact rfl):a3 P C n o s (s.putO o.dst p):=a3.field1 ho hd hx hf hc
theorem AK{x:Operand}{i:Nat}{ps:List PV}{p:PV}(ho:o.op= .extract x i:=by exact rfl)(hd:bO o.dst n=true:=by exact rfl)(hx:s.ev x=some (.tup ps):=by exact rfl)(hi:ps[i]?=some p:=by exact rfl):a3 P C n o s (s.putO o.dst p):=a3.extract ho hd hx hi
theorem gW{T:TypeId}{parts:Array (Nat×Operand)}{ps:List (Nat×List PV)}{zs cs:List PV}{places:List (Nat×Nat)}(hz:cO P T=some zs)(hpl:hP P T=some places)(ho:o.op= .build T parts:=by exact rfl)(hd:bO o.dst n=true:=by exact rfl)(hp:pH s parts.toList=some ps:=by exact rfl)(hc:uL (fun i=>places.toArray[i]?) zs ps=some cs:=by exact rfl):a3 P C n o s (s.putO o.dst (.agg cs)):=a3.build ho hd hz hpl hp hc
theorem j9{α:Type}[Inhabited α][TC α]{T E by_ len:Nat}{parts:Array (Nat×Operand)}{ps:List (Nat×List PV)}{zs cs:List PV}(l:List α)(hT:elemOf? P T=some (E,TC.sz α,by_))(hz:cO P E=some zs)(ho:o.op= .buildSlice T len parts:=by exact rfl)(hd:bO o.dst n=true:=by exact rfl)(hp:pH s parts.toList=some ps:=by exact rfl)
 (hc:uL (fun i=>some (i*TC.sz α,TC.sz α)) (List.replicate len zs).flatten ps=some cs:=by exact rfl) (hle:tS cs ((l.map TC.cs).flatten.map PV.t):=by exact iX) (hel:l.length=len:=by exact rfl) (hsz:0<TC.sz α:=by decide) (hzl:zs.length=TC.sz α:=by exact rfl) (hsm:len*TC.sz α≤16777216:=by decide):a3 P C n o s (s.putO o.dst (.t (.row (TC.sz α) (TC.trs l)))):=
 a3.buildSliceE (es:=l.map TC.cs) ho hd hT hz hp hc hle (by rw [List.length_map];exact hel) (fun e he=>TC.all l e (by rw [TC.map];exact he)) hsz hzl hsm (TC.map l).symm
theorem uN{α:Type}[Inhabited α][TC α]{T E by_ len:Nat}{parts:Array (Nat×Operand)}{ps:List (Nat×List PV)}{zs cs:List PV}(l:List α)(hT:elemOf? P T=some (E,TC.sz α,by_))(hz:cO P E=some zs)(ho:o.op= .buildSlice T len parts:=by exact rfl)(hd:bO o.dst n=true:=by exact rfl)(hp:pH s parts.toList=some ps:=by exact rfl)
 (hc:uL (fun i=>some (i*TC.sz α,TC.sz α)) (List.replicate len zs).flatten ps=some cs:=by exact rfl) (hle:tS cs ((l.map TC.cs).flatten.map PV.t):=by exact iX) (hel:l.length=len:=by exact rfl) (hsz:0<TC.sz α:=by decide) (hzl:zs.length=TC.sz α:=by exact rfl) (hsm:len*TC.sz α≤16777216:=by decide):a3 P C n o s (s.putO o.dst (.lit (TC.sz α) (TC.trs l))):=
 a3.buildSliceLE (es:=l.map TC.cs) ho hd hT hz hp hc hle (by rw [List.length_map];exact hel) (fun e he=>TC.all l e (by rw [TC.map];exact he)) hsz hzl hsm (TC.map l).symm
theorem uK{α:Type}[Inhabited α][TC α]{T E by_ len:Nat}{parts:Array (Nat×Operand)}{ps:List (Nat×List PV)}{zs cs:List PV}(l:List α)(hT:elemOf? P T=some (E,TC.sz α,by_))(hz:cO P E=some zs)(ho:o.op= .buildSlice T len parts:=by exact rfl)(hd:bO o.dst n=true:=by exact rfl)(hp:pH s parts.toList=some ps:=by exact rfl)
 (hc:uL (fun i=>some (i*TC.sz α,TC.sz α)) (List.replicate len zs).flatten ps=some cs:=by exact rfl) (hle:tS cs ((l.map TC.cs).flatten.map PV.t):=by exact iX) (hel:l.length=len:=by exact rfl) (hsz:0<TC.sz α:=by decide) (hzl:zs.length=TC.sz α:=by exact rfl) (hsm:len*TC.sz α≤16777216:=by decide):a3 P C n o s ((⟨s.env,s.st.addRow ⟨E,TC.sz α,TC.trs l,false⟩⟩:AS).putO o.dst (.acc (TC.sz α) (TC.trs l) s.st.rows.length)):=
 a3.buildSliceA (es:=l.map TC.cs) ho hd hT hz hp hc hle (by rw [List.length_map];exact hel) (fun e he=>TC.all l e (by rw [TC.map];exact he)) hsz hzl hsm (TC.map l).symm
theorem nV{α:Type}[Inhabited α][TC α]{T E by_:Nat}{x y:Operand}{a b:List α}{r:Nat}{row:rP}{p:PV}(h:a.length+b.length≤68719476736)(hT:elemOf? P T=some (E,TC.sz α,by_))(hz:(P.info? E).bind (fun i=>i.zero.map (fun z=>z.cells.size))=some (TC.sz α))(ho:o.op= .call { callee:= .builtin .append,args:= #[x,y],argTypes:= #[T,T] }:=by exact rfl)(hd:bO o.dst n=true:=by exact rfl)
 (hx:s.ev x=some (.acc (TC.sz α) (TC.trs a) r):=by exact rfl) (hrow:s.st.rows[r]?=some row:=by exact rfl) (hes:row.es=TC.trs a:=by exact rfl) (hE:row.E=E:=by exact rfl) (hw:row.whole=false:=by exact rfl) (hy:s.ev y=some p:=by exact rfl) (hp:nM p=some (TC.sz α,TC.trs b):=by exact rfl)
 (hb:0<by_:=by decide) (hb2:by_≤2048:=by decide):a3 P C n o s ((⟨s.env,s.st.setRow r { row with es:=TC.trs (a++b) }⟩:AS).putO o.dst (.acc (TC.sz α) (TC.trs (a++b)) r)):=
 a3.appendE ho hd hx hrow hes hE hw hy hp (TC.all b) hT hz hb (by rw [TC.len,TC.len];exact AN h hb2) (TC.app a b)
theorem rMf{f:FuncId}{cap:Array Operand}{ps:List PV}(ho:o.op= .makeFunc (.func f) #[] cap:=by exact rfl)(hd:bO o.dst n=true:=by exact rfl)(hc:evA s cap.toList=some ps:=by exact rfl):a3 P C n o s (s.putO o.dst (.fn f ps)):=a3.makeFunc ho hd (LU hc)
theorem q9{x:Operand}{k d:Nat}(ho:o.op= .nilCheck x:=by exact rfl)(hd:bO o.dst n=true:=by exact rfl)(hx:s.ev x=some (.ptr k d):=by exact rfl):a3 P C n o s (s.putO o.dst (.ptr k d)):=a3.nilPtr ho hd hx
theorem bV{x y z:Operand}{b:Bool}{p:PV}(hb:b=true)(ho:o.op= .pick x y z:=by exact rfl)(hd:bO o.dst n=true:=by exact rfl)(hx:s.ev x=some (.t (.leaf (.bool b))):=by exact rfl)(hy:s.ev y=some p:=by exact rfl):a3 P C n o s (s.putO o.dst p):=a3.pickT ho hd hx hb hy
theorem b9{x y z:Operand}{b:Bool}{p:PV}(hb:b=false)(ho:o.op= .pick x y z:=by exact rfl)(hd:bO o.dst n=true:=by exact rfl)(hx:s.ev x=some (.t (.leaf (.bool b))):=by exact rfl)(hy:s.ev z=some p:=by exact rfl):a3 P C n o s (s.putO o.dst p):=a3.pickF ho hd hx hb hy
theorem bG{f:FuncId}{fn:Func}{xs:List Operand}{ts:Array TypeId}{ps qs:List PV}{res:PV}(hf:P.funcs[f]?=some fn)(hc:b4 P f qs res)(ho:o.op= .call { callee:= .value (.func f),args:=⟨xs⟩,argTypes:=ts }:=by exact rfl)(hd:bO o.dst n=true:=by exact rfl)(hnm:(fn.name== "runtime.NumGoroutine")=false:=by kernel_rfl)(hb:fn.body.isNone=false:=by exact rfl)
 (hx:evA s xs=some ps:=by exact rfl) (hle:tS ps qs:=by exact iX) (h1:lB qs=true:=by exact rfl) (h2:PV.free res=true:=by exact rfl):a3 P C n o s (s.putO o.dst res):=a3.callF ho hd hf hnm hb (LU hx) hle h1 h2 hc
theorem rCv{y:Operand}{f:FuncId}{fn:Func}{xs:List Operand}{ts:Array TypeId}{ps cs qs:List PV}{res:PV}(hf:P.funcs[f]?=some fn)(hc:b4 P f qs res)(ho:o.op= .call { callee:= .value y,args:=⟨xs⟩,argTypes:=ts }:=by exact rfl)(hd:bO o.dst n=true:=by exact rfl)(hy:s.ev y=some (.fn f cs):=by exact rfl)(hnm:(fn.name== "runtime.NumGoroutine")=false:=by kernel_rfl)(hb:fn.body.isNone=false:=by exact rfl)
 (hx:evA s xs=some ps:=by exact rfl) (hle:tS (ps++cs) qs:=by exact iX) (h1:lB qs=true:=by exact rfl) (h2:PV.free res=true:=by exact rfl):a3 P C n o s (s.putO o.dst res):=a3.callV ho hd hy hf hnm hb (LU hx) hle h1 h2 hc
theorem ar8{S pre:c8}{fb fr:List Nat}(hb:qO S fb fr pre fb pre.boxes:=by repeat' (first|exact trivial|refine⟨⟨_,rfl,rfl,iX,rfl⟩,?_⟩))(hr:tV S fr pre.rows:=by repeat' (first|exact trivial|refine⟨rfl,?_⟩))(h1:fb.Nodup:=by decide)(h2:fr.Nodup:=by decide):gA S pre fb fr:=gA.of hb hr h1 h2
theorem iF{f:FuncId}{fn:Func}{xs:List Operand}{ts:Array TypeId}{ps qs:List PV}{res:PV}{pre st':c8}(fb fr:List Nat)(hf:P.funcs[f]?=some fn)(hc:c6 P f qs pre (fun r t=>r=res∧t=st'))(ho:o.op= .call { callee:= .value (.func f),args:=⟨xs⟩,argTypes:=ts }:=by exact rfl)(hd:bO o.dst n=true:=by exact rfl)(hnm:(fn.name== "runtime.NumGoroutine")=false:=by kernel_rfl)(hb:fn.body.isNone=false:=by exact rfl)
 (hx:evA s xs=some ps:=by exact rfl) (hp:gA s.st pre fb fr:=by exact ar8) (hle:tS ps (DP fb fr qs):=by exact iX) (hok:l5 pre qs=true:=by exact rfl) (hbl:st'.boxes.length=pre.boxes.length:=by exact rfl) (hrl:st'.rows.length=pre.rows.length:=by exact rfl):a3 P C n o s ((⟨s.env,s.st.over st' fb fr⟩:AS).putO o.dst (PV.ren fb fr res)):=a3.callPE fb fr ho hd hf hnm hb (LU hx) rfl hp hle hok hbl hrl hc
end
theorem dne{x a b:Int}(h:decide (x=a)=true)(hab:a≠b):decide (x=b)=false:=by
 rw [of_decide_eq_true h]
 exact decide_eq_false hab
theorem ajO{x b:Int}(h:(decide (x=2)||decide (x=3))=true)(h2:2≠b)(h3:3≠b):decide (x=b)=false:=by
 rw [Bool.or_eq_true,decide_eq_true_eq,decide_eq_true_eq] at h
 refine decide_eq_false fun e=>?_
 omega
theorem ap4{x:Int}(h:(decide (x=2)||decide (x=3))=true)(h2:decide (x=2)=false):decide (x=3)=true:=by
 rw [h2,Bool.false_or] at h
 exact h
theorem ar5{x:Int}(h:(decide (x=2)||decide (x=3))=false):decide (x=2)=false:=(Bool.or_eq_false_iff.1 h).1
theorem ar6{x:Int}(h:(decide (x=2)||decide (x=3))=false):decide (x=3)=false:=(Bool.or_eq_false_iff.1 h).2
theorem a3.appendLitBE{P:Program}{C:qM}{n:Nat}{s:AS}{o:Oper}{T E sz by_:Nat}{x y:Operand}{es1 es2 es3:List (List Tr)}{cs:List PV}{p:PV}{len:Nat}(ho:o.op= .call { callee:= .builtin .append,args:= #[x,y],argTypes:= #[T,T] })(hd:bO o.dst n=true)
 (hx:s.ev x=some (.lit sz es1)) (hy:s.ev y=some p) (hp:nM p=some (sz,es2)) (h1: ∀e∈es1,e.length=sz) (h2: ∀e∈es2,e.length=sz) (hne:es2≠ []) (hsz:0<sz)
 (hT:elemOf? P T=some (E,sz,by_)) (hz:(P.info? E).bind (fun i=>i.zero.map (fun z=>z.cells.size))=some sz) (hb:0<by_) (hlen:(es1.length+es2.length)*by_≤140737488355328) (h3:es1++es2=es3) (hcs:es3.flatten.map PV.t=cs) (hl:es1.length+es2.length=len):
 a3 P C n o s ((⟨s.env,s.st.addBox ⟨E,cs⟩⟩:AS).putO o.dst (.gsl s.st.boxes.length len)):=a3.appendLitB ho hd hx hy hp h1 h2 hne hsz hT hz hb hlen (by rw [h3];exact hcs) hl
section
variable {P:Program} {C:qM} {n:Nat} {s:AS} {Q:Exit→AS→Prop}
abbrev LB:=List ByteArray
theorem qW{id:Nat}{l:List Oper}{y:Code}(h:AL P C n l.toArray l (V8 (aR P C n y Q) Q) s):aR P C n (.seq (.region id l.toArray false) y) Q s:=qS (qR h)
theorem qZ{ops:Array Oper}(h:Q .ret s):AL P C n ops [] (V8 (aR P C n .ret Q) Q) s:=qN (aR.ret h)
theorem rA{o:Oper}{T yT:TypeId}{x y:Operand}{a b:Int}(c:Nat)(ho:o.op= .binOp .add T x y yT:=by exact rfl)(hd:bO o.dst n=true:=by exact rfl)(hx:s.ev x=some (.t (.leaf (.int .i64 a))):=by exact rfl)(hy:s.ev y=some (.t (.leaf (.int .i64 b))):=by exact rfl)(hc:a+b=((c:Nat):Int):=by omega)(hb: -9223372036854775808≤((c:Nat):Int)∧((c:Nat):Int)≤9223372036854775807:=by omega):a3 P C n o s (s.putO o.dst (.t (.leaf (.int .i64 ((c:Nat):Int))))):=a3.addI ho hd hx hy hc hb
end
end Go.Proofs.YtpioomclpaiomaaGreat

namespace Go.Proofs.YtpioomclpaiomaaGreat
open Go.RowKit Go.WalkArith Go.IntWalk Go.WideShapes
section
variable {P:Program} {C:qM} {n:Nat} {o:Oper}
theorem amN{a:Act}{K1 K:Act→World→Prop}{Q:Exit→Act→World→Prop}(hv: ∀v w',K1 (a.put o.dst v) w'→K (a.put o.dst v) w')
 (hd: ∀d w',K1 (({ a with defers:=d::a.defers }:Act).put o.dst undef) w'→K (({ a with defers:=d::a.defers }:Act).put o.dst undef) w'): ∀r,o.upon P a K1 Q r→o.upon P a K Q r:=by
 intro r h
 cases r with
 |ok x w'=>
  cases x with
  |value v=>exact hv v w' h
  |skip=>exact hv undef w' h
  |defer d=>exact hd d w' h
  |enter f args=>
   refine Calls.mono h fun e w'' he=>?_
   cases e with
   |returned v=>exact hv v w'' he
   |panicked c=>exact he
   |outgrown=>exact he
  |row r args=>exact Rows.mono h fun v w'' he=>hv v w'' he
  |_=>exact h
 |halt x w'=>
  cases x with
  |panic v=>exact h
  |_=>exact h
theorem ZQ(s:AS)(d:Nat)(p:PV)(i:Nat):(s.putO (some d) p).lk i=if i=d then some p else s.lk i:=AS.lk_put s d i p
theorem a3.frame{E:List (Nat×PV)}{st st1:c8}{p:PV}{s':AS}(h: ∀C',a3 P C' n o ⟨E,st⟩ ((⟨E,st1⟩:AS).putO o.dst p))(hst:s'.st=st)(hl: ∀t q,E.lookup t=some q→s'.lk t=some q):
 a3 P C n o s' ((⟨s'.env,st1⟩:AS).putO o.dst p):=fun m a w hr K Q hK=>by
 subst hst
 have hr':RA ⟨C.av,s'.st,m,w⟩ n ⟨E,s'.st⟩ m a w:=⟨hr.dfr,hr.tsz,hr.sto,fun i q hq=>hr.env i q (hl i q hq),Ev.refl _ _ _⟩
 have h1:=h ⟨C.av,s'.st,m,w⟩ m a w hr' (fun a' w'=> ∃m',RA ⟨C.av,s'.st,m,w⟩ n ((⟨E,st1⟩:AS).putO o.dst p) m' a' w') Q (fun m' a' w' h=>⟨m',h⟩)
 unfold Oper.wp at h1 ⊢
 refine amN (fun v w'=>?_) (fun d w'=>?_) _ h1
 ·rintro⟨m',h2⟩
  refine hK m' _ w' ?_
  have key: ∀(dst:Option Nat),dst=o.dst→RA C n ((⟨s'.env,st1⟩:AS).putO dst p) m' (a.put dst v) w':=fun dst hdst=>by
   rw [← hdst] at h2
   cases dst with
   |none=>
    have hE:Ev s'.st m w st1 m' w':=h2.ev
    exact⟨h2.dfr,h2.tsz,h2.sto,fun i q hq=>by
     obtain⟨v',hv',hrv⟩:=hr.env i q hq
     exact⟨v',hv',RV.mono hE q v' hrv⟩,hr.ev.trans hE⟩
   |some d=>
    have hE:Ev s'.st m w st1 m' w':=h2.ev
    refine⟨h2.dfr,h2.tsz,h2.sto,fun i q hq=>?_,hr.ev.trans hE⟩
    rw [ZQ] at hq
    by_cases hi:i=d
    ·rw [if_pos hi] at hq
     cases hq
     exact h2.env i _ (by rw [ZQ,if_pos hi])
    ·rw [if_neg hi] at hq
     obtain⟨v',hv',hrv⟩:=hr.env i q hq
     exact⟨v',by simp only [Act.put];rw [Array.getElem?_setIfInBounds_ne (fun e=>hi e.symm)];exact hv',RV.mono hE q v' hrv⟩
  exact key o.dst rfl
 ·rintro⟨m',h2⟩
  have h3:=h2.dfr
  have h4:(({ a with defers:=d::a.defers }:Act).put o.dst undef).defers=d::a.defers:=by
   cases o.dst<;>rfl
  rw [h4] at h3
  cases h3
theorem a3.frame0{E:List (Nat×PV)}{st st1:c8}{s':AS}(hn:o.dst=none)(h: ∀C',a3 P C' n o ⟨E,st⟩ ⟨E,st1⟩)(hst:s'.st=st)(hl: ∀t q,E.lookup t=some q→s'.lk t=some q):
 a3 P C n o s' ⟨s'.env,st1⟩:=by
 have:=a3.frame (C:=C) (P:=P) (n:=n) (o:=o) (p:= .nil) (E:=E) (st:=st) (st1:=st1) (s':=s') (by rw [hn];exact h) hst hl
 rw [hn] at this
 exact this
structure DD where
 outs:List (Option PV)
 ks:List (Option DK)
 ins:List (List Nat)
 effs:List Nat
 fs:List (Option c5→c8)
 rds:List ((Nat×Nat)×Nat×Option (Option c5))
 az:Option (Nat×c5)
def DD.cz(g:DD):Option c5:=g.az.map (·.2)
def ab:Option c5→c8→c8
 |none,st=>st
 |some z,st=>st.addBox z
def J0:c8:=⟨[],[⟨0,0,[],false⟩]⟩
def tw(st:c8):Option c5→c8
 |none=>J0
 |some _=>st
theorem ao0{C:qM}{n:Nat}{env:List (Nat×PV)}{m:kA}{a:Act}{w:World}(h:RA C n ⟨env,J0⟩ m a w):False:=by
 have:=(h.sto.row 0 ⟨0,0,[],false⟩ rfl).1
 exact absurd this (by decide)
theorem a3.bad{P:Program}{C:qM}{n:Nat}{o:Oper}{s s1:AS}(hs:s.st=J0):a3 P C n o s s1:=fun m a w hr K Q hK=>by
 obtain⟨env,st⟩:=s
 cases hs
 exact(ao0 hr).elim
theorem a3.away{P:Program}{C:qM}{n:Nat}{o:Oper}{s s1:AS}{t k off:Nat}(hl:s.lk t=some (.ptr k off))(hk:s.st.boxes[k]?=none):a3 P C n o s s1:=fun m a w hr K Q hK=>by
 obtain⟨v,-,⟨x,hx⟩,-⟩:=hr.env t _ hl
 rw [hk] at hx
 cases hx
def rs(s:AS):List Nat→List (Nat×PV)
 | []=> []
 |t::ts=>match s.lk t with
  |some p=>(t,p)::rs s ts
  |none=>rs s ts
theorem aj1{s:AS}{t:Nat}{q:PV}: ∀ {I:List Nat},(rs s I).lookup t=some q→t∈I∧s.lk t=some q
 | [],h=>by cases h
 |x::I,h=>by
  unfold rs at h
  cases hx:s.lk x with
  |none=>
   rw [hx] at h
   obtain⟨h1,h2⟩:=aj1 (I:=I) h
   exact⟨.tail _ h1,h2⟩
  |some p=>
   rw [hx] at h
   dsimp only at h
   rw [List.lookup_cons] at h
   by_cases htx:t=x
   ·subst htx
    simp only [BEq.rfl] at h
    cases h
    exact⟨.head _,hx⟩
   ·rw [show(t==x)=false by simp [htx]] at h
    obtain⟨h1,h2⟩:=aj1 (I:=I) h
    exact⟨.tail _ h1,h2⟩
def YN(l:List Oper)(e0:List (Nat×PV))(outs:List (Option PV))(i t:Nat)(p:PV):Prop:=
 (∃(j:Nat) (o:Oper),j<i∧l[j]?=some o∧o.dst=some t∧outs[j]?=some (some p))∨(e0.lookup t=some p∧ ∀(j:Nat) (o:Oper),j<i→l[j]?=some o→o.dst≠some t)
inductive WD (l:List Oper) (e0:List (Nat×PV)) (outs:List (Option PV)) (i:Nat) (o:Oper):Bool→Prop
 |n:o.guard=none→WD l e0 outs i o true
 |y {j d:Nat} {b c:Bool}:o.guard=some (j,c)→(l[j]?).bind (·.dst)=some d→YN l e0 outs i d (.t (.leaf (.bool b)))→WD l e0 outs i o (b==c)
 |u {j d:Nat} {c:Bool}:o.guard=some (j,c)→(l[j]?).bind (·.dst)=some d→YN l e0 outs i d (.tup [])→WD l e0 outs i o false
inductive WS (l:List Oper) (s:AS) (o:Oper):Bool→Prop
 |n:o.guard=none→WS l s o true
 |y {j d:Nat} {b c:Bool}:o.guard=some (j,c)→(l[j]?).bind (·.dst)=some d→s.lk d=some (.t (.leaf (.bool b)))→WS l s o (b==c)
 |u {j d:Nat} {c:Bool}:o.guard=some (j,c)→(l[j]?).bind (·.dst)=some d→s.lk d=some (.tup [])→WS l s o false
inductive QR (P:Program) (n N:Nat) (md:Bool) (g:DD) (i:Nat) (o:Oper) (E:List (Nat×PV)):Prop
 |q {p:PV}:g.ks[i]?=some none→g.outs[i]?=some (some p)→(∀C' st,a3 P C' n o ⟨E,st⟩ ((⟨E,st⟩:AS).putO o.dst p))→QR P n N md g i o E
 |r {lo hi k:Nat} {X:Option (Option c5)} {p:PV}:g.ks[i]?=some (some (.q lo hi))→g.outs[i]?=some (some p)→((lo,hi),k,X)∈g.rds→(md=true→k<N)→(∀C' (st:c8),st.boxes[k]?=X→a3 P C' n o ⟨E,st⟩ ((⟨E,st⟩:AS).putO o.dst p))→QR P n N md g i o E
 |c {j:Nat} {f:Option c5→c8} {p:PV}:g.ks[i]?=some (some (.q j j))→g.outs[i]?=some (some p)→g.fs[j]?=some f→(∀C' z,a3 P C' n o ⟨E,f z⟩ ((⟨E,f z⟩:AS).putO o.dst p))→QR P n N md g i o E
 |e {j:Nat} {f f1:Option c5→c8} {p:PV}:g.ks[i]?=some (some (.ef j))→g.outs[i]?=some (some p)→g.fs[j]?=some f→g.fs[j+1]?=some f1→(∀C' z,a3 P C' n o ⟨E,f z⟩ ((⟨E,f1 z⟩:AS).putO o.dst p))→QR P n N md g i o E
 |e0 {j:Nat} {f f1:Option c5→c8}:g.ks[i]?=some (some (.ef j))→o.dst=none→g.fs[j]?=some f→g.fs[j+1]?=some f1→(∀C' z,a3 P C' n o ⟨E,f z⟩ ⟨E,f1 z⟩)→QR P n N md g i o E
 |ea {j a t off:Nat} {zb:c5} {f f1:Option c5→c8}:g.az=some (a,zb)→g.ks[i]?=some (some (.ef j))→o.dst=none→g.fs[j]?=some f→g.fs[j+1]?=some f1→E.lookup t=some (.ptr N off)→(f none=J0∨(f none).boxes.length=N)→(∀C',a3 P C' n o ⟨E,f (some zb)⟩ ⟨E,f1 (some zb)⟩)→QR P n N md g i o E
 |al {zb:c5}:md=true→g.az=some (i,zb)→g.ks[i]?=some (some .al)→g.outs[i]?=some (some (.ptr N 0))→(∀C' st,st.boxes.length=N→a3 P C' n o ⟨[],st⟩ ((⟨[],st.addBox zb⟩:AS).putO o.dst (.ptr N 0)))→QR P n N md g i o E
inductive TE (P:Program) (n N:Nat) (md:Bool) (l:List Oper) (e0:List (Nat×PV)) (g:DD) (i:Nat) (o:Oper):Prop
 |does {E:List (Nat×PV)} {I:List Nat}:WD l e0 g.outs i o true→g.ins[i]?=some I→(∀t q,E.lookup t=some q→t∈I∧YN l e0 g.outs i t q)→QR P n N md g i o E→TE P n N md l e0 g i o
 |skip:WD l e0 g.outs i o false→g.ks[i]?=some none→g.outs[i]?=some (some (.tup []))→bO o.dst n=true→TE P n N md l e0 g i o
structure DD.le (g g':DD):Prop where
 outs: ∀(i:Nat) (x:Option PV),g.outs[i]?=some x→g'.outs[i]?=some x
 ks: ∀(i:Nat) (x:Option DK),g.ks[i]?=some x→g'.ks[i]?=some x
 ins: ∀(i:Nat) (x:List Nat),g.ins[i]?=some x→g'.ins[i]?=some x
 fs: ∀(i:Nat) (x:Option c5→c8),g.fs[i]?=some x→g'.fs[i]?=some x
 rds: ∀x∈g.rds,x∈g'.rds
 az: ∀x,g.az=some x→g'.az=some x
theorem QN{g g':DD}(h:g.le g'){l:List Oper}{e0:List (Nat×PV)}{i t:Nat}{p:PV}(k:YN l e0 g.outs i t p):YN l e0 g'.outs i t p:=by
 rcases k with⟨j,o,h1,h2,h3,h4⟩|k
 ·exact .inl ⟨j,o,h1,h2,h3,h.outs _ _ h4⟩
 ·exact .inr k
theorem aj9{g g':DD}(h:g.le g'){l:List Oper}{e0:List (Nat×PV)}{i:Nat}{o:Oper}{b:Bool}(k:WD l e0 g.outs i o b):WD l e0 g'.outs i o b:=by
 cases k with
 |n a=>exact .n a
 |y a b c=>exact .y a b (QN h c)
 |u a b c=>exact .u a b (QN h c)
theorem TE.mono{N:Nat}{md:Bool}{l:List Oper}{e0:List (Nat×PV)}{g g':DD}{i:Nat}{o:Oper}(h:g.le g')(k:TE P n N md l e0 g i o):TE P n N md l e0 g' i o:=by
 cases k with
 |does h1 h2 h3 h4=>
  refine .does (aj9 h h1) (h.ins _ _ h2) (fun t q ht=>⟨(h3 t q ht).1,QN h (h3 t q ht).2⟩) ?_
  cases h4 with
  |q a b c=>exact .q (h.ks _ _ a) (h.outs _ _ b) c
  |r a b c d e=>exact .r (h.ks _ _ a) (h.outs _ _ b) (h.rds _ c) d e
  |c a b c d=>exact .c (h.ks _ _ a) (h.outs _ _ b) (h.fs _ _ c) d
  |e a b c d e=>exact .e (h.ks _ _ a) (h.outs _ _ b) (h.fs _ _ c) (h.fs _ _ d) e
  |e0 a b c d e=>exact .e0 (h.ks _ _ a) b (h.fs _ _ c) (h.fs _ _ d) e
  |ea z a b c d e f q=>exact .ea (h.az _ z) (h.ks _ _ a) b (h.fs _ _ c) (h.fs _ _ d) e f q
  |al md z a b c=>exact .al md (h.az _ z) (h.ks _ _ a) (h.outs _ _ b) c
 |skip h1 h2 h3 h4=>exact .skip (aj9 h h1) (h.ks _ _ h2) (h.outs _ _ h3) h4
structure akA (P:Program) (n:Nat) (md:Bool) (l:List Oper) (s0:AS) (g:DD) (s:AS):Prop where
 hs0: ∃f,g.fs[0]?=some f∧f none=s0.st
 hfl:g.fs.length=g.effs.length+1
 hlast: ∃f,g.fs[g.effs.length]?=some f∧f g.cz=s.st∧(md=false→f=fun _=>s.st)∧(md=true→g.az=none→f=fun z=>ab z s.st)
 hk:g.ks.length=g.outs.length
 hi:g.ins.length=g.outs.length
 hz:md=true→ ∀f∈g.fs,f none=J0∨((f none).boxes.length=s0.st.boxes.length∧ ∀z,f (some z)=(f none).addBox z)
 hm:md=false→g.az=none
 hlk: ∀t p,s.lk t=some p→YN l s0.env g.outs g.outs.length t p
 hf: ∀(i:Nat) (o:Oper),l[i]?=some o→i<g.outs.length→TE P n s0.st.boxes.length md l s0.env g i o
def DW(P:Program)(C:qM)(n id:Nat)(md:Bool)(l:List Oper)(Q:Exit→AS→Prop)(s0:AS)(g:DD)(s:AS)(rest:List Oper):Prop:=
 akA P n md l s0 g s→l.drop g.outs.length=rest→aR P C n (.region id l.toArray true) Q s0
variable {id:Nat} {l:List Oper} {Q:Exit→AS→Prop} {s0 s:AS} {g:DD} {rest:List Oper} {md:Bool}
theorem dW(h:DW P C n id false l Q s ⟨[],[],[],[],[fun _=>s.st],[],none⟩ s l):aR P C n (.region id l.toArray true) Q s:=
 h ⟨⟨_,rfl,rfl⟩,rfl,⟨_,rfl,rfl,fun _=>rfl,fun h=>(by cases h)⟩,rfl,rfl,fun h=>(by cases h),fun _=>rfl,fun t p ht=> .inr ⟨ht,fun j o hj=>(by cases hj)⟩,fun i o _ hi=>(by cases hi)⟩ rfl
theorem dWa(h:DW P C n id true l Q s ⟨[],[],[],[],[fun z=>ab z s.st],[],none⟩ s l):aR P C n (.region id l.toArray true) Q s:=
 h ⟨⟨_,rfl,rfl⟩,rfl,⟨_,rfl,rfl,fun h=>(by cases h),fun _ _=>rfl⟩,rfl,rfl,fun _ f hf=>(by obtain rfl:=List.mem_singleton.1 hf;exact .inr ⟨rfl,fun z=>rfl⟩),fun h=>(by cases h),fun t p ht=> .inr ⟨ht,fun j o hj=>by cases hj⟩,fun i o _ hi=>by cases hi⟩ rfl
theorem dO{α:Type}{l:List α}{y:α}(i:Nat)(x:α)(h:l[i]?=some x):(l++ [y])[i]?=some x:=by
 obtain⟨hi,-⟩:=List.getElem?_eq_some_iff.1 h
 rw [List.getElem?_append_left hi]
 exact h
theorem cB{α:Type}{l:List α}{y:α}{k:Nat}(h:l.length=k):(l++ [y])[k]?=some y:=by subst h;simp
theorem vH{o:Oper}(h:l.drop g.outs.length=o::rest):l[g.outs.length]?=some o∧l.drop (g.outs.length+1)=rest:=by
 constructor
 ·have:=congrArg (fun x=>x[0]?) h
  simpa using this
 ·rw [← List.drop_drop,h]
  rfl
theorem akA.next{g':DD}{s':AS}(hv:akA P n md l s0 g s)(ho:l[g.outs.length]?=some o)(hle:g.le g')(h0:g'.outs.length=g.outs.length+1)(hk:g'.ks.length=g.ks.length+1)(hi:g'.ins.length=g.ins.length+1)(hfl:g'.fs.length=g'.effs.length+1)
 (hlast: ∃f,g'.fs[g'.effs.length]?=some f∧f g'.cz=s'.st∧(md=false→f=fun _=>s'.st)∧(md=true→g'.az=none→f=fun z=>ab z s'.st)) (hz:md=true→ ∀f∈g'.fs,f none=J0∨((f none).boxes.length=s0.st.boxes.length∧ ∀z,f (some z)=(f none).addBox z)) (hm:md=false→g'.az=none)
 (hlk: ∀t p,s'.lk t=some p→(o.dst=some t∧g'.outs[g.outs.length]?=some (some p))∨(o.dst≠some t∧s.lk t=some p)) (hf:TE P n s0.st.boxes.length md l s0.env g' g.outs.length o):akA P n md l s0 g' s' where
 hs0:=by obtain⟨f,h1,h2⟩:=hv.hs0;exact⟨f,hle.fs _ _ h1,h2⟩
 hfl:=hfl
 hlast:=hlast
 hk:=by rw [hk,h0,hv.hk]
 hi:=by rw [hi,h0,hv.hi]
 hz:=hz
 hm:=hm
 hlk:=fun t p ht=>by
  rcases hlk t p ht with⟨h1,h2⟩|⟨h1,h2⟩
  ·exact .inl ⟨_,o,by omega,ho,h1,h2⟩
  ·rcases hv.hlk t p h2 with⟨j,oj,a,b,c,d⟩|⟨a,b⟩
   ·exact .inl ⟨j,oj,by omega,b,c,hle.outs _ _ d⟩
   ·refine .inr ⟨a,fun j oj hj hoj=>?_⟩
    rcases Nat.lt_or_ge j g.outs.length with hlt|hge
    ·exact b j oj hlt hoj
    ·obtain rfl:j=g.outs.length:=by omega
     rw [ho] at hoj
     cases hoj
     exact h1
 hf:=fun i oi hoi hi'=>by
  rcases Nat.lt_or_ge i g.outs.length with hlt|hge
  ·exact(hv.hf i oi hoi hlt).mono hle
  ·obtain rfl:i=g.outs.length:=by omega
   rw [ho] at hoi
   cases hoi
   exact hf
theorem AJ{st1:c8}{p:PV}(t:Nat)(q:PV)(outs:List (Option PV))(k:Nat)(hk:outs[k]?=some (some p))(h:((⟨s.env,st1⟩:AS).putO o.dst p).lk t=some q):(o.dst=some t∧outs[k]?=some (some q))∨(o.dst≠some t∧s.lk t=some q):=by
 cases hd:o.dst with
 |none=>rw [hd] at h;exact .inr ⟨by simp,h⟩
 |some d=>
  rw [hd,ZQ] at h
  by_cases htd:t=d
  ·rw [if_pos htd] at h
   cases h
   exact .inl ⟨by rw [htd],hk⟩
  ·rw [if_neg htd] at h
   exact .inr ⟨fun e=>htd (Option.some.inj e).symm,h⟩
theorem AY(s:AS)(d:Option Nat)(p:PV):(s.putO d p).st=s.st:=by cases d<;>rfl
theorem WS.wd{g':DD}{b:Bool}(h:WS l s o b)(hv:akA P n md l s0 g s)(hle:g.le g'):WD l s0.env g'.outs g.outs.length o b:=by
 cases h with
 |n a=>exact .n a
 |y a b c=>exact .y a b (QN hle (hv.hlk _ _ c))
 |u a b c=>exact .u a b (QN hle (hv.hlk _ _ c))
theorem FY{g':DD}(hv:akA P n md l s0 g s)(hle:g.le g')(I:List Nat): ∀t q,(rs s I).lookup t=some q→t∈I∧YN l s0.env g'.outs g.outs.length t q:=fun t q h=>⟨(aj1 h).1,QN hle (hv.hlk t q (aj1 h).2)⟩
theorem dI(I:List Nat){p:PV}(h: ∀ {C':qM} {st:c8},a3 P C' n o ⟨rs s I,st⟩ ((⟨rs s I,st⟩:AS).putO o.dst p))(k:DW P C n id md l Q s0 ⟨g.outs++ [some p],g.ks++ [none],g.ins++ [I],g.effs,g.fs,g.rds,g.az⟩ (s.putO o.dst p) rest)(hg:WS l s o true:=by exact .n rfl):
 DW P C n id md l Q s0 g s (o::rest):=fun hv hr=>by
 obtain⟨ho,hd⟩:=vH hr
 have hle:g.le ⟨g.outs++ [some p],g.ks++ [none],g.ins++ [I],g.effs,g.fs,g.rds,g.az⟩:=⟨dO,dO,dO,fun _ _ h=>h,fun _ h=>h,fun _ h=>h⟩
 refine k (hv.next ho hle (by simp) (by simp) (by simp) hv.hfl (by rw [AY];exact hv.hlast) hv.hz hv.hm (fun t q hq=>AJ t q _ _ (cB rfl) hq) ?_) (by simpa using hd)
 exact .does (hg.wd hv hle) (cB hv.hi) (FY hv hle I) (.q (cB hv.hk) (cB rfl) fun _ _=>h)
theorem dD(I:List Nat){p:PV}(h: ∀ {C':qM},a3 P C' n o ⟨rs s I,s.st⟩ ((⟨rs s I,s.st⟩:AS).putO o.dst p))(k:DW P C n id false l Q s0 ⟨g.outs++ [some p],g.ks++ [some (.q g.effs.length g.effs.length)],g.ins++ [I],g.effs,g.fs,g.rds,g.az⟩ (s.putO o.dst p) rest)(hg:WS l s o true:=by exact .n rfl):
 DW P C n id false l Q s0 g s (o::rest):=fun hv hr=>by
 obtain⟨ho,hd⟩:=vH hr
 obtain⟨f,q1,-,q2,-⟩:=hv.hlast
 have q2:=q2 rfl
 subst q2
 have hle:g.le ⟨g.outs++ [some p],g.ks++ [some (.q g.effs.length g.effs.length)],g.ins++ [I],g.effs,g.fs,g.rds,g.az⟩:=⟨dO,dO,dO,fun _ _ h=>h,fun _ h=>h,fun _ h=>h⟩
 refine k (hv.next ho hle (by simp) (by simp) (by simp) hv.hfl (by rw [AY];exact hv.hlast) hv.hz hv.hm (fun t q hq=>AJ t q _ _ (cB rfl) hq) ?_) (by simpa using hd)
 exact .does (hg.wd hv hle) (cB hv.hi) (FY hv hle I) (.c (cB hv.hk) (cB rfl) q1 fun _ _=>h)
def aoX(P:Program)(n:Nat)(o:Oper)(s:AS)(I:List Nat)(kb:Nat)(X:Option (Option c5))(p:PV):Prop:= ∀C' (st:c8),st.boxes[kb]?=X→a3 P C' n o ⟨rs s I,st⟩ ((⟨rs s I,st⟩:AS).putO o.dst p)
theorem dB(I:List Nat)(lo hi:Nat){kb:Nat}{X:Option (Option c5)}{p:PV}(h:aoX P n o s I kb X p)(k:DW P C n id false l Q s0 ⟨g.outs++ [some p],g.ks++ [some (.q lo hi)],g.ins++ [I],g.effs,g.fs,g.rds++ [((lo,hi),kb,X)],g.az⟩ (s.putO o.dst p) rest)(hg:WS l s o true:=by exact .n rfl):
 DW P C n id false l Q s0 g s (o::rest):=fun hv hr=>by
 obtain⟨ho,hd⟩:=vH hr
 have hle:g.le ⟨g.outs++ [some p],g.ks++ [some (.q lo hi)],g.ins++ [I],g.effs,g.fs,g.rds++ [((lo,hi),kb,X)],g.az⟩:=⟨dO,dO,dO,fun _ _ h=>h,fun _ h=>List.mem_append_left _ h,fun _ h=>h⟩
 refine k (hv.next ho hle (by simp) (by simp) (by simp) hv.hfl (by rw [AY];exact hv.hlast) hv.hz hv.hm (fun t q hq=>AJ t q _ _ (cB rfl) hq) ?_) (by simpa using hd)
 exact .does (hg.wd hv hle) (cB hv.hi) (FY hv hle I) (.r (cB hv.hk) (cB rfl) (by simp) (fun h=>by cases h) h)
theorem dBz(I:List Nat)(lo hi:Nat){kb:Nat}{X:Option (Option c5)}{p:PV}(h:aoX P n o s I kb X p)(k:DW P C n id true l Q s0 ⟨g.outs++ [some p],g.ks++ [some (.q lo hi)],g.ins++ [I],g.effs,g.fs,g.rds++ [((lo,hi),kb,X)],g.az⟩ (s.putO o.dst p) rest)(hg:WS l s o true:=by exact .n rfl)(hkN:(decide (kb<s0.st.boxes.length))=true:=by exact rfl):
 DW P C n id true l Q s0 g s (o::rest):=fun hv hr=>by
 obtain⟨ho,hd⟩:=vH hr
 have hle:g.le ⟨g.outs++ [some p],g.ks++ [some (.q lo hi)],g.ins++ [I],g.effs,g.fs,g.rds++ [((lo,hi),kb,X)],g.az⟩:=⟨dO,dO,dO,fun _ _ h=>h,fun _ h=>List.mem_append_left _ h,fun _ h=>h⟩
 refine k (hv.next ho hle (by simp) (by simp) (by simp) hv.hfl (by rw [AY];exact hv.hlast) hv.hz hv.hm (fun t q hq=>AJ t q _ _ (cB rfl) hq) ?_) (by simpa using hd)
 exact .does (hg.wd hv hle) (cB hv.hi) (FY hv hle I) (.r (cB hv.hk) (cB rfl) (by simp) (fun _=>of_decide_eq_true hkN) h)
theorem wL{I:List Nat}{T:TypeId}{x:Operand}{kb d z:Nat}{bx:c5}{p:PV}(hT:cC P T=some (false,z))
 (ho:o.op= .load T x:=by exact rfl) (hd:bO o.dst n=true:=by exact rfl) (hx:(⟨rs s I,s.st⟩:AS).ev x=some (.ptr kb d):=by exact rfl) (hb:s.st.boxes[kb]?=some (some bx):=by exact rfl) (hc:bx.cells[d]?=some p:=by exact rfl):aoX P n o s I kb (some (some bx)) p:=
 fun C' st hst=>a3.loadPtr1 ho hd (by cases x<;>exact hx) hst hT hc
theorem NU{I:List Nat}{T:TypeId}{x:Operand}{kb d z:Nat}{bx:c5}(cs:List PV)(hT:cC P T=some (true,z))
 (ho:o.op= .load T x:=by exact rfl) (hd:bO o.dst n=true:=by exact rfl) (hx:(⟨rs s I,s.st⟩:AS).ev x=some (.ptr kb d):=by exact rfl) (hb:s.st.boxes[kb]?=some (some bx):=by exact rfl) (hc:(bx.cells.drop d).take z=cs:=by exact rfl) (hl:cs.length=z:=by exact rfl):aoX P n o s I kb (some (some bx)) (.agg cs):=
 fun C' st hst=>a3.loadPtr ho hd (by cases x<;>exact hx) hst hT hc hl
theorem dE(I:List Nat){p:PV}{st1:c8}(h: ∀ {C':qM},a3 P C' n o ⟨rs s I,s.st⟩ ((⟨rs s I,st1⟩:AS).putO o.dst p))(k:DW P C n id false l Q s0 ⟨g.outs++ [some p],g.ks++ [some (.ef g.effs.length)],g.ins++ [I],g.effs++ [g.outs.length],g.fs++ [fun _=>st1],g.rds,g.az⟩ ((⟨s.env,st1⟩:AS).putO o.dst p) rest)(hg:WS l s o true:=by exact .n rfl):
 DW P C n id false l Q s0 g s (o::rest):=fun hv hr=>by
 obtain⟨ho,hd⟩:=vH hr
 obtain⟨f,q1,-,q2,-⟩:=hv.hlast
 have q2:=q2 rfl
 subst q2
 have hle:g.le ⟨g.outs++ [some p],g.ks++ [some (.ef g.effs.length)],g.ins++ [I],g.effs++ [g.outs.length],g.fs++ [fun _=>st1],g.rds,g.az⟩:=⟨dO,dO,dO,dO,fun _ h=>h,fun _ h=>h⟩
 refine k (hv.next ho hle (by simp) (by simp) (by simp) (by simp [hv.hfl]) (by rw [AY];exact⟨_,cB (by simp [hv.hfl]),rfl,fun _=>rfl,fun h=>by cases h⟩) (fun h=>by cases h) hv.hm (fun t q hq=>AJ t q _ _ (cB rfl) hq) ?_) (by simpa using hd)
 exact .does (hg.wd hv hle) (cB hv.hi) (FY hv hle I) (.e (cB hv.hk) (cB rfl) (hle.fs _ _ q1) (cB hv.hfl) fun _ _=>h)
theorem lH(I:List Nat){st1:c8}(h: ∀ {C':qM},a3 P C' n o ⟨rs s I,s.st⟩ ⟨rs s I,st1⟩)(k:DW P C n id false l Q s0 ⟨g.outs++ [none],g.ks++ [some (.ef g.effs.length)],g.ins++ [I],g.effs++ [g.outs.length],g.fs++ [fun _=>st1],g.rds,g.az⟩ ⟨s.env,st1⟩ rest)(hn:o.dst=none:=by exact rfl)(hg:WS l s o true:=by exact .n rfl):
 DW P C n id false l Q s0 g s (o::rest):=fun hv hr=>by
 obtain⟨ho,hd⟩:=vH hr
 obtain⟨f,q1,-,q2,-⟩:=hv.hlast
 have q2:=q2 rfl
 subst q2
 have hle:g.le ⟨g.outs++ [none],g.ks++ [some (.ef g.effs.length)],g.ins++ [I],g.effs++ [g.outs.length],g.fs++ [fun _=>st1],g.rds,g.az⟩:=⟨dO,dO,dO,dO,fun _ h=>h,fun _ h=>h⟩
 refine k (hv.next ho hle (by simp) (by simp) (by simp) (by simp [hv.hfl]) ⟨_,cB (by simp [hv.hfl]),rfl,fun _=>rfl,fun h=>by cases h⟩ (fun h=>by cases h) hv.hm (fun t q hq=> .inr ⟨by rw [hn];simp,hq⟩) ?_) (by simpa using hd)
 exact .does (hg.wd hv hle) (cB hv.hi) (FY hv hle I) (.e0 (cB hv.hk) hn (hle.fs _ _ q1) (cB hv.hfl) fun _ _=>h)
theorem dEz(I:List Nat){p:PV}{st1:c8}(h: ∀C' z,a3 P C' n o ⟨rs s I,ab z s.st⟩ ((⟨rs s I,ab z st1⟩:AS).putO o.dst p))(k:DW P C n id true l Q s0 ⟨g.outs++ [some p],g.ks++ [some (.ef g.effs.length)],g.ins++ [I],g.effs++ [g.outs.length],g.fs++ [fun z=>ab z st1],g.rds,g.az⟩ ((⟨s.env,st1⟩:AS).putO o.dst p) rest)(hg:WS l s o true:=by exact .n rfl)(haz:g.az=none:=by exact rfl)(hlen:st1.boxes.length=s0.st.boxes.length:=by exact rfl):
 DW P C n id true l Q s0 g s (o::rest):=fun hv hr=>by
 obtain⟨ho,hd⟩:=vH hr
 obtain⟨f,q1,-,-,q2⟩:=hv.hlast
 have q2:=q2 rfl haz
 subst q2
 have hcz:g.cz=none:=by unfold DD.cz;rw [haz];rfl
 have hle:g.le ⟨g.outs++ [some p],g.ks++ [some (.ef g.effs.length)],g.ins++ [I],g.effs++ [g.outs.length],g.fs++ [fun z=>ab z st1],g.rds,g.az⟩:=⟨dO,dO,dO,dO,fun _ h=>h,fun _ h=>h⟩
 refine k (hv.next ho hle (by simp) (by simp) (by simp) (by simp [hv.hfl]) (by rw [AY];exact⟨_,cB (by simp [hv.hfl]),(by show ab g.cz st1=st1;rw [hcz];rfl),fun h=>(by cases h),fun _ _=>rfl⟩) (fun hmd f hf=>(List.mem_append.1 hf).elim (hv.hz hmd f) fun h=>by obtain rfl:=List.mem_singleton.1 h;exact .inr ⟨hlen,fun z=>rfl⟩) hv.hm (fun t q hq=>AJ t q _ _ (cB rfl) hq) ?_) (by simpa using hd)
 exact .does (hg.wd hv hle) (cB hv.hi) (FY hv hle I) (.e (cB hv.hk) (cB rfl) (hle.fs _ _ q1) (cB hv.hfl) h)
theorem dA{zb:c5}(h: ∀C' st,st.boxes.length=s0.st.boxes.length→a3 P C' n o ⟨[],st⟩ ((⟨[],st.addBox zb⟩:AS).putO o.dst (.ptr s0.st.boxes.length 0)))(k:DW P C n id true l Q s0 ⟨g.outs++ [some (.ptr s0.st.boxes.length 0)],g.ks++ [some .al],g.ins++ [[]],g.effs,g.fs,g.rds,some (g.outs.length,zb)⟩ ((⟨s.env,s.st.addBox zb⟩:AS).putO o.dst (.ptr s0.st.boxes.length 0)) rest)(hg:WS l s o true:=by exact .n rfl)(haz:g.az=none:=by exact rfl):
 DW P C n id true l Q s0 g s (o::rest):=fun hv hr=>by
 obtain⟨ho,hd⟩:=vH hr
 obtain⟨f,q1,-,-,q2⟩:=hv.hlast
 have q2:=q2 rfl haz
 subst q2
 have hle:g.le ⟨g.outs++ [some (.ptr s0.st.boxes.length 0)],g.ks++ [some .al],g.ins++ [[]],g.effs,g.fs,g.rds,some (g.outs.length,zb)⟩:=⟨dO,dO,dO,fun _ _ h=>h,fun _ h=>h,fun x h=>by rw [haz] at h;cases h⟩
 refine k (hv.next ho hle (by simp) (by simp) (by simp) hv.hfl ⟨_,q1,by rw [AY];rfl,fun h=>(by cases h),fun _ h=>by cases h⟩ hv.hz (fun h=>by cases h) (fun t q hq=>AJ t q _ _ (cB rfl) hq) ?_) (by simpa using hd)
 exact .does (E:= []) (hg.wd hv hle) (cB hv.hi) (fun t q h=>by cases h) (.al rfl rfl (cB hv.hk) (cB rfl) h)
theorem dZ(t:Nat)(I:List Nat){off a:Nat}{zb:c5}{st1:c8}(h: ∀ {C':qM},a3 P C' n o ⟨rs s I,s.st⟩ ⟨rs s I,st1⟩)(k:DW P C n id true l Q s0 ⟨g.outs++ [none],g.ks++ [some (.ef g.effs.length)],g.ins++ [I],g.effs++ [g.outs.length],g.fs++ [tw st1],g.rds,g.az⟩ ⟨s.env,st1⟩ rest)(hn:o.dst=none:=by exact rfl)(hg:WS l s o true:=by exact .n rfl)(haz:g.az=some (a,zb):=by exact rfl)(hp:(rs s I).lookup t=some (.ptr s0.st.boxes.length off):=by exact rfl):
 DW P C n id true l Q s0 g s (o::rest):=fun hv hr=>by
 obtain⟨ho,hd⟩:=vH hr
 obtain⟨f,q1,q2,-,-⟩:=hv.hlast
 have hcz:g.cz=some zb:=by unfold DD.cz;rw [haz];rfl
 rw [hcz] at q2
 have q3:=hv.hz rfl f (List.mem_iff_getElem?.2 ⟨_,q1⟩)
 have hle:g.le ⟨g.outs++ [none],g.ks++ [some (.ef g.effs.length)],g.ins++ [I],g.effs++ [g.outs.length],g.fs++ [tw st1],g.rds,g.az⟩:=⟨dO,dO,dO,dO,fun _ h=>h,fun _ h=>h⟩
 refine k (hv.next ho hle (by simp) (by simp) (by simp) (by simp [hv.hfl]) ⟨_,cB (by simp [hv.hfl]),(by show tw st1 g.cz=st1;rw [hcz];rfl),fun h=>(by cases h),fun _ h=>(by rw [show g.az=none from h] at haz;cases haz)⟩ (fun hmd f hf=>(List.mem_append.1 hf).elim (hv.hz hmd f) fun h=>by obtain rfl:=List.mem_singleton.1 h;exact .inl rfl) hv.hm (fun t q hq=> .inr ⟨by rw [hn];simp,hq⟩) ?_) (by simpa using hd)
 exact .does (hg.wd hv hle) (cB hv.hi) (FY hv hle I) (.ea haz (cB hv.hk) hn (hle.fs _ _ q1) (cB hv.hfl) hp (q3.imp (fun x=>x) (·.1)) (by rw [q2];exact fun _=>h))
theorem vAl{T:TypeId}{ps:List PV}{st:c8}{N:Nat}(hN:st.boxes.length=N)(hz:cO P T=some ps)(ho:o.op= .alloc T:=by exact rfl)(hd:bO o.dst n=true:=by exact rfl):a3 P C n o ⟨[],st⟩ ((⟨[],st.addBox ⟨T,ps⟩⟩:AS).putO o.dst (.ptr N 0)):=by
 subst hN
 exact a3.alloc (s:=⟨[],st⟩) ho hd hz
theorem dS(k:DW P C n id md l Q s0 ⟨g.outs++ [some (.tup [])],g.ks++ [none],g.ins++ [[]],g.effs,g.fs,g.rds,g.az⟩ (s.putO o.dst (.tup [])) rest)(hg:WS l s o false)(hd':bO o.dst n=true):
 DW P C n id md l Q s0 g s (o::rest):=fun hv hr=>by
 obtain⟨ho,hd⟩:=vH hr
 have hle:g.le ⟨g.outs++ [some (.tup [])],g.ks++ [none],g.ins++ [[]],g.effs,g.fs,g.rds,g.az⟩:=⟨dO,dO,dO,fun _ _ h=>h,fun _ h=>h,fun _ h=>h⟩
 refine k (hv.next ho hle (by simp) (by simp) (by simp) hv.hfl (by rw [AY];exact hv.hlast) hv.hz hv.hm (fun t q hq=>AJ t q _ _ (cB rfl) hq) ?_) (by simpa using hd)
 exact .skip (hg.wd hv hle) (cB hv.hk) (cB rfl) hd'
theorem FE{j d:Nat}{b c e:Bool}(hv:b=e)(k:DW P C n id md l Q s0 ⟨g.outs++ [some (.tup [])],g.ks++ [none],g.ins++ [[]],g.effs,g.fs,g.rds,g.az⟩ (s.putO o.dst (.tup [])) rest)(hg:o.guard=some (j,c):=by exact rfl)(hj:(l[j]?).bind (·.dst)=some d:=by exact rfl)(hb:s.lk d=some (.t (.leaf (.bool b))):=by exact rfl)(hne:(e==c)=false:=by exact rfl)(hd':bO o.dst n=true:=by exact rfl):
 DW P C n id md l Q s0 g s (o::rest):=dS k (by subst hv;have:=WS.y hg hj hb;rwa [hne] at this) hd'
theorem dSu{j d:Nat}{c:Bool}(k:DW P C n id md l Q s0 ⟨g.outs++ [some (.tup [])],g.ks++ [none],g.ins++ [[]],g.effs,g.fs,g.rds,g.az⟩ (s.putO o.dst (.tup [])) rest)(hg:o.guard=some (j,c):=by exact rfl)(hj:(l[j]?).bind (·.dst)=some d:=by exact rfl)(hb:s.lk d=some (.tup []):=by exact rfl)(hd':bO o.dst n=true:=by exact rfl):
 DW P C n id md l Q s0 g s (o::rest):=dS k (.u hg hj hb) hd'
theorem a6{j d:Nat}{b c:Bool}(hv:b=c)(hg:o.guard=some (j,c):=by exact rfl)(hj:(l[j]?).bind (·.dst)=some d:=by exact rfl)(hb:s.lk d=some (.t (.leaf (.bool b))):=by exact rfl):WS l s o true:=by
 subst hv
 have:=WS.y hg hj hb
 rwa [BEq.rfl] at this
theorem am1{ops:Array Oper}(h: ∀i o,ops[i]?=some o→ ∀e∈o.after,Region.binds .any e=true→e.on<i): ∀(fuel i j:Nat),QU ops fuel i j=true→i<j
 |0,_,_,h'=>by simp [QU] at h'
 |fuel+1,i,j,h'=>by
  simp only [QU] at h'
  split at h'
  ·rename_i o ho
   rw [List.any_eq_true] at h'
   obtain⟨e,he,h'⟩:=h'
   simp only [Bool.and_eq_true,Bool.or_eq_true,beq_iff_eq] at h'
   have h1:=h j o ho e (by simpa using he) h'.1
   rcases h'.2 with h2|h2
   ·omega
   ·have:=am1 h fuel i e.on h2
    omega
  ·cases h'
def V4(l:List Oper)(i t:Nat):Option Nat:=match o4 l.toArray t with
 |some j=>if j<i then some j else none
 |none=>none
def DD.draw(g:DD)(l:List Oper)(s0:AS):dP where
 ops:=l.toArray
 env0:=s0.env
 F:=fun j b=>match g.fs[j]? with
  |some f=>f (bif b then g.cz else none)
  |none=>ab (bif b then g.cz else none) s0.st
 out:=fun i=>(g.outs[i]?).getD none
 kind:=fun i=>match g.ks[i]? with
  |some (some k)=>k
  |_=> .q 0 g.effs.length
 effs:=g.effs
 alloc:=g.az.map (·.1)
 ins:=fun i=>((g.ins[i]?).getD []).map fun t=>(t,V4 l i t)
def anX(fs:List (Option c5→c8))(z:Option c5)(x:(Nat×Nat)×Nat×Option (Option c5)):List (Option (Option (Option c5))):=(List.range' x.1.1 (x.1.2+1-x.1.1)).map fun j=>(fs[j]?).map fun f=>(f z).boxes[x.2.1]?
def anW(x:(Nat×Nat)×Nat×Option (Option c5)):List (Option (Option (Option c5))):=(List.range' x.1.1 (x.1.2+1-x.1.1)).map fun _=>some x.2.2
theorem QO(hn:zK l.toArray=true){j t:Nat}(ho:l[j]?=some o)(hd:o.dst=some t):o4 l.toArray t=some j:=gZ hn (by simpa using ho) hd
theorem asD{fs:List (Option c5→c8)}{z:Option c5}{rds:List ((Nat×Nat)×Nat×Option (Option c5))}(h:rds.map (anX fs z)=rds.map anW){lo hi kb j:Nat}{X:Option (Option c5)}(hm:((lo,hi),kb,X)∈rds)(h1:lo≤j)(h2:j≤hi){f:Option c5→c8}(hs:fs[j]?=some f):(f z).boxes[kb]?=X:=by
 have e:=List.map_inj_left.1 h _ hm
 unfold anX anW at e
 have:=List.map_inj_left.1 e j (by simp [List.mem_range'];exact⟨j-lo,by omega,by omega⟩)
 simpa [hs] using this
theorem dN(h:Q .normal s)(hm:P.follows .mixedOrders=true:=by exact ajY)(hok:(g.draw l s0).ok=true:=by kernel_rfl)(hrd:g.rds.map (anX g.fs g.cz)=g.rds.map anW:=by kernel_rfl):DW P C n id md l Q s0 g s []:=fun hv hr=>by
 have hlen:l.length≤g.outs.length:=by
  have:=congrArg List.length hr
  simp at this
  omega
 have hok':=hok
 simp only [dP.ok,Bool.and_eq_true] at hok'
 have hn:zK l.toArray=true:=hok'.1.1.1.2
 have hpv: ∀i t q,YN l s0.env g.outs i t q→(g.draw l s0).pv (t,V4 l i t)=some q:=fun i t q hs=>by
  rcases hs with⟨j,oj,h1,h2,h3,h4⟩|⟨h1,h2⟩
  ·have hw:=QO hn h2 h3
   unfold V4
   rw [hw]
   dsimp only
   rw [if_pos h1]
   show(g.outs[j]?).getD none=some q
   rw [h4]
   rfl
  ·have hw:V4 l i t=none:=by
    unfold V4
    split
    ·rename_i j hj
     obtain⟨-,oj,h3,h4⟩:=vW hj
     split
     ·rename_i hji
      exact absurd h4 (h2 j oj hji (by simpa using h3))
     ·rfl
    ·rfl
   rw [hw]
   exact h1
 have hF: ∀ {j:Nat} {f:Option c5→c8},g.fs[j]?=some f→ ∀b,(g.draw l s0).F j b=f (bif b then g.cz else none):=fun {j f} hj b=>by show(match g.fs[j]? with|some f=>f (bif b then g.cz else none)|none=>ab (bif b then g.cz else none) s0.st)=_;rw [hj]
 have hK: ∀ {i:Nat} {k:DK},g.ks[i]?=some (some k)→(g.draw l s0).kind i=k:=fun {i k} hk=>by show(match g.ks[i]? with|some (some k)=>k|_=> .q 0 g.effs.length)=_;rw [hk]
 have hK0: ∀ {i:Nat},g.ks[i]?=some none→(g.draw l s0).kind i= .q 0 g.effs.length:=fun {i} hk=>by show(match g.ks[i]? with|some (some k)=>k|_=>DK.q 0 g.effs.length)=_;rw [hk]
 have hout: ∀ {i:Nat} {p:PV},g.outs[i]?=some (some p)→(g.draw l s0).out i=some p:=fun hp=>by show(g.outs[_]?).getD none=_;rw [hp];rfl
 have hops:=hok'.1.1.1.1
 rw [List.all_eq_true] at hops
 have hgs: ∀(i:Nat) (o:Oper) (j d:Nat) (c:Bool) (p:PV),l[i]?=some o→o.guard=some (j,c)→(l[j]?).bind (·.dst)=some d→YN l s0.env g.outs i d p→(g.draw l s0).out j=some p:=fun i o j d c p ho hg hj hs=>by
  obtain⟨oj,hoj,hdj⟩: ∃oj,l[j]?=some oj∧oj.dst=some d:=by
   cases hx:l[j]? with
   |none=>rw [hx] at hj;cases hj
   |some oj=>rw [hx] at hj;exact⟨oj,rfl,hj⟩
  have hw:=QO hn hoj hdj
  rcases hs with⟨j',oj',h1,h2,h3,h4⟩|⟨h1,h2⟩
  ·have hw':=QO hn h2 h3
   rw [hw] at hw'
   cases hw'
   exact hout h4
  ·have hil:=(List.getElem?_eq_some_iff.1 ho).1
   have h5:=hops i (by simpa [DD.draw] using hil)
   have ho':(g.draw l s0).ops[i]?=some o:=by simpa [DD.draw] using ho
   simp only [dP.okOp,ho',hg,Bool.and_eq_true] at h5
   have h6:(g.draw l s0).anc j i=true:=h5.2.1
   have:=am1 (fun i' o' ho' e he hb=>by
    have hil':=(Array.getElem?_eq_some_iff.1 ho').1
    have h7:=hops i' (by simpa using hil')
    simp only [dP.okOp,ho',Bool.and_eq_true,Array.all_eq_true'] at h7
    have h3:=h7.1 e he
    simpa [hb] using h3) _ _ _ h6
   exact absurd hdj (h2 j oj this hoj)
 have hwant: ∀ {i:Nat} {o:Oper} {b:Bool},l[i]?=some o→WD l s0.env g.outs i o b→(g.draw l s0).want o=some b:=fun {i o b} ho hw=>by
  unfold dP.want
  cases hw with
  |n a=>rw [a]
  |y a b c=>rw [a];dsimp only;rw [hgs _ _ _ _ _ _ ho a b c]
  |u a b c=>rw [a];dsimp only;rw [hgs _ _ _ _ _ _ ho a b c]
 have hstep: ∀i o,(g.draw l s0).ops[i]?=some o→(g.draw l s0).step P C n i o:=fun i o ho=>by
  have ho':l[i]?=some o:=by simpa [DD.draw] using ho
  obtain⟨hil,-⟩:=List.getElem?_eq_some_iff.1 ho'
  cases hv.hf i o ho' (by omega) with
  |does h1 h2 h3 h4=>
   rename_i E I
   refine .inl ⟨hwant ho' h1,?_⟩
   have hl: ∀s':AS,(∀t src p,(t,src)∈(g.draw l s0).ins i→(g.draw l s0).pv (t,src)=some p→s'.lk t=some p)→ ∀t q,E.lookup t=some q→s'.lk t=some q:=fun s' hl t q ht=>by
    obtain⟨h5,h6⟩:=h3 t q ht
    refine hl t (V4 l i t) q ?_ (hpv i t q h6)
    show(t,V4 l i t)∈((g.ins[i]?).getD []).map _
    rw [h2]
    exact List.mem_map.2 ⟨t,h5,rfl⟩
   unfold dP.does
   cases h4 with
   |q a b c=>
    rw [hK0 a]
    exact fun s' j bb _ _ hs hin=>⟨_,hout b,a3.frame (st:=s'.st) (fun C'=>c C' s'.st) rfl (hl s' hin)⟩
   |r a b c kN d=>
    rename_i lo hi kb X p
    have hk:=hK a
    rw [hk]
    intro s' j bb q1 q2 hs hin
    have hjl:hi<g.fs.length:=by
     have:=hok'.1.1.2
     rw [List.all_eq_true] at this
     have:=this i (by simpa [DD.draw] using hil)
     simp only [Bool.and_eq_true,dP.okKind,hk] at this
     have h9:=this.1.1.1.1.1.2
     simp only [decide_eq_true_eq] at h9
     have h10:hi≤g.effs.length:=h9
     rw [hv.hfl]
     omega
    obtain⟨f,hst⟩: ∃f,g.fs[j]?=some f:=⟨_,List.getElem?_eq_getElem (by omega)⟩
    have hX:=asD hrd c q1 q2 hst
    rw [hF hst] at hs
    have hcase:s'.st=f g.cz∨(md=true∧s'.st=f none):=by
     cases bb with
     |true=>exact .inl hs
     |false=>
      cases md with
      |true=>exact .inr ⟨rfl,hs⟩
      |false=>
       have:g.cz=none:=by unfold DD.cz;rw [hv.hm rfl];rfl
       rw [this]
       exact .inl hs
    rcases hcase with hs|⟨hmd,hs⟩
    ·exact⟨_,hout b,a3.frame (st:=s'.st) (fun C'=>d C' s'.st (by rw [hs];exact hX)) rfl (hl s' hin)⟩
    ·rcases hv.hz hmd f (List.mem_iff_getElem?.2 ⟨_,hst⟩) with h9|⟨h9,h10⟩
     ·exact⟨_,hout b,a3.bad (by rw [hs,h9])⟩
     ·refine⟨_,hout b,a3.frame (st:=s'.st) (fun C'=>d C' s'.st ?_) rfl (hl s' hin)⟩
      rw [hs,← hX]
      cases hz:g.cz with
      |none=>rfl
      |some z=>
       rw [h10 z]
       show _=((f none).boxes++ [some z])[kb]?
       rw [List.getElem?_append_left (by rw [h9];exact kN hmd)]
   |c a b c d=>
    rename_i j f p
    rw [hK a]
    refine fun s' jj bb q1 q2 hs hin=>⟨_,hout b,?_⟩
    obtain rfl:jj=j:=by omega
    exact a3.frame (st:=s'.st) (fun C'=>by rw [hs,hF c];exact d C' _) rfl (hl s' hin)
   |e a b c d e=>
    rename_i j f f1 p
    rw [hK a]
    refine fun s' bb hs hin=> .inl ⟨_,hout b,?_⟩
    rw [hF d]
    exact a3.frame (fun C'=>e C' _) (by rw [hs,hF c]) (hl s' hin)
   |e0 a b c d e=>
    rename_i j f f1
    rw [hK a]
    refine fun s' bb hs hin=> .inr ⟨b,?_⟩
    rw [hF d]
    exact a3.frame0 b (fun C'=>e C' _) (by rw [hs,hF c]) (hl s' hin)
   |ea z a b c d e f q=>
    rename_i j a' t off zb f0 f1
    have hcz:g.cz=some zb:=by unfold DD.cz;rw [z];rfl
    rw [hK a]
    refine fun s' bb hs hin=> .inr ⟨b,?_⟩
    rw [hF d]
    rw [hF c] at hs
    cases bb with
    |true=>
     rw [hcz] at hs ⊢
     exact a3.frame0 b q hs (hl s' hin)
    |false=>
     rcases f with f|f
     ·exact a3.bad (hs.trans f)
     ·refine a3.away (hl s' hin t _ e) ?_
      rw [hs]
      show(f0 none).boxes[_]?=none
      rw [List.getElem?_eq_none (by rw [f];exact Nat.le_refl _)]
   |al hmd z a b c=>
    rename_i zb
    have hcz:g.cz=some zb:=by unfold DD.cz;rw [z];rfl
    rw [hK a]
    refine fun s' j hs=>⟨_,hout b,?_⟩
    have key:s'.st=J0∨(s'.st.boxes.length=s0.st.boxes.length∧(g.draw l s0).F j true=s'.st.addBox zb):=by
     cases hj:g.fs[j]? with
     |none=>
      have h8: ∀b,(g.draw l s0).F j b=ab (bif b then g.cz else none) s0.st:=fun b=>by show(match g.fs[j]? with|some f=>f (bif b then g.cz else none)|none=>ab (bif b then g.cz else none) s0.st)=_;rw [hj]
      rw [h8] at hs ⊢
      refine .inr ⟨by rw [hs];rfl,?_⟩
      rw [hs,hcz]
      rfl
     |some f=>
      rw [hF hj] at hs ⊢
      rcases hv.hz hmd f (List.mem_iff_getElem?.2 ⟨_,hj⟩) with h9|⟨h9,h10⟩
      ·exact .inl (hs.trans h9)
      ·refine .inr ⟨by rw [hs];exact h9,?_⟩
       rw [hs,hcz]
       exact h10 zb
    rcases key with h9|⟨h9,h10⟩
    ·exact a3.bad h9
    ·rw [h10]
     exact a3.frame (E:= []) (fun C'=>c C' s'.st h9) rfl (fun t q h=>by cases h)
  |skip h1 h2 h3 h4=>exact .inr ⟨hwant ho' h1,⟨_,_,hK0 h2⟩,.inr ⟨hout h3,h4⟩⟩
 intro m a w hra
 refine wp_mono (aR.drawn (g.draw l s0) (Q:=fun e s'=>e= .normal∧s'=⟨((List.range (g.draw l s0).ops.size).filterMap ((g.draw l s0).gX (Array.replicate (g.draw l s0).ops.size true)))++(g.draw l s0).env0,(g.draw l s0).F (g.draw l s0).effs.length (g.draw l s0).alloc.isSome⟩) hm hok rfl (by obtain⟨f,h1,h2⟩:=hv.hs0;rw [hF h1];exact h2.symm) hstep ⟨rfl,rfl⟩ m a w hra) fun e a' w'=>?_;rintro⟨s',m',⟨rfl,rfl⟩,h2⟩
 obtain⟨f,q1,q2,-,-⟩:=hv.hlast
 refine⟨s,m',h,RA.congr h2 ((hF q1 _).trans (Eq.trans (by cases ha:g.az with|none=>(show f (bif (g.az.map (·.1)).isSome then g.cz else none)=f g.cz;unfold DD.cz;rw [ha];rfl)|some x=>(show f (bif (g.az.map (·.1)).isSome then g.cz else none)=f g.cz;unfold DD.cz;rw [ha];rfl)) q2)) fun t p ht=>?_⟩
 show((g.draw l s0).sX (Array.replicate (g.draw l s0).ops.size true)).lk t=some p
 rcases hv.hlk t p ht with⟨j,oj,h1,h3,h4,h5⟩|⟨h1,h3⟩
 ·have hjl:j<l.length:=(List.getElem?_eq_some_iff.1 h3).1
  exact KH hn (i:=j) (o:=oj) (by have:j<(g.draw l s0).ops.size:=(by simpa [DD.draw] using hjl);simp [Array.getD_eq_getD_getElem?,this]) (by simpa [DD.draw] using h3) h4 (hout h5)
 ·rw [GY hn fun i hi=>?_]
  ·exact h1
  ·obtain⟨hil,oi,h6,h7⟩:=vW hi
   exact absurd h7 (h3 i oi (by have:i<l.length:=(by simpa [DD.draw] using hil);omega) (by simpa [DD.draw] using h6))
end
end Go.Proofs.YtpioomclpaiomaaGreat

namespace Go.Proofs.YtpioomclpaiomaaGreat
instance:TC aU:=⟨aU.cs,aU.trs,2,aU.trs_at,aU.trs_len,fun l=>by rw [aU.trs_map];exact List.map_congr_left fun x _=>aU.tr_cs x,fun _=>rfl⟩
abbrev ZT(l:List aU):PV:= .t (.row 2 (aU.trs l))
abbrev xN(l:List aU)(r:Nat):PV:= .acc 2 (aU.trs l) r
instance:TC aB:=⟨aB.cs,aB.trs,3,aB.trs_at,aB.trs_len,fun l=>by rw [aB.trs_map];exact List.map_congr_left fun x _=>aB.tr_cs x,fun _=>rfl⟩
abbrev a7(l:List aB):PV:= .t (.row 3 (aB.trs l))
abbrev jA(l:List aB)(r:Nat):PV:= .acc 3 (aB.trs l) r
instance:TC aG:=⟨aG.cs,aG.trs,9,aG.trs_at,aG.trs_len,fun l=>by rw [aG.trs_map];exact List.map_congr_left fun x _=>aG.tr_cs x,fun _=>rfl⟩
abbrev eB(l:List aG):PV:= .t (.row 9 (aG.trs l))
abbrev TO(l:List aG)(r:Nat):PV:= .acc 9 (aG.trs l) r
instance:TC bA:=⟨bA.cs,bA.trs,11,bA.trs_at,bA.trs_len,fun l=>by rw [bA.trs_map];exact List.map_congr_left fun x _=>bA.tr_cs x,fun _=>rfl⟩
abbrev g0(l:List bA):PV:= .t (.row 11 (bA.trs l))
abbrev akS(l:List bA)(r:Nat):PV:= .acc 11 (bA.trs l) r
instance:TC aM:=⟨aM.cs,aM.trs,4,aM.trs_at,aM.trs_len,fun l=>by rw [aM.trs_map];exact List.map_congr_left fun x _=>aM.tr_cs x,fun _=>rfl⟩
abbrev fS(l:List aM):PV:= .t (.row 4 (aM.trs l))
abbrev amZ(l:List aM)(r:Nat):PV:= .acc 4 (aM.trs l) r
instance:TC aT:=⟨aT.cs,aT.trs,4,aT.trs_at,aT.trs_len,fun l=>by rw [aT.trs_map];exact List.map_congr_left fun x _=>aT.tr_cs x,fun _=>rfl⟩
abbrev FW(l:List aT):PV:= .t (.row 4 (aT.trs l))
abbrev YY(l:List aT)(r:Nat):PV:= .acc 4 (aT.trs l) r
instance:TC aO:=⟨aO.cs,aO.trs,11,aO.trs_at,aO.trs_len,fun l=>by rw [aO.trs_map];exact List.map_congr_left fun x _=>aO.tr_cs x,fun _=>rfl⟩
abbrev mK(l:List aO):PV:= .t (.row 11 (aO.trs l))
abbrev SX(l:List aO)(r:Nat):PV:= .acc 11 (aO.trs l) r
instance:TC aD:=⟨aD.cs,aD.trs,2,aD.trs_at,aD.trs_len,fun l=>by rw [aD.trs_map];exact List.map_congr_left fun x _=>aD.tr_cs x,fun _=>rfl⟩
abbrev bY(l:List aD):PV:= .t (.row 2 (aD.trs l))
abbrev xM(l:List aD)(r:Nat):PV:= .acc 2 (aD.trs l) r
instance:TC aC:=⟨aC.cs,aC.trs,16,aC.trs_at,aC.trs_len,fun l=>by rw [aC.trs_map];exact List.map_congr_left fun x _=>aC.tr_cs x,fun _=>rfl⟩
abbrev c4(l:List aC):PV:= .t (.row 16 (aC.trs l))
abbrev lV(l:List aC)(r:Nat):PV:= .acc 16 (aC.trs l) r
instance:TC aP:=⟨aP.cs,aP.trs,5,aP.trs_at,aP.trs_len,fun l=>by rw [aP.trs_map];exact List.map_congr_left fun x _=>aP.tr_cs x,fun _=>rfl⟩
abbrev O7(l:List aP):PV:= .t (.row 5 (aP.trs l))
abbrev yU(l:List aP)(r:Nat):PV:= .acc 5 (aP.trs l) r
instance:TC aH:=⟨aH.cs,aH.trs,3,aH.trs_at,aH.trs_len,fun l=>by rw [aH.trs_map];exact List.map_congr_left fun x _=>aH.tr_cs x,fun _=>rfl⟩
abbrev iJ(l:List aH):PV:= .t (.row 3 (aH.trs l))
abbrev nD(l:List aH)(r:Nat):PV:= .acc 3 (aH.trs l) r
instance:TC aL:=⟨aL.cs,aL.trs,12,aL.trs_at,aL.trs_len,fun l=>by rw [aL.trs_map];exact List.map_congr_left fun x _=>aL.tr_cs x,fun _=>rfl⟩
abbrev yL(l:List aL):PV:= .t (.row 12 (aL.trs l))
abbrev nF(l:List aL)(r:Nat):PV:= .acc 12 (aL.trs l) r
instance:TC aK:=⟨aK.cs,aK.trs,16,aK.trs_at,aK.trs_len,fun l=>by rw [aK.trs_map];exact List.map_congr_left fun x _=>aK.tr_cs x,fun _=>rfl⟩
abbrev yK(l:List aK):PV:= .t (.row 16 (aK.trs l))
abbrev nE(l:List aK)(r:Nat):PV:= .acc 16 (aK.trs l) r
instance:TC aJ:=⟨aJ.cs,aJ.trs,6,aJ.trs_at,aJ.trs_len,fun l=>by rw [aJ.trs_map];exact List.map_congr_left fun x _=>aJ.tr_cs x,fun _=>rfl⟩
abbrev aN(l:List aJ):PV:= .t (.row 6 (aJ.trs l))
abbrev r4(l:List aJ)(r:Nat):PV:= .acc 6 (aJ.trs l) r
instance:TC aF:=⟨aF.cs,aF.trs,1,aF.trs_at,aF.trs_len,fun l=>by rw [aF.trs_map];exact List.map_congr_left fun x _=>aF.tr_cs x,fun _=>rfl⟩
instance:TC aA:=⟨aA.cs,aA.trs,2,aA.trs_at,aA.trs_len,fun l=>by rw [aA.trs_map];exact List.map_congr_left fun x _=>aA.tr_cs x,fun _=>rfl⟩
abbrev bF(l:List aA):PV:= .t (.row 2 (aA.trs l))
abbrev eH(l:List aA)(r:Nat):PV:= .acc 2 (aA.trs l) r
instance:TC bB:=⟨bB.cs,bB.trs,6,bB.trs_at,bB.trs_len,fun l=>by rw [bB.trs_map];exact List.map_congr_left fun x _=>bB.tr_cs x,fun _=>rfl⟩
instance:TC bZ:=⟨bZ.cs,bZ.trs,4,bZ.trs_at,bZ.trs_len,fun l=>by rw [bZ.trs_map];exact List.map_congr_left fun x _=>bZ.tr_cs x,fun _=>rfl⟩
instance:TC bS:=⟨bS.cs,bS.trs,2,bS.trs_at,bS.trs_len,fun l=>by rw [bS.trs_map];exact List.map_congr_left fun x _=>bS.tr_cs x,fun _=>rfl⟩
abbrev eD(x:aB):List PV:= [pI x.gKind,pS x.gName,a7 x.gArgs]
abbrev eN(x:aG):List PV:= [pI x.gKind,pS x.gTrait,pS x.gName,pI x.gN,pI x.gType.gKind,pS x.gType.gName,a7 x.gType.gArgs,eB x.gArgs,g0 x.gArms]
abbrev as0(x:bA):List PV:= [pS x.gConstructor,rS x.gVars,pI x.gBody.gKind,pS x.gBody.gTrait,pS x.gBody.gName,pI x.gBody.gN,pI x.gBody.gType.gKind,pS x.gBody.gType.gName,a7 x.gBody.gType.gArgs,eB x.gBody.gArgs,g0 x.gBody.gArms]
abbrev Y2(x:aM):List PV:= [pS x.gTrait,pI x.gType.gKind,pS x.gType.gName,a7 x.gType.gArgs]
abbrev TQ(x:aC):List PV:= [pS x.gName,a7 x.gParams,pI x.gResult.gKind,pS x.gResult.gName,a7 x.gResult.gArgs,pB x.gHasDefault,rS x.gVars,pI x.gBody.gKind,pS x.gBody.gTrait,pS x.gBody.gName,pI x.gBody.gN,pI x.gBody.gType.gKind,pS x.gBody.gType.gName,a7 x.gBody.gType.gArgs,eB x.gBody.gArgs,g0 x.gBody.gArms]
abbrev nH(x:aP):List PV:= [pS x.gName,rS x.gSupertraits,pB x.gAuto,pB x.gAssoc,c4 x.gSignatures]
abbrev gK(x:aH):List PV:= [pS x.gName,rS x.gVars,bY x.gConstructors]
abbrev nG(x:aL):List PV:= [pS x.gTrait,rS x.gVars,pI x.gHead.gKind,pS x.gHead.gName,a7 x.gHead.gArgs,fS x.gWhere,pB x.gDefault,pB x.gHasAssoc,pI x.gAssoc.gKind,pS x.gAssoc.gName,a7 x.gAssoc.gArgs,mK x.gMethods]
abbrev yG(x:aK):List PV:= [pS x.gName,rS x.gVars,fS x.gWhere,FW x.gParams,pI x.gResult.gKind,pS x.gResult.gName,a7 x.gResult.gArgs,pI x.gBody.gKind,pS x.gBody.gTrait,pS x.gBody.gName,pI x.gBody.gN,pI x.gBody.gType.gKind,pS x.gBody.gType.gName,a7 x.gBody.gType.gArgs,eB x.gBody.gArgs,g0 x.gBody.gArms]
abbrev dV(x:aJ):List PV:= [pS x.gName,rS x.gDeps,O7 x.gTraits,iJ x.gDataTypes,yL x.gInstances,yK x.gFunctions]
end Go.Proofs.YtpioomclpaiomaaGreat
