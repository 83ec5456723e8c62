/- Words, rules and walks of several kinds, laid together. No conditions but those that each theorem states. -/
import Derived.WalkKit
import Derived.WalkSpells
import Derived.WalkLawsBesides
import Derived.Lib.Hide
import Derived.Deep.Slices
import Derived.StillTailTactics
import Derived.ProofKit
import Derived.WalkArith
import Derived.WideShapes4
import Derived.IntWalk
import Derived.Deep.AppendSrc
import Derived.Great.BuildSlice
set_option linter.unusedSimpArgs false
set_option linter.unusedVariables false
namespace Go.Proofs.YtfcoaagbccmahaaGreat
abbrev Z(α:Type):=List α
abbrev J(α:Type):=Option α
abbrev Y:=ByteArray
open Go.RowKit
inductive Tr where
 |leaf (v:Value)
 |row (sz:Nat) (es:List (List Tr))
def sN:Value→Prop
 | .int k n=>(Lit.int k n).wf=true
 | .string s=>s.size≤maxLen
 | .bool _=>True
 |_=>False
inductive M1 (w:World):Tr→Value→Prop
 |leaf {v:Value}:sN v→M1 w (.leaf v) v
 |row {sz:Nat} {es:List (List Tr)} {a:Option Addr} {cap:Nat} (c:Nat→Nat→Value):es.length≤cap→cap≤maxLen→
  (es≠ []→ ∃b off,a=some ⟨b,off,none⟩∧b<w.heap.size∧ ∀i e,es[i]?=some e→ ∀j d,e[j]?=some d→w.cell? ⟨b,off+i*sz+j,none⟩=some (c i j))→
  (∀i e,es[i]?=some e→ ∀j d,e[j]?=some d→M1 w d (c i j))→M1 w (.row sz es) (.slice a es.length cap)
def iV(w:World):Z Tr→Z Value→Prop
 | [],[]=>True
 |t::ts,v::vs=>M1 w t v∧iV w ts vs
 |_,_=>False
abbrev wI(w w':World):Prop:=Below w.heap.size w w'
theorem wI.refl(w:World):wI w w:=Below.refl _ _
theorem wI.trans{a b c:World}(h:wI a b)(k:wI b c):wI a c:=Below.trans h (k.mono h.size)
theorem wI.alloc{a w:World}(h:wI a w)(o:Obj):wI a (w.alloc o):=Below.alloc h h.size o
theorem wI.drew{a w:World}(h:wI a w):wI a w.drew:=Below.drew h
theorem M1.ext{w w':World}{t:Tr}{v:Value}(h:M1 w t v)(hx:wI w w'):M1 w' t v:=by
 induction h with
 |leaf h=>exact .leaf h
 |row c h1 h2 h3 _ ih=>
  refine .row c h1 h2 (fun hne=>?_) ih
  obtain⟨b,off,ha,hb,hc⟩:=h3 hne
  exact⟨b,off,ha,Nat.lt_of_lt_of_le hb hx.size,fun i e he j d hd=>(hx.cell (p:=⟨b,_,none⟩) hb).trans (hc i e he j d hd)⟩
theorem iV.ext{w w':World}{ts:Z Tr}{vs:Z Value}(h:iV w ts vs)(hx:wI w w'):iV w' ts vs:=by
 induction ts generalizing vs with
 |nil=>cases vs<;>simp_all [iV]
 |cons t ts ih=>
  cases vs with
  |nil=>simp [iV] at h
  |cons v vs=>exact⟨h.1.ext hx,ih h.2⟩
theorem iV.of_fn{w:World}{c:Nat→Value}: ∀ {ts:Z Tr} (k:Nat),(∀(j:Nat) d,ts[j]?=some d→M1 w d (c (k+j)))→iV w ts ((List.range' k ts.length).map c):=by
 intro ts
 induction ts with
 |nil=>intro k _;simp [iV]
 |cons t ts ih=>
  intro k h
  refine⟨h 0 t rfl,?_⟩
  exact ih (k+1) (fun j d hd=>by have:=h (j+1) d (by simpa using hd);rwa [show k+1+j=k+(j+1) by omega])
theorem M1.at{w:World}{sz:Nat}{es:Z (Z Tr)}{s:Value}{k:Nat}{e:Z Tr}(h:M1 w (.row sz es) s)(hk:es[k]?=some e):
 ∃b off cap cs,s= .slice (some ⟨b,off,none⟩) es.length cap∧b<w.heap.size∧iV w e cs∧ ∀j v,cs[j]?=some v→w.cell? ⟨b,off+k*sz+j,none⟩=some v:=by
 cases h with
 |row c h1 h2 h3 h4=>
  obtain⟨b,off,rfl,hb,hc⟩:=h3 (by rintro rfl;simp at hk)
  refine⟨b,off,_,(List.range' 0 e.length).map (c k),rfl,hb,iV.of_fn 0 (fun j d hd=>by simpa using h4 k e hk j d hd),fun j v hv=>?_⟩
  rw [List.getElem?_map] at hv
  rcases hj:e[j]? with _|d
  ·rw [List.getElem?_eq_none_iff] at hj
   rw [List.getElem?_eq_none (by simpa using hj)] at hv
   simp at hv
  ·have hl:j<e.length:=(List.getElem?_eq_some_iff.1 hj).1
   rw [List.getElem?_range' hl] at hv
   simp at hv
   rw [hc k e hk j d hj,hv]
theorem M1.shape{w:World}{sz:Nat}{es:Z (Z Tr)}{s:Value}(h:M1 w (.row sz es) s): ∃a cap,s= .slice a es.length cap∧es.length≤cap∧cap≤maxLen:=by
 cases h with
 |row c h1 h2 h3 h4=>exact⟨_,_,rfl,h1,h2⟩
theorem M1.leaf_eq{w:World}{v u:Value}(h:M1 w (.leaf v) u):u=v∧sN v:=by
 cases h with
 |leaf h=>exact⟨rfl,h⟩
theorem iV.append{w:World}{ts us:Z Tr}{vs xs:Z Value}(h:iV w ts vs)(k:iV w us xs):iV w (ts++us) (vs++xs):=by
 induction ts generalizing vs with
 |nil=>cases vs<;>simp_all [iV]
 |cons t ts ih=>
  cases vs with
  |nil=>simp [iV] at h
  |cons v vs=>exact⟨h.1,ih h.2⟩
theorem iV.length{w:World}{ts:Z Tr}{vs:Z Value}(h:iV w ts vs):ts.length=vs.length:=by
 induction ts generalizing vs with
 |nil=>cases vs<;>simp_all [iV]
 |cons t ts ih=>
  cases vs with
  |nil=>simp [iV] at h
  |cons v vs=>simp [ih h.2]
theorem iV.get{w:World}{ts:Z Tr}{vs:Z Value}(h:iV w ts vs){j:Nat}{d:Tr}(hd:ts[j]?=some d): ∃v,vs[j]?=some v∧M1 w d v:=by
 induction ts generalizing vs j with
 |nil=>simp at hd
 |cons t ts ih=>
  cases vs with
  |nil=>simp [iV] at h
  |cons v vs=>
   cases j with
   |zero=>simp at hd;exact⟨v,rfl,hd ▸ h.1⟩
   |succ j=>exact ih h.2 (by simpa using hd)
def OB(w:World)(g:Nat)(t:TypeId)(cs:Array Value):Prop:=w.heap[g]?=some (.cells cs t (0,0))
theorem OB.lt{w:World}{g:Nat}{t:TypeId}{cs:Array Value}(h:OB w g t cs):g<w.heap.size:=by
 rcases Nat.lt_or_ge g w.heap.size with hlt|hge
 ·exact hlt
 ·unfold OB at h;rw [Array.getElem?_eq_none hge] at h;cases h
theorem OB.new(w:World)(t:TypeId)(cs:Array Value):OB (w.alloc (.cells cs t)) w.heap.size t cs:=heap_alloc_new w _
theorem OB.ext{w w':World}{g:Nat}{t:TypeId}{cs:Array Value}(h:OB w g t cs)(hx:wI w w'):OB w' g t cs:=(hx.block g h.lt).trans h
theorem OB.cell{w:World}{g:Nat}{t:TypeId}{cs:Array Value}(h:OB w g t cs): ∀i,w.cell? ⟨g,i,none⟩=cs[i]?:=fun i=>cell_of_row w g i cs t (0,0) h
mutual
def mM:Tr→Nat
 | .leaf (.string s)=>s.size
 | .leaf _=>0
 | .row _ es=>es.length+aW es
def aX:Z Tr→Nat
 | []=>0
 |t::r=>mM t+aX r
def aW:Z (Z Tr)→Nat
 | []=>0
 |e::r=>aX e+aW r
end
theorem M1.at2{w:World}{sz:Nat}{es:Z (Z Tr)}{a:J Addr}{len cap:Nat}{k:Nat}{e:Z Tr}(h:M1 w (.row sz es) (.slice a len cap))(hk:es[k]?=some e):
 ∃b off cs,a=some ⟨b,off,none⟩∧b<w.heap.size∧iV w e cs∧ ∀j v,cs[j]?=some v→w.cell? ⟨b,off+k*sz+j,none⟩=some v:=by
 obtain⟨b,off,cap',cs,hs,h1,h2,h3⟩:=h.at hk
 injection hs with hs
 exact⟨b,off,cs,hs,h1,h2,h3⟩
theorem JI{P:Program}(w:World)(b off:Nat)(ty:TypeId)(cs:Z Value)(fs:Array Field)(hu:P.underlying ty=some (.struct fs))(hi:(P.info? ty).map (·.size)=some cs.length)
 (hc: ∀j v,cs[j]?=some v→w.cell? ⟨b,off+j,none⟩=some v):(loadVar ty ⟨b,off,none⟩).run P w= .ok (.agg ⟨cs⟩) w:=by
 have hl:(loadCells ⟨b,off,none⟩ cs.length).run P w= .ok cs.toArray w:=
  run_loadCells_list (P:=P) w ⟨b,off,none⟩ cs (fun j v hv=>by
   have hadd:(⟨b,off,none⟩:Addr).add j=⟨b,off+j,none⟩:=by unfold Addr.add;split<;>simp_all
   rw [hadd];exact hc j v hv)
 cases hq:P.info? ty with
 |none=>simp [hq] at hi
 |some i=>
  have hs:i.size=cs.length:=by simpa [hq] using hi
  have hagg:(isAgg ty).run P w= .ok true w:=by
   unfold isAgg
   rw [Sem.run_bind,run_underlying hu w]
   simp
  simp [loadVar,Sem.run_bind,hagg,Go.sizeOf,typeInfo,hq,hs,hl]
theorem mF{P:Program}{ops:Array Oper}{rest:Z Oper}{o:Oper}{a:Act}{w:World}{Q:Exit→Act→World→Prop}(hgd:o.guard=none)(ty:TypeId)(x:Operand)(ho:o.op= .load ty x)
 (b off:Nat) (hx:a.eval x= .pointer (some ⟨b,off,none⟩)) (cs:Z Value) (fs:Array Field) (hu:P.underlying ty=some (.struct fs)) (hi:(P.info? ty).map (·.size)=some cs.length)
 (hc: ∀j v,cs[j]?=some v→w.cell? ⟨b,off+j,none⟩=some v) (h:wpList P ops Q rest (a.put o.dst (.agg ⟨cs⟩)) w):wpList P ops Q (o::rest) a w:=
 wpList_plain hgd fun _ hK=>by
  unfold Oper.wp execOp
  simp only [ho,hx,Instr.loadAt,Instr.sureAddr,Sem.run_bind,Sem.run_pure,Result.andThen_ok,JI w b off ty cs fs hu hi hc]
  exact hK _ _ h
theorem apM{k:IntKind}{a b:Int}(h:a=b):Ending.returned (.int k a)= .returned (.int k b):=by rw [h]
open Go.RowKit Go.ChangeShapes Go.WideShapes Go.Deep
inductive M2 (P:Program):TypeId→List Tr→Prop
 |bool {t b}:P.underlying t=some .bool→M2 P t [.leaf (.bool b)]
 |int {t k n}:P.underlying t=some (.int k)→(Lit.int k n).wf=true→M2 P t [.leaf (.int k n)]
 |str {t s}:P.underlying t=some .string→s.size≤maxLen→M2 P t [.leaf (.string s)]
 |slice {t e es}:P.underlying t=some (.slice e)→(∀x∈es,M2 P e x)→M2 P t [.row (P.cellsOf e) es]
 |struct {t fs} (parts:Nat→List Tr):P.underlying t=some (.struct fs)→(∀i f,fs[i]?=some f→M2 P f.type (parts i))→M2 P t ((List.range fs.size).flatMap parts)
def yE(P:Program):Nat→Z Field→J Nat
 |n,[]=>some n
 |n,f::r=>if f.offset=n then yE P (n+P.cellsOf f.type) r else none
def VM(P:Program)(S:Z TypeId):Bool:=
 S.all fun t=>match P.underlying t with
  |some .bool|some (.int _)|some .string=>P.cellsOf t==1
  |some (.slice e)=>S.contains e&&P.cellsOf t==1&&decide (0<P.cellsOf e)
  |some (.struct fs)=>fs.all (fun f=>S.contains f.type)&&yE P 0 fs.toList==some (P.cellsOf t)
  |_=>false
theorem ajW{w:World}{P:Program}{cs:Z Value}: ∀(fs:Z Field) (n m:Nat) (parts:Nat→Z Tr) (k:Nat),yE P n fs=some m→cs.length=m→
 (∀i f,fs[i]?=some f→iV w (parts (k+i)) ((cs.drop f.offset).take (P.cellsOf f.type)))→iV w ((List.range' k fs.length).flatMap parts) (cs.drop n):=by
 intro fs
 induction fs with
 |nil=>
  intro n m parts k h hl _
  simp [yE] at h
  subst h
  simp [← hl,iV]
 |cons f r ih=>
  intro n m parts k h hl hf
  simp only [yE] at h
  split at h
  ·rename_i ho
   have h0:=hf 0 f rfl
   rw [ho] at h0
   have hr:=ih (n+P.cellsOf f.type) m parts (k+1) h hl (fun i g hg=>by
    have:=hf (i+1) g (by simpa using hg)
    rwa [show k+(i+1)=k+1+i by omega] at this)
   have:cs.drop n=(cs.drop n).take (P.cellsOf f.type)++cs.drop (n+P.cellsOf f.type):=by
    rw [← List.drop_drop,List.take_append_drop]
   rw [this]
   simp only [List.length_cons,List.range'_succ,List.flatMap_cons]
   exact iV.append h0 hr
  ·simp at h
section
variable {H:Type} {enc:TypeId×Value→H} {P:Program} {w:World} {base:Nat} {spare:Nat→Bool} {held:Bool}
theorem ahT{S:Z TypeId}(hS:VM P S=true): ∀(fuel:Nat) (t:TypeId) (cs:Z Value) (x:DataW H×Z MemPlace),t∈S→DataW.trod enc P w base spare held fuel t cs=some x→
 ∃ts,M2 P t ts∧iV w ts cs∧ts.length=P.cellsOf t:=by
 intro fuel
 induction fuel with
 |zero=>intro t cs x _ h;simp [DataW.trod] at h
 |succ n ih=>
  intro t cs x ht h
  have hcl:=List.all_eq_true.1 hS t ht
  cases hu:P.underlying t with
  |none=>simp [hu] at hcl
  |some d=>
   simp only [hu] at hcl
   cases d with
   |bool=>
    obtain⟨b,rfl,-⟩: ∃b,cs= [.bool b]∧True:=by
     unfold DataW.trod at h
     rw [hu] at h
     split at h<;>simp_all
    exact⟨_,.bool (b:=b) hu,⟨.leaf trivial,trivial⟩,by simpa using(beq_iff_eq.1 hcl).symm⟩
   |int k=>
    obtain⟨m,rfl,-,hw⟩:=DataW.trod_int hu h
    exact⟨_,.int hu hw,⟨.leaf hw,trivial⟩,by simpa using(beq_iff_eq.1 hcl).symm⟩
   |string=>
    obtain⟨s,rfl,-,hw⟩:=DataW.trod_string hu h
    exact⟨_,.str hu hw,⟨.leaf hw,trivial⟩,by simpa using(beq_iff_eq.1 hcl).symm⟩
   |slice e=>
    simp only [Bool.and_eq_true,List.contains_iff_mem,decide_eq_true_eq] at hcl
    obtain⟨⟨he,hc1⟩,hpos⟩:=hcl
    have hc1:P.cellsOf t=1:=beq_iff_eq.1 hc1
    rcases DataW.trod_slice hu h with⟨rfl,-⟩|⟨a,len,cap,elems,rest,n',hn,rfl,-,hb,hl,hm,hlen,hel,-,-⟩
    ·exact⟨_,.slice (es:= []) hu (by simp),⟨M1.row (w:=w) (sz:=P.cellsOf e) (es:= []) (a:=none) (cap:=0) (fun _ _=>undef) (by simp) (by unfold maxLen;omega) (by simp) (by simp),trivial⟩,by simp [hc1]⟩
    ·obtain rfl:n=n':=by omega
     have key: ∀i,i<len→ ∃cs' ts,w.cells? base (a.add (i*P.cellsOf e)) (P.cellsOf e)=some cs'∧M2 P e ts∧iV w ts cs'∧ts.length=P.cellsOf e:=by
      intro i hi
      have h1:=hel i hi
      rw [List.getElem?_eq_getElem (by omega)] at h1
      obtain⟨cs',h2,h3⟩:=Option.bind_eq_some_iff.1 h1
      obtain⟨ts,h4,h5,h6⟩:=ih e cs' _ he h3
      exact⟨cs',ts,h2,h4,h5,h6⟩
     obtain⟨D,hD⟩:=choose_lt (α:=Z Value×Z Tr) (p:=fun i x=>w.cells? base (a.add (i*P.cellsOf e)) (P.cellsOf e)=some x.1∧M2 P e x.2∧iV w x.2 x.1∧x.2.length=P.cellsOf e)
      (fun i hi=>by obtain⟨c,t,h⟩:=key i hi;exact⟨(c,t),h⟩)
     have hes:((List.range len).map fun i=>(D i).2).length=len:=by simp
     have hget: ∀i e',((List.range len).map fun i=>(D i).2)[i]?=some e'→i<len∧e'=(D i).2:=by
      intro i e' h
      rw [List.getElem?_map] at h
      have hi:i<len:=by
       rcases Nat.lt_or_ge i len with h1|h1
       ·exact h1
       ·rw [List.getElem?_eq_none (by simpa using h1)] at h;simp at h
      rw [List.getElem?_range hi] at h
      simp at h
      exact⟨hi,h.symm⟩
     refine⟨_,.slice (es:=(List.range len).map fun i=>(D i).2) hu ?_,⟨?_,trivial⟩,by simp [hc1]⟩
     ·intro x hx
      obtain⟨i,hi,rfl⟩:=List.mem_map.1 hx
      exact(hD i (List.mem_range.1 hi)).2.1
     ·have hrep:M1 w (.row (P.cellsOf e) ((List.range len).map fun i=>(D i).2)) (.slice (some a) ((List.range len).map fun i=>(D i).2).length cap):=by
       refine M1.row (fun i j=>(D i).1.getD j undef) (by rw [hes];exact hl) hm ?_ ?_
       ·intro hne
        have hcell: ∀i,i<len→ ∀j d,(D i).2[j]?=some d→ ∃v,(D i).1[j]?=some v∧w.cell? ((a.add (i*P.cellsOf e)).add j)=some v:=by
         intro i hi j d hd
         obtain⟨v,hv,-⟩:=(hD i hi).2.2.1.get hd
         obtain⟨-,hl2,hc2⟩:=World.cells?_some (hD i hi).1
         have hj:j<P.cellsOf e:=by
          have:=(List.getElem?_eq_some_iff.1 hv).1
          omega
         exact⟨v,hv,(hc2 j hj).trans hv⟩
        have h0:0<len:=by
         rcases Nat.eq_zero_or_pos len with h0|h0
         ·subst h0;simp at hne
         ·exact h0
        have hd0:(D 0).2[0]?=some ((D 0).2[0]'(by rw [(hD 0 h0).2.2.2];exact hpos)):=List.getElem?_eq_getElem _
        obtain⟨v0,-,hv0⟩:=hcell 0 h0 0 _ hd0
        simp only [Nat.zero_mul,Addr.add,if_true] at hv0
        have hspot:=World.cell?_spot hv0
        have hblk:a.block<w.heap.size:=by
         rcases Nat.lt_or_ge a.block w.heap.size with h1|h1
         ·exact h1
         ·simp [World.cell?,Array.getElem?_eq_none h1] at hv0
        obtain⟨ab,ao,asp⟩:=a
        have hspot:asp=none:=hspot
        subst hspot
        refine⟨ab,ao,rfl,hblk,?_⟩
        intro i e' he' j d hd
        obtain⟨hi,rfl⟩:=hget i e' he'
        obtain⟨v,hv,hc3⟩:=hcell i hi j d hd
        rw [add_plain,add_plain] at hc3
        simpa [List.getD,hv] using hc3
       ·intro i e' he' j d hd
        obtain⟨hi,rfl⟩:=hget i e' he'
        obtain⟨v,hv,hr⟩:=(hD i hi).2.2.1.get hd
        simpa [List.getD,hv] using hr
      rwa [hes] at hrep
   |struct fs=>
    simp only [Bool.and_eq_true] at hcl
    obtain⟨hmem,hlay⟩:=hcl
    have hlay:yE P 0 fs.toList=some (P.cellsOf t):=by simpa using hlay
    obtain⟨xs,n',hn,-,hlen,hxl,hf⟩:=DataW.trod_struct hu h
    obtain rfl:n=n':=by omega
    have key: ∀i,i<fs.size→ ∃ts,∀f,fs[i]?=some f→M2 P f.type ts∧iV w ts ((cs.drop f.offset).take (P.cellsOf f.type)):=by
     intro i hi
     have hfi:fs[i]?=some fs[i]:=Array.getElem?_eq_getElem hi
     have h1:=hf i fs[i] hfi
     rw [List.getElem?_eq_getElem (by omega)] at h1
     have hm:fs[i].type∈S:=by
      have:=Array.all_eq_true.1 hmem i hi
      simpa using this
     obtain⟨ts,h4,h5,_⟩:=ih fs[i].type _ _ hm h1
     refine⟨ts,fun f hf'=>?_⟩
     rw [hfi] at hf'
     cases hf'
     exact⟨h4,h5⟩
    obtain⟨parts,hp⟩:=choose_lt (α:=Z Tr) key
    have hr:iV w ((List.range' 0 fs.toList.length).flatMap parts) (cs.drop 0):=ajW fs.toList 0 _ parts 0 hlay hlen (fun i f hi=>by
     have hi':fs[i]?=some f:=by simpa using hi
     have hlt:i<fs.size:=(Array.getElem?_eq_some_iff.1 hi').1
     simpa using(hp i hlt f hi').2)
    have hr:iV w ((List.range fs.size).flatMap parts) cs:=by simpa [List.range_eq_range'] using hr
    exact⟨_,.struct parts hu (fun i f hi=>(hp i (Array.getElem?_eq_some_iff.1 hi).1 f hi).1),hr,by rw [hr.length,hlen]⟩
   |_=>simp at hcl
end
section
variable {P:Program}
theorem M2.int_inv{t:TypeId}{ts:Z Tr}{k:IntKind}(h:M2 P t ts)(hu:P.underlying t=some (.int k)): ∃n,ts= [.leaf (.int k n)]:=by
 cases h<;>simp_all
theorem M2.slice_inv{t e:TypeId}{ts:Z Tr}(h:M2 P t ts)(hu:P.underlying t=some (.slice e)): ∃es,ts= [.row (P.cellsOf e) es]∧ ∀x∈es,M2 P e x:=by
 cases h with
 |slice h1 h2=>rw [hu] at h1;cases h1;exact⟨_,rfl,h2⟩
 |_=>simp_all
end
theorem apH{α:Type}{tr:α→Z Tr}: ∀ {es:Z (Z Tr)},(∀e∈es,∃x,e=tr x)→ ∃l:Z α,es=l.map tr
 | [],_=>⟨[],rfl⟩
 |e::es,h=>by
  obtain⟨x,rfl⟩:=h e (by simp)
  obtain⟨l,rfl⟩:=apH (es:=es) fun e he=>h e (by simp [he])
  exact⟨x::l,rfl⟩
inductive D2 (w:World):Tr→Value→(Nat→Prop)→Prop
 |leaf {v:Value} {S:Nat→Prop}:sN v→D2 w (.leaf v) v S
 |row {sz:Nat} {es:List (List Tr)} {a:Option Addr} {cap:Nat} {S:Nat→Prop} (c:Nat→Nat→Value) (T:Nat→Nat→Nat→Prop):es.length≤cap→cap≤maxLen→
  (es≠ []→ ∃b off E arr,a=some ⟨b,off,none⟩∧OB w b E arr∧S b∧(∀i e,es[i]?=some e→ ∀j d,e[j]?=some d→arr[off+i*sz+j]?=some (c i j)∧ ∀x,T i j x→x≠b))→
  (∀i e,es[i]?=some e→ ∀j d,e[j]?=some d→D2 w d (c i j) (T i j))→
  (∀i e,es[i]?=some e→ ∀j d,e[j]?=some d→ ∀x,T i j x→S x)→
  (∀i e,es[i]?=some e→ ∀j d,e[j]?=some d→ ∀i' e',es[i']?=some e'→ ∀j' d',e'[j']?=some d'→(i=i'→j≠j')→ ∀x,T i j x→T i' j' x→False)→
  D2 w (.row sz es) (.slice a es.length cap) S
def BT(w:World)(ts:Z Tr)(vs:Z Value)(S:Nat→Prop):Prop:=
 vs.length=ts.length∧ ∃T:Nat→Nat→Prop,(∀j d,ts[j]?=some d→ ∃v,vs[j]?=some v∧D2 w d v (T j))∧(∀j d,ts[j]?=some d→ ∀x,T j x→S x)∧
  (∀j d,ts[j]?=some d→ ∀j' d',ts[j']?=some d'→j≠j'→ ∀x,T j x→T j' x→False)
theorem D2.rep{w:World}{t:Tr}{v:Value}{S:Nat→Prop}(h:D2 w t v S):M1 w t v:=by
 induction h with
 |leaf h=>exact .leaf h
 |row c T h1 h2 h3 _ _ _ ih=>
  refine .row c h1 h2 (fun hne=>?_) ih
  obtain⟨b,off,E,arr,ha,hb,_,hc⟩:=h3 hne
  exact⟨b,off,ha,hb.lt,fun i e he j d hd=>by rw [hb.cell];exact(hc i e he j d hd).1⟩
theorem D2.keep{w w':World}{t:Tr}{v:Value}{S:Nat→Prop}(h:D2 w t v S)(hx: ∀b,S b→b<w.heap.size→w'.heap[b]?=w.heap[b]?):D2 w' t v S:=by
 induction h with
 |leaf h=>exact .leaf h
 |row c T h1 h2 h3 _ h5 h6 ih=>
  refine .row c T h1 h2 (fun hne=>?_) (fun i e he j d hd=>ih i e he j d hd fun b hb=>hx b (h5 i e he j d hd b hb)) h5 h6
  obtain⟨b,off,E,arr,ha,hb,hs,hc⟩:=h3 hne
  exact⟨b,off,E,arr,ha,(hx b hs hb.lt).trans hb,hs,hc⟩
theorem D2.ext{w w':World}{t:Tr}{v:Value}{S:Nat→Prop}(h:D2 w t v S)(hx:wI w w'):D2 w' t v S:=h.keep fun b _ hb=>hx.block b hb
theorem D2.mono{w:World}{t:Tr}{v:Value}{S S':Nat→Prop}(h:D2 w t v S)(hS: ∀x,S x→S' x):D2 w t v S':=by
 cases h with
 |leaf h=>exact .leaf h
 |row c T h1 h2 h3 h4 h5 h6=>
  refine .row c T h1 h2 (fun hne=>?_) h4 (fun i e he j d hd x hx=>hS x (h5 i e he j d hd x hx)) h6
  obtain⟨b,off,E,arr,ha,hb,hs,hc⟩:=h3 hne
  exact⟨b,off,E,arr,ha,hb,hS b hs,hc⟩
theorem iV.of_get{w:World}: ∀ {ts:Z Tr} {vs:Z Value},vs.length=ts.length→(∀(j:Nat) (d:Tr),ts[j]?=some d→ ∃v,vs[j]?=some v∧M1 w d v)→iV w ts vs
 | [],[],_,_=>trivial
 | [],_::_,h,_=>by simp at h
 |_::_,[],h,_=>by simp at h
 |t::ts,v::vs,h,k=>by
  obtain⟨u,hu,hr⟩:=k 0 t rfl
  simp at hu
  subst hu
  exact⟨hr,iV.of_get (by simpa using h) fun j d hd=>by have:=k (j+1) d (by simpa using hd);simpa using this⟩
theorem BT.rep{w:World}{ts:Z Tr}{vs:Z Value}{S:Nat→Prop}(h:BT w ts vs S):iV w ts vs:=by
 obtain⟨hl,T,h1,_,_⟩:=h
 exact iV.of_get hl fun j d hd=>by obtain⟨v,hv,ho⟩:=h1 j d hd;exact⟨v,hv,ho.rep⟩
theorem BT.keep{w w':World}{ts:Z Tr}{vs:Z Value}{S:Nat→Prop}(h:BT w ts vs S)(hx: ∀b,S b→b<w.heap.size→w'.heap[b]?=w.heap[b]?):BT w' ts vs S:=by
 obtain⟨hl,T,h1,h2,h3⟩:=h
 exact⟨hl,T,fun j d hd=>by obtain⟨v,hv,ho⟩:=h1 j d hd;exact⟨v,hv,ho.keep fun b hb=>hx b (h2 j d hd b hb)⟩,h2,h3⟩
theorem BT.mono{w:World}{ts:Z Tr}{vs:Z Value}{S S':Nat→Prop}(h:BT w ts vs S)(hS: ∀x,S x→S' x):BT w ts vs S':=by
 obtain⟨hl,T,h1,h2,h3⟩:=h
 exact⟨hl,T,h1,fun j d hd x hx=>hS x (h2 j d hd x hx),h3⟩
def QH(w w':World)(x:Nat):Prop:=w.heap.size≤x∧x<w'.heap.size
def ayH(w:World)(B:Nat)(arr:Array Value)(sz:Nat)(es:Z (Z Tr))(k:Nat):Prop:=
 ∃U:Nat→Nat→Prop,(∀i,i<k→ ∀e,es[i]?=some e→BT w e ((arr.toList.drop (i*sz)).take sz) (U i))∧(∀i,i<k→ ∀x,U i x→B<x∧x<w.heap.size)∧
  (∀i,i<k→ ∀i',i'<k→i≠i'→ ∀x,U i x→U i' x→False)
theorem ayH.zero(w:World)(B:Nat)(arr:Array Value)(sz:Nat)(es:Z (Z Tr)):ayH w B arr sz es 0:=⟨fun _ _=>False,by simp,by simp,by simp⟩
def splice(arr:Array Value)(o:Nat)(vs:Z Value):Array Value:=(arr.toList.take o++vs++arr.toList.drop (o+vs.length)).toArray
theorem alK{arr:Array Value}{o:Nat}{vs:Z Value}(h:o+vs.length≤arr.size):(splice arr o vs).size=arr.size:=by
 simp [splice];omega
theorem alJ{arr:Array Value}{o:Nat}{vs:Z Value}(h:o+vs.length≤arr.size):((splice arr o vs).toList.drop o).take vs.length=vs:=by
 have h1:o≤arr.size:=by omega
 simp [splice,List.length_take,Nat.min_eq_left h1]
theorem sN.one{v:Value}(h:sN v):v.oneCell'=true:=by cases v<;>simp_all [sN,Value.oneCell']
theorem M1.one{w:World}{t:Tr}{v:Value}(h:M1 w t v):v.oneCell'=true:=by
 cases h with
 |leaf h=>exact h.one
 |row=>rfl
theorem iV.one{w:World}: ∀ {ts:Z Tr} {vs:Z Value},iV w ts vs→ ∀v∈vs,v.oneCell'=true
 | [],[],_,v,hv=>by simp at hv
 |_::_,_::_,h,v,hv=>by
  rcases List.mem_cons.1 hv with rfl|hv
  ·exact h.1.one
  ·exact iV.one h.2 v hv
theorem t7{P:Program}{ops:Array Oper}{rest:Z Oper}{o:Oper}{a:Act}{w:World}{Q:Exit→Act→World→Prop}(hgd:o.guard=none)(ty:TypeId)(x y:Operand)(ho:o.op= .store ty x y)
 (B off:Nat) (hx:a.eval x= .pointer (some ⟨B,off,none⟩)) (cs:Z Value) (hy:a.eval y= .agg ⟨cs⟩) (T:TypeId) (arr:Array Value) (hob:OB w B T arr) (hi:(P.info? ty).map (·.size)=some cs.length)
 (hfit:off+cs.length≤arr.size) (h1: ∀v∈cs,v.oneCell'=true)
 (h: ∀w',OB w' B T (splice arr off cs)→w.grownBy w' (some B)→w'.heap.size=w.heap.size→wpList P ops Q rest (a.put o.dst undef) w'):wpList P ops Q (o::rest) a w:=
 wpList_plain hgd fun _ hK=>by
  have hst:=run_storeCells_at P B off T cs 0 arr w hob (by simpa using hfit) h1
  cases hq:P.info? ty with
  |none=>simp [hq] at hi
  |some i=>
   have hs:i.size=cs.length:=by simpa [hq] using hi
   have hrun:(storeVar ty ⟨B,off,none⟩ (.agg ⟨cs⟩)).run P w= .ok () (w.setRow B (splice arr off cs)):=by
    simp [storeVar,Go.sizeOf,typeInfo,hq,Value.cells,hs,hst,splice]
   unfold Oper.wp execOp
   simp only [ho,hx,hy,Instr.storeAt,Instr.sureAddr,Sem.run_bind,Sem.run_pure,Result.andThen_ok,hrun]
   exact hK _ _ (h _ (setRow_heap w B arr _ T _ hob) ⟨rfl,rfl,rfl,by simp,fun k _ hk=>setRow_other w B k _ (fun e=>hk (by rw [e]))⟩ (by simp))
structure aBA (w:World) (B0:Nat) (T0:TypeId) (a0:Array Value) (B1:Nat) (T1:TypeId) (a1:Array Value) (B2:Nat) (T2:TypeId) (a2:Array Value):Prop where
 o0:OB w B0 T0 a0
 o1:OB w B1 T1 a1
 o2:OB w B2 T2 a2
theorem TK{a w w':World}{B:Nat}(h:wI a w)(hg:w.grownBy w' (some B))(hB:a.heap.size≤B):wI a w':=Below.grown h hg h.size (by intro k hk;cases hk;exact hB)
theorem JC{arr:Array Value}{vs:Z Value}(h:vs.length=arr.size):splice arr 0 vs=⟨vs⟩:=by
 simp [splice,h]
theorem BT.nil(w:World)(S:Nat→Prop):BT w [] [] S:=⟨rfl,fun _ _=>False,by simp,by simp,by simp⟩
theorem YM{w:World}{ts:Z Tr}{vs:Z Value}{S:Nat→Prop}{v:Value}(hv:sN v)(h:BT w ts vs S):BT w (.leaf v::ts) (v::vs) S:=by
 obtain⟨hl,T,h1,h2,h3⟩:=h
 refine⟨by simp [hl],fun j=>match j with|0=>fun _=>False|j+1=>T j,?_,?_,?_⟩
 ·intro j d hd
  cases j with
  |zero=>simp at hd;subst hd;exact⟨v,rfl,.leaf hv⟩
  |succ j=>exact h1 j d (by simpa using hd)
 ·intro j d hd x hx
  cases j with
  |zero=>exact hx.elim
  |succ j=>exact h2 j d (by simpa using hd) x hx
 ·intro j d hd j' d' hd' hne x hx hx'
  cases j with
  |zero=>exact hx.elim
  |succ j=>
   cases j' with
   |zero=>exact hx'.elim
   |succ j'=>exact h3 j d (by simpa using hd) j' d' (by simpa using hd') (by omega) x hx hx'
structure Two (w:World) (B0:Nat) (T0:TypeId) (a0:Array Value) (B1:Nat) (T1:TypeId) (a1:Array Value):Prop where
 o0:OB w B0 T0 a0
 o1:OB w B1 T1 a1
theorem Two.new(w:World)(T0 T1:TypeId)(a0 a1:Array Value):Two ((w.alloc (.cells a0 T0)).alloc (.cells a1 T1)) w.heap.size T0 a0 (w.heap.size+1) T1 a1:=by
 refine⟨(OB.new w T0 a0).ext (.alloc (.refl _) _),?_⟩
 have:=OB.new (w.alloc (.cells a0 T0)) T1 a1
 simpa using this
theorem OB.cells0{w:World}{B:Nat}{T:TypeId}{cs:Z Value}(h:OB w B T ⟨cs⟩): ∀(j:Nat) (v:Value),cs[j]?=some v→w.cell? ⟨B,0+j,none⟩=some v:=fun j v hv=>by
 rw [h.cell,Nat.zero_add];simpa using hv
theorem jF{P:Program}{f:FuncId}{fn:Func}(hf:P.funcs[f]?=some fn)(hname:(fn.name== "runtime.NumGoroutine")=false)(hb:fn.body.isNone=false)(args:Array Value)(w:World):
 (callFunc f args).run P w= .ok (.enter f args) w:=by
 have h1: ¬(fn.name== "runtime.NumGoroutine")=true:=by simp [hname]
 have h2: ¬fn.body.isNone=true:=by simp [hb]
 unfold callFunc
 rw [Sem.run_bind]
 show Result.andThen (Result.ok P w) _=_
 rw [Result.andThen_ok,hf]
 simp only [h1,h2]
 rfl
theorem aiL{w:World}{cs:Z Value}(h:iV w [] cs):cs= []:=by cases cs with|nil=>rfl|cons=>exact h.elim
theorem WR(a b:Z Tr):aX (a++b)=aX a+aX b:=by
 induction a with
 |nil=>simp [aX]
 |cons t a ih=>simp [aX,ih];omega
theorem ayS{α:Type}{l:Z α}(h:l.length=1): ∃a0:α,l= [a0]:=by
 match l,h with
 | [a0],_=>exact⟨a0,rfl⟩
theorem ayT{α:Type}{l:Z α}(h:l.length=4): ∃a0 a1 a2 a3:α,l= [a0,a1,a2,a3]:=by
 match l,h with
 | [a0,a1,a2,a3],_=>exact⟨a0,a1,a2,a3,rfl⟩
theorem atO{α:Type}{l:Z α}(h:l.length=12): ∃a0 a1 a2 a3 a4 a5 a6 a7 a8 a9 a10 a11:α,l= [a0,a1,a2,a3,a4,a5,a6,a7,a8,a9,a10,a11]:=by
 match l,h with
 | [a0,a1,a2,a3,a4,a5,a6,a7,a8,a9,a10,a11],_=>exact⟨a0,a1,a2,a3,a4,a5,a6,a7,a8,a9,a10,a11,rfl⟩
inductive PV where
 |t (t:Tr)
 |agg (cs:List PV)
 |tup (vs:List PV)
 |nil
 |acc (sz:Nat) (es:List (List Tr)) (r:Nat)
 |ptr (k off:Nat)
 |eptr (cs:List Tr)
 |fn (f:FuncId) (caps:List PV)
 |full (sz n r:Nat)
 |rptr (r i:Nat)
 |lit (sz:Nat) (es:List (List Tr))
 |bsl (k n:Nat)
 |gsl (k n:Nat)
structure dO where
 ty:TypeId
 cells:List PV
structure mV where
 E:TypeId
 sz:Nat
 es:List (List Tr)
 whole:Bool
structure dL where
 boxes:List (Option dO)
 rows:List mV
structure kQ where
 ρ:Nat→Nat
 γ:Nat→Option (Nat×Nat)
def dL.ok(st:dL)(m:kQ)(b o:Nat):Prop:=
 (∀k x,st.boxes[k]?=some (some x)→m.ρ k≠b)∧(∀r row g c,st.rows[r]?=some row→m.γ r=some (g,c)→g=b→o<row.es.length*row.sz)
def OBp(w:World)(b:Nat)(T:TypeId)(vs:Z Value):Prop:= ∃rest:Z Value,OB w b T ⟨vs++rest⟩
theorem OBp.of{w:World}{b:Nat}{T:TypeId}{vs:Z Value}(h:OB w b T ⟨vs⟩):OBp w b T vs:=⟨[],by rw [List.append_nil];exact h⟩
theorem OBp.lt{w:World}{b:Nat}{T:TypeId}{vs:Z Value}(h:OBp w b T vs):b<w.heap.size:=by
 obtain⟨_,h⟩:=h
 exact h.lt
theorem OBp.keep{w w':World}{b:Nat}{T:TypeId}{vs:Z Value}(h:OBp w b T vs)(k:w'.heap[b]?=w.heap[b]?):OBp w' b T vs:=by
 obtain⟨r,h⟩:=h
 exact⟨r,k.trans h⟩
theorem OBp.ext{w w':World}{b:Nat}{T:TypeId}{vs:Z Value}(h:OBp w b T vs)(hx:wI w w'):OBp w' b T vs:=h.keep (hx.block _ h.lt)
theorem OBp.cell{w:World}{b:Nat}{T:TypeId}{vs:Z Value}(h:OBp w b T vs){j:Nat}{v:Value}(hj:vs[j]?=some v):w.cell? ⟨b,j,none⟩=some v:=by
 obtain⟨r,h⟩:=h
 rw [h.cell]
 have:=(List.getElem?_eq_some_iff.1 hj).1
 simp only [List.getElem?_toArray]
 rw [List.getElem?_append_left this]
 exact hj
def kV(av:Nat→Nat→Prop)(st:dL)(m:kQ)(b o:Nat):Prop:= ¬av b o∧st.ok m b o
inductive cH (ok:Nat→Nat→Prop) (w:World):Tr→Value→Prop
 |leaf {v:Value}:sN v→cH ok w (.leaf v) v
 |row {sz:Nat} {es:List (List Tr)} {a:Option Addr} {cap:Nat} (c:Nat→Nat→Value):es.length≤cap→cap≤maxLen→
  (es≠ []→ ∃b off,a=some ⟨b,off,none⟩∧b<w.heap.size∧ ∀i e,es[i]?=some e→ ∀j d,e[j]?=some d→ok b (off+i*sz+j)∧w.cell? ⟨b,off+i*sz+j,none⟩=some (c i j))→
  (∀i e,es[i]?=some e→ ∀j d,e[j]?=some d→cH ok w d (c i j))→cH ok w (.row sz es) (.slice a es.length cap)
theorem cH.mono{ok ok':Nat→Nat→Prop}{w w':World}{t:Tr}{v:Value}(h:cH ok w t v)(hz:w.heap.size≤w'.heap.size)(hk: ∀b o,b<w.heap.size→ok b o→ok' b o)
 (hc: ∀b o,b<w.heap.size→ok b o→w'.cell? ⟨b,o,none⟩=w.cell? ⟨b,o,none⟩):cH ok' w' t v:=by
 induction h with
 |leaf h=>exact .leaf h
 |row c h1 h2 h3 _ ih=>
  refine .row c h1 h2 (fun hne=>?_) ih
  obtain⟨b,off,ha,hb,h4⟩:=h3 hne
  exact⟨b,off,ha,Nat.lt_of_lt_of_le hb hz,fun i e he j d hd=>⟨hk _ _ hb (h4 i e he j d hd).1,(hc _ _ hb (h4 i e he j d hd).1).trans (h4 i e he j d hd).2⟩⟩
theorem cH.rep{ok:Nat→Nat→Prop}{w:World}{t:Tr}{v:Value}(h:cH ok w t v):M1 w t v:=by
 induction h with
 |leaf h=>exact .leaf h
 |row c h1 h2 h3 _ ih=>
  refine .row c h1 h2 (fun hne=>?_) ih
  obtain⟨b,off,ha,hb,h4⟩:=h3 hne
  exact⟨b,off,ha,hb,fun i e he j d hd=>(h4 i e he j d hd).2⟩
theorem M1.repM{ok:Nat→Nat→Prop}{w:World}{t:Tr}{v:Value}(h:M1 w t v)(hk: ∀b o,b<w.heap.size→ok b o):cH ok w t v:=by
 induction h with
 |leaf h=>exact .leaf h
 |row c h1 h2 h3 _ ih=>
  refine .row c h1 h2 (fun hne=>?_) ih
  obtain⟨b,off,ha,hb,h4⟩:=h3 hne
  exact⟨b,off,ha,hb,fun i e he j d hd=>⟨hk _ _ hb,h4 i e he j d hd⟩⟩
theorem cH.shape{ok:Nat→Nat→Prop}{w:World}{sz:Nat}{es:Z (Z Tr)}{v:Value}(h:cH ok w (.row sz es) v): ∃a cap,v= .slice a es.length cap∧es.length≤cap∧cap≤maxLen:=h.rep.shape
theorem cH.leaf_eq{ok:Nat→Nat→Prop}{w:World}{v u:Value}(h:cH ok w (.leaf v) u):u=v∧sN v:=h.rep.leaf_eq
def Z5:J (Nat×Nat)→Nat→Value
 |none,_=> .slice none 0 0
 |some (g,c),n=> .slice (some ⟨g,0,none⟩) n c
mutual
def RV(ok:Nat→Nat→Prop)(st:dL)(m:kQ)(w:World):PV→Value→Prop
 | .t t,v=>cH ok w t v
 | .agg cs,v=> ∃vs,v= .agg ⟨vs⟩∧iM ok st m w cs vs
 | .tup cs,v=> ∃vs,v= .tuple ⟨vs⟩∧iM ok st m w cs vs
 | .nil,v=>v= .slice none 0 0
 | .acc sz es r,v=> ∃row,st.rows[r]?=some row∧row.sz=sz∧es.length≤row.es.length∧cH ok w (.row sz es) v∧(es.length=row.es.length→v=Z5 (m.γ r) es.length)
 | .ptr k off,v=>(∃x,st.boxes[k]?=some (some x))∧v= .pointer (some ⟨m.ρ k,off,none⟩)
 | .eptr cs,v=> ∃b off,v= .pointer (some ⟨b,off,none⟩)∧b<w.heap.size∧ ∃c:Nat→Value,∀j d,cs[j]?=some d→ok b (off+j)∧w.cell? ⟨b,off+j,none⟩=some (c j)∧cH ok w d (c j)
 | .fn f caps,v=> ∃vs,v= .func (.func f) #[] ⟨vs⟩∧iM ok st m w caps vs
 | .full sz n r,v=> ∃row g,st.rows[r]?=some row∧row.sz=sz∧row.whole=true∧m.γ r=some (g,n)∧v= .slice (some ⟨g,0,none⟩) n n
 | .rptr r i,v=> ∃row g n,st.rows[r]?=some row∧row.whole=true∧m.γ r=some (g,n)∧v= .pointer (some ⟨g,i*row.sz,none⟩)
 | .lit sz es,v=>cH ok w (.row sz es) v∧ ∃a,v= .slice a es.length es.length
 | .bsl k n,v=>(∃x,st.boxes[k]?=some (some x))∧v= .slice (some ⟨m.ρ k,0,none⟩) n n
 | .gsl k n,v=>(∃x,st.boxes[k]?=some (some x))∧ ∃c,n≤c∧c≤maxLen∧v= .slice (some ⟨m.ρ k,0,none⟩) n c
def iM(ok:Nat→Nat→Prop)(st:dL)(m:kQ)(w:World):Z PV→Z Value→Prop
 | [],[]=>True
 |p::ps,v::vs=>RV ok st m w p v∧iM ok st m w ps vs
 |_,_=>False
end
def ayI(ok:Nat→Nat→Prop)(m:kQ)(w:World)(r:Nat)(row:mV):Prop:=
 0<row.sz∧(∀e∈row.es,e.length=row.sz)∧((m.γ r=none∧row.es= [])∨ ∃g c cur,m.γ r=some (g,c)∧OB w g row.E cur∧cur.size=c*row.sz∧row.es.length≤c∧c≤maxLen∧cH ok w (.row row.sz row.es) (.slice (some ⟨g,0,none⟩) row.es.length c))
structure fY (av:Nat→Nat→Prop) (st:dL) (m:kQ) (w:World):Prop where
 box: ∀k x,st.boxes[k]?=some (some x)→ ∃vs,OBp w (m.ρ k) x.ty vs∧iM (kV av st m) st m w x.cells vs
 binj: ∀k k' x x',st.boxes[k]?=some (some x)→st.boxes[k']?=some (some x')→k≠k'→m.ρ k≠m.ρ k'
 row: ∀r row,st.rows[r]?=some row→ayI (kV av st m) m w r row
 rinj: ∀r r' row row' g c c',st.rows[r]?=some row→st.rows[r']?=some row'→m.γ r=some (g,c)→m.γ r'=some (g,c')→r=r'
 br: ∀k x r row g c,st.boxes[k]?=some (some x)→st.rows[r]?=some row→m.γ r=some (g,c)→m.ρ k≠g
 avlt: ∀b o,av b o→b<w.heap.size
 avr: ∀r row g c,st.rows[r]?=some row→m.γ r=some (g,c)→ ∀o,¬av g o
 avb: ∀k x,st.boxes[k]?=some (some x)→ ∀o,¬av (m.ρ k) o
structure Ev (st:dL) (m:kQ) (w:World) (st':dL) (m':kQ) (w':World):Prop where
 os:w'.os=w.os
 tape:w'.tape=w.tape
 output:w'.output=w.output
 size:w.heap.size≤w'.heap.size
 blk: ∀b,b<w.heap.size→(∀k x,st.boxes[k]?=some (some x)→m.ρ k≠b)→(∀r row g c,st.rows[r]?=some row→m.γ r=some (g,c)→g≠b)→w'.heap[b]?=w.heap[b]?
 cell: ∀b o,b<w.heap.size→st.ok m b o→w'.cell? ⟨b,o,none⟩=w.cell? ⟨b,o,none⟩
 okk: ∀b o,b<w.heap.size→st.ok m b o→st'.ok m' b o
 live: ∀k x,st.boxes[k]?=some (some x)→(∃x',st'.boxes[k]?=some (some x'))∧m'.ρ k=m.ρ k
 fresh: ∀k x',st'.boxes[k]?=some (some x')→(∃x,st.boxes[k]?=some (some x))∨w.heap.size≤m'.ρ k
 rowl: ∀r row,st.rows[r]?=some row→ ∃row',st'.rows[r]?=some row'∧row'.sz=row.sz∧row.es.length≤row'.es.length∧(row.es.length=row'.es.length→m'.γ r=m.γ r)∧(row.whole=true→row'.whole=true∧m'.γ r=m.γ r)
 rfresh: ∀r row' g c,st'.rows[r]?=some row'→m'.γ r=some (g,c)→(∃row c0,st.rows[r]?=some row∧m.γ r=some (g,c0))∨w.heap.size≤g
theorem Ev.refl(st:dL)(m:kQ)(w:World):Ev st m w st m w:=
 ⟨rfl,rfl,rfl,Nat.le_refl _,fun _ _ _ _=>rfl,fun _ _ _ _=>rfl,fun _ _ _ h=>h,fun _ x h=>⟨⟨x,h⟩,rfl⟩,fun _ x h=> .inl ⟨x,h⟩,fun _ row h=>⟨row,h,rfl,Nat.le_refl _,fun _=>rfl,fun h=>⟨h,rfl⟩⟩,fun _ row _ c h h'=> .inl ⟨row,c,h,h'⟩⟩
theorem Ev.trans{st st1 st2:dL}{m m1 m2:kQ}{w w1 w2:World}(h:Ev st m w st1 m1 w1)(k:Ev st1 m1 w1 st2 m2 w2):Ev st m w st2 m2 w2 where
 os:=k.os.trans h.os
 tape:=k.tape.trans h.tape
 output:=k.output.trans h.output
 size:=Nat.le_trans h.size k.size
 blk:=fun b hb h1 h2=>(k.blk b (Nat.lt_of_lt_of_le hb h.size) (fun i x' hx'=>by
  rcases h.fresh i x' hx' with⟨x,hx⟩|hf
  ·rw [(h.live i x hx).2];exact h1 i x hx
  ·omega) (fun r row' g c hr hg=>by
  rcases h.rfresh r row' g c hr hg with⟨row,c0,hr0,hg0⟩|hf
  ·exact h2 r row g c0 hr0 hg0
  ·omega)).trans (h.blk b hb h1 h2)
 cell:=fun b o hb hk=>(k.cell b o (Nat.lt_of_lt_of_le hb h.size) (h.okk b o hb hk)).trans (h.cell b o hb hk)
 okk:=fun b o hb hk=>k.okk b o (Nat.lt_of_lt_of_le hb h.size) (h.okk b o hb hk)
 live:=fun i x hx=>by
  obtain⟨⟨x1,hx1⟩,e1⟩:=h.live i x hx
  obtain⟨hx2,e2⟩:=k.live i x1 hx1
  exact⟨hx2,e2.trans e1⟩
 fresh:=fun i x' hx'=>by
  rcases k.fresh i x' hx' with⟨x1,hx1⟩|hf
  ·rcases h.fresh i x1 hx1 with hx|hf
   ·exact .inl hx
   ·exact .inr (by rw [(k.live i x1 hx1).2];exact hf)
  ·exact .inr (Nat.le_trans h.size hf)
 rowl:=fun r row hr=>by
  obtain⟨row1,hr1,s1,l1,g1,f1⟩:=h.rowl r row hr
  obtain⟨row2,hr2,s2,l2,g2,f2⟩:=k.rowl r row1 hr1
  refine⟨row2,hr2,s2.trans s1,Nat.le_trans l1 l2,fun he=>?_,fun hf=>?_⟩
  ·rw [g2 (by omega),g1 (by omega)]
  ·obtain⟨a1,a2⟩:=f1 hf
   obtain⟨b1,b2⟩:=f2 a1
   exact⟨b1,b2.trans a2⟩
 rfresh:=fun r row' g c hr hg=>by
  rcases k.rfresh r row' g c hr hg with⟨row1,c1,hr1,hg1⟩|hf
  ·exact h.rfresh r row1 g c1 hr1 hg1
  ·exact .inr (Nat.le_trans h.size hf)
mutual
theorem RV.mono{av:Nat→Nat→Prop}{st st':dL}{m m':kQ}{w w':World}(h:Ev st m w st' m' w'): ∀(p:PV) (v:Value),RV (kV av st m) st m w p v→RV (kV av st' m') st' m' w' p v
 | .t t,v,hr=>cH.mono hr h.size (fun b o hb hk=>⟨hk.1,h.okk b o hb hk.2⟩) (fun b o hb hk=>h.cell b o hb hk.2)
 | .agg cs,v,hr=>by
  obtain⟨vs,rfl,hl⟩:=hr
  exact⟨vs,rfl,iM.mono h cs vs hl⟩
 | .tup cs,v,hr=>by
  obtain⟨vs,rfl,hl⟩:=hr
  exact⟨vs,rfl,iM.mono h cs vs hl⟩
 | .nil,v,hr=>hr
 | .acc sz es r,v,hr=>by
  obtain⟨row,h1,h2,h3,h4,h5⟩:=hr
  obtain⟨row',k1,k2,k3,k4,-⟩:=h.rowl r row h1
  exact⟨row',k1,k2.trans h2,Nat.le_trans h3 k3,cH.mono h4 h.size (fun b o hb hk=>⟨hk.1,h.okk b o hb hk.2⟩) (fun b o hb hk=>h.cell b o hb hk.2),fun he=>by rw [k4 (by omega)];exact h5 (by omega)⟩
 | .ptr k off,v,hr=>by
  obtain⟨⟨x,hx⟩,hv⟩:=hr
  obtain⟨h1,h2⟩:=h.live k x hx
  exact⟨h1,by rw [h2];exact hv⟩
 | .eptr cs,v,hr=>by
  obtain⟨b,off,h1,hb,c,h2⟩:=hr
  refine⟨b,off,h1,Nat.lt_of_lt_of_le hb h.size,c,fun j d hd=>?_⟩
  obtain⟨k1,k2,k3⟩:=h2 j d hd
  exact⟨⟨k1.1,h.okk _ _ hb k1.2⟩,(h.cell _ _ hb k1.2).trans k2,cH.mono k3 h.size (fun b o hb hk=>⟨hk.1,h.okk b o hb hk.2⟩) (fun b o hb hk=>h.cell b o hb hk.2)⟩
 | .fn f caps,v,hr=>by
  obtain⟨vs,rfl,hl⟩:=hr
  exact⟨vs,rfl,iM.mono h caps vs hl⟩
 | .full sz n r,v,hr=>by
  obtain⟨row,g,h1,h2,h3,h4,h5⟩:=hr
  obtain⟨row',k1,k2,-,-,k5⟩:=h.rowl r row h1
  exact⟨row',g,k1,k2.trans h2,(k5 h3).1,by rw [(k5 h3).2];exact h4,h5⟩
 | .rptr r i,v,hr=>by
  obtain⟨row,g,n,h1,h3,h4,h5⟩:=hr
  obtain⟨row',k1,k2,-,-,k5⟩:=h.rowl r row h1
  exact⟨row',g,n,k1,(k5 h3).1,by rw [(k5 h3).2];exact h4,by rw [k2];exact h5⟩
 | .lit sz es,v,hr=>⟨cH.mono hr.1 h.size (fun b o hb hk=>⟨hk.1,h.okk b o hb hk.2⟩) (fun b o hb hk=>h.cell b o hb hk.2),hr.2⟩
 | .bsl k n,v,hr=>by
  obtain⟨⟨x,hx⟩,hv⟩:=hr
  obtain⟨h1,h2⟩:=h.live k x hx
  exact⟨h1,by rw [h2];exact hv⟩
 | .gsl k n,v,hr=>by
  obtain⟨⟨x,hx⟩,c,hc,hm,hv⟩:=hr
  obtain⟨h1,h2⟩:=h.live k x hx
  exact⟨h1,c,hc,hm,by rw [h2];exact hv⟩
theorem iM.mono{av:Nat→Nat→Prop}{st st':dL}{m m':kQ}{w w':World}(h:Ev st m w st' m' w'): ∀(ps:Z PV) (vs:Z Value),iM (kV av st m) st m w ps vs→iM (kV av st' m') st' m' w' ps vs
 | [],[],hr=>hr
 |p::ps,v::vs,hr=>⟨RV.mono h p v hr.1,iM.mono h ps vs hr.2⟩
 | [],_::_,hr=>hr.elim
 |_::_,[],hr=>hr.elim
end
theorem iM.length{ok:Nat→Nat→Prop}{st:dL}{m:kQ}{w:World}: ∀ {ps:Z PV} {vs:Z Value},iM ok st m w ps vs→ps.length=vs.length
 | [],[],_=>rfl
 |_::_,_::_,h=>by simp [iM.length h.2]
 | [],_::_,h=>h.elim
 |_::_,[],h=>h.elim
theorem iM.get{ok:Nat→Nat→Prop}{st:dL}{m:kQ}{w:World}: ∀ {ps:Z PV} {vs:Z Value} {j:Nat} {p:PV},iM ok st m w ps vs→ps[j]?=some p→ ∃v,vs[j]?=some v∧RV ok st m w p v
 | [],[],_,_,_,hp=>by simp at hp
 |p::ps,v::vs,0,q,h,hp=>by simp at hp;subst hp;exact⟨v,rfl,h.1⟩
 |p::ps,v::vs,j+1,q,h,hp=>by simpa using iM.get (j:=j) h.2 (by simpa using hp)
 | [],_::_,_,_,h,_=>h.elim
 |_::_,[],_,_,h,_=>h.elim
theorem iM.take{ok:Nat→Nat→Prop}{st:dL}{m:kQ}{w:World}: ∀ {ps:Z PV} {vs:Z Value} (n:Nat),iM ok st m w ps vs→iM ok st m w (ps.take n) (vs.take n)
 | [],[],n,_=>by simp [iM]
 |p::ps,v::vs,0,_=>by simp [iM]
 |p::ps,v::vs,n+1,h=>⟨h.1,iM.take n h.2⟩
 | [],_::_,_,h=>h.elim
 |_::_,[],_,h=>h.elim
theorem iM.drop{ok:Nat→Nat→Prop}{st:dL}{m:kQ}{w:World}: ∀ {ps:Z PV} {vs:Z Value} (n:Nat),iM ok st m w ps vs→iM ok st m w (ps.drop n) (vs.drop n)
 | [],[],n,_=>by simp [iM]
 |p::ps,v::vs,0,h=>h
 |p::ps,v::vs,n+1,h=>iM.drop (ps:=ps) (vs:=vs) n h.2
 | [],_::_,_,h=>h.elim
 |_::_,[],_,h=>h.elim
theorem iM.append{ok:Nat→Nat→Prop}{st:dL}{m:kQ}{w:World}: ∀ {ps qs:Z PV} {vs us:Z Value},iM ok st m w ps vs→iM ok st m w qs us→iM ok st m w (ps++qs) (vs++us)
 | [],_,[],_,_,k=>k
 |p::ps,_,v::vs,_,h,k=>⟨h.1,iM.append h.2 k⟩
 | [],_,_::_,_,h,_=>h.elim
 |_::_,_,[],_,h,_=>h.elim
theorem QO{ok:Nat→Nat→Prop}{st:dL}{m:kQ}{w:World}: ∀ {ts:Z Tr} {vs:Z Value},iM ok st m w (ts.map PV.t) vs→iV w ts vs
 | [],[],_=>trivial
 |_::_,_::_,h=>⟨cH.rep h.1,QO h.2⟩
 | [],_::_,h=>h.elim
 |_::_,[],h=>h.elim
theorem iV.toRVL{ok:Nat→Nat→Prop}{st:dL}{m:kQ}{w:World}(hk: ∀b o,b<w.heap.size→ok b o): ∀ {ts:Z Tr} {vs:Z Value},iV w ts vs→iM ok st m w (ts.map PV.t) vs
 | [],[],_=>trivial
 |_::_,_::_,h=>⟨h.1.repM hk,iV.toRVL hk h.2⟩
 | [],_::_,h=>h.elim
 |_::_,[],h=>h.elim
structure AS where
 env:List (Nat×PV)
 st:dL
def AS.lk(s:AS)(i:Nat):J PV:=s.env.lookup i
def AS.put(s:AS)(d:Nat)(p:PV):AS:=⟨(d,p)::s.env,s.st⟩
def AS.putO(s:AS):J Nat→PV→AS
 |none,_=>s
 |some d,p=>s.put d p
def AS.delO(s:AS):J Nat→AS
 |none=>s
 |some d=>⟨s.env.filter (fun x=>x.1 !=d),s.st⟩
def H4:Value→J PV
 | .int k n=>if(Lit.int k n).wf then some (.t (.leaf (.int k n))) else none
 | .bool b=>some (.t (.leaf (.bool b)))
 | .string s=>if s.size≤maxLen then some (.t (.leaf (.string s))) else none
 | .slice none 0 0=>some .nil
 |_=>none
def AS.ev(s:AS):Operand→J PV
 | .tmp i=>s.lk i
 | .const v=>H4 v
 | .global _=>none
 | .func f=>some (.fn f [])
structure qT where
 av:Nat→Nat→Prop
 st:dL
 m:kQ
 w:World
structure RA (C:qT) (n:Nat) (s:AS) (m:kQ) (a:Act) (w:World):Prop where
 dfr:a.defers= []
 tsz:a.tmps.size=n
 sto:fY C.av s.st m w
 env: ∀i p,s.lk i=some p→ ∃v,a.tmps[i]?=some v∧RV (kV C.av s.st m) s.st m w p v
 ev:Ev C.st C.m C.w s.st m w
theorem YW{ok:Nat→Nat→Prop}{st:dL}{m:kQ}{w:World}{v:Value}{p:PV}(h:H4 v=some p):RV ok st m w p v:=by
 unfold H4 at h
 split at h
 ·split at h
  ·rename_i hw
   cases h
   exact cH.leaf hw
  ·cases h
 ·cases h
  exact cH.leaf trivial
 ·split at h
  ·rename_i hw
   cases h
   exact cH.leaf hw
  ·cases h
 ·cases h
  rfl
 ·cases h
section
variable {C:qT} {n:Nat} {s:AS} {m:kQ} {a:Act} {w:World}
theorem RA.eval(h:RA C n s m a w){x:Operand}{p:PV}(hx:s.ev x=some p):RV (kV C.av s.st m) s.st m w p (a.eval x):=by
 cases x with
 |tmp i=>
  obtain⟨v,hv,hr⟩:=h.env i p hx
  simpa [Act.eval,Array.getD_eq_getD_getElem?,hv] using hr
 |const v=>exact YW hx
 |global g=>cases hx
 |func f=>
  cases hx
  exact⟨[],rfl,trivial⟩
theorem CE(s:AS)(d i:Nat)(p:PV):(s.put d p).lk i=if i=d then some p else s.lk i:=by
 unfold AS.lk AS.put
 rw [List.lookup_cons]
 by_cases h:i=d
 ·simp [h]
 ·rw [if_neg h,show(i==d)=false by simp [h]]
theorem RA.put(h:RA C n s m a w){d:J Nat}{p:PV}{v:Value}(hd: ∀x,d=some x→x<n)(hr:RV (kV C.av s.st m) s.st m w p v):RA C n (s.putO d p) m (a.put d v) w:=by
 cases d with
 |none=>exact h
 |some d=>
  refine⟨h.dfr,by simp [Act.put,h.tsz],h.sto,fun i q hq=>?_,h.ev⟩
  have hq':(s.put d p).lk i=some q:=hq
  rw [CE] at hq'
  have hdn:=hd d rfl
  by_cases hi:i=d
  ·rw [if_pos hi] at hq'
   cases hq'
   subst hi
   exact⟨v,by simp [Act.put,h.tsz,hdn],hr⟩
  ·rw [if_neg hi] at hq'
   obtain⟨u,hu,hru⟩:=h.env i q hq'
   exact⟨u,by simp only [Act.put];rw [Array.getElem?_setIfInBounds_ne (fun e=>hi e.symm)];exact hu,hru⟩
theorem yF{d i:Nat}{q:PV}: ∀(l:Z (Nat×PV)),(l.filter (fun x=>x.1 !=d)).lookup i=some q→i≠d∧l.lookup i=some q
 | [],h=>by simp at h
 |(k,p)::l,h=>by
  by_cases hk:k=d
  ·have h':(l.filter (fun x=>x.1 !=d)).lookup i=some q:=by simpa [List.filter_cons,hk] using h
   obtain⟨h1,h2⟩:=yF l h'
   refine⟨h1,?_⟩
   rw [List.lookup_cons,show(i==k)=false by simp [hk,h1]]
   exact h2
  ·have h':((k,p)::l.filter (fun x=>x.1 !=d)).lookup i=some q:=by simpa [List.filter_cons,hk] using h
   rw [List.lookup_cons] at h' ⊢
   by_cases hik:i=k
   ·subst hik
    simp only [BEq.rfl] at h' ⊢
    exact⟨hk,h'⟩
   ·rw [show(i==k)=false by simp [hik]] at h' ⊢
    exact yF l h'
theorem RA.del(h:RA C n s m a w)(d:J Nat)(v:Value):RA C n (s.delO d) m (a.put d v) w:=by
 cases d with
 |none=>exact h
 |some d=>
  refine⟨h.dfr,by simp [Act.put,h.tsz],h.sto,fun i q hq=>?_,h.ev⟩
  obtain⟨h1,h2⟩:=yF s.env hq
  obtain⟨u,hu,hru⟩:=h.env i q h2
  exact⟨u,by simp only [Act.put];rw [Array.getElem?_setIfInBounds_ne (fun e=>h1 e.symm)];exact hu,hru⟩
theorem RA.step(h:RA C n s m a w){st1:dL}{m1:kQ}{w1:World}(e:Ev s.st m w st1 m1 w1)(k:fY C.av st1 m1 w1):RA C n ⟨s.env,st1⟩ m1 a w1:=
 ⟨h.dfr,h.tsz,k,fun i p hp=>by obtain⟨v,hv,hr⟩:=h.env i p hp;exact⟨v,hv,RV.mono e p v hr⟩,h.ev.trans e⟩
end
def Wk(C:qT)(n:Nat)(s s':AS):Prop:= ∀m a w,RA C n s m a w→ ∃m',RA C n s' m' a w
theorem Wk.trans{C:qT}{n:Nat}{s s' s'':AS}(h:Wk C n s s')(k:Wk C n s' s''):Wk C n s s'':=fun m a w hr=>by
 obtain⟨m',h'⟩:=h m a w hr
 exact k m' a w h'
def dR(P:Program)(C:qT)(n:Nat)(c:Code)(Q:Exit→AS→Prop)(s:AS):Prop:=
 ∀m a w,RA C n s m a w→c.wp P (fun e a' w'=> ∃s' m',Q e s'∧RA C n s' m' a' w') a w
def AL(P:Program)(C:qT)(n:Nat)(ops:Array Oper)(l:Z Oper)(Q:Exit→AS→Prop)(s:AS):Prop:=
 ∀m a w,RA C n s m a w→wpList P ops (fun e a' w'=> ∃s' m',Q e s'∧RA C n s' m' a' w') l a w
def cX(P:Program)(C:qT)(n:Nat)(o:Oper)(s s1:AS):Prop:=
 ∀m a w,RA C n s m a w→ ∀(K:Act→World→Prop) (Q:Exit→Act→World→Prop),(∀m' a' w',RA C n s1 m' a' w'→K a' w')→o.wp P a w K Q
abbrev abU(next:AS→Prop)(Q:Exit→AS→Prop):Exit→AS→Prop
 | .normal,s=>next s
 |e,s=>Q e s
abbrev AB(id:Nat)(Q:Exit→AS→Prop):Exit→AS→Prop
 | .exit id',s=>if id'=id then Q .normal s else Q (.exit id') s
 |e,s=>Q e s
section
variable {P:Program} {C:qT} {n:Nat} {s:AS} {Q:Exit→AS→Prop}
theorem dR.weak{c:Code}{s':AS}(hw:Wk C n s s')(h:dR P C n c Q s'):dR P C n c Q s:=fun m a w hr=>by
 obtain⟨m',h'⟩:=hw m a w hr
 exact h m' a w h'
theorem AL.weak{ops:Array Oper}{l:Z Oper}{s':AS}(hw:Wk C n s s')(h:AL P C n ops l Q s'):AL P C n ops l Q s:=fun m a w hr=>by
 obtain⟨m',h'⟩:=hw m a w hr
 exact h m' a w h'
theorem dR.mono{c:Code}{Q':Exit→AS→Prop}(h:dR P C n c Q s)(hq: ∀e s',Q e s'→Q' e s'):dR P C n c Q' s:=fun m a w hr=>
 wp_mono (h m a w hr) fun e a' w'=>by rintro⟨s',m',h1,h2⟩;exact⟨s',m',hq e s' h1,h2⟩
theorem dR.skip(h:Q .normal s):dR P C n .skip Q s:=fun m _ _ hr=>wp_skip ⟨s,m,h,hr⟩
theorem dR.exit{id:Nat}(h:Q (.exit id) s):dR P C n (.exit id) Q s:=fun m _ _ hr=>wp_exit ⟨s,m,h,hr⟩
theorem dR.ret(h:Q .ret s):dR P C n .ret Q s:=fun m _ _ hr=>wp_ret ⟨s,m,h,hr⟩
theorem dR.seq{x y:Code}(h:dR P C n x (abU (dR P C n y Q) Q) s):dR P C n (.seq x y) Q s:=fun m a w hr=>
 wp_seq (wp_mono (h m a w hr) fun e a' w'=>by
  rintro⟨s',m',h1,h2⟩
  cases e with
  |normal=>exact h1 m' a' w' h2
  |_=>exact⟨s',m',h1,h2⟩)
theorem dR.block{id:Nat}{c:Code}(h:dR P C n c (AB id Q) s):dR P C n (.block id c) Q s:=fun m a w hr=>
 wp_block (wp_mono (h m a w hr) fun e a' w'=>by
  rintro⟨s',m',h1,h2⟩
  cases e with
  |exit id'=>
   simp only [AB] at h1
   simp only [Exit.inBlock]
   split<;>rename_i hid
   ·rw [if_pos hid] at h1;exact⟨s',m',h1,h2⟩
   ·rw [if_neg hid] at h1;exact⟨s',m',h1,h2⟩
  |_=>exact⟨s',m',h1,h2⟩)
theorem dR.cond{c:Operand}{x y:Code}{b:Bool}(hc:s.ev c=some (.t (.leaf (.bool b))))(ht:b=true→dR P C n x Q s)(hf:b=false→dR P C n y Q s):dR P C n (.cond c x y) Q s:=fun m a w hr=>by
 have hv:=(cH.leaf_eq (hr.eval hc)).1
 exact wp_cond_split hv (fun h=>ht h m a w hr) (fun h=>hf h m a w hr)
theorem aoY{c:Code}{R:Exit→Act→World→Prop}{ι:Type}(I:ι→Act→World→Prop)(μ:ι→Nat)(i0:ι){a:Act}{w:World}(h₀:I i0 a w)
 (round: ∀i a w,I i a w→c.wp P (Exit.then (fun a' w'=> ∃j,I j a' w'∧μ j<μ i) R) a w):(Code.loop c).wp P R a w:=by
 intro b k cs
 have key: ∀n i a w,μ i=n→I i a w→ ∃e a' w',R e a' w'∧Arrives P (lone (b.at a (.code c:: .inLoop c::k)) cs w) b k cs e a' w':=by
  intro n
  induction n using Nat.strongRecOn with
  |_ n ih=>
   intro i a w hn hI
   obtain⟨e,a₁,w₁,hq,harr⟩:=round i a w hI b (.inLoop c::k) cs
   cases e with
   |normal=>
    obtain⟨j,hI₁,hlt⟩:=hq
    obtain⟨e₂,a₂,w₂,hq₂,harr₂⟩:=ih (μ j) (hn ▸ hlt) j a₁ w₁ rfl hI₁
    exact⟨e₂,a₂,w₂,hq₂,.of_steps (Steps.trans harr (.one step_inLoop)) harr₂⟩
   |exit id=>exact⟨_,a₁,w₁,hq,.pass (x:= .inLoop c) rfl (fun _ _=> .inl (by simp)) harr⟩
   |goto l=>exact⟨_,a₁,w₁,hq,.pass (x:= .inLoop c) rfl (fun _ _=> .inl (by simp)) harr⟩
   |ret=>exact⟨_,a₁,w₁,hq,.pass (x:= .inLoop c) rfl (fun _ _=> .inl (by simp)) harr⟩
   |panic ch=>exact⟨_,a₁,w₁,hq,.pass (x:= .inLoop c) rfl (fun _ _=> .inl (by simp)) harr⟩
   |outgrown=>exact⟨_,a₁,w₁,hq,.pass (x:= .inLoop c) rfl (fun _ _=> .inl (by simp)) harr⟩
 obtain⟨e,a',w',hq,harr⟩:=key _ i0 a w rfl h₀
 exact⟨e,a',w',hq,.of_steps (.one step_loop) harr⟩
theorem dR.loop{c:Code}{ι:Type}(I:ι→AS)(μ:ι→Nat)(i0:ι)(h0:Wk C n s (I i0))(round: ∀i,dR P C n c (abU (fun s'=> ∃j,Wk C n s' (I j)∧μ j<μ i) Q) (I i)):dR P C n (.loop c) Q s:=fun m a w hr=>by
 refine aoY (fun i a w=> ∃m,RA C n (I i) m a w) μ i0 (h0 m a w hr) fun i a w hi=>?_
 obtain⟨m1,h1⟩:=hi
 refine wp_mono (round i m1 a w h1) fun e a' w'=>?_;rintro⟨s',m',h2,h3⟩
 cases e with
 |normal=>
  obtain⟨j,hj,hlt⟩:=h2
  exact⟨j,hj m' a' w' h3,hlt⟩
 |_=>exact⟨s',m',h2,h3⟩
theorem dR.region{id:Nat}{ops:Array Oper}(h:AL P C n ops ops.toList Q s):dR P C n (.region id ops false) Q s:=fun m a w hr=>wp_region_list (h m a w hr)
theorem X9{id:Nat}{l:Z Oper}(h:AL P C n l.toArray l Q s):dR P C n (.region id l.toArray false) Q s:=dR.region (by simpa using h)
theorem AL.nil{ops:Array Oper}(h:Q .normal s):AL P C n ops [] Q s:=fun m _ _ hr=>wpList_nil ⟨s,m,h,hr⟩
theorem AL.cons{ops:Array Oper}{o:Oper}{rest:Z Oper}{s1:AS}(hg:o.guard=none)(ho:cX P C n o s s1)(h:AL P C n ops rest Q s1):AL P C n ops (o::rest) Q s:=fun m a w hr=>
 wpList_plain hg fun K hK=>ho m a w hr K _ fun m' a' w' h'=>hK a' w' (h m' a' w' h')
theorem RA.yielded{a:Act}{m:kQ}{w:World}(hr:RA C n s m a w){ops:Array Oper}{j d:Nat}{b:Bool}(hj:(ops[j]?).bind (·.dst)=some d)(hb:s.lk d=some (.t (.leaf (.bool b)))):yielded ops a.tmps j=some b:=by
 obtain⟨v,hv,hrv⟩:=hr.env d _ hb
 obtain⟨rfl,-⟩:=cH.leaf_eq hrv
 simp [Go.yielded,hj,hv]
theorem apW{ops:Array Oper}{o:Oper}{rest:Z Oper}{s1:AS}{j d:Nat}{b:Bool}(hg:o.guard=some (j,b))(hj:(ops[j]?).bind (·.dst)=some d)(hb:s.lk d=some (.t (.leaf (.bool b))))(ho:cX P C n o s s1)(h:AL P C n ops rest Q s1):AL P C n ops (o::rest) Q s:=fun m a w hr=>
 wpList_step fun K hK=>by
  rw [if_pos (by simp [Region.wanted,hg,hr.yielded hj hb])]
  exact ho m a w hr K _ fun m' a' w' h'=>hK a' w' (h m' a' w' h')
theorem dV{o:Oper}{p:PV}(hd: ∀x,o.dst=some x→x<n)(h: ∀m a w,RA C n s m a w→ ∃v,(execOp a.eval o).run P w= .ok (.value v) w∧RV (kV C.av s.st m) s.st m w p v):cX P C n o s (s.putO o.dst p):=fun m a w hr K Q hK=>by
 obtain⟨v,hv,hp⟩:=h m a w hr
 unfold Oper.wp
 rw [hv]
 exact hK m _ w (hr.put hd hp)
end
def cM(P:Program)(f:FuncId)(args:Z PV)(pre:dL)(R:PV→dL→Prop):Prop:=
 ∀av m w vals,fY av pre m w→iM (kV av pre m) pre m w args vals→
  Calls P f ⟨vals⟩ w fun e w'=> ∃res st' m' v,e= .returned v∧R res st'∧fY av st' m' w'∧Ev pre m w st' m' w'∧RV (kV av st' m') st' m' w' res v
def J7:Nat→Z PV→Z (Nat×PV)
 |_,[]=> []
 |i,p::ps=>(i,p)::J7 (i+1) ps
theorem NX{av:Nat→Nat→Prop}{st:dL}{m:kQ}{w:World}: ∀(ps:Z PV) (vs:Z Value) (k i:Nat) (p:PV),iM (kV av st m) st m w ps vs→(J7 k ps).lookup i=some p→ ∃v,k≤i∧vs[i-k]?=some v∧RV (kV av st m) st m w p v
 | [],[],_,_,_,_,h=>by simp [J7] at h
 |q::ps,u::vs,k,i,p,hr,h=>by
  rw [J7,List.lookup_cons] at h
  by_cases hik:i=k
  ·subst hik
   simp at h
   subst h
   exact⟨u,Nat.le_refl _,by simp,hr.1⟩
  ·rw [show(i==k)=false by simp [hik]] at h
   obtain⟨v,h1,h2,h3⟩:=NX ps vs (k+1) i p hr.2 h
   exact⟨v,by omega,by rw [show i-k=(i-(k+1))+1 by omega];simpa using h2,h3⟩
 | [],_::_,_,_,_,hr,_=>hr.elim
 |_::_,[],_,_,_,hr,_=>hr.elim
def D1(P:Program)(C:qT)(n:Nat)(fn:Func)(R:PV→dL→Prop)(e:Exit)(s:AS):Prop:=
 (e= .normal∨e= .ret)∧ ∀m a w,RA C n s m a w→ ∃res st' m' v,(results fn a.tmps).run P w= .ok v w∧R res st'∧fY C.av st' m' w∧Ev C.st C.m C.w st' m' w∧RV (kV C.av st' m') st' m' w res v
theorem aeX{P:Program}{f:FuncId}{fn:Func}{c:Code}{args:Z PV}{pre:dL}{R:PV→dL→Prop}(hf:P.funcs[f]?=some fn)(hb:fn.body=some c)(hn:args.length≤fn.ntmps)
 (h: ∀C:qT,C.st=pre→dR P C fn.ntmps c (D1 P C fn.ntmps fn R) ⟨J7 0 args,pre⟩):cM P f args pre R:=by
 intro av m w vals hst hargs
 refine calls_of_wp hf hb ?_
 have hl:args.length=vals.length:=hargs.length
 have hra:RA ⟨av,pre,m,w⟩ fn.ntmps ⟨J7 0 args,pre⟩ m { tmps:=⟨vals⟩++Array.replicate (fn.ntmps-(⟨vals⟩:Array Value).size) undef,defers:= [] } w:=by
  refine⟨rfl,by simp;omega,hst,fun i p hp=>?_,Ev.refl _ _ _⟩
  obtain⟨v,-,h2,h3⟩:=NX args vals 0 i p hargs hp
  refine⟨v,?_,h3⟩
  have hi:i<vals.length:=(List.getElem?_eq_some_iff.1 (by simpa using h2)).1
  rw [Array.getElem?_append_left (by simpa using hi)]
  simpa using h2
 refine wp_mono (h ⟨av,pre,m,w⟩ rfl m _ w hra) fun e a' w'=>?_;rintro⟨s',m',⟨he,hends⟩,hr⟩
 obtain⟨res,st',m2,v,h1,h2,h3,h4,h5⟩:=hends m' a' w' hr
 rcases he with rfl|rfl
 ·exact⟨hr.dfr,v,h1,res,st',m2,v,rfl,h2,h3,h4,h5⟩
 ·exact⟨hr.dfr,v,h1,res,st',m2,v,rfl,h2,h3,h4,h5⟩
open Go.WalkArith Go.IntWalk
def bL(d:J Nat)(n:Nat):Bool:=match d with|none=>true|some x=>decide (x<n)
theorem c4{d:J Nat}{n:Nat}(h:bL d n=true): ∀x,d=some x→x<n:=by
 rintro x rfl
 simpa [bL] using h
def awZ:TypeDesc→Bool
 | .struct _| .array _ _=>true
 |_=>false
def kA(P:Program)(T:TypeId):J (Bool×Nat):=
 match P.underlying T,P.info? T with
 |some d,some i=>some (awZ d,i.size)
 |_,_=>none
def uF(P:Program)(T f:Nat):J Nat:=
 match P.underlying T with
 |some (.struct fs)=>match fs[f]? with
  |some fd=>match P.info? fd.type with
   |some i=>if i.size=0 then none else some fd.offset
   |none=>none
  |none=>none
 |_=>none
def elemOf?(P:Program)(T:TypeId):J (TypeId×Nat×Nat):=
 match P.underlying T with
 |some (.slice E)=>(P.info? E).map fun i=>(E,i.size,i.bytes)
 |_=>none
section
variable {P:Program}
theorem kA.spec{T:TypeId}{b:Bool}{n:Nat}(h:kA P T=some (b,n)): ∃d i,P.underlying T=some d∧P.info? T=some i∧awZ d=b∧i.size=n:=by
 unfold kA at h
 split at h
 ·rename_i d i hu hi
  simp only [Option.some.injEq,Prod.mk.injEq] at h
  exact⟨d,i,hu,hi,h.1,h.2⟩
 ·cases h
theorem uF.spec{T f d:Nat}(h:uF P T f=some d): ∃fs fd i,P.underlying T=some (.struct fs)∧fs[f]?=some fd∧P.info? fd.type=some i∧i.size≠0∧fd.offset=d:=by
 unfold uF at h
 split at h
 ·rename_i fs hu
  split at h
  ·rename_i fd hf
   split at h
   ·rename_i i hi
    split at h
    ·cases h
    ·rename_i hz
     exact⟨fs,fd,i,hu,hf,hi,hz,by simpa using h⟩
   ·cases h
  ·cases h
 ·cases h
theorem elemOf?.spec{T E sz by_:Nat}(h:elemOf? P T=some (E,sz,by_)): ∃i,P.underlying T=some (.slice E)∧P.info? E=some i∧i.size=sz∧i.bytes=by_:=by
 unfold elemOf? at h
 split at h
 ·rename_i E' hu
  cases hi:P.info? E' with
  |none=>simp [hi] at h
  |some i=>
   simp only [hi,Option.map_some,Option.some.injEq,Prod.mk.injEq] at h
   obtain⟨rfl,h1,h2⟩:=h
   exact⟨i,hu,hi,h1,h2⟩
 ·cases h
theorem MF{T:TypeId}{b:Bool}{n:Nat}(h:kA P T=some (b,n))(w:World):(isAgg T).run P w= .ok b w:=by
 obtain⟨d,i,hu,-,hb,-⟩:=kA.spec h
 unfold isAgg
 rw [Sem.run_bind,run_underlying hu w]
 cases d<;>simp_all [awZ]
theorem run_sizeOf'{T:TypeId}{b:Bool}{n:Nat}(h:kA P T=some (b,n))(w:World):(Go.sizeOf T).run P w= .ok n w:=by
 obtain⟨d,i,-,hi,-,hs⟩:=kA.spec h
 simp [Go.sizeOf,typeInfo,hi,hs]
theorem A7{T:TypeId}{b off:Nat}{cs:Z Value}{w:World}(h:kA P T=some (true,cs.length))(hc: ∀j v,cs[j]?=some v→w.cell? ⟨b,off+j,none⟩=some v):(loadVar T ⟨b,off,none⟩).run P w= .ok (.agg ⟨cs⟩) w:=by
 have hl:(loadCells ⟨b,off,none⟩ cs.length).run P w= .ok cs.toArray w:=
  run_loadCells_list (P:=P) w ⟨b,off,none⟩ cs (fun j v hv=>by
   have hadd:(⟨b,off,none⟩:Addr).add j=⟨b,off+j,none⟩:=by unfold Addr.add;split<;>simp_all
   rw [hadd];exact hc j v hv)
 simp [loadVar,Sem.run_bind,MF h,run_sizeOf' h,hl]
theorem JH{T:TypeId}{n:Nat}{p:Addr}{v:Value}{w:World}(h:kA P T=some (false,n))(hc:w.cell? p=some v):(loadVar T p).run P w= .ok v w:=by
 simp [loadVar,Sem.run_bind,MF h,hc]
theorem run_fieldAt'{T f d b o:Nat}(h:uF P T f=some d)(w:World):(Instr.fieldAt T (.pointer (some ⟨b,o,none⟩)) f).run P w= .ok (.pointer (some ⟨b,o+d,none⟩)) w:=by
 obtain⟨fs,fd,i,hu,hf,hi,hz,rfl⟩:=uF.spec h
 have hadd: ∀n,(⟨b,o,none⟩:Addr).add n=⟨b,o+n,none⟩:=fun n=>by unfold Addr.add;split<;>simp_all
 simp [Instr.fieldAt,Sem.run_bind,run_underlying hu,hf,Instr.sureAddr,fieldPlace,Go.sizeOf,typeInfo,hi,hz,hadd]
theorem run_indexAt'{T E sz by_ b off len cap k:Nat}(h:elemOf? P T=some (E,sz,by_))(hk:k<len)(w:World):(Instr.indexAt T (.slice (some ⟨b,off,none⟩) len cap) (.int .i64 (k:Int))).run P w= .ok (.pointer (some ⟨b,off+k*sz,none⟩)) w:=by
 obtain⟨i,hu,hi,hs,-⟩:=elemOf?.spec h
 have hadd: ∀n,(⟨b,off,none⟩:Addr).add n=⟨b,off+n,none⟩:=fun n=>by unfold Addr.add;split<;>simp_all
 simp [Instr.indexAt,asIntOf,Sem.run_bind,run_underlying hu,Go.sizeOf,typeInfo,hi,hs,hadd]
 intro h2
 omega
end
section
variable {P:Program} {C:qT} {n:Nat} {s:AS} {o:Oper}
theorem cX.move{x:Operand}{p:PV}(ho:o.op= .move x∨o.op= .assign x)(hd:bL o.dst n=true)(hx:s.ev x=some p):cX P C n o s (s.putO o.dst p):=
 dV (c4 hd) fun m a w hr=>⟨a.eval x,by unfold execOp;rcases ho with ho|ho<;>simp [ho],hr.eval hx⟩
theorem l5{op:BinOp}{T yT:TypeId}{x y:Operand}{u v r:Value}(ho:o.op= .binOp op T x y yT)(hd:bL o.dst n=true)(hx:s.ev x=some (.t (.leaf u)))(hy:s.ev y=some (.t (.leaf v)))
 (hrun: ∀w,((do eqGuard op T x y u v;binOp op T u v):Sem Value).run P w= .ok r w) (hr:sN r):cX P C n o s (s.putO o.dst (.t (.leaf r))):=
 dV (c4 hd) fun m a w h=>by
  have h1:=(cH.leaf_eq (h.eval hx)).1
  have h2:=(cH.leaf_eq (h.eval hy)).1
  refine⟨r,?_,cH.leaf hr⟩
  unfold execOp
  simp only [ho,h1,h2]
  rw [Sem.run_bind,hrun w]
  rfl
theorem zT{T yT:TypeId}{x y:Operand}{a b c:Int}(ho:o.op= .binOp .add T x y yT)(hd:bL o.dst n=true)(hx:s.ev x=some (.t (.leaf (.int .i64 a))))(hy:s.ev y=some (.t (.leaf (.int .i64 b))))
 (hc:a+b=c) (hb: -9223372036854775808≤c∧c≤9223372036854775807):cX P C n o s (s.putO o.dst (.t (.leaf (.int .i64 c)))):=by
 subst hc
 exact l5 ho hd hx hy (fun w=>by simp [eqGuard,binOp,Op.intArith,i64_in _ hb]) (wf_i64 hb)
theorem X7{T yT:TypeId}{x y:Operand}{a b c:Int}(ho:o.op= .binOp .mul T x y yT)(hd:bL o.dst n=true)(hx:s.ev x=some (.t (.leaf (.int .i64 a))))(hy:s.ev y=some (.t (.leaf (.int .i64 b))))
 (hc:a*b=c) (hb: -9223372036854775808≤c∧c≤9223372036854775807):cX P C n o s (s.putO o.dst (.t (.leaf (.int .i64 c)))):=by
 subst hc
 exact l5 ho hd hx hy (fun w=>by simp [eqGuard,binOp,Op.intArith,i64_in _ hb]) (wf_i64 hb)
theorem JW{T yT:TypeId}{x y:Operand}{k:IntKind}{a b:Int}(ho:o.op= .binOp .add T x y yT)(hd:bL o.dst n=true)(hx:s.ev x=some (.t (.leaf (.int k a))))(hy:s.ev y=some (.t (.leaf (.int k b)))):
 cX P C n o s (s.putO o.dst (.t (.leaf (.int k (k.wrap (a+b)))))):=l5 ho hd hx hy (fun w=>by simp [eqGuard,binOp,Op.intArith]) (wf_wrap k _)
theorem ah5{T yT:TypeId}{x y:Operand}{k:IntKind}{a b:Int}(ho:o.op= .binOp .sub T x y yT)(hd:bL o.dst n=true)(hx:s.ev x=some (.t (.leaf (.int k a))))(hy:s.ev y=some (.t (.leaf (.int k b)))):
 cX P C n o s (s.putO o.dst (.t (.leaf (.int k (k.wrap (a-b)))))):=l5 ho hd hx hy (fun w=>by simp [eqGuard,binOp,Op.intArith]) (wf_wrap k _)
theorem QG{T yT:TypeId}{x y:Operand}{k:IntKind}{a b:Int}(ho:o.op= .binOp .mul T x y yT)(hd:bL o.dst n=true)(hx:s.ev x=some (.t (.leaf (.int k a))))(hy:s.ev y=some (.t (.leaf (.int k b)))):
 cX P C n o s (s.putO o.dst (.t (.leaf (.int k (k.wrap (a*b)))))):=l5 ho hd hx hy (fun w=>by simp [eqGuard,binOp,Op.intArith]) (wf_wrap k _)
theorem cX.lss{T yT:TypeId}{x y:Operand}{k:IntKind}{a b:Int}(ho:o.op= .binOp .lss T x y yT)(hd:bL o.dst n=true)(hx:s.ev x=some (.t (.leaf (.int k a))))(hy:s.ev y=some (.t (.leaf (.int k b)))):
 cX P C n o s (s.putO o.dst (.t (.leaf (.bool (decide (a<b)))))):=l5 ho hd hx hy (fun w=>by simp [eqGuard,binOp,Op.intCmp]) trivial
theorem cX.leq{T yT:TypeId}{x y:Operand}{k:IntKind}{a b:Int}(ho:o.op= .binOp .leq T x y yT)(hd:bL o.dst n=true)(hx:s.ev x=some (.t (.leaf (.int k a))))(hy:s.ev y=some (.t (.leaf (.int k b)))):
 cX P C n o s (s.putO o.dst (.t (.leaf (.bool (decide (a≤b)))))):=l5 ho hd hx hy (fun w=>by simp [eqGuard,binOp,Op.intCmp]) trivial
theorem cX.gtr{T yT:TypeId}{x y:Operand}{k:IntKind}{a b:Int}(ho:o.op= .binOp .gtr T x y yT)(hd:bL o.dst n=true)(hx:s.ev x=some (.t (.leaf (.int k a))))(hy:s.ev y=some (.t (.leaf (.int k b)))):
 cX P C n o s (s.putO o.dst (.t (.leaf (.bool (decide (a>b)))))):=l5 ho hd hx hy (fun w=>by simp [eqGuard,binOp,Op.intCmp]) trivial
theorem cX.geq{T yT:TypeId}{x y:Operand}{k:IntKind}{a b:Int}(ho:o.op= .binOp .geq T x y yT)(hd:bL o.dst n=true)(hx:s.ev x=some (.t (.leaf (.int k a))))(hy:s.ev y=some (.t (.leaf (.int k b)))):
 cX P C n o s (s.putO o.dst (.t (.leaf (.bool (decide (a≥b)))))):=l5 ho hd hx hy (fun w=>by simp [eqGuard,binOp,Op.intCmp]) trivial
theorem asG{T yT:TypeId}{x y:Operand}{k:IntKind}{a b:Int}(ho:o.op= .binOp .eql T x y yT)(hd:bL o.dst n=true)(hx:s.ev x=some (.t (.leaf (.int k a))))(hy:s.ev y=some (.t (.leaf (.int k b)))):
 cX P C n o s (s.putO o.dst (.t (.leaf (.bool (decide (a=b)))))):=l5 ho hd hx hy (fun w=>by simp [eqGuard,binOp,Op.intCmp];rfl) trivial
theorem asL{T yT:TypeId}{x y:Operand}{k:IntKind}{a b:Int}(ho:o.op= .binOp .neq T x y yT)(hd:bL o.dst n=true)(hx:s.ev x=some (.t (.leaf (.int k a))))(hy:s.ev y=some (.t (.leaf (.int k b)))):
 cX P C n o s (s.putO o.dst (.t (.leaf (.bool (!decide (a=b)))))):=l5 ho hd hx hy (fun w=>by simp [eqGuard,binOp,Op.intCmp];rfl) trivial
theorem TD{a b:Y}(h:a.toList=b.toList):a=b:=by
 rw [ByteArray.toList_eq,ByteArray.toList_eq] at h
 obtain⟨⟨x⟩⟩:=a
 obtain⟨⟨y⟩⟩:=b
 have h:x=y:=h
 rw [h]
theorem adT(a b:Y):(a.toList==b.toList)=decide (a=b):=by
 by_cases h:a=b
 ·subst h;simp
 ·rw [decide_eq_false h]
  simpa using fun e=>h (TD e)
theorem asH{T yT:TypeId}{x y:Operand}{a b:Y}(ho:o.op= .binOp .eql T x y yT)(hd:bL o.dst n=true)(hx:s.ev x=some (.t (.leaf (.string a))))(hy:s.ev y=some (.t (.leaf (.string b)))):
 cX P C n o s (s.putO o.dst (.t (.leaf (.bool (decide (a=b)))))):=l5 ho hd hx hy (fun w=>by simp [eqGuard,binOp,Op.stringOp,adT]) trivial
theorem asM{T yT:TypeId}{x y:Operand}{a b:Y}(ho:o.op= .binOp .neq T x y yT)(hd:bL o.dst n=true)(hx:s.ev x=some (.t (.leaf (.string a))))(hy:s.ev y=some (.t (.leaf (.string b)))):
 cX P C n o s (s.putO o.dst (.t (.leaf (.bool (!decide (a=b)))))):=l5 ho hd hx hy (fun w=>by simp [eqGuard,binOp,Op.stringOp,adT]) trivial
theorem dF{T yT:TypeId}{x y:Operand}{a b:Y}(ho:o.op= .binOp .add T x y yT)(hd:bL o.dst n=true)(hx:s.ev x=some (.t (.leaf (.string a))))(hy:s.ev y=some (.t (.leaf (.string b))))(hb:a.size+b.size≤9223372036854775807):
 cX P C n o s (s.putO o.dst (.t (.leaf (.string (a++b))))):=l5 ho hd hx hy (fun w=>by
  have h2: ¬((a.size:Int)+(b.size:Int)>9223372036854775807):=by omega
  have h3:IntKind.max .i64=9223372036854775807:=by decide
  simp [eqGuard,binOp,Op.stringOp,h3]
  omega) (by show(a++b).size≤maxLen;rw [ByteArray.size_append];unfold maxLen;omega)
theorem asN{T:TypeId}{x:Operand}{b:Bool}(ho:o.op= .unOp .not T x)(hd:bL o.dst n=true)(hx:s.ev x=some (.t (.leaf (.bool b)))):cX P C n o s (s.putO o.dst (.t (.leaf (.bool (!b))))):=
 dV (c4 hd) fun m a w h=>⟨.bool (!b),by
  have h1:=(cH.leaf_eq (h.eval hx)).1
  unfold execOp
  simp [ho,h1,Op.unary],cH.leaf trivial⟩
theorem cX.pick{x y z:Operand}{b:Bool}{p q:PV}(ho:o.op= .pick x y z)(hd:bL o.dst n=true)(hx:s.ev x=some (.t (.leaf (.bool b))))(hy:b=true→s.ev y=some p)(hz:b=false→s.ev z=some p):cX P C n o s (s.putO o.dst p):=
 dV (c4 hd) fun m a w h=>by
  have h1:=(cH.leaf_eq (h.eval hx)).1
  cases b with
  |true=>exact⟨a.eval y,by unfold execOp;simp [ho,h1,asBool],h.eval (hy rfl)⟩
  |false=>exact⟨a.eval z,by unfold execOp;simp [ho,h1,asBool],h.eval (hz rfl)⟩
theorem alY{x:Operand}{k d:Nat}(ho:o.op= .nilCheck x)(hd:bL o.dst n=true)(hx:s.ev x=some (.ptr k d)):cX P C n o s (s.putO o.dst (.ptr k d)):=
 dV (c4 hd) fun m a w h=>by
  have h1:=h.eval hx
  refine⟨a.eval x,?_,h1⟩
  have h2:=h1.2
  unfold execOp
  simp [ho,h2]
theorem apZ{x:Operand}{f:FuncId}{cs:Z PV}(ho:o.op= .nilCheck x)(hd:bL o.dst n=true)(hx:s.ev x=some (.fn f cs)):cX P C n o s (s.putO o.dst (.fn f cs)):=
 dV (c4 hd) fun m a w h=>by
  have h1:=h.eval hx
  refine⟨a.eval x,?_,h1⟩
  obtain⟨vs,h2,-⟩:=h1
  unfold execOp
  simp [ho,h2]
theorem ae3{T:TypeId}{x:Operand}{f k d e:Nat}(ho:o.op= .fieldAddr T x f)(hd:bL o.dst n=true)(hx:s.ev x=some (.ptr k d))(hf:uF P T f=some e):cX P C n o s (s.putO o.dst (.ptr k (d+e))):=
 dV (c4 hd) fun m a w h=>by
  obtain⟨h1,h2⟩:=h.eval hx
  refine⟨_,?_,h1,rfl⟩
  unfold execOp
  simp [ho,h2,run_fieldAt' hf]
theorem abY{T:TypeId}{x:Operand}{f e:Nat}{cs:Z Tr}(ho:o.op= .fieldAddr T x f)(hd:bL o.dst n=true)(hx:s.ev x=some (.eptr cs))(hf:uF P T f=some e):cX P C n o s (s.putO o.dst (.eptr (cs.drop e))):=
 dV (c4 hd) fun m a w h=>by
  obtain⟨b,off,h1,hb,c,h2⟩:=h.eval hx
  refine⟨.pointer (some ⟨b,off+e,none⟩),?_,b,off+e,rfl,hb,fun j=>c (e+j),fun j d hj=>?_⟩
  ·unfold execOp
   simp [ho,h1,run_fieldAt' hf]
  ·rw [List.getElem?_drop] at hj
   obtain⟨k1,k2,k3⟩:=h2 _ _ hj
   exact⟨by rw [Nat.add_assoc];exact k1,by rw [Nat.add_assoc];exact k2,k3⟩
def mK:PV→J (Nat×Z (Z Tr))
 | .t (.row sz es)=>some (sz,es)
 | .acc sz es _=>some (sz,es)
 | .lit sz es=>some (sz,es)
 |_=>none
theorem uL{ok:Nat→Nat→Prop}{st:dL}{m:kQ}{w:World}{p:PV}{sz:Nat}{es:Z (Z Tr)}{v:Value}(h:mK p=some (sz,es))(hr:RV ok st m w p v):cH ok w (.row sz es) v:=by
 unfold mK at h
 split at h
 ·cases h;exact hr
 ·cases h
  obtain⟨row,-,-,-,h4,-⟩:=hr
  exact h4
 ·cases h;exact hr.1
 ·cases h
theorem cX.index{T E sz by_:Nat}{x i:Operand}{p:PV}{es:Z (Z Tr)}{e:Z Tr}{k:Nat}(ho:o.op= .indexAddr T x i)(hd:bL o.dst n=true)(hx:s.ev x=some p)(hp:mK p=some (sz,es))(hi:s.ev i=some (.t (.leaf (.int .i64 (k:Int)))))
 (he:es[k]?=some e) (hT:elemOf? P T=some (E,sz,by_)):cX P C n o s (s.putO o.dst (.eptr e)):=
 dV (c4 hd) fun m a w h=>by
  have h1:=uL hp (h.eval hx)
  have h2:=(cH.leaf_eq (h.eval hi)).1
  cases hv:a.eval x with
  |slice ad len cap=>
   rw [hv] at h1
   cases h1 with
   |row c k1 k2 k3 k4=>
    obtain⟨b,off,rfl,hb,k5⟩:=k3 (by rintro rfl;simp at he)
    have hk:k<es.length:=(List.getElem?_eq_some_iff.1 he).1
    refine⟨.pointer (some ⟨b,off+k*sz,none⟩),?_,b,off+k*sz,rfl,hb,c k,fun j d hj=>⟨(k5 k e he j d hj).1,(k5 k e he j d hj).2,k4 k e he j d hj⟩⟩
    unfold execOp
    simp [ho,hv,h2,run_indexAt' hT hk]
  |_=>rw [hv] at h1;cases h1
theorem cX.len{T ty:TypeId}{x:Operand}{p:PV}{sz:Nat}{es:Z (Z Tr)}{E:Nat×Nat×Nat}(ho:o.op= .call { callee:= .builtin .len,args:= #[x],argTypes:= #[T] })(hd:bL o.dst n=true)(hx:s.ev x=some p)(hp:mK p=some (sz,es))(hT:elemOf? P T=some E):
 cX P C n o s (s.putO o.dst (.t (.leaf (.int .i64 (es.length:Int))))):=
 dV (c4 hd) fun m a w h=>by
  obtain⟨ad,cap,h1,h2,h3⟩:=(uL hp (h.eval hx)).shape
  obtain⟨E1,E2,E3⟩:=E
  obtain⟨i,hu,-,-,-⟩:=elemOf?.spec hT
  refine⟨.int .i64 (es.length:Int),?_,cH.leaf (wf_i64 (by unfold maxLen at h3;omega))⟩
  unfold execOp
  simp [ho,resolve,invoke,builtin,h1,Builtin.len_,run_underlying hu,goInt]
theorem gP{T:TypeId}{x:Operand}{v:Y}(ho:o.op= .call { callee:= .builtin .len,args:= #[x],argTypes:= #[T] })(hd:bL o.dst n=true)(hx:s.ev x=some (.t (.leaf (.string v))))(hT:P.underlying T=some .string):
 cX P C n o s (s.putO o.dst (.t (.leaf (.int .i64 (v.size:Int))))):=
 dV (c4 hd) fun m a w h=>by
  obtain⟨h1,h3⟩:=cH.leaf_eq (h.eval hx)
  have h4:v.size≤maxLen:=h3
  refine⟨.int .i64 (v.size:Int),?_,cH.leaf (wf_i64 (by unfold maxLen at h4;omega))⟩
  unfold execOp
  simp [ho,resolve,invoke,builtin,h1,Builtin.len_,run_underlying hT,goInt]
theorem cX.extract{x:Operand}{i:Nat}{ps:Z PV}{p:PV}(ho:o.op= .extract x i)(hd:bL o.dst n=true)(hx:s.ev x=some (.tup ps))(hi:ps[i]?=some p):cX P C n o s (s.putO o.dst p):=
 dV (c4 hd) fun m a w h=>by
  obtain⟨vs,h1,h2⟩:=h.eval hx
  obtain⟨v,hv,hr⟩:=h2.get hi
  refine⟨v,?_,hr⟩
  unfold execOp
  simp [ho,h1,Instr.extract,hv]
theorem cX.makeFunc{f:FuncId}{cap:Array Operand}{ps:Z PV}(ho:o.op= .makeFunc (.func f) #[] cap)(hd:bL o.dst n=true)(hc:cap.toList.map s.ev=ps.map some):cX P C n o s (s.putO o.dst (.fn f ps)):=
 dV (c4 hd) fun m a w h=>by
  have key: ∀(l:Z Operand) (qs:Z PV),l.map s.ev=qs.map some→iM (kV C.av s.st m) s.st m w qs (l.map a.eval):=by
   intro l
   induction l with
   |nil=>intro qs hq;cases qs<;>simp_all [iM]
   |cons x l ih=>
    intro qs hq
    cases qs with
    |nil=>simp at hq
    |cons q qs=>
     simp only [List.map_cons,List.cons.injEq] at hq
     exact⟨h.eval hq.1,ih qs hq.2⟩
  refine⟨.func (.func f) #[] ⟨cap.toList.map a.eval⟩,?_,_,rfl,key _ _ hc⟩
  unfold execOp
  simp only [ho,Instr.makeFunc]
  have e:cap.map a.eval=⟨cap.toList.map a.eval⟩:=by apply Array.ext';simp
  simp [e]
theorem VF{T:TypeId}{x:Operand}{k d z:Nat}{bx:dO}{cs:Z PV}(ho:o.op= .load T x)(hd:bL o.dst n=true)(hx:s.ev x=some (.ptr k d))(hb:s.st.boxes[k]?=some (some bx))(hT:kA P T=some (true,z))(hc:(bx.cells.drop d).take z=cs)(hl:cs.length=z):
 cX P C n o s (s.putO o.dst (.agg cs)):=
 dV (c4 hd) fun m a w h=>by
  obtain⟨-,h2⟩:=h.eval hx
  obtain⟨vs,h3,h4⟩:=h.sto.box k bx hb
  have h5:=iM.take z (iM.drop d h4)
  rw [hc] at h5
  refine⟨.agg ⟨(vs.drop d).take z⟩,?_,_,rfl,h5⟩
  have hlen:=h5.length
  have hld:=A7 (P:=P) (T:=T) (b:=m.ρ k) (off:=d) (cs:=(vs.drop d).take z) (w:=w) (by rw [← hlen,hl];exact hT) (fun j v hj=>by
   have hjz:j<z:=by have:=(List.getElem?_eq_some_iff.1 hj).1;simp at this;omega
   rw [List.getElem?_take,if_pos hjz,List.getElem?_drop] at hj
   exact h3.cell hj)
  unfold execOp
  simp [ho,h2,Instr.loadAt,Instr.sureAddr,hld]
theorem QF{T:TypeId}{x:Operand}{k d z:Nat}{bx:dO}{p:PV}(ho:o.op= .load T x)(hd:bL o.dst n=true)(hx:s.ev x=some (.ptr k d))(hb:s.st.boxes[k]?=some (some bx))(hT:kA P T=some (false,z))(hc:bx.cells[d]?=some p):
 cX P C n o s (s.putO o.dst p):=
 dV (c4 hd) fun m a w h=>by
  obtain⟨-,h2⟩:=h.eval hx
  obtain⟨vs,h3,h4⟩:=h.sto.box k bx hb
  obtain⟨v,hv,hr⟩:=h4.get hc
  refine⟨v,?_,hr⟩
  have hld:=JH (P:=P) (T:=T) (p:=⟨m.ρ k,d,none⟩) (v:=v) (w:=w) hT (h3.cell hv)
  unfold execOp
  simp [ho,h2,Instr.loadAt,Instr.sureAddr,hld]
theorem iM.of_fn{ok:Nat→Nat→Prop}{st:dL}{m:kQ}{w:World}{c:Nat→Value}: ∀ {ts:Z Tr} (k:Nat),(∀(j:Nat) d,ts[j]?=some d→cH ok w d (c (k+j)))→iM ok st m w (ts.map PV.t) ((List.range' k ts.length).map c):=by
 intro ts
 induction ts with
 |nil=>intro k _;simp [iM]
 |cons t ts ih=>
  intro k h
  refine⟨h 0 t rfl,?_⟩
  exact ih (k+1) (fun j d hd=>by have:=h (j+1) d (by simpa using hd);rwa [show k+1+j=k+(j+1) by omega])
theorem ae4{T:TypeId}{x:Operand}{z:Nat}{cs ds:Z Tr}(ho:o.op= .load T x)(hd:bL o.dst n=true)(hx:s.ev x=some (.eptr cs))(hT:kA P T=some (true,z))(hc:cs.take z=ds)(hl:ds.length=z):
 cX P C n o s (s.putO o.dst (.agg (ds.map PV.t))):=
 dV (c4 hd) fun m a w h=>by
  obtain⟨b,off,h1,hb,c,h2⟩:=h.eval hx
  have hget: ∀(j:Nat) d,ds[j]?=some d→cs[j]?=some d:=fun j d hj=>by
   rw [← hc,List.getElem?_take] at hj
   split at hj
   ·exact hj
   ·cases hj
  refine⟨.agg ⟨(List.range' 0 ds.length).map c⟩,?_,_,rfl,iM.of_fn 0 fun j d hj=>by rw [Nat.zero_add];exact(h2 j d (hget j d hj)).2.2⟩
  have hld:=A7 (P:=P) (T:=T) (b:=b) (off:=off) (cs:=(List.range' 0 ds.length).map c) (w:=w) (by simpa [hl] using hT) (fun j v hj=>by
   rw [List.getElem?_map] at hj
   rcases hr:(List.range' 0 ds.length)[j]? with _|i
   ·simp [hr] at hj
   ·have hjl:j<ds.length:=by have:=(List.getElem?_eq_some_iff.1 hr).1;simpa using this
    rw [List.getElem?_range' hjl] at hr
    simp at hr
    subst hr
    simp [List.getElem?_range' hjl] at hj
    rw [← hj]
    exact(h2 j ds[j] (hget j _ (List.getElem?_eq_getElem hjl))).2.1)
  unfold execOp
  simp [ho,h1,Instr.loadAt,Instr.sureAddr,hld]
theorem zC{T:TypeId}{x:Operand}{z:Nat}{d:Tr}{cs:Z Tr}(ho:o.op= .load T x)(hd:bL o.dst n=true)(hx:s.ev x=some (.eptr cs))(hT:kA P T=some (false,z))(hc:cs[0]?=some d):
 cX P C n o s (s.putO o.dst (.t d)):=
 dV (c4 hd) fun m a w h=>by
  obtain⟨b,off,h1,hb,c,h2⟩:=h.eval hx
  obtain⟨k1,k2,k3⟩:=h2 0 d hc
  refine⟨c 0,?_,k3⟩
  have hld:=JH (P:=P) (T:=T) (p:=⟨b,off,none⟩) (v:=c 0) (w:=w) hT k2
  unfold execOp
  simp [ho,h1,Instr.loadAt,Instr.sureAddr,hld]
end
def CR{α:Type}(f:Nat→α)(k:Nat)(v:α):Nat→α:=fun i=>if i=k then v else f i
theorem cI{α:Type}(f:Nat→α)(k:Nat)(v:α):CR f k v k=v:=by simp [CR]
theorem eP{α:Type}{f:Nat→α}{k i:Nat}{v:α}(h:i≠k):CR f k v i=f i:=by simp [CR,h]
theorem getElem?_snoc{α:Type}{l:Z α}{x y:α}{i:Nat}(h:(l++ [x])[i]?=some y):(i<l.length∧l[i]?=some y)∨(i=l.length∧y=x):=by
 rcases Nat.lt_or_ge i l.length with hi|hi
 ·rw [List.getElem?_append_left hi] at h
  exact .inl ⟨hi,h⟩
 ·rw [List.getElem?_append_right hi] at h
  rcases hk:i-l.length with _|k
  ·rw [hk] at h
   simp at h
   exact .inr ⟨by omega,h.symm⟩
  ·rw [hk] at h
   simp at h
theorem dK{α:Type}{l:Z α}{y:α}{i:Nat}(h:l[i]?=some y):i<l.length:=(List.getElem?_eq_some_iff.1 h).1
theorem kR{w w':World}{b o:Nat}(h:w'.heap[b]?=w.heap[b]?):w'.cell? ⟨b,o,none⟩=w.cell? ⟨b,o,none⟩:=World.cell?_of_block (a:=⟨b,o,none⟩) h
theorem fY.box_lt{av:Nat→Nat→Prop}{st:dL}{m:kQ}{w:World}(h:fY av st m w){k:Nat}{x:dO}(hx:st.boxes[k]?=some (some x)):m.ρ k<w.heap.size:=by
 obtain⟨vs,h1,-⟩:=h.box k x hx
 exact h1.lt
theorem fY.row_lt{av:Nat→Nat→Prop}{st:dL}{m:kQ}{w:World}(h:fY av st m w){r:Nat}{row:mV}{g c:Nat}(hr:st.rows[r]?=some row)(hg:m.γ r=some (g,c)):g<w.heap.size:=by
 obtain⟨-,-,h1⟩:=h.row r row hr
 rcases h1 with⟨h1,-⟩|⟨g',c',cur,h1,h2,-⟩
 ·rw [hg] at h1;cases h1
 ·rw [hg] at h1
  injection h1 with h1
  injection h1 with h1 h3
  subst h1
  exact h2.lt
theorem Ev.later{st:dL}{m:kQ}{w w':World}(h:wI w w'):Ev st m w st m w':=
 ⟨h.os,h.tape,h.output,h.size,fun b hb _ _=>h.block b hb,fun b o hb _=>kR (h.block b hb),fun _ _ _ h=>h,fun _ x h=>⟨⟨x,h⟩,rfl⟩,fun _ x h=> .inl ⟨x,h⟩,fun _ row h=>⟨row,h,rfl,Nat.le_refl _,fun _=>rfl,fun h=>⟨h,rfl⟩⟩,fun _ row _ c h h'=> .inl ⟨row,c,h,h'⟩⟩
theorem cH.ext{ok:Nat→Nat→Prop}{w w':World}{t:Tr}{v:Value}(h:cH ok w t v)(hx:wI w w'):cH ok w' t v:=h.mono hx.size (fun _ _ _ h=>h) (fun _ _ hb _=>kR (hx.block _ hb))
theorem fY.later{av:Nat→Nat→Prop}{st:dL}{m:kQ}{w w':World}(h:fY av st m w)(hx:wI w w'):fY av st m w' where
 box:=fun k x hk=>by
  obtain⟨vs,h1,h2⟩:=h.box k x hk
  exact⟨vs,h1.ext hx,iM.mono (Ev.later hx) _ _ h2⟩
 binj:=h.binj
 row:=fun r row hr=>by
  obtain⟨h1,h2,h3⟩:=h.row r row hr
  refine⟨h1,h2,?_⟩
  rcases h3 with h3|⟨g,c,cur,k1,k2,k3,k4,k5,k6⟩
  ·exact .inl h3
  ·exact .inr ⟨g,c,cur,k1,k2.ext hx,k3,k4,k5,k6.ext hx⟩
 rinj:=h.rinj
 br:=h.br
 avlt:=fun b o hb=>Nat.lt_of_lt_of_le (h.avlt b o hb) hx.size
 avr:=h.avr
 avb:=h.avb
def dL.addBox(st:dL)(x:dO):dL:=⟨st.boxes++ [some x],st.rows⟩
theorem iA{st:dL}{x y:dO}{k:Nat}(h:(st.addBox x).boxes[k]?=some (some y)):(k<st.boxes.length∧st.boxes[k]?=some (some y))∨(k=st.boxes.length∧y=x):=by
 rcases getElem?_snoc h with h|⟨h1,h2⟩
 ·exact .inl h
 ·exact .inr ⟨h1,Option.some.inj h2⟩
theorem LZ{st:dL}{m:kQ}{w:World}{x:dO}{vs:Array Value}:Ev st m w (st.addBox x) ⟨CR m.ρ st.boxes.length w.heap.size,m.γ⟩ (w.alloc (.cells vs x.ty)):=by
 have hx:wI w (w.alloc (.cells vs x.ty)):= .alloc (.refl _) _
 refine⟨hx.os,hx.tape,hx.output,hx.size,fun b hb _ _=>hx.block b hb,fun b o hb _=>kR (hx.block b hb),fun b o hb h=>⟨fun k y hk=>?_,h.2⟩,fun k y hk=>⟨⟨y,?_⟩,?_⟩,fun k y hk=>?_,fun _ row h=>⟨row,h,rfl,Nat.le_refl _,fun _=>rfl,fun h=>⟨h,rfl⟩⟩,fun _ row _ c h h'=> .inl ⟨row,c,h,h'⟩⟩
 ·rcases iA hk with⟨h1,h2⟩|⟨rfl,rfl⟩
  ·simp only [eP (show k≠st.boxes.length by omega)]
   exact h.1 k y h2
  ·simp only [cI]
   omega
 ·show(st.boxes++ [some x])[k]?=_
  rw [List.getElem?_append_left (dK hk)];exact hk
 ·exact eP (by have:=dK hk;omega)
 ·rcases iA hk with⟨h1,h2⟩|⟨rfl,rfl⟩
  ·exact .inl ⟨y,h2⟩
  ·exact .inr (by simp [cI])
theorem QB{av:Nat→Nat→Prop}{st:dL}{m:kQ}{w:World}{x:dO}{vs:Z Value}(h:fY av st m w)(hc:iM (kV av st m) st m w x.cells vs):
 fY av (st.addBox x) ⟨CR m.ρ st.boxes.length w.heap.size,m.γ⟩ (w.alloc (.cells ⟨vs⟩ x.ty)):=by
 have hx:wI w (w.alloc (.cells ⟨vs⟩ x.ty)):= .alloc (.refl _) _
 have he:Ev st m w (st.addBox x) ⟨CR m.ρ st.boxes.length w.heap.size,m.γ⟩ (w.alloc (.cells ⟨vs⟩ x.ty)):=LZ
 have hw:=fun k y (hk:st.boxes[k]?=some (some y))=>h.box_lt hk
 refine⟨fun k y hk=>?_,fun k k' y y' hk hk' hne=>?_,fun r row hr=>?_,h.rinj,fun k y r row g c hk hr hg=>?_,fun b o hb=>Nat.lt_of_lt_of_le (h.avlt b o hb) hx.size,h.avr,fun k y hk o ha=>?_⟩
 ·rcases iA hk with⟨h1,h2⟩|⟨rfl,rfl⟩
  ·obtain⟨us,k1,k2⟩:=h.box k y h2
   simp only [eP (show k≠st.boxes.length by omega)]
   exact⟨us,k1.ext hx,iM.mono he _ _ k2⟩
  ·simp only [cI]
   exact⟨vs,.of (OB.new w _ _),iM.mono he _ _ hc⟩
 ·rcases iA hk with⟨h1,h2⟩|⟨rfl,rfl⟩<;>rcases iA hk' with⟨h1',h2'⟩|⟨rfl,rfl⟩
  ·simp only [eP (show k≠st.boxes.length by omega),eP (show k'≠st.boxes.length by omega)]
   exact h.binj k k' y y' h2 h2' hne
  ·simp only [eP (show k≠st.boxes.length by omega),cI]
   have:=hw k y h2
   omega
  ·simp only [eP (show k'≠st.boxes.length by omega),cI]
   have:=hw k' y' h2'
   omega
  ·exact absurd rfl hne
 ·obtain⟨k1,k2,k3⟩:=h.row r row hr
  refine⟨k1,k2,?_⟩
  rcases k3 with k3|⟨g,c,cur,q1,q2,q3,q4,q5,q6⟩
  ·exact .inl k3
  ·exact .inr ⟨g,c,cur,q1,q2.ext hx,q3,q4,q5,RV.mono he (.t _) _ q6⟩
 ·rcases iA hk with⟨h1,h2⟩|⟨rfl,rfl⟩
  ·simp only [eP (show k≠st.boxes.length by omega)]
   exact h.br k y r row g c h2 hr hg
  ·simp only [cI]
   have:=h.row_lt hr hg
   omega
 ·rcases iA hk with⟨h1,h2⟩|⟨rfl,rfl⟩
  ·simp only [eP (show k≠st.boxes.length by omega)] at ha
   exact h.avb k y h2 o ha
  ·simp only [cI] at ha
   have:=h.avlt _ _ ha
   omega
def dL.setBox(st:dL)(k:Nat)(x:dO):dL:=⟨st.boxes.set k (some x),st.rows⟩
theorem vZ{st:dL}{x y:dO}{k i:Nat}(h:(st.setBox k x).boxes[i]?=some (some y)):(i≠k∧st.boxes[i]?=some (some y))∨(i=k∧y=x):=by
 have h:(st.boxes.set k (some x))[i]?=some (some y):=h
 rw [List.getElem?_set] at h
 split at h
 ·rename_i hik
  split at h
  ·exact .inr ⟨hik.symm,by simpa using h.symm⟩
  ·cases h
 ·rename_i hik
  exact .inl ⟨fun e=>hik e.symm,h⟩
theorem TI{av:Nat→Nat→Prop}{st:dL}{m:kQ}{w w1:World}{k:Nat}{x y:dO}(hst:fY av st m w)(hk:st.boxes[k]?=some (some x))(hos:w1.os=w.os)(ht:w1.tape=w.tape)(hout:w1.output=w.output)(hz:w1.heap.size=w.heap.size)
 (hb: ∀b,b≠m.ρ k→w1.heap[b]?=w.heap[b]?):Ev st m w (st.setBox k y) m w1:=by
 refine⟨hos,ht,hout,by omega,fun b _ h1 _=>hb b (fun e=>h1 k x hk e.symm),fun b o _ h=>kR (hb b (fun e=>h.1 k x hk e.symm)),fun b o _ h=>⟨fun i z hi=>?_,h.2⟩,fun i z hi=>⟨?_,rfl⟩,fun i z hi=>?_,fun _ row h=>⟨row,h,rfl,Nat.le_refl _,fun _=>rfl,fun h=>⟨h,rfl⟩⟩,fun _ row _ c h h'=> .inl ⟨row,c,h,h'⟩⟩
 ·rcases vZ hi with⟨h1,h2⟩|⟨rfl,rfl⟩
  ·exact h.1 i z h2
  ·exact h.1 _ x hk
 ·show ∃x',(st.boxes.set k (some y))[i]?=some (some x')
  rw [List.getElem?_set]
  by_cases hik:k=i
  ·subst hik
   exact⟨y,by simp [dK hi]⟩
  ·exact⟨z,by rw [if_neg hik];exact hi⟩
 ·rcases vZ hi with⟨h1,h2⟩|⟨rfl,rfl⟩
  ·exact .inl ⟨z,h2⟩
  ·exact .inl ⟨x,hk⟩
theorem abR{av:Nat→Nat→Prop}{st:dL}{m:kQ}{w w1:World}{k:Nat}{x y:dO}{vs:Z Value}(hst:fY av st m w)(hk:st.boxes[k]?=some (some x))(hos:w1.os=w.os)(ht:w1.tape=w.tape)(hout:w1.output=w.output)(hz:w1.heap.size=w.heap.size)
 (hb: ∀b,b≠m.ρ k→w1.heap[b]?=w.heap[b]?) (hob:OBp w1 (m.ρ k) y.ty vs) (hc:iM (kV av st m) st m w y.cells vs):fY av (st.setBox k y) m w1:=by
 have he:Ev st m w (st.setBox k y) m w1:=TI hst hk hos ht hout hz hb
 refine⟨fun i z hi=>?_,fun i i' z z' hi hi' hne=>?_,fun r row hr=>?_,hst.rinj,fun i z r row g c hi hr hg=>?_,fun b o h=>by rw [hz];exact hst.avlt b o h,hst.avr,fun i z hi=>?_⟩
 ·rcases vZ hi with⟨h1,h2⟩|⟨rfl,rfl⟩
  ·obtain⟨us,k1,k2⟩:=hst.box i z h2
   exact⟨us,k1.keep (hb _ (hst.binj i k z x h2 hk h1)),iM.mono he _ _ k2⟩
  ·exact⟨vs,hob,iM.mono he _ _ hc⟩
 ·have key: ∀i z,(st.setBox k y).boxes[i]?=some (some z)→ ∃z',st.boxes[i]?=some (some z'):=fun i z hi=>by
   rcases vZ hi with⟨h1,h2⟩|⟨rfl,rfl⟩
   ·exact⟨z,h2⟩
   ·exact⟨x,hk⟩
  obtain⟨u,hu⟩:=key i z hi
  obtain⟨u',hu'⟩:=key i' z' hi'
  exact hst.binj i i' u u' hu hu' hne
 ·obtain⟨k1,k2,k3⟩:=hst.row r row hr
  refine⟨k1,k2,?_⟩
  rcases k3 with k3|⟨g,c,cur,q1,q2,q3,q4,q5,q6⟩
  ·exact .inl k3
  ·exact .inr ⟨g,c,cur,q1,(hb g (fun e=>hst.br k x r row g c hk hr q1 e.symm)).trans q2,q3,q4,q5,RV.mono he (.t _) _ q6⟩
 ·rcases vZ hi with⟨h1,h2⟩|⟨rfl,rfl⟩
  ·exact hst.br i z r row g c h2 hr hg
  ·exact hst.br _ x r row g c hk hr hg
 ·rcases vZ hi with⟨h1,h2⟩|⟨rfl,rfl⟩
  ·exact hst.avb i z h2
  ·exact hst.avb _ x hk
def dL.setRow(st:dL)(r:Nat)(row:mV):dL:=⟨st.boxes,st.rows.set r row⟩
theorem qX{st:dL}{x y:mV}{k i:Nat}(h:(st.setRow k x).rows[i]?=some y):(i≠k∧st.rows[i]?=some y)∨(i=k∧y=x):=by
 have h:(st.rows.set k x)[i]?=some y:=h
 rw [List.getElem?_set] at h
 split at h
 ·rename_i hik
  split at h
  ·exact .inr ⟨hik.symm,by simpa using h.symm⟩
  ·cases h
 ·rename_i hik
  exact .inl ⟨fun e=>hik e.symm,h⟩
structure WG (av:Nat→Nat→Prop) (st:dL) (m:kQ) (w:World) (r:Nat) (row:mV) (es2:List (List Tr)) (g c:Nat) (cur:Array Value) (w1:World):Prop where
 live:st.rows[r]?=some row
 os:w1.os=w.os
 tape:w1.tape=w.tape
 output:w1.output=w.output
 size:w.heap.size≤w1.heap.size
 blk: ∀b,b<w.heap.size→b≠g→w1.heap[b]?=w.heap[b]?
 ob:OB w1 g row.E cur
 csz:cur.size=c*row.sz
 fit:row.es.length+es2.length≤c
 max:c≤maxLen
 lens: ∀e∈es2,e.length=row.sz
 old: ∀i e,row.es[i]?=some e→ ∀j d,e[j]?=some d→ ∃v,cur[i*row.sz+j]?=some v∧cH (kV av st m) w d v
 new: ∀i e,es2[i]?=some e→ ∀j d,e[j]?=some d→ ∃v,cur[(row.es.length+i)*row.sz+j]?=some v∧cH (kV av st m) w d v
 place:(∃c0 cur0,m.γ r=some (g,c0)∧OB w g row.E cur0∧ ∀o,o<row.es.length*row.sz→cur[o]?=cur0[o]?)∨w.heap.size≤g
 cap:row.whole=true∨es2= []→m.γ r=some (g,c)
theorem WG.ev{av:Nat→Nat→Prop}{st:dL}{m:kQ}{w:World}{r:Nat}{row:mV}{es2:Z (Z Tr)}{g c:Nat}{cur:Array Value}{w1:World}(h:WG av st m w r row es2 g c cur w1)(hst:fY av st m w):
 Ev st m w (st.setRow r { row with es:=row.es++es2 }) ⟨m.ρ,CR m.γ r (some (g,c))⟩ w1:=by
 have hg: ∀b,b<w.heap.size→b=g→ ∃c0,m.γ r=some (g,c0):=fun b hb e=>by
  rcases h.place with⟨c0,cur0,h1,-⟩|h1
  ·exact⟨c0,h1⟩
  ·omega
 refine⟨h.os,h.tape,h.output,h.size,fun b hb _ h2=>h.blk b hb fun e=>?_,fun b o hb hk=>?_,fun b o hb hk=>⟨hk.1,fun i row' g' c' hi hg' e=>?_⟩,fun k x hk=>⟨⟨x,hk⟩,rfl⟩,fun k x hk=> .inl ⟨x,hk⟩,fun i row' hi=>?_,fun i row' g' c' hi hg'=>?_⟩
 ·obtain⟨c0,h1⟩:=hg b hb e
  exact h2 r row g c0 h.live h1 e.symm
 ·by_cases e:b=g
  ·subst e
   rcases h.place with⟨c0,cur0,h1,h2,h3⟩|h1
   ·have ho:=hk.2 r row b c0 h.live h1 rfl
    rw [h.ob.cell,h2.cell,h3 o ho]
   ·omega
  ·exact kR (h.blk b hb e)
 ·rcases qX hi with⟨h1,h2⟩|⟨rfl,rfl⟩
  ·simp only [eP h1] at hg'
   exact hk.2 i row' g' c' h2 hg' e
  ·simp only [cI,Option.some.injEq,Prod.mk.injEq] at hg'
   obtain⟨rfl,rfl⟩:=hg'
   subst e
   obtain⟨c0,h1⟩:=hg _ hb rfl
   have:=hk.2 _ row _ c0 h.live h1 rfl
   simp only [List.length_append]
   exact Nat.lt_of_lt_of_le this (Nat.mul_le_mul_right _ (by omega))
 ·by_cases e:i=r
  ·subst e
   rw [h.live] at hi
   cases hi
   refine⟨{ row with es:=row.es++es2 },by show(st.rows.set i _)[i]?=_;simp [List.getElem?_set,dK h.live],rfl,by simp,fun he=>?_,fun hw=>⟨hw,?_⟩⟩
   ·simp only [cI]
    exact(h.cap (.inr (by simpa using he))).symm
   ·simp only [cI]
    exact(h.cap (.inl hw)).symm
  ·refine⟨row',by show(st.rows.set r _)[i]?=_;rw [List.getElem?_set,if_neg (fun e'=>e e'.symm)];exact hi,rfl,Nat.le_refl _,fun _=>eP e,fun hw=>⟨hw,eP e⟩⟩
 ·rcases qX hi with⟨h1,h2⟩|⟨rfl,rfl⟩
  ·simp only [eP h1] at hg'
   exact .inl ⟨row',c',h2,hg'⟩
  ·simp only [cI,Option.some.injEq,Prod.mk.injEq] at hg'
   obtain⟨rfl,rfl⟩:=hg'
   rcases h.place with⟨c0,cur0,h1,-⟩|h1
   ·exact .inl ⟨row,c0,h.live,h1⟩
   ·exact .inr h1
theorem WG.sto{av:Nat→Nat→Prop}{st:dL}{m:kQ}{w:World}{r:Nat}{row:mV}{es2:Z (Z Tr)}{g c:Nat}{cur:Array Value}{w1:World}(h:WG av st m w r row es2 g c cur w1)(hst:fY av st m w):
 fY av (st.setRow r { row with es:=row.es++es2 }) ⟨m.ρ,CR m.γ r (some (g,c))⟩ w1:=by
 have he:=h.ev hst
 have hgn: ∀i row' c',i≠r→st.rows[i]?=some row'→m.γ i=some (g,c')→False:=fun i row' c' hne hi hg=>by
  rcases h.place with⟨c0,cur0,h1,-⟩|h1
  ·exact hne (hst.rinj i r row' row g c' c0 hi h.live hg h1)
  ·have:=hst.row_lt hi hg;omega
 have hbn: ∀k x,st.boxes[k]?=some (some x)→m.ρ k≠g:=fun k x hk e=>by
  rcases h.place with⟨c0,cur0,h1,-⟩|h1
  ·exact hst.br k x r row g c0 hk h.live h1 e
  ·have:=hst.box_lt hk;omega
 have hav: ∀o,¬av g o:=fun o ha=>by
  rcases h.place with⟨c0,cur0,h1,-⟩|h1
  ·exact hst.avr r row g c0 h.live h1 o ha
  ·have:=hst.avlt _ _ ha;omega
 obtain⟨hpos,hlens,-⟩:=hst.row r row h.live
 refine⟨fun k x hk=>?_,hst.binj,fun i row' hi=>?_,fun i i' row' row'' g' c' c'' hi hi' hg hg'=>?_,fun k x i row' g' c' hk hi hg=>?_,fun b o hb=>Nat.lt_of_lt_of_le (hst.avlt b o hb) h.size,fun i row' g' c' hi hg o=>?_,hst.avb⟩
 ·obtain⟨vs,k1,k2⟩:=hst.box k x hk
  exact⟨vs,k1.keep (h.blk _ k1.lt (hbn k x hk)),iM.mono he _ _ k2⟩
 ·rcases qX hi with⟨h1,h2⟩|⟨rfl,rfl⟩
  ·obtain⟨k1,k2,k3⟩:=hst.row i row' h2
   refine⟨k1,k2,?_⟩
   simp only [eP h1]
   rcases k3 with k3|⟨g',c',cur',q1,q2,q3,q4,q5,q6⟩
   ·exact .inl k3
   ·refine .inr ⟨g',c',cur',q1,(h.blk g' q2.lt (fun e=>?_)).trans q2,q3,q4,q5,RV.mono he (.t _) _ q6⟩
    subst e
    exact hgn i row' c' h1 h2 q1
  ·refine⟨hpos,fun e he'=>?_,.inr ⟨g,c,cur,cI _ _ _,h.ob,h.csz,by simpa using h.fit,h.max,?_⟩⟩
   ·rcases List.mem_append.1 he' with h1|h1
    ·exact hlens e h1
    ·exact h.lens e h1
   ·have hget: ∀q e,(row.es++es2)[q]?=some e→ ∀j d,e[j]?=some d→ ∃v,cur[q*row.sz+j]?=some v∧cH (kV av st m) w d v:=fun q e hq j d hd=>by
     rcases Nat.lt_or_ge q row.es.length with hlt|hge
     ·rw [List.getElem?_append_left hlt] at hq
      exact h.old q e hq j d hd
     ·rw [List.getElem?_append_right hge] at hq
      have:=h.new _ e hq j d hd
      rwa [show row.es.length+(q-row.es.length)=q by omega] at this
    have hlen2: ∀q e,(row.es++es2)[q]?=some e→q<(row.es++es2).length∧e.length=row.sz:=fun q e hq=>by
     refine⟨dK hq,?_⟩
     rcases List.mem_append.1 (List.mem_of_getElem? hq) with h1|h1
     ·exact hlens e h1
     ·exact h.lens e h1
    refine cH.row (es:=row.es++es2) (fun q j=>(cur[q*row.sz+j]?).getD undef) (by simpa using h.fit) h.max (fun _=>⟨g,0,rfl,h.ob.lt,fun q e hq j d hd=>⟨?_,?_⟩⟩) (fun q e hq j d hd=>?_)
    ·rw [Nat.zero_add]
     refine⟨hav _,fun k x hk=>hbn k x hk,fun i' row' g' c' hi' hg' e'=>?_⟩
     rcases qX hi' with⟨h1,h2⟩|⟨rfl,rfl⟩
     ·simp only [eP h1] at hg'
      subst e'
      exact(hgn i' row' c' h1 h2 hg').elim
     ·obtain⟨h1,h2⟩:=hlen2 q e hq
      have hj:=dK hd
      show q*row.sz+j<(row.es++es2).length*row.sz
      have:(q+1)*row.sz≤(row.es++es2).length*row.sz:=Nat.mul_le_mul_right _ h1
      rw [Nat.succ_mul] at this
      omega
    ·obtain⟨v,hv,-⟩:=hget q e hq j d hd
     rw [Nat.zero_add,h.ob.cell,hv]
     rfl
    ·obtain⟨v,hv,hr⟩:=hget q e hq j d hd
     rw [hv]
     exact RV.mono he (.t d) _ hr
 ·rcases qX hi with⟨h1,h2⟩|⟨rfl,rfl⟩<;>rcases qX hi' with⟨h1',h2'⟩|⟨rfl,rfl⟩
  ·simp only [eP h1] at hg
   simp only [eP h1'] at hg'
   exact hst.rinj i i' row' row'' g' c' c'' h2 h2' hg hg'
  ·simp only [eP h1] at hg
   simp only [cI,Option.some.injEq,Prod.mk.injEq] at hg'
   obtain⟨rfl,rfl⟩:=hg'
   exact(hgn i row' c' h1 h2 hg).elim
  ·simp only [eP h1'] at hg'
   simp only [cI,Option.some.injEq,Prod.mk.injEq] at hg
   obtain⟨rfl,rfl⟩:=hg
   exact(hgn i' row'' c'' h1' h2' hg').elim
  ·rfl
 ·rcases qX hi with⟨h1,h2⟩|⟨rfl,rfl⟩
  ·simp only [eP h1] at hg
   exact hst.br k x i row' g' c' hk h2 hg
  ·simp only [cI,Option.some.injEq,Prod.mk.injEq] at hg
   obtain⟨rfl,rfl⟩:=hg
   exact hbn k x hk
 ·rcases qX hi with⟨h1,h2⟩|⟨rfl,rfl⟩
  ·simp only [eP h1] at hg
   exact hst.avr i row' g' c' h2 hg o
  ·simp only [cI,Option.some.injEq,Prod.mk.injEq] at hg
   obtain⟨rfl,rfl⟩:=hg
   exact hav o
def dL.addRow(st:dL)(row:mV):dL:=⟨st.boxes,st.rows++ [row]⟩
theorem F4{av:Nat→Nat→Prop}{st:dL}{m:kQ}{w:World}{row:mV}(_hst:fY av st m w):Ev st m w (st.addRow row) ⟨m.ρ,CR m.γ st.rows.length none⟩ w:=by
 refine⟨rfl,rfl,rfl,Nat.le_refl _,fun _ _ _ _=>rfl,fun _ _ _ _=>rfl,fun b o _ h=>⟨h.1,fun i row' g c hi hg e=>?_⟩,fun _ x h=>⟨⟨x,h⟩,rfl⟩,fun _ x h=> .inl ⟨x,h⟩,fun i row' hi=>⟨row',?_,rfl,Nat.le_refl _,fun _=>?_,fun hw=>⟨hw,?_⟩⟩,fun i row' g c hi hg=>?_⟩
 ·rcases getElem?_snoc hi with⟨h1,h2⟩|⟨rfl,rfl⟩
  ·simp only [eP (show i≠st.rows.length by omega)] at hg
   exact h.2 i row' g c h2 hg e
  ·simp [cI] at hg
 ·show(st.rows++ [row])[i]?=_
  rw [List.getElem?_append_left (dK hi)];exact hi
 ·exact eP (by have:=dK hi;omega)
 ·exact eP (by have:=dK hi;omega)
 ·rcases getElem?_snoc hi with⟨h1,h2⟩|⟨rfl,rfl⟩
  ·simp only [eP (show i≠st.rows.length by omega)] at hg
   exact .inl ⟨row',c,h2,hg⟩
  ·simp [cI] at hg
theorem JD{av:Nat→Nat→Prop}{st:dL}{m:kQ}{w:World}{row:mV}(h:fY av st m w)(hp:0<row.sz)(he:row.es= []):fY av (st.addRow row) ⟨m.ρ,CR m.γ st.rows.length none⟩ w:=by
 have ev:=F4 (row:=row) h
 have key: ∀i row' g c,(st.addRow row).rows[i]?=some row'→CR m.γ st.rows.length none i=some (g,c)→st.rows[i]?=some row'∧m.γ i=some (g,c):=fun i row' g c hi hg=>by
  rcases getElem?_snoc hi with⟨h1,h2⟩|⟨rfl,rfl⟩
  ·rw [eP (show i≠st.rows.length by omega)] at hg
   exact⟨h2,hg⟩
  ·simp [cI] at hg
 refine⟨fun k x hk=>?_,h.binj,fun i row' hi=>?_,fun i i' row' row'' g c c' hi hi' hg hg'=>?_,fun k x i row' g c hk hi hg=>?_,h.avlt,fun i row' g c hi hg=>?_,h.avb⟩
 ·obtain⟨vs,k1,k2⟩:=h.box k x hk
  exact⟨vs,k1,iM.mono ev _ _ k2⟩
 ·rcases getElem?_snoc hi with⟨h1,h2⟩|⟨rfl,rfl⟩
  ·obtain⟨k1,k2,k3⟩:=h.row i row' h2
   refine⟨k1,k2,?_⟩
   simp only [eP (show i≠st.rows.length by omega)]
   rcases k3 with k3|⟨g,c,cur,q1,q2,q3,q4,q5,q6⟩
   ·exact .inl k3
   ·exact .inr ⟨g,c,cur,q1,q2,q3,q4,q5,RV.mono ev (.t _) _ q6⟩
  ·exact⟨hp,by rw [he];simp,.inl ⟨cI _ _ _,he⟩⟩
 ·obtain⟨h1,h2⟩:=key i row' g c hi hg
  obtain⟨h1',h2'⟩:=key i' row'' g c' hi' hg'
  exact h.rinj i i' row' row'' g c c' h1 h1' h2 h2'
 ·obtain⟨h1,h2⟩:=key i row' g c hi hg
  exact h.br k x i row' g c hk h1 h2
 ·obtain⟨h1,h2⟩:=key i row' g c hi hg
  exact h.avr i row' g c h1 h2
theorem cH.one{ok:Nat→Nat→Prop}{w:World}{t:Tr}{v:Value}(h:cH ok w t v):v.oneCell'=true:=h.rep.one
theorem cH.news{ok:Nat→Nat→Prop}{w:World}{sz:Nat}{es:Z (Z Tr)}{v:Value}(h:cH ok w (.row sz es) v)(hl: ∀e∈es,e.length=sz)(hne:es≠ [])(hsz:0<sz):
 ∃(b off c:Nat) (news:Z Value),v= .slice (some ⟨b,off,none⟩) es.length c∧news.length=es.length*sz∧(∀(j:Nat) u,news[j]?=some u→w.cell? ((⟨b,off,none⟩:Addr).add j)=some u)∧(∀u∈news,u.oneCell'=true)∧
  (∀i e,es[i]?=some e→ ∀j d,e[j]?=some d→ ∃v,news[i*sz+j]?=some v∧cH ok w d v):=by
 cases h with
 |row c h1 h2 h3 h4=>
  obtain⟨b,off,rfl,hb,h5⟩:=h3 hne
  have hadd: ∀n,(⟨b,off,none⟩:Addr).add n=⟨b,off+n,none⟩:=fun n=>by unfold Addr.add;split<;>simp_all
  have key: ∀q,q<es.length*sz→ ∃e d,es[q/sz]?=some e∧e[q%sz]?=some d:=fun q hq=>by
   have h1:q/sz<es.length:=by rw [Nat.div_lt_iff_lt_mul hsz];exact hq
   have h2:q%sz<(es[q/sz]).length:=by rw [hl _ (List.getElem_mem h1)];exact Nat.mod_lt _ hsz
   exact⟨es[q/sz],(es[q/sz])[q%sz],List.getElem?_eq_getElem h1,List.getElem?_eq_getElem h2⟩
  have hget: ∀q,q<es.length*sz→((List.range (es.length*sz)).map (fun q=>c (q/sz) (q%sz)))[q]?=some (c (q/sz) (q%sz)):=fun q hq=>by
   rw [List.getElem?_map,List.getElem?_range hq];rfl
  refine⟨b,off,_,(List.range (es.length*sz)).map (fun q=>c (q/sz) (q%sz)),rfl,by simp,fun j u hu=>?_,fun u hu=>?_,fun i e he j d hd=>?_⟩
  ·have hj:j<es.length*sz:=by have:=dK hu;simpa using this
   rw [hget j hj] at hu
   cases hu
   obtain⟨e,d,k1,k2⟩:=key j hj
   have:=(h5 _ e k1 _ d k2).2
   rw [hadd,← this]
   congr 2
   have:=Nat.div_add_mod j sz
   rw [Nat.mul_comm] at this
   omega
  ·obtain⟨q,hq,rfl⟩:=List.mem_map.1 hu
   obtain⟨e,d,k1,k2⟩:=key q (by simpa using hq)
   exact(h4 _ e k1 _ d k2).one
  ·have hi:=dK he
   have hj:j<sz:=by rw [← hl e (List.mem_of_getElem? he)];exact dK hd
   have hq:i*sz+j<es.length*sz:=by
    have:(i+1)*sz≤es.length*sz:=Nat.mul_le_mul_right _ hi
    rw [Nat.succ_mul] at this
    omega
   refine⟨c i j,?_,h4 i e he j d hd⟩
   rw [hget _ hq]
   have e1:(i*sz+j)/sz=i:=by rw [Nat.mul_comm,Nat.mul_add_div hsz];simp [Nat.div_eq_of_lt hj]
   have e2:(i*sz+j)%sz=j:=by rw [Nat.mul_comm,Nat.mul_add_mod];exact Nat.mod_eq_of_lt hj
   rw [e1,e2]
def jN(P:Program)(T:TypeId):J (Z PV):=match P.info? T with
 |some i=>match i.zero with
  |some z=>z.cells.toList.mapM H4
  |none=>none
 |none=>none
theorem RT{ok:Nat→Nat→Prop}{st:dL}{m:kQ}{w:World}: ∀ {vs:Z Value} {ps:Z PV},vs.mapM H4=some ps→iM ok st m w ps vs
 | [],ps,h=>by
  simp at h
  subst h
  trivial
 |v::vs,ps,h=>by
  rw [List.mapM_cons] at h
  cases h1:H4 v with
  |none=>simp [h1] at h
  |some p=>
   cases h2:vs.mapM H4 with
   |none=>simp [h1,h2] at h
   |some qs=>
    simp [h1,h2] at h
    subst h
    exact⟨YW h1,RT h2⟩
theorem jN.spec{P:Program}{T:TypeId}{ps:Z PV}(h:jN P T=some ps): ∃i z,P.info? T=some i∧i.zero=some z∧ ∀ok st m w,iM ok st m w ps z.cells.toList:=by
 unfold jN at h
 split at h
 ·rename_i i hi
  split at h
  ·rename_i z hz
   exact⟨i,z,hi,hz,fun _ _ _ _=>RT h⟩
  ·cases h
 ·cases h
section
variable {P:Program} {C:qT} {n:Nat} {s:AS} {o:Oper}
theorem cX.run{s1:AS}{p:PV}(hd:bL o.dst n=true)(h: ∀m a w,RA C n s m a w→ ∃v m1 w1,(execOp a.eval o).run P w= .ok (.value v) w1∧Ev s.st m w s1.st m1 w1∧fY C.av s1.st m1 w1∧RV (kV C.av s1.st m1) s1.st m1 w1 p v)
 (he:s1.env=s.env):cX P C n o s (s1.putO o.dst p):=fun m a w hr K Q hK=>by
 obtain⟨v,m1,w1,h1,h2,h3,h4⟩:=h m a w hr
 unfold Oper.wp
 rw [h1]
 obtain⟨env1,st1⟩:=s1
 cases he
 exact hK m1 _ w1 ((hr.step h2 h3).put (c4 hd) h4)
theorem ah3{s1:AS}(h: ∀m a w,RA C n s m a w→ ∃m1 w1,(execOp a.eval o).run P w= .ok .skip w1∧Ev s.st m w s1.st m1 w1∧fY C.av s1.st m1 w1)
 (he:s1.env=s.env):cX P C n o s (s1.delO o.dst):=fun m a w hr K Q hK=>by
 obtain⟨m1,w1,h1,h2,h3⟩:=h m a w hr
 unfold Oper.wp
 rw [h1]
 obtain⟨env1,st1⟩:=s1
 cases he
 exact hK m1 _ w1 ((hr.step h2 h3).del o.dst undef)
theorem cX.alloc{T:TypeId}{ps:Z PV}(ho:o.op= .alloc T)(hd:bL o.dst n=true)(hz:jN P T=some ps):cX P C n o s ((⟨s.env,s.st.addBox ⟨T,ps⟩⟩:AS).putO o.dst (.ptr s.st.boxes.length 0)):=
 cX.run hd (s1:=⟨s.env,s.st.addBox ⟨T,ps⟩⟩) (fun m a w h=>by
  obtain⟨i,z,hi,hzz,hr⟩:=jN.spec hz
  refine⟨.pointer (some ⟨w.heap.size,0,none⟩),_,w.alloc (.cells ⟨z.cells.toList⟩ T),?_,LZ (x:=⟨T,ps⟩),QB (x:=⟨T,ps⟩) h.sto (hr _ _ _ _),⟨⟨T,ps⟩,by simp [dL.addBox]⟩,by simp [cI]⟩
  unfold execOp
  simp [ho,Instr.alloc,zeroValue,typeInfo,hi,hzz,newVar,newRow]) rfl
def xR:PV→Z PV
 | .agg cs=>cs
 |p=> [p]
theorem LV{ok:Nat→Nat→Prop}{st:dL}{m:kQ}{w:World}{p:PV}{v:Value}(h:RV ok st m w p v)(ht: ∀ps,p≠ .tup ps):iM ok st m w (xR p) v.cells.toList:=by
 cases p with
 |agg cs=>
  obtain⟨vs,rfl,h1⟩:=h
  exact h1
 |tup ps=>exact absurd rfl (ht ps)
 |t t=>
  have h0:cH ok w t v:=h
  have hv:v.cells= #[v]:=by
   cases h0 with
   |leaf hl=>cases v<;>first|rfl|exact hl.elim
   |row=>rfl
  rw [hv];exact⟨h,trivial⟩
 |nil=>obtain rfl:=(show v=_ from h);exact⟨rfl,trivial⟩
 |acc sz es r=>
  obtain⟨row,h1,h2,h3,h4,h5⟩:=h
  obtain⟨ad,cap,rfl,-,-⟩:=h4.shape
  exact⟨⟨row,h1,h2,h3,h4,h5⟩,trivial⟩
 |ptr k d=>
  obtain⟨h1,rfl⟩:=h
  exact⟨⟨h1,rfl⟩,trivial⟩
 |eptr cs=>
  obtain⟨b,off,rfl,h2⟩:=h
  exact⟨⟨b,off,rfl,h2⟩,trivial⟩
 |fn f cs=>
  obtain⟨vs,rfl,h2⟩:=h
  exact⟨⟨vs,rfl,h2⟩,trivial⟩
 |full sz k r=>
  obtain⟨row,g,h1,h2,h3,h4,rfl⟩:=h
  exact⟨⟨row,g,h1,h2,h3,h4,rfl⟩,trivial⟩
 |rptr r i=>
  obtain⟨row,g,k,h1,h3,h4,rfl⟩:=h
  exact⟨⟨row,g,k,h1,h3,h4,rfl⟩,trivial⟩
 |lit sz es=>
  obtain⟨h1,ad,rfl⟩:=h
  exact⟨⟨h1,ad,rfl⟩,trivial⟩
 |bsl k n=>
  obtain⟨h1,rfl⟩:=h
  exact⟨⟨h1,rfl⟩,trivial⟩
 |gsl k n=>
  obtain⟨h1,c,hc,hm,rfl⟩:=h
  exact⟨⟨h1,c,hc,hm,rfl⟩,trivial⟩
def IJ:PV→Bool
 | .tup _=>false
 |_=>true
theorem MC{p:PV}(h:IJ p=true): ∀ps,p≠ .tup ps:=by rintro ps rfl;cases h
theorem RV.oneCell{ok:Nat→Nat→Prop}{st:dL}{m:kQ}{w:World}{p:PV}{v:Value}(h:RV ok st m w p v)(ht:xR p= [p])(htt:IJ p=true):v.oneCell'=true:=by
 cases p with
 |agg cs=>
  exfalso
  simp only [xR] at ht
  have:=congrArg (fun l:Z PV=>SizeOf.sizeOf l) ht
  simp at this
  omega
 |tup ps=>cases htt
 |t t=>exact cH.one h
 |nil=>obtain rfl:=(show v=_ from h);rfl
 |acc sz es r=>
  obtain⟨row,h1,h2,h3,h4,h5⟩:=h
  exact h4.one
 |ptr k d=>obtain⟨h1,rfl⟩:=h;rfl
 |eptr cs=>obtain⟨b,off,rfl,h2⟩:=h;rfl
 |fn f cs=>obtain⟨vs,rfl,h2⟩:=h;rfl
 |full sz k r=>obtain⟨row,g,h1,h2,h3,h4,rfl⟩:=h;rfl
 |rptr r i=>obtain⟨row,g,k,h1,h3,h4,rfl⟩:=h;rfl
 |lit sz es=>exact cH.one h.1
 |bsl k n=>obtain⟨h1,rfl⟩:=h;rfl
 |gsl k n=>obtain⟨h1,c,hc,hm,rfl⟩:=h;rfl
def KB:Z PV→Bool
 | []=>true
 | .agg _::_=>false
 | .tup _::_=>false
 |_::ps=>KB ps
theorem KB.one{ok:Nat→Nat→Prop}{st:dL}{m:kQ}{w:World}: ∀ {ps:Z PV} {vs:Z Value},KB ps=true→iM ok st m w ps vs→ ∀v∈vs,v.oneCell'=true
 | [],[],_,_,v,hv=>by cases hv
 |p::ps,u::vs,hf,h,v,hv=>by
  have h2:KB ps=true:=by cases p<;>first|exact hf|cases hf
  rcases List.mem_cons.1 hv with rfl|hv
  ·cases p with
   |agg cs=>cases hf
   |tup cs=>cases hf
   |_=>exact h.1.oneCell rfl rfl
  ·exact KB.one h2 h.2 v hv
 | [],_::_,_,h,_,_=>h.elim
 |_::_,[],_,h,_,_=>h.elim
theorem cX.box{T:TypeId}{x:Operand}{p:PV}{cs:Z PV}(ho:o.op= .box T x)(hd:bL o.dst n=true)(hx:s.ev x=some p)(hc:xR p=cs)(ht:IJ p=true):cX P C n o s ((⟨s.env,s.st.addBox ⟨T,cs⟩⟩:AS).putO o.dst (.ptr s.st.boxes.length 0)):=
 cX.run hd (s1:=⟨s.env,s.st.addBox ⟨T,cs⟩⟩) (fun m a w h=>by
  subst hc
  have hr:=LV (h.eval hx) (MC ht)
  refine⟨.pointer (some ⟨w.heap.size,0,none⟩),_,w.alloc (.cells ⟨(a.eval x).cells.toList⟩ T),?_,LZ (x:=⟨T,xR p⟩),QB (x:=⟨T,xR p⟩) h.sto hr,⟨⟨T,xR p⟩,by simp [dL.addBox]⟩,by simp [cI]⟩
  unfold execOp
  simp [ho,Instr.box,newVar,newRow]) rfl
theorem JJ{T:TypeId}{B d:Nat}{v:Value}{w:World}{E:TypeId}{arr:Array Value}(hob:OB w B E arr)(hT:(P.info? T).map (·.size)=some v.cells.size)(hfit:d+v.cells.size≤arr.size)(h1: ∀u∈v.cells.toList,u.oneCell'=true):
 (storeVar T ⟨B,d,none⟩ v).run P w= .ok () (w.setRow B (splice arr d v.cells.toList)):=by
 have hst:=run_storeCells_at P B d E v.cells.toList 0 arr w hob (by simpa using hfit) h1
 cases hq:P.info? T with
 |none=>simp [hq] at hT
 |some i=>
  have hs:i.size=v.cells.size:=by simpa [hq] using hT
  simp only [storeVar]
  simp [Go.sizeOf,typeInfo,hq,hs,hst,splice]
theorem alI{vs rest us:Z Value}{d:Nat}(h:d+us.length≤vs.length):splice ⟨vs++rest⟩ d us=⟨(splice ⟨vs⟩ d us).toList++rest⟩:=by
 unfold splice
 simp only [List.append_assoc]
 rw [List.take_append_of_le_length (by omega),List.drop_append_of_le_length h]
theorem iM.splice{ok:Nat→Nat→Prop}{st:dL}{m:kQ}{w:World}{ps qs:Z PV}{vs us:Z Value}(h:iM ok st m w ps vs)(k:iM ok st m w qs us)(d:Nat):iM ok st m w (ps.take d++qs++ps.drop (d+qs.length)) (splice ⟨vs⟩ d us).toList:=by
 have:=iM.append (iM.append (h.take d) k) (h.drop (d+qs.length))
 rw [k.length] at this ⊢
 simpa [Go.Proofs.YtfcoaagbccmahaaGreat.splice] using this
theorem ae5{T:TypeId}{x y:Operand}{k d:Nat}{bx:dO}{p:PV}{cs ds:Z PV}(ho:o.op= .store T x y)(hx:s.ev x=some (.ptr k d))(hb:s.st.boxes[k]?=some (some bx))(hy:s.ev y=some p)(hc:xR p=cs)(ht:IJ p=true)(hf:KB cs=true)
 (hT:(P.info? T).map (·.size)=some cs.length) (hfit:d+cs.length≤bx.cells.length) (hds:bx.cells.take d++cs++bx.cells.drop (d+cs.length)=ds):cX P C n o s ((⟨s.env,s.st.setBox k ⟨bx.ty,ds⟩⟩:AS).delO o.dst):=
 ah3 (s1:=⟨s.env,s.st.setBox k ⟨bx.ty,ds⟩⟩) (fun m a w h=>by
  subst hc hds
  have hr:=LV (h.eval hy) (MC ht)
  obtain⟨-,h2⟩:=h.eval hx
  obtain⟨vs,⟨rest,h3⟩,h4⟩:=h.sto.box k bx hb
  have hl1:=hr.length
  have hl2:=h4.length
  have hft:d+(a.eval y).cells.toList.length≤vs.length:=by rw [← hl2];rw [hl1] at hfit;exact hfit
  have hrun:=JJ (P:=P) (T:=T) (d:=d) (v:=a.eval y) h3 (by rw [hT,hl1];simp) (by simp only [List.size_toArray,List.length_append];simp only [Array.length_toList] at hft;omega) (KB.one hf hr)
  rw [alI hft] at hrun
  have hother: ∀b,b≠m.ρ k→(w.setRow (m.ρ k) ⟨(splice ⟨vs⟩ d (a.eval y).cells.toList).toList++rest⟩).heap[b]?=w.heap[b]?:=fun b hb=>setRow_other w _ b _ hb
  refine⟨m,w.setRow (m.ρ k) ⟨(splice ⟨vs⟩ d (a.eval y).cells.toList).toList++rest⟩,?_,TI h.sto hb rfl rfl rfl (by simp) hother,abR (vs:=(splice ⟨vs⟩ d (a.eval y).cells.toList).toList) h.sto hb rfl rfl rfl (by simp) hother ⟨rest,?_⟩ (iM.splice h4 hr d)⟩
  ·unfold execOp
   simp [ho,h2,Instr.storeAt,Instr.sureAddr,hrun]
  ·exact setRow_heap w _ ⟨vs++rest⟩ _ _ _ h3) rfl
end
mutual
inductive PV.Le:PV→PV→Prop
 |refl (p:PV):PV.Le p p
 |nil (sz:Nat):PV.Le .nil (.t (.row sz []))
 |acc (sz:Nat) (es:List (List Tr)) (r:Nat):PV.Le (.acc sz es r) (.t (.row sz es))
 |lit (sz:Nat) (es:List (List Tr)):PV.Le (.lit sz es) (.t (.row sz es))
 |nilLit (sz:Nat):PV.Le .nil (.lit sz [])
 |agg {ps qs:List PV}:tN ps qs→PV.Le (.agg ps) (.agg qs)
 |tup {ps qs:List PV}:tN ps qs→PV.Le (.tup ps) (.tup qs)
inductive tN:List PV→List PV→Prop
 |nil:tN [] []
 |cons {p q:PV} {ps qs:List PV}:PV.Le p q→tN ps qs→tN (p::ps) (q::qs)
end
mutual
theorem PV.Le.rv{ok:Nat→Nat→Prop}{st:dL}{m:kQ}{w:World}: ∀ {p q:PV} {v:Value},PV.Le p q→RV ok st m w p v→RV ok st m w q v
 |_,_,_,.refl _,h=>h
 |_,_,_,.nil _,h=>by
  obtain rfl:=(show _=_ from h)
  exact cH.row (es:= []) (fun _ _=>undef) (by simp) (by unfold maxLen;omega) (by simp) (by simp)
 |_,_,_,.acc _ _ _,h=>by
  obtain⟨row,-,-,-,h4,-⟩:=h
  exact h4
 |_,_,_,.lit _ _,h=>h.1
 |_,_,_,.nilLit _,h=>by
  obtain rfl:=(show _=_ from h)
  exact⟨cH.row (es:= []) (fun _ _=>undef) (by simp) (by unfold maxLen;omega) (by simp) (by simp),none,rfl⟩
 |_,_,_,.agg k,h=>by
  obtain⟨vs,hv,h1⟩:=h
  exact⟨vs,hv,tN.rv k h1⟩
 |_,_,_,.tup k,h=>by
  obtain⟨vs,hv,h1⟩:=h
  exact⟨vs,hv,tN.rv k h1⟩
theorem tN.rv{ok:Nat→Nat→Prop}{st:dL}{m:kQ}{w:World}: ∀ {ps qs:Z PV} {vs:Z Value},tN ps qs→iM ok st m w ps vs→iM ok st m w qs vs
 |_,_,[],.nil,h=>h
 |_,_,_::_,.nil,h=>h.elim
 |_,_,[],.cons _ _,h=>h.elim
 |_,_,_::_,.cons k1 k2,h=>⟨PV.Le.rv k1 h.1,tN.rv k2 h.2⟩
end
mutual
def hM(st:dL):PV→Bool
 | .t _=>true
 | .agg cs=>mJ st cs
 | .tup cs=>mJ st cs
 | .nil=>true
 | .acc _ _ r=>decide (r<st.rows.length)
 | .ptr k _=>match st.boxes[k]? with|some (some _)=>true|_=>false
 | .eptr _=>true
 | .fn _ cs=>mJ st cs
 | .full _ _ r=>decide (r<st.rows.length)
 | .rptr r _=>decide (r<st.rows.length)
 | .lit _ _=>true
 | .bsl k _=>match st.boxes[k]? with|some (some _)=>true|_=>false
 | .gsl k _=>match st.boxes[k]? with|some (some _)=>true|_=>false
def mJ(st:dL):Z PV→Bool
 | []=>true
 |p::ps=>hM st p&&mJ st ps
end
structure xG (st st':dL):Prop where
 boxes: ∀(k:Nat) (x':dO),st'.boxes[k]?=some (some x')→ ∃x:dO,st.boxes[k]?=some (some x)∧x.ty=x'.ty∧tN x.cells x'.cells∧mJ st' x'.cells=true
 rows: ∀(r:Nat) (row':mV),st'.rows[r]?=some row'→st.rows[r]?=some row'
structure FZ (st st':dL):Prop where
 boxes: ∀(k:Nat) (x':dO),st'.boxes[k]?=some (some x')→ ∃x:dO,st.boxes[k]?=some (some x)
 rows: ∀(r:Nat) (row':mV),st'.rows[r]?=some row'→st.rows[r]?=some row'
theorem xG.sub{st st':dL}(h:xG st st'):FZ st st':=⟨fun k x hk=>by obtain⟨y,hy,-⟩:=h.boxes k x hk;exact⟨y,hy⟩,h.rows⟩
theorem FZ.ok{av:Nat→Nat→Prop}{st st':dL}(h:FZ st st'){m:kQ}{b o:Nat}(k:kV av st m b o):kV av st' m b o:=
 ⟨k.1,fun i x hi=>by obtain⟨y,hy⟩:=h.boxes i x hi;exact k.2.1 i y hy,fun r row g c hr=>k.2.2 r row g c (h.rows r row hr)⟩
theorem xG.ok{av:Nat→Nat→Prop}{st st':dL}(h:xG st st'){m:kQ}{b o:Nat}(k:kV av st m b o):kV av st' m b o:=h.sub.ok k
theorem xT{α:Type}{l:Z α}{i:Nat}(h:i<l.length): ∃x,l[i]?=some x:=⟨l[i],List.getElem?_eq_getElem h⟩
mutual
theorem FZ.rv{av:Nat→Nat→Prop}{st st':dL}(h:FZ st st'){m:kQ}{w:World}: ∀(p:PV) (v:Value),hM st' p=true→RV (kV av st m) st m w p v→RV (kV av st' m) st' m w p v
 | .t t,v,_,hr=>cH.mono hr (Nat.le_refl _) (fun _ _ _ k=>h.ok k) (fun _ _ _ _=>rfl)
 | .agg cs,v,hk,hr=>by
  obtain⟨vs,rfl,hl⟩:=hr
  exact⟨vs,rfl,FZ.rvL h cs vs hk hl⟩
 | .tup cs,v,hk,hr=>by
  obtain⟨vs,rfl,hl⟩:=hr
  exact⟨vs,rfl,FZ.rvL h cs vs hk hl⟩
 | .nil,v,_,hr=>hr
 | .acc sz es r,v,hk,hr=>by
  obtain⟨row,h1,h2,h3,h4,h5⟩:=hr
  obtain⟨row',hr'⟩:=xT (of_decide_eq_true hk)
  have:=h.rows r row' hr'
  rw [h1] at this
  cases this
  exact⟨row,hr',h2,h3,cH.mono h4 (Nat.le_refl _) (fun _ _ _ k=>h.ok k) (fun _ _ _ _=>rfl),h5⟩
 | .ptr k off,v,hk,hr=>by
  obtain⟨-,hv⟩:=hr
  refine⟨?_,hv⟩
  simp only [hM] at hk
  split at hk
  ·rename_i x hx
   exact⟨x,hx⟩
  ·cases hk
 | .eptr cs,v,_,hr=>by
  obtain⟨b,off,h1,hb,c,h2⟩:=hr
  refine⟨b,off,h1,hb,c,fun j d hd=>?_⟩
  obtain⟨k1,k2,k3⟩:=h2 j d hd
  exact⟨h.ok k1,k2,cH.mono k3 (Nat.le_refl _) (fun _ _ _ k=>h.ok k) (fun _ _ _ _=>rfl)⟩
 | .fn f caps,v,hk,hr=>by
  obtain⟨vs,rfl,hl⟩:=hr
  exact⟨vs,rfl,FZ.rvL h caps vs hk hl⟩
 | .full sz n r,v,hk,hr=>by
  obtain⟨row,g,h1,h2,h3,h4,h5⟩:=hr
  obtain⟨row',hr'⟩:=xT (of_decide_eq_true hk)
  have:=h.rows r row' hr'
  rw [h1] at this
  cases this
  exact⟨row,g,hr',h2,h3,h4,h5⟩
 | .rptr r i,v,hk,hr=>by
  obtain⟨row,g,n,h1,h3,h4,h5⟩:=hr
  obtain⟨row',hr'⟩:=xT (of_decide_eq_true hk)
  have:=h.rows r row' hr'
  rw [h1] at this
  cases this
  exact⟨row,g,n,hr',h3,h4,h5⟩
 | .lit sz es,v,_,hr=>⟨cH.mono hr.1 (Nat.le_refl _) (fun _ _ _ k=>h.ok k) (fun _ _ _ _=>rfl),hr.2⟩
 | .bsl k n,v,hk,hr=>by
  obtain⟨-,hv⟩:=hr
  refine⟨?_,hv⟩
  simp only [hM] at hk
  split at hk
  ·rename_i x hx
   exact⟨x,hx⟩
  ·cases hk
 | .gsl k n,v,hk,hr=>by
  obtain⟨-,hv⟩:=hr
  refine⟨?_,hv⟩
  simp only [hM] at hk
  split at hk
  ·rename_i x hx
   exact⟨x,hx⟩
  ·cases hk
theorem FZ.rvL{av:Nat→Nat→Prop}{st st':dL}(h:FZ st st'){m:kQ}{w:World}: ∀(ps:Z PV) (vs:Z Value),mJ st' ps=true→iM (kV av st m) st m w ps vs→iM (kV av st' m) st' m w ps vs
 | [],[],_,hr=>hr
 |p::ps,v::vs,hk,hr=>by
  simp only [mJ,Bool.and_eq_true] at hk
  exact⟨FZ.rv h p v hk.1 hr.1,FZ.rvL h ps vs hk.2 hr.2⟩
 | [],_::_,_,hr=>hr.elim
 |_::_,[],_,hr=>hr.elim
end
theorem xG.rv{av:Nat→Nat→Prop}{st st':dL}(h:xG st st'){m:kQ}{w:World}(p:PV)(v:Value):hM st' p=true→RV (kV av st m) st m w p v→RV (kV av st' m) st' m w p v:=h.sub.rv p v
theorem xG.rvL{av:Nat→Nat→Prop}{st st':dL}(h:xG st st'){m:kQ}{w:World}(ps:Z PV)(vs:Z Value):mJ st' ps=true→iM (kV av st m) st m w ps vs→iM (kV av st' m) st' m w ps vs:=h.sub.rvL ps vs
theorem xG.sto{av:Nat→Nat→Prop}{st st':dL}(h:xG st st'){m:kQ}{w:World}(k:fY av st m w):fY av st' m w where
 box:=fun i x hi=>by
  obtain⟨y,hy,ht,hl,hk⟩:=h.boxes i x hi
  obtain⟨vs,h1,h2⟩:=k.box i y hy
  exact⟨vs,by rw [← ht];exact h1,xG.rvL h _ _ hk (tN.rv hl h2)⟩
 binj:=fun i i' x x' hi hi'=>by
  obtain⟨y,hy,-⟩:=h.boxes i x hi
  obtain⟨y',hy',-⟩:=h.boxes i' x' hi'
  exact k.binj i i' y y' hy hy'
 row:=fun r row hr=>by
  obtain⟨h1,h2,h3⟩:=k.row r row (h.rows r row hr)
  refine⟨h1,h2,?_⟩
  rcases h3 with h3|⟨g,c,cur,q1,q2,q3,q4,q5,q6⟩
  ·exact .inl h3
  ·exact .inr ⟨g,c,cur,q1,q2,q3,q4,q5,cH.mono q6 (Nat.le_refl _) (fun _ _ _ k=>h.ok k) (fun _ _ _ _=>rfl)⟩
 rinj:=fun r r' row row' g c c' hr hr'=>k.rinj r r' row row' g c c' (h.rows r row hr) (h.rows r' row' hr')
 br:=fun i x r row g c hi hr=>by
  obtain⟨y,hy,-⟩:=h.boxes i x hi
  exact k.br i y r row g c hy (h.rows r row hr)
 avlt:=k.avlt
 avr:=fun r row g c hr=>k.avr r row g c (h.rows r row hr)
 avb:=fun i x hi=>by
  obtain⟨y,hy,-⟩:=h.boxes i x hi
  exact k.avb i y hy
def kT(pre st':dL):Prop:=(∀(k:Nat) (x:dO),pre.boxes[k]?=some (some x)→ ∃x':dO,st'.boxes[k]?=some (some x'))∧(∀(r:Nat) (row:mV),pre.rows[r]?=some row→ ∃row':mV,st'.rows[r]?=some row')
theorem xG.ev{pre st st':dL}(h:xG st st'){m0 m:kQ}{w0 w:World}(k:Ev pre m0 w0 st m w)(hp:kT pre st'):Ev pre m0 w0 st' m w where
 os:=k.os
 tape:=k.tape
 output:=k.output
 size:=k.size
 blk:=k.blk
 cell:=k.cell
 okk:=fun b o hb ho=>(h.ok (av:=fun _ _=>False) ⟨id,k.okk b o hb ho⟩).2
 live:=fun i x hi=>⟨hp.1 i x hi,(k.live i x hi).2⟩
 fresh:=fun i x' hi=>by
  obtain⟨y,hy,-⟩:=h.boxes i x' hi
  exact k.fresh i y hy
 rowl:=fun r row hr=>by
  obtain⟨row',hr'⟩:=hp.2 r row hr
  obtain⟨row2,h1,h2⟩:=k.rowl r row hr
  have:=h.rows r row' hr'
  rw [h1] at this
  cases this
  exact⟨_,hr',h2⟩
 rfresh:=fun r row' g c hr hg=>k.rfresh r row' g c (h.rows r row' hr) hg
def adK(s:AS)(st':dL):Z (Nat×PV)→Prop
 | []=>True
 |(i,q)::l=>(∃p,s.lk i=some p∧PV.Le p q∧hM st' q=true)∧adK s st' l
theorem adK.get{s:AS}{st':dL}: ∀ {l:Z (Nat×PV)} {i:Nat} {q:PV},adK s st' l→l.lookup i=some q→ ∃p,s.lk i=some p∧PV.Le p q∧hM st' q=true
 | [],_,_,_,h=>by simp at h
 |(k,p)::l,i,q,hl,h=>by
  rw [List.lookup_cons] at h
  by_cases hik:i=k
  ·subst hik
   simp at h
   subst h
   exact hl.1
  ·rw [show(i==k)=false by simp [hik]] at h
   exact adK.get hl.2 h
theorem Wk.mk{C:qT}{n:Nat}{s s':AS}(hst:xG s.st s'.st)(hp:kT C.st s'.st)(he:adK s s'.st s'.env):Wk C n s s':=fun m a w h=>
 ⟨m,h.dfr,h.tsz,hst.sto h.sto,fun i q hq=>by
  obtain⟨p,h1,h2,h3⟩:=he.get hq
  obtain⟨v,hv,hr⟩:=h.env i p h1
  exact⟨v,hv,hst.rv q v h3 (h2.rv hr)⟩,hst.ev h.ev hp⟩
def D6(st':dL):Z (J dO)→Z (J dO)→Prop
 |_,[]=>True
 |_::xs,none::ys=>D6 st' xs ys
 |some x::xs,some y::ys=>(x.ty=y.ty∧tN x.cells y.cells∧mJ st' y.cells=true)∧D6 st' xs ys
 |_,_=>False
theorem D6.get{st':dL}: ∀ {xs ys:Z (J dO)},D6 st' xs ys→ ∀(k:Nat) (y:dO),ys[k]?=some (some y)→ ∃x:dO,xs[k]?=some (some x)∧x.ty=y.ty∧tN x.cells y.cells∧mJ st' y.cells=true
 |_,[],_,k,y,h=>by simp at h
 | [],none::ys,hl,k,y,h=>hl.elim
 |x::xs,none::ys,hl,0,y,h=>by simp at h
 |none::xs,none::ys,hl,k+1,y,h=>by simpa using D6.get (xs:=xs) hl k y (by simpa using h)
 |some _::xs,none::ys,hl,k+1,y,h=>by simpa using D6.get (xs:=xs) hl k y (by simpa using h)
 |some x::xs,some z::ys,hl,0,y,h=>by
  simp at h
  subst h
  exact⟨x,rfl,hl.1⟩
 |some x::xs,some z::ys,hl,k+1,y,h=>by simpa using D6.get (xs:=xs) hl.2 k y (by simpa using h)
 | [],some _::_,hl,_,_,_=>hl.elim
 |none::_,some _::_,hl,_,_,_=>hl.elim
theorem StLe_mk'{st st':dL}(hb:D6 st' st.boxes st'.boxes)(hr:st.rows.take st'.rows.length=st'.rows):xG st st':=
 ⟨hb.get,fun r row' h=>by
  rw [← hr,List.getElem?_take] at h
  split at h
  ·exact h
  ·cases h⟩
theorem kT.nil{st':dL}:kT ⟨[],[]⟩ st':=⟨fun _ _ h=>by simp at h,fun _ _ h=>by simp at h⟩
def as0(P:Program)(s:AS):ResultVar→PV→Prop
 | .tmp i,p=>s.lk i=some p
 | .cell a T,p=> ∃k bx z,s.lk a=some (.ptr k 0)∧s.st.boxes[k]?=some (some bx)∧kA P T=some (true,z)∧bx.cells.length=z∧p= .agg bx.cells
def WP(P:Program)(s:AS):Z ResultVar→Z PV→Prop
 | [],[]=>True
 |r::rs,p::ps=>as0 P s r p∧WP P s rs ps
 |_,_=>False
section
variable {P:Program} {C:qT} {n:Nat} {s:AS}
def KT(tmps:Array Value):ResultVar→Sem Value
 | .tmp t=>pure (tmps.getD t undef)
 | .cell a t=>do loadVar t (← asAddr (tmps.getD a undef))
theorem as0.run{m:kQ}{a:Act}{w:World}(h:RA C n s m a w){r:ResultVar}{p:PV}(hr:as0 P s r p): ∃v,(KT a.tmps r).run P w= .ok v w∧RV (kV C.av s.st m) s.st m w p v:=by
 cases r with
 |tmp i=>
  obtain⟨v,hv,hr⟩:=h.env i p hr
  exact⟨v,by simp [KT,Array.getD_eq_getD_getElem?,hv],hr⟩
 |cell i T=>
  obtain⟨k,bx,z,h1,h2,h3,h4,rfl⟩:=hr
  obtain⟨v,hv,-,rfl⟩:=h.env i _ h1
  obtain⟨vs,h5,h6⟩:=h.sto.box k bx h2
  refine⟨.agg ⟨vs⟩,?_,vs,rfl,h6⟩
  have hld:=A7 (P:=P) (T:=T) (b:=m.ρ k) (off:=0) (cs:=vs) (w:=w) (by rw [← h6.length,h4];exact h3) (fun j v hj=>by rw [Nat.zero_add];exact h5.cell (by simpa using hj))
  simp [KT,Array.getD_eq_getD_getElem?,hv,asAddr,hld]
theorem aeD{α:Type}(f:α→Sem Value)(w:World): ∀(l:Z α) (vs:Z Value),(∀(i:Nat) x v,l[i]?=some x→vs[i]?=some v→(f x).run P w= .ok v w)→l.length=vs.length→(l.mapM f).run P w= .ok vs w
 | [],[],_,_=>by simp
 |x::l,v::vs,h,hl=>by
  rw [List.mapM_cons,Sem.run_bind,h 0 x v rfl rfl,Result.andThen_ok,Sem.run_bind,aeD f w l vs (fun i y u hy hu=>h (i+1) y u (by simpa using hy) (by simpa using hu)) (by simpa using hl),Result.andThen_ok]
  simp
 | [],_::_,_,h=>by simp at h
 |_::_,[],_,h=>by simp at h
theorem WP.run{m:kQ}{a:Act}{w:World}(h:RA C n s m a w): ∀ {rs:Z ResultVar} {ps:Z PV},WP P s rs ps→ ∃vs,iM (kV C.av s.st m) s.st m w ps vs∧vs.length=rs.length∧ ∀(i:Nat) r v,rs[i]?=some r→vs[i]?=some v→(KT a.tmps r).run P w= .ok v w
 | [],[],_=>⟨[],trivial,rfl,by simp⟩
 |r::rs,p::ps,hr=>by
  obtain⟨v,h1,h2⟩:=hr.1.run h
  obtain⟨vs,k1,k2,k3⟩:=WP.run h hr.2
  refine⟨v::vs,⟨h2,k1⟩,by simp [k2],fun i x u hx hu=>?_⟩
  cases i with
  |zero=>simp at hx hu;subst hx hu;exact h1
  |succ i=>exact k3 i x u (by simpa using hx) (by simpa using hu)
 | [],_::_,h=>h.elim
 |_::_,[],h=>h.elim
theorem ajX{fn:Func}{tmps:Array Value}{vs:Z Value}{w:World}(hl:vs.length=fn.results.toList.length)(h: ∀(i:Nat) r v,fn.results.toList[i]?=some r→vs[i]?=some v→(KT tmps r).run P w= .ok v w):
 (results fn tmps).run P w= .ok (if h:vs.length=1 then vs[0] else .tuple ⟨vs⟩) w:=by
 have hm:=aeD (P:=P) (KT tmps) w fn.results.toList vs h hl.symm
 have e:(fn.results.mapM (KT tmps)).run P w= .ok ⟨vs⟩ w:=by
  rw [← Array.toArray_toList (xs:=fn.results),List.mapM_toArray]
  simp [hm]
 have e2:results fn tmps=(do let vs ← fn.results.mapM (KT tmps);pure (if h:vs.size=1 then vs[0] else .tuple vs)):=by
  unfold results
  congr
 rw [e2,Sem.run_bind,e,Result.andThen_ok]
 simp
theorem D1.mk{fn:Func}{R:PV→dL→Prop}{e:Exit}{ps:Z PV}{res q:PV}{st':dL}(he:e= .normal∨e= .ret)(hr:WP P s fn.results.toList ps)(hres:(match ps with| [p]=>p|ps=> .tup ps)=res)
 (hst:xG s.st st') (hp:kT C.st st') (hle:PV.Le res q) (hk:hM st' q=true) (hR:R q st'):D1 P C n fn R e s:=by
 refine⟨he,fun m a w h=>?_⟩
 obtain⟨vs,h1,h2,h3⟩:=hr.run h
 refine⟨q,st',m,_,ajX h2 h3,hR,hst.sto h.sto,hst.ev h.ev hp,hst.rv q _ hk (hle.rv ?_)⟩
 subst hres
 match ps,vs,h1 with
 | [p],[v],h1=>exact h1.1
 | [],[],h1=>exact⟨[],rfl,trivial⟩
 |p::p'::ps,v::v'::vs,h1=>exact⟨_,by simp,h1⟩
end
theorem cM.mono{P:Program}{f:FuncId}{args:Z PV}{pre:dL}{R R':PV→dL→Prop}(h:cM P f args pre R)(hr: ∀r st,R r st→R' r st):cM P f args pre R':=fun av m w vals h1 h2=>
 (h av m w vals h1 h2).mono fun e w'=>by
  rintro⟨res,st',m',v,k1,k2,k3⟩
  exact⟨res,st',m',v,k1,hr _ _ k2,k3⟩
def bU(P:Program)(f:FuncId)(args:Z PV)(res:PV):Prop:=cM P f args ⟨[],[]⟩ (fun r st'=>r=res∧st'=⟨[],[]⟩)
mutual
def PV.free:PV→Bool
 | .t _=>true
 | .agg cs=>lW cs
 | .tup cs=>lW cs
 | .nil=>true
 | .eptr _=>true
 | .fn _ cs=>lW cs
 |_=>false
def lW:Z PV→Bool
 | []=>true
 |p::ps=>PV.free p&&lW ps
end
mutual
theorem PV.free.rv{ok ok':Nat→Nat→Prop}{st st':dL}{m m':kQ}{w:World}(hk: ∀b o,b<w.heap.size→ok b o→ok' b o): ∀(p:PV) (v:Value),PV.free p=true→RV ok st m w p v→RV ok' st' m' w p v
 | .t t,v,_,hr=>cH.mono hr (Nat.le_refl _) hk (fun _ _ _ _=>rfl)
 | .agg cs,v,hf,hr=>by
  obtain⟨vs,rfl,hl⟩:=hr
  exact⟨vs,rfl,lW.rv hk cs vs hf hl⟩
 | .tup cs,v,hf,hr=>by
  obtain⟨vs,rfl,hl⟩:=hr
  exact⟨vs,rfl,lW.rv hk cs vs hf hl⟩
 | .nil,v,_,hr=>hr
 | .eptr cs,v,_,hr=>by
  obtain⟨b,off,h1,hb,c,h2⟩:=hr
  refine⟨b,off,h1,hb,c,fun j d hd=>?_⟩
  obtain⟨k1,k2,k3⟩:=h2 j d hd
  exact⟨hk _ _ hb k1,k2,cH.mono k3 (Nat.le_refl _) hk (fun _ _ _ _=>rfl)⟩
 | .fn f cs,v,hf,hr=>by
  obtain⟨vs,rfl,hl⟩:=hr
  exact⟨vs,rfl,lW.rv hk cs vs hf hl⟩
 | .acc _ _ _,_,hf,_=>by cases hf
 | .ptr _ _,_,hf,_=>by cases hf
 | .full _ _ _,_,hf,_=>by cases hf
 | .rptr _ _,_,hf,_=>by cases hf
 | .lit _ _,_,hf,_=>by cases hf
 | .bsl _ _,_,hf,_=>by cases hf
 | .gsl _ _,_,hf,_=>by cases hf
theorem lW.rv{ok ok':Nat→Nat→Prop}{st st':dL}{m m':kQ}{w:World}(hk: ∀b o,b<w.heap.size→ok b o→ok' b o): ∀(ps:Z PV) (vs:Z Value),lW ps=true→iM ok st m w ps vs→iM ok' st' m' w ps vs
 | [],[],_,hr=>hr
 |p::ps,v::vs,hf,hr=>by
  simp only [lW,Bool.and_eq_true] at hf
  exact⟨PV.free.rv hk p v hf.1 hr.1,lW.rv hk ps vs hf.2 hr.2⟩
 | [],_::_,_,hr=>hr.elim
 |_::_,[],_,hr=>hr.elim
end
theorem fY.nil{av:Nat→Nat→Prop}{m:kQ}{w:World}(h: ∀b o,av b o→b<w.heap.size):fY av ⟨[],[]⟩ m w:=
 ⟨fun _ _ h=>by simp at h,fun _ _ _ _ h=>by simp at h,fun _ _ h=>by simp at h,fun _ _ _ _ _ _ _ h=>by simp at h,fun _ _ _ _ _ _ h=>by simp at h,h,fun _ _ _ _ h=>by simp at h,fun _ _ h=>by simp at h⟩
theorem XS{av:Nat→Nat→Prop}{st:dL}{m:kQ}{w:World}(h:fY av st m w){b:Nat}(hb:w.heap.size≤b)(o:Nat):kV av st m b o:=
 ⟨fun ha=>by have:=h.avlt _ _ ha;omega,fun k x hk e=>by have:=h.box_lt hk;omega,fun r row g c hr hg e=>by have:=h.row_lt hr hg;omega⟩
section
variable {P:Program} {C:qT} {n:Nat} {s:AS} {o:Oper}
theorem evL{m:kQ}{a:Act}{w:World}(h:RA C n s m a w): ∀ {xs:Z Operand} {ps:Z PV},xs.map s.ev=ps.map some→iM (kV C.av s.st m) s.st m w ps (xs.map a.eval)
 | [],[],_=>trivial
 |x::xs,p::ps,hx=>by
  simp only [List.map_cons,List.cons.injEq] at hx
  exact⟨h.eval hx.1,evL h hx.2⟩
 | [],_::_,hx=>by simp at hx
 |_::_,[],hx=>by simp at hx
def avY(C:qT)(s:AS)(m:kQ)(w:World)(b o:Nat):Prop:=b<w.heap.size∧ ¬kV C.av s.st m b o
theorem cX.enter{f:FuncId}{fn:Func}{ps qs:Z PV}{res:PV}(hd:bL o.dst n=true)(_hf:P.funcs[f]?=some fn)(_hnm:(fn.name== "runtime.NumGoroutine")=false)(_hb:fn.body.isNone=false)
 (hrun: ∀m a w,RA C n s m a w→ ∃vals,(execOp a.eval o).run P w= .ok (.enter f ⟨vals⟩) w∧iM (kV C.av s.st m) s.st m w ps vals) (hle:tN ps qs) (hfr:lW qs=true) (hfr':PV.free res=true) (hc:bU P f qs res):
 cX P C n o s (s.putO o.dst res):=fun m a w h K Q hK=>by
 obtain⟨vals,h1,h2⟩:=hrun m a w h
 unfold Oper.wp
 rw [h1]
 have h3:=hc (avY C s m w) m w vals (fY.nil fun b o hb=>hb.1) (lW.rv (fun b o hb hk=>⟨fun hs=>hs.2 hk,fun _ _ h=>by simp at h,fun _ _ _ _ h=>by simp at h⟩) _ _ hfr (tN.rv hle h2))
 refine Calls.mono h3 fun e w'=>?_;rintro⟨r,st',m',v,rfl,⟨rfl,rfl⟩,h4,h5,h6⟩
 have hx:wI w w':=⟨h5.os,h5.tape,h5.output,h5.size,fun b hb=>h5.blk b hb (fun _ _ h=>by simp at h) (fun _ _ _ _ h=>by simp at h)⟩
 have hk: ∀b o,b<w'.heap.size→kV (avY C s m w) ⟨[],[]⟩ m' b o→kV C.av s.st m b o:=fun b o hb hk=>by
  rcases Nat.lt_or_ge b w.heap.size with hlt|hge
  ·exact Classical.byContradiction fun hn=>hk.1 ⟨hlt,hn⟩
  ·exact XS h.sto hge o
 exact hK m _ w' ((h.step (Ev.later hx) (h.sto.later hx)).put (c4 hd) (PV.free.rv hk _ _ hfr' h6))
theorem LN{f:FuncId}{fn:Func}{xs:Z Operand}{ts:Array TypeId}{ps qs:Z PV}{res:PV}(ho:o.op= .call { callee:= .value (.func f),args:=⟨xs⟩,argTypes:=ts })(hd:bL o.dst n=true)(hf:P.funcs[f]?=some fn)(hnm:(fn.name== "runtime.NumGoroutine")=false)(hb:fn.body.isNone=false)
 (hx:xs.map s.ev=ps.map some) (hle:tN ps qs) (hfr:lW qs=true) (hfr':PV.free res=true) (hc:bU P f qs res):cX P C n o s (s.putO o.dst res):=
 cX.enter hd hf hnm hb (fun m a w h=>⟨xs.map a.eval,by
  have hcf:=jF (P:=P) hf hnm hb
  unfold execOp
  simp only [ho]
  simp [resolve,invoke,Deferred.ofValue,Act.eval,hcf],evL h hx⟩) hle hfr hfr' hc
theorem apY{y:Operand}{f:FuncId}{fn:Func}{xs:Z Operand}{ts:Array TypeId}{ps cs qs:Z PV}{res:PV}(ho:o.op= .call { callee:= .value y,args:=⟨xs⟩,argTypes:=ts })(hd:bL o.dst n=true)(hy:s.ev y=some (.fn f cs))(hf:P.funcs[f]?=some fn)(hnm:(fn.name== "runtime.NumGoroutine")=false)(hb:fn.body.isNone=false)
 (hx:xs.map s.ev=ps.map some) (hle:tN (ps++cs) qs) (hfr:lW qs=true) (hfr':PV.free res=true) (hc:bU P f qs res):cX P C n o s (s.putO o.dst res):=
 cX.enter hd hf hnm hb (ps:=ps++cs) (fun m a w h=>by
  obtain⟨vs,h1,h2⟩:=h.eval hy
  refine⟨xs.map a.eval++vs,?_,iM.append (evL h hx) h2⟩
  have hcf:=jF (P:=P) hf hnm hb
  unfold execOp
  simp only [ho]
  simp [resolve,invoke,Deferred.ofValue,h1,hcf]) hle hfr hfr' hc
end
theorem mG{p:Prop}(h:p:=by(repeat' (first|exact PV.Le.refl _|exact tN.nil|exact PV.Le.nil _|exact PV.Le.acc _ _ _|exact PV.Le.lit _ _|exact PV.Le.nilLit _|apply tN.cons|apply PV.Le.agg|apply PV.Le.tup))):p:=h
section
variable {P:Program} {C:qT} {n:Nat} {s:AS} {Q:Exit→AS→Prop} {o:Oper}
theorem S0{c:Code}{ι:Type}(Jj:ι→Prop)(I:ι→AS)(μ:ι→Nat)(i0:ι)(hj:Jj i0)(h0:Wk C n s (I i0))(round: ∀i,Jj i→dR P C n c (abU (fun s'=> ∃j,Jj j∧Wk C n s' (I j)∧μ j<μ i) Q) (I i)):dR P C n (.loop c) Q s:=
 dR.loop (ι:= { i//Jj i }) (fun i=>I i.1) (fun i=>μ i.1) ⟨i0,hj⟩ h0 fun i=>dR.mono (round i.1 i.2) fun e s' h=>by
  cases e with
  |normal=>
   obtain⟨j,h1,h2,h3⟩:=h
   exact⟨⟨j,h1⟩,h2,h3⟩
  |_=>exact h
theorem dR.fact{c:Code}{F:Prop}(h: ∀m a w,RA C n s m a w→F)(k:F→dR P C n c Q s):dR P C n c Q s:=fun m a w hr=>k (h m a w hr) m a w hr
theorem AL.fact{ops:Array Oper}{l:Z Oper}{F:Prop}(h: ∀m a w,RA C n s m a w→F)(k:F→AL P C n ops l Q s):AL P C n ops l Q s:=fun m a w hr=>k (h m a w hr) m a w hr
theorem axC(i:Nat){p:PV}{sz:Nat}{es:Z (Z Tr)}(hx:s.lk i=some p)(hp:mK p=some (sz,es)): ∀m a w,RA C n s m a w→es.length≤9223372036854775807:=fun m a w h=>by
 obtain⟨v,-,hr⟩:=h.env i p hx
 obtain⟨ad,cap,-,h2,h3⟩:=(uL hp hr).shape
 unfold maxLen at h3
 omega
theorem au3(k j:Nat){bx:dO}{p:PV}{sz:Nat}{es:Z (Z Tr)}(hb:s.st.boxes[k]?=some (some bx))(hx:bx.cells[j]?=some p)(hp:mK p=some (sz,es)): ∀m a w,RA C n s m a w→es.length≤9223372036854775807:=fun m a w h=>by
 obtain⟨vs,-,h1⟩:=h.sto.box k bx hb
 obtain⟨v,-,hr⟩:=h1.get hx
 obtain⟨ad,cap,-,h2,h3⟩:=(uL hp hr).shape
 unfold maxLen at h3
 omega
theorem WG.acc{av:Nat→Nat→Prop}{st:dL}{m:kQ}{w:World}{r:Nat}{row:mV}{es2:Z (Z Tr)}{g c:Nat}{cur:Array Value}{w1:World}(h:WG av st m w r row es2 g c cur w1)(hst:fY av st m w):
 RV (kV av (st.setRow r { row with es:=row.es++es2 }) ⟨m.ρ,CR m.γ r (some (g,c))⟩) (st.setRow r { row with es:=row.es++es2 }) ⟨m.ρ,CR m.γ r (some (g,c))⟩ w1 (.acc row.sz (row.es++es2) r) (.slice (some ⟨g,0,none⟩) (row.es.length+es2.length) c):=by
 have hl:(st.setRow r { row with es:=row.es++es2 }).rows[r]?=some { row with es:=row.es++es2 }:=by
  show(st.rows.set r _)[r]?=_
  simp [List.getElem?_set,dK h.live]
 obtain⟨-,-,h3⟩:=(h.sto hst).row r _ hl
 refine⟨_,hl,rfl,Nat.le_refl _,?_,fun _=>by simp [cI,Z5]⟩
 rcases h3 with⟨h4,-⟩|⟨g',c',cur',h4,-,-,-,-,h5⟩
 ·simp [cI] at h4
 ·simp only [cI,Option.some.injEq,Prod.mk.injEq] at h4
  obtain⟨rfl,rfl⟩:=h4
  simpa using h5
theorem aqJ{T E sz by_:Nat}{x y:Operand}{es es2:Z (Z Tr)}{r:Nat}{row:mV}{p:PV}{m:kQ}{a:Act}{w:World}(ho:o.op= .call { callee:= .builtin .append,args:= #[x,y],argTypes:= #[T,T] })
 (h:RA C n s m a w) (hx':RV (kV C.av s.st m) s.st m w (.acc sz es r) (a.eval x)) (hrow:s.st.rows[r]?=some row) (hes:row.es=es) (hE:row.E=E) (hw:row.whole=false) (hy:s.ev y=some p) (hp:mK p=some (sz,es2)) (h2: ∀e∈es2,e.length=sz)
 (hT:elemOf? P T=some (E,sz,by_)) (hz:(P.info? E).bind (fun i=>i.zero.map (fun z=>z.cells.size))=some sz) (hb:0<by_) (hlen:(es.length+es2.length)*by_≤140737488355328):
 ∃v m1 w1,(execOp a.eval o).run P w= .ok (.value v) w1∧Ev s.st m w (s.st.setRow r { row with es:=es++es2 }) m1 w1∧fY C.av (s.st.setRow r { row with es:=es++es2 }) m1 w1∧RV (kV C.av (s.st.setRow r { row with es:=es++es2 }) m1) (s.st.setRow r { row with es:=es++es2 }) m1 w1 (.acc sz (es++es2) r) v:=by
 subst hes hE
 obtain⟨i,hu,hi,hs,hby⟩:=elemOf?.spec hT
 obtain⟨row',k1,k2,k3,k4,k5⟩:=hx'
 rw [hrow] at k1
 cases k1
 subst k2
 have k2:row.sz=row.sz:=rfl
 have k5:=k5 rfl
 have h3:=uL hp (h.eval hy)
 obtain⟨hpos,hlens,hplace⟩:=h.sto.row r row hrow
 rw [k2] at hpos
 by_cases hne:es2= []
 ·
  subst hne
  have hst:s.st.setRow r { row with es:=row.es++ [] }=s.st:=by
   have e1:({ row with es:=row.es++ [] }:mV)=row:=by simp
   rw [e1]
   unfold dL.setRow
   have e2:s.st.rows.set r row=s.st.rows:=by
    apply List.ext_getElem?
    intro j
    rw [List.getElem?_set]
    split
    ·rename_i e;subst e;rw [if_pos (dK hrow),hrow]
    ·rfl
   rw [e2]
  obtain⟨ad,cap,hv,hlc,hcm⟩:=k4.shape
  obtain⟨ad2,cap2,hv2,-,-⟩:=h3.shape
  refine⟨a.eval x,m,w,?_,by rw [hst];exact Ev.refl _ _ _,by rw [hst];exact h.sto,?_⟩
  ·unfold execOp
   simp only [ho,resolve,invoke,builtin,Sem.run_bind,Sem.run_pure,Result.andThen_ok,List.map_toArray,List.map_cons,List.map_nil,hv,hv2]
   have hfc: ∀W,(Builtin.firstCells i.size 0 (.slice ad2 0 cap2)).run P W= .ok #[] W:=fun W=>by
    cases ad2 with
    |none=>simp [Builtin.firstCells]
    |some q=>simp [Builtin.firstCells,loadCells,loadCellsFrom]
   cases ad with
   |none=>simp [Builtin.append_,run_underlying hu,Go.sizeOf,typeInfo,hi,Builtin.lenOf,hlc,hfc]
   |some q=>simp [Builtin.append_,run_underlying hu,Go.sizeOf,typeInfo,hi,Builtin.lenOf,hlc,hfc,storeCells]
  ·rw [hst,List.append_nil]
   exact⟨row,hrow,k2,Nat.le_refl _,k4,fun _=>k5⟩
 ·obtain⟨b,off,c2,news,hv2,hnl,hnews,hone,hnd⟩:=h3.news h2 hne hpos
  have hpos2:0<es2.length:=List.length_pos_iff.2 hne
  have hlen:(row.es.length+es2.length)*i.bytes≤140737488355328:=by rw [hby];exact hlen
  have h63:row.es.length+es2.length≤140737488355328:=Nat.le_trans (Nat.le_mul_of_pos_right _ (by omega)) hlen
  cases hzz:i.zero with
  |none=>simp [hi,hzz] at hz
  |some z=>
   have hzs:z.cells.size=row.sz:=by simpa [hi,hzz] using hz
   have hrun: ∀v w1,(Builtin.append_ #[T,T] o.type #[a.eval x,a.eval y]).run P w= .ok v w1→(execOp a.eval o).run P w= .ok (.value v) w1:=fun v w1 hr=>by
    unfold execOp
    simp only [ho,resolve,invoke,builtin,Sem.run_bind,Sem.run_pure,Result.andThen_ok,List.map_toArray,List.map_cons,List.map_nil,hr]
   have hnew: ∀(cur:Array Value) (pre post:Z Value),cur.toList=pre++(news++post)→pre.length=row.es.length*row.sz→ ∀q e,es2[q]?=some e→ ∀j d,e[j]?=some d→ ∃v,cur[(row.es.length+q)*row.sz+j]?=some v∧cH (kV C.av s.st m) w d v:=fun cur pre post hcur hpl q e hq j d hd=>by
    obtain⟨v,hv,hr⟩:=hnd q e hq j d hd
    refine⟨v,?_,hr⟩
    rw [← Array.getElem?_toList,hcur,Nat.add_mul,Nat.add_assoc,← hpl,List.getElem?_append_right (by omega),Nat.add_sub_cancel_left,k2,List.getElem?_append_left (dK hv),hv]
   rcases hplace with⟨hg0,he0⟩|⟨g,c,cur,hg,hob,hcs,hfit,hmax,hrep⟩
   ·
    have hx0:a.eval x= .slice none 0 0:=by rw [k5,hg0];rfl
    have hl0:row.es.length=0:=by rw [he0];rfl
    have happ:=run_append_nil (P:=P) w T o.type row.E i z hu hi hzz ⟨b,off,none⟩ es2.length c2 news (by rw [hnl,hs]) hnews (by omega) (by omega) (by rw [hl0,Nat.zero_add] at hlen;omega)
    rw [← hv2,← hx0] at happ
    have hG:WG C.av s.st m w r row es2 w.heap.size (grownCap w es2.length 0 row.E) (news.toArray++Builtin.zeroCells z.cells (grownCap w es2.length 0 row.E-es2.length)) (w.drew.alloc (.cells (news.toArray++Builtin.zeroCells z.cells (grownCap w es2.length 0 row.E-es2.length)) row.E)):=by
     have hge:=grownCap_ge w es2.length 0 row.E
     refine⟨hrow,rfl,rfl,rfl,by simp,fun b hb _=>Below.heap_alloc w.drew _ b hb,heap_alloc_new w.drew _,?_,by omega,grownCap_le_maxLen w _ _ _ (by unfold maxLen;omega),fun e he=>by rw [k2];exact h2 e he,fun q e hq=>by rw [he0] at hq;simp at hq,hnew _ [] (Builtin.zeroCells z.cells (grownCap w es2.length 0 row.E-es2.length)).toList (by simp) (by rw [hl0];simp),.inr (Nat.le_refl _),fun hc=>?_⟩
     ·rw [Array.size_append,size_zeroCells,hzs,k2]
      simp only [List.size_toArray,hnl]
      rw [← Nat.add_mul]
      congr 1
      omega
     ·rcases hc with hc|hc
      ·rw [hw] at hc;cases hc
      ·exact absurd hc hne
    refine⟨_,_,_,hrun _ _ happ,hG.ev h.sto,hG.sto h.sto,?_⟩
    have:=hG.acc h.sto
    rw [hl0,Nat.zero_add,k2] at this
    exact this
   ·have hx0:a.eval x= .slice (some ⟨g,0,none⟩) row.es.length c:=by rw [k5,hg];rfl
    have hold: ∀q e,row.es[q]?=some e→ ∀j d,e[j]?=some d→ ∃v,cur[q*row.sz+j]?=some v∧cH (kV C.av s.st m) w d v:=fun q e hq j d hd=>by
     cases hrep with
     |row cf q1 q2 q3 q4=>
      obtain⟨b',off',hbo,hb',q5⟩:=q3 (by rintro e0;rw [e0] at hq;simp at hq)
      injection hbo with hbo
      injection hbo with e1 e2 e3
      subst e1 e2
      have:=(q5 q e hq j d hd).2
      rw [hob.cell,Nat.zero_add] at this
      exact⟨cf q j,this,q4 q e hq j d hd⟩
    have hfitc:row.es.length*row.sz≤cur.size:=by rw [hcs];exact Nat.mul_le_mul_right _ hfit
    by_cases hroom:row.es.length+es2.length≤c
    ·have hcap:row.es.length*i.size+news.length≤cur.size:=by rw [hnl,hcs,hs,k2,← Nat.add_mul];exact Nat.mul_le_mul_right _ hroom
     have happ:=run_append_room (P:=P) w T o.type row.E i hu hi g row.es.length c cur hob ⟨b,off,none⟩ es2.length c2 news (by rw [hnl,hs]) hnews hone hroom hcap
     rw [← hv2,← hx0] at happ
     rw [hs,← k2] at happ
     have hcl:(cur.toList.take (row.es.length*row.sz)).length=row.es.length*row.sz:=by simp;omega
     have hG:WG C.av s.st m w r row es2 g c (cur.toList.take (row.es.length*row.sz)++news++cur.toList.drop (row.es.length*row.sz+news.length)).toArray (w.setRow g (cur.toList.take (row.es.length*row.sz)++news++cur.toList.drop (row.es.length*row.sz+news.length)).toArray):=by
      refine⟨hrow,rfl,rfl,rfl,by simp,fun b hb hne=>setRow_other w g b _ hne,setRow_heap w g cur _ _ _ hob,?_,hroom,hmax,fun e he=>by rw [k2];exact h2 e he,fun q e hq j d hd=>?_,hnew _ _ _ (by simp [List.append_assoc];rfl) hcl,.inl ⟨c,cur,hg,hob,fun o ho=>?_⟩,fun _=>hg⟩
      ·rw [hs,k2.symm] at hcap
       simp only [List.size_toArray,List.length_append,hcl,List.length_drop,Array.length_toList]
       omega
      ·obtain⟨v,hv,hr⟩:=hold q e hq j d hd
       refine⟨v,?_,hr⟩
       have hq1:=dK hq
       have hj1:j<row.sz:=by rw [← hlens e (List.mem_of_getElem? hq)];exact dK hd
       have hlt:q*row.sz+j<row.es.length*row.sz:=by
        have:(q+1)*row.sz≤row.es.length*row.sz:=Nat.mul_le_mul_right _ hq1
        rw [Nat.succ_mul] at this
        omega
       rw [List.getElem?_toArray,List.append_assoc,List.getElem?_append_left (by rw [hcl];exact hlt),List.getElem?_take,if_pos hlt,Array.getElem?_toList,hv]
      ·rw [List.getElem?_toArray,List.append_assoc,List.getElem?_append_left (by rw [hcl];exact ho),List.getElem?_take,if_pos ho,Array.getElem?_toList]
     have hgm:CR m.γ r (some (g,c))=m.γ:=by
      funext q
      by_cases hqr:q=r
      ·subst hqr;rw [cI,hg]
      ·rw [eP hqr]
     refine⟨_,_,_,hrun _ _ happ,hG.ev h.sto,hG.sto h.sto,?_⟩
     have:=hG.acc h.sto
     rw [k2] at this
     exact this
    ·have happ:=run_append_grow (P:=P) w T o.type row.E i z hu hi hzz ⟨g,0,none⟩ row.es.length c (cur.toList.take (row.es.length*row.sz)) (by rw [hs,← k2];simp;omega) (fun j v hj=>by
      have hjl:=dK hj
      rw [List.getElem?_take] at hj
      split at hj
      ·rename_i hjl2
       have hadd:(⟨g,0,none⟩:Addr).add j=⟨g,j,none⟩:=by unfold Addr.add;split<;>simp_all
       rw [hadd,hob.cell]
       simpa using hj
      ·cases hj) ⟨b,off,none⟩ es2.length c2 news (by rw [hnl,hs]) hnews (by omega) (by omega) (growslice_fits (by omega) hlen)
     rw [← hv2,← hx0] at happ
     have hcl:(cur.toList.take (row.es.length*row.sz)).length=row.es.length*row.sz:=by simp;omega
     have hG:WG C.av s.st m w r row es2 w.heap.size (grownCap w (row.es.length+es2.length) c row.E) ((cur.toList.take (row.es.length*row.sz)).toArray++news.toArray++Builtin.zeroCells z.cells (grownCap w (row.es.length+es2.length) c row.E-(row.es.length+es2.length))) (w.drew.alloc (.cells ((cur.toList.take (row.es.length*row.sz)).toArray++news.toArray++Builtin.zeroCells z.cells (grownCap w (row.es.length+es2.length) c row.E-(row.es.length+es2.length))) row.E)):=by
      have hge:=grownCap_ge w (row.es.length+es2.length) c row.E
      refine⟨hrow,rfl,rfl,rfl,by simp,fun b hb _=>Below.heap_alloc w.drew _ b hb,heap_alloc_new w.drew _,?_,hge,grownCap_le_maxLen w _ _ _ (by unfold maxLen;omega),fun e he=>by rw [k2];exact h2 e he,fun q e hq j d hd=>?_,hnew _ _ _ (by simp [List.append_assoc];rfl) hcl,.inr (Nat.le_refl _),fun hc=>?_⟩
      ·rw [Array.size_append,Array.size_append,size_zeroCells,hzs]
       simp only [List.size_toArray,hcl,hnl,← k2]
       rw [← Nat.add_mul,← Nat.add_mul]
       congr 1
       omega
      ·obtain⟨v,hv,hr⟩:=hold q e hq j d hd
       refine⟨v,?_,hr⟩
       have hq1:=dK hq
       have hj1:j<row.sz:=by rw [← hlens e (List.mem_of_getElem? hq)];exact dK hd
       have hlt:q*row.sz+j<row.es.length*row.sz:=by
        have:(q+1)*row.sz≤row.es.length*row.sz:=Nat.mul_le_mul_right _ hq1
        rw [Nat.succ_mul] at this
        omega
       rw [Array.append_assoc,Array.getElem?_append_left (by rw [List.size_toArray,hcl];exact hlt),List.getElem?_toArray,List.getElem?_take,if_pos hlt,Array.getElem?_toList,hv]
      ·rcases hc with hc|hc
       ·rw [hw] at hc;cases hc
       ·exact absurd hc hne
     refine⟨_,_,_,hrun _ _ happ,hG.ev h.sto,hG.sto h.sto,?_⟩
     have:=hG.acc h.sto
     rw [k2] at this
     exact this
theorem cX.append{T E sz by_:Nat}{x y:Operand}{es es2:Z (Z Tr)}{r:Nat}{row:mV}{p:PV}(ho:o.op= .call { callee:= .builtin .append,args:= #[x,y],argTypes:= #[T,T] })(hd:bL o.dst n=true)
 (hx:s.ev x=some (.acc sz es r)) (hrow:s.st.rows[r]?=some row) (hes:row.es=es) (hE:row.E=E) (hw:row.whole=false) (hy:s.ev y=some p) (hp:mK p=some (sz,es2)) (h2: ∀e∈es2,e.length=sz)
 (hT:elemOf? P T=some (E,sz,by_)) (hz:(P.info? E).bind (fun i=>i.zero.map (fun z=>z.cells.size))=some sz) (hb:0<by_) (hlen:(es.length+es2.length)*by_≤140737488355328):
 cX P C n o s ((⟨s.env,s.st.setRow r { row with es:=es++es2 }⟩:AS).putO o.dst (.acc sz (es++es2) r)):=
 cX.run hd (s1:=⟨s.env,s.st.setRow r { row with es:=es++es2 }⟩) (fun m a w h=>aqJ ho h (h.eval hx) hrow hes hE hw hy hp h2 hT hz hb hlen) rfl
end
theorem TH{av:Nat→Nat→Prop}{st:dL}{m:kQ}{w:World}{row:mV}{c:Nat}{cur:Array Value}(_hst:fY av st m w):Ev st m w (st.addRow row) ⟨m.ρ,CR m.γ st.rows.length (some (w.heap.size,c))⟩ (w.alloc (.cells cur row.E)):=by
 have hx:wI w (w.alloc (.cells cur row.E)):= .alloc (.refl _) _
 refine⟨hx.os,hx.tape,hx.output,hx.size,fun b hb _ _=>hx.block b hb,fun b o hb _=>kR (hx.block b hb),fun b o hb h=>⟨h.1,fun i row' g c' hi hg e=>?_⟩,fun _ x h=>⟨⟨x,h⟩,rfl⟩,fun _ x h=> .inl ⟨x,h⟩,fun i row' hi=>⟨row',?_,rfl,Nat.le_refl _,fun _=>?_,fun hw=>⟨hw,?_⟩⟩,fun i row' g c' hi hg=>?_⟩
 ·rcases getElem?_snoc hi with⟨h1,h2⟩|⟨rfl,rfl⟩
  ·simp only [eP (show i≠st.rows.length by omega)] at hg
   exact h.2 i row' g c' h2 hg e
  ·simp only [cI,Option.some.injEq,Prod.mk.injEq] at hg
   omega
 ·show(st.rows++ [row])[i]?=_
  rw [List.getElem?_append_left (dK hi)];exact hi
 ·exact eP (by have:=dK hi;omega)
 ·exact eP (by have:=dK hi;omega)
 ·rcases getElem?_snoc hi with⟨h1,h2⟩|⟨rfl,rfl⟩
  ·simp only [eP (show i≠st.rows.length by omega)] at hg
   exact .inl ⟨row',c',h2,hg⟩
  ·simp only [cI,Option.some.injEq,Prod.mk.injEq] at hg
   exact .inr (by omega)
theorem J5(ok:Nat→Nat→Prop)(w:World)(sz:Nat)(a:J Addr){c:Nat}(hc:c≤maxLen):cH ok w (.row sz []) (.slice a 0 c):=cH.row (es:= []) (fun _ _=>undef) (by simp) hc (by simp) (by simp)
theorem abQ{av:Nat→Nat→Prop}{st:dL}{m:kQ}{w:World}{row:mV}{c:Nat}{cur:Array Value}(h:fY av st m w)(hp:0<row.sz)(he:row.es= [])(hc:cur.size=c*row.sz)(hm:c≤maxLen):
 fY av (st.addRow row) ⟨m.ρ,CR m.γ st.rows.length (some (w.heap.size,c))⟩ (w.alloc (.cells cur row.E)):=by
 have hx:wI w (w.alloc (.cells cur row.E)):= .alloc (.refl _) _
 have ev:=TH (row:=row) (c:=c) (cur:=cur) h
 have key: ∀i row' g c',(st.addRow row).rows[i]?=some row'→CR m.γ st.rows.length (some (w.heap.size,c)) i=some (g,c')→(i<st.rows.length∧st.rows[i]?=some row'∧m.γ i=some (g,c'))∨(i=st.rows.length∧g=w.heap.size):=fun i row' g c' hi hg=>by
  rcases getElem?_snoc hi with⟨h1,h2⟩|⟨rfl,rfl⟩
  ·rw [eP (show i≠st.rows.length by omega)] at hg
   exact .inl ⟨h1,h2,hg⟩
  ·simp only [cI,Option.some.injEq,Prod.mk.injEq] at hg
   exact .inr ⟨rfl,hg.1.symm⟩
 refine⟨fun k x hk=>?_,h.binj,fun i row' hi=>?_,fun i i' row' row'' g c' c'' hi hi' hg hg'=>?_,fun k x i row' g c' hk hi hg=>?_,fun b o hb=>Nat.lt_of_lt_of_le (h.avlt b o hb) hx.size,fun i row' g c' hi hg o=>?_,h.avb⟩
 ·obtain⟨vs,k1,k2⟩:=h.box k x hk
  exact⟨vs,k1.ext hx,iM.mono ev _ _ k2⟩
 ·rcases getElem?_snoc hi with⟨h1,h2⟩|⟨rfl,rfl⟩
  ·obtain⟨k1,k2,k3⟩:=h.row i row' h2
   refine⟨k1,k2,?_⟩
   simp only [eP (show i≠st.rows.length by omega)]
   rcases k3 with k3|⟨g,c',cur',q1,q2,q3,q4,q5,q6⟩
   ·exact .inl k3
   ·exact .inr ⟨g,c',cur',q1,q2.ext hx,q3,q4,q5,RV.mono ev (.t _) _ q6⟩
  ·exact⟨hp,by rw [he];simp,.inr ⟨w.heap.size,c,cur,cI _ _ _,OB.new w _ _,hc,by rw [he];simp,hm,by rw [he];exact J5 _ _ _ _ hm⟩⟩
 ·rcases key i row' g c' hi hg with⟨h0,h1,h2⟩|⟨h1,h2⟩<;>rcases key i' row'' g c'' hi' hg' with⟨h0',h1',h2'⟩|⟨h1',h2'⟩
  ·exact h.rinj i i' row' row'' g c' c'' h1 h1' h2 h2'
  ·have:=h.row_lt h1 h2;omega
  ·have:=h.row_lt h1' h2';omega
  ·omega
 ·rcases key i row' g c' hi hg with⟨h0,h1,h2⟩|⟨h1,h2⟩
  ·exact h.br k x i row' g c' hk h1 h2
  ·have:=h.box_lt hk
   show m.ρ k≠g
   omega
 ·rcases key i row' g c' hi hg with⟨h0,h1,h2⟩|⟨h1,h2⟩
  ·exact h.avr i row' g c' h1 h2 o
  ·intro ha
   have:=h.avlt _ _ ha
   omega
theorem QU(off:Nat): ∀(l:Z Value) (k:Nat) (cells:Array Value),off+k+l.length≤cells.size→(l.zipIdx k).foldl (fun cs (x:Value×Nat)=>cs.setIfInBounds (off+x.2) x.1) cells=splice cells (off+k) l
 | [],k,cells,_=>by simp [splice]
 |x::l,k,cells,h=>by
  simp only [List.zipIdx_cons,List.foldl_cons]
  simp only [List.length_cons] at h
  rw [QU off l (k+1) _ (by simp;omega)]
  apply Array.ext'
  apply List.ext_getElem?
  intro j
  have hk:off+k<cells.toList.length:=by simp;omega
  simp only [splice,Array.toList_setIfInBounds]
  rw [List.append_assoc,List.append_assoc]
  rcases Nat.lt_trichotomy j (off+k) with hj|hj|hj
  ·rw [List.getElem?_append_left (by simp at hk ⊢;omega),List.getElem?_append_left (by simp at hk ⊢;omega),List.getElem?_take,List.getElem?_take,if_pos (by omega),if_pos hj,List.getElem?_set_ne (by omega)]
  ·subst hj
   have hk2:min (off+k) cells.size=off+k:=by simp at hk;omega
   rw [List.getElem?_append_left (by simp at hk ⊢;omega),List.getElem?_take,if_pos (by omega),List.getElem?_set_self hk,List.getElem?_append_right (by simp;omega)]
   simp [hk2]
  ·have e1:(List.take (off+(k+1)) (cells.toList.set (off+k) x)).length=off+(k+1):=by
    rw [List.length_take,List.length_set];simp at hk ⊢;omega
   have e2:(List.take (off+k) cells.toList).length=off+k:=by
    rw [List.length_take];simp at hk ⊢;omega
   have L: ∀D:Z Value,(List.take (off+(k+1)) (cells.toList.set (off+k) x)++(l++D))[j]?=(l++D)[j-(off+(k+1))]?:=fun D=>by rw [List.getElem?_append_right (by omega),e1]
   have R: ∀D:Z Value,(List.take (off+k) cells.toList++(x::l++D))[j]?=(l++D)[j-(off+(k+1))]?:=fun D=>by
    rw [List.getElem?_append_right (by omega),e2,show j-(off+k)=(j-(off+(k+1)))+1 by omega]
    simp
   rw [L,R]
   rcases Nat.lt_or_ge (j-(off+(k+1))) l.length with h1|h1
   ·rw [List.getElem?_append_left h1,List.getElem?_append_left h1]
   ·rw [List.getElem?_append_right h1,List.getElem?_append_right h1,List.getElem?_drop,List.getElem?_drop,List.getElem?_set_ne (by omega),List.length_cons]
    congr 1
    omega
def t8(place:Nat→J (Nat×Nat)):Z PV→Z (Nat×Z PV)→J (Z PV)
 |cells,[]=>some cells
 |cells,(i,ps)::rest=>match place i with
  |some (off,size)=>if ps.length=size∧off+ps.length≤cells.length then t8 place (cells.take off++ps++cells.drop (off+ps.length)) rest else none
  |none=>none
def amF(ok:Nat→Nat→Prop)(st:dL)(m:kQ)(w:World):Z (Nat×Z PV)→Z (Nat×Value)→Prop
 | [],[]=>True
 |(i,ps)::l,(j,v)::k=>(i=j∧iM ok st m w ps v.cells.toList)∧amF ok st m w l k
 |_,_=>False
theorem QT{ok:Nat→Nat→Prop}{st:dL}{m:kQ}{w:World}{place:Nat→J (Nat×Nat)}: ∀ {parts:Z (Nat×Z PV)} {pv:Z (Nat×Value)} {cells qs:Z PV} {vs:Z Value},amF ok st m w parts pv→iM ok st m w cells vs→t8 place cells parts=some qs→
 ∃us,Instr.fill place ⟨vs⟩ pv=some ⟨us⟩∧iM ok st m w qs us
 | [],[],cells,qs,vs,_,hr,h=>by
  simp [t8] at h
  subst h
  exact⟨vs,rfl,hr⟩
 |(i,ps)::l,(j,v)::k,cells,qs,vs,hp,hr,h=>by
  obtain⟨⟨rfl,hv⟩,hp⟩:=hp
  simp only [t8] at h
  split at h
  ·rename_i off size hpl
   split at h
   ·rename_i hc
    obtain⟨us,h1,h2⟩:=QT hp (iM.splice hr hv off) h
    refine⟨us,?_,h2⟩
    have hl1:=hv.length
    have hl2:=hr.length
    unfold Instr.fill
    have hc1:v.cells.size=size:=by rw [← hc.1,hl1];simp
    have hc2: ¬(off+size>vs.length):=by rw [← hc1];simp only [← hl2];have:=hc.2;rw [hl1] at this;simp at this;omega
    simp only [hpl,hc1]
    rw [if_neg (by simpa using hc2)]
    have hf:=QU off v.cells.toList 0 ⟨vs⟩ (by simp only [List.size_toArray,← hl2];have:=hc.2;rw [hl1] at this;omega)
    have hfe:(v.cells.zipIdx.foldl (fun cs (x:Value×Nat)=>cs.setIfInBounds (off+x.2) x.1) (⟨vs⟩:Array Value))=splice ⟨vs⟩ off v.cells.toList:=by
     rw [← Array.foldl_toList,Array.toList_zipIdx]
     exact hf
    have e3:(⟨(splice ⟨vs⟩ off v.cells.toList).toList⟩:Array Value)=splice ⟨vs⟩ off v.cells.toList:=rfl
    rw [e3] at h1
    rw [← hfe] at h1
    exact h1
   ·cases h
  ·cases h
 | [],_::_,_,_,_,h,_,_=>h.elim
 |_::_,[],_,_,_,h,_,_=>h.elim
def RY(P:Program)(T:TypeId):J (Z (Nat×Nat)):=match P.underlying T with
 |some (.struct fields)=>fields.toList.mapM (fun f=>(P.info? f.type).map fun i=>(f.offset,i.size))
 |_=>none
section
variable {P:Program} {C:qT} {n:Nat} {s:AS} {Q:Exit→AS→Prop} {o:Oper}
def nN(s:AS):Z (Nat×Operand)→J (Z (Nat×Z PV))
 | []=>some []
 |(i,x)::l=>match s.ev x,nN s l with
  |some p,some r=>if IJ p then some ((i,xR p)::r) else none
  |_,_=>none
theorem MD{m:kQ}{a:Act}{w:World}(h:RA C n s m a w): ∀ {l:Z (Nat×Operand)} {ps:Z (Nat×Z PV)},nN s l=some ps→amF (kV C.av s.st m) s.st m w ps (l.map fun(i,x)=>(i,a.eval x))
 | [],ps,hp=>by
  simp [nN] at hp
  subst hp
  trivial
 |(i,x)::l,ps,hp=>by
  simp only [nN] at hp
  split at hp
  ·rename_i p r h1 h2
   split at hp
   ·rename_i ht
    cases hp
    exact⟨⟨rfl,LV (h.eval h1) (MC ht)⟩,MD h h2⟩
   ·cases hp
  ·cases hp
theorem cX.build{T:TypeId}{parts:Array (Nat×Operand)}{ps:Z (Nat×Z PV)}{zs cs:Z PV}{places:Z (Nat×Nat)}(ho:o.op= .build T parts)(hd:bL o.dst n=true)(hz:jN P T=some zs)(hpl:RY P T=some places)(hp:nN s parts.toList=some ps)
 (hc:t8 (places.toArray[·]?) zs ps=some cs):cX P C n o s (s.putO o.dst (.agg cs)):=
 dV (c4 hd) fun m a w h=>by
  obtain⟨i,z,hi,hzz,hr⟩:=jN.spec hz
  obtain⟨us,h1,h2⟩:=QT (MD h hp) (hr (kV C.av s.st m) s.st m w) hc
  refine⟨.agg ⟨us⟩,?_,us,rfl,h2⟩
  have hb:P.built T (parts.map fun(i,x)=>(i,a.eval x)).toList=some ⟨us⟩:=by
   unfold RY at hpl
   unfold Program.built
   cases hu:P.underlying T with
   |none=>simp [hu] at hpl
   |some d=>
    cases d with
    |struct fields=>
     simp only [hu] at hpl
     simp only [hi,hzz,hpl,Array.toList_map]
     exact h1
    |_=>simp [hu] at hpl
  unfold execOp
  simp [ho,run_build w T _ _ hb]
theorem iM.of_get{ok:Nat→Nat→Prop}{st:dL}{m:kQ}{w:World}: ∀ {ps:Z PV} {vs:Z Value},vs.length=ps.length→(∀(j:Nat) (p:PV),ps[j]?=some p→ ∃v,vs[j]?=some v∧RV ok st m w p v)→iM ok st m w ps vs
 | [],[],_,_=>trivial
 | [],_::_,h,_=>by simp at h
 |_::_,[],h,_=>by simp at h
 |p::ps,v::vs,h,k=>by
  obtain⟨u,hu,hr⟩:=k 0 p rfl
  simp at hu
  subst hu
  exact⟨hr,iM.of_get (by simpa using h) fun j d hd=>by have:=k (j+1) d (by simpa using hd);simpa using this⟩
theorem vR{α:Type}{sz:Nat}: ∀ {es:Z (Z α)} {i j:Nat} {e:Z α} {d:α},(∀e∈es,e.length=sz)→es[i]?=some e→e[j]?=some d→es.flatten[i*sz+j]?=some d
 | [],i,j,e,d,_,h,_=>by simp at h
 |x::es,0,j,e,d,hl,h,hd=>by
  simp at h
  subst h
  rw [List.flatten_cons,Nat.zero_mul,Nat.zero_add,List.getElem?_append_left (dK hd)]
  exact hd
 |x::es,i+1,j,e,d,hl,h,hd=>by
  have hx:=hl x (by simp)
  rw [List.flatten_cons,Nat.succ_mul,List.getElem?_append_right (by omega),hx,show i*sz+sz+j-sz=i*sz+j by omega]
  exact vR (fun e he=>hl e (by simp [he])) (by simpa using h) hd
theorem s9{α:Type}{sz:Nat}: ∀ {es:Z (Z α)},(∀e∈es,e.length=sz)→es.flatten.length=es.length*sz
 | [],_=>by simp
 |x::es,hl=>by
  rw [List.flatten_cons,List.length_append,hl x (by simp),s9 (fun e he=>hl e (by simp [he])),List.length_cons,Nat.succ_mul,Nat.add_comm]
theorem cX.buildSlice{T E sz by_ len:Nat}{parts:Array (Nat×Operand)}{ps:Z (Nat×Z PV)}{zs cs:Z PV}{es:Z (Z Tr)}(ho:o.op= .buildSlice T len parts)(hd:bL o.dst n=true)(hT:elemOf? P T=some (E,sz,by_))(hz:jN P E=some zs)(hp:nN s parts.toList=some ps)
 (hc:t8 (fun i=>some (i*sz,sz)) (List.replicate len zs).flatten ps=some cs) (hle:tN cs (es.flatten.map PV.t)) (hel:es.length=len) (hes: ∀e∈es,e.length=sz) (hsz:0<sz) (hzl:zs.length=sz) (hsm:len*sz≤16777216):
 cX P C n o s ((⟨s.env,s.st.addRow ⟨E,sz,es,false⟩⟩:AS).putO o.dst (.acc sz es s.st.rows.length)):=
 cX.run hd (s1:=⟨s.env,s.st.addRow ⟨E,sz,es,false⟩⟩) (fun m a w h=>by
  obtain⟨i,hu,hi,hs,hby⟩:=elemOf?.spec hT
  obtain⟨i',z,hi',hzz,hr⟩:=jN.spec hz
  rw [hi] at hi'
  cases hi'
  have hzv:=hr (kV C.av s.st m) s.st m w
  have hzs:z.cells.size=sz:=by have:=hzv.length;rw [hzl] at this;simpa using this.symm
  have hzero:iM (kV C.av s.st m) s.st m w (List.replicate len zs).flatten ((List.range (len*sz)).map (fun q=>z.cells[q%z.cells.size]!)):=by
   have hrl: ∀e∈List.replicate len zs,e.length=sz:=fun e he=>by rw [(List.mem_replicate.1 he).2];exact hzl
   refine iM.of_get (by rw [s9 hrl];simp) fun j p hj=>?_
   have hjl:j<len*sz:=by have:=dK hj;rw [s9 hrl] at this;simpa using this
   have hj1:j/sz<len:=by rw [Nat.div_lt_iff_lt_mul hsz];exact hjl
   have hj2:j%sz<zs.length:=by rw [hzl];exact Nat.mod_lt _ hsz
   have hpj:=vR (i:=j/sz) (j:=j%sz) (e:=zs) (d:=zs[j%sz]) hrl (by rw [List.getElem?_replicate,if_pos hj1]) (List.getElem?_eq_getElem hj2)
   rw [show j/sz*sz+j%sz=j by rw [Nat.mul_comm];exact Nat.div_add_mod j sz,hj] at hpj
   cases hpj
   obtain⟨v,hv,hrv⟩:=hzv.get (List.getElem?_eq_getElem hj2)
   refine⟨v,?_,hrv⟩
   rw [List.getElem?_map,List.getElem?_range hjl]
   simp only [Option.map_some,hzs]
   rw [Array.getElem?_toList] at hv
   obtain⟨hlt,hve⟩:=Array.getElem?_eq_some_iff.1 hv
   rw [getElem!_pos z.cells _ hlt,hve]
  obtain⟨us,h1,h2⟩:=QT (MD h hp) hzero hc
  have h3:=tN.rv hle h2
  have hul:us.length=len*sz:=by have:=h3.length;rw [List.length_map,s9 hes,hel] at this;exact this.symm
  have hrun:(Instr.buildSlice T len (parts.map fun(i,x)=>(i,a.eval x))).run P w= .ok (.slice (some ⟨w.heap.size,0,none⟩) len len) (w.alloc (.cells ⟨us⟩ E)):=by
   have hfill:Instr.fill (fun i=>some (i*sz,sz)) ((Array.range (len*sz)).map (z.cells[· %z.cells.size]!)) (parts.map fun(i,x)=>(i,a.eval x)).toList=some ⟨us⟩:=by
    rw [Array.toList_map,← h1]
    congr 1
    apply Array.ext'
    simp
   by_cases h0:len*sz=0
   ·have hl0:len=0:=by
     rcases Nat.mul_eq_zero.1 h0 with h|h
     ·exact h
     ·omega
    subst hl0
    rw [Nat.zero_mul] at hfill
    simp [Instr.buildSlice,run_underlying hu,Go.sizeOf,typeInfo,hi,hs,newRow]
    have e0:(Array.range 0).map (fun q=>z.cells[q%z.cells.size]!)= #[]:=by simp
    rw [e0] at hfill
    simp at hfill
    have e1:(Array.range 0).map (fun _=>(default:Value))= #[]:=by simp
    rw [e1,hfill]
    simp
   ·exact run_buildSlice w T E len _ ⟨us⟩ i z hu hi hzz (by rw [hs];omega) (by rw [hs];exact h0) (by rw [hs];exact hfill)
  have hm:len≤maxLen:=by have:=Nat.le_mul_of_pos_right len hsz;unfold maxLen;omega
  have hst0:=abQ (row:=⟨E,sz,[],false⟩) (c:=len) (cur:=⟨us⟩) h.sto hsz rfl (by simpa using hul) hm
  have hev0:=TH (row:=⟨E,sz,[],false⟩) (c:=len) (cur:=(⟨us⟩:Array Value)) h.sto
  have hG:WG C.av (s.st.addRow ⟨E,sz,[],false⟩) ⟨m.ρ,CR m.γ s.st.rows.length (some (w.heap.size,len))⟩ (w.alloc (.cells ⟨us⟩ E)) s.st.rows.length ⟨E,sz,[],false⟩ es w.heap.size len ⟨us⟩ (w.alloc (.cells ⟨us⟩ E)):=by
   refine⟨by show(s.st.rows++ [_])[s.st.rows.length]?=_;simp,rfl,rfl,rfl,Nat.le_refl _,fun _ _ _=>rfl,OB.new w _ _,by simpa using hul,by simp [hel],hm,hes,fun q e hq=>by simp at hq,fun q e hq j d hj=>?_,.inl ⟨len,⟨us⟩,cI _ _ _,OB.new w _ _,fun _ _=>rfl⟩,fun _=>cI _ _ _⟩
   have hf:=vR (sz:=sz) hes hq hj
   obtain⟨v,hv,hrv⟩:=h3.get (j:=q*sz+j) (p:= .t d) (by rw [List.getElem?_map,hf];rfl)
   exact⟨v,by simpa using hv,RV.mono hev0 (.t d) _ hrv⟩
  have hst1:(s.st.addRow ⟨E,sz,[],false⟩).setRow s.st.rows.length { (⟨E,sz,[],false⟩:mV) with es:=([]:Z (Z Tr))++es }=s.st.addRow ⟨E,sz,es,false⟩:=by
   simp [dL.setRow,dL.addRow,List.set_append_right]
  have hE1:=hev0.trans (hG.ev hst0)
  have hS1:=hG.sto hst0
  have hA1:=hG.acc hst0
  rw [hst1] at hE1 hS1 hA1
  refine⟨.slice (some ⟨w.heap.size,0,none⟩) len len,_,_,?_,hE1,hS1,?_⟩
  ·unfold execOp
   simp [ho,hrun]
  ·simpa [hel] using hA1) rfl
theorem as1{i:Nat}(E sz:Nat)(hsz:0<sz)(hx:s.lk i=some .nil):Wk C n s ((⟨s.env,s.st.addRow ⟨E,sz,[],false⟩⟩:AS).put i (.acc sz [] s.st.rows.length)):=fun m a w h=>by
 have hE:=F4 (row:=⟨E,sz,[],false⟩) h.sto
 have hS:=JD (row:=⟨E,sz,[],false⟩) h.sto hsz rfl
 have h1:=h.step hE hS
 obtain⟨v,hv,hr⟩:=h.env i _ hx
 have hr:v= .slice none 0 0:=hr
 subst hr
 refine⟨⟨m.ρ,CR m.γ s.st.rows.length none⟩,h1.dfr,h1.tsz,h1.sto,fun j q hq=>?_,h1.ev⟩
 rw [CE] at hq
 split at hq
 ·rename_i e
  subst e
  cases hq
  exact⟨_,hv,⟨E,sz,[],false⟩,by show(s.st.rows++ [_])[s.st.rows.length]?=_;simp,rfl,Nat.le_refl _,J5 _ _ _ _ (by unfold maxLen;omega),fun _=>by simp [cI,Z5]⟩
 ·exact h1.env j q hq
end
inductive DK where
 |q (lo hi:Nat)
 |al
 |ef (j:Nat)
structure kZ where
 ops:Array Oper
 env0:List (Nat×PV)
 F:Nat→Bool→dL
 out:Nat→Option PV
 kind:Nat→DK
 effs:List Nat
 alloc:Option Nat
 ins:Nat→List (Nat×Option Nat)
def VL(ops:Array Oper):Nat→Nat→Nat→Bool
 |0,_,_=>false
 |fuel+1,i,j=>match ops[j]? with
  |some o=>o.after.toList.any fun e=>Region.binds .any e&&(e.on==i||VL ops fuel i e.on)
  |none=>false
def sC(ops:Array Oper)(t:Nat):J Nat:=(List.range ops.size).find? fun i=>match ops[i]? with|some o=>o.dst==some t|none=>false
def kZ.anc(D:kZ)(i j:Nat):Bool:=VL D.ops D.ops.size i j
def kZ.okIns(D:kZ)(i:Nat)(x:Nat×J Nat):Bool:=match x.2 with
 |some j=>sC D.ops x.1==some j&&D.anc j i
 |none=>match sC D.ops x.1 with
  |none=>true
  |some j=>j==i||D.anc i j
def kZ.okKind(D:kZ)(i:Nat):Bool:=match D.kind i with
 | .q lo hi=>decide (lo≤hi)&&decide (hi≤D.effs.length)&&((D.effs.take lo).all fun e=>D.anc e i)&&((D.effs.drop hi).all fun e=>D.anc i e)&& !(D.effs.contains i)&&D.alloc !=some i
 | .al=>D.alloc==some i&& !(D.effs.contains i)
 | .ef j=>D.effs[j]?==some i&&((D.effs.take j).all fun e=>D.anc e i)&&((D.effs.drop (j+1)).all fun e=>D.anc i e&&e !=i)&&D.alloc !=some i
def DF(ops:Array Oper):Bool:=ops.toList.zipIdx.all fun(o,i)=>match o.dst with
 |some d=>sC ops d==some i
 |none=>true
def kZ.okOp(D:kZ)(i:Nat):Bool:=match D.ops[i]? with
 |some o=>(o.after.all fun e=> !Region.binds .any e||decide (e.on<i))&&(match o.guard with|some (j,_)=>D.anc j i&&(match D.ops[j]? with|some oj=>oj.dst.isSome|none=>false)|none=>true)
 |none=>true
def kZ.ok(D:kZ):Bool:=(List.range D.ops.size).all D.okOp&&DF D.ops&&(List.range D.ops.size).all (fun i=>D.okKind i&&(D.ins i).all (D.okIns i))&&(D.effs.all fun e=>decide (e<D.ops.size))&&(match D.alloc with|some i=>decide (i<D.ops.size)|none=>true)
def kZ.pv(D:kZ)(x:Nat×J Nat):J PV:=match x.2 with
 |some j=>D.out j
 |none=>D.env0.lookup x.1
section
variable(D:kZ)
def kZ.envX(X:Array Bool):Z (Nat×PV):=((List.range D.ops.size).filterMap fun i=>if X.getD i false then(match D.ops[i]? with|some o=>(match o.dst,D.out i with|some d,some p=>some (d,p)|_,_=>none)|none=>none) else none)++D.env0
def kZ.cnt(X:Array Bool):Nat:=(D.effs.takeWhile fun e=>X.getD e false).length
def kZ.alX(X:Array Bool):Bool:=match D.alloc with|some i=>X.getD i false|none=>false
def kZ.sX(X:Array Bool):AS:=⟨D.envX X,D.F (D.cnt X) (D.alX X)⟩
def kZ.closed(X:Array Bool):Prop:= ∀j o,X.getD j false=true→D.ops[j]?=some o→ ∀e∈o.after,Region.binds .any e=true→X.getD e.on false=true
end
theorem afJ{D:kZ}{X:Array Bool}(hc:D.closed X): ∀(fuel i j:Nat),VL D.ops fuel i j=true→(∀o,D.ops[j]?=some o→ ∀e∈o.after,Region.binds .any e=true→X.getD e.on false=true)→X.getD i false=true
 |0,i,j,h,_=>by simp [VL] at h
 |fuel+1,i,j,h,hd=>by
  simp only [VL] at h
  split at h
  ·rename_i o ho
   rw [List.any_eq_true] at h
   obtain⟨e,he,h⟩:=h
   simp only [Bool.and_eq_true,Bool.or_eq_true,beq_iff_eq] at h
   have hx:=hd o ho e (by simpa using he) h.1
   rcases h.2 with h2|h2
   ·rw [← h2];exact hx
   ·exact afJ hc fuel i e.on h2 fun o' ho'=>hc e.on o' hx ho'
  ·cases h
theorem qF{n t:Nat}{g:Nat→J (Nat×PV)}{rest:Z (Nat×PV)}: ∀(l:Z Nat),(∀i∈l,∀p,g i=some (t,p)→ ∀i'∈l,∀p',g i'=some (t,p')→i=i')→
 (∀i∈l,∀p,g i=some (t,p)→(l.filterMap g++rest).lookup t=some p)∧((∀i∈l,∀p,g i≠some (t,p))→(l.filterMap g++rest).lookup t=rest.lookup t)
 | [],_=>⟨by simp,by simp⟩
 |x::l,h=>by
  obtain⟨h1,h2⟩:=qF (n:=n) l fun i hi p hp i' hi' p' hp'=>h i (by simp [hi]) p hp i' (by simp [hi']) p' hp'
  cases hg:g x with
  |none=>
   rw [List.filterMap_cons_none hg]
   refine⟨fun i hi p hp=>?_,fun hn=>h2 fun i hi p=>hn i (by simp [hi]) p⟩
   rcases List.mem_cons.1 hi with rfl|hi
   ·rw [hg] at hp;cases hp
   ·exact h1 i hi p hp
  |some y=>
   obtain⟨d,q⟩:=y
   rw [List.filterMap_cons_some hg]
   simp only [List.cons_append,List.lookup_cons]
   by_cases htd:t=d
   ·subst htd
    simp only [BEq.rfl]
    refine⟨fun i hi p hp=>?_,fun hn=>absurd hg (hn x (by simp) q)⟩
    have:=h x (by simp) q hg i hi p hp
    subst this
    rw [hg] at hp
    cases hp
    rfl
   ·rw [show(t==d)=false by simp [htd]]
    refine⟨fun i hi p hp=>?_,fun hn=>h2 fun i hi p=>hn i (by simp [hi]) p⟩
    rcases List.mem_cons.1 hi with rfl|hi
    ·rw [hg] at hp
     cases hp
     exact absurd rfl htd
    ·exact h1 i hi p hp
theorem zS{ops:Array Oper}{t i:Nat}(h:sC ops t=some i):i<ops.size∧ ∃o,ops[i]?=some o∧o.dst=some t:=by
 unfold sC at h
 have h1:=List.find?_some h
 have h2:=List.mem_of_find?_eq_some h
 refine⟨by simpa using h2,?_⟩
 cases ho:ops[i]? with
 |none=>simp [ho] at h1
 |some o=>exact⟨o,rfl,by simpa [ho] using h1⟩
theorem iT{ops:Array Oper}(h:DF ops=true){i t:Nat}{o:Oper}(ho:ops[i]?=some o)(hd:o.dst=some t):sC ops t=some i:=by
 unfold DF at h
 rw [List.all_eq_true] at h
 have:=h (o,i) (by rw [List.mem_zipIdx_iff_getElem?];simpa using ho)
 simpa [hd] using this
section
variable {D:kZ} {X:Array Bool}
def kZ.gX(D:kZ)(X:Array Bool)(i:Nat):J (Nat×PV):=if X.getD i false then(match D.ops[i]? with|some o=>(match o.dst,D.out i with|some d,some p=>some (d,p)|_,_=>none)|none=>none) else none
theorem uO{i t:Nat}{p:PV}(h:D.gX X i=some (t,p)):X.getD i false=true∧ ∃o,D.ops[i]?=some o∧o.dst=some t∧D.out i=some p:=by
 unfold kZ.gX at h
 split at h
 ·rename_i hx
  split at h
  ·rename_i o ho
   split at h
   ·rename_i d q hd hq
    cases h
    exact⟨hx,o,ho,hd,hq⟩
   ·cases h
  ·cases h
 ·cases h
theorem PB(hn:DF D.ops=true){i t:Nat}{o:Oper}{p:PV}(hX:X.getD i false=true)(ho:D.ops[i]?=some o)(hd:o.dst=some t)(hp:D.out i=some p):(D.sX X).lk t=some p:=by
 refine(qF (n:=0) (g:=D.gX X) (rest:=D.env0) (List.range D.ops.size) fun i _ p hp i' _ p' hp'=>?_).1 i (by simp;exact(Array.getElem?_eq_some_iff.1 ho).1) p ?_
 ·obtain⟨-,o,h1,h2,-⟩:=uO hp
  obtain⟨-,o',h1',h2',-⟩:=uO hp'
  have:=(iT hn h1 h2).symm.trans (iT hn h1' h2')
  exact Option.some.inj this
 ·unfold kZ.gX
  simp [hX,ho,hd,hp]
theorem MA(hn:DF D.ops=true){t:Nat}(h: ∀i,sC D.ops t=some i→X.getD i false=false):(D.sX X).lk t=D.env0.lookup t:=by
 refine(qF (n:=0) (g:=D.gX X) (rest:=D.env0) (List.range D.ops.size) fun i _ p hp i' _ p' hp'=>?_).2 fun i _ p hp=>?_
 ·obtain⟨-,o,h1,h2,-⟩:=uO hp
  obtain⟨-,o',h1',h2',-⟩:=uO hp'
  exact Option.some.inj ((iT hn h1 h2).symm.trans (iT hn h1' h2'))
 ·obtain⟨h0,o,h1,h2,-⟩:=uO hp
  rw [h i (iT hn h1 h2)] at h0
  cases h0
end
theorem filterMap_congr'{α β:Type}{f g:α→J β}: ∀ {l:Z α},(∀x∈l,f x=g x)→l.filterMap f=l.filterMap g
 | [],_=>rfl
 |x::l,h=>by
  have h1:=h x (by simp)
  have h2:=filterMap_congr' (l:=l) fun y hy=>h y (by simp [hy])
  simp only [List.filterMap_cons,h1,h2]
theorem RA.congr{C:qT}{n:Nat}{s s':AS}{m:kQ}{a:Act}{w:World}(h:RA C n s m a w)(hst:s.st=s'.st)(hl: ∀i p,s'.lk i=some p→s.lk i=some p):RA C n s' m a w:=by
 obtain⟨env,st⟩:=s
 obtain⟨env',st'⟩:=s'
 cases hst
 exact⟨h.dfr,h.tsz,h.sto,fun i p hp=>h.env i p (hl i p hp),h.ev⟩
theorem aw7{C:qT}{n:Nat}{s:AS}{m:kQ}{a:Act}{w:World}(h:RA C n s m a w):RA C n s m a { w with drawn:=w.drawn+1 }:=by
 have hx:wI w w.drew:= .drew (.refl w)
 obtain⟨env,st⟩:=s
 exact h.step (Ev.later hx) (h.sto.later hx)
theorem atF{X:Array Bool}{i j:Nat}:(X.setIfInBounds i true).getD j false=if j=i∧i<X.size then true else X.getD j false:=by
 simp only [Array.getD_eq_getD_getElem?,Array.getElem?_setIfInBounds]
 by_cases hij:i=j
 ·subst hij
  by_cases hlt:i<X.size
  ·simp [hlt]
  ·simp [hlt]
 ·have: ¬(j=i∧i<X.size):=fun h=>hij h.1.symm
  simp [hij,this]
theorem zR{l:Z Nat}{f:Nat→Bool}: ∀ {k:Nat},(∀e∈l.take k,f e=true)→(∀e,l[k]?=some e→f e=false)→k≤l.length→(l.takeWhile f).length=k:=by
 induction l with
 |nil=>intro k _ _ hk;simp at hk ⊢;omega
 |cons x l ih=>
  intro k h1 h2 hk
  cases k with
  |zero=>simp [List.takeWhile_cons,h2 x rfl]
  |succ k=>
   rw [List.takeWhile_cons,if_pos (h1 x (by simp)),List.length_cons,ih (k:=k) (fun e he=>h1 e (by simp [he])) (fun e he=>h2 e (by simpa using he)) (by simpa using hk)]
theorem ahR{l:Z Nat}{f:Nat→Bool}: ∀ {k:Nat},(∀e∈l.take k,f e=true)→k≤l.length→k≤(l.takeWhile f).length:=by
 induction l with
 |nil=>intro k _ hk;simpa using hk
 |cons x l ih=>
  intro k h1 hk
  cases k with
  |zero=>omega
  |succ k=>
   rw [List.takeWhile_cons,if_pos (h1 x (by simp)),List.length_cons]
   have:=ih (k:=k) (fun e he=>h1 e (by simp [he])) (by simpa using hk)
   omega
theorem ahS{l:Z Nat}{f:Nat→Bool}: ∀ {k:Nat},(∀e,l[k]?=some e→f e=false)→(l.takeWhile f).length≤k:=by
 induction l with
 |nil=>intro k _;simp
 |cons x l ih=>
  intro k h1
  cases k with
  |zero=>simp [List.takeWhile_cons,h1 x rfl]
  |succ k=>
   rw [List.takeWhile_cons]
   split
   ·have:=ih (k:=k) (fun e he=>h1 e (by simpa using he))
    simpa using this
   ·simp
section
variable {P:Program} {C:qT} {n:Nat} {s:AS} {Q:Exit→AS→Prop}
def kZ.want(D:kZ)(o:Oper):J Bool:=match o.guard with
 |none=>some true
 |some (j,b)=>match D.out j with
  |some (.t (.leaf (.bool v)))=>some (v==b)
  |some (.tup [])=>some false
  |_=>none
def kZ.does(P:Program)(C:qT)(n:Nat)(D:kZ)(i:Nat)(o:Oper):Prop:=match D.kind i with
 | .q lo hi=> ∀(s':AS) (j:Nat) (b:Bool),lo≤j→j≤hi→s'.st=D.F j b→(∀t src p,(t,src)∈D.ins i→D.pv (t,src)=some p→s'.lk t=some p)→ ∃p,D.out i=some p∧cX P C n o s' (s'.putO o.dst p)
 | .al=> ∀(s':AS) (j:Nat),s'.st=D.F j false→ ∃p,D.out i=some p∧cX P C n o s' ((⟨s'.env,D.F j true⟩:AS).putO o.dst p)
 | .ef j=> ∀(s':AS) (b:Bool),s'.st=D.F j b→(∀t src p,(t,src)∈D.ins i→D.pv (t,src)=some p→s'.lk t=some p)→
  (∃p,D.out i=some p∧cX P C n o s' ((⟨s'.env,D.F (j+1) b⟩:AS).putO o.dst p))∨(o.dst=none∧cX P C n o s' ⟨s'.env,D.F (j+1) b⟩)
def ajJ(dst:J Nat)(p:J PV)(old:Nat→J PV)(t:Nat):J PV:=match dst with|none=>old t|some d=>if t=d then p else old t
def kZ.step(P:Program)(C:qT)(n:Nat)(D:kZ)(i:Nat)(o:Oper):Prop:=
 (D.want o=some true∧D.does P C n i o)∨(D.want o=some false∧(∃lo hi,D.kind i= .q lo hi)∧((D.out i=none∧ ∀d,o.dst=some d→D.env0.lookup d=none)∨(D.out i=some (.tup [])∧bL o.dst n=true)))
theorem dR.drawn{id:Nat}(D:kZ)(hm:P.follows .mixedOrders=true)(hok:D.ok=true)(henv:s.env=D.env0)(hst:s.st=D.F 0 false)
 (hstep: ∀i o,D.ops[i]?=some o→D.step P C n i o) (h:Q .normal ⟨((List.range D.ops.size).filterMap (D.gX (Array.replicate D.ops.size true)))++D.env0,D.F D.effs.length D.alloc.isSome⟩):dR P C n (.region id D.ops true) Q s:=fun m a w hr=>by
 simp only [kZ.ok,Bool.and_eq_true,List.all_eq_true] at hok
 obtain⟨⟨⟨⟨hops,hnd⟩,hall⟩,heff⟩,hal⟩:=hok
 refine wp_region_any hm ?_
 have fin: ∀(X:Array Bool) (m:kQ) (a:Act) (w:World),(∀i,i<D.ops.size→X.getD i false=true)→RA C n (D.sX X) m a w→ ∃s' m',Q .normal s'∧RA C n s' m' a w:=fun X m a w hX hr=>by
  refine⟨_,m,h,?_⟩
  have e1:D.envX X=((List.range D.ops.size).filterMap (D.gX (Array.replicate D.ops.size true)))++D.env0:=by
   unfold kZ.envX
   congr 1
   refine filterMap_congr' fun i hi=>?_
   have hi:i<D.ops.size:=by simpa using hi
   unfold kZ.gX
   rw [hX i hi]
   simp [hi]
  have e2:D.cnt X=D.effs.length:=zR (fun e he=>hX e (by simpa using heff e (List.mem_of_mem_take he))) (fun e he=>by simp at he) (Nat.le_refl _)
  have e3:D.alX X=D.alloc.isSome:=by
   unfold kZ.alX
   cases hq:D.alloc with
   |none=>rfl
   |some i=>rw [hq] at hal;exact hX i (by simpa using hal)
  have e4:D.sX X=⟨((List.range D.ops.size).filterMap (D.gX (Array.replicate D.ops.size true)))++D.env0,D.F D.effs.length D.alloc.isSome⟩:=by
   unfold kZ.sX
   rw [e1,e2,e3]
  rw [← e4]
  exact hr
 have rdy: ∀(X:Array Bool),X.size=D.ops.size→Region.ready .any D.ops X= []→ ∀i,i<D.ops.size→X.getD i false=true:=fun X hs hn i=>by
  induction i using Nat.strongRecOn with
  |_ i ih=>
   intro hi
   cases hx:X.getD i false with
   |true=>rfl
   |false=>
    have:i∈Region.ready .any D.ops X:=by
     rw [mem_ready]
     have ho:=Array.getElem?_eq_getElem hi
     refine⟨?_,D.ops[i],ho,fun e he hb=>ih e.on ?_ ?_⟩
     ·simpa [Array.getD_eq_getD_getElem?,hs,hi] using hx
     all_goals
      have:=hops i (by simpa using hi)
      simp only [kZ.okOp,ho,Bool.and_eq_true,Array.all_eq_true'] at this
      have h3:=this.1 e he
      simp only [hb,Bool.not_true,Bool.false_or,decide_eq_true_eq] at h3
      omega
    rw [hn] at this
    cases this
 have key: ∀(fuel:Nat) (X:Array Bool) (m:kQ) (a:Act) (w:World),X.size=D.ops.size→D.ops.size≤fuel+X.toList.countP (· =true)→D.closed X→RA C n (D.sX X) m a w→wpAny P .any D.ops (fun e a' w'=> ∃s' m',Q e s'∧RA C n s' m' a' w') fuel X a w:=by
  intro fuel
  induction fuel with
  |zero=>
   intro X m a w hs hc hcl hr
   have hX: ∀i,i<D.ops.size→X.getD i false=true:=fun i hi=>by
    have h9:X.toList.length=D.ops.size:=by simp [hs]
    have h1:X.toList.countP (· =true)=X.toList.length:=Nat.le_antisymm List.countP_le_length (by omega)
    have h2:=List.countP_eq_length.1 h1 X[i] (by simp)
    simpa [Array.getD_eq_getD_getElem?,hs,hi] using h2
   refine⟨?_,fin X m a w hX hr⟩
   rw [List.eq_nil_iff_forall_not_mem]
   intro i hi
   rw [mem_ready] at hi
   obtain⟨h1,o,ho,-⟩:=hi
   have hi:=(Array.getElem?_eq_some_iff.1 ho).1
   have h2:=hX i hi
   simp [Array.getD_eq_getD_getElem?,hs,hi] at h1 h2
   rw [h1] at h2
   cases h2
  |succ fuel ih=>
   intro X m a w hs hc hcl hr
   refine⟨fun hn=>fin X m a w (rdy X hs hn) hr,fun i hi=>?_⟩
   rw [mem_ready] at hi
   obtain⟨h1,o,ho,hdep⟩:=hi
   have hi:=(Array.getElem?_eq_some_iff.1 ho).1
   have hXi:X.getD i false=false:=by
    simp [Array.getD_eq_getD_getElem?,hs,hi] at h1 ⊢
    exact h1
   have hdeps: ∀o',D.ops[i]?=some o'→ ∀e∈o'.after,Region.binds .any e=true→X.getD e.on false=true:=fun o' ho' e he hb=>by
    rw [ho] at ho'
    cases ho'
    exact hdep e he hb
   have hanc: ∀j,D.anc j i=true→X.getD j false=true:=fun j hj=>afJ hcl _ j i hj hdeps
   have hnanc: ∀j,D.anc i j=true→X.getD j false=false:=fun j hj=>by
    cases hx:X.getD j false with
    |false=>rfl
    |true=>
     have:=afJ hcl _ i j hj (fun o' ho'=>hcl j o' hx ho')
     rw [hXi] at this
     cases this
   let X':=X.setIfInBounds i true
   have hX': ∀j,X'.getD j false=if j=i then true else X.getD j false:=fun j=>by
    show(X.setIfInBounds i true).getD j false=_
    rw [atF]
    by_cases hji:j=i<;>simp [hji,hs,hi]
   have hcl':D.closed X':=fun j o' hj ho' e he hb=>by
    rw [hX'] at hj ⊢
    split
    ·rfl
    ·split at hj
     ·rename_i hji
      subst hji
      exact hdeps o' ho' e he hb
     ·exact hcl j o' hj ho' e he hb
   have hcnt:D.ops.size≤fuel+X'.toList.countP (· =true):=by
    have hlt:i<X.toList.length:=by simp [hs,hi]
    have h3:X'.toList.countP (· =true)=X.toList.countP (· =true)+1:=by
     show(X.setIfInBounds i true).toList.countP _=_
     rw [Array.toList_setIfInBounds,List.countP_set hlt]
     have hx:X.toList[i]=false:=by
      simp [Array.getD_eq_getD_getElem?,hs,hi] at hXi
      simpa using hXi
     simp [hx]
    omega
   have hs':X'.size=D.ops.size:=by show(X.setIfInBounds i true).size=_;simp [hs]
   have hir:=hall i (by simpa using hi)
   obtain⟨hkind,hins⟩:=hir
   have hlk: ∀t src p,(t,src)∈D.ins i→D.pv (t,src)=some p→(D.sX X).lk t=some p:=fun t src p hm hp=>by
    have h3:=hins (t,src) hm
    simp only [kZ.okIns] at h3
    cases src with
    |some j=>
     simp only [Bool.and_eq_true,beq_iff_eq] at h3
     obtain⟨-,oj,h4,h5⟩:=zS h3.1
     exact PB hnd (hanc j h3.2) h4 h5 hp
    |none=>
     rw [show p=p from rfl]
     refine(MA hnd fun j hj=>?_).trans hp
     have h3:(match sC D.ops t with|none=>true|some j=>j==i||D.anc j j&&false||D.anc i j)=true:=by
      have h4:(match sC D.ops t with|none=>true|some j=>j==i||D.anc i j)=true:=h3
      rw [hj] at h4 ⊢
      simpa using h4
     rw [hj] at h3
     simp only [Bool.or_eq_true,beq_iff_eq,Bool.and_false,Bool.or_false] at h3
     rcases h3 with rfl|h3
     ·exact hXi
     ·exact hnanc j h3
   have done: ∀(s1:AS) (m1:kQ) (a1:Act) (w1:World) (p:J PV),RA C n s1 m1 a1 w1→D.out i=p→s1.st=D.F (D.cnt X') (D.alX X')→(∀t q,ajJ o.dst p (D.sX X).lk t=some q→s1.lk t=some q)→(p=none→ ∀d,o.dst=some d→D.env0.lookup d=none)→RA C n (D.sX X') m1 a1 w1:=fun s1 m1 a1 w1 p hr1 hp hst1 hl1 hpn=>by
    refine RA.congr hr1 hst1 fun t q hq=>hl1 t q ?_
    have hother:(∀d,o.dst=some d→t≠d)→(D.sX X).lk t=some q:=fun hne=>by
     rcases hw:sC D.ops t with _|j
     ·rw [MA hnd (fun j hj=>by rw [hw] at hj;cases hj)] at hq ⊢
      exact hq
     ·obtain⟨-,oj,h4,h5⟩:=zS hw
      have hji:j≠i:=by
       rintro rfl
       rw [ho] at h4
       cases h4
       exact hne t h5 rfl
      cases hxj:X.getD j false with
      |false=>
       rw [MA hnd (fun j' hj'=>by rw [hw] at hj';cases hj';rw [hX',if_neg hji];exact hxj)] at hq
       rw [MA hnd (fun j' hj'=>by rw [hw] at hj';cases hj';exact hxj)]
       exact hq
      |true=>
       cases hoj:D.out j with
       |none=>
        have hg1: ∀Yy:Array Bool,∀p,D.gX Yy j≠some (t,p):=fun Yy p hg=>by
         obtain⟨-,o2,-,-,h6⟩:=uO hg
         rw [hoj] at h6
         cases h6
        have hnone: ∀Yy:Array Bool,(D.sX Yy).lk t=D.env0.lookup t:=fun Yy=>by
         refine(qF (n:=0) (g:=D.gX Yy) (rest:=D.env0) (List.range D.ops.size) fun i _ p hp i' _ p' hp'=>?_).2 fun i' _ p hp=>?_
         ·obtain⟨-,o2,h6,h7,-⟩:=uO hp
          obtain⟨-,o2',h6',h7',-⟩:=uO hp'
          exact Option.some.inj ((iT hnd h6 h7).symm.trans (iT hnd h6' h7'))
         ·obtain⟨-,o2,h6,h7,-⟩:=uO hp
          have:=iT hnd h6 h7
          rw [hw] at this
          cases this
          exact hg1 Yy p hp
        rw [hnone] at hq ⊢
        exact hq
       |some pj=>
        rw [PB hnd (by rw [hX',if_neg hji];exact hxj) h4 h5 hoj] at hq
        rw [PB hnd hxj h4 h5 hoj]
        exact hq
    cases hd:o.dst with
    |none=>exact hother (fun d hd'=>by rw [hd] at hd';cases hd')
    |some d=>
     by_cases htd:t=d
     ·subst htd
      cases p with
      |some p=>
       rw [PB hnd (by rw [hX',if_pos rfl]) ho hd hp] at hq
       simpa [ajJ] using hq
      |none=>
       exfalso
       have hnone:(D.sX X').lk t=D.env0.lookup t:=by
        refine(qF (n:=0) (g:=D.gX X') (rest:=D.env0) (List.range D.ops.size) fun i _ p hp i' _ p' hp'=>?_).2 fun i' _ p hp'=>?_
        ·obtain⟨-,o2,h6,h7,-⟩:=uO hp
         obtain⟨-,o2',h6',h7',-⟩:=uO hp'
         exact Option.some.inj ((iT hnd h6 h7).symm.trans (iT hnd h6' h7'))
        ·obtain⟨-,o2,h6,h7,h8⟩:=uO hp'
         have h9:=(iT hnd h6 h7).symm.trans (iT hnd ho hd)
         cases h9
         rw [hp] at h8
         cases h8
       rw [hnone,hpn rfl t hd] at hq
       cases hq
     ·have:=hother (fun d' hd'=>by rw [hd] at hd';cases hd';exact htd)
      simp [ajJ,htd,this]
   have cont: ∀m1 a1 w1,RA C n (D.sX X') m1 a1 w1→wpAny P .any D.ops (fun e a' w'=> ∃s' m',Q e s'∧RA C n s' m' a' w') fuel X' a1 w1:=fun m1 a1 w1 hr1=>ih X' m1 a1 w1 hs' hcnt hcl' hr1
   have hwant:(D.want o=some true→Region.wanted o (yielded D.ops a.tmps)=true)∧(D.want o=some false→Region.wanted o (yielded D.ops a.tmps)=false):=by
    unfold kZ.want Region.wanted
    cases hgd:o.guard with
    |none=>simp
    |some x=>
     obtain⟨j,b⟩:=x
     have h3:=hops i (by simpa using hi)
     unfold kZ.okOp at h3
     rw [ho] at h3
     simp only [hgd,Bool.and_eq_true] at h3
     obtain⟨h4,h5⟩:=h3.2
     cases hoj:D.ops[j]? with
     |none=>simp [hoj] at h5
     |some oj=>
      simp only [hoj] at h5
      obtain⟨d,hd⟩:=Option.isSome_iff_exists.1 h5
      simp only
      split
      ·rename_i v hv
       have hlkj:=PB hnd (hanc j h4) hoj hd hv
       rw [hr.yielded (ops:=D.ops) (j:=j) (d:=d) (b:=v) (by simp [hoj,hd]) hlkj]
       constructor<;>intro h6<;>simpa using h6
      ·rename_i hv
       have hlkj:=PB hnd (hanc j h4) hoj hd hv
       have hy:yielded D.ops a.tmps j=none:=by
        obtain⟨v,hv,vs,rfl,hl⟩:=hr.env d _ hlkj
        simp [Go.yielded,hoj,hd,hv]
       rw [hy]
       simp
      ·simp
   unfold wpOp
   simp only [ho]
   have hsame: ∀(hne:i∉D.effs),D.cnt X'=D.cnt X:=fun hne=>by
    unfold kZ.cnt
    have: ∀l:Z Nat,i∉l→(l.takeWhile fun e=>X'.getD e false)=l.takeWhile fun e=>X.getD e false:=by
     intro l
     induction l with
     |nil=>intro _;rfl
     |cons x l ihl=>
      intro hl
      have hx:x≠i:=fun e=>hl (by simp [e])
      rw [List.takeWhile_cons,List.takeWhile_cons,hX',if_neg hx,ihl (fun hm=>hl (by simp [hm]))]
    rw [this _ hne]
   have hals:(D.alloc≠some i)→D.alX X'=D.alX X:=fun hne=>by
    unfold kZ.alX
    cases hq:D.alloc with
    |none=>rfl
    |some j=>simp only;rw [hX',if_neg (fun e=>hne (by rw [hq,e]))]
   have hput: ∀(st:dL) (p:PV) t q,ajJ o.dst (some p) (D.sX X).lk t=some q→((⟨(D.sX X).env,st⟩:AS).putO o.dst p).lk t=some q:=fun st p t q hq=>by
    cases hd:o.dst with
    |none=>rw [hd] at hq;exact hq
    |some d=>
     rw [hd] at hq
     show((⟨(D.sX X).env,st⟩:AS).put d p).lk t=some q
     rw [CE]
     exact hq
   have hpst: ∀(st:dL) (p:PV),((⟨(D.sX X).env,st⟩:AS).putO o.dst p).st=st:=fun st p=>by cases o.dst<;>rfl
   unfold kZ.okKind at hkind
   rcases hstep i o ho with⟨hw,hdo⟩|⟨hw,⟨lo,hi',hk⟩,hsk⟩
   ·rw [if_pos (hwant.1 hw)]
    refine .inl ?_
    unfold kZ.does at hdo
    cases hk:D.kind i with
    |q lo hi'=>
     simp only [hk,Bool.and_eq_true,decide_eq_true_eq,List.all_eq_true,Bool.not_eq_true',bne_iff_ne,ne_eq] at hkind hdo
     obtain⟨⟨⟨⟨⟨k1,k2⟩,k3⟩,k4⟩,k5⟩,k6⟩:=hkind
     have hlo:lo≤D.cnt X:=ahR (fun e he=>hanc e (k3 e he)) (by omega)
     have hhi:D.cnt X≤hi':=ahS fun e he=>hnanc e (k4 e (by
      obtain⟨hlt,rfl⟩:=List.getElem?_eq_some_iff.1 he
      exact List.mem_drop_iff_getElem.2 ⟨0,by simpa using hlt,by simp⟩))
     obtain⟨p,hp,hop⟩:=hdo (D.sX X) (D.cnt X) (D.alX X) hlo hhi rfl hlk
     refine hop m a w hr _ _ fun m' a' w' h9=>cont m' a' w' (done _ m' a' w' (some p) h9 hp ?_ (hput _ p) (fun e=>by cases e))
     rw [hsame (by simpa using k5),hals k6]
     exact hpst _ p
    |al=>
     simp only [hk,Bool.and_eq_true,beq_iff_eq,Bool.not_eq_true'] at hkind hdo
     obtain⟨k1,k2⟩:=hkind
     have ha:D.alX X=false:=by unfold kZ.alX;rw [k1];exact hXi
     obtain⟨p,hp,hop⟩:=hdo (D.sX X) (D.cnt X) (by show D.F _ _=_;rw [ha])
     refine hop m a w hr _ _ fun m' a' w' h9=>cont m' a' w' (done _ m' a' w' (some p) h9 hp ?_ (hput _ p) (fun e=>by cases e))
     have ha':D.alX X'=true:=by unfold kZ.alX;rw [k1];simp only;rw [hX',if_pos rfl]
     rw [hsame (by simpa using k2),ha']
     exact hpst _ p
    |ef j=>
     simp only [hk,Bool.and_eq_true,beq_iff_eq,List.all_eq_true,bne_iff_ne,ne_eq] at hkind hdo
     obtain⟨⟨⟨k1,k2⟩,k3⟩,k4⟩:=hkind
     have hjl:=dK k1
     have hc1:D.cnt X=j:=zR (fun e he=>hanc e (k2 e he)) (fun e he=>by rw [k1] at he;cases he;exact hXi) (by omega)
     have hc2:D.cnt X'=j+1:=zR (fun e he=>by
      rw [hX']
      split
      ·rfl
      ·rename_i hne
       rw [List.take_add_one,k1] at he
       simp only [Option.toList_some,List.mem_append,List.mem_singleton] at he
       rcases he with he|he
       ·exact hanc e (k2 e he)
       ·exact absurd he hne) (fun e he=>by
      have hm:e∈D.effs.drop (j+1):=by
       obtain⟨hlt,rfl⟩:=List.getElem?_eq_some_iff.1 he
       exact List.mem_drop_iff_getElem.2 ⟨0,by simpa using hlt,by simp⟩
      obtain⟨h3,h4⟩:=k3 e hm
      rw [hX',if_neg h4]
      exact hnanc e h3) (by omega)
     have ha:=hals k4
     rcases hdo (D.sX X) (D.alX X) (by show D.F _ _=_;rw [hc1]) hlk with⟨p,hp,hop⟩|⟨hd,hop⟩
     ·refine hop m a w hr _ _ fun m' a' w' h9=>cont m' a' w' (done _ m' a' w' (some p) h9 hp ?_ (hput _ p) (fun e=>by cases e))
      rw [hc2,ha]
      exact hpst _ p
     ·refine hop m a w hr _ _ fun m' a' w' h9=>cont m' a' w' (done _ m' a' w' (D.out i) h9 rfl ?_ (fun t q hq=>?_) (fun _ d hd'=>by rw [hd] at hd';cases hd'))
      ·rw [hc2,ha]
      ·rw [hd] at hq;exact hq
   ·rw [if_neg (by rw [hwant.2 hw];simp)]
    simp only [hk,Bool.and_eq_true,decide_eq_true_eq,List.all_eq_true,Bool.not_eq_true',bne_iff_ne,ne_eq] at hkind
    obtain⟨⟨⟨⟨⟨k1,k2⟩,k3⟩,k4⟩,k5⟩,k6⟩:=hkind
    rcases hsk.symm with⟨hout,hdl⟩|⟨hout,hdn⟩
    ·refine cont m _ w (done ((D.sX X).putO o.dst (.tup [])) m _ w (some (.tup [])) (hr.put (v:=undef) (c4 hdl) ⟨[],rfl,trivial⟩) hout ?_ (hput _ _) (fun e=>by cases e))
     rw [hsame (by simpa using k5),hals k6]
     exact hpst _ _
    refine cont m _ w (done ((D.sX X).delO o.dst) m _ w none (hr.del o.dst undef) hout ?_ (fun t q hq=>?_) (fun _=>hdn))
    ·rw [hsame (by simpa using k5),hals k6]
     cases o.dst<;>rfl
    ·cases hd:o.dst with
     |none=>rw [hd] at hq;exact hq
     |some d=>
      rw [hd] at hq
      simp only [ajJ] at hq
      split at hq
      ·cases hq
      ·rename_i htd
       show((D.sX X).env.filter (fun x=>x.1 !=d)).lookup t=some q
       have hq:(D.sX X).env.lookup t=some q:=hq
       revert hq
       generalize(D.sX X).env=l
       induction l with
       |nil=>simp
       |cons y l ihl=>
        obtain⟨k,v⟩:=y
        intro hq
        rw [List.lookup_cons] at hq
        by_cases hkd:k=d
        ·subst hkd
         rw [show(t==k)=false by simp [htd]] at hq
         rw [List.filter_cons,if_neg (by simp)]
         exact ihl hq
        ·rw [List.filter_cons,if_pos (by simp [hkd]),List.lookup_cons]
         by_cases htk:t=k
         ·subst htk
          simpa using hq
         ·rw [show(t==k)=false by simp [htk]] at hq ⊢
          exact ihl hq
 have h0:RA C n (D.sX (Array.replicate D.ops.size false)) m a { w with drawn:=w.drawn+1 }:=by
  refine RA.congr (aw7 hr) ?_ fun t p hp=>?_
  ·show s.st=D.F (D.cnt _) (D.alX _)
   have e1:D.cnt (Array.replicate D.ops.size false)=0:=zR (by simp) (fun e _=>by simp [Array.getD_eq_getD_getElem?,Array.getElem?_replicate];split<;>rfl) (Nat.zero_le _)
   have e2:D.alX (Array.replicate D.ops.size false)=false:=by
    unfold kZ.alX
    cases D.alloc with
    |none=>rfl
    |some i=>simp [Array.getD_eq_getD_getElem?,Array.getElem?_replicate];split<;>rfl
   rw [e1,e2]
   exact hst
  ·rw [MA hnd (fun i _=>by simp [Array.getD_eq_getD_getElem?,Array.getElem?_replicate];split<;>rfl)] at hp
   unfold AS.lk
   rw [henv]
   exact hp
 exact key D.ops.size (Array.replicate D.ops.size false) m a _ (by simp) (by omega) (fun j o hj=>by
  exfalso
  revert hj
  simp [Array.getD_eq_getD_getElem?,Array.getElem?_replicate]
  split<;>simp) h0
end
mutual
def PV.ren(fb fr:Z Nat):PV→PV
 | .t t=> .t t
 | .agg cs=> .agg (B4 fb fr cs)
 | .tup cs=> .tup (B4 fb fr cs)
 | .nil=> .nil
 | .acc sz es r=> .acc sz es (fr.getD r 0)
 | .ptr k d=> .ptr (fb.getD k 0) d
 | .eptr cs=> .eptr cs
 | .fn f cs=> .fn f (B4 fb fr cs)
 | .full sz n r=> .full sz n (fr.getD r 0)
 | .rptr r i=> .rptr (fr.getD r 0) i
 | .lit sz es=> .lit sz es
 | .bsl k n=> .bsl (fb.getD k 0) n
 | .gsl k n=> .gsl (fb.getD k 0) n
def B4(fb fr:Z Nat):Z PV→Z PV
 | []=> []
 |p::ps=>PV.ren fb fr p::B4 fb fr ps
end
def dO.ren(fb fr:Z Nat)(x:dO):dO:=⟨x.ty,B4 fb fr x.cells⟩
def kQ.via(m:kQ)(fb fr:Z Nat):kQ:=⟨fun k=>m.ρ (fb.getD k 0),fun r=>m.γ (fr.getD r 0)⟩
structure lM (s pre:dL) (fb fr:List Nat):Prop where
 fbl:fb.length=pre.boxes.length
 frl:fr.length=pre.rows.length
 fbn:fb.Nodup
 frn:fr.Nodup
 all: ∀k,k<pre.boxes.length→ ∃x,pre.boxes[k]?=some (some x)
 box: ∀k x,pre.boxes[k]?=some (some x)→ ∃y,s.boxes[fb.getD k 0]?=some (some y)∧y.ty=x.ty∧tN y.cells (B4 fb fr x.cells)∧mJ pre x.cells=true
 row: ∀r row,pre.rows[r]?=some row→s.rows[fr.getD r 0]?=some row
def idx?(l:Z Nat)(i:Nat):J Nat:=l.findIdx? (· ==i)
def dL.over(s st':dL)(fb fr:Z Nat):dL:=
 ⟨s.boxes.zipIdx.map fun(b,i)=>match idx? fb i with|some j=>(st'.boxes.getD j none).map (dO.ren fb fr)|none=>b,
  s.rows.zipIdx.map fun(row,i)=>match idx? fr i with|some j=>st'.rows.getD j row|none=>row⟩
theorem idx?_some{l:Z Nat}{i j:Nat}(h:idx? l i=some j):l[j]?=some i:=by
 unfold idx? at h
 obtain⟨h1,h2,-⟩:=List.findIdx?_eq_some_iff_getElem.1 h
 rw [List.getElem?_eq_getElem h1]
 simpa using h2
theorem idx?_none{l:Z Nat}{i:Nat}(h:idx? l i=none): ∀(j:Nat),l[j]?≠some i:=fun j hj=>by
 unfold idx? at h
 rw [List.findIdx?_eq_none_iff] at h
 have:=h i (List.mem_of_getElem? hj)
 simp at this
theorem idx?_of{l:Z Nat}(hn:l.Nodup){i j:Nat}(h:l[j]?=some i):idx? l i=some j:=by
 cases hq:idx? l i with
 |none=>exact absurd h (idx?_none hq j)
 |some j'=>
  have h2:=idx?_some hq
  obtain⟨hl,he⟩:=List.getElem?_eq_some_iff.1 h
  obtain⟨hl',he'⟩:=List.getElem?_eq_some_iff.1 h2
  have hp:=List.pairwise_iff_getElem.1 hn
  rcases Nat.lt_trichotomy j' j with hlt|heq|hgt
  ·exact absurd (he'.trans he.symm) (hp j' j hl' hl hlt)
  ·rw [heq]
  ·exact absurd (he.trans he'.symm) (hp j j' hl hl' hgt)
theorem uG{l:Z Nat}{k:Nat}(h:k<l.length):l[k]?=some (l.getD k 0):=by
 simp [List.getD_eq_getElem?_getD,List.getElem?_eq_getElem h]
mutual
theorem RV.unren{ok ok':Nat→Nat→Prop}{s pre:dL}{m:kQ}{w:World}{fb fr:Z Nat}(h:lM s pre fb fr)(hk: ∀b o,b<w.heap.size→ok b o→ok' b o): ∀(p:PV) (v:Value),hM pre p=true→RV ok s m w (PV.ren fb fr p) v→RV ok' pre (m.via fb fr) w p v
 | .t t,v,_,hr=>cH.mono hr (Nat.le_refl _) hk (fun _ _ _ _=>rfl)
 | .agg cs,v,hi,hr=>by
  obtain⟨vs,hv,hl⟩:=hr
  exact⟨vs,hv,iM.unren h hk cs vs hi hl⟩
 | .tup cs,v,hi,hr=>by
  obtain⟨vs,hv,hl⟩:=hr
  exact⟨vs,hv,iM.unren h hk cs vs hi hl⟩
 | .nil,v,_,hr=>hr
 | .acc sz es r,v,hi,hr=>by
  obtain⟨row,h1,h2,h3,h4,h5⟩:=hr
  obtain⟨row',hr'⟩:=xT (of_decide_eq_true hi)
  have:=h.row r row' hr'
  rw [h1] at this
  cases this
  exact⟨row,hr',h2,h3,cH.mono h4 (Nat.le_refl _) hk (fun _ _ _ _=>rfl),h5⟩
 | .ptr k d,v,hi,hr=>by
  obtain⟨-,hv⟩:=hr
  refine⟨?_,hv⟩
  simp only [hM] at hi
  split at hi
  ·rename_i x hx
   exact⟨x,hx⟩
  ·cases hi
 | .eptr cs,v,_,hr=>by
  obtain⟨b,off,h1,hb,c,h2⟩:=hr
  refine⟨b,off,h1,hb,c,fun j d hd=>?_⟩
  obtain⟨k1,k2,k3⟩:=h2 j d hd
  exact⟨hk _ _ hb k1,k2,cH.mono k3 (Nat.le_refl _) hk (fun _ _ _ _=>rfl)⟩
 | .fn f cs,v,hi,hr=>by
  obtain⟨vs,hv,hl⟩:=hr
  exact⟨vs,hv,iM.unren h hk cs vs hi hl⟩
 | .full sz n r,v,hi,hr=>by
  obtain⟨row,g,h1,h2,h3,h4,h5⟩:=hr
  obtain⟨row',hr'⟩:=xT (of_decide_eq_true hi)
  have:=h.row r row' hr'
  rw [h1] at this
  cases this
  exact⟨row,g,hr',h2,h3,h4,h5⟩
 | .rptr r i,v,hi,hr=>by
  obtain⟨row,g,n,h1,h3,h4,h5⟩:=hr
  obtain⟨row',hr'⟩:=xT (of_decide_eq_true hi)
  have:=h.row r row' hr'
  rw [h1] at this
  cases this
  exact⟨row,g,n,hr',h3,h4,h5⟩
 | .lit sz es,v,_,hr=>⟨cH.mono hr.1 (Nat.le_refl _) hk (fun _ _ _ _=>rfl),hr.2⟩
 | .bsl k n,v,hi,hr=>by
  obtain⟨-,hv⟩:=hr
  refine⟨?_,hv⟩
  simp only [hM] at hi
  split at hi
  ·rename_i x hx
   exact⟨x,hx⟩
  ·cases hi
 | .gsl k n,v,hi,hr=>by
  obtain⟨-,hv⟩:=hr
  refine⟨?_,hv⟩
  simp only [hM] at hi
  split at hi
  ·rename_i x hx
   exact⟨x,hx⟩
  ·cases hi
theorem iM.unren{ok ok':Nat→Nat→Prop}{s pre:dL}{m:kQ}{w:World}{fb fr:Z Nat}(h:lM s pre fb fr)(hk: ∀b o,b<w.heap.size→ok b o→ok' b o): ∀(ps:Z PV) (vs:Z Value),mJ pre ps=true→iM ok s m w (B4 fb fr ps) vs→iM ok' pre (m.via fb fr) w ps vs
 | [],[],_,hr=>hr
 |p::ps,v::vs,hi,hr=>by
  simp only [mJ,Bool.and_eq_true] at hi
  exact⟨RV.unren h hk p v hi.1 hr.1,iM.unren h hk ps vs hi.2 hr.2⟩
 | [],_::_,_,hr=>hr.elim
 |_::_,[],_,hr=>hr.elim
end
structure auV (st' s1:dL) (m' m1:kQ) (fb fr:List Nat):Prop where
 box: ∀k x,st'.boxes[k]?=some (some x)→(∃y,s1.boxes[fb.getD k 0]?=some (some y))∧m1.ρ (fb.getD k 0)=m'.ρ k
 row: ∀r row,st'.rows[r]?=some row→s1.rows[fr.getD r 0]?=some row∧m1.γ (fr.getD r 0)=m'.γ r
mutual
theorem RV.ren{ok ok':Nat→Nat→Prop}{st' s1:dL}{m' m1:kQ}{w:World}{fb fr:Z Nat}(h:auV st' s1 m' m1 fb fr)(hk: ∀b o,b<w.heap.size→ok b o→ok' b o): ∀(p:PV) (v:Value),RV ok st' m' w p v→RV ok' s1 m1 w (PV.ren fb fr p) v
 | .t t,v,hr=>cH.mono hr (Nat.le_refl _) hk (fun _ _ _ _=>rfl)
 | .agg cs,v,hr=>by
  obtain⟨vs,hv,hl⟩:=hr
  exact⟨vs,hv,iM.ren h hk cs vs hl⟩
 | .tup cs,v,hr=>by
  obtain⟨vs,hv,hl⟩:=hr
  exact⟨vs,hv,iM.ren h hk cs vs hl⟩
 | .nil,v,hr=>hr
 | .acc sz es r,v,hr=>by
  obtain⟨row,h1,h2,h3,h4,h5⟩:=hr
  obtain⟨k1,k2⟩:=h.row r row h1
  exact⟨row,k1,h2,h3,cH.mono h4 (Nat.le_refl _) hk (fun _ _ _ _=>rfl),fun e=>by rw [k2];exact h5 e⟩
 | .ptr k d,v,hr=>by
  obtain⟨⟨x,hx⟩,hv⟩:=hr
  obtain⟨k1,k2⟩:=h.box k x hx
  exact⟨k1,by rw [k2];exact hv⟩
 | .eptr cs,v,hr=>by
  obtain⟨b,off,h1,hb,c,h2⟩:=hr
  refine⟨b,off,h1,hb,c,fun j d hd=>?_⟩
  obtain⟨k1,k2,k3⟩:=h2 j d hd
  exact⟨hk _ _ hb k1,k2,cH.mono k3 (Nat.le_refl _) hk (fun _ _ _ _=>rfl)⟩
 | .fn f cs,v,hr=>by
  obtain⟨vs,hv,hl⟩:=hr
  exact⟨vs,hv,iM.ren h hk cs vs hl⟩
 | .full sz n r,v,hr=>by
  obtain⟨row,g,h1,h2,h3,h4,h5⟩:=hr
  obtain⟨k1,k2⟩:=h.row r row h1
  exact⟨row,g,k1,h2,h3,by rw [k2];exact h4,h5⟩
 | .rptr r i,v,hr=>by
  obtain⟨row,g,n,h1,h3,h4,h5⟩:=hr
  obtain⟨k1,k2⟩:=h.row r row h1
  exact⟨row,g,n,k1,h3,by rw [k2];exact h4,h5⟩
 | .lit sz es,v,hr=>⟨cH.mono hr.1 (Nat.le_refl _) hk (fun _ _ _ _=>rfl),hr.2⟩
 | .bsl k n,v,hr=>by
  obtain⟨⟨x,hx⟩,hv⟩:=hr
  obtain⟨k1,k2⟩:=h.box k x hx
  exact⟨k1,by rw [k2];exact hv⟩
 | .gsl k n,v,hr=>by
  obtain⟨⟨x,hx⟩,hv⟩:=hr
  obtain⟨k1,k2⟩:=h.box k x hx
  exact⟨k1,by rw [k2];exact hv⟩
theorem iM.ren{ok ok':Nat→Nat→Prop}{st' s1:dL}{m' m1:kQ}{w:World}{fb fr:Z Nat}(h:auV st' s1 m' m1 fb fr)(hk: ∀b o,b<w.heap.size→ok b o→ok' b o): ∀(ps:Z PV) (vs:Z Value),iM ok st' m' w ps vs→iM ok' s1 m1 w (B4 fb fr ps) vs
 | [],[],hr=>hr
 |p::ps,v::vs,hr=>⟨RV.ren h hk p v hr.1,iM.ren h hk ps vs hr.2⟩
 | [],_::_,hr=>hr.elim
 |_::_,[],hr=>hr.elim
end
def ET(av:Nat→Nat→Prop)(s pre:dL)(m:kQ)(fb fr:Z Nat)(w:World)(b o:Nat):Prop:=
 b<w.heap.size∧ ¬kV av s m b o∧(∀k x,pre.boxes[k]?=some (some x)→m.ρ (fb.getD k 0)≠b)∧(∀r row g c,pre.rows[r]?=some row→m.γ (fr.getD r 0)=some (g,c)→g≠b)
section
variable {av:Nat→Nat→Prop} {s pre:dL} {m:kQ} {fb fr:Z Nat} {w:World}
theorem lM.ok(h:lM s pre fb fr){b o:Nat}(k:kV av s m b o):kV (ET av s pre m fb fr w) pre (m.via fb fr) b o:=
 ⟨fun hs=>hs.2.1 k,fun i x hi=>by obtain⟨y,hy,-⟩:=h.box i x hi;exact k.2.1 _ y hy,fun r row g c hr hg e=>k.2.2 _ row g c (h.row r row hr) hg e⟩
theorem lM.sto(h:lM s pre fb fr)(hs:fY av s m w):fY (ET av s pre m fb fr w) pre (m.via fb fr) w where
 box:=fun k x hk=>by
  obtain⟨y,hy,ht,hl,ho⟩:=h.box k x hk
  obtain⟨vs,h1,h2⟩:=hs.box _ y hy
  exact⟨vs,by rw [← ht];exact h1,iM.unren h (fun b o _ k=>h.ok k) _ _ ho (tN.rv hl h2)⟩
 binj:=fun k k' x x' hk hk' hne=>by
  obtain⟨y,hy,-⟩:=h.box k x hk
  obtain⟨y',hy',-⟩:=h.box k' x' hk'
  refine hs.binj _ _ y y' hy hy' fun e=>hne ?_
  have h1:=uG (l:=fb) (k:=k) (by rw [h.fbl];exact dK hk)
  have h2:=uG (l:=fb) (k:=k') (by rw [h.fbl];exact dK hk')
  rw [e] at h1
  exact Option.some.inj ((idx?_of h.fbn h1).symm.trans (idx?_of h.fbn h2))
 row:=fun r row hr=>by
  obtain⟨h1,h2,h3⟩:=hs.row _ row (h.row r row hr)
  refine⟨h1,h2,?_⟩
  rcases h3 with h3|⟨g,c,cur,q1,q2,q3,q4,q5,q6⟩
  ·exact .inl h3
  ·exact .inr ⟨g,c,cur,q1,q2,q3,q4,q5,cH.mono q6 (Nat.le_refl _) (fun b o _ k=>h.ok k) (fun _ _ _ _=>rfl)⟩
 rinj:=fun r r' row row' g c c' hr hr' hg hg'=>by
  have e:=hs.rinj _ _ row row' g c c' (h.row r row hr) (h.row r' row' hr') hg hg'
  have h1:=uG (l:=fr) (k:=r) (by rw [h.frl];exact dK hr)
  have h2:=uG (l:=fr) (k:=r') (by rw [h.frl];exact dK hr')
  rw [e] at h1
  exact Option.some.inj ((idx?_of h.frn h1).symm.trans (idx?_of h.frn h2))
 br:=fun k x r row g c hk hr hg=>by
  obtain⟨y,hy,-⟩:=h.box k x hk
  exact hs.br _ y _ row g c hy (h.row r row hr) hg
 avlt:=fun b o hb=>hb.1
 avr:=fun r row g c hr hg o ho=>ho.2.2.2 r row g c hr hg rfl
 avb:=fun k x hk o ho=>ho.2.2.1 k x hk rfl
variable {st':dL} {m':kQ} {w':World}
def kQ.over(m m':kQ)(fr:Z Nat):kQ:=⟨m.ρ,fun i=>match idx? fr i with|some j=>m'.γ j|none=>m.γ i⟩
theorem Z2{i:Nat}{z:dO}(h:(s.over st' fb fr).boxes[i]?=some (some z)):(∃(j:Nat) (x:dO),fb[j]?=some i∧st'.boxes[j]?=some (some x)∧z=x.ren fb fr∧i<s.boxes.length)∨(idx? fb i=none∧s.boxes[i]?=some (some z)):=by
 unfold dL.over at h
 simp only [List.getElem?_map,List.getElem?_zipIdx] at h
 cases hs:s.boxes[i]? with
 |none=>simp [hs] at h
 |some b=>
  simp only [hs,Option.map_some,Nat.zero_add,Option.some.injEq] at h
  split at h
  ·rename_i j hj
   left
   cases hx:st'.boxes[j]? with
   |none=>simp [List.getD_eq_getElem?_getD,hx] at h
   |some ox=>
    cases ox with
    |none=>simp [List.getD_eq_getElem?_getD,hx] at h
    |some x=>
     simp [List.getD_eq_getElem?_getD,hx] at h
     exact⟨j,x,idx?_some hj,hx,h.symm,dK hs⟩
  ·rename_i hj
   exact .inr ⟨hj,by rw [h]⟩
theorem AD{i:Nat}{z:mV}(h:(s.over st' fb fr).rows[i]?=some z)(hl:fr.length≤st'.rows.length):(∃(j:Nat),fr[j]?=some i∧st'.rows[j]?=some z∧i<s.rows.length)∨(idx? fr i=none∧s.rows[i]?=some z):=by
 unfold dL.over at h
 simp only [List.getElem?_map,List.getElem?_zipIdx] at h
 cases hs:s.rows[i]? with
 |none=>simp [hs] at h
 |some b=>
  simp only [hs,Option.map_some,Nat.zero_add,Option.some.injEq] at h
  split at h
  ·rename_i j hj
   left
   have hj':=idx?_some hj
   have hlt:j<st'.rows.length:=Nat.lt_of_lt_of_le (dK hj') hl
   refine⟨j,hj',?_,dK hs⟩
   rw [List.getElem?_eq_getElem hlt,← h]
   simp [List.getD_eq_getElem?_getD,hlt]
  ·rename_i hj
   exact .inr ⟨hj,by rw [h]⟩
theorem atU(h:lM s pre fb fr)(hs:fY av s m w)(hst:fY (ET av s pre m fb fr w) st' m' w')(he:Ev pre (m.via fb fr) w st' m' w')(hbl:st'.boxes.length=pre.boxes.length)(hrl:st'.rows.length=pre.rows.length):
 Ev s m w (s.over st' fb fr) (m.over m' fr) w'∧fY av (s.over st' fb fr) (m.over m' fr) w'∧auV st' (s.over st' fb fr) m' (m.over m' fr) fb fr∧(∀b o,b<w'.heap.size→kV (ET av s pre m fb fr w) st' m' b o→kV av (s.over st' fb fr) (m.over m' fr) b o):=by
 have hfrl:fr.length≤st'.rows.length:=by rw [hrl,h.frl];exact Nat.le_refl _
 have pb: ∀(i j:Nat),fb[j]?=some i→ ∃(x y:dO),pre.boxes[j]?=some (some x)∧s.boxes[i]?=some (some y)∧fb.getD j 0=i∧m'.ρ j=m.ρ i∧ ∃x':dO,st'.boxes[j]?=some (some x'):=fun i j hj=>by
  obtain⟨x,hx⟩:=h.all j (by rw [← h.fbl];exact dK hj)
  obtain⟨y,hy,-⟩:=h.box j x hx
  have e:fb.getD j 0=i:=by simp [List.getD_eq_getElem?_getD,hj]
  rw [e] at hy
  obtain⟨h1,h2⟩:=he.live j x hx
  exact⟨x,y,hx,hy,e,by rw [h2];show m.ρ (fb.getD j 0)=_;rw [e],h1⟩
 have pr: ∀(i j:Nat),fr[j]?=some i→ ∃row:mV,pre.rows[j]?=some row∧s.rows[i]?=some row∧fr.getD j 0=i:=fun i j hj=>by
  obtain⟨row,hrow⟩:=xT (l:=pre.rows) (i:=j) (by rw [← h.frl];exact dK hj)
  have e:fr.getD j 0=i:=by simp [List.getD_eq_getElem?_getD,hj]
  have:=h.row j row hrow
  rw [e] at this
  exact⟨row,hrow,this,e⟩
 have hγ: ∀(i j:Nat),fr[j]?=some i→(m.over m' fr).γ i=m'.γ j:=fun i j hj=>by
  unfold kQ.over
  simp only [idx?_of h.frn hj]
 have hγn: ∀i,idx? fr i=none→(m.over m' fr).γ i=m.γ i:=fun i hi=>by
  unfold kQ.over
  simp only [hi]
 have lv: ∀i z,(s.over st' fb fr).boxes[i]?=some (some z)→ ∃y,s.boxes[i]?=some (some y):=fun i z hi=>by
  rcases Z2 hi with⟨j,x,h1,-⟩|⟨-,h2⟩
  ·obtain⟨-,y,-,hy,-⟩:=pb i j h1
   exact⟨y,hy⟩
  ·exact⟨z,h2⟩
 have rp: ∀i z g c,(s.over st' fb fr).rows[i]?=some z→(m.over m' fr).γ i=some (g,c)→(∃row c0,s.rows[i]?=some row∧m.γ i=some (g,c0))∨w.heap.size≤g:=fun i z g c hi hg=>by
  rcases AD hi hfrl with⟨j,h1,h2,-⟩|⟨h1,h2⟩
  ·rw [hγ i j h1] at hg
   obtain⟨row,hr1,hr2,e⟩:=pr i j h1
   rcases he.rfresh j z g c h2 hg with⟨row0,c0,k1,k2⟩|k
   ·refine .inl ⟨row,c0,hr2,?_⟩
    have k2:m.γ (fr.getD j 0)=some (g,c0):=k2
    rw [e] at k2
    exact k2
   ·exact .inr k
  ·rw [hγn i h1] at hg
   exact .inl ⟨z,c,h2,hg⟩
 have okk: ∀b o,b<w.heap.size→s.ok m b o→(s.over st' fb fr).ok (m.over m' fr) b o:=fun b o hb hk=>by
  have hp:pre.ok (m.via fb fr) b o:=(h.ok (av:=fun _ _=>False) (w:=w) ⟨id,hk⟩).2
  have hp':=he.okk b o hb hp
  refine⟨fun i z hi=>?_,fun i z g c hi hg e=>?_⟩
  ·obtain⟨y,hy⟩:=lv i z hi
   exact hk.1 i y hy
  ·rcases AD hi hfrl with⟨j,h1,h2,-⟩|⟨h1,h2⟩
   ·rw [hγ i j h1] at hg
    exact hp'.2 j z g c h2 hg e
   ·rw [hγn i h1] at hg
    exact hk.2 i z g c h2 hg e
 have ev:Ev s m w (s.over st' fb fr) (m.over m' fr) w':=by
  refine⟨he.os,he.tape,he.output,he.size,fun b hb h1 h2=>he.blk b hb (fun k x hk=>?_) (fun r row g c hr hg=>?_),fun b o hb hk=>he.cell b o hb (h.ok (av:=fun _ _=>False) (w:=w) ⟨id,hk⟩).2,okk,fun i y hi=>⟨?_,rfl⟩,fun i z hi=> .inl (lv i z hi),fun i row hi=>?_,rp⟩
  ·obtain⟨y,hy,-⟩:=h.box k x hk
   exact h1 _ y hy
  ·exact h2 _ row g c (h.row r row hr) hg
  ·cases hq:idx? fb i with
   |none=>exact⟨y,by unfold dL.over;simp [List.getElem?_zipIdx,hi,hq]⟩
   |some j=>
    obtain⟨-,-,-,-,-,-,x',hx'⟩:=pb i j (idx?_some hq)
    exact⟨x'.ren fb fr,by unfold dL.over;simp [List.getElem?_zipIdx,hi,hq,List.getD_eq_getElem?_getD,hx']⟩
  ·cases hq:idx? fr i with
   |none=>exact⟨row,by unfold dL.over;simp [List.getElem?_zipIdx,hi,hq],rfl,Nat.le_refl _,fun _=>hγn i hq,fun hw=>⟨hw,hγn i hq⟩⟩
   |some j=>
    have hj:=idx?_some hq
    obtain⟨row0,h1,h2,e⟩:=pr i j hj
    rw [hi] at h2
    cases h2
    obtain⟨row',k1,k2,k3,k4,k5⟩:=he.rowl j row h1
    have e':(m.via fb fr).γ j=m.γ i:=by show m.γ (fr.getD j 0)=_;rw [e]
    refine⟨row',by unfold dL.over;simp [List.getElem?_zipIdx,hi,hq,List.getD_eq_getElem?_getD,k1],k2,k3,fun hl=>?_,fun hw=>⟨(k5 hw).1,?_⟩⟩
    ·rw [hγ i j hj,k4 hl,e']
    ·rw [hγ i j hj,(k5 hw).2,e']
 have bk:auV st' (s.over st' fb fr) m' (m.over m' fr) fb fr:=by
  refine⟨fun k x hk=>?_,fun r row hr=>?_⟩
  ·have hj:=uG (l:=fb) (k:=k) (by rw [h.fbl,← hbl];exact dK hk)
   obtain⟨x0,y,h1,h2,h3,h4,-⟩:=pb _ k hj
   clear h3
   generalize fb.getD k 0=i at*
   exact⟨⟨x.ren fb fr,by unfold dL.over;simp [List.getElem?_zipIdx,h2,idx?_of h.fbn hj,List.getD_eq_getElem?_getD,hk]⟩,h4.symm⟩
  ·have hj:=uG (l:=fr) (k:=r) (by rw [h.frl,← hrl];exact dK hr)
   obtain⟨row0,h1,h2,-⟩:=pr _ r hj
   generalize fr.getD r 0=i at*
   exact⟨by unfold dL.over;simp [List.getElem?_zipIdx,h2,idx?_of h.frn hj,List.getD_eq_getElem?_getD,hr],hγ _ r hj⟩
 have hav: ∀i z g c,(s.over st' fb fr).rows[i]?=some z→(m.over m' fr).γ i=some (g,c)→ ∀o,¬av g o:=fun i z g c hi hg o ho=>by
  rcases rp i z g c hi hg with⟨row,c0,k1,k2⟩|k
  ·exact hs.avr i row g c0 k1 k2 o ho
  ·have:=hs.avlt _ _ ho;omega
 have back: ∀b o,b<w'.heap.size→kV (ET av s pre m fb fr w) st' m' b o→kV av (s.over st' fb fr) (m.over m' fr) b o:=fun b o _ hk=>by
  have hrow: ∀i z g c,(s.over st' fb fr).rows[i]?=some z→(m.over m' fr).γ i=some (g,c)→g=b→idx? fr i≠none→o<z.es.length*z.sz:=fun i z g c hi hg e hq=>by
   rcases AD hi hfrl with⟨j,h1,h2,-⟩|⟨h1,-⟩
   ·rw [hγ i j h1] at hg
    exact hk.2.2 j z g c h2 hg e
   ·exact absurd h1 hq
  rcases Nat.lt_or_ge b w.heap.size with hlt|hge
  ·by_cases hA:kV av s m b o
   ·exact⟨hA.1,okk b o hlt hA.2⟩
   ·by_cases hB: ∃k x,pre.boxes[k]?=some (some x)∧m.ρ (fb.getD k 0)=b
    ·obtain⟨k,x,h1,h2⟩:=hB
     obtain⟨⟨x',h3⟩,h4⟩:=he.live k x h1
     exact absurd (h4.trans h2) (hk.2.1 k x' h3)
    ·by_cases hR: ∃r row g c,pre.rows[r]?=some row∧m.γ (fr.getD r 0)=some (g,c)∧g=b
     ·obtain⟨r,row,g,c,h1,h2,rfl⟩:=hR
      have hsr:=h.row r row h1
      refine⟨hs.avr _ row g c hsr h2 o,fun i z hi=>?_,fun i z g' c' hi hg e=>?_⟩
      ·obtain⟨y,hy⟩:=lv i z hi
       exact hs.br i y _ row g c hy hsr h2
      ·refine hrow i z g' c' hi hg e fun hq=>?_
       rcases AD hi hfrl with⟨j,k1,-⟩|⟨k1,k2⟩
       ·exact absurd k1 (idx?_none hq j)
       ·rw [hγn i hq] at hg
        have:=hs.rinj i _ z row g c' c k2 hsr (by rw [hg,e]) h2
        have hj:=uG (l:=fr) (k:=r) (by rw [h.frl];exact dK h1)
        rw [← this] at hj
        exact idx?_none hq r hj
     ·exact absurd ⟨hlt,hA,fun k x h1 h2=>hB ⟨k,x,h1,h2⟩,fun r row g c h1 h2 h3=>hR ⟨r,row,g,c,h1,h2,h3⟩⟩ hk.1
  ·refine⟨fun ho=>by have:=hs.avlt _ _ ho;omega,fun i z hi=>?_,fun i z g c hi hg e=>?_⟩
   ·obtain⟨y,hy⟩:=lv i z hi
    have:=hs.box_lt hy
    show m.ρ i≠b
    omega
   ·refine hrow i z g c hi hg e fun hq=>?_
    rcases AD hi hfrl with⟨j,k1,-⟩|⟨k1,k2⟩
    ·exact absurd k1 (idx?_none hq j)
    ·rw [hγn i hq] at hg
     have:=hs.row_lt k2 hg
     omega
 refine⟨ev,⟨fun i z hi=>?_,fun i i' z z' hi hi' hne=>?_,fun i z hi=>?_,fun i i' z z' g c c' hi hi' hg hg'=>?_,fun i z r row g c hi hr hg=>?_,fun b o hb=>Nat.lt_of_lt_of_le (hs.avlt b o hb) he.size,hav,fun i z hi=>by obtain⟨y,hy⟩:=lv i z hi;exact hs.avb i y hy⟩,bk,back⟩
 ·rcases Z2 hi with⟨j,x,h1,h2,rfl,-⟩|⟨h1,h2⟩
  ·obtain⟨-,-,-,-,-,h4,-⟩:=pb i j h1
   obtain⟨vs,k1,k2⟩:=hst.box j x h2
   refine⟨vs,?_,iM.ren bk back _ _ k2⟩
   show OBp w' (m.ρ i) _ _
   rw [← h4]
   exact k1
  ·obtain⟨vs,k1,k2⟩:=hs.box i z h2
   refine⟨vs,k1.keep (he.blk _ k1.lt (fun k x hk=>?_) (fun r row g c hr hg e=>?_)),iM.mono ev _ _ k2⟩
   ·obtain⟨y,hy,-⟩:=h.box k x hk
    have hj:=uG (l:=fb) (k:=k) (by rw [h.fbl];exact dK hk)
    exact hs.binj _ _ y z hy h2 (fun e=>idx?_none h1 k (by rw [hj,e]))
   ·exact hs.br i z _ row g c h2 (h.row r row hr) hg e.symm
 ·obtain⟨y,hy⟩:=lv i z hi
  obtain⟨y',hy'⟩:=lv i' z' hi'
  exact hs.binj i i' y y' hy hy' hne
 ·rcases AD hi hfrl with⟨j,h1,h2,-⟩|⟨h1,h2⟩
  ·obtain⟨k1,k2,k3⟩:=hst.row j z h2
   refine⟨k1,k2,?_⟩
   rw [hγ i j h1]
   rcases k3 with k3|⟨g,c,cur,q1,q2,q3,q4,q5,q6⟩
   ·exact .inl k3
   ·exact .inr ⟨g,c,cur,q1,q2,q3,q4,q5,cH.mono q6 (Nat.le_refl _) back (fun _ _ _ _=>rfl)⟩
  ·obtain⟨k1,k2,k3⟩:=hs.row i z h2
   refine⟨k1,k2,?_⟩
   rw [hγn i h1]
   rcases k3 with k3|⟨g,c,cur,q1,q2,q3,q4,q5,q6⟩
   ·exact .inl k3
   ·refine .inr ⟨g,c,cur,q1,(he.blk g q2.lt (fun k x hk e=>?_) (fun r row g' c' hr hg e=>?_)).trans q2,q3,q4,q5,RV.mono ev (.t _) _ q6⟩
    ·obtain⟨y,hy,-⟩:=h.box k x hk
     exact hs.br _ y i z g c hy h2 q1 e
    ·subst e
     have:=hs.rinj i _ z row g' c c' h2 (h.row r row hr) q1 hg
     have hj:=uG (l:=fr) (k:=r) (by rw [h.frl];exact dK hr)
     rw [← this] at hj
     exact idx?_none h1 r hj
 ·rcases AD hi hfrl with⟨j,h1,h2,-⟩|⟨h1,h2⟩<;>rcases AD hi' hfrl with⟨j',h1',h2',-⟩|⟨h1',h2'⟩
  ·rw [hγ i j h1] at hg
   rw [hγ i' j' h1'] at hg'
   have:=hst.rinj j j' z z' g c c' h2 h2' hg hg'
   subst this
   rw [h1] at h1'
   exact Option.some.inj h1'
  ·rcases rp i z g c hi hg with⟨row,c0,k1,k2⟩|k
   ·rw [hγn i' h1'] at hg'
    exact hs.rinj i i' row z' g c0 c' k1 h2' k2 hg'
   ·rw [hγn i' h1'] at hg'
    have:=hs.row_lt h2' hg'
    omega
  ·rcases rp i' z' g c' hi' hg' with⟨row,c0,k1,k2⟩|k
   ·rw [hγn i h1] at hg
    exact hs.rinj i i' z row g c c0 h2 k1 hg k2
   ·rw [hγn i h1] at hg
    have:=hs.row_lt h2 hg
    omega
  ·rw [hγn i h1] at hg
   rw [hγn i' h1'] at hg'
   exact hs.rinj i i' z z' g c c' h2 h2' hg hg'
 ·obtain⟨y,hy⟩:=lv i z hi
  rcases rp r row g c hr hg with⟨row0,c0,k1,k2⟩|k
  ·exact hs.br i y r row0 g c0 hy k1 k2
  ·have:=hs.box_lt hy
   show m.ρ i≠g
   omega
end
section
variable {P:Program} {C:qT} {n:Nat} {s:AS} {o:Oper}
theorem X5{f:FuncId}{ps qs:Z PV}{res:PV}{pre st':dL}(fb fr:Z Nat)(hd:bL o.dst n=true)
 (hrun: ∀m a w,RA C n s m a w→ ∃vals,(execOp a.eval o).run P w= .ok (.enter f ⟨vals⟩) w∧iM (kV C.av s.st m) s.st m w ps vals) (hp:lM s.st pre fb fr) (hle:tN ps (B4 fb fr qs)) (hok:mJ pre qs=true)
 (hbl:st'.boxes.length=pre.boxes.length) (hrl:st'.rows.length=pre.rows.length) (hc:cM P f qs pre (fun r t=>r=res∧t=st')):
 cX P C n o s ((⟨s.env,s.st.over st' fb fr⟩:AS).putO o.dst (PV.ren fb fr res)):=fun m a w h K Q hK=>by
 obtain⟨vals,h1,h2⟩:=hrun m a w h
 unfold Oper.wp
 rw [h1]
 have h3:=hc (ET C.av s.st pre m fb fr w) (m.via fb fr) w vals (hp.sto h.sto) (iM.unren hp (fun b o _ k=>hp.ok k) _ _ hok (tN.rv hle h2))
 refine Calls.mono h3 fun e w'=>?_;rintro⟨r,t,m',v,rfl,⟨rfl,rfl⟩,h4,h5,h6⟩
 obtain⟨k1,k2,k3,k4⟩:=atU hp h.sto h4 h5 hbl hrl
 have hr:=h.step k1 k2
 exact hK _ _ w' (hr.put (c4 hd) (RV.ren k3 k4 _ _ h6))
theorem apX{f:FuncId}{fn:Func}{xs:Z Operand}{ts:Array TypeId}{ps qs:Z PV}{res:PV}{pre st':dL}(fb fr:Z Nat)(ho:o.op= .call { callee:= .value (.func f),args:=⟨xs⟩,argTypes:=ts })(hd:bL o.dst n=true)(hf:P.funcs[f]?=some fn)(hnm:(fn.name== "runtime.NumGoroutine")=false)(hb:fn.body.isNone=false)
 (hx:xs.map s.ev=ps.map some) (hp:lM s.st pre fb fr) (hle:tN ps (B4 fb fr qs)) (hok:mJ pre qs=true) (hbl:st'.boxes.length=pre.boxes.length) (hrl:st'.rows.length=pre.rows.length) (hc:cM P f qs pre (fun r t=>r=res∧t=st')):
 cX P C n o s ((⟨s.env,s.st.over st' fb fr⟩:AS).putO o.dst (PV.ren fb fr res)):=
 X5 fb fr hd (fun m a w h=>⟨xs.map a.eval,by
  have hcf:=jF (P:=P) hf hnm hb
  unfold execOp
  simp only [ho]
  simp [resolve,invoke,Deferred.ofValue,Act.eval,hcf],evL h hx⟩) hp hle hok hbl hrl hc
end
def bA(l:Z Y):Z (Z Tr):=l.map fun s=> [.leaf (.string s)]
def c7(l:Z Int):Z (Z Tr):=l.map fun n=> [.leaf (.int .i64 n)]
theorem b6(l:Z Y):(bA l).length=l.length:=by simp [bA]
theorem fF(l:Z Int):(c7 l).length=l.length:=by simp [c7]
theorem aoV{l:Z Y}{k:Nat}(h:k<l.length):(bA l)[k]?=some [.leaf (.string l[k])]:=by
 unfold bA
 rw [List.getElem?_map,List.getElem?_eq_getElem h];rfl
theorem ZP{l:Z Int}{k:Nat}(h:k<l.length):(c7 l)[k]?=some [.leaf (.int .i64 l[k])]:=by
 unfold c7
 rw [List.getElem?_map,List.getElem?_eq_getElem h];rfl
theorem gK: ∀l:Z Int,aW (c7 l)=0
 | []=>rfl
 |a::l=>by
  have:=gK l
  simp only [c7] at this
  simp [c7,aW,aX,mM,this]
theorem M1.int{w:World}{l:Z Int}{a:J Addr}{len cap k:Nat}(h:M1 w (.row 1 (c7 l)) (.slice a len cap))(hk:k<l.length):
 ∃b off,a=some ⟨b,off,none⟩∧b<w.heap.size∧(Lit.int .i64 l[k]).wf=true∧w.cell? ⟨b,off+k,none⟩=some (.int .i64 l[k]):=by
 obtain⟨b,off,cs,rfl,hb,hcs,hc⟩:=h.at2 (ZP hk)
 obtain⟨v,rfl⟩:=ayS hcs.length.symm
 obtain⟨rfl,hl⟩:=hcs.1.leaf_eq
 have:=hc 0 _ rfl
 rw [Nat.mul_one,Nat.add_zero] at this
 exact⟨b,off,rfl,hb,hl,this⟩
inductive aF where
 |mk (package_:Int) (at_:Int)
def aF.tr:aF→Z Tr
 | .mk v0 v1=> [.leaf (.int .i64 v0)]++([.leaf (.int .i64 v1)]++([]))
def aF.trs(l:Z aF):Z (Z Tr):=l.map aF.tr
theorem aF.tm(l:Z aF):aF.trs l=l.map aF.tr:=rfl
theorem aF.tl(l:Z aF):(aF.trs l).length=l.length:=by rw [aF.tm,List.length_map]
def aF.aFF:aF→Int
 | .mk v _=>v
def aF.aFS:aF→Int
 | .mk _ v=>v
theorem aF.tr_len(x:aF):x.tr.length=2:=by
 obtain⟨v0,v1⟩:=x
 simp [aF.tr]
theorem aF.sz(l:Z aF): ∀e∈aF.trs l,e.length=2:=by
 intro e he
 rw [aF.tm] at he
 obtain⟨x,-,rfl⟩:=List.mem_map.1 he
 exact aF.tr_len x
theorem aF.trs_get{l:Z aF}{k:Nat}(h:k<l.length):(aF.trs l)[k]?=some (l[k]).tr:=by
 rw [aF.tm,List.getElem?_map,List.getElem?_eq_getElem h];rfl
inductive aB where
 |mk (atom_:ByteArray) (list_:List aB)
mutual
def aB.tr:aB→Z Tr
 | .mk v0 v1=> [.leaf (.string v0)]++([.row 2 (aB.trs v1)]++([]))
def aB.trs:Z aB→Z (Z Tr)
 | []=> []
 |e::r=>aB.tr e::aB.trs r
end
theorem aB.tm(l:Z aB):aB.trs l=l.map aB.tr:=by induction l<;>simp_all [aB.trs]
theorem aB.tl(l:Z aB):(aB.trs l).length=l.length:=by rw [aB.tm,List.length_map]
def aB.aFy:aB→Y
 | .mk v _=>v
def aB.aFv:aB→Z aB
 | .mk _ v=>v
theorem aB.tr_len(x:aB):x.tr.length=2:=by
 obtain⟨v0,v1⟩:=x
 simp [aB.tr]
theorem aB.sz(l:Z aB): ∀e∈aB.trs l,e.length=2:=by
 intro e he
 rw [aB.tm] at he
 obtain⟨x,-,rfl⟩:=List.mem_map.1 he
 exact aB.tr_len x
theorem aB.trs_get{l:Z aB}{k:Nat}(h:k<l.length):(aB.trs l)[k]?=some (l[k]).tr:=by
 rw [aB.tm,List.getElem?_map,List.getElem?_eq_getElem h];rfl
inductive aA where
 |mk (kind_:Int) (name_:ByteArray) (args_:List aA)
mutual
def aA.tr:aA→Z Tr
 | .mk v0 v1 v2=> [.leaf (.int .i64 v0)]++([.leaf (.string v1)]++([.row 3 (aA.trs v2)]++([])))
def aA.trs:Z aA→Z (Z Tr)
 | []=> []
 |e::r=>aA.tr e::aA.trs r
end
theorem aA.tm(l:Z aA):aA.trs l=l.map aA.tr:=by induction l<;>simp_all [aA.trs]
theorem aA.tl(l:Z aA):(aA.trs l).length=l.length:=by rw [aA.tm,List.length_map]
def aA.aFw:aA→Int
 | .mk v _ _=>v
def aA.aFs:aA→Y
 | .mk _ v _=>v
def aA.aFt:aA→Z aA
 | .mk _ _ v=>v
theorem aA.tr_len(x:aA):x.tr.length=3:=by
 obtain⟨v0,v1,v2⟩:=x
 simp [aA.tr]
theorem aA.sz(l:Z aA): ∀e∈aA.trs l,e.length=3:=by
 intro e he
 rw [aA.tm] at he
 obtain⟨x,-,rfl⟩:=List.mem_map.1 he
 exact aA.tr_len x
theorem aA.trs_get{l:Z aA}{k:Nat}(h:k<l.length):(aA.trs l)[k]?=some (l[k]).tr:=by
 rw [aA.tm,List.getElem?_map,List.getElem?_eq_getElem h];rfl
theorem aA.ind{A:aA→Prop}(h: ∀v0 v1 v2,(∀x∈v2,A x)→A (.mk v0 v1 v2)): ∀e,A e:=by
 have key: ∀(N:Nat) (e:aA),SizeOf.sizeOf e<N→A e:=by
  intro N
  induction N with
  |zero=>intro e he;omega
  |succ N ih=>
   intro e he
   obtain⟨v0,v1,v2⟩:=e
   refine h v0 v1 v2 fun x hx=>ih x ?_
   have:=List.sizeOf_lt_of_mem hx
   simp at he
   omega
 exact fun e=>key _ e (Nat.lt_succ_self _)
inductive aK where
 |mk (var_:ByteArray) (type_:aA)
def aK.tr:aK→Z Tr
 | .mk v0 v1=> [.leaf (.string v0)]++(aA.tr v1++([]))
def aK.trs(l:Z aK):Z (Z Tr):=l.map aK.tr
theorem aK.tm(l:Z aK):aK.trs l=l.map aK.tr:=rfl
theorem aK.tl(l:Z aK):(aK.trs l).length=l.length:=by rw [aK.tm,List.length_map]
def aK.aF9:aK→Y
 | .mk v _=>v
def aK.aFu:aK→aA
 | .mk _ v=>v
theorem aK.tr_len(x:aK):x.tr.length=4:=by
 obtain⟨v0,v1⟩:=x
 simp [aK.tr,aA.tr_len]
theorem aK.sz(l:Z aK): ∀e∈aK.trs l,e.length=4:=by
 intro e he
 rw [aK.tm] at he
 obtain⟨x,-,rfl⟩:=List.mem_map.1 he
 exact aK.tr_len x
theorem aK.trs_get{l:Z aK}{k:Nat}(h:k<l.length):(aK.trs l)[k]?=some (l[k]).tr:=by
 rw [aK.tm,List.getElem?_map,List.getElem?_eq_getElem h];rfl
mutual
inductive cC where
 |mk (constructor_:ByteArray) (vars_:List ByteArray) (body_:aM)
inductive aM where
 |mk (kind_:Int) (trait_:ByteArray) (name_:ByteArray) (n_:Int) (type_:aA) (args_:List aM) (arms_:List cC)
end
mutual
def cC.tr:cC→Z Tr
 | .mk v0 v1 v2=> [.leaf (.string v0)]++([.row 1 (bA v1)]++(aM.tr v2++([])))
def cC.trs:Z cC→Z (Z Tr)
 | []=> []
 |e::r=>cC.tr e::cC.trs r
def aM.tr:aM→Z Tr
 | .mk v0 v1 v2 v3 v4 v5 v6=> [.leaf (.int .i64 v0)]++([.leaf (.string v1)]++([.leaf (.string v2)]++([.leaf (.int .i64 v3)]++(aA.tr v4++([.row 9 (aM.trs v5)]++([.row 11 (cC.trs v6)]++([])))))))
def aM.trs:Z aM→Z (Z Tr)
 | []=> []
 |e::r=>aM.tr e::aM.trs r
end
theorem cC.tm(l:Z cC):cC.trs l=l.map cC.tr:=by induction l<;>simp_all [cC.trs]
theorem aM.tm(l:Z aM):aM.trs l=l.map aM.tr:=by induction l<;>simp_all [aM.trs]
theorem cC.tl(l:Z cC):(cC.trs l).length=l.length:=by rw [cC.tm,List.length_map]
theorem aM.tl(l:Z aM):(aM.trs l).length=l.length:=by rw [aM.tm,List.length_map]
def cC.aFU:cC→Y
 | .mk v _ _=>v
def cC.aFH:cC→Z Y
 | .mk _ v _=>v
def cC.aFE:cC→aM
 | .mk _ _ v=>v
def aM.aFw:aM→Int
 | .mk v _ _ _ _ _ _=>v
def aM.aFz:aM→Y
 | .mk _ v _ _ _ _ _=>v
def aM.aFs:aM→Y
 | .mk _ _ v _ _ _ _=>v
def aM.aGa:aM→Int
 | .mk _ _ _ v _ _ _=>v
def aM.aFu:aM→aA
 | .mk _ _ _ _ v _ _=>v
def aM.aFt:aM→Z aM
 | .mk _ _ _ _ _ v _=>v
def aM.aFP:aM→Z cC
 | .mk _ _ _ _ _ _ v=>v
theorem aM.tr_len(x:aM):x.tr.length=9:=by
 obtain⟨v0,v1,v2,v3,v4,v5,v6⟩:=x
 simp [aM.tr,aA.tr_len]
theorem cC.tr_len(x:cC):x.tr.length=11:=by
 obtain⟨v0,v1,v2⟩:=x
 simp [cC.tr,aM.tr_len]
theorem cC.sz(l:Z cC): ∀e∈cC.trs l,e.length=11:=by
 intro e he
 rw [cC.tm] at he
 obtain⟨x,-,rfl⟩:=List.mem_map.1 he
 exact cC.tr_len x
theorem cC.trs_get{l:Z cC}{k:Nat}(h:k<l.length):(cC.trs l)[k]?=some (l[k]).tr:=by
 rw [cC.tm,List.getElem?_map,List.getElem?_eq_getElem h];rfl
theorem aM.sz(l:Z aM): ∀e∈aM.trs l,e.length=9:=by
 intro e he
 rw [aM.tm] at he
 obtain⟨x,-,rfl⟩:=List.mem_map.1 he
 exact aM.tr_len x
theorem aM.trs_get{l:Z aM}{k:Nat}(h:k<l.length):(aM.trs l)[k]?=some (l[k]).tr:=by
 rw [aM.tm,List.getElem?_map,List.getElem?_eq_getElem h];rfl
inductive aG where
 |mk (name_:ByteArray) (params_:List aA) (result_:aA) (hasdefault_:Bool) (vars_:List ByteArray) (body_:aM)
def aG.tr:aG→Z Tr
 | .mk v0 v1 v2 v3 v4 v5=> [.leaf (.string v0)]++([.row 3 (aA.trs v1)]++(aA.tr v2++([.leaf (.bool v3)]++([.row 1 (bA v4)]++(aM.tr v5++([]))))))
def aG.trs(l:Z aG):Z (Z Tr):=l.map aG.tr
theorem aG.tm(l:Z aG):aG.trs l=l.map aG.tr:=rfl
theorem aG.tl(l:Z aG):(aG.trs l).length=l.length:=by rw [aG.tm,List.length_map]
def aG.aFs:aG→Y
 | .mk v _ _ _ _ _=>v
def aG.aFO:aG→Z aA
 | .mk _ v _ _ _ _=>v
def aG.aFM:aG→aA
 | .mk _ _ v _ _ _=>v
def aG.aF3:aG→Bool
 | .mk _ _ _ v _ _=>v
def aG.aFH:aG→Z Y
 | .mk _ _ _ _ v _=>v
def aG.aFE:aG→aM
 | .mk _ _ _ _ _ v=>v
theorem aG.tr_len(x:aG):x.tr.length=16:=by
 obtain⟨v0,v1,v2,v3,v4,v5⟩:=x
 simp [aG.tr,aA.tr_len,aM.tr_len]
theorem aG.sz(l:Z aG): ∀e∈aG.trs l,e.length=16:=by
 intro e he
 rw [aG.tm] at he
 obtain⟨x,-,rfl⟩:=List.mem_map.1 he
 exact aG.tr_len x
theorem aG.trs_get{l:Z aG}{k:Nat}(h:k<l.length):(aG.trs l)[k]?=some (l[k]).tr:=by
 rw [aG.tm,List.getElem?_map,List.getElem?_eq_getElem h];rfl
inductive aZ where
 |mk (name_:ByteArray) (supertraits_:List ByteArray) (auto_:Bool) (assoc_:Bool) (signatures_:List aG)
def aZ.tr:aZ→Z Tr
 | .mk v0 v1 v2 v3 v4=> [.leaf (.string v0)]++([.row 1 (bA v1)]++([.leaf (.bool v2)]++([.leaf (.bool v3)]++([.row 16 (aG.trs v4)]++([])))))
def aZ.trs(l:Z aZ):Z (Z Tr):=l.map aZ.tr
theorem aZ.tm(l:Z aZ):aZ.trs l=l.map aZ.tr:=rfl
theorem aZ.tl(l:Z aZ):(aZ.trs l).length=l.length:=by rw [aZ.tm,List.length_map]
def aZ.aFs:aZ→Y
 | .mk v _ _ _ _=>v
def aZ.aFD:aZ→Z Y
 | .mk _ v _ _ _=>v
def aZ.aF1:aZ→Bool
 | .mk _ _ v _ _=>v
def aZ.aFR:aZ→Bool
 | .mk _ _ _ v _=>v
def aZ.aFQ:aZ→Z aG
 | .mk _ _ _ _ v=>v
theorem aZ.tr_len(x:aZ):x.tr.length=5:=by
 obtain⟨v0,v1,v2,v3,v4⟩:=x
 simp [aZ.tr]
theorem aZ.sz(l:Z aZ): ∀e∈aZ.trs l,e.length=5:=by
 intro e he
 rw [aZ.tm] at he
 obtain⟨x,-,rfl⟩:=List.mem_map.1 he
 exact aZ.tr_len x
theorem aZ.trs_get{l:Z aZ}{k:Nat}(h:k<l.length):(aZ.trs l)[k]?=some (l[k]).tr:=by
 rw [aZ.tm,List.getElem?_map,List.getElem?_eq_getElem h];rfl
inductive aE where
 |mk (name_:ByteArray) (fields_:List aA)
def aE.tr:aE→Z Tr
 | .mk v0 v1=> [.leaf (.string v0)]++([.row 3 (aA.trs v1)]++([]))
def aE.trs(l:Z aE):Z (Z Tr):=l.map aE.tr
theorem aE.tm(l:Z aE):aE.trs l=l.map aE.tr:=rfl
theorem aE.tl(l:Z aE):(aE.trs l).length=l.length:=by rw [aE.tm,List.length_map]
def aE.aFs:aE→Y
 | .mk v _=>v
def aE.aFN:aE→Z aA
 | .mk _ v=>v
theorem aE.tr_len(x:aE):x.tr.length=2:=by
 obtain⟨v0,v1⟩:=x
 simp [aE.tr]
theorem aE.sz(l:Z aE): ∀e∈aE.trs l,e.length=2:=by
 intro e he
 rw [aE.tm] at he
 obtain⟨x,-,rfl⟩:=List.mem_map.1 he
 exact aE.tr_len x
theorem aE.trs_get{l:Z aE}{k:Nat}(h:k<l.length):(aE.trs l)[k]?=some (l[k]).tr:=by
 rw [aE.tm,List.getElem?_map,List.getElem?_eq_getElem h];rfl
inductive aO where
 |mk (name_:ByteArray) (vars_:List ByteArray) (constructors_:List aE)
def aO.tr:aO→Z Tr
 | .mk v0 v1 v2=> [.leaf (.string v0)]++([.row 1 (bA v1)]++([.row 2 (aE.trs v2)]++([])))
def aO.trs(l:Z aO):Z (Z Tr):=l.map aO.tr
theorem aO.tm(l:Z aO):aO.trs l=l.map aO.tr:=rfl
theorem aO.tl(l:Z aO):(aO.trs l).length=l.length:=by rw [aO.tm,List.length_map]
def aO.aFs:aO→Y
 | .mk v _ _=>v
def aO.aFH:aO→Z Y
 | .mk _ v _=>v
def aO.aFx:aO→Z aE
 | .mk _ _ v=>v
theorem aO.tr_len(x:aO):x.tr.length=3:=by
 obtain⟨v0,v1,v2⟩:=x
 simp [aO.tr]
theorem aO.sz(l:Z aO): ∀e∈aO.trs l,e.length=3:=by
 intro e he
 rw [aO.tm] at he
 obtain⟨x,-,rfl⟩:=List.mem_map.1 he
 exact aO.tr_len x
theorem aO.trs_get{l:Z aO}{k:Nat}(h:k<l.length):(aO.trs l)[k]?=some (l[k]).tr:=by
 rw [aO.tm,List.getElem?_map,List.getElem?_eq_getElem h];rfl
inductive aD where
 |mk (trait_:ByteArray) (type_:aA)
def aD.tr:aD→Z Tr
 | .mk v0 v1=> [.leaf (.string v0)]++(aA.tr v1++([]))
def aD.trs(l:Z aD):Z (Z Tr):=l.map aD.tr
theorem aD.tm(l:Z aD):aD.trs l=l.map aD.tr:=rfl
theorem aD.tl(l:Z aD):(aD.trs l).length=l.length:=by rw [aD.tm,List.length_map]
def aD.aFz:aD→Y
 | .mk v _=>v
def aD.aFu:aD→aA
 | .mk _ v=>v
theorem aD.tr_len(x:aD):x.tr.length=4:=by
 obtain⟨v0,v1⟩:=x
 simp [aD.tr,aA.tr_len]
theorem aD.sz(l:Z aD): ∀e∈aD.trs l,e.length=4:=by
 intro e he
 rw [aD.tm] at he
 obtain⟨x,-,rfl⟩:=List.mem_map.1 he
 exact aD.tr_len x
theorem aD.trs_get{l:Z aD}{k:Nat}(h:k<l.length):(aD.trs l)[k]?=some (l[k]).tr:=by
 rw [aD.tm,List.getElem?_map,List.getElem?_eq_getElem h];rfl
inductive aT where
 |mk (name_:ByteArray) (vars_:List ByteArray) (body_:aM)
def aT.tr:aT→Z Tr
 | .mk v0 v1 v2=> [.leaf (.string v0)]++([.row 1 (bA v1)]++(aM.tr v2++([])))
def aT.trs(l:Z aT):Z (Z Tr):=l.map aT.tr
theorem aT.tm(l:Z aT):aT.trs l=l.map aT.tr:=rfl
theorem aT.tl(l:Z aT):(aT.trs l).length=l.length:=by rw [aT.tm,List.length_map]
def aT.aFs:aT→Y
 | .mk v _ _=>v
def aT.aFH:aT→Z Y
 | .mk _ v _=>v
def aT.aFE:aT→aM
 | .mk _ _ v=>v
theorem aT.tr_len(x:aT):x.tr.length=11:=by
 obtain⟨v0,v1,v2⟩:=x
 simp [aT.tr,aM.tr_len]
theorem aT.sz(l:Z aT): ∀e∈aT.trs l,e.length=11:=by
 intro e he
 rw [aT.tm] at he
 obtain⟨x,-,rfl⟩:=List.mem_map.1 he
 exact aT.tr_len x
theorem aT.trs_get{l:Z aT}{k:Nat}(h:k<l.length):(aT.trs l)[k]?=some (l[k]).tr:=by
 rw [aT.tm,List.getElem?_map,List.getElem?_eq_getElem h];rfl
inductive aL where
 |mk (trait_:ByteArray) (vars_:List ByteArray) (head_:aA) (where_:List aD) (default_:Bool) (hasassoc_:Bool) (assoc_:aA) (methods_:List aT)
def aL.tr:aL→Z Tr
 | .mk v0 v1 v2 v3 v4 v5 v6 v7=> [.leaf (.string v0)]++([.row 1 (bA v1)]++(aA.tr v2++([.row 4 (aD.trs v3)]++([.leaf (.bool v4)]++([.leaf (.bool v5)]++(aA.tr v6++([.row 11 (aT.trs v7)]++([]))))))))
def aL.trs(l:Z aL):Z (Z Tr):=l.map aL.tr
theorem aL.tm(l:Z aL):aL.trs l=l.map aL.tr:=rfl
theorem aL.tl(l:Z aL):(aL.trs l).length=l.length:=by rw [aL.tm,List.length_map]
def aL.aFz:aL→Y
 | .mk v _ _ _ _ _ _ _=>v
def aL.aFH:aL→Z Y
 | .mk _ v _ _ _ _ _ _=>v
def aL.aFJ:aL→aA
 | .mk _ _ v _ _ _ _ _=>v
def aL.aFL:aL→Z aD
 | .mk _ _ _ v _ _ _ _=>v
def aL.aFX:aL→Bool
 | .mk _ _ _ _ v _ _ _=>v
def aL.aF4:aL→Bool
 | .mk _ _ _ _ _ v _ _=>v
def aL.aFR:aL→aA
 | .mk _ _ _ _ _ _ v _=>v
def aL.aFW:aL→Z aT
 | .mk _ _ _ _ _ _ _ v=>v
theorem aL.tr_len(x:aL):x.tr.length=12:=by
 obtain⟨v0,v1,v2,v3,v4,v5,v6,v7⟩:=x
 simp [aL.tr,aA.tr_len,aA.tr_len]
theorem aL.sz(l:Z aL): ∀e∈aL.trs l,e.length=12:=by
 intro e he
 rw [aL.tm] at he
 obtain⟨x,-,rfl⟩:=List.mem_map.1 he
 exact aL.tr_len x
theorem aL.trs_get{l:Z aL}{k:Nat}(h:k<l.length):(aL.trs l)[k]?=some (l[k]).tr:=by
 rw [aL.tm,List.getElem?_map,List.getElem?_eq_getElem h];rfl
inductive aY where
 |mk (name_:ByteArray) (type_:aA)
def aY.tr:aY→Z Tr
 | .mk v0 v1=> [.leaf (.string v0)]++(aA.tr v1++([]))
def aY.trs(l:Z aY):Z (Z Tr):=l.map aY.tr
theorem aY.tm(l:Z aY):aY.trs l=l.map aY.tr:=rfl
theorem aY.tl(l:Z aY):(aY.trs l).length=l.length:=by rw [aY.tm,List.length_map]
def aY.aFs:aY→Y
 | .mk v _=>v
def aY.aFu:aY→aA
 | .mk _ v=>v
theorem aY.tr_len(x:aY):x.tr.length=4:=by
 obtain⟨v0,v1⟩:=x
 simp [aY.tr,aA.tr_len]
theorem aY.sz(l:Z aY): ∀e∈aY.trs l,e.length=4:=by
 intro e he
 rw [aY.tm] at he
 obtain⟨x,-,rfl⟩:=List.mem_map.1 he
 exact aY.tr_len x
theorem aY.trs_get{l:Z aY}{k:Nat}(h:k<l.length):(aY.trs l)[k]?=some (l[k]).tr:=by
 rw [aY.tm,List.getElem?_map,List.getElem?_eq_getElem h];rfl
inductive aQ where
 |mk (name_:ByteArray) (vars_:List ByteArray) (where_:List aD) (params_:List aY) (result_:aA) (body_:aM)
def aQ.tr:aQ→Z Tr
 | .mk v0 v1 v2 v3 v4 v5=> [.leaf (.string v0)]++([.row 1 (bA v1)]++([.row 4 (aD.trs v2)]++([.row 4 (aY.trs v3)]++(aA.tr v4++(aM.tr v5++([]))))))
def aQ.trs(l:Z aQ):Z (Z Tr):=l.map aQ.tr
theorem aQ.tm(l:Z aQ):aQ.trs l=l.map aQ.tr:=rfl
theorem aQ.tl(l:Z aQ):(aQ.trs l).length=l.length:=by rw [aQ.tm,List.length_map]
def aQ.aFs:aQ→Y
 | .mk v _ _ _ _ _=>v
def aQ.aFH:aQ→Z Y
 | .mk _ v _ _ _ _=>v
def aQ.aFL:aQ→Z aD
 | .mk _ _ v _ _ _=>v
def aQ.aFO:aQ→Z aY
 | .mk _ _ _ v _ _=>v
def aQ.aFM:aQ→aA
 | .mk _ _ _ _ v _=>v
def aQ.aFE:aQ→aM
 | .mk _ _ _ _ _ v=>v
theorem aQ.tr_len(x:aQ):x.tr.length=16:=by
 obtain⟨v0,v1,v2,v3,v4,v5⟩:=x
 simp [aQ.tr,aA.tr_len,aM.tr_len]
theorem aQ.sz(l:Z aQ): ∀e∈aQ.trs l,e.length=16:=by
 intro e he
 rw [aQ.tm] at he
 obtain⟨x,-,rfl⟩:=List.mem_map.1 he
 exact aQ.tr_len x
theorem aQ.trs_get{l:Z aQ}{k:Nat}(h:k<l.length):(aQ.trs l)[k]?=some (l[k]).tr:=by
 rw [aQ.tm,List.getElem?_map,List.getElem?_eq_getElem h];rfl
inductive aN where
 |mk (name_:ByteArray) (deps_:List ByteArray) (traits_:List aZ) (datatypes_:List aO) (instances_:List aL) (functions_:List aQ)
def aN.tr:aN→Z Tr
 | .mk v0 v1 v2 v3 v4 v5=> [.leaf (.string v0)]++([.row 1 (bA v1)]++([.row 5 (aZ.trs v2)]++([.row 3 (aO.trs v3)]++([.row 12 (aL.trs v4)]++([.row 16 (aQ.trs v5)]++([]))))))
def aN.trs(l:Z aN):Z (Z Tr):=l.map aN.tr
theorem aN.tm(l:Z aN):aN.trs l=l.map aN.tr:=rfl
theorem aN.tl(l:Z aN):(aN.trs l).length=l.length:=by rw [aN.tm,List.length_map]
def aN.aFs:aN→Y
 | .mk v _ _ _ _ _=>v
def aN.aF6:aN→Z Y
 | .mk _ v _ _ _ _=>v
def aN.aFK:aN→Z aZ
 | .mk _ _ v _ _ _=>v
def aN.aFB:aN→Z aO
 | .mk _ _ _ v _ _=>v
def aN.aFG:aN→Z aL
 | .mk _ _ _ _ v _=>v
def aN.aFT:aN→Z aQ
 | .mk _ _ _ _ _ v=>v
theorem aN.tr_len(x:aN):x.tr.length=6:=by
 obtain⟨v0,v1,v2,v3,v4,v5⟩:=x
 simp [aN.tr]
theorem aN.sz(l:Z aN): ∀e∈aN.trs l,e.length=6:=by
 intro e he
 rw [aN.tm] at he
 obtain⟨x,-,rfl⟩:=List.mem_map.1 he
 exact aN.tr_len x
theorem aN.trs_get{l:Z aN}{k:Nat}(h:k<l.length):(aN.trs l)[k]?=some (l[k]).tr:=by
 rw [aN.tm,List.getElem?_map,List.getElem?_eq_getElem h];rfl
inductive aH where
 |mk (packages_:List aN)
def aH.tr:aH→Z Tr
 | .mk v0=> [.row 6 (aN.trs v0)]++([])
def aH.trs(l:Z aH):Z (Z Tr):=l.map aH.tr
theorem aH.tm(l:Z aH):aH.trs l=l.map aH.tr:=rfl
theorem aH.tl(l:Z aH):(aH.trs l).length=l.length:=by rw [aH.tm,List.length_map]
def aH.aFr:aH→Z aN
 | .mk v=>v
theorem aH.tr_len(x:aH):x.tr.length=1:=by
 obtain⟨v0⟩:=x
 simp [aH.tr]
theorem aH.sz(l:Z aH): ∀e∈aH.trs l,e.length=1:=by
 intro e he
 rw [aH.tm] at he
 obtain⟨x,-,rfl⟩:=List.mem_map.1 he
 exact aH.tr_len x
theorem aH.trs_get{l:Z aH}{k:Nat}(h:k<l.length):(aH.trs l)[k]?=some (l[k]).tr:=by
 rw [aH.tm,List.getElem?_map,List.getElem?_eq_getElem h];rfl
inductive xM where
 |mk (w_:aH) (visible_:List Int)
def xM.tr:xM→Z Tr
 | .mk v0 v1=>aH.tr v0++([.row 1 (c7 v1)]++([]))
def xM.trs(l:Z xM):Z (Z Tr):=l.map xM.tr
theorem xM.tm(l:Z xM):xM.trs l=l.map xM.tr:=rfl
theorem xM.tr_len(x:xM):x.tr.length=2:=by
 obtain⟨v0,v1⟩:=x
 simp [xM.tr,aH.tr_len]
theorem xM.sz(l:Z xM): ∀e∈xM.trs l,e.length=2:=by
 intro e he
 rw [xM.tm] at he
 obtain⟨x,-,rfl⟩:=List.mem_map.1 he
 exact xM.tr_len x
inductive aC where
 |mk (kind_:Int) (n_:Int) (at_:aF) (args_:List aC)
mutual
def aC.tr:aC→Z Tr
 | .mk v0 v1 v2 v3=> [.leaf (.int .i64 v0)]++([.leaf (.int .i64 v1)]++(aF.tr v2++([.row 5 (aC.trs v3)]++([]))))
def aC.trs:Z aC→Z (Z Tr)
 | []=> []
 |e::r=>aC.tr e::aC.trs r
end
theorem aC.tm(l:Z aC):aC.trs l=l.map aC.tr:=by induction l<;>simp_all [aC.trs]
theorem aC.tl(l:Z aC):(aC.trs l).length=l.length:=by rw [aC.tm,List.length_map]
def aC.aFw:aC→Int
 | .mk v _ _ _=>v
def aC.aGa:aC→Int
 | .mk _ v _ _=>v
def aC.aFS:aC→aF
 | .mk _ _ v _=>v
def aC.aFt:aC→Z aC
 | .mk _ _ _ v=>v
theorem aC.tr_len(x:aC):x.tr.length=5:=by
 obtain⟨v0,v1,v2,v3⟩:=x
 simp [aC.tr,aF.tr_len]
theorem aC.sz(l:Z aC): ∀e∈aC.trs l,e.length=5:=by
 intro e he
 rw [aC.tm] at he
 obtain⟨x,-,rfl⟩:=List.mem_map.1 he
 exact aC.tr_len x
theorem aC.trs_get{l:Z aC}{k:Nat}(h:k<l.length):(aC.trs l)[k]?=some (l[k]).tr:=by
 rw [aC.tm,List.getElem?_map,List.getElem?_eq_getElem h];rfl
theorem aC.ind{A:aC→Prop}(h: ∀v0 v1 v2 v3,(∀x∈v3,A x)→A (.mk v0 v1 v2 v3)): ∀e,A e:=by
 have key: ∀(N:Nat) (e:aC),SizeOf.sizeOf e<N→A e:=by
  intro N
  induction N with
  |zero=>intro e he;omega
  |succ N ih=>
   intro e he
   obtain⟨v0,v1,v2,v3⟩:=e
   refine h v0 v1 v2 v3 fun x hx=>ih x ?_
   have:=List.sizeOf_lt_of_mem hx
   simp at he
   omega
 exact fun e=>key _ e (Nat.lt_succ_self _)
inductive aJ where
 |mk (goal_:aD) (from_:Int) (steps_:List Int)
def aJ.tr:aJ→Z Tr
 | .mk v0 v1 v2=>aD.tr v0++([.leaf (.int .i64 v1)]++([.row 1 (c7 v2)]++([])))
def aJ.trs(l:Z aJ):Z (Z Tr):=l.map aJ.tr
theorem aJ.tm(l:Z aJ):aJ.trs l=l.map aJ.tr:=rfl
theorem aJ.tl(l:Z aJ):(aJ.trs l).length=l.length:=by rw [aJ.tm,List.length_map]
def aJ.aFZ:aJ→aD
 | .mk v _ _=>v
def aJ.aF7:aJ→Int
 | .mk _ v _=>v
def aJ.aF8:aJ→Z Int
 | .mk _ _ v=>v
theorem aJ.tr_len(x:aJ):x.tr.length=6:=by
 obtain⟨v0,v1,v2⟩:=x
 simp [aJ.tr,aD.tr_len]
theorem aJ.sz(l:Z aJ): ∀e∈aJ.trs l,e.length=6:=by
 intro e he
 rw [aJ.tm] at he
 obtain⟨x,-,rfl⟩:=List.mem_map.1 he
 exact aJ.tr_len x
theorem aJ.trs_get{l:Z aJ}{k:Nat}(h:k<l.length):(aJ.trs l)[k]?=some (l[k]).tr:=by
 rw [aJ.tm,List.getElem?_map,List.getElem?_eq_getElem h];rfl
inductive eC where
 |mk (s_:ByteArray) (at_:Int) (deep_:Int) (size_:Int) (bad_:Bool)
def eC.tr:eC→Z Tr
 | .mk v0 v1 v2 v3 v4=> [.leaf (.string v0)]++([.leaf (.int .i64 v1)]++([.leaf (.int .i64 v2)]++([.leaf (.int .i64 v3)]++([.leaf (.bool v4)]++([])))))
def eC.trs(l:Z eC):Z (Z Tr):=l.map eC.tr
theorem eC.tm(l:Z eC):eC.trs l=l.map eC.tr:=rfl
def eC.aGb:eC→Y
 | .mk v _ _ _ _=>v
def eC.aF2:eC→Int
 | .mk _ v _ _ _=>v
def eC.aFY:eC→Int
 | .mk _ _ v _ _=>v
def eC.aF0:eC→Int
 | .mk _ _ _ v _=>v
def eC.aF5:eC→Bool
 | .mk _ _ _ _ v=>v
theorem eC.tr_len(x:eC):x.tr.length=5:=by
 obtain⟨v0,v1,v2,v3,v4⟩:=x
 simp [eC.tr]
theorem eC.sz(l:Z eC): ∀e∈eC.trs l,e.length=5:=by
 intro e he
 rw [eC.tm] at he
 obtain⟨x,-,rfl⟩:=List.mem_map.1 he
 exact eC.tr_len x
inductive aU where
 |mk (goals_:List aD) (codes_:List Int) (evidence_:List aC)
def aU.tr:aU→Z Tr
 | .mk v0 v1 v2=> [.row 4 (aD.trs v0)]++([.row 1 (c7 v1)]++([.row 5 (aC.trs v2)]++([])))
def aU.trs(l:Z aU):Z (Z Tr):=l.map aU.tr
theorem aU.tm(l:Z aU):aU.trs l=l.map aU.tr:=rfl
theorem aU.tl(l:Z aU):(aU.trs l).length=l.length:=by rw [aU.tm,List.length_map]
def aU.aFA:aU→Z aD
 | .mk v _ _=>v
def aU.aFI:aU→Z Int
 | .mk _ v _=>v
def aU.aFC:aU→Z aC
 | .mk _ _ v=>v
theorem aU.tr_len(x:aU):x.tr.length=3:=by
 obtain⟨v0,v1,v2⟩:=x
 simp [aU.tr]
theorem aU.sz(l:Z aU): ∀e∈aU.trs l,e.length=3:=by
 intro e he
 rw [aU.tm] at he
 obtain⟨x,-,rfl⟩:=List.mem_map.1 he
 exact aU.tr_len x
theorem aU.trs_get{l:Z aU}{k:Nat}(h:k<l.length):(aU.trs l)[k]?=some (l[k]).tr:=by
 rw [aU.tm,List.getElem?_map,List.getElem?_eq_getElem h];rfl
inductive bR where
 |mk (w_:aH) (assumed_:List aJ)
def bR.tr:bR→Z Tr
 | .mk v0 v1=>aH.tr v0++([.row 6 (aJ.trs v1)]++([]))
def bR.trs(l:Z bR):Z (Z Tr):=l.map bR.tr
theorem bR.tm(l:Z bR):bR.trs l=l.map bR.tr:=rfl
theorem bR.tl(l:Z bR):(bR.trs l).length=l.length:=by rw [bR.tm,List.length_map]
def bR.aGc:bR→aH
 | .mk v _=>v
def bR.aFV:bR→Z aJ
 | .mk _ v=>v
theorem bR.tr_len(x:bR):x.tr.length=2:=by
 obtain⟨v0,v1⟩:=x
 simp [bR.tr,aH.tr_len]
theorem bR.sz(l:Z bR): ∀e∈bR.trs l,e.length=2:=by
 intro e he
 rw [bR.tm] at he
 obtain⟨x,-,rfl⟩:=List.mem_map.1 he
 exact bR.tr_len x
theorem bR.trs_get{l:Z bR}{k:Nat}(h:k<l.length):(bR.trs l)[k]?=some (l[k]).tr:=by
 rw [bR.tm,List.getElem?_map,List.getElem?_eq_getElem h];rfl
attribute [simp] aF.aFF.eq_1 aF.aFS.eq_1 aB.aFy.eq_1 aB.aFv.eq_1 aA.aFw.eq_1 aA.aFs.eq_1 aA.aFt.eq_1 aK.aF9.eq_1 aK.aFu.eq_1 cC.aFU.eq_1 cC.aFH.eq_1 cC.aFE.eq_1 aM.aFw.eq_1 aM.aFz.eq_1 aM.aFs.eq_1 aM.aGa.eq_1 aM.aFu.eq_1 aM.aFt.eq_1 aM.aFP.eq_1 aG.aFs.eq_1 aG.aFO.eq_1 aG.aFM.eq_1 aG.aF3.eq_1 aG.aFH.eq_1 aG.aFE.eq_1 aZ.aFs.eq_1 aZ.aFD.eq_1 aZ.aF1.eq_1 aZ.aFR.eq_1 aZ.aFQ.eq_1 aE.aFs.eq_1 aE.aFN.eq_1 aO.aFs.eq_1 aO.aFH.eq_1 aO.aFx.eq_1 aD.aFz.eq_1 aD.aFu.eq_1 aT.aFs.eq_1 aT.aFH.eq_1 aT.aFE.eq_1 aL.aFz.eq_1 aL.aFH.eq_1 aL.aFJ.eq_1 aL.aFL.eq_1 aL.aFX.eq_1 aL.aF4.eq_1 aL.aFR.eq_1 aL.aFW.eq_1 aY.aFs.eq_1 aY.aFu.eq_1 aQ.aFs.eq_1 aQ.aFH.eq_1 aQ.aFL.eq_1 aQ.aFO.eq_1 aQ.aFM.eq_1 aQ.aFE.eq_1 aN.aFs.eq_1 aN.aF6.eq_1 aN.aFK.eq_1 aN.aFB.eq_1 aN.aFG.eq_1 aN.aFT.eq_1 aH.aFr.eq_1 aC.aFw.eq_1 aC.aGa.eq_1 aC.aFS.eq_1 aC.aFt.eq_1 aJ.aFZ.eq_1 aJ.aF7.eq_1 aJ.aF8.eq_1 eC.aGb.eq_1 eC.aF2.eq_1 eC.aFY.eq_1 eC.aF0.eq_1 eC.aF5.eq_1 aU.aFA.eq_1 aU.aFI.eq_1 aU.aFC.eq_1 bR.aGc.eq_1 bR.aFV.eq_1
theorem tN.refl: ∀ps:Z PV,tN ps ps
 | []=> .nil
 |p::ps=> .cons (.refl p) (tN.refl ps)
theorem aeS{l:Z Y}{k:Nat}(h:k<l.length):(bA l)[k]?=some [.leaf (.string l[k])]:=aoV h
theorem aq5{l:Z Int}{k:Nat}(h:k<l.length):(c7 l)[k]?=some [.leaf (.int .i64 l[k])]:=ZP h
def aF.cs(x:aF):Z Tr:= [.leaf (.int .i64 x.aFF),.leaf (.int .i64 x.aFS)]
def aF.pv(x:aF):PV:= .agg [.t (.leaf (.int .i64 x.aFF)),.t (.leaf (.int .i64 x.aFS))]
theorem aF.tc(x:aF):x.tr=x.cs:=by
 obtain⟨v0,v1⟩:=x
 simp [aF.tr,aF.cs]
theorem aF.trs_cs{l:Z aF}{k:Nat}(h:k<l.length):(aF.trs l)[k]?=some (l[k]).cs:=by rw [← aF.tc];exact aF.trs_get h
def aB.cs(x:aB):Z Tr:= [.leaf (.string x.aFy),.row 2 (aB.trs (x.aFv))]
def aB.pv(x:aB):PV:= .agg [.t (.leaf (.string x.aFy)),.t (.row 2 (aB.trs (x.aFv)))]
theorem aB.tc(x:aB):x.tr=x.cs:=by
 obtain⟨v0,v1⟩:=x
 simp [aB.tr,aB.cs]
theorem aB.trs_cs{l:Z aB}{k:Nat}(h:k<l.length):(aB.trs l)[k]?=some (l[k]).cs:=by rw [← aB.tc];exact aB.trs_get h
def aA.cs(x:aA):Z Tr:= [.leaf (.int .i64 x.aFw),.leaf (.string x.aFs),.row 3 (aA.trs (x.aFt))]
def aA.pv(x:aA):PV:= .agg [.t (.leaf (.int .i64 x.aFw)),.t (.leaf (.string x.aFs)),.t (.row 3 (aA.trs (x.aFt)))]
theorem aA.tc(x:aA):x.tr=x.cs:=by
 obtain⟨v0,v1,v2⟩:=x
 simp [aA.tr,aA.cs]
theorem aA.trs_cs{l:Z aA}{k:Nat}(h:k<l.length):(aA.trs l)[k]?=some (l[k]).cs:=by rw [← aA.tc];exact aA.trs_get h
def aK.cs(x:aK):Z Tr:= [.leaf (.string x.aF9),.leaf (.int .i64 x.aFu.aFw),.leaf (.string x.aFu.aFs),.row 3 (aA.trs (x.aFu.aFt))]
theorem aK.tc(x:aK):x.tr=x.cs:=by
 obtain⟨v0,v1⟩:=x
 simp [aK.tr,aK.cs,aA.tc,aA.cs]
theorem aK.trs_cs{l:Z aK}{k:Nat}(h:k<l.length):(aK.trs l)[k]?=some (l[k]).cs:=by rw [← aK.tc];exact aK.trs_get h
def aM.cs(x:aM):Z Tr:= [.leaf (.int .i64 x.aFw),.leaf (.string x.aFz),.leaf (.string x.aFs),.leaf (.int .i64 x.aGa),.leaf (.int .i64 x.aFu.aFw),.leaf (.string x.aFu.aFs),.row 3 (aA.trs (x.aFu.aFt)),.row 9 (aM.trs (x.aFt)),.row 11 (cC.trs (x.aFP))]
def aM.pv(x:aM):PV:= .agg [.t (.leaf (.int .i64 x.aFw)),.t (.leaf (.string x.aFz)),.t (.leaf (.string x.aFs)),.t (.leaf (.int .i64 x.aGa)),.t (.leaf (.int .i64 x.aFu.aFw)),.t (.leaf (.string x.aFu.aFs)),.t (.row 3 (aA.trs (x.aFu.aFt))),.t (.row 9 (aM.trs (x.aFt))),.t (.row 11 (cC.trs (x.aFP)))]
theorem aM.tc(x:aM):x.tr=x.cs:=by
 obtain⟨v0,v1,v2,v3,v4,v5,v6⟩:=x
 simp [aM.tr,aM.cs,aA.tc,aA.cs]
theorem aM.trs_cs{l:Z aM}{k:Nat}(h:k<l.length):(aM.trs l)[k]?=some (l[k]).cs:=by rw [← aM.tc];exact aM.trs_get h
def cC.cs(x:cC):Z Tr:= [.leaf (.string x.aFU),.row 1 (bA (x.aFH)),.leaf (.int .i64 x.aFE.aFw),.leaf (.string x.aFE.aFz),.leaf (.string x.aFE.aFs),.leaf (.int .i64 x.aFE.aGa),.leaf (.int .i64 x.aFE.aFu.aFw),.leaf (.string x.aFE.aFu.aFs),.row 3 (aA.trs (x.aFE.aFu.aFt)),.row 9 (aM.trs (x.aFE.aFt)),.row 11 (cC.trs (x.aFE.aFP))]
def cC.pv(x:cC):PV:= .agg [.t (.leaf (.string x.aFU)),.t (.row 1 (bA (x.aFH))),.t (.leaf (.int .i64 x.aFE.aFw)),.t (.leaf (.string x.aFE.aFz)),.t (.leaf (.string x.aFE.aFs)),.t (.leaf (.int .i64 x.aFE.aGa)),.t (.leaf (.int .i64 x.aFE.aFu.aFw)),.t (.leaf (.string x.aFE.aFu.aFs)),.t (.row 3 (aA.trs (x.aFE.aFu.aFt))),.t (.row 9 (aM.trs (x.aFE.aFt))),.t (.row 11 (cC.trs (x.aFE.aFP)))]
theorem cC.tc(x:cC):x.tr=x.cs:=by
 obtain⟨v0,v1,v2⟩:=x
 simp [cC.tr,cC.cs,aM.tc,aM.cs]
theorem cC.trs_cs{l:Z cC}{k:Nat}(h:k<l.length):(cC.trs l)[k]?=some (l[k]).cs:=by rw [← cC.tc];exact cC.trs_get h
def aG.cs(x:aG):Z Tr:= [.leaf (.string x.aFs),.row 3 (aA.trs (x.aFO)),.leaf (.int .i64 x.aFM.aFw),.leaf (.string x.aFM.aFs),.row 3 (aA.trs (x.aFM.aFt)),.leaf (.bool x.aF3),.row 1 (bA (x.aFH)),.leaf (.int .i64 x.aFE.aFw),.leaf (.string x.aFE.aFz),.leaf (.string x.aFE.aFs),.leaf (.int .i64 x.aFE.aGa),.leaf (.int .i64 x.aFE.aFu.aFw),.leaf (.string x.aFE.aFu.aFs),.row 3 (aA.trs (x.aFE.aFu.aFt)),.row 9 (aM.trs (x.aFE.aFt)),.row 11 (cC.trs (x.aFE.aFP))]
def aG.pv(x:aG):PV:= .agg [.t (.leaf (.string x.aFs)),.t (.row 3 (aA.trs (x.aFO))),.t (.leaf (.int .i64 x.aFM.aFw)),.t (.leaf (.string x.aFM.aFs)),.t (.row 3 (aA.trs (x.aFM.aFt))),.t (.leaf (.bool x.aF3)),.t (.row 1 (bA (x.aFH))),.t (.leaf (.int .i64 x.aFE.aFw)),.t (.leaf (.string x.aFE.aFz)),.t (.leaf (.string x.aFE.aFs)),.t (.leaf (.int .i64 x.aFE.aGa)),.t (.leaf (.int .i64 x.aFE.aFu.aFw)),.t (.leaf (.string x.aFE.aFu.aFs)),.t (.row 3 (aA.trs (x.aFE.aFu.aFt))),.t (.row 9 (aM.trs (x.aFE.aFt))),.t (.row 11 (cC.trs (x.aFE.aFP)))]
theorem aG.tc(x:aG):x.tr=x.cs:=by
 obtain⟨v0,v1,v2,v3,v4,v5⟩:=x
 simp [aG.tr,aG.cs,aA.tc,aA.cs,aM.tc,aM.cs]
theorem aG.trs_cs{l:Z aG}{k:Nat}(h:k<l.length):(aG.trs l)[k]?=some (l[k]).cs:=by rw [← aG.tc];exact aG.trs_get h
def aZ.cs(x:aZ):Z Tr:= [.leaf (.string x.aFs),.row 1 (bA (x.aFD)),.leaf (.bool x.aF1),.leaf (.bool x.aFR),.row 16 (aG.trs (x.aFQ))]
def aZ.pv(x:aZ):PV:= .agg [.t (.leaf (.string x.aFs)),.t (.row 1 (bA (x.aFD))),.t (.leaf (.bool x.aF1)),.t (.leaf (.bool x.aFR)),.t (.row 16 (aG.trs (x.aFQ)))]
theorem aZ.tc(x:aZ):x.tr=x.cs:=by
 obtain⟨v0,v1,v2,v3,v4⟩:=x
 simp [aZ.tr,aZ.cs]
theorem aZ.trs_cs{l:Z aZ}{k:Nat}(h:k<l.length):(aZ.trs l)[k]?=some (l[k]).cs:=by rw [← aZ.tc];exact aZ.trs_get h
def aE.cs(x:aE):Z Tr:= [.leaf (.string x.aFs),.row 3 (aA.trs (x.aFN))]
def aE.pv(x:aE):PV:= .agg [.t (.leaf (.string x.aFs)),.t (.row 3 (aA.trs (x.aFN)))]
theorem aE.tc(x:aE):x.tr=x.cs:=by
 obtain⟨v0,v1⟩:=x
 simp [aE.tr,aE.cs]
theorem aE.trs_cs{l:Z aE}{k:Nat}(h:k<l.length):(aE.trs l)[k]?=some (l[k]).cs:=by rw [← aE.tc];exact aE.trs_get h
def aO.cs(x:aO):Z Tr:= [.leaf (.string x.aFs),.row 1 (bA (x.aFH)),.row 2 (aE.trs (x.aFx))]
def aO.pv(x:aO):PV:= .agg [.t (.leaf (.string x.aFs)),.t (.row 1 (bA (x.aFH))),.t (.row 2 (aE.trs (x.aFx)))]
theorem aO.tc(x:aO):x.tr=x.cs:=by
 obtain⟨v0,v1,v2⟩:=x
 simp [aO.tr,aO.cs]
theorem aO.trs_cs{l:Z aO}{k:Nat}(h:k<l.length):(aO.trs l)[k]?=some (l[k]).cs:=by rw [← aO.tc];exact aO.trs_get h
def aD.cs(x:aD):Z Tr:= [.leaf (.string x.aFz),.leaf (.int .i64 x.aFu.aFw),.leaf (.string x.aFu.aFs),.row 3 (aA.trs (x.aFu.aFt))]
def aD.pv(x:aD):PV:= .agg [.t (.leaf (.string x.aFz)),.t (.leaf (.int .i64 x.aFu.aFw)),.t (.leaf (.string x.aFu.aFs)),.t (.row 3 (aA.trs (x.aFu.aFt)))]
theorem aD.tc(x:aD):x.tr=x.cs:=by
 obtain⟨v0,v1⟩:=x
 simp [aD.tr,aD.cs,aA.tc,aA.cs]
theorem aD.trs_cs{l:Z aD}{k:Nat}(h:k<l.length):(aD.trs l)[k]?=some (l[k]).cs:=by rw [← aD.tc];exact aD.trs_get h
def aT.cs(x:aT):Z Tr:= [.leaf (.string x.aFs),.row 1 (bA (x.aFH)),.leaf (.int .i64 x.aFE.aFw),.leaf (.string x.aFE.aFz),.leaf (.string x.aFE.aFs),.leaf (.int .i64 x.aFE.aGa),.leaf (.int .i64 x.aFE.aFu.aFw),.leaf (.string x.aFE.aFu.aFs),.row 3 (aA.trs (x.aFE.aFu.aFt)),.row 9 (aM.trs (x.aFE.aFt)),.row 11 (cC.trs (x.aFE.aFP))]
theorem aT.tc(x:aT):x.tr=x.cs:=by
 obtain⟨v0,v1,v2⟩:=x
 simp [aT.tr,aT.cs,aM.tc,aM.cs]
theorem aT.trs_cs{l:Z aT}{k:Nat}(h:k<l.length):(aT.trs l)[k]?=some (l[k]).cs:=by rw [← aT.tc];exact aT.trs_get h
def aL.cs(x:aL):Z Tr:= [.leaf (.string x.aFz),.row 1 (bA (x.aFH)),.leaf (.int .i64 x.aFJ.aFw),.leaf (.string x.aFJ.aFs),.row 3 (aA.trs (x.aFJ.aFt)),.row 4 (aD.trs (x.aFL)),.leaf (.bool x.aFX),.leaf (.bool x.aF4),.leaf (.int .i64 x.aFR.aFw),.leaf (.string x.aFR.aFs),.row 3 (aA.trs (x.aFR.aFt)),.row 11 (aT.trs (x.aFW))]
def aL.pv(x:aL):PV:= .agg [.t (.leaf (.string x.aFz)),.t (.row 1 (bA (x.aFH))),.t (.leaf (.int .i64 x.aFJ.aFw)),.t (.leaf (.string x.aFJ.aFs)),.t (.row 3 (aA.trs (x.aFJ.aFt))),.t (.row 4 (aD.trs (x.aFL))),.t (.leaf (.bool x.aFX)),.t (.leaf (.bool x.aF4)),.t (.leaf (.int .i64 x.aFR.aFw)),.t (.leaf (.string x.aFR.aFs)),.t (.row 3 (aA.trs (x.aFR.aFt))),.t (.row 11 (aT.trs (x.aFW)))]
theorem aL.tc(x:aL):x.tr=x.cs:=by
 obtain⟨v0,v1,v2,v3,v4,v5,v6,v7⟩:=x
 simp [aL.tr,aL.cs,aA.tc,aA.cs]
theorem aL.trs_cs{l:Z aL}{k:Nat}(h:k<l.length):(aL.trs l)[k]?=some (l[k]).cs:=by rw [← aL.tc];exact aL.trs_get h
def aY.cs(x:aY):Z Tr:= [.leaf (.string x.aFs),.leaf (.int .i64 x.aFu.aFw),.leaf (.string x.aFu.aFs),.row 3 (aA.trs (x.aFu.aFt))]
theorem aY.tc(x:aY):x.tr=x.cs:=by
 obtain⟨v0,v1⟩:=x
 simp [aY.tr,aY.cs,aA.tc,aA.cs]
theorem aY.trs_cs{l:Z aY}{k:Nat}(h:k<l.length):(aY.trs l)[k]?=some (l[k]).cs:=by rw [← aY.tc];exact aY.trs_get h
def aQ.cs(x:aQ):Z Tr:= [.leaf (.string x.aFs),.row 1 (bA (x.aFH)),.row 4 (aD.trs (x.aFL)),.row 4 (aY.trs (x.aFO)),.leaf (.int .i64 x.aFM.aFw),.leaf (.string x.aFM.aFs),.row 3 (aA.trs (x.aFM.aFt)),.leaf (.int .i64 x.aFE.aFw),.leaf (.string x.aFE.aFz),.leaf (.string x.aFE.aFs),.leaf (.int .i64 x.aFE.aGa),.leaf (.int .i64 x.aFE.aFu.aFw),.leaf (.string x.aFE.aFu.aFs),.row 3 (aA.trs (x.aFE.aFu.aFt)),.row 9 (aM.trs (x.aFE.aFt)),.row 11 (cC.trs (x.aFE.aFP))]
def aQ.pv(x:aQ):PV:= .agg [.t (.leaf (.string x.aFs)),.t (.row 1 (bA (x.aFH))),.t (.row 4 (aD.trs (x.aFL))),.t (.row 4 (aY.trs (x.aFO))),.t (.leaf (.int .i64 x.aFM.aFw)),.t (.leaf (.string x.aFM.aFs)),.t (.row 3 (aA.trs (x.aFM.aFt))),.t (.leaf (.int .i64 x.aFE.aFw)),.t (.leaf (.string x.aFE.aFz)),.t (.leaf (.string x.aFE.aFs)),.t (.leaf (.int .i64 x.aFE.aGa)),.t (.leaf (.int .i64 x.aFE.aFu.aFw)),.t (.leaf (.string x.aFE.aFu.aFs)),.t (.row 3 (aA.trs (x.aFE.aFu.aFt))),.t (.row 9 (aM.trs (x.aFE.aFt))),.t (.row 11 (cC.trs (x.aFE.aFP)))]
theorem aQ.tc(x:aQ):x.tr=x.cs:=by
 obtain⟨v0,v1,v2,v3,v4,v5⟩:=x
 simp [aQ.tr,aQ.cs,aA.tc,aA.cs,aM.tc,aM.cs]
theorem aQ.trs_cs{l:Z aQ}{k:Nat}(h:k<l.length):(aQ.trs l)[k]?=some (l[k]).cs:=by rw [← aQ.tc];exact aQ.trs_get h
def aN.cs(x:aN):Z Tr:= [.leaf (.string x.aFs),.row 1 (bA (x.aF6)),.row 5 (aZ.trs (x.aFK)),.row 3 (aO.trs (x.aFB)),.row 12 (aL.trs (x.aFG)),.row 16 (aQ.trs (x.aFT))]
def aN.pv(x:aN):PV:= .agg [.t (.leaf (.string x.aFs)),.t (.row 1 (bA (x.aF6))),.t (.row 5 (aZ.trs (x.aFK))),.t (.row 3 (aO.trs (x.aFB))),.t (.row 12 (aL.trs (x.aFG))),.t (.row 16 (aQ.trs (x.aFT)))]
theorem aN.tc(x:aN):x.tr=x.cs:=by
 obtain⟨v0,v1,v2,v3,v4,v5⟩:=x
 simp [aN.tr,aN.cs]
theorem aN.trs_cs{l:Z aN}{k:Nat}(h:k<l.length):(aN.trs l)[k]?=some (l[k]).cs:=by rw [← aN.tc];exact aN.trs_get h
def aH.cs(x:aH):Z Tr:= [.row 6 (aN.trs (x.aFr))]
def aH.pv(x:aH):PV:= .agg [.t (.row 6 (aN.trs (x.aFr)))]
theorem aH.tc(x:aH):x.tr=x.cs:=by
 obtain⟨v0⟩:=x
 simp [aH.tr,aH.cs]
theorem aH.trs_cs{l:Z aH}{k:Nat}(h:k<l.length):(aH.trs l)[k]?=some (l[k]).cs:=by rw [← aH.tc];exact aH.trs_get h
def aC.cs(x:aC):Z Tr:= [.leaf (.int .i64 x.aFw),.leaf (.int .i64 x.aGa),.leaf (.int .i64 x.aFS.aFF),.leaf (.int .i64 x.aFS.aFS),.row 5 (aC.trs (x.aFt))]
def aC.pv(x:aC):PV:= .agg [.t (.leaf (.int .i64 x.aFw)),.t (.leaf (.int .i64 x.aGa)),.t (.leaf (.int .i64 x.aFS.aFF)),.t (.leaf (.int .i64 x.aFS.aFS)),.t (.row 5 (aC.trs (x.aFt)))]
theorem aC.tc(x:aC):x.tr=x.cs:=by
 obtain⟨v0,v1,v2,v3⟩:=x
 simp [aC.tr,aC.cs,aF.tc,aF.cs]
theorem aC.trs_cs{l:Z aC}{k:Nat}(h:k<l.length):(aC.trs l)[k]?=some (l[k]).cs:=by rw [← aC.tc];exact aC.trs_get h
def aJ.cs(x:aJ):Z Tr:= [.leaf (.string x.aFZ.aFz),.leaf (.int .i64 x.aFZ.aFu.aFw),.leaf (.string x.aFZ.aFu.aFs),.row 3 (aA.trs (x.aFZ.aFu.aFt)),.leaf (.int .i64 x.aF7),.row 1 (c7 (x.aF8))]
def aJ.pv(x:aJ):PV:= .agg [.t (.leaf (.string x.aFZ.aFz)),.t (.leaf (.int .i64 x.aFZ.aFu.aFw)),.t (.leaf (.string x.aFZ.aFu.aFs)),.t (.row 3 (aA.trs (x.aFZ.aFu.aFt))),.t (.leaf (.int .i64 x.aF7)),.t (.row 1 (c7 (x.aF8)))]
theorem aJ.tc(x:aJ):x.tr=x.cs:=by
 obtain⟨v0,v1,v2⟩:=x
 simp [aJ.tr,aJ.cs,aD.tc,aD.cs]
theorem aJ.trs_cs{l:Z aJ}{k:Nat}(h:k<l.length):(aJ.trs l)[k]?=some (l[k]).cs:=by rw [← aJ.tc];exact aJ.trs_get h
def aU.cs(x:aU):Z Tr:= [.row 4 (aD.trs (x.aFA)),.row 1 (c7 (x.aFI)),.row 5 (aC.trs (x.aFC))]
def aU.pv(x:aU):PV:= .agg [.t (.row 4 (aD.trs (x.aFA))),.t (.row 1 (c7 (x.aFI))),.t (.row 5 (aC.trs (x.aFC)))]
theorem aU.tc(x:aU):x.tr=x.cs:=by
 obtain⟨v0,v1,v2⟩:=x
 simp [aU.tr,aU.cs]
theorem aU.trs_cs{l:Z aU}{k:Nat}(h:k<l.length):(aU.trs l)[k]?=some (l[k]).cs:=by rw [← aU.tc];exact aU.trs_get h
def bR.cs(x:bR):Z Tr:= [.row 6 (aN.trs (x.aGc.aFr)),.row 6 (aJ.trs (x.aFV))]
theorem bR.tc(x:bR):x.tr=x.cs:=by
 obtain⟨v0,v1⟩:=x
 simp [bR.tr,bR.cs,aH.tc,aH.cs]
theorem bR.trs_cs{l:Z bR}{k:Nat}(h:k<l.length):(bR.trs l)[k]?=some (l[k]).cs:=by rw [← bR.tc];exact bR.trs_get h
section
variable {P:Program} {C:qT} {n:Nat} {s:AS} {Q:Exit→AS→Prop} {o:Oper} {ops:Array Oper} {rest:Z Oper}
theorem xO(d:Nat){b:Bool}{l:Z Oper}(_hb:s.lk d=some (.t (.leaf (.bool b))))(h1:b=true→AL P C n ops l Q s)(h2:b=false→AL P C n ops l Q s):AL P C n ops l Q s:=by
 cases b
 ·exact h2 rfl
 ·exact h1 rfl
theorem alT{s1:AS}{j d:Nat}{b c:Bool}(hg:o.guard=some (j,c))(hj:(ops[j]?).bind (·.dst)=some d)(hb:s.lk d=some (.t (.leaf (.bool b))))(hv:b=c)(ho:cX P C n o s s1)(h:AL P C n ops rest Q s1):AL P C n ops (o::rest) Q s:=by
 subst hv
 exact apW hg hj hb ho h
theorem ap1{x y z:Operand}{b:Bool}{p:PV}(ho:o.op= .pick x y z)(hd:bL o.dst n=true)(hx:s.ev x=some (.t (.leaf (.bool b))))(hb:b=true)(hy:s.ev y=some p):cX P C n o s (s.putO o.dst p):=
 cX.pick ho hd hx (fun _=>hy) (q:=p) (fun h=>by rw [hb] at h;cases h)
theorem ap0{x y z:Operand}{b:Bool}{p:PV}(ho:o.op= .pick x y z)(hd:bL o.dst n=true)(hx:s.ev x=some (.t (.leaf (.bool b))))(hb:b=false)(hz:s.ev z=some p):cX P C n o s (s.putO o.dst p):=
 cX.pick ho hd hx (fun h=>by rw [hb] at h;cases h) (q:=p) (fun _=>hz)
theorem asI{T:TypeId}{x:Operand}{p:PV}{sz N:Nat}{es:Z (Z Tr)}{E:Nat×Nat×Nat}(ho:o.op= .call { callee:= .builtin .len,args:= #[x],argTypes:= #[T] })(hd:bL o.dst n=true)(hx:s.ev x=some p)(hp:mK p=some (sz,es))(hT:elemOf? P T=some E)(hl:es.length=N):
 cX P C n o s (s.putO o.dst (.t (.leaf (.int .i64 (N:Int))))):=by
 subst hl
 exact cX.len (ty:=0) ho hd hx hp hT
theorem af4(i:Nat){p:PV}{sz N:Nat}{es:Z (Z Tr)}(hx:s.lk i=some p)(hp:mK p=some (sz,es))(hl:es.length=N): ∀m a w,RA C n s m a w→N≤9223372036854775807:=by
 subst hl
 exact axC i hx hp
theorem ad8{st':dL}(h:C.st=⟨[],[]⟩):kT C.st st':=by rw [h];exact kT.nil
end
theorem yI{a b:Nat}(h:decide ((a:Int)<(b:Int))=true):a<b:=by
 have:=of_decide_eq_true h
 omega
theorem arG{a b:Nat}(h:decide ((a:Int)<(b:Int))=false):b≤a:=by
 have:=of_decide_eq_false h
 omega
section
variable {P:Program} {C:qT} {n:Nat} {s:AS} {Q:Exit→AS→Prop} {o:Oper}
theorem cX.congr{s1 s2:AS}(h:cX P C n o s s1)(e:s1=s2):cX P C n o s s2:=e ▸ h
theorem OA{p:PV}(hd:bL o.dst n=true)(h: ∀m a w,RA C n s m a w→ ∃v w1,(execOp a.eval o).run P w= .ok (.value v) w1∧wI w w1∧RV (kV C.av s.st m) s.st m w1 p v):cX P C n o s (s.putO o.dst p):=
 cX.run hd (s1:=s) (fun m a w hr=>by
  obtain⟨v,w1,h1,h2,h3⟩:=h m a w hr
  exact⟨v,m,w1,h1,Ev.later h2,hr.sto.later h2,h3⟩) rfl
theorem CT{T E sz by_ len:Nat}{parts:Array (Nat×Operand)}{ps:Z (Nat×Z PV)}{zs cs:Z PV}(ho:o.op= .buildSlice T len parts)(hT:elemOf? P T=some (E,sz,by_))(hz:jN P E=some zs)(hp:nN s parts.toList=some ps)
 (hc:t8 (fun i=>some (i*sz,sz)) (List.replicate len zs).flatten ps=some cs) (hcl:cs.length=len*sz) (hsz:0<sz) (hzl:zs.length=sz) (hsm:len*sz≤16777216) {m:kQ} {a:Act} {w:World} (h:RA C n s m a w):
 ∃us,(execOp a.eval o).run P w= .ok (.value (.slice (some ⟨w.heap.size,0,none⟩) len len)) (w.alloc (.cells ⟨us⟩ E))∧iM (kV C.av s.st m) s.st m w cs us∧len≤maxLen:=by
 obtain⟨i,hu,hi,hs,hby⟩:=elemOf?.spec hT
 obtain⟨i',z,hi',hzz,hr⟩:=jN.spec hz
 rw [hi] at hi'
 cases hi'
 have hzv:=hr (kV C.av s.st m) s.st m w
 have hzs:z.cells.size=sz:=by have:=hzv.length;rw [hzl] at this;simpa using this.symm
 have hrl: ∀e∈List.replicate len zs,e.length=sz:=fun e he=>by rw [(List.mem_replicate.1 he).2];exact hzl
 have hzero:iM (kV C.av s.st m) s.st m w (List.replicate len zs).flatten ((List.range (len*sz)).map (fun q=>z.cells[q%z.cells.size]!)):=by
  refine iM.of_get (by rw [s9 hrl];simp) fun j p hj=>?_
  have hjl:j<len*sz:=by have:=dK hj;rw [s9 hrl] at this;simpa using this
  have hj1:j/sz<len:=by rw [Nat.div_lt_iff_lt_mul hsz];exact hjl
  have hj2:j%sz<zs.length:=by rw [hzl];exact Nat.mod_lt _ hsz
  have hpj:=vR (i:=j/sz) (j:=j%sz) (e:=zs) (d:=zs[j%sz]) hrl (by rw [List.getElem?_replicate,if_pos hj1]) (List.getElem?_eq_getElem hj2)
  rw [show j/sz*sz+j%sz=j by rw [Nat.mul_comm];exact Nat.div_add_mod j sz,hj] at hpj
  cases hpj
  obtain⟨v,hv,hrv⟩:=hzv.get (List.getElem?_eq_getElem hj2)
  refine⟨v,?_,hrv⟩
  rw [List.getElem?_map,List.getElem?_range hjl]
  simp only [Option.map_some,hzs]
  rw [Array.getElem?_toList] at hv
  obtain⟨hlt,hve⟩:=Array.getElem?_eq_some_iff.1 hv
  rw [getElem!_pos z.cells _ hlt,hve]
 obtain⟨us,h2,h3⟩:=QT (MD h hp) hzero hc
 have hul:us.length=len*sz:=by have:=h3.length;rw [hcl] at this;exact this.symm
 have hrun:(Instr.buildSlice T len (parts.map fun(i,x)=>(i,a.eval x))).run P w= .ok (.slice (some ⟨w.heap.size,0,none⟩) len len) (w.alloc (.cells ⟨us⟩ E)):=by
  have hfill:Instr.fill (fun i=>some (i*sz,sz)) ((Array.range (len*sz)).map (z.cells[· %z.cells.size]!)) (parts.map fun(i,x)=>(i,a.eval x)).toList=some ⟨us⟩:=by
   rw [Array.toList_map,← h2]
   congr 1
   apply Array.ext'
   simp
  by_cases h0:len*sz=0
  ·have hl0:len=0:=by
    rcases Nat.mul_eq_zero.1 h0 with h|h
    ·exact h
    ·omega
   subst hl0
   rw [Nat.zero_mul] at hfill
   simp [Instr.buildSlice,run_underlying hu,Go.sizeOf,typeInfo,hi,hs,newRow]
   have e0:(Array.range 0).map (fun q=>z.cells[q%z.cells.size]!)= #[]:=by simp
   rw [e0] at hfill
   simp at hfill
   have e1:(Array.range 0).map (fun _=>(default:Value))= #[]:=by simp
   rw [e1,hfill]
   simp
  ·exact run_buildSlice w T E len _ ⟨us⟩ i z hu hi hzz (by rw [hs];omega) (by rw [hs];exact h0) (by rw [hs];exact hfill)
 refine⟨us,?_,h3,by have:=Nat.le_mul_of_pos_right len hsz;unfold maxLen;omega⟩
 unfold execOp
 simp [ho,hrun]
theorem tN.length{ps qs:Z PV}(h:tN ps qs):ps.length=qs.length:=by
 induction ps generalizing qs with
 |nil=>cases h;rfl
 |cons p ps ih=>cases h with|cons _ k=>rw [List.length_cons,List.length_cons,ih k]
theorem CS{T E sz by_ len:Nat}{parts:Array (Nat×Operand)}{ps:Z (Nat×Z PV)}{zs cs:Z PV}{es:Z (Z Tr)}(ho:o.op= .buildSlice T len parts)(hT:elemOf? P T=some (E,sz,by_))(hz:jN P E=some zs)(hp:nN s parts.toList=some ps)
 (hc:t8 (fun i=>some (i*sz,sz)) (List.replicate len zs).flatten ps=some cs) (hle:tN cs (es.flatten.map PV.t)) (hel:es.length=len) (hes: ∀e∈es,e.length=sz) (hsz:0<sz) (hzl:zs.length=sz) (hsm:len*sz≤16777216):
 ∀m a w,RA C n s m a w→ ∃v w1,(execOp a.eval o).run P w= .ok (.value v) w1∧wI w w1∧RV (kV C.av s.st m) s.st m w1 (.lit sz es) v:=by
 intro m a w h
 obtain⟨us,h1,h3,hm⟩:=CT ho hT hz hp hc (by rw [hle.length,List.length_map,s9 hes,hel]) hsz hzl hsm h
 have h4:=tN.rv hle h3
 have hx:wI w (w.alloc (.cells ⟨us⟩ E)):= .alloc (.refl _) _
 refine⟨.slice (some ⟨w.heap.size,0,none⟩) len len,w.alloc (.cells ⟨us⟩ E),h1,hx,?_⟩
 have hget: ∀q e,es[q]?=some e→ ∀j d,e[j]?=some d→ ∃v,us[q*sz+j]?=some v∧cH (kV C.av s.st m) (w.alloc (.cells ⟨us⟩ E)) d v:=fun q e hq j d hj=>by
  have hf:=vR (sz:=sz) hes hq hj
  obtain⟨v,hv,hrv⟩:=h4.get (j:=q*sz+j) (p:= .t d) (by rw [List.getElem?_map,hf];rfl)
  exact⟨v,hv,cH.ext hrv hx⟩
 have:=cH.row (ok:=kV C.av s.st m) (w:=w.alloc (.cells ⟨us⟩ E)) (es:=es) (sz:=sz) (a:=some ⟨w.heap.size,0,none⟩) (cap:=len) (fun q j=>(us[q*sz+j]?).getD undef) (by omega) hm (fun _=>⟨w.heap.size,0,rfl,by simp,fun q e hq j d hd=>⟨XS h.sto (Nat.le_refl _) _,?_⟩⟩) (fun q e hq j d hd=>?_)
 ·subst hel
  exact⟨this,_,rfl⟩
 ·obtain⟨v,hv,-⟩:=hget q e hq j d hd
  rw [Nat.zero_add,(OB.new w E ⟨us⟩).cell,hv]
  simpa using hv
 ·obtain⟨v,hv,hr⟩:=hget q e hq j d hd
  rw [hv]
  exact hr
theorem WE{T E sz by_ len:Nat}{parts:Array (Nat×Operand)}{ps:Z (Nat×Z PV)}{zs cs:Z PV}{es:Z (Z Tr)}(ho:o.op= .buildSlice T len parts)(hd:bL o.dst n=true)(hT:elemOf? P T=some (E,sz,by_))(hz:jN P E=some zs)(hp:nN s parts.toList=some ps)
 (hc:t8 (fun i=>some (i*sz,sz)) (List.replicate len zs).flatten ps=some cs) (hle:tN cs (es.flatten.map PV.t)) (hel:es.length=len) (hes: ∀e∈es,e.length=sz) (hsz:0<sz) (hzl:zs.length=sz) (hsm:len*sz≤16777216):
 cX P C n o s (s.putO o.dst (.lit sz es)):=
 OA hd (CS ho hT hz hp hc hle hel hes hsz hzl hsm)
theorem asJ{p q:PV}(hle:PV.Le p q)(hdl:bL o.dst n=true)(h: ∀m a w,RA C n s m a w→ ∃v w1,(execOp a.eval o).run P w= .ok (.value v) w1∧wI w w1∧RV (kV C.av s.st m) s.st m w1 p v):cX P C n o s (s.putO o.dst q):=
 OA hdl fun m a w hr=>by
  obtain⟨v,w1,h1,h2,h3⟩:=h m a w hr
  exact⟨v,w1,h1,h2,hle.rv h3⟩
theorem WF{T E sz by_ len:Nat}{parts:Array (Nat×Operand)}{ps:Z (Nat×Z PV)}{zs cs:Z PV}{es:Z (Z Tr)}(ho:o.op= .buildSlice T len parts)(hd:bL o.dst n=true)(hT:elemOf? P T=some (E,sz,by_))(hz:jN P E=some zs)(hp:nN s parts.toList=some ps)
 (hc:t8 (fun i=>some (i*sz,sz)) (List.replicate len zs).flatten ps=some cs) (hle:tN cs (es.flatten.map PV.t)) (hel:es.length=len) (hes: ∀e∈es,e.length=sz) (hsz:0<sz) (hzl:zs.length=sz) (hsm:len*sz≤16777216):
 cX P C n o s (s.putO o.dst (.t (.row sz es))):=
 asJ (.lit sz es) hd (CS ho hT hz hp hc hle hel hes hsz hzl hsm)
end
def af3:kQ:=⟨fun _=>0,fun _=>none⟩
def av0:Nat→Nat→Prop:=fun _ _=>False
theorem ok0(b o:Nat):kV av0 ⟨[],[]⟩ af3 b o:=⟨fun h=>h,fun k x h=>by simp at h,fun r row g c h=>by simp at h⟩
theorem ax1(w:World):fY av0 ⟨[],[]⟩ af3 w where
 box:=fun k x h=>by simp at h
 binj:=fun k k' x x' h=>by simp at h
 row:=fun r row h=>by simp at h
 rinj:=fun r r' row row' g c c' h=>by simp at h
 br:=fun k x r row g c h=>by simp at h
 avlt:=fun b o h=>h.elim
 avr:=fun r row g c h=>by simp at h
 avb:=fun k x h=>by simp at h
theorem Ev.ext{m m':kQ}{w w':World}{st':dL}(h:Ev ⟨[],[]⟩ m w st' m' w'):wI w w' where
 os:=h.os
 tape:=h.tape
 output:=h.output
 size:=h.size
 block:=fun b hb=>h.blk b hb (fun k x h=>by simp at h) (fun r row g c h=>by simp at h)
abbrev J4(w:World)(ps:List PV)(vs:List Value):Prop:=iM (kV av0 ⟨[],[]⟩ af3) ⟨[],[]⟩ af3 w ps vs
abbrev RV0(w:World)(p:PV)(v:Value):Prop:=RV (kV av0 ⟨[],[]⟩ af3) ⟨[],[]⟩ af3 w p v
theorem RV0.agg{w:World}{ts:Z Tr}{cs:Z Value}(h:iV w ts cs):RV0 w (.agg (ts.map PV.t)) (.agg ⟨cs⟩):=⟨cs,rfl,h.toRVL fun b o _=>ok0 b o⟩
theorem RV0.t{w:World}{t:Tr}{v:Value}(h:M1 w t v):RV0 w (.t t) v:=h.repM fun b o _=>ok0 b o
theorem bU.plain{P:Program}{f:FuncId}{args:Z PV}{d:Value}(h:bU P f args (.t (.leaf d))){w:World}{vals:Z Value}(hv:J4 w args vals):Calls P f ⟨vals⟩ w fun e w'=>e= .returned d∧wI w w':=
 (h av0 af3 w vals (ax1 w) hv).mono fun e w'=>by
  rintro⟨res,st',m',v,rfl,⟨rfl,rfl⟩,-,he,hr⟩
  exact⟨by rw [(cH.leaf_eq hr).1],he.ext⟩
theorem tM(l:Z Y): ∀e∈bA l,e.length=1:=fun e he=>by
 unfold bA at he
 obtain⟨x,_,rfl⟩:=List.mem_map.1 he
 rfl
theorem ZO(l:Z Int): ∀e∈c7 l,e.length=1:=fun e he=>by
 unfold c7 at he
 obtain⟨x,_,rfl⟩:=List.mem_map.1 he
 rfl
theorem zQ(a b:Z Y):bA a++bA b=bA (a++b):=by simp [bA]
section
variable {P:Program} {C:qT} {n:Nat} {s:AS} {Q:Exit→AS→Prop} {o:Oper}
theorem kC{s':AS}{c:Code}(hw:Wk C n s s')(h:dR P C n c Q s'):dR P C n c Q s:=fun m a w hr=>by
 obtain⟨m',h'⟩:=hw m a w hr
 exact h m' a w h'
theorem ah0{T E sz by_:Nat}{x y:Operand}{es es2 es3:Z (Z Tr)}{r:Nat}{row:mV}{p:PV}(ho:o.op= .call { callee:= .builtin .append,args:= #[x,y],argTypes:= #[T,T] })(hd:bL o.dst n=true)
 (hx:s.ev x=some (.acc sz es r)) (hrow:s.st.rows[r]?=some row) (hes:row.es=es) (hE:row.E=E) (hw:row.whole=false) (hy:s.ev y=some p) (hp:mK p=some (sz,es2)) (h2: ∀e∈es2,e.length=sz)
 (hT:elemOf? P T=some (E,sz,by_)) (hz:(P.info? E).bind (fun i=>i.zero.map (fun z=>z.cells.size))=some sz) (hb:0<by_) (hlen:(es.length+es2.length)*by_≤140737488355328) (h3:es++es2=es3):
 cX P C n o s ((⟨s.env,s.st.setRow r { row with es:=es3 }⟩:AS).putO o.dst (.acc sz es3 r)):=by
 subst h3
 exact cX.append ho hd hx hrow hes hE hw hy hp h2 hT hz hb hlen
theorem alU{f:FuncId}{fn:Func}{xs:Z Operand}{ts:Array TypeId}{ps qs:Z PV}{res:PV}{pre st' S:dL}(fb fr:Z Nat)(ho:o.op= .call { callee:= .value (.func f),args:=⟨xs⟩,argTypes:=ts })(hd:bL o.dst n=true)(hf:P.funcs[f]?=some fn)(hnm:(fn.name== "runtime.NumGoroutine")=false)(hb:fn.body.isNone=false)
 (hx:xs.map s.ev=ps.map some) (hS:s.st=S) (hp:lM S pre fb fr) (hle:tN ps (B4 fb fr qs)) (hok:mJ pre qs=true) (hbl:st'.boxes.length=pre.boxes.length) (hrl:st'.rows.length=pre.rows.length) (hc:cM P f qs pre (fun r t=>r=res∧t=st')):
 cX P C n o s ((⟨s.env,S.over st' fb fr⟩:AS).putO o.dst (PV.ren fb fr res)):=by
 subst hS
 exact apX fb fr ho hd hf hnm hb hx hp hle hok hbl hrl hc
end
theorem E8{P:Program}{f:FuncId}{l1 l2:Z PV}{E sz:Nat}{q res:PV}{t:dL}(hsz:0<sz)(h:cM P f (l1++ .acc sz [] 0::l2) ⟨[],[⟨E,sz,[],false⟩]⟩ (fun r st'=>r=res∧st'=t))(hle:PV.Le res q)(hk:hM ⟨[],[]⟩ q=true):bU P f (l1++ .nil::l2) q:=fun av m w vals hst hv=>by
 have hE:=F4 (row:=⟨E,sz,[],false⟩) hst
 have hS:=JD (row:=⟨E,sz,[],false⟩) hst hsz rfl
 have hargs:iM (kV av (dL.addRow ⟨[],[]⟩ ⟨E,sz,[],false⟩) ⟨m.ρ,CR m.γ 0 none⟩) (dL.addRow ⟨[],[]⟩ ⟨E,sz,[],false⟩) ⟨m.ρ,CR m.γ 0 none⟩ w (l1++ .acc sz [] 0::l2) vals:=by
  have h0:=iM.mono hE _ _ hv
  have hlen:=h0.length
  have key: ∀(l:Z PV) (vs:Z Value),iM (kV av (dL.addRow ⟨[],[]⟩ ⟨E,sz,[],false⟩) ⟨m.ρ,CR m.γ 0 none⟩) (dL.addRow ⟨[],[]⟩ ⟨E,sz,[],false⟩) ⟨m.ρ,CR m.γ 0 none⟩ w (l++ .nil::l2) vs→
   iM (kV av (dL.addRow ⟨[],[]⟩ ⟨E,sz,[],false⟩) ⟨m.ρ,CR m.γ 0 none⟩) (dL.addRow ⟨[],[]⟩ ⟨E,sz,[],false⟩) ⟨m.ρ,CR m.γ 0 none⟩ w (l++ .acc sz [] 0::l2) vs:=by
   intro l
   induction l with
   |nil=>
    intro vs hh
    match vs,hh with
    |v::vs,hh=>
     refine⟨?_,hh.2⟩
     obtain rfl:=(show v=_ from hh.1)
     exact⟨⟨E,sz,[],false⟩,rfl,rfl,Nat.le_refl _,cH.row (es:= []) (fun _ _=>undef) (by simp) (by unfold maxLen;omega) (by simp) (by simp),fun _=>by simp [CR,Z5]⟩
    | [],hh=>exact hh.elim
   |cons p l ih=>
    intro vs hh
    match vs,hh with
    |v::vs,hh=>exact⟨hh.1,ih vs hh.2⟩
    | [],hh=>exact hh.elim
  exact key l1 vals h0
 refine(h av _ w vals hS hargs).mono fun e w'=>?_;rintro⟨r,st',m',v,k1,⟨rfl,rfl⟩,k3,k4,k5⟩
 have hl:xG st' ⟨[],[]⟩:=⟨fun k x' hx=>by simp at hx,fun r row' hr=>by simp at hr⟩
 exact⟨q,⟨[],[]⟩,m',v,k1,⟨rfl,rfl⟩,hl.sto k3,hl.ev (hE.trans k4) kT.nil,hl.rv q _ hk (hle.rv k5)⟩
theorem nA(b:Bool):b=true∨b=false:=by cases b<;>simp
section
variable {P:Program} {C:qT} {n:Nat} {s:AS} {o:Oper}
theorem cP(k j:Nat){bx:dO}{p:PV}{sz N:Nat}{es:Z (Z Tr)}(hb:s.st.boxes[k]?=some (some bx))(hx:bx.cells[j]?=some p)(hp:mK p=some (sz,es))(hl:es.length=N): ∀m a w,RA C n s m a w→N≤9223372036854775807:=by
 subst hl
 exact au3 k j hb hx hp
theorem alW{T E sz by_:Nat}{x i:Operand}{p:PV}{es:Z (Z Tr)}{e:Z Tr}{y:Int}(ho:o.op= .indexAddr T x i)(hd:bL o.dst n=true)(hx:s.ev x=some p)(hp:mK p=some (sz,es))(hi:s.ev i=some (.t (.leaf (.int .i64 y))))(h0:0≤y)
 (he:es[y.toNat]?=some e) (hT:elemOf? P T=some (E,sz,by_)):cX P C n o s (s.putO o.dst (.eptr e)):=
 cX.index (k:=y.toNat) ho hd hx hp (by rw [hi,Int.toNat_of_nonneg h0]) he hT
end
theorem TG{st:dL}{m:kQ}{w w':World}{x:dO}{b:Nat}(hx:wI w w')(hb:w.heap.size≤b):Ev st m w (st.addBox x) ⟨CR m.ρ st.boxes.length b,m.γ⟩ w':=by
 refine⟨hx.os,hx.tape,hx.output,hx.size,fun b hb _ _=>hx.block b hb,fun b o hb _=>kR (hx.block b hb),fun c o hc h=>⟨fun k y hk=>?_,h.2⟩,fun k y hk=>⟨⟨y,?_⟩,?_⟩,fun k y hk=>?_,fun _ row h=>⟨row,h,rfl,Nat.le_refl _,fun _=>rfl,fun h=>⟨h,rfl⟩⟩,fun _ row _ c h h'=> .inl ⟨row,c,h,h'⟩⟩
 ·rcases iA hk with⟨h1,h2⟩|⟨rfl,rfl⟩
  ·simp only [eP (show k≠st.boxes.length by omega)]
   exact h.1 k y h2
  ·simp only [cI]
   omega
 ·show(st.boxes++ [some x])[k]?=_
  rw [List.getElem?_append_left (dK hk)];exact hk
 ·exact eP (by have:=dK hk;omega)
 ·rcases iA hk with⟨h1,h2⟩|⟨rfl,rfl⟩
  ·exact .inl ⟨y,h2⟩
  ·exact .inr (by simpa [cI] using hb)
theorem abP{av:Nat→Nat→Prop}{st:dL}{m:kQ}{w w':World}{x:dO}{b:Nat}{vs:Z Value}(h:fY av st m w)(hx:wI w w')(hb:w.heap.size≤b)(ho:OBp w' b x.ty vs)
 (hc:iM (kV av (st.addBox x) ⟨CR m.ρ st.boxes.length b,m.γ⟩) (st.addBox x) ⟨CR m.ρ st.boxes.length b,m.γ⟩ w' x.cells vs):fY av (st.addBox x) ⟨CR m.ρ st.boxes.length b,m.γ⟩ w':=by
 have he:Ev st m w (st.addBox x) ⟨CR m.ρ st.boxes.length b,m.γ⟩ w':=TG hx hb
 have hw:=fun k y (hk:st.boxes[k]?=some (some y))=>h.box_lt hk
 refine⟨fun k y hk=>?_,fun k k' y y' hk hk' hne=>?_,fun r row hr=>?_,h.rinj,fun k y r row g c hk hr hg=>?_,fun b o hb=>Nat.lt_of_lt_of_le (h.avlt b o hb) hx.size,h.avr,fun k y hk o ha=>?_⟩
 ·rcases iA hk with⟨h1,h2⟩|⟨rfl,rfl⟩
  ·obtain⟨us,k1,k2⟩:=h.box k y h2
   simp only [eP (show k≠st.boxes.length by omega)]
   exact⟨us,k1.ext hx,iM.mono he _ _ k2⟩
  ·simp only [cI]
   exact⟨vs,ho,hc⟩
 ·rcases iA hk with⟨h1,h2⟩|⟨rfl,rfl⟩<;>rcases iA hk' with⟨h1',h2'⟩|⟨rfl,rfl⟩
  ·simp only [eP (show k≠st.boxes.length by omega),eP (show k'≠st.boxes.length by omega)]
   exact h.binj k k' y y' h2 h2' hne
  ·simp only [eP (show k≠st.boxes.length by omega),cI]
   have:=hw k y h2
   omega
  ·simp only [eP (show k'≠st.boxes.length by omega),cI]
   have:=hw k' y' h2'
   omega
  ·exact absurd rfl hne
 ·obtain⟨k1,k2,k3⟩:=h.row r row hr
  refine⟨k1,k2,?_⟩
  rcases k3 with k3|⟨g,c,cur,q1,q2,q3,q4,q5,q6⟩
  ·exact .inl k3
  ·exact .inr ⟨g,c,cur,q1,q2.ext hx,q3,q4,q5,RV.mono he (.t _) _ q6⟩
 ·rcases iA hk with⟨h1,h2⟩|⟨rfl,rfl⟩
  ·simp only [eP (show k≠st.boxes.length by omega)]
   exact h.br k y r row g c h2 hr hg
  ·simp only [cI]
   have:=h.row_lt hr hg
   omega
 ·rcases iA hk with⟨h1,h2⟩|⟨rfl,rfl⟩
  ·simp only [eP (show k≠st.boxes.length by omega)] at ha
   exact h.avb k y h2 o ha
  ·simp only [cI] at ha
   have:=h.avlt _ _ ha
   omega
def asF(P:Program)(f:FuncId)(args:Z PV)(T:TypeId)(cs:Z PV):Prop:=cM P f args ⟨[],[]⟩ (fun r st'=> ∃k,r= .ptr k 0∧st'.rows= []∧(∀i x,st'.boxes[i]?=some (some x)→i=k)∧st'.boxes[k]?=some (some ⟨T,cs⟩))
section
variable {P:Program} {C:qT} {n:Nat} {s:AS} {o:Oper}
theorem VE{f:FuncId}{fn:Func}{xs:Z Operand}{ts:Array TypeId}{ps qs cs:Z PV}{T:TypeId}(ho:o.op= .call { callee:= .value (.func f),args:=⟨xs⟩,argTypes:=ts })(hd:bL o.dst n=true)(hf:P.funcs[f]?=some fn)(hnm:(fn.name== "runtime.NumGoroutine")=false)(hb:fn.body.isNone=false)
 (hx:xs.map s.ev=ps.map some) (hle:tN ps qs) (hfr:lW qs=true) (hfr':lW cs=true) (hc:asF P f qs T cs):cX P C n o s ((⟨s.env,s.st.addBox ⟨T,cs⟩⟩:AS).putO o.dst (.ptr s.st.boxes.length 0)):=fun m a w h K Q hK=>by
 have h2:=evL h hx
 have h1:(execOp a.eval o).run P w= .ok (.enter f ⟨xs.map a.eval⟩) w:=by
  have hcf:=jF (P:=P) hf hnm hb
  unfold execOp
  simp only [ho]
  simp [resolve,invoke,Deferred.ofValue,Act.eval,hcf]
 unfold Oper.wp
 rw [h1]
 have h3:=hc (avY C s m w) m w _ (fY.nil fun b o hb=>hb.1) (lW.rv (fun b o hb hk=>⟨fun hs=>hs.2 hk,fun _ _ h=>by simp at h,fun _ _ _ _ h=>by simp at h⟩) _ _ hfr (tN.rv hle h2))
 refine Calls.mono h3 fun e w'=>?_;rintro⟨r,st',m',v,rfl,⟨k,rfl,hrows,honly,hbox⟩,h4,h5,h6⟩
 have hx:wI w w':=⟨h5.os,h5.tape,h5.output,h5.size,fun b hb=>h5.blk b hb (fun _ _ h=>by simp at h) (fun _ _ _ _ h=>by simp at h)⟩
 have hfresh:w.heap.size≤m'.ρ k:=by
  rcases h5.fresh k _ hbox with⟨x,hx0⟩|hf
  ·simp at hx0
  ·exact hf
 obtain⟨vs,hob,hcs⟩:=h4.box k _ hbox
 have hk: ∀b o,b<w'.heap.size→kV (avY C s m w) st' m' b o→kV C.av (s.st.addBox ⟨T,cs⟩) ⟨CR m.ρ s.st.boxes.length (m'.ρ k),m.γ⟩ b o:=fun b o hb hk=>by
  have hnew:m'.ρ k≠b:=hk.2.1 k _ hbox
  have h0:kV C.av s.st m b o:=by
   rcases Nat.lt_or_ge b w.heap.size with hlt|hge
   ·exact Classical.byContradiction fun hn=>hk.1 ⟨hlt,hn⟩
   ·exact XS h.sto hge o
  refine⟨h0.1,fun i y hi=>?_,h0.2.2⟩
  rcases iA hi with⟨q1,q2⟩|⟨rfl,rfl⟩
  ·simp only [eP (show i≠s.st.boxes.length by omega)]
   exact h0.2.1 i y q2
  ·simp only [cI]
   exact hnew
 have hE:Ev s.st m w (s.st.addBox ⟨T,cs⟩) ⟨CR m.ρ s.st.boxes.length (m'.ρ k),m.γ⟩ w':=TG hx hfresh
 have hS:fY C.av (s.st.addBox ⟨T,cs⟩) ⟨CR m.ρ s.st.boxes.length (m'.ρ k),m.γ⟩ w':=abP h.sto hx hfresh hob (lW.rv hk _ _ hfr' hcs)
 have hv:v= .pointer (some ⟨m'.ρ k,0,none⟩):=h6.2
 exact hK _ _ w' ((h.step hE hS).put (c4 hd) ⟨⟨⟨T,cs⟩,by simp [dL.addBox]⟩,by simp [cI,hv]⟩)
end
def amR(x y:Int):Int:=IntKind.wrap .i64 ((BitVec.ofInt 64 x&&& BitVec.ofInt 64 y).toNat:Int)
def ayP(x y:Int):Int:=IntKind.wrap .i64 ((BitVec.ofInt 64 x^^^BitVec.ofInt 64 y).toNat:Int)
def afU(x y:Int):Int:=x.fdiv (2^(min y.toNat 64))
def bB(x:Int):Int:=IntKind.wrap .i64 x
section
variable {P:Program} {C:qT} {n:Nat} {s:AS} {o:Oper}
theorem VG{v:Value}(ho:o.op= .assign (.const v)∨o.op= .move (.const v)):cX P C n o s (s.delO o.dst):=fun m a w h K Q hK=>by
 have h1:(execOp a.eval o).run P w= .ok (.value v) w:=by
  unfold execOp
  rcases ho with ho|ho<;>simp [ho,Act.eval]
 unfold Oper.wp
 rw [h1]
 exact hK m _ w (h.del o.dst v)
theorem X1{T yT:TypeId}{x y:Operand}{a b:Int}(ho:o.op= .binOp .and T x y yT)(hd:bL o.dst n=true)(hx:s.ev x=some (.t (.leaf (.int .i64 a))))(hy:s.ev y=some (.t (.leaf (.int .i64 b)))):
 cX P C n o s (s.putO o.dst (.t (.leaf (.int .i64 (amR a b))))):=l5 ho hd hx hy (fun w=>by rfl) (wf_wrap .i64 _)
theorem asP{T yT:TypeId}{x y:Operand}{a b:Int}(ho:o.op= .binOp .xor T x y yT)(hd:bL o.dst n=true)(hx:s.ev x=some (.t (.leaf (.int .i64 a))))(hy:s.ev y=some (.t (.leaf (.int .i64 b)))):
 cX P C n o s (s.putO o.dst (.t (.leaf (.int .i64 (ayP a b))))):=l5 ho hd hx hy (fun w=>by rfl) (wf_wrap .i64 _)
theorem ah4{T yT:TypeId}{x y:Operand}{a b:Int}{k:IntKind}(ho:o.op= .binOp .shr T x y yT)(hd:bL o.dst n=true)(hx:s.ev x=some (.t (.leaf (.int .i64 a))))(hy:s.ev y=some (.t (.leaf (.int k b))))(hb:0≤b)(h1: -9223372036854775808≤afU a b)(h2:afU a b≤9223372036854775807):
 cX P C n o s (s.putO o.dst (.t (.leaf (.int .i64 (afU a b))))):=l5 ho hd hx hy (fun w=>by
  have: ¬b<0:=by omega
  simp [eqGuard,binOp,Op.shift,afU,IntKind.bits,this]) (wf_i64 (by omega))
theorem X8{T yT:TypeId}{x y:Operand}{a b:Nat}(ho:o.op= .binOp .rem T x y yT)(hd:bL o.dst n=true)(hx:s.ev x=some (.t (.leaf (.int .i64 (a:Int)))))(hy:s.ev y=some (.t (.leaf (.int .i64 (b:Int)))))(hb:0<b)(ha:a≤9223372036854775807):
 cX P C n o s (s.putO o.dst (.t (.leaf (.int .i64 ((a%b:Nat):Int))))):=l5 ho hd hx hy (fun w=>by
  have: ¬(b:Int)=0:=by omega
  have: ¬b=0:=by omega
  simp [eqGuard,binOp,Op.intDiv,this,Int.tmod_eq_emod_of_nonneg]) (wf_i64 (by have:=Nat.mod_le a b;omega))
theorem LO{S T:TypeId}{x:Operand}{k:IntKind}{a:Int}(ho:o.op= .convert S T x)(hd:bL o.dst n=true)(hx:s.ev x=some (.t (.leaf (.int k a))))(hS: ∃k',P.underlying S=some (.int k'))(hT:P.underlying T=some (.int .i64))(h1: -9223372036854775808≤a)(h2:a≤9223372036854775807):
 cX P C n o s (s.putO o.dst (.t (.leaf (.int .i64 a)))):=
 dV (c4 hd) fun m ac w h=>⟨.int .i64 a,by
  have h3:=(cH.leaf_eq (h.eval hx)).1
  obtain⟨k',hS⟩:=hS
  have hw:IntKind.wrap .i64 a=a:=by unfold IntKind.wrap;simp [IntKind.bits,IntKind.signed];omega
  unfold execOp
  simp [ho,h3,convert,run_underlying hS,run_underlying hT,Conv.intToInt,hw],cH.leaf (wf_i64 (by omega))⟩
end
open Go.Proofs
def l6(l:Z UInt8):Z (Z Tr):=l.map fun b=> [.leaf (.int .u8 (b.toNat:Int))]
theorem s6(l:Z UInt8):(l6 l).length=l.length:=by simp [l6]
theorem C1{l:Z UInt8}{k:Nat}(h:k<l.length):(l6 l)[k]?=some [.leaf (.int .u8 ((l[k]).toNat:Int))]:=by simp [l6,h]
structure DS where
 code:List UInt8
 p:Nat
 h:Int
def DS.cells(d:DS):Z PV:= [.t (.row 1 (l6 d.code)),.t (.leaf (.int .i64 (d.p:Int))),.t (.leaf (.int .i64 d.h))]
abbrev DS.box(T:TypeId)(d:DS):dL:=⟨[some ⟨T,d.cells⟩],[]⟩
def ajP(h:Int):Int:=bB (bB (h*6364136223846793005)+1442695040888963407)
theorem M0(x:Int): -9223372036854775808≤bB x∧bB x≤9223372036854775807:=by
 unfold bB IntKind.wrap
 simp [IntKind.bits,IntKind.signed]
 omega
theorem XO{x y:Int}(h: -9223372036854775808≤x∧x≤9223372036854775807): -9223372036854775808≤afU x y∧afU x y≤9223372036854775807:=by
 unfold afU
 generalize min y.toNat 64=k
 have hp:(1:Int)≤2^k:=by
  have:=Nat.one_le_two_pow (n:=k)
  exact_mod_cast this
 generalize(2:Int)^k=d at hp
 rw [Int.fdiv_eq_ediv_of_nonneg _ (by omega)]
 have h1:x/d≤9223372036854775807:=by
  have:x/d≤9223372036854775807/d:=Int.ediv_le_ediv (by omega) h.2
  have:(9223372036854775807:Int)/d≤9223372036854775807:=Int.ediv_le_self _ (by omega)
  omega
 have h2: -9223372036854775808≤x/d:=by
  rw [Int.le_ediv_iff_mul_le (by omega)]
  omega
 exact⟨h2,h1⟩
def DS.byte(d:DS):Int:=let x:=amR (ayP (afU (ajP d.h) 33) (afU (ajP d.h) 45)) 255;if h:d.p<d.code.length then amR (bB (x+(d.code[d.p].toNat:Int))) 255 else x
def DS.next(d:DS):DS:=⟨d.code,if d.p<d.code.length then d.p+1 else d.p,ajP d.h⟩
theorem aiZ(x:Int):0≤amR x 255∧amR x 255≤255:=by
 unfold amR
 have h:(BitVec.ofInt 64 x&&& BitVec.ofInt 64 255).toNat≤255:=by
  rw [BitVec.toNat_and]
  exact Nat.le_trans Nat.and_le_right (by decide)
 generalize(BitVec.ofInt 64 x&&& BitVec.ofInt 64 255).toNat=k at h
 unfold IntKind.wrap
 simp [IntKind.bits,IntKind.signed]
 omega
theorem DS.byte_in(d:DS):0≤d.byte∧d.byte≤255:=by
 unfold DS.byte
 split
 ·exact aiZ _
 ·exact aiZ _
def DS.byteN(d:DS):Nat:=d.byte.toNat
theorem DS.byteN_le(d:DS):d.byteN≤255:=by have:=d.byte_in;unfold DS.byteN;omega
theorem DS.byteN_eq(d:DS):((d.byteN:Nat):Int)=d.byte:=by have:=d.byte_in;unfold DS.byteN;omega
def DS.below(d:DS)(n:Nat):Nat:=if n=0 then 0 else if n≤256 then d.byteN%n else(d.byteN*16777216+d.next.byteN*65536+d.next.next.byteN*256+d.next.next.next.byteN)%n
def DS.after(d:DS)(n:Nat):DS:=if n=0 then d else if n≤256 then d.next else d.next.next.next.next
theorem DS.below_lt(d:DS){n:Nat}(h:0<n):d.below n<n:=by
 unfold DS.below
 rw [if_neg (by omega)]
 split
 ·exact Nat.mod_lt _ h
 ·exact Nat.mod_lt _ h
def DS.pick(d:DS)(l:Z Y):Y:=(l[d.below l.length]?).getD ⟨#[]⟩
theorem YB{d:DS}{l:Z Y}(h:d.below l.length<l.length):d.pick l=l[d.below l.length]:=by simp [DS.pick,h]
def IH(h:Int)(b:UInt8):Int:=amR (bB (bB (bB (h*131)+(b.toNat:Int))+7)) 1073741823
def axE(code:Z UInt8):Int:=(code.take 4000).foldl IH (28803+(code.length:Int))
def DS.start(code:Z UInt8):DS:=⟨code,0,axE code⟩
theorem arH{code:Z UInt8}{i:Nat}{h h' r:Int}(h1:i<code.length)(h2:i<4000)(hr:r=((code.take 4000).drop i).foldl IH h)(hs:IH h code[i]=h'):r=((code.take 4000).drop (i+1)).foldl IH h':=by
 have hl:i<(code.take 4000).length:=by simp;omega
 rw [hr,List.drop_eq_getElem_cons hl,List.foldl_cons,List.getElem_take,hs]
theorem atS{code:Z UInt8}{i:Nat}{h r:Int}(h1:code.length≤i∨4000≤i)(hr:r=((code.take 4000).drop i).foldl IH h):r=h:=by
 rw [hr,List.drop_of_length_le (by simp;omega),List.foldl_nil]
def axU(sz:Nat)(es:Z (Z Tr)):J (Z PV)→Nat→PV
 |none,k=> .acc sz es k
 |some ps,k=> .tup (.acc sz es k::ps)
def auU(P:Program)(f:FuncId)(args:Z PV)(E:TypeId)(sz:Nat)(es:Z (Z Tr))(ps:J (Z PV)):Prop:=
 cM P f args ⟨[],[]⟩ (fun r st'=> ∃k,r=axU sz es ps k∧st'.rows[k]?=some ⟨E,sz,es,false⟩)
section
variable {P:Program} {C:qT} {n:Nat} {s:AS} {o:Oper}
end
theorem aqG{av:Nat→Nat→Prop}{st:dL}{m:kQ}{w:World}{k E sz:Nat}{es:Z (Z Tr)}{v:Value}{S:Nat→Prop}(hst:fY av st m w)(hrow:st.rows[k]?=some ⟨E,sz,es,false⟩)(hv:RV (kV av st m) st m w (.acc sz es k) v)
 (hS: ∀g c,m.γ k=some (g,c)→g<w.heap.size→S g) (hfl: ∀e∈es,∀d∈e,∃u,d= .leaf u):D2 w (.row sz es) v S:=by
 obtain⟨q1,q2,q3⟩:=hst.row k _ hrow
 obtain⟨row,hr,-,hle,hrep,heq⟩:=hv
 rw [hrow] at hr
 obtain rfl:=Option.some.inj hr
 have hv:=heq rfl
 rcases q3 with⟨a,b⟩|⟨g,c,cur,r1,r2,r3,r4,r5,r6⟩
 ·rw [a] at hv
  have b:es= []:=b
  subst b
  subst hv
  exact D2.row (es:= []) (fun _ _=>undef) (fun _ _ _=>False) (by simp) (by unfold maxLen;omega) (by simp) (by simp) (by simp) (by simp)
 ·rw [r1] at hv
  subst hv
  have r6:cH (kV av st m) w (.row sz es) (.slice (some ⟨g,0,none⟩) es.length c):=r6
  show D2 w (.row sz es) (.slice (some ⟨g,0,none⟩) es.length c) S
  cases r6 with
  |row cc h1 h2 h3 h4=>
   refine .row cc (fun _ _ _=>False) h1 h2 (fun hne=>?_) (fun i e he j d hd=>?_) (fun _ _ _ _ _ _ x hx=>hx.elim) (fun _ _ _ _ _ _ _ _ _ _ _ _ _ x hx=>hx.elim)
   ·obtain⟨b,off,ha,hb,hc⟩:=h3 hne
    obtain⟨rfl,rfl⟩:g=b∧0=off:=by simpa using ha
    exact⟨g,0,E,cur,rfl,r2,hS g c r1 hb,fun i e he j d hd=>⟨by rw [← r2.cell];exact(hc i e he j d hd).2,fun x hx=>hx.elim⟩⟩
   ·obtain⟨u,rfl⟩:=hfl e (List.mem_of_getElem? he) d (List.mem_of_getElem? hd)
    have h7:=(h4 i e he j _ hd).rep.leaf_eq
    rw [h7.1]
    exact .leaf h7.2
theorem auU.own{P:Program}{f:FuncId}{args:Z PV}{E sz:Nat}{es:Z (Z Tr)}(h:auU P f args E sz es none)(hfl: ∀e∈es,∀d∈e,∃u,d= .leaf u){w:World}{vals:Z Value}(hv:J4 w args vals):
 Calls P f ⟨vals⟩ w fun e w'=> ∃v,e= .returned v∧wI w w'∧D2 w' (.row sz es) v (QH w w'):=
 (h av0 af3 w vals (ax1 w) hv).mono fun e w'=>by
  rintro⟨res,st',m',v,rfl,⟨k,rfl,hrow⟩,hst,he,hr⟩
  exact⟨v,rfl,he.ext,aqG hst hrow hr (fun g c hg hlt=>by
   rcases he.rfresh k _ g c hrow hg with⟨row,c0,h0,_⟩|hf
   ·simp at h0
   ·exact⟨hf,hlt⟩) hfl⟩
mutual
inductive Mv (sz:Nat) (es:List (List Tr)) (k k':Nat):PV→PV→Prop
 |acc:Mv sz es k k' (.acc sz es k) (.acc sz es k')
 |free (p:PV):PV.free p=true→Mv sz es k k' p p
 |agg {ps qs:List PV}:JE sz es k k' ps qs→Mv sz es k k' (.agg ps) (.agg qs)
 |tup {ps qs:List PV}:JE sz es k k' ps qs→Mv sz es k k' (.tup ps) (.tup qs)
inductive JE (sz:Nat) (es:List (List Tr)) (k k':Nat):List PV→List PV→Prop
 |nil:JE sz es k k' [] []
 |cons {p q:PV} {ps qs:List PV}:Mv sz es k k' p q→JE sz es k k' ps qs→JE sz es k k' (p::ps) (q::qs)
end
section
variable {ok ok':Nat→Nat→Prop} {st st':dL} {m m':kQ} {w:World} {sz k k':Nat} {es:Z (Z Tr)}
mutual
theorem Mv.rv(hk: ∀b o,b<w.heap.size→ok b o→ok' b o)(hrow: ∀row,st.rows[k]?=some row→st'.rows[k']?=some row∧m'.γ k'=m.γ k): ∀ {p q:PV} {v:Value},Mv sz es k k' p q→RV ok st m w p v→RV ok' st' m' w q v
 |_,_,_,.acc,h=>by
  obtain⟨row,h1,h2,h3,h4,h5⟩:=h
  obtain⟨k1,k2⟩:=hrow row h1
  exact⟨row,k1,h2,h3,cH.mono h4 (Nat.le_refl _) hk (fun _ _ _ _=>rfl),fun e=>by rw [k2];exact h5 e⟩
 |_,_,_,.free p hf,h=>PV.free.rv hk p _ hf h
 |_,_,_,.agg hl,h=>by
  obtain⟨vs,hv,h1⟩:=h
  exact⟨vs,hv,JE.rv hk hrow hl h1⟩
 |_,_,_,.tup hl,h=>by
  obtain⟨vs,hv,h1⟩:=h
  exact⟨vs,hv,JE.rv hk hrow hl h1⟩
theorem JE.rv(hk: ∀b o,b<w.heap.size→ok b o→ok' b o)(hrow: ∀row,st.rows[k]?=some row→st'.rows[k']?=some row∧m'.γ k'=m.γ k): ∀ {ps qs:Z PV} {vs:Z Value},JE sz es k k' ps qs→iM ok st m w ps vs→iM ok' st' m' w qs vs
 |_,_,[],.nil,h=>h
 |_,_,_::_,.nil,h=>h.elim
 |_,_,[],.cons _ _,h=>h.elim
 |_,_,_::_,.cons h1 h2,h=>⟨Mv.rv hk hrow h1 h.1,JE.rv hk hrow h2 h.2⟩
end
end
mutual
theorem PV.free.ren{fb fr:Z Nat}: ∀(p:PV),PV.free p=true→PV.ren fb fr p=p
 | .t _,_=>rfl
 | .agg cs,h=>by rw [PV.ren,lW.ren cs h]
 | .tup cs,h=>by rw [PV.ren,lW.ren cs h]
 | .nil,_=>rfl
 | .eptr _,_=>rfl
 | .fn f cs,h=>by rw [PV.ren,lW.ren cs h]
 | .acc _ _ _,h=>by cases h
 | .ptr _ _,h=>by cases h
 | .full _ _ _,h=>by cases h
 | .rptr _ _,h=>by cases h
 | .lit _ _,h=>by cases h
 | .bsl _ _,h=>by cases h
 | .gsl _ _,h=>by cases h
theorem lW.ren{fb fr:Z Nat}: ∀(ps:Z PV),lW ps=true→B4 fb fr ps=ps
 | [],_=>rfl
 |p::ps,h=>by
  simp only [lW,Bool.and_eq_true] at h
  rw [B4,PV.free.ren p h.1,lW.ren ps h.2]
end
section
variable {av:Nat→Nat→Prop} {s pre st':dL} {m m':kQ} {fb:Z Nat} {w w':World} {k:Nat} {row:mV}
theorem atV(h:lM s pre fb [])(hpr:pre.rows= [])(hs:fY av s m w)(hst:fY (ET av s pre m fb [] w) st' m' w')(he:Ev pre (m.via fb []) w st' m' w')(hbl:st'.boxes.length=pre.boxes.length)
 (hfree: ∀(j:Nat) (x:dO),st'.boxes[j]?=some (some x)→lW x.cells=true) (hrow:st'.rows[k]?=some row):
 Ev s m w ⟨(s.over ⟨st'.boxes,[]⟩ fb []).boxes,s.rows++ [row]⟩ ⟨m.ρ,CR m.γ s.rows.length (m'.γ k)⟩ w'∧fY av ⟨(s.over ⟨st'.boxes,[]⟩ fb []).boxes,s.rows++ [row]⟩ ⟨m.ρ,CR m.γ s.rows.length (m'.γ k)⟩ w'∧
 (∀b o,b<w'.heap.size→kV (ET av s pre m fb [] w) st' m' b o→kV av ⟨(s.over ⟨st'.boxes,[]⟩ fb []).boxes,s.rows++ [row]⟩ ⟨m.ρ,CR m.γ s.rows.length (m'.γ k)⟩ b o):=by
 have pb: ∀(i j:Nat),fb[j]?=some i→ ∃(x y:dO),pre.boxes[j]?=some (some x)∧s.boxes[i]?=some (some y)∧fb.getD j 0=i∧m'.ρ j=m.ρ i∧ ∃x':dO,st'.boxes[j]?=some (some x'):=fun i j hj=>by
  obtain⟨x,hx⟩:=h.all j (by rw [← h.fbl];exact dK hj)
  obtain⟨y,hy,-⟩:=h.box j x hx
  have e:fb.getD j 0=i:=by simp [List.getD_eq_getElem?_getD,hj]
  rw [e] at hy
  obtain⟨h1,h2⟩:=he.live j x hx
  exact⟨x,y,hx,hy,e,by rw [h2];show m.ρ (fb.getD j 0)=_;rw [e],h1⟩
 have ob: ∀(i:Nat) (z:dO),(s.over ⟨st'.boxes,[]⟩ fb []).boxes[i]?=some (some z)→(∃(j:Nat) (x:dO),fb[j]?=some i∧st'.boxes[j]?=some (some x)∧z=x.ren fb []∧i<s.boxes.length)∨(idx? fb i=none∧s.boxes[i]?=some (some z)):=fun i z hi=>Z2 (st':=⟨st'.boxes,[]⟩) hi
 have lv: ∀(i:Nat) (z:dO),(s.over ⟨st'.boxes,[]⟩ fb []).boxes[i]?=some (some z)→ ∃y:dO,s.boxes[i]?=some (some y):=fun i z hi=>by
  rcases ob i z hi with⟨j,x,h1,-⟩|⟨-,h2⟩
  ·obtain⟨-,y,-,hy,-⟩:=pb i j h1
   exact⟨y,hy⟩
  ·exact⟨z,h2⟩
 have hfresh: ∀g c,m'.γ k=some (g,c)→w.heap.size≤g:=fun g c hg=>by
  rcases he.rfresh k row g c hrow hg with⟨row0,c0,hr,-⟩|hf
  ·rw [hpr] at hr;simp at hr
  ·exact hf
 have rk: ∀(i:Nat) (z:mV) (g c:Nat),(s.rows++ [row])[i]?=some z→CR m.γ s.rows.length (m'.γ k) i=some (g,c)→(s.rows[i]?=some z∧m.γ i=some (g,c))∨(i=s.rows.length∧z=row∧m'.γ k=some (g,c)):=fun i z g c hi hg=>by
  rcases getElem?_snoc hi with⟨h1,h2⟩|⟨rfl,rfl⟩
  ·rw [eP (show i≠s.rows.length by omega)] at hg
   exact .inl ⟨h2,hg⟩
  ·simp only [cI] at hg
   exact .inr ⟨rfl,rfl,hg⟩
 have okk: ∀b o,b<w.heap.size→s.ok m b o→dL.ok ⟨(s.over ⟨st'.boxes,[]⟩ fb []).boxes,s.rows++ [row]⟩ ⟨m.ρ,CR m.γ s.rows.length (m'.γ k)⟩ b o:=fun b o hb hk=>by
  refine⟨fun i z hi=>?_,fun i z g c hi hg e=>?_⟩
  ·obtain⟨y,hy⟩:=lv i z hi
   exact hk.1 i y hy
  ·rcases rk i z g c hi hg with⟨h1,h2⟩|⟨-,-,h3⟩
   ·exact hk.2 i z g c h1 h2 e
   ·have:=hfresh g c h3;omega
 have ev:Ev s m w ⟨(s.over ⟨st'.boxes,[]⟩ fb []).boxes,s.rows++ [row]⟩ ⟨m.ρ,CR m.γ s.rows.length (m'.γ k)⟩ w':=by
  refine⟨he.os,he.tape,he.output,he.size,fun b hb h1 h2=>he.blk b hb (fun i x hi=>?_) (fun r row0 g c hr _=>?_),fun b o hb hk=>he.cell b o hb (h.ok (av:=fun _ _=>False) (w:=w) ⟨id,hk⟩).2,okk,fun i y hi=>⟨?_,rfl⟩,fun i z hi=> .inl (lv i z hi),fun i row0 hi=>⟨row0,?_,rfl,Nat.le_refl _,fun _=>?_,fun hw=>⟨hw,?_⟩⟩,fun i z g c hi hg=>?_⟩
  ·obtain⟨y,hy,-⟩:=h.box i x hi
   exact h1 _ y hy
  ·rw [hpr] at hr;simp at hr
  ·cases hq:idx? fb i with
   |none=>exact⟨y,by unfold dL.over;simp [List.getElem?_zipIdx,hi,hq]⟩
   |some j=>
    obtain⟨-,-,-,-,-,-,x',hx'⟩:=pb i j (idx?_some hq)
    exact⟨x'.ren fb [],by unfold dL.over;simp [List.getElem?_zipIdx,hi,hq,List.getD_eq_getElem?_getD,hx']⟩
  ·show(s.rows++ [row])[i]?=_
   rw [List.getElem?_append_left (dK hi)];exact hi
  ·exact eP (by have:=dK hi;omega)
  ·exact eP (by have:=dK hi;omega)
  ·rcases rk i z g c hi hg with⟨h1,h2⟩|⟨-,-,h3⟩
   ·exact .inl ⟨z,c,h1,h2⟩
   ·exact .inr (hfresh g c h3)
 have back: ∀b o,b<w'.heap.size→kV (ET av s pre m fb [] w) st' m' b o→kV av ⟨(s.over ⟨st'.boxes,[]⟩ fb []).boxes,s.rows++ [row]⟩ ⟨m.ρ,CR m.γ s.rows.length (m'.γ k)⟩ b o:=fun b o _ hk=>by
  rcases Nat.lt_or_ge b w.heap.size with hlt|hge
  ·by_cases hA:kV av s m b o
   ·exact⟨hA.1,okk b o hlt hA.2⟩
   ·by_cases hB: ∃i x,pre.boxes[i]?=some (some x)∧m.ρ (fb.getD i 0)=b
    ·obtain⟨i,x,h1,h2⟩:=hB
     obtain⟨⟨x',h3⟩,h4⟩:=he.live i x h1
     exact absurd (h4.trans h2) (hk.2.1 i x' h3)
    ·exact absurd ⟨hlt,hA,fun i x h1 h2=>hB ⟨i,x,h1,h2⟩,fun r row0 g c h1 h2 h3=>by rw [hpr] at h1;simp at h1⟩ hk.1
  ·refine⟨fun ho=>by have:=hs.avlt _ _ ho;omega,fun i z hi=>?_,fun i z g c hi hg e=>?_⟩
   ·obtain⟨y,hy⟩:=lv i z hi
    have:=hs.box_lt hy
    show m.ρ i≠b
    omega
   ·rcases rk i z g c hi hg with⟨h1,h2⟩|⟨-,rfl,h3⟩
    ·have:=hs.row_lt h1 h2
     omega
    ·exact hk.2.2 k _ g c hrow h3 e
 refine⟨ev,⟨fun i z hi=>?_,fun i i' z z' hi hi' hne=>?_,fun i z hi=>?_,fun i i' z z' g c c' hi hi' hg hg'=>?_,fun i z r row0 g c hi hr hg=>?_,fun b o hb=>Nat.lt_of_lt_of_le (hs.avlt b o hb) he.size,fun i z g c hi hg o ho=>?_,fun i z hi=>by obtain⟨y,hy⟩:=lv i z hi;exact hs.avb i y hy⟩,back⟩
 ·rcases ob i z hi with⟨j,x,h1,h2,rfl,-⟩|⟨h1,h2⟩
  ·obtain⟨-,-,-,-,-,h4,-⟩:=pb i j h1
   obtain⟨vs,k1,k2⟩:=hst.box j x h2
   refine⟨vs,?_,?_⟩
   ·show OBp w' (m.ρ i) _ _
    rw [← h4]
    exact k1
   ·show iM _ _ _ _ (B4 fb [] x.cells) vs
    rw [lW.ren _ (hfree j x h2)]
    exact lW.rv back _ _ (hfree j x h2) k2
  ·obtain⟨vs,k1,k2⟩:=hs.box i z h2
   refine⟨vs,k1.keep (he.blk _ k1.lt (fun j x hj=>?_) (fun r row0 g c hr _=>?_)),iM.mono ev _ _ k2⟩
   ·obtain⟨y,hy,-⟩:=h.box j x hj
    have hj':=uG (l:=fb) (k:=j) (by rw [h.fbl];exact dK hj)
    exact hs.binj _ _ y z hy h2 (fun e=>idx?_none h1 j (by rw [hj',e]))
   ·rw [hpr] at hr;simp at hr
 ·obtain⟨y,hy⟩:=lv i z hi
  obtain⟨y',hy'⟩:=lv i' z' hi'
  exact hs.binj i i' y y' hy hy' hne
 ·rcases getElem?_snoc hi with⟨h1,h2⟩|⟨rfl,rfl⟩
  ·obtain⟨k1,k2,k3⟩:=hs.row i z h2
   refine⟨k1,k2,?_⟩
   simp only [eP (show i≠s.rows.length by omega)]
   rcases k3 with k3|⟨g,c,cur,q1,q2,q3,q4,q5,q6⟩
   ·exact .inl k3
   ·refine .inr ⟨g,c,cur,q1,(he.blk g q2.lt (fun j x hj e=>?_) (fun r row0 g' c' hr _=>?_)).trans q2,q3,q4,q5,RV.mono ev (.t _) _ q6⟩
    ·obtain⟨y,hy,-⟩:=h.box j x hj
     exact hs.br _ y i z g c hy h2 q1 e
    ·rw [hpr] at hr;simp at hr
  ·obtain⟨k1,k2,k3⟩:=hst.row k _ hrow
   refine⟨k1,k2,?_⟩
   simp only [cI]
   rcases k3 with k3|⟨g,c,cur,q1,q2,q3,q4,q5,q6⟩
   ·exact .inl k3
   ·exact .inr ⟨g,c,cur,q1,q2,q3,q4,q5,cH.mono q6 (Nat.le_refl _) back (fun _ _ _ _=>rfl)⟩
 ·rcases rk i z g c hi hg with⟨h1,h2⟩|⟨h1,-,h3⟩<;>rcases rk i' z' g c' hi' hg' with⟨h1',h2'⟩|⟨h1',-,h3'⟩
  ·exact hs.rinj i i' z z' g c c' h1 h1' h2 h2'
  ·have:=hs.row_lt h1 h2
   have:=hfresh g c' h3'
   omega
  ·have:=hs.row_lt h1' h2'
   have:=hfresh g c h3
   omega
  ·omega
 ·obtain⟨y,hy⟩:=lv i z hi
  rcases rk r row0 g c hr hg with⟨h1,h2⟩|⟨-,-,h3⟩
  ·exact hs.br i y r row0 g c hy h1 h2
  ·have:=hs.box_lt hy
   have:=hfresh g c h3
   show m.ρ i≠g
   omega
 ·rcases rk i z g c hi hg with⟨h1,h2⟩|⟨-,-,h3⟩
  ·exact hs.avr i z g c h1 h2 o ho
  ·have:=hs.avlt _ _ ho
   have:=hfresh g c h3
   omega
end
def pY:Z (J dO)→Bool
 | []=>true
 |none::l=>pY l
 |some x::l=>lW x.cells&&pY l
theorem pY.get: ∀ {l:Z (J dO)} {j:Nat} {x:dO},pY l=true→l[j]?=some (some x)→lW x.cells=true
 | [],_,_,_,h=>by simp at h
 |none::l,0,_,_,h=>by simp at h
 |none::l,j+1,x,hf,h=>pY.get (l:=l) (j:=j) hf (by simpa using h)
 |some y::l,0,x,hf,h=>by
  simp at h
  subst h
  simp only [pY,Bool.and_eq_true] at hf
  exact hf.1
 |some y::l,j+1,x,hf,h=>by
  simp only [pY,Bool.and_eq_true] at hf
  exact pY.get (l:=l) (j:=j) hf.2 (by simpa using h)
def xF(P:Program)(f:FuncId)(args:Z PV)(pre:dL)(B:Z (J dO))(E:TypeId)(sz:Nat)(es:Z (Z Tr))(R:Nat→PV):Prop:=
 cM P f args pre (fun r t=> ∃k,r=R k∧t.boxes=B∧t.rows[k]?=some ⟨E,sz,es,false⟩)
theorem D6.refl{st:dL}: ∀ {B:Z (J dO)},(∀x,some x∈B→mJ st x.cells=true)→D6 st B B
 | [],_=>trivial
 |none::B,h=>D6.refl (B:=B) fun x hx=>h x (List.mem_cons_of_mem _ hx)
 |some x::B,h=>⟨⟨rfl,tN.refl _,h x (by simp)⟩,D6.refl (B:=B) fun y hy=>h y (List.mem_cons_of_mem _ hy)⟩
def apK(st:dL)(B:Z (J dO)):Bool:=B.all fun x=>match x with
 |none=>true
 |some x=>mJ st x.cells
theorem ajT{st:dL}{B:Z (J dO)}(h:apK st B=true)(x:dO)(hx:some x∈B):mJ st x.cells=true:=by
 have:=List.all_eq_true.1 h _ hx
 exact this
theorem xF.plain{P:Program}{f:FuncId}{args:Z PV}{pre:dL}{B:Z (J dO)}{E:TypeId}{sz:Nat}{es:Z (Z Tr)}{R:Nat→PV}{D:PV}(h:xF P f args pre B E sz es R)(hle: ∀k,PV.Le (R k) D)(hk:hM ⟨B,[]⟩ D=true:=by exact rfl)(hb:apK ⟨B,[]⟩ B=true:=by exact rfl)(hp:kT pre ⟨B,[]⟩):cM P f args pre (fun q t=>q=D∧t=⟨B,[]⟩):=fun av m w vals hst hv=>by
 refine(h av m w vals hst hv).mono fun e w'=>?_;rintro⟨r,st',m',v,k1,⟨k,rfl,rfl,-⟩,k3,k4,k5⟩
 have hl:xG st' ⟨st'.boxes,[]⟩:=StLe_mk' (D6.refl (ajT hb)) rfl
 exact⟨D,⟨st'.boxes,[]⟩,m',v,k1,⟨rfl,rfl⟩,hl.sto k3,hl.ev k4 hp,hl.rv D _ hk ((hle k).rv k5)⟩
theorem af1{st:dL}:kT ⟨[],[]⟩ st:=kT.nil
theorem axB{bs bs':Z (J dO)}(h: ∀(k:Nat) (x:dO),bs[k]?=some (some x)→ ∃x':dO,bs'[k]?=some (some x')):kT ⟨bs,[]⟩ ⟨bs',[]⟩:=⟨h,fun r row hr=>by simp at hr⟩
theorem atN{x x':dO}:kT ⟨[some x],[]⟩ ⟨[some x'],[]⟩:=axB fun k y hk=>by
 rcases k with _|k
 ·exact⟨x',rfl⟩
 ·simp at hk
section
variable {P:Program} {C:qT} {n:Nat} {s:AS} {o:Oper}
theorem nV{f:FuncId}{fn:Func}{xs:Z Operand}{ts:Array TypeId}{ps qs:Z PV}{pre S:dL}{B:Z (J dO)}{E:TypeId}{sz:Nat}{es:Z (Z Tr)}{R:Nat→PV}(fb:Z Nat)(ho:o.op= .call { callee:= .value (.func f),args:=⟨xs⟩,argTypes:=ts })(hd:bL o.dst n=true)(hf:P.funcs[f]?=some fn)(hnm:(fn.name== "runtime.NumGoroutine")=false)(hb:fn.body.isNone=false)
 (hx:xs.map s.ev=ps.map some) (hS:s.st=S) (hp:lM S pre fb []) (hpr:pre.rows= []) (hle:tN ps (B4 fb [] qs)) (hok:mJ pre qs=true) (hbl:B.length=pre.boxes.length) (hfree:pY B=true) (hR: ∀k k',Mv sz es k k' (R k) (R k')) (hc:xF P f qs pre B E sz es R):
 cX P C n o s ((⟨s.env,⟨(S.over ⟨B,[]⟩ fb []).boxes,S.rows++ [⟨E,sz,es,false⟩]⟩⟩:AS).putO o.dst (R S.rows.length)):=fun m a w h K Q hK=>by
 subst hS
 have h2:=evL h hx
 have h1:(execOp a.eval o).run P w= .ok (.enter f ⟨xs.map a.eval⟩) w:=by
  have hcf:=jF (P:=P) hf hnm hb
  unfold execOp
  simp only [ho]
  simp [resolve,invoke,Deferred.ofValue,Act.eval,hcf]
 unfold Oper.wp
 rw [h1]
 have h3:=hc (ET C.av s.st pre m fb [] w) (m.via fb []) w _ (hp.sto h.sto) (iM.unren hp (fun b o _ k=>hp.ok k) _ _ hok (tN.rv hle h2))
 refine Calls.mono h3 fun e w'=>?_;rintro⟨r,st',m',v,rfl,⟨k,rfl,rfl,hrow⟩,h4,h5,h6⟩
 obtain⟨k1,k2,k3⟩:=atV hp hpr h.sto h4 h5 hbl (fun j x hj=>pY.get hfree hj) hrow
 refine hK _ _ w' ((h.step k1 k2).put (c4 hd) (Mv.rv k3 (fun row hr=>?_) (hR k s.st.rows.length) h6))
 rw [hrow] at hr
 obtain rfl:=Option.some.inj hr
 exact⟨by simp,by simp only [cI]⟩
end
def xS(P:Program)(T f:Nat):J (Nat×Bool×Nat):=
 match P.underlying T with
 |some (.struct fs)=>match fs[f]? with
  |some fd=>(kA P fd.type).map fun x=>(fd.offset,x.1,x.2)
  |none=>none
 |_=>none
theorem xS.spec{P:Program}{T f e z:Nat}{b:Bool}(h:xS P T f=some (e,b,z)): ∃fs fd,P.underlying T=some (.struct fs)∧fs[f]?=some fd∧kA P fd.type=some (b,z)∧fd.offset=e:=by
 unfold xS at h
 split at h
 ·rename_i fs hu
  split at h
  ·rename_i fd hf
   cases hs:kA P fd.type with
   |none=>simp [hs] at h
   |some x=>
    obtain⟨b',z'⟩:=x
    simp only [hs,Option.map_some,Option.some.injEq,Prod.mk.injEq] at h
    obtain⟨h1,rfl,rfl⟩:=h
    exact⟨fs,fd,hu,hf,hs,h1⟩
  ·cases h
 ·cases h
section
variable {P:Program} {C:qT} {n:Nat} {s:AS} {o:Oper}
theorem alV{T:TypeId}{x:Operand}{f e z:Nat}{cs:Z PV}{p:PV}(ho:o.op= .field T x f)(hd:bL o.dst n=true)(hx:s.ev x=some (.agg cs))(hf:xS P T f=some (e,false,z))(hc:cs[e]?=some p):cX P C n o s (s.putO o.dst p):=
 dV (c4 hd) fun m a w h=>by
  obtain⟨vs,h1,h2⟩:=h.eval hx
  obtain⟨fs,fd,hu,hfd,hs,rfl⟩:=xS.spec hf
  obtain⟨v,hv,hr⟩:=h2.get hc
  refine⟨v,?_,hr⟩
  unfold execOp
  simp [ho,h1,Instr.field,Sem.run_bind,run_underlying hu,hfd,asAgg,part,MF hs,hv]
end
class FO (P:Program) (T:TypeId) (f:Nat) (e:outParam Nat):Prop where h:uF P T f=some e:=by kernel_rfl
class FQ (P:Program) (T:TypeId) (f:Nat) (e:outParam (Nat×Bool×Nat)):Prop where h:xS P T f=some e:=by kernel_rfl
class SH (P:Program) (T:TypeId) (b:outParam (Bool×Nat)):Prop where h:kA P T=some b:=by kernel_rfl
class EL (P:Program) (T:TypeId) (E:outParam (Nat×Nat×Nat)):Prop where h:elemOf? P T=some E:=by kernel_rfl
class ZR (P:Program) (T:TypeId) (ps:outParam (List PV)):Prop where h:jN P T=some ps:=by kernel_rfl
class XK (P:Program) (T:TypeId) (ps:outParam (List (Nat×Nat))):Prop where h:RY P T=some ps
class SZ (P:Program) (T:TypeId) (n:outParam Nat):Prop where h:(P.info? T).map (·.size)=some n:=by kernel_rfl
class ZE (P:Program) (T:TypeId) (n:outParam Nat):Prop where h:(P.info? T).bind (fun i=>i.zero.map (fun z=>z.cells.size))=some n:=by kernel_rfl
end Go.Proofs.YtfcoaagbccmahaaGreat
