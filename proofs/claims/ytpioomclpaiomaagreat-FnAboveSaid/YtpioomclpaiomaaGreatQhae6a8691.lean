/- Words, rules and walks of several kinds, laid together: Data, PmD, PmX, PmY, PmZ, PmW, PmV, PmN, PmO, PmDS, PmK, PmM, PmU, PmT, PmDraw, PmB, PlZ, PmR, PmBool, Pma, PmF, PmS, PmEq, PmaB, Pl, PmG. No conditions but those that each theorem states. -/
import Derived.Test.YtpioomclpaiomaaGreatQhbde349b7
import Derived.Test.YtpioomclpaiomaaGreatProg
import Derived.Laws.MakeOwn
set_option linter.unusedSimpArgs false
set_option linter.unusedVariables false
namespace Go.Proofs.YtpioomclpaiomaaGreat
open Go.RowKit
def aW(l:List ByteArray):List (List Tr):=l.map fun s=> [.leaf (.string s)]
def nX(l:List Int):List (List Tr):=l.map fun n=> [.leaf (.int .i64 n)]
theorem bC(l:List ByteArray):(aW l).length=l.length:=by simp [aW]
theorem f8(l:List Int):(nX l).length=l.length:=by simp [nX]
theorem PF{l:List ByteArray}{k:Nat}(h:k<l.length):(aW l)[k]?=some [.leaf (.string l[k])]:=by
 unfold aW
 rw [List.getElem?_map,List.getElem?_eq_getElem h];rfl
theorem NL{l:List Int}{k:Nat}(h:k<l.length):(nX l)[k]?=some [.leaf (.int .i64 l[k])]:=by
 unfold nX
 rw [List.getElem?_map,List.getElem?_eq_getElem h];rfl
theorem fC: ∀l:List Int,Tr.bulkAll (nX l)=0
 | []=>rfl
 |a::l=>by
  have:=fC l
  simp only [nX] at this
  simp [nX,Tr.bulkAll,Tr.bulkL,Tr.bulk,this]
theorem AZ.str{w:World}{l:List ByteArray}{a:Option Addr}{len cap k:Nat}(h:AZ w (.row 1 (aW l)) (.slice a len cap))(hk:k<l.length):
 ∃b off,a=some ⟨b,off,none⟩∧b<w.heap.size∧l[k].size≤maxLen∧w.cell? ⟨b,off+k,none⟩=some (.string l[k]):=by
 obtain⟨b,off,cs,rfl,hb,hcs,hc⟩:=h.at2 (PF hk)
 obtain⟨v,rfl⟩:=ag8 hcs.length.symm
 obtain⟨rfl,hl⟩:=hcs.1.leaf_eq
 have:=hc 0 _ rfl
 rw [Nat.mul_one,Nat.add_zero] at this
 exact⟨b,off,rfl,hb,hl,this⟩
theorem AZ.int{w:World}{l:List Int}{a:Option Addr}{len cap k:Nat}(h:AZ w (.row 1 (nX l)) (.slice a len cap))(hk:k<l.length):
 ∃b off,a=some ⟨b,off,none⟩∧b<w.heap.size∧(Lit.int .i64 l[k]).wf=true∧w.cell? ⟨b,off+k,none⟩=some (.int .i64 l[k]):=by
 obtain⟨b,off,cs,rfl,hb,hcs,hc⟩:=h.at2 (NL hk)
 obtain⟨v,rfl⟩:=ag8 hcs.length.symm
 obtain⟨rfl,hl⟩:=hcs.1.leaf_eq
 have:=hc 0 _ rfl
 rw [Nat.mul_one,Nat.add_zero] at this
 exact⟨b,off,rfl,hb,hl,this⟩
inductive aC where
 |mk (package_:Int) (at_:Int)
def aC.tr:aC→List Tr
 | .mk v0 v1=> [.leaf (.int .i64 v0)]++([.leaf (.int .i64 v1)]++([]))
def aC.trs(l:List aC):List (List Tr):=l.map aC.tr
theorem aC.trs_map(l:List aC):aC.trs l=l.map aC.tr:=rfl
theorem aC.trs_len(l:List aC):(aC.trs l).length=l.length:=by rw [aC.trs_map,List.length_map]
def aC.gPackage:aC→Int
 | .mk v _=>v
@[simp] theorem aC.gPackage_mk(v0:Int)(v1:Int):aC.gPackage (.mk v0 v1)=v0:=rfl
def aC.gAt:aC→Int
 | .mk _ v=>v
@[simp] theorem aC.gAt_mk(v0:Int)(v1:Int):aC.gAt (.mk v0 v1)=v1:=rfl
theorem aC.tr_len(x:aC):x.tr.length=2:=by
 obtain⟨v0,v1⟩:=x
 simp [aC.tr]
theorem aC.sz(l:List aC): ∀e∈aC.trs l,e.length=2:=by
 intro e he
 rw [aC.trs_map] at he
 obtain⟨x,-,rfl⟩:=List.mem_map.1 he
 exact aC.tr_len x
theorem aC.all{l:List aC}{Q:List Tr→Prop}(h: ∀x∈l,Q x.tr): ∀e∈aC.trs l,Q e:=by
 intro e he
 rw [aC.trs_map] at he
 obtain⟨x,hx,rfl⟩:=List.mem_map.1 he
 exact h x hx
theorem aC.trs_get{l:List aC}{k:Nat}(h:k<l.length):(aC.trs l)[k]?=some (l[k]).tr:=by
 rw [aC.trs_map,List.getElem?_map,List.getElem?_eq_getElem h];rfl
inductive aB where
 |mk (atom_:ByteArray) (list_:List aB)
mutual
def aB.tr:aB→List Tr
 | .mk v0 v1=> [.leaf (.string v0)]++([.row 2 (aB.trs v1)]++([]))
def aB.trs:List aB→List (List Tr)
 | []=> []
 |e::r=>aB.tr e::aB.trs r
end
theorem aB.trs_map(l:List aB):aB.trs l=l.map aB.tr:=by induction l<;>simp_all [aB.trs]
theorem aB.trs_len(l:List aB):(aB.trs l).length=l.length:=by rw [aB.trs_map,List.length_map]
def aB.gAtom:aB→ByteArray
 | .mk v _=>v
@[simp] theorem aB.gAtom_mk(v0:ByteArray)(v1:List aB):aB.gAtom (.mk v0 v1)=v0:=rfl
def aB.gList:aB→List aB
 | .mk _ v=>v
@[simp] theorem aB.gList_mk(v0:ByteArray)(v1:List aB):aB.gList (.mk v0 v1)=v1:=rfl
theorem aB.tr_len(x:aB):x.tr.length=2:=by
 obtain⟨v0,v1⟩:=x
 simp [aB.tr]
theorem aB.sz(l:List aB): ∀e∈aB.trs l,e.length=2:=by
 intro e he
 rw [aB.trs_map] at he
 obtain⟨x,-,rfl⟩:=List.mem_map.1 he
 exact aB.tr_len x
theorem aB.all{l:List aB}{Q:List Tr→Prop}(h: ∀x∈l,Q x.tr): ∀e∈aB.trs l,Q e:=by
 intro e he
 rw [aB.trs_map] at he
 obtain⟨x,hx,rfl⟩:=List.mem_map.1 he
 exact h x hx
theorem aB.trs_get{l:List aB}{k:Nat}(h:k<l.length):(aB.trs l)[k]?=some (l[k]).tr:=by
 rw [aB.trs_map,List.getElem?_map,List.getElem?_eq_getElem h];rfl
inductive aA where
 |mk (kind_:Int) (name_:ByteArray) (args_:List aA)
mutual
def aA.tr:aA→List Tr
 | .mk v0 v1 v2=> [.leaf (.int .i64 v0)]++([.leaf (.string v1)]++([.row 3 (aA.trs v2)]++([])))
def aA.trs:List aA→List (List Tr)
 | []=> []
 |e::r=>aA.tr e::aA.trs r
end
theorem aA.trs_map(l:List aA):aA.trs l=l.map aA.tr:=by induction l<;>simp_all [aA.trs]
theorem aA.trs_len(l:List aA):(aA.trs l).length=l.length:=by rw [aA.trs_map,List.length_map]
def aA.gKind:aA→Int
 | .mk v _ _=>v
@[simp] theorem aA.gKind_mk(v0:Int)(v1:ByteArray)(v2:List aA):aA.gKind (.mk v0 v1 v2)=v0:=rfl
def aA.gName:aA→ByteArray
 | .mk _ v _=>v
@[simp] theorem aA.gName_mk(v0:Int)(v1:ByteArray)(v2:List aA):aA.gName (.mk v0 v1 v2)=v1:=rfl
def aA.gArgs:aA→List aA
 | .mk _ _ v=>v
@[simp] theorem aA.gArgs_mk(v0:Int)(v1:ByteArray)(v2:List aA):aA.gArgs (.mk v0 v1 v2)=v2:=rfl
theorem aA.tr_len(x:aA):x.tr.length=3:=by
 obtain⟨v0,v1,v2⟩:=x
 simp [aA.tr]
theorem aA.sz(l:List aA): ∀e∈aA.trs l,e.length=3:=by
 intro e he
 rw [aA.trs_map] at he
 obtain⟨x,-,rfl⟩:=List.mem_map.1 he
 exact aA.tr_len x
theorem aA.all{l:List aA}{Q:List Tr→Prop}(h: ∀x∈l,Q x.tr): ∀e∈aA.trs l,Q e:=by
 intro e he
 rw [aA.trs_map] at he
 obtain⟨x,hx,rfl⟩:=List.mem_map.1 he
 exact h x hx
theorem aA.trs_get{l:List aA}{k:Nat}(h:k<l.length):(aA.trs l)[k]?=some (l[k]).tr:=by
 rw [aA.trs_map,List.getElem?_map,List.getElem?_eq_getElem h];rfl
theorem aA.ind{A:aA→Prop}(h: ∀v0 v1 v2,(∀x∈v2,A x)→A (.mk v0 v1 v2)): ∀e,A e:=by
 have key: ∀(N:Nat) (e:aA),SizeOf.sizeOf e<N→A e:=by
  intro N
  induction N with
  |zero=>intro e he;omega
  |succ N ih=>
   intro e he
   obtain⟨v0,v1,v2⟩:=e
   refine h v0 v1 v2 fun x hx=>ih x ?_
   have:=List.sizeOf_lt_of_mem hx
   simp at he
   omega
 exact fun e=>key _ e (Nat.lt_succ_self _)
inductive aM where
 |mk (var_:ByteArray) (type_:aA)
def aM.tr:aM→List Tr
 | .mk v0 v1=> [.leaf (.string v0)]++(aA.tr v1++([]))
def aM.trs(l:List aM):List (List Tr):=l.map aM.tr
theorem aM.trs_map(l:List aM):aM.trs l=l.map aM.tr:=rfl
theorem aM.trs_len(l:List aM):(aM.trs l).length=l.length:=by rw [aM.trs_map,List.length_map]
def aM.gVar:aM→ByteArray
 | .mk v _=>v
@[simp] theorem aM.gVar_mk(v0:ByteArray)(v1:aA):aM.gVar (.mk v0 v1)=v0:=rfl
def aM.gType:aM→aA
 | .mk _ v=>v
@[simp] theorem aM.gType_mk(v0:ByteArray)(v1:aA):aM.gType (.mk v0 v1)=v1:=rfl
theorem aM.tr_len(x:aM):x.tr.length=4:=by
 obtain⟨v0,v1⟩:=x
 simp [aM.tr,aA.tr_len]
theorem aM.sz(l:List aM): ∀e∈aM.trs l,e.length=4:=by
 intro e he
 rw [aM.trs_map] at he
 obtain⟨x,-,rfl⟩:=List.mem_map.1 he
 exact aM.tr_len x
theorem aM.all{l:List aM}{Q:List Tr→Prop}(h: ∀x∈l,Q x.tr): ∀e∈aM.trs l,Q e:=by
 intro e he
 rw [aM.trs_map] at he
 obtain⟨x,hx,rfl⟩:=List.mem_map.1 he
 exact h x hx
theorem aM.trs_get{l:List aM}{k:Nat}(h:k<l.length):(aM.trs l)[k]?=some (l[k]).tr:=by
 rw [aM.trs_map,List.getElem?_map,List.getElem?_eq_getElem h];rfl
mutual
inductive bJ where
 |mk (constructor_:ByteArray) (vars_:List ByteArray) (body_:aG)
inductive aG where
 |mk (kind_:Int) (trait_:ByteArray) (name_:ByteArray) (n_:Int) (type_:aA) (args_:List aG) (arms_:List bJ)
end
mutual
def bJ.tr:bJ→List Tr
 | .mk v0 v1 v2=> [.leaf (.string v0)]++([.row 1 (aW v1)]++(aG.tr v2++([])))
def bJ.trs:List bJ→List (List Tr)
 | []=> []
 |e::r=>bJ.tr e::bJ.trs r
def aG.tr:aG→List Tr
 | .mk v0 v1 v2 v3 v4 v5 v6=> [.leaf (.int .i64 v0)]++([.leaf (.string v1)]++([.leaf (.string v2)]++([.leaf (.int .i64 v3)]++(aA.tr v4++([.row 9 (aG.trs v5)]++([.row 11 (bJ.trs v6)]++([])))))))
def aG.trs:List aG→List (List Tr)
 | []=> []
 |e::r=>aG.tr e::aG.trs r
end
theorem bJ.trs_map(l:List bJ):bJ.trs l=l.map bJ.tr:=by induction l<;>simp_all [bJ.trs]
theorem aG.trs_map(l:List aG):aG.trs l=l.map aG.tr:=by induction l<;>simp_all [aG.trs]
theorem bJ.trs_len(l:List bJ):(bJ.trs l).length=l.length:=by rw [bJ.trs_map,List.length_map]
theorem aG.trs_len(l:List aG):(aG.trs l).length=l.length:=by rw [aG.trs_map,List.length_map]
def bJ.gConstructor:bJ→ByteArray
 | .mk v _ _=>v
@[simp] theorem bJ.gConstructor_mk(v0:ByteArray)(v1:List ByteArray)(v2:aG):bJ.gConstructor (.mk v0 v1 v2)=v0:=rfl
def bJ.gVars:bJ→List ByteArray
 | .mk _ v _=>v
@[simp] theorem bJ.gVars_mk(v0:ByteArray)(v1:List ByteArray)(v2:aG):bJ.gVars (.mk v0 v1 v2)=v1:=rfl
def bJ.gBody:bJ→aG
 | .mk _ _ v=>v
@[simp] theorem bJ.gBody_mk(v0:ByteArray)(v1:List ByteArray)(v2:aG):bJ.gBody (.mk v0 v1 v2)=v2:=rfl
def aG.gKind:aG→Int
 | .mk v _ _ _ _ _ _=>v
@[simp] theorem aG.gKind_mk(v0:Int)(v1:ByteArray)(v2:ByteArray)(v3:Int)(v4:aA)(v5:List aG)(v6:List bJ):aG.gKind (.mk v0 v1 v2 v3 v4 v5 v6)=v0:=rfl
def aG.gTrait:aG→ByteArray
 | .mk _ v _ _ _ _ _=>v
@[simp] theorem aG.gTrait_mk(v0:Int)(v1:ByteArray)(v2:ByteArray)(v3:Int)(v4:aA)(v5:List aG)(v6:List bJ):aG.gTrait (.mk v0 v1 v2 v3 v4 v5 v6)=v1:=rfl
def aG.gName:aG→ByteArray
 | .mk _ _ v _ _ _ _=>v
@[simp] theorem aG.gName_mk(v0:Int)(v1:ByteArray)(v2:ByteArray)(v3:Int)(v4:aA)(v5:List aG)(v6:List bJ):aG.gName (.mk v0 v1 v2 v3 v4 v5 v6)=v2:=rfl
def aG.gN:aG→Int
 | .mk _ _ _ v _ _ _=>v
@[simp] theorem aG.gN_mk(v0:Int)(v1:ByteArray)(v2:ByteArray)(v3:Int)(v4:aA)(v5:List aG)(v6:List bJ):aG.gN (.mk v0 v1 v2 v3 v4 v5 v6)=v3:=rfl
def aG.gType:aG→aA
 | .mk _ _ _ _ v _ _=>v
@[simp] theorem aG.gType_mk(v0:Int)(v1:ByteArray)(v2:ByteArray)(v3:Int)(v4:aA)(v5:List aG)(v6:List bJ):aG.gType (.mk v0 v1 v2 v3 v4 v5 v6)=v4:=rfl
def aG.gArgs:aG→List aG
 | .mk _ _ _ _ _ v _=>v
@[simp] theorem aG.gArgs_mk(v0:Int)(v1:ByteArray)(v2:ByteArray)(v3:Int)(v4:aA)(v5:List aG)(v6:List bJ):aG.gArgs (.mk v0 v1 v2 v3 v4 v5 v6)=v5:=rfl
def aG.gArms:aG→List bJ
 | .mk _ _ _ _ _ _ v=>v
@[simp] theorem aG.gArms_mk(v0:Int)(v1:ByteArray)(v2:ByteArray)(v3:Int)(v4:aA)(v5:List aG)(v6:List bJ):aG.gArms (.mk v0 v1 v2 v3 v4 v5 v6)=v6:=rfl
theorem aG.tr_len(x:aG):x.tr.length=9:=by
 obtain⟨v0,v1,v2,v3,v4,v5,v6⟩:=x
 simp [aG.tr,aA.tr_len]
theorem bJ.tr_len(x:bJ):x.tr.length=11:=by
 obtain⟨v0,v1,v2⟩:=x
 simp [bJ.tr,aG.tr_len]
theorem bJ.sz(l:List bJ): ∀e∈bJ.trs l,e.length=11:=by
 intro e he
 rw [bJ.trs_map] at he
 obtain⟨x,-,rfl⟩:=List.mem_map.1 he
 exact bJ.tr_len x
theorem bJ.all{l:List bJ}{Q:List Tr→Prop}(h: ∀x∈l,Q x.tr): ∀e∈bJ.trs l,Q e:=by
 intro e he
 rw [bJ.trs_map] at he
 obtain⟨x,hx,rfl⟩:=List.mem_map.1 he
 exact h x hx
theorem bJ.trs_get{l:List bJ}{k:Nat}(h:k<l.length):(bJ.trs l)[k]?=some (l[k]).tr:=by
 rw [bJ.trs_map,List.getElem?_map,List.getElem?_eq_getElem h];rfl
theorem aG.sz(l:List aG): ∀e∈aG.trs l,e.length=9:=by
 intro e he
 rw [aG.trs_map] at he
 obtain⟨x,-,rfl⟩:=List.mem_map.1 he
 exact aG.tr_len x
theorem aG.all{l:List aG}{Q:List Tr→Prop}(h: ∀x∈l,Q x.tr): ∀e∈aG.trs l,Q e:=by
 intro e he
 rw [aG.trs_map] at he
 obtain⟨x,hx,rfl⟩:=List.mem_map.1 he
 exact h x hx
theorem aG.trs_get{l:List aG}{k:Nat}(h:k<l.length):(aG.trs l)[k]?=some (l[k]).tr:=by
 rw [aG.trs_map,List.getElem?_map,List.getElem?_eq_getElem h];rfl
inductive aE where
 |mk (name_:ByteArray) (params_:List aA) (result_:aA) (hasdefault_:Bool) (vars_:List ByteArray) (body_:aG)
def aE.tr:aE→List Tr
 | .mk v0 v1 v2 v3 v4 v5=> [.leaf (.string v0)]++([.row 3 (aA.trs v1)]++(aA.tr v2++([.leaf (.bool v3)]++([.row 1 (aW v4)]++(aG.tr v5++([]))))))
def aE.trs(l:List aE):List (List Tr):=l.map aE.tr
theorem aE.trs_map(l:List aE):aE.trs l=l.map aE.tr:=rfl
theorem aE.trs_len(l:List aE):(aE.trs l).length=l.length:=by rw [aE.trs_map,List.length_map]
def aE.gName:aE→ByteArray
 | .mk v _ _ _ _ _=>v
@[simp] theorem aE.gName_mk(v0:ByteArray)(v1:List aA)(v2:aA)(v3:Bool)(v4:List ByteArray)(v5:aG):aE.gName (.mk v0 v1 v2 v3 v4 v5)=v0:=rfl
def aE.gParams:aE→List aA
 | .mk _ v _ _ _ _=>v
@[simp] theorem aE.gParams_mk(v0:ByteArray)(v1:List aA)(v2:aA)(v3:Bool)(v4:List ByteArray)(v5:aG):aE.gParams (.mk v0 v1 v2 v3 v4 v5)=v1:=rfl
def aE.gResult:aE→aA
 | .mk _ _ v _ _ _=>v
@[simp] theorem aE.gResult_mk(v0:ByteArray)(v1:List aA)(v2:aA)(v3:Bool)(v4:List ByteArray)(v5:aG):aE.gResult (.mk v0 v1 v2 v3 v4 v5)=v2:=rfl
def aE.gHasDefault:aE→Bool
 | .mk _ _ _ v _ _=>v
@[simp] theorem aE.gHasDefault_mk(v0:ByteArray)(v1:List aA)(v2:aA)(v3:Bool)(v4:List ByteArray)(v5:aG):aE.gHasDefault (.mk v0 v1 v2 v3 v4 v5)=v3:=rfl
def aE.gVars:aE→List ByteArray
 | .mk _ _ _ _ v _=>v
@[simp] theorem aE.gVars_mk(v0:ByteArray)(v1:List aA)(v2:aA)(v3:Bool)(v4:List ByteArray)(v5:aG):aE.gVars (.mk v0 v1 v2 v3 v4 v5)=v4:=rfl
def aE.gBody:aE→aG
 | .mk _ _ _ _ _ v=>v
@[simp] theorem aE.gBody_mk(v0:ByteArray)(v1:List aA)(v2:aA)(v3:Bool)(v4:List ByteArray)(v5:aG):aE.gBody (.mk v0 v1 v2 v3 v4 v5)=v5:=rfl
theorem aE.tr_len(x:aE):x.tr.length=16:=by
 obtain⟨v0,v1,v2,v3,v4,v5⟩:=x
 simp [aE.tr,aA.tr_len,aG.tr_len]
theorem aE.sz(l:List aE): ∀e∈aE.trs l,e.length=16:=by
 intro e he
 rw [aE.trs_map] at he
 obtain⟨x,-,rfl⟩:=List.mem_map.1 he
 exact aE.tr_len x
theorem aE.all{l:List aE}{Q:List Tr→Prop}(h: ∀x∈l,Q x.tr): ∀e∈aE.trs l,Q e:=by
 intro e he
 rw [aE.trs_map] at he
 obtain⟨x,hx,rfl⟩:=List.mem_map.1 he
 exact h x hx
theorem aE.trs_get{l:List aE}{k:Nat}(h:k<l.length):(aE.trs l)[k]?=some (l[k]).tr:=by
 rw [aE.trs_map,List.getElem?_map,List.getElem?_eq_getElem h];rfl
inductive aT where
 |mk (name_:ByteArray) (supertraits_:List ByteArray) (auto_:Bool) (assoc_:Bool) (signatures_:List aE)
def aT.tr:aT→List Tr
 | .mk v0 v1 v2 v3 v4=> [.leaf (.string v0)]++([.row 1 (aW v1)]++([.leaf (.bool v2)]++([.leaf (.bool v3)]++([.row 16 (aE.trs v4)]++([])))))
def aT.trs(l:List aT):List (List Tr):=l.map aT.tr
theorem aT.trs_map(l:List aT):aT.trs l=l.map aT.tr:=rfl
theorem aT.trs_len(l:List aT):(aT.trs l).length=l.length:=by rw [aT.trs_map,List.length_map]
def aT.gName:aT→ByteArray
 | .mk v _ _ _ _=>v
@[simp] theorem aT.gName_mk(v0:ByteArray)(v1:List ByteArray)(v2:Bool)(v3:Bool)(v4:List aE):aT.gName (.mk v0 v1 v2 v3 v4)=v0:=rfl
def aT.gSupertraits:aT→List ByteArray
 | .mk _ v _ _ _=>v
@[simp] theorem aT.gSupertraits_mk(v0:ByteArray)(v1:List ByteArray)(v2:Bool)(v3:Bool)(v4:List aE):aT.gSupertraits (.mk v0 v1 v2 v3 v4)=v1:=rfl
def aT.gAuto:aT→Bool
 | .mk _ _ v _ _=>v
@[simp] theorem aT.gAuto_mk(v0:ByteArray)(v1:List ByteArray)(v2:Bool)(v3:Bool)(v4:List aE):aT.gAuto (.mk v0 v1 v2 v3 v4)=v2:=rfl
def aT.gAssoc:aT→Bool
 | .mk _ _ _ v _=>v
@[simp] theorem aT.gAssoc_mk(v0:ByteArray)(v1:List ByteArray)(v2:Bool)(v3:Bool)(v4:List aE):aT.gAssoc (.mk v0 v1 v2 v3 v4)=v3:=rfl
def aT.gSignatures:aT→List aE
 | .mk _ _ _ _ v=>v
@[simp] theorem aT.gSignatures_mk(v0:ByteArray)(v1:List ByteArray)(v2:Bool)(v3:Bool)(v4:List aE):aT.gSignatures (.mk v0 v1 v2 v3 v4)=v4:=rfl
theorem aT.tr_len(x:aT):x.tr.length=5:=by
 obtain⟨v0,v1,v2,v3,v4⟩:=x
 simp [aT.tr]
theorem aT.sz(l:List aT): ∀e∈aT.trs l,e.length=5:=by
 intro e he
 rw [aT.trs_map] at he
 obtain⟨x,-,rfl⟩:=List.mem_map.1 he
 exact aT.tr_len x
theorem aT.all{l:List aT}{Q:List Tr→Prop}(h: ∀x∈l,Q x.tr): ∀e∈aT.trs l,Q e:=by
 intro e he
 rw [aT.trs_map] at he
 obtain⟨x,hx,rfl⟩:=List.mem_map.1 he
 exact h x hx
theorem aT.trs_get{l:List aT}{k:Nat}(h:k<l.length):(aT.trs l)[k]?=some (l[k]).tr:=by
 rw [aT.trs_map,List.getElem?_map,List.getElem?_eq_getElem h];rfl
inductive aD where
 |mk (name_:ByteArray) (fields_:List aA)
def aD.tr:aD→List Tr
 | .mk v0 v1=> [.leaf (.string v0)]++([.row 3 (aA.trs v1)]++([]))
def aD.trs(l:List aD):List (List Tr):=l.map aD.tr
theorem aD.trs_map(l:List aD):aD.trs l=l.map aD.tr:=rfl
theorem aD.trs_len(l:List aD):(aD.trs l).length=l.length:=by rw [aD.trs_map,List.length_map]
def aD.gName:aD→ByteArray
 | .mk v _=>v
@[simp] theorem aD.gName_mk(v0:ByteArray)(v1:List aA):aD.gName (.mk v0 v1)=v0:=rfl
def aD.gFields:aD→List aA
 | .mk _ v=>v
@[simp] theorem aD.gFields_mk(v0:ByteArray)(v1:List aA):aD.gFields (.mk v0 v1)=v1:=rfl
theorem aD.tr_len(x:aD):x.tr.length=2:=by
 obtain⟨v0,v1⟩:=x
 simp [aD.tr]
theorem aD.sz(l:List aD): ∀e∈aD.trs l,e.length=2:=by
 intro e he
 rw [aD.trs_map] at he
 obtain⟨x,-,rfl⟩:=List.mem_map.1 he
 exact aD.tr_len x
theorem aD.all{l:List aD}{Q:List Tr→Prop}(h: ∀x∈l,Q x.tr): ∀e∈aD.trs l,Q e:=by
 intro e he
 rw [aD.trs_map] at he
 obtain⟨x,hx,rfl⟩:=List.mem_map.1 he
 exact h x hx
theorem aD.trs_get{l:List aD}{k:Nat}(h:k<l.length):(aD.trs l)[k]?=some (l[k]).tr:=by
 rw [aD.trs_map,List.getElem?_map,List.getElem?_eq_getElem h];rfl
inductive aL where
 |mk (name_:ByteArray) (vars_:List ByteArray) (constructors_:List aD)
def aL.tr:aL→List Tr
 | .mk v0 v1 v2=> [.leaf (.string v0)]++([.row 1 (aW v1)]++([.row 2 (aD.trs v2)]++([])))
def aL.trs(l:List aL):List (List Tr):=l.map aL.tr
theorem aL.trs_map(l:List aL):aL.trs l=l.map aL.tr:=rfl
theorem aL.trs_len(l:List aL):(aL.trs l).length=l.length:=by rw [aL.trs_map,List.length_map]
def aL.gName:aL→ByteArray
 | .mk v _ _=>v
@[simp] theorem aL.gName_mk(v0:ByteArray)(v1:List ByteArray)(v2:List aD):aL.gName (.mk v0 v1 v2)=v0:=rfl
def aL.gVars:aL→List ByteArray
 | .mk _ v _=>v
@[simp] theorem aL.gVars_mk(v0:ByteArray)(v1:List ByteArray)(v2:List aD):aL.gVars (.mk v0 v1 v2)=v1:=rfl
def aL.gConstructors:aL→List aD
 | .mk _ _ v=>v
@[simp] theorem aL.gConstructors_mk(v0:ByteArray)(v1:List ByteArray)(v2:List aD):aL.gConstructors (.mk v0 v1 v2)=v2:=rfl
theorem aL.tr_len(x:aL):x.tr.length=3:=by
 obtain⟨v0,v1,v2⟩:=x
 simp [aL.tr]
theorem aL.sz(l:List aL): ∀e∈aL.trs l,e.length=3:=by
 intro e he
 rw [aL.trs_map] at he
 obtain⟨x,-,rfl⟩:=List.mem_map.1 he
 exact aL.tr_len x
theorem aL.all{l:List aL}{Q:List Tr→Prop}(h: ∀x∈l,Q x.tr): ∀e∈aL.trs l,Q e:=by
 intro e he
 rw [aL.trs_map] at he
 obtain⟨x,hx,rfl⟩:=List.mem_map.1 he
 exact h x hx
theorem aL.trs_get{l:List aL}{k:Nat}(h:k<l.length):(aL.trs l)[k]?=some (l[k]).tr:=by
 rw [aL.trs_map,List.getElem?_map,List.getElem?_eq_getElem h];rfl
inductive aJ where
 |mk (trait_:ByteArray) (type_:aA)
def aJ.tr:aJ→List Tr
 | .mk v0 v1=> [.leaf (.string v0)]++(aA.tr v1++([]))
def aJ.trs(l:List aJ):List (List Tr):=l.map aJ.tr
theorem aJ.trs_map(l:List aJ):aJ.trs l=l.map aJ.tr:=rfl
theorem aJ.trs_len(l:List aJ):(aJ.trs l).length=l.length:=by rw [aJ.trs_map,List.length_map]
def aJ.gTrait:aJ→ByteArray
 | .mk v _=>v
@[simp] theorem aJ.gTrait_mk(v0:ByteArray)(v1:aA):aJ.gTrait (.mk v0 v1)=v0:=rfl
def aJ.gType:aJ→aA
 | .mk _ v=>v
@[simp] theorem aJ.gType_mk(v0:ByteArray)(v1:aA):aJ.gType (.mk v0 v1)=v1:=rfl
theorem aJ.tr_len(x:aJ):x.tr.length=4:=by
 obtain⟨v0,v1⟩:=x
 simp [aJ.tr,aA.tr_len]
theorem aJ.sz(l:List aJ): ∀e∈aJ.trs l,e.length=4:=by
 intro e he
 rw [aJ.trs_map] at he
 obtain⟨x,-,rfl⟩:=List.mem_map.1 he
 exact aJ.tr_len x
theorem aJ.all{l:List aJ}{Q:List Tr→Prop}(h: ∀x∈l,Q x.tr): ∀e∈aJ.trs l,Q e:=by
 intro e he
 rw [aJ.trs_map] at he
 obtain⟨x,hx,rfl⟩:=List.mem_map.1 he
 exact h x hx
theorem aJ.trs_get{l:List aJ}{k:Nat}(h:k<l.length):(aJ.trs l)[k]?=some (l[k]).tr:=by
 rw [aJ.trs_map,List.getElem?_map,List.getElem?_eq_getElem h];rfl
inductive aN where
 |mk (name_:ByteArray) (vars_:List ByteArray) (body_:aG)
def aN.tr:aN→List Tr
 | .mk v0 v1 v2=> [.leaf (.string v0)]++([.row 1 (aW v1)]++(aG.tr v2++([])))
def aN.trs(l:List aN):List (List Tr):=l.map aN.tr
theorem aN.trs_map(l:List aN):aN.trs l=l.map aN.tr:=rfl
theorem aN.trs_len(l:List aN):(aN.trs l).length=l.length:=by rw [aN.trs_map,List.length_map]
def aN.gName:aN→ByteArray
 | .mk v _ _=>v
@[simp] theorem aN.gName_mk(v0:ByteArray)(v1:List ByteArray)(v2:aG):aN.gName (.mk v0 v1 v2)=v0:=rfl
def aN.gVars:aN→List ByteArray
 | .mk _ v _=>v
@[simp] theorem aN.gVars_mk(v0:ByteArray)(v1:List ByteArray)(v2:aG):aN.gVars (.mk v0 v1 v2)=v1:=rfl
def aN.gBody:aN→aG
 | .mk _ _ v=>v
@[simp] theorem aN.gBody_mk(v0:ByteArray)(v1:List ByteArray)(v2:aG):aN.gBody (.mk v0 v1 v2)=v2:=rfl
theorem aN.tr_len(x:aN):x.tr.length=11:=by
 obtain⟨v0,v1,v2⟩:=x
 simp [aN.tr,aG.tr_len]
theorem aN.sz(l:List aN): ∀e∈aN.trs l,e.length=11:=by
 intro e he
 rw [aN.trs_map] at he
 obtain⟨x,-,rfl⟩:=List.mem_map.1 he
 exact aN.tr_len x
theorem aN.all{l:List aN}{Q:List Tr→Prop}(h: ∀x∈l,Q x.tr): ∀e∈aN.trs l,Q e:=by
 intro e he
 rw [aN.trs_map] at he
 obtain⟨x,hx,rfl⟩:=List.mem_map.1 he
 exact h x hx
theorem aN.trs_get{l:List aN}{k:Nat}(h:k<l.length):(aN.trs l)[k]?=some (l[k]).tr:=by
 rw [aN.trs_map,List.getElem?_map,List.getElem?_eq_getElem h];rfl
inductive aH where
 |mk (trait_:ByteArray) (vars_:List ByteArray) (head_:aA) (where_:List aJ) (default_:Bool) (hasassoc_:Bool) (assoc_:aA) (methods_:List aN)
def aH.tr:aH→List Tr
 | .mk v0 v1 v2 v3 v4 v5 v6 v7=> [.leaf (.string v0)]++([.row 1 (aW v1)]++(aA.tr v2++([.row 4 (aJ.trs v3)]++([.leaf (.bool v4)]++([.leaf (.bool v5)]++(aA.tr v6++([.row 11 (aN.trs v7)]++([]))))))))
def aH.trs(l:List aH):List (List Tr):=l.map aH.tr
theorem aH.trs_map(l:List aH):aH.trs l=l.map aH.tr:=rfl
theorem aH.trs_len(l:List aH):(aH.trs l).length=l.length:=by rw [aH.trs_map,List.length_map]
def aH.gTrait:aH→ByteArray
 | .mk v _ _ _ _ _ _ _=>v
@[simp] theorem aH.gTrait_mk(v0:ByteArray)(v1:List ByteArray)(v2:aA)(v3:List aJ)(v4:Bool)(v5:Bool)(v6:aA)(v7:List aN):aH.gTrait (.mk v0 v1 v2 v3 v4 v5 v6 v7)=v0:=rfl
def aH.gVars:aH→List ByteArray
 | .mk _ v _ _ _ _ _ _=>v
@[simp] theorem aH.gVars_mk(v0:ByteArray)(v1:List ByteArray)(v2:aA)(v3:List aJ)(v4:Bool)(v5:Bool)(v6:aA)(v7:List aN):aH.gVars (.mk v0 v1 v2 v3 v4 v5 v6 v7)=v1:=rfl
def aH.gHead:aH→aA
 | .mk _ _ v _ _ _ _ _=>v
@[simp] theorem aH.gHead_mk(v0:ByteArray)(v1:List ByteArray)(v2:aA)(v3:List aJ)(v4:Bool)(v5:Bool)(v6:aA)(v7:List aN):aH.gHead (.mk v0 v1 v2 v3 v4 v5 v6 v7)=v2:=rfl
def aH.gWhere:aH→List aJ
 | .mk _ _ _ v _ _ _ _=>v
@[simp] theorem aH.gWhere_mk(v0:ByteArray)(v1:List ByteArray)(v2:aA)(v3:List aJ)(v4:Bool)(v5:Bool)(v6:aA)(v7:List aN):aH.gWhere (.mk v0 v1 v2 v3 v4 v5 v6 v7)=v3:=rfl
def aH.gDefault:aH→Bool
 | .mk _ _ _ _ v _ _ _=>v
@[simp] theorem aH.gDefault_mk(v0:ByteArray)(v1:List ByteArray)(v2:aA)(v3:List aJ)(v4:Bool)(v5:Bool)(v6:aA)(v7:List aN):aH.gDefault (.mk v0 v1 v2 v3 v4 v5 v6 v7)=v4:=rfl
def aH.gHasAssoc:aH→Bool
 | .mk _ _ _ _ _ v _ _=>v
@[simp] theorem aH.gHasAssoc_mk(v0:ByteArray)(v1:List ByteArray)(v2:aA)(v3:List aJ)(v4:Bool)(v5:Bool)(v6:aA)(v7:List aN):aH.gHasAssoc (.mk v0 v1 v2 v3 v4 v5 v6 v7)=v5:=rfl
def aH.gAssoc:aH→aA
 | .mk _ _ _ _ _ _ v _=>v
@[simp] theorem aH.gAssoc_mk(v0:ByteArray)(v1:List ByteArray)(v2:aA)(v3:List aJ)(v4:Bool)(v5:Bool)(v6:aA)(v7:List aN):aH.gAssoc (.mk v0 v1 v2 v3 v4 v5 v6 v7)=v6:=rfl
def aH.gMethods:aH→List aN
 | .mk _ _ _ _ _ _ _ v=>v
@[simp] theorem aH.gMethods_mk(v0:ByteArray)(v1:List ByteArray)(v2:aA)(v3:List aJ)(v4:Bool)(v5:Bool)(v6:aA)(v7:List aN):aH.gMethods (.mk v0 v1 v2 v3 v4 v5 v6 v7)=v7:=rfl
theorem aH.tr_len(x:aH):x.tr.length=12:=by
 obtain⟨v0,v1,v2,v3,v4,v5,v6,v7⟩:=x
 simp [aH.tr,aA.tr_len,aA.tr_len]
theorem aH.sz(l:List aH): ∀e∈aH.trs l,e.length=12:=by
 intro e he
 rw [aH.trs_map] at he
 obtain⟨x,-,rfl⟩:=List.mem_map.1 he
 exact aH.tr_len x
theorem aH.all{l:List aH}{Q:List Tr→Prop}(h: ∀x∈l,Q x.tr): ∀e∈aH.trs l,Q e:=by
 intro e he
 rw [aH.trs_map] at he
 obtain⟨x,hx,rfl⟩:=List.mem_map.1 he
 exact h x hx
theorem aH.trs_get{l:List aH}{k:Nat}(h:k<l.length):(aH.trs l)[k]?=some (l[k]).tr:=by
 rw [aH.trs_map,List.getElem?_map,List.getElem?_eq_getElem h];rfl
inductive aR where
 |mk (name_:ByteArray) (type_:aA)
def aR.tr:aR→List Tr
 | .mk v0 v1=> [.leaf (.string v0)]++(aA.tr v1++([]))
def aR.trs(l:List aR):List (List Tr):=l.map aR.tr
theorem aR.trs_map(l:List aR):aR.trs l=l.map aR.tr:=rfl
theorem aR.trs_len(l:List aR):(aR.trs l).length=l.length:=by rw [aR.trs_map,List.length_map]
def aR.gName:aR→ByteArray
 | .mk v _=>v
@[simp] theorem aR.gName_mk(v0:ByteArray)(v1:aA):aR.gName (.mk v0 v1)=v0:=rfl
def aR.gType:aR→aA
 | .mk _ v=>v
@[simp] theorem aR.gType_mk(v0:ByteArray)(v1:aA):aR.gType (.mk v0 v1)=v1:=rfl
theorem aR.tr_len(x:aR):x.tr.length=4:=by
 obtain⟨v0,v1⟩:=x
 simp [aR.tr,aA.tr_len]
theorem aR.sz(l:List aR): ∀e∈aR.trs l,e.length=4:=by
 intro e he
 rw [aR.trs_map] at he
 obtain⟨x,-,rfl⟩:=List.mem_map.1 he
 exact aR.tr_len x
theorem aR.all{l:List aR}{Q:List Tr→Prop}(h: ∀x∈l,Q x.tr): ∀e∈aR.trs l,Q e:=by
 intro e he
 rw [aR.trs_map] at he
 obtain⟨x,hx,rfl⟩:=List.mem_map.1 he
 exact h x hx
theorem aR.trs_get{l:List aR}{k:Nat}(h:k<l.length):(aR.trs l)[k]?=some (l[k]).tr:=by
 rw [aR.trs_map,List.getElem?_map,List.getElem?_eq_getElem h];rfl
inductive aI where
 |mk (name_:ByteArray) (vars_:List ByteArray) (where_:List aJ) (params_:List aR) (result_:aA) (body_:aG)
def aI.tr:aI→List Tr
 | .mk v0 v1 v2 v3 v4 v5=> [.leaf (.string v0)]++([.row 1 (aW v1)]++([.row 4 (aJ.trs v2)]++([.row 4 (aR.trs v3)]++(aA.tr v4++(aG.tr v5++([]))))))
def aI.trs(l:List aI):List (List Tr):=l.map aI.tr
theorem aI.trs_map(l:List aI):aI.trs l=l.map aI.tr:=rfl
theorem aI.trs_len(l:List aI):(aI.trs l).length=l.length:=by rw [aI.trs_map,List.length_map]
def aI.gName:aI→ByteArray
 | .mk v _ _ _ _ _=>v
@[simp] theorem aI.gName_mk(v0:ByteArray)(v1:List ByteArray)(v2:List aJ)(v3:List aR)(v4:aA)(v5:aG):aI.gName (.mk v0 v1 v2 v3 v4 v5)=v0:=rfl
def aI.gVars:aI→List ByteArray
 | .mk _ v _ _ _ _=>v
@[simp] theorem aI.gVars_mk(v0:ByteArray)(v1:List ByteArray)(v2:List aJ)(v3:List aR)(v4:aA)(v5:aG):aI.gVars (.mk v0 v1 v2 v3 v4 v5)=v1:=rfl
def aI.gWhere:aI→List aJ
 | .mk _ _ v _ _ _=>v
@[simp] theorem aI.gWhere_mk(v0:ByteArray)(v1:List ByteArray)(v2:List aJ)(v3:List aR)(v4:aA)(v5:aG):aI.gWhere (.mk v0 v1 v2 v3 v4 v5)=v2:=rfl
def aI.gParams:aI→List aR
 | .mk _ _ _ v _ _=>v
@[simp] theorem aI.gParams_mk(v0:ByteArray)(v1:List ByteArray)(v2:List aJ)(v3:List aR)(v4:aA)(v5:aG):aI.gParams (.mk v0 v1 v2 v3 v4 v5)=v3:=rfl
def aI.gResult:aI→aA
 | .mk _ _ _ _ v _=>v
@[simp] theorem aI.gResult_mk(v0:ByteArray)(v1:List ByteArray)(v2:List aJ)(v3:List aR)(v4:aA)(v5:aG):aI.gResult (.mk v0 v1 v2 v3 v4 v5)=v4:=rfl
def aI.gBody:aI→aG
 | .mk _ _ _ _ _ v=>v
@[simp] theorem aI.gBody_mk(v0:ByteArray)(v1:List ByteArray)(v2:List aJ)(v3:List aR)(v4:aA)(v5:aG):aI.gBody (.mk v0 v1 v2 v3 v4 v5)=v5:=rfl
theorem aI.tr_len(x:aI):x.tr.length=16:=by
 obtain⟨v0,v1,v2,v3,v4,v5⟩:=x
 simp [aI.tr,aA.tr_len,aG.tr_len]
theorem aI.sz(l:List aI): ∀e∈aI.trs l,e.length=16:=by
 intro e he
 rw [aI.trs_map] at he
 obtain⟨x,-,rfl⟩:=List.mem_map.1 he
 exact aI.tr_len x
theorem aI.all{l:List aI}{Q:List Tr→Prop}(h: ∀x∈l,Q x.tr): ∀e∈aI.trs l,Q e:=by
 intro e he
 rw [aI.trs_map] at he
 obtain⟨x,hx,rfl⟩:=List.mem_map.1 he
 exact h x hx
theorem aI.trs_get{l:List aI}{k:Nat}(h:k<l.length):(aI.trs l)[k]?=some (l[k]).tr:=by
 rw [aI.trs_map,List.getElem?_map,List.getElem?_eq_getElem h];rfl
inductive aK where
 |mk (name_:ByteArray) (deps_:List ByteArray) (traits_:List aT) (datatypes_:List aL) (instances_:List aH) (functions_:List aI)
def aK.tr:aK→List Tr
 | .mk v0 v1 v2 v3 v4 v5=> [.leaf (.string v0)]++([.row 1 (aW v1)]++([.row 5 (aT.trs v2)]++([.row 3 (aL.trs v3)]++([.row 12 (aH.trs v4)]++([.row 16 (aI.trs v5)]++([]))))))
def aK.trs(l:List aK):List (List Tr):=l.map aK.tr
theorem aK.trs_map(l:List aK):aK.trs l=l.map aK.tr:=rfl
theorem aK.trs_len(l:List aK):(aK.trs l).length=l.length:=by rw [aK.trs_map,List.length_map]
def aK.gName:aK→ByteArray
 | .mk v _ _ _ _ _=>v
@[simp] theorem aK.gName_mk(v0:ByteArray)(v1:List ByteArray)(v2:List aT)(v3:List aL)(v4:List aH)(v5:List aI):aK.gName (.mk v0 v1 v2 v3 v4 v5)=v0:=rfl
def aK.gDeps:aK→List ByteArray
 | .mk _ v _ _ _ _=>v
@[simp] theorem aK.gDeps_mk(v0:ByteArray)(v1:List ByteArray)(v2:List aT)(v3:List aL)(v4:List aH)(v5:List aI):aK.gDeps (.mk v0 v1 v2 v3 v4 v5)=v1:=rfl
def aK.gTraits:aK→List aT
 | .mk _ _ v _ _ _=>v
@[simp] theorem aK.gTraits_mk(v0:ByteArray)(v1:List ByteArray)(v2:List aT)(v3:List aL)(v4:List aH)(v5:List aI):aK.gTraits (.mk v0 v1 v2 v3 v4 v5)=v2:=rfl
def aK.gDataTypes:aK→List aL
 | .mk _ _ _ v _ _=>v
@[simp] theorem aK.gDataTypes_mk(v0:ByteArray)(v1:List ByteArray)(v2:List aT)(v3:List aL)(v4:List aH)(v5:List aI):aK.gDataTypes (.mk v0 v1 v2 v3 v4 v5)=v3:=rfl
def aK.gInstances:aK→List aH
 | .mk _ _ _ _ v _=>v
@[simp] theorem aK.gInstances_mk(v0:ByteArray)(v1:List ByteArray)(v2:List aT)(v3:List aL)(v4:List aH)(v5:List aI):aK.gInstances (.mk v0 v1 v2 v3 v4 v5)=v4:=rfl
def aK.gFunctions:aK→List aI
 | .mk _ _ _ _ _ v=>v
@[simp] theorem aK.gFunctions_mk(v0:ByteArray)(v1:List ByteArray)(v2:List aT)(v3:List aL)(v4:List aH)(v5:List aI):aK.gFunctions (.mk v0 v1 v2 v3 v4 v5)=v5:=rfl
theorem aK.tr_len(x:aK):x.tr.length=6:=by
 obtain⟨v0,v1,v2,v3,v4,v5⟩:=x
 simp [aK.tr]
theorem aK.sz(l:List aK): ∀e∈aK.trs l,e.length=6:=by
 intro e he
 rw [aK.trs_map] at he
 obtain⟨x,-,rfl⟩:=List.mem_map.1 he
 exact aK.tr_len x
theorem aK.all{l:List aK}{Q:List Tr→Prop}(h: ∀x∈l,Q x.tr): ∀e∈aK.trs l,Q e:=by
 intro e he
 rw [aK.trs_map] at he
 obtain⟨x,hx,rfl⟩:=List.mem_map.1 he
 exact h x hx
theorem aK.trs_get{l:List aK}{k:Nat}(h:k<l.length):(aK.trs l)[k]?=some (l[k]).tr:=by
 rw [aK.trs_map,List.getElem?_map,List.getElem?_eq_getElem h];rfl
inductive aO where
 |mk (packages_:List aK)
def aO.tr:aO→List Tr
 | .mk v0=> [.row 6 (aK.trs v0)]++([])
def aO.trs(l:List aO):List (List Tr):=l.map aO.tr
theorem aO.trs_map(l:List aO):aO.trs l=l.map aO.tr:=rfl
theorem aO.trs_len(l:List aO):(aO.trs l).length=l.length:=by rw [aO.trs_map,List.length_map]
def aO.gPackages:aO→List aK
 | .mk v=>v
@[simp] theorem aO.gPackages_mk(v0:List aK):aO.gPackages (.mk v0)=v0:=rfl
theorem aO.tr_len(x:aO):x.tr.length=1:=by
 obtain⟨v0⟩:=x
 simp [aO.tr]
theorem aO.sz(l:List aO): ∀e∈aO.trs l,e.length=1:=by
 intro e he
 rw [aO.trs_map] at he
 obtain⟨x,-,rfl⟩:=List.mem_map.1 he
 exact aO.tr_len x
theorem aO.all{l:List aO}{Q:List Tr→Prop}(h: ∀x∈l,Q x.tr): ∀e∈aO.trs l,Q e:=by
 intro e he
 rw [aO.trs_map] at he
 obtain⟨x,hx,rfl⟩:=List.mem_map.1 he
 exact h x hx
theorem aO.trs_get{l:List aO}{k:Nat}(h:k<l.length):(aO.trs l)[k]?=some (l[k]).tr:=by
 rw [aO.trs_map,List.getElem?_map,List.getElem?_eq_getElem h];rfl
inductive bK where
 |mk (kind_:Int) (n_:Int) (at_:aC) (args_:List bK)
mutual
def bK.tr:bK→List Tr
 | .mk v0 v1 v2 v3=> [.leaf (.int .i64 v0)]++([.leaf (.int .i64 v1)]++(aC.tr v2++([.row 5 (bK.trs v3)]++([]))))
def bK.trs:List bK→List (List Tr)
 | []=> []
 |e::r=>bK.tr e::bK.trs r
end
theorem bK.trs_map(l:List bK):bK.trs l=l.map bK.tr:=by induction l<;>simp_all [bK.trs]
def bK.gKind:bK→Int
 | .mk v _ _ _=>v
@[simp] theorem bK.gKind_mk(v0:Int)(v1:Int)(v2:aC)(v3:List bK):bK.gKind (.mk v0 v1 v2 v3)=v0:=rfl
def bK.gN:bK→Int
 | .mk _ v _ _=>v
@[simp] theorem bK.gN_mk(v0:Int)(v1:Int)(v2:aC)(v3:List bK):bK.gN (.mk v0 v1 v2 v3)=v1:=rfl
def bK.gAt:bK→aC
 | .mk _ _ v _=>v
@[simp] theorem bK.gAt_mk(v0:Int)(v1:Int)(v2:aC)(v3:List bK):bK.gAt (.mk v0 v1 v2 v3)=v2:=rfl
def bK.gArgs:bK→List bK
 | .mk _ _ _ v=>v
@[simp] theorem bK.gArgs_mk(v0:Int)(v1:Int)(v2:aC)(v3:List bK):bK.gArgs (.mk v0 v1 v2 v3)=v3:=rfl
theorem bK.tr_len(x:bK):x.tr.length=5:=by
 obtain⟨v0,v1,v2,v3⟩:=x
 simp [bK.tr,aC.tr_len]
theorem bK.sz(l:List bK): ∀e∈bK.trs l,e.length=5:=by
 intro e he
 rw [bK.trs_map] at he
 obtain⟨x,-,rfl⟩:=List.mem_map.1 he
 exact bK.tr_len x
theorem bK.all{l:List bK}{Q:List Tr→Prop}(h: ∀x∈l,Q x.tr): ∀e∈bK.trs l,Q e:=by
 intro e he
 rw [bK.trs_map] at he
 obtain⟨x,hx,rfl⟩:=List.mem_map.1 he
 exact h x hx
inductive a7 where
 |mk (goal_:aJ) (from_:Int) (steps_:List Int)
def a7.tr:a7→List Tr
 | .mk v0 v1 v2=>aJ.tr v0++([.leaf (.int .i64 v1)]++([.row 1 (nX v2)]++([])))
def a7.trs(l:List a7):List (List Tr):=l.map a7.tr
theorem a7.trs_map(l:List a7):a7.trs l=l.map a7.tr:=rfl
theorem a7.trs_len(l:List a7):(a7.trs l).length=l.length:=by rw [a7.trs_map,List.length_map]
def a7.gGoal:a7→aJ
 | .mk v _ _=>v
@[simp] theorem a7.gGoal_mk(v0:aJ)(v1:Int)(v2:List Int):a7.gGoal (.mk v0 v1 v2)=v0:=rfl
def a7.gFrom:a7→Int
 | .mk _ v _=>v
@[simp] theorem a7.gFrom_mk(v0:aJ)(v1:Int)(v2:List Int):a7.gFrom (.mk v0 v1 v2)=v1:=rfl
def a7.gSteps:a7→List Int
 | .mk _ _ v=>v
@[simp] theorem a7.gSteps_mk(v0:aJ)(v1:Int)(v2:List Int):a7.gSteps (.mk v0 v1 v2)=v2:=rfl
theorem a7.tr_len(x:a7):x.tr.length=6:=by
 obtain⟨v0,v1,v2⟩:=x
 simp [a7.tr,aJ.tr_len]
theorem a7.sz(l:List a7): ∀e∈a7.trs l,e.length=6:=by
 intro e he
 rw [a7.trs_map] at he
 obtain⟨x,-,rfl⟩:=List.mem_map.1 he
 exact a7.tr_len x
theorem a7.all{l:List a7}{Q:List Tr→Prop}(h: ∀x∈l,Q x.tr): ∀e∈a7.trs l,Q e:=by
 intro e he
 rw [a7.trs_map] at he
 obtain⟨x,hx,rfl⟩:=List.mem_map.1 he
 exact h x hx
theorem a7.trs_get{l:List a7}{k:Nat}(h:k<l.length):(a7.trs l)[k]?=some (l[k]).tr:=by
 rw [a7.trs_map,List.getElem?_map,List.getElem?_eq_getElem h];rfl
inductive cC where
 |mk (s_:ByteArray) (at_:Int) (deep_:Int) (size_:Int) (bad_:Bool)
def cC.tr:cC→List Tr
 | .mk v0 v1 v2 v3 v4=> [.leaf (.string v0)]++([.leaf (.int .i64 v1)]++([.leaf (.int .i64 v2)]++([.leaf (.int .i64 v3)]++([.leaf (.bool v4)]++([])))))
def cC.trs(l:List cC):List (List Tr):=l.map cC.tr
theorem cC.trs_map(l:List cC):cC.trs l=l.map cC.tr:=rfl
def cC.gs:cC→ByteArray
 | .mk v _ _ _ _=>v
@[simp] theorem cC.gs_mk(v0:ByteArray)(v1:Int)(v2:Int)(v3:Int)(v4:Bool):cC.gs (.mk v0 v1 v2 v3 v4)=v0:=rfl
def cC.gat:cC→Int
 | .mk _ v _ _ _=>v
@[simp] theorem cC.gat_mk(v0:ByteArray)(v1:Int)(v2:Int)(v3:Int)(v4:Bool):cC.gat (.mk v0 v1 v2 v3 v4)=v1:=rfl
def cC.gdeep:cC→Int
 | .mk _ _ v _ _=>v
@[simp] theorem cC.gdeep_mk(v0:ByteArray)(v1:Int)(v2:Int)(v3:Int)(v4:Bool):cC.gdeep (.mk v0 v1 v2 v3 v4)=v2:=rfl
def cC.gsize:cC→Int
 | .mk _ _ _ v _=>v
@[simp] theorem cC.gsize_mk(v0:ByteArray)(v1:Int)(v2:Int)(v3:Int)(v4:Bool):cC.gsize (.mk v0 v1 v2 v3 v4)=v3:=rfl
def cC.gbad:cC→Bool
 | .mk _ _ _ _ v=>v
@[simp] theorem cC.gbad_mk(v0:ByteArray)(v1:Int)(v2:Int)(v3:Int)(v4:Bool):cC.gbad (.mk v0 v1 v2 v3 v4)=v4:=rfl
theorem cC.tr_len(x:cC):x.tr.length=5:=by
 obtain⟨v0,v1,v2,v3,v4⟩:=x
 simp [cC.tr]
theorem cC.sz(l:List cC): ∀e∈cC.trs l,e.length=5:=by
 intro e he
 rw [cC.trs_map] at he
 obtain⟨x,-,rfl⟩:=List.mem_map.1 he
 exact cC.tr_len x
theorem cC.all{l:List cC}{Q:List Tr→Prop}(h: ∀x∈l,Q x.tr): ∀e∈cC.trs l,Q e:=by
 intro e he
 rw [cC.trs_map] at he
 obtain⟨x,hx,rfl⟩:=List.mem_map.1 he
 exact h x hx
inductive eZ where
 |mk (goals_:List aJ) (codes_:List Int) (evidence_:List bK)
def eZ.tr:eZ→List Tr
 | .mk v0 v1 v2=> [.row 4 (aJ.trs v0)]++([.row 1 (nX v1)]++([.row 5 (bK.trs v2)]++([])))
def eZ.trs(l:List eZ):List (List Tr):=l.map eZ.tr
theorem eZ.trs_map(l:List eZ):eZ.trs l=l.map eZ.tr:=rfl
def eZ.gGoals:eZ→List aJ
 | .mk v _ _=>v
@[simp] theorem eZ.gGoals_mk(v0:List aJ)(v1:List Int)(v2:List bK):eZ.gGoals (.mk v0 v1 v2)=v0:=rfl
def eZ.gCodes:eZ→List Int
 | .mk _ v _=>v
@[simp] theorem eZ.gCodes_mk(v0:List aJ)(v1:List Int)(v2:List bK):eZ.gCodes (.mk v0 v1 v2)=v1:=rfl
def eZ.gEvidence:eZ→List bK
 | .mk _ _ v=>v
@[simp] theorem eZ.gEvidence_mk(v0:List aJ)(v1:List Int)(v2:List bK):eZ.gEvidence (.mk v0 v1 v2)=v2:=rfl
theorem eZ.tr_len(x:eZ):x.tr.length=3:=by
 obtain⟨v0,v1,v2⟩:=x
 simp [eZ.tr]
theorem eZ.sz(l:List eZ): ∀e∈eZ.trs l,e.length=3:=by
 intro e he
 rw [eZ.trs_map] at he
 obtain⟨x,-,rfl⟩:=List.mem_map.1 he
 exact eZ.tr_len x
theorem eZ.all{l:List eZ}{Q:List Tr→Prop}(h: ∀x∈l,Q x.tr): ∀e∈eZ.trs l,Q e:=by
 intro e he
 rw [eZ.trs_map] at he
 obtain⟨x,hx,rfl⟩:=List.mem_map.1 he
 exact h x hx
end Go.Proofs.YtpioomclpaiomaaGreat

namespace Go.Proofs.YtpioomclpaiomaaGreat
open Go.RowKit
theorem rQ.refl: ∀ps:List PV,rQ ps ps
 | []=> .nil
 |p::ps=> .cons (.refl p) (rQ.refl ps)
theorem RN{l:List ByteArray}{k:Nat}(h:k<l.length):(aW l)[k]?=some [.leaf (.string l[k])]:=PF h
theorem ac3{l:List Int}{k:Nat}(h:k<l.length):(nX l)[k]?=some [.leaf (.int .i64 l[k])]:=NL h
def aC.cs(x:aC):List Tr:= [.leaf (.int .i64 x.gPackage),.leaf (.int .i64 x.gAt)]
def aC.pv(x:aC):PV:= .agg [.t (.leaf (.int .i64 x.gPackage)),.t (.leaf (.int .i64 x.gAt))]
theorem aC.tr_cs(x:aC):x.tr=x.cs:=by
 obtain⟨v0,v1⟩:=x
 simp [aC.tr,aC.cs]
theorem aC.trs_cs{l:List aC}{k:Nat}(h:k<l.length):(aC.trs l)[k]?=some (l[k]).cs:=by rw [← aC.tr_cs];exact aC.trs_get h
def aB.cs(x:aB):List Tr:= [.leaf (.string x.gAtom),.row 2 (aB.trs (x.gList))]
def aB.pv(x:aB):PV:= .agg [.t (.leaf (.string x.gAtom)),.t (.row 2 (aB.trs (x.gList)))]
theorem aB.tr_cs(x:aB):x.tr=x.cs:=by
 obtain⟨v0,v1⟩:=x
 simp [aB.tr,aB.cs]
theorem aB.trs_cs{l:List aB}{k:Nat}(h:k<l.length):(aB.trs l)[k]?=some (l[k]).cs:=by rw [← aB.tr_cs];exact aB.trs_get h
def aA.cs(x:aA):List Tr:= [.leaf (.int .i64 x.gKind),.leaf (.string x.gName),.row 3 (aA.trs (x.gArgs))]
def aA.pv(x:aA):PV:= .agg [.t (.leaf (.int .i64 x.gKind)),.t (.leaf (.string x.gName)),.t (.row 3 (aA.trs (x.gArgs)))]
theorem aA.tr_cs(x:aA):x.tr=x.cs:=by
 obtain⟨v0,v1,v2⟩:=x
 simp [aA.tr,aA.cs]
theorem aA.trs_cs{l:List aA}{k:Nat}(h:k<l.length):(aA.trs l)[k]?=some (l[k]).cs:=by rw [← aA.tr_cs];exact aA.trs_get h
def aM.cs(x:aM):List Tr:= [.leaf (.string x.gVar),.leaf (.int .i64 x.gType.gKind),.leaf (.string x.gType.gName),.row 3 (aA.trs (x.gType.gArgs))]
def aM.pv(x:aM):PV:= .agg [.t (.leaf (.string x.gVar)),.t (.leaf (.int .i64 x.gType.gKind)),.t (.leaf (.string x.gType.gName)),.t (.row 3 (aA.trs (x.gType.gArgs)))]
theorem aM.tr_cs(x:aM):x.tr=x.cs:=by
 obtain⟨v0,v1⟩:=x
 simp [aM.tr,aM.cs,aA.tr_cs,aA.cs]
theorem aM.trs_cs{l:List aM}{k:Nat}(h:k<l.length):(aM.trs l)[k]?=some (l[k]).cs:=by rw [← aM.tr_cs];exact aM.trs_get h
def aG.cs(x:aG):List Tr:= [.leaf (.int .i64 x.gKind),.leaf (.string x.gTrait),.leaf (.string x.gName),.leaf (.int .i64 x.gN),.leaf (.int .i64 x.gType.gKind),.leaf (.string x.gType.gName),.row 3 (aA.trs (x.gType.gArgs)),.row 9 (aG.trs (x.gArgs)),.row 11 (bJ.trs (x.gArms))]
def aG.pv(x:aG):PV:= .agg [.t (.leaf (.int .i64 x.gKind)),.t (.leaf (.string x.gTrait)),.t (.leaf (.string x.gName)),.t (.leaf (.int .i64 x.gN)),.t (.leaf (.int .i64 x.gType.gKind)),.t (.leaf (.string x.gType.gName)),.t (.row 3 (aA.trs (x.gType.gArgs))),.t (.row 9 (aG.trs (x.gArgs))),.t (.row 11 (bJ.trs (x.gArms)))]
theorem aG.tr_cs(x:aG):x.tr=x.cs:=by
 obtain⟨v0,v1,v2,v3,v4,v5,v6⟩:=x
 simp [aG.tr,aG.cs,aA.tr_cs,aA.cs]
theorem aG.trs_cs{l:List aG}{k:Nat}(h:k<l.length):(aG.trs l)[k]?=some (l[k]).cs:=by rw [← aG.tr_cs];exact aG.trs_get h
def bJ.cs(x:bJ):List Tr:= [.leaf (.string x.gConstructor),.row 1 (aW (x.gVars)),.leaf (.int .i64 x.gBody.gKind),.leaf (.string x.gBody.gTrait),.leaf (.string x.gBody.gName),.leaf (.int .i64 x.gBody.gN),.leaf (.int .i64 x.gBody.gType.gKind),.leaf (.string x.gBody.gType.gName),.row 3 (aA.trs (x.gBody.gType.gArgs)),.row 9 (aG.trs (x.gBody.gArgs)),.row 11 (bJ.trs (x.gBody.gArms))]
def bJ.pv(x:bJ):PV:= .agg [.t (.leaf (.string x.gConstructor)),.t (.row 1 (aW (x.gVars))),.t (.leaf (.int .i64 x.gBody.gKind)),.t (.leaf (.string x.gBody.gTrait)),.t (.leaf (.string x.gBody.gName)),.t (.leaf (.int .i64 x.gBody.gN)),.t (.leaf (.int .i64 x.gBody.gType.gKind)),.t (.leaf (.string x.gBody.gType.gName)),.t (.row 3 (aA.trs (x.gBody.gType.gArgs))),.t (.row 9 (aG.trs (x.gBody.gArgs))),.t (.row 11 (bJ.trs (x.gBody.gArms)))]
theorem bJ.tr_cs(x:bJ):x.tr=x.cs:=by
 obtain⟨v0,v1,v2⟩:=x
 simp [bJ.tr,bJ.cs,aG.tr_cs,aG.cs]
theorem bJ.trs_cs{l:List bJ}{k:Nat}(h:k<l.length):(bJ.trs l)[k]?=some (l[k]).cs:=by rw [← bJ.tr_cs];exact bJ.trs_get h
def aE.cs(x:aE):List Tr:= [.leaf (.string x.gName),.row 3 (aA.trs (x.gParams)),.leaf (.int .i64 x.gResult.gKind),.leaf (.string x.gResult.gName),.row 3 (aA.trs (x.gResult.gArgs)),.leaf (.bool x.gHasDefault),.row 1 (aW (x.gVars)),.leaf (.int .i64 x.gBody.gKind),.leaf (.string x.gBody.gTrait),.leaf (.string x.gBody.gName),.leaf (.int .i64 x.gBody.gN),.leaf (.int .i64 x.gBody.gType.gKind),.leaf (.string x.gBody.gType.gName),.row 3 (aA.trs (x.gBody.gType.gArgs)),.row 9 (aG.trs (x.gBody.gArgs)),.row 11 (bJ.trs (x.gBody.gArms))]
def aE.pv(x:aE):PV:= .agg [.t (.leaf (.string x.gName)),.t (.row 3 (aA.trs (x.gParams))),.t (.leaf (.int .i64 x.gResult.gKind)),.t (.leaf (.string x.gResult.gName)),.t (.row 3 (aA.trs (x.gResult.gArgs))),.t (.leaf (.bool x.gHasDefault)),.t (.row 1 (aW (x.gVars))),.t (.leaf (.int .i64 x.gBody.gKind)),.t (.leaf (.string x.gBody.gTrait)),.t (.leaf (.string x.gBody.gName)),.t (.leaf (.int .i64 x.gBody.gN)),.t (.leaf (.int .i64 x.gBody.gType.gKind)),.t (.leaf (.string x.gBody.gType.gName)),.t (.row 3 (aA.trs (x.gBody.gType.gArgs))),.t (.row 9 (aG.trs (x.gBody.gArgs))),.t (.row 11 (bJ.trs (x.gBody.gArms)))]
theorem aE.tr_cs(x:aE):x.tr=x.cs:=by
 obtain⟨v0,v1,v2,v3,v4,v5⟩:=x
 simp [aE.tr,aE.cs,aA.tr_cs,aA.cs,aG.tr_cs,aG.cs]
theorem aE.trs_cs{l:List aE}{k:Nat}(h:k<l.length):(aE.trs l)[k]?=some (l[k]).cs:=by rw [← aE.tr_cs];exact aE.trs_get h
def aT.cs(x:aT):List Tr:= [.leaf (.string x.gName),.row 1 (aW (x.gSupertraits)),.leaf (.bool x.gAuto),.leaf (.bool x.gAssoc),.row 16 (aE.trs (x.gSignatures))]
def aT.pv(x:aT):PV:= .agg [.t (.leaf (.string x.gName)),.t (.row 1 (aW (x.gSupertraits))),.t (.leaf (.bool x.gAuto)),.t (.leaf (.bool x.gAssoc)),.t (.row 16 (aE.trs (x.gSignatures)))]
theorem aT.tr_cs(x:aT):x.tr=x.cs:=by
 obtain⟨v0,v1,v2,v3,v4⟩:=x
 simp [aT.tr,aT.cs]
theorem aT.trs_cs{l:List aT}{k:Nat}(h:k<l.length):(aT.trs l)[k]?=some (l[k]).cs:=by rw [← aT.tr_cs];exact aT.trs_get h
def aD.cs(x:aD):List Tr:= [.leaf (.string x.gName),.row 3 (aA.trs (x.gFields))]
def aD.pv(x:aD):PV:= .agg [.t (.leaf (.string x.gName)),.t (.row 3 (aA.trs (x.gFields)))]
theorem aD.tr_cs(x:aD):x.tr=x.cs:=by
 obtain⟨v0,v1⟩:=x
 simp [aD.tr,aD.cs]
theorem aD.trs_cs{l:List aD}{k:Nat}(h:k<l.length):(aD.trs l)[k]?=some (l[k]).cs:=by rw [← aD.tr_cs];exact aD.trs_get h
def aL.cs(x:aL):List Tr:= [.leaf (.string x.gName),.row 1 (aW (x.gVars)),.row 2 (aD.trs (x.gConstructors))]
def aL.pv(x:aL):PV:= .agg [.t (.leaf (.string x.gName)),.t (.row 1 (aW (x.gVars))),.t (.row 2 (aD.trs (x.gConstructors)))]
theorem aL.tr_cs(x:aL):x.tr=x.cs:=by
 obtain⟨v0,v1,v2⟩:=x
 simp [aL.tr,aL.cs]
theorem aL.trs_cs{l:List aL}{k:Nat}(h:k<l.length):(aL.trs l)[k]?=some (l[k]).cs:=by rw [← aL.tr_cs];exact aL.trs_get h
def aJ.cs(x:aJ):List Tr:= [.leaf (.string x.gTrait),.leaf (.int .i64 x.gType.gKind),.leaf (.string x.gType.gName),.row 3 (aA.trs (x.gType.gArgs))]
def aJ.pv(x:aJ):PV:= .agg [.t (.leaf (.string x.gTrait)),.t (.leaf (.int .i64 x.gType.gKind)),.t (.leaf (.string x.gType.gName)),.t (.row 3 (aA.trs (x.gType.gArgs)))]
theorem aJ.tr_cs(x:aJ):x.tr=x.cs:=by
 obtain⟨v0,v1⟩:=x
 simp [aJ.tr,aJ.cs,aA.tr_cs,aA.cs]
theorem aJ.trs_cs{l:List aJ}{k:Nat}(h:k<l.length):(aJ.trs l)[k]?=some (l[k]).cs:=by rw [← aJ.tr_cs];exact aJ.trs_get h
def aN.cs(x:aN):List Tr:= [.leaf (.string x.gName),.row 1 (aW (x.gVars)),.leaf (.int .i64 x.gBody.gKind),.leaf (.string x.gBody.gTrait),.leaf (.string x.gBody.gName),.leaf (.int .i64 x.gBody.gN),.leaf (.int .i64 x.gBody.gType.gKind),.leaf (.string x.gBody.gType.gName),.row 3 (aA.trs (x.gBody.gType.gArgs)),.row 9 (aG.trs (x.gBody.gArgs)),.row 11 (bJ.trs (x.gBody.gArms))]
def aN.pv(x:aN):PV:= .agg [.t (.leaf (.string x.gName)),.t (.row 1 (aW (x.gVars))),.t (.leaf (.int .i64 x.gBody.gKind)),.t (.leaf (.string x.gBody.gTrait)),.t (.leaf (.string x.gBody.gName)),.t (.leaf (.int .i64 x.gBody.gN)),.t (.leaf (.int .i64 x.gBody.gType.gKind)),.t (.leaf (.string x.gBody.gType.gName)),.t (.row 3 (aA.trs (x.gBody.gType.gArgs))),.t (.row 9 (aG.trs (x.gBody.gArgs))),.t (.row 11 (bJ.trs (x.gBody.gArms)))]
theorem aN.tr_cs(x:aN):x.tr=x.cs:=by
 obtain⟨v0,v1,v2⟩:=x
 simp [aN.tr,aN.cs,aG.tr_cs,aG.cs]
theorem aN.trs_cs{l:List aN}{k:Nat}(h:k<l.length):(aN.trs l)[k]?=some (l[k]).cs:=by rw [← aN.tr_cs];exact aN.trs_get h
def aH.cs(x:aH):List Tr:= [.leaf (.string x.gTrait),.row 1 (aW (x.gVars)),.leaf (.int .i64 x.gHead.gKind),.leaf (.string x.gHead.gName),.row 3 (aA.trs (x.gHead.gArgs)),.row 4 (aJ.trs (x.gWhere)),.leaf (.bool x.gDefault),.leaf (.bool x.gHasAssoc),.leaf (.int .i64 x.gAssoc.gKind),.leaf (.string x.gAssoc.gName),.row 3 (aA.trs (x.gAssoc.gArgs)),.row 11 (aN.trs (x.gMethods))]
def aH.pv(x:aH):PV:= .agg [.t (.leaf (.string x.gTrait)),.t (.row 1 (aW (x.gVars))),.t (.leaf (.int .i64 x.gHead.gKind)),.t (.leaf (.string x.gHead.gName)),.t (.row 3 (aA.trs (x.gHead.gArgs))),.t (.row 4 (aJ.trs (x.gWhere))),.t (.leaf (.bool x.gDefault)),.t (.leaf (.bool x.gHasAssoc)),.t (.leaf (.int .i64 x.gAssoc.gKind)),.t (.leaf (.string x.gAssoc.gName)),.t (.row 3 (aA.trs (x.gAssoc.gArgs))),.t (.row 11 (aN.trs (x.gMethods)))]
theorem aH.tr_cs(x:aH):x.tr=x.cs:=by
 obtain⟨v0,v1,v2,v3,v4,v5,v6,v7⟩:=x
 simp [aH.tr,aH.cs,aA.tr_cs,aA.cs]
theorem aH.trs_cs{l:List aH}{k:Nat}(h:k<l.length):(aH.trs l)[k]?=some (l[k]).cs:=by rw [← aH.tr_cs];exact aH.trs_get h
def aR.cs(x:aR):List Tr:= [.leaf (.string x.gName),.leaf (.int .i64 x.gType.gKind),.leaf (.string x.gType.gName),.row 3 (aA.trs (x.gType.gArgs))]
def aR.pv(x:aR):PV:= .agg [.t (.leaf (.string x.gName)),.t (.leaf (.int .i64 x.gType.gKind)),.t (.leaf (.string x.gType.gName)),.t (.row 3 (aA.trs (x.gType.gArgs)))]
theorem aR.tr_cs(x:aR):x.tr=x.cs:=by
 obtain⟨v0,v1⟩:=x
 simp [aR.tr,aR.cs,aA.tr_cs,aA.cs]
theorem aR.trs_cs{l:List aR}{k:Nat}(h:k<l.length):(aR.trs l)[k]?=some (l[k]).cs:=by rw [← aR.tr_cs];exact aR.trs_get h
def aI.cs(x:aI):List Tr:= [.leaf (.string x.gName),.row 1 (aW (x.gVars)),.row 4 (aJ.trs (x.gWhere)),.row 4 (aR.trs (x.gParams)),.leaf (.int .i64 x.gResult.gKind),.leaf (.string x.gResult.gName),.row 3 (aA.trs (x.gResult.gArgs)),.leaf (.int .i64 x.gBody.gKind),.leaf (.string x.gBody.gTrait),.leaf (.string x.gBody.gName),.leaf (.int .i64 x.gBody.gN),.leaf (.int .i64 x.gBody.gType.gKind),.leaf (.string x.gBody.gType.gName),.row 3 (aA.trs (x.gBody.gType.gArgs)),.row 9 (aG.trs (x.gBody.gArgs)),.row 11 (bJ.trs (x.gBody.gArms))]
def aI.pv(x:aI):PV:= .agg [.t (.leaf (.string x.gName)),.t (.row 1 (aW (x.gVars))),.t (.row 4 (aJ.trs (x.gWhere))),.t (.row 4 (aR.trs (x.gParams))),.t (.leaf (.int .i64 x.gResult.gKind)),.t (.leaf (.string x.gResult.gName)),.t (.row 3 (aA.trs (x.gResult.gArgs))),.t (.leaf (.int .i64 x.gBody.gKind)),.t (.leaf (.string x.gBody.gTrait)),.t (.leaf (.string x.gBody.gName)),.t (.leaf (.int .i64 x.gBody.gN)),.t (.leaf (.int .i64 x.gBody.gType.gKind)),.t (.leaf (.string x.gBody.gType.gName)),.t (.row 3 (aA.trs (x.gBody.gType.gArgs))),.t (.row 9 (aG.trs (x.gBody.gArgs))),.t (.row 11 (bJ.trs (x.gBody.gArms)))]
theorem aI.tr_cs(x:aI):x.tr=x.cs:=by
 obtain⟨v0,v1,v2,v3,v4,v5⟩:=x
 simp [aI.tr,aI.cs,aA.tr_cs,aA.cs,aG.tr_cs,aG.cs]
theorem aI.trs_cs{l:List aI}{k:Nat}(h:k<l.length):(aI.trs l)[k]?=some (l[k]).cs:=by rw [← aI.tr_cs];exact aI.trs_get h
def aK.cs(x:aK):List Tr:= [.leaf (.string x.gName),.row 1 (aW (x.gDeps)),.row 5 (aT.trs (x.gTraits)),.row 3 (aL.trs (x.gDataTypes)),.row 12 (aH.trs (x.gInstances)),.row 16 (aI.trs (x.gFunctions))]
def aK.pv(x:aK):PV:= .agg [.t (.leaf (.string x.gName)),.t (.row 1 (aW (x.gDeps))),.t (.row 5 (aT.trs (x.gTraits))),.t (.row 3 (aL.trs (x.gDataTypes))),.t (.row 12 (aH.trs (x.gInstances))),.t (.row 16 (aI.trs (x.gFunctions)))]
theorem aK.tr_cs(x:aK):x.tr=x.cs:=by
 obtain⟨v0,v1,v2,v3,v4,v5⟩:=x
 simp [aK.tr,aK.cs]
theorem aK.trs_cs{l:List aK}{k:Nat}(h:k<l.length):(aK.trs l)[k]?=some (l[k]).cs:=by rw [← aK.tr_cs];exact aK.trs_get h
def aO.cs(x:aO):List Tr:= [.row 6 (aK.trs (x.gPackages))]
def aO.pv(x:aO):PV:= .agg [.t (.row 6 (aK.trs (x.gPackages)))]
theorem aO.tr_cs(x:aO):x.tr=x.cs:=by
 obtain⟨v0⟩:=x
 simp [aO.tr,aO.cs]
theorem aO.trs_cs{l:List aO}{k:Nat}(h:k<l.length):(aO.trs l)[k]?=some (l[k]).cs:=by rw [← aO.tr_cs];exact aO.trs_get h
def bK.cs(x:bK):List Tr:= [.leaf (.int .i64 x.gKind),.leaf (.int .i64 x.gN),.leaf (.int .i64 x.gAt.gPackage),.leaf (.int .i64 x.gAt.gAt),.row 5 (bK.trs (x.gArgs))]
def bK.pv(x:bK):PV:= .agg [.t (.leaf (.int .i64 x.gKind)),.t (.leaf (.int .i64 x.gN)),.t (.leaf (.int .i64 x.gAt.gPackage)),.t (.leaf (.int .i64 x.gAt.gAt)),.t (.row 5 (bK.trs (x.gArgs)))]
def a7.cs(x:a7):List Tr:= [.leaf (.string x.gGoal.gTrait),.leaf (.int .i64 x.gGoal.gType.gKind),.leaf (.string x.gGoal.gType.gName),.row 3 (aA.trs (x.gGoal.gType.gArgs)),.leaf (.int .i64 x.gFrom),.row 1 (nX (x.gSteps))]
def a7.pv(x:a7):PV:= .agg [.t (.leaf (.string x.gGoal.gTrait)),.t (.leaf (.int .i64 x.gGoal.gType.gKind)),.t (.leaf (.string x.gGoal.gType.gName)),.t (.row 3 (aA.trs (x.gGoal.gType.gArgs))),.t (.leaf (.int .i64 x.gFrom)),.t (.row 1 (nX (x.gSteps)))]
theorem a7.tr_cs(x:a7):x.tr=x.cs:=by
 obtain⟨v0,v1,v2⟩:=x
 simp [a7.tr,a7.cs,aJ.tr_cs,aJ.cs]
theorem a7.trs_cs{l:List a7}{k:Nat}(h:k<l.length):(a7.trs l)[k]?=some (l[k]).cs:=by rw [← a7.tr_cs];exact a7.trs_get h
def cC.cs(x:cC):List Tr:= [.leaf (.string x.gs),.leaf (.int .i64 x.gat),.leaf (.int .i64 x.gdeep),.leaf (.int .i64 x.gsize),.leaf (.bool x.gbad)]
def cC.pv(x:cC):PV:= .agg [.t (.leaf (.string x.gs)),.t (.leaf (.int .i64 x.gat)),.t (.leaf (.int .i64 x.gdeep)),.t (.leaf (.int .i64 x.gsize)),.t (.leaf (.bool x.gbad))]
def eZ.cs(x:eZ):List Tr:= [.row 4 (aJ.trs (x.gGoals)),.row 1 (nX (x.gCodes)),.row 5 (bK.trs (x.gEvidence))]
def eZ.pv(x:eZ):PV:= .agg [.t (.row 4 (aJ.trs (x.gGoals))),.t (.row 1 (nX (x.gCodes))),.t (.row 5 (bK.trs (x.gEvidence)))]
end Go.Proofs.YtpioomclpaiomaaGreat

namespace Go.Proofs.YtpioomclpaiomaaGreat
set_option linter.unusedSimpArgs false
set_option linter.unusedVariables false
open Go.RowKit Go.WalkArith Go.IntWalk Go.WideShapes
section
variable {P:Program} {C:oZ} {n:Nat} {s:AS} {Q:Exit→AS→Prop} {o:Oper} {ops:Array Oper} {rest:List Oper}
theorem AL.splitB(d:Nat){b:Bool}{l:List Oper}(_hb:s.lk d=some (.t (.leaf (.bool b))))(h1:b=true→AL P C n ops l Q s)(h2:b=false→AL P C n ops l Q s):AL P C n ops l Q s:=by
 cases b
 ·exact h2 rfl
 ·exact h1 rfl
theorem AL.cons_gv{s1:AS}{j d:Nat}{b c:Bool}(hg:o.guard=some (j,c))(hj:(ops[j]?).bind (·.dst)=some d)(hb:s.lk d=some (.t (.leaf (.bool b))))(hv:b=c)(ho:aV P C n o s s1)(h:AL P C n ops rest Q s1):AL P C n ops (o::rest) Q s:=by
 subst hv
 exact AL.cons_g hg hj hb ho h
theorem AL.skip_v{j d:Nat}{b c e:Bool}(hg:o.guard=some (j,c))(hj:(ops[j]?).bind (·.dst)=some d)(hb:s.lk d=some (.t (.leaf (.bool b))))(hv:b=e)(hne:(e==c)=false)(h:AL P C n ops rest Q (s.delO o.dst)):AL P C n ops (o::rest) Q s:=by
 subst hv
 exact AL.skip hg hj hb hne h
theorem aV.pickT{x y z:Operand}{b:Bool}{p:PV}(ho:o.op= .pick x y z)(hd:bQ o.dst n=true)(hx:s.ev x=some (.t (.leaf (.bool b))))(hb:b=true)(hy:s.ev y=some p):aV P C n o s (s.putO o.dst p):=
 aV.pick ho hd hx (fun _=>hy) (q:=p) (fun h=>by rw [hb] at h;cases h)
theorem aV.pickF{x y z:Operand}{b:Bool}{p:PV}(ho:o.op= .pick x y z)(hd:bQ o.dst n=true)(hx:s.ev x=some (.t (.leaf (.bool b))))(hb:b=false)(hz:s.ev z=some p):aV P C n o s (s.putO o.dst p):=
 aV.pick ho hd hx (fun h=>by rw [hb] at h;cases h) (q:=p) (fun _=>hz)
theorem aV.lenN{T:TypeId}{x:Operand}{p:PV}{sz N:Nat}{es:List (List Tr)}{E:Nat×Nat×Nat}(ho:o.op= .call { callee:= .builtin .len,args:= #[x],argTypes:= #[T] })(hd:bQ o.dst n=true)(hx:s.ev x=some p)(hp:l4 p=some (sz,es))(hT:elemOf? P T=some E)(hl:es.length=N):
 aV P C n o s (s.putO o.dst (.t (.leaf (.int .i64 (N:Int))))):=by
 subst hl
 exact aV.len (ty:=0) ho hd hx hp hT
theorem MI(i:Nat){p:PV}{sz N:Nat}{es:List (List Tr)}(hx:s.lk i=some p)(hp:l4 p=some (sz,es))(hl:es.length=N): ∀m a w,RA C n s m a w→N≤9223372036854775807:=by
 subst hl
 exact ah7 i hx hp
theorem yN{st':c3}(h:C.st=⟨[],[]⟩):lC C.st st':=by rw [h];exact lC.nil
end
theorem a8{a b:Nat}(h:decide ((a:Int)<(b:Int))=true):a<b:=by
 have:=of_decide_eq_true h
 omega
theorem ac9{a b:Nat}(h:decide ((a:Int)<(b:Int))=false):b≤a:=by
 have:=of_decide_eq_false h
 omega
end Go.Proofs.YtpioomclpaiomaaGreat

namespace Go.Proofs.YtpioomclpaiomaaGreat
set_option linter.unusedSimpArgs false
set_option linter.unusedVariables false
open Go.RowKit Go.WalkArith Go.IntWalk Go.WideShapes
section
variable {P:Program} {C:oZ} {n:Nat} {s:AS} {Q:Exit→AS→Prop} {o:Oper}
theorem aV.quietX{p:PV}(hd:bQ o.dst n=true)(h: ∀m a w,RA C n s m a w→ ∃v w1,(execOp a.eval o).run P w= .ok (.value v) w1∧wC w w1∧RV (jW C.av s.st m) s.st m w1 p v):aV P C n o s (s.putO o.dst p):=
 aV.run hd (s1:=s) (fun m a w hr=>by
  obtain⟨v,w1,h1,h2,h3⟩:=h m a w hr
  exact⟨v,m,w1,h1,Ev.later h2,hr.sto.later h2,h3⟩) rfl
theorem aV.buildSlice_run{T E sz by_ len:Nat}{parts:Array (Nat×Operand)}{ps:List (Nat×List PV)}{zs cs:List PV}(ho:o.op= .buildSlice T len parts)(hT:elemOf? P T=some (E,sz,by_))(hz:cW P E=some zs)(hp:nO s parts.toList=some ps)
 (hc:rV (fun i=>some (i*sz,sz)) (List.replicate len zs).flatten ps=some cs) (hcl:cs.length=len*sz) (hsz:0<sz) (hzl:zs.length=sz) (hsm:len*sz≤16777216) {m:jD} {a:Act} {w:World} (h:RA C n s m a w):
 ∃us,(execOp a.eval o).run P w= .ok (.value (.slice (some ⟨w.heap.size,0,none⟩) len len)) (w.alloc (.cells ⟨us⟩ E))∧gG (jW C.av s.st m) s.st m w cs us∧len≤maxLen:=by
 obtain⟨i,hu,hi,hs,hby⟩:=elemOf?.spec hT
 obtain⟨i',z,hi',hzz,hr⟩:=cW.spec hz
 rw [hi] at hi'
 cases hi'
 have hzv:=hr (jW C.av s.st m) s.st m w
 have hzs:z.cells.size=sz:=by have:=hzv.length;rw [hzl] at this;simpa using this.symm
 have hrl: ∀e∈List.replicate len zs,e.length=sz:=fun e he=>by rw [(List.mem_replicate.1 he).2];exact hzl
 have hzero:gG (jW C.av s.st m) s.st m w (List.replicate len zs).flatten ((List.range (len*sz)).map (fun q=>z.cells[q%z.cells.size]!)):=by
  refine gG.of_get (by rw [nT hrl];simp) fun j p hj=>?_
  have hjl:j<len*sz:=by have:=c4 hj;rw [nT hrl] at this;simpa using this
  have hj1:j/sz<len:=by rw [Nat.div_lt_iff_lt_mul hsz];exact hjl
  have hj2:j%sz<zs.length:=by rw [hzl];exact Nat.mod_lt _ hsz
  have hpj:=qJ (i:=j/sz) (j:=j%sz) (e:=zs) (d:=zs[j%sz]) hrl (by rw [List.getElem?_replicate,if_pos hj1]) (List.getElem?_eq_getElem hj2)
  rw [show j/sz*sz+j%sz=j by rw [Nat.mul_comm];exact Nat.div_add_mod j sz,hj] at hpj
  cases hpj
  obtain⟨v,hv,hrv⟩:=hzv.get (List.getElem?_eq_getElem hj2)
  refine⟨v,?_,hrv⟩
  rw [List.getElem?_map,List.getElem?_range hjl]
  simp only [Option.map_some,hzs]
  rw [Array.getElem?_toList] at hv
  obtain⟨hlt,hve⟩:=Array.getElem?_eq_some_iff.1 hv
  rw [getElem!_pos z.cells _ hlt,hve]
 obtain⟨us,h2,h3⟩:=G2 (CV h hp) hzero hc
 have hul:us.length=len*sz:=by have:=h3.length;rw [hcl] at this;exact this.symm
 have hrun:(Instr.buildSlice T len (parts.map fun(i,x)=>(i,a.eval x))).run P w= .ok (.slice (some ⟨w.heap.size,0,none⟩) len len) (w.alloc (.cells ⟨us⟩ E)):=by
  have hfill:Instr.fill (fun i=>some (i*sz,sz)) ((Array.range (len*sz)).map (z.cells[· %z.cells.size]!)) (parts.map fun(i,x)=>(i,a.eval x)).toList=some ⟨us⟩:=by
   rw [Array.toList_map,← h2]
   congr 1
   apply Array.ext'
   simp
  by_cases h0:len*sz=0
  ·have hl0:len=0:=by
    rcases Nat.mul_eq_zero.1 h0 with h|h
    ·exact h
    ·omega
   subst hl0
   rw [Nat.zero_mul] at hfill
   simp [Instr.buildSlice,run_underlying hu,Go.sizeOf,typeInfo,hi,hs,newRow]
   have e0:(Array.range 0).map (fun q=>z.cells[q%z.cells.size]!)= #[]:=by simp
   rw [e0] at hfill
   simp at hfill
   have e1:(Array.range 0).map (fun _=>(default:Value))= #[]:=by simp
   rw [e1,hfill]
   simp
  ·exact run_buildSlice w T E len _ ⟨us⟩ i z hu hi hzz (by rw [hs];omega) (by rw [hs];exact h0) (by rw [hs];exact hfill)
 refine⟨us,?_,h3,by have:=Nat.le_mul_of_pos_right len hsz;unfold maxLen;omega⟩
 unfold execOp
 simp [ho,hrun]
theorem rQ.length{ps qs:List PV}(h:rQ ps qs):ps.length=qs.length:=by
 induction ps generalizing qs with
 |nil=>cases h;rfl
 |cons p ps ih=>cases h with|cons _ k=>rw [List.length_cons,List.length_cons,ih k]
theorem aV.buildSlice_lit{T E sz by_ len:Nat}{parts:Array (Nat×Operand)}{ps:List (Nat×List PV)}{zs cs:List PV}{es:List (List Tr)}(ho:o.op= .buildSlice T len parts)(hT:elemOf? P T=some (E,sz,by_))(hz:cW P E=some zs)(hp:nO s parts.toList=some ps)
 (hc:rV (fun i=>some (i*sz,sz)) (List.replicate len zs).flatten ps=some cs) (hle:rQ cs (es.flatten.map PV.t)) (hel:es.length=len) (hes: ∀e∈es,e.length=sz) (hsz:0<sz) (hzl:zs.length=sz) (hsm:len*sz≤16777216):
 ∀m a w,RA C n s m a w→ ∃v w1,(execOp a.eval o).run P w= .ok (.value v) w1∧wC w w1∧RV (jW C.av s.st m) s.st m w1 (.lit sz es) v:=by
 intro m a w h
 obtain⟨us,h1,h3,hm⟩:=aV.buildSlice_run ho hT hz hp hc (by rw [hle.length,List.length_map,nT hes,hel]) hsz hzl hsm h
 have h4:=rQ.rv hle h3
 have hx:wC w (w.alloc (.cells ⟨us⟩ E)):= .alloc (.refl _) _
 refine⟨.slice (some ⟨w.heap.size,0,none⟩) len len,w.alloc (.cells ⟨us⟩ E),h1,hx,?_⟩
 have hget: ∀q e,es[q]?=some e→ ∀j d,e[j]?=some d→ ∃v,us[q*sz+j]?=some v∧cF (jW C.av s.st m) (w.alloc (.cells ⟨us⟩ E)) d v:=fun q e hq j d hj=>by
  have hf:=qJ (sz:=sz) hes hq hj
  obtain⟨v,hv,hrv⟩:=h4.get (j:=q*sz+j) (p:= .t d) (by rw [List.getElem?_map,hf];rfl)
  exact⟨v,hv,cF.ext hrv hx⟩
 have:=cF.row (ok:=jW C.av s.st m) (w:=w.alloc (.cells ⟨us⟩ E)) (es:=es) (sz:=sz) (a:=some ⟨w.heap.size,0,none⟩) (cap:=len) (fun q j=>(us[q*sz+j]?).getD undef) (by omega) hm (fun _=>⟨w.heap.size,0,rfl,by simp,fun q e hq j d hd=>⟨MJ h.sto (Nat.le_refl _) _,?_⟩⟩) (fun q e hq j d hd=>?_)
 ·subst hel
  exact⟨this,_,rfl⟩
 ·obtain⟨v,hv,-⟩:=hget q e hq j d hd
  rw [Nat.zero_add,(OB.new w E ⟨us⟩).cell,hv]
  simpa using hv
 ·obtain⟨v,hv,hr⟩:=hget q e hq j d hd
  rw [hv]
  exact hr
theorem aV.buildSliceL{T E sz by_ len:Nat}{parts:Array (Nat×Operand)}{ps:List (Nat×List PV)}{zs cs:List PV}{es:List (List Tr)}(ho:o.op= .buildSlice T len parts)(hd:bQ o.dst n=true)(hT:elemOf? P T=some (E,sz,by_))(hz:cW P E=some zs)(hp:nO s parts.toList=some ps)
 (hc:rV (fun i=>some (i*sz,sz)) (List.replicate len zs).flatten ps=some cs) (hle:rQ cs (es.flatten.map PV.t)) (hel:es.length=len) (hes: ∀e∈es,e.length=sz) (hsz:0<sz) (hzl:zs.length=sz) (hsm:len*sz≤16777216):
 aV P C n o s (s.putO o.dst (.lit sz es)):=
 aV.quietX hd (aV.buildSlice_lit ho hT hz hp hc hle hel hes hsz hzl hsm)
theorem aV.less{p q:PV}(hle:PV.Le p q)(hdl:bQ o.dst n=true)(h: ∀m a w,RA C n s m a w→ ∃v w1,(execOp a.eval o).run P w= .ok (.value v) w1∧wC w w1∧RV (jW C.av s.st m) s.st m w1 p v):aV P C n o s (s.putO o.dst q):=
 aV.quietX hdl fun m a w hr=>by
  obtain⟨v,w1,h1,h2,h3⟩:=h m a w hr
  exact⟨v,w1,h1,h2,hle.rv h3⟩
theorem aV.buildSliceQ{T E sz by_ len:Nat}{parts:Array (Nat×Operand)}{ps:List (Nat×List PV)}{zs cs:List PV}{es:List (List Tr)}(ho:o.op= .buildSlice T len parts)(hd:bQ o.dst n=true)(hT:elemOf? P T=some (E,sz,by_))(hz:cW P E=some zs)(hp:nO s parts.toList=some ps)
 (hc:rV (fun i=>some (i*sz,sz)) (List.replicate len zs).flatten ps=some cs) (hle:rQ cs (es.flatten.map PV.t)) (hel:es.length=len) (hes: ∀e∈es,e.length=sz) (hsz:0<sz) (hzl:zs.length=sz) (hsm:len*sz≤16777216):
 aV P C n o s (s.putO o.dst (.t (.row sz es))):=
 aV.less (.lit sz es) hd (aV.buildSlice_lit ho hT hz hp hc hle hel hes hsz hzl hsm)
def c9.steps(P:Program)(C:oZ)(n:Nat)(D:c9):Nat→List Oper→Prop
 |_,[]=>True
 |i,o::l=>D.step P C n i o∧c9.steps P C n D (i+1) l
theorem c9.steps_get{D:c9}: ∀ {l:List Oper} {k:Nat},D.steps P C n k l→ ∀(i:Nat) (o:Oper),l[i]?=some o→D.step P C n (k+i) o
 | [],_,_,i,o,h=>by simp at h
 |x::l,k,hs,0,o,h=>by simp at h;subst h;exact hs.1
 |x::l,k,hs,i+1,o,h=>by
  have:=c9.steps_get (l:=l) (k:=k+1) hs.2 i o (by simpa using h)
  rwa [show k+1+i=k+(i+1) by omega] at this
theorem aP.drawnL{id:Nat}{l:List Oper}{s1:AS}(D:c9)(hD:D.ops=l.toArray)(hm:P.follows .mixedOrders=true)(hok:D.ok=true)(henv:s.env=D.env0)(hst:s.st=D.F 0 false)(hsteps:D.steps P C n 0 l)
 (h1:(⟨((List.range D.ops.size).filterMap (D.gX (Array.replicate D.ops.size true)))++D.env0,D.F D.effs.length D.alloc.isSome⟩:AS)=s1) (h:Q .normal s1):aP P C n (.region id l.toArray true) Q s:=by
 subst h1
 rw [← hD]
 refine aP.drawn D hm hok henv hst (fun i o ho=>?_) h
 have:=c9.steps_get hsteps i o (by rw [hD] at ho;simpa using ho)
 rwa [Nat.zero_add] at this
theorem c9.step.q1{D:c9}{i:Nat}{o:Oper}(lo:Nat)(wt:D.want o=some true)(hk:D.kind i= .q lo lo)
 (h: ∀(s':AS) (b:Bool),s'.st=D.F lo b→(∀t src p,(t,src)∈D.ins i→D.pv (t,src)=some p→s'.lk t=some p)→ ∃p,D.out i=some p∧aV P C n o s' (s'.putO o.dst p)):D.step P C n i o:=
 .inl ⟨wt,by
  unfold c9.does
  rw [hk]
  exact fun s' j b h1 h2 hs hl=>by
   obtain rfl:j=lo:=by omega
   exact h s' b hs hl⟩
end
end Go.Proofs.YtpioomclpaiomaaGreat

namespace Go.Proofs.YtpioomclpaiomaaGreat
set_option linter.unusedSimpArgs false
set_option linter.unusedVariables false
open Go.RowKit
def Y4:jD:=⟨fun _=>0,fun _=>none⟩
def av0:Nat→Nat→Prop:=fun _ _=>False
theorem ok0(b o:Nat):jW av0 ⟨[],[]⟩ Y4 b o:=⟨fun h=>h,fun k x h=>by simp at h,fun r row g c h=>by simp at h⟩
theorem aj0(w:World):fE av0 ⟨[],[]⟩ Y4 w where
 box:=fun k x h=>by simp at h
 binj:=fun k k' x x' h=>by simp at h
 row:=fun r row h=>by simp at h
 rinj:=fun r r' row row' g c c' h=>by simp at h
 br:=fun k x r row g c h=>by simp at h
 avlt:=fun b o h=>h.elim
 avr:=fun r row g c h=>by simp at h
 avb:=fun k x h=>by simp at h
theorem Ev.ext{m m':jD}{w w':World}{st':c3}(h:Ev ⟨[],[]⟩ m w st' m' w'):wC w w' where
 os:=h.os
 tape:=h.tape
 output:=h.output
 size:=h.size
 block:=fun b hb=>h.blk b hb (fun k x h=>by simp at h) (fun r row g c h=>by simp at h)
abbrev acT(w:World)(ps:List PV)(vs:List Value):Prop:=gG (jW av0 ⟨[],[]⟩ Y4) ⟨[],[]⟩ Y4 w ps vs
abbrev RV0(w:World)(p:PV)(v:Value):Prop:=RV (jW av0 ⟨[],[]⟩ Y4) ⟨[],[]⟩ Y4 w p v
theorem RV0.agg{w:World}{ts:List Tr}{cs:List Value}(h:j7 w ts cs):RV0 w (.agg (ts.map PV.t)) (.agg ⟨cs⟩):=⟨cs,rfl,h.toRVL fun b o _=>ok0 b o⟩
theorem RV0.t{w:World}{t:Tr}{v:Value}(h:AZ w t v):RV0 w (.t t) v:=h.repM fun b o _=>ok0 b o
theorem cE.plain{P:Program}{f:FuncId}{args:List PV}{d:Value}(h:cE P f args (.t (.leaf d))){w:World}{vals:List Value}(hv:acT w args vals):Calls P f ⟨vals⟩ w fun e w'=>e= .returned d∧wC w w':=
 (h av0 Y4 w vals (aj0 w) hv).mono fun e w'=>by
  rintro⟨res,st',m',v,rfl,⟨rfl,rfl⟩,-,he,hr⟩
  exact⟨by rw [(cF.leaf_eq hr).1],he.ext⟩
end Go.Proofs.YtpioomclpaiomaaGreat

namespace Go.Proofs.YtpioomclpaiomaaGreat
set_option linter.unusedSimpArgs false
set_option linter.unusedVariables false
open Go.RowKit Go.WalkArith Go.IntWalk Go.WideShapes
theorem n7(l:List ByteArray): ∀e∈aW l,e.length=1:=fun e he=>by
 unfold aW at he
 obtain⟨x,_,rfl⟩:=List.mem_map.1 he
 rfl
theorem s9(a b:List ByteArray):aW a++aW b=aW (a++b):=by simp [aW]
section
variable {P:Program} {C:oZ} {n:Nat} {s:AS} {Q:Exit→AS→Prop} {o:Oper}
theorem aP.wk{s':AS}{c:Code}(hw:Wk C n s s')(h:aP P C n c Q s'):aP P C n c Q s:=fun m a w hr=>by
 obtain⟨m',h'⟩:=hw m a w hr
 exact h m' a w h'
theorem aV.appendE{T E sz by_:Nat}{x y:Operand}{es es2 es3:List (List Tr)}{r:Nat}{row:n8}{p:PV}(ho:o.op= .call { callee:= .builtin .append,args:= #[x,y],argTypes:= #[T,T] })(hd:bQ o.dst n=true)
 (hx:s.ev x=some (.acc sz es r)) (hrow:s.st.rows[r]?=some row) (hes:row.es=es) (hE:row.E=E) (hw:row.whole=false) (hy:s.ev y=some p) (hp:l4 p=some (sz,es2)) (h2: ∀e∈es2,e.length=sz)
 (hT:elemOf? P T=some (E,sz,by_)) (hz:(P.info? E).bind (fun i=>i.zero.map (fun z=>z.cells.size))=some sz) (hb:0<by_) (hlen:(es.length+es2.length)*by_≤140737488355328) (h3:es++es2=es3):
 aV P C n o s ((⟨s.env,s.st.setRow r { row with es:=es3 }⟩:AS).putO o.dst (.acc sz es3 r)):=by
 subst h3
 exact aV.append ho hd hx hrow hes hE hw hy hp h2 hT hz hb hlen
theorem aV.callPE{f:FuncId}{fn:Func}{xs:List Operand}{ts:Array TypeId}{ps qs:List PV}{res:PV}{pre st' S:c3}(fb fr:List Nat)(ho:o.op= .call { callee:= .value (.func f),args:=⟨xs⟩,argTypes:=ts })(hd:bQ o.dst n=true)(hf:P.funcs[f]?=some fn)(hnm:(fn.name== "runtime.NumGoroutine")=false)(hb:fn.body.isNone=false)
 (hx:xs.map s.ev=ps.map some) (hS:s.st=S) (hp:mW S pre fb fr) (hle:rQ ps (AQ fb fr qs)) (hok:l0 pre qs=true) (hbl:st'.boxes.length=pre.boxes.length) (hrl:st'.rows.length=pre.rows.length) (hc:cY P f qs pre (fun r t=>r=res∧t=st')):
 aV P C n o s ((⟨s.env,S.over st' fb fr⟩:AS).putO o.dst (PV.ren fb fr res)):=by
 subst hS
 exact aV.callP fb fr ho hd hf hnm hb hx hp hle hok hbl hrl hc
end
theorem cY.regNil{P:Program}{f:FuncId}{l1 l2:List PV}{E sz:Nat}{q res:PV}{t:c3}(hsz:0<sz)(h:cY P f (l1++ .acc sz [] 0::l2) ⟨[],[⟨E,sz,[],false⟩]⟩ (fun r st'=>r=res∧st'=t))(hle:PV.Le res q)(hk:PV.okIn ⟨[],[]⟩ q=true):cE P f (l1++ .nil::l2) q:=fun av m w vals hst hv=>by
 have hE:=IP (row:=⟨E,sz,[],false⟩) hst
 have hS:=PB (row:=⟨E,sz,[],false⟩) hst hsz rfl
 have hargs:gG (jW av (c3.addRow ⟨[],[]⟩ ⟨E,sz,[],false⟩) ⟨m.ρ,wB m.γ 0 none⟩) (c3.addRow ⟨[],[]⟩ ⟨E,sz,[],false⟩) ⟨m.ρ,wB m.γ 0 none⟩ w (l1++ .acc sz [] 0::l2) vals:=by
  have h0:=gG.mono hE _ _ hv
  have hlen:=h0.length
  have key: ∀(l:List PV) (vs:List Value),gG (jW av (c3.addRow ⟨[],[]⟩ ⟨E,sz,[],false⟩) ⟨m.ρ,wB m.γ 0 none⟩) (c3.addRow ⟨[],[]⟩ ⟨E,sz,[],false⟩) ⟨m.ρ,wB m.γ 0 none⟩ w (l++ .nil::l2) vs→
   gG (jW av (c3.addRow ⟨[],[]⟩ ⟨E,sz,[],false⟩) ⟨m.ρ,wB m.γ 0 none⟩) (c3.addRow ⟨[],[]⟩ ⟨E,sz,[],false⟩) ⟨m.ρ,wB m.γ 0 none⟩ w (l++ .acc sz [] 0::l2) vs:=by
   intro l
   induction l with
   |nil=>
    intro vs hh
    match vs,hh with
    |v::vs,hh=>
     refine⟨?_,hh.2⟩
     obtain rfl:=(show v=_ from hh.1)
     exact⟨⟨E,sz,[],false⟩,rfl,rfl,Nat.le_refl _,cF.row (es:= []) (fun _ _=>undef) (by simp) (by unfold maxLen;omega) (by simp) (by simp),fun _=>by simp [wB,SQ]⟩
    | [],hh=>exact hh.elim
   |cons p l ih=>
    intro vs hh
    match vs,hh with
    |v::vs,hh=>exact⟨hh.1,ih vs hh.2⟩
    | [],hh=>exact hh.elim
  exact key l1 vals h0
 refine(h av _ w vals hS hargs).mono fun e w'=>?_;rintro⟨r,st',m',v,k1,⟨rfl,rfl⟩,k3,k4,k5⟩
 have hl:nH st' ⟨[],[]⟩:=⟨fun k x' hx=>by simp at hx,fun r row' hr=>by simp at hr⟩
 exact⟨q,⟨[],[]⟩,m',v,k1,⟨rfl,rfl⟩,hl.sto k3,hl.ev (hE.trans k4) lC.nil,hl.rv q _ hk (hle.rv k5)⟩
end Go.Proofs.YtpioomclpaiomaaGreat

namespace Go.Proofs.YtpioomclpaiomaaGreat
set_option linter.unusedSimpArgs false
set_option linter.unusedVariables false
open Go.RowKit Go.WalkArith Go.IntWalk Go.WideShapes
theorem kM(b:Bool):b=true∨b=false:=by cases b<;>simp
section
variable {P:Program} {C:oZ} {n:Nat} {s:AS} {o:Oper}
theorem cO(k j:Nat){bx:c5}{p:PV}{sz N:Nat}{es:List (List Tr)}(hb:s.st.boxes[k]?=some (some bx))(hx:bx.cells[j]?=some p)(hp:l4 p=some (sz,es))(hl:es.length=N): ∀m a w,RA C n s m a w→N≤9223372036854775807:=by
 subst hl
 exact agD k j hb hx hp
theorem aV.indexI{T E sz by_:Nat}{x i:Operand}{p:PV}{es:List (List Tr)}{e:List Tr}{y:Int}(ho:o.op= .indexAddr T x i)(hd:bQ o.dst n=true)(hx:s.ev x=some p)(hp:l4 p=some (sz,es))(hi:s.ev i=some (.t (.leaf (.int .i64 y))))(h0:0≤y)
 (he:es[y.toNat]?=some e) (hT:elemOf? P T=some (E,sz,by_)):aV P C n o s (s.putO o.dst (.eptr e)):=
 aV.index (k:=y.toNat) ho hd hx hp (by rw [hi,Int.toNat_of_nonneg h0]) he hT
end
end Go.Proofs.YtpioomclpaiomaaGreat

namespace Go.Proofs.YtpioomclpaiomaaGreat
set_option linter.unusedSimpArgs false
set_option linter.unusedVariables false
open Go.RowKit Go.WalkArith Go.IntWalk Go.WideShapes
theorem IQ{st:c3}{m:jD}{w w':World}{x:c5}{b:Nat}(hx:wC w w')(hb:w.heap.size≤b):Ev st m w (st.addBox x) ⟨wB m.ρ st.boxes.length b,m.γ⟩ w':=by
 refine⟨hx.os,hx.tape,hx.output,hx.size,fun b hb _ _=>hx.block b hb,fun b o hb _=>jK (hx.block b hb),fun c o hc h=>⟨fun k y hk=>?_,h.2⟩,fun k y hk=>⟨⟨y,?_⟩,?_⟩,fun k y hk=>?_,fun _ row h=>⟨row,h,rfl,Nat.le_refl _,fun _=>rfl,fun h=>⟨h,rfl⟩⟩,fun _ row _ c h h'=> .inl ⟨row,c,h,h'⟩⟩
 ·rcases fL hk with⟨h1,h2⟩|⟨rfl,rfl⟩
  ·simp only [dK (show k≠st.boxes.length by omega)]
   exact h.1 k y h2
  ·simp only [b7]
   omega
 ·show(st.boxes++ [some x])[k]?=_
  rw [List.getElem?_append_left (c4 hk)];exact hk
 ·exact dK (by have:=c4 hk;omega)
 ·rcases fL hk with⟨h1,h2⟩|⟨rfl,rfl⟩
  ·exact .inl ⟨y,h2⟩
  ·exact .inr (by simpa [b7] using hb)
theorem PC{av:Nat→Nat→Prop}{st:c3}{m:jD}{w w':World}{x:c5}{b:Nat}{vs:List Value}(h:fE av st m w)(hx:wC w w')(hb:w.heap.size≤b)(ho:UZ w' b x.ty vs)
 (hc:gG (jW av (st.addBox x) ⟨wB m.ρ st.boxes.length b,m.γ⟩) (st.addBox x) ⟨wB m.ρ st.boxes.length b,m.γ⟩ w' x.cells vs):fE av (st.addBox x) ⟨wB m.ρ st.boxes.length b,m.γ⟩ w':=by
 have he:Ev st m w (st.addBox x) ⟨wB m.ρ st.boxes.length b,m.γ⟩ w':=IQ hx hb
 have hw:=fun k y (hk:st.boxes[k]?=some (some y))=>h.box_lt hk
 refine⟨fun k y hk=>?_,fun k k' y y' hk hk' hne=>?_,fun r row hr=>?_,h.rinj,fun k y r row g c hk hr hg=>?_,fun b o hb=>Nat.lt_of_lt_of_le (h.avlt b o hb) hx.size,h.avr,fun k y hk o ha=>?_⟩
 ·rcases fL hk with⟨h1,h2⟩|⟨rfl,rfl⟩
  ·obtain⟨us,k1,k2⟩:=h.box k y h2
   simp only [dK (show k≠st.boxes.length by omega)]
   exact⟨us,k1.ext hx,gG.mono he _ _ k2⟩
  ·simp only [b7]
   exact⟨vs,ho,hc⟩
 ·rcases fL hk with⟨h1,h2⟩|⟨rfl,rfl⟩<;>rcases fL hk' with⟨h1',h2'⟩|⟨rfl,rfl⟩
  ·simp only [dK (show k≠st.boxes.length by omega),dK (show k'≠st.boxes.length by omega)]
   exact h.binj k k' y y' h2 h2' hne
  ·simp only [dK (show k≠st.boxes.length by omega),b7]
   have:=hw k y h2
   omega
  ·simp only [dK (show k'≠st.boxes.length by omega),b7]
   have:=hw k' y' h2'
   omega
  ·exact absurd rfl hne
 ·obtain⟨k1,k2,k3⟩:=h.row r row hr
  refine⟨k1,k2,?_⟩
  rcases k3 with k3|⟨g,c,cur,q1,q2,q3,q4,q5,q6⟩
  ·exact .inl k3
  ·exact .inr ⟨g,c,cur,q1,q2.ext hx,q3,q4,q5,RV.mono he (.t _) _ q6⟩
 ·rcases fL hk with⟨h1,h2⟩|⟨rfl,rfl⟩
  ·simp only [dK (show k≠st.boxes.length by omega)]
   exact h.br k y r row g c h2 hr hg
  ·simp only [b7]
   have:=h.row_lt hr hg
   omega
 ·rcases fL hk with⟨h1,h2⟩|⟨rfl,rfl⟩
  ·simp only [dK (show k≠st.boxes.length by omega)] at ha
   exact h.avb k y h2 o ha
  ·simp only [b7] at ha
   have:=h.avlt _ _ ha
   omega
def aiS(P:Program)(f:FuncId)(args:List PV)(T:TypeId)(cs:List PV):Prop:=cY P f args ⟨[],[]⟩ (fun r st'=> ∃k,r= .ptr k 0∧st'.rows= []∧(∀i x,st'.boxes[i]?=some (some x)→i=k)∧st'.boxes[k]?=some (some ⟨T,cs⟩))
section
variable {P:Program} {C:oZ} {n:Nat} {s:AS} {o:Oper}
theorem aV.callNew{f:FuncId}{fn:Func}{xs:List Operand}{ts:Array TypeId}{ps qs cs:List PV}{T:TypeId}(ho:o.op= .call { callee:= .value (.func f),args:=⟨xs⟩,argTypes:=ts })(hd:bQ o.dst n=true)(hf:P.funcs[f]?=some fn)(hnm:(fn.name== "runtime.NumGoroutine")=false)(hb:fn.body.isNone=false)
 (hx:xs.map s.ev=ps.map some) (hle:rQ ps qs) (hfr:jM qs=true) (hfr':jM cs=true) (hc:aiS P f qs T cs):aV P C n o s ((⟨s.env,s.st.addBox ⟨T,cs⟩⟩:AS).putO o.dst (.ptr s.st.boxes.length 0)):=fun m a w h K Q hK=>by
 have h2:=evL h hx
 have h1:(execOp a.eval o).run P w= .ok (.enter f ⟨xs.map a.eval⟩) w:=by
  have hcf:=kT (P:=P) hf hnm hb
  unfold execOp
  simp only [ho]
  simp [resolve,invoke,Deferred.ofValue,Act.eval,hcf]
 unfold Oper.wp
 rw [h1]
 have h3:=hc (agT C s m w) m w _ (fE.nil fun b o hb=>hb.1) (jM.rv (fun b o hb hk=>⟨fun hs=>hs.2 hk,fun _ _ h=>by simp at h,fun _ _ _ _ h=>by simp at h⟩) _ _ hfr (rQ.rv hle h2))
 refine Calls.mono h3 fun e w'=>?_;rintro⟨r,st',m',v,rfl,⟨k,rfl,hrows,honly,hbox⟩,h4,h5,h6⟩
 have hx:wC w w':=⟨h5.os,h5.tape,h5.output,h5.size,fun b hb=>h5.blk b hb (fun _ _ h=>by simp at h) (fun _ _ _ _ h=>by simp at h)⟩
 have hfresh:w.heap.size≤m'.ρ k:=by
  rcases h5.fresh k _ hbox with⟨x,hx0⟩|hf
  ·simp at hx0
  ·exact hf
 obtain⟨vs,hob,hcs⟩:=h4.box k _ hbox
 have hk: ∀b o,b<w'.heap.size→jW (agT C s m w) st' m' b o→jW C.av (s.st.addBox ⟨T,cs⟩) ⟨wB m.ρ s.st.boxes.length (m'.ρ k),m.γ⟩ b o:=fun b o hb hk=>by
  have hnew:m'.ρ k≠b:=hk.2.1 k _ hbox
  have h0:jW C.av s.st m b o:=by
   rcases Nat.lt_or_ge b w.heap.size with hlt|hge
   ·exact Classical.byContradiction fun hn=>hk.1 ⟨hlt,hn⟩
   ·exact MJ h.sto hge o
  refine⟨h0.1,fun i y hi=>?_,h0.2.2⟩
  rcases fL hi with⟨q1,q2⟩|⟨rfl,rfl⟩
  ·simp only [dK (show i≠s.st.boxes.length by omega)]
   exact h0.2.1 i y q2
  ·simp only [b7]
   exact hnew
 have hE:Ev s.st m w (s.st.addBox ⟨T,cs⟩) ⟨wB m.ρ s.st.boxes.length (m'.ρ k),m.γ⟩ w':=IQ hx hfresh
 have hS:fE C.av (s.st.addBox ⟨T,cs⟩) ⟨wB m.ρ s.st.boxes.length (m'.ρ k),m.γ⟩ w':=PC h.sto hx hfresh hob (jM.rv hk _ _ hfr' hcs)
 have hv:v= .pointer (some ⟨m'.ρ k,0,none⟩):=h6.2
 exact hK _ _ w' ((h.step hE hS).put (cX hd) ⟨⟨⟨T,cs⟩,by simp [c3.addBox]⟩,by simp [b7,hv]⟩)
end
end Go.Proofs.YtpioomclpaiomaaGreat

namespace Go.Proofs.YtpioomclpaiomaaGreat
set_option linter.unusedSimpArgs false
set_option linter.unusedVariables false
open Go.RowKit Go.WalkArith Go.IntWalk Go.WideShapes
def zH(x y:Int):Int:=IntKind.wrap .i64 ((BitVec.ofInt 64 x&&& BitVec.ofInt 64 y).toNat:Int)
def NH(x y:Int):Int:=IntKind.wrap .i64 ((BitVec.ofInt 64 x^^^BitVec.ofInt 64 y).toNat:Int)
def rA(x y:Int):Int:=x.fdiv (2^(min y.toNat 64))
def aQ(x:Int):Int:=IntKind.wrap .i64 x
section
variable {P:Program} {C:oZ} {n:Nat} {s:AS} {o:Oper}
theorem aV.moveAny{v:Value}(ho:o.op= .assign (.const v)∨o.op= .move (.const v)):aV P C n o s (s.delO o.dst):=fun m a w h K Q hK=>by
 have h1:(execOp a.eval o).run P w= .ok (.value v) w:=by
  unfold execOp
  rcases ho with ho|ho<;>simp [ho,Act.eval]
 unfold Oper.wp
 rw [h1]
 exact hK m _ w (h.del o.dst v)
theorem aV.andI{T yT:TypeId}{x y:Operand}{a b:Int}(ho:o.op= .binOp .and T x y yT)(hd:bQ o.dst n=true)(hx:s.ev x=some (.t (.leaf (.int .i64 a))))(hy:s.ev y=some (.t (.leaf (.int .i64 b)))):
 aV P C n o s (s.putO o.dst (.t (.leaf (.int .i64 (zH a b))))):=aV.bin ho hd hx hy (fun w=>by rfl) (wf_wrap .i64 _)
theorem aV.xorI{T yT:TypeId}{x y:Operand}{a b:Int}(ho:o.op= .binOp .xor T x y yT)(hd:bQ o.dst n=true)(hx:s.ev x=some (.t (.leaf (.int .i64 a))))(hy:s.ev y=some (.t (.leaf (.int .i64 b)))):
 aV P C n o s (s.putO o.dst (.t (.leaf (.int .i64 (NH a b))))):=aV.bin ho hd hx hy (fun w=>by rfl) (wf_wrap .i64 _)
theorem aV.shrI{T yT:TypeId}{x y:Operand}{a b:Int}{k:IntKind}(ho:o.op= .binOp .shr T x y yT)(hd:bQ o.dst n=true)(hx:s.ev x=some (.t (.leaf (.int .i64 a))))(hy:s.ev y=some (.t (.leaf (.int k b))))(hb:0≤b)(h1: -9223372036854775808≤rA a b)(h2:rA a b≤9223372036854775807):
 aV P C n o s (s.putO o.dst (.t (.leaf (.int .i64 (rA a b))))):=aV.bin ho hd hx hy (fun w=>by
  have: ¬b<0:=by omega
  simp [eqGuard,binOp,Op.shift,rA,IntKind.bits,this]) (wf_i64 (by omega))
theorem aV.remN{T yT:TypeId}{x y:Operand}{a b:Nat}(ho:o.op= .binOp .rem T x y yT)(hd:bQ o.dst n=true)(hx:s.ev x=some (.t (.leaf (.int .i64 (a:Int)))))(hy:s.ev y=some (.t (.leaf (.int .i64 (b:Int)))))(hb:0<b)(ha:a≤9223372036854775807):
 aV P C n o s (s.putO o.dst (.t (.leaf (.int .i64 ((a%b:Nat):Int))))):=aV.bin ho hd hx hy (fun w=>by
  have: ¬(b:Int)=0:=by omega
  have: ¬b=0:=by omega
  simp [eqGuard,binOp,Op.intDiv,this,Int.tmod_eq_emod_of_nonneg]) (wf_i64 (by have:=Nat.mod_le a b;omega))
theorem aV.convI{S T:TypeId}{x:Operand}{k:IntKind}{a:Int}(ho:o.op= .convert S T x)(hd:bQ o.dst n=true)(hx:s.ev x=some (.t (.leaf (.int k a))))(hS: ∃k',P.underlying S=some (.int k'))(hT:P.underlying T=some (.int .i64))(h1: -9223372036854775808≤a)(h2:a≤9223372036854775807):
 aV P C n o s (s.putO o.dst (.t (.leaf (.int .i64 a)))):=
 aV.quiet (cX hd) fun m ac w h=>⟨.int .i64 a,by
  have h3:=(cF.leaf_eq (h.eval hx)).1
  obtain⟨k',hS⟩:=hS
  have hw:IntKind.wrap .i64 a=a:=by unfold IntKind.wrap;simp [IntKind.bits,IntKind.signed];omega
  unfold execOp
  simp [ho,h3,convert,run_underlying hS,run_underlying hT,Conv.intToInt,hw],cF.leaf (wf_i64 (by omega))⟩
end
end Go.Proofs.YtpioomclpaiomaaGreat

namespace Go.Proofs.YtpioomclpaiomaaGreat
open Go.RowKit Go.Proofs
set_option linter.unusedSimpArgs false
set_option linter.unusedVariables false
def cL(l:List UInt8):List (List Tr):=l.map fun b=> [.leaf (.int .u8 (b.toNat:Int))]
theorem gB(l:List UInt8):(cL l).length=l.length:=by simp [cL]
theorem vH{l:List UInt8}{k:Nat}(h:k<l.length):(cL l)[k]?=some [.leaf (.int .u8 ((l[k]).toNat:Int))]:=by simp [cL,h]
structure DS where
 code:List UInt8
 p:Nat
 h:Int
def DS.cells(d:DS):List PV:= [.t (.row 1 (cL d.code)),.t (.leaf (.int .i64 (d.p:Int))),.t (.leaf (.int .i64 d.h))]
abbrev DS.box(T:TypeId)(d:DS):c3:=⟨[some ⟨T,d.cells⟩],[]⟩
def BQ(h:Int):Int:=aQ (aQ (h*6364136223846793005)+1442695040888963407)
theorem DG(x:Int): -9223372036854775808≤aQ x∧aQ x≤9223372036854775807:=by
 unfold aQ IntKind.wrap
 simp [IntKind.bits,IntKind.signed]
 omega
theorem MH{x y:Int}(h: -9223372036854775808≤x∧x≤9223372036854775807): -9223372036854775808≤rA x y∧rA x y≤9223372036854775807:=by
 unfold rA
 generalize min y.toNat 64=k
 have hp:(1:Int)≤2^k:=by
  have:=Nat.one_le_two_pow (n:=k)
  exact_mod_cast this
 generalize(2:Int)^k=d at hp
 rw [Int.fdiv_eq_ediv_of_nonneg _ (by omega)]
 have h1:x/d≤9223372036854775807:=by
  have:x/d≤9223372036854775807/d:=Int.ediv_le_ediv (by omega) h.2
  have:(9223372036854775807:Int)/d≤9223372036854775807:=Int.ediv_le_self _ (by omega)
  omega
 have h2: -9223372036854775808≤x/d:=by
  rw [Int.le_ediv_iff_mul_le (by omega)]
  omega
 exact⟨h2,h1⟩
def DS.byte(d:DS):Int:=let x:=zH (NH (rA (BQ d.h) 33) (rA (BQ d.h) 45)) 255;if h:d.p<d.code.length then zH (aQ (x+(d.code[d.p].toNat:Int))) 255 else x
def DS.next(d:DS):DS:=⟨d.code,if d.p<d.code.length then d.p+1 else d.p,BQ d.h⟩
theorem VJ(x:Int):0≤zH x 255∧zH x 255≤255:=by
 unfold zH
 have h:(BitVec.ofInt 64 x&&& BitVec.ofInt 64 255).toNat≤255:=by
  rw [BitVec.toNat_and]
  exact Nat.le_trans Nat.and_le_right (by decide)
 generalize(BitVec.ofInt 64 x&&& BitVec.ofInt 64 255).toNat=k at h
 unfold IntKind.wrap
 simp [IntKind.bits,IntKind.signed]
 omega
theorem DS.byte_in(d:DS):0≤d.byte∧d.byte≤255:=by
 unfold DS.byte
 split
 ·exact VJ _
 ·exact VJ _
def DS.byteN(d:DS):Nat:=d.byte.toNat
theorem DS.byteN_le(d:DS):d.byteN≤255:=by have:=d.byte_in;unfold DS.byteN;omega
theorem DS.byteN_eq(d:DS):((d.byteN:Nat):Int)=d.byte:=by have:=d.byte_in;unfold DS.byteN;omega
def DS.below(d:DS)(n:Nat):Nat:=if n=0 then 0 else if n≤256 then d.byteN%n else(d.byteN*16777216+d.next.byteN*65536+d.next.next.byteN*256+d.next.next.next.byteN)%n
def DS.after(d:DS)(n:Nat):DS:=if n=0 then d else if n≤256 then d.next else d.next.next.next.next
theorem DS.below_lt(d:DS){n:Nat}(h:0<n):d.below n<n:=by
 unfold DS.below
 rw [if_neg (by omega)]
 split
 ·exact Nat.mod_lt _ h
 ·exact Nat.mod_lt _ h
def DS.pick(d:DS)(l:List ByteArray):ByteArray:=(l[d.below l.length]?).getD ⟨#[]⟩
theorem DS.pick_eq{d:DS}{l:List ByteArray}(h:d.below l.length<l.length):d.pick l=l[d.below l.length]:=by simp [DS.pick,h]
def CU(h:Int)(b:UInt8):Int:=zH (aQ (aQ (aQ (h*131)+(b.toNat:Int))+7)) 1073741823
def ai4(code:List UInt8):Int:=(code.take 4000).foldl CU (28803+(code.length:Int))
def DS.start(code:List UInt8):DS:=⟨code,0,ai4 code⟩
theorem adA{code:List UInt8}{i:Nat}{h h' r:Int}(h1:i<code.length)(h2:i<4000)(hr:r=((code.take 4000).drop i).foldl CU h)(hs:CU h code[i]=h'):r=((code.take 4000).drop (i+1)).foldl CU h':=by
 have hl:i<(code.take 4000).length:=by simp;omega
 rw [hr,List.drop_eq_getElem_cons hl,List.foldl_cons,List.getElem_take,hs]
theorem VT{code:List UInt8}{i:Nat}{h r:Int}(h1:code.length≤i∨4000≤i)(hr:r=((code.take 4000).drop i).foldl CU h):r=h:=by
 rw [hr,List.drop_of_length_le (by simp;omega),List.foldl_nil]
theorem sC{C:oZ}{x:c5}{S:c3}(h:C.st=⟨[some x],[]⟩)(hs: ∃y,S.boxes[0]?=some (some y)):lC C.st S:=by
 rw [h]
 exact⟨fun k z hz=>by
  rcases k with _|k
  ·exact hs
  ·simp at hz,fun r row hr=>by simp at hr⟩
end Go.Proofs.YtpioomclpaiomaaGreat

namespace Go.Proofs.YtpioomclpaiomaaGreat
set_option linter.unusedSimpArgs false
set_option linter.unusedVariables false
open Go.RowKit Go.WalkArith Go.IntWalk Go.WideShapes
section
variable {P:Program} {C:oZ} {n:Nat} {s:AS} {o:Oper}
end
end Go.Proofs.YtpioomclpaiomaaGreat

namespace Go.Proofs.YtpioomclpaiomaaGreat
set_option linter.unusedSimpArgs false
set_option linter.unusedVariables false
open Go.RowKit Go.WalkArith Go.IntWalk Go.WideShapes
mutual
inductive Mv (sz:Nat) (es:List (List Tr)) (k k':Nat):PV→PV→Prop
 |acc:Mv sz es k k' (.acc sz es k) (.acc sz es k')
 |free (p:PV):PV.free p=true→Mv sz es k k' p p
 |agg {ps qs:List PV}:R2 sz es k k' ps qs→Mv sz es k k' (.agg ps) (.agg qs)
 |tup {ps qs:List PV}:R2 sz es k k' ps qs→Mv sz es k k' (.tup ps) (.tup qs)
inductive R2 (sz:Nat) (es:List (List Tr)) (k k':Nat):List PV→List PV→Prop
 |nil:R2 sz es k k' [] []
 |cons {p q:PV} {ps qs:List PV}:Mv sz es k k' p q→R2 sz es k k' ps qs→R2 sz es k k' (p::ps) (q::qs)
end
section
variable {ok ok':Nat→Nat→Prop} {st st':c3} {m m':jD} {w:World} {sz k k':Nat} {es:List (List Tr)}
mutual
theorem Mv.rv(hk: ∀b o,b<w.heap.size→ok b o→ok' b o)(hrow: ∀row,st.rows[k]?=some row→st'.rows[k']?=some row∧m'.γ k'=m.γ k): ∀ {p q:PV} {v:Value},Mv sz es k k' p q→RV ok st m w p v→RV ok' st' m' w q v
 |_,_,_,.acc,h=>by
  obtain⟨row,h1,h2,h3,h4,h5⟩:=h
  obtain⟨k1,k2⟩:=hrow row h1
  exact⟨row,k1,h2,h3,cF.mono h4 (Nat.le_refl _) hk (fun _ _ _ _=>rfl),fun e=>by rw [k2];exact h5 e⟩
 |_,_,_,.free p hf,h=>PV.free.rv hk p _ hf h
 |_,_,_,.agg hl,h=>by
  obtain⟨vs,hv,h1⟩:=h
  exact⟨vs,hv,R2.rv hk hrow hl h1⟩
 |_,_,_,.tup hl,h=>by
  obtain⟨vs,hv,h1⟩:=h
  exact⟨vs,hv,R2.rv hk hrow hl h1⟩
theorem R2.rv(hk: ∀b o,b<w.heap.size→ok b o→ok' b o)(hrow: ∀row,st.rows[k]?=some row→st'.rows[k']?=some row∧m'.γ k'=m.γ k): ∀ {ps qs:List PV} {vs:List Value},R2 sz es k k' ps qs→gG ok st m w ps vs→gG ok' st' m' w qs vs
 |_,_,[],.nil,h=>h
 |_,_,_::_,.nil,h=>h.elim
 |_,_,[],.cons _ _,h=>h.elim
 |_,_,_::_,.cons h1 h2,h=>⟨Mv.rv hk hrow h1 h.1,R2.rv hk hrow h2 h.2⟩
end
end
mutual
theorem PV.free.ren{fb fr:List Nat}: ∀(p:PV),PV.free p=true→PV.ren fb fr p=p
 | .t _,_=>rfl
 | .agg cs,h=>by rw [PV.ren,jM.ren cs h]
 | .tup cs,h=>by rw [PV.ren,jM.ren cs h]
 | .nil,_=>rfl
 | .eptr _,_=>rfl
 | .fn f cs,h=>by rw [PV.ren,jM.ren cs h]
 | .acc _ _ _,h=>by cases h
 | .ptr _ _,h=>by cases h
 | .full _ _ _,h=>by cases h
 | .rptr _ _,h=>by cases h
 | .lit _ _,h=>by cases h
 | .bsl _ _,h=>by cases h
 | .gsl _ _,h=>by cases h
theorem jM.ren{fb fr:List Nat}: ∀(ps:List PV),jM ps=true→AQ fb fr ps=ps
 | [],_=>rfl
 |p::ps,h=>by
  simp only [jM,Bool.and_eq_true] at h
  rw [AQ,PV.free.ren p h.1,jM.ren ps h.2]
end
section
variable {av:Nat→Nat→Prop} {s pre st':c3} {m m':jD} {fb:List Nat} {w w':World} {k:Nat} {row:n8}
theorem ae5(h:mW s pre fb [])(hpr:pre.rows= [])(hs:fE av s m w)(hst:fE (ES av s pre m fb [] w) st' m' w')(he:Ev pre (m.via fb []) w st' m' w')(hbl:st'.boxes.length=pre.boxes.length)
 (hfree: ∀(j:Nat) (x:c5),st'.boxes[j]?=some (some x)→jM x.cells=true) (hrow:st'.rows[k]?=some row):
 Ev s m w ⟨(s.over ⟨st'.boxes,[]⟩ fb []).boxes,s.rows++ [row]⟩ ⟨m.ρ,wB m.γ s.rows.length (m'.γ k)⟩ w'∧fE av ⟨(s.over ⟨st'.boxes,[]⟩ fb []).boxes,s.rows++ [row]⟩ ⟨m.ρ,wB m.γ s.rows.length (m'.γ k)⟩ w'∧
 (∀b o,b<w'.heap.size→jW (ES av s pre m fb [] w) st' m' b o→jW av ⟨(s.over ⟨st'.boxes,[]⟩ fb []).boxes,s.rows++ [row]⟩ ⟨m.ρ,wB m.γ s.rows.length (m'.γ k)⟩ b o):=by
 have pb: ∀(i j:Nat),fb[j]?=some i→ ∃(x y:c5),pre.boxes[j]?=some (some x)∧s.boxes[i]?=some (some y)∧fb.getD j 0=i∧m'.ρ j=m.ρ i∧ ∃x':c5,st'.boxes[j]?=some (some x'):=fun i j hj=>by
  obtain⟨x,hx⟩:=h.all j (by rw [← h.fbl];exact c4 hj)
  obtain⟨y,hy,-⟩:=h.box j x hx
  have e:fb.getD j 0=i:=by simp [List.getD_eq_getElem?_getD,hj]
  rw [e] at hy
  obtain⟨h1,h2⟩:=he.live j x hx
  exact⟨x,y,hx,hy,e,by rw [h2];show m.ρ (fb.getD j 0)=_;rw [e],h1⟩
 have ob: ∀(i:Nat) (z:c5),(s.over ⟨st'.boxes,[]⟩ fb []).boxes[i]?=some (some z)→(∃(j:Nat) (x:c5),fb[j]?=some i∧st'.boxes[j]?=some (some x)∧z=x.ren fb []∧i<s.boxes.length)∨(idx? fb i=none∧s.boxes[i]?=some (some z)):=fun i z hi=>NR (st':=⟨st'.boxes,[]⟩) hi
 have lv: ∀(i:Nat) (z:c5),(s.over ⟨st'.boxes,[]⟩ fb []).boxes[i]?=some (some z)→ ∃y:c5,s.boxes[i]?=some (some y):=fun i z hi=>by
  rcases ob i z hi with⟨j,x,h1,-⟩|⟨-,h2⟩
  ·obtain⟨-,y,-,hy,-⟩:=pb i j h1
   exact⟨y,hy⟩
  ·exact⟨z,h2⟩
 have hfresh: ∀g c,m'.γ k=some (g,c)→w.heap.size≤g:=fun g c hg=>by
  rcases he.rfresh k row g c hrow hg with⟨row0,c0,hr,-⟩|hf
  ·rw [hpr] at hr;simp at hr
  ·exact hf
 have rk: ∀(i:Nat) (z:n8) (g c:Nat),(s.rows++ [row])[i]?=some z→wB m.γ s.rows.length (m'.γ k) i=some (g,c)→(s.rows[i]?=some z∧m.γ i=some (g,c))∨(i=s.rows.length∧z=row∧m'.γ k=some (g,c)):=fun i z g c hi hg=>by
  rcases getElem?_snoc hi with⟨h1,h2⟩|⟨rfl,rfl⟩
  ·rw [dK (show i≠s.rows.length by omega)] at hg
   exact .inl ⟨h2,hg⟩
  ·simp only [b7] at hg
   exact .inr ⟨rfl,rfl,hg⟩
 have okk: ∀b o,b<w.heap.size→s.ok m b o→c3.ok ⟨(s.over ⟨st'.boxes,[]⟩ fb []).boxes,s.rows++ [row]⟩ ⟨m.ρ,wB m.γ s.rows.length (m'.γ k)⟩ b o:=fun b o hb hk=>by
  refine⟨fun i z hi=>?_,fun i z g c hi hg e=>?_⟩
  ·obtain⟨y,hy⟩:=lv i z hi
   exact hk.1 i y hy
  ·rcases rk i z g c hi hg with⟨h1,h2⟩|⟨-,-,h3⟩
   ·exact hk.2 i z g c h1 h2 e
   ·have:=hfresh g c h3;omega
 have ev:Ev s m w ⟨(s.over ⟨st'.boxes,[]⟩ fb []).boxes,s.rows++ [row]⟩ ⟨m.ρ,wB m.γ s.rows.length (m'.γ k)⟩ w':=by
  refine⟨he.os,he.tape,he.output,he.size,fun b hb h1 h2=>he.blk b hb (fun i x hi=>?_) (fun r row0 g c hr _=>?_),fun b o hb hk=>he.cell b o hb (h.ok (av:=fun _ _=>False) (w:=w) ⟨id,hk⟩).2,okk,fun i y hi=>⟨?_,rfl⟩,fun i z hi=> .inl (lv i z hi),fun i row0 hi=>⟨row0,?_,rfl,Nat.le_refl _,fun _=>?_,fun hw=>⟨hw,?_⟩⟩,fun i z g c hi hg=>?_⟩
  ·obtain⟨y,hy,-⟩:=h.box i x hi
   exact h1 _ y hy
  ·rw [hpr] at hr;simp at hr
  ·cases hq:idx? fb i with
   |none=>exact⟨y,by unfold c3.over;simp [List.getElem?_zipIdx,hi,hq]⟩
   |some j=>
    obtain⟨-,-,-,-,-,-,x',hx'⟩:=pb i j (idx?_some hq)
    exact⟨x'.ren fb [],by unfold c3.over;simp [List.getElem?_zipIdx,hi,hq,List.getD_eq_getElem?_getD,hx']⟩
  ·show(s.rows++ [row])[i]?=_
   rw [List.getElem?_append_left (c4 hi)];exact hi
  ·exact dK (by have:=c4 hi;omega)
  ·exact dK (by have:=c4 hi;omega)
  ·rcases rk i z g c hi hg with⟨h1,h2⟩|⟨-,-,h3⟩
   ·exact .inl ⟨z,c,h1,h2⟩
   ·exact .inr (hfresh g c h3)
 have back: ∀b o,b<w'.heap.size→jW (ES av s pre m fb [] w) st' m' b o→jW av ⟨(s.over ⟨st'.boxes,[]⟩ fb []).boxes,s.rows++ [row]⟩ ⟨m.ρ,wB m.γ s.rows.length (m'.γ k)⟩ b o:=fun b o _ hk=>by
  rcases Nat.lt_or_ge b w.heap.size with hlt|hge
  ·by_cases hA:jW av s m b o
   ·exact⟨hA.1,okk b o hlt hA.2⟩
   ·by_cases hB: ∃i x,pre.boxes[i]?=some (some x)∧m.ρ (fb.getD i 0)=b
    ·obtain⟨i,x,h1,h2⟩:=hB
     obtain⟨⟨x',h3⟩,h4⟩:=he.live i x h1
     exact absurd (h4.trans h2) (hk.2.1 i x' h3)
    ·exact absurd ⟨hlt,hA,fun i x h1 h2=>hB ⟨i,x,h1,h2⟩,fun r row0 g c h1 h2 h3=>by rw [hpr] at h1;simp at h1⟩ hk.1
  ·refine⟨fun ho=>by have:=hs.avlt _ _ ho;omega,fun i z hi=>?_,fun i z g c hi hg e=>?_⟩
   ·obtain⟨y,hy⟩:=lv i z hi
    have:=hs.box_lt hy
    show m.ρ i≠b
    omega
   ·rcases rk i z g c hi hg with⟨h1,h2⟩|⟨-,rfl,h3⟩
    ·have:=hs.row_lt h1 h2
     omega
    ·exact hk.2.2 k _ g c hrow h3 e
 refine⟨ev,⟨fun i z hi=>?_,fun i i' z z' hi hi' hne=>?_,fun i z hi=>?_,fun i i' z z' g c c' hi hi' hg hg'=>?_,fun i z r row0 g c hi hr hg=>?_,fun b o hb=>Nat.lt_of_lt_of_le (hs.avlt b o hb) he.size,fun i z g c hi hg o ho=>?_,fun i z hi=>by obtain⟨y,hy⟩:=lv i z hi;exact hs.avb i y hy⟩,back⟩
 ·rcases ob i z hi with⟨j,x,h1,h2,rfl,-⟩|⟨h1,h2⟩
  ·obtain⟨-,-,-,-,-,h4,-⟩:=pb i j h1
   obtain⟨vs,k1,k2⟩:=hst.box j x h2
   refine⟨vs,?_,?_⟩
   ·show UZ w' (m.ρ i) _ _
    rw [← h4]
    exact k1
   ·show gG _ _ _ _ (AQ fb [] x.cells) vs
    rw [jM.ren _ (hfree j x h2)]
    exact jM.rv back _ _ (hfree j x h2) k2
  ·obtain⟨vs,k1,k2⟩:=hs.box i z h2
   refine⟨vs,k1.keep (he.blk _ k1.lt (fun j x hj=>?_) (fun r row0 g c hr _=>?_)),gG.mono ev _ _ k2⟩
   ·obtain⟨y,hy,-⟩:=h.box j x hj
    have hj':=pE (l:=fb) (k:=j) (by rw [h.fbl];exact c4 hj)
    exact hs.binj _ _ y z hy h2 (fun e=>idx?_none h1 j (by rw [hj',e]))
   ·rw [hpr] at hr;simp at hr
 ·obtain⟨y,hy⟩:=lv i z hi
  obtain⟨y',hy'⟩:=lv i' z' hi'
  exact hs.binj i i' y y' hy hy' hne
 ·rcases getElem?_snoc hi with⟨h1,h2⟩|⟨rfl,rfl⟩
  ·obtain⟨k1,k2,k3⟩:=hs.row i z h2
   refine⟨k1,k2,?_⟩
   simp only [dK (show i≠s.rows.length by omega)]
   rcases k3 with k3|⟨g,c,cur,q1,q2,q3,q4,q5,q6⟩
   ·exact .inl k3
   ·refine .inr ⟨g,c,cur,q1,(he.blk g q2.lt (fun j x hj e=>?_) (fun r row0 g' c' hr _=>?_)).trans q2,q3,q4,q5,RV.mono ev (.t _) _ q6⟩
    ·obtain⟨y,hy,-⟩:=h.box j x hj
     exact hs.br _ y i z g c hy h2 q1 e
    ·rw [hpr] at hr;simp at hr
  ·obtain⟨k1,k2,k3⟩:=hst.row k _ hrow
   refine⟨k1,k2,?_⟩
   simp only [b7]
   rcases k3 with k3|⟨g,c,cur,q1,q2,q3,q4,q5,q6⟩
   ·exact .inl k3
   ·exact .inr ⟨g,c,cur,q1,q2,q3,q4,q5,cF.mono q6 (Nat.le_refl _) back (fun _ _ _ _=>rfl)⟩
 ·rcases rk i z g c hi hg with⟨h1,h2⟩|⟨h1,-,h3⟩<;>rcases rk i' z' g c' hi' hg' with⟨h1',h2'⟩|⟨h1',-,h3'⟩
  ·exact hs.rinj i i' z z' g c c' h1 h1' h2 h2'
  ·have:=hs.row_lt h1 h2
   have:=hfresh g c' h3'
   omega
  ·have:=hs.row_lt h1' h2'
   have:=hfresh g c h3
   omega
  ·omega
 ·obtain⟨y,hy⟩:=lv i z hi
  rcases rk r row0 g c hr hg with⟨h1,h2⟩|⟨-,-,h3⟩
  ·exact hs.br i y r row0 g c hy h1 h2
  ·have:=hs.box_lt hy
   have:=hfresh g c h3
   show m.ρ i≠g
   omega
 ·rcases rk i z g c hi hg with⟨h1,h2⟩|⟨-,-,h3⟩
  ·exact hs.avr i z g c h1 h2 o ho
  ·have:=hs.avlt _ _ ho
   have:=hfresh g c h3
   omega
end
def m9:List (Option c5)→Bool
 | []=>true
 |none::l=>m9 l
 |some x::l=>jM x.cells&&m9 l
theorem m9.get: ∀ {l:List (Option c5)} {j:Nat} {x:c5},m9 l=true→l[j]?=some (some x)→jM x.cells=true
 | [],_,_,_,h=>by simp at h
 |none::l,0,_,_,h=>by simp at h
 |none::l,j+1,x,hf,h=>m9.get (l:=l) (j:=j) hf (by simpa using h)
 |some y::l,0,x,hf,h=>by
  simp at h
  subst h
  simp only [m9,Bool.and_eq_true] at hf
  exact hf.1
 |some y::l,j+1,x,hf,h=>by
  simp only [m9,Bool.and_eq_true] at hf
  exact m9.get (l:=l) (j:=j) hf.2 (by simpa using h)
def RQ(P:Program)(f:FuncId)(args:List PV)(pre:c3)(B:List (Option c5))(E:TypeId)(sz:Nat)(es:List (List Tr))(R:Nat→PV):Prop:=
 cY P f args pre (fun r t=> ∃k,r=R k∧t.boxes=B∧t.rows[k]?=some ⟨E,sz,es,false⟩)
theorem wH.refl{st:c3}: ∀ {B:List (Option c5)},(∀x,some x∈B→l0 st x.cells=true)→wH st B B
 | [],_=>trivial
 |none::B,h=>wH.refl (B:=B) fun x hx=>h x (List.mem_cons_of_mem _ hx)
 |some x::B,h=>⟨⟨rfl,rQ.refl _,h x (by simp)⟩,wH.refl (B:=B) fun y hy=>h y (List.mem_cons_of_mem _ hy)⟩
def MK(st:c3)(B:List (Option c5)):Bool:=B.all fun x=>match x with
 |none=>true
 |some x=>l0 st x.cells
theorem MK.mem{st:c3}{B:List (Option c5)}(h:MK st B=true)(x:c5)(hx:some x∈B):l0 st x.cells=true:=by
 have:=List.all_eq_true.1 h _ hx
 exact this
theorem RQ.plain{P:Program}{f:FuncId}{args:List PV}{pre:c3}{B:List (Option c5)}{E:TypeId}{sz:Nat}{es:List (List Tr)}{R:Nat→PV}{D:PV}(h:RQ P f args pre B E sz es R)(hle: ∀k,PV.Le (R k) D)(hk:PV.okIn ⟨B,[]⟩ D=true:=by exact rfl)(hb:MK ⟨B,[]⟩ B=true:=by exact rfl)(hp:lC pre ⟨B,[]⟩):cY P f args pre (fun q t=>q=D∧t=⟨B,[]⟩):=fun av m w vals hst hv=>by
 refine(h av m w vals hst hv).mono fun e w'=>?_;rintro⟨r,st',m',v,k1,⟨k,rfl,rfl,-⟩,k3,k4,k5⟩
 have hl:nH st' ⟨st'.boxes,[]⟩:=nH.mk' (wH.refl (MK.mem hb)) rfl
 exact⟨D,⟨st'.boxes,[]⟩,m',v,k1,⟨rfl,rfl⟩,hl.sto k3,hl.ev k4 hp,hl.rv D _ hk ((hle k).rv k5)⟩
theorem ah4{st:c3}:lC ⟨[],[]⟩ st:=lC.nil
section
variable {P:Program} {C:oZ} {n:Nat} {s:AS} {o:Oper}
theorem aV.callOwn{f:FuncId}{fn:Func}{xs:List Operand}{ts:Array TypeId}{ps qs:List PV}{pre S:c3}{B:List (Option c5)}{E:TypeId}{sz:Nat}{es:List (List Tr)}{R:Nat→PV}(fb:List Nat)(ho:o.op= .call { callee:= .value (.func f),args:=⟨xs⟩,argTypes:=ts })(hd:bQ o.dst n=true)(hf:P.funcs[f]?=some fn)(hnm:(fn.name== "runtime.NumGoroutine")=false)(hb:fn.body.isNone=false)
 (hx:xs.map s.ev=ps.map some) (hS:s.st=S) (hp:mW S pre fb []) (hpr:pre.rows= []) (hle:rQ ps (AQ fb [] qs)) (hok:l0 pre qs=true) (hbl:B.length=pre.boxes.length) (hfree:m9 B=true) (hR: ∀k k',Mv sz es k k' (R k) (R k')) (hc:RQ P f qs pre B E sz es R):
 aV P C n o s ((⟨s.env,⟨(S.over ⟨B,[]⟩ fb []).boxes,S.rows++ [⟨E,sz,es,false⟩]⟩⟩:AS).putO o.dst (R S.rows.length)):=fun m a w h K Q hK=>by
 subst hS
 have h2:=evL h hx
 have h1:(execOp a.eval o).run P w= .ok (.enter f ⟨xs.map a.eval⟩) w:=by
  have hcf:=kT (P:=P) hf hnm hb
  unfold execOp
  simp only [ho]
  simp [resolve,invoke,Deferred.ofValue,Act.eval,hcf]
 unfold Oper.wp
 rw [h1]
 have h3:=hc (ES C.av s.st pre m fb [] w) (m.via fb []) w _ (hp.sto h.sto) (gG.unren hp (fun b o _ k=>hp.ok k) _ _ hok (rQ.rv hle h2))
 refine Calls.mono h3 fun e w'=>?_;rintro⟨r,st',m',v,rfl,⟨k,rfl,rfl,hrow⟩,h4,h5,h6⟩
 obtain⟨k1,k2,k3⟩:=ae5 hp hpr h.sto h4 h5 hbl (fun j x hj=>m9.get hfree hj) hrow
 refine hK _ _ w' ((h.step k1 k2).put (cX hd) (Mv.rv k3 (fun row hr=>?_) (hR k s.st.rows.length) h6))
 rw [hrow] at hr
 obtain rfl:=Option.some.inj hr
 exact⟨by simp,by simp only [b7]⟩
end
end Go.Proofs.YtpioomclpaiomaaGreat

namespace Go.Proofs.YtpioomclpaiomaaGreat
set_option linter.unusedSimpArgs false
set_option linter.unusedVariables false
open Go.RowKit Go.WalkArith Go.IntWalk Go.WideShapes
def qH(P:Program)(T f:Nat):Option (Nat×Bool×Nat):=
 match P.underlying T with
 |some (.struct fs)=>match fs[f]? with
  |some fd=>(b8 P fd.type).map fun x=>(fd.offset,x.1,x.2)
  |none=>none
 |_=>none
theorem qH.spec{P:Program}{T f e z:Nat}{b:Bool}(h:qH P T f=some (e,b,z)): ∃fs fd,P.underlying T=some (.struct fs)∧fs[f]?=some fd∧b8 P fd.type=some (b,z)∧fd.offset=e:=by
 unfold qH at h
 split at h
 ·rename_i fs hu
  split at h
  ·rename_i fd hf
   cases hs:b8 P fd.type with
   |none=>simp [hs] at h
   |some x=>
    obtain⟨b',z'⟩:=x
    simp only [hs,Option.map_some,Option.some.injEq,Prod.mk.injEq] at h
    obtain⟨h1,rfl,rfl⟩:=h
    exact⟨fs,fd,hu,hf,hs,h1⟩
  ·cases h
 ·cases h
section
variable {P:Program} {C:oZ} {n:Nat} {s:AS} {o:Oper}
theorem aV.field1{T:TypeId}{x:Operand}{f e z:Nat}{cs:List PV}{p:PV}(ho:o.op= .field T x f)(hd:bQ o.dst n=true)(hx:s.ev x=some (.agg cs))(hf:qH P T f=some (e,false,z))(hc:cs[e]?=some p):aV P C n o s (s.putO o.dst p):=
 aV.quiet (cX hd) fun m a w h=>by
  obtain⟨vs,h1,h2⟩:=h.eval hx
  obtain⟨fs,fd,hu,hfd,hs,rfl⟩:=qH.spec hf
  obtain⟨v,hv,hr⟩:=h2.get hc
  refine⟨v,?_,hr⟩
  unfold execOp
  simp [ho,h1,Instr.field,Sem.run_bind,run_underlying hu,hfd,asAgg,part,CX hs,hv]
end
end Go.Proofs.YtpioomclpaiomaaGreat

namespace Go.Proofs.YtpioomclpaiomaaGreat
open Go.RowKit Go.Proofs
theorem jQ:b8 Tryz.prog 3=some (false,1):=by kernel_rfl
theorem sz3:(Tryz.prog.info? 3).map (·.size)=some 1:=by kernel_rfl
theorem sh4:b8 Tryz.prog 4=some (false,1):=by kernel_rfl
theorem sz4:(Tryz.prog.info? 4).map (·.size)=some 1:=by kernel_rfl
theorem sh5:b8 Tryz.prog 5=some (false,1):=by kernel_rfl
theorem zr5:cW Tryz.prog 5=some [.t (.leaf (.int .u8 0))]:=by kernel_rfl
theorem fB:b8 Tryz.prog 9=some (false,1):=by kernel_rfl
theorem sz9:(Tryz.prog.info? 9).map (·.size)=some 1:=by kernel_rfl
theorem lA:cW Tryz.prog 9=some [.t (.leaf (.string ⟨#[]⟩))]:=by kernel_rfl
theorem ajE:b8 Tryz.prog 22=some (false,1):=by kernel_rfl
theorem VI:elemOf? Tryz.prog 22=some (5,1,1):=by kernel_rfl
theorem BX:b8 Tryz.prog 24=some (false,1):=by kernel_rfl
theorem ajG:(Tryz.prog.info? 24).map (·.size)=some 1:=by kernel_rfl
theorem xW:elemOf? Tryz.prog 24=some (131,6,136):=by kernel_rfl
theorem ajM:(Tryz.prog.info? 131).bind (fun i=>i.zero.map (fun z=>z.cells.size))=some 6:=by kernel_rfl
theorem qC:b8 Tryz.prog 26=some (true,1):=by kernel_rfl
theorem L3:(Tryz.prog.info? 26).map (·.size)=some 1:=by kernel_rfl
theorem L5:cW Tryz.prog 26=some [.nil]:=by kernel_rfl
theorem aiB:fZ Tryz.prog 26=some [(0,1)]:=by kernel_rfl
theorem adF:b8 Tryz.prog 27=some (false,1):=by kernel_rfl
theorem aiK:(Tryz.prog.info? 27).map (·.size)=some 1:=by kernel_rfl
theorem BB:elemOf? Tryz.prog 27=some (37,4,64):=by kernel_rfl
theorem ajN:(Tryz.prog.info? 37).bind (fun i=>i.zero.map (fun z=>z.cells.size))=some 4:=by kernel_rfl
theorem l5:b8 Tryz.prog 33=some (false,1):=by kernel_rfl
theorem ajH:(Tryz.prog.info? 33).map (·.size)=some 1:=by kernel_rfl
theorem dX:elemOf? Tryz.prog 33=some (35,3,48):=by kernel_rfl
theorem af5:(Tryz.prog.info? 35).bind (fun i=>i.zero.map (fun z=>z.cells.size))=some 3:=by kernel_rfl
theorem cH:b8 Tryz.prog 35=some (true,3):=by kernel_rfl
theorem hQ:(Tryz.prog.info? 35).map (·.size)=some 3:=by kernel_rfl
theorem gV:cW Tryz.prog 35=some [.t (.leaf (.int .i64 0)),.t (.leaf (.string ⟨#[]⟩)),.nil]:=by kernel_rfl
theorem zP:fZ Tryz.prog 35=some [(0,1),(1,1),(2,1)]:=by kernel_rfl
theorem ajY:b8 Tryz.prog 37=some (true,4):=by kernel_rfl
theorem PI:cW Tryz.prog 37=some [.t (.leaf (.string ⟨#[]⟩)),.t (.leaf (.int .i64 0)),.t (.leaf (.string ⟨#[]⟩)),.nil]:=by kernel_rfl
theorem ae8:fZ Tryz.prog 37=some [(0,1),(1,3)]:=by kernel_rfl
theorem lK:b8 Tryz.prog 38=some (false,1):=by kernel_rfl
theorem L4:(Tryz.prog.info? 38).map (·.size)=some 1:=by kernel_rfl
theorem b3:elemOf? Tryz.prog 38=some (9,1,16):=by kernel_rfl
theorem rT:(Tryz.prog.info? 9).bind (fun i=>i.zero.map (fun z=>z.cells.size))=some 1:=by kernel_rfl
theorem m5:b8 Tryz.prog 45=some (true,2):=by kernel_rfl
theorem afZ:(Tryz.prog.info? 45).map (·.size)=some 2:=by kernel_rfl
theorem AE:cW Tryz.prog 45=some [.t (.leaf (.int .i64 0)),.t (.leaf (.int .i64 0))]:=by kernel_rfl
theorem aiC:fZ Tryz.prog 45=some [(0,1),(1,1)]:=by kernel_rfl
theorem nJ:elemOf? Tryz.prog 48=some (45,2,16):=by kernel_rfl
theorem aeH:(Tryz.prog.info? 45).bind (fun i=>i.zero.map (fun z=>z.cells.size))=some 2:=by kernel_rfl
theorem ZJ:b8 Tryz.prog 53=some (false,1):=by kernel_rfl
theorem aj1:(Tryz.prog.info? 53).map (·.size)=some 1:=by kernel_rfl
theorem R7:elemOf? Tryz.prog 53=some (161,11,184):=by kernel_rfl
theorem aj3:(Tryz.prog.info? 161).bind (fun i=>i.zero.map (fun z=>z.cells.size))=some 11:=by kernel_rfl
theorem pA:b8 Tryz.prog 55=some (true,12):=by kernel_rfl
theorem rR:(Tryz.prog.info? 55).map (·.size)=some 12:=by kernel_rfl
theorem tU:cW Tryz.prog 55=some [.t (.leaf (.string ⟨#[]⟩)),.nil,.t (.leaf (.int .i64 0)),.t (.leaf (.string ⟨#[]⟩)),.nil,.nil,.t (.leaf (.bool false)),.t (.leaf (.bool false)),.t (.leaf (.int .i64 0)),.t (.leaf (.string ⟨#[]⟩)),.nil,.nil]:=by kernel_rfl
theorem NS:fZ Tryz.prog 55=some [(0,1),(1,1),(2,3),(5,1),(6,1),(7,1),(8,3),(11,1)]:=by kernel_rfl
theorem EG:b8 Tryz.prog 58=some (false,1):=by kernel_rfl
theorem af0:(Tryz.prog.info? 58).map (·.size)=some 1:=by kernel_rfl
theorem uO:elemOf? Tryz.prog 58=some (164,16,264):=by kernel_rfl
theorem af6:(Tryz.prog.info? 164).bind (fun i=>i.zero.map (fun z=>z.cells.size))=some 16:=by kernel_rfl
theorem sP:b8 Tryz.prog 60=some (true,5):=by kernel_rfl
theorem AX:(Tryz.prog.info? 60).map (·.size)=some 5:=by kernel_rfl
theorem EI:cW Tryz.prog 60=some [.t (.leaf (.string ⟨#[]⟩)),.nil,.t (.leaf (.bool false)),.t (.leaf (.bool false)),.nil]:=by kernel_rfl
theorem ZB:fZ Tryz.prog 60=some [(0,1),(1,1),(2,1),(3,1),(4,1)]:=by kernel_rfl
theorem K8:elemOf? Tryz.prog 69=some (171,4,64):=by kernel_rfl
theorem ajO:(Tryz.prog.info? 171).bind (fun i=>i.zero.map (fun z=>z.cells.size))=some 4:=by kernel_rfl
theorem uD:b8 Tryz.prog 84=some (false,1):=by kernel_rfl
theorem nK:elemOf? Tryz.prog 84=some (87,9,144):=by kernel_rfl
theorem ajP:(Tryz.prog.info? 87).bind (fun i=>i.zero.map (fun z=>z.cells.size))=some 9:=by kernel_rfl
theorem rN:b8 Tryz.prog 85=some (false,1):=by kernel_rfl
theorem aj2:(Tryz.prog.info? 85).map (·.size)=some 1:=by kernel_rfl
theorem pP:elemOf? Tryz.prog 85=some (92,11,184):=by kernel_rfl
theorem aj4:(Tryz.prog.info? 92).bind (fun i=>i.zero.map (fun z=>z.cells.size))=some 11:=by kernel_rfl
theorem hP:b8 Tryz.prog 87=some (true,9):=by kernel_rfl
theorem pC:(Tryz.prog.info? 87).map (·.size)=some 9:=by kernel_rfl
theorem kG:cW Tryz.prog 87=some [.t (.leaf (.int .i64 0)),.t (.leaf (.string ⟨#[]⟩)),.t (.leaf (.string ⟨#[]⟩)),.t (.leaf (.int .i64 0)),.t (.leaf (.int .i64 0)),.t (.leaf (.string ⟨#[]⟩)),.nil,.nil,.nil]:=by kernel_rfl
theorem vS:fZ Tryz.prog 87=some [(0,1),(1,1),(2,1),(3,1),(4,3),(7,1),(8,1)]:=by kernel_rfl
theorem agS:b8 Tryz.prog 92=some (true,11):=by kernel_rfl
theorem ag0:(Tryz.prog.info? 92).map (·.size)=some 11:=by kernel_rfl
theorem UY:cW Tryz.prog 92=some [.t (.leaf (.string ⟨#[]⟩)),.nil,.t (.leaf (.int .i64 0)),.t (.leaf (.string ⟨#[]⟩)),.t (.leaf (.string ⟨#[]⟩)),.t (.leaf (.int .i64 0)),.t (.leaf (.int .i64 0)),.t (.leaf (.string ⟨#[]⟩)),.nil,.nil,.nil]:=by kernel_rfl
theorem agN:fZ Tryz.prog 92=some [(0,1),(1,1),(2,9)]:=by kernel_rfl
theorem wR:b8 Tryz.prog 114=some (false,1):=by kernel_rfl
theorem ahH:(Tryz.prog.info? 114).map (·.size)=some 1:=by kernel_rfl
theorem uF:elemOf? Tryz.prog 114=some (195,2,40):=by kernel_rfl
theorem ajL:(Tryz.prog.info? 195).bind (fun i=>i.zero.map (fun z=>z.cells.size))=some 2:=by kernel_rfl
theorem rM:b8 Tryz.prog 116=some (true,3):=by kernel_rfl
theorem AK:(Tryz.prog.info? 116).map (·.size)=some 3:=by kernel_rfl
theorem AM:cW Tryz.prog 116=some [.t (.leaf (.string ⟨#[]⟩)),.nil,.nil]:=by kernel_rfl
theorem VU:fZ Tryz.prog 116=some [(0,1),(1,1),(2,1)]:=by kernel_rfl
theorem OI:b8 Tryz.prog 126=some (false,1):=by kernel_rfl
theorem ahI:(Tryz.prog.info? 126).map (·.size)=some 1:=by kernel_rfl
theorem G0:elemOf? Tryz.prog 126=some (60,5,72):=by kernel_rfl
theorem ahP:(Tryz.prog.info? 60).bind (fun i=>i.zero.map (fun z=>z.cells.size))=some 5:=by kernel_rfl
theorem HY:b8 Tryz.prog 127=some (false,1):=by kernel_rfl
theorem ahJ:(Tryz.prog.info? 127).map (·.size)=some 1:=by kernel_rfl
theorem A9:elemOf? Tryz.prog 127=some (116,3,64):=by kernel_rfl
theorem ahQ:(Tryz.prog.info? 116).bind (fun i=>i.zero.map (fun z=>z.cells.size))=some 3:=by kernel_rfl
theorem BW:b8 Tryz.prog 128=some (false,1):=by kernel_rfl
theorem ahK:(Tryz.prog.info? 128).map (·.size)=some 1:=by kernel_rfl
theorem xV:elemOf? Tryz.prog 128=some (55,12,192):=by kernel_rfl
theorem ahR:(Tryz.prog.info? 55).bind (fun i=>i.zero.map (fun z=>z.cells.size))=some 12:=by kernel_rfl
theorem OJ:b8 Tryz.prog 129=some (false,1):=by kernel_rfl
theorem ahL:(Tryz.prog.info? 129).map (·.size)=some 1:=by kernel_rfl
theorem G1:elemOf? Tryz.prog 129=some (148,16,280):=by kernel_rfl
theorem ahS:(Tryz.prog.info? 148).bind (fun i=>i.zero.map (fun z=>z.cells.size))=some 16:=by kernel_rfl
theorem o5:b8 Tryz.prog 131=some (true,6):=by kernel_rfl
theorem tT:(Tryz.prog.info? 131).map (·.size)=some 6:=by kernel_rfl
theorem rP:cW Tryz.prog 131=some [.t (.leaf (.string ⟨#[]⟩)),.nil,.nil,.nil,.nil,.nil]:=by kernel_rfl
theorem EO:fZ Tryz.prog 131=some [(0,1),(1,1),(2,1),(3,1),(4,1),(5,1)]:=by kernel_rfl
theorem KT:b8 Tryz.prog 146=some (false,1):=by kernel_rfl
theorem ahM:(Tryz.prog.info? 146).map (·.size)=some 1:=by kernel_rfl
theorem BA:elemOf? Tryz.prog 146=some (226,4,64):=by kernel_rfl
theorem ahT:(Tryz.prog.info? 226).bind (fun i=>i.zero.map (fun z=>z.cells.size))=some 4:=by kernel_rfl
theorem pJ:b8 Tryz.prog 148=some (true,16):=by kernel_rfl
theorem yZ:(Tryz.prog.info? 148).map (·.size)=some 16:=by kernel_rfl
theorem AN:cW Tryz.prog 148=some [.t (.leaf (.string ⟨#[]⟩)),.nil,.nil,.nil,.t (.leaf (.int .i64 0)),.t (.leaf (.string ⟨#[]⟩)),.nil,.t (.leaf (.int .i64 0)),.t (.leaf (.string ⟨#[]⟩)),.t (.leaf (.string ⟨#[]⟩)),.t (.leaf (.int .i64 0)),.t (.leaf (.int .i64 0)),.t (.leaf (.string ⟨#[]⟩)),.nil,.nil,.nil]:=by kernel_rfl
theorem VV:fZ Tryz.prog 148=some [(0,1),(1,1),(2,1),(3,1),(4,3),(7,9)]:=by kernel_rfl
theorem ahU:cW Tryz.prog 151=some [.nil,.t (.leaf (.int .i64 0)),.t (.leaf (.int .i64 0))]:=by kernel_rfl
theorem ahD:fZ Tryz.prog 151=some [(0,1),(1,1),(2,1)]:=by kernel_rfl
theorem ahG:b8 Tryz.prog 161=some (true,11):=by kernel_rfl
theorem ahN:(Tryz.prog.info? 161).map (·.size)=some 11:=by kernel_rfl
theorem RO:cW Tryz.prog 161=some [.t (.leaf (.string ⟨#[]⟩)),.nil,.t (.leaf (.int .i64 0)),.t (.leaf (.string ⟨#[]⟩)),.t (.leaf (.string ⟨#[]⟩)),.t (.leaf (.int .i64 0)),.t (.leaf (.int .i64 0)),.t (.leaf (.string ⟨#[]⟩)),.nil,.nil,.nil]:=by kernel_rfl
theorem ahE:fZ Tryz.prog 161=some [(0,1),(1,1),(2,9)]:=by kernel_rfl
theorem V4:b8 Tryz.prog 164=some (true,16):=by kernel_rfl
theorem ahO:(Tryz.prog.info? 164).map (·.size)=some 16:=by kernel_rfl
theorem w6:cW Tryz.prog 164=some [.t (.leaf (.string ⟨#[]⟩)),.nil,.t (.leaf (.int .i64 0)),.t (.leaf (.string ⟨#[]⟩)),.nil,.t (.leaf (.bool false)),.nil,.t (.leaf (.int .i64 0)),.t (.leaf (.string ⟨#[]⟩)),.t (.leaf (.string ⟨#[]⟩)),.t (.leaf (.int .i64 0)),.t (.leaf (.int .i64 0)),.t (.leaf (.string ⟨#[]⟩)),.nil,.nil,.nil]:=by kernel_rfl
theorem ab3:fZ Tryz.prog 164=some [(0,1),(1,1),(2,3),(5,1),(6,1),(7,9)]:=by kernel_rfl
theorem ajD:b8 Tryz.prog 171=some (true,4):=by kernel_rfl
theorem ajF:(Tryz.prog.info? 171).map (·.size)=some 4:=by kernel_rfl
theorem KY:cW Tryz.prog 171=some [.t (.leaf (.string ⟨#[]⟩)),.t (.leaf (.int .i64 0)),.t (.leaf (.string ⟨#[]⟩)),.nil]:=by kernel_rfl
theorem ahF:fZ Tryz.prog 171=some [(0,1),(1,3)]:=by kernel_rfl
theorem YC:cW Tryz.prog 195=some [.t (.leaf (.string ⟨#[]⟩)),.nil]:=by kernel_rfl
theorem ae6:fZ Tryz.prog 195=some [(0,1),(1,1)]:=by kernel_rfl
theorem RP:cW Tryz.prog 226=some [.t (.leaf (.string ⟨#[]⟩)),.t (.leaf (.int .i64 0)),.t (.leaf (.string ⟨#[]⟩)),.nil]:=by kernel_rfl
theorem ae7:fZ Tryz.prog 226=some [(0,1),(1,3)]:=by kernel_rfl
theorem cQ:b8 Tryz.prog 235=some (false,1):=by kernel_rfl
theorem w5:(Tryz.prog.info? 235).map (·.size)=some 1:=by kernel_rfl
theorem bE:elemOf? Tryz.prog 235=some (237,2,40):=by kernel_rfl
theorem o6:(Tryz.prog.info? 237).bind (fun i=>i.zero.map (fun z=>z.cells.size))=some 2:=by kernel_rfl
theorem bN:b8 Tryz.prog 237=some (true,2):=by kernel_rfl
theorem eA:(Tryz.prog.info? 237).map (·.size)=some 2:=by kernel_rfl
theorem b6:cW Tryz.prog 237=some [.t (.leaf (.string ⟨#[]⟩)),.nil]:=by kernel_rfl
theorem l3:fZ Tryz.prog 237=some [(0,1),(1,1)]:=by kernel_rfl
theorem ajQ:cW Tryz.prog 250=some [.t (.leaf (.string ⟨#[]⟩)),.t (.leaf (.int .i64 0)),.t (.leaf (.int .i64 0)),.t (.leaf (.int .i64 0)),.t (.leaf (.bool false))]:=by kernel_rfl
theorem ai9:fZ Tryz.prog 250=some [(0,1),(1,1),(2,1),(3,1),(4,1)]:=by kernel_rfl
theorem mB:bB Tryz.prog 26 0=some 0:=by kernel_rfl
theorem lD:bB Tryz.prog 35 0=some 0:=by kernel_rfl
theorem jT:bB Tryz.prog 35 1=some 1:=by kernel_rfl
theorem fV:bB Tryz.prog 35 2=some 2:=by kernel_rfl
theorem aeX:bB Tryz.prog 37 0=some 0:=by kernel_rfl
theorem M9:bB Tryz.prog 37 1=some 1:=by kernel_rfl
theorem rZ:bB Tryz.prog 45 0=some 0:=by kernel_rfl
theorem IT:bB Tryz.prog 45 1=some 1:=by kernel_rfl
theorem zF:bB Tryz.prog 55 0=some 0:=by kernel_rfl
theorem r6:bB Tryz.prog 55 1=some 1:=by kernel_rfl
theorem nL:bB Tryz.prog 55 2=some 2:=by kernel_rfl
theorem IU:bB Tryz.prog 55 3=some 5:=by kernel_rfl
theorem aeY:bB Tryz.prog 55 4=some 6:=by kernel_rfl
theorem IV:bB Tryz.prog 55 5=some 7:=by kernel_rfl
theorem IW:bB Tryz.prog 55 6=some 8:=by kernel_rfl
theorem BC:bB Tryz.prog 55 7=some 11:=by kernel_rfl
theorem FH:bB Tryz.prog 60 0=some 0:=by kernel_rfl
theorem zG:bB Tryz.prog 60 1=some 1:=by kernel_rfl
theorem YZ:bB Tryz.prog 60 2=some 2:=by kernel_rfl
theorem aeZ:bB Tryz.prog 60 3=some 3:=by kernel_rfl
theorem lE:bB Tryz.prog 60 4=some 4:=by kernel_rfl
theorem pQ:bB Tryz.prog 87 0=some 0:=by kernel_rfl
theorem IX:bB Tryz.prog 87 1=some 1:=by kernel_rfl
theorem nU:bB Tryz.prog 87 2=some 2:=by kernel_rfl
theorem BD:bB Tryz.prog 87 3=some 3:=by kernel_rfl
theorem vJ:bB Tryz.prog 87 4=some 4:=by kernel_rfl
theorem jJ:bB Tryz.prog 87 5=some 7:=by kernel_rfl
theorem gS:bB Tryz.prog 87 6=some 8:=by kernel_rfl
theorem BE:bB Tryz.prog 92 0=some 0:=by kernel_rfl
theorem BF:bB Tryz.prog 92 1=some 1:=by kernel_rfl
theorem IY:bB Tryz.prog 92 2=some 2:=by kernel_rfl
theorem R9:bB Tryz.prog 116 0=some 0:=by kernel_rfl
theorem G3:bB Tryz.prog 116 1=some 1:=by kernel_rfl
theorem lT:bB Tryz.prog 116 2=some 2:=by kernel_rfl
theorem SA:bB Tryz.prog 131 0=some 0:=by kernel_rfl
theorem L9:bB Tryz.prog 131 1=some 1:=by kernel_rfl
theorem uP:bB Tryz.prog 131 2=some 2:=by kernel_rfl
theorem qZ:bB Tryz.prog 131 3=some 3:=by kernel_rfl
theorem oA:bB Tryz.prog 131 4=some 4:=by kernel_rfl
theorem uQ:bB Tryz.prog 131 5=some 5:=by kernel_rfl
theorem MA:bB Tryz.prog 148 0=some 0:=by kernel_rfl
theorem G4:bB Tryz.prog 148 1=some 1:=by kernel_rfl
theorem SB:bB Tryz.prog 148 2=some 2:=by kernel_rfl
theorem s5:bB Tryz.prog 148 3=some 3:=by kernel_rfl
theorem SC:bB Tryz.prog 148 4=some 4:=by kernel_rfl
theorem SD:bB Tryz.prog 148 5=some 7:=by kernel_rfl
theorem abS:bB Tryz.prog 151 0=some 0:=by kernel_rfl
theorem MB:bB Tryz.prog 151 1=some 1:=by kernel_rfl
theorem MC:bB Tryz.prog 151 2=some 2:=by kernel_rfl
theorem abT:bB Tryz.prog 161 0=some 0:=by kernel_rfl
theorem G5:bB Tryz.prog 161 1=some 1:=by kernel_rfl
theorem SE:bB Tryz.prog 161 2=some 2:=by kernel_rfl
theorem SF:bB Tryz.prog 164 0=some 0:=by kernel_rfl
theorem MD:bB Tryz.prog 164 1=some 1:=by kernel_rfl
theorem ME:bB Tryz.prog 164 2=some 2:=by kernel_rfl
theorem G6:bB Tryz.prog 164 3=some 5:=by kernel_rfl
theorem CN:bB Tryz.prog 164 4=some 6:=by kernel_rfl
theorem MF:bB Tryz.prog 164 5=some 7:=by kernel_rfl
theorem abU:bB Tryz.prog 171 0=some 0:=by kernel_rfl
theorem abV:bB Tryz.prog 171 1=some 1:=by kernel_rfl
theorem MG:bB Tryz.prog 195 0=some 0:=by kernel_rfl
theorem G7:bB Tryz.prog 195 1=some 1:=by kernel_rfl
theorem abW:bB Tryz.prog 226 0=some 0:=by kernel_rfl
theorem abX:bB Tryz.prog 226 1=some 1:=by kernel_rfl
theorem e6:bB Tryz.prog 237 0=some 0:=by kernel_rfl
theorem bD:bB Tryz.prog 237 1=some 1:=by kernel_rfl
theorem kO:bB Tryz.prog 250 0=some 0:=by kernel_rfl
theorem e7:bB Tryz.prog 250 1=some 1:=by kernel_rfl
theorem G8:bB Tryz.prog 250 2=some 2:=by kernel_rfl
theorem SG:bB Tryz.prog 250 3=some 3:=by kernel_rfl
theorem CO:bB Tryz.prog 250 4=some 4:=by kernel_rfl
theorem q7:qH Tryz.prog 237 0=some (0,false,1):=by kernel_rfl
theorem SH:qH Tryz.prog 237 1=some (1,false,1):=by kernel_rfl
theorem ab2:Tryz.prog.follows .mixedOrders=true:=by kernel_rfl
end Go.Proofs.YtpioomclpaiomaaGreat

namespace Go.Proofs.YtpioomclpaiomaaGreat
open Go.RowKit Go.Proofs
set_option linter.unusedSimpArgs false
set_option linter.unusedVariables false
set_option maxRecDepth 100000 in
set_option maxHeartbeats 4000000 in
theorem agE(d:DS):cY Tryz.prog 146 [.ptr 0 0] (d.box 151) (fun r t=>r= .t (.leaf (.int .i64 d.byte))∧t=d.next.box 151):=by
 refine cY.intro Tryz.func146 rfl (by first|decide|(simp;done)|(simp;decide)) ?_;intro C hC
 refine aP.fact (cO 0 0 rfl rfl rfl (gB d.code)) (fun hl0=>?_)
 refine aP.seq ?_;refine aP.region_lit ?_;refine AL.cons rfl (aV.move (.inr rfl) rfl rfl) ?_;refine AL.nil ?_;refine aP.seq ?_;refine aP.region_lit ?_;refine AL.cons rfl (aV.move (.inl rfl) rfl rfl) ?_;refine AL.cons rfl (aV.move (.inl rfl) rfl rfl) ?_;refine AL.cons rfl (aV.nilPtr rfl rfl rfl) ?_;refine AL.cons rfl (aV.fieldPtr (k:=0) (d:=0) (e:=2) rfl rfl rfl MC) ?_;refine AL.cons rfl (aV.loadPtr1 rfl rfl rfl rfl jQ rfl) ?_;refine AL.cons rfl (aV.mulW rfl rfl rfl rfl) ?_;refine AL.cons rfl (aV.addW rfl rfl rfl rfl) ?_;refine AL.cons rfl (aV.nilPtr rfl rfl rfl) ?_;refine AL.cons rfl (aV.fieldPtr (k:=0) (d:=0) (e:=2) rfl rfl rfl MC) ?_;refine AL.cons rfl (aV.storePtr (cs:= [.t (.leaf (.int .i64 (aQ ((aQ (d.h*6364136223846793005))+1442695040888963407))))]) (ds:= [.t (.row 1 (cL (d.code))),.t (.leaf (.int .i64 (((d.p:Nat):Int)))),.t (.leaf (.int .i64 (aQ ((aQ (d.h*6364136223846793005))+1442695040888963407))))]) rfl rfl rfl rfl rfl rfl rfl sz3 (Nat.le_of_ble_eq_true rfl) rfl) ?_;refine AL.nil ?_;refine aP.seq ?_;refine aP.drawnL ⟨_,_,fun _ _=>(⟨[some ⟨151,[.t (.row 1 (cL (d.code))),.t (.leaf (.int .i64 (((d.p:Nat):Int)))),.t (.leaf (.int .i64 (aQ ((aQ (d.h*6364136223846793005))+1442695040888963407))))]⟩],[]⟩:c3),fun q'=>([some (.ptr 0 0),some (.ptr 0 0),some (.ptr 0 2),some (.t (.leaf (.int .i64 (aQ ((aQ (d.h*6364136223846793005))+1442695040888963407))))),some (.t (.leaf (.int .i64 (rA (aQ ((aQ (d.h*6364136223846793005))+1442695040888963407)) 33)))),some (.ptr 0 0),some (.ptr 0 0),some (.ptr 0 2),some (.t (.leaf (.int .i64 (aQ ((aQ (d.h*6364136223846793005))+1442695040888963407))))),some (.t (.leaf (.int .i64 (rA (aQ ((aQ (d.h*6364136223846793005))+1442695040888963407)) 45)))),some (.t (.leaf (.int .i64 (NH (rA (aQ ((aQ (d.h*6364136223846793005))+1442695040888963407)) 33) (rA (aQ ((aQ (d.h*6364136223846793005))+1442695040888963407)) 45))))),some (.t (.leaf (.int .i64 (zH (NH (rA (aQ ((aQ (d.h*6364136223846793005))+1442695040888963407)) 33) (rA (aQ ((aQ (d.h*6364136223846793005))+1442695040888963407)) 45)) 255)))),some (.t (.leaf (.int .i64 (zH (NH (rA (aQ ((aQ (d.h*6364136223846793005))+1442695040888963407)) 33) (rA (aQ ((aQ (d.h*6364136223846793005))+1442695040888963407)) 45)) 255))))]:List (Option PV)).getD q' none,fun q'=>([.q 0 0,.q 0 0,.q 0 0,.q 0 0,.q 0 0,.q 0 0,.q 0 0,.q 0 0,.q 0 0,.q 0 0,.q 0 0,.q 0 0,.q 0 0]:List DK).getD q' (.q 0 0),[],none,fun q'=>([[(0,none)],[(13,some 0)],[(14,some 1)],[(15,some 2)],[(16,some 3)],[(0,none)],[(18,some 5)],[(19,some 6)],[(20,some 7)],[(21,some 8)],[(17,some 4),(22,some 9)],[(23,some 10)],[(24,some 11)]]:List (List (Nat×Option Nat))).getD q' []⟩ rfl ab2 (by kernel_rfl) rfl rfl ⟨?_,?_,?_,?_,?_,?_,?_,?_,?_,?_,?_,?_,?_,trivial⟩ rfl ?_
 ·exact c9.step.q1 0 rfl rfl fun s' bb hs hl=>⟨_,rfl,aV.move (.inl rfl) rfl (hl 0 none _ (.head _) rfl)⟩
 ·exact c9.step.q1 0 rfl rfl fun s' bb hs hl=>⟨_,rfl,aV.nilPtr rfl rfl (hl 13 (some 0) _ (.head _) rfl)⟩
 ·exact c9.step.q1 0 rfl rfl fun s' bb hs hl=>⟨_,rfl,aV.fieldPtr (k:=0) (d:=0) (e:=2) rfl rfl (hl 14 (some 1) _ (.head _) rfl) MC⟩
 ·exact c9.step.q1 0 rfl rfl fun s' bb hs hl=>⟨_,rfl,aV.loadPtr1 rfl rfl (hl 15 (some 2) _ (.head _) rfl) (by rw [hs];rfl) jQ rfl⟩
 ·exact c9.step.q1 0 rfl rfl fun s' bb hs hl=>⟨_,rfl,aV.shrI (a:=aQ ((aQ (d.h*6364136223846793005))+1442695040888963407)) (b:=33) rfl rfl (hl 16 (some 3) _ (.head _) rfl) rfl (by decide) (MH (DG _)).1 (MH (DG _)).2⟩
 ·exact c9.step.q1 0 rfl rfl fun s' bb hs hl=>⟨_,rfl,aV.move (.inl rfl) rfl (hl 0 none _ (.head _) rfl)⟩
 ·exact c9.step.q1 0 rfl rfl fun s' bb hs hl=>⟨_,rfl,aV.nilPtr rfl rfl (hl 18 (some 5) _ (.head _) rfl)⟩
 ·exact c9.step.q1 0 rfl rfl fun s' bb hs hl=>⟨_,rfl,aV.fieldPtr (k:=0) (d:=0) (e:=2) rfl rfl (hl 19 (some 6) _ (.head _) rfl) MC⟩
 ·exact c9.step.q1 0 rfl rfl fun s' bb hs hl=>⟨_,rfl,aV.loadPtr1 rfl rfl (hl 20 (some 7) _ (.head _) rfl) (by rw [hs];rfl) jQ rfl⟩
 ·exact c9.step.q1 0 rfl rfl fun s' bb hs hl=>⟨_,rfl,aV.shrI (a:=aQ ((aQ (d.h*6364136223846793005))+1442695040888963407)) (b:=45) rfl rfl (hl 21 (some 8) _ (.head _) rfl) rfl (by decide) (MH (DG _)).1 (MH (DG _)).2⟩
 ·exact c9.step.q1 0 rfl rfl fun s' bb hs hl=>⟨_,rfl,aV.xorI rfl rfl (hl 17 (some 4) _ (.head _) rfl) (hl 22 (some 9) _ (.tail _ (.head _)) rfl)⟩
 ·exact c9.step.q1 0 rfl rfl fun s' bb hs hl=>⟨_,rfl,aV.andI rfl rfl (hl 23 (some 10) _ (.head _) rfl) rfl⟩
 ·exact c9.step.q1 0 rfl rfl fun s' bb hs hl=>⟨_,rfl,aV.move (.inr rfl) rfl (hl 24 (some 11) _ (.head _) rfl)⟩
 refine aP.seq ?_;refine aP.seq ?_;refine aP.drawnL ⟨_,_,fun _ _=>(⟨[some ⟨151,[.t (.row 1 (cL (d.code))),.t (.leaf (.int .i64 (((d.p:Nat):Int)))),.t (.leaf (.int .i64 (aQ ((aQ (d.h*6364136223846793005))+1442695040888963407))))]⟩],[]⟩:c3),fun q'=>([some (.ptr 0 0),some (.ptr 0 0),some (.ptr 0 1),some (.t (.leaf (.int .i64 (((d.p:Nat):Int))))),some (.ptr 0 0),some (.ptr 0 0),some (.ptr 0 0),some (.t (.row 1 (cL (d.code)))),some (.t (.leaf (.int .i64 (((d.code.length:Nat):Int))))),some (.t (.leaf (.bool (decide ((((d.p:Nat):Int):Int)<((d.code.length:Nat):Int))))))]:List (Option PV)).getD q' none,fun q'=>([.q 0 0,.q 0 0,.q 0 0,.q 0 0,.q 0 0,.q 0 0,.q 0 0,.q 0 0,.q 0 0,.q 0 0]:List DK).getD q' (.q 0 0),[],none,fun q'=>([[(0,none)],[(25,some 0)],[(26,some 1)],[(27,some 2)],[(0,none)],[(29,some 4)],[(30,some 5)],[(31,some 6)],[(32,some 7)],[(28,some 3),(33,some 8)]]:List (List (Nat×Option Nat))).getD q' []⟩ rfl ab2 (by kernel_rfl) rfl rfl ⟨?_,?_,?_,?_,?_,?_,?_,?_,?_,?_,trivial⟩ rfl ?_
 ·exact c9.step.q1 0 rfl rfl fun s' bb hs hl=>⟨_,rfl,aV.move (.inl rfl) rfl (hl 0 none _ (.head _) rfl)⟩
 ·exact c9.step.q1 0 rfl rfl fun s' bb hs hl=>⟨_,rfl,aV.nilPtr rfl rfl (hl 25 (some 0) _ (.head _) rfl)⟩
 ·exact c9.step.q1 0 rfl rfl fun s' bb hs hl=>⟨_,rfl,aV.fieldPtr (k:=0) (d:=0) (e:=1) rfl rfl (hl 26 (some 1) _ (.head _) rfl) MB⟩
 ·exact c9.step.q1 0 rfl rfl fun s' bb hs hl=>⟨_,rfl,aV.loadPtr1 rfl rfl (hl 27 (some 2) _ (.head _) rfl) (by rw [hs];rfl) jQ rfl⟩
 ·exact c9.step.q1 0 rfl rfl fun s' bb hs hl=>⟨_,rfl,aV.move (.inl rfl) rfl (hl 0 none _ (.head _) rfl)⟩
 ·exact c9.step.q1 0 rfl rfl fun s' bb hs hl=>⟨_,rfl,aV.nilPtr rfl rfl (hl 29 (some 4) _ (.head _) rfl)⟩
 ·exact c9.step.q1 0 rfl rfl fun s' bb hs hl=>⟨_,rfl,aV.fieldPtr (k:=0) (d:=0) (e:=0) rfl rfl (hl 30 (some 5) _ (.head _) rfl) abS⟩
 ·exact c9.step.q1 0 rfl rfl fun s' bb hs hl=>⟨_,rfl,aV.loadPtr1 rfl rfl (hl 31 (some 6) _ (.head _) rfl) (by rw [hs];rfl) ajE rfl⟩
 ·exact c9.step.q1 0 rfl rfl fun s' bb hs hl=>⟨_,rfl,aV.lenN rfl rfl (hl 32 (some 7) _ (.head _) rfl) rfl VI (gB _)⟩
 ·exact c9.step.q1 0 rfl rfl fun s' bb hs hl=>⟨_,rfl,aV.lss rfl rfl (hl 28 (some 3) _ (.head _) rfl) (hl 33 (some 8) _ (.tail _ (.head _)) rfl)⟩
 refine aP.cond rfl (fun h1=>?_) (fun h1=>?_)
 ·have h1b:=h1
  try simp only [Bool.and_eq_true,Bool.or_eq_true,Bool.and_eq_false_iff,Bool.or_eq_false_iff,decide_eq_true_eq,decide_eq_false_iff_not,Bool.not_eq_true',Bool.not_eq_false',Bool.not_eq_eq_eq_not,Bool.not_true,Bool.not_false,ge_iff_le,gt_iff_lt,Int.not_lt,Int.not_le] at h1b
  have h1n:d.p<d.code.length:=by omega
  refine aP.seq ?_;refine aP.drawnL ⟨_,_,fun _ _=>(⟨[some ⟨151,[.t (.row 1 (cL (d.code))),.t (.leaf (.int .i64 (((d.p:Nat):Int)))),.t (.leaf (.int .i64 (aQ ((aQ (d.h*6364136223846793005))+1442695040888963407))))]⟩],[]⟩:c3),fun q'=>([some (.t (.leaf (.int .i64 (zH (NH (rA (aQ ((aQ (d.h*6364136223846793005))+1442695040888963407)) 33) (rA (aQ ((aQ (d.h*6364136223846793005))+1442695040888963407)) 45)) 255)))),some (.ptr 0 0),some (.ptr 0 0),some (.ptr 0 0),some (.t (.row 1 (cL (d.code)))),some (.ptr 0 0),some (.ptr 0 0),some (.ptr 0 1),some (.t (.leaf (.int .i64 (((d.p:Nat):Int))))),some (.eptr ([.leaf (.int .u8 ((d.code[d.p]).toNat:Int))])),some (.t (.leaf (.int .u8 (((d.code[d.p]).toNat:Int))))),some (.t (.leaf (.int .i64 (((d.code[d.p]).toNat:Int))))),some (.t (.leaf (.int .i64 (aQ ((zH (NH (rA (aQ ((aQ (d.h*6364136223846793005))+1442695040888963407)) 33) (rA (aQ ((aQ (d.h*6364136223846793005))+1442695040888963407)) 45)) 255)+((d.code[d.p]).toNat:Int)))))),some (.t (.leaf (.int .i64 (zH (aQ ((zH (NH (rA (aQ ((aQ (d.h*6364136223846793005))+1442695040888963407)) 33) (rA (aQ ((aQ (d.h*6364136223846793005))+1442695040888963407)) 45)) 255)+((d.code[d.p]).toNat:Int))) 255)))),some (.t (.leaf (.int .i64 (zH (aQ ((zH (NH (rA (aQ ((aQ (d.h*6364136223846793005))+1442695040888963407)) 33) (rA (aQ ((aQ (d.h*6364136223846793005))+1442695040888963407)) 45)) 255)+((d.code[d.p]).toNat:Int))) 255))))]:List (Option PV)).getD q' none,fun q'=>([.q 0 0,.q 0 0,.q 0 0,.q 0 0,.q 0 0,.q 0 0,.q 0 0,.q 0 0,.q 0 0,.q 0 0,.q 0 0,.q 0 0,.q 0 0,.q 0 0,.q 0 0]:List DK).getD q' (.q 0 0),[],none,fun q'=>([[(3,none)],[(0,none)],[(36,some 1)],[(37,some 2)],[(38,some 3)],[(0,none)],[(40,some 5)],[(41,some 6)],[(42,some 7)],[(39,some 4),(43,some 8)],[(44,some 9)],[(45,some 10)],[(35,some 0),(46,some 11)],[(47,some 12)],[(48,some 13)]]:List (List (Nat×Option Nat))).getD q' []⟩ rfl ab2 (by kernel_rfl) rfl rfl ⟨?_,?_,?_,?_,?_,?_,?_,?_,?_,?_,?_,?_,?_,?_,?_,trivial⟩ rfl ?_
  ·exact c9.step.q1 0 rfl rfl fun s' bb hs hl=>⟨_,rfl,aV.move (.inl rfl) rfl (hl 3 none _ (.head _) rfl)⟩
  ·exact c9.step.q1 0 rfl rfl fun s' bb hs hl=>⟨_,rfl,aV.move (.inl rfl) rfl (hl 0 none _ (.head _) rfl)⟩
  ·exact c9.step.q1 0 rfl rfl fun s' bb hs hl=>⟨_,rfl,aV.nilPtr rfl rfl (hl 36 (some 1) _ (.head _) rfl)⟩
  ·exact c9.step.q1 0 rfl rfl fun s' bb hs hl=>⟨_,rfl,aV.fieldPtr (k:=0) (d:=0) (e:=0) rfl rfl (hl 37 (some 2) _ (.head _) rfl) abS⟩
  ·exact c9.step.q1 0 rfl rfl fun s' bb hs hl=>⟨_,rfl,aV.loadPtr1 rfl rfl (hl 38 (some 3) _ (.head _) rfl) (by rw [hs];rfl) ajE rfl⟩
  ·exact c9.step.q1 0 rfl rfl fun s' bb hs hl=>⟨_,rfl,aV.move (.inl rfl) rfl (hl 0 none _ (.head _) rfl)⟩
  ·exact c9.step.q1 0 rfl rfl fun s' bb hs hl=>⟨_,rfl,aV.nilPtr rfl rfl (hl 40 (some 5) _ (.head _) rfl)⟩
  ·exact c9.step.q1 0 rfl rfl fun s' bb hs hl=>⟨_,rfl,aV.fieldPtr (k:=0) (d:=0) (e:=1) rfl rfl (hl 41 (some 6) _ (.head _) rfl) MB⟩
  ·exact c9.step.q1 0 rfl rfl fun s' bb hs hl=>⟨_,rfl,aV.loadPtr1 rfl rfl (hl 42 (some 7) _ (.head _) rfl) (by rw [hs];rfl) jQ rfl⟩
  ·exact c9.step.q1 0 rfl rfl fun s' bb hs hl=>⟨_,rfl,aV.index (k:=d.p) rfl rfl (hl 39 (some 4) _ (.head _) rfl) rfl (hl 43 (some 8) _ (.tail _ (.head _)) rfl) (vH h1n) VI⟩
  ·exact c9.step.q1 0 rfl rfl fun s' bb hs hl=>⟨_,rfl,aV.loadEptr1 (d:= .leaf (.int .u8 (((d.code[d.p]).toNat:Int)))) rfl rfl (hl 44 (some 9) _ (.head _) rfl) sh5 rfl⟩
  ·exact c9.step.q1 0 rfl rfl fun s' bb hs hl=>⟨_,rfl,aV.convI rfl rfl (hl 45 (some 10) _ (.head _) rfl) ⟨_,Tryz.underlying5⟩ Tryz.underlying3 (by first|omega|(have:=UInt8.toNat_lt (d.code[d.p]);omega)) (by first|omega|(have:=UInt8.toNat_lt (d.code[d.p]);omega))⟩
  ·exact c9.step.q1 0 rfl rfl fun s' bb hs hl=>⟨_,rfl,aV.addW rfl rfl (hl 35 (some 0) _ (.head _) rfl) (hl 46 (some 11) _ (.tail _ (.head _)) rfl)⟩
  ·exact c9.step.q1 0 rfl rfl fun s' bb hs hl=>⟨_,rfl,aV.andI rfl rfl (hl 47 (some 12) _ (.head _) rfl) rfl⟩
  ·exact c9.step.q1 0 rfl rfl fun s' bb hs hl=>⟨_,rfl,aV.move (.inr rfl) rfl (hl 48 (some 13) _ (.head _) rfl)⟩
  refine aP.region_lit ?_;refine AL.cons rfl (aV.move (.inl rfl) rfl rfl) ?_;refine AL.cons rfl (aV.move (.inl rfl) rfl rfl) ?_;refine AL.cons rfl (aV.nilPtr rfl rfl rfl) ?_;refine AL.cons rfl (aV.fieldPtr (k:=0) (d:=0) (e:=1) rfl rfl rfl MB) ?_;refine AL.cons rfl (aV.loadPtr1 rfl rfl rfl rfl jQ rfl) ?_;refine AL.cons rfl (aV.addI rfl rfl rfl rfl (c:=((d.p+1:Nat):Int)) (by omega) (by omega)) ?_;refine AL.cons rfl (aV.nilPtr rfl rfl rfl) ?_;refine AL.cons rfl (aV.fieldPtr (k:=0) (d:=0) (e:=1) rfl rfl rfl MB) ?_;refine AL.cons rfl (aV.storePtr (cs:= [.t (.leaf (.int .i64 (((d.p+1:Nat):Int))))]) (ds:= [.t (.row 1 (cL (d.code))),.t (.leaf (.int .i64 (((d.p+1:Nat):Int)))),.t (.leaf (.int .i64 (aQ ((aQ (d.h*6364136223846793005))+1442695040888963407))))]) rfl rfl rfl rfl rfl rfl rfl sz3 (Nat.le_of_ble_eq_true rfl) rfl) ?_;refine AL.nil ?_;refine aP.seq ?_;refine aP.region_lit ?_;refine AL.cons rfl (aV.move (.inl rfl) rfl rfl) ?_;refine AL.cons rfl (aV.move (.inr rfl) rfl rfl) ?_;refine AL.nil ?_;refine aP.ret ?_;exact xQ.mk (ps:= [_]) (.inr rfl) ⟨rfl,trivial⟩ rfl (nH.mk' (st':=⟨[some ⟨151,[.t (.row 1 (cL (d.code))),.t (.leaf (.int .i64 (((d.p+1:Nat):Int)))),.t (.leaf (.int .i64 (aQ ((aQ (d.h*6364136223846793005))+1442695040888963407))))]⟩],[]⟩) ⟨⟨rfl,lH,rfl⟩,trivial⟩ rfl) (sC hC ⟨_,rfl⟩) (q:= .t (.leaf (.int .i64 (zH (aQ ((zH (NH (rA (aQ ((aQ (d.h*6364136223846793005))+1442695040888963407)) 33) (rA (aQ ((aQ (d.h*6364136223846793005))+1442695040888963407)) 45)) 255)+((d.code[d.p]).toNat:Int))) 255)))) (.refl _) rfl ⟨by first|(simp_all [DS.byte,BQ];done)|(have hq: ¬d.p<d.code.length:=(by omega);simp [DS.byte,BQ,hq]),by first|(simp_all [DS.box,DS.cells,DS.next,BQ];done)|(have hq: ¬d.p<d.code.length:=(by omega);simp [DS.box,DS.cells,DS.next,BQ,hq])⟩
 ·have h1b:=h1
  try simp only [Bool.and_eq_true,Bool.or_eq_true,Bool.and_eq_false_iff,Bool.or_eq_false_iff,decide_eq_true_eq,decide_eq_false_iff_not,Bool.not_eq_true',Bool.not_eq_false',Bool.not_eq_eq_eq_not,Bool.not_true,Bool.not_false,ge_iff_le,gt_iff_lt,Int.not_lt,Int.not_le] at h1b
  have h1n:d.p≥d.code.length:=by omega
  refine aP.skip ?_;refine aP.seq ?_;refine aP.region_lit ?_;refine AL.cons rfl (aV.move (.inl rfl) rfl rfl) ?_;refine AL.cons rfl (aV.move (.inr rfl) rfl rfl) ?_;refine AL.nil ?_;refine aP.ret ?_;exact xQ.mk (ps:= [_]) (.inr rfl) ⟨rfl,trivial⟩ rfl (nH.mk' (st':=⟨[some ⟨151,[.t (.row 1 (cL (d.code))),.t (.leaf (.int .i64 (((d.p:Nat):Int)))),.t (.leaf (.int .i64 (aQ ((aQ (d.h*6364136223846793005))+1442695040888963407))))]⟩],[]⟩) ⟨⟨rfl,lH,rfl⟩,trivial⟩ rfl) (sC hC ⟨_,rfl⟩) (q:= .t (.leaf (.int .i64 (zH (NH (rA (aQ ((aQ (d.h*6364136223846793005))+1442695040888963407)) 33) (rA (aQ ((aQ (d.h*6364136223846793005))+1442695040888963407)) 45)) 255)))) (.refl _) rfl ⟨by first|(simp_all [DS.byte,BQ];done)|(have hq: ¬d.p<d.code.length:=(by omega);simp [DS.byte,BQ,hq]),by first|(simp_all [DS.box,DS.cells,DS.next,BQ];done)|(have hq: ¬d.p<d.code.length:=(by omega);simp [DS.box,DS.cells,DS.next,BQ,hq])⟩
theorem A6(d:DS):cY Tryz.prog 146 [.ptr 0 0] (d.box 151) (fun r t=>r= .t (.leaf (.int .i64 ((d.byteN:Nat):Int)))∧t=d.next.box 151):=by rw [d.byteN_eq];exact agE d
set_option maxRecDepth 100000 in
set_option maxHeartbeats 4000000 in
theorem fG(d:DS)(n:Nat):cY Tryz.prog 103 [.ptr 0 0,.t (.leaf (.int .i64 (((n:Nat):Int))))] (d.box 151) (fun r t=>r= .t (.leaf (.int .i64 (((d.below n:Nat):Int))))∧t=(d.after n).box 151):=by
 refine cY.intro Tryz.func103 rfl (by first|decide|(simp;done)|(simp;decide)) ?_;intro C hC
 refine aP.fact (cO 0 0 rfl rfl rfl (gB d.code)) (fun hl0=>?_)
 have hb0:=d.byteN_le
 have hb1:=d.next.byteN_le
 have hb2:=d.next.next.byteN_le
 have hb3:=d.next.next.next.byteN_le
 refine aP.seq ?_;refine aP.region_lit ?_;refine AL.cons rfl (aV.move (.inr rfl) rfl rfl) ?_;refine AL.nil ?_;refine aP.seq ?_;refine aP.seq ?_;refine aP.region_lit ?_;refine AL.cons rfl (aV.move (.inl rfl) rfl rfl) ?_;refine AL.cons rfl (aV.leq rfl rfl rfl rfl) ?_;refine AL.nil ?_;refine aP.cond rfl (fun h1=>?_) (fun h1=>?_)
 ·have h1b:=h1
  try simp only [Bool.and_eq_true,Bool.or_eq_true,Bool.and_eq_false_iff,Bool.or_eq_false_iff,decide_eq_true_eq,decide_eq_false_iff_not,Bool.not_eq_true',Bool.not_eq_false',Bool.not_eq_eq_eq_not,Bool.not_true,Bool.not_false,ge_iff_le,gt_iff_lt,Int.not_lt,Int.not_le] at h1b
  refine aP.seq ?_;refine aP.region_lit ?_;refine AL.cons rfl (aV.move (.inr rfl) rfl rfl) ?_;refine AL.nil ?_;refine aP.ret ?_;exact xQ.mk (ps:= [_]) (.inr rfl) ⟨rfl,trivial⟩ rfl (nH.mk' (st':=⟨[some ⟨151,[.t (.row 1 (cL (d.code))),.t (.leaf (.int .i64 (((d.p:Nat):Int)))),.t (.leaf (.int .i64 (d.h)))]⟩],[]⟩) ⟨⟨rfl,lH,rfl⟩,trivial⟩ rfl) (sC hC ⟨_,rfl⟩) (q:= .t (.leaf (.int .i64 (0)))) lH rfl ⟨by first|(have hq:n=0:=(by omega);simp [DS.below,hq];done)|(have hq: ¬n=0:=(by omega);have hr:n≤256:=(by omega);simp [DS.below,hq,hr];done)|(have hq: ¬n=0:=(by omega);have hr: ¬n≤256:=(by omega);simp [DS.below,hq,hr]),by first|(have hq:n=0:=(by omega);simp [DS.after,DS.box,DS.cells,hq];done)|(have hq: ¬n=0:=(by omega);have hr:n≤256:=(by omega);simp [DS.after,DS.box,DS.cells,hq,hr];done)|(have hq: ¬n=0:=(by omega);have hr: ¬n≤256:=(by omega);simp [DS.after,DS.box,DS.cells,hq,hr])⟩
 ·have h1b:=h1
  try simp only [Bool.and_eq_true,Bool.or_eq_true,Bool.and_eq_false_iff,Bool.or_eq_false_iff,decide_eq_true_eq,decide_eq_false_iff_not,Bool.not_eq_true',Bool.not_eq_false',Bool.not_eq_eq_eq_not,Bool.not_true,Bool.not_false,ge_iff_le,gt_iff_lt,Int.not_lt,Int.not_le] at h1b
  refine aP.skip ?_;refine aP.seq ?_;refine aP.seq ?_;refine aP.region_lit ?_;refine AL.cons rfl (aV.move (.inl rfl) rfl rfl) ?_;refine AL.cons rfl (aV.leq rfl rfl rfl rfl) ?_;refine AL.nil ?_;refine aP.cond rfl (fun h2=>?_) (fun h2=>?_)
  ·have h2b:=h2
   try simp only [Bool.and_eq_true,Bool.or_eq_true,Bool.and_eq_false_iff,Bool.or_eq_false_iff,decide_eq_true_eq,decide_eq_false_iff_not,Bool.not_eq_true',Bool.not_eq_false',Bool.not_eq_eq_eq_not,Bool.not_true,Bool.not_false,ge_iff_le,gt_iff_lt,Int.not_lt,Int.not_le] at h2b
   refine aP.seq ?_;refine aP.region_lit ?_;refine AL.cons rfl (aV.move (.inl rfl) rfl rfl) ?_;refine AL.cons rfl (aV.callPE (pre:=⟨[some ⟨151,[.t (.row 1 (cL (d.code))),.t (.leaf (.int .i64 (((d.p:Nat):Int)))),.t (.leaf (.int .i64 (d.h)))]⟩],[]⟩) (st':=⟨[some ⟨151,[.t (.row 1 (cL (d.next.code))),.t (.leaf (.int .i64 (((d.next.p:Nat):Int)))),.t (.leaf (.int .i64 (d.next.h)))]⟩],[]⟩) (ps:= [_]) (qs:= [.ptr 0 0]) [0] [] rfl rfl Tryz.func146 (by kernel_rfl) rfl rfl rfl (by(try rw [hs]);exact⟨rfl,rfl,by decide,by decide,fun k h=>by rcases k with _|k<;>simp at h;exact⟨_,rfl⟩,fun k x h=>by rcases k with _|k<;>simp at h;subst h;exact⟨_,rfl,rfl,lH,rfl⟩,fun r row h=>by simp at h⟩) lH rfl rfl rfl (A6 d)) ?_;refine AL.cons rfl (aV.move (.inl rfl) rfl rfl) ?_;refine AL.cons rfl (aV.remN (a:=d.byteN) (b:=n) rfl rfl rfl rfl (by omega) (by omega)) ?_;refine AL.cons rfl (aV.move (.inr rfl) rfl rfl) ?_;refine AL.nil ?_;refine aP.ret ?_;exact xQ.mk (ps:= [_]) (.inr rfl) ⟨rfl,trivial⟩ rfl (nH.mk' (st':=⟨[some ⟨151,[.t (.row 1 (cL (d.next.code))),.t (.leaf (.int .i64 (((d.next.p:Nat):Int)))),.t (.leaf (.int .i64 (d.next.h)))]⟩],[]⟩) ⟨⟨rfl,lH,rfl⟩,trivial⟩ rfl) (sC hC ⟨_,rfl⟩) (q:= .t (.leaf (.int .i64 (((d.byteN%n:Nat):Int))))) lH rfl ⟨by first|(have hq:n=0:=(by omega);simp [DS.below,hq];done)|(have hq: ¬n=0:=(by omega);have hr:n≤256:=(by omega);simp [DS.below,hq,hr];done)|(have hq: ¬n=0:=(by omega);have hr: ¬n≤256:=(by omega);simp [DS.below,hq,hr]),by first|(have hq:n=0:=(by omega);simp [DS.after,DS.box,DS.cells,hq];done)|(have hq: ¬n=0:=(by omega);have hr:n≤256:=(by omega);simp [DS.after,DS.box,DS.cells,hq,hr];done)|(have hq: ¬n=0:=(by omega);have hr: ¬n≤256:=(by omega);simp [DS.after,DS.box,DS.cells,hq,hr])⟩
  ·have h2b:=h2
   try simp only [Bool.and_eq_true,Bool.or_eq_true,Bool.and_eq_false_iff,Bool.or_eq_false_iff,decide_eq_true_eq,decide_eq_false_iff_not,Bool.not_eq_true',Bool.not_eq_false',Bool.not_eq_eq_eq_not,Bool.not_true,Bool.not_false,ge_iff_le,gt_iff_lt,Int.not_lt,Int.not_le] at h2b
   refine aP.skip ?_;refine aP.seq ?_;refine aP.region_lit ?_;refine AL.cons rfl (aV.move (.inl rfl) rfl rfl) ?_;refine AL.cons rfl (aV.callPE (pre:=⟨[some ⟨151,[.t (.row 1 (cL (d.code))),.t (.leaf (.int .i64 (((d.p:Nat):Int)))),.t (.leaf (.int .i64 (d.h)))]⟩],[]⟩) (st':=⟨[some ⟨151,[.t (.row 1 (cL (d.next.code))),.t (.leaf (.int .i64 (((d.next.p:Nat):Int)))),.t (.leaf (.int .i64 (d.next.h)))]⟩],[]⟩) (ps:= [_]) (qs:= [.ptr 0 0]) [0] [] rfl rfl Tryz.func146 (by kernel_rfl) rfl rfl rfl (by(try rw [hs]);exact⟨rfl,rfl,by decide,by decide,fun k h=>by rcases k with _|k<;>simp at h;exact⟨_,rfl⟩,fun k x h=>by rcases k with _|k<;>simp at h;subst h;exact⟨_,rfl,rfl,lH,rfl⟩,fun r row h=>by simp at h⟩) lH rfl rfl rfl (A6 d)) ?_;refine AL.cons rfl (aV.move (.inr rfl) rfl rfl) ?_;refine AL.nil ?_;refine aP.seq ?_;refine aP.region_lit ?_;refine AL.cons rfl (aV.move (.inl rfl) rfl rfl) ?_;refine AL.cons rfl (aV.callPE (pre:=⟨[some ⟨151,[.t (.row 1 (cL (d.next.code))),.t (.leaf (.int .i64 (((d.next.p:Nat):Int)))),.t (.leaf (.int .i64 (d.next.h)))]⟩],[]⟩) (st':=⟨[some ⟨151,[.t (.row 1 (cL (d.next.next.code))),.t (.leaf (.int .i64 (((d.next.next.p:Nat):Int)))),.t (.leaf (.int .i64 (d.next.next.h)))]⟩],[]⟩) (ps:= [_]) (qs:= [.ptr 0 0]) [0] [] rfl rfl Tryz.func146 (by kernel_rfl) rfl rfl rfl (by(try rw [hs]);exact⟨rfl,rfl,by decide,by decide,fun k h=>by rcases k with _|k<;>simp at h;exact⟨_,rfl⟩,fun k x h=>by rcases k with _|k<;>simp at h;subst h;exact⟨_,rfl,rfl,lH,rfl⟩,fun r row h=>by simp at h⟩) lH rfl rfl rfl (A6 d.next)) ?_;refine AL.cons rfl (aV.move (.inr rfl) rfl rfl) ?_;refine AL.nil ?_;refine aP.seq ?_;refine aP.region_lit ?_;refine AL.cons rfl (aV.move (.inl rfl) rfl rfl) ?_;refine AL.cons rfl (aV.callPE (pre:=⟨[some ⟨151,[.t (.row 1 (cL (d.next.next.code))),.t (.leaf (.int .i64 (((d.next.next.p:Nat):Int)))),.t (.leaf (.int .i64 (d.next.next.h)))]⟩],[]⟩) (st':=⟨[some ⟨151,[.t (.row 1 (cL (d.next.next.next.code))),.t (.leaf (.int .i64 (((d.next.next.next.p:Nat):Int)))),.t (.leaf (.int .i64 (d.next.next.next.h)))]⟩],[]⟩) (ps:= [_]) (qs:= [.ptr 0 0]) [0] [] rfl rfl Tryz.func146 (by kernel_rfl) rfl rfl rfl (by(try rw [hs]);exact⟨rfl,rfl,by decide,by decide,fun k h=>by rcases k with _|k<;>simp at h;exact⟨_,rfl⟩,fun k x h=>by rcases k with _|k<;>simp at h;subst h;exact⟨_,rfl,rfl,lH,rfl⟩,fun r row h=>by simp at h⟩) lH rfl rfl rfl (A6 d.next.next)) ?_;refine AL.cons rfl (aV.move (.inr rfl) rfl rfl) ?_;refine AL.nil ?_;refine aP.seq ?_;refine aP.region_lit ?_;refine AL.cons rfl (aV.move (.inl rfl) rfl rfl) ?_;refine AL.cons rfl (aV.callPE (pre:=⟨[some ⟨151,[.t (.row 1 (cL (d.next.next.next.code))),.t (.leaf (.int .i64 (((d.next.next.next.p:Nat):Int)))),.t (.leaf (.int .i64 (d.next.next.next.h)))]⟩],[]⟩) (st':=⟨[some ⟨151,[.t (.row 1 (cL (d.next.next.next.next.code))),.t (.leaf (.int .i64 (((d.next.next.next.next.p:Nat):Int)))),.t (.leaf (.int .i64 (d.next.next.next.next.h)))]⟩],[]⟩) (ps:= [_]) (qs:= [.ptr 0 0]) [0] [] rfl rfl Tryz.func146 (by kernel_rfl) rfl rfl rfl (by(try rw [hs]);exact⟨rfl,rfl,by decide,by decide,fun k h=>by rcases k with _|k<;>simp at h;exact⟨_,rfl⟩,fun k x h=>by rcases k with _|k<;>simp at h;subst h;exact⟨_,rfl,rfl,lH,rfl⟩,fun r row h=>by simp at h⟩) lH rfl rfl rfl (A6 d.next.next.next)) ?_;refine AL.cons rfl (aV.move (.inr rfl) rfl rfl) ?_;refine AL.nil ?_;refine aP.seq ?_;refine aP.region_lit ?_;refine AL.cons rfl (aV.move (.inl rfl) rfl rfl) ?_;refine AL.cons rfl (aV.mulI rfl rfl rfl rfl (c:=((d.byteN*16777216:Nat):Int)) (by omega) (by omega)) ?_;refine AL.cons rfl (aV.move (.inl rfl) rfl rfl) ?_;refine AL.cons rfl (aV.mulI rfl rfl rfl rfl (c:=((d.next.byteN*65536:Nat):Int)) (by omega) (by omega)) ?_;refine AL.cons rfl (aV.addI rfl rfl rfl rfl (c:=(((d.byteN*16777216)+(d.next.byteN*65536):Nat):Int)) (by omega) (by omega)) ?_;refine AL.cons rfl (aV.move (.inl rfl) rfl rfl) ?_;refine AL.cons rfl (aV.mulI rfl rfl rfl rfl (c:=((d.next.next.byteN*256:Nat):Int)) (by omega) (by omega)) ?_;refine AL.cons rfl (aV.addI rfl rfl rfl rfl (c:=((((d.byteN*16777216)+(d.next.byteN*65536))+(d.next.next.byteN*256):Nat):Int)) (by omega) (by omega)) ?_;refine AL.cons rfl (aV.move (.inl rfl) rfl rfl) ?_;refine AL.cons rfl (aV.addI rfl rfl rfl rfl (c:=(((((d.byteN*16777216)+(d.next.byteN*65536))+(d.next.next.byteN*256))+d.next.next.next.byteN:Nat):Int)) (by omega) (by omega)) ?_;refine AL.cons rfl (aV.move (.inl rfl) rfl rfl) ?_;refine AL.cons rfl (aV.remN (a:=(((d.byteN*16777216)+(d.next.byteN*65536))+(d.next.next.byteN*256))+d.next.next.next.byteN) (b:=n) rfl rfl rfl rfl (by omega) (by omega)) ?_;refine AL.cons rfl (aV.move (.inr rfl) rfl rfl) ?_;refine AL.nil ?_;refine aP.ret ?_;exact xQ.mk (ps:= [_]) (.inr rfl) ⟨rfl,trivial⟩ rfl (nH.mk' (st':=⟨[some ⟨151,[.t (.row 1 (cL (d.next.next.next.next.code))),.t (.leaf (.int .i64 (((d.next.next.next.next.p:Nat):Int)))),.t (.leaf (.int .i64 (d.next.next.next.next.h)))]⟩],[]⟩) ⟨⟨rfl,lH,rfl⟩,trivial⟩ rfl) (sC hC ⟨_,rfl⟩) (q:= .t (.leaf (.int .i64 (((((((d.byteN*16777216)+(d.next.byteN*65536))+(d.next.next.byteN*256))+d.next.next.next.byteN)%n:Nat):Int))))) lH rfl ⟨by first|(have hq:n=0:=(by omega);simp [DS.below,hq];done)|(have hq: ¬n=0:=(by omega);have hr:n≤256:=(by omega);simp [DS.below,hq,hr];done)|(have hq: ¬n=0:=(by omega);have hr: ¬n≤256:=(by omega);simp [DS.below,hq,hr]),by first|(have hq:n=0:=(by omega);simp [DS.after,DS.box,DS.cells,hq];done)|(have hq: ¬n=0:=(by omega);have hr:n≤256:=(by omega);simp [DS.after,DS.box,DS.cells,hq,hr];done)|(have hq: ¬n=0:=(by omega);have hr: ¬n≤256:=(by omega);simp [DS.after,DS.box,DS.cells,hq,hr])⟩
set_option maxRecDepth 100000 in
set_option maxHeartbeats 4000000 in
theorem mI(d:DS)(n:Nat):cY Tryz.prog 112 [.ptr 0 0,.t (.leaf (.int .i64 (((n:Nat):Int))))] (d.box 151) (fun r t=>r= .t (.leaf (.bool (decide (d.below n=0))))∧t=(d.after n).box 151):=by
 refine cY.intro Tryz.func112 rfl (by first|decide|(simp;done)|(simp;decide)) ?_;intro C hC
 refine aP.fact (cO 0 0 rfl rfl rfl (gB d.code)) (fun hl0=>?_)
 refine aP.seq ?_;refine aP.region_lit ?_;refine AL.cons rfl (aV.move (.inr rfl) rfl rfl) ?_;refine AL.nil ?_;refine aP.seq ?_;refine aP.region_lit ?_;refine AL.cons rfl (aV.move (.inl rfl) rfl rfl) ?_;refine AL.cons rfl (aV.move (.inl rfl) rfl rfl) ?_;refine AL.cons rfl (aV.callPE (pre:=⟨[some ⟨151,[.t (.row 1 (cL (d.code))),.t (.leaf (.int .i64 (((d.p:Nat):Int)))),.t (.leaf (.int .i64 (d.h)))]⟩],[]⟩) (st':=⟨[some ⟨151,[.t (.row 1 (cL ((d.after n).code))),.t (.leaf (.int .i64 ((((d.after n).p:Nat):Int)))),.t (.leaf (.int .i64 ((d.after n).h)))]⟩],[]⟩) (ps:= [_,_]) (qs:= [.ptr 0 0,.t (.leaf (.int .i64 (((n:Nat):Int))))]) [0] [] rfl rfl Tryz.func103 (by kernel_rfl) rfl rfl rfl (by(try rw [hs]);exact⟨rfl,rfl,by decide,by decide,fun k h=>by rcases k with _|k<;>simp at h;exact⟨_,rfl⟩,fun k x h=>by rcases k with _|k<;>simp at h;subst h;exact⟨_,rfl,rfl,lH,rfl⟩,fun r row h=>by simp at h⟩) lH rfl rfl rfl (fG d n)) ?_;refine AL.cons rfl (aV.eqlI rfl rfl rfl rfl) ?_;refine AL.cons rfl (aV.move (.inr rfl) rfl rfl) ?_;refine AL.nil ?_;refine aP.ret ?_;exact xQ.mk (ps:= [_]) (.inr rfl) ⟨rfl,trivial⟩ rfl (nH.mk' (st':=⟨[some ⟨151,[.t (.row 1 (cL ((d.after n).code))),.t (.leaf (.int .i64 ((((d.after n).p:Nat):Int)))),.t (.leaf (.int .i64 ((d.after n).h)))]⟩],[]⟩) ⟨⟨rfl,lH,rfl⟩,trivial⟩ rfl) (sC hC ⟨_,rfl⟩) (q:= .t (.leaf (.bool (decide ((((d.below n:Nat):Int):Int)=0))))) lH rfl ⟨by first|rfl|(congr 4;simp),by rfl⟩
set_option maxRecDepth 100000 in
set_option maxHeartbeats 4000000 in
theorem gI(d:DS)(l:List ByteArray)(hl:0<l.length):cY Tryz.prog 86 [.ptr 0 0,.t (.row 1 (aW (l)))] (d.box 151) (fun r t=>r= .t (.leaf (.string (d.pick l)))∧t=(d.after l.length).box 151):=by
 refine cY.intro Tryz.func86 rfl (by first|decide|(simp;done)|(simp;decide)) ?_;intro C hC
 refine aP.fact (cO 0 0 rfl rfl rfl (gB d.code)) (fun hl0=>?_)
 refine aP.fact (MI 1 rfl rfl (bC _)) (fun hl1=>?_)
 have hx:d.below l.length<l.length:=d.below_lt hl
 refine aP.seq ?_;refine aP.region_lit ?_;refine AL.cons rfl (aV.move (.inr rfl) rfl rfl) ?_;refine AL.nil ?_;refine aP.seq ?_;refine aP.region_lit ?_;refine AL.cons rfl (aV.move (.inl rfl) rfl rfl) ?_;refine AL.cons rfl (aV.move (.inl rfl) rfl rfl) ?_;refine AL.cons rfl (aV.move (.inl rfl) rfl rfl) ?_;refine AL.cons rfl (aV.lenN rfl rfl rfl rfl b3 (bC _)) ?_;refine AL.cons rfl (aV.callPE (pre:=⟨[some ⟨151,[.t (.row 1 (cL (d.code))),.t (.leaf (.int .i64 (((d.p:Nat):Int)))),.t (.leaf (.int .i64 (d.h)))]⟩],[]⟩) (st':=⟨[some ⟨151,[.t (.row 1 (cL ((d.after l.length).code))),.t (.leaf (.int .i64 ((((d.after l.length).p:Nat):Int)))),.t (.leaf (.int .i64 ((d.after l.length).h)))]⟩],[]⟩) (ps:= [_,_]) (qs:= [.ptr 0 0,.t (.leaf (.int .i64 (((l.length:Nat):Int))))]) [0] [] rfl rfl Tryz.func103 (by kernel_rfl) rfl rfl rfl (by(try rw [hs]);exact⟨rfl,rfl,by decide,by decide,fun k h=>by rcases k with _|k<;>simp at h;exact⟨_,rfl⟩,fun k x h=>by rcases k with _|k<;>simp at h;subst h;exact⟨_,rfl,rfl,lH,rfl⟩,fun r row h=>by simp at h⟩) lH rfl rfl rfl (fG d l.length)) ?_;refine AL.cons rfl (aV.index (k:=d.below l.length) rfl rfl rfl rfl rfl (RN hx) b3) ?_;refine AL.cons rfl (aV.loadEptr1 (d:= .leaf (.string (l[d.below l.length]))) rfl rfl rfl fB rfl) ?_;refine AL.cons rfl (aV.move (.inr rfl) rfl rfl) ?_;refine AL.nil ?_;refine aP.ret ?_;exact xQ.mk (ps:= [_]) (.inr rfl) ⟨rfl,trivial⟩ rfl (nH.mk' (st':=⟨[some ⟨151,[.t (.row 1 (cL ((d.after l.length).code))),.t (.leaf (.int .i64 ((((d.after l.length).p:Nat):Int)))),.t (.leaf (.int .i64 ((d.after l.length).h)))]⟩],[]⟩) ⟨⟨rfl,lH,rfl⟩,trivial⟩ rfl) (sC hC ⟨_,rfl⟩) (q:= .t (.leaf (.string (l[d.below l.length])))) lH rfl ⟨by rw [DS.pick_eq hx],by rfl⟩
set_option maxRecDepth 100000 in
set_option maxHeartbeats 4000000 in
theorem ah9(code:List UInt8)(hb:code.length≤1048576):aiS Tryz.prog 54 [.t (.row 1 (cL code))] 151 (DS.start code).cells:=by
 refine cY.intro Tryz.func54 rfl (by first|decide|(simp;done)|(simp;decide)) ?_;intro C hC
 refine aP.fact (MI 0 rfl rfl (gB _)) (fun hl1=>?_)
 refine aP.seq ?_;refine aP.region_lit ?_;refine AL.cons rfl (aV.moveAny (.inl rfl)) ?_;refine AL.nil ?_;refine aP.seq ?_;refine aP.region_lit ?_;refine AL.cons rfl (aV.move (.inl rfl) rfl rfl) ?_;refine AL.cons rfl (aV.lenN rfl rfl rfl rfl VI (gB _)) ?_;refine AL.cons rfl (aV.addI rfl rfl rfl rfl (c:=((28803+code.length:Nat):Int)) (by omega) (by omega)) ?_;refine AL.cons rfl (aV.move (.inr rfl) rfl rfl) ?_;refine AL.nil ?_;refine aP.seq ?_;refine aP.seq ?_;refine aP.region_lit ?_;refine AL.cons rfl (aV.move (.inr rfl) rfl rfl) ?_;refine AL.nil ?_;refine aP.block ?_;refine aP.loopJ (ι:=Nat×Int) (fun⟨i,h⟩=>i≤code.length∧i≤4000∧ai4 code=((code.take 4000).drop i).foldl CU h) (fun⟨i,h⟩=>⟨[(0,.t (.row 1 (cL (code)))),(3,.t (.leaf (.int .i64 (h)))),(4,.t (.leaf (.int .i64 (((i:Nat):Int)))))],⟨[],[]⟩⟩) (fun⟨i,h⟩=>code.length-i) (0,(28803+(code.length:Int))) ?_ ?_ ?_
 ·exact⟨Nat.zero_le _,Nat.zero_le _,rfl⟩
 ·exact Wk.mk (nH.mk' trivial rfl) (yN hC) ⟨⟨_,rfl,.refl _,rfl⟩,⟨⟨_,rfl,lH,rfl⟩,⟨⟨_,rfl,lH,rfl⟩,trivial⟩⟩⟩
 rintro⟨i,h⟩ hJ2
 obtain⟨hi1,hi2,hi3⟩:=hJ2
 refine aP.seq ?_;refine aP.seq ?_;refine aP.region_lit ?_;refine AL.cons rfl (aV.move (.inl rfl) rfl rfl) ?_;refine AL.cons rfl (aV.move (.inl rfl) rfl rfl) ?_;refine AL.cons rfl (aV.lenN rfl rfl rfl rfl VI (gB _)) ?_;refine AL.cons rfl (aV.lss rfl rfl rfl rfl) ?_;refine AL.cons rfl (aV.move (.inl rfl) rfl rfl) ?_;refine AL.splitB 12 rfl (fun g3=>?_) (fun g3=>?_)
 ·have g3b:=g3
  try simp only [Bool.and_eq_true,Bool.or_eq_true,Bool.and_eq_false_iff,Bool.or_eq_false_iff,decide_eq_true_eq,decide_eq_false_iff_not,Bool.not_eq_true',Bool.not_eq_false',Bool.not_eq_eq_eq_not,Bool.not_true,Bool.not_false,ge_iff_le,gt_iff_lt,Int.not_lt,Int.not_le] at g3b
  have g3n:i<code.length:=by omega
  refine AL.cons_gv rfl rfl rfl g3 (aV.move (.inl rfl) rfl rfl) ?_;refine AL.cons_gv rfl rfl rfl g3 (aV.lss rfl rfl rfl rfl) ?_;refine AL.cons rfl (aV.pickT rfl rfl rfl g3 rfl) ?_;refine AL.nil ?_;refine aP.cond rfl (fun h4=>?_) (fun h4=>?_)
  ·have h4b:=h4
   try simp only [Bool.and_eq_true,Bool.or_eq_true,Bool.and_eq_false_iff,Bool.or_eq_false_iff,decide_eq_true_eq,decide_eq_false_iff_not,Bool.not_eq_true',Bool.not_eq_false',Bool.not_eq_eq_eq_not,Bool.not_true,Bool.not_false,ge_iff_le,gt_iff_lt,Int.not_lt,Int.not_le] at h4b
   refine aP.skip ?_;refine aP.seq ?_;refine aP.block ?_;refine aP.region_lit ?_;refine AL.cons rfl (aV.move (.inl rfl) rfl rfl) ?_;refine AL.cons rfl (aV.mulW rfl rfl rfl rfl) ?_;refine AL.cons rfl (aV.move (.inl rfl) rfl rfl) ?_;refine AL.cons rfl (aV.move (.inl rfl) rfl rfl) ?_;refine AL.cons rfl (aV.index (k:=i) rfl rfl rfl rfl rfl (vH g3n) VI) ?_;refine AL.cons rfl (aV.loadEptr1 (d:= .leaf (.int .u8 (((code[i]).toNat:Int)))) rfl rfl rfl sh5 rfl) ?_;refine AL.cons rfl (aV.convI rfl rfl rfl ⟨_,Tryz.underlying5⟩ Tryz.underlying3 (by first|omega|(have:=UInt8.toNat_lt (code[i]);omega)) (by first|omega|(have:=UInt8.toNat_lt (code[i]);omega))) ?_;refine AL.cons rfl (aV.addW rfl rfl rfl rfl) ?_;refine AL.cons rfl (aV.addW rfl rfl rfl rfl) ?_;refine AL.cons rfl (aV.andI rfl rfl rfl rfl) ?_;refine AL.cons rfl (aV.move (.inr rfl) rfl rfl) ?_;refine AL.nil ?_;refine aP.region_lit ?_;refine AL.cons rfl (aV.move (.inl rfl) rfl rfl) ?_;refine AL.cons rfl (aV.addI rfl rfl rfl rfl (c:=((i+1:Nat):Int)) (by omega) (by omega)) ?_;refine AL.cons rfl (aV.move (.inr rfl) rfl rfl) ?_;refine AL.nil ?_;refine⟨(i+1,zH (aQ ((aQ ((aQ (h*131))+((code[i]).toNat:Int)))+7)) 1073741823),?_,?_,?_⟩
   ·exact⟨by omega,by omega,adA (by omega) (by omega) hi3 rfl⟩
   ·exact Wk.mk (nH.mk' trivial rfl) (yN hC) ⟨⟨_,rfl,.refl _,rfl⟩,⟨⟨_,rfl,lH,rfl⟩,⟨⟨_,rfl,lH,rfl⟩,trivial⟩⟩⟩
   ·dsimp only;omega
  ·have h4b:=h4
   try simp only [Bool.and_eq_true,Bool.or_eq_true,Bool.and_eq_false_iff,Bool.or_eq_false_iff,decide_eq_true_eq,decide_eq_false_iff_not,Bool.not_eq_true',Bool.not_eq_false',Bool.not_eq_eq_eq_not,Bool.not_true,Bool.not_false,ge_iff_le,gt_iff_lt,Int.not_lt,Int.not_le] at h4b
   refine aP.exit ?_;refine aP.seq ?_;refine aP.region_lit ?_;refine AL.cons rfl (aV.move (.inl rfl) rfl rfl) ?_;refine AL.cons rfl (aV.move (.inl rfl) rfl rfl) ?_;refine AL.cons rfl (aV.build rfl rfl ahU ahD rfl rfl) ?_;refine AL.cons rfl (aV.box (cs:= [.t (.row 1 (cL (code))),.t (.leaf (.int .i64 (0))),.t (.leaf (.int .i64 (h)))]) rfl rfl rfl rfl rfl) ?_;refine AL.cons rfl (aV.move (.inr rfl) rfl rfl) ?_;refine AL.nil ?_;refine aP.ret ?_
   obtain rfl:=VT (by omega) hi3
   exact xQ.mk (ps:= [_]) (.inr rfl) ⟨rfl,trivial⟩ rfl (nH.mk' (st':=⟨[some ⟨151,(DS.start code).cells⟩],[]⟩) ⟨⟨rfl,lH,rfl⟩,trivial⟩ rfl) (yN hC) (q:= .ptr 0 0) (.refl _) rfl ⟨0,rfl,rfl,fun i x hx=>by rcases i with _|i<;>simp at hx<;>simp,rfl⟩
 ·have g3b:=g3
  try simp only [Bool.and_eq_true,Bool.or_eq_true,Bool.and_eq_false_iff,Bool.or_eq_false_iff,decide_eq_true_eq,decide_eq_false_iff_not,Bool.not_eq_true',Bool.not_eq_false',Bool.not_eq_eq_eq_not,Bool.not_true,Bool.not_false,ge_iff_le,gt_iff_lt,Int.not_lt,Int.not_le] at g3b
  have g3n:i≥code.length:=by omega
  refine AL.skip_v rfl rfl rfl g3 rfl ?_;refine AL.skip_v rfl rfl rfl g3 rfl ?_;refine AL.cons rfl (aV.pickF rfl rfl rfl g3 rfl) ?_;refine AL.nil ?_;refine aP.cond rfl (fun h5=>?_) (fun h5=>?_)
  ·exact absurd (h5.symm.trans rfl) (by decide)
  ·have h5b:=h5
   try simp only [Bool.and_eq_true,Bool.or_eq_true,Bool.and_eq_false_iff,Bool.or_eq_false_iff,decide_eq_true_eq,decide_eq_false_iff_not,Bool.not_eq_true',Bool.not_eq_false',Bool.not_eq_eq_eq_not,Bool.not_true,Bool.not_false,ge_iff_le,gt_iff_lt,Int.not_lt,Int.not_le] at h5b
   refine aP.exit ?_;refine aP.seq ?_;refine aP.region_lit ?_;refine AL.cons rfl (aV.move (.inl rfl) rfl rfl) ?_;refine AL.cons rfl (aV.move (.inl rfl) rfl rfl) ?_;refine AL.cons rfl (aV.build rfl rfl ahU ahD rfl rfl) ?_;refine AL.cons rfl (aV.box (cs:= [.t (.row 1 (cL (code))),.t (.leaf (.int .i64 (0))),.t (.leaf (.int .i64 (h)))]) rfl rfl rfl rfl rfl) ?_;refine AL.cons rfl (aV.move (.inr rfl) rfl rfl) ?_;refine AL.nil ?_;refine aP.ret ?_
   obtain rfl:=VT (by omega) hi3
   exact xQ.mk (ps:= [_]) (.inr rfl) ⟨rfl,trivial⟩ rfl (nH.mk' (st':=⟨[some ⟨151,(DS.start code).cells⟩],[]⟩) ⟨⟨rfl,lH,rfl⟩,trivial⟩ rfl) (yN hC) (q:= .ptr 0 0) (.refl _) rfl ⟨0,rfl,rfl,fun i x hx=>by rcases i with _|i<;>simp at hx<;>simp,rfl⟩
end Go.Proofs.YtpioomclpaiomaaGreat

namespace Go.Proofs.YtpioomclpaiomaaGreat
open Go.RowKit
theorem aeW{w:World}{xs:List Int}{v:Value}(h:AZ w (.row 1 (xs.map fun n=> [Tr.leaf (.int .u8 n)])) v): ∃code:List UInt8,(xs.map fun n=> [Tr.leaf (.int .u8 n)])=cL code:=by
 have hr: ∀x∈xs,0≤x∧x≤255:=by
  intro x hx
  obtain⟨i,hi,rfl⟩:=List.mem_iff_getElem.1 hx
  cases h with
  |row c h1 h2 h3 h4=>
   have:=h4 i [Tr.leaf (.int .u8 xs[i])] (by simp [hi]) 0 _ rfl
   have:=(this.leaf_eq).2
   simpa [rY,Lit.wf,IntKind.min,IntKind.max,IntKind.bits,IntKind.signed] using this
 refine⟨xs.map fun n=>UInt8.ofNat n.toNat,?_⟩
 unfold cL
 rw [List.map_map]
 refine List.map_congr_left fun x hx=>?_
 have:=hr x hx
 have h2:(UInt8.ofNat x.toNat).toNat=x.toNat:=by
  rw [UInt8.toNat_ofNat']
  omega
 simp only [Function.comp,h2]
 rw [Int.toNat_of_nonneg this.1]
end Go.Proofs.YtpioomclpaiomaaGreat

namespace Go.Proofs.YtpioomclpaiomaaGreat
open Go.RowKit
theorem acT.nil{w:World}:acT w [] []:=trivial
theorem acT.cons{w:World}{p:PV}{ps:List PV}{v:Value}{vs:List Value}(h:RV0 w p v)(k:acT w ps vs):acT w (p::ps) (v::vs):=⟨h,k⟩
end Go.Proofs.YtpioomclpaiomaaGreat

namespace Go.Proofs.YtpioomclpaiomaaGreat
set_option linter.unusedSimpArgs false
set_option linter.unusedVariables false
open Go.RowKit Go.WalkArith Go.IntWalk Go.WideShapes
theorem gG.set{ok:Nat→Nat→Prop}{st:c3}{m:jD}{w:World}{q:PV}: ∀ {ps:List PV} {vs:List Value} {j:Nat},gG ok st m w ps vs→(∀v,vs[j]?=some v→RV ok st m w q v)→gG ok st m w (ps.set j q) vs
 | [],[],j,_,_=>by simp [gG]
 |p::ps,v::vs,0,h,k=>⟨k v rfl,h.2⟩
 |p::ps,v::vs,j+1,h,k=>⟨h.1,gG.set h.2 fun u hu=>k u (by simpa using hu)⟩
 | [],_::_,_,h,_=>h.elim
 |_::_,[],_,h,_=>h.elim
section
variable {P:Program} {C:oZ} {n:Nat} {s:AS}
theorem Wk.regBox{k j:Nat}{bx:c5}(E sz:Nat)(hsz:0<sz)(hb:s.st.boxes[k]?=some (some bx))(hj:bx.cells[j]?=some .nil):
 Wk C n s ⟨s.env,(s.st.addRow ⟨E,sz,[],false⟩).setBox k ⟨bx.ty,bx.cells.set j (.acc sz [] s.st.rows.length)⟩⟩:=fun m a w h=>by
 have hE:=IP (row:=⟨E,sz,[],false⟩) h.sto
 have hS:=PB (row:=⟨E,sz,[],false⟩) h.sto hsz rfl
 have h1:=h.step hE hS
 have hb1:(s.st.addRow ⟨E,sz,[],false⟩).boxes[k]?=some (some bx):=hb
 obtain⟨vs,hob,hcs⟩:=hS.box k bx hb1
 have hc:gG (jW C.av (s.st.addRow ⟨E,sz,[],false⟩) ⟨m.ρ,wB m.γ s.st.rows.length none⟩) (s.st.addRow ⟨E,sz,[],false⟩) ⟨m.ρ,wB m.γ s.st.rows.length none⟩ w (bx.cells.set j (.acc sz [] s.st.rows.length)) vs:=by
  refine gG.set hcs fun v hv=>?_
  obtain⟨u,hu,hr⟩:=hcs.get hj
  rw [hv] at hu
  cases hu
  obtain rfl:=(show v=_ from hr)
  exact⟨⟨E,sz,[],false⟩,by show(s.st.rows++ [_])[s.st.rows.length]?=_;simp,rfl,Nat.le_refl _,cF.nilRow _ _ _ _ (by unfold maxLen;omega),fun _=>by simp [b7,SQ]⟩
 exact⟨_,h1.step (IS hS hb1 rfl rfl rfl rfl fun _ _=>rfl) (PE hS hb1 rfl rfl rfl rfl (fun _ _=>rfl) hob hc)⟩
end
end Go.Proofs.YtpioomclpaiomaaGreat

namespace Go.Proofs.YtpioomclpaiomaaGreat
open Go.RowKit Go.WalkArith Go.IntWalk Go.WideShapes
section
variable {P:Program} {C:oZ} {n:Nat} {s:AS} {o:Oper}
theorem agQ{T:TypeId}(hT:P.underlying T=some .bool)(a b:Bool)(w:World):(Op.equalIn Op.maxDepth T (.bool a) (.bool b)).run P w= .ok (a==b) w:=by
 unfold Op.maxDepth Op.equalIn
 simp [run_underlying hT]
theorem aV.neqB{T yT:TypeId}{x y:Operand}{a b:Bool}(ho:o.op= .binOp .neq T x y yT)(hd:bQ o.dst n=true)(hx:s.ev x=some (.t (.leaf (.bool a))))(hy:s.ev y=some (.t (.leaf (.bool b))))(hT:P.underlying T=some .bool):
 aV P C n o s (s.putO o.dst (.t (.leaf (.bool (!decide (a=b)))))):=aV.bin ho hd hx hy (fun w=>by
  simp [eqGuard,binOp,Op.equal,agQ hT]
  cases a<;>cases b<;>rfl) trivial
end
end Go.Proofs.YtpioomclpaiomaaGreat

namespace Go.Proofs.YtpioomclpaiomaaGreat
set_option linter.unusedSimpArgs false
set_option linter.unusedVariables false
open Go.RowKit Go.WalkArith Go.IntWalk Go.WideShapes
inductive LR (σ β:Type) where
 |next (s:σ)
 |brk (s:σ)
 |ret (x:β)
def sw{α:Type}(b:Bool)(x y:α):α:=match b with
 |true=>x
 |false=>y
theorem EV{α:Type}{b:Bool}{x y z:α}(h:b=true)(k:x=z):sw b x y=z:=by rw [h];exact k
theorem uL{α:Type}{b:Bool}{x y z:α}(h:b=false)(k:y=z):sw b x y=z:=by rw [h];exact k
def lt{α β:Type}(x:α)(f:α→β):β:=f x
theorem ltE{α β:Type}{x y:α}{f:α→β}{z:β}(h:y=x)(k:f y=z):lt x f=z:=by subst h;exact k
noncomputable def gd{α:Type}(p:Prop)(x:Option α):Option α:= @ite _ p (Classical.propDecidable p) x none
theorem uG{α:Type}{p:Prop}{x z:Option α}(h:p)(k:x=z):gd p x=z:=by unfold gd;rw [if_pos h];exact k
theorem gdF{α:Type}{p:Prop}{x:Option α}(h: ¬p):gd p x=none:=by unfold gd;rw [if_neg h]
def bd{α β:Type}(m:Option α)(f:α→Option β):Option β:=match m with
 |none=>none
 |some a=>f a
theorem GY{α β:Type}{m:Option α}{f:α→Option β}{a:α}{z:Option β}(h:m=some a)(k:f a=z):bd m f=z:=by rw [h];exact k
def so{σ β:Type}(m:Option (β⊕σ))(f:σ→Option β):Option β:=match m with
 |none=>none
 |some (.inl x)=>some x
 |some (.inr s)=>f s
theorem soR{σ β:Type}{m:Option (β⊕σ)}{f:σ→Option β}{s:σ}{z:Option β}(h:m=some (.inr s))(k:f s=z):so m f=z:=by rw [h];exact k
theorem soL{σ β:Type}{m:Option (β⊕σ)}{f:σ→Option β}{x:β}(h:m=some (.inl x)):so m f=some x:=by rw [h];rfl
def loopN{σ β:Type}(f:Nat→σ→Option (LR σ β)):Nat→Nat→σ→Option (β⊕σ)
 |0,_,s=>some (.inr s)
 |k+1,i,s=>match f i s with
  |none=>none
  |some (.next s')=>loopN f k (i+1) s'
  |some (.brk s')=>some (.inr s')
  |some (.ret x)=>some (.inl x)
def loopW{σ β:Type}(f:σ→Option (LR σ β)):Nat→σ→Option (β⊕σ)
 |0,_=>none
 |k+1,s=>match f s with
  |none=>none
  |some (.next s')=>loopW f k s'
  |some (.brk s')=>some (.inr s')
  |some (.ret x)=>some (.inl x)
section
variable {σ β:Type} {f:Nat→σ→Option (LR σ β)} {n i:Nat} {s s':σ} {x:β} {R:Option (β⊕σ)}
theorem vQ(h:i<n)(hJ:R=loopN f (n-i) i s)(e:f i s=some (.next s')):R=loopN f (n-(i+1)) (i+1) s':=by
 rw [hJ,show n-i=(n-(i+1))+1 by omega,loopN,e]
theorem ac4(h:i<n)(hJ:R=loopN f (n-i) i s)(e:f i s=some (.brk s')):R=some (.inr s'):=by
 rw [hJ,show n-i=(n-(i+1))+1 by omega,loopN,e]
theorem ac7(h:i<n)(hJ:R=loopN f (n-i) i s)(e:f i s=some (.ret x)):R=some (.inl x):=by
 rw [hJ,show n-i=(n-(i+1))+1 by omega,loopN,e]
theorem ac5(h:n≤i)(hJ:R=loopN f (n-i) i s):R=some (.inr s):=by
 rw [hJ,show n-i=0 by omega,loopN]
end
section
variable {σ β:Type} {f:σ→Option (LR σ β)} {k:Nat} {s s':σ} {x:β} {R:Option (β⊕σ)}
end
section
variable {P:Program} {C:oZ} {n:Nat} {s:AS} {Q:Exit→AS→Prop}
def QC(C:oZ)(n:Nat)(Q:Exit→AS→Prop):Prop:= ∀e s s',Wk C n s s'→Q e s'→Q e s
def NC(C:oZ)(n:Nat)(N:AS→Prop):Prop:= ∀s s',Wk C n s s'→N s'→N s
theorem ai3{c:Code}:NC C n (aP P C n c Q):=fun _ _ h k=>aP.weak h k
theorem aiF{N:AS→Prop}(hn:NC C n N)(hq:QC C n Q):QC C n (YB N Q):=fun e s s' h k=>by
 cases e with
 |normal=>exact hn s s' h k
 |_=>exact hq _ s s' h k
theorem agO{id:Nat}(hq:QC C n Q):QC C n (tG id Q):=fun e s s' h k=>by
 cases e with
 |exit i=>
  simp only [tG] at k ⊢
  split
  ·rename_i hi;rw [if_pos hi] at k;exact hq _ s s' h k
  ·rename_i hi;rw [if_neg hi] at k;exact hq _ s s' h k
 |_=>exact hq _ s s' h k
theorem aiE{fn:Func}{R:PV→c3→Prop}:QC C n (xQ P C n fn R):=fun e s s' h k=>⟨k.1,fun m a w hr=>by
 obtain⟨m',h'⟩:=h m a w hr
 exact k.2 m' a w h'⟩
end
end Go.Proofs.YtpioomclpaiomaaGreat

namespace Go.Proofs.YtpioomclpaiomaaGreat
set_option linter.unusedSimpArgs false
set_option linter.unusedVariables false
open Go.RowKit Go.WalkArith Go.IntWalk Go.WideShapes
section
variable {P:Program} {C:oZ} {n:Nat} {s:AS} {o:Oper}
theorem aV.makeSlice{T E sz by_ N:Nat}{x y:Operand}(ho:o.op= .makeSlice T x y)(hd:bQ o.dst n=true)(hx:s.ev x=some (.t (.leaf (.int .i64 (N:Int)))))(hy:s.ev y=some (.t (.leaf (.int .i64 (N:Int)))))
 (hT:elemOf? P T=some (E,sz,by_)) (hz:(P.info? E).bind (fun i=>i.zero.map (fun z=>z.cells.size))=some sz) (hsz:0<sz) (hb:by_*N≤281474976710656) (hN:N≤9223372036854775807):
 aV P C n o s ((⟨s.env,s.st.addRow ⟨E,sz,[],true⟩⟩:AS).putO o.dst (.full sz N s.st.rows.length)):=
 aV.run hd (s1:=⟨s.env,s.st.addRow ⟨E,sz,[],true⟩⟩) (fun m a w h=>by
  obtain⟨i,hu,hi,hs,hby⟩:=elemOf?.spec hT
  have h1:=(cF.leaf_eq (h.eval hx)).1
  have h2:=(cF.leaf_eq (h.eval hy)).1
  cases hzz:i.zero with
  |none=>simp [hi,hzz] at hz
  |some z=>
   have hb':(i.bytes:Int)*(N:Int)≤281474976710656:=by
    rw [hby]
    have:((by_*N:Nat):Int)≤281474976710656:=by omega
    rwa [Int.natCast_mul] at this
   have hr:=run_make (P:=P) w T E i z hu hi hzz .i64 .i64 N N (by omega) (Int.le_refl _) hb' (by omega)
   simp only [Int.toNat_natCast] at hr
   refine⟨.slice (some ⟨w.heap.size,0,none⟩) N N,⟨m.ρ,wB m.γ s.st.rows.length (some (w.heap.size,N))⟩,_,?_,IR (row:=⟨E,sz,[],true⟩) (c:=N) (cur:=madeCells z.cells (N*i.size)) h.sto,PD (row:=⟨E,sz,[],true⟩) h.sto hsz rfl (by rw [size_madeCells,hs]) (by unfold maxLen;omega),?_⟩
   ·unfold execOp
    simp only [ho,h1,h2,Sem.run_bind,hr,Result.andThen_ok]
    rfl
   ·exact⟨⟨E,sz,[],true⟩,w.heap.size,by show(s.st.rows++ [_])[s.st.rows.length]?=_;simp,rfl,rfl,b7 _ _ _,rfl⟩) rfl
theorem aV.indexFull{T E sz by_ N r k:Nat}{x i:Operand}(ho:o.op= .indexAddr T x i)(hd:bQ o.dst n=true)(hx:s.ev x=some (.full sz N r))(hi:s.ev i=some (.t (.leaf (.int .i64 (k:Int)))))(hk:k<N)(hT:elemOf? P T=some (E,sz,by_)):
 aV P C n o s (s.putO o.dst (.rptr r k)):=
 aV.quiet (cX hd) fun m a w h=>by
  obtain⟨row,g,h1,h2,h3,h4,h5⟩:=h.eval hx
  have h6:=(cF.leaf_eq (h.eval hi)).1
  refine⟨.pointer (some ⟨g,0+k*sz,none⟩),?_,row,g,N,h1,h3,h4,by rw [h2,Nat.zero_add]⟩
  unfold execOp
  simp only [ho,h5,h6,Sem.run_bind,run_indexAt' hT hk,Result.andThen_ok]
  rfl
theorem aV.storeRptr{T sz N r k:Nat}{x y:Operand}{row:n8}{p:PV}{e:List Tr}{es2:List (List Tr)}(j:Nat)(ho:o.op= .store T x y)(hx:s.ev x=some (.rptr r k))(hf:s.lk j=some (.full sz N r))(hrow:s.st.rows[r]?=some row)(hy:s.ev y=some p)(ht:sI p=true)
 (hle:rQ (tV p) (e.map PV.t)) (hel:e.length=sz) (hflat:EL (e.map PV.t)=true) (hT:(P.info? T).map (·.size)=some sz) (hk:k=row.es.length) (hkN:k<N) (he2:row.es++ [e]=es2):
 aV P C n o s ((⟨s.env,s.st.setRow r { row with es:=es2 }⟩:AS).delO o.dst):=
 aV.runU (s1:=⟨s.env,s.st.setRow r { row with es:=es2 }⟩) (fun m a w h=>by
  subst he2 hk
  obtain⟨vf,-,row0,g,q1,q2,q3,q4,q5⟩:=h.env j _ hf
  rw [hrow] at q1
  cases q1
  subst q2
  obtain⟨row1,g1,n1,p1,p3,p4,p5⟩:=h.eval hx
  rw [hrow] at p1
  cases p1
  rw [q4] at p4
  injection p4 with p4
  injection p4 with e1 e2
  subst e1 e2
  have hr:=rQ.rv hle (CK (h.eval hy) (sI.ne ht))
  have hl:(a.eval y).cells.toList.length=row.sz:=by have:=hr.length;rw [List.length_map,hel] at this;exact this.symm
  obtain⟨hpos,hlens,hplace⟩:=h.sto.row r row hrow
  rcases hplace with⟨z1,-⟩|⟨g',c',cur,z1,hob,hcs,hfit,hmax,hrep⟩
  ·rw [q4] at z1;cases z1
  rw [q4] at z1
  injection z1 with z1
  injection z1 with e1 e2
  subst e1 e2
  have hfitc:row.es.length*row.sz+row.sz≤cur.size:=by
   rw [hcs]
   have:=Nat.mul_le_mul_right row.sz (Nat.succ_le_of_lt hkN)
   rwa [Nat.succ_mul] at this
  have hrun:=AH (P:=P) (T:=T) (d:=row.es.length*row.sz) (v:=a.eval y) hob (by rw [hT,← hl];simp) (by have hq:(a.eval y).cells.size=row.sz:=(by simpa using hl);omega) (EL.one hflat hr)
  have hsp: ∀q:Nat,q<row.es.length*row.sz→(splice cur (row.es.length*row.sz) (a.eval y).cells.toList)[q]?=cur[q]?:=fun q hq=>by
   unfold Go.Proofs.YtpioomclpaiomaaGreat.splice
   rw [List.getElem?_toArray,List.append_assoc,List.getElem?_append_left (by simp;omega),List.getElem?_take,if_pos hq,Array.getElem?_toList]
  have hG:MU C.av s.st m w r row [e] g N (splice cur (row.es.length*row.sz) (a.eval y).cells.toList) (w.setRow g (splice cur (row.es.length*row.sz) (a.eval y).cells.toList)):=by
   refine⟨hrow,rfl,rfl,rfl,by simp,fun b hb hne=>setRow_other w g b _ hne,setRow_heap w g cur _ _ _ hob,?_,by simp only [List.length_singleton];omega,hmax,fun e' he'=>?_,fun i e' hi j' d hd=>?_,fun i e' hi j' d hd=>?_,.inl ⟨N,cur,q4,hob,fun o ho=>hsp o ho⟩,fun _=>q4⟩
   ·unfold Go.Proofs.YtpioomclpaiomaaGreat.splice
    simp only [List.size_toArray,List.length_append,List.length_take,List.length_drop,Array.length_toList,hl]
    omega
   ·have:e'=e:=by simpa using he'
    rw [this];exact hel
   ·cases hrep with
    |row cf r1 r2 r3 r4=>
     obtain⟨b',off',hbo,hb',r5⟩:=r3 (by rintro e0;rw [e0] at hi;simp at hi)
     injection hbo with hbo
     injection hbo with e1 e2 e3
     subst e1 e2
     have hc:=(r5 i e' hi j' d hd).2
     rw [hob.cell,Nat.zero_add] at hc
     refine⟨cf i j',?_,r4 i e' hi j' d hd⟩
     have hi1:=c4 hi
     have hj1:j'<row.sz:=by rw [← hlens e' (List.mem_of_getElem? hi)];exact c4 hd
     have hlt:i*row.sz+j'<row.es.length*row.sz:=by
      have:(i+1)*row.sz≤row.es.length*row.sz:=Nat.mul_le_mul_right _ hi1
      rw [Nat.succ_mul] at this
      omega
     rw [hsp _ hlt];exact hc
   ·obtain⟨rfl,rfl⟩:i=0∧e'=e:=by
     rcases i with _|i
     ·simp at hi;exact⟨rfl,hi.symm⟩
     ·simp at hi
    obtain⟨v,hv,hrv⟩:=hr.get (j:=j') (p:= .t d) (by rw [List.getElem?_map,hd];rfl)
    refine⟨v,?_,hrv⟩
    have hjl:=c4 hv
    unfold Go.Proofs.YtpioomclpaiomaaGreat.splice
    have htl:(cur.toList.take (row.es.length*row.sz)).length=row.es.length*row.sz:=by simp;omega
    rw [List.getElem?_toArray,Nat.add_zero,List.append_assoc,List.getElem?_append_right (by rw [htl];omega),htl,Nat.add_sub_cancel_left,List.getElem?_append_left hjl,hv]
  have hgm:wB m.γ r (some (g,N))=m.γ:=by
   funext q
   by_cases hqr:q=r
   ·subst hqr;rw [b7,q4]
   ·rw [dK hqr]
  refine⟨_,_,?_,hG.ev h.sto,hG.sto h.sto⟩
  unfold execOp
  simp only [ho,p5,Instr.storeAt,Instr.sureAddr,Sem.run_bind,Sem.run_pure,Result.andThen_ok,hrun]) rfl
theorem Wk.full{i E sz N r:Nat}{es:List (List Tr)}{b:Bool}(hx:s.lk i=some (.full sz N r))(hrow:s.st.rows[r]?=some ⟨E,sz,es,b⟩)(hl:es.length=N):Wk C n s (s.put i (.t (.row sz es))):=fun m a w h=>by
 refine⟨m,h.dfr,h.tsz,h.sto,fun j q hq=>?_,h.ev⟩
 rw [AS.lk_put] at hq
 split at hq
 ·rename_i e
  subst e
  cases hq
  obtain⟨v,hv,row,g,q1,q2,q3,q4,q5⟩:=h.env j _ hx
  refine⟨v,hv,?_⟩
  rw [hrow] at q1
  cases q1
  obtain⟨-,-,hplace⟩:=h.sto.row r _ hrow
  rcases hplace with⟨z1,-⟩|⟨g',c',cur,z1,hob,hcs,hfit,hmax,hrep⟩
  ·rw [q4] at z1;cases z1
  rw [q4] at z1
  injection z1 with z1
  injection z1 with e1 e2
  subst e1 e2
  subst q5
  show cF _ _ (.row sz es) _
  have:cF (jW C.av s.st m) w (.row sz es) (.slice (some ⟨g,0,none⟩) es.length N):=hrep
  rw [hl] at this
  exact this
 ·exact h.env j q hq
end
end Go.Proofs.YtpioomclpaiomaaGreat

namespace Go.Proofs.YtpioomclpaiomaaGreat
set_option linter.unusedSimpArgs false
set_option linter.unusedVariables false
open Go.RowKit Go.WalkArith Go.IntWalk Go.WideShapes
def zC(v:ByteArray)(k:Nat):UInt8:=(v[k]?).getD 0
section
variable {P:Program} {C:oZ} {n:Nat} {s:AS} {o:Oper}
theorem ajK(b:UInt8):rY (.int .u8 (b.toNat:Int)):=by
 have:=b.toNat_lt
 simp [rY,Lit.wf,IntKind.min,IntKind.max,IntKind.bits,IntKind.signed]
 omega
theorem aV.indexS{T:TypeId}{x i:Operand}{v:ByteArray}{k:Nat}(ho:o.op= .index T x i)(hd:bQ o.dst n=true)(hx:s.ev x=some (.t (.leaf (.string v))))(hi:s.ev i=some (.t (.leaf (.int .i64 (k:Int)))))(hk:k<v.size)(hT:P.underlying T=some .string):
 aV P C n o s (s.putO o.dst (.t (.leaf (.int .u8 ((zC v k).toNat:Int))))):=
 aV.quiet (cX hd) fun m a w h=>by
  have h1:=(cF.leaf_eq (h.eval hx)).1
  have h2:=(cF.leaf_eq (h.eval hi)).1
  refine⟨.int .u8 ((zC v k).toNat:Int),?_,cF.leaf (ajK _)⟩
  have h3:v[k]?=some v[k]:=by simp [hk]
  unfold execOp
  simp [ho,h1,h2,Instr.index,asIntOf,run_underlying hT,h3,zC]
theorem aV.indexSI{T:TypeId}{x i:Operand}{v:ByteArray}{y:Int}(ho:o.op= .index T x i)(hd:bQ o.dst n=true)(hx:s.ev x=some (.t (.leaf (.string v))))(hi:s.ev i=some (.t (.leaf (.int .i64 y))))(h0:0≤y)(hk:y.toNat<v.size)(hT:P.underlying T=some .string):
 aV P C n o s (s.putO o.dst (.t (.leaf (.int .u8 ((zC v y.toNat).toNat:Int))))):=
 aV.indexS (k:=y.toNat) ho hd hx (by rw [hi,Int.toNat_of_nonneg h0]) hk hT
def KP(s:AS):Option Operand→Option Int
 |none=>some 0
 |some x=>match s.ev x with
  |some (.t (.leaf (.int .i64 y)))=>some y
  |_=>none
def xA(s:AS)(len:Nat):Option Operand→Option Int
 |none=>some (len:Int)
 |some x=>match s.ev x with
  |some (.t (.leaf (.int .i64 y)))=>some y
  |_=>none
theorem YY{m:jD}{a:Act}{w:World}(h:RA C n s m a w){x:Operand}{y:Int}(hx:s.ev x=some (.t (.leaf (.int .i64 y)))):a.eval x= .int .i64 y:=(cF.leaf_eq (h.eval hx)).1
theorem KP.some'{x:Operand}{y:Int}(h:KP s (some x)=some y):s.ev x=some (.t (.leaf (.int .i64 y))):=by
 unfold KP at h
 simp only at h
 split at h
 ·rename_i z hz
  simp only [Option.some.injEq] at h
  rw [hz,h]
 ·cases h
theorem xA.some'{x:Operand}{y:Int}{len:Nat}(h:xA s len (some x)=some y):s.ev x=some (.t (.leaf (.int .i64 y))):=by
 unfold xA at h
 simp only at h
 split at h
 ·rename_i z hz
  simp only [Option.some.injEq] at h
  rw [hz,h]
 ·cases h
theorem NU{m:jD}{a:Act}{w:World}(h:RA C n s m a w){isS:Bool}{len cap:Nat}{lo hi:Option Operand}{l k:Int}(hlen:len≤cap)(h1:KP s lo=some l)(h2:xA s len hi=some k)(h3:0≤l)(h4:l≤k)(h5:k≤(len:Int)):
 (Instr.sliceBounds isS len cap (lo.map a.eval) (hi.map a.eval) none).run P w= .ok (l.toNat,k.toNat,cap) w:=by
 have hk:0≤k:=by omega
 have hkc:k≤(cap:Int):=by omega
 have hlk:l≤(k.toNat:Int):=by omega
 cases lo with
 |none=>
  simp only [KP,Option.some.injEq] at h1
  subst h1
  cases hi with
  |none=>
   simp only [xA,Option.some.injEq] at h2
   subst h2
   simp [Instr.sliceBounds]
  |some y=>
   have e:=YY h (xA.some' h2)
   simp [Instr.sliceBounds,Instr.sliceBound,e,asIntOf,hk,hkc]
 |some x=>
  have e:=YY h (KP.some' h1)
  cases hi with
  |none=>
   simp only [xA,Option.some.injEq] at h2
   subst h2
   simp [Instr.sliceBounds,Instr.sliceBound,e,asIntOf,h3,h4]
  |some y=>
   have e2:=YY h (xA.some' h2)
   have hm:max k 0=k:=Int.max_eq_left hk
   simp [Instr.sliceBounds,Instr.sliceBound,e,e2,asIntOf,hk,hkc,h3,hlk,hm,h4]
   try omega
theorem aV.sliceS{T:TypeId}{x:Operand}{lo hi:Option Operand}{v:ByteArray}{l k:Int}(ho:o.op= .slice T x lo hi none)(hd:bQ o.dst n=true)(hx:s.ev x=some (.t (.leaf (.string v))))(h1:KP s lo=some l)(h2:xA s v.size hi=some k)(h3:0≤l∧l≤k∧k≤(v.size:Int))(hT:P.underlying T=some .string):
 aV P C n o s (s.putO o.dst (.t (.leaf (.string (v.extract l.toNat k.toNat))))):=
 aV.quiet (cX hd) fun m a w h=>by
  obtain⟨e,h6⟩:=cF.leaf_eq (h.eval hx)
  have h6:v.size≤maxLen:=h6
  refine⟨.string (v.extract l.toNat k.toNat),?_,cF.leaf ?_⟩
  ·have hb:=NU (P:=P) h (isS:=false) (Nat.le_refl v.size) h1 h2 h3.1 h3.2.1 h3.2.2
   unfold execOp
   simp [ho,e,Instr.sliceAt,Instr.slice,run_underlying hT,hb]
  ·show(v.extract l.toNat k.toNat).size≤maxLen
   rw [ByteArray.size_extract]
   omega
theorem cF.part{ok:Nat→Nat→Prop}{w:World}{sz:Nat}{es:List (List Tr)}{a:Option Addr}{cap l k:Nat}(h:cF ok w (.row sz es) (.slice a es.length cap))(h1:l≤k)(h2:k≤es.length):cF ok w (.row sz ((es.take k).drop l)) (.slice (if cap=l then a else a.map (·.add (l*sz))) (k-l) (cap-l)):=by
 cases h with
 |row c q1 q2 q3 q4=>
  have hlen:((es.take k).drop l).length=k-l:=by simp;omega
  have hget: ∀(i:Nat) e,((es.take k).drop l)[i]?=some e→es[l+i]?=some e:=fun i e he=>by
   rw [List.getElem?_drop,List.getElem?_take] at he
   split at he
   ·exact he
   ·cases he
  have:=cF.row (ok:=ok) (w:=w) (sz:=sz) (es:=(es.take k).drop l) (a:=if cap=l then a else a.map (·.add (l*sz))) (cap:=cap-l) (fun i j=>c (l+i) j) (by rw [hlen];omega) (by omega) (fun hne=>?_) (fun i e he j d hd=>q4 _ e (hget i e he) j d hd)
  ·rwa [hlen] at this
  ·have hkl:l<k:=by
    rcases Nat.lt_or_ge l k with h|h
    ·exact h
    ·exact absurd (List.length_eq_zero_iff.1 (by rw [hlen];omega)) hne
   obtain⟨b,off,rfl,hb,q5⟩:=q3 (by rintro rfl;simp at h2;omega)
   refine⟨b,off+l*sz,?_,hb,fun i e he j d hd=>?_⟩
   ·rw [if_neg (by omega)]
    have hadd:(⟨b,off,none⟩:Addr).add (l*sz)=⟨b,off+l*sz,none⟩:=by unfold Addr.add;split<;>simp_all
    simp [hadd]
   ·have:=q5 (l+i) e (hget i e he) j d hd
    rw [show off+l*sz+i*sz+j=off+(l+i)*sz+j by rw [Nat.add_mul];omega]
    exact this
theorem aV.sliceR{T E sz by_:Nat}{x:Operand}{lo hi:Option Operand}{p:PV}{es:List (List Tr)}{l k:Int}(ho:o.op= .slice T x lo hi none)(hd:bQ o.dst n=true)(hx:s.ev x=some p)(hp:l4 p=some (sz,es))(h1:KP s lo=some l)(h2:xA s es.length hi=some k)(h3:0≤l∧l≤k∧k≤(es.length:Int))(hT:elemOf? P T=some (E,sz,by_)):
 aV P C n o s (s.putO o.dst (.t (.row sz ((es.take k.toNat).drop l.toNat)))):=
 aV.quiet (cX hd) fun m a w h=>by
  have hr:=tK hp (h.eval hx)
  obtain⟨i,hu,hi',hs,-⟩:=elemOf?.spec hT
  obtain⟨ad,cap,hv,hlc,hcm⟩:=hr.shape
  rw [hv] at hr
  refine⟨_,?_,hr.part (l:=l.toNat) (k:=k.toNat) (by omega) (by omega)⟩
  have hb:=NU (P:=P) h (isS:=true) hlc h1 h2 h3.1 h3.2.1 h3.2.2
  unfold execOp
  simp [ho,hv,Instr.sliceAt,Instr.slice,run_underlying hu,hb,Go.sizeOf,typeInfo,hi',hs]
theorem aV.eqlP{T yT:TypeId}{x y:Operand}{a b c d:Int}(ho:o.op= .binOp .eql T x y yT)(hd:bQ o.dst n=true)(hx:s.ev x=some (.agg [.t (.leaf (.int .i64 a)),.t (.leaf (.int .i64 b))]))(hy:s.ev y=some (.agg [.t (.leaf (.int .i64 c)),.t (.leaf (.int .i64 d))]))
 (hg:P.eqGuardType P.depth T=false) (hq: ∀(a b c d:Int) (w:World),(Op.equalIn Op.maxDepth T (.agg #[.int .i64 a,.int .i64 b]) (.agg #[.int .i64 c,.int .i64 d])).run P w= .ok (decide (a=c)&&decide (b=d)) w):
 aV P C n o s (s.putO o.dst (.t (.leaf (.bool (decide (a=c)&&decide (b=d)))))):=
 aV.quiet (cX hd) fun m ac w h=>by
  obtain⟨vs,h1,h2⟩:=h.eval hx
  obtain⟨us,k1,k2⟩:=h.eval hy
  obtain⟨v0,v1,rfl⟩: ∃v0 v1,vs= [v0,v1]:=by
   have:=h2.length
   match vs,this with
   | [v0,v1],_=>exact⟨v0,v1,rfl⟩
  obtain⟨u0,u1,rfl⟩: ∃v0 v1,us= [v0,v1]:=by
   have:=k2.length
   match us,this with
   | [v0,v1],_=>exact⟨v0,v1,rfl⟩
  obtain⟨rfl,-⟩:=cF.leaf_eq h2.1
  obtain⟨rfl,-⟩:=cF.leaf_eq h2.2.1
  obtain⟨rfl,-⟩:=cF.leaf_eq k2.1
  obtain⟨rfl,-⟩:=cF.leaf_eq k2.2.1
  refine⟨.bool (decide (a=c)&&decide (b=d)),?_,cF.leaf trivial⟩
  unfold execOp
  simp [ho,h1,k1,eqGuard,hg,binOp,Op.equal,hq]
theorem aV.neqP{T yT:TypeId}{x y:Operand}{a b c d:Int}(ho:o.op= .binOp .neq T x y yT)(hd:bQ o.dst n=true)(hx:s.ev x=some (.agg [.t (.leaf (.int .i64 a)),.t (.leaf (.int .i64 b))]))(hy:s.ev y=some (.agg [.t (.leaf (.int .i64 c)),.t (.leaf (.int .i64 d))]))
 (hg:P.eqGuardType P.depth T=false) (hq: ∀(a b c d:Int) (w:World),(Op.equalIn Op.maxDepth T (.agg #[.int .i64 a,.int .i64 b]) (.agg #[.int .i64 c,.int .i64 d])).run P w= .ok (decide (a=c)&&decide (b=d)) w):
 aV P C n o s (s.putO o.dst (.t (.leaf (.bool (!(decide (a=c)&&decide (b=d))))))):=
 aV.quiet (cX hd) fun m ac w h=>by
  obtain⟨vs,h1,h2⟩:=h.eval hx
  obtain⟨us,k1,k2⟩:=h.eval hy
  obtain⟨v0,v1,rfl⟩: ∃v0 v1,vs= [v0,v1]:=by
   have:=h2.length
   match vs,this with
   | [v0,v1],_=>exact⟨v0,v1,rfl⟩
  obtain⟨u0,u1,rfl⟩: ∃v0 v1,us= [v0,v1]:=by
   have:=k2.length
   match us,this with
   | [v0,v1],_=>exact⟨v0,v1,rfl⟩
  obtain⟨rfl,-⟩:=cF.leaf_eq h2.1
  obtain⟨rfl,-⟩:=cF.leaf_eq h2.2.1
  obtain⟨rfl,-⟩:=cF.leaf_eq k2.1
  obtain⟨rfl,-⟩:=cF.leaf_eq k2.2.1
  refine⟨.bool (!(decide (a=c)&&decide (b=d))),?_,cF.leaf trivial⟩
  unfold execOp
  simp [ho,h1,k1,eqGuard,hg,binOp,Op.equal,hq]
end
end Go.Proofs.YtpioomclpaiomaaGreat

namespace Go.Proofs.YtpioomclpaiomaaGreat
open Go.RowKit Go.Proofs
theorem agR(a b:Int)(d:Nat)(w:World):(Op.equalIn (d+1) 3 (.int .i64 a) (.int .i64 b)).run Tryz.prog w= .ok (a==b) w:=by
 unfold Op.equalIn
 simp [run_underlying Tryz.underlying3]
theorem agY:Tryz.prog.stoodInHeld 45=false:=by kernel_rfl
theorem M7:Tryz.prog.eqGuardType Tryz.prog.depth 45=false:=by kernel_rfl
theorem M8(a b c d:Int)(w:World):(Op.equalIn Op.maxDepth 45 (.agg #[.int .i64 a,.int .i64 b]) (.agg #[.int .i64 c,.int .i64 d])).run Tryz.prog w= .ok (decide (a=c)&&decide (b=d)) w:=by
 show(Op.equalIn (9998+1+1) 45 _ _).run Tryz.prog w=_
 rw [Op.equalIn]
 have h3:=CX jQ
 have h4:=run_sizeOf' jQ
 simp [run_underlying Tryz.underlying45,agY,part,h3,h4,agR]
 by_cases h1:a=c<;>by_cases h2:b=d<;>simp [h1,h2]
end Go.Proofs.YtpioomclpaiomaaGreat

namespace Go.Proofs.YtpioomclpaiomaaGreat
set_option linter.unusedSimpArgs false
set_option linter.unusedVariables false
open Go.RowKit Go.WalkArith Go.IntWalk Go.WideShapes
instance:Inhabited ByteArray:=⟨⟨#[]⟩⟩
def a3{α:Type}[Inhabited α](l:List α)(k:Nat):α:=(l[k]?).getD default
theorem iW{α:Type}[Inhabited α]{l:List α}{k:Nat}(h:k<l.length):a3 l k=l[k]:=by simp [a3,h]
theorem aeD{l:List ByteArray}{k:Nat}(h:k<l.length):(aW l)[k]?=some [.leaf (.string (a3 l k))]:=by rw [iW h];exact RN h
theorem ac2{l:List Int}{k:Nat}(h:k<l.length):(nX l)[k]?=some [.leaf (.int .i64 (a3 l k))]:=by rw [iW h];exact ac3 h
theorem YV{l:List UInt8}{k:Nat}(h:k<l.length):(cL l)[k]?=some [.leaf (.int .u8 ((a3 l k).toNat:Int))]:=by rw [iW h];exact vH h
theorem wN{a b c:Nat}(h:a+b≤68719476736)(hc:c≤2048):(a+b)*c≤140737488355328:=by
 have:=Nat.mul_le_mul h hc
 omega
theorem YA(l:List ByteArray)(a b:Nat):((aW l).take b).drop a=aW ((l.take b).drop a):=by simp [aW,List.map_drop,List.map_take]
theorem aV.congrP{P:Program}{C:oZ}{n:Nat}{s:AS}{o:Oper}{sz:Nat}{es es':List (List Tr)}(h:aV P C n o s (s.putO o.dst (.t (.row sz es))))(e:es=es'):aV P C n o s (s.putO o.dst (.t (.row sz es'))):=e ▸ h
theorem sH{a b:Nat}(h:decide ((a:Int)<(b:Int))=true):a<b:=a8 h
theorem sG{a b:Nat}(h:decide ((a:Int)<(b:Int))=false):b≤a:=ac9 h
theorem Y8{a:Nat}{b:Int}(h:decide ((a:Int)<b)=true):a<b.toNat:=by have:=of_decide_eq_true h;omega
theorem Y7{a:Nat}{b:Int}(h:decide ((a:Int)<b)=false):b.toNat≤a:=by have:=of_decide_eq_false h;omega
def n9(s:c3)(fb0 fr0:List Nat)(pre:c3):List Nat→List (Option c5)→Prop
 | [],[]=>True
 |k::fb,some x::bs=>(∃y,s.boxes[k]?=some (some y)∧y.ty=x.ty∧rQ y.cells (AQ fb0 fr0 x.cells)∧l0 pre x.cells=true)∧n9 s fb0 fr0 pre fb bs
 |_,_=>False
def qY(s:c3):List Nat→List n8→Prop
 | [],[]=>True
 |r::fr,row::rs=>s.rows[r]?=some row∧qY s fr rs
 |_,_=>False
theorem n9.len{s pre:c3}{fb0 fr0:List Nat}: ∀ {fb:List Nat} {bs:List (Option c5)},n9 s fb0 fr0 pre fb bs→fb.length=bs.length
 | [],[],_=>rfl
 |_::_,some _::_,h=>by simp [n9.len h.2]
 |_::_,none::_,h=>h.elim
 | [],_::_,h=>h.elim
 |_::_,[],h=>h.elim
theorem n9.get{s pre:c3}{fb0 fr0:List Nat}: ∀ {fb:List Nat} {bs:List (Option c5)},n9 s fb0 fr0 pre fb bs→ ∀k,k<bs.length→ ∃x,bs[k]?=some (some x)∧ ∃y,s.boxes[fb.getD k 0]?=some (some y)∧y.ty=x.ty∧rQ y.cells (AQ fb0 fr0 x.cells)∧l0 pre x.cells=true
 | [],[],_,k,h=>by simp at h
 |_::_,some x::_,h,0,_=>⟨x,rfl,h.1⟩
 |_::_,some _::_,h,k+1,hk=>by simpa using n9.get h.2 k (by simpa using hk)
 |_::_,none::_,h,_,_=>h.elim
 | [],_::_,h,_,_=>h.elim
 |_::_,[],h,_,_=>h.elim
theorem qY.len{s:c3}: ∀ {fr:List Nat} {rs:List n8},qY s fr rs→fr.length=rs.length
 | [],[],_=>rfl
 |_::_,_::_,h=>by simp [qY.len h.2]
 | [],_::_,h=>h.elim
 |_::_,[],h=>h.elim
theorem qY.get{s:c3}: ∀ {fr:List Nat} {rs:List n8},qY s fr rs→ ∀k row,rs[k]?=some row→s.rows[fr.getD k 0]?=some row
 | [],[],_,k,_,h=>by simp at h
 |_::_,_::_,h,0,row,hr=>by simp at hr;subst hr;exact h.1
 |_::_,_::_,h,k+1,row,hr=>by simpa using qY.get h.2 k row (by simpa using hr)
 | [],_::_,h,_,_,_=>h.elim
 |_::_,[],h,_,_,_=>h.elim
theorem mW.of{s pre:c3}{fb fr:List Nat}(hb:n9 s fb fr pre fb pre.boxes)(hr:qY s fr pre.rows)(n1:fb.Nodup)(n2:fr.Nodup):mW s pre fb fr where
 fbl:=hb.len
 frl:=hr.len
 fbn:=n1
 frn:=n2
 all:=fun k hk=>by
  obtain⟨x,hx,-⟩:=hb.get k hk
  exact⟨x,hx⟩
 box:=fun k x hx=>by
  obtain⟨x',hx',h⟩:=hb.get k (List.getElem?_eq_some_iff.1 hx).1
  rw [hx] at hx'
  cases hx'
  exact h
 row:=hr.get
section
variable {P:Program} {C:oZ} {n:Nat} {s:AS} {o:Oper}
theorem AL.skipP{ops:Array Oper}{rest:List Oper}{Q:Exit→AS→Prop}{j d:Nat}{b c e:Bool}(hg:o.guard=some (j,c))(hj:(ops[j]?).bind (·.dst)=some d)(hb:s.lk d=some (.t (.leaf (.bool b))))(hv:b=e)(hne:(e==c)=false)(hd:bQ o.dst n=true)(h:AL P C n ops rest Q (s.putO o.dst (.tup []))):AL P C n ops (o::rest) Q s:=fun m a w hr=>
 wpList_step fun K hK=>by
  subst hv
  rw [if_neg (by simpa [Region.wanted,hg,hr.yielded hj hb] using hne)]
  exact hK _ _ (h m _ w (hr.put (cX hd) ⟨[],rfl,trivial⟩))
theorem AL.skipU{ops:Array Oper}{rest:List Oper}{Q:Exit→AS→Prop}{j d:Nat}{c:Bool}(hg:o.guard=some (j,c))(hj:(ops[j]?).bind (·.dst)=some d)(hb:s.lk d=some (.tup []))(hd:bQ o.dst n=true)(h:AL P C n ops rest Q (s.putO o.dst (.tup []))):AL P C n ops (o::rest) Q s:=fun m a w hr=>
 wpList_step fun K hK=>by
  have hy:yielded ops a.tmps j=none:=by
   obtain⟨v,hv,vs,rfl,hl⟩:=hr.env d _ hb
   simp [Go.yielded,hj,hv]
  rw [if_neg (by simp [Region.wanted,hg,hy])]
  exact hK _ _ (h m _ w (hr.put (cX hd) ⟨[],rfl,trivial⟩))
theorem aV.buildSliceE{T E sz by_ len:Nat}{parts:Array (Nat×Operand)}{ps:List (Nat×List PV)}{zs cs:List PV}{es es':List (List Tr)}(ho:o.op= .buildSlice T len parts)(hd:bQ o.dst n=true)(hT:elemOf? P T=some (E,sz,by_))(hz:cW P E=some zs)(hp:nO s parts.toList=some ps)
 (hc:rV (fun i=>some (i*sz,sz)) (List.replicate len zs).flatten ps=some cs) (hle:rQ cs (es.flatten.map PV.t)) (hel:es.length=len) (hes: ∀e∈es,e.length=sz) (hsz:0<sz) (hzl:zs.length=sz) (hsm:len*sz≤16777216) (he:es=es'):
 aV P C n o s (s.putO o.dst (.t (.row sz es'))):=he ▸ aV.buildSliceQ ho hd hT hz hp hc hle hel hes hsz hzl hsm
theorem aV.buildSliceA{T E sz by_ len:Nat}{parts:Array (Nat×Operand)}{ps:List (Nat×List PV)}{zs cs:List PV}{es es':List (List Tr)}(ho:o.op= .buildSlice T len parts)(hd:bQ o.dst n=true)(hT:elemOf? P T=some (E,sz,by_))(hz:cW P E=some zs)(hp:nO s parts.toList=some ps)
 (hc:rV (fun i=>some (i*sz,sz)) (List.replicate len zs).flatten ps=some cs) (hle:rQ cs (es.flatten.map PV.t)) (hel:es.length=len) (hes: ∀e∈es,e.length=sz) (hsz:0<sz) (hzl:zs.length=sz) (hsm:len*sz≤16777216) (he:es=es'):
 aV P C n o s ((⟨s.env,s.st.addRow ⟨E,sz,es',false⟩⟩:AS).putO o.dst (.acc sz es' s.st.rows.length)):=he ▸ aV.buildSlice ho hd hT hz hp hc hle hel hes hsz hzl hsm
end
theorem eH{C:oZ}{bs:List (Option c5)}{rs:List n8}{S:c3}(h:C.st=⟨bs,rs⟩)(hb: ∀k,k<bs.length→ ∃y,S.boxes[k]?=some (some y))(hl:rs.length≤S.rows.length):lC C.st S:=by
 rw [h]
 exact⟨fun k x hx=>hb k (List.getElem?_eq_some_iff.1 hx).1,fun k row hk=>⟨S.rows[k]'(Nat.lt_of_lt_of_le (List.getElem?_eq_some_iff.1 hk).1 hl),List.getElem?_eq_getElem _⟩⟩
theorem jS{S:c3}{x:c5}{bs:List (Option c5)}(h:S.boxes=some x::bs): ∀k,k<1→ ∃y,S.boxes[k]?=some (some y):=fun k hk=>by
 obtain rfl:k=0:=by omega
 exact⟨x,by rw [h];rfl⟩
theorem ahZ{S:c3}{x y:c5}{bs:List (Option c5)}(h:S.boxes=some x::some y::bs): ∀k,k<2→ ∃y,S.boxes[k]?=some (some y):=fun k hk=>by
 rcases(by omega:k=0∨k=1) with rfl|rfl
 ·exact⟨x,by rw [h];rfl⟩
 ·exact⟨y,by rw [h];rfl⟩
theorem ah0{S:c3}{x y z:c5}{bs:List (Option c5)}(h:S.boxes=some x::some y::some z::bs): ∀k,k<3→ ∃y,S.boxes[k]?=some (some y):=fun k hk=>by
 rcases(by omega:k=0∨k=1∨k=2) with rfl|rfl|rfl
 ·exact⟨x,by rw [h];rfl⟩
 ·exact⟨y,by rw [h];rfl⟩
 ·exact⟨z,by rw [h];rfl⟩
theorem ahY{S:c3}: ∀k,k<0→ ∃y,S.boxes[k]?=some (some y):=fun k hk=>absurd hk (Nat.not_lt_zero _)
instance:Inhabited aC:=⟨.mk 0 0⟩
theorem aC.trs_at{l:List aC}{k:Nat}(h:k<l.length):(aC.trs l)[k]?=some (a3 l k).cs:=by rw [iW h];exact aC.trs_cs h
instance:Inhabited aB:=⟨.mk ⟨#[]⟩ []⟩
theorem aB.trs_part(l:List aB)(a b:Nat):((aB.trs l).take b).drop a=aB.trs ((l.take b).drop a):=by rw [aB.trs_map,aB.trs_map,List.map_drop,List.map_take]
theorem aB.trs_at{l:List aB}{k:Nat}(h:k<l.length):(aB.trs l)[k]?=some (a3 l k).cs:=by rw [iW h];exact aB.trs_cs h
instance:Inhabited aA:=⟨.mk 0 ⟨#[]⟩ []⟩
theorem aA.trs_part(l:List aA)(a b:Nat):((aA.trs l).take b).drop a=aA.trs ((l.take b).drop a):=by rw [aA.trs_map,aA.trs_map,List.map_drop,List.map_take]
theorem aA.trs_at{l:List aA}{k:Nat}(h:k<l.length):(aA.trs l)[k]?=some (a3 l k).cs:=by rw [iW h];exact aA.trs_cs h
instance:Inhabited aM:=⟨.mk ⟨#[]⟩ default⟩
theorem aM.trs_at{l:List aM}{k:Nat}(h:k<l.length):(aM.trs l)[k]?=some (a3 l k).cs:=by rw [iW h];exact aM.trs_cs h
instance:Inhabited aG:=⟨.mk 0 ⟨#[]⟩ ⟨#[]⟩ 0 default [] []⟩
theorem aG.trs_at{l:List aG}{k:Nat}(h:k<l.length):(aG.trs l)[k]?=some (a3 l k).cs:=by rw [iW h];exact aG.trs_cs h
instance:Inhabited bJ:=⟨.mk ⟨#[]⟩ [] default⟩
theorem bJ.trs_at{l:List bJ}{k:Nat}(h:k<l.length):(bJ.trs l)[k]?=some (a3 l k).cs:=by rw [iW h];exact bJ.trs_cs h
instance:Inhabited aE:=⟨.mk ⟨#[]⟩ [] default false [] default⟩
theorem aE.trs_at{l:List aE}{k:Nat}(h:k<l.length):(aE.trs l)[k]?=some (a3 l k).cs:=by rw [iW h];exact aE.trs_cs h
instance:Inhabited aT:=⟨.mk ⟨#[]⟩ [] false false []⟩
theorem aT.trs_at{l:List aT}{k:Nat}(h:k<l.length):(aT.trs l)[k]?=some (a3 l k).cs:=by rw [iW h];exact aT.trs_cs h
instance:Inhabited aD:=⟨.mk ⟨#[]⟩ []⟩
theorem aD.trs_part(l:List aD)(a b:Nat):((aD.trs l).take b).drop a=aD.trs ((l.take b).drop a):=by rw [aD.trs_map,aD.trs_map,List.map_drop,List.map_take]
theorem aD.trs_at{l:List aD}{k:Nat}(h:k<l.length):(aD.trs l)[k]?=some (a3 l k).cs:=by rw [iW h];exact aD.trs_cs h
instance:Inhabited aL:=⟨.mk ⟨#[]⟩ [] []⟩
theorem aL.trs_at{l:List aL}{k:Nat}(h:k<l.length):(aL.trs l)[k]?=some (a3 l k).cs:=by rw [iW h];exact aL.trs_cs h
instance:Inhabited aJ:=⟨.mk ⟨#[]⟩ default⟩
theorem aJ.trs_at{l:List aJ}{k:Nat}(h:k<l.length):(aJ.trs l)[k]?=some (a3 l k).cs:=by rw [iW h];exact aJ.trs_cs h
instance:Inhabited aN:=⟨.mk ⟨#[]⟩ [] default⟩
theorem aN.trs_at{l:List aN}{k:Nat}(h:k<l.length):(aN.trs l)[k]?=some (a3 l k).cs:=by rw [iW h];exact aN.trs_cs h
instance:Inhabited aH:=⟨.mk ⟨#[]⟩ [] default [] false false default []⟩
theorem aH.trs_at{l:List aH}{k:Nat}(h:k<l.length):(aH.trs l)[k]?=some (a3 l k).cs:=by rw [iW h];exact aH.trs_cs h
instance:Inhabited aR:=⟨.mk ⟨#[]⟩ default⟩
theorem aR.trs_at{l:List aR}{k:Nat}(h:k<l.length):(aR.trs l)[k]?=some (a3 l k).cs:=by rw [iW h];exact aR.trs_cs h
instance:Inhabited aI:=⟨.mk ⟨#[]⟩ [] [] [] default default⟩
theorem aI.trs_at{l:List aI}{k:Nat}(h:k<l.length):(aI.trs l)[k]?=some (a3 l k).cs:=by rw [iW h];exact aI.trs_cs h
instance:Inhabited aK:=⟨.mk ⟨#[]⟩ [] [] [] [] []⟩
theorem aK.trs_at{l:List aK}{k:Nat}(h:k<l.length):(aK.trs l)[k]?=some (a3 l k).cs:=by rw [iW h];exact aK.trs_cs h
instance:Inhabited aO:=⟨.mk []⟩
theorem aO.trs_at{l:List aO}{k:Nat}(h:k<l.length):(aO.trs l)[k]?=some (a3 l k).cs:=by rw [iW h];exact aO.trs_cs h
instance:Inhabited bK:=⟨.mk 0 0 default []⟩
instance:Inhabited a7:=⟨.mk default 0 []⟩
theorem a7.trs_at{l:List a7}{k:Nat}(h:k<l.length):(a7.trs l)[k]?=some (a3 l k).cs:=by rw [iW h];exact a7.trs_cs h
instance:Inhabited cC:=⟨.mk ⟨#[]⟩ 0 0 0 false⟩
instance:Inhabited eZ:=⟨.mk [] [] []⟩
end Go.Proofs.YtpioomclpaiomaaGreat

namespace Go.Proofs.YtpioomclpaiomaaGreat
set_option linter.unusedSimpArgs false
set_option linter.unusedVariables false
def bZ(P:Nat→Prop):Prop:= ∃N,∀n,N≤n→P n
theorem bZ.all{P:Nat→Prop}(h: ∀n,P n):bZ P:=⟨0,fun n _=>h n⟩
theorem bZ.and{P Q:Nat→Prop}(h:bZ P)(k:bZ Q):bZ fun n=>P n∧Q n:=by
 obtain⟨a,h⟩:=h
 obtain⟨b,k⟩:=k
 exact⟨max a b,fun n hn=>⟨h n (by omega),k n (by omega)⟩⟩
theorem bZ.imp{P Q:Nat→Prop}(h:bZ P)(k: ∀n,P n→Q n):bZ Q:=by
 obtain⟨a,h⟩:=h
 exact⟨a,fun n hn=>k n (h n hn)⟩
theorem bZ.succ{P:Nat→Prop}(h:bZ fun n=>P (n+1)):bZ P:=by
 obtain⟨a,h⟩:=h
 exact⟨a+1,fun n hn=>by
  obtain⟨m,rfl⟩: ∃m,n=m+1:=⟨n-1,by omega⟩
  exact h m (by omega)⟩
theorem bZ.list{α:Type}{P:α→Nat→Prop}: ∀ {l:List α},(∀x∈l,bZ (P x))→bZ fun n=> ∀x∈l,P x n
 | [],_=> .all fun n x hx=>by simp at hx
 |a::l,h=>((h a (by simp)).and (bZ.list (l:=l) fun x hx=>h x (List.mem_cons_of_mem _ hx))).imp fun n hn x hx=>by
  rcases List.mem_cons.1 hx with rfl|hx
  ·exact hn.1
  ·exact hn.2 x hx
theorem bZ.below{P:Nat→Nat→Prop}: ∀ {k:Nat},(∀i,i<k→bZ (P i))→bZ fun n=> ∀i,i<k→P i n
 |0,_=> .all fun n i hi=>by omega
 |k+1,h=>((h k (by omega)).and (bZ.below (k:=k) fun i hi=>h i (Nat.lt_succ_of_lt hi))).imp fun n hn i hi=>by
  rcases Nat.lt_or_ge i k with h1|h1
  ·exact hn.2 i h1
  ·obtain rfl:i=k:=by omega
   exact hn.1
theorem bZ.get{P:Nat→Prop}(h:bZ P): ∃n,P n:=by
 obtain⟨a,h⟩:=h
 exact⟨a,h a (Nat.le_refl _)⟩
section
variable {α σ β:Type} [Inhabited α] {f:Nat→σ→Option (LR σ β)}
theorem kL{l:List α}{i:Nat}(h:i<l.length):a3 l i∈l:=by rw [iW h];exact List.getElem_mem h
theorem vI{l:List α}{i:Nat}(h:i<l.length):l.drop i=a3 l i::l.drop (i+1):=by rw [iW h];exact List.drop_eq_getElem_cons h
theorem af1{l:List α}{i:Nat}(h:i<l.length):l.take (i+1)=l.take i++ [a3 l i]:=by rw [iW h];exact List.take_succ_eq_append_getElem h
theorem zO{n i:Nat}{s s':σ}(h:i<n)(e:f i s=some (.next s')):loopN f (n-i) i s=loopN f (n-(i+1)) (i+1) s':=vQ h rfl e
theorem I8{n i:Nat}{s:σ}{x:β}(h:i<n)(e:f i s=some (.ret x)):loopN f (n-i) i s=some (.inl x):=ac7 h rfl e
theorem ac6{n i:Nat}{s s':σ}(h:i<n)(e:f i s=some (.brk s')):loopN f (n-i) i s=some (.inr s'):=ac4 h rfl e
theorem CT{n i:Nat}{s:σ}(h:n≤i):loopN f (n-i) i s=some (.inr s):=ac5 h rfl
theorem NO{l:List α}{g:σ→α→σ}(P:Nat→σ→Prop)(hs: ∀i s,i<l.length→P i s→f i s=some (.next (g s (a3 l i)))∧P (i+1) (g s (a3 l i))):
 ∀(k i:Nat) (s:σ),l.length-i=k→P i s→loopN f (l.length-i) i s=some (.inr ((l.drop i).foldl g s))
 |0,i,s,hk,_=>by
  rw [CT (by omega),List.drop_of_length_le (by omega),List.foldl_nil]
 |k+1,i,s,hk,hp=>by
  have hi:i<l.length:=by omega
  obtain⟨h1,h2⟩:=hs i s hi hp
  rw [zO hi h1,vI hi,List.foldl_cons]
  exact NO P hs k (i+1) _ (by omega) h2
theorem KO{l:List α}{g:σ→α→σ}(P:Nat→σ→Prop)(hs: ∀i s,i<l.length→P i s→f i s=some (.next (g s (a3 l i)))∧P (i+1) (g s (a3 l i))){s:σ}(h0:P 0 s):loopN f (l.length-0) 0 s=some (.inr (l.foldl g s)):=by
 have:=NO P hs l.length 0 s (by omega) h0
 rwa [List.drop_zero] at this
theorem NN{l:List α}{p:α→Bool}{r:α→β}{s:σ}(hs: ∀i,i<l.length→f i s=if p (a3 l i) then some (.ret (r (a3 l i))) else some (.next s)):
 ∀(k i:Nat),l.length-i=k→loopN f (l.length-i) i s=some (match(l.drop i).find? p with|some x=> .inl (r x)|none=> .inr s)
 |0,i,hk=>by
  rw [CT (by omega),List.drop_of_length_le (by omega),List.find?_nil]
 |k+1,i,hk=>by
  have hi:i<l.length:=by omega
  have h1:=hs i hi
  rw [vI hi,List.find?_cons]
  cases hp:p (a3 l i)
  ·rw [hp] at h1
   rw [zO hi (by simpa using h1)]
   exact NN hs k (i+1) (by omega)
  ·rw [hp] at h1
   rw [I8 hi (by simpa using h1)]
theorem BP{l:List α}{p:α→Bool}{r:α→β}{s:σ}(hs: ∀i,i<l.length→f i s=if p (a3 l i) then some (.ret (r (a3 l i))) else some (.next s)):loopN f (l.length-0) 0 s=some (match l.find? p with|some x=> .inl (r x)|none=> .inr s):=by
 have:=NN hs l.length 0 (by omega)
 rwa [List.drop_zero] at this
theorem KN{l:List α}{p:α→Bool}{r:β}{s:σ}(hs: ∀i,i<l.length→f i s=if p (a3 l i) then some (.next s) else some (.ret r)):loopN f (l.length-0) 0 s=some (if l.all p then .inr s else .inl r):=by
 rw [BP (p:=fun x=> !p x) (r:=fun _=>r) (fun i hi=>by rw [hs i hi];cases p (a3 l i)<;>rfl)]
 cases h:l.find? (fun x=> !p x) with
 |none=>
  rw [List.find?_eq_none] at h
  rw [if_pos (by rw [List.all_eq_true];intro x hx;have:=h x hx;simpa using this)]
 |some x=>
  have h1:=List.find?_some h
  have h2:=List.mem_of_find?_eq_some h
  rw [if_neg (by rw [List.all_eq_true];intro hc;have:=hc x h2;simp [this] at h1)]
end
end Go.Proofs.YtpioomclpaiomaaGreat

namespace Go.Proofs.YtpioomclpaiomaaGreat
set_option linter.unusedSimpArgs false
set_option linter.unusedVariables false
open Go.RowKit Go.WalkArith Go.IntWalk Go.WideShapes
section
variable {P:Program} {C:oZ} {n:Nat} {s:AS} {o:Oper}
theorem aV.buildSliceB{T E sz by_ len:Nat}{parts:Array (Nat×Operand)}{ps:List (Nat×List PV)}{zs cs:List PV}(ho:o.op= .buildSlice T len parts)(hd:bQ o.dst n=true)(hT:elemOf? P T=some (E,sz,by_))(hz:cW P E=some zs)(hp:nO s parts.toList=some ps)
 (hc:rV (fun i=>some (i*sz,sz)) (List.replicate len zs).flatten ps=some cs) (hcl:cs.length=len*sz) (hsz:0<sz) (hzl:zs.length=sz) (hsm:len*sz≤16777216):
 aV P C n o s ((⟨s.env,s.st.addBox ⟨E,cs⟩⟩:AS).putO o.dst (.bsl s.st.boxes.length len)):=
 aV.run hd (s1:=⟨s.env,s.st.addBox ⟨E,cs⟩⟩) (fun m a w h=>by
  obtain⟨us,h1,h2,h3⟩:=aV.buildSlice_run ho hT hz hp hc hcl hsz hzl hsm h
  exact⟨_,_,_,h1,CM (x:=⟨E,cs⟩),GQ (x:=⟨E,cs⟩) h.sto h2,⟨⟨E,cs⟩,by simp [c3.addBox]⟩,by simp [b7]⟩) rfl
theorem aV.buildSliceLE{T E sz by_ len:Nat}{parts:Array (Nat×Operand)}{ps:List (Nat×List PV)}{zs cs:List PV}{es es':List (List Tr)}(ho:o.op= .buildSlice T len parts)(hd:bQ o.dst n=true)(hT:elemOf? P T=some (E,sz,by_))(hz:cW P E=some zs)(hp:nO s parts.toList=some ps)
 (hc:rV (fun i=>some (i*sz,sz)) (List.replicate len zs).flatten ps=some cs) (hle:rQ cs (es.flatten.map PV.t)) (hel:es.length=len) (hes: ∀e∈es,e.length=sz) (hsz:0<sz) (hzl:zs.length=sz) (hsm:len*sz≤16777216) (he:es=es'):
 aV P C n o s (s.putO o.dst (.lit sz es')):=he ▸ aV.buildSliceL ho hd hT hz hp hc hle hel hes hsz hzl hsm
theorem aV.indexB{T E sz by_ k N i:Nat}{x y:Operand}(ho:o.op= .indexAddr T x y)(hd:bQ o.dst n=true)(hx:s.ev x=some (.bsl k N))(hy:s.ev y=some (.t (.leaf (.int .i64 (i:Int)))))(hi:i<N)(hT:elemOf? P T=some (E,sz,by_)):
 aV P C n o s (s.putO o.dst (.ptr k (i*sz))):=
 aV.quiet (cX hd) fun m a w h=>by
  obtain⟨hb,hv⟩:=h.eval hx
  have h6:=(cF.leaf_eq (h.eval hy)).1
  refine⟨.pointer (some ⟨m.ρ k,0+i*sz,none⟩),?_,hb,by rw [Nat.zero_add]⟩
  unfold execOp
  simp only [ho,hv,h6,Sem.run_bind,run_indexAt' hT hi,Result.andThen_ok]
  rfl
theorem EJ{T E sz by_:Nat}{x y:Operand}{es1 es2:List (List Tr)}{p:PV}(ho:o.op= .call { callee:= .builtin .append,args:= #[x,y],argTypes:= #[T,T] })
 (hx:s.ev x=some (.lit sz es1)) (hy:s.ev y=some p) (hp:l4 p=some (sz,es2)) (h1: ∀e∈es1,e.length=sz) (h2: ∀e∈es2,e.length=sz) (hne:es2≠ []) (hsz:0<sz)
 (hT:elemOf? P T=some (E,sz,by_)) (hz:(P.info? E).bind (fun i=>i.zero.map (fun z=>z.cells.size))=some sz) (hb:0<by_) (hlen:(es1.length+es2.length)*by_≤140737488355328) {m:jD} {a:Act} {w:World} (h:RA C n s m a w):
 ∃c cur w1,(execOp a.eval o).run P w= .ok (.value (.slice (some ⟨w.heap.size,0,none⟩) (es1.length+es2.length) c)) w1∧wC w w1∧OB w1 w.heap.size E cur∧es1.length+es2.length≤c∧c≤maxLen∧
  (∀q e,(es1++es2)[q]?=some e→ ∀j d,e[j]?=some d→ ∃v,cur[q*sz+j]?=some v∧cF (jW C.av s.st m) w d v):=by
 obtain⟨i,hu,hi,hs,hby⟩:=elemOf?.spec hT
 obtain⟨hr1,ad,hv1⟩:=h.eval hx
 have hr2:=tK hp (h.eval hy)
 obtain⟨b,off,c2,news,hv2,hnl,hnews,hone,hnd⟩:=hr2.news h2 hne hsz
 have hpos2:0<es2.length:=List.length_pos_iff.2 hne
 have hlen:(es1.length+es2.length)*i.bytes≤140737488355328:=by rw [hby];exact hlen
 have h63:es1.length+es2.length≤140737488355328:=Nat.le_trans (Nat.le_mul_of_pos_right _ (by omega)) hlen
 have hrun: ∀v w1,(Builtin.append_ #[T,T] o.type #[a.eval x,a.eval y]).run P w= .ok v w1→(execOp a.eval o).run P w= .ok (.value v) w1:=fun v w1 hr=>by
  unfold execOp
  simp only [ho,resolve,invoke,builtin,Sem.run_bind,Sem.run_pure,Result.andThen_ok,List.map_toArray,List.map_cons,List.map_nil,hr]
 cases hzz:i.zero with
 |none=>simp [hi,hzz] at hz
 |some z=>
  have fin: ∀(olds:List Value) (cur:Array Value) (Z:List Value),cur.toList=olds++news++Z→olds.length=es1.length*sz→(∀i e,es1[i]?=some e→ ∀j d,e[j]?=some d→ ∃v,olds[i*sz+j]?=some v∧cF (jW C.av s.st m) w d v)→
   ∀q e,(es1++es2)[q]?=some e→ ∀j d,e[j]?=some d→ ∃v,cur[q*sz+j]?=some v∧cF (jW C.av s.st m) w d v:=fun olds cur Z hcur hol hod q e hq j d hj=>by
   rw [← Array.getElem?_toList,hcur,List.append_assoc]
   by_cases hlt:q<es1.length
   ·rw [List.getElem?_append_left hlt] at hq
    obtain⟨v,hv,hr⟩:=hod q e hq j d hj
    exact⟨v,by rw [List.getElem?_append_left (c4 hv)];exact hv,hr⟩
   ·rw [List.getElem?_append_right (by omega)] at hq
    obtain⟨v,hv,hr⟩:=hnd _ e hq j d hj
    refine⟨v,?_,hr⟩
    have e1:q*sz+j=es1.length*sz+((q-es1.length)*sz+j):=by
     rw [← Nat.add_assoc,← Nat.add_mul]
     congr 2
     omega
    rw [e1,← hol,List.getElem?_append_right (by omega),Nat.add_sub_cancel_left,List.getElem?_append_left (c4 hv)]
    exact hv
  have grow: ∀(A:Addr) (olds:List Value),ad=some A→olds.length=es1.length*sz→(∀j v,olds[j]?=some v→w.cell? (A.add j)=some v)→(∀i e,es1[i]?=some e→ ∀j d,e[j]?=some d→ ∃v,olds[i*sz+j]?=some v∧cF (jW C.av s.st m) w d v)→
   ∃c cur w1,(execOp a.eval o).run P w= .ok (.value (.slice (some ⟨w.heap.size,0,none⟩) (es1.length+es2.length) c)) w1∧wC w w1∧OB w1 w.heap.size E cur∧es1.length+es2.length≤c∧c≤maxLen∧
    (∀q e,(es1++es2)[q]?=some e→ ∀j d,e[j]?=some d→ ∃v,cur[q*sz+j]?=some v∧cF (jW C.av s.st m) w d v):=fun A olds hA hol hold hod=>by
   subst hA
   have happ:=run_append_grow (P:=P) w T o.type E i z hu hi hzz A es1.length es1.length olds (by rw [hs];exact hol) hold ⟨b,off,none⟩ es2.length c2 news (by rw [hnl,hs]) hnews (by omega) (by omega) (growslice_fits (by omega) hlen)
   rw [← hv2,← hv1] at happ
   have hge:=grownCap_ge w (es1.length+es2.length) es1.length E
   exact⟨_,_,_,hrun _ _ happ,.alloc (.drew (.refl _)) _,OB.new w.drew E _,hge,grownCap_le_maxLen w _ _ _ (by unfold maxLen;omega),fin olds _ _ (by simp;rfl) hol hod⟩
  by_cases he:es1= []
  ·cases ad with
   |none=>
    subst he
    have happ:=run_append_nil (P:=P) w T o.type E i z hu hi hzz ⟨b,off,none⟩ es2.length c2 news (by rw [hnl,hs]) hnews (by omega) (by omega) (by simp only [List.length_nil,Nat.zero_add] at hlen;omega)
    have hv1':a.eval x= .slice none 0 0:=hv1
    rw [← hv2,← hv1'] at happ
    have hge:=grownCap_ge w es2.length 0 E
    have hf:=fin [] (news.toArray++Builtin.zeroCells z.cells (grownCap w es2.length 0 E-es2.length)) (Builtin.zeroCells z.cells (grownCap w es2.length 0 E-es2.length)).toList (by simp) (by simp) (fun i e h=>by simp at h)
    have hcm:grownCap w es2.length 0 E≤maxLen:=grownCap_le_maxLen w _ _ _ (by unfold maxLen;omega)
    simp only [List.length_nil,Nat.zero_add,List.nil_append] at hf ⊢
    exact⟨_,_,_,hrun _ _ happ,.alloc (.drew (.refl _)) _,OB.new w.drew E _,by simpa using hge,hcm,hf⟩
   |some A=>
    subst he
    exact grow A [] rfl (by simp) (fun j v h=>by simp at h) (fun i e h=>by simp at h)
  ·obtain⟨b1,off1,c1,olds,hv1',hol,hold,-,hod⟩:=hr1.news h1 he hsz
   have hva:=hv1.symm.trans hv1'
   injection hva with e1 e2 e3
   exact grow _ olds e1 hol hold hod
theorem aV.appendLit{T E sz by_:Nat}{x y:Operand}{es1 es2 es3:List (List Tr)}{p:PV}(ho:o.op= .call { callee:= .builtin .append,args:= #[x,y],argTypes:= #[T,T] })(hd:bQ o.dst n=true)
 (hx:s.ev x=some (.lit sz es1)) (hy:s.ev y=some p) (hp:l4 p=some (sz,es2)) (h1: ∀e∈es1,e.length=sz) (h2: ∀e∈es2,e.length=sz) (hne:es2≠ []) (hsz:0<sz)
 (hT:elemOf? P T=some (E,sz,by_)) (hz:(P.info? E).bind (fun i=>i.zero.map (fun z=>z.cells.size))=some sz) (hb:0<by_) (hlen:(es1.length+es2.length)*by_≤140737488355328) (h3:es1++es2=es3):
 aV P C n o s (s.putO o.dst (.t (.row sz es3))):=by
 subst h3
 refine aV.quietX hd fun m a w h=>?_
 obtain⟨c,cur,w1,hr,hX,hob,hc,hm,hget⟩:=EJ ho hx hy hp h1 h2 hne hsz hT hz hb hlen h
 refine⟨_,w1,hr,hX,?_⟩
 have:=cF.row (ok:=jW C.av s.st m) (w:=w1) (es:=es1++es2) (sz:=sz) (a:=some ⟨w.heap.size,0,none⟩) (cap:=c) (fun q j=>(cur[q*sz+j]?).getD undef) (by rw [List.length_append];exact hc) hm (fun _=>⟨w.heap.size,0,rfl,hob.lt,fun q e hq j d hd=>⟨MJ h.sto (Nat.le_refl _) _,?_⟩⟩) (fun q e hq j d hd=>?_)
 ·rw [List.length_append] at this
  exact this
 ·obtain⟨v,hv,-⟩:=hget q e hq j d hd
  rw [Nat.zero_add,hob.cell,hv]
  rfl
 ·obtain⟨v,hv,hr⟩:=hget q e hq j d hd
  rw [hv]
  exact cF.ext hr hX
theorem KK{α:Type}{sz:Nat}(hsz:0<sz): ∀ {es:List (List α)} {k:Nat} {d:α},(∀e∈es,e.length=sz)→es.flatten[k]?=some d→ ∃e,es[k/sz]?=some e∧e[k%sz]?=some d
 | [],k,d,_,h=>by simp at h
 |e::es,k,d,hl,h=>by
  have he:=hl e (by simp)
  rw [List.flatten_cons] at h
  by_cases hk:k<sz
  ·rw [List.getElem?_append_left (by omega)] at h
   exact⟨e,by rw [Nat.div_eq_of_lt hk];rfl,by rw [Nat.mod_eq_of_lt hk];exact h⟩
  ·rw [List.getElem?_append_right (by omega),he] at h
   obtain⟨e2,h1,h2⟩:=KK hsz (fun e he=>hl e (by simp [he])) h
   obtain⟨j,rfl⟩: ∃j,k=j+sz:=⟨k-sz,by omega⟩
   rw [Nat.add_sub_cancel] at h1 h2
   exact⟨e2,by rw [Nat.add_div_right _ hsz];exact h1,by rw [Nat.add_mod_right];exact h2⟩
theorem aV.appendLitB{T E sz by_:Nat}{x y:Operand}{es1 es2:List (List Tr)}{cs:List PV}{p:PV}{len:Nat}(ho:o.op= .call { callee:= .builtin .append,args:= #[x,y],argTypes:= #[T,T] })(hd:bQ o.dst n=true)
 (hx:s.ev x=some (.lit sz es1)) (hy:s.ev y=some p) (hp:l4 p=some (sz,es2)) (h1: ∀e∈es1,e.length=sz) (h2: ∀e∈es2,e.length=sz) (hne:es2≠ []) (hsz:0<sz)
 (hT:elemOf? P T=some (E,sz,by_)) (hz:(P.info? E).bind (fun i=>i.zero.map (fun z=>z.cells.size))=some sz) (hb:0<by_) (hlen:(es1.length+es2.length)*by_≤140737488355328) (hcs:(es1++es2).flatten.map PV.t=cs) (hl:es1.length+es2.length=len):
 aV P C n o s ((⟨s.env,s.st.addBox ⟨E,cs⟩⟩:AS).putO o.dst (.gsl s.st.boxes.length len)):=by
 subst hcs hl
 refine aV.run hd (s1:=⟨s.env,s.st.addBox ⟨E,(es1++es2).flatten.map PV.t⟩⟩) (fun m a w h=>?_) rfl
 obtain⟨c,cur,w1,hr,hX,hob,hc,hm,hget⟩:=EJ ho hx hy hp h1 h2 hne hsz hT hz hb hlen h
 have hes: ∀e∈es1++es2,e.length=sz:=fun e he=>(List.mem_append.1 he).elim (h1 e) (h2 e)
 have hfl: ∀(k:Nat) d,(es1++es2).flatten[k]?=some d→ ∃v,cur[k]?=some v∧cF (jW C.av s.st m) w d v:=fun k d hk=>by
  obtain⟨e,q1,q2⟩:=KK hsz hes hk
  obtain⟨v,hv,hrv⟩:=hget _ e q1 _ d q2
  rw [Nat.div_add_mod'] at hv
  exact⟨v,hv,hrv⟩
 have hrvl:gG (jW C.av s.st m) s.st m w ((es1++es2).flatten.map PV.t) ((List.range' 0 (es1++es2).flatten.length).map fun k=>(cur[k]?).getD undef):=gG.of_fn 0 fun k d hk=>by
  obtain⟨v,hv,hrv⟩:=hfl k d hk
  rw [Nat.zero_add,hv]
  exact hrv
 have hE:Ev s.st m w (s.st.addBox ⟨E,(es1++es2).flatten.map PV.t⟩) ⟨wB m.ρ s.st.boxes.length w.heap.size,m.γ⟩ w1:=IQ hX (Nat.le_refl _)
 have hobp:UZ w1 w.heap.size E ((List.range' 0 (es1++es2).flatten.length).map fun k=>(cur[k]?).getD undef):=by
  refine⟨cur.toList.drop (es1++es2).flatten.length,?_⟩
  have e1:((List.range' 0 (es1++es2).flatten.length).map fun k=>(cur[k]?).getD undef)++cur.toList.drop (es1++es2).flatten.length=cur.toList:=by
   have hle:(es1++es2).flatten.length≤cur.toList.length:=by
    rcases Nat.eq_zero_or_pos (es1++es2).flatten.length with h0|h0
    ·omega
    ·obtain⟨v,hv,-⟩:=hfl ((es1++es2).flatten.length-1) _ (List.getElem?_eq_getElem (by omega))
     rw [← Array.getElem?_toList] at hv
     have:=c4 hv
     omega
   refine List.ext_getElem? fun k=>?_
   by_cases hk:k<(es1++es2).flatten.length
   ·rw [List.getElem?_append_left (by simpa using hk),List.getElem?_map,List.getElem?_range' (by simpa using hk)]
    obtain⟨v,hv,-⟩:=hfl k _ (List.getElem?_eq_getElem hk)
    simp only [Option.map_some,Nat.zero_add,Nat.one_mul,hv,Option.getD_some]
    rw [← Array.getElem?_toList] at hv
    exact hv.symm
   ·rw [List.getElem?_append_right (by simpa using Nat.le_of_not_lt hk),List.getElem?_drop]
    congr 1
    simp
    simp at hk
    omega
  rw [e1]
  exact hob
 refine⟨_,_,w1,hr,hE,PC h.sto hX (Nat.le_refl _) hobp (gG.mono hE _ _ hrvl),⟨⟨E,(es1++es2).flatten.map PV.t⟩,by simp [c3.addBox]⟩,c,hc,hm,by simp [b7]⟩
theorem aV.indexG{T E sz by_ k N i:Nat}{x y:Operand}(ho:o.op= .indexAddr T x y)(hd:bQ o.dst n=true)(hx:s.ev x=some (.gsl k N))(hy:s.ev y=some (.t (.leaf (.int .i64 (i:Int)))))(hi:i<N)(hT:elemOf? P T=some (E,sz,by_)):
 aV P C n o s (s.putO o.dst (.ptr k (i*sz))):=
 aV.quiet (cX hd) fun m a w h=>by
  obtain⟨hb,c,hc,hm,hv⟩:=h.eval hx
  have h6:=(cF.leaf_eq (h.eval hy)).1
  refine⟨.pointer (some ⟨m.ρ k,0+i*sz,none⟩),?_,hb,by rw [Nat.zero_add]⟩
  unfold execOp
  simp only [ho,hv,h6,Sem.run_bind,run_indexAt' hT hi,Result.andThen_ok]
  rfl
mutual
inductive PJ (k sz:Nat) (es:List (List Tr)):PV→PV→Prop
 |le {p q:PV}:PV.Le p q→PJ k sz es p q
 |bsl {n:Nat}:es.length=n→PJ k sz es (.bsl k n) (.t (.row sz es))
 |bslL {n:Nat}:es.length=n→PJ k sz es (.bsl k n) (.lit sz es)
 |gsl {n:Nat}:es.length=n→PJ k sz es (.gsl k n) (.t (.row sz es))
 |agg {ps qs:List PV}:IC k sz es ps qs→PJ k sz es (.agg ps) (.agg qs)
inductive IC (k sz:Nat) (es:List (List Tr)):List PV→List PV→Prop
 |nil:IC k sz es [] []
 |cons {p q:PV} {ps qs:List PV}:PJ k sz es p q→IC k sz es ps qs→IC k sz es (p::ps) (q::qs)
end
def RS(k sz:Nat)(es:List (List Tr))(st':c3):List (Option c5)→List (Option c5)→Prop
 |_,[]=>True
 |_::xs,none::ys=>RS k sz es st' xs ys
 |some x::xs,some y::ys=>(x.ty=y.ty∧IC k sz es x.cells y.cells∧l0 st' y.cells=true)∧RS k sz es st' xs ys
 |_,_=>False
theorem RS.get{k sz:Nat}{es:List (List Tr)}{st':c3}: ∀ {xs ys:List (Option c5)},RS k sz es st' xs ys→ ∀(i:Nat) (y:c5),ys[i]?=some (some y)→ ∃x:c5,xs[i]?=some (some x)∧x.ty=y.ty∧IC k sz es x.cells y.cells∧l0 st' y.cells=true
 |_,[],_,i,y,h=>by simp at h
 | [],none::ys,hl,i,y,h=>hl.elim
 |x::xs,none::ys,hl,0,y,h=>by simp at h
 |none::xs,none::ys,hl,i+1,y,h=>by simpa using RS.get (xs:=xs) hl i y (by simpa using h)
 |some _::xs,none::ys,hl,i+1,y,h=>by simpa using RS.get (xs:=xs) hl i y (by simpa using h)
 |some x::xs,some z::ys,hl,0,y,h=>by
  simp at h
  subst h
  exact⟨x,rfl,hl.1⟩
 |some x::xs,some z::ys,hl,i+1,y,h=>by simpa using RS.get (xs:=xs) hl.2 i y (by simpa using h)
 | [],some _::_,hl,_,_,_=>hl.elim
 |none::_,some _::_,hl,_,_,_=>hl.elim
def acF(k sz:Nat)(es:List (List Tr))(s:AS)(st':c3):List (Nat×PV)→Prop
 | []=>True
 |(i,q)::l=>(∃p,s.lk i=some p∧PJ k sz es p q∧PV.okIn st' q=true)∧acF k sz es s st' l
theorem acF.get{k sz:Nat}{es:List (List Tr)}{s:AS}{st':c3}: ∀ {l:List (Nat×PV)} {i:Nat} {q:PV},acF k sz es s st' l→l.lookup i=some q→ ∃p,s.lk i=some p∧PJ k sz es p q∧PV.okIn st' q=true
 | [],_,_,_,h=>by simp at h
 |(j,p)::l,i,q,hl,h=>by
  rw [List.lookup_cons] at h
  by_cases hik:i=j
  ·subst hik
   simp at h
   subst h
   exact hl.1
  ·rw [show(i==j)=false by simp [hik]] at h
   exact acF.get hl.2 h
mutual
theorem PJ.rv{k sz:Nat}{es:List (List Tr)}{ok ok':Nat→Nat→Prop}{st st':c3}{m:jD}{w:World}(hle: ∀p v,PV.okIn st' p=true→RV ok st m w p v→RV ok' st' m w p v)(hb: ∀v c,es.length≤c→c≤maxLen→v= .slice (some ⟨m.ρ k,0,none⟩) es.length c→cF ok' w (.row sz es) v)(hm:es.length≤maxLen):
 ∀ {p q:PV} {v:Value},PJ k sz es p q→PV.okIn st' q=true→RV ok st m w p v→RV ok' st' m w q v
 |_,_,_,.le h,hk,hr=>hle _ _ hk (h.rv hr)
 |_,_,_,.bsl h,_,hr=>hb _ _ (Nat.le_refl _) hm (h ▸ hr.2)
 |_,_,_,.bslL h,_,hr=>⟨hb _ _ (Nat.le_refl _) hm (h ▸ hr.2),_,h ▸ hr.2⟩
 |_,_,_,.gsl h,_,hr=>by
  obtain⟨-,c,hc,hcm,hv⟩:=hr
  subst h
  exact hb _ c hc hcm hv
 |_,_,_,.agg h,hk,hr=>by
  obtain⟨vs,hv,h1⟩:=hr
  exact⟨vs,hv,IC.rv hle hb hm h hk h1⟩
theorem IC.rv{k sz:Nat}{es:List (List Tr)}{ok ok':Nat→Nat→Prop}{st st':c3}{m:jD}{w:World}(hle: ∀p v,PV.okIn st' p=true→RV ok st m w p v→RV ok' st' m w p v)(hb: ∀v c,es.length≤c→c≤maxLen→v= .slice (some ⟨m.ρ k,0,none⟩) es.length c→cF ok' w (.row sz es) v)(hm:es.length≤maxLen):
 ∀ {ps qs:List PV} {vs:List Value},IC k sz es ps qs→l0 st' qs=true→gG ok st m w ps vs→gG ok' st' m w qs vs
 |_,_,[],.nil,_,h=>trivial
 |_,_,_::_,.nil,_,h=>h.elim
 |_,_,[],.cons _ _,_,h=>h.elim
 |_,_,_::_,.cons k1 k2,hk,h=>by
  simp only [l0,Bool.and_eq_true] at hk
  exact⟨PJ.rv hle hb hm k1 hk.1 h.1,IC.rv hle hb hm k2 hk.2 h.2⟩
end
theorem Wk.freeze{k sz:Nat}{bx:c5}{es:List (List Tr)}{s':AS}(hb:s.st.boxes[k]?=some (some bx))(hc:rQ bx.cells (es.flatten.map PV.t))(hes: ∀e∈es,e.length=sz)(hm:es.length≤16777216)
 (hbox:RS k sz es s'.st s.st.boxes s'.st.boxes) (hnone:s'.st.boxes[k]?=some none) (hr:s'.st.rows=s.st.rows) (hp:lC C.st s'.st) (he:acF k sz es s s'.st s'.env):Wk C n s s':=fun m a w h=>by
 have hsub:xU s.st s'.st:=⟨fun i x hi=>by obtain⟨y,hy,-⟩:=hbox.get i x hi;exact⟨y,hy⟩,fun r row hrow=>by rw [hr] at hrow;exact hrow⟩
 obtain⟨vs,hob,hvs⟩:=h.sto.box k bx hb
 have hts:=rQ.rv hc hvs
 have hokk: ∀o,jW C.av s'.st m (m.ρ k) o:=fun o=>⟨h.sto.avb k bx hb o,fun i x hi=>by
  obtain⟨y,hy,-⟩:=hbox.get i x hi
  by_cases hik:i=k
  ·subst hik
   rw [hnone] at hi
   cases hi
  ·exact h.sto.binj i k y bx hy hb hik,fun r row g c hrow hg e=>absurd e.symm (h.sto.br k bx r row g c hb (hsub.rows r row hrow) hg)⟩
 have hmm:es.length≤maxLen:=by unfold maxLen;omega
 have hRep: ∀v c,es.length≤c→c≤maxLen→v= .slice (some ⟨m.ρ k,0,none⟩) es.length c→cF (jW C.av s'.st m) w (.row sz es) v:=by
  rintro _ c hc hcm rfl
  have hget: ∀q e,es[q]?=some e→ ∀j d,e[j]?=some d→ ∃v,vs[q*sz+j]?=some v∧cF (jW C.av s.st m) w d v:=fun q e hq j d hj=>by
   have hf:=qJ (sz:=sz) hes hq hj
   obtain⟨v,hv,hrv⟩:=hts.get (j:=q*sz+j) (p:= .t d) (by rw [List.getElem?_map,hf];rfl)
   exact⟨v,hv,hrv⟩
  refine cF.row (fun q j=>(vs[q*sz+j]?).getD undef) hc hcm (fun _=>⟨m.ρ k,0,rfl,hob.lt,fun q e hq j d hd=>⟨hokk _,?_⟩⟩) (fun q e hq j d hd=>?_)
  ·obtain⟨v,hv,-⟩:=hget q e hq j d hd
   rw [Nat.zero_add,hob.cell hv,hv]
   rfl
  ·obtain⟨v,hv,hrr⟩:=hget q e hq j d hd
   rw [hv]
   exact cF.mono hrr (Nat.le_refl _) (fun _ _ _ k=>hsub.ok k) (fun _ _ _ _=>rfl)
 have hle: ∀p v,PV.okIn s'.st p=true→RV (jW C.av s.st m) s.st m w p v→RV (jW C.av s'.st m) s'.st m w p v:=fun p v=>hsub.rv p v
 refine⟨m,h.dfr,h.tsz,?_,fun i q hq=>?_,?_⟩
 ·exact {
   box:=fun i x hi=>by
    obtain⟨y,hy,ht,hl,hk⟩:=hbox.get i x hi
    obtain⟨us,k1,k2⟩:=h.sto.box i y hy
    exact⟨us,by rw [← ht];exact k1,IC.rv hle hRep hmm hl hk k2⟩
   binj:=fun i i' x x' hi hi'=>by
    obtain⟨y,hy,-⟩:=hbox.get i x hi
    obtain⟨y',hy',-⟩:=hbox.get i' x' hi'
    exact h.sto.binj i i' y y' hy hy'
   row:=fun r row hrow=>by
    obtain⟨k1,k2,k3⟩:=h.sto.row r row (hsub.rows r row hrow)
    refine⟨k1,k2,?_⟩
    rcases k3 with k3|⟨g,c,cur,q1,q2,q3,q4,q5,q6⟩
    ·exact .inl k3
    ·exact .inr ⟨g,c,cur,q1,q2,q3,q4,q5,cF.mono q6 (Nat.le_refl _) (fun _ _ _ k=>hsub.ok k) (fun _ _ _ _=>rfl)⟩
   rinj:=fun r r' row row' g c c' hi hi'=>h.sto.rinj r r' row row' g c c' (hsub.rows r row hi) (hsub.rows r' row' hi')
   br:=fun i x r row g c hi hrow=>by
    obtain⟨y,hy,-⟩:=hbox.get i x hi
    exact h.sto.br i y r row g c hy (hsub.rows r row hrow)
   avlt:=h.sto.avlt
   avr:=fun r row g c hrow=>h.sto.avr r row g c (hsub.rows r row hrow)
   avb:=fun i x hi=>by
    obtain⟨y,hy,-⟩:=hbox.get i x hi
    exact h.sto.avb i y hy }
 ·obtain⟨p,h1,h2,h3⟩:=he.get hq
  obtain⟨v,hv,hrv⟩:=h.env i p h1
  exact⟨v,hv,PJ.rv hle hRep hmm h2 h3 hrv⟩
 ·exact {
   os:=h.ev.os
   tape:=h.ev.tape
   output:=h.ev.output
   size:=h.ev.size
   blk:=h.ev.blk
   cell:=h.ev.cell
   okk:=fun b o hb ho=>(hsub.ok (av:=fun _ _=>False) ⟨id,h.ev.okk b o hb ho⟩).2
   live:=fun i x hi=>⟨hp.1 i x hi,(h.ev.live i x hi).2⟩
   fresh:=fun i x' hi=>by
    obtain⟨y,hy,-⟩:=hbox.get i x' hi
    exact h.ev.fresh i y hy
   rowl:=fun r row hrow=>by
    obtain⟨row',hr'⟩:=hp.2 r row hrow
    obtain⟨row2,h1,h2⟩:=h.ev.rowl r row hrow
    have:=hsub.rows r row' hr'
    rw [h1] at this
    cases this
    exact⟨_,hr',h2⟩
   rfresh:=fun r row' g c hrow hg=>h.ev.rfresh r row' g c (hsub.rows r row' hrow) hg }
end
theorem Wk.freezeE{C:oZ}{n:Nat}{s:AS}{k sz:Nat}{bx:c5}{es es':List (List Tr)}{s':AS}(heq:es=es')(hb:s.st.boxes[k]?=some (some bx))(hc:rQ bx.cells (es.flatten.map PV.t))(hes: ∀e∈es,e.length=sz)(hm:es.length≤16777216)
 (hbox:RS k sz es' s'.st s.st.boxes s'.st.boxes) (hnone:s'.st.boxes[k]?=some none) (hr:s'.st.rows=s.st.rows) (hp:lC C.st s'.st) (he:acF k sz es' s s'.st s'.env):Wk C n s s':=by
 subst heq
 exact Wk.freeze hb hc hes hm hbox hnone hr hp he
theorem dQ{p:Prop}(h:p:=by(repeat' (first|exact PJ.bsl rfl|exact PJ.bslL rfl|exact PJ.gsl rfl|exact IC.nil|apply IC.cons|exact PJ.le (PV.Le.refl _)|exact PJ.le (PV.Le.acc _ _ _)|exact PJ.le (PV.Le.nil _)|exact PJ.le (PV.Le.lit _ _)|exact PJ.le (PV.Le.nilLit _)|apply PJ.agg))):p:=h
end Go.Proofs.YtpioomclpaiomaaGreat
