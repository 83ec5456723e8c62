/- Words, rules and walks of several kinds, laid together: Data, PmD, PmX, PmY, PmZ, PmW, PmV, PmN, PmO, PmDS, PmK, PmM, PmU, PmT, PmDraw, PmB, PlZ, Ctr, Plain, SL, Mark, Foc, Del, PmR, PmBool, Pma, PmF, PmS, PmEq, PmaB, PmG. No conditions but those that each theorem states. -/
import Derived.Test.YtpioomclpaiomaaGreatQh484d5f53
import Derived.Test.YtpioomclpaiomaaGreatProg
import Derived.WalkArith
import Derived.Laws.MakeOwn
set_option linter.unusedSimpArgs false
set_option linter.unusedVariables false
namespace Go.Proofs.YtpioomclpaiomaaGreat
open Go.RowKit
def aX(l:List ByteArray):List (List Tr):=l.map fun s=> [.leaf (.string s)]
def nG(l:List Int):List (List Tr):=l.map fun n=> [.leaf (.int .i64 n)]
theorem bE(l:List ByteArray):(aX l).length=l.length:=by simp [aX]
theorem fT(l:List Int):(nG l).length=l.length:=by simp [nG]
theorem NJ{l:List ByteArray}{k:Nat}(h:k<l.length):(aX l)[k]?=some [.leaf (.string l[k])]:=by
 unfold aX
 rw [List.getElem?_map,List.getElem?_eq_getElem h];rfl
theorem NP{l:List Int}{k:Nat}(h:k<l.length):(nG l)[k]?=some [.leaf (.int .i64 l[k])]:=by
 unfold nG
 rw [List.getElem?_map,List.getElem?_eq_getElem h];rfl
theorem e6: ∀l:List Int,Tr.bulkAll (nG l)=0
 | []=>rfl
 |a::l=>by
  have:=e6 l
  simp only [nG] at this
  simp [nG,Tr.bulkAll,Tr.bulkL,Tr.bulk,this]
theorem zR.str{w:World}{l:List ByteArray}{a:Option Addr}{len cap k:Nat}(h:zR w (.row 1 (aX l)) (.slice a len cap))(hk:k<l.length):
 ∃b off,a=some ⟨b,off,none⟩∧b<w.heap.size∧l[k].size≤maxLen∧w.cell? ⟨b,off+k,none⟩=some (.string l[k]):=by
 obtain⟨b,off,cs,rfl,hb,hcs,hc⟩:=h.at2 (NJ hk)
 obtain⟨v,rfl⟩:=agM hcs.length.symm
 obtain⟨rfl,hl⟩:=hcs.1.leaf_eq
 have:=hc 0 _ rfl
 rw [Nat.mul_one,Nat.add_zero] at this
 exact⟨b,off,rfl,hb,hl,this⟩
theorem zR.int{w:World}{l:List Int}{a:Option Addr}{len cap k:Nat}(h:zR w (.row 1 (nG l)) (.slice a len cap))(hk:k<l.length):
 ∃b off,a=some ⟨b,off,none⟩∧b<w.heap.size∧(Lit.int .i64 l[k]).wf=true∧w.cell? ⟨b,off+k,none⟩=some (.int .i64 l[k]):=by
 obtain⟨b,off,cs,rfl,hb,hcs,hc⟩:=h.at2 (NP hk)
 obtain⟨v,rfl⟩:=agM hcs.length.symm
 obtain⟨rfl,hl⟩:=hcs.1.leaf_eq
 have:=hc 0 _ rfl
 rw [Nat.mul_one,Nat.add_zero] at this
 exact⟨b,off,rfl,hb,hl,this⟩
inductive aE where
 |mk (package_:Int) (at_:Int)
def aE.tr:aE→List Tr
 | .mk v0 v1=> [.leaf (.int .i64 v0)]++([.leaf (.int .i64 v1)]++([]))
def aE.trs(l:List aE):List (List Tr):=l.map aE.tr
theorem aE.trs_map(l:List aE):aE.trs l=l.map aE.tr:=rfl
theorem aE.trs_len(l:List aE):(aE.trs l).length=l.length:=by rw [aE.trs_map,List.length_map]
def aE.gPackage:aE→Int
 | .mk v _=>v
@[simp] theorem aE.gPackage_mk(v0:Int)(v1:Int):aE.gPackage (.mk v0 v1)=v0:=rfl
def aE.gAt:aE→Int
 | .mk _ v=>v
@[simp] theorem aE.gAt_mk(v0:Int)(v1:Int):aE.gAt (.mk v0 v1)=v1:=rfl
theorem aE.tr_len(x:aE):x.tr.length=2:=by
 obtain⟨v0,v1⟩:=x
 simp [aE.tr]
theorem aE.sz(l:List aE): ∀e∈aE.trs l,e.length=2:=by
 intro e he
 rw [aE.trs_map] at he
 obtain⟨x,-,rfl⟩:=List.mem_map.1 he
 exact aE.tr_len x
theorem aE.all{l:List aE}{Q:List Tr→Prop}(h: ∀x∈l,Q x.tr): ∀e∈aE.trs l,Q e:=by
 intro e he
 rw [aE.trs_map] at he
 obtain⟨x,hx,rfl⟩:=List.mem_map.1 he
 exact h x hx
theorem aE.trs_get{l:List aE}{k:Nat}(h:k<l.length):(aE.trs l)[k]?=some (l[k]).tr:=by
 rw [aE.trs_map,List.getElem?_map,List.getElem?_eq_getElem h];rfl
inductive aA where
 |mk (atom_:ByteArray) (list_:List aA)
mutual
def aA.tr:aA→List Tr
 | .mk v0 v1=> [.leaf (.string v0)]++([.row 2 (aA.trs v1)]++([]))
def aA.trs:List aA→List (List Tr)
 | []=> []
 |e::r=>aA.tr e::aA.trs r
end
theorem aA.trs_map(l:List aA):aA.trs l=l.map aA.tr:=by induction l<;>simp_all [aA.trs]
theorem aA.trs_len(l:List aA):(aA.trs l).length=l.length:=by rw [aA.trs_map,List.length_map]
def aA.gAtom:aA→ByteArray
 | .mk v _=>v
@[simp] theorem aA.gAtom_mk(v0:ByteArray)(v1:List aA):aA.gAtom (.mk v0 v1)=v0:=rfl
def aA.gList:aA→List aA
 | .mk _ v=>v
@[simp] theorem aA.gList_mk(v0:ByteArray)(v1:List aA):aA.gList (.mk v0 v1)=v1:=rfl
theorem aA.tr_len(x:aA):x.tr.length=2:=by
 obtain⟨v0,v1⟩:=x
 simp [aA.tr]
theorem aA.sz(l:List aA): ∀e∈aA.trs l,e.length=2:=by
 intro e he
 rw [aA.trs_map] at he
 obtain⟨x,-,rfl⟩:=List.mem_map.1 he
 exact aA.tr_len x
theorem aA.all{l:List aA}{Q:List Tr→Prop}(h: ∀x∈l,Q x.tr): ∀e∈aA.trs l,Q e:=by
 intro e he
 rw [aA.trs_map] at he
 obtain⟨x,hx,rfl⟩:=List.mem_map.1 he
 exact h x hx
theorem aA.trs_get{l:List aA}{k:Nat}(h:k<l.length):(aA.trs l)[k]?=some (l[k]).tr:=by
 rw [aA.trs_map,List.getElem?_map,List.getElem?_eq_getElem h];rfl
inductive aB where
 |mk (kind_:Int) (name_:ByteArray) (args_:List aB)
mutual
def aB.tr:aB→List Tr
 | .mk v0 v1 v2=> [.leaf (.int .i64 v0)]++([.leaf (.string v1)]++([.row 3 (aB.trs v2)]++([])))
def aB.trs:List aB→List (List Tr)
 | []=> []
 |e::r=>aB.tr e::aB.trs r
end
theorem aB.trs_map(l:List aB):aB.trs l=l.map aB.tr:=by induction l<;>simp_all [aB.trs]
theorem aB.trs_len(l:List aB):(aB.trs l).length=l.length:=by rw [aB.trs_map,List.length_map]
def aB.gKind:aB→Int
 | .mk v _ _=>v
@[simp] theorem aB.gKind_mk(v0:Int)(v1:ByteArray)(v2:List aB):aB.gKind (.mk v0 v1 v2)=v0:=rfl
def aB.gName:aB→ByteArray
 | .mk _ v _=>v
@[simp] theorem aB.gName_mk(v0:Int)(v1:ByteArray)(v2:List aB):aB.gName (.mk v0 v1 v2)=v1:=rfl
def aB.gArgs:aB→List aB
 | .mk _ _ v=>v
@[simp] theorem aB.gArgs_mk(v0:Int)(v1:ByteArray)(v2:List aB):aB.gArgs (.mk v0 v1 v2)=v2:=rfl
theorem aB.tr_len(x:aB):x.tr.length=3:=by
 obtain⟨v0,v1,v2⟩:=x
 simp [aB.tr]
theorem aB.sz(l:List aB): ∀e∈aB.trs l,e.length=3:=by
 intro e he
 rw [aB.trs_map] at he
 obtain⟨x,-,rfl⟩:=List.mem_map.1 he
 exact aB.tr_len x
theorem aB.all{l:List aB}{Q:List Tr→Prop}(h: ∀x∈l,Q x.tr): ∀e∈aB.trs l,Q e:=by
 intro e he
 rw [aB.trs_map] at he
 obtain⟨x,hx,rfl⟩:=List.mem_map.1 he
 exact h x hx
theorem aB.trs_get{l:List aB}{k:Nat}(h:k<l.length):(aB.trs l)[k]?=some (l[k]).tr:=by
 rw [aB.trs_map,List.getElem?_map,List.getElem?_eq_getElem h];rfl
inductive bR where
 |mk (var_:ByteArray) (type_:aB)
def bR.tr:bR→List Tr
 | .mk v0 v1=> [.leaf (.string v0)]++(aB.tr v1++([]))
def bR.trs(l:List bR):List (List Tr):=l.map bR.tr
theorem bR.trs_map(l:List bR):bR.trs l=l.map bR.tr:=rfl
theorem bR.trs_len(l:List bR):(bR.trs l).length=l.length:=by rw [bR.trs_map,List.length_map]
def bR.gVar:bR→ByteArray
 | .mk v _=>v
@[simp] theorem bR.gVar_mk(v0:ByteArray)(v1:aB):bR.gVar (.mk v0 v1)=v0:=rfl
def bR.gType:bR→aB
 | .mk _ v=>v
@[simp] theorem bR.gType_mk(v0:ByteArray)(v1:aB):bR.gType (.mk v0 v1)=v1:=rfl
theorem bR.tr_len(x:bR):x.tr.length=4:=by
 obtain⟨v0,v1⟩:=x
 simp [bR.tr,aB.tr_len]
theorem bR.sz(l:List bR): ∀e∈bR.trs l,e.length=4:=by
 intro e he
 rw [bR.trs_map] at he
 obtain⟨x,-,rfl⟩:=List.mem_map.1 he
 exact bR.tr_len x
theorem bR.all{l:List bR}{Q:List Tr→Prop}(h: ∀x∈l,Q x.tr): ∀e∈bR.trs l,Q e:=by
 intro e he
 rw [bR.trs_map] at he
 obtain⟨x,hx,rfl⟩:=List.mem_map.1 he
 exact h x hx
theorem bR.trs_get{l:List bR}{k:Nat}(h:k<l.length):(bR.trs l)[k]?=some (l[k]).tr:=by
 rw [bR.trs_map,List.getElem?_map,List.getElem?_eq_getElem h];rfl
mutual
inductive bC where
 |mk (constructor_:ByteArray) (vars_:List ByteArray) (body_:aG)
inductive aG where
 |mk (kind_:Int) (trait_:ByteArray) (name_:ByteArray) (n_:Int) (type_:aB) (args_:List aG) (arms_:List bC)
end
mutual
def bC.tr:bC→List Tr
 | .mk v0 v1 v2=> [.leaf (.string v0)]++([.row 1 (aX v1)]++(aG.tr v2++([])))
def bC.trs:List bC→List (List Tr)
 | []=> []
 |e::r=>bC.tr e::bC.trs r
def aG.tr:aG→List Tr
 | .mk v0 v1 v2 v3 v4 v5 v6=> [.leaf (.int .i64 v0)]++([.leaf (.string v1)]++([.leaf (.string v2)]++([.leaf (.int .i64 v3)]++(aB.tr v4++([.row 9 (aG.trs v5)]++([.row 11 (bC.trs v6)]++([])))))))
def aG.trs:List aG→List (List Tr)
 | []=> []
 |e::r=>aG.tr e::aG.trs r
end
theorem bC.trs_map(l:List bC):bC.trs l=l.map bC.tr:=by induction l<;>simp_all [bC.trs]
theorem aG.trs_map(l:List aG):aG.trs l=l.map aG.tr:=by induction l<;>simp_all [aG.trs]
theorem bC.trs_len(l:List bC):(bC.trs l).length=l.length:=by rw [bC.trs_map,List.length_map]
theorem aG.trs_len(l:List aG):(aG.trs l).length=l.length:=by rw [aG.trs_map,List.length_map]
def bC.gConstructor:bC→ByteArray
 | .mk v _ _=>v
@[simp] theorem bC.gConstructor_mk(v0:ByteArray)(v1:List ByteArray)(v2:aG):bC.gConstructor (.mk v0 v1 v2)=v0:=rfl
def bC.gVars:bC→List ByteArray
 | .mk _ v _=>v
@[simp] theorem bC.gVars_mk(v0:ByteArray)(v1:List ByteArray)(v2:aG):bC.gVars (.mk v0 v1 v2)=v1:=rfl
def bC.gBody:bC→aG
 | .mk _ _ v=>v
@[simp] theorem bC.gBody_mk(v0:ByteArray)(v1:List ByteArray)(v2:aG):bC.gBody (.mk v0 v1 v2)=v2:=rfl
def aG.gKind:aG→Int
 | .mk v _ _ _ _ _ _=>v
@[simp] theorem aG.gKind_mk(v0:Int)(v1:ByteArray)(v2:ByteArray)(v3:Int)(v4:aB)(v5:List aG)(v6:List bC):aG.gKind (.mk v0 v1 v2 v3 v4 v5 v6)=v0:=rfl
def aG.gTrait:aG→ByteArray
 | .mk _ v _ _ _ _ _=>v
@[simp] theorem aG.gTrait_mk(v0:Int)(v1:ByteArray)(v2:ByteArray)(v3:Int)(v4:aB)(v5:List aG)(v6:List bC):aG.gTrait (.mk v0 v1 v2 v3 v4 v5 v6)=v1:=rfl
def aG.gName:aG→ByteArray
 | .mk _ _ v _ _ _ _=>v
@[simp] theorem aG.gName_mk(v0:Int)(v1:ByteArray)(v2:ByteArray)(v3:Int)(v4:aB)(v5:List aG)(v6:List bC):aG.gName (.mk v0 v1 v2 v3 v4 v5 v6)=v2:=rfl
def aG.gN:aG→Int
 | .mk _ _ _ v _ _ _=>v
@[simp] theorem aG.gN_mk(v0:Int)(v1:ByteArray)(v2:ByteArray)(v3:Int)(v4:aB)(v5:List aG)(v6:List bC):aG.gN (.mk v0 v1 v2 v3 v4 v5 v6)=v3:=rfl
def aG.gType:aG→aB
 | .mk _ _ _ _ v _ _=>v
@[simp] theorem aG.gType_mk(v0:Int)(v1:ByteArray)(v2:ByteArray)(v3:Int)(v4:aB)(v5:List aG)(v6:List bC):aG.gType (.mk v0 v1 v2 v3 v4 v5 v6)=v4:=rfl
def aG.gArgs:aG→List aG
 | .mk _ _ _ _ _ v _=>v
@[simp] theorem aG.gArgs_mk(v0:Int)(v1:ByteArray)(v2:ByteArray)(v3:Int)(v4:aB)(v5:List aG)(v6:List bC):aG.gArgs (.mk v0 v1 v2 v3 v4 v5 v6)=v5:=rfl
def aG.gArms:aG→List bC
 | .mk _ _ _ _ _ _ v=>v
@[simp] theorem aG.gArms_mk(v0:Int)(v1:ByteArray)(v2:ByteArray)(v3:Int)(v4:aB)(v5:List aG)(v6:List bC):aG.gArms (.mk v0 v1 v2 v3 v4 v5 v6)=v6:=rfl
theorem aG.tr_len(x:aG):x.tr.length=9:=by
 obtain⟨v0,v1,v2,v3,v4,v5,v6⟩:=x
 simp [aG.tr,aB.tr_len]
theorem bC.tr_len(x:bC):x.tr.length=11:=by
 obtain⟨v0,v1,v2⟩:=x
 simp [bC.tr,aG.tr_len]
theorem bC.sz(l:List bC): ∀e∈bC.trs l,e.length=11:=by
 intro e he
 rw [bC.trs_map] at he
 obtain⟨x,-,rfl⟩:=List.mem_map.1 he
 exact bC.tr_len x
theorem bC.all{l:List bC}{Q:List Tr→Prop}(h: ∀x∈l,Q x.tr): ∀e∈bC.trs l,Q e:=by
 intro e he
 rw [bC.trs_map] at he
 obtain⟨x,hx,rfl⟩:=List.mem_map.1 he
 exact h x hx
theorem bC.trs_get{l:List bC}{k:Nat}(h:k<l.length):(bC.trs l)[k]?=some (l[k]).tr:=by
 rw [bC.trs_map,List.getElem?_map,List.getElem?_eq_getElem h];rfl
theorem aG.sz(l:List aG): ∀e∈aG.trs l,e.length=9:=by
 intro e he
 rw [aG.trs_map] at he
 obtain⟨x,-,rfl⟩:=List.mem_map.1 he
 exact aG.tr_len x
theorem aG.all{l:List aG}{Q:List Tr→Prop}(h: ∀x∈l,Q x.tr): ∀e∈aG.trs l,Q e:=by
 intro e he
 rw [aG.trs_map] at he
 obtain⟨x,hx,rfl⟩:=List.mem_map.1 he
 exact h x hx
theorem aG.trs_get{l:List aG}{k:Nat}(h:k<l.length):(aG.trs l)[k]?=some (l[k]).tr:=by
 rw [aG.trs_map,List.getElem?_map,List.getElem?_eq_getElem h];rfl
inductive aD where
 |mk (name_:ByteArray) (params_:List aB) (result_:aB) (hasdefault_:Bool) (vars_:List ByteArray) (body_:aG)
def aD.tr:aD→List Tr
 | .mk v0 v1 v2 v3 v4 v5=> [.leaf (.string v0)]++([.row 3 (aB.trs v1)]++(aB.tr v2++([.leaf (.bool v3)]++([.row 1 (aX v4)]++(aG.tr v5++([]))))))
def aD.trs(l:List aD):List (List Tr):=l.map aD.tr
theorem aD.trs_map(l:List aD):aD.trs l=l.map aD.tr:=rfl
theorem aD.trs_len(l:List aD):(aD.trs l).length=l.length:=by rw [aD.trs_map,List.length_map]
def aD.gName:aD→ByteArray
 | .mk v _ _ _ _ _=>v
@[simp] theorem aD.gName_mk(v0:ByteArray)(v1:List aB)(v2:aB)(v3:Bool)(v4:List ByteArray)(v5:aG):aD.gName (.mk v0 v1 v2 v3 v4 v5)=v0:=rfl
def aD.gParams:aD→List aB
 | .mk _ v _ _ _ _=>v
@[simp] theorem aD.gParams_mk(v0:ByteArray)(v1:List aB)(v2:aB)(v3:Bool)(v4:List ByteArray)(v5:aG):aD.gParams (.mk v0 v1 v2 v3 v4 v5)=v1:=rfl
def aD.gResult:aD→aB
 | .mk _ _ v _ _ _=>v
@[simp] theorem aD.gResult_mk(v0:ByteArray)(v1:List aB)(v2:aB)(v3:Bool)(v4:List ByteArray)(v5:aG):aD.gResult (.mk v0 v1 v2 v3 v4 v5)=v2:=rfl
def aD.gHasDefault:aD→Bool
 | .mk _ _ _ v _ _=>v
@[simp] theorem aD.gHasDefault_mk(v0:ByteArray)(v1:List aB)(v2:aB)(v3:Bool)(v4:List ByteArray)(v5:aG):aD.gHasDefault (.mk v0 v1 v2 v3 v4 v5)=v3:=rfl
def aD.gVars:aD→List ByteArray
 | .mk _ _ _ _ v _=>v
@[simp] theorem aD.gVars_mk(v0:ByteArray)(v1:List aB)(v2:aB)(v3:Bool)(v4:List ByteArray)(v5:aG):aD.gVars (.mk v0 v1 v2 v3 v4 v5)=v4:=rfl
def aD.gBody:aD→aG
 | .mk _ _ _ _ _ v=>v
@[simp] theorem aD.gBody_mk(v0:ByteArray)(v1:List aB)(v2:aB)(v3:Bool)(v4:List ByteArray)(v5:aG):aD.gBody (.mk v0 v1 v2 v3 v4 v5)=v5:=rfl
theorem aD.tr_len(x:aD):x.tr.length=16:=by
 obtain⟨v0,v1,v2,v3,v4,v5⟩:=x
 simp [aD.tr,aB.tr_len,aG.tr_len]
theorem aD.sz(l:List aD): ∀e∈aD.trs l,e.length=16:=by
 intro e he
 rw [aD.trs_map] at he
 obtain⟨x,-,rfl⟩:=List.mem_map.1 he
 exact aD.tr_len x
theorem aD.all{l:List aD}{Q:List Tr→Prop}(h: ∀x∈l,Q x.tr): ∀e∈aD.trs l,Q e:=by
 intro e he
 rw [aD.trs_map] at he
 obtain⟨x,hx,rfl⟩:=List.mem_map.1 he
 exact h x hx
theorem aD.trs_get{l:List aD}{k:Nat}(h:k<l.length):(aD.trs l)[k]?=some (l[k]).tr:=by
 rw [aD.trs_map,List.getElem?_map,List.getElem?_eq_getElem h];rfl
inductive aP where
 |mk (name_:ByteArray) (supertraits_:List ByteArray) (auto_:Bool) (assoc_:Bool) (signatures_:List aD)
def aP.tr:aP→List Tr
 | .mk v0 v1 v2 v3 v4=> [.leaf (.string v0)]++([.row 1 (aX v1)]++([.leaf (.bool v2)]++([.leaf (.bool v3)]++([.row 16 (aD.trs v4)]++([])))))
def aP.trs(l:List aP):List (List Tr):=l.map aP.tr
theorem aP.trs_map(l:List aP):aP.trs l=l.map aP.tr:=rfl
theorem aP.trs_len(l:List aP):(aP.trs l).length=l.length:=by rw [aP.trs_map,List.length_map]
def aP.gName:aP→ByteArray
 | .mk v _ _ _ _=>v
@[simp] theorem aP.gName_mk(v0:ByteArray)(v1:List ByteArray)(v2:Bool)(v3:Bool)(v4:List aD):aP.gName (.mk v0 v1 v2 v3 v4)=v0:=rfl
def aP.gSupertraits:aP→List ByteArray
 | .mk _ v _ _ _=>v
@[simp] theorem aP.gSupertraits_mk(v0:ByteArray)(v1:List ByteArray)(v2:Bool)(v3:Bool)(v4:List aD):aP.gSupertraits (.mk v0 v1 v2 v3 v4)=v1:=rfl
def aP.gAuto:aP→Bool
 | .mk _ _ v _ _=>v
@[simp] theorem aP.gAuto_mk(v0:ByteArray)(v1:List ByteArray)(v2:Bool)(v3:Bool)(v4:List aD):aP.gAuto (.mk v0 v1 v2 v3 v4)=v2:=rfl
def aP.gAssoc:aP→Bool
 | .mk _ _ _ v _=>v
@[simp] theorem aP.gAssoc_mk(v0:ByteArray)(v1:List ByteArray)(v2:Bool)(v3:Bool)(v4:List aD):aP.gAssoc (.mk v0 v1 v2 v3 v4)=v3:=rfl
def aP.gSignatures:aP→List aD
 | .mk _ _ _ _ v=>v
@[simp] theorem aP.gSignatures_mk(v0:ByteArray)(v1:List ByteArray)(v2:Bool)(v3:Bool)(v4:List aD):aP.gSignatures (.mk v0 v1 v2 v3 v4)=v4:=rfl
theorem aP.tr_len(x:aP):x.tr.length=5:=by
 obtain⟨v0,v1,v2,v3,v4⟩:=x
 simp [aP.tr]
theorem aP.sz(l:List aP): ∀e∈aP.trs l,e.length=5:=by
 intro e he
 rw [aP.trs_map] at he
 obtain⟨x,-,rfl⟩:=List.mem_map.1 he
 exact aP.tr_len x
theorem aP.all{l:List aP}{Q:List Tr→Prop}(h: ∀x∈l,Q x.tr): ∀e∈aP.trs l,Q e:=by
 intro e he
 rw [aP.trs_map] at he
 obtain⟨x,hx,rfl⟩:=List.mem_map.1 he
 exact h x hx
theorem aP.trs_get{l:List aP}{k:Nat}(h:k<l.length):(aP.trs l)[k]?=some (l[k]).tr:=by
 rw [aP.trs_map,List.getElem?_map,List.getElem?_eq_getElem h];rfl
inductive aC where
 |mk (name_:ByteArray) (fields_:List aB)
def aC.tr:aC→List Tr
 | .mk v0 v1=> [.leaf (.string v0)]++([.row 3 (aB.trs v1)]++([]))
def aC.trs(l:List aC):List (List Tr):=l.map aC.tr
theorem aC.trs_map(l:List aC):aC.trs l=l.map aC.tr:=rfl
theorem aC.trs_len(l:List aC):(aC.trs l).length=l.length:=by rw [aC.trs_map,List.length_map]
def aC.gName:aC→ByteArray
 | .mk v _=>v
@[simp] theorem aC.gName_mk(v0:ByteArray)(v1:List aB):aC.gName (.mk v0 v1)=v0:=rfl
def aC.gFields:aC→List aB
 | .mk _ v=>v
@[simp] theorem aC.gFields_mk(v0:ByteArray)(v1:List aB):aC.gFields (.mk v0 v1)=v1:=rfl
theorem aC.tr_len(x:aC):x.tr.length=2:=by
 obtain⟨v0,v1⟩:=x
 simp [aC.tr]
theorem aC.sz(l:List aC): ∀e∈aC.trs l,e.length=2:=by
 intro e he
 rw [aC.trs_map] at he
 obtain⟨x,-,rfl⟩:=List.mem_map.1 he
 exact aC.tr_len x
theorem aC.all{l:List aC}{Q:List Tr→Prop}(h: ∀x∈l,Q x.tr): ∀e∈aC.trs l,Q e:=by
 intro e he
 rw [aC.trs_map] at he
 obtain⟨x,hx,rfl⟩:=List.mem_map.1 he
 exact h x hx
theorem aC.trs_get{l:List aC}{k:Nat}(h:k<l.length):(aC.trs l)[k]?=some (l[k]).tr:=by
 rw [aC.trs_map,List.getElem?_map,List.getElem?_eq_getElem h];rfl
inductive aI where
 |mk (name_:ByteArray) (vars_:List ByteArray) (constructors_:List aC)
def aI.tr:aI→List Tr
 | .mk v0 v1 v2=> [.leaf (.string v0)]++([.row 1 (aX v1)]++([.row 2 (aC.trs v2)]++([])))
def aI.trs(l:List aI):List (List Tr):=l.map aI.tr
theorem aI.trs_map(l:List aI):aI.trs l=l.map aI.tr:=rfl
theorem aI.trs_len(l:List aI):(aI.trs l).length=l.length:=by rw [aI.trs_map,List.length_map]
def aI.gName:aI→ByteArray
 | .mk v _ _=>v
@[simp] theorem aI.gName_mk(v0:ByteArray)(v1:List ByteArray)(v2:List aC):aI.gName (.mk v0 v1 v2)=v0:=rfl
def aI.gVars:aI→List ByteArray
 | .mk _ v _=>v
@[simp] theorem aI.gVars_mk(v0:ByteArray)(v1:List ByteArray)(v2:List aC):aI.gVars (.mk v0 v1 v2)=v1:=rfl
def aI.gConstructors:aI→List aC
 | .mk _ _ v=>v
@[simp] theorem aI.gConstructors_mk(v0:ByteArray)(v1:List ByteArray)(v2:List aC):aI.gConstructors (.mk v0 v1 v2)=v2:=rfl
theorem aI.tr_len(x:aI):x.tr.length=3:=by
 obtain⟨v0,v1,v2⟩:=x
 simp [aI.tr]
theorem aI.sz(l:List aI): ∀e∈aI.trs l,e.length=3:=by
 intro e he
 rw [aI.trs_map] at he
 obtain⟨x,-,rfl⟩:=List.mem_map.1 he
 exact aI.tr_len x
theorem aI.all{l:List aI}{Q:List Tr→Prop}(h: ∀x∈l,Q x.tr): ∀e∈aI.trs l,Q e:=by
 intro e he
 rw [aI.trs_map] at he
 obtain⟨x,hx,rfl⟩:=List.mem_map.1 he
 exact h x hx
theorem aI.trs_get{l:List aI}{k:Nat}(h:k<l.length):(aI.trs l)[k]?=some (l[k]).tr:=by
 rw [aI.trs_map,List.getElem?_map,List.getElem?_eq_getElem h];rfl
inductive aJ where
 |mk (trait_:ByteArray) (type_:aB)
def aJ.tr:aJ→List Tr
 | .mk v0 v1=> [.leaf (.string v0)]++(aB.tr v1++([]))
def aJ.trs(l:List aJ):List (List Tr):=l.map aJ.tr
theorem aJ.trs_map(l:List aJ):aJ.trs l=l.map aJ.tr:=rfl
theorem aJ.trs_len(l:List aJ):(aJ.trs l).length=l.length:=by rw [aJ.trs_map,List.length_map]
def aJ.gTrait:aJ→ByteArray
 | .mk v _=>v
@[simp] theorem aJ.gTrait_mk(v0:ByteArray)(v1:aB):aJ.gTrait (.mk v0 v1)=v0:=rfl
def aJ.gType:aJ→aB
 | .mk _ v=>v
@[simp] theorem aJ.gType_mk(v0:ByteArray)(v1:aB):aJ.gType (.mk v0 v1)=v1:=rfl
theorem aJ.tr_len(x:aJ):x.tr.length=4:=by
 obtain⟨v0,v1⟩:=x
 simp [aJ.tr,aB.tr_len]
theorem aJ.sz(l:List aJ): ∀e∈aJ.trs l,e.length=4:=by
 intro e he
 rw [aJ.trs_map] at he
 obtain⟨x,-,rfl⟩:=List.mem_map.1 he
 exact aJ.tr_len x
theorem aJ.all{l:List aJ}{Q:List Tr→Prop}(h: ∀x∈l,Q x.tr): ∀e∈aJ.trs l,Q e:=by
 intro e he
 rw [aJ.trs_map] at he
 obtain⟨x,hx,rfl⟩:=List.mem_map.1 he
 exact h x hx
theorem aJ.trs_get{l:List aJ}{k:Nat}(h:k<l.length):(aJ.trs l)[k]?=some (l[k]).tr:=by
 rw [aJ.trs_map,List.getElem?_map,List.getElem?_eq_getElem h];rfl
inductive aN where
 |mk (name_:ByteArray) (vars_:List ByteArray) (body_:aG)
def aN.tr:aN→List Tr
 | .mk v0 v1 v2=> [.leaf (.string v0)]++([.row 1 (aX v1)]++(aG.tr v2++([])))
def aN.trs(l:List aN):List (List Tr):=l.map aN.tr
theorem aN.trs_map(l:List aN):aN.trs l=l.map aN.tr:=rfl
theorem aN.trs_len(l:List aN):(aN.trs l).length=l.length:=by rw [aN.trs_map,List.length_map]
def aN.gName:aN→ByteArray
 | .mk v _ _=>v
@[simp] theorem aN.gName_mk(v0:ByteArray)(v1:List ByteArray)(v2:aG):aN.gName (.mk v0 v1 v2)=v0:=rfl
def aN.gVars:aN→List ByteArray
 | .mk _ v _=>v
@[simp] theorem aN.gVars_mk(v0:ByteArray)(v1:List ByteArray)(v2:aG):aN.gVars (.mk v0 v1 v2)=v1:=rfl
def aN.gBody:aN→aG
 | .mk _ _ v=>v
@[simp] theorem aN.gBody_mk(v0:ByteArray)(v1:List ByteArray)(v2:aG):aN.gBody (.mk v0 v1 v2)=v2:=rfl
theorem aN.tr_len(x:aN):x.tr.length=11:=by
 obtain⟨v0,v1,v2⟩:=x
 simp [aN.tr,aG.tr_len]
theorem aN.sz(l:List aN): ∀e∈aN.trs l,e.length=11:=by
 intro e he
 rw [aN.trs_map] at he
 obtain⟨x,-,rfl⟩:=List.mem_map.1 he
 exact aN.tr_len x
theorem aN.all{l:List aN}{Q:List Tr→Prop}(h: ∀x∈l,Q x.tr): ∀e∈aN.trs l,Q e:=by
 intro e he
 rw [aN.trs_map] at he
 obtain⟨x,hx,rfl⟩:=List.mem_map.1 he
 exact h x hx
theorem aN.trs_get{l:List aN}{k:Nat}(h:k<l.length):(aN.trs l)[k]?=some (l[k]).tr:=by
 rw [aN.trs_map,List.getElem?_map,List.getElem?_eq_getElem h];rfl
inductive aH where
 |mk (trait_:ByteArray) (vars_:List ByteArray) (head_:aB) (where_:List aJ) (default_:Bool) (hasassoc_:Bool) (assoc_:aB) (methods_:List aN)
def aH.tr:aH→List Tr
 | .mk v0 v1 v2 v3 v4 v5 v6 v7=> [.leaf (.string v0)]++([.row 1 (aX v1)]++(aB.tr v2++([.row 4 (aJ.trs v3)]++([.leaf (.bool v4)]++([.leaf (.bool v5)]++(aB.tr v6++([.row 11 (aN.trs v7)]++([]))))))))
def aH.trs(l:List aH):List (List Tr):=l.map aH.tr
theorem aH.trs_map(l:List aH):aH.trs l=l.map aH.tr:=rfl
theorem aH.trs_len(l:List aH):(aH.trs l).length=l.length:=by rw [aH.trs_map,List.length_map]
def aH.gTrait:aH→ByteArray
 | .mk v _ _ _ _ _ _ _=>v
@[simp] theorem aH.gTrait_mk(v0:ByteArray)(v1:List ByteArray)(v2:aB)(v3:List aJ)(v4:Bool)(v5:Bool)(v6:aB)(v7:List aN):aH.gTrait (.mk v0 v1 v2 v3 v4 v5 v6 v7)=v0:=rfl
def aH.gVars:aH→List ByteArray
 | .mk _ v _ _ _ _ _ _=>v
@[simp] theorem aH.gVars_mk(v0:ByteArray)(v1:List ByteArray)(v2:aB)(v3:List aJ)(v4:Bool)(v5:Bool)(v6:aB)(v7:List aN):aH.gVars (.mk v0 v1 v2 v3 v4 v5 v6 v7)=v1:=rfl
def aH.gHead:aH→aB
 | .mk _ _ v _ _ _ _ _=>v
@[simp] theorem aH.gHead_mk(v0:ByteArray)(v1:List ByteArray)(v2:aB)(v3:List aJ)(v4:Bool)(v5:Bool)(v6:aB)(v7:List aN):aH.gHead (.mk v0 v1 v2 v3 v4 v5 v6 v7)=v2:=rfl
def aH.gWhere:aH→List aJ
 | .mk _ _ _ v _ _ _ _=>v
@[simp] theorem aH.gWhere_mk(v0:ByteArray)(v1:List ByteArray)(v2:aB)(v3:List aJ)(v4:Bool)(v5:Bool)(v6:aB)(v7:List aN):aH.gWhere (.mk v0 v1 v2 v3 v4 v5 v6 v7)=v3:=rfl
def aH.gDefault:aH→Bool
 | .mk _ _ _ _ v _ _ _=>v
@[simp] theorem aH.gDefault_mk(v0:ByteArray)(v1:List ByteArray)(v2:aB)(v3:List aJ)(v4:Bool)(v5:Bool)(v6:aB)(v7:List aN):aH.gDefault (.mk v0 v1 v2 v3 v4 v5 v6 v7)=v4:=rfl
def aH.gHasAssoc:aH→Bool
 | .mk _ _ _ _ _ v _ _=>v
@[simp] theorem aH.gHasAssoc_mk(v0:ByteArray)(v1:List ByteArray)(v2:aB)(v3:List aJ)(v4:Bool)(v5:Bool)(v6:aB)(v7:List aN):aH.gHasAssoc (.mk v0 v1 v2 v3 v4 v5 v6 v7)=v5:=rfl
def aH.gAssoc:aH→aB
 | .mk _ _ _ _ _ _ v _=>v
@[simp] theorem aH.gAssoc_mk(v0:ByteArray)(v1:List ByteArray)(v2:aB)(v3:List aJ)(v4:Bool)(v5:Bool)(v6:aB)(v7:List aN):aH.gAssoc (.mk v0 v1 v2 v3 v4 v5 v6 v7)=v6:=rfl
def aH.gMethods:aH→List aN
 | .mk _ _ _ _ _ _ _ v=>v
@[simp] theorem aH.gMethods_mk(v0:ByteArray)(v1:List ByteArray)(v2:aB)(v3:List aJ)(v4:Bool)(v5:Bool)(v6:aB)(v7:List aN):aH.gMethods (.mk v0 v1 v2 v3 v4 v5 v6 v7)=v7:=rfl
theorem aH.tr_len(x:aH):x.tr.length=12:=by
 obtain⟨v0,v1,v2,v3,v4,v5,v6,v7⟩:=x
 simp [aH.tr,aB.tr_len,aB.tr_len]
theorem aH.sz(l:List aH): ∀e∈aH.trs l,e.length=12:=by
 intro e he
 rw [aH.trs_map] at he
 obtain⟨x,-,rfl⟩:=List.mem_map.1 he
 exact aH.tr_len x
theorem aH.all{l:List aH}{Q:List Tr→Prop}(h: ∀x∈l,Q x.tr): ∀e∈aH.trs l,Q e:=by
 intro e he
 rw [aH.trs_map] at he
 obtain⟨x,hx,rfl⟩:=List.mem_map.1 he
 exact h x hx
theorem aH.trs_get{l:List aH}{k:Nat}(h:k<l.length):(aH.trs l)[k]?=some (l[k]).tr:=by
 rw [aH.trs_map,List.getElem?_map,List.getElem?_eq_getElem h];rfl
inductive aR where
 |mk (name_:ByteArray) (type_:aB)
def aR.tr:aR→List Tr
 | .mk v0 v1=> [.leaf (.string v0)]++(aB.tr v1++([]))
def aR.trs(l:List aR):List (List Tr):=l.map aR.tr
theorem aR.trs_map(l:List aR):aR.trs l=l.map aR.tr:=rfl
theorem aR.trs_len(l:List aR):(aR.trs l).length=l.length:=by rw [aR.trs_map,List.length_map]
def aR.gName:aR→ByteArray
 | .mk v _=>v
@[simp] theorem aR.gName_mk(v0:ByteArray)(v1:aB):aR.gName (.mk v0 v1)=v0:=rfl
def aR.gType:aR→aB
 | .mk _ v=>v
@[simp] theorem aR.gType_mk(v0:ByteArray)(v1:aB):aR.gType (.mk v0 v1)=v1:=rfl
theorem aR.tr_len(x:aR):x.tr.length=4:=by
 obtain⟨v0,v1⟩:=x
 simp [aR.tr,aB.tr_len]
theorem aR.sz(l:List aR): ∀e∈aR.trs l,e.length=4:=by
 intro e he
 rw [aR.trs_map] at he
 obtain⟨x,-,rfl⟩:=List.mem_map.1 he
 exact aR.tr_len x
theorem aR.all{l:List aR}{Q:List Tr→Prop}(h: ∀x∈l,Q x.tr): ∀e∈aR.trs l,Q e:=by
 intro e he
 rw [aR.trs_map] at he
 obtain⟨x,hx,rfl⟩:=List.mem_map.1 he
 exact h x hx
theorem aR.trs_get{l:List aR}{k:Nat}(h:k<l.length):(aR.trs l)[k]?=some (l[k]).tr:=by
 rw [aR.trs_map,List.getElem?_map,List.getElem?_eq_getElem h];rfl
inductive aL where
 |mk (name_:ByteArray) (vars_:List ByteArray) (where_:List aJ) (params_:List aR) (result_:aB) (body_:aG)
def aL.tr:aL→List Tr
 | .mk v0 v1 v2 v3 v4 v5=> [.leaf (.string v0)]++([.row 1 (aX v1)]++([.row 4 (aJ.trs v2)]++([.row 4 (aR.trs v3)]++(aB.tr v4++(aG.tr v5++([]))))))
def aL.trs(l:List aL):List (List Tr):=l.map aL.tr
theorem aL.trs_map(l:List aL):aL.trs l=l.map aL.tr:=rfl
theorem aL.trs_len(l:List aL):(aL.trs l).length=l.length:=by rw [aL.trs_map,List.length_map]
def aL.gName:aL→ByteArray
 | .mk v _ _ _ _ _=>v
@[simp] theorem aL.gName_mk(v0:ByteArray)(v1:List ByteArray)(v2:List aJ)(v3:List aR)(v4:aB)(v5:aG):aL.gName (.mk v0 v1 v2 v3 v4 v5)=v0:=rfl
def aL.gVars:aL→List ByteArray
 | .mk _ v _ _ _ _=>v
@[simp] theorem aL.gVars_mk(v0:ByteArray)(v1:List ByteArray)(v2:List aJ)(v3:List aR)(v4:aB)(v5:aG):aL.gVars (.mk v0 v1 v2 v3 v4 v5)=v1:=rfl
def aL.gWhere:aL→List aJ
 | .mk _ _ v _ _ _=>v
@[simp] theorem aL.gWhere_mk(v0:ByteArray)(v1:List ByteArray)(v2:List aJ)(v3:List aR)(v4:aB)(v5:aG):aL.gWhere (.mk v0 v1 v2 v3 v4 v5)=v2:=rfl
def aL.gParams:aL→List aR
 | .mk _ _ _ v _ _=>v
@[simp] theorem aL.gParams_mk(v0:ByteArray)(v1:List ByteArray)(v2:List aJ)(v3:List aR)(v4:aB)(v5:aG):aL.gParams (.mk v0 v1 v2 v3 v4 v5)=v3:=rfl
def aL.gResult:aL→aB
 | .mk _ _ _ _ v _=>v
@[simp] theorem aL.gResult_mk(v0:ByteArray)(v1:List ByteArray)(v2:List aJ)(v3:List aR)(v4:aB)(v5:aG):aL.gResult (.mk v0 v1 v2 v3 v4 v5)=v4:=rfl
def aL.gBody:aL→aG
 | .mk _ _ _ _ _ v=>v
@[simp] theorem aL.gBody_mk(v0:ByteArray)(v1:List ByteArray)(v2:List aJ)(v3:List aR)(v4:aB)(v5:aG):aL.gBody (.mk v0 v1 v2 v3 v4 v5)=v5:=rfl
theorem aL.tr_len(x:aL):x.tr.length=16:=by
 obtain⟨v0,v1,v2,v3,v4,v5⟩:=x
 simp [aL.tr,aB.tr_len,aG.tr_len]
theorem aL.sz(l:List aL): ∀e∈aL.trs l,e.length=16:=by
 intro e he
 rw [aL.trs_map] at he
 obtain⟨x,-,rfl⟩:=List.mem_map.1 he
 exact aL.tr_len x
theorem aL.all{l:List aL}{Q:List Tr→Prop}(h: ∀x∈l,Q x.tr): ∀e∈aL.trs l,Q e:=by
 intro e he
 rw [aL.trs_map] at he
 obtain⟨x,hx,rfl⟩:=List.mem_map.1 he
 exact h x hx
theorem aL.trs_get{l:List aL}{k:Nat}(h:k<l.length):(aL.trs l)[k]?=some (l[k]).tr:=by
 rw [aL.trs_map,List.getElem?_map,List.getElem?_eq_getElem h];rfl
inductive aK where
 |mk (name_:ByteArray) (deps_:List ByteArray) (traits_:List aP) (datatypes_:List aI) (instances_:List aH) (functions_:List aL)
def aK.tr:aK→List Tr
 | .mk v0 v1 v2 v3 v4 v5=> [.leaf (.string v0)]++([.row 1 (aX v1)]++([.row 5 (aP.trs v2)]++([.row 3 (aI.trs v3)]++([.row 12 (aH.trs v4)]++([.row 16 (aL.trs v5)]++([]))))))
def aK.trs(l:List aK):List (List Tr):=l.map aK.tr
theorem aK.trs_map(l:List aK):aK.trs l=l.map aK.tr:=rfl
theorem aK.trs_len(l:List aK):(aK.trs l).length=l.length:=by rw [aK.trs_map,List.length_map]
def aK.gName:aK→ByteArray
 | .mk v _ _ _ _ _=>v
@[simp] theorem aK.gName_mk(v0:ByteArray)(v1:List ByteArray)(v2:List aP)(v3:List aI)(v4:List aH)(v5:List aL):aK.gName (.mk v0 v1 v2 v3 v4 v5)=v0:=rfl
def aK.gDeps:aK→List ByteArray
 | .mk _ v _ _ _ _=>v
@[simp] theorem aK.gDeps_mk(v0:ByteArray)(v1:List ByteArray)(v2:List aP)(v3:List aI)(v4:List aH)(v5:List aL):aK.gDeps (.mk v0 v1 v2 v3 v4 v5)=v1:=rfl
def aK.gTraits:aK→List aP
 | .mk _ _ v _ _ _=>v
@[simp] theorem aK.gTraits_mk(v0:ByteArray)(v1:List ByteArray)(v2:List aP)(v3:List aI)(v4:List aH)(v5:List aL):aK.gTraits (.mk v0 v1 v2 v3 v4 v5)=v2:=rfl
def aK.gDataTypes:aK→List aI
 | .mk _ _ _ v _ _=>v
@[simp] theorem aK.gDataTypes_mk(v0:ByteArray)(v1:List ByteArray)(v2:List aP)(v3:List aI)(v4:List aH)(v5:List aL):aK.gDataTypes (.mk v0 v1 v2 v3 v4 v5)=v3:=rfl
def aK.gInstances:aK→List aH
 | .mk _ _ _ _ v _=>v
@[simp] theorem aK.gInstances_mk(v0:ByteArray)(v1:List ByteArray)(v2:List aP)(v3:List aI)(v4:List aH)(v5:List aL):aK.gInstances (.mk v0 v1 v2 v3 v4 v5)=v4:=rfl
def aK.gFunctions:aK→List aL
 | .mk _ _ _ _ _ v=>v
@[simp] theorem aK.gFunctions_mk(v0:ByteArray)(v1:List ByteArray)(v2:List aP)(v3:List aI)(v4:List aH)(v5:List aL):aK.gFunctions (.mk v0 v1 v2 v3 v4 v5)=v5:=rfl
theorem aK.tr_len(x:aK):x.tr.length=6:=by
 obtain⟨v0,v1,v2,v3,v4,v5⟩:=x
 simp [aK.tr]
theorem aK.sz(l:List aK): ∀e∈aK.trs l,e.length=6:=by
 intro e he
 rw [aK.trs_map] at he
 obtain⟨x,-,rfl⟩:=List.mem_map.1 he
 exact aK.tr_len x
theorem aK.all{l:List aK}{Q:List Tr→Prop}(h: ∀x∈l,Q x.tr): ∀e∈aK.trs l,Q e:=by
 intro e he
 rw [aK.trs_map] at he
 obtain⟨x,hx,rfl⟩:=List.mem_map.1 he
 exact h x hx
theorem aK.trs_get{l:List aK}{k:Nat}(h:k<l.length):(aK.trs l)[k]?=some (l[k]).tr:=by
 rw [aK.trs_map,List.getElem?_map,List.getElem?_eq_getElem h];rfl
inductive aM where
 |mk (packages_:List aK)
def aM.tr:aM→List Tr
 | .mk v0=> [.row 6 (aK.trs v0)]++([])
def aM.trs(l:List aM):List (List Tr):=l.map aM.tr
theorem aM.trs_map(l:List aM):aM.trs l=l.map aM.tr:=rfl
theorem aM.trs_len(l:List aM):(aM.trs l).length=l.length:=by rw [aM.trs_map,List.length_map]
def aM.gPackages:aM→List aK
 | .mk v=>v
@[simp] theorem aM.gPackages_mk(v0:List aK):aM.gPackages (.mk v0)=v0:=rfl
theorem aM.tr_len(x:aM):x.tr.length=1:=by
 obtain⟨v0⟩:=x
 simp [aM.tr]
theorem aM.sz(l:List aM): ∀e∈aM.trs l,e.length=1:=by
 intro e he
 rw [aM.trs_map] at he
 obtain⟨x,-,rfl⟩:=List.mem_map.1 he
 exact aM.tr_len x
theorem aM.all{l:List aM}{Q:List Tr→Prop}(h: ∀x∈l,Q x.tr): ∀e∈aM.trs l,Q e:=by
 intro e he
 rw [aM.trs_map] at he
 obtain⟨x,hx,rfl⟩:=List.mem_map.1 he
 exact h x hx
theorem aM.trs_get{l:List aM}{k:Nat}(h:k<l.length):(aM.trs l)[k]?=some (l[k]).tr:=by
 rw [aM.trs_map,List.getElem?_map,List.getElem?_eq_getElem h];rfl
inductive bK where
 |mk (kind_:Int) (n_:Int) (at_:aE) (args_:List bK)
mutual
def bK.tr:bK→List Tr
 | .mk v0 v1 v2 v3=> [.leaf (.int .i64 v0)]++([.leaf (.int .i64 v1)]++(aE.tr v2++([.row 5 (bK.trs v3)]++([]))))
def bK.trs:List bK→List (List Tr)
 | []=> []
 |e::r=>bK.tr e::bK.trs r
end
theorem bK.trs_map(l:List bK):bK.trs l=l.map bK.tr:=by induction l<;>simp_all [bK.trs]
def bK.gKind:bK→Int
 | .mk v _ _ _=>v
@[simp] theorem bK.gKind_mk(v0:Int)(v1:Int)(v2:aE)(v3:List bK):bK.gKind (.mk v0 v1 v2 v3)=v0:=rfl
def bK.gN:bK→Int
 | .mk _ v _ _=>v
@[simp] theorem bK.gN_mk(v0:Int)(v1:Int)(v2:aE)(v3:List bK):bK.gN (.mk v0 v1 v2 v3)=v1:=rfl
def bK.gAt:bK→aE
 | .mk _ _ v _=>v
@[simp] theorem bK.gAt_mk(v0:Int)(v1:Int)(v2:aE)(v3:List bK):bK.gAt (.mk v0 v1 v2 v3)=v2:=rfl
def bK.gArgs:bK→List bK
 | .mk _ _ _ v=>v
@[simp] theorem bK.gArgs_mk(v0:Int)(v1:Int)(v2:aE)(v3:List bK):bK.gArgs (.mk v0 v1 v2 v3)=v3:=rfl
theorem bK.tr_len(x:bK):x.tr.length=5:=by
 obtain⟨v0,v1,v2,v3⟩:=x
 simp [bK.tr,aE.tr_len]
theorem bK.sz(l:List bK): ∀e∈bK.trs l,e.length=5:=by
 intro e he
 rw [bK.trs_map] at he
 obtain⟨x,-,rfl⟩:=List.mem_map.1 he
 exact bK.tr_len x
theorem bK.all{l:List bK}{Q:List Tr→Prop}(h: ∀x∈l,Q x.tr): ∀e∈bK.trs l,Q e:=by
 intro e he
 rw [bK.trs_map] at he
 obtain⟨x,hx,rfl⟩:=List.mem_map.1 he
 exact h x hx
inductive a4 where
 |mk (goal_:aJ) (from_:Int) (steps_:List Int)
def a4.tr:a4→List Tr
 | .mk v0 v1 v2=>aJ.tr v0++([.leaf (.int .i64 v1)]++([.row 1 (nG v2)]++([])))
def a4.trs(l:List a4):List (List Tr):=l.map a4.tr
theorem a4.trs_map(l:List a4):a4.trs l=l.map a4.tr:=rfl
theorem a4.trs_len(l:List a4):(a4.trs l).length=l.length:=by rw [a4.trs_map,List.length_map]
def a4.gGoal:a4→aJ
 | .mk v _ _=>v
@[simp] theorem a4.gGoal_mk(v0:aJ)(v1:Int)(v2:List Int):a4.gGoal (.mk v0 v1 v2)=v0:=rfl
def a4.gFrom:a4→Int
 | .mk _ v _=>v
@[simp] theorem a4.gFrom_mk(v0:aJ)(v1:Int)(v2:List Int):a4.gFrom (.mk v0 v1 v2)=v1:=rfl
def a4.gSteps:a4→List Int
 | .mk _ _ v=>v
@[simp] theorem a4.gSteps_mk(v0:aJ)(v1:Int)(v2:List Int):a4.gSteps (.mk v0 v1 v2)=v2:=rfl
theorem a4.tr_len(x:a4):x.tr.length=6:=by
 obtain⟨v0,v1,v2⟩:=x
 simp [a4.tr,aJ.tr_len]
theorem a4.sz(l:List a4): ∀e∈a4.trs l,e.length=6:=by
 intro e he
 rw [a4.trs_map] at he
 obtain⟨x,-,rfl⟩:=List.mem_map.1 he
 exact a4.tr_len x
theorem a4.all{l:List a4}{Q:List Tr→Prop}(h: ∀x∈l,Q x.tr): ∀e∈a4.trs l,Q e:=by
 intro e he
 rw [a4.trs_map] at he
 obtain⟨x,hx,rfl⟩:=List.mem_map.1 he
 exact h x hx
theorem a4.trs_get{l:List a4}{k:Nat}(h:k<l.length):(a4.trs l)[k]?=some (l[k]).tr:=by
 rw [a4.trs_map,List.getElem?_map,List.getElem?_eq_getElem h];rfl
inductive cC where
 |mk (s_:ByteArray) (at_:Int) (deep_:Int) (size_:Int) (bad_:Bool)
def cC.tr:cC→List Tr
 | .mk v0 v1 v2 v3 v4=> [.leaf (.string v0)]++([.leaf (.int .i64 v1)]++([.leaf (.int .i64 v2)]++([.leaf (.int .i64 v3)]++([.leaf (.bool v4)]++([])))))
def cC.trs(l:List cC):List (List Tr):=l.map cC.tr
theorem cC.trs_map(l:List cC):cC.trs l=l.map cC.tr:=rfl
def cC.gs:cC→ByteArray
 | .mk v _ _ _ _=>v
@[simp] theorem cC.gs_mk(v0:ByteArray)(v1:Int)(v2:Int)(v3:Int)(v4:Bool):cC.gs (.mk v0 v1 v2 v3 v4)=v0:=rfl
def cC.gat:cC→Int
 | .mk _ v _ _ _=>v
@[simp] theorem cC.gat_mk(v0:ByteArray)(v1:Int)(v2:Int)(v3:Int)(v4:Bool):cC.gat (.mk v0 v1 v2 v3 v4)=v1:=rfl
def cC.gdeep:cC→Int
 | .mk _ _ v _ _=>v
@[simp] theorem cC.gdeep_mk(v0:ByteArray)(v1:Int)(v2:Int)(v3:Int)(v4:Bool):cC.gdeep (.mk v0 v1 v2 v3 v4)=v2:=rfl
def cC.gsize:cC→Int
 | .mk _ _ _ v _=>v
@[simp] theorem cC.gsize_mk(v0:ByteArray)(v1:Int)(v2:Int)(v3:Int)(v4:Bool):cC.gsize (.mk v0 v1 v2 v3 v4)=v3:=rfl
def cC.gbad:cC→Bool
 | .mk _ _ _ _ v=>v
@[simp] theorem cC.gbad_mk(v0:ByteArray)(v1:Int)(v2:Int)(v3:Int)(v4:Bool):cC.gbad (.mk v0 v1 v2 v3 v4)=v4:=rfl
theorem cC.tr_len(x:cC):x.tr.length=5:=by
 obtain⟨v0,v1,v2,v3,v4⟩:=x
 simp [cC.tr]
theorem cC.sz(l:List cC): ∀e∈cC.trs l,e.length=5:=by
 intro e he
 rw [cC.trs_map] at he
 obtain⟨x,-,rfl⟩:=List.mem_map.1 he
 exact cC.tr_len x
theorem cC.all{l:List cC}{Q:List Tr→Prop}(h: ∀x∈l,Q x.tr): ∀e∈cC.trs l,Q e:=by
 intro e he
 rw [cC.trs_map] at he
 obtain⟨x,hx,rfl⟩:=List.mem_map.1 he
 exact h x hx
inductive eP where
 |mk (goals_:List aJ) (codes_:List Int) (evidence_:List bK)
def eP.tr:eP→List Tr
 | .mk v0 v1 v2=> [.row 4 (aJ.trs v0)]++([.row 1 (nG v1)]++([.row 5 (bK.trs v2)]++([])))
def eP.trs(l:List eP):List (List Tr):=l.map eP.tr
theorem eP.trs_map(l:List eP):eP.trs l=l.map eP.tr:=rfl
def eP.gGoals:eP→List aJ
 | .mk v _ _=>v
@[simp] theorem eP.gGoals_mk(v0:List aJ)(v1:List Int)(v2:List bK):eP.gGoals (.mk v0 v1 v2)=v0:=rfl
def eP.gCodes:eP→List Int
 | .mk _ v _=>v
@[simp] theorem eP.gCodes_mk(v0:List aJ)(v1:List Int)(v2:List bK):eP.gCodes (.mk v0 v1 v2)=v1:=rfl
def eP.gEvidence:eP→List bK
 | .mk _ _ v=>v
@[simp] theorem eP.gEvidence_mk(v0:List aJ)(v1:List Int)(v2:List bK):eP.gEvidence (.mk v0 v1 v2)=v2:=rfl
theorem eP.tr_len(x:eP):x.tr.length=3:=by
 obtain⟨v0,v1,v2⟩:=x
 simp [eP.tr]
theorem eP.sz(l:List eP): ∀e∈eP.trs l,e.length=3:=by
 intro e he
 rw [eP.trs_map] at he
 obtain⟨x,-,rfl⟩:=List.mem_map.1 he
 exact eP.tr_len x
theorem eP.all{l:List eP}{Q:List Tr→Prop}(h: ∀x∈l,Q x.tr): ∀e∈eP.trs l,Q e:=by
 intro e he
 rw [eP.trs_map] at he
 obtain⟨x,hx,rfl⟩:=List.mem_map.1 he
 exact h x hx
end Go.Proofs.YtpioomclpaiomaaGreat

namespace Go.Proofs.YtpioomclpaiomaaGreat
open Go.RowKit
theorem sS.refl: ∀ps:List PV,sS ps ps
 | []=> .nil
 |p::ps=> .cons (.refl p) (sS.refl ps)
theorem QG{l:List ByteArray}{k:Nat}(h:k<l.length):(aX l)[k]?=some [.leaf (.string l[k])]:=NJ h
theorem ac5{l:List Int}{k:Nat}(h:k<l.length):(nG l)[k]?=some [.leaf (.int .i64 l[k])]:=NP h
def aE.cs(x:aE):List Tr:= [.leaf (.int .i64 x.gPackage),.leaf (.int .i64 x.gAt)]
def aE.pv(x:aE):PV:= .agg [.t (.leaf (.int .i64 x.gPackage)),.t (.leaf (.int .i64 x.gAt))]
theorem aE.tr_cs(x:aE):x.tr=x.cs:=by
 obtain⟨v0,v1⟩:=x
 simp [aE.tr,aE.cs]
theorem aE.trs_cs{l:List aE}{k:Nat}(h:k<l.length):(aE.trs l)[k]?=some (l[k]).cs:=by rw [← aE.tr_cs];exact aE.trs_get h
def aA.cs(x:aA):List Tr:= [.leaf (.string x.gAtom),.row 2 (aA.trs (x.gList))]
def aA.pv(x:aA):PV:= .agg [.t (.leaf (.string x.gAtom)),.t (.row 2 (aA.trs (x.gList)))]
theorem aA.tr_cs(x:aA):x.tr=x.cs:=by
 obtain⟨v0,v1⟩:=x
 simp [aA.tr,aA.cs]
theorem aA.trs_cs{l:List aA}{k:Nat}(h:k<l.length):(aA.trs l)[k]?=some (l[k]).cs:=by rw [← aA.tr_cs];exact aA.trs_get h
def aB.cs(x:aB):List Tr:= [.leaf (.int .i64 x.gKind),.leaf (.string x.gName),.row 3 (aB.trs (x.gArgs))]
def aB.pv(x:aB):PV:= .agg [.t (.leaf (.int .i64 x.gKind)),.t (.leaf (.string x.gName)),.t (.row 3 (aB.trs (x.gArgs)))]
theorem aB.tr_cs(x:aB):x.tr=x.cs:=by
 obtain⟨v0,v1,v2⟩:=x
 simp [aB.tr,aB.cs]
theorem aB.trs_cs{l:List aB}{k:Nat}(h:k<l.length):(aB.trs l)[k]?=some (l[k]).cs:=by rw [← aB.tr_cs];exact aB.trs_get h
def bR.cs(x:bR):List Tr:= [.leaf (.string x.gVar),.leaf (.int .i64 x.gType.gKind),.leaf (.string x.gType.gName),.row 3 (aB.trs (x.gType.gArgs))]
def bR.pv(x:bR):PV:= .agg [.t (.leaf (.string x.gVar)),.t (.leaf (.int .i64 x.gType.gKind)),.t (.leaf (.string x.gType.gName)),.t (.row 3 (aB.trs (x.gType.gArgs)))]
theorem bR.tr_cs(x:bR):x.tr=x.cs:=by
 obtain⟨v0,v1⟩:=x
 simp [bR.tr,bR.cs,aB.tr_cs,aB.cs]
theorem bR.trs_cs{l:List bR}{k:Nat}(h:k<l.length):(bR.trs l)[k]?=some (l[k]).cs:=by rw [← bR.tr_cs];exact bR.trs_get h
def aG.cs(x:aG):List Tr:= [.leaf (.int .i64 x.gKind),.leaf (.string x.gTrait),.leaf (.string x.gName),.leaf (.int .i64 x.gN),.leaf (.int .i64 x.gType.gKind),.leaf (.string x.gType.gName),.row 3 (aB.trs (x.gType.gArgs)),.row 9 (aG.trs (x.gArgs)),.row 11 (bC.trs (x.gArms))]
def aG.pv(x:aG):PV:= .agg [.t (.leaf (.int .i64 x.gKind)),.t (.leaf (.string x.gTrait)),.t (.leaf (.string x.gName)),.t (.leaf (.int .i64 x.gN)),.t (.leaf (.int .i64 x.gType.gKind)),.t (.leaf (.string x.gType.gName)),.t (.row 3 (aB.trs (x.gType.gArgs))),.t (.row 9 (aG.trs (x.gArgs))),.t (.row 11 (bC.trs (x.gArms)))]
theorem aG.tr_cs(x:aG):x.tr=x.cs:=by
 obtain⟨v0,v1,v2,v3,v4,v5,v6⟩:=x
 simp [aG.tr,aG.cs,aB.tr_cs,aB.cs]
theorem aG.trs_cs{l:List aG}{k:Nat}(h:k<l.length):(aG.trs l)[k]?=some (l[k]).cs:=by rw [← aG.tr_cs];exact aG.trs_get h
def bC.cs(x:bC):List Tr:= [.leaf (.string x.gConstructor),.row 1 (aX (x.gVars)),.leaf (.int .i64 x.gBody.gKind),.leaf (.string x.gBody.gTrait),.leaf (.string x.gBody.gName),.leaf (.int .i64 x.gBody.gN),.leaf (.int .i64 x.gBody.gType.gKind),.leaf (.string x.gBody.gType.gName),.row 3 (aB.trs (x.gBody.gType.gArgs)),.row 9 (aG.trs (x.gBody.gArgs)),.row 11 (bC.trs (x.gBody.gArms))]
def bC.pv(x:bC):PV:= .agg [.t (.leaf (.string x.gConstructor)),.t (.row 1 (aX (x.gVars))),.t (.leaf (.int .i64 x.gBody.gKind)),.t (.leaf (.string x.gBody.gTrait)),.t (.leaf (.string x.gBody.gName)),.t (.leaf (.int .i64 x.gBody.gN)),.t (.leaf (.int .i64 x.gBody.gType.gKind)),.t (.leaf (.string x.gBody.gType.gName)),.t (.row 3 (aB.trs (x.gBody.gType.gArgs))),.t (.row 9 (aG.trs (x.gBody.gArgs))),.t (.row 11 (bC.trs (x.gBody.gArms)))]
theorem bC.tr_cs(x:bC):x.tr=x.cs:=by
 obtain⟨v0,v1,v2⟩:=x
 simp [bC.tr,bC.cs,aG.tr_cs,aG.cs]
theorem bC.trs_cs{l:List bC}{k:Nat}(h:k<l.length):(bC.trs l)[k]?=some (l[k]).cs:=by rw [← bC.tr_cs];exact bC.trs_get h
def aD.cs(x:aD):List Tr:= [.leaf (.string x.gName),.row 3 (aB.trs (x.gParams)),.leaf (.int .i64 x.gResult.gKind),.leaf (.string x.gResult.gName),.row 3 (aB.trs (x.gResult.gArgs)),.leaf (.bool x.gHasDefault),.row 1 (aX (x.gVars)),.leaf (.int .i64 x.gBody.gKind),.leaf (.string x.gBody.gTrait),.leaf (.string x.gBody.gName),.leaf (.int .i64 x.gBody.gN),.leaf (.int .i64 x.gBody.gType.gKind),.leaf (.string x.gBody.gType.gName),.row 3 (aB.trs (x.gBody.gType.gArgs)),.row 9 (aG.trs (x.gBody.gArgs)),.row 11 (bC.trs (x.gBody.gArms))]
def aD.pv(x:aD):PV:= .agg [.t (.leaf (.string x.gName)),.t (.row 3 (aB.trs (x.gParams))),.t (.leaf (.int .i64 x.gResult.gKind)),.t (.leaf (.string x.gResult.gName)),.t (.row 3 (aB.trs (x.gResult.gArgs))),.t (.leaf (.bool x.gHasDefault)),.t (.row 1 (aX (x.gVars))),.t (.leaf (.int .i64 x.gBody.gKind)),.t (.leaf (.string x.gBody.gTrait)),.t (.leaf (.string x.gBody.gName)),.t (.leaf (.int .i64 x.gBody.gN)),.t (.leaf (.int .i64 x.gBody.gType.gKind)),.t (.leaf (.string x.gBody.gType.gName)),.t (.row 3 (aB.trs (x.gBody.gType.gArgs))),.t (.row 9 (aG.trs (x.gBody.gArgs))),.t (.row 11 (bC.trs (x.gBody.gArms)))]
theorem aD.tr_cs(x:aD):x.tr=x.cs:=by
 obtain⟨v0,v1,v2,v3,v4,v5⟩:=x
 simp [aD.tr,aD.cs,aB.tr_cs,aB.cs,aG.tr_cs,aG.cs]
theorem aD.trs_cs{l:List aD}{k:Nat}(h:k<l.length):(aD.trs l)[k]?=some (l[k]).cs:=by rw [← aD.tr_cs];exact aD.trs_get h
def aP.cs(x:aP):List Tr:= [.leaf (.string x.gName),.row 1 (aX (x.gSupertraits)),.leaf (.bool x.gAuto),.leaf (.bool x.gAssoc),.row 16 (aD.trs (x.gSignatures))]
def aP.pv(x:aP):PV:= .agg [.t (.leaf (.string x.gName)),.t (.row 1 (aX (x.gSupertraits))),.t (.leaf (.bool x.gAuto)),.t (.leaf (.bool x.gAssoc)),.t (.row 16 (aD.trs (x.gSignatures)))]
theorem aP.tr_cs(x:aP):x.tr=x.cs:=by
 obtain⟨v0,v1,v2,v3,v4⟩:=x
 simp [aP.tr,aP.cs]
theorem aP.trs_cs{l:List aP}{k:Nat}(h:k<l.length):(aP.trs l)[k]?=some (l[k]).cs:=by rw [← aP.tr_cs];exact aP.trs_get h
def aC.cs(x:aC):List Tr:= [.leaf (.string x.gName),.row 3 (aB.trs (x.gFields))]
def aC.pv(x:aC):PV:= .agg [.t (.leaf (.string x.gName)),.t (.row 3 (aB.trs (x.gFields)))]
theorem aC.tr_cs(x:aC):x.tr=x.cs:=by
 obtain⟨v0,v1⟩:=x
 simp [aC.tr,aC.cs]
theorem aC.trs_cs{l:List aC}{k:Nat}(h:k<l.length):(aC.trs l)[k]?=some (l[k]).cs:=by rw [← aC.tr_cs];exact aC.trs_get h
def aI.cs(x:aI):List Tr:= [.leaf (.string x.gName),.row 1 (aX (x.gVars)),.row 2 (aC.trs (x.gConstructors))]
def aI.pv(x:aI):PV:= .agg [.t (.leaf (.string x.gName)),.t (.row 1 (aX (x.gVars))),.t (.row 2 (aC.trs (x.gConstructors)))]
theorem aI.tr_cs(x:aI):x.tr=x.cs:=by
 obtain⟨v0,v1,v2⟩:=x
 simp [aI.tr,aI.cs]
theorem aI.trs_cs{l:List aI}{k:Nat}(h:k<l.length):(aI.trs l)[k]?=some (l[k]).cs:=by rw [← aI.tr_cs];exact aI.trs_get h
def aJ.cs(x:aJ):List Tr:= [.leaf (.string x.gTrait),.leaf (.int .i64 x.gType.gKind),.leaf (.string x.gType.gName),.row 3 (aB.trs (x.gType.gArgs))]
def aJ.pv(x:aJ):PV:= .agg [.t (.leaf (.string x.gTrait)),.t (.leaf (.int .i64 x.gType.gKind)),.t (.leaf (.string x.gType.gName)),.t (.row 3 (aB.trs (x.gType.gArgs)))]
theorem aJ.tr_cs(x:aJ):x.tr=x.cs:=by
 obtain⟨v0,v1⟩:=x
 simp [aJ.tr,aJ.cs,aB.tr_cs,aB.cs]
theorem aJ.trs_cs{l:List aJ}{k:Nat}(h:k<l.length):(aJ.trs l)[k]?=some (l[k]).cs:=by rw [← aJ.tr_cs];exact aJ.trs_get h
def aN.cs(x:aN):List Tr:= [.leaf (.string x.gName),.row 1 (aX (x.gVars)),.leaf (.int .i64 x.gBody.gKind),.leaf (.string x.gBody.gTrait),.leaf (.string x.gBody.gName),.leaf (.int .i64 x.gBody.gN),.leaf (.int .i64 x.gBody.gType.gKind),.leaf (.string x.gBody.gType.gName),.row 3 (aB.trs (x.gBody.gType.gArgs)),.row 9 (aG.trs (x.gBody.gArgs)),.row 11 (bC.trs (x.gBody.gArms))]
def aN.pv(x:aN):PV:= .agg [.t (.leaf (.string x.gName)),.t (.row 1 (aX (x.gVars))),.t (.leaf (.int .i64 x.gBody.gKind)),.t (.leaf (.string x.gBody.gTrait)),.t (.leaf (.string x.gBody.gName)),.t (.leaf (.int .i64 x.gBody.gN)),.t (.leaf (.int .i64 x.gBody.gType.gKind)),.t (.leaf (.string x.gBody.gType.gName)),.t (.row 3 (aB.trs (x.gBody.gType.gArgs))),.t (.row 9 (aG.trs (x.gBody.gArgs))),.t (.row 11 (bC.trs (x.gBody.gArms)))]
theorem aN.tr_cs(x:aN):x.tr=x.cs:=by
 obtain⟨v0,v1,v2⟩:=x
 simp [aN.tr,aN.cs,aG.tr_cs,aG.cs]
theorem aN.trs_cs{l:List aN}{k:Nat}(h:k<l.length):(aN.trs l)[k]?=some (l[k]).cs:=by rw [← aN.tr_cs];exact aN.trs_get h
def aH.cs(x:aH):List Tr:= [.leaf (.string x.gTrait),.row 1 (aX (x.gVars)),.leaf (.int .i64 x.gHead.gKind),.leaf (.string x.gHead.gName),.row 3 (aB.trs (x.gHead.gArgs)),.row 4 (aJ.trs (x.gWhere)),.leaf (.bool x.gDefault),.leaf (.bool x.gHasAssoc),.leaf (.int .i64 x.gAssoc.gKind),.leaf (.string x.gAssoc.gName),.row 3 (aB.trs (x.gAssoc.gArgs)),.row 11 (aN.trs (x.gMethods))]
def aH.pv(x:aH):PV:= .agg [.t (.leaf (.string x.gTrait)),.t (.row 1 (aX (x.gVars))),.t (.leaf (.int .i64 x.gHead.gKind)),.t (.leaf (.string x.gHead.gName)),.t (.row 3 (aB.trs (x.gHead.gArgs))),.t (.row 4 (aJ.trs (x.gWhere))),.t (.leaf (.bool x.gDefault)),.t (.leaf (.bool x.gHasAssoc)),.t (.leaf (.int .i64 x.gAssoc.gKind)),.t (.leaf (.string x.gAssoc.gName)),.t (.row 3 (aB.trs (x.gAssoc.gArgs))),.t (.row 11 (aN.trs (x.gMethods)))]
theorem aH.tr_cs(x:aH):x.tr=x.cs:=by
 obtain⟨v0,v1,v2,v3,v4,v5,v6,v7⟩:=x
 simp [aH.tr,aH.cs,aB.tr_cs,aB.cs]
theorem aH.trs_cs{l:List aH}{k:Nat}(h:k<l.length):(aH.trs l)[k]?=some (l[k]).cs:=by rw [← aH.tr_cs];exact aH.trs_get h
def aR.cs(x:aR):List Tr:= [.leaf (.string x.gName),.leaf (.int .i64 x.gType.gKind),.leaf (.string x.gType.gName),.row 3 (aB.trs (x.gType.gArgs))]
def aR.pv(x:aR):PV:= .agg [.t (.leaf (.string x.gName)),.t (.leaf (.int .i64 x.gType.gKind)),.t (.leaf (.string x.gType.gName)),.t (.row 3 (aB.trs (x.gType.gArgs)))]
theorem aR.tr_cs(x:aR):x.tr=x.cs:=by
 obtain⟨v0,v1⟩:=x
 simp [aR.tr,aR.cs,aB.tr_cs,aB.cs]
theorem aR.trs_cs{l:List aR}{k:Nat}(h:k<l.length):(aR.trs l)[k]?=some (l[k]).cs:=by rw [← aR.tr_cs];exact aR.trs_get h
def aL.cs(x:aL):List Tr:= [.leaf (.string x.gName),.row 1 (aX (x.gVars)),.row 4 (aJ.trs (x.gWhere)),.row 4 (aR.trs (x.gParams)),.leaf (.int .i64 x.gResult.gKind),.leaf (.string x.gResult.gName),.row 3 (aB.trs (x.gResult.gArgs)),.leaf (.int .i64 x.gBody.gKind),.leaf (.string x.gBody.gTrait),.leaf (.string x.gBody.gName),.leaf (.int .i64 x.gBody.gN),.leaf (.int .i64 x.gBody.gType.gKind),.leaf (.string x.gBody.gType.gName),.row 3 (aB.trs (x.gBody.gType.gArgs)),.row 9 (aG.trs (x.gBody.gArgs)),.row 11 (bC.trs (x.gBody.gArms))]
def aL.pv(x:aL):PV:= .agg [.t (.leaf (.string x.gName)),.t (.row 1 (aX (x.gVars))),.t (.row 4 (aJ.trs (x.gWhere))),.t (.row 4 (aR.trs (x.gParams))),.t (.leaf (.int .i64 x.gResult.gKind)),.t (.leaf (.string x.gResult.gName)),.t (.row 3 (aB.trs (x.gResult.gArgs))),.t (.leaf (.int .i64 x.gBody.gKind)),.t (.leaf (.string x.gBody.gTrait)),.t (.leaf (.string x.gBody.gName)),.t (.leaf (.int .i64 x.gBody.gN)),.t (.leaf (.int .i64 x.gBody.gType.gKind)),.t (.leaf (.string x.gBody.gType.gName)),.t (.row 3 (aB.trs (x.gBody.gType.gArgs))),.t (.row 9 (aG.trs (x.gBody.gArgs))),.t (.row 11 (bC.trs (x.gBody.gArms)))]
theorem aL.tr_cs(x:aL):x.tr=x.cs:=by
 obtain⟨v0,v1,v2,v3,v4,v5⟩:=x
 simp [aL.tr,aL.cs,aB.tr_cs,aB.cs,aG.tr_cs,aG.cs]
theorem aL.trs_cs{l:List aL}{k:Nat}(h:k<l.length):(aL.trs l)[k]?=some (l[k]).cs:=by rw [← aL.tr_cs];exact aL.trs_get h
def aK.cs(x:aK):List Tr:= [.leaf (.string x.gName),.row 1 (aX (x.gDeps)),.row 5 (aP.trs (x.gTraits)),.row 3 (aI.trs (x.gDataTypes)),.row 12 (aH.trs (x.gInstances)),.row 16 (aL.trs (x.gFunctions))]
def aK.pv(x:aK):PV:= .agg [.t (.leaf (.string x.gName)),.t (.row 1 (aX (x.gDeps))),.t (.row 5 (aP.trs (x.gTraits))),.t (.row 3 (aI.trs (x.gDataTypes))),.t (.row 12 (aH.trs (x.gInstances))),.t (.row 16 (aL.trs (x.gFunctions)))]
theorem aK.tr_cs(x:aK):x.tr=x.cs:=by
 obtain⟨v0,v1,v2,v3,v4,v5⟩:=x
 simp [aK.tr,aK.cs]
theorem aK.trs_cs{l:List aK}{k:Nat}(h:k<l.length):(aK.trs l)[k]?=some (l[k]).cs:=by rw [← aK.tr_cs];exact aK.trs_get h
def aM.cs(x:aM):List Tr:= [.row 6 (aK.trs (x.gPackages))]
def aM.pv(x:aM):PV:= .agg [.t (.row 6 (aK.trs (x.gPackages)))]
theorem aM.tr_cs(x:aM):x.tr=x.cs:=by
 obtain⟨v0⟩:=x
 simp [aM.tr,aM.cs]
theorem aM.trs_cs{l:List aM}{k:Nat}(h:k<l.length):(aM.trs l)[k]?=some (l[k]).cs:=by rw [← aM.tr_cs];exact aM.trs_get h
def bK.cs(x:bK):List Tr:= [.leaf (.int .i64 x.gKind),.leaf (.int .i64 x.gN),.leaf (.int .i64 x.gAt.gPackage),.leaf (.int .i64 x.gAt.gAt),.row 5 (bK.trs (x.gArgs))]
def bK.pv(x:bK):PV:= .agg [.t (.leaf (.int .i64 x.gKind)),.t (.leaf (.int .i64 x.gN)),.t (.leaf (.int .i64 x.gAt.gPackage)),.t (.leaf (.int .i64 x.gAt.gAt)),.t (.row 5 (bK.trs (x.gArgs)))]
def a4.cs(x:a4):List Tr:= [.leaf (.string x.gGoal.gTrait),.leaf (.int .i64 x.gGoal.gType.gKind),.leaf (.string x.gGoal.gType.gName),.row 3 (aB.trs (x.gGoal.gType.gArgs)),.leaf (.int .i64 x.gFrom),.row 1 (nG (x.gSteps))]
def a4.pv(x:a4):PV:= .agg [.t (.leaf (.string x.gGoal.gTrait)),.t (.leaf (.int .i64 x.gGoal.gType.gKind)),.t (.leaf (.string x.gGoal.gType.gName)),.t (.row 3 (aB.trs (x.gGoal.gType.gArgs))),.t (.leaf (.int .i64 x.gFrom)),.t (.row 1 (nG (x.gSteps)))]
theorem a4.tr_cs(x:a4):x.tr=x.cs:=by
 obtain⟨v0,v1,v2⟩:=x
 simp [a4.tr,a4.cs,aJ.tr_cs,aJ.cs]
theorem a4.trs_cs{l:List a4}{k:Nat}(h:k<l.length):(a4.trs l)[k]?=some (l[k]).cs:=by rw [← a4.tr_cs];exact a4.trs_get h
def cC.cs(x:cC):List Tr:= [.leaf (.string x.gs),.leaf (.int .i64 x.gat),.leaf (.int .i64 x.gdeep),.leaf (.int .i64 x.gsize),.leaf (.bool x.gbad)]
def cC.pv(x:cC):PV:= .agg [.t (.leaf (.string x.gs)),.t (.leaf (.int .i64 x.gat)),.t (.leaf (.int .i64 x.gdeep)),.t (.leaf (.int .i64 x.gsize)),.t (.leaf (.bool x.gbad))]
def eP.cs(x:eP):List Tr:= [.row 4 (aJ.trs (x.gGoals)),.row 1 (nG (x.gCodes)),.row 5 (bK.trs (x.gEvidence))]
def eP.pv(x:eP):PV:= .agg [.t (.row 4 (aJ.trs (x.gGoals))),.t (.row 1 (nG (x.gCodes))),.t (.row 5 (bK.trs (x.gEvidence)))]
end Go.Proofs.YtpioomclpaiomaaGreat

namespace Go.Proofs.YtpioomclpaiomaaGreat
set_option linter.unusedSimpArgs false
set_option linter.unusedVariables false
open Go.RowKit Go.WalkArith Go.IntWalk Go.WideShapes
section
variable {P:Program} {C:oE} {n:Nat} {s:AS} {Q:Exit→AS→Prop} {o:Oper} {ops:Array Oper} {rest:List Oper}
theorem AL.splitB(d:Nat){b:Bool}{l:List Oper}(_hb:s.lk d=some (.t (.leaf (.bool b))))(h1:b=true→AL P C n ops l Q s)(h2:b=false→AL P C n ops l Q s):AL P C n ops l Q s:=by
 cases b
 ·exact h2 rfl
 ·exact h1 rfl
theorem AL.cons_gv{s1:AS}{j d:Nat}{b c:Bool}(hg:o.guard=some (j,c))(hj:(ops[j]?).bind (·.dst)=some d)(hb:s.lk d=some (.t (.leaf (.bool b))))(hv:b=c)(ho:aW P C n o s s1)(h:AL P C n ops rest Q s1):AL P C n ops (o::rest) Q s:=by
 subst hv
 exact AL.cons_g hg hj hb ho h
theorem AL.skip_v{j d:Nat}{b c e:Bool}(hg:o.guard=some (j,c))(hj:(ops[j]?).bind (·.dst)=some d)(hb:s.lk d=some (.t (.leaf (.bool b))))(hv:b=e)(hne:(e==c)=false)(h:AL P C n ops rest Q (s.delO o.dst)):AL P C n ops (o::rest) Q s:=by
 subst hv
 exact AL.skip hg hj hb hne h
theorem aW.pickT{x y z:Operand}{b:Bool}{p:PV}(ho:o.op= .pick x y z)(hd:bQ o.dst n=true)(hx:s.ev x=some (.t (.leaf (.bool b))))(hb:b=true)(hy:s.ev y=some p):aW P C n o s (s.putO o.dst p):=
 aW.pick ho hd hx (fun _=>hy) (q:=p) (fun h=>by rw [hb] at h;cases h)
theorem aW.pickF{x y z:Operand}{b:Bool}{p:PV}(ho:o.op= .pick x y z)(hd:bQ o.dst n=true)(hx:s.ev x=some (.t (.leaf (.bool b))))(hb:b=false)(hz:s.ev z=some p):aW P C n o s (s.putO o.dst p):=
 aW.pick ho hd hx (fun h=>by rw [hb] at h;cases h) (q:=p) (fun _=>hz)
theorem aW.lenN{T:TypeId}{x:Operand}{p:PV}{sz N:Nat}{es:List (List Tr)}{E:Nat×Nat×Nat}(ho:o.op= .call { callee:= .builtin .len,args:= #[x],argTypes:= #[T] })(hd:bQ o.dst n=true)(hx:s.ev x=some p)(hp:lF p=some (sz,es))(hT:elemOf? P T=some E)(hl:es.length=N):
 aW P C n o s (s.putO o.dst (.t (.leaf (.int .i64 (N:Int))))):=by
 subst hl
 exact aW.len (ty:=0) ho hd hx hp hT
theorem LG(i:Nat){p:PV}{sz N:Nat}{es:List (List Tr)}(hx:s.lk i=some p)(hp:lF p=some (sz,es))(hl:es.length=N): ∀m a w,RA C n s m a w→N≤9223372036854775807:=by
 subst hl
 exact ahN i hx hp
theorem xP{st':cU}(h:C.st=⟨[],[]⟩):kZ C.st st':=by rw [h];exact kZ.nil
end
theorem a7{a b:Nat}(h:decide ((a:Int)<(b:Int))=true):a<b:=by
 have:=of_decide_eq_true h
 omega
theorem acQ{a b:Nat}(h:decide ((a:Int)<(b:Int))=false):b≤a:=by
 have:=of_decide_eq_false h
 omega
end Go.Proofs.YtpioomclpaiomaaGreat

namespace Go.Proofs.YtpioomclpaiomaaGreat
set_option linter.unusedSimpArgs false
set_option linter.unusedVariables false
open Go.RowKit Go.WalkArith Go.IntWalk Go.WideShapes
section
variable {P:Program} {C:oE} {n:Nat} {s:AS} {Q:Exit→AS→Prop} {o:Oper}
theorem aW.quietX{p:PV}(hd:bQ o.dst n=true)(h: ∀m a w,RA C n s m a w→ ∃v w1,(execOp a.eval o).run P w= .ok (.value v) w1∧oU w w1∧RV (jL C.av s.st m) s.st m w1 p v):aW P C n o s (s.putO o.dst p):=
 aW.run hd (s1:=s) (fun m a w hr=>by
  obtain⟨v,w1,h1,h2,h3⟩:=h m a w hr
  exact⟨v,m,w1,h1,Ev.later h2,hr.sto.later h2,h3⟩) rfl
theorem aW.buildSlice_run{T E sz by_ len:Nat}{parts:Array (Nat×Operand)}{ps:List (Nat×List PV)}{zs cs:List PV}(ho:o.op= .buildSlice T len parts)(hT:elemOf? P T=some (E,sz,by_))(hz:cS P E=some zs)(hp:m9 s parts.toList=some ps)
 (hc:rD (fun i=>some (i*sz,sz)) (List.replicate len zs).flatten ps=some cs) (hcl:cs.length=len*sz) (hsz:0<sz) (hzl:zs.length=sz) (hsm:len*sz≤16777216) {m:iH} {a:Act} {w:World} (h:RA C n s m a w):
 ∃us,(execOp a.eval o).run P w= .ok (.value (.slice (some ⟨w.heap.size,0,none⟩) len len)) (w.alloc (.cells ⟨us⟩ E))∧fZ (jL C.av s.st m) s.st m w cs us∧len≤maxLen:=by
 obtain⟨i,hu,hi,hs,hby⟩:=elemOf?.spec hT
 obtain⟨i',z,hi',hzz,hr⟩:=cS.spec hz
 rw [hi] at hi'
 cases hi'
 have hzv:=hr (jL C.av s.st m) s.st m w
 have hzs:z.cells.size=sz:=by have:=hzv.length;rw [hzl] at this;simpa using this.symm
 have hrl: ∀e∈List.replicate len zs,e.length=sz:=fun e he=>by rw [(List.mem_replicate.1 he).2];exact hzl
 have hzero:fZ (jL C.av s.st m) s.st m w (List.replicate len zs).flatten ((List.range (len*sz)).map (fun q=>z.cells[q%z.cells.size]!)):=by
  refine fZ.of_get (by rw [nM hrl];simp) fun j p hj=>?_
  have hjl:j<len*sz:=by have:=c3 hj;rw [nM hrl] at this;simpa using this
  have hj1:j/sz<len:=by rw [Nat.div_lt_iff_lt_mul hsz];exact hjl
  have hj2:j%sz<zs.length:=by rw [hzl];exact Nat.mod_lt _ hsz
  have hpj:=qC (i:=j/sz) (j:=j%sz) (e:=zs) (d:=zs[j%sz]) hrl (by rw [List.getElem?_replicate,if_pos hj1]) (List.getElem?_eq_getElem hj2)
  rw [show j/sz*sz+j%sz=j by rw [Nat.mul_comm];exact Nat.div_add_mod j sz,hj] at hpj
  cases hpj
  obtain⟨v,hv,hrv⟩:=hzv.get (List.getElem?_eq_getElem hj2)
  refine⟨v,?_,hrv⟩
  rw [List.getElem?_map,List.getElem?_range hjl]
  simp only [Option.map_some,hzs]
  rw [Array.getElem?_toList] at hv
  obtain⟨hlt,hve⟩:=Array.getElem?_eq_some_iff.1 hv
  rw [getElem!_pos z.cells _ hlt,hve]
 obtain⟨us,h2,h3⟩:=G6 (BU h hp) hzero hc
 have hul:us.length=len*sz:=by have:=h3.length;rw [hcl] at this;exact this.symm
 have hrun:(Instr.buildSlice T len (parts.map fun(i,x)=>(i,a.eval x))).run P w= .ok (.slice (some ⟨w.heap.size,0,none⟩) len len) (w.alloc (.cells ⟨us⟩ E)):=by
  have hfill:Instr.fill (fun i=>some (i*sz,sz)) ((Array.range (len*sz)).map (z.cells[· %z.cells.size]!)) (parts.map fun(i,x)=>(i,a.eval x)).toList=some ⟨us⟩:=by
   rw [Array.toList_map,← h2]
   congr 1
   apply Array.ext'
   simp
  by_cases h0:len*sz=0
  ·have hl0:len=0:=by
    rcases Nat.mul_eq_zero.1 h0 with h|h
    ·exact h
    ·omega
   subst hl0
   rw [Nat.zero_mul] at hfill
   simp [Instr.buildSlice,run_underlying hu,Go.sizeOf,typeInfo,hi,hs,newRow]
   have e0:(Array.range 0).map (fun q=>z.cells[q%z.cells.size]!)= #[]:=by simp
   rw [e0] at hfill
   simp at hfill
   have e1:(Array.range 0).map (fun _=>(default:Value))= #[]:=by simp
   rw [e1,hfill]
   simp
  ·exact run_buildSlice w T E len _ ⟨us⟩ i z hu hi hzz (by rw [hs];omega) (by rw [hs];exact h0) (by rw [hs];exact hfill)
 refine⟨us,?_,h3,by have:=Nat.le_mul_of_pos_right len hsz;unfold maxLen;omega⟩
 unfold execOp
 simp [ho,hrun]
theorem sS.length{ps qs:List PV}(h:sS ps qs):ps.length=qs.length:=by
 induction ps generalizing qs with
 |nil=>cases h;rfl
 |cons p ps ih=>cases h with|cons _ k=>rw [List.length_cons,List.length_cons,ih k]
theorem aW.buildSlice_lit{T E sz by_ len:Nat}{parts:Array (Nat×Operand)}{ps:List (Nat×List PV)}{zs cs:List PV}{es:List (List Tr)}(ho:o.op= .buildSlice T len parts)(hT:elemOf? P T=some (E,sz,by_))(hz:cS P E=some zs)(hp:m9 s parts.toList=some ps)
 (hc:rD (fun i=>some (i*sz,sz)) (List.replicate len zs).flatten ps=some cs) (hle:sS cs (es.flatten.map PV.t)) (hel:es.length=len) (hes: ∀e∈es,e.length=sz) (hsz:0<sz) (hzl:zs.length=sz) (hsm:len*sz≤16777216):
 ∀m a w,RA C n s m a w→ ∃v w1,(execOp a.eval o).run P w= .ok (.value v) w1∧oU w w1∧RV (jL C.av s.st m) s.st m w1 (.lit sz es) v:=by
 intro m a w h
 obtain⟨us,h1,h3,hm⟩:=aW.buildSlice_run ho hT hz hp hc (by rw [hle.length,List.length_map,nM hes,hel]) hsz hzl hsm h
 have h4:=sS.rv hle h3
 have hx:oU w (w.alloc (.cells ⟨us⟩ E)):= .alloc (.refl _) _
 refine⟨.slice (some ⟨w.heap.size,0,none⟩) len len,w.alloc (.cells ⟨us⟩ E),h1,hx,?_⟩
 have hget: ∀q e,es[q]?=some e→ ∀j d,e[j]?=some d→ ∃v,us[q*sz+j]?=some v∧cF (jL C.av s.st m) (w.alloc (.cells ⟨us⟩ E)) d v:=fun q e hq j d hj=>by
  have hf:=qC (sz:=sz) hes hq hj
  obtain⟨v,hv,hrv⟩:=h4.get (j:=q*sz+j) (p:= .t d) (by rw [List.getElem?_map,hf];rfl)
  exact⟨v,hv,cF.ext hrv hx⟩
 have:=cF.row (ok:=jL C.av s.st m) (w:=w.alloc (.cells ⟨us⟩ E)) (es:=es) (sz:=sz) (a:=some ⟨w.heap.size,0,none⟩) (cap:=len) (fun q j=>(us[q*sz+j]?).getD undef) (by omega) hm (fun _=>⟨w.heap.size,0,rfl,by simp,fun q e hq j d hd=>⟨LV h.sto (Nat.le_refl _) _,?_⟩⟩) (fun q e hq j d hd=>?_)
 ·subst hel
  exact⟨this,_,rfl⟩
 ·obtain⟨v,hv,-⟩:=hget q e hq j d hd
  rw [Nat.zero_add,(OB.new w E ⟨us⟩).cell,hv]
  simpa using hv
 ·obtain⟨v,hv,hr⟩:=hget q e hq j d hd
  rw [hv]
  exact hr
theorem aW.buildSliceL{T E sz by_ len:Nat}{parts:Array (Nat×Operand)}{ps:List (Nat×List PV)}{zs cs:List PV}{es:List (List Tr)}(ho:o.op= .buildSlice T len parts)(hd:bQ o.dst n=true)(hT:elemOf? P T=some (E,sz,by_))(hz:cS P E=some zs)(hp:m9 s parts.toList=some ps)
 (hc:rD (fun i=>some (i*sz,sz)) (List.replicate len zs).flatten ps=some cs) (hle:sS cs (es.flatten.map PV.t)) (hel:es.length=len) (hes: ∀e∈es,e.length=sz) (hsz:0<sz) (hzl:zs.length=sz) (hsm:len*sz≤16777216):
 aW P C n o s (s.putO o.dst (.lit sz es)):=
 aW.quietX hd (aW.buildSlice_lit ho hT hz hp hc hle hel hes hsz hzl hsm)
theorem aW.less{p q:PV}(hle:PV.Le p q)(hdl:bQ o.dst n=true)(h: ∀m a w,RA C n s m a w→ ∃v w1,(execOp a.eval o).run P w= .ok (.value v) w1∧oU w w1∧RV (jL C.av s.st m) s.st m w1 p v):aW P C n o s (s.putO o.dst q):=
 aW.quietX hdl fun m a w hr=>by
  obtain⟨v,w1,h1,h2,h3⟩:=h m a w hr
  exact⟨v,w1,h1,h2,hle.rv h3⟩
theorem aW.buildSliceQ{T E sz by_ len:Nat}{parts:Array (Nat×Operand)}{ps:List (Nat×List PV)}{zs cs:List PV}{es:List (List Tr)}(ho:o.op= .buildSlice T len parts)(hd:bQ o.dst n=true)(hT:elemOf? P T=some (E,sz,by_))(hz:cS P E=some zs)(hp:m9 s parts.toList=some ps)
 (hc:rD (fun i=>some (i*sz,sz)) (List.replicate len zs).flatten ps=some cs) (hle:sS cs (es.flatten.map PV.t)) (hel:es.length=len) (hes: ∀e∈es,e.length=sz) (hsz:0<sz) (hzl:zs.length=sz) (hsm:len*sz≤16777216):
 aW P C n o s (s.putO o.dst (.t (.row sz es))):=
 aW.less (.lit sz es) hd (aW.buildSlice_lit ho hT hz hp hc hle hel hes hsz hzl hsm)
def cY.steps(P:Program)(C:oE)(n:Nat)(D:cY):Nat→List Oper→Prop
 |_,[]=>True
 |i,o::l=>D.step P C n i o∧cY.steps P C n D (i+1) l
theorem cY.steps_get{D:cY}: ∀ {l:List Oper} {k:Nat},D.steps P C n k l→ ∀(i:Nat) (o:Oper),l[i]?=some o→D.step P C n (k+i) o
 | [],_,_,i,o,h=>by simp at h
 |x::l,k,hs,0,o,h=>by simp at h;subst h;exact hs.1
 |x::l,k,hs,i+1,o,h=>by
  have:=cY.steps_get (l:=l) (k:=k+1) hs.2 i o (by simpa using h)
  rwa [show k+1+i=k+(i+1) by omega] at this
theorem aO.drawnL{id:Nat}{l:List Oper}{s1:AS}(D:cY)(hD:D.ops=l.toArray)(hm:P.follows .mixedOrders=true)(hok:D.ok=true)(henv:s.env=D.env0)(hst:s.st=D.F 0 false)(hsteps:D.steps P C n 0 l)
 (h1:(⟨((List.range D.ops.size).filterMap (D.gX (Array.replicate D.ops.size true)))++D.env0,D.F D.effs.length D.alloc.isSome⟩:AS)=s1) (h:Q .normal s1):aO P C n (.region id l.toArray true) Q s:=by
 subst h1
 rw [← hD]
 refine aO.drawn D hm hok henv hst (fun i o ho=>?_) h
 have:=cY.steps_get hsteps i o (by rw [hD] at ho;simpa using ho)
 rwa [Nat.zero_add] at this
theorem cY.step.q1{D:cY}{i:Nat}{o:Oper}(lo:Nat)(wt:D.want o=some true)(hk:D.kind i= .q lo lo)
 (h: ∀(s':AS) (b:Bool),s'.st=D.F lo b→(∀t src p,(t,src)∈D.ins i→D.pv (t,src)=some p→s'.lk t=some p)→ ∃p,D.out i=some p∧aW P C n o s' (s'.putO o.dst p)):D.step P C n i o:=
 .inl ⟨wt,by
  unfold cY.does
  rw [hk]
  exact fun s' j b h1 h2 hs hl=>by
   obtain rfl:j=lo:=by omega
   exact h s' b hs hl⟩
end
end Go.Proofs.YtpioomclpaiomaaGreat

namespace Go.Proofs.YtpioomclpaiomaaGreat
set_option linter.unusedSimpArgs false
set_option linter.unusedVariables false
open Go.RowKit
def WF:iH:=⟨fun _=>0,fun _=>none⟩
def av0:Nat→Nat→Prop:=fun _ _=>False
theorem ok0(b o:Nat):jL av0 ⟨[],[]⟩ WF b o:=⟨fun h=>h,fun k x h=>by simp at h,fun r row g c h=>by simp at h⟩
theorem ahY(w:World):eQ av0 ⟨[],[]⟩ WF w where
 box:=fun k x h=>by simp at h
 binj:=fun k k' x x' h=>by simp at h
 row:=fun r row h=>by simp at h
 rinj:=fun r r' row row' g c c' h=>by simp at h
 br:=fun k x r row g c h=>by simp at h
 avlt:=fun b o h=>h.elim
 avr:=fun r row g c h=>by simp at h
 avb:=fun k x h=>by simp at h
theorem Ev.ext{m m':iH}{w w':World}{st':cU}(h:Ev ⟨[],[]⟩ m w st' m' w'):oU w w' where
 os:=h.os
 tape:=h.tape
 output:=h.output
 size:=h.size
 block:=fun b hb=>h.blk b hb (fun k x h=>by simp at h) (fun r row g c h=>by simp at h)
abbrev OK(w:World)(ps:List PV)(vs:List Value):Prop:=fZ (jL av0 ⟨[],[]⟩ WF) ⟨[],[]⟩ WF w ps vs
abbrev RV0(w:World)(p:PV)(v:Value):Prop:=RV (jL av0 ⟨[],[]⟩ WF) ⟨[],[]⟩ WF w p v
theorem RV0.agg{w:World}{ts:List Tr}{cs:List Value}(h:gJ w ts cs):RV0 w (.agg (ts.map PV.t)) (.agg ⟨cs⟩):=⟨cs,rfl,h.toRVL fun b o _=>ok0 b o⟩
theorem RV0.t{w:World}{t:Tr}{v:Value}(h:zR w t v):RV0 w (.t t) v:=h.repM fun b o _=>ok0 b o
theorem cH.plain{P:Program}{f:FuncId}{args:List PV}{d:Value}(h:cH P f args (.t (.leaf d))){w:World}{vals:List Value}(hv:OK w args vals):Calls P f ⟨vals⟩ w fun e w'=>e= .returned d∧oU w w':=
 (h av0 WF w vals (ahY w) hv).mono fun e w'=>by
  rintro⟨res,st',m',v,rfl,⟨rfl,rfl⟩,-,he,hr⟩
  exact⟨by rw [(cF.leaf_eq hr).1],he.ext⟩
end Go.Proofs.YtpioomclpaiomaaGreat

namespace Go.Proofs.YtpioomclpaiomaaGreat
set_option linter.unusedSimpArgs false
set_option linter.unusedVariables false
open Go.RowKit Go.WalkArith Go.IntWalk Go.WideShapes
theorem nQ(l:List ByteArray): ∀e∈aX l,e.length=1:=fun e he=>by
 unfold aX at he
 obtain⟨x,_,rfl⟩:=List.mem_map.1 he
 rfl
theorem sJ(a b:List ByteArray):aX a++aX b=aX (a++b):=by simp [aX]
section
variable {P:Program} {C:oE} {n:Nat} {s:AS} {Q:Exit→AS→Prop} {o:Oper}
theorem aO.wk{s':AS}{c:Code}(hw:Wk C n s s')(h:aO P C n c Q s'):aO P C n c Q s:=fun m a w hr=>by
 obtain⟨m',h'⟩:=hw m a w hr
 exact h m' a w h'
theorem aW.appendE{T E sz by_:Nat}{x y:Operand}{es es2 es3:List (List Tr)}{r:Nat}{row:oO}{p:PV}(ho:o.op= .call { callee:= .builtin .append,args:= #[x,y],argTypes:= #[T,T] })(hd:bQ o.dst n=true)
 (hx:s.ev x=some (.acc sz es r)) (hrow:s.st.rows[r]?=some row) (hes:row.es=es) (hE:row.E=E) (hw:row.whole=false) (hy:s.ev y=some p) (hp:lF p=some (sz,es2)) (h2: ∀e∈es2,e.length=sz)
 (hT:elemOf? P T=some (E,sz,by_)) (hz:(P.info? E).bind (fun i=>i.zero.map (fun z=>z.cells.size))=some sz) (hb:0<by_) (hlen:(es.length+es2.length)*by_≤140737488355328) (h3:es++es2=es3):
 aW P C n o s ((⟨s.env,s.st.setRow r { row with es:=es3 }⟩:AS).putO o.dst (.acc sz es3 r)):=by
 subst h3
 exact aW.append ho hd hx hrow hes hE hw hy hp h2 hT hz hb hlen
theorem aW.callPE{f:FuncId}{fn:Func}{xs:List Operand}{ts:Array TypeId}{ps qs:List PV}{res:PV}{pre st' S:cU}(fb fr:List Nat)(ho:o.op= .call { callee:= .value (.func f),args:=⟨xs⟩,argTypes:=ts })(hd:bQ o.dst n=true)(hf:P.funcs[f]?=some fn)(hnm:(fn.name== "runtime.NumGoroutine")=false)(hb:fn.body.isNone=false)
 (hx:xs.map s.ev=ps.map some) (hS:s.st=S) (hp:mO S pre fb fr) (hle:sS ps (zX fb fr qs)) (hok:lP pre qs=true) (hbl:st'.boxes.length=pre.boxes.length) (hrl:st'.rows.length=pre.rows.length) (hc:dG P f qs pre (fun r t=>r=res∧t=st')):
 aW P C n o s ((⟨s.env,S.over st' fb fr⟩:AS).putO o.dst (PV.ren fb fr res)):=by
 subst hS
 exact aW.callP fb fr ho hd hf hnm hb hx hp hle hok hbl hrl hc
end
end Go.Proofs.YtpioomclpaiomaaGreat

namespace Go.Proofs.YtpioomclpaiomaaGreat
set_option linter.unusedSimpArgs false
set_option linter.unusedVariables false
open Go.RowKit Go.WalkArith Go.IntWalk Go.WideShapes
theorem jS(b:Bool):b=true∨b=false:=by cases b<;>simp
section
variable {P:Program} {C:oE} {n:Nat} {s:AS} {o:Oper}
theorem cB(k j:Nat){bx:cV}{p:PV}{sz N:Nat}{es:List (List Tr)}(hb:s.st.boxes[k]?=some (some bx))(hx:bx.cells[j]?=some p)(hp:lF p=some (sz,es))(hl:es.length=N): ∀m a w,RA C n s m a w→N≤9223372036854775807:=by
 subst hl
 exact afZ k j hb hx hp
theorem aW.indexI{T E sz by_:Nat}{x i:Operand}{p:PV}{es:List (List Tr)}{e:List Tr}{y:Int}(ho:o.op= .indexAddr T x i)(hd:bQ o.dst n=true)(hx:s.ev x=some p)(hp:lF p=some (sz,es))(hi:s.ev i=some (.t (.leaf (.int .i64 y))))(h0:0≤y)
 (he:es[y.toNat]?=some e) (hT:elemOf? P T=some (E,sz,by_)):aW P C n o s (s.putO o.dst (.eptr e)):=
 aW.index (k:=y.toNat) ho hd hx hp (by rw [hi,Int.toNat_of_nonneg h0]) he hT
end
end Go.Proofs.YtpioomclpaiomaaGreat

namespace Go.Proofs.YtpioomclpaiomaaGreat
set_option linter.unusedSimpArgs false
set_option linter.unusedVariables false
open Go.RowKit Go.WalkArith Go.IntWalk Go.WideShapes
theorem I3{st:cU}{m:iH}{w w':World}{x:cV}{b:Nat}(hx:oU w w')(hb:w.heap.size≤b):Ev st m w (st.addBox x) ⟨zQ m.ρ st.boxes.length b,m.γ⟩ w':=by
 refine⟨hx.os,hx.tape,hx.output,hx.size,fun b hb _ _=>hx.block b hb,fun b o hb _=>gV (hx.block b hb),fun c o hc h=>⟨fun k y hk=>?_,h.2⟩,fun k y hk=>⟨⟨y,?_⟩,?_⟩,fun k y hk=>?_,fun _ row h=>⟨row,h,rfl,Nat.le_refl _,fun _=>rfl,fun h=>⟨h,rfl⟩⟩,fun _ row _ c h h'=> .inl ⟨row,c,h,h'⟩⟩
 ·rcases fF hk with⟨h1,h2⟩|⟨rfl,rfl⟩
  ·simp only [dF (show k≠st.boxes.length by omega)]
   exact h.1 k y h2
  ·simp only [b9]
   omega
 ·show(st.boxes++ [some x])[k]?=_
  rw [List.getElem?_append_left (c3 hk)];exact hk
 ·exact dF (by have:=c3 hk;omega)
 ·rcases fF hk with⟨h1,h2⟩|⟨rfl,rfl⟩
  ·exact .inl ⟨y,h2⟩
  ·exact .inr (by simpa [b9] using hb)
theorem ML{av:Nat→Nat→Prop}{st:cU}{m:iH}{w w':World}{x:cV}{b:Nat}{vs:List Value}(h:eQ av st m w)(hx:oU w w')(hb:w.heap.size≤b)(ho:TZ w' b x.ty vs)
 (hc:fZ (jL av (st.addBox x) ⟨zQ m.ρ st.boxes.length b,m.γ⟩) (st.addBox x) ⟨zQ m.ρ st.boxes.length b,m.γ⟩ w' x.cells vs):eQ av (st.addBox x) ⟨zQ m.ρ st.boxes.length b,m.γ⟩ w':=by
 have he:Ev st m w (st.addBox x) ⟨zQ m.ρ st.boxes.length b,m.γ⟩ w':=I3 hx hb
 have hw:=fun k y (hk:st.boxes[k]?=some (some y))=>h.box_lt hk
 refine⟨fun k y hk=>?_,fun k k' y y' hk hk' hne=>?_,fun r row hr=>?_,h.rinj,fun k y r row g c hk hr hg=>?_,fun b o hb=>Nat.lt_of_lt_of_le (h.avlt b o hb) hx.size,h.avr,fun k y hk o ha=>?_⟩
 ·rcases fF hk with⟨h1,h2⟩|⟨rfl,rfl⟩
  ·obtain⟨us,k1,k2⟩:=h.box k y h2
   simp only [dF (show k≠st.boxes.length by omega)]
   exact⟨us,k1.ext hx,fZ.mono he _ _ k2⟩
  ·simp only [b9]
   exact⟨vs,ho,hc⟩
 ·rcases fF hk with⟨h1,h2⟩|⟨rfl,rfl⟩<;>rcases fF hk' with⟨h1',h2'⟩|⟨rfl,rfl⟩
  ·simp only [dF (show k≠st.boxes.length by omega),dF (show k'≠st.boxes.length by omega)]
   exact h.binj k k' y y' h2 h2' hne
  ·simp only [dF (show k≠st.boxes.length by omega),b9]
   have:=hw k y h2
   omega
  ·simp only [dF (show k'≠st.boxes.length by omega),b9]
   have:=hw k' y' h2'
   omega
  ·exact absurd rfl hne
 ·obtain⟨k1,k2,k3⟩:=h.row r row hr
  refine⟨k1,k2,?_⟩
  rcases k3 with k3|⟨g,c,cur,q1,q2,q3,q4,q5,q6⟩
  ·exact .inl k3
  ·exact .inr ⟨g,c,cur,q1,q2.ext hx,q3,q4,q5,RV.mono he (.t _) _ q6⟩
 ·rcases fF hk with⟨h1,h2⟩|⟨rfl,rfl⟩
  ·simp only [dF (show k≠st.boxes.length by omega)]
   exact h.br k y r row g c h2 hr hg
  ·simp only [b9]
   have:=h.row_lt hr hg
   omega
 ·rcases fF hk with⟨h1,h2⟩|⟨rfl,rfl⟩
  ·simp only [dF (show k≠st.boxes.length by omega)] at ha
   exact h.avb k y h2 o ha
  ·simp only [b9] at ha
   have:=h.avlt _ _ ha
   omega
def ah1(P:Program)(f:FuncId)(args:List PV)(T:TypeId)(cs:List PV):Prop:=dG P f args ⟨[],[]⟩ (fun r st'=> ∃k,r= .ptr k 0∧st'.rows= []∧(∀i x,st'.boxes[i]?=some (some x)→i=k)∧st'.boxes[k]?=some (some ⟨T,cs⟩))
section
variable {P:Program} {C:oE} {n:Nat} {s:AS} {o:Oper}
theorem aW.callNew{f:FuncId}{fn:Func}{xs:List Operand}{ts:Array TypeId}{ps qs cs:List PV}{T:TypeId}(ho:o.op= .call { callee:= .value (.func f),args:=⟨xs⟩,argTypes:=ts })(hd:bQ o.dst n=true)(hf:P.funcs[f]?=some fn)(hnm:(fn.name== "runtime.NumGoroutine")=false)(hb:fn.body.isNone=false)
 (hx:xs.map s.ev=ps.map some) (hle:sS ps qs) (hfr:iW qs=true) (hfr':iW cs=true) (hc:ah1 P f qs T cs):aW P C n o s ((⟨s.env,s.st.addBox ⟨T,cs⟩⟩:AS).putO o.dst (.ptr s.st.boxes.length 0)):=fun m a w h K Q hK=>by
 have h2:=evL h hx
 have h1:(execOp a.eval o).run P w= .ok (.enter f ⟨xs.map a.eval⟩) w:=by
  have hcf:=kE (P:=P) hf hnm hb
  unfold execOp
  simp only [ho]
  simp [resolve,invoke,Deferred.ofValue,Act.eval,hcf]
 unfold Oper.wp
 rw [h1]
 have h3:=hc (af1 C s m w) m w _ (eQ.nil fun b o hb=>hb.1) (iW.rv (fun b o hb hk=>⟨fun hs=>hs.2 hk,fun _ _ h=>by simp at h,fun _ _ _ _ h=>by simp at h⟩) _ _ hfr (sS.rv hle h2))
 refine Calls.mono h3 fun e w'=>?_;rintro⟨r,st',m',v,rfl,⟨k,rfl,hrows,honly,hbox⟩,h4,h5,h6⟩
 have hx:oU w w':=⟨h5.os,h5.tape,h5.output,h5.size,fun b hb=>h5.blk b hb (fun _ _ h=>by simp at h) (fun _ _ _ _ h=>by simp at h)⟩
 have hfresh:w.heap.size≤m'.ρ k:=by
  rcases h5.fresh k _ hbox with⟨x,hx0⟩|hf
  ·simp at hx0
  ·exact hf
 obtain⟨vs,hob,hcs⟩:=h4.box k _ hbox
 have hk: ∀b o,b<w'.heap.size→jL (af1 C s m w) st' m' b o→jL C.av (s.st.addBox ⟨T,cs⟩) ⟨zQ m.ρ s.st.boxes.length (m'.ρ k),m.γ⟩ b o:=fun b o hb hk=>by
  have hnew:m'.ρ k≠b:=hk.2.1 k _ hbox
  have h0:jL C.av s.st m b o:=by
   rcases Nat.lt_or_ge b w.heap.size with hlt|hge
   ·exact Classical.byContradiction fun hn=>hk.1 ⟨hlt,hn⟩
   ·exact LV h.sto hge o
  refine⟨h0.1,fun i y hi=>?_,h0.2.2⟩
  rcases fF hi with⟨q1,q2⟩|⟨rfl,rfl⟩
  ·simp only [dF (show i≠s.st.boxes.length by omega)]
   exact h0.2.1 i y q2
  ·simp only [b9]
   exact hnew
 have hE:Ev s.st m w (s.st.addBox ⟨T,cs⟩) ⟨zQ m.ρ s.st.boxes.length (m'.ρ k),m.γ⟩ w':=I3 hx hfresh
 have hS:eQ C.av (s.st.addBox ⟨T,cs⟩) ⟨zQ m.ρ s.st.boxes.length (m'.ρ k),m.γ⟩ w':=ML h.sto hx hfresh hob (iW.rv hk _ _ hfr' hcs)
 have hv:v= .pointer (some ⟨m'.ρ k,0,none⟩):=h6.2
 exact hK _ _ w' ((h.step hE hS).put (cW hd) ⟨⟨⟨T,cs⟩,by simp [cU.addBox]⟩,by simp [b9,hv]⟩)
end
end Go.Proofs.YtpioomclpaiomaaGreat

namespace Go.Proofs.YtpioomclpaiomaaGreat
set_option linter.unusedSimpArgs false
set_option linter.unusedVariables false
open Go.RowKit Go.WalkArith Go.IntWalk Go.WideShapes
def yB(x y:Int):Int:=IntKind.wrap .i64 ((BitVec.ofInt 64 x&&& BitVec.ofInt 64 y).toNat:Int)
def N0(x y:Int):Int:=IntKind.wrap .i64 ((BitVec.ofInt 64 x^^^BitVec.ofInt 64 y).toNat:Int)
def qW(x y:Int):Int:=x.fdiv (2^(min y.toNat 64))
def aQ(x:Int):Int:=IntKind.wrap .i64 x
section
variable {P:Program} {C:oE} {n:Nat} {s:AS} {o:Oper}
theorem aW.moveAny{v:Value}(ho:o.op= .assign (.const v)∨o.op= .move (.const v)):aW P C n o s (s.delO o.dst):=fun m a w h K Q hK=>by
 have h1:(execOp a.eval o).run P w= .ok (.value v) w:=by
  unfold execOp
  rcases ho with ho|ho<;>simp [ho,Act.eval]
 unfold Oper.wp
 rw [h1]
 exact hK m _ w (h.del o.dst v)
theorem aW.andI{T yT:TypeId}{x y:Operand}{a b:Int}(ho:o.op= .binOp .and T x y yT)(hd:bQ o.dst n=true)(hx:s.ev x=some (.t (.leaf (.int .i64 a))))(hy:s.ev y=some (.t (.leaf (.int .i64 b)))):
 aW P C n o s (s.putO o.dst (.t (.leaf (.int .i64 (yB a b))))):=aW.bin ho hd hx hy (fun w=>by rfl) (wf_wrap .i64 _)
theorem aW.xorI{T yT:TypeId}{x y:Operand}{a b:Int}(ho:o.op= .binOp .xor T x y yT)(hd:bQ o.dst n=true)(hx:s.ev x=some (.t (.leaf (.int .i64 a))))(hy:s.ev y=some (.t (.leaf (.int .i64 b)))):
 aW P C n o s (s.putO o.dst (.t (.leaf (.int .i64 (N0 a b))))):=aW.bin ho hd hx hy (fun w=>by rfl) (wf_wrap .i64 _)
theorem aW.shrI{T yT:TypeId}{x y:Operand}{a b:Int}{k:IntKind}(ho:o.op= .binOp .shr T x y yT)(hd:bQ o.dst n=true)(hx:s.ev x=some (.t (.leaf (.int .i64 a))))(hy:s.ev y=some (.t (.leaf (.int k b))))(hb:0≤b)(h1: -9223372036854775808≤qW a b)(h2:qW a b≤9223372036854775807):
 aW P C n o s (s.putO o.dst (.t (.leaf (.int .i64 (qW a b))))):=aW.bin ho hd hx hy (fun w=>by
  have: ¬b<0:=by omega
  simp [eqGuard,binOp,Op.shift,qW,IntKind.bits,this]) (wf_i64 (by omega))
theorem aW.remN{T yT:TypeId}{x y:Operand}{a b:Nat}(ho:o.op= .binOp .rem T x y yT)(hd:bQ o.dst n=true)(hx:s.ev x=some (.t (.leaf (.int .i64 (a:Int)))))(hy:s.ev y=some (.t (.leaf (.int .i64 (b:Int)))))(hb:0<b)(ha:a≤9223372036854775807):
 aW P C n o s (s.putO o.dst (.t (.leaf (.int .i64 ((a%b:Nat):Int))))):=aW.bin ho hd hx hy (fun w=>by
  have: ¬(b:Int)=0:=by omega
  have: ¬b=0:=by omega
  simp [eqGuard,binOp,Op.intDiv,this,Int.tmod_eq_emod_of_nonneg]) (wf_i64 (by have:=Nat.mod_le a b;omega))
theorem aW.convI{S T:TypeId}{x:Operand}{k:IntKind}{a:Int}(ho:o.op= .convert S T x)(hd:bQ o.dst n=true)(hx:s.ev x=some (.t (.leaf (.int k a))))(hS: ∃k',P.underlying S=some (.int k'))(hT:P.underlying T=some (.int .i64))(h1: -9223372036854775808≤a)(h2:a≤9223372036854775807):
 aW P C n o s (s.putO o.dst (.t (.leaf (.int .i64 a)))):=
 aW.quiet (cW hd) fun m ac w h=>⟨.int .i64 a,by
  have h3:=(cF.leaf_eq (h.eval hx)).1
  obtain⟨k',hS⟩:=hS
  have hw:IntKind.wrap .i64 a=a:=by unfold IntKind.wrap;simp [IntKind.bits,IntKind.signed];omega
  unfold execOp
  simp [ho,h3,convert,run_underlying hS,run_underlying hT,Conv.intToInt,hw],cF.leaf (wf_i64 (by omega))⟩
end
end Go.Proofs.YtpioomclpaiomaaGreat

namespace Go.Proofs.YtpioomclpaiomaaGreat
open Go.RowKit Go.Proofs
set_option linter.unusedSimpArgs false
set_option linter.unusedVariables false
def cL(l:List UInt8):List (List Tr):=l.map fun b=> [.leaf (.int .u8 (b.toNat:Int))]
theorem fV(l:List UInt8):(cL l).length=l.length:=by simp [cL]
theorem uQ{l:List UInt8}{k:Nat}(h:k<l.length):(cL l)[k]?=some [.leaf (.int .u8 ((l[k]).toNat:Int))]:=by simp [cL,h]
structure DS where
 code:List UInt8
 p:Nat
 h:Int
def DS.cells(d:DS):List PV:= [.t (.row 1 (cL d.code)),.t (.leaf (.int .i64 (d.p:Int))),.t (.leaf (.int .i64 d.h))]
abbrev DS.box(T:TypeId)(d:DS):cU:=⟨[some ⟨T,d.cells⟩],[]⟩
def A8(h:Int):Int:=aQ (aQ (h*6364136223846793005)+1442695040888963407)
theorem BJ(x:Int): -9223372036854775808≤aQ x∧aQ x≤9223372036854775807:=by
 unfold aQ IntKind.wrap
 simp [IntKind.bits,IntKind.signed]
 omega
theorem LT{x y:Int}(h: -9223372036854775808≤x∧x≤9223372036854775807): -9223372036854775808≤qW x y∧qW x y≤9223372036854775807:=by
 unfold qW
 generalize min y.toNat 64=k
 have hp:(1:Int)≤2^k:=by
  have:=Nat.one_le_two_pow (n:=k)
  exact_mod_cast this
 generalize(2:Int)^k=d at hp
 rw [Int.fdiv_eq_ediv_of_nonneg _ (by omega)]
 have h1:x/d≤9223372036854775807:=by
  have:x/d≤9223372036854775807/d:=Int.ediv_le_ediv (by omega) h.2
  have:(9223372036854775807:Int)/d≤9223372036854775807:=Int.ediv_le_self _ (by omega)
  omega
 have h2: -9223372036854775808≤x/d:=by
  rw [Int.le_ediv_iff_mul_le (by omega)]
  omega
 exact⟨h2,h1⟩
def DS.byte(d:DS):Int:=let x:=yB (N0 (qW (A8 d.h) 33) (qW (A8 d.h) 45)) 255;if h:d.p<d.code.length then yB (aQ (x+(d.code[d.p].toNat:Int))) 255 else x
def DS.next(d:DS):DS:=⟨d.code,if d.p<d.code.length then d.p+1 else d.p,A8 d.h⟩
theorem UR(x:Int):0≤yB x 255∧yB x 255≤255:=by
 unfold yB
 have h:(BitVec.ofInt 64 x&&& BitVec.ofInt 64 255).toNat≤255:=by
  rw [BitVec.toNat_and]
  exact Nat.le_trans Nat.and_le_right (by decide)
 generalize(BitVec.ofInt 64 x&&& BitVec.ofInt 64 255).toNat=k at h
 unfold IntKind.wrap
 simp [IntKind.bits,IntKind.signed]
 omega
theorem DS.byte_in(d:DS):0≤d.byte∧d.byte≤255:=by
 unfold DS.byte
 split
 ·exact UR _
 ·exact UR _
def DS.byteN(d:DS):Nat:=d.byte.toNat
theorem DS.byteN_le(d:DS):d.byteN≤255:=by have:=d.byte_in;unfold DS.byteN;omega
theorem DS.byteN_eq(d:DS):((d.byteN:Nat):Int)=d.byte:=by have:=d.byte_in;unfold DS.byteN;omega
def DS.below(d:DS)(n:Nat):Nat:=if n=0 then 0 else if n≤256 then d.byteN%n else(d.byteN*16777216+d.next.byteN*65536+d.next.next.byteN*256+d.next.next.next.byteN)%n
def DS.after(d:DS)(n:Nat):DS:=if n=0 then d else if n≤256 then d.next else d.next.next.next.next
theorem DS.below_lt(d:DS){n:Nat}(h:0<n):d.below n<n:=by
 unfold DS.below
 rw [if_neg (by omega)]
 split
 ·exact Nat.mod_lt _ h
 ·exact Nat.mod_lt _ h
def DS.pick(d:DS)(l:List ByteArray):ByteArray:=(l[d.below l.length]?).getD ⟨#[]⟩
theorem DS.pick_eq{d:DS}{l:List ByteArray}(h:d.below l.length<l.length):d.pick l=l[d.below l.length]:=by simp [DS.pick,h]
def BK(h:Int)(b:UInt8):Int:=yB (aQ (aQ (aQ (h*131)+(b.toNat:Int))+7)) 1073741823
def ahZ(code:List UInt8):Int:=(code.take 4000).foldl BK (28803+(code.length:Int))
def DS.start(code:List UInt8):DS:=⟨code,0,ahZ code⟩
theorem acZ{code:List UInt8}{i:Nat}{h h' r:Int}(h1:i<code.length)(h2:i<4000)(hr:r=((code.take 4000).drop i).foldl BK h)(hs:BK h code[i]=h'):r=((code.take 4000).drop (i+1)).foldl BK h':=by
 have hl:i<(code.take 4000).length:=by simp;omega
 rw [hr,List.drop_eq_getElem_cons hl,List.foldl_cons,List.getElem_take,hs]
theorem T8{code:List UInt8}{i:Nat}{h r:Int}(h1:code.length≤i∨4000≤i)(hr:r=((code.take 4000).drop i).foldl BK h):r=h:=by
 rw [hr,List.drop_of_length_le (by simp;omega),List.foldl_nil]
theorem rJ{C:oE}{x:cV}{S:cU}(h:C.st=⟨[some x],[]⟩)(hs: ∃y,S.boxes[0]?=some (some y)):kZ C.st S:=by
 rw [h]
 exact⟨fun k z hz=>by
  rcases k with _|k
  ·exact hs
  ·simp at hz,fun r row hr=>by simp at hr⟩
end Go.Proofs.YtpioomclpaiomaaGreat

namespace Go.Proofs.YtpioomclpaiomaaGreat
set_option linter.unusedSimpArgs false
set_option linter.unusedVariables false
open Go.RowKit Go.WalkArith Go.IntWalk Go.WideShapes
def ahH(sz:Nat)(es:List (List Tr)):Option (List PV)→Nat→PV
 |none,k=> .acc sz es k
 |some ps,k=> .tup (.acc sz es k::ps)
def af9(P:Program)(f:FuncId)(args:List PV)(E:TypeId)(sz:Nat)(es:List (List Tr))(ps:Option (List PV)):Prop:=
 dG P f args ⟨[],[]⟩ (fun r st'=> ∃k,r=ahH sz es ps k∧st'.rows[k]?=some ⟨E,sz,es,false⟩)
section
variable {P:Program} {C:oE} {n:Nat} {s:AS} {o:Oper}
end
theorem uH.ofAcc{av:Nat→Nat→Prop}{st:cU}{m:iH}{w:World}{k E sz:Nat}{es:List (List Tr)}{v:Value}{S:Nat→Prop}(hst:eQ av st m w)(hrow:st.rows[k]?=some ⟨E,sz,es,false⟩)(hv:RV (jL av st m) st m w (.acc sz es k) v)
 (hS: ∀g c,m.γ k=some (g,c)→g<w.heap.size→S g) (hfl: ∀e∈es,∀d∈e,∃u,d= .leaf u):uH w (.row sz es) v S:=by
 obtain⟨q1,q2,q3⟩:=hst.row k _ hrow
 obtain⟨row,hr,-,hle,hrep,heq⟩:=hv
 rw [hrow] at hr
 obtain rfl:=Option.some.inj hr
 have hv:=heq rfl
 rcases q3 with⟨a,b⟩|⟨g,c,cur,r1,r2,r3,r4,r5,r6⟩
 ·rw [a] at hv
  have b:es= []:=b
  subst b
  subst hv
  exact uH.row (es:= []) (fun _ _=>undef) (fun _ _ _=>False) (by simp) (by unfold maxLen;omega) (by simp) (by simp) (by simp) (by simp)
 ·rw [r1] at hv
  subst hv
  have r6:cF (jL av st m) w (.row sz es) (.slice (some ⟨g,0,none⟩) es.length c):=r6
  show uH w (.row sz es) (.slice (some ⟨g,0,none⟩) es.length c) S
  cases r6 with
  |row cc h1 h2 h3 h4=>
   refine .row cc (fun _ _ _=>False) h1 h2 (fun hne=>?_) (fun i e he j d hd=>?_) (fun _ _ _ _ _ _ x hx=>hx.elim) (fun _ _ _ _ _ _ _ _ _ _ _ _ _ x hx=>hx.elim)
   ·obtain⟨b,off,ha,hb,hc⟩:=h3 hne
    obtain⟨rfl,rfl⟩:g=b∧0=off:=by simpa using ha
    exact⟨g,0,E,cur,rfl,r2,hS g c r1 hb,fun i e he j d hd=>⟨by rw [← r2.cell];exact(hc i e he j d hd).2,fun x hx=>hx.elim⟩⟩
   ·obtain⟨u,rfl⟩:=hfl e (List.mem_of_getElem? he) d (List.mem_of_getElem? hd)
    have h7:=(h4 i e he j _ hd).rep.leaf_eq
    rw [h7.1]
    exact .leaf h7.2
theorem af9.own{P:Program}{f:FuncId}{args:List PV}{E sz:Nat}{es:List (List Tr)}(h:af9 P f args E sz es none)(hfl: ∀e∈es,∀d∈e,∃u,d= .leaf u){w:World}{vals:List Value}(hv:OK w args vals):
 Calls P f ⟨vals⟩ w fun e w'=> ∃v,e= .returned v∧oU w w'∧uH w' (.row sz es) v (xT w w'):=
 (h av0 WF w vals (ahY w) hv).mono fun e w'=>by
  rintro⟨res,st',m',v,rfl,⟨k,rfl,hrow⟩,hst,he,hr⟩
  exact⟨v,rfl,he.ext,uH.ofAcc hst hrow hr (fun g c hg hlt=>by
   rcases he.rfresh k _ g c hrow hg with⟨row,c0,h0,_⟩|hf
   ·simp at h0
   ·exact⟨hf,hlt⟩) hfl⟩
end Go.Proofs.YtpioomclpaiomaaGreat

namespace Go.Proofs.YtpioomclpaiomaaGreat
set_option linter.unusedSimpArgs false
set_option linter.unusedVariables false
open Go.RowKit Go.WalkArith Go.IntWalk Go.WideShapes
mutual
inductive Mv (sz:Nat) (es:List (List Tr)) (k k':Nat):PV→PV→Prop
 |acc:Mv sz es k k' (.acc sz es k) (.acc sz es k')
 |free (p:PV):PV.free p=true→Mv sz es k k' p p
 |agg {ps qs:List PV}:QV sz es k k' ps qs→Mv sz es k k' (.agg ps) (.agg qs)
 |tup {ps qs:List PV}:QV sz es k k' ps qs→Mv sz es k k' (.tup ps) (.tup qs)
inductive QV (sz:Nat) (es:List (List Tr)) (k k':Nat):List PV→List PV→Prop
 |nil:QV sz es k k' [] []
 |cons {p q:PV} {ps qs:List PV}:Mv sz es k k' p q→QV sz es k k' ps qs→QV sz es k k' (p::ps) (q::qs)
end
section
variable {ok ok':Nat→Nat→Prop} {st st':cU} {m m':iH} {w:World} {sz k k':Nat} {es:List (List Tr)}
mutual
theorem Mv.rv(hk: ∀b o,b<w.heap.size→ok b o→ok' b o)(hrow: ∀row,st.rows[k]?=some row→st'.rows[k']?=some row∧m'.γ k'=m.γ k): ∀ {p q:PV} {v:Value},Mv sz es k k' p q→RV ok st m w p v→RV ok' st' m' w q v
 |_,_,_,.acc,h=>by
  obtain⟨row,h1,h2,h3,h4,h5⟩:=h
  obtain⟨k1,k2⟩:=hrow row h1
  exact⟨row,k1,h2,h3,cF.mono h4 (Nat.le_refl _) hk (fun _ _ _ _=>rfl),fun e=>by rw [k2];exact h5 e⟩
 |_,_,_,.free p hf,h=>PV.free.rv hk p _ hf h
 |_,_,_,.agg hl,h=>by
  obtain⟨vs,hv,h1⟩:=h
  exact⟨vs,hv,QV.rv hk hrow hl h1⟩
 |_,_,_,.tup hl,h=>by
  obtain⟨vs,hv,h1⟩:=h
  exact⟨vs,hv,QV.rv hk hrow hl h1⟩
theorem QV.rv(hk: ∀b o,b<w.heap.size→ok b o→ok' b o)(hrow: ∀row,st.rows[k]?=some row→st'.rows[k']?=some row∧m'.γ k'=m.γ k): ∀ {ps qs:List PV} {vs:List Value},QV sz es k k' ps qs→fZ ok st m w ps vs→fZ ok' st' m' w qs vs
 |_,_,[],.nil,h=>h
 |_,_,_::_,.nil,h=>h.elim
 |_,_,[],.cons _ _,h=>h.elim
 |_,_,_::_,.cons h1 h2,h=>⟨Mv.rv hk hrow h1 h.1,QV.rv hk hrow h2 h.2⟩
end
end
mutual
theorem PV.free.ren{fb fr:List Nat}: ∀(p:PV),PV.free p=true→PV.ren fb fr p=p
 | .t _,_=>rfl
 | .agg cs,h=>by rw [PV.ren,iW.ren cs h]
 | .tup cs,h=>by rw [PV.ren,iW.ren cs h]
 | .nil,_=>rfl
 | .eptr _,_=>rfl
 | .fn f cs,h=>by rw [PV.ren,iW.ren cs h]
 | .acc _ _ _,h=>by cases h
 | .ptr _ _,h=>by cases h
 | .full _ _ _,h=>by cases h
 | .rptr _ _,h=>by cases h
 | .lit _ _,h=>by cases h
 | .bsl _ _,h=>by cases h
 | .gsl _ _,h=>by cases h
theorem iW.ren{fb fr:List Nat}: ∀(ps:List PV),iW ps=true→zX fb fr ps=ps
 | [],_=>rfl
 |p::ps,h=>by
  simp only [iW,Bool.and_eq_true] at h
  rw [zX,PV.free.ren p h.1,iW.ren ps h.2]
end
section
variable {av:Nat→Nat→Prop} {s pre st':cU} {m m':iH} {fb:List Nat} {w w':World} {k:Nat} {row:oO}
theorem aeN(h:mO s pre fb [])(hpr:pre.rows= [])(hs:eQ av s m w)(hst:eQ (DR av s pre m fb [] w) st' m' w')(he:Ev pre (m.via fb []) w st' m' w')(hbl:st'.boxes.length=pre.boxes.length)
 (hfree: ∀(j:Nat) (x:cV),st'.boxes[j]?=some (some x)→iW x.cells=true) (hrow:st'.rows[k]?=some row):
 Ev s m w ⟨(s.over ⟨st'.boxes,[]⟩ fb []).boxes,s.rows++ [row]⟩ ⟨m.ρ,zQ m.γ s.rows.length (m'.γ k)⟩ w'∧eQ av ⟨(s.over ⟨st'.boxes,[]⟩ fb []).boxes,s.rows++ [row]⟩ ⟨m.ρ,zQ m.γ s.rows.length (m'.γ k)⟩ w'∧
 (∀b o,b<w'.heap.size→jL (DR av s pre m fb [] w) st' m' b o→jL av ⟨(s.over ⟨st'.boxes,[]⟩ fb []).boxes,s.rows++ [row]⟩ ⟨m.ρ,zQ m.γ s.rows.length (m'.γ k)⟩ b o):=by
 have pb: ∀(i j:Nat),fb[j]?=some i→ ∃(x y:cV),pre.boxes[j]?=some (some x)∧s.boxes[i]?=some (some y)∧fb.getD j 0=i∧m'.ρ j=m.ρ i∧ ∃x':cV,st'.boxes[j]?=some (some x'):=fun i j hj=>by
  obtain⟨x,hx⟩:=h.all j (by rw [← h.fbl];exact c3 hj)
  obtain⟨y,hy,-⟩:=h.box j x hx
  have e:fb.getD j 0=i:=by simp [List.getD_eq_getElem?_getD,hj]
  rw [e] at hy
  obtain⟨h1,h2⟩:=he.live j x hx
  exact⟨x,y,hx,hy,e,by rw [h2];show m.ρ (fb.getD j 0)=_;rw [e],h1⟩
 have ob: ∀(i:Nat) (z:cV),(s.over ⟨st'.boxes,[]⟩ fb []).boxes[i]?=some (some z)→(∃(j:Nat) (x:cV),fb[j]?=some i∧st'.boxes[j]?=some (some x)∧z=x.ren fb []∧i<s.boxes.length)∨(idx? fb i=none∧s.boxes[i]?=some (some z)):=fun i z hi=>M2 (st':=⟨st'.boxes,[]⟩) hi
 have lv: ∀(i:Nat) (z:cV),(s.over ⟨st'.boxes,[]⟩ fb []).boxes[i]?=some (some z)→ ∃y:cV,s.boxes[i]?=some (some y):=fun i z hi=>by
  rcases ob i z hi with⟨j,x,h1,-⟩|⟨-,h2⟩
  ·obtain⟨-,y,-,hy,-⟩:=pb i j h1
   exact⟨y,hy⟩
  ·exact⟨z,h2⟩
 have hfresh: ∀g c,m'.γ k=some (g,c)→w.heap.size≤g:=fun g c hg=>by
  rcases he.rfresh k row g c hrow hg with⟨row0,c0,hr,-⟩|hf
  ·rw [hpr] at hr;simp at hr
  ·exact hf
 have rk: ∀(i:Nat) (z:oO) (g c:Nat),(s.rows++ [row])[i]?=some z→zQ m.γ s.rows.length (m'.γ k) i=some (g,c)→(s.rows[i]?=some z∧m.γ i=some (g,c))∨(i=s.rows.length∧z=row∧m'.γ k=some (g,c)):=fun i z g c hi hg=>by
  rcases getElem?_snoc hi with⟨h1,h2⟩|⟨rfl,rfl⟩
  ·rw [dF (show i≠s.rows.length by omega)] at hg
   exact .inl ⟨h2,hg⟩
  ·simp only [b9] at hg
   exact .inr ⟨rfl,rfl,hg⟩
 have okk: ∀b o,b<w.heap.size→s.ok m b o→cU.ok ⟨(s.over ⟨st'.boxes,[]⟩ fb []).boxes,s.rows++ [row]⟩ ⟨m.ρ,zQ m.γ s.rows.length (m'.γ k)⟩ b o:=fun b o hb hk=>by
  refine⟨fun i z hi=>?_,fun i z g c hi hg e=>?_⟩
  ·obtain⟨y,hy⟩:=lv i z hi
   exact hk.1 i y hy
  ·rcases rk i z g c hi hg with⟨h1,h2⟩|⟨-,-,h3⟩
   ·exact hk.2 i z g c h1 h2 e
   ·have:=hfresh g c h3;omega
 have ev:Ev s m w ⟨(s.over ⟨st'.boxes,[]⟩ fb []).boxes,s.rows++ [row]⟩ ⟨m.ρ,zQ m.γ s.rows.length (m'.γ k)⟩ w':=by
  refine⟨he.os,he.tape,he.output,he.size,fun b hb h1 h2=>he.blk b hb (fun i x hi=>?_) (fun r row0 g c hr _=>?_),fun b o hb hk=>he.cell b o hb (h.ok (av:=fun _ _=>False) (w:=w) ⟨id,hk⟩).2,okk,fun i y hi=>⟨?_,rfl⟩,fun i z hi=> .inl (lv i z hi),fun i row0 hi=>⟨row0,?_,rfl,Nat.le_refl _,fun _=>?_,fun hw=>⟨hw,?_⟩⟩,fun i z g c hi hg=>?_⟩
  ·obtain⟨y,hy,-⟩:=h.box i x hi
   exact h1 _ y hy
  ·rw [hpr] at hr;simp at hr
  ·cases hq:idx? fb i with
   |none=>exact⟨y,by unfold cU.over;simp [List.getElem?_zipIdx,hi,hq]⟩
   |some j=>
    obtain⟨-,-,-,-,-,-,x',hx'⟩:=pb i j (idx?_some hq)
    exact⟨x'.ren fb [],by unfold cU.over;simp [List.getElem?_zipIdx,hi,hq,List.getD_eq_getElem?_getD,hx']⟩
  ·show(s.rows++ [row])[i]?=_
   rw [List.getElem?_append_left (c3 hi)];exact hi
  ·exact dF (by have:=c3 hi;omega)
  ·exact dF (by have:=c3 hi;omega)
  ·rcases rk i z g c hi hg with⟨h1,h2⟩|⟨-,-,h3⟩
   ·exact .inl ⟨z,c,h1,h2⟩
   ·exact .inr (hfresh g c h3)
 have back: ∀b o,b<w'.heap.size→jL (DR av s pre m fb [] w) st' m' b o→jL av ⟨(s.over ⟨st'.boxes,[]⟩ fb []).boxes,s.rows++ [row]⟩ ⟨m.ρ,zQ m.γ s.rows.length (m'.γ k)⟩ b o:=fun b o _ hk=>by
  rcases Nat.lt_or_ge b w.heap.size with hlt|hge
  ·by_cases hA:jL av s m b o
   ·exact⟨hA.1,okk b o hlt hA.2⟩
   ·by_cases hB: ∃i x,pre.boxes[i]?=some (some x)∧m.ρ (fb.getD i 0)=b
    ·obtain⟨i,x,h1,h2⟩:=hB
     obtain⟨⟨x',h3⟩,h4⟩:=he.live i x h1
     exact absurd (h4.trans h2) (hk.2.1 i x' h3)
    ·exact absurd ⟨hlt,hA,fun i x h1 h2=>hB ⟨i,x,h1,h2⟩,fun r row0 g c h1 h2 h3=>by rw [hpr] at h1;simp at h1⟩ hk.1
  ·refine⟨fun ho=>by have:=hs.avlt _ _ ho;omega,fun i z hi=>?_,fun i z g c hi hg e=>?_⟩
   ·obtain⟨y,hy⟩:=lv i z hi
    have:=hs.box_lt hy
    show m.ρ i≠b
    omega
   ·rcases rk i z g c hi hg with⟨h1,h2⟩|⟨-,rfl,h3⟩
    ·have:=hs.row_lt h1 h2
     omega
    ·exact hk.2.2 k _ g c hrow h3 e
 refine⟨ev,⟨fun i z hi=>?_,fun i i' z z' hi hi' hne=>?_,fun i z hi=>?_,fun i i' z z' g c c' hi hi' hg hg'=>?_,fun i z r row0 g c hi hr hg=>?_,fun b o hb=>Nat.lt_of_lt_of_le (hs.avlt b o hb) he.size,fun i z g c hi hg o ho=>?_,fun i z hi=>by obtain⟨y,hy⟩:=lv i z hi;exact hs.avb i y hy⟩,back⟩
 ·rcases ob i z hi with⟨j,x,h1,h2,rfl,-⟩|⟨h1,h2⟩
  ·obtain⟨-,-,-,-,-,h4,-⟩:=pb i j h1
   obtain⟨vs,k1,k2⟩:=hst.box j x h2
   refine⟨vs,?_,?_⟩
   ·show TZ w' (m.ρ i) _ _
    rw [← h4]
    exact k1
   ·show fZ _ _ _ _ (zX fb [] x.cells) vs
    rw [iW.ren _ (hfree j x h2)]
    exact iW.rv back _ _ (hfree j x h2) k2
  ·obtain⟨vs,k1,k2⟩:=hs.box i z h2
   refine⟨vs,k1.keep (he.blk _ k1.lt (fun j x hj=>?_) (fun r row0 g c hr _=>?_)),fZ.mono ev _ _ k2⟩
   ·obtain⟨y,hy,-⟩:=h.box j x hj
    have hj':=oZ (l:=fb) (k:=j) (by rw [h.fbl];exact c3 hj)
    exact hs.binj _ _ y z hy h2 (fun e=>idx?_none h1 j (by rw [hj',e]))
   ·rw [hpr] at hr;simp at hr
 ·obtain⟨y,hy⟩:=lv i z hi
  obtain⟨y',hy'⟩:=lv i' z' hi'
  exact hs.binj i i' y y' hy hy' hne
 ·rcases getElem?_snoc hi with⟨h1,h2⟩|⟨rfl,rfl⟩
  ·obtain⟨k1,k2,k3⟩:=hs.row i z h2
   refine⟨k1,k2,?_⟩
   simp only [dF (show i≠s.rows.length by omega)]
   rcases k3 with k3|⟨g,c,cur,q1,q2,q3,q4,q5,q6⟩
   ·exact .inl k3
   ·refine .inr ⟨g,c,cur,q1,(he.blk g q2.lt (fun j x hj e=>?_) (fun r row0 g' c' hr _=>?_)).trans q2,q3,q4,q5,RV.mono ev (.t _) _ q6⟩
    ·obtain⟨y,hy,-⟩:=h.box j x hj
     exact hs.br _ y i z g c hy h2 q1 e
    ·rw [hpr] at hr;simp at hr
  ·obtain⟨k1,k2,k3⟩:=hst.row k _ hrow
   refine⟨k1,k2,?_⟩
   simp only [b9]
   rcases k3 with k3|⟨g,c,cur,q1,q2,q3,q4,q5,q6⟩
   ·exact .inl k3
   ·exact .inr ⟨g,c,cur,q1,q2,q3,q4,q5,cF.mono q6 (Nat.le_refl _) back (fun _ _ _ _=>rfl)⟩
 ·rcases rk i z g c hi hg with⟨h1,h2⟩|⟨h1,-,h3⟩<;>rcases rk i' z' g c' hi' hg' with⟨h1',h2'⟩|⟨h1',-,h3'⟩
  ·exact hs.rinj i i' z z' g c c' h1 h1' h2 h2'
  ·have:=hs.row_lt h1 h2
   have:=hfresh g c' h3'
   omega
  ·have:=hs.row_lt h1' h2'
   have:=hfresh g c h3
   omega
  ·omega
 ·obtain⟨y,hy⟩:=lv i z hi
  rcases rk r row0 g c hr hg with⟨h1,h2⟩|⟨-,-,h3⟩
  ·exact hs.br i y r row0 g c hy h1 h2
  ·have:=hs.box_lt hy
   have:=hfresh g c h3
   show m.ρ i≠g
   omega
 ·rcases rk i z g c hi hg with⟨h1,h2⟩|⟨-,-,h3⟩
  ·exact hs.avr i z g c h1 h2 o ho
  ·have:=hs.avlt _ _ ho
   have:=hfresh g c h3
   omega
end
def mV:List (Option cV)→Bool
 | []=>true
 |none::l=>mV l
 |some x::l=>iW x.cells&&mV l
theorem mV.get: ∀ {l:List (Option cV)} {j:Nat} {x:cV},mV l=true→l[j]?=some (some x)→iW x.cells=true
 | [],_,_,_,h=>by simp at h
 |none::l,0,_,_,h=>by simp at h
 |none::l,j+1,x,hf,h=>mV.get (l:=l) (j:=j) hf (by simpa using h)
 |some y::l,0,x,hf,h=>by
  simp at h
  subst h
  simp only [mV,Bool.and_eq_true] at hf
  exact hf.1
 |some y::l,j+1,x,hf,h=>by
  simp only [mV,Bool.and_eq_true] at hf
  exact mV.get (l:=l) (j:=j) hf.2 (by simpa using h)
def QZ(P:Program)(f:FuncId)(args:List PV)(pre:cU)(B:List (Option cV))(E:TypeId)(sz:Nat)(es:List (List Tr))(R:Nat→PV):Prop:=
 dG P f args pre (fun r t=> ∃k,r=R k∧t.boxes=B∧t.rows[k]?=some ⟨E,sz,es,false⟩)
theorem vJ.refl{st:cU}: ∀ {B:List (Option cV)},(∀x,some x∈B→lP st x.cells=true)→vJ st B B
 | [],_=>trivial
 |none::B,h=>vJ.refl (B:=B) fun x hx=>h x (List.mem_cons_of_mem _ hx)
 |some x::B,h=>⟨⟨rfl,sS.refl _,h x (by simp)⟩,vJ.refl (B:=B) fun y hy=>h y (List.mem_cons_of_mem _ hy)⟩
def LN(st:cU)(B:List (Option cV)):Bool:=B.all fun x=>match x with
 |none=>true
 |some x=>lP st x.cells
theorem LN.mem{st:cU}{B:List (Option cV)}(h:LN st B=true)(x:cV)(hx:some x∈B):lP st x.cells=true:=by
 have:=List.all_eq_true.1 h _ hx
 exact this
theorem QZ.plain{P:Program}{f:FuncId}{args:List PV}{pre:cU}{B:List (Option cV)}{E:TypeId}{sz:Nat}{es:List (List Tr)}{R:Nat→PV}{D:PV}(h:QZ P f args pre B E sz es R)(hle: ∀k,PV.Le (R k) D)(hk:PV.okIn ⟨B,[]⟩ D=true:=by exact rfl)(hb:LN ⟨B,[]⟩ B=true:=by exact rfl)(hp:kZ pre ⟨B,[]⟩):dG P f args pre (fun q t=>q=D∧t=⟨B,[]⟩):=fun av m w vals hst hv=>by
 refine(h av m w vals hst hv).mono fun e w'=>?_;rintro⟨r,st',m',v,k1,⟨k,rfl,rfl,-⟩,k3,k4,k5⟩
 have hl:mQ st' ⟨st'.boxes,[]⟩:=mQ.mk' (vJ.refl (LN.mem hb)) rfl
 exact⟨D,⟨st'.boxes,[]⟩,m',v,k1,⟨rfl,rfl⟩,hl.sto k3,hl.ev k4 hp,hl.rv D _ hk ((hle k).rv k5)⟩
theorem ahA{st:cU}:kZ ⟨[],[]⟩ st:=kZ.nil
section
variable {P:Program} {C:oE} {n:Nat} {s:AS} {o:Oper}
theorem aW.callOwn{f:FuncId}{fn:Func}{xs:List Operand}{ts:Array TypeId}{ps qs:List PV}{pre S:cU}{B:List (Option cV)}{E:TypeId}{sz:Nat}{es:List (List Tr)}{R:Nat→PV}(fb:List Nat)(ho:o.op= .call { callee:= .value (.func f),args:=⟨xs⟩,argTypes:=ts })(hd:bQ o.dst n=true)(hf:P.funcs[f]?=some fn)(hnm:(fn.name== "runtime.NumGoroutine")=false)(hb:fn.body.isNone=false)
 (hx:xs.map s.ev=ps.map some) (hS:s.st=S) (hp:mO S pre fb []) (hpr:pre.rows= []) (hle:sS ps (zX fb [] qs)) (hok:lP pre qs=true) (hbl:B.length=pre.boxes.length) (hfree:mV B=true) (hR: ∀k k',Mv sz es k k' (R k) (R k')) (hc:QZ P f qs pre B E sz es R):
 aW P C n o s ((⟨s.env,⟨(S.over ⟨B,[]⟩ fb []).boxes,S.rows++ [⟨E,sz,es,false⟩]⟩⟩:AS).putO o.dst (R S.rows.length)):=fun m a w h K Q hK=>by
 subst hS
 have h2:=evL h hx
 have h1:(execOp a.eval o).run P w= .ok (.enter f ⟨xs.map a.eval⟩) w:=by
  have hcf:=kE (P:=P) hf hnm hb
  unfold execOp
  simp only [ho]
  simp [resolve,invoke,Deferred.ofValue,Act.eval,hcf]
 unfold Oper.wp
 rw [h1]
 have h3:=hc (DR C.av s.st pre m fb [] w) (m.via fb []) w _ (hp.sto h.sto) (fZ.unren hp (fun b o _ k=>hp.ok k) _ _ hok (sS.rv hle h2))
 refine Calls.mono h3 fun e w'=>?_;rintro⟨r,st',m',v,rfl,⟨k,rfl,rfl,hrow⟩,h4,h5,h6⟩
 obtain⟨k1,k2,k3⟩:=aeN hp hpr h.sto h4 h5 hbl (fun j x hj=>mV.get hfree hj) hrow
 refine hK _ _ w' ((h.step k1 k2).put (cW hd) (Mv.rv k3 (fun row hr=>?_) (hR k s.st.rows.length) h6))
 rw [hrow] at hr
 obtain rfl:=Option.some.inj hr
 exact⟨by simp,by simp only [b9]⟩
end
end Go.Proofs.YtpioomclpaiomaaGreat

namespace Go.Proofs.YtpioomclpaiomaaGreat
set_option linter.unusedSimpArgs false
set_option linter.unusedVariables false
open Go.RowKit Go.WalkArith Go.IntWalk Go.WideShapes
def qB(P:Program)(T f:Nat):Option (Nat×Bool×Nat):=
 match P.underlying T with
 |some (.struct fs)=>match fs[f]? with
  |some fd=>(b8 P fd.type).map fun x=>(fd.offset,x.1,x.2)
  |none=>none
 |_=>none
theorem qB.spec{P:Program}{T f e z:Nat}{b:Bool}(h:qB P T f=some (e,b,z)): ∃fs fd,P.underlying T=some (.struct fs)∧fs[f]?=some fd∧b8 P fd.type=some (b,z)∧fd.offset=e:=by
 unfold qB at h
 split at h
 ·rename_i fs hu
  split at h
  ·rename_i fd hf
   cases hs:b8 P fd.type with
   |none=>simp [hs] at h
   |some x=>
    obtain⟨b',z'⟩:=x
    simp only [hs,Option.map_some,Option.some.injEq,Prod.mk.injEq] at h
    obtain⟨h1,rfl,rfl⟩:=h
    exact⟨fs,fd,hu,hf,hs,h1⟩
  ·cases h
 ·cases h
section
variable {P:Program} {C:oE} {n:Nat} {s:AS} {o:Oper}
theorem aW.field1{T:TypeId}{x:Operand}{f e z:Nat}{cs:List PV}{p:PV}(ho:o.op= .field T x f)(hd:bQ o.dst n=true)(hx:s.ev x=some (.agg cs))(hf:qB P T f=some (e,false,z))(hc:cs[e]?=some p):aW P C n o s (s.putO o.dst p):=
 aW.quiet (cW hd) fun m a w h=>by
  obtain⟨vs,h1,h2⟩:=h.eval hx
  obtain⟨fs,fd,hu,hfd,hs,rfl⟩:=qB.spec hf
  obtain⟨v,hv,hr⟩:=h2.get hc
  refine⟨v,?_,hr⟩
  unfold execOp
  simp [ho,h1,Instr.field,Sem.run_bind,run_underlying hu,hfd,asAgg,part,B3 hs,hv]
end
end Go.Proofs.YtpioomclpaiomaaGreat

namespace Go.Proofs.YtpioomclpaiomaaGreat
open Go.RowKit Go.Proofs
theorem iG:b8 Tryz.prog 3=some (false,1):=by kernel_rfl
theorem sz3:(Tryz.prog.info? 3).map (·.size)=some 1:=by kernel_rfl
theorem sh4:b8 Tryz.prog 4=some (false,1):=by kernel_rfl
theorem sz4:(Tryz.prog.info? 4).map (·.size)=some 1:=by kernel_rfl
theorem sh5:b8 Tryz.prog 5=some (false,1):=by kernel_rfl
theorem zr5:cS Tryz.prog 5=some [.t (.leaf (.int .u8 0))]:=by kernel_rfl
theorem e8:b8 Tryz.prog 9=some (false,1):=by kernel_rfl
theorem sz9:(Tryz.prog.info? 9).map (·.size)=some 1:=by kernel_rfl
theorem jZ:cS Tryz.prog 9=some [.t (.leaf (.string ⟨#[]⟩))]:=by kernel_rfl
theorem aiC:b8 Tryz.prog 22=some (false,1):=by kernel_rfl
theorem U7:elemOf? Tryz.prog 22=some (5,1,1):=by kernel_rfl
theorem sE:b8 Tryz.prog 24=some (false,1):=by kernel_rfl
theorem aiI:(Tryz.prog.info? 24).map (·.size)=some 1:=by kernel_rfl
theorem o3:elemOf? Tryz.prog 24=some (131,6,136):=by kernel_rfl
theorem aiV:(Tryz.prog.info? 131).bind (fun i=>i.zero.map (fun z=>z.cells.size))=some 6:=by kernel_rfl
theorem nI:b8 Tryz.prog 26=some (true,1):=by kernel_rfl
theorem NQ:(Tryz.prog.info? 26).map (·.size)=some 1:=by kernel_rfl
theorem NZ:cS Tryz.prog 26=some [.nil]:=by kernel_rfl
theorem ag9:fY Tryz.prog 26=some [(0,1)]:=by kernel_rfl
theorem ZR:b8 Tryz.prog 27=some (false,1):=by kernel_rfl
theorem af8:(Tryz.prog.info? 27).map (·.size)=some 1:=by kernel_rfl
theorem vF:elemOf? Tryz.prog 27=some (37,4,64):=by kernel_rfl
theorem ahE:(Tryz.prog.info? 37).bind (fun i=>i.zero.map (fun z=>z.cells.size))=some 4:=by kernel_rfl
theorem nY:b8 Tryz.prog 33=some (false,1):=by kernel_rfl
theorem ah2:(Tryz.prog.info? 33).map (·.size)=some 1:=by kernel_rfl
theorem fX:elemOf? Tryz.prog 33=some (35,3,48):=by kernel_rfl
theorem afE:(Tryz.prog.info? 35).bind (fun i=>i.zero.map (fun z=>z.cells.size))=some 3:=by kernel_rfl
theorem dL:b8 Tryz.prog 35=some (true,3):=by kernel_rfl
theorem iV:(Tryz.prog.info? 35).map (·.size)=some 3:=by kernel_rfl
theorem jO:cS Tryz.prog 35=some [.t (.leaf (.int .i64 0)),.t (.leaf (.string ⟨#[]⟩)),.nil]:=by kernel_rfl
theorem zM:fY Tryz.prog 35=some [(0,1),(1,1),(2,1)]:=by kernel_rfl
theorem ai3:b8 Tryz.prog 37=some (true,4):=by kernel_rfl
theorem GZ:cS Tryz.prog 37=some [.t (.leaf (.string ⟨#[]⟩)),.t (.leaf (.int .i64 0)),.t (.leaf (.string ⟨#[]⟩)),.nil]:=by kernel_rfl
theorem acC:fY Tryz.prog 37=some [(0,1),(1,3)]:=by kernel_rfl
theorem jM:b8 Tryz.prog 38=some (false,1):=by kernel_rfl
theorem E8:(Tryz.prog.info? 38).map (·.size)=some 1:=by kernel_rfl
theorem bW:elemOf? Tryz.prog 38=some (9,1,16):=by kernel_rfl
theorem oT:(Tryz.prog.info? 9).bind (fun i=>i.zero.map (fun z=>z.cells.size))=some 1:=by kernel_rfl
theorem KW:b8 Tryz.prog 45=some (true,2):=by kernel_rfl
theorem U2:cS Tryz.prog 45=some [.t (.leaf (.int .i64 0)),.t (.leaf (.int .i64 0))]:=by kernel_rfl
theorem aiL:fY Tryz.prog 45=some [(0,1),(1,1)]:=by kernel_rfl
theorem rN:elemOf? Tryz.prog 48=some (45,2,16):=by kernel_rfl
theorem ahP:(Tryz.prog.info? 45).bind (fun i=>i.zero.map (fun z=>z.cells.size))=some 2:=by kernel_rfl
theorem SH:b8 Tryz.prog 53=some (false,1):=by kernel_rfl
theorem ah3:(Tryz.prog.info? 53).map (·.size)=some 1:=by kernel_rfl
theorem FZ:elemOf? Tryz.prog 53=some (161,11,184):=by kernel_rfl
theorem ah5:(Tryz.prog.info? 161).bind (fun i=>i.zero.map (fun z=>z.cells.size))=some 11:=by kernel_rfl
theorem nA:b8 Tryz.prog 55=some (true,12):=by kernel_rfl
theorem rB:(Tryz.prog.info? 55).map (·.size)=some 12:=by kernel_rfl
theorem sZ:cS Tryz.prog 55=some [.t (.leaf (.string ⟨#[]⟩)),.nil,.t (.leaf (.int .i64 0)),.t (.leaf (.string ⟨#[]⟩)),.nil,.nil,.t (.leaf (.bool false)),.t (.leaf (.bool false)),.t (.leaf (.int .i64 0)),.t (.leaf (.string ⟨#[]⟩)),.nil,.nil]:=by kernel_rfl
theorem MW:fY Tryz.prog 55=some [(0,1),(1,1),(2,3),(5,1),(6,1),(7,1),(8,3),(11,1)]:=by kernel_rfl
theorem zU:b8 Tryz.prog 58=some (false,1):=by kernel_rfl
theorem abH:(Tryz.prog.info? 58).map (·.size)=some 1:=by kernel_rfl
theorem qT:elemOf? Tryz.prog 58=some (164,16,264):=by kernel_rfl
theorem ab0:(Tryz.prog.info? 164).bind (fun i=>i.zero.map (fun z=>z.cells.size))=some 16:=by kernel_rfl
theorem mU:b8 Tryz.prog 60=some (true,5):=by kernel_rfl
theorem qY:(Tryz.prog.info? 60).map (·.size)=some 5:=by kernel_rfl
theorem rY:cS Tryz.prog 60=some [.t (.leaf (.string ⟨#[]⟩)),.nil,.t (.leaf (.bool false)),.t (.leaf (.bool false)),.nil]:=by kernel_rfl
theorem RZ:fY Tryz.prog 60=some [(0,1),(1,1),(2,1),(3,1),(4,1)]:=by kernel_rfl
theorem rI:b8 Tryz.prog 84=some (false,1):=by kernel_rfl
theorem ai7:(Tryz.prog.info? 84).map (·.size)=some 1:=by kernel_rfl
theorem lB:elemOf? Tryz.prog 84=some (87,9,144):=by kernel_rfl
theorem ag2:(Tryz.prog.info? 87).bind (fun i=>i.zero.map (fun z=>z.cells.size))=some 9:=by kernel_rfl
theorem oP:b8 Tryz.prog 85=some (false,1):=by kernel_rfl
theorem aiD:(Tryz.prog.info? 85).map (·.size)=some 1:=by kernel_rfl
theorem mL:elemOf? Tryz.prog 85=some (92,11,184):=by kernel_rfl
theorem ahX:(Tryz.prog.info? 92).bind (fun i=>i.zero.map (fun z=>z.cells.size))=some 11:=by kernel_rfl
theorem gC:b8 Tryz.prog 87=some (true,9):=by kernel_rfl
theorem nH:(Tryz.prog.info? 87).map (·.size)=some 9:=by kernel_rfl
theorem jD:cS Tryz.prog 87=some [.t (.leaf (.int .i64 0)),.t (.leaf (.string ⟨#[]⟩)),.t (.leaf (.string ⟨#[]⟩)),.t (.leaf (.int .i64 0)),.t (.leaf (.int .i64 0)),.t (.leaf (.string ⟨#[]⟩)),.nil,.nil,.nil]:=by kernel_rfl
theorem vA:fY Tryz.prog 87=some [(0,1),(1,1),(2,1),(3,1),(4,3),(7,1),(8,1)]:=by kernel_rfl
theorem af0:b8 Tryz.prog 92=some (true,11):=by kernel_rfl
theorem afY:(Tryz.prog.info? 92).map (·.size)=some 11:=by kernel_rfl
theorem KT:cS Tryz.prog 92=some [.t (.leaf (.string ⟨#[]⟩)),.nil,.t (.leaf (.int .i64 0)),.t (.leaf (.string ⟨#[]⟩)),.t (.leaf (.string ⟨#[]⟩)),.t (.leaf (.int .i64 0)),.t (.leaf (.int .i64 0)),.t (.leaf (.string ⟨#[]⟩)),.nil,.nil,.nil]:=by kernel_rfl
theorem aeZ:fY Tryz.prog 92=some [(0,1),(1,1),(2,9)]:=by kernel_rfl
theorem vN:b8 Tryz.prog 114=some (false,1):=by kernel_rfl
theorem agK:(Tryz.prog.info? 114).map (·.size)=some 1:=by kernel_rfl
theorem tX:elemOf? Tryz.prog 114=some (195,2,40):=by kernel_rfl
theorem aiM:(Tryz.prog.info? 195).bind (fun i=>i.zero.map (fun z=>z.cells.size))=some 2:=by kernel_rfl
theorem lT:b8 Tryz.prog 116=some (true,3):=by kernel_rfl
theorem qU:(Tryz.prog.info? 116).map (·.size)=some 3:=by kernel_rfl
theorem qF:cS Tryz.prog 116=some [.t (.leaf (.string ⟨#[]⟩)),.nil,.nil]:=by kernel_rfl
theorem MN:fY Tryz.prog 116=some [(0,1),(1,1),(2,1)]:=by kernel_rfl
theorem AC:b8 Tryz.prog 126=some (false,1):=by kernel_rfl
theorem agE:(Tryz.prog.info? 126).map (·.size)=some 1:=by kernel_rfl
theorem vU:elemOf? Tryz.prog 126=some (60,5,72):=by kernel_rfl
theorem agH:(Tryz.prog.info? 60).bind (fun i=>i.zero.map (fun z=>z.cells.size))=some 5:=by kernel_rfl
theorem xA:b8 Tryz.prog 127=some (false,1):=by kernel_rfl
theorem agJ:(Tryz.prog.info? 127).map (·.size)=some 1:=by kernel_rfl
theorem t0:elemOf? Tryz.prog 127=some (116,3,64):=by kernel_rfl
theorem agR:(Tryz.prog.info? 116).bind (fun i=>i.zero.map (fun z=>z.cells.size))=some 3:=by kernel_rfl
theorem AA:b8 Tryz.prog 128=some (false,1):=by kernel_rfl
theorem agP:(Tryz.prog.info? 128).map (·.size)=some 1:=by kernel_rfl
theorem wS:elemOf? Tryz.prog 128=some (55,12,192):=by kernel_rfl
theorem agN:(Tryz.prog.info? 55).bind (fun i=>i.zero.map (fun z=>z.cells.size))=some 12:=by kernel_rfl
theorem NV:b8 Tryz.prog 129=some (false,1):=by kernel_rfl
theorem agG:(Tryz.prog.info? 129).map (·.size)=some 1:=by kernel_rfl
theorem GA:elemOf? Tryz.prog 129=some (148,16,280):=by kernel_rfl
theorem agQ:(Tryz.prog.info? 148).bind (fun i=>i.zero.map (fun z=>z.cells.size))=some 16:=by kernel_rfl
theorem nE:b8 Tryz.prog 131=some (true,6):=by kernel_rfl
theorem qV:(Tryz.prog.info? 131).map (·.size)=some 6:=by kernel_rfl
theorem o5:cS Tryz.prog 131=some [.t (.leaf (.string ⟨#[]⟩)),.nil,.nil,.nil,.nil,.nil]:=by kernel_rfl
theorem DP:fY Tryz.prog 131=some [(0,1),(1,1),(2,1),(3,1),(4,1),(5,1)]:=by kernel_rfl
theorem J7:b8 Tryz.prog 146=some (false,1):=by kernel_rfl
theorem agV:(Tryz.prog.info? 146).map (·.size)=some 1:=by kernel_rfl
theorem A6:elemOf? Tryz.prog 146=some (226,4,64):=by kernel_rfl
theorem agO:(Tryz.prog.info? 226).bind (fun i=>i.zero.map (fun z=>z.cells.size))=some 4:=by kernel_rfl
theorem o4:b8 Tryz.prog 148=some (true,16):=by kernel_rfl
theorem wQ:(Tryz.prog.info? 148).map (·.size)=some 16:=by kernel_rfl
theorem zI:cS Tryz.prog 148=some [.t (.leaf (.string ⟨#[]⟩)),.nil,.nil,.nil,.t (.leaf (.int .i64 0)),.t (.leaf (.string ⟨#[]⟩)),.nil,.t (.leaf (.int .i64 0)),.t (.leaf (.string ⟨#[]⟩)),.t (.leaf (.string ⟨#[]⟩)),.t (.leaf (.int .i64 0)),.t (.leaf (.int .i64 0)),.t (.leaf (.string ⟨#[]⟩)),.nil,.nil,.nil]:=by kernel_rfl
theorem WV:fY Tryz.prog 148=some [(0,1),(1,1),(2,1),(3,1),(4,3),(7,9)]:=by kernel_rfl
theorem agC:cS Tryz.prog 151=some [.nil,.t (.leaf (.int .i64 0)),.t (.leaf (.int .i64 0))]:=by kernel_rfl
theorem agW:fY Tryz.prog 151=some [(0,1),(1,1),(2,1)]:=by kernel_rfl
theorem adU:b8 Tryz.prog 161=some (true,11):=by kernel_rfl
theorem aeF:(Tryz.prog.info? 161).map (·.size)=some 11:=by kernel_rfl
theorem DN:cS Tryz.prog 161=some [.t (.leaf (.string ⟨#[]⟩)),.nil,.t (.leaf (.int .i64 0)),.t (.leaf (.string ⟨#[]⟩)),.t (.leaf (.string ⟨#[]⟩)),.t (.leaf (.int .i64 0)),.t (.leaf (.int .i64 0)),.t (.leaf (.string ⟨#[]⟩)),.nil,.nil,.nil]:=by kernel_rfl
theorem aeY:fY Tryz.prog 161=some [(0,1),(1,1),(2,9)]:=by kernel_rfl
theorem JV:b8 Tryz.prog 164=some (true,16):=by kernel_rfl
theorem aeS:(Tryz.prog.info? 164).map (·.size)=some 16:=by kernel_rfl
theorem s6:cS Tryz.prog 164=some [.t (.leaf (.string ⟨#[]⟩)),.nil,.t (.leaf (.int .i64 0)),.t (.leaf (.string ⟨#[]⟩)),.nil,.t (.leaf (.bool false)),.nil,.t (.leaf (.int .i64 0)),.t (.leaf (.string ⟨#[]⟩)),.t (.leaf (.string ⟨#[]⟩)),.t (.leaf (.int .i64 0)),.t (.leaf (.int .i64 0)),.t (.leaf (.string ⟨#[]⟩)),.nil,.nil,.nil]:=by kernel_rfl
theorem aaV:fY Tryz.prog 164=some [(0,1),(1,1),(2,3),(5,1),(6,1),(7,9)]:=by kernel_rfl
theorem T5:cS Tryz.prog 195=some [.t (.leaf (.string ⟨#[]⟩)),.nil]:=by kernel_rfl
theorem aeU:fY Tryz.prog 195=some [(0,1),(1,1)]:=by kernel_rfl
theorem PW:cS Tryz.prog 226=some [.t (.leaf (.string ⟨#[]⟩)),.t (.leaf (.int .i64 0)),.t (.leaf (.string ⟨#[]⟩)),.nil]:=by kernel_rfl
theorem aeX:fY Tryz.prog 226=some [(0,1),(1,3)]:=by kernel_rfl
theorem cN:b8 Tryz.prog 235=some (false,1):=by kernel_rfl
theorem vI:(Tryz.prog.info? 235).map (·.size)=some 1:=by kernel_rfl
theorem bH:elemOf? Tryz.prog 235=some (237,2,40):=by kernel_rfl
theorem oA:(Tryz.prog.info? 237).bind (fun i=>i.zero.map (fun z=>z.cells.size))=some 2:=by kernel_rfl
theorem bP:b8 Tryz.prog 237=some (true,2):=by kernel_rfl
theorem dR:(Tryz.prog.info? 237).map (·.size)=some 2:=by kernel_rfl
theorem b3:cS Tryz.prog 237=some [.t (.leaf (.string ⟨#[]⟩)),.nil]:=by kernel_rfl
theorem lG:fY Tryz.prog 237=some [(0,1),(1,1)]:=by kernel_rfl
theorem ah7:cS Tryz.prog 250=some [.t (.leaf (.string ⟨#[]⟩)),.t (.leaf (.int .i64 0)),.t (.leaf (.int .i64 0)),.t (.leaf (.int .i64 0)),.t (.leaf (.bool false))]:=by kernel_rfl
theorem aiA:fY Tryz.prog 250=some [(0,1),(1,1),(2,1),(3,1),(4,1)]:=by kernel_rfl
theorem gQ:bD Tryz.prog 26 0=some 0:=by kernel_rfl
theorem oQ:bD Tryz.prog 35 0=some 0:=by kernel_rfl
theorem l6:bD Tryz.prog 35 1=some 1:=by kernel_rfl
theorem iT:bD Tryz.prog 35 2=some 2:=by kernel_rfl
theorem ZD:bD Tryz.prog 37 0=some 0:=by kernel_rfl
theorem JH:bD Tryz.prog 37 1=some 1:=by kernel_rfl
theorem iS:bD Tryz.prog 45 0=some 0:=by kernel_rfl
theorem JI:bD Tryz.prog 45 1=some 1:=by kernel_rfl
theorem IU:bD Tryz.prog 55 0=some 0:=by kernel_rfl
theorem pM:bD Tryz.prog 55 1=some 1:=by kernel_rfl
theorem nB:bD Tryz.prog 55 2=some 2:=by kernel_rfl
theorem AU:bD Tryz.prog 55 3=some 5:=by kernel_rfl
theorem adN:bD Tryz.prog 55 4=some 6:=by kernel_rfl
theorem IA:bD Tryz.prog 55 5=some 7:=by kernel_rfl
theorem AJ:bD Tryz.prog 55 6=some 8:=by kernel_rfl
theorem uU:bD Tryz.prog 55 7=some 11:=by kernel_rfl
theorem y7:bD Tryz.prog 60 0=some 0:=by kernel_rfl
theorem vE:bD Tryz.prog 60 1=some 1:=by kernel_rfl
theorem Y4:bD Tryz.prog 60 2=some 2:=by kernel_rfl
theorem ad1:bD Tryz.prog 60 3=some 3:=by kernel_rfl
theorem jB:bD Tryz.prog 60 4=some 4:=by kernel_rfl
theorem pV:bD Tryz.prog 87 0=some 0:=by kernel_rfl
theorem IH:bD Tryz.prog 87 1=some 1:=by kernel_rfl
theorem nN:bD Tryz.prog 87 2=some 2:=by kernel_rfl
theorem BD:bD Tryz.prog 87 3=some 3:=by kernel_rfl
theorem pP:bD Tryz.prog 87 4=some 4:=by kernel_rfl
theorem gW:bD Tryz.prog 87 5=some 7:=by kernel_rfl
theorem fE:bD Tryz.prog 87 6=some 8:=by kernel_rfl
theorem yZ:bD Tryz.prog 92 0=some 0:=by kernel_rfl
theorem yX:bD Tryz.prog 92 1=some 1:=by kernel_rfl
theorem EK:bD Tryz.prog 92 2=some 2:=by kernel_rfl
theorem GW:bD Tryz.prog 116 0=some 0:=by kernel_rfl
theorem GH:bD Tryz.prog 116 1=some 1:=by kernel_rfl
theorem lD:bD Tryz.prog 116 2=some 2:=by kernel_rfl
theorem Q7:bD Tryz.prog 131 0=some 0:=by kernel_rfl
theorem LH:bD Tryz.prog 131 1=some 1:=by kernel_rfl
theorem n4:bD Tryz.prog 131 2=some 2:=by kernel_rfl
theorem lX:bD Tryz.prog 131 3=some 3:=by kernel_rfl
theorem n3:bD Tryz.prog 131 4=some 4:=by kernel_rfl
theorem t1:bD Tryz.prog 131 5=some 5:=by kernel_rfl
theorem LL:bD Tryz.prog 148 0=some 0:=by kernel_rfl
theorem GI:bD Tryz.prog 148 1=some 1:=by kernel_rfl
theorem S9:bD Tryz.prog 148 2=some 2:=by kernel_rfl
theorem sL:bD Tryz.prog 148 3=some 3:=by kernel_rfl
theorem TD:bD Tryz.prog 148 4=some 4:=by kernel_rfl
theorem SG:bD Tryz.prog 148 5=some 7:=by kernel_rfl
theorem abF:bD Tryz.prog 151 0=some 0:=by kernel_rfl
theorem LO:bD Tryz.prog 151 1=some 1:=by kernel_rfl
theorem LJ:bD Tryz.prog 151 2=some 2:=by kernel_rfl
theorem Q3:bD Tryz.prog 161 0=some 0:=by kernel_rfl
theorem BL:bD Tryz.prog 161 1=some 1:=by kernel_rfl
theorem LM:bD Tryz.prog 161 2=some 2:=by kernel_rfl
theorem RI:bD Tryz.prog 164 0=some 0:=by kernel_rfl
theorem B5:bD Tryz.prog 164 1=some 1:=by kernel_rfl
theorem CB:bD Tryz.prog 164 2=some 2:=by kernel_rfl
theorem GJ:bD Tryz.prog 164 3=some 5:=by kernel_rfl
theorem vR:bD Tryz.prog 164 4=some 6:=by kernel_rfl
theorem BY:bD Tryz.prog 164 5=some 7:=by kernel_rfl
theorem LU:bD Tryz.prog 195 0=some 0:=by kernel_rfl
theorem G5:bD Tryz.prog 195 1=some 1:=by kernel_rfl
theorem aa3:bD Tryz.prog 226 0=some 0:=by kernel_rfl
theorem abD:bD Tryz.prog 226 1=some 1:=by kernel_rfl
theorem eS:bD Tryz.prog 237 0=some 0:=by kernel_rfl
theorem bF:bD Tryz.prog 237 1=some 1:=by kernel_rfl
theorem kH:bD Tryz.prog 250 0=some 0:=by kernel_rfl
theorem eT:bD Tryz.prog 250 1=some 1:=by kernel_rfl
theorem F9:bD Tryz.prog 250 2=some 2:=by kernel_rfl
theorem R3:bD Tryz.prog 250 3=some 3:=by kernel_rfl
theorem CE:bD Tryz.prog 250 4=some 4:=by kernel_rfl
theorem qZ:qB Tryz.prog 237 0=some (0,false,1):=by kernel_rfl
theorem Q4:qB Tryz.prog 237 1=some (1,false,1):=by kernel_rfl
theorem aaU:Tryz.prog.follows .mixedOrders=true:=by kernel_rfl
end Go.Proofs.YtpioomclpaiomaaGreat

namespace Go.Proofs.YtpioomclpaiomaaGreat
open Go.RowKit Go.Proofs
set_option linter.unusedSimpArgs false
set_option linter.unusedVariables false
set_option maxRecDepth 100000 in
set_option maxHeartbeats 4000000 in
theorem afR(d:DS):dG Tryz.prog 146 [.ptr 0 0] (d.box 151) (fun r t=>r= .t (.leaf (.int .i64 d.byte))∧t=d.next.box 151):=by
 refine dG.intro Tryz.func146 rfl (by first|decide|(simp;done)|(simp;decide)) ?_;intro C hC
 refine aO.fact (cB 0 0 rfl rfl rfl (fV d.code)) (fun hl0=>?_)
 refine aO.seq ?_;refine aO.region_lit ?_;refine AL.cons rfl (aW.move (.inr rfl) rfl rfl) ?_;refine AL.nil ?_;refine aO.seq ?_;refine aO.region_lit ?_;refine AL.cons rfl (aW.move (.inl rfl) rfl rfl) ?_;refine AL.cons rfl (aW.move (.inl rfl) rfl rfl) ?_;refine AL.cons rfl (aW.nilPtr rfl rfl rfl) ?_;refine AL.cons rfl (aW.fieldPtr (k:=0) (d:=0) (e:=2) rfl rfl rfl LJ) ?_;refine AL.cons rfl (aW.loadPtr1 rfl rfl rfl rfl iG rfl) ?_;refine AL.cons rfl (aW.mulW rfl rfl rfl rfl) ?_;refine AL.cons rfl (aW.addW rfl rfl rfl rfl) ?_;refine AL.cons rfl (aW.nilPtr rfl rfl rfl) ?_;refine AL.cons rfl (aW.fieldPtr (k:=0) (d:=0) (e:=2) rfl rfl rfl LJ) ?_;refine AL.cons rfl (aW.storePtr (cs:= [.t (.leaf (.int .i64 (aQ ((aQ (d.h*6364136223846793005))+1442695040888963407))))]) (ds:= [.t (.row 1 (cL (d.code))),.t (.leaf (.int .i64 (((d.p:Nat):Int)))),.t (.leaf (.int .i64 (aQ ((aQ (d.h*6364136223846793005))+1442695040888963407))))]) rfl rfl rfl rfl rfl rfl rfl sz3 (Nat.le_of_ble_eq_true rfl) rfl) ?_;refine AL.nil ?_;refine aO.seq ?_;refine aO.drawnL ⟨_,_,fun _ _=>(⟨[some ⟨151,[.t (.row 1 (cL (d.code))),.t (.leaf (.int .i64 (((d.p:Nat):Int)))),.t (.leaf (.int .i64 (aQ ((aQ (d.h*6364136223846793005))+1442695040888963407))))]⟩],[]⟩:cU),fun q'=>([some (.ptr 0 0),some (.ptr 0 0),some (.ptr 0 2),some (.t (.leaf (.int .i64 (aQ ((aQ (d.h*6364136223846793005))+1442695040888963407))))),some (.t (.leaf (.int .i64 (qW (aQ ((aQ (d.h*6364136223846793005))+1442695040888963407)) 33)))),some (.ptr 0 0),some (.ptr 0 0),some (.ptr 0 2),some (.t (.leaf (.int .i64 (aQ ((aQ (d.h*6364136223846793005))+1442695040888963407))))),some (.t (.leaf (.int .i64 (qW (aQ ((aQ (d.h*6364136223846793005))+1442695040888963407)) 45)))),some (.t (.leaf (.int .i64 (N0 (qW (aQ ((aQ (d.h*6364136223846793005))+1442695040888963407)) 33) (qW (aQ ((aQ (d.h*6364136223846793005))+1442695040888963407)) 45))))),some (.t (.leaf (.int .i64 (yB (N0 (qW (aQ ((aQ (d.h*6364136223846793005))+1442695040888963407)) 33) (qW (aQ ((aQ (d.h*6364136223846793005))+1442695040888963407)) 45)) 255)))),some (.t (.leaf (.int .i64 (yB (N0 (qW (aQ ((aQ (d.h*6364136223846793005))+1442695040888963407)) 33) (qW (aQ ((aQ (d.h*6364136223846793005))+1442695040888963407)) 45)) 255))))]:List (Option PV)).getD q' none,fun q'=>([.q 0 0,.q 0 0,.q 0 0,.q 0 0,.q 0 0,.q 0 0,.q 0 0,.q 0 0,.q 0 0,.q 0 0,.q 0 0,.q 0 0,.q 0 0]:List DK).getD q' (.q 0 0),[],none,fun q'=>([[(0,none)],[(13,some 0)],[(14,some 1)],[(15,some 2)],[(16,some 3)],[(0,none)],[(18,some 5)],[(19,some 6)],[(20,some 7)],[(21,some 8)],[(17,some 4),(22,some 9)],[(23,some 10)],[(24,some 11)]]:List (List (Nat×Option Nat))).getD q' []⟩ rfl aaU (by kernel_rfl) rfl rfl ⟨?_,?_,?_,?_,?_,?_,?_,?_,?_,?_,?_,?_,?_,trivial⟩ rfl ?_
 ·exact cY.step.q1 0 rfl rfl fun s' bb hs hl=>⟨_,rfl,aW.move (.inl rfl) rfl (hl 0 none _ (.head _) rfl)⟩
 ·exact cY.step.q1 0 rfl rfl fun s' bb hs hl=>⟨_,rfl,aW.nilPtr rfl rfl (hl 13 (some 0) _ (.head _) rfl)⟩
 ·exact cY.step.q1 0 rfl rfl fun s' bb hs hl=>⟨_,rfl,aW.fieldPtr (k:=0) (d:=0) (e:=2) rfl rfl (hl 14 (some 1) _ (.head _) rfl) LJ⟩
 ·exact cY.step.q1 0 rfl rfl fun s' bb hs hl=>⟨_,rfl,aW.loadPtr1 rfl rfl (hl 15 (some 2) _ (.head _) rfl) (by rw [hs];rfl) iG rfl⟩
 ·exact cY.step.q1 0 rfl rfl fun s' bb hs hl=>⟨_,rfl,aW.shrI (a:=aQ ((aQ (d.h*6364136223846793005))+1442695040888963407)) (b:=33) rfl rfl (hl 16 (some 3) _ (.head _) rfl) rfl (by decide) (LT (BJ _)).1 (LT (BJ _)).2⟩
 ·exact cY.step.q1 0 rfl rfl fun s' bb hs hl=>⟨_,rfl,aW.move (.inl rfl) rfl (hl 0 none _ (.head _) rfl)⟩
 ·exact cY.step.q1 0 rfl rfl fun s' bb hs hl=>⟨_,rfl,aW.nilPtr rfl rfl (hl 18 (some 5) _ (.head _) rfl)⟩
 ·exact cY.step.q1 0 rfl rfl fun s' bb hs hl=>⟨_,rfl,aW.fieldPtr (k:=0) (d:=0) (e:=2) rfl rfl (hl 19 (some 6) _ (.head _) rfl) LJ⟩
 ·exact cY.step.q1 0 rfl rfl fun s' bb hs hl=>⟨_,rfl,aW.loadPtr1 rfl rfl (hl 20 (some 7) _ (.head _) rfl) (by rw [hs];rfl) iG rfl⟩
 ·exact cY.step.q1 0 rfl rfl fun s' bb hs hl=>⟨_,rfl,aW.shrI (a:=aQ ((aQ (d.h*6364136223846793005))+1442695040888963407)) (b:=45) rfl rfl (hl 21 (some 8) _ (.head _) rfl) rfl (by decide) (LT (BJ _)).1 (LT (BJ _)).2⟩
 ·exact cY.step.q1 0 rfl rfl fun s' bb hs hl=>⟨_,rfl,aW.xorI rfl rfl (hl 17 (some 4) _ (.head _) rfl) (hl 22 (some 9) _ (.tail _ (.head _)) rfl)⟩
 ·exact cY.step.q1 0 rfl rfl fun s' bb hs hl=>⟨_,rfl,aW.andI rfl rfl (hl 23 (some 10) _ (.head _) rfl) rfl⟩
 ·exact cY.step.q1 0 rfl rfl fun s' bb hs hl=>⟨_,rfl,aW.move (.inr rfl) rfl (hl 24 (some 11) _ (.head _) rfl)⟩
 refine aO.seq ?_;refine aO.seq ?_;refine aO.drawnL ⟨_,_,fun _ _=>(⟨[some ⟨151,[.t (.row 1 (cL (d.code))),.t (.leaf (.int .i64 (((d.p:Nat):Int)))),.t (.leaf (.int .i64 (aQ ((aQ (d.h*6364136223846793005))+1442695040888963407))))]⟩],[]⟩:cU),fun q'=>([some (.ptr 0 0),some (.ptr 0 0),some (.ptr 0 1),some (.t (.leaf (.int .i64 (((d.p:Nat):Int))))),some (.ptr 0 0),some (.ptr 0 0),some (.ptr 0 0),some (.t (.row 1 (cL (d.code)))),some (.t (.leaf (.int .i64 (((d.code.length:Nat):Int))))),some (.t (.leaf (.bool (decide ((((d.p:Nat):Int):Int)<((d.code.length:Nat):Int))))))]:List (Option PV)).getD q' none,fun q'=>([.q 0 0,.q 0 0,.q 0 0,.q 0 0,.q 0 0,.q 0 0,.q 0 0,.q 0 0,.q 0 0,.q 0 0]:List DK).getD q' (.q 0 0),[],none,fun q'=>([[(0,none)],[(25,some 0)],[(26,some 1)],[(27,some 2)],[(0,none)],[(29,some 4)],[(30,some 5)],[(31,some 6)],[(32,some 7)],[(28,some 3),(33,some 8)]]:List (List (Nat×Option Nat))).getD q' []⟩ rfl aaU (by kernel_rfl) rfl rfl ⟨?_,?_,?_,?_,?_,?_,?_,?_,?_,?_,trivial⟩ rfl ?_
 ·exact cY.step.q1 0 rfl rfl fun s' bb hs hl=>⟨_,rfl,aW.move (.inl rfl) rfl (hl 0 none _ (.head _) rfl)⟩
 ·exact cY.step.q1 0 rfl rfl fun s' bb hs hl=>⟨_,rfl,aW.nilPtr rfl rfl (hl 25 (some 0) _ (.head _) rfl)⟩
 ·exact cY.step.q1 0 rfl rfl fun s' bb hs hl=>⟨_,rfl,aW.fieldPtr (k:=0) (d:=0) (e:=1) rfl rfl (hl 26 (some 1) _ (.head _) rfl) LO⟩
 ·exact cY.step.q1 0 rfl rfl fun s' bb hs hl=>⟨_,rfl,aW.loadPtr1 rfl rfl (hl 27 (some 2) _ (.head _) rfl) (by rw [hs];rfl) iG rfl⟩
 ·exact cY.step.q1 0 rfl rfl fun s' bb hs hl=>⟨_,rfl,aW.move (.inl rfl) rfl (hl 0 none _ (.head _) rfl)⟩
 ·exact cY.step.q1 0 rfl rfl fun s' bb hs hl=>⟨_,rfl,aW.nilPtr rfl rfl (hl 29 (some 4) _ (.head _) rfl)⟩
 ·exact cY.step.q1 0 rfl rfl fun s' bb hs hl=>⟨_,rfl,aW.fieldPtr (k:=0) (d:=0) (e:=0) rfl rfl (hl 30 (some 5) _ (.head _) rfl) abF⟩
 ·exact cY.step.q1 0 rfl rfl fun s' bb hs hl=>⟨_,rfl,aW.loadPtr1 rfl rfl (hl 31 (some 6) _ (.head _) rfl) (by rw [hs];rfl) aiC rfl⟩
 ·exact cY.step.q1 0 rfl rfl fun s' bb hs hl=>⟨_,rfl,aW.lenN rfl rfl (hl 32 (some 7) _ (.head _) rfl) rfl U7 (fV _)⟩
 ·exact cY.step.q1 0 rfl rfl fun s' bb hs hl=>⟨_,rfl,aW.lss rfl rfl (hl 28 (some 3) _ (.head _) rfl) (hl 33 (some 8) _ (.tail _ (.head _)) rfl)⟩
 refine aO.cond rfl (fun h1=>?_) (fun h1=>?_)
 ·have h1b:=h1
  try simp only [Bool.and_eq_true,Bool.or_eq_true,Bool.and_eq_false_iff,Bool.or_eq_false_iff,decide_eq_true_eq,decide_eq_false_iff_not,Bool.not_eq_true',Bool.not_eq_false',Bool.not_eq_eq_eq_not,Bool.not_true,Bool.not_false,ge_iff_le,gt_iff_lt,Int.not_lt,Int.not_le] at h1b
  have h1n:d.p<d.code.length:=by omega
  refine aO.seq ?_;refine aO.drawnL ⟨_,_,fun _ _=>(⟨[some ⟨151,[.t (.row 1 (cL (d.code))),.t (.leaf (.int .i64 (((d.p:Nat):Int)))),.t (.leaf (.int .i64 (aQ ((aQ (d.h*6364136223846793005))+1442695040888963407))))]⟩],[]⟩:cU),fun q'=>([some (.t (.leaf (.int .i64 (yB (N0 (qW (aQ ((aQ (d.h*6364136223846793005))+1442695040888963407)) 33) (qW (aQ ((aQ (d.h*6364136223846793005))+1442695040888963407)) 45)) 255)))),some (.ptr 0 0),some (.ptr 0 0),some (.ptr 0 0),some (.t (.row 1 (cL (d.code)))),some (.ptr 0 0),some (.ptr 0 0),some (.ptr 0 1),some (.t (.leaf (.int .i64 (((d.p:Nat):Int))))),some (.eptr ([.leaf (.int .u8 ((d.code[d.p]).toNat:Int))])),some (.t (.leaf (.int .u8 (((d.code[d.p]).toNat:Int))))),some (.t (.leaf (.int .i64 (((d.code[d.p]).toNat:Int))))),some (.t (.leaf (.int .i64 (aQ ((yB (N0 (qW (aQ ((aQ (d.h*6364136223846793005))+1442695040888963407)) 33) (qW (aQ ((aQ (d.h*6364136223846793005))+1442695040888963407)) 45)) 255)+((d.code[d.p]).toNat:Int)))))),some (.t (.leaf (.int .i64 (yB (aQ ((yB (N0 (qW (aQ ((aQ (d.h*6364136223846793005))+1442695040888963407)) 33) (qW (aQ ((aQ (d.h*6364136223846793005))+1442695040888963407)) 45)) 255)+((d.code[d.p]).toNat:Int))) 255)))),some (.t (.leaf (.int .i64 (yB (aQ ((yB (N0 (qW (aQ ((aQ (d.h*6364136223846793005))+1442695040888963407)) 33) (qW (aQ ((aQ (d.h*6364136223846793005))+1442695040888963407)) 45)) 255)+((d.code[d.p]).toNat:Int))) 255))))]:List (Option PV)).getD q' none,fun q'=>([.q 0 0,.q 0 0,.q 0 0,.q 0 0,.q 0 0,.q 0 0,.q 0 0,.q 0 0,.q 0 0,.q 0 0,.q 0 0,.q 0 0,.q 0 0,.q 0 0,.q 0 0]:List DK).getD q' (.q 0 0),[],none,fun q'=>([[(3,none)],[(0,none)],[(36,some 1)],[(37,some 2)],[(38,some 3)],[(0,none)],[(40,some 5)],[(41,some 6)],[(42,some 7)],[(39,some 4),(43,some 8)],[(44,some 9)],[(45,some 10)],[(35,some 0),(46,some 11)],[(47,some 12)],[(48,some 13)]]:List (List (Nat×Option Nat))).getD q' []⟩ rfl aaU (by kernel_rfl) rfl rfl ⟨?_,?_,?_,?_,?_,?_,?_,?_,?_,?_,?_,?_,?_,?_,?_,trivial⟩ rfl ?_
  ·exact cY.step.q1 0 rfl rfl fun s' bb hs hl=>⟨_,rfl,aW.move (.inl rfl) rfl (hl 3 none _ (.head _) rfl)⟩
  ·exact cY.step.q1 0 rfl rfl fun s' bb hs hl=>⟨_,rfl,aW.move (.inl rfl) rfl (hl 0 none _ (.head _) rfl)⟩
  ·exact cY.step.q1 0 rfl rfl fun s' bb hs hl=>⟨_,rfl,aW.nilPtr rfl rfl (hl 36 (some 1) _ (.head _) rfl)⟩
  ·exact cY.step.q1 0 rfl rfl fun s' bb hs hl=>⟨_,rfl,aW.fieldPtr (k:=0) (d:=0) (e:=0) rfl rfl (hl 37 (some 2) _ (.head _) rfl) abF⟩
  ·exact cY.step.q1 0 rfl rfl fun s' bb hs hl=>⟨_,rfl,aW.loadPtr1 rfl rfl (hl 38 (some 3) _ (.head _) rfl) (by rw [hs];rfl) aiC rfl⟩
  ·exact cY.step.q1 0 rfl rfl fun s' bb hs hl=>⟨_,rfl,aW.move (.inl rfl) rfl (hl 0 none _ (.head _) rfl)⟩
  ·exact cY.step.q1 0 rfl rfl fun s' bb hs hl=>⟨_,rfl,aW.nilPtr rfl rfl (hl 40 (some 5) _ (.head _) rfl)⟩
  ·exact cY.step.q1 0 rfl rfl fun s' bb hs hl=>⟨_,rfl,aW.fieldPtr (k:=0) (d:=0) (e:=1) rfl rfl (hl 41 (some 6) _ (.head _) rfl) LO⟩
  ·exact cY.step.q1 0 rfl rfl fun s' bb hs hl=>⟨_,rfl,aW.loadPtr1 rfl rfl (hl 42 (some 7) _ (.head _) rfl) (by rw [hs];rfl) iG rfl⟩
  ·exact cY.step.q1 0 rfl rfl fun s' bb hs hl=>⟨_,rfl,aW.index (k:=d.p) rfl rfl (hl 39 (some 4) _ (.head _) rfl) rfl (hl 43 (some 8) _ (.tail _ (.head _)) rfl) (uQ h1n) U7⟩
  ·exact cY.step.q1 0 rfl rfl fun s' bb hs hl=>⟨_,rfl,aW.loadEptr1 (d:= .leaf (.int .u8 (((d.code[d.p]).toNat:Int)))) rfl rfl (hl 44 (some 9) _ (.head _) rfl) sh5 rfl⟩
  ·exact cY.step.q1 0 rfl rfl fun s' bb hs hl=>⟨_,rfl,aW.convI rfl rfl (hl 45 (some 10) _ (.head _) rfl) ⟨_,Tryz.underlying5⟩ Tryz.underlying3 (by first|omega|(have:=UInt8.toNat_lt (d.code[d.p]);omega)) (by first|omega|(have:=UInt8.toNat_lt (d.code[d.p]);omega))⟩
  ·exact cY.step.q1 0 rfl rfl fun s' bb hs hl=>⟨_,rfl,aW.addW rfl rfl (hl 35 (some 0) _ (.head _) rfl) (hl 46 (some 11) _ (.tail _ (.head _)) rfl)⟩
  ·exact cY.step.q1 0 rfl rfl fun s' bb hs hl=>⟨_,rfl,aW.andI rfl rfl (hl 47 (some 12) _ (.head _) rfl) rfl⟩
  ·exact cY.step.q1 0 rfl rfl fun s' bb hs hl=>⟨_,rfl,aW.move (.inr rfl) rfl (hl 48 (some 13) _ (.head _) rfl)⟩
  refine aO.region_lit ?_;refine AL.cons rfl (aW.move (.inl rfl) rfl rfl) ?_;refine AL.cons rfl (aW.move (.inl rfl) rfl rfl) ?_;refine AL.cons rfl (aW.nilPtr rfl rfl rfl) ?_;refine AL.cons rfl (aW.fieldPtr (k:=0) (d:=0) (e:=1) rfl rfl rfl LO) ?_;refine AL.cons rfl (aW.loadPtr1 rfl rfl rfl rfl iG rfl) ?_;refine AL.cons rfl (aW.addI rfl rfl rfl rfl (c:=((d.p+1:Nat):Int)) (by omega) (by omega)) ?_;refine AL.cons rfl (aW.nilPtr rfl rfl rfl) ?_;refine AL.cons rfl (aW.fieldPtr (k:=0) (d:=0) (e:=1) rfl rfl rfl LO) ?_;refine AL.cons rfl (aW.storePtr (cs:= [.t (.leaf (.int .i64 (((d.p+1:Nat):Int))))]) (ds:= [.t (.row 1 (cL (d.code))),.t (.leaf (.int .i64 (((d.p+1:Nat):Int)))),.t (.leaf (.int .i64 (aQ ((aQ (d.h*6364136223846793005))+1442695040888963407))))]) rfl rfl rfl rfl rfl rfl rfl sz3 (Nat.le_of_ble_eq_true rfl) rfl) ?_;refine AL.nil ?_;refine aO.seq ?_;refine aO.region_lit ?_;refine AL.cons rfl (aW.move (.inl rfl) rfl rfl) ?_;refine AL.cons rfl (aW.move (.inr rfl) rfl rfl) ?_;refine AL.nil ?_;refine aO.ret ?_;exact uW.mk (ps:= [_]) (.inr rfl) ⟨rfl,trivial⟩ rfl (mQ.mk' (st':=⟨[some ⟨151,[.t (.row 1 (cL (d.code))),.t (.leaf (.int .i64 (((d.p+1:Nat):Int)))),.t (.leaf (.int .i64 (aQ ((aQ (d.h*6364136223846793005))+1442695040888963407))))]⟩],[]⟩) ⟨⟨rfl,mD,rfl⟩,trivial⟩ rfl) (rJ hC ⟨_,rfl⟩) (q:= .t (.leaf (.int .i64 (yB (aQ ((yB (N0 (qW (aQ ((aQ (d.h*6364136223846793005))+1442695040888963407)) 33) (qW (aQ ((aQ (d.h*6364136223846793005))+1442695040888963407)) 45)) 255)+((d.code[d.p]).toNat:Int))) 255)))) (.refl _) rfl ⟨by first|(simp_all [DS.byte,A8];done)|(have hq: ¬d.p<d.code.length:=(by omega);simp [DS.byte,A8,hq]),by first|(simp_all [DS.box,DS.cells,DS.next,A8];done)|(have hq: ¬d.p<d.code.length:=(by omega);simp [DS.box,DS.cells,DS.next,A8,hq])⟩
 ·have h1b:=h1
  try simp only [Bool.and_eq_true,Bool.or_eq_true,Bool.and_eq_false_iff,Bool.or_eq_false_iff,decide_eq_true_eq,decide_eq_false_iff_not,Bool.not_eq_true',Bool.not_eq_false',Bool.not_eq_eq_eq_not,Bool.not_true,Bool.not_false,ge_iff_le,gt_iff_lt,Int.not_lt,Int.not_le] at h1b
  have h1n:d.p≥d.code.length:=by omega
  refine aO.skip ?_;refine aO.seq ?_;refine aO.region_lit ?_;refine AL.cons rfl (aW.move (.inl rfl) rfl rfl) ?_;refine AL.cons rfl (aW.move (.inr rfl) rfl rfl) ?_;refine AL.nil ?_;refine aO.ret ?_;exact uW.mk (ps:= [_]) (.inr rfl) ⟨rfl,trivial⟩ rfl (mQ.mk' (st':=⟨[some ⟨151,[.t (.row 1 (cL (d.code))),.t (.leaf (.int .i64 (((d.p:Nat):Int)))),.t (.leaf (.int .i64 (aQ ((aQ (d.h*6364136223846793005))+1442695040888963407))))]⟩],[]⟩) ⟨⟨rfl,mD,rfl⟩,trivial⟩ rfl) (rJ hC ⟨_,rfl⟩) (q:= .t (.leaf (.int .i64 (yB (N0 (qW (aQ ((aQ (d.h*6364136223846793005))+1442695040888963407)) 33) (qW (aQ ((aQ (d.h*6364136223846793005))+1442695040888963407)) 45)) 255)))) (.refl _) rfl ⟨by first|(simp_all [DS.byte,A8];done)|(have hq: ¬d.p<d.code.length:=(by omega);simp [DS.byte,A8,hq]),by first|(simp_all [DS.box,DS.cells,DS.next,A8];done)|(have hq: ¬d.p<d.code.length:=(by omega);simp [DS.box,DS.cells,DS.next,A8,hq])⟩
theorem A7(d:DS):dG Tryz.prog 146 [.ptr 0 0] (d.box 151) (fun r t=>r= .t (.leaf (.int .i64 ((d.byteN:Nat):Int)))∧t=d.next.box 151):=by rw [d.byteN_eq];exact afR d
set_option maxRecDepth 100000 in
set_option maxHeartbeats 4000000 in
theorem fR(d:DS)(n:Nat):dG Tryz.prog 103 [.ptr 0 0,.t (.leaf (.int .i64 (((n:Nat):Int))))] (d.box 151) (fun r t=>r= .t (.leaf (.int .i64 (((d.below n:Nat):Int))))∧t=(d.after n).box 151):=by
 refine dG.intro Tryz.func103 rfl (by first|decide|(simp;done)|(simp;decide)) ?_;intro C hC
 refine aO.fact (cB 0 0 rfl rfl rfl (fV d.code)) (fun hl0=>?_)
 have hb0:=d.byteN_le
 have hb1:=d.next.byteN_le
 have hb2:=d.next.next.byteN_le
 have hb3:=d.next.next.next.byteN_le
 refine aO.seq ?_;refine aO.region_lit ?_;refine AL.cons rfl (aW.move (.inr rfl) rfl rfl) ?_;refine AL.nil ?_;refine aO.seq ?_;refine aO.seq ?_;refine aO.region_lit ?_;refine AL.cons rfl (aW.move (.inl rfl) rfl rfl) ?_;refine AL.cons rfl (aW.leq rfl rfl rfl rfl) ?_;refine AL.nil ?_;refine aO.cond rfl (fun h1=>?_) (fun h1=>?_)
 ·have h1b:=h1
  try simp only [Bool.and_eq_true,Bool.or_eq_true,Bool.and_eq_false_iff,Bool.or_eq_false_iff,decide_eq_true_eq,decide_eq_false_iff_not,Bool.not_eq_true',Bool.not_eq_false',Bool.not_eq_eq_eq_not,Bool.not_true,Bool.not_false,ge_iff_le,gt_iff_lt,Int.not_lt,Int.not_le] at h1b
  refine aO.seq ?_;refine aO.region_lit ?_;refine AL.cons rfl (aW.move (.inr rfl) rfl rfl) ?_;refine AL.nil ?_;refine aO.ret ?_;exact uW.mk (ps:= [_]) (.inr rfl) ⟨rfl,trivial⟩ rfl (mQ.mk' (st':=⟨[some ⟨151,[.t (.row 1 (cL (d.code))),.t (.leaf (.int .i64 (((d.p:Nat):Int)))),.t (.leaf (.int .i64 (d.h)))]⟩],[]⟩) ⟨⟨rfl,mD,rfl⟩,trivial⟩ rfl) (rJ hC ⟨_,rfl⟩) (q:= .t (.leaf (.int .i64 (0)))) mD rfl ⟨by first|(have hq:n=0:=(by omega);simp [DS.below,hq];done)|(have hq: ¬n=0:=(by omega);have hr:n≤256:=(by omega);simp [DS.below,hq,hr];done)|(have hq: ¬n=0:=(by omega);have hr: ¬n≤256:=(by omega);simp [DS.below,hq,hr]),by first|(have hq:n=0:=(by omega);simp [DS.after,DS.box,DS.cells,hq];done)|(have hq: ¬n=0:=(by omega);have hr:n≤256:=(by omega);simp [DS.after,DS.box,DS.cells,hq,hr];done)|(have hq: ¬n=0:=(by omega);have hr: ¬n≤256:=(by omega);simp [DS.after,DS.box,DS.cells,hq,hr])⟩
 ·have h1b:=h1
  try simp only [Bool.and_eq_true,Bool.or_eq_true,Bool.and_eq_false_iff,Bool.or_eq_false_iff,decide_eq_true_eq,decide_eq_false_iff_not,Bool.not_eq_true',Bool.not_eq_false',Bool.not_eq_eq_eq_not,Bool.not_true,Bool.not_false,ge_iff_le,gt_iff_lt,Int.not_lt,Int.not_le] at h1b
  refine aO.skip ?_;refine aO.seq ?_;refine aO.seq ?_;refine aO.region_lit ?_;refine AL.cons rfl (aW.move (.inl rfl) rfl rfl) ?_;refine AL.cons rfl (aW.leq rfl rfl rfl rfl) ?_;refine AL.nil ?_;refine aO.cond rfl (fun h2=>?_) (fun h2=>?_)
  ·have h2b:=h2
   try simp only [Bool.and_eq_true,Bool.or_eq_true,Bool.and_eq_false_iff,Bool.or_eq_false_iff,decide_eq_true_eq,decide_eq_false_iff_not,Bool.not_eq_true',Bool.not_eq_false',Bool.not_eq_eq_eq_not,Bool.not_true,Bool.not_false,ge_iff_le,gt_iff_lt,Int.not_lt,Int.not_le] at h2b
   refine aO.seq ?_;refine aO.region_lit ?_;refine AL.cons rfl (aW.move (.inl rfl) rfl rfl) ?_;refine AL.cons rfl (aW.callPE (pre:=⟨[some ⟨151,[.t (.row 1 (cL (d.code))),.t (.leaf (.int .i64 (((d.p:Nat):Int)))),.t (.leaf (.int .i64 (d.h)))]⟩],[]⟩) (st':=⟨[some ⟨151,[.t (.row 1 (cL (d.next.code))),.t (.leaf (.int .i64 (((d.next.p:Nat):Int)))),.t (.leaf (.int .i64 (d.next.h)))]⟩],[]⟩) (ps:= [_]) (qs:= [.ptr 0 0]) [0] [] rfl rfl Tryz.func146 (by kernel_rfl) rfl rfl rfl (by(try rw [hs]);exact⟨rfl,rfl,by decide,by decide,fun k h=>by rcases k with _|k<;>simp at h;exact⟨_,rfl⟩,fun k x h=>by rcases k with _|k<;>simp at h;subst h;exact⟨_,rfl,rfl,mD,rfl⟩,fun r row h=>by simp at h⟩) mD rfl rfl rfl (A7 d)) ?_;refine AL.cons rfl (aW.move (.inl rfl) rfl rfl) ?_;refine AL.cons rfl (aW.remN (a:=d.byteN) (b:=n) rfl rfl rfl rfl (by omega) (by omega)) ?_;refine AL.cons rfl (aW.move (.inr rfl) rfl rfl) ?_;refine AL.nil ?_;refine aO.ret ?_;exact uW.mk (ps:= [_]) (.inr rfl) ⟨rfl,trivial⟩ rfl (mQ.mk' (st':=⟨[some ⟨151,[.t (.row 1 (cL (d.next.code))),.t (.leaf (.int .i64 (((d.next.p:Nat):Int)))),.t (.leaf (.int .i64 (d.next.h)))]⟩],[]⟩) ⟨⟨rfl,mD,rfl⟩,trivial⟩ rfl) (rJ hC ⟨_,rfl⟩) (q:= .t (.leaf (.int .i64 (((d.byteN%n:Nat):Int))))) mD rfl ⟨by first|(have hq:n=0:=(by omega);simp [DS.below,hq];done)|(have hq: ¬n=0:=(by omega);have hr:n≤256:=(by omega);simp [DS.below,hq,hr];done)|(have hq: ¬n=0:=(by omega);have hr: ¬n≤256:=(by omega);simp [DS.below,hq,hr]),by first|(have hq:n=0:=(by omega);simp [DS.after,DS.box,DS.cells,hq];done)|(have hq: ¬n=0:=(by omega);have hr:n≤256:=(by omega);simp [DS.after,DS.box,DS.cells,hq,hr];done)|(have hq: ¬n=0:=(by omega);have hr: ¬n≤256:=(by omega);simp [DS.after,DS.box,DS.cells,hq,hr])⟩
  ·have h2b:=h2
   try simp only [Bool.and_eq_true,Bool.or_eq_true,Bool.and_eq_false_iff,Bool.or_eq_false_iff,decide_eq_true_eq,decide_eq_false_iff_not,Bool.not_eq_true',Bool.not_eq_false',Bool.not_eq_eq_eq_not,Bool.not_true,Bool.not_false,ge_iff_le,gt_iff_lt,Int.not_lt,Int.not_le] at h2b
   refine aO.skip ?_;refine aO.seq ?_;refine aO.region_lit ?_;refine AL.cons rfl (aW.move (.inl rfl) rfl rfl) ?_;refine AL.cons rfl (aW.callPE (pre:=⟨[some ⟨151,[.t (.row 1 (cL (d.code))),.t (.leaf (.int .i64 (((d.p:Nat):Int)))),.t (.leaf (.int .i64 (d.h)))]⟩],[]⟩) (st':=⟨[some ⟨151,[.t (.row 1 (cL (d.next.code))),.t (.leaf (.int .i64 (((d.next.p:Nat):Int)))),.t (.leaf (.int .i64 (d.next.h)))]⟩],[]⟩) (ps:= [_]) (qs:= [.ptr 0 0]) [0] [] rfl rfl Tryz.func146 (by kernel_rfl) rfl rfl rfl (by(try rw [hs]);exact⟨rfl,rfl,by decide,by decide,fun k h=>by rcases k with _|k<;>simp at h;exact⟨_,rfl⟩,fun k x h=>by rcases k with _|k<;>simp at h;subst h;exact⟨_,rfl,rfl,mD,rfl⟩,fun r row h=>by simp at h⟩) mD rfl rfl rfl (A7 d)) ?_;refine AL.cons rfl (aW.move (.inr rfl) rfl rfl) ?_;refine AL.nil ?_;refine aO.seq ?_;refine aO.region_lit ?_;refine AL.cons rfl (aW.move (.inl rfl) rfl rfl) ?_;refine AL.cons rfl (aW.callPE (pre:=⟨[some ⟨151,[.t (.row 1 (cL (d.next.code))),.t (.leaf (.int .i64 (((d.next.p:Nat):Int)))),.t (.leaf (.int .i64 (d.next.h)))]⟩],[]⟩) (st':=⟨[some ⟨151,[.t (.row 1 (cL (d.next.next.code))),.t (.leaf (.int .i64 (((d.next.next.p:Nat):Int)))),.t (.leaf (.int .i64 (d.next.next.h)))]⟩],[]⟩) (ps:= [_]) (qs:= [.ptr 0 0]) [0] [] rfl rfl Tryz.func146 (by kernel_rfl) rfl rfl rfl (by(try rw [hs]);exact⟨rfl,rfl,by decide,by decide,fun k h=>by rcases k with _|k<;>simp at h;exact⟨_,rfl⟩,fun k x h=>by rcases k with _|k<;>simp at h;subst h;exact⟨_,rfl,rfl,mD,rfl⟩,fun r row h=>by simp at h⟩) mD rfl rfl rfl (A7 d.next)) ?_;refine AL.cons rfl (aW.move (.inr rfl) rfl rfl) ?_;refine AL.nil ?_;refine aO.seq ?_;refine aO.region_lit ?_;refine AL.cons rfl (aW.move (.inl rfl) rfl rfl) ?_;refine AL.cons rfl (aW.callPE (pre:=⟨[some ⟨151,[.t (.row 1 (cL (d.next.next.code))),.t (.leaf (.int .i64 (((d.next.next.p:Nat):Int)))),.t (.leaf (.int .i64 (d.next.next.h)))]⟩],[]⟩) (st':=⟨[some ⟨151,[.t (.row 1 (cL (d.next.next.next.code))),.t (.leaf (.int .i64 (((d.next.next.next.p:Nat):Int)))),.t (.leaf (.int .i64 (d.next.next.next.h)))]⟩],[]⟩) (ps:= [_]) (qs:= [.ptr 0 0]) [0] [] rfl rfl Tryz.func146 (by kernel_rfl) rfl rfl rfl (by(try rw [hs]);exact⟨rfl,rfl,by decide,by decide,fun k h=>by rcases k with _|k<;>simp at h;exact⟨_,rfl⟩,fun k x h=>by rcases k with _|k<;>simp at h;subst h;exact⟨_,rfl,rfl,mD,rfl⟩,fun r row h=>by simp at h⟩) mD rfl rfl rfl (A7 d.next.next)) ?_;refine AL.cons rfl (aW.move (.inr rfl) rfl rfl) ?_;refine AL.nil ?_;refine aO.seq ?_;refine aO.region_lit ?_;refine AL.cons rfl (aW.move (.inl rfl) rfl rfl) ?_;refine AL.cons rfl (aW.callPE (pre:=⟨[some ⟨151,[.t (.row 1 (cL (d.next.next.next.code))),.t (.leaf (.int .i64 (((d.next.next.next.p:Nat):Int)))),.t (.leaf (.int .i64 (d.next.next.next.h)))]⟩],[]⟩) (st':=⟨[some ⟨151,[.t (.row 1 (cL (d.next.next.next.next.code))),.t (.leaf (.int .i64 (((d.next.next.next.next.p:Nat):Int)))),.t (.leaf (.int .i64 (d.next.next.next.next.h)))]⟩],[]⟩) (ps:= [_]) (qs:= [.ptr 0 0]) [0] [] rfl rfl Tryz.func146 (by kernel_rfl) rfl rfl rfl (by(try rw [hs]);exact⟨rfl,rfl,by decide,by decide,fun k h=>by rcases k with _|k<;>simp at h;exact⟨_,rfl⟩,fun k x h=>by rcases k with _|k<;>simp at h;subst h;exact⟨_,rfl,rfl,mD,rfl⟩,fun r row h=>by simp at h⟩) mD rfl rfl rfl (A7 d.next.next.next)) ?_;refine AL.cons rfl (aW.move (.inr rfl) rfl rfl) ?_;refine AL.nil ?_;refine aO.seq ?_;refine aO.region_lit ?_;refine AL.cons rfl (aW.move (.inl rfl) rfl rfl) ?_;refine AL.cons rfl (aW.mulI rfl rfl rfl rfl (c:=((d.byteN*16777216:Nat):Int)) (by omega) (by omega)) ?_;refine AL.cons rfl (aW.move (.inl rfl) rfl rfl) ?_;refine AL.cons rfl (aW.mulI rfl rfl rfl rfl (c:=((d.next.byteN*65536:Nat):Int)) (by omega) (by omega)) ?_;refine AL.cons rfl (aW.addI rfl rfl rfl rfl (c:=(((d.byteN*16777216)+(d.next.byteN*65536):Nat):Int)) (by omega) (by omega)) ?_;refine AL.cons rfl (aW.move (.inl rfl) rfl rfl) ?_;refine AL.cons rfl (aW.mulI rfl rfl rfl rfl (c:=((d.next.next.byteN*256:Nat):Int)) (by omega) (by omega)) ?_;refine AL.cons rfl (aW.addI rfl rfl rfl rfl (c:=((((d.byteN*16777216)+(d.next.byteN*65536))+(d.next.next.byteN*256):Nat):Int)) (by omega) (by omega)) ?_;refine AL.cons rfl (aW.move (.inl rfl) rfl rfl) ?_;refine AL.cons rfl (aW.addI rfl rfl rfl rfl (c:=(((((d.byteN*16777216)+(d.next.byteN*65536))+(d.next.next.byteN*256))+d.next.next.next.byteN:Nat):Int)) (by omega) (by omega)) ?_;refine AL.cons rfl (aW.move (.inl rfl) rfl rfl) ?_;refine AL.cons rfl (aW.remN (a:=(((d.byteN*16777216)+(d.next.byteN*65536))+(d.next.next.byteN*256))+d.next.next.next.byteN) (b:=n) rfl rfl rfl rfl (by omega) (by omega)) ?_;refine AL.cons rfl (aW.move (.inr rfl) rfl rfl) ?_;refine AL.nil ?_;refine aO.ret ?_;exact uW.mk (ps:= [_]) (.inr rfl) ⟨rfl,trivial⟩ rfl (mQ.mk' (st':=⟨[some ⟨151,[.t (.row 1 (cL (d.next.next.next.next.code))),.t (.leaf (.int .i64 (((d.next.next.next.next.p:Nat):Int)))),.t (.leaf (.int .i64 (d.next.next.next.next.h)))]⟩],[]⟩) ⟨⟨rfl,mD,rfl⟩,trivial⟩ rfl) (rJ hC ⟨_,rfl⟩) (q:= .t (.leaf (.int .i64 (((((((d.byteN*16777216)+(d.next.byteN*65536))+(d.next.next.byteN*256))+d.next.next.next.byteN)%n:Nat):Int))))) mD rfl ⟨by first|(have hq:n=0:=(by omega);simp [DS.below,hq];done)|(have hq: ¬n=0:=(by omega);have hr:n≤256:=(by omega);simp [DS.below,hq,hr];done)|(have hq: ¬n=0:=(by omega);have hr: ¬n≤256:=(by omega);simp [DS.below,hq,hr]),by first|(have hq:n=0:=(by omega);simp [DS.after,DS.box,DS.cells,hq];done)|(have hq: ¬n=0:=(by omega);have hr:n≤256:=(by omega);simp [DS.after,DS.box,DS.cells,hq,hr];done)|(have hq: ¬n=0:=(by omega);have hr: ¬n≤256:=(by omega);simp [DS.after,DS.box,DS.cells,hq,hr])⟩
set_option maxRecDepth 100000 in
set_option maxHeartbeats 4000000 in
theorem mB(d:DS)(n:Nat):dG Tryz.prog 112 [.ptr 0 0,.t (.leaf (.int .i64 (((n:Nat):Int))))] (d.box 151) (fun r t=>r= .t (.leaf (.bool (decide (d.below n=0))))∧t=(d.after n).box 151):=by
 refine dG.intro Tryz.func112 rfl (by first|decide|(simp;done)|(simp;decide)) ?_;intro C hC
 refine aO.fact (cB 0 0 rfl rfl rfl (fV d.code)) (fun hl0=>?_)
 refine aO.seq ?_;refine aO.region_lit ?_;refine AL.cons rfl (aW.move (.inr rfl) rfl rfl) ?_;refine AL.nil ?_;refine aO.seq ?_;refine aO.region_lit ?_;refine AL.cons rfl (aW.move (.inl rfl) rfl rfl) ?_;refine AL.cons rfl (aW.move (.inl rfl) rfl rfl) ?_;refine AL.cons rfl (aW.callPE (pre:=⟨[some ⟨151,[.t (.row 1 (cL (d.code))),.t (.leaf (.int .i64 (((d.p:Nat):Int)))),.t (.leaf (.int .i64 (d.h)))]⟩],[]⟩) (st':=⟨[some ⟨151,[.t (.row 1 (cL ((d.after n).code))),.t (.leaf (.int .i64 ((((d.after n).p:Nat):Int)))),.t (.leaf (.int .i64 ((d.after n).h)))]⟩],[]⟩) (ps:= [_,_]) (qs:= [.ptr 0 0,.t (.leaf (.int .i64 (((n:Nat):Int))))]) [0] [] rfl rfl Tryz.func103 (by kernel_rfl) rfl rfl rfl (by(try rw [hs]);exact⟨rfl,rfl,by decide,by decide,fun k h=>by rcases k with _|k<;>simp at h;exact⟨_,rfl⟩,fun k x h=>by rcases k with _|k<;>simp at h;subst h;exact⟨_,rfl,rfl,mD,rfl⟩,fun r row h=>by simp at h⟩) mD rfl rfl rfl (fR d n)) ?_;refine AL.cons rfl (aW.eqlI rfl rfl rfl rfl) ?_;refine AL.cons rfl (aW.move (.inr rfl) rfl rfl) ?_;refine AL.nil ?_;refine aO.ret ?_;exact uW.mk (ps:= [_]) (.inr rfl) ⟨rfl,trivial⟩ rfl (mQ.mk' (st':=⟨[some ⟨151,[.t (.row 1 (cL ((d.after n).code))),.t (.leaf (.int .i64 ((((d.after n).p:Nat):Int)))),.t (.leaf (.int .i64 ((d.after n).h)))]⟩],[]⟩) ⟨⟨rfl,mD,rfl⟩,trivial⟩ rfl) (rJ hC ⟨_,rfl⟩) (q:= .t (.leaf (.bool (decide ((((d.below n:Nat):Int):Int)=0))))) mD rfl ⟨by first|rfl|(congr 4;simp),by rfl⟩
set_option maxRecDepth 100000 in
set_option maxHeartbeats 4000000 in
theorem f7(d:DS)(l:List ByteArray)(hl:0<l.length):dG Tryz.prog 86 [.ptr 0 0,.t (.row 1 (aX (l)))] (d.box 151) (fun r t=>r= .t (.leaf (.string (d.pick l)))∧t=(d.after l.length).box 151):=by
 refine dG.intro Tryz.func86 rfl (by first|decide|(simp;done)|(simp;decide)) ?_;intro C hC
 refine aO.fact (cB 0 0 rfl rfl rfl (fV d.code)) (fun hl0=>?_)
 refine aO.fact (LG 1 rfl rfl (bE _)) (fun hl1=>?_)
 have hx:d.below l.length<l.length:=d.below_lt hl
 refine aO.seq ?_;refine aO.region_lit ?_;refine AL.cons rfl (aW.move (.inr rfl) rfl rfl) ?_;refine AL.nil ?_;refine aO.seq ?_;refine aO.region_lit ?_;refine AL.cons rfl (aW.move (.inl rfl) rfl rfl) ?_;refine AL.cons rfl (aW.move (.inl rfl) rfl rfl) ?_;refine AL.cons rfl (aW.move (.inl rfl) rfl rfl) ?_;refine AL.cons rfl (aW.lenN rfl rfl rfl rfl bW (bE _)) ?_;refine AL.cons rfl (aW.callPE (pre:=⟨[some ⟨151,[.t (.row 1 (cL (d.code))),.t (.leaf (.int .i64 (((d.p:Nat):Int)))),.t (.leaf (.int .i64 (d.h)))]⟩],[]⟩) (st':=⟨[some ⟨151,[.t (.row 1 (cL ((d.after l.length).code))),.t (.leaf (.int .i64 ((((d.after l.length).p:Nat):Int)))),.t (.leaf (.int .i64 ((d.after l.length).h)))]⟩],[]⟩) (ps:= [_,_]) (qs:= [.ptr 0 0,.t (.leaf (.int .i64 (((l.length:Nat):Int))))]) [0] [] rfl rfl Tryz.func103 (by kernel_rfl) rfl rfl rfl (by(try rw [hs]);exact⟨rfl,rfl,by decide,by decide,fun k h=>by rcases k with _|k<;>simp at h;exact⟨_,rfl⟩,fun k x h=>by rcases k with _|k<;>simp at h;subst h;exact⟨_,rfl,rfl,mD,rfl⟩,fun r row h=>by simp at h⟩) mD rfl rfl rfl (fR d l.length)) ?_;refine AL.cons rfl (aW.index (k:=d.below l.length) rfl rfl rfl rfl rfl (QG hx) bW) ?_;refine AL.cons rfl (aW.loadEptr1 (d:= .leaf (.string (l[d.below l.length]))) rfl rfl rfl e8 rfl) ?_;refine AL.cons rfl (aW.move (.inr rfl) rfl rfl) ?_;refine AL.nil ?_;refine aO.ret ?_;exact uW.mk (ps:= [_]) (.inr rfl) ⟨rfl,trivial⟩ rfl (mQ.mk' (st':=⟨[some ⟨151,[.t (.row 1 (cL ((d.after l.length).code))),.t (.leaf (.int .i64 ((((d.after l.length).p:Nat):Int)))),.t (.leaf (.int .i64 ((d.after l.length).h)))]⟩],[]⟩) ⟨⟨rfl,mD,rfl⟩,trivial⟩ rfl) (rJ hC ⟨_,rfl⟩) (q:= .t (.leaf (.string (l[d.below l.length])))) mD rfl ⟨by rw [DS.pick_eq hx],by rfl⟩
set_option maxRecDepth 100000 in
set_option maxHeartbeats 4000000 in
theorem ag0(code:List UInt8)(hb:code.length≤1048576):ah1 Tryz.prog 54 [.t (.row 1 (cL code))] 151 (DS.start code).cells:=by
 refine dG.intro Tryz.func54 rfl (by first|decide|(simp;done)|(simp;decide)) ?_;intro C hC
 refine aO.fact (LG 0 rfl rfl (fV _)) (fun hl1=>?_)
 refine aO.seq ?_;refine aO.region_lit ?_;refine AL.cons rfl (aW.moveAny (.inl rfl)) ?_;refine AL.nil ?_;refine aO.seq ?_;refine aO.region_lit ?_;refine AL.cons rfl (aW.move (.inl rfl) rfl rfl) ?_;refine AL.cons rfl (aW.lenN rfl rfl rfl rfl U7 (fV _)) ?_;refine AL.cons rfl (aW.addI rfl rfl rfl rfl (c:=((28803+code.length:Nat):Int)) (by omega) (by omega)) ?_;refine AL.cons rfl (aW.move (.inr rfl) rfl rfl) ?_;refine AL.nil ?_;refine aO.seq ?_;refine aO.seq ?_;refine aO.region_lit ?_;refine AL.cons rfl (aW.move (.inr rfl) rfl rfl) ?_;refine AL.nil ?_;refine aO.block ?_;refine aO.loopJ (ι:=Nat×Int) (fun⟨i,h⟩=>i≤code.length∧i≤4000∧ahZ code=((code.take 4000).drop i).foldl BK h) (fun⟨i,h⟩=>⟨[(0,.t (.row 1 (cL (code)))),(3,.t (.leaf (.int .i64 (h)))),(4,.t (.leaf (.int .i64 (((i:Nat):Int)))))],⟨[],[]⟩⟩) (fun⟨i,h⟩=>code.length-i) (0,(28803+(code.length:Int))) ?_ ?_ ?_
 ·exact⟨Nat.zero_le _,Nat.zero_le _,rfl⟩
 ·exact Wk.mk (mQ.mk' trivial rfl) (xP hC) ⟨⟨_,rfl,.refl _,rfl⟩,⟨⟨_,rfl,mD,rfl⟩,⟨⟨_,rfl,mD,rfl⟩,trivial⟩⟩⟩
 rintro⟨i,h⟩ hJ2
 obtain⟨hi1,hi2,hi3⟩:=hJ2
 refine aO.seq ?_;refine aO.seq ?_;refine aO.region_lit ?_;refine AL.cons rfl (aW.move (.inl rfl) rfl rfl) ?_;refine AL.cons rfl (aW.move (.inl rfl) rfl rfl) ?_;refine AL.cons rfl (aW.lenN rfl rfl rfl rfl U7 (fV _)) ?_;refine AL.cons rfl (aW.lss rfl rfl rfl rfl) ?_;refine AL.cons rfl (aW.move (.inl rfl) rfl rfl) ?_;refine AL.splitB 12 rfl (fun g3=>?_) (fun g3=>?_)
 ·have g3b:=g3
  try simp only [Bool.and_eq_true,Bool.or_eq_true,Bool.and_eq_false_iff,Bool.or_eq_false_iff,decide_eq_true_eq,decide_eq_false_iff_not,Bool.not_eq_true',Bool.not_eq_false',Bool.not_eq_eq_eq_not,Bool.not_true,Bool.not_false,ge_iff_le,gt_iff_lt,Int.not_lt,Int.not_le] at g3b
  have g3n:i<code.length:=by omega
  refine AL.cons_gv rfl rfl rfl g3 (aW.move (.inl rfl) rfl rfl) ?_;refine AL.cons_gv rfl rfl rfl g3 (aW.lss rfl rfl rfl rfl) ?_;refine AL.cons rfl (aW.pickT rfl rfl rfl g3 rfl) ?_;refine AL.nil ?_;refine aO.cond rfl (fun h4=>?_) (fun h4=>?_)
  ·have h4b:=h4
   try simp only [Bool.and_eq_true,Bool.or_eq_true,Bool.and_eq_false_iff,Bool.or_eq_false_iff,decide_eq_true_eq,decide_eq_false_iff_not,Bool.not_eq_true',Bool.not_eq_false',Bool.not_eq_eq_eq_not,Bool.not_true,Bool.not_false,ge_iff_le,gt_iff_lt,Int.not_lt,Int.not_le] at h4b
   refine aO.skip ?_;refine aO.seq ?_;refine aO.block ?_;refine aO.region_lit ?_;refine AL.cons rfl (aW.move (.inl rfl) rfl rfl) ?_;refine AL.cons rfl (aW.mulW rfl rfl rfl rfl) ?_;refine AL.cons rfl (aW.move (.inl rfl) rfl rfl) ?_;refine AL.cons rfl (aW.move (.inl rfl) rfl rfl) ?_;refine AL.cons rfl (aW.index (k:=i) rfl rfl rfl rfl rfl (uQ g3n) U7) ?_;refine AL.cons rfl (aW.loadEptr1 (d:= .leaf (.int .u8 (((code[i]).toNat:Int)))) rfl rfl rfl sh5 rfl) ?_;refine AL.cons rfl (aW.convI rfl rfl rfl ⟨_,Tryz.underlying5⟩ Tryz.underlying3 (by first|omega|(have:=UInt8.toNat_lt (code[i]);omega)) (by first|omega|(have:=UInt8.toNat_lt (code[i]);omega))) ?_;refine AL.cons rfl (aW.addW rfl rfl rfl rfl) ?_;refine AL.cons rfl (aW.addW rfl rfl rfl rfl) ?_;refine AL.cons rfl (aW.andI rfl rfl rfl rfl) ?_;refine AL.cons rfl (aW.move (.inr rfl) rfl rfl) ?_;refine AL.nil ?_;refine aO.region_lit ?_;refine AL.cons rfl (aW.move (.inl rfl) rfl rfl) ?_;refine AL.cons rfl (aW.addI rfl rfl rfl rfl (c:=((i+1:Nat):Int)) (by omega) (by omega)) ?_;refine AL.cons rfl (aW.move (.inr rfl) rfl rfl) ?_;refine AL.nil ?_;refine⟨(i+1,yB (aQ ((aQ ((aQ (h*131))+((code[i]).toNat:Int)))+7)) 1073741823),?_,?_,?_⟩
   ·exact⟨by omega,by omega,acZ (by omega) (by omega) hi3 rfl⟩
   ·exact Wk.mk (mQ.mk' trivial rfl) (xP hC) ⟨⟨_,rfl,.refl _,rfl⟩,⟨⟨_,rfl,mD,rfl⟩,⟨⟨_,rfl,mD,rfl⟩,trivial⟩⟩⟩
   ·dsimp only;omega
  ·have h4b:=h4
   try simp only [Bool.and_eq_true,Bool.or_eq_true,Bool.and_eq_false_iff,Bool.or_eq_false_iff,decide_eq_true_eq,decide_eq_false_iff_not,Bool.not_eq_true',Bool.not_eq_false',Bool.not_eq_eq_eq_not,Bool.not_true,Bool.not_false,ge_iff_le,gt_iff_lt,Int.not_lt,Int.not_le] at h4b
   refine aO.exit ?_;refine aO.seq ?_;refine aO.region_lit ?_;refine AL.cons rfl (aW.move (.inl rfl) rfl rfl) ?_;refine AL.cons rfl (aW.move (.inl rfl) rfl rfl) ?_;refine AL.cons rfl (aW.build rfl rfl agC agW rfl rfl) ?_;refine AL.cons rfl (aW.box (cs:= [.t (.row 1 (cL (code))),.t (.leaf (.int .i64 (0))),.t (.leaf (.int .i64 (h)))]) rfl rfl rfl rfl rfl) ?_;refine AL.cons rfl (aW.move (.inr rfl) rfl rfl) ?_;refine AL.nil ?_;refine aO.ret ?_
   obtain rfl:=T8 (by omega) hi3
   exact uW.mk (ps:= [_]) (.inr rfl) ⟨rfl,trivial⟩ rfl (mQ.mk' (st':=⟨[some ⟨151,(DS.start code).cells⟩],[]⟩) ⟨⟨rfl,mD,rfl⟩,trivial⟩ rfl) (xP hC) (q:= .ptr 0 0) (.refl _) rfl ⟨0,rfl,rfl,fun i x hx=>by rcases i with _|i<;>simp at hx<;>simp,rfl⟩
 ·have g3b:=g3
  try simp only [Bool.and_eq_true,Bool.or_eq_true,Bool.and_eq_false_iff,Bool.or_eq_false_iff,decide_eq_true_eq,decide_eq_false_iff_not,Bool.not_eq_true',Bool.not_eq_false',Bool.not_eq_eq_eq_not,Bool.not_true,Bool.not_false,ge_iff_le,gt_iff_lt,Int.not_lt,Int.not_le] at g3b
  have g3n:i≥code.length:=by omega
  refine AL.skip_v rfl rfl rfl g3 rfl ?_;refine AL.skip_v rfl rfl rfl g3 rfl ?_;refine AL.cons rfl (aW.pickF rfl rfl rfl g3 rfl) ?_;refine AL.nil ?_;refine aO.cond rfl (fun h5=>?_) (fun h5=>?_)
  ·exact absurd (h5.symm.trans rfl) (by decide)
  ·have h5b:=h5
   try simp only [Bool.and_eq_true,Bool.or_eq_true,Bool.and_eq_false_iff,Bool.or_eq_false_iff,decide_eq_true_eq,decide_eq_false_iff_not,Bool.not_eq_true',Bool.not_eq_false',Bool.not_eq_eq_eq_not,Bool.not_true,Bool.not_false,ge_iff_le,gt_iff_lt,Int.not_lt,Int.not_le] at h5b
   refine aO.exit ?_;refine aO.seq ?_;refine aO.region_lit ?_;refine AL.cons rfl (aW.move (.inl rfl) rfl rfl) ?_;refine AL.cons rfl (aW.move (.inl rfl) rfl rfl) ?_;refine AL.cons rfl (aW.build rfl rfl agC agW rfl rfl) ?_;refine AL.cons rfl (aW.box (cs:= [.t (.row 1 (cL (code))),.t (.leaf (.int .i64 (0))),.t (.leaf (.int .i64 (h)))]) rfl rfl rfl rfl rfl) ?_;refine AL.cons rfl (aW.move (.inr rfl) rfl rfl) ?_;refine AL.nil ?_;refine aO.ret ?_
   obtain rfl:=T8 (by omega) hi3
   exact uW.mk (ps:= [_]) (.inr rfl) ⟨rfl,trivial⟩ rfl (mQ.mk' (st':=⟨[some ⟨151,(DS.start code).cells⟩],[]⟩) ⟨⟨rfl,mD,rfl⟩,trivial⟩ rfl) (xP hC) (q:= .ptr 0 0) (.refl _) rfl ⟨0,rfl,rfl,fun i x hx=>by rcases i with _|i<;>simp at hx<;>simp,rfl⟩
end Go.Proofs.YtpioomclpaiomaaGreat

namespace Go.Proofs.YtpioomclpaiomaaGreat
open Go.RowKit
theorem aeO{w:World}{xs:List Int}{v:Value}(h:zR w (.row 1 (xs.map fun n=> [Tr.leaf (.int .u8 n)])) v): ∃code:List UInt8,(xs.map fun n=> [Tr.leaf (.int .u8 n)])=cL code:=by
 have hr: ∀x∈xs,0≤x∧x≤255:=by
  intro x hx
  obtain⟨i,hi,rfl⟩:=List.mem_iff_getElem.1 hx
  cases h with
  |row c h1 h2 h3 h4=>
   have:=h4 i [Tr.leaf (.int .u8 xs[i])] (by simp [hi]) 0 _ rfl
   have:=(this.leaf_eq).2
   simpa [oF,Lit.wf,IntKind.min,IntKind.max,IntKind.bits,IntKind.signed] using this
 refine⟨xs.map fun n=>UInt8.ofNat n.toNat,?_⟩
 unfold cL
 rw [List.map_map]
 refine List.map_congr_left fun x hx=>?_
 have:=hr x hx
 have h2:(UInt8.ofNat x.toNat).toNat=x.toNat:=by
  rw [UInt8.toNat_ofNat']
  omega
 simp only [Function.comp,h2]
 rw [Int.toNat_of_nonneg this.1]
end Go.Proofs.YtpioomclpaiomaaGreat

namespace Go.Proofs.YtpioomclpaiomaaGreat
open Go.RowKit
theorem OK.nil{w:World}:OK w [] []:=trivial
theorem OK.cons{w:World}{p:PV}{ps:List PV}{v:Value}{vs:List Value}(h:RV0 w p v)(k:OK w ps vs):OK w (p::ps) (v::vs):=⟨h,k⟩
end Go.Proofs.YtpioomclpaiomaaGreat

namespace Go.Proofs.YtpioomclpaiomaaGreat
open Go.RowKit Go.Proofs
theorem agD:(Tryz.prog.info? 45).map (·.size)=some 2:=by kernel_rfl
end Go.Proofs.YtpioomclpaiomaaGreat

namespace Go.Proofs.YtpioomclpaiomaaGreat
def PN{α:Type}(p:α→Bool):List α→Nat→Int
 | [],_=> -1
 |a::l,i=>if p a then i else PN p l (i+1)
theorem adC{α:Type}{p:α→Bool}{l:List α}{k:Nat}(h:k<l.length):PN p (l.drop k) k=if p l[k] then(k:Int) else PN p (l.drop (k+1)) (k+1):=by
 rw [List.drop_eq_getElem_cons h,PN]
end Go.Proofs.YtpioomclpaiomaaGreat

namespace Go.Proofs.YtpioomclpaiomaaGreat
open Go.RowKit Go.Proofs
set_option maxRecDepth 100000 in
set_option maxHeartbeats 1000000 in
theorem OV{α:Type}(tr:α→List Tr)(p:α→Bool)(xs:List α)(g:FuncId)(caps:Array Value)(hg: ∀(args:Array Value) (w:World),(callFunc g args).run Tryz.prog w= .ok (.enter g args) w)(hl: ∀x,(tr x).length=2)(s:Value)(w:World)
 (H: ∀x∈xs,∀cs w',oU w w'→gJ w' (tr x) cs→Calls Tryz.prog g (#[.agg ⟨cs⟩]++caps) w' fun e w''=>e= .returned (.bool (p x))∧oU w' w'')
 (hs:zR w (.row 2 (xs.map tr)) s):
 Calls Tryz.prog 126 #[s,.func (.func g) #[] caps] w fun e w'=>e= .returned (.int .i64 (PN p xs 0))∧oU w w':=by
 obtain⟨a,cap,rfl,hlc,hm⟩:=hs.shape
 unfold maxLen at hm
 rw [List.length_map] at hlc ⊢
 rw [List.length_map] at hs
 have HS:=Lib.hid hs
 have HH:=Lib.hid H
 have HL:=Lib.hid hl
 clear hs H hl
 go_enter Tryz.func126,Tryz.ntmps126
 go_wp2_with fail
 go_loopw [5,8] (fun _ i wr=> ∃k:Nat,k≤xs.length∧i= .int .i64 k∧oU w wr∧Hid (PN p xs 0=PN p (xs.drop k) k)) (fun _ i _=>xs.length-(intOf i).toNat)
 case atStart=>exact⟨0,Nat.zero_le _,rfl,.refl _,rfl⟩
 case round=>
  obtain⟨k,hk,rfl,hw,HE⟩:=hrel
  by_cases hlt:k<xs.length
  ·obtain⟨b,off,cs,rfl,hb,hcs,hc⟩:=(HS.out.ext hw).at2 (k:=k) (e:=tr xs[k]) (by rw [List.getElem?_map,List.getElem?_eq_getElem hlt];rfl)
   have HST:=Lib.hid (adC (p:=p) hlt)
   have HM:=Lib.hid (List.getElem_mem hlt)
   have HCS:=Lib.hid hcs
   have HC:=Lib.hid hc
   have HI:Hid ((Tryz.prog.info? 45).map (·.size)=some cs.length):=by rw [← hcs.length,HL.out];exact agD
   clear hcs hc
   go_wp2_with (refine iQ rfl 45 (.tmp 14) rfl b (off+k*2) rfl cs _ Tryz.underlying45 HI.out HC.out ?_)
   refine(HH.out _ HM.out _ _ hw HCS.out).mono ?_;rintro e w1 ⟨rfl,hw1⟩
   have HW1:=Lib.hid (hw.trans hw1)
   clear hw1
   cases hp:p xs[k]
   ·have HP:=Lib.hid hp
    clear hp
    go_wp2_with fail
    go_roundw
    case rel=>exact⟨k+1,by omega,by go_num,HW1.out,by rw [HE.out,HST.out,HP.out];rfl⟩
    case measure=>simp [intOf];omega
   ·have HP:=Lib.hid hp
    clear hp
    go_wp2_with fail
    go_ret
    exact⟨abA (by rw [HE.out,HST.out,HP.out];rfl),HW1.out⟩
  ·have hkl:k=xs.length:=by omega
   go_wp2_with fail
   go_ret
   exact⟨abA (by rw [HE.out,hkl,List.drop_length];rfl),hw⟩
end Go.Proofs.YtpioomclpaiomaaGreat

namespace Go.Proofs.YtpioomclpaiomaaGreat
open Go.RowKit
mutual
def Tr.cnt:Tr→Nat
 | .leaf _=>1
 | .row _ es=>Tr.cntE es
def Tr.cntL:List Tr→Nat
 | []=>0
 |t::r=>Tr.cnt t+Tr.cntL r
def Tr.cntE:List (List Tr)→Nat
 | []=>0
 |e::r=>Tr.cntL e+Tr.cntE r
end
structure FY (S:Nat→Prop) (w w':World):Prop where
 os:w'.os=w.os
 tape:w'.tape=w.tape
 output:w'.output=w.output
 size:w.heap.size≤w'.heap.size
 block: ∀b,b<w.heap.size→ ¬S b→w'.heap[b]?=w.heap[b]?
theorem FY.refl(S:Nat→Prop)(w:World):FY S w w:=⟨rfl,rfl,rfl,Nat.le_refl _,fun _ _ _=>rfl⟩
theorem FY.trans{S:Nat→Prop}{a b c:World}(h:FY S a b)(k:FY S b c):FY S a c:=
 ⟨k.os.trans h.os,k.tape.trans h.tape,k.output.trans h.output,Nat.le_trans h.size k.size,fun x hx hs=>(k.block x (Nat.lt_of_lt_of_le hx h.size) hs).trans (h.block x hx hs)⟩
theorem FY.mono{S S':Nat→Prop}{a b:World}(h:FY S a b)(hS: ∀x,S x→S' x):FY S' a b:=⟨h.os,h.tape,h.output,h.size,fun x hx hn=>h.block x hx fun hs=>hn (hS x hs)⟩
theorem FY.of_ext{S:Nat→Prop}{a b:World}(h:oU a b):FY S a b:=⟨h.os,h.tape,h.output,h.size,fun x hx _=>h.block x hx⟩
theorem FY.of_grown{S:Nat→Prop}{B:Nat}{a b:World}(h:a.grownBy b (some B))(hB:S B):FY S a b:=⟨h.os,h.tape,h.output,h.size,fun x hx hs=>h.block x hx (by simp;rintro rfl;exact hs hB)⟩
theorem FY.ext{S:Nat→Prop}{a b c:World}(h:oU a b)(k:FY S b c)(hS: ∀x,S x→a.heap.size≤x):oU a c:=
 ⟨k.os.trans h.os,k.tape.trans h.tape,k.output.trans h.output,Nat.le_trans h.size k.size,fun x hx=>(k.block x (Nat.lt_of_lt_of_le hx h.size) (fun hs=>by have:=hS x hs;omega)).trans (h.block x hx)⟩
theorem uH.focus{w:World}{sz:Nat}{es:List (List Tr)}{a:Option Addr}{n cap i:Nat}{S:Nat→Prop}{e:List Tr}(h:uH w (.row sz es) (.slice a n cap) S)(hi:es[i]?=some e)(hl: ∀x∈es,x.length=sz):
 ∃b off E arr cs T,a=some ⟨b,off,none⟩∧OB w b E arr∧S b∧mA w e cs T∧(∀x,T x→S x∧x≠b)∧cs.length=sz∧(0<sz→off+i*sz+sz≤arr.size)∧(∀j v,cs[j]?=some v→arr[off+i*sz+j]?=some v)∧
  ∀w' cs' e',e'.length=sz→OB w' b E (splice arr (off+i*sz) cs')→mA w' e' cs' T→(∀x,x<w.heap.size→S x→x≠b→ ¬T x→w'.heap[x]?=w.heap[x]?)→off+i*sz+sz≤arr.size→
   uH w' (.row sz (es.set i e')) (.slice a n cap) S:=by
 cases h with
 |row c T h1 h2 h3 h4 h5 h6=>
  have hne:es≠ []:=by rintro rfl;simp at hi
  obtain⟨b,off,E,arr,rfl,hob,hs,hc⟩:=h3 hne
  have hlt:i<es.length:=(List.getElem?_eq_some_iff.1 hi).1
  have hel:e.length=sz:=hl e (List.mem_of_getElem? hi)
  have hgj: ∀j,j<sz→ ∃d,e[j]?=some d:=fun j hj=>⟨e[j]'(by omega),List.getElem?_eq_getElem _⟩
  refine⟨b,off,E,arr,(List.range sz).map (c i),fun x=> ∃j,j<sz∧T i j x,rfl,hob,hs,?_,?_,by simp,?_,?_,?_⟩
  ·refine⟨by simp [hel],fun j x=>j<sz∧T i j x,?_,?_,?_⟩
   ·intro j d hd
    have hj:j<sz:=by rw [← hel];exact(List.getElem?_eq_some_iff.1 hd).1
    exact⟨c i j,by simp [hj],(h4 i e hi j d hd).mono fun x hx=>⟨hj,hx⟩⟩
   ·intro j d hd x hx
    exact⟨j,hx⟩
   ·intro j d hd j' d' hd' hne x hx hx'
    exact h6 i e hi j d hd i e hi j' d' hd' (fun _=>hne) x hx.2 hx'.2
  ·rintro x ⟨j,hj,hx⟩
   obtain⟨d,hd⟩:=hgj j hj
   exact⟨h5 i e hi j d hd x hx,(hc i e hi j d hd).2 x hx⟩
  ·intro h0
   obtain⟨d,hd⟩:=hgj (sz-1) (by omega)
   have:=(hc i e hi _ d hd).1
   have:=(Array.getElem?_eq_some_iff.1 this).1
   omega
  ·intro j v hv
   rw [List.getElem?_map] at hv
   rcases Nat.lt_or_ge j sz with hj|hj
   ·rw [List.getElem?_range hj] at hv
    simp at hv
    obtain⟨d,hd⟩:=hgj j hj
    rw [← hv]
    exact(hc i e hi j d hd).1
   ·rw [List.getElem?_eq_none (by simpa using hj)] at hv
    simp at hv
  ·intro w' cs' e' hel' hob' how hx hfit
   obtain⟨hcl,U,u1,u2,u3⟩:=how
   have hcl:cs'.length=sz:=by omega
   have hset:(es.set i e').length=es.length:=by simp
   have get: ∀i' e2,(es.set i e')[i']?=some e2→(i'=i∧e2=e')∨(i'≠i∧es[i']?=some e2):=by
    intro i' e2 h
    rw [List.getElem?_set] at h
    split at h
    ·rename_i hii
     subst hii
     simp only [Option.some.injEq] at h
     exact .inl ⟨rfl,h.symm⟩
    ·rename_i hii
     exact .inr ⟨fun e=>hii e.symm,h⟩
   have keep: ∀i' e2,i'≠i→es[i']?=some e2→ ∀j d,e2[j]?=some d→ ∀x,T i' j x→x<w.heap.size→w'.heap[x]?=w.heap[x]?:=by
    intro i' e2 hne' he2 j d hd x hx' hxl
    refine hx x hxl (h5 i' e2 he2 j d hd x hx') ((hc i' e2 he2 j d hd).2 x hx') ?_;rintro⟨j',hj',hT⟩
    obtain⟨d',hd'⟩:=hgj j' hj'
    exact h6 i' e2 he2 j d hd i e hi j' d' hd' (fun h=>absurd h hne') x hx' hT
   rw [← hset]
   refine .row (fun i' j=>if i'=i then(cs'[j]?).getD undef else c i' j) (fun i' j=>if i'=i then U j else T i' j) (by rw [hset];exact h1) h2 ?_ ?_ ?_ ?_
   ·intro _
    refine⟨b,off,E,_,rfl,hob',hs,?_⟩
    intro i' e2 he2 j d hd
    rcases get i' e2 he2 with⟨rfl,rfl⟩|⟨hne',he2⟩
    ·simp only [if_true]
     have hj:j<sz:=by rw [← hel'];exact(List.getElem?_eq_some_iff.1 hd).1
     refine⟨?_,fun x hx'=>?_⟩
     ·have h7:=J2 (arr:=arr) (o:=off+i'*sz) (vs:=cs') (by omega)
      have h8:(((splice arr (off+i'*sz) cs').toList.drop (off+i'*sz)).take cs'.length)[j]?=cs'[j]?:=by rw [h7]
      rw [List.getElem?_take,if_pos (by omega),List.getElem?_drop] at h8
      have h9:cs'[j]?=some (cs'[j]'(by omega)):=List.getElem?_eq_getElem _
      rw [h9] at h8 ⊢
      simpa using h8
     ·obtain⟨j2,hj2,hT⟩:=u2 j d hd x hx'
      obtain⟨d2,hd2⟩:=hgj j2 hj2
      exact(hc i' e hi j2 d2 hd2).2 x hT
    ·simp only [if_neg hne']
     obtain⟨q1,q2⟩:=hc i' e2 he2 j d hd
     have hl2:e2.length=sz:=hl e2 (List.mem_of_getElem? he2)
     have hj:j<sz:=by rw [← hl2];exact(List.getElem?_eq_some_iff.1 hd).1
     refine⟨?_,q2⟩
     rw [← q1]
     unfold splice
     have hsz:0<sz:=by omega
     rcases Nat.lt_or_ge i' i with hlt'|hge
     ·have h10:(i'+1)*sz≤i*sz:=Nat.mul_le_mul_right _ hlt'
      rw [Nat.succ_mul] at h10
      rw [List.getElem?_toArray,List.append_assoc,List.getElem?_append_left (by simp;omega),List.getElem?_take,if_pos (by omega)]
      simp
     ·have h10:(i+1)*sz≤i'*sz:=Nat.mul_le_mul_right _ (by omega)
      rw [Nat.succ_mul] at h10
      rw [List.getElem?_toArray,List.getElem?_append_right (by simp;omega),List.getElem?_drop]
      simp only [List.length_append,List.length_take,Array.length_toList]
      rw [Nat.min_eq_left (by omega),Array.getElem?_toList]
      congr 1
      omega
   ·intro i' e2 he2 j d hd
    rcases get i' e2 he2 with⟨rfl,rfl⟩|⟨hne',he2⟩
    ·simp only [if_true]
     obtain⟨v,hv,ho⟩:=u1 j d hd
     simpa [hv] using ho
    ·simp only [if_neg hne']
     exact(h4 i' e2 he2 j d hd).keep fun x hx' hxl=>keep i' e2 hne' he2 j d hd x hx' hxl
   ·intro i' e2 he2 j d hd x hx'
    rcases get i' e2 he2 with⟨rfl,rfl⟩|⟨hne',he2⟩
    ·simp only [if_true] at hx'
     obtain⟨j2,hj2,hT⟩:=u2 j d hd x hx'
     obtain⟨d2,hd2⟩:=hgj j2 hj2
     exact h5 i' e hi j2 d2 hd2 x hT
    ·simp only [if_neg hne'] at hx'
     exact h5 i' e2 he2 j d hd x hx'
   ·intro i' e2 he2 j d hd i'' e3 he3 j' d' hd' hne x hx1 hx2
    rcases get i' e2 he2 with⟨rfl,rfl⟩|⟨hne',he2⟩
    ·simp only [if_true] at hx1
     rcases get i'' e3 he3 with⟨rfl,rfl⟩|⟨hne'',he3⟩
     ·simp only [if_true] at hx2
      exact u3 j d hd j' d' hd' (hne rfl) x hx1 hx2
     ·simp only [if_neg hne''] at hx2
      obtain⟨j2,hj2,hT⟩:=u2 j d hd x hx1
      obtain⟨d2,hd2⟩:=hgj j2 hj2
      exact h6 i'' e3 he3 j' d' hd' i' e hi j2 d2 hd2 (fun h=>absurd h hne'') x hx2 hT
    ·simp only [if_neg hne'] at hx1
     have he2':=he2
     rcases get i'' e3 he3 with⟨rfl,rfl⟩|⟨hne'',he3⟩
     ·simp only [if_true] at hx2
      obtain⟨j2,hj2,hT⟩:=u2 j' d' hd' x hx2
      obtain⟨d2,hd2⟩:=hgj j2 hj2
      exact h6 i' e2 he2' j d hd i'' e hi j2 d2 hd2 (fun h=>absurd h hne') x hx1 hT
     ·simp only [if_neg hne''] at hx2
      exact h6 i' e2 he2 j d hd i'' e3 he3 j' d' hd' hne x hx1 hx2
end Go.Proofs.YtpioomclpaiomaaGreat

namespace Go.Proofs.YtpioomclpaiomaaGreat
open Go.RowKit
theorem mA.setLeaf{w:World}{ts:List Tr}{cs:List Value}{T:Nat→Prop}{j:Nat}{u:Tr}{v:Value}(h:mA w ts cs T)(hj:ts[j]?=some u)(hv:oF v):mA w (ts.set j (.leaf v)) (cs.set j v) T:=by
 obtain⟨hl,U,h1,h2,h3⟩:=h
 have hlt:j<ts.length:=(List.getElem?_eq_some_iff.1 hj).1
 have old: ∀i d,(ts.set j (.leaf v))[i]?=some d→(i=j∧d= .leaf v)∨(i≠j∧ts[i]?=some d):=by
  intro i d hd
  rw [List.getElem?_set] at hd
  split at hd
  ·rename_i hij
   subst hij
   simp only [Option.some.injEq] at hd
   exact .inl ⟨rfl,hd.symm⟩
  ·rename_i hij
   exact .inr ⟨fun e=>hij e.symm,hd⟩
 refine⟨by simp [hl],fun i x=>i≠j∧U i x,?_,?_,?_⟩
 ·intro i d hd
  rcases old i d hd with⟨rfl,rfl⟩|⟨hne,hd⟩
  ·exact⟨v,by rw [List.getElem?_set];simp [hl,hlt],.leaf hv⟩
  ·obtain⟨v',hv',ho⟩:=h1 i d hd
   exact⟨v',by rw [List.getElem?_set];rw [if_neg (fun e=>hne e.symm)];exact hv',ho.mono fun x hx=>⟨hne,hx⟩⟩
 ·intro i d hd x hx
  rcases old i d hd with⟨rfl,rfl⟩|⟨hne,hd⟩
  ·exact(hx.1 rfl).elim
  ·exact h2 i d hd x hx.2
 ·intro i d hd i' d' hd' hne x hx hx'
  rcases old i d hd with⟨rfl,rfl⟩|⟨_,hd⟩
  ·exact hx.1 rfl
  ·rcases old i' d' hd' with⟨rfl,rfl⟩|⟨_,hd'⟩
   ·exact hx'.1 rfl
   ·exact h3 i d hd i' d' hd' hne x hx.2 hx'.2
theorem mA.setRow{w:World}{ts:List Tr}{cs:List Value}{T:Nat→Prop}{j:Nat}{t:Tr}{v:Value}(h:mA w ts cs T)(hj:ts[j]?=some t)(hv:cs[j]?=some v):
 ∃U:Nat→Prop,uH w t v U∧(∀x,U x→T x)∧ ∀w' t',uH w' t' v U→(∀x,x<w.heap.size→T x→ ¬U x→w'.heap[x]?=w.heap[x]?)→mA w' (ts.set j t') cs T:=by
 obtain⟨hl,U,h1,h2,h3⟩:=h
 have hlt:j<ts.length:=(List.getElem?_eq_some_iff.1 hj).1
 obtain⟨v1,hv1,ho1⟩:=h1 j t hj
 rw [hv] at hv1
 injection hv1 with hv1
 subst hv1
 refine⟨U j,ho1,h2 j t hj,fun w' t' ho' hk=>⟨by simp [hl],U,?_,?_,?_⟩⟩
 all_goals
  have old: ∀i d,(ts.set j t')[i]?=some d→(i=j∧d=t')∨(i≠j∧ts[i]?=some d):=by
   intro i d hd
   rw [List.getElem?_set] at hd
   split at hd
   ·rename_i hij
    subst hij
    simp only [Option.some.injEq] at hd
    exact .inl ⟨rfl,hd.symm⟩
   ·rename_i hij
    exact .inr ⟨fun e=>hij e.symm,hd⟩
 ·intro i d hd
  rcases old i d hd with⟨rfl,rfl⟩|⟨hne,hd⟩
  ·exact⟨v,hv,ho'⟩
  ·obtain⟨v',hv',ho⟩:=h1 i d hd
   exact⟨v',hv',ho.keep fun x hx hxl=>hk x hxl (h2 i d hd x hx) (fun hu=>h3 i d hd j t hj hne x hx hu)⟩
 ·intro i d hd x hx
  rcases old i d hd with⟨rfl,rfl⟩|⟨hne,hd⟩
  ·exact h2 i t hj x hx
  ·exact h2 i d hd x hx
 ·intro i d hd i' d' hd' hne x hx hx'
  rcases old i d hd with⟨rfl,rfl⟩|⟨hne1,hd1⟩
  ·rcases old i' d' hd' with⟨rfl,rfl⟩|⟨_,hd2⟩
   ·exact hne rfl
   ·exact h3 i t hj i' d' hd2 hne x hx hx'
  ·rcases old i' d' hd' with⟨rfl,rfl⟩|⟨_,hd2⟩
   ·exact h3 i d hd1 i' t hj hne x hx hx'
   ·exact h3 i d hd1 i' d' hd2 hne x hx hx'
structure Foc (w0 wr:World) (b:Nat) (E:TypeId) (arr0:Array Value) (o sz:Nat) (ts:List Tr) (cs:List Value) (T:Nat→Prop):Prop where
 arr: ∃arr,OB wr b E arr∧arr.size=arr0.size∧(∀q,q<o∨o+sz≤q→arr[q]?=arr0[q]?)∧(∀j v,cs[j]?=some v→arr[o+j]?=some v)
 own:mA wr ts cs T
 chg:FY (fun x=>x=b∨T x) w0 wr
 notin: ¬T b
 len:cs.length=sz
 fit:o+sz≤arr0.size
 tlt: ∀x,T x→x<w0.heap.size
 blt:b<w0.heap.size
theorem Foc.cell{w0 wr:World}{b:Nat}{E:TypeId}{arr0:Array Value}{o sz:Nat}{ts:List Tr}{cs:List Value}{T:Nat→Prop}(h:Foc w0 wr b E arr0 o sz ts cs T){j:Nat}{v:Value}(hj:cs[j]?=some v):wr.cell? ⟨b,o+j,none⟩=some v:=by
 obtain⟨arr,h1,-,-,h4⟩:=h.arr
 rw [h1.cell]
 exact h4 j v hj
theorem Foc.ext{w0 wr w':World}{b:Nat}{E:TypeId}{arr0:Array Value}{o sz:Nat}{ts:List Tr}{cs:List Value}{T:Nat→Prop}(h:Foc w0 wr b E arr0 o sz ts cs T)(hx:oU wr w'):Foc w0 w' b E arr0 o sz ts cs T:=by
 obtain⟨arr,h1,h2,h3,h4⟩:=h.arr
 exact⟨⟨arr,h1.ext hx,h2,h3,h4⟩,h.own.ext hx,h.chg.trans (.of_ext hx),h.notin,h.len,h.fit,h.tlt,h.blt⟩
theorem zD{arr:Array Value}{o:Nat}{cs:List Value}(h:o+cs.length≤arr.size)(q:Nat):(splice arr o cs)[q]?=if q<o then arr[q]? else if q<o+cs.length then cs[q-o]? else arr[q]?:=by
 unfold splice
 rw [List.getElem?_toArray,List.append_assoc]
 by_cases h1:q<o
 ·rw [if_pos h1,List.getElem?_append_left (by simp;omega),List.getElem?_take,if_pos h1];simp
 ·rw [if_neg h1,List.getElem?_append_right (by simp;omega)]
  have hl:(List.take o arr.toList).length=o:=by simp;omega
  rw [hl]
  by_cases h2:q<o+cs.length
  ·rw [if_pos h2,List.getElem?_append_left (by omega)]
  ·rw [if_neg h2,List.getElem?_append_right (by omega),List.getElem?_drop,Array.getElem?_toList]
   congr 1;omega
theorem Foc.leaf{w0 wr w':World}{b:Nat}{E:TypeId}{arr0 arr:Array Value}{o sz:Nat}{ts:List Tr}{cs:List Value}{T:Nat→Prop}(h:Foc w0 wr b E arr0 o sz ts cs T){j:Nat}{u:Tr}{v:Value}(hj:ts[j]?=some u)(hv:oF v)
 (ha:OB wr b E arr) (hob:OB w' b E (splice arr (o+j) [v])) (hg:wr.grownBy w' (some b)):Foc w0 w' b E arr0 o sz (ts.set j (.leaf v)) (cs.set j v) T:=by
 obtain⟨arr1,h1,h2,h3,h4⟩:=h.arr
 have he:=ha.symm.trans h1
 injection he with he
 injection he with he
 subst he
 have hlt:j<ts.length:=(List.getElem?_eq_some_iff.1 hj).1
 have hsz:j<sz:=by rw [← h.len,h.own.1];exact hlt
 have hfit:=h.fit
 have hw:FY (fun x=>x=b) wr w':=FY.of_grown hg rfl
 refine⟨⟨_,hob,by rw [V8 (by simp;omega)];exact h2,?_,?_⟩,(h.own.setLeaf hj hv).keep fun x hx hxl=>hw.block x hxl (by rintro rfl;exact h.notin hx),h.chg.trans (hw.mono fun x hx=> .inl hx),h.notin,by rw [List.length_set];exact h.len,h.fit,h.tlt,h.blt⟩
 ·intro q hq
  rw [zD (by simp;omega)]
  simp only [List.length_cons,List.length_nil]
  rw [← h3 q hq]
  split
  ·rfl
  ·rw [if_neg (by omega)]
 ·intro i x hx
  rw [zD (by simp;omega)]
  simp only [List.length_cons,List.length_nil]
  rw [List.getElem?_set] at hx
  split at hx
  ·rename_i hji
   subst hji
   split at hx
   ·injection hx with hx
    subst hx
    rw [if_neg (by omega),if_pos (by omega)]
    simp
   ·simp at hx
  ·rename_i hji
   have:=h4 i x hx
   split
   ·exact this
   ·rw [if_neg (by omega)];exact this
theorem Foc.row{w0 wr:World}{b:Nat}{E:TypeId}{arr0:Array Value}{o sz:Nat}{ts:List Tr}{cs:List Value}{T:Nat→Prop}(h:Foc w0 wr b E arr0 o sz ts cs T){j:Nat}{t:Tr}{v:Value}(hj:ts[j]?=some t)(hv:cs[j]?=some v):
 ∃U:Nat→Prop,uH wr t v U∧(∀x,U x→x<wr.heap.size)∧ ∀w' t',uH w' t' v U→FY U wr w'→Foc w0 w' b E arr0 o sz (ts.set j t') cs T:=by
 obtain⟨U,hu1,hu2,hu3⟩:=h.own.setRow hj hv
 refine⟨U,hu1,fun x hx=>Nat.lt_of_lt_of_le (h.tlt x (hu2 x hx)) h.chg.size,fun w' t' ho hc=>?_⟩
 obtain⟨arr,h1,h2,h3,h4⟩:=h.arr
 have hnb: ¬U b:=fun hx=>h.notin (hu2 b hx)
 exact⟨⟨arr,(hc.block b h1.lt hnb).trans h1,h2,h3,h4⟩,hu3 w' t' ho fun x hxl _ hn=>hc.block x hxl hn,h.chg.trans (hc.mono fun x hx=> .inr (hu2 x hx)),h.notin,h.len,h.fit,h.tlt,h.blt⟩
theorem uH.take{w:World}{sz:Nat}{es:List (List Tr)}{a:Option Addr}{n cap i:Nat}{S:Nat→Prop}{e:List Tr}(h:uH w (.row sz es) (.slice a n cap) S)(hi:es[i]?=some e)(hl: ∀x∈es,x.length=sz)(hsz:0<sz)(hS: ∀x,S x→x<w.heap.size):
 ∃b off E arr cs T,a=some ⟨b,off,none⟩∧Foc w w b E arr (off+i*sz) sz e cs T∧gJ w e cs∧
  ∀w' cs' e',e'.length=sz→Foc w w' b E arr (off+i*sz) sz e' cs' T→uH w' (.row sz (es.set i e')) (.slice a n cap) S∧FY S w w':=by
 obtain⟨b,off,E,arr,cs,T,rfl,hob,hsb,how,hT,hcl,hfit,hc,hback⟩:=h.focus hi hl
 refine⟨b,off,E,arr,cs,T,rfl,⟨⟨arr,hob,rfl,fun _ _=>rfl,fun j v hv=>hc j v hv⟩,how,FY.refl _ _,fun hb=>(hT b hb).2 rfl,hcl,hfit hsz,fun x hx=>hS x (hT x hx).1,hob.lt⟩,how.rep,fun w' cs' e' he' hf=>?_⟩
 obtain⟨arr',h1,h2,h3,h4⟩:=hf.arr
 have hz:=hf.len
 have hfit:=hf.fit
 have harr:arr'=splice arr (off+i*sz) cs':=by
  apply Array.ext_getElem?
  intro q
  rw [zD (by omega)]
  split
  ·rename_i hq
   exact h3 q (.inl hq)
  ·split
   ·rename_i hq1 hq2
    obtain⟨v,hv⟩: ∃v,cs'[q-(off+i*sz)]?=some v:=⟨cs'[q-(off+i*sz)]'(by omega),List.getElem?_eq_getElem _⟩
    rw [hv,← h4 _ v hv]
    congr 1;omega
   ·rename_i hq1 hq2
    exact h3 q (.inr (by omega))
 rw [harr] at h1
 have hch:FY S w w':=hf.chg.mono fun x hx=>by rcases hx with rfl|hx;exact hsb;exact(hT x hx).1
 exact⟨hback w' cs' e' he' h1 hf.own (fun x hxl _ hne hnt=>hf.chg.block x hxl (by rintro(h|h);exact hne h;exact hnt h)) hf.fit,hch⟩
end Go.Proofs.YtpioomclpaiomaaGreat

namespace Go.Proofs.YtpioomclpaiomaaGreat
set_option linter.unusedSimpArgs false
set_option linter.unusedVariables false
open Go.RowKit Go.Proofs
theorem PZ{α:Type}(p:α→Bool): ∀(l:List α) (i:Nat),(PN p l i= -1∧ ∀x∈l,p x=false)∨ ∃k,∃h:k<l.length,PN p l i=((i+k:Nat):Int)∧p l[k]=true∧ ∀x∈l.take k,p x=false
 | [],i=> .inl ⟨rfl,fun x hx=>by simp at hx⟩
 |a::l,i=>by
  rw [PN]
  cases ha:p a with
  |true=>exact .inr ⟨0,by simp,by simp,by simpa using ha,by simp⟩
  |false=>
   rcases PZ p l (i+1) with⟨h1,h2⟩|⟨k,hk,h1,h2,h3⟩
   ·exact .inl ⟨by simpa using h1,fun x hx=>by
     rcases List.mem_cons.1 hx with rfl|hx
     ·exact ha
     ·exact h2 x hx⟩
   ·refine .inr ⟨k+1,by simpa using hk,?_,by simpa using h2,fun x hx=>?_⟩
    ·simp only [Bool.false_eq_true,if_false]
     rw [h1]
     congr 1
     omega
    ·rw [List.take_succ_cons] at hx
     rcases List.mem_cons.1 hx with rfl|hx
     ·exact ha
     ·exact h3 x hx
structure DG {α:Type} (p:α→Bool) (l:List α) (i j:Nat) (dk:List α):Prop where
 len:dk.length=l.length
 lt:i<j
 low:dk.take i=(l.take j).filter (fun x=> !p x)
 high: ∀q,j≤q→dk[q]?=l[q]?
theorem DG.start{α:Type}{p:α→Bool}{l:List α}{k:Nat}(hk:k<l.length)(ht:p l[k]=true)(hf: ∀x∈l.take k,p x=false):DG p l k (k+1) l:=by
 refine⟨rfl,by omega,?_,fun _ _=>rfl⟩
 rw [List.take_succ_eq_append_getElem hk,List.filter_append,List.filter_eq_self.2 (fun x hx=>by simp [hf x hx])]
 simp [ht]
theorem DG.keep{α:Type}{p:α→Bool}{l dk:List α}{i j:Nat}(h:DG p l i j dk)(hj:j<l.length)(hp:p l[j]=false):DG p l (i+1) (j+1) (dk.set i l[j]):=by
 have hl:=h.len
 have hlt:=h.lt
 refine⟨by simp [hl],by omega,?_,fun q hq=>?_⟩
 ·rw [List.take_succ_eq_append_getElem hj,List.filter_append,← h.low]
  rw [List.take_succ_eq_append_getElem (by simp;omega),List.take_set_of_le (Nat.le_refl _)]
  simp [hp]
 ·rw [List.getElem?_set_ne (by omega)]
  exact h.high q (by omega)
theorem DG.skip{α:Type}{p:α→Bool}{l dk:List α}{i j:Nat}(h:DG p l i j dk)(hj:j<l.length)(hp:p l[j]=true):DG p l i (j+1) dk:=by
 have hlt:=h.lt
 refine⟨h.len,by omega,?_,fun q hq=>h.high q (by omega)⟩
 rw [List.take_succ_eq_append_getElem hj,List.filter_append,← h.low]
 simp [hp]
theorem uH.head{w:World}{sz:Nat}{es:List (List Tr)}{a:Option Addr}{n cap i:Nat}{S:Nat→Prop}(h:uH w (.row sz es) (.slice a n cap) S)(hi:i≤es.length):uH w (.row sz (es.take i)) (.slice a i cap) S:=by
 cases h with
 |row c T h1 h2 h3 h4 h5 h6=>
  have hg: ∀q e,(es.take i)[q]?=some e→es[q]?=some e:=fun q e he=>by
   rw [List.getElem?_take] at he
   split at he
   ·exact he
   ·cases he
  have hl:(es.take i).length=i:=by simp;omega
  have:=uH.row (w:=w) (sz:=sz) (es:=es.take i) (a:=a) (cap:=cap) (S:=S) c T (by omega) h2 (fun hne=>by
   obtain⟨b,off,E,arr,ha,hob,hs,hc⟩:=h3 (fun h0=>hne (by rw [h0];simp))
   exact⟨b,off,E,arr,ha,hob,hs,fun q e he=>hc q e (hg q e he)⟩) (fun q e he=>h4 q e (hg q e he)) (fun q e he=>h5 q e (hg q e he)) (fun q e he j d hd q' e' he'=>h6 q e (hg q e he) j d hd q' e' (hg q' e' he'))
  rwa [hl] at this
theorem mA.flat{w0 w:World}{S:Nat→Prop}: ∀ {ts:List Tr} {cs:List Value},gJ w0 ts cs→(∀d∈ts,∃v,d= .leaf v)→mA w ts cs S
 | [],cs,h,_=>by
  obtain rfl:=gJ.nil_eq h
  exact mA.nil _ _
 |t::ts,cs,h,hf=>by
  obtain⟨v,rfl⟩:=hf t (by simp)
  cases cs with
  |nil=>exact h.elim
  |cons c cs=>
   obtain⟨rfl,hv⟩:=h.1.leaf_eq
   exact mA.cons_leaf hv (mA.flat h.2 fun d hd=>hf d (List.mem_cons_of_mem _ hd))
theorem NY(x:aE): ∀d∈aE.tr x,∃v,d= .leaf v:=by
 obtain⟨a,b⟩:=x
 intro d hd
 simp only [aE.tr,List.mem_append,List.mem_singleton,List.not_mem_nil,or_false] at hd
 rcases hd with rfl|rfl
 ·exact⟨_,rfl⟩
 ·exact⟨_,rfl⟩
theorem OM{P:Program}(t e ty:TypeId)(z:Value)(ht:P.underlying t=some (.slice e))(hv: ∀w,(zeroValue e).run P w= .ok z w)(B off n c:Nat)(E:TypeId)(arr:Array Value)(w:World)(hob:OB w B E arr)(hn:0<n)(zs:List Value)(hz:(Builtin.zeroCells z.cells n).toList=zs)
 (hfit:off+zs.length≤arr.size) (h1: ∀v∈zs,v.oneCell'=true):(Builtin.clear_ #[t] ty #[.slice (some ⟨B,off,none⟩) n c]).run P w= .ok (.tuple #[]) (w.setRow B (splice arr off zs)):=by
 have hst:=run_storeCells_at P B off E zs 0 arr w hob (by simpa using hfit) h1
 simp only [Nat.add_zero] at hst
 obtain⟨m,rfl⟩: ∃m,n=m+1:=⟨n-1,by omega⟩
 simp [Builtin.clear_,run_underlying ht,hv,hz,hst,splice]
theorem uH.cellsSame{w w':World}{sz b off n cap:Nat}{es:List (List Tr)}{S:Nat→Prop}{E E':TypeId}{arr arr':Array Value}(h:uH w (.row sz es) (.slice (some ⟨b,off,none⟩) n cap) S)(hob:OB w b E arr)(hob':OB w' b E' arr')
 (hc: ∀q j,q<es.length→j<sz→arr'[off+q*sz+j]?=arr[off+q*sz+j]?) (hl: ∀e∈es,e.length=sz) (hf: ∀e∈es,∀d∈e,∃v,d= .leaf v):uH w' (.row sz es) (.slice (some ⟨b,off,none⟩) n cap) S:=by
 cases h with
 |row c T h1 h2 h3 h4 h5 h6=>
  refine .row c (fun _ _ _=>False) h1 h2 (fun hne=>?_) (fun i e he j d hd=>?_) (fun _ _ _ _ _ _ x hx=>hx.elim) (fun _ _ _ _ _ _ _ _ _ _ _ _ _ x hx=>hx.elim)
  ·obtain⟨b1,off1,E1,arr1,ha,ho,hs,hcc⟩:=h3 hne
   obtain⟨rfl,rfl⟩:b=b1∧off=off1:=by simpa using ha
   have he:arr1=arr∧E1=E:=by
    have:=ho.symm.trans hob
    simpa using this
   obtain⟨rfl,rfl⟩:=he
   refine⟨b,off,E',arr',rfl,hob',hs,fun i e he j d hd=>⟨?_,fun x hx=>hx.elim⟩⟩
   have hle:=hl e (List.mem_of_getElem? he)
   rw [hc i j (List.getElem?_eq_some_iff.1 he).1 (by rw [← hle];exact(List.getElem?_eq_some_iff.1 hd).1)]
   exact(hcc i e he j d hd).1
  ·obtain⟨v,rfl⟩:=hf e (List.mem_of_getElem? he) d (List.mem_of_getElem? hd)
   obtain⟨hv,hl⟩:=(h4 i e he j _ hd).rep.leaf_eq
   rw [hv]
   exact .leaf hl
theorem YY(a b:Value)(n:Nat):(Builtin.zeroCells #[a,b] n).toList.length=n*2∧ ∀v∈(Builtin.zeroCells #[a,b] n).toList,v=a∨v=b:=by
 refine⟨by simp [Builtin.zeroCells],fun v hv=>?_⟩
 simp only [Builtin.zeroCells,Array.toList_map,List.mem_map] at hv
 obtain⟨i,_,rfl⟩:=hv
 have:i%2=0∨i%2=1:=by omega
 rcases this with h|h<;>simp [h]
set_option maxRecDepth 100000 in
set_option maxHeartbeats 2000000 in
theorem MM(l:List aE)(p:aE→Bool)(g:FuncId)(caps:Array Value)(hg: ∀(args:Array Value) (w:World),(callFunc g args).run Tryz.prog w= .ok (.enter g args) w)(s:Value)(w:World)(S:Nat→Prop)(hS: ∀x,S x→x<w.heap.size)
 (H: ∀x∈l,∀cs W,FY S w W→gJ W (aE.tr x) cs→Calls Tryz.prog g (#[.agg ⟨cs⟩]++caps) W fun e W'=>e= .returned (.bool (p x))∧oU W W')
 (hs:uH w (.row 2 (l.map aE.tr)) s S):
 Calls Tryz.prog 72 #[s,.func (.func g) #[] caps] w fun e w'=> ∃v,e= .returned v∧FY S w w'∧uH w' (.row 2 ((l.filter (fun x=> !p x)).map aE.tr)) v S:=by
 obtain⟨a,cap,rfl,hlc,hm⟩:=hs.rep.shape
 unfold maxLen at hm
 rw [List.length_map] at hlc
 rw [List.length_map] at hs ⊢
 have HS:=Lib.hid hs
 have HH:=Lib.hid H
 have HSS:=Lib.hid hS
 clear hs H hS
 go_enter Tryz.func72,Tryz.ntmps72
 go_wp2_with fail
 refine(OV aE.tr p l g caps hg aE.tr_len _ _ (fun x hx cs w' hw hr=>HH.out x hx cs w' (.of_ext hw) hr) HS.out.rep).mono ?_;rintro e w1 ⟨rfl,hw1⟩
 have HW1:=Lib.hid hw1
 clear hw1
 rcases PZ p l 0 with⟨e1,hall⟩|⟨k0,hk0,e1,ht,hall⟩
 ·have HA:=Lib.hid hall
  rw [e1]
  clear hall e1
  go_wp2_with fail
  go_ret
  refine⟨_,rfl,.of_ext HW1.out,?_⟩
  rw [List.filter_eq_self.2 (fun x hx=>by simp [HA.out x hx])]
  exact HS.out.ext HW1.out
 ·have HD:=Lib.hid (DG.start hk0 ht hall)
  rw [e1,Nat.zero_add]
  clear ht hall e1
  have hne: ¬((k0:Int)= -1):=by omega
  go_wp2_with fail
  go_loopw [5,6] (fun iv jv wr=> ∃(i j:Nat) (dk:List aE),iv= .int .i64 i∧jv= .int .i64 j∧i<j∧j≤l.length∧Hid (DG p l i j dk)∧Hid (FY S w wr)∧Hid (uH wr (.row 2 (dk.map aE.tr)) (.slice a l.length cap) S)) (fun _ jv _=>l.length-(intOf jv).toNat)
  case atStart=>exact⟨k0,k0+1,l,rfl,by go_num,by omega,by omega,HD.out,FY.of_ext HW1.out,HS.out.ext HW1.out⟩
  case round=>
   obtain⟨i,j,dk,rfl,rfl,hij,hjl,HD1,HC1,HO1⟩:=hrel
   by_cases hlt:j<l.length
   ·have hdl:=HD1.out.len
    have hjd:dk[j]?=some l[j]:=by rw [HD1.out.high j (Nat.le_refl _)];exact List.getElem?_eq_getElem hlt
    obtain⟨b,off,cs,rfl,hb,hcs,hc⟩:=(HO1.out.rep).at2 (k:=j) (e:=aE.tr l[j]) (by rw [List.getElem?_map,hjd];rfl)
    have HM:=Lib.hid (List.getElem_mem hlt)
    have HCS:=Lib.hid hcs
    have HC:=Lib.hid hc
    have HCL:Hid (cs.length=2):=by rw [← hcs.length];exact aE.tr_len _
    have HI:Hid ((Tryz.prog.info? 45).map (·.size)=some cs.length):=by rw [HCL.out];exact agD
    have HDL:=Lib.hid hdl
    clear hcs hc hdl hjd
    go_wp2_with (first
     |(refine iQ rfl 45 (.tmp 24) rfl b (off+j*2) rfl cs _ Tryz.underlying45 HI.out HC.out ?_)
     |(refine wR rfl 45 (.tmp 7) (.tmp 25) rfl wr.heap.size 0 rfl cs rfl 45 _ (OB.new wr _ _) HI.out (by rw [HCL.out];exact Nat.le_refl _) HCS.out.one ?_;intro w2 hob hgb hzb;rw [SO (by rw [HCL.out];rfl)] at hob;have HOB:=Lib.hid hob;have HXB:=Lib.hid (ab1 (.alloc (.refl wr) _) hgb (Nat.le_refl _));clear hob hgb hzb)
     |(refine iQ rfl 45 (.tmp 7) rfl wr.heap.size 0 rfl cs _ Tryz.underlying45 HI.out HOB.out.cells0 ?_))
    refine(HH.out _ HM.out cs w2 (HC1.out.trans (.of_ext HXB.out)) (HCS.out.ext HXB.out)).mono ?_;rintro e w3 ⟨rfl,hw3⟩
    have HW3:=Lib.hid (HXB.out.trans hw3)
    have HOB3:=Lib.hid (HOB.out.ext hw3)
    have HC3:=Lib.hid (HC1.out.trans (.of_ext HW3.out))
    have HO3:=Lib.hid (HO1.out.ext HW3.out)
    clear hw3
    cases hp:p l[j] with
    |true=>
     have HP:=Lib.hid hp
     clear hp
     go_wp2_with fail
     refine⟨⟨_,_,_,_,_,_,_,_,_,_,_,_,_,_,_,_,_,_,_,_,_,_,_,?rel,rfl⟩,?measure⟩
     case rel=>exact⟨i,j+1,dk,rfl,by go_num,by omega,by omega,HD1.out.skip hlt HP.out,HC3.out,HO3.out⟩
     case measure=>simp [intOf];omega
    |false=>
     have HP:=Lib.hid hp
     clear hp
     have hid:i<dk.length:=by have:=HDL.out;omega
     obtain⟨b2,off2,E0,arr0,cs0,T,hab,hob,hsb,how,hT,hcl,hfit,hcc,hback⟩:=HO3.out.focus (i:=i) (e:=aE.tr dk[i]) (by rw [List.getElem?_map,List.getElem?_eq_getElem hid];rfl) (by intro x hx;obtain⟨y,_,rfl⟩:=List.mem_map.1 hx;exact aE.tr_len _)
     obtain⟨rfl,rfl⟩:b=b2∧off=off2:=by simpa using hab
     have HOBb:=Lib.hid hob
     have HSB:=Lib.hid hsb
     have HBK:=Lib.hid hback
     have HFIT:=Lib.hid (hfit (by omega))
     clear hob hsb how hT hcl hfit hcc hback hab
     go_wp2_with (first
      |(refine iQ rfl 45 (.tmp 7) rfl wr.heap.size 0 rfl cs _ Tryz.underlying45 HI.out HOB3.out.cells0 ?_)
      |(refine wR rfl 45 (.tmp 33) (.tmp 32) rfl b (off+i*2) rfl cs rfl E0 arr0 HOBb.out HI.out (by rw [HCL.out];exact HFIT.out) HCS.out.one ?_;intro w4 hob4 hg4 hz4;have HOB4:=Lib.hid hob4;have HG4:=Lib.hid hg4;clear hob4 hg4 hz4))
     refine⟨⟨_,_,_,_,_,_,_,_,_,_,_,_,_,_,_,_,_,_,_,_,_,_,_,?rel,rfl⟩,?measure⟩
     case rel=>
      refine⟨i+1,j+1,dk.set i l[j],by go_num,by go_num,by omega,by omega,HD1.out.keep hlt HP.out,HC3.out.trans (FY.of_grown HG4.out HSB.out),?_⟩
      show uH _ _ _ _
      rw [List.map_set]
      exact HBK.out w4 cs _ (aE.tr_len _) HOB4.out (mA.flat HCS.out (NY _)) (fun x hx _ hne _=>HG4.out.block x hx (by simpa using hne)) HFIT.out
     case measure=>simp [intOf];omega
   ·obtain rfl:j=l.length:=by omega
    have hdl:=HD1.out.len
    have hil:l.length-1<dk.length:=by omega
    obtain⟨b,off,E0,arr0,cs0,T,rfl,hob,hsb,how,hT,hcl,hfit,hcc,hback⟩:=HO1.out.focus (i:=l.length-1) (e:=aE.tr dk[l.length-1]) (by rw [List.getElem?_map,List.getElem?_eq_getElem hil];rfl) (by intro x hx;obtain⟨y,_,rfl⟩:=List.mem_map.1 hx;exact aE.tr_len _)
    have HOBb:=Lib.hid hob
    have HSB:=Lib.hid hsb
    have hfit2:=hfit (by omega)
    have hfz:off+i*2+(l.length-i)*2≤arr0.size:=by omega
    have HDL:=Lib.hid hdl
    clear hob hsb how hT hcl hfit hcc hback hil hfit2 hdl
    obtain⟨hzl,hzm⟩:=YY (.int .i64 0) (.int .i64 0) (l.length-i)
    have hz33: ∀w,(zeroValue 45).run Tryz.prog w= .ok (.agg #[.int .i64 0,.int .i64 0]) w:=fun w=>rfl
    have hcl: ∀ty,(Builtin.clear_ #[48] ty #[.slice (some ⟨b,off+i*2,none⟩) (l.length-i) (cap-i)]).run Tryz.prog wr= .ok (.tuple #[]) (wr.setRow b (splice arr0 (off+i*2) (Builtin.zeroCells #[.int .i64 0,.int .i64 0] (l.length-i)).toList)):=fun ty=>
     OM 48 45 ty (.agg #[.int .i64 0,.int .i64 0]) Tryz.underlying48 hz33 b (off+i*2) (l.length-i) (cap-i) E0 arr0 wr HOBb.out (by omega) _ rfl (by rw [hzl];exact hfz) (fun v hv=>by rcases hzm v hv with rfl|rfl<;>rfl)
    have HFZ:=Lib.hid hfz
    have HZL:=Lib.hid hzl
    clear hzm hz33 hfz hzl
    generalize(Builtin.zeroCells #[.int .i64 0,.int .i64 0] (l.length-i)).toList=zs at*
    go_wp2_with fail
    go_ret
    have hob5:OB (wr.setRow b (splice arr0 (off+i*2) zs)) b E0 (splice arr0 (off+i*2) zs):=setRow_heap wr b arr0 _ E0 _ HOBb.out
    refine⟨_,rfl,HC1.out.trans ?_,?_⟩
    ·exact⟨rfl,rfl,rfl,by simp,fun k _ hk=>setRow_other wr b k _ (fun e=>hk (by rw [e];exact HSB.out))⟩
    ·have hd:=HD1.out.low
     rw [List.take_length] at hd
     rw [← hd,List.map_take]
     have hh:=HO1.out.head (i:=i) (by have:=HDL.out;simp;omega)
     have:=HDL.out
     refine hh.cellsSame HOBb.out hob5 (fun q j hq hj=>?_) (fun e he=>?_) (fun e he=>?_)
     ·have hq2:q<i:=by rw [List.length_take] at hq;omega
      rw [zD (by rw [HZL.out];exact HFZ.out),if_pos (by omega)]
     ·obtain⟨y,_,rfl⟩:=List.mem_map.1 (List.mem_of_mem_take he)
      exact aE.tr_len _
     ·obtain⟨y,_,rfl⟩:=List.mem_map.1 (List.mem_of_mem_take he)
      exact NY _
end Go.Proofs.YtpioomclpaiomaaGreat

namespace Go.Proofs.YtpioomclpaiomaaGreat
set_option linter.unusedSimpArgs false
set_option linter.unusedVariables false
open Go.RowKit Go.WalkArith Go.IntWalk Go.WideShapes
theorem fZ.set{ok:Nat→Nat→Prop}{st:cU}{m:iH}{w:World}{q:PV}: ∀ {ps:List PV} {vs:List Value} {j:Nat},fZ ok st m w ps vs→(∀v,vs[j]?=some v→RV ok st m w q v)→fZ ok st m w (ps.set j q) vs
 | [],[],j,_,_=>by simp [fZ]
 |p::ps,v::vs,0,h,k=>⟨k v rfl,h.2⟩
 |p::ps,v::vs,j+1,h,k=>⟨h.1,fZ.set h.2 fun u hu=>k u (by simpa using hu)⟩
 | [],_::_,_,h,_=>h.elim
 |_::_,[],_,h,_=>h.elim
section
variable {P:Program} {C:oE} {n:Nat} {s:AS}
theorem Wk.regBox{k j:Nat}{bx:cV}(E sz:Nat)(hsz:0<sz)(hb:s.st.boxes[k]?=some (some bx))(hj:bx.cells[j]?=some .nil):
 Wk C n s ⟨s.env,(s.st.addRow ⟨E,sz,[],false⟩).setBox k ⟨bx.ty,bx.cells.set j (.acc sz [] s.st.rows.length)⟩⟩:=fun m a w h=>by
 have hE:=QF (row:=⟨E,sz,[],false⟩) h.sto
 have hS:=Z7 (row:=⟨E,sz,[],false⟩) h.sto hsz rfl
 have h1:=h.step hE hS
 have hb1:(s.st.addRow ⟨E,sz,[],false⟩).boxes[k]?=some (some bx):=hb
 obtain⟨vs,hob,hcs⟩:=hS.box k bx hb1
 have hc:fZ (jL C.av (s.st.addRow ⟨E,sz,[],false⟩) ⟨m.ρ,zQ m.γ s.st.rows.length none⟩) (s.st.addRow ⟨E,sz,[],false⟩) ⟨m.ρ,zQ m.γ s.st.rows.length none⟩ w (bx.cells.set j (.acc sz [] s.st.rows.length)) vs:=by
  refine fZ.set hcs fun v hv=>?_
  obtain⟨u,hu,hr⟩:=hcs.get hj
  rw [hv] at hu
  cases hu
  obtain rfl:=(show v=_ from hr)
  exact⟨⟨E,sz,[],false⟩,by show(s.st.rows++ [_])[s.st.rows.length]?=_;simp,rfl,Nat.le_refl _,cF.nilRow _ _ _ _ (by unfold maxLen;omega),fun _=>by simp [b9,YW]⟩
 exact⟨_,h1.step (JE hS hb1 rfl rfl rfl rfl fun _ _=>rfl) (NB hS hb1 rfl rfl rfl rfl (fun _ _=>rfl) hob hc)⟩
end
end Go.Proofs.YtpioomclpaiomaaGreat

namespace Go.Proofs.YtpioomclpaiomaaGreat
open Go.RowKit Go.WalkArith Go.IntWalk Go.WideShapes
section
variable {P:Program} {C:oE} {n:Nat} {s:AS} {o:Oper}
theorem af2{T:TypeId}(hT:P.underlying T=some .bool)(a b:Bool)(w:World):(Op.equalIn Op.maxDepth T (.bool a) (.bool b)).run P w= .ok (a==b) w:=by
 unfold Op.maxDepth Op.equalIn
 simp [run_underlying hT]
theorem aW.neqB{T yT:TypeId}{x y:Operand}{a b:Bool}(ho:o.op= .binOp .neq T x y yT)(hd:bQ o.dst n=true)(hx:s.ev x=some (.t (.leaf (.bool a))))(hy:s.ev y=some (.t (.leaf (.bool b))))(hT:P.underlying T=some .bool):
 aW P C n o s (s.putO o.dst (.t (.leaf (.bool (!decide (a=b)))))):=aW.bin ho hd hx hy (fun w=>by
  simp [eqGuard,binOp,Op.equal,af2 hT]
  cases a<;>cases b<;>rfl) trivial
end
end Go.Proofs.YtpioomclpaiomaaGreat

namespace Go.Proofs.YtpioomclpaiomaaGreat
set_option linter.unusedSimpArgs false
set_option linter.unusedVariables false
open Go.RowKit Go.WalkArith Go.IntWalk Go.WideShapes
inductive LR (σ β:Type) where
 |next (s:σ)
 |brk (s:σ)
 |ret (x:β)
def sw{α:Type}(b:Bool)(x y:α):α:=match b with
 |true=>x
 |false=>y
theorem swT{α:Type}{b:Bool}{x y z:α}(h:b=true)(k:x=z):sw b x y=z:=by rw [h];exact k
theorem XM{α:Type}{b:Bool}{x y z:α}(h:b=false)(k:y=z):sw b x y=z:=by rw [h];exact k
def lt{α β:Type}(x:α)(f:α→β):β:=f x
theorem ltE{α β:Type}{x y:α}{f:α→β}{z:β}(h:y=x)(k:f y=z):lt x f=z:=by subst h;exact k
noncomputable def gd{α:Type}(p:Prop)(x:Option α):Option α:= @ite _ p (Classical.propDecidable p) x none
theorem gdT{α:Type}{p:Prop}{x z:Option α}(h:p)(k:x=z):gd p x=z:=by unfold gd;rw [if_pos h];exact k
theorem gdF{α:Type}{p:Prop}{x:Option α}(h: ¬p):gd p x=none:=by unfold gd;rw [if_neg h]
def bd{α β:Type}(m:Option α)(f:α→Option β):Option β:=match m with
 |none=>none
 |some a=>f a
def so{σ β:Type}(m:Option (β⊕σ))(f:σ→Option β):Option β:=match m with
 |none=>none
 |some (.inl x)=>some x
 |some (.inr s)=>f s
def loopN{σ β:Type}(f:Nat→σ→Option (LR σ β)):Nat→Nat→σ→Option (β⊕σ)
 |0,_,s=>some (.inr s)
 |k+1,i,s=>match f i s with
  |none=>none
  |some (.next s')=>loopN f k (i+1) s'
  |some (.brk s')=>some (.inr s')
  |some (.ret x)=>some (.inl x)
def loopW{σ β:Type}(f:σ→Option (LR σ β)):Nat→σ→Option (β⊕σ)
 |0,_=>none
 |k+1,s=>match f s with
  |none=>none
  |some (.next s')=>loopW f k s'
  |some (.brk s')=>some (.inr s')
  |some (.ret x)=>some (.inl x)
section
variable {σ β:Type} {f:Nat→σ→Option (LR σ β)} {n i:Nat} {s s':σ} {x:β} {R:Option (β⊕σ)}
theorem vD(h:i<n)(hJ:R=loopN f (n-i) i s)(e:f i s=some (.next s')):R=loopN f (n-(i+1)) (i+1) s':=by
 rw [hJ,show n-i=(n-(i+1))+1 by omega,loopN,e]
theorem adF(h:i<n)(hJ:R=loopN f (n-i) i s)(e:f i s=some (.brk s')):R=some (.inr s'):=by
 rw [hJ,show n-i=(n-(i+1))+1 by omega,loopN,e]
theorem ac9(h:i<n)(hJ:R=loopN f (n-i) i s)(e:f i s=some (.ret x)):R=some (.inl x):=by
 rw [hJ,show n-i=(n-(i+1))+1 by omega,loopN,e]
theorem ab2(h:n≤i)(hJ:R=loopN f (n-i) i s):R=some (.inr s):=by
 rw [hJ,show n-i=0 by omega,loopN]
end
section
variable {σ β:Type} {f:σ→Option (LR σ β)} {k:Nat} {s s':σ} {x:β} {R:Option (β⊕σ)}
end
section
variable {P:Program} {C:oE} {n:Nat} {s:AS} {Q:Exit→AS→Prop}
def QC(C:oE)(n:Nat)(Q:Exit→AS→Prop):Prop:= ∀e s s',Wk C n s s'→Q e s'→Q e s
def NC(C:oE)(n:Nat)(N:AS→Prop):Prop:= ∀s s',Wk C n s s'→N s'→N s
theorem aiP{c:Code}:NC C n (aO P C n c Q):=fun _ _ h k=>aO.weak h k
theorem ahL{N:AS→Prop}(hn:NC C n N)(hq:QC C n Q):QC C n (WX N Q):=fun e s s' h k=>by
 cases e with
 |normal=>exact hn s s' h k
 |_=>exact hq _ s s' h k
theorem afS{id:Nat}(hq:QC C n Q):QC C n (s8 id Q):=fun e s s' h k=>by
 cases e with
 |exit i=>
  simp only [s8] at k ⊢
  split
  ·rename_i hi;rw [if_pos hi] at k;exact hq _ s s' h k
  ·rename_i hi;rw [if_neg hi] at k;exact hq _ s s' h k
 |_=>exact hq _ s s' h k
theorem agX{fn:Func}{R:PV→cU→Prop}:QC C n (uW P C n fn R):=fun e s s' h k=>⟨k.1,fun m a w hr=>by
 obtain⟨m',h'⟩:=h m a w hr
 exact k.2 m' a w h'⟩
end
end Go.Proofs.YtpioomclpaiomaaGreat

namespace Go.Proofs.YtpioomclpaiomaaGreat
set_option linter.unusedSimpArgs false
set_option linter.unusedVariables false
open Go.RowKit Go.WalkArith Go.IntWalk Go.WideShapes
section
variable {P:Program} {C:oE} {n:Nat} {s:AS} {o:Oper}
theorem Wk.full{i E sz N r:Nat}{es:List (List Tr)}{b:Bool}(hx:s.lk i=some (.full sz N r))(hrow:s.st.rows[r]?=some ⟨E,sz,es,b⟩)(hl:es.length=N):Wk C n s (s.put i (.t (.row sz es))):=fun m a w h=>by
 refine⟨m,h.dfr,h.tsz,h.sto,fun j q hq=>?_,h.ev⟩
 rw [AS.lk_put] at hq
 split at hq
 ·rename_i e
  subst e
  cases hq
  obtain⟨v,hv,row,g,q1,q2,q3,q4,q5⟩:=h.env j _ hx
  refine⟨v,hv,?_⟩
  rw [hrow] at q1
  cases q1
  obtain⟨-,-,hplace⟩:=h.sto.row r _ hrow
  rcases hplace with⟨z1,-⟩|⟨g',c',cur,z1,hob,hcs,hfit,hmax,hrep⟩
  ·rw [q4] at z1;cases z1
  rw [q4] at z1
  injection z1 with z1
  injection z1 with e1 e2
  subst e1 e2
  subst q5
  show cF _ _ (.row sz es) _
  have:cF (jL C.av s.st m) w (.row sz es) (.slice (some ⟨g,0,none⟩) es.length N):=hrep
  rw [hl] at this
  exact this
 ·exact h.env j q hq
end
end Go.Proofs.YtpioomclpaiomaaGreat

namespace Go.Proofs.YtpioomclpaiomaaGreat
set_option linter.unusedSimpArgs false
set_option linter.unusedVariables false
open Go.RowKit Go.WalkArith Go.IntWalk Go.WideShapes
def y2(v:ByteArray)(k:Nat):UInt8:=(v[k]?).getD 0
section
variable {P:Program} {C:oE} {n:Nat} {s:AS} {o:Oper}
theorem aiT(b:UInt8):oF (.int .u8 (b.toNat:Int)):=by
 have:=b.toNat_lt
 simp [oF,Lit.wf,IntKind.min,IntKind.max,IntKind.bits,IntKind.signed]
 omega
theorem aW.indexS{T:TypeId}{x i:Operand}{v:ByteArray}{k:Nat}(ho:o.op= .index T x i)(hd:bQ o.dst n=true)(hx:s.ev x=some (.t (.leaf (.string v))))(hi:s.ev i=some (.t (.leaf (.int .i64 (k:Int)))))(hk:k<v.size)(hT:P.underlying T=some .string):
 aW P C n o s (s.putO o.dst (.t (.leaf (.int .u8 ((y2 v k).toNat:Int))))):=
 aW.quiet (cW hd) fun m a w h=>by
  have h1:=(cF.leaf_eq (h.eval hx)).1
  have h2:=(cF.leaf_eq (h.eval hi)).1
  refine⟨.int .u8 ((y2 v k).toNat:Int),?_,cF.leaf (aiT _)⟩
  have h3:v[k]?=some v[k]:=by simp [hk]
  unfold execOp
  simp [ho,h1,h2,Instr.index,asIntOf,run_underlying hT,h3,y2]
theorem aW.indexSI{T:TypeId}{x i:Operand}{v:ByteArray}{y:Int}(ho:o.op= .index T x i)(hd:bQ o.dst n=true)(hx:s.ev x=some (.t (.leaf (.string v))))(hi:s.ev i=some (.t (.leaf (.int .i64 y))))(h0:0≤y)(hk:y.toNat<v.size)(hT:P.underlying T=some .string):
 aW P C n o s (s.putO o.dst (.t (.leaf (.int .u8 ((y2 v y.toNat).toNat:Int))))):=
 aW.indexS (k:=y.toNat) ho hd hx (by rw [hi,Int.toNat_of_nonneg h0]) hk hT
def JT(s:AS):Option Operand→Option Int
 |none=>some 0
 |some x=>match s.ev x with
  |some (.t (.leaf (.int .i64 y)))=>some y
  |_=>none
def wO(s:AS)(len:Nat):Option Operand→Option Int
 |none=>some (len:Int)
 |some x=>match s.ev x with
  |some (.t (.leaf (.int .i64 y)))=>some y
  |_=>none
theorem ZS{m:iH}{a:Act}{w:World}(h:RA C n s m a w){x:Operand}{y:Int}(hx:s.ev x=some (.t (.leaf (.int .i64 y)))):a.eval x= .int .i64 y:=(cF.leaf_eq (h.eval hx)).1
theorem JT.some'{x:Operand}{y:Int}(h:JT s (some x)=some y):s.ev x=some (.t (.leaf (.int .i64 y))):=by
 unfold JT at h
 simp only at h
 split at h
 ·rename_i z hz
  simp only [Option.some.injEq] at h
  rw [hz,h]
 ·cases h
theorem wO.some'{x:Operand}{y:Int}{len:Nat}(h:wO s len (some x)=some y):s.ev x=some (.t (.leaf (.int .i64 y))):=by
 unfold wO at h
 simp only at h
 split at h
 ·rename_i z hz
  simp only [Option.some.injEq] at h
  rw [hz,h]
 ·cases h
theorem N3{m:iH}{a:Act}{w:World}(h:RA C n s m a w){isS:Bool}{len cap:Nat}{lo hi:Option Operand}{l k:Int}(hlen:len≤cap)(h1:JT s lo=some l)(h2:wO s len hi=some k)(h3:0≤l)(h4:l≤k)(h5:k≤(len:Int)):
 (Instr.sliceBounds isS len cap (lo.map a.eval) (hi.map a.eval) none).run P w= .ok (l.toNat,k.toNat,cap) w:=by
 have hk:0≤k:=by omega
 have hkc:k≤(cap:Int):=by omega
 have hlk:l≤(k.toNat:Int):=by omega
 cases lo with
 |none=>
  simp only [JT,Option.some.injEq] at h1
  subst h1
  cases hi with
  |none=>
   simp only [wO,Option.some.injEq] at h2
   subst h2
   simp [Instr.sliceBounds]
  |some y=>
   have e:=ZS h (wO.some' h2)
   simp [Instr.sliceBounds,Instr.sliceBound,e,asIntOf,hk,hkc]
 |some x=>
  have e:=ZS h (JT.some' h1)
  cases hi with
  |none=>
   simp only [wO,Option.some.injEq] at h2
   subst h2
   simp [Instr.sliceBounds,Instr.sliceBound,e,asIntOf,h3,h4]
  |some y=>
   have e2:=ZS h (wO.some' h2)
   have hm:max k 0=k:=Int.max_eq_left hk
   simp [Instr.sliceBounds,Instr.sliceBound,e,e2,asIntOf,hk,hkc,h3,hlk,hm,h4]
   try omega
theorem aW.sliceS{T:TypeId}{x:Operand}{lo hi:Option Operand}{v:ByteArray}{l k:Int}(ho:o.op= .slice T x lo hi none)(hd:bQ o.dst n=true)(hx:s.ev x=some (.t (.leaf (.string v))))(h1:JT s lo=some l)(h2:wO s v.size hi=some k)(h3:0≤l∧l≤k∧k≤(v.size:Int))(hT:P.underlying T=some .string):
 aW P C n o s (s.putO o.dst (.t (.leaf (.string (v.extract l.toNat k.toNat))))):=
 aW.quiet (cW hd) fun m a w h=>by
  obtain⟨e,h6⟩:=cF.leaf_eq (h.eval hx)
  have h6:v.size≤maxLen:=h6
  refine⟨.string (v.extract l.toNat k.toNat),?_,cF.leaf ?_⟩
  ·have hb:=N3 (P:=P) h (isS:=false) (Nat.le_refl v.size) h1 h2 h3.1 h3.2.1 h3.2.2
   unfold execOp
   simp [ho,e,Instr.sliceAt,Instr.slice,run_underlying hT,hb]
  ·show(v.extract l.toNat k.toNat).size≤maxLen
   rw [ByteArray.size_extract]
   omega
theorem cF.part{ok:Nat→Nat→Prop}{w:World}{sz:Nat}{es:List (List Tr)}{a:Option Addr}{cap l k:Nat}(h:cF ok w (.row sz es) (.slice a es.length cap))(h1:l≤k)(h2:k≤es.length):cF ok w (.row sz ((es.take k).drop l)) (.slice (if cap=l then a else a.map (·.add (l*sz))) (k-l) (cap-l)):=by
 cases h with
 |row c q1 q2 q3 q4=>
  have hlen:((es.take k).drop l).length=k-l:=by simp;omega
  have hget: ∀(i:Nat) e,((es.take k).drop l)[i]?=some e→es[l+i]?=some e:=fun i e he=>by
   rw [List.getElem?_drop,List.getElem?_take] at he
   split at he
   ·exact he
   ·cases he
  have:=cF.row (ok:=ok) (w:=w) (sz:=sz) (es:=(es.take k).drop l) (a:=if cap=l then a else a.map (·.add (l*sz))) (cap:=cap-l) (fun i j=>c (l+i) j) (by rw [hlen];omega) (by omega) (fun hne=>?_) (fun i e he j d hd=>q4 _ e (hget i e he) j d hd)
  ·rwa [hlen] at this
  ·have hkl:l<k:=by
    rcases Nat.lt_or_ge l k with h|h
    ·exact h
    ·exact absurd (List.length_eq_zero_iff.1 (by rw [hlen];omega)) hne
   obtain⟨b,off,rfl,hb,q5⟩:=q3 (by rintro rfl;simp at h2;omega)
   refine⟨b,off+l*sz,?_,hb,fun i e he j d hd=>?_⟩
   ·rw [if_neg (by omega)]
    have hadd:(⟨b,off,none⟩:Addr).add (l*sz)=⟨b,off+l*sz,none⟩:=by unfold Addr.add;split<;>simp_all
    simp [hadd]
   ·have:=q5 (l+i) e (hget i e he) j d hd
    rw [show off+l*sz+i*sz+j=off+(l+i)*sz+j by rw [Nat.add_mul];omega]
    exact this
theorem aW.sliceR{T E sz by_:Nat}{x:Operand}{lo hi:Option Operand}{p:PV}{es:List (List Tr)}{l k:Int}(ho:o.op= .slice T x lo hi none)(hd:bQ o.dst n=true)(hx:s.ev x=some p)(hp:lF p=some (sz,es))(h1:JT s lo=some l)(h2:wO s es.length hi=some k)(h3:0≤l∧l≤k∧k≤(es.length:Int))(hT:elemOf? P T=some (E,sz,by_)):
 aW P C n o s (s.putO o.dst (.t (.row sz ((es.take k.toNat).drop l.toNat)))):=
 aW.quiet (cW hd) fun m a w h=>by
  have hr:=sU hp (h.eval hx)
  obtain⟨i,hu,hi',hs,-⟩:=elemOf?.spec hT
  obtain⟨ad,cap,hv,hlc,hcm⟩:=hr.shape
  rw [hv] at hr
  refine⟨_,?_,hr.part (l:=l.toNat) (k:=k.toNat) (by omega) (by omega)⟩
  have hb:=N3 (P:=P) h (isS:=true) hlc h1 h2 h3.1 h3.2.1 h3.2.2
  unfold execOp
  simp [ho,hv,Instr.sliceAt,Instr.slice,run_underlying hu,hb,Go.sizeOf,typeInfo,hi',hs]
theorem aW.neqP{T yT:TypeId}{x y:Operand}{a b c d:Int}(ho:o.op= .binOp .neq T x y yT)(hd:bQ o.dst n=true)(hx:s.ev x=some (.agg [.t (.leaf (.int .i64 a)),.t (.leaf (.int .i64 b))]))(hy:s.ev y=some (.agg [.t (.leaf (.int .i64 c)),.t (.leaf (.int .i64 d))]))
 (hg:P.eqGuardType P.depth T=false) (hq: ∀(a b c d:Int) (w:World),(Op.equalIn Op.maxDepth T (.agg #[.int .i64 a,.int .i64 b]) (.agg #[.int .i64 c,.int .i64 d])).run P w= .ok (decide (a=c)&&decide (b=d)) w):
 aW P C n o s (s.putO o.dst (.t (.leaf (.bool (!(decide (a=c)&&decide (b=d))))))):=
 aW.quiet (cW hd) fun m ac w h=>by
  obtain⟨vs,h1,h2⟩:=h.eval hx
  obtain⟨us,k1,k2⟩:=h.eval hy
  obtain⟨v0,v1,rfl⟩: ∃v0 v1,vs= [v0,v1]:=by
   have:=h2.length
   match vs,this with
   | [v0,v1],_=>exact⟨v0,v1,rfl⟩
  obtain⟨u0,u1,rfl⟩: ∃v0 v1,us= [v0,v1]:=by
   have:=k2.length
   match us,this with
   | [v0,v1],_=>exact⟨v0,v1,rfl⟩
  obtain⟨rfl,-⟩:=cF.leaf_eq h2.1
  obtain⟨rfl,-⟩:=cF.leaf_eq h2.2.1
  obtain⟨rfl,-⟩:=cF.leaf_eq k2.1
  obtain⟨rfl,-⟩:=cF.leaf_eq k2.2.1
  refine⟨.bool (!(decide (a=c)&&decide (b=d))),?_,cF.leaf trivial⟩
  unfold execOp
  simp [ho,h1,k1,eqGuard,hg,binOp,Op.equal,hq]
end
end Go.Proofs.YtpioomclpaiomaaGreat

namespace Go.Proofs.YtpioomclpaiomaaGreat
open Go.RowKit Go.Proofs
theorem afX(a b:Int)(d:Nat)(w:World):(Op.equalIn (d+1) 3 (.int .i64 a) (.int .i64 b)).run Tryz.prog w= .ok (a==b) w:=by
 unfold Op.equalIn
 simp [run_underlying Tryz.underlying3]
theorem afQ:Tryz.prog.stoodInHeld 45=false:=by kernel_rfl
theorem aiG:Tryz.prog.eqGuardType Tryz.prog.depth 45=false:=by kernel_rfl
theorem aiJ(a b c d:Int)(w:World):(Op.equalIn Op.maxDepth 45 (.agg #[.int .i64 a,.int .i64 b]) (.agg #[.int .i64 c,.int .i64 d])).run Tryz.prog w= .ok (decide (a=c)&&decide (b=d)) w:=by
 show(Op.equalIn (9998+1+1) 45 _ _).run Tryz.prog w=_
 rw [Op.equalIn]
 have h3:=B3 iG
 have h4:=run_sizeOf' iG
 simp [run_underlying Tryz.underlying45,afQ,part,h3,h4,afX]
 by_cases h1:a=c<;>by_cases h2:b=d<;>simp [h1,h2]
end Go.Proofs.YtpioomclpaiomaaGreat

namespace Go.Proofs.YtpioomclpaiomaaGreat
set_option linter.unusedSimpArgs false
set_option linter.unusedVariables false
open Go.RowKit Go.WalkArith Go.IntWalk Go.WideShapes
instance:Inhabited ByteArray:=⟨⟨#[]⟩⟩
def a5{α:Type}[Inhabited α](l:List α)(k:Nat):α:=(l[k]?).getD default
theorem jG{α:Type}[Inhabited α]{l:List α}{k:Nat}(h:k<l.length):a5 l k=l[k]:=by simp [a5,h]
theorem acY{l:List ByteArray}{k:Nat}(h:k<l.length):(aX l)[k]?=some [.leaf (.string (a5 l k))]:=by rw [jG h];exact QG h
theorem ac6{l:List Int}{k:Nat}(h:k<l.length):(nG l)[k]?=some [.leaf (.int .i64 (a5 l k))]:=by rw [jG h];exact ac5 h
theorem ZA{l:List UInt8}{k:Nat}(h:k<l.length):(cL l)[k]?=some [.leaf (.int .u8 ((a5 l k).toNat:Int))]:=by rw [jG h];exact uQ h
theorem vV{a b c:Nat}(h:a+b≤68719476736)(hc:c≤2048):(a+b)*c≤140737488355328:=by
 have:=Nat.mul_le_mul h hc
 omega
theorem XD(l:List ByteArray)(a b:Nat):((aX l).take b).drop a=aX ((l.take b).drop a):=by simp [aX,List.map_drop,List.map_take]
theorem aW.congrP{P:Program}{C:oE}{n:Nat}{s:AS}{o:Oper}{sz:Nat}{es es':List (List Tr)}(h:aW P C n o s (s.putO o.dst (.t (.row sz es))))(e:es=es'):aW P C n o s (s.putO o.dst (.t (.row sz es'))):=e ▸ h
theorem uP{a b:Nat}(h:decide ((a:Int)<(b:Int))=true):a<b:=a7 h
theorem uZ{a b:Nat}(h:decide ((a:Int)<(b:Int))=false):b≤a:=acQ h
theorem X5{a:Nat}{b:Int}(h:decide ((a:Int)<b)=true):a<b.toNat:=by have:=of_decide_eq_true h;omega
theorem YT{a:Nat}{b:Int}(h:decide ((a:Int)<b)=false):b.toNat≤a:=by have:=of_decide_eq_false h;omega
def n6(s:cU)(fb0 fr0:List Nat)(pre:cU):List Nat→List (Option cV)→Prop
 | [],[]=>True
 |k::fb,some x::bs=>(∃y,s.boxes[k]?=some (some y)∧y.ty=x.ty∧sS y.cells (zX fb0 fr0 x.cells)∧lP pre x.cells=true)∧n6 s fb0 fr0 pre fb bs
 |_,_=>False
def qK(s:cU):List Nat→List oO→Prop
 | [],[]=>True
 |r::fr,row::rs=>s.rows[r]?=some row∧qK s fr rs
 |_,_=>False
theorem n6.len{s pre:cU}{fb0 fr0:List Nat}: ∀ {fb:List Nat} {bs:List (Option cV)},n6 s fb0 fr0 pre fb bs→fb.length=bs.length
 | [],[],_=>rfl
 |_::_,some _::_,h=>by simp [n6.len h.2]
 |_::_,none::_,h=>h.elim
 | [],_::_,h=>h.elim
 |_::_,[],h=>h.elim
theorem n6.get{s pre:cU}{fb0 fr0:List Nat}: ∀ {fb:List Nat} {bs:List (Option cV)},n6 s fb0 fr0 pre fb bs→ ∀k,k<bs.length→ ∃x,bs[k]?=some (some x)∧ ∃y,s.boxes[fb.getD k 0]?=some (some y)∧y.ty=x.ty∧sS y.cells (zX fb0 fr0 x.cells)∧lP pre x.cells=true
 | [],[],_,k,h=>by simp at h
 |_::_,some x::_,h,0,_=>⟨x,rfl,h.1⟩
 |_::_,some _::_,h,k+1,hk=>by simpa using n6.get h.2 k (by simpa using hk)
 |_::_,none::_,h,_,_=>h.elim
 | [],_::_,h,_,_=>h.elim
 |_::_,[],h,_,_=>h.elim
theorem qK.len{s:cU}: ∀ {fr:List Nat} {rs:List oO},qK s fr rs→fr.length=rs.length
 | [],[],_=>rfl
 |_::_,_::_,h=>by simp [qK.len h.2]
 | [],_::_,h=>h.elim
 |_::_,[],h=>h.elim
theorem qK.get{s:cU}: ∀ {fr:List Nat} {rs:List oO},qK s fr rs→ ∀k row,rs[k]?=some row→s.rows[fr.getD k 0]?=some row
 | [],[],_,k,_,h=>by simp at h
 |_::_,_::_,h,0,row,hr=>by simp at hr;subst hr;exact h.1
 |_::_,_::_,h,k+1,row,hr=>by simpa using qK.get h.2 k row (by simpa using hr)
 | [],_::_,h,_,_,_=>h.elim
 |_::_,[],h,_,_,_=>h.elim
theorem mO.of{s pre:cU}{fb fr:List Nat}(hb:n6 s fb fr pre fb pre.boxes)(hr:qK s fr pre.rows)(n1:fb.Nodup)(n2:fr.Nodup):mO s pre fb fr where
 fbl:=hb.len
 frl:=hr.len
 fbn:=n1
 frn:=n2
 all:=fun k hk=>by
  obtain⟨x,hx,-⟩:=hb.get k hk
  exact⟨x,hx⟩
 box:=fun k x hx=>by
  obtain⟨x',hx',h⟩:=hb.get k (List.getElem?_eq_some_iff.1 hx).1
  rw [hx] at hx'
  cases hx'
  exact h
 row:=hr.get
section
variable {P:Program} {C:oE} {n:Nat} {s:AS} {o:Oper}
theorem AL.skipP{ops:Array Oper}{rest:List Oper}{Q:Exit→AS→Prop}{j d:Nat}{b c e:Bool}(hg:o.guard=some (j,c))(hj:(ops[j]?).bind (·.dst)=some d)(hb:s.lk d=some (.t (.leaf (.bool b))))(hv:b=e)(hne:(e==c)=false)(hd:bQ o.dst n=true)(h:AL P C n ops rest Q (s.putO o.dst (.tup []))):AL P C n ops (o::rest) Q s:=fun m a w hr=>
 wpList_step fun K hK=>by
  subst hv
  rw [if_neg (by simpa [Region.wanted,hg,hr.yielded hj hb] using hne)]
  exact hK _ _ (h m _ w (hr.put (cW hd) ⟨[],rfl,trivial⟩))
theorem AL.skipU{ops:Array Oper}{rest:List Oper}{Q:Exit→AS→Prop}{j d:Nat}{c:Bool}(hg:o.guard=some (j,c))(hj:(ops[j]?).bind (·.dst)=some d)(hb:s.lk d=some (.tup []))(hd:bQ o.dst n=true)(h:AL P C n ops rest Q (s.putO o.dst (.tup []))):AL P C n ops (o::rest) Q s:=fun m a w hr=>
 wpList_step fun K hK=>by
  have hy:yielded ops a.tmps j=none:=by
   obtain⟨v,hv,vs,rfl,hl⟩:=hr.env d _ hb
   simp [Go.yielded,hj,hv]
  rw [if_neg (by simp [Region.wanted,hg,hy])]
  exact hK _ _ (h m _ w (hr.put (cW hd) ⟨[],rfl,trivial⟩))
theorem aW.buildSliceE{T E sz by_ len:Nat}{parts:Array (Nat×Operand)}{ps:List (Nat×List PV)}{zs cs:List PV}{es es':List (List Tr)}(ho:o.op= .buildSlice T len parts)(hd:bQ o.dst n=true)(hT:elemOf? P T=some (E,sz,by_))(hz:cS P E=some zs)(hp:m9 s parts.toList=some ps)
 (hc:rD (fun i=>some (i*sz,sz)) (List.replicate len zs).flatten ps=some cs) (hle:sS cs (es.flatten.map PV.t)) (hel:es.length=len) (hes: ∀e∈es,e.length=sz) (hsz:0<sz) (hzl:zs.length=sz) (hsm:len*sz≤16777216) (he:es=es'):
 aW P C n o s (s.putO o.dst (.t (.row sz es'))):=he ▸ aW.buildSliceQ ho hd hT hz hp hc hle hel hes hsz hzl hsm
theorem aW.buildSliceA{T E sz by_ len:Nat}{parts:Array (Nat×Operand)}{ps:List (Nat×List PV)}{zs cs:List PV}{es es':List (List Tr)}(ho:o.op= .buildSlice T len parts)(hd:bQ o.dst n=true)(hT:elemOf? P T=some (E,sz,by_))(hz:cS P E=some zs)(hp:m9 s parts.toList=some ps)
 (hc:rD (fun i=>some (i*sz,sz)) (List.replicate len zs).flatten ps=some cs) (hle:sS cs (es.flatten.map PV.t)) (hel:es.length=len) (hes: ∀e∈es,e.length=sz) (hsz:0<sz) (hzl:zs.length=sz) (hsm:len*sz≤16777216) (he:es=es'):
 aW P C n o s ((⟨s.env,s.st.addRow ⟨E,sz,es',false⟩⟩:AS).putO o.dst (.acc sz es' s.st.rows.length)):=he ▸ aW.buildSlice ho hd hT hz hp hc hle hel hes hsz hzl hsm
end
theorem eA{C:oE}{bs:List (Option cV)}{rs:List oO}{S:cU}(h:C.st=⟨bs,rs⟩)(hb: ∀k,k<bs.length→ ∃y,S.boxes[k]?=some (some y))(hl:rs.length≤S.rows.length):kZ C.st S:=by
 rw [h]
 exact⟨fun k x hx=>hb k (List.getElem?_eq_some_iff.1 hx).1,fun k row hk=>⟨S.rows[k]'(Nat.lt_of_lt_of_le (List.getElem?_eq_some_iff.1 hk).1 hl),List.getElem?_eq_getElem _⟩⟩
theorem jE{S:cU}{x:cV}{bs:List (Option cV)}(h:S.boxes=some x::bs): ∀k,k<1→ ∃y,S.boxes[k]?=some (some y):=fun k hk=>by
 obtain rfl:k=0:=by omega
 exact⟨x,by rw [h];rfl⟩
theorem ag6{S:cU}{x y:cV}{bs:List (Option cV)}(h:S.boxes=some x::some y::bs): ∀k,k<2→ ∃y,S.boxes[k]?=some (some y):=fun k hk=>by
 rcases(by omega:k=0∨k=1) with rfl|rfl
 ·exact⟨x,by rw [h];rfl⟩
 ·exact⟨y,by rw [h];rfl⟩
theorem ahG{S:cU}{x y z:cV}{bs:List (Option cV)}(h:S.boxes=some x::some y::some z::bs): ∀k,k<3→ ∃y,S.boxes[k]?=some (some y):=fun k hk=>by
 rcases(by omega:k=0∨k=1∨k=2) with rfl|rfl|rfl
 ·exact⟨x,by rw [h];rfl⟩
 ·exact⟨y,by rw [h];rfl⟩
 ·exact⟨z,by rw [h];rfl⟩
theorem ag1{S:cU}: ∀k,k<0→ ∃y,S.boxes[k]?=some (some y):=fun k hk=>absurd hk (Nat.not_lt_zero _)
instance:Inhabited aE:=⟨.mk 0 0⟩
theorem aE.trs_at{l:List aE}{k:Nat}(h:k<l.length):(aE.trs l)[k]?=some (a5 l k).cs:=by rw [jG h];exact aE.trs_cs h
instance:Inhabited aA:=⟨.mk ⟨#[]⟩ []⟩
theorem aA.trs_part(l:List aA)(a b:Nat):((aA.trs l).take b).drop a=aA.trs ((l.take b).drop a):=by rw [aA.trs_map,aA.trs_map,List.map_drop,List.map_take]
theorem aA.trs_at{l:List aA}{k:Nat}(h:k<l.length):(aA.trs l)[k]?=some (a5 l k).cs:=by rw [jG h];exact aA.trs_cs h
instance:Inhabited aB:=⟨.mk 0 ⟨#[]⟩ []⟩
theorem aB.trs_part(l:List aB)(a b:Nat):((aB.trs l).take b).drop a=aB.trs ((l.take b).drop a):=by rw [aB.trs_map,aB.trs_map,List.map_drop,List.map_take]
theorem aB.trs_at{l:List aB}{k:Nat}(h:k<l.length):(aB.trs l)[k]?=some (a5 l k).cs:=by rw [jG h];exact aB.trs_cs h
instance:Inhabited bR:=⟨.mk ⟨#[]⟩ default⟩
theorem bR.trs_at{l:List bR}{k:Nat}(h:k<l.length):(bR.trs l)[k]?=some (a5 l k).cs:=by rw [jG h];exact bR.trs_cs h
instance:Inhabited aG:=⟨.mk 0 ⟨#[]⟩ ⟨#[]⟩ 0 default [] []⟩
theorem aG.trs_at{l:List aG}{k:Nat}(h:k<l.length):(aG.trs l)[k]?=some (a5 l k).cs:=by rw [jG h];exact aG.trs_cs h
instance:Inhabited bC:=⟨.mk ⟨#[]⟩ [] default⟩
theorem bC.trs_at{l:List bC}{k:Nat}(h:k<l.length):(bC.trs l)[k]?=some (a5 l k).cs:=by rw [jG h];exact bC.trs_cs h
instance:Inhabited aD:=⟨.mk ⟨#[]⟩ [] default false [] default⟩
theorem aD.trs_at{l:List aD}{k:Nat}(h:k<l.length):(aD.trs l)[k]?=some (a5 l k).cs:=by rw [jG h];exact aD.trs_cs h
instance:Inhabited aP:=⟨.mk ⟨#[]⟩ [] false false []⟩
theorem aP.trs_at{l:List aP}{k:Nat}(h:k<l.length):(aP.trs l)[k]?=some (a5 l k).cs:=by rw [jG h];exact aP.trs_cs h
instance:Inhabited aC:=⟨.mk ⟨#[]⟩ []⟩
theorem aC.trs_part(l:List aC)(a b:Nat):((aC.trs l).take b).drop a=aC.trs ((l.take b).drop a):=by rw [aC.trs_map,aC.trs_map,List.map_drop,List.map_take]
theorem aC.trs_at{l:List aC}{k:Nat}(h:k<l.length):(aC.trs l)[k]?=some (a5 l k).cs:=by rw [jG h];exact aC.trs_cs h
instance:Inhabited aI:=⟨.mk ⟨#[]⟩ [] []⟩
theorem aI.trs_at{l:List aI}{k:Nat}(h:k<l.length):(aI.trs l)[k]?=some (a5 l k).cs:=by rw [jG h];exact aI.trs_cs h
instance:Inhabited aJ:=⟨.mk ⟨#[]⟩ default⟩
theorem aJ.trs_at{l:List aJ}{k:Nat}(h:k<l.length):(aJ.trs l)[k]?=some (a5 l k).cs:=by rw [jG h];exact aJ.trs_cs h
instance:Inhabited aN:=⟨.mk ⟨#[]⟩ [] default⟩
theorem aN.trs_at{l:List aN}{k:Nat}(h:k<l.length):(aN.trs l)[k]?=some (a5 l k).cs:=by rw [jG h];exact aN.trs_cs h
instance:Inhabited aH:=⟨.mk ⟨#[]⟩ [] default [] false false default []⟩
theorem aH.trs_at{l:List aH}{k:Nat}(h:k<l.length):(aH.trs l)[k]?=some (a5 l k).cs:=by rw [jG h];exact aH.trs_cs h
instance:Inhabited aR:=⟨.mk ⟨#[]⟩ default⟩
theorem aR.trs_at{l:List aR}{k:Nat}(h:k<l.length):(aR.trs l)[k]?=some (a5 l k).cs:=by rw [jG h];exact aR.trs_cs h
instance:Inhabited aL:=⟨.mk ⟨#[]⟩ [] [] [] default default⟩
theorem aL.trs_at{l:List aL}{k:Nat}(h:k<l.length):(aL.trs l)[k]?=some (a5 l k).cs:=by rw [jG h];exact aL.trs_cs h
instance:Inhabited aK:=⟨.mk ⟨#[]⟩ [] [] [] [] []⟩
theorem aK.trs_at{l:List aK}{k:Nat}(h:k<l.length):(aK.trs l)[k]?=some (a5 l k).cs:=by rw [jG h];exact aK.trs_cs h
instance:Inhabited aM:=⟨.mk []⟩
theorem aM.trs_at{l:List aM}{k:Nat}(h:k<l.length):(aM.trs l)[k]?=some (a5 l k).cs:=by rw [jG h];exact aM.trs_cs h
instance:Inhabited bK:=⟨.mk 0 0 default []⟩
instance:Inhabited a4:=⟨.mk default 0 []⟩
theorem a4.trs_at{l:List a4}{k:Nat}(h:k<l.length):(a4.trs l)[k]?=some (a5 l k).cs:=by rw [jG h];exact a4.trs_cs h
instance:Inhabited cC:=⟨.mk ⟨#[]⟩ 0 0 0 false⟩
instance:Inhabited eP:=⟨.mk [] [] []⟩
end Go.Proofs.YtpioomclpaiomaaGreat

namespace Go.Proofs.YtpioomclpaiomaaGreat
set_option linter.unusedSimpArgs false
set_option linter.unusedVariables false
open Go.RowKit Go.WalkArith Go.IntWalk Go.WideShapes
section
variable {P:Program} {C:oE} {n:Nat} {s:AS} {o:Oper}
theorem aW.buildSliceB{T E sz by_ len:Nat}{parts:Array (Nat×Operand)}{ps:List (Nat×List PV)}{zs cs:List PV}(ho:o.op= .buildSlice T len parts)(hd:bQ o.dst n=true)(hT:elemOf? P T=some (E,sz,by_))(hz:cS P E=some zs)(hp:m9 s parts.toList=some ps)
 (hc:rD (fun i=>some (i*sz,sz)) (List.replicate len zs).flatten ps=some cs) (hcl:cs.length=len*sz) (hsz:0<sz) (hzl:zs.length=sz) (hsm:len*sz≤16777216):
 aW P C n o s ((⟨s.env,s.st.addBox ⟨E,cs⟩⟩:AS).putO o.dst (.bsl s.st.boxes.length len)):=
 aW.run hd (s1:=⟨s.env,s.st.addBox ⟨E,cs⟩⟩) (fun m a w h=>by
  obtain⟨us,h1,h2,h3⟩:=aW.buildSlice_run ho hT hz hp hc hcl hsz hzl hsm h
  exact⟨_,_,_,h1,BM (x:=⟨E,cs⟩),EH (x:=⟨E,cs⟩) h.sto h2,⟨⟨E,cs⟩,by simp [cU.addBox]⟩,by simp [b9]⟩) rfl
theorem aW.buildSliceLE{T E sz by_ len:Nat}{parts:Array (Nat×Operand)}{ps:List (Nat×List PV)}{zs cs:List PV}{es es':List (List Tr)}(ho:o.op= .buildSlice T len parts)(hd:bQ o.dst n=true)(hT:elemOf? P T=some (E,sz,by_))(hz:cS P E=some zs)(hp:m9 s parts.toList=some ps)
 (hc:rD (fun i=>some (i*sz,sz)) (List.replicate len zs).flatten ps=some cs) (hle:sS cs (es.flatten.map PV.t)) (hel:es.length=len) (hes: ∀e∈es,e.length=sz) (hsz:0<sz) (hzl:zs.length=sz) (hsm:len*sz≤16777216) (he:es=es'):
 aW P C n o s (s.putO o.dst (.lit sz es')):=he ▸ aW.buildSliceL ho hd hT hz hp hc hle hel hes hsz hzl hsm
theorem aW.indexB{T E sz by_ k N i:Nat}{x y:Operand}(ho:o.op= .indexAddr T x y)(hd:bQ o.dst n=true)(hx:s.ev x=some (.bsl k N))(hy:s.ev y=some (.t (.leaf (.int .i64 (i:Int)))))(hi:i<N)(hT:elemOf? P T=some (E,sz,by_)):
 aW P C n o s (s.putO o.dst (.ptr k (i*sz))):=
 aW.quiet (cW hd) fun m a w h=>by
  obtain⟨hb,hv⟩:=h.eval hx
  have h6:=(cF.leaf_eq (h.eval hy)).1
  refine⟨.pointer (some ⟨m.ρ k,0+i*sz,none⟩),?_,hb,by rw [Nat.zero_add]⟩
  unfold execOp
  simp only [ho,hv,h6,Sem.run_bind,run_indexAt' hT hi,Result.andThen_ok]
  rfl
theorem DL{T E sz by_:Nat}{x y:Operand}{es1 es2:List (List Tr)}{p:PV}(ho:o.op= .call { callee:= .builtin .append,args:= #[x,y],argTypes:= #[T,T] })
 (hx:s.ev x=some (.lit sz es1)) (hy:s.ev y=some p) (hp:lF p=some (sz,es2)) (h1: ∀e∈es1,e.length=sz) (h2: ∀e∈es2,e.length=sz) (hne:es2≠ []) (hsz:0<sz)
 (hT:elemOf? P T=some (E,sz,by_)) (hz:(P.info? E).bind (fun i=>i.zero.map (fun z=>z.cells.size))=some sz) (hb:0<by_) (hlen:(es1.length+es2.length)*by_≤140737488355328) {m:iH} {a:Act} {w:World} (h:RA C n s m a w):
 ∃c cur w1,(execOp a.eval o).run P w= .ok (.value (.slice (some ⟨w.heap.size,0,none⟩) (es1.length+es2.length) c)) w1∧oU w w1∧OB w1 w.heap.size E cur∧es1.length+es2.length≤c∧c≤maxLen∧
  (∀q e,(es1++es2)[q]?=some e→ ∀j d,e[j]?=some d→ ∃v,cur[q*sz+j]?=some v∧cF (jL C.av s.st m) w d v):=by
 obtain⟨i,hu,hi,hs,hby⟩:=elemOf?.spec hT
 obtain⟨hr1,ad,hv1⟩:=h.eval hx
 have hr2:=sU hp (h.eval hy)
 obtain⟨b,off,c2,news,hv2,hnl,hnews,hone,hnd⟩:=hr2.news h2 hne hsz
 have hpos2:0<es2.length:=List.length_pos_iff.2 hne
 have hlen:(es1.length+es2.length)*i.bytes≤140737488355328:=by rw [hby];exact hlen
 have h63:es1.length+es2.length≤140737488355328:=Nat.le_trans (Nat.le_mul_of_pos_right _ (by omega)) hlen
 have hrun: ∀v w1,(Builtin.append_ #[T,T] o.type #[a.eval x,a.eval y]).run P w= .ok v w1→(execOp a.eval o).run P w= .ok (.value v) w1:=fun v w1 hr=>by
  unfold execOp
  simp only [ho,resolve,invoke,builtin,Sem.run_bind,Sem.run_pure,Result.andThen_ok,List.map_toArray,List.map_cons,List.map_nil,hr]
 cases hzz:i.zero with
 |none=>simp [hi,hzz] at hz
 |some z=>
  have fin: ∀(olds:List Value) (cur:Array Value) (Z:List Value),cur.toList=olds++news++Z→olds.length=es1.length*sz→(∀i e,es1[i]?=some e→ ∀j d,e[j]?=some d→ ∃v,olds[i*sz+j]?=some v∧cF (jL C.av s.st m) w d v)→
   ∀q e,(es1++es2)[q]?=some e→ ∀j d,e[j]?=some d→ ∃v,cur[q*sz+j]?=some v∧cF (jL C.av s.st m) w d v:=fun olds cur Z hcur hol hod q e hq j d hj=>by
   rw [← Array.getElem?_toList,hcur,List.append_assoc]
   by_cases hlt:q<es1.length
   ·rw [List.getElem?_append_left hlt] at hq
    obtain⟨v,hv,hr⟩:=hod q e hq j d hj
    exact⟨v,by rw [List.getElem?_append_left (c3 hv)];exact hv,hr⟩
   ·rw [List.getElem?_append_right (by omega)] at hq
    obtain⟨v,hv,hr⟩:=hnd _ e hq j d hj
    refine⟨v,?_,hr⟩
    have e1:q*sz+j=es1.length*sz+((q-es1.length)*sz+j):=by
     rw [← Nat.add_assoc,← Nat.add_mul]
     congr 2
     omega
    rw [e1,← hol,List.getElem?_append_right (by omega),Nat.add_sub_cancel_left,List.getElem?_append_left (c3 hv)]
    exact hv
  have grow: ∀(A:Addr) (olds:List Value),ad=some A→olds.length=es1.length*sz→(∀j v,olds[j]?=some v→w.cell? (A.add j)=some v)→(∀i e,es1[i]?=some e→ ∀j d,e[j]?=some d→ ∃v,olds[i*sz+j]?=some v∧cF (jL C.av s.st m) w d v)→
   ∃c cur w1,(execOp a.eval o).run P w= .ok (.value (.slice (some ⟨w.heap.size,0,none⟩) (es1.length+es2.length) c)) w1∧oU w w1∧OB w1 w.heap.size E cur∧es1.length+es2.length≤c∧c≤maxLen∧
    (∀q e,(es1++es2)[q]?=some e→ ∀j d,e[j]?=some d→ ∃v,cur[q*sz+j]?=some v∧cF (jL C.av s.st m) w d v):=fun A olds hA hol hold hod=>by
   subst hA
   have happ:=run_append_grow (P:=P) w T o.type E i z hu hi hzz A es1.length es1.length olds (by rw [hs];exact hol) hold ⟨b,off,none⟩ es2.length c2 news (by rw [hnl,hs]) hnews (by omega) (by omega) (growslice_fits (by omega) hlen)
   rw [← hv2,← hv1] at happ
   have hge:=grownCap_ge w (es1.length+es2.length) es1.length E
   exact⟨_,_,_,hrun _ _ happ,.alloc (.drew (.refl _)) _,OB.new w.drew E _,hge,grownCap_le_maxLen w _ _ _ (by unfold maxLen;omega),fin olds _ _ (by simp;rfl) hol hod⟩
  by_cases he:es1= []
  ·cases ad with
   |none=>
    subst he
    have happ:=run_append_nil (P:=P) w T o.type E i z hu hi hzz ⟨b,off,none⟩ es2.length c2 news (by rw [hnl,hs]) hnews (by omega) (by omega) (by simp only [List.length_nil,Nat.zero_add] at hlen;omega)
    have hv1':a.eval x= .slice none 0 0:=hv1
    rw [← hv2,← hv1'] at happ
    have hge:=grownCap_ge w es2.length 0 E
    have hf:=fin [] (news.toArray++Builtin.zeroCells z.cells (grownCap w es2.length 0 E-es2.length)) (Builtin.zeroCells z.cells (grownCap w es2.length 0 E-es2.length)).toList (by simp) (by simp) (fun i e h=>by simp at h)
    have hcm:grownCap w es2.length 0 E≤maxLen:=grownCap_le_maxLen w _ _ _ (by unfold maxLen;omega)
    simp only [List.length_nil,Nat.zero_add,List.nil_append] at hf ⊢
    exact⟨_,_,_,hrun _ _ happ,.alloc (.drew (.refl _)) _,OB.new w.drew E _,by simpa using hge,hcm,hf⟩
   |some A=>
    subst he
    exact grow A [] rfl (by simp) (fun j v h=>by simp at h) (fun i e h=>by simp at h)
  ·obtain⟨b1,off1,c1,olds,hv1',hol,hold,-,hod⟩:=hr1.news h1 he hsz
   have hva:=hv1.symm.trans hv1'
   injection hva with e1 e2 e3
   exact grow _ olds e1 hol hold hod
theorem aW.appendLit{T E sz by_:Nat}{x y:Operand}{es1 es2 es3:List (List Tr)}{p:PV}(ho:o.op= .call { callee:= .builtin .append,args:= #[x,y],argTypes:= #[T,T] })(hd:bQ o.dst n=true)
 (hx:s.ev x=some (.lit sz es1)) (hy:s.ev y=some p) (hp:lF p=some (sz,es2)) (h1: ∀e∈es1,e.length=sz) (h2: ∀e∈es2,e.length=sz) (hne:es2≠ []) (hsz:0<sz)
 (hT:elemOf? P T=some (E,sz,by_)) (hz:(P.info? E).bind (fun i=>i.zero.map (fun z=>z.cells.size))=some sz) (hb:0<by_) (hlen:(es1.length+es2.length)*by_≤140737488355328) (h3:es1++es2=es3):
 aW P C n o s (s.putO o.dst (.t (.row sz es3))):=by
 subst h3
 refine aW.quietX hd fun m a w h=>?_
 obtain⟨c,cur,w1,hr,hX,hob,hc,hm,hget⟩:=DL ho hx hy hp h1 h2 hne hsz hT hz hb hlen h
 refine⟨_,w1,hr,hX,?_⟩
 have:=cF.row (ok:=jL C.av s.st m) (w:=w1) (es:=es1++es2) (sz:=sz) (a:=some ⟨w.heap.size,0,none⟩) (cap:=c) (fun q j=>(cur[q*sz+j]?).getD undef) (by rw [List.length_append];exact hc) hm (fun _=>⟨w.heap.size,0,rfl,hob.lt,fun q e hq j d hd=>⟨LV h.sto (Nat.le_refl _) _,?_⟩⟩) (fun q e hq j d hd=>?_)
 ·rw [List.length_append] at this
  exact this
 ·obtain⟨v,hv,-⟩:=hget q e hq j d hd
  rw [Nat.zero_add,hob.cell,hv]
  rfl
 ·obtain⟨v,hv,hr⟩:=hget q e hq j d hd
  rw [hv]
  exact cF.ext hr hX
theorem J3{α:Type}{sz:Nat}(hsz:0<sz): ∀ {es:List (List α)} {k:Nat} {d:α},(∀e∈es,e.length=sz)→es.flatten[k]?=some d→ ∃e,es[k/sz]?=some e∧e[k%sz]?=some d
 | [],k,d,_,h=>by simp at h
 |e::es,k,d,hl,h=>by
  have he:=hl e (by simp)
  rw [List.flatten_cons] at h
  by_cases hk:k<sz
  ·rw [List.getElem?_append_left (by omega)] at h
   exact⟨e,by rw [Nat.div_eq_of_lt hk];rfl,by rw [Nat.mod_eq_of_lt hk];exact h⟩
  ·rw [List.getElem?_append_right (by omega),he] at h
   obtain⟨e2,h1,h2⟩:=J3 hsz (fun e he=>hl e (by simp [he])) h
   obtain⟨j,rfl⟩: ∃j,k=j+sz:=⟨k-sz,by omega⟩
   rw [Nat.add_sub_cancel] at h1 h2
   exact⟨e2,by rw [Nat.add_div_right _ hsz];exact h1,by rw [Nat.add_mod_right];exact h2⟩
theorem aW.appendLitB{T E sz by_:Nat}{x y:Operand}{es1 es2:List (List Tr)}{cs:List PV}{p:PV}{len:Nat}(ho:o.op= .call { callee:= .builtin .append,args:= #[x,y],argTypes:= #[T,T] })(hd:bQ o.dst n=true)
 (hx:s.ev x=some (.lit sz es1)) (hy:s.ev y=some p) (hp:lF p=some (sz,es2)) (h1: ∀e∈es1,e.length=sz) (h2: ∀e∈es2,e.length=sz) (hne:es2≠ []) (hsz:0<sz)
 (hT:elemOf? P T=some (E,sz,by_)) (hz:(P.info? E).bind (fun i=>i.zero.map (fun z=>z.cells.size))=some sz) (hb:0<by_) (hlen:(es1.length+es2.length)*by_≤140737488355328) (hcs:(es1++es2).flatten.map PV.t=cs) (hl:es1.length+es2.length=len):
 aW P C n o s ((⟨s.env,s.st.addBox ⟨E,cs⟩⟩:AS).putO o.dst (.gsl s.st.boxes.length len)):=by
 subst hcs hl
 refine aW.run hd (s1:=⟨s.env,s.st.addBox ⟨E,(es1++es2).flatten.map PV.t⟩⟩) (fun m a w h=>?_) rfl
 obtain⟨c,cur,w1,hr,hX,hob,hc,hm,hget⟩:=DL ho hx hy hp h1 h2 hne hsz hT hz hb hlen h
 have hes: ∀e∈es1++es2,e.length=sz:=fun e he=>(List.mem_append.1 he).elim (h1 e) (h2 e)
 have hfl: ∀(k:Nat) d,(es1++es2).flatten[k]?=some d→ ∃v,cur[k]?=some v∧cF (jL C.av s.st m) w d v:=fun k d hk=>by
  obtain⟨e,q1,q2⟩:=J3 hsz hes hk
  obtain⟨v,hv,hrv⟩:=hget _ e q1 _ d q2
  rw [Nat.div_add_mod'] at hv
  exact⟨v,hv,hrv⟩
 have hrvl:fZ (jL C.av s.st m) s.st m w ((es1++es2).flatten.map PV.t) ((List.range' 0 (es1++es2).flatten.length).map fun k=>(cur[k]?).getD undef):=fZ.of_fn 0 fun k d hk=>by
  obtain⟨v,hv,hrv⟩:=hfl k d hk
  rw [Nat.zero_add,hv]
  exact hrv
 have hE:Ev s.st m w (s.st.addBox ⟨E,(es1++es2).flatten.map PV.t⟩) ⟨zQ m.ρ s.st.boxes.length w.heap.size,m.γ⟩ w1:=I3 hX (Nat.le_refl _)
 have hobp:TZ w1 w.heap.size E ((List.range' 0 (es1++es2).flatten.length).map fun k=>(cur[k]?).getD undef):=by
  refine⟨cur.toList.drop (es1++es2).flatten.length,?_⟩
  have e1:((List.range' 0 (es1++es2).flatten.length).map fun k=>(cur[k]?).getD undef)++cur.toList.drop (es1++es2).flatten.length=cur.toList:=by
   have hle:(es1++es2).flatten.length≤cur.toList.length:=by
    rcases Nat.eq_zero_or_pos (es1++es2).flatten.length with h0|h0
    ·omega
    ·obtain⟨v,hv,-⟩:=hfl ((es1++es2).flatten.length-1) _ (List.getElem?_eq_getElem (by omega))
     rw [← Array.getElem?_toList] at hv
     have:=c3 hv
     omega
   refine List.ext_getElem? fun k=>?_
   by_cases hk:k<(es1++es2).flatten.length
   ·rw [List.getElem?_append_left (by simpa using hk),List.getElem?_map,List.getElem?_range' (by simpa using hk)]
    obtain⟨v,hv,-⟩:=hfl k _ (List.getElem?_eq_getElem hk)
    simp only [Option.map_some,Nat.zero_add,Nat.one_mul,hv,Option.getD_some]
    rw [← Array.getElem?_toList] at hv
    exact hv.symm
   ·rw [List.getElem?_append_right (by simpa using Nat.le_of_not_lt hk),List.getElem?_drop]
    congr 1
    simp
    simp at hk
    omega
  rw [e1]
  exact hob
 refine⟨_,_,w1,hr,hE,ML h.sto hX (Nat.le_refl _) hobp (fZ.mono hE _ _ hrvl),⟨⟨E,(es1++es2).flatten.map PV.t⟩,by simp [cU.addBox]⟩,c,hc,hm,by simp [b9]⟩
theorem aW.indexG{T E sz by_ k N i:Nat}{x y:Operand}(ho:o.op= .indexAddr T x y)(hd:bQ o.dst n=true)(hx:s.ev x=some (.gsl k N))(hy:s.ev y=some (.t (.leaf (.int .i64 (i:Int)))))(hi:i<N)(hT:elemOf? P T=some (E,sz,by_)):
 aW P C n o s (s.putO o.dst (.ptr k (i*sz))):=
 aW.quiet (cW hd) fun m a w h=>by
  obtain⟨hb,c,hc,hm,hv⟩:=h.eval hx
  have h6:=(cF.leaf_eq (h.eval hy)).1
  refine⟨.pointer (some ⟨m.ρ k,0+i*sz,none⟩),?_,hb,by rw [Nat.zero_add]⟩
  unfold execOp
  simp only [ho,hv,h6,Sem.run_bind,run_indexAt' hT hi,Result.andThen_ok]
  rfl
mutual
inductive OY (k sz:Nat) (es:List (List Tr)):PV→PV→Prop
 |le {p q:PV}:PV.Le p q→OY k sz es p q
 |bsl {n:Nat}:es.length=n→OY k sz es (.bsl k n) (.t (.row sz es))
 |bslL {n:Nat}:es.length=n→OY k sz es (.bsl k n) (.lit sz es)
 |gsl {n:Nat}:es.length=n→OY k sz es (.gsl k n) (.t (.row sz es))
 |agg {ps qs:List PV}:IE k sz es ps qs→OY k sz es (.agg ps) (.agg qs)
inductive IE (k sz:Nat) (es:List (List Tr)):List PV→List PV→Prop
 |nil:IE k sz es [] []
 |cons {p q:PV} {ps qs:List PV}:OY k sz es p q→IE k sz es ps qs→IE k sz es (p::ps) (q::qs)
end
def QM(k sz:Nat)(es:List (List Tr))(st':cU):List (Option cV)→List (Option cV)→Prop
 |_,[]=>True
 |_::xs,none::ys=>QM k sz es st' xs ys
 |some x::xs,some y::ys=>(x.ty=y.ty∧IE k sz es x.cells y.cells∧lP st' y.cells=true)∧QM k sz es st' xs ys
 |_,_=>False
theorem QM.get{k sz:Nat}{es:List (List Tr)}{st':cU}: ∀ {xs ys:List (Option cV)},QM k sz es st' xs ys→ ∀(i:Nat) (y:cV),ys[i]?=some (some y)→ ∃x:cV,xs[i]?=some (some x)∧x.ty=y.ty∧IE k sz es x.cells y.cells∧lP st' y.cells=true
 |_,[],_,i,y,h=>by simp at h
 | [],none::ys,hl,i,y,h=>hl.elim
 |x::xs,none::ys,hl,0,y,h=>by simp at h
 |none::xs,none::ys,hl,i+1,y,h=>by simpa using QM.get (xs:=xs) hl i y (by simpa using h)
 |some _::xs,none::ys,hl,i+1,y,h=>by simpa using QM.get (xs:=xs) hl i y (by simpa using h)
 |some x::xs,some z::ys,hl,0,y,h=>by
  simp at h
  subst h
  exact⟨x,rfl,hl.1⟩
 |some x::xs,some z::ys,hl,i+1,y,h=>by simpa using QM.get (xs:=xs) hl.2 i y (by simpa using h)
 | [],some _::_,hl,_,_,_=>hl.elim
 |none::_,some _::_,hl,_,_,_=>hl.elim
def adJ(k sz:Nat)(es:List (List Tr))(s:AS)(st':cU):List (Nat×PV)→Prop
 | []=>True
 |(i,q)::l=>(∃p,s.lk i=some p∧OY k sz es p q∧PV.okIn st' q=true)∧adJ k sz es s st' l
theorem adJ.get{k sz:Nat}{es:List (List Tr)}{s:AS}{st':cU}: ∀ {l:List (Nat×PV)} {i:Nat} {q:PV},adJ k sz es s st' l→l.lookup i=some q→ ∃p,s.lk i=some p∧OY k sz es p q∧PV.okIn st' q=true
 | [],_,_,_,h=>by simp at h
 |(j,p)::l,i,q,hl,h=>by
  rw [List.lookup_cons] at h
  by_cases hik:i=j
  ·subst hik
   simp at h
   subst h
   exact hl.1
  ·rw [show(i==j)=false by simp [hik]] at h
   exact adJ.get hl.2 h
mutual
theorem OY.rv{k sz:Nat}{es:List (List Tr)}{ok ok':Nat→Nat→Prop}{st st':cU}{m:iH}{w:World}(hle: ∀p v,PV.okIn st' p=true→RV ok st m w p v→RV ok' st' m w p v)(hb: ∀v c,es.length≤c→c≤maxLen→v= .slice (some ⟨m.ρ k,0,none⟩) es.length c→cF ok' w (.row sz es) v)(hm:es.length≤maxLen):
 ∀ {p q:PV} {v:Value},OY k sz es p q→PV.okIn st' q=true→RV ok st m w p v→RV ok' st' m w q v
 |_,_,_,.le h,hk,hr=>hle _ _ hk (h.rv hr)
 |_,_,_,.bsl h,_,hr=>hb _ _ (Nat.le_refl _) hm (h ▸ hr.2)
 |_,_,_,.bslL h,_,hr=>⟨hb _ _ (Nat.le_refl _) hm (h ▸ hr.2),_,h ▸ hr.2⟩
 |_,_,_,.gsl h,_,hr=>by
  obtain⟨-,c,hc,hcm,hv⟩:=hr
  subst h
  exact hb _ c hc hcm hv
 |_,_,_,.agg h,hk,hr=>by
  obtain⟨vs,hv,h1⟩:=hr
  exact⟨vs,hv,IE.rv hle hb hm h hk h1⟩
theorem IE.rv{k sz:Nat}{es:List (List Tr)}{ok ok':Nat→Nat→Prop}{st st':cU}{m:iH}{w:World}(hle: ∀p v,PV.okIn st' p=true→RV ok st m w p v→RV ok' st' m w p v)(hb: ∀v c,es.length≤c→c≤maxLen→v= .slice (some ⟨m.ρ k,0,none⟩) es.length c→cF ok' w (.row sz es) v)(hm:es.length≤maxLen):
 ∀ {ps qs:List PV} {vs:List Value},IE k sz es ps qs→lP st' qs=true→fZ ok st m w ps vs→fZ ok' st' m w qs vs
 |_,_,[],.nil,_,h=>trivial
 |_,_,_::_,.nil,_,h=>h.elim
 |_,_,[],.cons _ _,_,h=>h.elim
 |_,_,_::_,.cons k1 k2,hk,h=>by
  simp only [lP,Bool.and_eq_true] at hk
  exact⟨OY.rv hle hb hm k1 hk.1 h.1,IE.rv hle hb hm k2 hk.2 h.2⟩
end
theorem Wk.freeze{k sz:Nat}{bx:cV}{es:List (List Tr)}{s':AS}(hb:s.st.boxes[k]?=some (some bx))(hc:sS bx.cells (es.flatten.map PV.t))(hes: ∀e∈es,e.length=sz)(hm:es.length≤16777216)
 (hbox:QM k sz es s'.st s.st.boxes s'.st.boxes) (hnone:s'.st.boxes[k]?=some none) (hr:s'.st.rows=s.st.rows) (hp:kZ C.st s'.st) (he:adJ k sz es s s'.st s'.env):Wk C n s s':=fun m a w h=>by
 have hsub:wW s.st s'.st:=⟨fun i x hi=>by obtain⟨y,hy,-⟩:=hbox.get i x hi;exact⟨y,hy⟩,fun r row hrow=>by rw [hr] at hrow;exact hrow⟩
 obtain⟨vs,hob,hvs⟩:=h.sto.box k bx hb
 have hts:=sS.rv hc hvs
 have hokk: ∀o,jL C.av s'.st m (m.ρ k) o:=fun o=>⟨h.sto.avb k bx hb o,fun i x hi=>by
  obtain⟨y,hy,-⟩:=hbox.get i x hi
  by_cases hik:i=k
  ·subst hik
   rw [hnone] at hi
   cases hi
  ·exact h.sto.binj i k y bx hy hb hik,fun r row g c hrow hg e=>absurd e.symm (h.sto.br k bx r row g c hb (hsub.rows r row hrow) hg)⟩
 have hmm:es.length≤maxLen:=by unfold maxLen;omega
 have hRep: ∀v c,es.length≤c→c≤maxLen→v= .slice (some ⟨m.ρ k,0,none⟩) es.length c→cF (jL C.av s'.st m) w (.row sz es) v:=by
  rintro _ c hc hcm rfl
  have hget: ∀q e,es[q]?=some e→ ∀j d,e[j]?=some d→ ∃v,vs[q*sz+j]?=some v∧cF (jL C.av s.st m) w d v:=fun q e hq j d hj=>by
   have hf:=qC (sz:=sz) hes hq hj
   obtain⟨v,hv,hrv⟩:=hts.get (j:=q*sz+j) (p:= .t d) (by rw [List.getElem?_map,hf];rfl)
   exact⟨v,hv,hrv⟩
  refine cF.row (fun q j=>(vs[q*sz+j]?).getD undef) hc hcm (fun _=>⟨m.ρ k,0,rfl,hob.lt,fun q e hq j d hd=>⟨hokk _,?_⟩⟩) (fun q e hq j d hd=>?_)
  ·obtain⟨v,hv,-⟩:=hget q e hq j d hd
   rw [Nat.zero_add,hob.cell hv,hv]
   rfl
  ·obtain⟨v,hv,hrr⟩:=hget q e hq j d hd
   rw [hv]
   exact cF.mono hrr (Nat.le_refl _) (fun _ _ _ k=>hsub.ok k) (fun _ _ _ _=>rfl)
 have hle: ∀p v,PV.okIn s'.st p=true→RV (jL C.av s.st m) s.st m w p v→RV (jL C.av s'.st m) s'.st m w p v:=fun p v=>hsub.rv p v
 refine⟨m,h.dfr,h.tsz,?_,fun i q hq=>?_,?_⟩
 ·exact {
   box:=fun i x hi=>by
    obtain⟨y,hy,ht,hl,hk⟩:=hbox.get i x hi
    obtain⟨us,k1,k2⟩:=h.sto.box i y hy
    exact⟨us,by rw [← ht];exact k1,IE.rv hle hRep hmm hl hk k2⟩
   binj:=fun i i' x x' hi hi'=>by
    obtain⟨y,hy,-⟩:=hbox.get i x hi
    obtain⟨y',hy',-⟩:=hbox.get i' x' hi'
    exact h.sto.binj i i' y y' hy hy'
   row:=fun r row hrow=>by
    obtain⟨k1,k2,k3⟩:=h.sto.row r row (hsub.rows r row hrow)
    refine⟨k1,k2,?_⟩
    rcases k3 with k3|⟨g,c,cur,q1,q2,q3,q4,q5,q6⟩
    ·exact .inl k3
    ·exact .inr ⟨g,c,cur,q1,q2,q3,q4,q5,cF.mono q6 (Nat.le_refl _) (fun _ _ _ k=>hsub.ok k) (fun _ _ _ _=>rfl)⟩
   rinj:=fun r r' row row' g c c' hi hi'=>h.sto.rinj r r' row row' g c c' (hsub.rows r row hi) (hsub.rows r' row' hi')
   br:=fun i x r row g c hi hrow=>by
    obtain⟨y,hy,-⟩:=hbox.get i x hi
    exact h.sto.br i y r row g c hy (hsub.rows r row hrow)
   avlt:=h.sto.avlt
   avr:=fun r row g c hrow=>h.sto.avr r row g c (hsub.rows r row hrow)
   avb:=fun i x hi=>by
    obtain⟨y,hy,-⟩:=hbox.get i x hi
    exact h.sto.avb i y hy }
 ·obtain⟨p,h1,h2,h3⟩:=he.get hq
  obtain⟨v,hv,hrv⟩:=h.env i p h1
  exact⟨v,hv,OY.rv hle hRep hmm h2 h3 hrv⟩
 ·exact {
   os:=h.ev.os
   tape:=h.ev.tape
   output:=h.ev.output
   size:=h.ev.size
   blk:=h.ev.blk
   cell:=h.ev.cell
   okk:=fun b o hb ho=>(hsub.ok (av:=fun _ _=>False) ⟨id,h.ev.okk b o hb ho⟩).2
   live:=fun i x hi=>⟨hp.1 i x hi,(h.ev.live i x hi).2⟩
   fresh:=fun i x' hi=>by
    obtain⟨y,hy,-⟩:=hbox.get i x' hi
    exact h.ev.fresh i y hy
   rowl:=fun r row hrow=>by
    obtain⟨row',hr'⟩:=hp.2 r row hrow
    obtain⟨row2,h1,h2⟩:=h.ev.rowl r row hrow
    have:=hsub.rows r row' hr'
    rw [h1] at this
    cases this
    exact⟨_,hr',h2⟩
   rfresh:=fun r row' g c hrow hg=>h.ev.rfresh r row' g c (hsub.rows r row' hrow) hg }
end
theorem Wk.freezeE{C:oE}{n:Nat}{s:AS}{k sz:Nat}{bx:cV}{es es':List (List Tr)}{s':AS}(heq:es=es')(hb:s.st.boxes[k]?=some (some bx))(hc:sS bx.cells (es.flatten.map PV.t))(hes: ∀e∈es,e.length=sz)(hm:es.length≤16777216)
 (hbox:QM k sz es' s'.st s.st.boxes s'.st.boxes) (hnone:s'.st.boxes[k]?=some none) (hr:s'.st.rows=s.st.rows) (hp:kZ C.st s'.st) (he:adJ k sz es' s s'.st s'.env):Wk C n s s':=by
 subst heq
 exact Wk.freeze hb hc hes hm hbox hnone hr hp he
theorem c9{p:Prop}(h:p:=by(repeat' (first|exact OY.bsl rfl|exact OY.bslL rfl|exact OY.gsl rfl|exact IE.nil|apply IE.cons|exact OY.le (PV.Le.refl _)|exact OY.le (PV.Le.acc _ _ _)|exact OY.le (PV.Le.nil _)|exact OY.le (PV.Le.lit _ _)|exact OY.le (PV.Le.nilLit _)|apply OY.agg))):p:=h
end Go.Proofs.YtpioomclpaiomaaGreat
