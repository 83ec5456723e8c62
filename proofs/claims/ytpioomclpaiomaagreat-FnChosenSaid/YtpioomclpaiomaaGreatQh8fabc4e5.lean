/- Words, rules and walks of several kinds, laid together: PmD, PmX, PmY, PmZ, PmW, PmV, PmN, PmO, PmDS, PmK, PmM, PmU, PmT, PmDraw, PmB, PlZ, Ctr, Plain, SL, Mark, Foc, Del, PmR, PmBool, Pma, PmF, PmS, PmEq, PmaB, PmG. No conditions but those that each theorem states. -/
import Derived.Test.YtpioomclpaiomaaGreatQh54773eaf
import Derived.Test.YtpioomclpaiomaaGreatProg
import Derived.WalkArith
import Derived.Laws.MakeOwn
set_option linter.unusedSimpArgs false
set_option linter.unusedVariables false
namespace Go.Proofs.YtpioomclpaiomaaGreat
open Go.RowKit
theorem s7.refl: ∀ps:List PV,s7 ps ps
 | []=> .nil
 |p::ps=> .cons (.refl p) (s7.refl ps)
theorem WY{l:List ByteArray}{k:Nat}(h:k<l.length):(aX l)[k]?=some [.leaf (.string l[k])]:=ag5 h
theorem ai3{l:List Int}{k:Nat}(h:k<l.length):(tF l)[k]?=some [.leaf (.int .i64 l[k])]:=SE h
def aC.cs(x:aC):List Tr:= [.leaf (.int .i64 x.gPackage),.leaf (.int .i64 x.gAt)]
def aC.pv(x:aC):PV:= .agg [.t (.leaf (.int .i64 x.gPackage)),.t (.leaf (.int .i64 x.gAt))]
theorem aC.tr_cs(x:aC):x.tr=x.cs:=by
 obtain⟨v0,v1⟩:=x
 simp [aC.tr,aC.cs]
theorem aC.trs_cs{l:List aC}{k:Nat}(h:k<l.length):(aC.trs l)[k]?=some (l[k]).cs:=by rw [← aC.tr_cs];exact aC.trs_get h
def aB.cs(x:aB):List Tr:= [.leaf (.string x.gAtom),.row 2 (aB.trs (x.gList))]
def aB.pv(x:aB):PV:= .agg [.t (.leaf (.string x.gAtom)),.t (.row 2 (aB.trs (x.gList)))]
theorem aB.tr_cs(x:aB):x.tr=x.cs:=by
 obtain⟨v0,v1⟩:=x
 simp [aB.tr,aB.cs]
theorem aB.trs_cs{l:List aB}{k:Nat}(h:k<l.length):(aB.trs l)[k]?=some (l[k]).cs:=by rw [← aB.tr_cs];exact aB.trs_get h
def aA.cs(x:aA):List Tr:= [.leaf (.int .i64 x.gKind),.leaf (.string x.gName),.row 3 (aA.trs (x.gArgs))]
def aA.pv(x:aA):PV:= .agg [.t (.leaf (.int .i64 x.gKind)),.t (.leaf (.string x.gName)),.t (.row 3 (aA.trs (x.gArgs)))]
theorem aA.tr_cs(x:aA):x.tr=x.cs:=by
 obtain⟨v0,v1,v2⟩:=x
 simp [aA.tr,aA.cs]
theorem aA.trs_cs{l:List aA}{k:Nat}(h:k<l.length):(aA.trs l)[k]?=some (l[k]).cs:=by rw [← aA.tr_cs];exact aA.trs_get h
def aL.cs(x:aL):List Tr:= [.leaf (.string x.gVar),.leaf (.int .i64 x.gType.gKind),.leaf (.string x.gType.gName),.row 3 (aA.trs (x.gType.gArgs))]
theorem aL.tr_cs(x:aL):x.tr=x.cs:=by
 obtain⟨v0,v1⟩:=x
 simp [aL.tr,aL.cs,aA.tr_cs,aA.cs]
theorem aL.trs_cs{l:List aL}{k:Nat}(h:k<l.length):(aL.trs l)[k]?=some (l[k]).cs:=by rw [← aL.tr_cs];exact aL.trs_get h
def aH.cs(x:aH):List Tr:= [.leaf (.int .i64 x.gKind),.leaf (.string x.gTrait),.leaf (.string x.gName),.leaf (.int .i64 x.gN),.leaf (.int .i64 x.gType.gKind),.leaf (.string x.gType.gName),.row 3 (aA.trs (x.gType.gArgs)),.row 9 (aH.trs (x.gArgs)),.row 11 (bM.trs (x.gArms))]
def aH.pv(x:aH):PV:= .agg [.t (.leaf (.int .i64 x.gKind)),.t (.leaf (.string x.gTrait)),.t (.leaf (.string x.gName)),.t (.leaf (.int .i64 x.gN)),.t (.leaf (.int .i64 x.gType.gKind)),.t (.leaf (.string x.gType.gName)),.t (.row 3 (aA.trs (x.gType.gArgs))),.t (.row 9 (aH.trs (x.gArgs))),.t (.row 11 (bM.trs (x.gArms)))]
theorem aH.tr_cs(x:aH):x.tr=x.cs:=by
 obtain⟨v0,v1,v2,v3,v4,v5,v6⟩:=x
 simp [aH.tr,aH.cs,aA.tr_cs,aA.cs]
theorem aH.trs_cs{l:List aH}{k:Nat}(h:k<l.length):(aH.trs l)[k]?=some (l[k]).cs:=by rw [← aH.tr_cs];exact aH.trs_get h
def bM.cs(x:bM):List Tr:= [.leaf (.string x.gConstructor),.row 1 (aX (x.gVars)),.leaf (.int .i64 x.gBody.gKind),.leaf (.string x.gBody.gTrait),.leaf (.string x.gBody.gName),.leaf (.int .i64 x.gBody.gN),.leaf (.int .i64 x.gBody.gType.gKind),.leaf (.string x.gBody.gType.gName),.row 3 (aA.trs (x.gBody.gType.gArgs)),.row 9 (aH.trs (x.gBody.gArgs)),.row 11 (bM.trs (x.gBody.gArms))]
def bM.pv(x:bM):PV:= .agg [.t (.leaf (.string x.gConstructor)),.t (.row 1 (aX (x.gVars))),.t (.leaf (.int .i64 x.gBody.gKind)),.t (.leaf (.string x.gBody.gTrait)),.t (.leaf (.string x.gBody.gName)),.t (.leaf (.int .i64 x.gBody.gN)),.t (.leaf (.int .i64 x.gBody.gType.gKind)),.t (.leaf (.string x.gBody.gType.gName)),.t (.row 3 (aA.trs (x.gBody.gType.gArgs))),.t (.row 9 (aH.trs (x.gBody.gArgs))),.t (.row 11 (bM.trs (x.gBody.gArms)))]
theorem bM.tr_cs(x:bM):x.tr=x.cs:=by
 obtain⟨v0,v1,v2⟩:=x
 simp [bM.tr,bM.cs,aH.tr_cs,aH.cs]
theorem bM.trs_cs{l:List bM}{k:Nat}(h:k<l.length):(bM.trs l)[k]?=some (l[k]).cs:=by rw [← bM.tr_cs];exact bM.trs_get h
def aE.cs(x:aE):List Tr:= [.leaf (.string x.gName),.row 3 (aA.trs (x.gParams)),.leaf (.int .i64 x.gResult.gKind),.leaf (.string x.gResult.gName),.row 3 (aA.trs (x.gResult.gArgs)),.leaf (.bool x.gHasDefault),.row 1 (aX (x.gVars)),.leaf (.int .i64 x.gBody.gKind),.leaf (.string x.gBody.gTrait),.leaf (.string x.gBody.gName),.leaf (.int .i64 x.gBody.gN),.leaf (.int .i64 x.gBody.gType.gKind),.leaf (.string x.gBody.gType.gName),.row 3 (aA.trs (x.gBody.gType.gArgs)),.row 9 (aH.trs (x.gBody.gArgs)),.row 11 (bM.trs (x.gBody.gArms))]
def aE.pv(x:aE):PV:= .agg [.t (.leaf (.string x.gName)),.t (.row 3 (aA.trs (x.gParams))),.t (.leaf (.int .i64 x.gResult.gKind)),.t (.leaf (.string x.gResult.gName)),.t (.row 3 (aA.trs (x.gResult.gArgs))),.t (.leaf (.bool x.gHasDefault)),.t (.row 1 (aX (x.gVars))),.t (.leaf (.int .i64 x.gBody.gKind)),.t (.leaf (.string x.gBody.gTrait)),.t (.leaf (.string x.gBody.gName)),.t (.leaf (.int .i64 x.gBody.gN)),.t (.leaf (.int .i64 x.gBody.gType.gKind)),.t (.leaf (.string x.gBody.gType.gName)),.t (.row 3 (aA.trs (x.gBody.gType.gArgs))),.t (.row 9 (aH.trs (x.gBody.gArgs))),.t (.row 11 (bM.trs (x.gBody.gArms)))]
theorem aE.tr_cs(x:aE):x.tr=x.cs:=by
 obtain⟨v0,v1,v2,v3,v4,v5⟩:=x
 simp [aE.tr,aE.cs,aA.tr_cs,aA.cs,aH.tr_cs,aH.cs]
theorem aE.trs_cs{l:List aE}{k:Nat}(h:k<l.length):(aE.trs l)[k]?=some (l[k]).cs:=by rw [← aE.tr_cs];exact aE.trs_get h
def aU.cs(x:aU):List Tr:= [.leaf (.string x.gName),.row 1 (aX (x.gSupertraits)),.leaf (.bool x.gAuto),.leaf (.bool x.gAssoc),.row 16 (aE.trs (x.gSignatures))]
def aU.pv(x:aU):PV:= .agg [.t (.leaf (.string x.gName)),.t (.row 1 (aX (x.gSupertraits))),.t (.leaf (.bool x.gAuto)),.t (.leaf (.bool x.gAssoc)),.t (.row 16 (aE.trs (x.gSignatures)))]
theorem aU.tr_cs(x:aU):x.tr=x.cs:=by
 obtain⟨v0,v1,v2,v3,v4⟩:=x
 simp [aU.tr,aU.cs]
theorem aU.trs_cs{l:List aU}{k:Nat}(h:k<l.length):(aU.trs l)[k]?=some (l[k]).cs:=by rw [← aU.tr_cs];exact aU.trs_get h
def aD.cs(x:aD):List Tr:= [.leaf (.string x.gName),.row 3 (aA.trs (x.gFields))]
theorem aD.tr_cs(x:aD):x.tr=x.cs:=by
 obtain⟨v0,v1⟩:=x
 simp [aD.tr,aD.cs]
theorem aD.trs_cs{l:List aD}{k:Nat}(h:k<l.length):(aD.trs l)[k]?=some (l[k]).cs:=by rw [← aD.tr_cs];exact aD.trs_get h
def aM.cs(x:aM):List Tr:= [.leaf (.string x.gName),.row 1 (aX (x.gVars)),.row 2 (aD.trs (x.gConstructors))]
def aM.pv(x:aM):PV:= .agg [.t (.leaf (.string x.gName)),.t (.row 1 (aX (x.gVars))),.t (.row 2 (aD.trs (x.gConstructors)))]
theorem aM.tr_cs(x:aM):x.tr=x.cs:=by
 obtain⟨v0,v1,v2⟩:=x
 simp [aM.tr,aM.cs]
theorem aM.trs_cs{l:List aM}{k:Nat}(h:k<l.length):(aM.trs l)[k]?=some (l[k]).cs:=by rw [← aM.tr_cs];exact aM.trs_get h
def aI.cs(x:aI):List Tr:= [.leaf (.string x.gTrait),.leaf (.int .i64 x.gType.gKind),.leaf (.string x.gType.gName),.row 3 (aA.trs (x.gType.gArgs))]
def aI.pv(x:aI):PV:= .agg [.t (.leaf (.string x.gTrait)),.t (.leaf (.int .i64 x.gType.gKind)),.t (.leaf (.string x.gType.gName)),.t (.row 3 (aA.trs (x.gType.gArgs)))]
theorem aI.tr_cs(x:aI):x.tr=x.cs:=by
 obtain⟨v0,v1⟩:=x
 simp [aI.tr,aI.cs,aA.tr_cs,aA.cs]
theorem aI.trs_cs{l:List aI}{k:Nat}(h:k<l.length):(aI.trs l)[k]?=some (l[k]).cs:=by rw [← aI.tr_cs];exact aI.trs_get h
def aN.cs(x:aN):List Tr:= [.leaf (.string x.gName),.row 1 (aX (x.gVars)),.leaf (.int .i64 x.gBody.gKind),.leaf (.string x.gBody.gTrait),.leaf (.string x.gBody.gName),.leaf (.int .i64 x.gBody.gN),.leaf (.int .i64 x.gBody.gType.gKind),.leaf (.string x.gBody.gType.gName),.row 3 (aA.trs (x.gBody.gType.gArgs)),.row 9 (aH.trs (x.gBody.gArgs)),.row 11 (bM.trs (x.gBody.gArms))]
theorem aN.tr_cs(x:aN):x.tr=x.cs:=by
 obtain⟨v0,v1,v2⟩:=x
 simp [aN.tr,aN.cs,aH.tr_cs,aH.cs]
theorem aN.trs_cs{l:List aN}{k:Nat}(h:k<l.length):(aN.trs l)[k]?=some (l[k]).cs:=by rw [← aN.tr_cs];exact aN.trs_get h
def aG.cs(x:aG):List Tr:= [.leaf (.string x.gTrait),.row 1 (aX (x.gVars)),.leaf (.int .i64 x.gHead.gKind),.leaf (.string x.gHead.gName),.row 3 (aA.trs (x.gHead.gArgs)),.row 4 (aI.trs (x.gWhere)),.leaf (.bool x.gDefault),.leaf (.bool x.gHasAssoc),.leaf (.int .i64 x.gAssoc.gKind),.leaf (.string x.gAssoc.gName),.row 3 (aA.trs (x.gAssoc.gArgs)),.row 11 (aN.trs (x.gMethods))]
def aG.pv(x:aG):PV:= .agg [.t (.leaf (.string x.gTrait)),.t (.row 1 (aX (x.gVars))),.t (.leaf (.int .i64 x.gHead.gKind)),.t (.leaf (.string x.gHead.gName)),.t (.row 3 (aA.trs (x.gHead.gArgs))),.t (.row 4 (aI.trs (x.gWhere))),.t (.leaf (.bool x.gDefault)),.t (.leaf (.bool x.gHasAssoc)),.t (.leaf (.int .i64 x.gAssoc.gKind)),.t (.leaf (.string x.gAssoc.gName)),.t (.row 3 (aA.trs (x.gAssoc.gArgs))),.t (.row 11 (aN.trs (x.gMethods)))]
theorem aG.tr_cs(x:aG):x.tr=x.cs:=by
 obtain⟨v0,v1,v2,v3,v4,v5,v6,v7⟩:=x
 simp [aG.tr,aG.cs,aA.tr_cs,aA.cs]
theorem aG.trs_cs{l:List aG}{k:Nat}(h:k<l.length):(aG.trs l)[k]?=some (l[k]).cs:=by rw [← aG.tr_cs];exact aG.trs_get h
def aR.cs(x:aR):List Tr:= [.leaf (.string x.gName),.leaf (.int .i64 x.gType.gKind),.leaf (.string x.gType.gName),.row 3 (aA.trs (x.gType.gArgs))]
theorem aR.tr_cs(x:aR):x.tr=x.cs:=by
 obtain⟨v0,v1⟩:=x
 simp [aR.tr,aR.cs,aA.tr_cs,aA.cs]
theorem aR.trs_cs{l:List aR}{k:Nat}(h:k<l.length):(aR.trs l)[k]?=some (l[k]).cs:=by rw [← aR.tr_cs];exact aR.trs_get h
def aK.cs(x:aK):List Tr:= [.leaf (.string x.gName),.row 1 (aX (x.gVars)),.row 4 (aI.trs (x.gWhere)),.row 4 (aR.trs (x.gParams)),.leaf (.int .i64 x.gResult.gKind),.leaf (.string x.gResult.gName),.row 3 (aA.trs (x.gResult.gArgs)),.leaf (.int .i64 x.gBody.gKind),.leaf (.string x.gBody.gTrait),.leaf (.string x.gBody.gName),.leaf (.int .i64 x.gBody.gN),.leaf (.int .i64 x.gBody.gType.gKind),.leaf (.string x.gBody.gType.gName),.row 3 (aA.trs (x.gBody.gType.gArgs)),.row 9 (aH.trs (x.gBody.gArgs)),.row 11 (bM.trs (x.gBody.gArms))]
def aK.pv(x:aK):PV:= .agg [.t (.leaf (.string x.gName)),.t (.row 1 (aX (x.gVars))),.t (.row 4 (aI.trs (x.gWhere))),.t (.row 4 (aR.trs (x.gParams))),.t (.leaf (.int .i64 x.gResult.gKind)),.t (.leaf (.string x.gResult.gName)),.t (.row 3 (aA.trs (x.gResult.gArgs))),.t (.leaf (.int .i64 x.gBody.gKind)),.t (.leaf (.string x.gBody.gTrait)),.t (.leaf (.string x.gBody.gName)),.t (.leaf (.int .i64 x.gBody.gN)),.t (.leaf (.int .i64 x.gBody.gType.gKind)),.t (.leaf (.string x.gBody.gType.gName)),.t (.row 3 (aA.trs (x.gBody.gType.gArgs))),.t (.row 9 (aH.trs (x.gBody.gArgs))),.t (.row 11 (bM.trs (x.gBody.gArms)))]
theorem aK.tr_cs(x:aK):x.tr=x.cs:=by
 obtain⟨v0,v1,v2,v3,v4,v5⟩:=x
 simp [aK.tr,aK.cs,aA.tr_cs,aA.cs,aH.tr_cs,aH.cs]
theorem aK.trs_cs{l:List aK}{k:Nat}(h:k<l.length):(aK.trs l)[k]?=some (l[k]).cs:=by rw [← aK.tr_cs];exact aK.trs_get h
def aJ.cs(x:aJ):List Tr:= [.leaf (.string x.gName),.row 1 (aX (x.gDeps)),.row 5 (aU.trs (x.gTraits)),.row 3 (aM.trs (x.gDataTypes)),.row 12 (aG.trs (x.gInstances)),.row 16 (aK.trs (x.gFunctions))]
def aJ.pv(x:aJ):PV:= .agg [.t (.leaf (.string x.gName)),.t (.row 1 (aX (x.gDeps))),.t (.row 5 (aU.trs (x.gTraits))),.t (.row 3 (aM.trs (x.gDataTypes))),.t (.row 12 (aG.trs (x.gInstances))),.t (.row 16 (aK.trs (x.gFunctions)))]
theorem aJ.tr_cs(x:aJ):x.tr=x.cs:=by
 obtain⟨v0,v1,v2,v3,v4,v5⟩:=x
 simp [aJ.tr,aJ.cs]
theorem aJ.trs_cs{l:List aJ}{k:Nat}(h:k<l.length):(aJ.trs l)[k]?=some (l[k]).cs:=by rw [← aJ.tr_cs];exact aJ.trs_get h
def aP.cs(x:aP):List Tr:= [.row 6 (aJ.trs (x.gPackages))]
def aP.pv(x:aP):PV:= .agg [.t (.row 6 (aJ.trs (x.gPackages)))]
theorem aP.tr_cs(x:aP):x.tr=x.cs:=by
 obtain⟨v0⟩:=x
 simp [aP.tr,aP.cs]
theorem aP.trs_cs{l:List aP}{k:Nat}(h:k<l.length):(aP.trs l)[k]?=some (l[k]).cs:=by rw [← aP.tr_cs];exact aP.trs_get h
def bG.cs(x:bG):List Tr:= [.leaf (.string x.gGoal.gTrait),.leaf (.int .i64 x.gGoal.gType.gKind),.leaf (.string x.gGoal.gType.gName),.row 3 (aA.trs (x.gGoal.gType.gArgs)),.leaf (.int .i64 x.gFrom),.row 1 (tF (x.gSteps))]
theorem bG.tr_cs(x:bG):x.tr=x.cs:=by
 obtain⟨v0,v1,v2⟩:=x
 simp [bG.tr,bG.cs,aI.tr_cs,aI.cs]
theorem bG.trs_cs{l:List bG}{k:Nat}(h:k<l.length):(bG.trs l)[k]?=some (l[k]).cs:=by rw [← bG.tr_cs];exact bG.trs_get h
end Go.Proofs.YtpioomclpaiomaaGreat

namespace Go.Proofs.YtpioomclpaiomaaGreat
set_option linter.unusedSimpArgs false
set_option linter.unusedVariables false
open Go.RowKit Go.WalkArith Go.IntWalk Go.WideShapes
section
variable {P:Program} {C:q9} {n:Nat} {s:AS} {Q:Exit→AS→Prop} {o:Oper} {ops:Array Oper} {rest:List Oper}
theorem AL.splitB(d:Nat){b:Bool}{l:List Oper}(_hb:s.lk d=some (.t (.leaf (.bool b))))(h1:b=true→AL P C n ops l Q s)(h2:b=false→AL P C n ops l Q s):AL P C n ops l Q s:=by
 cases b
 ·exact h2 rfl
 ·exact h1 rfl
theorem AL.cons_gv{s1:AS}{j d:Nat}{b c:Bool}(hg:o.guard=some (j,c))(hj:(ops[j]?).bind (·.dst)=some d)(hb:s.lk d=some (.t (.leaf (.bool b))))(hv:b=c)(ho:aV P C n o s s1)(h:AL P C n ops rest Q s1):AL P C n ops (o::rest) Q s:=by
 subst hv
 exact AL.cons_g hg hj hb ho h
theorem AL.skip_v{j d:Nat}{b c e:Bool}(hg:o.guard=some (j,c))(hj:(ops[j]?).bind (·.dst)=some d)(hb:s.lk d=some (.t (.leaf (.bool b))))(hv:b=e)(hne:(e==c)=false)(h:AL P C n ops rest Q (s.delO o.dst)):AL P C n ops (o::rest) Q s:=by
 subst hv
 exact AL.skip hg hj hb hne h
theorem aV.pickT{x y z:Operand}{b:Bool}{p:PV}(ho:o.op= .pick x y z)(hd:bW o.dst n=true)(hx:s.ev x=some (.t (.leaf (.bool b))))(hb:b=true)(hy:s.ev y=some p):aV P C n o s (s.putO o.dst p):=
 aV.pick ho hd hx (fun _=>hy) (q:=p) (fun h=>by rw [hb] at h;cases h)
theorem aV.pickF{x y z:Operand}{b:Bool}{p:PV}(ho:o.op= .pick x y z)(hd:bW o.dst n=true)(hx:s.ev x=some (.t (.leaf (.bool b))))(hb:b=false)(hz:s.ev z=some p):aV P C n o s (s.putO o.dst p):=
 aV.pick ho hd hx (fun h=>by rw [hb] at h;cases h) (q:=p) (fun _=>hz)
theorem aV.lenN{T:TypeId}{x:Operand}{p:PV}{sz N:Nat}{es:List (List Tr)}{E:Nat×Nat×Nat}(ho:o.op= .call { callee:= .builtin .len,args:= #[x],argTypes:= #[T] })(hd:bW o.dst n=true)(hx:s.ev x=some p)(hp:mZ p=some (sz,es))(hT:elemOf? P T=some E)(hl:es.length=N):
 aV P C n o s (s.putO o.dst (.t (.leaf (.int .i64 (N:Int))))):=by
 subst hl
 exact aV.len (ty:=0) ho hd hx hp hT
theorem Q3(i:Nat){p:PV}{sz N:Nat}{es:List (List Tr)}(hx:s.lk i=some p)(hp:mZ p=some (sz,es))(hl:es.length=N): ∀m a w,RA C n s m a w→N≤9223372036854775807:=by
 subst hl
 exact aoC i hx hp
theorem BF{st':dK}(h:C.st=⟨[],[]⟩):mI C.st st':=by rw [h];exact mI.nil
end
theorem bF{a b:Nat}(h:decide ((a:Int)<(b:Int))=true):a<b:=by
 have:=of_decide_eq_true h
 omega
theorem ajA{a b:Nat}(h:decide ((a:Int)<(b:Int))=false):b≤a:=by
 have:=of_decide_eq_false h
 omega
end Go.Proofs.YtpioomclpaiomaaGreat

namespace Go.Proofs.YtpioomclpaiomaaGreat
set_option linter.unusedSimpArgs false
set_option linter.unusedVariables false
open Go.RowKit Go.WalkArith Go.IntWalk Go.WideShapes
section
variable {P:Program} {C:q9} {n:Nat} {s:AS} {Q:Exit→AS→Prop} {o:Oper}
theorem aV.quietX{p:PV}(hd:bW o.dst n=true)(h: ∀m a w,RA C n s m a w→ ∃v w1,(execOp a.eval o).run P w= .ok (.value v) w1∧s6 w w1∧RV (lA C.av s.st m) s.st m w1 p v):aV P C n o s (s.putO o.dst p):=
 aV.run hd (s1:=s) (fun m a w hr=>by
  obtain⟨v,w1,h1,h2,h3⟩:=h m a w hr
  exact⟨v,m,w1,h1,Ev.later h2,hr.sto.later h2,h3⟩) rfl
theorem aV.buildSlice_run{T E sz by_ len:Nat}{parts:Array (Nat×Operand)}{ps:List (Nat×List PV)}{zs cs:List PV}(ho:o.op= .buildSlice T len parts)(hT:elemOf? P T=some (E,sz,by_))(hz:c7 P E=some zs)(hp:pA s parts.toList=some ps)
 (hc:tY (fun i=>some (i*sz,sz)) (List.replicate len zs).flatten ps=some cs) (hcl:cs.length=len*sz) (hsz:0<sz) (hzl:zs.length=sz) (hsm:len*sz≤16777216) {m:kD} {a:Act} {w:World} (h:RA C n s m a w):
 ∃us,(execOp a.eval o).run P w= .ok (.value (.slice (some ⟨w.heap.size,0,none⟩) len len)) (w.alloc (.cells ⟨us⟩ E))∧gQ (lA C.av s.st m) s.st m w cs us∧len≤maxLen:=by
 obtain⟨i,hu,hi,hs,hby⟩:=elemOf?.spec hT
 obtain⟨i',z,hi',hzz,hr⟩:=c7.spec hz
 rw [hi] at hi'
 cases hi'
 have hzv:=hr (lA C.av s.st m) s.st m w
 have hzs:z.cells.size=sz:=by have:=hzv.length;rw [hzl] at this;simpa using this.symm
 have hrl: ∀e∈List.replicate len zs,e.length=sz:=fun e he=>by rw [(List.mem_replicate.1 he).2];exact hzl
 have hzero:gQ (lA C.av s.st m) s.st m w (List.replicate len zs).flatten ((List.range (len*sz)).map (fun q=>z.cells[q%z.cells.size]!)):=by
  refine gQ.of_get (by rw [pQ hrl];simp) fun j p hj=>?_
  have hjl:j<len*sz:=by have:=dM hj;rw [pQ hrl] at this;simpa using this
  have hj1:j/sz<len:=by rw [Nat.div_lt_iff_lt_mul hsz];exact hjl
  have hj2:j%sz<zs.length:=by rw [hzl];exact Nat.mod_lt _ hsz
  have hpj:=sO (i:=j/sz) (j:=j%sz) (e:=zs) (d:=zs[j%sz]) hrl (by rw [List.getElem?_replicate,if_pos hj1]) (List.getElem?_eq_getElem hj2)
  rw [show j/sz*sz+j%sz=j by rw [Nat.mul_comm];exact Nat.div_add_mod j sz,hj] at hpj
  cases hpj
  obtain⟨v,hv,hrv⟩:=hzv.get (List.getElem?_eq_getElem hj2)
  refine⟨v,?_,hrv⟩
  rw [List.getElem?_map,List.getElem?_range hjl]
  simp only [Option.map_some,hzs]
  rw [Array.getElem?_toList] at hv
  obtain⟨hlt,hve⟩:=Array.getElem?_eq_some_iff.1 hv
  rw [getElem!_pos z.cells _ hlt,hve]
 obtain⟨us,h2,h3⟩:=K0 (FY h hp) hzero hc
 have hul:us.length=len*sz:=by have:=h3.length;rw [hcl] at this;exact this.symm
 have hrun:(Instr.buildSlice T len (parts.map fun(i,x)=>(i,a.eval x))).run P w= .ok (.slice (some ⟨w.heap.size,0,none⟩) len len) (w.alloc (.cells ⟨us⟩ E)):=by
  have hfill:Instr.fill (fun i=>some (i*sz,sz)) ((Array.range (len*sz)).map (z.cells[· %z.cells.size]!)) (parts.map fun(i,x)=>(i,a.eval x)).toList=some ⟨us⟩:=by
   rw [Array.toList_map,← h2]
   congr 1
   apply Array.ext'
   simp
  by_cases h0:len*sz=0
  ·have hl0:len=0:=by
    rcases Nat.mul_eq_zero.1 h0 with h|h
    ·exact h
    ·omega
   subst hl0
   rw [Nat.zero_mul] at hfill
   simp [Instr.buildSlice,run_underlying hu,Go.sizeOf,typeInfo,hi,hs,newRow]
   have e0:(Array.range 0).map (fun q=>z.cells[q%z.cells.size]!)= #[]:=by simp
   rw [e0] at hfill
   simp at hfill
   have e1:(Array.range 0).map (fun _=>(default:Value))= #[]:=by simp
   rw [e1,hfill]
   simp
  ·exact run_buildSlice w T E len _ ⟨us⟩ i z hu hi hzz (by rw [hs];omega) (by rw [hs];exact h0) (by rw [hs];exact hfill)
 refine⟨us,?_,h3,by have:=Nat.le_mul_of_pos_right len hsz;unfold maxLen;omega⟩
 unfold execOp
 simp [ho,hrun]
theorem s7.length{ps qs:List PV}(h:s7 ps qs):ps.length=qs.length:=by
 induction ps generalizing qs with
 |nil=>cases h;rfl
 |cons p ps ih=>cases h with|cons _ k=>rw [List.length_cons,List.length_cons,ih k]
theorem aV.buildSlice_lit{T E sz by_ len:Nat}{parts:Array (Nat×Operand)}{ps:List (Nat×List PV)}{zs cs:List PV}{es:List (List Tr)}(ho:o.op= .buildSlice T len parts)(hT:elemOf? P T=some (E,sz,by_))(hz:c7 P E=some zs)(hp:pA s parts.toList=some ps)
 (hc:tY (fun i=>some (i*sz,sz)) (List.replicate len zs).flatten ps=some cs) (hle:s7 cs (es.flatten.map PV.t)) (hel:es.length=len) (hes: ∀e∈es,e.length=sz) (hsz:0<sz) (hzl:zs.length=sz) (hsm:len*sz≤16777216):
 ∀m a w,RA C n s m a w→ ∃v w1,(execOp a.eval o).run P w= .ok (.value v) w1∧s6 w w1∧RV (lA C.av s.st m) s.st m w1 (.lit sz es) v:=by
 intro m a w h
 obtain⟨us,h1,h3,hm⟩:=aV.buildSlice_run ho hT hz hp hc (by rw [hle.length,List.length_map,pQ hes,hel]) hsz hzl hsm h
 have h4:=s7.rv hle h3
 have hx:s6 w (w.alloc (.cells ⟨us⟩ E)):= .alloc (.refl _) _
 refine⟨.slice (some ⟨w.heap.size,0,none⟩) len len,w.alloc (.cells ⟨us⟩ E),h1,hx,?_⟩
 have hget: ∀q e,es[q]?=some e→ ∀j d,e[j]?=some d→ ∃v,us[q*sz+j]?=some v∧cJ (lA C.av s.st m) (w.alloc (.cells ⟨us⟩ E)) d v:=fun q e hq j d hj=>by
  have hf:=sO (sz:=sz) hes hq hj
  obtain⟨v,hv,hrv⟩:=h4.get (j:=q*sz+j) (p:= .t d) (by rw [List.getElem?_map,hf];rfl)
  exact⟨v,hv,cJ.ext hrv hx⟩
 have:=cJ.row (ok:=lA C.av s.st m) (w:=w.alloc (.cells ⟨us⟩ E)) (es:=es) (sz:=sz) (a:=some ⟨w.heap.size,0,none⟩) (cap:=len) (fun q j=>(us[q*sz+j]?).getD undef) (by omega) hm (fun _=>⟨w.heap.size,0,rfl,by simp,fun q e hq j d hd=>⟨Q4 h.sto (Nat.le_refl _) _,?_⟩⟩) (fun q e hq j d hd=>?_)
 ·subst hel
  exact⟨this,_,rfl⟩
 ·obtain⟨v,hv,-⟩:=hget q e hq j d hd
  rw [Nat.zero_add,(OB.new w E ⟨us⟩).cell,hv]
  simpa using hv
 ·obtain⟨v,hv,hr⟩:=hget q e hq j d hd
  rw [hv]
  exact hr
theorem aV.buildSliceL{T E sz by_ len:Nat}{parts:Array (Nat×Operand)}{ps:List (Nat×List PV)}{zs cs:List PV}{es:List (List Tr)}(ho:o.op= .buildSlice T len parts)(hd:bW o.dst n=true)(hT:elemOf? P T=some (E,sz,by_))(hz:c7 P E=some zs)(hp:pA s parts.toList=some ps)
 (hc:tY (fun i=>some (i*sz,sz)) (List.replicate len zs).flatten ps=some cs) (hle:s7 cs (es.flatten.map PV.t)) (hel:es.length=len) (hes: ∀e∈es,e.length=sz) (hsz:0<sz) (hzl:zs.length=sz) (hsm:len*sz≤16777216):
 aV P C n o s (s.putO o.dst (.lit sz es)):=
 aV.quietX hd (aV.buildSlice_lit ho hT hz hp hc hle hel hes hsz hzl hsm)
theorem aV.less{p q:PV}(hle:PV.Le p q)(hdl:bW o.dst n=true)(h: ∀m a w,RA C n s m a w→ ∃v w1,(execOp a.eval o).run P w= .ok (.value v) w1∧s6 w w1∧RV (lA C.av s.st m) s.st m w1 p v):aV P C n o s (s.putO o.dst q):=
 aV.quietX hdl fun m a w hr=>by
  obtain⟨v,w1,h1,h2,h3⟩:=h m a w hr
  exact⟨v,w1,h1,h2,hle.rv h3⟩
theorem aV.buildSliceQ{T E sz by_ len:Nat}{parts:Array (Nat×Operand)}{ps:List (Nat×List PV)}{zs cs:List PV}{es:List (List Tr)}(ho:o.op= .buildSlice T len parts)(hd:bW o.dst n=true)(hT:elemOf? P T=some (E,sz,by_))(hz:c7 P E=some zs)(hp:pA s parts.toList=some ps)
 (hc:tY (fun i=>some (i*sz,sz)) (List.replicate len zs).flatten ps=some cs) (hle:s7 cs (es.flatten.map PV.t)) (hel:es.length=len) (hes: ∀e∈es,e.length=sz) (hsz:0<sz) (hzl:zs.length=sz) (hsm:len*sz≤16777216):
 aV P C n o s (s.putO o.dst (.t (.row sz es))):=
 aV.less (.lit sz es) hd (aV.buildSlice_lit ho hT hz hp hc hle hel hes hsz hzl hsm)
def dT.steps(P:Program)(C:q9)(n:Nat)(D:dT):Nat→List Oper→Prop
 |_,[]=>True
 |i,o::l=>D.step P C n i o∧dT.steps P C n D (i+1) l
theorem dT.steps_get{D:dT}: ∀ {l:List Oper} {k:Nat},D.steps P C n k l→ ∀(i:Nat) (o:Oper),l[i]?=some o→D.step P C n (k+i) o
 | [],_,_,i,o,h=>by simp at h
 |x::l,k,hs,0,o,h=>by simp at h;subst h;exact hs.1
 |x::l,k,hs,i+1,o,h=>by
  have:=dT.steps_get (l:=l) (k:=k+1) hs.2 i o (by simpa using h)
  rwa [show k+1+i=k+(i+1) by omega] at this
theorem aO.drawnL{id:Nat}{l:List Oper}{s1:AS}(D:dT)(hD:D.ops=l.toArray)(hm:P.follows .mixedOrders=true)(hok:D.ok=true)(henv:s.env=D.env0)(hst:s.st=D.F 0 false)(hsteps:D.steps P C n 0 l)
 (h1:(⟨((List.range D.ops.size).filterMap (D.gX (Array.replicate D.ops.size true)))++D.env0,D.F D.effs.length D.alloc.isSome⟩:AS)=s1) (h:Q .normal s1):aO P C n (.region id l.toArray true) Q s:=by
 subst h1
 rw [← hD]
 refine aO.drawn D hm hok henv hst (fun i o ho=>?_) h
 have:=dT.steps_get hsteps i o (by rw [hD] at ho;simpa using ho)
 rwa [Nat.zero_add] at this
theorem dT.step.q1{D:dT}{i:Nat}{o:Oper}(lo:Nat)(wt:D.want o=some true)(hk:D.kind i= .q lo lo)
 (h: ∀(s':AS) (b:Bool),s'.st=D.F lo b→(∀t src p,(t,src)∈D.ins i→D.pv (t,src)=some p→s'.lk t=some p)→ ∃p,D.out i=some p∧aV P C n o s' (s'.putO o.dst p)):D.step P C n i o:=
 .inl ⟨wt,by
  unfold dT.does
  rw [hk]
  exact fun s' j b h1 h2 hs hl=>by
   obtain rfl:j=lo:=by omega
   exact h s' b hs hl⟩
end
end Go.Proofs.YtpioomclpaiomaaGreat

namespace Go.Proofs.YtpioomclpaiomaaGreat
set_option linter.unusedSimpArgs false
set_option linter.unusedVariables false
open Go.RowKit
def X4:kD:=⟨fun _=>0,fun _=>none⟩
def av0:Nat→Nat→Prop:=fun _ _=>False
theorem ok0(b o:Nat):lA av0 ⟨[],[]⟩ X4 b o:=⟨fun h=>h,fun k x h=>by simp at h,fun r row g c h=>by simp at h⟩
theorem aoO(w:World):fP av0 ⟨[],[]⟩ X4 w where
 box:=fun k x h=>by simp at h
 binj:=fun k k' x x' h=>by simp at h
 row:=fun r row h=>by simp at h
 rinj:=fun r r' row row' g c c' h=>by simp at h
 br:=fun k x r row g c h=>by simp at h
 avlt:=fun b o h=>h.elim
 avr:=fun r row g c h=>by simp at h
 avb:=fun k x h=>by simp at h
theorem Ev.ext{m m':kD}{w w':World}{st':dK}(h:Ev ⟨[],[]⟩ m w st' m' w'):s6 w w' where
 os:=h.os
 tape:=h.tape
 output:=h.output
 size:=h.size
 block:=fun b hb=>h.blk b hb (fun k x h=>by simp at h) (fun r row g c h=>by simp at h)
abbrev D2(w:World)(ps:List PV)(vs:List Value):Prop:=gQ (lA av0 ⟨[],[]⟩ X4) ⟨[],[]⟩ X4 w ps vs
abbrev RV0(w:World)(p:PV)(v:Value):Prop:=RV (lA av0 ⟨[],[]⟩ X4) ⟨[],[]⟩ X4 w p v
theorem RV0.agg{w:World}{ts:List Tr}{cs:List Value}(h:gP w ts cs):RV0 w (.agg (ts.map PV.t)) (.agg ⟨cs⟩):=⟨cs,rfl,h.toRVL fun b o _=>ok0 b o⟩
theorem RV0.t{w:World}{t:Tr}{v:Value}(h:GL w t v):RV0 w (.t t) v:=h.repM fun b o _=>ok0 b o
theorem cA.plain{P:Program}{f:FuncId}{args:List PV}{d:Value}(h:cA P f args (.t (.leaf d))){w:World}{vals:List Value}(hv:D2 w args vals):Calls P f ⟨vals⟩ w fun e w'=>e= .returned d∧s6 w w':=
 (h av0 X4 w vals (aoO w) hv).mono fun e w'=>by
  rintro⟨res,st',m',v,rfl,⟨rfl,rfl⟩,-,he,hr⟩
  exact⟨by rw [(cJ.leaf_eq hr).1],he.ext⟩
end Go.Proofs.YtpioomclpaiomaaGreat

namespace Go.Proofs.YtpioomclpaiomaaGreat
set_option linter.unusedSimpArgs false
set_option linter.unusedVariables false
open Go.RowKit Go.WalkArith Go.IntWalk Go.WideShapes
theorem mX(l:List ByteArray): ∀e∈aX l,e.length=1:=fun e he=>by
 unfold aX at he
 obtain⟨x,_,rfl⟩:=List.mem_map.1 he
 rfl
theorem u5(a b:List ByteArray):aX a++aX b=aX (a++b):=by simp [aX]
section
variable {P:Program} {C:q9} {n:Nat} {s:AS} {Q:Exit→AS→Prop} {o:Oper}
theorem aO.wk{s':AS}{c:Code}(hw:Wk C n s s')(h:aO P C n c Q s'):aO P C n c Q s:=fun m a w hr=>by
 obtain⟨m',h'⟩:=hw m a w hr
 exact h m' a w h'
theorem aV.appendE{T E sz by_:Nat}{x y:Operand}{es es2 es3:List (List Tr)}{r:Nat}{row:pO}{p:PV}(ho:o.op= .call { callee:= .builtin .append,args:= #[x,y],argTypes:= #[T,T] })(hd:bW o.dst n=true)
 (hx:s.ev x=some (.acc sz es r)) (hrow:s.st.rows[r]?=some row) (hes:row.es=es) (hE:row.E=E) (hw:row.whole=false) (hy:s.ev y=some p) (hp:mZ p=some (sz,es2)) (h2: ∀e∈es2,e.length=sz)
 (hT:elemOf? P T=some (E,sz,by_)) (hz:(P.info? E).bind (fun i=>i.zero.map (fun z=>z.cells.size))=some sz) (hb:0<by_) (hlen:(es.length+es2.length)*by_≤140737488355328) (h3:es++es2=es3):
 aV P C n o s ((⟨s.env,s.st.setRow r { row with es:=es3 }⟩:AS).putO o.dst (.acc sz es3 r)):=by
 subst h3
 exact aV.append ho hd hx hrow hes hE hw hy hp h2 hT hz hb hlen
theorem aV.callPE{f:FuncId}{fn:Func}{xs:List Operand}{ts:Array TypeId}{ps qs:List PV}{res:PV}{pre st' S:dK}(fb fr:List Nat)(ho:o.op= .call { callee:= .value (.func f),args:=⟨xs⟩,argTypes:=ts })(hd:bW o.dst n=true)(hf:P.funcs[f]?=some fn)(hnm:(fn.name== "runtime.NumGoroutine")=false)(hb:fn.body.isNone=false)
 (hx:xs.map s.ev=ps.map some) (hS:s.st=S) (hp:l6 S pre fb fr) (hle:s7 ps (CM fb fr qs)) (hok:mY pre qs=true) (hbl:st'.boxes.length=pre.boxes.length) (hrl:st'.rows.length=pre.rows.length) (hc:cP P f qs pre (fun r t=>r=res∧t=st')):
 aV P C n o s ((⟨s.env,S.over st' fb fr⟩:AS).putO o.dst (PV.ren fb fr res)):=by
 subst hS
 exact aV.callP fb fr ho hd hf hnm hb hx hp hle hok hbl hrl hc
end
theorem cP.regNil{P:Program}{f:FuncId}{l1 l2:List PV}{E sz:Nat}{q res:PV}{t:dK}(hsz:0<sz)(h:cP P f (l1++ .acc sz [] 0::l2) ⟨[],[⟨E,sz,[],false⟩]⟩ (fun r st'=>r=res∧st'=t))(hle:PV.Le res q)(hk:PV.okIn ⟨[],[]⟩ q=true):cA P f (l1++ .nil::l2) q:=fun av m w vals hst hv=>by
 have hE:=FN (row:=⟨E,sz,[],false⟩) hst
 have hS:=KM (row:=⟨E,sz,[],false⟩) hst hsz rfl
 have hargs:gQ (lA av (dK.addRow ⟨[],[]⟩ ⟨E,sz,[],false⟩) ⟨m.ρ,xM m.γ 0 none⟩) (dK.addRow ⟨[],[]⟩ ⟨E,sz,[],false⟩) ⟨m.ρ,xM m.γ 0 none⟩ w (l1++ .acc sz [] 0::l2) vals:=by
  have h0:=gQ.mono hE _ _ hv
  have hlen:=h0.length
  have key: ∀(l:List PV) (vs:List Value),gQ (lA av (dK.addRow ⟨[],[]⟩ ⟨E,sz,[],false⟩) ⟨m.ρ,xM m.γ 0 none⟩) (dK.addRow ⟨[],[]⟩ ⟨E,sz,[],false⟩) ⟨m.ρ,xM m.γ 0 none⟩ w (l++ .nil::l2) vs→
   gQ (lA av (dK.addRow ⟨[],[]⟩ ⟨E,sz,[],false⟩) ⟨m.ρ,xM m.γ 0 none⟩) (dK.addRow ⟨[],[]⟩ ⟨E,sz,[],false⟩) ⟨m.ρ,xM m.γ 0 none⟩ w (l++ .acc sz [] 0::l2) vs:=by
   intro l
   induction l with
   |nil=>
    intro vs hh
    match vs,hh with
    |v::vs,hh=>
     refine⟨?_,hh.2⟩
     obtain rfl:=(show v=_ from hh.1)
     exact⟨⟨E,sz,[],false⟩,rfl,rfl,Nat.le_refl _,cJ.row (es:= []) (fun _ _=>undef) (by simp) (by unfold maxLen;omega) (by simp) (by simp),fun _=>by simp [xM,SR]⟩
    | [],hh=>exact hh.elim
   |cons p l ih=>
    intro vs hh
    match vs,hh with
    |v::vs,hh=>exact⟨hh.1,ih vs hh.2⟩
    | [],hh=>exact hh.elim
  exact key l1 vals h0
 refine(h av _ w vals hS hargs).mono fun e w'=>?_;rintro⟨r,st',m',v,k1,⟨rfl,rfl⟩,k3,k4,k5⟩
 have hl:oF st' ⟨[],[]⟩:=⟨fun k x' hx=>by simp at hx,fun r row' hr=>by simp at hr⟩
 exact⟨q,⟨[],[]⟩,m',v,k1,⟨rfl,rfl⟩,hl.sto k3,hl.ev (hE.trans k4) mI.nil,hl.rv q _ hk (hle.rv k5)⟩
end Go.Proofs.YtpioomclpaiomaaGreat

namespace Go.Proofs.YtpioomclpaiomaaGreat
set_option linter.unusedSimpArgs false
set_option linter.unusedVariables false
open Go.RowKit Go.WalkArith Go.IntWalk Go.WideShapes
theorem nN(b:Bool):b=true∨b=false:=by cases b<;>simp
section
variable {P:Program} {C:q9} {n:Nat} {s:AS} {o:Oper}
theorem c3(k j:Nat){bx:dO}{p:PV}{sz N:Nat}{es:List (List Tr)}(hb:s.st.boxes[k]?=some (some bx))(hx:bx.cells[j]?=some p)(hp:mZ p=some (sz,es))(hl:es.length=N): ∀m a w,RA C n s m a w→N≤9223372036854775807:=by
 subst hl
 exact amI k j hb hx hp
theorem aV.indexI{T E sz by_:Nat}{x i:Operand}{p:PV}{es:List (List Tr)}{e:List Tr}{y:Int}(ho:o.op= .indexAddr T x i)(hd:bW o.dst n=true)(hx:s.ev x=some p)(hp:mZ p=some (sz,es))(hi:s.ev i=some (.t (.leaf (.int .i64 y))))(h0:0≤y)
 (he:es[y.toNat]?=some e) (hT:elemOf? P T=some (E,sz,by_)):aV P C n o s (s.putO o.dst (.eptr e)):=
 aV.index (k:=y.toNat) ho hd hx hp (by rw [hi,Int.toNat_of_nonneg h0]) he hT
end
end Go.Proofs.YtpioomclpaiomaaGreat

namespace Go.Proofs.YtpioomclpaiomaaGreat
set_option linter.unusedSimpArgs false
set_option linter.unusedVariables false
open Go.RowKit Go.WalkArith Go.IntWalk Go.WideShapes
theorem MV{st:dK}{m:kD}{w w':World}{x:dO}{b:Nat}(hx:s6 w w')(hb:w.heap.size≤b):Ev st m w (st.addBox x) ⟨xM m.ρ st.boxes.length b,m.γ⟩ w':=by
 refine⟨hx.os,hx.tape,hx.output,hx.size,fun b hb _ _=>hx.block b hb,fun b o hb _=>jD (hx.block b hb),fun c o hc h=>⟨fun k y hk=>?_,h.2⟩,fun k y hk=>⟨⟨y,?_⟩,?_⟩,fun k y hk=>?_,fun _ row h=>⟨row,h,rfl,Nat.le_refl _,fun _=>rfl,fun h=>⟨h,rfl⟩⟩,fun _ row _ c h h'=> .inl ⟨row,c,h,h'⟩⟩
 ·rcases gE hk with⟨h1,h2⟩|⟨rfl,rfl⟩
  ·simp only [eE (show k≠st.boxes.length by omega)]
   exact h.1 k y h2
  ·simp only [cE]
   omega
 ·show(st.boxes++ [some x])[k]?=_
  rw [List.getElem?_append_left (dM hk)];exact hk
 ·exact eE (by have:=dM hk;omega)
 ·rcases gE hk with⟨h1,h2⟩|⟨rfl,rfl⟩
  ·exact .inl ⟨y,h2⟩
  ·exact .inr (by simpa [cE] using hb)
theorem UC{av:Nat→Nat→Prop}{st:dK}{m:kD}{w w':World}{x:dO}{b:Nat}{vs:List Value}(h:fP av st m w)(hx:s6 w w')(hb:w.heap.size≤b)(ho:OBp w' b x.ty vs)
 (hc:gQ (lA av (st.addBox x) ⟨xM m.ρ st.boxes.length b,m.γ⟩) (st.addBox x) ⟨xM m.ρ st.boxes.length b,m.γ⟩ w' x.cells vs):fP av (st.addBox x) ⟨xM m.ρ st.boxes.length b,m.γ⟩ w':=by
 have he:Ev st m w (st.addBox x) ⟨xM m.ρ st.boxes.length b,m.γ⟩ w':=MV hx hb
 have hw:=fun k y (hk:st.boxes[k]?=some (some y))=>h.box_lt hk
 refine⟨fun k y hk=>?_,fun k k' y y' hk hk' hne=>?_,fun r row hr=>?_,h.rinj,fun k y r row g c hk hr hg=>?_,fun b o hb=>Nat.lt_of_lt_of_le (h.avlt b o hb) hx.size,h.avr,fun k y hk o ha=>?_⟩
 ·rcases gE hk with⟨h1,h2⟩|⟨rfl,rfl⟩
  ·obtain⟨us,k1,k2⟩:=h.box k y h2
   simp only [eE (show k≠st.boxes.length by omega)]
   exact⟨us,k1.ext hx,gQ.mono he _ _ k2⟩
  ·simp only [cE]
   exact⟨vs,ho,hc⟩
 ·rcases gE hk with⟨h1,h2⟩|⟨rfl,rfl⟩<;>rcases gE hk' with⟨h1',h2'⟩|⟨rfl,rfl⟩
  ·simp only [eE (show k≠st.boxes.length by omega),eE (show k'≠st.boxes.length by omega)]
   exact h.binj k k' y y' h2 h2' hne
  ·simp only [eE (show k≠st.boxes.length by omega),cE]
   have:=hw k y h2
   omega
  ·simp only [eE (show k'≠st.boxes.length by omega),cE]
   have:=hw k' y' h2'
   omega
  ·exact absurd rfl hne
 ·obtain⟨k1,k2,k3⟩:=h.row r row hr
  refine⟨k1,k2,?_⟩
  rcases k3 with k3|⟨g,c,cur,q1,q2,q3,q4,q5,q6⟩
  ·exact .inl k3
  ·exact .inr ⟨g,c,cur,q1,q2.ext hx,q3,q4,q5,RV.mono he (.t _) _ q6⟩
 ·rcases gE hk with⟨h1,h2⟩|⟨rfl,rfl⟩
  ·simp only [eE (show k≠st.boxes.length by omega)]
   exact h.br k y r row g c h2 hr hg
  ·simp only [cE]
   have:=h.row_lt hr hg
   omega
 ·rcases gE hk with⟨h1,h2⟩|⟨rfl,rfl⟩
  ·simp only [eE (show k≠st.boxes.length by omega)] at ha
   exact h.avb k y h2 o ha
  ·simp only [cE] at ha
   have:=h.avlt _ _ ha
   omega
def aoU(P:Program)(f:FuncId)(args:List PV)(T:TypeId)(cs:List PV):Prop:=cP P f args ⟨[],[]⟩ (fun r st'=> ∃k,r= .ptr k 0∧st'.rows= []∧(∀i x,st'.boxes[i]?=some (some x)→i=k)∧st'.boxes[k]?=some (some ⟨T,cs⟩))
section
variable {P:Program} {C:q9} {n:Nat} {s:AS} {o:Oper}
theorem aV.callNew{f:FuncId}{fn:Func}{xs:List Operand}{ts:Array TypeId}{ps qs cs:List PV}{T:TypeId}(ho:o.op= .call { callee:= .value (.func f),args:=⟨xs⟩,argTypes:=ts })(hd:bW o.dst n=true)(hf:P.funcs[f]?=some fn)(hnm:(fn.name== "runtime.NumGoroutine")=false)(hb:fn.body.isNone=false)
 (hx:xs.map s.ev=ps.map some) (hle:s7 ps qs) (hfr:kF qs=true) (hfr':kF cs=true) (hc:aoU P f qs T cs):aV P C n o s ((⟨s.env,s.st.addBox ⟨T,cs⟩⟩:AS).putO o.dst (.ptr s.st.boxes.length 0)):=fun m a w h K Q hK=>by
 have h2:=evL h hx
 have h1:(execOp a.eval o).run P w= .ok (.enter f ⟨xs.map a.eval⟩) w:=by
  have hcf:=iX (P:=P) hf hnm hb
  unfold execOp
  simp only [ho]
  simp [resolve,invoke,Deferred.ofValue,Act.eval,hcf]
 unfold Oper.wp
 rw [h1]
 have h3:=hc (amZ C s m w) m w _ (fP.nil fun b o hb=>hb.1) (kF.rv (fun b o hb hk=>⟨fun hs=>hs.2 hk,fun _ _ h=>by simp at h,fun _ _ _ _ h=>by simp at h⟩) _ _ hfr (s7.rv hle h2))
 refine Calls.mono h3 fun e w'=>?_;rintro⟨r,st',m',v,rfl,⟨k,rfl,hrows,honly,hbox⟩,h4,h5,h6⟩
 have hx:s6 w w':=⟨h5.os,h5.tape,h5.output,h5.size,fun b hb=>h5.blk b hb (fun _ _ h=>by simp at h) (fun _ _ _ _ h=>by simp at h)⟩
 have hfresh:w.heap.size≤m'.ρ k:=by
  rcases h5.fresh k _ hbox with⟨x,hx0⟩|hf
  ·simp at hx0
  ·exact hf
 obtain⟨vs,hob,hcs⟩:=h4.box k _ hbox
 have hk: ∀b o,b<w'.heap.size→lA (amZ C s m w) st' m' b o→lA C.av (s.st.addBox ⟨T,cs⟩) ⟨xM m.ρ s.st.boxes.length (m'.ρ k),m.γ⟩ b o:=fun b o hb hk=>by
  have hnew:m'.ρ k≠b:=hk.2.1 k _ hbox
  have h0:lA C.av s.st m b o:=by
   rcases Nat.lt_or_ge b w.heap.size with hlt|hge
   ·exact Classical.byContradiction fun hn=>hk.1 ⟨hlt,hn⟩
   ·exact Q4 h.sto hge o
  refine⟨h0.1,fun i y hi=>?_,h0.2.2⟩
  rcases gE hi with⟨q1,q2⟩|⟨rfl,rfl⟩
  ·simp only [eE (show i≠s.st.boxes.length by omega)]
   exact h0.2.1 i y q2
  ·simp only [cE]
   exact hnew
 have hE:Ev s.st m w (s.st.addBox ⟨T,cs⟩) ⟨xM m.ρ s.st.boxes.length (m'.ρ k),m.γ⟩ w':=MV hx hfresh
 have hS:fP C.av (s.st.addBox ⟨T,cs⟩) ⟨xM m.ρ s.st.boxes.length (m'.ρ k),m.γ⟩ w':=UC h.sto hx hfresh hob (kF.rv hk _ _ hfr' hcs)
 have hv:v= .pointer (some ⟨m'.ρ k,0,none⟩):=h6.2
 exact hK _ _ w' ((h.step hE hS).put (dF hd) ⟨⟨⟨T,cs⟩,by simp [dK.addBox]⟩,by simp [cE,hv]⟩)
end
end Go.Proofs.YtpioomclpaiomaaGreat

namespace Go.Proofs.YtpioomclpaiomaaGreat
set_option linter.unusedSimpArgs false
set_option linter.unusedVariables false
open Go.RowKit Go.WalkArith Go.IntWalk Go.WideShapes
def CB(x y:Int):Int:=IntKind.wrap .i64 ((BitVec.ofInt 64 x&&& BitVec.ofInt 64 y).toNat:Int)
def R5(x y:Int):Int:=IntKind.wrap .i64 ((BitVec.ofInt 64 x^^^BitVec.ofInt 64 y).toNat:Int)
def tD(x y:Int):Int:=x.fdiv (2^(min y.toNat 64))
def aQ(x:Int):Int:=IntKind.wrap .i64 x
section
variable {P:Program} {C:q9} {n:Nat} {s:AS} {o:Oper}
theorem aV.moveAny{v:Value}(ho:o.op= .assign (.const v)∨o.op= .move (.const v)):aV P C n o s (s.delO o.dst):=fun m a w h K Q hK=>by
 have h1:(execOp a.eval o).run P w= .ok (.value v) w:=by
  unfold execOp
  rcases ho with ho|ho<;>simp [ho,Act.eval]
 unfold Oper.wp
 rw [h1]
 exact hK m _ w (h.del o.dst v)
theorem aV.andI{T yT:TypeId}{x y:Operand}{a b:Int}(ho:o.op= .binOp .and T x y yT)(hd:bW o.dst n=true)(hx:s.ev x=some (.t (.leaf (.int .i64 a))))(hy:s.ev y=some (.t (.leaf (.int .i64 b)))):
 aV P C n o s (s.putO o.dst (.t (.leaf (.int .i64 (CB a b))))):=aV.bin ho hd hx hy (fun w=>by rfl) (wf_wrap .i64 _)
theorem aV.xorI{T yT:TypeId}{x y:Operand}{a b:Int}(ho:o.op= .binOp .xor T x y yT)(hd:bW o.dst n=true)(hx:s.ev x=some (.t (.leaf (.int .i64 a))))(hy:s.ev y=some (.t (.leaf (.int .i64 b)))):
 aV P C n o s (s.putO o.dst (.t (.leaf (.int .i64 (R5 a b))))):=aV.bin ho hd hx hy (fun w=>by rfl) (wf_wrap .i64 _)
theorem aV.shrI{T yT:TypeId}{x y:Operand}{a b:Int}{k:IntKind}(ho:o.op= .binOp .shr T x y yT)(hd:bW o.dst n=true)(hx:s.ev x=some (.t (.leaf (.int .i64 a))))(hy:s.ev y=some (.t (.leaf (.int k b))))(hb:0≤b)(h1: -9223372036854775808≤tD a b)(h2:tD a b≤9223372036854775807):
 aV P C n o s (s.putO o.dst (.t (.leaf (.int .i64 (tD a b))))):=aV.bin ho hd hx hy (fun w=>by
  have: ¬b<0:=by omega
  simp [eqGuard,binOp,Op.shift,tD,IntKind.bits,this]) (wf_i64 (by omega))
theorem aV.remN{T yT:TypeId}{x y:Operand}{a b:Nat}(ho:o.op= .binOp .rem T x y yT)(hd:bW o.dst n=true)(hx:s.ev x=some (.t (.leaf (.int .i64 (a:Int)))))(hy:s.ev y=some (.t (.leaf (.int .i64 (b:Int)))))(hb:0<b)(ha:a≤9223372036854775807):
 aV P C n o s (s.putO o.dst (.t (.leaf (.int .i64 ((a%b:Nat):Int))))):=aV.bin ho hd hx hy (fun w=>by
  have: ¬(b:Int)=0:=by omega
  have: ¬b=0:=by omega
  simp [eqGuard,binOp,Op.intDiv,this,Int.tmod_eq_emod_of_nonneg]) (wf_i64 (by have:=Nat.mod_le a b;omega))
theorem aV.convI{S T:TypeId}{x:Operand}{k:IntKind}{a:Int}(ho:o.op= .convert S T x)(hd:bW o.dst n=true)(hx:s.ev x=some (.t (.leaf (.int k a))))(hS: ∃k',P.underlying S=some (.int k'))(hT:P.underlying T=some (.int .i64))(h1: -9223372036854775808≤a)(h2:a≤9223372036854775807):
 aV P C n o s (s.putO o.dst (.t (.leaf (.int .i64 a)))):=
 aV.quiet (dF hd) fun m ac w h=>⟨.int .i64 a,by
  have h3:=(cJ.leaf_eq (h.eval hx)).1
  obtain⟨k',hS⟩:=hS
  have hw:IntKind.wrap .i64 a=a:=by unfold IntKind.wrap;simp [IntKind.bits,IntKind.signed];omega
  unfold execOp
  simp [ho,h3,convert,run_underlying hS,run_underlying hT,Conv.intToInt,hw],cJ.leaf (wf_i64 (by omega))⟩
end
end Go.Proofs.YtpioomclpaiomaaGreat

namespace Go.Proofs.YtpioomclpaiomaaGreat
open Go.RowKit Go.Proofs
set_option linter.unusedSimpArgs false
set_option linter.unusedVariables false
def cW(l:List UInt8):List (List Tr):=l.map fun b=> [.leaf (.int .u8 (b.toNat:Int))]
theorem hQ(l:List UInt8):(cW l).length=l.length:=by simp [cW]
theorem xR{l:List UInt8}{k:Nat}(h:k<l.length):(cW l)[k]?=some [.leaf (.int .u8 ((l[k]).toNat:Int))]:=by simp [cW,h]
structure DS where
 code:List UInt8
 p:Nat
 h:Int
def DS.cells(d:DS):List PV:= [.t (.row 1 (cW d.code)),.t (.leaf (.int .i64 (d.p:Int))),.t (.leaf (.int .i64 d.h))]
abbrev DS.box(T:TypeId)(d:DS):dK:=⟨[some ⟨T,d.cells⟩],[]⟩
def EN(h:Int):Int:=aQ (aQ (h*6364136223846793005)+1442695040888963407)
theorem GK(x:Int): -9223372036854775808≤aQ x∧aQ x≤9223372036854775807:=by
 unfold aQ IntKind.wrap
 simp [IntKind.bits,IntKind.signed]
 omega
theorem Q0{x y:Int}(h: -9223372036854775808≤x∧x≤9223372036854775807): -9223372036854775808≤tD x y∧tD x y≤9223372036854775807:=by
 unfold tD
 generalize min y.toNat 64=k
 have hp:(1:Int)≤2^k:=by
  have:=Nat.one_le_two_pow (n:=k)
  exact_mod_cast this
 generalize(2:Int)^k=d at hp
 rw [Int.fdiv_eq_ediv_of_nonneg _ (by omega)]
 have h1:x/d≤9223372036854775807:=by
  have:x/d≤9223372036854775807/d:=Int.ediv_le_ediv (by omega) h.2
  have:(9223372036854775807:Int)/d≤9223372036854775807:=Int.ediv_le_self _ (by omega)
  omega
 have h2: -9223372036854775808≤x/d:=by
  rw [Int.le_ediv_iff_mul_le (by omega)]
  omega
 exact⟨h2,h1⟩
def DS.byte(d:DS):Int:=let x:=CB (R5 (tD (EN d.h) 33) (tD (EN d.h) 45)) 255;if h:d.p<d.code.length then CB (aQ (x+(d.code[d.p].toNat:Int))) 255 else x
def DS.next(d:DS):DS:=⟨d.code,if d.p<d.code.length then d.p+1 else d.p,EN d.h⟩
theorem aa2(x:Int):0≤CB x 255∧CB x 255≤255:=by
 unfold CB
 have h:(BitVec.ofInt 64 x&&& BitVec.ofInt 64 255).toNat≤255:=by
  rw [BitVec.toNat_and]
  exact Nat.le_trans Nat.and_le_right (by decide)
 generalize(BitVec.ofInt 64 x&&& BitVec.ofInt 64 255).toNat=k at h
 unfold IntKind.wrap
 simp [IntKind.bits,IntKind.signed]
 omega
theorem DS.byte_in(d:DS):0≤d.byte∧d.byte≤255:=by
 unfold DS.byte
 split
 ·exact aa2 _
 ·exact aa2 _
def DS.byteN(d:DS):Nat:=d.byte.toNat
theorem DS.byteN_le(d:DS):d.byteN≤255:=by have:=d.byte_in;unfold DS.byteN;omega
theorem DS.byteN_eq(d:DS):((d.byteN:Nat):Int)=d.byte:=by have:=d.byte_in;unfold DS.byteN;omega
def DS.below(d:DS)(n:Nat):Nat:=if n=0 then 0 else if n≤256 then d.byteN%n else(d.byteN*16777216+d.next.byteN*65536+d.next.next.byteN*256+d.next.next.next.byteN)%n
def DS.after(d:DS)(n:Nat):DS:=if n=0 then d else if n≤256 then d.next else d.next.next.next.next
theorem DS.below_lt(d:DS){n:Nat}(h:0<n):d.below n<n:=by
 unfold DS.below
 rw [if_neg (by omega)]
 split
 ·exact Nat.mod_lt _ h
 ·exact Nat.mod_lt _ h
def DS.pick(d:DS)(l:List ByteArray):ByteArray:=(l[d.below l.length]?).getD ⟨#[]⟩
theorem DS.pick_eq{d:DS}{l:List ByteArray}(h:d.below l.length<l.length):d.pick l=l[d.below l.length]:=by simp [DS.pick,h]
def FX(h:Int)(b:UInt8):Int:=CB (aQ (aQ (aQ (h*131)+(b.toNat:Int))+7)) 1073741823
def ao9(code:List UInt8):Int:=(code.take 4000).foldl FX (28803+(code.length:Int))
def DS.start(code:List UInt8):DS:=⟨code,0,ao9 code⟩
theorem ajB{code:List UInt8}{i:Nat}{h h' r:Int}(h1:i<code.length)(h2:i<4000)(hr:r=((code.take 4000).drop i).foldl FX h)(hs:FX h code[i]=h'):r=((code.take 4000).drop (i+1)).foldl FX h':=by
 have hl:i<(code.take 4000).length:=by simp;omega
 rw [hr,List.drop_eq_getElem_cons hl,List.foldl_cons,List.getElem_take,hs]
theorem abC{code:List UInt8}{i:Nat}{h r:Int}(h1:code.length≤i∨4000≤i)(hr:r=((code.take 4000).drop i).foldl FX h):r=h:=by
 rw [hr,List.drop_of_length_le (by simp;omega),List.foldl_nil]
theorem uE{C:q9}{x:dO}{S:dK}(h:C.st=⟨[some x],[]⟩)(hs: ∃y,S.boxes[0]?=some (some y)):mI C.st S:=by
 rw [h]
 exact⟨fun k z hz=>by
  rcases k with _|k
  ·exact hs
  ·simp at hz,fun r row hr=>by simp at hr⟩
end Go.Proofs.YtpioomclpaiomaaGreat

namespace Go.Proofs.YtpioomclpaiomaaGreat
set_option linter.unusedSimpArgs false
set_option linter.unusedVariables false
open Go.RowKit Go.WalkArith Go.IntWalk Go.WideShapes
def aoK(sz:Nat)(es:List (List Tr)):Option (List PV)→Nat→PV
 |none,k=> .acc sz es k
 |some ps,k=> .tup (.acc sz es k::ps)
def amB(P:Program)(f:FuncId)(args:List PV)(E:TypeId)(sz:Nat)(es:List (List Tr))(ps:Option (List PV)):Prop:=
 cP P f args ⟨[],[]⟩ (fun r st'=> ∃k,r=aoK sz es ps k∧st'.rows[k]?=some ⟨E,sz,es,false⟩)
section
variable {P:Program} {C:q9} {n:Nat} {s:AS} {o:Oper}
end
theorem xP.ofAcc{av:Nat→Nat→Prop}{st:dK}{m:kD}{w:World}{k E sz:Nat}{es:List (List Tr)}{v:Value}{S:Nat→Prop}(hst:fP av st m w)(hrow:st.rows[k]?=some ⟨E,sz,es,false⟩)(hv:RV (lA av st m) st m w (.acc sz es k) v)
 (hS: ∀g c,m.γ k=some (g,c)→g<w.heap.size→S g) (hfl: ∀e∈es,∀d∈e,∃u,d= .leaf u):xP w (.row sz es) v S:=by
 obtain⟨q1,q2,q3⟩:=hst.row k _ hrow
 obtain⟨row,hr,-,hle,hrep,heq⟩:=hv
 rw [hrow] at hr
 obtain rfl:=Option.some.inj hr
 have hv:=heq rfl
 rcases q3 with⟨a,b⟩|⟨g,c,cur,r1,r2,r3,r4,r5,r6⟩
 ·rw [a] at hv
  have b:es= []:=b
  subst b
  subst hv
  exact xP.row (es:= []) (fun _ _=>undef) (fun _ _ _=>False) (by simp) (by unfold maxLen;omega) (by simp) (by simp) (by simp) (by simp)
 ·rw [r1] at hv
  subst hv
  have r6:cJ (lA av st m) w (.row sz es) (.slice (some ⟨g,0,none⟩) es.length c):=r6
  show xP w (.row sz es) (.slice (some ⟨g,0,none⟩) es.length c) S
  cases r6 with
  |row cc h1 h2 h3 h4=>
   refine .row cc (fun _ _ _=>False) h1 h2 (fun hne=>?_) (fun i e he j d hd=>?_) (fun _ _ _ _ _ _ x hx=>hx.elim) (fun _ _ _ _ _ _ _ _ _ _ _ _ _ x hx=>hx.elim)
   ·obtain⟨b,off,ha,hb,hc⟩:=h3 hne
    obtain⟨rfl,rfl⟩:g=b∧0=off:=by simpa using ha
    exact⟨g,0,E,cur,rfl,r2,hS g c r1 hb,fun i e he j d hd=>⟨by rw [← r2.cell];exact(hc i e he j d hd).2,fun x hx=>hx.elim⟩⟩
   ·obtain⟨u,rfl⟩:=hfl e (List.mem_of_getElem? he) d (List.mem_of_getElem? hd)
    have h7:=(h4 i e he j _ hd).rep.leaf_eq
    rw [h7.1]
    exact .leaf h7.2
theorem amB.own{P:Program}{f:FuncId}{args:List PV}{E sz:Nat}{es:List (List Tr)}(h:amB P f args E sz es none)(hfl: ∀e∈es,∀d∈e,∃u,d= .leaf u){w:World}{vals:List Value}(hv:D2 w args vals):
 Calls P f ⟨vals⟩ w fun e w'=> ∃v,e= .returned v∧s6 w w'∧xP w' (.row sz es) v (KP w w'):=
 (h av0 X4 w vals (aoO w) hv).mono fun e w'=>by
  rintro⟨res,st',m',v,rfl,⟨k,rfl,hrow⟩,hst,he,hr⟩
  exact⟨v,rfl,he.ext,xP.ofAcc hst hrow hr (fun g c hg hlt=>by
   rcases he.rfresh k _ g c hrow hg with⟨row,c0,h0,_⟩|hf
   ·simp at h0
   ·exact⟨hf,hlt⟩) hfl⟩
end Go.Proofs.YtpioomclpaiomaaGreat

namespace Go.Proofs.YtpioomclpaiomaaGreat
set_option linter.unusedSimpArgs false
set_option linter.unusedVariables false
open Go.RowKit Go.WalkArith Go.IntWalk Go.WideShapes
mutual
inductive Mv (sz:Nat) (es:List (List Tr)) (k k':Nat):PV→PV→Prop
 |acc:Mv sz es k k' (.acc sz es k) (.acc sz es k')
 |free (p:PV):PV.free p=true→Mv sz es k k' p p
 |agg {ps qs:List PV}:XC sz es k k' ps qs→Mv sz es k k' (.agg ps) (.agg qs)
 |tup {ps qs:List PV}:XC sz es k k' ps qs→Mv sz es k k' (.tup ps) (.tup qs)
inductive XC (sz:Nat) (es:List (List Tr)) (k k':Nat):List PV→List PV→Prop
 |nil:XC sz es k k' [] []
 |cons {p q:PV} {ps qs:List PV}:Mv sz es k k' p q→XC sz es k k' ps qs→XC sz es k k' (p::ps) (q::qs)
end
section
variable {ok ok':Nat→Nat→Prop} {st st':dK} {m m':kD} {w:World} {sz k k':Nat} {es:List (List Tr)}
mutual
theorem Mv.rv(hk: ∀b o,b<w.heap.size→ok b o→ok' b o)(hrow: ∀row,st.rows[k]?=some row→st'.rows[k']?=some row∧m'.γ k'=m.γ k): ∀ {p q:PV} {v:Value},Mv sz es k k' p q→RV ok st m w p v→RV ok' st' m' w q v
 |_,_,_,.acc,h=>by
  obtain⟨row,h1,h2,h3,h4,h5⟩:=h
  obtain⟨k1,k2⟩:=hrow row h1
  exact⟨row,k1,h2,h3,cJ.mono h4 (Nat.le_refl _) hk (fun _ _ _ _=>rfl),fun e=>by rw [k2];exact h5 e⟩
 |_,_,_,.free p hf,h=>PV.free.rv hk p _ hf h
 |_,_,_,.agg hl,h=>by
  obtain⟨vs,hv,h1⟩:=h
  exact⟨vs,hv,XC.rv hk hrow hl h1⟩
 |_,_,_,.tup hl,h=>by
  obtain⟨vs,hv,h1⟩:=h
  exact⟨vs,hv,XC.rv hk hrow hl h1⟩
theorem XC.rv(hk: ∀b o,b<w.heap.size→ok b o→ok' b o)(hrow: ∀row,st.rows[k]?=some row→st'.rows[k']?=some row∧m'.γ k'=m.γ k): ∀ {ps qs:List PV} {vs:List Value},XC sz es k k' ps qs→gQ ok st m w ps vs→gQ ok' st' m' w qs vs
 |_,_,[],.nil,h=>h
 |_,_,_::_,.nil,h=>h.elim
 |_,_,[],.cons _ _,h=>h.elim
 |_,_,_::_,.cons h1 h2,h=>⟨Mv.rv hk hrow h1 h.1,XC.rv hk hrow h2 h.2⟩
end
end
mutual
theorem PV.free.ren{fb fr:List Nat}: ∀(p:PV),PV.free p=true→PV.ren fb fr p=p
 | .t _,_=>rfl
 | .agg cs,h=>by rw [PV.ren,kF.ren cs h]
 | .tup cs,h=>by rw [PV.ren,kF.ren cs h]
 | .nil,_=>rfl
 | .eptr _,_=>rfl
 | .fn f cs,h=>by rw [PV.ren,kF.ren cs h]
 | .acc _ _ _,h=>by cases h
 | .ptr _ _,h=>by cases h
 | .full _ _ _,h=>by cases h
 | .rptr _ _,h=>by cases h
 | .lit _ _,h=>by cases h
 | .bsl _ _,h=>by cases h
 | .gsl _ _,h=>by cases h
theorem kF.ren{fb fr:List Nat}: ∀(ps:List PV),kF ps=true→CM fb fr ps=ps
 | [],_=>rfl
 |p::ps,h=>by
  simp only [kF,Bool.and_eq_true] at h
  rw [CM,PV.free.ren p h.1,kF.ren ps h.2]
end
section
variable {av:Nat→Nat→Prop} {s pre st':dK} {m m':kD} {fb:List Nat} {w w':World} {k:Nat} {row:pO}
theorem ak7(h:l6 s pre fb [])(hpr:pre.rows= [])(hs:fP av s m w)(hst:fP (IJ av s pre m fb [] w) st' m' w')(he:Ev pre (m.via fb []) w st' m' w')(hbl:st'.boxes.length=pre.boxes.length)
 (hfree: ∀(j:Nat) (x:dO),st'.boxes[j]?=some (some x)→kF x.cells=true) (hrow:st'.rows[k]?=some row):
 Ev s m w ⟨(s.over ⟨st'.boxes,[]⟩ fb []).boxes,s.rows++ [row]⟩ ⟨m.ρ,xM m.γ s.rows.length (m'.γ k)⟩ w'∧fP av ⟨(s.over ⟨st'.boxes,[]⟩ fb []).boxes,s.rows++ [row]⟩ ⟨m.ρ,xM m.γ s.rows.length (m'.γ k)⟩ w'∧
 (∀b o,b<w'.heap.size→lA (IJ av s pre m fb [] w) st' m' b o→lA av ⟨(s.over ⟨st'.boxes,[]⟩ fb []).boxes,s.rows++ [row]⟩ ⟨m.ρ,xM m.γ s.rows.length (m'.γ k)⟩ b o):=by
 have pb: ∀(i j:Nat),fb[j]?=some i→ ∃(x y:dO),pre.boxes[j]?=some (some x)∧s.boxes[i]?=some (some y)∧fb.getD j 0=i∧m'.ρ j=m.ρ i∧ ∃x':dO,st'.boxes[j]?=some (some x'):=fun i j hj=>by
  obtain⟨x,hx⟩:=h.all j (by rw [← h.fbl];exact dM hj)
  obtain⟨y,hy,-⟩:=h.box j x hx
  have e:fb.getD j 0=i:=by simp [List.getD_eq_getElem?_getD,hj]
  rw [e] at hy
  obtain⟨h1,h2⟩:=he.live j x hx
  exact⟨x,y,hx,hy,e,by rw [h2];show m.ρ (fb.getD j 0)=_;rw [e],h1⟩
 have ob: ∀(i:Nat) (z:dO),(s.over ⟨st'.boxes,[]⟩ fb []).boxes[i]?=some (some z)→(∃(j:Nat) (x:dO),fb[j]?=some i∧st'.boxes[j]?=some (some x)∧z=x.ren fb []∧i<s.boxes.length)∨(idx? fb i=none∧s.boxes[i]?=some (some z)):=fun i z hi=>SN (st':=⟨st'.boxes,[]⟩) hi
 have lv: ∀(i:Nat) (z:dO),(s.over ⟨st'.boxes,[]⟩ fb []).boxes[i]?=some (some z)→ ∃y:dO,s.boxes[i]?=some (some y):=fun i z hi=>by
  rcases ob i z hi with⟨j,x,h1,-⟩|⟨-,h2⟩
  ·obtain⟨-,y,-,hy,-⟩:=pb i j h1
   exact⟨y,hy⟩
  ·exact⟨z,h2⟩
 have hfresh: ∀g c,m'.γ k=some (g,c)→w.heap.size≤g:=fun g c hg=>by
  rcases he.rfresh k row g c hrow hg with⟨row0,c0,hr,-⟩|hf
  ·rw [hpr] at hr;simp at hr
  ·exact hf
 have rk: ∀(i:Nat) (z:pO) (g c:Nat),(s.rows++ [row])[i]?=some z→xM m.γ s.rows.length (m'.γ k) i=some (g,c)→(s.rows[i]?=some z∧m.γ i=some (g,c))∨(i=s.rows.length∧z=row∧m'.γ k=some (g,c)):=fun i z g c hi hg=>by
  rcases getElem?_snoc hi with⟨h1,h2⟩|⟨rfl,rfl⟩
  ·rw [eE (show i≠s.rows.length by omega)] at hg
   exact .inl ⟨h2,hg⟩
  ·simp only [cE] at hg
   exact .inr ⟨rfl,rfl,hg⟩
 have okk: ∀b o,b<w.heap.size→s.ok m b o→dK.ok ⟨(s.over ⟨st'.boxes,[]⟩ fb []).boxes,s.rows++ [row]⟩ ⟨m.ρ,xM m.γ s.rows.length (m'.γ k)⟩ b o:=fun b o hb hk=>by
  refine⟨fun i z hi=>?_,fun i z g c hi hg e=>?_⟩
  ·obtain⟨y,hy⟩:=lv i z hi
   exact hk.1 i y hy
  ·rcases rk i z g c hi hg with⟨h1,h2⟩|⟨-,-,h3⟩
   ·exact hk.2 i z g c h1 h2 e
   ·have:=hfresh g c h3;omega
 have ev:Ev s m w ⟨(s.over ⟨st'.boxes,[]⟩ fb []).boxes,s.rows++ [row]⟩ ⟨m.ρ,xM m.γ s.rows.length (m'.γ k)⟩ w':=by
  refine⟨he.os,he.tape,he.output,he.size,fun b hb h1 h2=>he.blk b hb (fun i x hi=>?_) (fun r row0 g c hr _=>?_),fun b o hb hk=>he.cell b o hb (h.ok (av:=fun _ _=>False) (w:=w) ⟨id,hk⟩).2,okk,fun i y hi=>⟨?_,rfl⟩,fun i z hi=> .inl (lv i z hi),fun i row0 hi=>⟨row0,?_,rfl,Nat.le_refl _,fun _=>?_,fun hw=>⟨hw,?_⟩⟩,fun i z g c hi hg=>?_⟩
  ·obtain⟨y,hy,-⟩:=h.box i x hi
   exact h1 _ y hy
  ·rw [hpr] at hr;simp at hr
  ·cases hq:idx? fb i with
   |none=>exact⟨y,by unfold dK.over;simp [List.getElem?_zipIdx,hi,hq]⟩
   |some j=>
    obtain⟨-,-,-,-,-,-,x',hx'⟩:=pb i j (idx?_some hq)
    exact⟨x'.ren fb [],by unfold dK.over;simp [List.getElem?_zipIdx,hi,hq,List.getD_eq_getElem?_getD,hx']⟩
  ·show(s.rows++ [row])[i]?=_
   rw [List.getElem?_append_left (dM hi)];exact hi
  ·exact eE (by have:=dM hi;omega)
  ·exact eE (by have:=dM hi;omega)
  ·rcases rk i z g c hi hg with⟨h1,h2⟩|⟨-,-,h3⟩
   ·exact .inl ⟨z,c,h1,h2⟩
   ·exact .inr (hfresh g c h3)
 have back: ∀b o,b<w'.heap.size→lA (IJ av s pre m fb [] w) st' m' b o→lA av ⟨(s.over ⟨st'.boxes,[]⟩ fb []).boxes,s.rows++ [row]⟩ ⟨m.ρ,xM m.γ s.rows.length (m'.γ k)⟩ b o:=fun b o _ hk=>by
  rcases Nat.lt_or_ge b w.heap.size with hlt|hge
  ·by_cases hA:lA av s m b o
   ·exact⟨hA.1,okk b o hlt hA.2⟩
   ·by_cases hB: ∃i x,pre.boxes[i]?=some (some x)∧m.ρ (fb.getD i 0)=b
    ·obtain⟨i,x,h1,h2⟩:=hB
     obtain⟨⟨x',h3⟩,h4⟩:=he.live i x h1
     exact absurd (h4.trans h2) (hk.2.1 i x' h3)
    ·exact absurd ⟨hlt,hA,fun i x h1 h2=>hB ⟨i,x,h1,h2⟩,fun r row0 g c h1 h2 h3=>by rw [hpr] at h1;simp at h1⟩ hk.1
  ·refine⟨fun ho=>by have:=hs.avlt _ _ ho;omega,fun i z hi=>?_,fun i z g c hi hg e=>?_⟩
   ·obtain⟨y,hy⟩:=lv i z hi
    have:=hs.box_lt hy
    show m.ρ i≠b
    omega
   ·rcases rk i z g c hi hg with⟨h1,h2⟩|⟨-,rfl,h3⟩
    ·have:=hs.row_lt h1 h2
     omega
    ·exact hk.2.2 k _ g c hrow h3 e
 refine⟨ev,⟨fun i z hi=>?_,fun i i' z z' hi hi' hne=>?_,fun i z hi=>?_,fun i i' z z' g c c' hi hi' hg hg'=>?_,fun i z r row0 g c hi hr hg=>?_,fun b o hb=>Nat.lt_of_lt_of_le (hs.avlt b o hb) he.size,fun i z g c hi hg o ho=>?_,fun i z hi=>by obtain⟨y,hy⟩:=lv i z hi;exact hs.avb i y hy⟩,back⟩
 ·rcases ob i z hi with⟨j,x,h1,h2,rfl,-⟩|⟨h1,h2⟩
  ·obtain⟨-,-,-,-,-,h4,-⟩:=pb i j h1
   obtain⟨vs,k1,k2⟩:=hst.box j x h2
   refine⟨vs,?_,?_⟩
   ·show OBp w' (m.ρ i) _ _
    rw [← h4]
    exact k1
   ·show gQ _ _ _ _ (CM fb [] x.cells) vs
    rw [kF.ren _ (hfree j x h2)]
    exact kF.rv back _ _ (hfree j x h2) k2
  ·obtain⟨vs,k1,k2⟩:=hs.box i z h2
   refine⟨vs,k1.keep (he.blk _ k1.lt (fun j x hj=>?_) (fun r row0 g c hr _=>?_)),gQ.mono ev _ _ k2⟩
   ·obtain⟨y,hy,-⟩:=h.box j x hj
    have hj':=rG (l:=fb) (k:=j) (by rw [h.fbl];exact dM hj)
    exact hs.binj _ _ y z hy h2 (fun e=>idx?_none h1 j (by rw [hj',e]))
   ·rw [hpr] at hr;simp at hr
 ·obtain⟨y,hy⟩:=lv i z hi
  obtain⟨y',hy'⟩:=lv i' z' hi'
  exact hs.binj i i' y y' hy hy' hne
 ·rcases getElem?_snoc hi with⟨h1,h2⟩|⟨rfl,rfl⟩
  ·obtain⟨k1,k2,k3⟩:=hs.row i z h2
   refine⟨k1,k2,?_⟩
   simp only [eE (show i≠s.rows.length by omega)]
   rcases k3 with k3|⟨g,c,cur,q1,q2,q3,q4,q5,q6⟩
   ·exact .inl k3
   ·refine .inr ⟨g,c,cur,q1,(he.blk g q2.lt (fun j x hj e=>?_) (fun r row0 g' c' hr _=>?_)).trans q2,q3,q4,q5,RV.mono ev (.t _) _ q6⟩
    ·obtain⟨y,hy,-⟩:=h.box j x hj
     exact hs.br _ y i z g c hy h2 q1 e
    ·rw [hpr] at hr;simp at hr
  ·obtain⟨k1,k2,k3⟩:=hst.row k _ hrow
   refine⟨k1,k2,?_⟩
   simp only [cE]
   rcases k3 with k3|⟨g,c,cur,q1,q2,q3,q4,q5,q6⟩
   ·exact .inl k3
   ·exact .inr ⟨g,c,cur,q1,q2,q3,q4,q5,cJ.mono q6 (Nat.le_refl _) back (fun _ _ _ _=>rfl)⟩
 ·rcases rk i z g c hi hg with⟨h1,h2⟩|⟨h1,-,h3⟩<;>rcases rk i' z' g c' hi' hg' with⟨h1',h2'⟩|⟨h1',-,h3'⟩
  ·exact hs.rinj i i' z z' g c c' h1 h1' h2 h2'
  ·have:=hs.row_lt h1 h2
   have:=hfresh g c' h3'
   omega
  ·have:=hs.row_lt h1' h2'
   have:=hfresh g c h3
   omega
  ·omega
 ·obtain⟨y,hy⟩:=lv i z hi
  rcases rk r row0 g c hr hg with⟨h1,h2⟩|⟨-,-,h3⟩
  ·exact hs.br i y r row0 g c hy h1 h2
  ·have:=hs.box_lt hy
   have:=hfresh g c h3
   show m.ρ i≠g
   omega
 ·rcases rk i z g c hi hg with⟨h1,h2⟩|⟨-,-,h3⟩
  ·exact hs.avr i z g c h1 h2 o ho
  ·have:=hs.avlt _ _ ho
   have:=hfresh g c h3
   omega
end
def oZ:List (Option dO)→Bool
 | []=>true
 |none::l=>oZ l
 |some x::l=>kF x.cells&&oZ l
theorem oZ.get: ∀ {l:List (Option dO)} {j:Nat} {x:dO},oZ l=true→l[j]?=some (some x)→kF x.cells=true
 | [],_,_,_,h=>by simp at h
 |none::l,0,_,_,h=>by simp at h
 |none::l,j+1,x,hf,h=>oZ.get (l:=l) (j:=j) hf (by simpa using h)
 |some y::l,0,x,hf,h=>by
  simp at h
  subst h
  simp only [oZ,Bool.and_eq_true] at hf
  exact hf.1
 |some y::l,j+1,x,hf,h=>by
  simp only [oZ,Bool.and_eq_true] at hf
  exact oZ.get (l:=l) (j:=j) hf.2 (by simpa using h)
def W0(P:Program)(f:FuncId)(args:List PV)(pre:dK)(B:List (Option dO))(E:TypeId)(sz:Nat)(es:List (List Tr))(R:Nat→PV):Prop:=
 cP P f args pre (fun r t=> ∃k,r=R k∧t.boxes=B∧t.rows[k]?=some ⟨E,sz,es,false⟩)
theorem y1.refl{st:dK}: ∀ {B:List (Option dO)},(∀x,some x∈B→mY st x.cells=true)→y1 st B B
 | [],_=>trivial
 |none::B,h=>y1.refl (B:=B) fun x hx=>h x (List.mem_cons_of_mem _ hx)
 |some x::B,h=>⟨⟨rfl,s7.refl _,h x (by simp)⟩,y1.refl (B:=B) fun y hy=>h y (List.mem_cons_of_mem _ hy)⟩
def Q5(st:dK)(B:List (Option dO)):Bool:=B.all fun x=>match x with
 |none=>true
 |some x=>mY st x.cells
theorem Q5.mem{st:dK}{B:List (Option dO)}(h:Q5 st B=true)(x:dO)(hx:some x∈B):mY st x.cells=true:=by
 have:=List.all_eq_true.1 h _ hx
 exact this
theorem W0.plain{P:Program}{f:FuncId}{args:List PV}{pre:dK}{B:List (Option dO)}{E:TypeId}{sz:Nat}{es:List (List Tr)}{R:Nat→PV}{D:PV}(h:W0 P f args pre B E sz es R)(hle: ∀k,PV.Le (R k) D)(hk:PV.okIn ⟨B,[]⟩ D=true:=by exact rfl)(hb:Q5 ⟨B,[]⟩ B=true:=by exact rfl)(hp:mI pre ⟨B,[]⟩):cP P f args pre (fun q t=>q=D∧t=⟨B,[]⟩):=fun av m w vals hst hv=>by
 refine(h av m w vals hst hv).mono fun e w'=>?_;rintro⟨r,st',m',v,k1,⟨k,rfl,rfl,-⟩,k3,k4,k5⟩
 have hl:oF st' ⟨st'.boxes,[]⟩:=oF.mk' (y1.refl (Q5.mem hb)) rfl
 exact⟨D,⟨st'.boxes,[]⟩,m',v,k1,⟨rfl,rfl⟩,hl.sto k3,hl.ev k4 hp,hl.rv D _ hk ((hle k).rv k5)⟩
theorem aoA{st:dK}:mI ⟨[],[]⟩ st:=mI.nil
section
variable {P:Program} {C:q9} {n:Nat} {s:AS} {o:Oper}
theorem aV.callOwn{f:FuncId}{fn:Func}{xs:List Operand}{ts:Array TypeId}{ps qs:List PV}{pre S:dK}{B:List (Option dO)}{E:TypeId}{sz:Nat}{es:List (List Tr)}{R:Nat→PV}(fb:List Nat)(ho:o.op= .call { callee:= .value (.func f),args:=⟨xs⟩,argTypes:=ts })(hd:bW o.dst n=true)(hf:P.funcs[f]?=some fn)(hnm:(fn.name== "runtime.NumGoroutine")=false)(hb:fn.body.isNone=false)
 (hx:xs.map s.ev=ps.map some) (hS:s.st=S) (hp:l6 S pre fb []) (hpr:pre.rows= []) (hle:s7 ps (CM fb [] qs)) (hok:mY pre qs=true) (hbl:B.length=pre.boxes.length) (hfree:oZ B=true) (hR: ∀k k',Mv sz es k k' (R k) (R k')) (hc:W0 P f qs pre B E sz es R):
 aV P C n o s ((⟨s.env,⟨(S.over ⟨B,[]⟩ fb []).boxes,S.rows++ [⟨E,sz,es,false⟩]⟩⟩:AS).putO o.dst (R S.rows.length)):=fun m a w h K Q hK=>by
 subst hS
 have h2:=evL h hx
 have h1:(execOp a.eval o).run P w= .ok (.enter f ⟨xs.map a.eval⟩) w:=by
  have hcf:=iX (P:=P) hf hnm hb
  unfold execOp
  simp only [ho]
  simp [resolve,invoke,Deferred.ofValue,Act.eval,hcf]
 unfold Oper.wp
 rw [h1]
 have h3:=hc (IJ C.av s.st pre m fb [] w) (m.via fb []) w _ (hp.sto h.sto) (gQ.unren hp (fun b o _ k=>hp.ok k) _ _ hok (s7.rv hle h2))
 refine Calls.mono h3 fun e w'=>?_;rintro⟨r,st',m',v,rfl,⟨k,rfl,rfl,hrow⟩,h4,h5,h6⟩
 obtain⟨k1,k2,k3⟩:=ak7 hp hpr h.sto h4 h5 hbl (fun j x hj=>oZ.get hfree hj) hrow
 refine hK _ _ w' ((h.step k1 k2).put (dF hd) (Mv.rv k3 (fun row hr=>?_) (hR k s.st.rows.length) h6))
 rw [hrow] at hr
 obtain rfl:=Option.some.inj hr
 exact⟨by simp,by simp only [cE]⟩
end
end Go.Proofs.YtpioomclpaiomaaGreat

namespace Go.Proofs.YtpioomclpaiomaaGreat
set_option linter.unusedSimpArgs false
set_option linter.unusedVariables false
open Go.RowKit Go.WalkArith Go.IntWalk Go.WideShapes
def sN(P:Program)(T f:Nat):Option (Nat×Bool×Nat):=
 match P.underlying T with
 |some (.struct fs)=>match fs[f]? with
  |some fd=>(cH P fd.type).map fun x=>(fd.offset,x.1,x.2)
  |none=>none
 |_=>none
theorem sN.spec{P:Program}{T f e z:Nat}{b:Bool}(h:sN P T f=some (e,b,z)): ∃fs fd,P.underlying T=some (.struct fs)∧fs[f]?=some fd∧cH P fd.type=some (b,z)∧fd.offset=e:=by
 unfold sN at h
 split at h
 ·rename_i fs hu
  split at h
  ·rename_i fd hf
   cases hs:cH P fd.type with
   |none=>simp [hs] at h
   |some x=>
    obtain⟨b',z'⟩:=x
    simp only [hs,Option.map_some,Option.some.injEq,Prod.mk.injEq] at h
    obtain⟨h1,rfl,rfl⟩:=h
    exact⟨fs,fd,hu,hf,hs,h1⟩
  ·cases h
 ·cases h
section
variable {P:Program} {C:q9} {n:Nat} {s:AS} {o:Oper}
theorem aV.field1{T:TypeId}{x:Operand}{f e z:Nat}{cs:List PV}{p:PV}(ho:o.op= .field T x f)(hd:bW o.dst n=true)(hx:s.ev x=some (.agg cs))(hf:sN P T f=some (e,false,z))(hc:cs[e]?=some p):aV P C n o s (s.putO o.dst p):=
 aV.quiet (dF hd) fun m a w h=>by
  obtain⟨vs,h1,h2⟩:=h.eval hx
  obtain⟨fs,fd,hu,hfd,hs,rfl⟩:=sN.spec hf
  obtain⟨v,hv,hr⟩:=h2.get hc
  refine⟨v,?_,hr⟩
  unfold execOp
  simp [ho,h1,Instr.field,Sem.run_bind,run_underlying hu,hfd,asAgg,part,F0 hs,hv]
end
end Go.Proofs.YtpioomclpaiomaaGreat

namespace Go.Proofs.YtpioomclpaiomaaGreat
open Go.RowKit Go.Proofs
theorem kZ:cH Tryz.prog 3=some (false,1):=by kernel_rfl
theorem sz3:(Tryz.prog.info? 3).map (·.size)=some 1:=by kernel_rfl
theorem sh4:cH Tryz.prog 4=some (false,1):=by kernel_rfl
theorem sz4:(Tryz.prog.info? 4).map (·.size)=some 1:=by kernel_rfl
theorem zr4:c7 Tryz.prog 4=some [.t (.leaf (.bool false))]:=by kernel_rfl
theorem sh5:cH Tryz.prog 5=some (false,1):=by kernel_rfl
theorem zr5:c7 Tryz.prog 5=some [.t (.leaf (.int .u8 0))]:=by kernel_rfl
theorem fO:cH Tryz.prog 9=some (false,1):=by kernel_rfl
theorem sz9:(Tryz.prog.info? 9).map (·.size)=some 1:=by kernel_rfl
theorem lO:c7 Tryz.prog 9=some [.t (.leaf (.string ⟨#[]⟩))]:=by kernel_rfl
theorem apJ:cH Tryz.prog 22=some (false,1):=by kernel_rfl
theorem aa0:elemOf? Tryz.prog 22=some (5,1,1):=by kernel_rfl
theorem EV:cH Tryz.prog 24=some (false,1):=by kernel_rfl
theorem apM:(Tryz.prog.info? 24).map (·.size)=some 1:=by kernel_rfl
theorem zY:elemOf? Tryz.prog 24=some (131,6,136):=by kernel_rfl
theorem apU:(Tryz.prog.info? 131).bind (fun i=>i.zero.map (fun z=>z.cells.size))=some 6:=by kernel_rfl
theorem vK:cH Tryz.prog 26=some (true,1):=by kernel_rfl
theorem QN:(Tryz.prog.info? 26).map (·.size)=some 1:=by kernel_rfl
theorem QO:c7 Tryz.prog 26=some [.nil]:=by kernel_rfl
theorem aoG:gV Tryz.prog 26=some [(0,1)]:=by kernel_rfl
theorem ae5:cH Tryz.prog 27=some (false,1):=by kernel_rfl
theorem am6:(Tryz.prog.info? 27).map (·.size)=some 1:=by kernel_rfl
theorem yW:elemOf? Tryz.prog 27=some (37,4,64):=by kernel_rfl
theorem aoQ:(Tryz.prog.info? 37).bind (fun i=>i.zero.map (fun z=>z.cells.size))=some 4:=by kernel_rfl
theorem mQ:cH Tryz.prog 33=some (false,1):=by kernel_rfl
theorem apN:(Tryz.prog.info? 33).map (·.size)=some 1:=by kernel_rfl
theorem dX:elemOf? Tryz.prog 33=some (35,3,48):=by kernel_rfl
theorem al7:(Tryz.prog.info? 35).bind (fun i=>i.zero.map (fun z=>z.cells.size))=some 3:=by kernel_rfl
theorem b8:cH Tryz.prog 35=some (true,3):=by kernel_rfl
theorem hH:(Tryz.prog.info? 35).map (·.size)=some 3:=by kernel_rfl
theorem hP:c7 Tryz.prog 35=some [.t (.leaf (.int .i64 0)),.t (.leaf (.string ⟨#[]⟩)),.nil]:=by kernel_rfl
theorem CL:gV Tryz.prog 35=some [(0,1),(1,1),(2,1)]:=by kernel_rfl
theorem HZ:cH Tryz.prog 37=some (true,4):=by kernel_rfl
theorem Z8:(Tryz.prog.info? 37).map (·.size)=some 4:=by kernel_rfl
theorem AM:c7 Tryz.prog 37=some [.t (.leaf (.string ⟨#[]⟩)),.t (.leaf (.int .i64 0)),.t (.leaf (.string ⟨#[]⟩)),.nil]:=by kernel_rfl
theorem U7:gV Tryz.prog 37=some [(0,1),(1,3)]:=by kernel_rfl
theorem lI:cH Tryz.prog 38=some (false,1):=by kernel_rfl
theorem KN:(Tryz.prog.info? 38).map (·.size)=some 1:=by kernel_rfl
theorem b6:elemOf? Tryz.prog 38=some (9,1,16):=by kernel_rfl
theorem sM:(Tryz.prog.info? 9).bind (fun i=>i.zero.map (fun z=>z.cells.size))=some 1:=by kernel_rfl
theorem aqD:c7 Tryz.prog 38=some [.nil]:=by kernel_rfl
theorem xC:cH Tryz.prog 45=some (true,2):=by kernel_rfl
theorem V3:(Tryz.prog.info? 45).map (·.size)=some 2:=by kernel_rfl
theorem BV:c7 Tryz.prog 45=some [.t (.leaf (.int .i64 0)),.t (.leaf (.int .i64 0))]:=by kernel_rfl
theorem aeX:gV Tryz.prog 45=some [(0,1),(1,1)]:=by kernel_rfl
theorem pP:elemOf? Tryz.prog 48=some (45,2,16):=by kernel_rfl
theorem anA:(Tryz.prog.info? 45).bind (fun i=>i.zero.map (fun z=>z.cells.size))=some 2:=by kernel_rfl
theorem YL:cH Tryz.prog 53=some (false,1):=by kernel_rfl
theorem apO:(Tryz.prog.info? 53).map (·.size)=some 1:=by kernel_rfl
theorem KY:elemOf? Tryz.prog 53=some (161,11,184):=by kernel_rfl
theorem apV:(Tryz.prog.info? 161).bind (fun i=>i.zero.map (fun z=>z.cells.size))=some 11:=by kernel_rfl
theorem pD:cH Tryz.prog 55=some (true,12):=by kernel_rfl
theorem s4:(Tryz.prog.info? 55).map (·.size)=some 12:=by kernel_rfl
theorem tX:c7 Tryz.prog 55=some [.t (.leaf (.string ⟨#[]⟩)),.nil,.t (.leaf (.int .i64 0)),.t (.leaf (.string ⟨#[]⟩)),.nil,.nil,.t (.leaf (.bool false)),.t (.leaf (.bool false)),.t (.leaf (.int .i64 0)),.t (.leaf (.string ⟨#[]⟩)),.nil,.nil]:=by kernel_rfl
theorem U8:gV Tryz.prog 55=some [(0,1),(1,1),(2,3),(5,1),(6,1),(7,1),(8,3),(11,1)]:=by kernel_rfl
theorem H2:cH Tryz.prog 58=some (false,1):=by kernel_rfl
theorem al3:(Tryz.prog.info? 58).map (·.size)=some 1:=by kernel_rfl
theorem wU:elemOf? Tryz.prog 58=some (164,16,264):=by kernel_rfl
theorem al8:(Tryz.prog.info? 164).bind (fun i=>i.zero.map (fun z=>z.cells.size))=some 16:=by kernel_rfl
theorem uL:cH Tryz.prog 60=some (true,5):=by kernel_rfl
theorem DU:(Tryz.prog.info? 60).map (·.size)=some 5:=by kernel_rfl
theorem H3:c7 Tryz.prog 60=some [.t (.leaf (.string ⟨#[]⟩)),.nil,.t (.leaf (.bool false)),.t (.leaf (.bool false)),.nil]:=by kernel_rfl
theorem aeY:gV Tryz.prog 60=some [(0,1),(1,1),(2,1),(3,1),(4,1)]:=by kernel_rfl
theorem PK:elemOf? Tryz.prog 69=some (171,4,64):=by kernel_rfl
theorem apW:(Tryz.prog.info? 171).bind (fun i=>i.zero.map (fun z=>z.cells.size))=some 4:=by kernel_rfl
theorem vL:cH Tryz.prog 84=some (false,1):=by kernel_rfl
theorem aqC:(Tryz.prog.info? 84).map (·.size)=some 1:=by kernel_rfl
theorem m3:elemOf? Tryz.prog 84=some (87,9,144):=by kernel_rfl
theorem aoR:(Tryz.prog.info? 87).bind (fun i=>i.zero.map (fun z=>z.cells.size))=some 9:=by kernel_rfl
theorem sI:cH Tryz.prog 85=some (false,1):=by kernel_rfl
theorem apP:(Tryz.prog.info? 85).map (·.size)=some 1:=by kernel_rfl
theorem pJ:elemOf? Tryz.prog 85=some (92,11,184):=by kernel_rfl
theorem apX:(Tryz.prog.info? 92).bind (fun i=>i.zero.map (fun z=>z.cells.size))=some 11:=by kernel_rfl
theorem iH:cH Tryz.prog 87=some (true,9):=by kernel_rfl
theorem pL:(Tryz.prog.info? 87).map (·.size)=some 9:=by kernel_rfl
theorem lN:c7 Tryz.prog 87=some [.t (.leaf (.int .i64 0)),.t (.leaf (.string ⟨#[]⟩)),.t (.leaf (.string ⟨#[]⟩)),.t (.leaf (.int .i64 0)),.t (.leaf (.int .i64 0)),.t (.leaf (.string ⟨#[]⟩)),.nil,.nil,.nil]:=by kernel_rfl
theorem yH:gV Tryz.prog 87=some [(0,1),(1,1),(2,1),(3,1),(4,3),(7,1),(8,1)]:=by kernel_rfl
theorem alG:cH Tryz.prog 92=some (true,11):=by kernel_rfl
theorem akC:(Tryz.prog.info? 92).map (·.size)=some 11:=by kernel_rfl
theorem UG:c7 Tryz.prog 92=some [.t (.leaf (.string ⟨#[]⟩)),.nil,.t (.leaf (.int .i64 0)),.t (.leaf (.string ⟨#[]⟩)),.t (.leaf (.string ⟨#[]⟩)),.t (.leaf (.int .i64 0)),.t (.leaf (.int .i64 0)),.t (.leaf (.string ⟨#[]⟩)),.nil,.nil,.nil]:=by kernel_rfl
theorem alB:gV Tryz.prog 92=some [(0,1),(1,1),(2,9)]:=by kernel_rfl
theorem zK:cH Tryz.prog 114=some (false,1):=by kernel_rfl
theorem anM:(Tryz.prog.info? 114).map (·.size)=some 1:=by kernel_rfl
theorem wM:elemOf? Tryz.prog 114=some (195,2,40):=by kernel_rfl
theorem apT:(Tryz.prog.info? 195).bind (fun i=>i.zero.map (fun z=>z.cells.size))=some 2:=by kernel_rfl
theorem tR:cH Tryz.prog 116=some (true,3):=by kernel_rfl
theorem DG:(Tryz.prog.info? 116).map (·.size)=some 3:=by kernel_rfl
theorem DH:c7 Tryz.prog 116=some [.t (.leaf (.string ⟨#[]⟩)),.nil,.nil]:=by kernel_rfl
theorem abD:gV Tryz.prog 116=some [(0,1),(1,1),(2,1)]:=by kernel_rfl
theorem TG:cH Tryz.prog 126=some (false,1):=by kernel_rfl
theorem anN:(Tryz.prog.info? 126).map (·.size)=some 1:=by kernel_rfl
theorem KW:elemOf? Tryz.prog 126=some (60,5,72):=by kernel_rfl
theorem anT:(Tryz.prog.info? 60).bind (fun i=>i.zero.map (fun z=>z.cells.size))=some 5:=by kernel_rfl
theorem L5:cH Tryz.prog 127=some (false,1):=by kernel_rfl
theorem anO:(Tryz.prog.info? 127).map (·.size)=some 1:=by kernel_rfl
theorem D6:elemOf? Tryz.prog 127=some (116,3,64):=by kernel_rfl
theorem anU:(Tryz.prog.info? 116).bind (fun i=>i.zero.map (fun z=>z.cells.size))=some 3:=by kernel_rfl
theorem BM:cH Tryz.prog 128=some (false,1):=by kernel_rfl
theorem anP:(Tryz.prog.info? 128).map (·.size)=some 1:=by kernel_rfl
theorem xT:elemOf? Tryz.prog 128=some (55,12,192):=by kernel_rfl
theorem anV:(Tryz.prog.info? 55).bind (fun i=>i.zero.map (fun z=>z.cells.size))=some 12:=by kernel_rfl
theorem TH:cH Tryz.prog 129=some (false,1):=by kernel_rfl
theorem anQ:(Tryz.prog.info? 129).map (·.size)=some 1:=by kernel_rfl
theorem KX:elemOf? Tryz.prog 129=some (148,16,280):=by kernel_rfl
theorem anW:(Tryz.prog.info? 148).bind (fun i=>i.zero.map (fun z=>z.cells.size))=some 16:=by kernel_rfl
theorem qB:cH Tryz.prog 131=some (true,6):=by kernel_rfl
theorem t2:(Tryz.prog.info? 131).map (·.size)=some 6:=by kernel_rfl
theorem s3:c7 Tryz.prog 131=some [.t (.leaf (.string ⟨#[]⟩)),.nil,.nil,.nil,.nil,.nil]:=by kernel_rfl
theorem IE:gV Tryz.prog 131=some [(0,1),(1,1),(2,1),(3,1),(4,1),(5,1)]:=by kernel_rfl
theorem O4:cH Tryz.prog 146=some (false,1):=by kernel_rfl
theorem anR:(Tryz.prog.info? 146).map (·.size)=some 1:=by kernel_rfl
theorem D7:elemOf? Tryz.prog 146=some (226,4,64):=by kernel_rfl
theorem anX:(Tryz.prog.info? 226).bind (fun i=>i.zero.map (fun z=>z.cells.size))=some 4:=by kernel_rfl
theorem rL:cH Tryz.prog 148=some (true,16):=by kernel_rfl
theorem BS:(Tryz.prog.info? 148).map (·.size)=some 16:=by kernel_rfl
theorem DI:c7 Tryz.prog 148=some [.t (.leaf (.string ⟨#[]⟩)),.nil,.nil,.nil,.t (.leaf (.int .i64 0)),.t (.leaf (.string ⟨#[]⟩)),.nil,.t (.leaf (.int .i64 0)),.t (.leaf (.string ⟨#[]⟩)),.t (.leaf (.string ⟨#[]⟩)),.t (.leaf (.int .i64 0)),.t (.leaf (.int .i64 0)),.t (.leaf (.string ⟨#[]⟩)),.nil,.nil,.nil]:=by kernel_rfl
theorem abE:gV Tryz.prog 148=some [(0,1),(1,1),(2,1),(3,1),(4,3),(7,9)]:=by kernel_rfl
theorem anY:c7 Tryz.prog 151=some [.nil,.t (.leaf (.int .i64 0)),.t (.leaf (.int .i64 0))]:=by kernel_rfl
theorem anK:gV Tryz.prog 151=some [(0,1),(1,1),(2,1)]:=by kernel_rfl
theorem alF:cH Tryz.prog 161=some (true,11):=by kernel_rfl
theorem ah3:(Tryz.prog.info? 161).map (·.size)=some 11:=by kernel_rfl
theorem O8:c7 Tryz.prog 161=some [.t (.leaf (.string ⟨#[]⟩)),.nil,.t (.leaf (.int .i64 0)),.t (.leaf (.string ⟨#[]⟩)),.t (.leaf (.string ⟨#[]⟩)),.t (.leaf (.int .i64 0)),.t (.leaf (.int .i64 0)),.t (.leaf (.string ⟨#[]⟩)),.nil,.nil,.nil]:=by kernel_rfl
theorem ak8:gV Tryz.prog 161=some [(0,1),(1,1),(2,9)]:=by kernel_rfl
theorem abP:cH Tryz.prog 164=some (true,16):=by kernel_rfl
theorem anS:(Tryz.prog.info? 164).map (·.size)=some 16:=by kernel_rfl
theorem zT:c7 Tryz.prog 164=some [.t (.leaf (.string ⟨#[]⟩)),.nil,.t (.leaf (.int .i64 0)),.t (.leaf (.string ⟨#[]⟩)),.nil,.t (.leaf (.bool false)),.nil,.t (.leaf (.int .i64 0)),.t (.leaf (.string ⟨#[]⟩)),.t (.leaf (.string ⟨#[]⟩)),.t (.leaf (.int .i64 0)),.t (.leaf (.int .i64 0)),.t (.leaf (.string ⟨#[]⟩)),.nil,.nil,.nil]:=by kernel_rfl
theorem ahT:gV Tryz.prog 164=some [(0,1),(1,1),(2,3),(5,1),(6,1),(7,9)]:=by kernel_rfl
theorem apI:cH Tryz.prog 171=some (true,4):=by kernel_rfl
theorem apL:(Tryz.prog.info? 171).map (·.size)=some 4:=by kernel_rfl
theorem O9:c7 Tryz.prog 171=some [.t (.leaf (.string ⟨#[]⟩)),.t (.leaf (.int .i64 0)),.t (.leaf (.string ⟨#[]⟩)),.nil]:=by kernel_rfl
theorem anL:gV Tryz.prog 171=some [(0,1),(1,3)]:=by kernel_rfl
theorem adW:c7 Tryz.prog 195=some [.t (.leaf (.string ⟨#[]⟩)),.nil]:=by kernel_rfl
theorem ak9:gV Tryz.prog 195=some [(0,1),(1,1)]:=by kernel_rfl
theorem WZ:c7 Tryz.prog 226=some [.t (.leaf (.string ⟨#[]⟩)),.t (.leaf (.int .i64 0)),.t (.leaf (.string ⟨#[]⟩)),.nil]:=by kernel_rfl
theorem alA:gV Tryz.prog 226=some [(0,1),(1,3)]:=by kernel_rfl
theorem c6:cH Tryz.prog 235=some (false,1):=by kernel_rfl
theorem zS:(Tryz.prog.info? 235).map (·.size)=some 1:=by kernel_rfl
theorem bO:elemOf? Tryz.prog 235=some (237,2,40):=by kernel_rfl
theorem q8:(Tryz.prog.info? 237).bind (fun i=>i.zero.map (fun z=>z.cells.size))=some 2:=by kernel_rfl
theorem bY:cH Tryz.prog 237=some (true,2):=by kernel_rfl
theorem eQ:(Tryz.prog.info? 237).map (·.size)=some 2:=by kernel_rfl
theorem cF:c7 Tryz.prog 237=some [.t (.leaf (.string ⟨#[]⟩)),.nil]:=by kernel_rfl
theorem nF:gV Tryz.prog 237=some [(0,1),(1,1)]:=by kernel_rfl
theorem apY:c7 Tryz.prog 250=some [.t (.leaf (.string ⟨#[]⟩)),.t (.leaf (.int .i64 0)),.t (.leaf (.int .i64 0)),.t (.leaf (.int .i64 0)),.t (.leaf (.bool false))]:=by kernel_rfl
theorem apE:gV Tryz.prog 250=some [(0,1),(1,1),(2,1),(3,1),(4,1)]:=by kernel_rfl
theorem nQ:bK Tryz.prog 26 0=some 0:=by kernel_rfl
theorem lR:bK Tryz.prog 35 0=some 0:=by kernel_rfl
theorem kE:bK Tryz.prog 35 1=some 1:=by kernel_rfl
theorem gC:bK Tryz.prog 35 2=some 2:=by kernel_rfl
theorem RU:bK Tryz.prog 37 0=some 0:=by kernel_rfl
theorem xU:bK Tryz.prog 37 1=some 1:=by kernel_rfl
theorem vS:bK Tryz.prog 45 0=some 0:=by kernel_rfl
theorem I4:bK Tryz.prog 45 1=some 1:=by kernel_rfl
theorem RW:bK Tryz.prog 55 0=some 0:=by kernel_rfl
theorem rW:bK Tryz.prog 55 1=some 1:=by kernel_rfl
theorem m9:bK Tryz.prog 55 2=some 2:=by kernel_rfl
theorem D8:bK Tryz.prog 55 3=some 5:=by kernel_rfl
theorem RX:bK Tryz.prog 55 4=some 6:=by kernel_rfl
theorem MY:bK Tryz.prog 55 5=some 7:=by kernel_rfl
theorem D9:bK Tryz.prog 55 6=some 8:=by kernel_rfl
theorem xV:bK Tryz.prog 55 7=some 11:=by kernel_rfl
theorem I5:bK Tryz.prog 60 0=some 0:=by kernel_rfl
theorem B8:bK Tryz.prog 60 1=some 1:=by kernel_rfl
theorem aeM:bK Tryz.prog 60 2=some 2:=by kernel_rfl
theorem akZ:bK Tryz.prog 60 3=some 3:=by kernel_rfl
theorem mJ:bK Tryz.prog 60 4=some 4:=by kernel_rfl
theorem rX:bK Tryz.prog 87 0=some 0:=by kernel_rfl
theorem MZ:bK Tryz.prog 87 1=some 1:=by kernel_rfl
theorem pR:bK Tryz.prog 87 2=some 2:=by kernel_rfl
theorem EA:bK Tryz.prog 87 3=some 3:=by kernel_rfl
theorem t5:bK Tryz.prog 87 4=some 4:=by kernel_rfl
theorem jP:bK Tryz.prog 87 5=some 7:=by kernel_rfl
theorem gY:bK Tryz.prog 87 6=some 8:=by kernel_rfl
theorem B9:bK Tryz.prog 92 0=some 0:=by kernel_rfl
theorem CA:bK Tryz.prog 92 1=some 1:=by kernel_rfl
theorem I6:bK Tryz.prog 92 2=some 2:=by kernel_rfl
theorem XJ:bK Tryz.prog 116 0=some 0:=by kernel_rfl
theorem K2:bK Tryz.prog 116 1=some 1:=by kernel_rfl
theorem m5:bK Tryz.prog 116 2=some 2:=by kernel_rfl
theorem XK:bK Tryz.prog 131 0=some 0:=by kernel_rfl
theorem QR:bK Tryz.prog 131 1=some 1:=by kernel_rfl
theorem wV:bK Tryz.prog 131 2=some 2:=by kernel_rfl
theorem s9:bK Tryz.prog 131 3=some 3:=by kernel_rfl
theorem nP:bK Tryz.prog 131 4=some 4:=by kernel_rfl
theorem wW:bK Tryz.prog 131 5=some 5:=by kernel_rfl
theorem QS:bK Tryz.prog 148 0=some 0:=by kernel_rfl
theorem K3:bK Tryz.prog 148 1=some 1:=by kernel_rfl
theorem XL:bK Tryz.prog 148 2=some 2:=by kernel_rfl
theorem uX:bK Tryz.prog 148 3=some 3:=by kernel_rfl
theorem XM:bK Tryz.prog 148 4=some 4:=by kernel_rfl
theorem XN:bK Tryz.prog 148 5=some 7:=by kernel_rfl
theorem ahI:bK Tryz.prog 151 0=some 0:=by kernel_rfl
theorem QT:bK Tryz.prog 151 1=some 1:=by kernel_rfl
theorem QU:bK Tryz.prog 151 2=some 2:=by kernel_rfl
theorem XO:bK Tryz.prog 161 0=some 0:=by kernel_rfl
theorem FO:bK Tryz.prog 161 1=some 1:=by kernel_rfl
theorem QV:bK Tryz.prog 161 2=some 2:=by kernel_rfl
theorem XP:bK Tryz.prog 164 0=some 0:=by kernel_rfl
theorem QW:bK Tryz.prog 164 1=some 1:=by kernel_rfl
theorem QX:bK Tryz.prog 164 2=some 2:=by kernel_rfl
theorem K4:bK Tryz.prog 164 3=some 5:=by kernel_rfl
theorem FP:bK Tryz.prog 164 4=some 6:=by kernel_rfl
theorem QY:bK Tryz.prog 164 5=some 7:=by kernel_rfl
theorem ahJ:bK Tryz.prog 171 0=some 0:=by kernel_rfl
theorem ahK:bK Tryz.prog 171 1=some 1:=by kernel_rfl
theorem QZ:bK Tryz.prog 195 0=some 0:=by kernel_rfl
theorem K5:bK Tryz.prog 195 1=some 1:=by kernel_rfl
theorem ahL:bK Tryz.prog 226 0=some 0:=by kernel_rfl
theorem ahM:bK Tryz.prog 226 1=some 1:=by kernel_rfl
theorem fR:bK Tryz.prog 237 0=some 0:=by kernel_rfl
theorem bN:bK Tryz.prog 237 1=some 1:=by kernel_rfl
theorem l7:bK Tryz.prog 250 0=some 0:=by kernel_rfl
theorem fS:bK Tryz.prog 250 1=some 1:=by kernel_rfl
theorem K6:bK Tryz.prog 250 2=some 2:=by kernel_rfl
theorem XQ:bK Tryz.prog 250 3=some 3:=by kernel_rfl
theorem FQ:bK Tryz.prog 250 4=some 4:=by kernel_rfl
theorem tA:sN Tryz.prog 237 0=some (0,false,1):=by kernel_rfl
theorem XR:sN Tryz.prog 237 1=some (1,false,1):=by kernel_rfl
theorem ahR:Tryz.prog.follows .mixedOrders=true:=by kernel_rfl
end Go.Proofs.YtpioomclpaiomaaGreat

namespace Go.Proofs.YtpioomclpaiomaaGreat
open Go.RowKit Go.Proofs
set_option linter.unusedSimpArgs false
set_option linter.unusedVariables false
set_option maxRecDepth 100000 in
set_option maxHeartbeats 4000000 in
theorem amJ(d:DS):cP Tryz.prog 146 [.ptr 0 0] (d.box 151) (fun r t=>r= .t (.leaf (.int .i64 d.byte))∧t=d.next.box 151):=by
 refine cP.intro Tryz.func146 rfl (by first|decide|(simp;done)|(simp;decide)) ?_;intro C hC
 refine aO.fact (c3 0 0 rfl rfl rfl (hQ d.code)) (fun hl0=>?_)
 refine aO.seq ?_;refine aO.region_lit ?_;refine AL.cons rfl (aV.move (.inr rfl) rfl rfl) ?_;refine AL.nil ?_;refine aO.seq ?_;refine aO.region_lit ?_;refine AL.cons rfl (aV.move (.inl rfl) rfl rfl) ?_;refine AL.cons rfl (aV.move (.inl rfl) rfl rfl) ?_;refine AL.cons rfl (aV.nilPtr rfl rfl rfl) ?_;refine AL.cons rfl (aV.fieldPtr (k:=0) (d:=0) (e:=2) rfl rfl rfl QU) ?_;refine AL.cons rfl (aV.loadPtr1 rfl rfl rfl rfl kZ rfl) ?_;refine AL.cons rfl (aV.mulW rfl rfl rfl rfl) ?_;refine AL.cons rfl (aV.addW rfl rfl rfl rfl) ?_;refine AL.cons rfl (aV.nilPtr rfl rfl rfl) ?_;refine AL.cons rfl (aV.fieldPtr (k:=0) (d:=0) (e:=2) rfl rfl rfl QU) ?_;refine AL.cons rfl (aV.storePtr (cs:= [.t (.leaf (.int .i64 (aQ ((aQ (d.h*6364136223846793005))+1442695040888963407))))]) (ds:= [.t (.row 1 (cW (d.code))),.t (.leaf (.int .i64 (((d.p:Nat):Int)))),.t (.leaf (.int .i64 (aQ ((aQ (d.h*6364136223846793005))+1442695040888963407))))]) rfl rfl rfl rfl rfl rfl rfl sz3 (Nat.le_of_ble_eq_true rfl) rfl) ?_;refine AL.nil ?_;refine aO.seq ?_;refine aO.drawnL ⟨_,_,fun _ _=>(⟨[some ⟨151,[.t (.row 1 (cW (d.code))),.t (.leaf (.int .i64 (((d.p:Nat):Int)))),.t (.leaf (.int .i64 (aQ ((aQ (d.h*6364136223846793005))+1442695040888963407))))]⟩],[]⟩:dK),fun q'=>([some (.ptr 0 0),some (.ptr 0 0),some (.ptr 0 2),some (.t (.leaf (.int .i64 (aQ ((aQ (d.h*6364136223846793005))+1442695040888963407))))),some (.t (.leaf (.int .i64 (tD (aQ ((aQ (d.h*6364136223846793005))+1442695040888963407)) 33)))),some (.ptr 0 0),some (.ptr 0 0),some (.ptr 0 2),some (.t (.leaf (.int .i64 (aQ ((aQ (d.h*6364136223846793005))+1442695040888963407))))),some (.t (.leaf (.int .i64 (tD (aQ ((aQ (d.h*6364136223846793005))+1442695040888963407)) 45)))),some (.t (.leaf (.int .i64 (R5 (tD (aQ ((aQ (d.h*6364136223846793005))+1442695040888963407)) 33) (tD (aQ ((aQ (d.h*6364136223846793005))+1442695040888963407)) 45))))),some (.t (.leaf (.int .i64 (CB (R5 (tD (aQ ((aQ (d.h*6364136223846793005))+1442695040888963407)) 33) (tD (aQ ((aQ (d.h*6364136223846793005))+1442695040888963407)) 45)) 255)))),some (.t (.leaf (.int .i64 (CB (R5 (tD (aQ ((aQ (d.h*6364136223846793005))+1442695040888963407)) 33) (tD (aQ ((aQ (d.h*6364136223846793005))+1442695040888963407)) 45)) 255))))]:List (Option PV)).getD q' none,fun q'=>([.q 0 0,.q 0 0,.q 0 0,.q 0 0,.q 0 0,.q 0 0,.q 0 0,.q 0 0,.q 0 0,.q 0 0,.q 0 0,.q 0 0,.q 0 0]:List DK).getD q' (.q 0 0),[],none,fun q'=>([[(0,none)],[(13,some 0)],[(14,some 1)],[(15,some 2)],[(16,some 3)],[(0,none)],[(18,some 5)],[(19,some 6)],[(20,some 7)],[(21,some 8)],[(17,some 4),(22,some 9)],[(23,some 10)],[(24,some 11)]]:List (List (Nat×Option Nat))).getD q' []⟩ rfl ahR (by kernel_rfl) rfl rfl ⟨?_,?_,?_,?_,?_,?_,?_,?_,?_,?_,?_,?_,?_,trivial⟩ rfl ?_
 ·exact dT.step.q1 0 rfl rfl fun s' bb hs hl=>⟨_,rfl,aV.move (.inl rfl) rfl (hl 0 none _ (.head _) rfl)⟩
 ·exact dT.step.q1 0 rfl rfl fun s' bb hs hl=>⟨_,rfl,aV.nilPtr rfl rfl (hl 13 (some 0) _ (.head _) rfl)⟩
 ·exact dT.step.q1 0 rfl rfl fun s' bb hs hl=>⟨_,rfl,aV.fieldPtr (k:=0) (d:=0) (e:=2) rfl rfl (hl 14 (some 1) _ (.head _) rfl) QU⟩
 ·exact dT.step.q1 0 rfl rfl fun s' bb hs hl=>⟨_,rfl,aV.loadPtr1 rfl rfl (hl 15 (some 2) _ (.head _) rfl) (by rw [hs];rfl) kZ rfl⟩
 ·exact dT.step.q1 0 rfl rfl fun s' bb hs hl=>⟨_,rfl,aV.shrI (a:=aQ ((aQ (d.h*6364136223846793005))+1442695040888963407)) (b:=33) rfl rfl (hl 16 (some 3) _ (.head _) rfl) rfl (by decide) (Q0 (GK _)).1 (Q0 (GK _)).2⟩
 ·exact dT.step.q1 0 rfl rfl fun s' bb hs hl=>⟨_,rfl,aV.move (.inl rfl) rfl (hl 0 none _ (.head _) rfl)⟩
 ·exact dT.step.q1 0 rfl rfl fun s' bb hs hl=>⟨_,rfl,aV.nilPtr rfl rfl (hl 18 (some 5) _ (.head _) rfl)⟩
 ·exact dT.step.q1 0 rfl rfl fun s' bb hs hl=>⟨_,rfl,aV.fieldPtr (k:=0) (d:=0) (e:=2) rfl rfl (hl 19 (some 6) _ (.head _) rfl) QU⟩
 ·exact dT.step.q1 0 rfl rfl fun s' bb hs hl=>⟨_,rfl,aV.loadPtr1 rfl rfl (hl 20 (some 7) _ (.head _) rfl) (by rw [hs];rfl) kZ rfl⟩
 ·exact dT.step.q1 0 rfl rfl fun s' bb hs hl=>⟨_,rfl,aV.shrI (a:=aQ ((aQ (d.h*6364136223846793005))+1442695040888963407)) (b:=45) rfl rfl (hl 21 (some 8) _ (.head _) rfl) rfl (by decide) (Q0 (GK _)).1 (Q0 (GK _)).2⟩
 ·exact dT.step.q1 0 rfl rfl fun s' bb hs hl=>⟨_,rfl,aV.xorI rfl rfl (hl 17 (some 4) _ (.head _) rfl) (hl 22 (some 9) _ (.tail _ (.head _)) rfl)⟩
 ·exact dT.step.q1 0 rfl rfl fun s' bb hs hl=>⟨_,rfl,aV.andI rfl rfl (hl 23 (some 10) _ (.head _) rfl) rfl⟩
 ·exact dT.step.q1 0 rfl rfl fun s' bb hs hl=>⟨_,rfl,aV.move (.inr rfl) rfl (hl 24 (some 11) _ (.head _) rfl)⟩
 refine aO.seq ?_;refine aO.seq ?_;refine aO.drawnL ⟨_,_,fun _ _=>(⟨[some ⟨151,[.t (.row 1 (cW (d.code))),.t (.leaf (.int .i64 (((d.p:Nat):Int)))),.t (.leaf (.int .i64 (aQ ((aQ (d.h*6364136223846793005))+1442695040888963407))))]⟩],[]⟩:dK),fun q'=>([some (.ptr 0 0),some (.ptr 0 0),some (.ptr 0 1),some (.t (.leaf (.int .i64 (((d.p:Nat):Int))))),some (.ptr 0 0),some (.ptr 0 0),some (.ptr 0 0),some (.t (.row 1 (cW (d.code)))),some (.t (.leaf (.int .i64 (((d.code.length:Nat):Int))))),some (.t (.leaf (.bool (decide ((((d.p:Nat):Int):Int)<((d.code.length:Nat):Int))))))]:List (Option PV)).getD q' none,fun q'=>([.q 0 0,.q 0 0,.q 0 0,.q 0 0,.q 0 0,.q 0 0,.q 0 0,.q 0 0,.q 0 0,.q 0 0]:List DK).getD q' (.q 0 0),[],none,fun q'=>([[(0,none)],[(25,some 0)],[(26,some 1)],[(27,some 2)],[(0,none)],[(29,some 4)],[(30,some 5)],[(31,some 6)],[(32,some 7)],[(28,some 3),(33,some 8)]]:List (List (Nat×Option Nat))).getD q' []⟩ rfl ahR (by kernel_rfl) rfl rfl ⟨?_,?_,?_,?_,?_,?_,?_,?_,?_,?_,trivial⟩ rfl ?_
 ·exact dT.step.q1 0 rfl rfl fun s' bb hs hl=>⟨_,rfl,aV.move (.inl rfl) rfl (hl 0 none _ (.head _) rfl)⟩
 ·exact dT.step.q1 0 rfl rfl fun s' bb hs hl=>⟨_,rfl,aV.nilPtr rfl rfl (hl 25 (some 0) _ (.head _) rfl)⟩
 ·exact dT.step.q1 0 rfl rfl fun s' bb hs hl=>⟨_,rfl,aV.fieldPtr (k:=0) (d:=0) (e:=1) rfl rfl (hl 26 (some 1) _ (.head _) rfl) QT⟩
 ·exact dT.step.q1 0 rfl rfl fun s' bb hs hl=>⟨_,rfl,aV.loadPtr1 rfl rfl (hl 27 (some 2) _ (.head _) rfl) (by rw [hs];rfl) kZ rfl⟩
 ·exact dT.step.q1 0 rfl rfl fun s' bb hs hl=>⟨_,rfl,aV.move (.inl rfl) rfl (hl 0 none _ (.head _) rfl)⟩
 ·exact dT.step.q1 0 rfl rfl fun s' bb hs hl=>⟨_,rfl,aV.nilPtr rfl rfl (hl 29 (some 4) _ (.head _) rfl)⟩
 ·exact dT.step.q1 0 rfl rfl fun s' bb hs hl=>⟨_,rfl,aV.fieldPtr (k:=0) (d:=0) (e:=0) rfl rfl (hl 30 (some 5) _ (.head _) rfl) ahI⟩
 ·exact dT.step.q1 0 rfl rfl fun s' bb hs hl=>⟨_,rfl,aV.loadPtr1 rfl rfl (hl 31 (some 6) _ (.head _) rfl) (by rw [hs];rfl) apJ rfl⟩
 ·exact dT.step.q1 0 rfl rfl fun s' bb hs hl=>⟨_,rfl,aV.lenN rfl rfl (hl 32 (some 7) _ (.head _) rfl) rfl aa0 (hQ _)⟩
 ·exact dT.step.q1 0 rfl rfl fun s' bb hs hl=>⟨_,rfl,aV.lss rfl rfl (hl 28 (some 3) _ (.head _) rfl) (hl 33 (some 8) _ (.tail _ (.head _)) rfl)⟩
 refine aO.cond rfl (fun h1=>?_) (fun h1=>?_)
 ·have h1b:=h1
  try simp only [Bool.and_eq_true,Bool.or_eq_true,Bool.and_eq_false_iff,Bool.or_eq_false_iff,decide_eq_true_eq,decide_eq_false_iff_not,Bool.not_eq_true',Bool.not_eq_false',Bool.not_eq_eq_eq_not,Bool.not_true,Bool.not_false,ge_iff_le,gt_iff_lt,Int.not_lt,Int.not_le] at h1b
  have h1n:d.p<d.code.length:=by omega
  refine aO.seq ?_;refine aO.drawnL ⟨_,_,fun _ _=>(⟨[some ⟨151,[.t (.row 1 (cW (d.code))),.t (.leaf (.int .i64 (((d.p:Nat):Int)))),.t (.leaf (.int .i64 (aQ ((aQ (d.h*6364136223846793005))+1442695040888963407))))]⟩],[]⟩:dK),fun q'=>([some (.t (.leaf (.int .i64 (CB (R5 (tD (aQ ((aQ (d.h*6364136223846793005))+1442695040888963407)) 33) (tD (aQ ((aQ (d.h*6364136223846793005))+1442695040888963407)) 45)) 255)))),some (.ptr 0 0),some (.ptr 0 0),some (.ptr 0 0),some (.t (.row 1 (cW (d.code)))),some (.ptr 0 0),some (.ptr 0 0),some (.ptr 0 1),some (.t (.leaf (.int .i64 (((d.p:Nat):Int))))),some (.eptr ([.leaf (.int .u8 ((d.code[d.p]).toNat:Int))])),some (.t (.leaf (.int .u8 (((d.code[d.p]).toNat:Int))))),some (.t (.leaf (.int .i64 (((d.code[d.p]).toNat:Int))))),some (.t (.leaf (.int .i64 (aQ ((CB (R5 (tD (aQ ((aQ (d.h*6364136223846793005))+1442695040888963407)) 33) (tD (aQ ((aQ (d.h*6364136223846793005))+1442695040888963407)) 45)) 255)+((d.code[d.p]).toNat:Int)))))),some (.t (.leaf (.int .i64 (CB (aQ ((CB (R5 (tD (aQ ((aQ (d.h*6364136223846793005))+1442695040888963407)) 33) (tD (aQ ((aQ (d.h*6364136223846793005))+1442695040888963407)) 45)) 255)+((d.code[d.p]).toNat:Int))) 255)))),some (.t (.leaf (.int .i64 (CB (aQ ((CB (R5 (tD (aQ ((aQ (d.h*6364136223846793005))+1442695040888963407)) 33) (tD (aQ ((aQ (d.h*6364136223846793005))+1442695040888963407)) 45)) 255)+((d.code[d.p]).toNat:Int))) 255))))]:List (Option PV)).getD q' none,fun q'=>([.q 0 0,.q 0 0,.q 0 0,.q 0 0,.q 0 0,.q 0 0,.q 0 0,.q 0 0,.q 0 0,.q 0 0,.q 0 0,.q 0 0,.q 0 0,.q 0 0,.q 0 0]:List DK).getD q' (.q 0 0),[],none,fun q'=>([[(3,none)],[(0,none)],[(36,some 1)],[(37,some 2)],[(38,some 3)],[(0,none)],[(40,some 5)],[(41,some 6)],[(42,some 7)],[(39,some 4),(43,some 8)],[(44,some 9)],[(45,some 10)],[(35,some 0),(46,some 11)],[(47,some 12)],[(48,some 13)]]:List (List (Nat×Option Nat))).getD q' []⟩ rfl ahR (by kernel_rfl) rfl rfl ⟨?_,?_,?_,?_,?_,?_,?_,?_,?_,?_,?_,?_,?_,?_,?_,trivial⟩ rfl ?_
  ·exact dT.step.q1 0 rfl rfl fun s' bb hs hl=>⟨_,rfl,aV.move (.inl rfl) rfl (hl 3 none _ (.head _) rfl)⟩
  ·exact dT.step.q1 0 rfl rfl fun s' bb hs hl=>⟨_,rfl,aV.move (.inl rfl) rfl (hl 0 none _ (.head _) rfl)⟩
  ·exact dT.step.q1 0 rfl rfl fun s' bb hs hl=>⟨_,rfl,aV.nilPtr rfl rfl (hl 36 (some 1) _ (.head _) rfl)⟩
  ·exact dT.step.q1 0 rfl rfl fun s' bb hs hl=>⟨_,rfl,aV.fieldPtr (k:=0) (d:=0) (e:=0) rfl rfl (hl 37 (some 2) _ (.head _) rfl) ahI⟩
  ·exact dT.step.q1 0 rfl rfl fun s' bb hs hl=>⟨_,rfl,aV.loadPtr1 rfl rfl (hl 38 (some 3) _ (.head _) rfl) (by rw [hs];rfl) apJ rfl⟩
  ·exact dT.step.q1 0 rfl rfl fun s' bb hs hl=>⟨_,rfl,aV.move (.inl rfl) rfl (hl 0 none _ (.head _) rfl)⟩
  ·exact dT.step.q1 0 rfl rfl fun s' bb hs hl=>⟨_,rfl,aV.nilPtr rfl rfl (hl 40 (some 5) _ (.head _) rfl)⟩
  ·exact dT.step.q1 0 rfl rfl fun s' bb hs hl=>⟨_,rfl,aV.fieldPtr (k:=0) (d:=0) (e:=1) rfl rfl (hl 41 (some 6) _ (.head _) rfl) QT⟩
  ·exact dT.step.q1 0 rfl rfl fun s' bb hs hl=>⟨_,rfl,aV.loadPtr1 rfl rfl (hl 42 (some 7) _ (.head _) rfl) (by rw [hs];rfl) kZ rfl⟩
  ·exact dT.step.q1 0 rfl rfl fun s' bb hs hl=>⟨_,rfl,aV.index (k:=d.p) rfl rfl (hl 39 (some 4) _ (.head _) rfl) rfl (hl 43 (some 8) _ (.tail _ (.head _)) rfl) (xR h1n) aa0⟩
  ·exact dT.step.q1 0 rfl rfl fun s' bb hs hl=>⟨_,rfl,aV.loadEptr1 (d:= .leaf (.int .u8 (((d.code[d.p]).toNat:Int)))) rfl rfl (hl 44 (some 9) _ (.head _) rfl) sh5 rfl⟩
  ·exact dT.step.q1 0 rfl rfl fun s' bb hs hl=>⟨_,rfl,aV.convI rfl rfl (hl 45 (some 10) _ (.head _) rfl) ⟨_,Tryz.underlying5⟩ Tryz.underlying3 (by first|omega|(have:=UInt8.toNat_lt (d.code[d.p]);omega)) (by first|omega|(have:=UInt8.toNat_lt (d.code[d.p]);omega))⟩
  ·exact dT.step.q1 0 rfl rfl fun s' bb hs hl=>⟨_,rfl,aV.addW rfl rfl (hl 35 (some 0) _ (.head _) rfl) (hl 46 (some 11) _ (.tail _ (.head _)) rfl)⟩
  ·exact dT.step.q1 0 rfl rfl fun s' bb hs hl=>⟨_,rfl,aV.andI rfl rfl (hl 47 (some 12) _ (.head _) rfl) rfl⟩
  ·exact dT.step.q1 0 rfl rfl fun s' bb hs hl=>⟨_,rfl,aV.move (.inr rfl) rfl (hl 48 (some 13) _ (.head _) rfl)⟩
  refine aO.region_lit ?_;refine AL.cons rfl (aV.move (.inl rfl) rfl rfl) ?_;refine AL.cons rfl (aV.move (.inl rfl) rfl rfl) ?_;refine AL.cons rfl (aV.nilPtr rfl rfl rfl) ?_;refine AL.cons rfl (aV.fieldPtr (k:=0) (d:=0) (e:=1) rfl rfl rfl QT) ?_;refine AL.cons rfl (aV.loadPtr1 rfl rfl rfl rfl kZ rfl) ?_;refine AL.cons rfl (aV.addI rfl rfl rfl rfl (c:=((d.p+1:Nat):Int)) (by omega) (by omega)) ?_;refine AL.cons rfl (aV.nilPtr rfl rfl rfl) ?_;refine AL.cons rfl (aV.fieldPtr (k:=0) (d:=0) (e:=1) rfl rfl rfl QT) ?_;refine AL.cons rfl (aV.storePtr (cs:= [.t (.leaf (.int .i64 (((d.p+1:Nat):Int))))]) (ds:= [.t (.row 1 (cW (d.code))),.t (.leaf (.int .i64 (((d.p+1:Nat):Int)))),.t (.leaf (.int .i64 (aQ ((aQ (d.h*6364136223846793005))+1442695040888963407))))]) rfl rfl rfl rfl rfl rfl rfl sz3 (Nat.le_of_ble_eq_true rfl) rfl) ?_;refine AL.nil ?_;refine aO.seq ?_;refine aO.region_lit ?_;refine AL.cons rfl (aV.move (.inl rfl) rfl rfl) ?_;refine AL.cons rfl (aV.move (.inr rfl) rfl rfl) ?_;refine AL.nil ?_;refine aO.ret ?_;exact zU.mk (ps:= [_]) (.inr rfl) ⟨rfl,trivial⟩ rfl (oF.mk' (st':=⟨[some ⟨151,[.t (.row 1 (cW (d.code))),.t (.leaf (.int .i64 (((d.p+1:Nat):Int)))),.t (.leaf (.int .i64 (aQ ((aQ (d.h*6364136223846793005))+1442695040888963407))))]⟩],[]⟩) ⟨⟨rfl,lG,rfl⟩,trivial⟩ rfl) (uE hC ⟨_,rfl⟩) (q:= .t (.leaf (.int .i64 (CB (aQ ((CB (R5 (tD (aQ ((aQ (d.h*6364136223846793005))+1442695040888963407)) 33) (tD (aQ ((aQ (d.h*6364136223846793005))+1442695040888963407)) 45)) 255)+((d.code[d.p]).toNat:Int))) 255)))) (.refl _) rfl ⟨by first|(simp_all [DS.byte,EN];done)|(have hq: ¬d.p<d.code.length:=(by omega);simp [DS.byte,EN,hq]),by first|(simp_all [DS.box,DS.cells,DS.next,EN];done)|(have hq: ¬d.p<d.code.length:=(by omega);simp [DS.box,DS.cells,DS.next,EN,hq])⟩
 ·have h1b:=h1
  try simp only [Bool.and_eq_true,Bool.or_eq_true,Bool.and_eq_false_iff,Bool.or_eq_false_iff,decide_eq_true_eq,decide_eq_false_iff_not,Bool.not_eq_true',Bool.not_eq_false',Bool.not_eq_eq_eq_not,Bool.not_true,Bool.not_false,ge_iff_le,gt_iff_lt,Int.not_lt,Int.not_le] at h1b
  have h1n:d.p≥d.code.length:=by omega
  refine aO.skip ?_;refine aO.seq ?_;refine aO.region_lit ?_;refine AL.cons rfl (aV.move (.inl rfl) rfl rfl) ?_;refine AL.cons rfl (aV.move (.inr rfl) rfl rfl) ?_;refine AL.nil ?_;refine aO.ret ?_;exact zU.mk (ps:= [_]) (.inr rfl) ⟨rfl,trivial⟩ rfl (oF.mk' (st':=⟨[some ⟨151,[.t (.row 1 (cW (d.code))),.t (.leaf (.int .i64 (((d.p:Nat):Int)))),.t (.leaf (.int .i64 (aQ ((aQ (d.h*6364136223846793005))+1442695040888963407))))]⟩],[]⟩) ⟨⟨rfl,lG,rfl⟩,trivial⟩ rfl) (uE hC ⟨_,rfl⟩) (q:= .t (.leaf (.int .i64 (CB (R5 (tD (aQ ((aQ (d.h*6364136223846793005))+1442695040888963407)) 33) (tD (aQ ((aQ (d.h*6364136223846793005))+1442695040888963407)) 45)) 255)))) (.refl _) rfl ⟨by first|(simp_all [DS.byte,EN];done)|(have hq: ¬d.p<d.code.length:=(by omega);simp [DS.byte,EN,hq]),by first|(simp_all [DS.box,DS.cells,DS.next,EN];done)|(have hq: ¬d.p<d.code.length:=(by omega);simp [DS.box,DS.cells,DS.next,EN,hq])⟩
theorem D4(d:DS):cP Tryz.prog 146 [.ptr 0 0] (d.box 151) (fun r t=>r= .t (.leaf (.int .i64 ((d.byteN:Nat):Int)))∧t=d.next.box 151):=by rw [d.byteN_eq];exact amJ d
set_option maxRecDepth 100000 in
set_option maxHeartbeats 4000000 in
theorem gF(d:DS)(n:Nat):cP Tryz.prog 103 [.ptr 0 0,.t (.leaf (.int .i64 (((n:Nat):Int))))] (d.box 151) (fun r t=>r= .t (.leaf (.int .i64 (((d.below n:Nat):Int))))∧t=(d.after n).box 151):=by
 refine cP.intro Tryz.func103 rfl (by first|decide|(simp;done)|(simp;decide)) ?_;intro C hC
 refine aO.fact (c3 0 0 rfl rfl rfl (hQ d.code)) (fun hl0=>?_)
 have hb0:=d.byteN_le
 have hb1:=d.next.byteN_le
 have hb2:=d.next.next.byteN_le
 have hb3:=d.next.next.next.byteN_le
 refine aO.seq ?_;refine aO.region_lit ?_;refine AL.cons rfl (aV.move (.inr rfl) rfl rfl) ?_;refine AL.nil ?_;refine aO.seq ?_;refine aO.seq ?_;refine aO.region_lit ?_;refine AL.cons rfl (aV.move (.inl rfl) rfl rfl) ?_;refine AL.cons rfl (aV.leq rfl rfl rfl rfl) ?_;refine AL.nil ?_;refine aO.cond rfl (fun h1=>?_) (fun h1=>?_)
 ·have h1b:=h1
  try simp only [Bool.and_eq_true,Bool.or_eq_true,Bool.and_eq_false_iff,Bool.or_eq_false_iff,decide_eq_true_eq,decide_eq_false_iff_not,Bool.not_eq_true',Bool.not_eq_false',Bool.not_eq_eq_eq_not,Bool.not_true,Bool.not_false,ge_iff_le,gt_iff_lt,Int.not_lt,Int.not_le] at h1b
  refine aO.seq ?_;refine aO.region_lit ?_;refine AL.cons rfl (aV.move (.inr rfl) rfl rfl) ?_;refine AL.nil ?_;refine aO.ret ?_;exact zU.mk (ps:= [_]) (.inr rfl) ⟨rfl,trivial⟩ rfl (oF.mk' (st':=⟨[some ⟨151,[.t (.row 1 (cW (d.code))),.t (.leaf (.int .i64 (((d.p:Nat):Int)))),.t (.leaf (.int .i64 (d.h)))]⟩],[]⟩) ⟨⟨rfl,lG,rfl⟩,trivial⟩ rfl) (uE hC ⟨_,rfl⟩) (q:= .t (.leaf (.int .i64 (0)))) lG rfl ⟨by first|(have hq:n=0:=(by omega);simp [DS.below,hq];done)|(have hq: ¬n=0:=(by omega);have hr:n≤256:=(by omega);simp [DS.below,hq,hr];done)|(have hq: ¬n=0:=(by omega);have hr: ¬n≤256:=(by omega);simp [DS.below,hq,hr]),by first|(have hq:n=0:=(by omega);simp [DS.after,DS.box,DS.cells,hq];done)|(have hq: ¬n=0:=(by omega);have hr:n≤256:=(by omega);simp [DS.after,DS.box,DS.cells,hq,hr];done)|(have hq: ¬n=0:=(by omega);have hr: ¬n≤256:=(by omega);simp [DS.after,DS.box,DS.cells,hq,hr])⟩
 ·have h1b:=h1
  try simp only [Bool.and_eq_true,Bool.or_eq_true,Bool.and_eq_false_iff,Bool.or_eq_false_iff,decide_eq_true_eq,decide_eq_false_iff_not,Bool.not_eq_true',Bool.not_eq_false',Bool.not_eq_eq_eq_not,Bool.not_true,Bool.not_false,ge_iff_le,gt_iff_lt,Int.not_lt,Int.not_le] at h1b
  refine aO.skip ?_;refine aO.seq ?_;refine aO.seq ?_;refine aO.region_lit ?_;refine AL.cons rfl (aV.move (.inl rfl) rfl rfl) ?_;refine AL.cons rfl (aV.leq rfl rfl rfl rfl) ?_;refine AL.nil ?_;refine aO.cond rfl (fun h2=>?_) (fun h2=>?_)
  ·have h2b:=h2
   try simp only [Bool.and_eq_true,Bool.or_eq_true,Bool.and_eq_false_iff,Bool.or_eq_false_iff,decide_eq_true_eq,decide_eq_false_iff_not,Bool.not_eq_true',Bool.not_eq_false',Bool.not_eq_eq_eq_not,Bool.not_true,Bool.not_false,ge_iff_le,gt_iff_lt,Int.not_lt,Int.not_le] at h2b
   refine aO.seq ?_;refine aO.region_lit ?_;refine AL.cons rfl (aV.move (.inl rfl) rfl rfl) ?_;refine AL.cons rfl (aV.callPE (pre:=⟨[some ⟨151,[.t (.row 1 (cW (d.code))),.t (.leaf (.int .i64 (((d.p:Nat):Int)))),.t (.leaf (.int .i64 (d.h)))]⟩],[]⟩) (st':=⟨[some ⟨151,[.t (.row 1 (cW (d.next.code))),.t (.leaf (.int .i64 (((d.next.p:Nat):Int)))),.t (.leaf (.int .i64 (d.next.h)))]⟩],[]⟩) (ps:= [_]) (qs:= [.ptr 0 0]) [0] [] rfl rfl Tryz.func146 (by kernel_rfl) rfl rfl rfl (by(try rw [hs]);exact⟨rfl,rfl,by decide,by decide,fun k h=>by rcases k with _|k<;>simp at h;exact⟨_,rfl⟩,fun k x h=>by rcases k with _|k<;>simp at h;subst h;exact⟨_,rfl,rfl,lG,rfl⟩,fun r row h=>by simp at h⟩) lG rfl rfl rfl (D4 d)) ?_;refine AL.cons rfl (aV.move (.inl rfl) rfl rfl) ?_;refine AL.cons rfl (aV.remN (a:=d.byteN) (b:=n) rfl rfl rfl rfl (by omega) (by omega)) ?_;refine AL.cons rfl (aV.move (.inr rfl) rfl rfl) ?_;refine AL.nil ?_;refine aO.ret ?_;exact zU.mk (ps:= [_]) (.inr rfl) ⟨rfl,trivial⟩ rfl (oF.mk' (st':=⟨[some ⟨151,[.t (.row 1 (cW (d.next.code))),.t (.leaf (.int .i64 (((d.next.p:Nat):Int)))),.t (.leaf (.int .i64 (d.next.h)))]⟩],[]⟩) ⟨⟨rfl,lG,rfl⟩,trivial⟩ rfl) (uE hC ⟨_,rfl⟩) (q:= .t (.leaf (.int .i64 (((d.byteN%n:Nat):Int))))) lG rfl ⟨by first|(have hq:n=0:=(by omega);simp [DS.below,hq];done)|(have hq: ¬n=0:=(by omega);have hr:n≤256:=(by omega);simp [DS.below,hq,hr];done)|(have hq: ¬n=0:=(by omega);have hr: ¬n≤256:=(by omega);simp [DS.below,hq,hr]),by first|(have hq:n=0:=(by omega);simp [DS.after,DS.box,DS.cells,hq];done)|(have hq: ¬n=0:=(by omega);have hr:n≤256:=(by omega);simp [DS.after,DS.box,DS.cells,hq,hr];done)|(have hq: ¬n=0:=(by omega);have hr: ¬n≤256:=(by omega);simp [DS.after,DS.box,DS.cells,hq,hr])⟩
  ·have h2b:=h2
   try simp only [Bool.and_eq_true,Bool.or_eq_true,Bool.and_eq_false_iff,Bool.or_eq_false_iff,decide_eq_true_eq,decide_eq_false_iff_not,Bool.not_eq_true',Bool.not_eq_false',Bool.not_eq_eq_eq_not,Bool.not_true,Bool.not_false,ge_iff_le,gt_iff_lt,Int.not_lt,Int.not_le] at h2b
   refine aO.skip ?_;refine aO.seq ?_;refine aO.region_lit ?_;refine AL.cons rfl (aV.move (.inl rfl) rfl rfl) ?_;refine AL.cons rfl (aV.callPE (pre:=⟨[some ⟨151,[.t (.row 1 (cW (d.code))),.t (.leaf (.int .i64 (((d.p:Nat):Int)))),.t (.leaf (.int .i64 (d.h)))]⟩],[]⟩) (st':=⟨[some ⟨151,[.t (.row 1 (cW (d.next.code))),.t (.leaf (.int .i64 (((d.next.p:Nat):Int)))),.t (.leaf (.int .i64 (d.next.h)))]⟩],[]⟩) (ps:= [_]) (qs:= [.ptr 0 0]) [0] [] rfl rfl Tryz.func146 (by kernel_rfl) rfl rfl rfl (by(try rw [hs]);exact⟨rfl,rfl,by decide,by decide,fun k h=>by rcases k with _|k<;>simp at h;exact⟨_,rfl⟩,fun k x h=>by rcases k with _|k<;>simp at h;subst h;exact⟨_,rfl,rfl,lG,rfl⟩,fun r row h=>by simp at h⟩) lG rfl rfl rfl (D4 d)) ?_;refine AL.cons rfl (aV.move (.inr rfl) rfl rfl) ?_;refine AL.nil ?_;refine aO.seq ?_;refine aO.region_lit ?_;refine AL.cons rfl (aV.move (.inl rfl) rfl rfl) ?_;refine AL.cons rfl (aV.callPE (pre:=⟨[some ⟨151,[.t (.row 1 (cW (d.next.code))),.t (.leaf (.int .i64 (((d.next.p:Nat):Int)))),.t (.leaf (.int .i64 (d.next.h)))]⟩],[]⟩) (st':=⟨[some ⟨151,[.t (.row 1 (cW (d.next.next.code))),.t (.leaf (.int .i64 (((d.next.next.p:Nat):Int)))),.t (.leaf (.int .i64 (d.next.next.h)))]⟩],[]⟩) (ps:= [_]) (qs:= [.ptr 0 0]) [0] [] rfl rfl Tryz.func146 (by kernel_rfl) rfl rfl rfl (by(try rw [hs]);exact⟨rfl,rfl,by decide,by decide,fun k h=>by rcases k with _|k<;>simp at h;exact⟨_,rfl⟩,fun k x h=>by rcases k with _|k<;>simp at h;subst h;exact⟨_,rfl,rfl,lG,rfl⟩,fun r row h=>by simp at h⟩) lG rfl rfl rfl (D4 d.next)) ?_;refine AL.cons rfl (aV.move (.inr rfl) rfl rfl) ?_;refine AL.nil ?_;refine aO.seq ?_;refine aO.region_lit ?_;refine AL.cons rfl (aV.move (.inl rfl) rfl rfl) ?_;refine AL.cons rfl (aV.callPE (pre:=⟨[some ⟨151,[.t (.row 1 (cW (d.next.next.code))),.t (.leaf (.int .i64 (((d.next.next.p:Nat):Int)))),.t (.leaf (.int .i64 (d.next.next.h)))]⟩],[]⟩) (st':=⟨[some ⟨151,[.t (.row 1 (cW (d.next.next.next.code))),.t (.leaf (.int .i64 (((d.next.next.next.p:Nat):Int)))),.t (.leaf (.int .i64 (d.next.next.next.h)))]⟩],[]⟩) (ps:= [_]) (qs:= [.ptr 0 0]) [0] [] rfl rfl Tryz.func146 (by kernel_rfl) rfl rfl rfl (by(try rw [hs]);exact⟨rfl,rfl,by decide,by decide,fun k h=>by rcases k with _|k<;>simp at h;exact⟨_,rfl⟩,fun k x h=>by rcases k with _|k<;>simp at h;subst h;exact⟨_,rfl,rfl,lG,rfl⟩,fun r row h=>by simp at h⟩) lG rfl rfl rfl (D4 d.next.next)) ?_;refine AL.cons rfl (aV.move (.inr rfl) rfl rfl) ?_;refine AL.nil ?_;refine aO.seq ?_;refine aO.region_lit ?_;refine AL.cons rfl (aV.move (.inl rfl) rfl rfl) ?_;refine AL.cons rfl (aV.callPE (pre:=⟨[some ⟨151,[.t (.row 1 (cW (d.next.next.next.code))),.t (.leaf (.int .i64 (((d.next.next.next.p:Nat):Int)))),.t (.leaf (.int .i64 (d.next.next.next.h)))]⟩],[]⟩) (st':=⟨[some ⟨151,[.t (.row 1 (cW (d.next.next.next.next.code))),.t (.leaf (.int .i64 (((d.next.next.next.next.p:Nat):Int)))),.t (.leaf (.int .i64 (d.next.next.next.next.h)))]⟩],[]⟩) (ps:= [_]) (qs:= [.ptr 0 0]) [0] [] rfl rfl Tryz.func146 (by kernel_rfl) rfl rfl rfl (by(try rw [hs]);exact⟨rfl,rfl,by decide,by decide,fun k h=>by rcases k with _|k<;>simp at h;exact⟨_,rfl⟩,fun k x h=>by rcases k with _|k<;>simp at h;subst h;exact⟨_,rfl,rfl,lG,rfl⟩,fun r row h=>by simp at h⟩) lG rfl rfl rfl (D4 d.next.next.next)) ?_;refine AL.cons rfl (aV.move (.inr rfl) rfl rfl) ?_;refine AL.nil ?_;refine aO.seq ?_;refine aO.region_lit ?_;refine AL.cons rfl (aV.move (.inl rfl) rfl rfl) ?_;refine AL.cons rfl (aV.mulI rfl rfl rfl rfl (c:=((d.byteN*16777216:Nat):Int)) (by omega) (by omega)) ?_;refine AL.cons rfl (aV.move (.inl rfl) rfl rfl) ?_;refine AL.cons rfl (aV.mulI rfl rfl rfl rfl (c:=((d.next.byteN*65536:Nat):Int)) (by omega) (by omega)) ?_;refine AL.cons rfl (aV.addI rfl rfl rfl rfl (c:=(((d.byteN*16777216)+(d.next.byteN*65536):Nat):Int)) (by omega) (by omega)) ?_;refine AL.cons rfl (aV.move (.inl rfl) rfl rfl) ?_;refine AL.cons rfl (aV.mulI rfl rfl rfl rfl (c:=((d.next.next.byteN*256:Nat):Int)) (by omega) (by omega)) ?_;refine AL.cons rfl (aV.addI rfl rfl rfl rfl (c:=((((d.byteN*16777216)+(d.next.byteN*65536))+(d.next.next.byteN*256):Nat):Int)) (by omega) (by omega)) ?_;refine AL.cons rfl (aV.move (.inl rfl) rfl rfl) ?_;refine AL.cons rfl (aV.addI rfl rfl rfl rfl (c:=(((((d.byteN*16777216)+(d.next.byteN*65536))+(d.next.next.byteN*256))+d.next.next.next.byteN:Nat):Int)) (by omega) (by omega)) ?_;refine AL.cons rfl (aV.move (.inl rfl) rfl rfl) ?_;refine AL.cons rfl (aV.remN (a:=(((d.byteN*16777216)+(d.next.byteN*65536))+(d.next.next.byteN*256))+d.next.next.next.byteN) (b:=n) rfl rfl rfl rfl (by omega) (by omega)) ?_;refine AL.cons rfl (aV.move (.inr rfl) rfl rfl) ?_;refine AL.nil ?_;refine aO.ret ?_;exact zU.mk (ps:= [_]) (.inr rfl) ⟨rfl,trivial⟩ rfl (oF.mk' (st':=⟨[some ⟨151,[.t (.row 1 (cW (d.next.next.next.next.code))),.t (.leaf (.int .i64 (((d.next.next.next.next.p:Nat):Int)))),.t (.leaf (.int .i64 (d.next.next.next.next.h)))]⟩],[]⟩) ⟨⟨rfl,lG,rfl⟩,trivial⟩ rfl) (uE hC ⟨_,rfl⟩) (q:= .t (.leaf (.int .i64 (((((((d.byteN*16777216)+(d.next.byteN*65536))+(d.next.next.byteN*256))+d.next.next.next.byteN)%n:Nat):Int))))) lG rfl ⟨by first|(have hq:n=0:=(by omega);simp [DS.below,hq];done)|(have hq: ¬n=0:=(by omega);have hr:n≤256:=(by omega);simp [DS.below,hq,hr];done)|(have hq: ¬n=0:=(by omega);have hr: ¬n≤256:=(by omega);simp [DS.below,hq,hr]),by first|(have hq:n=0:=(by omega);simp [DS.after,DS.box,DS.cells,hq];done)|(have hq: ¬n=0:=(by omega);have hr:n≤256:=(by omega);simp [DS.after,DS.box,DS.cells,hq,hr];done)|(have hq: ¬n=0:=(by omega);have hr: ¬n≤256:=(by omega);simp [DS.after,DS.box,DS.cells,hq,hr])⟩
set_option maxRecDepth 100000 in
set_option maxHeartbeats 4000000 in
theorem nY(d:DS)(n:Nat):cP Tryz.prog 112 [.ptr 0 0,.t (.leaf (.int .i64 (((n:Nat):Int))))] (d.box 151) (fun r t=>r= .t (.leaf (.bool (decide (d.below n=0))))∧t=(d.after n).box 151):=by
 refine cP.intro Tryz.func112 rfl (by first|decide|(simp;done)|(simp;decide)) ?_;intro C hC
 refine aO.fact (c3 0 0 rfl rfl rfl (hQ d.code)) (fun hl0=>?_)
 refine aO.seq ?_;refine aO.region_lit ?_;refine AL.cons rfl (aV.move (.inr rfl) rfl rfl) ?_;refine AL.nil ?_;refine aO.seq ?_;refine aO.region_lit ?_;refine AL.cons rfl (aV.move (.inl rfl) rfl rfl) ?_;refine AL.cons rfl (aV.move (.inl rfl) rfl rfl) ?_;refine AL.cons rfl (aV.callPE (pre:=⟨[some ⟨151,[.t (.row 1 (cW (d.code))),.t (.leaf (.int .i64 (((d.p:Nat):Int)))),.t (.leaf (.int .i64 (d.h)))]⟩],[]⟩) (st':=⟨[some ⟨151,[.t (.row 1 (cW ((d.after n).code))),.t (.leaf (.int .i64 ((((d.after n).p:Nat):Int)))),.t (.leaf (.int .i64 ((d.after n).h)))]⟩],[]⟩) (ps:= [_,_]) (qs:= [.ptr 0 0,.t (.leaf (.int .i64 (((n:Nat):Int))))]) [0] [] rfl rfl Tryz.func103 (by kernel_rfl) rfl rfl rfl (by(try rw [hs]);exact⟨rfl,rfl,by decide,by decide,fun k h=>by rcases k with _|k<;>simp at h;exact⟨_,rfl⟩,fun k x h=>by rcases k with _|k<;>simp at h;subst h;exact⟨_,rfl,rfl,lG,rfl⟩,fun r row h=>by simp at h⟩) lG rfl rfl rfl (gF d n)) ?_;refine AL.cons rfl (aV.eqlI rfl rfl rfl rfl) ?_;refine AL.cons rfl (aV.move (.inr rfl) rfl rfl) ?_;refine AL.nil ?_;refine aO.ret ?_;exact zU.mk (ps:= [_]) (.inr rfl) ⟨rfl,trivial⟩ rfl (oF.mk' (st':=⟨[some ⟨151,[.t (.row 1 (cW ((d.after n).code))),.t (.leaf (.int .i64 ((((d.after n).p:Nat):Int)))),.t (.leaf (.int .i64 ((d.after n).h)))]⟩],[]⟩) ⟨⟨rfl,lG,rfl⟩,trivial⟩ rfl) (uE hC ⟨_,rfl⟩) (q:= .t (.leaf (.bool (decide ((((d.below n:Nat):Int):Int)=0))))) lG rfl ⟨by first|rfl|(congr 4;simp),by rfl⟩
set_option maxRecDepth 100000 in
set_option maxHeartbeats 4000000 in
theorem fT(d:DS)(l:List ByteArray)(hl:0<l.length):cP Tryz.prog 86 [.ptr 0 0,.t (.row 1 (aX (l)))] (d.box 151) (fun r t=>r= .t (.leaf (.string (d.pick l)))∧t=(d.after l.length).box 151):=by
 refine cP.intro Tryz.func86 rfl (by first|decide|(simp;done)|(simp;decide)) ?_;intro C hC
 refine aO.fact (c3 0 0 rfl rfl rfl (hQ d.code)) (fun hl0=>?_)
 refine aO.fact (Q3 1 rfl rfl (bI _)) (fun hl1=>?_)
 have hx:d.below l.length<l.length:=d.below_lt hl
 refine aO.seq ?_;refine aO.region_lit ?_;refine AL.cons rfl (aV.move (.inr rfl) rfl rfl) ?_;refine AL.nil ?_;refine aO.seq ?_;refine aO.region_lit ?_;refine AL.cons rfl (aV.move (.inl rfl) rfl rfl) ?_;refine AL.cons rfl (aV.move (.inl rfl) rfl rfl) ?_;refine AL.cons rfl (aV.move (.inl rfl) rfl rfl) ?_;refine AL.cons rfl (aV.lenN rfl rfl rfl rfl b6 (bI _)) ?_;refine AL.cons rfl (aV.callPE (pre:=⟨[some ⟨151,[.t (.row 1 (cW (d.code))),.t (.leaf (.int .i64 (((d.p:Nat):Int)))),.t (.leaf (.int .i64 (d.h)))]⟩],[]⟩) (st':=⟨[some ⟨151,[.t (.row 1 (cW ((d.after l.length).code))),.t (.leaf (.int .i64 ((((d.after l.length).p:Nat):Int)))),.t (.leaf (.int .i64 ((d.after l.length).h)))]⟩],[]⟩) (ps:= [_,_]) (qs:= [.ptr 0 0,.t (.leaf (.int .i64 (((l.length:Nat):Int))))]) [0] [] rfl rfl Tryz.func103 (by kernel_rfl) rfl rfl rfl (by(try rw [hs]);exact⟨rfl,rfl,by decide,by decide,fun k h=>by rcases k with _|k<;>simp at h;exact⟨_,rfl⟩,fun k x h=>by rcases k with _|k<;>simp at h;subst h;exact⟨_,rfl,rfl,lG,rfl⟩,fun r row h=>by simp at h⟩) lG rfl rfl rfl (gF d l.length)) ?_;refine AL.cons rfl (aV.index (k:=d.below l.length) rfl rfl rfl rfl rfl (WY hx) b6) ?_;refine AL.cons rfl (aV.loadEptr1 (d:= .leaf (.string (l[d.below l.length]))) rfl rfl rfl fO rfl) ?_;refine AL.cons rfl (aV.move (.inr rfl) rfl rfl) ?_;refine AL.nil ?_;refine aO.ret ?_;exact zU.mk (ps:= [_]) (.inr rfl) ⟨rfl,trivial⟩ rfl (oF.mk' (st':=⟨[some ⟨151,[.t (.row 1 (cW ((d.after l.length).code))),.t (.leaf (.int .i64 ((((d.after l.length).p:Nat):Int)))),.t (.leaf (.int .i64 ((d.after l.length).h)))]⟩],[]⟩) ⟨⟨rfl,lG,rfl⟩,trivial⟩ rfl) (uE hC ⟨_,rfl⟩) (q:= .t (.leaf (.string (l[d.below l.length])))) lG rfl ⟨by rw [DS.pick_eq hx],by rfl⟩
set_option maxRecDepth 100000 in
set_option maxHeartbeats 4000000 in
theorem aoE(code:List UInt8)(hb:code.length≤1048576):aoU Tryz.prog 54 [.t (.row 1 (cW code))] 151 (DS.start code).cells:=by
 refine cP.intro Tryz.func54 rfl (by first|decide|(simp;done)|(simp;decide)) ?_;intro C hC
 refine aO.fact (Q3 0 rfl rfl (hQ _)) (fun hl1=>?_)
 refine aO.seq ?_;refine aO.region_lit ?_;refine AL.cons rfl (aV.moveAny (.inl rfl)) ?_;refine AL.nil ?_;refine aO.seq ?_;refine aO.region_lit ?_;refine AL.cons rfl (aV.move (.inl rfl) rfl rfl) ?_;refine AL.cons rfl (aV.lenN rfl rfl rfl rfl aa0 (hQ _)) ?_;refine AL.cons rfl (aV.addI rfl rfl rfl rfl (c:=((28803+code.length:Nat):Int)) (by omega) (by omega)) ?_;refine AL.cons rfl (aV.move (.inr rfl) rfl rfl) ?_;refine AL.nil ?_;refine aO.seq ?_;refine aO.seq ?_;refine aO.region_lit ?_;refine AL.cons rfl (aV.move (.inr rfl) rfl rfl) ?_;refine AL.nil ?_;refine aO.block ?_;refine aO.loopJ (ι:=Nat×Int) (fun⟨i,h⟩=>i≤code.length∧i≤4000∧ao9 code=((code.take 4000).drop i).foldl FX h) (fun⟨i,h⟩=>⟨[(0,.t (.row 1 (cW (code)))),(3,.t (.leaf (.int .i64 (h)))),(4,.t (.leaf (.int .i64 (((i:Nat):Int)))))],⟨[],[]⟩⟩) (fun⟨i,h⟩=>code.length-i) (0,(28803+(code.length:Int))) ?_ ?_ ?_
 ·exact⟨Nat.zero_le _,Nat.zero_le _,rfl⟩
 ·exact Wk.mk (oF.mk' trivial rfl) (BF hC) ⟨⟨_,rfl,.refl _,rfl⟩,⟨⟨_,rfl,lG,rfl⟩,⟨⟨_,rfl,lG,rfl⟩,trivial⟩⟩⟩
 rintro⟨i,h⟩ hJ2
 obtain⟨hi1,hi2,hi3⟩:=hJ2
 refine aO.seq ?_;refine aO.seq ?_;refine aO.region_lit ?_;refine AL.cons rfl (aV.move (.inl rfl) rfl rfl) ?_;refine AL.cons rfl (aV.move (.inl rfl) rfl rfl) ?_;refine AL.cons rfl (aV.lenN rfl rfl rfl rfl aa0 (hQ _)) ?_;refine AL.cons rfl (aV.lss rfl rfl rfl rfl) ?_;refine AL.cons rfl (aV.move (.inl rfl) rfl rfl) ?_;refine AL.splitB 12 rfl (fun g3=>?_) (fun g3=>?_)
 ·have g3b:=g3
  try simp only [Bool.and_eq_true,Bool.or_eq_true,Bool.and_eq_false_iff,Bool.or_eq_false_iff,decide_eq_true_eq,decide_eq_false_iff_not,Bool.not_eq_true',Bool.not_eq_false',Bool.not_eq_eq_eq_not,Bool.not_true,Bool.not_false,ge_iff_le,gt_iff_lt,Int.not_lt,Int.not_le] at g3b
  have g3n:i<code.length:=by omega
  refine AL.cons_gv rfl rfl rfl g3 (aV.move (.inl rfl) rfl rfl) ?_;refine AL.cons_gv rfl rfl rfl g3 (aV.lss rfl rfl rfl rfl) ?_;refine AL.cons rfl (aV.pickT rfl rfl rfl g3 rfl) ?_;refine AL.nil ?_;refine aO.cond rfl (fun h4=>?_) (fun h4=>?_)
  ·have h4b:=h4
   try simp only [Bool.and_eq_true,Bool.or_eq_true,Bool.and_eq_false_iff,Bool.or_eq_false_iff,decide_eq_true_eq,decide_eq_false_iff_not,Bool.not_eq_true',Bool.not_eq_false',Bool.not_eq_eq_eq_not,Bool.not_true,Bool.not_false,ge_iff_le,gt_iff_lt,Int.not_lt,Int.not_le] at h4b
   refine aO.skip ?_;refine aO.seq ?_;refine aO.block ?_;refine aO.region_lit ?_;refine AL.cons rfl (aV.move (.inl rfl) rfl rfl) ?_;refine AL.cons rfl (aV.mulW rfl rfl rfl rfl) ?_;refine AL.cons rfl (aV.move (.inl rfl) rfl rfl) ?_;refine AL.cons rfl (aV.move (.inl rfl) rfl rfl) ?_;refine AL.cons rfl (aV.index (k:=i) rfl rfl rfl rfl rfl (xR g3n) aa0) ?_;refine AL.cons rfl (aV.loadEptr1 (d:= .leaf (.int .u8 (((code[i]).toNat:Int)))) rfl rfl rfl sh5 rfl) ?_;refine AL.cons rfl (aV.convI rfl rfl rfl ⟨_,Tryz.underlying5⟩ Tryz.underlying3 (by first|omega|(have:=UInt8.toNat_lt (code[i]);omega)) (by first|omega|(have:=UInt8.toNat_lt (code[i]);omega))) ?_;refine AL.cons rfl (aV.addW rfl rfl rfl rfl) ?_;refine AL.cons rfl (aV.addW rfl rfl rfl rfl) ?_;refine AL.cons rfl (aV.andI rfl rfl rfl rfl) ?_;refine AL.cons rfl (aV.move (.inr rfl) rfl rfl) ?_;refine AL.nil ?_;refine aO.region_lit ?_;refine AL.cons rfl (aV.move (.inl rfl) rfl rfl) ?_;refine AL.cons rfl (aV.addI rfl rfl rfl rfl (c:=((i+1:Nat):Int)) (by omega) (by omega)) ?_;refine AL.cons rfl (aV.move (.inr rfl) rfl rfl) ?_;refine AL.nil ?_;refine⟨(i+1,CB (aQ ((aQ ((aQ (h*131))+((code[i]).toNat:Int)))+7)) 1073741823),?_,?_,?_⟩
   ·exact⟨by omega,by omega,ajB (by omega) (by omega) hi3 rfl⟩
   ·exact Wk.mk (oF.mk' trivial rfl) (BF hC) ⟨⟨_,rfl,.refl _,rfl⟩,⟨⟨_,rfl,lG,rfl⟩,⟨⟨_,rfl,lG,rfl⟩,trivial⟩⟩⟩
   ·dsimp only;omega
  ·have h4b:=h4
   try simp only [Bool.and_eq_true,Bool.or_eq_true,Bool.and_eq_false_iff,Bool.or_eq_false_iff,decide_eq_true_eq,decide_eq_false_iff_not,Bool.not_eq_true',Bool.not_eq_false',Bool.not_eq_eq_eq_not,Bool.not_true,Bool.not_false,ge_iff_le,gt_iff_lt,Int.not_lt,Int.not_le] at h4b
   refine aO.exit ?_;refine aO.seq ?_;refine aO.region_lit ?_;refine AL.cons rfl (aV.move (.inl rfl) rfl rfl) ?_;refine AL.cons rfl (aV.move (.inl rfl) rfl rfl) ?_;refine AL.cons rfl (aV.build rfl rfl anY anK rfl rfl) ?_;refine AL.cons rfl (aV.box (cs:= [.t (.row 1 (cW (code))),.t (.leaf (.int .i64 (0))),.t (.leaf (.int .i64 (h)))]) rfl rfl rfl rfl rfl) ?_;refine AL.cons rfl (aV.move (.inr rfl) rfl rfl) ?_;refine AL.nil ?_;refine aO.ret ?_
   obtain rfl:=abC (by omega) hi3
   exact zU.mk (ps:= [_]) (.inr rfl) ⟨rfl,trivial⟩ rfl (oF.mk' (st':=⟨[some ⟨151,(DS.start code).cells⟩],[]⟩) ⟨⟨rfl,lG,rfl⟩,trivial⟩ rfl) (BF hC) (q:= .ptr 0 0) (.refl _) rfl ⟨0,rfl,rfl,fun i x hx=>by rcases i with _|i<;>simp at hx<;>simp,rfl⟩
 ·have g3b:=g3
  try simp only [Bool.and_eq_true,Bool.or_eq_true,Bool.and_eq_false_iff,Bool.or_eq_false_iff,decide_eq_true_eq,decide_eq_false_iff_not,Bool.not_eq_true',Bool.not_eq_false',Bool.not_eq_eq_eq_not,Bool.not_true,Bool.not_false,ge_iff_le,gt_iff_lt,Int.not_lt,Int.not_le] at g3b
  have g3n:i≥code.length:=by omega
  refine AL.skip_v rfl rfl rfl g3 rfl ?_;refine AL.skip_v rfl rfl rfl g3 rfl ?_;refine AL.cons rfl (aV.pickF rfl rfl rfl g3 rfl) ?_;refine AL.nil ?_;refine aO.cond rfl (fun h5=>?_) (fun h5=>?_)
  ·exact absurd (h5.symm.trans rfl) (by decide)
  ·have h5b:=h5
   try simp only [Bool.and_eq_true,Bool.or_eq_true,Bool.and_eq_false_iff,Bool.or_eq_false_iff,decide_eq_true_eq,decide_eq_false_iff_not,Bool.not_eq_true',Bool.not_eq_false',Bool.not_eq_eq_eq_not,Bool.not_true,Bool.not_false,ge_iff_le,gt_iff_lt,Int.not_lt,Int.not_le] at h5b
   refine aO.exit ?_;refine aO.seq ?_;refine aO.region_lit ?_;refine AL.cons rfl (aV.move (.inl rfl) rfl rfl) ?_;refine AL.cons rfl (aV.move (.inl rfl) rfl rfl) ?_;refine AL.cons rfl (aV.build rfl rfl anY anK rfl rfl) ?_;refine AL.cons rfl (aV.box (cs:= [.t (.row 1 (cW (code))),.t (.leaf (.int .i64 (0))),.t (.leaf (.int .i64 (h)))]) rfl rfl rfl rfl rfl) ?_;refine AL.cons rfl (aV.move (.inr rfl) rfl rfl) ?_;refine AL.nil ?_;refine aO.ret ?_
   obtain rfl:=abC (by omega) hi3
   exact zU.mk (ps:= [_]) (.inr rfl) ⟨rfl,trivial⟩ rfl (oF.mk' (st':=⟨[some ⟨151,(DS.start code).cells⟩],[]⟩) ⟨⟨rfl,lG,rfl⟩,trivial⟩ rfl) (BF hC) (q:= .ptr 0 0) (.refl _) rfl ⟨0,rfl,rfl,fun i x hx=>by rcases i with _|i<;>simp at hx<;>simp,rfl⟩
end Go.Proofs.YtpioomclpaiomaaGreat

namespace Go.Proofs.YtpioomclpaiomaaGreat
open Go.RowKit
theorem akV{w:World}{xs:List Int}{v:Value}(h:GL w (.row 1 (xs.map fun n=> [Tr.leaf (.int .u8 n)])) v): ∃code:List UInt8,(xs.map fun n=> [Tr.leaf (.int .u8 n)])=cW code:=by
 have hr: ∀x∈xs,0≤x∧x≤255:=by
  intro x hx
  obtain⟨i,hi,rfl⟩:=List.mem_iff_getElem.1 hx
  cases h with
  |row c h1 h2 h3 h4=>
   have:=h4 i [Tr.leaf (.int .u8 xs[i])] (by simp [hi]) 0 _ rfl
   have:=(this.leaf_eq).2
   simpa [rA,Lit.wf,IntKind.min,IntKind.max,IntKind.bits,IntKind.signed] using this
 refine⟨xs.map fun n=>UInt8.ofNat n.toNat,?_⟩
 unfold cW
 rw [List.map_map]
 refine List.map_congr_left fun x hx=>?_
 have:=hr x hx
 have h2:(UInt8.ofNat x.toNat).toNat=x.toNat:=by
  rw [UInt8.toNat_ofNat']
  omega
 simp only [Function.comp,h2]
 rw [Int.toNat_of_nonneg this.1]
end Go.Proofs.YtpioomclpaiomaaGreat

namespace Go.Proofs.YtpioomclpaiomaaGreat
open Go.RowKit
theorem D2.nil{w:World}:D2 w [] []:=trivial
theorem D2.cons{w:World}{p:PV}{ps:List PV}{v:Value}{vs:List Value}(h:RV0 w p v)(k:D2 w ps vs):D2 w (p::ps) (v::vs):=⟨h,k⟩
end Go.Proofs.YtpioomclpaiomaaGreat

namespace Go.Proofs.YtpioomclpaiomaaGreat
open Go.RowKit Go.Proofs
theorem anF:(Tryz.prog.info? 45).map (·.size)=some 2:=by kernel_rfl
end Go.Proofs.YtpioomclpaiomaaGreat

namespace Go.Proofs.YtpioomclpaiomaaGreat
def U2{α:Type}(p:α→Bool):List α→Nat→Int
 | [],_=> -1
 |a::l,i=>if p a then i else U2 p l (i+1)
theorem ai1{α:Type}{p:α→Bool}{l:List α}{k:Nat}(h:k<l.length):U2 p (l.drop k) k=if p l[k] then(k:Int) else U2 p (l.drop (k+1)) (k+1):=by
 rw [List.drop_eq_getElem_cons h,U2]
end Go.Proofs.YtpioomclpaiomaaGreat

namespace Go.Proofs.YtpioomclpaiomaaGreat
open Go.RowKit Go.Proofs
set_option maxRecDepth 100000 in
set_option maxHeartbeats 1000000 in
theorem U5{α:Type}(tr:α→List Tr)(p:α→Bool)(xs:List α)(g:FuncId)(caps:Array Value)(hg: ∀(args:Array Value) (w:World),(callFunc g args).run Tryz.prog w= .ok (.enter g args) w)(hl: ∀x,(tr x).length=2)(s:Value)(w:World)
 (H: ∀x∈xs,∀cs w',s6 w w'→gP w' (tr x) cs→Calls Tryz.prog g (#[.agg ⟨cs⟩]++caps) w' fun e w''=>e= .returned (.bool (p x))∧s6 w' w'')
 (hs:GL w (.row 2 (xs.map tr)) s):
 Calls Tryz.prog 126 #[s,.func (.func g) #[] caps] w fun e w'=>e= .returned (.int .i64 (U2 p xs 0))∧s6 w w':=by
 obtain⟨a,cap,rfl,hlc,hm⟩:=hs.shape
 unfold maxLen at hm
 rw [List.length_map] at hlc ⊢
 rw [List.length_map] at hs
 have HS:=Lib.hid hs
 have HH:=Lib.hid H
 have HL:=Lib.hid hl
 clear hs H hl
 go_enter Tryz.func126,Tryz.ntmps126
 go_wp2_with fail
 go_loopw [5,8] (fun _ i wr=> ∃k:Nat,k≤xs.length∧i= .int .i64 k∧s6 w wr∧Hid (U2 p xs 0=U2 p (xs.drop k) k)) (fun _ i _=>xs.length-(intOf i).toNat)
 case atStart=>exact⟨0,Nat.zero_le _,rfl,.refl _,rfl⟩
 case round=>
  obtain⟨k,hk,rfl,hw,HE⟩:=hrel
  by_cases hlt:k<xs.length
  ·obtain⟨b,off,cs,rfl,hb,hcs,hc⟩:=(HS.out.ext hw).at2 (k:=k) (e:=tr xs[k]) (by rw [List.getElem?_map,List.getElem?_eq_getElem hlt];rfl)
   have HST:=Lib.hid (ai1 (p:=p) hlt)
   have HM:=Lib.hid (List.getElem_mem hlt)
   have HCS:=Lib.hid hcs
   have HC:=Lib.hid hc
   have HI:Hid ((Tryz.prog.info? 45).map (·.size)=some cs.length):=by rw [← hcs.length,HL.out];exact anF
   clear hcs hc
   go_wp2_with (refine k8 rfl 45 (.tmp 14) rfl b (off+k*2) rfl cs _ Tryz.underlying45 HI.out HC.out ?_)
   refine(HH.out _ HM.out _ _ hw HCS.out).mono ?_;rintro e w1 ⟨rfl,hw1⟩
   have HW1:=Lib.hid (hw.trans hw1)
   clear hw1
   cases hp:p xs[k]
   ·have HP:=Lib.hid hp
    clear hp
    go_wp2_with fail
    go_roundw
    case rel=>exact⟨k+1,by omega,by go_num,HW1.out,by rw [HE.out,HST.out,HP.out];rfl⟩
    case measure=>simp [intOf];omega
   ·have HP:=Lib.hid hp
    clear hp
    go_wp2_with fail
    go_ret
    exact⟨ahW (by rw [HE.out,HST.out,HP.out];rfl),HW1.out⟩
  ·have hkl:k=xs.length:=by omega
   go_wp2_with fail
   go_ret
   exact⟨ahW (by rw [HE.out,hkl,List.drop_length];rfl),hw⟩
end Go.Proofs.YtpioomclpaiomaaGreat

namespace Go.Proofs.YtpioomclpaiomaaGreat
open Go.RowKit
structure KQ (S:Nat→Prop) (w w':World):Prop where
 os:w'.os=w.os
 tape:w'.tape=w.tape
 output:w'.output=w.output
 size:w.heap.size≤w'.heap.size
 block: ∀b,b<w.heap.size→ ¬S b→w'.heap[b]?=w.heap[b]?
theorem KQ.refl(S:Nat→Prop)(w:World):KQ S w w:=⟨rfl,rfl,rfl,Nat.le_refl _,fun _ _ _=>rfl⟩
theorem KQ.trans{S:Nat→Prop}{a b c:World}(h:KQ S a b)(k:KQ S b c):KQ S a c:=
 ⟨k.os.trans h.os,k.tape.trans h.tape,k.output.trans h.output,Nat.le_trans h.size k.size,fun x hx hs=>(k.block x (Nat.lt_of_lt_of_le hx h.size) hs).trans (h.block x hx hs)⟩
theorem KQ.mono{S S':Nat→Prop}{a b:World}(h:KQ S a b)(hS: ∀x,S x→S' x):KQ S' a b:=⟨h.os,h.tape,h.output,h.size,fun x hx hn=>h.block x hx fun hs=>hn (hS x hs)⟩
theorem KQ.of_ext{S:Nat→Prop}{a b:World}(h:s6 a b):KQ S a b:=⟨h.os,h.tape,h.output,h.size,fun x hx _=>h.block x hx⟩
theorem KQ.of_grown{S:Nat→Prop}{B:Nat}{a b:World}(h:a.grownBy b (some B))(hB:S B):KQ S a b:=⟨h.os,h.tape,h.output,h.size,fun x hx hs=>h.block x hx (by simp;rintro rfl;exact hs hB)⟩
theorem KQ.ext{S:Nat→Prop}{a b c:World}(h:s6 a b)(k:KQ S b c)(hS: ∀x,S x→a.heap.size≤x):s6 a c:=
 ⟨k.os.trans h.os,k.tape.trans h.tape,k.output.trans h.output,Nat.le_trans h.size k.size,fun x hx=>(k.block x (Nat.lt_of_lt_of_le hx h.size) (fun hs=>by have:=hS x hs;omega)).trans (h.block x hx)⟩
theorem xP.focus{w:World}{sz:Nat}{es:List (List Tr)}{a:Option Addr}{n cap i:Nat}{S:Nat→Prop}{e:List Tr}(h:xP w (.row sz es) (.slice a n cap) S)(hi:es[i]?=some e)(hl: ∀x∈es,x.length=sz):
 ∃b off E arr cs T,a=some ⟨b,off,none⟩∧OB w b E arr∧S b∧tT w e cs T∧(∀x,T x→S x∧x≠b)∧cs.length=sz∧(0<sz→off+i*sz+sz≤arr.size)∧(∀j v,cs[j]?=some v→arr[off+i*sz+j]?=some v)∧
  ∀w' cs' e',e'.length=sz→OB w' b E (splice arr (off+i*sz) cs')→tT w' e' cs' T→(∀x,x<w.heap.size→S x→x≠b→ ¬T x→w'.heap[x]?=w.heap[x]?)→off+i*sz+sz≤arr.size→
   xP w' (.row sz (es.set i e')) (.slice a n cap) S:=by
 cases h with
 |row c T h1 h2 h3 h4 h5 h6=>
  have hne:es≠ []:=by rintro rfl;simp at hi
  obtain⟨b,off,E,arr,rfl,hob,hs,hc⟩:=h3 hne
  have hlt:i<es.length:=(List.getElem?_eq_some_iff.1 hi).1
  have hel:e.length=sz:=hl e (List.mem_of_getElem? hi)
  have hgj: ∀j,j<sz→ ∃d,e[j]?=some d:=fun j hj=>⟨e[j]'(by omega),List.getElem?_eq_getElem _⟩
  refine⟨b,off,E,arr,(List.range sz).map (c i),fun x=> ∃j,j<sz∧T i j x,rfl,hob,hs,?_,?_,by simp,?_,?_,?_⟩
  ·refine⟨by simp [hel],fun j x=>j<sz∧T i j x,?_,?_,?_⟩
   ·intro j d hd
    have hj:j<sz:=by rw [← hel];exact(List.getElem?_eq_some_iff.1 hd).1
    exact⟨c i j,by simp [hj],(h4 i e hi j d hd).mono fun x hx=>⟨hj,hx⟩⟩
   ·intro j d hd x hx
    exact⟨j,hx⟩
   ·intro j d hd j' d' hd' hne x hx hx'
    exact h6 i e hi j d hd i e hi j' d' hd' (fun _=>hne) x hx.2 hx'.2
  ·rintro x ⟨j,hj,hx⟩
   obtain⟨d,hd⟩:=hgj j hj
   exact⟨h5 i e hi j d hd x hx,(hc i e hi j d hd).2 x hx⟩
  ·intro h0
   obtain⟨d,hd⟩:=hgj (sz-1) (by omega)
   have:=(hc i e hi _ d hd).1
   have:=(Array.getElem?_eq_some_iff.1 this).1
   omega
  ·intro j v hv
   rw [List.getElem?_map] at hv
   rcases Nat.lt_or_ge j sz with hj|hj
   ·rw [List.getElem?_range hj] at hv
    simp at hv
    obtain⟨d,hd⟩:=hgj j hj
    rw [← hv]
    exact(hc i e hi j d hd).1
   ·rw [List.getElem?_eq_none (by simpa using hj)] at hv
    simp at hv
  ·intro w' cs' e' hel' hob' how hx hfit
   obtain⟨hcl,U,u1,u2,u3⟩:=how
   have hcl:cs'.length=sz:=by omega
   have hset:(es.set i e').length=es.length:=by simp
   have get: ∀i' e2,(es.set i e')[i']?=some e2→(i'=i∧e2=e')∨(i'≠i∧es[i']?=some e2):=by
    intro i' e2 h
    rw [List.getElem?_set] at h
    split at h
    ·rename_i hii
     subst hii
     simp only [Option.some.injEq] at h
     exact .inl ⟨rfl,h.symm⟩
    ·rename_i hii
     exact .inr ⟨fun e=>hii e.symm,h⟩
   have keep: ∀i' e2,i'≠i→es[i']?=some e2→ ∀j d,e2[j]?=some d→ ∀x,T i' j x→x<w.heap.size→w'.heap[x]?=w.heap[x]?:=by
    intro i' e2 hne' he2 j d hd x hx' hxl
    refine hx x hxl (h5 i' e2 he2 j d hd x hx') ((hc i' e2 he2 j d hd).2 x hx') ?_;rintro⟨j',hj',hT⟩
    obtain⟨d',hd'⟩:=hgj j' hj'
    exact h6 i' e2 he2 j d hd i e hi j' d' hd' (fun h=>absurd h hne') x hx' hT
   rw [← hset]
   refine .row (fun i' j=>if i'=i then(cs'[j]?).getD undef else c i' j) (fun i' j=>if i'=i then U j else T i' j) (by rw [hset];exact h1) h2 ?_ ?_ ?_ ?_
   ·intro _
    refine⟨b,off,E,_,rfl,hob',hs,?_⟩
    intro i' e2 he2 j d hd
    rcases get i' e2 he2 with⟨rfl,rfl⟩|⟨hne',he2⟩
    ·simp only [if_true]
     have hj:j<sz:=by rw [← hel'];exact(List.getElem?_eq_some_iff.1 hd).1
     refine⟨?_,fun x hx'=>?_⟩
     ·have h7:=adS (arr:=arr) (o:=off+i'*sz) (vs:=cs') (by omega)
      have h8:(((splice arr (off+i'*sz) cs').toList.drop (off+i'*sz)).take cs'.length)[j]?=cs'[j]?:=by rw [h7]
      rw [List.getElem?_take,if_pos (by omega),List.getElem?_drop] at h8
      have h9:cs'[j]?=some (cs'[j]'(by omega)):=List.getElem?_eq_getElem _
      rw [h9] at h8 ⊢
      simpa using h8
     ·obtain⟨j2,hj2,hT⟩:=u2 j d hd x hx'
      obtain⟨d2,hd2⟩:=hgj j2 hj2
      exact(hc i' e hi j2 d2 hd2).2 x hT
    ·simp only [if_neg hne']
     obtain⟨q1,q2⟩:=hc i' e2 he2 j d hd
     have hl2:e2.length=sz:=hl e2 (List.mem_of_getElem? he2)
     have hj:j<sz:=by rw [← hl2];exact(List.getElem?_eq_some_iff.1 hd).1
     refine⟨?_,q2⟩
     rw [← q1]
     unfold splice
     have hsz:0<sz:=by omega
     rcases Nat.lt_or_ge i' i with hlt'|hge
     ·have h10:(i'+1)*sz≤i*sz:=Nat.mul_le_mul_right _ hlt'
      rw [Nat.succ_mul] at h10
      rw [List.getElem?_toArray,List.append_assoc,List.getElem?_append_left (by simp;omega),List.getElem?_take,if_pos (by omega)]
      simp
     ·have h10:(i+1)*sz≤i'*sz:=Nat.mul_le_mul_right _ (by omega)
      rw [Nat.succ_mul] at h10
      rw [List.getElem?_toArray,List.getElem?_append_right (by simp;omega),List.getElem?_drop]
      simp only [List.length_append,List.length_take,Array.length_toList]
      rw [Nat.min_eq_left (by omega),Array.getElem?_toList]
      congr 1
      omega
   ·intro i' e2 he2 j d hd
    rcases get i' e2 he2 with⟨rfl,rfl⟩|⟨hne',he2⟩
    ·simp only [if_true]
     obtain⟨v,hv,ho⟩:=u1 j d hd
     simpa [hv] using ho
    ·simp only [if_neg hne']
     exact(h4 i' e2 he2 j d hd).keep fun x hx' hxl=>keep i' e2 hne' he2 j d hd x hx' hxl
   ·intro i' e2 he2 j d hd x hx'
    rcases get i' e2 he2 with⟨rfl,rfl⟩|⟨hne',he2⟩
    ·simp only [if_true] at hx'
     obtain⟨j2,hj2,hT⟩:=u2 j d hd x hx'
     obtain⟨d2,hd2⟩:=hgj j2 hj2
     exact h5 i' e hi j2 d2 hd2 x hT
    ·simp only [if_neg hne'] at hx'
     exact h5 i' e2 he2 j d hd x hx'
   ·intro i' e2 he2 j d hd i'' e3 he3 j' d' hd' hne x hx1 hx2
    rcases get i' e2 he2 with⟨rfl,rfl⟩|⟨hne',he2⟩
    ·simp only [if_true] at hx1
     rcases get i'' e3 he3 with⟨rfl,rfl⟩|⟨hne'',he3⟩
     ·simp only [if_true] at hx2
      exact u3 j d hd j' d' hd' (hne rfl) x hx1 hx2
     ·simp only [if_neg hne''] at hx2
      obtain⟨j2,hj2,hT⟩:=u2 j d hd x hx1
      obtain⟨d2,hd2⟩:=hgj j2 hj2
      exact h6 i'' e3 he3 j' d' hd' i' e hi j2 d2 hd2 (fun h=>absurd h hne'') x hx2 hT
    ·simp only [if_neg hne'] at hx1
     have he2':=he2
     rcases get i'' e3 he3 with⟨rfl,rfl⟩|⟨hne'',he3⟩
     ·simp only [if_true] at hx2
      obtain⟨j2,hj2,hT⟩:=u2 j' d' hd' x hx2
      obtain⟨d2,hd2⟩:=hgj j2 hj2
      exact h6 i' e2 he2' j d hd i'' e hi j2 d2 hd2 (fun h=>absurd h hne') x hx1 hT
     ·simp only [if_neg hne''] at hx2
      exact h6 i' e2 he2 j d hd i'' e3 he3 j' d' hd' hne x hx1 hx2
end Go.Proofs.YtpioomclpaiomaaGreat

namespace Go.Proofs.YtpioomclpaiomaaGreat
open Go.RowKit
theorem tT.setLeaf{w:World}{ts:List Tr}{cs:List Value}{T:Nat→Prop}{j:Nat}{u:Tr}{v:Value}(h:tT w ts cs T)(hj:ts[j]?=some u)(hv:rA v):tT w (ts.set j (.leaf v)) (cs.set j v) T:=by
 obtain⟨hl,U,h1,h2,h3⟩:=h
 have hlt:j<ts.length:=(List.getElem?_eq_some_iff.1 hj).1
 have old: ∀i d,(ts.set j (.leaf v))[i]?=some d→(i=j∧d= .leaf v)∨(i≠j∧ts[i]?=some d):=by
  intro i d hd
  rw [List.getElem?_set] at hd
  split at hd
  ·rename_i hij
   subst hij
   simp only [Option.some.injEq] at hd
   exact .inl ⟨rfl,hd.symm⟩
  ·rename_i hij
   exact .inr ⟨fun e=>hij e.symm,hd⟩
 refine⟨by simp [hl],fun i x=>i≠j∧U i x,?_,?_,?_⟩
 ·intro i d hd
  rcases old i d hd with⟨rfl,rfl⟩|⟨hne,hd⟩
  ·exact⟨v,by rw [List.getElem?_set];simp [hl,hlt],.leaf hv⟩
  ·obtain⟨v',hv',ho⟩:=h1 i d hd
   exact⟨v',by rw [List.getElem?_set];rw [if_neg (fun e=>hne e.symm)];exact hv',ho.mono fun x hx=>⟨hne,hx⟩⟩
 ·intro i d hd x hx
  rcases old i d hd with⟨rfl,rfl⟩|⟨hne,hd⟩
  ·exact(hx.1 rfl).elim
  ·exact h2 i d hd x hx.2
 ·intro i d hd i' d' hd' hne x hx hx'
  rcases old i d hd with⟨rfl,rfl⟩|⟨_,hd⟩
  ·exact hx.1 rfl
  ·rcases old i' d' hd' with⟨rfl,rfl⟩|⟨_,hd'⟩
   ·exact hx'.1 rfl
   ·exact h3 i d hd i' d' hd' hne x hx.2 hx'.2
theorem tT.setRow{w:World}{ts:List Tr}{cs:List Value}{T:Nat→Prop}{j:Nat}{t:Tr}{v:Value}(h:tT w ts cs T)(hj:ts[j]?=some t)(hv:cs[j]?=some v):
 ∃U:Nat→Prop,xP w t v U∧(∀x,U x→T x)∧ ∀w' t',xP w' t' v U→(∀x,x<w.heap.size→T x→ ¬U x→w'.heap[x]?=w.heap[x]?)→tT w' (ts.set j t') cs T:=by
 obtain⟨hl,U,h1,h2,h3⟩:=h
 have hlt:j<ts.length:=(List.getElem?_eq_some_iff.1 hj).1
 obtain⟨v1,hv1,ho1⟩:=h1 j t hj
 rw [hv] at hv1
 injection hv1 with hv1
 subst hv1
 refine⟨U j,ho1,h2 j t hj,fun w' t' ho' hk=>⟨by simp [hl],U,?_,?_,?_⟩⟩
 all_goals
  have old: ∀i d,(ts.set j t')[i]?=some d→(i=j∧d=t')∨(i≠j∧ts[i]?=some d):=by
   intro i d hd
   rw [List.getElem?_set] at hd
   split at hd
   ·rename_i hij
    subst hij
    simp only [Option.some.injEq] at hd
    exact .inl ⟨rfl,hd.symm⟩
   ·rename_i hij
    exact .inr ⟨fun e=>hij e.symm,hd⟩
 ·intro i d hd
  rcases old i d hd with⟨rfl,rfl⟩|⟨hne,hd⟩
  ·exact⟨v,hv,ho'⟩
  ·obtain⟨v',hv',ho⟩:=h1 i d hd
   exact⟨v',hv',ho.keep fun x hx hxl=>hk x hxl (h2 i d hd x hx) (fun hu=>h3 i d hd j t hj hne x hx hu)⟩
 ·intro i d hd x hx
  rcases old i d hd with⟨rfl,rfl⟩|⟨hne,hd⟩
  ·exact h2 i t hj x hx
  ·exact h2 i d hd x hx
 ·intro i d hd i' d' hd' hne x hx hx'
  rcases old i d hd with⟨rfl,rfl⟩|⟨hne1,hd1⟩
  ·rcases old i' d' hd' with⟨rfl,rfl⟩|⟨_,hd2⟩
   ·exact hne rfl
   ·exact h3 i t hj i' d' hd2 hne x hx hx'
  ·rcases old i' d' hd' with⟨rfl,rfl⟩|⟨_,hd2⟩
   ·exact h3 i d hd1 i' t hj hne x hx hx'
   ·exact h3 i d hd1 i' d' hd2 hne x hx hx'
structure Foc (w0 wr:World) (b:Nat) (E:TypeId) (arr0:Array Value) (o sz:Nat) (ts:List Tr) (cs:List Value) (T:Nat→Prop):Prop where
 arr: ∃arr,OB wr b E arr∧arr.size=arr0.size∧(∀q,q<o∨o+sz≤q→arr[q]?=arr0[q]?)∧(∀j v,cs[j]?=some v→arr[o+j]?=some v)
 own:tT wr ts cs T
 chg:KQ (fun x=>x=b∨T x) w0 wr
 notin: ¬T b
 len:cs.length=sz
 fit:o+sz≤arr0.size
 tlt: ∀x,T x→x<w0.heap.size
 blt:b<w0.heap.size
theorem C4{arr:Array Value}{o:Nat}{cs:List Value}(h:o+cs.length≤arr.size)(q:Nat):(splice arr o cs)[q]?=if q<o then arr[q]? else if q<o+cs.length then cs[q-o]? else arr[q]?:=by
 unfold splice
 rw [List.getElem?_toArray,List.append_assoc]
 by_cases h1:q<o
 ·rw [if_pos h1,List.getElem?_append_left (by simp;omega),List.getElem?_take,if_pos h1];simp
 ·rw [if_neg h1,List.getElem?_append_right (by simp;omega)]
  have hl:(List.take o arr.toList).length=o:=by simp;omega
  rw [hl]
  by_cases h2:q<o+cs.length
  ·rw [if_pos h2,List.getElem?_append_left (by omega)]
  ·rw [if_neg h2,List.getElem?_append_right (by omega),List.getElem?_drop,Array.getElem?_toList]
   congr 1;omega
theorem Foc.leaf{w0 wr w':World}{b:Nat}{E:TypeId}{arr0 arr:Array Value}{o sz:Nat}{ts:List Tr}{cs:List Value}{T:Nat→Prop}(h:Foc w0 wr b E arr0 o sz ts cs T){j:Nat}{u:Tr}{v:Value}(hj:ts[j]?=some u)(hv:rA v)
 (ha:OB wr b E arr) (hob:OB w' b E (splice arr (o+j) [v])) (hg:wr.grownBy w' (some b)):Foc w0 w' b E arr0 o sz (ts.set j (.leaf v)) (cs.set j v) T:=by
 obtain⟨arr1,h1,h2,h3,h4⟩:=h.arr
 have he:=ha.symm.trans h1
 injection he with he
 injection he with he
 subst he
 have hlt:j<ts.length:=(List.getElem?_eq_some_iff.1 hj).1
 have hsz:j<sz:=by rw [← h.len,h.own.1];exact hlt
 have hfit:=h.fit
 have hw:KQ (fun x=>x=b) wr w':=KQ.of_grown hg rfl
 refine⟨⟨_,hob,by rw [adT (by simp;omega)];exact h2,?_,?_⟩,(h.own.setLeaf hj hv).keep fun x hx hxl=>hw.block x hxl (by rintro rfl;exact h.notin hx),h.chg.trans (hw.mono fun x hx=> .inl hx),h.notin,by rw [List.length_set];exact h.len,h.fit,h.tlt,h.blt⟩
 ·intro q hq
  rw [C4 (by simp;omega)]
  simp only [List.length_cons,List.length_nil]
  rw [← h3 q hq]
  split
  ·rfl
  ·rw [if_neg (by omega)]
 ·intro i x hx
  rw [C4 (by simp;omega)]
  simp only [List.length_cons,List.length_nil]
  rw [List.getElem?_set] at hx
  split at hx
  ·rename_i hji
   subst hji
   split at hx
   ·injection hx with hx
    subst hx
    rw [if_neg (by omega),if_pos (by omega)]
    simp
   ·simp at hx
  ·rename_i hji
   have:=h4 i x hx
   split
   ·exact this
   ·rw [if_neg (by omega)];exact this
theorem Foc.row{w0 wr:World}{b:Nat}{E:TypeId}{arr0:Array Value}{o sz:Nat}{ts:List Tr}{cs:List Value}{T:Nat→Prop}(h:Foc w0 wr b E arr0 o sz ts cs T){j:Nat}{t:Tr}{v:Value}(hj:ts[j]?=some t)(hv:cs[j]?=some v):
 ∃U:Nat→Prop,xP wr t v U∧(∀x,U x→x<wr.heap.size)∧ ∀w' t',xP w' t' v U→KQ U wr w'→Foc w0 w' b E arr0 o sz (ts.set j t') cs T:=by
 obtain⟨U,hu1,hu2,hu3⟩:=h.own.setRow hj hv
 refine⟨U,hu1,fun x hx=>Nat.lt_of_lt_of_le (h.tlt x (hu2 x hx)) h.chg.size,fun w' t' ho hc=>?_⟩
 obtain⟨arr,h1,h2,h3,h4⟩:=h.arr
 have hnb: ¬U b:=fun hx=>h.notin (hu2 b hx)
 exact⟨⟨arr,(hc.block b h1.lt hnb).trans h1,h2,h3,h4⟩,hu3 w' t' ho fun x hxl _ hn=>hc.block x hxl hn,h.chg.trans (hc.mono fun x hx=> .inr (hu2 x hx)),h.notin,h.len,h.fit,h.tlt,h.blt⟩
theorem xP.take{w:World}{sz:Nat}{es:List (List Tr)}{a:Option Addr}{n cap i:Nat}{S:Nat→Prop}{e:List Tr}(h:xP w (.row sz es) (.slice a n cap) S)(hi:es[i]?=some e)(hl: ∀x∈es,x.length=sz)(hsz:0<sz)(hS: ∀x,S x→x<w.heap.size):
 ∃b off E arr cs T,a=some ⟨b,off,none⟩∧Foc w w b E arr (off+i*sz) sz e cs T∧gP w e cs∧
  ∀w' cs' e',e'.length=sz→Foc w w' b E arr (off+i*sz) sz e' cs' T→xP w' (.row sz (es.set i e')) (.slice a n cap) S∧KQ S w w':=by
 obtain⟨b,off,E,arr,cs,T,rfl,hob,hsb,how,hT,hcl,hfit,hc,hback⟩:=h.focus hi hl
 refine⟨b,off,E,arr,cs,T,rfl,⟨⟨arr,hob,rfl,fun _ _=>rfl,fun j v hv=>hc j v hv⟩,how,KQ.refl _ _,fun hb=>(hT b hb).2 rfl,hcl,hfit hsz,fun x hx=>hS x (hT x hx).1,hob.lt⟩,how.rep,fun w' cs' e' he' hf=>?_⟩
 obtain⟨arr',h1,h2,h3,h4⟩:=hf.arr
 have hz:=hf.len
 have hfit:=hf.fit
 have harr:arr'=splice arr (off+i*sz) cs':=by
  apply Array.ext_getElem?
  intro q
  rw [C4 (by omega)]
  split
  ·rename_i hq
   exact h3 q (.inl hq)
  ·split
   ·rename_i hq1 hq2
    obtain⟨v,hv⟩: ∃v,cs'[q-(off+i*sz)]?=some v:=⟨cs'[q-(off+i*sz)]'(by omega),List.getElem?_eq_getElem _⟩
    rw [hv,← h4 _ v hv]
    congr 1;omega
   ·rename_i hq1 hq2
    exact h3 q (.inr (by omega))
 rw [harr] at h1
 have hch:KQ S w w':=hf.chg.mono fun x hx=>by rcases hx with rfl|hx;exact hsb;exact(hT x hx).1
 exact⟨hback w' cs' e' he' h1 hf.own (fun x hxl _ hne hnt=>hf.chg.block x hxl (by rintro(h|h);exact hne h;exact hnt h)) hf.fit,hch⟩
end Go.Proofs.YtpioomclpaiomaaGreat

namespace Go.Proofs.YtpioomclpaiomaaGreat
set_option linter.unusedSimpArgs false
set_option linter.unusedVariables false
open Go.RowKit Go.Proofs
theorem WF{α:Type}(p:α→Bool): ∀(l:List α) (i:Nat),(U2 p l i= -1∧ ∀x∈l,p x=false)∨ ∃k,∃h:k<l.length,U2 p l i=((i+k:Nat):Int)∧p l[k]=true∧ ∀x∈l.take k,p x=false
 | [],i=> .inl ⟨rfl,fun x hx=>by simp at hx⟩
 |a::l,i=>by
  rw [U2]
  cases ha:p a with
  |true=>exact .inr ⟨0,by simp,by simp,by simpa using ha,by simp⟩
  |false=>
   rcases WF p l (i+1) with⟨h1,h2⟩|⟨k,hk,h1,h2,h3⟩
   ·exact .inl ⟨by simpa using h1,fun x hx=>by
     rcases List.mem_cons.1 hx with rfl|hx
     ·exact ha
     ·exact h2 x hx⟩
   ·refine .inr ⟨k+1,by simpa using hk,?_,by simpa using h2,fun x hx=>?_⟩
    ·simp only [Bool.false_eq_true,if_false]
     rw [h1]
     congr 1
     omega
    ·rw [List.take_succ_cons] at hx
     rcases List.mem_cons.1 hx with rfl|hx
     ·exact ha
     ·exact h3 x hx
structure H4 {α:Type} (p:α→Bool) (l:List α) (i j:Nat) (dk:List α):Prop where
 len:dk.length=l.length
 lt:i<j
 low:dk.take i=(l.take j).filter (fun x=> !p x)
 high: ∀q,j≤q→dk[q]?=l[q]?
theorem H4.start{α:Type}{p:α→Bool}{l:List α}{k:Nat}(hk:k<l.length)(ht:p l[k]=true)(hf: ∀x∈l.take k,p x=false):H4 p l k (k+1) l:=by
 refine⟨rfl,by omega,?_,fun _ _=>rfl⟩
 rw [List.take_succ_eq_append_getElem hk,List.filter_append,List.filter_eq_self.2 (fun x hx=>by simp [hf x hx])]
 simp [ht]
theorem H4.keep{α:Type}{p:α→Bool}{l dk:List α}{i j:Nat}(h:H4 p l i j dk)(hj:j<l.length)(hp:p l[j]=false):H4 p l (i+1) (j+1) (dk.set i l[j]):=by
 have hl:=h.len
 have hlt:=h.lt
 refine⟨by simp [hl],by omega,?_,fun q hq=>?_⟩
 ·rw [List.take_succ_eq_append_getElem hj,List.filter_append,← h.low]
  rw [List.take_succ_eq_append_getElem (by simp;omega),List.take_set_of_le (Nat.le_refl _)]
  simp [hp]
 ·rw [List.getElem?_set_ne (by omega)]
  exact h.high q (by omega)
theorem H4.skip{α:Type}{p:α→Bool}{l dk:List α}{i j:Nat}(h:H4 p l i j dk)(hj:j<l.length)(hp:p l[j]=true):H4 p l i (j+1) dk:=by
 have hlt:=h.lt
 refine⟨h.len,by omega,?_,fun q hq=>h.high q (by omega)⟩
 rw [List.take_succ_eq_append_getElem hj,List.filter_append,← h.low]
 simp [hp]
theorem xP.head{w:World}{sz:Nat}{es:List (List Tr)}{a:Option Addr}{n cap i:Nat}{S:Nat→Prop}(h:xP w (.row sz es) (.slice a n cap) S)(hi:i≤es.length):xP w (.row sz (es.take i)) (.slice a i cap) S:=by
 cases h with
 |row c T h1 h2 h3 h4 h5 h6=>
  have hg: ∀q e,(es.take i)[q]?=some e→es[q]?=some e:=fun q e he=>by
   rw [List.getElem?_take] at he
   split at he
   ·exact he
   ·cases he
  have hl:(es.take i).length=i:=by simp;omega
  have:=xP.row (w:=w) (sz:=sz) (es:=es.take i) (a:=a) (cap:=cap) (S:=S) c T (by omega) h2 (fun hne=>by
   obtain⟨b,off,E,arr,ha,hob,hs,hc⟩:=h3 (fun h0=>hne (by rw [h0];simp))
   exact⟨b,off,E,arr,ha,hob,hs,fun q e he=>hc q e (hg q e he)⟩) (fun q e he=>h4 q e (hg q e he)) (fun q e he=>h5 q e (hg q e he)) (fun q e he j d hd q' e' he'=>h6 q e (hg q e he) j d hd q' e' (hg q' e' he'))
  rwa [hl] at this
theorem tT.flat{w0 w:World}{S:Nat→Prop}: ∀ {ts:List Tr} {cs:List Value},gP w0 ts cs→(∀d∈ts,∃v,d= .leaf v)→tT w ts cs S
 | [],cs,h,_=>by
  obtain rfl:=gP.nil_eq h
  exact tT.nil _ _
 |t::ts,cs,h,hf=>by
  obtain⟨v,rfl⟩:=hf t (by simp)
  cases cs with
  |nil=>exact h.elim
  |cons c cs=>
   obtain⟨rfl,hv⟩:=h.1.leaf_eq
   exact tT.cons_leaf hv (tT.flat h.2 fun d hd=>hf d (List.mem_cons_of_mem _ hd))
theorem SQ(x:aC): ∀d∈aC.tr x,∃v,d= .leaf v:=by
 obtain⟨a,b⟩:=x
 intro d hd
 simp only [aC.tr,List.mem_append,List.mem_singleton,List.not_mem_nil,or_false] at hd
 rcases hd with rfl|rfl
 ·exact⟨_,rfl⟩
 ·exact⟨_,rfl⟩
theorem U9{P:Program}(t e ty:TypeId)(z:Value)(ht:P.underlying t=some (.slice e))(hv: ∀w,(zeroValue e).run P w= .ok z w)(B off n c:Nat)(E:TypeId)(arr:Array Value)(w:World)(hob:OB w B E arr)(hn:0<n)(zs:List Value)(hz:(Builtin.zeroCells z.cells n).toList=zs)
 (hfit:off+zs.length≤arr.size) (h1: ∀v∈zs,v.oneCell'=true):(Builtin.clear_ #[t] ty #[.slice (some ⟨B,off,none⟩) n c]).run P w= .ok (.tuple #[]) (w.setRow B (splice arr off zs)):=by
 have hst:=run_storeCells_at P B off E zs 0 arr w hob (by simpa using hfit) h1
 simp only [Nat.add_zero] at hst
 obtain⟨m,rfl⟩: ∃m,n=m+1:=⟨n-1,by omega⟩
 simp [Builtin.clear_,run_underlying ht,hv,hz,hst,splice]
theorem xP.cellsSame{w w':World}{sz b off n cap:Nat}{es:List (List Tr)}{S:Nat→Prop}{E E':TypeId}{arr arr':Array Value}(h:xP w (.row sz es) (.slice (some ⟨b,off,none⟩) n cap) S)(hob:OB w b E arr)(hob':OB w' b E' arr')
 (hc: ∀q j,q<es.length→j<sz→arr'[off+q*sz+j]?=arr[off+q*sz+j]?) (hl: ∀e∈es,e.length=sz) (hf: ∀e∈es,∀d∈e,∃v,d= .leaf v):xP w' (.row sz es) (.slice (some ⟨b,off,none⟩) n cap) S:=by
 cases h with
 |row c T h1 h2 h3 h4 h5 h6=>
  refine .row c (fun _ _ _=>False) h1 h2 (fun hne=>?_) (fun i e he j d hd=>?_) (fun _ _ _ _ _ _ x hx=>hx.elim) (fun _ _ _ _ _ _ _ _ _ _ _ _ _ x hx=>hx.elim)
  ·obtain⟨b1,off1,E1,arr1,ha,ho,hs,hcc⟩:=h3 hne
   obtain⟨rfl,rfl⟩:b=b1∧off=off1:=by simpa using ha
   have he:arr1=arr∧E1=E:=by
    have:=ho.symm.trans hob
    simpa using this
   obtain⟨rfl,rfl⟩:=he
   refine⟨b,off,E',arr',rfl,hob',hs,fun i e he j d hd=>⟨?_,fun x hx=>hx.elim⟩⟩
   have hle:=hl e (List.mem_of_getElem? he)
   rw [hc i j (List.getElem?_eq_some_iff.1 he).1 (by rw [← hle];exact(List.getElem?_eq_some_iff.1 hd).1)]
   exact(hcc i e he j d hd).1
  ·obtain⟨v,rfl⟩:=hf e (List.mem_of_getElem? he) d (List.mem_of_getElem? hd)
   obtain⟨hv,hl⟩:=(h4 i e he j _ hd).rep.leaf_eq
   rw [hv]
   exact .leaf hl
theorem ag7(a b:Value)(n:Nat):(Builtin.zeroCells #[a,b] n).toList.length=n*2∧ ∀v∈(Builtin.zeroCells #[a,b] n).toList,v=a∨v=b:=by
 refine⟨by simp [Builtin.zeroCells],fun v hv=>?_⟩
 simp only [Builtin.zeroCells,Array.toList_map,List.mem_map] at hv
 obtain⟨i,_,rfl⟩:=hv
 have:i%2=0∨i%2=1:=by omega
 rcases this with h|h<;>simp [h]
set_option maxRecDepth 100000 in
set_option maxHeartbeats 2000000 in
theorem RT(l:List aC)(p:aC→Bool)(g:FuncId)(caps:Array Value)(hg: ∀(args:Array Value) (w:World),(callFunc g args).run Tryz.prog w= .ok (.enter g args) w)(s:Value)(w:World)(S:Nat→Prop)(hS: ∀x,S x→x<w.heap.size)
 (H: ∀x∈l,∀cs W,KQ S w W→gP W (aC.tr x) cs→Calls Tryz.prog g (#[.agg ⟨cs⟩]++caps) W fun e W'=>e= .returned (.bool (p x))∧s6 W W')
 (hs:xP w (.row 2 (l.map aC.tr)) s S):
 Calls Tryz.prog 72 #[s,.func (.func g) #[] caps] w fun e w'=> ∃v,e= .returned v∧KQ S w w'∧xP w' (.row 2 ((l.filter (fun x=> !p x)).map aC.tr)) v S:=by
 obtain⟨a,cap,rfl,hlc,hm⟩:=hs.rep.shape
 unfold maxLen at hm
 rw [List.length_map] at hlc
 rw [List.length_map] at hs ⊢
 have HS:=Lib.hid hs
 have HH:=Lib.hid H
 have HSS:=Lib.hid hS
 clear hs H hS
 go_enter Tryz.func72,Tryz.ntmps72
 go_wp2_with fail
 refine(U5 aC.tr p l g caps hg aC.tr_len _ _ (fun x hx cs w' hw hr=>HH.out x hx cs w' (.of_ext hw) hr) HS.out.rep).mono ?_;rintro e w1 ⟨rfl,hw1⟩
 have HW1:=Lib.hid hw1
 clear hw1
 rcases WF p l 0 with⟨e1,hall⟩|⟨k0,hk0,e1,ht,hall⟩
 ·have HA:=Lib.hid hall
  rw [e1]
  clear hall e1
  go_wp2_with fail
  go_ret
  refine⟨_,rfl,.of_ext HW1.out,?_⟩
  rw [List.filter_eq_self.2 (fun x hx=>by simp [HA.out x hx])]
  exact HS.out.ext HW1.out
 ·have HD:=Lib.hid (H4.start hk0 ht hall)
  rw [e1,Nat.zero_add]
  clear ht hall e1
  have hne: ¬((k0:Int)= -1):=by omega
  go_wp2_with fail
  go_loopw [5,6] (fun iv jv wr=> ∃(i j:Nat) (dk:List aC),iv= .int .i64 i∧jv= .int .i64 j∧i<j∧j≤l.length∧Hid (H4 p l i j dk)∧Hid (KQ S w wr)∧Hid (xP wr (.row 2 (dk.map aC.tr)) (.slice a l.length cap) S)) (fun _ jv _=>l.length-(intOf jv).toNat)
  case atStart=>exact⟨k0,k0+1,l,rfl,by go_num,by omega,by omega,HD.out,KQ.of_ext HW1.out,HS.out.ext HW1.out⟩
  case round=>
   obtain⟨i,j,dk,rfl,rfl,hij,hjl,HD1,HC1,HO1⟩:=hrel
   by_cases hlt:j<l.length
   ·have hdl:=HD1.out.len
    have hjd:dk[j]?=some l[j]:=by rw [HD1.out.high j (Nat.le_refl _)];exact List.getElem?_eq_getElem hlt
    obtain⟨b,off,cs,rfl,hb,hcs,hc⟩:=(HO1.out.rep).at2 (k:=j) (e:=aC.tr l[j]) (by rw [List.getElem?_map,hjd];rfl)
    have HM:=Lib.hid (List.getElem_mem hlt)
    have HCS:=Lib.hid hcs
    have HC:=Lib.hid hc
    have HCL:Hid (cs.length=2):=by rw [← hcs.length];exact aC.tr_len _
    have HI:Hid ((Tryz.prog.info? 45).map (·.size)=some cs.length):=by rw [HCL.out];exact anF
    have HDL:=Lib.hid hdl
    clear hcs hc hdl hjd
    go_wp2_with (first
     |(refine k8 rfl 45 (.tmp 24) rfl b (off+j*2) rfl cs _ Tryz.underlying45 HI.out HC.out ?_)
     |(refine q7 rfl 45 (.tmp 7) (.tmp 25) rfl wr.heap.size 0 rfl cs rfl 45 _ (OB.new wr _ _) HI.out (by rw [HCL.out];exact Nat.le_refl _) HCS.out.one ?_;intro w2 hob hgb hzb;rw [C5 (by rw [HCL.out];rfl)] at hob;have HOB:=Lib.hid hob;have HXB:=Lib.hid (M1 (.alloc (.refl wr) _) hgb (Nat.le_refl _));clear hob hgb hzb)
     |(refine k8 rfl 45 (.tmp 7) rfl wr.heap.size 0 rfl cs _ Tryz.underlying45 HI.out HOB.out.cells0 ?_))
    refine(HH.out _ HM.out cs w2 (HC1.out.trans (.of_ext HXB.out)) (HCS.out.ext HXB.out)).mono ?_;rintro e w3 ⟨rfl,hw3⟩
    have HW3:=Lib.hid (HXB.out.trans hw3)
    have HOB3:=Lib.hid (HOB.out.ext hw3)
    have HC3:=Lib.hid (HC1.out.trans (.of_ext HW3.out))
    have HO3:=Lib.hid (HO1.out.ext HW3.out)
    clear hw3
    cases hp:p l[j] with
    |true=>
     have HP:=Lib.hid hp
     clear hp
     go_wp2_with fail
     refine⟨⟨_,_,_,_,_,_,_,_,_,_,_,_,_,_,_,_,_,_,_,_,_,_,_,?rel,rfl⟩,?measure⟩
     case rel=>exact⟨i,j+1,dk,rfl,by go_num,by omega,by omega,HD1.out.skip hlt HP.out,HC3.out,HO3.out⟩
     case measure=>simp [intOf];omega
    |false=>
     have HP:=Lib.hid hp
     clear hp
     have hid:i<dk.length:=by have:=HDL.out;omega
     obtain⟨b2,off2,E0,arr0,cs0,T,hab,hob,hsb,how,hT,hcl,hfit,hcc,hback⟩:=HO3.out.focus (i:=i) (e:=aC.tr dk[i]) (by rw [List.getElem?_map,List.getElem?_eq_getElem hid];rfl) (by intro x hx;obtain⟨y,_,rfl⟩:=List.mem_map.1 hx;exact aC.tr_len _)
     obtain⟨rfl,rfl⟩:b=b2∧off=off2:=by simpa using hab
     have HOBb:=Lib.hid hob
     have HSB:=Lib.hid hsb
     have HBK:=Lib.hid hback
     have HFIT:=Lib.hid (hfit (by omega))
     clear hob hsb how hT hcl hfit hcc hback hab
     go_wp2_with (first
      |(refine k8 rfl 45 (.tmp 7) rfl wr.heap.size 0 rfl cs _ Tryz.underlying45 HI.out HOB3.out.cells0 ?_)
      |(refine q7 rfl 45 (.tmp 33) (.tmp 32) rfl b (off+i*2) rfl cs rfl E0 arr0 HOBb.out HI.out (by rw [HCL.out];exact HFIT.out) HCS.out.one ?_;intro w4 hob4 hg4 hz4;have HOB4:=Lib.hid hob4;have HG4:=Lib.hid hg4;clear hob4 hg4 hz4))
     refine⟨⟨_,_,_,_,_,_,_,_,_,_,_,_,_,_,_,_,_,_,_,_,_,_,_,?rel,rfl⟩,?measure⟩
     case rel=>
      refine⟨i+1,j+1,dk.set i l[j],by go_num,by go_num,by omega,by omega,HD1.out.keep hlt HP.out,HC3.out.trans (KQ.of_grown HG4.out HSB.out),?_⟩
      show xP _ _ _ _
      rw [List.map_set]
      exact HBK.out w4 cs _ (aC.tr_len _) HOB4.out (tT.flat HCS.out (SQ _)) (fun x hx _ hne _=>HG4.out.block x hx (by simpa using hne)) HFIT.out
     case measure=>simp [intOf];omega
   ·obtain rfl:j=l.length:=by omega
    have hdl:=HD1.out.len
    have hil:l.length-1<dk.length:=by omega
    obtain⟨b,off,E0,arr0,cs0,T,rfl,hob,hsb,how,hT,hcl,hfit,hcc,hback⟩:=HO1.out.focus (i:=l.length-1) (e:=aC.tr dk[l.length-1]) (by rw [List.getElem?_map,List.getElem?_eq_getElem hil];rfl) (by intro x hx;obtain⟨y,_,rfl⟩:=List.mem_map.1 hx;exact aC.tr_len _)
    have HOBb:=Lib.hid hob
    have HSB:=Lib.hid hsb
    have hfit2:=hfit (by omega)
    have hfz:off+i*2+(l.length-i)*2≤arr0.size:=by omega
    have HDL:=Lib.hid hdl
    clear hob hsb how hT hcl hfit hcc hback hil hfit2 hdl
    obtain⟨hzl,hzm⟩:=ag7 (.int .i64 0) (.int .i64 0) (l.length-i)
    have hz33: ∀w,(zeroValue 45).run Tryz.prog w= .ok (.agg #[.int .i64 0,.int .i64 0]) w:=fun w=>rfl
    have hcl: ∀ty,(Builtin.clear_ #[48] ty #[.slice (some ⟨b,off+i*2,none⟩) (l.length-i) (cap-i)]).run Tryz.prog wr= .ok (.tuple #[]) (wr.setRow b (splice arr0 (off+i*2) (Builtin.zeroCells #[.int .i64 0,.int .i64 0] (l.length-i)).toList)):=fun ty=>
     U9 48 45 ty (.agg #[.int .i64 0,.int .i64 0]) Tryz.underlying48 hz33 b (off+i*2) (l.length-i) (cap-i) E0 arr0 wr HOBb.out (by omega) _ rfl (by rw [hzl];exact hfz) (fun v hv=>by rcases hzm v hv with rfl|rfl<;>rfl)
    have HFZ:=Lib.hid hfz
    have HZL:=Lib.hid hzl
    clear hzm hz33 hfz hzl
    generalize(Builtin.zeroCells #[.int .i64 0,.int .i64 0] (l.length-i)).toList=zs at*
    go_wp2_with fail
    go_ret
    have hob5:OB (wr.setRow b (splice arr0 (off+i*2) zs)) b E0 (splice arr0 (off+i*2) zs):=setRow_heap wr b arr0 _ E0 _ HOBb.out
    refine⟨_,rfl,HC1.out.trans ?_,?_⟩
    ·exact⟨rfl,rfl,rfl,by simp,fun k _ hk=>setRow_other wr b k _ (fun e=>hk (by rw [e];exact HSB.out))⟩
    ·have hd:=HD1.out.low
     rw [List.take_length] at hd
     rw [← hd,List.map_take]
     have hh:=HO1.out.head (i:=i) (by have:=HDL.out;simp;omega)
     have:=HDL.out
     refine hh.cellsSame HOBb.out hob5 (fun q j hq hj=>?_) (fun e he=>?_) (fun e he=>?_)
     ·have hq2:q<i:=by rw [List.length_take] at hq;omega
      rw [C4 (by rw [HZL.out];exact HFZ.out),if_pos (by omega)]
     ·obtain⟨y,_,rfl⟩:=List.mem_map.1 (List.mem_of_mem_take he)
      exact aC.tr_len _
     ·obtain⟨y,_,rfl⟩:=List.mem_map.1 (List.mem_of_mem_take he)
      exact SQ _
end Go.Proofs.YtpioomclpaiomaaGreat

namespace Go.Proofs.YtpioomclpaiomaaGreat
set_option linter.unusedSimpArgs false
set_option linter.unusedVariables false
open Go.RowKit Go.WalkArith Go.IntWalk Go.WideShapes
theorem gQ.set{ok:Nat→Nat→Prop}{st:dK}{m:kD}{w:World}{q:PV}: ∀ {ps:List PV} {vs:List Value} {j:Nat},gQ ok st m w ps vs→(∀v,vs[j]?=some v→RV ok st m w q v)→gQ ok st m w (ps.set j q) vs
 | [],[],j,_,_=>by simp [gQ]
 |p::ps,v::vs,0,h,k=>⟨k v rfl,h.2⟩
 |p::ps,v::vs,j+1,h,k=>⟨h.1,gQ.set h.2 fun u hu=>k u (by simpa using hu)⟩
 | [],_::_,_,h,_=>h.elim
 |_::_,[],_,h,_=>h.elim
section
variable {P:Program} {C:q9} {n:Nat} {s:AS}
theorem Wk.regBox{k j:Nat}{bx:dO}(E sz:Nat)(hsz:0<sz)(hb:s.st.boxes[k]?=some (some bx))(hj:bx.cells[j]?=some .nil):
 Wk C n s ⟨s.env,(s.st.addRow ⟨E,sz,[],false⟩).setBox k ⟨bx.ty,bx.cells.set j (.acc sz [] s.st.rows.length)⟩⟩:=fun m a w h=>by
 have hE:=FN (row:=⟨E,sz,[],false⟩) h.sto
 have hS:=KM (row:=⟨E,sz,[],false⟩) h.sto hsz rfl
 have h1:=h.step hE hS
 have hb1:(s.st.addRow ⟨E,sz,[],false⟩).boxes[k]?=some (some bx):=hb
 obtain⟨vs,hob,hcs⟩:=hS.box k bx hb1
 have hc:gQ (lA C.av (s.st.addRow ⟨E,sz,[],false⟩) ⟨m.ρ,xM m.γ s.st.rows.length none⟩) (s.st.addRow ⟨E,sz,[],false⟩) ⟨m.ρ,xM m.γ s.st.rows.length none⟩ w (bx.cells.set j (.acc sz [] s.st.rows.length)) vs:=by
  refine gQ.set hcs fun v hv=>?_
  obtain⟨u,hu,hr⟩:=hcs.get hj
  rw [hv] at hu
  cases hu
  obtain rfl:=(show v=_ from hr)
  exact⟨⟨E,sz,[],false⟩,by show(s.st.rows++ [_])[s.st.rows.length]?=_;simp,rfl,Nat.le_refl _,cJ.nilRow _ _ _ _ (by unfold maxLen;omega),fun _=>by simp [cE,SR]⟩
 exact⟨_,h1.step (MX hS hb1 rfl rfl rfl rfl fun _ _=>rfl) (UE hS hb1 rfl rfl rfl rfl (fun _ _=>rfl) hob hc)⟩
end
end Go.Proofs.YtpioomclpaiomaaGreat

namespace Go.Proofs.YtpioomclpaiomaaGreat
open Go.RowKit Go.WalkArith Go.IntWalk Go.WideShapes
section
variable {P:Program} {C:q9} {n:Nat} {s:AS} {o:Oper}
theorem amV{T:TypeId}(hT:P.underlying T=some .bool)(a b:Bool)(w:World):(Op.equalIn Op.maxDepth T (.bool a) (.bool b)).run P w= .ok (a==b) w:=by
 unfold Op.maxDepth Op.equalIn
 simp [run_underlying hT]
theorem aV.neqB{T yT:TypeId}{x y:Operand}{a b:Bool}(ho:o.op= .binOp .neq T x y yT)(hd:bW o.dst n=true)(hx:s.ev x=some (.t (.leaf (.bool a))))(hy:s.ev y=some (.t (.leaf (.bool b))))(hT:P.underlying T=some .bool):
 aV P C n o s (s.putO o.dst (.t (.leaf (.bool (!decide (a=b)))))):=aV.bin ho hd hx hy (fun w=>by
  simp [eqGuard,binOp,Op.equal,amV hT]
  cases a<;>cases b<;>rfl) trivial
end
end Go.Proofs.YtpioomclpaiomaaGreat

namespace Go.Proofs.YtpioomclpaiomaaGreat
set_option linter.unusedSimpArgs false
set_option linter.unusedVariables false
open Go.RowKit Go.WalkArith Go.IntWalk Go.WideShapes
inductive LR (σ β:Type) where
 |next (s:σ)
 |brk (s:σ)
 |ret (x:β)
def sw{α:Type}(b:Bool)(x y:α):α:=match b with
 |true=>x
 |false=>y
theorem t1{α:Type}{b:Bool}{x y z:α}(h:b=true)(k:x=z):sw b x y=z:=by rw [h];exact k
theorem pK{α:Type}{b:Bool}{x y z:α}(h:b=false)(k:y=z):sw b x y=z:=by rw [h];exact k
def lt{α β:Type}(x:α)(f:α→β):β:=f x
theorem ltE{α β:Type}{x y:α}{f:α→β}{z:β}(h:y=x)(k:f y=z):lt x f=z:=by subst h;exact k
noncomputable def gd{α:Type}(p:Prop)(x:Option α):Option α:= @ite _ p (Classical.propDecidable p) x none
theorem s5{α:Type}{p:Prop}{x z:Option α}(h:p)(k:x=z):gd p x=z:=by unfold gd;rw [if_pos h];exact k
theorem gdF{α:Type}{p:Prop}{x:Option α}(h: ¬p):gd p x=none:=by unfold gd;rw [if_neg h]
def bd{α β:Type}(m:Option α)(f:α→Option β):Option β:=match m with
 |none=>none
 |some a=>f a
theorem rD{α β:Type}{m:Option α}{f:α→Option β}{a:α}{z:Option β}(h:m=some a)(k:f a=z):bd m f=z:=by rw [h];exact k
def so{σ β:Type}(m:Option (β⊕σ))(f:σ→Option β):Option β:=match m with
 |none=>none
 |some (.inl x)=>some x
 |some (.inr s)=>f s
theorem soR{σ β:Type}{m:Option (β⊕σ)}{f:σ→Option β}{s:σ}{z:Option β}(h:m=some (.inr s))(k:f s=z):so m f=z:=by rw [h];exact k
theorem soL{σ β:Type}{m:Option (β⊕σ)}{f:σ→Option β}{x:β}(h:m=some (.inl x)):so m f=some x:=by rw [h];rfl
def loopN{σ β:Type}(f:Nat→σ→Option (LR σ β)):Nat→Nat→σ→Option (β⊕σ)
 |0,_,s=>some (.inr s)
 |k+1,i,s=>match f i s with
  |none=>none
  |some (.next s')=>loopN f k (i+1) s'
  |some (.brk s')=>some (.inr s')
  |some (.ret x)=>some (.inl x)
def loopW{σ β:Type}(f:σ→Option (LR σ β)):Nat→σ→Option (β⊕σ)
 |0,_=>none
 |k+1,s=>match f s with
  |none=>none
  |some (.next s')=>loopW f k s'
  |some (.brk s')=>some (.inr s')
  |some (.ret x)=>some (.inl x)
section
variable {σ β:Type} {f:Nat→σ→Option (LR σ β)} {n i:Nat} {s s':σ} {x:β} {R:Option (β⊕σ)}
theorem yC(h:i<n)(hJ:R=loopN f (n-i) i s)(e:f i s=some (.next s')):R=loopN f (n-(i+1)) (i+1) s':=by
 rw [hJ,show n-i=(n-(i+1))+1 by omega,loopN,e]
theorem ai5(h:i<n)(hJ:R=loopN f (n-i) i s)(e:f i s=some (.brk s')):R=some (.inr s'):=by
 rw [hJ,show n-i=(n-(i+1))+1 by omega,loopN,e]
theorem ai8(h:i<n)(hJ:R=loopN f (n-i) i s)(e:f i s=some (.ret x)):R=some (.inl x):=by
 rw [hJ,show n-i=(n-(i+1))+1 by omega,loopN,e]
theorem ai6(h:n≤i)(hJ:R=loopN f (n-i) i s):R=some (.inr s):=by
 rw [hJ,show n-i=0 by omega,loopN]
end
section
variable {σ β:Type} {f:σ→Option (LR σ β)} {k:Nat} {s s':σ} {x:β} {R:Option (β⊕σ)}
end
section
variable {P:Program} {C:q9} {n:Nat} {s:AS} {Q:Exit→AS→Prop}
def QC(C:q9)(n:Nat)(Q:Exit→AS→Prop):Prop:= ∀e s s',Wk C n s s'→Q e s'→Q e s
def NC(C:q9)(n:Nat)(N:AS→Prop):Prop:= ∀s s',Wk C n s s'→N s'→N s
theorem ao8{c:Code}:NC C n (aO P C n c Q):=fun _ _ h k=>aO.weak h k
theorem aoJ{N:AS→Prop}(hn:NC C n N)(hq:QC C n Q):QC C n (adV N Q):=fun e s s' h k=>by
 cases e with
 |normal=>exact hn s s' h k
 |_=>exact hq _ s s' h k
theorem amT{id:Nat}(hq:QC C n Q):QC C n (vG id Q):=fun e s s' h k=>by
 cases e with
 |exit i=>
  simp only [vG] at k ⊢
  split
  ·rename_i hi;rw [if_pos hi] at k;exact hq _ s s' h k
  ·rename_i hi;rw [if_neg hi] at k;exact hq _ s s' h k
 |_=>exact hq _ s s' h k
theorem aoI{fn:Func}{R:PV→dK→Prop}:QC C n (zU P C n fn R):=fun e s s' h k=>⟨k.1,fun m a w hr=>by
 obtain⟨m',h'⟩:=h m a w hr
 exact k.2 m' a w h'⟩
end
end Go.Proofs.YtpioomclpaiomaaGreat

namespace Go.Proofs.YtpioomclpaiomaaGreat
set_option linter.unusedSimpArgs false
set_option linter.unusedVariables false
open Go.RowKit Go.WalkArith Go.IntWalk Go.WideShapes
section
variable {P:Program} {C:q9} {n:Nat} {s:AS} {o:Oper}
theorem aV.makeSlice{T E sz by_ N:Nat}{x y:Operand}(ho:o.op= .makeSlice T x y)(hd:bW o.dst n=true)(hx:s.ev x=some (.t (.leaf (.int .i64 (N:Int)))))(hy:s.ev y=some (.t (.leaf (.int .i64 (N:Int)))))
 (hT:elemOf? P T=some (E,sz,by_)) (hz:(P.info? E).bind (fun i=>i.zero.map (fun z=>z.cells.size))=some sz) (hsz:0<sz) (hb:by_*N≤281474976710656) (hN:N≤9223372036854775807):
 aV P C n o s ((⟨s.env,s.st.addRow ⟨E,sz,[],true⟩⟩:AS).putO o.dst (.full sz N s.st.rows.length)):=
 aV.run hd (s1:=⟨s.env,s.st.addRow ⟨E,sz,[],true⟩⟩) (fun m a w h=>by
  obtain⟨i,hu,hi,hs,hby⟩:=elemOf?.spec hT
  have h1:=(cJ.leaf_eq (h.eval hx)).1
  have h2:=(cJ.leaf_eq (h.eval hy)).1
  cases hzz:i.zero with
  |none=>simp [hi,hzz] at hz
  |some z=>
   have hb':(i.bytes:Int)*(N:Int)≤281474976710656:=by
    rw [hby]
    have:((by_*N:Nat):Int)≤281474976710656:=by omega
    rwa [Int.natCast_mul] at this
   have hr:=run_make (P:=P) w T E i z hu hi hzz .i64 .i64 N N (by omega) (Int.le_refl _) hb' (by omega)
   simp only [Int.toNat_natCast] at hr
   refine⟨.slice (some ⟨w.heap.size,0,none⟩) N N,⟨m.ρ,xM m.γ s.st.rows.length (some (w.heap.size,N))⟩,_,?_,MW (row:=⟨E,sz,[],true⟩) (c:=N) (cur:=madeCells z.cells (N*i.size)) h.sto,UD (row:=⟨E,sz,[],true⟩) h.sto hsz rfl (by rw [size_madeCells,hs]) (by unfold maxLen;omega),?_⟩
   ·unfold execOp
    simp only [ho,h1,h2,Sem.run_bind,hr,Result.andThen_ok]
    rfl
   ·exact⟨⟨E,sz,[],true⟩,w.heap.size,by show(s.st.rows++ [_])[s.st.rows.length]?=_;simp,rfl,rfl,cE _ _ _,rfl⟩) rfl
theorem aV.indexFull{T E sz by_ N r k:Nat}{x i:Operand}(ho:o.op= .indexAddr T x i)(hd:bW o.dst n=true)(hx:s.ev x=some (.full sz N r))(hi:s.ev i=some (.t (.leaf (.int .i64 (k:Int)))))(hk:k<N)(hT:elemOf? P T=some (E,sz,by_)):
 aV P C n o s (s.putO o.dst (.rptr r k)):=
 aV.quiet (dF hd) fun m a w h=>by
  obtain⟨row,g,h1,h2,h3,h4,h5⟩:=h.eval hx
  have h6:=(cJ.leaf_eq (h.eval hi)).1
  refine⟨.pointer (some ⟨g,0+k*sz,none⟩),?_,row,g,N,h1,h3,h4,by rw [h2,Nat.zero_add]⟩
  unfold execOp
  simp only [ho,h5,h6,Sem.run_bind,run_indexAt' hT hk,Result.andThen_ok]
  rfl
theorem aV.storeRptr{T sz N r k:Nat}{x y:Operand}{row:pO}{p:PV}{e:List Tr}{es2:List (List Tr)}(j:Nat)(ho:o.op= .store T x y)(hx:s.ev x=some (.rptr r k))(hf:s.lk j=some (.full sz N r))(hrow:s.st.rows[r]?=some row)(hy:s.ev y=some p)(ht:uH p=true)
 (hle:s7 (vR p) (e.map PV.t)) (hel:e.length=sz) (hflat:H9 (e.map PV.t)=true) (hT:(P.info? T).map (·.size)=some sz) (hk:k=row.es.length) (hkN:k<N) (he2:row.es++ [e]=es2):
 aV P C n o s ((⟨s.env,s.st.setRow r { row with es:=es2 }⟩:AS).delO o.dst):=
 aV.runU (s1:=⟨s.env,s.st.setRow r { row with es:=es2 }⟩) (fun m a w h=>by
  subst he2 hk
  obtain⟨vf,-,row0,g,q1,q2,q3,q4,q5⟩:=h.env j _ hf
  rw [hrow] at q1
  cases q1
  subst q2
  obtain⟨row1,g1,n1,p1,p3,p4,p5⟩:=h.eval hx
  rw [hrow] at p1
  cases p1
  rw [q4] at p4
  injection p4 with p4
  injection p4 with e1 e2
  subst e1 e2
  have hr:=s7.rv hle (FL (h.eval hy) (uH.ne ht))
  have hl:(a.eval y).cells.toList.length=row.sz:=by have:=hr.length;rw [List.length_map,hel] at this;exact this.symm
  obtain⟨hpos,hlens,hplace⟩:=h.sto.row r row hrow
  rcases hplace with⟨z1,-⟩|⟨g',c',cur,z1,hob,hcs,hfit,hmax,hrep⟩
  ·rw [q4] at z1;cases z1
  rw [q4] at z1
  injection z1 with z1
  injection z1 with e1 e2
  subst e1 e2
  have hfitc:row.es.length*row.sz+row.sz≤cur.size:=by
   rw [hcs]
   have:=Nat.mul_le_mul_right row.sz (Nat.succ_le_of_lt hkN)
   rwa [Nat.succ_mul] at this
  have hrun:=DB (P:=P) (T:=T) (d:=row.es.length*row.sz) (v:=a.eval y) hob (by rw [hT,← hl];simp) (by have hq:(a.eval y).cells.size=row.sz:=(by simpa using hl);omega) (H9.one hflat hr)
  have hsp: ∀q:Nat,q<row.es.length*row.sz→(splice cur (row.es.length*row.sz) (a.eval y).cells.toList)[q]?=cur[q]?:=fun q hq=>by
   unfold Go.Proofs.YtpioomclpaiomaaGreat.splice
   rw [List.getElem?_toArray,List.append_assoc,List.getElem?_append_left (by simp;omega),List.getElem?_take,if_pos hq,Array.getElem?_toList]
  have hG:RF C.av s.st m w r row [e] g N (splice cur (row.es.length*row.sz) (a.eval y).cells.toList) (w.setRow g (splice cur (row.es.length*row.sz) (a.eval y).cells.toList)):=by
   refine⟨hrow,rfl,rfl,rfl,by simp,fun b hb hne=>setRow_other w g b _ hne,setRow_heap w g cur _ _ _ hob,?_,by simp only [List.length_singleton];omega,hmax,fun e' he'=>?_,fun i e' hi j' d hd=>?_,fun i e' hi j' d hd=>?_,.inl ⟨N,cur,q4,hob,fun o ho=>hsp o ho⟩,fun _=>q4⟩
   ·unfold Go.Proofs.YtpioomclpaiomaaGreat.splice
    simp only [List.size_toArray,List.length_append,List.length_take,List.length_drop,Array.length_toList,hl]
    omega
   ·have:e'=e:=by simpa using he'
    rw [this];exact hel
   ·cases hrep with
    |row cf r1 r2 r3 r4=>
     obtain⟨b',off',hbo,hb',r5⟩:=r3 (by rintro e0;rw [e0] at hi;simp at hi)
     injection hbo with hbo
     injection hbo with e1 e2 e3
     subst e1 e2
     have hc:=(r5 i e' hi j' d hd).2
     rw [hob.cell,Nat.zero_add] at hc
     refine⟨cf i j',?_,r4 i e' hi j' d hd⟩
     have hi1:=dM hi
     have hj1:j'<row.sz:=by rw [← hlens e' (List.mem_of_getElem? hi)];exact dM hd
     have hlt:i*row.sz+j'<row.es.length*row.sz:=by
      have:(i+1)*row.sz≤row.es.length*row.sz:=Nat.mul_le_mul_right _ hi1
      rw [Nat.succ_mul] at this
      omega
     rw [hsp _ hlt];exact hc
   ·obtain⟨rfl,rfl⟩:i=0∧e'=e:=by
     rcases i with _|i
     ·simp at hi;exact⟨rfl,hi.symm⟩
     ·simp at hi
    obtain⟨v,hv,hrv⟩:=hr.get (j:=j') (p:= .t d) (by rw [List.getElem?_map,hd];rfl)
    refine⟨v,?_,hrv⟩
    have hjl:=dM hv
    unfold Go.Proofs.YtpioomclpaiomaaGreat.splice
    have htl:(cur.toList.take (row.es.length*row.sz)).length=row.es.length*row.sz:=by simp;omega
    rw [List.getElem?_toArray,Nat.add_zero,List.append_assoc,List.getElem?_append_right (by rw [htl];omega),htl,Nat.add_sub_cancel_left,List.getElem?_append_left hjl,hv]
  have hgm:xM m.γ r (some (g,N))=m.γ:=by
   funext q
   by_cases hqr:q=r
   ·subst hqr;rw [cE,q4]
   ·rw [eE hqr]
  refine⟨_,_,?_,hG.ev h.sto,hG.sto h.sto⟩
  unfold execOp
  simp only [ho,p5,Instr.storeAt,Instr.sureAddr,Sem.run_bind,Sem.run_pure,Result.andThen_ok,hrun]) rfl
theorem Wk.full{i E sz N r:Nat}{es:List (List Tr)}{b:Bool}(hx:s.lk i=some (.full sz N r))(hrow:s.st.rows[r]?=some ⟨E,sz,es,b⟩)(hl:es.length=N):Wk C n s (s.put i (.t (.row sz es))):=fun m a w h=>by
 refine⟨m,h.dfr,h.tsz,h.sto,fun j q hq=>?_,h.ev⟩
 rw [AS.lk_put] at hq
 split at hq
 ·rename_i e
  subst e
  cases hq
  obtain⟨v,hv,row,g,q1,q2,q3,q4,q5⟩:=h.env j _ hx
  refine⟨v,hv,?_⟩
  rw [hrow] at q1
  cases q1
  obtain⟨-,-,hplace⟩:=h.sto.row r _ hrow
  rcases hplace with⟨z1,-⟩|⟨g',c',cur,z1,hob,hcs,hfit,hmax,hrep⟩
  ·rw [q4] at z1;cases z1
  rw [q4] at z1
  injection z1 with z1
  injection z1 with e1 e2
  subst e1 e2
  subst q5
  show cJ _ _ (.row sz es) _
  have:cJ (lA C.av s.st m) w (.row sz es) (.slice (some ⟨g,0,none⟩) es.length N):=hrep
  rw [hl] at this
  exact this
 ·exact h.env j q hq
end
end Go.Proofs.YtpioomclpaiomaaGreat

namespace Go.Proofs.YtpioomclpaiomaaGreat
set_option linter.unusedSimpArgs false
set_option linter.unusedVariables false
open Go.RowKit Go.WalkArith Go.IntWalk Go.WideShapes
def B4(v:ByteArray)(k:Nat):UInt8:=(v[k]?).getD 0
section
variable {P:Program} {C:q9} {n:Nat} {s:AS} {o:Oper}
theorem apS(b:UInt8):rA (.int .u8 (b.toNat:Int)):=by
 have:=b.toNat_lt
 simp [rA,Lit.wf,IntKind.min,IntKind.max,IntKind.bits,IntKind.signed]
 omega
theorem aV.indexS{T:TypeId}{x i:Operand}{v:ByteArray}{k:Nat}(ho:o.op= .index T x i)(hd:bW o.dst n=true)(hx:s.ev x=some (.t (.leaf (.string v))))(hi:s.ev i=some (.t (.leaf (.int .i64 (k:Int)))))(hk:k<v.size)(hT:P.underlying T=some .string):
 aV P C n o s (s.putO o.dst (.t (.leaf (.int .u8 ((B4 v k).toNat:Int))))):=
 aV.quiet (dF hd) fun m a w h=>by
  have h1:=(cJ.leaf_eq (h.eval hx)).1
  have h2:=(cJ.leaf_eq (h.eval hi)).1
  refine⟨.int .u8 ((B4 v k).toNat:Int),?_,cJ.leaf (apS _)⟩
  have h3:v[k]?=some v[k]:=by simp [hk]
  unfold execOp
  simp [ho,h1,h2,Instr.index,asIntOf,run_underlying hT,h3,B4]
theorem aV.indexSI{T:TypeId}{x i:Operand}{v:ByteArray}{y:Int}(ho:o.op= .index T x i)(hd:bW o.dst n=true)(hx:s.ev x=some (.t (.leaf (.string v))))(hi:s.ev i=some (.t (.leaf (.int .i64 y))))(h0:0≤y)(hk:y.toNat<v.size)(hT:P.underlying T=some .string):
 aV P C n o s (s.putO o.dst (.t (.leaf (.int .u8 ((B4 v y.toNat).toNat:Int))))):=
 aV.indexS (k:=y.toNat) ho hd hx (by rw [hi,Int.toNat_of_nonneg h0]) hk hT
def OY(s:AS):Option Operand→Option Int
 |none=>some 0
 |some x=>match s.ev x with
  |some (.t (.leaf (.int .i64 y)))=>some y
  |_=>none
def zZ(s:AS)(len:Nat):Option Operand→Option Int
 |none=>some (len:Int)
 |some x=>match s.ev x with
  |some (.t (.leaf (.int .i64 y)))=>some y
  |_=>none
theorem aeL{m:kD}{a:Act}{w:World}(h:RA C n s m a w){x:Operand}{y:Int}(hx:s.ev x=some (.t (.leaf (.int .i64 y)))):a.eval x= .int .i64 y:=(cJ.leaf_eq (h.eval hx)).1
theorem OY.some'{x:Operand}{y:Int}(h:OY s (some x)=some y):s.ev x=some (.t (.leaf (.int .i64 y))):=by
 unfold OY at h
 simp only at h
 split at h
 ·rename_i z hz
  simp only [Option.some.injEq] at h
  rw [hz,h]
 ·cases h
theorem zZ.some'{x:Operand}{y:Int}{len:Nat}(h:zZ s len (some x)=some y):s.ev x=some (.t (.leaf (.int .i64 y))):=by
 unfold zZ at h
 simp only at h
 split at h
 ·rename_i z hz
  simp only [Option.some.injEq] at h
  rw [hz,h]
 ·cases h
theorem SS{m:kD}{a:Act}{w:World}(h:RA C n s m a w){isS:Bool}{len cap:Nat}{lo hi:Option Operand}{l k:Int}(hlen:len≤cap)(h1:OY s lo=some l)(h2:zZ s len hi=some k)(h3:0≤l)(h4:l≤k)(h5:k≤(len:Int)):
 (Instr.sliceBounds isS len cap (lo.map a.eval) (hi.map a.eval) none).run P w= .ok (l.toNat,k.toNat,cap) w:=by
 have hk:0≤k:=by omega
 have hkc:k≤(cap:Int):=by omega
 have hlk:l≤(k.toNat:Int):=by omega
 cases lo with
 |none=>
  simp only [OY,Option.some.injEq] at h1
  subst h1
  cases hi with
  |none=>
   simp only [zZ,Option.some.injEq] at h2
   subst h2
   simp [Instr.sliceBounds]
  |some y=>
   have e:=aeL h (zZ.some' h2)
   simp [Instr.sliceBounds,Instr.sliceBound,e,asIntOf,hk,hkc]
 |some x=>
  have e:=aeL h (OY.some' h1)
  cases hi with
  |none=>
   simp only [zZ,Option.some.injEq] at h2
   subst h2
   simp [Instr.sliceBounds,Instr.sliceBound,e,asIntOf,h3,h4]
  |some y=>
   have e2:=aeL h (zZ.some' h2)
   have hm:max k 0=k:=Int.max_eq_left hk
   simp [Instr.sliceBounds,Instr.sliceBound,e,e2,asIntOf,hk,hkc,h3,hlk,hm,h4]
   try omega
theorem aV.sliceS{T:TypeId}{x:Operand}{lo hi:Option Operand}{v:ByteArray}{l k:Int}(ho:o.op= .slice T x lo hi none)(hd:bW o.dst n=true)(hx:s.ev x=some (.t (.leaf (.string v))))(h1:OY s lo=some l)(h2:zZ s v.size hi=some k)(h3:0≤l∧l≤k∧k≤(v.size:Int))(hT:P.underlying T=some .string):
 aV P C n o s (s.putO o.dst (.t (.leaf (.string (v.extract l.toNat k.toNat))))):=
 aV.quiet (dF hd) fun m a w h=>by
  obtain⟨e,h6⟩:=cJ.leaf_eq (h.eval hx)
  have h6:v.size≤maxLen:=h6
  refine⟨.string (v.extract l.toNat k.toNat),?_,cJ.leaf ?_⟩
  ·have hb:=SS (P:=P) h (isS:=false) (Nat.le_refl v.size) h1 h2 h3.1 h3.2.1 h3.2.2
   unfold execOp
   simp [ho,e,Instr.sliceAt,Instr.slice,run_underlying hT,hb]
  ·show(v.extract l.toNat k.toNat).size≤maxLen
   rw [ByteArray.size_extract]
   omega
theorem cJ.part{ok:Nat→Nat→Prop}{w:World}{sz:Nat}{es:List (List Tr)}{a:Option Addr}{cap l k:Nat}(h:cJ ok w (.row sz es) (.slice a es.length cap))(h1:l≤k)(h2:k≤es.length):cJ ok w (.row sz ((es.take k).drop l)) (.slice (if cap=l then a else a.map (·.add (l*sz))) (k-l) (cap-l)):=by
 cases h with
 |row c q1 q2 q3 q4=>
  have hlen:((es.take k).drop l).length=k-l:=by simp;omega
  have hget: ∀(i:Nat) e,((es.take k).drop l)[i]?=some e→es[l+i]?=some e:=fun i e he=>by
   rw [List.getElem?_drop,List.getElem?_take] at he
   split at he
   ·exact he
   ·cases he
  have:=cJ.row (ok:=ok) (w:=w) (sz:=sz) (es:=(es.take k).drop l) (a:=if cap=l then a else a.map (·.add (l*sz))) (cap:=cap-l) (fun i j=>c (l+i) j) (by rw [hlen];omega) (by omega) (fun hne=>?_) (fun i e he j d hd=>q4 _ e (hget i e he) j d hd)
  ·rwa [hlen] at this
  ·have hkl:l<k:=by
    rcases Nat.lt_or_ge l k with h|h
    ·exact h
    ·exact absurd (List.length_eq_zero_iff.1 (by rw [hlen];omega)) hne
   obtain⟨b,off,rfl,hb,q5⟩:=q3 (by rintro rfl;simp at h2;omega)
   refine⟨b,off+l*sz,?_,hb,fun i e he j d hd=>?_⟩
   ·rw [if_neg (by omega)]
    have hadd:(⟨b,off,none⟩:Addr).add (l*sz)=⟨b,off+l*sz,none⟩:=by unfold Addr.add;split<;>simp_all
    simp [hadd]
   ·have:=q5 (l+i) e (hget i e he) j d hd
    rw [show off+l*sz+i*sz+j=off+(l+i)*sz+j by rw [Nat.add_mul];omega]
    exact this
theorem aV.sliceR{T E sz by_:Nat}{x:Operand}{lo hi:Option Operand}{p:PV}{es:List (List Tr)}{l k:Int}(ho:o.op= .slice T x lo hi none)(hd:bW o.dst n=true)(hx:s.ev x=some p)(hp:mZ p=some (sz,es))(h1:OY s lo=some l)(h2:zZ s es.length hi=some k)(h3:0≤l∧l≤k∧k≤(es.length:Int))(hT:elemOf? P T=some (E,sz,by_)):
 aV P C n o s (s.putO o.dst (.t (.row sz ((es.take k.toNat).drop l.toNat)))):=
 aV.quiet (dF hd) fun m a w h=>by
  have hr:=vJ hp (h.eval hx)
  obtain⟨i,hu,hi',hs,-⟩:=elemOf?.spec hT
  obtain⟨ad,cap,hv,hlc,hcm⟩:=hr.shape
  rw [hv] at hr
  refine⟨_,?_,hr.part (l:=l.toNat) (k:=k.toNat) (by omega) (by omega)⟩
  have hb:=SS (P:=P) h (isS:=true) hlc h1 h2 h3.1 h3.2.1 h3.2.2
  unfold execOp
  simp [ho,hv,Instr.sliceAt,Instr.slice,run_underlying hu,hb,Go.sizeOf,typeInfo,hi',hs]
theorem aV.eqlP{T yT:TypeId}{x y:Operand}{a b c d:Int}(ho:o.op= .binOp .eql T x y yT)(hd:bW o.dst n=true)(hx:s.ev x=some (.agg [.t (.leaf (.int .i64 a)),.t (.leaf (.int .i64 b))]))(hy:s.ev y=some (.agg [.t (.leaf (.int .i64 c)),.t (.leaf (.int .i64 d))]))
 (hg:P.eqGuardType P.depth T=false) (hq: ∀(a b c d:Int) (w:World),(Op.equalIn Op.maxDepth T (.agg #[.int .i64 a,.int .i64 b]) (.agg #[.int .i64 c,.int .i64 d])).run P w= .ok (decide (a=c)&&decide (b=d)) w):
 aV P C n o s (s.putO o.dst (.t (.leaf (.bool (decide (a=c)&&decide (b=d)))))):=
 aV.quiet (dF hd) fun m ac w h=>by
  obtain⟨vs,h1,h2⟩:=h.eval hx
  obtain⟨us,k1,k2⟩:=h.eval hy
  obtain⟨v0,v1,rfl⟩: ∃v0 v1,vs= [v0,v1]:=by
   have:=h2.length
   match vs,this with
   | [v0,v1],_=>exact⟨v0,v1,rfl⟩
  obtain⟨u0,u1,rfl⟩: ∃v0 v1,us= [v0,v1]:=by
   have:=k2.length
   match us,this with
   | [v0,v1],_=>exact⟨v0,v1,rfl⟩
  obtain⟨rfl,-⟩:=cJ.leaf_eq h2.1
  obtain⟨rfl,-⟩:=cJ.leaf_eq h2.2.1
  obtain⟨rfl,-⟩:=cJ.leaf_eq k2.1
  obtain⟨rfl,-⟩:=cJ.leaf_eq k2.2.1
  refine⟨.bool (decide (a=c)&&decide (b=d)),?_,cJ.leaf trivial⟩
  unfold execOp
  simp [ho,h1,k1,eqGuard,hg,binOp,Op.equal,hq]
theorem aV.neqP{T yT:TypeId}{x y:Operand}{a b c d:Int}(ho:o.op= .binOp .neq T x y yT)(hd:bW o.dst n=true)(hx:s.ev x=some (.agg [.t (.leaf (.int .i64 a)),.t (.leaf (.int .i64 b))]))(hy:s.ev y=some (.agg [.t (.leaf (.int .i64 c)),.t (.leaf (.int .i64 d))]))
 (hg:P.eqGuardType P.depth T=false) (hq: ∀(a b c d:Int) (w:World),(Op.equalIn Op.maxDepth T (.agg #[.int .i64 a,.int .i64 b]) (.agg #[.int .i64 c,.int .i64 d])).run P w= .ok (decide (a=c)&&decide (b=d)) w):
 aV P C n o s (s.putO o.dst (.t (.leaf (.bool (!(decide (a=c)&&decide (b=d))))))):=
 aV.quiet (dF hd) fun m ac w h=>by
  obtain⟨vs,h1,h2⟩:=h.eval hx
  obtain⟨us,k1,k2⟩:=h.eval hy
  obtain⟨v0,v1,rfl⟩: ∃v0 v1,vs= [v0,v1]:=by
   have:=h2.length
   match vs,this with
   | [v0,v1],_=>exact⟨v0,v1,rfl⟩
  obtain⟨u0,u1,rfl⟩: ∃v0 v1,us= [v0,v1]:=by
   have:=k2.length
   match us,this with
   | [v0,v1],_=>exact⟨v0,v1,rfl⟩
  obtain⟨rfl,-⟩:=cJ.leaf_eq h2.1
  obtain⟨rfl,-⟩:=cJ.leaf_eq h2.2.1
  obtain⟨rfl,-⟩:=cJ.leaf_eq k2.1
  obtain⟨rfl,-⟩:=cJ.leaf_eq k2.2.1
  refine⟨.bool (!(decide (a=c)&&decide (b=d))),?_,cJ.leaf trivial⟩
  unfold execOp
  simp [ho,h1,k1,eqGuard,hg,binOp,Op.equal,hq]
end
end Go.Proofs.YtpioomclpaiomaaGreat

namespace Go.Proofs.YtpioomclpaiomaaGreat
open Go.RowKit Go.Proofs
theorem amW(a b:Int)(d:Nat)(w:World):(Op.equalIn (d+1) 3 (.int .i64 a) (.int .i64 b)).run Tryz.prog w= .ok (a==b) w:=by
 unfold Op.equalIn
 simp [run_underlying Tryz.underlying3]
theorem am4:Tryz.prog.stoodInHeld 45=false:=by kernel_rfl
theorem akX:Tryz.prog.eqGuardType Tryz.prog.depth 45=false:=by kernel_rfl
theorem akY(a b c d:Int)(w:World):(Op.equalIn Op.maxDepth 45 (.agg #[.int .i64 a,.int .i64 b]) (.agg #[.int .i64 c,.int .i64 d])).run Tryz.prog w= .ok (decide (a=c)&&decide (b=d)) w:=by
 show(Op.equalIn (9998+1+1) 45 _ _).run Tryz.prog w=_
 rw [Op.equalIn]
 have h3:=F0 kZ
 have h4:=run_sizeOf' kZ
 simp [run_underlying Tryz.underlying45,am4,part,h3,h4,amW]
 by_cases h1:a=c<;>by_cases h2:b=d<;>simp [h1,h2]
end Go.Proofs.YtpioomclpaiomaaGreat

namespace Go.Proofs.YtpioomclpaiomaaGreat
set_option linter.unusedSimpArgs false
set_option linter.unusedVariables false
open Go.RowKit Go.WalkArith Go.IntWalk Go.WideShapes
instance:Inhabited ByteArray:=⟨⟨#[]⟩⟩
def bB{α:Type}[Inhabited α](l:List α)(k:Nat):α:=(l[k]?).getD default
theorem kU{α:Type}[Inhabited α]{l:List α}{k:Nat}(h:k<l.length):bB l k=l[k]:=by simp [bB,h]
theorem akB{l:List ByteArray}{k:Nat}(h:k<l.length):(aX l)[k]?=some [.leaf (.string (bB l k))]:=by rw [kU h];exact WY h
theorem ai2{l:List Int}{k:Nat}(h:k<l.length):(tF l)[k]?=some [.leaf (.int .i64 (bB l k))]:=by rw [kU h];exact ai3 h
theorem aeH{l:List UInt8}{k:Nat}(h:k<l.length):(cW l)[k]?=some [.leaf (.int .u8 ((bB l k).toNat:Int))]:=by rw [kU h];exact xR h
theorem zE{a b c:Nat}(h:a+b≤68719476736)(hc:c≤2048):(a+b)*c≤140737488355328:=by
 have:=Nat.mul_le_mul h hc
 omega
theorem abI{a c:Nat}(h:a≤68719476736)(hc:c≤2048):a*c≤140737488355328:=by
 have:=Nat.mul_le_mul h hc
 omega
theorem adU(l:List ByteArray)(a b:Nat):((aX l).take b).drop a=aX ((l.take b).drop a):=by simp [aX,List.map_drop,List.map_take]
theorem aV.congrP{P:Program}{C:q9}{n:Nat}{s:AS}{o:Oper}{sz:Nat}{es es':List (List Tr)}(h:aV P C n o s (s.putO o.dst (.t (.row sz es))))(e:es=es'):aV P C n o s (s.putO o.dst (.t (.row sz es'))):=e ▸ h
theorem yF{a b:Nat}(h:decide ((a:Int)<(b:Int))=true):a<b:=bF h
theorem yE{a b:Nat}(h:decide ((a:Int)<(b:Int))=false):b≤a:=ajA h
theorem aeV{a:Nat}{b:Int}(h:decide ((a:Int)<b)=true):a<b.toNat:=by have:=of_decide_eq_true h;omega
theorem aeU{a:Nat}{b:Int}(h:decide ((a:Int)<b)=false):b.toNat≤a:=by have:=of_decide_eq_false h;omega
def qE(s:dK)(fb0 fr0:List Nat)(pre:dK):List Nat→List (Option dO)→Prop
 | [],[]=>True
 |k::fb,some x::bs=>(∃y,s.boxes[k]?=some (some y)∧y.ty=x.ty∧s7 y.cells (CM fb0 fr0 x.cells)∧mY pre x.cells=true)∧qE s fb0 fr0 pre fb bs
 |_,_=>False
def s8(s:dK):List Nat→List pO→Prop
 | [],[]=>True
 |r::fr,row::rs=>s.rows[r]?=some row∧s8 s fr rs
 |_,_=>False
theorem qE.len{s pre:dK}{fb0 fr0:List Nat}: ∀ {fb:List Nat} {bs:List (Option dO)},qE s fb0 fr0 pre fb bs→fb.length=bs.length
 | [],[],_=>rfl
 |_::_,some _::_,h=>by simp [qE.len h.2]
 |_::_,none::_,h=>h.elim
 | [],_::_,h=>h.elim
 |_::_,[],h=>h.elim
theorem qE.get{s pre:dK}{fb0 fr0:List Nat}: ∀ {fb:List Nat} {bs:List (Option dO)},qE s fb0 fr0 pre fb bs→ ∀k,k<bs.length→ ∃x,bs[k]?=some (some x)∧ ∃y,s.boxes[fb.getD k 0]?=some (some y)∧y.ty=x.ty∧s7 y.cells (CM fb0 fr0 x.cells)∧mY pre x.cells=true
 | [],[],_,k,h=>by simp at h
 |_::_,some x::_,h,0,_=>⟨x,rfl,h.1⟩
 |_::_,some _::_,h,k+1,hk=>by simpa using qE.get h.2 k (by simpa using hk)
 |_::_,none::_,h,_,_=>h.elim
 | [],_::_,h,_,_=>h.elim
 |_::_,[],h,_,_=>h.elim
theorem s8.len{s:dK}: ∀ {fr:List Nat} {rs:List pO},s8 s fr rs→fr.length=rs.length
 | [],[],_=>rfl
 |_::_,_::_,h=>by simp [s8.len h.2]
 | [],_::_,h=>h.elim
 |_::_,[],h=>h.elim
theorem s8.get{s:dK}: ∀ {fr:List Nat} {rs:List pO},s8 s fr rs→ ∀k row,rs[k]?=some row→s.rows[fr.getD k 0]?=some row
 | [],[],_,k,_,h=>by simp at h
 |_::_,_::_,h,0,row,hr=>by simp at hr;subst hr;exact h.1
 |_::_,_::_,h,k+1,row,hr=>by simpa using s8.get h.2 k row (by simpa using hr)
 | [],_::_,h,_,_,_=>h.elim
 |_::_,[],h,_,_,_=>h.elim
theorem l6.of{s pre:dK}{fb fr:List Nat}(hb:qE s fb fr pre fb pre.boxes)(hr:s8 s fr pre.rows)(n1:fb.Nodup)(n2:fr.Nodup):l6 s pre fb fr where
 fbl:=hb.len
 frl:=hr.len
 fbn:=n1
 frn:=n2
 all:=fun k hk=>by
  obtain⟨x,hx,-⟩:=hb.get k hk
  exact⟨x,hx⟩
 box:=fun k x hx=>by
  obtain⟨x',hx',h⟩:=hb.get k (List.getElem?_eq_some_iff.1 hx).1
  rw [hx] at hx'
  cases hx'
  exact h
 row:=hr.get
section
variable {P:Program} {C:q9} {n:Nat} {s:AS} {o:Oper}
theorem aV.callVPE{y:Operand}{f:FuncId}{fn:Func}{xs:List Operand}{ts:Array TypeId}{ps cs qs:List PV}{res:PV}{pre st' S:dK}(fb fr:List Nat)(ho:o.op= .call { callee:= .value y,args:=⟨xs⟩,argTypes:=ts })(hd:bW o.dst n=true)(hy:s.ev y=some (.fn f cs))(hf:P.funcs[f]?=some fn)(hnm:(fn.name== "runtime.NumGoroutine")=false)(hb:fn.body.isNone=false)
 (hx:xs.map s.ev=ps.map some) (hS:s.st=S) (hp:l6 S pre fb fr) (hle:s7 (ps++cs) (CM fb fr qs)) (hok:mY pre qs=true) (hbl:st'.boxes.length=pre.boxes.length) (hrl:st'.rows.length=pre.rows.length) (hc:cP P f qs pre (fun r t=>r=res∧t=st')):
 aV P C n o s ((⟨s.env,S.over st' fb fr⟩:AS).putO o.dst (PV.ren fb fr res)):=by
 subst hS
 exact aV.enterP fb fr hd (fun m a w h=>by
  obtain⟨vs,h1,h2⟩:=h.eval hy
  refine⟨xs.map a.eval++vs,?_,gQ.append (evL h hx) h2⟩
  have hcf:=iX (P:=P) hf hnm hb
  unfold execOp
  simp only [ho]
  simp [resolve,invoke,Deferred.ofValue,h1,hcf]) hp hle hok hbl hrl hc
theorem AL.skipP{ops:Array Oper}{rest:List Oper}{Q:Exit→AS→Prop}{j d:Nat}{b c e:Bool}(hg:o.guard=some (j,c))(hj:(ops[j]?).bind (·.dst)=some d)(hb:s.lk d=some (.t (.leaf (.bool b))))(hv:b=e)(hne:(e==c)=false)(hd:bW o.dst n=true)(h:AL P C n ops rest Q (s.putO o.dst (.tup []))):AL P C n ops (o::rest) Q s:=fun m a w hr=>
 wpList_step fun K hK=>by
  subst hv
  rw [if_neg (by simpa [Region.wanted,hg,hr.yielded hj hb] using hne)]
  exact hK _ _ (h m _ w (hr.put (dF hd) ⟨[],rfl,trivial⟩))
theorem AL.skipU{ops:Array Oper}{rest:List Oper}{Q:Exit→AS→Prop}{j d:Nat}{c:Bool}(hg:o.guard=some (j,c))(hj:(ops[j]?).bind (·.dst)=some d)(hb:s.lk d=some (.tup []))(hd:bW o.dst n=true)(h:AL P C n ops rest Q (s.putO o.dst (.tup []))):AL P C n ops (o::rest) Q s:=fun m a w hr=>
 wpList_step fun K hK=>by
  have hy:yielded ops a.tmps j=none:=by
   obtain⟨v,hv,vs,rfl,hl⟩:=hr.env d _ hb
   simp [Go.yielded,hj,hv]
  rw [if_neg (by simp [Region.wanted,hg,hy])]
  exact hK _ _ (h m _ w (hr.put (dF hd) ⟨[],rfl,trivial⟩))
theorem aV.buildSliceE{T E sz by_ len:Nat}{parts:Array (Nat×Operand)}{ps:List (Nat×List PV)}{zs cs:List PV}{es es':List (List Tr)}(ho:o.op= .buildSlice T len parts)(hd:bW o.dst n=true)(hT:elemOf? P T=some (E,sz,by_))(hz:c7 P E=some zs)(hp:pA s parts.toList=some ps)
 (hc:tY (fun i=>some (i*sz,sz)) (List.replicate len zs).flatten ps=some cs) (hle:s7 cs (es.flatten.map PV.t)) (hel:es.length=len) (hes: ∀e∈es,e.length=sz) (hsz:0<sz) (hzl:zs.length=sz) (hsm:len*sz≤16777216) (he:es=es'):
 aV P C n o s (s.putO o.dst (.t (.row sz es'))):=he ▸ aV.buildSliceQ ho hd hT hz hp hc hle hel hes hsz hzl hsm
theorem aV.buildSliceA{T E sz by_ len:Nat}{parts:Array (Nat×Operand)}{ps:List (Nat×List PV)}{zs cs:List PV}{es es':List (List Tr)}(ho:o.op= .buildSlice T len parts)(hd:bW o.dst n=true)(hT:elemOf? P T=some (E,sz,by_))(hz:c7 P E=some zs)(hp:pA s parts.toList=some ps)
 (hc:tY (fun i=>some (i*sz,sz)) (List.replicate len zs).flatten ps=some cs) (hle:s7 cs (es.flatten.map PV.t)) (hel:es.length=len) (hes: ∀e∈es,e.length=sz) (hsz:0<sz) (hzl:zs.length=sz) (hsm:len*sz≤16777216) (he:es=es'):
 aV P C n o s ((⟨s.env,s.st.addRow ⟨E,sz,es',false⟩⟩:AS).putO o.dst (.acc sz es' s.st.rows.length)):=he ▸ aV.buildSlice ho hd hT hz hp hc hle hel hes hsz hzl hsm
end
theorem eX{C:q9}{bs:List (Option dO)}{rs:List pO}{S:dK}(h:C.st=⟨bs,rs⟩)(hb: ∀k,k<bs.length→ ∃y,S.boxes[k]?=some (some y))(hl:rs.length≤S.rows.length):mI C.st S:=by
 rw [h]
 exact⟨fun k x hx=>hb k (List.getElem?_eq_some_iff.1 hx).1,fun k row hk=>⟨S.rows[k]'(Nat.lt_of_lt_of_le (List.getElem?_eq_some_iff.1 hk).1 hl),List.getElem?_eq_getElem _⟩⟩
theorem lD{S:dK}{x:dO}{bs:List (Option dO)}(h:S.boxes=some x::bs): ∀k,k<1→ ∃y,S.boxes[k]?=some (some y):=fun k hk=>by
 obtain rfl:k=0:=by omega
 exact⟨x,by rw [h];rfl⟩
theorem an4{S:dK}{x y:dO}{bs:List (Option dO)}(h:S.boxes=some x::some y::bs): ∀k,k<2→ ∃y,S.boxes[k]?=some (some y):=fun k hk=>by
 rcases(by omega:k=0∨k=1) with rfl|rfl
 ·exact⟨x,by rw [h];rfl⟩
 ·exact⟨y,by rw [h];rfl⟩
theorem an5{S:dK}{x y z:dO}{bs:List (Option dO)}(h:S.boxes=some x::some y::some z::bs): ∀k,k<3→ ∃y,S.boxes[k]?=some (some y):=fun k hk=>by
 rcases(by omega:k=0∨k=1∨k=2) with rfl|rfl|rfl
 ·exact⟨x,by rw [h];rfl⟩
 ·exact⟨y,by rw [h];rfl⟩
 ·exact⟨z,by rw [h];rfl⟩
theorem an3{S:dK}: ∀k,k<0→ ∃y,S.boxes[k]?=some (some y):=fun k hk=>absurd hk (Nat.not_lt_zero _)
instance:Inhabited aC:=⟨.mk 0 0⟩
theorem aC.trs_at{l:List aC}{k:Nat}(h:k<l.length):(aC.trs l)[k]?=some (bB l k).cs:=by rw [kU h];exact aC.trs_cs h
instance:Inhabited aB:=⟨.mk ⟨#[]⟩ []⟩
theorem aB.trs_part(l:List aB)(a b:Nat):((aB.trs l).take b).drop a=aB.trs ((l.take b).drop a):=by rw [aB.trs_map,aB.trs_map,List.map_drop,List.map_take]
theorem aB.trs_at{l:List aB}{k:Nat}(h:k<l.length):(aB.trs l)[k]?=some (bB l k).cs:=by rw [kU h];exact aB.trs_cs h
instance:Inhabited aA:=⟨.mk 0 ⟨#[]⟩ []⟩
theorem aA.trs_part(l:List aA)(a b:Nat):((aA.trs l).take b).drop a=aA.trs ((l.take b).drop a):=by rw [aA.trs_map,aA.trs_map,List.map_drop,List.map_take]
theorem aA.trs_at{l:List aA}{k:Nat}(h:k<l.length):(aA.trs l)[k]?=some (bB l k).cs:=by rw [kU h];exact aA.trs_cs h
instance:Inhabited aL:=⟨.mk ⟨#[]⟩ default⟩
theorem aL.trs_at{l:List aL}{k:Nat}(h:k<l.length):(aL.trs l)[k]?=some (bB l k).cs:=by rw [kU h];exact aL.trs_cs h
instance:Inhabited aH:=⟨.mk 0 ⟨#[]⟩ ⟨#[]⟩ 0 default [] []⟩
theorem aH.trs_at{l:List aH}{k:Nat}(h:k<l.length):(aH.trs l)[k]?=some (bB l k).cs:=by rw [kU h];exact aH.trs_cs h
instance:Inhabited bM:=⟨.mk ⟨#[]⟩ [] default⟩
theorem bM.trs_at{l:List bM}{k:Nat}(h:k<l.length):(bM.trs l)[k]?=some (bB l k).cs:=by rw [kU h];exact bM.trs_cs h
instance:Inhabited aE:=⟨.mk ⟨#[]⟩ [] default false [] default⟩
theorem aE.trs_at{l:List aE}{k:Nat}(h:k<l.length):(aE.trs l)[k]?=some (bB l k).cs:=by rw [kU h];exact aE.trs_cs h
instance:Inhabited aU:=⟨.mk ⟨#[]⟩ [] false false []⟩
theorem aU.trs_at{l:List aU}{k:Nat}(h:k<l.length):(aU.trs l)[k]?=some (bB l k).cs:=by rw [kU h];exact aU.trs_cs h
instance:Inhabited aD:=⟨.mk ⟨#[]⟩ []⟩
theorem aD.trs_part(l:List aD)(a b:Nat):((aD.trs l).take b).drop a=aD.trs ((l.take b).drop a):=by rw [aD.trs_map,aD.trs_map,List.map_drop,List.map_take]
theorem aD.trs_at{l:List aD}{k:Nat}(h:k<l.length):(aD.trs l)[k]?=some (bB l k).cs:=by rw [kU h];exact aD.trs_cs h
instance:Inhabited aM:=⟨.mk ⟨#[]⟩ [] []⟩
theorem aM.trs_at{l:List aM}{k:Nat}(h:k<l.length):(aM.trs l)[k]?=some (bB l k).cs:=by rw [kU h];exact aM.trs_cs h
instance:Inhabited aI:=⟨.mk ⟨#[]⟩ default⟩
theorem aI.trs_at{l:List aI}{k:Nat}(h:k<l.length):(aI.trs l)[k]?=some (bB l k).cs:=by rw [kU h];exact aI.trs_cs h
instance:Inhabited aN:=⟨.mk ⟨#[]⟩ [] default⟩
theorem aN.trs_at{l:List aN}{k:Nat}(h:k<l.length):(aN.trs l)[k]?=some (bB l k).cs:=by rw [kU h];exact aN.trs_cs h
instance:Inhabited aG:=⟨.mk ⟨#[]⟩ [] default [] false false default []⟩
theorem aG.trs_at{l:List aG}{k:Nat}(h:k<l.length):(aG.trs l)[k]?=some (bB l k).cs:=by rw [kU h];exact aG.trs_cs h
instance:Inhabited aR:=⟨.mk ⟨#[]⟩ default⟩
theorem aR.trs_at{l:List aR}{k:Nat}(h:k<l.length):(aR.trs l)[k]?=some (bB l k).cs:=by rw [kU h];exact aR.trs_cs h
instance:Inhabited aK:=⟨.mk ⟨#[]⟩ [] [] [] default default⟩
theorem aK.trs_at{l:List aK}{k:Nat}(h:k<l.length):(aK.trs l)[k]?=some (bB l k).cs:=by rw [kU h];exact aK.trs_cs h
instance:Inhabited aJ:=⟨.mk ⟨#[]⟩ [] [] [] [] []⟩
theorem aJ.trs_at{l:List aJ}{k:Nat}(h:k<l.length):(aJ.trs l)[k]?=some (bB l k).cs:=by rw [kU h];exact aJ.trs_cs h
instance:Inhabited aP:=⟨.mk []⟩
theorem aP.trs_at{l:List aP}{k:Nat}(h:k<l.length):(aP.trs l)[k]?=some (bB l k).cs:=by rw [kU h];exact aP.trs_cs h
instance:Inhabited eV:=⟨.mk 0 0 default []⟩
instance:Inhabited bG:=⟨.mk default 0 []⟩
theorem bG.trs_at{l:List bG}{k:Nat}(h:k<l.length):(bG.trs l)[k]?=some (bB l k).cs:=by rw [kU h];exact bG.trs_cs h
instance:Inhabited cT:=⟨.mk ⟨#[]⟩ 0 0 0 false⟩
instance:Inhabited o9:=⟨.mk [] [] []⟩
end Go.Proofs.YtpioomclpaiomaaGreat

namespace Go.Proofs.YtpioomclpaiomaaGreat
set_option linter.unusedSimpArgs false
set_option linter.unusedVariables false
open Go.RowKit Go.WalkArith Go.IntWalk Go.WideShapes
section
variable {P:Program} {C:q9} {n:Nat} {s:AS} {o:Oper}
theorem aV.buildSliceB{T E sz by_ len:Nat}{parts:Array (Nat×Operand)}{ps:List (Nat×List PV)}{zs cs:List PV}(ho:o.op= .buildSlice T len parts)(hd:bW o.dst n=true)(hT:elemOf? P T=some (E,sz,by_))(hz:c7 P E=some zs)(hp:pA s parts.toList=some ps)
 (hc:tY (fun i=>some (i*sz,sz)) (List.replicate len zs).flatten ps=some cs) (hcl:cs.length=len*sz) (hsz:0<sz) (hzl:zs.length=sz) (hsm:len*sz≤16777216):
 aV P C n o s ((⟨s.env,s.st.addBox ⟨E,cs⟩⟩:AS).putO o.dst (.bsl s.st.boxes.length len)):=
 aV.run hd (s1:=⟨s.env,s.st.addBox ⟨E,cs⟩⟩) (fun m a w h=>by
  obtain⟨us,h1,h2,h3⟩:=aV.buildSlice_run ho hT hz hp hc hcl hsz hzl hsm h
  exact⟨_,_,_,h1,FM (x:=⟨E,cs⟩),KL (x:=⟨E,cs⟩) h.sto h2,⟨⟨E,cs⟩,by simp [dK.addBox]⟩,by simp [cE]⟩) rfl
theorem aV.buildSliceLE{T E sz by_ len:Nat}{parts:Array (Nat×Operand)}{ps:List (Nat×List PV)}{zs cs:List PV}{es es':List (List Tr)}(ho:o.op= .buildSlice T len parts)(hd:bW o.dst n=true)(hT:elemOf? P T=some (E,sz,by_))(hz:c7 P E=some zs)(hp:pA s parts.toList=some ps)
 (hc:tY (fun i=>some (i*sz,sz)) (List.replicate len zs).flatten ps=some cs) (hle:s7 cs (es.flatten.map PV.t)) (hel:es.length=len) (hes: ∀e∈es,e.length=sz) (hsz:0<sz) (hzl:zs.length=sz) (hsm:len*sz≤16777216) (he:es=es'):
 aV P C n o s (s.putO o.dst (.lit sz es')):=he ▸ aV.buildSliceL ho hd hT hz hp hc hle hel hes hsz hzl hsm
theorem aV.indexB{T E sz by_ k N i:Nat}{x y:Operand}(ho:o.op= .indexAddr T x y)(hd:bW o.dst n=true)(hx:s.ev x=some (.bsl k N))(hy:s.ev y=some (.t (.leaf (.int .i64 (i:Int)))))(hi:i<N)(hT:elemOf? P T=some (E,sz,by_)):
 aV P C n o s (s.putO o.dst (.ptr k (i*sz))):=
 aV.quiet (dF hd) fun m a w h=>by
  obtain⟨hb,hv⟩:=h.eval hx
  have h6:=(cJ.leaf_eq (h.eval hy)).1
  refine⟨.pointer (some ⟨m.ρ k,0+i*sz,none⟩),?_,hb,by rw [Nat.zero_add]⟩
  unfold execOp
  simp only [ho,hv,h6,Sem.run_bind,run_indexAt' hT hi,Result.andThen_ok]
  rfl
theorem H6{T E sz by_:Nat}{x y:Operand}{es1 es2:List (List Tr)}{p:PV}(ho:o.op= .call { callee:= .builtin .append,args:= #[x,y],argTypes:= #[T,T] })
 (hx:s.ev x=some (.lit sz es1)) (hy:s.ev y=some p) (hp:mZ p=some (sz,es2)) (h1: ∀e∈es1,e.length=sz) (h2: ∀e∈es2,e.length=sz) (hne:es2≠ []) (hsz:0<sz)
 (hT:elemOf? P T=some (E,sz,by_)) (hz:(P.info? E).bind (fun i=>i.zero.map (fun z=>z.cells.size))=some sz) (hb:0<by_) (hlen:(es1.length+es2.length)*by_≤140737488355328) {m:kD} {a:Act} {w:World} (h:RA C n s m a w):
 ∃c cur w1,(execOp a.eval o).run P w= .ok (.value (.slice (some ⟨w.heap.size,0,none⟩) (es1.length+es2.length) c)) w1∧s6 w w1∧OB w1 w.heap.size E cur∧es1.length+es2.length≤c∧c≤maxLen∧
  (∀q e,(es1++es2)[q]?=some e→ ∀j d,e[j]?=some d→ ∃v,cur[q*sz+j]?=some v∧cJ (lA C.av s.st m) w d v):=by
 obtain⟨i,hu,hi,hs,hby⟩:=elemOf?.spec hT
 obtain⟨hr1,ad,hv1⟩:=h.eval hx
 have hr2:=vJ hp (h.eval hy)
 obtain⟨b,off,c2,news,hv2,hnl,hnews,hone,hnd⟩:=hr2.news h2 hne hsz
 have hpos2:0<es2.length:=List.length_pos_iff.2 hne
 have hlen:(es1.length+es2.length)*i.bytes≤140737488355328:=by rw [hby];exact hlen
 have h63:es1.length+es2.length≤140737488355328:=Nat.le_trans (Nat.le_mul_of_pos_right _ (by omega)) hlen
 have hrun: ∀v w1,(Builtin.append_ #[T,T] o.type #[a.eval x,a.eval y]).run P w= .ok v w1→(execOp a.eval o).run P w= .ok (.value v) w1:=fun v w1 hr=>by
  unfold execOp
  simp only [ho,resolve,invoke,builtin,Sem.run_bind,Sem.run_pure,Result.andThen_ok,List.map_toArray,List.map_cons,List.map_nil,hr]
 cases hzz:i.zero with
 |none=>simp [hi,hzz] at hz
 |some z=>
  have fin: ∀(olds:List Value) (cur:Array Value) (Z:List Value),cur.toList=olds++news++Z→olds.length=es1.length*sz→(∀i e,es1[i]?=some e→ ∀j d,e[j]?=some d→ ∃v,olds[i*sz+j]?=some v∧cJ (lA C.av s.st m) w d v)→
   ∀q e,(es1++es2)[q]?=some e→ ∀j d,e[j]?=some d→ ∃v,cur[q*sz+j]?=some v∧cJ (lA C.av s.st m) w d v:=fun olds cur Z hcur hol hod q e hq j d hj=>by
   rw [← Array.getElem?_toList,hcur,List.append_assoc]
   by_cases hlt:q<es1.length
   ·rw [List.getElem?_append_left hlt] at hq
    obtain⟨v,hv,hr⟩:=hod q e hq j d hj
    exact⟨v,by rw [List.getElem?_append_left (dM hv)];exact hv,hr⟩
   ·rw [List.getElem?_append_right (by omega)] at hq
    obtain⟨v,hv,hr⟩:=hnd _ e hq j d hj
    refine⟨v,?_,hr⟩
    have e1:q*sz+j=es1.length*sz+((q-es1.length)*sz+j):=by
     rw [← Nat.add_assoc,← Nat.add_mul]
     congr 2
     omega
    rw [e1,← hol,List.getElem?_append_right (by omega),Nat.add_sub_cancel_left,List.getElem?_append_left (dM hv)]
    exact hv
  have grow: ∀(A:Addr) (olds:List Value),ad=some A→olds.length=es1.length*sz→(∀j v,olds[j]?=some v→w.cell? (A.add j)=some v)→(∀i e,es1[i]?=some e→ ∀j d,e[j]?=some d→ ∃v,olds[i*sz+j]?=some v∧cJ (lA C.av s.st m) w d v)→
   ∃c cur w1,(execOp a.eval o).run P w= .ok (.value (.slice (some ⟨w.heap.size,0,none⟩) (es1.length+es2.length) c)) w1∧s6 w w1∧OB w1 w.heap.size E cur∧es1.length+es2.length≤c∧c≤maxLen∧
    (∀q e,(es1++es2)[q]?=some e→ ∀j d,e[j]?=some d→ ∃v,cur[q*sz+j]?=some v∧cJ (lA C.av s.st m) w d v):=fun A olds hA hol hold hod=>by
   subst hA
   have happ:=run_append_grow (P:=P) w T o.type E i z hu hi hzz A es1.length es1.length olds (by rw [hs];exact hol) hold ⟨b,off,none⟩ es2.length c2 news (by rw [hnl,hs]) hnews (by omega) (by omega) (growslice_fits (by omega) hlen)
   rw [← hv2,← hv1] at happ
   have hge:=grownCap_ge w (es1.length+es2.length) es1.length E
   exact⟨_,_,_,hrun _ _ happ,.alloc (.drew (.refl _)) _,OB.new w.drew E _,hge,grownCap_le_maxLen w _ _ _ (by unfold maxLen;omega),fin olds _ _ (by simp;rfl) hol hod⟩
  by_cases he:es1= []
  ·cases ad with
   |none=>
    subst he
    have happ:=run_append_nil (P:=P) w T o.type E i z hu hi hzz ⟨b,off,none⟩ es2.length c2 news (by rw [hnl,hs]) hnews (by omega) (by omega) (by simp only [List.length_nil,Nat.zero_add] at hlen;omega)
    have hv1':a.eval x= .slice none 0 0:=hv1
    rw [← hv2,← hv1'] at happ
    have hge:=grownCap_ge w es2.length 0 E
    have hf:=fin [] (news.toArray++Builtin.zeroCells z.cells (grownCap w es2.length 0 E-es2.length)) (Builtin.zeroCells z.cells (grownCap w es2.length 0 E-es2.length)).toList (by simp) (by simp) (fun i e h=>by simp at h)
    have hcm:grownCap w es2.length 0 E≤maxLen:=grownCap_le_maxLen w _ _ _ (by unfold maxLen;omega)
    simp only [List.length_nil,Nat.zero_add,List.nil_append] at hf ⊢
    exact⟨_,_,_,hrun _ _ happ,.alloc (.drew (.refl _)) _,OB.new w.drew E _,by simpa using hge,hcm,hf⟩
   |some A=>
    subst he
    exact grow A [] rfl (by simp) (fun j v h=>by simp at h) (fun i e h=>by simp at h)
  ·obtain⟨b1,off1,c1,olds,hv1',hol,hold,-,hod⟩:=hr1.news h1 he hsz
   have hva:=hv1.symm.trans hv1'
   injection hva with e1 e2 e3
   exact grow _ olds e1 hol hold hod
theorem aV.appendLit{T E sz by_:Nat}{x y:Operand}{es1 es2 es3:List (List Tr)}{p:PV}(ho:o.op= .call { callee:= .builtin .append,args:= #[x,y],argTypes:= #[T,T] })(hd:bW o.dst n=true)
 (hx:s.ev x=some (.lit sz es1)) (hy:s.ev y=some p) (hp:mZ p=some (sz,es2)) (h1: ∀e∈es1,e.length=sz) (h2: ∀e∈es2,e.length=sz) (hne:es2≠ []) (hsz:0<sz)
 (hT:elemOf? P T=some (E,sz,by_)) (hz:(P.info? E).bind (fun i=>i.zero.map (fun z=>z.cells.size))=some sz) (hb:0<by_) (hlen:(es1.length+es2.length)*by_≤140737488355328) (h3:es1++es2=es3):
 aV P C n o s (s.putO o.dst (.t (.row sz es3))):=by
 subst h3
 refine aV.quietX hd fun m a w h=>?_
 obtain⟨c,cur,w1,hr,hX,hob,hc,hm,hget⟩:=H6 ho hx hy hp h1 h2 hne hsz hT hz hb hlen h
 refine⟨_,w1,hr,hX,?_⟩
 have:=cJ.row (ok:=lA C.av s.st m) (w:=w1) (es:=es1++es2) (sz:=sz) (a:=some ⟨w.heap.size,0,none⟩) (cap:=c) (fun q j=>(cur[q*sz+j]?).getD undef) (by rw [List.length_append];exact hc) hm (fun _=>⟨w.heap.size,0,rfl,hob.lt,fun q e hq j d hd=>⟨Q4 h.sto (Nat.le_refl _) _,?_⟩⟩) (fun q e hq j d hd=>?_)
 ·rw [List.length_append] at this
  exact this
 ·obtain⟨v,hv,-⟩:=hget q e hq j d hd
  rw [Nat.zero_add,hob.cell,hv]
  rfl
 ·obtain⟨v,hv,hr⟩:=hget q e hq j d hd
  rw [hv]
  exact cJ.ext hr hX
theorem OU{α:Type}{sz:Nat}(hsz:0<sz): ∀ {es:List (List α)} {k:Nat} {d:α},(∀e∈es,e.length=sz)→es.flatten[k]?=some d→ ∃e,es[k/sz]?=some e∧e[k%sz]?=some d
 | [],k,d,_,h=>by simp at h
 |e::es,k,d,hl,h=>by
  have he:=hl e (by simp)
  rw [List.flatten_cons] at h
  by_cases hk:k<sz
  ·rw [List.getElem?_append_left (by omega)] at h
   exact⟨e,by rw [Nat.div_eq_of_lt hk];rfl,by rw [Nat.mod_eq_of_lt hk];exact h⟩
  ·rw [List.getElem?_append_right (by omega),he] at h
   obtain⟨e2,h1,h2⟩:=OU hsz (fun e he=>hl e (by simp [he])) h
   obtain⟨j,rfl⟩: ∃j,k=j+sz:=⟨k-sz,by omega⟩
   rw [Nat.add_sub_cancel] at h1 h2
   exact⟨e2,by rw [Nat.add_div_right _ hsz];exact h1,by rw [Nat.add_mod_right];exact h2⟩
theorem aV.appendLitB{T E sz by_:Nat}{x y:Operand}{es1 es2:List (List Tr)}{cs:List PV}{p:PV}{len:Nat}(ho:o.op= .call { callee:= .builtin .append,args:= #[x,y],argTypes:= #[T,T] })(hd:bW o.dst n=true)
 (hx:s.ev x=some (.lit sz es1)) (hy:s.ev y=some p) (hp:mZ p=some (sz,es2)) (h1: ∀e∈es1,e.length=sz) (h2: ∀e∈es2,e.length=sz) (hne:es2≠ []) (hsz:0<sz)
 (hT:elemOf? P T=some (E,sz,by_)) (hz:(P.info? E).bind (fun i=>i.zero.map (fun z=>z.cells.size))=some sz) (hb:0<by_) (hlen:(es1.length+es2.length)*by_≤140737488355328) (hcs:(es1++es2).flatten.map PV.t=cs) (hl:es1.length+es2.length=len):
 aV P C n o s ((⟨s.env,s.st.addBox ⟨E,cs⟩⟩:AS).putO o.dst (.gsl s.st.boxes.length len)):=by
 subst hcs hl
 refine aV.run hd (s1:=⟨s.env,s.st.addBox ⟨E,(es1++es2).flatten.map PV.t⟩⟩) (fun m a w h=>?_) rfl
 obtain⟨c,cur,w1,hr,hX,hob,hc,hm,hget⟩:=H6 ho hx hy hp h1 h2 hne hsz hT hz hb hlen h
 have hes: ∀e∈es1++es2,e.length=sz:=fun e he=>(List.mem_append.1 he).elim (h1 e) (h2 e)
 have hfl: ∀(k:Nat) d,(es1++es2).flatten[k]?=some d→ ∃v,cur[k]?=some v∧cJ (lA C.av s.st m) w d v:=fun k d hk=>by
  obtain⟨e,q1,q2⟩:=OU hsz hes hk
  obtain⟨v,hv,hrv⟩:=hget _ e q1 _ d q2
  rw [Nat.div_add_mod'] at hv
  exact⟨v,hv,hrv⟩
 have hrvl:gQ (lA C.av s.st m) s.st m w ((es1++es2).flatten.map PV.t) ((List.range' 0 (es1++es2).flatten.length).map fun k=>(cur[k]?).getD undef):=gQ.of_fn 0 fun k d hk=>by
  obtain⟨v,hv,hrv⟩:=hfl k d hk
  rw [Nat.zero_add,hv]
  exact hrv
 have hE:Ev s.st m w (s.st.addBox ⟨E,(es1++es2).flatten.map PV.t⟩) ⟨xM m.ρ s.st.boxes.length w.heap.size,m.γ⟩ w1:=MV hX (Nat.le_refl _)
 have hobp:OBp w1 w.heap.size E ((List.range' 0 (es1++es2).flatten.length).map fun k=>(cur[k]?).getD undef):=by
  refine⟨cur.toList.drop (es1++es2).flatten.length,?_⟩
  have e1:((List.range' 0 (es1++es2).flatten.length).map fun k=>(cur[k]?).getD undef)++cur.toList.drop (es1++es2).flatten.length=cur.toList:=by
   have hle:(es1++es2).flatten.length≤cur.toList.length:=by
    rcases Nat.eq_zero_or_pos (es1++es2).flatten.length with h0|h0
    ·omega
    ·obtain⟨v,hv,-⟩:=hfl ((es1++es2).flatten.length-1) _ (List.getElem?_eq_getElem (by omega))
     rw [← Array.getElem?_toList] at hv
     have:=dM hv
     omega
   refine List.ext_getElem? fun k=>?_
   by_cases hk:k<(es1++es2).flatten.length
   ·rw [List.getElem?_append_left (by simpa using hk),List.getElem?_map,List.getElem?_range' (by simpa using hk)]
    obtain⟨v,hv,-⟩:=hfl k _ (List.getElem?_eq_getElem hk)
    simp only [Option.map_some,Nat.zero_add,Nat.one_mul,hv,Option.getD_some]
    rw [← Array.getElem?_toList] at hv
    exact hv.symm
   ·rw [List.getElem?_append_right (by simpa using Nat.le_of_not_lt hk),List.getElem?_drop]
    congr 1
    simp
    simp at hk
    omega
  rw [e1]
  exact hob
 refine⟨_,_,w1,hr,hE,UC h.sto hX (Nat.le_refl _) hobp (gQ.mono hE _ _ hrvl),⟨⟨E,(es1++es2).flatten.map PV.t⟩,by simp [dK.addBox]⟩,c,hc,hm,by simp [cE]⟩
theorem aV.indexG{T E sz by_ k N i:Nat}{x y:Operand}(ho:o.op= .indexAddr T x y)(hd:bW o.dst n=true)(hx:s.ev x=some (.gsl k N))(hy:s.ev y=some (.t (.leaf (.int .i64 (i:Int)))))(hi:i<N)(hT:elemOf? P T=some (E,sz,by_)):
 aV P C n o s (s.putO o.dst (.ptr k (i*sz))):=
 aV.quiet (dF hd) fun m a w h=>by
  obtain⟨hb,c,hc,hm,hv⟩:=h.eval hx
  have h6:=(cJ.leaf_eq (h.eval hy)).1
  refine⟨.pointer (some ⟨m.ρ k,0+i*sz,none⟩),?_,hb,by rw [Nat.zero_add]⟩
  unfold execOp
  simp only [ho,hv,h6,Sem.run_bind,run_indexAt' hT hi,Result.andThen_ok]
  rfl
mutual
inductive UI (k sz:Nat) (es:List (List Tr)):PV→PV→Prop
 |le {p q:PV}:PV.Le p q→UI k sz es p q
 |bsl {n:Nat}:es.length=n→UI k sz es (.bsl k n) (.t (.row sz es))
 |bslL {n:Nat}:es.length=n→UI k sz es (.bsl k n) (.lit sz es)
 |gsl {n:Nat}:es.length=n→UI k sz es (.gsl k n) (.t (.row sz es))
 |agg {ps qs:List PV}:MK k sz es ps qs→UI k sz es (.agg ps) (.agg qs)
inductive MK (k sz:Nat) (es:List (List Tr)):List PV→List PV→Prop
 |nil:MK k sz es [] []
 |cons {p q:PV} {ps qs:List PV}:UI k sz es p q→MK k sz es ps qs→MK k sz es (p::ps) (q::qs)
end
def W2(k sz:Nat)(es:List (List Tr))(st':dK):List (Option dO)→List (Option dO)→Prop
 |_,[]=>True
 |_::xs,none::ys=>W2 k sz es st' xs ys
 |some x::xs,some y::ys=>(x.ty=y.ty∧MK k sz es x.cells y.cells∧mY st' y.cells=true)∧W2 k sz es st' xs ys
 |_,_=>False
theorem W2.get{k sz:Nat}{es:List (List Tr)}{st':dK}: ∀ {xs ys:List (Option dO)},W2 k sz es st' xs ys→ ∀(i:Nat) (y:dO),ys[i]?=some (some y)→ ∃x:dO,xs[i]?=some (some x)∧x.ty=y.ty∧MK k sz es x.cells y.cells∧mY st' y.cells=true
 |_,[],_,i,y,h=>by simp at h
 | [],none::ys,hl,i,y,h=>hl.elim
 |x::xs,none::ys,hl,0,y,h=>by simp at h
 |none::xs,none::ys,hl,i+1,y,h=>by simpa using W2.get (xs:=xs) hl i y (by simpa using h)
 |some _::xs,none::ys,hl,i+1,y,h=>by simpa using W2.get (xs:=xs) hl i y (by simpa using h)
 |some x::xs,some z::ys,hl,0,y,h=>by
  simp at h
  subst h
  exact⟨x,rfl,hl.1⟩
 |some x::xs,some z::ys,hl,i+1,y,h=>by simpa using W2.get (xs:=xs) hl.2 i y (by simpa using h)
 | [],some _::_,hl,_,_,_=>hl.elim
 |none::_,some _::_,hl,_,_,_=>hl.elim
def aiA(k sz:Nat)(es:List (List Tr))(s:AS)(st':dK):List (Nat×PV)→Prop
 | []=>True
 |(i,q)::l=>(∃p,s.lk i=some p∧UI k sz es p q∧PV.okIn st' q=true)∧aiA k sz es s st' l
theorem aiA.get{k sz:Nat}{es:List (List Tr)}{s:AS}{st':dK}: ∀ {l:List (Nat×PV)} {i:Nat} {q:PV},aiA k sz es s st' l→l.lookup i=some q→ ∃p,s.lk i=some p∧UI k sz es p q∧PV.okIn st' q=true
 | [],_,_,_,h=>by simp at h
 |(j,p)::l,i,q,hl,h=>by
  rw [List.lookup_cons] at h
  by_cases hik:i=j
  ·subst hik
   simp at h
   subst h
   exact hl.1
  ·rw [show(i==j)=false by simp [hik]] at h
   exact aiA.get hl.2 h
mutual
theorem UI.rv{k sz:Nat}{es:List (List Tr)}{ok ok':Nat→Nat→Prop}{st st':dK}{m:kD}{w:World}(hle: ∀p v,PV.okIn st' p=true→RV ok st m w p v→RV ok' st' m w p v)(hb: ∀v c,es.length≤c→c≤maxLen→v= .slice (some ⟨m.ρ k,0,none⟩) es.length c→cJ ok' w (.row sz es) v)(hm:es.length≤maxLen):
 ∀ {p q:PV} {v:Value},UI k sz es p q→PV.okIn st' q=true→RV ok st m w p v→RV ok' st' m w q v
 |_,_,_,.le h,hk,hr=>hle _ _ hk (h.rv hr)
 |_,_,_,.bsl h,_,hr=>hb _ _ (Nat.le_refl _) hm (h ▸ hr.2)
 |_,_,_,.bslL h,_,hr=>⟨hb _ _ (Nat.le_refl _) hm (h ▸ hr.2),_,h ▸ hr.2⟩
 |_,_,_,.gsl h,_,hr=>by
  obtain⟨-,c,hc,hcm,hv⟩:=hr
  subst h
  exact hb _ c hc hcm hv
 |_,_,_,.agg h,hk,hr=>by
  obtain⟨vs,hv,h1⟩:=hr
  exact⟨vs,hv,MK.rv hle hb hm h hk h1⟩
theorem MK.rv{k sz:Nat}{es:List (List Tr)}{ok ok':Nat→Nat→Prop}{st st':dK}{m:kD}{w:World}(hle: ∀p v,PV.okIn st' p=true→RV ok st m w p v→RV ok' st' m w p v)(hb: ∀v c,es.length≤c→c≤maxLen→v= .slice (some ⟨m.ρ k,0,none⟩) es.length c→cJ ok' w (.row sz es) v)(hm:es.length≤maxLen):
 ∀ {ps qs:List PV} {vs:List Value},MK k sz es ps qs→mY st' qs=true→gQ ok st m w ps vs→gQ ok' st' m w qs vs
 |_,_,[],.nil,_,h=>trivial
 |_,_,_::_,.nil,_,h=>h.elim
 |_,_,[],.cons _ _,_,h=>h.elim
 |_,_,_::_,.cons k1 k2,hk,h=>by
  simp only [mY,Bool.and_eq_true] at hk
  exact⟨UI.rv hle hb hm k1 hk.1 h.1,MK.rv hle hb hm k2 hk.2 h.2⟩
end
theorem Wk.freeze{k sz:Nat}{bx:dO}{es:List (List Tr)}{s':AS}(hb:s.st.boxes[k]?=some (some bx))(hc:s7 bx.cells (es.flatten.map PV.t))(hes: ∀e∈es,e.length=sz)(hm:es.length≤16777216)
 (hbox:W2 k sz es s'.st s.st.boxes s'.st.boxes) (hnone:s'.st.boxes[k]?=some none) (hr:s'.st.rows=s.st.rows) (hp:mI C.st s'.st) (he:aiA k sz es s s'.st s'.env):Wk C n s s':=fun m a w h=>by
 have hsub:AR s.st s'.st:=⟨fun i x hi=>by obtain⟨y,hy,-⟩:=hbox.get i x hi;exact⟨y,hy⟩,fun r row hrow=>by rw [hr] at hrow;exact hrow⟩
 obtain⟨vs,hob,hvs⟩:=h.sto.box k bx hb
 have hts:=s7.rv hc hvs
 have hokk: ∀o,lA C.av s'.st m (m.ρ k) o:=fun o=>⟨h.sto.avb k bx hb o,fun i x hi=>by
  obtain⟨y,hy,-⟩:=hbox.get i x hi
  by_cases hik:i=k
  ·subst hik
   rw [hnone] at hi
   cases hi
  ·exact h.sto.binj i k y bx hy hb hik,fun r row g c hrow hg e=>absurd e.symm (h.sto.br k bx r row g c hb (hsub.rows r row hrow) hg)⟩
 have hmm:es.length≤maxLen:=by unfold maxLen;omega
 have hRep: ∀v c,es.length≤c→c≤maxLen→v= .slice (some ⟨m.ρ k,0,none⟩) es.length c→cJ (lA C.av s'.st m) w (.row sz es) v:=by
  rintro _ c hc hcm rfl
  have hget: ∀q e,es[q]?=some e→ ∀j d,e[j]?=some d→ ∃v,vs[q*sz+j]?=some v∧cJ (lA C.av s.st m) w d v:=fun q e hq j d hj=>by
   have hf:=sO (sz:=sz) hes hq hj
   obtain⟨v,hv,hrv⟩:=hts.get (j:=q*sz+j) (p:= .t d) (by rw [List.getElem?_map,hf];rfl)
   exact⟨v,hv,hrv⟩
  refine cJ.row (fun q j=>(vs[q*sz+j]?).getD undef) hc hcm (fun _=>⟨m.ρ k,0,rfl,hob.lt,fun q e hq j d hd=>⟨hokk _,?_⟩⟩) (fun q e hq j d hd=>?_)
  ·obtain⟨v,hv,-⟩:=hget q e hq j d hd
   rw [Nat.zero_add,hob.cell hv,hv]
   rfl
  ·obtain⟨v,hv,hrr⟩:=hget q e hq j d hd
   rw [hv]
   exact cJ.mono hrr (Nat.le_refl _) (fun _ _ _ k=>hsub.ok k) (fun _ _ _ _=>rfl)
 have hle: ∀p v,PV.okIn s'.st p=true→RV (lA C.av s.st m) s.st m w p v→RV (lA C.av s'.st m) s'.st m w p v:=fun p v=>hsub.rv p v
 refine⟨m,h.dfr,h.tsz,?_,fun i q hq=>?_,?_⟩
 ·exact {
   box:=fun i x hi=>by
    obtain⟨y,hy,ht,hl,hk⟩:=hbox.get i x hi
    obtain⟨us,k1,k2⟩:=h.sto.box i y hy
    exact⟨us,by rw [← ht];exact k1,MK.rv hle hRep hmm hl hk k2⟩
   binj:=fun i i' x x' hi hi'=>by
    obtain⟨y,hy,-⟩:=hbox.get i x hi
    obtain⟨y',hy',-⟩:=hbox.get i' x' hi'
    exact h.sto.binj i i' y y' hy hy'
   row:=fun r row hrow=>by
    obtain⟨k1,k2,k3⟩:=h.sto.row r row (hsub.rows r row hrow)
    refine⟨k1,k2,?_⟩
    rcases k3 with k3|⟨g,c,cur,q1,q2,q3,q4,q5,q6⟩
    ·exact .inl k3
    ·exact .inr ⟨g,c,cur,q1,q2,q3,q4,q5,cJ.mono q6 (Nat.le_refl _) (fun _ _ _ k=>hsub.ok k) (fun _ _ _ _=>rfl)⟩
   rinj:=fun r r' row row' g c c' hi hi'=>h.sto.rinj r r' row row' g c c' (hsub.rows r row hi) (hsub.rows r' row' hi')
   br:=fun i x r row g c hi hrow=>by
    obtain⟨y,hy,-⟩:=hbox.get i x hi
    exact h.sto.br i y r row g c hy (hsub.rows r row hrow)
   avlt:=h.sto.avlt
   avr:=fun r row g c hrow=>h.sto.avr r row g c (hsub.rows r row hrow)
   avb:=fun i x hi=>by
    obtain⟨y,hy,-⟩:=hbox.get i x hi
    exact h.sto.avb i y hy }
 ·obtain⟨p,h1,h2,h3⟩:=he.get hq
  obtain⟨v,hv,hrv⟩:=h.env i p h1
  exact⟨v,hv,UI.rv hle hRep hmm h2 h3 hrv⟩
 ·exact {
   os:=h.ev.os
   tape:=h.ev.tape
   output:=h.ev.output
   size:=h.ev.size
   blk:=h.ev.blk
   cell:=h.ev.cell
   okk:=fun b o hb ho=>(hsub.ok (av:=fun _ _=>False) ⟨id,h.ev.okk b o hb ho⟩).2
   live:=fun i x hi=>⟨hp.1 i x hi,(h.ev.live i x hi).2⟩
   fresh:=fun i x' hi=>by
    obtain⟨y,hy,-⟩:=hbox.get i x' hi
    exact h.ev.fresh i y hy
   rowl:=fun r row hrow=>by
    obtain⟨row',hr'⟩:=hp.2 r row hrow
    obtain⟨row2,h1,h2⟩:=h.ev.rowl r row hrow
    have:=hsub.rows r row' hr'
    rw [h1] at this
    cases this
    exact⟨_,hr',h2⟩
   rfresh:=fun r row' g c hrow hg=>h.ev.rfresh r row' g c (hsub.rows r row' hrow) hg }
end
theorem Wk.freezeE{C:q9}{n:Nat}{s:AS}{k sz:Nat}{bx:dO}{es es':List (List Tr)}{s':AS}(heq:es=es')(hb:s.st.boxes[k]?=some (some bx))(hc:s7 bx.cells (es.flatten.map PV.t))(hes: ∀e∈es,e.length=sz)(hm:es.length≤16777216)
 (hbox:W2 k sz es' s'.st s.st.boxes s'.st.boxes) (hnone:s'.st.boxes[k]?=some none) (hr:s'.st.rows=s.st.rows) (hp:mI C.st s'.st) (he:aiA k sz es' s s'.st s'.env):Wk C n s s':=by
 subst heq
 exact Wk.freeze hb hc hes hm hbox hnone hr hp he
theorem eI{p:Prop}(h:p:=by(repeat' (first|exact UI.bsl rfl|exact UI.bslL rfl|exact UI.gsl rfl|exact MK.nil|apply MK.cons|exact UI.le (PV.Le.refl _)|exact UI.le (PV.Le.acc _ _ _)|exact UI.le (PV.Le.nil _)|exact UI.le (PV.Le.lit _ _)|exact UI.le (PV.Le.nilLit _)|apply UI.agg))):p:=h
end Go.Proofs.YtpioomclpaiomaaGreat
