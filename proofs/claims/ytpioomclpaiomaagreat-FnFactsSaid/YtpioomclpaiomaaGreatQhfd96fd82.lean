/- Words, rules and walks of several kinds, laid together: PmD, PmX, PmY, PmZ, PmW, PmV, PmN, PmO, PmDS, PmK, PmM, PmU, PmT, PmDraw, PmB, PlZ, PmR, PmBool, Pma, PmF, PmS, PmEq, PmaB, Pl, PmG, Pg. No conditions but those that each theorem states. -/
import Derived.Test.YtpioomclpaiomaaGreatQh7e1aa739
import Derived.Test.YtpioomclpaiomaaGreatProg
import Derived.Laws.MakeOwn
set_option linter.unusedSimpArgs false
set_option linter.unusedVariables false
namespace Go.Proofs.YtpioomclpaiomaaGreat
open Go.RowKit
theorem sG.refl: ∀ps:List PV,sG ps ps
 | []=> .nil
 |p::ps=> .cons (.refl p) (sG.refl ps)
theorem V0{l:List ByteArray}{k:Nat}(h:k<l.length):(a4 l)[k]?=some [.leaf (.string l[k])]:=agV h
theorem aiM{l:List Int}{k:Nat}(h:k<l.length):(qF l)[k]?=some [.leaf (.int .i64 l[k])]:=Q8 h
def aO.cs(x:aO):List Tr:= [.leaf (.int .i64 x.gPackage),.leaf (.int .i64 x.gAt)]
def aO.pv(x:aO):PV:= .agg [.t (.leaf (.int .i64 x.gPackage)),.t (.leaf (.int .i64 x.gAt))]
theorem aO.tr_cs(x:aO):x.tr=x.cs:=by
 obtain⟨v0,v1⟩:=x
 simp [aO.tr,aO.cs]
theorem aO.trs_cs{l:List aO}{k:Nat}(h:k<l.length):(aO.trs l)[k]?=some (l[k]).cs:=by rw [← aO.tr_cs];exact aO.trs_get h
def aB.cs(x:aB):List Tr:= [.leaf (.string x.gAtom),.row 2 (aB.trs (x.gList))]
def aB.pv(x:aB):PV:= .agg [.t (.leaf (.string x.gAtom)),.t (.row 2 (aB.trs (x.gList)))]
theorem aB.tr_cs(x:aB):x.tr=x.cs:=by
 obtain⟨v0,v1⟩:=x
 simp [aB.tr,aB.cs]
theorem aB.trs_cs{l:List aB}{k:Nat}(h:k<l.length):(aB.trs l)[k]?=some (l[k]).cs:=by rw [← aB.tr_cs];exact aB.trs_get h
def aA.cs(x:aA):List Tr:= [.leaf (.int .i64 x.gKind),.leaf (.string x.gName),.row 3 (aA.trs (x.gArgs))]
def aA.pv(x:aA):PV:= .agg [.t (.leaf (.int .i64 x.gKind)),.t (.leaf (.string x.gName)),.t (.row 3 (aA.trs (x.gArgs)))]
theorem aA.tr_cs(x:aA):x.tr=x.cs:=by
 obtain⟨v0,v1,v2⟩:=x
 simp [aA.tr,aA.cs]
theorem aA.trs_cs{l:List aA}{k:Nat}(h:k<l.length):(aA.trs l)[k]?=some (l[k]).cs:=by rw [← aA.tr_cs];exact aA.trs_get h
def aK.cs(x:aK):List Tr:= [.leaf (.string x.gVar),.leaf (.int .i64 x.gType.gKind),.leaf (.string x.gType.gName),.row 3 (aA.trs (x.gType.gArgs))]
theorem aK.tr_cs(x:aK):x.tr=x.cs:=by
 obtain⟨v0,v1⟩:=x
 simp [aK.tr,aK.cs,aA.tr_cs,aA.cs]
theorem aK.trs_cs{l:List aK}{k:Nat}(h:k<l.length):(aK.trs l)[k]?=some (l[k]).cs:=by rw [← aK.tr_cs];exact aK.trs_get h
def aG.cs(x:aG):List Tr:= [.leaf (.int .i64 x.gKind),.leaf (.string x.gTrait),.leaf (.string x.gName),.leaf (.int .i64 x.gN),.leaf (.int .i64 x.gType.gKind),.leaf (.string x.gType.gName),.row 3 (aA.trs (x.gType.gArgs)),.row 9 (aG.trs (x.gArgs)),.row 11 (bK.trs (x.gArms))]
def aG.pv(x:aG):PV:= .agg [.t (.leaf (.int .i64 x.gKind)),.t (.leaf (.string x.gTrait)),.t (.leaf (.string x.gName)),.t (.leaf (.int .i64 x.gN)),.t (.leaf (.int .i64 x.gType.gKind)),.t (.leaf (.string x.gType.gName)),.t (.row 3 (aA.trs (x.gType.gArgs))),.t (.row 9 (aG.trs (x.gArgs))),.t (.row 11 (bK.trs (x.gArms)))]
theorem aG.tr_cs(x:aG):x.tr=x.cs:=by
 obtain⟨v0,v1,v2,v3,v4,v5,v6⟩:=x
 simp [aG.tr,aG.cs,aA.tr_cs,aA.cs]
theorem aG.trs_cs{l:List aG}{k:Nat}(h:k<l.length):(aG.trs l)[k]?=some (l[k]).cs:=by rw [← aG.tr_cs];exact aG.trs_get h
def bK.cs(x:bK):List Tr:= [.leaf (.string x.gConstructor),.row 1 (a4 (x.gVars)),.leaf (.int .i64 x.gBody.gKind),.leaf (.string x.gBody.gTrait),.leaf (.string x.gBody.gName),.leaf (.int .i64 x.gBody.gN),.leaf (.int .i64 x.gBody.gType.gKind),.leaf (.string x.gBody.gType.gName),.row 3 (aA.trs (x.gBody.gType.gArgs)),.row 9 (aG.trs (x.gBody.gArgs)),.row 11 (bK.trs (x.gBody.gArms))]
def bK.pv(x:bK):PV:= .agg [.t (.leaf (.string x.gConstructor)),.t (.row 1 (a4 (x.gVars))),.t (.leaf (.int .i64 x.gBody.gKind)),.t (.leaf (.string x.gBody.gTrait)),.t (.leaf (.string x.gBody.gName)),.t (.leaf (.int .i64 x.gBody.gN)),.t (.leaf (.int .i64 x.gBody.gType.gKind)),.t (.leaf (.string x.gBody.gType.gName)),.t (.row 3 (aA.trs (x.gBody.gType.gArgs))),.t (.row 9 (aG.trs (x.gBody.gArgs))),.t (.row 11 (bK.trs (x.gBody.gArms)))]
theorem bK.tr_cs(x:bK):x.tr=x.cs:=by
 obtain⟨v0,v1,v2⟩:=x
 simp [bK.tr,bK.cs,aG.tr_cs,aG.cs]
theorem bK.trs_cs{l:List bK}{k:Nat}(h:k<l.length):(bK.trs l)[k]?=some (l[k]).cs:=by rw [← bK.tr_cs];exact bK.trs_get h
def aD.cs(x:aD):List Tr:= [.leaf (.string x.gName),.row 3 (aA.trs (x.gParams)),.leaf (.int .i64 x.gResult.gKind),.leaf (.string x.gResult.gName),.row 3 (aA.trs (x.gResult.gArgs)),.leaf (.bool x.gHasDefault),.row 1 (a4 (x.gVars)),.leaf (.int .i64 x.gBody.gKind),.leaf (.string x.gBody.gTrait),.leaf (.string x.gBody.gName),.leaf (.int .i64 x.gBody.gN),.leaf (.int .i64 x.gBody.gType.gKind),.leaf (.string x.gBody.gType.gName),.row 3 (aA.trs (x.gBody.gType.gArgs)),.row 9 (aG.trs (x.gBody.gArgs)),.row 11 (bK.trs (x.gBody.gArms))]
def aD.pv(x:aD):PV:= .agg [.t (.leaf (.string x.gName)),.t (.row 3 (aA.trs (x.gParams))),.t (.leaf (.int .i64 x.gResult.gKind)),.t (.leaf (.string x.gResult.gName)),.t (.row 3 (aA.trs (x.gResult.gArgs))),.t (.leaf (.bool x.gHasDefault)),.t (.row 1 (a4 (x.gVars))),.t (.leaf (.int .i64 x.gBody.gKind)),.t (.leaf (.string x.gBody.gTrait)),.t (.leaf (.string x.gBody.gName)),.t (.leaf (.int .i64 x.gBody.gN)),.t (.leaf (.int .i64 x.gBody.gType.gKind)),.t (.leaf (.string x.gBody.gType.gName)),.t (.row 3 (aA.trs (x.gBody.gType.gArgs))),.t (.row 9 (aG.trs (x.gBody.gArgs))),.t (.row 11 (bK.trs (x.gBody.gArms)))]
theorem aD.tr_cs(x:aD):x.tr=x.cs:=by
 obtain⟨v0,v1,v2,v3,v4,v5⟩:=x
 simp [aD.tr,aD.cs,aA.tr_cs,aA.cs,aG.tr_cs,aG.cs]
theorem aD.trs_cs{l:List aD}{k:Nat}(h:k<l.length):(aD.trs l)[k]?=some (l[k]).cs:=by rw [← aD.tr_cs];exact aD.trs_get h
def aT.cs(x:aT):List Tr:= [.leaf (.string x.gName),.row 1 (a4 (x.gSupertraits)),.leaf (.bool x.gAuto),.leaf (.bool x.gAssoc),.row 16 (aD.trs (x.gSignatures))]
def aT.pv(x:aT):PV:= .agg [.t (.leaf (.string x.gName)),.t (.row 1 (a4 (x.gSupertraits))),.t (.leaf (.bool x.gAuto)),.t (.leaf (.bool x.gAssoc)),.t (.row 16 (aD.trs (x.gSignatures)))]
theorem aT.tr_cs(x:aT):x.tr=x.cs:=by
 obtain⟨v0,v1,v2,v3,v4⟩:=x
 simp [aT.tr,aT.cs]
theorem aT.trs_cs{l:List aT}{k:Nat}(h:k<l.length):(aT.trs l)[k]?=some (l[k]).cs:=by rw [← aT.tr_cs];exact aT.trs_get h
def aC.cs(x:aC):List Tr:= [.leaf (.string x.gName),.row 3 (aA.trs (x.gFields))]
theorem aC.tr_cs(x:aC):x.tr=x.cs:=by
 obtain⟨v0,v1⟩:=x
 simp [aC.tr,aC.cs]
theorem aC.trs_cs{l:List aC}{k:Nat}(h:k<l.length):(aC.trs l)[k]?=some (l[k]).cs:=by rw [← aC.tr_cs];exact aC.trs_get h
def aN.cs(x:aN):List Tr:= [.leaf (.string x.gName),.row 1 (a4 (x.gVars)),.row 2 (aC.trs (x.gConstructors))]
def aN.pv(x:aN):PV:= .agg [.t (.leaf (.string x.gName)),.t (.row 1 (a4 (x.gVars))),.t (.row 2 (aC.trs (x.gConstructors)))]
theorem aN.tr_cs(x:aN):x.tr=x.cs:=by
 obtain⟨v0,v1,v2⟩:=x
 simp [aN.tr,aN.cs]
theorem aN.trs_cs{l:List aN}{k:Nat}(h:k<l.length):(aN.trs l)[k]?=some (l[k]).cs:=by rw [← aN.tr_cs];exact aN.trs_get h
def aF.cs(x:aF):List Tr:= [.leaf (.string x.gTrait),.leaf (.int .i64 x.gType.gKind),.leaf (.string x.gType.gName),.row 3 (aA.trs (x.gType.gArgs))]
def aF.pv(x:aF):PV:= .agg [.t (.leaf (.string x.gTrait)),.t (.leaf (.int .i64 x.gType.gKind)),.t (.leaf (.string x.gType.gName)),.t (.row 3 (aA.trs (x.gType.gArgs)))]
theorem aF.tr_cs(x:aF):x.tr=x.cs:=by
 obtain⟨v0,v1⟩:=x
 simp [aF.tr,aF.cs,aA.tr_cs,aA.cs]
theorem aF.trs_cs{l:List aF}{k:Nat}(h:k<l.length):(aF.trs l)[k]?=some (l[k]).cs:=by rw [← aF.tr_cs];exact aF.trs_get h
def aP.cs(x:aP):List Tr:= [.leaf (.string x.gName),.row 1 (a4 (x.gVars)),.leaf (.int .i64 x.gBody.gKind),.leaf (.string x.gBody.gTrait),.leaf (.string x.gBody.gName),.leaf (.int .i64 x.gBody.gN),.leaf (.int .i64 x.gBody.gType.gKind),.leaf (.string x.gBody.gType.gName),.row 3 (aA.trs (x.gBody.gType.gArgs)),.row 9 (aG.trs (x.gBody.gArgs)),.row 11 (bK.trs (x.gBody.gArms))]
theorem aP.tr_cs(x:aP):x.tr=x.cs:=by
 obtain⟨v0,v1,v2⟩:=x
 simp [aP.tr,aP.cs,aG.tr_cs,aG.cs]
theorem aP.trs_cs{l:List aP}{k:Nat}(h:k<l.length):(aP.trs l)[k]?=some (l[k]).cs:=by rw [← aP.tr_cs];exact aP.trs_get h
def aH.cs(x:aH):List Tr:= [.leaf (.string x.gTrait),.row 1 (a4 (x.gVars)),.leaf (.int .i64 x.gHead.gKind),.leaf (.string x.gHead.gName),.row 3 (aA.trs (x.gHead.gArgs)),.row 4 (aF.trs (x.gWhere)),.leaf (.bool x.gDefault),.leaf (.bool x.gHasAssoc),.leaf (.int .i64 x.gAssoc.gKind),.leaf (.string x.gAssoc.gName),.row 3 (aA.trs (x.gAssoc.gArgs)),.row 11 (aP.trs (x.gMethods))]
def aH.pv(x:aH):PV:= .agg [.t (.leaf (.string x.gTrait)),.t (.row 1 (a4 (x.gVars))),.t (.leaf (.int .i64 x.gHead.gKind)),.t (.leaf (.string x.gHead.gName)),.t (.row 3 (aA.trs (x.gHead.gArgs))),.t (.row 4 (aF.trs (x.gWhere))),.t (.leaf (.bool x.gDefault)),.t (.leaf (.bool x.gHasAssoc)),.t (.leaf (.int .i64 x.gAssoc.gKind)),.t (.leaf (.string x.gAssoc.gName)),.t (.row 3 (aA.trs (x.gAssoc.gArgs))),.t (.row 11 (aP.trs (x.gMethods)))]
theorem aH.tr_cs(x:aH):x.tr=x.cs:=by
 obtain⟨v0,v1,v2,v3,v4,v5,v6,v7⟩:=x
 simp [aH.tr,aH.cs,aA.tr_cs,aA.cs]
theorem aH.trs_cs{l:List aH}{k:Nat}(h:k<l.length):(aH.trs l)[k]?=some (l[k]).cs:=by rw [← aH.tr_cs];exact aH.trs_get h
def aU.cs(x:aU):List Tr:= [.leaf (.string x.gName),.leaf (.int .i64 x.gType.gKind),.leaf (.string x.gType.gName),.row 3 (aA.trs (x.gType.gArgs))]
theorem aU.tr_cs(x:aU):x.tr=x.cs:=by
 obtain⟨v0,v1⟩:=x
 simp [aU.tr,aU.cs,aA.tr_cs,aA.cs]
theorem aU.trs_cs{l:List aU}{k:Nat}(h:k<l.length):(aU.trs l)[k]?=some (l[k]).cs:=by rw [← aU.tr_cs];exact aU.trs_get h
def aM.cs(x:aM):List Tr:= [.leaf (.string x.gName),.row 1 (a4 (x.gVars)),.row 4 (aF.trs (x.gWhere)),.row 4 (aU.trs (x.gParams)),.leaf (.int .i64 x.gResult.gKind),.leaf (.string x.gResult.gName),.row 3 (aA.trs (x.gResult.gArgs)),.leaf (.int .i64 x.gBody.gKind),.leaf (.string x.gBody.gTrait),.leaf (.string x.gBody.gName),.leaf (.int .i64 x.gBody.gN),.leaf (.int .i64 x.gBody.gType.gKind),.leaf (.string x.gBody.gType.gName),.row 3 (aA.trs (x.gBody.gType.gArgs)),.row 9 (aG.trs (x.gBody.gArgs)),.row 11 (bK.trs (x.gBody.gArms))]
def aM.pv(x:aM):PV:= .agg [.t (.leaf (.string x.gName)),.t (.row 1 (a4 (x.gVars))),.t (.row 4 (aF.trs (x.gWhere))),.t (.row 4 (aU.trs (x.gParams))),.t (.leaf (.int .i64 x.gResult.gKind)),.t (.leaf (.string x.gResult.gName)),.t (.row 3 (aA.trs (x.gResult.gArgs))),.t (.leaf (.int .i64 x.gBody.gKind)),.t (.leaf (.string x.gBody.gTrait)),.t (.leaf (.string x.gBody.gName)),.t (.leaf (.int .i64 x.gBody.gN)),.t (.leaf (.int .i64 x.gBody.gType.gKind)),.t (.leaf (.string x.gBody.gType.gName)),.t (.row 3 (aA.trs (x.gBody.gType.gArgs))),.t (.row 9 (aG.trs (x.gBody.gArgs))),.t (.row 11 (bK.trs (x.gBody.gArms)))]
theorem aM.tr_cs(x:aM):x.tr=x.cs:=by
 obtain⟨v0,v1,v2,v3,v4,v5⟩:=x
 simp [aM.tr,aM.cs,aA.tr_cs,aA.cs,aG.tr_cs,aG.cs]
theorem aM.trs_cs{l:List aM}{k:Nat}(h:k<l.length):(aM.trs l)[k]?=some (l[k]).cs:=by rw [← aM.tr_cs];exact aM.trs_get h
def aL.cs(x:aL):List Tr:= [.leaf (.string x.gName),.row 1 (a4 (x.gDeps)),.row 5 (aT.trs (x.gTraits)),.row 3 (aN.trs (x.gDataTypes)),.row 12 (aH.trs (x.gInstances)),.row 16 (aM.trs (x.gFunctions))]
def aL.pv(x:aL):PV:= .agg [.t (.leaf (.string x.gName)),.t (.row 1 (a4 (x.gDeps))),.t (.row 5 (aT.trs (x.gTraits))),.t (.row 3 (aN.trs (x.gDataTypes))),.t (.row 12 (aH.trs (x.gInstances))),.t (.row 16 (aM.trs (x.gFunctions)))]
theorem aL.tr_cs(x:aL):x.tr=x.cs:=by
 obtain⟨v0,v1,v2,v3,v4,v5⟩:=x
 simp [aL.tr,aL.cs]
theorem aL.trs_cs{l:List aL}{k:Nat}(h:k<l.length):(aL.trs l)[k]?=some (l[k]).cs:=by rw [← aL.tr_cs];exact aL.trs_get h
def aI.cs(x:aI):List Tr:= [.row 6 (aL.trs (x.gPackages))]
def aI.pv(x:aI):PV:= .agg [.t (.row 6 (aL.trs (x.gPackages)))]
theorem aI.tr_cs(x:aI):x.tr=x.cs:=by
 obtain⟨v0⟩:=x
 simp [aI.tr,aI.cs]
theorem aI.trs_cs{l:List aI}{k:Nat}(h:k<l.length):(aI.trs l)[k]?=some (l[k]).cs:=by rw [← aI.tr_cs];exact aI.trs_get h
def aJ.cs(x:aJ):List Tr:= [.leaf (.string x.gGoal.gTrait),.leaf (.int .i64 x.gGoal.gType.gKind),.leaf (.string x.gGoal.gType.gName),.row 3 (aA.trs (x.gGoal.gType.gArgs)),.leaf (.int .i64 x.gFrom),.row 1 (qF (x.gSteps))]
def aJ.pv(x:aJ):PV:= .agg [.t (.leaf (.string x.gGoal.gTrait)),.t (.leaf (.int .i64 x.gGoal.gType.gKind)),.t (.leaf (.string x.gGoal.gType.gName)),.t (.row 3 (aA.trs (x.gGoal.gType.gArgs))),.t (.leaf (.int .i64 x.gFrom)),.t (.row 1 (qF (x.gSteps)))]
theorem aJ.tr_cs(x:aJ):x.tr=x.cs:=by
 obtain⟨v0,v1,v2⟩:=x
 simp [aJ.tr,aJ.cs,aF.tr_cs,aF.cs]
theorem aJ.trs_cs{l:List aJ}{k:Nat}(h:k<l.length):(aJ.trs l)[k]?=some (l[k]).cs:=by rw [← aJ.tr_cs];exact aJ.trs_get h
end Go.Proofs.YtpioomclpaiomaaGreat

namespace Go.Proofs.YtpioomclpaiomaaGreat
set_option linter.unusedSimpArgs false
set_option linter.unusedVariables false
open Go.RowKit Go.WalkArith Go.IntWalk Go.WideShapes
section
variable {P:Program} {C:qB} {n:Nat} {s:AS} {Q:Exit→AS→Prop} {o:Oper} {ops:Array Oper} {rest:List Oper}
theorem AL.splitB(d:Nat){b:Bool}{l:List Oper}(_hb:s.lk d=some (.t (.leaf (.bool b))))(h1:b=true→AL P C n ops l Q s)(h2:b=false→AL P C n ops l Q s):AL P C n ops l Q s:=by
 cases b
 ·exact h2 rfl
 ·exact h1 rfl
theorem AL.cons_gv{s1:AS}{j d:Nat}{b c:Bool}(hg:o.guard=some (j,c))(hj:(ops[j]?).bind (·.dst)=some d)(hb:s.lk d=some (.t (.leaf (.bool b))))(hv:b=c)(ho:aX P C n o s s1)(h:AL P C n ops rest Q s1):AL P C n ops (o::rest) Q s:=by
 subst hv
 exact AL.cons_g hg hj hb ho h
theorem AL.skip_v{j d:Nat}{b c e:Bool}(hg:o.guard=some (j,c))(hj:(ops[j]?).bind (·.dst)=some d)(hb:s.lk d=some (.t (.leaf (.bool b))))(hv:b=e)(hne:(e==c)=false)(h:AL P C n ops rest Q (s.delO o.dst)):AL P C n ops (o::rest) Q s:=by
 subst hv
 exact AL.skip hg hj hb hne h
theorem aX.pickT{x y z:Operand}{b:Bool}{p:PV}(ho:o.op= .pick x y z)(hd:bQ o.dst n=true)(hx:s.ev x=some (.t (.leaf (.bool b))))(hb:b=true)(hy:s.ev y=some p):aX P C n o s (s.putO o.dst p):=
 aX.pick ho hd hx (fun _=>hy) (q:=p) (fun h=>by rw [hb] at h;cases h)
theorem aX.pickF{x y z:Operand}{b:Bool}{p:PV}(ho:o.op= .pick x y z)(hd:bQ o.dst n=true)(hx:s.ev x=some (.t (.leaf (.bool b))))(hb:b=false)(hz:s.ev z=some p):aX P C n o s (s.putO o.dst p):=
 aX.pick ho hd hx (fun h=>by rw [hb] at h;cases h) (q:=p) (fun _=>hz)
theorem aX.lenN{T:TypeId}{x:Operand}{p:PV}{sz N:Nat}{es:List (List Tr)}{E:Nat×Nat×Nat}(ho:o.op= .call { callee:= .builtin .len,args:= #[x],argTypes:= #[T] })(hd:bQ o.dst n=true)(hx:s.ev x=some p)(hp:mL p=some (sz,es))(hT:elemOf? P T=some E)(hl:es.length=N):
 aX P C n o s (s.putO o.dst (.t (.leaf (.int .i64 (N:Int))))):=by
 subst hl
 exact aX.len (ty:=0) ho hd hx hp hT
theorem P0(i:Nat){p:PV}{sz N:Nat}{es:List (List Tr)}(hx:s.lk i=some p)(hp:mL p=some (sz,es))(hl:es.length=N): ∀m a w,RA C n s m a w→N≤9223372036854775807:=by
 subst hl
 exact anX i hx hp
theorem AK{st':cY}(h:C.st=⟨[],[]⟩):kU C.st st':=by rw [h];exact kU.nil
end
theorem a8{a b:Nat}(h:decide ((a:Int)<(b:Int))=true):a<b:=by
 have:=of_decide_eq_true h
 omega
theorem aiR{a b:Nat}(h:decide ((a:Int)<(b:Int))=false):b≤a:=by
 have:=of_decide_eq_false h
 omega
end Go.Proofs.YtpioomclpaiomaaGreat

namespace Go.Proofs.YtpioomclpaiomaaGreat
set_option linter.unusedSimpArgs false
set_option linter.unusedVariables false
open Go.RowKit Go.WalkArith Go.IntWalk Go.WideShapes
section
variable {P:Program} {C:qB} {n:Nat} {s:AS} {Q:Exit→AS→Prop} {o:Oper}
theorem aX.quietX{p:PV}(hd:bQ o.dst n=true)(h: ∀m a w,RA C n s m a w→ ∃v w1,(execOp a.eval o).run P w= .ok (.value v) w1∧JL w w1∧RV (j9 C.av s.st m) s.st m w1 p v):aX P C n o s (s.putO o.dst p):=
 aX.run hd (s1:=s) (fun m a w hr=>by
  obtain⟨v,w1,h1,h2,h3⟩:=h m a w hr
  exact⟨v,m,w1,h1,Ev.later h2,hr.sto.later h2,h3⟩) rfl
theorem aX.buildSlice_run{T E sz by_ len:Nat}{parts:Array (Nat×Operand)}{ps:List (Nat×List PV)}{zs cs:List PV}(ho:o.op= .buildSlice T len parts)(hT:elemOf? P T=some (E,sz,by_))(hz:cS P E=some zs)(hp:n7 s parts.toList=some ps)
 (hc:s9 (fun i=>some (i*sz,sz)) (List.replicate len zs).flatten ps=some cs) (hcl:cs.length=len*sz) (hsz:0<sz) (hzl:zs.length=sz) (hsm:len*sz≤16777216) {m:jE} {a:Act} {w:World} (h:RA C n s m a w):
 ∃us,(execOp a.eval o).run P w= .ok (.value (.slice (some ⟨w.heap.size,0,none⟩) len len)) (w.alloc (.cells ⟨us⟩ E))∧gD (j9 C.av s.st m) s.st m w cs us∧len≤maxLen:=by
 obtain⟨i,hu,hi,hs,hby⟩:=elemOf?.spec hT
 obtain⟨i',z,hi',hzz,hr⟩:=cS.spec hz
 rw [hi] at hi'
 cases hi'
 have hzv:=hr (j9 C.av s.st m) s.st m w
 have hzs:z.cells.size=sz:=by have:=hzv.length;rw [hzl] at this;simpa using this.symm
 have hrl: ∀e∈List.replicate len zs,e.length=sz:=fun e he=>by rw [(List.mem_replicate.1 he).2];exact hzl
 have hzero:gD (j9 C.av s.st m) s.st m w (List.replicate len zs).flatten ((List.range (len*sz)).map (fun q=>z.cells[q%z.cells.size]!)):=by
  refine gD.of_get (by rw [oT hrl];simp) fun j p hj=>?_
  have hjl:j<len*sz:=by have:=c4 hj;rw [oT hrl] at this;simpa using this
  have hj1:j/sz<len:=by rw [Nat.div_lt_iff_lt_mul hsz];exact hjl
  have hj2:j%sz<zs.length:=by rw [hzl];exact Nat.mod_lt _ hsz
  have hpj:=rY (i:=j/sz) (j:=j%sz) (e:=zs) (d:=zs[j%sz]) hrl (by rw [List.getElem?_replicate,if_pos hj1]) (List.getElem?_eq_getElem hj2)
  rw [show j/sz*sz+j%sz=j by rw [Nat.mul_comm];exact Nat.div_add_mod j sz,hj] at hpj
  cases hpj
  obtain⟨v,hv,hrv⟩:=hzv.get (List.getElem?_eq_getElem hj2)
  refine⟨v,?_,hrv⟩
  rw [List.getElem?_map,List.getElem?_range hjl]
  simp only [Option.map_some,hzs]
  rw [Array.getElem?_toList] at hv
  obtain⟨hlt,hve⟩:=Array.getElem?_eq_some_iff.1 hv
  rw [getElem!_pos z.cells _ hlt,hve]
 obtain⟨us,h2,h3⟩:=JV (E4 h hp) hzero hc
 have hul:us.length=len*sz:=by have:=h3.length;rw [hcl] at this;exact this.symm
 have hrun:(Instr.buildSlice T len (parts.map fun(i,x)=>(i,a.eval x))).run P w= .ok (.slice (some ⟨w.heap.size,0,none⟩) len len) (w.alloc (.cells ⟨us⟩ E)):=by
  have hfill:Instr.fill (fun i=>some (i*sz,sz)) ((Array.range (len*sz)).map (z.cells[· %z.cells.size]!)) (parts.map fun(i,x)=>(i,a.eval x)).toList=some ⟨us⟩:=by
   rw [Array.toList_map,← h2]
   congr 1
   apply Array.ext'
   simp
  by_cases h0:len*sz=0
  ·have hl0:len=0:=by
    rcases Nat.mul_eq_zero.1 h0 with h|h
    ·exact h
    ·omega
   subst hl0
   rw [Nat.zero_mul] at hfill
   simp [Instr.buildSlice,run_underlying hu,Go.sizeOf,typeInfo,hi,hs,newRow]
   have e0:(Array.range 0).map (fun q=>z.cells[q%z.cells.size]!)= #[]:=by simp
   rw [e0] at hfill
   simp at hfill
   have e1:(Array.range 0).map (fun _=>(default:Value))= #[]:=by simp
   rw [e1,hfill]
   simp
  ·exact run_buildSlice w T E len _ ⟨us⟩ i z hu hi hzz (by rw [hs];omega) (by rw [hs];exact h0) (by rw [hs];exact hfill)
 refine⟨us,?_,h3,by have:=Nat.le_mul_of_pos_right len hsz;unfold maxLen;omega⟩
 unfold execOp
 simp [ho,hrun]
theorem sG.length{ps qs:List PV}(h:sG ps qs):ps.length=qs.length:=by
 induction ps generalizing qs with
 |nil=>cases h;rfl
 |cons p ps ih=>cases h with|cons _ k=>rw [List.length_cons,List.length_cons,ih k]
theorem aX.buildSlice_lit{T E sz by_ len:Nat}{parts:Array (Nat×Operand)}{ps:List (Nat×List PV)}{zs cs:List PV}{es:List (List Tr)}(ho:o.op= .buildSlice T len parts)(hT:elemOf? P T=some (E,sz,by_))(hz:cS P E=some zs)(hp:n7 s parts.toList=some ps)
 (hc:s9 (fun i=>some (i*sz,sz)) (List.replicate len zs).flatten ps=some cs) (hle:sG cs (es.flatten.map PV.t)) (hel:es.length=len) (hes: ∀e∈es,e.length=sz) (hsz:0<sz) (hzl:zs.length=sz) (hsm:len*sz≤16777216):
 ∀m a w,RA C n s m a w→ ∃v w1,(execOp a.eval o).run P w= .ok (.value v) w1∧JL w w1∧RV (j9 C.av s.st m) s.st m w1 (.lit sz es) v:=by
 intro m a w h
 obtain⟨us,h1,h3,hm⟩:=aX.buildSlice_run ho hT hz hp hc (by rw [hle.length,List.length_map,oT hes,hel]) hsz hzl hsm h
 have h4:=sG.rv hle h3
 have hx:JL w (w.alloc (.cells ⟨us⟩ E)):= .alloc (.refl _) _
 refine⟨.slice (some ⟨w.heap.size,0,none⟩) len len,w.alloc (.cells ⟨us⟩ E),h1,hx,?_⟩
 have hget: ∀q e,es[q]?=some e→ ∀j d,e[j]?=some d→ ∃v,us[q*sz+j]?=some v∧cJ (j9 C.av s.st m) (w.alloc (.cells ⟨us⟩ E)) d v:=fun q e hq j d hj=>by
  have hf:=rY (sz:=sz) hes hq hj
  obtain⟨v,hv,hrv⟩:=h4.get (j:=q*sz+j) (p:= .t d) (by rw [List.getElem?_map,hf];rfl)
  exact⟨v,hv,cJ.ext hrv hx⟩
 have:=cJ.row (ok:=j9 C.av s.st m) (w:=w.alloc (.cells ⟨us⟩ E)) (es:=es) (sz:=sz) (a:=some ⟨w.heap.size,0,none⟩) (cap:=len) (fun q j=>(us[q*sz+j]?).getD undef) (by omega) hm (fun _=>⟨w.heap.size,0,rfl,by simp,fun q e hq j d hd=>⟨P3 h.sto (Nat.le_refl _) _,?_⟩⟩) (fun q e hq j d hd=>?_)
 ·subst hel
  exact⟨this,_,rfl⟩
 ·obtain⟨v,hv,-⟩:=hget q e hq j d hd
  rw [Nat.zero_add,(OB.new w E ⟨us⟩).cell,hv]
  simpa using hv
 ·obtain⟨v,hv,hr⟩:=hget q e hq j d hd
  rw [hv]
  exact hr
theorem aX.buildSliceL{T E sz by_ len:Nat}{parts:Array (Nat×Operand)}{ps:List (Nat×List PV)}{zs cs:List PV}{es:List (List Tr)}(ho:o.op= .buildSlice T len parts)(hd:bQ o.dst n=true)(hT:elemOf? P T=some (E,sz,by_))(hz:cS P E=some zs)(hp:n7 s parts.toList=some ps)
 (hc:s9 (fun i=>some (i*sz,sz)) (List.replicate len zs).flatten ps=some cs) (hle:sG cs (es.flatten.map PV.t)) (hel:es.length=len) (hes: ∀e∈es,e.length=sz) (hsz:0<sz) (hzl:zs.length=sz) (hsm:len*sz≤16777216):
 aX P C n o s (s.putO o.dst (.lit sz es)):=
 aX.quietX hd (aX.buildSlice_lit ho hT hz hp hc hle hel hes hsz hzl hsm)
theorem aX.less{p q:PV}(hle:PV.Le p q)(hdl:bQ o.dst n=true)(h: ∀m a w,RA C n s m a w→ ∃v w1,(execOp a.eval o).run P w= .ok (.value v) w1∧JL w w1∧RV (j9 C.av s.st m) s.st m w1 p v):aX P C n o s (s.putO o.dst q):=
 aX.quietX hdl fun m a w hr=>by
  obtain⟨v,w1,h1,h2,h3⟩:=h m a w hr
  exact⟨v,w1,h1,h2,hle.rv h3⟩
theorem aX.buildSliceQ{T E sz by_ len:Nat}{parts:Array (Nat×Operand)}{ps:List (Nat×List PV)}{zs cs:List PV}{es:List (List Tr)}(ho:o.op= .buildSlice T len parts)(hd:bQ o.dst n=true)(hT:elemOf? P T=some (E,sz,by_))(hz:cS P E=some zs)(hp:n7 s parts.toList=some ps)
 (hc:s9 (fun i=>some (i*sz,sz)) (List.replicate len zs).flatten ps=some cs) (hle:sG cs (es.flatten.map PV.t)) (hel:es.length=len) (hes: ∀e∈es,e.length=sz) (hsz:0<sz) (hzl:zs.length=sz) (hsm:len*sz≤16777216):
 aX P C n o s (s.putO o.dst (.t (.row sz es))):=
 aX.less (.lit sz es) hd (aX.buildSlice_lit ho hT hz hp hc hle hel hes hsz hzl hsm)
def dF.steps(P:Program)(C:qB)(n:Nat)(D:dF):Nat→List Oper→Prop
 |_,[]=>True
 |i,o::l=>D.step P C n i o∧dF.steps P C n D (i+1) l
theorem dF.steps_get{D:dF}: ∀ {l:List Oper} {k:Nat},D.steps P C n k l→ ∀(i:Nat) (o:Oper),l[i]?=some o→D.step P C n (k+i) o
 | [],_,_,i,o,h=>by simp at h
 |x::l,k,hs,0,o,h=>by simp at h;subst h;exact hs.1
 |x::l,k,hs,i+1,o,h=>by
  have:=dF.steps_get (l:=l) (k:=k+1) hs.2 i o (by simpa using h)
  rwa [show k+1+i=k+(i+1) by omega] at this
theorem aQ.drawnL{id:Nat}{l:List Oper}{s1:AS}(D:dF)(hD:D.ops=l.toArray)(hm:P.follows .mixedOrders=true)(hok:D.ok=true)(henv:s.env=D.env0)(hst:s.st=D.F 0 false)(hsteps:D.steps P C n 0 l)
 (h1:(⟨((List.range D.ops.size).filterMap (D.gX (Array.replicate D.ops.size true)))++D.env0,D.F D.effs.length D.alloc.isSome⟩:AS)=s1) (h:Q .normal s1):aQ P C n (.region id l.toArray true) Q s:=by
 subst h1
 rw [← hD]
 refine aQ.drawn D hm hok henv hst (fun i o ho=>?_) h
 have:=dF.steps_get hsteps i o (by rw [hD] at ho;simpa using ho)
 rwa [Nat.zero_add] at this
theorem dF.step.q1{D:dF}{i:Nat}{o:Oper}(lo:Nat)(wt:D.want o=some true)(hk:D.kind i= .q lo lo)
 (h: ∀(s':AS) (b:Bool),s'.st=D.F lo b→(∀t src p,(t,src)∈D.ins i→D.pv (t,src)=some p→s'.lk t=some p)→ ∃p,D.out i=some p∧aX P C n o s' (s'.putO o.dst p)):D.step P C n i o:=
 .inl ⟨wt,by
  unfold dF.does
  rw [hk]
  exact fun s' j b h1 h2 hs hl=>by
   obtain rfl:j=lo:=by omega
   exact h s' b hs hl⟩
end
end Go.Proofs.YtpioomclpaiomaaGreat

namespace Go.Proofs.YtpioomclpaiomaaGreat
set_option linter.unusedSimpArgs false
set_option linter.unusedVariables false
open Go.RowKit
def aeK:jE:=⟨fun _=>0,fun _=>none⟩
def av0:Nat→Nat→Prop:=fun _ _=>False
theorem ok0(b o:Nat):j9 av0 ⟨[],[]⟩ aeK b o:=⟨fun h=>h,fun k x h=>by simp at h,fun r row g c h=>by simp at h⟩
theorem apS(w:World):fJ av0 ⟨[],[]⟩ aeK w where
 box:=fun k x h=>by simp at h
 binj:=fun k k' x x' h=>by simp at h
 row:=fun r row h=>by simp at h
 rinj:=fun r r' row row' g c c' h=>by simp at h
 br:=fun k x r row g c h=>by simp at h
 avlt:=fun b o h=>h.elim
 avr:=fun r row g c h=>by simp at h
 avb:=fun k x h=>by simp at h
theorem Ev.ext{m m':jE}{w w':World}{st':cY}(h:Ev ⟨[],[]⟩ m w st' m' w'):JL w w' where
 os:=h.os
 tape:=h.tape
 output:=h.output
 size:=h.size
 block:=fun b hb=>h.blk b hb (fun k x h=>by simp at h) (fun r row g c h=>by simp at h)
abbrev ah3(w:World)(ps:List PV)(vs:List Value):Prop:=gD (j9 av0 ⟨[],[]⟩ aeK) ⟨[],[]⟩ aeK w ps vs
abbrev RV0(w:World)(p:PV)(v:Value):Prop:=RV (j9 av0 ⟨[],[]⟩ aeK) ⟨[],[]⟩ aeK w p v
theorem RV0.agg{w:World}{ts:List Tr}{cs:List Value}(h:n6 w ts cs):RV0 w (.agg (ts.map PV.t)) (.agg ⟨cs⟩):=⟨cs,rfl,h.toRVL fun b o _=>ok0 b o⟩
theorem RV0.t{w:World}{t:Tr}{v:Value}(h:LE w t v):RV0 w (.t t) v:=h.repM fun b o _=>ok0 b o
theorem b4.plain{P:Program}{f:FuncId}{args:List PV}{d:Value}(h:b4 P f args (.t (.leaf d))){w:World}{vals:List Value}(hv:ah3 w args vals):Calls P f ⟨vals⟩ w fun e w'=>e= .returned d∧JL w w':=
 (h av0 aeK w vals (apS w) hv).mono fun e w'=>by
  rintro⟨res,st',m',v,rfl,⟨rfl,rfl⟩,-,he,hr⟩
  exact⟨by rw [(cJ.leaf_eq hr).1],he.ext⟩
end Go.Proofs.YtpioomclpaiomaaGreat

namespace Go.Proofs.YtpioomclpaiomaaGreat
set_option linter.unusedSimpArgs false
set_option linter.unusedVariables false
open Go.RowKit Go.WalkArith Go.IntWalk Go.WideShapes
theorem pL(l:List ByteArray): ∀e∈a4 l,e.length=1:=fun e he=>by
 unfold a4 at he
 obtain⟨x,_,rfl⟩:=List.mem_map.1 he
 rfl
theorem uF(a b:List ByteArray):a4 a++a4 b=a4 (a++b):=by simp [a4]
section
variable {P:Program} {C:qB} {n:Nat} {s:AS} {Q:Exit→AS→Prop} {o:Oper}
theorem aQ.wk{s':AS}{c:Code}(hw:Wk C n s s')(h:aQ P C n c Q s'):aQ P C n c Q s:=fun m a w hr=>by
 obtain⟨m',h'⟩:=hw m a w hr
 exact h m' a w h'
theorem aX.appendE{T E sz by_:Nat}{x y:Operand}{es es2 es3:List (List Tr)}{r:Nat}{row:pM}{p:PV}(ho:o.op= .call { callee:= .builtin .append,args:= #[x,y],argTypes:= #[T,T] })(hd:bQ o.dst n=true)
 (hx:s.ev x=some (.acc sz es r)) (hrow:s.st.rows[r]?=some row) (hes:row.es=es) (hE:row.E=E) (hw:row.whole=false) (hy:s.ev y=some p) (hp:mL p=some (sz,es2)) (h2: ∀e∈es2,e.length=sz)
 (hT:elemOf? P T=some (E,sz,by_)) (hz:(P.info? E).bind (fun i=>i.zero.map (fun z=>z.cells.size))=some sz) (hb:0<by_) (hlen:(es.length+es2.length)*by_≤140737488355328) (h3:es++es2=es3):
 aX P C n o s ((⟨s.env,s.st.setRow r { row with es:=es3 }⟩:AS).putO o.dst (.acc sz es3 r)):=by
 subst h3
 exact aX.append ho hd hx hrow hes hE hw hy hp h2 hT hz hb hlen
theorem aX.callPE{f:FuncId}{fn:Func}{xs:List Operand}{ts:Array TypeId}{ps qs:List PV}{res:PV}{pre st' S:cY}(fb fr:List Nat)(ho:o.op= .call { callee:= .value (.func f),args:=⟨xs⟩,argTypes:=ts })(hd:bQ o.dst n=true)(hf:P.funcs[f]?=some fn)(hnm:(fn.name== "runtime.NumGoroutine")=false)(hb:fn.body.isNone=false)
 (hx:xs.map s.ev=ps.map some) (hS:s.st=S) (hp:mD S pre fb fr) (hle:sG ps (BN fb fr qs)) (hok:l9 pre qs=true) (hbl:st'.boxes.length=pre.boxes.length) (hrl:st'.rows.length=pre.rows.length) (hc:cP P f qs pre (fun r t=>r=res∧t=st')):
 aX P C n o s ((⟨s.env,S.over st' fb fr⟩:AS).putO o.dst (PV.ren fb fr res)):=by
 subst hS
 exact aX.callP fb fr ho hd hf hnm hb hx hp hle hok hbl hrl hc
end
theorem cP.regNil{P:Program}{f:FuncId}{l1 l2:List PV}{E sz:Nat}{q res:PV}{t:cY}(hsz:0<sz)(h:cP P f (l1++ .acc sz [] 0::l2) ⟨[],[⟨E,sz,[],false⟩]⟩ (fun r st'=>r=res∧st'=t))(hle:PV.Le res q)(hk:PV.okIn ⟨[],[]⟩ q=true):b4 P f (l1++ .nil::l2) q:=fun av m w vals hst hv=>by
 have hE:=LV (row:=⟨E,sz,[],false⟩) hst
 have hS:=S9 (row:=⟨E,sz,[],false⟩) hst hsz rfl
 have hargs:gD (j9 av (cY.addRow ⟨[],[]⟩ ⟨E,sz,[],false⟩) ⟨m.ρ,xX m.γ 0 none⟩) (cY.addRow ⟨[],[]⟩ ⟨E,sz,[],false⟩) ⟨m.ρ,xX m.γ 0 none⟩ w (l1++ .acc sz [] 0::l2) vals:=by
  have h0:=gD.mono hE _ _ hv
  have hlen:=h0.length
  have key: ∀(l:List PV) (vs:List Value),gD (j9 av (cY.addRow ⟨[],[]⟩ ⟨E,sz,[],false⟩) ⟨m.ρ,xX m.γ 0 none⟩) (cY.addRow ⟨[],[]⟩ ⟨E,sz,[],false⟩) ⟨m.ρ,xX m.γ 0 none⟩ w (l++ .nil::l2) vs→
   gD (j9 av (cY.addRow ⟨[],[]⟩ ⟨E,sz,[],false⟩) ⟨m.ρ,xX m.γ 0 none⟩) (cY.addRow ⟨[],[]⟩ ⟨E,sz,[],false⟩) ⟨m.ρ,xX m.γ 0 none⟩ w (l++ .acc sz [] 0::l2) vs:=by
   intro l
   induction l with
   |nil=>
    intro vs hh
    match vs,hh with
    |v::vs,hh=>
     refine⟨?_,hh.2⟩
     obtain rfl:=(show v=_ from hh.1)
     exact⟨⟨E,sz,[],false⟩,rfl,rfl,Nat.le_refl _,cJ.row (es:= []) (fun _ _=>undef) (by simp) (by unfold maxLen;omega) (by simp) (by simp),fun _=>by simp [xX,XC]⟩
    | [],hh=>exact hh.elim
   |cons p l ih=>
    intro vs hh
    match vs,hh with
    |v::vs,hh=>exact⟨hh.1,ih vs hh.2⟩
    | [],hh=>exact hh.elim
  exact key l1 vals h0
 refine(h av _ w vals hS hargs).mono fun e w'=>?_;rintro⟨r,st',m',v,k1,⟨rfl,rfl⟩,k3,k4,k5⟩
 have hl:nL st' ⟨[],[]⟩:=⟨fun k x' hx=>by simp at hx,fun r row' hr=>by simp at hr⟩
 exact⟨q,⟨[],[]⟩,m',v,k1,⟨rfl,rfl⟩,hl.sto k3,hl.ev (hE.trans k4) kU.nil,hl.rv q _ hk (hle.rv k5)⟩
end Go.Proofs.YtpioomclpaiomaaGreat

namespace Go.Proofs.YtpioomclpaiomaaGreat
set_option linter.unusedSimpArgs false
set_option linter.unusedVariables false
open Go.RowKit Go.WalkArith Go.IntWalk Go.WideShapes
theorem lC(b:Bool):b=true∨b=false:=by cases b<;>simp
section
variable {P:Program} {C:qB} {n:Nat} {s:AS} {o:Oper}
theorem cE(k j:Nat){bx:c5}{p:PV}{sz N:Nat}{es:List (List Tr)}(hb:s.st.boxes[k]?=some (some bx))(hx:bx.cells[j]?=some p)(hp:mL p=some (sz,es))(hl:es.length=N): ∀m a w,RA C n s m a w→N≤9223372036854775807:=by
 subst hl
 exact al4 k j hb hx hp
theorem aX.indexI{T E sz by_:Nat}{x i:Operand}{p:PV}{es:List (List Tr)}{e:List Tr}{y:Int}(ho:o.op= .indexAddr T x i)(hd:bQ o.dst n=true)(hx:s.ev x=some p)(hp:mL p=some (sz,es))(hi:s.ev i=some (.t (.leaf (.int .i64 y))))(h0:0≤y)
 (he:es[y.toNat]?=some e) (hT:elemOf? P T=some (E,sz,by_)):aX P C n o s (s.putO o.dst (.eptr e)):=
 aX.index (k:=y.toNat) ho hd hx hp (by rw [hi,Int.toNat_of_nonneg h0]) he hT
end
end Go.Proofs.YtpioomclpaiomaaGreat

namespace Go.Proofs.YtpioomclpaiomaaGreat
set_option linter.unusedSimpArgs false
set_option linter.unusedVariables false
open Go.RowKit Go.WalkArith Go.IntWalk Go.WideShapes
theorem LX{st:cY}{m:jE}{w w':World}{x:c5}{b:Nat}(hx:JL w w')(hb:w.heap.size≤b):Ev st m w (st.addBox x) ⟨xX m.ρ st.boxes.length b,m.γ⟩ w':=by
 refine⟨hx.os,hx.tape,hx.output,hx.size,fun b hb _ _=>hx.block b hb,fun b o hb _=>jS (hx.block b hb),fun c o hc h=>⟨fun k y hk=>?_,h.2⟩,fun k y hk=>⟨⟨y,?_⟩,?_⟩,fun k y hk=>?_,fun _ row h=>⟨row,h,rfl,Nat.le_refl _,fun _=>rfl,fun h=>⟨h,rfl⟩⟩,fun _ row _ c h h'=> .inl ⟨row,c,h,h'⟩⟩
 ·rcases fP hk with⟨h1,h2⟩|⟨rfl,rfl⟩
  ·simp only [dJ (show k≠st.boxes.length by omega)]
   exact h.1 k y h2
  ·simp only [cB]
   omega
 ·show(st.boxes++ [some x])[k]?=_
  rw [List.getElem?_append_left (c4 hk)];exact hk
 ·exact dJ (by have:=c4 hk;omega)
 ·rcases fP hk with⟨h1,h2⟩|⟨rfl,rfl⟩
  ·exact .inl ⟨y,h2⟩
  ·exact .inr (by simpa [cB] using hb)
theorem TA{av:Nat→Nat→Prop}{st:cY}{m:jE}{w w':World}{x:c5}{b:Nat}{vs:List Value}(h:fJ av st m w)(hx:JL w w')(hb:w.heap.size≤b)(ho:ZM w' b x.ty vs)
 (hc:gD (j9 av (st.addBox x) ⟨xX m.ρ st.boxes.length b,m.γ⟩) (st.addBox x) ⟨xX m.ρ st.boxes.length b,m.γ⟩ w' x.cells vs):fJ av (st.addBox x) ⟨xX m.ρ st.boxes.length b,m.γ⟩ w':=by
 have he:Ev st m w (st.addBox x) ⟨xX m.ρ st.boxes.length b,m.γ⟩ w':=LX hx hb
 have hw:=fun k y (hk:st.boxes[k]?=some (some y))=>h.box_lt hk
 refine⟨fun k y hk=>?_,fun k k' y y' hk hk' hne=>?_,fun r row hr=>?_,h.rinj,fun k y r row g c hk hr hg=>?_,fun b o hb=>Nat.lt_of_lt_of_le (h.avlt b o hb) hx.size,h.avr,fun k y hk o ha=>?_⟩
 ·rcases fP hk with⟨h1,h2⟩|⟨rfl,rfl⟩
  ·obtain⟨us,k1,k2⟩:=h.box k y h2
   simp only [dJ (show k≠st.boxes.length by omega)]
   exact⟨us,k1.ext hx,gD.mono he _ _ k2⟩
  ·simp only [cB]
   exact⟨vs,ho,hc⟩
 ·rcases fP hk with⟨h1,h2⟩|⟨rfl,rfl⟩<;>rcases fP hk' with⟨h1',h2'⟩|⟨rfl,rfl⟩
  ·simp only [dJ (show k≠st.boxes.length by omega),dJ (show k'≠st.boxes.length by omega)]
   exact h.binj k k' y y' h2 h2' hne
  ·simp only [dJ (show k≠st.boxes.length by omega),cB]
   have:=hw k y h2
   omega
  ·simp only [dJ (show k'≠st.boxes.length by omega),cB]
   have:=hw k' y' h2'
   omega
  ·exact absurd rfl hne
 ·obtain⟨k1,k2,k3⟩:=h.row r row hr
  refine⟨k1,k2,?_⟩
  rcases k3 with k3|⟨g,c,cur,q1,q2,q3,q4,q5,q6⟩
  ·exact .inl k3
  ·exact .inr ⟨g,c,cur,q1,q2.ext hx,q3,q4,q5,RV.mono he (.t _) _ q6⟩
 ·rcases fP hk with⟨h1,h2⟩|⟨rfl,rfl⟩
  ·simp only [dJ (show k≠st.boxes.length by omega)]
   exact h.br k y r row g c h2 hr hg
  ·simp only [cB]
   have:=h.row_lt hr hg
   omega
 ·rcases fP hk with⟨h1,h2⟩|⟨rfl,rfl⟩
  ·simp only [dJ (show k≠st.boxes.length by omega)] at ha
   exact h.avb k y h2 o ha
  ·simp only [cB] at ha
   have:=h.avlt _ _ ha
   omega
def aoD(P:Program)(f:FuncId)(args:List PV)(T:TypeId)(cs:List PV):Prop:=cP P f args ⟨[],[]⟩ (fun r st'=> ∃k,r= .ptr k 0∧st'.rows= []∧(∀i x,st'.boxes[i]?=some (some x)→i=k)∧st'.boxes[k]?=some (some ⟨T,cs⟩))
section
variable {P:Program} {C:qB} {n:Nat} {s:AS} {o:Oper}
theorem aX.callNew{f:FuncId}{fn:Func}{xs:List Operand}{ts:Array TypeId}{ps qs cs:List PV}{T:TypeId}(ho:o.op= .call { callee:= .value (.func f),args:=⟨xs⟩,argTypes:=ts })(hd:bQ o.dst n=true)(hf:P.funcs[f]?=some fn)(hnm:(fn.name== "runtime.NumGoroutine")=false)(hb:fn.body.isNone=false)
 (hx:xs.map s.ev=ps.map some) (hle:sG ps qs) (hfr:jX qs=true) (hfr':jX cs=true) (hc:aoD P f qs T cs):aX P C n o s ((⟨s.env,s.st.addBox ⟨T,cs⟩⟩:AS).putO o.dst (.ptr s.st.boxes.length 0)):=fun m a w h K Q hK=>by
 have h2:=evL h hx
 have h1:(execOp a.eval o).run P w= .ok (.enter f ⟨xs.map a.eval⟩) w:=by
  have hcf:=jQ (P:=P) hf hnm hb
  unfold execOp
  simp only [ho]
  simp [resolve,invoke,Deferred.ofValue,Act.eval,hcf]
 unfold Oper.wp
 rw [h1]
 have h3:=hc (amK C s m w) m w _ (fJ.nil fun b o hb=>hb.1) (jX.rv (fun b o hb hk=>⟨fun hs=>hs.2 hk,fun _ _ h=>by simp at h,fun _ _ _ _ h=>by simp at h⟩) _ _ hfr (sG.rv hle h2))
 refine Calls.mono h3 fun e w'=>?_;rintro⟨r,st',m',v,rfl,⟨k,rfl,hrows,honly,hbox⟩,h4,h5,h6⟩
 have hx:JL w w':=⟨h5.os,h5.tape,h5.output,h5.size,fun b hb=>h5.blk b hb (fun _ _ h=>by simp at h) (fun _ _ _ _ h=>by simp at h)⟩
 have hfresh:w.heap.size≤m'.ρ k:=by
  rcases h5.fresh k _ hbox with⟨x,hx0⟩|hf
  ·simp at hx0
  ·exact hf
 obtain⟨vs,hob,hcs⟩:=h4.box k _ hbox
 have hk: ∀b o,b<w'.heap.size→j9 (amK C s m w) st' m' b o→j9 C.av (s.st.addBox ⟨T,cs⟩) ⟨xX m.ρ s.st.boxes.length (m'.ρ k),m.γ⟩ b o:=fun b o hb hk=>by
  have hnew:m'.ρ k≠b:=hk.2.1 k _ hbox
  have h0:j9 C.av s.st m b o:=by
   rcases Nat.lt_or_ge b w.heap.size with hlt|hge
   ·exact Classical.byContradiction fun hn=>hk.1 ⟨hlt,hn⟩
   ·exact P3 h.sto hge o
  refine⟨h0.1,fun i y hi=>?_,h0.2.2⟩
  rcases fP hi with⟨q1,q2⟩|⟨rfl,rfl⟩
  ·simp only [dJ (show i≠s.st.boxes.length by omega)]
   exact h0.2.1 i y q2
  ·simp only [cB]
   exact hnew
 have hE:Ev s.st m w (s.st.addBox ⟨T,cs⟩) ⟨xX m.ρ s.st.boxes.length (m'.ρ k),m.γ⟩ w':=LX hx hfresh
 have hS:fJ C.av (s.st.addBox ⟨T,cs⟩) ⟨xX m.ρ s.st.boxes.length (m'.ρ k),m.γ⟩ w':=TA h.sto hx hfresh hob (jX.rv hk _ _ hfr' hcs)
 have hv:v= .pointer (some ⟨m'.ρ k,0,none⟩):=h6.2
 exact hK _ _ w' ((h.step hE hS).put (c3 hd) ⟨⟨⟨T,cs⟩,by simp [cY.addBox]⟩,by simp [cB,hv]⟩)
end
end Go.Proofs.YtpioomclpaiomaaGreat

namespace Go.Proofs.YtpioomclpaiomaaGreat
set_option linter.unusedSimpArgs false
set_option linter.unusedVariables false
open Go.RowKit Go.WalkArith Go.IntWalk Go.WideShapes
def BC(x y:Int):Int:=IntKind.wrap .i64 ((BitVec.ofInt 64 x&&& BitVec.ofInt 64 y).toNat:Int)
def Q4(x y:Int):Int:=IntKind.wrap .i64 ((BitVec.ofInt 64 x^^^BitVec.ofInt 64 y).toNat:Int)
def sO(x y:Int):Int:=x.fdiv (2^(min y.toNat 64))
def aR(x:Int):Int:=IntKind.wrap .i64 x
section
variable {P:Program} {C:qB} {n:Nat} {s:AS} {o:Oper}
theorem aX.moveAny{v:Value}(ho:o.op= .assign (.const v)∨o.op= .move (.const v)):aX P C n o s (s.delO o.dst):=fun m a w h K Q hK=>by
 have h1:(execOp a.eval o).run P w= .ok (.value v) w:=by
  unfold execOp
  rcases ho with ho|ho<;>simp [ho,Act.eval]
 unfold Oper.wp
 rw [h1]
 exact hK m _ w (h.del o.dst v)
theorem aX.andI{T yT:TypeId}{x y:Operand}{a b:Int}(ho:o.op= .binOp .and T x y yT)(hd:bQ o.dst n=true)(hx:s.ev x=some (.t (.leaf (.int .i64 a))))(hy:s.ev y=some (.t (.leaf (.int .i64 b)))):
 aX P C n o s (s.putO o.dst (.t (.leaf (.int .i64 (BC a b))))):=aX.bin ho hd hx hy (fun w=>by rfl) (wf_wrap .i64 _)
theorem aX.xorI{T yT:TypeId}{x y:Operand}{a b:Int}(ho:o.op= .binOp .xor T x y yT)(hd:bQ o.dst n=true)(hx:s.ev x=some (.t (.leaf (.int .i64 a))))(hy:s.ev y=some (.t (.leaf (.int .i64 b)))):
 aX P C n o s (s.putO o.dst (.t (.leaf (.int .i64 (Q4 a b))))):=aX.bin ho hd hx hy (fun w=>by rfl) (wf_wrap .i64 _)
theorem aX.shrI{T yT:TypeId}{x y:Operand}{a b:Int}{k:IntKind}(ho:o.op= .binOp .shr T x y yT)(hd:bQ o.dst n=true)(hx:s.ev x=some (.t (.leaf (.int .i64 a))))(hy:s.ev y=some (.t (.leaf (.int k b))))(hb:0≤b)(h1: -9223372036854775808≤sO a b)(h2:sO a b≤9223372036854775807):
 aX P C n o s (s.putO o.dst (.t (.leaf (.int .i64 (sO a b))))):=aX.bin ho hd hx hy (fun w=>by
  have: ¬b<0:=by omega
  simp [eqGuard,binOp,Op.shift,sO,IntKind.bits,this]) (wf_i64 (by omega))
theorem aX.remN{T yT:TypeId}{x y:Operand}{a b:Nat}(ho:o.op= .binOp .rem T x y yT)(hd:bQ o.dst n=true)(hx:s.ev x=some (.t (.leaf (.int .i64 (a:Int)))))(hy:s.ev y=some (.t (.leaf (.int .i64 (b:Int)))))(hb:0<b)(ha:a≤9223372036854775807):
 aX P C n o s (s.putO o.dst (.t (.leaf (.int .i64 ((a%b:Nat):Int))))):=aX.bin ho hd hx hy (fun w=>by
  have: ¬(b:Int)=0:=by omega
  have: ¬b=0:=by omega
  simp [eqGuard,binOp,Op.intDiv,this,Int.tmod_eq_emod_of_nonneg]) (wf_i64 (by have:=Nat.mod_le a b;omega))
theorem aX.convI{S T:TypeId}{x:Operand}{k:IntKind}{a:Int}(ho:o.op= .convert S T x)(hd:bQ o.dst n=true)(hx:s.ev x=some (.t (.leaf (.int k a))))(hS: ∃k',P.underlying S=some (.int k'))(hT:P.underlying T=some (.int .i64))(h1: -9223372036854775808≤a)(h2:a≤9223372036854775807):
 aX P C n o s (s.putO o.dst (.t (.leaf (.int .i64 a)))):=
 aX.quiet (c3 hd) fun m ac w h=>⟨.int .i64 a,by
  have h3:=(cJ.leaf_eq (h.eval hx)).1
  obtain⟨k',hS⟩:=hS
  have hw:IntKind.wrap .i64 a=a:=by unfold IntKind.wrap;simp [IntKind.bits,IntKind.signed];omega
  unfold execOp
  simp [ho,h3,convert,run_underlying hS,run_underlying hT,Conv.intToInt,hw],cJ.leaf (wf_i64 (by omega))⟩
end
end Go.Proofs.YtpioomclpaiomaaGreat

namespace Go.Proofs.YtpioomclpaiomaaGreat
open Go.RowKit Go.Proofs
set_option linter.unusedSimpArgs false
set_option linter.unusedVariables false
def cK(l:List UInt8):List (List Tr):=l.map fun b=> [.leaf (.int .u8 (b.toNat:Int))]
theorem gG(l:List UInt8):(cK l).length=l.length:=by simp [cK]
theorem w6{l:List UInt8}{k:Nat}(h:k<l.length):(cK l)[k]?=some [.leaf (.int .u8 ((l[k]).toNat:Int))]:=by simp [cK,h]
structure DS where
 code:List UInt8
 p:Nat
 h:Int
def DS.cells(d:DS):List PV:= [.t (.row 1 (cK d.code)),.t (.leaf (.int .i64 (d.p:Int))),.t (.leaf (.int .i64 d.h))]
abbrev DS.box(T:TypeId)(d:DS):cY:=⟨[some ⟨T,d.cells⟩],[]⟩
def DQ(h:Int):Int:=aR (aR (h*6364136223846793005)+1442695040888963407)
theorem FN(x:Int): -9223372036854775808≤aR x∧aR x≤9223372036854775807:=by
 unfold aR IntKind.wrap
 simp [IntKind.bits,IntKind.signed]
 omega
theorem PZ{x y:Int}(h: -9223372036854775808≤x∧x≤9223372036854775807): -9223372036854775808≤sO x y∧sO x y≤9223372036854775807:=by
 unfold sO
 generalize min y.toNat 64=k
 have hp:(1:Int)≤2^k:=by
  have:=Nat.one_le_two_pow (n:=k)
  exact_mod_cast this
 generalize(2:Int)^k=d at hp
 rw [Int.fdiv_eq_ediv_of_nonneg _ (by omega)]
 have h1:x/d≤9223372036854775807:=by
  have:x/d≤9223372036854775807/d:=Int.ediv_le_ediv (by omega) h.2
  have:(9223372036854775807:Int)/d≤9223372036854775807:=Int.ediv_le_self _ (by omega)
  omega
 have h2: -9223372036854775808≤x/d:=by
  rw [Int.le_ediv_iff_mul_le (by omega)]
  omega
 exact⟨h2,h1⟩
def DS.byte(d:DS):Int:=let x:=BC (Q4 (sO (DQ d.h) 33) (sO (DQ d.h) 45)) 255;if h:d.p<d.code.length then BC (aR (x+(d.code[d.p].toNat:Int))) 255 else x
def DS.next(d:DS):DS:=⟨d.code,if d.p<d.code.length then d.p+1 else d.p,DQ d.h⟩
theorem aaD(x:Int):0≤BC x 255∧BC x 255≤255:=by
 unfold BC
 have h:(BitVec.ofInt 64 x&&& BitVec.ofInt 64 255).toNat≤255:=by
  rw [BitVec.toNat_and]
  exact Nat.le_trans Nat.and_le_right (by decide)
 generalize(BitVec.ofInt 64 x&&& BitVec.ofInt 64 255).toNat=k at h
 unfold IntKind.wrap
 simp [IntKind.bits,IntKind.signed]
 omega
theorem DS.byte_in(d:DS):0≤d.byte∧d.byte≤255:=by
 unfold DS.byte
 split
 ·exact aaD _
 ·exact aaD _
def DS.byteN(d:DS):Nat:=d.byte.toNat
theorem DS.byteN_le(d:DS):d.byteN≤255:=by have:=d.byte_in;unfold DS.byteN;omega
theorem DS.byteN_eq(d:DS):((d.byteN:Nat):Int)=d.byte:=by have:=d.byte_in;unfold DS.byteN;omega
def DS.below(d:DS)(n:Nat):Nat:=if n=0 then 0 else if n≤256 then d.byteN%n else(d.byteN*16777216+d.next.byteN*65536+d.next.next.byteN*256+d.next.next.next.byteN)%n
def DS.after(d:DS)(n:Nat):DS:=if n=0 then d else if n≤256 then d.next else d.next.next.next.next
theorem DS.below_lt(d:DS){n:Nat}(h:0<n):d.below n<n:=by
 unfold DS.below
 rw [if_neg (by omega)]
 split
 ·exact Nat.mod_lt _ h
 ·exact Nat.mod_lt _ h
def DS.pick(d:DS)(l:List ByteArray):ByteArray:=(l[d.below l.length]?).getD ⟨#[]⟩
theorem DS.pick_eq{d:DS}{l:List ByteArray}(h:d.below l.length<l.length):d.pick l=l[d.below l.length]:=by simp [DS.pick,h]
def E0(h:Int)(b:UInt8):Int:=BC (aR (aR (aR (h*131)+(b.toNat:Int))+7)) 1073741823
def aoP(code:List UInt8):Int:=(code.take 4000).foldl E0 (28803+(code.length:Int))
def DS.start(code:List UInt8):DS:=⟨code,0,aoP code⟩
theorem aiS{code:List UInt8}{i:Nat}{h h' r:Int}(h1:i<code.length)(h2:i<4000)(hr:r=((code.take 4000).drop i).foldl E0 h)(hs:E0 h code[i]=h'):r=((code.take 4000).drop (i+1)).foldl E0 h':=by
 have hl:i<(code.take 4000).length:=by simp;omega
 rw [hr,List.drop_eq_getElem_cons hl,List.foldl_cons,List.getElem_take,hs]
theorem aaS{code:List UInt8}{i:Nat}{h r:Int}(h1:code.length≤i∨4000≤i)(hr:r=((code.take 4000).drop i).foldl E0 h):r=h:=by
 rw [hr,List.drop_of_length_le (by simp;omega),List.foldl_nil]
theorem tI{C:qB}{x:c5}{S:cY}(h:C.st=⟨[some x],[]⟩)(hs: ∃y,S.boxes[0]?=some (some y)):kU C.st S:=by
 rw [h]
 exact⟨fun k z hz=>by
  rcases k with _|k
  ·exact hs
  ·simp at hz,fun r row hr=>by simp at hr⟩
end Go.Proofs.YtpioomclpaiomaaGreat

namespace Go.Proofs.YtpioomclpaiomaaGreat
set_option linter.unusedSimpArgs false
set_option linter.unusedVariables false
open Go.RowKit Go.WalkArith Go.IntWalk Go.WideShapes
section
variable {P:Program} {C:qB} {n:Nat} {s:AS} {o:Oper}
end
end Go.Proofs.YtpioomclpaiomaaGreat

namespace Go.Proofs.YtpioomclpaiomaaGreat
set_option linter.unusedSimpArgs false
set_option linter.unusedVariables false
open Go.RowKit Go.WalkArith Go.IntWalk Go.WideShapes
mutual
inductive Mv (sz:Nat) (es:List (List Tr)) (k k':Nat):PV→PV→Prop
 |acc:Mv sz es k k' (.acc sz es k) (.acc sz es k')
 |free (p:PV):PV.free p=true→Mv sz es k k' p p
 |agg {ps qs:List PV}:WF sz es k k' ps qs→Mv sz es k k' (.agg ps) (.agg qs)
 |tup {ps qs:List PV}:WF sz es k k' ps qs→Mv sz es k k' (.tup ps) (.tup qs)
inductive WF (sz:Nat) (es:List (List Tr)) (k k':Nat):List PV→List PV→Prop
 |nil:WF sz es k k' [] []
 |cons {p q:PV} {ps qs:List PV}:Mv sz es k k' p q→WF sz es k k' ps qs→WF sz es k k' (p::ps) (q::qs)
end
section
variable {ok ok':Nat→Nat→Prop} {st st':cY} {m m':jE} {w:World} {sz k k':Nat} {es:List (List Tr)}
mutual
theorem Mv.rv(hk: ∀b o,b<w.heap.size→ok b o→ok' b o)(hrow: ∀row,st.rows[k]?=some row→st'.rows[k']?=some row∧m'.γ k'=m.γ k): ∀ {p q:PV} {v:Value},Mv sz es k k' p q→RV ok st m w p v→RV ok' st' m' w q v
 |_,_,_,.acc,h=>by
  obtain⟨row,h1,h2,h3,h4,h5⟩:=h
  obtain⟨k1,k2⟩:=hrow row h1
  exact⟨row,k1,h2,h3,cJ.mono h4 (Nat.le_refl _) hk (fun _ _ _ _=>rfl),fun e=>by rw [k2];exact h5 e⟩
 |_,_,_,.free p hf,h=>PV.free.rv hk p _ hf h
 |_,_,_,.agg hl,h=>by
  obtain⟨vs,hv,h1⟩:=h
  exact⟨vs,hv,WF.rv hk hrow hl h1⟩
 |_,_,_,.tup hl,h=>by
  obtain⟨vs,hv,h1⟩:=h
  exact⟨vs,hv,WF.rv hk hrow hl h1⟩
theorem WF.rv(hk: ∀b o,b<w.heap.size→ok b o→ok' b o)(hrow: ∀row,st.rows[k]?=some row→st'.rows[k']?=some row∧m'.γ k'=m.γ k): ∀ {ps qs:List PV} {vs:List Value},WF sz es k k' ps qs→gD ok st m w ps vs→gD ok' st' m' w qs vs
 |_,_,[],.nil,h=>h
 |_,_,_::_,.nil,h=>h.elim
 |_,_,[],.cons _ _,h=>h.elim
 |_,_,_::_,.cons h1 h2,h=>⟨Mv.rv hk hrow h1 h.1,WF.rv hk hrow h2 h.2⟩
end
end
mutual
theorem PV.free.ren{fb fr:List Nat}: ∀(p:PV),PV.free p=true→PV.ren fb fr p=p
 | .t _,_=>rfl
 | .agg cs,h=>by rw [PV.ren,jX.ren cs h]
 | .tup cs,h=>by rw [PV.ren,jX.ren cs h]
 | .nil,_=>rfl
 | .eptr _,_=>rfl
 | .fn f cs,h=>by rw [PV.ren,jX.ren cs h]
 | .acc _ _ _,h=>by cases h
 | .ptr _ _,h=>by cases h
 | .full _ _ _,h=>by cases h
 | .rptr _ _,h=>by cases h
 | .lit _ _,h=>by cases h
 | .bsl _ _,h=>by cases h
 | .gsl _ _,h=>by cases h
theorem jX.ren{fb fr:List Nat}: ∀(ps:List PV),jX ps=true→BN fb fr ps=ps
 | [],_=>rfl
 |p::ps,h=>by
  simp only [jX,Bool.and_eq_true] at h
  rw [BN,PV.free.ren p h.1,jX.ren ps h.2]
end
section
variable {av:Nat→Nat→Prop} {s pre st':cY} {m m':jE} {fb:List Nat} {w w':World} {k:Nat} {row:pM}
theorem akQ(h:mD s pre fb [])(hpr:pre.rows= [])(hs:fJ av s m w)(hst:fJ (G0 av s pre m fb [] w) st' m' w')(he:Ev pre (m.via fb []) w st' m' w')(hbl:st'.boxes.length=pre.boxes.length)
 (hfree: ∀(j:Nat) (x:c5),st'.boxes[j]?=some (some x)→jX x.cells=true) (hrow:st'.rows[k]?=some row):
 Ev s m w ⟨(s.over ⟨st'.boxes,[]⟩ fb []).boxes,s.rows++ [row]⟩ ⟨m.ρ,xX m.γ s.rows.length (m'.γ k)⟩ w'∧fJ av ⟨(s.over ⟨st'.boxes,[]⟩ fb []).boxes,s.rows++ [row]⟩ ⟨m.ρ,xX m.γ s.rows.length (m'.γ k)⟩ w'∧
 (∀b o,b<w'.heap.size→j9 (G0 av s pre m fb [] w) st' m' b o→j9 av ⟨(s.over ⟨st'.boxes,[]⟩ fb []).boxes,s.rows++ [row]⟩ ⟨m.ρ,xX m.γ s.rows.length (m'.γ k)⟩ b o):=by
 have pb: ∀(i j:Nat),fb[j]?=some i→ ∃(x y:c5),pre.boxes[j]?=some (some x)∧s.boxes[i]?=some (some y)∧fb.getD j 0=i∧m'.ρ j=m.ρ i∧ ∃x':c5,st'.boxes[j]?=some (some x'):=fun i j hj=>by
  obtain⟨x,hx⟩:=h.all j (by rw [← h.fbl];exact c4 hj)
  obtain⟨y,hy,-⟩:=h.box j x hx
  have e:fb.getD j 0=i:=by simp [List.getD_eq_getElem?_getD,hj]
  rw [e] at hy
  obtain⟨h1,h2⟩:=he.live j x hx
  exact⟨x,y,hx,hy,e,by rw [h2];show m.ρ (fb.getD j 0)=_;rw [e],h1⟩
 have ob: ∀(i:Nat) (z:c5),(s.over ⟨st'.boxes,[]⟩ fb []).boxes[i]?=some (some z)→(∃(j:Nat) (x:c5),fb[j]?=some i∧st'.boxes[j]?=some (some x)∧z=x.ren fb []∧i<s.boxes.length)∨(idx? fb i=none∧s.boxes[i]?=some (some z)):=fun i z hi=>RH (st':=⟨st'.boxes,[]⟩) hi
 have lv: ∀(i:Nat) (z:c5),(s.over ⟨st'.boxes,[]⟩ fb []).boxes[i]?=some (some z)→ ∃y:c5,s.boxes[i]?=some (some y):=fun i z hi=>by
  rcases ob i z hi with⟨j,x,h1,-⟩|⟨-,h2⟩
  ·obtain⟨-,y,-,hy,-⟩:=pb i j h1
   exact⟨y,hy⟩
  ·exact⟨z,h2⟩
 have hfresh: ∀g c,m'.γ k=some (g,c)→w.heap.size≤g:=fun g c hg=>by
  rcases he.rfresh k row g c hrow hg with⟨row0,c0,hr,-⟩|hf
  ·rw [hpr] at hr;simp at hr
  ·exact hf
 have rk: ∀(i:Nat) (z:pM) (g c:Nat),(s.rows++ [row])[i]?=some z→xX m.γ s.rows.length (m'.γ k) i=some (g,c)→(s.rows[i]?=some z∧m.γ i=some (g,c))∨(i=s.rows.length∧z=row∧m'.γ k=some (g,c)):=fun i z g c hi hg=>by
  rcases getElem?_snoc hi with⟨h1,h2⟩|⟨rfl,rfl⟩
  ·rw [dJ (show i≠s.rows.length by omega)] at hg
   exact .inl ⟨h2,hg⟩
  ·simp only [cB] at hg
   exact .inr ⟨rfl,rfl,hg⟩
 have okk: ∀b o,b<w.heap.size→s.ok m b o→cY.ok ⟨(s.over ⟨st'.boxes,[]⟩ fb []).boxes,s.rows++ [row]⟩ ⟨m.ρ,xX m.γ s.rows.length (m'.γ k)⟩ b o:=fun b o hb hk=>by
  refine⟨fun i z hi=>?_,fun i z g c hi hg e=>?_⟩
  ·obtain⟨y,hy⟩:=lv i z hi
   exact hk.1 i y hy
  ·rcases rk i z g c hi hg with⟨h1,h2⟩|⟨-,-,h3⟩
   ·exact hk.2 i z g c h1 h2 e
   ·have:=hfresh g c h3;omega
 have ev:Ev s m w ⟨(s.over ⟨st'.boxes,[]⟩ fb []).boxes,s.rows++ [row]⟩ ⟨m.ρ,xX m.γ s.rows.length (m'.γ k)⟩ w':=by
  refine⟨he.os,he.tape,he.output,he.size,fun b hb h1 h2=>he.blk b hb (fun i x hi=>?_) (fun r row0 g c hr _=>?_),fun b o hb hk=>he.cell b o hb (h.ok (av:=fun _ _=>False) (w:=w) ⟨id,hk⟩).2,okk,fun i y hi=>⟨?_,rfl⟩,fun i z hi=> .inl (lv i z hi),fun i row0 hi=>⟨row0,?_,rfl,Nat.le_refl _,fun _=>?_,fun hw=>⟨hw,?_⟩⟩,fun i z g c hi hg=>?_⟩
  ·obtain⟨y,hy,-⟩:=h.box i x hi
   exact h1 _ y hy
  ·rw [hpr] at hr;simp at hr
  ·cases hq:idx? fb i with
   |none=>exact⟨y,by unfold cY.over;simp [List.getElem?_zipIdx,hi,hq]⟩
   |some j=>
    obtain⟨-,-,-,-,-,-,x',hx'⟩:=pb i j (idx?_some hq)
    exact⟨x'.ren fb [],by unfold cY.over;simp [List.getElem?_zipIdx,hi,hq,List.getD_eq_getElem?_getD,hx']⟩
  ·show(s.rows++ [row])[i]?=_
   rw [List.getElem?_append_left (c4 hi)];exact hi
  ·exact dJ (by have:=c4 hi;omega)
  ·exact dJ (by have:=c4 hi;omega)
  ·rcases rk i z g c hi hg with⟨h1,h2⟩|⟨-,-,h3⟩
   ·exact .inl ⟨z,c,h1,h2⟩
   ·exact .inr (hfresh g c h3)
 have back: ∀b o,b<w'.heap.size→j9 (G0 av s pre m fb [] w) st' m' b o→j9 av ⟨(s.over ⟨st'.boxes,[]⟩ fb []).boxes,s.rows++ [row]⟩ ⟨m.ρ,xX m.γ s.rows.length (m'.γ k)⟩ b o:=fun b o _ hk=>by
  rcases Nat.lt_or_ge b w.heap.size with hlt|hge
  ·by_cases hA:j9 av s m b o
   ·exact⟨hA.1,okk b o hlt hA.2⟩
   ·by_cases hB: ∃i x,pre.boxes[i]?=some (some x)∧m.ρ (fb.getD i 0)=b
    ·obtain⟨i,x,h1,h2⟩:=hB
     obtain⟨⟨x',h3⟩,h4⟩:=he.live i x h1
     exact absurd (h4.trans h2) (hk.2.1 i x' h3)
    ·exact absurd ⟨hlt,hA,fun i x h1 h2=>hB ⟨i,x,h1,h2⟩,fun r row0 g c h1 h2 h3=>by rw [hpr] at h1;simp at h1⟩ hk.1
  ·refine⟨fun ho=>by have:=hs.avlt _ _ ho;omega,fun i z hi=>?_,fun i z g c hi hg e=>?_⟩
   ·obtain⟨y,hy⟩:=lv i z hi
    have:=hs.box_lt hy
    show m.ρ i≠b
    omega
   ·rcases rk i z g c hi hg with⟨h1,h2⟩|⟨-,rfl,h3⟩
    ·have:=hs.row_lt h1 h2
     omega
    ·exact hk.2.2 k _ g c hrow h3 e
 refine⟨ev,⟨fun i z hi=>?_,fun i i' z z' hi hi' hne=>?_,fun i z hi=>?_,fun i i' z z' g c c' hi hi' hg hg'=>?_,fun i z r row0 g c hi hr hg=>?_,fun b o hb=>Nat.lt_of_lt_of_le (hs.avlt b o hb) he.size,fun i z g c hi hg o ho=>?_,fun i z hi=>by obtain⟨y,hy⟩:=lv i z hi;exact hs.avb i y hy⟩,back⟩
 ·rcases ob i z hi with⟨j,x,h1,h2,rfl,-⟩|⟨h1,h2⟩
  ·obtain⟨-,-,-,-,-,h4,-⟩:=pb i j h1
   obtain⟨vs,k1,k2⟩:=hst.box j x h2
   refine⟨vs,?_,?_⟩
   ·show ZM w' (m.ρ i) _ _
    rw [← h4]
    exact k1
   ·show gD _ _ _ _ (BN fb [] x.cells) vs
    rw [jX.ren _ (hfree j x h2)]
    exact jX.rv back _ _ (hfree j x h2) k2
  ·obtain⟨vs,k1,k2⟩:=hs.box i z h2
   refine⟨vs,k1.keep (he.blk _ k1.lt (fun j x hj=>?_) (fun r row0 g c hr _=>?_)),gD.mono ev _ _ k2⟩
   ·obtain⟨y,hy,-⟩:=h.box j x hj
    have hj':=qL (l:=fb) (k:=j) (by rw [h.fbl];exact c4 hj)
    exact hs.binj _ _ y z hy h2 (fun e=>idx?_none h1 j (by rw [hj',e]))
   ·rw [hpr] at hr;simp at hr
 ·obtain⟨y,hy⟩:=lv i z hi
  obtain⟨y',hy'⟩:=lv i' z' hi'
  exact hs.binj i i' y y' hy hy' hne
 ·rcases getElem?_snoc hi with⟨h1,h2⟩|⟨rfl,rfl⟩
  ·obtain⟨k1,k2,k3⟩:=hs.row i z h2
   refine⟨k1,k2,?_⟩
   simp only [dJ (show i≠s.rows.length by omega)]
   rcases k3 with k3|⟨g,c,cur,q1,q2,q3,q4,q5,q6⟩
   ·exact .inl k3
   ·refine .inr ⟨g,c,cur,q1,(he.blk g q2.lt (fun j x hj e=>?_) (fun r row0 g' c' hr _=>?_)).trans q2,q3,q4,q5,RV.mono ev (.t _) _ q6⟩
    ·obtain⟨y,hy,-⟩:=h.box j x hj
     exact hs.br _ y i z g c hy h2 q1 e
    ·rw [hpr] at hr;simp at hr
  ·obtain⟨k1,k2,k3⟩:=hst.row k _ hrow
   refine⟨k1,k2,?_⟩
   simp only [cB]
   rcases k3 with k3|⟨g,c,cur,q1,q2,q3,q4,q5,q6⟩
   ·exact .inl k3
   ·exact .inr ⟨g,c,cur,q1,q2,q3,q4,q5,cJ.mono q6 (Nat.le_refl _) back (fun _ _ _ _=>rfl)⟩
 ·rcases rk i z g c hi hg with⟨h1,h2⟩|⟨h1,-,h3⟩<;>rcases rk i' z' g c' hi' hg' with⟨h1',h2'⟩|⟨h1',-,h3'⟩
  ·exact hs.rinj i i' z z' g c c' h1 h1' h2 h2'
  ·have:=hs.row_lt h1 h2
   have:=hfresh g c' h3'
   omega
  ·have:=hs.row_lt h1' h2'
   have:=hfresh g c h3
   omega
  ·omega
 ·obtain⟨y,hy⟩:=lv i z hi
  rcases rk r row0 g c hr hg with⟨h1,h2⟩|⟨-,-,h3⟩
  ·exact hs.br i y r row0 g c hy h1 h2
  ·have:=hs.box_lt hy
   have:=hfresh g c h3
   show m.ρ i≠g
   omega
 ·rcases rk i z g c hi hg with⟨h1,h2⟩|⟨-,-,h3⟩
  ·exact hs.avr i z g c h1 h2 o ho
  ·have:=hs.avlt _ _ ho
   have:=hfresh g c h3
   omega
end
def nU:List (Option c5)→Bool
 | []=>true
 |none::l=>nU l
 |some x::l=>jX x.cells&&nU l
theorem nU.get: ∀ {l:List (Option c5)} {j:Nat} {x:c5},nU l=true→l[j]?=some (some x)→jX x.cells=true
 | [],_,_,_,h=>by simp at h
 |none::l,0,_,_,h=>by simp at h
 |none::l,j+1,x,hf,h=>nU.get (l:=l) (j:=j) hf (by simpa using h)
 |some y::l,0,x,hf,h=>by
  simp at h
  subst h
  simp only [nU,Bool.and_eq_true] at hf
  exact hf.1
 |some y::l,j+1,x,hf,h=>by
  simp only [nU,Bool.and_eq_true] at hf
  exact nU.get (l:=l) (j:=j) hf.2 (by simpa using h)
def V2(P:Program)(f:FuncId)(args:List PV)(pre:cY)(B:List (Option c5))(E:TypeId)(sz:Nat)(es:List (List Tr))(R:Nat→PV):Prop:=
 cP P f args pre (fun r t=> ∃k,r=R k∧t.boxes=B∧t.rows[k]?=some ⟨E,sz,es,false⟩)
theorem yB.refl{st:cY}: ∀ {B:List (Option c5)},(∀x,some x∈B→l9 st x.cells=true)→yB st B B
 | [],_=>trivial
 |none::B,h=>yB.refl (B:=B) fun x hx=>h x (List.mem_cons_of_mem _ hx)
 |some x::B,h=>⟨⟨rfl,sG.refl _,h x (by simp)⟩,yB.refl (B:=B) fun y hy=>h y (List.mem_cons_of_mem _ hy)⟩
def P4(st:cY)(B:List (Option c5)):Bool:=B.all fun x=>match x with
 |none=>true
 |some x=>l9 st x.cells
theorem P4.mem{st:cY}{B:List (Option c5)}(h:P4 st B=true)(x:c5)(hx:some x∈B):l9 st x.cells=true:=by
 have:=List.all_eq_true.1 h _ hx
 exact this
theorem V2.plain{P:Program}{f:FuncId}{args:List PV}{pre:cY}{B:List (Option c5)}{E:TypeId}{sz:Nat}{es:List (List Tr)}{R:Nat→PV}{D:PV}(h:V2 P f args pre B E sz es R)(hle: ∀k,PV.Le (R k) D)(hk:PV.okIn ⟨B,[]⟩ D=true:=by exact rfl)(hb:P4 ⟨B,[]⟩ B=true:=by exact rfl)(hp:kU pre ⟨B,[]⟩):cP P f args pre (fun q t=>q=D∧t=⟨B,[]⟩):=fun av m w vals hst hv=>by
 refine(h av m w vals hst hv).mono fun e w'=>?_;rintro⟨r,st',m',v,k1,⟨k,rfl,rfl,-⟩,k3,k4,k5⟩
 have hl:nL st' ⟨st'.boxes,[]⟩:=nL.mk' (yB.refl (P4.mem hb)) rfl
 exact⟨D,⟨st'.boxes,[]⟩,m',v,k1,⟨rfl,rfl⟩,hl.sto k3,hl.ev k4 hp,hl.rv D _ hk ((hle k).rv k5)⟩
theorem anV{st:cY}:kU ⟨[],[]⟩ st:=kU.nil
section
variable {P:Program} {C:qB} {n:Nat} {s:AS} {o:Oper}
theorem aX.callOwn{f:FuncId}{fn:Func}{xs:List Operand}{ts:Array TypeId}{ps qs:List PV}{pre S:cY}{B:List (Option c5)}{E:TypeId}{sz:Nat}{es:List (List Tr)}{R:Nat→PV}(fb:List Nat)(ho:o.op= .call { callee:= .value (.func f),args:=⟨xs⟩,argTypes:=ts })(hd:bQ o.dst n=true)(hf:P.funcs[f]?=some fn)(hnm:(fn.name== "runtime.NumGoroutine")=false)(hb:fn.body.isNone=false)
 (hx:xs.map s.ev=ps.map some) (hS:s.st=S) (hp:mD S pre fb []) (hpr:pre.rows= []) (hle:sG ps (BN fb [] qs)) (hok:l9 pre qs=true) (hbl:B.length=pre.boxes.length) (hfree:nU B=true) (hR: ∀k k',Mv sz es k k' (R k) (R k')) (hc:V2 P f qs pre B E sz es R):
 aX P C n o s ((⟨s.env,⟨(S.over ⟨B,[]⟩ fb []).boxes,S.rows++ [⟨E,sz,es,false⟩]⟩⟩:AS).putO o.dst (R S.rows.length)):=fun m a w h K Q hK=>by
 subst hS
 have h2:=evL h hx
 have h1:(execOp a.eval o).run P w= .ok (.enter f ⟨xs.map a.eval⟩) w:=by
  have hcf:=jQ (P:=P) hf hnm hb
  unfold execOp
  simp only [ho]
  simp [resolve,invoke,Deferred.ofValue,Act.eval,hcf]
 unfold Oper.wp
 rw [h1]
 have h3:=hc (G0 C.av s.st pre m fb [] w) (m.via fb []) w _ (hp.sto h.sto) (gD.unren hp (fun b o _ k=>hp.ok k) _ _ hok (sG.rv hle h2))
 refine Calls.mono h3 fun e w'=>?_;rintro⟨r,st',m',v,rfl,⟨k,rfl,rfl,hrow⟩,h4,h5,h6⟩
 obtain⟨k1,k2,k3⟩:=akQ hp hpr h.sto h4 h5 hbl (fun j x hj=>nU.get hfree hj) hrow
 refine hK _ _ w' ((h.step k1 k2).put (c3 hd) (Mv.rv k3 (fun row hr=>?_) (hR k s.st.rows.length) h6))
 rw [hrow] at hr
 obtain rfl:=Option.some.inj hr
 exact⟨by simp,by simp only [cB]⟩
end
end Go.Proofs.YtpioomclpaiomaaGreat

namespace Go.Proofs.YtpioomclpaiomaaGreat
set_option linter.unusedSimpArgs false
set_option linter.unusedVariables false
open Go.RowKit Go.WalkArith Go.IntWalk Go.WideShapes
def rX(P:Program)(T f:Nat):Option (Nat×Bool×Nat):=
 match P.underlying T with
 |some (.struct fs)=>match fs[f]? with
  |some fd=>(cA P fd.type).map fun x=>(fd.offset,x.1,x.2)
  |none=>none
 |_=>none
theorem rX.spec{P:Program}{T f e z:Nat}{b:Bool}(h:rX P T f=some (e,b,z)): ∃fs fd,P.underlying T=some (.struct fs)∧fs[f]?=some fd∧cA P fd.type=some (b,z)∧fd.offset=e:=by
 unfold rX at h
 split at h
 ·rename_i fs hu
  split at h
  ·rename_i fd hf
   cases hs:cA P fd.type with
   |none=>simp [hs] at h
   |some x=>
    obtain⟨b',z'⟩:=x
    simp only [hs,Option.map_some,Option.some.injEq,Prod.mk.injEq] at h
    obtain⟨h1,rfl,rfl⟩:=h
    exact⟨fs,fd,hu,hf,hs,h1⟩
  ·cases h
 ·cases h
section
variable {P:Program} {C:qB} {n:Nat} {s:AS} {o:Oper}
theorem aX.field1{T:TypeId}{x:Operand}{f e z:Nat}{cs:List PV}{p:PV}(ho:o.op= .field T x f)(hd:bQ o.dst n=true)(hx:s.ev x=some (.agg cs))(hf:rX P T f=some (e,false,z))(hc:cs[e]?=some p):aX P C n o s (s.putO o.dst p):=
 aX.quiet (c3 hd) fun m a w h=>by
  obtain⟨vs,h1,h2⟩:=h.eval hx
  obtain⟨fs,fd,hu,hfd,hs,rfl⟩:=rX.spec hf
  obtain⟨v,hv,hr⟩:=h2.get hc
  refine⟨v,?_,hr⟩
  unfold execOp
  simp [ho,h1,Instr.field,Sem.run_bind,run_underlying hu,hfd,asAgg,part,ML hs,hv]
end
end Go.Proofs.YtpioomclpaiomaaGreat

namespace Go.Proofs.YtpioomclpaiomaaGreat
open Go.RowKit Go.Proofs
theorem jN:cA Tryz.prog 3=some (false,1):=by kernel_rfl
theorem sz3:(Tryz.prog.info? 3).map (·.size)=some 1:=by kernel_rfl
theorem zr3:cS Tryz.prog 3=some [.t (.leaf (.int .i64 0))]:=by kernel_rfl
theorem sh4:cA Tryz.prog 4=some (false,1):=by kernel_rfl
theorem sz4:(Tryz.prog.info? 4).map (·.size)=some 1:=by kernel_rfl
theorem sh5:cA Tryz.prog 5=some (false,1):=by kernel_rfl
theorem zr5:cS Tryz.prog 5=some [.t (.leaf (.int .u8 0))]:=by kernel_rfl
theorem eE:cA Tryz.prog 9=some (false,1):=by kernel_rfl
theorem sz9:(Tryz.prog.info? 9).map (·.size)=some 1:=by kernel_rfl
theorem kG:cS Tryz.prog 9=some [.t (.leaf (.string ⟨#[]⟩))]:=by kernel_rfl
theorem ao2:cA Tryz.prog 22=some (false,1):=by kernel_rfl
theorem Z9:elemOf? Tryz.prog 22=some (5,1,1):=by kernel_rfl
theorem AP:cA Tryz.prog 24=some (false,1):=by kernel_rfl
theorem ao4:(Tryz.prog.info? 24).map (·.size)=some 1:=by kernel_rfl
theorem wB:elemOf? Tryz.prog 24=some (131,6,136):=by kernel_rfl
theorem apC:(Tryz.prog.info? 131).bind (fun i=>i.zero.map (fun z=>z.cells.size))=some 6:=by kernel_rfl
theorem nB:cA Tryz.prog 26=some (true,1):=by kernel_rfl
theorem JJ:(Tryz.prog.info? 26).map (·.size)=some 1:=by kernel_rfl
theorem JK:cS Tryz.prog 26=some [.nil]:=by kernel_rfl
theorem an1:fU Tryz.prog 26=some [(0,1)]:=by kernel_rfl
theorem aeT:cA Tryz.prog 27=some (false,1):=by kernel_rfl
theorem amR:(Tryz.prog.info? 27).map (·.size)=some 1:=by kernel_rfl
theorem mR:elemOf? Tryz.prog 27=some (37,4,64):=by kernel_rfl
theorem amV:(Tryz.prog.info? 37).bind (fun i=>i.zero.map (fun z=>z.cells.size))=some 4:=by kernel_rfl
theorem HQ:elemOf? Tryz.prog 30=some (43,6,96):=by kernel_rfl
theorem amW:(Tryz.prog.info? 43).bind (fun i=>i.zero.map (fun z=>z.cells.size))=some 6:=by kernel_rfl
theorem kT:cA Tryz.prog 33=some (false,1):=by kernel_rfl
theorem ao5:(Tryz.prog.info? 33).map (·.size)=some 1:=by kernel_rfl
theorem c8:elemOf? Tryz.prog 33=some (35,3,48):=by kernel_rfl
theorem agY:(Tryz.prog.info? 35).bind (fun i=>i.zero.map (fun z=>z.cells.size))=some 3:=by kernel_rfl
theorem bZ:cA Tryz.prog 35=some (true,3):=by kernel_rfl
theorem eS:(Tryz.prog.info? 35).map (·.size)=some 3:=by kernel_rfl
theorem eP:cS Tryz.prog 35=some [.t (.leaf (.int .i64 0)),.t (.leaf (.string ⟨#[]⟩)),.nil]:=by kernel_rfl
theorem sF:fU Tryz.prog 35=some [(0,1),(1,1),(2,1)]:=by kernel_rfl
theorem ak2:cA Tryz.prog 37=some (true,4):=by kernel_rfl
theorem apT:(Tryz.prog.info? 37).map (·.size)=some 4:=by kernel_rfl
theorem xW:cS Tryz.prog 37=some [.t (.leaf (.string ⟨#[]⟩)),.t (.leaf (.int .i64 0)),.t (.leaf (.string ⟨#[]⟩)),.nil]:=by kernel_rfl
theorem OV:fU Tryz.prog 37=some [(0,1),(1,3)]:=by kernel_rfl
theorem jC:cA Tryz.prog 38=some (false,1):=by kernel_rfl
theorem NP:(Tryz.prog.info? 38).map (·.size)=some 1:=by kernel_rfl
theorem bU:elemOf? Tryz.prog 38=some (9,1,16):=by kernel_rfl
theorem qH:(Tryz.prog.info? 9).bind (fun i=>i.zero.map (fun z=>z.cells.size))=some 1:=by kernel_rfl
theorem ad8:elemOf? Tryz.prog 41=some (3,1,8):=by kernel_rfl
theorem apD:(Tryz.prog.info? 3).bind (fun i=>i.zero.map (fun z=>z.cells.size))=some 1:=by kernel_rfl
theorem apQ:cA Tryz.prog 43=some (true,6):=by kernel_rfl
theorem U2:cS Tryz.prog 43=some [.t (.leaf (.string ⟨#[]⟩)),.t (.leaf (.int .i64 0)),.t (.leaf (.string ⟨#[]⟩)),.nil,.t (.leaf (.int .i64 0)),.nil]:=by kernel_rfl
theorem amF:fU Tryz.prog 43=some [(0,4),(4,1),(5,1)]:=by kernel_rfl
theorem XN:cA Tryz.prog 45=some (true,2):=by kernel_rfl
theorem amS:(Tryz.prog.info? 45).map (·.size)=some 2:=by kernel_rfl
theorem adK:cS Tryz.prog 45=some [.t (.leaf (.int .i64 0)),.t (.leaf (.int .i64 0))]:=by kernel_rfl
theorem aoV:fU Tryz.prog 45=some [(0,1),(1,1)]:=by kernel_rfl
theorem anS:elemOf? Tryz.prog 48=some (45,2,16):=by kernel_rfl
theorem apV:(Tryz.prog.info? 45).bind (fun i=>i.zero.map (fun z=>z.cells.size))=some 2:=by kernel_rfl
theorem XO:cA Tryz.prog 53=some (false,1):=by kernel_rfl
theorem ao6:(Tryz.prog.info? 53).map (·.size)=some 1:=by kernel_rfl
theorem JT:elemOf? Tryz.prog 53=some (161,11,184):=by kernel_rfl
theorem apE:(Tryz.prog.info? 161).bind (fun i=>i.zero.map (fun z=>z.cells.size))=some 11:=by kernel_rfl
theorem n9:cA Tryz.prog 55=some (true,12):=by kernel_rfl
theorem s8:(Tryz.prog.info? 55).map (·.size)=some 12:=by kernel_rfl
theorem u4:cS Tryz.prog 55=some [.t (.leaf (.string ⟨#[]⟩)),.nil,.t (.leaf (.int .i64 0)),.t (.leaf (.string ⟨#[]⟩)),.nil,.nil,.t (.leaf (.bool false)),.t (.leaf (.bool false)),.t (.leaf (.int .i64 0)),.t (.leaf (.string ⟨#[]⟩)),.nil,.nil]:=by kernel_rfl
theorem RI:fU Tryz.prog 55=some [(0,1),(1,1),(2,3),(5,1),(6,1),(7,1),(8,3),(11,1)]:=by kernel_rfl
theorem GO:cA Tryz.prog 58=some (false,1):=by kernel_rfl
theorem alR:(Tryz.prog.info? 58).map (·.size)=some 1:=by kernel_rfl
theorem wC:elemOf? Tryz.prog 58=some (164,16,264):=by kernel_rfl
theorem alU:(Tryz.prog.info? 164).bind (fun i=>i.zero.map (fun z=>z.cells.size))=some 16:=by kernel_rfl
theorem pX:cA Tryz.prog 60=some (true,5):=by kernel_rfl
theorem t8:(Tryz.prog.info? 60).map (·.size)=some 5:=by kernel_rfl
theorem vR:cS Tryz.prog 60=some [.t (.leaf (.string ⟨#[]⟩)),.nil,.t (.leaf (.bool false)),.t (.leaf (.bool false)),.nil]:=by kernel_rfl
theorem XA:fU Tryz.prog 60=some [(0,1),(1,1),(2,1),(3,1),(4,1)]:=by kernel_rfl
theorem OM:elemOf? Tryz.prog 69=some (171,4,64):=by kernel_rfl
theorem apF:(Tryz.prog.info? 171).bind (fun i=>i.zero.map (fun z=>z.cells.size))=some 4:=by kernel_rfl
theorem tW:cA Tryz.prog 84=some (false,1):=by kernel_rfl
theorem apU:(Tryz.prog.info? 84).map (·.size)=some 1:=by kernel_rfl
theorem mA:elemOf? Tryz.prog 84=some (87,9,144):=by kernel_rfl
theorem an9:(Tryz.prog.info? 87).bind (fun i=>i.zero.map (fun z=>z.cells.size))=some 9:=by kernel_rfl
theorem qG:cA Tryz.prog 85=some (false,1):=by kernel_rfl
theorem ao7:(Tryz.prog.info? 85).map (·.size)=some 1:=by kernel_rfl
theorem nM:elemOf? Tryz.prog 85=some (92,11,184):=by kernel_rfl
theorem apG:(Tryz.prog.info? 92).bind (fun i=>i.zero.map (fun z=>z.cells.size))=some 11:=by kernel_rfl
theorem gY:cA Tryz.prog 87=some (true,9):=by kernel_rfl
theorem p7:(Tryz.prog.info? 87).map (·.size)=some 9:=by kernel_rfl
theorem kB:cS Tryz.prog 87=some [.t (.leaf (.int .i64 0)),.t (.leaf (.string ⟨#[]⟩)),.t (.leaf (.string ⟨#[]⟩)),.t (.leaf (.int .i64 0)),.t (.leaf (.int .i64 0)),.t (.leaf (.string ⟨#[]⟩)),.nil,.nil,.nil]:=by kernel_rfl
theorem xJ:fU Tryz.prog 87=some [(0,1),(1,1),(2,1),(3,1),(4,3),(7,1),(8,1)]:=by kernel_rfl
theorem amJ:cA Tryz.prog 92=some (true,11):=by kernel_rfl
theorem amT:(Tryz.prog.info? 92).map (·.size)=some 11:=by kernel_rfl
theorem PM:cS Tryz.prog 92=some [.t (.leaf (.string ⟨#[]⟩)),.nil,.t (.leaf (.int .i64 0)),.t (.leaf (.string ⟨#[]⟩)),.t (.leaf (.string ⟨#[]⟩)),.t (.leaf (.int .i64 0)),.t (.leaf (.int .i64 0)),.t (.leaf (.string ⟨#[]⟩)),.nil,.nil,.nil]:=by kernel_rfl
theorem akV:fU Tryz.prog 92=some [(0,1),(1,1),(2,9)]:=by kernel_rfl
theorem yP:cA Tryz.prog 114=some (false,1):=by kernel_rfl
theorem am7:(Tryz.prog.info? 114).map (·.size)=some 1:=by kernel_rfl
theorem vS:elemOf? Tryz.prog 114=some (195,2,40):=by kernel_rfl
theorem apB:(Tryz.prog.info? 195).bind (fun i=>i.zero.map (fun z=>z.cells.size))=some 2:=by kernel_rfl
theorem s3:cA Tryz.prog 116=some (true,3):=by kernel_rfl
theorem CN:(Tryz.prog.info? 116).map (·.size)=some 3:=by kernel_rfl
theorem CO:cS Tryz.prog 116=some [.t (.leaf (.string ⟨#[]⟩)),.nil,.nil]:=by kernel_rfl
theorem aaU:fU Tryz.prog 116=some [(0,1),(1,1),(2,1)]:=by kernel_rfl
theorem D1:cA Tryz.prog 126=some (false,1):=by kernel_rfl
theorem am8:(Tryz.prog.info? 126).map (·.size)=some 1:=by kernel_rfl
theorem yG:elemOf? Tryz.prog 126=some (60,5,72):=by kernel_rfl
theorem anE:(Tryz.prog.info? 60).bind (fun i=>i.zero.map (fun z=>z.cells.size))=some 5:=by kernel_rfl
theorem K0:cA Tryz.prog 127=some (false,1):=by kernel_rfl
theorem am9:(Tryz.prog.info? 127).map (·.size)=some 1:=by kernel_rfl
theorem C9:elemOf? Tryz.prog 127=some (116,3,64):=by kernel_rfl
theorem anF:(Tryz.prog.info? 116).bind (fun i=>i.zero.map (fun z=>z.cells.size))=some 3:=by kernel_rfl
theorem GZ:cA Tryz.prog 128=some (false,1):=by kernel_rfl
theorem anA:(Tryz.prog.info? 128).map (·.size)=some 1:=by kernel_rfl
theorem CC:elemOf? Tryz.prog 128=some (55,12,192):=by kernel_rfl
theorem anG:(Tryz.prog.info? 55).bind (fun i=>i.zero.map (fun z=>z.cells.size))=some 12:=by kernel_rfl
theorem SH:cA Tryz.prog 129=some (false,1):=by kernel_rfl
theorem anB:(Tryz.prog.info? 129).map (·.size)=some 1:=by kernel_rfl
theorem JS:elemOf? Tryz.prog 129=some (148,16,280):=by kernel_rfl
theorem anH:(Tryz.prog.info? 148).bind (fun i=>i.zero.map (fun z=>z.cells.size))=some 16:=by kernel_rfl
theorem pG:cA Tryz.prog 131=some (true,6):=by kernel_rfl
theorem tB:(Tryz.prog.info? 131).map (·.size)=some 6:=by kernel_rfl
theorem sE:cS Tryz.prog 131=some [.t (.leaf (.string ⟨#[]⟩)),.nil,.nil,.nil,.nil,.nil]:=by kernel_rfl
theorem GV:fU Tryz.prog 131=some [(0,1),(1,1),(2,1),(3,1),(4,1),(5,1)]:=by kernel_rfl
theorem N7:cA Tryz.prog 146=some (false,1):=by kernel_rfl
theorem anC:(Tryz.prog.info? 146).map (·.size)=some 1:=by kernel_rfl
theorem DA:elemOf? Tryz.prog 146=some (226,4,64):=by kernel_rfl
theorem anI:(Tryz.prog.info? 226).bind (fun i=>i.zero.map (fun z=>z.cells.size))=some 4:=by kernel_rfl
theorem qQ:cA Tryz.prog 148=some (true,16):=by kernel_rfl
theorem AX:(Tryz.prog.info? 148).map (·.size)=some 16:=by kernel_rfl
theorem CP:cS Tryz.prog 148=some [.t (.leaf (.string ⟨#[]⟩)),.nil,.nil,.nil,.t (.leaf (.int .i64 0)),.t (.leaf (.string ⟨#[]⟩)),.nil,.t (.leaf (.int .i64 0)),.t (.leaf (.string ⟨#[]⟩)),.t (.leaf (.string ⟨#[]⟩)),.t (.leaf (.int .i64 0)),.t (.leaf (.int .i64 0)),.t (.leaf (.string ⟨#[]⟩)),.nil,.nil,.nil]:=by kernel_rfl
theorem aaV:fU Tryz.prog 148=some [(0,1),(1,1),(2,1),(3,1),(4,3),(7,9)]:=by kernel_rfl
theorem anJ:cS Tryz.prog 151=some [.nil,.t (.leaf (.int .i64 0)),.t (.leaf (.int .i64 0))]:=by kernel_rfl
theorem am4:fU Tryz.prog 151=some [(0,1),(1,1),(2,1)]:=by kernel_rfl
theorem ak1:cA Tryz.prog 161=some (true,11):=by kernel_rfl
theorem alP:(Tryz.prog.info? 161).map (·.size)=some 11:=by kernel_rfl
theorem G5:cS Tryz.prog 161=some [.t (.leaf (.string ⟨#[]⟩)),.nil,.t (.leaf (.int .i64 0)),.t (.leaf (.string ⟨#[]⟩)),.t (.leaf (.string ⟨#[]⟩)),.t (.leaf (.int .i64 0)),.t (.leaf (.int .i64 0)),.t (.leaf (.string ⟨#[]⟩)),.nil,.nil,.nil]:=by kernel_rfl
theorem akS:fU Tryz.prog 161=some [(0,1),(1,1),(2,9)]:=by kernel_rfl
theorem aa4:cA Tryz.prog 164=some (true,16):=by kernel_rfl
theorem anD:(Tryz.prog.info? 164).map (·.size)=some 16:=by kernel_rfl
theorem yZ:cS Tryz.prog 164=some [.t (.leaf (.string ⟨#[]⟩)),.nil,.t (.leaf (.int .i64 0)),.t (.leaf (.string ⟨#[]⟩)),.nil,.t (.leaf (.bool false)),.nil,.t (.leaf (.int .i64 0)),.t (.leaf (.string ⟨#[]⟩)),.t (.leaf (.string ⟨#[]⟩)),.t (.leaf (.int .i64 0)),.t (.leaf (.int .i64 0)),.t (.leaf (.string ⟨#[]⟩)),.nil,.nil,.nil]:=by kernel_rfl
theorem ahD:fU Tryz.prog 164=some [(0,1),(1,1),(2,3),(5,1),(6,1),(7,9)]:=by kernel_rfl
theorem ao1:cA Tryz.prog 171=some (true,4):=by kernel_rfl
theorem ao3:(Tryz.prog.info? 171).map (·.size)=some 4:=by kernel_rfl
theorem OD:cS Tryz.prog 171=some [.t (.leaf (.string ⟨#[]⟩)),.t (.leaf (.int .i64 0)),.t (.leaf (.string ⟨#[]⟩)),.nil]:=by kernel_rfl
theorem am5:fU Tryz.prog 171=some [(0,1),(1,3)]:=by kernel_rfl
theorem adJ:cS Tryz.prog 195=some [.t (.leaf (.string ⟨#[]⟩)),.nil]:=by kernel_rfl
theorem akT:fU Tryz.prog 195=some [(0,1),(1,1)]:=by kernel_rfl
theorem V1:cS Tryz.prog 226=some [.t (.leaf (.string ⟨#[]⟩)),.t (.leaf (.int .i64 0)),.t (.leaf (.string ⟨#[]⟩)),.nil]:=by kernel_rfl
theorem akU:fU Tryz.prog 226=some [(0,1),(1,3)]:=by kernel_rfl
theorem cR:cA Tryz.prog 235=some (false,1):=by kernel_rfl
theorem yY:(Tryz.prog.info? 235).map (·.size)=some 1:=by kernel_rfl
theorem bI:elemOf? Tryz.prog 235=some (237,2,40):=by kernel_rfl
theorem qA:(Tryz.prog.info? 237).bind (fun i=>i.zero.map (fun z=>z.cells.size))=some 2:=by kernel_rfl
theorem bP:cA Tryz.prog 237=some (true,2):=by kernel_rfl
theorem eA:(Tryz.prog.info? 237).map (·.size)=some 2:=by kernel_rfl
theorem b7:cS Tryz.prog 237=some [.t (.leaf (.string ⟨#[]⟩)),.nil]:=by kernel_rfl
theorem mK:fU Tryz.prog 237=some [(0,1),(1,1)]:=by kernel_rfl
theorem apH:cS Tryz.prog 250=some [.t (.leaf (.string ⟨#[]⟩)),.t (.leaf (.int .i64 0)),.t (.leaf (.int .i64 0)),.t (.leaf (.int .i64 0)),.t (.leaf (.bool false))]:=by kernel_rfl
theorem aoU:fU Tryz.prog 250=some [(0,1),(1,1),(2,1),(3,1),(4,1)]:=by kernel_rfl
theorem kV:bE Tryz.prog 26 0=some 0:=by kernel_rfl
theorem iF:bE Tryz.prog 35 0=some 0:=by kernel_rfl
theorem gR:bE Tryz.prog 35 1=some 1:=by kernel_rfl
theorem eZ:bE Tryz.prog 35 2=some 2:=by kernel_rfl
theorem u6:bE Tryz.prog 37 0=some 0:=by kernel_rfl
theorem rA:bE Tryz.prog 37 1=some 1:=by kernel_rfl
theorem akA:bE Tryz.prog 43 0=some 0:=by kernel_rfl
theorem tD:bE Tryz.prog 45 0=some 0:=by kernel_rfl
theorem L0:bE Tryz.prog 45 1=some 1:=by kernel_rfl
theorem aeA:bE Tryz.prog 55 0=some 0:=by kernel_rfl
theorem rB:bE Tryz.prog 55 1=some 1:=by kernel_rfl
theorem rC:bE Tryz.prog 55 2=some 2:=by kernel_rfl
theorem DB:bE Tryz.prog 55 3=some 5:=by kernel_rfl
theorem akB:bE Tryz.prog 55 4=some 6:=by kernel_rfl
theorem zA:bE Tryz.prog 55 5=some 7:=by kernel_rfl
theorem w8:bE Tryz.prog 55 6=some 8:=by kernel_rfl
theorem w9:bE Tryz.prog 55 7=some 11:=by kernel_rfl
theorem A9:bE Tryz.prog 60 0=some 0:=by kernel_rfl
theorem oU:bE Tryz.prog 60 1=some 1:=by kernel_rfl
theorem aeB:bE Tryz.prog 60 2=some 2:=by kernel_rfl
theorem akC:bE Tryz.prog 60 3=some 3:=by kernel_rfl
theorem lS:bE Tryz.prog 60 4=some 4:=by kernel_rfl
theorem rD:bE Tryz.prog 87 0=some 0:=by kernel_rfl
theorem L1:bE Tryz.prog 87 1=some 1:=by kernel_rfl
theorem oV:bE Tryz.prog 87 2=some 2:=by kernel_rfl
theorem DC:bE Tryz.prog 87 3=some 3:=by kernel_rfl
theorem rE:bE Tryz.prog 87 4=some 4:=by kernel_rfl
theorem iG:bE Tryz.prog 87 5=some 7:=by kernel_rfl
theorem fR:bE Tryz.prog 87 6=some 8:=by kernel_rfl
theorem BA:bE Tryz.prog 92 0=some 0:=by kernel_rfl
theorem BB:bE Tryz.prog 92 1=some 1:=by kernel_rfl
theorem HR:bE Tryz.prog 92 2=some 2:=by kernel_rfl
theorem WN:bE Tryz.prog 116 0=some 0:=by kernel_rfl
theorem JW:bE Tryz.prog 116 1=some 1:=by kernel_rfl
theorem mB:bE Tryz.prog 116 2=some 2:=by kernel_rfl
theorem WO:bE Tryz.prog 131 0=some 0:=by kernel_rfl
theorem PO:bE Tryz.prog 131 1=some 1:=by kernel_rfl
theorem pP:bE Tryz.prog 131 2=some 2:=by kernel_rfl
theorem sK:bE Tryz.prog 131 3=some 3:=by kernel_rfl
theorem qU:bE Tryz.prog 131 4=some 4:=by kernel_rfl
theorem wD:bE Tryz.prog 131 5=some 5:=by kernel_rfl
theorem PP:bE Tryz.prog 148 0=some 0:=by kernel_rfl
theorem JX:bE Tryz.prog 148 1=some 1:=by kernel_rfl
theorem WP:bE Tryz.prog 148 2=some 2:=by kernel_rfl
theorem uA:bE Tryz.prog 148 3=some 3:=by kernel_rfl
theorem WQ:bE Tryz.prog 148 4=some 4:=by kernel_rfl
theorem WR:bE Tryz.prog 148 5=some 7:=by kernel_rfl
theorem ag4:bE Tryz.prog 151 0=some 0:=by kernel_rfl
theorem PQ:bE Tryz.prog 151 1=some 1:=by kernel_rfl
theorem PR:bE Tryz.prog 151 2=some 2:=by kernel_rfl
theorem WT:bE Tryz.prog 161 0=some 0:=by kernel_rfl
theorem ER:bE Tryz.prog 161 1=some 1:=by kernel_rfl
theorem PT:bE Tryz.prog 161 2=some 2:=by kernel_rfl
theorem WU:bE Tryz.prog 164 0=some 0:=by kernel_rfl
theorem PU:bE Tryz.prog 164 1=some 1:=by kernel_rfl
theorem PW:bE Tryz.prog 164 2=some 2:=by kernel_rfl
theorem JY:bE Tryz.prog 164 3=some 5:=by kernel_rfl
theorem ES:bE Tryz.prog 164 4=some 6:=by kernel_rfl
theorem PX:bE Tryz.prog 164 5=some 7:=by kernel_rfl
theorem ag5:bE Tryz.prog 171 0=some 0:=by kernel_rfl
theorem ag6:bE Tryz.prog 171 1=some 1:=by kernel_rfl
theorem PY:bE Tryz.prog 195 0=some 0:=by kernel_rfl
theorem JZ:bE Tryz.prog 195 1=some 1:=by kernel_rfl
theorem ag7:bE Tryz.prog 226 0=some 0:=by kernel_rfl
theorem ag8:bE Tryz.prog 226 1=some 1:=by kernel_rfl
theorem fA:bE Tryz.prog 237 0=some 0:=by kernel_rfl
theorem bH:bE Tryz.prog 237 1=some 1:=by kernel_rfl
theorem lD:bE Tryz.prog 250 0=some 0:=by kernel_rfl
theorem fB:bE Tryz.prog 250 1=some 1:=by kernel_rfl
theorem J0:bE Tryz.prog 250 2=some 2:=by kernel_rfl
theorem WV:bE Tryz.prog 250 3=some 3:=by kernel_rfl
theorem ET:bE Tryz.prog 250 4=some 4:=by kernel_rfl
theorem sL:rX Tryz.prog 237 0=some (0,false,1):=by kernel_rfl
theorem WW:rX Tryz.prog 237 1=some (1,false,1):=by kernel_rfl
theorem ahC:Tryz.prog.follows .mixedOrders=true:=by kernel_rfl
end Go.Proofs.YtpioomclpaiomaaGreat

namespace Go.Proofs.YtpioomclpaiomaaGreat
open Go.RowKit Go.Proofs
set_option linter.unusedSimpArgs false
set_option linter.unusedVariables false
set_option maxRecDepth 100000 in
set_option maxHeartbeats 4000000 in
theorem al6(d:DS):cP Tryz.prog 146 [.ptr 0 0] (d.box 151) (fun r t=>r= .t (.leaf (.int .i64 d.byte))∧t=d.next.box 151):=by
 refine cP.intro Tryz.func146 rfl (by first|decide|(simp;done)|(simp;decide)) ?_;intro C hC
 refine aQ.fact (cE 0 0 rfl rfl rfl (gG d.code)) (fun hl0=>?_)
 refine aQ.seq ?_;refine aQ.region_lit ?_;refine AL.cons rfl (aX.move (.inr rfl) rfl rfl) ?_;refine AL.nil ?_;refine aQ.seq ?_;refine aQ.region_lit ?_;refine AL.cons rfl (aX.move (.inl rfl) rfl rfl) ?_;refine AL.cons rfl (aX.move (.inl rfl) rfl rfl) ?_;refine AL.cons rfl (aX.nilPtr rfl rfl rfl) ?_;refine AL.cons rfl (aX.fieldPtr (k:=0) (d:=0) (e:=2) rfl rfl rfl PR) ?_;refine AL.cons rfl (aX.loadPtr1 rfl rfl rfl rfl jN rfl) ?_;refine AL.cons rfl (aX.mulW rfl rfl rfl rfl) ?_;refine AL.cons rfl (aX.addW rfl rfl rfl rfl) ?_;refine AL.cons rfl (aX.nilPtr rfl rfl rfl) ?_;refine AL.cons rfl (aX.fieldPtr (k:=0) (d:=0) (e:=2) rfl rfl rfl PR) ?_;refine AL.cons rfl (aX.storePtr (cs:= [.t (.leaf (.int .i64 (aR ((aR (d.h*6364136223846793005))+1442695040888963407))))]) (ds:= [.t (.row 1 (cK (d.code))),.t (.leaf (.int .i64 (((d.p:Nat):Int)))),.t (.leaf (.int .i64 (aR ((aR (d.h*6364136223846793005))+1442695040888963407))))]) rfl rfl rfl rfl rfl rfl rfl sz3 (Nat.le_of_ble_eq_true rfl) rfl) ?_;refine AL.nil ?_;refine aQ.seq ?_;refine aQ.drawnL ⟨_,_,fun _ _=>(⟨[some ⟨151,[.t (.row 1 (cK (d.code))),.t (.leaf (.int .i64 (((d.p:Nat):Int)))),.t (.leaf (.int .i64 (aR ((aR (d.h*6364136223846793005))+1442695040888963407))))]⟩],[]⟩:cY),fun q'=>([some (.ptr 0 0),some (.ptr 0 0),some (.ptr 0 2),some (.t (.leaf (.int .i64 (aR ((aR (d.h*6364136223846793005))+1442695040888963407))))),some (.t (.leaf (.int .i64 (sO (aR ((aR (d.h*6364136223846793005))+1442695040888963407)) 33)))),some (.ptr 0 0),some (.ptr 0 0),some (.ptr 0 2),some (.t (.leaf (.int .i64 (aR ((aR (d.h*6364136223846793005))+1442695040888963407))))),some (.t (.leaf (.int .i64 (sO (aR ((aR (d.h*6364136223846793005))+1442695040888963407)) 45)))),some (.t (.leaf (.int .i64 (Q4 (sO (aR ((aR (d.h*6364136223846793005))+1442695040888963407)) 33) (sO (aR ((aR (d.h*6364136223846793005))+1442695040888963407)) 45))))),some (.t (.leaf (.int .i64 (BC (Q4 (sO (aR ((aR (d.h*6364136223846793005))+1442695040888963407)) 33) (sO (aR ((aR (d.h*6364136223846793005))+1442695040888963407)) 45)) 255)))),some (.t (.leaf (.int .i64 (BC (Q4 (sO (aR ((aR (d.h*6364136223846793005))+1442695040888963407)) 33) (sO (aR ((aR (d.h*6364136223846793005))+1442695040888963407)) 45)) 255))))]:List (Option PV)).getD q' none,fun q'=>([.q 0 0,.q 0 0,.q 0 0,.q 0 0,.q 0 0,.q 0 0,.q 0 0,.q 0 0,.q 0 0,.q 0 0,.q 0 0,.q 0 0,.q 0 0]:List DK).getD q' (.q 0 0),[],none,fun q'=>([[(0,none)],[(13,some 0)],[(14,some 1)],[(15,some 2)],[(16,some 3)],[(0,none)],[(18,some 5)],[(19,some 6)],[(20,some 7)],[(21,some 8)],[(17,some 4),(22,some 9)],[(23,some 10)],[(24,some 11)]]:List (List (Nat×Option Nat))).getD q' []⟩ rfl ahC (by kernel_rfl) rfl rfl ⟨?_,?_,?_,?_,?_,?_,?_,?_,?_,?_,?_,?_,?_,trivial⟩ rfl ?_
 ·exact dF.step.q1 0 rfl rfl fun s' bb hs hl=>⟨_,rfl,aX.move (.inl rfl) rfl (hl 0 none _ (.head _) rfl)⟩
 ·exact dF.step.q1 0 rfl rfl fun s' bb hs hl=>⟨_,rfl,aX.nilPtr rfl rfl (hl 13 (some 0) _ (.head _) rfl)⟩
 ·exact dF.step.q1 0 rfl rfl fun s' bb hs hl=>⟨_,rfl,aX.fieldPtr (k:=0) (d:=0) (e:=2) rfl rfl (hl 14 (some 1) _ (.head _) rfl) PR⟩
 ·exact dF.step.q1 0 rfl rfl fun s' bb hs hl=>⟨_,rfl,aX.loadPtr1 rfl rfl (hl 15 (some 2) _ (.head _) rfl) (by rw [hs];rfl) jN rfl⟩
 ·exact dF.step.q1 0 rfl rfl fun s' bb hs hl=>⟨_,rfl,aX.shrI (a:=aR ((aR (d.h*6364136223846793005))+1442695040888963407)) (b:=33) rfl rfl (hl 16 (some 3) _ (.head _) rfl) rfl (by decide) (PZ (FN _)).1 (PZ (FN _)).2⟩
 ·exact dF.step.q1 0 rfl rfl fun s' bb hs hl=>⟨_,rfl,aX.move (.inl rfl) rfl (hl 0 none _ (.head _) rfl)⟩
 ·exact dF.step.q1 0 rfl rfl fun s' bb hs hl=>⟨_,rfl,aX.nilPtr rfl rfl (hl 18 (some 5) _ (.head _) rfl)⟩
 ·exact dF.step.q1 0 rfl rfl fun s' bb hs hl=>⟨_,rfl,aX.fieldPtr (k:=0) (d:=0) (e:=2) rfl rfl (hl 19 (some 6) _ (.head _) rfl) PR⟩
 ·exact dF.step.q1 0 rfl rfl fun s' bb hs hl=>⟨_,rfl,aX.loadPtr1 rfl rfl (hl 20 (some 7) _ (.head _) rfl) (by rw [hs];rfl) jN rfl⟩
 ·exact dF.step.q1 0 rfl rfl fun s' bb hs hl=>⟨_,rfl,aX.shrI (a:=aR ((aR (d.h*6364136223846793005))+1442695040888963407)) (b:=45) rfl rfl (hl 21 (some 8) _ (.head _) rfl) rfl (by decide) (PZ (FN _)).1 (PZ (FN _)).2⟩
 ·exact dF.step.q1 0 rfl rfl fun s' bb hs hl=>⟨_,rfl,aX.xorI rfl rfl (hl 17 (some 4) _ (.head _) rfl) (hl 22 (some 9) _ (.tail _ (.head _)) rfl)⟩
 ·exact dF.step.q1 0 rfl rfl fun s' bb hs hl=>⟨_,rfl,aX.andI rfl rfl (hl 23 (some 10) _ (.head _) rfl) rfl⟩
 ·exact dF.step.q1 0 rfl rfl fun s' bb hs hl=>⟨_,rfl,aX.move (.inr rfl) rfl (hl 24 (some 11) _ (.head _) rfl)⟩
 refine aQ.seq ?_;refine aQ.seq ?_;refine aQ.drawnL ⟨_,_,fun _ _=>(⟨[some ⟨151,[.t (.row 1 (cK (d.code))),.t (.leaf (.int .i64 (((d.p:Nat):Int)))),.t (.leaf (.int .i64 (aR ((aR (d.h*6364136223846793005))+1442695040888963407))))]⟩],[]⟩:cY),fun q'=>([some (.ptr 0 0),some (.ptr 0 0),some (.ptr 0 1),some (.t (.leaf (.int .i64 (((d.p:Nat):Int))))),some (.ptr 0 0),some (.ptr 0 0),some (.ptr 0 0),some (.t (.row 1 (cK (d.code)))),some (.t (.leaf (.int .i64 (((d.code.length:Nat):Int))))),some (.t (.leaf (.bool (decide ((((d.p:Nat):Int):Int)<((d.code.length:Nat):Int))))))]:List (Option PV)).getD q' none,fun q'=>([.q 0 0,.q 0 0,.q 0 0,.q 0 0,.q 0 0,.q 0 0,.q 0 0,.q 0 0,.q 0 0,.q 0 0]:List DK).getD q' (.q 0 0),[],none,fun q'=>([[(0,none)],[(25,some 0)],[(26,some 1)],[(27,some 2)],[(0,none)],[(29,some 4)],[(30,some 5)],[(31,some 6)],[(32,some 7)],[(28,some 3),(33,some 8)]]:List (List (Nat×Option Nat))).getD q' []⟩ rfl ahC (by kernel_rfl) rfl rfl ⟨?_,?_,?_,?_,?_,?_,?_,?_,?_,?_,trivial⟩ rfl ?_
 ·exact dF.step.q1 0 rfl rfl fun s' bb hs hl=>⟨_,rfl,aX.move (.inl rfl) rfl (hl 0 none _ (.head _) rfl)⟩
 ·exact dF.step.q1 0 rfl rfl fun s' bb hs hl=>⟨_,rfl,aX.nilPtr rfl rfl (hl 25 (some 0) _ (.head _) rfl)⟩
 ·exact dF.step.q1 0 rfl rfl fun s' bb hs hl=>⟨_,rfl,aX.fieldPtr (k:=0) (d:=0) (e:=1) rfl rfl (hl 26 (some 1) _ (.head _) rfl) PQ⟩
 ·exact dF.step.q1 0 rfl rfl fun s' bb hs hl=>⟨_,rfl,aX.loadPtr1 rfl rfl (hl 27 (some 2) _ (.head _) rfl) (by rw [hs];rfl) jN rfl⟩
 ·exact dF.step.q1 0 rfl rfl fun s' bb hs hl=>⟨_,rfl,aX.move (.inl rfl) rfl (hl 0 none _ (.head _) rfl)⟩
 ·exact dF.step.q1 0 rfl rfl fun s' bb hs hl=>⟨_,rfl,aX.nilPtr rfl rfl (hl 29 (some 4) _ (.head _) rfl)⟩
 ·exact dF.step.q1 0 rfl rfl fun s' bb hs hl=>⟨_,rfl,aX.fieldPtr (k:=0) (d:=0) (e:=0) rfl rfl (hl 30 (some 5) _ (.head _) rfl) ag4⟩
 ·exact dF.step.q1 0 rfl rfl fun s' bb hs hl=>⟨_,rfl,aX.loadPtr1 rfl rfl (hl 31 (some 6) _ (.head _) rfl) (by rw [hs];rfl) ao2 rfl⟩
 ·exact dF.step.q1 0 rfl rfl fun s' bb hs hl=>⟨_,rfl,aX.lenN rfl rfl (hl 32 (some 7) _ (.head _) rfl) rfl Z9 (gG _)⟩
 ·exact dF.step.q1 0 rfl rfl fun s' bb hs hl=>⟨_,rfl,aX.lss rfl rfl (hl 28 (some 3) _ (.head _) rfl) (hl 33 (some 8) _ (.tail _ (.head _)) rfl)⟩
 refine aQ.cond rfl (fun h1=>?_) (fun h1=>?_)
 ·have h1b:=h1
  try simp only [Bool.and_eq_true,Bool.or_eq_true,Bool.and_eq_false_iff,Bool.or_eq_false_iff,decide_eq_true_eq,decide_eq_false_iff_not,Bool.not_eq_true',Bool.not_eq_false',Bool.not_eq_eq_eq_not,Bool.not_true,Bool.not_false,ge_iff_le,gt_iff_lt,Int.not_lt,Int.not_le] at h1b
  have h1n:d.p<d.code.length:=by omega
  refine aQ.seq ?_;refine aQ.drawnL ⟨_,_,fun _ _=>(⟨[some ⟨151,[.t (.row 1 (cK (d.code))),.t (.leaf (.int .i64 (((d.p:Nat):Int)))),.t (.leaf (.int .i64 (aR ((aR (d.h*6364136223846793005))+1442695040888963407))))]⟩],[]⟩:cY),fun q'=>([some (.t (.leaf (.int .i64 (BC (Q4 (sO (aR ((aR (d.h*6364136223846793005))+1442695040888963407)) 33) (sO (aR ((aR (d.h*6364136223846793005))+1442695040888963407)) 45)) 255)))),some (.ptr 0 0),some (.ptr 0 0),some (.ptr 0 0),some (.t (.row 1 (cK (d.code)))),some (.ptr 0 0),some (.ptr 0 0),some (.ptr 0 1),some (.t (.leaf (.int .i64 (((d.p:Nat):Int))))),some (.eptr ([.leaf (.int .u8 ((d.code[d.p]).toNat:Int))])),some (.t (.leaf (.int .u8 (((d.code[d.p]).toNat:Int))))),some (.t (.leaf (.int .i64 (((d.code[d.p]).toNat:Int))))),some (.t (.leaf (.int .i64 (aR ((BC (Q4 (sO (aR ((aR (d.h*6364136223846793005))+1442695040888963407)) 33) (sO (aR ((aR (d.h*6364136223846793005))+1442695040888963407)) 45)) 255)+((d.code[d.p]).toNat:Int)))))),some (.t (.leaf (.int .i64 (BC (aR ((BC (Q4 (sO (aR ((aR (d.h*6364136223846793005))+1442695040888963407)) 33) (sO (aR ((aR (d.h*6364136223846793005))+1442695040888963407)) 45)) 255)+((d.code[d.p]).toNat:Int))) 255)))),some (.t (.leaf (.int .i64 (BC (aR ((BC (Q4 (sO (aR ((aR (d.h*6364136223846793005))+1442695040888963407)) 33) (sO (aR ((aR (d.h*6364136223846793005))+1442695040888963407)) 45)) 255)+((d.code[d.p]).toNat:Int))) 255))))]:List (Option PV)).getD q' none,fun q'=>([.q 0 0,.q 0 0,.q 0 0,.q 0 0,.q 0 0,.q 0 0,.q 0 0,.q 0 0,.q 0 0,.q 0 0,.q 0 0,.q 0 0,.q 0 0,.q 0 0,.q 0 0]:List DK).getD q' (.q 0 0),[],none,fun q'=>([[(3,none)],[(0,none)],[(36,some 1)],[(37,some 2)],[(38,some 3)],[(0,none)],[(40,some 5)],[(41,some 6)],[(42,some 7)],[(39,some 4),(43,some 8)],[(44,some 9)],[(45,some 10)],[(35,some 0),(46,some 11)],[(47,some 12)],[(48,some 13)]]:List (List (Nat×Option Nat))).getD q' []⟩ rfl ahC (by kernel_rfl) rfl rfl ⟨?_,?_,?_,?_,?_,?_,?_,?_,?_,?_,?_,?_,?_,?_,?_,trivial⟩ rfl ?_
  ·exact dF.step.q1 0 rfl rfl fun s' bb hs hl=>⟨_,rfl,aX.move (.inl rfl) rfl (hl 3 none _ (.head _) rfl)⟩
  ·exact dF.step.q1 0 rfl rfl fun s' bb hs hl=>⟨_,rfl,aX.move (.inl rfl) rfl (hl 0 none _ (.head _) rfl)⟩
  ·exact dF.step.q1 0 rfl rfl fun s' bb hs hl=>⟨_,rfl,aX.nilPtr rfl rfl (hl 36 (some 1) _ (.head _) rfl)⟩
  ·exact dF.step.q1 0 rfl rfl fun s' bb hs hl=>⟨_,rfl,aX.fieldPtr (k:=0) (d:=0) (e:=0) rfl rfl (hl 37 (some 2) _ (.head _) rfl) ag4⟩
  ·exact dF.step.q1 0 rfl rfl fun s' bb hs hl=>⟨_,rfl,aX.loadPtr1 rfl rfl (hl 38 (some 3) _ (.head _) rfl) (by rw [hs];rfl) ao2 rfl⟩
  ·exact dF.step.q1 0 rfl rfl fun s' bb hs hl=>⟨_,rfl,aX.move (.inl rfl) rfl (hl 0 none _ (.head _) rfl)⟩
  ·exact dF.step.q1 0 rfl rfl fun s' bb hs hl=>⟨_,rfl,aX.nilPtr rfl rfl (hl 40 (some 5) _ (.head _) rfl)⟩
  ·exact dF.step.q1 0 rfl rfl fun s' bb hs hl=>⟨_,rfl,aX.fieldPtr (k:=0) (d:=0) (e:=1) rfl rfl (hl 41 (some 6) _ (.head _) rfl) PQ⟩
  ·exact dF.step.q1 0 rfl rfl fun s' bb hs hl=>⟨_,rfl,aX.loadPtr1 rfl rfl (hl 42 (some 7) _ (.head _) rfl) (by rw [hs];rfl) jN rfl⟩
  ·exact dF.step.q1 0 rfl rfl fun s' bb hs hl=>⟨_,rfl,aX.index (k:=d.p) rfl rfl (hl 39 (some 4) _ (.head _) rfl) rfl (hl 43 (some 8) _ (.tail _ (.head _)) rfl) (w6 h1n) Z9⟩
  ·exact dF.step.q1 0 rfl rfl fun s' bb hs hl=>⟨_,rfl,aX.loadEptr1 (d:= .leaf (.int .u8 (((d.code[d.p]).toNat:Int)))) rfl rfl (hl 44 (some 9) _ (.head _) rfl) sh5 rfl⟩
  ·exact dF.step.q1 0 rfl rfl fun s' bb hs hl=>⟨_,rfl,aX.convI rfl rfl (hl 45 (some 10) _ (.head _) rfl) ⟨_,Tryz.underlying5⟩ Tryz.underlying3 (by first|omega|(have:=UInt8.toNat_lt (d.code[d.p]);omega)) (by first|omega|(have:=UInt8.toNat_lt (d.code[d.p]);omega))⟩
  ·exact dF.step.q1 0 rfl rfl fun s' bb hs hl=>⟨_,rfl,aX.addW rfl rfl (hl 35 (some 0) _ (.head _) rfl) (hl 46 (some 11) _ (.tail _ (.head _)) rfl)⟩
  ·exact dF.step.q1 0 rfl rfl fun s' bb hs hl=>⟨_,rfl,aX.andI rfl rfl (hl 47 (some 12) _ (.head _) rfl) rfl⟩
  ·exact dF.step.q1 0 rfl rfl fun s' bb hs hl=>⟨_,rfl,aX.move (.inr rfl) rfl (hl 48 (some 13) _ (.head _) rfl)⟩
  refine aQ.region_lit ?_;refine AL.cons rfl (aX.move (.inl rfl) rfl rfl) ?_;refine AL.cons rfl (aX.move (.inl rfl) rfl rfl) ?_;refine AL.cons rfl (aX.nilPtr rfl rfl rfl) ?_;refine AL.cons rfl (aX.fieldPtr (k:=0) (d:=0) (e:=1) rfl rfl rfl PQ) ?_;refine AL.cons rfl (aX.loadPtr1 rfl rfl rfl rfl jN rfl) ?_;refine AL.cons rfl (aX.addI rfl rfl rfl rfl (c:=((d.p+1:Nat):Int)) (by omega) (by omega)) ?_;refine AL.cons rfl (aX.nilPtr rfl rfl rfl) ?_;refine AL.cons rfl (aX.fieldPtr (k:=0) (d:=0) (e:=1) rfl rfl rfl PQ) ?_;refine AL.cons rfl (aX.storePtr (cs:= [.t (.leaf (.int .i64 (((d.p+1:Nat):Int))))]) (ds:= [.t (.row 1 (cK (d.code))),.t (.leaf (.int .i64 (((d.p+1:Nat):Int)))),.t (.leaf (.int .i64 (aR ((aR (d.h*6364136223846793005))+1442695040888963407))))]) rfl rfl rfl rfl rfl rfl rfl sz3 (Nat.le_of_ble_eq_true rfl) rfl) ?_;refine AL.nil ?_;refine aQ.seq ?_;refine aQ.region_lit ?_;refine AL.cons rfl (aX.move (.inl rfl) rfl rfl) ?_;refine AL.cons rfl (aX.move (.inr rfl) rfl rfl) ?_;refine AL.nil ?_;refine aQ.ret ?_;exact xY.mk (ps:= [_]) (.inr rfl) ⟨rfl,trivial⟩ rfl (nL.mk' (st':=⟨[some ⟨151,[.t (.row 1 (cK (d.code))),.t (.leaf (.int .i64 (((d.p+1:Nat):Int)))),.t (.leaf (.int .i64 (aR ((aR (d.h*6364136223846793005))+1442695040888963407))))]⟩],[]⟩) ⟨⟨rfl,kP,rfl⟩,trivial⟩ rfl) (tI hC ⟨_,rfl⟩) (q:= .t (.leaf (.int .i64 (BC (aR ((BC (Q4 (sO (aR ((aR (d.h*6364136223846793005))+1442695040888963407)) 33) (sO (aR ((aR (d.h*6364136223846793005))+1442695040888963407)) 45)) 255)+((d.code[d.p]).toNat:Int))) 255)))) (.refl _) rfl ⟨by first|(simp_all [DS.byte,DQ];done)|(have hq: ¬d.p<d.code.length:=(by omega);simp [DS.byte,DQ,hq]),by first|(simp_all [DS.box,DS.cells,DS.next,DQ];done)|(have hq: ¬d.p<d.code.length:=(by omega);simp [DS.box,DS.cells,DS.next,DQ,hq])⟩
 ·have h1b:=h1
  try simp only [Bool.and_eq_true,Bool.or_eq_true,Bool.and_eq_false_iff,Bool.or_eq_false_iff,decide_eq_true_eq,decide_eq_false_iff_not,Bool.not_eq_true',Bool.not_eq_false',Bool.not_eq_eq_eq_not,Bool.not_true,Bool.not_false,ge_iff_le,gt_iff_lt,Int.not_lt,Int.not_le] at h1b
  have h1n:d.p≥d.code.length:=by omega
  refine aQ.skip ?_;refine aQ.seq ?_;refine aQ.region_lit ?_;refine AL.cons rfl (aX.move (.inl rfl) rfl rfl) ?_;refine AL.cons rfl (aX.move (.inr rfl) rfl rfl) ?_;refine AL.nil ?_;refine aQ.ret ?_;exact xY.mk (ps:= [_]) (.inr rfl) ⟨rfl,trivial⟩ rfl (nL.mk' (st':=⟨[some ⟨151,[.t (.row 1 (cK (d.code))),.t (.leaf (.int .i64 (((d.p:Nat):Int)))),.t (.leaf (.int .i64 (aR ((aR (d.h*6364136223846793005))+1442695040888963407))))]⟩],[]⟩) ⟨⟨rfl,kP,rfl⟩,trivial⟩ rfl) (tI hC ⟨_,rfl⟩) (q:= .t (.leaf (.int .i64 (BC (Q4 (sO (aR ((aR (d.h*6364136223846793005))+1442695040888963407)) 33) (sO (aR ((aR (d.h*6364136223846793005))+1442695040888963407)) 45)) 255)))) (.refl _) rfl ⟨by first|(simp_all [DS.byte,DQ];done)|(have hq: ¬d.p<d.code.length:=(by omega);simp [DS.byte,DQ,hq]),by first|(simp_all [DS.box,DS.cells,DS.next,DQ];done)|(have hq: ¬d.p<d.code.length:=(by omega);simp [DS.box,DS.cells,DS.next,DQ,hq])⟩
theorem C7(d:DS):cP Tryz.prog 146 [.ptr 0 0] (d.box 151) (fun r t=>r= .t (.leaf (.int .i64 ((d.byteN:Nat):Int)))∧t=d.next.box 151):=by rw [d.byteN_eq];exact al6 d
set_option maxRecDepth 100000 in
set_option maxHeartbeats 4000000 in
theorem e9(d:DS)(n:Nat):cP Tryz.prog 103 [.ptr 0 0,.t (.leaf (.int .i64 (((n:Nat):Int))))] (d.box 151) (fun r t=>r= .t (.leaf (.int .i64 (((d.below n:Nat):Int))))∧t=(d.after n).box 151):=by
 refine cP.intro Tryz.func103 rfl (by first|decide|(simp;done)|(simp;decide)) ?_;intro C hC
 refine aQ.fact (cE 0 0 rfl rfl rfl (gG d.code)) (fun hl0=>?_)
 have hb0:=d.byteN_le
 have hb1:=d.next.byteN_le
 have hb2:=d.next.next.byteN_le
 have hb3:=d.next.next.next.byteN_le
 refine aQ.seq ?_;refine aQ.region_lit ?_;refine AL.cons rfl (aX.move (.inr rfl) rfl rfl) ?_;refine AL.nil ?_;refine aQ.seq ?_;refine aQ.seq ?_;refine aQ.region_lit ?_;refine AL.cons rfl (aX.move (.inl rfl) rfl rfl) ?_;refine AL.cons rfl (aX.leq rfl rfl rfl rfl) ?_;refine AL.nil ?_;refine aQ.cond rfl (fun h1=>?_) (fun h1=>?_)
 ·have h1b:=h1
  try simp only [Bool.and_eq_true,Bool.or_eq_true,Bool.and_eq_false_iff,Bool.or_eq_false_iff,decide_eq_true_eq,decide_eq_false_iff_not,Bool.not_eq_true',Bool.not_eq_false',Bool.not_eq_eq_eq_not,Bool.not_true,Bool.not_false,ge_iff_le,gt_iff_lt,Int.not_lt,Int.not_le] at h1b
  refine aQ.seq ?_;refine aQ.region_lit ?_;refine AL.cons rfl (aX.move (.inr rfl) rfl rfl) ?_;refine AL.nil ?_;refine aQ.ret ?_;exact xY.mk (ps:= [_]) (.inr rfl) ⟨rfl,trivial⟩ rfl (nL.mk' (st':=⟨[some ⟨151,[.t (.row 1 (cK (d.code))),.t (.leaf (.int .i64 (((d.p:Nat):Int)))),.t (.leaf (.int .i64 (d.h)))]⟩],[]⟩) ⟨⟨rfl,kP,rfl⟩,trivial⟩ rfl) (tI hC ⟨_,rfl⟩) (q:= .t (.leaf (.int .i64 (0)))) kP rfl ⟨by first|(have hq:n=0:=(by omega);simp [DS.below,hq];done)|(have hq: ¬n=0:=(by omega);have hr:n≤256:=(by omega);simp [DS.below,hq,hr];done)|(have hq: ¬n=0:=(by omega);have hr: ¬n≤256:=(by omega);simp [DS.below,hq,hr]),by first|(have hq:n=0:=(by omega);simp [DS.after,DS.box,DS.cells,hq];done)|(have hq: ¬n=0:=(by omega);have hr:n≤256:=(by omega);simp [DS.after,DS.box,DS.cells,hq,hr];done)|(have hq: ¬n=0:=(by omega);have hr: ¬n≤256:=(by omega);simp [DS.after,DS.box,DS.cells,hq,hr])⟩
 ·have h1b:=h1
  try simp only [Bool.and_eq_true,Bool.or_eq_true,Bool.and_eq_false_iff,Bool.or_eq_false_iff,decide_eq_true_eq,decide_eq_false_iff_not,Bool.not_eq_true',Bool.not_eq_false',Bool.not_eq_eq_eq_not,Bool.not_true,Bool.not_false,ge_iff_le,gt_iff_lt,Int.not_lt,Int.not_le] at h1b
  refine aQ.skip ?_;refine aQ.seq ?_;refine aQ.seq ?_;refine aQ.region_lit ?_;refine AL.cons rfl (aX.move (.inl rfl) rfl rfl) ?_;refine AL.cons rfl (aX.leq rfl rfl rfl rfl) ?_;refine AL.nil ?_;refine aQ.cond rfl (fun h2=>?_) (fun h2=>?_)
  ·have h2b:=h2
   try simp only [Bool.and_eq_true,Bool.or_eq_true,Bool.and_eq_false_iff,Bool.or_eq_false_iff,decide_eq_true_eq,decide_eq_false_iff_not,Bool.not_eq_true',Bool.not_eq_false',Bool.not_eq_eq_eq_not,Bool.not_true,Bool.not_false,ge_iff_le,gt_iff_lt,Int.not_lt,Int.not_le] at h2b
   refine aQ.seq ?_;refine aQ.region_lit ?_;refine AL.cons rfl (aX.move (.inl rfl) rfl rfl) ?_;refine AL.cons rfl (aX.callPE (pre:=⟨[some ⟨151,[.t (.row 1 (cK (d.code))),.t (.leaf (.int .i64 (((d.p:Nat):Int)))),.t (.leaf (.int .i64 (d.h)))]⟩],[]⟩) (st':=⟨[some ⟨151,[.t (.row 1 (cK (d.next.code))),.t (.leaf (.int .i64 (((d.next.p:Nat):Int)))),.t (.leaf (.int .i64 (d.next.h)))]⟩],[]⟩) (ps:= [_]) (qs:= [.ptr 0 0]) [0] [] rfl rfl Tryz.func146 (by kernel_rfl) rfl rfl rfl (by(try rw [hs]);exact⟨rfl,rfl,by decide,by decide,fun k h=>by rcases k with _|k<;>simp at h;exact⟨_,rfl⟩,fun k x h=>by rcases k with _|k<;>simp at h;subst h;exact⟨_,rfl,rfl,kP,rfl⟩,fun r row h=>by simp at h⟩) kP rfl rfl rfl (C7 d)) ?_;refine AL.cons rfl (aX.move (.inl rfl) rfl rfl) ?_;refine AL.cons rfl (aX.remN (a:=d.byteN) (b:=n) rfl rfl rfl rfl (by omega) (by omega)) ?_;refine AL.cons rfl (aX.move (.inr rfl) rfl rfl) ?_;refine AL.nil ?_;refine aQ.ret ?_;exact xY.mk (ps:= [_]) (.inr rfl) ⟨rfl,trivial⟩ rfl (nL.mk' (st':=⟨[some ⟨151,[.t (.row 1 (cK (d.next.code))),.t (.leaf (.int .i64 (((d.next.p:Nat):Int)))),.t (.leaf (.int .i64 (d.next.h)))]⟩],[]⟩) ⟨⟨rfl,kP,rfl⟩,trivial⟩ rfl) (tI hC ⟨_,rfl⟩) (q:= .t (.leaf (.int .i64 (((d.byteN%n:Nat):Int))))) kP rfl ⟨by first|(have hq:n=0:=(by omega);simp [DS.below,hq];done)|(have hq: ¬n=0:=(by omega);have hr:n≤256:=(by omega);simp [DS.below,hq,hr];done)|(have hq: ¬n=0:=(by omega);have hr: ¬n≤256:=(by omega);simp [DS.below,hq,hr]),by first|(have hq:n=0:=(by omega);simp [DS.after,DS.box,DS.cells,hq];done)|(have hq: ¬n=0:=(by omega);have hr:n≤256:=(by omega);simp [DS.after,DS.box,DS.cells,hq,hr];done)|(have hq: ¬n=0:=(by omega);have hr: ¬n≤256:=(by omega);simp [DS.after,DS.box,DS.cells,hq,hr])⟩
  ·have h2b:=h2
   try simp only [Bool.and_eq_true,Bool.or_eq_true,Bool.and_eq_false_iff,Bool.or_eq_false_iff,decide_eq_true_eq,decide_eq_false_iff_not,Bool.not_eq_true',Bool.not_eq_false',Bool.not_eq_eq_eq_not,Bool.not_true,Bool.not_false,ge_iff_le,gt_iff_lt,Int.not_lt,Int.not_le] at h2b
   refine aQ.skip ?_;refine aQ.seq ?_;refine aQ.region_lit ?_;refine AL.cons rfl (aX.move (.inl rfl) rfl rfl) ?_;refine AL.cons rfl (aX.callPE (pre:=⟨[some ⟨151,[.t (.row 1 (cK (d.code))),.t (.leaf (.int .i64 (((d.p:Nat):Int)))),.t (.leaf (.int .i64 (d.h)))]⟩],[]⟩) (st':=⟨[some ⟨151,[.t (.row 1 (cK (d.next.code))),.t (.leaf (.int .i64 (((d.next.p:Nat):Int)))),.t (.leaf (.int .i64 (d.next.h)))]⟩],[]⟩) (ps:= [_]) (qs:= [.ptr 0 0]) [0] [] rfl rfl Tryz.func146 (by kernel_rfl) rfl rfl rfl (by(try rw [hs]);exact⟨rfl,rfl,by decide,by decide,fun k h=>by rcases k with _|k<;>simp at h;exact⟨_,rfl⟩,fun k x h=>by rcases k with _|k<;>simp at h;subst h;exact⟨_,rfl,rfl,kP,rfl⟩,fun r row h=>by simp at h⟩) kP rfl rfl rfl (C7 d)) ?_;refine AL.cons rfl (aX.move (.inr rfl) rfl rfl) ?_;refine AL.nil ?_;refine aQ.seq ?_;refine aQ.region_lit ?_;refine AL.cons rfl (aX.move (.inl rfl) rfl rfl) ?_;refine AL.cons rfl (aX.callPE (pre:=⟨[some ⟨151,[.t (.row 1 (cK (d.next.code))),.t (.leaf (.int .i64 (((d.next.p:Nat):Int)))),.t (.leaf (.int .i64 (d.next.h)))]⟩],[]⟩) (st':=⟨[some ⟨151,[.t (.row 1 (cK (d.next.next.code))),.t (.leaf (.int .i64 (((d.next.next.p:Nat):Int)))),.t (.leaf (.int .i64 (d.next.next.h)))]⟩],[]⟩) (ps:= [_]) (qs:= [.ptr 0 0]) [0] [] rfl rfl Tryz.func146 (by kernel_rfl) rfl rfl rfl (by(try rw [hs]);exact⟨rfl,rfl,by decide,by decide,fun k h=>by rcases k with _|k<;>simp at h;exact⟨_,rfl⟩,fun k x h=>by rcases k with _|k<;>simp at h;subst h;exact⟨_,rfl,rfl,kP,rfl⟩,fun r row h=>by simp at h⟩) kP rfl rfl rfl (C7 d.next)) ?_;refine AL.cons rfl (aX.move (.inr rfl) rfl rfl) ?_;refine AL.nil ?_;refine aQ.seq ?_;refine aQ.region_lit ?_;refine AL.cons rfl (aX.move (.inl rfl) rfl rfl) ?_;refine AL.cons rfl (aX.callPE (pre:=⟨[some ⟨151,[.t (.row 1 (cK (d.next.next.code))),.t (.leaf (.int .i64 (((d.next.next.p:Nat):Int)))),.t (.leaf (.int .i64 (d.next.next.h)))]⟩],[]⟩) (st':=⟨[some ⟨151,[.t (.row 1 (cK (d.next.next.next.code))),.t (.leaf (.int .i64 (((d.next.next.next.p:Nat):Int)))),.t (.leaf (.int .i64 (d.next.next.next.h)))]⟩],[]⟩) (ps:= [_]) (qs:= [.ptr 0 0]) [0] [] rfl rfl Tryz.func146 (by kernel_rfl) rfl rfl rfl (by(try rw [hs]);exact⟨rfl,rfl,by decide,by decide,fun k h=>by rcases k with _|k<;>simp at h;exact⟨_,rfl⟩,fun k x h=>by rcases k with _|k<;>simp at h;subst h;exact⟨_,rfl,rfl,kP,rfl⟩,fun r row h=>by simp at h⟩) kP rfl rfl rfl (C7 d.next.next)) ?_;refine AL.cons rfl (aX.move (.inr rfl) rfl rfl) ?_;refine AL.nil ?_;refine aQ.seq ?_;refine aQ.region_lit ?_;refine AL.cons rfl (aX.move (.inl rfl) rfl rfl) ?_;refine AL.cons rfl (aX.callPE (pre:=⟨[some ⟨151,[.t (.row 1 (cK (d.next.next.next.code))),.t (.leaf (.int .i64 (((d.next.next.next.p:Nat):Int)))),.t (.leaf (.int .i64 (d.next.next.next.h)))]⟩],[]⟩) (st':=⟨[some ⟨151,[.t (.row 1 (cK (d.next.next.next.next.code))),.t (.leaf (.int .i64 (((d.next.next.next.next.p:Nat):Int)))),.t (.leaf (.int .i64 (d.next.next.next.next.h)))]⟩],[]⟩) (ps:= [_]) (qs:= [.ptr 0 0]) [0] [] rfl rfl Tryz.func146 (by kernel_rfl) rfl rfl rfl (by(try rw [hs]);exact⟨rfl,rfl,by decide,by decide,fun k h=>by rcases k with _|k<;>simp at h;exact⟨_,rfl⟩,fun k x h=>by rcases k with _|k<;>simp at h;subst h;exact⟨_,rfl,rfl,kP,rfl⟩,fun r row h=>by simp at h⟩) kP rfl rfl rfl (C7 d.next.next.next)) ?_;refine AL.cons rfl (aX.move (.inr rfl) rfl rfl) ?_;refine AL.nil ?_;refine aQ.seq ?_;refine aQ.region_lit ?_;refine AL.cons rfl (aX.move (.inl rfl) rfl rfl) ?_;refine AL.cons rfl (aX.mulI rfl rfl rfl rfl (c:=((d.byteN*16777216:Nat):Int)) (by omega) (by omega)) ?_;refine AL.cons rfl (aX.move (.inl rfl) rfl rfl) ?_;refine AL.cons rfl (aX.mulI rfl rfl rfl rfl (c:=((d.next.byteN*65536:Nat):Int)) (by omega) (by omega)) ?_;refine AL.cons rfl (aX.addI rfl rfl rfl rfl (c:=(((d.byteN*16777216)+(d.next.byteN*65536):Nat):Int)) (by omega) (by omega)) ?_;refine AL.cons rfl (aX.move (.inl rfl) rfl rfl) ?_;refine AL.cons rfl (aX.mulI rfl rfl rfl rfl (c:=((d.next.next.byteN*256:Nat):Int)) (by omega) (by omega)) ?_;refine AL.cons rfl (aX.addI rfl rfl rfl rfl (c:=((((d.byteN*16777216)+(d.next.byteN*65536))+(d.next.next.byteN*256):Nat):Int)) (by omega) (by omega)) ?_;refine AL.cons rfl (aX.move (.inl rfl) rfl rfl) ?_;refine AL.cons rfl (aX.addI rfl rfl rfl rfl (c:=(((((d.byteN*16777216)+(d.next.byteN*65536))+(d.next.next.byteN*256))+d.next.next.next.byteN:Nat):Int)) (by omega) (by omega)) ?_;refine AL.cons rfl (aX.move (.inl rfl) rfl rfl) ?_;refine AL.cons rfl (aX.remN (a:=(((d.byteN*16777216)+(d.next.byteN*65536))+(d.next.next.byteN*256))+d.next.next.next.byteN) (b:=n) rfl rfl rfl rfl (by omega) (by omega)) ?_;refine AL.cons rfl (aX.move (.inr rfl) rfl rfl) ?_;refine AL.nil ?_;refine aQ.ret ?_;exact xY.mk (ps:= [_]) (.inr rfl) ⟨rfl,trivial⟩ rfl (nL.mk' (st':=⟨[some ⟨151,[.t (.row 1 (cK (d.next.next.next.next.code))),.t (.leaf (.int .i64 (((d.next.next.next.next.p:Nat):Int)))),.t (.leaf (.int .i64 (d.next.next.next.next.h)))]⟩],[]⟩) ⟨⟨rfl,kP,rfl⟩,trivial⟩ rfl) (tI hC ⟨_,rfl⟩) (q:= .t (.leaf (.int .i64 (((((((d.byteN*16777216)+(d.next.byteN*65536))+(d.next.next.byteN*256))+d.next.next.next.byteN)%n:Nat):Int))))) kP rfl ⟨by first|(have hq:n=0:=(by omega);simp [DS.below,hq];done)|(have hq: ¬n=0:=(by omega);have hr:n≤256:=(by omega);simp [DS.below,hq,hr];done)|(have hq: ¬n=0:=(by omega);have hr: ¬n≤256:=(by omega);simp [DS.below,hq,hr]),by first|(have hq:n=0:=(by omega);simp [DS.after,DS.box,DS.cells,hq];done)|(have hq: ¬n=0:=(by omega);have hr:n≤256:=(by omega);simp [DS.after,DS.box,DS.cells,hq,hr];done)|(have hq: ¬n=0:=(by omega);have hr: ¬n≤256:=(by omega);simp [DS.after,DS.box,DS.cells,hq,hr])⟩
set_option maxRecDepth 100000 in
set_option maxHeartbeats 4000000 in
theorem mZ(d:DS)(n:Nat):cP Tryz.prog 112 [.ptr 0 0,.t (.leaf (.int .i64 (((n:Nat):Int))))] (d.box 151) (fun r t=>r= .t (.leaf (.bool (decide (d.below n=0))))∧t=(d.after n).box 151):=by
 refine cP.intro Tryz.func112 rfl (by first|decide|(simp;done)|(simp;decide)) ?_;intro C hC
 refine aQ.fact (cE 0 0 rfl rfl rfl (gG d.code)) (fun hl0=>?_)
 refine aQ.seq ?_;refine aQ.region_lit ?_;refine AL.cons rfl (aX.move (.inr rfl) rfl rfl) ?_;refine AL.nil ?_;refine aQ.seq ?_;refine aQ.region_lit ?_;refine AL.cons rfl (aX.move (.inl rfl) rfl rfl) ?_;refine AL.cons rfl (aX.move (.inl rfl) rfl rfl) ?_;refine AL.cons rfl (aX.callPE (pre:=⟨[some ⟨151,[.t (.row 1 (cK (d.code))),.t (.leaf (.int .i64 (((d.p:Nat):Int)))),.t (.leaf (.int .i64 (d.h)))]⟩],[]⟩) (st':=⟨[some ⟨151,[.t (.row 1 (cK ((d.after n).code))),.t (.leaf (.int .i64 ((((d.after n).p:Nat):Int)))),.t (.leaf (.int .i64 ((d.after n).h)))]⟩],[]⟩) (ps:= [_,_]) (qs:= [.ptr 0 0,.t (.leaf (.int .i64 (((n:Nat):Int))))]) [0] [] rfl rfl Tryz.func103 (by kernel_rfl) rfl rfl rfl (by(try rw [hs]);exact⟨rfl,rfl,by decide,by decide,fun k h=>by rcases k with _|k<;>simp at h;exact⟨_,rfl⟩,fun k x h=>by rcases k with _|k<;>simp at h;subst h;exact⟨_,rfl,rfl,kP,rfl⟩,fun r row h=>by simp at h⟩) kP rfl rfl rfl (e9 d n)) ?_;refine AL.cons rfl (aX.eqlI rfl rfl rfl rfl) ?_;refine AL.cons rfl (aX.move (.inr rfl) rfl rfl) ?_;refine AL.nil ?_;refine aQ.ret ?_;exact xY.mk (ps:= [_]) (.inr rfl) ⟨rfl,trivial⟩ rfl (nL.mk' (st':=⟨[some ⟨151,[.t (.row 1 (cK ((d.after n).code))),.t (.leaf (.int .i64 ((((d.after n).p:Nat):Int)))),.t (.leaf (.int .i64 ((d.after n).h)))]⟩],[]⟩) ⟨⟨rfl,kP,rfl⟩,trivial⟩ rfl) (tI hC ⟨_,rfl⟩) (q:= .t (.leaf (.bool (decide ((((d.below n:Nat):Int):Int)=0))))) kP rfl ⟨by first|rfl|(congr 4;simp),by rfl⟩
set_option maxRecDepth 100000 in
set_option maxHeartbeats 4000000 in
theorem fO(d:DS)(l:List ByteArray)(hl:0<l.length):cP Tryz.prog 86 [.ptr 0 0,.t (.row 1 (a4 (l)))] (d.box 151) (fun r t=>r= .t (.leaf (.string (d.pick l)))∧t=(d.after l.length).box 151):=by
 refine cP.intro Tryz.func86 rfl (by first|decide|(simp;done)|(simp;decide)) ?_;intro C hC
 refine aQ.fact (cE 0 0 rfl rfl rfl (gG d.code)) (fun hl0=>?_)
 refine aQ.fact (P0 1 rfl rfl (a9 _)) (fun hl1=>?_)
 have hx:d.below l.length<l.length:=d.below_lt hl
 refine aQ.seq ?_;refine aQ.region_lit ?_;refine AL.cons rfl (aX.move (.inr rfl) rfl rfl) ?_;refine AL.nil ?_;refine aQ.seq ?_;refine aQ.region_lit ?_;refine AL.cons rfl (aX.move (.inl rfl) rfl rfl) ?_;refine AL.cons rfl (aX.move (.inl rfl) rfl rfl) ?_;refine AL.cons rfl (aX.move (.inl rfl) rfl rfl) ?_;refine AL.cons rfl (aX.lenN rfl rfl rfl rfl bU (a9 _)) ?_;refine AL.cons rfl (aX.callPE (pre:=⟨[some ⟨151,[.t (.row 1 (cK (d.code))),.t (.leaf (.int .i64 (((d.p:Nat):Int)))),.t (.leaf (.int .i64 (d.h)))]⟩],[]⟩) (st':=⟨[some ⟨151,[.t (.row 1 (cK ((d.after l.length).code))),.t (.leaf (.int .i64 ((((d.after l.length).p:Nat):Int)))),.t (.leaf (.int .i64 ((d.after l.length).h)))]⟩],[]⟩) (ps:= [_,_]) (qs:= [.ptr 0 0,.t (.leaf (.int .i64 (((l.length:Nat):Int))))]) [0] [] rfl rfl Tryz.func103 (by kernel_rfl) rfl rfl rfl (by(try rw [hs]);exact⟨rfl,rfl,by decide,by decide,fun k h=>by rcases k with _|k<;>simp at h;exact⟨_,rfl⟩,fun k x h=>by rcases k with _|k<;>simp at h;subst h;exact⟨_,rfl,rfl,kP,rfl⟩,fun r row h=>by simp at h⟩) kP rfl rfl rfl (e9 d l.length)) ?_;refine AL.cons rfl (aX.index (k:=d.below l.length) rfl rfl rfl rfl rfl (V0 hx) bU) ?_;refine AL.cons rfl (aX.loadEptr1 (d:= .leaf (.string (l[d.below l.length]))) rfl rfl rfl eE rfl) ?_;refine AL.cons rfl (aX.move (.inr rfl) rfl rfl) ?_;refine AL.nil ?_;refine aQ.ret ?_;exact xY.mk (ps:= [_]) (.inr rfl) ⟨rfl,trivial⟩ rfl (nL.mk' (st':=⟨[some ⟨151,[.t (.row 1 (cK ((d.after l.length).code))),.t (.leaf (.int .i64 ((((d.after l.length).p:Nat):Int)))),.t (.leaf (.int .i64 ((d.after l.length).h)))]⟩],[]⟩) ⟨⟨rfl,kP,rfl⟩,trivial⟩ rfl) (tI hC ⟨_,rfl⟩) (q:= .t (.leaf (.string (l[d.below l.length])))) kP rfl ⟨by rw [DS.pick_eq hx],by rfl⟩
set_option maxRecDepth 100000 in
set_option maxHeartbeats 4000000 in
theorem aeO(code:List UInt8)(hb:code.length≤1048576):aoD Tryz.prog 54 [.t (.row 1 (cK code))] 151 (DS.start code).cells:=by
 refine cP.intro Tryz.func54 rfl (by first|decide|(simp;done)|(simp;decide)) ?_;intro C hC
 refine aQ.fact (P0 0 rfl rfl (gG _)) (fun hl1=>?_)
 refine aQ.seq ?_;refine aQ.region_lit ?_;refine AL.cons rfl (aX.moveAny (.inl rfl)) ?_;refine AL.nil ?_;refine aQ.seq ?_;refine aQ.region_lit ?_;refine AL.cons rfl (aX.move (.inl rfl) rfl rfl) ?_;refine AL.cons rfl (aX.lenN rfl rfl rfl rfl Z9 (gG _)) ?_;refine AL.cons rfl (aX.addI rfl rfl rfl rfl (c:=((28803+code.length:Nat):Int)) (by omega) (by omega)) ?_;refine AL.cons rfl (aX.move (.inr rfl) rfl rfl) ?_;refine AL.nil ?_;refine aQ.seq ?_;refine aQ.seq ?_;refine aQ.region_lit ?_;refine AL.cons rfl (aX.move (.inr rfl) rfl rfl) ?_;refine AL.nil ?_;refine aQ.block ?_;refine aQ.loopJ (ι:=Nat×Int) (fun⟨i,h⟩=>i≤code.length∧i≤4000∧aoP code=((code.take 4000).drop i).foldl E0 h) (fun⟨i,h⟩=>⟨[(0,.t (.row 1 (cK (code)))),(3,.t (.leaf (.int .i64 (h)))),(4,.t (.leaf (.int .i64 (((i:Nat):Int)))))],⟨[],[]⟩⟩) (fun⟨i,h⟩=>code.length-i) (0,(28803+(code.length:Int))) ?_ ?_ ?_
 ·exact⟨Nat.zero_le _,Nat.zero_le _,rfl⟩
 ·exact Wk.mk (nL.mk' trivial rfl) (AK hC) ⟨⟨_,rfl,.refl _,rfl⟩,⟨⟨_,rfl,kP,rfl⟩,⟨⟨_,rfl,kP,rfl⟩,trivial⟩⟩⟩
 rintro⟨i,h⟩ hJ2
 obtain⟨hi1,hi2,hi3⟩:=hJ2
 refine aQ.seq ?_;refine aQ.seq ?_;refine aQ.region_lit ?_;refine AL.cons rfl (aX.move (.inl rfl) rfl rfl) ?_;refine AL.cons rfl (aX.move (.inl rfl) rfl rfl) ?_;refine AL.cons rfl (aX.lenN rfl rfl rfl rfl Z9 (gG _)) ?_;refine AL.cons rfl (aX.lss rfl rfl rfl rfl) ?_;refine AL.cons rfl (aX.move (.inl rfl) rfl rfl) ?_;refine AL.splitB 12 rfl (fun g3=>?_) (fun g3=>?_)
 ·have g3b:=g3
  try simp only [Bool.and_eq_true,Bool.or_eq_true,Bool.and_eq_false_iff,Bool.or_eq_false_iff,decide_eq_true_eq,decide_eq_false_iff_not,Bool.not_eq_true',Bool.not_eq_false',Bool.not_eq_eq_eq_not,Bool.not_true,Bool.not_false,ge_iff_le,gt_iff_lt,Int.not_lt,Int.not_le] at g3b
  have g3n:i<code.length:=by omega
  refine AL.cons_gv rfl rfl rfl g3 (aX.move (.inl rfl) rfl rfl) ?_;refine AL.cons_gv rfl rfl rfl g3 (aX.lss rfl rfl rfl rfl) ?_;refine AL.cons rfl (aX.pickT rfl rfl rfl g3 rfl) ?_;refine AL.nil ?_;refine aQ.cond rfl (fun h4=>?_) (fun h4=>?_)
  ·have h4b:=h4
   try simp only [Bool.and_eq_true,Bool.or_eq_true,Bool.and_eq_false_iff,Bool.or_eq_false_iff,decide_eq_true_eq,decide_eq_false_iff_not,Bool.not_eq_true',Bool.not_eq_false',Bool.not_eq_eq_eq_not,Bool.not_true,Bool.not_false,ge_iff_le,gt_iff_lt,Int.not_lt,Int.not_le] at h4b
   refine aQ.skip ?_;refine aQ.seq ?_;refine aQ.block ?_;refine aQ.region_lit ?_;refine AL.cons rfl (aX.move (.inl rfl) rfl rfl) ?_;refine AL.cons rfl (aX.mulW rfl rfl rfl rfl) ?_;refine AL.cons rfl (aX.move (.inl rfl) rfl rfl) ?_;refine AL.cons rfl (aX.move (.inl rfl) rfl rfl) ?_;refine AL.cons rfl (aX.index (k:=i) rfl rfl rfl rfl rfl (w6 g3n) Z9) ?_;refine AL.cons rfl (aX.loadEptr1 (d:= .leaf (.int .u8 (((code[i]).toNat:Int)))) rfl rfl rfl sh5 rfl) ?_;refine AL.cons rfl (aX.convI rfl rfl rfl ⟨_,Tryz.underlying5⟩ Tryz.underlying3 (by first|omega|(have:=UInt8.toNat_lt (code[i]);omega)) (by first|omega|(have:=UInt8.toNat_lt (code[i]);omega))) ?_;refine AL.cons rfl (aX.addW rfl rfl rfl rfl) ?_;refine AL.cons rfl (aX.addW rfl rfl rfl rfl) ?_;refine AL.cons rfl (aX.andI rfl rfl rfl rfl) ?_;refine AL.cons rfl (aX.move (.inr rfl) rfl rfl) ?_;refine AL.nil ?_;refine aQ.region_lit ?_;refine AL.cons rfl (aX.move (.inl rfl) rfl rfl) ?_;refine AL.cons rfl (aX.addI rfl rfl rfl rfl (c:=((i+1:Nat):Int)) (by omega) (by omega)) ?_;refine AL.cons rfl (aX.move (.inr rfl) rfl rfl) ?_;refine AL.nil ?_;refine⟨(i+1,BC (aR ((aR ((aR (h*131))+((code[i]).toNat:Int)))+7)) 1073741823),?_,?_,?_⟩
   ·exact⟨by omega,by omega,aiS (by omega) (by omega) hi3 rfl⟩
   ·exact Wk.mk (nL.mk' trivial rfl) (AK hC) ⟨⟨_,rfl,.refl _,rfl⟩,⟨⟨_,rfl,kP,rfl⟩,⟨⟨_,rfl,kP,rfl⟩,trivial⟩⟩⟩
   ·dsimp only;omega
  ·have h4b:=h4
   try simp only [Bool.and_eq_true,Bool.or_eq_true,Bool.and_eq_false_iff,Bool.or_eq_false_iff,decide_eq_true_eq,decide_eq_false_iff_not,Bool.not_eq_true',Bool.not_eq_false',Bool.not_eq_eq_eq_not,Bool.not_true,Bool.not_false,ge_iff_le,gt_iff_lt,Int.not_lt,Int.not_le] at h4b
   refine aQ.exit ?_;refine aQ.seq ?_;refine aQ.region_lit ?_;refine AL.cons rfl (aX.move (.inl rfl) rfl rfl) ?_;refine AL.cons rfl (aX.move (.inl rfl) rfl rfl) ?_;refine AL.cons rfl (aX.build rfl rfl anJ am4 rfl rfl) ?_;refine AL.cons rfl (aX.box (cs:= [.t (.row 1 (cK (code))),.t (.leaf (.int .i64 (0))),.t (.leaf (.int .i64 (h)))]) rfl rfl rfl rfl rfl) ?_;refine AL.cons rfl (aX.move (.inr rfl) rfl rfl) ?_;refine AL.nil ?_;refine aQ.ret ?_
   obtain rfl:=aaS (by omega) hi3
   exact xY.mk (ps:= [_]) (.inr rfl) ⟨rfl,trivial⟩ rfl (nL.mk' (st':=⟨[some ⟨151,(DS.start code).cells⟩],[]⟩) ⟨⟨rfl,kP,rfl⟩,trivial⟩ rfl) (AK hC) (q:= .ptr 0 0) (.refl _) rfl ⟨0,rfl,rfl,fun i x hx=>by rcases i with _|i<;>simp at hx<;>simp,rfl⟩
 ·have g3b:=g3
  try simp only [Bool.and_eq_true,Bool.or_eq_true,Bool.and_eq_false_iff,Bool.or_eq_false_iff,decide_eq_true_eq,decide_eq_false_iff_not,Bool.not_eq_true',Bool.not_eq_false',Bool.not_eq_eq_eq_not,Bool.not_true,Bool.not_false,ge_iff_le,gt_iff_lt,Int.not_lt,Int.not_le] at g3b
  have g3n:i≥code.length:=by omega
  refine AL.skip_v rfl rfl rfl g3 rfl ?_;refine AL.skip_v rfl rfl rfl g3 rfl ?_;refine AL.cons rfl (aX.pickF rfl rfl rfl g3 rfl) ?_;refine AL.nil ?_;refine aQ.cond rfl (fun h5=>?_) (fun h5=>?_)
  ·exact absurd (h5.symm.trans rfl) (by decide)
  ·have h5b:=h5
   try simp only [Bool.and_eq_true,Bool.or_eq_true,Bool.and_eq_false_iff,Bool.or_eq_false_iff,decide_eq_true_eq,decide_eq_false_iff_not,Bool.not_eq_true',Bool.not_eq_false',Bool.not_eq_eq_eq_not,Bool.not_true,Bool.not_false,ge_iff_le,gt_iff_lt,Int.not_lt,Int.not_le] at h5b
   refine aQ.exit ?_;refine aQ.seq ?_;refine aQ.region_lit ?_;refine AL.cons rfl (aX.move (.inl rfl) rfl rfl) ?_;refine AL.cons rfl (aX.move (.inl rfl) rfl rfl) ?_;refine AL.cons rfl (aX.build rfl rfl anJ am4 rfl rfl) ?_;refine AL.cons rfl (aX.box (cs:= [.t (.row 1 (cK (code))),.t (.leaf (.int .i64 (0))),.t (.leaf (.int .i64 (h)))]) rfl rfl rfl rfl rfl) ?_;refine AL.cons rfl (aX.move (.inr rfl) rfl rfl) ?_;refine AL.nil ?_;refine aQ.ret ?_
   obtain rfl:=aaS (by omega) hi3
   exact xY.mk (ps:= [_]) (.inr rfl) ⟨rfl,trivial⟩ rfl (nL.mk' (st':=⟨[some ⟨151,(DS.start code).cells⟩],[]⟩) ⟨⟨rfl,kP,rfl⟩,trivial⟩ rfl) (AK hC) (q:= .ptr 0 0) (.refl _) rfl ⟨0,rfl,rfl,fun i x hx=>by rcases i with _|i<;>simp at hx<;>simp,rfl⟩
end Go.Proofs.YtpioomclpaiomaaGreat

namespace Go.Proofs.YtpioomclpaiomaaGreat
open Go.RowKit
theorem Z8{w:World}{xs:List Int}{v:Value}(h:LE w (.row 1 (xs.map fun n=> [Tr.leaf (.int .u8 n)])) v): ∃code:List UInt8,(xs.map fun n=> [Tr.leaf (.int .u8 n)])=cK code:=by
 have hr: ∀x∈xs,0≤x∧x≤255:=by
  intro x hx
  obtain⟨i,hi,rfl⟩:=List.mem_iff_getElem.1 hx
  cases h with
  |row c h1 h2 h3 h4=>
   have:=h4 i [Tr.leaf (.int .u8 xs[i])] (by simp [hi]) 0 _ rfl
   have:=(this.leaf_eq).2
   simpa [sH,Lit.wf,IntKind.min,IntKind.max,IntKind.bits,IntKind.signed] using this
 refine⟨xs.map fun n=>UInt8.ofNat n.toNat,?_⟩
 unfold cK
 rw [List.map_map]
 refine List.map_congr_left fun x hx=>?_
 have:=hr x hx
 have h2:(UInt8.ofNat x.toNat).toNat=x.toNat:=by
  rw [UInt8.toNat_ofNat']
  omega
 simp only [Function.comp,h2]
 rw [Int.toNat_of_nonneg this.1]
end Go.Proofs.YtpioomclpaiomaaGreat

namespace Go.Proofs.YtpioomclpaiomaaGreat
open Go.RowKit
theorem ah3.nil{w:World}:ah3 w [] []:=trivial
theorem ah3.cons{w:World}{p:PV}{ps:List PV}{v:Value}{vs:List Value}(h:RV0 w p v)(k:ah3 w ps vs):ah3 w (p::ps) (v::vs):=⟨h,k⟩
end Go.Proofs.YtpioomclpaiomaaGreat

namespace Go.Proofs.YtpioomclpaiomaaGreat
set_option linter.unusedSimpArgs false
set_option linter.unusedVariables false
open Go.RowKit Go.WalkArith Go.IntWalk Go.WideShapes
theorem gD.set{ok:Nat→Nat→Prop}{st:cY}{m:jE}{w:World}{q:PV}: ∀ {ps:List PV} {vs:List Value} {j:Nat},gD ok st m w ps vs→(∀v,vs[j]?=some v→RV ok st m w q v)→gD ok st m w (ps.set j q) vs
 | [],[],j,_,_=>by simp [gD]
 |p::ps,v::vs,0,h,k=>⟨k v rfl,h.2⟩
 |p::ps,v::vs,j+1,h,k=>⟨h.1,gD.set h.2 fun u hu=>k u (by simpa using hu)⟩
 | [],_::_,_,h,_=>h.elim
 |_::_,[],_,h,_=>h.elim
section
variable {P:Program} {C:qB} {n:Nat} {s:AS}
theorem Wk.regBox{k j:Nat}{bx:c5}(E sz:Nat)(hsz:0<sz)(hb:s.st.boxes[k]?=some (some bx))(hj:bx.cells[j]?=some .nil):
 Wk C n s ⟨s.env,(s.st.addRow ⟨E,sz,[],false⟩).setBox k ⟨bx.ty,bx.cells.set j (.acc sz [] s.st.rows.length)⟩⟩:=fun m a w h=>by
 have hE:=LV (row:=⟨E,sz,[],false⟩) h.sto
 have hS:=S9 (row:=⟨E,sz,[],false⟩) h.sto hsz rfl
 have h1:=h.step hE hS
 have hb1:(s.st.addRow ⟨E,sz,[],false⟩).boxes[k]?=some (some bx):=hb
 obtain⟨vs,hob,hcs⟩:=hS.box k bx hb1
 have hc:gD (j9 C.av (s.st.addRow ⟨E,sz,[],false⟩) ⟨m.ρ,xX m.γ s.st.rows.length none⟩) (s.st.addRow ⟨E,sz,[],false⟩) ⟨m.ρ,xX m.γ s.st.rows.length none⟩ w (bx.cells.set j (.acc sz [] s.st.rows.length)) vs:=by
  refine gD.set hcs fun v hv=>?_
  obtain⟨u,hu,hr⟩:=hcs.get hj
  rw [hv] at hu
  cases hu
  obtain rfl:=(show v=_ from hr)
  exact⟨⟨E,sz,[],false⟩,by show(s.st.rows++ [_])[s.st.rows.length]?=_;simp,rfl,Nat.le_refl _,cJ.nilRow _ _ _ _ (by unfold maxLen;omega),fun _=>by simp [cB,XC]⟩
 exact⟨_,h1.step (LZ hS hb1 rfl rfl rfl rfl fun _ _=>rfl) (TD hS hb1 rfl rfl rfl rfl (fun _ _=>rfl) hob hc)⟩
end
end Go.Proofs.YtpioomclpaiomaaGreat

namespace Go.Proofs.YtpioomclpaiomaaGreat
open Go.RowKit Go.WalkArith Go.IntWalk Go.WideShapes
section
variable {P:Program} {C:qB} {n:Nat} {s:AS} {o:Oper}
theorem ahH{T:TypeId}(hT:P.underlying T=some .bool)(a b:Bool)(w:World):(Op.equalIn Op.maxDepth T (.bool a) (.bool b)).run P w= .ok (a==b) w:=by
 unfold Op.maxDepth Op.equalIn
 simp [run_underlying hT]
theorem aX.eqlB{T yT:TypeId}{x y:Operand}{a b:Bool}(ho:o.op= .binOp .eql T x y yT)(hd:bQ o.dst n=true)(hx:s.ev x=some (.t (.leaf (.bool a))))(hy:s.ev y=some (.t (.leaf (.bool b))))(hT:P.underlying T=some .bool):
 aX P C n o s (s.putO o.dst (.t (.leaf (.bool (decide (a=b)))))):=aX.bin ho hd hx hy (fun w=>by
  simp [eqGuard,binOp,Op.equal,ahH hT]
  cases a<;>cases b<;>rfl) trivial
theorem aX.neqB{T yT:TypeId}{x y:Operand}{a b:Bool}(ho:o.op= .binOp .neq T x y yT)(hd:bQ o.dst n=true)(hx:s.ev x=some (.t (.leaf (.bool a))))(hy:s.ev y=some (.t (.leaf (.bool b))))(hT:P.underlying T=some .bool):
 aX P C n o s (s.putO o.dst (.t (.leaf (.bool (!decide (a=b)))))):=aX.bin ho hd hx hy (fun w=>by
  simp [eqGuard,binOp,Op.equal,ahH hT]
  cases a<;>cases b<;>rfl) trivial
end
end Go.Proofs.YtpioomclpaiomaaGreat

namespace Go.Proofs.YtpioomclpaiomaaGreat
set_option linter.unusedSimpArgs false
set_option linter.unusedVariables false
open Go.RowKit Go.WalkArith Go.IntWalk Go.WideShapes
inductive LR (σ β:Type) where
 |next (s:σ)
 |brk (s:σ)
 |ret (x:β)
def sw{α:Type}(b:Bool)(x y:α):α:=match b with
 |true=>x
 |false=>y
theorem uG{α:Type}{b:Bool}{x y z:α}(h:b=true)(k:x=z):sw b x y=z:=by rw [h];exact k
theorem oO{α:Type}{b:Bool}{x y z:α}(h:b=false)(k:y=z):sw b x y=z:=by rw [h];exact k
def lt{α β:Type}(x:α)(f:α→β):β:=f x
theorem ltE{α β:Type}{x y:α}{f:α→β}{z:β}(h:y=x)(k:f y=z):lt x f=z:=by subst h;exact k
noncomputable def gd{α:Type}(p:Prop)(x:Option α):Option α:= @ite _ p (Classical.propDecidable p) x none
theorem qX{α:Type}{p:Prop}{x z:Option α}(h:p)(k:x=z):gd p x=z:=by unfold gd;rw [if_pos h];exact k
theorem gdF{α:Type}{p:Prop}{x:Option α}(h: ¬p):gd p x=none:=by unfold gd;rw [if_neg h]
def bd{α β:Type}(m:Option α)(f:α→Option β):Option β:=match m with
 |none=>none
 |some a=>f a
theorem zR{α β:Type}{m:Option α}{f:α→Option β}{a:α}{z:Option β}(h:m=some a)(k:f a=z):bd m f=z:=by rw [h];exact k
def so{σ β:Type}(m:Option (β⊕σ))(f:σ→Option β):Option β:=match m with
 |none=>none
 |some (.inl x)=>some x
 |some (.inr s)=>f s
theorem soR{σ β:Type}{m:Option (β⊕σ)}{f:σ→Option β}{s:σ}{z:Option β}(h:m=some (.inr s))(k:f s=z):so m f=z:=by rw [h];exact k
theorem soL{σ β:Type}{m:Option (β⊕σ)}{f:σ→Option β}{x:β}(h:m=some (.inl x)):so m f=some x:=by rw [h];rfl
def loopN{σ β:Type}(f:Nat→σ→Option (LR σ β)):Nat→Nat→σ→Option (β⊕σ)
 |0,_,s=>some (.inr s)
 |k+1,i,s=>match f i s with
  |none=>none
  |some (.next s')=>loopN f k (i+1) s'
  |some (.brk s')=>some (.inr s')
  |some (.ret x)=>some (.inl x)
def loopW{σ β:Type}(f:σ→Option (LR σ β)):Nat→σ→Option (β⊕σ)
 |0,_=>none
 |k+1,s=>match f s with
  |none=>none
  |some (.next s')=>loopW f k s'
  |some (.brk s')=>some (.inr s')
  |some (.ret x)=>some (.inl x)
section
variable {σ β:Type} {f:Nat→σ→Option (LR σ β)} {n i:Nat} {s s':σ} {x:β} {R:Option (β⊕σ)}
theorem xG(h:i<n)(hJ:R=loopN f (n-i) i s)(e:f i s=some (.next s')):R=loopN f (n-(i+1)) (i+1) s':=by
 rw [hJ,show n-i=(n-(i+1))+1 by omega,loopN,e]
theorem aiN(h:i<n)(hJ:R=loopN f (n-i) i s)(e:f i s=some (.brk s')):R=some (.inr s'):=by
 rw [hJ,show n-i=(n-(i+1))+1 by omega,loopN,e]
theorem aiQ(h:i<n)(hJ:R=loopN f (n-i) i s)(e:f i s=some (.ret x)):R=some (.inl x):=by
 rw [hJ,show n-i=(n-(i+1))+1 by omega,loopN,e]
theorem aiO(h:n≤i)(hJ:R=loopN f (n-i) i s):R=some (.inr s):=by
 rw [hJ,show n-i=0 by omega,loopN]
end
section
variable {σ β:Type} {f:σ→Option (LR σ β)} {k:Nat} {s s':σ} {x:β} {R:Option (β⊕σ)}
end
section
variable {P:Program} {C:qB} {n:Nat} {s:AS} {Q:Exit→AS→Prop}
def QC(C:qB)(n:Nat)(Q:Exit→AS→Prop):Prop:= ∀e s s',Wk C n s s'→Q e s'→Q e s
def NC(C:qB)(n:Nat)(N:AS→Prop):Prop:= ∀s s',Wk C n s s'→N s'→N s
theorem aoO{c:Code}:NC C n (aQ P C n c Q):=fun _ _ h k=>aQ.weak h k
theorem an4{N:AS→Prop}(hn:NC C n N)(hq:QC C n Q):QC C n (adI N Q):=fun e s s' h k=>by
 cases e with
 |normal=>exact hn s s' h k
 |_=>exact hq _ s s' h k
theorem amG{id:Nat}(hq:QC C n Q):QC C n (uP id Q):=fun e s s' h k=>by
 cases e with
 |exit i=>
  simp only [uP] at k ⊢
  split
  ·rename_i hi;rw [if_pos hi] at k;exact hq _ s s' h k
  ·rename_i hi;rw [if_neg hi] at k;exact hq _ s s' h k
 |_=>exact hq _ s s' h k
theorem an3{fn:Func}{R:PV→cY→Prop}:QC C n (xY P C n fn R):=fun e s s' h k=>⟨k.1,fun m a w hr=>by
 obtain⟨m',h'⟩:=h m a w hr
 exact k.2 m' a w h'⟩
end
end Go.Proofs.YtpioomclpaiomaaGreat

namespace Go.Proofs.YtpioomclpaiomaaGreat
set_option linter.unusedSimpArgs false
set_option linter.unusedVariables false
open Go.RowKit Go.WalkArith Go.IntWalk Go.WideShapes
section
variable {P:Program} {C:qB} {n:Nat} {s:AS} {o:Oper}
theorem aX.makeSlice{T E sz by_ N:Nat}{x y:Operand}(ho:o.op= .makeSlice T x y)(hd:bQ o.dst n=true)(hx:s.ev x=some (.t (.leaf (.int .i64 (N:Int)))))(hy:s.ev y=some (.t (.leaf (.int .i64 (N:Int)))))
 (hT:elemOf? P T=some (E,sz,by_)) (hz:(P.info? E).bind (fun i=>i.zero.map (fun z=>z.cells.size))=some sz) (hsz:0<sz) (hb:by_*N≤281474976710656) (hN:N≤9223372036854775807):
 aX P C n o s ((⟨s.env,s.st.addRow ⟨E,sz,[],true⟩⟩:AS).putO o.dst (.full sz N s.st.rows.length)):=
 aX.run hd (s1:=⟨s.env,s.st.addRow ⟨E,sz,[],true⟩⟩) (fun m a w h=>by
  obtain⟨i,hu,hi,hs,hby⟩:=elemOf?.spec hT
  have h1:=(cJ.leaf_eq (h.eval hx)).1
  have h2:=(cJ.leaf_eq (h.eval hy)).1
  cases hzz:i.zero with
  |none=>simp [hi,hzz] at hz
  |some z=>
   have hb':(i.bytes:Int)*(N:Int)≤281474976710656:=by
    rw [hby]
    have:((by_*N:Nat):Int)≤281474976710656:=by omega
    rwa [Int.natCast_mul] at this
   have hr:=run_make (P:=P) w T E i z hu hi hzz .i64 .i64 N N (by omega) (Int.le_refl _) hb' (by omega)
   simp only [Int.toNat_natCast] at hr
   refine⟨.slice (some ⟨w.heap.size,0,none⟩) N N,⟨m.ρ,xX m.γ s.st.rows.length (some (w.heap.size,N))⟩,_,?_,LY (row:=⟨E,sz,[],true⟩) (c:=N) (cur:=madeCells z.cells (N*i.size)) h.sto,TB (row:=⟨E,sz,[],true⟩) h.sto hsz rfl (by rw [size_madeCells,hs]) (by unfold maxLen;omega),?_⟩
   ·unfold execOp
    simp only [ho,h1,h2,Sem.run_bind,hr,Result.andThen_ok]
    rfl
   ·exact⟨⟨E,sz,[],true⟩,w.heap.size,by show(s.st.rows++ [_])[s.st.rows.length]?=_;simp,rfl,rfl,cB _ _ _,rfl⟩) rfl
theorem aX.indexFull{T E sz by_ N r k:Nat}{x i:Operand}(ho:o.op= .indexAddr T x i)(hd:bQ o.dst n=true)(hx:s.ev x=some (.full sz N r))(hi:s.ev i=some (.t (.leaf (.int .i64 (k:Int)))))(hk:k<N)(hT:elemOf? P T=some (E,sz,by_)):
 aX P C n o s (s.putO o.dst (.rptr r k)):=
 aX.quiet (c3 hd) fun m a w h=>by
  obtain⟨row,g,h1,h2,h3,h4,h5⟩:=h.eval hx
  have h6:=(cJ.leaf_eq (h.eval hi)).1
  refine⟨.pointer (some ⟨g,0+k*sz,none⟩),?_,row,g,N,h1,h3,h4,by rw [h2,Nat.zero_add]⟩
  unfold execOp
  simp only [ho,h5,h6,Sem.run_bind,run_indexAt' hT hk,Result.andThen_ok]
  rfl
theorem aX.storeRptr{T sz N r k:Nat}{x y:Operand}{row:pM}{p:PV}{e:List Tr}{es2:List (List Tr)}(j:Nat)(ho:o.op= .store T x y)(hx:s.ev x=some (.rptr r k))(hf:s.lk j=some (.full sz N r))(hrow:s.st.rows[r]?=some row)(hy:s.ev y=some p)(ht:tP p=true)
 (hle:sG (u5 p) (e.map PV.t)) (hel:e.length=sz) (hflat:GR (e.map PV.t)=true) (hT:(P.info? T).map (·.size)=some sz) (hk:k=row.es.length) (hkN:k<N) (he2:row.es++ [e]=es2):
 aX P C n o s ((⟨s.env,s.st.setRow r { row with es:=es2 }⟩:AS).delO o.dst):=
 aX.runU (s1:=⟨s.env,s.st.setRow r { row with es:=es2 }⟩) (fun m a w h=>by
  subst he2 hk
  obtain⟨vf,-,row0,g,q1,q2,q3,q4,q5⟩:=h.env j _ hf
  rw [hrow] at q1
  cases q1
  subst q2
  obtain⟨row1,g1,n1,p1,p3,p4,p5⟩:=h.eval hx
  rw [hrow] at p1
  cases p1
  rw [q4] at p4
  injection p4 with p4
  injection p4 with e1 e2
  subst e1 e2
  have hr:=sG.rv hle (EP (h.eval hy) (tP.ne ht))
  have hl:(a.eval y).cells.toList.length=row.sz:=by have:=hr.length;rw [List.length_map,hel] at this;exact this.symm
  obtain⟨hpos,hlens,hplace⟩:=h.sto.row r row hrow
  rcases hplace with⟨z1,-⟩|⟨g',c',cur,z1,hob,hcs,hfit,hmax,hrep⟩
  ·rw [q4] at z1;cases z1
  rw [q4] at z1
  injection z1 with z1
  injection z1 with e1 e2
  subst e1 e2
  have hfitc:row.es.length*row.sz+row.sz≤cur.size:=by
   rw [hcs]
   have:=Nat.mul_le_mul_right row.sz (Nat.succ_le_of_lt hkN)
   rwa [Nat.succ_mul] at this
  have hrun:=CI (P:=P) (T:=T) (d:=row.es.length*row.sz) (v:=a.eval y) hob (by rw [hT,← hl];simp) (by have hq:(a.eval y).cells.size=row.sz:=(by simpa using hl);omega) (GR.one hflat hr)
  have hsp: ∀q:Nat,q<row.es.length*row.sz→(splice cur (row.es.length*row.sz) (a.eval y).cells.toList)[q]?=cur[q]?:=fun q hq=>by
   unfold Go.Proofs.YtpioomclpaiomaaGreat.splice
   rw [List.getElem?_toArray,List.append_assoc,List.getElem?_append_left (by simp;omega),List.getElem?_take,if_pos hq,Array.getElem?_toList]
  have hG:QE C.av s.st m w r row [e] g N (splice cur (row.es.length*row.sz) (a.eval y).cells.toList) (w.setRow g (splice cur (row.es.length*row.sz) (a.eval y).cells.toList)):=by
   refine⟨hrow,rfl,rfl,rfl,by simp,fun b hb hne=>setRow_other w g b _ hne,setRow_heap w g cur _ _ _ hob,?_,by simp only [List.length_singleton];omega,hmax,fun e' he'=>?_,fun i e' hi j' d hd=>?_,fun i e' hi j' d hd=>?_,.inl ⟨N,cur,q4,hob,fun o ho=>hsp o ho⟩,fun _=>q4⟩
   ·unfold Go.Proofs.YtpioomclpaiomaaGreat.splice
    simp only [List.size_toArray,List.length_append,List.length_take,List.length_drop,Array.length_toList,hl]
    omega
   ·have:e'=e:=by simpa using he'
    rw [this];exact hel
   ·cases hrep with
    |row cf r1 r2 r3 r4=>
     obtain⟨b',off',hbo,hb',r5⟩:=r3 (by rintro e0;rw [e0] at hi;simp at hi)
     injection hbo with hbo
     injection hbo with e1 e2 e3
     subst e1 e2
     have hc:=(r5 i e' hi j' d hd).2
     rw [hob.cell,Nat.zero_add] at hc
     refine⟨cf i j',?_,r4 i e' hi j' d hd⟩
     have hi1:=c4 hi
     have hj1:j'<row.sz:=by rw [← hlens e' (List.mem_of_getElem? hi)];exact c4 hd
     have hlt:i*row.sz+j'<row.es.length*row.sz:=by
      have:(i+1)*row.sz≤row.es.length*row.sz:=Nat.mul_le_mul_right _ hi1
      rw [Nat.succ_mul] at this
      omega
     rw [hsp _ hlt];exact hc
   ·obtain⟨rfl,rfl⟩:i=0∧e'=e:=by
     rcases i with _|i
     ·simp at hi;exact⟨rfl,hi.symm⟩
     ·simp at hi
    obtain⟨v,hv,hrv⟩:=hr.get (j:=j') (p:= .t d) (by rw [List.getElem?_map,hd];rfl)
    refine⟨v,?_,hrv⟩
    have hjl:=c4 hv
    unfold Go.Proofs.YtpioomclpaiomaaGreat.splice
    have htl:(cur.toList.take (row.es.length*row.sz)).length=row.es.length*row.sz:=by simp;omega
    rw [List.getElem?_toArray,Nat.add_zero,List.append_assoc,List.getElem?_append_right (by rw [htl];omega),htl,Nat.add_sub_cancel_left,List.getElem?_append_left hjl,hv]
  have hgm:xX m.γ r (some (g,N))=m.γ:=by
   funext q
   by_cases hqr:q=r
   ·subst hqr;rw [cB,q4]
   ·rw [dJ hqr]
  refine⟨_,_,?_,hG.ev h.sto,hG.sto h.sto⟩
  unfold execOp
  simp only [ho,p5,Instr.storeAt,Instr.sureAddr,Sem.run_bind,Sem.run_pure,Result.andThen_ok,hrun]) rfl
theorem Wk.full{i E sz N r:Nat}{es:List (List Tr)}{b:Bool}(hx:s.lk i=some (.full sz N r))(hrow:s.st.rows[r]?=some ⟨E,sz,es,b⟩)(hl:es.length=N):Wk C n s (s.put i (.t (.row sz es))):=fun m a w h=>by
 refine⟨m,h.dfr,h.tsz,h.sto,fun j q hq=>?_,h.ev⟩
 rw [AS.lk_put] at hq
 split at hq
 ·rename_i e
  subst e
  cases hq
  obtain⟨v,hv,row,g,q1,q2,q3,q4,q5⟩:=h.env j _ hx
  refine⟨v,hv,?_⟩
  rw [hrow] at q1
  cases q1
  obtain⟨-,-,hplace⟩:=h.sto.row r _ hrow
  rcases hplace with⟨z1,-⟩|⟨g',c',cur,z1,hob,hcs,hfit,hmax,hrep⟩
  ·rw [q4] at z1;cases z1
  rw [q4] at z1
  injection z1 with z1
  injection z1 with e1 e2
  subst e1 e2
  subst q5
  show cJ _ _ (.row sz es) _
  have:cJ (j9 C.av s.st m) w (.row sz es) (.slice (some ⟨g,0,none⟩) es.length N):=hrep
  rw [hl] at this
  exact this
 ·exact h.env j q hq
end
end Go.Proofs.YtpioomclpaiomaaGreat

namespace Go.Proofs.YtpioomclpaiomaaGreat
set_option linter.unusedSimpArgs false
set_option linter.unusedVariables false
open Go.RowKit Go.WalkArith Go.IntWalk Go.WideShapes
def A5(v:ByteArray)(k:Nat):UInt8:=(v[k]?).getD 0
section
variable {P:Program} {C:qB} {n:Nat} {s:AS} {o:Oper}
theorem apA(b:UInt8):sH (.int .u8 (b.toNat:Int)):=by
 have:=b.toNat_lt
 simp [sH,Lit.wf,IntKind.min,IntKind.max,IntKind.bits,IntKind.signed]
 omega
theorem aX.indexS{T:TypeId}{x i:Operand}{v:ByteArray}{k:Nat}(ho:o.op= .index T x i)(hd:bQ o.dst n=true)(hx:s.ev x=some (.t (.leaf (.string v))))(hi:s.ev i=some (.t (.leaf (.int .i64 (k:Int)))))(hk:k<v.size)(hT:P.underlying T=some .string):
 aX P C n o s (s.putO o.dst (.t (.leaf (.int .u8 ((A5 v k).toNat:Int))))):=
 aX.quiet (c3 hd) fun m a w h=>by
  have h1:=(cJ.leaf_eq (h.eval hx)).1
  have h2:=(cJ.leaf_eq (h.eval hi)).1
  refine⟨.int .u8 ((A5 v k).toNat:Int),?_,cJ.leaf (apA _)⟩
  have h3:v[k]?=some v[k]:=by simp [hk]
  unfold execOp
  simp [ho,h1,h2,Instr.index,asIntOf,run_underlying hT,h3,A5]
theorem aX.indexSI{T:TypeId}{x i:Operand}{v:ByteArray}{y:Int}(ho:o.op= .index T x i)(hd:bQ o.dst n=true)(hx:s.ev x=some (.t (.leaf (.string v))))(hi:s.ev i=some (.t (.leaf (.int .i64 y))))(h0:0≤y)(hk:y.toNat<v.size)(hT:P.underlying T=some .string):
 aX P C n o s (s.putO o.dst (.t (.leaf (.int .u8 ((A5 v y.toNat).toNat:Int))))):=
 aX.indexS (k:=y.toNat) ho hd hx (by rw [hi,Int.toNat_of_nonneg h0]) hk hT
def N4(s:AS):Option Operand→Option Int
 |none=>some 0
 |some x=>match s.ev x with
  |some (.t (.leaf (.int .i64 y)))=>some y
  |_=>none
def zB(s:AS)(len:Nat):Option Operand→Option Int
 |none=>some (len:Int)
 |some x=>match s.ev x with
  |some (.t (.leaf (.int .i64 y)))=>some y
  |_=>none
theorem ad9{m:jE}{a:Act}{w:World}(h:RA C n s m a w){x:Operand}{y:Int}(hx:s.ev x=some (.t (.leaf (.int .i64 y)))):a.eval x= .int .i64 y:=(cJ.leaf_eq (h.eval hx)).1
theorem N4.some'{x:Operand}{y:Int}(h:N4 s (some x)=some y):s.ev x=some (.t (.leaf (.int .i64 y))):=by
 unfold N4 at h
 simp only at h
 split at h
 ·rename_i z hz
  simp only [Option.some.injEq] at h
  rw [hz,h]
 ·cases h
theorem zB.some'{x:Operand}{y:Int}{len:Nat}(h:zB s len (some x)=some y):s.ev x=some (.t (.leaf (.int .i64 y))):=by
 unfold zB at h
 simp only at h
 split at h
 ·rename_i z hz
  simp only [Option.some.injEq] at h
  rw [hz,h]
 ·cases h
theorem RM{m:jE}{a:Act}{w:World}(h:RA C n s m a w){isS:Bool}{len cap:Nat}{lo hi:Option Operand}{l k:Int}(hlen:len≤cap)(h1:N4 s lo=some l)(h2:zB s len hi=some k)(h3:0≤l)(h4:l≤k)(h5:k≤(len:Int)):
 (Instr.sliceBounds isS len cap (lo.map a.eval) (hi.map a.eval) none).run P w= .ok (l.toNat,k.toNat,cap) w:=by
 have hk:0≤k:=by omega
 have hkc:k≤(cap:Int):=by omega
 have hlk:l≤(k.toNat:Int):=by omega
 cases lo with
 |none=>
  simp only [N4,Option.some.injEq] at h1
  subst h1
  cases hi with
  |none=>
   simp only [zB,Option.some.injEq] at h2
   subst h2
   simp [Instr.sliceBounds]
  |some y=>
   have e:=ad9 h (zB.some' h2)
   simp [Instr.sliceBounds,Instr.sliceBound,e,asIntOf,hk,hkc]
 |some x=>
  have e:=ad9 h (N4.some' h1)
  cases hi with
  |none=>
   simp only [zB,Option.some.injEq] at h2
   subst h2
   simp [Instr.sliceBounds,Instr.sliceBound,e,asIntOf,h3,h4]
  |some y=>
   have e2:=ad9 h (zB.some' h2)
   have hm:max k 0=k:=Int.max_eq_left hk
   simp [Instr.sliceBounds,Instr.sliceBound,e,e2,asIntOf,hk,hkc,h3,hlk,hm,h4]
   try omega
theorem aX.sliceS{T:TypeId}{x:Operand}{lo hi:Option Operand}{v:ByteArray}{l k:Int}(ho:o.op= .slice T x lo hi none)(hd:bQ o.dst n=true)(hx:s.ev x=some (.t (.leaf (.string v))))(h1:N4 s lo=some l)(h2:zB s v.size hi=some k)(h3:0≤l∧l≤k∧k≤(v.size:Int))(hT:P.underlying T=some .string):
 aX P C n o s (s.putO o.dst (.t (.leaf (.string (v.extract l.toNat k.toNat))))):=
 aX.quiet (c3 hd) fun m a w h=>by
  obtain⟨e,h6⟩:=cJ.leaf_eq (h.eval hx)
  have h6:v.size≤maxLen:=h6
  refine⟨.string (v.extract l.toNat k.toNat),?_,cJ.leaf ?_⟩
  ·have hb:=RM (P:=P) h (isS:=false) (Nat.le_refl v.size) h1 h2 h3.1 h3.2.1 h3.2.2
   unfold execOp
   simp [ho,e,Instr.sliceAt,Instr.slice,run_underlying hT,hb]
  ·show(v.extract l.toNat k.toNat).size≤maxLen
   rw [ByteArray.size_extract]
   omega
theorem cJ.part{ok:Nat→Nat→Prop}{w:World}{sz:Nat}{es:List (List Tr)}{a:Option Addr}{cap l k:Nat}(h:cJ ok w (.row sz es) (.slice a es.length cap))(h1:l≤k)(h2:k≤es.length):cJ ok w (.row sz ((es.take k).drop l)) (.slice (if cap=l then a else a.map (·.add (l*sz))) (k-l) (cap-l)):=by
 cases h with
 |row c q1 q2 q3 q4=>
  have hlen:((es.take k).drop l).length=k-l:=by simp;omega
  have hget: ∀(i:Nat) e,((es.take k).drop l)[i]?=some e→es[l+i]?=some e:=fun i e he=>by
   rw [List.getElem?_drop,List.getElem?_take] at he
   split at he
   ·exact he
   ·cases he
  have:=cJ.row (ok:=ok) (w:=w) (sz:=sz) (es:=(es.take k).drop l) (a:=if cap=l then a else a.map (·.add (l*sz))) (cap:=cap-l) (fun i j=>c (l+i) j) (by rw [hlen];omega) (by omega) (fun hne=>?_) (fun i e he j d hd=>q4 _ e (hget i e he) j d hd)
  ·rwa [hlen] at this
  ·have hkl:l<k:=by
    rcases Nat.lt_or_ge l k with h|h
    ·exact h
    ·exact absurd (List.length_eq_zero_iff.1 (by rw [hlen];omega)) hne
   obtain⟨b,off,rfl,hb,q5⟩:=q3 (by rintro rfl;simp at h2;omega)
   refine⟨b,off+l*sz,?_,hb,fun i e he j d hd=>?_⟩
   ·rw [if_neg (by omega)]
    have hadd:(⟨b,off,none⟩:Addr).add (l*sz)=⟨b,off+l*sz,none⟩:=by unfold Addr.add;split<;>simp_all
    simp [hadd]
   ·have:=q5 (l+i) e (hget i e he) j d hd
    rw [show off+l*sz+i*sz+j=off+(l+i)*sz+j by rw [Nat.add_mul];omega]
    exact this
theorem aX.sliceR{T E sz by_:Nat}{x:Operand}{lo hi:Option Operand}{p:PV}{es:List (List Tr)}{l k:Int}(ho:o.op= .slice T x lo hi none)(hd:bQ o.dst n=true)(hx:s.ev x=some p)(hp:mL p=some (sz,es))(h1:N4 s lo=some l)(h2:zB s es.length hi=some k)(h3:0≤l∧l≤k∧k≤(es.length:Int))(hT:elemOf? P T=some (E,sz,by_)):
 aX P C n o s (s.putO o.dst (.t (.row sz ((es.take k.toNat).drop l.toNat)))):=
 aX.quiet (c3 hd) fun m a w h=>by
  have hr:=uT hp (h.eval hx)
  obtain⟨i,hu,hi',hs,-⟩:=elemOf?.spec hT
  obtain⟨ad,cap,hv,hlc,hcm⟩:=hr.shape
  rw [hv] at hr
  refine⟨_,?_,hr.part (l:=l.toNat) (k:=k.toNat) (by omega) (by omega)⟩
  have hb:=RM (P:=P) h (isS:=true) hlc h1 h2 h3.1 h3.2.1 h3.2.2
  unfold execOp
  simp [ho,hv,Instr.sliceAt,Instr.slice,run_underlying hu,hb,Go.sizeOf,typeInfo,hi',hs]
end
end Go.Proofs.YtpioomclpaiomaaGreat

namespace Go.Proofs.YtpioomclpaiomaaGreat
open Go.RowKit Go.Proofs
end Go.Proofs.YtpioomclpaiomaaGreat

namespace Go.Proofs.YtpioomclpaiomaaGreat
set_option linter.unusedSimpArgs false
set_option linter.unusedVariables false
open Go.RowKit Go.WalkArith Go.IntWalk Go.WideShapes
instance:Inhabited ByteArray:=⟨⟨#[]⟩⟩
def aW{α:Type}[Inhabited α](l:List α)(k:Nat):α:=(l[k]?).getD default
theorem jF{α:Type}[Inhabited α]{l:List α}{k:Nat}(h:k<l.length):aW l k=l[k]:=by simp [aW,h]
theorem ajT{l:List ByteArray}{k:Nat}(h:k<l.length):(a4 l)[k]?=some [.leaf (.string (aW l k))]:=by rw [jF h];exact V0 h
theorem aiL{l:List Int}{k:Nat}(h:k<l.length):(qF l)[k]?=some [.leaf (.int .i64 (aW l k))]:=by rw [jF h];exact aiM h
theorem ad5{l:List UInt8}{k:Nat}(h:k<l.length):(cK l)[k]?=some [.leaf (.int .u8 ((aW l k).toNat:Int))]:=by rw [jF h];exact w6 h
theorem yL{a b c:Nat}(h:a+b≤68719476736)(hc:c≤2048):(a+b)*c≤140737488355328:=by
 have:=Nat.mul_le_mul h hc
 omega
theorem adG(l:List ByteArray)(a b:Nat):((a4 l).take b).drop a=a4 ((l.take b).drop a):=by simp [a4,List.map_drop,List.map_take]
theorem aX.congrP{P:Program}{C:qB}{n:Nat}{s:AS}{o:Oper}{sz:Nat}{es es':List (List Tr)}(h:aX P C n o s (s.putO o.dst (.t (.row sz es))))(e:es=es'):aX P C n o s (s.putO o.dst (.t (.row sz es'))):=e ▸ h
theorem tO{a b:Nat}(h:decide ((a:Int)<(b:Int))=true):a<b:=a8 h
theorem tN{a b:Nat}(h:decide ((a:Int)<(b:Int))=false):b≤a:=aiR h
theorem aeN{a:Nat}{b:Int}(h:decide ((a:Int)<b)=true):a<b.toNat:=by have:=of_decide_eq_true h;omega
theorem aeM{a:Nat}{b:Int}(h:decide ((a:Int)<b)=false):b.toNat≤a:=by have:=of_decide_eq_false h;omega
def pO(s:cY)(fb0 fr0:List Nat)(pre:cY):List Nat→List (Option c5)→Prop
 | [],[]=>True
 |k::fb,some x::bs=>(∃y,s.boxes[k]?=some (some y)∧y.ty=x.ty∧sG y.cells (BN fb0 fr0 x.cells)∧l9 pre x.cells=true)∧pO s fb0 fr0 pre fb bs
 |_,_=>False
def sI(s:cY):List Nat→List pM→Prop
 | [],[]=>True
 |r::fr,row::rs=>s.rows[r]?=some row∧sI s fr rs
 |_,_=>False
theorem pO.len{s pre:cY}{fb0 fr0:List Nat}: ∀ {fb:List Nat} {bs:List (Option c5)},pO s fb0 fr0 pre fb bs→fb.length=bs.length
 | [],[],_=>rfl
 |_::_,some _::_,h=>by simp [pO.len h.2]
 |_::_,none::_,h=>h.elim
 | [],_::_,h=>h.elim
 |_::_,[],h=>h.elim
theorem pO.get{s pre:cY}{fb0 fr0:List Nat}: ∀ {fb:List Nat} {bs:List (Option c5)},pO s fb0 fr0 pre fb bs→ ∀k,k<bs.length→ ∃x,bs[k]?=some (some x)∧ ∃y,s.boxes[fb.getD k 0]?=some (some y)∧y.ty=x.ty∧sG y.cells (BN fb0 fr0 x.cells)∧l9 pre x.cells=true
 | [],[],_,k,h=>by simp at h
 |_::_,some x::_,h,0,_=>⟨x,rfl,h.1⟩
 |_::_,some _::_,h,k+1,hk=>by simpa using pO.get h.2 k (by simpa using hk)
 |_::_,none::_,h,_,_=>h.elim
 | [],_::_,h,_,_=>h.elim
 |_::_,[],h,_,_=>h.elim
theorem sI.len{s:cY}: ∀ {fr:List Nat} {rs:List pM},sI s fr rs→fr.length=rs.length
 | [],[],_=>rfl
 |_::_,_::_,h=>by simp [sI.len h.2]
 | [],_::_,h=>h.elim
 |_::_,[],h=>h.elim
theorem sI.get{s:cY}: ∀ {fr:List Nat} {rs:List pM},sI s fr rs→ ∀k row,rs[k]?=some row→s.rows[fr.getD k 0]?=some row
 | [],[],_,k,_,h=>by simp at h
 |_::_,_::_,h,0,row,hr=>by simp at hr;subst hr;exact h.1
 |_::_,_::_,h,k+1,row,hr=>by simpa using sI.get h.2 k row (by simpa using hr)
 | [],_::_,h,_,_,_=>h.elim
 |_::_,[],h,_,_,_=>h.elim
theorem mD.of{s pre:cY}{fb fr:List Nat}(hb:pO s fb fr pre fb pre.boxes)(hr:sI s fr pre.rows)(n1:fb.Nodup)(n2:fr.Nodup):mD s pre fb fr where
 fbl:=hb.len
 frl:=hr.len
 fbn:=n1
 frn:=n2
 all:=fun k hk=>by
  obtain⟨x,hx,-⟩:=hb.get k hk
  exact⟨x,hx⟩
 box:=fun k x hx=>by
  obtain⟨x',hx',h⟩:=hb.get k (List.getElem?_eq_some_iff.1 hx).1
  rw [hx] at hx'
  cases hx'
  exact h
 row:=hr.get
section
variable {P:Program} {C:qB} {n:Nat} {s:AS} {o:Oper}
theorem aX.callVPE{y:Operand}{f:FuncId}{fn:Func}{xs:List Operand}{ts:Array TypeId}{ps cs qs:List PV}{res:PV}{pre st' S:cY}(fb fr:List Nat)(ho:o.op= .call { callee:= .value y,args:=⟨xs⟩,argTypes:=ts })(hd:bQ o.dst n=true)(hy:s.ev y=some (.fn f cs))(hf:P.funcs[f]?=some fn)(hnm:(fn.name== "runtime.NumGoroutine")=false)(hb:fn.body.isNone=false)
 (hx:xs.map s.ev=ps.map some) (hS:s.st=S) (hp:mD S pre fb fr) (hle:sG (ps++cs) (BN fb fr qs)) (hok:l9 pre qs=true) (hbl:st'.boxes.length=pre.boxes.length) (hrl:st'.rows.length=pre.rows.length) (hc:cP P f qs pre (fun r t=>r=res∧t=st')):
 aX P C n o s ((⟨s.env,S.over st' fb fr⟩:AS).putO o.dst (PV.ren fb fr res)):=by
 subst hS
 exact aX.enterP fb fr hd (fun m a w h=>by
  obtain⟨vs,h1,h2⟩:=h.eval hy
  refine⟨xs.map a.eval++vs,?_,gD.append (evL h hx) h2⟩
  have hcf:=jQ (P:=P) hf hnm hb
  unfold execOp
  simp only [ho]
  simp [resolve,invoke,Deferred.ofValue,h1,hcf]) hp hle hok hbl hrl hc
theorem AL.skipP{ops:Array Oper}{rest:List Oper}{Q:Exit→AS→Prop}{j d:Nat}{b c e:Bool}(hg:o.guard=some (j,c))(hj:(ops[j]?).bind (·.dst)=some d)(hb:s.lk d=some (.t (.leaf (.bool b))))(hv:b=e)(hne:(e==c)=false)(hd:bQ o.dst n=true)(h:AL P C n ops rest Q (s.putO o.dst (.tup []))):AL P C n ops (o::rest) Q s:=fun m a w hr=>
 wpList_step fun K hK=>by
  subst hv
  rw [if_neg (by simpa [Region.wanted,hg,hr.yielded hj hb] using hne)]
  exact hK _ _ (h m _ w (hr.put (c3 hd) ⟨[],rfl,trivial⟩))
theorem AL.skipU{ops:Array Oper}{rest:List Oper}{Q:Exit→AS→Prop}{j d:Nat}{c:Bool}(hg:o.guard=some (j,c))(hj:(ops[j]?).bind (·.dst)=some d)(hb:s.lk d=some (.tup []))(hd:bQ o.dst n=true)(h:AL P C n ops rest Q (s.putO o.dst (.tup []))):AL P C n ops (o::rest) Q s:=fun m a w hr=>
 wpList_step fun K hK=>by
  have hy:yielded ops a.tmps j=none:=by
   obtain⟨v,hv,vs,rfl,hl⟩:=hr.env d _ hb
   simp [Go.yielded,hj,hv]
  rw [if_neg (by simp [Region.wanted,hg,hy])]
  exact hK _ _ (h m _ w (hr.put (c3 hd) ⟨[],rfl,trivial⟩))
theorem aX.buildSliceE{T E sz by_ len:Nat}{parts:Array (Nat×Operand)}{ps:List (Nat×List PV)}{zs cs:List PV}{es es':List (List Tr)}(ho:o.op= .buildSlice T len parts)(hd:bQ o.dst n=true)(hT:elemOf? P T=some (E,sz,by_))(hz:cS P E=some zs)(hp:n7 s parts.toList=some ps)
 (hc:s9 (fun i=>some (i*sz,sz)) (List.replicate len zs).flatten ps=some cs) (hle:sG cs (es.flatten.map PV.t)) (hel:es.length=len) (hes: ∀e∈es,e.length=sz) (hsz:0<sz) (hzl:zs.length=sz) (hsm:len*sz≤16777216) (he:es=es'):
 aX P C n o s (s.putO o.dst (.t (.row sz es'))):=he ▸ aX.buildSliceQ ho hd hT hz hp hc hle hel hes hsz hzl hsm
theorem aX.buildSliceA{T E sz by_ len:Nat}{parts:Array (Nat×Operand)}{ps:List (Nat×List PV)}{zs cs:List PV}{es es':List (List Tr)}(ho:o.op= .buildSlice T len parts)(hd:bQ o.dst n=true)(hT:elemOf? P T=some (E,sz,by_))(hz:cS P E=some zs)(hp:n7 s parts.toList=some ps)
 (hc:s9 (fun i=>some (i*sz,sz)) (List.replicate len zs).flatten ps=some cs) (hle:sG cs (es.flatten.map PV.t)) (hel:es.length=len) (hes: ∀e∈es,e.length=sz) (hsz:0<sz) (hzl:zs.length=sz) (hsm:len*sz≤16777216) (he:es=es'):
 aX P C n o s ((⟨s.env,s.st.addRow ⟨E,sz,es',false⟩⟩:AS).putO o.dst (.acc sz es' s.st.rows.length)):=he ▸ aX.buildSlice ho hd hT hz hp hc hle hel hes hsz hzl hsm
end
theorem eJ{C:qB}{bs:List (Option c5)}{rs:List pM}{S:cY}(h:C.st=⟨bs,rs⟩)(hb: ∀k,k<bs.length→ ∃y,S.boxes[k]?=some (some y))(hl:rs.length≤S.rows.length):kU C.st S:=by
 rw [h]
 exact⟨fun k x hx=>hb k (List.getElem?_eq_some_iff.1 hx).1,fun k row hk=>⟨S.rows[k]'(Nat.lt_of_lt_of_le (List.getElem?_eq_some_iff.1 hk).1 hl),List.getElem?_eq_getElem _⟩⟩
theorem j7{S:cY}{x:c5}{bs:List (Option c5)}(h:S.boxes=some x::bs): ∀k,k<1→ ∃y,S.boxes[k]?=some (some y):=fun k hk=>by
 obtain rfl:k=0:=by omega
 exact⟨x,by rw [h];rfl⟩
theorem anO{S:cY}{x y:c5}{bs:List (Option c5)}(h:S.boxes=some x::some y::bs): ∀k,k<2→ ∃y,S.boxes[k]?=some (some y):=fun k hk=>by
 rcases(by omega:k=0∨k=1) with rfl|rfl
 ·exact⟨x,by rw [h];rfl⟩
 ·exact⟨y,by rw [h];rfl⟩
theorem anP{S:cY}{x y z:c5}{bs:List (Option c5)}(h:S.boxes=some x::some y::some z::bs): ∀k,k<3→ ∃y,S.boxes[k]?=some (some y):=fun k hk=>by
 rcases(by omega:k=0∨k=1∨k=2) with rfl|rfl|rfl
 ·exact⟨x,by rw [h];rfl⟩
 ·exact⟨y,by rw [h];rfl⟩
 ·exact⟨z,by rw [h];rfl⟩
theorem anN{S:cY}: ∀k,k<0→ ∃y,S.boxes[k]?=some (some y):=fun k hk=>absurd hk (Nat.not_lt_zero _)
instance:Inhabited aO:=⟨.mk 0 0⟩
theorem aO.trs_at{l:List aO}{k:Nat}(h:k<l.length):(aO.trs l)[k]?=some (aW l k).cs:=by rw [jF h];exact aO.trs_cs h
instance:Inhabited aB:=⟨.mk ⟨#[]⟩ []⟩
theorem aB.trs_part(l:List aB)(a b:Nat):((aB.trs l).take b).drop a=aB.trs ((l.take b).drop a):=by rw [aB.trs_map,aB.trs_map,List.map_drop,List.map_take]
theorem aB.trs_at{l:List aB}{k:Nat}(h:k<l.length):(aB.trs l)[k]?=some (aW l k).cs:=by rw [jF h];exact aB.trs_cs h
instance:Inhabited aA:=⟨.mk 0 ⟨#[]⟩ []⟩
theorem aA.trs_part(l:List aA)(a b:Nat):((aA.trs l).take b).drop a=aA.trs ((l.take b).drop a):=by rw [aA.trs_map,aA.trs_map,List.map_drop,List.map_take]
theorem aA.trs_at{l:List aA}{k:Nat}(h:k<l.length):(aA.trs l)[k]?=some (aW l k).cs:=by rw [jF h];exact aA.trs_cs h
instance:Inhabited aK:=⟨.mk ⟨#[]⟩ default⟩
theorem aK.trs_at{l:List aK}{k:Nat}(h:k<l.length):(aK.trs l)[k]?=some (aW l k).cs:=by rw [jF h];exact aK.trs_cs h
instance:Inhabited aG:=⟨.mk 0 ⟨#[]⟩ ⟨#[]⟩ 0 default [] []⟩
theorem aG.trs_at{l:List aG}{k:Nat}(h:k<l.length):(aG.trs l)[k]?=some (aW l k).cs:=by rw [jF h];exact aG.trs_cs h
instance:Inhabited bK:=⟨.mk ⟨#[]⟩ [] default⟩
theorem bK.trs_at{l:List bK}{k:Nat}(h:k<l.length):(bK.trs l)[k]?=some (aW l k).cs:=by rw [jF h];exact bK.trs_cs h
instance:Inhabited aD:=⟨.mk ⟨#[]⟩ [] default false [] default⟩
theorem aD.trs_at{l:List aD}{k:Nat}(h:k<l.length):(aD.trs l)[k]?=some (aW l k).cs:=by rw [jF h];exact aD.trs_cs h
instance:Inhabited aT:=⟨.mk ⟨#[]⟩ [] false false []⟩
theorem aT.trs_at{l:List aT}{k:Nat}(h:k<l.length):(aT.trs l)[k]?=some (aW l k).cs:=by rw [jF h];exact aT.trs_cs h
instance:Inhabited aC:=⟨.mk ⟨#[]⟩ []⟩
theorem aC.trs_part(l:List aC)(a b:Nat):((aC.trs l).take b).drop a=aC.trs ((l.take b).drop a):=by rw [aC.trs_map,aC.trs_map,List.map_drop,List.map_take]
theorem aC.trs_at{l:List aC}{k:Nat}(h:k<l.length):(aC.trs l)[k]?=some (aW l k).cs:=by rw [jF h];exact aC.trs_cs h
instance:Inhabited aN:=⟨.mk ⟨#[]⟩ [] []⟩
theorem aN.trs_at{l:List aN}{k:Nat}(h:k<l.length):(aN.trs l)[k]?=some (aW l k).cs:=by rw [jF h];exact aN.trs_cs h
instance:Inhabited aF:=⟨.mk ⟨#[]⟩ default⟩
theorem aF.trs_at{l:List aF}{k:Nat}(h:k<l.length):(aF.trs l)[k]?=some (aW l k).cs:=by rw [jF h];exact aF.trs_cs h
instance:Inhabited aP:=⟨.mk ⟨#[]⟩ [] default⟩
theorem aP.trs_at{l:List aP}{k:Nat}(h:k<l.length):(aP.trs l)[k]?=some (aW l k).cs:=by rw [jF h];exact aP.trs_cs h
instance:Inhabited aH:=⟨.mk ⟨#[]⟩ [] default [] false false default []⟩
theorem aH.trs_at{l:List aH}{k:Nat}(h:k<l.length):(aH.trs l)[k]?=some (aW l k).cs:=by rw [jF h];exact aH.trs_cs h
instance:Inhabited aU:=⟨.mk ⟨#[]⟩ default⟩
theorem aU.trs_at{l:List aU}{k:Nat}(h:k<l.length):(aU.trs l)[k]?=some (aW l k).cs:=by rw [jF h];exact aU.trs_cs h
instance:Inhabited aM:=⟨.mk ⟨#[]⟩ [] [] [] default default⟩
theorem aM.trs_at{l:List aM}{k:Nat}(h:k<l.length):(aM.trs l)[k]?=some (aW l k).cs:=by rw [jF h];exact aM.trs_cs h
instance:Inhabited aL:=⟨.mk ⟨#[]⟩ [] [] [] [] []⟩
theorem aL.trs_at{l:List aL}{k:Nat}(h:k<l.length):(aL.trs l)[k]?=some (aW l k).cs:=by rw [jF h];exact aL.trs_cs h
instance:Inhabited aI:=⟨.mk []⟩
theorem aI.trs_at{l:List aI}{k:Nat}(h:k<l.length):(aI.trs l)[k]?=some (aW l k).cs:=by rw [jF h];exact aI.trs_cs h
instance:Inhabited eH:=⟨.mk 0 0 default []⟩
instance:Inhabited aJ:=⟨.mk default 0 []⟩
theorem aJ.trs_at{l:List aJ}{k:Nat}(h:k<l.length):(aJ.trs l)[k]?=some (aW l k).cs:=by rw [jF h];exact aJ.trs_cs h
instance:Inhabited cM:=⟨.mk ⟨#[]⟩ 0 0 0 false⟩
instance:Inhabited n5:=⟨.mk [] [] []⟩
end Go.Proofs.YtpioomclpaiomaaGreat

namespace Go.Proofs.YtpioomclpaiomaaGreat
set_option linter.unusedSimpArgs false
set_option linter.unusedVariables false
def bY(P:Nat→Prop):Prop:= ∃N,∀n,N≤n→P n
theorem bY.all{P:Nat→Prop}(h: ∀n,P n):bY P:=⟨0,fun n _=>h n⟩
theorem bY.and{P Q:Nat→Prop}(h:bY P)(k:bY Q):bY fun n=>P n∧Q n:=by
 obtain⟨a,h⟩:=h
 obtain⟨b,k⟩:=k
 exact⟨max a b,fun n hn=>⟨h n (by omega),k n (by omega)⟩⟩
theorem bY.imp{P Q:Nat→Prop}(h:bY P)(k: ∀n,P n→Q n):bY Q:=by
 obtain⟨a,h⟩:=h
 exact⟨a,fun n hn=>k n (h n hn)⟩
theorem bY.succ{P:Nat→Prop}(h:bY fun n=>P (n+1)):bY P:=by
 obtain⟨a,h⟩:=h
 exact⟨a+1,fun n hn=>by
  obtain⟨m,rfl⟩: ∃m,n=m+1:=⟨n-1,by omega⟩
  exact h m (by omega)⟩
theorem bY.list{α:Type}{P:α→Nat→Prop}: ∀ {l:List α},(∀x∈l,bY (P x))→bY fun n=> ∀x∈l,P x n
 | [],_=> .all fun n x hx=>by simp at hx
 |a::l,h=>((h a (by simp)).and (bY.list (l:=l) fun x hx=>h x (List.mem_cons_of_mem _ hx))).imp fun n hn x hx=>by
  rcases List.mem_cons.1 hx with rfl|hx
  ·exact hn.1
  ·exact hn.2 x hx
theorem bY.below{P:Nat→Nat→Prop}: ∀ {k:Nat},(∀i,i<k→bY (P i))→bY fun n=> ∀i,i<k→P i n
 |0,_=> .all fun n i hi=>by omega
 |k+1,h=>((h k (by omega)).and (bY.below (k:=k) fun i hi=>h i (Nat.lt_succ_of_lt hi))).imp fun n hn i hi=>by
  rcases Nat.lt_or_ge i k with h1|h1
  ·exact hn.2 i h1
  ·obtain rfl:i=k:=by omega
   exact hn.1
theorem bY.get{P:Nat→Prop}(h:bY P): ∃n,P n:=by
 obtain⟨a,h⟩:=h
 exact⟨a,h a (Nat.le_refl _)⟩
section
variable {α σ β:Type} [Inhabited α] {f:Nat→σ→Option (LR σ β)}
theorem iX{l:List α}{i:Nat}(h:i<l.length):aW l i∈l:=by rw [jF h];exact List.getElem_mem h
theorem zS{l:List α}{i:Nat}(h:i<l.length):l.drop i=aW l i::l.drop (i+1):=by rw [jF h];exact List.drop_eq_getElem_cons h
theorem adH{l:List α}{i:Nat}(h:i<l.length):l.take (i+1)=l.take i++ [aW l i]:=by rw [jF h];exact List.take_succ_eq_append_getElem h
theorem xH{n i:Nat}{s s':σ}(h:i<n)(e:f i s=some (.next s')):loopN f (n-i) i s=loopN f (n-(i+1)) (i+1) s':=xG h rfl e
theorem EZ{n i:Nat}{s:σ}{x:β}(h:i<n)(e:f i s=some (.ret x)):loopN f (n-i) i s=some (.inl x):=aiQ h rfl e
theorem aiP{n i:Nat}{s s':σ}(h:i<n)(e:f i s=some (.brk s')):loopN f (n-i) i s=some (.inr s'):=aiN h rfl e
theorem AM{n i:Nat}{s:σ}(h:n≤i):loopN f (n-i) i s=some (.inr s):=aiO h rfl
theorem RD{l:List α}{g:σ→α→σ}(P:Nat→σ→Prop)(hs: ∀i s,i<l.length→P i s→f i s=some (.next (g s (aW l i)))∧P (i+1) (g s (aW l i))):
 ∀(k i:Nat) (s:σ),l.length-i=k→P i s→loopN f (l.length-i) i s=some (.inr ((l.drop i).foldl g s))
 |0,i,s,hk,_=>by
  rw [AM (by omega),List.drop_of_length_le (by omega),List.foldl_nil]
 |k+1,i,s,hk,hp=>by
  have hi:i<l.length:=by omega
  obtain⟨h1,h2⟩:=hs i s hi hp
  rw [xH hi h1,zS hi,List.foldl_cons]
  exact RD P hs k (i+1) _ (by omega) h2
theorem yK{l:List α}{g:σ→α→σ}(P:Nat→σ→Prop)(hs: ∀i s,i<l.length→P i s→f i s=some (.next (g s (aW l i)))∧P (i+1) (g s (aW l i))){s:σ}(h0:P 0 s):loopN f (l.length-0) 0 s=some (.inr (l.foldl g s)):=by
 have:=RD P hs l.length 0 s (by omega) h0
 rwa [List.drop_zero] at this
theorem RC{l:List α}{p:α→Bool}{r:α→β}{s:σ}(hs: ∀i,i<l.length→f i s=if p (aW l i) then some (.ret (r (aW l i))) else some (.next s)):
 ∀(k i:Nat),l.length-i=k→loopN f (l.length-i) i s=some (match(l.drop i).find? p with|some x=> .inl (r x)|none=> .inr s)
 |0,i,hk=>by
  rw [AM (by omega),List.drop_of_length_le (by omega),List.find?_nil]
 |k+1,i,hk=>by
  have hi:i<l.length:=by omega
  have h1:=hs i hi
  rw [zS hi,List.find?_cons]
  cases hp:p (aW l i)
  ·rw [hp] at h1
   rw [xH hi (by simpa using h1)]
   exact RC hs k (i+1) (by omega)
  ·rw [hp] at h1
   rw [EZ hi (by simpa using h1)]
theorem yJ{l:List α}{p:α→Bool}{r:α→β}{s:σ}(hs: ∀i,i<l.length→f i s=if p (aW l i) then some (.ret (r (aW l i))) else some (.next s)):loopN f (l.length-0) 0 s=some (match l.find? p with|some x=> .inl (r x)|none=> .inr s):=by
 have:=RC hs l.length 0 (by omega)
 rwa [List.drop_zero] at this
theorem N2{l:List α}{p:α→Bool}{r:β}{s:σ}(hs: ∀i,i<l.length→f i s=if p (aW l i) then some (.next s) else some (.ret r)):loopN f (l.length-0) 0 s=some (if l.all p then .inr s else .inl r):=by
 rw [yJ (p:=fun x=> !p x) (r:=fun _=>r) (fun i hi=>by rw [hs i hi];cases p (aW l i)<;>rfl)]
 cases h:l.find? (fun x=> !p x) with
 |none=>
  rw [List.find?_eq_none] at h
  rw [if_pos (by rw [List.all_eq_true];intro x hx;have:=h x hx;simpa using this)]
 |some x=>
  have h1:=List.find?_some h
  have h2:=List.mem_of_find?_eq_some h
  rw [if_neg (by rw [List.all_eq_true];intro hc;have:=hc x h2;simp [this] at h1)]
theorem N3{f:Nat→Unit→Option (LR Unit Int)}{l:List α}{p:α→Bool}(hs: ∀i,i<l.length→f i ()=if p (aW l i) then some (.ret ((i:Nat):Int)) else some (.next ())):
 loopN f (l.length-0) 0 ()=some (match l.findIdx? p with|some i=> .inl ((i:Nat):Int)|none=> .inr ()):=by
 have key: ∀(k i:Nat),l.length-i=k→loopN f (l.length-i) i ()=some (match(l.drop i).findIdx? p with|some j=> .inl (((i+j:Nat)):Int)|none=> .inr ()):=by
  intro k
  induction k with
  |zero=>
   intro i hk
   rw [AM (by omega),List.drop_of_length_le (by omega)]
   rfl
  |succ k ih=>
   intro i hk
   have hi:i<l.length:=by omega
   have h1:=hs i hi
   rw [zS hi,List.findIdx?_cons]
   cases hp:p (aW l i)
   ·rw [hp] at h1
    rw [xH hi (by simpa using h1),ih (i+1) (by omega)]
    cases(l.drop (i+1)).findIdx? p with
    |none=>simp
    |some j=>simp;omega
   ·rw [hp] at h1
    rw [EZ hi (by simpa using h1)]
    simp
 have:=key l.length 0 (by omega)
 simpa using this
omit [Inhabited α] in
theorem aiJ{l:List α}{p:α→Bool}:decide ((match l.findIdx? p with|some i=>((i:Nat):Int)|none=> -1)≥0)=l.any p:=by
 cases h:l.findIdx? p with
 |none=>
  rw [List.findIdx?_eq_none_iff] at h
  have:l.any p=false:=by rw [List.any_eq_false];intro x hx;simp [h x hx]
  rw [this];rfl
 |some i=>
  obtain⟨h1,h2,-⟩:=List.findIdx?_eq_some_iff_getElem.1 h
  have:l.any p=true:=List.any_eq_true.2 ⟨_,List.getElem_mem h1,h2⟩
  rw [this]
  simp
end
end Go.Proofs.YtpioomclpaiomaaGreat

namespace Go.Proofs.YtpioomclpaiomaaGreat
set_option linter.unusedSimpArgs false
set_option linter.unusedVariables false
open Go.RowKit Go.WalkArith Go.IntWalk Go.WideShapes
section
variable {P:Program} {C:qB} {n:Nat} {s:AS} {o:Oper}
theorem aX.buildSliceB{T E sz by_ len:Nat}{parts:Array (Nat×Operand)}{ps:List (Nat×List PV)}{zs cs:List PV}(ho:o.op= .buildSlice T len parts)(hd:bQ o.dst n=true)(hT:elemOf? P T=some (E,sz,by_))(hz:cS P E=some zs)(hp:n7 s parts.toList=some ps)
 (hc:s9 (fun i=>some (i*sz,sz)) (List.replicate len zs).flatten ps=some cs) (hcl:cs.length=len*sz) (hsz:0<sz) (hzl:zs.length=sz) (hsm:len*sz≤16777216):
 aX P C n o s ((⟨s.env,s.st.addBox ⟨E,cs⟩⟩:AS).putO o.dst (.bsl s.st.boxes.length len)):=
 aX.run hd (s1:=⟨s.env,s.st.addBox ⟨E,cs⟩⟩) (fun m a w h=>by
  obtain⟨us,h1,h2,h3⟩:=aX.buildSlice_run ho hT hz hp hc hcl hsz hzl hsm h
  exact⟨_,_,_,h1,EQ (x:=⟨E,cs⟩),JI (x:=⟨E,cs⟩) h.sto h2,⟨⟨E,cs⟩,by simp [cY.addBox]⟩,by simp [cB]⟩) rfl
theorem aX.buildSliceLE{T E sz by_ len:Nat}{parts:Array (Nat×Operand)}{ps:List (Nat×List PV)}{zs cs:List PV}{es es':List (List Tr)}(ho:o.op= .buildSlice T len parts)(hd:bQ o.dst n=true)(hT:elemOf? P T=some (E,sz,by_))(hz:cS P E=some zs)(hp:n7 s parts.toList=some ps)
 (hc:s9 (fun i=>some (i*sz,sz)) (List.replicate len zs).flatten ps=some cs) (hle:sG cs (es.flatten.map PV.t)) (hel:es.length=len) (hes: ∀e∈es,e.length=sz) (hsz:0<sz) (hzl:zs.length=sz) (hsm:len*sz≤16777216) (he:es=es'):
 aX P C n o s (s.putO o.dst (.lit sz es')):=he ▸ aX.buildSliceL ho hd hT hz hp hc hle hel hes hsz hzl hsm
theorem aX.indexB{T E sz by_ k N i:Nat}{x y:Operand}(ho:o.op= .indexAddr T x y)(hd:bQ o.dst n=true)(hx:s.ev x=some (.bsl k N))(hy:s.ev y=some (.t (.leaf (.int .i64 (i:Int)))))(hi:i<N)(hT:elemOf? P T=some (E,sz,by_)):
 aX P C n o s (s.putO o.dst (.ptr k (i*sz))):=
 aX.quiet (c3 hd) fun m a w h=>by
  obtain⟨hb,hv⟩:=h.eval hx
  have h6:=(cJ.leaf_eq (h.eval hy)).1
  refine⟨.pointer (some ⟨m.ρ k,0+i*sz,none⟩),?_,hb,by rw [Nat.zero_add]⟩
  unfold execOp
  simp only [ho,hv,h6,Sem.run_bind,run_indexAt' hT hi,Result.andThen_ok]
  rfl
theorem GP{T E sz by_:Nat}{x y:Operand}{es1 es2:List (List Tr)}{p:PV}(ho:o.op= .call { callee:= .builtin .append,args:= #[x,y],argTypes:= #[T,T] })
 (hx:s.ev x=some (.lit sz es1)) (hy:s.ev y=some p) (hp:mL p=some (sz,es2)) (h1: ∀e∈es1,e.length=sz) (h2: ∀e∈es2,e.length=sz) (hne:es2≠ []) (hsz:0<sz)
 (hT:elemOf? P T=some (E,sz,by_)) (hz:(P.info? E).bind (fun i=>i.zero.map (fun z=>z.cells.size))=some sz) (hb:0<by_) (hlen:(es1.length+es2.length)*by_≤140737488355328) {m:jE} {a:Act} {w:World} (h:RA C n s m a w):
 ∃c cur w1,(execOp a.eval o).run P w= .ok (.value (.slice (some ⟨w.heap.size,0,none⟩) (es1.length+es2.length) c)) w1∧JL w w1∧OB w1 w.heap.size E cur∧es1.length+es2.length≤c∧c≤maxLen∧
  (∀q e,(es1++es2)[q]?=some e→ ∀j d,e[j]?=some d→ ∃v,cur[q*sz+j]?=some v∧cJ (j9 C.av s.st m) w d v):=by
 obtain⟨i,hu,hi,hs,hby⟩:=elemOf?.spec hT
 obtain⟨hr1,ad,hv1⟩:=h.eval hx
 have hr2:=uT hp (h.eval hy)
 obtain⟨b,off,c2,news,hv2,hnl,hnews,hone,hnd⟩:=hr2.news h2 hne hsz
 have hpos2:0<es2.length:=List.length_pos_iff.2 hne
 have hlen:(es1.length+es2.length)*i.bytes≤140737488355328:=by rw [hby];exact hlen
 have h63:es1.length+es2.length≤140737488355328:=Nat.le_trans (Nat.le_mul_of_pos_right _ (by omega)) hlen
 have hrun: ∀v w1,(Builtin.append_ #[T,T] o.type #[a.eval x,a.eval y]).run P w= .ok v w1→(execOp a.eval o).run P w= .ok (.value v) w1:=fun v w1 hr=>by
  unfold execOp
  simp only [ho,resolve,invoke,builtin,Sem.run_bind,Sem.run_pure,Result.andThen_ok,List.map_toArray,List.map_cons,List.map_nil,hr]
 cases hzz:i.zero with
 |none=>simp [hi,hzz] at hz
 |some z=>
  have fin: ∀(olds:List Value) (cur:Array Value) (Z:List Value),cur.toList=olds++news++Z→olds.length=es1.length*sz→(∀i e,es1[i]?=some e→ ∀j d,e[j]?=some d→ ∃v,olds[i*sz+j]?=some v∧cJ (j9 C.av s.st m) w d v)→
   ∀q e,(es1++es2)[q]?=some e→ ∀j d,e[j]?=some d→ ∃v,cur[q*sz+j]?=some v∧cJ (j9 C.av s.st m) w d v:=fun olds cur Z hcur hol hod q e hq j d hj=>by
   rw [← Array.getElem?_toList,hcur,List.append_assoc]
   by_cases hlt:q<es1.length
   ·rw [List.getElem?_append_left hlt] at hq
    obtain⟨v,hv,hr⟩:=hod q e hq j d hj
    exact⟨v,by rw [List.getElem?_append_left (c4 hv)];exact hv,hr⟩
   ·rw [List.getElem?_append_right (by omega)] at hq
    obtain⟨v,hv,hr⟩:=hnd _ e hq j d hj
    refine⟨v,?_,hr⟩
    have e1:q*sz+j=es1.length*sz+((q-es1.length)*sz+j):=by
     rw [← Nat.add_assoc,← Nat.add_mul]
     congr 2
     omega
    rw [e1,← hol,List.getElem?_append_right (by omega),Nat.add_sub_cancel_left,List.getElem?_append_left (c4 hv)]
    exact hv
  have grow: ∀(A:Addr) (olds:List Value),ad=some A→olds.length=es1.length*sz→(∀j v,olds[j]?=some v→w.cell? (A.add j)=some v)→(∀i e,es1[i]?=some e→ ∀j d,e[j]?=some d→ ∃v,olds[i*sz+j]?=some v∧cJ (j9 C.av s.st m) w d v)→
   ∃c cur w1,(execOp a.eval o).run P w= .ok (.value (.slice (some ⟨w.heap.size,0,none⟩) (es1.length+es2.length) c)) w1∧JL w w1∧OB w1 w.heap.size E cur∧es1.length+es2.length≤c∧c≤maxLen∧
    (∀q e,(es1++es2)[q]?=some e→ ∀j d,e[j]?=some d→ ∃v,cur[q*sz+j]?=some v∧cJ (j9 C.av s.st m) w d v):=fun A olds hA hol hold hod=>by
   subst hA
   have happ:=run_append_grow (P:=P) w T o.type E i z hu hi hzz A es1.length es1.length olds (by rw [hs];exact hol) hold ⟨b,off,none⟩ es2.length c2 news (by rw [hnl,hs]) hnews (by omega) (by omega) (growslice_fits (by omega) hlen)
   rw [← hv2,← hv1] at happ
   have hge:=grownCap_ge w (es1.length+es2.length) es1.length E
   exact⟨_,_,_,hrun _ _ happ,.alloc (.drew (.refl _)) _,OB.new w.drew E _,hge,grownCap_le_maxLen w _ _ _ (by unfold maxLen;omega),fin olds _ _ (by simp;rfl) hol hod⟩
  by_cases he:es1= []
  ·cases ad with
   |none=>
    subst he
    have happ:=run_append_nil (P:=P) w T o.type E i z hu hi hzz ⟨b,off,none⟩ es2.length c2 news (by rw [hnl,hs]) hnews (by omega) (by omega) (by simp only [List.length_nil,Nat.zero_add] at hlen;omega)
    have hv1':a.eval x= .slice none 0 0:=hv1
    rw [← hv2,← hv1'] at happ
    have hge:=grownCap_ge w es2.length 0 E
    have hf:=fin [] (news.toArray++Builtin.zeroCells z.cells (grownCap w es2.length 0 E-es2.length)) (Builtin.zeroCells z.cells (grownCap w es2.length 0 E-es2.length)).toList (by simp) (by simp) (fun i e h=>by simp at h)
    have hcm:grownCap w es2.length 0 E≤maxLen:=grownCap_le_maxLen w _ _ _ (by unfold maxLen;omega)
    simp only [List.length_nil,Nat.zero_add,List.nil_append] at hf ⊢
    exact⟨_,_,_,hrun _ _ happ,.alloc (.drew (.refl _)) _,OB.new w.drew E _,by simpa using hge,hcm,hf⟩
   |some A=>
    subst he
    exact grow A [] rfl (by simp) (fun j v h=>by simp at h) (fun i e h=>by simp at h)
  ·obtain⟨b1,off1,c1,olds,hv1',hol,hold,-,hod⟩:=hr1.news h1 he hsz
   have hva:=hv1.symm.trans hv1'
   injection hva with e1 e2 e3
   exact grow _ olds e1 hol hold hod
theorem aX.appendLit{T E sz by_:Nat}{x y:Operand}{es1 es2 es3:List (List Tr)}{p:PV}(ho:o.op= .call { callee:= .builtin .append,args:= #[x,y],argTypes:= #[T,T] })(hd:bQ o.dst n=true)
 (hx:s.ev x=some (.lit sz es1)) (hy:s.ev y=some p) (hp:mL p=some (sz,es2)) (h1: ∀e∈es1,e.length=sz) (h2: ∀e∈es2,e.length=sz) (hne:es2≠ []) (hsz:0<sz)
 (hT:elemOf? P T=some (E,sz,by_)) (hz:(P.info? E).bind (fun i=>i.zero.map (fun z=>z.cells.size))=some sz) (hb:0<by_) (hlen:(es1.length+es2.length)*by_≤140737488355328) (h3:es1++es2=es3):
 aX P C n o s (s.putO o.dst (.t (.row sz es3))):=by
 subst h3
 refine aX.quietX hd fun m a w h=>?_
 obtain⟨c,cur,w1,hr,hX,hob,hc,hm,hget⟩:=GP ho hx hy hp h1 h2 hne hsz hT hz hb hlen h
 refine⟨_,w1,hr,hX,?_⟩
 have:=cJ.row (ok:=j9 C.av s.st m) (w:=w1) (es:=es1++es2) (sz:=sz) (a:=some ⟨w.heap.size,0,none⟩) (cap:=c) (fun q j=>(cur[q*sz+j]?).getD undef) (by rw [List.length_append];exact hc) hm (fun _=>⟨w.heap.size,0,rfl,hob.lt,fun q e hq j d hd=>⟨P3 h.sto (Nat.le_refl _) _,?_⟩⟩) (fun q e hq j d hd=>?_)
 ·rw [List.length_append] at this
  exact this
 ·obtain⟨v,hv,-⟩:=hget q e hq j d hd
  rw [Nat.zero_add,hob.cell,hv]
  rfl
 ·obtain⟨v,hv,hr⟩:=hget q e hq j d hd
  rw [hv]
  exact cJ.ext hr hX
theorem NW{α:Type}{sz:Nat}(hsz:0<sz): ∀ {es:List (List α)} {k:Nat} {d:α},(∀e∈es,e.length=sz)→es.flatten[k]?=some d→ ∃e,es[k/sz]?=some e∧e[k%sz]?=some d
 | [],k,d,_,h=>by simp at h
 |e::es,k,d,hl,h=>by
  have he:=hl e (by simp)
  rw [List.flatten_cons] at h
  by_cases hk:k<sz
  ·rw [List.getElem?_append_left (by omega)] at h
   exact⟨e,by rw [Nat.div_eq_of_lt hk];rfl,by rw [Nat.mod_eq_of_lt hk];exact h⟩
  ·rw [List.getElem?_append_right (by omega),he] at h
   obtain⟨e2,h1,h2⟩:=NW hsz (fun e he=>hl e (by simp [he])) h
   obtain⟨j,rfl⟩: ∃j,k=j+sz:=⟨k-sz,by omega⟩
   rw [Nat.add_sub_cancel] at h1 h2
   exact⟨e2,by rw [Nat.add_div_right _ hsz];exact h1,by rw [Nat.add_mod_right];exact h2⟩
theorem aX.appendLitB{T E sz by_:Nat}{x y:Operand}{es1 es2:List (List Tr)}{cs:List PV}{p:PV}{len:Nat}(ho:o.op= .call { callee:= .builtin .append,args:= #[x,y],argTypes:= #[T,T] })(hd:bQ o.dst n=true)
 (hx:s.ev x=some (.lit sz es1)) (hy:s.ev y=some p) (hp:mL p=some (sz,es2)) (h1: ∀e∈es1,e.length=sz) (h2: ∀e∈es2,e.length=sz) (hne:es2≠ []) (hsz:0<sz)
 (hT:elemOf? P T=some (E,sz,by_)) (hz:(P.info? E).bind (fun i=>i.zero.map (fun z=>z.cells.size))=some sz) (hb:0<by_) (hlen:(es1.length+es2.length)*by_≤140737488355328) (hcs:(es1++es2).flatten.map PV.t=cs) (hl:es1.length+es2.length=len):
 aX P C n o s ((⟨s.env,s.st.addBox ⟨E,cs⟩⟩:AS).putO o.dst (.gsl s.st.boxes.length len)):=by
 subst hcs hl
 refine aX.run hd (s1:=⟨s.env,s.st.addBox ⟨E,(es1++es2).flatten.map PV.t⟩⟩) (fun m a w h=>?_) rfl
 obtain⟨c,cur,w1,hr,hX,hob,hc,hm,hget⟩:=GP ho hx hy hp h1 h2 hne hsz hT hz hb hlen h
 have hes: ∀e∈es1++es2,e.length=sz:=fun e he=>(List.mem_append.1 he).elim (h1 e) (h2 e)
 have hfl: ∀(k:Nat) d,(es1++es2).flatten[k]?=some d→ ∃v,cur[k]?=some v∧cJ (j9 C.av s.st m) w d v:=fun k d hk=>by
  obtain⟨e,q1,q2⟩:=NW hsz hes hk
  obtain⟨v,hv,hrv⟩:=hget _ e q1 _ d q2
  rw [Nat.div_add_mod'] at hv
  exact⟨v,hv,hrv⟩
 have hrvl:gD (j9 C.av s.st m) s.st m w ((es1++es2).flatten.map PV.t) ((List.range' 0 (es1++es2).flatten.length).map fun k=>(cur[k]?).getD undef):=gD.of_fn 0 fun k d hk=>by
  obtain⟨v,hv,hrv⟩:=hfl k d hk
  rw [Nat.zero_add,hv]
  exact hrv
 have hE:Ev s.st m w (s.st.addBox ⟨E,(es1++es2).flatten.map PV.t⟩) ⟨xX m.ρ s.st.boxes.length w.heap.size,m.γ⟩ w1:=LX hX (Nat.le_refl _)
 have hobp:ZM w1 w.heap.size E ((List.range' 0 (es1++es2).flatten.length).map fun k=>(cur[k]?).getD undef):=by
  refine⟨cur.toList.drop (es1++es2).flatten.length,?_⟩
  have e1:((List.range' 0 (es1++es2).flatten.length).map fun k=>(cur[k]?).getD undef)++cur.toList.drop (es1++es2).flatten.length=cur.toList:=by
   have hle:(es1++es2).flatten.length≤cur.toList.length:=by
    rcases Nat.eq_zero_or_pos (es1++es2).flatten.length with h0|h0
    ·omega
    ·obtain⟨v,hv,-⟩:=hfl ((es1++es2).flatten.length-1) _ (List.getElem?_eq_getElem (by omega))
     rw [← Array.getElem?_toList] at hv
     have:=c4 hv
     omega
   refine List.ext_getElem? fun k=>?_
   by_cases hk:k<(es1++es2).flatten.length
   ·rw [List.getElem?_append_left (by simpa using hk),List.getElem?_map,List.getElem?_range' (by simpa using hk)]
    obtain⟨v,hv,-⟩:=hfl k _ (List.getElem?_eq_getElem hk)
    simp only [Option.map_some,Nat.zero_add,Nat.one_mul,hv,Option.getD_some]
    rw [← Array.getElem?_toList] at hv
    exact hv.symm
   ·rw [List.getElem?_append_right (by simpa using Nat.le_of_not_lt hk),List.getElem?_drop]
    congr 1
    simp
    simp at hk
    omega
  rw [e1]
  exact hob
 refine⟨_,_,w1,hr,hE,TA h.sto hX (Nat.le_refl _) hobp (gD.mono hE _ _ hrvl),⟨⟨E,(es1++es2).flatten.map PV.t⟩,by simp [cY.addBox]⟩,c,hc,hm,by simp [cB]⟩
theorem aX.indexG{T E sz by_ k N i:Nat}{x y:Operand}(ho:o.op= .indexAddr T x y)(hd:bQ o.dst n=true)(hx:s.ev x=some (.gsl k N))(hy:s.ev y=some (.t (.leaf (.int .i64 (i:Int)))))(hi:i<N)(hT:elemOf? P T=some (E,sz,by_)):
 aX P C n o s (s.putO o.dst (.ptr k (i*sz))):=
 aX.quiet (c3 hd) fun m a w h=>by
  obtain⟨hb,c,hc,hm,hv⟩:=h.eval hx
  have h6:=(cJ.leaf_eq (h.eval hy)).1
  refine⟨.pointer (some ⟨m.ρ k,0+i*sz,none⟩),?_,hb,by rw [Nat.zero_add]⟩
  unfold execOp
  simp only [ho,hv,h6,Sem.run_bind,run_indexAt' hT hi,Result.andThen_ok]
  rfl
mutual
inductive TJ (k sz:Nat) (es:List (List Tr)):PV→PV→Prop
 |le {p q:PV}:PV.Le p q→TJ k sz es p q
 |bsl {n:Nat}:es.length=n→TJ k sz es (.bsl k n) (.t (.row sz es))
 |bslL {n:Nat}:es.length=n→TJ k sz es (.bsl k n) (.lit sz es)
 |gsl {n:Nat}:es.length=n→TJ k sz es (.gsl k n) (.t (.row sz es))
 |agg {ps qs:List PV}:LG k sz es ps qs→TJ k sz es (.agg ps) (.agg qs)
inductive LG (k sz:Nat) (es:List (List Tr)):List PV→List PV→Prop
 |nil:LG k sz es [] []
 |cons {p q:PV} {ps qs:List PV}:TJ k sz es p q→LG k sz es ps qs→LG k sz es (p::ps) (q::qs)
end
def V4(k sz:Nat)(es:List (List Tr))(st':cY):List (Option c5)→List (Option c5)→Prop
 |_,[]=>True
 |_::xs,none::ys=>V4 k sz es st' xs ys
 |some x::xs,some y::ys=>(x.ty=y.ty∧LG k sz es x.cells y.cells∧l9 st' y.cells=true)∧V4 k sz es st' xs ys
 |_,_=>False
theorem V4.get{k sz:Nat}{es:List (List Tr)}{st':cY}: ∀ {xs ys:List (Option c5)},V4 k sz es st' xs ys→ ∀(i:Nat) (y:c5),ys[i]?=some (some y)→ ∃x:c5,xs[i]?=some (some x)∧x.ty=y.ty∧LG k sz es x.cells y.cells∧l9 st' y.cells=true
 |_,[],_,i,y,h=>by simp at h
 | [],none::ys,hl,i,y,h=>hl.elim
 |x::xs,none::ys,hl,0,y,h=>by simp at h
 |none::xs,none::ys,hl,i+1,y,h=>by simpa using V4.get (xs:=xs) hl i y (by simpa using h)
 |some _::xs,none::ys,hl,i+1,y,h=>by simpa using V4.get (xs:=xs) hl i y (by simpa using h)
 |some x::xs,some z::ys,hl,0,y,h=>by
  simp at h
  subst h
  exact⟨x,rfl,hl.1⟩
 |some x::xs,some z::ys,hl,i+1,y,h=>by simpa using V4.get (xs:=xs) hl.2 i y (by simpa using h)
 | [],some _::_,hl,_,_,_=>hl.elim
 |none::_,some _::_,hl,_,_,_=>hl.elim
def ahQ(k sz:Nat)(es:List (List Tr))(s:AS)(st':cY):List (Nat×PV)→Prop
 | []=>True
 |(i,q)::l=>(∃p,s.lk i=some p∧TJ k sz es p q∧PV.okIn st' q=true)∧ahQ k sz es s st' l
theorem ahQ.get{k sz:Nat}{es:List (List Tr)}{s:AS}{st':cY}: ∀ {l:List (Nat×PV)} {i:Nat} {q:PV},ahQ k sz es s st' l→l.lookup i=some q→ ∃p,s.lk i=some p∧TJ k sz es p q∧PV.okIn st' q=true
 | [],_,_,_,h=>by simp at h
 |(j,p)::l,i,q,hl,h=>by
  rw [List.lookup_cons] at h
  by_cases hik:i=j
  ·subst hik
   simp at h
   subst h
   exact hl.1
  ·rw [show(i==j)=false by simp [hik]] at h
   exact ahQ.get hl.2 h
mutual
theorem TJ.rv{k sz:Nat}{es:List (List Tr)}{ok ok':Nat→Nat→Prop}{st st':cY}{m:jE}{w:World}(hle: ∀p v,PV.okIn st' p=true→RV ok st m w p v→RV ok' st' m w p v)(hb: ∀v c,es.length≤c→c≤maxLen→v= .slice (some ⟨m.ρ k,0,none⟩) es.length c→cJ ok' w (.row sz es) v)(hm:es.length≤maxLen):
 ∀ {p q:PV} {v:Value},TJ k sz es p q→PV.okIn st' q=true→RV ok st m w p v→RV ok' st' m w q v
 |_,_,_,.le h,hk,hr=>hle _ _ hk (h.rv hr)
 |_,_,_,.bsl h,_,hr=>hb _ _ (Nat.le_refl _) hm (h ▸ hr.2)
 |_,_,_,.bslL h,_,hr=>⟨hb _ _ (Nat.le_refl _) hm (h ▸ hr.2),_,h ▸ hr.2⟩
 |_,_,_,.gsl h,_,hr=>by
  obtain⟨-,c,hc,hcm,hv⟩:=hr
  subst h
  exact hb _ c hc hcm hv
 |_,_,_,.agg h,hk,hr=>by
  obtain⟨vs,hv,h1⟩:=hr
  exact⟨vs,hv,LG.rv hle hb hm h hk h1⟩
theorem LG.rv{k sz:Nat}{es:List (List Tr)}{ok ok':Nat→Nat→Prop}{st st':cY}{m:jE}{w:World}(hle: ∀p v,PV.okIn st' p=true→RV ok st m w p v→RV ok' st' m w p v)(hb: ∀v c,es.length≤c→c≤maxLen→v= .slice (some ⟨m.ρ k,0,none⟩) es.length c→cJ ok' w (.row sz es) v)(hm:es.length≤maxLen):
 ∀ {ps qs:List PV} {vs:List Value},LG k sz es ps qs→l9 st' qs=true→gD ok st m w ps vs→gD ok' st' m w qs vs
 |_,_,[],.nil,_,h=>trivial
 |_,_,_::_,.nil,_,h=>h.elim
 |_,_,[],.cons _ _,_,h=>h.elim
 |_,_,_::_,.cons k1 k2,hk,h=>by
  simp only [l9,Bool.and_eq_true] at hk
  exact⟨TJ.rv hle hb hm k1 hk.1 h.1,LG.rv hle hb hm k2 hk.2 h.2⟩
end
theorem Wk.freeze{k sz:Nat}{bx:c5}{es:List (List Tr)}{s':AS}(hb:s.st.boxes[k]?=some (some bx))(hc:sG bx.cells (es.flatten.map PV.t))(hes: ∀e∈es,e.length=sz)(hm:es.length≤16777216)
 (hbox:V4 k sz es s'.st s.st.boxes s'.st.boxes) (hnone:s'.st.boxes[k]?=some none) (hr:s'.st.rows=s.st.rows) (hp:kU C.st s'.st) (he:ahQ k sz es s s'.st s'.env):Wk C n s s':=fun m a w h=>by
 have hsub:zQ s.st s'.st:=⟨fun i x hi=>by obtain⟨y,hy,-⟩:=hbox.get i x hi;exact⟨y,hy⟩,fun r row hrow=>by rw [hr] at hrow;exact hrow⟩
 obtain⟨vs,hob,hvs⟩:=h.sto.box k bx hb
 have hts:=sG.rv hc hvs
 have hokk: ∀o,j9 C.av s'.st m (m.ρ k) o:=fun o=>⟨h.sto.avb k bx hb o,fun i x hi=>by
  obtain⟨y,hy,-⟩:=hbox.get i x hi
  by_cases hik:i=k
  ·subst hik
   rw [hnone] at hi
   cases hi
  ·exact h.sto.binj i k y bx hy hb hik,fun r row g c hrow hg e=>absurd e.symm (h.sto.br k bx r row g c hb (hsub.rows r row hrow) hg)⟩
 have hmm:es.length≤maxLen:=by unfold maxLen;omega
 have hRep: ∀v c,es.length≤c→c≤maxLen→v= .slice (some ⟨m.ρ k,0,none⟩) es.length c→cJ (j9 C.av s'.st m) w (.row sz es) v:=by
  rintro _ c hc hcm rfl
  have hget: ∀q e,es[q]?=some e→ ∀j d,e[j]?=some d→ ∃v,vs[q*sz+j]?=some v∧cJ (j9 C.av s.st m) w d v:=fun q e hq j d hj=>by
   have hf:=rY (sz:=sz) hes hq hj
   obtain⟨v,hv,hrv⟩:=hts.get (j:=q*sz+j) (p:= .t d) (by rw [List.getElem?_map,hf];rfl)
   exact⟨v,hv,hrv⟩
  refine cJ.row (fun q j=>(vs[q*sz+j]?).getD undef) hc hcm (fun _=>⟨m.ρ k,0,rfl,hob.lt,fun q e hq j d hd=>⟨hokk _,?_⟩⟩) (fun q e hq j d hd=>?_)
  ·obtain⟨v,hv,-⟩:=hget q e hq j d hd
   rw [Nat.zero_add,hob.cell hv,hv]
   rfl
  ·obtain⟨v,hv,hrr⟩:=hget q e hq j d hd
   rw [hv]
   exact cJ.mono hrr (Nat.le_refl _) (fun _ _ _ k=>hsub.ok k) (fun _ _ _ _=>rfl)
 have hle: ∀p v,PV.okIn s'.st p=true→RV (j9 C.av s.st m) s.st m w p v→RV (j9 C.av s'.st m) s'.st m w p v:=fun p v=>hsub.rv p v
 refine⟨m,h.dfr,h.tsz,?_,fun i q hq=>?_,?_⟩
 ·exact {
   box:=fun i x hi=>by
    obtain⟨y,hy,ht,hl,hk⟩:=hbox.get i x hi
    obtain⟨us,k1,k2⟩:=h.sto.box i y hy
    exact⟨us,by rw [← ht];exact k1,LG.rv hle hRep hmm hl hk k2⟩
   binj:=fun i i' x x' hi hi'=>by
    obtain⟨y,hy,-⟩:=hbox.get i x hi
    obtain⟨y',hy',-⟩:=hbox.get i' x' hi'
    exact h.sto.binj i i' y y' hy hy'
   row:=fun r row hrow=>by
    obtain⟨k1,k2,k3⟩:=h.sto.row r row (hsub.rows r row hrow)
    refine⟨k1,k2,?_⟩
    rcases k3 with k3|⟨g,c,cur,q1,q2,q3,q4,q5,q6⟩
    ·exact .inl k3
    ·exact .inr ⟨g,c,cur,q1,q2,q3,q4,q5,cJ.mono q6 (Nat.le_refl _) (fun _ _ _ k=>hsub.ok k) (fun _ _ _ _=>rfl)⟩
   rinj:=fun r r' row row' g c c' hi hi'=>h.sto.rinj r r' row row' g c c' (hsub.rows r row hi) (hsub.rows r' row' hi')
   br:=fun i x r row g c hi hrow=>by
    obtain⟨y,hy,-⟩:=hbox.get i x hi
    exact h.sto.br i y r row g c hy (hsub.rows r row hrow)
   avlt:=h.sto.avlt
   avr:=fun r row g c hrow=>h.sto.avr r row g c (hsub.rows r row hrow)
   avb:=fun i x hi=>by
    obtain⟨y,hy,-⟩:=hbox.get i x hi
    exact h.sto.avb i y hy }
 ·obtain⟨p,h1,h2,h3⟩:=he.get hq
  obtain⟨v,hv,hrv⟩:=h.env i p h1
  exact⟨v,hv,TJ.rv hle hRep hmm h2 h3 hrv⟩
 ·exact {
   os:=h.ev.os
   tape:=h.ev.tape
   output:=h.ev.output
   size:=h.ev.size
   blk:=h.ev.blk
   cell:=h.ev.cell
   okk:=fun b o hb ho=>(hsub.ok (av:=fun _ _=>False) ⟨id,h.ev.okk b o hb ho⟩).2
   live:=fun i x hi=>⟨hp.1 i x hi,(h.ev.live i x hi).2⟩
   fresh:=fun i x' hi=>by
    obtain⟨y,hy,-⟩:=hbox.get i x' hi
    exact h.ev.fresh i y hy
   rowl:=fun r row hrow=>by
    obtain⟨row',hr'⟩:=hp.2 r row hrow
    obtain⟨row2,h1,h2⟩:=h.ev.rowl r row hrow
    have:=hsub.rows r row' hr'
    rw [h1] at this
    cases this
    exact⟨_,hr',h2⟩
   rfresh:=fun r row' g c hrow hg=>h.ev.rfresh r row' g c (hsub.rows r row' hrow) hg }
end
theorem Wk.freezeE{C:qB}{n:Nat}{s:AS}{k sz:Nat}{bx:c5}{es es':List (List Tr)}{s':AS}(heq:es=es')(hb:s.st.boxes[k]?=some (some bx))(hc:sG bx.cells (es.flatten.map PV.t))(hes: ∀e∈es,e.length=sz)(hm:es.length≤16777216)
 (hbox:V4 k sz es' s'.st s.st.boxes s'.st.boxes) (hnone:s'.st.boxes[k]?=some none) (hr:s'.st.rows=s.st.rows) (hp:kU C.st s'.st) (he:ahQ k sz es' s s'.st s'.env):Wk C n s s':=by
 subst heq
 exact Wk.freeze hb hc hes hm hbox hnone hr hp he
theorem dP{p:Prop}(h:p:=by(repeat' (first|exact TJ.bsl rfl|exact TJ.bslL rfl|exact TJ.gsl rfl|exact LG.nil|apply LG.cons|exact TJ.le (PV.Le.refl _)|exact TJ.le (PV.Le.acc _ _ _)|exact TJ.le (PV.Le.nil _)|exact TJ.le (PV.Le.lit _ _)|exact TJ.le (PV.Le.nilLit _)|apply TJ.agg))):p:=h
end Go.Proofs.YtpioomclpaiomaaGreat

namespace Go.Proofs.YtpioomclpaiomaaGreat
set_option linter.unusedSimpArgs false
set_option linter.unusedVariables false
open Go.RowKit Go.WalkArith Go.IntWalk Go.WideShapes
abbrev pI(x:Int):PV:= .t (.leaf (.int .i64 x))
abbrev pN(x:Nat):PV:= .t (.leaf (.int .i64 (x:Int)))
abbrev pU(x:UInt8):PV:= .t (.leaf (.int .u8 (x.toNat:Int)))
abbrev pS(x:ByteArray):PV:= .t (.leaf (.string x))
abbrev pB(x:Bool):PV:= .t (.leaf (.bool x))
abbrev rS(l:List ByteArray):PV:= .t (.row 1 (a4 l))
abbrev rI(l:List Int):PV:= .t (.row 1 (qF l))
abbrev rU(l:List UInt8):PV:= .t (.row 1 (cK l))
abbrev aS(l:List ByteArray)(r:Nat):PV:= .acc 1 (a4 l) r
abbrev dC(d:DS):List PV:= [.t (.row 1 (cK d.code)),.t (.leaf (.int .i64 (d.p:Int))),.t (.leaf (.int .i64 d.h))]
class TC (α:Type) [Inhabited α] where
 cs:α→List Tr
 trs:List α→List (List Tr)
 sz:Nat
 at_: ∀ {l:List α} {k:Nat},k<l.length→(trs l)[k]?=some (cs (aW l k))
 len: ∀l:List α,(trs l).length=l.length
 map: ∀l:List α,trs l=l.map cs
 csz: ∀a,(cs a).length=sz
instance:TC ByteArray:=⟨fun x=> [.leaf (.string x)],a4,1,ajT,a9,fun _=>rfl,fun _=>rfl⟩
instance:TC Int:=⟨fun x=> [.leaf (.int .i64 x)],qF,1,aiL,gE,fun _=>rfl,fun _=>rfl⟩
instance:TC UInt8:=⟨fun x=> [.leaf (.int .u8 (x.toNat:Int))],cK,1,ad5,gG,fun _=>rfl,fun _=>rfl⟩
section
variable {α:Type} [Inhabited α] [TC α]
theorem TC.all(l:List α): ∀e∈TC.trs l,e.length=TC.sz α:=fun e he=>by
 rw [TC.map] at he
 obtain⟨x,_,rfl⟩:=List.mem_map.1 he
 exact TC.csz x
theorem TC.app(a b:List α):TC.trs a++TC.trs b=TC.trs (a++b):=by rw [TC.map,TC.map,TC.map,List.map_append]
end
def Hd{β:Type}(m:Option β)(K:β→Prop):Prop:= ∃v,m=some v∧K v
section
variable {α β σ:Type} {K:β→Prop} {r:β}
theorem eF{m:Option β}(h:m=some r):Hd m (fun v=>v=r):=⟨r,h,rfl⟩
theorem gdI{p:Prop}{x:Option β}(h:Hd (gd p x) K):p∧Hd x K:=by
 obtain⟨v,h1,h2⟩:=h
 by_cases hp:p
 ·rw [qX hp rfl] at h1;exact⟨hp,v,h1,h2⟩
 ·rw [gdF hp] at h1;cases h1
theorem bdI{o:Option α}{f:α→Option β}(h:Hd (bd o f) K): ∃a,o=some a∧Hd (f a) K:=by
 obtain⟨v,h1,h2⟩:=h
 cases o with
 |none=>cases h1
 |some a=>exact⟨a,rfl,v,h1,h2⟩
theorem ltI{x:α}{f:α→Option β}(h:Hd (lt x f) K): ∃y,y=x∧Hd (f y) K:=⟨x,rfl,h⟩
theorem cX{G p:Prop}{x:Option β}(h:Hd (gd p x) K)(k:p→Hd x K→G):G:=k (gdI h).1 (gdI h).2
theorem bN{G:Prop}{o:Option α}{f:α→Option β}(h:Hd (bd o f) K)(k: ∀a,o=some a→Hd (f a) K→G):G:=by
 obtain⟨a,h1,h2⟩:=bdI h
 exact k a h1 h2
theorem eT{G:Prop}{A B:Type}{o:Option (A×B)}{f:A×B→Option β}(h:Hd (bd o f) K)(k: ∀a b,o=some (a,b)→Hd (f (a,b)) K→G):G:=bN h fun _=>k _ _
theorem QP{G:Prop}{A B C:Type}{o:Option (A×B×C)}{f:A×B×C→Option β}(h:Hd (bd o f) K)(k: ∀a b c,o=some (a,b,c)→Hd (f (a,b,c)) K→G):G:=bN h fun _=>k _ _ _
theorem apN{G:Prop}{A B C D:Type}{o:Option (A×B×C×D)}{f:A×B×C×D→Option β}(h:Hd (bd o f) K)(k: ∀a b c d,o=some (a,b,c,d)→Hd (f (a,b,c,d)) K→G):G:=bN h fun _=>k _ _ _ _
theorem gL{G:Prop}{x:α}{f:α→Option β}(h:Hd (lt x f) K)(k: ∀y,y=x→Hd (f y) K→G):G:=k x rfl h
theorem oE{b:Bool}{x y:Option β}(h:Hd (sw b x y) K)(e:b=true):Hd x K:=by subst e;exact h
theorem oA{b:Bool}{x y:Option β}(h:Hd (sw b x y) K)(e:b=false):Hd y K:=by subst e;exact h
theorem aZ{v:β}(h:Hd (some v) K):K v:=by
 obtain⟨u,h1,h2⟩:=h
 cases h1
 exact h2
def SK(f:σ→Option β)(K:β→Prop):β⊕σ→Prop
 | .inl x=>K x
 | .inr s=>Hd (f s) K
theorem f8{m:Option (β⊕σ)}{f:σ→Option β}(h:Hd (so m f) K):Hd m (SK f K):=by
 obtain⟨v,h1,h2⟩:=h
 cases m with
 |none=>cases h1
 |some a=>
  refine⟨a,rfl,?_⟩
  cases a with
  |inl x=>cases h1;exact h2
  |inr s=>exact⟨v,h1,h2⟩
def LK(f:Nat→σ→Option (LR σ β))(n i:Nat)(K:β⊕σ→Prop):LR σ β→Prop
 | .next s=>Hd (loopN f (n-(i+1)) (i+1) s) K
 | .brk s=>K (.inr s)
 | .ret x=>K (.inl x)
def LW(f:σ→Option (LR σ β))(k:Nat)(K:β⊕σ→Prop):LR σ β→Prop
 | .next s=>Hd (loopW f k s) K
 | .brk s=>K (.inr s)
 | .ret x=>K (.inl x)
theorem CY{f:σ→Option β}{x:β}(h:SK f K (.inl x)):K x:=h
theorem p8{f:Nat→σ→Option (LR σ β)}{n i:Nat}{K:β⊕σ→Prop}{x:β}(h:LK f n i K (.ret x)):K (.inl x):=h
theorem lwR{f:σ→Option (LR σ β)}{k:Nat}{K:β⊕σ→Prop}{x:β}(h:LW f k K (.ret x)):K (.inl x):=h
theorem lnT{f:Nat→σ→Option (LR σ β)}{n i:Nat}{s:σ}{K:β⊕σ→Prop}(hl:i<n)(h:Hd (loopN f (n-i) i s) K):Hd (f i s) (LK f n i K):=by
 obtain⟨v,h1,h2⟩:=h
 rw [show n-i=(n-(i+1))+1 by omega,loopN] at h1
 cases hf:f i s with
 |none=>rw [hf] at h1;cases h1
 |some x=>
  rw [hf] at h1
  refine⟨x,rfl,?_⟩
  cases x with
  |next s'=>exact⟨v,h1,h2⟩
  |brk s'=>cases h1;exact h2
  |ret x=>cases h1;exact h2
theorem lnE{f:Nat→σ→Option (LR σ β)}{n i:Nat}{s:σ}{K:β⊕σ→Prop}(hl:n≤i)(h:Hd (loopN f (n-i) i s) K):K (.inr s):=by
 obtain⟨v,h1,h2⟩:=h
 rw [show n-i=0 by omega,loopN] at h1
 cases h1
 exact h2
theorem lwT{f:σ→Option (LR σ β)}{k:Nat}{s:σ}{K:β⊕σ→Prop}(h:Hd (loopW f k s) K): ∃k',k=k'+1∧Hd (f s) (LW f k' K):=by
 obtain⟨v,h1,h2⟩:=h
 cases k with
 |zero=>cases h1
 |succ k=>
  rw [loopW] at h1
  refine⟨k,rfl,?_⟩
  cases hf:f s with
  |none=>rw [hf] at h1;cases h1
  |some x=>
   rw [hf] at h1
   refine⟨x,rfl,?_⟩
   cases x with
   |next s'=>exact⟨v,h1,h2⟩
   |brk s'=>cases h1;exact h2
   |ret x=>cases h1;exact h2
end
section
variable {P:Program} {C:qB} {n:Nat} {s s':AS}
theorem aaM{st':cY}(h:kU C.st st':=by first|exact AK (by assumption)|(refine eJ (by assumption) ?_ ?_;(first|exact anN|exact j7 rfl|exact anO rfl|exact anP rfl);exact Nat.le_of_ble_eq_true rfl)):kU C.st st':=h
theorem adF{st st':cY}(hb:yB st' st.boxes st'.boxes:=by repeat' (first|exact trivial|refine⟨⟨rfl,kP,rfl⟩,?_⟩))(hr:st.rows.take st'.rows.length=st'.rows:=by first|rfl|simp):nL st st':=nL.mk' hb hr
theorem b0(hst:nL s.st s'.st:=by exact adF)(hp:kU C.st s'.st:=by exact aaM)(he:U3 s s'.st s'.env:=by repeat' (first|exact trivial|refine⟨⟨_,rfl,kP,rfl⟩,?_⟩)):Wk C n s s':=Wk.mk hst hp he
end
theorem CG{P:Program}{f:FuncId}{args:List PV}{pre:cY}{q:PV}{y d:DS}{T:TypeId}(hy:y=d)(h:cP P f args pre (fun r t=>r=q∧t=DS.box T d)):cP P f args pre (fun r t=>r=q∧t=DS.box T y):=by subst hy;exact h
theorem LF{P:Program}{f:FuncId}{args:List PV}{pre:cY}{x z:ByteArray}{y d:DS}{T:TypeId}(hy:y=d)(hx:x=z)(h:cP P f args pre (fun r t=>r=pS z∧t=DS.box T d)):cP P f args pre (fun r t=>r=pS x∧t=DS.box T y):=by subst hy hx;exact h
def anQ{β σ:Type}(C:qB)(n:Nat)(I:σ→AS)(K:β⊕σ→Prop)(Q:Exit→AS→Prop):Exit→AS→Prop
 | .normal,s=> ∃v,K (.inr v)∧Wk C n s (I v)
 |e,s=>Q e s
def lpQ{β σ:Type}(C:qB)(n:Nat)(id:Nat)(I:Nat→σ→AS)(O:σ→AS)(f:Nat→σ→Option (LR σ β))(m i:Nat)(K:β⊕σ→Prop)(Q:Exit→AS→Prop):Exit→AS→Prop
 | .normal,s=>i<m∧ ∃v,Hd (loopN f (m-(i+1)) (i+1) v) K∧Wk C n s (I (i+1) v)
 | .exit j,s=>if j=id then ∃v,K (.inr v)∧Wk C n s (O v) else Q (.exit j) s
 |e,s=>Q e s
def lwQ{β σ:Type}(C:qB)(n:Nat)(id:Nat)(I:σ→AS)(O:σ→AS)(f:σ→Option (LR σ β))(k:Nat)(K:β⊕σ→Prop)(Q:Exit→AS→Prop):Exit→AS→Prop
 | .normal,s=> ∃v,Hd (loopW f k v) K∧Wk C n s (I v)
 | .exit j,s=>if j=id then ∃v,K (.inr v)∧Wk C n s (O v) else Q (.exit j) s
 |e,s=>Q e s
section
variable {P:Program} {C:qB} {n:Nat} {s:AS} {Q:Exit→AS→Prop} {β σ:Type}
theorem an2{I:σ→AS}{K:β⊕σ→Prop}(hq:QC C n Q):QC C n (anQ C n I K Q):=fun e s s' h k=>by
 cases e with
 |normal=>obtain⟨v,h1,h2⟩:=k;exact⟨v,h1,h.trans h2⟩
 |_=>exact hq _ s s' h k
theorem aoW{id:Nat}{I:Nat→σ→AS}{O:σ→AS}{f:Nat→σ→Option (LR σ β)}{m i:Nat}{K:β⊕σ→Prop}(hq:QC C n Q):QC C n (lpQ C n id I O f m i K Q):=fun e s s' h k=>by
 cases e with
 |normal=>obtain⟨h0,v,h1,h2⟩:=k;exact⟨h0,v,h1,h.trans h2⟩
 |exit j=>
  simp only [lpQ] at k ⊢
  split
  ·rename_i hj;rw [if_pos hj] at k;obtain⟨v,h1,h2⟩:=k;exact⟨v,h1,h.trans h2⟩
  ·rename_i hj;rw [if_neg hj] at k;exact hq _ s s' h k
 |_=>exact hq _ s s' h k
theorem aoX{id:Nat}{I:σ→AS}{O:σ→AS}{f:σ→Option (LR σ β)}{m:Nat}{K:β⊕σ→Prop}(hq:QC C n Q):QC C n (lwQ C n id I O f m K Q):=fun e s s' h k=>by
 cases e with
 |normal=>obtain⟨v,h1,h2⟩:=k;exact⟨v,h1,h.trans h2⟩
 |exit j=>
  simp only [lwQ] at k ⊢
  split
  ·rename_i hj;rw [if_pos hj] at k;obtain⟨v,h1,h2⟩:=k;exact⟨v,h1,h.trans h2⟩
  ·rename_i hj;rw [if_neg hj] at k;exact hq _ s s' h k
 |_=>exact hq _ s s' h k
theorem qcA(h:QC C n Q:=by repeat' (first|exact an3|exact aoO|apply an2|apply aoW|apply aoX|apply an4|apply amG)):QC C n Q:=h
theorem qD{c:Code}{m:Option (β⊕σ)}{K:β⊕σ→Prop}(I:σ→AS)(H:Hd m K)(h:Hd m K→aQ P C n c (anQ C n I K Q) s)(k: ∀v,K (.inr v)→Q .normal (I v))(hq:QC C n Q:=by exact qcA):aQ P C n c Q s:=
 aQ.mono (h H) fun e s' hc=>by
  cases e with
  |normal=>
   obtain⟨v,h1,h2⟩:=hc
   exact hq _ _ _ h2 (k v h1)
  |_=>exact hc
theorem dO{I:σ→AS}{K:β⊕σ→Prop}{e:Exit}(h: ∃v,K (.inr v)∧Wk C n s (I v))(he:e= .normal:=by exact rfl):anQ C n I K Q e s:=by subst he;exact h
theorem b9{c:Code}{id:Nat}{f:Nat→σ→Option (LR σ β)}{m i0:Nat}{v0:σ}{K:β⊕σ→Prop}(I:Nat→σ→AS)(O:σ→AS)(H:Hd (loopN f (m-i0) i0 v0) K)
 (round: ∀i v,Hd (loopN f (m-i) i v) K→aQ P C n c (lpQ C n id I O f m i K Q) (I i v)) (k: ∀v,K (.inr v)→Q .normal (O v)) (h0:Wk C n s (I i0 v0):=by exact b0) (hq:QC C n Q:=by exact qcA):aQ P C n (.block id (.loop c)) Q s:=by
 refine aQ.block ?_;refine aQ.loopJ (ι:=Nat×σ) (fun x=>Hd (loopN f (m-x.1) x.1 x.2) K) (fun x=>I x.1 x.2) (fun x=>m-x.1) (i0,v0) H h0 ?_;rintro⟨i,v⟩ hj
 refine aQ.mono (round i v hj) fun e s' h=>?_
 cases e with
 |normal=>
  obtain⟨h1,v',h2,h3⟩:=h
  exact⟨(i+1,v'),h2,h3,by show m-(i+1)<m-i;omega⟩
 |exit j=>
  simp only [lpQ] at h
  show uP id Q (.exit j) s'
  simp only [uP]
  split
  ·rename_i hj;rw [if_pos hj] at h;obtain⟨v',h1,h2⟩:=h;exact hq _ _ _ h2 (k v' h1)
  ·rename_i hj;rw [if_neg hj] at h;exact h
 |_=>exact h
theorem VM{c:Code}{id:Nat}{f:σ→Option (LR σ β)}{k0:Nat}{v0:σ}{K:β⊕σ→Prop}(I:σ→AS)(O:σ→AS)(H:Hd (loopW f k0 v0) K)
 (round: ∀k v,Hd (f v) (LW f k K)→aQ P C n c (lwQ C n id I O f k K Q) (I v)) (k: ∀v,K (.inr v)→Q .normal (O v)) (h0:Wk C n s (I v0):=by exact b0) (hq:QC C n Q:=by exact qcA):aQ P C n (.block id (.loop c)) Q s:=by
 refine aQ.block ?_;refine aQ.loopJ (ι:=Nat×σ) (fun x=>Hd (loopW f x.1 x.2) K) (fun x=>I x.2) (fun x=>x.1) (k0,v0) H h0 ?_;rintro⟨i,v⟩ hj
 obtain⟨i',rfl,hj'⟩:=lwT (f:=f) (k:=i) (s:=v) hj
 refine aQ.mono (round i' v hj') fun e s' h=>?_
 cases e with
 |normal=>
  obtain⟨v',h2,h3⟩:=h
  exact⟨(i',v'),h2,h3,by show i'<i'+1;omega⟩
 |exit j=>
  simp only [lwQ] at h
  show uP id Q (.exit j) s'
  simp only [uP]
  split
  ·rename_i hj;rw [if_pos hj] at h;obtain⟨v',h1,h2⟩:=h;exact hq _ _ _ h2 (k v' h1)
  ·rename_i hj;rw [if_neg hj] at h;exact h
 |_=>exact h
theorem iK{id:Nat}{I:Nat→σ→AS}{O:σ→AS}{f:Nat→σ→Option (LR σ β)}{m i:Nat}{K:β⊕σ→Prop}{e:Exit}(hi:i<m)(h: ∃v,LK f m i K (.next v)∧Wk C n s (I (i+1) v))(he:e= .normal:=by exact rfl):lpQ C n id I O f m i K Q e s:=by subst he;exact⟨hi,h⟩
theorem j0{id:Nat}{I:Nat→σ→AS}{O:σ→AS}{f:Nat→σ→Option (LR σ β)}{m i:Nat}{K:β⊕σ→Prop}{e:Exit}(h: ∃v,K (.inr v)∧Wk C n s (O v))(he:e= .exit id:=by exact rfl):lpQ C n id I O f m i K Q e s:=by
 subst he
 simp only [lpQ,if_pos]
 exact h
theorem lpB{id:Nat}{I:Nat→σ→AS}{O:σ→AS}{f:Nat→σ→Option (LR σ β)}{m i:Nat}{K:β⊕σ→Prop}{e:Exit}(h: ∃v,LK f m i K (.brk v)∧Wk C n s (O v))(he:e= .exit id:=by exact rfl):lpQ C n id I O f m i K Q e s:=j0 h he
theorem lwN{id:Nat}{I:σ→AS}{O:σ→AS}{f:σ→Option (LR σ β)}{k:Nat}{K:β⊕σ→Prop}{e:Exit}(h: ∃v,LW f k K (.next v)∧Wk C n s (I v))(he:e= .normal:=by exact rfl):lwQ C n id I O f k K Q e s:=by subst he;exact h
theorem lwB{id:Nat}{I:σ→AS}{O:σ→AS}{f:σ→Option (LR σ β)}{k:Nat}{K:β⊕σ→Prop}{e:Exit}(h: ∃v,LW f k K (.brk v)∧Wk C n s (O v))(he:e= .exit id:=by exact rfl):lwQ C n id I O f k K Q e s:=by
 subst he
 simp only [lwQ,if_pos]
 exact h
theorem dY{β:Type}{K:β→Prop}{x y:Option β}{ops:Array Oper}{l:List Oper}(d:Nat){b:Bool}(H:Hd (sw b x y) K)(h1:b=true→Hd x K→AL P C n ops l Q s)(h0:b=false→Hd y K→AL P C n ops l Q s)(hb:s.lk d=some (.t (.leaf (.bool b))):=by exact rfl):AL P C n ops l Q s:=AL.splitB d hb (fun h=>h1 h (oE H h)) (fun h=>h0 h (oA H h))
theorem bA{K:β→Prop}{c:Operand}{b:Bool}{x y:Option β}{cx cy:Code}(H:Hd (sw b x y) K)(ht:b=true→Hd x K→aQ P C n cx Q s)(hf:b=false→Hd y K→aQ P C n cy Q s)(hc:s.ev c=some (.t (.leaf (.bool b))):=by exact rfl):aQ P C n (.cond c cx cy) Q s:=
 aQ.cond hc (fun h=>ht h (oE H h)) fun h=>hf h (oA H h)
theorem dM{c:Operand}{b:Bool}{cx cy:Code}(e:b=true)(h:aQ P C n cx Q s)(hc:s.ev c=some (.t (.leaf (.bool b))):=by exact rfl):aQ P C n (.cond c cx cy) Q s:=aQ.cond hc (fun _=>h) fun h=>absurd (e.symm.trans h) (by decide)
theorem kJ{c:Operand}{b:Bool}{cx cy:Code}(e:b=false)(h:aQ P C n cy Q s)(hc:s.ev c=some (.t (.leaf (.bool b))):=by exact rfl):aQ P C n (.cond c cx cy) Q s:=aQ.cond hc (fun h=>absurd (e.symm.trans h) (by decide)) fun _=>h
theorem dT{K:β⊕σ→Prop}{f:Nat→σ→Option (LR σ β)}{m i:Nat}{v:σ}{c:Operand}{b:Bool}{cx cy:Code}(H:Hd (loopN f (m-i) i v) K)(ht:b=true→i<m→Hd (f i v) (LK f m i K)→aQ P C n cx Q s)(hf:b=false→K (.inr v)→aQ P C n cy Q s)(h1:b=true→i<m:=by first|exact tO|exact aeN)(h0:b=false→m≤i:=by first|exact tN|exact aeM)(hc:s.ev c=some (.t (.leaf (.bool b))):=by exact rfl):aQ P C n (.cond c cx cy) Q s:=
 aQ.cond hc (fun h=>ht h (h1 h) (lnT (h1 h) H)) fun h=>hf h (lnE (h0 h) H)
theorem qI{f:FuncId}{fn:Func}{c:Code}{args:List PV}{pre:cY}{R:PV→cY→Prop}(hf:P.funcs[f]?=some fn)(h: ∀C:qB,C.st=pre→aQ P C fn.ntmps c (xY P C fn.ntmps fn R) ⟨HO 0 args,pre⟩)(hb:fn.body=some c:=by exact rfl)(hn:args.length≤fn.ntmps:=by first|decide|(simp;done)|(simp;decide)):cP P f args pre R:=cP.intro hf hb hn h
theorem qS{x y:Code}(h:aQ P C n x (adI (aQ P C n y Q) Q) s):aQ P C n (.seq x y) Q s:=aQ.seq h
theorem qR{id:Nat}{l:List Oper}(h:AL P C n l.toArray l Q s):aQ P C n (.region id l.toArray false) Q s:=aQ.region_lit h
theorem qN{ops:Array Oper}(h:Q .normal s):AL P C n ops [] Q s:=AL.nil h
theorem q1{ops:Array Oper}{o:Oper}{rest:List Oper}{s1:AS}(ho:aX P C n o s s1)(h:AL P C n ops rest Q s1)(hg:o.guard=none:=by exact rfl):AL P C n ops (o::rest) Q s:=AL.cons hg ho h
theorem qg{ops:Array Oper}{o:Oper}{rest:List Oper}{s1:AS}{j d:Nat}{b c:Bool}(hv:b=c)(ho:aX P C n o s s1)(h:AL P C n ops rest Q s1)(hg:o.guard=some (j,c):=by exact rfl)(hj:(ops[j]?).bind (·.dst)=some d:=by exact rfl)(hb:s.lk d=some (.t (.leaf (.bool b))):=by exact rfl):AL P C n ops (o::rest) Q s:=AL.cons_gv hg hj hb hv ho h
theorem qk{ops:Array Oper}{o:Oper}{rest:List Oper}{j d:Nat}{b c e:Bool}(hv:b=e)(h:AL P C n ops rest Q (s.putO o.dst (.tup [])))(hg:o.guard=some (j,c):=by exact rfl)(hj:(ops[j]?).bind (·.dst)=some d:=by exact rfl)(hb:s.lk d=some (.t (.leaf (.bool b))):=by exact rfl)(hne:(e==c)=false:=by exact rfl)(hd:bQ o.dst n=true:=by exact rfl):AL P C n ops (o::rest) Q s:=AL.skipP hg hj hb hv hne hd h
theorem KM{ops:Array Oper}{o:Oper}{rest:List Oper}{j d:Nat}{c:Bool}(h:AL P C n ops rest Q (s.putO o.dst (.tup [])))(hg:o.guard=some (j,c):=by exact rfl)(hj:(ops[j]?).bind (·.dst)=some d:=by exact rfl)(hb:s.lk d=some (.tup []):=by exact rfl)(hd:bQ o.dst n=true:=by exact rfl):AL P C n ops (o::rest) Q s:=AL.skipU hg hj hb hd h
theorem qe{fn:Func}{R:PV→cY→Prop}{e:Exit}{ps:List PV}{res q:PV}{st':cY}(hR:R q st':=by exact⟨rfl,rfl⟩)(hr:WG P s fn.results.toList ps)(he:e= .normal∨e= .ret:=by first|exact .inr rfl|exact .inl rfl)(hres:(match ps with| [p]=>p|ps=> .tup ps)=res:=by exact rfl)
 (hst:nL s.st st':=by exact adF) (hp:kU C.st st':=by exact aaM) (hle:PV.Le res q:=by exact kP) (hk:PV.okIn st' q=true:=by exact rfl):xY P C n fn R e s:=xY.mk he hr hres hst hp hle hk hR
theorem bL{fn:Func}{R:PV→cY→Prop}{e:Exit}{p q:PV}{st':cY}(hR:R q st':=by exact⟨rfl,rfl⟩)(hr:WG P s fn.results.toList [p]:=by exact⟨rfl,trivial⟩)(he:e= .normal∨e= .ret:=by first|exact .inr rfl|exact .inl rfl)
 (hst:nL s.st st':=by exact adF) (hp:kU C.st st':=by exact aaM) (hle:PV.Le p q:=by exact kP) (hk:PV.okIn st' q=true:=by exact rfl):xY P C n fn R e s:=xY.mk he hr rfl hst hp hle hk hR
theorem jM{fn:Func}{R:PV→cY→Prop}{e:Exit}{p1 p2 q:PV}{st':cY}(hR:R q st':=by exact⟨rfl,rfl⟩)(hr:WG P s fn.results.toList [p1,p2]:=by exact⟨rfl,rfl,trivial⟩)(he:e= .normal∨e= .ret:=by first|exact .inr rfl|exact .inl rfl)
 (hst:nL s.st st':=by exact adF) (hp:kU C.st st':=by exact aaM) (hle:PV.Le (.tup [p1,p2]) q:=by exact kP) (hk:PV.okIn st' q=true:=by exact rfl):xY P C n fn R e s:=xY.mk he hr rfl hst hp hle hk hR
theorem qe3{fn:Func}{R:PV→cY→Prop}{e:Exit}{p1 p2 p3 q:PV}{st':cY}(hR:R q st':=by exact⟨rfl,rfl⟩)(hr:WG P s fn.results.toList [p1,p2,p3]:=by exact⟨rfl,rfl,rfl,trivial⟩)(he:e= .normal∨e= .ret:=by first|exact .inr rfl|exact .inl rfl)
 (hst:nL s.st st':=by exact adF) (hp:kU C.st st':=by exact aaM) (hle:PV.Le (.tup [p1,p2,p3]) q:=by exact kP) (hk:PV.okIn st' q=true:=by exact rfl):xY P C n fn R e s:=xY.mk he hr rfl hst hp hle hk hR
theorem j8(i:Nat){p:PV}{sz:Nat}{es:List (List Tr)}{N:Nat}{c:Code}(hl:es.length=N)(k:N≤9223372036854775807→aQ P C n c Q s)(hx:s.lk i=some p:=by exact rfl)(hp:mL p=some (sz,es):=by exact rfl):aQ P C n c Q s:=aQ.fact (P0 i hx hp hl) k
theorem szF(i:Nat){v:ByteArray}{c:Code}(k:v.size≤9223372036854775807→aQ P C n c Q s)(hx:s.lk i=some (.t (.leaf (.string v))):=by exact rfl):aQ P C n c Q s:=aQ.fact (fun m a w h=>by
 obtain⟨u,-,hr⟩:=h.env i _ hx
 have h1:v.size≤maxLen:=(cJ.leaf_eq hr).2
 unfold maxLen at h1
 omega) k
theorem amA(i:Nat){p:PV}{sz:Nat}{es:List (List Tr)}{N:Nat}{ops:Array Oper}{l:List Oper}(hl:es.length=N)(k:N≤9223372036854775807→AL P C n ops l Q s)(hx:s.lk i=some p:=by exact rfl)(hp:mL p=some (sz,es):=by exact rfl):AL P C n ops l Q s:=AL.fact (P0 i hx hp hl) k
end
section
variable {P:Program} {C:qB} {n:Nat}
end
def pk{α:Type}[Inhabited α](l:List α)(j:Nat):α:=l.getD j (l.getLastD default)
instance:Inhabited DS:=⟨⟨[],0,0⟩⟩
instance:Inhabited PV:=⟨.nil⟩
instance:Inhabited cY:=⟨⟨[],[]⟩⟩
instance:Inhabited pM:=⟨⟨0,0,[],false⟩⟩
def evA(s:AS):List Operand→Option (List PV)
 | []=>some []
 |x::xs=>match s.ev x with
  |some p=>match evA s xs with
   |some ps=>some (p::ps)
   |none=>none
  |none=>none
theorem JU{s:AS}: ∀ {xs:List Operand} {ps:List PV},evA s xs=some ps→xs.map s.ev=ps.map some
 | [],ps,h=>by cases h;rfl
 |x::xs,ps,h=>by
  unfold evA at h
  split at h
  ·rename_i p hp
   split at h
   ·rename_i qs hq
    cases h
    rw [List.map_cons,List.map_cons,hp,JU hq]
   ·cases h
  ·cases h
section
variable {P:Program} {C:qB} {n:Nat} {s:AS} {o:Oper}
theorem aE{x:Operand}{p:PV}(ho:o.op= .move x∨o.op= .assign x:=by first|exact .inl rfl|exact .inr rfl)(hd:bQ o.dst n=true:=by exact rfl)(hx:s.ev x=some p:=by exact rfl):aX P C n o s (s.putO o.dst p):=aX.move ho hd hx
theorem bD{T:TypeId}{x:Operand}{k d z:Nat}{bx:c5}{p:PV}(hT:cA P T=some (false,z))(ho:o.op= .load T x:=by exact rfl)(hd:bQ o.dst n=true:=by exact rfl)(hx:s.ev x=some (.ptr k d):=by exact rfl)(hb:s.st.boxes[k]?=some (some bx):=by exact rfl)(hc:bx.cells[d]?=some p:=by exact rfl):aX P C n o s (s.putO o.dst p):=aX.loadPtr1 ho hd hx hb hT hc
theorem cU{T:TypeId}{x:Operand}{k d z:Nat}{bx:c5}(cs:List PV)(hT:cA P T=some (true,z))(ho:o.op= .load T x:=by exact rfl)(hd:bQ o.dst n=true:=by exact rfl)(hx:s.ev x=some (.ptr k d):=by exact rfl)(hb:s.st.boxes[k]?=some (some bx):=by exact rfl)(hc:(bx.cells.drop d).take z=cs:=by exact rfl)(hl:cs.length=z:=by exact rfl):aX P C n o s (s.putO o.dst (.agg cs)):=aX.loadPtr ho hd hx hb hT hc hl
theorem mC{T:TypeId}{x:Operand}{z:Nat}{d:Tr}{cs:List Tr}(hT:cA P T=some (false,z))(ho:o.op= .load T x:=by exact rfl)(hd:bQ o.dst n=true:=by exact rfl)(hx:s.ev x=some (.eptr cs):=by exact rfl)(hc:cs[0]?=some d:=by exact rfl):aX P C n o s (s.putO o.dst (.t d)):=aX.loadEptr1 ho hd hx hT hc
theorem jW{T:TypeId}{x:Operand}{z:Nat}{cs:List Tr}(ds:List Tr)(hT:cA P T=some (true,z))(ho:o.op= .load T x:=by exact rfl)(hd:bQ o.dst n=true:=by exact rfl)(hx:s.ev x=some (.eptr cs):=by exact rfl)(hc:cs.take z=ds:=by exact rfl)(hl:ds.length=z:=by exact rfl):aX P C n o s (s.putO o.dst (.agg (ds.map PV.t))):=aX.loadEptr ho hd hx hT hc hl
theorem a6{T:TypeId}{x:Operand}{f k d e:Nat}(hf:bE P T f=some e)(ho:o.op= .fieldAddr T x f:=by exact rfl)(hd:bQ o.dst n=true:=by exact rfl)(hx:s.ev x=some (.ptr k d):=by exact rfl):aX P C n o s (s.putO o.dst (.ptr k (d+e))):=aX.fieldPtr ho hd hx hf
theorem nK{T:TypeId}{x:Operand}{f e:Nat}{cs:List Tr}(hf:bE P T f=some e)(ho:o.op= .fieldAddr T x f:=by exact rfl)(hd:bQ o.dst n=true:=by exact rfl)(hx:s.ev x=some (.eptr cs):=by exact rfl):aX P C n o s (s.putO o.dst (.eptr (cs.drop e))):=aX.fieldEptr ho hd hx hf
theorem gM{T:TypeId}{ps:List PV}(hz:cS P T=some ps)(ho:o.op= .alloc T:=by exact rfl)(hd:bQ o.dst n=true:=by exact rfl):aX P C n o s ((⟨s.env,s.st.addBox ⟨T,ps⟩⟩:AS).putO o.dst (.ptr s.st.boxes.length 0)):=aX.alloc ho hd hz
theorem jP{T:TypeId}{x:Operand}{p:PV}(cs:List PV)(ho:o.op= .box T x:=by exact rfl)(hd:bQ o.dst n=true:=by exact rfl)(hx:s.ev x=some p:=by exact rfl)(hc:u5 p=cs:=by exact rfl)(ht:tP p=true:=by exact rfl):aX P C n o s ((⟨s.env,s.st.addBox ⟨T,cs⟩⟩:AS).putO o.dst (.ptr s.st.boxes.length 0)):=aX.box ho hd hx hc ht
theorem bR{T:TypeId}{x y:Operand}{k d:Nat}{bx:c5}{p:PV}{cs ds:List PV}(hT:(P.info? T).map (·.size)=some cs.length)(ho:o.op= .store T x y:=by exact rfl)(hx:s.ev x=some (.ptr k d):=by exact rfl)(hb:s.st.boxes[k]?=some (some bx):=by exact rfl)(hy:s.ev y=some p:=by exact rfl)(hc:u5 p=cs:=by exact rfl)(ht:tP p=true:=by exact rfl)(hf:GR cs=true:=by exact rfl)
 (hfit:d+cs.length≤bx.cells.length:=by exact Nat.le_of_ble_eq_true rfl) (hds:bx.cells.take d++cs++bx.cells.drop (d+cs.length)=ds:=by exact rfl):aX P C n o s ((⟨s.env,s.st.setBox k ⟨bx.ty,ds⟩⟩:AS).delO o.dst):=aX.storePtr ho hx hb hy hc ht hf hT hfit hds
theorem eB{T:TypeId}{x:Operand}{p:PV}{sz N:Nat}{es:List (List Tr)}{E:Nat×Nat×Nat}(hT:elemOf? P T=some E)(hl:es.length=N)(ho:o.op= .call { callee:= .builtin .len,args:= #[x],argTypes:= #[T] }:=by exact rfl)(hd:bQ o.dst n=true:=by exact rfl)(hx:s.ev x=some p:=by exact rfl)(hp:mL p=some (sz,es):=by exact rfl):aX P C n o s (s.putO o.dst (.t (.leaf (.int .i64 (N:Int))))):=aX.lenN ho hd hx hp hT hl
theorem eG{T yT:TypeId}{x y:Operand}{k:IntKind}{a b:Int}(ho:o.op= .binOp .eql T x y yT:=by exact rfl)(hd:bQ o.dst n=true:=by exact rfl)(hx:s.ev x=some (.t (.leaf (.int k a))):=by exact rfl)(hy:s.ev y=some (.t (.leaf (.int k b))):=by exact rfl):aX P C n o s (s.putO o.dst (.t (.leaf (.bool (decide (a=b)))))):=aX.eqlI ho hd hx hy
theorem P5{T yT:TypeId}{x y:Operand}{k:IntKind}{a b:Int}(ho:o.op= .binOp .neq T x y yT:=by exact rfl)(hd:bQ o.dst n=true:=by exact rfl)(hx:s.ev x=some (.t (.leaf (.int k a))):=by exact rfl)(hy:s.ev y=some (.t (.leaf (.int k b))):=by exact rfl):aX P C n o s (s.putO o.dst (.t (.leaf (.bool (!decide (a=b)))))):=aX.neqI ho hd hx hy
theorem gP{T yT:TypeId}{x y:Operand}{k:IntKind}{a b:Int}(ho:o.op= .binOp .lss T x y yT:=by exact rfl)(hd:bQ o.dst n=true:=by exact rfl)(hx:s.ev x=some (.t (.leaf (.int k a))):=by exact rfl)(hy:s.ev y=some (.t (.leaf (.int k b))):=by exact rfl):aX P C n o s (s.putO o.dst (.t (.leaf (.bool (decide (a<b)))))):=aX.lss ho hd hx hy
theorem rLe{T yT:TypeId}{x y:Operand}{k:IntKind}{a b:Int}(ho:o.op= .binOp .leq T x y yT:=by exact rfl)(hd:bQ o.dst n=true:=by exact rfl)(hx:s.ev x=some (.t (.leaf (.int k a))):=by exact rfl)(hy:s.ev y=some (.t (.leaf (.int k b))):=by exact rfl):aX P C n o s (s.putO o.dst (.t (.leaf (.bool (decide (a≤b)))))):=aX.leq ho hd hx hy
theorem KN{T yT:TypeId}{x y:Operand}{k:IntKind}{a b:Int}(ho:o.op= .binOp .gtr T x y yT:=by exact rfl)(hd:bQ o.dst n=true:=by exact rfl)(hx:s.ev x=some (.t (.leaf (.int k a))):=by exact rfl)(hy:s.ev y=some (.t (.leaf (.int k b))):=by exact rfl):aX P C n o s (s.putO o.dst (.t (.leaf (.bool (decide (a>b)))))):=aX.gtr ho hd hx hy
theorem TX{T yT:TypeId}{x y:Operand}{k:IntKind}{a b:Int}(ho:o.op= .binOp .geq T x y yT:=by exact rfl)(hd:bQ o.dst n=true:=by exact rfl)(hx:s.ev x=some (.t (.leaf (.int k a))):=by exact rfl)(hy:s.ev y=some (.t (.leaf (.int k b))):=by exact rfl):aX P C n o s (s.putO o.dst (.t (.leaf (.bool (decide (a≥b)))))):=aX.geq ho hd hx hy
theorem E6{T yT:TypeId}{x y:Operand}{a b:ByteArray}(ho:o.op= .binOp .eql T x y yT:=by exact rfl)(hd:bQ o.dst n=true:=by exact rfl)(hx:s.ev x=some (.t (.leaf (.string a))):=by exact rfl)(hy:s.ev y=some (.t (.leaf (.string b))):=by exact rfl):aX P C n o s (s.putO o.dst (.t (.leaf (.bool (decide (a=b)))))):=aX.eqlS ho hd hx hy
theorem RL{T yT:TypeId}{x y:Operand}{a b:ByteArray}(ho:o.op= .binOp .neq T x y yT:=by exact rfl)(hd:bQ o.dst n=true:=by exact rfl)(hx:s.ev x=some (.t (.leaf (.string a))):=by exact rfl)(hy:s.ev y=some (.t (.leaf (.string b))):=by exact rfl):aX P C n o s (s.putO o.dst (.t (.leaf (.bool (!decide (a=b)))))):=aX.neqS ho hd hx hy
theorem gW{T:TypeId}{x:Operand}{b:Bool}(ho:o.op= .unOp .not T x:=by exact rfl)(hd:bQ o.dst n=true:=by exact rfl)(hx:s.ev x=some (.t (.leaf (.bool b))):=by exact rfl):aX P C n o s (s.putO o.dst (.t (.leaf (.bool (!b))))):=aX.notB ho hd hx
theorem RJ{T yT:TypeId}{x y:Operand}{k:IntKind}{a b:Int}(ho:o.op= .binOp .add T x y yT:=by exact rfl)(hd:bQ o.dst n=true:=by exact rfl)(hx:s.ev x=some (.t (.leaf (.int k a))):=by exact rfl)(hy:s.ev y=some (.t (.leaf (.int k b))):=by exact rfl):aX P C n o s (s.putO o.dst (.t (.leaf (.int k (k.wrap (a+b)))))):=aX.addW ho hd hx hy
theorem AY{T yT:TypeId}{x y:Operand}{k:IntKind}{a b:Int}(ho:o.op= .binOp .sub T x y yT:=by exact rfl)(hd:bQ o.dst n=true:=by exact rfl)(hx:s.ev x=some (.t (.leaf (.int k a))):=by exact rfl)(hy:s.ev y=some (.t (.leaf (.int k b))):=by exact rfl):aX P C n o s (s.putO o.dst (.t (.leaf (.int k (k.wrap (a-b)))))):=aX.subW ho hd hx hy
theorem gV{α:Type}[Inhabited α][TC α]{l:List α}{T E sz by_:Nat}{x i:Operand}{p:PV}{k:Nat}(h:k<l.length)(hT:elemOf? P T=some (E,sz,by_))(ho:o.op= .indexAddr T x i:=by exact rfl)(hd:bQ o.dst n=true:=by exact rfl)(hx:s.ev x=some p:=by exact rfl)(hp:mL p=some (sz,TC.trs l):=by exact rfl)(hi:s.ev i=some (.t (.leaf (.int .i64 (k:Int)))):=by exact rfl):aX P C n o s (s.putO o.dst (.eptr (TC.cs (aW l k)))):=aX.index ho hd hx hp hi (TC.at_ h) hT
theorem rIy{α:Type}[Inhabited α][TC α]{l:List α}{T E sz by_:Nat}{x i:Operand}{p:PV}{y:Int}(h:0≤y∧y.toNat<l.length)(hT:elemOf? P T=some (E,sz,by_))(ho:o.op= .indexAddr T x i:=by exact rfl)(hd:bQ o.dst n=true:=by exact rfl)(hx:s.ev x=some p:=by exact rfl)(hp:mL p=some (sz,TC.trs l):=by exact rfl)(hi:s.ev i=some (.t (.leaf (.int .i64 y))):=by exact rfl):aX P C n o s (s.putO o.dst (.eptr (TC.cs (aW l y.toNat)))):=aX.indexI ho hd hx hp hi h.1 (TC.at_ h.2) hT
theorem vT{α:Type}[Inhabited α][TC α]{l:List α}{T E sz by_:Nat}{x i:Operand}{p:PV}{k:Nat}{z:α}(hz:z=aW l k)(h:k<l.length)(hT:elemOf? P T=some (E,sz,by_))(ho:o.op= .indexAddr T x i:=by exact rfl)(hd:bQ o.dst n=true:=by exact rfl)(hx:s.ev x=some p:=by exact rfl)(hp:mL p=some (sz,TC.trs l):=by exact rfl)(hi:s.ev i=some (.t (.leaf (.int .i64 (k:Int)))):=by exact rfl):aX P C n o s (s.putO o.dst (.eptr (TC.cs z))):=by
 subst hz
 exact gV h hT ho hd hx hp hi
theorem rIm{α:Type}[Inhabited α][TC α]{l:List α}{T E sz by_:Nat}{x i:Operand}{p:PV}{y:Int}{z:α}(hz:z=aW l y.toNat)(h:0≤y∧y.toNat<l.length)(hT:elemOf? P T=some (E,sz,by_))(ho:o.op= .indexAddr T x i:=by exact rfl)(hd:bQ o.dst n=true:=by exact rfl)(hx:s.ev x=some p:=by exact rfl)(hp:mL p=some (sz,TC.trs l):=by exact rfl)(hi:s.ev i=some (.t (.leaf (.int .i64 y))):=by exact rfl):aX P C n o s (s.putO o.dst (.eptr (TC.cs z))):=by
 subst hz
 exact rIy h hT ho hd hx hp hi
theorem rF1{T:TypeId}{x:Operand}{f e z:Nat}{cs:List PV}{p:PV}(hf:rX P T f=some (e,false,z))(ho:o.op= .field T x f:=by exact rfl)(hd:bQ o.dst n=true:=by exact rfl)(hx:s.ev x=some (.agg cs):=by exact rfl)(hc:cs[e]?=some p:=by exact rfl):aX P C n o s (s.putO o.dst p):=aX.field1 ho hd hx hf hc
theorem uB{x:Operand}{i:Nat}{ps:List PV}{p:PV}(ho:o.op= .extract x i:=by exact rfl)(hd:bQ o.dst n=true:=by exact rfl)(hx:s.ev x=some (.tup ps):=by exact rfl)(hi:ps[i]?=some p:=by exact rfl):aX P C n o s (s.putO o.dst p):=aX.extract ho hd hx hi
theorem eU{T:TypeId}{parts:Array (Nat×Operand)}{ps:List (Nat×List PV)}{zs cs:List PV}{places:List (Nat×Nat)}(hz:cS P T=some zs)(hpl:fU P T=some places)(ho:o.op= .build T parts:=by exact rfl)(hd:bQ o.dst n=true:=by exact rfl)(hp:n7 s parts.toList=some ps:=by exact rfl)(hc:s9 (fun i=>places.toArray[i]?) zs ps=some cs:=by exact rfl):aX P C n o s (s.putO o.dst (.agg cs)):=aX.build ho hd hz hpl hp hc
theorem hH{α:Type}[Inhabited α][TC α]{T E by_ len:Nat}{parts:Array (Nat×Operand)}{ps:List (Nat×List PV)}{zs cs:List PV}(l:List α)(hT:elemOf? P T=some (E,TC.sz α,by_))(hz:cS P E=some zs)(ho:o.op= .buildSlice T len parts:=by exact rfl)(hd:bQ o.dst n=true:=by exact rfl)(hp:n7 s parts.toList=some ps:=by exact rfl)
 (hc:s9 (fun i=>some (i*TC.sz α,TC.sz α)) (List.replicate len zs).flatten ps=some cs:=by exact rfl) (hle:sG cs ((l.map TC.cs).flatten.map PV.t):=by exact kP) (hel:l.length=len:=by exact rfl) (hsz:0<TC.sz α:=by decide) (hzl:zs.length=TC.sz α:=by exact rfl) (hsm:len*TC.sz α≤16777216:=by decide):aX P C n o s (s.putO o.dst (.t (.row (TC.sz α) (TC.trs l)))):=
 aX.buildSliceE (es:=l.map TC.cs) ho hd hT hz hp hc hle (by rw [List.length_map];exact hel) (fun e he=>TC.all l e (by rw [TC.map];exact he)) hsz hzl hsm (TC.map l).symm
theorem tA{α:Type}[Inhabited α][TC α]{T E by_ len:Nat}{parts:Array (Nat×Operand)}{ps:List (Nat×List PV)}{zs cs:List PV}(l:List α)(hT:elemOf? P T=some (E,TC.sz α,by_))(hz:cS P E=some zs)(ho:o.op= .buildSlice T len parts:=by exact rfl)(hd:bQ o.dst n=true:=by exact rfl)(hp:n7 s parts.toList=some ps:=by exact rfl)
 (hc:s9 (fun i=>some (i*TC.sz α,TC.sz α)) (List.replicate len zs).flatten ps=some cs:=by exact rfl) (hle:sG cs ((l.map TC.cs).flatten.map PV.t):=by exact kP) (hel:l.length=len:=by exact rfl) (hsz:0<TC.sz α:=by decide) (hzl:zs.length=TC.sz α:=by exact rfl) (hsm:len*TC.sz α≤16777216:=by decide):aX P C n o s (s.putO o.dst (.lit (TC.sz α) (TC.trs l))):=
 aX.buildSliceLE (es:=l.map TC.cs) ho hd hT hz hp hc hle (by rw [List.length_map];exact hel) (fun e he=>TC.all l e (by rw [TC.map];exact he)) hsz hzl hsm (TC.map l).symm
theorem qZ{α:Type}[Inhabited α][TC α]{T E by_ len:Nat}{parts:Array (Nat×Operand)}{ps:List (Nat×List PV)}{zs cs:List PV}(l:List α)(hT:elemOf? P T=some (E,TC.sz α,by_))(hz:cS P E=some zs)(ho:o.op= .buildSlice T len parts:=by exact rfl)(hd:bQ o.dst n=true:=by exact rfl)(hp:n7 s parts.toList=some ps:=by exact rfl)
 (hc:s9 (fun i=>some (i*TC.sz α,TC.sz α)) (List.replicate len zs).flatten ps=some cs:=by exact rfl) (hle:sG cs ((l.map TC.cs).flatten.map PV.t):=by exact kP) (hel:l.length=len:=by exact rfl) (hsz:0<TC.sz α:=by decide) (hzl:zs.length=TC.sz α:=by exact rfl) (hsm:len*TC.sz α≤16777216:=by decide):aX P C n o s ((⟨s.env,s.st.addRow ⟨E,TC.sz α,TC.trs l,false⟩⟩:AS).putO o.dst (.acc (TC.sz α) (TC.trs l) s.st.rows.length)):=
 aX.buildSliceA (es:=l.map TC.cs) ho hd hT hz hp hc hle (by rw [List.length_map];exact hel) (fun e he=>TC.all l e (by rw [TC.map];exact he)) hsz hzl hsm (TC.map l).symm
theorem kX{α:Type}[Inhabited α][TC α]{T E by_:Nat}{x y:Operand}{a b:List α}{r:Nat}{row:pM}{p:PV}(h:a.length+b.length≤68719476736)(hT:elemOf? P T=some (E,TC.sz α,by_))(hz:(P.info? E).bind (fun i=>i.zero.map (fun z=>z.cells.size))=some (TC.sz α))(ho:o.op= .call { callee:= .builtin .append,args:= #[x,y],argTypes:= #[T,T] }:=by exact rfl)(hd:bQ o.dst n=true:=by exact rfl)
 (hx:s.ev x=some (.acc (TC.sz α) (TC.trs a) r):=by exact rfl) (hrow:s.st.rows[r]?=some row:=by exact rfl) (hes:row.es=TC.trs a:=by exact rfl) (hE:row.E=E:=by exact rfl) (hw:row.whole=false:=by exact rfl) (hy:s.ev y=some p:=by exact rfl) (hp:mL p=some (TC.sz α,TC.trs b):=by exact rfl)
 (hb:0<by_:=by decide) (hb2:by_≤2048:=by decide):aX P C n o s ((⟨s.env,s.st.setRow r { row with es:=TC.trs (a++b) }⟩:AS).putO o.dst (.acc (TC.sz α) (TC.trs (a++b)) r)):=
 aX.appendE ho hd hx hrow hes hE hw hy hp (TC.all b) hT hz hb (by rw [TC.len,TC.len];exact yL h hb2) (TC.app a b)
theorem rMf{f:FuncId}{cap:Array Operand}{ps:List PV}(ho:o.op= .makeFunc (.func f) #[] cap:=by exact rfl)(hd:bQ o.dst n=true:=by exact rfl)(hc:evA s cap.toList=some ps:=by exact rfl):aX P C n o s (s.putO o.dst (.fn f ps)):=aX.makeFunc ho hd (JU hc)
theorem pT{x:Operand}{k d:Nat}(ho:o.op= .nilCheck x:=by exact rfl)(hd:bQ o.dst n=true:=by exact rfl)(hx:s.ev x=some (.ptr k d):=by exact rfl):aX P C n o s (s.putO o.dst (.ptr k d)):=aX.nilPtr ho hd hx
theorem bS{x y z:Operand}{b:Bool}{p:PV}(hb:b=true)(ho:o.op= .pick x y z:=by exact rfl)(hd:bQ o.dst n=true:=by exact rfl)(hx:s.ev x=some (.t (.leaf (.bool b))):=by exact rfl)(hy:s.ev y=some p:=by exact rfl):aX P C n o s (s.putO o.dst p):=aX.pickT ho hd hx hb hy
theorem b6{x y z:Operand}{b:Bool}{p:PV}(hb:b=false)(ho:o.op= .pick x y z:=by exact rfl)(hd:bQ o.dst n=true:=by exact rfl)(hx:s.ev x=some (.t (.leaf (.bool b))):=by exact rfl)(hy:s.ev z=some p:=by exact rfl):aX P C n o s (s.putO o.dst p):=aX.pickF ho hd hx hb hy
theorem bG{f:FuncId}{fn:Func}{xs:List Operand}{ts:Array TypeId}{ps qs:List PV}{res:PV}(hf:P.funcs[f]?=some fn)(hc:b4 P f qs res)(ho:o.op= .call { callee:= .value (.func f),args:=⟨xs⟩,argTypes:=ts }:=by exact rfl)(hd:bQ o.dst n=true:=by exact rfl)(hnm:(fn.name== "runtime.NumGoroutine")=false:=by kernel_rfl)(hb:fn.body.isNone=false:=by exact rfl)
 (hx:evA s xs=some ps:=by exact rfl) (hle:sG ps qs:=by exact kP) (h1:jX qs=true:=by exact rfl) (h2:PV.free res=true:=by exact rfl):aX P C n o s (s.putO o.dst res):=aX.callF ho hd hf hnm hb (JU hx) hle h1 h2 hc
theorem rCv{y:Operand}{f:FuncId}{fn:Func}{xs:List Operand}{ts:Array TypeId}{ps cs qs:List PV}{res:PV}(hf:P.funcs[f]?=some fn)(hc:b4 P f qs res)(ho:o.op= .call { callee:= .value y,args:=⟨xs⟩,argTypes:=ts }:=by exact rfl)(hd:bQ o.dst n=true:=by exact rfl)(hy:s.ev y=some (.fn f cs):=by exact rfl)(hnm:(fn.name== "runtime.NumGoroutine")=false:=by kernel_rfl)(hb:fn.body.isNone=false:=by exact rfl)
 (hx:evA s xs=some ps:=by exact rfl) (hle:sG (ps++cs) qs:=by exact kP) (h1:jX qs=true:=by exact rfl) (h2:PV.free res=true:=by exact rfl):aX P C n o s (s.putO o.dst res):=aX.callV ho hd hy hf hnm hb (JU hx) hle h1 h2 hc
theorem aoT{S pre:cY}{fb fr:List Nat}(hb:pO S fb fr pre fb pre.boxes:=by repeat' (first|exact trivial|refine⟨⟨_,rfl,rfl,kP,rfl⟩,?_⟩))(hr:sI S fr pre.rows:=by repeat' (first|exact trivial|refine⟨rfl,?_⟩))(h1:fb.Nodup:=by decide)(h2:fr.Nodup:=by decide):mD S pre fb fr:=mD.of hb hr h1 h2
theorem fM{f:FuncId}{fn:Func}{xs:List Operand}{ts:Array TypeId}{ps qs:List PV}{res:PV}{pre st':cY}(fb fr:List Nat)(hf:P.funcs[f]?=some fn)(hc:cP P f qs pre (fun r t=>r=res∧t=st'))(ho:o.op= .call { callee:= .value (.func f),args:=⟨xs⟩,argTypes:=ts }:=by exact rfl)(hd:bQ o.dst n=true:=by exact rfl)(hnm:(fn.name== "runtime.NumGoroutine")=false:=by kernel_rfl)(hb:fn.body.isNone=false:=by exact rfl)
 (hx:evA s xs=some ps:=by exact rfl) (hp:mD s.st pre fb fr:=by exact aoT) (hle:sG ps (BN fb fr qs):=by exact kP) (hok:l9 pre qs=true:=by exact rfl) (hbl:st'.boxes.length=pre.boxes.length:=by exact rfl) (hrl:st'.rows.length=pre.rows.length:=by exact rfl):aX P C n o s ((⟨s.env,s.st.over st' fb fr⟩:AS).putO o.dst (PV.ren fb fr res)):=aX.callPE fb fr ho hd hf hnm hb (JU hx) rfl hp hle hok hbl hrl hc
end
theorem dne{x a b:Int}(h:decide (x=a)=true)(hab:a≠b):decide (x=b)=false:=by
 rw [of_decide_eq_true h]
 exact decide_eq_false hab
theorem ag3{x b:Int}(h:(decide (x=2)||decide (x=3))=true)(h2:2≠b)(h3:3≠b):decide (x=b)=false:=by
 rw [Bool.or_eq_true,decide_eq_true_eq,decide_eq_true_eq] at h
 refine decide_eq_false fun e=>?_
 omega
theorem am3{x:Int}(h:(decide (x=2)||decide (x=3))=true)(h2:decide (x=2)=false):decide (x=3)=true:=by
 rw [h2,Bool.false_or] at h
 exact h
theorem aoQ{x:Int}(h:(decide (x=2)||decide (x=3))=false):decide (x=2)=false:=(Bool.or_eq_false_iff.1 h).1
theorem aoR{x:Int}(h:(decide (x=2)||decide (x=3))=false):decide (x=3)=false:=(Bool.or_eq_false_iff.1 h).2
theorem aX.appendLitBE{P:Program}{C:qB}{n:Nat}{s:AS}{o:Oper}{T E sz by_:Nat}{x y:Operand}{es1 es2 es3:List (List Tr)}{cs:List PV}{p:PV}{len:Nat}(ho:o.op= .call { callee:= .builtin .append,args:= #[x,y],argTypes:= #[T,T] })(hd:bQ o.dst n=true)
 (hx:s.ev x=some (.lit sz es1)) (hy:s.ev y=some p) (hp:mL p=some (sz,es2)) (h1: ∀e∈es1,e.length=sz) (h2: ∀e∈es2,e.length=sz) (hne:es2≠ []) (hsz:0<sz)
 (hT:elemOf? P T=some (E,sz,by_)) (hz:(P.info? E).bind (fun i=>i.zero.map (fun z=>z.cells.size))=some sz) (hb:0<by_) (hlen:(es1.length+es2.length)*by_≤140737488355328) (h3:es1++es2=es3) (hcs:es3.flatten.map PV.t=cs) (hl:es1.length+es2.length=len):
 aX P C n o s ((⟨s.env,s.st.addBox ⟨E,cs⟩⟩:AS).putO o.dst (.gsl s.st.boxes.length len)):=aX.appendLitB ho hd hx hy hp h1 h2 hne hsz hT hz hb hlen (by rw [h3];exact hcs) hl
end Go.Proofs.YtpioomclpaiomaaGreat
