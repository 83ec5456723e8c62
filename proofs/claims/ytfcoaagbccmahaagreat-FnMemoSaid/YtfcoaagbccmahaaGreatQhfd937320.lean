/- Words, rules and walks of several kinds, laid together: PmD, PmX, PmY, PmZ, PmW, PmV, PmN, PmO, PmDS, PmK, PmM, PmU, Pq0, PmT, PmR, PmBool, Pma, PmF, PmS, PmEq, PmaB, PmG, Pg, Ph, Pq. No conditions but those that each theorem states. -/
import Derived.Test.YtfcoaagbccmahaaGreatQhb99b45eb
import Derived.Test.YtfcoaagbccmahaaGreatProg
import Derived.Laws.MakeOwn
set_option linter.unusedSimpArgs false
set_option linter.unusedVariables false
namespace Go.Proofs.YtfcoaagbccmahaaGreat
open Go.RowKit
theorem sH.refl: ∀ps:List PV,sH ps ps
 | []=> .nil
 |p::ps=> .cons (.refl p) (sH.refl ps)
theorem aaE{l:List ByteArray}{k:Nat}(h:k<l.length):(aY l)[k]?=some [.leaf (.string l[k])]:=aj2 h
theorem al0{l:List Int}{k:Nat}(h:k<l.length):(d9 l)[k]?=some [.leaf (.int .i64 l[k])]:=VI h
def aF.cs(x:aF):List Tr:= [.leaf (.int .i64 x.aBD),.leaf (.int .i64 x.aBS)]
def aF.pv(x:aF):PV:= .agg [.t (.leaf (.int .i64 x.aBD)),.t (.leaf (.int .i64 x.aBS))]
theorem aF.tr_cs(x:aF):x.tr=x.cs:=by
 obtain⟨v0,v1⟩:=x
 simp [aF.tr,aF.cs]
theorem aF.trs_cs{l:List aF}{k:Nat}(h:k<l.length):(aF.trs l)[k]?=some (l[k]).cs:=by rw [← aF.tr_cs];exact aF.trs_get h
def aB.cs(x:aB):List Tr:= [.leaf (.string x.aBy),.row 2 (aB.trs (x.aBv))]
def aB.pv(x:aB):PV:= .agg [.t (.leaf (.string x.aBy)),.t (.row 2 (aB.trs (x.aBv)))]
theorem aB.tr_cs(x:aB):x.tr=x.cs:=by
 obtain⟨v0,v1⟩:=x
 simp [aB.tr,aB.cs]
theorem aB.trs_cs{l:List aB}{k:Nat}(h:k<l.length):(aB.trs l)[k]?=some (l[k]).cs:=by rw [← aB.tr_cs];exact aB.trs_get h
def aA.cs(x:aA):List Tr:= [.leaf (.int .i64 x.aBw),.leaf (.string x.aBs),.row 3 (aA.trs (x.aBt))]
def aA.pv(x:aA):PV:= .agg [.t (.leaf (.int .i64 x.aBw)),.t (.leaf (.string x.aBs)),.t (.row 3 (aA.trs (x.aBt)))]
theorem aA.tr_cs(x:aA):x.tr=x.cs:=by
 obtain⟨v0,v1,v2⟩:=x
 simp [aA.tr,aA.cs]
theorem aA.trs_cs{l:List aA}{k:Nat}(h:k<l.length):(aA.trs l)[k]?=some (l[k]).cs:=by rw [← aA.tr_cs];exact aA.trs_get h
def aJ.cs(x:aJ):List Tr:= [.leaf (.string x.aB9),.leaf (.int .i64 x.aBu.aBw),.leaf (.string x.aBu.aBs),.row 3 (aA.trs (x.aBu.aBt))]
theorem aJ.tr_cs(x:aJ):x.tr=x.cs:=by
 obtain⟨v0,v1⟩:=x
 simp [aJ.tr,aJ.cs,aA.tr_cs,aA.cs]
theorem aJ.trs_cs{l:List aJ}{k:Nat}(h:k<l.length):(aJ.trs l)[k]?=some (l[k]).cs:=by rw [← aJ.tr_cs];exact aJ.trs_get h
def aM.cs(x:aM):List Tr:= [.leaf (.int .i64 x.aBw),.leaf (.string x.aBz),.leaf (.string x.aBs),.leaf (.int .i64 x.aCa),.leaf (.int .i64 x.aBu.aBw),.leaf (.string x.aBu.aBs),.row 3 (aA.trs (x.aBu.aBt)),.row 9 (aM.trs (x.aBt)),.row 11 (bV.trs (x.aBN))]
def aM.pv(x:aM):PV:= .agg [.t (.leaf (.int .i64 x.aBw)),.t (.leaf (.string x.aBz)),.t (.leaf (.string x.aBs)),.t (.leaf (.int .i64 x.aCa)),.t (.leaf (.int .i64 x.aBu.aBw)),.t (.leaf (.string x.aBu.aBs)),.t (.row 3 (aA.trs (x.aBu.aBt))),.t (.row 9 (aM.trs (x.aBt))),.t (.row 11 (bV.trs (x.aBN)))]
theorem aM.tr_cs(x:aM):x.tr=x.cs:=by
 obtain⟨v0,v1,v2,v3,v4,v5,v6⟩:=x
 simp [aM.tr,aM.cs,aA.tr_cs,aA.cs]
theorem aM.trs_cs{l:List aM}{k:Nat}(h:k<l.length):(aM.trs l)[k]?=some (l[k]).cs:=by rw [← aM.tr_cs];exact aM.trs_get h
def bV.cs(x:bV):List Tr:= [.leaf (.string x.aBU),.row 1 (aY (x.aBF)),.leaf (.int .i64 x.aBC.aBw),.leaf (.string x.aBC.aBz),.leaf (.string x.aBC.aBs),.leaf (.int .i64 x.aBC.aCa),.leaf (.int .i64 x.aBC.aBu.aBw),.leaf (.string x.aBC.aBu.aBs),.row 3 (aA.trs (x.aBC.aBu.aBt)),.row 9 (aM.trs (x.aBC.aBt)),.row 11 (bV.trs (x.aBC.aBN))]
def bV.pv(x:bV):PV:= .agg [.t (.leaf (.string x.aBU)),.t (.row 1 (aY (x.aBF))),.t (.leaf (.int .i64 x.aBC.aBw)),.t (.leaf (.string x.aBC.aBz)),.t (.leaf (.string x.aBC.aBs)),.t (.leaf (.int .i64 x.aBC.aCa)),.t (.leaf (.int .i64 x.aBC.aBu.aBw)),.t (.leaf (.string x.aBC.aBu.aBs)),.t (.row 3 (aA.trs (x.aBC.aBu.aBt))),.t (.row 9 (aM.trs (x.aBC.aBt))),.t (.row 11 (bV.trs (x.aBC.aBN)))]
theorem bV.tr_cs(x:bV):x.tr=x.cs:=by
 obtain⟨v0,v1,v2⟩:=x
 simp [bV.tr,bV.cs,aM.tr_cs,aM.cs]
theorem bV.trs_cs{l:List bV}{k:Nat}(h:k<l.length):(bV.trs l)[k]?=some (l[k]).cs:=by rw [← bV.tr_cs];exact bV.trs_get h
def aG.cs(x:aG):List Tr:= [.leaf (.string x.aBs),.row 3 (aA.trs (x.aBL)),.leaf (.int .i64 x.aBJ.aBw),.leaf (.string x.aBJ.aBs),.row 3 (aA.trs (x.aBJ.aBt)),.leaf (.bool x.aB3),.row 1 (aY (x.aBF)),.leaf (.int .i64 x.aBC.aBw),.leaf (.string x.aBC.aBz),.leaf (.string x.aBC.aBs),.leaf (.int .i64 x.aBC.aCa),.leaf (.int .i64 x.aBC.aBu.aBw),.leaf (.string x.aBC.aBu.aBs),.row 3 (aA.trs (x.aBC.aBu.aBt)),.row 9 (aM.trs (x.aBC.aBt)),.row 11 (bV.trs (x.aBC.aBN))]
def aG.pv(x:aG):PV:= .agg [.t (.leaf (.string x.aBs)),.t (.row 3 (aA.trs (x.aBL))),.t (.leaf (.int .i64 x.aBJ.aBw)),.t (.leaf (.string x.aBJ.aBs)),.t (.row 3 (aA.trs (x.aBJ.aBt))),.t (.leaf (.bool x.aB3)),.t (.row 1 (aY (x.aBF))),.t (.leaf (.int .i64 x.aBC.aBw)),.t (.leaf (.string x.aBC.aBz)),.t (.leaf (.string x.aBC.aBs)),.t (.leaf (.int .i64 x.aBC.aCa)),.t (.leaf (.int .i64 x.aBC.aBu.aBw)),.t (.leaf (.string x.aBC.aBu.aBs)),.t (.row 3 (aA.trs (x.aBC.aBu.aBt))),.t (.row 9 (aM.trs (x.aBC.aBt))),.t (.row 11 (bV.trs (x.aBC.aBN)))]
theorem aG.tr_cs(x:aG):x.tr=x.cs:=by
 obtain⟨v0,v1,v2,v3,v4,v5⟩:=x
 simp [aG.tr,aG.cs,aA.tr_cs,aA.cs,aM.tr_cs,aM.cs]
theorem aG.trs_cs{l:List aG}{k:Nat}(h:k<l.length):(aG.trs l)[k]?=some (l[k]).cs:=by rw [← aG.tr_cs];exact aG.trs_get h
def aV.cs(x:aV):List Tr:= [.leaf (.string x.aBs),.row 1 (aY (x.aBB)),.leaf (.bool x.aB1),.leaf (.bool x.aBR),.row 16 (aG.trs (x.aBP))]
def aV.pv(x:aV):PV:= .agg [.t (.leaf (.string x.aBs)),.t (.row 1 (aY (x.aBB))),.t (.leaf (.bool x.aB1)),.t (.leaf (.bool x.aBR)),.t (.row 16 (aG.trs (x.aBP)))]
theorem aV.tr_cs(x:aV):x.tr=x.cs:=by
 obtain⟨v0,v1,v2,v3,v4⟩:=x
 simp [aV.tr,aV.cs]
theorem aV.trs_cs{l:List aV}{k:Nat}(h:k<l.length):(aV.trs l)[k]?=some (l[k]).cs:=by rw [← aV.tr_cs];exact aV.trs_get h
def aE.cs(x:aE):List Tr:= [.leaf (.string x.aBs),.row 3 (aA.trs (x.aBM))]
def aE.pv(x:aE):PV:= .agg [.t (.leaf (.string x.aBs)),.t (.row 3 (aA.trs (x.aBM)))]
theorem aE.tr_cs(x:aE):x.tr=x.cs:=by
 obtain⟨v0,v1⟩:=x
 simp [aE.tr,aE.cs]
theorem aE.trs_cs{l:List aE}{k:Nat}(h:k<l.length):(aE.trs l)[k]?=some (l[k]).cs:=by rw [← aE.tr_cs];exact aE.trs_get h
def aO.cs(x:aO):List Tr:= [.leaf (.string x.aBs),.row 1 (aY (x.aBF)),.row 2 (aE.trs (x.aBx))]
def aO.pv(x:aO):PV:= .agg [.t (.leaf (.string x.aBs)),.t (.row 1 (aY (x.aBF))),.t (.row 2 (aE.trs (x.aBx)))]
theorem aO.tr_cs(x:aO):x.tr=x.cs:=by
 obtain⟨v0,v1,v2⟩:=x
 simp [aO.tr,aO.cs]
theorem aO.trs_cs{l:List aO}{k:Nat}(h:k<l.length):(aO.trs l)[k]?=some (l[k]).cs:=by rw [← aO.tr_cs];exact aO.trs_get h
def aD.cs(x:aD):List Tr:= [.leaf (.string x.aBz),.leaf (.int .i64 x.aBu.aBw),.leaf (.string x.aBu.aBs),.row 3 (aA.trs (x.aBu.aBt))]
def aD.pv(x:aD):PV:= .agg [.t (.leaf (.string x.aBz)),.t (.leaf (.int .i64 x.aBu.aBw)),.t (.leaf (.string x.aBu.aBs)),.t (.row 3 (aA.trs (x.aBu.aBt)))]
theorem aD.tr_cs(x:aD):x.tr=x.cs:=by
 obtain⟨v0,v1⟩:=x
 simp [aD.tr,aD.cs,aA.tr_cs,aA.cs]
theorem aD.trs_cs{l:List aD}{k:Nat}(h:k<l.length):(aD.trs l)[k]?=some (l[k]).cs:=by rw [← aD.tr_cs];exact aD.trs_get h
def aQ.cs(x:aQ):List Tr:= [.leaf (.string x.aBs),.row 1 (aY (x.aBF)),.leaf (.int .i64 x.aBC.aBw),.leaf (.string x.aBC.aBz),.leaf (.string x.aBC.aBs),.leaf (.int .i64 x.aBC.aCa),.leaf (.int .i64 x.aBC.aBu.aBw),.leaf (.string x.aBC.aBu.aBs),.row 3 (aA.trs (x.aBC.aBu.aBt)),.row 9 (aM.trs (x.aBC.aBt)),.row 11 (bV.trs (x.aBC.aBN))]
theorem aQ.tr_cs(x:aQ):x.tr=x.cs:=by
 obtain⟨v0,v1,v2⟩:=x
 simp [aQ.tr,aQ.cs,aM.tr_cs,aM.cs]
theorem aQ.trs_cs{l:List aQ}{k:Nat}(h:k<l.length):(aQ.trs l)[k]?=some (l[k]).cs:=by rw [← aQ.tr_cs];exact aQ.trs_get h
def aL.cs(x:aL):List Tr:= [.leaf (.string x.aBz),.row 1 (aY (x.aBF)),.leaf (.int .i64 x.aBH.aBw),.leaf (.string x.aBH.aBs),.row 3 (aA.trs (x.aBH.aBt)),.row 4 (aD.trs (x.aBK)),.leaf (.bool x.aBX),.leaf (.bool x.aB4),.leaf (.int .i64 x.aBR.aBw),.leaf (.string x.aBR.aBs),.row 3 (aA.trs (x.aBR.aBt)),.row 11 (aQ.trs (x.aBW))]
def aL.pv(x:aL):PV:= .agg [.t (.leaf (.string x.aBz)),.t (.row 1 (aY (x.aBF))),.t (.leaf (.int .i64 x.aBH.aBw)),.t (.leaf (.string x.aBH.aBs)),.t (.row 3 (aA.trs (x.aBH.aBt))),.t (.row 4 (aD.trs (x.aBK))),.t (.leaf (.bool x.aBX)),.t (.leaf (.bool x.aB4)),.t (.leaf (.int .i64 x.aBR.aBw)),.t (.leaf (.string x.aBR.aBs)),.t (.row 3 (aA.trs (x.aBR.aBt))),.t (.row 11 (aQ.trs (x.aBW)))]
theorem aL.tr_cs(x:aL):x.tr=x.cs:=by
 obtain⟨v0,v1,v2,v3,v4,v5,v6,v7⟩:=x
 simp [aL.tr,aL.cs,aA.tr_cs,aA.cs]
theorem aL.trs_cs{l:List aL}{k:Nat}(h:k<l.length):(aL.trs l)[k]?=some (l[k]).cs:=by rw [← aL.tr_cs];exact aL.trs_get h
def aW.cs(x:aW):List Tr:= [.leaf (.string x.aBs),.leaf (.int .i64 x.aBu.aBw),.leaf (.string x.aBu.aBs),.row 3 (aA.trs (x.aBu.aBt))]
theorem aW.tr_cs(x:aW):x.tr=x.cs:=by
 obtain⟨v0,v1⟩:=x
 simp [aW.tr,aW.cs,aA.tr_cs,aA.cs]
theorem aW.trs_cs{l:List aW}{k:Nat}(h:k<l.length):(aW.trs l)[k]?=some (l[k]).cs:=by rw [← aW.tr_cs];exact aW.trs_get h
def aP.cs(x:aP):List Tr:= [.leaf (.string x.aBs),.row 1 (aY (x.aBF)),.row 4 (aD.trs (x.aBK)),.row 4 (aW.trs (x.aBL)),.leaf (.int .i64 x.aBJ.aBw),.leaf (.string x.aBJ.aBs),.row 3 (aA.trs (x.aBJ.aBt)),.leaf (.int .i64 x.aBC.aBw),.leaf (.string x.aBC.aBz),.leaf (.string x.aBC.aBs),.leaf (.int .i64 x.aBC.aCa),.leaf (.int .i64 x.aBC.aBu.aBw),.leaf (.string x.aBC.aBu.aBs),.row 3 (aA.trs (x.aBC.aBu.aBt)),.row 9 (aM.trs (x.aBC.aBt)),.row 11 (bV.trs (x.aBC.aBN))]
def aP.pv(x:aP):PV:= .agg [.t (.leaf (.string x.aBs)),.t (.row 1 (aY (x.aBF))),.t (.row 4 (aD.trs (x.aBK))),.t (.row 4 (aW.trs (x.aBL))),.t (.leaf (.int .i64 x.aBJ.aBw)),.t (.leaf (.string x.aBJ.aBs)),.t (.row 3 (aA.trs (x.aBJ.aBt))),.t (.leaf (.int .i64 x.aBC.aBw)),.t (.leaf (.string x.aBC.aBz)),.t (.leaf (.string x.aBC.aBs)),.t (.leaf (.int .i64 x.aBC.aCa)),.t (.leaf (.int .i64 x.aBC.aBu.aBw)),.t (.leaf (.string x.aBC.aBu.aBs)),.t (.row 3 (aA.trs (x.aBC.aBu.aBt))),.t (.row 9 (aM.trs (x.aBC.aBt))),.t (.row 11 (bV.trs (x.aBC.aBN)))]
theorem aP.tr_cs(x:aP):x.tr=x.cs:=by
 obtain⟨v0,v1,v2,v3,v4,v5⟩:=x
 simp [aP.tr,aP.cs,aA.tr_cs,aA.cs,aM.tr_cs,aM.cs]
theorem aP.trs_cs{l:List aP}{k:Nat}(h:k<l.length):(aP.trs l)[k]?=some (l[k]).cs:=by rw [← aP.tr_cs];exact aP.trs_get h
def aN.cs(x:aN):List Tr:= [.leaf (.string x.aBs),.row 1 (aY (x.aB6)),.row 5 (aV.trs (x.aBI)),.row 3 (aO.trs (x.aBA)),.row 12 (aL.trs (x.aBE)),.row 16 (aP.trs (x.aBT))]
def aN.pv(x:aN):PV:= .agg [.t (.leaf (.string x.aBs)),.t (.row 1 (aY (x.aB6))),.t (.row 5 (aV.trs (x.aBI))),.t (.row 3 (aO.trs (x.aBA))),.t (.row 12 (aL.trs (x.aBE))),.t (.row 16 (aP.trs (x.aBT)))]
theorem aN.tr_cs(x:aN):x.tr=x.cs:=by
 obtain⟨v0,v1,v2,v3,v4,v5⟩:=x
 simp [aN.tr,aN.cs]
theorem aN.trs_cs{l:List aN}{k:Nat}(h:k<l.length):(aN.trs l)[k]?=some (l[k]).cs:=by rw [← aN.tr_cs];exact aN.trs_get h
def aH.cs(x:aH):List Tr:= [.row 6 (aN.trs (x.aBr))]
def aH.pv(x:aH):PV:= .agg [.t (.row 6 (aN.trs (x.aBr)))]
theorem aH.tr_cs(x:aH):x.tr=x.cs:=by
 obtain⟨v0⟩:=x
 simp [aH.tr,aH.cs]
theorem aH.trs_cs{l:List aH}{k:Nat}(h:k<l.length):(aH.trs l)[k]?=some (l[k]).cs:=by rw [← aH.tr_cs];exact aH.trs_get h
def aC.cs(x:aC):List Tr:= [.leaf (.int .i64 x.aBw),.leaf (.int .i64 x.aCa),.leaf (.int .i64 x.aBS.aBD),.leaf (.int .i64 x.aBS.aBS),.row 5 (aC.trs (x.aBt))]
def aC.pv(x:aC):PV:= .agg [.t (.leaf (.int .i64 x.aBw)),.t (.leaf (.int .i64 x.aCa)),.t (.leaf (.int .i64 x.aBS.aBD)),.t (.leaf (.int .i64 x.aBS.aBS)),.t (.row 5 (aC.trs (x.aBt)))]
theorem aC.tr_cs(x:aC):x.tr=x.cs:=by
 obtain⟨v0,v1,v2,v3⟩:=x
 simp [aC.tr,aC.cs,aF.tr_cs,aF.cs]
theorem aC.trs_cs{l:List aC}{k:Nat}(h:k<l.length):(aC.trs l)[k]?=some (l[k]).cs:=by rw [← aC.tr_cs];exact aC.trs_get h
def aK.cs(x:aK):List Tr:= [.leaf (.string x.aBZ.aBz),.leaf (.int .i64 x.aBZ.aBu.aBw),.leaf (.string x.aBZ.aBu.aBs),.row 3 (aA.trs (x.aBZ.aBu.aBt)),.leaf (.int .i64 x.aB7),.row 1 (d9 (x.aB8))]
def aK.pv(x:aK):PV:= .agg [.t (.leaf (.string x.aBZ.aBz)),.t (.leaf (.int .i64 x.aBZ.aBu.aBw)),.t (.leaf (.string x.aBZ.aBu.aBs)),.t (.row 3 (aA.trs (x.aBZ.aBu.aBt))),.t (.leaf (.int .i64 x.aB7)),.t (.row 1 (d9 (x.aB8)))]
theorem aK.tr_cs(x:aK):x.tr=x.cs:=by
 obtain⟨v0,v1,v2⟩:=x
 simp [aK.tr,aK.cs,aD.tr_cs,aD.cs]
theorem aK.trs_cs{l:List aK}{k:Nat}(h:k<l.length):(aK.trs l)[k]?=some (l[k]).cs:=by rw [← aK.tr_cs];exact aK.trs_get h
def bC.cs(x:bC):List Tr:= [.row 4 (aD.trs (x.aBO)),.row 1 (d9 (x.aBQ)),.row 5 (aC.trs (x.aBG))]
def bC.pv(x:bC):PV:= .agg [.t (.row 4 (aD.trs (x.aBO))),.t (.row 1 (d9 (x.aBQ))),.t (.row 5 (aC.trs (x.aBG)))]
theorem bC.tr_cs(x:bC):x.tr=x.cs:=by
 obtain⟨v0,v1,v2⟩:=x
 simp [bC.tr,bC.cs]
theorem bC.trs_cs{l:List bC}{k:Nat}(h:k<l.length):(bC.trs l)[k]?=some (l[k]).cs:=by rw [← bC.tr_cs];exact bC.trs_get h
def bP.cs(x:bP):List Tr:= [.row 6 (aN.trs (x.aCc.aBr)),.row 6 (aK.trs (x.aBV))]
theorem bP.tr_cs(x:bP):x.tr=x.cs:=by
 obtain⟨v0,v1⟩:=x
 simp [bP.tr,bP.cs,aH.tr_cs,aH.cs]
theorem bP.trs_cs{l:List bP}{k:Nat}(h:k<l.length):(bP.trs l)[k]?=some (l[k]).cs:=by rw [← bP.tr_cs];exact bP.trs_get h
end Go.Proofs.YtfcoaagbccmahaaGreat

namespace Go.Proofs.YtfcoaagbccmahaaGreat
open Go.RowKit Go.WalkArith Go.IntWalk Go.WideShapes
section
variable {P:Program} {C:nR} {n:Nat} {s:AS} {Q:Exit→AS→Prop} {o:Oper} {ops:Array Oper} {rest:List Oper}
theorem AL.splitB(d:Nat){b:Bool}{l:List Oper}(_hb:s.lk d=some (.t (.leaf (.bool b))))(h1:b=true→AL P C n ops l Q s)(h2:b=false→AL P C n ops l Q s):AL P C n ops l Q s:=by
 cases b
 ·exact h2 rfl
 ·exact h1 rfl
theorem AL.cons_gv{s1:AS}{j d:Nat}{b c:Bool}(hg:o.guard=some (j,c))(hj:(ops[j]?).bind (·.dst)=some d)(hb:s.lk d=some (.t (.leaf (.bool b))))(hv:b=c)(ho:bD P C n o s s1)(h:AL P C n ops rest Q s1):AL P C n ops (o::rest) Q s:=by
 subst hv
 exact AL.cons_g hg hj hb ho h
theorem AL.skip_v{j d:Nat}{b c e:Bool}(hg:o.guard=some (j,c))(hj:(ops[j]?).bind (·.dst)=some d)(hb:s.lk d=some (.t (.leaf (.bool b))))(hv:b=e)(hne:(e==c)=false)(h:AL P C n ops rest Q (s.delO o.dst)):AL P C n ops (o::rest) Q s:=by
 subst hv
 exact AL.skip hg hj hb hne h
theorem bD.pickT{x y z:Operand}{b:Bool}{p:PV}(ho:o.op= .pick x y z)(hd:bJ o.dst n=true)(hx:s.ev x=some (.t (.leaf (.bool b))))(hb:b=true)(hy:s.ev y=some p):bD P C n o s (s.putO o.dst p):=
 bD.pick ho hd hx (fun _=>hy) (q:=p) (fun h=>by rw [hb] at h;cases h)
theorem bD.pickF{x y z:Operand}{b:Bool}{p:PV}(ho:o.op= .pick x y z)(hd:bJ o.dst n=true)(hx:s.ev x=some (.t (.leaf (.bool b))))(hb:b=false)(hz:s.ev z=some p):bD P C n o s (s.putO o.dst p):=
 bD.pick ho hd hx (fun h=>by rw [hb] at h;cases h) (q:=p) (fun _=>hz)
theorem bD.lenN{T:TypeId}{x:Operand}{p:PV}{sz N:Nat}{es:List (List Tr)}{E:Nat×Nat×Nat}(ho:o.op= .call { callee:= .builtin .len,args:= #[x],argTypes:= #[T] })(hd:bJ o.dst n=true)(hx:s.ev x=some p)(hp:lB p=some (sz,es))(hT:elemOf? P T=some E)(hl:es.length=N):
 bD P C n o s (s.putO o.dst (.t (.leaf (.int .i64 (N:Int))))):=by
 subst hl
 exact bD.len (ty:=0) ho hd hx hp hT
theorem abH(i:Nat){p:PV}{sz N:Nat}{es:List (List Tr)}(hx:s.lk i=some p)(hp:lB p=some (sz,es))(hl:es.length=N): ∀m a w,RA C n s m a w→N≤9223372036854775807:=by
 subst hl
 exact aqT i hx hp
theorem ZQ{st':c4}(h:C.st=⟨[],[]⟩):jS C.st st':=by rw [h];exact jS.nil
end
theorem zT{a b:Nat}(h:decide ((a:Int)<(b:Int))=true):a<b:=by
 have:=of_decide_eq_true h
 omega
theorem al9{a b:Nat}(h:decide ((a:Int)<(b:Int))=false):b≤a:=by
 have:=of_decide_eq_false h
 omega
end Go.Proofs.YtfcoaagbccmahaaGreat

namespace Go.Proofs.YtfcoaagbccmahaaGreat
open Go.RowKit Go.WalkArith Go.IntWalk Go.WideShapes
section
variable {P:Program} {C:nR} {n:Nat} {s:AS} {Q:Exit→AS→Prop} {o:Oper}
theorem bD.congr{s1 s2:AS}(h:bD P C n o s s1)(e:s1=s2):bD P C n o s s2:=e ▸ h
theorem bD.quietX{p:PV}(hd:bJ o.dst n=true)(h: ∀m a w,RA C n s m a w→ ∃v w1,(execOp a.eval o).run P w= .ok (.value v) w1∧uB w w1∧RV (kJ C.av s.st m) s.st m w1 p v):bD P C n o s (s.putO o.dst p):=
 bD.run hd (s1:=s) (fun m a w hr=>by
  obtain⟨v,w1,h1,h2,h3⟩:=h m a w hr
  exact⟨v,m,w1,h1,Ev.later h2,hr.sto.later h2,h3⟩) rfl
theorem bD.buildSlice_run{T E sz by_ len:Nat}{parts:Array (Nat×Operand)}{ps:List (Nat×List PV)}{zs cs:List PV}(ho:o.op= .buildSlice T len parts)(hT:elemOf? P T=some (E,sz,by_))(hz:gR P E=some zs)(hp:l5 s parts.toList=some ps)
 (hc:sG (fun i=>some (i*sz,sz)) (List.replicate len zs).flatten ps=some cs) (hcl:cs.length=len*sz) (hsz:0<sz) (hzl:zs.length=sz) (hsm:len*sz≤16777216) {m:jP} {a:Act} {w:World} (h:RA C n s m a w):
 ∃us,(execOp a.eval o).run P w= .ok (.value (.slice (some ⟨w.heap.size,0,none⟩) len len)) (w.alloc (.cells ⟨us⟩ E))∧f6 (kJ C.av s.st m) s.st m w cs us∧len≤maxLen:=by
 obtain⟨i,hu,hi,hs,hby⟩:=elemOf?.spec hT
 obtain⟨i',z,hi',hzz,hr⟩:=gR.spec hz
 rw [hi] at hi'
 cases hi'
 have hzv:=hr (kJ C.av s.st m) s.st m w
 have hzs:z.cells.size=sz:=by have:=hzv.length;rw [hzl] at this;simpa using this.symm
 have hrl: ∀e∈List.replicate len zs,e.length=sz:=fun e he=>by rw [(List.mem_replicate.1 he).2];exact hzl
 have hzero:f6 (kJ C.av s.st m) s.st m w (List.replicate len zs).flatten ((List.range (len*sz)).map (fun q=>z.cells[q%z.cells.size]!)):=by
  refine f6.of_get (by rw [q7 hrl];simp) fun j p hj=>?_
  have hjl:j<len*sz:=by have:=cU hj;rw [q7 hrl] at this;simpa using this
  have hj1:j/sz<len:=by rw [Nat.div_lt_iff_lt_mul hsz];exact hjl
  have hj2:j%sz<zs.length:=by rw [hzl];exact Nat.mod_lt _ hsz
  have hpj:=tX (i:=j/sz) (j:=j%sz) (e:=zs) (d:=zs[j%sz]) hrl (by rw [List.getElem?_replicate,if_pos hj1]) (List.getElem?_eq_getElem hj2)
  rw [show j/sz*sz+j%sz=j by rw [Nat.mul_comm];exact Nat.div_add_mod j sz,hj] at hpj
  cases hpj
  obtain⟨v,hv,hrv⟩:=hzv.get (List.getElem?_eq_getElem hj2)
  refine⟨v,?_,hrv⟩
  rw [List.getElem?_map,List.getElem?_range hjl]
  simp only [Option.map_some,hzs]
  rw [Array.getElem?_toList] at hv
  obtain⟨hlt,hve⟩:=Array.getElem?_eq_some_iff.1 hv
  rw [getElem!_pos z.cells _ hlt,hve]
 obtain⟨us,h2,h3⟩:=NR (JB h hp) hzero hc
 have hul:us.length=len*sz:=by have:=h3.length;rw [hcl] at this;exact this.symm
 have hrun:(Instr.buildSlice T len (parts.map fun(i,x)=>(i,a.eval x))).run P w= .ok (.slice (some ⟨w.heap.size,0,none⟩) len len) (w.alloc (.cells ⟨us⟩ E)):=by
  have hfill:Instr.fill (fun i=>some (i*sz,sz)) ((Array.range (len*sz)).map (z.cells[· %z.cells.size]!)) (parts.map fun(i,x)=>(i,a.eval x)).toList=some ⟨us⟩:=by
   rw [Array.toList_map,← h2]
   congr 1
   apply Array.ext'
   simp
  by_cases h0:len*sz=0
  ·have hl0:len=0:=by
    rcases Nat.mul_eq_zero.1 h0 with h|h
    ·exact h
    ·omega
   subst hl0
   rw [Nat.zero_mul] at hfill
   simp [Instr.buildSlice,run_underlying hu,Go.sizeOf,typeInfo,hi,hs,newRow]
   have e0:(Array.range 0).map (fun q=>z.cells[q%z.cells.size]!)= #[]:=by simp
   rw [e0] at hfill
   simp at hfill
   have e1:(Array.range 0).map (fun _=>(default:Value))= #[]:=by simp
   rw [e1,hfill]
   simp
  ·exact run_buildSlice w T E len _ ⟨us⟩ i z hu hi hzz (by rw [hs];omega) (by rw [hs];exact h0) (by rw [hs];exact hfill)
 refine⟨us,?_,h3,by have:=Nat.le_mul_of_pos_right len hsz;unfold maxLen;omega⟩
 unfold execOp
 simp [ho,hrun]
theorem sH.length{ps qs:List PV}(h:sH ps qs):ps.length=qs.length:=by
 induction ps generalizing qs with
 |nil=>cases h;rfl
 |cons p ps ih=>cases h with|cons _ k=>rw [List.length_cons,List.length_cons,ih k]
theorem bD.buildSlice_lit{T E sz by_ len:Nat}{parts:Array (Nat×Operand)}{ps:List (Nat×List PV)}{zs cs:List PV}{es:List (List Tr)}(ho:o.op= .buildSlice T len parts)(hT:elemOf? P T=some (E,sz,by_))(hz:gR P E=some zs)(hp:l5 s parts.toList=some ps)
 (hc:sG (fun i=>some (i*sz,sz)) (List.replicate len zs).flatten ps=some cs) (hle:sH cs (es.flatten.map PV.t)) (hel:es.length=len) (hes: ∀e∈es,e.length=sz) (hsz:0<sz) (hzl:zs.length=sz) (hsm:len*sz≤16777216):
 ∀m a w,RA C n s m a w→ ∃v w1,(execOp a.eval o).run P w= .ok (.value v) w1∧uB w w1∧RV (kJ C.av s.st m) s.st m w1 (.lit sz es) v:=by
 intro m a w h
 obtain⟨us,h1,h3,hm⟩:=bD.buildSlice_run ho hT hz hp hc (by rw [hle.length,List.length_map,q7 hes,hel]) hsz hzl hsm h
 have h4:=sH.rv hle h3
 have hx:uB w (w.alloc (.cells ⟨us⟩ E)):= .alloc (.refl _) _
 refine⟨.slice (some ⟨w.heap.size,0,none⟩) len len,w.alloc (.cells ⟨us⟩ E),h1,hx,?_⟩
 have hget: ∀q e,es[q]?=some e→ ∀j d,e[j]?=some d→ ∃v,us[q*sz+j]?=some v∧cD (kJ C.av s.st m) (w.alloc (.cells ⟨us⟩ E)) d v:=fun q e hq j d hj=>by
  have hf:=tX (sz:=sz) hes hq hj
  obtain⟨v,hv,hrv⟩:=h4.get (j:=q*sz+j) (p:= .t d) (by rw [List.getElem?_map,hf];rfl)
  exact⟨v,hv,cD.ext hrv hx⟩
 have:=cD.row (ok:=kJ C.av s.st m) (w:=w.alloc (.cells ⟨us⟩ E)) (es:=es) (sz:=sz) (a:=some ⟨w.heap.size,0,none⟩) (cap:=len) (fun q j=>(us[q*sz+j]?).getD undef) (by omega) hm (fun _=>⟨w.heap.size,0,rfl,by simp,fun q e hq j d hd=>⟨T4 h.sto (Nat.le_refl _) _,?_⟩⟩) (fun q e hq j d hd=>?_)
 ·subst hel
  exact⟨this,_,rfl⟩
 ·obtain⟨v,hv,-⟩:=hget q e hq j d hd
  rw [Nat.zero_add,(OB.new w E ⟨us⟩).cell,hv]
  simpa using hv
 ·obtain⟨v,hv,hr⟩:=hget q e hq j d hd
  rw [hv]
  exact hr
theorem bD.buildSliceL{T E sz by_ len:Nat}{parts:Array (Nat×Operand)}{ps:List (Nat×List PV)}{zs cs:List PV}{es:List (List Tr)}(ho:o.op= .buildSlice T len parts)(hd:bJ o.dst n=true)(hT:elemOf? P T=some (E,sz,by_))(hz:gR P E=some zs)(hp:l5 s parts.toList=some ps)
 (hc:sG (fun i=>some (i*sz,sz)) (List.replicate len zs).flatten ps=some cs) (hle:sH cs (es.flatten.map PV.t)) (hel:es.length=len) (hes: ∀e∈es,e.length=sz) (hsz:0<sz) (hzl:zs.length=sz) (hsm:len*sz≤16777216):
 bD P C n o s (s.putO o.dst (.lit sz es)):=
 bD.quietX hd (bD.buildSlice_lit ho hT hz hp hc hle hel hes hsz hzl hsm)
theorem bD.less{p q:PV}(hle:PV.Le p q)(hdl:bJ o.dst n=true)(h: ∀m a w,RA C n s m a w→ ∃v w1,(execOp a.eval o).run P w= .ok (.value v) w1∧uB w w1∧RV (kJ C.av s.st m) s.st m w1 p v):bD P C n o s (s.putO o.dst q):=
 bD.quietX hdl fun m a w hr=>by
  obtain⟨v,w1,h1,h2,h3⟩:=h m a w hr
  exact⟨v,w1,h1,h2,hle.rv h3⟩
theorem bD.buildSliceQ{T E sz by_ len:Nat}{parts:Array (Nat×Operand)}{ps:List (Nat×List PV)}{zs cs:List PV}{es:List (List Tr)}(ho:o.op= .buildSlice T len parts)(hd:bJ o.dst n=true)(hT:elemOf? P T=some (E,sz,by_))(hz:gR P E=some zs)(hp:l5 s parts.toList=some ps)
 (hc:sG (fun i=>some (i*sz,sz)) (List.replicate len zs).flatten ps=some cs) (hle:sH cs (es.flatten.map PV.t)) (hel:es.length=len) (hes: ∀e∈es,e.length=sz) (hsz:0<sz) (hzl:zs.length=sz) (hsm:len*sz≤16777216):
 bD P C n o s (s.putO o.dst (.t (.row sz es))):=
 bD.less (.lit sz es) hd (bD.buildSlice_lit ho hT hz hp hc hle hel hes hsz hzl hsm)
def iA.steps(P:Program)(C:nR)(n:Nat)(D:iA):Nat→List Oper→Prop
 |_,[]=>True
 |i,o::l=>D.step P C n i o∧iA.steps P C n D (i+1) l
theorem iA.steps_get{D:iA}: ∀ {l:List Oper} {k:Nat},D.steps P C n k l→ ∀(i:Nat) (o:Oper),l[i]?=some o→D.step P C n (k+i) o
 | [],_,_,i,o,h=>by simp at h
 |x::l,k,hs,0,o,h=>by simp at h;subst h;exact hs.1
 |x::l,k,hs,i+1,o,h=>by
  have:=iA.steps_get (l:=l) (k:=k+1) hs.2 i o (by simpa using h)
  rwa [show k+1+i=k+(i+1) by omega] at this
theorem cO.drawnL{id:Nat}{l:List Oper}{s1:AS}(D:iA)(hD:D.ops=l.toArray)(hm:P.follows .mixedOrders=true)(hok:D.ok=true)(henv:s.env=D.env0)(hst:s.st=D.F 0 false)(hsteps:D.steps P C n 0 l)
 (h1:(⟨((List.range D.ops.size).filterMap (D.gX (Array.replicate D.ops.size true)))++D.env0,D.F D.effs.length D.alloc.isSome⟩:AS)=s1) (h:Q .normal s1):cO P C n (.region id l.toArray true) Q s:=by
 subst h1
 rw [← hD]
 refine cO.drawn D hm hok henv hst (fun i o ho=>?_) h
 have:=iA.steps_get hsteps i o (by rw [hD] at ho;simpa using ho)
 rwa [Nat.zero_add] at this
end
end Go.Proofs.YtfcoaagbccmahaaGreat

namespace Go.Proofs.YtfcoaagbccmahaaGreat
open Go.RowKit
def abG:jP:=⟨fun _=>0,fun _=>none⟩
def av0:Nat→Nat→Prop:=fun _ _=>False
theorem ok0(b o:Nat):kJ av0 ⟨[],[]⟩ abG b o:=⟨fun h=>h,fun k x h=>by simp at h,fun r row g c h=>by simp at h⟩
theorem aq8(w:World):eW av0 ⟨[],[]⟩ abG w where
 box:=fun k x h=>by simp at h
 binj:=fun k k' x x' h=>by simp at h
 row:=fun r row h=>by simp at h
 rinj:=fun r r' row row' g c c' h=>by simp at h
 br:=fun k x r row g c h=>by simp at h
 avlt:=fun b o h=>h.elim
 avr:=fun r row g c h=>by simp at h
 avb:=fun k x h=>by simp at h
theorem Ev.ext{m m':jP}{w w':World}{st':c4}(h:Ev ⟨[],[]⟩ m w st' m' w'):uB w w' where
 os:=h.os
 tape:=h.tape
 output:=h.output
 size:=h.size
 block:=fun b hb=>h.blk b hb (fun k x h=>by simp at h) (fun r row g c h=>by simp at h)
abbrev GY(w:World)(ps:List PV)(vs:List Value):Prop:=f6 (kJ av0 ⟨[],[]⟩ abG) ⟨[],[]⟩ abG w ps vs
abbrev RV0(w:World)(p:PV)(v:Value):Prop:=RV (kJ av0 ⟨[],[]⟩ abG) ⟨[],[]⟩ abG w p v
theorem RV0.agg{w:World}{ts:List Tr}{cs:List Value}(h:gJ w ts cs):RV0 w (.agg (ts.map PV.t)) (.agg ⟨cs⟩):=⟨cs,rfl,h.toRVL fun b o _=>ok0 b o⟩
theorem RV0.t{w:World}{t:Tr}{v:Value}(h:J0 w t v):RV0 w (.t t) v:=h.repM fun b o _=>ok0 b o
theorem bQ.plain{P:Program}{f:FuncId}{args:List PV}{d:Value}(h:bQ P f args (.t (.leaf d))){w:World}{vals:List Value}(hv:GY w args vals):Calls P f ⟨vals⟩ w fun e w'=>e= .returned d∧uB w w':=
 (h av0 abG w vals (aq8 w) hv).mono fun e w'=>by
  rintro⟨res,st',m',v,rfl,⟨rfl,rfl⟩,-,he,hr⟩
  exact⟨by rw [(cD.leaf_eq hr).1],he.ext⟩
end Go.Proofs.YtfcoaagbccmahaaGreat

namespace Go.Proofs.YtfcoaagbccmahaaGreat
open Go.RowKit Go.WalkArith Go.IntWalk Go.WideShapes
theorem rM(l:List ByteArray): ∀e∈aY l,e.length=1:=fun e he=>by
 unfold aY at he
 obtain⟨x,_,rfl⟩:=List.mem_map.1 he
 rfl
theorem VH(l:List Int): ∀e∈d9 l,e.length=1:=fun e he=>by
 unfold d9 at he
 obtain⟨x,_,rfl⟩:=List.mem_map.1 he
 rfl
theorem xA(a b:List ByteArray):aY a++aY b=aY (a++b):=by simp [aY]
theorem X6(a b:List Int):d9 a++d9 b=d9 (a++b):=by simp [d9]
section
variable {P:Program} {C:nR} {n:Nat} {s:AS} {Q:Exit→AS→Prop} {o:Oper}
theorem cO.wk{s':AS}{c:Code}(hw:Wk C n s s')(h:cO P C n c Q s'):cO P C n c Q s:=fun m a w hr=>by
 obtain⟨m',h'⟩:=hw m a w hr
 exact h m' a w h'
theorem bD.appendE{T E sz by_:Nat}{x y:Operand}{es es2 es3:List (List Tr)}{r:Nat}{row:l3}{p:PV}(ho:o.op= .call { callee:= .builtin .append,args:= #[x,y],argTypes:= #[T,T] })(hd:bJ o.dst n=true)
 (hx:s.ev x=some (.acc sz es r)) (hrow:s.st.rows[r]?=some row) (hes:row.es=es) (hE:row.E=E) (hw:row.whole=false) (hy:s.ev y=some p) (hp:lB p=some (sz,es2)) (h2: ∀e∈es2,e.length=sz)
 (hT:elemOf? P T=some (E,sz,by_)) (hz:(P.info? E).bind (fun i=>i.zero.map (fun z=>z.cells.size))=some sz) (hb:0<by_) (hlen:(es.length+es2.length)*by_≤140737488355328) (h3:es++es2=es3):
 bD P C n o s ((⟨s.env,s.st.setRow r { row with es:=es3 }⟩:AS).putO o.dst (.acc sz es3 r)):=by
 subst h3
 exact bD.append ho hd hx hrow hes hE hw hy hp h2 hT hz hb hlen
theorem bD.callPE{f:FuncId}{fn:Func}{xs:List Operand}{ts:Array TypeId}{ps qs:List PV}{res:PV}{pre st' S:c4}(fb fr:List Nat)(ho:o.op= .call { callee:= .value (.func f),args:=⟨xs⟩,argTypes:=ts })(hd:bJ o.dst n=true)(hf:P.funcs[f]?=some fn)(hnm:(fn.name== "runtime.NumGoroutine")=false)(hb:fn.body.isNone=false)
 (hx:xs.map s.ev=ps.map some) (hS:s.st=S) (hp:eH S pre fb fr) (hle:sH ps (AV fb fr qs)) (hok:lH pre qs=true) (hbl:st'.boxes.length=pre.boxes.length) (hrl:st'.rows.length=pre.rows.length) (hc:cB P f qs pre (fun r t=>r=res∧t=st')):
 bD P C n o s ((⟨s.env,S.over st' fb fr⟩:AS).putO o.dst (PV.ren fb fr res)):=by
 subst hS
 exact bD.callP fb fr ho hd hf hnm hb hx hp hle hok hbl hrl hc
end
theorem cB.regNil{P:Program}{f:FuncId}{l1 l2:List PV}{E sz:Nat}{q res:PV}{t:c4}(hsz:0<sz)(h:cB P f (l1++ .acc sz [] 0::l2) ⟨[],[⟨E,sz,[],false⟩]⟩ (fun r st'=>r=res∧st'=t))(hle:PV.Le res q)(hk:PV.okIn ⟨[],[]⟩ q=true):bQ P f (l1++ .nil::l2) q:=fun av m w vals hst hv=>by
 have hE:=DH (row:=⟨E,sz,[],false⟩) hst
 have hS:=GA (row:=⟨E,sz,[],false⟩) hst hsz rfl
 have hargs:f6 (kJ av (c4.addRow ⟨[],[]⟩ ⟨E,sz,[],false⟩) ⟨m.ρ,xC m.γ 0 none⟩) (c4.addRow ⟨[],[]⟩ ⟨E,sz,[],false⟩) ⟨m.ρ,xC m.γ 0 none⟩ w (l1++ .acc sz [] 0::l2) vals:=by
  have h0:=f6.mono hE _ _ hv
  have hlen:=h0.length
  have key: ∀(l:List PV) (vs:List Value),f6 (kJ av (c4.addRow ⟨[],[]⟩ ⟨E,sz,[],false⟩) ⟨m.ρ,xC m.γ 0 none⟩) (c4.addRow ⟨[],[]⟩ ⟨E,sz,[],false⟩) ⟨m.ρ,xC m.γ 0 none⟩ w (l++ .nil::l2) vs→
   f6 (kJ av (c4.addRow ⟨[],[]⟩ ⟨E,sz,[],false⟩) ⟨m.ρ,xC m.γ 0 none⟩) (c4.addRow ⟨[],[]⟩ ⟨E,sz,[],false⟩) ⟨m.ρ,xC m.γ 0 none⟩ w (l++ .acc sz [] 0::l2) vs:=by
   intro l
   induction l with
   |nil=>
    intro vs hh
    match vs,hh with
    |v::vs,hh=>
     refine⟨?_,hh.2⟩
     obtain rfl:=(show v=_ from hh.1)
     exact⟨⟨E,sz,[],false⟩,rfl,rfl,Nat.le_refl _,cD.row (es:= []) (fun _ _=>undef) (by simp) (by unfold maxLen;omega) (by simp) (by simp),fun _=>by simp [xC,VV]⟩
    | [],hh=>exact hh.elim
   |cons p l ih=>
    intro vs hh
    match vs,hh with
    |v::vs,hh=>exact⟨hh.1,ih vs hh.2⟩
    | [],hh=>exact hh.elim
  exact key l1 vals h0
 refine(h av _ w vals hS hargs).mono fun e w'=>?_;rintro⟨r,st',m',v,k1,⟨rfl,rfl⟩,k3,k4,k5⟩
 have hl:sN st' ⟨[],[]⟩:=⟨fun k x' hx=>by simp at hx,fun r row' hr=>by simp at hr⟩
 exact⟨q,⟨[],[]⟩,m',v,k1,⟨rfl,rfl⟩,hl.sto k3,hl.ev (hE.trans k4) jS.nil,hl.rv q _ hk (hle.rv k5)⟩
end Go.Proofs.YtfcoaagbccmahaaGreat

namespace Go.Proofs.YtfcoaagbccmahaaGreat
open Go.RowKit Go.WalkArith Go.IntWalk Go.WideShapes
theorem nS(b:Bool):b=true∨b=false:=by cases b<;>simp
section
variable {P:Program} {C:nR} {n:Nat} {s:AS} {o:Oper}
theorem cK(k j:Nat){bx:c3}{p:PV}{sz N:Nat}{es:List (List Tr)}(hb:s.st.boxes[k]?=some (some bx))(hx:bx.cells[j]?=some p)(hp:lB p=some (sz,es))(hl:es.length=N): ∀m a w,RA C n s m a w→N≤9223372036854775807:=by
 subst hl
 exact ao0 k j hb hx hp
theorem bD.indexI{T E sz by_:Nat}{x i:Operand}{p:PV}{es:List (List Tr)}{e:List Tr}{y:Int}(ho:o.op= .indexAddr T x i)(hd:bJ o.dst n=true)(hx:s.ev x=some p)(hp:lB p=some (sz,es))(hi:s.ev i=some (.t (.leaf (.int .i64 y))))(h0:0≤y)
 (he:es[y.toNat]?=some e) (hT:elemOf? P T=some (E,sz,by_)):bD P C n o s (s.putO o.dst (.eptr e)):=
 bD.index (k:=y.toNat) ho hd hx hp (by rw [hi,Int.toNat_of_nonneg h0]) he hT
end
end Go.Proofs.YtfcoaagbccmahaaGreat

namespace Go.Proofs.YtfcoaagbccmahaaGreat
open Go.RowKit Go.WalkArith Go.IntWalk Go.WideShapes
theorem PY{st:c4}{m:jP}{w w':World}{x:c3}{b:Nat}(hx:uB w w')(hb:w.heap.size≤b):Ev st m w (st.addBox x) ⟨xC m.ρ st.boxes.length b,m.γ⟩ w':=by
 refine⟨hx.os,hx.tape,hx.output,hx.size,fun b hb _ _=>hx.block b hb,fun b o hb _=>iB (hx.block b hb),fun c o hc h=>⟨fun k y hk=>?_,h.2⟩,fun k y hk=>⟨⟨y,?_⟩,?_⟩,fun k y hk=>?_,fun _ row h=>⟨row,h,rfl,Nat.le_refl _,fun _=>rfl,fun h=>⟨h,rfl⟩⟩,fun _ row _ c h h'=> .inl ⟨row,c,h,h'⟩⟩
 ·rcases f8 hk with⟨h1,h2⟩|⟨rfl,rfl⟩
  ·simp only [c6 (show k≠st.boxes.length by omega)]
   exact h.1 k y h2
  ·simp only [b4]
   omega
 ·show(st.boxes++ [some x])[k]?=_
  rw [List.getElem?_append_left (cU hk)];exact hk
 ·exact c6 (by have:=cU hk;omega)
 ·rcases f8 hk with⟨h1,h2⟩|⟨rfl,rfl⟩
  ·exact .inl ⟨y,h2⟩
  ·exact .inr (by simpa [b4] using hb)
theorem XC{av:Nat→Nat→Prop}{st:c4}{m:jP}{w w':World}{x:c3}{b:Nat}{vs:List Value}(h:eW av st m w)(hx:uB w w')(hb:w.heap.size≤b)(ho:ZA w' b x.ty vs)
 (hc:f6 (kJ av (st.addBox x) ⟨xC m.ρ st.boxes.length b,m.γ⟩) (st.addBox x) ⟨xC m.ρ st.boxes.length b,m.γ⟩ w' x.cells vs):eW av (st.addBox x) ⟨xC m.ρ st.boxes.length b,m.γ⟩ w':=by
 have he:Ev st m w (st.addBox x) ⟨xC m.ρ st.boxes.length b,m.γ⟩ w':=PY hx hb
 have hw:=fun k y (hk:st.boxes[k]?=some (some y))=>h.box_lt hk
 refine⟨fun k y hk=>?_,fun k k' y y' hk hk' hne=>?_,fun r row hr=>?_,h.rinj,fun k y r row g c hk hr hg=>?_,fun b o hb=>Nat.lt_of_lt_of_le (h.avlt b o hb) hx.size,h.avr,fun k y hk o ha=>?_⟩
 ·rcases f8 hk with⟨h1,h2⟩|⟨rfl,rfl⟩
  ·obtain⟨us,k1,k2⟩:=h.box k y h2
   simp only [c6 (show k≠st.boxes.length by omega)]
   exact⟨us,k1.ext hx,f6.mono he _ _ k2⟩
  ·simp only [b4]
   exact⟨vs,ho,hc⟩
 ·rcases f8 hk with⟨h1,h2⟩|⟨rfl,rfl⟩<;>rcases f8 hk' with⟨h1',h2'⟩|⟨rfl,rfl⟩
  ·simp only [c6 (show k≠st.boxes.length by omega),c6 (show k'≠st.boxes.length by omega)]
   exact h.binj k k' y y' h2 h2' hne
  ·simp only [c6 (show k≠st.boxes.length by omega),b4]
   have:=hw k y h2
   omega
  ·simp only [c6 (show k'≠st.boxes.length by omega),b4]
   have:=hw k' y' h2'
   omega
  ·exact absurd rfl hne
 ·obtain⟨k1,k2,k3⟩:=h.row r row hr
  refine⟨k1,k2,?_⟩
  rcases k3 with k3|⟨g,c,cur,q1,q2,q3,q4,q5,q6⟩
  ·exact .inl k3
  ·exact .inr ⟨g,c,cur,q1,q2.ext hx,q3,q4,q5,RV.mono he (.t _) _ q6⟩
 ·rcases f8 hk with⟨h1,h2⟩|⟨rfl,rfl⟩
  ·simp only [c6 (show k≠st.boxes.length by omega)]
   exact h.br k y r row g c h2 hr hg
  ·simp only [b4]
   have:=h.row_lt hr hg
   omega
 ·rcases f8 hk with⟨h1,h2⟩|⟨rfl,rfl⟩
  ·simp only [c6 (show k≠st.boxes.length by omega)] at ha
   exact h.avb k y h2 o ha
  ·simp only [b4] at ha
   have:=h.avlt _ _ ha
   omega
def am2(P:Program)(f:FuncId)(args:List PV)(T:TypeId)(cs:List PV):Prop:=cB P f args ⟨[],[]⟩ (fun r st'=> ∃k,r= .ptr k 0∧st'.rows= []∧(∀i x,st'.boxes[i]?=some (some x)→i=k)∧st'.boxes[k]?=some (some ⟨T,cs⟩))
section
variable {P:Program} {C:nR} {n:Nat} {s:AS} {o:Oper}
theorem bD.callNew{f:FuncId}{fn:Func}{xs:List Operand}{ts:Array TypeId}{ps qs cs:List PV}{T:TypeId}(ho:o.op= .call { callee:= .value (.func f),args:=⟨xs⟩,argTypes:=ts })(hd:bJ o.dst n=true)(hf:P.funcs[f]?=some fn)(hnm:(fn.name== "runtime.NumGoroutine")=false)(hb:fn.body.isNone=false)
 (hx:xs.map s.ev=ps.map some) (hle:sH ps qs) (hfr:kK qs=true) (hfr':kK cs=true) (hc:am2 P f qs T cs):bD P C n o s ((⟨s.env,s.st.addBox ⟨T,cs⟩⟩:AS).putO o.dst (.ptr s.st.boxes.length 0)):=fun m a w h K Q hK=>by
 have h2:=evL h hx
 have h1:(execOp a.eval o).run P w= .ok (.enter f ⟨xs.map a.eval⟩) w:=by
  have hcf:=hH (P:=P) hf hnm hb
  unfold execOp
  simp only [ho]
  simp [resolve,invoke,Deferred.ofValue,Act.eval,hcf]
 unfold Oper.wp
 rw [h1]
 have h3:=hc (apP C s m w) m w _ (eW.nil fun b o hb=>hb.1) (kK.rv (fun b o hb hk=>⟨fun hs=>hs.2 hk,fun _ _ h=>by simp at h,fun _ _ _ _ h=>by simp at h⟩) _ _ hfr (sH.rv hle h2))
 refine Calls.mono h3 fun e w'=>?_;rintro⟨r,st',m',v,rfl,⟨k,rfl,hrows,honly,hbox⟩,h4,h5,h6⟩
 have hx:uB w w':=⟨h5.os,h5.tape,h5.output,h5.size,fun b hb=>h5.blk b hb (fun _ _ h=>by simp at h) (fun _ _ _ _ h=>by simp at h)⟩
 have hfresh:w.heap.size≤m'.ρ k:=by
  rcases h5.fresh k _ hbox with⟨x,hx0⟩|hf
  ·simp at hx0
  ·exact hf
 obtain⟨vs,hob,hcs⟩:=h4.box k _ hbox
 have hk: ∀b o,b<w'.heap.size→kJ (apP C s m w) st' m' b o→kJ C.av (s.st.addBox ⟨T,cs⟩) ⟨xC m.ρ s.st.boxes.length (m'.ρ k),m.γ⟩ b o:=fun b o hb hk=>by
  have hnew:m'.ρ k≠b:=hk.2.1 k _ hbox
  have h0:kJ C.av s.st m b o:=by
   rcases Nat.lt_or_ge b w.heap.size with hlt|hge
   ·exact Classical.byContradiction fun hn=>hk.1 ⟨hlt,hn⟩
   ·exact T4 h.sto hge o
  refine⟨h0.1,fun i y hi=>?_,h0.2.2⟩
  rcases f8 hi with⟨q1,q2⟩|⟨rfl,rfl⟩
  ·simp only [c6 (show i≠s.st.boxes.length by omega)]
   exact h0.2.1 i y q2
  ·simp only [b4]
   exact hnew
 have hE:Ev s.st m w (s.st.addBox ⟨T,cs⟩) ⟨xC m.ρ s.st.boxes.length (m'.ρ k),m.γ⟩ w':=PY hx hfresh
 have hS:eW C.av (s.st.addBox ⟨T,cs⟩) ⟨xC m.ρ s.st.boxes.length (m'.ρ k),m.γ⟩ w':=XC h.sto hx hfresh hob (kK.rv hk _ _ hfr' hcs)
 have hv:v= .pointer (some ⟨m'.ρ k,0,none⟩):=h6.2
 exact hK _ _ w' ((h.step hE hS).put (cQ hd) ⟨⟨⟨T,cs⟩,by simp [c4.addBox]⟩,by simp [b4,hv]⟩)
end
end Go.Proofs.YtfcoaagbccmahaaGreat

namespace Go.Proofs.YtfcoaagbccmahaaGreat
open Go.RowKit Go.WalkArith Go.IntWalk Go.WideShapes
def ah0(x y:Int):Int:=IntKind.wrap .i64 ((BitVec.ofInt 64 x&&& BitVec.ofInt 64 y).toNat:Int)
def arX(x y:Int):Int:=IntKind.wrap .i64 ((BitVec.ofInt 64 x^^^BitVec.ofInt 64 y).toNat:Int)
def aa7(x y:Int):Int:=x.fdiv (2^(min y.toNat 64))
def aZ(x:Int):Int:=IntKind.wrap .i64 x
section
variable {P:Program} {C:nR} {n:Nat} {s:AS} {o:Oper}
theorem bD.moveAny{v:Value}(ho:o.op= .assign (.const v)∨o.op= .move (.const v)):bD P C n o s (s.delO o.dst):=fun m a w h K Q hK=>by
 have h1:(execOp a.eval o).run P w= .ok (.value v) w:=by
  unfold execOp
  rcases ho with ho|ho<;>simp [ho,Act.eval]
 unfold Oper.wp
 rw [h1]
 exact hK m _ w (h.del o.dst v)
theorem bD.andI{T yT:TypeId}{x y:Operand}{a b:Int}(ho:o.op= .binOp .and T x y yT)(hd:bJ o.dst n=true)(hx:s.ev x=some (.t (.leaf (.int .i64 a))))(hy:s.ev y=some (.t (.leaf (.int .i64 b)))):
 bD P C n o s (s.putO o.dst (.t (.leaf (.int .i64 (ah0 a b))))):=bD.bin ho hd hx hy (fun w=>by rfl) (wf_wrap .i64 _)
theorem bD.xorI{T yT:TypeId}{x y:Operand}{a b:Int}(ho:o.op= .binOp .xor T x y yT)(hd:bJ o.dst n=true)(hx:s.ev x=some (.t (.leaf (.int .i64 a))))(hy:s.ev y=some (.t (.leaf (.int .i64 b)))):
 bD P C n o s (s.putO o.dst (.t (.leaf (.int .i64 (arX a b))))):=bD.bin ho hd hx hy (fun w=>by rfl) (wf_wrap .i64 _)
theorem bD.shrI{T yT:TypeId}{x y:Operand}{a b:Int}{k:IntKind}(ho:o.op= .binOp .shr T x y yT)(hd:bJ o.dst n=true)(hx:s.ev x=some (.t (.leaf (.int .i64 a))))(hy:s.ev y=some (.t (.leaf (.int k b))))(hb:0≤b)(h1: -9223372036854775808≤aa7 a b)(h2:aa7 a b≤9223372036854775807):
 bD P C n o s (s.putO o.dst (.t (.leaf (.int .i64 (aa7 a b))))):=bD.bin ho hd hx hy (fun w=>by
  have: ¬b<0:=by omega
  simp [eqGuard,binOp,Op.shift,aa7,IntKind.bits,this]) (wf_i64 (by omega))
theorem bD.remN{T yT:TypeId}{x y:Operand}{a b:Nat}(ho:o.op= .binOp .rem T x y yT)(hd:bJ o.dst n=true)(hx:s.ev x=some (.t (.leaf (.int .i64 (a:Int)))))(hy:s.ev y=some (.t (.leaf (.int .i64 (b:Int)))))(hb:0<b)(ha:a≤9223372036854775807):
 bD P C n o s (s.putO o.dst (.t (.leaf (.int .i64 ((a%b:Nat):Int))))):=bD.bin ho hd hx hy (fun w=>by
  have: ¬(b:Int)=0:=by omega
  have: ¬b=0:=by omega
  simp [eqGuard,binOp,Op.intDiv,this,Int.tmod_eq_emod_of_nonneg]) (wf_i64 (by have:=Nat.mod_le a b;omega))
theorem bD.convI{S T:TypeId}{x:Operand}{k:IntKind}{a:Int}(ho:o.op= .convert S T x)(hd:bJ o.dst n=true)(hx:s.ev x=some (.t (.leaf (.int k a))))(hS: ∃k',P.underlying S=some (.int k'))(hT:P.underlying T=some (.int .i64))(h1: -9223372036854775808≤a)(h2:a≤9223372036854775807):
 bD P C n o s (s.putO o.dst (.t (.leaf (.int .i64 a)))):=
 bD.quiet (cQ hd) fun m ac w h=>⟨.int .i64 a,by
  have h3:=(cD.leaf_eq (h.eval hx)).1
  obtain⟨k',hS⟩:=hS
  have hw:IntKind.wrap .i64 a=a:=by unfold IntKind.wrap;simp [IntKind.bits,IntKind.signed];omega
  unfold execOp
  simp [ho,h3,convert,run_underlying hS,run_underlying hT,Conv.intToInt,hw],cD.leaf (wf_i64 (by omega))⟩
end
end Go.Proofs.YtfcoaagbccmahaaGreat

namespace Go.Proofs.YtfcoaagbccmahaaGreat
open Go.RowKit Go.Proofs
def lF(l:List UInt8):List (List Tr):=l.map fun b=> [.leaf (.int .u8 (b.toNat:Int))]
theorem qT(l:List UInt8):(lF l).length=l.length:=by simp [lF]
theorem AE{l:List UInt8}{k:Nat}(h:k<l.length):(lF l)[k]?=some [.leaf (.int .u8 ((l[k]).toNat:Int))]:=by simp [lF,h]
structure DS where
 code:List UInt8
 p:Nat
 h:Int
def DS.cells(d:DS):List PV:= [.t (.row 1 (lF d.code)),.t (.leaf (.int .i64 (d.p:Int))),.t (.leaf (.int .i64 d.h))]
abbrev DS.box(T:TypeId)(d:DS):c4:=⟨[some ⟨T,d.cells⟩],[]⟩
def ae6(h:Int):Int:=aZ (aZ (h*6364136223846793005)+1442695040888963407)
theorem JY(x:Int): -9223372036854775808≤aZ x∧aZ x≤9223372036854775807:=by
 unfold aZ IntKind.wrap
 simp [IntKind.bits,IntKind.signed]
 omega
theorem TY{x y:Int}(h: -9223372036854775808≤x∧x≤9223372036854775807): -9223372036854775808≤aa7 x y∧aa7 x y≤9223372036854775807:=by
 unfold aa7
 generalize min y.toNat 64=k
 have hp:(1:Int)≤2^k:=by
  have:=Nat.one_le_two_pow (n:=k)
  exact_mod_cast this
 generalize(2:Int)^k=d at hp
 rw [Int.fdiv_eq_ediv_of_nonneg _ (by omega)]
 have h1:x/d≤9223372036854775807:=by
  have:x/d≤9223372036854775807/d:=Int.ediv_le_ediv (by omega) h.2
  have:(9223372036854775807:Int)/d≤9223372036854775807:=Int.ediv_le_self _ (by omega)
  omega
 have h2: -9223372036854775808≤x/d:=by
  rw [Int.le_ediv_iff_mul_le (by omega)]
  omega
 exact⟨h2,h1⟩
def DS.byte(d:DS):Int:=let x:=ah0 (arX (aa7 (ae6 d.h) 33) (aa7 (ae6 d.h) 45)) 255;if h:d.p<d.code.length then ah0 (aZ (x+(d.code[d.p].toNat:Int))) 255 else x
def DS.next(d:DS):DS:=⟨d.code,if d.p<d.code.length then d.p+1 else d.p,ae6 d.h⟩
theorem aeG(x:Int):0≤ah0 x 255∧ah0 x 255≤255:=by
 unfold ah0
 have h:(BitVec.ofInt 64 x&&& BitVec.ofInt 64 255).toNat≤255:=by
  rw [BitVec.toNat_and]
  exact Nat.le_trans Nat.and_le_right (by decide)
 generalize(BitVec.ofInt 64 x&&& BitVec.ofInt 64 255).toNat=k at h
 unfold IntKind.wrap
 simp [IntKind.bits,IntKind.signed]
 omega
theorem DS.byte_in(d:DS):0≤d.byte∧d.byte≤255:=by
 unfold DS.byte
 split
 ·exact aeG _
 ·exact aeG _
def DS.byteN(d:DS):Nat:=d.byte.toNat
theorem DS.byteN_le(d:DS):d.byteN≤255:=by have:=d.byte_in;unfold DS.byteN;omega
theorem DS.byteN_eq(d:DS):((d.byteN:Nat):Int)=d.byte:=by have:=d.byte_in;unfold DS.byteN;omega
def DS.below(d:DS)(n:Nat):Nat:=if n=0 then 0 else if n≤256 then d.byteN%n else(d.byteN*16777216+d.next.byteN*65536+d.next.next.byteN*256+d.next.next.next.byteN)%n
def DS.after(d:DS)(n:Nat):DS:=if n=0 then d else if n≤256 then d.next else d.next.next.next.next
theorem DS.below_lt(d:DS){n:Nat}(h:0<n):d.below n<n:=by
 unfold DS.below
 rw [if_neg (by omega)]
 split
 ·exact Nat.mod_lt _ h
 ·exact Nat.mod_lt _ h
def DS.pick(d:DS)(l:List ByteArray):ByteArray:=(l[d.below l.length]?).getD ⟨#[]⟩
theorem DS.pick_eq{d:DS}{l:List ByteArray}(h:d.below l.length<l.length):d.pick l=l[d.below l.length]:=by simp [DS.pick,h]
def FE(h:Int)(b:UInt8):Int:=ah0 (aZ (aZ (aZ (h*131)+(b.toNat:Int))+7)) 1073741823
def aqV(code:List UInt8):Int:=(code.take 4000).foldl FE (28803+(code.length:Int))
def DS.start(code:List UInt8):DS:=⟨code,0,aqV code⟩
theorem amA{code:List UInt8}{i:Nat}{h h' r:Int}(h1:i<code.length)(h2:i<4000)(hr:r=((code.take 4000).drop i).foldl FE h)(hs:FE h code[i]=h'):r=((code.take 4000).drop (i+1)).foldl FE h':=by
 have hl:i<(code.take 4000).length:=by simp;omega
 rw [hr,List.drop_eq_getElem_cons hl,List.foldl_cons,List.getElem_take,hs]
theorem anZ{code:List UInt8}{i:Nat}{h r:Int}(h1:code.length≤i∨4000≤i)(hr:r=((code.take 4000).drop i).foldl FE h):r=h:=by
 rw [hr,List.drop_of_length_le (by simp;omega),List.foldl_nil]
theorem arE{C:nR}{x:c3}{S:c4}(h:C.st=⟨[some x],[]⟩)(hs: ∃y,S.boxes[0]?=some (some y)):jS C.st S:=by
 rw [h]
 exact⟨fun k z hz=>by
  rcases k with _|k
  ·exact hs
  ·simp at hz,fun r row hr=>by simp at hr⟩
end Go.Proofs.YtfcoaagbccmahaaGreat

namespace Go.Proofs.YtfcoaagbccmahaaGreat
open Go.RowKit Go.WalkArith Go.IntWalk Go.WideShapes
def aq4(sz:Nat)(es:List (List Tr)):Option (List PV)→Nat→PV
 |none,k=> .acc sz es k
 |some ps,k=> .tup (.acc sz es k::ps)
def aoV(P:Program)(f:FuncId)(args:List PV)(E:TypeId)(sz:Nat)(es:List (List Tr))(ps:Option (List PV)):Prop:=
 cB P f args ⟨[],[]⟩ (fun r st'=> ∃k,r=aq4 sz es ps k∧st'.rows[k]?=some ⟨E,sz,es,false⟩)
section
variable {P:Program} {C:nR} {n:Nat} {s:AS} {o:Oper}
end
theorem AB.ofAcc{av:Nat→Nat→Prop}{st:c4}{m:jP}{w:World}{k E sz:Nat}{es:List (List Tr)}{v:Value}{S:Nat→Prop}(hst:eW av st m w)(hrow:st.rows[k]?=some ⟨E,sz,es,false⟩)(hv:RV (kJ av st m) st m w (.acc sz es k) v)
 (hS: ∀g c,m.γ k=some (g,c)→g<w.heap.size→S g) (hfl: ∀e∈es,∀d∈e,∃u,d= .leaf u):AB w (.row sz es) v S:=by
 obtain⟨q1,q2,q3⟩:=hst.row k _ hrow
 obtain⟨row,hr,-,hle,hrep,heq⟩:=hv
 rw [hrow] at hr
 obtain rfl:=Option.some.inj hr
 have hv:=heq rfl
 rcases q3 with⟨a,b⟩|⟨g,c,cur,r1,r2,r3,r4,r5,r6⟩
 ·rw [a] at hv
  have b:es= []:=b
  subst b
  subst hv
  exact AB.row (es:= []) (fun _ _=>undef) (fun _ _ _=>False) (by simp) (by unfold maxLen;omega) (by simp) (by simp) (by simp) (by simp)
 ·rw [r1] at hv
  subst hv
  have r6:cD (kJ av st m) w (.row sz es) (.slice (some ⟨g,0,none⟩) es.length c):=r6
  show AB w (.row sz es) (.slice (some ⟨g,0,none⟩) es.length c) S
  cases r6 with
  |row cc h1 h2 h3 h4=>
   refine .row cc (fun _ _ _=>False) h1 h2 (fun hne=>?_) (fun i e he j d hd=>?_) (fun _ _ _ _ _ _ x hx=>hx.elim) (fun _ _ _ _ _ _ _ _ _ _ _ _ _ x hx=>hx.elim)
   ·obtain⟨b,off,ha,hb,hc⟩:=h3 hne
    obtain⟨rfl,rfl⟩:g=b∧0=off:=by simpa using ha
    exact⟨g,0,E,cur,rfl,r2,hS g c r1 hb,fun i e he j d hd=>⟨by rw [← r2.cell];exact(hc i e he j d hd).2,fun x hx=>hx.elim⟩⟩
   ·obtain⟨u,rfl⟩:=hfl e (List.mem_of_getElem? he) d (List.mem_of_getElem? hd)
    have h7:=(h4 i e he j _ hd).rep.leaf_eq
    rw [h7.1]
    exact .leaf h7.2
theorem aoV.own{P:Program}{f:FuncId}{args:List PV}{E sz:Nat}{es:List (List Tr)}(h:aoV P f args E sz es none)(hfl: ∀e∈es,∀d∈e,∃u,d= .leaf u){w:World}{vals:List Value}(hv:GY w args vals):
 Calls P f ⟨vals⟩ w fun e w'=> ∃v,e= .returned v∧uB w w'∧AB w' (.row sz es) v (NE w w'):=
 (h av0 abG w vals (aq8 w) hv).mono fun e w'=>by
  rintro⟨res,st',m',v,rfl,⟨k,rfl,hrow⟩,hst,he,hr⟩
  exact⟨v,rfl,he.ext,AB.ofAcc hst hrow hr (fun g c hg hlt=>by
   rcases he.rfresh k _ g c hrow hg with⟨row,c0,h0,_⟩|hf
   ·simp at h0
   ·exact⟨hf,hlt⟩) hfl⟩
end Go.Proofs.YtfcoaagbccmahaaGreat

namespace Go.Proofs.YtfcoaagbccmahaaGreat
open Go.RowKit Go.WalkArith Go.IntWalk Go.WideShapes
mutual
inductive Mv (sz:Nat) (es:List (List Tr)) (k k':Nat):PV→PV→Prop
 |acc:Mv sz es k k' (.acc sz es k) (.acc sz es k')
 |free (p:PV):PV.free p=true→Mv sz es k k' p p
 |agg {ps qs:List PV}:GB sz es k k' ps qs→Mv sz es k k' (.agg ps) (.agg qs)
 |tup {ps qs:List PV}:GB sz es k k' ps qs→Mv sz es k k' (.tup ps) (.tup qs)
inductive GB (sz:Nat) (es:List (List Tr)) (k k':Nat):List PV→List PV→Prop
 |nil:GB sz es k k' [] []
 |cons {p q:PV} {ps qs:List PV}:Mv sz es k k' p q→GB sz es k k' ps qs→GB sz es k k' (p::ps) (q::qs)
end
section
variable {ok ok':Nat→Nat→Prop} {st st':c4} {m m':jP} {w:World} {sz k k':Nat} {es:List (List Tr)}
mutual
theorem Mv.rv(hk: ∀b o,b<w.heap.size→ok b o→ok' b o)(hrow: ∀row,st.rows[k]?=some row→st'.rows[k']?=some row∧m'.γ k'=m.γ k): ∀ {p q:PV} {v:Value},Mv sz es k k' p q→RV ok st m w p v→RV ok' st' m' w q v
 |_,_,_,.acc,h=>by
  obtain⟨row,h1,h2,h3,h4,h5⟩:=h
  obtain⟨k1,k2⟩:=hrow row h1
  exact⟨row,k1,h2,h3,cD.mono h4 (Nat.le_refl _) hk (fun _ _ _ _=>rfl),fun e=>by rw [k2];exact h5 e⟩
 |_,_,_,.free p hf,h=>PV.free.rv hk p _ hf h
 |_,_,_,.agg hl,h=>by
  obtain⟨vs,hv,h1⟩:=h
  exact⟨vs,hv,GB.rv hk hrow hl h1⟩
 |_,_,_,.tup hl,h=>by
  obtain⟨vs,hv,h1⟩:=h
  exact⟨vs,hv,GB.rv hk hrow hl h1⟩
theorem GB.rv(hk: ∀b o,b<w.heap.size→ok b o→ok' b o)(hrow: ∀row,st.rows[k]?=some row→st'.rows[k']?=some row∧m'.γ k'=m.γ k): ∀ {ps qs:List PV} {vs:List Value},GB sz es k k' ps qs→f6 ok st m w ps vs→f6 ok' st' m' w qs vs
 |_,_,[],.nil,h=>h
 |_,_,_::_,.nil,h=>h.elim
 |_,_,[],.cons _ _,h=>h.elim
 |_,_,_::_,.cons h1 h2,h=>⟨Mv.rv hk hrow h1 h.1,GB.rv hk hrow h2 h.2⟩
end
end
mutual
theorem PV.free.ren{fb fr:List Nat}: ∀(p:PV),PV.free p=true→PV.ren fb fr p=p
 | .t _,_=>rfl
 | .agg cs,h=>by rw [PV.ren,kK.ren cs h]
 | .tup cs,h=>by rw [PV.ren,kK.ren cs h]
 | .nil,_=>rfl
 | .eptr _,_=>rfl
 | .fn f cs,h=>by rw [PV.ren,kK.ren cs h]
 | .acc _ _ _,h=>by cases h
 | .ptr _ _,h=>by cases h
 | .full _ _ _,h=>by cases h
 | .rptr _ _,h=>by cases h
 | .lit _ _,h=>by cases h
 | .bsl _ _,h=>by cases h
 | .gsl _ _,h=>by cases h
theorem kK.ren{fb fr:List Nat}: ∀(ps:List PV),kK ps=true→AV fb fr ps=ps
 | [],_=>rfl
 |p::ps,h=>by
  simp only [kK,Bool.and_eq_true] at h
  rw [AV,PV.free.ren p h.1,kK.ren ps h.2]
end
section
variable {av:Nat→Nat→Prop} {s pre st':c4} {m m':jP} {fb:List Nat} {w w':World} {k:Nat} {row:l3}
theorem an1(h:eH s pre fb [])(hpr:pre.rows= [])(hs:eW av s m w)(hst:eW (B7 av s pre m fb [] w) st' m' w')(he:Ev pre (m.via fb []) w st' m' w')(hbl:st'.boxes.length=pre.boxes.length)
 (hfree: ∀(j:Nat) (x:c3),st'.boxes[j]?=some (some x)→kK x.cells=true) (hrow:st'.rows[k]?=some row):
 Ev s m w ⟨(s.over ⟨st'.boxes,[]⟩ fb []).boxes,s.rows++ [row]⟩ ⟨m.ρ,xC m.γ s.rows.length (m'.γ k)⟩ w'∧eW av ⟨(s.over ⟨st'.boxes,[]⟩ fb []).boxes,s.rows++ [row]⟩ ⟨m.ρ,xC m.γ s.rows.length (m'.γ k)⟩ w'∧
 (∀b o,b<w'.heap.size→kJ (B7 av s pre m fb [] w) st' m' b o→kJ av ⟨(s.over ⟨st'.boxes,[]⟩ fb []).boxes,s.rows++ [row]⟩ ⟨m.ρ,xC m.γ s.rows.length (m'.γ k)⟩ b o):=by
 have pb: ∀(i j:Nat),fb[j]?=some i→ ∃(x y:c3),pre.boxes[j]?=some (some x)∧s.boxes[i]?=some (some y)∧fb.getD j 0=i∧m'.ρ j=m.ρ i∧ ∃x':c3,st'.boxes[j]?=some (some x'):=fun i j hj=>by
  obtain⟨x,hx⟩:=h.all j (by rw [← h.fbl];exact cU hj)
  obtain⟨y,hy,-⟩:=h.box j x hx
  have e:fb.getD j 0=i:=by simp [List.getD_eq_getElem?_getD,hj]
  rw [e] at hy
  obtain⟨h1,h2⟩:=he.live j x hx
  exact⟨x,y,hx,hy,e,by rw [h2];show m.ρ (fb.getD j 0)=_;rw [e],h1⟩
 have ob: ∀(i:Nat) (z:c3),(s.over ⟨st'.boxes,[]⟩ fb []).boxes[i]?=some (some z)→(∃(j:Nat) (x:c3),fb[j]?=some i∧st'.boxes[j]?=some (some x)∧z=x.ren fb []∧i<s.boxes.length)∨(idx? fb i=none∧s.boxes[i]?=some (some z)):=fun i z hi=>VS (st':=⟨st'.boxes,[]⟩) hi
 have lv: ∀(i:Nat) (z:c3),(s.over ⟨st'.boxes,[]⟩ fb []).boxes[i]?=some (some z)→ ∃y:c3,s.boxes[i]?=some (some y):=fun i z hi=>by
  rcases ob i z hi with⟨j,x,h1,-⟩|⟨-,h2⟩
  ·obtain⟨-,y,-,hy,-⟩:=pb i j h1
   exact⟨y,hy⟩
  ·exact⟨z,h2⟩
 have hfresh: ∀g c,m'.γ k=some (g,c)→w.heap.size≤g:=fun g c hg=>by
  rcases he.rfresh k row g c hrow hg with⟨row0,c0,hr,-⟩|hf
  ·rw [hpr] at hr;simp at hr
  ·exact hf
 have rk: ∀(i:Nat) (z:l3) (g c:Nat),(s.rows++ [row])[i]?=some z→xC m.γ s.rows.length (m'.γ k) i=some (g,c)→(s.rows[i]?=some z∧m.γ i=some (g,c))∨(i=s.rows.length∧z=row∧m'.γ k=some (g,c)):=fun i z g c hi hg=>by
  rcases getElem?_snoc hi with⟨h1,h2⟩|⟨rfl,rfl⟩
  ·rw [c6 (show i≠s.rows.length by omega)] at hg
   exact .inl ⟨h2,hg⟩
  ·simp only [b4] at hg
   exact .inr ⟨rfl,rfl,hg⟩
 have okk: ∀b o,b<w.heap.size→s.ok m b o→c4.ok ⟨(s.over ⟨st'.boxes,[]⟩ fb []).boxes,s.rows++ [row]⟩ ⟨m.ρ,xC m.γ s.rows.length (m'.γ k)⟩ b o:=fun b o hb hk=>by
  refine⟨fun i z hi=>?_,fun i z g c hi hg e=>?_⟩
  ·obtain⟨y,hy⟩:=lv i z hi
   exact hk.1 i y hy
  ·rcases rk i z g c hi hg with⟨h1,h2⟩|⟨-,-,h3⟩
   ·exact hk.2 i z g c h1 h2 e
   ·have:=hfresh g c h3;omega
 have ev:Ev s m w ⟨(s.over ⟨st'.boxes,[]⟩ fb []).boxes,s.rows++ [row]⟩ ⟨m.ρ,xC m.γ s.rows.length (m'.γ k)⟩ w':=by
  refine⟨he.os,he.tape,he.output,he.size,fun b hb h1 h2=>he.blk b hb (fun i x hi=>?_) (fun r row0 g c hr _=>?_),fun b o hb hk=>he.cell b o hb (h.ok (av:=fun _ _=>False) (w:=w) ⟨id,hk⟩).2,okk,fun i y hi=>⟨?_,rfl⟩,fun i z hi=> .inl (lv i z hi),fun i row0 hi=>⟨row0,?_,rfl,Nat.le_refl _,fun _=>?_,fun hw=>⟨hw,?_⟩⟩,fun i z g c hi hg=>?_⟩
  ·obtain⟨y,hy,-⟩:=h.box i x hi
   exact h1 _ y hy
  ·rw [hpr] at hr;simp at hr
  ·cases hq:idx? fb i with
   |none=>exact⟨y,by unfold c4.over;simp [List.getElem?_zipIdx,hi,hq]⟩
   |some j=>
    obtain⟨-,-,-,-,-,-,x',hx'⟩:=pb i j (idx?_some hq)
    exact⟨x'.ren fb [],by unfold c4.over;simp [List.getElem?_zipIdx,hi,hq,List.getD_eq_getElem?_getD,hx']⟩
  ·show(s.rows++ [row])[i]?=_
   rw [List.getElem?_append_left (cU hi)];exact hi
  ·exact c6 (by have:=cU hi;omega)
  ·exact c6 (by have:=cU hi;omega)
  ·rcases rk i z g c hi hg with⟨h1,h2⟩|⟨-,-,h3⟩
   ·exact .inl ⟨z,c,h1,h2⟩
   ·exact .inr (hfresh g c h3)
 have back: ∀b o,b<w'.heap.size→kJ (B7 av s pre m fb [] w) st' m' b o→kJ av ⟨(s.over ⟨st'.boxes,[]⟩ fb []).boxes,s.rows++ [row]⟩ ⟨m.ρ,xC m.γ s.rows.length (m'.γ k)⟩ b o:=fun b o _ hk=>by
  rcases Nat.lt_or_ge b w.heap.size with hlt|hge
  ·by_cases hA:kJ av s m b o
   ·exact⟨hA.1,okk b o hlt hA.2⟩
   ·by_cases hB: ∃i x,pre.boxes[i]?=some (some x)∧m.ρ (fb.getD i 0)=b
    ·obtain⟨i,x,h1,h2⟩:=hB
     obtain⟨⟨x',h3⟩,h4⟩:=he.live i x h1
     exact absurd (h4.trans h2) (hk.2.1 i x' h3)
    ·exact absurd ⟨hlt,hA,fun i x h1 h2=>hB ⟨i,x,h1,h2⟩,fun r row0 g c h1 h2 h3=>by rw [hpr] at h1;simp at h1⟩ hk.1
  ·refine⟨fun ho=>by have:=hs.avlt _ _ ho;omega,fun i z hi=>?_,fun i z g c hi hg e=>?_⟩
   ·obtain⟨y,hy⟩:=lv i z hi
    have:=hs.box_lt hy
    show m.ρ i≠b
    omega
   ·rcases rk i z g c hi hg with⟨h1,h2⟩|⟨-,rfl,h3⟩
    ·have:=hs.row_lt h1 h2
     omega
    ·exact hk.2.2 k _ g c hrow h3 e
 refine⟨ev,⟨fun i z hi=>?_,fun i i' z z' hi hi' hne=>?_,fun i z hi=>?_,fun i i' z z' g c c' hi hi' hg hg'=>?_,fun i z r row0 g c hi hr hg=>?_,fun b o hb=>Nat.lt_of_lt_of_le (hs.avlt b o hb) he.size,fun i z g c hi hg o ho=>?_,fun i z hi=>by obtain⟨y,hy⟩:=lv i z hi;exact hs.avb i y hy⟩,back⟩
 ·rcases ob i z hi with⟨j,x,h1,h2,rfl,-⟩|⟨h1,h2⟩
  ·obtain⟨-,-,-,-,-,h4,-⟩:=pb i j h1
   obtain⟨vs,k1,k2⟩:=hst.box j x h2
   refine⟨vs,?_,?_⟩
   ·show ZA w' (m.ρ i) _ _
    rw [← h4]
    exact k1
   ·show f6 _ _ _ _ (AV fb [] x.cells) vs
    rw [kK.ren _ (hfree j x h2)]
    exact kK.rv back _ _ (hfree j x h2) k2
  ·obtain⟨vs,k1,k2⟩:=hs.box i z h2
   refine⟨vs,k1.keep (he.blk _ k1.lt (fun j x hj=>?_) (fun r row0 g c hr _=>?_)),f6.mono ev _ _ k2⟩
   ·obtain⟨y,hy,-⟩:=h.box j x hj
    have hj':=sR (l:=fb) (k:=j) (by rw [h.fbl];exact cU hj)
    exact hs.binj _ _ y z hy h2 (fun e=>idx?_none h1 j (by rw [hj',e]))
   ·rw [hpr] at hr;simp at hr
 ·obtain⟨y,hy⟩:=lv i z hi
  obtain⟨y',hy'⟩:=lv i' z' hi'
  exact hs.binj i i' y y' hy hy' hne
 ·rcases getElem?_snoc hi with⟨h1,h2⟩|⟨rfl,rfl⟩
  ·obtain⟨k1,k2,k3⟩:=hs.row i z h2
   refine⟨k1,k2,?_⟩
   simp only [c6 (show i≠s.rows.length by omega)]
   rcases k3 with k3|⟨g,c,cur,q1,q2,q3,q4,q5,q6⟩
   ·exact .inl k3
   ·refine .inr ⟨g,c,cur,q1,(he.blk g q2.lt (fun j x hj e=>?_) (fun r row0 g' c' hr _=>?_)).trans q2,q3,q4,q5,RV.mono ev (.t _) _ q6⟩
    ·obtain⟨y,hy,-⟩:=h.box j x hj
     exact hs.br _ y i z g c hy h2 q1 e
    ·rw [hpr] at hr;simp at hr
  ·obtain⟨k1,k2,k3⟩:=hst.row k _ hrow
   refine⟨k1,k2,?_⟩
   simp only [b4]
   rcases k3 with k3|⟨g,c,cur,q1,q2,q3,q4,q5,q6⟩
   ·exact .inl k3
   ·exact .inr ⟨g,c,cur,q1,q2,q3,q4,q5,cD.mono q6 (Nat.le_refl _) back (fun _ _ _ _=>rfl)⟩
 ·rcases rk i z g c hi hg with⟨h1,h2⟩|⟨h1,-,h3⟩<;>rcases rk i' z' g c' hi' hg' with⟨h1',h2'⟩|⟨h1',-,h3'⟩
  ·exact hs.rinj i i' z z' g c c' h1 h1' h2 h2'
  ·have:=hs.row_lt h1 h2
   have:=hfresh g c' h3'
   omega
  ·have:=hs.row_lt h1' h2'
   have:=hfresh g c h3
   omega
  ·omega
 ·obtain⟨y,hy⟩:=lv i z hi
  rcases rk r row0 g c hr hg with⟨h1,h2⟩|⟨-,-,h3⟩
  ·exact hs.br i y r row0 g c hy h1 h2
  ·have:=hs.box_lt hy
   have:=hfresh g c h3
   show m.ρ i≠g
   omega
 ·rcases rk i z g c hi hg with⟨h1,h2⟩|⟨-,-,h3⟩
  ·exact hs.avr i z g c h1 h2 o ho
  ·have:=hs.avlt _ _ ho
   have:=hfresh g c h3
   omega
end
def o8:List (Option c3)→Bool
 | []=>true
 |none::l=>o8 l
 |some x::l=>kK x.cells&&o8 l
theorem o8.get: ∀ {l:List (Option c3)} {j:Nat} {x:c3},o8 l=true→l[j]?=some (some x)→kK x.cells=true
 | [],_,_,_,h=>by simp at h
 |none::l,0,_,_,h=>by simp at h
 |none::l,j+1,x,hf,h=>o8.get (l:=l) (j:=j) hf (by simpa using h)
 |some y::l,0,x,hf,h=>by
  simp at h
  subst h
  simp only [o8,Bool.and_eq_true] at hf
  exact hf.1
 |some y::l,j+1,x,hf,h=>by
  simp only [o8,Bool.and_eq_true] at hf
  exact o8.get (l:=l) (j:=j) hf.2 (by simpa using h)
def vL(P:Program)(f:FuncId)(args:List PV)(pre:c4)(B:List (Option c3))(E:TypeId)(sz:Nat)(es:List (List Tr))(R:Nat→PV):Prop:=
 cB P f args pre (fun r t=> ∃k,r=R k∧t.boxes=B∧t.rows[k]?=some ⟨E,sz,es,false⟩)
theorem BG.refl{st:c4}: ∀ {B:List (Option c3)},(∀x,some x∈B→lH st x.cells=true)→BG st B B
 | [],_=>trivial
 |none::B,h=>BG.refl (B:=B) fun x hx=>h x (List.mem_cons_of_mem _ hx)
 |some x::B,h=>⟨⟨rfl,sH.refl _,h x (by simp)⟩,BG.refl (B:=B) fun y hy=>h y (List.mem_cons_of_mem _ hy)⟩
def T5(st:c4)(B:List (Option c3)):Bool:=B.all fun x=>match x with
 |none=>true
 |some x=>lH st x.cells
theorem T5.mem{st:c4}{B:List (Option c3)}(h:T5 st B=true)(x:c3)(hx:some x∈B):lH st x.cells=true:=by
 have:=List.all_eq_true.1 h _ hx
 exact this
theorem vL.plain{P:Program}{f:FuncId}{args:List PV}{pre:c4}{B:List (Option c3)}{E:TypeId}{sz:Nat}{es:List (List Tr)}{R:Nat→PV}{D:PV}(h:vL P f args pre B E sz es R)(hle: ∀k,PV.Le (R k) D)(hk:PV.okIn ⟨B,[]⟩ D=true:=by exact rfl)(hb:T5 ⟨B,[]⟩ B=true:=by exact rfl)(hp:jS pre ⟨B,[]⟩):cB P f args pre (fun q t=>q=D∧t=⟨B,[]⟩):=fun av m w vals hst hv=>by
 refine(h av m w vals hst hv).mono fun e w'=>?_;rintro⟨r,st',m',v,k1,⟨k,rfl,rfl,-⟩,k3,k4,k5⟩
 have hl:sN st' ⟨st'.boxes,[]⟩:=sN.mk' (BG.refl (T5.mem hb)) rfl
 exact⟨D,⟨st'.boxes,[]⟩,m',v,k1,⟨rfl,rfl⟩,hl.sto k3,hl.ev k4 hp,hl.rv D _ hk ((hle k).rv k5)⟩
theorem abF{st:c4}:jS ⟨[],[]⟩ st:=jS.nil
theorem aqS{bs bs':List (Option c3)}(h: ∀(k:Nat) (x:c3),bs[k]?=some (some x)→ ∃x':c3,bs'[k]?=some (some x')):jS ⟨bs,[]⟩ ⟨bs',[]⟩:=⟨h,fun r row hr=>by simp at hr⟩
theorem anT{x x':c3}:jS ⟨[some x],[]⟩ ⟨[some x'],[]⟩:=aqS fun k y hk=>by
 rcases k with _|k
 ·exact⟨x',rfl⟩
 ·simp at hk
section
variable {P:Program} {C:nR} {n:Nat} {s:AS} {o:Oper}
theorem bD.callOwn{f:FuncId}{fn:Func}{xs:List Operand}{ts:Array TypeId}{ps qs:List PV}{pre S:c4}{B:List (Option c3)}{E:TypeId}{sz:Nat}{es:List (List Tr)}{R:Nat→PV}(fb:List Nat)(ho:o.op= .call { callee:= .value (.func f),args:=⟨xs⟩,argTypes:=ts })(hd:bJ o.dst n=true)(hf:P.funcs[f]?=some fn)(hnm:(fn.name== "runtime.NumGoroutine")=false)(hb:fn.body.isNone=false)
 (hx:xs.map s.ev=ps.map some) (hS:s.st=S) (hp:eH S pre fb []) (hpr:pre.rows= []) (hle:sH ps (AV fb [] qs)) (hok:lH pre qs=true) (hbl:B.length=pre.boxes.length) (hfree:o8 B=true) (hR: ∀k k',Mv sz es k k' (R k) (R k')) (hc:vL P f qs pre B E sz es R):
 bD P C n o s ((⟨s.env,⟨(S.over ⟨B,[]⟩ fb []).boxes,S.rows++ [⟨E,sz,es,false⟩]⟩⟩:AS).putO o.dst (R S.rows.length)):=fun m a w h K Q hK=>by
 subst hS
 have h2:=evL h hx
 have h1:(execOp a.eval o).run P w= .ok (.enter f ⟨xs.map a.eval⟩) w:=by
  have hcf:=hH (P:=P) hf hnm hb
  unfold execOp
  simp only [ho]
  simp [resolve,invoke,Deferred.ofValue,Act.eval,hcf]
 unfold Oper.wp
 rw [h1]
 have h3:=hc (B7 C.av s.st pre m fb [] w) (m.via fb []) w _ (hp.sto h.sto) (f6.unren hp (fun b o _ k=>hp.ok k) _ _ hok (sH.rv hle h2))
 refine Calls.mono h3 fun e w'=>?_;rintro⟨r,st',m',v,rfl,⟨k,rfl,rfl,hrow⟩,h4,h5,h6⟩
 obtain⟨k1,k2,k3⟩:=an1 hp hpr h.sto h4 h5 hbl (fun j x hj=>o8.get hfree hj) hrow
 refine hK _ _ w' ((h.step k1 k2).put (cQ hd) (Mv.rv k3 (fun row hr=>?_) (hR k s.st.rows.length) h6))
 rw [hrow] at hr
 obtain rfl:=Option.some.inj hr
 exact⟨by simp,by simp only [b4]⟩
end
end Go.Proofs.YtfcoaagbccmahaaGreat

namespace Go.Proofs.YtfcoaagbccmahaaGreat
open Go.RowKit Go.WalkArith Go.IntWalk Go.WideShapes
def vP(P:Program)(T f:Nat):Option (Nat×Bool×Nat):=
 match P.underlying T with
 |some (.struct fs)=>match fs[f]? with
  |some fd=>(iU P fd.type).map fun x=>(fd.offset,x.1,x.2)
  |none=>none
 |_=>none
theorem vP.spec{P:Program}{T f e z:Nat}{b:Bool}(h:vP P T f=some (e,b,z)): ∃fs fd,P.underlying T=some (.struct fs)∧fs[f]?=some fd∧iU P fd.type=some (b,z)∧fd.offset=e:=by
 unfold vP at h
 split at h
 ·rename_i fs hu
  split at h
  ·rename_i fd hf
   cases hs:iU P fd.type with
   |none=>simp [hs] at h
   |some x=>
    obtain⟨b',z'⟩:=x
    simp only [hs,Option.map_some,Option.some.injEq,Prod.mk.injEq] at h
    obtain⟨h1,rfl,rfl⟩:=h
    exact⟨fs,fd,hu,hf,hs,h1⟩
  ·cases h
 ·cases h
section
variable {P:Program} {C:nR} {n:Nat} {s:AS} {o:Oper}
theorem bD.field1{T:TypeId}{x:Operand}{f e z:Nat}{cs:List PV}{p:PV}(ho:o.op= .field T x f)(hd:bJ o.dst n=true)(hx:s.ev x=some (.agg cs))(hf:vP P T f=some (e,false,z))(hc:cs[e]?=some p):bD P C n o s (s.putO o.dst p):=
 bD.quiet (cQ hd) fun m a w h=>by
  obtain⟨vs,h1,h2⟩:=h.eval hx
  obtain⟨fs,fd,hu,hfd,hs,rfl⟩:=vP.spec hf
  obtain⟨v,hv,hr⟩:=h2.get hc
  refine⟨v,?_,hr⟩
  unfold execOp
  simp [ho,h1,Instr.field,Sem.run_bind,run_underlying hu,hfd,asAgg,part,JD hs,hv]
end
end Go.Proofs.YtfcoaagbccmahaaGreat

namespace Go.Proofs.YtfcoaagbccmahaaGreat
open Go.RowKit Go.Proofs
class FO (P:Program) (T:TypeId) (f:Nat) (e:outParam Nat):Prop where h:sP P T f=some e
class FQ (P:Program) (T:TypeId) (f:Nat) (e:outParam (Nat×Bool×Nat)):Prop where h:vP P T f=some e
class SH (P:Program) (T:TypeId) (b:outParam (Bool×Nat)):Prop where h:iU P T=some b
class EL (P:Program) (T:TypeId) (E:outParam (Nat×Nat×Nat)):Prop where h:elemOf? P T=some E
class ZR (P:Program) (T:TypeId) (ps:outParam (List PV)):Prop where h:gR P T=some ps
class TU (P:Program) (T:TypeId) (ps:outParam (List (Nat×Nat))):Prop where h:ON P T=some ps
class SZ (P:Program) (T:TypeId) (n:outParam Nat):Prop where h:(P.info? T).map (·.size)=some n
class ZE (P:Program) (T:TypeId) (n:outParam Nat):Prop where h:(P.info? T).bind (fun i=>i.zero.map (fun z=>z.cells.size))=some n
end Go.Proofs.YtfcoaagbccmahaaGreat

namespace Go.Proofs.YtfcoaagbccmahaaGreat
open Go.RowKit Go.Proofs
instance sh3:SH Tryz.prog 3 (false,1):=⟨by kernel_rfl⟩
instance sz3:SZ Tryz.prog 3 1:=⟨by kernel_rfl⟩
instance zr3:ZR Tryz.prog 3 [.t (.leaf (.int .i64 0))]:=⟨by kernel_rfl⟩
instance sh4:SH Tryz.prog 4 (false,1):=⟨by kernel_rfl⟩
instance sz4:SZ Tryz.prog 4 1:=⟨by kernel_rfl⟩
instance zr4:ZR Tryz.prog 4 [.t (.leaf (.bool false))]:=⟨by kernel_rfl⟩
instance sh5:SH Tryz.prog 5 (false,1):=⟨by kernel_rfl⟩
instance sz5:SZ Tryz.prog 5 1:=⟨by kernel_rfl⟩
instance zr5:ZR Tryz.prog 5 [.t (.leaf (.int .u8 0))]:=⟨by kernel_rfl⟩
instance sh9:SH Tryz.prog 9 (false,1):=⟨by kernel_rfl⟩
instance sz9:SZ Tryz.prog 9 1:=⟨by kernel_rfl⟩
instance zr9:ZR Tryz.prog 9 [.t (.leaf (.string ⟨#[]⟩))]:=⟨by kernel_rfl⟩
instance az7:SH Tryz.prog 22 (false,1):=⟨by kernel_rfl⟩
instance aAu:SZ Tryz.prog 22 1:=⟨by kernel_rfl⟩
instance arT:EL Tryz.prog 22 (5,1,1):=⟨by kernel_rfl⟩
instance aAW:ZE Tryz.prog 5 1:=⟨by kernel_rfl⟩
instance aA1:ZR Tryz.prog 22 [.nil]:=⟨by kernel_rfl⟩
instance az8:SH Tryz.prog 24 (false,1):=⟨by kernel_rfl⟩
instance aAv:SZ Tryz.prog 24 1:=⟨by kernel_rfl⟩
instance alJ:EL Tryz.prog 24 (141,6,136):=⟨by kernel_rfl⟩
instance aAX:ZE Tryz.prog 141 6:=⟨by kernel_rfl⟩
instance aA2:ZR Tryz.prog 24 [.nil]:=⟨by kernel_rfl⟩
instance apO:SH Tryz.prog 26 (true,1):=⟨by kernel_rfl⟩
instance aAw:SZ Tryz.prog 26 1:=⟨by kernel_rfl⟩
instance aA3:ZR Tryz.prog 26 [.nil]:=⟨by kernel_rfl⟩
instance ay9:TU Tryz.prog 26 [(0,1)]:=⟨by kernel_rfl⟩
instance az9:SH Tryz.prog 27 (false,1):=⟨by kernel_rfl⟩
instance aAx:SZ Tryz.prog 27 1:=⟨by kernel_rfl⟩
instance alK:EL Tryz.prog 27 (32,4,64):=⟨by kernel_rfl⟩
instance arB:ZE Tryz.prog 32 4:=⟨by kernel_rfl⟩
instance aA4:ZR Tryz.prog 27 [.nil]:=⟨by kernel_rfl⟩
instance aAa:SH Tryz.prog 28 (false,1):=⟨by kernel_rfl⟩
instance aAy:SZ Tryz.prog 28 1:=⟨by kernel_rfl⟩
instance anM:EL Tryz.prog 28 (30,3,48):=⟨by kernel_rfl⟩
instance asK:ZE Tryz.prog 30 3:=⟨by kernel_rfl⟩
instance aA5:ZR Tryz.prog 28 [.nil]:=⟨by kernel_rfl⟩
instance KT:SH Tryz.prog 30 (true,3):=⟨by kernel_rfl⟩
instance asF:SZ Tryz.prog 30 3:=⟨by kernel_rfl⟩
instance aA6:ZR Tryz.prog 30 [.t (.leaf (.int .i64 0)),.t (.leaf (.string ⟨#[]⟩)),.nil]:=⟨by kernel_rfl⟩
instance azA:TU Tryz.prog 30 [(0,1),(1,1),(2,1)]:=⟨by kernel_rfl⟩
instance aAb:SH Tryz.prog 32 (true,4):=⟨by kernel_rfl⟩
instance avJ:SZ Tryz.prog 32 4:=⟨by kernel_rfl⟩
instance avL:ZR Tryz.prog 32 [.t (.leaf (.string ⟨#[]⟩)),.t (.leaf (.int .i64 0)),.t (.leaf (.string ⟨#[]⟩)),.nil]:=⟨by kernel_rfl⟩
instance azB:TU Tryz.prog 32 [(0,1),(1,3)]:=⟨by kernel_rfl⟩
instance aAc:SH Tryz.prog 36 (false,1):=⟨by kernel_rfl⟩
instance aAz:SZ Tryz.prog 36 1:=⟨by kernel_rfl⟩
instance ahX:EL Tryz.prog 36 (9,1,16):=⟨by kernel_rfl⟩
instance apX:ZE Tryz.prog 9 1:=⟨by kernel_rfl⟩
instance aA7:ZR Tryz.prog 36 [.nil]:=⟨by kernel_rfl⟩
instance aAd:SH Tryz.prog 37 (false,1):=⟨by kernel_rfl⟩
instance aAA:SZ Tryz.prog 37 1:=⟨by kernel_rfl⟩
instance ao3:EL Tryz.prog 37 (46,2,40):=⟨by kernel_rfl⟩
instance aAY:ZE Tryz.prog 46 2:=⟨by kernel_rfl⟩
instance aA8:ZR Tryz.prog 37 [.nil]:=⟨by kernel_rfl⟩
instance aAe:SH Tryz.prog 39 (true,3):=⟨by kernel_rfl⟩
instance aAB:SZ Tryz.prog 39 3:=⟨by kernel_rfl⟩
instance aA9:ZR Tryz.prog 39 [.t (.leaf (.string ⟨#[]⟩)),.nil,.nil]:=⟨by kernel_rfl⟩
instance azC:TU Tryz.prog 39 [(0,1),(1,1),(2,1)]:=⟨by kernel_rfl⟩
instance aAf:SH Tryz.prog 42 (false,1):=⟨by kernel_rfl⟩
instance aAC:SZ Tryz.prog 42 1:=⟨by kernel_rfl⟩
instance ayZ:EL Tryz.prog 42 (44,4,64):=⟨by kernel_rfl⟩
instance aAZ:ZE Tryz.prog 44 4:=⟨by kernel_rfl⟩
instance aBa:ZR Tryz.prog 42 [.nil]:=⟨by kernel_rfl⟩
instance aAg:SH Tryz.prog 44 (true,4):=⟨by kernel_rfl⟩
instance aAD:SZ Tryz.prog 44 4:=⟨by kernel_rfl⟩
instance aBb:ZR Tryz.prog 44 [.t (.leaf (.string ⟨#[]⟩)),.t (.leaf (.int .i64 0)),.t (.leaf (.string ⟨#[]⟩)),.nil]:=⟨by kernel_rfl⟩
instance azD:TU Tryz.prog 44 [(0,1),(1,3)]:=⟨by kernel_rfl⟩
instance aAh:SH Tryz.prog 46 (true,2):=⟨by kernel_rfl⟩
instance aAE:SZ Tryz.prog 46 2:=⟨by kernel_rfl⟩
instance avM:ZR Tryz.prog 46 [.t (.leaf (.string ⟨#[]⟩)),.nil]:=⟨by kernel_rfl⟩
instance azE:TU Tryz.prog 46 [(0,1),(1,1)]:=⟨by kernel_rfl⟩
instance aAi:SH Tryz.prog 48 (false,1):=⟨by kernel_rfl⟩
instance aAF:SZ Tryz.prog 48 1:=⟨by kernel_rfl⟩
instance aqP:EL Tryz.prog 48 (99,6,96):=⟨by kernel_rfl⟩
instance aA0:ZE Tryz.prog 99 6:=⟨by kernel_rfl⟩
instance aBc:ZR Tryz.prog 48 [.nil]:=⟨by kernel_rfl⟩
instance aAj:SH Tryz.prog 52 (true,2):=⟨by kernel_rfl⟩
instance aAG:SZ Tryz.prog 52 2:=⟨by kernel_rfl⟩
instance aBd:ZR Tryz.prog 52 [.t (.leaf (.int .i64 0)),.t (.leaf (.int .i64 0))]:=⟨by kernel_rfl⟩
instance azF:TU Tryz.prog 52 [(0,1),(1,1)]:=⟨by kernel_rfl⟩
instance aAk:SH Tryz.prog 53 (false,1):=⟨by kernel_rfl⟩
instance aAH:SZ Tryz.prog 53 1:=⟨by kernel_rfl⟩
instance aqQ:EL Tryz.prog 53 (55,5,56):=⟨by kernel_rfl⟩
instance asL:ZE Tryz.prog 55 5:=⟨by kernel_rfl⟩
instance aBe:ZR Tryz.prog 53 [.nil]:=⟨by kernel_rfl⟩
instance abY:SH Tryz.prog 55 (true,5):=⟨by kernel_rfl⟩
instance avK:SZ Tryz.prog 55 5:=⟨by kernel_rfl⟩
instance arC:ZR Tryz.prog 55 [.t (.leaf (.int .i64 0)),.t (.leaf (.int .i64 0)),.t (.leaf (.int .i64 0)),.t (.leaf (.int .i64 0)),.nil]:=⟨by kernel_rfl⟩
instance azG:TU Tryz.prog 55 [(0,1),(1,1),(2,2),(4,1)]:=⟨by kernel_rfl⟩
instance aAl:SH Tryz.prog 58 (false,1):=⟨by kernel_rfl⟩
instance aAI:SZ Tryz.prog 58 1:=⟨by kernel_rfl⟩
instance aAm:SH Tryz.prog 60 (false,1):=⟨by kernel_rfl⟩
instance aAJ:SZ Tryz.prog 60 1:=⟨by kernel_rfl⟩
instance aAn:SH Tryz.prog 64 (false,1):=⟨by kernel_rfl⟩
instance aAK:SZ Tryz.prog 64 1:=⟨by kernel_rfl⟩
instance aqR:EL Tryz.prog 64 (3,1,8):=⟨by kernel_rfl⟩
instance asM:ZE Tryz.prog 3 1:=⟨by kernel_rfl⟩
instance aBf:ZR Tryz.prog 64 [.nil]:=⟨by kernel_rfl⟩
instance abZ:SH Tryz.prog 68 (true,3):=⟨by kernel_rfl⟩
instance aAL:SZ Tryz.prog 68 3:=⟨by kernel_rfl⟩
instance arD:ZR Tryz.prog 68 [.nil,.nil,.nil]:=⟨by kernel_rfl⟩
instance azH:TU Tryz.prog 68 [(0,1),(1,1),(2,1)]:=⟨by kernel_rfl⟩
instance aAo:SH Tryz.prog 75 (false,1):=⟨by kernel_rfl⟩
instance aAM:SZ Tryz.prog 75 1:=⟨by kernel_rfl⟩
instance aAp:SH Tryz.prog 80 (false,1):=⟨by kernel_rfl⟩
instance aAN:SZ Tryz.prog 80 1:=⟨by kernel_rfl⟩
instance aAq:SH Tryz.prog 84 (false,1):=⟨by kernel_rfl⟩
instance aAO:SZ Tryz.prog 84 1:=⟨by kernel_rfl⟩
instance aAs:SH Tryz.prog 92 (false,1):=⟨by kernel_rfl⟩
instance aAP:SZ Tryz.prog 92 1:=⟨by kernel_rfl⟩
instance aAt:SH Tryz.prog 99 (true,6):=⟨by kernel_rfl⟩
instance aAQ:SZ Tryz.prog 99 6:=⟨by kernel_rfl⟩
instance aBg:ZR Tryz.prog 99 [.t (.leaf (.string ⟨#[]⟩)),.t (.leaf (.int .i64 0)),.t (.leaf (.string ⟨#[]⟩)),.nil,.t (.leaf (.int .i64 0)),.nil]:=⟨by kernel_rfl⟩
instance azI:TU Tryz.prog 99 [(0,4),(4,1),(5,1)]:=⟨by kernel_rfl⟩
instance awD:SH Tryz.prog 124 (false,1):=⟨by kernel_rfl⟩
instance axA:SZ Tryz.prog 124 1:=⟨by kernel_rfl⟩
instance awE:SH Tryz.prog 131 (false,1):=⟨by kernel_rfl⟩
instance axB:SZ Tryz.prog 131 1:=⟨by kernel_rfl⟩
instance awF:SH Tryz.prog 133 (true,3):=⟨by kernel_rfl⟩
instance axC:SZ Tryz.prog 133 3:=⟨by kernel_rfl⟩
instance ayD:ZR Tryz.prog 133 [.nil,.t (.leaf (.int .i64 0)),.t (.leaf (.int .i64 0))]:=⟨by kernel_rfl⟩
instance avX:TU Tryz.prog 133 [(0,1),(1,1),(2,1)]:=⟨by kernel_rfl⟩
instance awG:SH Tryz.prog 136 (false,1):=⟨by kernel_rfl⟩
instance axD:SZ Tryz.prog 136 1:=⟨by kernel_rfl⟩
instance ap2:EL Tryz.prog 136 (156,5,72):=⟨by kernel_rfl⟩
instance ax4:ZE Tryz.prog 156 5:=⟨by kernel_rfl⟩
instance ayE:ZR Tryz.prog 136 [.nil]:=⟨by kernel_rfl⟩
instance awH:SH Tryz.prog 137 (false,1):=⟨by kernel_rfl⟩
instance axE:SZ Tryz.prog 137 1:=⟨by kernel_rfl⟩
instance ap3:EL Tryz.prog 137 (39,3,64):=⟨by kernel_rfl⟩
instance ax5:ZE Tryz.prog 39 3:=⟨by kernel_rfl⟩
instance ayF:ZR Tryz.prog 137 [.nil]:=⟨by kernel_rfl⟩
instance awI:SH Tryz.prog 138 (false,1):=⟨by kernel_rfl⟩
instance axF:SZ Tryz.prog 138 1:=⟨by kernel_rfl⟩
instance aeC:EL Tryz.prog 138 (163,12,192):=⟨by kernel_rfl⟩
instance ax6:ZE Tryz.prog 163 12:=⟨by kernel_rfl⟩
instance ayG:ZR Tryz.prog 138 [.nil]:=⟨by kernel_rfl⟩
instance awJ:SH Tryz.prog 139 (false,1):=⟨by kernel_rfl⟩
instance axG:SZ Tryz.prog 139 1:=⟨by kernel_rfl⟩
instance avQ:EL Tryz.prog 139 (213,16,280):=⟨by kernel_rfl⟩
instance ax7:ZE Tryz.prog 213 16:=⟨by kernel_rfl⟩
instance ayH:ZR Tryz.prog 139 [.nil]:=⟨by kernel_rfl⟩
instance awK:SH Tryz.prog 141 (true,6):=⟨by kernel_rfl⟩
instance axH:SZ Tryz.prog 141 6:=⟨by kernel_rfl⟩
instance ayI:ZR Tryz.prog 141 [.t (.leaf (.string ⟨#[]⟩)),.nil,.nil,.nil,.nil,.nil]:=⟨by kernel_rfl⟩
instance avY:TU Tryz.prog 141 [(0,1),(1,1),(2,1),(3,1),(4,1),(5,1)]:=⟨by kernel_rfl⟩
instance awL:SH Tryz.prog 145 (true,2):=⟨by kernel_rfl⟩
instance axI:SZ Tryz.prog 145 2:=⟨by kernel_rfl⟩
instance ayJ:ZR Tryz.prog 145 [.nil,.nil]:=⟨by kernel_rfl⟩
instance avZ:TU Tryz.prog 145 [(0,1),(1,1)]:=⟨by kernel_rfl⟩
instance awM:SH Tryz.prog 154 (false,1):=⟨by kernel_rfl⟩
instance axJ:SZ Tryz.prog 154 1:=⟨by kernel_rfl⟩
instance US:EL Tryz.prog 154 (237,16,264):=⟨by kernel_rfl⟩
instance asI:ZE Tryz.prog 237 16:=⟨by kernel_rfl⟩
instance ayK:ZR Tryz.prog 154 [.nil]:=⟨by kernel_rfl⟩
instance awN:SH Tryz.prog 156 (true,5):=⟨by kernel_rfl⟩
instance axK:SZ Tryz.prog 156 5:=⟨by kernel_rfl⟩
instance ayL:ZR Tryz.prog 156 [.t (.leaf (.string ⟨#[]⟩)),.nil,.t (.leaf (.bool false)),.t (.leaf (.bool false)),.nil]:=⟨by kernel_rfl⟩
instance av1:TU Tryz.prog 156 [(0,1),(1,1),(2,1),(3,1),(4,1)]:=⟨by kernel_rfl⟩
instance awO:SH Tryz.prog 161 (false,1):=⟨by kernel_rfl⟩
instance axL:SZ Tryz.prog 161 1:=⟨by kernel_rfl⟩
instance anL:EL Tryz.prog 161 (242,11,184):=⟨by kernel_rfl⟩
instance ax8:ZE Tryz.prog 242 11:=⟨by kernel_rfl⟩
instance ayM:ZR Tryz.prog 161 [.nil]:=⟨by kernel_rfl⟩
instance awP:SH Tryz.prog 163 (true,12):=⟨by kernel_rfl⟩
instance axM:SZ Tryz.prog 163 12:=⟨by kernel_rfl⟩
instance ayN:ZR Tryz.prog 163 [.t (.leaf (.string ⟨#[]⟩)),.nil,.t (.leaf (.int .i64 0)),.t (.leaf (.string ⟨#[]⟩)),.nil,.nil,.t (.leaf (.bool false)),.t (.leaf (.bool false)),.t (.leaf (.int .i64 0)),.t (.leaf (.string ⟨#[]⟩)),.nil,.nil]:=⟨by kernel_rfl⟩
instance av2:TU Tryz.prog 163 [(0,1),(1,1),(2,3),(5,1),(6,1),(7,1),(8,3),(11,1)]:=⟨by kernel_rfl⟩
instance awQ:SH Tryz.prog 187 (false,1):=⟨by kernel_rfl⟩
instance axN:SZ Tryz.prog 187 1:=⟨by kernel_rfl⟩
instance BK:EL Tryz.prog 187 (189,2,40):=⟨by kernel_rfl⟩
instance ax9:ZE Tryz.prog 189 2:=⟨by kernel_rfl⟩
instance ayO:ZR Tryz.prog 187 [.nil]:=⟨by kernel_rfl⟩
instance asE:SH Tryz.prog 189 (true,2):=⟨by kernel_rfl⟩
instance axO:SZ Tryz.prog 189 2:=⟨by kernel_rfl⟩
instance aaJ:ZR Tryz.prog 189 [.t (.leaf (.string ⟨#[]⟩)),.nil]:=⟨by kernel_rfl⟩
instance av3:TU Tryz.prog 189 [(0,1),(1,1)]:=⟨by kernel_rfl⟩
instance awR:SH Tryz.prog 194 (false,1):=⟨by kernel_rfl⟩
instance axP:SZ Tryz.prog 194 1:=⟨by kernel_rfl⟩
instance awS:SH Tryz.prog 198 (false,1):=⟨by kernel_rfl⟩
instance axQ:SZ Tryz.prog 198 1:=⟨by kernel_rfl⟩
instance avR:EL Tryz.prog 198 (52,2,16):=⟨by kernel_rfl⟩
instance ayA:ZE Tryz.prog 52 2:=⟨by kernel_rfl⟩
instance ayP:ZR Tryz.prog 198 [.nil]:=⟨by kernel_rfl⟩
instance awT:SH Tryz.prog 201 (false,1):=⟨by kernel_rfl⟩
instance axR:SZ Tryz.prog 201 1:=⟨by kernel_rfl⟩
instance awU:SH Tryz.prog 207 (false,1):=⟨by kernel_rfl⟩
instance axS:SZ Tryz.prog 207 1:=⟨by kernel_rfl⟩
instance arS:EL Tryz.prog 207 (245,4,64):=⟨by kernel_rfl⟩
instance asJ:ZE Tryz.prog 245 4:=⟨by kernel_rfl⟩
instance ayQ:ZR Tryz.prog 207 [.nil]:=⟨by kernel_rfl⟩
instance awV:SH Tryz.prog 208 (false,1):=⟨by kernel_rfl⟩
instance axT:SZ Tryz.prog 208 1:=⟨by kernel_rfl⟩
instance avS:EL Tryz.prog 208 (211,9,144):=⟨by kernel_rfl⟩
instance ayB:ZE Tryz.prog 211 9:=⟨by kernel_rfl⟩
instance ayR:ZR Tryz.prog 208 [.nil]:=⟨by kernel_rfl⟩
instance awW:SH Tryz.prog 209 (false,1):=⟨by kernel_rfl⟩
instance axU:SZ Tryz.prog 209 1:=⟨by kernel_rfl⟩
instance avT:EL Tryz.prog 209 (262,11,184):=⟨by kernel_rfl⟩
instance ayC:ZE Tryz.prog 262 11:=⟨by kernel_rfl⟩
instance ayS:ZR Tryz.prog 209 [.nil]:=⟨by kernel_rfl⟩
instance awX:SH Tryz.prog 211 (true,9):=⟨by kernel_rfl⟩
instance axV:SZ Tryz.prog 211 9:=⟨by kernel_rfl⟩
instance ayT:ZR Tryz.prog 211 [.t (.leaf (.int .i64 0)),.t (.leaf (.string ⟨#[]⟩)),.t (.leaf (.string ⟨#[]⟩)),.t (.leaf (.int .i64 0)),.t (.leaf (.int .i64 0)),.t (.leaf (.string ⟨#[]⟩)),.nil,.nil,.nil]:=⟨by kernel_rfl⟩
instance av4:TU Tryz.prog 211 [(0,1),(1,1),(2,1),(3,1),(4,3),(7,1),(8,1)]:=⟨by kernel_rfl⟩
instance awY:SH Tryz.prog 213 (true,16):=⟨by kernel_rfl⟩
instance axW:SZ Tryz.prog 213 16:=⟨by kernel_rfl⟩
instance ayU:ZR Tryz.prog 213 [.t (.leaf (.string ⟨#[]⟩)),.nil,.nil,.nil,.t (.leaf (.int .i64 0)),.t (.leaf (.string ⟨#[]⟩)),.nil,.t (.leaf (.int .i64 0)),.t (.leaf (.string ⟨#[]⟩)),.t (.leaf (.string ⟨#[]⟩)),.t (.leaf (.int .i64 0)),.t (.leaf (.int .i64 0)),.t (.leaf (.string ⟨#[]⟩)),.nil,.nil,.nil]:=⟨by kernel_rfl⟩
instance av5:TU Tryz.prog 213 [(0,1),(1,1),(2,1),(3,1),(4,3),(7,9)]:=⟨by kernel_rfl⟩
instance awZ:SH Tryz.prog 218 (false,1):=⟨by kernel_rfl⟩
instance axX:SZ Tryz.prog 218 1:=⟨by kernel_rfl⟩
instance aw0:SH Tryz.prog 220 (true,5):=⟨by kernel_rfl⟩
instance axY:SZ Tryz.prog 220 5:=⟨by kernel_rfl⟩
instance ayV:ZR Tryz.prog 220 [.t (.leaf (.string ⟨#[]⟩)),.t (.leaf (.int .i64 0)),.t (.leaf (.int .i64 0)),.t (.leaf (.int .i64 0)),.t (.leaf (.bool false))]:=⟨by kernel_rfl⟩
instance av6:TU Tryz.prog 220 [(0,1),(1,1),(2,1),(3,1),(4,1)]:=⟨by kernel_rfl⟩
instance aw1:SH Tryz.prog 228 (false,1):=⟨by kernel_rfl⟩
instance axZ:SZ Tryz.prog 228 1:=⟨by kernel_rfl⟩
instance aw2:SH Tryz.prog 237 (true,16):=⟨by kernel_rfl⟩
instance ax0:SZ Tryz.prog 237 16:=⟨by kernel_rfl⟩
instance aqD:ZR Tryz.prog 237 [.t (.leaf (.string ⟨#[]⟩)),.nil,.t (.leaf (.int .i64 0)),.t (.leaf (.string ⟨#[]⟩)),.nil,.t (.leaf (.bool false)),.nil,.t (.leaf (.int .i64 0)),.t (.leaf (.string ⟨#[]⟩)),.t (.leaf (.string ⟨#[]⟩)),.t (.leaf (.int .i64 0)),.t (.leaf (.int .i64 0)),.t (.leaf (.string ⟨#[]⟩)),.nil,.nil,.nil]:=⟨by kernel_rfl⟩
instance av7:TU Tryz.prog 237 [(0,1),(1,1),(2,3),(5,1),(6,1),(7,9)]:=⟨by kernel_rfl⟩
instance aw3:SH Tryz.prog 242 (true,11):=⟨by kernel_rfl⟩
instance ax1:SZ Tryz.prog 242 11:=⟨by kernel_rfl⟩
instance asN:ZR Tryz.prog 242 [.t (.leaf (.string ⟨#[]⟩)),.nil,.t (.leaf (.int .i64 0)),.t (.leaf (.string ⟨#[]⟩)),.t (.leaf (.string ⟨#[]⟩)),.t (.leaf (.int .i64 0)),.t (.leaf (.int .i64 0)),.t (.leaf (.string ⟨#[]⟩)),.nil,.nil,.nil]:=⟨by kernel_rfl⟩
instance av8:TU Tryz.prog 242 [(0,1),(1,1),(2,9)]:=⟨by kernel_rfl⟩
instance aw4:SH Tryz.prog 245 (true,4):=⟨by kernel_rfl⟩
instance ax2:SZ Tryz.prog 245 4:=⟨by kernel_rfl⟩
instance ayW:ZR Tryz.prog 245 [.t (.leaf (.string ⟨#[]⟩)),.t (.leaf (.int .i64 0)),.t (.leaf (.string ⟨#[]⟩)),.nil]:=⟨by kernel_rfl⟩
instance av9:TU Tryz.prog 245 [(0,1),(1,3)]:=⟨by kernel_rfl⟩
instance aw5:SH Tryz.prog 262 (true,11):=⟨by kernel_rfl⟩
instance ax3:SZ Tryz.prog 262 11:=⟨by kernel_rfl⟩
instance ayX:ZR Tryz.prog 262 [.t (.leaf (.string ⟨#[]⟩)),.nil,.t (.leaf (.int .i64 0)),.t (.leaf (.string ⟨#[]⟩)),.t (.leaf (.string ⟨#[]⟩)),.t (.leaf (.int .i64 0)),.t (.leaf (.int .i64 0)),.t (.leaf (.string ⟨#[]⟩)),.nil,.nil,.nil]:=⟨by kernel_rfl⟩
instance awA:TU Tryz.prog 262 [(0,1),(1,1),(2,9)]:=⟨by kernel_rfl⟩
instance auN:FO Tryz.prog 26 0 0:=⟨by kernel_rfl⟩
instance auO:FO Tryz.prog 30 0 0:=⟨by kernel_rfl⟩
instance auP:FO Tryz.prog 30 1 1:=⟨by kernel_rfl⟩
instance auQ:FO Tryz.prog 30 2 2:=⟨by kernel_rfl⟩
instance auR:FO Tryz.prog 32 0 0:=⟨by kernel_rfl⟩
instance auS:FO Tryz.prog 32 1 1:=⟨by kernel_rfl⟩
instance auT:FO Tryz.prog 39 0 0:=⟨by kernel_rfl⟩
instance auU:FO Tryz.prog 39 1 1:=⟨by kernel_rfl⟩
instance auV:FO Tryz.prog 39 2 2:=⟨by kernel_rfl⟩
instance auW:FO Tryz.prog 44 0 0:=⟨by kernel_rfl⟩
instance auX:FO Tryz.prog 44 1 1:=⟨by kernel_rfl⟩
instance auY:FO Tryz.prog 46 0 0:=⟨by kernel_rfl⟩
instance auZ:FO Tryz.prog 46 1 1:=⟨by kernel_rfl⟩
instance au0:FO Tryz.prog 52 0 0:=⟨by kernel_rfl⟩
instance au1:FO Tryz.prog 52 1 1:=⟨by kernel_rfl⟩
instance au2:FO Tryz.prog 55 0 0:=⟨by kernel_rfl⟩
instance au3:FO Tryz.prog 55 1 1:=⟨by kernel_rfl⟩
instance au4:FO Tryz.prog 55 2 2:=⟨by kernel_rfl⟩
instance au5:FO Tryz.prog 55 3 4:=⟨by kernel_rfl⟩
instance au6:FO Tryz.prog 68 0 0:=⟨by kernel_rfl⟩
instance au7:FO Tryz.prog 68 1 1:=⟨by kernel_rfl⟩
instance au8:FO Tryz.prog 68 2 2:=⟨by kernel_rfl⟩
instance au9:FO Tryz.prog 99 0 0:=⟨by kernel_rfl⟩
instance avA:FO Tryz.prog 99 1 4:=⟨by kernel_rfl⟩
instance avB:FO Tryz.prog 99 2 5:=⟨by kernel_rfl⟩
instance asP:FO Tryz.prog 133 0 0:=⟨by kernel_rfl⟩
instance asQ:FO Tryz.prog 133 1 1:=⟨by kernel_rfl⟩
instance asR:FO Tryz.prog 133 2 2:=⟨by kernel_rfl⟩
instance asS:FO Tryz.prog 141 0 0:=⟨by kernel_rfl⟩
instance asT:FO Tryz.prog 141 1 1:=⟨by kernel_rfl⟩
instance asU:FO Tryz.prog 141 2 2:=⟨by kernel_rfl⟩
instance asV:FO Tryz.prog 141 3 3:=⟨by kernel_rfl⟩
instance asW:FO Tryz.prog 141 4 4:=⟨by kernel_rfl⟩
instance asX:FO Tryz.prog 141 5 5:=⟨by kernel_rfl⟩
instance asY:FO Tryz.prog 145 0 0:=⟨by kernel_rfl⟩
instance asZ:FO Tryz.prog 145 1 1:=⟨by kernel_rfl⟩
instance as0:FO Tryz.prog 156 0 0:=⟨by kernel_rfl⟩
instance as1:FO Tryz.prog 156 1 1:=⟨by kernel_rfl⟩
instance as2:FO Tryz.prog 156 2 2:=⟨by kernel_rfl⟩
instance as3:FO Tryz.prog 156 3 3:=⟨by kernel_rfl⟩
instance as4:FO Tryz.prog 156 4 4:=⟨by kernel_rfl⟩
instance as5:FO Tryz.prog 163 0 0:=⟨by kernel_rfl⟩
instance as6:FO Tryz.prog 163 1 1:=⟨by kernel_rfl⟩
instance as7:FO Tryz.prog 163 2 2:=⟨by kernel_rfl⟩
instance as8:FO Tryz.prog 163 3 5:=⟨by kernel_rfl⟩
instance as9:FO Tryz.prog 163 4 6:=⟨by kernel_rfl⟩
instance atA:FO Tryz.prog 163 5 7:=⟨by kernel_rfl⟩
instance atB:FO Tryz.prog 163 6 8:=⟨by kernel_rfl⟩
instance atC:FO Tryz.prog 163 7 11:=⟨by kernel_rfl⟩
instance atE:FO Tryz.prog 189 0 0:=⟨by kernel_rfl⟩
instance atF:FO Tryz.prog 189 1 1:=⟨by kernel_rfl⟩
instance atG:FO Tryz.prog 211 0 0:=⟨by kernel_rfl⟩
instance atH:FO Tryz.prog 211 1 1:=⟨by kernel_rfl⟩
instance atI:FO Tryz.prog 211 2 2:=⟨by kernel_rfl⟩
instance atJ:FO Tryz.prog 211 3 3:=⟨by kernel_rfl⟩
instance atK:FO Tryz.prog 211 4 4:=⟨by kernel_rfl⟩
instance atL:FO Tryz.prog 211 5 7:=⟨by kernel_rfl⟩
instance atM:FO Tryz.prog 211 6 8:=⟨by kernel_rfl⟩
instance atN:FO Tryz.prog 213 0 0:=⟨by kernel_rfl⟩
instance atO:FO Tryz.prog 213 1 1:=⟨by kernel_rfl⟩
instance atP:FO Tryz.prog 213 2 2:=⟨by kernel_rfl⟩
instance atQ:FO Tryz.prog 213 3 3:=⟨by kernel_rfl⟩
instance atR:FO Tryz.prog 213 4 4:=⟨by kernel_rfl⟩
instance atS:FO Tryz.prog 213 5 7:=⟨by kernel_rfl⟩
instance atT:FO Tryz.prog 220 0 0:=⟨by kernel_rfl⟩
instance atU:FO Tryz.prog 220 1 1:=⟨by kernel_rfl⟩
instance atV:FO Tryz.prog 220 2 2:=⟨by kernel_rfl⟩
instance atW:FO Tryz.prog 220 3 3:=⟨by kernel_rfl⟩
instance atX:FO Tryz.prog 220 4 4:=⟨by kernel_rfl⟩
instance atY:FO Tryz.prog 237 0 0:=⟨by kernel_rfl⟩
instance atZ:FO Tryz.prog 237 1 1:=⟨by kernel_rfl⟩
instance at0:FO Tryz.prog 237 2 2:=⟨by kernel_rfl⟩
instance at1:FO Tryz.prog 237 3 5:=⟨by kernel_rfl⟩
instance at3:FO Tryz.prog 237 4 6:=⟨by kernel_rfl⟩
instance at4:FO Tryz.prog 237 5 7:=⟨by kernel_rfl⟩
instance at5:FO Tryz.prog 242 0 0:=⟨by kernel_rfl⟩
instance at6:FO Tryz.prog 242 1 1:=⟨by kernel_rfl⟩
instance at7:FO Tryz.prog 242 2 2:=⟨by kernel_rfl⟩
instance at8:FO Tryz.prog 245 0 0:=⟨by kernel_rfl⟩
instance at9:FO Tryz.prog 245 1 1:=⟨by kernel_rfl⟩
instance auA:FO Tryz.prog 262 0 0:=⟨by kernel_rfl⟩
instance auB:FO Tryz.prog 262 1 1:=⟨by kernel_rfl⟩
instance auC:FO Tryz.prog 262 2 2:=⟨by kernel_rfl⟩
instance auD:FQ Tryz.prog 189 0 (0,false,1):=⟨by kernel_rfl⟩
instance auE:FQ Tryz.prog 189 1 (1,false,1):=⟨by kernel_rfl⟩
theorem ar3:Tryz.prog.follows .mixedOrders=true:=by kernel_rfl
end Go.Proofs.YtfcoaagbccmahaaGreat

namespace Go.Proofs.YtfcoaagbccmahaaGreat
open Go.RowKit Go.WalkArith Go.IntWalk Go.WideShapes
theorem f6.set{ok:Nat→Nat→Prop}{st:c4}{m:jP}{w:World}{q:PV}: ∀ {ps:List PV} {vs:List Value} {j:Nat},f6 ok st m w ps vs→(∀v,vs[j]?=some v→RV ok st m w q v)→f6 ok st m w (ps.set j q) vs
 | [],[],j,_,_=>by simp [f6]
 |p::ps,v::vs,0,h,k=>⟨k v rfl,h.2⟩
 |p::ps,v::vs,j+1,h,k=>⟨h.1,f6.set h.2 fun u hu=>k u (by simpa using hu)⟩
 | [],_::_,_,h,_=>h.elim
 |_::_,[],_,h,_=>h.elim
section
variable {P:Program} {C:nR} {n:Nat} {s:AS}
theorem Wk.regBox{k j:Nat}{bx:c3}(E sz:Nat)(hsz:0<sz)(hb:s.st.boxes[k]?=some (some bx))(hj:bx.cells[j]?=some .nil):
 Wk C n s ⟨s.env,(s.st.addRow ⟨E,sz,[],false⟩).setBox k ⟨bx.ty,bx.cells.set j (.acc sz [] s.st.rows.length)⟩⟩:=fun m a w h=>by
 have hE:=DH (row:=⟨E,sz,[],false⟩) h.sto
 have hS:=GA (row:=⟨E,sz,[],false⟩) h.sto hsz rfl
 have h1:=h.step hE hS
 have hb1:(s.st.addRow ⟨E,sz,[],false⟩).boxes[k]?=some (some bx):=hb
 obtain⟨vs,hob,hcs⟩:=hS.box k bx hb1
 have hc:f6 (kJ C.av (s.st.addRow ⟨E,sz,[],false⟩) ⟨m.ρ,xC m.γ s.st.rows.length none⟩) (s.st.addRow ⟨E,sz,[],false⟩) ⟨m.ρ,xC m.γ s.st.rows.length none⟩ w (bx.cells.set j (.acc sz [] s.st.rows.length)) vs:=by
  refine f6.set hcs fun v hv=>?_
  obtain⟨u,hu,hr⟩:=hcs.get hj
  rw [hv] at hu
  cases hu
  obtain rfl:=(show v=_ from hr)
  exact⟨⟨E,sz,[],false⟩,by show(s.st.rows++ [_])[s.st.rows.length]?=_;simp,rfl,Nat.le_refl _,cD.nilRow _ _ _ _ (by unfold maxLen;omega),fun _=>by simp [b4,VV]⟩
 exact⟨_,h1.step (P0 hS hb1 rfl rfl rfl rfl fun _ _=>rfl) (XE hS hb1 rfl rfl rfl rfl (fun _ _=>rfl) hob hc)⟩
end
end Go.Proofs.YtfcoaagbccmahaaGreat

namespace Go.Proofs.YtfcoaagbccmahaaGreat
open Go.RowKit Go.WalkArith Go.IntWalk Go.WideShapes
section
variable {P:Program} {C:nR} {n:Nat} {s:AS} {o:Oper}
theorem apI{T:TypeId}(hT:P.underlying T=some .bool)(a b:Bool)(w:World):(Op.equalIn Op.maxDepth T (.bool a) (.bool b)).run P w= .ok (a==b) w:=by
 unfold Op.maxDepth Op.equalIn
 simp [run_underlying hT]
theorem bD.neqB{T yT:TypeId}{x y:Operand}{a b:Bool}(ho:o.op= .binOp .neq T x y yT)(hd:bJ o.dst n=true)(hx:s.ev x=some (.t (.leaf (.bool a))))(hy:s.ev y=some (.t (.leaf (.bool b))))(hT:P.underlying T=some .bool):
 bD P C n o s (s.putO o.dst (.t (.leaf (.bool (!decide (a=b)))))):=bD.bin ho hd hx hy (fun w=>by
  simp [eqGuard,binOp,Op.equal,apI hT]
  cases a<;>cases b<;>rfl) trivial
end
end Go.Proofs.YtfcoaagbccmahaaGreat

namespace Go.Proofs.YtfcoaagbccmahaaGreat
open Go.RowKit Go.WalkArith Go.IntWalk Go.WideShapes
inductive LR (σ β:Type) where
 |next (s:σ)
 |brk (s:σ)
 |ret (x:β)
def sw{α:Type}(b:Bool)(x y:α):α:=match b with
 |true=>x
 |false=>y
theorem kS{α:Type}{b:Bool}{x y z:α}(h:b=true)(k:x=z):sw b x y=z:=by rw [h];exact k
theorem jA{α:Type}{b:Bool}{x y z:α}(h:b=false)(k:y=z):sw b x y=z:=by rw [h];exact k
def lt{α β:Type}(x:α)(f:α→β):β:=f x
theorem ZW{α β:Type}{x y:α}{f:α→β}{z:β}(h:y=x)(k:f y=z):lt x f=z:=by subst h;exact k
noncomputable def gd{α:Type}(p:Prop)(x:Option α):Option α:= @ite _ p (Classical.propDecidable p) x none
theorem fT{α:Type}{p:Prop}{x z:Option α}(h:p)(k:x=z):gd p x=z:=by unfold gd;rw [if_pos h];exact k
theorem gdF{α:Type}{p:Prop}{x:Option α}(h: ¬p):gd p x=none:=by unfold gd;rw [if_neg h]
def bd{α β:Type}(m:Option α)(f:α→Option β):Option β:=match m with
 |none=>none
 |some a=>f a
theorem hY{α β:Type}{m:Option α}{f:α→Option β}{a:α}{z:Option β}(h:m=some a)(k:f a=z):bd m f=z:=by rw [h];exact k
def so{σ β:Type}(m:Option (β⊕σ))(f:σ→Option β):Option β:=match m with
 |none=>none
 |some (.inl x)=>some x
 |some (.inr s)=>f s
theorem UA{σ β:Type}{m:Option (β⊕σ)}{f:σ→Option β}{s:σ}{z:Option β}(h:m=some (.inr s))(k:f s=z):so m f=z:=by rw [h];exact k
theorem soL{σ β:Type}{m:Option (β⊕σ)}{f:σ→Option β}{x:β}(h:m=some (.inl x)):so m f=some x:=by rw [h];rfl
def loopN{σ β:Type}(f:Nat→σ→Option (LR σ β)):Nat→Nat→σ→Option (β⊕σ)
 |0,_,s=>some (.inr s)
 |k+1,i,s=>match f i s with
  |none=>none
  |some (.next s')=>loopN f k (i+1) s'
  |some (.brk s')=>some (.inr s')
  |some (.ret x)=>some (.inl x)
def loopW{σ β:Type}(f:σ→Option (LR σ β)):Nat→σ→Option (β⊕σ)
 |0,_=>none
 |k+1,s=>match f s with
  |none=>none
  |some (.next s')=>loopW f k s'
  |some (.brk s')=>some (.inr s')
  |some (.ret x)=>some (.inl x)
section
variable {σ β:Type} {f:Nat→σ→Option (LR σ β)} {n i:Nat} {s s':σ} {x:β} {R:Option (β⊕σ)}
theorem FB(h:i<n)(hJ:R=loopN f (n-i) i s)(e:f i s=some (.next s')):R=loopN f (n-(i+1)) (i+1) s':=by
 rw [hJ,show n-i=(n-(i+1))+1 by omega,loopN,e]
theorem al3(h:i<n)(hJ:R=loopN f (n-i) i s)(e:f i s=some (.brk s')):R=some (.inr s'):=by
 rw [hJ,show n-i=(n-(i+1))+1 by omega,loopN,e]
theorem al6(h:i<n)(hJ:R=loopN f (n-i) i s)(e:f i s=some (.ret x)):R=some (.inl x):=by
 rw [hJ,show n-i=(n-(i+1))+1 by omega,loopN,e]
theorem al4(h:n≤i)(hJ:R=loopN f (n-i) i s):R=some (.inr s):=by
 rw [hJ,show n-i=0 by omega,loopN]
end
section
variable {σ β:Type} {f:σ→Option (LR σ β)} {k:Nat} {s s':σ} {x:β} {R:Option (β⊕σ)}
end
section
variable {P:Program} {C:nR} {n:Nat} {s:AS} {Q:Exit→AS→Prop}
def QC(C:nR)(n:Nat)(Q:Exit→AS→Prop):Prop:= ∀e s s',Wk C n s s'→Q e s'→Q e s
def NC(C:nR)(n:Nat)(N:AS→Prop):Prop:= ∀s s',Wk C n s s'→N s'→N s
theorem ar4{c:Code}:NC C n (cO P C n c Q):=fun _ _ h k=>cO.weak h k
theorem aq0{N:AS→Prop}(hn:NC C n N)(hq:QC C n Q):QC C n (XI N Q):=fun e s s' h k=>by
 cases e with
 |normal=>exact hn s s' h k
 |_=>exact hq _ s s' h k
theorem apF{id:Nat}(hq:QC C n Q):QC C n (xL id Q):=fun e s s' h k=>by
 cases e with
 |exit i=>
  simp only [xL] at k ⊢
  split
  ·rename_i hi;rw [if_pos hi] at k;exact hq _ s s' h k
  ·rename_i hi;rw [if_neg hi] at k;exact hq _ s s' h k
 |_=>exact hq _ s s' h k
theorem aqZ{fn:Func}{R:PV→c4→Prop}:QC C n (BD P C n fn R):=fun e s s' h k=>⟨k.1,fun m a w hr=>by
 obtain⟨m',h'⟩:=h m a w hr
 exact k.2 m' a w h'⟩
end
end Go.Proofs.YtfcoaagbccmahaaGreat

namespace Go.Proofs.YtfcoaagbccmahaaGreat
open Go.RowKit Go.WalkArith Go.IntWalk Go.WideShapes
section
variable {P:Program} {C:nR} {n:Nat} {s:AS} {o:Oper}
theorem bD.makeSlice{T E sz by_ N:Nat}{x y:Operand}(ho:o.op= .makeSlice T x y)(hd:bJ o.dst n=true)(hx:s.ev x=some (.t (.leaf (.int .i64 (N:Int)))))(hy:s.ev y=some (.t (.leaf (.int .i64 (N:Int)))))
 (hT:elemOf? P T=some (E,sz,by_)) (hz:(P.info? E).bind (fun i=>i.zero.map (fun z=>z.cells.size))=some sz) (hsz:0<sz) (hb:by_*N≤281474976710656) (hN:N≤9223372036854775807):
 bD P C n o s ((⟨s.env,s.st.addRow ⟨E,sz,[],true⟩⟩:AS).putO o.dst (.full sz N s.st.rows.length)):=
 bD.run hd (s1:=⟨s.env,s.st.addRow ⟨E,sz,[],true⟩⟩) (fun m a w h=>by
  obtain⟨i,hu,hi,hs,hby⟩:=elemOf?.spec hT
  have h1:=(cD.leaf_eq (h.eval hx)).1
  have h2:=(cD.leaf_eq (h.eval hy)).1
  cases hzz:i.zero with
  |none=>simp [hi,hzz] at hz
  |some z=>
   have hb':(i.bytes:Int)*(N:Int)≤281474976710656:=by
    rw [hby]
    have:((by_*N:Nat):Int)≤281474976710656:=by omega
    rwa [Int.natCast_mul] at this
   have hr:=run_make (P:=P) w T E i z hu hi hzz .i64 .i64 N N (by omega) (Int.le_refl _) hb' (by omega)
   simp only [Int.toNat_natCast] at hr
   refine⟨.slice (some ⟨w.heap.size,0,none⟩) N N,⟨m.ρ,xC m.γ s.st.rows.length (some (w.heap.size,N))⟩,_,?_,PZ (row:=⟨E,sz,[],true⟩) (c:=N) (cur:=madeCells z.cells (N*i.size)) h.sto,XD (row:=⟨E,sz,[],true⟩) h.sto hsz rfl (by rw [size_madeCells,hs]) (by unfold maxLen;omega),?_⟩
   ·unfold execOp
    simp only [ho,h1,h2,Sem.run_bind,hr,Result.andThen_ok]
    rfl
   ·exact⟨⟨E,sz,[],true⟩,w.heap.size,by show(s.st.rows++ [_])[s.st.rows.length]?=_;simp,rfl,rfl,b4 _ _ _,rfl⟩) rfl
theorem bD.indexFull{T E sz by_ N r k:Nat}{x i:Operand}(ho:o.op= .indexAddr T x i)(hd:bJ o.dst n=true)(hx:s.ev x=some (.full sz N r))(hi:s.ev i=some (.t (.leaf (.int .i64 (k:Int)))))(hk:k<N)(hT:elemOf? P T=some (E,sz,by_)):
 bD P C n o s (s.putO o.dst (.rptr r k)):=
 bD.quiet (cQ hd) fun m a w h=>by
  obtain⟨row,g,h1,h2,h3,h4,h5⟩:=h.eval hx
  have h6:=(cD.leaf_eq (h.eval hi)).1
  refine⟨.pointer (some ⟨g,0+k*sz,none⟩),?_,row,g,N,h1,h3,h4,by rw [h2,Nat.zero_add]⟩
  unfold execOp
  simp only [ho,h5,h6,Sem.run_bind,run_indexAt' hT hk,Result.andThen_ok]
  rfl
theorem bD.storeRptr{T sz N r k:Nat}{x y:Operand}{row:l3}{p:PV}{e:List Tr}{es2:List (List Tr)}(j:Nat)(ho:o.op= .store T x y)(hx:s.ev x=some (.rptr r k))(hf:s.lk j=some (.full sz N r))(hrow:s.st.rows[r]?=some row)(hy:s.ev y=some p)(ht:uU p=true)
 (hle:sH (vO p) (e.map PV.t)) (hel:e.length=sz) (hflat:G4 (e.map PV.t)=true) (hT:(P.info? T).map (·.size)=some sz) (hk:k=row.es.length) (hkN:k<N) (he2:row.es++ [e]=es2):
 bD P C n o s ((⟨s.env,s.st.setRow r { row with es:=es2 }⟩:AS).delO o.dst):=
 bD.runU (s1:=⟨s.env,s.st.setRow r { row with es:=es2 }⟩) (fun m a w h=>by
  subst he2 hk
  obtain⟨vf,-,row0,g,q1,q2,q3,q4,q5⟩:=h.env j _ hf
  rw [hrow] at q1
  cases q1
  subst q2
  obtain⟨row1,g1,n1,p1,p3,p4,p5⟩:=h.eval hx
  rw [hrow] at p1
  cases p1
  rw [q4] at p4
  injection p4 with p4
  injection p4 with e1 e2
  subst e1 e2
  have hr:=sH.rv hle (IY (h.eval hy) (uU.ne ht))
  have hl:(a.eval y).cells.toList.length=row.sz:=by have:=hr.length;rw [List.length_map,hel] at this;exact this.symm
  obtain⟨hpos,hlens,hplace⟩:=h.sto.row r row hrow
  rcases hplace with⟨z1,-⟩|⟨g',c',cur,z1,hob,hcs,hfit,hmax,hrep⟩
  ·rw [q4] at z1;cases z1
  rw [q4] at z1
  injection z1 with z1
  injection z1 with e1 e2
  subst e1 e2
  have hfitc:row.es.length*row.sz+row.sz≤cur.size:=by
   rw [hcs]
   have:=Nat.mul_le_mul_right row.sz (Nat.succ_le_of_lt hkN)
   rwa [Nat.succ_mul] at this
  have hrun:=GH (P:=P) (T:=T) (d:=row.es.length*row.sz) (v:=a.eval y) hob (by rw [hT,← hl];simp) (by have hq:(a.eval y).cells.size=row.sz:=(by simpa using hl);omega) (G4.one hflat hr)
  have hsp: ∀q:Nat,q<row.es.length*row.sz→(splice cur (row.es.length*row.sz) (a.eval y).cells.toList)[q]?=cur[q]?:=fun q hq=>by
   unfold Go.Proofs.YtfcoaagbccmahaaGreat.splice
   rw [List.getElem?_toArray,List.append_assoc,List.getElem?_append_left (by simp;omega),List.getElem?_take,if_pos hq,Array.getElem?_toList]
  have hG:SV C.av s.st m w r row [e] g N (splice cur (row.es.length*row.sz) (a.eval y).cells.toList) (w.setRow g (splice cur (row.es.length*row.sz) (a.eval y).cells.toList)):=by
   refine⟨hrow,rfl,rfl,rfl,by simp,fun b hb hne=>setRow_other w g b _ hne,setRow_heap w g cur _ _ _ hob,?_,by simp only [List.length_singleton];omega,hmax,fun e' he'=>?_,fun i e' hi j' d hd=>?_,fun i e' hi j' d hd=>?_,.inl ⟨N,cur,q4,hob,fun o ho=>hsp o ho⟩,fun _=>q4⟩
   ·unfold Go.Proofs.YtfcoaagbccmahaaGreat.splice
    simp only [List.size_toArray,List.length_append,List.length_take,List.length_drop,Array.length_toList,hl]
    omega
   ·have:e'=e:=by simpa using he'
    rw [this];exact hel
   ·cases hrep with
    |row cf r1 r2 r3 r4=>
     obtain⟨b',off',hbo,hb',r5⟩:=r3 (by rintro e0;rw [e0] at hi;simp at hi)
     injection hbo with hbo
     injection hbo with e1 e2 e3
     subst e1 e2
     have hc:=(r5 i e' hi j' d hd).2
     rw [hob.cell,Nat.zero_add] at hc
     refine⟨cf i j',?_,r4 i e' hi j' d hd⟩
     have hi1:=cU hi
     have hj1:j'<row.sz:=by rw [← hlens e' (List.mem_of_getElem? hi)];exact cU hd
     have hlt:i*row.sz+j'<row.es.length*row.sz:=by
      have:(i+1)*row.sz≤row.es.length*row.sz:=Nat.mul_le_mul_right _ hi1
      rw [Nat.succ_mul] at this
      omega
     rw [hsp _ hlt];exact hc
   ·obtain⟨rfl,rfl⟩:i=0∧e'=e:=by
     rcases i with _|i
     ·simp at hi;exact⟨rfl,hi.symm⟩
     ·simp at hi
    obtain⟨v,hv,hrv⟩:=hr.get (j:=j') (p:= .t d) (by rw [List.getElem?_map,hd];rfl)
    refine⟨v,?_,hrv⟩
    have hjl:=cU hv
    unfold Go.Proofs.YtfcoaagbccmahaaGreat.splice
    have htl:(cur.toList.take (row.es.length*row.sz)).length=row.es.length*row.sz:=by simp;omega
    rw [List.getElem?_toArray,Nat.add_zero,List.append_assoc,List.getElem?_append_right (by rw [htl];omega),htl,Nat.add_sub_cancel_left,List.getElem?_append_left hjl,hv]
  have hgm:xC m.γ r (some (g,N))=m.γ:=by
   funext q
   by_cases hqr:q=r
   ·subst hqr;rw [b4,q4]
   ·rw [c6 hqr]
  refine⟨_,_,?_,hG.ev h.sto,hG.sto h.sto⟩
  unfold execOp
  simp only [ho,p5,Instr.storeAt,Instr.sureAddr,Sem.run_bind,Sem.run_pure,Result.andThen_ok,hrun]) rfl
theorem Wk.full{i E sz N r:Nat}{es:List (List Tr)}{b:Bool}(hx:s.lk i=some (.full sz N r))(hrow:s.st.rows[r]?=some ⟨E,sz,es,b⟩)(hl:es.length=N):Wk C n s (s.put i (.t (.row sz es))):=fun m a w h=>by
 refine⟨m,h.dfr,h.tsz,h.sto,fun j q hq=>?_,h.ev⟩
 rw [AS.lk_put] at hq
 split at hq
 ·rename_i e
  subst e
  cases hq
  obtain⟨v,hv,row,g,q1,q2,q3,q4,q5⟩:=h.env j _ hx
  refine⟨v,hv,?_⟩
  rw [hrow] at q1
  cases q1
  obtain⟨-,-,hplace⟩:=h.sto.row r _ hrow
  rcases hplace with⟨z1,-⟩|⟨g',c',cur,z1,hob,hcs,hfit,hmax,hrep⟩
  ·rw [q4] at z1;cases z1
  rw [q4] at z1
  injection z1 with z1
  injection z1 with e1 e2
  subst e1 e2
  subst q5
  show cD _ _ (.row sz es) _
  have:cD (kJ C.av s.st m) w (.row sz es) (.slice (some ⟨g,0,none⟩) es.length N):=hrep
  rw [hl] at this
  exact this
 ·exact h.env j q hq
end
end Go.Proofs.YtfcoaagbccmahaaGreat

namespace Go.Proofs.YtfcoaagbccmahaaGreat
open Go.RowKit Go.WalkArith Go.IntWalk Go.WideShapes
def ET(v:ByteArray)(k:Nat):UInt8:=(v[k]?).getD 0
section
variable {P:Program} {C:nR} {n:Nat} {s:AS} {o:Oper}
theorem asH(b:UInt8):sI (.int .u8 (b.toNat:Int)):=by
 have:=b.toNat_lt
 simp [sI,Lit.wf,IntKind.min,IntKind.max,IntKind.bits,IntKind.signed]
 omega
theorem bD.indexS{T:TypeId}{x i:Operand}{v:ByteArray}{k:Nat}(ho:o.op= .index T x i)(hd:bJ o.dst n=true)(hx:s.ev x=some (.t (.leaf (.string v))))(hi:s.ev i=some (.t (.leaf (.int .i64 (k:Int)))))(hk:k<v.size)(hT:P.underlying T=some .string):
 bD P C n o s (s.putO o.dst (.t (.leaf (.int .u8 ((ET v k).toNat:Int))))):=
 bD.quiet (cQ hd) fun m a w h=>by
  have h1:=(cD.leaf_eq (h.eval hx)).1
  have h2:=(cD.leaf_eq (h.eval hi)).1
  refine⟨.int .u8 ((ET v k).toNat:Int),?_,cD.leaf (asH _)⟩
  have h3:v[k]?=some v[k]:=by simp [hk]
  unfold execOp
  simp [ho,h1,h2,Instr.index,asIntOf,run_underlying hT,h3,ET]
theorem bD.indexSI{T:TypeId}{x i:Operand}{v:ByteArray}{y:Int}(ho:o.op= .index T x i)(hd:bJ o.dst n=true)(hx:s.ev x=some (.t (.leaf (.string v))))(hi:s.ev i=some (.t (.leaf (.int .i64 y))))(h0:0≤y)(hk:y.toNat<v.size)(hT:P.underlying T=some .string):
 bD P C n o s (s.putO o.dst (.t (.leaf (.int .u8 ((ET v y.toNat).toNat:Int))))):=
 bD.indexS (k:=y.toNat) ho hd hx (by rw [hi,Int.toNat_of_nonneg h0]) hk hT
def SD(s:AS):Option Operand→Option Int
 |none=>some 0
 |some x=>match s.ev x with
  |some (.t (.leaf (.int .i64 y)))=>some y
  |_=>none
def CN(s:AS)(len:Nat):Option Operand→Option Int
 |none=>some (len:Int)
 |some x=>match s.ev x with
  |some (.t (.leaf (.int .i64 y)))=>some y
  |_=>none
theorem ahY{m:jP}{a:Act}{w:World}(h:RA C n s m a w){x:Operand}{y:Int}(hx:s.ev x=some (.t (.leaf (.int .i64 y)))):a.eval x= .int .i64 y:=(cD.leaf_eq (h.eval hx)).1
theorem SD.some'{x:Operand}{y:Int}(h:SD s (some x)=some y):s.ev x=some (.t (.leaf (.int .i64 y))):=by
 unfold SD at h
 simp only at h
 split at h
 ·rename_i z hz
  simp only [Option.some.injEq] at h
  rw [hz,h]
 ·cases h
theorem CN.some'{x:Operand}{y:Int}{len:Nat}(h:CN s len (some x)=some y):s.ev x=some (.t (.leaf (.int .i64 y))):=by
 unfold CN at h
 simp only at h
 split at h
 ·rename_i z hz
  simp only [Option.some.injEq] at h
  rw [hz,h]
 ·cases h
theorem VW{m:jP}{a:Act}{w:World}(h:RA C n s m a w){isS:Bool}{len cap:Nat}{lo hi:Option Operand}{l k:Int}(hlen:len≤cap)(h1:SD s lo=some l)(h2:CN s len hi=some k)(h3:0≤l)(h4:l≤k)(h5:k≤(len:Int)):
 (Instr.sliceBounds isS len cap (lo.map a.eval) (hi.map a.eval) none).run P w= .ok (l.toNat,k.toNat,cap) w:=by
 have hk:0≤k:=by omega
 have hkc:k≤(cap:Int):=by omega
 have hlk:l≤(k.toNat:Int):=by omega
 cases lo with
 |none=>
  simp only [SD,Option.some.injEq] at h1
  subst h1
  cases hi with
  |none=>
   simp only [CN,Option.some.injEq] at h2
   subst h2
   simp [Instr.sliceBounds]
  |some y=>
   have e:=ahY h (CN.some' h2)
   simp [Instr.sliceBounds,Instr.sliceBound,e,asIntOf,hk,hkc]
 |some x=>
  have e:=ahY h (SD.some' h1)
  cases hi with
  |none=>
   simp only [CN,Option.some.injEq] at h2
   subst h2
   simp [Instr.sliceBounds,Instr.sliceBound,e,asIntOf,h3,h4]
  |some y=>
   have e2:=ahY h (CN.some' h2)
   have hm:max k 0=k:=Int.max_eq_left hk
   simp [Instr.sliceBounds,Instr.sliceBound,e,e2,asIntOf,hk,hkc,h3,hlk,hm,h4]
   try omega
theorem bD.sliceS{T:TypeId}{x:Operand}{lo hi:Option Operand}{v:ByteArray}{l k:Int}(ho:o.op= .slice T x lo hi none)(hd:bJ o.dst n=true)(hx:s.ev x=some (.t (.leaf (.string v))))(h1:SD s lo=some l)(h2:CN s v.size hi=some k)(h3:0≤l∧l≤k∧k≤(v.size:Int))(hT:P.underlying T=some .string):
 bD P C n o s (s.putO o.dst (.t (.leaf (.string (v.extract l.toNat k.toNat))))):=
 bD.quiet (cQ hd) fun m a w h=>by
  obtain⟨e,h6⟩:=cD.leaf_eq (h.eval hx)
  have h6:v.size≤maxLen:=h6
  refine⟨.string (v.extract l.toNat k.toNat),?_,cD.leaf ?_⟩
  ·have hb:=VW (P:=P) h (isS:=false) (Nat.le_refl v.size) h1 h2 h3.1 h3.2.1 h3.2.2
   unfold execOp
   simp [ho,e,Instr.sliceAt,Instr.slice,run_underlying hT,hb]
  ·show(v.extract l.toNat k.toNat).size≤maxLen
   rw [ByteArray.size_extract]
   omega
theorem cD.part{ok:Nat→Nat→Prop}{w:World}{sz:Nat}{es:List (List Tr)}{a:Option Addr}{cap l k:Nat}(h:cD ok w (.row sz es) (.slice a es.length cap))(h1:l≤k)(h2:k≤es.length):cD ok w (.row sz ((es.take k).drop l)) (.slice (if cap=l then a else a.map (·.add (l*sz))) (k-l) (cap-l)):=by
 cases h with
 |row c q1 q2 q3 q4=>
  have hlen:((es.take k).drop l).length=k-l:=by simp;omega
  have hget: ∀(i:Nat) e,((es.take k).drop l)[i]?=some e→es[l+i]?=some e:=fun i e he=>by
   rw [List.getElem?_drop,List.getElem?_take] at he
   split at he
   ·exact he
   ·cases he
  have:=cD.row (ok:=ok) (w:=w) (sz:=sz) (es:=(es.take k).drop l) (a:=if cap=l then a else a.map (·.add (l*sz))) (cap:=cap-l) (fun i j=>c (l+i) j) (by rw [hlen];omega) (by omega) (fun hne=>?_) (fun i e he j d hd=>q4 _ e (hget i e he) j d hd)
  ·rwa [hlen] at this
  ·have hkl:l<k:=by
    rcases Nat.lt_or_ge l k with h|h
    ·exact h
    ·exact absurd (List.length_eq_zero_iff.1 (by rw [hlen];omega)) hne
   obtain⟨b,off,rfl,hb,q5⟩:=q3 (by rintro rfl;simp at h2;omega)
   refine⟨b,off+l*sz,?_,hb,fun i e he j d hd=>?_⟩
   ·rw [if_neg (by omega)]
    have hadd:(⟨b,off,none⟩:Addr).add (l*sz)=⟨b,off+l*sz,none⟩:=by unfold Addr.add;split<;>simp_all
    simp [hadd]
   ·have:=q5 (l+i) e (hget i e he) j d hd
    rw [show off+l*sz+i*sz+j=off+(l+i)*sz+j by rw [Nat.add_mul];omega]
    exact this
theorem bD.sliceR{T E sz by_:Nat}{x:Operand}{lo hi:Option Operand}{p:PV}{es:List (List Tr)}{l k:Int}(ho:o.op= .slice T x lo hi none)(hd:bJ o.dst n=true)(hx:s.ev x=some p)(hp:lB p=some (sz,es))(h1:SD s lo=some l)(h2:CN s es.length hi=some k)(h3:0≤l∧l≤k∧k≤(es.length:Int))(hT:elemOf? P T=some (E,sz,by_)):
 bD P C n o s (s.putO o.dst (.t (.row sz ((es.take k.toNat).drop l.toNat)))):=
 bD.quiet (cQ hd) fun m a w h=>by
  have hr:=sY hp (h.eval hx)
  obtain⟨i,hu,hi',hs,-⟩:=elemOf?.spec hT
  obtain⟨ad,cap,hv,hlc,hcm⟩:=hr.shape
  rw [hv] at hr
  refine⟨_,?_,hr.part (l:=l.toNat) (k:=k.toNat) (by omega) (by omega)⟩
  have hb:=VW (P:=P) h (isS:=true) hlc h1 h2 h3.1 h3.2.1 h3.2.2
  unfold execOp
  simp [ho,hv,Instr.sliceAt,Instr.slice,run_underlying hu,hb,Go.sizeOf,typeInfo,hi',hs]
theorem bD.eqlP{T yT:TypeId}{x y:Operand}{a b c d:Int}(ho:o.op= .binOp .eql T x y yT)(hd:bJ o.dst n=true)(hx:s.ev x=some (.agg [.t (.leaf (.int .i64 a)),.t (.leaf (.int .i64 b))]))(hy:s.ev y=some (.agg [.t (.leaf (.int .i64 c)),.t (.leaf (.int .i64 d))]))
 (hg:P.eqGuardType P.depth T=false) (hq: ∀(a b c d:Int) (w:World),(Op.equalIn Op.maxDepth T (.agg #[.int .i64 a,.int .i64 b]) (.agg #[.int .i64 c,.int .i64 d])).run P w= .ok (decide (a=c)&&decide (b=d)) w):
 bD P C n o s (s.putO o.dst (.t (.leaf (.bool (decide (a=c)&&decide (b=d)))))):=
 bD.quiet (cQ hd) fun m ac w h=>by
  obtain⟨vs,h1,h2⟩:=h.eval hx
  obtain⟨us,k1,k2⟩:=h.eval hy
  obtain⟨v0,v1,rfl⟩: ∃v0 v1,vs= [v0,v1]:=by
   have:=h2.length
   match vs,this with
   | [v0,v1],_=>exact⟨v0,v1,rfl⟩
  obtain⟨u0,u1,rfl⟩: ∃v0 v1,us= [v0,v1]:=by
   have:=k2.length
   match us,this with
   | [v0,v1],_=>exact⟨v0,v1,rfl⟩
  obtain⟨rfl,-⟩:=cD.leaf_eq h2.1
  obtain⟨rfl,-⟩:=cD.leaf_eq h2.2.1
  obtain⟨rfl,-⟩:=cD.leaf_eq k2.1
  obtain⟨rfl,-⟩:=cD.leaf_eq k2.2.1
  refine⟨.bool (decide (a=c)&&decide (b=d)),?_,cD.leaf trivial⟩
  unfold execOp
  simp [ho,h1,k1,eqGuard,hg,binOp,Op.equal,hq]
end
end Go.Proofs.YtfcoaagbccmahaaGreat

namespace Go.Proofs.YtfcoaagbccmahaaGreat
open Go.RowKit Go.Proofs
theorem apJ(a b:Int)(d:Nat)(w:World):(Op.equalIn (d+1) 3 (.int .i64 a) (.int .i64 b)).run Tryz.prog w= .ok (a==b) w:=by
 unfold Op.equalIn
 simp [run_underlying Tryz.underlying3]
theorem apT:Tryz.prog.stoodInHeld 52=false:=by kernel_rfl
theorem arU:Tryz.prog.eqGuardType Tryz.prog.depth 52=false:=by kernel_rfl
theorem arV(a b c d:Int)(w:World):(Op.equalIn Op.maxDepth 52 (.agg #[.int .i64 a,.int .i64 b]) (.agg #[.int .i64 c,.int .i64 d])).run Tryz.prog w= .ok (decide (a=c)&&decide (b=d)) w:=by
 show(Op.equalIn (9998+1+1) 52 _ _).run Tryz.prog w=_
 rw [Op.equalIn]
 have h3:=JD sh3.h
 have h4:=run_sizeOf' sh3.h
 simp [run_underlying Tryz.underlying52,apT,part,h3,h4,apJ]
 by_cases h1:a=c<;>by_cases h2:b=d<;>simp [h1,h2]
end Go.Proofs.YtfcoaagbccmahaaGreat

namespace Go.Proofs.YtfcoaagbccmahaaGreat
open Go.RowKit Go.WalkArith Go.IntWalk Go.WideShapes
instance:Inhabited ByteArray:=⟨⟨#[]⟩⟩
def aT{α:Type}[Inhabited α](l:List α)(k:Nat):α:=(l[k]?).getD default
theorem iV{α:Type}[Inhabited α]{l:List α}{k:Nat}(h:k<l.length):aT l k=l[k]:=by simp [aT,h]
theorem amX{l:List ByteArray}{k:Nat}(h:k<l.length):(aY l)[k]?=some [.leaf (.string (aT l k))]:=by rw [iV h];exact aaE h
theorem alZ{l:List Int}{k:Nat}(h:k<l.length):(d9 l)[k]?=some [.leaf (.int .i64 (aT l k))]:=by rw [iV h];exact al0 h
theorem ahT{l:List UInt8}{k:Nat}(h:k<l.length):(lF l)[k]?=some [.leaf (.int .u8 ((aT l k).toNat:Int))]:=by rw [iV h];exact AE h
theorem uW{a b c:Nat}(h:a+b≤68719476736)(hc:c≤2048):(a+b)*c≤140737488355328:=by
 have:=Nat.mul_le_mul h hc
 omega
theorem ag0(l:List ByteArray)(a b:Nat):((aY l).take b).drop a=aY ((l.take b).drop a):=by simp [aY,List.map_drop,List.map_take]
theorem bD.congrP{P:Program}{C:nR}{n:Nat}{s:AS}{o:Oper}{sz:Nat}{es es':List (List Tr)}(h:bD P C n o s (s.putO o.dst (.t (.row sz es))))(e:es=es'):bD P C n o s (s.putO o.dst (.t (.row sz es'))):=e ▸ h
theorem wE{a b:Nat}(h:decide ((a:Int)<(b:Int))=true):a<b:=zT h
theorem wD{a b:Nat}(h:decide ((a:Int)<(b:Int))=false):b≤a:=al9 h
theorem aiD{a:Nat}{b:Int}(h:decide ((a:Int)<b)=true):a<b.toNat:=by have:=of_decide_eq_true h;omega
theorem aiC{a:Nat}{b:Int}(h:decide ((a:Int)<b)=false):b.toNat≤a:=by have:=of_decide_eq_false h;omega
def rN(s:c4)(fb0 fr0:List Nat)(pre:c4):List Nat→List (Option c3)→Prop
 | [],[]=>True
 |k::fb,some x::bs=>(∃y,s.boxes[k]?=some (some y)∧y.ty=x.ty∧sH y.cells (AV fb0 fr0 x.cells)∧lH pre x.cells=true)∧rN s fb0 fr0 pre fb bs
 |_,_=>False
def uE(s:c4):List Nat→List l3→Prop
 | [],[]=>True
 |r::fr,row::rs=>s.rows[r]?=some row∧uE s fr rs
 |_,_=>False
theorem rN.len{s pre:c4}{fb0 fr0:List Nat}: ∀ {fb:List Nat} {bs:List (Option c3)},rN s fb0 fr0 pre fb bs→fb.length=bs.length
 | [],[],_=>rfl
 |_::_,some _::_,h=>by simp [rN.len h.2]
 |_::_,none::_,h=>h.elim
 | [],_::_,h=>h.elim
 |_::_,[],h=>h.elim
theorem rN.get{s pre:c4}{fb0 fr0:List Nat}: ∀ {fb:List Nat} {bs:List (Option c3)},rN s fb0 fr0 pre fb bs→ ∀k,k<bs.length→ ∃x,bs[k]?=some (some x)∧ ∃y,s.boxes[fb.getD k 0]?=some (some y)∧y.ty=x.ty∧sH y.cells (AV fb0 fr0 x.cells)∧lH pre x.cells=true
 | [],[],_,k,h=>by simp at h
 |_::_,some x::_,h,0,_=>⟨x,rfl,h.1⟩
 |_::_,some _::_,h,k+1,hk=>by simpa using rN.get h.2 k (by simpa using hk)
 |_::_,none::_,h,_,_=>h.elim
 | [],_::_,h,_,_=>h.elim
 |_::_,[],h,_,_=>h.elim
theorem uE.len{s:c4}: ∀ {fr:List Nat} {rs:List l3},uE s fr rs→fr.length=rs.length
 | [],[],_=>rfl
 |_::_,_::_,h=>by simp [uE.len h.2]
 | [],_::_,h=>h.elim
 |_::_,[],h=>h.elim
theorem uE.get{s:c4}: ∀ {fr:List Nat} {rs:List l3},uE s fr rs→ ∀k row,rs[k]?=some row→s.rows[fr.getD k 0]?=some row
 | [],[],_,k,_,h=>by simp at h
 |_::_,_::_,h,0,row,hr=>by simp at hr;subst hr;exact h.1
 |_::_,_::_,h,k+1,row,hr=>by simpa using uE.get h.2 k row (by simpa using hr)
 | [],_::_,h,_,_,_=>h.elim
 |_::_,[],h,_,_,_=>h.elim
theorem eH.of{s pre:c4}{fb fr:List Nat}(hb:rN s fb fr pre fb pre.boxes)(hr:uE s fr pre.rows)(n1:fb.Nodup)(n2:fr.Nodup):eH s pre fb fr where
 fbl:=hb.len
 frl:=hr.len
 fbn:=n1
 frn:=n2
 all:=fun k hk=>by
  obtain⟨x,hx,-⟩:=hb.get k hk
  exact⟨x,hx⟩
 box:=fun k x hx=>by
  obtain⟨x',hx',h⟩:=hb.get k (List.getElem?_eq_some_iff.1 hx).1
  rw [hx] at hx'
  cases hx'
  exact h
 row:=hr.get
section
variable {P:Program} {C:nR} {n:Nat} {s:AS} {o:Oper}
theorem bD.callVPE{y:Operand}{f:FuncId}{fn:Func}{xs:List Operand}{ts:Array TypeId}{ps cs qs:List PV}{res:PV}{pre st' S:c4}(fb fr:List Nat)(ho:o.op= .call { callee:= .value y,args:=⟨xs⟩,argTypes:=ts })(hd:bJ o.dst n=true)(hy:s.ev y=some (.fn f cs))(hf:P.funcs[f]?=some fn)(hnm:(fn.name== "runtime.NumGoroutine")=false)(hb:fn.body.isNone=false)
 (hx:xs.map s.ev=ps.map some) (hS:s.st=S) (hp:eH S pre fb fr) (hle:sH (ps++cs) (AV fb fr qs)) (hok:lH pre qs=true) (hbl:st'.boxes.length=pre.boxes.length) (hrl:st'.rows.length=pre.rows.length) (hc:cB P f qs pre (fun r t=>r=res∧t=st')):
 bD P C n o s ((⟨s.env,S.over st' fb fr⟩:AS).putO o.dst (PV.ren fb fr res)):=by
 subst hS
 exact bD.enterP fb fr hd (fun m a w h=>by
  obtain⟨vs,h1,h2⟩:=h.eval hy
  refine⟨xs.map a.eval++vs,?_,f6.append (evL h hx) h2⟩
  have hcf:=hH (P:=P) hf hnm hb
  unfold execOp
  simp only [ho]
  simp [resolve,invoke,Deferred.ofValue,h1,hcf]) hp hle hok hbl hrl hc
theorem AL.skipP{ops:Array Oper}{rest:List Oper}{Q:Exit→AS→Prop}{j d:Nat}{b c e:Bool}(hg:o.guard=some (j,c))(hj:(ops[j]?).bind (·.dst)=some d)(hb:s.lk d=some (.t (.leaf (.bool b))))(hv:b=e)(hne:(e==c)=false)(hd:bJ o.dst n=true)(h:AL P C n ops rest Q (s.putO o.dst (.tup []))):AL P C n ops (o::rest) Q s:=fun m a w hr=>
 wpList_step fun K hK=>by
  subst hv
  rw [if_neg (by simpa [Region.wanted,hg,hr.yielded hj hb] using hne)]
  exact hK _ _ (h m _ w (hr.put (cQ hd) ⟨[],rfl,trivial⟩))
theorem AL.skipU{ops:Array Oper}{rest:List Oper}{Q:Exit→AS→Prop}{j d:Nat}{c:Bool}(hg:o.guard=some (j,c))(hj:(ops[j]?).bind (·.dst)=some d)(hb:s.lk d=some (.tup []))(hd:bJ o.dst n=true)(h:AL P C n ops rest Q (s.putO o.dst (.tup []))):AL P C n ops (o::rest) Q s:=fun m a w hr=>
 wpList_step fun K hK=>by
  have hy:yielded ops a.tmps j=none:=by
   obtain⟨v,hv,vs,rfl,hl⟩:=hr.env d _ hb
   simp [Go.yielded,hj,hv]
  rw [if_neg (by simp [Region.wanted,hg,hy])]
  exact hK _ _ (h m _ w (hr.put (cQ hd) ⟨[],rfl,trivial⟩))
theorem bD.buildSliceE{T E sz by_ len:Nat}{parts:Array (Nat×Operand)}{ps:List (Nat×List PV)}{zs cs:List PV}{es es':List (List Tr)}(ho:o.op= .buildSlice T len parts)(hd:bJ o.dst n=true)(hT:elemOf? P T=some (E,sz,by_))(hz:gR P E=some zs)(hp:l5 s parts.toList=some ps)
 (hc:sG (fun i=>some (i*sz,sz)) (List.replicate len zs).flatten ps=some cs) (hle:sH cs (es.flatten.map PV.t)) (hel:es.length=len) (hes: ∀e∈es,e.length=sz) (hsz:0<sz) (hzl:zs.length=sz) (hsm:len*sz≤16777216) (he:es=es'):
 bD P C n o s (s.putO o.dst (.t (.row sz es'))):=he ▸ bD.buildSliceQ ho hd hT hz hp hc hle hel hes hsz hzl hsm
theorem bD.buildSliceA{T E sz by_ len:Nat}{parts:Array (Nat×Operand)}{ps:List (Nat×List PV)}{zs cs:List PV}{es es':List (List Tr)}(ho:o.op= .buildSlice T len parts)(hd:bJ o.dst n=true)(hT:elemOf? P T=some (E,sz,by_))(hz:gR P E=some zs)(hp:l5 s parts.toList=some ps)
 (hc:sG (fun i=>some (i*sz,sz)) (List.replicate len zs).flatten ps=some cs) (hle:sH cs (es.flatten.map PV.t)) (hel:es.length=len) (hes: ∀e∈es,e.length=sz) (hsz:0<sz) (hzl:zs.length=sz) (hsm:len*sz≤16777216) (he:es=es'):
 bD P C n o s ((⟨s.env,s.st.addRow ⟨E,sz,es',false⟩⟩:AS).putO o.dst (.acc sz es' s.st.rows.length)):=he ▸ bD.buildSlice ho hd hT hz hp hc hle hel hes hsz hzl hsm
end
theorem eP{C:nR}{bs:List (Option c3)}{rs:List l3}{S:c4}(h:C.st=⟨bs,rs⟩)(hb: ∀k,k<bs.length→ ∃y,S.boxes[k]?=some (some y))(hl:rs.length≤S.rows.length):jS C.st S:=by
 rw [h]
 exact⟨fun k x hx=>hb k (List.getElem?_eq_some_iff.1 hx).1,fun k row hk=>⟨S.rows[k]'(Nat.lt_of_lt_of_le (List.getElem?_eq_some_iff.1 hk).1 hl),List.getElem?_eq_getElem _⟩⟩
theorem lE{S:c4}{x:c3}{bs:List (Option c3)}(h:S.boxes=some x::bs): ∀k,k<1→ ∃y,S.boxes[k]?=some (some y):=fun k hk=>by
 obtain rfl:k=0:=by omega
 exact⟨x,by rw [h];rfl⟩
theorem aqL{S:c4}{x y:c3}{bs:List (Option c3)}(h:S.boxes=some x::some y::bs): ∀k,k<2→ ∃y,S.boxes[k]?=some (some y):=fun k hk=>by
 rcases(by omega:k=0∨k=1) with rfl|rfl
 ·exact⟨x,by rw [h];rfl⟩
 ·exact⟨y,by rw [h];rfl⟩
theorem aqM{S:c4}{x y z:c3}{bs:List (Option c3)}(h:S.boxes=some x::some y::some z::bs): ∀k,k<3→ ∃y,S.boxes[k]?=some (some y):=fun k hk=>by
 rcases(by omega:k=0∨k=1∨k=2) with rfl|rfl|rfl
 ·exact⟨x,by rw [h];rfl⟩
 ·exact⟨y,by rw [h];rfl⟩
 ·exact⟨z,by rw [h];rfl⟩
theorem aqK{S:c4}: ∀k,k<0→ ∃y,S.boxes[k]?=some (some y):=fun k hk=>absurd hk (Nat.not_lt_zero _)
instance:Inhabited aF:=⟨.mk 0 0⟩
theorem aF.trs_at{l:List aF}{k:Nat}(h:k<l.length):(aF.trs l)[k]?=some (aT l k).cs:=by rw [iV h];exact aF.trs_cs h
instance:Inhabited aB:=⟨.mk ⟨#[]⟩ []⟩
theorem aB.trs_part(l:List aB)(a b:Nat):((aB.trs l).take b).drop a=aB.trs ((l.take b).drop a):=by rw [aB.trs_map,aB.trs_map,List.map_drop,List.map_take]
theorem aB.trs_at{l:List aB}{k:Nat}(h:k<l.length):(aB.trs l)[k]?=some (aT l k).cs:=by rw [iV h];exact aB.trs_cs h
instance:Inhabited aA:=⟨.mk 0 ⟨#[]⟩ []⟩
theorem aA.trs_part(l:List aA)(a b:Nat):((aA.trs l).take b).drop a=aA.trs ((l.take b).drop a):=by rw [aA.trs_map,aA.trs_map,List.map_drop,List.map_take]
theorem aA.trs_at{l:List aA}{k:Nat}(h:k<l.length):(aA.trs l)[k]?=some (aT l k).cs:=by rw [iV h];exact aA.trs_cs h
instance:Inhabited aJ:=⟨.mk ⟨#[]⟩ default⟩
theorem aJ.trs_at{l:List aJ}{k:Nat}(h:k<l.length):(aJ.trs l)[k]?=some (aT l k).cs:=by rw [iV h];exact aJ.trs_cs h
instance:Inhabited aM:=⟨.mk 0 ⟨#[]⟩ ⟨#[]⟩ 0 default [] []⟩
theorem aM.trs_at{l:List aM}{k:Nat}(h:k<l.length):(aM.trs l)[k]?=some (aT l k).cs:=by rw [iV h];exact aM.trs_cs h
instance:Inhabited bV:=⟨.mk ⟨#[]⟩ [] default⟩
theorem bV.trs_at{l:List bV}{k:Nat}(h:k<l.length):(bV.trs l)[k]?=some (aT l k).cs:=by rw [iV h];exact bV.trs_cs h
instance:Inhabited aG:=⟨.mk ⟨#[]⟩ [] default false [] default⟩
theorem aG.trs_at{l:List aG}{k:Nat}(h:k<l.length):(aG.trs l)[k]?=some (aT l k).cs:=by rw [iV h];exact aG.trs_cs h
instance:Inhabited aV:=⟨.mk ⟨#[]⟩ [] false false []⟩
theorem aV.trs_at{l:List aV}{k:Nat}(h:k<l.length):(aV.trs l)[k]?=some (aT l k).cs:=by rw [iV h];exact aV.trs_cs h
instance:Inhabited aE:=⟨.mk ⟨#[]⟩ []⟩
theorem aE.trs_part(l:List aE)(a b:Nat):((aE.trs l).take b).drop a=aE.trs ((l.take b).drop a):=by rw [aE.trs_map,aE.trs_map,List.map_drop,List.map_take]
theorem aE.trs_at{l:List aE}{k:Nat}(h:k<l.length):(aE.trs l)[k]?=some (aT l k).cs:=by rw [iV h];exact aE.trs_cs h
instance:Inhabited aO:=⟨.mk ⟨#[]⟩ [] []⟩
theorem aO.trs_at{l:List aO}{k:Nat}(h:k<l.length):(aO.trs l)[k]?=some (aT l k).cs:=by rw [iV h];exact aO.trs_cs h
instance:Inhabited aD:=⟨.mk ⟨#[]⟩ default⟩
theorem aD.trs_at{l:List aD}{k:Nat}(h:k<l.length):(aD.trs l)[k]?=some (aT l k).cs:=by rw [iV h];exact aD.trs_cs h
instance:Inhabited aQ:=⟨.mk ⟨#[]⟩ [] default⟩
theorem aQ.trs_at{l:List aQ}{k:Nat}(h:k<l.length):(aQ.trs l)[k]?=some (aT l k).cs:=by rw [iV h];exact aQ.trs_cs h
instance:Inhabited aL:=⟨.mk ⟨#[]⟩ [] default [] false false default []⟩
theorem aL.trs_at{l:List aL}{k:Nat}(h:k<l.length):(aL.trs l)[k]?=some (aT l k).cs:=by rw [iV h];exact aL.trs_cs h
instance:Inhabited aW:=⟨.mk ⟨#[]⟩ default⟩
theorem aW.trs_at{l:List aW}{k:Nat}(h:k<l.length):(aW.trs l)[k]?=some (aT l k).cs:=by rw [iV h];exact aW.trs_cs h
instance:Inhabited aP:=⟨.mk ⟨#[]⟩ [] [] [] default default⟩
theorem aP.trs_at{l:List aP}{k:Nat}(h:k<l.length):(aP.trs l)[k]?=some (aT l k).cs:=by rw [iV h];exact aP.trs_cs h
instance:Inhabited aN:=⟨.mk ⟨#[]⟩ [] [] [] [] []⟩
theorem aN.trs_at{l:List aN}{k:Nat}(h:k<l.length):(aN.trs l)[k]?=some (aT l k).cs:=by rw [iV h];exact aN.trs_cs h
instance:Inhabited aH:=⟨.mk []⟩
theorem aH.trs_at{l:List aH}{k:Nat}(h:k<l.length):(aH.trs l)[k]?=some (aT l k).cs:=by rw [iV h];exact aH.trs_cs h
instance:Inhabited vJ:=⟨.mk default []⟩
instance:Inhabited aC:=⟨.mk 0 0 default []⟩
theorem aC.trs_at{l:List aC}{k:Nat}(h:k<l.length):(aC.trs l)[k]?=some (aT l k).cs:=by rw [iV h];exact aC.trs_cs h
instance:Inhabited aK:=⟨.mk default 0 []⟩
theorem aK.trs_at{l:List aK}{k:Nat}(h:k<l.length):(aK.trs l)[k]?=some (aT l k).cs:=by rw [iV h];exact aK.trs_cs h
instance:Inhabited dG:=⟨.mk ⟨#[]⟩ 0 0 0 false⟩
instance:Inhabited bC:=⟨.mk [] [] []⟩
theorem bC.trs_at{l:List bC}{k:Nat}(h:k<l.length):(bC.trs l)[k]?=some (aT l k).cs:=by rw [iV h];exact bC.trs_cs h
instance:Inhabited bP:=⟨.mk default []⟩
theorem bP.trs_at{l:List bP}{k:Nat}(h:k<l.length):(bP.trs l)[k]?=some (aT l k).cs:=by rw [iV h];exact bP.trs_cs h
end Go.Proofs.YtfcoaagbccmahaaGreat

namespace Go.Proofs.YtfcoaagbccmahaaGreat
open Go.RowKit Go.WalkArith Go.IntWalk Go.WideShapes
section
variable {P:Program} {C:nR} {n:Nat} {s:AS} {o:Oper}
theorem bD.buildSliceB{T E sz by_ len:Nat}{parts:Array (Nat×Operand)}{ps:List (Nat×List PV)}{zs cs:List PV}(ho:o.op= .buildSlice T len parts)(hd:bJ o.dst n=true)(hT:elemOf? P T=some (E,sz,by_))(hz:gR P E=some zs)(hp:l5 s parts.toList=some ps)
 (hc:sG (fun i=>some (i*sz,sz)) (List.replicate len zs).flatten ps=some cs) (hcl:cs.length=len*sz) (hsz:0<sz) (hzl:zs.length=sz) (hsm:len*sz≤16777216):
 bD P C n o s ((⟨s.env,s.st.addBox ⟨E,cs⟩⟩:AS).putO o.dst (.bsl s.st.boxes.length len)):=
 bD.run hd (s1:=⟨s.env,s.st.addBox ⟨E,cs⟩⟩) (fun m a w h=>by
  obtain⟨us,h1,h2,h3⟩:=bD.buildSlice_run ho hT hz hp hc hcl hsz hzl hsm h
  exact⟨_,_,_,h1,I1 (x:=⟨E,cs⟩),M9 (x:=⟨E,cs⟩) h.sto h2,⟨⟨E,cs⟩,by simp [c4.addBox]⟩,by simp [b4]⟩) rfl
theorem bD.buildSliceLE{T E sz by_ len:Nat}{parts:Array (Nat×Operand)}{ps:List (Nat×List PV)}{zs cs:List PV}{es es':List (List Tr)}(ho:o.op= .buildSlice T len parts)(hd:bJ o.dst n=true)(hT:elemOf? P T=some (E,sz,by_))(hz:gR P E=some zs)(hp:l5 s parts.toList=some ps)
 (hc:sG (fun i=>some (i*sz,sz)) (List.replicate len zs).flatten ps=some cs) (hle:sH cs (es.flatten.map PV.t)) (hel:es.length=len) (hes: ∀e∈es,e.length=sz) (hsz:0<sz) (hzl:zs.length=sz) (hsm:len*sz≤16777216) (he:es=es'):
 bD P C n o s (s.putO o.dst (.lit sz es')):=he ▸ bD.buildSliceL ho hd hT hz hp hc hle hel hes hsz hzl hsm
theorem bD.indexB{T E sz by_ k N i:Nat}{x y:Operand}(ho:o.op= .indexAddr T x y)(hd:bJ o.dst n=true)(hx:s.ev x=some (.bsl k N))(hy:s.ev y=some (.t (.leaf (.int .i64 (i:Int)))))(hi:i<N)(hT:elemOf? P T=some (E,sz,by_)):
 bD P C n o s (s.putO o.dst (.ptr k (i*sz))):=
 bD.quiet (cQ hd) fun m a w h=>by
  obtain⟨hb,hv⟩:=h.eval hx
  have h6:=(cD.leaf_eq (h.eval hy)).1
  refine⟨.pointer (some ⟨m.ρ k,0+i*sz,none⟩),?_,hb,by rw [Nat.zero_add]⟩
  unfold execOp
  simp only [ho,hv,h6,Sem.run_bind,run_indexAt' hT hi,Result.andThen_ok]
  rfl
theorem KV{T E sz by_:Nat}{x y:Operand}{es1 es2:List (List Tr)}{p:PV}(ho:o.op= .call { callee:= .builtin .append,args:= #[x,y],argTypes:= #[T,T] })
 (hx:s.ev x=some (.lit sz es1)) (hy:s.ev y=some p) (hp:lB p=some (sz,es2)) (h1: ∀e∈es1,e.length=sz) (h2: ∀e∈es2,e.length=sz) (hne:es2≠ []) (hsz:0<sz)
 (hT:elemOf? P T=some (E,sz,by_)) (hz:(P.info? E).bind (fun i=>i.zero.map (fun z=>z.cells.size))=some sz) (hb:0<by_) (hlen:(es1.length+es2.length)*by_≤140737488355328) {m:jP} {a:Act} {w:World} (h:RA C n s m a w):
 ∃c cur w1,(execOp a.eval o).run P w= .ok (.value (.slice (some ⟨w.heap.size,0,none⟩) (es1.length+es2.length) c)) w1∧uB w w1∧OB w1 w.heap.size E cur∧es1.length+es2.length≤c∧c≤maxLen∧
  (∀q e,(es1++es2)[q]?=some e→ ∀j d,e[j]?=some d→ ∃v,cur[q*sz+j]?=some v∧cD (kJ C.av s.st m) w d v):=by
 obtain⟨i,hu,hi,hs,hby⟩:=elemOf?.spec hT
 obtain⟨hr1,ad,hv1⟩:=h.eval hx
 have hr2:=sY hp (h.eval hy)
 obtain⟨b,off,c2,news,hv2,hnl,hnews,hone,hnd⟩:=hr2.news h2 hne hsz
 have hpos2:0<es2.length:=List.length_pos_iff.2 hne
 have hlen:(es1.length+es2.length)*i.bytes≤140737488355328:=by rw [hby];exact hlen
 have h63:es1.length+es2.length≤140737488355328:=Nat.le_trans (Nat.le_mul_of_pos_right _ (by omega)) hlen
 have hrun: ∀v w1,(Builtin.append_ #[T,T] o.type #[a.eval x,a.eval y]).run P w= .ok v w1→(execOp a.eval o).run P w= .ok (.value v) w1:=fun v w1 hr=>by
  unfold execOp
  simp only [ho,resolve,invoke,builtin,Sem.run_bind,Sem.run_pure,Result.andThen_ok,List.map_toArray,List.map_cons,List.map_nil,hr]
 cases hzz:i.zero with
 |none=>simp [hi,hzz] at hz
 |some z=>
  have fin: ∀(olds:List Value) (cur:Array Value) (Z:List Value),cur.toList=olds++news++Z→olds.length=es1.length*sz→(∀i e,es1[i]?=some e→ ∀j d,e[j]?=some d→ ∃v,olds[i*sz+j]?=some v∧cD (kJ C.av s.st m) w d v)→
   ∀q e,(es1++es2)[q]?=some e→ ∀j d,e[j]?=some d→ ∃v,cur[q*sz+j]?=some v∧cD (kJ C.av s.st m) w d v:=fun olds cur Z hcur hol hod q e hq j d hj=>by
   rw [← Array.getElem?_toList,hcur,List.append_assoc]
   by_cases hlt:q<es1.length
   ·rw [List.getElem?_append_left hlt] at hq
    obtain⟨v,hv,hr⟩:=hod q e hq j d hj
    exact⟨v,by rw [List.getElem?_append_left (cU hv)];exact hv,hr⟩
   ·rw [List.getElem?_append_right (by omega)] at hq
    obtain⟨v,hv,hr⟩:=hnd _ e hq j d hj
    refine⟨v,?_,hr⟩
    have e1:q*sz+j=es1.length*sz+((q-es1.length)*sz+j):=by
     rw [← Nat.add_assoc,← Nat.add_mul]
     congr 2
     omega
    rw [e1,← hol,List.getElem?_append_right (by omega),Nat.add_sub_cancel_left,List.getElem?_append_left (cU hv)]
    exact hv
  have grow: ∀(A:Addr) (olds:List Value),ad=some A→olds.length=es1.length*sz→(∀j v,olds[j]?=some v→w.cell? (A.add j)=some v)→(∀i e,es1[i]?=some e→ ∀j d,e[j]?=some d→ ∃v,olds[i*sz+j]?=some v∧cD (kJ C.av s.st m) w d v)→
   ∃c cur w1,(execOp a.eval o).run P w= .ok (.value (.slice (some ⟨w.heap.size,0,none⟩) (es1.length+es2.length) c)) w1∧uB w w1∧OB w1 w.heap.size E cur∧es1.length+es2.length≤c∧c≤maxLen∧
    (∀q e,(es1++es2)[q]?=some e→ ∀j d,e[j]?=some d→ ∃v,cur[q*sz+j]?=some v∧cD (kJ C.av s.st m) w d v):=fun A olds hA hol hold hod=>by
   subst hA
   have happ:=run_append_grow (P:=P) w T o.type E i z hu hi hzz A es1.length es1.length olds (by rw [hs];exact hol) hold ⟨b,off,none⟩ es2.length c2 news (by rw [hnl,hs]) hnews (by omega) (by omega) (growslice_fits (by omega) hlen)
   rw [← hv2,← hv1] at happ
   have hge:=grownCap_ge w (es1.length+es2.length) es1.length E
   exact⟨_,_,_,hrun _ _ happ,.alloc (.drew (.refl _)) _,OB.new w.drew E _,hge,grownCap_le_maxLen w _ _ _ (by unfold maxLen;omega),fin olds _ _ (by simp;rfl) hol hod⟩
  by_cases he:es1= []
  ·cases ad with
   |none=>
    subst he
    have happ:=run_append_nil (P:=P) w T o.type E i z hu hi hzz ⟨b,off,none⟩ es2.length c2 news (by rw [hnl,hs]) hnews (by omega) (by omega) (by simp only [List.length_nil,Nat.zero_add] at hlen;omega)
    have hv1':a.eval x= .slice none 0 0:=hv1
    rw [← hv2,← hv1'] at happ
    have hge:=grownCap_ge w es2.length 0 E
    have hf:=fin [] (news.toArray++Builtin.zeroCells z.cells (grownCap w es2.length 0 E-es2.length)) (Builtin.zeroCells z.cells (grownCap w es2.length 0 E-es2.length)).toList (by simp) (by simp) (fun i e h=>by simp at h)
    have hcm:grownCap w es2.length 0 E≤maxLen:=grownCap_le_maxLen w _ _ _ (by unfold maxLen;omega)
    simp only [List.length_nil,Nat.zero_add,List.nil_append] at hf ⊢
    exact⟨_,_,_,hrun _ _ happ,.alloc (.drew (.refl _)) _,OB.new w.drew E _,by simpa using hge,hcm,hf⟩
   |some A=>
    subst he
    exact grow A [] rfl (by simp) (fun j v h=>by simp at h) (fun i e h=>by simp at h)
  ·obtain⟨b1,off1,c1,olds,hv1',hol,hold,-,hod⟩:=hr1.news h1 he hsz
   have hva:=hv1.symm.trans hv1'
   injection hva with e1 e2 e3
   exact grow _ olds e1 hol hold hod
theorem bD.appendLit{T E sz by_:Nat}{x y:Operand}{es1 es2 es3:List (List Tr)}{p:PV}(ho:o.op= .call { callee:= .builtin .append,args:= #[x,y],argTypes:= #[T,T] })(hd:bJ o.dst n=true)
 (hx:s.ev x=some (.lit sz es1)) (hy:s.ev y=some p) (hp:lB p=some (sz,es2)) (h1: ∀e∈es1,e.length=sz) (h2: ∀e∈es2,e.length=sz) (hne:es2≠ []) (hsz:0<sz)
 (hT:elemOf? P T=some (E,sz,by_)) (hz:(P.info? E).bind (fun i=>i.zero.map (fun z=>z.cells.size))=some sz) (hb:0<by_) (hlen:(es1.length+es2.length)*by_≤140737488355328) (h3:es1++es2=es3):
 bD P C n o s (s.putO o.dst (.t (.row sz es3))):=by
 subst h3
 refine bD.quietX hd fun m a w h=>?_
 obtain⟨c,cur,w1,hr,hX,hob,hc,hm,hget⟩:=KV ho hx hy hp h1 h2 hne hsz hT hz hb hlen h
 refine⟨_,w1,hr,hX,?_⟩
 have:=cD.row (ok:=kJ C.av s.st m) (w:=w1) (es:=es1++es2) (sz:=sz) (a:=some ⟨w.heap.size,0,none⟩) (cap:=c) (fun q j=>(cur[q*sz+j]?).getD undef) (by rw [List.length_append];exact hc) hm (fun _=>⟨w.heap.size,0,rfl,hob.lt,fun q e hq j d hd=>⟨T4 h.sto (Nat.le_refl _) _,?_⟩⟩) (fun q e hq j d hd=>?_)
 ·rw [List.length_append] at this
  exact this
 ·obtain⟨v,hv,-⟩:=hget q e hq j d hd
  rw [Nat.zero_add,hob.cell,hv]
  rfl
 ·obtain⟨v,hv,hr⟩:=hget q e hq j d hd
  rw [hv]
  exact cD.ext hr hX
theorem R8{α:Type}{sz:Nat}(hsz:0<sz): ∀ {es:List (List α)} {k:Nat} {d:α},(∀e∈es,e.length=sz)→es.flatten[k]?=some d→ ∃e,es[k/sz]?=some e∧e[k%sz]?=some d
 | [],k,d,_,h=>by simp at h
 |e::es,k,d,hl,h=>by
  have he:=hl e (by simp)
  rw [List.flatten_cons] at h
  by_cases hk:k<sz
  ·rw [List.getElem?_append_left (by omega)] at h
   exact⟨e,by rw [Nat.div_eq_of_lt hk];rfl,by rw [Nat.mod_eq_of_lt hk];exact h⟩
  ·rw [List.getElem?_append_right (by omega),he] at h
   obtain⟨e2,h1,h2⟩:=R8 hsz (fun e he=>hl e (by simp [he])) h
   obtain⟨j,rfl⟩: ∃j,k=j+sz:=⟨k-sz,by omega⟩
   rw [Nat.add_sub_cancel] at h1 h2
   exact⟨e2,by rw [Nat.add_div_right _ hsz];exact h1,by rw [Nat.add_mod_right];exact h2⟩
theorem bD.appendLitB{T E sz by_:Nat}{x y:Operand}{es1 es2:List (List Tr)}{cs:List PV}{p:PV}{len:Nat}(ho:o.op= .call { callee:= .builtin .append,args:= #[x,y],argTypes:= #[T,T] })(hd:bJ o.dst n=true)
 (hx:s.ev x=some (.lit sz es1)) (hy:s.ev y=some p) (hp:lB p=some (sz,es2)) (h1: ∀e∈es1,e.length=sz) (h2: ∀e∈es2,e.length=sz) (hne:es2≠ []) (hsz:0<sz)
 (hT:elemOf? P T=some (E,sz,by_)) (hz:(P.info? E).bind (fun i=>i.zero.map (fun z=>z.cells.size))=some sz) (hb:0<by_) (hlen:(es1.length+es2.length)*by_≤140737488355328) (hcs:(es1++es2).flatten.map PV.t=cs) (hl:es1.length+es2.length=len):
 bD P C n o s ((⟨s.env,s.st.addBox ⟨E,cs⟩⟩:AS).putO o.dst (.gsl s.st.boxes.length len)):=by
 subst hcs hl
 refine bD.run hd (s1:=⟨s.env,s.st.addBox ⟨E,(es1++es2).flatten.map PV.t⟩⟩) (fun m a w h=>?_) rfl
 obtain⟨c,cur,w1,hr,hX,hob,hc,hm,hget⟩:=KV ho hx hy hp h1 h2 hne hsz hT hz hb hlen h
 have hes: ∀e∈es1++es2,e.length=sz:=fun e he=>(List.mem_append.1 he).elim (h1 e) (h2 e)
 have hfl: ∀(k:Nat) d,(es1++es2).flatten[k]?=some d→ ∃v,cur[k]?=some v∧cD (kJ C.av s.st m) w d v:=fun k d hk=>by
  obtain⟨e,q1,q2⟩:=R8 hsz hes hk
  obtain⟨v,hv,hrv⟩:=hget _ e q1 _ d q2
  rw [Nat.div_add_mod'] at hv
  exact⟨v,hv,hrv⟩
 have hrvl:f6 (kJ C.av s.st m) s.st m w ((es1++es2).flatten.map PV.t) ((List.range' 0 (es1++es2).flatten.length).map fun k=>(cur[k]?).getD undef):=f6.of_fn 0 fun k d hk=>by
  obtain⟨v,hv,hrv⟩:=hfl k d hk
  rw [Nat.zero_add,hv]
  exact hrv
 have hE:Ev s.st m w (s.st.addBox ⟨E,(es1++es2).flatten.map PV.t⟩) ⟨xC m.ρ s.st.boxes.length w.heap.size,m.γ⟩ w1:=PY hX (Nat.le_refl _)
 have hobp:ZA w1 w.heap.size E ((List.range' 0 (es1++es2).flatten.length).map fun k=>(cur[k]?).getD undef):=by
  refine⟨cur.toList.drop (es1++es2).flatten.length,?_⟩
  have e1:((List.range' 0 (es1++es2).flatten.length).map fun k=>(cur[k]?).getD undef)++cur.toList.drop (es1++es2).flatten.length=cur.toList:=by
   have hle:(es1++es2).flatten.length≤cur.toList.length:=by
    rcases Nat.eq_zero_or_pos (es1++es2).flatten.length with h0|h0
    ·omega
    ·obtain⟨v,hv,-⟩:=hfl ((es1++es2).flatten.length-1) _ (List.getElem?_eq_getElem (by omega))
     rw [← Array.getElem?_toList] at hv
     have:=cU hv
     omega
   refine List.ext_getElem? fun k=>?_
   by_cases hk:k<(es1++es2).flatten.length
   ·rw [List.getElem?_append_left (by simpa using hk),List.getElem?_map,List.getElem?_range' (by simpa using hk)]
    obtain⟨v,hv,-⟩:=hfl k _ (List.getElem?_eq_getElem hk)
    simp only [Option.map_some,Nat.zero_add,Nat.one_mul,hv,Option.getD_some]
    rw [← Array.getElem?_toList] at hv
    exact hv.symm
   ·rw [List.getElem?_append_right (by simpa using Nat.le_of_not_lt hk),List.getElem?_drop]
    congr 1
    simp
    simp at hk
    omega
  rw [e1]
  exact hob
 refine⟨_,_,w1,hr,hE,XC h.sto hX (Nat.le_refl _) hobp (f6.mono hE _ _ hrvl),⟨⟨E,(es1++es2).flatten.map PV.t⟩,by simp [c4.addBox]⟩,c,hc,hm,by simp [b4]⟩
theorem bD.indexG{T E sz by_ k N i:Nat}{x y:Operand}(ho:o.op= .indexAddr T x y)(hd:bJ o.dst n=true)(hx:s.ev x=some (.gsl k N))(hy:s.ev y=some (.t (.leaf (.int .i64 (i:Int)))))(hi:i<N)(hT:elemOf? P T=some (E,sz,by_)):
 bD P C n o s (s.putO o.dst (.ptr k (i*sz))):=
 bD.quiet (cQ hd) fun m a w h=>by
  obtain⟨hb,c,hc,hm,hv⟩:=h.eval hx
  have h6:=(cD.leaf_eq (h.eval hy)).1
  refine⟨.pointer (some ⟨m.ρ k,0+i*sz,none⟩),?_,hb,by rw [Nat.zero_add]⟩
  unfold execOp
  simp only [ho,hv,h6,Sem.run_bind,run_indexAt' hT hi,Result.andThen_ok]
  rfl
mutual
inductive XM (k sz:Nat) (es:List (List Tr)):PV→PV→Prop
 |le {p q:PV}:PV.Le p q→XM k sz es p q
 |bsl {n:Nat}:es.length=n→XM k sz es (.bsl k n) (.t (.row sz es))
 |bslL {n:Nat}:es.length=n→XM k sz es (.bsl k n) (.lit sz es)
 |gsl {n:Nat}:es.length=n→XM k sz es (.gsl k n) (.t (.row sz es))
 |agg {ps qs:List PV}:PH k sz es ps qs→XM k sz es (.agg ps) (.agg qs)
inductive PH (k sz:Nat) (es:List (List Tr)):List PV→List PV→Prop
 |nil:PH k sz es [] []
 |cons {p q:PV} {ps qs:List PV}:XM k sz es p q→PH k sz es ps qs→PH k sz es (p::ps) (q::qs)
end
def aaL(k sz:Nat)(es:List (List Tr))(st':c4):List (Option c3)→List (Option c3)→Prop
 |_,[]=>True
 |_::xs,none::ys=>aaL k sz es st' xs ys
 |some x::xs,some y::ys=>(x.ty=y.ty∧PH k sz es x.cells y.cells∧lH st' y.cells=true)∧aaL k sz es st' xs ys
 |_,_=>False
theorem aaL.get{k sz:Nat}{es:List (List Tr)}{st':c4}: ∀ {xs ys:List (Option c3)},aaL k sz es st' xs ys→ ∀(i:Nat) (y:c3),ys[i]?=some (some y)→ ∃x:c3,xs[i]?=some (some x)∧x.ty=y.ty∧PH k sz es x.cells y.cells∧lH st' y.cells=true
 |_,[],_,i,y,h=>by simp at h
 | [],none::ys,hl,i,y,h=>hl.elim
 |x::xs,none::ys,hl,0,y,h=>by simp at h
 |none::xs,none::ys,hl,i+1,y,h=>by simpa using aaL.get (xs:=xs) hl i y (by simpa using h)
 |some _::xs,none::ys,hl,i+1,y,h=>by simpa using aaL.get (xs:=xs) hl i y (by simpa using h)
 |some x::xs,some z::ys,hl,0,y,h=>by
  simp at h
  subst h
  exact⟨x,rfl,hl.1⟩
 |some x::xs,some z::ys,hl,i+1,y,h=>by simpa using aaL.get (xs:=xs) hl.2 i y (by simpa using h)
 | [],some _::_,hl,_,_,_=>hl.elim
 |none::_,some _::_,hl,_,_,_=>hl.elim
def akZ(k sz:Nat)(es:List (List Tr))(s:AS)(st':c4):List (Nat×PV)→Prop
 | []=>True
 |(i,q)::l=>(∃p,s.lk i=some p∧XM k sz es p q∧PV.okIn st' q=true)∧akZ k sz es s st' l
theorem akZ.get{k sz:Nat}{es:List (List Tr)}{s:AS}{st':c4}: ∀ {l:List (Nat×PV)} {i:Nat} {q:PV},akZ k sz es s st' l→l.lookup i=some q→ ∃p,s.lk i=some p∧XM k sz es p q∧PV.okIn st' q=true
 | [],_,_,_,h=>by simp at h
 |(j,p)::l,i,q,hl,h=>by
  rw [List.lookup_cons] at h
  by_cases hik:i=j
  ·subst hik
   simp at h
   subst h
   exact hl.1
  ·rw [show(i==j)=false by simp [hik]] at h
   exact akZ.get hl.2 h
mutual
theorem XM.rv{k sz:Nat}{es:List (List Tr)}{ok ok':Nat→Nat→Prop}{st st':c4}{m:jP}{w:World}(hle: ∀p v,PV.okIn st' p=true→RV ok st m w p v→RV ok' st' m w p v)(hb: ∀v c,es.length≤c→c≤maxLen→v= .slice (some ⟨m.ρ k,0,none⟩) es.length c→cD ok' w (.row sz es) v)(hm:es.length≤maxLen):
 ∀ {p q:PV} {v:Value},XM k sz es p q→PV.okIn st' q=true→RV ok st m w p v→RV ok' st' m w q v
 |_,_,_,.le h,hk,hr=>hle _ _ hk (h.rv hr)
 |_,_,_,.bsl h,_,hr=>hb _ _ (Nat.le_refl _) hm (h ▸ hr.2)
 |_,_,_,.bslL h,_,hr=>⟨hb _ _ (Nat.le_refl _) hm (h ▸ hr.2),_,h ▸ hr.2⟩
 |_,_,_,.gsl h,_,hr=>by
  obtain⟨-,c,hc,hcm,hv⟩:=hr
  subst h
  exact hb _ c hc hcm hv
 |_,_,_,.agg h,hk,hr=>by
  obtain⟨vs,hv,h1⟩:=hr
  exact⟨vs,hv,PH.rv hle hb hm h hk h1⟩
theorem PH.rv{k sz:Nat}{es:List (List Tr)}{ok ok':Nat→Nat→Prop}{st st':c4}{m:jP}{w:World}(hle: ∀p v,PV.okIn st' p=true→RV ok st m w p v→RV ok' st' m w p v)(hb: ∀v c,es.length≤c→c≤maxLen→v= .slice (some ⟨m.ρ k,0,none⟩) es.length c→cD ok' w (.row sz es) v)(hm:es.length≤maxLen):
 ∀ {ps qs:List PV} {vs:List Value},PH k sz es ps qs→lH st' qs=true→f6 ok st m w ps vs→f6 ok' st' m w qs vs
 |_,_,[],.nil,_,h=>trivial
 |_,_,_::_,.nil,_,h=>h.elim
 |_,_,[],.cons _ _,_,h=>h.elim
 |_,_,_::_,.cons k1 k2,hk,h=>by
  simp only [lH,Bool.and_eq_true] at hk
  exact⟨XM.rv hle hb hm k1 hk.1 h.1,PH.rv hle hb hm k2 hk.2 h.2⟩
end
theorem Wk.freeze{k sz:Nat}{bx:c3}{es:List (List Tr)}{s':AS}(hb:s.st.boxes[k]?=some (some bx))(hc:sH bx.cells (es.flatten.map PV.t))(hes: ∀e∈es,e.length=sz)(hm:es.length≤16777216)
 (hbox:aaL k sz es s'.st s.st.boxes s'.st.boxes) (hnone:s'.st.boxes[k]?=some none) (hr:s'.st.rows=s.st.rows) (hp:jS C.st s'.st) (he:akZ k sz es s s'.st s'.env):Wk C n s s':=fun m a w h=>by
 have hsub:C7 s.st s'.st:=⟨fun i x hi=>by obtain⟨y,hy,-⟩:=hbox.get i x hi;exact⟨y,hy⟩,fun r row hrow=>by rw [hr] at hrow;exact hrow⟩
 obtain⟨vs,hob,hvs⟩:=h.sto.box k bx hb
 have hts:=sH.rv hc hvs
 have hokk: ∀o,kJ C.av s'.st m (m.ρ k) o:=fun o=>⟨h.sto.avb k bx hb o,fun i x hi=>by
  obtain⟨y,hy,-⟩:=hbox.get i x hi
  by_cases hik:i=k
  ·subst hik
   rw [hnone] at hi
   cases hi
  ·exact h.sto.binj i k y bx hy hb hik,fun r row g c hrow hg e=>absurd e.symm (h.sto.br k bx r row g c hb (hsub.rows r row hrow) hg)⟩
 have hmm:es.length≤maxLen:=by unfold maxLen;omega
 have hRep: ∀v c,es.length≤c→c≤maxLen→v= .slice (some ⟨m.ρ k,0,none⟩) es.length c→cD (kJ C.av s'.st m) w (.row sz es) v:=by
  rintro _ c hc hcm rfl
  have hget: ∀q e,es[q]?=some e→ ∀j d,e[j]?=some d→ ∃v,vs[q*sz+j]?=some v∧cD (kJ C.av s.st m) w d v:=fun q e hq j d hj=>by
   have hf:=tX (sz:=sz) hes hq hj
   obtain⟨v,hv,hrv⟩:=hts.get (j:=q*sz+j) (p:= .t d) (by rw [List.getElem?_map,hf];rfl)
   exact⟨v,hv,hrv⟩
  refine cD.row (fun q j=>(vs[q*sz+j]?).getD undef) hc hcm (fun _=>⟨m.ρ k,0,rfl,hob.lt,fun q e hq j d hd=>⟨hokk _,?_⟩⟩) (fun q e hq j d hd=>?_)
  ·obtain⟨v,hv,-⟩:=hget q e hq j d hd
   rw [Nat.zero_add,hob.cell hv,hv]
   rfl
  ·obtain⟨v,hv,hrr⟩:=hget q e hq j d hd
   rw [hv]
   exact cD.mono hrr (Nat.le_refl _) (fun _ _ _ k=>hsub.ok k) (fun _ _ _ _=>rfl)
 have hle: ∀p v,PV.okIn s'.st p=true→RV (kJ C.av s.st m) s.st m w p v→RV (kJ C.av s'.st m) s'.st m w p v:=fun p v=>hsub.rv p v
 refine⟨m,h.dfr,h.tsz,?_,fun i q hq=>?_,?_⟩
 ·exact {
   box:=fun i x hi=>by
    obtain⟨y,hy,ht,hl,hk⟩:=hbox.get i x hi
    obtain⟨us,k1,k2⟩:=h.sto.box i y hy
    exact⟨us,by rw [← ht];exact k1,PH.rv hle hRep hmm hl hk k2⟩
   binj:=fun i i' x x' hi hi'=>by
    obtain⟨y,hy,-⟩:=hbox.get i x hi
    obtain⟨y',hy',-⟩:=hbox.get i' x' hi'
    exact h.sto.binj i i' y y' hy hy'
   row:=fun r row hrow=>by
    obtain⟨k1,k2,k3⟩:=h.sto.row r row (hsub.rows r row hrow)
    refine⟨k1,k2,?_⟩
    rcases k3 with k3|⟨g,c,cur,q1,q2,q3,q4,q5,q6⟩
    ·exact .inl k3
    ·exact .inr ⟨g,c,cur,q1,q2,q3,q4,q5,cD.mono q6 (Nat.le_refl _) (fun _ _ _ k=>hsub.ok k) (fun _ _ _ _=>rfl)⟩
   rinj:=fun r r' row row' g c c' hi hi'=>h.sto.rinj r r' row row' g c c' (hsub.rows r row hi) (hsub.rows r' row' hi')
   br:=fun i x r row g c hi hrow=>by
    obtain⟨y,hy,-⟩:=hbox.get i x hi
    exact h.sto.br i y r row g c hy (hsub.rows r row hrow)
   avlt:=h.sto.avlt
   avr:=fun r row g c hrow=>h.sto.avr r row g c (hsub.rows r row hrow)
   avb:=fun i x hi=>by
    obtain⟨y,hy,-⟩:=hbox.get i x hi
    exact h.sto.avb i y hy }
 ·obtain⟨p,h1,h2,h3⟩:=he.get hq
  obtain⟨v,hv,hrv⟩:=h.env i p h1
  exact⟨v,hv,XM.rv hle hRep hmm h2 h3 hrv⟩
 ·exact {
   os:=h.ev.os
   tape:=h.ev.tape
   output:=h.ev.output
   size:=h.ev.size
   blk:=h.ev.blk
   cell:=h.ev.cell
   okk:=fun b o hb ho=>(hsub.ok (av:=fun _ _=>False) ⟨id,h.ev.okk b o hb ho⟩).2
   live:=fun i x hi=>⟨hp.1 i x hi,(h.ev.live i x hi).2⟩
   fresh:=fun i x' hi=>by
    obtain⟨y,hy,-⟩:=hbox.get i x' hi
    exact h.ev.fresh i y hy
   rowl:=fun r row hrow=>by
    obtain⟨row',hr'⟩:=hp.2 r row hrow
    obtain⟨row2,h1,h2⟩:=h.ev.rowl r row hrow
    have:=hsub.rows r row' hr'
    rw [h1] at this
    cases this
    exact⟨_,hr',h2⟩
   rfresh:=fun r row' g c hrow hg=>h.ev.rfresh r row' g c (hsub.rows r row' hrow) hg }
end
theorem Wk.freezeE{C:nR}{n:Nat}{s:AS}{k sz:Nat}{bx:c3}{es es':List (List Tr)}{s':AS}(heq:es=es')(hb:s.st.boxes[k]?=some (some bx))(hc:sH bx.cells (es.flatten.map PV.t))(hes: ∀e∈es,e.length=sz)(hm:es.length≤16777216)
 (hbox:aaL k sz es' s'.st s.st.boxes s'.st.boxes) (hnone:s'.st.boxes[k]?=some none) (hr:s'.st.rows=s.st.rows) (hp:jS C.st s'.st) (he:akZ k sz es' s s'.st s'.env):Wk C n s s':=by
 subst heq
 exact Wk.freeze hb hc hes hm hbox hnone hr hp he
theorem dY{p:Prop}(h:p:=by(repeat' (first|exact XM.bsl rfl|exact XM.bslL rfl|exact XM.gsl rfl|exact PH.nil|apply PH.cons|exact XM.le (PV.Le.refl _)|exact XM.le (PV.Le.acc _ _ _)|exact XM.le (PV.Le.nil _)|exact XM.le (PV.Le.lit _ _)|exact XM.le (PV.Le.nilLit _)|apply XM.agg))):p:=h
end Go.Proofs.YtfcoaagbccmahaaGreat

namespace Go.Proofs.YtfcoaagbccmahaaGreat
open Go.RowKit Go.WalkArith Go.IntWalk Go.WideShapes
abbrev pI(x:Int):PV:= .t (.leaf (.int .i64 x))
abbrev pN(x:Nat):PV:= .t (.leaf (.int .i64 (x:Int)))
abbrev pU(x:UInt8):PV:= .t (.leaf (.int .u8 (x.toNat:Int)))
abbrev pS(x:ByteArray):PV:= .t (.leaf (.string x))
abbrev pB(x:Bool):PV:= .t (.leaf (.bool x))
abbrev rS(l:List ByteArray):PV:= .t (.row 1 (aY l))
abbrev rI(l:List Int):PV:= .t (.row 1 (d9 l))
abbrev rU(l:List UInt8):PV:= .t (.row 1 (lF l))
abbrev aS(l:List ByteArray)(r:Nat):PV:= .acc 1 (aY l) r
abbrev aI(l:List Int)(r:Nat):PV:= .acc 1 (d9 l) r
abbrev dC(d:DS):List PV:= [.t (.row 1 (lF d.code)),.t (.leaf (.int .i64 (d.p:Int))),.t (.leaf (.int .i64 d.h))]
class TC (α:Type) [Inhabited α] where
 cs:α→List Tr
 trs:List α→List (List Tr)
 sz:Nat
 at_: ∀ {l:List α} {k:Nat},k<l.length→(trs l)[k]?=some (cs (aT l k))
 len: ∀l:List α,(trs l).length=l.length
 map: ∀l:List α,trs l=l.map cs
 csz: ∀a,(cs a).length=sz
instance:TC ByteArray:=⟨fun x=> [.leaf (.string x)],aY,1,amX,b0,fun _=>rfl,fun _=>rfl⟩
instance:TC Int:=⟨fun x=> [.leaf (.int .i64 x)],d9,1,alZ,eG,fun _=>rfl,fun _=>rfl⟩
instance:TC UInt8:=⟨fun x=> [.leaf (.int .u8 (x.toNat:Int))],lF,1,ahT,qT,fun _=>rfl,fun _=>rfl⟩
section
variable {α:Type} [Inhabited α] [TC α]
theorem TC.all(l:List α): ∀e∈TC.trs l,e.length=TC.sz α:=fun e he=>by
 rw [TC.map] at he
 obtain⟨x,_,rfl⟩:=List.mem_map.1 he
 exact TC.csz x
theorem TC.app(a b:List α):TC.trs a++TC.trs b=TC.trs (a++b):=by rw [TC.map,TC.map,TC.map,List.map_append]
end
def Hd{β:Type}(m:Option β)(K:β→Prop):Prop:= ∃v,m=some v∧K v
section
variable {α β σ:Type} {K:β→Prop} {r:β}
theorem hd0{m:Option β}(h:m=some r):Hd m (fun v=>v=r):=⟨r,h,rfl⟩
theorem gdI{p:Prop}{x:Option β}(h:Hd (gd p x) K):p∧Hd x K:=by
 obtain⟨v,h1,h2⟩:=h
 by_cases hp:p
 ·rw [fT hp rfl] at h1;exact⟨hp,v,h1,h2⟩
 ·rw [gdF hp] at h1;cases h1
theorem bdI{o:Option α}{f:α→Option β}(h:Hd (bd o f) K): ∃a,o=some a∧Hd (f a) K:=by
 obtain⟨v,h1,h2⟩:=h
 cases o with
 |none=>cases h1
 |some a=>exact⟨a,rfl,v,h1,h2⟩
theorem cA{G p:Prop}{x:Option β}(h:Hd (gd p x) K)(k:p→Hd x K→G):G:=k (gdI h).1 (gdI h).2
theorem bM{G:Prop}{o:Option α}{f:α→Option β}(h:Hd (bd o f) K)(k: ∀a,o=some a→Hd (f a) K→G):G:=by
 obtain⟨a,h1,h2⟩:=bdI h
 exact k a h1 h2
theorem eF{G:Prop}{A B:Type}{o:Option (A×B)}{f:A×B→Option β}(h:Hd (bd o f) K)(k: ∀a b,o=some (a,b)→Hd (f (a,b)) K→G):G:=bM h fun _=>k _ _
theorem DC{G:Prop}{A B C:Type}{o:Option (A×B×C)}{f:A×B×C→Option β}(h:Hd (bd o f) K)(k: ∀a b c,o=some (a,b,c)→Hd (f (a,b,c)) K→G):G:=bM h fun _=>k _ _ _
theorem auK{G:Prop}{A B C D:Type}{o:Option (A×B×C×D)}{f:A×B×C×D→Option β}(h:Hd (bd o f) K)(k: ∀a b c d,o=some (a,b,c,d)→Hd (f (a,b,c,d)) K→G):G:=bM h fun _=>k _ _ _ _
theorem fZ{G:Prop}{x:α}{f:α→Option β}(h:Hd (lt x f) K)(k: ∀y,y=x→Hd (f y) K→G):G:=k x rfl h
theorem sE{b:Bool}{x y:Option β}(h:Hd (sw b x y) K)(e:b=true):Hd x K:=by subst e;exact h
theorem sD{b:Bool}{x y:Option β}(h:Hd (sw b x y) K)(e:b=false):Hd y K:=by subst e;exact h
theorem s3{v:β}(h:Hd (some v) K):K v:=by
 obtain⟨u,h1,h2⟩:=h
 cases h1
 exact h2
def SK(f:σ→Option β)(K:β→Prop):β⊕σ→Prop
 | .inl x=>K x
 | .inr s=>Hd (f s) K
theorem eJ{m:Option (β⊕σ)}{f:σ→Option β}(h:Hd (so m f) K):Hd m (SK f K):=by
 obtain⟨v,h1,h2⟩:=h
 cases m with
 |none=>cases h1
 |some a=>
  refine⟨a,rfl,?_⟩
  cases a with
  |inl x=>cases h1;exact h2
  |inr s=>exact⟨v,h1,h2⟩
def LK(f:Nat→σ→Option (LR σ β))(n i:Nat)(K:β⊕σ→Prop):LR σ β→Prop
 | .next s=>Hd (loopN f (n-(i+1)) (i+1) s) K
 | .brk s=>K (.inr s)
 | .ret x=>K (.inl x)
def LW(f:σ→Option (LR σ β))(k:Nat)(K:β⊕σ→Prop):LR σ β→Prop
 | .next s=>Hd (loopW f k s) K
 | .brk s=>K (.inr s)
 | .ret x=>K (.inl x)
theorem skL{f:σ→Option β}{x:β}(h:SK f K (.inl x)):K x:=h
theorem lkR{f:Nat→σ→Option (LR σ β)}{n i:Nat}{K:β⊕σ→Prop}{x:β}(h:LK f n i K (.ret x)):K (.inl x):=h
theorem lwR{f:σ→Option (LR σ β)}{k:Nat}{K:β⊕σ→Prop}{x:β}(h:LW f k K (.ret x)):K (.inl x):=h
theorem lnT{f:Nat→σ→Option (LR σ β)}{n i:Nat}{s:σ}{K:β⊕σ→Prop}(hl:i<n)(h:Hd (loopN f (n-i) i s) K):Hd (f i s) (LK f n i K):=by
 obtain⟨v,h1,h2⟩:=h
 rw [show n-i=(n-(i+1))+1 by omega,loopN] at h1
 cases hf:f i s with
 |none=>rw [hf] at h1;cases h1
 |some x=>
  rw [hf] at h1
  refine⟨x,rfl,?_⟩
  cases x with
  |next s'=>exact⟨v,h1,h2⟩
  |brk s'=>cases h1;exact h2
  |ret x=>cases h1;exact h2
theorem lnE{f:Nat→σ→Option (LR σ β)}{n i:Nat}{s:σ}{K:β⊕σ→Prop}(hl:n≤i)(h:Hd (loopN f (n-i) i s) K):K (.inr s):=by
 obtain⟨v,h1,h2⟩:=h
 rw [show n-i=0 by omega,loopN] at h1
 cases h1
 exact h2
theorem lwT{f:σ→Option (LR σ β)}{k:Nat}{s:σ}{K:β⊕σ→Prop}(h:Hd (loopW f k s) K): ∃k',k=k'+1∧Hd (f s) (LW f k' K):=by
 obtain⟨v,h1,h2⟩:=h
 cases k with
 |zero=>cases h1
 |succ k=>
  rw [loopW] at h1
  refine⟨k,rfl,?_⟩
  cases hf:f s with
  |none=>rw [hf] at h1;cases h1
  |some x=>
   rw [hf] at h1
   refine⟨x,rfl,?_⟩
   cases x with
   |next s'=>exact⟨v,h1,h2⟩
   |brk s'=>cases h1;exact h2
   |ret x=>cases h1;exact h2
end
section
variable {P:Program} {C:nR} {n:Nat} {s s':AS}
theorem SA{st':c4}(h:jS C.st st':=by first|exact ZQ (by assumption)|(refine eP (by assumption) ?_ ?_;(first|exact aqK|exact lE rfl|exact aqL rfl|exact aqM rfl);exact Nat.le_of_ble_eq_true rfl)):jS C.st st':=h
theorem SU{st st':c4}(hb:BG st' st.boxes st'.boxes:=by repeat' (first|exact trivial|refine⟨⟨rfl,iX,rfl⟩,?_⟩))(hr:st.rows.take st'.rows.length=st'.rows:=by first|rfl|simp):sN st st':=sN.mk' hb hr
theorem wkA(hst:sN s.st s'.st:=by exact SU)(hp:jS C.st s'.st:=by exact SA)(he:Y4 s s'.st s'.env:=by repeat' (first|exact trivial|refine⟨⟨_,rfl,iX,rfl⟩,?_⟩)):Wk C n s s':=Wk.mk hst hp he
end
theorem FF{P:Program}{f:FuncId}{args:List PV}{pre:c4}{q:PV}{y d:DS}{T:TypeId}(hy:y=d)(h:cB P f args pre (fun r t=>r=q∧t=DS.box T d)):cB P f args pre (fun r t=>r=q∧t=DS.box T y):=by subst hy;exact h
theorem ND{P:Program}{f:FuncId}{args:List PV}{pre:c4}{x z:ByteArray}{y d:DS}{T:TypeId}(hy:y=d)(hx:x=z)(h:cB P f args pre (fun r t=>r=pS z∧t=DS.box T d)):cB P f args pre (fun r t=>r=pS x∧t=DS.box T y):=by subst hy hx;exact h
def aqN{β σ:Type}(C:nR)(n:Nat)(I:σ→AS)(K:β⊕σ→Prop)(Q:Exit→AS→Prop):Exit→AS→Prop
 | .normal,s=> ∃v,K (.inr v)∧Wk C n s (I v)
 |e,s=>Q e s
def lpQ{β σ:Type}(C:nR)(n:Nat)(id:Nat)(I:Nat→σ→AS)(O:σ→AS)(f:Nat→σ→Option (LR σ β))(m i:Nat)(K:β⊕σ→Prop)(Q:Exit→AS→Prop):Exit→AS→Prop
 | .normal,s=>i<m∧ ∃v,Hd (loopN f (m-(i+1)) (i+1) v) K∧Wk C n s (I (i+1) v)
 | .exit j,s=>if j=id then ∃v,K (.inr v)∧Wk C n s (O v) else Q (.exit j) s
 |e,s=>Q e s
def lwQ{β σ:Type}(C:nR)(n:Nat)(id:Nat)(I:σ→AS)(O:σ→AS)(f:σ→Option (LR σ β))(k:Nat)(K:β⊕σ→Prop)(Q:Exit→AS→Prop):Exit→AS→Prop
 | .normal,s=> ∃v,Hd (loopW f k v) K∧Wk C n s (I v)
 | .exit j,s=>if j=id then ∃v,K (.inr v)∧Wk C n s (O v) else Q (.exit j) s
 |e,s=>Q e s
section
variable {P:Program} {C:nR} {n:Nat} {s:AS} {Q:Exit→AS→Prop} {β σ:Type}
theorem aqY{I:σ→AS}{K:β⊕σ→Prop}(hq:QC C n Q):QC C n (aqN C n I K Q):=fun e s s' h k=>by
 cases e with
 |normal=>obtain⟨v,h1,h2⟩:=k;exact⟨v,h1,h.trans h2⟩
 |_=>exact hq _ s s' h k
theorem ar9{id:Nat}{I:Nat→σ→AS}{O:σ→AS}{f:Nat→σ→Option (LR σ β)}{m i:Nat}{K:β⊕σ→Prop}(hq:QC C n Q):QC C n (lpQ C n id I O f m i K Q):=fun e s s' h k=>by
 cases e with
 |normal=>obtain⟨h0,v,h1,h2⟩:=k;exact⟨h0,v,h1,h.trans h2⟩
 |exit j=>
  simp only [lpQ] at k ⊢
  split
  ·rename_i hj;rw [if_pos hj] at k;obtain⟨v,h1,h2⟩:=k;exact⟨v,h1,h.trans h2⟩
  ·rename_i hj;rw [if_neg hj] at k;exact hq _ s s' h k
 |_=>exact hq _ s s' h k
theorem asA{id:Nat}{I:σ→AS}{O:σ→AS}{f:σ→Option (LR σ β)}{m:Nat}{K:β⊕σ→Prop}(hq:QC C n Q):QC C n (lwQ C n id I O f m K Q):=fun e s s' h k=>by
 cases e with
 |normal=>obtain⟨v,h1,h2⟩:=k;exact⟨v,h1,h.trans h2⟩
 |exit j=>
  simp only [lwQ] at k ⊢
  split
  ·rename_i hj;rw [if_pos hj] at k;obtain⟨v,h1,h2⟩:=k;exact⟨v,h1,h.trans h2⟩
  ·rename_i hj;rw [if_neg hj] at k;exact hq _ s s' h k
 |_=>exact hq _ s s' h k
theorem qcA(h:QC C n Q:=by repeat' (first|exact aqZ|exact ar4|apply aqY|apply ar9|apply asA|apply aq0|apply apF)):QC C n Q:=h
theorem nW{c:Code}{m:Option (β⊕σ)}{K:β⊕σ→Prop}(I:σ→AS)(H:Hd m K)(h:Hd m K→cO P C n c (aqN C n I K Q) s)(k: ∀v,K (.inr v)→Q .normal (I v))(hq:QC C n Q:=by exact qcA):cO P C n c Q s:=
 cO.mono (h H) fun e s' hc=>by
  cases e with
  |normal=>
   obtain⟨v,h1,h2⟩:=hc
   exact hq _ _ _ h2 (k v h1)
  |_=>exact hc
theorem auM{I:σ→AS}{K:β⊕σ→Prop}{e:Exit}(h: ∃v,K (.inr v)∧Wk C n s (I v))(he:e= .normal:=by exact rfl):aqN C n I K Q e s:=by subst he;exact h
theorem bU{c:Code}{id:Nat}{f:Nat→σ→Option (LR σ β)}{m i0:Nat}{v0:σ}{K:β⊕σ→Prop}(I:Nat→σ→AS)(O:σ→AS)(H:Hd (loopN f (m-i0) i0 v0) K)
 (round: ∀i v,Hd (loopN f (m-i) i v) K→cO P C n c (lpQ C n id I O f m i K Q) (I i v)) (k: ∀v,K (.inr v)→Q .normal (O v)) (h0:Wk C n s (I i0 v0):=by exact wkA) (hq:QC C n Q:=by exact qcA):cO P C n (.block id (.loop c)) Q s:=by
 refine cO.block ?_;refine cO.loopJ (ι:=Nat×σ) (fun x=>Hd (loopN f (m-x.1) x.1 x.2) K) (fun x=>I x.1 x.2) (fun x=>m-x.1) (i0,v0) H h0 ?_;rintro⟨i,v⟩ hj
 refine cO.mono (round i v hj) fun e s' h=>?_
 cases e with
 |normal=>
  obtain⟨h1,v',h2,h3⟩:=h
  exact⟨(i+1,v'),h2,h3,by show m-(i+1)<m-i;omega⟩
 |exit j=>
  simp only [lpQ] at h
  show xL id Q (.exit j) s'
  simp only [xL]
  split
  ·rename_i hj;rw [if_pos hj] at h;obtain⟨v',h1,h2⟩:=h;exact hq _ _ _ h2 (k v' h1)
  ·rename_i hj;rw [if_neg hj] at h;exact h
 |_=>exact h
theorem SC{c:Code}{id:Nat}{f:σ→Option (LR σ β)}{k0:Nat}{v0:σ}{K:β⊕σ→Prop}(I:σ→AS)(O:σ→AS)(H:Hd (loopW f k0 v0) K)
 (round: ∀k v,Hd (f v) (LW f k K)→cO P C n c (lwQ C n id I O f k K Q) (I v)) (k: ∀v,K (.inr v)→Q .normal (O v)) (h0:Wk C n s (I v0):=by exact wkA) (hq:QC C n Q:=by exact qcA):cO P C n (.block id (.loop c)) Q s:=by
 refine cO.block ?_;refine cO.loopJ (ι:=Nat×σ) (fun x=>Hd (loopW f x.1 x.2) K) (fun x=>I x.2) (fun x=>x.1) (k0,v0) H h0 ?_;rintro⟨i,v⟩ hj
 obtain⟨i',rfl,hj'⟩:=lwT (f:=f) (k:=i) (s:=v) hj
 refine cO.mono (round i' v hj') fun e s' h=>?_
 cases e with
 |normal=>
  obtain⟨v',h2,h3⟩:=h
  exact⟨(i',v'),h2,h3,by show i'<i'+1;omega⟩
 |exit j=>
  simp only [lwQ] at h
  show xL id Q (.exit j) s'
  simp only [xL]
  split
  ·rename_i hj;rw [if_pos hj] at h;obtain⟨v',h1,h2⟩:=h;exact hq _ _ _ h2 (k v' h1)
  ·rename_i hj;rw [if_neg hj] at h;exact h
 |_=>exact h
theorem lpN{id:Nat}{I:Nat→σ→AS}{O:σ→AS}{f:Nat→σ→Option (LR σ β)}{m i:Nat}{K:β⊕σ→Prop}{e:Exit}(hi:i<m)(h: ∃v,LK f m i K (.next v)∧Wk C n s (I (i+1) v))(he:e= .normal:=by exact rfl):lpQ C n id I O f m i K Q e s:=by subst he;exact⟨hi,h⟩
theorem lpX{id:Nat}{I:Nat→σ→AS}{O:σ→AS}{f:Nat→σ→Option (LR σ β)}{m i:Nat}{K:β⊕σ→Prop}{e:Exit}(h: ∃v,K (.inr v)∧Wk C n s (O v))(he:e= .exit id:=by exact rfl):lpQ C n id I O f m i K Q e s:=by
 subst he
 simp only [lpQ,if_pos]
 exact h
theorem lpB{id:Nat}{I:Nat→σ→AS}{O:σ→AS}{f:Nat→σ→Option (LR σ β)}{m i:Nat}{K:β⊕σ→Prop}{e:Exit}(h: ∃v,LK f m i K (.brk v)∧Wk C n s (O v))(he:e= .exit id:=by exact rfl):lpQ C n id I O f m i K Q e s:=lpX h he
theorem lwN{id:Nat}{I:σ→AS}{O:σ→AS}{f:σ→Option (LR σ β)}{k:Nat}{K:β⊕σ→Prop}{e:Exit}(h: ∃v,LW f k K (.next v)∧Wk C n s (I v))(he:e= .normal:=by exact rfl):lwQ C n id I O f k K Q e s:=by subst he;exact h
theorem lwB{id:Nat}{I:σ→AS}{O:σ→AS}{f:σ→Option (LR σ β)}{k:Nat}{K:β⊕σ→Prop}{e:Exit}(h: ∃v,LW f k K (.brk v)∧Wk C n s (O v))(he:e= .exit id:=by exact rfl):lwQ C n id I O f k K Q e s:=by
 subst he
 simp only [lwQ,if_pos]
 exact h
theorem dL{β:Type}{K:β→Prop}{x y:Option β}{ops:Array Oper}{l:List Oper}(d:Nat){b:Bool}(H:Hd (sw b x y) K)(h1:b=true→Hd x K→AL P C n ops l Q s)(h0:b=false→Hd y K→AL P C n ops l Q s)(hb:s.lk d=some (.t (.leaf (.bool b))):=by exact rfl):AL P C n ops l Q s:=AL.splitB d hb (fun h=>h1 h (sE H h)) (fun h=>h0 h (sD H h))
theorem bF{K:β→Prop}{c:Operand}{b:Bool}{x y:Option β}{cx cy:Code}(H:Hd (sw b x y) K)(ht:b=true→Hd x K→cO P C n cx Q s)(hf:b=false→Hd y K→cO P C n cy Q s)(hc:s.ev c=some (.t (.leaf (.bool b))):=by exact rfl):cO P C n (.cond c cx cy) Q s:=
 cO.cond hc (fun h=>ht h (sE H h)) fun h=>hf h (sD H h)
theorem ahV{c:Operand}{b:Bool}{cx cy:Code}(e:b=true)(h:cO P C n cx Q s)(hc:s.ev c=some (.t (.leaf (.bool b))):=by exact rfl):cO P C n (.cond c cx cy) Q s:=cO.cond hc (fun _=>h) fun h=>absurd (e.symm.trans h) (by decide)
theorem UP{c:Operand}{b:Bool}{cx cy:Code}(e:b=false)(h:cO P C n cy Q s)(hc:s.ev c=some (.t (.leaf (.bool b))):=by exact rfl):cO P C n (.cond c cx cy) Q s:=cO.cond hc (fun h=>absurd (e.symm.trans h) (by decide)) fun _=>h
theorem cT{K:β⊕σ→Prop}{f:Nat→σ→Option (LR σ β)}{m i:Nat}{v:σ}{c:Operand}{b:Bool}{cx cy:Code}(H:Hd (loopN f (m-i) i v) K)(ht:b=true→i<m→Hd (f i v) (LK f m i K)→cO P C n cx Q s)(hf:b=false→K (.inr v)→cO P C n cy Q s)(h1:b=true→i<m:=by first|exact wE|exact aiD)(h0:b=false→m≤i:=by first|exact wD|exact aiC)(hc:s.ev c=some (.t (.leaf (.bool b))):=by exact rfl):cO P C n (.cond c cx cy) Q s:=
 cO.cond hc (fun h=>ht h (h1 h) (lnT (h1 h) H)) fun h=>hf h (lnE (h0 h) H)
theorem qI{f:FuncId}{fn:Func}{c:Code}{args:List PV}{pre:c4}{R:PV→c4→Prop}(hf:P.funcs[f]?=some fn)(h: ∀C:nR,C.st=pre→cO P C fn.ntmps c (BD P C fn.ntmps fn R) ⟨G0 0 args,pre⟩)(hb:fn.body=some c:=by exact rfl)(hn:args.length≤fn.ntmps:=by first|decide|(simp;done)|(simp;decide)):cB P f args pre R:=cB.intro hf hb hn h
theorem qS{x y:Code}(h:cO P C n x (XI (cO P C n y Q) Q) s):cO P C n (.seq x y) Q s:=cO.seq h
theorem qR{id:Nat}{l:List Oper}(h:AL P C n l.toArray l Q s):cO P C n (.region id l.toArray false) Q s:=cO.region_lit h
theorem qN{ops:Array Oper}(h:Q .normal s):AL P C n ops [] Q s:=AL.nil h
theorem q1{ops:Array Oper}{o:Oper}{rest:List Oper}{s1:AS}(ho:bD P C n o s s1)(h:AL P C n ops rest Q s1)(hg:o.guard=none:=by exact rfl):AL P C n ops (o::rest) Q s:=AL.cons hg ho h
theorem qg{ops:Array Oper}{o:Oper}{rest:List Oper}{s1:AS}{j d:Nat}{b c:Bool}(hv:b=c)(ho:bD P C n o s s1)(h:AL P C n ops rest Q s1)(hg:o.guard=some (j,c):=by exact rfl)(hj:(ops[j]?).bind (·.dst)=some d:=by exact rfl)(hb:s.lk d=some (.t (.leaf (.bool b))):=by exact rfl):AL P C n ops (o::rest) Q s:=AL.cons_gv hg hj hb hv ho h
theorem qk{ops:Array Oper}{o:Oper}{rest:List Oper}{j d:Nat}{b c e:Bool}(hv:b=e)(h:AL P C n ops rest Q (s.putO o.dst (.tup [])))(hg:o.guard=some (j,c):=by exact rfl)(hj:(ops[j]?).bind (·.dst)=some d:=by exact rfl)(hb:s.lk d=some (.t (.leaf (.bool b))):=by exact rfl)(hne:(e==c)=false:=by exact rfl)(hd:bJ o.dst n=true:=by exact rfl):AL P C n ops (o::rest) Q s:=AL.skipP hg hj hb hv hne hd h
theorem qku{ops:Array Oper}{o:Oper}{rest:List Oper}{j d:Nat}{c:Bool}(h:AL P C n ops rest Q (s.putO o.dst (.tup [])))(hg:o.guard=some (j,c):=by exact rfl)(hj:(ops[j]?).bind (·.dst)=some d:=by exact rfl)(hb:s.lk d=some (.tup []):=by exact rfl)(hd:bJ o.dst n=true:=by exact rfl):AL P C n ops (o::rest) Q s:=AL.skipU hg hj hb hd h
theorem qe{fn:Func}{R:PV→c4→Prop}{e:Exit}{ps:List PV}{res q:PV}{st':c4}(hR:R q st':=by exact⟨rfl,rfl⟩)(hr:S5 P s fn.results.toList ps)(he:e= .normal∨e= .ret:=by first|exact .inr rfl|exact .inl rfl)(hres:(match ps with| [p]=>p|ps=> .tup ps)=res:=by exact rfl)
 (hst:sN s.st st':=by exact SU) (hp:jS C.st st':=by exact SA) (hle:PV.Le res q:=by exact iX) (hk:PV.okIn st' q=true:=by exact rfl):BD P C n fn R e s:=BD.mk he hr hres hst hp hle hk hR
theorem PG{fn:Func}{R:PV→c4→Prop}{e:Exit}{p q:PV}{st':c4}(hR:R q st':=by exact⟨rfl,rfl⟩)(hr:S5 P s fn.results.toList [p]:=by exact⟨rfl,trivial⟩)(he:e= .normal∨e= .ret:=by first|exact .inr rfl|exact .inl rfl)
 (hst:sN s.st st':=by exact SU) (hp:jS C.st st':=by exact SA) (hle:PV.Le p q:=by exact iX) (hk:PV.okIn st' q=true:=by exact rfl):BD P C n fn R e s:=BD.mk he hr rfl hst hp hle hk hR
theorem qe2{fn:Func}{R:PV→c4→Prop}{e:Exit}{p1 p2 q:PV}{st':c4}(hR:R q st':=by exact⟨rfl,rfl⟩)(hr:S5 P s fn.results.toList [p1,p2]:=by exact⟨rfl,rfl,trivial⟩)(he:e= .normal∨e= .ret:=by first|exact .inr rfl|exact .inl rfl)
 (hst:sN s.st st':=by exact SU) (hp:jS C.st st':=by exact SA) (hle:PV.Le (.tup [p1,p2]) q:=by exact iX) (hk:PV.okIn st' q=true:=by exact rfl):BD P C n fn R e s:=BD.mk he hr rfl hst hp hle hk hR
theorem qe3{fn:Func}{R:PV→c4→Prop}{e:Exit}{p1 p2 p3 q:PV}{st':c4}(hR:R q st':=by exact⟨rfl,rfl⟩)(hr:S5 P s fn.results.toList [p1,p2,p3]:=by exact⟨rfl,rfl,rfl,trivial⟩)(he:e= .normal∨e= .ret:=by first|exact .inr rfl|exact .inl rfl)
 (hst:sN s.st st':=by exact SU) (hp:jS C.st st':=by exact SA) (hle:PV.Le (.tup [p1,p2,p3]) q:=by exact iX) (hk:PV.okIn st' q=true:=by exact rfl):BD P C n fn R e s:=BD.mk he hr rfl hst hp hle hk hR
theorem fS(i:Nat){p:PV}{sz:Nat}{es:List (List Tr)}{N:Nat}{c:Code}(hl:es.length=N)(k:N≤9223372036854775807→cO P C n c Q s)(hx:s.lk i=some p:=by exact rfl)(hp:lB p=some (sz,es):=by exact rfl):cO P C n c Q s:=cO.fact (abH i hx hp hl) k
theorem szF(i:Nat){v:ByteArray}{c:Code}(k:v.size≤9223372036854775807→cO P C n c Q s)(hx:s.lk i=some (.t (.leaf (.string v))):=by exact rfl):cO P C n c Q s:=cO.fact (fun m a w h=>by
 obtain⟨u,-,hr⟩:=h.env i _ hx
 have h1:v.size≤maxLen:=(cD.leaf_eq hr).2
 unfold maxLen at h1
 omega) k
theorem X7(i:Nat){p:PV}{sz:Nat}{es:List (List Tr)}{N:Nat}{ops:Array Oper}{l:List Oper}(hl:es.length=N)(k:N≤9223372036854775807→AL P C n ops l Q s)(hx:s.lk i=some p:=by exact rfl)(hp:lB p=some (sz,es):=by exact rfl):AL P C n ops l Q s:=AL.fact (abH i hx hp hl) k
end
section
variable {P:Program} {C:nR} {n:Nat}
theorem dk{D:iA}{i j lo hi:Nat}{o:Oper}{b c e:Bool}(hv:b=e)(hg:o.guard=some (j,c):=by exact rfl)(hj:D.out j=some (.t (.leaf (.bool b))):=by exact rfl)(hk:D.kind i= .q lo hi:=by exact rfl)(hne:(e==c)=false:=by exact rfl)(ho:D.out i=some (.tup []):=by exact rfl)(hd:bJ o.dst n=true:=by exact rfl):D.step P C n i o:=
 .inr ⟨by subst hv;unfold iA.want;rw [hg];dsimp only;rw [hj];dsimp only;rw [hne],⟨_,_,hk⟩,.inr ⟨ho,hd⟩⟩
end
def pk{α:Type}[Inhabited α](l:List α)(j:Nat):α:=l.getD j (l.getLastD default)
instance:Inhabited DS:=⟨⟨[],0,0⟩⟩
instance:Inhabited PV:=⟨.nil⟩
instance:Inhabited c4:=⟨⟨[],[]⟩⟩
instance:Inhabited l3:=⟨⟨0,0,[],false⟩⟩
def evA(s:AS):List Operand→Option (List PV)
 | []=>some []
 |x::xs=>match s.ev x with
  |some p=>match evA s xs with
   |some ps=>some (p::ps)
   |none=>none
  |none=>none
theorem IZ{s:AS}: ∀ {xs:List Operand} {ps:List PV},evA s xs=some ps→xs.map s.ev=ps.map some
 | [],ps,h=>by cases h;rfl
 |x::xs,ps,h=>by
  unfold evA at h
  split at h
  ·rename_i p hp
   split at h
   ·rename_i qs hq
    cases h
    rw [List.map_cons,List.map_cons,hp,IZ hq]
   ·cases h
  ·cases h
section
variable {P:Program} {C:nR} {n:Nat} {s:AS} {o:Oper}
theorem bH{x:Operand}{p:PV}(ho:o.op= .move x∨o.op= .assign x:=by first|exact .inl rfl|exact .inr rfl)(hd:bJ o.dst n=true:=by exact rfl)(hx:s.ev x=some p:=by exact rfl):bD P C n o s (s.putO o.dst p):=bD.move ho hd hx
theorem rL1{T:TypeId}{x:Operand}{k d z:Nat}{bx:c3}{p:PV}(hT:iU P T=some (false,z))(ho:o.op= .load T x:=by exact rfl)(hd:bJ o.dst n=true:=by exact rfl)(hx:s.ev x=some (.ptr k d):=by exact rfl)(hb:s.st.boxes[k]?=some (some bx):=by exact rfl)(hc:bx.cells[d]?=some p:=by exact rfl):bD P C n o s (s.putO o.dst p):=bD.loadPtr1 ho hd hx hb hT hc
theorem rLp{T:TypeId}{x:Operand}{k d z:Nat}{bx:c3}(cs:List PV)(hT:iU P T=some (true,z))(ho:o.op= .load T x:=by exact rfl)(hd:bJ o.dst n=true:=by exact rfl)(hx:s.ev x=some (.ptr k d):=by exact rfl)(hb:s.st.boxes[k]?=some (some bx):=by exact rfl)(hc:(bx.cells.drop d).take z=cs:=by exact rfl)(hl:cs.length=z:=by exact rfl):bD P C n o s (s.putO o.dst (.agg cs)):=bD.loadPtr ho hd hx hb hT hc hl
theorem rK1{T:TypeId}{x:Operand}{z:Nat}{d:Tr}{cs:List Tr}(hT:iU P T=some (false,z))(ho:o.op= .load T x:=by exact rfl)(hd:bJ o.dst n=true:=by exact rfl)(hx:s.ev x=some (.eptr cs):=by exact rfl)(hc:cs[0]?=some d:=by exact rfl):bD P C n o s (s.putO o.dst (.t d)):=bD.loadEptr1 ho hd hx hT hc
theorem rKe{T:TypeId}{x:Operand}{z:Nat}{cs:List Tr}(ds:List Tr)(hT:iU P T=some (true,z))(ho:o.op= .load T x:=by exact rfl)(hd:bJ o.dst n=true:=by exact rfl)(hx:s.ev x=some (.eptr cs):=by exact rfl)(hc:cs.take z=ds:=by exact rfl)(hl:ds.length=z:=by exact rfl):bD P C n o s (s.putO o.dst (.agg (ds.map PV.t))):=bD.loadEptr ho hd hx hT hc hl
theorem rFp{T:TypeId}{x:Operand}{f k d e:Nat}(hf:sP P T f=some e)(ho:o.op= .fieldAddr T x f:=by exact rfl)(hd:bJ o.dst n=true:=by exact rfl)(hx:s.ev x=some (.ptr k d):=by exact rfl):bD P C n o s (s.putO o.dst (.ptr k (d+e))):=bD.fieldPtr ho hd hx hf
theorem rFe{T:TypeId}{x:Operand}{f e:Nat}{cs:List Tr}(hf:sP P T f=some e)(ho:o.op= .fieldAddr T x f:=by exact rfl)(hd:bJ o.dst n=true:=by exact rfl)(hx:s.ev x=some (.eptr cs):=by exact rfl):bD P C n o s (s.putO o.dst (.eptr (cs.drop e))):=bD.fieldEptr ho hd hx hf
theorem rAl{T:TypeId}{ps:List PV}(hz:gR P T=some ps)(ho:o.op= .alloc T:=by exact rfl)(hd:bJ o.dst n=true:=by exact rfl):bD P C n o s ((⟨s.env,s.st.addBox ⟨T,ps⟩⟩:AS).putO o.dst (.ptr s.st.boxes.length 0)):=bD.alloc ho hd hz
theorem fE{T:TypeId}{x:Operand}{p:PV}(cs:List PV)(ho:o.op= .box T x:=by exact rfl)(hd:bJ o.dst n=true:=by exact rfl)(hx:s.ev x=some p:=by exact rfl)(hc:vO p=cs:=by exact rfl)(ht:uU p=true:=by exact rfl):bD P C n o s ((⟨s.env,s.st.addBox ⟨T,cs⟩⟩:AS).putO o.dst (.ptr s.st.boxes.length 0)):=bD.box ho hd hx hc ht
theorem rSu{T:TypeId}{x y:Operand}{k d:Nat}{bx:c3}{p:PV}{cs ds:List PV}(hT:(P.info? T).map (·.size)=some cs.length)(ho:o.op= .store T x y:=by exact rfl)(hx:s.ev x=some (.ptr k d):=by exact rfl)(hb:s.st.boxes[k]?=some (some bx):=by exact rfl)(hy:s.ev y=some p:=by exact rfl)(hc:vO p=cs:=by exact rfl)(ht:uU p=true:=by exact rfl)(hf:G4 cs=true:=by exact rfl)
 (hfit:d+cs.length≤bx.cells.length:=by exact Nat.le_of_ble_eq_true rfl) (hds:bx.cells.take d++cs++bx.cells.drop (d+cs.length)=ds:=by exact rfl):bD P C n o s ((⟨s.env,s.st.setBox k ⟨bx.ty,ds⟩⟩:AS).delO o.dst):=bD.storePtr ho hx hb hy hc ht hf hT hfit hds
theorem rLn{T:TypeId}{x:Operand}{p:PV}{sz N:Nat}{es:List (List Tr)}{E:Nat×Nat×Nat}(hT:elemOf? P T=some E)(hl:es.length=N)(ho:o.op= .call { callee:= .builtin .len,args:= #[x],argTypes:= #[T] }:=by exact rfl)(hd:bJ o.dst n=true:=by exact rfl)(hx:s.ev x=some p:=by exact rfl)(hp:lB p=some (sz,es):=by exact rfl):bD P C n o s (s.putO o.dst (.t (.leaf (.int .i64 (N:Int))))):=bD.lenN ho hd hx hp hT hl
theorem rEq{T yT:TypeId}{x y:Operand}{k:IntKind}{a b:Int}(ho:o.op= .binOp .eql T x y yT:=by exact rfl)(hd:bJ o.dst n=true:=by exact rfl)(hx:s.ev x=some (.t (.leaf (.int k a))):=by exact rfl)(hy:s.ev y=some (.t (.leaf (.int k b))):=by exact rfl):bD P C n o s (s.putO o.dst (.t (.leaf (.bool (decide (a=b)))))):=bD.eqlI ho hd hx hy
theorem rNe{T yT:TypeId}{x y:Operand}{k:IntKind}{a b:Int}(ho:o.op= .binOp .neq T x y yT:=by exact rfl)(hd:bJ o.dst n=true:=by exact rfl)(hx:s.ev x=some (.t (.leaf (.int k a))):=by exact rfl)(hy:s.ev y=some (.t (.leaf (.int k b))):=by exact rfl):bD P C n o s (s.putO o.dst (.t (.leaf (.bool (!decide (a=b)))))):=bD.neqI ho hd hx hy
theorem rLt{T yT:TypeId}{x y:Operand}{k:IntKind}{a b:Int}(ho:o.op= .binOp .lss T x y yT:=by exact rfl)(hd:bJ o.dst n=true:=by exact rfl)(hx:s.ev x=some (.t (.leaf (.int k a))):=by exact rfl)(hy:s.ev y=some (.t (.leaf (.int k b))):=by exact rfl):bD P C n o s (s.putO o.dst (.t (.leaf (.bool (decide (a<b)))))):=bD.lss ho hd hx hy
theorem rLe{T yT:TypeId}{x y:Operand}{k:IntKind}{a b:Int}(ho:o.op= .binOp .leq T x y yT:=by exact rfl)(hd:bJ o.dst n=true:=by exact rfl)(hx:s.ev x=some (.t (.leaf (.int k a))):=by exact rfl)(hy:s.ev y=some (.t (.leaf (.int k b))):=by exact rfl):bD P C n o s (s.putO o.dst (.t (.leaf (.bool (decide (a≤b)))))):=bD.leq ho hd hx hy
theorem rGt{T yT:TypeId}{x y:Operand}{k:IntKind}{a b:Int}(ho:o.op= .binOp .gtr T x y yT:=by exact rfl)(hd:bJ o.dst n=true:=by exact rfl)(hx:s.ev x=some (.t (.leaf (.int k a))):=by exact rfl)(hy:s.ev y=some (.t (.leaf (.int k b))):=by exact rfl):bD P C n o s (s.putO o.dst (.t (.leaf (.bool (decide (a>b)))))):=bD.gtr ho hd hx hy
theorem rGe{T yT:TypeId}{x y:Operand}{k:IntKind}{a b:Int}(ho:o.op= .binOp .geq T x y yT:=by exact rfl)(hd:bJ o.dst n=true:=by exact rfl)(hx:s.ev x=some (.t (.leaf (.int k a))):=by exact rfl)(hy:s.ev y=some (.t (.leaf (.int k b))):=by exact rfl):bD P C n o s (s.putO o.dst (.t (.leaf (.bool (decide (a≥b)))))):=bD.geq ho hd hx hy
theorem rSe{T yT:TypeId}{x y:Operand}{a b:ByteArray}(ho:o.op= .binOp .eql T x y yT:=by exact rfl)(hd:bJ o.dst n=true:=by exact rfl)(hx:s.ev x=some (.t (.leaf (.string a))):=by exact rfl)(hy:s.ev y=some (.t (.leaf (.string b))):=by exact rfl):bD P C n o s (s.putO o.dst (.t (.leaf (.bool (decide (a=b)))))):=bD.eqlS ho hd hx hy
theorem rSn{T yT:TypeId}{x y:Operand}{a b:ByteArray}(ho:o.op= .binOp .neq T x y yT:=by exact rfl)(hd:bJ o.dst n=true:=by exact rfl)(hx:s.ev x=some (.t (.leaf (.string a))):=by exact rfl)(hy:s.ev y=some (.t (.leaf (.string b))):=by exact rfl):bD P C n o s (s.putO o.dst (.t (.leaf (.bool (!decide (a=b)))))):=bD.neqS ho hd hx hy
theorem J6{T:TypeId}{x:Operand}{b:Bool}(ho:o.op= .unOp .not T x:=by exact rfl)(hd:bJ o.dst n=true:=by exact rfl)(hx:s.ev x=some (.t (.leaf (.bool b))):=by exact rfl):bD P C n o s (s.putO o.dst (.t (.leaf (.bool (!b))))):=bD.notB ho hd hx
theorem rAw{T yT:TypeId}{x y:Operand}{k:IntKind}{a b:Int}(ho:o.op= .binOp .add T x y yT:=by exact rfl)(hd:bJ o.dst n=true:=by exact rfl)(hx:s.ev x=some (.t (.leaf (.int k a))):=by exact rfl)(hy:s.ev y=some (.t (.leaf (.int k b))):=by exact rfl):bD P C n o s (s.putO o.dst (.t (.leaf (.int k (k.wrap (a+b)))))):=bD.addW ho hd hx hy
theorem rSw{T yT:TypeId}{x y:Operand}{k:IntKind}{a b:Int}(ho:o.op= .binOp .sub T x y yT:=by exact rfl)(hd:bJ o.dst n=true:=by exact rfl)(hx:s.ev x=some (.t (.leaf (.int k a))):=by exact rfl)(hy:s.ev y=some (.t (.leaf (.int k b))):=by exact rfl):bD P C n o s (s.putO o.dst (.t (.leaf (.int k (k.wrap (a-b)))))):=bD.subW ho hd hx hy
theorem rIx{α:Type}[Inhabited α][TC α]{l:List α}{T E sz by_:Nat}{x i:Operand}{p:PV}{k:Nat}(h:k<l.length)(hT:elemOf? P T=some (E,sz,by_))(ho:o.op= .indexAddr T x i:=by exact rfl)(hd:bJ o.dst n=true:=by exact rfl)(hx:s.ev x=some p:=by exact rfl)(hp:lB p=some (sz,TC.trs l):=by exact rfl)(hi:s.ev i=some (.t (.leaf (.int .i64 (k:Int)))):=by exact rfl):bD P C n o s (s.putO o.dst (.eptr (TC.cs (aT l k)))):=bD.index ho hd hx hp hi (TC.at_ h) hT
theorem rIy{α:Type}[Inhabited α][TC α]{l:List α}{T E sz by_:Nat}{x i:Operand}{p:PV}{y:Int}(h:0≤y∧y.toNat<l.length)(hT:elemOf? P T=some (E,sz,by_))(ho:o.op= .indexAddr T x i:=by exact rfl)(hd:bJ o.dst n=true:=by exact rfl)(hx:s.ev x=some p:=by exact rfl)(hp:lB p=some (sz,TC.trs l):=by exact rfl)(hi:s.ev i=some (.t (.leaf (.int .i64 y))):=by exact rfl):bD P C n o s (s.putO o.dst (.eptr (TC.cs (aT l y.toNat)))):=bD.indexI ho hd hx hp hi h.1 (TC.at_ h.2) hT
theorem rIn{α:Type}[Inhabited α][TC α]{l:List α}{T E sz by_:Nat}{x i:Operand}{p:PV}{k:Nat}{z:α}(hz:z=aT l k)(h:k<l.length)(hT:elemOf? P T=some (E,sz,by_))(ho:o.op= .indexAddr T x i:=by exact rfl)(hd:bJ o.dst n=true:=by exact rfl)(hx:s.ev x=some p:=by exact rfl)(hp:lB p=some (sz,TC.trs l):=by exact rfl)(hi:s.ev i=some (.t (.leaf (.int .i64 (k:Int)))):=by exact rfl):bD P C n o s (s.putO o.dst (.eptr (TC.cs z))):=by
 subst hz
 exact rIx h hT ho hd hx hp hi
theorem rIm{α:Type}[Inhabited α][TC α]{l:List α}{T E sz by_:Nat}{x i:Operand}{p:PV}{y:Int}{z:α}(hz:z=aT l y.toNat)(h:0≤y∧y.toNat<l.length)(hT:elemOf? P T=some (E,sz,by_))(ho:o.op= .indexAddr T x i:=by exact rfl)(hd:bJ o.dst n=true:=by exact rfl)(hx:s.ev x=some p:=by exact rfl)(hp:lB p=some (sz,TC.trs l):=by exact rfl)(hi:s.ev i=some (.t (.leaf (.int .i64 y))):=by exact rfl):bD P C n o s (s.putO o.dst (.eptr (TC.cs z))):=by
 subst hz
 exact rIy h hT ho hd hx hp hi
theorem rF1{T:TypeId}{x:Operand}{f e z:Nat}{cs:List PV}{p:PV}(hf:vP P T f=some (e,false,z))(ho:o.op= .field T x f:=by exact rfl)(hd:bJ o.dst n=true:=by exact rfl)(hx:s.ev x=some (.agg cs):=by exact rfl)(hc:cs[e]?=some p:=by exact rfl):bD P C n o s (s.putO o.dst p):=bD.field1 ho hd hx hf hc
theorem rEx{x:Operand}{i:Nat}{ps:List PV}{p:PV}(ho:o.op= .extract x i:=by exact rfl)(hd:bJ o.dst n=true:=by exact rfl)(hx:s.ev x=some (.tup ps):=by exact rfl)(hi:ps[i]?=some p:=by exact rfl):bD P C n o s (s.putO o.dst p):=bD.extract ho hd hx hi
theorem rBd{T:TypeId}{parts:Array (Nat×Operand)}{ps:List (Nat×List PV)}{zs cs:List PV}{places:List (Nat×Nat)}(hz:gR P T=some zs)(hpl:ON P T=some places)(ho:o.op= .build T parts:=by exact rfl)(hd:bJ o.dst n=true:=by exact rfl)(hp:l5 s parts.toList=some ps:=by exact rfl)(hc:sG (fun i=>places.toArray[i]?) zs ps=some cs:=by exact rfl):bD P C n o s (s.putO o.dst (.agg cs)):=bD.build ho hd hz hpl hp hc
theorem rBs{α:Type}[Inhabited α][TC α]{T E by_ len:Nat}{parts:Array (Nat×Operand)}{ps:List (Nat×List PV)}{zs cs:List PV}(l:List α)(hT:elemOf? P T=some (E,TC.sz α,by_))(hz:gR P E=some zs)(ho:o.op= .buildSlice T len parts:=by exact rfl)(hd:bJ o.dst n=true:=by exact rfl)(hp:l5 s parts.toList=some ps:=by exact rfl)
 (hc:sG (fun i=>some (i*TC.sz α,TC.sz α)) (List.replicate len zs).flatten ps=some cs:=by exact rfl) (hle:sH cs ((l.map TC.cs).flatten.map PV.t):=by exact iX) (hel:l.length=len:=by exact rfl) (hsz:0<TC.sz α:=by decide) (hzl:zs.length=TC.sz α:=by exact rfl) (hsm:len*TC.sz α≤16777216:=by decide):bD P C n o s (s.putO o.dst (.t (.row (TC.sz α) (TC.trs l)))):=
 bD.buildSliceE (es:=l.map TC.cs) ho hd hT hz hp hc hle (by rw [List.length_map];exact hel) (fun e he=>TC.all l e (by rw [TC.map];exact he)) hsz hzl hsm (TC.map l).symm
theorem rBl{α:Type}[Inhabited α][TC α]{T E by_ len:Nat}{parts:Array (Nat×Operand)}{ps:List (Nat×List PV)}{zs cs:List PV}(l:List α)(hT:elemOf? P T=some (E,TC.sz α,by_))(hz:gR P E=some zs)(ho:o.op= .buildSlice T len parts:=by exact rfl)(hd:bJ o.dst n=true:=by exact rfl)(hp:l5 s parts.toList=some ps:=by exact rfl)
 (hc:sG (fun i=>some (i*TC.sz α,TC.sz α)) (List.replicate len zs).flatten ps=some cs:=by exact rfl) (hle:sH cs ((l.map TC.cs).flatten.map PV.t):=by exact iX) (hel:l.length=len:=by exact rfl) (hsz:0<TC.sz α:=by decide) (hzl:zs.length=TC.sz α:=by exact rfl) (hsm:len*TC.sz α≤16777216:=by decide):bD P C n o s (s.putO o.dst (.lit (TC.sz α) (TC.trs l))):=
 bD.buildSliceLE (es:=l.map TC.cs) ho hd hT hz hp hc hle (by rw [List.length_map];exact hel) (fun e he=>TC.all l e (by rw [TC.map];exact he)) hsz hzl hsm (TC.map l).symm
theorem rBa{α:Type}[Inhabited α][TC α]{T E by_ len:Nat}{parts:Array (Nat×Operand)}{ps:List (Nat×List PV)}{zs cs:List PV}(l:List α)(hT:elemOf? P T=some (E,TC.sz α,by_))(hz:gR P E=some zs)(ho:o.op= .buildSlice T len parts:=by exact rfl)(hd:bJ o.dst n=true:=by exact rfl)(hp:l5 s parts.toList=some ps:=by exact rfl)
 (hc:sG (fun i=>some (i*TC.sz α,TC.sz α)) (List.replicate len zs).flatten ps=some cs:=by exact rfl) (hle:sH cs ((l.map TC.cs).flatten.map PV.t):=by exact iX) (hel:l.length=len:=by exact rfl) (hsz:0<TC.sz α:=by decide) (hzl:zs.length=TC.sz α:=by exact rfl) (hsm:len*TC.sz α≤16777216:=by decide):bD P C n o s ((⟨s.env,s.st.addRow ⟨E,TC.sz α,TC.trs l,false⟩⟩:AS).putO o.dst (.acc (TC.sz α) (TC.trs l) s.st.rows.length)):=
 bD.buildSliceA (es:=l.map TC.cs) ho hd hT hz hp hc hle (by rw [List.length_map];exact hel) (fun e he=>TC.all l e (by rw [TC.map];exact he)) hsz hzl hsm (TC.map l).symm
theorem rAp{α:Type}[Inhabited α][TC α]{T E by_:Nat}{x y:Operand}{a b:List α}{r:Nat}{row:l3}{p:PV}(h:a.length+b.length≤68719476736)(hT:elemOf? P T=some (E,TC.sz α,by_))(hz:(P.info? E).bind (fun i=>i.zero.map (fun z=>z.cells.size))=some (TC.sz α))(ho:o.op= .call { callee:= .builtin .append,args:= #[x,y],argTypes:= #[T,T] }:=by exact rfl)(hd:bJ o.dst n=true:=by exact rfl)
 (hx:s.ev x=some (.acc (TC.sz α) (TC.trs a) r):=by exact rfl) (hrow:s.st.rows[r]?=some row:=by exact rfl) (hes:row.es=TC.trs a:=by exact rfl) (hE:row.E=E:=by exact rfl) (hw:row.whole=false:=by exact rfl) (hy:s.ev y=some p:=by exact rfl) (hp:lB p=some (TC.sz α,TC.trs b):=by exact rfl)
 (hb:0<by_:=by decide) (hb2:by_≤2048:=by decide):bD P C n o s ((⟨s.env,s.st.setRow r { row with es:=TC.trs (a++b) }⟩:AS).putO o.dst (.acc (TC.sz α) (TC.trs (a++b)) r)):=
 bD.appendE ho hd hx hrow hes hE hw hy hp (TC.all b) hT hz hb (by rw [TC.len,TC.len];exact uW h hb2) (TC.app a b)
theorem rMf{f:FuncId}{cap:Array Operand}{ps:List PV}(ho:o.op= .makeFunc (.func f) #[] cap:=by exact rfl)(hd:bJ o.dst n=true:=by exact rfl)(hc:evA s cap.toList=some ps:=by exact rfl):bD P C n o s (s.putO o.dst (.fn f ps)):=bD.makeFunc ho hd (IZ hc)
theorem uV{x:Operand}{k d:Nat}(ho:o.op= .nilCheck x:=by exact rfl)(hd:bJ o.dst n=true:=by exact rfl)(hx:s.ev x=some (.ptr k d):=by exact rfl):bD P C n o s (s.putO o.dst (.ptr k d)):=bD.nilPtr ho hd hx
theorem rNf{x:Operand}{f:FuncId}{cs:List PV}(ho:o.op= .nilCheck x:=by exact rfl)(hd:bJ o.dst n=true:=by exact rfl)(hx:s.ev x=some (.fn f cs):=by exact rfl):bD P C n o s (s.putO o.dst (.fn f cs)):=bD.nilFn ho hd hx
theorem C3{x y z:Operand}{b:Bool}{p:PV}(hb:b=true)(ho:o.op= .pick x y z:=by exact rfl)(hd:bJ o.dst n=true:=by exact rfl)(hx:s.ev x=some (.t (.leaf (.bool b))):=by exact rfl)(hy:s.ev y=some p:=by exact rfl):bD P C n o s (s.putO o.dst p):=bD.pickT ho hd hx hb hy
theorem FG{x y z:Operand}{b:Bool}{p:PV}(hb:b=false)(ho:o.op= .pick x y z:=by exact rfl)(hd:bJ o.dst n=true:=by exact rfl)(hx:s.ev x=some (.t (.leaf (.bool b))):=by exact rfl)(hy:s.ev z=some p:=by exact rfl):bD P C n o s (s.putO o.dst p):=bD.pickF ho hd hx hb hy
theorem bI{f:FuncId}{fn:Func}{xs:List Operand}{ts:Array TypeId}{ps qs:List PV}{res:PV}(hf:P.funcs[f]?=some fn)(hc:bQ P f qs res)(ho:o.op= .call { callee:= .value (.func f),args:=⟨xs⟩,argTypes:=ts }:=by exact rfl)(hd:bJ o.dst n=true:=by exact rfl)(hnm:(fn.name== "runtime.NumGoroutine")=false:=by kernel_rfl)(hb:fn.body.isNone=false:=by exact rfl)
 (hx:evA s xs=some ps:=by exact rfl) (hle:sH ps qs:=by exact iX) (h1:kK qs=true:=by exact rfl) (h2:PV.free res=true:=by exact rfl):bD P C n o s (s.putO o.dst res):=bD.callF ho hd hf hnm hb (IZ hx) hle h1 h2 hc
theorem rCv{y:Operand}{f:FuncId}{fn:Func}{xs:List Operand}{ts:Array TypeId}{ps cs qs:List PV}{res:PV}(hf:P.funcs[f]?=some fn)(hc:bQ P f qs res)(ho:o.op= .call { callee:= .value y,args:=⟨xs⟩,argTypes:=ts }:=by exact rfl)(hd:bJ o.dst n=true:=by exact rfl)(hy:s.ev y=some (.fn f cs):=by exact rfl)(hnm:(fn.name== "runtime.NumGoroutine")=false:=by kernel_rfl)(hb:fn.body.isNone=false:=by exact rfl)
 (hx:evA s xs=some ps:=by exact rfl) (hle:sH (ps++cs) qs:=by exact iX) (h1:kK qs=true:=by exact rfl) (h2:PV.free res=true:=by exact rfl):bD P C n o s (s.putO o.dst res):=bD.callV ho hd hy hf hnm hb (IZ hx) hle h1 h2 hc
theorem ar8{S pre:c4}{fb fr:List Nat}(hb:rN S fb fr pre fb pre.boxes:=by repeat' (first|exact trivial|refine⟨⟨_,rfl,rfl,iX,rfl⟩,?_⟩))(hr:uE S fr pre.rows:=by repeat' (first|exact trivial|refine⟨rfl,?_⟩))(h1:fb.Nodup:=by decide)(h2:fr.Nodup:=by decide):eH S pre fb fr:=eH.of hb hr h1 h2
theorem fD{f:FuncId}{fn:Func}{xs:List Operand}{ts:Array TypeId}{ps qs:List PV}{res:PV}{pre st':c4}(fb fr:List Nat)(hf:P.funcs[f]?=some fn)(hc:cB P f qs pre (fun r t=>r=res∧t=st'))(ho:o.op= .call { callee:= .value (.func f),args:=⟨xs⟩,argTypes:=ts }:=by exact rfl)(hd:bJ o.dst n=true:=by exact rfl)(hnm:(fn.name== "runtime.NumGoroutine")=false:=by kernel_rfl)(hb:fn.body.isNone=false:=by exact rfl)
 (hx:evA s xs=some ps:=by exact rfl) (hp:eH s.st pre fb fr:=by exact ar8) (hle:sH ps (AV fb fr qs):=by exact iX) (hok:lH pre qs=true:=by exact rfl) (hbl:st'.boxes.length=pre.boxes.length:=by exact rfl) (hrl:st'.rows.length=pre.rows.length:=by exact rfl):bD P C n o s ((⟨s.env,s.st.over st' fb fr⟩:AS).putO o.dst (PV.ren fb fr res)):=bD.callPE fb fr ho hd hf hnm hb (IZ hx) rfl hp hle hok hbl hrl hc
end
theorem dne{x a b:Int}(h:decide (x=a)=true)(hab:a≠b):decide (x=b)=false:=by
 rw [of_decide_eq_true h]
 exact decide_eq_false hab
theorem akF{x b:Int}(h:(decide (x=2)||decide (x=3))=true)(h2:2≠b)(h3:3≠b):decide (x=b)=false:=by
 rw [Bool.or_eq_true,decide_eq_true_eq,decide_eq_true_eq] at h
 refine decide_eq_false fun e=>?_
 omega
theorem ap9{x:Int}(h:(decide (x=2)||decide (x=3))=true)(h2:decide (x=2)=false):decide (x=3)=true:=by
 rw [h2,Bool.false_or] at h
 exact h
theorem ar5{x:Int}(h:(decide (x=2)||decide (x=3))=false):decide (x=2)=false:=(Bool.or_eq_false_iff.1 h).1
theorem ar6{x:Int}(h:(decide (x=2)||decide (x=3))=false):decide (x=3)=false:=(Bool.or_eq_false_iff.1 h).2
theorem bD.appendLitBE{P:Program}{C:nR}{n:Nat}{s:AS}{o:Oper}{T E sz by_:Nat}{x y:Operand}{es1 es2 es3:List (List Tr)}{cs:List PV}{p:PV}{len:Nat}(ho:o.op= .call { callee:= .builtin .append,args:= #[x,y],argTypes:= #[T,T] })(hd:bJ o.dst n=true)
 (hx:s.ev x=some (.lit sz es1)) (hy:s.ev y=some p) (hp:lB p=some (sz,es2)) (h1: ∀e∈es1,e.length=sz) (h2: ∀e∈es2,e.length=sz) (hne:es2≠ []) (hsz:0<sz)
 (hT:elemOf? P T=some (E,sz,by_)) (hz:(P.info? E).bind (fun i=>i.zero.map (fun z=>z.cells.size))=some sz) (hb:0<by_) (hlen:(es1.length+es2.length)*by_≤140737488355328) (h3:es1++es2=es3) (hcs:es3.flatten.map PV.t=cs) (hl:es1.length+es2.length=len):
 bD P C n o s ((⟨s.env,s.st.addBox ⟨E,cs⟩⟩:AS).putO o.dst (.gsl s.st.boxes.length len)):=bD.appendLitB ho hd hx hy hp h1 h2 hne hsz hT hz hb hlen (by rw [h3];exact hcs) hl
section
variable {P:Program} {C:nR} {n:Nat} {s:AS} {Q:Exit→AS→Prop}
abbrev LB:=List ByteArray
theorem qW{id:Nat}{l:List Oper}{y:Code}(h:AL P C n l.toArray l (XI (cO P C n y Q) Q) s):cO P C n (.seq (.region id l.toArray false) y) Q s:=qS (qR h)
theorem qZ{ops:Array Oper}(h:Q .ret s):AL P C n ops [] (XI (cO P C n .ret Q) Q) s:=qN (cO.ret h)
theorem rAd{o:Oper}{T yT:TypeId}{x y:Operand}{a b:Int}(c:Nat)(ho:o.op= .binOp .add T x y yT:=by exact rfl)(hd:bJ o.dst n=true:=by exact rfl)(hx:s.ev x=some (.t (.leaf (.int .i64 a))):=by exact rfl)(hy:s.ev y=some (.t (.leaf (.int .i64 b))):=by exact rfl)(hc:a+b=((c:Nat):Int):=by omega)(hb: -9223372036854775808≤((c:Nat):Int)∧((c:Nat):Int)≤9223372036854775807:=by omega):bD P C n o s (s.putO o.dst (.t (.leaf (.int .i64 ((c:Nat):Int))))):=bD.addI ho hd hx hy hc hb
end
theorem qJ{β:Type}{m:Option β}{r:β}{P:Program}{f:FuncId}{fn:Func}{c:Code}{args:List PV}{pre:c4}{R:PV→c4→Prop}(hf:P.funcs[f]?=some fn)(H:m=some r)(h: ∀C:nR,C.st=pre→Hd m (fun v=>v=r)→cO P C fn.ntmps c (BD P C fn.ntmps fn R) ⟨G0 0 args,pre⟩)(hb:fn.body=some c:=by exact rfl)(hn:args.length≤fn.ntmps:=by first|decide|(simp;done)|(simp;decide)):cB P f args pre R:=qI hf (fun C hC=>h C hC (hd0 H)) hb hn
end Go.Proofs.YtfcoaagbccmahaaGreat

namespace Go.Proofs.YtfcoaagbccmahaaGreat
open Go.RowKit Go.WalkArith Go.IntWalk Go.WideShapes
section
variable {P:Program} {C:nR} {n:Nat} {o:Oper}
theorem amZ{a:Act}{K1 K:Act→World→Prop}{Q:Exit→Act→World→Prop}(hv: ∀v w',K1 (a.put o.dst v) w'→K (a.put o.dst v) w')
 (hd: ∀d w',K1 (({ a with defers:=d::a.defers }:Act).put o.dst undef) w'→K (({ a with defers:=d::a.defers }:Act).put o.dst undef) w'): ∀r,o.upon P a K1 Q r→o.upon P a K Q r:=by
 intro r h
 cases r with
 |ok x w'=>
  cases x with
  |value v=>exact hv v w' h
  |skip=>exact hv undef w' h
  |defer d=>exact hd d w' h
  |enter f args=>
   refine Calls.mono h fun e w'' he=>?_
   cases e with
   |returned v=>exact hv v w'' he
   |panicked c=>exact he
   |outgrown=>exact he
  |row r args=>exact Rows.mono h fun v w'' he=>hv v w'' he
  |_=>exact h
 |halt x w'=>
  cases x with
  |panic v=>exact h
  |_=>exact h
theorem abI(s:AS)(d:Nat)(p:PV)(i:Nat):(s.putO (some d) p).lk i=if i=d then some p else s.lk i:=AS.lk_put s d i p
theorem bD.frame{E:List (Nat×PV)}{st st1:c4}{p:PV}{s':AS}(h: ∀C',bD P C' n o ⟨E,st⟩ ((⟨E,st1⟩:AS).putO o.dst p))(hst:s'.st=st)(hl: ∀t q,E.lookup t=some q→s'.lk t=some q):
 bD P C n o s' ((⟨s'.env,st1⟩:AS).putO o.dst p):=fun m a w hr K Q hK=>by
 subst hst
 have hr':RA ⟨C.av,s'.st,m,w⟩ n ⟨E,s'.st⟩ m a w:=⟨hr.dfr,hr.tsz,hr.sto,fun i q hq=>hr.env i q (hl i q hq),Ev.refl _ _ _⟩
 have h1:=h ⟨C.av,s'.st,m,w⟩ m a w hr' (fun a' w'=> ∃m',RA ⟨C.av,s'.st,m,w⟩ n ((⟨E,st1⟩:AS).putO o.dst p) m' a' w') Q (fun m' a' w' h=>⟨m',h⟩)
 unfold Oper.wp at h1 ⊢
 refine amZ (fun v w'=>?_) (fun d w'=>?_) _ h1
 ·rintro⟨m',h2⟩
  refine hK m' _ w' ?_
  have key: ∀(dst:Option Nat),dst=o.dst→RA C n ((⟨s'.env,st1⟩:AS).putO dst p) m' (a.put dst v) w':=fun dst hdst=>by
   rw [← hdst] at h2
   cases dst with
   |none=>
    have hE:Ev s'.st m w st1 m' w':=h2.ev
    exact⟨h2.dfr,h2.tsz,h2.sto,fun i q hq=>by
     obtain⟨v',hv',hrv⟩:=hr.env i q hq
     exact⟨v',hv',RV.mono hE q v' hrv⟩,hr.ev.trans hE⟩
   |some d=>
    have hE:Ev s'.st m w st1 m' w':=h2.ev
    refine⟨h2.dfr,h2.tsz,h2.sto,fun i q hq=>?_,hr.ev.trans hE⟩
    rw [abI] at hq
    by_cases hi:i=d
    ·rw [if_pos hi] at hq
     cases hq
     exact h2.env i _ (by rw [abI,if_pos hi])
    ·rw [if_neg hi] at hq
     obtain⟨v',hv',hrv⟩:=hr.env i q hq
     exact⟨v',by simp only [Act.put];rw [Array.getElem?_setIfInBounds_ne (fun e=>hi e.symm)];exact hv',RV.mono hE q v' hrv⟩
  exact key o.dst rfl
 ·rintro⟨m',h2⟩
  have h3:=h2.dfr
  have h4:(({ a with defers:=d::a.defers }:Act).put o.dst undef).defers=d::a.defers:=by
   cases o.dst<;>rfl
  rw [h4] at h3
  cases h3
theorem bD.frame0{E:List (Nat×PV)}{st st1:c4}{s':AS}(hn:o.dst=none)(h: ∀C',bD P C' n o ⟨E,st⟩ ⟨E,st1⟩)(hst:s'.st=st)(hl: ∀t q,E.lookup t=some q→s'.lk t=some q):
 bD P C n o s' ⟨s'.env,st1⟩:=by
 have:=bD.frame (C:=C) (P:=P) (n:=n) (o:=o) (p:= .nil) (E:=E) (st:=st) (st1:=st1) (s':=s') (by rw [hn];exact h) hst hl
 rw [hn] at this
 exact this
structure DD where
 outs:List (Option PV)
 ks:List (Option DK)
 ins:List (List Nat)
 effs:List Nat
 fs:List (Option c3→c4)
 rds:List ((Nat×Nat)×Nat×Option (Option c3))
 az:Option (Nat×c3)
def DD.cz(g:DD):Option c3:=g.az.map (·.2)
def ab:Option c3→c4→c4
 |none,st=>st
 |some z,st=>st.addBox z
def LQ:c4:=⟨[],[⟨0,0,[],false⟩]⟩
def tw(st:c4):Option c3→c4
 |none=>LQ
 |some _=>st
theorem aoZ{C:nR}{n:Nat}{env:List (Nat×PV)}{m:jP}{a:Act}{w:World}(h:RA C n ⟨env,LQ⟩ m a w):False:=by
 have:=(h.sto.row 0 ⟨0,0,[],false⟩ rfl).1
 exact absurd this (by decide)
theorem bD.bad{P:Program}{C:nR}{n:Nat}{o:Oper}{s s1:AS}(hs:s.st=LQ):bD P C n o s s1:=fun m a w hr K Q hK=>by
 obtain⟨env,st⟩:=s
 cases hs
 exact(aoZ hr).elim
theorem bD.away{P:Program}{C:nR}{n:Nat}{o:Oper}{s s1:AS}{t k off:Nat}(hl:s.lk t=some (.ptr k off))(hk:s.st.boxes[k]?=none):bD P C n o s s1:=fun m a w hr K Q hK=>by
 obtain⟨v,-,⟨x,hx⟩,-⟩:=hr.env t _ hl
 rw [hk] at hx
 cases hx
def rs(s:AS):List Nat→List (Nat×PV)
 | []=> []
 |t::ts=>match s.lk t with
  |some p=>(t,p)::rs s ts
  |none=>rs s ts
theorem akP{s:AS}{t:Nat}{q:PV}: ∀ {I:List Nat},(rs s I).lookup t=some q→t∈I∧s.lk t=some q
 | [],h=>by cases h
 |x::I,h=>by
  unfold rs at h
  cases hx:s.lk x with
  |none=>
   rw [hx] at h
   obtain⟨h1,h2⟩:=akP (I:=I) h
   exact⟨.tail _ h1,h2⟩
  |some p=>
   rw [hx] at h
   dsimp only at h
   rw [List.lookup_cons] at h
   by_cases htx:t=x
   ·subst htx
    simp only [BEq.rfl] at h
    cases h
    exact⟨.head _,hx⟩
   ·rw [show(t==x)=false by simp [htx]] at h
    obtain⟨h1,h2⟩:=akP (I:=I) h
    exact⟨.tail _ h1,h2⟩
def aaK(l:List Oper)(e0:List (Nat×PV))(outs:List (Option PV))(i t:Nat)(p:PV):Prop:=
 (∃(j:Nat) (o:Oper),j<i∧l[j]?=some o∧o.dst=some t∧outs[j]?=some (some p))∨(e0.lookup t=some p∧ ∀(j:Nat) (o:Oper),j<i→l[j]?=some o→o.dst≠some t)
inductive WD (l:List Oper) (e0:List (Nat×PV)) (outs:List (Option PV)) (i:Nat) (o:Oper):Bool→Prop
 |n:o.guard=none→WD l e0 outs i o true
 |y {j d:Nat} {b c:Bool}:o.guard=some (j,c)→(l[j]?).bind (·.dst)=some d→aaK l e0 outs i d (.t (.leaf (.bool b)))→WD l e0 outs i o (b==c)
 |u {j d:Nat} {c:Bool}:o.guard=some (j,c)→(l[j]?).bind (·.dst)=some d→aaK l e0 outs i d (.tup [])→WD l e0 outs i o false
inductive WS (l:List Oper) (s:AS) (o:Oper):Bool→Prop
 |n:o.guard=none→WS l s o true
 |y {j d:Nat} {b c:Bool}:o.guard=some (j,c)→(l[j]?).bind (·.dst)=some d→s.lk d=some (.t (.leaf (.bool b)))→WS l s o (b==c)
 |u {j d:Nat} {c:Bool}:o.guard=some (j,c)→(l[j]?).bind (·.dst)=some d→s.lk d=some (.tup [])→WS l s o false
inductive R2 (P:Program) (n N:Nat) (md:Bool) (g:DD) (i:Nat) (o:Oper) (E:List (Nat×PV)):Prop
 |q {p:PV}:g.ks[i]?=some none→g.outs[i]?=some (some p)→(∀C' st,bD P C' n o ⟨E,st⟩ ((⟨E,st⟩:AS).putO o.dst p))→R2 P n N md g i o E
 |r {lo hi k:Nat} {X:Option (Option c3)} {p:PV}:g.ks[i]?=some (some (.q lo hi))→g.outs[i]?=some (some p)→((lo,hi),k,X)∈g.rds→(md=true→k<N)→(∀C' (st:c4),st.boxes[k]?=X→bD P C' n o ⟨E,st⟩ ((⟨E,st⟩:AS).putO o.dst p))→R2 P n N md g i o E
 |c {j:Nat} {f:Option c3→c4} {p:PV}:g.ks[i]?=some (some (.q j j))→g.outs[i]?=some (some p)→g.fs[j]?=some f→(∀C' z,bD P C' n o ⟨E,f z⟩ ((⟨E,f z⟩:AS).putO o.dst p))→R2 P n N md g i o E
 |e {j:Nat} {f f1:Option c3→c4} {p:PV}:g.ks[i]?=some (some (.ef j))→g.outs[i]?=some (some p)→g.fs[j]?=some f→g.fs[j+1]?=some f1→(∀C' z,bD P C' n o ⟨E,f z⟩ ((⟨E,f1 z⟩:AS).putO o.dst p))→R2 P n N md g i o E
 |e0 {j:Nat} {f f1:Option c3→c4}:g.ks[i]?=some (some (.ef j))→o.dst=none→g.fs[j]?=some f→g.fs[j+1]?=some f1→(∀C' z,bD P C' n o ⟨E,f z⟩ ⟨E,f1 z⟩)→R2 P n N md g i o E
 |ea {j a t off:Nat} {zb:c3} {f f1:Option c3→c4}:g.az=some (a,zb)→g.ks[i]?=some (some (.ef j))→o.dst=none→g.fs[j]?=some f→g.fs[j+1]?=some f1→E.lookup t=some (.ptr N off)→(f none=LQ∨(f none).boxes.length=N)→(∀C',bD P C' n o ⟨E,f (some zb)⟩ ⟨E,f1 (some zb)⟩)→R2 P n N md g i o E
 |al {zb:c3}:md=true→g.az=some (i,zb)→g.ks[i]?=some (some .al)→g.outs[i]?=some (some (.ptr N 0))→(∀C' st,st.boxes.length=N→bD P C' n o ⟨[],st⟩ ((⟨[],st.addBox zb⟩:AS).putO o.dst (.ptr N 0)))→R2 P n N md g i o E
inductive UD (P:Program) (n N:Nat) (md:Bool) (l:List Oper) (e0:List (Nat×PV)) (g:DD) (i:Nat) (o:Oper):Prop
 |does {E:List (Nat×PV)} {I:List Nat}:WD l e0 g.outs i o true→g.ins[i]?=some I→(∀t q,E.lookup t=some q→t∈I∧aaK l e0 g.outs i t q)→R2 P n N md g i o E→UD P n N md l e0 g i o
 |skip:WD l e0 g.outs i o false→g.ks[i]?=some none→g.outs[i]?=some (some (.tup []))→bJ o.dst n=true→UD P n N md l e0 g i o
structure DD.le (g g':DD):Prop where
 outs: ∀(i:Nat) (x:Option PV),g.outs[i]?=some x→g'.outs[i]?=some x
 ks: ∀(i:Nat) (x:Option DK),g.ks[i]?=some x→g'.ks[i]?=some x
 ins: ∀(i:Nat) (x:List Nat),g.ins[i]?=some x→g'.ins[i]?=some x
 fs: ∀(i:Nat) (x:Option c3→c4),g.fs[i]?=some x→g'.fs[i]?=some x
 rds: ∀x∈g.rds,x∈g'.rds
 az: ∀x,g.az=some x→g'.az=some x
theorem RY{g g':DD}(h:g.le g'){l:List Oper}{e0:List (Nat×PV)}{i t:Nat}{p:PV}(k:aaK l e0 g.outs i t p):aaK l e0 g'.outs i t p:=by
 rcases k with⟨j,o,h1,h2,h3,h4⟩|k
 ·exact .inl ⟨j,o,h1,h2,h3,h.outs _ _ h4⟩
 ·exact .inr k
theorem akW{g g':DD}(h:g.le g'){l:List Oper}{e0:List (Nat×PV)}{i:Nat}{o:Oper}{b:Bool}(k:WD l e0 g.outs i o b):WD l e0 g'.outs i o b:=by
 cases k with
 |n a=>exact .n a
 |y a b c=>exact .y a b (RY h c)
 |u a b c=>exact .u a b (RY h c)
theorem UD.mono{N:Nat}{md:Bool}{l:List Oper}{e0:List (Nat×PV)}{g g':DD}{i:Nat}{o:Oper}(h:g.le g')(k:UD P n N md l e0 g i o):UD P n N md l e0 g' i o:=by
 cases k with
 |does h1 h2 h3 h4=>
  refine .does (akW h h1) (h.ins _ _ h2) (fun t q ht=>⟨(h3 t q ht).1,RY h (h3 t q ht).2⟩) ?_
  cases h4 with
  |q a b c=>exact .q (h.ks _ _ a) (h.outs _ _ b) c
  |r a b c d e=>exact .r (h.ks _ _ a) (h.outs _ _ b) (h.rds _ c) d e
  |c a b c d=>exact .c (h.ks _ _ a) (h.outs _ _ b) (h.fs _ _ c) d
  |e a b c d e=>exact .e (h.ks _ _ a) (h.outs _ _ b) (h.fs _ _ c) (h.fs _ _ d) e
  |e0 a b c d e=>exact .e0 (h.ks _ _ a) b (h.fs _ _ c) (h.fs _ _ d) e
  |ea z a b c d e f q=>exact .ea (h.az _ z) (h.ks _ _ a) b (h.fs _ _ c) (h.fs _ _ d) e f q
  |al md z a b c=>exact .al md (h.az _ z) (h.ks _ _ a) (h.outs _ _ b) c
 |skip h1 h2 h3 h4=>exact .skip (akW h h1) (h.ks _ _ h2) (h.outs _ _ h3) h4
structure akY (P:Program) (n:Nat) (md:Bool) (l:List Oper) (s0:AS) (g:DD) (s:AS):Prop where
 hs0: ∃f,g.fs[0]?=some f∧f none=s0.st
 hfl:g.fs.length=g.effs.length+1
 hlast: ∃f,g.fs[g.effs.length]?=some f∧f g.cz=s.st∧(md=false→f=fun _=>s.st)∧(md=true→g.az=none→f=fun z=>ab z s.st)
 hk:g.ks.length=g.outs.length
 hi:g.ins.length=g.outs.length
 hz:md=true→ ∀f∈g.fs,f none=LQ∨((f none).boxes.length=s0.st.boxes.length∧ ∀z,f (some z)=(f none).addBox z)
 hm:md=false→g.az=none
 hlk: ∀t p,s.lk t=some p→aaK l s0.env g.outs g.outs.length t p
 hf: ∀(i:Nat) (o:Oper),l[i]?=some o→i<g.outs.length→UD P n s0.st.boxes.length md l s0.env g i o
def DW(P:Program)(C:nR)(n id:Nat)(md:Bool)(l:List Oper)(Q:Exit→AS→Prop)(s0:AS)(g:DD)(s:AS)(rest:List Oper):Prop:=
 akY P n md l s0 g s→l.drop g.outs.length=rest→cO P C n (.region id l.toArray true) Q s0
variable {id:Nat} {l:List Oper} {Q:Exit→AS→Prop} {s0 s:AS} {g:DD} {rest:List Oper} {md:Bool}
theorem dW(h:DW P C n id false l Q s ⟨[],[],[],[],[fun _=>s.st],[],none⟩ s l):cO P C n (.region id l.toArray true) Q s:=
 h ⟨⟨_,rfl,rfl⟩,rfl,⟨_,rfl,rfl,fun _=>rfl,fun h=>(by cases h)⟩,rfl,rfl,fun h=>(by cases h),fun _=>rfl,fun t p ht=> .inr ⟨ht,fun j o hj=>(by cases hj)⟩,fun i o _ hi=>(by cases hi)⟩ rfl
theorem dWa(h:DW P C n id true l Q s ⟨[],[],[],[],[fun z=>ab z s.st],[],none⟩ s l):cO P C n (.region id l.toArray true) Q s:=
 h ⟨⟨_,rfl,rfl⟩,rfl,⟨_,rfl,rfl,fun h=>(by cases h),fun _ _=>rfl⟩,rfl,rfl,fun _ f hf=>(by obtain rfl:=List.mem_singleton.1 hf;exact .inr ⟨rfl,fun z=>rfl⟩),fun h=>(by cases h),fun t p ht=> .inr ⟨ht,fun j o hj=>by cases hj⟩,fun i o _ hi=>by cases hi⟩ rfl
theorem dO{α:Type}{l:List α}{y:α}(i:Nat)(x:α)(h:l[i]?=some x):(l++ [y])[i]?=some x:=by
 obtain⟨hi,-⟩:=List.getElem?_eq_some_iff.1 h
 rw [List.getElem?_append_left hi]
 exact h
theorem cC{α:Type}{l:List α}{y:α}{k:Nat}(h:l.length=k):(l++ [y])[k]?=some y:=by subst h;simp
theorem wY{o:Oper}(h:l.drop g.outs.length=o::rest):l[g.outs.length]?=some o∧l.drop (g.outs.length+1)=rest:=by
 constructor
 ·have:=congrArg (fun x=>x[0]?) h
  simpa using this
 ·rw [← List.drop_drop,h]
  rfl
theorem akY.next{g':DD}{s':AS}(hv:akY P n md l s0 g s)(ho:l[g.outs.length]?=some o)(hle:g.le g')(h0:g'.outs.length=g.outs.length+1)(hk:g'.ks.length=g.ks.length+1)(hi:g'.ins.length=g.ins.length+1)(hfl:g'.fs.length=g'.effs.length+1)
 (hlast: ∃f,g'.fs[g'.effs.length]?=some f∧f g'.cz=s'.st∧(md=false→f=fun _=>s'.st)∧(md=true→g'.az=none→f=fun z=>ab z s'.st)) (hz:md=true→ ∀f∈g'.fs,f none=LQ∨((f none).boxes.length=s0.st.boxes.length∧ ∀z,f (some z)=(f none).addBox z)) (hm:md=false→g'.az=none)
 (hlk: ∀t p,s'.lk t=some p→(o.dst=some t∧g'.outs[g.outs.length]?=some (some p))∨(o.dst≠some t∧s.lk t=some p)) (hf:UD P n s0.st.boxes.length md l s0.env g' g.outs.length o):akY P n md l s0 g' s' where
 hs0:=by obtain⟨f,h1,h2⟩:=hv.hs0;exact⟨f,hle.fs _ _ h1,h2⟩
 hfl:=hfl
 hlast:=hlast
 hk:=by rw [hk,h0,hv.hk]
 hi:=by rw [hi,h0,hv.hi]
 hz:=hz
 hm:=hm
 hlk:=fun t p ht=>by
  rcases hlk t p ht with⟨h1,h2⟩|⟨h1,h2⟩
  ·exact .inl ⟨_,o,by omega,ho,h1,h2⟩
  ·rcases hv.hlk t p h2 with⟨j,oj,a,b,c,d⟩|⟨a,b⟩
   ·exact .inl ⟨j,oj,by omega,b,c,hle.outs _ _ d⟩
   ·refine .inr ⟨a,fun j oj hj hoj=>?_⟩
    rcases Nat.lt_or_ge j g.outs.length with hlt|hge
    ·exact b j oj hlt hoj
    ·obtain rfl:j=g.outs.length:=by omega
     rw [ho] at hoj
     cases hoj
     exact h1
 hf:=fun i oi hoi hi'=>by
  rcases Nat.lt_or_ge i g.outs.length with hlt|hge
  ·exact(hv.hf i oi hoi hlt).mono hle
  ·obtain rfl:i=g.outs.length:=by omega
   rw [ho] at hoi
   cases hoi
   exact hf
theorem BS{st1:c4}{p:PV}(t:Nat)(q:PV)(outs:List (Option PV))(k:Nat)(hk:outs[k]?=some (some p))(h:((⟨s.env,st1⟩:AS).putO o.dst p).lk t=some q):(o.dst=some t∧outs[k]?=some (some q))∨(o.dst≠some t∧s.lk t=some q):=by
 cases hd:o.dst with
 |none=>rw [hd] at h;exact .inr ⟨by simp,h⟩
 |some d=>
  rw [hd,abI] at h
  by_cases htd:t=d
  ·rw [if_pos htd] at h
   cases h
   exact .inl ⟨by rw [htd],hk⟩
  ·rw [if_neg htd] at h
   exact .inr ⟨fun e=>htd (Option.some.inj e).symm,h⟩
theorem CJ(s:AS)(d:Option Nat)(p:PV):(s.putO d p).st=s.st:=by cases d<;>rfl
theorem WS.wd{g':DD}{b:Bool}(h:WS l s o b)(hv:akY P n md l s0 g s)(hle:g.le g'):WD l s0.env g'.outs g.outs.length o b:=by
 cases h with
 |n a=>exact .n a
 |y a b c=>exact .y a b (RY hle (hv.hlk _ _ c))
 |u a b c=>exact .u a b (RY hle (hv.hlk _ _ c))
theorem H3{g':DD}(hv:akY P n md l s0 g s)(hle:g.le g')(I:List Nat): ∀t q,(rs s I).lookup t=some q→t∈I∧aaK l s0.env g'.outs g.outs.length t q:=fun t q h=>⟨(akP h).1,RY hle (hv.hlk t q (akP h).2)⟩
theorem dI(I:List Nat){p:PV}(h: ∀ {C':nR} {st:c4},bD P C' n o ⟨rs s I,st⟩ ((⟨rs s I,st⟩:AS).putO o.dst p))(k:DW P C n id md l Q s0 ⟨g.outs++ [some p],g.ks++ [none],g.ins++ [I],g.effs,g.fs,g.rds,g.az⟩ (s.putO o.dst p) rest)(hg:WS l s o true:=by exact .n rfl):
 DW P C n id md l Q s0 g s (o::rest):=fun hv hr=>by
 obtain⟨ho,hd⟩:=wY hr
 have hle:g.le ⟨g.outs++ [some p],g.ks++ [none],g.ins++ [I],g.effs,g.fs,g.rds,g.az⟩:=⟨dO,dO,dO,fun _ _ h=>h,fun _ h=>h,fun _ h=>h⟩
 refine k (hv.next ho hle (by simp) (by simp) (by simp) hv.hfl (by rw [CJ];exact hv.hlast) hv.hz hv.hm (fun t q hq=>BS t q _ _ (cC rfl) hq) ?_) (by simpa using hd)
 exact .does (hg.wd hv hle) (cC hv.hi) (H3 hv hle I) (.q (cC hv.hk) (cC rfl) fun _ _=>h)
theorem dD(I:List Nat){p:PV}(h: ∀ {C':nR},bD P C' n o ⟨rs s I,s.st⟩ ((⟨rs s I,s.st⟩:AS).putO o.dst p))(k:DW P C n id false l Q s0 ⟨g.outs++ [some p],g.ks++ [some (.q g.effs.length g.effs.length)],g.ins++ [I],g.effs,g.fs,g.rds,g.az⟩ (s.putO o.dst p) rest)(hg:WS l s o true:=by exact .n rfl):
 DW P C n id false l Q s0 g s (o::rest):=fun hv hr=>by
 obtain⟨ho,hd⟩:=wY hr
 obtain⟨f,q1,-,q2,-⟩:=hv.hlast
 have q2:=q2 rfl
 subst q2
 have hle:g.le ⟨g.outs++ [some p],g.ks++ [some (.q g.effs.length g.effs.length)],g.ins++ [I],g.effs,g.fs,g.rds,g.az⟩:=⟨dO,dO,dO,fun _ _ h=>h,fun _ h=>h,fun _ h=>h⟩
 refine k (hv.next ho hle (by simp) (by simp) (by simp) hv.hfl (by rw [CJ];exact hv.hlast) hv.hz hv.hm (fun t q hq=>BS t q _ _ (cC rfl) hq) ?_) (by simpa using hd)
 exact .does (hg.wd hv hle) (cC hv.hi) (H3 hv hle I) (.c (cC hv.hk) (cC rfl) q1 fun _ _=>h)
def alD(P:Program)(n:Nat)(o:Oper)(s:AS)(I:List Nat)(kb:Nat)(X:Option (Option c3))(p:PV):Prop:= ∀C' (st:c4),st.boxes[kb]?=X→bD P C' n o ⟨rs s I,st⟩ ((⟨rs s I,st⟩:AS).putO o.dst p)
theorem dB(I:List Nat)(lo hi:Nat){kb:Nat}{X:Option (Option c3)}{p:PV}(h:alD P n o s I kb X p)(k:DW P C n id false l Q s0 ⟨g.outs++ [some p],g.ks++ [some (.q lo hi)],g.ins++ [I],g.effs,g.fs,g.rds++ [((lo,hi),kb,X)],g.az⟩ (s.putO o.dst p) rest)(hg:WS l s o true:=by exact .n rfl):
 DW P C n id false l Q s0 g s (o::rest):=fun hv hr=>by
 obtain⟨ho,hd⟩:=wY hr
 have hle:g.le ⟨g.outs++ [some p],g.ks++ [some (.q lo hi)],g.ins++ [I],g.effs,g.fs,g.rds++ [((lo,hi),kb,X)],g.az⟩:=⟨dO,dO,dO,fun _ _ h=>h,fun _ h=>List.mem_append_left _ h,fun _ h=>h⟩
 refine k (hv.next ho hle (by simp) (by simp) (by simp) hv.hfl (by rw [CJ];exact hv.hlast) hv.hz hv.hm (fun t q hq=>BS t q _ _ (cC rfl) hq) ?_) (by simpa using hd)
 exact .does (hg.wd hv hle) (cC hv.hi) (H3 hv hle I) (.r (cC hv.hk) (cC rfl) (by simp) (fun h=>by cases h) h)
theorem XL(I:List Nat)(lo hi:Nat){kb:Nat}{X:Option (Option c3)}{p:PV}(h:alD P n o s I kb X p)(k:DW P C n id true l Q s0 ⟨g.outs++ [some p],g.ks++ [some (.q lo hi)],g.ins++ [I],g.effs,g.fs,g.rds++ [((lo,hi),kb,X)],g.az⟩ (s.putO o.dst p) rest)(hg:WS l s o true:=by exact .n rfl)(hkN:(decide (kb<s0.st.boxes.length))=true:=by exact rfl):
 DW P C n id true l Q s0 g s (o::rest):=fun hv hr=>by
 obtain⟨ho,hd⟩:=wY hr
 have hle:g.le ⟨g.outs++ [some p],g.ks++ [some (.q lo hi)],g.ins++ [I],g.effs,g.fs,g.rds++ [((lo,hi),kb,X)],g.az⟩:=⟨dO,dO,dO,fun _ _ h=>h,fun _ h=>List.mem_append_left _ h,fun _ h=>h⟩
 refine k (hv.next ho hle (by simp) (by simp) (by simp) hv.hfl (by rw [CJ];exact hv.hlast) hv.hz hv.hm (fun t q hq=>BS t q _ _ (cC rfl) hq) ?_) (by simpa using hd)
 exact .does (hg.wd hv hle) (cC hv.hi) (H3 hv hle I) (.r (cC hv.hk) (cC rfl) (by simp) (fun _=>of_decide_eq_true hkN) h)
theorem vL1{I:List Nat}{T:TypeId}{x:Operand}{kb d z:Nat}{bx:c3}{p:PV}(hT:iU P T=some (false,z))
 (ho:o.op= .load T x:=by exact rfl) (hd:bJ o.dst n=true:=by exact rfl) (hx:(⟨rs s I,s.st⟩:AS).ev x=some (.ptr kb d):=by exact rfl) (hb:s.st.boxes[kb]?=some (some bx):=by exact rfl) (hc:bx.cells[d]?=some p:=by exact rfl):alD P n o s I kb (some (some bx)) p:=
 fun C' st hst=>bD.loadPtr1 ho hd (by cases x<;>exact hx) hst hT hc
theorem vLp{I:List Nat}{T:TypeId}{x:Operand}{kb d z:Nat}{bx:c3}(cs:List PV)(hT:iU P T=some (true,z))
 (ho:o.op= .load T x:=by exact rfl) (hd:bJ o.dst n=true:=by exact rfl) (hx:(⟨rs s I,s.st⟩:AS).ev x=some (.ptr kb d):=by exact rfl) (hb:s.st.boxes[kb]?=some (some bx):=by exact rfl) (hc:(bx.cells.drop d).take z=cs:=by exact rfl) (hl:cs.length=z:=by exact rfl):alD P n o s I kb (some (some bx)) (.agg cs):=
 fun C' st hst=>bD.loadPtr ho hd (by cases x<;>exact hx) hst hT hc hl
theorem dE(I:List Nat){p:PV}{st1:c4}(h: ∀ {C':nR},bD P C' n o ⟨rs s I,s.st⟩ ((⟨rs s I,st1⟩:AS).putO o.dst p))(k:DW P C n id false l Q s0 ⟨g.outs++ [some p],g.ks++ [some (.ef g.effs.length)],g.ins++ [I],g.effs++ [g.outs.length],g.fs++ [fun _=>st1],g.rds,g.az⟩ ((⟨s.env,st1⟩:AS).putO o.dst p) rest)(hg:WS l s o true:=by exact .n rfl):
 DW P C n id false l Q s0 g s (o::rest):=fun hv hr=>by
 obtain⟨ho,hd⟩:=wY hr
 obtain⟨f,q1,-,q2,-⟩:=hv.hlast
 have q2:=q2 rfl
 subst q2
 have hle:g.le ⟨g.outs++ [some p],g.ks++ [some (.ef g.effs.length)],g.ins++ [I],g.effs++ [g.outs.length],g.fs++ [fun _=>st1],g.rds,g.az⟩:=⟨dO,dO,dO,dO,fun _ h=>h,fun _ h=>h⟩
 refine k (hv.next ho hle (by simp) (by simp) (by simp) (by simp [hv.hfl]) (by rw [CJ];exact⟨_,cC (by simp [hv.hfl]),rfl,fun _=>rfl,fun h=>by cases h⟩) (fun h=>by cases h) hv.hm (fun t q hq=>BS t q _ _ (cC rfl) hq) ?_) (by simpa using hd)
 exact .does (hg.wd hv hle) (cC hv.hi) (H3 hv hle I) (.e (cC hv.hk) (cC rfl) (hle.fs _ _ q1) (cC hv.hfl) fun _ _=>h)
theorem iY(I:List Nat){st1:c4}(h: ∀ {C':nR},bD P C' n o ⟨rs s I,s.st⟩ ⟨rs s I,st1⟩)(k:DW P C n id false l Q s0 ⟨g.outs++ [none],g.ks++ [some (.ef g.effs.length)],g.ins++ [I],g.effs++ [g.outs.length],g.fs++ [fun _=>st1],g.rds,g.az⟩ ⟨s.env,st1⟩ rest)(hn:o.dst=none:=by exact rfl)(hg:WS l s o true:=by exact .n rfl):
 DW P C n id false l Q s0 g s (o::rest):=fun hv hr=>by
 obtain⟨ho,hd⟩:=wY hr
 obtain⟨f,q1,-,q2,-⟩:=hv.hlast
 have q2:=q2 rfl
 subst q2
 have hle:g.le ⟨g.outs++ [none],g.ks++ [some (.ef g.effs.length)],g.ins++ [I],g.effs++ [g.outs.length],g.fs++ [fun _=>st1],g.rds,g.az⟩:=⟨dO,dO,dO,dO,fun _ h=>h,fun _ h=>h⟩
 refine k (hv.next ho hle (by simp) (by simp) (by simp) (by simp [hv.hfl]) ⟨_,cC (by simp [hv.hfl]),rfl,fun _=>rfl,fun h=>by cases h⟩ (fun h=>by cases h) hv.hm (fun t q hq=> .inr ⟨by rw [hn];simp,hq⟩) ?_) (by simpa using hd)
 exact .does (hg.wd hv hle) (cC hv.hi) (H3 hv hle I) (.e0 (cC hv.hk) hn (hle.fs _ _ q1) (cC hv.hfl) fun _ _=>h)
theorem dEz(I:List Nat){p:PV}{st1:c4}(h: ∀C' z,bD P C' n o ⟨rs s I,ab z s.st⟩ ((⟨rs s I,ab z st1⟩:AS).putO o.dst p))(k:DW P C n id true l Q s0 ⟨g.outs++ [some p],g.ks++ [some (.ef g.effs.length)],g.ins++ [I],g.effs++ [g.outs.length],g.fs++ [fun z=>ab z st1],g.rds,g.az⟩ ((⟨s.env,st1⟩:AS).putO o.dst p) rest)(hg:WS l s o true:=by exact .n rfl)(haz:g.az=none:=by exact rfl)(hlen:st1.boxes.length=s0.st.boxes.length:=by exact rfl):
 DW P C n id true l Q s0 g s (o::rest):=fun hv hr=>by
 obtain⟨ho,hd⟩:=wY hr
 obtain⟨f,q1,-,-,q2⟩:=hv.hlast
 have q2:=q2 rfl haz
 subst q2
 have hcz:g.cz=none:=by unfold DD.cz;rw [haz];rfl
 have hle:g.le ⟨g.outs++ [some p],g.ks++ [some (.ef g.effs.length)],g.ins++ [I],g.effs++ [g.outs.length],g.fs++ [fun z=>ab z st1],g.rds,g.az⟩:=⟨dO,dO,dO,dO,fun _ h=>h,fun _ h=>h⟩
 refine k (hv.next ho hle (by simp) (by simp) (by simp) (by simp [hv.hfl]) (by rw [CJ];exact⟨_,cC (by simp [hv.hfl]),(by show ab g.cz st1=st1;rw [hcz];rfl),fun h=>(by cases h),fun _ _=>rfl⟩) (fun hmd f hf=>(List.mem_append.1 hf).elim (hv.hz hmd f) fun h=>by obtain rfl:=List.mem_singleton.1 h;exact .inr ⟨hlen,fun z=>rfl⟩) hv.hm (fun t q hq=>BS t q _ _ (cC rfl) hq) ?_) (by simpa using hd)
 exact .does (hg.wd hv hle) (cC hv.hi) (H3 hv hle I) (.e (cC hv.hk) (cC rfl) (hle.fs _ _ q1) (cC hv.hfl) h)
theorem dA{zb:c3}(h: ∀C' st,st.boxes.length=s0.st.boxes.length→bD P C' n o ⟨[],st⟩ ((⟨[],st.addBox zb⟩:AS).putO o.dst (.ptr s0.st.boxes.length 0)))(k:DW P C n id true l Q s0 ⟨g.outs++ [some (.ptr s0.st.boxes.length 0)],g.ks++ [some .al],g.ins++ [[]],g.effs,g.fs,g.rds,some (g.outs.length,zb)⟩ ((⟨s.env,s.st.addBox zb⟩:AS).putO o.dst (.ptr s0.st.boxes.length 0)) rest)(hg:WS l s o true:=by exact .n rfl)(haz:g.az=none:=by exact rfl):
 DW P C n id true l Q s0 g s (o::rest):=fun hv hr=>by
 obtain⟨ho,hd⟩:=wY hr
 obtain⟨f,q1,-,-,q2⟩:=hv.hlast
 have q2:=q2 rfl haz
 subst q2
 have hle:g.le ⟨g.outs++ [some (.ptr s0.st.boxes.length 0)],g.ks++ [some .al],g.ins++ [[]],g.effs,g.fs,g.rds,some (g.outs.length,zb)⟩:=⟨dO,dO,dO,fun _ _ h=>h,fun _ h=>h,fun x h=>by rw [haz] at h;cases h⟩
 refine k (hv.next ho hle (by simp) (by simp) (by simp) hv.hfl ⟨_,q1,by rw [CJ];rfl,fun h=>(by cases h),fun _ h=>by cases h⟩ hv.hz (fun h=>by cases h) (fun t q hq=>BS t q _ _ (cC rfl) hq) ?_) (by simpa using hd)
 exact .does (E:= []) (hg.wd hv hle) (cC hv.hi) (fun t q h=>by cases h) (.al rfl rfl (cC hv.hk) (cC rfl) h)
theorem dZ(t:Nat)(I:List Nat){off a:Nat}{zb:c3}{st1:c4}(h: ∀ {C':nR},bD P C' n o ⟨rs s I,s.st⟩ ⟨rs s I,st1⟩)(k:DW P C n id true l Q s0 ⟨g.outs++ [none],g.ks++ [some (.ef g.effs.length)],g.ins++ [I],g.effs++ [g.outs.length],g.fs++ [tw st1],g.rds,g.az⟩ ⟨s.env,st1⟩ rest)(hn:o.dst=none:=by exact rfl)(hg:WS l s o true:=by exact .n rfl)(haz:g.az=some (a,zb):=by exact rfl)(hp:(rs s I).lookup t=some (.ptr s0.st.boxes.length off):=by exact rfl):
 DW P C n id true l Q s0 g s (o::rest):=fun hv hr=>by
 obtain⟨ho,hd⟩:=wY hr
 obtain⟨f,q1,q2,-,-⟩:=hv.hlast
 have hcz:g.cz=some zb:=by unfold DD.cz;rw [haz];rfl
 rw [hcz] at q2
 have q3:=hv.hz rfl f (List.mem_iff_getElem?.2 ⟨_,q1⟩)
 have hle:g.le ⟨g.outs++ [none],g.ks++ [some (.ef g.effs.length)],g.ins++ [I],g.effs++ [g.outs.length],g.fs++ [tw st1],g.rds,g.az⟩:=⟨dO,dO,dO,dO,fun _ h=>h,fun _ h=>h⟩
 refine k (hv.next ho hle (by simp) (by simp) (by simp) (by simp [hv.hfl]) ⟨_,cC (by simp [hv.hfl]),(by show tw st1 g.cz=st1;rw [hcz];rfl),fun h=>(by cases h),fun _ h=>(by rw [show g.az=none from h] at haz;cases haz)⟩ (fun hmd f hf=>(List.mem_append.1 hf).elim (hv.hz hmd f) fun h=>by obtain rfl:=List.mem_singleton.1 h;exact .inl rfl) hv.hm (fun t q hq=> .inr ⟨by rw [hn];simp,hq⟩) ?_) (by simpa using hd)
 exact .does (hg.wd hv hle) (cC hv.hi) (H3 hv hle I) (.ea haz (cC hv.hk) hn (hle.fs _ _ q1) (cC hv.hfl) hp (q3.imp (fun x=>x) (·.1)) (by rw [q2];exact fun _=>h))
theorem vAl{T:TypeId}{ps:List PV}{st:c4}{N:Nat}(hN:st.boxes.length=N)(hz:gR P T=some ps)(ho:o.op= .alloc T:=by exact rfl)(hd:bJ o.dst n=true:=by exact rfl):bD P C n o ⟨[],st⟩ ((⟨[],st.addBox ⟨T,ps⟩⟩:AS).putO o.dst (.ptr N 0)):=by
 subst hN
 exact bD.alloc (s:=⟨[],st⟩) ho hd hz
theorem dS(k:DW P C n id md l Q s0 ⟨g.outs++ [some (.tup [])],g.ks++ [none],g.ins++ [[]],g.effs,g.fs,g.rds,g.az⟩ (s.putO o.dst (.tup [])) rest)(hg:WS l s o false)(hd':bJ o.dst n=true):
 DW P C n id md l Q s0 g s (o::rest):=fun hv hr=>by
 obtain⟨ho,hd⟩:=wY hr
 have hle:g.le ⟨g.outs++ [some (.tup [])],g.ks++ [none],g.ins++ [[]],g.effs,g.fs,g.rds,g.az⟩:=⟨dO,dO,dO,fun _ _ h=>h,fun _ h=>h,fun _ h=>h⟩
 refine k (hv.next ho hle (by simp) (by simp) (by simp) hv.hfl (by rw [CJ];exact hv.hlast) hv.hz hv.hm (fun t q hq=>BS t q _ _ (cC rfl) hq) ?_) (by simpa using hd)
 exact .skip (hg.wd hv hle) (cC hv.hk) (cC rfl) hd'
theorem NB{j d:Nat}{b c e:Bool}(hv:b=e)(k:DW P C n id md l Q s0 ⟨g.outs++ [some (.tup [])],g.ks++ [none],g.ins++ [[]],g.effs,g.fs,g.rds,g.az⟩ (s.putO o.dst (.tup [])) rest)(hg:o.guard=some (j,c):=by exact rfl)(hj:(l[j]?).bind (·.dst)=some d:=by exact rfl)(hb:s.lk d=some (.t (.leaf (.bool b))):=by exact rfl)(hne:(e==c)=false:=by exact rfl)(hd':bJ o.dst n=true:=by exact rfl):
 DW P C n id md l Q s0 g s (o::rest):=dS k (by subst hv;have:=WS.y hg hj hb;rwa [hne] at this) hd'
theorem dSu{j d:Nat}{c:Bool}(k:DW P C n id md l Q s0 ⟨g.outs++ [some (.tup [])],g.ks++ [none],g.ins++ [[]],g.effs,g.fs,g.rds,g.az⟩ (s.putO o.dst (.tup [])) rest)(hg:o.guard=some (j,c):=by exact rfl)(hj:(l[j]?).bind (·.dst)=some d:=by exact rfl)(hb:s.lk d=some (.tup []):=by exact rfl)(hd':bJ o.dst n=true:=by exact rfl):
 DW P C n id md l Q s0 g s (o::rest):=dS k (.u hg hj hb) hd'
theorem bG{j d:Nat}{b c:Bool}(hv:b=c)(hg:o.guard=some (j,c):=by exact rfl)(hj:(l[j]?).bind (·.dst)=some d:=by exact rfl)(hb:s.lk d=some (.t (.leaf (.bool b))):=by exact rfl):WS l s o true:=by
 subst hv
 have:=WS.y hg hj hb
 rwa [BEq.rfl] at this
theorem anG{ops:Array Oper}(h: ∀i o,ops[i]?=some o→ ∀e∈o.after,Region.binds .any e=true→e.on<i): ∀(fuel i j:Nat),R5 ops fuel i j=true→i<j
 |0,_,_,h'=>by simp [R5] at h'
 |fuel+1,i,j,h'=>by
  simp only [R5] at h'
  split at h'
  ·rename_i o ho
   rw [List.any_eq_true] at h'
   obtain⟨e,he,h'⟩:=h'
   simp only [Bool.and_eq_true,Bool.or_eq_true,beq_iff_eq] at h'
   have h1:=h j o ho e (by simpa using he) h'.1
   rcases h'.2 with h2|h2
   ·omega
   ·have:=anG h fuel i e.on h2
    omega
  ·cases h'
def XB(l:List Oper)(i t:Nat):Option Nat:=match o7 l.toArray t with
 |some j=>if j<i then some j else none
 |none=>none
def DD.draw(g:DD)(l:List Oper)(s0:AS):iA where
 ops:=l.toArray
 env0:=s0.env
 F:=fun j b=>match g.fs[j]? with
  |some f=>f (bif b then g.cz else none)
  |none=>ab (bif b then g.cz else none) s0.st
 out:=fun i=>(g.outs[i]?).getD none
 kind:=fun i=>match g.ks[i]? with
  |some (some k)=>k
  |_=> .q 0 g.effs.length
 effs:=g.effs
 alloc:=g.az.map (·.1)
 ins:=fun i=>((g.ins[i]?).getD []).map fun t=>(t,XB l i t)
def an4(fs:List (Option c3→c4))(z:Option c3)(x:(Nat×Nat)×Nat×Option (Option c3)):List (Option (Option (Option c3))):=(List.range' x.1.1 (x.1.2+1-x.1.1)).map fun j=>(fs[j]?).map fun f=>(f z).boxes[x.2.1]?
def an3(x:(Nat×Nat)×Nat×Option (Option c3)):List (Option (Option (Option c3))):=(List.range' x.1.1 (x.1.2+1-x.1.1)).map fun _=>some x.2.2
theorem R1(hn:AU l.toArray=true){j t:Nat}(ho:l[j]?=some o)(hd:o.dst=some t):o7 l.toArray t=some j:=gO hn (by simpa using ho) hd
theorem asD{fs:List (Option c3→c4)}{z:Option c3}{rds:List ((Nat×Nat)×Nat×Option (Option c3))}(h:rds.map (an4 fs z)=rds.map an3){lo hi kb j:Nat}{X:Option (Option c3)}(hm:((lo,hi),kb,X)∈rds)(h1:lo≤j)(h2:j≤hi){f:Option c3→c4}(hs:fs[j]?=some f):(f z).boxes[kb]?=X:=by
 have e:=List.map_inj_left.1 h _ hm
 unfold an4 an3 at e
 have:=List.map_inj_left.1 e j (by simp [List.mem_range'];exact⟨j-lo,by omega,by omega⟩)
 simpa [hs] using this
theorem dN(h:Q .normal s)(hm:P.follows .mixedOrders=true:=by exact ar3)(hok:(g.draw l s0).ok=true:=by kernel_rfl)(hrd:g.rds.map (an4 g.fs g.cz)=g.rds.map an3:=by kernel_rfl):DW P C n id md l Q s0 g s []:=fun hv hr=>by
 have hlen:l.length≤g.outs.length:=by
  have:=congrArg List.length hr
  simp at this
  omega
 have hok':=hok
 simp only [iA.ok,Bool.and_eq_true] at hok'
 have hn:AU l.toArray=true:=hok'.1.1.1.2
 have hpv: ∀i t q,aaK l s0.env g.outs i t q→(g.draw l s0).pv (t,XB l i t)=some q:=fun i t q hs=>by
  rcases hs with⟨j,oj,h1,h2,h3,h4⟩|⟨h1,h2⟩
  ·have hw:=R1 hn h2 h3
   unfold XB
   rw [hw]
   dsimp only
   rw [if_pos h1]
   show(g.outs[j]?).getD none=some q
   rw [h4]
   rfl
  ·have hw:XB l i t=none:=by
    unfold XB
    split
    ·rename_i j hj
     obtain⟨-,oj,h3,h4⟩:=xD hj
     split
     ·rename_i hji
      exact absurd h4 (h2 j oj hji (by simpa using h3))
     ·rfl
    ·rfl
   rw [hw]
   exact h1
 have hF: ∀ {j:Nat} {f:Option c3→c4},g.fs[j]?=some f→ ∀b,(g.draw l s0).F j b=f (bif b then g.cz else none):=fun {j f} hj b=>by show(match g.fs[j]? with|some f=>f (bif b then g.cz else none)|none=>ab (bif b then g.cz else none) s0.st)=_;rw [hj]
 have hK: ∀ {i:Nat} {k:DK},g.ks[i]?=some (some k)→(g.draw l s0).kind i=k:=fun {i k} hk=>by show(match g.ks[i]? with|some (some k)=>k|_=> .q 0 g.effs.length)=_;rw [hk]
 have hK0: ∀ {i:Nat},g.ks[i]?=some none→(g.draw l s0).kind i= .q 0 g.effs.length:=fun {i} hk=>by show(match g.ks[i]? with|some (some k)=>k|_=>DK.q 0 g.effs.length)=_;rw [hk]
 have hout: ∀ {i:Nat} {p:PV},g.outs[i]?=some (some p)→(g.draw l s0).out i=some p:=fun hp=>by show(g.outs[_]?).getD none=_;rw [hp];rfl
 have hops:=hok'.1.1.1.1
 rw [List.all_eq_true] at hops
 have hgs: ∀(i:Nat) (o:Oper) (j d:Nat) (c:Bool) (p:PV),l[i]?=some o→o.guard=some (j,c)→(l[j]?).bind (·.dst)=some d→aaK l s0.env g.outs i d p→(g.draw l s0).out j=some p:=fun i o j d c p ho hg hj hs=>by
  obtain⟨oj,hoj,hdj⟩: ∃oj,l[j]?=some oj∧oj.dst=some d:=by
   cases hx:l[j]? with
   |none=>rw [hx] at hj;cases hj
   |some oj=>rw [hx] at hj;exact⟨oj,rfl,hj⟩
  have hw:=R1 hn hoj hdj
  rcases hs with⟨j',oj',h1,h2,h3,h4⟩|⟨h1,h2⟩
  ·have hw':=R1 hn h2 h3
   rw [hw] at hw'
   cases hw'
   exact hout h4
  ·have hil:=(List.getElem?_eq_some_iff.1 ho).1
   have h5:=hops i (by simpa [DD.draw] using hil)
   have ho':(g.draw l s0).ops[i]?=some o:=by simpa [DD.draw] using ho
   simp only [iA.okOp,ho',hg,Bool.and_eq_true] at h5
   have h6:(g.draw l s0).anc j i=true:=h5.2.1
   have:=anG (fun i' o' ho' e he hb=>by
    have hil':=(Array.getElem?_eq_some_iff.1 ho').1
    have h7:=hops i' (by simpa using hil')
    simp only [iA.okOp,ho',Bool.and_eq_true,Array.all_eq_true'] at h7
    have h3:=h7.1 e he
    simpa [hb] using h3) _ _ _ h6
   exact absurd hdj (h2 j oj this hoj)
 have hwant: ∀ {i:Nat} {o:Oper} {b:Bool},l[i]?=some o→WD l s0.env g.outs i o b→(g.draw l s0).want o=some b:=fun {i o b} ho hw=>by
  unfold iA.want
  cases hw with
  |n a=>rw [a]
  |y a b c=>rw [a];dsimp only;rw [hgs _ _ _ _ _ _ ho a b c]
  |u a b c=>rw [a];dsimp only;rw [hgs _ _ _ _ _ _ ho a b c]
 have hstep: ∀i o,(g.draw l s0).ops[i]?=some o→(g.draw l s0).step P C n i o:=fun i o ho=>by
  have ho':l[i]?=some o:=by simpa [DD.draw] using ho
  obtain⟨hil,-⟩:=List.getElem?_eq_some_iff.1 ho'
  cases hv.hf i o ho' (by omega) with
  |does h1 h2 h3 h4=>
   rename_i E I
   refine .inl ⟨hwant ho' h1,?_⟩
   have hl: ∀s':AS,(∀t src p,(t,src)∈(g.draw l s0).ins i→(g.draw l s0).pv (t,src)=some p→s'.lk t=some p)→ ∀t q,E.lookup t=some q→s'.lk t=some q:=fun s' hl t q ht=>by
    obtain⟨h5,h6⟩:=h3 t q ht
    refine hl t (XB l i t) q ?_ (hpv i t q h6)
    show(t,XB l i t)∈((g.ins[i]?).getD []).map _
    rw [h2]
    exact List.mem_map.2 ⟨t,h5,rfl⟩
   unfold iA.does
   cases h4 with
   |q a b c=>
    rw [hK0 a]
    exact fun s' j bb _ _ hs hin=>⟨_,hout b,bD.frame (st:=s'.st) (fun C'=>c C' s'.st) rfl (hl s' hin)⟩
   |r a b c kN d=>
    rename_i lo hi kb X p
    have hk:=hK a
    rw [hk]
    intro s' j bb q1 q2 hs hin
    have hjl:hi<g.fs.length:=by
     have:=hok'.1.1.2
     rw [List.all_eq_true] at this
     have:=this i (by simpa [DD.draw] using hil)
     simp only [Bool.and_eq_true,iA.okKind,hk] at this
     have h9:=this.1.1.1.1.1.2
     simp only [decide_eq_true_eq] at h9
     have h10:hi≤g.effs.length:=h9
     rw [hv.hfl]
     omega
    obtain⟨f,hst⟩: ∃f,g.fs[j]?=some f:=⟨_,List.getElem?_eq_getElem (by omega)⟩
    have hX:=asD hrd c q1 q2 hst
    rw [hF hst] at hs
    have hcase:s'.st=f g.cz∨(md=true∧s'.st=f none):=by
     cases bb with
     |true=>exact .inl hs
     |false=>
      cases md with
      |true=>exact .inr ⟨rfl,hs⟩
      |false=>
       have:g.cz=none:=by unfold DD.cz;rw [hv.hm rfl];rfl
       rw [this]
       exact .inl hs
    rcases hcase with hs|⟨hmd,hs⟩
    ·exact⟨_,hout b,bD.frame (st:=s'.st) (fun C'=>d C' s'.st (by rw [hs];exact hX)) rfl (hl s' hin)⟩
    ·rcases hv.hz hmd f (List.mem_iff_getElem?.2 ⟨_,hst⟩) with h9|⟨h9,h10⟩
     ·exact⟨_,hout b,bD.bad (by rw [hs,h9])⟩
     ·refine⟨_,hout b,bD.frame (st:=s'.st) (fun C'=>d C' s'.st ?_) rfl (hl s' hin)⟩
      rw [hs,← hX]
      cases hz:g.cz with
      |none=>rfl
      |some z=>
       rw [h10 z]
       show _=((f none).boxes++ [some z])[kb]?
       rw [List.getElem?_append_left (by rw [h9];exact kN hmd)]
   |c a b c d=>
    rename_i j f p
    rw [hK a]
    refine fun s' jj bb q1 q2 hs hin=>⟨_,hout b,?_⟩
    obtain rfl:jj=j:=by omega
    exact bD.frame (st:=s'.st) (fun C'=>by rw [hs,hF c];exact d C' _) rfl (hl s' hin)
   |e a b c d e=>
    rename_i j f f1 p
    rw [hK a]
    refine fun s' bb hs hin=> .inl ⟨_,hout b,?_⟩
    rw [hF d]
    exact bD.frame (fun C'=>e C' _) (by rw [hs,hF c]) (hl s' hin)
   |e0 a b c d e=>
    rename_i j f f1
    rw [hK a]
    refine fun s' bb hs hin=> .inr ⟨b,?_⟩
    rw [hF d]
    exact bD.frame0 b (fun C'=>e C' _) (by rw [hs,hF c]) (hl s' hin)
   |ea z a b c d e f q=>
    rename_i j a' t off zb f0 f1
    have hcz:g.cz=some zb:=by unfold DD.cz;rw [z];rfl
    rw [hK a]
    refine fun s' bb hs hin=> .inr ⟨b,?_⟩
    rw [hF d]
    rw [hF c] at hs
    cases bb with
    |true=>
     rw [hcz] at hs ⊢
     exact bD.frame0 b q hs (hl s' hin)
    |false=>
     rcases f with f|f
     ·exact bD.bad (hs.trans f)
     ·refine bD.away (hl s' hin t _ e) ?_
      rw [hs]
      show(f0 none).boxes[_]?=none
      rw [List.getElem?_eq_none (by rw [f];exact Nat.le_refl _)]
   |al hmd z a b c=>
    rename_i zb
    have hcz:g.cz=some zb:=by unfold DD.cz;rw [z];rfl
    rw [hK a]
    refine fun s' j hs=>⟨_,hout b,?_⟩
    have key:s'.st=LQ∨(s'.st.boxes.length=s0.st.boxes.length∧(g.draw l s0).F j true=s'.st.addBox zb):=by
     cases hj:g.fs[j]? with
     |none=>
      have h8: ∀b,(g.draw l s0).F j b=ab (bif b then g.cz else none) s0.st:=fun b=>by show(match g.fs[j]? with|some f=>f (bif b then g.cz else none)|none=>ab (bif b then g.cz else none) s0.st)=_;rw [hj]
      rw [h8] at hs ⊢
      refine .inr ⟨by rw [hs];rfl,?_⟩
      rw [hs,hcz]
      rfl
     |some f=>
      rw [hF hj] at hs ⊢
      rcases hv.hz hmd f (List.mem_iff_getElem?.2 ⟨_,hj⟩) with h9|⟨h9,h10⟩
      ·exact .inl (hs.trans h9)
      ·refine .inr ⟨by rw [hs];exact h9,?_⟩
       rw [hs,hcz]
       exact h10 zb
    rcases key with h9|⟨h9,h10⟩
    ·exact bD.bad h9
    ·rw [h10]
     exact bD.frame (E:= []) (fun C'=>c C' s'.st h9) rfl (fun t q h=>by cases h)
  |skip h1 h2 h3 h4=>exact .inr ⟨hwant ho' h1,⟨_,_,hK0 h2⟩,.inr ⟨hout h3,h4⟩⟩
 intro m a w hra
 refine wp_mono (cO.drawn (g.draw l s0) (Q:=fun e s'=>e= .normal∧s'=⟨((List.range (g.draw l s0).ops.size).filterMap ((g.draw l s0).gX (Array.replicate (g.draw l s0).ops.size true)))++(g.draw l s0).env0,(g.draw l s0).F (g.draw l s0).effs.length (g.draw l s0).alloc.isSome⟩) hm hok rfl (by obtain⟨f,h1,h2⟩:=hv.hs0;rw [hF h1];exact h2.symm) hstep ⟨rfl,rfl⟩ m a w hra) fun e a' w'=>?_;rintro⟨s',m',⟨rfl,rfl⟩,h2⟩
 obtain⟨f,q1,q2,-,-⟩:=hv.hlast
 refine⟨s,m',h,RA.congr h2 ((hF q1 _).trans (Eq.trans (by cases ha:g.az with|none=>(show f (bif (g.az.map (·.1)).isSome then g.cz else none)=f g.cz;unfold DD.cz;rw [ha];rfl)|some x=>(show f (bif (g.az.map (·.1)).isSome then g.cz else none)=f g.cz;unfold DD.cz;rw [ha];rfl)) q2)) fun t p ht=>?_⟩
 show((g.draw l s0).sX (Array.replicate (g.draw l s0).ops.size true)).lk t=some p
 rcases hv.hlk t p ht with⟨j,oj,h1,h3,h4,h5⟩|⟨h1,h3⟩
 ·have hjl:j<l.length:=(List.getElem?_eq_some_iff.1 h3).1
  exact MB hn (i:=j) (o:=oj) (by have:j<(g.draw l s0).ops.size:=(by simpa [DD.draw] using hjl);simp [Array.getD_eq_getD_getElem?,this]) (by simpa [DD.draw] using h3) h4 (hout h5)
 ·rw [I9 hn fun i hi=>?_]
  ·exact h1
  ·obtain⟨hil,oi,h6,h7⟩:=xD hi
   exact absurd h7 (h3 i oi (by have:i<l.length:=(by simpa [DD.draw] using hil);omega) (by simpa [DD.draw] using h6))
end
end Go.Proofs.YtfcoaagbccmahaaGreat

namespace Go.Proofs.YtfcoaagbccmahaaGreat
open Go.RowKit Go.WalkArith Go.IntWalk Go.WideShapes
class RL (es:List (List Tr)) (α:outParam Type) [Inhabited α] [TC α] (l:outParam (List α)):Prop where h:es=TC.trs l
instance(l:List ByteArray):RL (aY l) ByteArray l:=⟨rfl⟩
instance(l:List Int):RL (d9 l) Int l:=⟨rfl⟩
instance(l:List UInt8):RL (lF l) UInt8 l:=⟨rfl⟩
structure GR (k:Nat) (G G':Prop):Prop where h:G'→G
theorem gr0{G:Prop}:GR 0 G G:=⟨id⟩
theorem grS{k:Nat}{G G1 G':Prop}(f:G1→G)(h:GR k G1 G'):GR (k+1) G G':=⟨fun x=>f (h.h x)⟩
section
variable {P:Program} {C:nR} {n:Nat} {s:AS} {o:Oper} {T:TypeId} {x y:Operand} {k d z e f:Nat} {bx:c3} {p:PV} {I:List Nat}
theorem bZ(ho:o.op= .fieldAddr T x f:=by exact rfl)(hd:bJ o.dst n=true:=by exact rfl)(hx:s.ev x=some (.ptr k d):=by exact rfl)(hf:FO P T f e:=by infer_instance):bD P C n o s (s.putO o.dst (.ptr k (d+e))):=rFp hf.h ho hd hx
theorem wX{cs:List Tr}(ho:o.op= .fieldAddr T x f:=by exact rfl)(hd:bJ o.dst n=true:=by exact rfl)(hx:s.ev x=some (.eptr cs):=by exact rfl)(hf:FO P T f e:=by infer_instance):bD P C n o s (s.putO o.dst (.eptr (cs.drop e))):=rFe hf.h ho hd hx
theorem eB(ho:o.op= .load T x:=by exact rfl)(hd:bJ o.dst n=true:=by exact rfl)(hx:s.ev x=some (.ptr k d):=by exact rfl)(hb:s.st.boxes[k]?=some (some bx):=by exact rfl)(hc:bx.cells[d]?=some p:=by exact rfl)(hT:SH P T (false,z):=by infer_instance):bD P C n o s (s.putO o.dst p):=rL1 hT.h ho hd hx hb hc
theorem b6(cs:List PV)(ho:o.op= .load T x:=by exact rfl)(hd:bJ o.dst n=true:=by exact rfl)(hx:s.ev x=some (.ptr k d):=by exact rfl)(hb:s.st.boxes[k]?=some (some bx):=by exact rfl)(hT:SH P T (true,z):=by infer_instance)(hc:(bx.cells.drop d).take z=cs:=by exact rfl)(hl:cs.length=z:=by exact rfl):bD P C n o s (s.putO o.dst (.agg cs)):=rLp cs hT.h ho hd hx hb hc hl
theorem vE{w:Tr}{cs:List Tr}(ho:o.op= .load T x:=by exact rfl)(hd:bJ o.dst n=true:=by exact rfl)(hx:s.ev x=some (.eptr cs):=by exact rfl)(hc:cs[0]?=some w:=by exact rfl)(hT:SH P T (false,z):=by infer_instance):bD P C n o s (s.putO o.dst (.t w)):=rK1 hT.h ho hd hx hc
theorem gS{cs:List Tr}(ds:List Tr)(ho:o.op= .load T x:=by exact rfl)(hd:bJ o.dst n=true:=by exact rfl)(hx:s.ev x=some (.eptr cs):=by exact rfl)(hT:SH P T (true,z):=by infer_instance)(hc:cs.take z=ds:=by exact rfl)(hl:ds.length=z:=by exact rfl):bD P C n o s (s.putO o.dst (.agg (ds.map PV.t))):=rKe ds hT.h ho hd hx hc hl
theorem sM(ho:o.op= .load T x:=by exact rfl)(hd:bJ o.dst n=true:=by exact rfl)(hx:(⟨rs s I,s.st⟩:AS).ev x=some (.ptr k d):=by exact rfl)(hb:s.st.boxes[k]?=some (some bx):=by exact rfl)(hc:bx.cells[d]?=some p:=by exact rfl)(hT:SH P T (false,z):=by infer_instance):alD P n o s I k (some (some bx)) p:=vL1 hT.h ho hd hx hb hc
theorem zN(cs:List PV)(ho:o.op= .load T x:=by exact rfl)(hd:bJ o.dst n=true:=by exact rfl)(hx:(⟨rs s I,s.st⟩:AS).ev x=some (.ptr k d):=by exact rfl)(hb:s.st.boxes[k]?=some (some bx):=by exact rfl)(hT:SH P T (true,z):=by infer_instance)(hc:(bx.cells.drop d).take z=cs:=by exact rfl)(hl:cs.length=z:=by exact rfl):alD P n o s I k (some (some bx)) (.agg cs):=vLp cs hT.h ho hd hx hb hc hl
theorem tAl{ps:List PV}(ho:o.op= .alloc T:=by exact rfl)(hd:bJ o.dst n=true:=by exact rfl)(hz:ZR P T ps:=by infer_instance):bD P C n o s ((⟨s.env,s.st.addBox ⟨T,ps⟩⟩:AS).putO o.dst (.ptr s.st.boxes.length 0)):=rAl hz.h ho hd
theorem hM{cs ds:List PV}(ho:o.op= .store T x y:=by exact rfl)(hx:s.ev x=some (.ptr k d):=by exact rfl)(hb:s.st.boxes[k]?=some (some bx):=by exact rfl)(hy:s.ev y=some p:=by exact rfl)(hc:vO p=cs:=by exact rfl)(ht:uU p=true:=by exact rfl)(hf:G4 cs=true:=by exact rfl)(hT:SZ P T z:=by infer_instance)(hz:z=cs.length:=by exact rfl)
 (hfit:d+cs.length≤bx.cells.length:=by exact Nat.le_of_ble_eq_true rfl) (hds:bx.cells.take d++cs++bx.cells.drop (d+cs.length)=ds:=by exact rfl):bD P C n o s ((⟨s.env,s.st.setBox k ⟨bx.ty,ds⟩⟩:AS).delO o.dst):=rSu (hz ▸ hT.h) ho hx hb hy hc ht hf hfit hds
theorem oP{parts:Array (Nat×Operand)}{ps:List (Nat×List PV)}{zs cs:List PV}{places:List (Nat×Nat)}(ho:o.op= .build T parts:=by exact rfl)(hd:bJ o.dst n=true:=by exact rfl)(hp:l5 s parts.toList=some ps:=by exact rfl)(hz:ZR P T zs:=by infer_instance)(hpl:TU P T places:=by infer_instance)(hc:sG (fun i=>places.toArray[i]?) zs ps=some cs:=by exact rfl):bD P C n o s (s.putO o.dst (.agg cs)):=rBd hz.h hpl.h ho hd hp hc
theorem tF1{cs:List PV}(ho:o.op= .field T x f:=by exact rfl)(hd:bJ o.dst n=true:=by exact rfl)(hx:s.ev x=some (.agg cs):=by exact rfl)(hf:FQ P T f (e,false,z):=by infer_instance)(hc:cs[e]?=some p:=by exact rfl):bD P C n o s (s.putO o.dst p):=rF1 hf.h ho hd hx hc
theorem tPt{b:Bool}{w:Operand}(ho:o.op= .pick x y w:=by exact rfl)(hd:bJ o.dst n=true:=by exact rfl)(hx:s.ev x=some (.t (.leaf (.bool b))):=by exact rfl)(hb:b=true:=by first|with_reducible assumption|with_reducible rfl|assumption|exact rfl)(hy:s.ev y=some p:=by exact rfl):bD P C n o s (s.putO o.dst p):=C3 hb ho hd hx hy
theorem tPf{b:Bool}{w:Operand}(ho:o.op= .pick x y w:=by exact rfl)(hd:bJ o.dst n=true:=by exact rfl)(hx:s.ev x=some (.t (.leaf (.bool b))):=by exact rfl)(hb:b=false:=by first|with_reducible assumption|with_reducible rfl|assumption|exact rfl)(hy:s.ev w=some p:=by exact rfl):bD P C n o s (s.putO o.dst p):=FG hb ho hd hx hy
section
variable {Q:Exit→AS→Prop} {ops:Array Oper} {rest:List Oper} {s1:AS} {j:Nat} {b c:Bool}
end
section
variable {α:Type} [Inhabited α] [TC α] {l:List α} {sz:Nat} {es:List (List Tr)} {E:Nat×Nat×Nat}
theorem tLn(ho:o.op= .call { callee:= .builtin .len,args:= #[x],argTypes:= #[T] }:=by exact rfl)(hd:bJ o.dst n=true:=by exact rfl)(hx:s.ev x=some p:=by exact rfl)(hp:lB p=some (sz,es):=by exact rfl)(hT:EL P T E:=by infer_instance)(hl:RL es α l:=by infer_instance):bD P C n o s (s.putO o.dst (.t (.leaf (.int .i64 (l.length:Int))))):=rLn hT.h (by rw [hl.h];exact TC.len l) ho hd hx hp
theorem m9{E' by_:Nat}(ho:o.op= .indexAddr T x y:=by exact rfl)(hd:bJ o.dst n=true:=by exact rfl)(hx:s.ev x=some p:=by exact rfl)(hp:lB p=some (sz,es):=by exact rfl)(hi:s.ev y=some (.t (.leaf (.int .i64 (k:Int)))):=by exact rfl)(hT:EL P T (E',sz,by_):=by infer_instance)(hl:RL es α l:=by infer_instance)(h:k<l.length:=by assumption):bD P C n o s (s.putO o.dst (.eptr (TC.cs (aT l k)))):=rIx h hT.h ho hd hx (by rw [← hl.h];exact hp) hi
theorem xW{E' by_:Nat}{z:α}(hz:z=aT l k)(h:k<l.length)(ho:o.op= .indexAddr T x y:=by exact rfl)(hd:bJ o.dst n=true:=by exact rfl)(hx:s.ev x=some p:=by exact rfl)(hp:lB p=some (sz,TC.trs l):=by exact rfl)(hi:s.ev y=some (.t (.leaf (.int .i64 (k:Int)))):=by exact rfl)(hT:EL P T (E',sz,by_):=by infer_instance):bD P C n o s (s.putO o.dst (.eptr (TC.cs z))):=rIn hz h hT.h ho hd hx hp hi
section
variable {E' by_ len:Nat} {parts:Array (Nat×Operand)} {ps:List (Nat×List PV)} {zs cs:List PV}
theorem fY(l:List α)(ho:o.op= .buildSlice T len parts:=by exact rfl)(hd:bJ o.dst n=true:=by exact rfl)(hp:l5 s parts.toList=some ps:=by exact rfl)(hT:EL P T E:=by infer_instance)(hE:E=(E',TC.sz α,by_):=by exact rfl)(hz:ZR P E' zs:=by infer_instance)
 (hc:sG (fun i=>some (i*TC.sz α,TC.sz α)) (List.replicate len zs).flatten ps=some cs:=by exact rfl) (hle:sH cs ((l.map TC.cs).flatten.map PV.t):=by exact iX) (hel:l.length=len:=by exact rfl) (hsz:0<TC.sz α:=by decide) (hzl:zs.length=TC.sz α:=by exact rfl) (hsm:len*TC.sz α≤16777216:=by decide):bD P C n o s (s.putO o.dst (.t (.row (TC.sz α) (TC.trs l)))):=rBs l (hE ▸ hT.h) hz.h ho hd hp hc hle hel hsz hzl hsm
theorem vD(l:List α)(ho:o.op= .buildSlice T len parts:=by exact rfl)(hd:bJ o.dst n=true:=by exact rfl)(hp:l5 s parts.toList=some ps:=by exact rfl)(hT:EL P T E:=by infer_instance)(hE:E=(E',TC.sz α,by_):=by exact rfl)(hz:ZR P E' zs:=by infer_instance)
 (hc:sG (fun i=>some (i*TC.sz α,TC.sz α)) (List.replicate len zs).flatten ps=some cs:=by exact rfl) (hle:sH cs ((l.map TC.cs).flatten.map PV.t):=by exact iX) (hel:l.length=len:=by exact rfl) (hsz:0<TC.sz α:=by decide) (hzl:zs.length=TC.sz α:=by exact rfl) (hsm:len*TC.sz α≤16777216:=by decide):bD P C n o s (s.putO o.dst (.lit (TC.sz α) (TC.trs l))):=rBl l (hE ▸ hT.h) hz.h ho hd hp hc hle hel hsz hzl hsm
theorem nU(l:List α)(ho:o.op= .buildSlice T len parts:=by exact rfl)(hd:bJ o.dst n=true:=by exact rfl)(hp:l5 s parts.toList=some ps:=by exact rfl)(hT:EL P T E:=by infer_instance)(hE:E=(E',TC.sz α,by_):=by exact rfl)(hz:ZR P E' zs:=by infer_instance)
 (hc:sG (fun i=>some (i*TC.sz α,TC.sz α)) (List.replicate len zs).flatten ps=some cs:=by exact rfl) (hle:sH cs ((l.map TC.cs).flatten.map PV.t):=by exact iX) (hel:l.length=len:=by exact rfl) (hsz:0<TC.sz α:=by decide) (hzl:zs.length=TC.sz α:=by exact rfl) (hsm:len*TC.sz α≤16777216:=by decide):bD P C n o s ((⟨s.env,s.st.addRow ⟨E',TC.sz α,TC.trs l,false⟩⟩:AS).putO o.dst (.acc (TC.sz α) (TC.trs l) s.st.rows.length)):=rBa l (hE ▸ hT.h) hz.h ho hd hp hc hle hel hsz hzl hsm
end
theorem jO{E' by_ r m:Nat}{a b:List α}{row:l3}(h:a.length+b.length≤68719476736)(ho:o.op= .call { callee:= .builtin .append,args:= #[x,y],argTypes:= #[T,T] }:=by exact rfl)(hd:bJ o.dst n=true:=by exact rfl)
 (hx:s.ev x=some (.acc (TC.sz α) (TC.trs a) r):=by exact rfl) (hrow:s.st.rows[r]?=some row:=by exact rfl) (hes:row.es=TC.trs a:=by exact rfl) (hT:EL P T E:=by infer_instance) (hE0:E=(E',TC.sz α,by_):=by exact rfl) (hz:ZE P E' m:=by infer_instance) (hm:m=TC.sz α:=by exact rfl) (hE:row.E=E':=by exact rfl) (hw:row.whole=false:=by exact rfl) (hy:s.ev y=some p:=by exact rfl) (hp:lB p=some (TC.sz α,TC.trs b):=by exact rfl)
 (hb:0<by_:=by decide) (hb2:by_≤2048:=by decide):bD P C n o s ((⟨s.env,s.st.setRow r { row with es:=TC.trs (a++b) }⟩:AS).putO o.dst (.acc (TC.sz α) (TC.trs (a++b)) r)):=rAp h (hE0 ▸ hT.h) (hm ▸ hz.h) ho hd hx hrow hes hE hw hy hp hb hb2
end
end
section
variable {P:Program} {C:nR} {n:Nat} {s:AS} {fn:Func} {R:PV→c4→Prop} {e:Exit} {st':c4} {p p1 p2 p3 q:PV}
theorem qf1(hR:R q st':=by exact⟨rfl,rfl⟩)(hr:S5 P s fn.results.toList [p]:=by first|exact⟨rfl,trivial⟩|exact⟨⟨_,_,_,rfl,rfl,SH.h,rfl,rfl⟩,trivial⟩)(he:e= .normal∨e= .ret:=by first|exact .inr rfl|exact .inl rfl)
 (hst:sN s.st st':=by exact SU) (hp:jS C.st st':=by exact SA) (hle:PV.Le p q:=by exact iX) (hk:PV.okIn st' q=true:=by exact rfl):BD P C n fn R e s:=BD.mk he hr rfl hst hp hle hk hR
theorem qf2(hR:R q st':=by exact⟨rfl,rfl⟩)(hr:S5 P s fn.results.toList [p1,p2]:=by first|exact⟨rfl,rfl,trivial⟩|exact⟨⟨_,_,_,rfl,rfl,SH.h,rfl,rfl⟩,rfl,trivial⟩|exact⟨rfl,⟨_,_,_,rfl,rfl,SH.h,rfl,rfl⟩,trivial⟩)(he:e= .normal∨e= .ret:=by first|exact .inr rfl|exact .inl rfl)
 (hst:sN s.st st':=by exact SU) (hp:jS C.st st':=by exact SA) (hle:PV.Le (.tup [p1,p2]) q:=by exact iX) (hk:PV.okIn st' q=true:=by exact rfl):BD P C n fn R e s:=BD.mk he hr rfl hst hp hle hk hR
theorem qf3(hR:R q st':=by exact⟨rfl,rfl⟩)(hr:S5 P s fn.results.toList [p1,p2,p3]:=by first|exact⟨rfl,rfl,rfl,trivial⟩|exact⟨⟨_,_,_,rfl,rfl,SH.h,rfl,rfl⟩,rfl,rfl,trivial⟩)(he:e= .normal∨e= .ret:=by first|exact .inr rfl|exact .inl rfl)
 (hst:sN s.st st':=by exact SU) (hp:jS C.st st':=by exact SA) (hle:PV.Le (.tup [p1,p2,p3]) q:=by exact iX) (hk:PV.okIn st' q=true:=by exact rfl):BD P C n fn R e s:=BD.mk he hr rfl hst hp hle hk hR
end
section
variable {P:Program} {C:nR} {n:Nat} {s:AS} {o:Oper} {x y:Operand} {T yT:TypeId}
theorem tNx{i:Nat}(ho:o.op= .binOp .add T x y yT:=by exact rfl)(hd:bJ o.dst n=true:=by exact rfl)(hx:s.ev x=some (pN i):=by exact rfl)(hy:s.ev y=some (pI 1):=by exact rfl)(hb:i<9223372036854775807:=by omega):bD P C n o s (s.putO o.dst (pN (i+1))):=
 bD.addI ho hd hx hy (by omega) (by omega)
theorem rA{s1:AS}(h:bD P C n o s s1:=by first
 |exact bH
 |exact bZ
 |exact eB
 |exact wX
 |exact vE
 |exact hM
 |exact tLn
 |exact oP
 |exact uV
 |exact rEq
 |exact rLt
 |exact J6
 |exact rEx
 |exact m9
 |exact tNx
 |exact tAl
 |exact tPt
 |exact tPf
 |exact rSe
 |exact rSn
 |exact rNe
 |exact rLe
 |exact rGt
 |exact rGe
 |exact rNf
 |exact rAw
 |exact rSw
 |exact tF1):bD P C n o s s1:=h
section
variable {Q:Exit→AS→Prop} {ops:Array Oper} {rest:List Oper} {s1:AS} {j d k:Nat} {b c b':Bool} {G':Prop}
theorem qU(hg:o.guard=none:=by exact rfl)(ho:bD P C n o s s1)(h:AL P C n ops rest Q s1):AL P C n ops (o::rest) Q s:=q1 ho h hg
theorem qK(hg:o.guard=some (j,c):=by exact rfl)(hj:(ops[j]?).bind (·.dst)=some d:=by exact rfl)(hb:s.lk d=some (.t (.leaf (.bool b))):=by exact rfl)(hv:b=b':=by first|with_reducible assumption|with_reducible exact @rfl Bool true|with_reducible exact @rfl Bool false|assumption|exact rfl)(hne:(b'==c)=false:=by exact rfl)(hd:bJ o.dst n=true:=by exact rfl)(h:AL P C n ops rest Q (s.putO o.dst (.tup []))):AL P C n ops (o::rest) Q s:=qk hv h hg hj hb hne hd
theorem qV(hg:o.guard=some (j,c):=by exact rfl)(hj:(ops[j]?).bind (·.dst)=some d:=by exact rfl)(hb:s.lk d=some (.t (.leaf (.bool b))):=by exact rfl)(hv:b=c:=by first|with_reducible assumption|with_reducible rfl|assumption|exact rfl)(ho:bD P C n o s s1)(h:AL P C n ops rest Q s1):AL P C n ops (o::rest) Q s:=qg hv ho h hg hj hb
theorem qCt{c:Operand}{b:Bool}{cx cy:Code}(hc:s.ev c=some (.t (.leaf (.bool b))):=by exact rfl)(e:b=true:=by first|with_reducible rfl|with_reducible assumption|exact rfl|assumption)(h:cO P C n cx Q s):cO P C n (.cond c cx cy) Q s:=ahV e h hc
theorem qCf{c:Operand}{b:Bool}{cx cy:Code}(hc:s.ev c=some (.t (.leaf (.bool b))):=by exact rfl)(e:b=false:=by first|with_reducible rfl|with_reducible assumption|exact rfl|assumption)(h:cO P C n cy Q s):cO P C n (.cond c cx cy) Q s:=UP e h hc
end
end
theorem grR{k:Nat}{G G':Prop}(h:GR k G G':=by
 repeat(first
  |exact gr0
  |apply grS (fun h=>qU (ho:=rA) (h:=h))
  |apply grS (fun h=>qK (h:=h))
  |apply grS (fun h=>qku h)
  |apply grS (fun h=>qV (ho:=rA) (h:=h))
  |apply grS (fun h=>qN h)
  |apply grS (fun h=>qS h)
  |apply grS (fun h=>qR h)
  |apply grS (fun h=>cO.skip h)
  |apply grS (fun h=>cO.block h)
  |apply grS (fun h=>qCt (h:=h))
  |apply grS (fun h=>qCf (h:=h)))):GR k G G':=h
theorem smR{β:Type}{v r:β}(h:Hd (some v) (fun v=>v=r)):v=r:=(s3 h:)
theorem skR{β σ:Type}{f:σ→Option β}{x r:β}(h:Hd (some (.inl x)) (SK f (fun v=>v=r))):x=r:=(skL (s3 h):)
theorem gQ(k:Nat){G G':Prop}(h':G')(h:GR k G G':=by exact grR):G:=h.h h'
theorem gE(k:Nat){G G':Prop}(h:GR k G G':=by exact grR)(h':G':=by
 first
  |(refine cO.ret ?_;(first|obtain rfl:_=_:=smR (by assumption)|obtain rfl:_=_:=skR (by assumption)|(have e:=lkR (s3 (by assumption));obtain rfl:_=_:=e)|(have e:=lwR (s3 (by assumption));obtain rfl:_=_:=e));(first|exact qf1|exact qf2|exact qf3|exact qe (ps:= [_,_,_,_]) ⟨rfl,rfl⟩ ⟨rfl,rfl,rfl,rfl,trivial⟩|exact qe (ps:= [_,_,_,_,_,_]) ⟨rfl,rfl⟩ ⟨rfl,rfl,rfl,rfl,rfl,rfl,trivial⟩))
  |exact auM ⟨_,s3 (by assumption),wkA⟩
  |exact lpN (by assumption) ⟨_,s3 (by assumption),wkA⟩
  |exact lwN ⟨_,s3 (by assumption),wkA⟩
  |(refine cO.exit ?_;(first|exact lpX ⟨_,by assumption,wkA⟩|exact lpB ⟨_,s3 (by assumption),wkA⟩|exact lwB ⟨_,s3 (by assumption),wkA⟩))
  |exact lwB ⟨_,s3 (by assumption),wkA⟩
  |((first|obtain rfl:_=_:=smR (by assumption)|obtain rfl:_=_:=skR (by assumption));(first|exact qf1|exact qf2|exact qf3))):G:=h.h h'
end Go.Proofs.YtfcoaagbccmahaaGreat
