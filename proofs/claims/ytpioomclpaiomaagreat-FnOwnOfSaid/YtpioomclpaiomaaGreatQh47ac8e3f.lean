/- Words, rules and walks of several kinds, laid together: WMat2, MaMt2, WMt2, MaLOwnOf, OkF1, WCopy, WNo, WLOwnOf. No conditions but those that each theorem states. -/
import Derived.Test.YtpioomclpaiomaaGreatQhd03cb7c6
import Derived.Test.YtpioomclpaiomaaGreatQhfd96fd82
import Derived.Test.YtpioomclpaiomaaGreatQheca68af1
import Derived.Test.YtpioomclpaiomaaGreatQh7e1aa739
import Derived.Test.YtpioomclpaiomaaGreatQhc919d32c
import Derived.Test.YtpioomclpaiomaaGreatQh4b292d1e
set_option linter.unusedSimpArgs false
set_option linter.unusedVariables false
namespace Go.Proofs.YtpioomclpaiomaaGreat.W
set_option linter.unusedSimpArgs false
set_option linter.unusedVariables false
open Go.RowKit Go.WalkArith
def BL(l:List aK)(v:ByteArray):aA:=match C4 l v with
 |some b=>b.gType
 |none=> .mk 0 ⟨#[]⟩ []
def IC(l:List aK)(v:ByteArray):Bool:=(C4 l v).isSome
def hZ(p t:aA):List aK:=(lW p t []).getD []
theorem akY(l:List aK)(v:ByteArray)(hb:qJ l):b4 Tryz.prog 133 [.t (.row 4 (aK.trs l)),.t (.leaf (.string v))] (.tup [(aA.pv (BL l v)),.t (.leaf (.bool (IC l v)))]):=by
 refine R8 0 l v (BL l v,IC l v) ?_
 rw [R7 0 l v hb]
 unfold BL IC
 cases C4 l v<;>rfl
theorem VQ(p t:aA)(hp:Tr.bulkL p.tr≤68719476735)(ht:Tr.bulkL t.tr≤68719476735):b4 Tryz.prog 33 [(aA.pv p),(aA.pv t)] (.tup [.t (.row 4 (aK.trs (hZ p t))),.t (.leaf (.bool (tM p t)))]):=by
 obtain⟨fu,hf⟩:=(aiX p).get
 refine aiY (fu+1) p t (hZ p t,tM p t) ?_
 have h1:=ahI (fu:=fu) (ps:= [p]) (by simpa using hf) (ts:= [t]) (s:= []) rfl (by simpa using ht) qJ.nil (by rw [ahO];simp only [List.length_nil];omega)
 rw [RF] at h1
 unfold aa0 DY tM hZ
 cases hq:lW p t [] with
 |none=>
  rw [hq] at h1
  obtain⟨a,b,h1⟩:=h1
  exact zR (oO rfl (zR h1 (oO rfl rfl))) rfl
 |some s=>
  rw [hq] at h1
  exact zR (oO rfl (zR h1 (uG rfl (qX rfl rfl)))) rfl
theorem DP(p t:aA)(ht:Tr.bulkL t.tr≤68719476735):qJ (hZ p t):=by
 unfold hZ
 cases hq:lW p t [] with
 |none=>exact qJ.nil
 |some s=>exact(VP p t [] s hq qJ.nil ht).1
end Go.Proofs.YtpioomclpaiomaaGreat.W

namespace Go.Proofs.YtpioomclpaiomaaGreat.W
set_option maxRecDepth 100000
set_option maxHeartbeats 40000000
noncomputable section
open Go.RowKit Go.Proofs
set_option linter.unusedSimpArgs false
set_option linter.unusedVariables false
attribute [local irreducible] lt
abbrev xA:=(List aK)→aA→Option aA
abbrev oY:=(List aK)→(List aA)→Option ((List aA))
def DF(m:xA):Prop:= ∀(plist:List aK) (pt:aA) (r:aA),m plist pt=some r→b4 Tryz.prog 34 [jG plist,(aA.pv pt)] ((aA.pv r):PV)
def yH(m:oY):Prop:= ∀(plist:List aK) (pall:List aA) (r:(List aA)),m plist pall=some r→b4 Tryz.prog 92 [jG plist,a3 pall] (a3 r:PV)
def QU(fu:Nat)(r_iApply:xA)(r_iApplyAll:oY)(plist:List aK)(pt:aA):Option aA:=
 sw (decide (pt.gKind=1))
 (bd (AG fu plist pt.gName) (fun(x3,x4)=>
 sw (x4)
 (some x3)
 (bd (r_iApplyAll plist pt.gArgs) (fun x7=>
 some (aA.mk pt.gKind pt.gName x7)))))
 (bd (r_iApplyAll plist pt.gArgs) (fun x9=>
 some (aA.mk pt.gKind pt.gName x9)))
theorem aaE(fu:Nat)(r_iApply:xA)(r_iApplyAll:oY)(h_iApply:DF r_iApply)(h_iApplyAll:yH r_iApplyAll):DF (QU fu r_iApply r_iApplyAll):=by
 intro plist pt r H
 have H:=eF H
 refine qI Tryz.func34 (fun C hC=>?_)
 refine qS (qR (q1 (jP (dU pt)) (q1 (gM eP) (qN ?_))))
 iterate 2 refine qS ?_
 refine qR (q1 (a6 iF) (q1 (bD jN) (q1 eG (qN ?_))))
 refine bA H (fun h1 H=>?_) (fun h1 H=>?_)
 ·refine qS (qR (q1 aE (q1 (a6 gR) (q1 (bD eE) (eT H fun x3 x4 z2 H=>(q1 (bG Tryz.func91 (Q3 fu plist pt.gName _ z2)) (q1 aE ?_)))))))
  iterate 2 refine q1 uB ?_
  refine q1 (gM eP) (q1 (bR eS) (q1 aE (qN (qS (qR (q1 aE (qN ?_)))))))
  refine bA H (fun h5 H=>?_) (fun h5 H=>?_)
  ·refine qS (qR (q1 (cU [pI x3.gKind,pS x3.gName,a3 x3.gArgs] bZ) (q1 (bR eS) (qN (aQ.ret ?_)))))
   cases aZ H
   exact bL (hr:=⟨⟨_,_,_,rfl,rfl,bZ,rfl,rfl⟩,trivial⟩)
  refine aQ.skip (qS (bN H fun x7 z6 H=>(dW (dI [3] (a6 iF) (dD [19] (bD jN) (dI [3] (a6 gR) (dD [21] (bD eE) (dI [0] aE (dI [3] (a6 eZ) (dD [24] (bD kT) (dI [23,25] (bG Tryz.func92 (h_iApplyAll plist pt.gArgs _ z6)) (dI [20,22,26] (eU eP sF) (mN [4,27] (bR eS) ?_)))))))))))))
  refine dN (aQ.ret ?_)
  cases aZ H
  exact bL (hr:=⟨⟨_,_,_,rfl,rfl,bZ,rfl,rfl⟩,trivial⟩)
 refine aQ.skip (qS (bN H fun x9 z8 H=>(dW (dI [3] (a6 iF) (dD [19] (bD jN) (dI [3] (a6 gR) (dD [21] (bD eE) (dI [0] aE (dI [3] (a6 eZ) (dD [24] (bD kT) (dI [23,25] (bG Tryz.func92 (h_iApplyAll plist pt.gArgs _ z8)) (dI [20,22,26] (eU eP sF) (mN [4,27] (bR eS) ?_)))))))))))))
 refine dN (aQ.ret ?_)
 cases aZ H
 exact bL (hr:=⟨⟨_,_,_,rfl,rfl,bZ,rfl,rfl⟩,trivial⟩)
def KD(fu:Nat)(r_iApply:xA)(r_iApplyAll:oY)(plist:List aK)(pall:List aA):Nat→((List aA))→Option (LR ((List aA)) ((List aA))):=
 fun i2 v3=>bd (r_iApply plist (aW pall i2)) (fun x7=>
 gd (i2=(v3).length)
 (some (.next (v3++([x7]:List aA)))))
def KE(fu:Nat)(r_iApply:xA)(r_iApplyAll:oY)(plist:List aK)(pall:List aA):Option (((List aA))⊕((List aA))):=
 loopN (KD fu r_iApply r_iApplyAll plist pall) (pall.length-0) 0 ([])
def DE(fu:Nat)(r_iApply:xA)(r_iApplyAll:oY)(plist:List aK)(pall:List aA):Option ((List aA)):=
 gd (pall.length≤68719476736)
 (so (KE fu r_iApply r_iApplyAll plist pall) (fun v3=>
 gd ((v3).length=pall.length)
 (some v3)))
theorem QT(fu:Nat)(r_iApply:xA)(r_iApplyAll:oY)(h_iApply:DF r_iApply)(h_iApplyAll:yH r_iApplyAll):yH (DE fu r_iApply r_iApplyAll):=by
 intro plist pall r H
 have H:=eF H
 refine qI Tryz.func92 (fun C hC=>?_)
 refine qS (qR (q1 aE (qN (qS (qR (q1 aE (q1 (eB c8 (aA.trs_len _)) (cX H fun z1 H=>(q1 (aX.makeSlice (N:=pall.length) rfl rfl rfl rfl c8 agY (by decide) (Nat.le_trans (Nat.mul_le_mul_left _ z1) (by decide)) (Nat.le_trans z1 (by decide))) (q1 aE (qN ?_)))))))))))
 iterate 2 refine qS ?_
 refine qR (q1 aE (q1 (eB c8 (aA.trs_len _)) (q1 aE (qN ?_))))
 refine j8 1 (aA.trs_len _) (fun hl4=>?_)
 refine b9 (σ:=(List aA)) (fun i2 v3=>⟨[(0,jG plist),(4,.nil),(5,.full 3 (pall.length) 0),(11,a3 pall),(12,pN pall.length),(13,pN i2)],⟨[],[⟨35,3,aA.trs (v3),true⟩]⟩⟩) (fun v3=>⟨[(4,.nil),(5,.full 3 (pall.length) 0)],⟨[],[⟨35,3,aA.trs (v3),true⟩]⟩⟩) (f8 H) ?_ ?_
 ·rintro i2 v3 H
  refine qS (qR (q1 gP (qN (qS ?_))))
  refine dT H (fun h5 h5l H=>?_) (fun h5 H=>?_)
  ·have h5n:=a8 h5
   refine aQ.skip (qS (aQ.block (qS (qR (q1 aE (q1 (gV h5n c8) (q1 (jW (aA.cs (aW pall i2)) bZ) (q1 (gM eP) (q1 aE (q1 (bR eS) (qN (qR ?_))))))))))))
   iterate 3 refine q1 aE ?_
   refine q1 (cU [pI ((aW pall i2).gKind),pS ((aW pall i2).gName),a3 ((aW pall i2).gArgs)] bZ) (bN H fun x7 z6 H=>(q1 (bG Tryz.func34 (h_iApply plist (aW pall i2) _ z6)) (q1 (aX.indexFull (k:=i2) rfl rfl rfl rfl h5n c8) (cX H fun z8 H=>?_))))
   refine q1 (aX.storeRptr (e:=aA.cs x7) (es2:=aA.trs (v3++([x7]:List aA))) 18 rfl rfl rfl rfl rfl rfl kP rfl rfl eS (by rw [aA.trs_len];exact z8) h5n (by rw [aA.trs_map,aA.trs_map,List.map_append];simp [aA.tr_cs])) ?_;refine qN (qR (q1 (aX.addI rfl rfl rfl rfl (c:=((i2+1:Nat):Int)) (by omega) (by omega)) (q1 aE (qN ?_))))
   exact iK h5l ⟨_,(aZ H:),b0⟩
  refine aQ.exit ?_;exact j0 ⟨_,H,b0⟩
 rintro v3 H
 refine qS (qR (q1 aE (cX H fun z9 H=>?_)))
 refine AL.weak (Wk.full (i:=25) rfl rfl (by rw [aA.trs_len];exact z9)) ?_;refine q1 aE (qN (aQ.ret ?_))
 cases aZ H
 exact bL
mutual
def oZ:Nat→(List aK)→aA→Option aA
 |0,_,_=>none
 |fu+1,plist,pt=>QU fu (oZ fu) (lE fu) plist pt
def lE:Nat→(List aK)→(List aA)→Option ((List aA))
 |0,_,_=>none
 |fu+1,plist,pall=>DE fu (oZ fu) (lE fu) plist pall
end
theorem aeD(fu:Nat):DF (oZ fu)∧yH (lE fu):=by
 induction fu with
 |zero=>exact⟨(fun plist pt r H=>by simp only [oZ] at H;cases H),(fun plist pall r H=>by simp only [lE] at H;cases H)⟩
 |succ fu ih=>exact⟨(fun plist pt r H=>by simp only [oZ] at H;exact aaE fu (oZ fu) (lE fu) ih.1 ih.2 plist pt r H),(fun plist pall r H=>by simp only [lE] at H;exact QT fu (oZ fu) (lE fu) ih.1 ih.2 plist pall r H)⟩
theorem aiE(fu:Nat):DF (oZ fu):=(aeD fu).1
abbrev xL:=(List aK)→aA→Option aA
abbrev pC:=(List aK)→(List aA)→Option ((List aA))
def DV(m:xL):Prop:= ∀(plist:List aK) (pt:aA) (r:aA),m plist pt=some r→b4 Tryz.prog 89 [jG plist,(aA.pv pt)] ((aA.pv r):PV)
def yM(m:pC):Prop:= ∀(plist:List aK) (pall:List aA) (r:(List aA)),m plist pall=some r→b4 Tryz.prog 134 [jG plist,a3 pall] (a3 r:PV)
def RQ(fu:Nat)(r_sApply:xL)(r_sApplyAll:pC)(plist:List aK)(pt:aA):Option aA:=
 sw (decide (pt.gKind=1))
 (gd (qJ plist)
 (sw (IC plist pt.gName)
 (some (BL plist pt.gName))
 (bd (r_sApplyAll plist pt.gArgs) (fun x5=>
 some (aA.mk pt.gKind pt.gName x5)))))
 (bd (r_sApplyAll plist pt.gArgs) (fun x7=>
 some (aA.mk pt.gKind pt.gName x7)))
theorem aaY(fu:Nat)(r_sApply:xL)(r_sApplyAll:pC)(h_sApply:DV r_sApply)(h_sApplyAll:yM r_sApplyAll):DV (RQ fu r_sApply r_sApplyAll):=by
 intro plist pt r H
 have H:=eF H
 refine qI Tryz.func89 (fun C hC=>?_)
 refine qS (qR (q1 (jP (dU pt)) (q1 (gM eP) (qN ?_))))
 iterate 2 refine qS ?_
 refine qR (q1 (a6 iF) (q1 (bD jN) (q1 eG (qN ?_))))
 refine bA H (fun h1 H=>?_) (fun h1 H=>?_)
 ·refine qS (qR (q1 aE (q1 (a6 gR) (q1 (bD eE) (cX H fun z2 H=>(q1 (bG Tryz.func133 (akY plist pt.gName z2)) (q1 aE ?_)))))))
  iterate 2 refine q1 uB ?_
  refine q1 (gM eP) (q1 (bR eS) (q1 aE (qN (qS (qR (q1 aE (qN ?_)))))))
  refine bA H (fun h3 H=>?_) (fun h3 H=>?_)
  ·refine qS (qR (q1 (cU [pI ((BL plist pt.gName).gKind),pS ((BL plist pt.gName).gName),a3 ((BL plist pt.gName).gArgs)] bZ) (q1 (bR eS) (qN (aQ.ret ?_)))))
   cases aZ H
   exact bL (hr:=⟨⟨_,_,_,rfl,rfl,bZ,rfl,rfl⟩,trivial⟩)
  refine aQ.skip (qS (bN H fun x5 z4 H=>(dW (dI [3] (a6 iF) (dD [19] (bD jN) (dI [3] (a6 gR) (dD [21] (bD eE) (dI [0] aE (dI [3] (a6 eZ) (dD [24] (bD kT) (dI [23,25] (bG Tryz.func134 (h_sApplyAll plist pt.gArgs _ z4)) (dI [20,22,26] (eU eP sF) (mN [4,27] (bR eS) ?_)))))))))))))
  refine dN (aQ.ret ?_)
  cases aZ H
  exact bL (hr:=⟨⟨_,_,_,rfl,rfl,bZ,rfl,rfl⟩,trivial⟩)
 refine aQ.skip (qS (bN H fun x7 z6 H=>(dW (dI [3] (a6 iF) (dD [19] (bD jN) (dI [3] (a6 gR) (dD [21] (bD eE) (dI [0] aE (dI [3] (a6 eZ) (dD [24] (bD kT) (dI [23,25] (bG Tryz.func134 (h_sApplyAll plist pt.gArgs _ z6)) (dI [20,22,26] (eU eP sF) (mN [4,27] (bR eS) ?_)))))))))))))
 refine dN (aQ.ret ?_)
 cases aZ H
 exact bL (hr:=⟨⟨_,_,_,rfl,rfl,bZ,rfl,rfl⟩,trivial⟩)
def KP(fu:Nat)(r_sApply:xL)(r_sApplyAll:pC)(plist:List aK)(pall:List aA):Nat→((List aA))→Option (LR ((List aA)) ((List aA))):=
 fun i1 v3=>bd (r_sApply plist (aW pall i1)) (fun x7=>
 gd ((v3).length+(([x7]:List aA)).length≤68719476736)
 (some (.next (v3++([x7]:List aA)))))
def KQ(fu:Nat)(r_sApply:xL)(r_sApplyAll:pC)(plist:List aK)(pall:List aA):Option (((List aA))⊕((List aA))):=
 loopN (KP fu r_sApply r_sApplyAll plist pall) (pall.length-0) 0 ([])
def DU(fu:Nat)(r_sApply:xL)(r_sApplyAll:pC)(plist:List aK)(pall:List aA):Option ((List aA)):=
 so (KQ fu r_sApply r_sApplyAll plist pall) (fun v3=>
 some v3)
theorem RP(fu:Nat)(r_sApply:xL)(r_sApplyAll:pC)(h_sApply:DV r_sApply)(h_sApplyAll:yM r_sApplyAll):yM (DU fu r_sApply r_sApplyAll):=by
 intro plist pall r H
 have H:=eF H
 refine qI Tryz.func134 (fun C hC=>?_)
 refine qS (qR (q1 aE (qN (qS (qR (q1 (qZ ([]:List aA) c8 eP) (q1 aE (qN ?_))))))))
 iterate 2 refine qS ?_
 refine qR (q1 aE (qN ?_))
 refine j8 1 (aA.trs_len _) (fun hl4=>?_)
 refine b9 (σ:=(List aA)) (fun i1 v3=>⟨[(0,jG plist),(1,a3 pall),(4,.nil),(5,NU v3 0),(6,pN i1)],⟨[],[⟨35,3,aA.trs (v3),false⟩]⟩⟩) (fun v3=>⟨[(4,.nil),(5,NU v3 0)],⟨[],[⟨35,3,aA.trs (v3),false⟩]⟩⟩) (f8 H) ?_ ?_
 ·rintro i1 v3 H
  iterate 2 refine qS ?_
  refine qR ?_
  iterate 2 refine q1 aE ?_
  refine q1 (eB c8 (aA.trs_len _)) (q1 gP (qN ?_))
  refine dT H (fun h5 h5l H=>?_) (fun h5 H=>?_)
  ·have h5n:=a8 h5
   refine aQ.skip (qS (aQ.block (qR ?_)))
   iterate 4 refine q1 aE ?_
   refine q1 (gV h5n c8) (q1 (jW (aA.cs (aW pall i1)) bZ) (bN H fun x7 z6 H=>(q1 (bG Tryz.func89 (h_sApply plist (aW pall i1) _ z6)) (q1 (hH ([x7]:List aA) c8 eP) (cX H fun z8 H=>(q1 (kX z8 c8 agY) (q1 aE (qN (qR (q1 aE (q1 (aX.addI rfl rfl rfl rfl (c:=((i1+1:Nat):Int)) (by omega) (by omega)) (q1 aE (qN ?_)))))))))))))
   exact iK h5l ⟨_,(aZ H:),b0⟩
  refine aQ.exit ?_;exact j0 ⟨_,H,b0⟩
 rintro v3 H
 refine qS (qR ?_)
 iterate 2 refine q1 aE ?_
 refine qN (aQ.ret ?_)
 cases aZ H
 exact bL
mutual
def pD:Nat→(List aK)→aA→Option aA
 |0,_,_=>none
 |fu+1,plist,pt=>RQ fu (pD fu) (lJ fu) plist pt
def lJ:Nat→(List aK)→(List aA)→Option ((List aA))
 |0,_,_=>none
 |fu+1,plist,pall=>DU fu (pD fu) (lJ fu) plist pall
end
theorem aeQ(fu:Nat):DV (pD fu)∧yM (lJ fu):=by
 induction fu with
 |zero=>exact⟨(fun plist pt r H=>by simp only [pD] at H;cases H),(fun plist pall r H=>by simp only [lJ] at H;cases H)⟩
 |succ fu ih=>exact⟨(fun plist pt r H=>by simp only [pD] at H;exact aaY fu (pD fu) (lJ fu) ih.1 ih.2 plist pt r H),(fun plist pall r H=>by simp only [lJ] at H;exact RP fu (pD fu) (lJ fu) ih.1 ih.2 plist pall r H)⟩
theorem aiV(fu:Nat):DV (pD fu):=(aeQ fu).1
end
end Go.Proofs.YtpioomclpaiomaaGreat.W

namespace Go.Proofs.YtpioomclpaiomaaGreat.W
set_option linter.unusedSimpArgs false
set_option linter.unusedVariables false
open Go.RowKit Go.Proofs
mutual
def oQ(l:List aK):aA→aA
 | .mk k n xs=>if k=1 then(if IC l n=true then BL l n else .mk k n (HM l xs)) else .mk k n (HM l xs)
def HM(l:List aK):List aA→List aA
 | []=> []
 |x::r=>oQ l x::HM l r
end
theorem HN(l:List aK): ∀xs,HM l xs=xs.map (oQ l)
 | []=>rfl
 |x::r=>by rw [HM,HN l r,List.map_cons]
theorem XD{l:List aK}{xs:List aA}(hb:xs.length≤68719476735)(h: ∀x∈xs,bY fun fu=>pD fu l x=some (oQ l x)):bY fun fu=>lJ fu l xs=some (HM l xs):=by
 refine bY.succ ((bY.list h).imp fun fu hf=>?_)
 simp only [lJ,DU,KQ]
 rw [IE (g:=oQ l) fun i s hi hp=>?_,HN]
 ·rfl
 ·rw [KP,zR (hf _ (iX hi)) rfl,qX (by simp;omega) rfl]
theorem aiT{l:List aK}(hl:qJ l): ∀t:aA,Tr.bulkL t.tr≤68719476735→bY fun fu=>pD fu l t=some (oQ l t):=by
 refine aA.ind fun k n xs ih hb=>?_
 have h1:=wQ k n xs
 refine bY.succ ((XD (l:=l) (xs:=xs) (by omega) fun x hx=>ih x hx (by have:=C6 hx;omega)).imp fun fu hf=>?_)
 simp only [pD,RQ,aA.gKind_mk,aA.gName_mk,aA.gArgs_mk,hf,oQ]
 by_cases hk:k=1
 ·rw [if_pos hk]
  refine uG (decide_eq_true hk) (qX hl ?_)
  cases IC l n<;>rfl
 ·rw [if_neg hk]
  exact oO (decide_eq_false hk) rfl
theorem aiU(l:List aK)(t:aA)(hl:qJ l)(hb:Tr.bulkL t.tr≤68719476735):b4 Tryz.prog 89 [.t (.row 4 (aK.trs l)),(aA.pv t)] (aA.pv (oQ l t)):=by
 obtain⟨fu,h⟩:=(aiT hl t hb).get
 exact aiV fu l t _ h
theorem WZ{l:List aK}{xs:List aA}(hb:xs.length≤68719476735)(h: ∀x∈xs,bY fun fu=>oZ fu l x=some (oQ l x)):bY fun fu=>lE fu l xs=some (HM l xs):=by
 refine bY.succ ((bY.list h).imp fun fu hf=>?_)
 simp only [lE,DE,KE]
 refine qX (by omega) ?_
 rw [IE (g:=oQ l) fun i s hi hp=>?_,HN]
 ·exact qX (by simp) rfl
 ·rw [KD,zR (hf _ (iX hi)) rfl,qX hp.symm rfl]
theorem aiD{l:List aK}(hl:qJ l): ∀t:aA,Tr.bulkL t.tr≤68719476735→bY fun fu=>oZ fu l t=some (oQ l t):=by
 refine aA.ind fun k n xs ih hb=>?_
 have h1:=wQ k n xs
 refine bY.succ ((WZ (l:=l) (xs:=xs) (by omega) fun x hx=>ih x hx (by have:=C6 hx;omega)).imp fun fu hf=>?_)
 simp only [oZ,QU,aA.gKind_mk,aA.gName_mk,aA.gArgs_mk,hf,oQ]
 by_cases hk:k=1
 ·rw [if_pos hk,Q0 fu l n hl]
  refine uG (decide_eq_true hk) ?_
  unfold IC BL
  cases C4 l n<;>rfl
 ·rw [if_neg hk]
  exact oO (decide_eq_false hk) rfl
theorem VD(l:List aK)(t:aA)(hl:qJ l)(hb:Tr.bulkL t.tr≤68719476735):b4 Tryz.prog 34 [.t (.row 4 (aK.trs l)),(aA.pv t)] (aA.pv (oQ l t)):=by
 obtain⟨fu,h⟩:=(aiD hl t hb).get
 exact aiE fu l t _ h
theorem VL{σ β:Type}{F:Nat→σ→Option (LR σ β)}{x:β}: ∀k i v,loopN F k i v=some (.inl x)→ ∃j u,F j u=some (.ret x)
 |0,i,v,h=>by rw [loopN] at h;cases h
 |k+1,i,v,h=>by
  rw [loopN] at h
  cases hf:F i v with
  |none=>rw [hf] at h;cases h
  |some y=>
   rw [hf] at h
   cases y with
   |next s=>exact VL k (i+1) s h
   |brk s=>cases h
   |ret z=>cases h;exact⟨i,v,hf⟩
theorem aaR{fu:Nat}{s a b:List aK}{ps ts:List aA}(h:eV fu s ps ts=some (a,false,b)):a= []:=by
 cases fu with
 |zero=>rw [eV] at h;cases h
 |succ fu=>
  rw [eV] at h
  unfold uN BF at h
  cases hd:(!decide ((((ps.length:Nat):Int):Int)=((ts.length:Nat):Int))) with
  |true=>rw [hd] at h;cases h;rfl
  |false=>
   rw [hd] at h
   obtain⟨y,hy,H⟩:=f8 (eF (show so _ _=some (a,false,b) from h))
   cases y with
   |inr v=>
    have H2:Hd (some (v,true,v)) (fun r=>r=(a,false,b)):=H
    have e:(v,true,v)=(a,false,b):=aZ (K:=fun r=>r=(a,false,b)) H2
    cases e
   |inl r=>
    obtain⟨j,u,hf⟩:=VL _ _ _ hy
    have hr:r=(a,false,b):=H
    subst hr
    unfold wH at hf
    obtain⟨z,hz,H⟩:=bdI (gdI (eF hf)).2
    obtain⟨z1,z2,z3⟩:=z
    cases z2 with
    |true=>exact absurd (aZ (gdI H).2) (by simp)
    |false=>
     have e:=aZ H
     cases e
     rfl
theorem aiH(p t:aA)(hp:Tr.bulkL p.tr≤68719476735)(ht:Tr.bulkL t.tr≤68719476735):b4 Tryz.prog 88 [(aA.pv p),(aA.pv t)] (.tup [.t (.row 4 (aK.trs (hZ p t))),.t (.leaf (.bool (tM p t)))]):=by
 obtain⟨fu,hf⟩:=(aiG p).get
 refine aiI (fu+1) p t (hZ p t,tM p t) ?_
 have h1:=ag9 (fu:=fu) (ps:= [p]) (by simpa using hf) (ts:= [t]) (s:= []) rfl (by simpa using ht) qJ.nil (by rw [ahO];simp only [List.length_nil];omega)
 rw [RF] at h1
 unfold aaF tM hZ
 cases hq:lW p t [] with
 |none=>
  rw [hq] at h1
  obtain⟨a,b,h1⟩:=h1
  obtain rfl:=aaR h1
  exact zR h1 (oO rfl rfl)
 |some s=>
  rw [hq] at h1
  exact zR h1 (uG rfl (qX rfl rfl))
end Go.Proofs.YtpioomclpaiomaaGreat.W

namespace Go.Proofs.YtpioomclpaiomaaGreat.W
set_option maxRecDepth 100000
set_option maxHeartbeats 40000000
noncomputable section
open Go.RowKit Go.Proofs
set_option linter.unusedSimpArgs false
set_option linter.unusedVariables false
attribute [local irreducible] lt
def KR(m:(List UInt8)→Option (aI×aO)):Prop:= ∀(pcode:List UInt8) (r:aI×aO),m pcode=some r→b4 Tryz.prog 67 [rU pcode] (.tup [(aI.pv r.1),(aO.pv r.2)]:PV)
def oJ(fu:Nat)(pcode:List UInt8):Option (aI×aO):=
 gd ((pcode).length≤1048576)
 (bd (uX fu (DS.start pcode)) (fun(x3,x4)=>
 lt (x4.after 4) (fun d5=>
 lt (d5.after 14) (fun d7=>
 some (x3,(aO.mk (aR ((x4.below 4:Int)-1)) (aR ((d5.below 14:Int)-1))))))))
theorem IK(fu:Nat):KR (oJ fu):=by
 intro pcode r H
 have H:=eF H
 refine qI Tryz.func67 (fun C hC=>?_)
 refine qS (qR (q1 (gM JK) (q1 (gM adK) (qN (qS (qR (q1 aE (cX H fun z1 H=>(q1 (aX.callNew (ps:= [_]) rfl rfl Tryz.func54 (by kernel_rfl) rfl rfl kP rfl rfl (aeO pcode z1)) (q1 aE (qN (qS (qR ?_)))))))))))))
 refine q1 aE (eT H fun x3 x4 z2 H=>(q1 (fM [2] [] Tryz.func55 (K6 fu (DS.start pcode) _ z2)) (q1 aE (gL H fun d5 h6 H=>(q1 (fM [2] [] Tryz.func103 (CG h6 (e9 x4 4))) (q1 AY (q1 aE (gL H fun d7 h8 H=>(q1 (fM [2] [] Tryz.func103 (CG h8 (e9 d5 14))) (q1 AY (q1 (eU adK aoV) (q1 (bR JJ) (q1 (bR amS) ?_)))))))))))))
 refine qN (aQ.ret ?_)
 cases aZ H
 exact jM (hr:=⟨⟨_,_,_,rfl,rfl,nB,rfl,rfl⟩,⟨_,_,_,rfl,rfl,XN,rfl,rfl⟩,trivial⟩)
def II(m:(List UInt8)→Option (aI×aO×aA)):Prop:= ∀(pcode:List UInt8) (r:aI×aO×aA),m pcode=some r→b4 Tryz.prog 30 [rU pcode] (.tup [(aI.pv r.1),(aO.pv r.2.1),(aA.pv r.2.2)]:PV)
def m4(fu:Nat)(pcode:List UInt8):Option (aI×aO×aA):=
 gd ((pcode).length≤1048576)
 (bd (oJ fu pcode) (fun(x3,x4)=>
 lt ((DS.start pcode).after ([p9,cH]:List ByteArray).length) (fun d5=>
 lt ((DS.start pcode).pick ([p9,cH]:List ByteArray)) (fun y7=>
 bd (sC fu d5 1) (fun(x10,x11)=>
 bd (jL fu y7 ([x10]:List aA)) (fun x13=>
 some (x3,x4,x13)))))))
theorem FU(fu:Nat):II (m4 fu):=by
 intro pcode r H
 have H:=eF H
 refine qI Tryz.func30 (fun C hC=>?_)
 refine qS (qR (q1 (gM JK) (q1 (gM adK) (q1 (gM eP) (qN (qS (qR (q1 aE (cX H fun z1 H=>(q1 (aX.callNew (ps:= [_]) rfl rfl Tryz.func54 (by kernel_rfl) rfl rfl kP rfl rfl (aeO pcode z1)) (q1 aE (qN (qS ?_)))))))))))))
 refine qR (q1 aE (eT H fun x3 x4 z2 H=>(q1 (bG Tryz.func67 (IK fu pcode _ z2)) (q1 aE ?_))))
 iterate 2 refine q1 uB ?_
 refine q1 (gM JK) (q1 (gM adK) (q1 (bR JJ) (q1 (bR amS) (qN (qS (gL H fun d5 h6 H=>(gL H fun y7 h8 H=>(eT H fun x10 x11 z9 H=>(bN H fun x13 z12 H=>(dW (dB [6] 0 2 (TG [bC x3.gPackages] nB) (dB [7] 0 3 (TG [pI x4.gPackage,pI x4.gAt] XN) (dI [5] aE ?_)))))))))))))
 refine dI [] (hH ([p9,cH]:List ByteArray) bU kG) (dE [17,18] (fM [3] [] Tryz.func86 (LF h6 h8 (fO (DS.start pcode) ([p9,cH]:List ByteArray) (by decide)))) (dI [5] aE (dE [20] (fM [3] [] Tryz.func87 (t4 fu d5 1 _ z9)) (dI [21] (hH ([x10]:List aA) c8 eP) (dI [19,22] (bG Tryz.func85 (iV fu y7 ([x10]:List aA) _ z12)) (mN [2,15] (bR JJ) (mN [3,16] (bR amS) (mN [4,23] (bR eS) (dN (aQ.ret ?_))))))))))
 cases aZ H
 exact qe3 (hr:=⟨⟨_,_,_,rfl,rfl,nB,rfl,rfl⟩,⟨_,_,_,rfl,rfl,XN,rfl,rfl⟩,⟨_,_,_,rfl,rfl,bZ,rfl,rfl⟩,trivial⟩)
def QV(m:aI→aO→aA→Option (aA×Bool)):Prop:= ∀(pw:aI) (po:aO) (phead:aA) (r:aA×Bool),m pw po phead=some r→b4 Tryz.prog 31 [(aI.pv pw),(aO.pv po),(aA.pv phead)] (.tup [(aA.pv r.1),pB r.2]:PV)
def kM(fu:Nat)(pw:aI)(po:aO)(phead:aA):Option (aA×Bool):=
 bd (o5 fu pw po) (fun(x2,x3)=>
 sw (!(x3))
 (some ((aA.mk 0 s_ []),false))
 (sw (!(x2.gHasAssoc))
 (some ((aA.mk 0 s_ []),false))
 (gd (Tr.bulkL (aA.tr x2.gHead)≤68719476735)
 (gd (Tr.bulkL (aA.tr phead)≤68719476735)
 (sw (!(tM x2.gHead phead))
 (some ((aA.mk 0 s_ []),false))
 (gd (qJ (hZ x2.gHead phead))
 (gd (Tr.bulkL (aA.tr x2.gAssoc)≤68719476735)
 (some ((oQ (hZ x2.gHead phead) x2.gAssoc),true)))))))))
theorem OQ(fu:Nat):QV (kM fu):=by
 intro pw po phead r H
 have H:=eF H
 refine qI Tryz.func31 (fun C hC=>?_)
 refine qS (qR (q1 (jP ([bC pw.gPackages])) (q1 (jP ([pI po.gPackage,pI po.gAt])) (q1 (jP (dU phead)) (q1 (gM eP) (q1 aE (qN (qS (qR (q1 (cU [bC pw.gPackages] nB) (q1 (cU [pI po.gPackage,pI po.gAt] XN) (eT H fun x2 x3 z1 H=>(q1 (bG Tryz.func81 (W4 fu pw po _ z1)) ?_)))))))))))))
 refine q1 aE ?_
 iterate 2 refine q1 uB ?_
 refine q1 (gM u4) (q1 (bR s8) (q1 aE (qN ?_)))
 iterate 2 refine qS ?_
 refine qR (q1 aE (q1 gW (q1 aE ?_)))
 refine dY 20 H (fun g4 H=>?_) fun g4 H=>?_
 ·refine qk g4 ?_
  iterate 2 refine qk g4 ?_
  refine q1 (bS g4) (qN (dM rfl (qS (qR (q1 (eU eP sF) (q1 (bR eS) (q1 aE (qN (aQ.ret ?_)))))))))
  cases aZ H
  exact jM (hr:=⟨⟨_,_,_,rfl,rfl,bZ,rfl,rfl⟩,rfl,trivial⟩)
 refine qg g4 (a6 zA) (qg g4 (bD sh4) (qg g4 gW (q1 (b6 g4) (qN ?_))))
 refine bA H (fun h5 H=>?_) (fun h5 H=>?_)
 ·refine qS (qR (q1 (eU eP sF) (q1 (bR eS) (q1 aE (qN (aQ.ret ?_))))))
  cases aZ H
  exact jM (hr:=⟨⟨_,_,_,rfl,rfl,bZ,rfl,rfl⟩,rfl,trivial⟩)
 refine aQ.skip (qS (qR (q1 (a6 rC) (q1 (cU [pI x2.gHead.gKind,pS x2.gHead.gName,a3 x2.gHead.gArgs] bZ) (q1 (cU [pI phead.gKind,pS phead.gName,a3 phead.gArgs] bZ) (cX H fun z6 H=>(cX H fun z7 H=>(q1 (bG Tryz.func88 (aiH x2.gHead phead z6 z7)) (q1 aE ?_)))))))))
 iterate 2 refine q1 uB ?_
 iterate 2 refine q1 aE ?_
 refine qN ?_
 iterate 2 refine qS ?_
 refine qR (q1 aE (q1 gW (qN ?_)))
 refine bA H (fun h8 H=>?_) (fun h8 H=>?_)
 ·refine qS (qR (q1 (eU eP sF) (q1 (bR eS) (q1 aE (qN (aQ.ret ?_))))))
  cases aZ H
  exact jM (hr:=⟨⟨_,_,_,rfl,rfl,bZ,rfl,rfl⟩,rfl,trivial⟩)
 refine aQ.skip (qS (qR (q1 aE (q1 (a6 w8) (q1 (cU [pI x2.gAssoc.gKind,pS x2.gAssoc.gName,a3 x2.gAssoc.gArgs] bZ) (cX H fun z9 H=>(cX H fun z10 H=>(q1 (bG Tryz.func34 (VD (hZ x2.gHead phead) x2.gAssoc z9 z10)) (q1 (bR eS) (q1 aE (qN (aQ.ret ?_))))))))))))
 cases aZ H
 exact jM (hr:=⟨⟨_,_,_,rfl,rfl,bZ,rfl,rfl⟩,rfl,trivial⟩)
def RR(m:aI→aO→aA→Option (aA×Bool)):Prop:= ∀(pw:aI) (po:aO) (phead:aA) (r:aA×Bool),m pw po phead=some r→b4 Tryz.prog 32 [(aI.pv pw),(aO.pv po),(aA.pv phead)] (.tup [(aA.pv r.1),pB r.2]:PV)
def jI(fu:Nat)(pw:aI)(po:aO)(phead:aA):Option (aA×Bool):=
 bd (nH fu pw po) (fun(x2,x3)=>
 gd (Tr.bulkL (aA.tr x2.gHead)≤68719476735)
 (gd (Tr.bulkL (aA.tr phead)≤68719476735)
 (sw (!(x3))
 (some ((aA.mk 0 s_ []),false))
 (sw (!(x2.gHasAssoc))
 (some ((aA.mk 0 s_ []),false))
 (sw (!(tM x2.gHead phead))
 (some ((aA.mk 0 s_ []),false))
 (gd (qJ (hZ x2.gHead phead))
 (gd (Tr.bulkL (aA.tr x2.gAssoc)≤68719476735)
 (some ((oQ (hZ x2.gHead phead) x2.gAssoc),true)))))))))
theorem OY(fu:Nat):RR (jI fu):=by
 intro pw po phead r H
 have H:=eF H
 refine qI Tryz.func32 (fun C hC=>?_)
 refine qS (qR (q1 (jP ([bC pw.gPackages])) (q1 (jP ([pI po.gPackage,pI po.gAt])) (q1 (jP (dU phead)) (q1 (gM eP) (q1 aE (qN (qS (qR (q1 (cU [bC pw.gPackages] nB) (q1 (cU [pI po.gPackage,pI po.gAt] XN) (eT H fun x2 x3 z1 H=>(q1 (bG Tryz.func77 (G2 fu pw po _ z1)) ?_)))))))))))))
 refine q1 aE ?_
 iterate 2 refine q1 uB ?_
 refine q1 (gM u4) (q1 (bR s8) (q1 aE (qN (qS (qR (q1 (a6 rC) (q1 (cU [pI x2.gHead.gKind,pS x2.gHead.gName,a3 x2.gHead.gArgs] bZ) (q1 (cU [pI phead.gKind,pS phead.gName,a3 phead.gArgs] bZ) (cX H fun z4 H=>(cX H fun z5 H=>(q1 (bG Tryz.func33 (VQ x2.gHead phead z4 z5)) (q1 aE ?_))))))))))))
 iterate 2 refine q1 uB ?_
 iterate 2 refine q1 aE ?_
 refine qN ?_
 iterate 2 refine qS ?_
 refine qR (q1 aE (q1 gW (q1 aE ?_)))
 refine dY 27 H (fun g6 H=>?_) fun g6 H=>?_
 ·refine qk g6 ?_
  iterate 2 refine qk g6 ?_
  refine q1 (bS g6) (q1 aE ?_)
  iterate 2 refine qk rfl ?_
  refine q1 (bS rfl) (qN (dM rfl (qS (qR (q1 (eU eP sF) (q1 (bR eS) (q1 aE (qN (aQ.ret ?_)))))))))
  cases aZ H
  exact jM (hr:=⟨⟨_,_,_,rfl,rfl,bZ,rfl,rfl⟩,rfl,trivial⟩)
 refine qg g6 (a6 zA) (qg g6 (bD sh4) (qg g6 gW (q1 (b6 g6) (q1 aE ?_))))
 refine dY 32 H (fun g7 H=>?_) fun g7 H=>?_
 ·refine qk g7 (qk g7 (q1 (bS g7) (qN (dM rfl (qS (qR (q1 (eU eP sF) (q1 (bR eS) (q1 aE (qN (aQ.ret ?_)))))))))))
  cases aZ H
  exact jM (hr:=⟨⟨_,_,_,rfl,rfl,bZ,rfl,rfl⟩,rfl,trivial⟩)
 refine qg g7 aE (qg g7 gW (q1 (b6 g7) (qN ?_)))
 refine bA H (fun h8 H=>?_) (fun h8 H=>?_)
 ·refine qS (qR (q1 (eU eP sF) (q1 (bR eS) (q1 aE (qN (aQ.ret ?_))))))
  cases aZ H
  exact jM (hr:=⟨⟨_,_,_,rfl,rfl,bZ,rfl,rfl⟩,rfl,trivial⟩)
 refine aQ.skip (qS (qR (q1 aE (q1 (a6 w8) (q1 (cU [pI x2.gAssoc.gKind,pS x2.gAssoc.gName,a3 x2.gAssoc.gArgs] bZ) (cX H fun z9 H=>(cX H fun z10 H=>(q1 (bG Tryz.func89 (aiU (hZ x2.gHead phead) x2.gAssoc z9 z10)) (q1 (bR eS) (q1 aE (qN (aQ.ret ?_))))))))))))
 cases aZ H
 exact jM (hr:=⟨⟨_,_,_,rfl,rfl,bZ,rfl,rfl⟩,rfl,trivial⟩)
def aeJ(m:(List UInt8)→Option Bool):Prop:= ∀(pa0:List UInt8) (r:Bool),m pa0=some r→b4 Tryz.prog 6 [rU pa0] (pB r:PV)
def IA(fu:Nat)(pa0:List UInt8):Option Bool:=
 bd (RB fu pa0) (fun x2=>
 sw (x2)
 (some true)
 (bd (m4 fu pa0) (fun(x5,x6,x7)=>
 bd (kM fu x5 x6 x7) (fun(x9,x10)=>
 bd (jI fu x5 x6 x7) (fun(x12,x13)=>
 sw (!decide (x10=x13))
 (sw (decide (x10=x13))
 (some (aA.eq x9 x12))
 (some false))
 (sw (!(aA.eq x9 x12))
 (sw (decide (x10=x13))
 (some (aA.eq x9 x12))
 (some false))
 (sw (!(x10))
 (sw (decide (x10=x13))
 (some (aA.eq x9 x12))
 (some false))
 (bd (zI fu x5 x6) (fun(x21,x22)=>
 gd (Tr.bulkL (aA.tr x21.gHead)≤68719476735)
 (gd (Tr.bulkL (aA.tr x7)≤68719476735)
 (sw (x22)
 (sw (tM x21.gHead x7)
 (sw (x21.gHasAssoc)
 (gd (qJ (hZ x21.gHead x7))
 (gd (Tr.bulkL (aA.tr x21.gAssoc)≤68719476735)
 (some (aA.eq (oQ (hZ x21.gHead x7) x21.gAssoc) x9))))
 (some false))
 (some false))
 (some false))))))))))))
theorem aaO(fu:Nat):aeJ (IA fu):=by
 intro pa0 r H
 have H:=eF H
 refine qI Tryz.func6 (fun C hC=>?_)
 refine qS (qR (q1 aE (qN ?_)))
 iterate 2 refine qS ?_
 refine qR (q1 aE (bN H fun x2 z1 H=>(q1 (bG Tryz.func10 (ahB fu pa0 _ z1)) (qN ?_))))
 refine bA H (fun h3 H=>?_) (fun h3 H=>?_)
 ·refine qS (qR (q1 aE (qN (aQ.ret ?_))))
  cases aZ H
  exact bL
 refine aQ.skip (qS (qR (q1 aE (QP H fun x5 x6 x7 z4 H=>(q1 (bG Tryz.func30 (FU fu pa0 _ z4)) (q1 aE ?_))))))
 iterate 3 refine q1 uB ?_
 refine q1 (gM JK) (q1 (gM adK) (q1 (gM eP) (q1 (bR JJ) (q1 (bR amS) (q1 (bR eS) (qN (qS (qR (q1 (cU [bC x5.gPackages] nB) (q1 (cU [pI x6.gPackage,pI x6.gAt] XN) (q1 (cU [pI x7.gKind,pS x7.gName,a3 x7.gArgs] bZ) (eT H fun x9 x10 z8 H=>(q1 (bG Tryz.func31 (OQ fu x5 x6 x7 _ z8)) ?_)))))))))))))
 refine q1 aE ?_
 iterate 2 refine q1 uB ?_
 refine q1 (gM eP) (q1 (bR eS) (q1 aE (qN (qS (qR (q1 (cU [bC x5.gPackages] nB) (q1 (cU [pI x6.gPackage,pI x6.gAt] XN) (q1 (cU [pI x7.gKind,pS x7.gName,a3 x7.gArgs] bZ) (eT H fun x12 x13 z11 H=>(q1 (bG Tryz.func32 (OY fu x5 x6 x7 _ z11)) (q1 aE ?_)))))))))))
 iterate 2 refine q1 uB ?_
 refine q1 (gM eP) (q1 (bR eS) (q1 aE (qN ?_)))
 iterate 2 refine qS ?_
 refine qR ?_
 iterate 2 refine q1 aE ?_
 refine q1 (aX.neqB rfl rfl rfl rfl Tryz.underlying4) (q1 aE ?_)
 refine dY 39 H (fun g14 H=>?_) fun g14 H=>?_
 ·refine qk g14 ?_
  iterate 3 refine qk g14 ?_
  refine q1 (bS g14) (q1 aE ?_)
  iterate 2 refine qk rfl ?_
  refine q1 (bS rfl) (qN (dM rfl (qS (qR ?_))))
  iterate 2 refine q1 aE ?_
  refine q1 (aX.eqlB rfl rfl rfl rfl Tryz.underlying4) (q1 aE ?_)
  refine dY 52 H (fun g15 H=>?_) fun g15 H=>?_
  ·refine qg g15 (cU [pI x9.gKind,pS x9.gName,a3 x9.gArgs] bZ) (qg g15 (cU [pI x12.gKind,pS x12.gName,a3 x12.gArgs] bZ) (qg g15 (bG Tryz.func16 (lY x9 x12)) (q1 (bS g15) (q1 aE (qN (aQ.ret ?_))))))
   cases aZ H
   exact bL
  iterate 3 refine qk g15 ?_
  refine q1 (b6 g15) (q1 aE (qN (aQ.ret ?_)))
  cases aZ H
  exact bL
 refine qg g14 (cU [pI x9.gKind,pS x9.gName,a3 x9.gArgs] bZ) (qg g14 (cU [pI x12.gKind,pS x12.gName,a3 x12.gArgs] bZ) (qg g14 (bG Tryz.func16 (lY x9 x12)) (qg g14 gW (q1 (b6 g14) (q1 aE ?_)))))
 refine dY 45 H (fun g16 H=>?_) fun g16 H=>?_
 ·refine qk g16 (qk g16 (q1 (bS g16) (qN (dM rfl (qS (qR ?_))))))
  iterate 2 refine q1 aE ?_
  refine q1 (aX.eqlB rfl rfl rfl rfl Tryz.underlying4) (q1 aE ?_)
  refine dY 52 H (fun g17 H=>?_) fun g17 H=>?_
  ·refine qg g17 (cU [pI x9.gKind,pS x9.gName,a3 x9.gArgs] bZ) (qg g17 (cU [pI x12.gKind,pS x12.gName,a3 x12.gArgs] bZ) (qg g17 (bG Tryz.func16 (lY x9 x12)) (q1 (bS g17) (q1 aE (qN (aQ.ret ?_))))))
   cases aZ H
   exact bL
  iterate 3 refine qk g17 ?_
  refine q1 (b6 g17) (q1 aE (qN (aQ.ret ?_)))
  cases aZ H
  exact bL
 refine qg g16 aE (qg g16 gW (q1 (b6 g16) (qN ?_)))
 refine bA H (fun h18 H=>?_) (fun h18 H=>?_)
 ·refine qS (qR ?_)
  iterate 2 refine q1 aE ?_
  refine q1 (aX.eqlB rfl rfl rfl rfl Tryz.underlying4) (q1 aE ?_)
  refine dY 52 H (fun g19 H=>?_) fun g19 H=>?_
  ·refine qg g19 (cU [pI x9.gKind,pS x9.gName,a3 x9.gArgs] bZ) (qg g19 (cU [pI x12.gKind,pS x12.gName,a3 x12.gArgs] bZ) (qg g19 (bG Tryz.func16 (lY x9 x12)) (q1 (bS g19) (q1 aE (qN (aQ.ret ?_))))))
   cases aZ H
   exact bL
  iterate 3 refine qk g19 ?_
  refine q1 (b6 g19) (q1 aE (qN (aQ.ret ?_)))
  cases aZ H
  exact bL
 refine aQ.skip (qS (qR (q1 (cU [bC x5.gPackages] nB) (q1 (cU [pI x6.gPackage,pI x6.gAt] XN) (eT H fun x21 x22 z20 H=>(q1 (bG Tryz.func26 (RZ fu x5 x6 _ z20)) (q1 aE ?_)))))))
 iterate 2 refine q1 uB ?_
 refine q1 (gM u4) (q1 (bR s8) (q1 aE (qN (qS (qR (q1 (a6 rC) (q1 (cU [pI x21.gHead.gKind,pS x21.gHead.gName,a3 x21.gHead.gArgs] bZ) (q1 (cU [pI x7.gKind,pS x7.gName,a3 x7.gArgs] bZ) (cX H fun z23 H=>(cX H fun z24 H=>(q1 (bG Tryz.func33 (VQ x21.gHead x7 z23 z24)) (q1 aE ?_))))))))))))
 iterate 2 refine q1 uB ?_
 iterate 2 refine q1 aE ?_
 refine qN (qS ?_)
 rcases lC (x22) with g25|g25
 ·have H:=oE H g25
  rcases lC (tM x21.gHead x7) with g26|g26
  ·have H:=oE H g26
   rcases lC (x21.gHasAssoc) with g27|g27
   ·have H:=oE H g27
    refine cX H fun z28 H=>(cX H fun z29 H=>(dW (dI [11] aE (dI [70] aE (dI (hg:=a5 g25) [13] aE (dI [71,72] (bS g25) (dI [73] aE (dI (hg:=a5 g26) [10] (a6 zA) (dD (hg:=a5 g26) [75] (bD sh4) (dI [74,76] (bS g26) (dI [77] aE (dI (hg:=a5 g27) [12] aE (dI (hg:=a5 g27) [10] (a6 w8) ?_)))))))))))))
    refine dD (hg:=a5 g27) [80] (cU [pI x21.gAssoc.gKind,pS x21.gAssoc.gName,a3 x21.gAssoc.gArgs] bZ) (dI (hg:=a5 g27) [79,81] (bG Tryz.func34 (VD (hZ x21.gHead x7) x21.gAssoc z28 z29)) (dD (hg:=a5 g27) [6] (cU [pI x9.gKind,pS x9.gName,a3 x9.gArgs] bZ) (dI (hg:=a5 g27) [82,83] (bG Tryz.func16 (lY (oQ (hZ x21.gHead x7) x21.gAssoc) x9)) (dI [78,84] (bS g27) (dI [85] aE (dN (aQ.ret ?_)))))))
    cases aZ H
    exact bL
   have H:=oA H g27
   refine dW (dI [11] aE (dI [70] aE (dI (hg:=a5 g25) [13] aE (dI [71,72] (bS g25) (dI [73] aE (dI (hg:=a5 g26) [10] (a6 zA) (dD (hg:=a5 g26) [75] (bD sh4) (dI [74,76] (bS g26) (dI [77] aE ?_)))))))))
   iterate 6 refine CQ g27 ?_
   refine dI [78] (b6 g27) (dI [85] aE (dN (aQ.ret ?_)))
   cases aZ H
   exact bL
  have H:=oA H g26
  refine dW (dI [11] aE (dI [70] aE (dI (hg:=a5 g25) [13] aE (dI [71,72] (bS g25) (dI [73] aE ?_)))))
  iterate 2 refine CQ g26 ?_
  refine dI [74] (b6 g26) (dI [77] aE ?_)
  iterate 6 refine CQ rfl ?_
  refine dI [78] (b6 rfl) (dI [85] aE (dN (aQ.ret ?_)))
  cases aZ H
  exact bL
 have H:=oA H g25
 refine dW (dI [11] aE (dI [70] aE (CQ g25 (dI [71] (b6 g25) (dI [73] aE ?_)))))
 iterate 2 refine CQ rfl ?_
 refine dI [74] (b6 rfl) (dI [77] aE ?_)
 iterate 6 refine CQ rfl ?_
 refine dI [78] (b6 rfl) (dI [85] aE (dN (aQ.ret ?_)))
 cases aZ H
 exact bL
end
end Go.Proofs.YtpioomclpaiomaaGreat.W

namespace Go.Proofs.YtpioomclpaiomaaGreat.W
set_option linter.unusedSimpArgs false
set_option linter.unusedVariables false
set_option maxRecDepth 20000
set_option maxHeartbeats 4000000
open Go.RowKit Go.WalkArith Go.IntWalk
attribute [local irreducible] wt wl
def adM(fu:Nat):Prop:= ∀(pa0:aG),wt pa0≤268435456→Ok (l0 fu pa0) (fun r=>wt r≤wt pa0)
def G7(n:Nat)(m:nC):Prop:= ∀(pa0:aG),wt pa0<n→wt pa0≤268435456→Ok (m pa0) (fun r=>wt r≤wt pa0)
theorem abB{n fu:Nat}(hfu:2147483648≤fu)(uR:NT fu){r_sl11Copy:nC}(h_sl11Copy:G7 n r_sl11Copy):G7 (n+1) (I0 fu r_sl11Copy):=by
 intro pa0 hm hpre
 have:=aG.wt_eq pa0
 have:=aA.wt_eq pa0.gType
 refine oB (uR pa0.gType.gArgs bO) fun x2 h1=>?_
 have:=(aV:wl ([]:List aG)=0∧_)
 refine IG pa0.gArgs 1 (fun i3 v5 hl3 hI4 _ _=>?_) ?_
 ·have:=aY pa0.gArgs
  have:=cI pa0.gArgs i3 hl3
  refine Ok.lt fun y8 h5=>?_
  have:=congrArg wt h5
  refine oB (h_sl11Copy y8 bO bO) fun x11 h6=>?_
  have:=aY (v5)
  have:=b8 x11
  refine oG fun z7=>?_
  have:=bV v5 ([x11]:List aG)
  exact mP
 intro v5 h2
 have:=(aV:wl ([]:List bK)=0∧_)
 refine IG pa0.gArms 1 (fun i13 v15 hl9 hI10 _ _=>?_) ?_
 ·have:=aY pa0.gArms
  have:=cI pa0.gArms i13 hl9
  refine Ok.lt fun y18 h11=>?_
  have:=congrArg wt h11
  have:=(aV:wl ([]:List ByteArray)=0∧_)
  have:=bK.wt_eq y18
  have:=aY (y18.gVars)
  refine oG fun z12=>oB (h_sl11Copy y18.gBody bO bO) fun x22 h13=>?_
  have:=aY (v15)
  have:=bV ([]:List ByteArray) y18.gVars
  have:=bK.wt_mk y18.gConstructor (([])++y18.gVars) x22
  have:=b8 (bK.mk y18.gConstructor (([])++y18.gVars) x22)
  refine oG fun z14=>?_
  have:=bV v15 ([(bK.mk y18.gConstructor (([])++y18.gVars) x22)]:List bK)
  exact mP
 intro v15 h8
 have:=aA.wt_mk pa0.gType.gKind pa0.gType.gName x2
 have:=aG.wt_mk pa0.gKind pa0.gTrait pa0.gName pa0.gN (aA.mk pa0.gType.gKind pa0.gType.gName x2) v5 v15
 exact oS
theorem aeU(n:Nat):bY fun fu=>G7 n (l0 fu):=by
 induction n with
 |zero=>exact .all fun fu=>fun _ h=>absurd h (Nat.not_lt_zero _)
 |succ n ih=>exact bY.succ ((ih.and ((bY.ge 2147483648).and uR)).imp fun fu ⟨h,⟨hfu,uR⟩⟩=>fun pa0=>by rw [l0];exact abB hfu uR h pa0)
theorem HX:bY adM:=(aeU 8589934592).imp fun fu h pa0 hpre=>h pa0 bO hpre
def WB(fu:Nat):Prop:= ∀(plist:List aF),wl plist≤268435456→Ok (BZ fu plist) (fun r=>wl r≤wl plist)
theorem BJ:bY WB:=((bY.ge 2147483648).and nV).imp fun fu ⟨hfu,nV⟩ plist hpre=>by
 have:=(aV:wl ([]:List aF)=0∧_)
 refine IG plist 1 (fun i1 v3 hl2 hI3 _ _=>?_) ?_
 ·have:=aY plist
  have:=cI plist i1 hl2
  have:=aF.wt_eq (aW plist i1)
  refine oB (nV ((aW plist i1).gType) bO) fun x7 h4=>?_
  have:=aY (v3)
  have:=aF.wt_mk ((aW plist i1).gTrait) x7
  have:=b8 (aF.mk ((aW plist i1).gTrait) x7)
  refine oG fun z5=>?_
  have:=bV v3 ([(aF.mk ((aW plist i1).gTrait) x7)]:List aF)
  exact mP
 intro v3 h1
 exact oS
def ad1(fu:Nat):Prop:= ∀(px:aH),wt px≤268435456→Ok (pJ fu px) (fun r=>wt r≤wt px)
theorem aeH:bY ad1:=((((bY.ge 2147483648).and HX).and nV).and BJ).imp fun fu ⟨⟨⟨hfu,HX⟩,nV⟩,BJ⟩ px hpre=>by
 have:=(aV:wl ([]:List aP)=0∧_)
 have:=aH.wt_eq px
 refine IG px.gMethods 1 (fun i1 v3 hl2 hI3 _ _=>?_) ?_
 ·have:=aY px.gMethods
  have:=cI px.gMethods i1 hl2
  refine Ok.lt fun y6 h4=>?_
  have:=congrArg wt h4
  have:=(aV:wl ([]:List ByteArray)=0∧_)
  have:=aP.wt_eq y6
  have:=aY (y6.gVars)
  refine oG fun z5=>oB (HX y6.gBody bO) fun x10 h6=>?_
  have:=aY (v3)
  have:=bV ([]:List ByteArray) y6.gVars
  have:=aP.wt_mk y6.gName (([])++y6.gVars) x10
  have:=b8 (aP.mk y6.gName (([])++y6.gVars) x10)
  refine oG fun z7=>?_
  have:=bV v3 ([(aP.mk y6.gName (([])++y6.gVars) x10)]:List aP)
  exact mP
 intro v3 h1
 have:=(aV:wl ([]:List ByteArray)=0∧_)
 have:=aY (px.gVars)
 refine oG fun z8=>oB (nV px.gHead bO) fun x14 h9=>oB (BJ px.gWhere bO) fun x16 h10=>oB (nV px.gAssoc bO) fun x18 h11=>?_
 have:=bV ([]:List ByteArray) px.gVars
 have:=aH.wt_mk px.gTrait (([])++px.gVars) x14 x16 px.gDefault px.gHasAssoc x18 v3
 exact oS
end Go.Proofs.YtpioomclpaiomaaGreat.W

namespace Go.Proofs.YtpioomclpaiomaaGreat.W
set_option linter.unusedSimpArgs false
set_option linter.unusedVariables false
open Go.RowKit Go.Proofs
attribute [local irreducible] lt
theorem BM{σ β:Type}{F:Nat→σ→Option (LR σ β)}(I:Nat→σ→Prop){n:Nat}(hs: ∀i v y,i<n→I i v→F i v=some y→ ∃v',y= .next v'∧I (i+1) v'):
 ∀k i v r,n-i=k→i≤n→I i v→loopN F k i v=some r→ ∃v',r= .inr v'∧I n v'
 |0,i,v,r,hk,hi,h0,h=>by
  rw [loopN] at h
  cases h
  obtain rfl:i=n:=by omega
  exact⟨v,rfl,h0⟩
 |k+1,i,v,r,hk,hi,h0,h=>by
  rw [loopN] at h
  cases hf:F i v with
  |none=>rw [hf] at h;cases h
  |some y=>
   rw [hf] at h
   obtain⟨v',rfl,h1⟩:=hs i v y (by omega) h0 hf
   exact BM I hs k (i+1) v' r (by omega) (by omega) h1 h
theorem WK: ∀fu,(∀t r,fF fu t=some r→r=t)∧(∀l r,eX fu l=some r→r=l)
 |0=>⟨fun t r h=>(by rw [fF] at h;cases h),fun l r h=>(by rw [eX] at h;cases h)⟩
 |fu+1=>by
  have ih:=WK fu
  refine⟨fun t r h=>?_,fun l r h=>?_⟩
  ·rw [fF] at h
   unfold AT at h
   obtain⟨x,hx,H⟩:=bdI (eF h)
   obtain rfl:=ih.2 _ _ hx
   obtain rfl:=aZ H
   cases t
   rfl
  ·rw [eX] at h
   unfold u0 B8 at h
   obtain⟨y,hy,H⟩:=f8 (eF h)
   obtain⟨v,rfl,hv⟩:=BM (fun i v=>v=l.take i) (n:=l.length) (fun i v y hi hI hf=>by
    unfold B7 at hf
    obtain⟨x,hx,H⟩:=bdI (eF hf)
    have H:=(gdI H).2
    obtain rfl:=aZ H
    obtain rfl:=ih.1 _ _ hx
    exact⟨_,rfl,by rw [hI,adH hi]⟩) _ 0 [] y rfl (Nat.zero_le _) rfl hy
   obtain rfl:=aZ H
   rw [hv,List.take_length]
theorem aiK{fu:Nat}{x r:aH}(h:pJ fu x=some r):r.gTrait=x.gTrait∧r.gHead=x.gHead:=by
 unfold pJ EC at h
 obtain⟨y,hy,H⟩:=f8 (eF h)
 obtain⟨v,rfl,-⟩:=BM (fun _ _=>True) (n:=x.gMethods.length) (fun i v y hi hI hf=>by
  unfold EB at hf
  obtain⟨z,hz,H⟩:=ltI (eF hf)
  obtain⟨b,hb,H⟩:=bdI (gdI H).2
  exact⟨_,(aZ (gdI H).2).symm,trivial⟩) _ 0 [] y rfl (Nat.zero_le _) trivial hy
 obtain⟨a,ha,H⟩:=bdI (gdI H).2
 obtain⟨b,hb,H⟩:=bdI H
 obtain⟨c,hc,H⟩:=bdI H
 obtain rfl:=aZ H
 exact⟨rfl,(WK fu).1 _ _ ha⟩
end Go.Proofs.YtpioomclpaiomaaGreat.W

namespace Go.Proofs.YtpioomclpaiomaaGreat.W
set_option linter.unusedSimpArgs false
set_option linter.unusedVariables false
open Go.RowKit Go.Proofs
attribute [local irreducible] lt
def akO:aH:=aH.mk s_ [] (aA.mk 0 s_ []) [] false false (aA.mk 0 s_ []) []
theorem aaK{w:aI}{a b:Int}(h1:0≤a)(h2:a.toNat<w.gPackages.length)(h3:0≤b)(h4:b.toNat<(aW w.gPackages a.toNat).gInstances.length):GU w (aO.mk a b):=
 ⟨a.toNat,b.toNat,by rw [Int.toNat_of_nonneg h1,Int.toNat_of_nonneg h3],h2,h4⟩
theorem akL(fu:Nat)(w:aI)(o:aO)(ho: ¬GU w o):o5 fu w o=some (akO,false):=by
 obtain⟨a,b⟩:=o
 unfold o5
 by_cases h1:a<0
 ·exact uG (decide_eq_true h1) rfl
 refine oO (decide_eq_false h1) ?_
 by_cases h2:a≥(w.gPackages.length:Int)
 ·exact uG (decide_eq_true h2) rfl
 refine oO (decide_eq_false h2) ?_
 by_cases h3:b<0
 ·exact uG (decide_eq_true h3) rfl
 refine oO (decide_eq_false h3) (qX (by show 0≤a∧a.toNat<_;omega) (ltE rfl ?_))
 by_cases h4:b≥((aW w.gPackages a.toNat).gInstances.length:Int)
 ·exact uG (decide_eq_true h4) rfl
 exact absurd (aaK (by omega) (by omega) (by omega) (by omega)) ho
theorem ak3(fu:Nat)(w:aI)(o:aO)(ho: ¬GU w o)(h1:w.gPackages.length≤13000000)(h2: ∀i,i<w.gPackages.length→(aW w.gPackages i).gInstances.length≤13000000):nH fu w o=some (akO,false):=by
 obtain⟨a,b⟩:=o
 have e1: ∀(x:Int) (n:Nat),n≤13000000→lO fu x 0 (aR ((n:Int)-1))=some (decide (0≤x∧x<n)):=fun x n hn=>by
  unfold lO
  rw [QB (by omega) (by omega)]
  by_cases h:x≥0
  ·refine uG (decide_eq_true h) (congrArg some ?_)
   by_cases h':x≤(n:Int)-1
   ·rw [decide_eq_true h',decide_eq_true (by omega)]
   ·rw [decide_eq_false h',decide_eq_false (by omega)]
  ·exact oO (decide_eq_false h) (by rw [decide_eq_false (by omega)])
 unfold nH
 rw [show lO fu (aO.mk a b).gPackage 0 (aR ((w.gPackages.length:Int)-1))=_ from e1 a _ h1]
 by_cases ha:0≤a∧a<(w.gPackages.length:Int)
 ·rw [decide_eq_true ha]
  have h3:a.toNat<w.gPackages.length:=by omega
  refine qX (by show 0≤a∧a.toNat<_;omega) (ltE rfl ?_)
  rw [show lO fu (aO.mk a b).gAt 0 (aR (((aW w.gPackages (aO.mk a b).gPackage.toNat).gInstances.length:Int)-1))=_ from e1 b _ (h2 _ h3)]
  by_cases hb:0≤b∧b<((aW w.gPackages (aO.mk a b).gPackage.toNat).gInstances.length:Int)
  ·have hb':0≤b∧b<((aW w.gPackages a.toNat).gInstances.length:Int):=hb
   exact absurd (aaK (by omega) h3 (by omega) (by omega)) ho
  ·rw [decide_eq_false hb]
   rfl
 ·rw [decide_eq_false ha]
  rfl
end Go.Proofs.YtpioomclpaiomaaGreat.W

namespace Go.Proofs.YtpioomclpaiomaaGreat.W
set_option linter.unusedSimpArgs false
set_option linter.unusedVariables false
open Go.RowKit Go.Proofs
attribute [local irreducible] lt wl
theorem aeF{fu:Nat}{x r:aH}(h:pJ fu x=some r):r.gHasAssoc=x.gHasAssoc∧r.gAssoc=x.gAssoc:=by
 unfold pJ EC at h
 obtain⟨y,hy,H⟩:=f8 (eF h)
 obtain⟨v,rfl,-⟩:=BM (fun _ _=>True) (n:=x.gMethods.length) (fun i v y hi hI hf=>by
  unfold EB at hf
  obtain⟨z,hz,H⟩:=ltI (eF hf)
  obtain⟨b,hb,H⟩:=bdI (gdI H).2
  exact⟨_,(aZ (gdI H).2).symm,trivial⟩) _ 0 [] y rfl (Nat.zero_le _) trivial hy
 obtain⟨a,ha,H⟩:=bdI (gdI H).2
 obtain⟨b,hb,H⟩:=bdI H
 obtain⟨c,hc,H⟩:=bdI H
 obtain rfl:=aZ H
 exact⟨rfl,(WK fu).1 _ _ hc⟩
theorem aj8{fu:Nat}{code:List UInt8}{w:aI}{d:DS}(hb:code.length≤1048576)(hr:uX fu (DS.start code)=some (w,d))(kF:U9 fu)(kC:JR fu): ∃o t,m4 fu code=some (w,o,t)∧wt t≤5000:=by
 have ho: ∃o,oJ fu code=some (w,o):=by
  unfold oJ
  exact⟨_,qX hb (zR hr (ltE rfl (ltE rfl rfl)))⟩
 obtain⟨o,ho⟩:=ho
 obtain⟨⟨t,d2⟩,h1,h2⟩:=kF ((DS.start code).after ([p9,cH]:List ByteArray).length) 1 (by decide)
 have h2:wt t≤bT (1:Int).toNat+60:=h2
 rw [QO] at h2
 have hp:((DS.start code).pick ([p9,cH]:List ByteArray)).size≤200:=DS.pick_size _ (by decide) (by decide)
 have h3:wl [t]=wt t+1+wl ([]:List aA):=ahN t []
 have h4:wl ([]:List aA)=0:=(aV:wl ([]:List aA)=0∧_).1
 obtain⟨u,h5,h6⟩:=kC ((DS.start code).pick ([p9,cH]:List ByteArray)) [t] (by omega)
 have h6:wt u=((DS.start code).pick ([p9,cH]:List ByteArray)).size+wl [t]:=h6
 refine⟨o,u,?_,by omega⟩
 unfold m4
 rw [qX hb rfl,ho]
 exact ltE rfl (ltE rfl (zR h1 (zR h5 rfl)))
theorem QN{w:aI}{o:aO}(hw:wt w≤13000000)(hR:GU w o):Tr.bulkL (aA.tr (lT w o).gAssoc)≤68719476735:=by
 have h1:=W6 hw hR
 have h2:=aH.wt_eq (lT w o)
 have h3:wt (lT w o).gAssoc≤68719476735:=by omega
 exact h3
def aaT(w:aI)(o:aO)(t:aA):Bool:=(lT w o).gHasAssoc&&tM (lT w o).gHead t
def akR(w:aI)(o:aO)(t:aA):aA:=if aaT w o t=true then oQ (hZ (lT w o).gHead t) (lT w o).gAssoc else aA.mk 0 s_ []
section
variable {fu:Nat} {w:aI} (hw:wt w≤13000000) {o:aO} (ho:GU w o) {t:aA} (ht:Tr.bulkL (aA.tr t)≤68719476735)
include hw ho ht
theorem al8:kM fu w o t=some (akR w o t,aaT w o t):=by
 unfold kM akR aaT
 refine zR (akK fu w o ho) (oO rfl ?_)
 have hh:Tr.bulkL (aA.tr (lT w o).gHead)≤68719476735:=Nat.le_trans (WY hw ho) (by decide)
 have ha:=QN hw ho
 cases h1:(lT w o).gHasAssoc with
 |false=>exact uG rfl rfl
 |true=>
  refine oO rfl (qX hh (qX ht ?_))
  cases h2:tM (lT w o).gHead t with
  |false=>exact uG rfl rfl
  |true=>exact oO rfl (qX (DP _ _ ht) (qX ha rfl))
theorem amI:jI fu w o t=some (akR w o t,aaT w o t):=by
 unfold jI akR aaT
 refine zR (aa6 fu w o ho (aI.len_wt hw) (fun i hi=>(aI.len_at hw i hi).2.2)) ?_
 have hh:Tr.bulkL (aA.tr (lT w o).gHead)≤68719476735:=Nat.le_trans (WY hw ho) (by decide)
 have ha:=QN hw ho
 refine qX hh (qX ht (oO rfl ?_))
 cases h1:(lT w o).gHasAssoc with
 |false=>exact uG rfl rfl
 |true=>
  refine oO rfl ?_
  cases h2:tM (lT w o).gHead t with
  |false=>exact uG rfl rfl
  |true=>exact oO rfl (qX (DP _ _ ht) (qX ha rfl))
end
theorem amC(code:List UInt8): ∃fu,IA fu code=some true:=by
 obtain⟨fu,⟨⟨⟨hfu,kW⟩,kI⟩,kF⟩,kC⟩:=(((((bY.ge 2147483648).and NX).and aeH).and k7).and dR).get
 refine⟨fu,?_⟩
 unfold IA RB
 by_cases hb:code.length≤1048576
 ·refine oO (decide_eq_false (by omega)) ?_
  obtain⟨⟨w,d⟩,hr,hw⟩:=kW (DS.start code)
  replace hw:wt w≤13000000:=hw
  obtain⟨o,t,hd,ht⟩:=aj8 hb hr kF kC
  have ht:Tr.bulkL (aA.tr t)≤68719476735:=by
   have h:wt t≤68719476735:=by omega
   exact h
  rw [hd]
  show bd (kM fu w o t) _=_
  by_cases ho:GU w o
  ·rw [al8 hw ho ht]
   show bd (jI fu w o t) _=_
   rw [amI hw ho ht]
   refine oO (by simp) (oO (by rw [aA.eq_self];rfl) ?_)
   have hx:=W6 hw ho
   obtain⟨x,hx,-⟩:=kI (lT w o) (by omega)
   obtain⟨e1,e2⟩:=aiK hx
   obtain⟨e3,e4⟩:=aeF hx
   unfold zI
   rw [aa6 fu w o ho (aI.len_wt hw) (fun i hi=>(aI.len_at hw i hi).2.2)]
   have hh:Tr.bulkL (aA.tr (lT w o).gHead)≤68719476735:=Nat.le_trans (WY hw ho) (by decide)
   have ha:=QN hw ho
   cases hq:aaT w o t with
   |false=>exact uG rfl (uG (by simp) (by rw [aA.eq_self]))
   |true=>
    refine oO rfl ?_
    show bd (bd (pJ fu (lT w o)) fun x18=>some (x18,true)) _=_
    rw [hx]
    unfold aaT at hq
    rw [Bool.and_eq_true] at hq
    refine qX (by rw [e2];exact hh) (qX ht (uG rfl (uG (by rw [e2];exact hq.2) (uG (by rw [e3];exact hq.1) (qX (by rw [e2];exact DP _ _ ht) (qX (by rw [e4];exact ha) ?_))))))
    rw [e2,e4]
    unfold akR aaT
    rw [if_pos (by rw [hq.1,hq.2];rfl),aA.eq_self]
  ·have i1:kM fu w o t=some (aA.mk 0 s_ [],false):=by
    unfold kM
    rw [akL fu w o ho]
    rfl
   have s1:jI fu w o t=some (aA.mk 0 s_ [],false):=by
    unfold jI
    rw [ak3 fu w o ho (aI.len_wt hw) (fun i hi=>(aI.len_at hw i hi).2.2)]
    exact qX (by decide) (qX ht rfl)
   rw [i1]
   show bd (jI fu w o t) _=_
   rw [s1]
   exact zR rfl (oO (by simp) (oO (by rw [aA.eq_self];rfl) (uG rfl (uG rfl (by rw [aA.eq_self])))))
 ·exact uG (decide_eq_true (by omega)) rfl
theorem anZ(code:List UInt8):b4 Tryz.prog 6 [rU code] (pB true):=let⟨fu,h⟩:=amC code;aaO fu code true h
end Go.Proofs.YtpioomclpaiomaaGreat.W
