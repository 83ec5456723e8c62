/- Words, rules and walks of several kinds, laid together. No conditions but those that each theorem states. -/
import Derived.Test.YtfcoaagbccmahaaGreatQhddc87703
import Derived.Deep.RegionHeld3
import Derived.Laws.IdiomStrings
import Derived.Lib.SliceRun
set_option linter.unusedSimpArgs false
set_option linter.unusedVariables false
namespace Go.Proofs.YtfcoaagbccmahaaGreat.W
open Go.RowKit Go.WalkArith Go.Proofs
attribute [local irreducible] lt
theorem aa0{x:Int}(h0: -1≤x)(h1:x<9223372036854775807):aY x=x:=by
 unfold aY IntKind.wrap
 simp [IntKind.bits,IntKind.signed]
 omega
section
variable {β γ σ:Type}
theorem lT{f:Nat→σ→Option (LR σ β)}{q:Nat→Option γ}(g:γ→β){s:σ}{n:Nat}(hs: ∀i,i<n→f i s=some (match q i with|some r=> .ret (g r)|none=> .next s)):
 ∀k j,n-j=k→loopN f k j s=some (match(List.range' j k).findSome? q with|some r=> .inl (g r)|none=> .inr s)
 |0,j,hk=>by rw [loopN];rfl
 |k+1,j,hk=>by
  rw [loopN,hs j (by omega),List.range'_succ,List.findSome?_cons]
  cases q j with
  |some r=>rfl
  |none=>exact lT g hs k (j+1) (by omega)
theorem FY{f:Int→Option (LR Int β)}{q:Nat→Option γ}(g:γ→β){n:Nat}(hs: ∀i:Nat,i<n→f (i:Int)=some (match q i with|some r=> .ret (g r)|none=> .next ((i+1:Nat):Int)))(he:f (n:Int)=some (.brk (n:Int))):
 ∀k j fu,n-j=k→j≤n→k<fu→loopW f fu (j:Int)=some (match(List.range' j k).findSome? q with|some r=> .inl (g r)|none=> .inr (n:Int))
 |0,j,fu,hk,hj,hf=>by
  obtain⟨m,rfl⟩: ∃m,fu=m+1:=⟨fu-1,by omega⟩
  obtain rfl:j=n:=by omega
  rw [loopW,he]
  rfl
 |k+1,j,fu,hk,hj,hf=>by
  obtain⟨m,rfl⟩: ∃m,fu=m+1:=⟨fu-1,by omega⟩
  rw [loopW,hs j (by omega),List.range'_succ,List.findSome?_cons]
  cases q j with
  |some r=>rfl
  |none=>exact FY g hs he k (j+1) m (by omega) (by omega) (by omega)
end
def tQ(w:aF)(s:ByteArray)(i:Nat):Option (aQ×Int×Bool):=(List.range' 0 (aP w.asE i).asQ.length).findSome? fun k=>if(aP (aP w.asE i).asQ k).asD=s then some (aP (aP w.asE i).asQ k,(i:Int),true) else none
def dQ(w:aF)(s:ByteArray)(i:Nat):Option (aI×Int×Bool):=(List.range' 0 (aP w.asE i).asL.length).findSome? fun k=>if(aP (aP w.asE i).asL k).asD=s then some (aP (aP w.asE i).asL k,(i:Int),true) else none
def vC(w:aF)(s:ByteArray):aQ×Int×Bool:=((List.range' 0 w.asE.length).findSome? (tQ w s)).getD (aQ.mk s_ [] false false [],0,false)
def uJ(w:aF)(s:ByteArray):aI×Int×Bool:=((List.range' 0 w.asE.length).findSome? (dQ w s)).getD (aI.mk s_ [] [],0,false)
theorem Q7(fu:Nat)(w:aF)(s:ByteArray):BN fu w s=some (vC w s):=by
 have h:=lT (f:=JC fu w s) (q:=tQ w s) (fun r=>r) (s:=()) (n:=w.asE.length) (fun i hi=>by
  have h2:=lT (f:=JD fu w s i (aP w.asE i)) (q:=fun k=>if(aP (aP w.asE i).asQ k).asD=s then some (aP (aP w.asE i).asQ k,(i:Int),true) else none) (fun r=>LR.ret r) (s:=()) (n:=(aP w.asE i).asQ.length) (fun k hk=>by
   unfold JD
   by_cases hs:(aP (aP w.asE i).asQ k).asD=s
   ·rw [if_pos hs];exact GS (decide_eq_true hs) rfl
   ·rw [if_neg hs];exact ET (decide_eq_false hs) rfl) _ 0 rfl
  unfold JC
  refine YN rfl ?_
  rw [h2]
  unfold tQ
  cases(List.range' 0 (aP w.asE i).asQ.length).findSome? _<;>rfl) _ 0 rfl
 unfold BN vC
 rw [h]
 cases(List.range' 0 w.asE.length).findSome? (tQ w s)<;>rfl
theorem VG(fu:Nat)(w:aF)(s:ByteArray):MG fu w s=some (uJ w s):=by
 have h:=lT (f:=NB fu w s) (q:=dQ w s) (fun r=>r) (s:=()) (n:=w.asE.length) (fun i hi=>by
  have h2:=lT (f:=ND fu w s i (aP w.asE i)) (q:=fun k=>if(aP (aP w.asE i).asL k).asD=s then some (aP (aP w.asE i).asL k,(i:Int),true) else none) (fun r=>LR.ret r) (s:=()) (n:=(aP w.asE i).asL.length) (fun k hk=>by
   unfold ND
   by_cases hs:(aP (aP w.asE i).asL k).asD=s
   ·rw [if_pos hs];exact GS (decide_eq_true hs) rfl
   ·rw [if_neg hs];exact ET (decide_eq_false hs) rfl) _ 0 rfl
  unfold NB
  refine YN rfl ?_
  rw [h2]
  unfold dQ
  cases(List.range' 0 (aP w.asE i).asL.length).findSome? _<;>rfl) _ 0 rfl
 unfold MG uJ
 rw [h]
 cases(List.range' 0 w.asE.length).findSome? (dQ w s)<;>rfl
def aF.small(w:aF)(N:Nat):Prop:= ∀i,i<w.asE.length→(aP w.asE i).asQ.length<N∧(aP w.asE i).asL.length<N∧(aP w.asE i).asS.length<N
theorem B4(fu:Nat)(w:aF)(s:ByteArray)(hw:aF.small w fu):oA fu w s=some (vC w s):=by
 have h:=lT (f:=vY fu w s) (q:=tQ w s) (fun r=>r) (s:=()) (n:=w.asE.length) (fun i hi=>by
  have h2:=FY (f:=rO fu w s i) (q:=fun k=>if(aP (aP w.asE i).asQ k).asD=s then some (aP (aP w.asE i).asQ k,(i:Int),true) else none) (fun r=>LR.ret r) (n:=(aP w.asE i).asQ.length) (fun k hk=>by
   unfold rO
   refine YN rfl (GS (decide_eq_true (by omega)) (rR (by omega) ?_))
   rw [Int.toNat_natCast]
   by_cases hs:(aP (aP w.asE i).asQ k).asD=s
   ·rw [if_pos hs];exact GS (decide_eq_true hs) rfl
   ·rw [if_neg hs];exact ET (decide_eq_false hs) rfl) (by
   unfold rO
   exact YN rfl (ET (decide_eq_false (by omega)) rfl)) _ 0 fu rfl (Nat.zero_le _) (hw i hi).1
  unfold vY
  refine(congrArg (fun o=>so o _) h2).trans ?_
  unfold tQ
  simp only [Nat.sub_zero]
  cases(List.range' 0 (aP w.asE i).asQ.length).findSome? _<;>rfl) _ 0 rfl
 unfold oA vC
 rw [h]
 cases(List.range' 0 w.asE.length).findSome? (tQ w s)<;>rfl
theorem F2(fu:Nat)(w:aF)(s:ByteArray)(hw:aF.small w fu):rN fu w s=some (uJ w s):=by
 have h:=lT (f:=xO fu w s) (q:=dQ w s) (fun r=>r) (s:=()) (n:=w.asE.length) (fun i hi=>by
  have h2:=FY (f:=s3 fu w s i) (q:=fun k=>if(aP (aP w.asE i).asL k).asD=s then some (aP (aP w.asE i).asL k,(i:Int),true) else none) (fun r=>LR.ret r) (n:=(aP w.asE i).asL.length) (fun k hk=>by
   unfold s3
   refine YN rfl (GS (decide_eq_true (by omega)) (rR (by omega) ?_))
   rw [Int.toNat_natCast]
   by_cases hs:(aP (aP w.asE i).asL k).asD=s
   ·rw [if_pos hs];exact GS (decide_eq_true hs) rfl
   ·rw [if_neg hs];exact ET (decide_eq_false hs) rfl) (by
   unfold s3
   exact YN rfl (ET (decide_eq_false (by omega)) rfl)) _ 0 fu rfl (Nat.zero_le _) (hw i hi).2.1
  unfold xO
  refine(congrArg (fun o=>so o _) h2).trans ?_
  unfold dQ
  simp only [Nat.sub_zero]
  cases(List.range' 0 (aP w.asE i).asL.length).findSome? _<;>rfl) _ 0 rfl
 unfold rN uJ
 rw [h]
 cases(List.range' 0 w.asE.length).findSome? (dQ w s)<;>rfl
def adK(w:aF)(o:aO):Prop:= ∃i k:Nat,o=aO.mk (i:Int) (k:Int)∧i<w.asE.length∧k<(aP w.asE i).asS.length
def YE(w:aF)(o:aO):aJ:=aP (aP w.asE o.atE.toNat).asS o.atM.toNat
section
variable {α β:Type}
theorem yN{F:Nat→List α→Option (LR (List α) β)}{n M:Nat}{g:Nat→α}(hs: ∀j v,j<n→v.length+1≤M→F j v=some (.next (v++ [g j]))):
 ∀k j (v:List α),n-j=k→v.length+k≤M→loopN F k j v=some (.inr (v++(List.range' j k).map g))
 |0,j,v,hk,_=>by rw [loopN];simp
 |k+1,j,v,hk,hl=>by
  rw [loopN,hs j v (by omega) (by omega)]
  have h:=yN hs k (j+1) (v++ [g j]) (by omega) (by rw [List.length_append];simp only [List.length_singleton];omega)
  rw [List.append_assoc] at h
  rw [List.range'_succ,List.map_cons]
  exact h
theorem FX{F:Nat→List α→Option (LR (List α) β)}{n M:Nat}{g:Nat→List α}(hs: ∀j v,j<n→v.length+(g j).length≤M→F j v=some (.next (v++g j))):
 ∀k j (v:List α),n-j=k→v.length+((List.range' j k).flatMap g).length≤M→loopN F k j v=some (.inr (v++(List.range' j k).flatMap g))
 |0,j,v,hk,_=>by rw [loopN];simp
 |k+1,j,v,hk,hl=>by
  rw [List.range'_succ,List.flatMap_cons,List.length_append] at hl
  rw [loopN,hs j v (by omega) (by omega)]
  have h:=FX hs k (j+1) (v++g j) (by omega) (by rw [List.length_append];omega)
  rw [List.range'_succ,List.flatMap_cons,← List.append_assoc]
  exact h
end
theorem aF.len_at{w:aF}(hw:wt w≤13000000)(i:Nat)(hi:i<w.asE.length):(aP w.asE i).asQ.length≤13000000∧(aP w.asE i).asL.length≤13000000∧(aP w.asE i).asS.length≤13000000:=by
 have:=aF.wt_eq w
 have:=cD w.asE i hi
 have:=aK.wt_eq (aP w.asE i)
 have:=aZ (aP w.asE i).asQ
 have:=aZ (aP w.asE i).asL
 have:=aZ (aP w.asE i).asS
 omega
theorem aF.small_wt{w:aF}{fu:Nat}(hw:wt w≤13000000)(hf:13000000<fu):aF.small w fu:=fun i hi=>by
 have:=aF.len_at hw i hi
 omega
end Go.Proofs.YtfcoaagbccmahaaGreat.W

namespace Go.Proofs.YtfcoaagbccmahaaGreat.W
open Go.RowKit Go.Proofs
theorem G4(x:aA):Tr.bulkL (aA.tr x)=wt x:=rfl
attribute [local irreducible] lt wt wl
theorem vN{σ β:Type}{f:Nat→σ→Option (LR σ β)}{s:σ}{n:Nat}(hs: ∀i,i<n→f i s=some (.next s)): ∀k j,n-j=k→loopN f k j s=some (.inr s)
 |0,j,hk=>by rw [loopN]
 |k+1,j,hk=>by
  rw [loopN,hs j (by omega)]
  exact vN hs k (j+1) (by omega)
end Go.Proofs.YtfcoaagbccmahaaGreat.W

namespace Go.Proofs.YtfcoaagbccmahaaGreat
open Go.RowKit
end Go.Proofs.YtfcoaagbccmahaaGreat

namespace Go.Proofs.YtfcoaagbccmahaaGreat.W
set_option maxRecDepth 100000
set_option maxHeartbeats 40000000
noncomputable section
open Tryz Go.RowKit Go.Proofs
attribute [local irreducible] lt
abbrev lO:=aA→aA→Option Bool
abbrev cT:=(List aA)→(List aA)→Option Bool
def rB(m:lO):Prop:= ∀(pa:aA) (pb:aA) (r:Bool),m pa pb=some r→bP Tryz.prog 95 [(aA.pv pa),(aA.pv pb)] (pB r:PV)
def fN(m:cT):Prop:= ∀(p8:List aA) (p9:List aA) (r:Bool),m p8 p9=some r→bP Tryz.prog 144 [aX p8,aX p9,.fn 95 []] (pB r:PV)
def zJ(fu:Nat)(p1:lO)(p0:cT)(pa pb:aA):Option Bool:=sw (decide (pa.asJ=pb.asJ)) (sw (decide (pa.asD=pb.asD)) (bd (p0 pa.asG pb.asG) fun x4=>some x4) (some false)) (some false)
theorem LS(fu:Nat)(p1:lO)(p0:cT)(p5:rB p1)(p4:fN p0):rB (zJ fu p1 p0):=by
 intro pa pb r H
 refine qJ func95 H (fun C hC H=>?_)
 refine gQ 2 ?_;refine q1 (iR (cN pa)) (q1 (iR (cN pb)) ?_)
 refine gQ 10 ?_;refine dF 10 H (fun g1 H=>?_) fun g1 H=>?_
 ·refine gQ 7 ?_;refine dF 17 H (fun g2 H=>?_) fun g2 H=>?_
  ·refine gQ 4 ?_;refine bD H fun x4 z3 H=>(qg g2 (bC func144 (p4 pa.asG pb.asG _ z3)) ?_)
   exact gE 3
  exact gE 8
 exact gE 15
def gS(fu:Nat)(p1:lO)(p0:cT)(p8 p9:List aA):Nat→Unit→Option (LR Unit Bool):=fun i2 _=>gd (i2<(p9).length) (bd (p1 (aP p8 i2) (aP p9 i2)) fun x7=>sw (!(x7)) (some (.ret false)) (some (.next ())))
def gT(fu:Nat)(p1:lO)(p0:cT)(p8 p9:List aA):Option (Bool⊕Unit):=loopN (gS fu p1 p0 p8 p9) (p8.length-0) 0 ()
def fM(fu:Nat)(p1:lO)(p0:cT)(p8 p9:List aA):Option Bool:=sw (!decide ((p8.length:Int)=(p9.length:Int))) (some false) (so (gT fu p1 p0 p8 p9) fun _=>some true)
theorem q8(fu:Nat)(p1:lO)(p0:cT)(p5:rB p1)(p4:fN p0):fN (fM fu p1 p0):=by
 intro p8 p9 r H
 refine qJ func144 H (fun C hC H=>?_)
 refine gQ 13 ?_;refine a7 H (fun h1 H=>gE 4) fun h1 H=>?_;refine gQ 8 ?_;refine iG 0 (aA.trs_len _) (fun hl3=>?_)
 refine bM (σ:=Unit) (fun i2 _=>⟨[(1,aX p9),(2,.fn 95 []),(6,pB false),(15,aX p8),(16,pN p8.length),(17,pN i2)],⟨[],[]⟩⟩) (fun _=>⟨[(6,pB false)],⟨[],[]⟩⟩) (eR H) ?_ ?_
 ·rintro i2 ⟨⟩ H
  refine gQ 5 ?_;refine cW H (fun h4 h4l H=>?_) (fun h4 H=>?_)
  ·refine gQ 7 ?_;refine q1 (jB (aA.cs (aP p8 i2))) ?_;refine gQ 8 ?_;refine cQ H fun z5 H=>(q1 qY (q1 (jB (aA.cs (aP p9 i2))) ?_))
   refine gQ 6 ?_;refine q1 (cK [pI ((aP p8 i2).asJ),pS ((aP p8 i2).asD),aX ((aP p8 i2).asG)]) (q1 (cK [pI ((aP p9 i2).asJ),pS ((aP p9 i2).asD),aX ((aP p9 i2).asG)]) (bD H fun x7 z6 H=>(q1 (rCv func95 (p5 (aP p8 i2) (aP p9 i2) _ z6)) ?_)))
   refine gQ 2 ?_;refine a7 H (fun h8 H=>gE 4) fun h8 H=>?_;exact gE 5
  exact gE 0
 rintro⟨⟩ H
 exact gE 4
mutual
def fE:Nat→aA→aA→Option Bool
 |0,_,_=>none
 |fu+1,pa,pb=>zJ fu (fE fu) (bK fu) pa pb
def bK:Nat→(List aA)→(List aA)→Option Bool
 |0,_,_=>none
 |fu+1,p8,p9=>fM fu (fE fu) (bK fu) p8 p9
end
theorem M7(fu:Nat):rB (fE fu)∧fN (bK fu):=by
 induction fu with
 |zero=>exact⟨(fun pa pb r H=>by simp only [fE] at H;cases H),(fun p8 p9 r H=>by simp only [bK] at H;cases H)⟩
 |succ fu ih=>exact⟨(fun pa pb r H=>by simp only [fE] at H;exact LS fu (fE fu) (bK fu) ih.1 ih.2 pa pb r H),(fun p8 p9 r H=>by simp only [bK] at H;exact q8 fu (fE fu) (bK fu) ih.1 ih.2 p8 p9 r H)⟩
theorem PN(fu:Nat):rB (fE fu):=(M7 fu).1
abbrev m6:=aA→Option aA
abbrev lP:=(List aA)→Option ((List aA))
def s8(m:m6):Prop:= ∀(pt:aA) (r:aA),m pt=some r→bP Tryz.prog 79 [(aA.pv pt)] ((aA.pv r):PV)
def uL(m:lP):Prop:= ∀(pl:List aA) (r:(List aA)),m pl=some r→bP Tryz.prog 134 [aX pl] (aX r:PV)
def BM(fu:Nat)(p3:m6)(p2:lP)(pt:aA):Option aA:=bd (p2 pt.asG) fun x2=>some (aA.mk pt.asJ pt.asD x2)
theorem NA(fu:Nat)(p3:m6)(p2:lP)(p7:s8 p3)(p6:uL p2):s8 (BM fu p3 p2):=by
 intro pt r H
 refine qJ func79 H (fun C hC H=>?_)
 refine gQ 2 ?_;refine q1 (iR (cN pt)) ?_;refine gQ 6 ?_;refine bD H fun x2 z1 H=>(q1 (bC func134 (p6 pt.asG _ z1)) ?_)
 refine gQ 5 ?_;refine q1 (cK [pI pt.asJ,pS pt.asD,aX x2]) ?_;exact gE 2
def EM(fu:Nat)(p3:m6)(p2:lP)(pl:List aA):Nat→((List aA))→Option (LR ((List aA)) ((List aA))):=fun i2 v3=>bd (p3 (aP pl i2)) fun x7=>gd (i2=(v3).length) (some (.next (v3++([x7]:List aA))))
def xG(fu:Nat)(p3:m6)(p2:lP)(pl:List aA):Option (((List aA))⊕((List aA))):=loopN (EM fu p3 p2 pl) (pl.length-0) 0 ([])
def zL(fu:Nat)(p3:m6)(p2:lP)(pl:List aA):Option ((List aA)):=gd (pl.length≤68719476736) (so (xG fu p3 p2 pl) fun v3=>gd ((v3).length=pl.length) (some v3))
theorem LT(fu:Nat)(p3:m6)(p2:lP)(p7:s8 p3)(p6:uL p2):uL (zL fu p3 p2):=by
 intro pl r H
 refine qJ func134 H (fun C hC H=>?_)
 refine gQ 8 ?_;refine cQ H fun z1 H=>(q1 (a5.makeSlice (N:=pl.length) rfl rfl rfl rfl adD.h ahY.h (by decide) (Nat.le_trans (Nat.mul_le_mul_left _ z1) (by decide)) (Nat.le_trans z1 (by decide))) ?_)
 refine gQ 9 ?_;refine iG 0 (aA.trs_len _) (fun hl4=>?_)
 refine bM (σ:=(List aA)) (fun i2 v3=>⟨[(2,.nil),(3,.full 3 (pl.length) 0),(9,aX pl),(10,pN pl.length),(11,pN i2)],⟨[],[⟨30,3,aA.trs (v3),true⟩]⟩⟩) (fun v3=>⟨[(2,.nil),(3,.full 3 (pl.length) 0)],⟨[],[⟨30,3,aA.trs (v3),true⟩]⟩⟩) (eR H) ?_ ?_
 ·rintro i2 v3 H
  refine gQ 5 ?_;refine cW H (fun h5 h5l H=>?_) (fun h5 H=>?_)
  ·refine gQ 7 ?_;refine q1 (jB (aA.cs (aP pl i2))) ?_;refine gQ 7 ?_;refine q1 (cK [pI ((aP pl i2).asJ),pS ((aP pl i2).asD),aX ((aP pl i2).asG)]) (bD H fun x7 z6 H=>(q1 (bC func79 (p7 (aP pl i2) _ z6)) (q1 (a5.indexFull (k:=i2) rfl rfl rfl rfl h5l adD.h) (cQ H fun z8 H=>?_))))
   refine q1 (a5.storeRptr (e:=aA.cs x7) (es2:=aA.trs (v3++([x7]:List aA))) 16 rfl rfl rfl rfl rfl rfl jH rfl rfl ahS.h (by rw [aA.trs_len];exact z8) h5l (by rw [aA.trs_map,aA.trs_map,List.map_append];simp [aA.tr_cs])) ?_;exact gE 5
  exact gE 0
 rintro v3 H
 refine gQ 3 ?_;refine cQ H fun z9 H=>?_;refine AL.weak (Wk.full (i:=22) rfl rfl (by rw [aA.trs_len];exact z9)) ?_;exact gE 2
mutual
def gK:Nat→aA→Option aA
 |0,_=>none
 |fu+1,pt=>BM fu (gK fu) (hY fu) pt
def hY:Nat→(List aA)→Option ((List aA))
 |0,_=>none
 |fu+1,pl=>zL fu (gK fu) (hY fu) pl
end
theorem PQ(fu:Nat):s8 (gK fu)∧uL (hY fu):=by
 induction fu with
 |zero=>exact⟨(fun pt r H=>by simp only [gK] at H;cases H),(fun pl r H=>by simp only [hY] at H;cases H)⟩
 |succ fu ih=>exact⟨(fun pt r H=>by simp only [gK] at H;exact NA fu (gK fu) (hY fu) ih.1 ih.2 pt r H),(fun pl r H=>by simp only [hY] at H;exact LT fu (gK fu) (hY fu) ih.1 ih.2 pl r H)⟩
theorem SO(fu:Nat):s8 (gK fu):=(PQ fu).1
end
end Go.Proofs.YtfcoaagbccmahaaGreat.W

namespace Go.Proofs.YtfcoaagbccmahaaGreat
open Go.RowKit Go.Proofs
theorem vH(a:ByteArray):(a==a)=true:=by
 obtain⟨x⟩:=a
 show(x==x)=true
 simp
theorem zH{a b:ByteArray}(h: ¬a=b):(a==b)=false:=by
 obtain⟨x⟩:=a
 obtain⟨y⟩:=b
 show(x==y)=false
 simp only [beq_eq_false_iff_ne,ne_eq]
 rintro rfl
 exact h rfl
mutual
def aA.eq:aA→aA→Bool
 | .mk k n xs,.mk l m ys=>k==l&&(n==m&&aA.eqs xs ys)
def aA.eqs:List aA→List aA→Bool
 | [],[]=>true
 |a::l,b::r=>aA.eq a b&&aA.eqs l r
 |_,_=>false
end
def aE.eq:aE→aE→Bool
 | .mk n x,.mk m y=>n==m&&aA.eq x y
end Go.Proofs.YtfcoaagbccmahaaGreat

namespace Go.Proofs.YtfcoaagbccmahaaGreat.W
open Go.RowKit Go.Proofs
theorem QW{n i:Nat}(h:i<n):aP (List.range n) i=i:=by rw [gL (by simpa using h)];simp
theorem SE: ∀ {l r:List aA},aA.eqs l r=true→l.length=r.length
 | [],[],_=>rfl
 | [],_::_,h=>by simp [aA.eqs] at h
 |_::_,[],h=>by simp [aA.eqs] at h
 |a::l,b::r,h=>by
  simp only [aA.eqs,Bool.and_eq_true] at h
  simp [SE h.2]
theorem I4: ∀ {l r:List aA},l.length=r.length→aA.eqs l r=(List.range l.length).all fun i=>aA.eq (aP l i) (aP r i)
 | [],[],_=>rfl
 | [],_::_,h=>by simp at h
 |_::_,[],h=>by simp at h
 |a::l,b::r,h=>by
  rw [aA.eqs,List.length_cons,List.range_succ_eq_map,List.all_cons,List.all_map,I4 (l:=l) (r:=r) (by simpa using h)]
  rfl
theorem Z4{xs ys:List aA}(h: ∀i,i<xs.length→i<ys.length→bL fun fu=>eH fu (aP xs i) (aP ys i)=some (aA.eq (aP xs i) (aP ys i))):bL fun fu=>iN fu xs ys=some (aA.eqs xs ys):=by
 refine bL.succ ?_
 by_cases hl:xs.length=ys.length
 ·refine(bL.below (k:=xs.length) fun i hi=>h i hi (by omega)).imp fun fu hf=>?_
  simp only [iN,y1]
  have hd:(!decide ((((xs.length:Nat):Int):Int)=((ys.length:Nat):Int)))=false:=by simp [hl]
  rw [hd]
  have hr: ∀fu',∀(r1:aA→aA→Option Bool),(∀i,i<xs.length→r1 (aP xs i) (aP ys i)=some (aA.eq (aP xs i) (aP ys i)))→GL fu' r1 (iN fu) xs ys=some (if(List.range xs.length).all (fun i=>aA.eq (aP xs i) (aP ys i)) then .inr () else .inl false):=by
   intro fu' r1 h1
   unfold GL
   have:=KZ (l:=List.range xs.length) (f:=GK fu' r1 (iN fu) xs ys) (p:=fun i=>aA.eq (aP xs i) (aP ys i)) (r:=false) (s:=()) fun i hi=>by
    have hi':i<xs.length:=by simpa using hi
    rw [QW hi',GK]
    rw [rR (by omega) rfl,wD (h1 i hi') rfl]
    cases aA.eq (aP xs i) (aP ys i)<;>rfl
   rwa [List.length_range] at this
  rw [hr fu _ hf,I4 hl]
  cases(List.range xs.length).all fun i=>aA.eq (aP xs i) (aP ys i)<;>rfl
 ·refine .all fun fu=>?_
  simp only [iN,y1]
  have hd:(!decide ((((xs.length:Nat):Int):Int)=((ys.length:Nat):Int)))=true:=by simp;omega
  rw [hd]
  cases hq:aA.eqs xs ys
  ·rfl
  ·exact absurd (SE hq) hl
theorem P3: ∀a b:aA,bL fun fu=>eH fu a b=some (aA.eq a b):=by
 refine aA.ind fun k n xs ih=>?_;rintro⟨l,m,ys⟩
 refine bL.succ ((Z4 (xs:=xs) (ys:=ys) fun i hi hj=>ih _ (dO hi) _).imp fun fu hf=>?_)
 simp only [eH,uP,aA.asJ.eq_1,aA.asD.eq_1,aA.asG.eq_1,hf,aA.eq]
 by_cases h1:k=l
 ·subst h1
  by_cases h2:n=m
  ·subst h2
   simp [sw,bd,vH]
  ·simp [sw,h2,zH]
 ·have:(k==l)=false:=by simpa using h1
  simp [sw,h1,this]
theorem EN(a b:aA):bP Tryz.prog 38 [(aA.pv a),(aA.pv b)] (.t (.leaf (.bool (aA.eq a b)))):=by
 obtain⟨fu,h⟩:=(P3 a b).get
 exact EO fu a b _ h
theorem PJ{xs ys:List aA}(h: ∀i,i<xs.length→i<ys.length→bL fun fu=>fE fu (aP xs i) (aP ys i)=some (aA.eq (aP xs i) (aP ys i))):bL fun fu=>bK fu xs ys=some (aA.eqs xs ys):=by
 refine bL.succ ?_
 by_cases hl:xs.length=ys.length
 ·refine(bL.below (k:=xs.length) fun i hi=>h i hi (by omega)).imp fun fu hf=>?_
  simp only [bK,fM]
  have hd:(!decide ((((xs.length:Nat):Int):Int)=((ys.length:Nat):Int)))=false:=by simp [hl]
  rw [hd]
  have hr:gT fu (fE fu) (bK fu) xs ys=some (if(List.range xs.length).all (fun i=>aA.eq (aP xs i) (aP ys i)) then .inr () else .inl false):=by
   unfold gT
   have:=KZ (l:=List.range xs.length) (f:=gS fu (fE fu) (bK fu) xs ys) (p:=fun i=>aA.eq (aP xs i) (aP ys i)) (r:=false) (s:=()) fun i hi=>by
    have hi':i<xs.length:=by simpa using hi
    rw [QW hi',gS]
    rw [rR (by omega) rfl,wD (hf i hi') rfl]
    cases aA.eq (aP xs i) (aP ys i)<;>rfl
   rwa [List.length_range] at this
  rw [hr,I4 hl]
  cases(List.range xs.length).all fun i=>aA.eq (aP xs i) (aP ys i)<;>rfl
 ·refine .all fun fu=>?_
  simp only [bK,fM]
  have hd:(!decide ((((xs.length:Nat):Int):Int)=((ys.length:Nat):Int)))=true:=by simp;omega
  rw [hd]
  cases hq:aA.eqs xs ys
  ·rfl
  ·exact absurd (SE hq) hl
theorem PM: ∀a b:aA,bL fun fu=>fE fu a b=some (aA.eq a b):=by
 refine aA.ind fun k n xs ih=>?_;rintro⟨l,m,ys⟩
 refine bL.succ ((PJ (xs:=xs) (ys:=ys) fun i hi hj=>ih _ (dO hi) _).imp fun fu hf=>?_)
 simp only [fE,zJ,aA.asJ.eq_1,aA.asD.eq_1,aA.asG.eq_1,hf,aA.eq]
 by_cases h1:k=l
 ·subst h1
  by_cases h2:n=m
  ·subst h2
   simp [sw,bd,vH]
  ·simp [sw,h2,zH]
 ·have:(k==l)=false:=by simpa using h1
  simp [sw,h1,this]
theorem EK(a b:aA):bP Tryz.prog 95 [(aA.pv a),(aA.pv b)] (.t (.leaf (.bool (aA.eq a b)))):=by
 obtain⟨fu,h⟩:=(PM a b).get
 exact PN fu a b _ h
theorem M4{α:Type}: ∀(l a:List α),l.foldl (fun s x=>s++ [x]) a=a++l
 | [],a=>by simp
 |x::l,a=>by rw [List.foldl_cons,M4 l];simp
theorem adA{xs:List aA}: ∀ {x:aA},x∈xs→Tr.bulkL x.tr≤Tr.bulkAll (aA.trs xs):=by
 induction xs with
 |nil=>intro x hx;simp at hx
 |cons a l ih=>
  intro x hx
  simp only [aA.trs,Tr.bulkAll]
  rcases List.mem_cons.1 hx with rfl|hx
  ·omega
  ·have:=ih hx;omega
theorem QY(k:Int)(n:ByteArray)(xs:List aA):xs.length+Tr.bulkAll (aA.trs xs)≤Tr.bulkL (aA.mk k n xs).tr:=by
 simp only [aA.tr,Tr.bulkL_append,Tr.bulkL,Tr.bulk,aA.trs_len]
 omega
mutual
def Gd(U:LB):aA→Prop
 | .mk k n xs=>(k=1→n∈U)∧xs.length≤68719476735∧GdL U xs
def GdL(U:LB):List aA→Prop
 | []=>True
 |x::l=>Gd U x∧GdL U l
end
theorem CW{U:LB}: ∀ {l:List aA},GdL U l↔ ∀x∈l,Gd U x
 | []=>by simp [GdL]
 |a::l=>by rw [GdL,CW (l:=l)];simp
theorem Gd.args{U:LB}{t x:aA}(h:x∈t.asG)(ht:Gd U t):Gd U x:=by
 obtain⟨k,n,xs⟩:=t
 rw [Gd] at ht
 exact CW.1 ht.2.2 x h
theorem Gd.mono{U V:LB}(hs: ∀x∈U,x∈V): ∀t:aA,Gd U t→Gd V t:=by
 refine aA.ind fun k n xs ih h=>?_
 rw [Gd] at h ⊢
 exact⟨fun hk=>hs _ (h.1 hk),h.2.1,CW.2 fun x hx=>ih x hx (CW.1 h.2.2 x hx)⟩
def n3(t:aA):Prop:= ∃U:LB,U.length≤68719476736∧Gd U t
theorem G3{t x:aA}(h:x∈t.asG):n3 t→n3 x:=fun⟨U,hU,ht⟩=>⟨U,hU,ht.args h⟩
theorem n3.len{k:Int}{n:ByteArray}{xs:List aA}(h:n3 (.mk k n xs)):xs.length≤68719476735:=by
 obtain⟨U,_,h⟩:=h
 rw [Gd] at h
 exact h.2.1
mutual
def zU:aA→LB
 | .mk _ n xs=>n::YS xs
def YS:List aA→LB
 | []=> []
 |x::l=>zU x++YS l
end
theorem VQ{x:aA}: ∀ {l:List aA},x∈l→ ∀n∈zU x,n∈YS l
 |a::l,h,n,hn=>by
  rw [YS]
  rcases List.mem_cons.1 h with rfl|h
  ·exact List.mem_append.2 (.inl hn)
  ·exact List.mem_append.2 (.inr (VQ h n hn))
theorem VP: ∀(l:List aA),(∀x∈l,(zU x).length≤1+Tr.bulkL x.tr)→(YS l).length≤l.length+Tr.bulkAll (aA.trs l)
 | [],_=>by simp [YS]
 |x::l,h=>by
  have h1:=h x (by simp)
  have h2:=VP l fun y hy=>h y (List.mem_cons_of_mem _ hy)
  simp only [YS,aA.trs,Tr.bulkAll,List.length_append,List.length_cons]
  omega
theorem VR: ∀t:aA,(zU t).length≤1+Tr.bulkL t.tr:=by
 refine aA.ind fun k n xs ih=>?_
 have h1:=VP xs ih
 have h2:=QY k n xs
 rw [zU,List.length_cons]
 omega
theorem Gd.own: ∀t:aA,Tr.bulkL t.tr≤68719476735→Gd (zU t) t:=by
 refine aA.ind fun k n xs ih hb=>?_
 have h1:=QY k n xs
 rw [Gd,zU]
 refine⟨fun _=>List.mem_cons_self ..,by omega,CW.2 fun x hx=>?_⟩
 exact(ih x hx (by have:=adA hx;omega)).mono (fun y hy=>List.mem_cons_of_mem _ (VQ hx y hy)) x
theorem n3.of{t:aA}(h:Tr.bulkL t.tr≤68719476735):n3 t:=⟨zU t,by have:=VR t;omega,Gd.own t h⟩
theorem II{xs:List aA}(hb:xs.length≤68719476735)(h: ∀x∈xs,bL fun fu=>fQ fu x=some x):bL fun fu=>fB fu xs=some xs:=by
 refine bL.succ ((bL.list h).imp fun fu hf=>?_)
 simp only [fB,tJ]
 rw [qL (l:=xs) (g:=fun s x=>s++ [x]) (fun i s=>s.length=i) (fun i s hi hp=>⟨?_,by simp [hp]⟩) rfl,M4]
 ·rfl
 ·rw [AQ,wD (hf _ (dO hi)) rfl,rR (by simp;omega) rfl]
theorem OS: ∀t:aA,n3 t→bL fun fu=>fQ fu t=some t:=by
 refine aA.ind fun k n xs ih hb=>?_
 have h1:=hb.len
 refine bL.succ ((II (xs:=xs) h1 fun x hx=>ih x hx (G3 (t:= .mk k n xs) hx hb)).imp fun fu hf=>?_)
 simp only [fQ,DH,aA.asJ.eq_1,aA.asD.eq_1,aA.asG.eq_1,hf,bd]
theorem GJ(t:aA)(hb:n3 t):bP Tryz.prog 56 [(aA.pv t)] (aA.pv t):=by
 obtain⟨fu,h⟩:=(OS t hb).get
 exact OT fu t _ h
theorem T6(l:List aA)(hb:l.length≤68719476735∧ ∀x∈l,n3 x):bP Tryz.prog 111 [.t (.row 3 (aA.trs l))] (.t (.row 3 (aA.trs l))):=by
 obtain⟨fu,h⟩:=(II (xs:=l) hb.1 fun x hx=>OS x (hb.2 x hx)).get
 exact T8 fu l _ h
theorem FW{α β:Type}[Inhabited α]{f:Nat→List α→Option (LR (List α) β)}{l:List α}{g:α→α}(hs: ∀i s,i<l.length→s.length=i→f i s=some (.next (s++ [g (aP l i)]))):loopN f (l.length-0) 0 []=some (.inr (l.map g)):=by
 rw [qL (l:=l) (g:=fun s x=>s++ [g x]) (fun i s=>s.length=i) (fun i s hi hp=>⟨hs i s hi hp,by simp [hp]⟩) rfl]
 have key: ∀(l a:List α),l.foldl (fun s x=>s++ [g x]) a=a++l.map g:=by
  intro l
  induction l with
  |nil=>intro a;simp
  |cons x l ih=>intro a;rw [List.foldl_cons,ih];simp
 rw [key,List.nil_append]
theorem PR{xs:List aA}(hb:xs.length≤68719476735)(h: ∀x∈xs,bL fun fu=>gK fu x=some x):bL fun fu=>hY fu xs=some xs:=by
 refine bL.succ ((bL.list h).imp fun fu hf=>?_)
 simp only [hY,zL]
 rw [rR (by omega) rfl]
 have hR:xG fu (gK fu) (hY fu) xs=some (.inr xs):=by
  unfold xG
  rw [FW (l:=xs) (g:=id) fun i s hi hp=>?_,List.map_id]
  rw [EM,wD (hf _ (dO hi)) rfl,rR (by omega) rfl]
  rfl
 rw [soR hR rfl,rR rfl rfl]
theorem SN: ∀t:aA,n3 t→bL fun fu=>gK fu t=some t:=by
 refine aA.ind fun k n xs ih hb=>?_
 have h1:=hb.len
 refine bL.succ ((PR (xs:=xs) h1 fun x hx=>ih x hx (G3 (t:= .mk k n xs) hx hb)).imp fun fu hf=>?_)
 simp only [gK,BM,aA.asJ.eq_1,aA.asD.eq_1,aA.asG.eq_1,hf,bd]
theorem zK(t:aA)(hb:n3 t):bP Tryz.prog 79 [(aA.pv t)] (aA.pv t):=by
 obtain⟨fu,h⟩:=(SN t hb).get
 exact SO fu t _ h
end Go.Proofs.YtfcoaagbccmahaaGreat.W

namespace Go.Proofs.YtfcoaagbccmahaaGreat.W
set_option maxRecDepth 100000
set_option maxHeartbeats 40000000
noncomputable section
open Go.RowKit Go.Proofs
attribute [local irreducible] lt
def N1(fu:Nat)(p0:List aN)(pv:ByteArray):Nat→Unit→Option (LR Unit (aA×Bool)):=fun i1 _=>sw (decide ((aP p0 i1).atG=pv)) (gd (n3 ((aP p0 i1).asH)) (some (.ret (((aP p0 i1).asH),true)))) (some (.next ()))
def J0(fu:Nat)(p0:List aN)(pv:ByteArray):Option (aA×Bool):=so (loopN (N1 fu p0 pv) (p0.length-0) 0 ()) fun _=>some ((aA.mk 0 s_ []),false)
theorem Y1(fu:Nat)(p0:List aN)(pv:ByteArray)(r:aA×Bool)(H:J0 fu p0 pv=some r):bP Tryz.prog 151 [kA p0,pS pv] (.tup [(aA.pv r.1),pB r.2]):=by
 refine qJ Tryz.func151 H (fun C hC H=>?_)
 refine gQ 10 ?_;refine iG 0 (aN.trs_len _) (fun hl2=>?_)
 refine bM (σ:=Unit) (fun i1 _=>⟨[(0,kA p0),(1,pS pv),(4,.ptr 0 0),(5,pB false),(6,pN i1)],⟨[some ⟨30,[pI 0,pS s_,.nil]⟩],[]⟩⟩) (fun _=>⟨[(4,.ptr 0 0),(5,pB false)],⟨[some ⟨30,[pI 0,pS s_,.nil]⟩],[]⟩⟩) (eR H) ?_ ?_
 ·rintro i1 ⟨⟩ H
  refine gQ 8 ?_;refine cW H (fun h3 h3l H=>?_) (fun h3 H=>?_)
  ·refine gQ 13 ?_;refine a7 H (fun h4 H=>?_) (fun h4 H=>?_)
   ·refine gQ 6 ?_;refine q1 (jB (aA.cs ((aP p0 i1).asH))) (cQ H fun z5 H=>(q1 (bC Tryz.func56 (GJ ((aP p0 i1).asH) z5)) ?_))
    exact gE 3
   exact gE 6
  exact gE 0
 rintro⟨⟩ H
 exact gE 6
def M8(fu:Nat)(p0:List aN)(pv:ByteArray):Nat→Unit→Option (LR Unit (aA×Bool)):=fun i1 _=>sw (decide ((aP p0 i1).atG=pv)) (gd (n3 ((aP p0 i1).asH)) (some (.ret (((aP p0 i1).asH),true)))) (some (.next ()))
def CX(fu:Nat)(p0:List aN)(pv:ByteArray):Option (aA×Bool):=so (loopN (M8 fu p0 pv) (p0.length-0) 0 ()) fun _=>some ((aA.mk 0 s_ []),false)
theorem YD(fu:Nat)(p0:List aN)(pv:ByteArray)(r:aA×Bool)(H:CX fu p0 pv=some r):bP Tryz.prog 59 [kA p0,pS pv] (.tup [(aA.pv r.1),pB r.2]):=by
 refine qJ Tryz.func59 H (fun C hC H=>?_)
 refine gQ 12 ?_;refine iG 0 (aN.trs_len _) (fun hl2=>?_)
 refine bM (σ:=Unit) (fun i1 _=>⟨[(1,pS pv),(4,.ptr 0 0),(5,pB false),(8,kA p0),(9,pN p0.length),(10,pN i1)],⟨[some ⟨30,[pI 0,pS s_,.nil]⟩],[]⟩⟩) (fun _=>⟨[(4,.ptr 0 0),(5,pB false)],⟨[some ⟨30,[pI 0,pS s_,.nil]⟩],[]⟩⟩) (eR H) ?_ ?_
 ·rintro i1 ⟨⟩ H
  refine gQ 5 ?_;refine cW H (fun h3 h3l H=>?_) (fun h3 H=>?_)
  ·refine gQ 6 ?_;refine q1 (jB (aN.cs (aP p0 i1))) ?_;refine gQ 10 ?_;refine a7 H (fun h4 H=>?_) (fun h4 H=>?_)
   ·refine gQ 3 ?_;refine q1 (cK [pI (((aP p0 i1).asH).asJ),pS (((aP p0 i1).asH).asD),aX (((aP p0 i1).asH).asG)]) (cQ H fun z5 H=>(q1 (bC Tryz.func79 (zK ((aP p0 i1).asH) z5)) ?_))
    exact gE 3
   exact gE 5
  exact gE 0
 rintro⟨⟩ H
 exact gE 6
end
end Go.Proofs.YtfcoaagbccmahaaGreat.W

namespace Go.Proofs.YtfcoaagbccmahaaGreat.W
open Go.RowKit Go.WalkArith
def BD(l:List aN)(v:ByteArray):Option aN:=l.find? (fun b=>decide (b.atG=v))
mutual
def af9:aA→aA→List aN→Option (List aN)
 | .mk k n ps,t,s=>
  if k=1 then(match BD s n with
   |some b=>if aA.eq b.asH t=true then some s else none
   |none=>some (s++ [aN.mk n t]))
  else if k=t.asJ then(if n=t.asD then(if ps.length=t.asG.length then adM ps t.asG s else none) else none) else none
def adM:List aA→List aA→List aN→Option (List aN)
 | [],_,s=>some s
 |p::ps,ts,s=>match ts with
  | []=>none
  |t::ts=>match af9 p t s with
   |none=>none
   |some s'=>adM ps ts s'
end
def DR(s:List aN):Prop:= ∀b∈s,n3 b.asH
theorem Y0(fu:Nat)(l:List aN)(v:ByteArray)(hb:DR l):J0 fu l v=some (match BD l v with
 |some b=>(b.asH,true)
 |none=>(aA.mk 0 (⟨#[]⟩) [],false)):=by
 unfold J0
 rw [qH (p:=fun b=>decide (b.atG=v)) (r:=fun b=>(b.asH,true)) (fun i hi=>by
  unfold N1
  cases h:decide ((aP l i).atG=v)
  ·simp [sw,h]
  ·simp only [sw,h]
   rw [rR (hb _ (dO hi)) rfl]
   simp)]
 unfold BD
 cases l.find? (fun b=>decide (b.atG=v))<;>rfl
theorem YC(fu:Nat)(l:List aN)(v:ByteArray)(hb:DR l):CX fu l v=some (match BD l v with
 |some b=>(b.asH,true)
 |none=>(aA.mk 0 (⟨#[]⟩) [],false)):=by
 unfold CX
 rw [qH (p:=fun b=>decide (b.atG=v)) (r:=fun b=>(b.asH,true)) (fun i hi=>by
  unfold M8
  cases h:decide ((aP l i).atG=v)
  ·simp [sw,h]
  ·simp only [sw,h]
   rw [rR (hb _ (dO hi)) rfl]
   simp)]
 unfold BD
 cases l.find? (fun b=>decide (b.atG=v))<;>rfl
theorem DR.nil:DR []:=fun b hb=>by simp at hb
end Go.Proofs.YtfcoaagbccmahaaGreat.W

namespace Go.Proofs.YtfcoaagbccmahaaGreat
open Go.RowKit
section
variable {P:Program} {ops:Array Oper} {Q:Exit→Act→World→Prop} {md:Region.Mode} {S:World→Prop}
end
end Go.Proofs.YtfcoaagbccmahaaGreat

namespace Go.Proofs.YtfcoaagbccmahaaGreat.W
open Go.RowKit Go.Proofs
end Go.Proofs.YtfcoaagbccmahaaGreat.W

namespace Go.Proofs.YtfcoaagbccmahaaGreat.W
open Go.RowKit Go.Proofs
end Go.Proofs.YtfcoaagbccmahaaGreat.W

namespace Go.Proofs.YtfcoaagbccmahaaGreat.W
set_option maxRecDepth 100000
set_option maxHeartbeats 40000000
noncomputable section
open Go.RowKit Go.Proofs
attribute [local irreducible] lt
def xY(fu:Nat)(ps:LB)(pv:ByteArray):Nat→Unit→Option (LR Unit Int):=fun i1 _=>sw (decide (pv=aP ps i1)) (some (.ret (i1:Int))) (some (.next ()))
def oE(fu:Nat)(ps:LB)(pv:ByteArray):Option Int:=so (loopN (xY fu ps pv) (ps.length-0) 0 ()) fun _=>some (-1)
theorem I8(fu:Nat)(ps:LB)(pv:ByteArray)(r:Int)(H:oE fu ps pv=some r):bP Tryz.prog 213 [rS ps,pS pv] (pI r):=by
 refine qJ Tryz.func213 H (fun C hC H=>?_)
 refine gQ 11 ?_;refine iG 0 (bI _) (fun hl2=>?_)
 refine bM (σ:=Unit) (fun i1 _=>⟨[(0,rS ps),(1,pS pv),(4,pI 0),(7,pN ps.length),(8,pN i1)],⟨[],[]⟩⟩) (fun _=>⟨[(4,pI 0)],⟨[],[]⟩⟩) (eR H) ?_ ?_
 ·rintro i1 ⟨⟩ H
  refine gQ 5 ?_;refine cW H (fun h3 h3l H=>?_) (fun h3 H=>?_)
  ·refine gQ 17 ?_;refine a7 H (fun h4 H=>gE 5) fun h4 H=>?_;exact gE 5
  exact gE 0
 rintro⟨⟩ H
 exact gE 4
def lN(fu:Nat)(ps:LB)(pv:ByteArray):Option Bool:=bd (oE fu ps pv) fun x2=>some (decide (x2≥0))
theorem DX(fu:Nat)(ps:LB)(pv:ByteArray)(r:Bool)(H:lN fu ps pv=some r):bP Tryz.prog 195 [rS ps,pS pv] (pB r):=by
 refine qJ Tryz.func195 H (fun C hC H=>?_)
 refine gQ 8 ?_;refine bD H fun x2 z1 H=>(q1 (bC Tryz.func213 (I8 fu ps pv _ z1)) ?_)
 exact gE 3
end
end Go.Proofs.YtfcoaagbccmahaaGreat.W

namespace Go.Proofs.YtfcoaagbccmahaaGreat.W
attribute [local irreducible] lt
open Go.RowKit Go.WalkArith
theorem U7{α:Type}{p:α→Bool}: ∀l:List α,(l.find? p).isSome=l.any p
 | []=>rfl
 |a::l=>by
  rw [List.find?_cons,List.any_cons]
  cases p a with
  |true=>rfl
  |false=>exact U7 l
theorem afE{α:Type}{p:α→Bool}{l:List α}{m:Option (Bool⊕Unit)}{f:Unit→Option Bool}(hm:m=some (match l.find? p with|some _=> .inl true|none=> .inr ())){b:Bool}(hf:f ()=some b):so m f=some (l.any p||b):=by
 have h:=U7 (p:=p) l
 cases hq:l.find? p with
 |none=>
  rw [hq] at hm h
  rw [← h]
  exact soR hm hf
 |some x=>
  rw [hq] at hm h
  rw [← h]
  exact soL hm
def xE(l:LB)(s:ByteArray):Bool:=l.any fun x=>decide (x=s)
theorem RK(fu:Nat)(l:LB)(s:ByteArray):iW fu l s=some (xE l s):=by
 unfold iW
 rw [afE (l:=l) (p:=fun x=>decide (x=s)) (b:=false) ?_ rfl,Bool.or_false]
 ·rfl
 ·exact qH (p:=fun x=>decide (x=s)) (r:=fun _=>true) (fun i hi=>by unfold RJ;cases decide (aP l i=s)<;>rfl)
theorem SG(fu:Nat)(l:LB)(s:ByteArray):lN fu l s=some (xE l s):=by
 have h1:oE fu l s=some (match l.findIdx? (fun x=>decide (s=x)) with|some i=>((i:Nat):Int)|none=> -1):=by
  unfold oE
  rw [wR (l:=l) (p:=fun x=>decide (s=x)) fun i hi=>by
   unfold xY
   cases decide (s=aP l i)<;>rfl]
  cases l.findIdx? fun x=>decide (s=x)<;>rfl
 have h2:(fun x=>decide (s=x))=fun x=>decide (x=s):=funext fun x=>decide_eq_decide.2 ⟨Eq.symm,Eq.symm⟩
 unfold lN
 refine wD h1 (congrArg some ?_)
 refine Q6.trans ?_
 rw [h2]
 rfl
end Go.Proofs.YtfcoaagbccmahaaGreat.W

namespace Go.Proofs.YtfcoaagbccmahaaGreat.W
set_option maxRecDepth 100000
set_option maxHeartbeats 40000000
noncomputable section
open Tryz Go.RowKit Go.Proofs
attribute [local irreducible] lt
def vZ(fu:Nat)(pc:DS):Option (aE×DS):=bd (jA fu pc ([eQ,t2]:LB) 3) fun(x2,x3)=>lt (x3.after 8) fun d4=>sw (decide ((x3.below 8:Int)=0)) (bd (mL fu d4 2) fun(x8,x9)=>lt (x9.after ([a4,a4,iC,c3,cX,fG,rV]:LB).length) fun d10=>lt (x9.pick ([a4,a4,iC,c3,cX,fG,rV]:LB)) fun y12=>some ((aE.mk y12 x8),d10)) (sw (decide ((x3.below 8:Int)=1)) (bd (eJ fu B6 ([])) fun x16=>lt (d4.after ([a4,a4,iC,c3,cX,fG,rV]:LB).length) fun d17=>lt (d4.pick ([a4,a4,iC,c3,cX,fG,rV]:LB)) fun y19=>some ((aE.mk y19 x16),d17)) (sw (decide ((x3.below 8:Int)=2)) (lt (d4.after ([B6,dK,c9]:LB).length) fun d22=>lt (d4.pick ([B6,dK,c9]:LB)) fun y24=>bd (eJ fu y24 ([])) fun x27=>bd (eJ fu b0 ([x27]:List aA)) fun x29=>lt (d22.after ([a4,a4,iC,c3,cX,fG,rV]:LB).length) fun d30=>lt (d22.pick ([a4,a4,iC,c3,cX,fG,rV]:LB)) fun y32=>some ((aE.mk y32 x29),d30)) (lt (d4.after ([a4,a4,iC,c3,cX,fG,rV]:LB).length) fun d34=>lt (d4.pick ([a4,a4,iC,c3,cX,fG,rV]:LB)) fun y36=>some ((aE.mk y36 x2),d34))))
theorem W2(fu:Nat)(pc:DS)(r:aE×DS)(H:vZ fu pc=some r):cJ Tryz.prog 74 [.ptr 0 0] ⟨[some ⟨133,dC pc⟩],[]⟩ (fun q t=>q=((aE.pv r.1))∧t=⟨[some ⟨133,dC r.2⟩],[]⟩):=by
 refine qJ func74 H (fun C hC H=>?_)
 refine gQ 7 ?_;refine q1 (gC ([eQ,t2]:LB)) (eY H fun x2 x3 z1 H=>(q1 (eW [0] [] func131 (OY (IK fu) pc ([eQ,t2]:LB) 3 _ z1)) ?_))
 refine gQ 7 ?_;refine fI H fun d4 h5 H=>(q1 (eW [0] [] func73 (AU h5 (eT x3 8))) ?_)
 refine gQ 7 ?_;refine a7 H (fun h6 H=>?_) (fun h6 H=>?_)
 ·refine gQ 2 ?_;refine eY H fun x8 x9 z7 H=>(q1 (eW [0] [] func132 (sR (sQ fu) d4 2 _ z7)) ?_)
  refine gQ 3 ?_;refine fI H fun d10 h11 H=>(fI H fun y12 h13 H=>(dW (dI [0] bG (dI [] (gC ([a4,a4,iC,c3,cX,fG,rV]:LB)) (dE [24,25] (eW [0] [] func48 (DY h11 h13 (eA x9 ([a4,a4,iC,c3,cX,fG,rV]:LB) (by decide)))) (dB [3] 0 1 (GP [pI x8.asJ,pS x8.asD,aX x8.asG]) (dI [26,27] nU (kS [2,28] jP (dN ?_)))))))))
  exact gE 0
 refine gQ 5 ?_;refine a7 H (fun h14 H=>?_) (fun h14 H=>?_)
 ·refine qR (bD H fun x16 z15 H=>(q1 (bC func47 (nS (fP fu) B6 ([]) _ z15)) ?_))
  refine gQ 3 ?_;refine fI H fun d17 h18 H=>(fI H fun y19 h20 H=>(dW (dI [0] bG (dI [] (gC ([a4,a4,iC,c3,cX,fG,rV]:LB)) (dE [24,25] (eW [0] [] func48 (DY h18 h20 (eA d4 ([a4,a4,iC,c3,cX,fG,rV]:LB) (by decide)))) (dB [3] 0 1 (GP [pI x16.asJ,pS x16.asD,aX x16.asG]) (dI [26,27] nU (kS [2,28] jP (dN ?_)))))))))
  exact gE 0
 refine gQ 5 ?_;refine a7 H (fun h21 H=>?_) (fun h21 H=>?_)
 ·refine gQ 2 ?_;refine q1 (gC ([B6,dK,c9]:LB)) (fI H fun d22 h23 H=>(fI H fun y24 h25 H=>(q1 (eW [0] [] func48 (DY h23 h25 (eA d4 ([B6,dK,c9]:LB) (by decide)))) (bD H fun x27 z26 H=>(q1 (bC func47 (nS (fP fu) y24 ([]) _ z26)) (q1 (gC ([x27]:List aA)) (bD H fun x29 z28 H=>(q1 (bC func47 (nS (fP fu) b0 ([x27]:List aA) _ z28)) ?_))))))))
  refine gQ 3 ?_;refine fI H fun d30 h31 H=>(fI H fun y32 h33 H=>(dW (dI [0] bG (dI [] (gC ([a4,a4,iC,c3,cX,fG,rV]:LB)) (dE [24,25] (eW [0] [] func48 (DY h31 h33 (eA d22 ([a4,a4,iC,c3,cX,fG,rV]:LB) (by decide)))) (dB [3] 0 1 (GP [pI x29.asJ,pS x29.asD,aX x29.asG]) (dI [26,27] nU (kS [2,28] jP (dN ?_)))))))))
  exact gE 0
 refine gQ 2 ?_;refine fI H fun d34 h35 H=>(fI H fun y36 h37 H=>(dW (dI [0] bG (dI [] (gC ([a4,a4,iC,c3,cX,fG,rV]:LB)) (dE [24,25] (eW [0] [] func48 (DY h35 h37 (eA d4 ([a4,a4,iC,c3,cX,fG,rV]:LB) (by decide)))) (dB [3] 0 1 (GP [pI x2.asJ,pS x2.asD,aX x2.asG]) (dI [26,27] nU (kS [2,28] jP (dN ?_)))))))))
 exact gE 0
end
end Go.Proofs.YtfcoaagbccmahaaGreat.W

namespace Go.Proofs.YtfcoaagbccmahaaGreat.W
set_option maxRecDepth 100000
set_option maxHeartbeats 40000000
noncomputable section
open Tryz Go.RowKit Go.Proofs
attribute [local irreducible] lt
abbrev uU:=aF→ByteArray→(LB)→Option ((LB))
def uT(m:uU):Prop:= ∀(pw:aF) (p1:ByteArray) (p6:LB) (r:(LB)),m pw p1 p6=some r→cJ Tryz.prog 112 [(aF.pv pw),pS p1,aS p6 0] ⟨[],[⟨9,1,aW (p6),false⟩]⟩ (fun q t=>q=(aS r 0:PV)∧t=⟨[],[⟨9,1,aW (r),false⟩]⟩)
def xP(fu:Nat)(p4:uU)(pw:aF)(p1:ByteArray)(p6:LB)(x2:aQ)(x3:Int)(x4:Bool):Nat→((LB))→Option (LR ((LB)) ((LB))):=fun i5 v7=>bd (iW fu v7 (aP x2.asO i5)) fun x11=>sw (!(x11)) (gd ((v7).length+(([(aP x2.asO i5)]:LB)).length≤68719476736) (bd (p4 pw (aP x2.asO i5) (v7++([(aP x2.asO i5)]:LB))) fun x15=>some (.next x15))) (some (.next v7))
def AH(fu:Nat)(p4:uU)(pw:aF)(p1:ByteArray)(p6:LB):Option ((LB)):=bd (oA fu pw p1) fun(x2,x3,x4)=>so (loopN (xP fu p4 pw p1 p6 x2 x3 x4) (x2.asO.length-0) 0 p6) fun v7=>some v7
theorem L9(fu:Nat)(p4:uU)(pC:uT p4):uT (AH fu p4):=by
 intro pw p1 p6 r H
 refine qJ func112 H (fun C hC H=>?_)
 refine gQ 2 ?_;refine q1 (iR ([aU pw.asE])) ?_;refine gQ 4 ?_;refine q1 (cK [aU pw.asE]) (q1 bG (PG H fun x2 x3 x4 z1 H=>(q1 (bC func121 (CF fu pw p1 _ z1)) ?_)))
 refine gQ 14 ?_;refine cF.fact (b6 1 1 rfl rfl rfl (bI _)) (fun hl8=>?_)
 try dsimp only at hl8
 refine bM (σ:=(LB)) (fun i5 v7=>⟨[(2,aS v7 0),(3,.ptr 0 0),(6,.nil),(7,.ptr 1 0),(10,pN i5)],⟨[some ⟨26,[aU pw.asE]⟩,some ⟨156,nX x2⟩],[⟨9,1,aW (v7),false⟩]⟩⟩) (fun v7=>⟨[(2,aS v7 0),(6,.nil)],⟨[some ⟨26,[aU pw.asE]⟩,some ⟨156,nX x2⟩],[⟨9,1,aW (v7),false⟩]⟩⟩) (eR H) ?_ ?_
 ·rintro i5 v7 H
  refine gQ 9 ?_;refine cW H (fun h9 h9l H=>?_) (fun h9 H=>?_)
  ·refine gQ 11 ?_;refine bD H fun x11 z10 H=>(q1 (bC func153 (jY fu v7 (aP x2.asO i5) _ z10)) ?_)
   refine gQ 2 ?_;refine a7 H (fun h12 H=>?_) (fun h12 H=>?_)
   ·refine cQ H fun z13 H=>(bD H fun x15 z14 H=>(dW (dB [3] 0 1 (GP [aU pw.asE]) (dI [7] bS (dB [34] 0 1 t7 (dI [10] bG (dI [35,36] qY (dI [37] xR (dI [2] bG (dI [7] bS (dD [40] eE (dI [10] bG (dI [41,42] qY ?_)))))))))))))
    refine dI [43] xR (dI [44] (gC ([(aP x2.asO i5)]:LB)) (dE [39,45] (jS z13) (dE [33,38,46] (eW [] [0] func112 (pC pw (aP x2.asO i5) (v7++([(aP x2.asO i5)]:LB)) _ z14)) (dI [47] bG (dN ?_)))))
    exact gE 5
   exact gE 6
  exact gE 0
 rintro v7 H
 exact gE 5
def iE:Nat→aF→ByteArray→(LB)→Option ((LB))
 |0,_,_,_=>none
 |fu+1,pw,p1,p6=>AH fu (iE fu) pw p1 p6
theorem OI(fu:Nat):uT (iE fu):=by
 induction fu with
 |zero=>exact(fun pw p1 p6 r H=>by simp only [iE] at H;cases H)
 |succ fu ih=>exact(fun pw p1 p6 r H=>by simp only [iE] at H;exact L9 fu (iE fu) ih pw p1 p6 r H)
theorem QM(fu:Nat):uT (iE fu):=(OI fu)
def mW(fu:Nat)(pw:aF)(p1:ByteArray):Option ((LB)):=bd (iE fu pw p1 ([])) fun x2=>some x2
theorem F1(fu:Nat)(pw:aF)(p1:ByteArray)(r:(LB))(H:mW fu pw p1=some r):bP Tryz.prog 57 [(aF.pv pw),pS p1] (rS r):=by
 refine qJ func57 H (fun C hC H=>?_)
 refine gQ 2 ?_;refine q1 (iR ([aU pw.asE])) ?_;refine gQ 4 ?_;refine q1 (cK [aU pw.asE]) (q1 bG (q1 (n0 ([]:LB)) (bD H fun x2 z1 H=>(q1 (eW [] [0] func112 (QM fu pw p1 ([]) _ z1)) ?_))))
 exact gE 2
abbrev rD:=aF→(LB)→ByteArray→Option ((LB))
def rC(m:rD):Prop:= ∀(pw:aF) (p6:LB) (p1:ByteArray) (r:(LB)),m pw p6 p1=some r→cJ Tryz.prog 178 [(aF.pv pw),aS p6 0,pS p1] ⟨[],[⟨9,1,aW (p6),false⟩]⟩ (fun q t=>q=(aS r 0:PV)∧t=⟨[],[⟨9,1,aW (r),false⟩]⟩)
def tP(fu:Nat)(p2:rD)(pw:aF)(p6:LB)(p1:ByteArray)(x2:aQ)(x3:Int)(x4:Bool):Nat→((LB))→Option (LR ((LB)) ((LB))):=fun i5 v7=>bd (lN fu v7 (aP x2.asO i5)) fun x11=>sw (!(x11)) (gd ((v7).length+(([(aP x2.asO i5)]:LB)).length≤68719476736) (bd (p2 pw (v7++([(aP x2.asO i5)]:LB)) (aP x2.asO i5)) fun x15=>some (.next x15))) (some (.next v7))
def vJ(fu:Nat)(p2:rD)(pw:aF)(p6:LB)(p1:ByteArray):Option ((LB)):=bd (BN fu pw p1) fun(x2,x3,x4)=>so (loopN (tP fu p2 pw p6 p1 x2 x3 x4) (x2.asO.length-0) 0 p6) fun v7=>some v7
theorem HP(fu:Nat)(p2:rD)(pA:rC p2):rC (vJ fu p2):=by
 intro pw p6 p1 r H
 refine qJ func178 H (fun C hC H=>?_)
 refine gQ 2 ?_;refine q1 (iR ([aU pw.asE])) ?_;refine gQ 4 ?_;refine q1 (cK [aU pw.asE]) (q1 bG (PG H fun x2 x3 x4 z1 H=>(q1 (bC func115 (Q8 fu pw p1 _ z1)) ?_)))
 refine gQ 17 ?_;refine iG 20 (bI _) (fun hl8=>?_)
 try dsimp only at hl8
 refine bM (σ:=(LB)) (fun i5 v7=>⟨[(1,aS v7 0),(3,.ptr 0 0),(6,.nil),(20,rS x2.asO),(21,pN x2.asO.length),(22,pN i5)],⟨[some ⟨26,[aU pw.asE]⟩,some ⟨156,nX x2⟩],[⟨9,1,aW (v7),false⟩]⟩⟩) (fun v7=>⟨[(1,aS v7 0),(6,.nil)],⟨[some ⟨26,[aU pw.asE]⟩,some ⟨156,nX x2⟩],[⟨9,1,aW (v7),false⟩]⟩⟩) (eR H) ?_ ?_
 ·rintro i5 v7 H
  refine gQ 5 ?_;refine cW H (fun h9 h9l H=>?_) (fun h9 H=>?_)
  ·refine gQ 13 ?_;refine bD H fun x11 z10 H=>(q1 (bC func195 (DX fu v7 (aP x2.asO i5) _ z10)) ?_)
   refine gQ 2 ?_;refine a7 H (fun h12 H=>?_) (fun h12 H=>?_)
   ·refine cQ H fun z13 H=>(bD H fun x15 z14 H=>(dW (dB [3] 0 1 (GP [aU pw.asE]) (dI [1] bG (dI [11] bG (dI [32] (gC ([(aP x2.asO i5)]:LB)) (dE [31,33] (jS z13) (dI [11] bG (dE [30,34,35] (eW [] [0] func178 (pA pw (v7++([(aP x2.asO i5)]:LB)) (aP x2.asO i5) _ z14)) (dI [36] bG (dN ?_)))))))))))
    exact gE 4
   exact gE 5
  exact gE 0
 rintro v7 H
 exact gE 5
def fR:Nat→aF→(LB)→ByteArray→Option ((LB))
 |0,_,_,_=>none
 |fu+1,pw,p6,p1=>vJ fu (fR fu) pw p6 p1
theorem JB(fu:Nat):rC (fR fu):=by
 induction fu with
 |zero=>exact(fun pw p6 p1 r H=>by simp only [fR] at H;cases H)
 |succ fu ih=>exact(fun pw p6 p1 r H=>by simp only [fR] at H;exact HP fu (fR fu) ih pw p6 p1 r H)
theorem LU(fu:Nat):rC (fR fu):=(JB fu)
def mS(fu:Nat)(pw:aF)(p1:ByteArray):Option ((LB)):=bd (fR fu pw ([]) p1) fun x2=>some x2
theorem FE(fu:Nat)(pw:aF)(p1:ByteArray)(r:(LB))(H:mS fu pw p1=some r):bP Tryz.prog 147 [(aF.pv pw),pS p1] (rS r):=by
 refine qJ func147 H (fun C hC H=>?_)
 refine gQ 2 ?_;refine q1 (iR ([aU pw.asE])) ?_;refine gQ 4 ?_;refine q1 (cK [aU pw.asE]) (q1 bG (bD H fun x2 z1 H=>(q1 (a5.callF (res:=rS x2) (ps:= [_,_,_]) (qs:= [(aF.pv pw),.nil,pS p1]) rfl rfl func178 (by kernel_rfl) rfl rfl jH rfl rfl (cJ.regNil (l1:= [(aF.pv pw)]) (l2:= [pS p1]) (E:=9) (sz:=1) (q:=rS x2) (by decide) (LU fu pw ([]) p1 _ z1) jH rfl)) ?_)))
 exact gE 2
abbrev tI:=aF→ByteArray→ByteArray→Int→Option ((List Int)×Bool)
def w7(m:tI):Prop:= ∀(pw:aF) (p0:ByteArray) (p9:ByteArray) (p7:Int) (r:(List Int)×Bool),m pw p0 p9 p7=some r→bP Tryz.prog 113 [(aF.pv pw),pS p0,pS p9,pI p7] (.tup [rI r.1,pB r.2]:PV)
def uS(fu:Nat)(p3:tI)(pw:aF)(p0 p9:ByteArray)(p7:Int)(x3:aQ)(x4:Int)(x5:Bool):Nat→Unit→Option (LR Unit ((List Int)×Bool)):=fun i6 _=>sw (decide (p7>0)) (bd (p3 pw (aP x3.asO i6) p9 (aY (p7-1))) fun(x11,x12)=>sw x12 (gd ((([(i6:Int)]:List Int)).length+x11.length≤68719476736) (some (.ret ((([(i6:Int)]:List Int)++x11),true)))) (some (.next ()))) (some (.brk ()))
def rP(fu:Nat)(p3:tI)(pw:aF)(p0 p9:ByteArray)(p7:Int)(x3:aQ)(x4:Int)(x5:Bool):Option (((List Int)×Bool)⊕Unit):=loopN (uS fu p3 pw p0 p9 p7 x3 x4 x5) (x3.asO.length-0) 0 ()
def w6(fu:Nat)(p3:tI)(pw:aF)(p0 p9:ByteArray)(p7:Int):Option ((List Int)×Bool):=sw (decide (p0=p9)) (some (([]),true)) (bd (oA fu pw p0) fun(x3,x4,x5)=>so (rP fu p3 pw p0 p9 p7 x3 x4 x5) fun _=>some (([]),false))
theorem OH(fu:Nat)(p3:tI)(pD:w7 p3):w7 (w6 fu p3):=by
 intro pw p0 p9 p7 r H
 refine qJ func113 H (fun C hC H=>?_)
 refine gQ 2 ?_;refine q1 (iR ([aU pw.asE])) ?_;refine gQ 10 ?_;refine a7 H (fun h1 H=>?_) (fun h1 H=>?_)
 ·refine gQ 2 ?_;refine q1 (n0 ([]:List Int)) ?_;exact gE 3
 refine gQ 3 ?_;refine q1 (cK [aU pw.asE]) (q1 bG (PG H fun x3 x4 x5 z2 H=>(q1 (bC func121 (CF fu pw p0 _ z2)) ?_)))
 refine gQ 14 ?_;refine cF.fact (b6 1 1 rfl rfl rfl (bI _)) (fun hl7=>?_)
 try dsimp only at hl7
 refine bM (σ:=Unit) (fun i6 _=>⟨[(2,pS p9),(3,pI p7),(4,.ptr 0 0),(8,.nil),(9,pB false),(10,.ptr 1 0),(13,pN i6)],⟨[some ⟨26,[aU pw.asE]⟩,some ⟨156,nX x3⟩],[]⟩⟩) (fun _=>⟨[(8,.nil),(9,pB false)],⟨[some ⟨26,[aU pw.asE]⟩,some ⟨156,nX x3⟩],[]⟩⟩) (eR H) ?_ ?_
 ·rintro i6 ⟨⟩ H
  refine gQ 9 ?_;refine AL.splitB 32 rfl (fun g8=>?_) (fun g8=>?_)
  ·have g8l:=sE g8
   have H:=lnT g8l H
   have g8n:=uZ g8
   refine gQ 4 ?_;refine a7 H (fun h9 H=>?_) (fun h9 H=>?_)
   ·refine gQ 4 ?_;refine eY H fun x11 x12 z10 H=>(dW (dD [4] (cK [aU pw.asE]) (dI [10] bS (dD [40] eE (dI [13] bG (dI [41,42] qY (dI [43] xR (dI [2] bG (dI [3] bG (dI [46] rSw (dI [39,44,45,47] (bC func113 (pD pw (aP x3.asO i6) p9 (aY (p7-1)) _ z10)) (dI [48] bG ?_))))))))))))
    iterate 2 refine dI [38] rEx ?_
    refine dI [49] bG (dI [50] bG (dN ?_))
    refine gQ 4 ?_;refine a7 H (fun h13 H=>?_) (fun h13 H=>?_)
    ·refine gQ 3 ?_;refine q1 (n0 ([(i6:Int)]:List Int)) (q1 bG (cQ H fun z14 H=>(q1 (jS z14) ?_)))
     exact gE 3
    exact gE 6
   exact gE 0
  have H:=lnE (sD g8) H
  exact gE 5
 rintro⟨⟩ H
 refine gQ 2 ?_;refine q1 (n0 ([]:List Int)) ?_;exact gE 3
def f7:Nat→aF→ByteArray→ByteArray→Int→Option ((List Int)×Bool)
 |0,_,_,_,_=>none
 |fu+1,pw,p0,p9,p7=>w6 fu (f7 fu) pw p0 p9 p7
theorem QL(fu:Nat):w7 (f7 fu):=by
 induction fu with
 |zero=>exact(fun pw p0 p9 p7 r H=>by simp only [f7] at H;cases H)
 |succ fu ih=>exact(fun pw p0 p9 p7 r H=>by simp only [f7] at H;exact OH fu (f7 fu) ih pw p0 p9 p7 r H)
theorem TW(fu:Nat):w7 (f7 fu):=(QL fu)
def mX(fu:Nat)(pw:aF)(p0 p9:ByteArray):Option ((List Int)×Bool):=bd (f7 fu pw p0 p9 8) fun(x2,x3)=>some (x2,x3)
theorem F6(fu:Nat)(pw:aF)(p0:ByteArray)(p9:ByteArray)(r:(List Int)×Bool)(H:mX fu pw p0 p9=some r):bP Tryz.prog 58 [(aF.pv pw),pS p0,pS p9] (.tup [rI r.1,pB r.2]):=by
 refine qJ func58 H (fun C hC H=>?_)
 refine gQ 2 ?_;refine q1 (iR ([aU pw.asE])) ?_;refine gQ 5 ?_;refine q1 (cK [aU pw.asE]) ?_;refine gQ 2 ?_;refine eY H fun x2 x3 z1 H=>(q1 (bC func113 (TW fu pw p0 p9 8 _ z1)) ?_)
 exact gE 5
abbrev yL:=aF→ByteArray→ByteArray→Int→Option ((List Int)×Bool)
def CZ(m:yL):Prop:= ∀(pw:aF) (p0:ByteArray) (p9:ByteArray) (p8:Int) (r:(List Int)×Bool),m pw p0 p9 p8=some r→bP Tryz.prog 154 [(aF.pv pw),pS p0,pS p9,pI p8] (.tup [rI r.1,pB r.2]:PV)
def FH(fu:Nat)(p5:yL)(pw:aF)(p0 p9:ByteArray)(p8:Int)(x4:aQ)(x5:Int)(x6:Bool):Nat→Unit→Option (LR Unit ((List Int)×Bool)):=fun i7 _=>bd (p5 pw (aP x4.asO i7) p9 (aY (p8-1))) fun(x11,x12)=>sw x12 (gd ((([(i7:Int)]:List Int)).length+x11.length≤68719476736) (some (.ret ((([(i7:Int)]:List Int)++x11),true)))) (some (.next ()))
def FI(fu:Nat)(p5:yL)(pw:aF)(p0 p9:ByteArray)(p8:Int)(x4:aQ)(x5:Int)(x6:Bool):Option (((List Int)×Bool)⊕Unit):=loopN (FH fu p5 pw p0 p9 p8 x4 x5 x6) (x4.asO.length-0) 0 ()
def CY(fu:Nat)(p5:yL)(pw:aF)(p0 p9:ByteArray)(p8:Int):Option ((List Int)×Bool):=sw (decide (p0=p9)) (some (([]),true)) (sw (decide (p8=0)) (some ([],false)) (bd (BN fu pw p0) fun(x4,x5,x6)=>so (FI fu p5 pw p0 p9 p8 x4 x5 x6) fun _=>some ([],false)))
theorem SP(fu:Nat)(p5:yL)(pE:CZ p5):CZ (CY fu p5):=by
 intro pw p0 p9 p8 r H
 refine qJ func154 H (fun C hC H=>?_)
 refine gQ 2 ?_;refine q1 (iR ([aU pw.asE])) ?_;refine gQ 10 ?_;refine a7 H (fun h1 H=>?_) (fun h1 H=>?_)
 ·refine gQ 2 ?_;refine q1 (n0 ([]:List Int)) ?_;exact gE 3
 refine gQ 7 ?_;refine a7 H (fun h2 H=>gE 5) fun h2 H=>?_;refine gQ 3 ?_;refine q1 (cK [aU pw.asE]) (q1 bG (PG H fun x4 x5 x6 z3 H=>(q1 (bC func115 (Q8 fu pw p0 _ z3)) ?_)))
 refine gQ 17 ?_;refine iG 31 (bI _) (fun hl8=>?_)
 try dsimp only at hl8
 refine bM (σ:=Unit) (fun i7 _=>⟨[(2,pS p9),(3,pI p8),(4,.ptr 0 0),(8,.nil),(9,pB false),(31,rS x4.asO),(32,pN x4.asO.length),(33,pN i7)],⟨[some ⟨26,[aU pw.asE]⟩,some ⟨156,nX x4⟩],[]⟩⟩) (fun _=>⟨[(8,.nil),(9,pB false)],⟨[some ⟨26,[aU pw.asE]⟩,some ⟨156,nX x4⟩],[]⟩⟩) (eR H) ?_ ?_
 ·rintro i7 ⟨⟩ H
  refine gQ 5 ?_;refine cW H (fun h9 h9l H=>?_) (fun h9 H=>?_)
  ·refine gQ 13 ?_;refine q1 (cK [aU pw.asE]) ?_;refine gQ 4 ?_;refine eY H fun x11 x12 z10 H=>(q1 (bC func154 (pE pw (aP x4.asO i7) p9 (aY (p8-1)) _ z10)) ?_)
   refine gQ 10 ?_;refine a7 H (fun h13 H=>?_) (fun h13 H=>?_)
   ·refine gQ 3 ?_;refine q1 (n0 ([(i7:Int)]:List Int)) (q1 bG (cQ H fun z14 H=>(q1 (jS z14) ?_)))
    exact gE 3
   exact gE 5
  exact gE 0
 rintro⟨⟩ H
 exact gE 5
def jT:Nat→aF→ByteArray→ByteArray→Int→Option ((List Int)×Bool)
 |0,_,_,_,_=>none
 |fu+1,pw,p0,p9,p8=>CY fu (jT fu) pw p0 p9 p8
theorem VH(fu:Nat):CZ (jT fu):=by
 induction fu with
 |zero=>exact(fun pw p0 p9 p8 r H=>by simp only [jT] at H;cases H)
 |succ fu ih=>exact(fun pw p0 p9 p8 r H=>by simp only [jT] at H;exact SP fu (jT fu) ih pw p0 p9 p8 r H)
theorem YF(fu:Nat):CZ (jT fu):=(VH fu)
def mU(fu:Nat)(pw:aF)(p0 p9:ByteArray):Option ((List Int)×Bool):=bd (jT fu pw p0 p9 8) fun(x2,x3)=>some (x2,x3)
theorem FG(fu:Nat)(pw:aF)(p0:ByteArray)(p9:ByteArray)(r:(List Int)×Bool)(H:mU fu pw p0 p9=some r):bP Tryz.prog 116 [(aF.pv pw),pS p0,pS p9] (.tup [rI r.1,pB r.2]):=by
 refine qJ func116 H (fun C hC H=>?_)
 refine gQ 2 ?_;refine q1 (iR ([aU pw.asE])) ?_;refine gQ 5 ?_;refine q1 (cK [aU pw.asE]) ?_;refine gQ 2 ?_;refine eY H fun x2 x3 z1 H=>(q1 (bC func154 (YF fu pw p0 p9 8 _ z1)) ?_)
 exact gE 5
end
end Go.Proofs.YtfcoaagbccmahaaGreat.W

namespace Go.Proofs.YtfcoaagbccmahaaGreat.W
set_option maxRecDepth 100000
set_option maxHeartbeats 40000000
noncomputable section
open Tryz Go.RowKit Go.Proofs
attribute [local irreducible] lt
def TX(fu:Nat)(pc d1:DS):Nat→((List aE)×DS)→Option (LR ((List aE)×DS) ((List aE)×DS)):=fun i3 (v6,v5)=>lt (v5.after ([a4,c3,cX]:LB).length) fun d9=>lt (v5.pick ([a4,c3,cX]:LB)) fun y11=>lt (d9.after ([eQ,t2]:LB).length) fun d13=>lt (d9.pick ([eQ,t2]:LB)) fun y15=>bd (kO fu y15) fun x18=>gd ((v6).length+(([(aE.mk y11 x18)]:List aE)).length≤68719476736) (some (.next ((v6++([(aE.mk y11 x18)]:List aE)),d13)))
def CH(fu:Nat)(pc:DS):Option ((List aE)×DS):=lt (pc.after 3) fun d1=>so (loopN (TX fu pc d1) (pc.below 3-0) 0 (([]),d1)) fun(v6,v5)=>some (v6,v5)
theorem TY(fu:Nat)(pc:DS)(r:(List aE)×DS)(H:CH fu pc=some r):cJ Tryz.prog 87 [.ptr 0 0] ⟨[some ⟨133,dC pc⟩],[]⟩ (fun q t=>q=(b4 r.1)∧t=⟨[some ⟨133,dC r.2⟩],[]⟩):=by
 refine qJ func87 H (fun C hC H=>?_)
 refine gQ 6 ?_;refine q1 (n0 ([]:List aE)) ?_;refine gQ 5 ?_;refine fI H fun d1 h2 H=>(q1 (eW [0] [] func73 (AU h2 (eT pc 3))) ?_)
 refine gQ 7 ?_
 have hb7:=DS.below_lt (d:=pc) (n:=3) (by decide)
 refine bM (σ:=(List aE)×DS) (fun i3 (v6,v5)=>⟨[(0,.ptr 0 0),(2,.nil),(3,R6 v6 0),(4,pN (pc.below 3)),(5,pN i3)],⟨[some ⟨133,dC v5⟩],[⟨32,4,aE.trs (v6),false⟩]⟩⟩) (fun(v6,v5)=>⟨[(2,.nil),(3,R6 v6 0)],⟨[some ⟨133,dC v5⟩],[⟨32,4,aE.trs (v6),false⟩]⟩⟩) (eR H) ?_ ?_
 ·rintro i3 ⟨v6,v5⟩ H
  refine gQ 7 ?_;refine cW H (fun h8 h8l H=>?_) (fun h8 H=>?_)
  ·have h8n:i3<pc.below 3:=by have:=of_decide_eq_true h8;omega
   refine gQ 6 ?_;refine q1 (gC ([a4,c3,cX]:LB)) (fI H fun d9 h10 H=>(fI H fun y11 h12 H=>(q1 (eW [0] [] func48 (DY h10 h12 (eA v5 ([a4,c3,cX]:LB) (by decide)))) (q1 bG (q1 (gC ([eQ,t2]:LB)) (fI H fun d13 h14 H=>(fI H fun y15 h16 H=>(q1 (eW [0] [] func48 (DY h14 h16 (eA d9 ([eQ,t2]:LB) (by decide)))) (bD H fun x18 z17 H=>(q1 (bC func137 (iP (hM fu) y15 _ z17)) (q1 nU (q1 (gC ([(aE.mk y11 x18)]:List aE)) (cQ H fun z19 H=>?_)))))))))))))
   refine q1 (jS z19) ?_;exact gE 7
  exact gE 0
 rintro⟨v6,v5⟩ H
 exact gE 5
def oM(fu:Nat)(p3:aF)(p1:List aE)(i1:Nat)(v3:List aH)(x9:LB):Nat→((List aH))→Option (LR ((List aH)) (LR ((List aH)) ((List aH)))):=fun i10 v12=>bd (mX fu p3 ((aP p1 i1).asN) (aP x9 i10)) fun(x16,x17)=>gd ((v12).length+(([(aH.mk (aE.mk (aP x9 i10) ((aP p1 i1).asH)) (i1:Int) x16)]:List aH)).length≤68719476736) (some (.next (v12++([(aH.mk (aE.mk (aP x9 i10) ((aP p1 i1).asH)) (i1:Int) x16)]:List aH))))
def tX(fu:Nat)(p3:aF)(p1:List aE):Nat→((List aH))→Option (LR ((List aH)) ((List aH))):=fun i1 v3=>gd (n3 ((aP p1 i1).asH)) (gd ((v3).length+(([(aH.mk (aE.mk ((aP p1 i1).asN) ((aP p1 i1).asH)) (i1:Int) [])]:List aH)).length≤68719476736) (bd (mW fu p3 ((aP p1 i1).asN)) fun x9=>so (loopN (oM fu p3 p1 i1 v3 x9) (x9.length-0) 0 (v3++([(aH.mk (aE.mk ((aP p1 i1).asN) ((aP p1 i1).asH)) (i1:Int) [])]:List aH))) fun v12=>some (.next v12)))
def nC(fu:Nat)(p3:aF)(p1:List aE):Option ((List aH)):=so (loopN (tX fu p3 p1) (p1.length-0) 0 ([])) fun v3=>some v3
theorem tY(fu:Nat)(p3:aF)(p1:List aE)(r:(List aH))(H:nC fu p3 p1=some r):bP Tryz.prog 15 [(aF.pv p3),b4 p1] (bY r):=by
 refine qJ func15 H (fun C hC H=>?_)
 refine gQ 2 ?_;refine q1 (iR ([aU p3.asE])) ?_;refine gQ 4 ?_;refine q1 (n0 ([]:List aH)) ?_;refine gQ 7 ?_;refine iG 1 (aE.trs_len _) (fun hl4=>?_)
 try dsimp only at hl4
 refine bM (σ:=(List aH)) (fun i1 v3=>⟨[(1,b4 p1),(2,.ptr 0 0),(4,.nil),(5,eN v3 0),(6,pN i1)],⟨[some ⟨26,[aU p3.asE]⟩],[⟨99,6,aH.trs (v3),false⟩]⟩⟩) (fun v3=>⟨[(4,.nil),(5,eN v3 0)],⟨[some ⟨26,[aU p3.asE]⟩],[⟨99,6,aH.trs (v3),false⟩]⟩⟩) (eR H) ?_ ?_
 ·rintro i1 v3 H
  refine gQ 8 ?_;refine cW H (fun h5 h5l H=>?_) (fun h5 H=>?_)
  ·refine gQ 4 ?_;refine cQ H fun z6 H=>(cQ H fun z7 H=>(dW (dI [5] bG (dI [1] bG (dI [6] bG (dI [19,20] qY (dI [21] y2 (dI [22] xR (dI [1] bG (dI [6] bG (dI [24,25] qY (dI [26] y2 (dI [27] (jB (aA.cs ((aP p1 i1).asH))) ?_)))))))))))))
   refine dI [28] (bC func56 (GJ ((aP p1 i1).asH) z6)) (dI [23,29] nU (dI [6] bG (dI [30,31] nU (dI [32] (gC ([(aH.mk (aE.mk ((aP p1 i1).asN) ((aP p1 i1).asH)) (i1:Int) [])]:List aH)) (dE [18,33] (jS z7) (dI [34] bG (dN (qS (bD H fun x9 z8 H=>(dW (dD [2] (cK [aU p3.asE]) (dI [1] bG (dI [6] bG ?_)))))))))))))
   refine dI [36,37] qY (dI [38] y2 (dI [39] xR (dI [35,40] (bC func57 (F1 fu p3 ((aP p1 i1).asN) _ z8)) (dI [41] bG (dN ?_)))))
   refine gQ 4 ?_;refine iG 7 (bI _) (fun hl13=>?_)
   try dsimp only at hl13
   refine bM (σ:=(List aH)) (fun i10 v12=>⟨[(1,b4 p1),(2,.ptr 0 0),(4,.nil),(5,eN v12 0),(6,pN i1),(7,rS x9),(8,pN i10),(12,pN i1),(13,b4 p1),(14,pN p1.length),(15,pB (decide ((i1:Int)<(p1.length:Int)))),(18,eN v3 0),(19,b4 p1),(20,pN i1),(21,.eptr (aE.cs (aP p1 i1))),(22,.eptr (aE.cs (aP p1 i1))),(23,pS ((aP p1 i1).asN)),(24,b4 p1),(25,pN i1),(26,.eptr (aE.cs (aP p1 i1))),(27,.eptr ((aE.cs (aP p1 i1)).drop 1)),(28,(aA.pv ((aP p1 i1).asH))),(29,(aA.pv ((aP p1 i1).asH))),(30,.agg [pS ((aP p1 i1).asN),pI (((aP p1 i1).asH).asJ),pS (((aP p1 i1).asH).asD),aX (((aP p1 i1).asH).asG)]),(31,pN i1),(32,.agg [pS ((aP p1 i1).asN),pI (((aP p1 i1).asH).asJ),pS (((aP p1 i1).asH).asD),aX (((aP p1 i1).asH).asG),pN i1,.nil]),(33,bY ([(aH.mk (aE.mk ((aP p1 i1).asN) ((aP p1 i1).asH)) (i1:Int) [])]:List aH)),(34,eN (v3++([(aH.mk (aE.mk ((aP p1 i1).asN) ((aP p1 i1).asH)) (i1:Int) [])]:List aH)) 0),(35,(aF.pv p3)),(36,b4 p1),(37,pN i1),(38,.eptr (aE.cs (aP p1 i1))),(39,.eptr (aE.cs (aP p1 i1))),(40,pS ((aP p1 i1).asN)),(41,rS x9)],⟨[some ⟨26,[aU p3.asE]⟩],[⟨99,6,aH.trs (v12),false⟩]⟩⟩) (fun v12=>⟨[(1,b4 p1),(2,.ptr 0 0),(4,.nil),(5,eN v12 0),(6,pN i1),(7,rS x9),(12,pN i1),(13,b4 p1),(14,pN p1.length),(15,pB (decide ((i1:Int)<(p1.length:Int)))),(18,eN v3 0),(19,b4 p1),(20,pN i1),(21,.eptr (aE.cs (aP p1 i1))),(22,.eptr (aE.cs (aP p1 i1))),(23,pS ((aP p1 i1).asN)),(24,b4 p1),(25,pN i1),(26,.eptr (aE.cs (aP p1 i1))),(27,.eptr ((aE.cs (aP p1 i1)).drop 1)),(28,(aA.pv ((aP p1 i1).asH))),(29,(aA.pv ((aP p1 i1).asH))),(30,.agg [pS ((aP p1 i1).asN),pI (((aP p1 i1).asH).asJ),pS (((aP p1 i1).asH).asD),aX (((aP p1 i1).asH).asG)]),(31,pN i1),(32,.agg [pS ((aP p1 i1).asN),pI (((aP p1 i1).asH).asJ),pS (((aP p1 i1).asH).asD),aX (((aP p1 i1).asH).asG),pN i1,.nil]),(33,bY ([(aH.mk (aE.mk ((aP p1 i1).asN) ((aP p1 i1).asH)) (i1:Int) [])]:List aH)),(34,eN (v3++([(aH.mk (aE.mk ((aP p1 i1).asN) ((aP p1 i1).asH)) (i1:Int) [])]:List aH)) 0),(35,(aF.pv p3)),(36,b4 p1),(37,pN i1),(38,.eptr (aE.cs (aP p1 i1))),(39,.eptr (aE.cs (aP p1 i1))),(40,pS ((aP p1 i1).asN)),(41,rS x9)],⟨[some ⟨26,[aU p3.asE]⟩],[⟨99,6,aH.trs (v12),false⟩]⟩⟩) (eR H) ?_ ?_
   ·rintro i10 v12 H
    refine gQ 8 ?_;refine cW H (fun h14 h14l H=>?_) (fun h14 H=>?_)
    ·refine gQ 4 ?_;refine eY H fun x16 x17 z15 H=>(dW (dD [2] (cK [aU p3.asE]) (dI [1] bG (dI [6] bG (dI [50,51] qY (dI [52] y2 (dI [53] xR (dI [7] bG (dI [8] bG (dI [55,56] qY (dI [57] xR (dI [49,54,58] (bC func58 (F6 fu p3 ((aP p1 i1).asN) (aP x9 i10) _ z15)) (dI [59] bG ?_)))))))))))))
     iterate 2 refine dI [48] rEx ?_
     refine dI [60] bG (dI [61] bG (dN (cQ H fun z18 H=>(dW (dI [5] bG (dI [7] bG (dI [8] bG (dI [63,64] qY (dI [65] xR (dI [1] bG (dI [6] bG (dI [67,68] qY (dI [69] y2 ?_)))))))))))))
     refine dI [70] (jB (aA.cs ((aP p1 i1).asH))) (dI [71] (bC func56 (GJ ((aP p1 i1).asH) z6)) (dI [66,72] nU (dI [6] bG (dI [9] bG (dI [73,74,75] nU (dI [76] (gC ([(aH.mk (aE.mk (aP x9 i10) ((aP p1 i1).asH)) (i1:Int) x16)]:List aH)) (dE [62,77] (jS z18) (dI [78] bG (dN ?_)))))))))
     exact gE 5
    exact gE 0
   rintro v12 H
   exact gE 5
  exact gE 0
 rintro v3 H
 exact gE 5
def oH(fu:Nat)(pw:aF)(p0:List aE)(i1:Nat)(v3:List aH)(x9:LB):Nat→((List aH))→Option (LR ((List aH)) (LR ((List aH)) ((List aH)))):=fun i10 v12=>bd (mU fu pw ((aP p0 i1).asN) (aP x9 i10)) fun(x16,x17)=>gd ((v12).length+(([(aH.mk (aE.mk (aP x9 i10) ((aP p0 i1).asH)) (i1:Int) x16)]:List aH)).length≤68719476736) (some (.next (v12++([(aH.mk (aE.mk (aP x9 i10) ((aP p0 i1).asH)) (i1:Int) x16)]:List aH))))
def tO(fu:Nat)(pw:aF)(p0:List aE):Nat→((List aH))→Option (LR ((List aH)) ((List aH))):=fun i1 v3=>gd (n3 ((aP p0 i1).asH)) (gd ((v3).length+(([(aH.mk (aE.mk ((aP p0 i1).asN) ((aP p0 i1).asH)) (i1:Int) [])]:List aH)).length≤68719476736) (bd (mS fu pw ((aP p0 i1).asN)) fun x9=>so (loopN (oH fu pw p0 i1 v3 x9) (x9.length-0) 0 (v3++([(aH.mk (aE.mk ((aP p0 i1).asN) ((aP p0 i1).asH)) (i1:Int) [])]:List aH))) fun v12=>some (.next v12)))
def q9(fu:Nat)(pw:aF)(p0:List aE):Option ((List aH)):=so (loopN (tO fu pw p0) (p0.length-0) 0 ([])) fun v3=>some v3
theorem LQ(fu:Nat)(pw:aF)(p0:List aE)(r:(List aH))(H:q9 fu pw p0=some r):bP Tryz.prog 99 [(aF.pv pw),b4 p0] (bY r):=by
 refine qJ func99 H (fun C hC H=>?_)
 refine gQ 2 ?_;refine q1 (iR ([aU pw.asE])) ?_;refine gQ 4 ?_;refine q1 (n0 ([]:List aH)) ?_;refine gQ 9 ?_;refine iG 1 (aE.trs_len _) (fun hl4=>?_)
 try dsimp only at hl4
 refine bM (σ:=(List aH)) (fun i1 v3=>⟨[(2,.ptr 0 0),(4,.nil),(5,eN v3 0),(13,b4 p0),(14,pN p0.length),(15,pN i1)],⟨[some ⟨26,[aU pw.asE]⟩],[⟨99,6,aH.trs (v3),false⟩]⟩⟩) (fun v3=>⟨[(4,.nil),(5,eN v3 0)],⟨[some ⟨26,[aU pw.asE]⟩],[⟨99,6,aH.trs (v3),false⟩]⟩⟩) (eR H) ?_ ?_
 ·rintro i1 v3 H
  refine gQ 5 ?_;refine cW H (fun h5 h5l H=>?_) (fun h5 H=>?_)
  ·refine gQ 7 ?_;refine q1 (jB (aE.cs (aP p0 i1))) ?_;refine gQ 5 ?_;refine cQ H fun z6 H=>(cQ H fun z7 H=>(dW (dI [5] bG (dI [7] bS (dD [21] eE (dI [7] bS (dD [23] (cK [pI (((aP p0 i1).asH).asJ),pS (((aP p0 i1).asH).asD),aX (((aP p0 i1).asH).asG)]) (dI [24] (bC func79 (zK ((aP p0 i1).asH) z6)) (dI [22,25] nU (dI [6] bG (dI [26,27] nU (dI [28] (gC ([(aH.mk (aE.mk ((aP p0 i1).asN) ((aP p0 i1).asH)) (i1:Int) [])]:List aH)) (dE [20,29] (jS z7) ?_)))))))))))))
   refine dI [30] bG (dN ?_)
   refine gQ 2 ?_;refine q1 (cK [aU pw.asE]) ?_;refine gQ 2 ?_;refine bD H fun x9 z8 H=>(q1 (bC func147 (FE fu pw ((aP p0 i1).asN) _ z8)) ?_)
   refine gQ 3 ?_;refine iG 34 (bI _) (fun hl13=>?_)
   try dsimp only at hl13
   refine bM (σ:=(List aH)) (fun i10 v12=>⟨[(2,.ptr 0 0),(4,.nil),(5,eN v12 0),(6,pN i1),(7,.ptr 1 0),(13,b4 p0),(14,pN p0.length),(15,pN i1),(16,pB (decide ((i1:Int)<(p0.length:Int)))),(17,pN i1),(18,.eptr (aE.cs (aP p0 i1))),(19,(aE.pv (aP p0 i1))),(20,eN v3 0),(21,.ptr 1 0),(22,pS ((aP p0 i1).asN)),(23,.ptr 1 1),(24,(aA.pv ((aP p0 i1).asH))),(25,(aA.pv ((aP p0 i1).asH))),(26,.agg [pS ((aP p0 i1).asN),pI (((aP p0 i1).asH).asJ),pS (((aP p0 i1).asH).asD),aX (((aP p0 i1).asH).asG)]),(27,pN i1),(28,.agg [pS ((aP p0 i1).asN),pI (((aP p0 i1).asH).asJ),pS (((aP p0 i1).asH).asD),aX (((aP p0 i1).asH).asG),pN i1,.nil]),(29,bY ([(aH.mk (aE.mk ((aP p0 i1).asN) ((aP p0 i1).asH)) (i1:Int) [])]:List aH)),(30,eN (v3++([(aH.mk (aE.mk ((aP p0 i1).asN) ((aP p0 i1).asH)) (i1:Int) [])]:List aH)) 0),(31,(aF.pv pw)),(32,.ptr 1 0),(33,pS ((aP p0 i1).asN)),(34,rS x9),(35,pN x9.length),(36,pN i10)],⟨[some ⟨26,[aU pw.asE]⟩,some ⟨32,eD (aP p0 i1)⟩],[⟨99,6,aH.trs (v12),false⟩]⟩⟩) (fun v12=>⟨[(2,.ptr 0 0),(4,.nil),(5,eN v12 0),(6,pN i1),(7,.ptr 1 0),(13,b4 p0),(14,pN p0.length),(15,pN i1),(16,pB (decide ((i1:Int)<(p0.length:Int)))),(17,pN i1),(18,.eptr (aE.cs (aP p0 i1))),(19,(aE.pv (aP p0 i1))),(20,eN v3 0),(21,.ptr 1 0),(22,pS ((aP p0 i1).asN)),(23,.ptr 1 1),(24,(aA.pv ((aP p0 i1).asH))),(25,(aA.pv ((aP p0 i1).asH))),(26,.agg [pS ((aP p0 i1).asN),pI (((aP p0 i1).asH).asJ),pS (((aP p0 i1).asH).asD),aX (((aP p0 i1).asH).asG)]),(27,pN i1),(28,.agg [pS ((aP p0 i1).asN),pI (((aP p0 i1).asH).asJ),pS (((aP p0 i1).asH).asD),aX (((aP p0 i1).asH).asG),pN i1,.nil]),(29,bY ([(aH.mk (aE.mk ((aP p0 i1).asN) ((aP p0 i1).asH)) (i1:Int) [])]:List aH)),(30,eN (v3++([(aH.mk (aE.mk ((aP p0 i1).asN) ((aP p0 i1).asH)) (i1:Int) [])]:List aH)) 0),(31,(aF.pv pw)),(32,.ptr 1 0),(33,pS ((aP p0 i1).asN)),(34,rS x9),(35,pN x9.length)],⟨[some ⟨26,[aU pw.asE]⟩,some ⟨32,eD (aP p0 i1)⟩],[⟨99,6,aH.trs (v12),false⟩]⟩⟩) (eR H) ?_ ?_
   ·rintro i10 v12 H
    refine gQ 5 ?_;refine cW H (fun h14 h14l H=>?_) (fun h14 H=>?_)
    ·refine gQ 11 ?_;refine q1 (cK [aU pw.asE]) ?_;refine gQ 3 ?_;refine eY H fun x16 x17 z15 H=>(q1 (bC func116 (FG fu pw ((aP p0 i1).asN) (aP x9 i10) _ z15)) ?_)
     refine gQ 10 ?_;refine q1 (cK [pI (((aP p0 i1).asH).asJ),pS (((aP p0 i1).asH).asD),aX (((aP p0 i1).asH).asG)]) (q1 (bC func79 (zK ((aP p0 i1).asH) z6)) ?_)
     refine gQ 4 ?_;refine q1 (gC ([(aH.mk (aE.mk (aP x9 i10) ((aP p0 i1).asH)) (i1:Int) x16)]:List aH)) (cQ H fun z18 H=>(q1 (jS z18) ?_))
     exact gE 6
    exact gE 0
   rintro v12 H
   exact gE 4
  exact gE 0
 rintro v3 H
 exact gE 5
def uO(fu:Nat)(pa pb:aE):Option Bool:=sw (decide (pa.asN=pb.asN)) (some (aA.eq pa.asH pb.asH)) (some false)
theorem PZ(fu:Nat)(pa:aE)(pb:aE)(r:Bool)(H:uO fu pa pb=some r):bP Tryz.prog 55 [(aE.pv pa),(aE.pv pb)] (pB r):=by
 refine qJ func55 H (fun C hC H=>?_)
 refine gQ 2 ?_;refine q1 (iR (eD pa)) (q1 (iR (eD pb)) ?_)
 refine gQ 10 ?_;refine dF 10 H (fun g1 H=>?_) fun g1 H=>?_
 ·refine qg g1 bS (qg g1 (cK [pI pa.asH.asJ,pS pa.asH.asD,aX pa.asH.asG]) (qg g1 bS (qg g1 (cK [pI pb.asH.asJ,pS pb.asH.asD,aX pb.asH.asG]) (qg g1 (bC func38 (EN pa.asH pb.asH)) ?_))))
  exact gE 3
 exact gE 8
def vP(fu:Nat)(p2:List aH)(pg:aE):Nat→Unit→Option (LR Unit Int):=fun i1 _=>lt (aP p2 i1) fun y4=>bd (uO fu y4.as4 pg) fun x7=>sw x7 (some (.ret (i1:Int))) (some (.next ()))
def iM(fu:Nat)(p2:List aH)(pg:aE):Option Int:=so (loopN (vP fu p2 pg) (p2.length-0) 0 ()) fun _=>some (-1)
theorem lV(fu:Nat)(p2:List aH)(pg:aE)(r:Int)(H:iM fu p2 pg=some r):bP Tryz.prog 14 [bY p2,(aE.pv pg)] (pI r):=by
 refine qJ func14 H (fun C hC H=>?_)
 refine gQ 2 ?_;refine q1 (iR (eD pg)) ?_;refine gQ 7 ?_;refine iG 0 (aH.trs_len _) (fun hl2=>?_)
 try dsimp only at hl2
 refine bM (σ:=Unit) (fun i1 _=>⟨[(0,bY p2),(3,.ptr 0 0),(4,pI 0),(5,pN i1)],⟨[some ⟨32,eD pg⟩],[]⟩⟩) (fun _=>⟨[(4,pI 0)],⟨[some ⟨32,eD pg⟩],[]⟩⟩) (eR H) ?_ ?_
 ·rintro i1 ⟨⟩ H
  refine gQ 8 ?_;refine cW H (fun h3 h3l H=>?_) (fun h3 H=>?_)
  ·refine gQ 4 ?_;refine fI H fun y4 h5 H=>(bD H fun x7 z6 H=>(dW (dI [0] bG (dI [5] bG (dI [12,13] (uG h5 h3l) (dI [14] y2 (dI [15] (jB (aE.cs y4.as4)) (dD [3] (cK [pS pg.asN,pI pg.asH.asJ,pS pg.asH.asD,aX pg.asH.asG]) (dI [16,17] (bC func55 (PZ fu y4.as4 pg _ z6)) (dN ?_))))))))))
   refine a7 H (fun h8 H=>gE 5) fun h8 H=>?_;exact gE 6
  exact gE 0
 rintro⟨⟩ H
 exact gE 4
def uK(fu:Nat)(pa pb:aE):Option Bool:=sw (decide (pa.asN=pb.asN)) (some (aA.eq pa.asH pb.asH)) (some false)
theorem PK(fu:Nat)(pa:aE)(pb:aE)(r:Bool)(H:uK fu pa pb=some r):bP Tryz.prog 84 [(aE.pv pa),(aE.pv pb)] (pB r):=by
 refine qJ func84 H (fun C hC H=>?_)
 refine gQ 2 ?_;refine q1 (iR (eD pa)) (q1 (iR (eD pb)) ?_)
 refine gQ 10 ?_;refine dF 10 H (fun g1 H=>?_) fun g1 H=>?_
 ·refine qg g1 bS (qg g1 (cK [pI pa.asH.asJ,pS pa.asH.asD,aX pa.asH.asG]) (qg g1 bS (qg g1 (cK [pI pb.asH.asJ,pS pb.asH.asD,aX pb.asH.asG]) (qg g1 (bC func95 (EK pa.asH pb.asH)) ?_))))
  exact gE 3
 exact gE 8
def nY(fu:Nat)(pa:aH)(c1:aE):Option Bool:=bd (uK fu pa.as4 c1) fun x2=>some x2
theorem BK(fu:Nat)(pa:aH)(c1:aE)(r:Bool)(H:nY fu pa c1=some r):cJ Tryz.prog 149 [(aH.pv pa),.ptr 0 0] ⟨[some ⟨32,eD c1⟩],[]⟩ (fun q t=>q=(pB r)∧t=⟨[some ⟨32,eD c1⟩],[]⟩):=by
 refine qJ func149 H (fun C hC H=>?_)
 refine gQ 2 ?_;refine q1 (iR ([pS pa.as4.asN,pI pa.as4.asH.asJ,pS pa.as4.asH.asD,aX pa.as4.asH.asG,pI pa.atJ,rI pa.atI])) ?_;refine gQ 5 ?_;refine q1 (cK [pS pa.as4.asN,pI pa.as4.asH.asJ,pS pa.as4.asH.asD,aX pa.as4.asH.asG]) (q1 (cK [pS c1.asN,pI c1.asH.asJ,pS c1.asH.asD,aX c1.asH.asG]) (bD H fun x2 z1 H=>(q1 (bC func84 (PK fu pa.as4 c1 _ z1)) ?_)))
 exact gE 2
def gB(fu:Nat)(ps:List aH)(c1_0:aE):Nat→Unit→Option (LR Unit Int):=fun i1 _=>lt (aP ps i1) fun y4=>bd (nY fu y4 c1_0) fun x7=>sw x7 (some (.ret (i1:Int))) (some (.next ()))
def eG(fu:Nat)(ps:List aH)(c1_0:aE):Option Int:=so (loopN (gB fu ps c1_0) (ps.length-0) 0 ()) fun _=>some (-1)
theorem lI(fu:Nat)(ps:List aH)(c1_0:aE)(r:Int)(H:eG fu ps c1_0=some r):cJ Tryz.prog 148 [bY ps,.fn 149 [.ptr 0 0]] ⟨[some ⟨32,eD c1_0⟩],[]⟩ (fun q t=>q=(pI r)∧t=⟨[some ⟨32,eD c1_0⟩],[]⟩):=by
 refine qJ func148 H (fun C hC H=>?_)
 refine gQ 11 ?_;refine iG 0 (aH.trs_len _) (fun hl2=>?_)
 try dsimp only at hl2
 refine bM (σ:=Unit) (fun i1 _=>⟨[(0,bY ps),(1,.fn 149 [.ptr 0 0]),(4,pI 0),(7,pN ps.length),(8,pN i1)],⟨[some ⟨32,eD c1_0⟩],[]⟩⟩) (fun _=>⟨[(4,pI 0)],⟨[some ⟨32,eD c1_0⟩],[]⟩⟩) (eR H) ?_ ?_
 ·rintro i1 ⟨⟩ H
  refine gQ 5 ?_;refine cW H (fun h3 h3l H=>?_) (fun h3 H=>?_)
  ·refine gQ 13 ?_;refine fI H fun y4 h5 H=>(q1 (uG h5 h3l) (q1 (jB (aH.cs y4)) (bD H fun x7 z6 H=>(q1 (a5.callVPE (pre:=⟨[some ⟨32,eD c1_0⟩],[]⟩) (st':=⟨[some ⟨32,eD c1_0⟩],[]⟩) (ps:= [_]) (cs:= [.ptr 0 0]) (qs:= [(aH.pv y4),.ptr 0 0]) [0] [] rfl rfl rfl func149 (by kernel_rfl) rfl rfl rfl (eX.of ⟨⟨_,rfl,rfl,jH,rfl⟩,trivial⟩ trivial (by decide) (by decide)) jH rfl rfl rfl (BK fu y4 c1_0 _ z6)) (qN ?_)))))
   refine a7 H (fun h8 H=>gE 5) fun h8 H=>?_;exact gE 5
  exact gE 0
 rintro⟨⟩ H
 exact gE 4
def mT(fu:Nat)(p2:List aH)(pg:aE):Option Int:=bd (eG fu p2 pg) fun x2=>some x2
theorem FF(fu:Nat)(p2:List aH)(pg:aE)(r:Int)(H:mT fu p2 pg=some r):bP Tryz.prog 101 [bY p2,(aE.pv pg)] (pI r):=by
 refine qJ func101 H (fun C hC H=>?_)
 refine gQ 2 ?_;refine q1 (iR (eD pg)) ?_;refine gQ 5 ?_;refine q1 rMf (bD H fun x2 z1 H=>(q1 (eW [0] [] func148 (lI fu p2 pg _ z1)) ?_))
 exact gE 2
end
end Go.Proofs.YtfcoaagbccmahaaGreat.W

namespace Go.Proofs.YtfcoaagbccmahaaGreat.W
open Go.RowKit Go.WalkArith
def xK(l:List aN)(v:ByteArray):aA:=match BD l v with
 |some b=>b.asH
 |none=> .mk 0 ⟨#[]⟩ []
def BU(l:List aN)(v:ByteArray):Bool:=(BD l v).isSome
theorem ad3(l:List aN)(v:ByteArray)(hb:DR l):bP Tryz.prog 151 [.t (.row 4 (aN.trs l)),.t (.leaf (.string v))] (.tup [(aA.pv (xK l v)),.t (.leaf (.bool (BU l v)))]):=by
 refine Y1 0 l v (xK l v,BU l v) ?_
 rw [Y0 0 l v hb]
 unfold xK BU
 cases BD l v<;>rfl
end Go.Proofs.YtfcoaagbccmahaaGreat.W

namespace Go.Proofs.YtfcoaagbccmahaaGreat.W
set_option maxRecDepth 100000
set_option maxHeartbeats 40000000
noncomputable section
open Tryz Go.RowKit Go.Proofs
attribute [local irreducible] lt
abbrev yK:=(List aN)→aA→Option aA
abbrev qD:=(List aN)→(List aA)→Option ((List aA))
def BJ(m:yK):Prop:= ∀(p0:List aN) (pt:aA) (r:aA),m p0 pt=some r→bP Tryz.prog 16 [kA p0,(aA.pv pt)] ((aA.pv r):PV)
def wN(m:qD):Prop:= ∀(p0:List aN) (p3:List aA) (r:(List aA)),m p0 p3=some r→bP Tryz.prog 60 [kA p0,aX p3] (aX r:PV)
def M6(fu:Nat)(p4:yK)(p1:qD)(p0:List aN)(pt:aA):Option aA:=sw (decide (pt.asJ=1)) (bd (CX fu p0 pt.asD) fun(x3,x4)=>sw x4 (some x3) (bd (p1 p0 pt.asG) fun x7=>some (aA.mk pt.asJ pt.asD x7))) (bd (p1 p0 pt.asG) fun x9=>some (aA.mk pt.asJ pt.asD x9))
theorem VB(fu:Nat)(p4:yK)(p1:qD)(p8:BJ p4)(p6:wN p1):BJ (M6 fu p4 p1):=by
 intro p0 pt r H
 refine qJ func16 H (fun C hC H=>?_)
 refine gQ 2 ?_;refine q1 (iR (cN pt)) ?_;refine gQ 9 ?_;refine a7 H (fun h1 H=>?_) (fun h1 H=>?_)
 ·refine gQ 5 ?_;refine eY H fun x3 x4 z2 H=>(q1 (bC func59 (YD fu p0 pt.asD _ z2)) ?_)
  refine gQ 11 ?_;refine a7 H (fun h5 H=>?_) (fun h5 H=>?_)
  ·refine gQ 2 ?_;refine q1 (cK [pI x3.asJ,pS x3.asD,aX x3.asG]) ?_;exact gE 2
  refine gQ 2 ?_;refine bD H fun x7 z6 H=>(dW (dI [3] bS (dD [19] eE (dI [3] bS (dD [21] eE (dI [0] bG (dI [3] bS (dD [24] eE (dI [23,25] (bC func60 (p6 p0 pt.asG _ z6)) (dI [20,22,26] nU (kS [4,27] jP (dN ?_))))))))))))
  exact gE 0
 refine gQ 2 ?_;refine bD H fun x9 z8 H=>(dW (dI [3] bS (dD [19] eE (dI [3] bS (dD [21] eE (dI [0] bG (dI [3] bS (dD [24] eE (dI [23,25] (bC func60 (p6 p0 pt.asG _ z8)) (dI [20,22,26] nU (kS [4,27] jP (dN ?_))))))))))))
 exact gE 0
def HK(fu:Nat)(p4:yK)(p1:qD)(p0:List aN)(p3:List aA):Nat→((List aA))→Option (LR ((List aA)) ((List aA))):=fun i2 v3=>bd (p4 p0 (aP p3 i2)) fun x7=>gd (i2=(v3).length) (some (.next (v3++([x7]:List aA))))
def BI(fu:Nat)(p4:yK)(p1:qD)(p0:List aN)(p3:List aA):Option ((List aA)):=gd (p3.length≤68719476736) (so (loopN (HK fu p4 p1 p0 p3) (p3.length-0) 0 ([])) fun v3=>gd ((v3).length=p3.length) (some v3))
theorem M5(fu:Nat)(p4:yK)(p1:qD)(p8:BJ p4)(p6:wN p1):wN (BI fu p4 p1):=by
 intro p0 p3 r H
 refine qJ func60 H (fun C hC H=>?_)
 refine gQ 8 ?_;refine cQ H fun z1 H=>(q1 (a5.makeSlice (N:=p3.length) rfl rfl rfl rfl adD.h ahY.h (by decide) (Nat.le_trans (Nat.mul_le_mul_left _ z1) (by decide)) (Nat.le_trans z1 (by decide))) ?_)
 refine gQ 9 ?_;refine iG 1 (aA.trs_len _) (fun hl4=>?_)
 refine bM (σ:=(List aA)) (fun i2 v3=>⟨[(0,kA p0),(4,.nil),(5,.full 3 (p3.length) 0),(11,aX p3),(12,pN p3.length),(13,pN i2)],⟨[],[⟨30,3,aA.trs (v3),true⟩]⟩⟩) (fun v3=>⟨[(4,.nil),(5,.full 3 (p3.length) 0)],⟨[],[⟨30,3,aA.trs (v3),true⟩]⟩⟩) (eR H) ?_ ?_
 ·rintro i2 v3 H
  refine gQ 5 ?_;refine cW H (fun h5 h5l H=>?_) (fun h5 H=>?_)
  ·refine gQ 7 ?_;refine q1 (jB (aA.cs (aP p3 i2))) ?_;refine gQ 8 ?_;refine q1 (cK [pI ((aP p3 i2).asJ),pS ((aP p3 i2).asD),aX ((aP p3 i2).asG)]) (bD H fun x7 z6 H=>(q1 (bC func16 (p8 p0 (aP p3 i2) _ z6)) (q1 (a5.indexFull (k:=i2) rfl rfl rfl rfl h5l adD.h) (cQ H fun z8 H=>?_))))
   refine q1 (a5.storeRptr (e:=aA.cs x7) (es2:=aA.trs (v3++([x7]:List aA))) 18 rfl rfl rfl rfl rfl rfl jH rfl rfl ahS.h (by rw [aA.trs_len];exact z8) h5l (by rw [aA.trs_map,aA.trs_map,List.map_append];simp [aA.tr_cs])) ?_;exact gE 5
  exact gE 0
 rintro v3 H
 refine gQ 3 ?_;refine cQ H fun z9 H=>?_;refine AL.weak (Wk.full (i:=25) rfl rfl (by rw [aA.trs_len];exact z9)) ?_;exact gE 2
mutual
def m5:Nat→(List aN)→aA→Option aA
 |0,_,_=>none
 |fu+1,p0,pt=>M6 fu (m5 fu) (j0 fu) p0 pt
def j0:Nat→(List aN)→(List aA)→Option ((List aA))
 |0,_,_=>none
 |fu+1,p0,p3=>BI fu (m5 fu) (j0 fu) p0 p3
end
theorem YA(fu:Nat):BJ (m5 fu)∧wN (j0 fu):=by
 induction fu with
 |zero=>exact⟨(fun p0 pt r H=>by simp only [m5] at H;cases H),(fun p0 p3 r H=>by simp only [j0] at H;cases H)⟩
 |succ fu ih=>exact⟨(fun p0 pt r H=>by simp only [m5] at H;exact VB fu (m5 fu) (j0 fu) ih.1 ih.2 p0 pt r H),(fun p0 p3 r H=>by simp only [j0] at H;exact M5 fu (m5 fu) (j0 fu) ih.1 ih.2 p0 p3 r H)⟩
theorem abR(fu:Nat):BJ (m5 fu):=(YA fu).1
abbrev yO:=(List aN)→aA→Option aA
abbrev qM:=(List aN)→(List aA)→Option ((List aA))
def BY(m:yO):Prop:= ∀(p0:List aN) (pt:aA) (r:aA),m p0 pt=some r→bP Tryz.prog 110 [kA p0,(aA.pv pt)] ((aA.pv r):PV)
def wT(m:qM):Prop:= ∀(p0:List aN) (p3:List aA) (r:(List aA)),m p0 p3=some r→bP Tryz.prog 152 [kA p0,aX p3] (aX r:PV)
def NV(fu:Nat)(p5:yO)(p2:qM)(p0:List aN)(pt:aA):Option aA:=sw (decide (pt.asJ=1)) (gd (DR p0) (sw (BU p0 pt.asD) (some (xK p0 pt.asD)) (bd (p2 p0 pt.asG) fun x5=>some (aA.mk pt.asJ pt.asD x5)))) (bd (p2 p0 pt.asG) fun x7=>some (aA.mk pt.asJ pt.asD x7))
theorem VV(fu:Nat)(p5:yO)(p2:qM)(p9:BY p5)(p7:wT p2):BY (NV fu p5 p2):=by
 intro p0 pt r H
 refine qJ func110 H (fun C hC H=>?_)
 refine gQ 2 ?_;refine q1 (iR (cN pt)) ?_;refine gQ 9 ?_;refine a7 H (fun h1 H=>?_) (fun h1 H=>?_)
 ·refine gQ 5 ?_;refine cQ H fun z2 H=>(q1 (bC func151 (ad3 p0 pt.asD z2)) ?_)
  refine gQ 11 ?_;refine a7 H (fun h3 H=>?_) (fun h3 H=>?_)
  ·refine gQ 2 ?_;refine q1 (cK [pI ((xK p0 pt.asD).asJ),pS ((xK p0 pt.asD).asD),aX ((xK p0 pt.asD).asG)]) ?_;exact gE 2
  refine gQ 2 ?_;refine bD H fun x5 z4 H=>(dW (dI [3] bS (dD [19] eE (dI [3] bS (dD [21] eE (dI [0] bG (dI [3] bS (dD [24] eE (dI [23,25] (bC func152 (p7 p0 pt.asG _ z4)) (dI [20,22,26] nU (kS [4,27] jP (dN ?_))))))))))))
  exact gE 0
 refine gQ 2 ?_;refine bD H fun x7 z6 H=>(dW (dI [3] bS (dD [19] eE (dI [3] bS (dD [21] eE (dI [0] bG (dI [3] bS (dD [24] eE (dI [23,25] (bC func152 (p7 p0 pt.asG _ z6)) (dI [20,22,26] nU (kS [4,27] jP (dN ?_))))))))))))
 exact gE 0
def HW(fu:Nat)(p5:yO)(p2:qM)(p0:List aN)(p3:List aA):Nat→((List aA))→Option (LR ((List aA)) ((List aA))):=fun i1 v3=>bd (p5 p0 (aP p3 i1)) fun x7=>gd ((v3).length+(([x7]:List aA)).length≤68719476736) (some (.next (v3++([x7]:List aA))))
def BX(fu:Nat)(p5:yO)(p2:qM)(p0:List aN)(p3:List aA):Option ((List aA)):=so (loopN (HW fu p5 p2 p0 p3) (p3.length-0) 0 ([])) fun v3=>some v3
theorem NU(fu:Nat)(p5:yO)(p2:qM)(p9:BY p5)(p7:wT p2):wT (BX fu p5 p2):=by
 intro p0 p3 r H
 refine qJ func152 H (fun C hC H=>?_)
 refine gQ 6 ?_;refine q1 (n0 ([]:List aA)) ?_;refine gQ 7 ?_;refine iG 1 (aA.trs_len _) (fun hl4=>?_)
 refine bM (σ:=(List aA)) (fun i1 v3=>⟨[(0,kA p0),(1,aX p3),(4,.nil),(5,fW v3 0),(6,pN i1)],⟨[],[⟨30,3,aA.trs (v3),false⟩]⟩⟩) (fun v3=>⟨[(4,.nil),(5,fW v3 0)],⟨[],[⟨30,3,aA.trs (v3),false⟩]⟩⟩) (eR H) ?_ ?_
 ·rintro i1 v3 H
  refine gQ 8 ?_;refine cW H (fun h5 h5l H=>?_) (fun h5 H=>?_)
  ·refine gQ 9 ?_;refine q1 (jB (aA.cs (aP p3 i1))) (bD H fun x7 z6 H=>(q1 (bC func110 (p9 p0 (aP p3 i1) _ z6)) (q1 (gC ([x7]:List aA)) (cQ H fun z8 H=>(q1 (jS z8) ?_)))))
   exact gE 7
  exact gE 0
 rintro v3 H
 exact gE 5
mutual
def nB:Nat→(List aN)→aA→Option aA
 |0,_,_=>none
 |fu+1,p0,pt=>NV fu (nB fu) (kC fu) p0 pt
def kC:Nat→(List aN)→(List aA)→Option ((List aA))
 |0,_,_=>none
 |fu+1,p0,p3=>BX fu (nB fu) (kC fu) p0 p3
end
theorem YY(fu:Nat):BY (nB fu)∧wT (kC fu):=by
 induction fu with
 |zero=>exact⟨(fun p0 pt r H=>by simp only [nB] at H;cases H),(fun p0 p3 r H=>by simp only [kC] at H;cases H)⟩
 |succ fu ih=>exact⟨(fun p0 pt r H=>by simp only [nB] at H;exact VV fu (nB fu) (kC fu) ih.1 ih.2 p0 pt r H),(fun p0 p3 r H=>by simp only [kC] at H;exact NU fu (nB fu) (kC fu) ih.1 ih.2 p0 p3 r H)⟩
theorem ab7(fu:Nat):BY (nB fu):=(YY fu).1
end
end Go.Proofs.YtfcoaagbccmahaaGreat.W

namespace Go.Proofs.YtfcoaagbccmahaaGreat
open Go.RowKit Go.WalkArith Go.IntWalk Go.WideShapes
section
variable {P:Program} {C:lL} {n:Nat} {s:AS} {o:Oper} {x y:Operand} {T T':TypeId}
theorem a5.minI{a b:Int}(ho:o.op= .call { callee:= .builtin .min,args:= #[x,y],argTypes:= #[T,T'] })(hd:bA o.dst n=true)(hx:s.ev x=some (pI a))(hy:s.ev y=some (pI b)):a5 P C n o s (s.putO o.dst (pI (min a b))):=
 a5.quiet (cE hd) fun m a' w h=>by
  obtain⟨h1,h3⟩:=b5.leaf_eq (h.eval hx)
  obtain⟨h2,h4⟩:=b5.leaf_eq (h.eval hy)
  have he:(if b<a then b else a)=min a b:=by rw [Int.min_def];split<;>split<;>omega
  refine⟨.int .i64 (min a b),?_,b5.leaf ?_⟩
  ·unfold execOp
   simp [ho,resolve,invoke,builtin,h1,h2,Builtin.min_,Builtin.min2,he]
  ·rw [← he]
   split
   ·exact h4
   ·exact h3
end
section
variable {P:Program} {C:lL} {n:Nat} {s:AS} {o:Oper} {x y:Operand} {T T':TypeId}
theorem rMn{a b:Nat}(ho:o.op= .call { callee:= .builtin .min,args:= #[x,y],argTypes:= #[T,T'] }:=by exact rfl)(hd:bA o.dst n=true:=by exact rfl)(hx:s.ev x=some (pN a):=by exact rfl)(hy:s.ev y=some (pN b):=by exact rfl):a5 P C n o s (s.putO o.dst (pN (min a b))):=by
 have h:=a5.minI (P:=P) (C:=C) ho hd hx hy
 have e:(min (a:Int) (b:Int))=((min a b:Nat):Int):=by omega
 rw [e] at h
 exact h
end
section
variable {P:Program} {C:lL} {n:Nat} {s:AS} {o:Oper} {Q:Exit→AS→Prop}
theorem AL.nilQ{ops:Array Oper}{rest:List Oper}{T yT t:TypeId}{x:Operand}{sz:Nat}{es:List (List Tr)}(hT:P.underlying T=some (.slice t))(h: ∀b:Bool,(b=true→es= [])→AL P C n ops rest Q (s.putO o.dst (.t (.leaf (.bool b)))))
 (ho:o.op= .binOp .eql T x (.const (.slice none 0 0)) yT:=by exact rfl) (hd:bA o.dst n=true:=by exact rfl) (hx:s.ev x=some (.t (.row sz es)):=by exact rfl) (hg:o.guard=none:=by exact rfl):AL P C n ops (o::rest) Q s:=fun m a w hr=>by
 have hv:=hr.eval hx
 have hv':b5 _ w (.row sz es) (a.eval x):=hv
 have key: ∃A cap,a.eval x= .slice A es.length cap∧(A.isNone=true→es= []):=by
  generalize a.eval x=v at hv'
  cases hv' with
  |row c h1 h2 h3 h4=>
   refine⟨_,_,rfl,fun hn=>?_⟩
   cases es with
   |nil=>rfl
   |cons e l=>
    obtain⟨b,off,ha,_⟩:=h3 (by simp)
    rw [ha] at hn
    cases hn
 obtain⟨A,cap,hA,hb⟩:=key
 refine wpList_plain hg fun K hK=>?_
 have hrun:(execOp a.eval o).run P w= .ok (.value (.bool A.isNone)) w:=by
  have h1:=Lib.run_eql_slice_nil (P:=P) w T t A es.length cap 0 0 hT
  unfold execOp
  simp only [ho,hA]
  have h2:a.eval (.const (.slice none 0 0))= .slice none 0 0:=rfl
  simp only [h2]
  rw [Sem.run_bind]
  simp [eqGuard,h1]
 unfold Oper.wp
 rw [hrun]
 exact hK _ w (h A.isNone hb m _ w (hr.put (cE hd) (b5.leaf (by trivial))))
end
section
variable {P:Program} {C:lL} {n:Nat} {s:AS}
end
end Go.Proofs.YtfcoaagbccmahaaGreat

namespace Go.Proofs.YtfcoaagbccmahaaGreat
open Go.RowKit Go.WalkArith Go.IntWalk Go.WideShapes
section
variable {av:Nat→Nat→Prop} {s st':cM} {m m':iF} {w w':World} {ks:List Nat} {rs:List mP}
end
section
variable {P:Program} {C:lL} {n:Nat} {s:AS} {o:Oper}
section
variable {f:FuncId} {fn:Func} {xs:List Operand} {ts:Array TypeId} {ps qs:List PV} {r0 r1 r2:mP}
end
end
section
variable {P:Program} {C:lL} {n:Nat} {s:AS} {o:Oper}
end
section
variable {P:Program} {C:lL} {n:Nat} {s:AS} {o:Oper}
end
end Go.Proofs.YtfcoaagbccmahaaGreat

namespace Go.Proofs.YtfcoaagbccmahaaGreat.W
set_option maxRecDepth 100000
set_option maxHeartbeats 40000000
noncomputable section
open Go.RowKit Go.Proofs
attribute [local irreducible] lt
end
end Go.Proofs.YtfcoaagbccmahaaGreat.W

namespace Go.Proofs.YtfcoaagbccmahaaGreat
open Go.RowKit Go.WalkArith Go.IntWalk Go.WideShapes
theorem U9(l:List aA)(hl:l.length≤68719476735):xA Tryz.prog 107 [aX l] ⟨[],[]⟩ [] 30 3 (aA.trs l) (fun k=> .acc 3 (aA.trs l) k):=by
 unfold xA
 refine qI Tryz.func107 (fun C hC=>?_)
 refine gQ 8 ?_;refine AL.nilQ Tryz.underlying28 (fun b hb=>?_)
 refine gQ 1 ?_;refine cF.cond (b:=b) rfl (fun hb'=>?_) (fun hb'=>?_)
 ·obtain rfl:l= []:=by
   have:=hb hb'
   cases l with
   |nil=>rfl
   |cons a l=>simp [aA.trs] at this
  refine gQ 4 ?_;refine cF.wk (Wk.reg (i:=2) 30 3 (by decide) rfl) (cF.ret ?_)
  exact NQ (st':=⟨[],[⟨30,3,aA.trs [],false⟩]⟩) ⟨0,rfl,rfl,rfl⟩
 refine gQ 3 ?_;refine q1 (n0 ([]:List aA)) (q1 bG (q1 (jS (a:= []) (b:=l) (by simpa using Nat.le_succ_of_le hl)) ?_))
 refine gQ 2 ?_;refine cF.ret ?_;exact NQ (st':=⟨[],[⟨30,3,aA.trs l,false⟩]⟩) ⟨0,rfl,rfl,rfl⟩
end Go.Proofs.YtfcoaagbccmahaaGreat

namespace Go.Proofs.YtfcoaagbccmahaaGreat.W
open Go.RowKit Go.Proofs
mutual
def jQ(l:List aN):aA→aA
 | .mk k n xs=>if k=1 then(if BU l n=true then xK l n else .mk k n (BB l xs)) else .mk k n (BB l xs)
def BB(l:List aN):List aA→List aA
 | []=> []
 |x::r=>jQ l x::BB l r
end
theorem zE(l:List aN): ∀xs,BB l xs=xs.map (jQ l)
 | []=>rfl
 |x::r=>by rw [BB,zE l r,List.map_cons]
theorem SY{l:List aN}{xs:List aA}(hb:xs.length≤68719476735)(h: ∀x∈xs,bL fun fu=>nB fu l x=some (jQ l x)):bL fun fu=>kC fu l xs=some (BB l xs):=by
 refine bL.succ ((bL.list h).imp fun fu hf=>?_)
 simp only [kC,BX]
 rw [FW (g:=jQ l) fun i s hi hp=>?_,zE]
 ·rfl
 ·rw [HW,wD (hf _ (dO hi)) rfl,rR (by simp;omega) rfl]
theorem ab5{l:List aN}(hl:DR l): ∀t:aA,n3 t→bL fun fu=>nB fu l t=some (jQ l t):=by
 refine aA.ind fun k n xs ih hb=>?_
 have h1:=hb.len
 refine bL.succ ((SY (l:=l) (xs:=xs) h1 fun x hx=>ih x hx (G3 (t:= .mk k n xs) hx hb)).imp fun fu hf=>?_)
 simp only [nB,NV,aA.asJ.eq_1,aA.asD.eq_1,aA.asG.eq_1,hf,jQ]
 by_cases hk:k=1
 ·rw [if_pos hk]
  refine GS (decide_eq_true hk) (rR hl ?_)
  cases BU l n<;>rfl
 ·rw [if_neg hk]
  exact ET (decide_eq_false hk) rfl
theorem ab6(l:List aN)(t:aA)(hl:DR l)(hb:n3 t):bP Tryz.prog 110 [.t (.row 4 (aN.trs l)),(aA.pv t)] (aA.pv (jQ l t)):=by
 obtain⟨fu,h⟩:=(ab5 hl t hb).get
 exact ab7 fu l t _ h
theorem SJ{l:List aN}{xs:List aA}(hb:xs.length≤68719476735)(h: ∀x∈xs,bL fun fu=>m5 fu l x=some (jQ l x)):bL fun fu=>j0 fu l xs=some (BB l xs):=by
 refine bL.succ ((bL.list h).imp fun fu hf=>?_)
 simp only [j0,BI]
 refine rR (by omega) ?_
 rw [FW (g:=jQ l) fun i s hi hp=>?_,zE]
 ·exact rR (by simp) rfl
 ·rw [HK,wD (hf _ (dO hi)) rfl,rR hp.symm rfl]
theorem abQ{l:List aN}(hl:DR l): ∀t:aA,n3 t→bL fun fu=>m5 fu l t=some (jQ l t):=by
 refine aA.ind fun k n xs ih hb=>?_
 have h1:=hb.len
 refine bL.succ ((SJ (l:=l) (xs:=xs) h1 fun x hx=>ih x hx (G3 (t:= .mk k n xs) hx hb)).imp fun fu hf=>?_)
 simp only [m5,M6,aA.asJ.eq_1,aA.asD.eq_1,aA.asG.eq_1,hf,jQ]
 by_cases hk:k=1
 ·rw [if_pos hk,YC fu l n hl]
  refine GS (decide_eq_true hk) ?_
  unfold BU xK
  cases BD l n<;>rfl
 ·rw [if_neg hk]
  exact ET (decide_eq_false hk) rfl
theorem Q3(l:List aN)(t:aA)(hl:DR l)(hb:n3 t):bP Tryz.prog 16 [.t (.row 4 (aN.trs l)),(aA.pv t)] (aA.pv (jQ l t)):=by
 obtain⟨fu,h⟩:=(abQ hl t hb).get
 exact abR fu l t _ h
end Go.Proofs.YtfcoaagbccmahaaGreat.W

namespace Go.Proofs.YtfcoaagbccmahaaGreat.W
open Go.RowKit Go.Proofs
attribute [local irreducible] lt
theorem HJ{l:LB}{s:ByteArray}:xE l s=true↔s∈l:=by
 unfold xE
 rw [List.any_eq_true]
 constructor
 ·rintro⟨x,hx,h⟩
  rw [decide_eq_true_eq] at h
  exact h ▸ hx
 ·exact fun h=>⟨s,h,decide_eq_true rfl⟩
def wL(w:aF):LB:=w.asE.flatMap fun p=>p.asQ.flatMap fun t=>t.asO
theorem SF{α β:Type}[Wt α](f:α→List β)(h: ∀x,(f x).length≤wt x): ∀l:List α,(l.flatMap f).length≤wl l
 | []=>Nat.zero_le _
 |x::l=>by
  rw [List.flatMap_cons,List.length_append,aaZ]
  have:=h x
  have:=SF f h l
  omega
theorem U2{w:aF}(hw:wt w≤13000000):(wL w).length≤13000000:=by
 have h:=SF (fun p:aK=>p.asQ.flatMap fun t=>t.asO) (fun p=>by
  have h1:=SF (fun t:aQ=>t.asO) (fun t=>by
   have:=aQ.wt_eq t
   have:=aZ t.asO
   omega) p.asQ
  have:=aK.wt_eq p
  omega) w.asE
 have:=aF.wt_eq w
 unfold wL
 omega
theorem IP{w:aF}{n s:ByteArray}(h:s∈(vC w n).1.asO):s∈wL w:=by
 unfold vC at h
 cases hq:(List.range' 0 w.asE.length).findSome? (tQ w n) with
 |none=>rw [hq] at h;cases h
 |some r=>
  rw [hq] at h
  obtain⟨i,hi,hq⟩:=List.exists_of_findSome?_eq_some hq
  unfold tQ at hq
  obtain⟨k,hk,hq⟩:=List.exists_of_findSome?_eq_some hq
  rw [List.mem_range'_1] at hi hk
  split at hq
  ·cases hq
   exact List.mem_flatMap.2 ⟨_,dO (by omega:i<w.asE.length),List.mem_flatMap.2 ⟨_,dO (by omega:k<(aP w.asE i).asQ.length),h⟩⟩
  ·cases hq
def zQ(U:LB)(v:LB):Nat:=U.countP fun s=> !xE v s
theorem VM{U v v':LB}(h: ∀x∈v,x∈v'):zQ U v'≤zQ U v:=by
 refine List.countP_mono_left fun x _ hx=>?_
 rw [Bool.not_eq_true',Bool.eq_false_iff,ne_eq,HJ] at hx ⊢
 exact fun k=>hx (h x k)
theorem RE{v:LB}{s:ByteArray}(hn:xE v s=false): ∀ {U:LB},s∈U→zQ U (v++ [s])<zQ U v
 |x::U,h=>by
  have hm:=VM (U:=U) (v:=v) (v':=v++ [s]) fun x hx=>List.mem_append_left _ hx
  unfold zQ at hm ⊢
  rw [List.countP_cons,List.countP_cons]
  by_cases hx:x=s
  ·subst hx
   have h1:xE (v++ [x]) x=true:=HJ.2 (by simp)
   rw [h1,hn]
   simp only [Bool.not_true,Bool.not_false,if_true]
   simp
   omega
  ·have ih:=RE hn (U:=U) (by
    rcases List.mem_cons.1 h with h|h
    ·exact absurd h.symm hx
    ·exact h)
   unfold zQ at ih
   have h1:(if(!xE (v++ [s]) x)=true then 1 else 0)≤(if(!xE v x)=true then 1 else 0:Nat):=by
    cases hq:xE v x with
    |true=>
     have:xE (v++ [s]) x=true:=HJ.2 (List.mem_append_left _ (HJ.1 hq))
     rw [this]
     exact Nat.le_refl _
    |false=>cases xE (v++ [s]) x<;>simp
   omega
def IM(w:aF):Nat→LB→ByteArray→LB
 |0,out,_=>out
 |n+1,out,name=>(vC w name).1.asO.foldl (fun v s=>if xE v s=true then v else IM w n (v++ [s]) s) out
def X1(w:aF)(m:Nat)(v:LB):Prop:=v.length+zQ (wL w) v≤13000000∧zQ (wL w) v≤m
theorem Q0{σ α:Type}(P:σ→Prop){g:σ→α→σ}: ∀ {l:List α} {v:σ},(∀v x,x∈l→P v→P (g v x))→P v→P (l.foldl g v)
 | [],v,_,h=>h
 |x::l,v,hs,h=>Q0 P (l:=l) (fun v y hy=>hs v y (List.mem_cons_of_mem _ hy)) (hs v x (by simp) h)
theorem H2{w:aF}{m:Nat}{v:LB}{s:ByteArray}(h:X1 w m v)(hs:s∈wL w)(hn:xE v s=false):X1 w (m-1) (v++ [s])∧0<m∧v.length<13000000:=by
 have h1:=RE hn hs
 obtain⟨h2,h3⟩:=h
 refine⟨⟨?_,by omega⟩,by omega,by omega⟩
 rw [List.length_append,List.length_singleton]
 omega
theorem X1.le{w:aF}{m k:Nat}{v:LB}(h:X1 w m v)(hk:m≤k):X1 w k v:=⟨h.1,Nat.le_trans h.2 hk⟩
theorem IN{w:aF}: ∀n m out name,X1 w m out→X1 w m (IM w n out name)
 |0,m,out,name,h=>h
 |n+1,m,out,name,h=>by
  rw [IM]
  refine Q0 (X1 w m) (fun v s hs hv=>?_) h
  split
  ·exact hv
  ·rename_i hn
   exact(IN n (m-1) _ s (H2 hv (IP hs) (by simpa using hn)).1).le (by omega)
theorem aaO{w:aF}: ∀n m out name,X1 w m out→13000001+m<n→fR n w out name=some (IM w n out name)
 |0,m,out,name,_,h=>by omega
 |n+1,m,out,name,h,hn=>by
  rw [fR,IM]
  unfold vJ
  rw [Q7]
  show so (loopN (tP n (fR n) w out name (vC w name).1 (vC w name).2.1 (vC w name).2.2) ((vC w name).1.asO.length-0) 0 out) _=_
  rw [qL (l:=(vC w name).1.asO) (g:=fun v s=>if xE v s=true then v else IM w n (v++ [s]) s) (fun _ v=>X1 w m v) (fun i v hi hv=>by
   unfold tP
   have hs:=IP (dO hi)
   generalize aP (vC w name).1.asO i=s at hs ⊢
   rw [SG]
   show sw (!xE v s) _ _=_∧_
   cases hq:xE v s with
   |true=>exact⟨rfl,hv⟩
   |false=>
    obtain⟨k1,k2,k3⟩:=H2 hv hs hq
    exact⟨rR (by simp only [List.length_singleton];omega) (wD (aaO n (m-1) _ s k1 (by omega)) rfl),(IN n (m-1) _ s k1).le (by omega)⟩) h]
  rfl
theorem aaT{w:aF}(hw:wt w≤13000000): ∀n m out name,X1 w m out→13000001+m<n→iE n w name out=some (IM w n out name)
 |0,m,out,name,_,h=>by omega
 |n+1,m,out,name,h,hn=>by
  rw [iE,IM]
  unfold AH
  rw [B4 n w name (aF.small_wt hw (by omega))]
  show so (loopN (xP n (iE n) w name out (vC w name).1 (vC w name).2.1 (vC w name).2.2) ((vC w name).1.asO.length-0) 0 out) _=_
  rw [qL (l:=(vC w name).1.asO) (g:=fun v s=>if xE v s=true then v else IM w n (v++ [s]) s) (fun _ v=>X1 w m v) (fun i v hi hv=>by
   unfold xP
   have hs:=IP (dO hi)
   generalize aP (vC w name).1.asO i=s at hs ⊢
   rw [RK]
   show sw (!xE v s) _ _=_∧_
   cases hq:xE v s with
   |true=>exact⟨rfl,hv⟩
   |false=>
    obtain⟨k1,k2,k3⟩:=H2 hv hs hq
    exact⟨rR (by simp only [List.length_singleton];omega) (wD (aaT hw n (m-1) _ s k1 (by omega)) rfl),(IN n (m-1) _ s k1).le (by omega)⟩) h]
  rfl
def t6(fu:Nat)(w:aF)(name:ByteArray):LB:=IM w fu [] name
theorem MJ{w:aF}(hw:wt w≤13000000):X1 w 13000000 []:=by
 have h:=U2 hw
 have h1:zQ (wL w) []≤(wL w).length:=List.countP_le_length
 refine⟨?_,?_⟩
 ·rw [List.length_nil];omega
 ·omega
theorem X8{fu:Nat}{w:aF}(hw:wt w≤13000000)(hf:27000000≤fu)(name:ByteArray):mS fu w name=some (t6 fu w name):=by
 unfold mS t6
 rw [aaO fu 13000000 [] name (MJ hw) (by omega)]
 rfl
theorem YX{fu:Nat}{w:aF}(hw:wt w≤13000000)(hf:27000000≤fu)(name:ByteArray):mW fu w name=some (t6 fu w name):=by
 unfold mW t6
 rw [aaT hw fu 13000000 [] name (MJ hw) (by omega)]
 rfl
theorem O3{fu:Nat}{w:aF}(hw:wt w≤13000000)(name:ByteArray):(t6 fu w name).length≤13000000:=by
 have h:=(IN fu 13000000 [] name (MJ hw)).1
 unfold t6
 omega
def IL(w:aF)(a:ByteArray)(f:ByteArray→List Int×Bool)(i:Nat):Option (List Int×Bool):=if(f (aP (vC w a).1.asO i)).2=true then some ([((i:Nat):Int)]++(f (aP (vC w a).1.asO i)).1,true) else none
def mB(w:aF):Nat→ByteArray→ByteArray→List Int×Bool
 |0,a,b=>if a=b then([],true) else([],false)
 |k+1,a,b=>if a=b then([],true) else((List.range' 0 (vC w a).1.asO.length).findSome? (IL w a fun s=>mB w k s b)).getD ([],false)
theorem JS(w:aF): ∀k a b,(mB w k a b).1.length≤k
 |0,a,b=>by rw [mB];split<;>exact Nat.le_refl _
 |k+1,a,b=>by
  rw [mB]
  split
  ·exact Nat.zero_le _
  ·cases h:(List.range' 0 (vC w a).1.asO.length).findSome? (IL w a fun s=>mB w k s b) with
   |none=>exact Nat.zero_le _
   |some r=>
    obtain⟨i,hi,h⟩:=List.exists_of_findSome?_eq_some h
    unfold IL at h
    split at h
    ·cases h
     have:=JS w k (aP (vC w a).1.asO i) b
     show([((i:Nat):Int)]++(mB w k (aP (vC w a).1.asO i) b).1).length≤_
     rw [List.length_append,List.length_singleton]
     omega
    ·cases h
theorem VF{w:aF}: ∀k n a b,k≤8→k<n→jT n w a b ((k:Nat):Int)=some (mB w k a b)
 |k,0,a,b,_,h=>by omega
 |0,n+1,a,b,hk,hn=>by
  rw [jT,mB]
  unfold CY
  by_cases h:a=b
  ·rw [if_pos h];exact GS (decide_eq_true h) rfl
  ·rw [if_neg h];exact ET (decide_eq_false h) (GS rfl rfl)
 |k+1,n+1,a,b,hk,hn=>by
  rw [jT,mB]
  unfold CY
  by_cases h:a=b
  ·rw [if_pos h];exact GS (decide_eq_true h) rfl
  ·rw [if_neg h]
   refine ET (decide_eq_false h) (ET (decide_eq_false (by omega)) ?_)
   rw [Q7]
   have hl:=lT (f:=FH n (jT n) w a b ((k+1:Nat):Int) (vC w a).1 (vC w a).2.1 (vC w a).2.2) (q:=IL w a fun s=>mB w k s b) (fun r=>r) (s:=()) (n:=(vC w a).1.asO.length) (fun i hi=>by
    unfold FH IL
    generalize aP (vC w a).1.asO i=s
    have h1:=JS w k s b
    rw [show aY (((k+1:Nat):Int)-1)=((k:Nat):Int) from by rw [aa0 (by omega) (by omega)];omega,VF k n s b (by omega) (by omega)]
    show sw (mB w k s b).2 _ _=_
    cases h2:(mB w k s b).2 with
    |true=>exact rR (by simp only [List.length_singleton];omega) (by rw [if_pos rfl])
    |false=>rw [if_neg (by simp)];rfl) _ 0 rfl
   show so (FI n (jT n) w a b ((k+1:Nat):Int) (vC w a).1 (vC w a).2.1 (vC w a).2.2) _=_
   unfold FI
   refine(congrArg (fun x=>so x _) hl).trans ?_
   simp only [Nat.sub_zero]
   cases(List.range' 0 (vC w a).1.asO.length).findSome? (IL w a fun s=>mB w k s b)<;>rfl
theorem adI(fu:Nat)(hf:100≤fu)(w:aF)(a b:ByteArray):mU fu w a b=some (mB w 8 a b):=by
 unfold mU
 rw [show(8:Int)=((8:Nat):Int) from rfl,VF 8 fu a b (by omega) (by omega)]
 rfl
theorem VX{w:aF}(hw:wt w≤13000000): ∀k n a b,k≤8→13000001+k<n→f7 n w a b ((k:Nat):Int)=some (mB w k a b)
 |k,0,a,b,_,h=>by omega
 |0,n+1,a,b,hk,hn=>by
  rw [f7,mB]
  unfold w6
  by_cases h:a=b
  ·rw [if_pos h];exact GS (decide_eq_true h) rfl
  ·rw [if_neg h]
   refine ET (decide_eq_false h) ?_
   rw [B4 n w a (aF.small_wt hw (by omega))]
   show so (rP n (f7 n) w a b ((0:Nat):Int) (vC w a).1 (vC w a).2.1 (vC w a).2.2) _=_
   unfold rP
   cases hz:(vC w a).1.asO.length-0 with
   |zero=>rw [loopN];rfl
   |succ m=>
    rw [loopN]
    unfold uS
    rfl
 |k+1,n+1,a,b,hk,hn=>by
  rw [f7,mB]
  unfold w6
  by_cases h:a=b
  ·rw [if_pos h];exact GS (decide_eq_true h) rfl
  ·rw [if_neg h]
   refine ET (decide_eq_false h) ?_
   rw [B4 n w a (aF.small_wt hw (by omega))]
   have hl:=lT (f:=uS n (f7 n) w a b ((k+1:Nat):Int) (vC w a).1 (vC w a).2.1 (vC w a).2.2) (q:=IL w a fun s=>mB w k s b) (fun r=>r) (s:=()) (n:=(vC w a).1.asO.length) (fun i hi=>by
    unfold uS IL
    generalize aP (vC w a).1.asO i=s
    have h1:=JS w k s b
    refine GS (decide_eq_true (by omega)) ?_
    rw [show aY (((k+1:Nat):Int)-1)=((k:Nat):Int) from by rw [aa0 (by omega) (by omega)];omega,VX hw k n s b (by omega) (by omega)]
    show sw (mB w k s b).2 _ _=_
    cases h2:(mB w k s b).2 with
    |true=>exact rR (by simp only [List.length_singleton];omega) (by rw [if_pos rfl])
    |false=>rw [if_neg (by simp)];rfl) _ 0 rfl
   show so (rP n (f7 n) w a b ((k+1:Nat):Int) (vC w a).1 (vC w a).2.1 (vC w a).2.2) _=_
   unfold rP
   refine(congrArg (fun x=>so x _) hl).trans ?_
   simp only [Nat.sub_zero]
   cases(List.range' 0 (vC w a).1.asO.length).findSome? (IL w a fun s=>mB w k s b)<;>rfl
theorem ad4{fu:Nat}{w:aF}(hw:wt w≤13000000)(hf:27000000≤fu)(a b:ByteArray):mX fu w a b=some (mB w 8 a b):=by
 unfold mX
 rw [show(8:Int)=((8:Nat):Int) from rfl,VX hw 8 fu a b (by omega) (by omega)]
 rfl
end Go.Proofs.YtfcoaagbccmahaaGreat.W

namespace Go.Proofs.YtfcoaagbccmahaaGreat.W
open Go.RowKit Go.Proofs
theorem I2(a b:ByteArray):(a==b)=decide (a=b):=by
 by_cases h:a=b
 ·subst h
  rw [vH]
  simp
 ·rw [zH h]
  simp [h]
theorem aA.eq_iff: ∀a b:aA,aA.eq a b=true↔a=b:=by
 refine aA.ind fun k n xs ih b=>?_
 obtain⟨l,m,ys⟩:=b
 have hL: ∀(l r:List aA),(∀x∈l,∀y,aA.eq x y=true↔x=y)→(aA.eqs l r=true↔l=r):=by
  intro l
  induction l with
  |nil=>intro r _;cases r<;>simp [aA.eqs]
  |cons x l ihl=>
   intro r hx
   cases r with
   |nil=>simp [aA.eqs]
   |cons y r=>
    rw [aA.eqs,Bool.and_eq_true,hx x (by simp) y,ihl r (fun z hz=>hx z (List.mem_cons_of_mem _ hz)),List.cons.injEq]
 rw [aA.eq,Bool.and_eq_true,Bool.and_eq_true,hL xs ys ih,I2,decide_eq_true_eq,beq_iff_eq]
 constructor
 ·rintro⟨rfl,rfl,rfl⟩;rfl
 ·intro h;cases h;exact⟨rfl,rfl,rfl⟩
end Go.Proofs.YtfcoaagbccmahaaGreat.W

namespace Go.Proofs.YtfcoaagbccmahaaGreat.W
open Go.RowKit Go.Proofs
attribute [local irreducible] lt
def xX(fu:Nat)(w:aF)(i:Nat)(b:aE):List aH:=
 [aH.mk (aE.mk b.asN b.asH) ((i:Nat):Int) []]++(List.range' 0 (t6 fu w b.asN).length).map fun k=>aH.mk (aE.mk (aP (t6 fu w b.asN) k) b.asH) ((i:Nat):Int) (mB w 8 b.asN (aP (t6 fu w b.asN) k)).1
def PF(fu:Nat)(w:aF)(l:List aE):List aH:=(List.range' 0 l.length).flatMap fun i=>xX fu w i (aP l i)
theorem abK{fu:Nat}{w:aF}(hw:wt w≤13000000)(i:Nat)(b:aE):(xX fu w i b).length≤13000001:=by
 have h:=O3 (fu:=fu) hw b.asN
 unfold xX
 rw [List.length_append,List.length_singleton,List.length_map,List.length_range']
 omega
theorem U8{α:Type}{f:Nat→List α}{M:Nat}(h: ∀i,(f i).length≤M): ∀k j,((List.range' j k).flatMap f).length≤M*k
 |0,j=>by simp
 |k+1,j=>by
  rw [List.range'_succ,List.flatMap_cons,List.length_append,Nat.mul_succ]
  have:=h j
  have:=U8 h k (j+1)
  omega
theorem U3{fu:Nat}{w:aF}(hw:wt w≤13000000){l:List aE}(hl:l.length≤1000):(PF fu w l).length≤13000001*1000:=by
 have h:=U8 (f:=fun i=>xX fu w i (aP l i)) (M:=13000001) (fun i=>abK hw i _) l.length 0
 unfold PF
 exact Nat.le_trans h (Nat.mul_le_mul_left _ hl)
section
variable {fu:Nat} {w:aF} (hw:wt w≤13000000) (hf:27000000≤fu) {l:List aE} (hl:l.length≤1000) (hb: ∀b∈l,n3 b.asH)
include hw hf hl hb
theorem aeW:q9 fu w l=some (PF fu w l):=by
 have h:=FX (F:=tO fu w l) (g:=fun i=>xX fu w i (aP l i)) (n:=l.length) (M:=68719476736) (fun i v hi hv=>by
  have hB:=hb _ (dO hi)
  have hs:=O3 (fu:=fu) hw (aP l i).asN
  have h2:=yN (F:=oH fu w l i v (t6 fu w (aP l i).asN)) (g:=fun k=>aH.mk (aE.mk (aP (t6 fu w (aP l i).asN) k) (aP l i).asH) ((i:Nat):Int) (mB w 8 (aP l i).asN (aP (t6 fu w (aP l i).asN) k)).1) (n:=(t6 fu w (aP l i).asN).length) (M:=68719476736) (fun k u hk hu=>by
   unfold oH
   rw [adI fu (by omega)]
   exact rR hu rfl) _ 0 (v++ [aH.mk (aE.mk (aP l i).asN (aP l i).asH) ((i:Nat):Int) []]) rfl (by
   unfold xX at hv
   rw [List.length_append,List.length_singleton,List.length_map,List.length_range'] at hv
   rw [List.length_append,List.length_singleton]
   omega)
  unfold tO
  refine rR hB (rR (by
   unfold xX at hv
   rw [List.length_append,List.length_singleton] at hv
   rw [List.length_singleton]
   omega) ?_)
  rw [X8 hw hf]
  show so (loopN (oH fu w l i v (t6 fu w (aP l i).asN)) ((t6 fu w (aP l i).asN).length-0) 0 _) _=_
  rw [h2]
  unfold xX
  rw [List.append_assoc]
  rfl) _ 0 [] rfl (by
  have:=U3 (fu:=fu) hw hl
  unfold PF at this
  rw [List.length_nil,Nat.zero_add,Nat.sub_zero]
  omega)
 unfold q9
 rw [h]
 rfl
theorem aaS:nC fu w l=some (PF fu w l):=by
 have h:=FX (F:=tX fu w l) (g:=fun i=>xX fu w i (aP l i)) (n:=l.length) (M:=68719476736) (fun i v hi hv=>by
  have hB:=hb _ (dO hi)
  have hs:=O3 (fu:=fu) hw (aP l i).asN
  have h2:=yN (F:=oM fu w l i v (t6 fu w (aP l i).asN)) (g:=fun k=>aH.mk (aE.mk (aP (t6 fu w (aP l i).asN) k) (aP l i).asH) ((i:Nat):Int) (mB w 8 (aP l i).asN (aP (t6 fu w (aP l i).asN) k)).1) (n:=(t6 fu w (aP l i).asN).length) (M:=68719476736) (fun k u hk hu=>by
   unfold oM
   rw [ad4 hw hf]
   exact rR hu rfl) _ 0 (v++ [aH.mk (aE.mk (aP l i).asN (aP l i).asH) ((i:Nat):Int) []]) rfl (by
   unfold xX at hv
   rw [List.length_append,List.length_singleton,List.length_map,List.length_range'] at hv
   rw [List.length_append,List.length_singleton]
   omega)
  unfold tX
  refine rR hB (rR (by
   unfold xX at hv
   rw [List.length_append,List.length_singleton] at hv
   rw [List.length_singleton]
   omega) ?_)
  rw [YX hw hf]
  show so (loopN (oM fu w l i v (t6 fu w (aP l i).asN)) ((t6 fu w (aP l i).asN).length-0) 0 _) _=_
  rw [h2]
  unfold xX
  rw [List.append_assoc]
  rfl) _ 0 [] rfl (by
  have:=U3 (fu:=fu) hw hl
  unfold PF at this
  rw [List.length_nil,Nat.zero_add,Nat.sub_zero]
  omega)
 unfold nC
 rw [h]
 rfl
end
def DU(l:List aH)(g:aE):Int:=match l.findIdx? (fun a=>aE.eq a.as4 g) with
 |some i=>((i:Nat):Int)
 |none=> -1
theorem YB(fu:Nat)(a b:aE):uK fu a b=some (aE.eq a b):=by
 obtain⟨n,x⟩:=a
 obtain⟨m,y⟩:=b
 unfold uK
 rw [aE.eq,I2]
 show sw (decide (n=m)) (some (aA.eq x y)) (some false)=_
 cases decide (n=m)<;>rfl
theorem Q4(fu:Nat)(l:List aH)(g:aE):mT fu l g=some (DU l g):=by
 unfold mT eG DU
 rw [wR (p:=fun a=>aE.eq a.as4 g) (fun i hi=>by
  unfold gB nY
  refine YN rfl ?_
  rw [YB]
  show sw (aE.eq (aP l i).as4 g) _ _=_
  cases aE.eq (aP l i).as4 g<;>rfl)]
 cases l.findIdx? fun a=>aE.eq a.as4 g<;>rfl
end Go.Proofs.YtfcoaagbccmahaaGreat.W

namespace Go.Proofs.YtfcoaagbccmahaaGreat.W
open Go.RowKit Go.WalkArith Go.IntWalk Go.WideShapes Go.Proofs
attribute [local irreducible] lt
theorem M3{σ α:Type}(P:σ→Prop){g h:σ→α→σ}: ∀ {l:List α} {v:σ},(∀v x,x∈l→P v→g v x=h v x∧P (g v x))→P v→l.foldl g v=l.foldl h v
 | [],v,_,_=>rfl
 |x::l,v,hs,hv=>by
  obtain⟨e,hp⟩:=hs v x (by simp) hv
  rw [List.foldl_cons,List.foldl_cons,← e]
  exact M3 P (fun v y hy=>hs v y (List.mem_cons_of_mem _ hy)) hp
theorem RR{w:aF}: ∀n m out name,X1 w m out→m<n→IM w (n+1) out name=IM w n out name
 |0,m,out,name,_,h=>by omega
 |n+1,m,out,name,h,hn=>by
  rw [IM,IM]
  refine M3 (X1 w m) (fun v s hs hv=>?_) h
  cases hq:xE v s with
  |true=>exact⟨rfl,hv⟩
  |false=>
   obtain⟨k1,k2,k3⟩:=H2 hv (IP hs) hq
   refine⟨?_,?_⟩
   ·rw [if_neg (by simp),if_neg (by simp)]
    exact RR n (m-1) _ s k1 (by omega)
   ·rw [if_neg (by simp)]
    exact(IN (n+1) (m-1) _ s k1).le (by omega)
theorem RS{w:aF}(hw:wt w≤13000000)(name:ByteArray): ∀k,t6 (27000000+k) w name=t6 27000000 w name
 |0=>rfl
 |k+1=>(RR (27000000+k) 13000000 [] name (MJ hw) (by omega)).trans (RS hw name k)
theorem QV{fu:Nat}{w:aF}(hw:wt w≤13000000)(hf:27000000≤fu)(l:List aE):PF fu w l=PF 27000000 w l:=by
 have h:t6 fu w=t6 27000000 w:=funext fun name=>by
  have:=RS hw name (fu-27000000)
  rwa [show 27000000+(fu-27000000)=fu by omega] at this
 unfold PF xX
 rw [h]
def GZ(w:aF)(l:List aE):List aH:=PF 27000000 w l
structure QU (w:aF) (l:List aE):Prop where
 hw:wt w≤13000000
 hl:l.length≤1000
 ht: ∀b∈l,n3 b.asH
set_option maxRecDepth 100000 in
theorem SV(w:aF)(l:List aE)(h:QU w l):acV Tryz.prog 50 [(aF.pv w),b4 l] 145 [aU w.asE,bY (GZ w l)]:=by
 have hA:q9 27000000 w l=some (GZ w l):=aeW h.hw (Nat.le_refl _) h.hl h.ht
 unfold acV
 refine qI Tryz.func50 (fun C hC=>?_)
 refine gQ 2 ?_;refine q1 (iR ([aU w.asE])) (q1 (a5.moveAny (.inl rfl)) ?_)
 refine gQ 2 ?_;refine dW (dD [2] (cK [aU w.asE]) (dD [2] (cK [aU w.asE]) (dI [1] bG (dI [6,7] (bC Tryz.func99 (LQ 27000000 w l _ hA)) (dI [5,8] nU (dE [9] (iR [aU w.asE,bY (GZ w l)]) (dI [10] bG (dN ?_))))))))
 refine cF.ret ?_;exact xB.mk (ps:= [_]) (.inr rfl) ⟨rfl,trivial⟩ rfl (oU.mk' (st':=⟨[none,some ⟨145,[aU w.asE,bY (GZ w l)]⟩],[]⟩) ⟨⟨rfl,jH,rfl⟩,trivial⟩ rfl) (RD hC) (q:= .ptr 1 0) (.refl _) rfl ⟨1,rfl,rfl,fun i x hx=>by rcases i with _|_|i<;>simp at hx<;>simp,rfl⟩
end Go.Proofs.YtfcoaagbccmahaaGreat.W
