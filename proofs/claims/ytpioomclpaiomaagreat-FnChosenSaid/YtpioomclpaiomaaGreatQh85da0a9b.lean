/- Words, rules and walks of several kinds, laid together: WCands, MaGnd, WGround, MaSel2, MaCpI, MaLChosen, WEq, WSel, WMore, OkF3, OkF4, OkF1, WCopy, WLChosen. No conditions but those that each theorem states. -/
import Derived.Test.YtpioomclpaiomaaGreatQh8fabc4e5
import Derived.Test.YtpioomclpaiomaaGreatQh91360b55
import Derived.Test.YtpioomclpaiomaaGreatQhb69edcc7
import Derived.Test.YtpioomclpaiomaaGreatQh54773eaf
import Derived.Test.YtpioomclpaiomaaGreatQh981ab51f
import Derived.Test.YtpioomclpaiomaaGreatQhc7ed0efd
set_option linter.unusedSimpArgs false
set_option linter.unusedVariables false
namespace Go.Proofs.YtpioomclpaiomaaGreat.W
set_option linter.unusedSimpArgs false
set_option linter.unusedVariables false
open Go.RowKit Go.Proofs
theorem izT:(Tryz.prog.info? 35).map (·.size)=some 3:=by kernel_rfl
theorem izI:(Tryz.prog.info? 55).map (·.size)=some 12:=by kernel_rfl
theorem cA.plainAB{P:Program}{f:FuncId}{args:List PV}{ts:List Tr}{d:Value}(h:cA P f args (.tup [.agg (ts.map PV.t),.t (.leaf d)])){w:World}{vals:List Value}(hv:D2 w args vals):Calls P f ⟨vals⟩ w fun e w'=> ∃cs,e= .returned (.tuple #[.agg ⟨cs⟩,d])∧s6 w w'∧gP w' ts cs:=
 (h av0 X4 w vals (aoO w) hv).mono fun e w'=>by
  rintro⟨res,st',m',v,rfl,⟨rfl,rfl⟩,-,he,vs,rfl,hr⟩
  match vs,hr with
  | [u,x],hr=>
   obtain⟨rfl,-⟩:=(cJ.rep (show cJ _ _ (.leaf d) x from hr.2.1)).leaf_eq
   obtain⟨cs,rfl,hl⟩:=hr.1
   exact⟨cs,rfl,he.ext,gQ.ofTr hl⟩
theorem ao1(x0:aP)(o:aC)(hO:BD x0 o)(w:World)(c0 cs:List Value)(h0:gP w x0.tr c0)(hr:gP w o.tr cs):Calls Tryz.prog 81 #[.agg ⟨c0⟩,.agg ⟨cs⟩] w fun e w'=> ∃ci,e= .returned (.tuple #[.agg ⟨ci⟩,.bool true])∧s6 w w'∧gP w' (dJ x0 o).cs ci:=by
 rw [aP.tr_cs] at h0
 rw [aC.tr_cs] at hr
 exact cA.plainAB (ts:=(dJ x0 o).cs) (w5 0 x0 o _ (EF 0 x0 o hO)) (D2.cons (RV0.agg h0) (D2.cons (RV0.agg hr) D2.nil))
theorem ak5(p t:aA)(w:World)(c0 c1:List Value)(h0:gP w p.tr c0)(h1:gP w t.tr c1)(hp:Tr.bulkL p.tr≤68719476735)(ht:Tr.bulkL t.tr≤68719476735):Calls Tryz.prog 42 #[.agg ⟨c0⟩,.agg ⟨c1⟩] w fun e w'=>e= .returned (.bool (kY p t))∧s6 w w':=by
 rw [aA.tr_cs] at h0 h1
 exact cA.plain (zB p t hp ht) (D2.cons (RV0.agg h0) (D2.cons (RV0.agg h1) D2.nil))
set_option maxRecDepth 100000 in
set_option maxHeartbeats 2000000 in
theorem aaY(x0:aP)(g:aI)(c0 cg:List Value)(B0 B1:Nat)(o:aC)(cs:List Value)(w:World)(hob0:OB w B0 26 ⟨c0⟩)(hob1:OB w B1 37 ⟨cg⟩)(h0:gP w x0.tr c0)(hg:gP w g.tr cg)(hr:gP w o.tr cs)(hO:BD x0 o)
 (hB0:Tr.bulkL (dJ x0 o).gHead.tr≤68719476735) (hB1:Tr.bulkL g.gType.tr≤68719476735):
 Calls Tryz.prog 98 (#[.agg ⟨cs⟩]++ #[.pointer (some ⟨B0,0,none⟩),.pointer (some ⟨B1,0,none⟩)]) w fun e w'=>e= .returned (.bool (!(decide ((dJ x0 o).gTrait=g.gTrait)&&kY (dJ x0 o).gHead g.gType)))∧s6 w w':=by
 have HI0:Hid ((Tryz.prog.info? 26).map (·.size)=some c0.length):=by rw [← h0.length,aP.tr_len];exact ao2
 have HI1:Hid ((Tryz.prog.info? 45).map (·.size)=some cs.length):=by rw [← hr.length,aC.tr_len];exact ap6
 rw [aI.tr_cs] at hg
 obtain⟨d0,d1,d2,d3,rfl⟩:=ao4 hg.length.symm
 obtain⟨rfl,-⟩:=hg.1.leaf_eq
 have HG:Hid (gP w g.gType.tr [d1,d2,d3]):=by rw [aA.tr_cs];exact hg.2
 have HOB0:=Lib.hid hob0
 have HOB1:=Lib.hid hob1
 have H0:=Lib.hid h0
 have HR:=Lib.hid hr
 have HB0:=Lib.hid hB0
 have HB1:=Lib.hid hB1
 clear hob0 hob1 h0 hr hg hB0 hB1
 go_enter Tryz.func98,Tryz.ntmps98
 go_wp2_with (first
  |(refine k8 rfl 26 (.tmp 1) rfl B0 0 rfl c0 _ Tryz.underlying26 HI0.out (HOB0.out.ext (.alloc (.refl _) _)).cells0 ?_)
  |(refine k8 rfl 45 (.tmp 3) rfl w.heap.size 0 rfl cs _ Tryz.underlying45 HI1.out (OB.new w _ _).cells0 ?_))
 refine(ao1 x0 o hO _ c0 cs (H0.out.ext (.alloc (.refl _) _)) (HR.out.ext (.alloc (.refl _) _))).mono ?_;rintro e w1 ⟨ci,rfl,hw1,hci⟩
 have HW1:=Lib.hid (s6.trans (.alloc (.refl w) _) hw1)
 clear hw1
 have HCI:=Lib.hid hci
 have HCL:Hid (ci.length=12):=by rw [← hci.length];rfl
 have HII:Hid ((Tryz.prog.info? 55).map (·.size)=some ci.length):=by rw [HCL.out];exact izI
 clear hci
 by_cases ht:(dJ x0 o).gTrait=g.gTrait
 ·have HT:=Lib.hid ht
  clear ht
  go_wp2_with (first
   |(refine q7 rfl 55 (.tmp 5) (.tmp 11) rfl w1.heap.size 0 rfl ci rfl 55 _ (OB.new w1 _ _) HII.out (by rw [HCL.out];exact Nat.le_refl _) HCI.out.one ?_;intro w2 hob hgb hzb;rw [C5 (by rw [HCL.out];rfl)] at hob;have HOBI:=Lib.hid hob;have HX2:=Lib.hid (M1 (.alloc (.refl w1) _) hgb (Nat.le_refl _));clear hob hgb hzb;obtain⟨e0,e1,e2,e3,e4,e5,e6,e7,e8,e9,e10,e11,rfl⟩:=ak3 HCL.out;obtain⟨rfl,-⟩:=HCI.out.1.leaf_eq;have HH:Hid (gP w1 (dJ x0 o).gHead.tr [e2,e3,e4]):=(by rw [aA.tr_cs];exact⟨HCI.out.2.2.1,HCI.out.2.2.2.1,HCI.out.2.2.2.2.1,trivial⟩);have HXX:=Lib.hid (HW1.out.trans HX2.out);have hcI:w2.cell? ⟨w1.heap.size,0,none⟩=some (.string (dJ x0 o).gTrait):=(by rw [HOBI.out.cell];rfl);have hcG:w2.cell? ⟨B1,0,none⟩=some (.string g.gTrait):=(by rw [(HOB1.out.ext HXX.out).cell];rfl);rw [HT.out] at hcI)
   |(refine pH (by rfl) 35 (.tmp 19) rfl w1.heap.size 2 rfl [e2,e3,e4] _ Tryz.underlying35 izT (fun j v hv=>by rw [HOBI.out.cell];rcases j with _|_|_|j<;>first|(simp at hv;done)|simpa using hv) ?_)
   |(refine pH (by rfl) 35 (.tmp 21) rfl B1 1 rfl [d1,d2,d3] _ Tryz.underlying35 izT (fun j v hv=>by rw [(HOB1.out.ext HXX.out).cell];rcases j with _|_|_|j<;>first|(simp at hv;done)|simpa using hv) ?_))
  refine(ak5 _ _ w2 _ _ (HH.out.ext HX2.out) (HG.out.ext HXX.out) HB0.out HB1.out).mono ?_;rintro e w3 ⟨rfl,hw3⟩
  have HX3:=Lib.hid (HXX.out.trans hw3)
  clear hw3
  go_wp2_with fail
  go_ret
  refine⟨?_,HX3.out⟩
  rw [decide_eq_true HT.out]
  rfl
 ·have hne: ¬(dJ x0 o).gTrait.toList=g.gTrait.toList:=fun h=>ht (aiR h)
  have HD:Hid (decide ((dJ x0 o).gTrait=g.gTrait)=false):=decide_eq_false ht
  have HT:Hid ((dJ x0 o).gTrait=(dJ x0 o).gTrait):=rfl
  clear ht
  go_wp2_with (first
   |(refine q7 rfl 55 (.tmp 5) (.tmp 11) rfl w1.heap.size 0 rfl ci rfl 55 _ (OB.new w1 _ _) HII.out (by rw [HCL.out];exact Nat.le_refl _) HCI.out.one ?_;intro w2 hob hgb hzb;rw [C5 (by rw [HCL.out];rfl)] at hob;have HOBI:=Lib.hid hob;have HX2:=Lib.hid (M1 (.alloc (.refl w1) _) hgb (Nat.le_refl _));clear hob hgb hzb;obtain⟨e0,e1,e2,e3,e4,e5,e6,e7,e8,e9,e10,e11,rfl⟩:=ak3 HCL.out;obtain⟨rfl,-⟩:=HCI.out.1.leaf_eq;have HH:Hid (gP w1 (dJ x0 o).gHead.tr [e2,e3,e4]):=(by rw [aA.tr_cs];exact⟨HCI.out.2.2.1,HCI.out.2.2.2.1,HCI.out.2.2.2.2.1,trivial⟩);have HXX:=Lib.hid (HW1.out.trans HX2.out);have hcI:w2.cell? ⟨w1.heap.size,0,none⟩=some (.string (dJ x0 o).gTrait):=(by rw [HOBI.out.cell];rfl);have hcG:w2.cell? ⟨B1,0,none⟩=some (.string g.gTrait):=(by rw [(HOB1.out.ext HXX.out).cell];rfl))
   |(refine pH (by rfl) 35 (.tmp 19) rfl w1.heap.size 2 rfl [e2,e3,e4] _ Tryz.underlying35 izT (fun j v hv=>by rw [HOBI.out.cell];rcases j with _|_|_|j<;>first|(simp at hv;done)|simpa using hv) ?_)
   |(refine pH (by rfl) 35 (.tmp 21) rfl B1 1 rfl [d1,d2,d3] _ Tryz.underlying35 izT (fun j v hv=>by rw [(HOB1.out.ext HXX.out).cell];rcases j with _|_|_|j<;>first|(simp at hv;done)|simpa using hv) ?_))
  go_ret
  refine⟨?_,HXX.out⟩
  rw [HD.out]
  rfl
def jO(w:aP)(g:aI)(o:aC):Bool:=decide ((dJ w o).gTrait=g.gTrait)&&kY (dJ w o).gHead g.gType
set_option maxRecDepth 100000 in
set_option maxHeartbeats 2000000 in
theorem aaZ(x0:aP)(g:aI)(w:World)(c0 cg:List Value)(h0:gP w x0.tr c0)(hg:gP w g.tr cg)(hb:(dY x0).length≤68719476736)(hB0: ∀o,BD x0 o→Tr.bulkL (dJ x0 o).gHead.tr≤68719476735)(hB1:Tr.bulkL g.gType.tr≤68719476735):
 Calls Tryz.prog 38 #[.agg ⟨c0⟩,.agg ⟨cg⟩] w fun e w'=> ∃v,e= .returned v∧s6 w w'∧xP w' (.row 2 (aC.trs ((dY x0).filter fun o=>jO x0 g o))) v (KP w w'):=by
 have H0:=Lib.hid h0
 have HG:=Lib.hid hg
 have HB0:=Lib.hid hB0
 have HI0:Hid ((Tryz.prog.info? 26).map (·.size)=some c0.length):=by rw [← h0.length,aP.tr_len];exact ao2
 clear h0 hg hB0
 go_enter Tryz.func38,Tryz.ntmps38
 go_wp2_with (refine k8 rfl 26 (.tmp 2) rfl w.heap.size 0 rfl c0 _ Tryz.underlying26 HI0.out (Two.new w _ _ _ _).o0.cells0 ?_)
 refine(akP x0 _ c0 (H0.out.ext (.alloc (.alloc (.refl _) _) _)) hb).mono ?_;rintro e w1 ⟨v,rfl,hw1,ho1⟩
 have HW1:=Lib.hid hw1
 have HO1:=Lib.hid ho1
 clear hw1 ho1
 go_wp2_with fail
 refine(RT (dY x0) (fun o=> !jO x0 g o) 98 #[.pointer (some ⟨w.heap.size,0,none⟩),.pointer (some ⟨w.heap.size+1,0,none⟩)] (iX Tryz.func98 (by kernel_rfl) (by kernel_rfl)) v w1 (KP ((w.alloc _).alloc _) w1) (fun x hx=>hx.2) (fun o ho cs W hW hr=>by
  have hx:=KQ.ext HW1.out hW (fun x hx=>hx.1)
  exact aaY x0 g c0 cg w.heap.size (w.heap.size+1) o cs W ((Two.new w _ _ _ _).o0.ext hx) ((Two.new w _ _ _ _).o1.ext hx) (H0.out.ext (s6.trans (.alloc (.alloc (.refl _) _) _) hx)) (HG.out.ext (s6.trans (.alloc (.alloc (.refl _) _) _) hx)) hr (Q7 ho) (HB0.out o (Q7 ho)) hB1) (by rw [← aC.trs_map];exact HO1.out)).mono ?_
 rintro e w2 ⟨v2,rfl,hc2,ho2⟩
 have hx2:=KQ.ext HW1.out hc2 (fun x hx=>hx.1)
 have HX2:=Lib.hid (s6.trans (.alloc (.alloc (.refl _) _) _) hx2)
 have hz:w1.heap.size≤w2.heap.size:=hc2.size
 have HO2:=Lib.hid ho2
 clear hc2 hx2 ho2
 go_wp2_with fail
 go_ret
 refine⟨_,rfl,HX2.out,?_⟩
 rw [aC.trs_map]
 have ho:=HO2.out
 simp only [Bool.not_not] at ho
 exact ho.mono fun x hx=>⟨by have h1:=hx.1;simp only [World.size_alloc] at h1;omega,by have h1:=hx.2;omega⟩
theorem FR(w:aP)(g:aI)(hw:wt w≤13000000)(hg:Tr.bulkL g.gType.tr≤68719476735):cA Tryz.prog 38 [(aP.pv w),(aI.pv g)] (cK ((dY w).filter fun o=>jO w g o)):=
 cA.ofFresh rfl fun W vals hv=>by
  match vals,hv with
  | [v0,v1],hv=>
   obtain⟨c0,rfl,h0⟩:=hv.1
   obtain⟨c1,rfl,h1⟩:=hv.2.1
   exact aaZ w g W c0 c1 (gQ.ofTr (ts:=w.tr) (by rw [aP.tr_cs];exact h0)) (gQ.ofTr (ts:=g.tr) (by rw [aI.tr_cs];exact h1)) (Nat.le_trans (RO hw) (by decide)) (fun o ho=>Nat.le_trans (ahN hw ho) (by decide)) hg
end Go.Proofs.YtpioomclpaiomaaGreat.W

namespace Go.Proofs.YtpioomclpaiomaaGreat.W
set_option maxRecDepth 100000
set_option maxHeartbeats 40000000
noncomputable section
open Go.RowKit Go.Proofs
set_option linter.unusedSimpArgs false
set_option linter.unusedVariables false
attribute [local irreducible] lt
def abK(m:aA→Option Bool):Prop:= ∀(pt:aA) (r:Bool),m pt=some r→cA Tryz.prog 97 [(aA.pv pt)] (pB r:PV)
def O1(fu:Nat)(pt:aA):Option Bool:=
 bd (nI fu pt) (fun x2=>
 sw (decide ((x2.length:Int)=0))
 (bd (dU fu pt) (fun x5=>
 some (!(x5))))
 (some false))
theorem YF(fu:Nat):abK (O1 fu):=by
 intro pt r H
 have H:=fF H
 refine qI Tryz.func97 (fun C hC=>?_)
 refine qS (qR (q1 (kQ (c5 pt)) (q1 aF (qN (qS (qR (q1 (cY [pI pt.gKind,pS pt.gName,aW pt.gArgs] b8) (bU H fun x2 z1 H=>(q1 (bQ Tryz.func138 (zI fu pt _ z1)) (q1 (eR b6 (bI _)) (q1 eP (q1 aF ?_))))))))))))
 refine eK 7 H (fun g3 H=>?_) fun g3 H=>?_
 ·refine qg g3 (cY [pI pt.gKind,pS pt.gName,aW pt.gArgs] b8) (bU H fun x5 z4 H=>(qg g3 (bQ Tryz.func139 (tO fu pt _ z4)) (qg g3 iS (q1 (b0 g3) (q1 aF (qN (aO.ret ?_)))))))
  cases aZ H
  exact bR
 iterate 3 refine qk g3 ?_
 refine q1 (cC g3) (q1 aF (qN (aO.ret ?_)))
 cases aZ H
 exact bR
def PM(m:(List ByteArray)→ByteArray→Option Int):Prop:= ∀(ps:List ByteArray) (pv:ByteArray) (r:Int),m ps pv=some r→cA Tryz.prog 196 [rS ps,pS pv] (pI r:PV)
def AU(fu:Nat)(ps:List ByteArray)(pv:ByteArray):Nat→Unit→Option (LR Unit Int):=
 fun i1 _=>sw (decide (pv=bB ps i1))
 (some (.ret (i1:Int)))
 (some (.next ()))
def AV(fu:Nat)(ps:List ByteArray)(pv:ByteArray):Option (Int⊕Unit):=
 loopN (AU fu ps pv) (ps.length-0) 0 ()
def rM(fu:Nat)(ps:List ByteArray)(pv:ByteArray):Option Int:=
 so (AV fu ps pv) (fun _=>
 some (-1))
theorem M0(fu:Nat):PM (rM fu):=by
 intro ps pv r H
 have H:=fF H
 refine qI Tryz.func196 (fun C hC=>?_)
 refine qS (qR (q1 aF (qN ?_)))
 iterate 2 refine qS ?_
 refine qR (q1 aF (q1 (eR b6 (bI _)) (q1 aF (qN ?_))))
 refine kV 0 (bI _) (fun hl2=>?_)
 refine cM (σ:=Unit) (fun i1 _=>⟨[(0,rS ps),(1,pS pv),(4,pI 0),(7,pN ps.length),(8,pN i1)],⟨[],[]⟩⟩) (fun _=>⟨[(4,pI 0)],⟨[],[]⟩⟩) (gW H) ?_ ?_
 ·rintro i1 ⟨⟩ H
  refine qS (qR (q1 iQ (qN (qS ?_))))
  refine eO H (fun h3 h3l H=>?_) (fun h3 H=>?_)
  ·have h3n:=bF h3
   refine aO.skip (qS (aO.block (qS (qR ?_))))
   iterate 2 refine q1 aF ?_
   refine qN (qS (qR ?_))
   iterate 3 refine q1 aF ?_
   refine q1 (jH h3n b6) (q1 (p9 fO) (q1 JL (qN ?_)))
   refine bH H (fun h4 H=>?_) (fun h4 H=>?_)
   ·refine qS (qR ?_)
    iterate 2 refine q1 aF ?_
    refine qN (aO.ret ?_)
    obtain rfl:_=r:=(rK (aZ H):)
    exact bR
   refine aO.skip (qR (q1 (aV.addI rfl rfl rfl rfl (c:=((i1+1:Nat):Int)) (by omega) (by omega)) (q1 aF (qN ?_))))
   exact j8 h3l ⟨_,(aZ H:),b9⟩
  refine aO.exit ?_;exact lP ⟨_,H,b9⟩
 rintro⟨⟩ H
 refine qS (qR (q1 aF (qN (aO.ret ?_))))
 cases aZ H
 exact bR
def I7(m:(List ByteArray)→ByteArray→Option Bool):Prop:= ∀(ps:List ByteArray) (pv:ByteArray) (r:Bool),m ps pv=some r→cA Tryz.prog 171 [rS ps,pS pv] (pB r:PV)
def nR(fu:Nat)(ps:List ByteArray)(pv:ByteArray):Option Bool:=
 bd (rM fu ps pv) (fun x2=>
 some (decide (x2≥0)))
theorem GN(fu:Nat):I7 (nR fu):=by
 intro ps pv r H
 have H:=fF H
 refine qI Tryz.func171 (fun C hC=>?_)
 refine qS (qR (q1 aF (qN (qS (qR ?_)))))
 iterate 2 refine q1 aF ?_
 refine bU H fun x2 z1 H=>(q1 (bQ Tryz.func196 (M0 fu ps pv _ z1)) (q1 UH (q1 aF (qN (aO.ret ?_)))))
 cases aZ H
 exact bR
def M6(m:aA→(List ByteArray)→Option ((List ByteArray))):Prop:= ∀(pu:aA) (c1:List ByteArray) (r:(List ByteArray)),m pu c1=some r→cP Tryz.prog 178 [(aA.pv pu),.ptr 0 0] ⟨[some ⟨38,[aS c1 0]⟩],[⟨9,1,aX (c1),false⟩]⟩ (fun q t=>q=(.tup []:PV)∧t=⟨[some ⟨38,[aS r 0]⟩],[⟨9,1,aX (r),false⟩]⟩)
def qJ(fu:Nat)(pu:aA)(c1:List ByteArray):Option ((List ByteArray)):=
 sw (decide (pu.gKind=1))
 (bd (nR fu c1 pu.gName) (fun x3=>
 sw (!(x3))
 (gd ((c1).length+(([pu.gName]:List ByteArray)).length≤68719476736)
 (some (c1++([pu.gName]:List ByteArray))))
 (some c1)))
 (some c1)
theorem LQ(fu:Nat):M6 (qJ fu):=by
 intro pu c1 r H
 have H:=fF H
 refine qI Tryz.func178 (fun C hC=>?_)
 refine qS (qR (q1 (kQ (c5 pu)) (qN (qS (qR (q1 (bC lR) (q1 (bL kZ) (q1 eP (q1 aF ?_)))))))))
 refine eK 6 H (fun g1 H=>?_) fun g1 H=>?_
 ·refine qg g1 (bL lI) (qg g1 (bC kE) (qg g1 (bL fO) (bU H fun x3 z2 H=>(qg g1 (bQ Tryz.func171 (GN fu c1 pu.gName _ z2)) (qg g1 iS (q1 (b0 g1) (qN ?_)))))))
  refine bH H (fun h4 H=>?_) (fun h4 H=>?_)
  ·refine qR (q1 (bL lI) (q1 (bC kE) (q1 (bL fO) (q1 (iW ([pu.gName]:List ByteArray) b6 lO) (c9 H fun z5 H=>(q1 (oE z5 b6 sM) (q1 (b3 KN) (qN ?_))))))))
   cases aZ H
   exact qe (ps:= []) ⟨rfl,rfl⟩ trivial
  refine aO.skip ?_
  cases aZ H
  exact qe (ps:= []) ⟨rfl,rfl⟩ trivial
 iterate 5 refine qk g1 ?_
 refine q1 (cC g1) (qN (kP rfl (aO.skip ?_)))
 cases aZ H
 exact qe (ps:= []) ⟨rfl,rfl⟩ trivial
abbrev gA:=aA→(List ByteArray)→Option ((List ByteArray))
def iN(m:gA):Prop:= ∀(pt:aA) (c1_0:List ByteArray) (r:(List ByteArray)),m pt c1_0=some r→cP Tryz.prog 144 [(aA.pv pt),.fn 178 [.ptr 0 0]] ⟨[some ⟨38,[aS c1_0 0]⟩],[⟨9,1,aX (c1_0),false⟩]⟩ (fun q t=>q=(.tup []:PV)∧t=⟨[some ⟨38,[aS r 0]⟩],[⟨9,1,aX (r),false⟩]⟩)
def oO(fu:Nat)(r_ieachType__ivariablesOf_1:gA)(pt:aA)(c1_0 x2:List ByteArray):Nat→((List ByteArray))→Option (LR ((List ByteArray)) ((List ByteArray))):=
 fun i3 v5=>bd (r_ieachType__ivariablesOf_1 (bB pt.gArgs i3) v5) (fun x9=>
 some (.next x9))
def oP(fu:Nat)(r_ieachType__ivariablesOf_1:gA)(pt:aA)(c1_0 x2:List ByteArray):Option (((List ByteArray))⊕((List ByteArray))):=
 loopN (oO fu r_ieachType__ivariablesOf_1 pt c1_0 x2) (pt.gArgs.length-0) 0 x2
def lF(fu:Nat)(r_ieachType__ivariablesOf_1:gA)(pt:aA)(c1_0:List ByteArray):Option ((List ByteArray)):=
 bd (qJ fu pt c1_0) (fun x2=>
 so (oP fu r_ieachType__ivariablesOf_1 pt c1_0 x2) (fun v5=>
 some v5))
theorem uA(fu:Nat)(r_ieachType__ivariablesOf_1:gA)(h_ieachType__ivariablesOf_1:iN r_ieachType__ivariablesOf_1):iN (lF fu r_ieachType__ivariablesOf_1):=by
 intro pt c1_0 r H
 have H:=fF H
 refine qI Tryz.func144 (fun C hC=>?_)
 refine qS (qR (q1 (kQ (c5 pt)) (qN (qS (qR (q1 aF (q1 (cY [pI pt.gKind,pS pt.gName,aW pt.gArgs] b8) (bU H fun x2 z1 H=>(q1 (aV.callVPE (pre:=⟨[some ⟨38,[aS c1_0 0]⟩],[⟨9,1,aX (c1_0),false⟩]⟩) (st':=⟨[some ⟨38,[aS x2 0]⟩],[⟨9,1,aX (x2),false⟩]⟩) (ps:= [_]) (cs:= [.ptr 0 0]) (qs:= [(aA.pv pt),.ptr 0 0]) [0] [0] rfl rfl rfl Tryz.func178 (by kernel_rfl) rfl rfl rfl (l6.of ⟨⟨_,rfl,rfl,lG,rfl⟩,trivial⟩ ⟨rfl,trivial⟩ (by decide) (by decide)) lG rfl rfl rfl (LQ fu pt c1_0 _ z1)) (qN (qS (qR (q1 (bC gC) ?_)))))))))))))
 refine q1 (bL mQ) (q1 (eR dX (aA.trs_len _)) (q1 aF (qN ?_)))
 refine kV 10 (aA.trs_len _) (fun hl6=>?_)
 refine cM (σ:=(List ByteArray)) (fun i3 v5=>⟨[(1,.fn 178 [.ptr 0 0]),(10,aW pt.gArgs),(11,pN pt.gArgs.length),(12,pN i3)],⟨[some ⟨38,[aS v5 0]⟩,some ⟨35,c5 pt⟩],[⟨9,1,aX (v5),false⟩]⟩⟩) (fun v5=>⟨[],⟨[some ⟨38,[aS v5 0]⟩,some ⟨35,c5 pt⟩],[⟨9,1,aX (v5),false⟩]⟩⟩) (gW H) ?_ ?_
 ·rintro i3 v5 H
  refine qS (qR (q1 iQ (qN (qS ?_))))
  refine eO H (fun h7 h7l H=>?_) (fun h7 H=>?_)
  ·have h7n:=bF h7
   refine aO.skip (qS (aO.block (qS (qR (q1 (jH h7n dX) (q1 (lB (aA.cs (bB pt.gArgs i3)) b8) (q1 (iG hP) (q1 (b3 hH) (qN (qR (q1 (cY [pI ((bB pt.gArgs i3).gKind),pS ((bB pt.gArgs i3).gName),aW ((bB pt.gArgs i3).gArgs)] b8) (q1 aF (bU H fun x9 z8 H=>?_)))))))))))))
   refine q1 (f6 [0] [0] Tryz.func144 (h_ieachType__ivariablesOf_1 (bB pt.gArgs i3) v5 _ z8)) (qN (qR (q1 (aV.addI rfl rfl rfl rfl (c:=((i3+1:Nat):Int)) (by omega) (by omega)) (q1 aF (qN ?_)))))
   exact j8 h7l ⟨_,(aZ H:),b9⟩
  refine aO.exit ?_;exact lP ⟨_,H,b9⟩
 rintro v5 H
 cases aZ H
 exact qe (ps:= []) ⟨rfl,rfl⟩ trivial
def cX:Nat→aA→(List ByteArray)→Option ((List ByteArray))
 |0,_,_=>none
 |fu+1,pt,c1_0=>lF fu (cX fu) pt c1_0
theorem vE(fu:Nat):iN (cX fu):=by
 induction fu with
 |zero=>exact(fun pt c1_0 r H=>by simp only [cX] at H;cases H)
 |succ fu ih=>exact(fun pt c1_0 r H=>by simp only [cX] at H;exact uA fu (cX fu) ih pt c1_0 r H)
theorem vT(fu:Nat):iN (cX fu):=(vE fu)
def SF(m:(List aA)→Option ((List ByteArray))):Prop:= ∀(pall:List aA) (r:(List ByteArray)),m pall=some r→cA Tryz.prog 143 [aW pall] (rS r:PV)
def C7(fu:Nat)(pall:List aA):Nat→((List ByteArray))→Option (LR ((List ByteArray)) ((List ByteArray))):=
 fun i1 v3=>bd (cX fu (bB pall i1) v3) (fun x7=>
 some (.next x7))
def C8(fu:Nat)(pall:List aA):Option (((List ByteArray))⊕((List ByteArray))):=
 loopN (C7 fu pall) (pall.length-0) 0 ([])
def xZ(fu:Nat)(pall:List aA):Option ((List ByteArray)):=
 so (C8 fu pall) (fun v3=>
 some v3)
theorem PU(fu:Nat):SF (xZ fu):=by
 intro pall r H
 have H:=fF H
 refine qI Tryz.func143 (fun C hC=>?_)
 refine qS (qR (q1 aF (qN (qS (qR (q1 (wA ([]:List ByteArray) b6 lO) (q1 (iG aqD) (q1 (b3 KN) (qN ?_)))))))))
 iterate 2 refine qS ?_
 refine qR (q1 aF (q1 (eR dX (aA.trs_len _)) (q1 aF (qN ?_))))
 refine kV 0 (aA.trs_len _) (fun hl4=>?_)
 refine cM (σ:=(List ByteArray)) (fun i1 v3=>⟨[(2,.nil),(3,.ptr 0 0),(7,aW pall),(8,pN pall.length),(9,pN i1)],⟨[some ⟨38,[aS v3 0]⟩],[⟨9,1,aX (v3),false⟩]⟩⟩) (fun v3=>⟨[(2,.nil),(3,.ptr 0 0)],⟨[some ⟨38,[aS v3 0]⟩],[⟨9,1,aX (v3),false⟩]⟩⟩) (gW H) ?_ ?_
 ·rintro i1 v3 H
  refine qS (qR (q1 iQ (qN (qS ?_))))
  refine eO H (fun h5 h5l H=>?_) (fun h5 H=>?_)
  ·have h5n:=bF h5
   refine aO.skip (qS (aO.block (qS (qR (q1 (jH h5n dX) (q1 (lB (aA.cs (bB pall i1)) b8) (q1 (iG hP) (q1 (b3 hH) (qN (qR (q1 (cY [pI ((bB pall i1).gKind),pS ((bB pall i1).gName),aW ((bB pall i1).gArgs)] b8) (q1 rMf (bU H fun x7 z6 H=>?_)))))))))))))
   refine q1 (f6 [0] [0] Tryz.func144 (vT fu (bB pall i1) v3 _ z6)) (qN (qR (q1 (aV.addI rfl rfl rfl rfl (c:=((i1+1:Nat):Int)) (by omega) (by omega)) (q1 aF (qN ?_)))))
   exact j8 h5l ⟨_,(aZ H:),b9⟩
  refine aO.exit ?_;exact lP ⟨_,H,b9⟩
 rintro v3 H
 refine qS (qR (q1 (bL lI) (q1 aF (qN (aO.ret ?_)))))
 cases aZ H
 exact bR
def M4(m:aA→Option ((List ByteArray))):Prop:= ∀(pt:aA) (r:(List ByteArray)),m pt=some r→cA Tryz.prog 101 [(aA.pv pt)] (rS r:PV)
def qG(fu:Nat)(pt:aA):Option ((List ByteArray)):=
 bd (xZ fu ([pt]:List aA)) (fun x2=>
 some x2)
theorem LM(fu:Nat):M4 (qG fu):=by
 intro pt r H
 have H:=fF H
 refine qI Tryz.func101 (fun C hC=>?_)
 refine qS (qR (q1 (kQ (c5 pt)) (q1 aF (qN (qS (qR (q1 (cY [pI pt.gKind,pS pt.gName,aW pt.gArgs] b8) (q1 (iW ([pt]:List aA) dX hP) (bU H fun x2 z1 H=>(q1 (bQ Tryz.func143 (PU fu ([pt]:List aA) _ z1)) (q1 aF (qN (aO.ret ?_)))))))))))))
 cases aZ H
 exact bR
def I8(m:aA→Bool→Option Bool):Prop:= ∀(pu:aA) (c1:Bool) (r:Bool),m pu c1=some r→cP Tryz.prog 145 [(aA.pv pu),.ptr 0 0] ⟨[some ⟨4,[pB c1]⟩],[]⟩ (fun q t=>q=(.tup []:PV)∧t=⟨[some ⟨4,[pB r]⟩],[]⟩)
def nT(fu:Nat)(pu:aA)(c1:Bool):Option Bool:=
 sw (c1)
 (some true)
 (some (decide (pu.gKind=3)))
theorem GO(fu:Nat):I8 (nT fu):=by
 intro pu c1 r H
 have H:=fF H
 refine qI Tryz.func145 (fun C hC=>?_)
 refine qS (qR (q1 (kQ (c5 pu)) (qN (qR (q1 (bL sh4) (q1 aF ?_))))))
 refine eK 4 H (fun g1 H=>?_) fun g1 H=>?_
 ·refine qk g1 ?_
  iterate 2 refine qk g1 ?_
  refine q1 (b0 g1) (q1 (b3 sz4) (qN ?_))
  cases aZ H
  exact qe (ps:= []) ⟨rfl,rfl⟩ trivial
 refine qg g1 (bC lR) (qg g1 (bL kZ) (qg g1 eP (q1 (cC g1) (q1 (b3 sz4) (qN ?_)))))
 cases aZ H
 exact qe (ps:= []) ⟨rfl,rfl⟩ trivial
abbrev fI:=aA→Bool→Option Bool
def hZ(m:fI):Prop:= ∀(pt:aA) (c1_0:Bool) (r:Bool),m pt c1_0=some r→cP Tryz.prog 144 [(aA.pv pt),.fn 145 [.ptr 0 0]] ⟨[some ⟨4,[pB c1_0]⟩],[]⟩ (fun q t=>q=(.tup []:PV)∧t=⟨[some ⟨4,[pB r]⟩],[]⟩)
def nB(fu:Nat)(r_ieachType__iHasProjection_1:fI)(pt:aA)(c1_0 x2:Bool):Nat→Bool→Option (LR Bool Bool):=
 fun i3 v4=>bd (r_ieachType__iHasProjection_1 (bB pt.gArgs i3) v4) (fun x8=>
 some (.next x8))
def nC(fu:Nat)(r_ieachType__iHasProjection_1:fI)(pt:aA)(c1_0 x2:Bool):Option (Bool⊕Bool):=
 loopN (nB fu r_ieachType__iHasProjection_1 pt c1_0 x2) (pt.gArgs.length-0) 0 x2
def kH(fu:Nat)(r_ieachType__iHasProjection_1:fI)(pt:aA)(c1_0:Bool):Option Bool:=
 bd (nT fu pt c1_0) (fun x2=>
 so (nC fu r_ieachType__iHasProjection_1 pt c1_0 x2) (fun v4=>
 some v4))
theorem tE(fu:Nat)(r_ieachType__iHasProjection_1:fI)(h_ieachType__iHasProjection_1:hZ r_ieachType__iHasProjection_1):hZ (kH fu r_ieachType__iHasProjection_1):=by
 intro pt c1_0 r H
 have H:=fF H
 refine qI Tryz.func144 (fun C hC=>?_)
 refine qS (qR (q1 (kQ (c5 pt)) (qN (qS (qR (q1 aF (q1 (cY [pI pt.gKind,pS pt.gName,aW pt.gArgs] b8) (bU H fun x2 z1 H=>(q1 (aV.callVPE (pre:=⟨[some ⟨4,[pB c1_0]⟩],[]⟩) (st':=⟨[some ⟨4,[pB x2]⟩],[]⟩) (ps:= [_]) (cs:= [.ptr 0 0]) (qs:= [(aA.pv pt),.ptr 0 0]) [0] [] rfl rfl rfl Tryz.func145 (by kernel_rfl) rfl rfl rfl (l6.of ⟨⟨_,rfl,rfl,lG,rfl⟩,trivial⟩ trivial (by decide) (by decide)) lG rfl rfl rfl (GO fu pt c1_0 _ z1)) (qN (qS (qR (q1 (bC gC) ?_)))))))))))))
 refine q1 (bL mQ) (q1 (eR dX (aA.trs_len _)) (q1 aF (qN ?_)))
 refine kV 10 (aA.trs_len _) (fun hl5=>?_)
 refine cM (σ:=Bool) (fun i3 v4=>⟨[(1,.fn 145 [.ptr 0 0]),(10,aW pt.gArgs),(11,pN pt.gArgs.length),(12,pN i3)],⟨[some ⟨4,[pB v4]⟩,some ⟨35,c5 pt⟩],[]⟩⟩) (fun v4=>⟨[],⟨[some ⟨4,[pB v4]⟩,some ⟨35,c5 pt⟩],[]⟩⟩) (gW H) ?_ ?_
 ·rintro i3 v4 H
  refine qS (qR (q1 iQ (qN (qS ?_))))
  refine eO H (fun h6 h6l H=>?_) (fun h6 H=>?_)
  ·have h6n:=bF h6
   refine aO.skip (qS (aO.block (qS (qR (q1 (jH h6n dX) (q1 (lB (aA.cs (bB pt.gArgs i3)) b8) (q1 (iG hP) (q1 (b3 hH) (qN (qR (q1 (cY [pI ((bB pt.gArgs i3).gKind),pS ((bB pt.gArgs i3).gName),aW ((bB pt.gArgs i3).gArgs)] b8) (q1 aF (bU H fun x8 z7 H=>?_)))))))))))))
   refine q1 (f6 [0] [] Tryz.func144 (h_ieachType__iHasProjection_1 (bB pt.gArgs i3) v4 _ z7)) (qN (qR (q1 (aV.addI rfl rfl rfl rfl (c:=((i3+1:Nat):Int)) (by omega) (by omega)) (q1 aF (qN ?_)))))
   exact j8 h6l ⟨_,(aZ H:),b9⟩
  refine aO.exit ?_;exact lP ⟨_,H,b9⟩
 rintro v4 H
 cases aZ H
 exact qe (ps:= []) ⟨rfl,rfl⟩ trivial
def cO:Nat→aA→Bool→Option Bool
 |0,_,_=>none
 |fu+1,pt,c1_0=>kH fu (cO fu) pt c1_0
theorem tU(fu:Nat):hZ (cO fu):=by
 induction fu with
 |zero=>exact(fun pt c1_0 r H=>by simp only [cO] at H;cases H)
 |succ fu ih=>exact(fun pt c1_0 r H=>by simp only [cO] at H;exact tE fu (cO fu) ih pt c1_0 r H)
theorem t9(fu:Nat):hZ (cO fu):=(tU fu)
def M2(m:aA→Option Bool):Prop:= ∀(pt:aA) (r:Bool),m pt=some r→cA Tryz.prog 102 [(aA.pv pt)] (pB r:PV)
def t8(fu:Nat)(pt:aA):Option Bool:=
 bd (cO fu pt false) (fun x2=>
 some x2)
theorem LI(fu:Nat):M2 (t8 fu):=by
 intro pt r H
 have H:=fF H
 refine qI Tryz.func102 (fun C hC=>?_)
 refine qS (qR (q1 (kQ (c5 pt)) (q1 aF (qN (qS (qR (q1 (iG zr4) (q1 (b3 sz4) (qN (qS (qR (q1 (cY [pI pt.gKind,pS pt.gName,aW pt.gArgs] b8) (q1 rMf ?_)))))))))))))
 refine bU H fun x2 z1 H=>(q1 (f6 [1] [] Tryz.func144 (t9 fu pt false _ z1)) (qN (qS (qR (q1 (bL sh4) (q1 aF (qN (aO.ret ?_))))))))
 cases aZ H
 exact bR
def aa3(m:aA→Option Bool):Prop:= ∀(pt:aA) (r:Bool),m pt=some r→cA Tryz.prog 43 [(aA.pv pt)] (pB r:PV)
def OV(fu:Nat)(pt:aA):Option Bool:=
 bd (qG fu pt) (fun x2=>
 sw (decide ((x2.length:Int)=0))
 (bd (t8 fu pt) (fun x5=>
 some (!(x5))))
 (some false))
theorem XT(fu:Nat):aa3 (OV fu):=by
 intro pt r H
 have H:=fF H
 refine qI Tryz.func43 (fun C hC=>?_)
 refine qS (qR (q1 (kQ (c5 pt)) (q1 aF (qN (qS (qR (q1 (cY [pI pt.gKind,pS pt.gName,aW pt.gArgs] b8) (bU H fun x2 z1 H=>(q1 (bQ Tryz.func101 (LM fu pt _ z1)) (q1 (eR b6 (bI _)) (q1 eP (q1 aF ?_))))))))))))
 refine eK 7 H (fun g3 H=>?_) fun g3 H=>?_
 ·refine qg g3 (cY [pI pt.gKind,pS pt.gName,aW pt.gArgs] b8) (bU H fun x5 z4 H=>(qg g3 (bQ Tryz.func102 (LI fu pt _ z4)) (qg g3 iS (q1 (b0 g3) (q1 aF (qN (aO.ret ?_)))))))
  cases aZ H
  exact bR
 iterate 3 refine qk g3 ?_
 refine q1 (cC g3) (q1 aF (qN (aO.ret ?_)))
 cases aZ H
 exact bR
def EQ(m:aA→aA→Option Bool):Prop:= ∀(pa:aA) (pb:aA) (r:Bool),m pa pb=some r→cA Tryz.prog 137 [(aA.pv pa),(aA.pv pb)] (pB r:PV)
def mB(fu:Nat)(pa pb:aA):Option Bool:=
 gd (Tr.bulkL (aA.tr pb)≤68719476735)
 (gd (Tr.bulkL (aA.tr pa)≤68719476735)
 (some (kY pb pa)))
theorem t0(fu:Nat):EQ (mB fu):=by
 intro pa pb r H
 have H:=fF H
 refine qI Tryz.func137 (fun C hC=>?_)
 refine qS (qR (q1 (kQ (c5 pa)) (q1 (kQ (c5 pb)) (q1 aF (qN (qS (qR (q1 (cY [pI pb.gKind,pS pb.gName,aW pb.gArgs] b8) (q1 (cY [pI pa.gKind,pS pa.gName,aW pa.gArgs] b8) (c9 H fun z1 H=>(c9 H fun z2 H=>(q1 (bQ Tryz.func99 (O2 pb pa z1 z2)) (q1 aF ?_)))))))))))))
 refine qN (aO.ret ?_)
 cases aZ H
 exact bR
def QF(m:aA→aA→Option Bool):Prop:= ∀(pa:aA) (pb:aA) (r:Bool),m pa pb=some r→cA Tryz.prog 96 [(aA.pv pa),(aA.pv pb)] (pB r:PV)
def DC(fu:Nat)(pa pb:aA):Option Bool:=
 bd (mB fu pa pb) (fun x2=>
 sw (x2)
 (bd (mB fu pb pa) (fun x5=>
 some (!(x5))))
 (some false))
theorem NR(fu:Nat):QF (DC fu):=by
 intro pa pb r H
 have H:=fF H
 refine qI Tryz.func96 (fun C hC=>?_)
 refine qS (qR (q1 (kQ (c5 pa)) (q1 (kQ (c5 pb)) (q1 aF (qN (qS (qR (q1 (cY [pI pa.gKind,pS pa.gName,aW pa.gArgs] b8) (q1 (cY [pI pb.gKind,pS pb.gName,aW pb.gArgs] b8) (bU H fun x2 z1 H=>(q1 (bQ Tryz.func137 (t0 fu pa pb _ z1)) (q1 aF ?_))))))))))))
 refine eK 8 H (fun g3 H=>?_) fun g3 H=>?_
 ·refine qg g3 (cY [pI pb.gKind,pS pb.gName,aW pb.gArgs] b8) (qg g3 (cY [pI pa.gKind,pS pa.gName,aW pa.gArgs] b8) (bU H fun x5 z4 H=>(qg g3 (bQ Tryz.func137 (t0 fu pb pa _ z4)) (qg g3 iS (q1 (b0 g3) (q1 aF (qN (aO.ret ?_))))))))
  cases aZ H
  exact bR
 iterate 4 refine qk g3 ?_
 refine q1 (cC g3) (q1 aF (qN (aO.ret ?_)))
 cases aZ H
 exact bR
def PP(m:aA→aA→Option Bool):Prop:= ∀(pa:aA) (pb:aA) (r:Bool),m pa pb=some r→cA Tryz.prog 41 [(aA.pv pa),(aA.pv pb)] (pB r:PV)
def C6(fu:Nat)(pa pb:aA):Option Bool:=
 gd (Tr.bulkL (aA.tr pb)≤68719476735)
 (gd (Tr.bulkL (aA.tr pa)≤68719476735)
 (sw (kY pb pa)
 (some (!(kY pa pb)))
 (some false)))
theorem M3(fu:Nat):PP (C6 fu):=by
 intro pa pb r H
 have H:=fF H
 refine qI Tryz.func41 (fun C hC=>?_)
 refine qS (qR (q1 (kQ (c5 pa)) (q1 (kQ (c5 pb)) (q1 aF (qN (qS (qR (q1 (cY [pI pb.gKind,pS pb.gName,aW pb.gArgs] b8) (q1 (cY [pI pa.gKind,pS pa.gName,aW pa.gArgs] b8) (c9 H fun z1 H=>(c9 H fun z2 H=>(q1 (bQ Tryz.func42 (zB pb pa z1 z2)) (q1 aF ?_)))))))))))))
 refine eK 8 H (fun g3 H=>?_) fun g3 H=>?_
 ·refine qg g3 (cY [pI pa.gKind,pS pa.gName,aW pa.gArgs] b8) (qg g3 (cY [pI pb.gKind,pS pb.gName,aW pb.gArgs] b8) (qg g3 (bQ Tryz.func42 (zB pa pb z2 z1)) (qg g3 iS (q1 (b0 g3) (q1 aF (qN (aO.ret ?_)))))))
  cases aZ H
  exact bR
 iterate 4 refine qk g3 ?_
 refine q1 (cC g3) (q1 aF (qN (aO.ret ?_)))
 cases aZ H
 exact bR
end
end Go.Proofs.YtpioomclpaiomaaGreat.W

namespace Go.Proofs.YtpioomclpaiomaaGreat.W
set_option linter.unusedSimpArgs false
set_option linter.unusedVariables false
attribute [local irreducible] lt
open Go.RowKit Go.WalkArith
theorem aa1{α:Type}{p:α→Bool}: ∀l:List α,(l.find? p).isSome=l.any p
 | []=>rfl
 |a::l=>by
  rw [List.find?_cons,List.any_cons]
  cases p a with
  |true=>rfl
  |false=>exact aa1 l
theorem ah1{α:Type}{p:α→Bool}{l:List α}{m:Option (Bool⊕Unit)}{f:Unit→Option Bool}(hm:m=some (match l.find? p with|some _=> .inl true|none=> .inr ())){b:Bool}(hf:f ()=some b):so m f=some (l.any p||b):=by
 have h:=aa1 (p:=p) l
 cases hq:l.find? p with
 |none=>
  rw [hq] at hm h
  rw [← h]
  exact soR hm hf
 |some x=>
  rw [hq] at hm h
  rw [← h]
  exact soL hm
def aiV(l:List ByteArray)(s:ByteArray):Bool:=l.any fun x=>decide (x=s)
theorem ajT(fu:Nat)(l:List ByteArray)(s:ByteArray):lV fu l s=some (aiV l s):=by
 unfold lV
 rw [ah1 (l:=l) (p:=fun x=>decide (x=s)) (b:=false) ?_ rfl,Bool.or_false]
 ·rfl
 ·unfold WR
  exact pZ (p:=fun x=>decide (x=s)) (r:=fun _=>true) (fun i hi=>by unfold WQ;cases decide (bB l i=s)<;>rfl)
theorem XS(fu:Nat)(l:List ByteArray)(s:ByteArray):nR fu l s=some (aiV l s):=by
 have h1:rM fu l s=some (match l.findIdx? (fun x=>decide (s=x)) with|some i=>((i:Nat):Int)|none=> -1):=by
  unfold rM AV
  rw [OX (l:=l) (p:=fun x=>decide (s=x)) fun i hi=>by
   unfold AU
   cases decide (s=bB l i)<;>rfl]
  cases l.findIdx? fun x=>decide (s=x)<;>rfl
 have h2:(fun x=>decide (s=x))=fun x=>decide (x=s):=funext fun x=>decide_eq_decide.2 ⟨Eq.symm,Eq.symm⟩
 unfold nR
 refine rD h1 (congrArg some ?_)
 refine WG.trans ?_
 rw [h2]
 rfl
def u7(k:Int)(n:ByteArray)(o:List ByteArray):List ByteArray:=if k=1 then(bif aiV o n then o else o++ [n]) else o
mutual
def vsO:aA→List ByteArray→List ByteArray
 | .mk k n xs,o=>aaC xs (u7 k n o)
def aaC:List aA→List ByteArray→List ByteArray
 | [],o=>o
 |x::r,o=>aaC r (vsO x o)
end
theorem OO: ∀(xs:List aA) (o:List ByteArray),aaC xs o=xs.foldl (fun s x=>vsO x s) o
 | [],o=>rfl
 |x::r,o=>by rw [aaC,List.foldl_cons,OO r]
theorem FE(k:Int)(n:ByteArray)(o:List ByteArray):(u7 k n o).length≤o.length+1:=by
 unfold u7
 split
 ·cases aiV o n<;>simp
 ·omega
theorem UF: ∀(xs:List aA),(∀x∈xs,∀o,(vsO x o).length≤o.length+1+Tr.bulkL x.tr)→ ∀o,(aaC xs o).length≤o.length+wtl xs
 | [],_,o=>by rw [aaC];omega
 |x::r,h,o=>by
  rw [aaC,BU]
  have h1:=h x (by simp) o
  have h2:=UF r (fun y hy=>h y (List.mem_cons_of_mem _ hy)) (vsO x o)
  omega
theorem ah5: ∀(t:aA) (o:List ByteArray),(vsO t o).length≤o.length+1+Tr.bulkL t.tr:=by
 refine aA.ind fun k n xs ih o=>?_
 have h1:=UF xs ih (u7 k n o)
 have h2:=FE k n o
 have h3:=BT k n xs
 rw [vsO]
 omega
theorem agY: ∀t:aA,b5 fun fu=> ∀o:List ByteArray,o.length+1+Tr.bulkL t.tr≤68719476736→lM fu t o=some (vsO t o):=by
 refine aA.ind fun k n xs ih=>?_
 have hw:=BT k n xs
 refine b5.succ ((b5.list ih).imp fun fu hf o ho=>?_)
 simp only [lM,GI]
 have hC:KJ fu (lM fu) (.mk k n xs) o=some (.inr (u7 k n o)):=by
  unfold KJ u7
  simp only [aA.gKind_mk,aA.gName_mk]
  by_cases hk:k=1
  ·rw [if_pos hk]
   refine t1 (by simp [hk]) (rD (ajT fu o n) ?_)
   cases aiV o n with
   |true=>exact pK rfl rfl
   |false=>exact t1 rfl (s5 (by simp only [List.length_cons,List.length_nil];omega) rfl)
  ·rw [if_neg hk]
   exact pK (by simp [hk]) rfl
 have hl:=FE k n o
 refine soR hC (soR (s:=aaC xs (u7 k n o)) ?_ rfl)
 unfold T9
 simp only [aA.gArgs_mk]
 rw [p6 (l:=xs) (g:=fun s x=>vsO x s) (fun i s=>s.length+wtl (xs.drop i)≤68719476736) (fun i s hi hp=>?_) (by rw [List.drop_zero];omega),OO]
 rw [rF hi,BU] at hp
 refine⟨?_,?_⟩
 ·unfold T8
  simp only [aA.gArgs_mk]
  exact rD (hf _ (iU hi) s (by omega)) rfl
 ·have:=ah5 (bB xs i) s
  omega
theorem X1: ∀t:aA,b5 fun fu=> ∀o:List ByteArray,o.length+1+Tr.bulkL t.tr≤68719476736→cX fu t o=some (vsO t o):=by
 refine aA.ind fun k n xs ih=>?_
 have hw:=BT k n xs
 refine b5.succ ((b5.list ih).imp fun fu hf o ho=>?_)
 simp only [cX,lF]
 have hC:qJ fu (.mk k n xs) o=some (u7 k n o):=by
  unfold qJ u7
  simp only [aA.gKind_mk,aA.gName_mk]
  by_cases hk:k=1
  ·rw [if_pos hk]
   refine t1 (by simp [hk]) (rD (XS fu o n) ?_)
   cases aiV o n with
   |true=>exact pK rfl rfl
   |false=>exact t1 rfl (s5 (by simp only [List.length_cons,List.length_nil];omega) rfl)
  ·rw [if_neg hk]
   exact pK (by simp [hk]) rfl
 have hl:=FE k n o
 refine rD hC (soR (s:=aaC xs (u7 k n o)) ?_ rfl)
 unfold oP
 simp only [aA.gArgs_mk]
 rw [p6 (l:=xs) (g:=fun s x=>vsO x s) (fun i s=>s.length+wtl (xs.drop i)≤68719476736) (fun i s hi hp=>?_) (by rw [List.drop_zero];omega),OO]
 rw [rF hi,BU] at hp
 refine⟨?_,?_⟩
 ·unfold oO
  simp only [aA.gArgs_mk]
  exact rD (hf _ (iU hi) s (by omega)) rfl
 ·have:=ah5 (bB xs i) s
  omega
mutual
def hpT:aA→Bool
 | .mk k _ xs=>amK xs||decide (k=3)
def amK:List aA→Bool
 | []=>false
 |x::r=>hpT x||amK r
end
theorem RZ: ∀xs:List aA,amK xs=xs.any hpT
 | []=>rfl
 |x::r=>by rw [amK,RZ r,List.any_cons]
theorem abJ: ∀t:aA,b5 fun fu=>dU fu t=some (hpT t):=by
 refine aA.ind fun k n xs ih=>?_;refine b5.succ ((b5.list ih).imp fun fu hf=>?_)
 simp only [dU,qP]
 rw [ah1 (l:=xs) (p:=hpT) (b:=decide (k=3)) ?_ rfl,← RZ]
 ·rfl
 ·unfold zG
  simp only [aA.gArgs_mk]
  exact pZ (p:=hpT) (r:=fun _=>true) (fun i hi=>by
   unfold zF
   simp only [aA.gArgs_mk]
   refine rD (hf _ (iU hi)) ?_
   cases hpT (bB xs i)<;>rfl)
theorem ahS{α:Type}(p:α→Bool): ∀(l:List α) (b:Bool),l.foldl (fun b x=>b||p x) b=(b||l.any p)
 | [],b=>by simp
 |a::l,b=>by rw [List.foldl_cons,ahS p l,List.any_cons,Bool.or_assoc]
theorem U3: ∀t:aA,b5 fun fu=> ∀c:Bool,cO fu t c=some (c||hpT t):=by
 refine aA.ind fun k n xs ih=>?_;refine b5.succ ((b5.list ih).imp fun fu hf c=>?_)
 simp only [cO,kH]
 have hC:nT fu (.mk k n xs) c=some (c||decide (k=3)):=by
  unfold nT
  simp only [aA.gKind_mk]
  cases c<;>rfl
 refine rD hC (soR (s:=((c||decide (k=3))||xs.any hpT)) ?_ ?_)
 ·unfold nC
  simp only [aA.gArgs_mk]
  rw [p6 (l:=xs) (g:=fun s x=>s||hpT x) (fun _ _=>True) (fun i s hi _=>⟨?_,trivial⟩) trivial,ahS]
  unfold nB
  simp only [aA.gArgs_mk]
  exact rD (hf _ (iU hi) s) rfl
 ·rw [hpT,RZ]
  cases c<;>cases decide (k=3)<;>simp
def rO(t:aA):Bool:=decide ((((vsO t []).length:Nat):Int)=0)&& !hpT t
theorem YE(t:aA)(hb:Tr.bulkL (aA.tr t)≤68719476735):cA Tryz.prog 97 [(aA.pv t)] (.t (.leaf (.bool (rO t)))):=by
 obtain⟨fu,h1,h2⟩:=((agY t).and (abJ t)).get
 refine YF fu t _ ?_
 unfold O1 nI rO
 refine rD (rD (h1 [] (by simp only [List.length_nil];omega)) rfl) ?_
 cases hd:decide ((((vsO t []).length:Nat):Int)=0) with
 |true=>exact t1 rfl (rD h2 rfl)
 |false=>exact pK rfl rfl
theorem LJ(t:aA)(hb:Tr.bulkL (aA.tr t)≤68719476735):cA Tryz.prog 43 [(aA.pv t)] (.t (.leaf (.bool (rO t)))):=by
 obtain⟨fu,h1,h2⟩:=((X1 t).and (U3 t)).get
 refine XT fu t _ ?_
 have hv:qG fu t=some (vsO t []):=by
  unfold qG xZ
  refine rD (soR (s:=vsO t []) ?_ rfl) rfl
  unfold C8
  rw [p6 (l:= [t]) (g:=fun s x=>vsO x s) (fun i s=>i=0→s= []) (fun i s hi hp=>?_) (fun _=>rfl)]
  ·rfl
  ·obtain rfl:i=0:=by simp only [List.length_cons,List.length_nil] at hi;omega
   obtain rfl:=hp rfl
   refine⟨?_,fun h=>by omega⟩
   unfold C7
   exact rD (h1 [] (by simp only [List.length_nil];omega)) rfl
 unfold OV rO t8
 refine rD hv ?_
 cases hd:decide ((((vsO t []).length:Nat):Int)=0) with
 |true=>exact t1 rfl (rD (rD (h2 false) rfl) (by simp))
 |false=>exact pK rfl rfl
def p7(a b:aA):Bool:=kY b a&& !kY a b
theorem NQ(a b:aA)(ha:Tr.bulkL (aA.tr a)≤68719476735)(hb:Tr.bulkL (aA.tr b)≤68719476735):cA Tryz.prog 96 [(aA.pv a),(aA.pv b)] (.t (.leaf (.bool (p7 a b)))):=by
 refine NR 0 a b _ ?_
 unfold DC mB p7
 refine rD (s5 hb (s5 ha rfl)) ?_
 cases hd:kY b a with
 |true=>exact t1 rfl (rD (s5 ha (s5 hb rfl)) rfl)
 |false=>exact pK rfl rfl
theorem BA(a b:aA)(ha:Tr.bulkL (aA.tr a)≤68719476735)(hb:Tr.bulkL (aA.tr b)≤68719476735):cA Tryz.prog 41 [(aA.pv a),(aA.pv b)] (.t (.leaf (.bool (p7 a b)))):=by
 refine M3 0 a b _ ?_
 unfold C6 p7
 refine s5 hb (s5 ha ?_)
 cases hd:kY b a with
 |true=>exact t1 rfl rfl
 |false=>exact pK rfl rfl
end Go.Proofs.YtpioomclpaiomaaGreat.W

namespace Go.Proofs.YtpioomclpaiomaaGreat.W
set_option maxRecDepth 100000
set_option maxHeartbeats 40000000
noncomputable section
open Go.RowKit Go.Proofs
set_option linter.unusedSimpArgs false
set_option linter.unusedVariables false
attribute [local irreducible] lt
def DM(m:aP→aI→Option ((List aC))):Prop:= ∀(pw:aP) (pg:aI) (r:(List aC)),m pw pg=some r→cA Tryz.prog 39 [(aP.pv pw),(aI.pv pg)] (cK r:PV)
def nZ(fu:Nat)(pw:aP)(pg:aI)(x2:List aC):Nat→((List aC))→Option (LR ((List aC)) ((List aC))):=
 fun i3 v5=>gd (0≤(bB x2 i3).gPackage∧((bB x2 i3).gPackage).toNat<(pw.gPackages).length)
 (lt (bB pw.gPackages (((bB x2 i3).gPackage).toNat)) (fun y9=>
 gd (0≤(bB x2 i3).gAt∧((bB x2 i3).gAt).toNat<(y9.gInstances).length)
 (lt (bB y9.gInstances (((bB x2 i3).gAt).toNat)) (fun y12=>
 sw (decide (y12.gTrait=pg.gTrait))
 (gd (Tr.bulkL (aA.tr y12.gHead)≤68719476735)
 (gd (Tr.bulkL (aA.tr pg.gType)≤68719476735)
 (sw (kY y12.gHead pg.gType)
 (gd ((v5).length+(([(bB x2 i3)]:List aC)).length≤68719476736)
 (some (.next (v5++([(bB x2 i3)]:List aC)))))
 (some (.next v5)))))
 (some (.next v5))))))
def tK(fu:Nat)(pw:aP)(pg:aI)(x2:List aC):Option (((List aC))⊕((List aC))):=
 loopN (nZ fu pw pg x2) (x2.length-0) 0 ([])
def jN(fu:Nat)(pw:aP)(pg:aI):Option ((List aC)):=
 bd (rQ fu pw) (fun x2=>
 so (tK fu pw pg x2) (fun v5=>
 some v5))
theorem tL(fu:Nat):DM (jN fu):=by
 intro pw pg r H
 have H:=fF H
 refine qI Tryz.func39 (fun C hC=>?_)
 refine qS (qR (q1 (kQ ([bZ pw.gPackages])) (q1 (kQ (rV pg)) (q1 aF (qN (qS (qR (q1 (wA ([]:List aC) pP BV) (q1 aF (qN (qS (qR (q1 (cY [bZ pw.gPackages] vK) ?_)))))))))))))
 refine bU H fun x2 z1 H=>(q1 (bQ Tryz.func75 (NJ fu pw _ z1)) (q1 aF (qN ?_)))
 iterate 2 refine qS ?_
 refine qR (q1 aF (qN ?_))
 refine kV 6 (aC.trs_len _) (fun hl6=>?_)
 refine cM (σ:=(List aC)) (fun i3 v5=>⟨[(2,.ptr 0 0),(3,.ptr 1 0),(4,.nil),(5,f8 v5 0),(6,cK x2),(7,pN i3)],⟨[some ⟨26,[bZ pw.gPackages]⟩,some ⟨37,rV pg⟩],[⟨45,2,aC.trs (v5),false⟩]⟩⟩) (fun v5=>⟨[(4,.nil),(5,f8 v5 0)],⟨[some ⟨26,[bZ pw.gPackages]⟩,some ⟨37,rV pg⟩],[⟨45,2,aC.trs (v5),false⟩]⟩⟩) (gW H) ?_ ?_
 ·rintro i3 v5 H
  iterate 2 refine qS ?_
  refine qR ?_
  iterate 2 refine q1 aF ?_
  refine q1 (eR pP (aC.trs_len _)) (q1 iQ (qN ?_))
  refine eO H (fun h7 h7l H=>?_) (fun h7 H=>?_)
  ·have h7n:=bF h7
   refine aO.skip (qS (aO.block (qS (c9 H fun z8 H=>(gU H fun y9 h10 H=>(c9 H fun z11 H=>(gU H fun y12 h13 H=>(dW (dI [2] (bC nQ) (dB [18] 0 1 (vQ EV) (dI [6] aF (dI [7] aF (dI [20,21] (jH h7n pP) ?_)))))))))))))
   refine dI [22] (rC vS) (dI [23] (p9 kZ) (dI [19,24] (rIm h10 z8 zY) (dI [25] (rC nP) (dI [26] (p9 BM) (dI [6] aF (dI [7] aF (dI [28,29] (jH h7n pP) (dI [30] (rC I4) (dI [31] (p9 kZ) (dI [27,32] (rIm h13 z11 xT) (dI [33] (lB (aG.cs y12) pD) (dE [] (iG tX) (m4 [8,34] (b3 s4) ?_)))))))))))))
   refine dN (qS (qR (q1 (bC RW) (q1 (bL fO) (q1 (bC RU) (q1 (bL fO) (q1 JL (q1 aF ?_))))))))
   refine eK 40 H (fun g14 H=>?_) fun g14 H=>?_
   ·refine qg g14 (bC m9) (qg g14 (cY [pI y12.gHead.gKind,pS y12.gHead.gName,aW y12.gHead.gArgs] b8) (qg g14 (bC xU) (qg g14 (cY [pI pg.gType.gKind,pS pg.gType.gName,aW pg.gType.gArgs] b8) (c9 H fun z15 H=>(c9 H fun z16 H=>(qg g14 (bQ Tryz.func99 (O2 y12.gHead pg.gType z15 z16)) (q1 (b0 g14) (qN ?_))))))))
    refine bH H (fun h17 H=>?_) (fun h17 H=>?_)
    ·refine qR ?_
     iterate 3 refine q1 aF ?_
     refine q1 (jH h7n pP) (q1 (lB (aC.cs (bB x2 i3)) xC) (q1 (iW ([(bB x2 i3)]:List aC) pP BV) (c9 H fun z18 H=>(q1 (oE z18 pP anA) (q1 aF (qN (qR (q1 aF (q1 (aV.addI rfl rfl rfl rfl (c:=((i3+1:Nat):Int)) (by omega) (by omega)) (q1 aF (qN ?_)))))))))))
     exact j8 h7l ⟨_,(aZ H:),b9⟩
    refine aO.skip (qR (q1 aF (q1 (aV.addI rfl rfl rfl rfl (c:=((i3+1:Nat):Int)) (by omega) (by omega)) (q1 aF (qN ?_)))))
    exact j8 h7l ⟨_,(aZ H:),b9⟩
   iterate 5 refine qk g14 ?_
   refine q1 (cC g14) (qN (kP rfl (aO.skip (qR (q1 aF (q1 (aV.addI rfl rfl rfl rfl (c:=((i3+1:Nat):Int)) (by omega) (by omega)) (q1 aF (qN ?_))))))))
   exact j8 h7l ⟨_,(aZ H:),b9⟩
  refine aO.exit ?_;exact lP ⟨_,H,b9⟩
 rintro v5 H
 refine qS (qR ?_)
 iterate 2 refine q1 aF ?_
 refine qN (aO.ret ?_)
 cases aZ H
 exact bR
def L4(m:aP→aI→Option (aC×Int)):Prop:= ∀(pa0:aP) (pa1:aI) (r:aC×Int),m pa0 pa1=some r→cA Tryz.prog 37 [(aP.pv pa0),(aI.pv pa1)] (.tup [(aC.pv r.1),pI r.2]:PV)
def yO(fu:Nat)(pa0:aP)(pa1:aI)(x2:List aC)(i3:Nat)(y7:aJ)(y10:aG):Nat→Bool→Option (LR Bool (LR Unit (aC×Int))):=
 fun i12 v13=>gd (0≤(bB x2 i12).gPackage∧((bB x2 i12).gPackage).toNat<(pa0.gPackages).length)
 (lt (bB pa0.gPackages (((bB x2 i12).gPackage).toNat)) (fun y16=>
 gd (0≤(bB x2 i12).gAt∧((bB x2 i12).gAt).toNat<(y16.gInstances).length)
 (lt (bB y16.gInstances (((bB x2 i12).gAt).toNat)) (fun y19=>
 sw (v13)
 (gd (Tr.bulkL (aA.tr y19.gHead)≤68719476735)
 (gd (Tr.bulkL (aA.tr y10.gHead)≤68719476735)
 (some (.next (!(p7 y19.gHead y10.gHead))))))
 (some (.next false))))))
def sH(fu:Nat)(pa0:aP)(pa1:aI)(x2:List aC)(i3:Nat)(y7:aJ)(y10:aG):Option ((LR Unit (aC×Int))⊕Bool):=
 loopN (yO fu pa0 pa1 x2 i3 y7 y10) (x2.length-0) 0 true
def yM(fu:Nat)(pa0:aP)(pa1:aI)(x2:List aC)(i3:Nat)(y7:aJ)(y10:aG)(v13:Bool):Option ((LR Unit (aC×Int))⊕(Bool×Bool×Bool)):=
 sw (v13)
 (sw (y10.gDefault)
 (gd (Tr.bulkL (aA.tr pa1.gType)≤68719476735)
 (sw (!(rO pa1.gType))
 (some (.inl (.ret ((aC.mk 0 0),2))))
 (some (.inr (y10.gDefault,y10.gDefault,(!(rO pa1.gType)))))))
 (some (.inr (y10.gDefault,y10.gDefault,false))))
 (some (.inr (false,false,false)))
def yN(fu:Nat)(pa0:aP)(pa1:aI)(x2:List aC):Nat→Unit→Option (LR Unit (aC×Int)):=
 fun i3 _=>gd (0≤(bB x2 i3).gPackage∧((bB x2 i3).gPackage).toNat<(pa0.gPackages).length)
 (lt (bB pa0.gPackages (((bB x2 i3).gPackage).toNat)) (fun y7=>
 gd (0≤(bB x2 i3).gAt∧((bB x2 i3).gAt).toNat<(y7.gInstances).length)
 (lt (bB y7.gInstances (((bB x2 i3).gAt).toNat)) (fun y10=>
 so (sH fu pa0 pa1 x2 i3 y7 y10) (fun v13=>
 so (yM fu pa0 pa1 x2 i3 y7 y10 v13) (fun(v24,v25,v26)=>
 sw (v13)
 (some (.ret ((bB x2 i3),0)))
 (some (.next ()))))))))
def yP(fu:Nat)(pa0:aP)(pa1:aI)(x2:List aC):Option ((aC×Int)⊕Unit):=
 loopN (yN fu pa0 pa1 x2) (x2.length-0) 0 ()
def pG(fu:Nat)(pa0:aP)(pa1:aI):Option (aC×Int):=
 bd (jN fu pa0 pa1) (fun x2=>
 so (yP fu pa0 pa1 x2) (fun _=>
 some ((aC.mk 0 0),1)))
theorem J1(fu:Nat):L4 (pG fu):=by
 intro pa0 pa1 r H
 have H:=fF H
 refine qI Tryz.func37 (fun C hC=>?_)
 refine qS (qR (q1 (kQ ([bZ pa0.gPackages])) (q1 (kQ (rV pa1)) (q1 (iG BV) (q1 aF (qN (qS (qR (q1 (cY [bZ pa0.gPackages] vK) (q1 (cY [pS pa1.gTrait,pI pa1.gType.gKind,pS pa1.gType.gName,aW pa1.gType.gArgs] HZ) (bU H fun x2 z1 H=>(q1 (bQ Tryz.func39 (tL fu pa0 pa1 _ z1)) (q1 aF ?_)))))))))))))
 refine qN ?_
 iterate 2 refine qS ?_
 refine qR (q1 aF (qN ?_))
 refine kV 6 (aC.trs_len _) (fun hl4=>?_)
 refine cM (σ:=Unit) (fun i3 _=>⟨[(2,.ptr 0 0),(3,.ptr 1 0),(4,.ptr 2 0),(5,pI 0),(6,cK x2),(7,pN i3)],⟨[some ⟨26,[bZ pa0.gPackages]⟩,some ⟨37,rV pa1⟩,some ⟨45,[pI 0,pI 0]⟩],[]⟩⟩) (fun _=>⟨[(4,.ptr 2 0),(5,pI 0)],⟨[some ⟨26,[bZ pa0.gPackages]⟩,some ⟨37,rV pa1⟩,some ⟨45,[pI 0,pI 0]⟩],[]⟩⟩) (gW H) ?_ ?_
 ·rintro i3 ⟨⟩ H
  iterate 2 refine qS ?_
  refine qR ?_
  iterate 2 refine q1 aF ?_
  refine q1 (eR pP (aC.trs_len _)) (q1 iQ (qN ?_))
  refine eO H (fun h5 h5l H=>?_) (fun h5 H=>?_)
  ·have h5n:=bF h5
   refine aO.skip (qS (aO.block (qS (c9 H fun z6 H=>(gU H fun y7 h8 H=>(c9 H fun z9 H=>(gU H fun y10 h11 H=>(dW (dI [2] (bC nQ) (dB [21] 0 1 (vQ EV) (dI [6] aF (dI [7] aF (dI [23,24] (jH h5n pP) ?_)))))))))))))
   refine dI [25] (rC vS) (dI [26] (p9 kZ) (dI [22,27] (rIm h8 z6 zY) (dI [28] (rC nP) (dI [29] (p9 BM) (dI [6] aF (dI [7] aF (dI [31,32] (jH h5n pP) (dI [33] (rC I4) (dI [34] (p9 kZ) (dI [30,35] (rIm h11 z9 xT) (dI [36] (lB (aG.cs y10) pD) (dE [] (iG tX) (m4 [8,37] (b3 s4) ?_)))))))))))))
   refine dN (qS (qR (q1 aF (qN ?_))))
   iterate 2 refine qS ?_
   refine qR (q1 aF (qN ?_))
   refine cM (σ:=Bool) (fun i12 v13=>⟨[(2,.ptr 0 0),(3,.ptr 1 0),(4,.ptr 2 0),(5,pI 0),(6,cK x2),(7,pN i3),(8,.ptr 3 0),(9,pB v13),(10,pN i12),(15,pN i3),(16,cK x2),(17,pN x2.length),(18,pB (decide ((i3:Int)<(x2.length:Int)))),(21,.ptr 0 0),(22,bZ pa0.gPackages),(23,cK x2),(24,pN i3),(25,.eptr (aC.cs (bB x2 i3))),(26,.eptr (aC.cs (bB x2 i3))),(27,pI ((bB x2 i3).gPackage)),(28,.eptr (aJ.cs y7)),(29,.eptr ((aJ.cs y7).drop 4)),(30,nH y7.gInstances),(31,cK x2),(32,pN i3),(33,.eptr (aC.cs (bB x2 i3))),(34,.eptr ((aC.cs (bB x2 i3)).drop 1)),(35,pI ((bB x2 i3).gAt)),(36,.eptr (aG.cs y10)),(37,(aG.pv y10))],⟨[some ⟨26,[bZ pa0.gPackages]⟩,some ⟨37,rV pa1⟩,some ⟨45,[pI 0,pI 0]⟩,some ⟨55,eH y10⟩],[]⟩⟩) (fun v13=>⟨[(2,.ptr 0 0),(3,.ptr 1 0),(4,.ptr 2 0),(5,pI 0),(6,cK x2),(7,pN i3),(8,.ptr 3 0),(9,pB v13),(15,pN i3),(16,cK x2),(17,pN x2.length),(18,pB (decide ((i3:Int)<(x2.length:Int)))),(21,.ptr 0 0),(22,bZ pa0.gPackages),(23,cK x2),(24,pN i3),(25,.eptr (aC.cs (bB x2 i3))),(26,.eptr (aC.cs (bB x2 i3))),(27,pI ((bB x2 i3).gPackage)),(28,.eptr (aJ.cs y7)),(29,.eptr ((aJ.cs y7).drop 4)),(30,nH y7.gInstances),(31,cK x2),(32,pN i3),(33,.eptr (aC.cs (bB x2 i3))),(34,.eptr ((aC.cs (bB x2 i3)).drop 1)),(35,pI ((bB x2 i3).gAt)),(36,.eptr (aG.cs y10)),(37,(aG.pv y10))],⟨[some ⟨26,[bZ pa0.gPackages]⟩,some ⟨37,rV pa1⟩,some ⟨45,[pI 0,pI 0]⟩,some ⟨55,eH y10⟩],[]⟩⟩) (gW H) ?_ ?_
   ·rintro i12 v13 H
    iterate 2 refine qS ?_
    refine qR ?_
    iterate 2 refine q1 aF ?_
    refine q1 (eR pP (aC.trs_len _)) (q1 iQ (qN ?_))
    refine eO H (fun h14 h14l H=>?_) (fun h14 H=>?_)
    ·have h14n:=bF h14
     refine aO.skip (qS (aO.block (qS (c9 H fun z15 H=>(gU H fun y16 h17 H=>(c9 H fun z18 H=>(gU H fun y19 h20 H=>(dW (dI [2] (bC nQ) (dB [44] 0 1 (vQ EV) (dI [6] aF (dI [10] aF (dI [46,47] (jH h14n pP) ?_)))))))))))))
     refine dI [48] (rC vS) (dI [49] (p9 kZ) (dI [45,50] (rIm h17 z15 zY) (dI [51] (rC nP) (dI [52] (p9 BM) (dI [6] aF (dI [10] aF (dI [54,55] (jH h14n pP) (dI [56] (rC I4) (dI [57] (p9 kZ) (dI [53,58] (rIm h20 z18 xT) (dI [59] (lB (aG.cs y19) pD) (dE [] (iG tX) (m4 [11,60] (b3 s4) ?_)))))))))))))
     refine dN (qR ?_)
     iterate 2 refine q1 aF ?_
     refine eK 62 H (fun g21 H=>?_) fun g21 H=>?_
     ·refine qg g21 (bC m9) (qg g21 (cY [pI y19.gHead.gKind,pS y19.gHead.gName,aW y19.gHead.gArgs] b8) (qg g21 (bC m9) (qg g21 (cY [pI y10.gHead.gKind,pS y10.gHead.gName,aW y10.gHead.gArgs] b8) (c9 H fun z22 H=>(c9 H fun z23 H=>(qg g21 (bQ Tryz.func96 (NQ y19.gHead y10.gHead z22 z23)) (qg g21 iS (q1 (b0 g21) (q1 aF (qN (qR (q1 aF (q1 (aV.addI rfl rfl rfl rfl (c:=((i12+1:Nat):Int)) (by omega) (by omega)) ?_)))))))))))))
      refine q1 aF (qN ?_)
      exact j8 h14l ⟨_,(aZ H:),b9⟩
     iterate 6 refine qk g21 ?_
     refine q1 (cC g21) (q1 aF (qN (qR (q1 aF (q1 (aV.addI rfl rfl rfl rfl (c:=((i12+1:Nat):Int)) (by omega) (by omega)) (q1 aF (qN ?_)))))))
     exact j8 h14l ⟨_,(aZ H:),b9⟩
    refine aO.exit ?_;exact lP ⟨_,H,b9⟩
   rintro v13 H
   refine qS ?_;refine qF (σ:=Bool×Bool×Bool) (fun(v24,v25,v26)=>⟨[(2,.ptr 0 0),(3,.ptr 1 0),(4,.ptr 2 0),(5,pI 0),(6,cK x2),(7,pN i3),(8,.ptr 3 0),(9,pB v13),(15,pN i3),(16,cK x2),(17,pN x2.length),(18,pB (decide ((i3:Int)<(x2.length:Int)))),(21,.ptr 0 0),(22,bZ pa0.gPackages),(23,cK x2),(24,pN i3),(25,.eptr (aC.cs (bB x2 i3))),(26,.eptr (aC.cs (bB x2 i3))),(27,pI ((bB x2 i3).gPackage)),(28,.eptr (aJ.cs y7)),(29,.eptr ((aJ.cs y7).drop 4)),(30,nH y7.gInstances),(31,cK x2),(32,pN i3),(33,.eptr (aC.cs (bB x2 i3))),(34,.eptr ((aC.cs (bB x2 i3)).drop 1)),(35,pI ((bB x2 i3).gAt)),(36,.eptr (aG.cs y10)),(37,(aG.pv y10)),(70,pB v13),(71,pB v13),(74,pB v24),(75,pB v25),(80,pB v26)],⟨[some ⟨26,[bZ pa0.gPackages]⟩,some ⟨37,rV pa1⟩,some ⟨45,[pI 0,pI 0]⟩,some ⟨55,eH y10⟩],[]⟩⟩) (gW H) (fun H=>?_) ?_
   ·refine qS (qR ?_)
    iterate 2 refine q1 aF ?_
    refine eK 71 H (fun g27 H=>?_) fun g27 H=>?_
    ·refine qg g27 (bC RX) (qg g27 (bL sh4) (q1 (b0 g27) (q1 aF ?_)))
     refine eK 75 H (fun g28 H=>?_) fun g28 H=>?_
     ·refine qg g28 (bC xU) (qg g28 (cY [pI pa1.gType.gKind,pS pa1.gType.gName,aW pa1.gType.gArgs] b8) (c9 H fun z29 H=>(qg g28 (bQ Tryz.func97 (YE pa1.gType z29)) (qg g28 iS (q1 (b0 g28) (qN ?_))))))
      refine bH H (fun h30 H=>?_) (fun h30 H=>?_)
      ·refine qS (qR (q1 (gD BV aeX) (q1 (b3 V3) (q1 aF (qN (aO.ret ?_))))))
       obtain rfl:_=r:=(rK (F3 (aZ H)):)
       exact lW (hr:=⟨⟨_,_,_,rfl,rfl,xC,rfl,rfl⟩,rfl,trivial⟩)
      refine aO.skip ?_;exact eC ⟨_,(aZ H:),b9⟩
     iterate 4 refine qk g28 ?_
     refine q1 (cC g28) (qN (kP rfl (aO.skip ?_)))
     exact eC ⟨_,(aZ H:),b9⟩
    iterate 2 refine qk g27 ?_
    refine q1 (cC g27) (q1 aF ?_)
    iterate 4 refine qk rfl ?_
    refine q1 (cC rfl) (qN (kP rfl (aO.skip ?_)))
    exact eC ⟨_,(aZ H:),b9⟩
   rintro⟨v24,v25,v26⟩ H
   refine qS (qR (q1 aF (qN ?_)))
   refine bH H (fun h31 H=>?_) (fun h31 H=>?_)
   ·refine qS (qR ?_)
    iterate 2 refine q1 aF ?_
    refine q1 (jH h5n pP) (q1 (lB (aC.cs (bB x2 i3)) xC) (q1 (b3 V3) (q1 aF (qN (aO.ret ?_)))))
    obtain rfl:_=r:=(rK (aZ H):)
    exact lW (hr:=⟨⟨_,_,_,rfl,rfl,xC,rfl,rfl⟩,rfl,trivial⟩)
   refine aO.skip (qR (q1 aF (q1 (aV.addI rfl rfl rfl rfl (c:=((i3+1:Nat):Int)) (by omega) (by omega)) (q1 aF (qN ?_)))))
   exact j8 h5l ⟨_,(aZ H:),b9⟩
  refine aO.exit ?_;exact lP ⟨_,H,b9⟩
 rintro⟨⟩ H
 refine qS (qR (q1 (gD BV aeX) (q1 (b3 V3) (q1 aF (qN (aO.ret ?_))))))
 cases aZ H
 exact lW (hr:=⟨⟨_,_,_,rfl,rfl,xC,rfl,rfl⟩,rfl,trivial⟩)
def GP(m:aC→aP→aG→Option Bool):Prop:= ∀(pother:aC) (c1:aP) (c2:aG) (r:Bool),m pother c1 c2=some r→cP Tryz.prog 95 [(aC.pv pother),.ptr 0 0,.ptr 1 0] ⟨[some ⟨26,[bZ c1.gPackages]⟩,some ⟨55,eH c2⟩],[]⟩ (fun q t=>q=(pB r:PV)∧t=⟨[some ⟨26,[bZ c1.gPackages]⟩,some ⟨55,eH c2⟩],[]⟩)
def rB(fu:Nat)(pother:aC)(c1:aP)(c2:aG):Option Bool:=
 bd (sP fu c1 pother) (fun(x2,x3)=>
 gd (Tr.bulkL (aA.tr x2.gHead)≤68719476735)
 (gd (Tr.bulkL (aA.tr c2.gHead)≤68719476735)
 (some (p7 x2.gHead c2.gHead))))
theorem EC(fu:Nat):GP (rB fu):=by
 intro pother c1 c2 r H
 have H:=fF H
 refine qI Tryz.func95 (fun C hC=>?_)
 refine qS (qR (q1 (kQ ([pI pother.gPackage,pI pother.gAt])) (q1 aF (qN (qS (qR (q1 (cY [bZ c1.gPackages] vK) (q1 (cY [pI pother.gPackage,pI pother.gAt] xC) (fQ H fun x2 x3 z1 H=>(q1 (bQ Tryz.func81 (w5 fu c1 pother _ z1)) (q1 aF ?_)))))))))))
 iterate 2 refine q1 BH ?_
 refine q1 (iG tX) (q1 (b3 s4) (q1 aF (qN (qS (qR (q1 (bC m9) (q1 (cY [pI x2.gHead.gKind,pS x2.gHead.gName,aW x2.gHead.gArgs] b8) (q1 (bC m9) (q1 (cY [pI c2.gHead.gKind,pS c2.gHead.gName,aW c2.gHead.gArgs] b8) (c9 H fun z4 H=>(c9 H fun z5 H=>(q1 (bQ Tryz.func41 (BA x2.gHead c2.gHead z4 z5)) (q1 aF ?_)))))))))))))
 refine qN (aO.ret ?_)
 cases aZ H
 exact bR
def nM(m:(List aC)→aP→aG→Option Int):Prop:= ∀(ps:List aC) (c1_0:aP) (c1_1:aG) (r:Int),m ps c1_0 c1_1=some r→cP Tryz.prog 126 [cK ps,.fn 95 [.ptr 0 0,.ptr 1 0]] ⟨[some ⟨26,[bZ c1_0.gPackages]⟩,some ⟨55,eH c1_1⟩],[]⟩ (fun q t=>q=(pI r:PV)∧t=⟨[some ⟨26,[bZ c1_0.gPackages]⟩,some ⟨55,eH c1_1⟩],[]⟩)
def iJ(fu:Nat)(ps:List aC)(c1_0:aP)(c1_1:aG):Nat→Unit→Option (LR Unit Int):=
 fun i1 _=>bd (rB fu (bB ps i1) c1_0 c1_1) (fun x5=>
 sw (x5)
 (some (.ret (i1:Int)))
 (some (.next ())))
def iK(fu:Nat)(ps:List aC)(c1_0:aP)(c1_1:aG):Option (Int⊕Unit):=
 loopN (iJ fu ps c1_0 c1_1) (ps.length-0) 0 ()
def d9(fu:Nat)(ps:List aC)(c1_0:aP)(c1_1:aG):Option Int:=
 so (iK fu ps c1_0 c1_1) (fun _=>
 some (-1))
theorem nA(fu:Nat):nM (d9 fu):=by
 intro ps c1_0 c1_1 r H
 have H:=fF H
 refine qI Tryz.func126 (fun C hC=>?_)
 refine qS (qR (q1 aF (qN ?_)))
 iterate 2 refine qS ?_
 refine qR (q1 aF (q1 (eR pP (aC.trs_len _)) (q1 aF (qN ?_))))
 refine kV 0 (aC.trs_len _) (fun hl2=>?_)
 refine cM (σ:=Unit) (fun i1 _=>⟨[(0,cK ps),(1,.fn 95 [.ptr 0 0,.ptr 1 0]),(4,pI 0),(7,pN ps.length),(8,pN i1)],⟨[some ⟨26,[bZ c1_0.gPackages]⟩,some ⟨55,eH c1_1⟩],[]⟩⟩) (fun _=>⟨[(4,pI 0)],⟨[some ⟨26,[bZ c1_0.gPackages]⟩,some ⟨55,eH c1_1⟩],[]⟩⟩) (gW H) ?_ ?_
 ·rintro i1 ⟨⟩ H
  refine qS (qR (q1 iQ (qN (qS ?_))))
  refine eO H (fun h3 h3l H=>?_) (fun h3 H=>?_)
  ·have h3n:=bF h3
   refine aO.skip (qS (aO.block (qS (qR ?_))))
   iterate 2 refine q1 aF ?_
   refine qN (qS (qR ?_))
   iterate 3 refine q1 aF ?_
   refine q1 (jH h3n pP) (q1 (lB (aC.cs (bB ps i1)) xC) (bU H fun x5 z4 H=>(q1 (aV.callVPE (pre:=⟨[some ⟨26,[bZ c1_0.gPackages]⟩,some ⟨55,eH c1_1⟩],[]⟩) (st':=⟨[some ⟨26,[bZ c1_0.gPackages]⟩,some ⟨55,eH c1_1⟩],[]⟩) (ps:= [_]) (cs:= [.ptr 0 0,.ptr 1 0]) (qs:= [(aC.pv (bB ps i1)),.ptr 0 0,.ptr 1 0]) [0,1] [] rfl rfl rfl Tryz.func95 (by kernel_rfl) rfl rfl rfl (l6.of ⟨⟨_,rfl,rfl,lG,rfl⟩,⟨⟨_,rfl,rfl,lG,rfl⟩,trivial⟩⟩ trivial (by decide) (by decide)) lG rfl rfl rfl (EC fu (bB ps i1) c1_0 c1_1 _ z4)) (qN ?_))))
   refine bH H (fun h6 H=>?_) (fun h6 H=>?_)
   ·refine qS (qR ?_)
    iterate 2 refine q1 aF ?_
    refine qN (aO.ret ?_)
    obtain rfl:_=r:=(rK (aZ H):)
    exact bR
   refine aO.skip (qR (q1 (aV.addI rfl rfl rfl rfl (c:=((i1+1:Nat):Int)) (by omega) (by omega)) (q1 aF (qN ?_))))
   exact j8 h3l ⟨_,(aZ H:),b9⟩
  refine aO.exit ?_;exact lP ⟨_,H,b9⟩
 rintro⟨⟩ H
 refine qS (qR (q1 aF (qN (aO.ret ?_))))
 cases aZ H
 exact bR
def mK(m:(List aC)→aP→aG→Option Bool):Prop:= ∀(ps:List aC) (c1_0:aP) (c1_1:aG) (r:Bool),m ps c1_0 c1_1=some r→cP Tryz.prog 94 [cK ps,.fn 95 [.ptr 0 0,.ptr 1 0]] ⟨[some ⟨26,[bZ c1_0.gPackages]⟩,some ⟨55,eH c1_1⟩],[]⟩ (fun q t=>q=(pB r:PV)∧t=⟨[some ⟨26,[bZ c1_0.gPackages]⟩,some ⟨55,eH c1_1⟩],[]⟩)
def cQ(fu:Nat)(ps:List aC)(c1_0:aP)(c1_1:aG):Option Bool:=
 bd (d9 fu ps c1_0 c1_1) (fun x2=>
 some (decide (x2≥0)))
theorem l8(fu:Nat):mK (cQ fu):=by
 intro ps c1_0 c1_1 r H
 have H:=fF H
 refine qI Tryz.func94 (fun C hC=>?_)
 refine qS (qR (q1 aF (qN (qS (qR ?_)))))
 iterate 2 refine q1 aF ?_
 refine bU H fun x2 z1 H=>(q1 (f6 [0,1] [] Tryz.func126 (nA fu ps c1_0 c1_1 _ z1)) (q1 UH (q1 aF (qN (aO.ret ?_)))))
 cases aZ H
 exact bR
def LL(m:aP→aI→Option (aC×Int)):Prop:= ∀(pw:aP) (pg:aI) (r:aC×Int),m pw pg=some r→cA Tryz.prog 36 [(aP.pv pw),(aI.pv pg)] (.tup [(aC.pv r.1),pI r.2]:PV)
def xW(fu:Nat)(pw:aP)(pg:aI):Nat→Unit→Option (LR Unit (aC×Int)):=
 fun i3 _=>lt (bB (List.filter (fun o=>jO pw pg o) (dY pw)) i3) (fun y6=>
 bd (sP fu pw y6) (fun(x9,x10)=>
 bd (cQ fu (List.filter (fun o=>jO pw pg o) (dY pw)) pw x9) (fun x12=>
 sw (x12)
 (some (.next ()))
 (sw (x9.gDefault)
 (gd (Tr.bulkL (aA.tr pg.gType)≤68719476735)
 (sw (!(rO pg.gType))
 (some (.ret ((aC.mk 0 0),2)))
 (some (.ret (y6,0)))))
 (some (.ret (y6,0)))))))
def xX(fu:Nat)(pw:aP)(pg:aI):Option ((aC×Int)⊕Unit):=
 loopN (xW fu pw pg) ((List.filter (fun o=>jO pw pg o) (dY pw)).length-0) 0 ()
def pE(fu:Nat)(pw:aP)(pg:aI):Option (aC×Int):=
 gd (wt pw≤13000000)
 (gd (Tr.bulkL (aA.tr (aI.gType pg))≤68719476735)
 (so (xX fu pw pg) (fun _=>
 some ((aC.mk 0 0),1))))
theorem I9(fu:Nat):LL (pE fu):=by
 intro pw pg r H
 have H:=fF H
 refine qI Tryz.func36 (fun C hC=>?_)
 refine qS (qR (q1 (kQ ([bZ pw.gPackages])) (q1 (kQ (rV pg)) (q1 (iG BV) (q1 aF (qN (qS (qR (q1 (cY [bZ pw.gPackages] vK) (q1 (cY [pS pg.gTrait,pI pg.gType.gKind,pS pg.gType.gName,aW pg.gType.gArgs] HZ) (c9 H fun z1 H=>(c9 H fun z2 H=>(q1 (bQ Tryz.func38 (FR pw pg z1 z2)) ?_)))))))))))))
 refine q1 aF (qN ?_)
 iterate 2 refine qS ?_
 refine qR (q1 aF (q1 (eR pP (aC.trs_len _)) (q1 aF (qN ?_))))
 refine kV 6 (aC.trs_len _) (fun hl4=>?_)
 refine cM (σ:=Unit) (fun i3 _=>⟨[(2,.ptr 0 0),(3,.ptr 1 0),(4,.ptr 2 0),(5,pI 0),(6,cK (List.filter (fun o=>jO pw pg o) (dY pw))),(15,cK (List.filter (fun o=>jO pw pg o) (dY pw))),(16,pN ((List.filter (fun o=>jO pw pg o) (dY pw)).length)),(17,pN i3)],⟨[some ⟨26,[bZ pw.gPackages]⟩,some ⟨37,rV pg⟩,some ⟨45,[pI 0,pI 0]⟩],[]⟩⟩) (fun _=>⟨[(4,.ptr 2 0),(5,pI 0)],⟨[some ⟨26,[bZ pw.gPackages]⟩,some ⟨37,rV pg⟩,some ⟨45,[pI 0,pI 0]⟩],[]⟩⟩) (gW H) ?_ ?_
 ·rintro i3 ⟨⟩ H
  refine qS (qR (q1 iQ (qN (qS ?_))))
  refine eO H (fun h5 h5l H=>?_) (fun h5 H=>?_)
  ·have h5n:=bF h5
   refine aO.skip (qS (aO.block (qS (qR (gU H fun y6 h7 H=>(q1 (yI h7 h5n pP) (q1 (lB (aC.cs y6) xC) (q1 (iG BV) (q1 (b3 V3) (qN (qS (qR (q1 (cY [bZ pw.gPackages] vK) ?_)))))))))))))
   refine q1 (cY [pI y6.gPackage,pI y6.gAt] xC) (fQ H fun x9 x10 z8 H=>(q1 (bQ Tryz.func81 (w5 fu pw y6 _ z8)) (q1 aF ?_)))
   iterate 2 refine q1 BH ?_
   refine q1 (iG tX) (q1 (b3 s4) (q1 aF (qN (qS (qR (q1 aF (q1 rMf (bU H fun x12 z11 H=>(q1 (f6 [0,4] [] Tryz.func94 (l8 fu (List.filter (fun o=>jO pw pg o) (dY pw)) pw x9 _ z11)) (q1 aF (qN ?_)))))))))))
   iterate 2 refine qS ?_
   refine qR (q1 aF (qN ?_))
   refine bH H (fun h13 H=>?_) (fun h13 H=>?_)
   ·refine aO.exit (qR (q1 (aV.addI rfl rfl rfl rfl (c:=((i3+1:Nat):Int)) (by omega) (by omega)) (q1 aF (qN ?_))))
    exact j8 h5l ⟨_,(aZ H:),b9⟩
   refine aO.skip ?_
   iterate 2 refine qS ?_
   refine qR (q1 (bC RX) (q1 (bL sh4) (q1 aF ?_)))
   refine eK 33 H (fun g14 H=>?_) fun g14 H=>?_
   ·refine qg g14 (bC xU) (qg g14 (cY [pI pg.gType.gKind,pS pg.gType.gName,aW pg.gType.gArgs] b8) (c9 H fun z15 H=>(qg g14 (bQ Tryz.func43 (LJ pg.gType z15)) (qg g14 iS (q1 (b0 g14) (qN ?_))))))
    refine bH H (fun h16 H=>?_) (fun h16 H=>?_)
    ·refine qS (qR (q1 (gD BV aeX) (q1 (b3 V3) (q1 aF (qN (aO.ret ?_))))))
     obtain rfl:_=r:=(rK (aZ H):)
     exact lW (hr:=⟨⟨_,_,_,rfl,rfl,xC,rfl,rfl⟩,rfl,trivial⟩)
    refine aO.skip (qS (qR (q1 (cY [pI y6.gPackage,pI y6.gAt] xC) (q1 (b3 V3) (q1 aF (qN (aO.ret ?_)))))))
    obtain rfl:_=r:=(rK (aZ H):)
    exact lW (hr:=⟨⟨_,_,_,rfl,rfl,xC,rfl,rfl⟩,rfl,trivial⟩)
   iterate 4 refine qk g14 ?_
   refine q1 (cC g14) (qN (kP rfl (aO.skip (qS (qR (q1 (cY [pI y6.gPackage,pI y6.gAt] xC) (q1 (b3 V3) (q1 aF (qN (aO.ret ?_))))))))))
   obtain rfl:_=r:=(rK (aZ H):)
   exact lW (hr:=⟨⟨_,_,_,rfl,rfl,xC,rfl,rfl⟩,rfl,trivial⟩)
  refine aO.exit ?_;exact lP ⟨_,H,b9⟩
 rintro⟨⟩ H
 refine qS (qR (q1 (gD BV aeX) (q1 (b3 V3) (q1 aF (qN (aO.ret ?_))))))
 cases aZ H
 exact lW (hr:=⟨⟨_,_,_,rfl,rfl,xC,rfl,rfl⟩,rfl,trivial⟩)
def af5(m:DS→Option (aI×DS)):Prop:= ∀(pc:DS) (r:aI×DS),m pc=some r→cP Tryz.prog 136 [.ptr 0 0] ⟨[some ⟨151,dC pc⟩],[]⟩ (fun q t=>q=((aI.pv r.1):PV)∧t=⟨[some ⟨151,dC r.2⟩],[]⟩)
def KF(fu:Nat)(pc:DS):Option (aI×DS):=
 bd (qX fu pc ([gO,AK]:List ByteArray) 3) (fun(x2,x3)=>
 lt (x3.after 8) (fun d4=>
 sw (decide ((x3.below 8:Int)=0))
 (bd (sY fu d4 2) (fun(x8,x9)=>
 lt (x9.after ([bD,bD,kC,eU,eN,jI,tW]:List ByteArray).length) (fun d10=>
 lt (x9.pick ([bD,bD,kC,eU,eN,jI,tW]:List ByteArray)) (fun y12=>
 some ((aI.mk y12 x8),d10)))))
 (sw (decide ((x3.below 8:Int)=1))
 (bd (iZ fu EU ([])) (fun x16=>
 lt (d4.after ([bD,bD,kC,eU,eN,jI,tW]:List ByteArray).length) (fun d17=>
 lt (d4.pick ([bD,bD,kC,eU,eN,jI,tW]:List ByteArray)) (fun y19=>
 some ((aI.mk y19 x16),d17)))))
 (sw (decide ((x3.below 8:Int)=2))
 (lt (d4.after ([EU,fK,fE]:List ByteArray).length) (fun d22=>
 lt (d4.pick ([EU,fK,fE]:List ByteArray)) (fun y24=>
 bd (iZ fu y24 ([])) (fun x27=>
 bd (iZ fu cZ ([x27]:List aA)) (fun x29=>
 lt (d22.after ([bD,bD,kC,eU,eN,jI,tW]:List ByteArray).length) (fun d30=>
 lt (d22.pick ([bD,bD,kC,eU,eN,jI,tW]:List ByteArray)) (fun y32=>
 some ((aI.mk y32 x29),d30))))))))
 (lt (d4.after ([bD,bD,kC,eU,eN,jI,tW]:List ByteArray).length) (fun d34=>
 lt (d4.pick ([bD,bD,kC,eU,eN,jI,tW]:List ByteArray)) (fun y36=>
 some ((aI.mk y36 x2),d34))))))))
theorem adC(fu:Nat):af5 (KF fu):=by
 intro pc r H
 have H:=fF H
 refine qI Tryz.func136 (fun C hC=>?_)
 refine qS (qR (q1 (iG AM) (qN (qS (qR (q1 aF (q1 (iW ([gO,AK]:List ByteArray) b6 lO) (fQ H fun x2 x3 z1 H=>(q1 (f6 [0] [] Tryz.func130 (ME fu pc ([gO,AK]:List ByteArray) 3 _ z1)) (q1 (iG hP) (q1 (b3 hH) (qN ?_))))))))))))
 iterate 2 refine qS ?_
 refine qR (q1 aF (gU H fun d4 h5 H=>(q1 (f6 [0] [] Tryz.func103 (DX h5 (gF x3 8))) (qN (aO.block (qS (qR (q1 eP (q1 aF (qN ?_))))))))))
 refine bH H (fun h6 H=>?_) (fun h6 H=>?_)
 ·refine qR (q1 aF (fQ H fun x8 x9 z7 H=>(q1 (f6 [0] [] Tryz.func87 (uT fu d4 2 _ z7)) (q1 (b3 hH) (qN (qS (gU H fun d10 h11 H=>(gU H fun y12 h13 H=>(dW (dI [0] aF (dI [] (iW ([bD,bD,kC,eU,eN,jI,tW]:List ByteArray) b6 lO) (dE [24,25] (f6 [0] [] Tryz.func86 (KO h11 h13 (fT x9 ([bD,bD,kC,eU,eN,jI,tW]:List ByteArray) (by decide)))) (dB [3] 0 1 (RC [pI x8.gKind,pS x8.gName,aW x8.gArgs] b8) ?_)))))))))))))
  refine dI [26,27] (gD AM U7) (m4 [2,28] (b3 Z8) (dN (aO.ret ?_)))
  cases aZ H
  exact bR (hr:=⟨⟨_,_,_,rfl,rfl,HZ,rfl,rfl⟩,trivial⟩)
 refine qS (qR (q1 eP (q1 aF (qN ?_))))
 refine bH H (fun h14 H=>?_) (fun h14 H=>?_)
 ·refine qR (bU H fun x16 z15 H=>(q1 (bQ Tryz.func85 (iM fu EU ([]) _ z15)) (q1 (b3 hH) (qN (qS (gU H fun d17 h18 H=>(gU H fun y19 h20 H=>(dW (dI [0] aF (dI [] (iW ([bD,bD,kC,eU,eN,jI,tW]:List ByteArray) b6 lO) (dE [24,25] (f6 [0] [] Tryz.func86 (KO h18 h20 (fT d4 ([bD,bD,kC,eU,eN,jI,tW]:List ByteArray) (by decide)))) (dB [3] 0 1 (RC [pI x16.gKind,pS x16.gName,aW x16.gArgs] b8) (dI [26,27] (gD AM U7) ?_)))))))))))))
  refine m4 [2,28] (b3 Z8) (dN (aO.ret ?_))
  cases aZ H
  exact bR (hr:=⟨⟨_,_,_,rfl,rfl,HZ,rfl,rfl⟩,trivial⟩)
 refine qS (qR (q1 eP (q1 aF (qN ?_))))
 refine bH H (fun h21 H=>?_) (fun h21 H=>?_)
 ·refine qR (q1 aF (q1 (iW ([EU,fK,fE]:List ByteArray) b6 lO) (gU H fun d22 h23 H=>(gU H fun y24 h25 H=>(q1 (f6 [0] [] Tryz.func86 (KO h23 h25 (fT d4 ([EU,fK,fE]:List ByteArray) (by decide)))) (bU H fun x27 z26 H=>(q1 (bQ Tryz.func85 (iM fu y24 ([]) _ z26)) (q1 (iW ([x27]:List aA) dX hP) (bU H fun x29 z28 H=>(q1 (bQ Tryz.func85 (iM fu cZ ([x27]:List aA) _ z28)) (q1 (b3 hH) (qN (qS ?_)))))))))))))
  refine gU H fun d30 h31 H=>(gU H fun y32 h33 H=>(dW (dI [0] aF (dI [] (iW ([bD,bD,kC,eU,eN,jI,tW]:List ByteArray) b6 lO) (dE [24,25] (f6 [0] [] Tryz.func86 (KO h31 h33 (fT d22 ([bD,bD,kC,eU,eN,jI,tW]:List ByteArray) (by decide)))) (dB [3] 0 1 (RC [pI x29.gKind,pS x29.gName,aW x29.gArgs] b8) (dI [26,27] (gD AM U7) (m4 [2,28] (b3 Z8) (dN (aO.ret ?_))))))))))
  cases aZ H
  exact bR (hr:=⟨⟨_,_,_,rfl,rfl,HZ,rfl,rfl⟩,trivial⟩)
 refine aO.skip (qS (gU H fun d34 h35 H=>(gU H fun y36 h37 H=>(dW (dI [0] aF (dI [] (iW ([bD,bD,kC,eU,eN,jI,tW]:List ByteArray) b6 lO) (dE [24,25] (f6 [0] [] Tryz.func86 (KO h35 h37 (fT d4 ([bD,bD,kC,eU,eN,jI,tW]:List ByteArray) (by decide)))) (dB [3] 0 1 (RC [pI x2.gKind,pS x2.gName,aW x2.gArgs] b8) (dI [26,27] (gD AM U7) (m4 [2,28] (b3 Z8) (dN (aO.ret ?_))))))))))))
 cases aZ H
 exact bR (hr:=⟨⟨_,_,_,rfl,rfl,HZ,rfl,rfl⟩,trivial⟩)
end
end Go.Proofs.YtpioomclpaiomaaGreat.W

namespace Go.Proofs.YtpioomclpaiomaaGreat.W
set_option maxRecDepth 100000
set_option maxHeartbeats 40000000
noncomputable section
open Go.RowKit Go.Proofs
set_option linter.unusedSimpArgs false
set_option linter.unusedVariables false
attribute [local irreducible] lt
def XY(m:(List ByteArray)→Option ((List ByteArray))):Prop:= ∀(pl:List ByteArray) (r:(List ByteArray)),m pl=some r→cA Tryz.prog 140 [rS pl] (rS r:PV)
def wY(fu:Nat)(pl:List ByteArray):Option ((List ByteArray)):=
 gd ((pl).length≤68719476736)
 (some pl)
theorem IA(fu:Nat):XY (wY fu):=by
 intro pl r H
 have H:=fF H
 refine qI Tryz.func140 (fun C hC=>?_)
 refine qS (qR (q1 aF (qN (qS (qR (q1 aF (c9 H fun z1 H=>?_)))))))
 refine q1 (aV.appendNil (es2:=aX (pl)) rfl rfl rfl rfl rfl (mX _) (by decide) b6 sM (by decide) (by rw [bI];exact abI z1 (by decide))) ?_;refine q1 aF (qN (aO.ret ?_))
 cases aZ H
 exact bR
def UV(m:(List aI)→Option ((List aI))):Prop:= ∀(pl:List aI) (r:(List aI)),m pl=some r→cA Tryz.prog 141 [fD pl] (fD r:PV)
def R6(fu:Nat)(pl:List aI):Nat→((List aI))→Option (LR ((List aI)) ((List aI))):=
 fun i2 v3=>gd (Tr.bulkL (aA.tr ((bB pl i2).gType))≤68719476735)
 (gd (i2=(v3).length)
 (some (.next (v3++([(aI.mk ((bB pl i2).gTrait) ((bB pl i2).gType))]:List aI)))))
def R7(fu:Nat)(pl:List aI):Option (((List aI))⊕((List aI))):=
 loopN (R6 fu pl) (pl.length-0) 0 ([])
def z0(fu:Nat)(pl:List aI):Option ((List aI)):=
 gd (pl.length≤68719476736)
 (so (R7 fu pl) (fun v3=>
 gd ((v3).length=pl.length)
 (some v3)))
theorem R8(fu:Nat):UV (z0 fu):=by
 intro pl r H
 have H:=fF H
 refine qI Tryz.func141 (fun C hC=>?_)
 refine qS (qR (q1 aF (qN (qS (qR (q1 aF (q1 (eR yW (aI.trs_len _)) (c9 H fun z1 H=>(q1 (aV.makeSlice (N:=pl.length) rfl rfl rfl rfl yW aoQ (by decide) (Nat.le_trans (Nat.mul_le_mul_left _ z1) (by decide)) (Nat.le_trans z1 (by decide))) (q1 aF (qN ?_)))))))))))
 iterate 2 refine qS ?_
 refine qR (q1 aF (q1 (eR yW (aI.trs_len _)) (q1 aF (qN ?_))))
 refine kV 0 (aI.trs_len _) (fun hl4=>?_)
 refine cM (σ:=(List aI)) (fun i2 v3=>⟨[(2,.nil),(3,.full 4 (pl.length) 0),(9,fD pl),(10,pN pl.length),(11,pN i2)],⟨[],[⟨37,4,aI.trs (v3),true⟩]⟩⟩) (fun v3=>⟨[(2,.nil),(3,.full 4 (pl.length) 0)],⟨[],[⟨37,4,aI.trs (v3),true⟩]⟩⟩) (gW H) ?_ ?_
 ·rintro i2 v3 H
  refine qS (qR (q1 iQ (qN (qS ?_))))
  refine eO H (fun h5 h5l H=>?_) (fun h5 H=>?_)
  ·have h5n:=bF h5
   refine aO.skip (qS (aO.block (qS (qR (q1 aF (q1 (jH h5n yW) (q1 (lB (aI.cs (bB pl i2)) HZ) (q1 (iG AM) (q1 aF (q1 (b3 Z8) (qN (c9 H fun z6 H=>(c9 H fun z7 H=>?_)))))))))))))
   refine dW (dI [3] aF (dI [4] aF (dI [5] (bC RU) (dD [18] (bL fO) (dI [5] (bC xU) (dD [20] (cY [pI (((bB pl i2).gType).gKind),pS (((bB pl i2).gType).gName),aW (((bB pl i2).gType).gArgs)] b8) (dI [21] (bQ Tryz.func57 (qH ((bB pl i2).gType) z6)) (dI [19,22] (gD AM U7) (dI [16,17] (aV.indexFull (k:=i2) rfl rfl rfl rfl h5n yW) ?_)))))))))
   refine m4 [24,23,16] (aV.storeRptr (e:=aI.cs (aI.mk ((bB pl i2).gTrait) ((bB pl i2).gType))) (es2:=aI.trs (v3++([(aI.mk ((bB pl i2).gTrait) ((bB pl i2).gType))]:List aI))) 16 rfl rfl rfl rfl rfl rfl lG rfl rfl Z8 (by rw [aI.trs_len];exact z7) h5n (by rw [aI.trs_map,aI.trs_map,List.map_append];simp [aI.tr_cs])) ?_;refine dN (qR (q1 (aV.addI rfl rfl rfl rfl (c:=((i2+1:Nat):Int)) (by omega) (by omega)) (q1 aF (qN ?_))))
   exact j8 h5l ⟨_,(aZ H:),b9⟩
  refine aO.exit ?_;exact lP ⟨_,H,b9⟩
 rintro v3 H
 refine qS (qR (q1 aF (c9 H fun z8 H=>?_)))
 refine AL.weak (Wk.full (i:=26) rfl rfl (by rw [aI.trs_len];exact z8)) ?_;refine q1 aF (qN (aO.ret ?_))
 cases aZ H
 exact bR
abbrev jF:=aH→Option aH
abbrev iC:=(List aH)→Option ((List aH))
def vC(m:jF):Prop:= ∀(pe:aH) (r:aH),m pe=some r→cA Tryz.prog 142 [(aH.pv pe)] ((aH.pv r):PV)
def wX(m:iC):Prop:= ∀(pl:List aH) (r:(List aH)),m pl=some r→cA Tryz.prog 177 [fZ pl] (fZ r:PV)
def XU(fu:Nat)(r_icopyExpr:jF)(r_icopyExprs:iC)(pe:aH)(x3:List aH):Nat→((List bM))→Option (LR ((List bM)) aH):=
 fun i5 v6=>lt (bB pe.gArms i5) (fun y9=>
 gd ((y9.gVars).length≤68719476736)
 (bd (r_icopyExpr y9.gBody) (fun x13=>
 gd (i5=(v6).length)
 (some (.next (v6++([(bM.mk y9.gConstructor y9.gVars x13)]:List bM)))))))
def XV(fu:Nat)(r_icopyExpr:jF)(r_icopyExprs:iC)(pe:aH)(x3:List aH):Option (aH⊕((List bM))):=
 loopN (XU fu r_icopyExpr r_icopyExprs pe x3) (pe.gArms.length-0) 0 ([])
def ED(fu:Nat)(r_icopyExpr:jF)(r_icopyExprs:iC)(pe:aH):Option aH:=
 gd (Tr.bulkL (aA.tr pe.gType)≤68719476735)
 (bd (r_icopyExprs pe.gArgs) (fun x3=>
 gd (pe.gArms.length≤68719476736)
 (so (XV fu r_icopyExpr r_icopyExprs pe x3) (fun v6=>
 gd ((v6).length=pe.gArms.length)
 (some (aH.mk pe.gKind pe.gTrait pe.gName pe.gN pe.gType x3 v6))))))
theorem R9(fu:Nat)(r_icopyExpr:jF)(r_icopyExprs:iC)(h_icopyExpr:vC r_icopyExpr)(h_icopyExprs:wX r_icopyExprs):vC (ED fu r_icopyExpr r_icopyExprs):=by
 intro pe r H
 have H:=fF H
 refine qI Tryz.func142 (fun C hC=>?_)
 refine qS (qR (q1 (kQ (iR pe)) (q1 (iG lN) (qN (qS (qR (q1 (bC t5) (q1 (cY [pI pe.gType.gKind,pS pe.gType.gName,aW pe.gType.gArgs] b8) (c9 H fun z1 H=>(q1 (bQ Tryz.func57 (qH pe.gType z1)) (q1 (bC t5) (q1 (b3 hH) (qN ?_)))))))))))))
 refine qS (qR (q1 (bC jP) (q1 (bL vL) (bU H fun x3 z2 H=>(q1 (bQ Tryz.func177 (h_icopyExprs pe.gArgs _ z2)) (q1 (bC jP) (q1 (b3 aqC) (qN (qS (qR (q1 (bC gY) (q1 (bL sI) (q1 (eR pJ (bM.trs_len _)) ?_)))))))))))))
 refine c9 H fun z4 H=>(q1 (aV.makeSlice (N:=pe.gArms.length) rfl rfl rfl rfl pJ apX (by decide) (Nat.le_trans (Nat.mul_le_mul_left _ z4) (by decide)) (Nat.le_trans z4 (by decide))) (q1 aF (qN ?_)))
 iterate 2 refine qS ?_
 refine qR (q1 (bC gY) (q1 (bL sI) (q1 (eR pJ (bM.trs_len _)) (q1 aF (qN ?_)))))
 refine kV 15 (bM.trs_len _) (fun hl7=>?_)
 refine cM (σ:=(List bM)) (fun i5 v6=>⟨[(1,.ptr 0 0),(2,.ptr 1 0),(3,.full 11 (pe.gArms.length) 0),(19,nG pe.gArms),(20,pN pe.gArms.length),(21,pN i5)],⟨[some ⟨87,[pI pe.gKind,pS pe.gTrait,pS pe.gName,pI pe.gN,pI pe.gType.gKind,pS pe.gType.gName,aW pe.gType.gArgs,fZ x3,nG pe.gArms]⟩,some ⟨87,[pI 0,pS s_,pS s_,pI 0,pI 0,pS s_,.nil,.nil,.nil]⟩],[⟨92,11,bM.trs (v6),true⟩]⟩⟩) (fun v6=>⟨[(1,.ptr 0 0),(2,.ptr 1 0),(3,.full 11 (pe.gArms.length) 0)],⟨[some ⟨87,[pI pe.gKind,pS pe.gTrait,pS pe.gName,pI pe.gN,pI pe.gType.gKind,pS pe.gType.gName,aW pe.gType.gArgs,fZ x3,nG pe.gArms]⟩,some ⟨87,[pI 0,pS s_,pS s_,pI 0,pI 0,pS s_,.nil,.nil,.nil]⟩],[⟨92,11,bM.trs (v6),true⟩]⟩⟩) (gW H) ?_ ?_
 ·rintro i5 v6 H
  refine qS (qR (q1 iQ (qN (qS ?_))))
  refine eO H (fun h8 h8l H=>?_) (fun h8 H=>?_)
  ·have h8n:=bF h8
   refine aO.skip (qS (aO.block (qS (qR (q1 aF (gU H fun y9 h10 H=>(q1 (yI h10 h8n pJ) (q1 (lB (bM.cs y9) alG) (q1 (iG UG) (q1 aF (q1 (b3 akC) (qN (c9 H fun z11 H=>?_)))))))))))))
   refine bU H fun x13 z12 H=>(c9 H fun z14 H=>(dW (dI [3] aF (dI [4] aF (dI [5] (bC B9) (dB [28] 0 1 (vQ fO) (dI [5] (bC CA) (dD [30] (bL lI) ?_))))))))
   refine dE [31] (aV.appendNil (es2:=aX (y9.gVars)) rfl rfl rfl rfl rfl (mX _) (by decide) b6 sM (by decide) (by rw [bI];exact abI z11 (by decide))) ?_;refine dI [5] (bC I6) (dB [33] 0 1 (RC [pI y9.gBody.gKind,pS y9.gBody.gTrait,pS y9.gBody.gName,pI y9.gBody.gN,pI y9.gBody.gType.gKind,pS y9.gBody.gType.gName,aW y9.gBody.gType.gArgs,fZ y9.gBody.gArgs,nG y9.gBody.gArms] iH) (dI [34] (bQ Tryz.func142 (h_icopyExpr y9.gBody _ z12)) (dI [29,32,35] (gD UG alB) (dI [26,27] (aV.indexFull (k:=i5) rfl rfl rfl rfl h8n pJ) ?_))))
   refine m4 [37,36,26] (aV.storeRptr (e:=bM.cs (bM.mk y9.gConstructor y9.gVars x13)) (es2:=bM.trs (v6++([(bM.mk y9.gConstructor y9.gVars x13)]:List bM))) 26 rfl rfl rfl rfl rfl rfl lG rfl rfl akC (by rw [bM.trs_len];exact z14) h8n (by rw [bM.trs_map,bM.trs_map,List.map_append];simp [bM.tr_cs])) ?_;refine dN (qR (q1 (aV.addI rfl rfl rfl rfl (c:=((i5+1:Nat):Int)) (by omega) (by omega)) (q1 aF (qN ?_))))
   exact j8 h8l ⟨_,(aZ H:),b9⟩
  refine aO.exit ?_;exact lP ⟨_,H,b9⟩
 rintro v6 H
 refine qS (qR (q1 aF (q1 (bC gY) (c9 H fun z15 H=>?_))))
 refine AL.weak (Wk.full (i:=39) rfl rfl (by rw [bM.trs_len];exact z15)) ?_;refine q1 (b3 apP) (qN (qS (qR (q1 (cY [pI pe.gKind,pS pe.gTrait,pS pe.gName,pI pe.gN,pI pe.gType.gKind,pS pe.gType.gName,aW pe.gType.gArgs,fZ x3,nG v6] iH) (q1 (b3 pL) (qN (aO.ret ?_)))))))
 cases aZ H
 exact bR (hr:=⟨⟨_,_,_,rfl,rfl,iH,rfl,rfl⟩,trivial⟩)
def UX(fu:Nat)(r_icopyExpr:jF)(r_icopyExprs:iC)(pl:List aH):Nat→((List aH))→Option (LR ((List aH)) ((List aH))):=
 fun i2 v3=>lt (bB pl i2) (fun y6=>
 bd (r_icopyExpr y6) (fun x9=>
 gd (i2=(v3).length)
 (some (.next (v3++([x9]:List aH))))))
def UY(fu:Nat)(r_icopyExpr:jF)(r_icopyExprs:iC)(pl:List aH):Option (((List aH))⊕((List aH))):=
 loopN (UX fu r_icopyExpr r_icopyExprs pl) (pl.length-0) 0 ([])
def CD(fu:Nat)(r_icopyExpr:jF)(r_icopyExprs:iC)(pl:List aH):Option ((List aH)):=
 gd (pl.length≤68719476736)
 (so (UY fu r_icopyExpr r_icopyExprs pl) (fun v3=>
 gd ((v3).length=pl.length)
 (some v3)))
theorem PQ(fu:Nat)(r_icopyExpr:jF)(r_icopyExprs:iC)(h_icopyExpr:vC r_icopyExpr)(h_icopyExprs:wX r_icopyExprs):wX (CD fu r_icopyExpr r_icopyExprs):=by
 intro pl r H
 have H:=fF H
 refine qI Tryz.func177 (fun C hC=>?_)
 refine qS (qR (q1 aF (qN (qS (qR (q1 aF (q1 (eR m3 (aH.trs_len _)) (c9 H fun z1 H=>(q1 (aV.makeSlice (N:=pl.length) rfl rfl rfl rfl m3 aoR (by decide) (Nat.le_trans (Nat.mul_le_mul_left _ z1) (by decide)) (Nat.le_trans z1 (by decide))) (q1 aF (qN ?_)))))))))))
 iterate 2 refine qS ?_
 refine qR (q1 aF (q1 (eR m3 (aH.trs_len _)) (q1 aF (qN ?_))))
 refine kV 0 (aH.trs_len _) (fun hl4=>?_)
 refine cM (σ:=(List aH)) (fun i2 v3=>⟨[(2,.nil),(3,.full 9 (pl.length) 0),(9,fZ pl),(10,pN pl.length),(11,pN i2)],⟨[],[⟨87,9,aH.trs (v3),true⟩]⟩⟩) (fun v3=>⟨[(2,.nil),(3,.full 9 (pl.length) 0)],⟨[],[⟨87,9,aH.trs (v3),true⟩]⟩⟩) (gW H) ?_ ?_
 ·rintro i2 v3 H
  refine qS (qR (q1 iQ (qN (qS ?_))))
  refine eO H (fun h5 h5l H=>?_) (fun h5 H=>?_)
  ·have h5n:=bF h5
   refine aO.skip (qS (aO.block (qS (qR (q1 aF (gU H fun y6 h7 H=>(q1 (yI h7 h5n m3) (q1 (lB (aH.cs y6) iH) (q1 (iG lN) (q1 aF (q1 (b3 pL) (qN (qR ?_)))))))))))))
   iterate 2 refine q1 aF ?_
   refine q1 (cY [pI y6.gKind,pS y6.gTrait,pS y6.gName,pI y6.gN,pI y6.gType.gKind,pS y6.gType.gName,aW y6.gType.gArgs,fZ y6.gArgs,nG y6.gArms] iH) (bU H fun x9 z8 H=>(q1 (bQ Tryz.func142 (h_icopyExpr y6 _ z8)) (q1 (aV.indexFull (k:=i2) rfl rfl rfl rfl h5n m3) (c9 H fun z10 H=>?_))))
   refine q1 (aV.storeRptr (e:=aH.cs x9) (es2:=aH.trs (v3++([x9]:List aH))) 16 rfl rfl rfl rfl rfl rfl lG rfl rfl pL (by rw [aH.trs_len];exact z10) h5n (by rw [aH.trs_map,aH.trs_map,List.map_append];simp [aH.tr_cs])) ?_;refine qN (qR (q1 (aV.addI rfl rfl rfl rfl (c:=((i2+1:Nat):Int)) (by omega) (by omega)) (q1 aF (qN ?_))))
   exact j8 h5l ⟨_,(aZ H:),b9⟩
  refine aO.exit ?_;exact lP ⟨_,H,b9⟩
 rintro v3 H
 refine qS (qR (q1 aF (c9 H fun z11 H=>?_)))
 refine AL.weak (Wk.full (i:=22) rfl rfl (by rw [aH.trs_len];exact z11)) ?_;refine q1 aF (qN (aO.ret ?_))
 cases aZ H
 exact bR
mutual
def jE:Nat→aH→Option aH
 |0,_=>none
 |fu+1,pe=>ED fu (jE fu) (lE fu) pe
def lE:Nat→(List aH)→Option ((List aH))
 |0,_=>none
 |fu+1,pl=>CD fu (jE fu) (lE fu) pl
end
theorem UW(fu:Nat):vC (jE fu)∧wX (lE fu):=by
 induction fu with
 |zero=>exact⟨(fun pe r H=>by simp only [jE] at H;cases H),(fun pl r H=>by simp only [lE] at H;cases H)⟩
 |succ fu ih=>exact⟨(fun pe r H=>by simp only [jE] at H;exact R9 fu (jE fu) (lE fu) ih.1 ih.2 pe r H),(fun pl r H=>by simp only [lE] at H;exact PQ fu (jE fu) (lE fu) ih.1 ih.2 pl r H)⟩
theorem XX(fu:Nat):vC (jE fu):=(UW fu).1
def PR(m:aG→Option aG):Prop:= ∀(px:aG) (r:aG),m px=some r→cA Tryz.prog 100 [(aG.pv px)] ((aG.pv r):PV)
def BB(fu:Nat)(px:aG)(x2:List ByteArray)(x5:List aI):Nat→((List aN))→Option (LR ((List aN)) aG):=
 fun i8 v9=>lt (bB px.gMethods i8) (fun y12=>
 bd (wY fu y12.gVars) (fun x15=>
 bd (jE fu y12.gBody) (fun x17=>
 gd (i8=(v9).length)
 (some (.next (v9++([(aN.mk y12.gName x15 x17)]:List aN)))))))
def BC(fu:Nat)(px:aG)(x2:List ByteArray)(x5:List aI):Option (aG⊕((List aN))):=
 loopN (BB fu px x2 x5) (px.gMethods.length-0) 0 ([])
def oM(fu:Nat)(px:aG):Option aG:=
 bd (wY fu px.gVars) (fun x2=>
 gd (Tr.bulkL (aA.tr px.gHead)≤68719476735)
 (bd (z0 fu px.gWhere) (fun x5=>
 gd (Tr.bulkL (aA.tr px.gAssoc)≤68719476735)
 (gd (px.gMethods.length≤68719476736)
 (so (BC fu px x2 x5) (fun v9=>
 gd ((v9).length=px.gMethods.length)
 (some (aG.mk px.gTrait x2 px.gHead x5 px.gDefault px.gHasAssoc px.gAssoc v9))))))))
theorem M5(fu:Nat):PR (oM fu):=by
 intro px r H
 have H:=fF H
 refine qI Tryz.func100 (fun C hC=>?_)
 refine qS (qR (q1 (kQ (eH px)) (q1 (iG tX) (qN (qS (qR (q1 (bC rW) (q1 (bL lI) (bU H fun x2 z1 H=>(q1 (bQ Tryz.func140 (IA fu px.gVars _ z1)) (q1 (bC rW) (q1 (b3 KN) (qN ?_)))))))))))))
 refine qS (qR (q1 (bC m9) (q1 (cY [pI px.gHead.gKind,pS px.gHead.gName,aW px.gHead.gArgs] b8) (c9 H fun z3 H=>(q1 (bQ Tryz.func57 (qH px.gHead z3)) (q1 (bC m9) (q1 (b3 hH) (qN (qS (qR (q1 (bC D8) (q1 (bL ae5) (bU H fun x5 z4 H=>?_)))))))))))))
 refine q1 (bQ Tryz.func141 (R8 fu px.gWhere _ z4)) (q1 (bC D8) (q1 (b3 am6) (qN (qS (qR (q1 (bC D9) (q1 (cY [pI px.gAssoc.gKind,pS px.gAssoc.gName,aW px.gAssoc.gArgs] b8) (c9 H fun z6 H=>(q1 (bQ Tryz.func57 (qH px.gAssoc z6)) (q1 (bC D9) (q1 (b3 hH) (qN (qS ?_)))))))))))))
 refine qR (q1 (bC xV) (q1 (bL YL) (q1 (eR KY (aN.trs_len _)) (c9 H fun z7 H=>(q1 (aV.makeSlice (N:=px.gMethods.length) rfl rfl rfl rfl KY apV (by decide) (Nat.le_trans (Nat.mul_le_mul_left _ z7) (by decide)) (Nat.le_trans z7 (by decide))) (q1 aF (qN ?_)))))))
 iterate 2 refine qS ?_
 refine qR (q1 (bC xV) (q1 (bL YL) (q1 (eR KY (aN.trs_len _)) (q1 aF (qN ?_)))))
 refine kV 23 (aN.trs_len _) (fun hl10=>?_)
 refine cM (σ:=(List aN)) (fun i8 v9=>⟨[(1,.ptr 0 0),(2,.ptr 1 0),(3,.full 11 (px.gMethods.length) 0),(27,jK px.gMethods),(28,pN px.gMethods.length),(29,pN i8)],⟨[some ⟨55,[pS px.gTrait,rS x2,pI px.gHead.gKind,pS px.gHead.gName,aW px.gHead.gArgs,fD x5,pB px.gDefault,pB px.gHasAssoc,pI px.gAssoc.gKind,pS px.gAssoc.gName,aW px.gAssoc.gArgs,jK px.gMethods]⟩,some ⟨55,[pS s_,.nil,pI 0,pS s_,.nil,.nil,pB false,pB false,pI 0,pS s_,.nil,.nil]⟩],[⟨161,11,aN.trs (v9),true⟩]⟩⟩) (fun v9=>⟨[(1,.ptr 0 0),(2,.ptr 1 0),(3,.full 11 (px.gMethods.length) 0)],⟨[some ⟨55,[pS px.gTrait,rS x2,pI px.gHead.gKind,pS px.gHead.gName,aW px.gHead.gArgs,fD x5,pB px.gDefault,pB px.gHasAssoc,pI px.gAssoc.gKind,pS px.gAssoc.gName,aW px.gAssoc.gArgs,jK px.gMethods]⟩,some ⟨55,[pS s_,.nil,pI 0,pS s_,.nil,.nil,pB false,pB false,pI 0,pS s_,.nil,.nil]⟩],[⟨161,11,aN.trs (v9),true⟩]⟩⟩) (gW H) ?_ ?_
 ·rintro i8 v9 H
  refine qS (qR (q1 iQ (qN (qS ?_))))
  refine eO H (fun h11 h11l H=>?_) (fun h11 H=>?_)
  ·have h11n:=bF h11
   refine aO.skip (qS (aO.block (qS (qR (q1 aF (gU H fun y12 h13 H=>(q1 (yI h13 h11n KY) (q1 (lB (aN.cs y12) alF) (q1 (iG O8) (q1 aF (q1 (b3 ah3) (qN (bU H fun x15 z14 H=>?_)))))))))))))
   refine bU H fun x17 z16 H=>(c9 H fun z18 H=>(dW (dI [3] aF (dI [4] aF (dI [5] (bC XO) (dD [36] (bL fO) (dI [5] (bC FO) (dD [38] (bL lI) (dI [39] (bQ Tryz.func140 (IA fu y12.gVars _ z14)) (dI [5] (bC QV) (dD [41] (cY [pI y12.gBody.gKind,pS y12.gBody.gTrait,pS y12.gBody.gName,pI y12.gBody.gN,pI y12.gBody.gType.gKind,pS y12.gBody.gType.gName,aW y12.gBody.gType.gArgs,fZ y12.gBody.gArgs,nG y12.gBody.gArms] iH) (dI [42] (bQ Tryz.func142 (XX fu y12.gBody _ z16)) (dI [37,40,43] (gD O8 ak8) ?_)))))))))))))
   refine dI [34,35] (aV.indexFull (k:=i8) rfl rfl rfl rfl h11n KY) ?_;refine m4 [45,44,34] (aV.storeRptr (e:=aN.cs (aN.mk y12.gName x15 x17)) (es2:=aN.trs (v9++([(aN.mk y12.gName x15 x17)]:List aN))) 34 rfl rfl rfl rfl rfl rfl lG rfl rfl ah3 (by rw [aN.trs_len];exact z18) h11n (by rw [aN.trs_map,aN.trs_map,List.map_append];simp [aN.tr_cs])) ?_;refine dN (qR (q1 (aV.addI rfl rfl rfl rfl (c:=((i8+1:Nat):Int)) (by omega) (by omega)) (q1 aF (qN ?_))))
   exact j8 h11l ⟨_,(aZ H:),b9⟩
  refine aO.exit ?_;exact lP ⟨_,H,b9⟩
 rintro v9 H
 refine qS (qR (q1 aF (q1 (bC xV) (c9 H fun z19 H=>?_))))
 refine AL.weak (Wk.full (i:=47) rfl rfl (by rw [aN.trs_len];exact z19)) ?_;refine q1 (b3 apO) (qN (qS (qR (q1 (cY [pS px.gTrait,rS x2,pI px.gHead.gKind,pS px.gHead.gName,aW px.gHead.gArgs,fD x5,pB px.gDefault,pB px.gHasAssoc,pI px.gAssoc.gKind,pS px.gAssoc.gName,aW px.gAssoc.gArgs,jK v9] pD) (q1 (b3 s4) (qN (aO.ret ?_)))))))
 cases aZ H
 exact bR (hr:=⟨⟨_,_,_,rfl,rfl,pD,rfl,rfl⟩,trivial⟩)
def UU(m:aP→aC→Option (aG×Bool)):Prop:= ∀(pw:aP) (po:aC) (r:aG×Bool),m pw po=some r→cA Tryz.prog 40 [(aP.pv pw),(aC.pv po)] (.tup [(aG.pv r.1),pB r.2]:PV)
def mL(fu:Nat)(pw:aP)(po:aC):Option (aG×Bool):=
 bd (sP fu pw po) (fun(x2,x3)=>
 sw (!(x3))
 (some ((aG.mk s_ [] (aA.mk 0 s_ []) [] false false (aA.mk 0 s_ []) []),false))
 (bd (oM fu x2) (fun x6=>
 some (x6,true))))
theorem EB(fu:Nat):UU (mL fu):=by
 intro pw po r H
 have H:=fF H
 refine qI Tryz.func40 (fun C hC=>?_)
 refine qS (qR (q1 (kQ ([bZ pw.gPackages])) (q1 (kQ ([pI po.gPackage,pI po.gAt])) (q1 (iG tX) (q1 aF (qN (qS (qR (q1 (cY [bZ pw.gPackages] vK) (q1 (cY [pI po.gPackage,pI po.gAt] xC) (fQ H fun x2 x3 z1 H=>(q1 (bQ Tryz.func81 (w5 fu pw po _ z1)) (q1 aF ?_)))))))))))))
 iterate 2 refine q1 BH ?_
 refine q1 (iG tX) (q1 (b3 s4) (q1 aF (qN ?_)))
 iterate 2 refine qS ?_
 refine qR (q1 aF (q1 iS (qN ?_)))
 refine bH H (fun h4 H=>?_) (fun h4 H=>?_)
 ·refine qS (qR (q1 (gD tX U8) (q1 (b3 s4) (q1 aF (qN (aO.ret ?_))))))
  cases aZ H
  exact lW (hr:=⟨⟨_,_,_,rfl,rfl,pD,rfl,rfl⟩,rfl,trivial⟩)
 refine aO.skip (qS (qR (q1 (cY [pS x2.gTrait,rS x2.gVars,pI x2.gHead.gKind,pS x2.gHead.gName,aW x2.gHead.gArgs,fD x2.gWhere,pB x2.gDefault,pB x2.gHasAssoc,pI x2.gAssoc.gKind,pS x2.gAssoc.gName,aW x2.gAssoc.gArgs,jK x2.gMethods] pD) (bU H fun x6 z5 H=>(q1 (bQ Tryz.func100 (M5 fu x2 _ z5)) (q1 (b3 s4) (q1 aF (qN (aO.ret ?_)))))))))
 cases aZ H
 exact lW (hr:=⟨⟨_,_,_,rfl,rfl,pD,rfl,rfl⟩,rfl,trivial⟩)
end
end Go.Proofs.YtpioomclpaiomaaGreat.W

namespace Go.Proofs.YtpioomclpaiomaaGreat.W
set_option maxRecDepth 100000
set_option maxHeartbeats 40000000
noncomputable section
open Go.RowKit Go.Proofs
set_option linter.unusedSimpArgs false
set_option linter.unusedVariables false
attribute [local irreducible] lt
def yX(m:(List UInt8)→Option (aP×aI)):Prop:= ∀(pcode:List UInt8) (r:aP×aI),m pcode=some r→cA Tryz.prog 93 [rU pcode] (.tup [(aP.pv r.1),(aI.pv r.2)]:PV)
def lZ(fu:Nat)(pcode:List UInt8):Option (aP×aI):=
 gd ((pcode).length≤1048576)
 (bd (E9 fu (DS.start pcode)) (fun(x3,x4)=>
 bd (KF fu x4) (fun(x6,x7)=>
 some (x3,x6))))
theorem yJ(fu:Nat):yX (lZ fu):=by
 intro pcode r H
 have H:=fF H
 refine qI Tryz.func93 (fun C hC=>?_)
 refine qS (qR (q1 (iG QO) (q1 (iG AM) (qN (qS (qR (q1 aF (c9 H fun z1 H=>(q1 (aV.callNew (ps:= [_]) rfl rfl Tryz.func54 (by kernel_rfl) rfl rfl lG rfl rfl (aoE pcode z1)) (q1 aF (qN (qS (qR ?_)))))))))))))
 refine q1 aF (fQ H fun x3 x4 z2 H=>(q1 (f6 [2] [] Tryz.func55 (ZU fu (DS.start pcode) _ z2)) (q1 aF (fQ H fun x6 x7 z5 H=>(q1 (f6 [2] [] Tryz.func136 (adC fu x4 _ z5)) (q1 (b3 QN) (q1 (b3 Z8) (qN (aO.ret ?_)))))))))
 cases aZ H
 exact lW (hr:=⟨⟨_,_,_,rfl,rfl,vK,rfl,rfl⟩,⟨_,_,_,rfl,rfl,HZ,rfl,rfl⟩,trivial⟩)
def DT(m:(List UInt8)→Option (aP×aI)):Prop:= ∀(pcode:List UInt8) (r:aP×aI),m pcode=some r→cA Tryz.prog 35 [rU pcode] (.tup [(aP.pv r.1),(aI.pv r.2)]:PV)
def lX(fu:Nat)(pcode:List UInt8):Option (aP×aI):=
 bd (lZ fu pcode) (fun(x2,x3)=>
 some (x2,x3))
theorem CO(fu:Nat):DT (lX fu):=by
 intro pcode r H
 have H:=fF H
 refine qI Tryz.func35 (fun C hC=>?_)
 refine qS (qR (q1 (iG QO) (q1 (iG AM) (qN (qS (qR (q1 aF (fQ H fun x2 x3 z1 H=>(q1 (bQ Tryz.func93 (yJ fu pcode _ z1)) ?_)))))))))
 iterate 2 refine q1 BH ?_
 refine q1 (b3 QN) (q1 (b3 Z8) (qN (aO.ret ?_)))
 cases aZ H
 exact lW (hr:=⟨⟨_,_,_,rfl,rfl,vK,rfl,rfl⟩,⟨_,_,_,rfl,rfl,HZ,rfl,rfl⟩,trivial⟩)
def aa9(m:(List UInt8)→Option Bool):Prop:= ∀(pa0:List UInt8) (r:Bool),m pa0=some r→cA Tryz.prog 7 [rU pa0] (pB r:PV)
def LS(fu:Nat)(pa0:List UInt8)(x2:Bool)(x5:aP)(x6:aI)(x8:aC)(x9:Int)(x11:aC)(x12:Int)(x18:List aC)(x20:Bool)(x25:aG)(x26:Bool):Nat→Unit→Option (LR Unit Bool):=
 fun i27 _=>lt (bB (List.filter (fun o=>jO x5 x6 o) (dY x5)) i27) (fun y30=>
 bd (mL fu x5 y30) (fun(x33,x34)=>
 gd (Tr.bulkL (aA.tr x33.gHead)≤68719476735)
 (gd (Tr.bulkL (aA.tr x25.gHead)≤68719476735)
 (sw (p7 x33.gHead x25.gHead)
 (some (.ret false))
 (some (.next ()))))))
def LT(fu:Nat)(pa0:List UInt8)(x2:Bool)(x5:aP)(x6:aI)(x8:aC)(x9:Int)(x11:aC)(x12:Int)(x18:List aC)(x20:Bool)(x25:aG)(x26:Bool):Option (Bool⊕Unit):=
 loopN (LS fu pa0 x2 x5 x6 x8 x9 x11 x12 x18 x20 x25 x26) ((List.filter (fun o=>jO x5 x6 o) (dY x5)).length-0) 0 ()
def EM(fu:Nat)(pa0:List UInt8):Option Bool:=
 bd (aeR fu pa0) (fun x2=>
 sw (x2)
 (some true)
 (bd (lX fu pa0) (fun(x5,x6)=>
 bd (pE fu x5 x6) (fun(x8,x9)=>
 bd (pG fu x5 x6) (fun(x11,x12)=>
 sw (!decide (x9=x12))
 (some false)
 (sw (!(decide (x8.gPackage=x11.gPackage)&&decide (x8.gAt=x11.gAt)))
 (some false)
 (gd (wt x5≤13000000)
 (gd (Tr.bulkL (aA.tr (aI.gType x6))≤68719476735)
 (bd (jN fu x5 x6) (fun x18=>
 bd (w7 fu (List.filter (fun o=>jO x5 x6 o) (dY x5)) x18) (fun x20=>
 sw (!(x20))
 (some false)
 (sw (!decide (x9=0))
 (sw (decide (x9=2))
 (some true)
 (some (decide (((((List.filter (fun o=>jO x5 x6 o) (dY x5)).length:Nat):Int):Int)=0))))
 (bd (mL fu x5 x8) (fun(x25,x26)=>
 so (LT fu pa0 x2 x5 x6 x8 x9 x11 x12 x18 x20 x25 x26) (fun _=>
 sw (x26)
 (gd (Tr.bulkL (aA.tr x25.gHead)≤68719476735)
 (gd (Tr.bulkL (aA.tr x6.gType)≤68719476735)
 (sw (kY x25.gHead x6.gType)
 (sw (decide (x25.gTrait=x6.gTrait))
 (sw (!(x25.gDefault))
 (some true)
 (some (rO x6.gType)))
 (some false))
 (some false))))
 (some false))))))))))))))))
theorem X3(fu:Nat):aa9 (EM fu):=by
 intro pa0 r H
 have H:=fF H
 refine qI Tryz.func7 (fun C hC=>?_)
 refine qS (qR (q1 aF (qN ?_)))
 iterate 2 refine qS ?_
 refine qR (q1 aF (bU H fun x2 z1 H=>(q1 (bQ Tryz.func10 (amN fu pa0 _ z1)) (qN ?_))))
 refine bH H (fun h3 H=>?_) (fun h3 H=>?_)
 ·refine qS (qR (q1 aF (qN (aO.ret ?_))))
  cases aZ H
  exact bR
 refine aO.skip (qS (qR (q1 aF (fQ H fun x5 x6 z4 H=>(q1 (bQ Tryz.func35 (CO fu pa0 _ z4)) (q1 aF ?_))))))
 iterate 2 refine q1 BH ?_
 refine q1 (iG QO) (q1 (iG AM) (q1 (b3 QN) (q1 (b3 Z8) (qN (qS (qR (q1 (cY [bZ x5.gPackages] vK) (q1 (cY [pS x6.gTrait,pI x6.gType.gKind,pS x6.gType.gName,aW x6.gType.gArgs] HZ) (fQ H fun x8 x9 z7 H=>(q1 (bQ Tryz.func36 (I9 fu x5 x6 _ z7)) (q1 aF ?_)))))))))))
 iterate 2 refine q1 BH ?_
 refine q1 (iG BV) (q1 (b3 V3) (q1 aF (qN (qS (qR (q1 (cY [bZ x5.gPackages] vK) (q1 (cY [pS x6.gTrait,pI x6.gType.gKind,pS x6.gType.gName,aW x6.gType.gArgs] HZ) (fQ H fun x11 x12 z10 H=>(q1 (bQ Tryz.func37 (J1 fu x5 x6 _ z10)) (q1 aF ?_))))))))))
 iterate 2 refine q1 BH ?_
 refine q1 (iG BV) (q1 (b3 V3) (q1 aF (qN ?_)))
 iterate 2 refine qS ?_
 rcases nN (!decide (x9=x12)) with g13|g13
 ·have H:=qZ H g13
  refine dW (dI [6] aF (dI [8] aF (dI [34,35] MJ (dI [36] aF ?_))))
  iterate 3 refine H8 g13 ?_
  refine dI [37] (b0 g13) (dI [41] aF ?_)
  iterate 8 refine H8 rfl ?_
  refine dI [42] (b0 rfl) (dN (eM rfl (qS (qR (q1 aF (qN (aO.ret ?_)))))))
  cases aZ H
  exact bR
 have H:=qY H g13
 rcases nN (!(decide (x8.gPackage=x11.gPackage)&&decide (x8.gAt=x11.gAt))) with g14|g14
 ·have H:=qZ H g14
  refine dW (dI [6] aF (dI [8] aF (dI [34,35] MJ (dI [36] aF (dD (hg:=bE g13) [5] (cY [pI x8.gPackage,pI x8.gAt] xC) (dD (hg:=bE g13) [7] (cY [pI x11.gPackage,pI x11.gAt] xC) (dI (hg:=bE g13) [38,39] (aV.neqP rfl rfl rfl rfl akX akY) (dI [37,40] (cC g13) (dI [41] aF ?_)))))))))
  iterate 8 refine H8 g14 ?_
  refine dI [42] (b0 g14) (dN (eM rfl (qS (qR (q1 aF (qN (aO.ret ?_)))))))
  cases aZ H
  exact bR
 have H:=qY H g14
 refine c9 H fun z15 H=>(c9 H fun z16 H=>(bU H fun x18 z17 H=>(bU H fun x20 z19 H=>(dW (dI [6] aF (dI [8] aF (dI [34,35] MJ (dI [36] aF (dD (hg:=bE g13) [5] (cY [pI x8.gPackage,pI x8.gAt] xC) (dD (hg:=bE g13) [7] (cY [pI x11.gPackage,pI x11.gAt] xC) (dI (hg:=bE g13) [38,39] (aV.neqP rfl rfl rfl rfl akX akY) (dI [37,40] (cC g13) (dI [41] aF ?_)))))))))))))
 refine dD (hg:=bE g14) [3] (cY [bZ x5.gPackages] vK) (dD (hg:=bE g14) [4] (cY [pS x6.gTrait,pI x6.gType.gKind,pS x6.gType.gName,aW x6.gType.gArgs] HZ) (dI (hg:=bE g14) [43,44] (bQ Tryz.func38 (FR x5 x6 z15 z16)) (dD (hg:=bE g14) [3] (cY [bZ x5.gPackages] vK) (dD (hg:=bE g14) [4] (cY [pS x6.gTrait,pI x6.gType.gKind,pS x6.gType.gName,aW x6.gType.gArgs] HZ) (dI (hg:=bE g14) [46,47] (bQ Tryz.func39 (tL fu x5 x6 _ z17)) (dI (hg:=bE g14) [45,48] (bQ Tryz.func19 (U6 fu (List.filter (fun o=>jO x5 x6 o) (dY x5)) x18 _ z19)) (dI (hg:=bE g14) [49] iS (dI [42,50] (cC g14) (dN ?_)))))))))
 refine bH H (fun h21 H=>?_) (fun h21 H=>?_)
 ·refine qS (qR (q1 aF (qN (aO.ret ?_))))
  cases aZ H
  exact bR
 refine aO.skip ?_
 iterate 2 refine qS ?_
 refine qR (q1 aF (q1 MJ (qN ?_)))
 refine bH H (fun h22 H=>?_) (fun h22 H=>?_)
 ·refine qS (qR (q1 aF (q1 eP (q1 aF ?_))))
  refine eK 56 H (fun g23 H=>?_) fun g23 H=>?_
  ·refine qk g23 ?_
   iterate 4 refine qk g23 ?_
   refine q1 (b0 g23) (q1 aF (qN (aO.ret ?_)))
   cases aZ H
   exact bR
  refine qg g23 (cY [bZ x5.gPackages] vK) (qg g23 (cY [pS x6.gTrait,pI x6.gType.gKind,pS x6.gType.gName,aW x6.gType.gArgs] HZ) (qg g23 (bQ Tryz.func38 (FR x5 x6 z15 z16)) (qg g23 (eR pP (aC.trs_len _)) (qg g23 eP (q1 (cC g23) (q1 aF (qN (aO.ret ?_))))))))
  cases aZ H
  exact bR
 refine aO.skip (qS (qR (q1 (cY [bZ x5.gPackages] vK) (q1 (cY [pI x8.gPackage,pI x8.gAt] xC) (fQ H fun x25 x26 z24 H=>(q1 (bQ Tryz.func40 (EB fu x5 x8 _ z24)) (q1 aF ?_)))))))
 iterate 2 refine q1 BH ?_
 refine q1 (iG tX) (q1 (b3 s4) (q1 aF (qN (qS (qR (q1 (cY [bZ x5.gPackages] vK) (q1 (cY [pS x6.gTrait,pI x6.gType.gKind,pS x6.gType.gName,aW x6.gType.gArgs] HZ) (q1 (bQ Tryz.func38 (FR x5 x6 z15 z16)) (q1 aF (qN ?_))))))))))
 iterate 2 refine qS ?_
 refine qR (q1 aF (qN ?_))
 refine kV 11 (aC.trs_len _) (fun hl28=>?_)
 refine cM (σ:=Unit) (fun i27 _=>⟨[(2,pB false),(3,.ptr 0 0),(4,.ptr 1 0),(9,.ptr 4 0),(10,pB x26),(11,cK (List.filter (fun o=>jO x5 x6 o) (dY x5))),(12,pN i27)],⟨[some ⟨26,[bZ x5.gPackages]⟩,some ⟨37,rV x6⟩,some ⟨45,[pI x8.gPackage,pI x8.gAt]⟩,some ⟨45,[pI x11.gPackage,pI x11.gAt]⟩,some ⟨55,eH x25⟩],[]⟩⟩) (fun _=>⟨[(2,pB false),(4,.ptr 1 0),(9,.ptr 4 0),(10,pB x26)],⟨[some ⟨26,[bZ x5.gPackages]⟩,some ⟨37,rV x6⟩,some ⟨45,[pI x8.gPackage,pI x8.gAt]⟩,some ⟨45,[pI x11.gPackage,pI x11.gAt]⟩,some ⟨55,eH x25⟩],[]⟩⟩) (gW H) ?_ ?_
 ·rintro i27 ⟨⟩ H
  iterate 2 refine qS ?_
  refine qR ?_
  iterate 2 refine q1 aF ?_
  refine q1 (eR pP (aC.trs_len _)) (q1 iQ (qN ?_))
  refine eO H (fun h29 h29l H=>?_) (fun h29 H=>?_)
  ·have h29n:=bF h29
   refine aO.skip (qS (aO.block (qS (gU H fun y30 h31 H=>(fQ H fun x33 x34 z32 H=>(dW (dB [3] 0 1 (RC [bZ x5.gPackages] vK) (dI [11] aF (dI [12] aF (dI [80,81] (yI h31 h29n pP) (dI [82] (lB (aC.cs y30) xC) (dI [79,83] (bQ Tryz.func40 (EB fu x5 y30 _ z32)) (dI [84] aF ?_)))))))))))))
   iterate 2 refine dI [78] BH ?_
   refine dE [] (iG tX) (m4 [13,85] (b3 s4) (dI [86] aF (dN (qS (qR (q1 (bC m9) (q1 (cY [pI x33.gHead.gKind,pS x33.gHead.gName,aW x33.gHead.gArgs] b8) (q1 (bC m9) (q1 (cY [pI x25.gHead.gKind,pS x25.gHead.gName,aW x25.gHead.gArgs] b8) (c9 H fun z35 H=>(c9 H fun z36 H=>(q1 (bQ Tryz.func41 (BA x33.gHead x25.gHead z35 z36)) (qN ?_)))))))))))))
   refine bH H (fun h37 H=>?_) (fun h37 H=>?_)
   ·refine qS (qR (q1 aF (qN (aO.ret ?_))))
    obtain rfl:_=r:=(rK (aZ H):)
    exact bR
   refine aO.skip (qR (q1 aF (q1 (aV.addI rfl rfl rfl rfl (c:=((i27+1:Nat):Int)) (by omega) (by omega)) (q1 aF (qN ?_)))))
   exact j8 h29l ⟨_,(aZ H:),b9⟩
  refine aO.exit ?_;exact lP ⟨_,H,b9⟩
 rintro⟨⟩ H
 refine qS (qR ?_)
 iterate 2 refine q1 aF ?_
 refine eK 93 H (fun g38 H=>?_) fun g38 H=>?_
 ·refine qg g38 (bC m9) (qg g38 (cY [pI x25.gHead.gKind,pS x25.gHead.gName,aW x25.gHead.gArgs] b8) (qg g38 (bC xU) (qg g38 (cY [pI x6.gType.gKind,pS x6.gType.gName,aW x6.gType.gArgs] b8) (c9 H fun z39 H=>(c9 H fun z40 H=>(qg g38 (bQ Tryz.func42 (zB x25.gHead x6.gType z39 z40)) (q1 (b0 g38) (q1 aF ?_))))))))
  refine eK 100 H (fun g41 H=>?_) fun g41 H=>?_
  ·refine qg g41 (bC RW) (qg g41 (bL fO) (qg g41 (bC RU) (qg g41 (bL fO) (qg g41 JL (q1 (b0 g41) (q1 aF ?_))))))
   refine eK 107 H (fun g42 H=>?_) fun g42 H=>?_
   ·refine qg g42 (bC RX) (qg g42 (bL sh4) (qg g42 iS (qg g42 aF ?_)))
    refine eK 111 H (fun g43 H=>?_) fun g43 H=>?_
    ·refine qk g43 ?_
     iterate 2 refine qk g43 ?_
     refine qg g42 (b0 g43) (q1 (b0 g42) (q1 aF (qN (aO.ret ?_))))
     cases aZ H
     exact bR
    refine qg g43 (bC xU) (qg g43 (cY [pI x6.gType.gKind,pS x6.gType.gName,aW x6.gType.gArgs] b8) (qg g43 (bQ Tryz.func43 (LJ x6.gType z40)) (qg g42 (cC g43) (q1 (b0 g42) (q1 aF (qN (aO.ret ?_)))))))
    cases aZ H
    exact bR
   iterate 4 refine qk g42 ?_
   iterate 3 refine IF ?_
   refine qk g42 (q1 (cC g42) (q1 aF (qN (aO.ret ?_))))
   cases aZ H
   exact bR
  iterate 5 refine qk g41 ?_
  refine q1 (cC g41) (q1 aF ?_)
  iterate 4 refine qk rfl ?_
  iterate 3 refine IF ?_
  refine qk rfl (q1 (cC rfl) (q1 aF (qN (aO.ret ?_))))
  cases aZ H
  exact bR
 iterate 5 refine qk g38 ?_
 refine q1 (cC g38) (q1 aF ?_)
 iterate 5 refine qk rfl ?_
 refine q1 (cC rfl) (q1 aF ?_)
 iterate 4 refine qk rfl ?_
 iterate 3 refine IF ?_
 refine qk rfl (q1 (cC rfl) (q1 aF (qN (aO.ret ?_))))
 cases aZ H
 exact bR
end
end Go.Proofs.YtpioomclpaiomaaGreat.W

namespace Go.Proofs.YtpioomclpaiomaaGreat.W
set_option linter.unusedSimpArgs false
set_option linter.unusedVariables false
open Go.RowKit Go.Proofs
theorem aiQ(a b:ByteArray):(a==b)=decide (a=b):=by
 by_cases h:a=b
 ·subst h
  rw [xS]
  simp
 ·rw [B6 h]
  simp [h]
theorem aA.eq_iff: ∀a b:aA,aA.eq a b=true↔a=b:=by
 refine aA.ind fun k n xs ih b=>?_
 obtain⟨l,m,ys⟩:=b
 have hL: ∀(l r:List aA),(∀x∈l,∀y,aA.eq x y=true↔x=y)→(aA.eqs l r=true↔l=r):=by
  intro l
  induction l with
  |nil=>intro r _;cases r<;>simp [aA.eqs]
  |cons x l ihl=>
   intro r hx
   cases r with
   |nil=>simp [aA.eqs]
   |cons y r=>
    rw [aA.eqs,Bool.and_eq_true,hx x (by simp) y,ihl r (fun z hz=>hx z (List.mem_cons_of_mem _ hz)),List.cons.injEq]
 rw [aA.eq,Bool.and_eq_true,Bool.and_eq_true,hL xs ys ih,aiQ,decide_eq_true_eq,beq_iff_eq]
 constructor
 ·rintro⟨rfl,rfl,rfl⟩;rfl
 ·intro h;cases h;exact⟨rfl,rfl,rfl⟩
end Go.Proofs.YtpioomclpaiomaaGreat.W

namespace Go.Proofs.YtpioomclpaiomaaGreat.W
set_option linter.unusedSimpArgs false
set_option linter.unusedVariables false
attribute [local irreducible] lt
open Go.RowKit Go.Proofs
def eD(w:aP)(g:aI):List aC:=(dY w).filter fun o=>jO w g o
def rT(w:aP)(l:List aC)(o:aC):Bool:=l.any fun p=>p7 (dJ w p).gHead (dJ w o).gHead
def CK(w:aP)(g:aI)(o:aC):aC×Int:=bif ((dJ w o).gDefault&& !rO g.gType) then(.mk 0 0,2) else(o,0)
def O3(w:aP)(g:aI):aC×Int:=match(eD w g).find? (fun o=> !rT w (eD w g) o) with
 |some o=>CK w g o
 |none=>(.mk 0 0,1)
theorem xH{w:aP}{g:aI}{o:aC}(h:o∈eD w g):BD w o:=Q7 (List.mem_filter.1 h).1
theorem akW{w:aP}{g:aI}{o:aC}(h:o∈eD w g):(dJ w o).gTrait=g.gTrait∧kY (dJ w o).gHead g.gType=true:=by
 have h:=(List.mem_filter.1 h).2
 unfold jO at h
 rw [Bool.and_eq_true,decide_eq_true_eq] at h
 exact h
theorem WX{α β:Type}{p:α→Bool}{r:α→β}{l:List α}{m:Option (β⊕Unit)}{f:Unit→Option β}(hm:m=some (match l.find? p with|some x=> .inl (r x)|none=> .inr ())){b:β}(hf:f ()=some b):so m f=some (match l.find? p with|some x=>r x|none=>b):=by
 cases hq:l.find? p with
 |none=>
  rw [hq] at hm
  exact soR hm hf
 |some x=>
  rw [hq] at hm
  exact soL hm
theorem ahB{α:Type}(q:α→Bool): ∀(l:List α) (b:Bool),l.foldl (fun v x=>v&& !q x) b=(b&& !l.any q)
 | [],b=>by simp
 |a::l,b=>by
  rw [List.foldl_cons,ahB q l,List.any_cons]
  cases b<;>cases q a<;>simp
theorem XG{β:Type}{w:aP}{o:aC}(h:BD w o){f:aJ→aG→Option β}{z:Option β}(k: ∀p,f p (dJ w o)=z):gd (0≤o.gPackage∧(o.gPackage).toNat<(w.gPackages).length) (lt (bB w.gPackages ((o.gPackage).toNat)) (fun y=>gd (0≤o.gAt∧(o.gAt).toNat<(y.gInstances).length) (lt (bB y.gInstances ((o.gAt).toNat)) (fun z=>f y z))))=z:=by
 obtain⟨p,q,rfl,hp,hq⟩:=h
 exact s5 ⟨by show(0:Int)≤p;omega,by show((p:Nat):Int).toNat<_;omega⟩ (ltE rfl (s5 ⟨by show(0:Int)≤q;omega,by show((q:Nat):Int).toNat<(bB w.gPackages p).gInstances.length;omega⟩ (ltE rfl (k _))))
section
variable {fu:Nat} {w:aP} (hw:wt w≤13000000) {g:aI} (hg:Tr.bulkL g.gType.tr≤68719476735)
include hw hg
theorem WN(hf:13000000<fu):jN fu w g=some (eD w g):=by
 have hl:=RO hw
 have hr:=LZ (fun o=> !jO w g o) (dY w) (dY w).length 0 rfl
 rw [List.drop_zero] at hr
 simp only [Bool.not_not] at hr
 have h:=CJ (F:=nZ fu w g (dY w)) (n:=(dY w).length) (g:=fun i=>bif !jO w g (bB (dY w) i) then [] else [bB (dY w) i]) (M:=68719476736) (fun i v hi hv=>by
  have hR:=Q7 (iU hi)
  unfold nZ
  generalize bB (dY w) i=o at hR hv ⊢
  refine XG hR fun p=>?_
  have hB:=t4 hw hR
  unfold jO at hv ⊢
  cases h1:decide ((dJ w o).gTrait=g.gTrait) with
  |false=>exact pK rfl (by rw [Bool.false_and,Bool.not_false,cond_true,List.append_nil])
  |true=>
   cases h2:kY (dJ w o).gHead g.gType with
   |false=>exact t1 rfl (s5 hB (s5 hg (pK rfl (by rw [Bool.and_false,Bool.not_false,cond_true,List.append_nil]))))
   |true=>
    rw [h1,h2] at hv
    exact t1 rfl (s5 hB (s5 hg (t1 rfl (s5 hv rfl))))) _ 0 [] rfl (by
  rw [Nat.sub_zero,hr,List.length_nil,Nat.zero_add]
  have:=List.length_filter_le (fun o=>jO w g o) (dY w)
  omega)
 rw [Nat.sub_zero,hr] at h
 unfold jN tK
 rw [amX fu w (by omega) (aP.small_wt hw hf) (fun i hi=>(aP.len_at hw i hi).2.2)]
 refine(congrArg (fun x=>so x _) h).trans rfl
omit hg in
theorem ae2(i:Nat)(p:aJ)(o:aC)(ho:BD w o):
 sH fu w g (eD w g) i p (dJ w o)=some (.inr (!rT w (eD w g) o)):=by
 unfold sH
 rw [p6 (l:=eD w g) (g:=fun v p=>v&& !p7 (dJ w p).gHead (dJ w o).gHead) (fun _ _=>True) (fun j v hj _=>⟨?_,trivial⟩) trivial,ahB,Bool.true_and]
 ·rfl
 ·have hR:=xH (iU hj)
  unfold yO
  generalize bB (eD w g) j=r at hR ⊢
  have h1:=t4 hw hR
  have h2:=t4 hw ho
  refine XG hR fun p=>?_
  cases v with
  |true=>exact t1 rfl (s5 h1 (s5 h2 rfl))
  |false=>exact pK rfl rfl
theorem amY(hf:13000000<fu):pG fu w g=some (O3 w g):=by
 unfold pG
 refine rD (WN hw hg hf) ?_
 unfold O3
 refine(WX (l:=eD w g) (p:=fun o=> !rT w (eD w g) o) (r:=CK w g) (b:=(aC.mk 0 0,1)) ?_ rfl).trans (by cases(eD w g).find? (fun o=> !rT w (eD w g) o)<;>rfl)
 unfold yP
 refine pZ (l:=eD w g) (p:=fun o=> !rT w (eD w g) o) (r:=CK w g) (fun i hi=>?_)
 have hR:=xH (iU hi)
 unfold yN CK
 generalize bB (eD w g) i=o at hR ⊢
 refine XG hR fun p=>?_;refine soR (ae2 hw i p o hR) ?_
 unfold yM
 cases rT w (eD w g) o with
 |true=>exact soR (s:=(false,false,false)) (pK rfl rfl) (pK rfl rfl)
 |false=>
  cases hd:(dJ w o).gDefault with
  |false=>exact soR (s:=(false,false,false)) (t1 rfl (pK rfl rfl)) (t1 rfl rfl)
  |true=>
   cases hgr:rO g.gType with
   |true=>exact soR (s:=(true,true,false)) (t1 rfl (t1 rfl (s5 hg (pK rfl rfl)))) (t1 rfl rfl)
   |false=>exact soL (t1 rfl (t1 rfl (s5 hg (t1 rfl rfl))))
omit hg in
theorem ai0(l:List aC)(hl: ∀p∈l,BD w p)(o:aC)(ho:BD w o):cQ fu l w (dJ w o)=some (rT w l o):=by
 have h1:d9 fu l w (dJ w o)=some (match l.findIdx? (fun p=>p7 (dJ w p).gHead (dJ w o).gHead) with|some i=>((i:Nat):Int)|none=> -1):=by
  unfold d9 iK
  rw [OX (l:=l) (p:=fun p=>p7 (dJ w p).gHead (dJ w o).gHead) fun i hi=>by
   have hR:=hl _ (iU hi)
   unfold iJ rB
   rw [EF fu w _ hR]
   refine rD (s5 (t4 hw hR) (s5 (t4 hw ho) rfl)) ?_
   show sw (p7 (dJ w (bB l i)).gHead (dJ w o).gHead) _ _=_
   cases p7 (dJ w (bB l i)).gHead (dJ w o).gHead<;>rfl]
  cases l.findIdx? fun p=>p7 (dJ w p).gHead (dJ w o).gHead<;>rfl
 unfold cQ
 exact rD h1 (congrArg some WG)
theorem amM:pE fu w g=some (O3 w g):=by
 unfold pE
 refine s5 hw (s5 hg ?_)
 unfold O3
 refine(WX (l:=eD w g) (p:=fun o=> !rT w (eD w g) o) (r:=CK w g) (b:=(aC.mk 0 0,1)) ?_ rfl).trans (by cases(eD w g).find? (fun o=> !rT w (eD w g) o)<;>rfl)
 unfold xX
 rw [show List.filter (fun o=>jO w g o) (dY w)=eD w g from rfl]
 refine pZ (l:=eD w g) (p:=fun o=> !rT w (eD w g) o) (r:=CK w g) (fun i hi=>?_)
 have hR:=xH (iU hi)
 unfold xW CK
 rw [show List.filter (fun o=>jO w g o) (dY w)=eD w g from rfl]
 generalize bB (eD w g) i=o at hR ⊢
 refine ltE rfl ?_
 rw [EF fu w o hR]
 show bd (cQ fu (eD w g) w (dJ w o)) _=_
 refine rD (ai0 hw _ (fun p hp=>xH hp) o hR) ?_
 show sw _ _ (sw (dJ w o).gDefault _ _)=_
 cases rT w (eD w g) o with
 |true=>exact t1 rfl rfl
 |false=>
  refine pK rfl ?_
  cases hd:(dJ w o).gDefault with
  |false=>exact pK rfl rfl
  |true=>
   refine t1 rfl (s5 hg ?_)
   cases hgr:rO g.gType with
   |true=>exact pK rfl rfl
   |false=>exact t1 rfl rfl
end
end Go.Proofs.YtpioomclpaiomaaGreat.W

namespace Go.Proofs.YtpioomclpaiomaaGreat.W
set_option linter.unusedSimpArgs false
set_option linter.unusedVariables false
open Go.RowKit Go.Proofs
mutual
def zX(f:ByteArray→aA):aA→aA
 | .mk k n xs=>if k=1 then f n else .mk k n (H5 f xs)
def H5(f:ByteArray→aA):List aA→List aA
 | []=> []
 |x::r=>zX f x::H5 f r
end
theorem AT(f:ByteArray→aA): ∀xs,H5 f xs=xs.map (zX f)
 | []=>rfl
 |x::r=>by rw [H5,AT f r,List.map_cons]
def Agr(f:ByteArray→aA)(s:List aL):Prop:= ∀v b,wL s v=some b→f v=b.gType
def Grw(s s':List aL):Prop:= ∀v b,wL s v=some b→wL s' v=some b
theorem RP(s:List aL)(n:ByteArray)(t:aA)(v:ByteArray):wL (s++ [.mk n t]) v=match wL s v with|some b=>some b|none=>if n=v then some (.mk n t) else none:=by
 unfold wL
 rw [List.find?_append]
 cases s.find? fun b=>decide (b.gVar=v) with
 |some b=>rfl
 |none=>
  show(List.find? (fun b=>decide (b.gVar=v)) [aL.mk n t])=(if n=v then some (aL.mk n t) else none)
  have e:(aL.mk n t).gVar=n:=rfl
  by_cases h:n=v
  ·simp [List.find?_cons,e,h]
  ·simp [List.find?_cons,e,h]
theorem LX: ∀ps:List aA,(∀x∈ps,∀t s s',jV x t s=some s'→Grw s s'∧ ∀f,Agr f s'→zX f x=t)→
 ∀ts s s',ps.length=ts.length→kJ ps ts s=some s'→Grw s s'∧ ∀f,Agr f s'→H5 f ps=ts
 | [],_,ts,s,s',hl,h=>by
  rw [kJ] at h
  cases h
  cases ts with
  |nil=>exact⟨fun v b hb=>hb,fun f _=>rfl⟩
  |cons t ts=>cases hl
 |p::ps,hp,ts,s,s',hl,h=>by
  cases ts with
  |nil=>cases hl
  |cons t ts=>
   rw [kJ] at h
   cases hq:jV p t s with
   |none=>rw [hq] at h;cases h
   |some s1=>
    rw [hq] at h
    obtain⟨g1,a1⟩:=hp p (by simp) t s s1 hq
    obtain⟨g2,a2⟩:=LX ps (fun x hx=>hp x (List.mem_cons_of_mem _ hx)) ts s1 s' (by simpa using hl) h
    exact⟨fun v b hb=>g2 v b (g1 v b hb),fun f hf=>by rw [H5,a1 f (fun v b hb=>hf v b (g2 v b hb)),a2 f hf]⟩
theorem X7: ∀(p t:aA) (s s':List aL),jV p t s=some s'→Grw s s'∧ ∀f,Agr f s'→zX f p=t:=by
 refine aA.ind fun k n ps ih t s s' h=>?_
 rw [jV] at h
 split at h
 ·rename_i hk
  have e: ∀f,zX f (.mk k n ps)=f n:=fun f=>by rw [zX,if_pos hk]
  split at h
  ·rename_i b hb
   split at h
   ·rename_i he
    cases h
    exact⟨fun v b hb=>hb,fun f hf=>by rw [e,hf n b hb];exact(aA.eq_iff _ _).1 he⟩
   ·cases h
  ·rename_i hb
   cases h
   have hs:=RP s n t
   refine⟨fun v b hv=>by rw [hs,hv],fun f hf=>?_⟩
   rw [e]
   exact hf n (.mk n t) (by rw [hs,hb];simp)
 ·rename_i hk
  split at h
  ·rename_i h1
   split at h
   ·rename_i h2
    split at h
    ·rename_i h3
     obtain⟨g,a⟩:=LX ps ih t.gArgs s s' h3 h
     refine⟨g,fun f hf=>?_⟩
     rw [zX,if_neg hk,a f hf,h1,h2]
     cases t
     rfl
    ·cases h
   ·cases h
  ·cases h
theorem LY(f:ByteArray→aA): ∀ps:List aA,(∀x∈ps,∀s,Agr f s→ ∃s',jV x (zX f x) s=some s'∧Agr f s')→
 ∀s,Agr f s→ ∃s',kJ ps (H5 f ps) s=some s'∧Agr f s'
 | [],_,s,hs=>⟨s,by rw [kJ],hs⟩
 |p::ps,hp,s,hs=>by
  obtain⟨s1,h1,a1⟩:=hp p (by simp) s hs
  obtain⟨s2,h2,a2⟩:=LY f ps (fun x hx=>hp x (List.mem_cons_of_mem _ hx)) s1 a1
  exact⟨s2,by rw [H5,kJ,h1];exact h2,a2⟩
theorem X8(f:ByteArray→aA): ∀(p:aA) (s:List aL),Agr f s→ ∃s',jV p (zX f p) s=some s'∧Agr f s':=by
 refine aA.ind fun k n ps ih s hs=>?_
 rw [jV]
 by_cases hk:k=1
 ·rw [if_pos hk,zX,if_pos hk]
  have e:=RP s n (f n)
  cases hb:wL s n with
  |some b=>
   have:aA.eq b.gType (f n)=true:=(aA.eq_iff _ _).2 (hs n b hb).symm
   exact⟨s,by show(if aA.eq b.gType (f n)=true then some s else none)=some s;rw [if_pos this],hs⟩
  |none=>
   refine⟨s++ [.mk n (f n)],rfl,fun v b hv=>?_⟩
   rw [e] at hv
   cases hq:wL s v with
   |some c=>
    rw [hq] at hv
    cases hv
    exact hs v _ hq
   |none=>
    rw [hq] at hv
    replace hv:(if n=v then some (aL.mk n (f n)) else none)=some b:=hv
    split at hv
    ·rename_i h
     cases hv
     rw [← h]
     rfl
    ·cases hv
 ·rw [if_neg hk,zX,if_neg hk]
  obtain⟨s',h,a⟩:=LY f ps ih s hs
  refine⟨s',?_,a⟩
  show(if k=k then(if n=n then(if ps.length=(H5 f ps).length then kJ ps (H5 f ps) s else none) else none) else none)=some s'
  rw [if_pos rfl,if_pos rfl,if_pos (by rw [AT,List.length_map])]
  exact h
theorem JK{p t:aA}:kY p t=true↔ ∃f,zX f p=t:=by
 unfold kY
 constructor
 ·intro h
  cases hq:jV p t [] with
  |none=>rw [hq] at h;cases h
  |some s=>
   obtain⟨-,a⟩:=X7 p t [] s hq
   exact⟨fun v=>match wL s v with|some b=>b.gType|none=> .mk 0 s_ [],a _ fun v b hb=>by simp only [hb]⟩
 ·rintro⟨f,rfl⟩
  obtain⟨s',h,-⟩:=X8 f p [] fun v b hb=>by cases hb
  rw [h]
  rfl
theorem akS(f g:ByteArray→aA): ∀p:aA,zX g (zX f p)=zX (fun v=>zX g (f v)) p:=by
 refine aA.ind fun k n ps ih=>?_
 by_cases hk:k=1
 ·rw [zX,if_pos hk,zX,if_pos hk]
 ·rw [zX,if_neg hk,zX,if_neg hk,zX,if_neg hk,AT,AT,AT,List.map_map]
  congr 1
  exact List.map_congr_left fun x hx=>ih x hx
theorem LV{p t u:aA}(h:kY p t=true)(k:kY t u=true):kY p u=true:=by
 obtain⟨f,rfl⟩:=JK.1 h
 obtain⟨g,rfl⟩:=JK.1 k
 exact JK.2 ⟨_,(akS f g p).symm⟩
theorem aeT(a:aA):p7 a a=false:=by unfold p7;cases kY a a<;>rfl
theorem abB{a b c:aA}(h:p7 a b=true)(k:p7 b c=true):p7 a c=true:=by
 unfold p7 at h k ⊢
 rw [Bool.and_eq_true,Bool.not_eq_true'] at h k ⊢
 refine⟨LV k.1 h.1,?_⟩
 cases hq:kY a c with
 |false=>rfl
 |true=>rw [LV hq k.1] at h;exact h.2
theorem ahE{α:Type}(R:α→α→Bool)(h0: ∀a,R a a=false)(ht: ∀a b c,R a b=true→R b c=true→R a c=true): ∀l:List α,l≠ []→ ∃x∈l,∀y∈l,R y x=false
 | [],h=>absurd rfl h
 | [a],_=>⟨a,by simp,fun y hy=>by rw [List.mem_singleton.1 hy];exact h0 a⟩
 |a::b::r,_=>by
  obtain⟨x,hx,hn⟩:=ahE R h0 ht (b::r) (by simp)
  cases hq:R a x with
  |true=>
   refine⟨a,by simp,fun y hy=>?_⟩
   rcases List.mem_cons.1 hy with rfl|hy
   ·exact h0 _
   ·cases hz:R y a with
    |false=>rfl
    |true=>rw [← hn y hy];exact(ht _ _ _ hz hq).symm
  |false=>
   refine⟨x,List.mem_cons_of_mem _ hx,fun y hy=>?_⟩
   rcases List.mem_cons.1 hy with rfl|hy
   ·exact hq
   ·exact hn y hy
end Go.Proofs.YtpioomclpaiomaaGreat.W

namespace Go.Proofs.YtpioomclpaiomaaGreat.W
set_option linter.unusedSimpArgs false
set_option linter.unusedVariables false
set_option maxRecDepth 20000
set_option maxHeartbeats 4000000
open Go.RowKit Go.WalkArith Go.IntWalk
attribute [local irreducible] wt wl lt
def W6(fu:Nat):Prop:= ∀(pl:List ByteArray),wl pl≤268435456→Ok (wY fu pl) (fun r=>True)
theorem w6:b5 W6:=(b5.ge 2147483648).imp fun fu hfu pl hpre=>by
 have:=aY (pl)
 exact oG fun z1=>oS
def UJ(fu:Nat):Prop:= ∀(pl:List aI),wl pl≤268435456→Ok (z0 fu pl) (fun r=>True)
theorem AB:b5 UJ:=(b5.ge 2147483648).imp fun fu hfu pl hpre=>by
 have:=aY pl
 refine oG fun z1=>?_
 have:=(aT:wl ([]:List aI)=0∧_)
 refine Ok.sok (E:=fun v3=>v3.length=pl.length) ?_ ?_
 ·refine Ok.loop0 (fun i2 v3=>v3.length=i2∧i2≤pl.length) (by exact bV) (by rintro i2 v3 hN hI;have:=jA pl i2;(try dsimp only at hI ⊢);omega) ?_;rintro i2 v3 hl3 hI4
  have:=jB pl i2 hl3
  have:=jA pl (i2+1)
  have:=cR pl i2 hl3
  have:=aI.wt_eq (bB pl i2)
  refine oGb fun z5=>?_
  have:=aY (v3)
  refine oG fun z6=>?_
  have:=aI.wt_mk ((bB pl i2).gTrait) ((bB pl i2).gType)
  have:=cG (aI.mk ((bB pl i2).gTrait) ((bB pl i2).gType))
  have:=b7 v3 ([(aI.mk ((bB pl i2).gTrait) ((bB pl i2).gType))]:List aI)
  exact nX
 intro v3 h2
 have:=aY (v3)
 exact oG fun z7=>oS
def aaI(fu:Nat):Prop:= ∀(pe:aH),wt pe≤268435456→Ok (jE fu pe) (fun r=>True)
def y2(n:Nat)(m:jF):Prop:= ∀(pe:aH),2*wt pe+1<n→wt pe≤268435456→Ok (m pe) (fun r=>True)
def wR(n:Nat)(m:iC):Prop:= ∀(pl:List aH),2*wl pl<n→wl pl≤268435456→Ok (m pl) (fun r=>True)
theorem XW{n fu:Nat}(hfu:2147483648≤fu){r_icopyExpr:jF}(h_icopyExpr:y2 n r_icopyExpr){r_icopyExprs:iC}(h_icopyExprs:wR n r_icopyExprs):y2 (n+1) (ED fu r_icopyExpr r_icopyExprs):=by
 intro pe hm hpre
 have:=aH.wt_eq pe
 refine oGb fun z1=>oB (h_icopyExprs pe.gArgs bV bV) fun x3 h2=>?_
 have:=aY pe.gArms
 refine oG fun z3=>?_
 have:=(aT:wl ([]:List bM)=0∧_)
 refine Ok.sok (E:=fun v6=>v6.length=pe.gArms.length) ?_ ?_
 ·refine Ok.loop0 (fun i5 v6=>v6.length=i5∧i5≤pe.gArms.length) (by exact bV) (by rintro i5 v6 hN hI;have:=jA pe.gArms i5;(try dsimp only at hI ⊢);omega) ?_;rintro i5 v6 hl5 hI6
  have:=jB pe.gArms i5 hl5
  have:=jA pe.gArms (i5+1)
  have:=cR pe.gArms i5 hl5
  refine Ok.lt fun y9 h7=>?_
  have:=congrArg wt h7
  have:=bM.wt_eq y9
  have:=aY (y9.gVars)
  refine oG fun z8=>oB (h_icopyExpr y9.gBody bV bV) fun x13 h9=>?_
  have:=aY (v6)
  refine oG fun z10=>?_
  have:=bM.wt_mk y9.gConstructor y9.gVars x13
  have:=cG (bM.mk y9.gConstructor y9.gVars x13)
  have:=b7 v6 ([(bM.mk y9.gConstructor y9.gVars x13)]:List bM)
  exact nX
 intro v6 h4
 have:=aY (v6)
 refine oG fun z11=>?_
 have:=aH.wt_mk pe.gKind pe.gTrait pe.gName pe.gN pe.gType x3 v6
 exact oS
theorem UZ{n fu:Nat}(hfu:2147483648≤fu){r_icopyExpr:jF}(h_icopyExpr:y2 n r_icopyExpr){r_icopyExprs:iC}(h_icopyExprs:wR n r_icopyExprs):wR (n+1) (CD fu r_icopyExpr r_icopyExprs):=by
 intro pl hm hpre
 have:=aY pl
 refine oG fun z1=>?_
 have:=(aT:wl ([]:List aH)=0∧_)
 refine Ok.sok (E:=fun v3=>v3.length=pl.length) ?_ ?_
 ·refine Ok.loop0 (fun i2 v3=>v3.length=i2∧i2≤pl.length) (by exact bV) (by rintro i2 v3 hN hI;have:=jA pl i2;(try dsimp only at hI ⊢);omega) ?_;rintro i2 v3 hl3 hI4
  have:=jB pl i2 hl3
  have:=jA pl (i2+1)
  have:=cR pl i2 hl3
  refine Ok.lt fun y6 h5=>?_
  have:=congrArg wt h5
  refine oB (h_icopyExpr y6 bV bV) fun x9 h6=>?_
  have:=aY (v3)
  refine oG fun z7=>?_
  have:=cG x9
  have:=b7 v3 ([x9]:List aH)
  exact nX
 intro v3 h2
 have:=aY (v3)
 exact oG fun z8=>oS
theorem aa5(n:Nat):b5 fun fu=>y2 n (jE fu)∧wR n (lE fu):=by
 induction n with
 |zero=>exact .all fun fu=>⟨fun _ h=>absurd h (Nat.not_lt_zero _),fun _ h=>absurd h (Nat.not_lt_zero _)⟩
 |succ n ih=>exact b5.succ ((ih.and (b5.ge 2147483648)).imp fun fu ⟨h,hfu⟩=>⟨fun pe=>by rw [jE];exact XW hfu h.1 h.2 pe,fun pl=>by rw [lE];exact UZ hfu h.1 h.2 pl⟩)
theorem EG:b5 aaI:=(aa5 8589934592).imp fun fu h pe hpre=>h.1 pe bV hpre
def PB(fu:Nat):Prop:= ∀(px:aG),wt px≤268435456→Ok (oM fu px) (fun r=>True)
theorem PW:b5 PB:=((((b5.ge 2147483648).and w6).and AB).and EG).imp fun fu ⟨⟨⟨hfu,w6⟩,AB⟩,EG⟩ px hpre=>by
 have:=aG.wt_eq px
 refine oB (w6 px.gVars bV) fun x2 h1=>oGb fun z2=>oB (AB px.gWhere bV) fun x5 h3=>oGb fun z4=>?_
 have:=aY px.gMethods
 refine oG fun z5=>?_
 have:=(aT:wl ([]:List aN)=0∧_)
 refine Ok.sok (E:=fun v9=>v9.length=px.gMethods.length) ?_ ?_
 ·refine Ok.loop0 (fun i8 v9=>v9.length=i8∧i8≤px.gMethods.length) (by exact bV) (by rintro i8 v9 hN hI;have:=jA px.gMethods i8;(try dsimp only at hI ⊢);omega) ?_;rintro i8 v9 hl7 hI8
  have:=jB px.gMethods i8 hl7
  have:=jA px.gMethods (i8+1)
  have:=cR px.gMethods i8 hl7
  refine Ok.lt fun y12 h9=>?_
  have:=congrArg wt h9
  have:=aN.wt_eq y12
  refine oB (w6 y12.gVars bV) fun x15 h10=>oB (EG y12.gBody bV) fun x17 h11=>?_
  have:=aY (v9)
  refine oG fun z12=>?_
  have:=aN.wt_mk y12.gName x15 x17
  have:=cG (aN.mk y12.gName x15 x17)
  have:=b7 v9 ([(aN.mk y12.gName x15 x17)]:List aN)
  exact nX
 intro v9 h6
 have:=aY (v9)
 refine oG fun z13=>?_
 have:=aG.wt_mk px.gTrait x2 px.gHead x5 px.gDefault px.gHasAssoc px.gAssoc v9
 exact oS
end Go.Proofs.YtpioomclpaiomaaGreat.W

namespace Go.Proofs.YtpioomclpaiomaaGreat.W
set_option linter.unusedSimpArgs false
set_option linter.unusedVariables false
set_option maxRecDepth 20000
set_option maxHeartbeats 4000000
open Go.RowKit Go.WalkArith Go.IntWalk
attribute [local irreducible] wt wl lt
def aeE(fu:Nat):Prop:= ∀(pc:DS),Ok (KF fu pc) (fun r=>wt r.1≤100000)
theorem aeQ:b5 aeE:=((((b5.ge 2147483648).and pF).and kR).and dQ).imp fun fu ⟨⟨⟨hfu,pF⟩,kR⟩,dQ⟩ pc=>by
 have:=ahD 3 (by decide)
 have:=ahD 2 (by decide)
 have:gO.size=1:=rfl
 have:AK.size=1:=rfl
 have:=kX gO AK
 have:=bA gO
 have:=bA AK
 refine tV (pF pc ([gO,AK]:List ByteArray) 3 bV) fun x2 x3 h1=>?_
 dsimp only at h1
 refine Ok.lt fun d4 h2=>?_;refine oC (fun g3=>?_) fun g3=>?_
 ·refine tV (kR d4 2 bV) fun x8 x9 h4=>?_
  dsimp only at h4
  have:bD.size=4:=rfl
  have:kC.size=2:=rfl
  have:eU.size=3:=rfl
  have:eN.size=3:=rfl
  have:jI.size=4:=rfl
  have:tW.size=2:=rfl
  have:=ai4 bD bD kC eU eN jI tW
  have:=bA bD
  have:=bA kC
  have:=bA eU
  have:=bA eN
  have:=bA jI
  have:=bA tW
  refine Ok.lt fun d10 h5=>Ok.lt fun y12 h6=>?_
  have:=congrArg wt h6
  simp only [bA] at this
  have:y12.size≤4:=by rw [h6];exact DS.pick_size _ (by decide) (by decide)
  have:=aI.wt_mk y12 x8
  exact oS
 refine oC (fun g7=>?_) fun g7=>?_
 ·have:EU.size=3:=rfl
  have:=(aT:wl ([]:List aA)=0∧_)
  refine oB (dQ EU ([]:List aA) bV) fun x16 h8=>?_
  have:bD.size=4:=rfl
  have:kC.size=2:=rfl
  have:eU.size=3:=rfl
  have:eN.size=3:=rfl
  have:jI.size=4:=rfl
  have:tW.size=2:=rfl
  have:=ai4 bD bD kC eU eN jI tW
  have:=bA bD
  have:=bA kC
  have:=bA eU
  have:=bA eN
  have:=bA jI
  have:=bA tW
  refine Ok.lt fun d17 h9=>Ok.lt fun y19 h10=>?_
  have:=congrArg wt h10
  simp only [bA] at this
  have:y19.size≤4:=by rw [h10];exact DS.pick_size _ (by decide) (by decide)
  have:=aI.wt_mk y19 x16
  exact oS
 refine oC (fun g11=>?_) fun g11=>?_
 ·have:EU.size=3:=rfl
  have:fK.size=3:=rfl
  have:fE.size=4:=rfl
  have:=DJ EU fK fE
  have:=bA EU
  have:=bA fK
  have:=bA fE
  refine Ok.lt fun d22 h12=>Ok.lt fun y24 h13=>?_
  have:=congrArg wt h13
  simp only [bA] at this
  have:y24.size≤4:=by rw [h13];exact DS.pick_size _ (by decide) (by decide)
  have:=(aT:wl ([]:List aA)=0∧_)
  refine oB (dQ y24 ([]:List aA) bV) fun x27 h14=>?_
  have:cZ.size=4:=rfl
  have:=cG x27
  refine oB (dQ cZ ([x27]:List aA) bV) fun x29 h15=>?_
  have:bD.size=4:=rfl
  have:kC.size=2:=rfl
  have:eU.size=3:=rfl
  have:eN.size=3:=rfl
  have:jI.size=4:=rfl
  have:tW.size=2:=rfl
  have:=ai4 bD bD kC eU eN jI tW
  have:=bA bD
  have:=bA kC
  have:=bA eU
  have:=bA eN
  have:=bA jI
  have:=bA tW
  refine Ok.lt fun d30 h16=>Ok.lt fun y32 h17=>?_
  have:=congrArg wt h17
  simp only [bA] at this
  have:y32.size≤4:=by rw [h17];exact DS.pick_size _ (by decide) (by decide)
  have:=aI.wt_mk y32 x29
  exact oS
 have:bD.size=4:=rfl
 have:kC.size=2:=rfl
 have:eU.size=3:=rfl
 have:eN.size=3:=rfl
 have:jI.size=4:=rfl
 have:tW.size=2:=rfl
 have:=ai4 bD bD kC eU eN jI tW
 have:=bA bD
 have:=bA kC
 have:=bA eU
 have:=bA eN
 have:=bA jI
 have:=bA tW
 refine Ok.lt fun d34 h18=>Ok.lt fun y36 h19=>?_
 have:=congrArg wt h19
 simp only [bA] at this
 have:y36.size≤4:=by rw [h19];exact DS.pick_size _ (by decide) (by decide)
 have:=aI.wt_mk y36 x2
 exact oS
end Go.Proofs.YtpioomclpaiomaaGreat.W

namespace Go.Proofs.YtpioomclpaiomaaGreat.W
set_option linter.unusedSimpArgs false
set_option linter.unusedVariables false
set_option maxRecDepth 20000
set_option maxHeartbeats 4000000
open Go.RowKit Go.WalkArith Go.IntWalk
attribute [local irreducible] wt wl
end Go.Proofs.YtpioomclpaiomaaGreat.W

namespace Go.Proofs.YtpioomclpaiomaaGreat.W
set_option linter.unusedSimpArgs false
set_option linter.unusedVariables false
open Go.RowKit Go.Proofs
attribute [local irreducible] lt
theorem SJ{σ β:Type}{F:Nat→σ→Option (LR σ β)}(I:Nat→σ→Prop){n:Nat}(hs: ∀i v y,i<n→I i v→F i v=some y→ ∃v',y= .next v'∧I (i+1) v'):
 ∀k i v r,n-i=k→i≤n→I i v→loopN F k i v=some r→ ∃v',r= .inr v'∧I n v'
 |0,i,v,r,hk,hi,h0,h=>by
  rw [loopN] at h
  cases h
  obtain rfl:i=n:=by omega
  exact⟨v,rfl,h0⟩
 |k+1,i,v,r,hk,hi,h0,h=>by
  rw [loopN] at h
  cases hf:F i v with
  |none=>rw [hf] at h;cases h
  |some y=>
   rw [hf] at h
   obtain⟨v',rfl,h1⟩:=hs i v y (by omega) h0 hf
   exact SJ I hs k (i+1) v' r (by omega) (by omega) h1 h
end Go.Proofs.YtpioomclpaiomaaGreat.W

namespace Go.Proofs.YtpioomclpaiomaaGreat.W
set_option linter.unusedSimpArgs false
set_option linter.unusedVariables false
open Go.RowKit Go.Proofs
attribute [local irreducible] lt wl
theorem SB{fu:Nat}{x r:aG}(h:oM fu x=some r):r.gTrait=x.gTrait∧r.gHead=x.gHead∧r.gDefault=x.gDefault:=by
 unfold oM BC at h
 obtain⟨a,ha,H⟩:=bdI (fF h)
 obtain⟨b,hb,H⟩:=bdI (gdI H).2
 obtain⟨y,hy,H⟩:=gW (gdI (gdI H).2).2
 obtain⟨v,rfl,-⟩:=SJ (fun _ _=>True) (n:=x.gMethods.length) (fun i v y hi hI hf=>by
  unfold BB at hf
  obtain⟨z,hz,H⟩:=ltI (fF hf)
  obtain⟨b,hb,H⟩:=bdI H
  obtain⟨c,hc,H⟩:=bdI H
  exact⟨_,(aZ (gdI H).2).symm,trivial⟩) _ 0 [] y rfl (Nat.zero_le _) trivial hy
 obtain rfl:=aZ (gdI H).2
 exact⟨rfl,rfl,rfl⟩
theorem ajG(w:aP)(g:aI):(eD w g= []∧O3 w g=(.mk 0 0,1))∨ ∃o∈eD w g,rT w (eD w g) o=false∧O3 w g=CK w g o:=by
 unfold O3
 cases hq:(eD w g).find? fun o=> !rT w (eD w g) o with
 |some o=>
  have h1:=List.find?_some hq
  rw [Bool.not_eq_true'] at h1
  exact .inr ⟨o,List.mem_of_find?_eq_some hq,h1,rfl⟩
 |none=>
  refine .inl ⟨?_,rfl⟩
  by_cases hn:eD w g= []
  ·exact hn
  ·obtain⟨x,hx,hb⟩:=ahE (fun a b=>p7 (dJ w a).gHead (dJ w b).gHead) (fun a=>aeT _) (fun a b c h k=>abB h k) _ hn
   have:=List.find?_eq_none.1 hq x hx
   rw [Bool.not_eq_true,Bool.not_eq_false'] at this
   unfold rT at this
   obtain⟨y,hy,h⟩:=List.any_eq_true.1 this
   have:=hb y hy
   rw [show p7 (dJ w y).gHead (dJ w x).gHead=true from h] at this
   cases this
theorem aeJ(code:List UInt8): ∃fu,EM fu code=some true:=by
 obtain⟨fu,⟨⟨hfu,kW⟩,kG⟩,kI⟩:=((((b5.ge 2147483648).and aa8).and aeQ).and PW).get
 refine⟨fu,?_⟩
 unfold EM aeR
 by_cases hb:code.length≤1048576
 ·refine pK (decide_eq_false (by omega)) ?_
  obtain⟨⟨w,d⟩,hr,hw⟩:=kW (DS.start code)
  replace hw:wt w≤13000000:=hw
  obtain⟨⟨g,d2⟩,hg,hg2⟩:=kG d
  replace hg2:wt g≤100000:=hg2
  have hB:Tr.bulkL g.gType.tr≤68719476735:=by
   have h:=aI.wt_eq g
   have h:wt g.gType≤68719476735:=by omega
   exact h
  have hd:lX fu code=some (w,g):=by
   unfold lX lZ
   exact rD (s5 hb (rD hr (rD hg rfl))) rfl
  rw [hd]
  have hI:=amM (fu:=fu) hw hB
  have hS:=amY (fu:=fu) hw hB (by omega)
  have hC:=ajG w g
  generalize O3 w g=s at hI hS hC
  refine rD rfl (rD hI (rD hS (pK (by simp) (pK (by simp) (s5 hw (s5 hB ?_))))))
  refine rD (WN hw hB (by omega)) ?_
  rw [show List.filter (fun o=>jO w g o) (dY w)=eD w g from rfl]
  refine rD (amU fu _) (pK rfl ?_)
  rcases hC with⟨h1,rfl⟩|⟨o,ho,hbt,rfl⟩
  ·rw [h1]
   exact t1 rfl (pK rfl rfl)
  ·unfold CK
   have hR:=xH ho
   obtain⟨hT,hM⟩:=akW ho
   obtain⟨x,hx,-⟩:=kI (dJ w o) (Nat.le_trans (X2 hw hR) (by decide))
   obtain⟨e1,e2,e3⟩:=SB hx
   have hh:=t4 hw hR
   have hat:mL fu w o=some (x,true):=by
    unfold mL
    exact rD (EF fu w o hR) (pK rfl (rD hx rfl))
   cases hp:(dJ w o).gDefault&& !rO g.gType with
   |true=>exact t1 rfl (t1 rfl rfl)
   |false=>
    refine pK rfl (rD hat ?_)
    unfold LT
    rw [show List.filter (fun o=>jO w g o) (dY w)=eD w g from rfl]
    refine(congrArg (fun z=>so z _) (yC (n:=(eD w g).length) (s:=()) (fun i hi=>?_) _ 0 rfl)).trans ?_
    ·unfold LS
     rw [show List.filter (fun o=>jO w g o) (dY w)=eD w g from rfl]
     have hm:=iU hi
     generalize bB (eD w g) i=r at hm ⊢
     have hR2:=xH hm
     obtain⟨y,hy,-⟩:=kI (dJ w r) (Nat.le_trans (X2 hw hR2) (by decide))
     obtain⟨f1,f2,f3⟩:=SB hy
     have hat2:mL fu w r=some (y,true):=by
      unfold mL
      exact rD (EF fu w r hR2) (pK rfl (rD hy rfl))
     refine ltE rfl (rD hat2 ?_)
     show gd (Tr.bulkL (aA.tr y.gHead)≤68719476735) (gd (Tr.bulkL (aA.tr x.gHead)≤68719476735) (sw (p7 y.gHead x.gHead) _ _))=_
     rw [f2,e2]
     refine s5 (t4 hw hR2) (s5 hh (pK ?_ rfl))
     unfold rT at hbt
     rw [List.any_eq_false] at hbt
     simpa using hbt r hm
    ·refine soR rfl (t1 rfl (s5 (by rw [e2];exact hh) (s5 hB (t1 (by rw [e2];exact hM) (t1 (by rw [e1];exact decide_eq_true hT) ?_)))))
     rw [e3]
     cases hq:(dJ w o).gDefault with
     |false=>exact t1 rfl rfl
     |true=>
      rw [hq,Bool.true_and,Bool.not_eq_false'] at hp
      exact pK rfl (by rw [hp])
 ·exact t1 (decide_eq_true (by omega)) rfl
theorem aiS(code:List UInt8):cA Tryz.prog 7 [rU code] (pB true):=let⟨fu,h⟩:=aeJ code;X3 fu code true h
end Go.Proofs.YtpioomclpaiomaaGreat.W
