/- Rules. No conditions. -/
import Derived.Test.YtfcoaagbccmahaaGreatQhf87e5b69
import Derived.Test.YtfcoaagbccmahaaGreatQh559122c9a
set_option linter.unusedSimpArgs false
set_option linter.unusedVariables false
namespace Go.Proofs.YtfcoaagbccmahaaGreat.W
set_option maxRecDepth 100000
set_option maxHeartbeats 40000000
noncomputable section
open Tryz Go.RowKit Go.Proofs
attribute [local irreducible] lt
def aa2(fu:Nat)(p0 d1:DS):Nat→((Z aZ)×(Z aO)×(Z aL)×(Z aQ)×DS)→J (LR ((Z aZ)×(Z aO)×(Z aL)×(Z aQ)×DS) (aN×DS)):=fun i3 (v9,v10,v11,v12,v4)=>lt (v4.after 4) fun d15=>sw (decide ((v4.below 4:Int)=0)) (bd (K8 fu d15) fun(x19,x20)=>gd ((v9).length+(([x19]:Z aZ)).length≤68719476736) (some (.next ((v9++([x19]:Z aZ)),v10,v11,v12,x20)))) (sw (decide ((v4.below 4:Int)=1)) (bd (DT fu d15) fun(x24,x25)=>gd ((v10).length+(([x24]:Z aO)).length≤68719476736) (some (.next (v9,(v10++([x24]:Z aO)),v11,v12,x25)))) (sw (decide ((v4.below 4:Int)=2)) (bd (DU fu d15) fun(x29,x30)=>gd ((v11).length+(([x29]:Z aL)).length≤68719476736) (some (.next (v9,v10,(v11++([x29]:Z aL)),v12,x30)))) (bd (aa0 fu d15) fun(x33,x34)=>gd ((v12).length+(([x33]:Z aQ)).length≤68719476736) (some (.next (v9,v10,v11,(v12++([x33]:Z aQ)),x34))))))
def G7(fu:Nat)(p0:DS):J (aN×DS):=lt (p0.after 5) fun d1=>so (loopN (aa2 fu p0 d1) (p0.below 5-0) 0 (([]),([]),([]),([]),d1)) fun(v9,v10,v11,v12,v4)=>lt (v4.after 10) fun d36=>sw (decide ((v4.below 10:Int)=0)) (lt (d36.after ([s_,iH]:LB).length) fun d39=>lt (d36.pick ([s_,iH]:LB)) fun y41=>some ((aN.mk y41 ([iH]:LB) v9 v10 v11 v12),d39)) (sw (decide ((v4.below 10:Int)=1)) (lt (d36.after ([iH,s_q,s_p]:LB).length) fun d44=>lt (d36.pick ([iH,s_q,s_p]:LB)) fun y46=>gd ((([iH]:LB)).length+(([y46]:LB)).length≤68719476736) (some ((aN.mk s_p (([iH]:LB)++([y46]:LB)) v9 v10 v11 v12),d44))) (some ((aN.mk s_p ([iH]:LB) v9 v10 v11 v12),d36)))
theorem an3(fu:Nat)(p0:DS)(r:aN×DS)(H:G7 fu p0=some r):cM prog 127 [.ptr 0 0] ⟨[some ⟨133,dC p0⟩],[]⟩ (fun q t=>q=((aN.pv r.1))∧t=⟨[some ⟨133,dC r.2⟩],[]⟩):=by
 refine qJ func127 H (fun C hC H=>?_)
 refine gQ 6 ?_;refine q1 (xD ([iH]:LB)) ?_;refine gQ 7 ?_;refine gM H fun d1 h2 H=>(q1 (fO [0] [] func73 (FJ h2 (fL p0 5))) ?_)
 refine gQ 7 ?_;refine kC (eY (k:=2) (j:=2) 156 5 (by decide) rfl rfl) (kC (eY (k:=2) (j:=3) 39 3 (by decide) rfl rfl) (kC (eY (k:=2) (j:=4) 163 12 (by decide) rfl rfl) (kC (eY (k:=2) (j:=5) 213 16 (by decide) rfl rfl) ?_)))
 have hb13:=DS.below_lt (d:=p0) (n:=5) (by decide)
 refine bV (σ:=(Z aZ)×(Z aO)×(Z aL)×(Z aQ)×DS) (fun i3 (v9,v10,v11,v12,v4)=>⟨[(0,.ptr 0 0),(2,.ptr 1 0),(3,.ptr 2 0),(4,pN (p0.below 5)),(5,pN i3)],⟨[some ⟨133,dC v4⟩,some ⟨141,[pS s_,.nil,.nil,.nil,.nil,.nil]⟩,some ⟨141,[pS s_p,.lit 1 (bA (([iH]:LB))),CZ v9 0,pV v10 1,pX v11 2,pW v12 3]⟩],[⟨156,5,aZ.trs (v9),false⟩,⟨39,3,aO.trs (v10),false⟩,⟨163,12,aL.trs (v11),false⟩,⟨213,16,aQ.trs (v12),false⟩]⟩⟩) (fun(v9,v10,v11,v12,v4)=>⟨[(0,.ptr 0 0),(2,.ptr 1 0),(3,.ptr 2 0)],⟨[some ⟨133,dC v4⟩,some ⟨141,[pS s_,.nil,.nil,.nil,.nil,.nil]⟩,some ⟨141,[pS s_p,.lit 1 (bA (([iH]:LB))),CZ v9 0,pV v10 1,pX v11 2,pW v12 3]⟩],[⟨156,5,aZ.trs (v9),false⟩,⟨39,3,aO.trs (v10),false⟩,⟨163,12,aL.trs (v11),false⟩,⟨213,16,aQ.trs (v12),false⟩]⟩⟩) (fA H) ?_ ?_
 ·rintro i3 ⟨v9,v10,v11,v12,v4⟩ H
  refine gQ 7 ?_;refine cZ H (fun h14 h14l H=>?_) (fun h14 H=>?_)
  ·have h14n:i3<p0.below 5:=by have:=of_decide_eq_true h14;omega
   refine gQ 6 ?_;refine gM H fun d15 h16 H=>(q1 (fO [0] [] func73 (FJ h16 (fL v4 4))) ?_)
   refine gQ 7 ?_;refine bG H (fun h17 H=>?_) (fun h17 H=>?_)
   ·refine eX H fun x19 x20 z18 H=>(cB H fun z21 H=>(dW (dI [3] bW (dB [26] 0 1 tP (dI [0] bI (dE [28] (fO [0] [] func163 (agY fu d15 _ z18)) (dI [29] (xD ([x19]:Z aZ)) (dE [27,30] (lO z21) (dI [3] bW (iW [32,31] hY (dN ?_)))))))))))
    exact gE 5
   refine gQ 5 ?_;refine bG H (fun h22 H=>?_) (fun h22 H=>?_)
   ·refine eX H fun x24 x25 z23 H=>(cB H fun z26 H=>(dW (dI [3] bW (dB [35] 0 1 tP (dI [0] bI (dE [37] (fO [0] [] func164 (akW fu d15 _ z23)) (dI [38] (xD ([x24]:Z aO)) (dE [36,39] (lO z26) (dI [3] bW (iW [41,40] hY (dN ?_)))))))))))
    exact gE 5
   refine gQ 5 ?_;refine bG H (fun h27 H=>?_) (fun h27 H=>?_)
   ·refine eX H fun x29 x30 z28 H=>(cB H fun z31 H=>(dW (dI [3] bW (dB [44] 0 1 tP (dI [0] bI (dE [46] (fO [0] [] func165 (akX fu d15 _ z28)) (dI [47] (xD ([x29]:Z aL)) (dE [45,48] (lO z31) (dI [3] bW (iW [50,49] hY (dN ?_)))))))))))
    exact gE 5
   refine eX H fun x33 x34 z32 H=>(cB H fun z35 H=>(dW (dI [3] bW (dB [17] 0 1 tP (dI [0] bI (dE [19] (fO [0] [] func166 (arU fu d15 _ z32)) (dI [20] (xD ([x33]:Z aQ)) (dE [18,21] (lO z35) (dI [3] bW (iW [23,22] hY (dN ?_)))))))))))
   exact gE 5
  exact gE 0
 rintro⟨v9,v10,v11,v12,v4⟩ H
 refine gQ 4 ?_;refine gM H fun d36 h37 H=>(q1 (fO [0] [] func73 (FJ h37 (fL v4 10))) ?_)
 refine gQ 7 ?_;refine bG H (fun h38 H=>?_) (fun h38 H=>?_)
 ·refine gQ 2 ?_;refine q1 (xD ([s_,iH]:LB)) (gM H fun d39 h40 H=>(gM H fun y41 h42 H=>(q1 (fO [0] [] func48 (QE h40 h42 (gF d36 ([s_,iH]:LB) (by decide)))) ?_)))
  refine gQ 5 ?_;refine q1 (b4 [pS y41,.lit 1 (bA (([iH]:LB))),CZ v9 0,pV v10 1,pX v11 2,pW v12 3]) ?_;exact gE 2
 refine gQ 5 ?_;refine bG H (fun h43 H=>?_) (fun h43 H=>?_)
 ·refine gM H fun d44 h45 H=>(gM H fun y46 h47 H=>(cB H fun z48 H=>(dW (dI [3] bW (dB [61] 0 1 tP (dI [0] bI (dI [] (xD ([iH,s_q,s_p]:LB)) (dE [63,64] (fO [0] [] func48 (QE h45 h47 (gF d36 ([iH,s_q,s_p]:LB) (by decide)))) (dI [65] (xD ([y46]:LB)) ?_)))))))))
  refine dI [62,66] (mQ (es1:=bA (([iH]:LB))) (es2:=bA (([y46]:LB))) (es3:=bA (([iH]:LB)++([y46]:LB))) rfl rfl rfl rfl rfl (tM _) (tM _) (by exact List.cons_ne_nil _ _) (by decide) amO.h av8.h (by decide) (by rw [b6,b6];exact zK z48 (by decide)) (zQ _ _)) ?_;refine dI [3] bW (iW [68,67] hY (dN ?_))
  refine gQ 2 ?_;refine q1 (b4 [pS s_p,rS (([iH]:LB)++([y46]:LB)),CZ v9 0,pV v10 1,pX v11 2,pW v12 3]) ?_;exact gE 2
 refine gQ 3 ?_;refine q1 (b4 [pS s_p,.lit 1 (bA (([iH]:LB))),CZ v9 0,pV v10 1,pX v11 2,pW v12 3]) ?_;exact gE 2
def AK(fu:Nat)(pc:DS):J (aH×DS):=bd (IX fu pc) fun(x2,x3)=>lt (x3.after 5) fun d4=>sw (decide (x3.below 5=0)) (bd (G7 fu d4) fun(x8,x9)=>gd ((x2.aFr).length+(([x8]:Z aN)).length≤68719476736) (some ((aH.mk (x2.aFr++([x8]:Z aN))),x9))) (some ((aH.mk x2.aFr),d4))
theorem ag9(fu:Nat)(pc:DS)(r:aH×DS)(H:AK fu pc=some r):cM prog 69 [.ptr 0 0] ⟨[some ⟨133,dC pc⟩],[]⟩ (fun q t=>q=((aH.pv r.1))∧t=⟨[some ⟨133,dC r.2⟩],[]⟩):=by
 refine qJ func69 H (fun C hC H=>?_)
 refine gQ 7 ?_;refine eX H fun x2 x3 z1 H=>(q1 (nV (pre:=⟨[some ⟨133,dC pc⟩],[]⟩) (B:= [some ⟨133,dC x3⟩]) (R:=fun k=> .agg [uE x2.aFr k]) (ps:= [_]) (qs:= [.ptr 0 0]) [0] rfl rfl func126 (by kernel_rfl) rfl rfl rfl (lM.of ⟨⟨_,rfl,rfl,mG,rfl⟩,trivial⟩ trivial (by decide) (by decide)) rfl mG rfl rfl rfl (fun k k'=>(.agg (.cons Mv.acc JE.nil))) (ak1 fu pc _ z1)) ?_)
 refine gQ 7 ?_;refine gM H fun d4 h5 H=>(q1 (fO [0] [] func45 (FJ h5 (n6 x3 5))) (qN ?_))
 refine bG H (fun h6 H=>?_) (fun h6 H=>?_)
 ·refine eX H fun x8 x9 z7 H=>(cB H fun z10 H=>(dW (dI [3] bW (dB [8] 0 1 tP (dI [0] bI (dE [10] (fO [0] [] func127 (an3 fu d4 _ z7)) (dI [11] (iL ([x8]:Z aN)) (dE [9,12] (lO z10) (dI [3] bW (iW [14,13] hY (dN ?_)))))))))))
  refine gQ 2 ?_;refine q1 (b4 [uE (x2.aFr++([x8]:Z aN)) 0]) ?_;exact gE 2
 refine gQ 3 ?_;refine q1 (b4 [uE x2.aFr 0]) ?_;exact gE 2
def tY(fu:Nat)(pw:aH)(i1:Nat)(v3:Z aF):((Z aF)×Int)→J (LR ((Z aF)×Int) (LR ((Z aF)) ((Z aF)))):=fun(v8,v7)=>lt (aR pw.aFr i1) fun y11=>sw (decide (v7<(y11.aFG.length:Int))) (gd ((v8).length+(([(aF.mk (i1:Int) v7)]:Z aF)).length≤68719476736) (some (.next ((v8++([(aF.mk (i1:Int) v7)]:Z aF)),(bB (v7+1)))))) (some (.brk (v8,v7)))
def yL(fu:Nat)(pw:aH):Nat→((Z aF))→J (LR ((Z aF)) ((Z aF))):=fun i1 v3=>so (loopW (tY fu pw i1 v3) fu (v3,0)) fun(v8,v7)=>some (.next v8)
def uS(fu:Nat)(pw:aH):J ((Z aF)):=so (loopN (yL fu pw) (pw.aFr.length-0) 0 ([])) fun v3=>some v3
theorem UC(fu:Nat)(pw:aH)(r:(Z aF))(H:uS fu pw=some r):bU prog 209 [(aH.pv pw)] (dM r):=by
 refine qJ func209 H (fun C hC H=>?_)
 refine gQ 2 ?_;refine q1 (fQ ([aP pw.aFr])) ?_;refine gQ 4 ?_;refine q1 (sM ([]:Z aF)) ?_;refine gQ 7 ?_;refine dR.fact (cP 0 0 rfl rfl rfl (aN.tl _)) (fun hl4=>?_)
 refine bV (σ:=(Z aF)) (fun i1 v3=>⟨[(1,.ptr 0 0),(2,.nil),(3,gS v3 0),(4,pN i1)],⟨[some ⟨26,[aP pw.aFr]⟩],[⟨52,2,aF.trs (v3),false⟩]⟩⟩) (fun v3=>⟨[(2,.nil),(3,gS v3 0)],⟨[some ⟨26,[aP pw.aFr]⟩],[⟨52,2,aF.trs (v3),false⟩]⟩⟩) (fA H) ?_ ?_
 ·rintro i1 v3 H
  refine gQ 9 ?_;refine cZ H (fun h5 h5l H=>?_) (fun h5 H=>?_)
  ·refine gQ 7 ?_;refine gV 3 (aF.tl _) (fun hl10=>?_)
   refine VQ (σ:=(Z aF)×Int) (fun(v8,v7)=>⟨[(1,.ptr 0 0),(2,.nil),(3,gS v8 0),(4,pN i1),(5,pI v7),(7,pN i1),(8,.ptr 0 0),(9,aP pw.aFr),(10,pN pw.aFr.length),(11,pB (decide ((i1:Int)<(pw.aFr.length:Int))))],⟨[some ⟨26,[aP pw.aFr]⟩],[⟨52,2,aF.trs (v8),false⟩]⟩⟩) (fun(v8,v7)=>⟨[(1,.ptr 0 0),(2,.nil),(3,gS v8 0),(4,pN i1),(5,pI v7),(7,pN i1),(8,.ptr 0 0),(9,aP pw.aFr),(10,pN pw.aFr.length),(11,pB (decide ((i1:Int)<(pw.aFr.length:Int))))],⟨[some ⟨26,[aP pw.aFr]⟩],[⟨52,2,aF.trs (v8),false⟩]⟩⟩) (fA H) ?_ ?_
   ·rintro k9 ⟨v8,v7⟩ H
    refine gQ 7 ?_;refine gM H fun y11 h12 H=>(q1 (AR h12 h5l) ?_)
    refine gQ 2 ?_;refine acJ 20 (aL.tl _) (fun hl13=>?_)
    refine gQ 3 ?_;refine bG H (fun h14 H=>?_) (fun h14 H=>?_)
    ·refine gQ 8 ?_;refine q1 (iL ([(aF.mk (i1:Int) v7)]:Z aF)) (cB H fun z15 H=>(q1 (lO z15) ?_))
     exact gE 7
    exact gE 0
   rintro⟨v8,v7⟩ H
   exact gE 5
  exact gE 0
 rintro v3 H
 exact gE 5
def GH(fu:Nat)(pw:aH)(i1:Nat)(v3:Z aF)(y6:aN):Nat→((Z aF))→J (LR ((Z aF)) (LR ((Z aF)) ((Z aF)))):=fun i9 v11=>gd ((v11).length+(([(aF.mk (i1:Int) (i9:Int))]:Z aF)).length≤68719476736) (some (.next (v11++([(aF.mk (i1:Int) (i9:Int))]:Z aF))))
def xU(fu:Nat)(pw:aH):Nat→((Z aF))→J (LR ((Z aF)) ((Z aF))):=fun i1 v3=>lt (aR pw.aFr i1) fun y6=>so (loopN (GH fu pw i1 v3 y6) (y6.aFG.length-0) 0 v3) fun v11=>some (.next v11)
def uP(fu:Nat)(pw:aH):J ((Z aF)):=so (loopN (xU fu pw) (pw.aFr.length-0) 0 ([])) fun v3=>some v3
theorem aqR(fu:Nat)(pw:aH)(r:(Z aF))(H:uP fu pw=some r):bU prog 180 [(aH.pv pw)] (dM r):=by
 refine qJ func180 H (fun C hC H=>?_)
 refine gQ 2 ?_;refine q1 (fQ ([aP pw.aFr])) ?_;refine gQ 4 ?_;refine q1 (sM ([]:Z aF)) ?_;refine gQ 10 ?_;refine gV 9 (aN.tl _) (fun hl4=>?_)
 refine bV (σ:=(Z aF)) (fun i1 v3=>⟨[(2,.nil),(3,gS v3 0),(9,aP pw.aFr),(10,pN pw.aFr.length),(11,pN i1)],⟨[some ⟨26,[aP pw.aFr]⟩],[⟨52,2,aF.trs (v3),false⟩]⟩⟩) (fun v3=>⟨[(2,.nil),(3,gS v3 0)],⟨[some ⟨26,[aP pw.aFr]⟩],[⟨52,2,aF.trs (v3),false⟩]⟩⟩) (fA H) ?_ ?_
 ·rintro i1 v3 H
  refine gQ 5 ?_;refine cZ H (fun h5 h5l H=>?_) (fun h5 H=>?_)
  ·refine gQ 6 ?_;refine gM H fun y6 h7 H=>(q1 (AR h7 h5l) (q1 (gZ (aN.cs y6)) ?_))
   refine gQ 8 ?_;refine acJ 17 (aL.tl _) (fun hl8=>?_)
   refine gQ 3 ?_;refine bV (σ:=(Z aF)) (fun i9 v11=>⟨[(2,.nil),(3,gS v11 0),(4,pN i1),(5,.ptr 1 0),(9,aP pw.aFr),(10,pN pw.aFr.length),(11,pN i1),(12,pB (decide ((i1:Int)<(pw.aFr.length:Int)))),(13,pN i1),(14,.eptr (aN.cs y6)),(15,(aN.pv y6)),(16,.ptr 1 4),(17,qG y6.aFG),(18,pN y6.aFG.length),(19,pN i9)],⟨[some ⟨26,[aP pw.aFr]⟩,some ⟨141,fS y6⟩],[⟨52,2,aF.trs (v11),false⟩]⟩⟩) (fun v11=>⟨[(2,.nil),(3,gS v11 0),(4,pN i1),(5,.ptr 1 0),(9,aP pw.aFr),(10,pN pw.aFr.length),(11,pN i1),(12,pB (decide ((i1:Int)<(pw.aFr.length:Int)))),(13,pN i1),(14,.eptr (aN.cs y6)),(15,(aN.pv y6)),(16,.ptr 1 4),(17,qG y6.aFG),(18,pN y6.aFG.length)],⟨[some ⟨26,[aP pw.aFr]⟩,some ⟨141,fS y6⟩],[⟨52,2,aF.trs (v11),false⟩]⟩⟩) (fA H) ?_ ?_
   ·rintro i9 v11 H
    refine gQ 5 ?_;refine cZ H (fun h12 h12l H=>?_) (fun h12 H=>?_)
    ·refine gQ 13 ?_;refine q1 (iL ([(aF.mk (i1:Int) (i9:Int))]:Z aF)) (cB H fun z13 H=>(q1 (lO z13) ?_))
     exact gE 6
    exact gE 0
   rintro v11 H
   exact gE 4
  exact gE 0
 rintro v3 H
 exact gE 5
theorem Q8(fu:Nat)(pw:aH)(r:(Z aF))(H:uP fu pw=some r):auU prog 180 [(aH.pv pw)] 52 2 (aF.trs (r)) none:=by
 unfold auU
 refine qJ func180 H (fun C hC H=>?_)
 refine gQ 2 ?_;refine q1 (fQ ([aP pw.aFr])) ?_;refine gQ 4 ?_;refine q1 (sM ([]:Z aF)) ?_;refine gQ 10 ?_;refine gV 9 (aN.tl _) (fun hl4=>?_)
 refine bV (σ:=(Z aF)) (fun i1 v3=>⟨[(2,.nil),(3,gS v3 0),(9,aP pw.aFr),(10,pN pw.aFr.length),(11,pN i1)],⟨[some ⟨26,[aP pw.aFr]⟩],[⟨52,2,aF.trs (v3),false⟩]⟩⟩) (fun v3=>⟨[(2,.nil),(3,gS v3 0)],⟨[some ⟨26,[aP pw.aFr]⟩],[⟨52,2,aF.trs (v3),false⟩]⟩⟩) (fA H) ?_ ?_
 ·rintro i1 v3 H
  refine gQ 5 ?_;refine cZ H (fun h5 h5l H=>?_) (fun h5 H=>?_)
  ·refine gQ 6 ?_;refine gM H fun y6 h7 H=>(q1 (AR h7 h5l) (q1 (gZ (aN.cs y6)) ?_))
   refine gQ 8 ?_;refine acJ 17 (aL.tl _) (fun hl8=>?_)
   refine gQ 3 ?_;refine bV (σ:=(Z aF)) (fun i9 v11=>⟨[(2,.nil),(3,gS v11 0),(4,pN i1),(5,.ptr 1 0),(9,aP pw.aFr),(10,pN pw.aFr.length),(11,pN i1),(12,pB (decide ((i1:Int)<(pw.aFr.length:Int)))),(13,pN i1),(14,.eptr (aN.cs y6)),(15,(aN.pv y6)),(16,.ptr 1 4),(17,qG y6.aFG),(18,pN y6.aFG.length),(19,pN i9)],⟨[some ⟨26,[aP pw.aFr]⟩,some ⟨141,fS y6⟩],[⟨52,2,aF.trs (v11),false⟩]⟩⟩) (fun v11=>⟨[(2,.nil),(3,gS v11 0),(4,pN i1),(5,.ptr 1 0),(9,aP pw.aFr),(10,pN pw.aFr.length),(11,pN i1),(12,pB (decide ((i1:Int)<(pw.aFr.length:Int)))),(13,pN i1),(14,.eptr (aN.cs y6)),(15,(aN.pv y6)),(16,.ptr 1 4),(17,qG y6.aFG),(18,pN y6.aFG.length)],⟨[some ⟨26,[aP pw.aFr]⟩,some ⟨141,fS y6⟩],[⟨52,2,aF.trs (v11),false⟩]⟩⟩) (fA H) ?_ ?_
   ·rintro i9 v11 H
    refine gQ 5 ?_;refine cZ H (fun h12 h12l H=>?_) (fun h12 H=>?_)
    ·refine gQ 13 ?_;refine q1 (iL ([(aF.mk (i1:Int) (i9:Int))]:Z aF)) (cB H fun z13 H=>(q1 (lO z13) ?_))
     exact gE 6
    exact gE 0
   rintro v11 H
   exact gE 4
  exact gE 0
 rintro v3 H
 refine gQ 5 ?_;refine dR.ret ?_
 obtain rfl:_=r:=(tO H:)
 exact D1.mk (ps:= [_]) (by first|exact .inr rfl|exact .inl rfl) ⟨rfl,trivial⟩ rfl (StLe_mk' (st':=⟨[],[⟨52,2,aF.trs (v3),false⟩]⟩) trivial (by first|rfl|simp)) ⟨fun k x h=>by simp [hC] at h,fun r row h=>by simp [hC] at h⟩ (q:= .acc 2 (aF.trs (v3)) 0) mG rfl ⟨0,rfl,rfl⟩
def am0(fu:Nat)(p1:Z UInt8):J Bool:=some (decide ((p1.length:Int)>1048576))
theorem avF(fu:Nat)(p1:Z UInt8)(r:Bool)(H:am0 fu p1=some r):bU prog 9 [rU p1] (pB r):=by
 refine qJ func9 H (fun C hC H=>?_)
 exact gE 11
def TS(fu:Nat)(pw:aH)(p0:Y)(i1:Nat)(y4:aN):Nat→Unit→J (LR Unit (LR Unit (aZ×Int×Bool))):=fun i7 _=>sw (decide ((aR y4.aFK i7).aFs=p0)) (some (.ret (.ret ((aR y4.aFK i7),(i1:Int),true)))) (some (.next ()))
def TR(fu:Nat)(pw:aH)(p0:Y):Nat→Unit→J (LR Unit (aZ×Int×Bool)):=fun i1 _=>lt (aR pw.aFr i1) fun y4=>so (loopN (TS fu pw p0 i1 y4) (y4.aFK.length-0) 0 ()) fun _=>some (.next ())
def GP(fu:Nat)(pw:aH)(p0:Y):J (aZ×Int×Bool):=so (loopN (TR fu pw p0) (pw.aFr.length-0) 0 ()) fun _=>some ((aZ.mk s_ [] false false []),0,false)
theorem TT(fu:Nat)(pw:aH)(p0:Y)(r:aZ×Int×Bool)(H:GP fu pw p0=some r):bU prog 115 [(aH.pv pw),pS p0] (.tup [(aZ.pv r.1),pI r.2.1,pB r.2.2]):=by
 refine qJ func115 H (fun C hC H=>?_)
 refine gQ 2 ?_;refine q1 (fQ ([aP pw.aFr])) ?_;refine gQ 12 ?_;refine gV 12 (aN.tl _) (fun hl2=>?_)
 refine bV (σ:=Unit) (fun i1 _=>⟨[(1,pS p0),(4,.ptr 1 0),(5,pI 0),(6,pB false),(12,aP pw.aFr),(13,pN pw.aFr.length),(14,pN i1)],⟨[some ⟨26,[aP pw.aFr]⟩,some ⟨156,[pS s_,.nil,pB false,pB false,.nil]⟩],[]⟩⟩) (fun _=>⟨[(4,.ptr 1 0),(5,pI 0),(6,pB false)],⟨[some ⟨26,[aP pw.aFr]⟩,some ⟨156,[pS s_,.nil,pB false,pB false,.nil]⟩],[]⟩⟩) (fA H) ?_ ?_
 ·rintro i1 ⟨⟩ H
  refine gQ 5 ?_;refine cZ H (fun h3 h3l H=>?_) (fun h3 H=>?_)
  ·refine gQ 6 ?_;refine gM H fun y4 h5 H=>(q1 (AR h5 h3l) (q1 (gZ (aN.cs y4)) ?_))
   refine gQ 8 ?_;refine acJ 20 (aZ.tl _) (fun hl6=>?_)
   refine gQ 3 ?_;refine bV (σ:=Unit) (fun i7 _=>⟨[(1,pS p0),(4,.ptr 1 0),(5,pI 0),(6,pB false),(7,pN i1),(8,.ptr 2 0),(12,aP pw.aFr),(13,pN pw.aFr.length),(14,pN i1),(15,pB (decide ((i1:Int)<(pw.aFr.length:Int)))),(16,pN i1),(17,.eptr (aN.cs y4)),(18,(aN.pv y4)),(19,.ptr 2 2),(20,UA y4.aFK),(21,pN y4.aFK.length),(22,pN i7)],⟨[some ⟨26,[aP pw.aFr]⟩,some ⟨156,[pS s_,.nil,pB false,pB false,.nil]⟩,some ⟨141,fS y4⟩],[]⟩⟩) (fun _=>⟨[(1,pS p0),(4,.ptr 1 0),(5,pI 0),(6,pB false),(7,pN i1),(8,.ptr 2 0),(12,aP pw.aFr),(13,pN pw.aFr.length),(14,pN i1),(15,pB (decide ((i1:Int)<(pw.aFr.length:Int)))),(16,pN i1),(17,.eptr (aN.cs y4)),(18,(aN.pv y4)),(19,.ptr 2 2),(20,UA y4.aFK),(21,pN y4.aFK.length)],⟨[some ⟨26,[aP pw.aFr]⟩,some ⟨156,[pS s_,.nil,pB false,pB false,.nil]⟩,some ⟨141,fS y4⟩],[]⟩⟩) (fA H) ?_ ?_
   ·rintro i7 ⟨⟩ H
    refine gQ 5 ?_;refine cZ H (fun h8 h8l H=>?_) (fun h8 H=>?_)
    ·refine gQ 6 ?_;refine q1 (gZ (aZ.cs (aR y4.aFK i7))) ?_;refine gQ 10 ?_;refine bG H (fun h9 H=>?_) (fun h9 H=>?_)
     ·refine gQ 2 ?_;refine q1 (b4 [pS ((aR y4.aFK i7).aFs),rS ((aR y4.aFK i7).aFD),pB ((aR y4.aFK i7).aF1),pB ((aR y4.aFK i7).aFR),iF ((aR y4.aFK i7).aFQ)]) ?_;refine gQ 5 ?_;refine dR.ret ?_
      obtain rfl:_=r:=(lkR (skL (lkR (tO H))):)
      exact qf3
     exact gE 5
    exact gE 0
   rintro⟨⟩ H
   exact gE 4
  exact gE 0
 rintro⟨⟩ H
 exact gE 7
def ZK(fu:Nat)(pw:aH)(p0:Y)(i1:Nat)(y4:aN):Nat→Unit→J (LR Unit (LR Unit (aO×Int×Bool))):=fun i7 _=>sw (decide ((aR y4.aFB i7).aFs=p0)) (some (.ret (.ret ((aR y4.aFB i7),(i1:Int),true)))) (some (.next ()))
def ZJ(fu:Nat)(pw:aH)(p0:Y):Nat→Unit→J (LR Unit (aO×Int×Bool)):=fun i1 _=>lt (aR pw.aFr i1) fun y4=>so (loopN (ZK fu pw p0 i1 y4) (y4.aFB.length-0) 0 ()) fun _=>some (.next ())
def XP(fu:Nat)(pw:aH)(p0:Y):J (aO×Int×Bool):=so (loopN (ZJ fu pw p0) (pw.aFr.length-0) 0 ()) fun _=>some ((aO.mk s_ [] []),0,false)
theorem atL(fu:Nat)(pw:aH)(p0:Y)(r:aO×Int×Bool)(H:XP fu pw p0=some r):bU prog 102 [(aH.pv pw),pS p0] (.tup [(aO.pv r.1),pI r.2.1,pB r.2.2]):=by
 refine qJ func102 H (fun C hC H=>?_)
 refine gQ 2 ?_;refine q1 (fQ ([aP pw.aFr])) ?_;refine gQ 12 ?_;refine gV 12 (aN.tl _) (fun hl2=>?_)
 refine bV (σ:=Unit) (fun i1 _=>⟨[(1,pS p0),(4,.ptr 1 0),(5,pI 0),(6,pB false),(12,aP pw.aFr),(13,pN pw.aFr.length),(14,pN i1)],⟨[some ⟨26,[aP pw.aFr]⟩,some ⟨39,[pS s_,.nil,.nil]⟩],[]⟩⟩) (fun _=>⟨[(4,.ptr 1 0),(5,pI 0),(6,pB false)],⟨[some ⟨26,[aP pw.aFr]⟩,some ⟨39,[pS s_,.nil,.nil]⟩],[]⟩⟩) (fA H) ?_ ?_
 ·rintro i1 ⟨⟩ H
  refine gQ 5 ?_;refine cZ H (fun h3 h3l H=>?_) (fun h3 H=>?_)
  ·refine gQ 6 ?_;refine gM H fun y4 h5 H=>(q1 (AR h5 h3l) (q1 (gZ (aN.cs y4)) ?_))
   refine gQ 8 ?_;refine acJ 20 (aO.tl _) (fun hl6=>?_)
   refine gQ 3 ?_;refine bV (σ:=Unit) (fun i7 _=>⟨[(1,pS p0),(4,.ptr 1 0),(5,pI 0),(6,pB false),(7,pN i1),(8,.ptr 2 0),(12,aP pw.aFr),(13,pN pw.aFr.length),(14,pN i1),(15,pB (decide ((i1:Int)<(pw.aFr.length:Int)))),(16,pN i1),(17,.eptr (aN.cs y4)),(18,(aN.pv y4)),(19,.ptr 2 3),(20,sD y4.aFB),(21,pN y4.aFB.length),(22,pN i7)],⟨[some ⟨26,[aP pw.aFr]⟩,some ⟨39,[pS s_,.nil,.nil]⟩,some ⟨141,fS y4⟩],[]⟩⟩) (fun _=>⟨[(1,pS p0),(4,.ptr 1 0),(5,pI 0),(6,pB false),(7,pN i1),(8,.ptr 2 0),(12,aP pw.aFr),(13,pN pw.aFr.length),(14,pN i1),(15,pB (decide ((i1:Int)<(pw.aFr.length:Int)))),(16,pN i1),(17,.eptr (aN.cs y4)),(18,(aN.pv y4)),(19,.ptr 2 3),(20,sD y4.aFB),(21,pN y4.aFB.length)],⟨[some ⟨26,[aP pw.aFr]⟩,some ⟨39,[pS s_,.nil,.nil]⟩,some ⟨141,fS y4⟩],[]⟩⟩) (fA H) ?_ ?_
   ·rintro i7 ⟨⟩ H
    refine gQ 5 ?_;refine cZ H (fun h8 h8l H=>?_) (fun h8 H=>?_)
    ·refine gQ 6 ?_;refine q1 (gZ (aO.cs (aR y4.aFB i7))) ?_;refine gQ 10 ?_;refine bG H (fun h9 H=>?_) (fun h9 H=>?_)
     ·refine gQ 2 ?_;refine q1 (b4 [pS ((aR y4.aFB i7).aFs),rS ((aR y4.aFB i7).aFH),eB ((aR y4.aFB i7).aFx)]) ?_;refine gQ 5 ?_;refine dR.ret ?_
      obtain rfl:_=r:=(lkR (skL (lkR (tO H))):)
      exact qf3
     exact gE 5
    exact gE 0
   rintro⟨⟩ H
   exact gE 4
  exact gE 0
 rintro⟨⟩ H
 exact gE 7
def vT(fu:Nat)(pw:aH)(po:aF):J (aL×Bool):=sw (decide (po.aFF<0)) (some ((aL.mk s_ [] (aA.mk 0 s_ []) [] false false (aA.mk 0 s_ []) []),false)) (sw (decide (po.aFF≥(pw.aFr.length:Int))) (some ((aL.mk s_ [] (aA.mk 0 s_ []) [] false false (aA.mk 0 s_ []) []),false)) (sw (decide (po.aFS<0)) (some ((aL.mk s_ [] (aA.mk 0 s_ []) [] false false (aA.mk 0 s_ []) []),false)) (gd (0≤po.aFF∧(po.aFF).toNat<(pw.aFr).length) (lt (aR pw.aFr ((po.aFF).toNat)) fun y5=>sw (decide (po.aFS≥(y5.aFG.length:Int))) (some ((aL.mk s_ [] (aA.mk 0 s_ []) [] false false (aA.mk 0 s_ []) []),false)) (gd (0≤po.aFS∧(po.aFS).toNat<(y5.aFG).length) (lt (aR y5.aFG ((po.aFS).toNat)) fun y9=>some (y9,true)))))))
theorem BX(fu:Nat)(pw:aH)(po:aF)(r:aL×Bool)(H:vT fu pw po=some r):bU prog 118 [(aH.pv pw),(aF.pv po)] (.tup [(aL.pv r.1),pB r.2]):=by
 refine qJ func118 H (fun C hC H=>?_)
 refine gQ 2 ?_;refine q1 (fQ ([aP pw.aFr])) (q1 (fQ ([pI po.aFF,pI po.aFS])) ?_)
 refine gQ 5 ?_
 rcases nA (decide (po.aFF<0)) with g1|g1
 ·have H:=sS H g1
  refine dW (dI [3] bW (dD [6] eG (dI [7] rLt (dI [8] bI ?_))))
  iterate 6 refine JV g1 ?_
  refine dI [9] (CJ g1) (dI [16] bI ?_)
  iterate 3 refine JV rfl ?_
  refine dI [17] (CJ rfl) (dI [21] bI ?_)
  iterate 11 refine JV rfl ?_
  refine dI [22] (CJ rfl) (dN ?_)
  exact gE 7
 have H:=sR H g1
 rcases nA (decide (po.aFF≥(pw.aFr.length:Int))) with g2|g2
 ·have H:=sS H g2
  refine dW (dI [3] bW (dD [6] eG (dI [7] rLt (dI [8] bI (dI (hg:=bD g1) [3] bW (dD (hg:=bD g1) [10] eG (dI (hg:=bD g1) [2] bW (dD (hg:=bD g1) [12] eG (dI (hg:=bD g1) [13] tLn (dI (hg:=bD g1) [11,14] rGe (dI [9,15] (D3 g1) (dI [16] bI ?_))))))))))))
  iterate 3 refine JV g2 ?_
  refine dI [17] (CJ g2) (dI [21] bI ?_)
  iterate 11 refine JV rfl ?_
  refine dI [22] (CJ rfl) (dN ?_)
  exact gE 7
 have H:=sR H g2
 rcases nA (decide (po.aFS<0)) with g3|g3
 ·have H:=sS H g3
  refine dW (dI [3] bW (dD [6] eG (dI [7] rLt (dI [8] bI (dI (hg:=bD g1) [3] bW (dD (hg:=bD g1) [10] eG (dI (hg:=bD g1) [2] bW (dD (hg:=bD g1) [12] eG (dI (hg:=bD g1) [13] tLn (dI (hg:=bD g1) [11,14] rGe (dI [9,15] (D3 g1) (dI [16] bI (dI (hg:=bD g2) [3] bW ?_)))))))))))))
  refine dD (hg:=bD g2) [18] eG (dI (hg:=bD g2) [19] rLt (dI [17,20] (D3 g2) (dI [21] bI ?_)))
  iterate 11 refine JV g3 ?_
  refine dI [22] (CJ g3) (dN ?_)
  exact gE 7
 have H:=sR H g3
 refine cB H fun z4 H=>(gM H fun y5 h6 H=>(dW (dI [3] bW (dD [6] eG (dI [7] rLt (dI [8] bI (dI (hg:=bD g1) [3] bW (dD (hg:=bD g1) [10] eG (dI (hg:=bD g1) [2] bW (dD (hg:=bD g1) [12] eG (dI (hg:=bD g1) [13] tLn (dI (hg:=bD g1) [11,14] rGe (dI [9,15] (D3 g1) ?_)))))))))))))
 refine dI [16] bI (dI (hg:=bD g2) [3] bW (dD (hg:=bD g2) [18] eG (dI (hg:=bD g2) [19] rLt (dI [17,20] (D3 g2) (dI [21] bI (dI (hg:=bD g3) [3] bW (dD (hg:=bD g3) [23] eG (dI (hg:=bD g3) [2] bW (dD (hg:=bD g3) [25] eG (dI (hg:=bD g3) [3] bW (dD (hg:=bD g3) [27] eG (dI (hg:=bD g3) [26,28] (rIm h6 z4 aqP.h) (dI (hg:=bD g3) [29] xE ?_)))))))))))))
 refine dI (hg:=bD g3) [30] wH (dI (hg:=bD g3) [31] tLn (dI (hg:=bD g3) [24,32] rGe (dI [22,33] (D3 g3) (dN ?_))))
 refine bG H (fun h7 H=>gE 6) fun h7 H=>?_;refine gQ 2 ?_;refine cB H fun z8 H=>(gM H fun y9 h10 H=>(dW (dI [2] bW (dD [36] eG (dI [3] bW (dD [38] eG (dI [37,39] (rIm h6 z4 aqP.h) (dI [40] xE (dI [41] wH (dI [3] bW (dD [43] eG (dI [42,44] (rIm h10 z8 aiU.h) (dI [45] (gZ (aL.cs y9)) ?_)))))))))))))
 refine iW [4,46] hY (dI [] bI (dN ?_))
 exact gE 0
def xB(fu:Nat)(pw:aH)(p0:Y)(i1:Nat):Int→J (LR Int (LR Unit (aZ×Int×Bool))):=fun v4=>lt (aR pw.aFr i1) fun y6=>sw (decide (v4<(y6.aFK.length:Int))) (gd (0≤v4∧(v4).toNat<(y6.aFK).length) (sw (decide ((aR y6.aFK ((v4).toNat)).aFs=p0)) (some (.ret (.ret ((aR y6.aFK ((v4).toNat)),(i1:Int),true)))) (some (.next (v4+1))))) (some (.brk v4))
def DV(fu:Nat)(pw:aH)(p0:Y):Nat→Unit→J (LR Unit (aZ×Int×Bool)):=fun i1 _=>so (loopW (xB fu pw p0 i1) fu 0) fun v4=>some (.next ())
def sG(fu:Nat)(pw:aH)(p0:Y):J (aZ×Int×Bool):=so (loopN (DV fu pw p0) (pw.aFr.length-0) 0 ()) fun _=>some ((aZ.mk s_ [] false false []),0,false)
theorem DX(fu:Nat)(pw:aH)(p0:Y)(r:aZ×Int×Bool)(H:sG fu pw p0=some r):bU prog 121 [(aH.pv pw),pS p0] (.tup [(aZ.pv r.1),pI r.2.1,pB r.2.2]):=by
 refine qJ func121 H (fun C hC H=>?_)
 refine gQ 2 ?_;refine q1 (fQ ([aP pw.aFr])) ?_;refine gQ 9 ?_;refine dR.fact (cP 0 0 rfl rfl rfl (aN.tl _)) (fun hl2=>?_)
 refine bV (σ:=Unit) (fun i1 _=>⟨[(1,pS p0),(2,.ptr 0 0),(4,.ptr 1 0),(5,pI 0),(6,pB false),(7,pN i1)],⟨[some ⟨26,[aP pw.aFr]⟩,some ⟨156,[pS s_,.nil,pB false,pB false,.nil]⟩],[]⟩⟩) (fun _=>⟨[(4,.ptr 1 0),(5,pI 0),(6,pB false)],⟨[some ⟨26,[aP pw.aFr]⟩,some ⟨156,[pS s_,.nil,pB false,pB false,.nil]⟩],[]⟩⟩) (fA H) ?_ ?_
 ·rintro i1 ⟨⟩ H
  refine gQ 9 ?_;refine cZ H (fun h3 h3l H=>?_) (fun h3 H=>?_)
  ·refine gQ 7 ?_;refine VQ (σ:=Int) (fun v4=>⟨[(1,pS p0),(2,.ptr 0 0),(4,.ptr 1 0),(5,pI 0),(6,pB false),(7,pN i1),(8,pI v4),(9,pN i1),(10,.ptr 0 0),(11,aP pw.aFr),(12,pN pw.aFr.length),(13,pB (decide ((i1:Int)<(pw.aFr.length:Int))))],⟨[some ⟨26,[aP pw.aFr]⟩,some ⟨156,[pS s_,.nil,pB false,pB false,.nil]⟩],[]⟩⟩) (fun v4=>⟨[(1,pS p0),(2,.ptr 0 0),(4,.ptr 1 0),(5,pI 0),(6,pB false),(7,pN i1),(8,pI v4),(9,pN i1),(10,.ptr 0 0),(11,aP pw.aFr),(12,pN pw.aFr.length),(13,pB (decide ((i1:Int)<(pw.aFr.length:Int))))],⟨[some ⟨26,[aP pw.aFr]⟩,some ⟨156,[pS s_,.nil,pB false,pB false,.nil]⟩],[]⟩⟩) (fA H) ?_ ?_
   ·rintro k5 v4 H
    refine gQ 7 ?_;refine gM H fun y6 h7 H=>(q1 (AR h7 h3l) ?_)
    refine gQ 2 ?_;refine acJ 22 (aZ.tl _) (fun hl8=>?_)
    refine gQ 3 ?_;refine bG H (fun h9 H=>?_) (fun h9 H=>?_)
    ·refine gQ 8 ?_;refine q1 (AR h7 h3l) ?_;refine gQ 3 ?_;refine cB H fun z10 H=>(q1 (rIy z10 awE.h) ?_)
     refine gQ 5 ?_;refine bG H (fun h11 H=>?_) (fun h11 H=>?_)
     ·refine gQ 5 ?_;refine q1 (AR h7 h3l) ?_;refine gQ 3 ?_;refine q1 (rIy z10 awE.h) (q1 (gZ (aZ.cs (aR y6.aFK ((v4).toNat)))) ?_)
      refine gQ 5 ?_;refine dR.ret ?_
      obtain rfl:_=r:=(lkR (skL (lwR (tO H))):)
      exact qf3
     refine gQ 3 ?_;refine q1 (zT rfl rfl rfl rfl (c:=v4+1) (by omega) (by omega)) ?_;exact gE 2
    exact gE 0
   rintro v4 H
   exact gE 5
  exact gE 0
 rintro⟨⟩ H
 exact gE 7
def zP(fu:Nat)(pw:aH)(p0:Y)(i1:Nat):Int→J (LR Int (LR Unit (aO×Int×Bool))):=fun v4=>lt (aR pw.aFr i1) fun y6=>sw (decide (v4<(y6.aFB.length:Int))) (gd (0≤v4∧(v4).toNat<(y6.aFB).length) (sw (decide ((aR y6.aFB ((v4).toNat)).aFs=p0)) (some (.ret (.ret ((aR y6.aFB ((v4).toNat)),(i1:Int),true)))) (some (.next (v4+1))))) (some (.brk v4))
def FR(fu:Nat)(pw:aH)(p0:Y):Nat→Unit→J (LR Unit (aO×Int×Bool)):=fun i1 _=>so (loopW (zP fu pw p0 i1) fu 0) fun v4=>some (.next ())
def B9(fu:Nat)(pw:aH)(p0:Y):J (aO×Int×Bool):=so (loopN (FR fu pw p0) (pw.aFr.length-0) 0 ()) fun _=>some ((aO.mk s_ [] []),0,false)
theorem ac7(fu:Nat)(pw:aH)(p0:Y)(r:aO×Int×Bool)(H:B9 fu pw p0=some r):bU prog 53 [(aH.pv pw),pS p0] (.tup [(aO.pv r.1),pI r.2.1,pB r.2.2]):=by
 refine qJ func53 H (fun C hC H=>?_)
 refine gQ 2 ?_;refine q1 (fQ ([aP pw.aFr])) ?_;refine gQ 9 ?_;refine dR.fact (cP 0 0 rfl rfl rfl (aN.tl _)) (fun hl2=>?_)
 refine bV (σ:=Unit) (fun i1 _=>⟨[(1,pS p0),(2,.ptr 0 0),(4,.ptr 1 0),(5,pI 0),(6,pB false),(7,pN i1)],⟨[some ⟨26,[aP pw.aFr]⟩,some ⟨39,[pS s_,.nil,.nil]⟩],[]⟩⟩) (fun _=>⟨[(4,.ptr 1 0),(5,pI 0),(6,pB false)],⟨[some ⟨26,[aP pw.aFr]⟩,some ⟨39,[pS s_,.nil,.nil]⟩],[]⟩⟩) (fA H) ?_ ?_
 ·rintro i1 ⟨⟩ H
  refine gQ 9 ?_;refine cZ H (fun h3 h3l H=>?_) (fun h3 H=>?_)
  ·refine gQ 7 ?_;refine VQ (σ:=Int) (fun v4=>⟨[(1,pS p0),(2,.ptr 0 0),(4,.ptr 1 0),(5,pI 0),(6,pB false),(7,pN i1),(8,pI v4),(9,pN i1),(10,.ptr 0 0),(11,aP pw.aFr),(12,pN pw.aFr.length),(13,pB (decide ((i1:Int)<(pw.aFr.length:Int))))],⟨[some ⟨26,[aP pw.aFr]⟩,some ⟨39,[pS s_,.nil,.nil]⟩],[]⟩⟩) (fun v4=>⟨[(1,pS p0),(2,.ptr 0 0),(4,.ptr 1 0),(5,pI 0),(6,pB false),(7,pN i1),(8,pI v4),(9,pN i1),(10,.ptr 0 0),(11,aP pw.aFr),(12,pN pw.aFr.length),(13,pB (decide ((i1:Int)<(pw.aFr.length:Int))))],⟨[some ⟨26,[aP pw.aFr]⟩,some ⟨39,[pS s_,.nil,.nil]⟩],[]⟩⟩) (fA H) ?_ ?_
   ·rintro k5 v4 H
    refine gQ 7 ?_;refine gM H fun y6 h7 H=>(q1 (AR h7 h3l) ?_)
    refine gQ 2 ?_;refine acJ 22 (aO.tl _) (fun hl8=>?_)
    refine gQ 3 ?_;refine bG H (fun h9 H=>?_) (fun h9 H=>?_)
    ·refine gQ 8 ?_;refine q1 (AR h7 h3l) ?_;refine gQ 3 ?_;refine cB H fun z10 H=>(q1 (rIy z10 awF.h) ?_)
     refine gQ 5 ?_;refine bG H (fun h11 H=>?_) (fun h11 H=>?_)
     ·refine gQ 5 ?_;refine q1 (AR h7 h3l) ?_;refine gQ 3 ?_;refine q1 (rIy z10 awF.h) (q1 (gZ (aO.cs (aR y6.aFB ((v4).toNat)))) ?_)
      refine gQ 5 ?_;refine dR.ret ?_
      obtain rfl:_=r:=(lkR (skL (lwR (tO H))):)
      exact qf3
     refine gQ 3 ?_;refine q1 (zT rfl rfl rfl rfl (c:=v4+1) (by omega) (by omega)) ?_;exact gE 2
    exact gE 0
   rintro v4 H
   exact gE 5
  exact gE 0
 rintro⟨⟩ H
 exact gE 7
end
end Go.Proofs.YtfcoaagbccmahaaGreat.W
namespace Go.Proofs.YtfcoaagbccmahaaGreat
open Go.RowKit
theorem kM: ∀(a b:Z Tr),aX (a++b)=aX a+aX b
 | [],b=>by simp [aX]
 |t::a,b=>by simp [aX,kM a b,Nat.add_assoc]
theorem av4:aW (bA [])=0:=rfl
theorem auJ(a:Y)(l:Z Y):aW (bA (a::l))=a.size+aW (bA l):=by simp [bA,aW,aX,mM]
theorem aA.bk_mk(v0:Int)(v1:Y)(v2:Z aA):aX (aA.tr (.mk v0 v1 v2))=v1.size+(v2.length+aW (aA.trs v2)):=by
 simp only [aA.tr,kM,aX,mM,b6,fF,gK,aA.tl]
 first|done|omega
theorem aA.bks_nil:aW (aA.trs [])=0:=by simp [aA.tm,aW]
theorem aA.bks_cons(a:aA)(l:Z aA):aW (aA.trs (a::l))=aX (aA.tr a)+aW (aA.trs l):=by simp [aA.tm,aW]
theorem aM.bk_mk(v0:Int)(v1:Y)(v2:Y)(v3:Int)(v4:aA)(v5:Z aM)(v6:Z cC):aX (aM.tr (.mk v0 v1 v2 v3 v4 v5 v6))=v1.size+v2.size+aX (aA.tr v4)+(v5.length+aW (aM.trs v5))+(v6.length+aW (cC.trs v6)):=by
 simp only [aM.tr,kM,aX,mM,b6,fF,gK,aM.tl,cC.tl]
 first|done|omega
theorem aM.bks_nil:aW (aM.trs [])=0:=by simp [aM.tm,aW]
theorem aM.bks_cons(a:aM)(l:Z aM):aW (aM.trs (a::l))=aX (aM.tr a)+aW (aM.trs l):=by simp [aM.tm,aW]
theorem cC.bk_mk(v0:Y)(v1:Z Y)(v2:aM):aX (cC.tr (.mk v0 v1 v2))=v0.size+(v1.length+aW (bA v1))+aX (aM.tr v2):=by
 simp only [cC.tr,kM,aX,mM,b6,fF,gK]
 first|done|omega
theorem cC.bks_nil:aW (cC.trs [])=0:=by simp [cC.tm,aW]
theorem cC.bks_cons(a:cC)(l:Z cC):aW (cC.trs (a::l))=aX (cC.tr a)+aW (cC.trs l):=by simp [cC.tm,aW]
theorem aD.bk_mk(v0:Y)(v1:aA):aX (aD.tr (.mk v0 v1))=v0.size+aX (aA.tr v1):=by
 simp only [aD.tr,kM,aX,mM,b6,fF,gK]
 first|done|omega
theorem aD.bks_nil:aW (aD.trs [])=0:=by simp [aD.tm,aW]
theorem aD.bks_cons(a:aD)(l:Z aD):aW (aD.trs (a::l))=aX (aD.tr a)+aW (aD.trs l):=by simp [aD.tm,aW]
theorem aY.bk_mk(v0:Y)(v1:aA):aX (aY.tr (.mk v0 v1))=v0.size+aX (aA.tr v1):=by
 simp only [aY.tr,kM,aX,mM,b6,fF,gK]
 first|done|omega
theorem aY.bks_nil:aW (aY.trs [])=0:=by simp [aY.tm,aW]
theorem aY.bks_cons(a:aY)(l:Z aY):aW (aY.trs (a::l))=aX (aY.tr a)+aW (aY.trs l):=by simp [aY.tm,aW]
theorem aT.bk_mk(v0:Y)(v1:Z Y)(v2:aM):aX (aT.tr (.mk v0 v1 v2))=v0.size+(v1.length+aW (bA v1))+aX (aM.tr v2):=by
 simp only [aT.tr,kM,aX,mM,b6,fF,gK]
 first|done|omega
theorem aT.bks_nil:aW (aT.trs [])=0:=by simp [aT.tm,aW]
theorem aT.bks_cons(a:aT)(l:Z aT):aW (aT.trs (a::l))=aX (aT.tr a)+aW (aT.trs l):=by simp [aT.tm,aW]
theorem aE.bk_mk(v0:Y)(v1:Z aA):aX (aE.tr (.mk v0 v1))=v0.size+(v1.length+aW (aA.trs v1)):=by
 simp only [aE.tr,kM,aX,mM,b6,fF,gK,aA.tl]
 first|done|omega
theorem aE.bks_nil:aW (aE.trs [])=0:=by simp [aE.tm,aW]
theorem aE.bks_cons(a:aE)(l:Z aE):aW (aE.trs (a::l))=aX (aE.tr a)+aW (aE.trs l):=by simp [aE.tm,aW]
theorem aG.bk_mk(v0:Y)(v1:Z aA)(v2:aA)(v3:Bool)(v4:Z Y)(v5:aM):aX (aG.tr (.mk v0 v1 v2 v3 v4 v5))=v0.size+(v1.length+aW (aA.trs v1))+aX (aA.tr v2)+(v4.length+aW (bA v4))+aX (aM.tr v5):=by
 simp only [aG.tr,kM,aX,mM,b6,fF,gK,aA.tl]
 first|done|omega
theorem aG.bks_nil:aW (aG.trs [])=0:=by simp [aG.tm,aW]
theorem aG.bks_cons(a:aG)(l:Z aG):aW (aG.trs (a::l))=aX (aG.tr a)+aW (aG.trs l):=by simp [aG.tm,aW]
theorem aZ.bk_mk(v0:Y)(v1:Z Y)(v2:Bool)(v3:Bool)(v4:Z aG):aX (aZ.tr (.mk v0 v1 v2 v3 v4))=v0.size+(v1.length+aW (bA v1))+(v4.length+aW (aG.trs v4)):=by
 simp only [aZ.tr,kM,aX,mM,b6,fF,gK,aG.tl]
 first|done|omega
theorem aZ.bks_nil:aW (aZ.trs [])=0:=by simp [aZ.tm,aW]
theorem aZ.bks_cons(a:aZ)(l:Z aZ):aW (aZ.trs (a::l))=aX (aZ.tr a)+aW (aZ.trs l):=by simp [aZ.tm,aW]
theorem aO.bk_mk(v0:Y)(v1:Z Y)(v2:Z aE):aX (aO.tr (.mk v0 v1 v2))=v0.size+(v1.length+aW (bA v1))+(v2.length+aW (aE.trs v2)):=by
 simp only [aO.tr,kM,aX,mM,b6,fF,gK,aE.tl]
 first|done|omega
theorem aO.bks_nil:aW (aO.trs [])=0:=by simp [aO.tm,aW]
theorem aO.bks_cons(a:aO)(l:Z aO):aW (aO.trs (a::l))=aX (aO.tr a)+aW (aO.trs l):=by simp [aO.tm,aW]
theorem aL.bk_mk(v0:Y)(v1:Z Y)(v2:aA)(v3:Z aD)(v4:Bool)(v5:Bool)(v6:aA)(v7:Z aT):aX (aL.tr (.mk v0 v1 v2 v3 v4 v5 v6 v7))=v0.size+(v1.length+aW (bA v1))+aX (aA.tr v2)+(v3.length+aW (aD.trs v3))+aX (aA.tr v6)+(v7.length+aW (aT.trs v7)):=by
 simp only [aL.tr,kM,aX,mM,b6,fF,gK,aD.tl,aT.tl]
 first|done|omega
theorem aL.bks_nil:aW (aL.trs [])=0:=by simp [aL.tm,aW]
theorem aL.bks_cons(a:aL)(l:Z aL):aW (aL.trs (a::l))=aX (aL.tr a)+aW (aL.trs l):=by simp [aL.tm,aW]
theorem aQ.bk_mk(v0:Y)(v1:Z Y)(v2:Z aD)(v3:Z aY)(v4:aA)(v5:aM):aX (aQ.tr (.mk v0 v1 v2 v3 v4 v5))=v0.size+(v1.length+aW (bA v1))+(v2.length+aW (aD.trs v2))+(v3.length+aW (aY.trs v3))+aX (aA.tr v4)+aX (aM.tr v5):=by
 simp only [aQ.tr,kM,aX,mM,b6,fF,gK,aD.tl,aY.tl]
 first|done|omega
theorem aQ.bks_nil:aW (aQ.trs [])=0:=by simp [aQ.tm,aW]
theorem aQ.bks_cons(a:aQ)(l:Z aQ):aW (aQ.trs (a::l))=aX (aQ.tr a)+aW (aQ.trs l):=by simp [aQ.tm,aW]
theorem aN.bk_mk(v0:Y)(v1:Z Y)(v2:Z aZ)(v3:Z aO)(v4:Z aL)(v5:Z aQ):aX (aN.tr (.mk v0 v1 v2 v3 v4 v5))=v0.size+(v1.length+aW (bA v1))+(v2.length+aW (aZ.trs v2))+(v3.length+aW (aO.trs v3))+(v4.length+aW (aL.trs v4))+(v5.length+aW (aQ.trs v5)):=by
 simp only [aN.tr,kM,aX,mM,b6,fF,gK,aZ.tl,aO.tl,aL.tl,aQ.tl]
 first|done|omega
theorem aN.bks_nil:aW (aN.trs [])=0:=by simp [aN.tm,aW]
theorem aN.bks_cons(a:aN)(l:Z aN):aW (aN.trs (a::l))=aX (aN.tr a)+aW (aN.trs l):=by simp [aN.tm,aW]
theorem aH.bk_mk(v0:Z aN):aX (aH.tr (.mk v0))=(v0.length+aW (aN.trs v0)):=by
 simp only [aH.tr,kM,aX,mM,b6,fF,gK,aN.tl]
 first|done|omega
theorem aB.bk_mk(v0:Y)(v1:Z aB):aX (aB.tr (.mk v0 v1))=v0.size+(v1.length+aW (aB.trs v1)):=by
 simp only [aB.tr,kM,aX,mM,b6,fF,gK,aB.tl]
 first|done|omega
theorem aB.bks_nil:aW (aB.trs [])=0:=by simp [aB.tm,aW]
theorem aB.bks_cons(a:aB)(l:Z aB):aW (aB.trs (a::l))=aX (aB.tr a)+aW (aB.trs l):=by simp [aB.tm,aW]
def eK(P:Nat→Prop):Prop:= ∃N,∀n,N≤n→P n
theorem eK.all{P:Nat→Prop}(h: ∀n,P n):eK P:=⟨0,fun n _=>h n⟩
theorem eK.and{P Q:Nat→Prop}(h:eK P)(k:eK Q):eK fun n=>P n∧Q n:=by
 obtain⟨a,h⟩:=h
 obtain⟨b,k⟩:=k
 exact⟨max a b,fun n hn=>⟨h n (by omega),k n (by omega)⟩⟩
theorem eK.imp{P Q:Nat→Prop}(h:eK P)(k: ∀n,P n→Q n):eK Q:=by
 obtain⟨a,h⟩:=h
 exact⟨a,fun n hn=>k n (h n hn)⟩
theorem eK.imp2{P Q R:Nat→Prop}(h:eK P)(h2:eK Q)(k: ∀n,P n→Q n→R n):eK R:=(h.and h2).imp fun n hn=>k n hn.1 hn.2
theorem bY{P:Nat→Prop}(h:eK fun n=>P (n+1)):eK P:=by
 obtain⟨a,h⟩:=h
 exact⟨a+1,fun n hn=>by
  obtain⟨m,rfl⟩: ∃m,n=m+1:=⟨n-1,by omega⟩
  exact h m (by omega)⟩
theorem jI{α:Type}{P:α→Nat→Prop}: ∀ {l:Z α},(∀x∈l,eK (P x))→eK fun n=> ∀x∈l,P x n
 | [],_=> .all fun n x hx=>by simp at hx
 |a::l,h=>((h a (by simp)).and (jI (l:=l) fun x hx=>h x (List.mem_cons_of_mem _ hx))).imp fun n hn x hx=>by
  rcases List.mem_cons.1 hx with rfl|hx
  ·exact hn.1
  ·exact hn.2 x hx
theorem eK.below{P:Nat→Nat→Prop}: ∀ {k:Nat},(∀i,i<k→eK (P i))→eK fun n=> ∀i,i<k→P i n
 |0,_=> .all fun n i hi=>by omega
 |k+1,h=>((h k (by omega)).and (eK.below (k:=k) fun i hi=>h i (Nat.lt_succ_of_lt hi))).imp fun n hn i hi=>by
  rcases Nat.lt_or_ge i k with h1|h1
  ·exact hn.2 i h1
  ·obtain rfl:i=k:=by omega
   exact hn.1
theorem eK.get{P:Nat→Prop}(h:eK P): ∃n,P n:=by
 obtain⟨a,h⟩:=h
 exact⟨a,h a (Nat.le_refl _)⟩
section
variable {α σ β:Type} [Inhabited α] {f:Nat→σ→J (LR σ β)}
theorem cA{l:Z α}{i:Nat}(h:i<l.length):aR l i∈l:=by rw [kU h];exact List.getElem_mem h
theorem s8{l:Z α}{i:Nat}(h:i<l.length):l.drop i=aR l i::l.drop (i+1):=by rw [kU h];exact List.drop_eq_getElem_cons h
theorem LI{l:Z α}{i:Nat}(h:i<l.length):l.take (i+1)=l.take i++ [aR l i]:=by rw [kU h];exact List.take_succ_eq_append_getElem h
theorem DE{n i:Nat}{s s':σ}(h:i<n)(e:f i s=some (.next s')):loopN f (n-i) i s=loopN f (n-(i+1)) (i+1) s':=PD h rfl e
theorem MB{n i:Nat}{s:σ}{x:β}(h:i<n)(e:f i s=some (.ret x)):loopN f (n-i) i s=some (.inl x):=arC h rfl e
theorem arB{n i:Nat}{s s':σ}(h:i<n)(e:f i s=some (.brk s')):loopN f (n-i) i s=some (.inr s'):=aq9 h rfl e
theorem GT{n i:Nat}{s:σ}(h:n≤i):loopN f (n-i) i s=some (.inr s):=arA h rfl
theorem ZX{l:Z α}{g:σ→α→σ}(P:Nat→σ→Prop)(hs: ∀i s,i<l.length→P i s→f i s=some (.next (g s (aR l i)))∧P (i+1) (g s (aR l i))):
 ∀(k i:Nat) (s:σ),l.length-i=k→P i s→loopN f (l.length-i) i s=some (.inr ((l.drop i).foldl g s))
 |0,i,s,hk,_=>by
  rw [GT (by omega),List.drop_of_length_le (by omega),List.foldl_nil]
 |k+1,i,s,hk,hp=>by
  have hi:i<l.length:=by omega
  obtain⟨h1,h2⟩:=hs i s hi hp
  rw [DE hi h1,s8 hi,List.foldl_cons]
  exact ZX P hs k (i+1) _ (by omega) h2
theorem lZ{l:Z α}{g:σ→α→σ}(P:Nat→σ→Prop)(hs: ∀i s,i<l.length→P i s→f i s=some (.next (g s (aR l i)))∧P (i+1) (g s (aR l i))){s:σ}(h0:P 0 s):loopN f (l.length-0) 0 s=some (.inr (l.foldl g s)):=by
 have:=ZX P hs l.length 0 s (by omega) h0
 rwa [List.drop_zero] at this
theorem ZW{l:Z α}{p:α→Bool}{r:α→β}{s:σ}(hs: ∀i,i<l.length→f i s=if p (aR l i) then some (.ret (r (aR l i))) else some (.next s)):
 ∀(k i:Nat),l.length-i=k→loopN f (l.length-i) i s=some (match(l.drop i).find? p with|some x=> .inl (r x)|none=> .inr s)
 |0,i,hk=>by
  rw [GT (by omega),List.drop_of_length_le (by omega),List.find?_nil]
 |k+1,i,hk=>by
  have hi:i<l.length:=by omega
  have h1:=hs i hi
  rw [s8 hi,List.find?_cons]
  cases hp:p (aR l i)
  ·rw [hp] at h1
   rw [DE hi (by simpa using h1)]
   exact ZW hs k (i+1) (by omega)
  ·rw [hp] at h1
   rw [MB hi (by simpa using h1)]
theorem n5{l:Z α}{p:α→Bool}{r:α→β}{s:σ}(hs: ∀i,i<l.length→f i s=if p (aR l i) then some (.ret (r (aR l i))) else some (.next s)):loopN f (l.length-0) 0 s=some (match l.find? p with|some x=> .inl (r x)|none=> .inr s):=by
 have:=ZW hs l.length 0 (by omega)
 rwa [List.drop_zero] at this
theorem EI{l:Z α}{p:α→Bool}{r:β}{s:σ}(hs: ∀i,i<l.length→f i s=if p (aR l i) then some (.next s) else some (.ret r)):loopN f (l.length-0) 0 s=some (if l.all p then .inr s else .inl r):=by
 rw [n5 (p:=fun x=> !p x) (r:=fun _=>r) (fun i hi=>by rw [hs i hi];cases p (aR l i)<;>rfl)]
 cases h:l.find? (fun x=> !p x) with
 |none=>
  rw [List.find?_eq_none] at h
  rw [if_pos (by rw [List.all_eq_true];intro x hx;have:=h x hx;simpa using this)]
 |some x=>
  have h1:=List.find?_some h
  have h2:=List.mem_of_find?_eq_some h
  rw [if_neg (by rw [List.all_eq_true];intro hc;have:=hc x h2;simp [this] at h1)]
theorem tG{f:Nat→Unit→J (LR Unit Int)}{l:Z α}{p:α→Bool}(hs: ∀i,i<l.length→f i ()=if p (aR l i) then some (.ret ((i:Nat):Int)) else some (.next ())):
 loopN f (l.length-0) 0 ()=some (match l.findIdx? p with|some i=> .inl ((i:Nat):Int)|none=> .inr ()):=by
 have key: ∀(k i:Nat),l.length-i=k→loopN f (l.length-i) i ()=some (match(l.drop i).findIdx? p with|some j=> .inl (((i+j:Nat)):Int)|none=> .inr ()):=by
  intro k
  induction k with
  |zero=>
   intro i hk
   rw [GT (by omega),List.drop_of_length_le (by omega)]
   rfl
  |succ k ih=>
   intro i hk
   have hi:i<l.length:=by omega
   have h1:=hs i hi
   rw [s8 hi,List.findIdx?_cons]
   cases hp:p (aR l i)
   ·rw [hp] at h1
    rw [DE hi (by simpa using h1),ih (i+1) (by omega)]
    cases(l.drop (i+1)).findIdx? p with
    |none=>simp
    |some j=>simp;omega
   ·rw [hp] at h1
    rw [MB hi (by simpa using h1)]
    simp
 have:=key l.length 0 (by omega)
 simpa using this
omit [Inhabited α] in
theorem TP{l:Z α}{p:α→Bool}:decide ((match l.findIdx? p with|some i=>((i:Nat):Int)|none=> -1)≥0)=l.any p:=by
 cases h:l.findIdx? p with
 |none=>
  rw [List.findIdx?_eq_none_iff] at h
  have:l.any p=false:=by rw [List.any_eq_false];intro x hx;simp [h x hx]
  rw [this];rfl
 |some i=>
  obtain⟨h1,h2,-⟩:=List.findIdx?_eq_some_iff_getElem.1 h
  have:l.any p=true:=List.any_eq_true.2 ⟨_,List.getElem_mem h1,h2⟩
  rw [this]
  simp
end
open Go.WalkArith Go.IntWalk
def Ok{α:Type}(o:J α)(P:α→Prop):Prop:= ∃a,o=some a∧P a
theorem Ok.some{α:Type}{P:α→Prop}{a:α}(h:P a):Ok (Option.some a) P:=⟨a,rfl,h⟩
theorem Ok.mono{α:Type}{P Q:α→Prop}{o:J α}(h:Ok o P)(k: ∀a,P a→Q a):Ok o Q:=by
 obtain⟨a,e,h⟩:=h
 exact⟨a,e,k a h⟩
theorem Ok.bd{α β:Type}{o:J α}{f:α→J β}{Q:α→Prop}{P:β→Prop}(h:Ok o Q)(k: ∀a,Q a→Ok (f a) P):Ok (bd o f) P:=by
 obtain⟨a,rfl,h⟩:=h
 exact k a h
theorem Ok.sw{α:Type}{c:Bool}{a b:J α}{P:α→Prop}(ht:c=true→Ok a P)(hf:c=false→Ok b P):Ok (sw c a b) P:=by
 cases c
 ·exact hf rfl
 ·exact ht rfl
theorem Ok.gd{α:Type}{g:Prop}{a:J α}{P:α→Prop}(h:g)(k:Ok a P):Ok (gd g a) P:=by
 rw [f7 h rfl]
 exact k
theorem Ok.so{σ β:Type}{o:J (β⊕σ)}{f:σ→J β}{Q:β⊕σ→Prop}{P:β→Prop}(h:Ok o Q)(k1: ∀x,Q (.inl x)→P x)(k2: ∀s,Q (.inr s)→Ok (f s) P):Ok (so o f) P:=by
 obtain⟨a,rfl,h⟩:=h
 cases a with
 |inl x=>exact⟨x,rfl,k1 x h⟩
 |inr s=>exact k2 s h
theorem Ok.lt{α β:Type}{x:α}{f:α→J β}{P:β→Prop}(k: ∀y,y=x→Ok (f y) P):Ok (lt x f) P:=k x rfl
theorem DS.pick_mem(d:DS){l:LB}(h:0<l.length):d.pick l∈l:=by
 rw [YB (d.below_lt h)]
 exact List.getElem_mem _
theorem cJ(d:DS){l:LB}{k:Nat}(h:0<l.length)(hs: ∀v∈l,v.size≤k):(d.pick l).size≤k:=hs _ (d.pick_mem h)
def PS{σ β:Type}(Q:β→Prop)(E:σ→Prop):β⊕σ→Prop
 | .inl x=>Q x
 | .inr s=>E s
def PL{σ β:Type}(Q:β→Prop)(N E:σ→Prop):LR σ β→Prop
 | .next s=>N s
 | .brk s=>E s
 | .ret x=>Q x
theorem Ok.gdk{α:Type}{g:Prop}{a:J α}{P:α→Prop}(h:g)(k:g→Ok a P):Ok (Go.Proofs.YtfcoaagbccmahaaGreat.gd g a) P:=Ok.gd h (k h)
theorem g0{σ β:Type}{o:J (β⊕σ)}{f:σ→J β}{P:β→Prop}{E:σ→Prop}(h:Ok o (PS P E))(k: ∀s,E s→Ok (f s) P):Ok (Go.Proofs.YtfcoaagbccmahaaGreat.so o f) P:=Ok.so h (fun _ hx=>hx) k
theorem Ok.loopN{σ β:Type}{f:Nat→σ→J (LR σ β)}{n:Nat}{Q:β→Prop}{E:σ→Prop}(I:Nat→σ→Prop)(hE: ∀i s,n≤i→I i s→E s)(hs: ∀i s,i<n→I i s→Ok (f i s) (PL Q (I (i+1)) E)):
 ∀(k i:Nat) (s:σ),n-i=k→I i s→Ok (Go.Proofs.YtfcoaagbccmahaaGreat.loopN f (n-i) i s) (PS Q E)
 |0,i,s,hk,hi=>by rw [GT (by omega)];exact Ok.some (hE i s (by omega) hi)
 |k+1,i,s,hk,hi=>by
  have hlt:i<n:=by omega
  obtain⟨r,hr,hp⟩:=hs i s hlt hi
  cases r with
  |next s'=>rw [DE hlt hr];exact Ok.loopN I hE hs k (i+1) s' (by omega) hp
  |brk s'=>rw [arB hlt hr];exact Ok.some hp
  |ret x=>rw [MB hlt hr];exact Ok.some hp
theorem FY{σ β:Type}{f:Nat→σ→J (LR σ β)}{n i:Nat}{s:σ}{Q:β→Prop}{E:σ→Prop}(I:Nat→σ→Prop)(h0:I i s)(hE: ∀i s,n≤i→I i s→E s)(hs: ∀i s,i<n→I i s→Ok (f i s) (PL Q (I (i+1)) E)):Ok (Go.Proofs.YtfcoaagbccmahaaGreat.loopN f (n-i) i s) (PS Q E):=
 Ok.loopN I hE hs (n-i) i s rfl h0
theorem Ok.loopW{σ β:Type}{f:σ→J (LR σ β)}{Q:β→Prop}{E:σ→Prop}(I:σ→Prop)(μ:σ→Nat)(hs: ∀s,I s→Ok (f s) (PL Q (fun s'=>I s'∧μ s'<μ s) E)):
 ∀(k:Nat) (s:σ),μ s<k→I s→Ok (Go.Proofs.YtfcoaagbccmahaaGreat.loopW f k s) (PS Q E)
 |0,s,hk,_=>absurd hk (Nat.not_lt_zero _)
 |k+1,s,hk,hi=>by
  obtain⟨r,hr,hp⟩:=hs s hi
  unfold Go.Proofs.YtfcoaagbccmahaaGreat.loopW
  rw [hr]
  cases r with
  |next s'=>exact Ok.loopW I μ hs k s' (by have:=hp.2;omega) hp.1
  |brk s'=>exact Ok.some hp
  |ret x=>exact Ok.some hp
theorem bP(k:Nat):eK fun fu=>k≤fu:=⟨k,fun _ h=>h⟩
class Wt (α:Type) where
 wtOf:α→Nat
def wt{α:Type}[Wt α](x:α):Nat:=Wt.wtOf x
def wl{α:Type}[Wt α]:Z α→Nat
 | []=>0
 |a::l=>wt a+1+wl l
instance:Wt ByteArray:=⟨ByteArray.size⟩
theorem bC(b:Y):wt b=b.size:=rfl
theorem LM(l:LB):wl l=l.length+aW (bA l):=by
 induction l with
 |nil=>rw [av4];rfl
 |cons a l ih=>rw [auJ];simp only [wl,List.length_cons,bC];omega
section
variable {α:Type} [Wt α]
theorem vN:wl ([]:Z α)=0∧([]:Z α).length=0:=⟨rfl,rfl⟩
theorem ahU(a:α)(l:Z α):wl (a::l)=wt a+1+wl l:=rfl
theorem cE(a b:Z α):wl (a++b)=wl a+wl b∧(a++b).length=a.length+b.length:=by
 refine⟨?_,List.length_append⟩
 induction a with
 |nil=>simp [wl]
 |cons x a ih=>simp only [List.cons_append,wl];omega
theorem cO(a:α):wl [a]=wt a+1∧ [a].length=1:=⟨rfl,rfl⟩
theorem mE(a b:α):wl [a,b]=wt a+wt b+2∧ [a,b].length=2:=⟨by simp only [wl];omega,rfl⟩
theorem JN(a b c:α):wl [a,b,c]=wt a+wt b+wt c+3∧ [a,b,c].length=3:=⟨by simp only [wl];omega,rfl⟩
theorem aBg(a b c d:α):wl [a,b,c,d]=wt a+wt b+wt c+wt d+4∧ [a,b,c,d].length=4:=⟨by simp only [wl];omega,rfl⟩
theorem ayU(a b c d e:α):wl [a,b,c,d,e]=wt a+wt b+wt c+wt d+wt e+5∧ [a,b,c,d,e].length=5:=⟨by simp only [wl];omega,rfl⟩
theorem aq8(a b c d e f g:α):wl [a,b,c,d,e,f,g]=wt a+wt b+wt c+wt d+wt e+wt f+wt g+7∧ [a,b,c,d,e,f,g].length=7:=⟨by simp only [wl];omega,rfl⟩
theorem bE(l:Z α):l.length≤wl l:=by
 induction l with
 |nil=>simp
 |cons a l ih=>simp only [wl,List.length_cons];omega
theorem LL(k:Nat)(l:Z α):wl (l.take k)+wl (l.drop k)=wl l:=by
 have:=(cE (l.take k) (l.drop k)).1
 rw [List.take_append_drop] at this
 omega
theorem rR(l:Z α)(k:Nat):wl (l.take k)≤wl l:=by have:=LL k l;omega
theorem av7(k:Nat)(l:Z α):wl (l.drop k)≤wl l:=by have:=LL k l;omega
theorem XZ(a b:Nat)(l:Z α):wl (List.drop a (List.take b l))≤wl l∧(List.drop a (List.take b l)).length=min b l.length-a:=by
 have h1:=av7 a (l.take b)
 have h2:=rR l b
 exact⟨by omega,by simp⟩
theorem FU{l:Z α}{x:α}(h:x∈l):wt x+1≤wl l:=by
 induction l with
 |nil=>simp at h
 |cons a l ih=>
  simp only [wl]
  rcases List.mem_cons.1 h with rfl|h
  ·omega
  ·have:=ih h;omega
theorem ahV(l:Z α)(a b:Nat):a≤b→wl (l.take a)≤wl (l.take b):=fun h=>by
 have:=rR (l.take b) a
 rwa [List.take_take,Nat.min_eq_left h] at this
theorem axN(L:Z α)(b:Nat):1≤b→wl (List.drop (1:Int).toNat (List.take b L))+wl (List.take 1 L)≤wl (List.take b L):=fun h=>by
 have:=LL 1 (L.take b)
 rw [List.take_take,Nat.min_eq_left h] at this
 show wl (List.drop 1 _)+_≤_
 omega
variable [Inhabited α]
theorem c8(l:Z α)(i:Nat):i<l.length→wt (aR l i)+1≤wl l:=fun h=>FU (cA h)
theorem rT(l:Z α)(i:Nat)(h:i<l.length):wl (l.take (i+1))=wl (l.take i)+wt (aR l i)+1:=by
 rw [LI h,(cE _ _).1,(cO _).1]
 omega
theorem N8(l:Z α)(i:Nat):i<l.length→wl (l.take (i+1))=wl (l.take i)+wt (aR l i)+1:=rT l i
end
theorem fK(E:Int): -9223372036854775808≤E∧E≤9223372036854775807→bB E=E:=fun h=>by
 unfold bB IntKind.wrap
 simp [IntKind.bits,IntKind.signed]
 omega
theorem HY(b:Y)(i j:Nat):(b.extract i j).size=min j b.size-i:=by simp [ByteArray.size_extract]
theorem fR(a b:Y):(a++b).size=a.size+b.size:=ByteArray.size_append
theorem as6(l:Z UInt8):(bytesStr l).size=l.length:=by simp [bytesStr,ByteArray.size]
theorem J8{b:Y}(h: ¬b=⟨#[]⟩):0<b.size:=by
 rcases Nat.eq_zero_or_pos b.size with h0|h0
 ·refine absurd ?_ h
  obtain⟨a⟩:=b
  have h1:a.size=0:=h0
  rw [Array.eq_empty_of_size_eq_zero h1]
 ·exact h0
theorem bS{p:Prop}(h:p:=by first|omega|(dsimp only;omega)|trivial|(dsimp only;trivial)):p:=h
theorem Ok.next{σ β:Type}{N E:σ→Prop}{Q:β→Prop}{s:σ}(h:N s):Ok (Option.some (LR.next s)) (PL Q N E):=⟨_,rfl,h⟩
theorem Ok.brk{σ β:Type}{N E:σ→Prop}{Q:β→Prop}{s:σ}(h:E s):Ok (Option.some (LR.brk s)) (PL Q N E):=⟨_,rfl,h⟩
theorem Ok.ret{σ β:Type}{N E:σ→Prop}{Q:β→Prop}{x:β}(h:Q x):Ok (Option.some (LR.ret (σ:=σ) x)) (PL Q N E):=⟨_,rfl,h⟩
theorem Ok.inr{σ β:Type}{E:σ→Prop}{Q:β→Prop}{s:σ}(h:E s):Ok (Option.some (Sum.inr (α:=β) s)) (PS Q E):=⟨_,rfl,h⟩
theorem mD{α:Type}{p:Prop}[Decidable p]{a b:J α}{P:α→Prop}(ht:p→Ok a P)(hf: ¬p→Ok b P):Ok (Go.Proofs.YtfcoaagbccmahaaGreat.sw (decide p) a b) P:=Ok.sw (fun h=>ht (of_decide_eq_true h)) (fun h=>hf (of_decide_eq_false h))
theorem YL{α:Type}{p:Prop}[Decidable p]{a b:J α}{P:α→Prop}(ht: ¬p→Ok a P)(hf:p→Ok b P):Ok (Go.Proofs.YtfcoaagbccmahaaGreat.sw (!decide p) a b) P:=Ok.sw (fun h=>ht (by simpa using h)) (fun h=>hf (by simpa using h))
theorem amE{α:Type}{x:Bool}{a b:J α}{P:α→Prop}(ht:x=false→Ok a P)(hf:x=true→Ok b P):Ok (Go.Proofs.YtfcoaagbccmahaaGreat.sw (!x) a b) P:=Ok.sw (fun h=>ht (by simpa using h)) (fun h=>hf (by simpa using h))
theorem J3{σ β:Type}{f:Nat→σ→J (LR σ β)}{n i:Nat}{s:σ}{Q:β→Prop}{E:σ→Prop}(I:Nat→σ→Prop)(h0:I i s)(hE: ∀i s,n≤i→I i s→E s)(hs: ∀i s,i<n→I i s→Ok (f i s) (PL Q (I (i+1)) E)):Ok (Go.Proofs.YtfcoaagbccmahaaGreat.loopN f (n-i) i s) (PS Q E):=FY I h0 hE hs
theorem gD{σ β:Type}{f:Nat→σ→J (LR σ β)}{n i:Nat}{s:σ}{Q:β→Prop}(hs: ∀i s,i<n→Ok (f i s) (PL Q (fun _=>True) (fun _=>True))):Ok (Go.Proofs.YtfcoaagbccmahaaGreat.loopN f (n-i) i s) (PS Q (fun _=>True)):=FY (fun _ _=>True) trivial (fun _ _ _ _=>trivial) (fun i s hi _=>hs i s hi)
theorem oG{α:Type}{g:Prop}{a:J α}{P:α→Prop}(k:g→Ok a P)(h:g:=by first|omega|trivial):Ok (Go.Proofs.YtfcoaagbccmahaaGreat.gd g a) P:=Ok.gdk h k
theorem oD{α:Type}{p:Prop}[Decidable p]{a b:J α}{P:α→Prop}(ht:p→Ok a P)(hf: ¬p→Ok b P):Ok (Go.Proofs.YtfcoaagbccmahaaGreat.sw (decide p) a b) P:=mD ht hf
theorem oN{α:Type}{p:Prop}[Decidable p]{a b:J α}{P:α→Prop}(ht: ¬p→Ok a P)(hf:p→Ok b P):Ok (Go.Proofs.YtfcoaagbccmahaaGreat.sw (!decide p) a b) P:=YL ht hf
theorem oW{α:Type}{x:Bool}{a b:J α}{P:α→Prop}(ht:x=false→Ok a P)(hf:x=true→Ok b P):Ok (Go.Proofs.YtfcoaagbccmahaaGreat.sw (!x) a b) P:=amE ht hf
theorem oC{α:Type}{c:Bool}{a b:J α}{P:α→Prop}(ht:c=true→Ok a P)(hf:c=false→Ok b P):Ok (Go.Proofs.YtfcoaagbccmahaaGreat.sw c a b) P:=Ok.sw ht hf
theorem oB{α β:Type}{o:J α}{f:α→J β}{Q:α→Prop}{P:β→Prop}(h:Ok o Q)(k: ∀a,Q a→Ok (f a) P):Ok (Go.Proofs.YtfcoaagbccmahaaGreat.bd o f) P:=Ok.bd h k
theorem VT{α β:Type}{o:J α}{f:α→J β}{Q1 Q2:α→Prop}{P:β→Prop}(h:Ok o (fun r=>Q1 r∧Q2 r))(k: ∀a,Q1 a→Q2 a→Ok (f a) P):Ok (Go.Proofs.YtfcoaagbccmahaaGreat.bd o f) P:=Ok.bd h fun a q=>k a q.1 q.2
theorem xK{A B β:Type}{o:J (A×B)}{f:A×B→J β}{Q:A×B→Prop}{P:β→Prop}(h:Ok o Q)(k: ∀a b,Q (a,b)→Ok (f (a,b)) P):Ok (Go.Proofs.YtfcoaagbccmahaaGreat.bd o f) P:=Ok.bd h fun _ q=>k _ _ q
theorem oB4{A B C D β:Type}{o:J (A×B×C×D)}{f:A×B×C×D→J β}{Q:A×B×C×D→Prop}{P:β→Prop}(h:Ok o Q)(k: ∀a b c d,Q (a,b,c,d)→Ok (f (a,b,c,d)) P):Ok (Go.Proofs.YtfcoaagbccmahaaGreat.bd o f) P:=Ok.bd h fun _ q=>k _ _ _ _ q
theorem oB6{A B C D E F β:Type}{o:J (A×B×C×D×E×F)}{f:A×B×C×D×E×F→J β}{Q:A×B×C×D×E×F→Prop}{P:β→Prop}(h:Ok o Q)(k: ∀a b c d e g,Q (a,b,c,d,e,g)→Ok (f (a,b,c,d,e,g)) P):Ok (Go.Proofs.YtfcoaagbccmahaaGreat.bd o f) P:=Ok.bd h fun _ q=>k _ _ _ _ _ _ q
theorem oS{α:Type}{P:α→Prop}{a:α}(h:P a:=by first|trivial|omega|(dsimp only;omega)):Ok (Option.some a) P:=⟨a,rfl,h⟩
theorem sP{σ β:Type}{N E:σ→Prop}{Q:β→Prop}{s:σ}(h:N s:=by first|trivial|omega|(dsimp only;omega)):Ok (Option.some (LR.next s)) (PL Q N E):=⟨_,rfl,h⟩
theorem oK{σ β:Type}{N E:σ→Prop}{Q:β→Prop}{s:σ}(h:E s:=by first|trivial|omega|(dsimp only;omega)):Ok (Option.some (LR.brk s)) (PL Q N E):=⟨_,rfl,h⟩
theorem oR{σ β:Type}{N E:σ→Prop}{Q:β→Prop}{x:β}(h:Q x:=by first|trivial|omega|(dsimp only;omega)):Ok (Option.some (LR.ret (σ:=σ) x)) (PL Q N E):=⟨_,rfl,h⟩
theorem oL{σ β:Type}{E:σ→Prop}{Q:β→Prop}{x:β}(h:Q x:=by first|trivial|omega|(dsimp only;omega)):Ok (Option.some (Sum.inl (β:=σ) x)) (PS Q E):=⟨_,rfl,h⟩
theorem oI{σ β:Type}{E:σ→Prop}{Q:β→Prop}{s:σ}(h:E s:=by first|trivial|omega|(dsimp only;omega)):Ok (Option.some (Sum.inr (α:=β) s)) (PS Q E):=⟨_,rfl,h⟩
theorem JO{σ β:Type}{o:J (β⊕σ)}{f:σ→J β}{P:β→Prop}(h:Ok o (PS P fun _=>True))(k: ∀s,True→Ok (f s) P):Ok (Go.Proofs.YtfcoaagbccmahaaGreat.so o f) P:=g0 h k
theorem oEN{σ β:Type}{n i0:Nat}{s0:σ}{F:Nat→σ→J (LR σ β)}{f:σ→J β}{P:β→Prop}(hs: ∀i s,i<n→Ok (F i s) (PL P (fun _=>True) (fun _=>True)))(k: ∀s,True→Ok (f s) P):Ok (Go.Proofs.YtfcoaagbccmahaaGreat.so (Go.Proofs.YtfcoaagbccmahaaGreat.loopN F (n-i0) i0 s0) f) P:=g0 (gD hs) k
theorem T8{A B β:Type}[Wt A][Wt B][Inhabited A]{F:Nat→Z B→J (LR (Z B) β)}{f:Z B→J β}{i0:Nat}{v0:Z B}{Q:β→Prop}(L:Z A)(c:Nat)
 (hs: ∀i v,i<L.length→wl v+c*wl (List.take i0 L)≤wl v0+c*wl (List.take i L)→wl (L.take (i+1))=wl (L.take i)+wt (aR L i)+1→wl (L.take (i+1))≤wl L→
  Ok (F i v) (PL Q (fun v=>wl v+c*wl (List.take i0 L)≤wl v0+c*wl (List.take (i+1) L)) (fun v=>wl v+c*wl (List.take i0 L)≤wl v0+c*wl L)))
 (k: ∀v,wl v+c*wl (List.take i0 L)≤wl v0+c*wl L→Ok (f v) Q):Ok (Go.Proofs.YtfcoaagbccmahaaGreat.so (Go.Proofs.YtfcoaagbccmahaaGreat.loopN F (L.length-i0) i0 v0) f) Q:=
 g0 (FY (fun i v=>wl v+c*wl (List.take i0 L)≤wl v0+c*wl (List.take i L)) (Nat.le_refl _) (fun i v _ h=>Nat.le_trans h (Nat.add_le_add_left (Nat.mul_le_mul_left _ (rR L i)) _)) (fun i v hi h=>hs i v hi h (rT L i hi) (rR L _))) k
theorem avH{A B β:Type}[Wt A][Wt B][Inhabited A]{F:Nat→Z B→J (LR (Z B) β)}{f:Z B→J β}{i0:Nat}{Q:β→Prop}{PA:B→Prop}(L:Z A)(c:Nat)
 (hs: ∀i v,i<L.length→wl v+c*wl (List.take i0 L)≤wl ([]:Z B)+c*wl (List.take i L)→(∀a∈v,PA a)→wl (L.take (i+1))=wl (L.take i)+wt (aR L i)+1→wl (L.take (i+1))≤wl L→
  Ok (F i v) (PL Q (fun v=>wl v+c*wl (List.take i0 L)≤wl ([]:Z B)+c*wl (List.take (i+1) L)∧ ∀a∈v,PA a) (fun v=>wl v+c*wl (List.take i0 L)≤wl ([]:Z B)+c*wl L∧ ∀a∈v,PA a)))
 (k: ∀v,(wl v+c*wl (List.take i0 L)≤wl ([]:Z B)+c*wl L∧ ∀a∈v,PA a)→Ok (f v) Q):Ok (Go.Proofs.YtfcoaagbccmahaaGreat.so (Go.Proofs.YtfcoaagbccmahaaGreat.loopN F (L.length-i0) i0 []) f) Q:=
 g0 (FY (fun i v=>wl v+c*wl (List.take i0 L)≤wl ([]:Z B)+c*wl (List.take i L)∧ ∀a∈v,PA a) ⟨Nat.le_refl _,by simp⟩ (fun i v _ h=>⟨Nat.le_trans h.1 (Nat.add_le_add_left (Nat.mul_le_mul_left _ (rR L i)) _),h.2⟩) (fun i v hi h=>hs i v hi h.1 h.2 (rT L i hi) (rR L _))) k
instance:Wt aF:=⟨fun x=>aX (aF.tr x)⟩
instance:Wt aA:=⟨fun x=>aX (aA.tr x)⟩
instance:Wt aM:=⟨fun x=>aX (aM.tr x)⟩
instance:Wt cC:=⟨fun x=>aX (cC.tr x)⟩
instance:Wt aD:=⟨fun x=>aX (aD.tr x)⟩
instance:Wt aY:=⟨fun x=>aX (aY.tr x)⟩
instance:Wt aT:=⟨fun x=>aX (aT.tr x)⟩
instance:Wt aE:=⟨fun x=>aX (aE.tr x)⟩
instance:Wt aG:=⟨fun x=>aX (aG.tr x)⟩
instance:Wt aZ:=⟨fun x=>aX (aZ.tr x)⟩
instance:Wt aO:=⟨fun x=>aX (aO.tr x)⟩
instance:Wt aL:=⟨fun x=>aX (aL.tr x)⟩
instance:Wt aQ:=⟨fun x=>aX (aQ.tr x)⟩
instance:Wt aN:=⟨fun x=>aX (aN.tr x)⟩
instance:Wt aH:=⟨fun x=>aX (aH.tr x)⟩
instance:Wt aB:=⟨fun x=>aX (aB.tr x)⟩
instance:Wt aJ:=⟨fun x=>aX (aJ.tr x)⟩
instance:Wt aK:=⟨fun x=>aX (aK.tr x)⟩
instance:Wt aC:=⟨fun x=>aX (aC.tr x)⟩
instance:Wt aU:=⟨fun x=>aX (aU.tr x)⟩
instance:Wt bR:=⟨fun x=>aX (bR.tr x)⟩
theorem aA.wl_bulk(l:Z aA):wl l=l.length+aW (aA.trs l):=by
 induction l with
 |nil=>rw [aA.bks_nil];rfl
 |cons a l ih=>
  rw [aA.bks_cons]
  simp only [wl,List.length_cons,ih]
  show aX (aA.tr a)+1+_=_
  omega
theorem aM.wl_bulk(l:Z aM):wl l=l.length+aW (aM.trs l):=by
 induction l with
 |nil=>rw [aM.bks_nil];rfl
 |cons a l ih=>
  rw [aM.bks_cons]
  simp only [wl,List.length_cons,ih]
  show aX (aM.tr a)+1+_=_
  omega
theorem cC.wl_bulk(l:Z cC):wl l=l.length+aW (cC.trs l):=by
 induction l with
 |nil=>rw [cC.bks_nil];rfl
 |cons a l ih=>
  rw [cC.bks_cons]
  simp only [wl,List.length_cons,ih]
  show aX (cC.tr a)+1+_=_
  omega
theorem aD.wl_bulk(l:Z aD):wl l=l.length+aW (aD.trs l):=by
 induction l with
 |nil=>rw [aD.bks_nil];rfl
 |cons a l ih=>
  rw [aD.bks_cons]
  simp only [wl,List.length_cons,ih]
  show aX (aD.tr a)+1+_=_
  omega
theorem aY.wl_bulk(l:Z aY):wl l=l.length+aW (aY.trs l):=by
 induction l with
 |nil=>rw [aY.bks_nil];rfl
 |cons a l ih=>
  rw [aY.bks_cons]
  simp only [wl,List.length_cons,ih]
  show aX (aY.tr a)+1+_=_
  omega
theorem aT.wl_bulk(l:Z aT):wl l=l.length+aW (aT.trs l):=by
 induction l with
 |nil=>rw [aT.bks_nil];rfl
 |cons a l ih=>
  rw [aT.bks_cons]
  simp only [wl,List.length_cons,ih]
  show aX (aT.tr a)+1+_=_
  omega
theorem aE.wl_bulk(l:Z aE):wl l=l.length+aW (aE.trs l):=by
 induction l with
 |nil=>rw [aE.bks_nil];rfl
 |cons a l ih=>
  rw [aE.bks_cons]
  simp only [wl,List.length_cons,ih]
  show aX (aE.tr a)+1+_=_
  omega
theorem aG.wl_bulk(l:Z aG):wl l=l.length+aW (aG.trs l):=by
 induction l with
 |nil=>rw [aG.bks_nil];rfl
 |cons a l ih=>
  rw [aG.bks_cons]
  simp only [wl,List.length_cons,ih]
  show aX (aG.tr a)+1+_=_
  omega
theorem aZ.wl_bulk(l:Z aZ):wl l=l.length+aW (aZ.trs l):=by
 induction l with
 |nil=>rw [aZ.bks_nil];rfl
 |cons a l ih=>
  rw [aZ.bks_cons]
  simp only [wl,List.length_cons,ih]
  show aX (aZ.tr a)+1+_=_
  omega
theorem aO.wl_bulk(l:Z aO):wl l=l.length+aW (aO.trs l):=by
 induction l with
 |nil=>rw [aO.bks_nil];rfl
 |cons a l ih=>
  rw [aO.bks_cons]
  simp only [wl,List.length_cons,ih]
  show aX (aO.tr a)+1+_=_
  omega
theorem aL.wl_bulk(l:Z aL):wl l=l.length+aW (aL.trs l):=by
 induction l with
 |nil=>rw [aL.bks_nil];rfl
 |cons a l ih=>
  rw [aL.bks_cons]
  simp only [wl,List.length_cons,ih]
  show aX (aL.tr a)+1+_=_
  omega
theorem aQ.wl_bulk(l:Z aQ):wl l=l.length+aW (aQ.trs l):=by
 induction l with
 |nil=>rw [aQ.bks_nil];rfl
 |cons a l ih=>
  rw [aQ.bks_cons]
  simp only [wl,List.length_cons,ih]
  show aX (aQ.tr a)+1+_=_
  omega
theorem aN.wl_bulk(l:Z aN):wl l=l.length+aW (aN.trs l):=by
 induction l with
 |nil=>rw [aN.bks_nil];rfl
 |cons a l ih=>
  rw [aN.bks_cons]
  simp only [wl,List.length_cons,ih]
  show aX (aN.tr a)+1+_=_
  omega
theorem aB.wl_bulk(l:Z aB):wl l=l.length+aW (aB.trs l):=by
 induction l with
 |nil=>rw [aB.bks_nil];rfl
 |cons a l ih=>
  rw [aB.bks_cons]
  simp only [wl,List.length_cons,ih]
  show aX (aB.tr a)+1+_=_
  omega
theorem aA.wm(v0:Int)(v1:Y)(v2:Z aA):wt (aA.mk v0 v1 v2)=v1.size+wl v2:=by
 show aX (aA.tr (.mk v0 v1 v2))=_
 rw [aA.bk_mk]
 simp only [aA.wl_bulk]
 try rfl
theorem aA.we(x:aA):wt x=x.aFs.size+wl x.aFt:=by
 obtain⟨v0,v1,v2⟩:=x
 exact aA.wm v0 v1 v2
theorem aM.wm(v0:Int)(v1:Y)(v2:Y)(v3:Int)(v4:aA)(v5:Z aM)(v6:Z cC):wt (aM.mk v0 v1 v2 v3 v4 v5 v6)=v1.size+v2.size+wt v4+wl v5+wl v6:=by
 show aX (aM.tr (.mk v0 v1 v2 v3 v4 v5 v6))=_
 rw [aM.bk_mk]
 simp only [aM.wl_bulk,cC.wl_bulk]
 try rfl
theorem aM.we(x:aM):wt x=x.aFz.size+x.aFs.size+wt x.aFu+wl x.aFt+wl x.aFP:=by
 obtain⟨v0,v1,v2,v3,v4,v5,v6⟩:=x
 exact aM.wm v0 v1 v2 v3 v4 v5 v6
theorem cC.wm(v0:Y)(v1:LB)(v2:aM):wt (cC.mk v0 v1 v2)=v0.size+wl v1+wt v2:=by
 show aX (cC.tr (.mk v0 v1 v2))=_
 rw [cC.bk_mk]
 simp only [LM]
 try rfl
theorem cC.we(x:cC):wt x=x.aFU.size+wl x.aFH+wt x.aFE:=by
 obtain⟨v0,v1,v2⟩:=x
 exact cC.wm v0 v1 v2
theorem aD.wm(v0:Y)(v1:aA):wt (aD.mk v0 v1)=v0.size+wt v1:=by
 show aX (aD.tr (.mk v0 v1))=_
 rw [aD.bk_mk]
 try rfl
theorem aD.we(x:aD):wt x=x.aFz.size+wt x.aFu:=by
 obtain⟨v0,v1⟩:=x
 exact aD.wm v0 v1
theorem aY.wm(v0:Y)(v1:aA):wt (aY.mk v0 v1)=v0.size+wt v1:=by
 show aX (aY.tr (.mk v0 v1))=_
 rw [aY.bk_mk]
 try rfl
theorem aY.we(x:aY):wt x=x.aFs.size+wt x.aFu:=by
 obtain⟨v0,v1⟩:=x
 exact aY.wm v0 v1
theorem aT.wm(v0:Y)(v1:LB)(v2:aM):wt (aT.mk v0 v1 v2)=v0.size+wl v1+wt v2:=by
 show aX (aT.tr (.mk v0 v1 v2))=_
 rw [aT.bk_mk]
 simp only [LM]
 try rfl
theorem aT.we(x:aT):wt x=x.aFs.size+wl x.aFH+wt x.aFE:=by
 obtain⟨v0,v1,v2⟩:=x
 exact aT.wm v0 v1 v2
theorem aE.wm(v0:Y)(v1:Z aA):wt (aE.mk v0 v1)=v0.size+wl v1:=by
 show aX (aE.tr (.mk v0 v1))=_
 rw [aE.bk_mk]
 simp only [aA.wl_bulk]
 try rfl
theorem aE.we(x:aE):wt x=x.aFs.size+wl x.aFN:=by
 obtain⟨v0,v1⟩:=x
 exact aE.wm v0 v1
theorem aG.wm(v0:Y)(v1:Z aA)(v2:aA)(v3:Bool)(v4:LB)(v5:aM):wt (aG.mk v0 v1 v2 v3 v4 v5)=v0.size+wl v1+wt v2+wl v4+wt v5:=by
 show aX (aG.tr (.mk v0 v1 v2 v3 v4 v5))=_
 rw [aG.bk_mk]
 simp only [aA.wl_bulk,LM]
 try rfl
theorem aG.we(x:aG):wt x=x.aFs.size+wl x.aFO+wt x.aFM+wl x.aFH+wt x.aFE:=by
 obtain⟨v0,v1,v2,v3,v4,v5⟩:=x
 exact aG.wm v0 v1 v2 v3 v4 v5
theorem aZ.wm(v0:Y)(v1:LB)(v2:Bool)(v3:Bool)(v4:Z aG):wt (aZ.mk v0 v1 v2 v3 v4)=v0.size+wl v1+wl v4:=by
 show aX (aZ.tr (.mk v0 v1 v2 v3 v4))=_
 rw [aZ.bk_mk]
 simp only [LM,aG.wl_bulk]
 try rfl
theorem aZ.we(x:aZ):wt x=x.aFs.size+wl x.aFD+wl x.aFQ:=by
 obtain⟨v0,v1,v2,v3,v4⟩:=x
 exact aZ.wm v0 v1 v2 v3 v4
theorem aO.wm(v0:Y)(v1:LB)(v2:Z aE):wt (aO.mk v0 v1 v2)=v0.size+wl v1+wl v2:=by
 show aX (aO.tr (.mk v0 v1 v2))=_
 rw [aO.bk_mk]
 simp only [LM,aE.wl_bulk]
 try rfl
theorem aO.we(x:aO):wt x=x.aFs.size+wl x.aFH+wl x.aFx:=by
 obtain⟨v0,v1,v2⟩:=x
 exact aO.wm v0 v1 v2
theorem aL.wm(v0:Y)(v1:LB)(v2:aA)(v3:Z aD)(v4:Bool)(v5:Bool)(v6:aA)(v7:Z aT):wt (aL.mk v0 v1 v2 v3 v4 v5 v6 v7)=v0.size+wl v1+wt v2+wl v3+wt v6+wl v7:=by
 show aX (aL.tr (.mk v0 v1 v2 v3 v4 v5 v6 v7))=_
 rw [aL.bk_mk]
 simp only [LM,aD.wl_bulk,aT.wl_bulk]
 try rfl
theorem aL.we(x:aL):wt x=x.aFz.size+wl x.aFH+wt x.aFJ+wl x.aFL+wt x.aFR+wl x.aFW:=by
 obtain⟨v0,v1,v2,v3,v4,v5,v6,v7⟩:=x
 exact aL.wm v0 v1 v2 v3 v4 v5 v6 v7
theorem aQ.wm(v0:Y)(v1:LB)(v2:Z aD)(v3:Z aY)(v4:aA)(v5:aM):wt (aQ.mk v0 v1 v2 v3 v4 v5)=v0.size+wl v1+wl v2+wl v3+wt v4+wt v5:=by
 show aX (aQ.tr (.mk v0 v1 v2 v3 v4 v5))=_
 rw [aQ.bk_mk]
 simp only [LM,aD.wl_bulk,aY.wl_bulk]
 try rfl
theorem aQ.we(x:aQ):wt x=x.aFs.size+wl x.aFH+wl x.aFL+wl x.aFO+wt x.aFM+wt x.aFE:=by
 obtain⟨v0,v1,v2,v3,v4,v5⟩:=x
 exact aQ.wm v0 v1 v2 v3 v4 v5
theorem aN.wm(v0:Y)(v1:LB)(v2:Z aZ)(v3:Z aO)(v4:Z aL)(v5:Z aQ):wt (aN.mk v0 v1 v2 v3 v4 v5)=v0.size+wl v1+wl v2+wl v3+wl v4+wl v5:=by
 show aX (aN.tr (.mk v0 v1 v2 v3 v4 v5))=_
 rw [aN.bk_mk]
 simp only [LM,aZ.wl_bulk,aO.wl_bulk,aL.wl_bulk,aQ.wl_bulk]
 try rfl
theorem aN.we(x:aN):wt x=x.aFs.size+wl x.aF6+wl x.aFK+wl x.aFB+wl x.aFG+wl x.aFT:=by
 obtain⟨v0,v1,v2,v3,v4,v5⟩:=x
 exact aN.wm v0 v1 v2 v3 v4 v5
theorem aH.wm(v0:Z aN):wt (aH.mk v0)=wl v0:=by
 show aX (aH.tr (.mk v0))=_
 rw [aH.bk_mk]
 simp only [aN.wl_bulk]
 try rfl
theorem aH.we(x:aH):wt x=wl x.aFr:=by
 obtain⟨v0⟩:=x
 exact aH.wm v0
theorem aB.wm(v0:Y)(v1:Z aB):wt (aB.mk v0 v1)=v0.size+wl v1:=by
 show aX (aB.tr (.mk v0 v1))=_
 rw [aB.bk_mk]
 simp only [aB.wl_bulk]
 try rfl
theorem aB.we(x:aB):wt x=x.aFy.size+wl x.aFv:=by
 obtain⟨v0,v1⟩:=x
 exact aB.wm v0 v1
abbrev dJ:=(vN:wl ([]:LB)=0∧_)
abbrev fI:=(vN:wl ([]:List cC)=0∧_)
abbrev BZ:=(vN:wl ([]:List aD)=0∧_)
abbrev zH:=(vN:wl ([]:List aO)=0∧_)
abbrev nJ:=(vN:wl ([]:List aM)=0∧_)
abbrev zI:=(vN:wl ([]:List aQ)=0∧_)
abbrev zJ:=(vN:wl ([]:List aL)=0∧_)
abbrev mI:=(vN:wl ([]:List aB)=0∧_)
abbrev uK:=(vN:wl ([]:List aZ)=0∧_)
abbrev b9:=(vN:wl ([]:List aA)=0∧_)
end Go.Proofs.YtfcoaagbccmahaaGreat
