/- Words, rules and walks of several kinds, laid together: MaP4, MaP5, MaP6. No conditions but those that each theorem states. -/
import Derived.Test.YtpioomclpaiomaaGreatQh270167b8
import Derived.Test.YtpioomclpaiomaaGreatQh7b7fa178
import Derived.Test.YtpioomclpaiomaaGreatQh73782e98
set_option linter.unusedSimpArgs false
set_option linter.unusedVariables false
namespace Go.Proofs.YtpioomclpaiomaaGreat.W
set_option maxRecDepth 100000
set_option maxHeartbeats 40000000
noncomputable section
open Tryz Go.RowKit Go.Proofs
attribute [local irreducible] lt
abbrev oA:=aG→Int→Option Int
def D6(m:oA):Prop:= ∀(pe:aG) (pleft:Int) (r:Int),m pe pleft=some r→b4 Tryz.prog 293 [(aG.pv pe),pI pleft] (pI r:PV)
def ad1(fu:Nat)(r_sl11Left:oA)(pe:aG)(pleft:Int):Nat→Int→Option (LR Int Int):=
 fun i1 v2=>sw (decide (v2≥0))
 (lt (aW pe.gArgs i1) (fun y6=>
 bd (r_sl11Left y6 v2) (fun x9=>
 some (.next x9))))
 (some (.brk v2))
def ad4(fu:Nat)(r_sl11Left:oA)(pe:aG)(pleft:Int):Option (Int⊕Int):=
 loopN (ad1 fu r_sl11Left pe pleft) (pe.gArgs.length-0) 0 (aQ (pleft-1))
def ad3(fu:Nat)(r_sl11Left:oA)(pe:aG)(pleft v2:Int):Nat→Int→Option (LR Int Int):=
 fun i10 v11=>sw (decide (v11≥0))
 (lt (aW pe.gArms i10) (fun y15=>
 bd (r_sl11Left y15.gBody v11) (fun x18=>
 some (.next x18))))
 (some (.brk v11))
def ad5(fu:Nat)(r_sl11Left:oA)(pe:aG)(pleft v2:Int):Option (Int⊕Int):=
 loopN (ad3 fu r_sl11Left pe pleft v2) (pe.gArms.length-0) 0 v2
def K6(fu:Nat)(r_sl11Left:oA)(pe:aG)(pleft:Int):Option Int:=
 so (ad4 fu r_sl11Left pe pleft) (fun v2=>
 so (ad5 fu r_sl11Left pe pleft v2) (fun v11=>
 some v11))
theorem XJ(fu:Nat)(r_sl11Left:oA)(h_sl11Left:D6 r_sl11Left):D6 (K6 fu r_sl11Left):=by
 intro pe pleft r H
 have H:=eE H
 refine qI func293 (fun C hC=>?_)
 refine qW (q1 (iM (eN pe)) (q1 aE (qN (qW (q1 aE (q1 EP (q1 aE (qN ?_))))))))
 refine qS (qS (qR (q1 aE (qN ?_))))
 refine aR.fact (b5 0 7 rfl rfl rfl (aG.trs_len _)) (fun hl3=>?_)
 refine b0 (σ:=Int) (fun i1 v2=>⟨[(1,pI v2),(2,.ptr 0 0),(4,pI 0),(5,pN i1)],⟨[some ⟨87,eN pe⟩],[]⟩⟩) (fun v2=>⟨[(1,pI v2),(2,.ptr 0 0),(4,pI 0)],⟨[some ⟨87,eN pe⟩],[]⟩⟩) (fK H) ?_ ?_
 ·rintro i1 v2 H
  refine qS (qS (qR (q1 aE (q1 (a5 fM) (q1 (bD oZ) (q1 (dL jZ (aG.trs_len _)) (q1 gI (q1 aE ?_))))))))
  refine AL.splitB 14 rfl (fun g4=>?_) (fun g4=>?_)
  ·have g4l:=qA g4
   have H:=lnT g4l H
   have g4n:=a4 g4
   refine qg g4 aE (qg g4 S8 (q1 (bV g4) (qN ?_)))
   refine a8 H (fun h5 H=>?_) (fun h5 H=>?_)
   ·refine aR.skip (qS (aR.block (qR (q1 (a5 fM) (q1 (bD oZ) (q1 aE (fP H fun y6 h7 H=>(q1 (m9 h7 g4n jZ) (q1 (kM (aG.cs y6) fE) (q1 aE (bI H fun x9 z8 H=>(q1 (bG func293 (h_sl11Left y6 v2 _ z8)) (q1 aE ?_)))))))))))))
    refine qN (qR (q1 aE (q1 (rA (i1+1)) (q1 aE (qN ?_)))))
    exact iI g4l ⟨_,(aX H:),bW⟩
   refine aR.exit ?_;exact lpB ⟨_,(aX H:),bW⟩
  have H:=lnE (p9 g4) H
  iterate 2 refine qk g4 ?_
  refine q1 (b9 g4) (qN (jR rfl (aR.exit ?_)))
  exact jJ ⟨_,H,bW⟩
 rintro v2 H
 refine qS (qS (qR (q1 aE (qN ?_))))
 refine aR.fact (b5 0 8 rfl rfl rfl (bA.trs_len _)) (fun hl12=>?_)
 refine b0 (σ:=Int) (fun i10 v11=>⟨[(1,pI v11),(2,.ptr 0 0),(4,pI 0),(6,pN i10)],⟨[some ⟨87,eN pe⟩],[]⟩⟩) (fun v11=>⟨[(1,pI v11),(4,pI 0)],⟨[some ⟨87,eN pe⟩],[]⟩⟩) (fK H) ?_ ?_
 ·rintro i10 v11 H
  refine qS (qS (qR (q1 aE (q1 (a5 eI) (q1 (bD mN) (q1 (dL jL (bA.trs_len _)) (q1 gI (q1 aE ?_))))))))
  refine AL.splitB 32 rfl (fun g13=>?_) (fun g13=>?_)
  ·have g13l:=qA g13
   have H:=lnT g13l H
   have g13n:=a4 g13
   refine qg g13 aE (qg g13 S8 (q1 (bV g13) (qN ?_)))
   refine a8 H (fun h14 H=>?_) (fun h14 H=>?_)
   ·refine aR.skip (qS (aR.block (qR (q1 (a5 eI) (q1 (bD mN) (q1 aE (fP H fun y15 h16 H=>(q1 (m9 h16 g13n jL) (q1 (lR A6) (q1 (kM (aG.cs y15.gBody) fE) (q1 aE (bI H fun x18 z17 H=>(q1 (bG func293 (h_sl11Left y15.gBody v11 _ z17)) ?_)))))))))))))
    refine q1 aE (qN (qR (q1 aE (q1 (rA (i10+1)) (q1 aE (qN ?_))))))
    exact iI g13l ⟨_,(aX H:),bW⟩
   refine aR.exit ?_;exact lpB ⟨_,(aX H:),bW⟩
  have H:=lnE (p9 g13) H
  iterate 2 refine qk g13 ?_
  refine q1 (b9 g13) (qN (jR rfl (aR.exit ?_)))
  exact jJ ⟨_,H,bW⟩
 rintro v11 H
 refine qS (qR ?_)
 iterate 2 refine q1 aE ?_
 refine qN (aR.ret ?_)
 cases aX H
 exact bE
def m7:Nat→aG→Int→Option Int
 |0,_,_=>none
 |fu+1,pe,pleft=>K6 fu (m7 fu) pe pleft
theorem Z8(fu:Nat):D6 (m7 fu):=by
 induction fu with
 |zero=>exact(fun pe pleft r H=>by simp only [m7] at H;cases H)
 |succ fu ih=>exact(fun pe pleft r H=>by simp only [m7] at H;exact XJ fu (m7 fu) ih pe pleft r H)
theorem ad7(fu:Nat):D6 (m7 fu):=(Z8 fu)
def alM(m:Int→Option (Bool×Bool×Bool×Bool×Int×Bool)):Prop:= ∀(pk:Int) (r:Bool×Bool×Bool×Bool×Int×Bool),m pk=some r→b4 Tryz.prog 296 [pI pk] (.tup [pB r.1,pB r.2.1,pB r.2.2.1,pB r.2.2.2.1,pI r.2.2.2.2.1,pB r.2.2.2.2.2]:PV)
def ag5(fu:Nat)(pk:Int):Option ((Bool×Bool×Bool×Bool×Int×Bool)⊕Bool):=
 sw (decide (pk=1))
 (some (.inr (decide (pk=1))))
 (some (.inr (decide (pk=2))))
def ag6(fu:Nat)(pk:Int)(v1:Bool):Option ((Bool×Bool×Bool×Bool×Int×Bool)⊕Bool):=
 sw (decide (pk=4))
 (some (.inr (decide (pk=4))))
 (some (.inr (decide (pk=6))))
def ag7(fu:Nat)(pk:Int)(v1 v5:Bool):Option ((Bool×Bool×Bool×Bool×Int×Bool)⊕Bool):=
 sw (decide (pk=8))
 (some (.inr (decide (pk=8))))
 (some (.inr (decide (pk=10))))
def P5(fu:Nat)(pk:Int):Option (Bool×Bool×Bool×Bool×Int×Bool):=
 so (ag5 fu pk) (fun v1=>
 sw (v1)
 (some (false,false,true,false,0,false))
 (sw (decide (pk=3))
 (some (false,true,false,false,0,false))
 (so (ag6 fu pk v1) (fun v5=>
 sw (v5)
 (some (false,true,false,false,(-1),false))
 (sw (decide (pk=5))
 (some (true,true,false,false,(-1),false))
 (sw (decide (pk=7))
 (some (false,false,false,false,1,true))
 (so (ag7 fu pk v1 v5) (fun v10=>
 sw (v10)
 (some (false,true,false,false,2,false))
 (sw (decide (pk=9))
 (some (false,false,false,false,3,false))
 (sw (decide (pk=11))
 (some (true,false,false,false,1,false))
 (some (false,false,false,true,1,false))))))))))))
theorem ag8(fu:Nat):alM (P5 fu):=by
 intro pk r H
 have H:=eE H
 refine qI func296 (fun C hC=>?_)
 refine qS (qR ?_)
 iterate 6 refine q1 aE ?_
 refine qN ?_
 refine qS (qS (qR (q1 aE (qN (aR.block (qS ?_))))))
 refine rR (σ:=Bool) (fun v1=>⟨[(2,pB false),(3,pB false),(4,pB false),(5,pB false),(6,pI 0),(7,pB false),(8,pI pk),(9,pB v1)],⟨[],[]⟩⟩) (fK H) (fun H=>?_) ?_
 ·refine qW (q1 dM (q1 aE (qN ?_)))
  refine a8 H (fun h2 H=>?_) (fun h2 H=>?_)
  ·refine aR.skip ?_;exact dY ⟨_,(aX H:),bW⟩
  refine qR (q1 dM (q1 aE (qN ?_)))
  exact dY ⟨_,(aX H:),bW⟩
 rintro v1 H
 refine a8 H (fun h3 H=>?_) (fun h3 H=>?_)
 ·refine qS (qR ?_)
  iterate 6 refine q1 aE ?_
  refine qN (aR.ret ?_)
  cases aX H
  exact qe (ps:= [_,_,_,_,_,_]) ⟨rfl,rfl⟩ ⟨rfl,rfl,rfl,rfl,rfl,rfl,trivial⟩
 refine qW (q1 dM (q1 aE (qN ?_)))
 refine a8 H (fun h4 H=>?_) (fun h4 H=>?_)
 ·refine qS (qR ?_)
  iterate 6 refine q1 aE ?_
  refine qN (aR.ret ?_)
  cases aX H
  exact qe (ps:= [_,_,_,_,_,_]) ⟨rfl,rfl⟩ ⟨rfl,rfl,rfl,rfl,rfl,rfl,trivial⟩
 refine qS ?_;refine rR (σ:=Bool) (fun v5=>⟨[(2,pB false),(3,pB false),(4,pB false),(5,pB false),(6,pI 0),(7,pB false),(8,pI pk),(14,pB v5)],⟨[],[]⟩⟩) (fK H) (fun H=>?_) ?_
 ·refine qW (q1 dM (q1 aE (qN ?_)))
  refine a8 H (fun h6 H=>?_) (fun h6 H=>?_)
  ·refine aR.skip ?_;exact dY ⟨_,(aX H:),bW⟩
  refine qR (q1 dM (q1 aE (qN ?_)))
  exact dY ⟨_,(aX H:),bW⟩
 rintro v5 H
 refine a8 H (fun h7 H=>?_) (fun h7 H=>?_)
 ·refine qS (qR ?_)
  iterate 6 refine q1 aE ?_
  refine qN (aR.ret ?_)
  cases aX H
  exact qe (ps:= [_,_,_,_,_,_]) ⟨rfl,rfl⟩ ⟨rfl,rfl,rfl,rfl,rfl,rfl,trivial⟩
 refine qW (q1 dM (q1 aE (qN ?_)))
 refine a8 H (fun h8 H=>?_) (fun h8 H=>?_)
 ·refine qS (qR ?_)
  iterate 6 refine q1 aE ?_
  refine qN (aR.ret ?_)
  cases aX H
  exact qe (ps:= [_,_,_,_,_,_]) ⟨rfl,rfl⟩ ⟨rfl,rfl,rfl,rfl,rfl,rfl,trivial⟩
 refine qW (q1 dM (q1 aE (qN ?_)))
 refine a8 H (fun h9 H=>?_) (fun h9 H=>?_)
 ·refine qS (qR ?_)
  iterate 6 refine q1 aE ?_
  refine qN (aR.ret ?_)
  cases aX H
  exact qe (ps:= [_,_,_,_,_,_]) ⟨rfl,rfl⟩ ⟨rfl,rfl,rfl,rfl,rfl,rfl,trivial⟩
 refine qS ?_;refine rR (σ:=Bool) (fun v10=>⟨[(2,pB false),(3,pB false),(4,pB false),(5,pB false),(6,pI 0),(7,pB false),(8,pI pk),(21,pB v10)],⟨[],[]⟩⟩) (fK H) (fun H=>?_) ?_
 ·refine qW (q1 dM (q1 aE (qN ?_)))
  refine a8 H (fun h11 H=>?_) (fun h11 H=>?_)
  ·refine aR.skip ?_;exact dY ⟨_,(aX H:),bW⟩
  refine qR (q1 dM (q1 aE (qN ?_)))
  exact dY ⟨_,(aX H:),bW⟩
 rintro v10 H
 refine a8 H (fun h12 H=>?_) (fun h12 H=>?_)
 ·refine qS (qR ?_)
  iterate 6 refine q1 aE ?_
  refine qN (aR.ret ?_)
  cases aX H
  exact qe (ps:= [_,_,_,_,_,_]) ⟨rfl,rfl⟩ ⟨rfl,rfl,rfl,rfl,rfl,rfl,trivial⟩
 refine qW (q1 dM (q1 aE (qN ?_)))
 refine a8 H (fun h13 H=>?_) (fun h13 H=>?_)
 ·refine qS (qR ?_)
  iterate 6 refine q1 aE ?_
  refine qN (aR.ret ?_)
  cases aX H
  exact qe (ps:= [_,_,_,_,_,_]) ⟨rfl,rfl⟩ ⟨rfl,rfl,rfl,rfl,rfl,rfl,trivial⟩
 refine qW (q1 dM (q1 aE (qN ?_)))
 refine a8 H (fun h14 H=>?_) (fun h14 H=>?_)
 ·refine qS (qR ?_)
  iterate 6 refine q1 aE ?_
  refine qN (aR.ret ?_)
  cases aX H
  exact qe (ps:= [_,_,_,_,_,_]) ⟨rfl,rfl⟩ ⟨rfl,rfl,rfl,rfl,rfl,rfl,trivial⟩
 refine aR.skip (qS (qR ?_))
 iterate 6 refine q1 aE ?_
 refine qN (aR.ret ?_)
 cases aX H
 exact qe (ps:= [_,_,_,_,_,_]) ⟨rfl,rfl⟩ ⟨rfl,rfl,rfl,rfl,rfl,rfl,trivial⟩
def ahA(m:ByteArray→Option Bool):Prop:= ∀(ps:ByteArray) (r:Bool),m ps=some r→b4 Tryz.prog 297 [pS ps] (pB r:PV)
def K7(fu:Nat)(ps:ByteArray):Option Bool:=
 bd (nQ fu ([AC,E4,NP,NQ,NR]:LB) ps) (fun x2=>
 some x2)
theorem ad8(fu:Nat):ahA (K7 fu):=by
 intro ps r H
 have H:=eE H
 refine qI func297 (fun C hC=>?_)
 refine qW (q1 aE (qN (qW (q1 (j9 ([AC,E4,NP,NQ,NR]:LB) b3 lU) (q1 aE (bI H fun x2 z1 H=>(q1 (bG func125 (nR fu ([AC,E4,NP,NQ,NR]:LB) ps _ z1)) (q1 aE (qZ ?_)))))))))
 cases aX H
 exact bE
def ahB(m:aB→Option Bool):Prop:= ∀(pt:aB) (r:Bool),m pt=some r→b4 Tryz.prog 277 [(aB.pv pt)] (pB r:PV)
def tD(fu:Nat)(pt:aB):Option Bool:=
 sw (decide (pt.gKind=0))
 (sw (decide (pt.gName=s_))
 (some (decide ((pt.gArgs.length:Int)=0)))
 (some false))
 (some false)
theorem wF(fu:Nat):ahB (tD fu):=by
 intro pt r H
 have H:=eE H
 refine qI func277 (fun C hC=>?_)
 refine qW (q1 (iM (eD pt)) (q1 aE (qN (qW (q1 (a5 pF) (q1 (bD nT) (q1 dM (q1 aE ?_))))))))
 refine eF 6 H (fun g1 H=>?_) fun g1 H=>?_
 ·refine qg g1 (a5 kU) (qg g1 (bD eJ) (qg g1 AM (q1 (bV g1) (q1 aE ?_))))
  refine eF 11 H (fun g2 H=>?_) fun g2 H=>?_
  ·refine qg g2 (a5 gM) (qg g2 (bD kY) (qg g2 (dL eU (aB.trs_len _)) (qg g2 dM (q1 (bV g2) (q1 aE (qZ ?_))))))
   cases aX H
   exact bE
  iterate 4 refine qk g2 ?_
  refine q1 (b9 g2) (q1 aE (qZ ?_))
  cases aX H
  exact bE
 iterate 3 refine qk g1 ?_
 refine q1 (b9 g1) (q1 aE ?_)
 iterate 4 refine qk rfl ?_
 refine q1 (b9 rfl) (q1 aE (qZ ?_))
 cases aX H
 exact bE
abbrev jX:=aG→Option Bool
def D4(m:jX):Prop:= ∀(pa0:aG) (r:Bool),m pa0=some r→b4 Tryz.prog 294 [(aG.pv pa0)] (pB r:PV)
def adK(fu:Nat)(r_sl11Form:jX)(pa0:aG)(x2 x3 x4 x5:Bool)(x6:Int)(x7:Bool):Option (Bool⊕Unit):=
 bd (rG fu pa0.gKind 1 12) (fun x9=>
 sw (!(x9))
 (some (.inl false))
 (bd (dU fu pa0.gTrait) (fun x12=>
 sw (!decide (x12=x2))
 (some (.inl false))
 (sw (!(x2))
 (sw (!decide (pa0.gTrait=s_))
 (some (.inl false))
 (sw (!(x4))
 (sw (!decide (pa0.gN=0))
 (some (.inl false))
 (sw (!decide ((decide ((pa0.gArms.length:Int)>0):Bool)=x7))
 (some (.inl false))
 (some (.inr ()))))
 (sw (!decide ((decide ((pa0.gArms.length:Int)>0):Bool)=x7))
 (some (.inl false))
 (some (.inr ())))))
 (sw (!(x4))
 (sw (!decide (pa0.gN=0))
 (some (.inl false))
 (sw (!decide ((decide ((pa0.gArms.length:Int)>0):Bool)=x7))
 (some (.inl false))
 (some (.inr ()))))
 (sw (!decide ((decide ((pa0.gArms.length:Int)>0):Bool)=x7))
 (some (.inl false))
 (some (.inr ()))))))))
def adL(fu:Nat)(r_sl11Form:jX)(pa0:aG)(x2 x3 x4 x5:Bool)(x6:Int)(x7:Bool):Option (Bool⊕Unit):=
 sw (decide (pa0.gKind=10))
 (bd (K7 fu pa0.gName) (fun x26=>
 sw (!(x26))
 (some (.inl false))
 (sw (!decide (pa0.gKind=10))
 (bd (dU fu pa0.gName) (fun x30=>
 sw (!decide (x30=x3))
 (some (.inl false))
 (sw (!(x3))
 (sw (!decide (pa0.gName=s_))
 (some (.inl false))
 (some (.inr ())))
 (some (.inr ())))))
 (some (.inr ())))))
 (sw (!decide (pa0.gKind=10))
 (bd (dU fu pa0.gName) (fun x36=>
 sw (!decide (x36=x3))
 (some (.inl false))
 (sw (!(x3))
 (sw (!decide (pa0.gName=s_))
 (some (.inl false))
 (some (.inr ())))
 (some (.inr ())))))
 (some (.inr ())))
def adM(fu:Nat)(r_sl11Form:jX)(pa0:aG)(x2 x3 x4 x5:Bool)(x6:Int)(x7:Bool):Option (Bool⊕Unit):=
 sw (decide (x6≥0))
 (sw (!decide ((pa0.gArgs.length:Int)=x6))
 (some (.inl false))
 (sw (decide (pa0.gKind=5))
 (sw (decide ((pa0.gArgs.length:Int)=0))
 (some (.inl false))
 (sw (x5)
 (bd (kJ fu pa0.gType) (fun x46=>
 sw (!(x46))
 (some (.inl false))
 (some (.inr ()))))
 (bd (tD fu pa0.gType) (fun x49=>
 sw (!(x49))
 (some (.inl false))
 (some (.inr ()))))))
 (sw (x5)
 (bd (kJ fu pa0.gType) (fun x53=>
 sw (!(x53))
 (some (.inl false))
 (some (.inr ()))))
 (bd (tD fu pa0.gType) (fun x56=>
 sw (!(x56))
 (some (.inl false))
 (some (.inr ())))))))
 (sw (decide (pa0.gKind=5))
 (sw (decide ((pa0.gArgs.length:Int)=0))
 (some (.inl false))
 (sw (x5)
 (bd (kJ fu pa0.gType) (fun x62=>
 sw (!(x62))
 (some (.inl false))
 (some (.inr ()))))
 (bd (tD fu pa0.gType) (fun x65=>
 sw (!(x65))
 (some (.inl false))
 (some (.inr ()))))))
 (sw (x5)
 (bd (kJ fu pa0.gType) (fun x69=>
 sw (!(x69))
 (some (.inl false))
 (some (.inr ()))))
 (bd (tD fu pa0.gType) (fun x72=>
 sw (!(x72))
 (some (.inl false))
 (some (.inr ()))))))
def adN(fu:Nat)(r_sl11Form:jX)(pa0:aG)(x2 x3 x4 x5:Bool)(x6:Int)(x7:Bool):Option (Bool⊕Unit):=
 sw (decide (pa0.gKind=1))
 (bd (rG fu pa0.gN (-999999) 999999) (fun x76=>
 sw (!(x76))
 (some (.inl false))
 (some (.inr ()))))
 (sw (decide (pa0.gKind=2))
 (bd (rG fu pa0.gN 0 1) (fun x80=>
 sw (!(x80))
 (some (.inl false))
 (some (.inr ()))))
 (some (.inr ())))
def adO(fu:Nat)(r_sl11Form:jX)(pa0:aG)(x2 x3 x4 x5:Bool)(x6:Int)(x7:Bool):Nat→Unit→Option (LR Unit Bool):=
 fun i82 _=>lt (aW pa0.gArgs i82) (fun y85=>
 bd (r_sl11Form y85) (fun x88=>
 sw (!(x88))
 (some (.ret false))
 (some (.next ()))))
def adQ(fu:Nat)(r_sl11Form:jX)(pa0:aG)(x2 x3 x4 x5:Bool)(x6:Int)(x7:Bool):Option (Bool⊕Unit):=
 loopN (adO fu r_sl11Form pa0 x2 x3 x4 x5 x6 x7) (pa0.gArgs.length-0) 0 ()
def adP(fu:Nat)(r_sl11Form:jX)(pa0:aG)(x2 x3 x4 x5:Bool)(x6:Int)(x7:Bool):Nat→Unit→Option (LR Unit Bool):=
 fun i90 _=>lt (aW pa0.gArms i90) (fun y93=>
 bd (dU fu y93.gConstructor) (fun x96=>
 sw (!(x96))
 (some (.ret false))
 (bd (EF fu y93.gVars) (fun x99=>
 sw (!(x99))
 (some (.ret false))
 (bd (kI fu y93.gVars) (fun x102=>
 sw (!(x102))
 (some (.ret false))
 (bd (r_sl11Form y93.gBody) (fun x105=>
 sw (!(x105))
 (some (.ret false))
 (some (.next ()))))))))))
def adR(fu:Nat)(r_sl11Form:jX)(pa0:aG)(x2 x3 x4 x5:Bool)(x6:Int)(x7:Bool):Option (Bool⊕Unit):=
 loopN (adP fu r_sl11Form pa0 x2 x3 x4 x5 x6 x7) (pa0.gArms.length-0) 0 ()
def K4(fu:Nat)(r_sl11Form:jX)(pa0:aG):Option Bool:=
 bd (P5 fu pa0.gKind) (fun(x2,x3,x4,x5,x6,x7)=>
 so (adK fu r_sl11Form pa0 x2 x3 x4 x5 x6 x7) (fun _=>
 so (adL fu r_sl11Form pa0 x2 x3 x4 x5 x6 x7) (fun _=>
 so (adM fu r_sl11Form pa0 x2 x3 x4 x5 x6 x7) (fun _=>
 so (adN fu r_sl11Form pa0 x2 x3 x4 x5 x6 x7) (fun _=>
 so (adQ fu r_sl11Form pa0 x2 x3 x4 x5 x6 x7) (fun _=>
 so (adR fu r_sl11Form pa0 x2 x3 x4 x5 x6 x7) (fun _=>
 some true)))))))
theorem XH(fu:Nat)(r_sl11Form:jX)(h_sl11Form:D4 r_sl11Form):D4 (K4 fu r_sl11Form):=by
 intro pa0 r H
 have H:=eE H
 refine qI func294 (fun C hC=>?_)
 refine qW (q1 (iM (eN pa0)) (q1 aE (qN (qW (q1 (a5 pW) (q1 (bD nT) ?_))))))
 obtain⟨⟨x2,x3,x4,x5,x6,x7⟩,z1,H⟩:=bdI H
 refine q1 (bG func296 (ag8 fu pa0.gKind _ z1)) (q1 aE ?_)
 iterate 6 refine q1 AK ?_
 iterate 6 refine q1 aE ?_
 refine qN (qS ?_)
 refine rR (σ:=Unit) (fun _=>⟨[(1,.ptr 0 0),(2,pB false),(4,pB x3),(6,pB x5),(7,pI x6)],⟨[some ⟨87,eN pa0⟩],[]⟩⟩) (fK H) (fun H=>?_) ?_
 ·refine qW (q1 (a5 pW) (q1 (bD nT) (bI H fun x9 z8 H=>(q1 (bG func108 (zV fu pa0.gKind 1 12 _ z8)) (q1 hQ (q1 aE ?_))))))
  refine eF 26 H (fun g10 H=>?_) fun g10 H=>?_
  ·refine qk g10 ?_
   iterate 4 refine qk g10 ?_
   refine q1 (bV g10) (q1 aE ?_)
   iterate 3 refine qk rfl ?_
   iterate 3 refine MY ?_
   refine qk rfl (q1 (bV rfl) (q1 aE ?_))
   iterate 3 refine qk rfl ?_
   iterate 3 refine MY ?_
   refine qk rfl (q1 (bV rfl) (q1 aE ?_))
   iterate 6 refine qk rfl ?_
   refine q1 (bV rfl) (qN (eL rfl (qW (q1 aE (qZ ?_)))))
   obtain rfl:_=r:=(AA (aX H):)
   exact bE
  refine qg g10 (a5 A5) (qg g10 (bD eJ) (bI H fun x12 z11 H=>(qg g10 (bG func235 (eC fu pa0.gTrait _ z11)) (qg g10 aE (qg g10 (a3.neqB rfl rfl rfl rfl Tryz.underlying4) (q1 (b9 g10) (q1 aE ?_)))))))
  refine eF 33 H (fun g13 H=>?_) fun g13 H=>?_
  ·refine qk g13 ?_
   iterate 2 refine qk g13 ?_
   iterate 3 refine MY ?_
   refine qk g13 (q1 (bV g13) (q1 aE ?_))
   iterate 3 refine qk rfl ?_
   iterate 3 refine MY ?_
   refine qk rfl (q1 (bV rfl) (q1 aE ?_))
   iterate 6 refine qk rfl ?_
   refine q1 (bV rfl) (qN (eL rfl (qW (q1 aE (qZ ?_)))))
   obtain rfl:_=r:=(AA (aX H):)
   exact bE
  refine qg g13 aE (qg g13 hQ (qg g13 aE ?_))
  refine eF 36 H (fun g14 H=>?_) fun g14 H=>?_
  ·refine qg g14 (a5 A5) (qg g14 (bD eJ) (qg g14 WA (qg g13 (bV g14) (q1 (b9 g13) (q1 aE ?_)))))
   refine eF 42 H (fun g15 H=>?_) fun g15 H=>?_
   ·refine qk g15 ?_
    iterate 2 refine qk g15 ?_
    iterate 3 refine MY ?_
    refine qk g15 (q1 (bV g15) (q1 aE ?_))
    iterate 6 refine qk rfl ?_
    refine q1 (bV rfl) (qN (eL rfl (qW (q1 aE (qZ ?_)))))
    obtain rfl:_=r:=(AA (aX H):)
    exact bE
   refine qg g15 aE (qg g15 hQ (qg g15 aE ?_))
   refine eF 45 H (fun g16 H=>?_) fun g16 H=>?_
   ·refine qg g16 (a5 FH) (qg g16 (bD nT) (qg g16 CI (qg g15 (bV g16) (q1 (b9 g15) (q1 aE ?_)))))
    refine eF 51 H (fun g17 H=>?_) fun g17 H=>?_
    ·refine qk g17 ?_
     iterate 5 refine qk g17 ?_
     refine q1 (bV g17) (qN (eL rfl (qW (q1 aE (qZ ?_)))))
     obtain rfl:_=r:=(AA (aX H):)
     exact bE
    refine qg g17 (a5 eI) (qg g17 (bD mN) (qg g17 (dL jL (bA.trs_len _)) (qg g17 KL (qg g17 aE (qg g17 (a3.neqB rfl rfl rfl rfl Tryz.underlying4) (q1 (b9 g17) (qN ?_)))))))
    refine a8 H (fun h18 H=>?_) (fun h18 H=>?_)
    ·refine qW (q1 aE (qZ ?_))
     obtain rfl:_=r:=(AA (aX H):)
     exact bE
    refine aR.skip ?_;exact dY ⟨_,(aX H:),bW⟩
   iterate 3 refine qk g16 ?_
   refine qg g15 (b9 g16) (q1 (b9 g15) (q1 aE (qg rfl (a5 eI) (qg rfl (bD mN) (qg rfl (dL jL (bA.trs_len _)) (qg rfl KL (qg rfl aE (qg rfl (a3.neqB rfl rfl rfl rfl Tryz.underlying4) (q1 (b9 rfl) (qN ?_))))))))))
   refine a8 H (fun h19 H=>?_) (fun h19 H=>?_)
   ·refine qW (q1 aE (qZ ?_))
    obtain rfl:_=r:=(AA (aX H):)
    exact bE
   refine aR.skip ?_;exact dY ⟨_,(aX H:),bW⟩
  iterate 3 refine qk g14 ?_
  refine qg g13 (b9 g14) (q1 (b9 g13) (q1 aE (qg rfl aE (qg rfl hQ (qg rfl aE ?_)))))
  refine eF 45 H (fun g20 H=>?_) fun g20 H=>?_
  ·refine qg g20 (a5 FH) (qg g20 (bD nT) (qg g20 CI (qg rfl (bV g20) (q1 (b9 rfl) (q1 aE ?_)))))
   refine eF 51 H (fun g21 H=>?_) fun g21 H=>?_
   ·refine qk g21 ?_
    iterate 5 refine qk g21 ?_
    refine q1 (bV g21) (qN (eL rfl (qW (q1 aE (qZ ?_)))))
    obtain rfl:_=r:=(AA (aX H):)
    exact bE
   refine qg g21 (a5 eI) (qg g21 (bD mN) (qg g21 (dL jL (bA.trs_len _)) (qg g21 KL (qg g21 aE (qg g21 (a3.neqB rfl rfl rfl rfl Tryz.underlying4) (q1 (b9 g21) (qN ?_)))))))
   refine a8 H (fun h22 H=>?_) (fun h22 H=>?_)
   ·refine qW (q1 aE (qZ ?_))
    obtain rfl:_=r:=(AA (aX H):)
    exact bE
   refine aR.skip ?_;exact dY ⟨_,(aX H:),bW⟩
  iterate 3 refine qk g20 ?_
  refine qg rfl (b9 g20) (q1 (b9 rfl) (q1 aE (qg rfl (a5 eI) (qg rfl (bD mN) (qg rfl (dL jL (bA.trs_len _)) (qg rfl KL (qg rfl aE (qg rfl (a3.neqB rfl rfl rfl rfl Tryz.underlying4) (q1 (b9 rfl) (qN ?_))))))))))
  refine a8 H (fun h23 H=>?_) (fun h23 H=>?_)
  ·refine qW (q1 aE (qZ ?_))
   obtain rfl:_=r:=(AA (aX H):)
   exact bE
  refine aR.skip ?_;exact dY ⟨_,(aX H:),bW⟩
 rintro⟨⟩ H
 refine qS ?_;refine rR (σ:=Unit) (fun _=>⟨[(1,.ptr 0 0),(2,pB false),(6,pB x5),(7,pI x6)],⟨[some ⟨87,eN pa0⟩],[]⟩⟩) (fK H) (fun H=>?_) ?_
 ·refine qW (q1 (a5 pW) (q1 (bD nT) (q1 dM (q1 aE ?_))))
  refine eF 62 H (fun g24 H=>?_) fun g24 H=>?_
  ·refine qg g24 (a5 lX) (qg g24 (bD eJ) (bI H fun x26 z25 H=>(qg g24 (bG func297 (ad8 fu pa0.gName _ z25)) (qg g24 hQ (q1 (bV g24) (q1 aE ?_))))))
   refine eF 68 H (fun g27 H=>?_) fun g27 H=>?_
   ·refine qk g27 ?_
    iterate 3 refine qk g27 ?_
    iterate 14 refine MY ?_
    refine qk g27 (q1 (bV g27) (qN (eL rfl (qW (q1 aE (qZ ?_))))))
    obtain rfl:_=r:=(AA (aX H):)
    exact bE
   refine qg g27 (a5 pW) (qg g27 (bD nT) (qg g27 CI (qg g27 aE ?_)))
   refine eF 72 H (fun g28 H=>?_) fun g28 H=>?_
   ·refine qg g28 (a5 lX) (qg g28 (bD eJ) (bI H fun x30 z29 H=>(qg g28 (bG func235 (eC fu pa0.gName _ z29)) (qg g28 aE (qg g28 (a3.neqB rfl rfl rfl rfl Tryz.underlying4) (qg g28 aE ?_))))))
    refine eF 78 H (fun g31 H=>?_) fun g31 H=>?_
    ·refine qk g31 ?_
     iterate 2 refine qk g31 ?_
     iterate 3 refine MY ?_
     refine qk g31 (qg g28 (bV g31) (qg g27 (bV g28) (q1 (b9 g27) (qN (eL rfl (qW (q1 aE (qZ ?_))))))))
     obtain rfl:_=r:=(AA (aX H):)
     exact bE
    refine qg g31 aE (qg g31 hQ (qg g31 aE ?_))
    refine eF 81 H (fun g32 H=>?_) fun g32 H=>?_
    ·refine qg g32 (a5 lX) (qg g32 (bD eJ) (qg g32 WA (qg g31 (bV g32) (qg g28 (b9 g31) (qg g27 (bV g28) (q1 (b9 g27) (qN ?_)))))))
     refine a8 H (fun h33 H=>?_) (fun h33 H=>?_)
     ·refine qW (q1 aE (qZ ?_))
      obtain rfl:_=r:=(AA (aX H):)
      exact bE
     refine aR.skip ?_;exact dY ⟨_,(aX H:),bW⟩
    iterate 3 refine qk g32 ?_
    refine qg g31 (b9 g32) (qg g28 (b9 g31) (qg g27 (bV g28) (q1 (b9 g27) (qN (jR rfl (aR.skip ?_))))))
    exact dY ⟨_,(aX H:),bW⟩
   iterate 6 refine qk g28 ?_
   iterate 7 refine MY ?_
   refine qk g28 (qg g27 (b9 g28) (q1 (b9 g27) (qN (jR rfl (aR.skip ?_)))))
   exact dY ⟨_,(aX H:),bW⟩
  iterate 4 refine qk g24 ?_
  refine q1 (b9 g24) (q1 aE (qg rfl (a5 pW) (qg rfl (bD nT) (qg rfl CI (qg rfl aE ?_)))))
  refine eF 72 H (fun g34 H=>?_) fun g34 H=>?_
  ·refine qg g34 (a5 lX) (qg g34 (bD eJ) (bI H fun x36 z35 H=>(qg g34 (bG func235 (eC fu pa0.gName _ z35)) (qg g34 aE (qg g34 (a3.neqB rfl rfl rfl rfl Tryz.underlying4) (qg g34 aE ?_))))))
   refine eF 78 H (fun g37 H=>?_) fun g37 H=>?_
   ·refine qk g37 ?_
    iterate 2 refine qk g37 ?_
    iterate 3 refine MY ?_
    refine qk g37 (qg g34 (bV g37) (qg rfl (bV g34) (q1 (b9 rfl) (qN (eL rfl (qW (q1 aE (qZ ?_))))))))
    obtain rfl:_=r:=(AA (aX H):)
    exact bE
   refine qg g37 aE (qg g37 hQ (qg g37 aE ?_))
   refine eF 81 H (fun g38 H=>?_) fun g38 H=>?_
   ·refine qg g38 (a5 lX) (qg g38 (bD eJ) (qg g38 WA (qg g37 (bV g38) (qg g34 (b9 g37) (qg rfl (bV g34) (q1 (b9 rfl) (qN ?_)))))))
    refine a8 H (fun h39 H=>?_) (fun h39 H=>?_)
    ·refine qW (q1 aE (qZ ?_))
     obtain rfl:_=r:=(AA (aX H):)
     exact bE
    refine aR.skip ?_;exact dY ⟨_,(aX H:),bW⟩
   iterate 3 refine qk g38 ?_
   refine qg g37 (b9 g38) (qg g34 (b9 g37) (qg rfl (bV g34) (q1 (b9 rfl) (qN (jR rfl (aR.skip ?_))))))
   exact dY ⟨_,(aX H:),bW⟩
  iterate 6 refine qk g34 ?_
  iterate 7 refine MY ?_
  refine qk g34 (qg rfl (b9 g34) (q1 (b9 rfl) (qN (jR rfl (aR.skip ?_)))))
  exact dY ⟨_,(aX H:),bW⟩
 rintro⟨⟩ H
 refine qS ?_;refine rR (σ:=Unit) (fun _=>⟨[(1,.ptr 0 0),(2,pB false)],⟨[some ⟨87,eN pa0⟩],[]⟩⟩) (fK H) (fun H=>?_) ?_
 ·refine qW (q1 aE (q1 S8 (q1 aE ?_)))
  refine eF 91 H (fun g40 H=>?_) fun g40 H=>?_
  ·refine qg g40 (a5 fM) (qg g40 (bD oZ) (qg g40 (dL jZ (aG.trs_len _)) (qg g40 aE (qg g40 CI (q1 (bV g40) (q1 aE ?_))))))
   refine eF 98 H (fun g41 H=>?_) fun g41 H=>?_
   ·refine qk g41 ?_
    iterate 3 refine qk g41 ?_
    iterate 4 refine MY ?_
    refine qk g41 (q1 (bV g41) (q1 aE ?_))
    iterate 2 refine qk rfl ?_
    iterate 4 refine MY ?_
    refine qk rfl (q1 (bV rfl) (q1 aE ?_))
    iterate 3 refine qk rfl ?_
    iterate 4 refine MY ?_
    refine qk rfl (q1 (bV rfl) (qN (eL rfl (qW (q1 aE (qZ ?_))))))
    obtain rfl:_=r:=(AA (aX H):)
    exact bE
   refine qg g41 (a5 pW) (qg g41 (bD nT) (qg g41 dM (qg g41 aE ?_)))
   refine eF 102 H (fun g42 H=>?_) fun g42 H=>?_
   ·refine qg g42 (a5 fM) (qg g42 (bD oZ) (qg g42 (dL jZ (aG.trs_len _)) (qg g42 dM (qg g41 (bV g42) (q1 (b9 g41) (q1 aE ?_))))))
    refine eF 109 H (fun g43 H=>?_) fun g43 H=>?_
    ·refine qk g43 (qk g43 ?_)
     iterate 4 refine MY ?_
     refine qk g43 (q1 (bV g43) (q1 aE ?_))
     iterate 3 refine qk rfl ?_
     iterate 4 refine MY ?_
     refine qk rfl (q1 (bV rfl) (qN (eL rfl (qW (q1 aE (qZ ?_))))))
     obtain rfl:_=r:=(AA (aX H):)
     exact bE
    iterate 2 refine qg g43 aE ?_
    refine eF 111 H (fun g44 H=>?_) fun g44 H=>?_
    ·refine qg g44 (a5 pX) (qg g44 (cJ [pI pa0.gType.gKind,pS pa0.gType.gName,a7 pa0.gType.gArgs] cU) (bI H fun x46 z45 H=>(qg g44 (bG func284 (mD fu pa0.gType _ z45)) (qg g44 hQ (qg g43 (bV g44) (q1 (b9 g43) (q1 aE ?_)))))))
     refine eF 118 H (fun g47 H=>?_) fun g47 H=>?_
     ·refine qk g47 ?_
      iterate 2 refine qk g47 ?_
      iterate 4 refine MY ?_
      refine qk g47 (q1 (bV g47) (qN (eL rfl (qW (q1 aE (qZ ?_))))))
      obtain rfl:_=r:=(AA (aX H):)
      exact bE
     refine qg g47 aE (qg g47 hQ (qg g47 aE ?_))
     iterate 4 refine qk (congrArg (fun b=> !b) g44) ?_
     refine qg g47 (b9 (congrArg (fun b=> !b) g44)) (q1 (b9 g47) (qN (jR rfl (aR.skip ?_))))
     exact dY ⟨_,(aX H:),bW⟩
    iterate 4 refine qk g44 ?_
    refine qg g43 (b9 g44) (q1 (b9 g43) (q1 aE (qg rfl aE (qg rfl hQ (qg rfl aE (qg (congrArg (fun b=> !b) g44) (a5 pX) (qg (congrArg (fun b=> !b) g44) (cJ [pI pa0.gType.gKind,pS pa0.gType.gName,a7 pa0.gType.gArgs] cU) (bI H fun x49 z48 H=>(qg (congrArg (fun b=> !b) g44) (bG func277 (wF fu pa0.gType _ z48)) (qg (congrArg (fun b=> !b) g44) hQ (qg rfl (bV (congrArg (fun b=> !b) g44)) (q1 (b9 rfl) (qN ?_)))))))))))))
    refine a8 H (fun h50 H=>?_) (fun h50 H=>?_)
    ·refine qW (q1 aE (qZ ?_))
     obtain rfl:_=r:=(AA (aX H):)
     exact bE
    refine aR.skip ?_;exact dY ⟨_,(aX H:),bW⟩
   iterate 4 refine qk g42 ?_
   refine qg g41 (b9 g42) (q1 (b9 g41) (q1 aE ?_))
   iterate 2 refine qg rfl aE ?_
   refine eF 111 H (fun g51 H=>?_) fun g51 H=>?_
   ·refine qg g51 (a5 pX) (qg g51 (cJ [pI pa0.gType.gKind,pS pa0.gType.gName,a7 pa0.gType.gArgs] cU) (bI H fun x53 z52 H=>(qg g51 (bG func284 (mD fu pa0.gType _ z52)) (qg g51 hQ (qg rfl (bV g51) (q1 (b9 rfl) (q1 aE ?_)))))))
    refine eF 118 H (fun g54 H=>?_) fun g54 H=>?_
    ·refine qk g54 ?_
     iterate 2 refine qk g54 ?_
     iterate 4 refine MY ?_
     refine qk g54 (q1 (bV g54) (qN (eL rfl (qW (q1 aE (qZ ?_))))))
     obtain rfl:_=r:=(AA (aX H):)
     exact bE
    refine qg g54 aE (qg g54 hQ (qg g54 aE ?_))
    iterate 4 refine qk (congrArg (fun b=> !b) g51) ?_
    refine qg g54 (b9 (congrArg (fun b=> !b) g51)) (q1 (b9 g54) (qN (jR rfl (aR.skip ?_))))
    exact dY ⟨_,(aX H:),bW⟩
   iterate 4 refine qk g51 ?_
   refine qg rfl (b9 g51) (q1 (b9 rfl) (q1 aE (qg rfl aE (qg rfl hQ (qg rfl aE (qg (congrArg (fun b=> !b) g51) (a5 pX) (qg (congrArg (fun b=> !b) g51) (cJ [pI pa0.gType.gKind,pS pa0.gType.gName,a7 pa0.gType.gArgs] cU) (bI H fun x56 z55 H=>(qg (congrArg (fun b=> !b) g51) (bG func277 (wF fu pa0.gType _ z55)) (qg (congrArg (fun b=> !b) g51) hQ (qg rfl (bV (congrArg (fun b=> !b) g51)) (q1 (b9 rfl) (qN ?_)))))))))))))
   refine a8 H (fun h57 H=>?_) (fun h57 H=>?_)
   ·refine qW (q1 aE (qZ ?_))
    obtain rfl:_=r:=(AA (aX H):)
    exact bE
   refine aR.skip ?_;exact dY ⟨_,(aX H:),bW⟩
  iterate 5 refine qk g40 ?_
  refine q1 (b9 g40) (q1 aE (qg rfl (a5 pW) (qg rfl (bD nT) (qg rfl dM (qg rfl aE ?_)))))
  refine eF 102 H (fun g58 H=>?_) fun g58 H=>?_
  ·refine qg g58 (a5 fM) (qg g58 (bD oZ) (qg g58 (dL jZ (aG.trs_len _)) (qg g58 dM (qg rfl (bV g58) (q1 (b9 rfl) (q1 aE ?_))))))
   refine eF 109 H (fun g59 H=>?_) fun g59 H=>?_
   ·refine qk g59 (qk g59 ?_)
    iterate 4 refine MY ?_
    refine qk g59 (q1 (bV g59) (q1 aE ?_))
    iterate 3 refine qk rfl ?_
    iterate 4 refine MY ?_
    refine qk rfl (q1 (bV rfl) (qN (eL rfl (qW (q1 aE (qZ ?_))))))
    obtain rfl:_=r:=(AA (aX H):)
    exact bE
   iterate 2 refine qg g59 aE ?_
   refine eF 111 H (fun g60 H=>?_) fun g60 H=>?_
   ·refine qg g60 (a5 pX) (qg g60 (cJ [pI pa0.gType.gKind,pS pa0.gType.gName,a7 pa0.gType.gArgs] cU) (bI H fun x62 z61 H=>(qg g60 (bG func284 (mD fu pa0.gType _ z61)) (qg g60 hQ (qg g59 (bV g60) (q1 (b9 g59) (q1 aE ?_)))))))
    refine eF 118 H (fun g63 H=>?_) fun g63 H=>?_
    ·refine qk g63 ?_
     iterate 2 refine qk g63 ?_
     iterate 4 refine MY ?_
     refine qk g63 (q1 (bV g63) (qN (eL rfl (qW (q1 aE (qZ ?_))))))
     obtain rfl:_=r:=(AA (aX H):)
     exact bE
    refine qg g63 aE (qg g63 hQ (qg g63 aE ?_))
    iterate 4 refine qk (congrArg (fun b=> !b) g60) ?_
    refine qg g63 (b9 (congrArg (fun b=> !b) g60)) (q1 (b9 g63) (qN (jR rfl (aR.skip ?_))))
    exact dY ⟨_,(aX H:),bW⟩
   iterate 4 refine qk g60 ?_
   refine qg g59 (b9 g60) (q1 (b9 g59) (q1 aE (qg rfl aE (qg rfl hQ (qg rfl aE (qg (congrArg (fun b=> !b) g60) (a5 pX) (qg (congrArg (fun b=> !b) g60) (cJ [pI pa0.gType.gKind,pS pa0.gType.gName,a7 pa0.gType.gArgs] cU) (bI H fun x65 z64 H=>(qg (congrArg (fun b=> !b) g60) (bG func277 (wF fu pa0.gType _ z64)) (qg (congrArg (fun b=> !b) g60) hQ (qg rfl (bV (congrArg (fun b=> !b) g60)) (q1 (b9 rfl) (qN ?_)))))))))))))
   refine a8 H (fun h66 H=>?_) (fun h66 H=>?_)
   ·refine qW (q1 aE (qZ ?_))
    obtain rfl:_=r:=(AA (aX H):)
    exact bE
   refine aR.skip ?_;exact dY ⟨_,(aX H:),bW⟩
  iterate 4 refine qk g58 ?_
  refine qg rfl (b9 g58) (q1 (b9 rfl) (q1 aE ?_))
  iterate 2 refine qg rfl aE ?_
  refine eF 111 H (fun g67 H=>?_) fun g67 H=>?_
  ·refine qg g67 (a5 pX) (qg g67 (cJ [pI pa0.gType.gKind,pS pa0.gType.gName,a7 pa0.gType.gArgs] cU) (bI H fun x69 z68 H=>(qg g67 (bG func284 (mD fu pa0.gType _ z68)) (qg g67 hQ (qg rfl (bV g67) (q1 (b9 rfl) (q1 aE ?_)))))))
   refine eF 118 H (fun g70 H=>?_) fun g70 H=>?_
   ·refine qk g70 ?_
    iterate 2 refine qk g70 ?_
    iterate 4 refine MY ?_
    refine qk g70 (q1 (bV g70) (qN (eL rfl (qW (q1 aE (qZ ?_))))))
    obtain rfl:_=r:=(AA (aX H):)
    exact bE
   refine qg g70 aE (qg g70 hQ (qg g70 aE ?_))
   iterate 4 refine qk (congrArg (fun b=> !b) g67) ?_
   refine qg g70 (b9 (congrArg (fun b=> !b) g67)) (q1 (b9 g70) (qN (jR rfl (aR.skip ?_))))
   exact dY ⟨_,(aX H:),bW⟩
  iterate 4 refine qk g67 ?_
  refine qg rfl (b9 g67) (q1 (b9 rfl) (q1 aE (qg rfl aE (qg rfl hQ (qg rfl aE (qg (congrArg (fun b=> !b) g67) (a5 pX) (qg (congrArg (fun b=> !b) g67) (cJ [pI pa0.gType.gKind,pS pa0.gType.gName,a7 pa0.gType.gArgs] cU) (bI H fun x72 z71 H=>(qg (congrArg (fun b=> !b) g67) (bG func277 (wF fu pa0.gType _ z71)) (qg (congrArg (fun b=> !b) g67) hQ (qg rfl (bV (congrArg (fun b=> !b) g67)) (q1 (b9 rfl) (qN ?_)))))))))))))
  refine a8 H (fun h73 H=>?_) (fun h73 H=>?_)
  ·refine qW (q1 aE (qZ ?_))
   obtain rfl:_=r:=(AA (aX H):)
   exact bE
  refine aR.skip ?_;exact dY ⟨_,(aX H:),bW⟩
 rintro⟨⟩ H
 refine qS ?_;refine rR (σ:=Unit) (fun _=>⟨[(1,.ptr 0 0),(2,pB false)],⟨[some ⟨87,eN pa0⟩],[]⟩⟩) (fK H) (fun H=>?_) ?_
 ·refine qW (q1 (a5 pW) (q1 (bD nT) (q1 dM (q1 aE ?_))))
  refine eF 131 H (fun g74 H=>?_) fun g74 H=>?_
  ·refine qg g74 (a5 FH) (qg g74 (bD nT) (bI H fun x76 z75 H=>(qg g74 (bG func108 (zV fu pa0.gN (-999999) 999999 _ z75)) (qg g74 hQ (q1 (bV g74) (q1 aE ?_))))))
   refine eF 137 H (fun g77 H=>?_) fun g77 H=>?_
   ·refine qk g77 ?_
    iterate 3 refine qk g77 ?_
    iterate 4 refine MY ?_
    refine qk g77 (q1 (bV g77) (qN (eL rfl (qW (q1 aE (qZ ?_))))))
    obtain rfl:_=r:=(AA (aX H):)
    exact bE
   refine qg g77 (a5 pW) (qg g77 (bD nT) (qg g77 dM (qg g77 aE ?_)))
   iterate 4 refine qk (dne (b:=2) g74 (by decide)) ?_
   refine qg g77 (b9 (dne (b:=2) g74 (by decide))) (q1 (b9 g77) (qN (jR rfl (aR.skip ?_))))
   exact dY ⟨_,(aX H:),bW⟩
  iterate 4 refine qk g74 ?_
  refine q1 (b9 g74) (q1 aE (qg rfl (a5 pW) (qg rfl (bD nT) (qg rfl dM (qg rfl aE ?_)))))
  refine eF 141 H (fun g78 H=>?_) fun g78 H=>?_
  ·refine qg g78 (a5 FH) (qg g78 (bD nT) (bI H fun x80 z79 H=>(qg g78 (bG func108 (zV fu pa0.gN 0 1 _ z79)) (qg g78 hQ (qg rfl (bV g78) (q1 (b9 rfl) (qN ?_)))))))
   refine a8 H (fun h81 H=>?_) (fun h81 H=>?_)
   ·refine qW (q1 aE (qZ ?_))
    obtain rfl:_=r:=(AA (aX H):)
    exact bE
   refine aR.skip ?_;exact dY ⟨_,(aX H:),bW⟩
  iterate 4 refine qk g78 ?_
  refine qg rfl (b9 g78) (q1 (b9 rfl) (qN (jR rfl (aR.skip ?_))))
  exact dY ⟨_,(aX H:),bW⟩
 rintro⟨⟩ H
 refine qS (qS (qR (q1 aE (qN ?_))))
 refine aR.fact (b5 0 7 rfl rfl rfl (aG.trs_len _)) (fun hl83=>?_)
 refine b0 (σ:=Unit) (fun i82 _=>⟨[(1,.ptr 0 0),(2,pB false),(9,pN i82)],⟨[some ⟨87,eN pa0⟩],[]⟩⟩) (fun _=>⟨[(1,.ptr 0 0),(2,pB false)],⟨[some ⟨87,eN pa0⟩],[]⟩⟩) (fK H) ?_ ?_
 ·rintro i82 ⟨⟩ H
  refine qS (qS (qR (q1 aE (q1 (a5 fM) (q1 (bD oZ) (q1 (dL jZ (aG.trs_len _)) (q1 gI (qN ?_))))))))
  refine dG H (fun h84 h84l H=>?_) (fun h84 H=>?_)
  ·have h84n:=a4 h84
   refine aR.skip (qS (aR.block (qW (q1 (a5 fM) (q1 (bD oZ) (q1 aE (fP H fun y85 h86 H=>(q1 (m9 h86 h84n jZ) (q1 (kM (aG.cs y85) fE) (bI H fun x88 z87 H=>(q1 (bG func294 (h_sl11Form y85 _ z87)) (q1 hQ ?_))))))))))))
   refine qN ?_;refine a8 H (fun h89 H=>?_) (fun h89 H=>?_)
   ·refine qW (q1 aE (qZ ?_))
    obtain rfl:_=r:=(mT (aX H):)
    exact bE
   refine aR.skip (qR (q1 aE (q1 (rA (i82+1)) (q1 aE (qN ?_)))))
   exact iI h84l ⟨_,(aX H:),bW⟩
  refine aR.exit ?_;exact jJ ⟨_,H,bW⟩
 rintro⟨⟩ H
 refine qS (qS (qR (q1 aE (qN ?_))))
 refine aR.fact (b5 0 8 rfl rfl rfl (bA.trs_len _)) (fun hl91=>?_)
 refine b0 (σ:=Unit) (fun i90 _=>⟨[(1,.ptr 0 0),(2,pB false),(10,pN i90)],⟨[some ⟨87,eN pa0⟩],[]⟩⟩) (fun _=>⟨[(2,pB false)],⟨[some ⟨87,eN pa0⟩],[]⟩⟩) (fK H) ?_ ?_
 ·rintro i90 ⟨⟩ H
  refine qS (qS (qR (q1 aE (q1 (a5 eI) (q1 (bD mN) (q1 (dL jL (bA.trs_len _)) (q1 gI (qN ?_))))))))
  refine dG H (fun h92 h92l H=>?_) (fun h92 H=>?_)
  ·have h92n:=a4 h92
   refine aR.skip (qS (aR.block (qW (q1 (a5 eI) (q1 (bD mN) (q1 aE (fP H fun y93 h94 H=>(q1 (m9 h94 h92n jL) (q1 (kM (bA.cs y93) alL) (q1 (fO QQ) (q1 (bR aoO) (qN ?_))))))))))))
   refine qW (q1 (a5 tW) (q1 (bD eJ) (bI H fun x96 z95 H=>(q1 (bG func235 (eC fu y93.gConstructor _ z95)) (q1 hQ (q1 aE ?_))))))
   refine eF 178 H (fun g97 H=>?_) fun g97 H=>?_
   ·refine qk g97 ?_
    iterate 3 refine qk g97 ?_
    refine q1 (bV g97) (q1 aE ?_)
    iterate 4 refine qk rfl ?_
    refine q1 (bV rfl) (q1 aE ?_)
    iterate 4 refine qk rfl ?_
    refine q1 (bV rfl) (qN (eL rfl (qW (q1 aE (qZ ?_)))))
    obtain rfl:_=r:=(mT (aX H):)
    exact bE
   refine qg g97 (a5 yY) (qg g97 (bD kZ) (bI H fun x99 z98 H=>(qg g97 (bG func255 (RI fu y93.gVars _ z98)) (qg g97 hQ (q1 (b9 g97) (q1 aE ?_))))))
   refine eF 184 H (fun g100 H=>?_) fun g100 H=>?_
   ·refine qk g100 ?_
    iterate 3 refine qk g100 ?_
    refine q1 (bV g100) (q1 aE ?_)
    iterate 4 refine qk rfl ?_
    refine q1 (bV rfl) (qN (eL rfl (qW (q1 aE (qZ ?_)))))
    obtain rfl:_=r:=(mT (aX H):)
    exact bE
   refine qg g100 (a5 yY) (qg g100 (bD kZ) (bI H fun x102 z101 H=>(qg g100 (bG func237 (mC fu y93.gVars _ z101)) (qg g100 hQ (q1 (b9 g100) (q1 aE ?_))))))
   refine eF 190 H (fun g103 H=>?_) fun g103 H=>?_
   ·refine qk g103 ?_
    iterate 3 refine qk g103 ?_
    refine q1 (bV g103) (qN (eL rfl (qW (q1 aE (qZ ?_)))))
    obtain rfl:_=r:=(mT (aX H):)
    exact bE
   refine qg g103 (a5 A6) (qg g103 (cJ [pI y93.gBody.gKind,pS y93.gBody.gTrait,pS y93.gBody.gName,pI y93.gBody.gN,pI y93.gBody.gType.gKind,pS y93.gBody.gType.gName,a7 y93.gBody.gType.gArgs,eB y93.gBody.gArgs,g0 y93.gBody.gArms] fE) (bI H fun x105 z104 H=>(qg g103 (bG func294 (h_sl11Form y93.gBody _ z104)) (qg g103 hQ (q1 (b9 g103) (qN ?_))))))
   refine a8 H (fun h106 H=>?_) (fun h106 H=>?_)
   ·refine qW (q1 aE (qZ ?_))
    obtain rfl:_=r:=(mT (aX H):)
    exact bE
   refine aR.skip (qR (q1 aE (q1 (rA (i90+1)) (q1 aE (qN ?_)))))
   exact iI h92l ⟨_,(aX H:),bW⟩
  refine aR.exit ?_;exact jJ ⟨_,H,bW⟩
 rintro⟨⟩ H
 refine qW (q1 aE (qZ ?_))
 cases aX H
 exact bE
def m4:Nat→aG→Option Bool
 |0,_=>none
 |fu+1,pa0=>K4 fu (m4 fu) pa0
theorem Z6(fu:Nat):D4 (m4 fu):=by
 induction fu with
 |zero=>exact(fun pa0 r H=>by simp only [m4] at H;cases H)
 |succ fu ih=>exact(fun pa0 r H=>by simp only [m4] at H;exact XH fu (m4 fu) ih pa0 r H)
theorem adT(fu:Nat):D4 (m4 fu):=(Z6 fu)
def U6(m:aG→Option Bool):Prop:= ∀(pe:aG) (r:Bool),m pe=some r→b4 Tryz.prog 287 [(aG.pv pe)] (pB r:PV)
def zO(fu:Nat)(pe:aG):Option Bool:=
 bd (m7 fu pe 300) (fun x2=>
 sw (decide (x2≥0))
 (bd (m4 fu pe) (fun x5=>
 some x5))
 (some false))
theorem SG(fu:Nat):U6 (zO fu):=by
 intro pe r H
 have H:=eE H
 refine qI func287 (fun C hC=>?_)
 refine qW (q1 (iM (eN pe)) (q1 aE (qN (qW (q1 (cJ [pI pe.gKind,pS pe.gTrait,pS pe.gName,pI pe.gN,pI pe.gType.gKind,pS pe.gType.gName,a7 pe.gType.gArgs,eB pe.gArgs,g0 pe.gArms] fE) (bI H fun x2 z1 H=>(q1 (bG func293 (ad7 fu pe 300 _ z1)) (q1 S8 (q1 aE ?_)))))))))
 refine eF 6 H (fun g3 H=>?_) fun g3 H=>?_
 ·refine qg g3 (cJ [pI pe.gKind,pS pe.gTrait,pS pe.gName,pI pe.gN,pI pe.gType.gKind,pS pe.gType.gName,a7 pe.gType.gArgs,eB pe.gArgs,g0 pe.gArms] fE) (bI H fun x5 z4 H=>(qg g3 (bG func294 (adT fu pe _ z4)) (q1 (bV g3) (q1 aE (qZ ?_)))))
  cases aX H
  exact bE
 iterate 2 refine qk g3 ?_
 refine q1 (b9 g3) (q1 aE (qZ ?_))
 cases aX H
 exact bE
def ad9(m:(LB)→(LB)→Option Bool):Prop:= ∀(pa:LB) (pb:LB) (r:Bool),m pa pb=some r→b4 Tryz.prog 295 [rS pa,rS pb] (pB r:PV)
def Z9(fu:Nat)(pa pb:LB):Nat→Unit→Option (LR Unit Bool):=
 fun i2 _=>gd (i2<(pb).length)
 (sw (!decide (aW pa i2=aW pb i2))
 (some (.ret false))
 (some (.next ())))
def aaA(fu:Nat)(pa pb:LB):Option (Bool⊕Unit):=
 loopN (Z9 fu pa pb) (pa.length-0) 0 ()
def F2(fu:Nat)(pa pb:LB):Option Bool:=
 sw (!decide ((pa.length:Int)=(pb.length:Int)))
 (some false)
 (so (aaA fu pa pb) (fun _=>
 some true))
theorem NB(fu:Nat):ad9 (F2 fu):=by
 intro pa pb r H
 have H:=eE H
 refine qI func295 (fun C hC=>?_)
 refine qW (q1 aE (qN ?_))
 refine qS (qS (qR (q1 aE (q1 (dL b3 (bC _)) (q1 aE (q1 (dL b3 (bC _)) (q1 CI (qN ?_))))))))
 refine a8 H (fun h1 H=>?_) (fun h1 H=>?_)
 ·refine qW (q1 aE (qZ ?_))
  cases aX H
  exact bE
 refine aR.skip ?_
 refine qS (qS (qR (q1 aE (qN ?_))))
 refine lD 0 (bC _) (fun hl3=>?_)
 refine b0 (σ:=Unit) (fun i2 _=>⟨[(0,rS pa),(1,rS pb),(4,pB false),(5,pN i2)],⟨[],[]⟩⟩) (fun _=>⟨[(4,pB false)],⟨[],[]⟩⟩) (fK H) ?_ ?_
 ·rintro i2 ⟨⟩ H
  refine qS (qS (qR ?_))
  iterate 2 refine q1 aE ?_
  refine q1 (dL b3 (bC _)) (q1 gI (qN ?_))
  refine dG H (fun h4 h4l H=>?_) (fun h4 H=>?_)
  ·have h4n:=a4 h4
   refine aR.skip (qS (aR.block (qS (dK H fun z5 H=>(dW (dI [0] aE (dI [5] aE (dI [17,18] (kP h4n b3) (dI [19] (kQ eJ) (dI [1] aE (dI [5] aE (dI [21,22] (kP z5 b3) (dI [23] (kQ eJ) ?_)))))))))))))
   refine dI [20,24] WA (dN ?_)
   refine a8 H (fun h6 H=>?_) (fun h6 H=>?_)
   ·refine qW (q1 aE (qZ ?_))
    obtain rfl:_=r:=(mT (aX H):)
    exact bE
   refine aR.skip (qR (q1 aE (q1 (rA (i2+1)) (q1 aE (qN ?_)))))
   exact iI h4l ⟨_,(aX H:),bW⟩
  refine aR.exit ?_;exact jJ ⟨_,H,bW⟩
 rintro⟨⟩ H
 refine qW (q1 aE (qZ ?_))
 cases aX H
 exact bE
abbrev lK:=aG→aG→Option Bool
def xZ(m:lK):Prop:= ∀(pa0:aG) (pa1:aG) (r:Bool),m pa0 pa1=some r→b4 Tryz.prog 288 [(aG.pv pa0),(aG.pv pa1)] (pB r:PV)
def WV(fu:Nat)(r_sEqualExpr:lK)(pa0 pa1:aG)(x6:Bool):Nat→Unit→Option (LR Unit Bool):=
 fun i10 _=>lt (aW pa0.gArgs i10) (fun y13=>
 gd (i10<(pa1.gArgs).length)
 (lt (aW pa1.gArgs i10) (fun y16=>
 bd (r_sEqualExpr y13 y16) (fun x19=>
 sw (!(x19))
 (some (.ret false))
 (some (.next ()))))))
def WX(fu:Nat)(r_sEqualExpr:lK)(pa0 pa1:aG)(x6:Bool):Option (Bool⊕Unit):=
 loopN (WV fu r_sEqualExpr pa0 pa1 x6) (pa0.gArgs.length-0) 0 ()
def WW(fu:Nat)(r_sEqualExpr:lK)(pa0 pa1:aG)(x6:Bool):Nat→Unit→Option (LR Unit Bool):=
 fun i21 _=>lt (aW pa0.gArms i21) (fun y24=>
 gd (i21<(pa1.gArms).length)
 (lt (aW pa1.gArms i21) (fun y27=>
 sw (!decide (y24.gConstructor=y27.gConstructor))
 (some (.ret false))
 (bd (F2 fu y24.gVars y27.gVars) (fun x31=>
 sw (!(x31))
 (some (.ret false))
 (bd (r_sEqualExpr y24.gBody y27.gBody) (fun x34=>
 sw (!(x34))
 (some (.ret false))
 (some (.next ())))))))))
def WY(fu:Nat)(r_sEqualExpr:lK)(pa0 pa1:aG)(x6:Bool):Option (Bool⊕Unit):=
 loopN (WW fu r_sEqualExpr pa0 pa1 x6) (pa0.gArms.length-0) 0 ()
def DU(fu:Nat)(r_sEqualExpr:lK)(pa0 pa1:aG):Option Bool:=
 sw (!decide (pa0.gKind=pa1.gKind))
 (some false)
 (sw (!decide (pa0.gTrait=pa1.gTrait))
 (some false)
 (sw (!decide (pa0.gName=pa1.gName))
 (some false)
 (sw (!decide (pa0.gN=pa1.gN))
 (some false)
 (bd (iN fu pa0.gType pa1.gType) (fun x6=>
 sw (!(x6))
 (some false)
 (sw (!decide ((pa0.gArgs.length:Int)=(pa1.gArgs.length:Int)))
 (some false)
 (sw (!decide ((pa0.gArms.length:Int)=(pa1.gArms.length:Int)))
 (some false)
 (so (WX fu r_sEqualExpr pa0 pa1 x6) (fun _=>
 so (WY fu r_sEqualExpr pa0 pa1 x6) (fun _=>
 some true))))))))))
theorem R9(fu:Nat)(r_sEqualExpr:lK)(h_sEqualExpr:xZ r_sEqualExpr):xZ (DU fu r_sEqualExpr):=by
 intro pa0 pa1 r H
 have H:=eE H
 refine qI func288 (fun C hC=>?_)
 refine qW (q1 (iM (eN pa0)) (q1 (iM (eN pa1)) (q1 aE (qN ?_))))
 refine qS (qS (qR (q1 (a5 pW) (q1 (bD nT) (q1 (a5 pW) (q1 (bD nT) (q1 CI (q1 aE ?_))))))))
 refine eF 12 H (fun g1 H=>?_) fun g1 H=>?_
 ·refine qk g1 ?_
  iterate 4 refine qk g1 ?_
  refine q1 (bV g1) (q1 aE ?_)
  iterate 5 refine qk rfl ?_
  refine q1 (bV rfl) (q1 aE ?_)
  iterate 5 refine qk rfl ?_
  refine q1 (bV rfl) (q1 aE ?_)
  iterate 6 refine qk rfl ?_
  refine q1 (bV rfl) (q1 aE ?_)
  iterate 7 refine qk rfl ?_
  refine q1 (bV rfl) (q1 aE ?_)
  iterate 7 refine qk rfl ?_
  refine q1 (bV rfl) (qN (eL rfl (qW (q1 aE (qZ ?_)))))
  cases aX H
  exact bE
 refine qg g1 (a5 A5) (qg g1 (bD eJ) (qg g1 (a5 A5) (qg g1 (bD eJ) (qg g1 WA (q1 (b9 g1) (q1 aE ?_))))))
 refine eF 19 H (fun g2 H=>?_) fun g2 H=>?_
 ·refine qk g2 ?_
  iterate 4 refine qk g2 ?_
  refine q1 (bV g2) (q1 aE ?_)
  iterate 5 refine qk rfl ?_
  refine q1 (bV rfl) (q1 aE ?_)
  iterate 6 refine qk rfl ?_
  refine q1 (bV rfl) (q1 aE ?_)
  iterate 7 refine qk rfl ?_
  refine q1 (bV rfl) (q1 aE ?_)
  iterate 7 refine qk rfl ?_
  refine q1 (bV rfl) (qN (eL rfl (qW (q1 aE (qZ ?_)))))
  cases aX H
  exact bE
 refine qg g2 (a5 lX) (qg g2 (bD eJ) (qg g2 (a5 lX) (qg g2 (bD eJ) (qg g2 WA (q1 (b9 g2) (q1 aE ?_))))))
 refine eF 26 H (fun g3 H=>?_) fun g3 H=>?_
 ·refine qk g3 ?_
  iterate 4 refine qk g3 ?_
  refine q1 (bV g3) (q1 aE ?_)
  iterate 6 refine qk rfl ?_
  refine q1 (bV rfl) (q1 aE ?_)
  iterate 7 refine qk rfl ?_
  refine q1 (bV rfl) (q1 aE ?_)
  iterate 7 refine qk rfl ?_
  refine q1 (bV rfl) (qN (eL rfl (qW (q1 aE (qZ ?_)))))
  cases aX H
  exact bE
 refine qg g3 (a5 FH) (qg g3 (bD nT) (qg g3 (a5 FH) (qg g3 (bD nT) (qg g3 CI (q1 (b9 g3) (q1 aE ?_))))))
 refine eF 33 H (fun g4 H=>?_) fun g4 H=>?_
 ·refine qk g4 ?_
  iterate 5 refine qk g4 ?_
  refine q1 (bV g4) (q1 aE ?_)
  iterate 7 refine qk rfl ?_
  refine q1 (bV rfl) (q1 aE ?_)
  iterate 7 refine qk rfl ?_
  refine q1 (bV rfl) (qN (eL rfl (qW (q1 aE (qZ ?_)))))
  cases aX H
  exact bE
 refine qg g4 (a5 pX) (qg g4 (cJ [pI pa0.gType.gKind,pS pa0.gType.gName,a7 pa0.gType.gArgs] cU) (qg g4 (a5 pX) (qg g4 (cJ [pI pa1.gType.gKind,pS pa1.gType.gName,a7 pa1.gType.gArgs] cU) (bI H fun x6 z5 H=>(qg g4 (bG func16 (W3 fu pa0.gType pa1.gType _ z5)) (qg g4 hQ (q1 (b9 g4) (q1 aE ?_))))))))
 refine eF 41 H (fun g7 H=>?_) fun g7 H=>?_
 ·refine qk g7 ?_
  iterate 6 refine qk g7 ?_
  refine q1 (bV g7) (q1 aE ?_)
  iterate 7 refine qk rfl ?_
  refine q1 (bV rfl) (qN (eL rfl (qW (q1 aE (qZ ?_)))))
  cases aX H
  exact bE
 refine qg g7 (a5 fM) (qg g7 (bD oZ) (qg g7 (dL jZ (aG.trs_len _)) (qg g7 (a5 fM) (qg g7 (bD oZ) (qg g7 (dL jZ (aG.trs_len _)) (qg g7 CI (q1 (b9 g7) (q1 aE ?_))))))))
 refine eF 50 H (fun g8 H=>?_) fun g8 H=>?_
 ·refine qk g8 ?_
  iterate 6 refine qk g8 ?_
  refine q1 (bV g8) (qN (eL rfl (qW (q1 aE (qZ ?_)))))
  cases aX H
  exact bE
 refine qg g8 (a5 eI) (qg g8 (bD mN) (qg g8 (dL jL (bA.trs_len _)) (qg g8 (a5 eI) (qg g8 (bD mN) (qg g8 (dL jL (bA.trs_len _)) (qg g8 CI (q1 (b9 g8) (qN ?_))))))))
 refine a8 H (fun h9 H=>?_) (fun h9 H=>?_)
 ·refine qW (q1 aE (qZ ?_))
  cases aX H
  exact bE
 refine aR.skip ?_
 refine qS (qS (qR (q1 aE (qN ?_))))
 refine lD 43 (aG.trs_len _) (fun hl11=>?_)
 refine b0 (σ:=Unit) (fun i10 _=>⟨[(2,.ptr 0 0),(3,.ptr 1 0),(4,pB false),(5,pN i10)],⟨[some ⟨87,eN pa0⟩,some ⟨87,eN pa1⟩],[]⟩⟩) (fun _=>⟨[(2,.ptr 0 0),(3,.ptr 1 0),(4,pB false)],⟨[some ⟨87,eN pa0⟩,some ⟨87,eN pa1⟩],[]⟩⟩) (fK H) ?_ ?_
 ·rintro i10 ⟨⟩ H
  refine qS (qS (qR (q1 aE (q1 (a5 fM) (q1 (bD oZ) (q1 (dL jZ (aG.trs_len _)) (q1 gI (qN ?_))))))))
  refine dG H (fun h12 h12l H=>?_) (fun h12 H=>?_)
  ·have h12n:=a4 h12
   refine aR.skip (qS (aR.block (qS (fP H fun y13 h14 H=>(dK H fun z15 H=>(fP H fun y16 h17 H=>(bI H fun x19 z18 H=>(dW (dI [2] (a5 fM) (dD [66] (bD oZ) (dI [5] aE (dI [67,68] (m9 h14 h12n jZ) (dI [69] (kM (aG.cs y13) fE) ?_)))))))))))))
   refine dI [3] (a5 fM) (dD [71] (bD oZ) (dI [5] aE (dI [72,73] (m9 h17 z15 jZ) (dI [74] (kM (aG.cs y16) fE) (dI [70,75] (bG func288 (h_sEqualExpr y13 y16 _ z18)) (dI [76] hQ (dN ?_)))))))
   refine a8 H (fun h20 H=>?_) (fun h20 H=>?_)
   ·refine qW (q1 aE (qZ ?_))
    obtain rfl:_=r:=(mT (aX H):)
    exact bE
   refine aR.skip (qR (q1 aE (q1 (rA (i10+1)) (q1 aE (qN ?_)))))
   exact iI h12l ⟨_,(aX H:),bW⟩
  refine aR.exit ?_;exact jJ ⟨_,H,bW⟩
 rintro⟨⟩ H
 refine qS (qS (qR (q1 aE (qN ?_))))
 refine aR.fact (b5 0 8 rfl rfl rfl (bA.trs_len _)) (fun hl22=>?_)
 refine b0 (σ:=Unit) (fun i21 _=>⟨[(2,.ptr 0 0),(3,.ptr 1 0),(4,pB false),(6,pN i21)],⟨[some ⟨87,eN pa0⟩,some ⟨87,eN pa1⟩],[]⟩⟩) (fun _=>⟨[(4,pB false)],⟨[some ⟨87,eN pa0⟩,some ⟨87,eN pa1⟩],[]⟩⟩) (fK H) ?_ ?_
 ·rintro i21 ⟨⟩ H
  refine qS (qS (qR (q1 aE (q1 (a5 eI) (q1 (bD mN) (q1 (dL jL (bA.trs_len _)) (q1 gI (qN ?_))))))))
  refine dG H (fun h23 h23l H=>?_) (fun h23 H=>?_)
  ·have h23n:=a4 h23
   refine aR.skip (qS (aR.block (qS (fP H fun y24 h25 H=>(dK H fun z26 H=>(fP H fun y27 h28 H=>?_))))))
   rcases mA (!decide (y24.gConstructor=y27.gConstructor)) with g29|g29
   ·have H:=sE H g29
    refine dW (dI [2] (a5 eI) (dD [85] (bD mN) (dI [6] aE (dI [86,87] (m9 h25 h23n jL) (dI [88] (lR tW) (dI [89] (kQ eJ) (dI [3] (a5 eI) (dD [91] (bD mN) (dI [6] aE (dI [92,93] (m9 h28 z26 jL) (dI [94] (lR tW) (dI [95] (kQ eJ) (dI [90,96] WA ?_)))))))))))))
    refine dI [97] aE ?_
    iterate 14 refine FE g29 ?_
    refine dI [98] (bV g29) (dI [113] aE ?_)
    iterate 14 refine FE rfl ?_
    refine dI [114] (bV rfl) (dN (eL rfl (qW (q1 aE (qZ ?_)))))
    obtain rfl:_=r:=(mT (aX H):)
    exact bE
   have H:=sD H g29
   refine bI H fun x31 z30 H=>?_
   rcases mA (!(x31)) with g32|g32
   ·have H:=sE H g32
    refine dW (dI [2] (a5 eI) (dD [85] (bD mN) (dI [6] aE (dI [86,87] (m9 h25 h23n jL) (dI [88] (lR tW) (dI [89] (kQ eJ) (dI [3] (a5 eI) (dD [91] (bD mN) (dI [6] aE (dI [92,93] (m9 h28 z26 jL) (dI [94] (lR tW) (dI [95] (kQ eJ) (dI [90,96] WA ?_)))))))))))))
    refine dI [97] aE (dI (hg:=a6 g29) [2] (a5 eI) (dD (hg:=a6 g29) [99] (bD mN) (dI (hg:=a6 g29) [6] aE (dI (hg:=a6 g29) [100,101] (m9 h25 h23n jL) (dI (hg:=a6 g29) [102] (lR yY) (dI (hg:=a6 g29) [103] (kQ kZ) (dI (hg:=a6 g29) [3] (a5 eI) (dD (hg:=a6 g29) [105] (bD mN) (dI (hg:=a6 g29) [6] aE (dI (hg:=a6 g29) [106,107] (m9 h28 z26 jL) (dI (hg:=a6 g29) [108] (lR yY) (dI (hg:=a6 g29) [109] (kQ kZ) (dI (hg:=a6 g29) [104,110] (bG func295 (NB fu y24.gVars y27.gVars _ z30)) ?_)))))))))))))
    refine dI (hg:=a6 g29) [111] hQ (dI [98,112] (b9 g29) (dI [113] aE ?_))
    iterate 14 refine FE g32 ?_
    refine dI [114] (bV g32) (dN (eL rfl (qW (q1 aE (qZ ?_)))))
    obtain rfl:_=r:=(mT (aX H):)
    exact bE
   have H:=sD H g32
   refine bI H fun x34 z33 H=>(dW (dI [2] (a5 eI) (dD [85] (bD mN) (dI [6] aE (dI [86,87] (m9 h25 h23n jL) (dI [88] (lR tW) (dI [89] (kQ eJ) (dI [3] (a5 eI) (dD [91] (bD mN) (dI [6] aE (dI [92,93] (m9 h28 z26 jL) (dI [94] (lR tW) (dI [95] (kQ eJ) ?_)))))))))))))
   refine dI [90,96] WA (dI [97] aE (dI (hg:=a6 g29) [2] (a5 eI) (dD (hg:=a6 g29) [99] (bD mN) (dI (hg:=a6 g29) [6] aE (dI (hg:=a6 g29) [100,101] (m9 h25 h23n jL) (dI (hg:=a6 g29) [102] (lR yY) (dI (hg:=a6 g29) [103] (kQ kZ) (dI (hg:=a6 g29) [3] (a5 eI) (dD (hg:=a6 g29) [105] (bD mN) (dI (hg:=a6 g29) [6] aE (dI (hg:=a6 g29) [106,107] (m9 h28 z26 jL) (dI (hg:=a6 g29) [108] (lR yY) (dI (hg:=a6 g29) [109] (kQ kZ) ?_)))))))))))))
   refine dI (hg:=a6 g29) [104,110] (bG func295 (NB fu y24.gVars y27.gVars _ z30)) (dI (hg:=a6 g29) [111] hQ (dI [98,112] (b9 g29) (dI [113] aE (dI (hg:=a6 g32) [2] (a5 eI) (dD (hg:=a6 g32) [115] (bD mN) (dI (hg:=a6 g32) [6] aE (dI (hg:=a6 g32) [116,117] (m9 h25 h23n jL) (dI (hg:=a6 g32) [118] (lR A6) (dI (hg:=a6 g32) [119] (kM (aG.cs y24.gBody) fE) (dI (hg:=a6 g32) [3] (a5 eI) (dD (hg:=a6 g32) [121] (bD mN) (dI (hg:=a6 g32) [6] aE (dI (hg:=a6 g32) [122,123] (m9 h28 z26 jL) ?_)))))))))))))
   refine dI (hg:=a6 g32) [124] (lR A6) (dI (hg:=a6 g32) [125] (kM (aG.cs y27.gBody) fE) (dI (hg:=a6 g32) [120,126] (bG func288 (h_sEqualExpr y24.gBody y27.gBody _ z33)) (dI (hg:=a6 g32) [127] hQ (dI [114,128] (b9 g32) (dN ?_)))))
   refine a8 H (fun h35 H=>?_) (fun h35 H=>?_)
   ·refine qW (q1 aE (qZ ?_))
    obtain rfl:_=r:=(mT (aX H):)
    exact bE
   refine aR.skip (qR (q1 aE (q1 (rA (i21+1)) (q1 aE (qN ?_)))))
   exact iI h23l ⟨_,(aX H:),bW⟩
  refine aR.exit ?_;exact jJ ⟨_,H,bW⟩
 rintro⟨⟩ H
 refine qW (q1 aE (qZ ?_))
 cases aX H
 exact bE
def j0:Nat→aG→aG→Option Bool
 |0,_,_=>none
 |fu+1,pa0,pa1=>DU fu (j0 fu) pa0 pa1
theorem UY(fu:Nat):xZ (j0 fu):=by
 induction fu with
 |zero=>exact(fun pa0 pa1 r H=>by simp only [j0] at H;cases H)
 |succ fu ih=>exact(fun pa0 pa1 r H=>by simp only [j0] at H;exact R9 fu (j0 fu) ih pa0 pa1 r H)
theorem W0(fu:Nat):xZ (j0 fu):=(UY fu)
abbrev m6:=aG→(LB)→(LB)→Option ((LB))
def D5(m:m6):Prop:= ∀(pa0:aG) (pa1:LB) (pa2:LB) (r:(LB)),m pa0 pa1 pa2=some r→c6 Tryz.prog 292 [(aG.pv pa0),rS pa1,aS pa2 0] ⟨[],[⟨9,1,aZ (pa2),false⟩]⟩ (fun q t=>q=(aS r 0:PV)∧t=⟨[],[⟨9,1,aZ (r),false⟩]⟩)
def adU(fu:Nat)(r_sl11Free:m6)(pa0:aG)(pa1 pa2:LB):Option (((LB))⊕((LB))):=
 sw (decide (pa0.gKind=3))
 (bd (nQ fu pa1 pa0.gName) (fun x5=>
 sw (!(x5))
 (bd (nQ fu pa2 pa0.gName) (fun x8=>
 sw (!(x8))
 (gd ((pa2).length+(([pa0.gName]:LB)).length≤68719476736)
 (some (.inr (pa2++([pa0.gName]:LB)))))
 (some (.inr pa2))))
 (some (.inr pa2))))
 (some (.inr pa2))
def adV(fu:Nat)(r_sl11Free:m6)(pa0:aG)(pa1 pa2 v2:LB):Nat→((LB))→Option (LR ((LB)) ((LB))):=
 fun i11 v13=>sw (decide (pa0.gKind=8))
 (sw (decide ((i11:Int)=1))
 (gd (([]:LB).length+(pa1).length≤68719476736)
 (gd ((([])++pa1).length+(([pa0.gName]:LB)).length≤68719476736)
 (lt (aW pa0.gArgs i11) (fun y20=>
 bd (r_sl11Free y20 ((([])++pa1)++([pa0.gName]:LB)) v13) (fun x23=>
 some (.next x23))))))
 (lt (aW pa0.gArgs i11) (fun y24=>
 bd (r_sl11Free y24 pa1 v13) (fun x27=>
 some (.next x27)))))
 (lt (aW pa0.gArgs i11) (fun y28=>
 bd (r_sl11Free y28 pa1 v13) (fun x31=>
 some (.next x31))))
def adX(fu:Nat)(r_sl11Free:m6)(pa0:aG)(pa1 pa2 v2:LB):Option (((LB))⊕((LB))):=
 loopN (adV fu r_sl11Free pa0 pa1 pa2 v2) (pa0.gArgs.length-0) 0 v2
def adW(fu:Nat)(r_sl11Free:m6)(pa0:aG)(pa1 pa2 v2 v13:LB):Nat→((LB))→Option (LR ((LB)) ((LB))):=
 fun i32 v34=>lt (aW pa0.gArms i32) (fun y37=>
 gd (([]:LB).length+(pa1).length≤68719476736)
 (gd ((([])++pa1).length+(y37.gVars).length≤68719476736)
 (bd (r_sl11Free y37.gBody ((([])++pa1)++y37.gVars) v34) (fun x42=>
 some (.next x42)))))
def adY(fu:Nat)(r_sl11Free:m6)(pa0:aG)(pa1 pa2 v2 v13:LB):Option (((LB))⊕((LB))):=
 loopN (adW fu r_sl11Free pa0 pa1 pa2 v2 v13) (pa0.gArms.length-0) 0 v13
def K5(fu:Nat)(r_sl11Free:m6)(pa0:aG)(pa1 pa2:LB):Option ((LB)):=
 so (adU fu r_sl11Free pa0 pa1 pa2) (fun v2=>
 so (adX fu r_sl11Free pa0 pa1 pa2 v2) (fun v13=>
 so (adY fu r_sl11Free pa0 pa1 pa2 v2 v13) (fun v34=>
 some v34)))
theorem XI(fu:Nat)(r_sl11Free:m6)(h_sl11Free:D5 r_sl11Free):D5 (K5 fu r_sl11Free):=by
 intro pa0 pa1 pa2 r H
 have H:=eE H
 refine qI func292 (fun C hC=>?_)
 refine qW (q1 (iM (eN pa0)) (q1 aE (qN (qS ?_))))
 refine rR (σ:=(LB)) (fun v2=>⟨[(1,rS pa1),(2,aS v2 0),(3,.ptr 0 0),(6,.nil)],⟨[some ⟨87,eN pa0⟩],[⟨9,1,aZ (v2),false⟩]⟩⟩) (fK H) (fun H=>?_) ?_
 ·refine qW (q1 (a5 pW) (q1 (bD nT) (q1 dM (q1 aE ?_))))
  refine eF 13 H (fun g3 H=>?_) fun g3 H=>?_
  ·refine qg g3 aE (qg g3 (a5 lX) (qg g3 (bD eJ) (bI H fun x5 z4 H=>(qg g3 (bG func125 (nR fu pa1 pa0.gName _ z4)) (qg g3 hQ (q1 (bV g3) (q1 aE ?_)))))))
   refine eF 20 H (fun g6 H=>?_) fun g6 H=>?_
   ·refine qg g6 aE (qg g6 (a5 lX) (qg g6 (bD eJ) (bI H fun x8 z7 H=>(qg g6 (bG func125 (nR fu pa2 pa0.gName _ z7)) (qg g6 hQ (q1 (bV g6) (qN ?_)))))))
    refine a8 H (fun h9 H=>?_) (fun h9 H=>?_)
    ·refine qR (q1 aE (q1 (a5 lX) (q1 (bD eJ) (q1 (j9 ([pa0.gName]:LB) b3 lU) (dK H fun z10 H=>(q1 (nV z10 b3 tR) (q1 aE (qN ?_))))))))
     exact dY ⟨_,(aX H:),bW⟩
    refine aR.skip ?_;exact dY ⟨_,(aX H:),bW⟩
   iterate 5 refine qk g6 ?_
   refine q1 (b9 g6) (qN (jR rfl (aR.skip ?_)))
   exact dY ⟨_,(aX H:),bW⟩
  iterate 5 refine qk g3 ?_
  refine q1 (b9 g3) (q1 aE ?_)
  iterate 5 refine qk rfl ?_
  refine q1 (b9 rfl) (qN (jR rfl (aR.skip ?_)))
  exact dY ⟨_,(aX H:),bW⟩
 rintro v2 H
 refine qS (qS (qR (q1 aE (qN ?_))))
 refine aR.fact (b5 0 7 rfl rfl rfl (aG.trs_len _)) (fun hl14=>?_)
 refine b0 (σ:=(LB)) (fun i11 v13=>⟨[(1,rS pa1),(2,aS v13 0),(3,.ptr 0 0),(6,.nil),(7,pN i11)],⟨[some ⟨87,eN pa0⟩],[⟨9,1,aZ (v13),false⟩]⟩⟩) (fun v13=>⟨[(1,rS pa1),(2,aS v13 0),(3,.ptr 0 0),(6,.nil)],⟨[some ⟨87,eN pa0⟩],[⟨9,1,aZ (v13),false⟩]⟩⟩) (fK H) ?_ ?_
 ·rintro i11 v13 H
  refine qS (qS (qR (q1 aE (q1 (a5 fM) (q1 (bD oZ) (q1 (dL jZ (aG.trs_len _)) (q1 gI (qN ?_))))))))
  refine dG H (fun h15 h15l H=>?_) (fun h15 H=>?_)
  ·have h15n:=a4 h15
   refine aR.skip (qS (aR.block (qS (qR ?_))))
   iterate 2 refine q1 aE ?_
   refine qN ?_
   refine qS (qS (qR (q1 (a5 pW) (q1 (bD nT) (q1 dM (q1 aE ?_))))))
   refine eF 43 H (fun g16 H=>?_) fun g16 H=>?_
   ·refine qg g16 aE (qg g16 dM (q1 (bV g16) (qN ?_)))
    refine a8 H (fun h17 H=>?_) (fun h17 H=>?_)
    ·refine dK H fun z18 H=>(dK H fun z19 H=>(dW (dE [] (uK ([]:LB) b3 lU) (dI [1] aE (dE [47,48] (nV z18 b3 tR) (dI [3] (a5 lX) (dB [50] 0 2 (wL eJ) (dI [51] (j9 ([pa0.gName]:LB) b3 lU) (dE [49,52] (nV z19 b3 tR) (dI [53] aE (dN (qR (q1 (a5 fM) ?_)))))))))))))
     refine q1 (bD oZ) (q1 aE (fP H fun y20 h21 H=>(q1 (m9 h21 h15n jZ) (q1 (kM (aG.cs y20) fE) ?_))))
     iterate 2 refine q1 aE ?_
     refine bI H fun x23 z22 H=>(q1 (iF [] [0] func292 (h_sl11Free y20 ((([])++pa1)++([pa0.gName]:LB)) v13 _ z22)) (q1 aE (qN (qR (q1 aE (q1 (rA (i11+1)) (q1 aE (qN ?_))))))))
     exact iI h15l ⟨_,(aX H:),bW⟩
    refine aR.skip (qR (q1 (a5 fM) (q1 (bD oZ) (q1 aE (fP H fun y24 h25 H=>(q1 (m9 h25 h15n jZ) (q1 (kM (aG.cs y24) fE) ?_)))))))
    iterate 2 refine q1 aE ?_
    refine bI H fun x27 z26 H=>(q1 (iF [] [0] func292 (h_sl11Free y24 pa1 v13 _ z26)) (q1 aE (qN (qR (q1 aE (q1 (rA (i11+1)) (q1 aE (qN ?_))))))))
    exact iI h15l ⟨_,(aX H:),bW⟩
   iterate 2 refine qk g16 ?_
   refine q1 (b9 g16) (qN (jR rfl (aR.skip (qR (q1 (a5 fM) (q1 (bD oZ) (q1 aE (fP H fun y28 h29 H=>(q1 (m9 h29 h15n jZ) (q1 (kM (aG.cs y28) fE) ?_))))))))))
   iterate 2 refine q1 aE ?_
   refine bI H fun x31 z30 H=>(q1 (iF [] [0] func292 (h_sl11Free y28 pa1 v13 _ z30)) (q1 aE (qN (qR (q1 aE (q1 (rA (i11+1)) (q1 aE (qN ?_))))))))
   exact iI h15l ⟨_,(aX H:),bW⟩
  refine aR.exit ?_;exact jJ ⟨_,H,bW⟩
 rintro v13 H
 refine qS (qS (qR (q1 aE (qN ?_))))
 refine aR.fact (b5 0 8 rfl rfl rfl (bA.trs_len _)) (fun hl35=>?_)
 refine b0 (σ:=(LB)) (fun i32 v34=>⟨[(1,rS pa1),(2,aS v34 0),(3,.ptr 0 0),(6,.nil),(9,pN i32)],⟨[some ⟨87,eN pa0⟩],[⟨9,1,aZ (v34),false⟩]⟩⟩) (fun v34=>⟨[(2,aS v34 0),(6,.nil)],⟨[some ⟨87,eN pa0⟩],[⟨9,1,aZ (v34),false⟩]⟩⟩) (fK H) ?_ ?_
 ·rintro i32 v34 H
  refine qS (qS (qR (q1 aE (q1 (a5 eI) (q1 (bD mN) (q1 (dL jL (bA.trs_len _)) (q1 gI (qN ?_))))))))
  refine dG H (fun h36 h36l H=>?_) (fun h36 H=>?_)
  ·have h36n:=a4 h36
   refine aR.skip (qS (aR.block (fP H fun y37 h38 H=>(dK H fun z39 H=>(dK H fun z40 H=>(bI H fun x42 z41 H=>(dW (dI [3] (a5 eI) (dB [69] 0 3 (wL mN) (dI [9] aE (dI [70,71] (m9 h38 h36n jL) (dI [72] (lR A6) (dI [73] (kM (aG.cs y37.gBody) fE) ?_)))))))))))))
   refine dE [] (uK ([]:LB) b3 lU) (dI [1] aE (dE [75,76] (nV z39 b3 tR) (dI [3] (a5 eI) (dB [78] 0 2 (wL mN) (dI [9] aE (dI [79,80] (m9 h38 h36n jL) (dI [81] (lR yY) (dI [82] (kQ kZ) (dE [77,83] (nV z40 b3 tR) (dI [2] aE (dE [74,84,85] (iF [] [0] func292 (h_sl11Free y37.gBody ((([])++pa1)++y37.gVars) v34 _ z41)) (dI [86] aE (dN ?_)))))))))))))
   refine qR (q1 aE (q1 (rA (i32+1)) (q1 aE (qN ?_))))
   exact iI h36l ⟨_,(aX H:),bW⟩
  refine aR.exit ?_;exact jJ ⟨_,H,bW⟩
 rintro v34 H
 refine qS (qR ?_)
 iterate 2 refine q1 aE ?_
 refine qN (aR.ret ?_)
 cases aX H
 exact bE
def m5:Nat→aG→(LB)→(LB)→Option ((LB))
 |0,_,_,_=>none
 |fu+1,pa0,pa1,pa2=>K5 fu (m5 fu) pa0 pa1 pa2
theorem Z7(fu:Nat):D5 (m5 fu):=by
 induction fu with
 |zero=>exact(fun pa0 pa1 pa2 r H=>by simp only [m5] at H;cases H)
 |succ fu ih=>exact(fun pa0 pa1 pa2 r H=>by simp only [m5] at H;exact XI fu (m5 fu) ih pa0 pa1 pa2 r H)
theorem ad0(fu:Nat):D5 (m5 fu):=(Z7 fu)
def PE(m:aG→Option ((LB))):Prop:= ∀(pe:aG) (r:(LB)),m pe=some r→b4 Tryz.prog 286 [(aG.pv pe)] (rS r:PV)
def u2(fu:Nat)(pe:aG):Option ((LB)):=
 bd (m5 fu pe ([]) ([])) (fun x2=>
 some x2)
theorem M3(fu:Nat):PE (u2 fu):=by
 intro pe r H
 have H:=eE H
 refine qI func286 (fun C hC=>?_)
 refine qW (q1 (iM (eN pe)) (q1 aE (qN (qW (q1 (cJ [pI pe.gKind,pS pe.gTrait,pS pe.gName,pI pe.gN,pI pe.gType.gKind,pS pe.gType.gName,a7 pe.gType.gArgs,eB pe.gArgs,g0 pe.gArms] fE) ?_)))))
 iterate 2 refine q1 (uK ([]:LB) b3 lU) ?_
 refine bI H fun x2 z1 H=>(q1 (iF [] [1] func292 (ad0 fu pe ([]) ([]) _ z1)) (q1 aE (qZ ?_)))
 cases aX H
 exact bE
def ahM(m:aB→(LB)→Option Bool):Prop:= ∀(pt:aB) (pvars:LB) (r:Bool),m pt pvars=some r→b4 Tryz.prog 275 [(aB.pv pt),rS pvars] (pB r:PV)
def aeP(fu:Nat)(pt:aB)(pvars x2:LB):Nat→Unit→Option (LR Unit Bool):=
 fun i3 _=>bd (nQ fu pvars (aW x2 i3)) (fun x7=>
 sw (!(x7))
 (some (.ret false))
 (some (.next ())))
def aeQ(fu:Nat)(pt:aB)(pvars x2:LB):Option (Bool⊕Unit):=
 loopN (aeP fu pt pvars x2) (x2.length-0) 0 ()
def oF(fu:Nat)(pt:aB)(pvars:LB):Option Bool:=
 bd (u4 fu pt) (fun x2=>
 so (aeQ fu pt pvars x2) (fun _=>
 bd (kJ fu pt) (fun x10=>
 some x10)))
theorem qF(fu:Nat):ahM (oF fu):=by
 intro pt pvars r H
 have H:=eE H
 refine qI func275 (fun C hC=>?_)
 refine qW (q1 (iM (eD pt)) (q1 aE (qN (qW (q1 (cJ [pI pt.gKind,pS pt.gName,a7 pt.gArgs] cU) (bI H fun x2 z1 H=>(q1 (bG func138 (NA fu pt _ z1)) (q1 aE (qN ?_)))))))))
 refine qS (qS (qR (q1 aE (qN ?_))))
 refine lD 5 (bC _) (fun hl4=>?_)
 refine b0 (σ:=Unit) (fun i3 _=>⟨[(1,rS pvars),(2,.ptr 0 0),(4,pB false),(5,rS x2),(6,pN i3)],⟨[some ⟨35,eD pt⟩],[]⟩⟩) (fun _=>⟨[(2,.ptr 0 0),(4,pB false)],⟨[some ⟨35,eD pt⟩],[]⟩⟩) (fK H) ?_ ?_
 ·rintro i3 ⟨⟩ H
  refine qS (qS (qR ?_))
  iterate 2 refine q1 aE ?_
  refine q1 (dL b3 (bC _)) (q1 gI (qN ?_))
  refine dG H (fun h5 h5l H=>?_) (fun h5 H=>?_)
  ·have h5n:=a4 h5
   refine aR.skip (qS (aR.block (qS (qR ?_))))
   iterate 3 refine q1 aE ?_
   refine q1 (kP h5n b3) (q1 (kQ eJ) (bI H fun x7 z6 H=>(q1 (bG func125 (nR fu pvars (aW x2 i3) _ z6)) (q1 hQ (qN ?_)))))
   refine a8 H (fun h8 H=>?_) (fun h8 H=>?_)
   ·refine qW (q1 aE (qZ ?_))
    obtain rfl:_=r:=(mT (aX H):)
    exact bE
   refine aR.skip (qR (q1 aE (q1 (rA (i3+1)) (q1 aE (qN ?_)))))
   exact iI h5l ⟨_,(aX H:),bW⟩
  refine aR.exit ?_;exact jJ ⟨_,H,bW⟩
 rintro⟨⟩ H
 refine qW (q1 (cJ [pI pt.gKind,pS pt.gName,a7 pt.gArgs] cU) (bI H fun x10 z9 H=>(q1 (bG func284 (mD fu pt _ z9)) (q1 aE (qZ ?_)))))
 cases aX H
 exact bE
def alS(m:(List aB)→(LB)→Option Bool):Prop:= ∀(plist:List aB) (pvars:LB) (r:Bool),m plist pvars=some r→b4 Tryz.prog 274 [a7 plist,rS pvars] (pB r:PV)
def ahF(fu:Nat)(plist:List aB)(pvars:LB):Nat→Unit→Option (LR Unit Bool):=
 fun i1 _=>bd (oF fu (aW plist i1) pvars) (fun x5=>
 sw (!(x5))
 (some (.ret false))
 (some (.next ())))
def ahG(fu:Nat)(plist:List aB)(pvars:LB):Option (Bool⊕Unit):=
 loopN (ahF fu plist pvars) (plist.length-0) 0 ()
def G3(fu:Nat)(plist:List aB)(pvars:LB):Option Bool:=
 so (ahG fu plist pvars) (fun _=>
 some true)
theorem VI(fu:Nat):alS (G3 fu):=by
 intro plist pvars r H
 have H:=eE H
 refine qI func274 (fun C hC=>?_)
 refine qW (q1 aE (qN ?_))
 refine qS (qS (qR (q1 aE (qN ?_))))
 refine lD 0 (aB.trs_len _) (fun hl2=>?_)
 refine b0 (σ:=Unit) (fun i1 _=>⟨[(0,a7 plist),(1,rS pvars),(4,pB false),(5,pN i1)],⟨[],[]⟩⟩) (fun _=>⟨[(4,pB false)],⟨[],[]⟩⟩) (fK H) ?_ ?_
 ·rintro i1 ⟨⟩ H
  refine qS (qS (qR ?_))
  iterate 2 refine q1 aE ?_
  refine q1 (dL eU (aB.trs_len _)) (q1 gI (qN ?_))
  refine dG H (fun h3 h3l H=>?_) (fun h3 H=>?_)
  ·have h3n:=a4 h3
   refine aR.skip (qS (aR.block (qS (qR ?_))))
   iterate 2 refine q1 aE ?_
   refine q1 (kP h3n eU) (q1 (kM (aB.cs (aW plist i1)) cU) (q1 aE (bI H fun x5 z4 H=>(q1 (bG func275 (qF fu (aW plist i1) pvars _ z4)) (q1 hQ (qN ?_))))))
   refine a8 H (fun h6 H=>?_) (fun h6 H=>?_)
   ·refine qW (q1 aE (qZ ?_))
    obtain rfl:_=r:=(mT (aX H):)
    exact bE
   refine aR.skip (qR (q1 aE (q1 (rA (i1+1)) (q1 aE (qN ?_)))))
   exact iI h3l ⟨_,(aX H:),bW⟩
  refine aR.exit ?_;exact jJ ⟨_,H,bW⟩
 rintro⟨⟩ H
 refine qW (q1 aE (qZ ?_))
 cases aX H
 exact bE
def ahK(m:aG→Option Bool):Prop:= ∀(pe:aG) (r:Bool),m pe=some r→b4 Tryz.prog 283 [(aG.pv pe)] (pB r:PV)
def LD(fu:Nat)(pe:aG):Option Bool:=
 bd (j0 fu pe (aG.mk 0 s_ s_ 0 (aB.mk 0 s_ []) [] [])) (fun x2=>
 some x2)
theorem aeN(fu:Nat):ahK (LD fu):=by
 intro pe r H
 have H:=eE H
 refine qI func283 (fun C hC=>?_)
 refine qW (q1 (iM (eN pe)) (q1 aE (qN (qW (q1 (cJ [pI pe.gKind,pS pe.gTrait,pS pe.gName,pI pe.gN,pI pe.gType.gKind,pS pe.gType.gName,a7 pe.gType.gArgs,eB pe.gArgs,g0 pe.gArms] fE) (q1 (gW kL zM) (bI H fun x2 z1 H=>(q1 (bG func288 (W0 fu pe (aG.mk 0 s_ s_ 0 (aB.mk 0 s_ []) [] []) _ z1)) (q1 aE (qZ ?_))))))))))
 cases aX H
 exact bE
def aeS(m:(LB)→Int→Option Bool):Prop:= ∀(plist:LB) (pmost:Int) (r:Bool),m plist pmost=some r→b4 Tryz.prog 236 [rS plist,pI pmost] (pB r:PV)
def gU(fu:Nat)(plist:LB)(pmost:Int):Option Bool:=
 sw (decide ((plist.length:Int)≤pmost))
 (bd (EF fu plist) (fun x3=>
 sw (x3)
 (bd (kI fu plist) (fun x6=>
 some x6))
 (some false)))
 (some false)
theorem hO(fu:Nat):aeS (gU fu):=by
 intro plist pmost r H
 have H:=eE H
 refine qI func236 (fun C hC=>?_)
 refine qW (q1 aE (qN (qW (q1 aE (q1 (dL b3 (bC _)) (q1 aE (q1 rLe (q1 aE ?_))))))))
 refine eF 9 H (fun g1 H=>?_) fun g1 H=>?_
 ·refine qg g1 aE (bI H fun x3 z2 H=>(qg g1 (bG func255 (RI fu plist _ z2)) (q1 (bV g1) (q1 aE ?_))))
  refine eF 13 H (fun g4 H=>?_) fun g4 H=>?_
  ·refine qg g4 aE (bI H fun x6 z5 H=>(qg g4 (bG func237 (mC fu plist _ z5)) (q1 (bV g4) (q1 aE (qZ ?_)))))
   cases aX H
   exact bE
  iterate 2 refine qk g4 ?_
  refine q1 (b9 g4) (q1 aE (qZ ?_))
  cases aX H
  exact bE
 iterate 2 refine qk g1 ?_
 refine q1 (b9 g1) (q1 aE ?_)
 iterate 2 refine qk rfl ?_
 refine q1 (b9 rfl) (q1 aE (qZ ?_))
 cases aX H
 exact bE
def ahH(m:aG→(LB)→Option Bool):Prop:= ∀(pe:aG) (pvars:LB) (r:Bool),m pe pvars=some r→b4 Tryz.prog 278 [(aG.pv pe),rS pvars] (pB r:PV)
def aeH(fu:Nat)(pe:aG)(pvars x2:LB):Nat→Unit→Option (LR Unit Bool):=
 fun i3 _=>bd (nQ fu pvars (aW x2 i3)) (fun x7=>
 sw (!(x7))
 (some (.ret false))
 (some (.next ())))
def aeI(fu:Nat)(pe:aG)(pvars x2:LB):Option (Bool⊕Unit):=
 loopN (aeH fu pe pvars x2) (x2.length-0) 0 ()
def zS(fu:Nat)(pe:aG)(pvars:LB):Option Bool:=
 bd (u2 fu pe) (fun x2=>
 so (aeI fu pe pvars x2) (fun _=>
 bd (zO fu pe) (fun x10=>
 some x10)))
theorem F6(fu:Nat):ahH (zS fu):=by
 intro pe pvars r H
 have H:=eE H
 refine qI func278 (fun C hC=>?_)
 refine qW (q1 (iM (eN pe)) (q1 aE (qN (qW (q1 (cJ [pI pe.gKind,pS pe.gTrait,pS pe.gName,pI pe.gN,pI pe.gType.gKind,pS pe.gType.gName,a7 pe.gType.gArgs,eB pe.gArgs,g0 pe.gArms] fE) (bI H fun x2 z1 H=>(q1 (bG func286 (M3 fu pe _ z1)) (q1 aE (qN ?_)))))))))
 refine qS (qS (qR (q1 aE (qN ?_))))
 refine lD 5 (bC _) (fun hl4=>?_)
 refine b0 (σ:=Unit) (fun i3 _=>⟨[(1,rS pvars),(2,.ptr 0 0),(4,pB false),(5,rS x2),(6,pN i3)],⟨[some ⟨87,eN pe⟩],[]⟩⟩) (fun _=>⟨[(2,.ptr 0 0),(4,pB false)],⟨[some ⟨87,eN pe⟩],[]⟩⟩) (fK H) ?_ ?_
 ·rintro i3 ⟨⟩ H
  refine qS (qS (qR ?_))
  iterate 2 refine q1 aE ?_
  refine q1 (dL b3 (bC _)) (q1 gI (qN ?_))
  refine dG H (fun h5 h5l H=>?_) (fun h5 H=>?_)
  ·have h5n:=a4 h5
   refine aR.skip (qS (aR.block (qS (qR ?_))))
   iterate 3 refine q1 aE ?_
   refine q1 (kP h5n b3) (q1 (kQ eJ) (bI H fun x7 z6 H=>(q1 (bG func125 (nR fu pvars (aW x2 i3) _ z6)) (q1 hQ (qN ?_)))))
   refine a8 H (fun h8 H=>?_) (fun h8 H=>?_)
   ·refine qW (q1 aE (qZ ?_))
    obtain rfl:_=r:=(mT (aX H):)
    exact bE
   refine aR.skip (qR (q1 aE (q1 (rA (i3+1)) (q1 aE (qN ?_)))))
   exact iI h5l ⟨_,(aX H:),bW⟩
  refine aR.exit ?_;exact jJ ⟨_,H,bW⟩
 rintro⟨⟩ H
 refine qW (q1 (cJ [pI pe.gKind,pS pe.gTrait,pS pe.gName,pI pe.gN,pI pe.gType.gKind,pS pe.gType.gName,a7 pe.gType.gArgs,eB pe.gArgs,g0 pe.gArms] fE) (bI H fun x10 z9 H=>(q1 (bG func287 (SG fu pe _ z9)) (q1 aE (qZ ?_)))))
 cases aX H
 exact bE
def alU(m:aC→Option Bool):Prop:= ∀(ps:aC) (r:Bool),m ps=some r→b4 Tryz.prog 273 [(aC.pv ps)] (pB r:PV)
def P8(fu:Nat)(ps:aC):Option Bool:=
 bd (dU fu ps.gName) (fun x2=>
 sw (!(x2))
 (some false)
 (sw (decide ((ps.gParams.length:Int)>4))
 (some false)
 (bd (G3 fu ps.gParams ([dH]:LB)) (fun x6=>
 sw (!(x6))
 (some false)
 (bd (oF fu ps.gResult ([dH]:LB)) (fun x9=>
 sw (!(x9))
 (some false)
 (sw (!(ps.gHasDefault))
 (sw (decide ((ps.gVars.length:Int)=0))
 (bd (LD fu ps.gBody) (fun x14=>
 some x14))
 (some false))
 (bd (gU fu ps.gVars 5) (fun x16=>
 sw (x16)
 (sw (decide ((ps.gVars.length:Int)=aQ ((ps.gParams.length:Int)+1)))
 (bd (zS fu ps.gBody ps.gVars) (fun x20=>
 some x20))
 (some false))
 (some false))))))))))
theorem ahL(fu:Nat):alU (P8 fu):=by
 intro ps r H
 have H:=eE H
 refine qI func273 (fun C hC=>?_)
 refine qW (q1 (iM (TQ ps)) (q1 aE (qN ?_)))
 refine qS (qS (qR (q1 (a5 L1) (q1 (bD eJ) (bI H fun x2 z1 H=>(q1 (bG func235 (eC fu ps.gName _ z1)) (q1 hQ (q1 aE ?_))))))))
 refine eF 7 H (fun g3 H=>?_) fun g3 H=>?_
 ·refine qk g3 ?_
  iterate 3 refine qk g3 ?_
  refine q1 (bV g3) (q1 aE ?_)
  iterate 5 refine qk rfl ?_
  refine q1 (bV rfl) (q1 aE ?_)
  iterate 5 refine qk rfl ?_
  refine q1 (bV rfl) (qN (eL rfl (qW (q1 aE (qZ ?_)))))
  cases aX H
  exact bE
 refine qg g3 (a5 xP) (qg g3 (bD kY) (qg g3 (dL eU (aB.trs_len _)) (qg g3 KL (q1 (b9 g3) (q1 aE ?_)))))
 refine eF 13 H (fun g4 H=>?_) fun g4 H=>?_
 ·refine qk g4 ?_
  iterate 4 refine qk g4 ?_
  refine q1 (bV g4) (q1 aE ?_)
  iterate 5 refine qk rfl ?_
  refine q1 (bV rfl) (qN (eL rfl (qW (q1 aE (qZ ?_)))))
  cases aX H
  exact bE
 refine qg g4 (a5 xP) (qg g4 (bD kY) (qg g4 (j9 ([dH]:LB) b3 lU) (bI H fun x6 z5 H=>(qg g4 (bG func274 (VI fu ps.gParams ([dH]:LB) _ z5)) (qg g4 hQ (q1 (b9 g4) (q1 aE ?_)))))))
 refine eF 20 H (fun g7 H=>?_) fun g7 H=>?_
 ·refine qk g7 ?_
  iterate 4 refine qk g7 ?_
  refine q1 (bV g7) (qN (eL rfl (qW (q1 aE (qZ ?_)))))
  cases aX H
  exact bE
 refine qg g7 (a5 GS) (qg g7 (cJ [pI ps.gResult.gKind,pS ps.gResult.gName,a7 ps.gResult.gArgs] cU) (qg g7 (j9 ([dH]:LB) b3 lU) (bI H fun x9 z8 H=>(qg g7 (bG func275 (qF fu ps.gResult ([dH]:LB) _ z8)) (qg g7 hQ (q1 (b9 g7) (qN ?_)))))))
 refine a8 H (fun h10 H=>?_) (fun h10 H=>?_)
 ·refine qW (q1 aE (qZ ?_))
  cases aX H
  exact bE
 refine aR.skip ?_
 refine qS (qS (qR (q1 (a5 L2) (q1 (bD Z3) (q1 hQ (qN ?_))))))
 refine a8 H (fun h11 H=>?_) (fun h11 H=>?_)
 ·refine qW (q1 (a5 GT) (q1 (bD kZ) (q1 (dL b3 (bC _)) (q1 dM (q1 aE ?_)))))
  refine eF 34 H (fun g12 H=>?_) fun g12 H=>?_
  ·refine qg g12 (a5 S2) (qg g12 (cJ [pI ps.gBody.gKind,pS ps.gBody.gTrait,pS ps.gBody.gName,pI ps.gBody.gN,pI ps.gBody.gType.gKind,pS ps.gBody.gType.gName,a7 ps.gBody.gType.gArgs,eB ps.gBody.gArgs,g0 ps.gBody.gArms] fE) (bI H fun x14 z13 H=>(qg g12 (bG func283 (aeN fu ps.gBody _ z13)) (q1 (bV g12) (q1 aE (qZ ?_))))))
   cases aX H
   exact bE
  iterate 3 refine qk g12 ?_
  refine q1 (b9 g12) (q1 aE (qZ ?_))
  cases aX H
  exact bE
 refine aR.skip (qW (q1 (a5 GT) (q1 (bD kZ) (bI H fun x16 z15 H=>(q1 (bG func236 (hO fu ps.gVars 5 _ z15)) (q1 aE ?_))))))
 refine eF 42 H (fun g17 H=>?_) fun g17 H=>?_
 ·refine qg g17 (a5 GT) (qg g17 (bD kZ) (qg g17 (dL b3 (bC _)) (qg g17 (a5 xP) (qg g17 (bD kY) (qg g17 (dL eU (aB.trs_len _)) (qg g17 MZ (qg g17 dM (q1 (bV g17) (q1 aE ?_)))))))))
  refine eF 52 H (fun g18 H=>?_) fun g18 H=>?_
  ·refine qg g18 (a5 S2) (qg g18 (cJ [pI ps.gBody.gKind,pS ps.gBody.gTrait,pS ps.gBody.gName,pI ps.gBody.gN,pI ps.gBody.gType.gKind,pS ps.gBody.gType.gName,a7 ps.gBody.gType.gArgs,eB ps.gBody.gArgs,g0 ps.gBody.gArms] fE) (qg g18 (a5 GT) (qg g18 (bD kZ) (bI H fun x20 z19 H=>(qg g18 (bG func278 (F6 fu ps.gBody ps.gVars _ z19)) (q1 (bV g18) (q1 aE (qZ ?_))))))))
   cases aX H
   exact bE
  iterate 5 refine qk g18 ?_
  refine q1 (b9 g18) (q1 aE (qZ ?_))
  cases aX H
  exact bE
 iterate 8 refine qk g17 ?_
 refine q1 (b9 g17) (q1 aE ?_)
 iterate 5 refine qk rfl ?_
 refine q1 (b9 rfl) (q1 aE (qZ ?_))
 cases aX H
 exact bE
def SL(m:aP→Option Bool):Prop:= ∀(pt:aP) (r:Bool),m pt=some r→b4 Tryz.prog 256 [(aP.pv pt)] (pB r:PV)
def PH(fu:Nat)(pt:aP):Nat→((LB))→Option (LR ((LB)) Bool):=
 fun i1 v3=>lt (aW pt.gSignatures i1) (fun y6=>
 bd (P8 fu y6) (fun x9=>
 sw (!(x9))
 (some (.ret false))
 (gd ((v3).length+(([y6.gName]:LB)).length≤68719476736)
 (some (.next (v3++([y6.gName]:LB)))))))
def PI(fu:Nat)(pt:aP):Option (Bool⊕((LB))):=
 loopN (PH fu pt) (pt.gSignatures.length-0) 0 ([])
def sP(fu:Nat)(pt:aP):Option Bool:=
 so (PI fu pt) (fun v3=>
 sw (pt.gAuto)
 (sw (pt.gAssoc)
 (some false)
 (sw (decide ((pt.gSignatures.length:Int)>0))
 (some false)
 (sw (decide ((pt.gSupertraits.length:Int)>0))
 (some false)
 (bd (dU fu pt.gName) (fun x17=>
 sw (x17)
 (bd (gU fu pt.gSupertraits 4) (fun x20=>
 sw (x20)
 (bd (gU fu v3 6) (fun x23=>
 some x23))
 (some false)))
 (some false))))))
 (bd (dU fu pt.gName) (fun x25=>
 sw (x25)
 (bd (gU fu pt.gSupertraits 4) (fun x28=>
 sw (x28)
 (bd (gU fu v3 6) (fun x31=>
 some x31))
 (some false)))
 (some false))))
theorem CK(fu:Nat):SL (sP fu):=by
 intro pt r H
 have H:=eE H
 refine qI func256 (fun C hC=>?_)
 refine qW (q1 (iM (nH pt)) (q1 aE (qN (qW (q1 (uK ([]:LB) b3 lU) (q1 aE (qN ?_)))))))
 refine qS (qS (qR (q1 aE (qN ?_))))
 refine aR.fact (b5 0 4 rfl rfl rfl (aC.trs_len _)) (fun hl4=>?_)
 refine b0 (σ:=(LB)) (fun i1 v3=>⟨[(1,.ptr 0 0),(2,pB false),(3,aS v3 0),(4,pN i1)],⟨[some ⟨60,nH pt⟩],[⟨9,1,aZ (v3),false⟩]⟩⟩) (fun v3=>⟨[(1,.ptr 0 0),(2,pB false),(3,aS v3 0)],⟨[some ⟨60,nH pt⟩],[⟨9,1,aZ (v3),false⟩]⟩⟩) (fK H) ?_ ?_
 ·rintro i1 v3 H
  refine qS (qS (qR (q1 aE (q1 (a5 iV) (q1 (bD w9) (q1 (dL pT (aC.trs_len _)) (q1 gI (qN ?_))))))))
  refine dG H (fun h5 h5l H=>?_) (fun h5 H=>?_)
  ·have h5n:=a4 h5
   refine aR.skip (qS (aR.block ?_))
   refine qS (qS (qR (q1 (a5 iV) (q1 (bD w9) (q1 aE (fP H fun y6 h7 H=>(q1 (m9 h7 h5n pT) (q1 (kM (aC.cs y6) CP) (bI H fun x9 z8 H=>(q1 (bG func273 (ahL fu y6 _ z8)) (q1 hQ (qN ?_))))))))))))
   refine a8 H (fun h10 H=>?_) (fun h10 H=>?_)
   ·refine qW (q1 aE (qZ ?_))
    obtain rfl:_=r:=(mT (aX H):)
    exact bE
   refine aR.skip (qR (q1 aE (q1 (a5 iV) (q1 (bD w9) (q1 aE (q1 (m9 h7 h5n pT) (q1 (lR L1) (q1 (kQ eJ) (q1 (j9 ([y6.gName]:LB) b3 lU) (dK H fun z11 H=>(q1 (nV z11 b3 tR) (q1 aE (qN ?_)))))))))))))
   refine qR (q1 aE (q1 (rA (i1+1)) (q1 aE (qN ?_))))
   exact iI h5l ⟨_,(aX H:),bW⟩
  refine aR.exit ?_;exact jJ ⟨_,H,bW⟩
 rintro v3 H
 refine qS (qS (qR (q1 (a5 agI) (q1 (bD Z3) (q1 aE ?_)))))
 refine eF 31 H (fun g12 H=>?_) fun g12 H=>?_
 ·refine qg g12 (a5 OG) (qg g12 (bD Z3) (qg g12 aE ?_))
  refine eF 34 H (fun g13 H=>?_) fun g13 H=>?_
  ·refine qk g13 ?_
   iterate 3 refine qk g13 ?_
   refine qg g12 (bV g13) (qg g12 aE ?_)
   iterate 4 refine qk rfl ?_
   refine qg g12 (bV rfl) (q1 (bV g12) (qN (eL rfl (qW (q1 aE (qZ ?_))))))
   cases aX H
   exact bE
  refine qg g13 (a5 iV) (qg g13 (bD w9) (qg g13 (dL pT (aC.trs_len _)) (qg g13 KL (qg g12 (b9 g13) (qg g12 aE ?_)))))
  refine eF 40 H (fun g14 H=>?_) fun g14 H=>?_
  ·refine qk g14 ?_
   iterate 3 refine qk g14 ?_
   refine qg g12 (bV g14) (q1 (bV g12) (qN (eL rfl (qW (q1 aE (qZ ?_))))))
   cases aX H
   exact bE
  refine qg g14 (a5 C9) (qg g14 (bD kZ) (qg g14 (dL b3 (bC _)) (qg g14 KL (qg g12 (b9 g14) (q1 (bV g12) (qN ?_))))))
  refine a8 H (fun h15 H=>?_) (fun h15 H=>?_)
  ·refine qW (q1 aE (qZ ?_))
   cases aX H
   exact bE
  refine aR.skip (qW (q1 (a5 C8) (q1 (bD eJ) (bI H fun x17 z16 H=>(q1 (bG func235 (eC fu pt.gName _ z16)) (q1 aE ?_))))))
  refine eF 50 H (fun g18 H=>?_) fun g18 H=>?_
  ·refine qg g18 (a5 C9) (qg g18 (bD kZ) (bI H fun x20 z19 H=>(qg g18 (bG func236 (hO fu pt.gSupertraits 4 _ z19)) (q1 (bV g18) (q1 aE ?_)))))
   refine eF 55 H (fun g21 H=>?_) fun g21 H=>?_
   ·refine qg g21 aE (bI H fun x23 z22 H=>(qg g21 (bG func236 (hO fu v3 6 _ z22)) (q1 (bV g21) (q1 aE (qZ ?_)))))
    cases aX H
    exact bE
   iterate 2 refine qk g21 ?_
   refine q1 (b9 g21) (q1 aE (qZ ?_))
   cases aX H
   exact bE
  iterate 3 refine qk g18 ?_
  refine q1 (b9 g18) (q1 aE ?_)
  iterate 2 refine qk rfl ?_
  refine q1 (b9 rfl) (q1 aE (qZ ?_))
  cases aX H
  exact bE
 iterate 3 refine qk g12 ?_
 iterate 4 refine MY ?_
 iterate 2 refine qk g12 ?_
 iterate 4 refine MY ?_
 refine qk g12 (q1 (b9 g12) (qN (jR rfl (aR.skip (qW (q1 (a5 C8) (q1 (bD eJ) (bI H fun x25 z24 H=>(q1 (bG func235 (eC fu pt.gName _ z24)) (q1 aE ?_))))))))))
 refine eF 50 H (fun g26 H=>?_) fun g26 H=>?_
 ·refine qg g26 (a5 C9) (qg g26 (bD kZ) (bI H fun x28 z27 H=>(qg g26 (bG func236 (hO fu pt.gSupertraits 4 _ z27)) (q1 (bV g26) (q1 aE ?_)))))
  refine eF 55 H (fun g29 H=>?_) fun g29 H=>?_
  ·refine qg g29 aE (bI H fun x31 z30 H=>(qg g29 (bG func236 (hO fu v3 6 _ z30)) (q1 (bV g29) (q1 aE (qZ ?_)))))
   cases aX H
   exact bE
  iterate 2 refine qk g29 ?_
  refine q1 (b9 g29) (q1 aE (qZ ?_))
  cases aX H
  exact bE
 iterate 3 refine qk g26 ?_
 refine q1 (b9 g26) (q1 aE ?_)
 iterate 2 refine qk rfl ?_
 refine q1 (b9 rfl) (q1 aE (qZ ?_))
 cases aX H
 exact bE
def KQ(m:aH→Option Bool):Prop:= ∀(pd:aH) (r:Bool),m pd=some r→b4 Tryz.prog 257 [(aH.pv pd)] (pB r:PV)
def H4(fu:Nat)(pd:aH):Nat→((LB))→Option (LR ((LB)) Bool):=
 fun i1 v3=>sw (decide ((((((aW pd.gConstructors i1).gFields).length:Nat):Int):Int)>4))
 (some (.ret false))
 (bd (G3 fu ((aW pd.gConstructors i1).gFields) pd.gVars) (fun x8=>
 sw (!(x8))
 (some (.ret false))
 (gd ((v3).length+(([((aW pd.gConstructors i1).gName)]:LB)).length≤68719476736)
 (some (.next (v3++([((aW pd.gConstructors i1).gName)]:LB)))))))
def H5(fu:Nat)(pd:aH):Option (Bool⊕((LB))):=
 loopN (H4 fu pd) (pd.gConstructors.length-0) 0 ([])
def n4(fu:Nat)(pd:aH):Option Bool:=
 so (H5 fu pd) (fun v3=>
 bd (dU fu pd.gName) (fun x12=>
 sw (x12)
 (bd (gU fu pd.gVars 3) (fun x15=>
 sw (x15)
 (sw (decide ((v3.length:Int)>0))
 (bd (gU fu v3 5) (fun x19=>
 some x19))
 (some false))
 (some false)))
 (some false)))
theorem xF(fu:Nat):KQ (n4 fu):=by
 intro pd r H
 have H:=eE H
 refine qI func257 (fun C hC=>?_)
 refine qW (q1 (iM (gK pd)) (q1 aE (qN (qW (q1 (uK ([]:LB) b3 lU) (q1 aE (qN ?_)))))))
 refine qS (qS (qR (q1 aE (qN ?_))))
 refine aR.fact (b5 0 2 rfl rfl rfl (aD.trs_len _)) (fun hl4=>?_)
 refine b0 (σ:=(LB)) (fun i1 v3=>⟨[(1,.ptr 0 0),(2,pB false),(3,aS v3 0),(4,pN i1)],⟨[some ⟨116,gK pd⟩],[⟨9,1,aZ (v3),false⟩]⟩⟩) (fun v3=>⟨[(1,.ptr 0 0),(2,pB false),(3,aS v3 0)],⟨[some ⟨116,gK pd⟩],[⟨9,1,aZ (v3),false⟩]⟩⟩) (fK H) ?_ ?_
 ·rintro i1 v3 H
  refine qS (qS (qR (q1 aE (q1 (a5 gG) (q1 (bD nN) (q1 (dL lW (aD.trs_len _)) (q1 gI (qN ?_))))))))
  refine dG H (fun h5 h5l H=>?_) (fun h5 H=>?_)
  ·have h5n:=a4 h5
   refine aR.skip (qS (aR.block ?_))
   iterate 2 refine qS ?_
   rcases mA (decide ((((((aW pd.gConstructors i1).gFields).length:Nat):Int):Int)>4)) with g6|g6
   ·have H:=sE H g6
    refine dW (dI [1] (a5 gG) (dD [13] (bD nN) (dI [4] aE (dI [14,15] (kP h5n lW) (dI [16] (lR xQ) (dI [17] (kQ kY) (dI [18] (dL eU (aB.trs_len _)) (dI [19] KL (dI [20] aE ?_)))))))))
    iterate 10 refine FE g6 ?_
    refine dI [21] (bV g6) (dN (eL rfl (qW (q1 aE (qZ ?_)))))
    obtain rfl:_=r:=(mT (aX H):)
    exact bE
   have H:=sD H g6
   refine bI H fun x8 z7 H=>(dW (dI [1] (a5 gG) (dD [13] (bD nN) (dI [4] aE (dI [14,15] (kP h5n lW) (dI [16] (lR xQ) (dI [17] (kQ kY) (dI [18] (dL eU (aB.trs_len _)) (dI [19] KL (dI [20] aE (dI (hg:=a6 g6) [1] (a5 gG) (dD (hg:=a6 g6) [22] (bD nN) (dI (hg:=a6 g6) [4] aE ?_)))))))))))))
   refine dI (hg:=a6 g6) [23,24] (kP h5n lW) (dI (hg:=a6 g6) [25] (lR xQ) (dI (hg:=a6 g6) [26] (kQ kY) (dI (hg:=a6 g6) [1] (a5 C6) (dD (hg:=a6 g6) [28] (bD kZ) (dI (hg:=a6 g6) [27,29] (bG func274 (VI fu ((aW pd.gConstructors i1).gFields) pd.gVars _ z7)) (dI (hg:=a6 g6) [30] hQ (dI [21,31] (b9 g6) (dN ?_))))))))
   refine a8 H (fun h9 H=>?_) (fun h9 H=>?_)
   ·refine qW (q1 aE (qZ ?_))
    obtain rfl:_=r:=(mT (aX H):)
    exact bE
   refine aR.skip (qR (q1 aE (q1 (a5 gG) (q1 (bD nN) (q1 aE (q1 (kP h5n lW) (q1 (lR sK) (q1 (kQ eJ) (q1 (j9 ([((aW pd.gConstructors i1).gName)]:LB) b3 lU) (dK H fun z10 H=>(q1 (nV z10 b3 tR) (q1 aE (qN ?_)))))))))))))
   refine qR (q1 aE (q1 (rA (i1+1)) (q1 aE (qN ?_))))
   exact iI h5l ⟨_,(aX H:),bW⟩
  refine aR.exit ?_;exact jJ ⟨_,H,bW⟩
 rintro v3 H
 refine qW (q1 (a5 C5) (q1 (bD eJ) (bI H fun x12 z11 H=>(q1 (bG func235 (eC fu pd.gName _ z11)) (q1 aE ?_)))))
 refine eF 45 H (fun g13 H=>?_) fun g13 H=>?_
 ·refine qg g13 (a5 C6) (qg g13 (bD kZ) (bI H fun x15 z14 H=>(qg g13 (bG func236 (hO fu pd.gVars 3 _ z14)) (q1 (bV g13) (q1 aE ?_)))))
  refine eF 50 H (fun g16 H=>?_) fun g16 H=>?_
  ·refine qg g16 aE (qg g16 (dL b3 (bC _)) (qg g16 KL (q1 (bV g16) (q1 aE ?_))))
   refine eF 55 H (fun g17 H=>?_) fun g17 H=>?_
   ·refine qg g17 aE (bI H fun x19 z18 H=>(qg g17 (bG func236 (hO fu v3 5 _ z18)) (q1 (bV g17) (q1 aE (qZ ?_)))))
    cases aX H
    exact bE
   iterate 2 refine qk g17 ?_
   refine q1 (b9 g17) (q1 aE (qZ ?_))
   cases aX H
   exact bE
  iterate 3 refine qk g16 ?_
  refine q1 (b9 g16) (q1 aE ?_)
  iterate 2 refine qk rfl ?_
  refine q1 (b9 rfl) (q1 aE (qZ ?_))
  cases aX H
  exact bE
 iterate 3 refine qk g13 ?_
 refine q1 (b9 g13) (q1 aE ?_)
 iterate 3 refine qk rfl ?_
 refine q1 (b9 rfl) (q1 aE ?_)
 iterate 2 refine qk rfl ?_
 refine q1 (b9 rfl) (q1 aE (qZ ?_))
 cases aX H
 exact bE
def SF(m:aM→Option Bool):Prop:= ∀(pb:aM) (r:Bool),m pb=some r→b4 Tryz.prog 285 [(aM.pv pb)] (pB r:PV)
def wX(fu:Nat)(pb:aM):Option Bool:=
 bd (dU fu pb.gTrait) (fun x2=>
 sw (x2)
 (bd (kJ fu pb.gType) (fun x5=>
 some x5))
 (some false))
theorem PG(fu:Nat):SF (wX fu):=by
 intro pb r H
 have H:=eE H
 refine qI func285 (fun C hC=>?_)
 refine qW (q1 (iM (Y2 pb)) (q1 aE (qN (qW (q1 (a5 ZB) (q1 (bD eJ) (bI H fun x2 z1 H=>(q1 (bG func235 (eC fu pb.gTrait _ z1)) (q1 aE ?_)))))))))
 refine eF 6 H (fun g3 H=>?_) fun g3 H=>?_
 ·refine qg g3 (a5 J2) (qg g3 (cJ [pI pb.gType.gKind,pS pb.gType.gName,a7 pb.gType.gArgs] cU) (bI H fun x5 z4 H=>(qg g3 (bG func284 (mD fu pb.gType _ z4)) (q1 (bV g3) (q1 aE (qZ ?_))))))
  cases aX H
  exact bE
 iterate 3 refine qk g3 ?_
 refine q1 (b9 g3) (q1 aE (qZ ?_))
 cases aX H
 exact bE
def aeR(m:(List aM)→(LB)→Option Bool):Prop:= ∀(plist:List aM) (pvars:LB) (r:Bool),m plist pvars=some r→b4 Tryz.prog 276 [fS plist,rS pvars] (pB r:PV)
def aaL(fu:Nat)(plist:List aM)(pvars:LB):Nat→Unit→Option (LR Unit Bool):=
 fun i1 _=>bd (wX fu (aW plist i1)) (fun x5=>
 sw (!(x5))
 (some (.ret false))
 (bd (oF fu ((aW plist i1).gType) pvars) (fun x8=>
 sw (!(x8))
 (some (.ret false))
 (bd (fH fu ((aW plist i1).gType)) (fun x11=>
 sw (x11)
 (some (.ret false))
 (some (.next ())))))))
def aaM(fu:Nat)(plist:List aM)(pvars:LB):Option (Bool⊕Unit):=
 loopN (aaL fu plist pvars) (plist.length-0) 0 ()
def AR(fu:Nat)(plist:List aM)(pvars:LB):Option Bool:=
 so (aaM fu plist pvars) (fun _=>
 some (decide ((plist.length:Int)≤4)))
theorem ND(fu:Nat):aeR (AR fu):=by
 intro plist pvars r H
 have H:=eE H
 refine qI func276 (fun C hC=>?_)
 refine qW (q1 aE (qN ?_))
 refine qS (qS (qR (q1 aE (qN ?_))))
 refine lD 0 (aM.trs_len _) (fun hl2=>?_)
 refine b0 (σ:=Unit) (fun i1 _=>⟨[(0,fS plist),(1,rS pvars),(4,pB false),(5,pN i1)],⟨[],[]⟩⟩) (fun _=>⟨[(0,fS plist),(4,pB false)],⟨[],[]⟩⟩) (fK H) ?_ ?_
 ·rintro i1 ⟨⟩ H
  refine qS (qS (qR ?_))
  iterate 2 refine q1 aE ?_
  refine q1 (dL FF (aM.trs_len _)) (q1 gI (qN ?_))
  refine dG H (fun h3 h3l H=>?_) (fun h3 H=>?_)
  ·have h3n:=a4 h3
   refine aR.skip (qS (aR.block (qS (qR ?_))))
   iterate 2 refine q1 aE ?_
   refine q1 (kP h3n FF) (q1 (kM (aM.cs (aW plist i1)) asH) (bI H fun x5 z4 H=>(q1 (bG func285 (PG fu (aW plist i1) _ z4)) (q1 hQ (q1 aE ?_)))))
   refine eF 18 H (fun g6 H=>?_) fun g6 H=>?_
   ·refine qk g6 ?_
    iterate 7 refine qk g6 ?_
    refine q1 (bV g6) (q1 aE ?_)
    iterate 6 refine qk rfl ?_
    refine q1 (bV rfl) (qN (eL rfl (qW (q1 aE (qZ ?_)))))
    obtain rfl:_=r:=(mT (aX H):)
    exact bE
   iterate 2 refine qg g6 aE ?_
   refine qg g6 (kP h3n FF) (qg g6 (lR J2) (qg g6 (kM (aB.cs ((aW plist i1).gType)) cU) (qg g6 aE (bI H fun x8 z7 H=>(qg g6 (bG func275 (qF fu ((aW plist i1).gType) pvars _ z7)) (qg g6 hQ (q1 (b9 g6) (q1 aE ?_))))))))
   refine eF 28 H (fun g9 H=>?_) fun g9 H=>?_
   ·refine qk g9 ?_
    iterate 5 refine qk g9 ?_
    refine q1 (bV g9) (qN (eL rfl (qW (q1 aE (qZ ?_)))))
    obtain rfl:_=r:=(mT (aX H):)
    exact bE
   iterate 2 refine qg g9 aE ?_
   refine qg g9 (kP h3n FF) (qg g9 (lR J2) (qg g9 (kM (aB.cs ((aW plist i1).gType)) cU) (bI H fun x11 z10 H=>(qg g9 (bG func139 (AO fu ((aW plist i1).gType) _ z10)) (q1 (b9 g9) (qN ?_))))))
   refine a8 H (fun h12 H=>?_) (fun h12 H=>?_)
   ·refine qW (q1 aE (qZ ?_))
    obtain rfl:_=r:=(mT (aX H):)
    exact bE
   refine aR.skip (qR (q1 aE (q1 (rA (i1+1)) (q1 aE (qN ?_)))))
   exact iI h3l ⟨_,(aX H:),bW⟩
  refine aR.exit ?_;exact jJ ⟨_,H,bW⟩
 rintro⟨⟩ H
 refine qW (q1 aE (q1 (dL FF (aM.trs_len _)) (q1 rLe (q1 aE (qZ ?_)))))
 cases aX H
 exact bE
def KS(m:aL→Option Bool):Prop:= ∀(pa0:aL) (r:Bool),m pa0=some r→b4 Tryz.prog 258 [(aL.pv pa0)] (pB r:PV)
def H9(fu:Nat)(pa0:aL)(x2 x5 x8 x11 x15:Bool):Nat→Unit→Option (LR Unit Bool):=
 fun i17 _=>bd (qB fu (aW pa0.gVars i17) pa0.gHead) (fun x21=>
 sw (!(x21))
 (some (.ret false))
 (some (.next ())))
def IB(fu:Nat)(pa0:aL)(x2 x5 x8 x11 x15:Bool):Option (Bool⊕Unit):=
 loopN (H9 fu pa0 x2 x5 x8 x11 x15) (pa0.gVars.length-0) 0 ()
def H8(fu:Nat)(pa0:aL)(x2 x5 x8 x11 x15:Bool):Option (Bool⊕Unit):=
 sw (pa0.gHasAssoc)
 (bd (oF fu pa0.gAssoc pa0.gVars) (fun x25=>
 sw (!(x25))
 (some (.inl false))
 (some (.inr ()))))
 (bd (tD fu pa0.gAssoc) (fun x28=>
 sw (!(x28))
 (some (.inl false))
 (some (.inr ()))))
def IA(fu:Nat)(pa0:aL)(x2 x5 x8 x11 x15:Bool):Nat→((LB))→Option (LR ((LB)) Bool):=
 fun i30 v32=>lt (aW pa0.gMethods i30) (fun y35=>
 sw (decide ((y35.gVars.length:Int)=0))
 (some (.ret false))
 (bd (gU fu y35.gVars 5) (fun x39=>
 sw (!(x39))
 (some (.ret false))
 (bd (zS fu y35.gBody y35.gVars) (fun x42=>
 sw (!(x42))
 (some (.ret false))
 (gd ((v32).length+(([y35.gName]:LB)).length≤68719476736)
 (some (.next (v32++([y35.gName]:LB))))))))))
def IC(fu:Nat)(pa0:aL)(x2 x5 x8 x11 x15:Bool):Option (Bool⊕((LB))):=
 loopN (IA fu pa0 x2 x5 x8 x11 x15) (pa0.gMethods.length-0) 0 ([])
def n6(fu:Nat)(pa0:aL):Option Bool:=
 bd (dU fu pa0.gTrait) (fun x2=>
 sw (!(x2))
 (some false)
 (bd (gU fu pa0.gVars 3) (fun x5=>
 sw (!(x5))
 (some false)
 (bd (oF fu pa0.gHead pa0.gVars) (fun x8=>
 sw (!(x8))
 (some false)
 (bd (fH fu pa0.gHead) (fun x11=>
 sw (x11)
 (some false)
 (sw (decide (pa0.gHead.gKind=4))
 (some false)
 (bd (AR fu pa0.gWhere pa0.gVars) (fun x15=>
 sw (!(x15))
 (some false)
 (so (IB fu pa0 x2 x5 x8 x11 x15) (fun _=>
 so (H8 fu pa0 x2 x5 x8 x11 x15) (fun _=>
 so (IC fu pa0 x2 x5 x8 x11 x15) (fun v32=>
 bd (gU fu v32 6) (fun x46=>
 some x46)))))))))))))))
theorem xH(fu:Nat):KS (n6 fu):=by
 intro pa0 r H
 have H:=eE H
 refine qI func258 (fun C hC=>?_)
 refine qW (q1 (iM (nG pa0)) (q1 aE (qN ?_)))
 refine qS (qS (qR (q1 (a5 agH) (q1 (bD eJ) (bI H fun x2 z1 H=>(q1 (bG func235 (eC fu pa0.gTrait _ z1)) (q1 hQ (q1 aE ?_))))))))
 refine eF 11 H (fun g3 H=>?_) fun g3 H=>?_
 ·refine qk g3 ?_
  iterate 3 refine qk g3 ?_
  refine q1 (bV g3) (q1 aE ?_)
  iterate 6 refine qk rfl ?_
  refine q1 (bV rfl) (q1 aE ?_)
  iterate 3 refine qk rfl ?_
  refine q1 (bV rfl) (q1 aE ?_)
  iterate 4 refine qk rfl ?_
  refine q1 (bV rfl) (q1 aE ?_)
  iterate 6 refine qk rfl ?_
  refine q1 (bV rfl) (qN (eL rfl (qW (q1 aE (qZ ?_)))))
  cases aX H
  exact bE
 refine qg g3 (a5 uS) (qg g3 (bD kZ) (bI H fun x5 z4 H=>(qg g3 (bG func236 (hO fu pa0.gVars 3 _ z4)) (qg g3 hQ (q1 (b9 g3) (q1 aE ?_))))))
 refine eF 17 H (fun g6 H=>?_) fun g6 H=>?_
 ·refine qk g6 ?_
  iterate 5 refine qk g6 ?_
  refine q1 (bV g6) (q1 aE ?_)
  iterate 3 refine qk rfl ?_
  refine q1 (bV rfl) (q1 aE ?_)
  iterate 4 refine qk rfl ?_
  refine q1 (bV rfl) (q1 aE ?_)
  iterate 6 refine qk rfl ?_
  refine q1 (bV rfl) (qN (eL rfl (qW (q1 aE (qZ ?_)))))
  cases aX H
  exact bE
 refine qg g6 (a5 A4) (qg g6 (cJ [pI pa0.gHead.gKind,pS pa0.gHead.gName,a7 pa0.gHead.gArgs] cU) (qg g6 (a5 uS) (qg g6 (bD kZ) (bI H fun x8 z7 H=>(qg g6 (bG func275 (qF fu pa0.gHead pa0.gVars _ z7)) (qg g6 hQ (q1 (b9 g6) (q1 aE ?_))))))))
 refine eF 25 H (fun g9 H=>?_) fun g9 H=>?_
 ·refine qk g9 ?_
  iterate 2 refine qk g9 ?_
  refine q1 (bV g9) (q1 aE ?_)
  iterate 4 refine qk rfl ?_
  refine q1 (bV rfl) (q1 aE ?_)
  iterate 6 refine qk rfl ?_
  refine q1 (bV rfl) (qN (eL rfl (qW (q1 aE (qZ ?_)))))
  cases aX H
  exact bE
 refine qg g9 (a5 A4) (qg g9 (cJ [pI pa0.gHead.gKind,pS pa0.gHead.gName,a7 pa0.gHead.gArgs] cU) (bI H fun x11 z10 H=>(qg g9 (bG func139 (AO fu pa0.gHead _ z10)) (q1 (b9 g9) (q1 aE ?_)))))
 refine eF 30 H (fun g12 H=>?_) fun g12 H=>?_
 ·refine qk g12 ?_
  iterate 3 refine qk g12 ?_
  refine q1 (bV g12) (q1 aE ?_)
  iterate 6 refine qk rfl ?_
  refine q1 (bV rfl) (qN (eL rfl (qW (q1 aE (qZ ?_)))))
  cases aX H
  exact bE
 refine qg g12 (a5 A4) (qg g12 (a5 pF) (qg g12 (bD nT) (qg g12 dM (q1 (b9 g12) (q1 aE ?_)))))
 refine eF 36 H (fun g13 H=>?_) fun g13 H=>?_
 ·refine qk g13 ?_
  iterate 5 refine qk g13 ?_
  refine q1 (bV g13) (qN (eL rfl (qW (q1 aE (qZ ?_)))))
  cases aX H
  exact bE
 refine qg g13 (a5 OD) (qg g13 (bD alK) (qg g13 (a5 uS) (qg g13 (bD kZ) (bI H fun x15 z14 H=>(qg g13 (bG func276 (ND fu pa0.gWhere pa0.gVars _ z14)) (qg g13 hQ (q1 (b9 g13) (qN ?_))))))))
 refine a8 H (fun h16 H=>?_) (fun h16 H=>?_)
 ·refine qW (q1 aE (qZ ?_))
  cases aX H
  exact bE
 refine aR.skip ?_
 refine qS (qS (qR (q1 aE (qN ?_))))
 refine lD 13 (bC _) (fun hl18=>?_)
 refine b0 (σ:=Unit) (fun i17 _=>⟨[(1,.ptr 0 0),(2,pB false),(3,pN i17)],⟨[some ⟨55,nG pa0⟩],[]⟩⟩) (fun _=>⟨[(1,.ptr 0 0),(2,pB false)],⟨[some ⟨55,nG pa0⟩],[]⟩⟩) (fK H) ?_ ?_
 ·rintro i17 ⟨⟩ H
  refine qS (qS (qR (q1 aE (q1 (a5 uS) (q1 (bD kZ) (q1 (dL b3 (bC _)) (q1 gI (qN ?_))))))))
  refine dG H (fun h19 h19l H=>?_) (fun h19 H=>?_)
  ·have h19n:=a4 h19
   refine aR.skip (qS (aR.block (qS (bI H fun x21 z20 H=>(dW (dI [1] (a5 uS) (dD [51] (bD kZ) (dI [3] aE (dI [52,53] (kP h19n b3) (dI [54] (kQ eJ) (dI [1] (a5 A4) (dD [56] (cJ [pI pa0.gHead.gKind,pS pa0.gHead.gName,a7 pa0.gHead.gArgs] cU) (dI [55,57] (bG func200 (DX fu (aW pa0.gVars i17) pa0.gHead _ z20)) ?_)))))))))))))
   refine dI [58] hQ (dN ?_)
   refine a8 H (fun h22 H=>?_) (fun h22 H=>?_)
   ·refine qW (q1 aE (qZ ?_))
    obtain rfl:_=r:=(mT (aX H):)
    exact bE
   refine aR.skip (qR (q1 aE (q1 (rA (i17+1)) (q1 aE (qN ?_)))))
   exact iI h19l ⟨_,(aX H:),bW⟩
  refine aR.exit ?_;exact jJ ⟨_,H,bW⟩
 rintro⟨⟩ H
 refine qS ?_;refine rR (σ:=Unit) (fun _=>⟨[(1,.ptr 0 0),(2,pB false)],⟨[some ⟨55,nG pa0⟩],[]⟩⟩) (fK H) (fun H=>?_) ?_
 ·refine qW (q1 (a5 OE) (q1 (bD Z3) (q1 aE ?_)))
  refine eF 62 H (fun g23 H=>?_) fun g23 H=>?_
  ·refine qg g23 (a5 OF) (qg g23 (cJ [pI pa0.gAssoc.gKind,pS pa0.gAssoc.gName,a7 pa0.gAssoc.gArgs] cU) (qg g23 (a5 uS) (qg g23 (bD kZ) (bI H fun x25 z24 H=>(qg g23 (bG func275 (qF fu pa0.gAssoc pa0.gVars _ z24)) (qg g23 hQ (q1 (bV g23) (q1 aE ?_))))))))
   refine eF 70 H (fun g26 H=>?_) fun g26 H=>?_
   ·refine qk g26 ?_
    iterate 3 refine qk g26 ?_
    iterate 4 refine MY ?_
    refine qk g26 (q1 (bV g26) (qN (eL rfl (qW (q1 aE (qZ ?_))))))
    obtain rfl:_=r:=(AA (aX H):)
    exact bE
   refine qg g26 (a5 OE) (qg g26 (bD Z3) (qg g26 hQ (qg g26 aE ?_)))
   iterate 4 refine qk (congrArg (fun b=> !b) g23) ?_
   refine qg g26 (b9 (congrArg (fun b=> !b) g23)) (q1 (b9 g26) (qN (jR rfl (aR.skip ?_))))
   exact dY ⟨_,(aX H:),bW⟩
  iterate 6 refine qk g23 ?_
  refine q1 (b9 g23) (q1 aE (qg rfl (a5 OE) (qg rfl (bD Z3) (qg rfl hQ (qg rfl aE (qg (congrArg (fun b=> !b) g23) (a5 OF) (qg (congrArg (fun b=> !b) g23) (cJ [pI pa0.gAssoc.gKind,pS pa0.gAssoc.gName,a7 pa0.gAssoc.gArgs] cU) (bI H fun x28 z27 H=>(qg (congrArg (fun b=> !b) g23) (bG func277 (wF fu pa0.gAssoc _ z27)) (qg (congrArg (fun b=> !b) g23) hQ (qg rfl (bV (congrArg (fun b=> !b) g23)) (q1 (b9 rfl) (qN ?_)))))))))))))
  refine a8 H (fun h29 H=>?_) (fun h29 H=>?_)
  ·refine qW (q1 aE (qZ ?_))
   obtain rfl:_=r:=(AA (aX H):)
   exact bE
  refine aR.skip ?_;exact dY ⟨_,(aX H:),bW⟩
 rintro⟨⟩ H
 refine qW (q1 (uK ([]:LB) b3 lU) (q1 aE (qN ?_)))
 refine qS (qS (qR (q1 aE (qN ?_))))
 refine aR.fact (b5 0 11 rfl rfl rfl (aO.trs_len _)) (fun hl33=>?_)
 refine b0 (σ:=(LB)) (fun i30 v32=>⟨[(1,.ptr 0 0),(2,pB false),(4,aS v32 0),(5,pN i30)],⟨[some ⟨55,nG pa0⟩],[⟨9,1,aZ (v32),false⟩]⟩⟩) (fun v32=>⟨[(2,pB false),(4,aS v32 0)],⟨[some ⟨55,nG pa0⟩],[⟨9,1,aZ (v32),false⟩]⟩⟩) (fK H) ?_ ?_
 ·rintro i30 v32 H
  refine qS (qS (qR (q1 aE (q1 (a5 FG) (q1 (bD ag0) (q1 (dL Y6 (aO.trs_len _)) (q1 gI (qN ?_))))))))
  refine dG H (fun h34 h34l H=>?_) (fun h34 H=>?_)
  ·have h34n:=a4 h34
   refine aR.skip (qS (aR.block (qW (q1 (a5 FG) (q1 (bD ag0) (q1 aE (fP H fun y35 h36 H=>(q1 (m9 h36 h34n Y6) (q1 (kM (aO.cs y35) ap8) (q1 (fO YL) (q1 (bR aqG) (qN ?_))))))))))))
   refine qS (qS (qR (q1 (a5 L0) (q1 (bD kZ) (q1 (dL b3 (bC _)) (q1 dM (q1 aE ?_)))))))
   refine eF 98 H (fun g37 H=>?_) fun g37 H=>?_
   ·refine qk g37 ?_
    iterate 3 refine qk g37 ?_
    refine q1 (bV g37) (q1 aE ?_)
    iterate 6 refine qk rfl ?_
    refine q1 (bV rfl) (qN (eL rfl (qW (q1 aE (qZ ?_)))))
    obtain rfl:_=r:=(mT (aX H):)
    exact bE
   refine qg g37 (a5 L0) (qg g37 (bD kZ) (bI H fun x39 z38 H=>(qg g37 (bG func236 (hO fu y35.gVars 5 _ z38)) (qg g37 hQ (q1 (b9 g37) (q1 aE ?_))))))
   refine eF 104 H (fun g40 H=>?_) fun g40 H=>?_
   ·refine qk g40 ?_
    iterate 5 refine qk g40 ?_
    refine q1 (bV g40) (qN (eL rfl (qW (q1 aE (qZ ?_)))))
    obtain rfl:_=r:=(mT (aX H):)
    exact bE
   refine qg g40 (a5 Y9) (qg g40 (cJ [pI y35.gBody.gKind,pS y35.gBody.gTrait,pS y35.gBody.gName,pI y35.gBody.gN,pI y35.gBody.gType.gKind,pS y35.gBody.gType.gName,a7 y35.gBody.gType.gArgs,eB y35.gBody.gArgs,g0 y35.gBody.gArms] fE) (qg g40 (a5 L0) (qg g40 (bD kZ) (bI H fun x42 z41 H=>(qg g40 (bG func278 (F6 fu y35.gBody y35.gVars _ z41)) (qg g40 hQ (q1 (b9 g40) (qN ?_))))))))
   refine a8 H (fun h43 H=>?_) (fun h43 H=>?_)
   ·refine qW (q1 aE (qZ ?_))
    obtain rfl:_=r:=(mT (aX H):)
    exact bE
   refine aR.skip (qR (q1 aE (q1 (a5 ajR) (q1 (bD eJ) (q1 (j9 ([y35.gName]:LB) b3 lU) (dK H fun z44 H=>(q1 (nV z44 b3 tR) (q1 aE (qN (qR (q1 aE (q1 (rA (i30+1)) (q1 aE ?_)))))))))))))
   refine qN ?_;exact iI h34l ⟨_,(aX H:),bW⟩
  refine aR.exit ?_;exact jJ ⟨_,H,bW⟩
 rintro v32 H
 refine qW (q1 aE (bI H fun x46 z45 H=>(q1 (bG func236 (hO fu v32 6 _ z45)) (q1 aE (qZ ?_)))))
 cases aX H
 exact bE
def KR(m:aK→Option Bool):Prop:= ∀(pf:aK) (r:Bool),m pf=some r→b4 Tryz.prog 259 [(aK.pv pf)] (pB r:PV)
def H6(fu:Nat)(pf:aK):Nat→((LB))→Option (LR ((LB)) Bool):=
 fun i1 v3=>bd (oF fu ((aW pf.gParams i1).gType) pf.gVars) (fun x7=>
 sw (!(x7))
 (some (.ret false))
 (gd ((v3).length+(([((aW pf.gParams i1).gName)]:LB)).length≤68719476736)
 (some (.next (v3++([((aW pf.gParams i1).gName)]:LB))))))
def H7(fu:Nat)(pf:aK):Option (Bool⊕((LB))):=
 loopN (H6 fu pf) (pf.gParams.length-0) 0 ([])
def n5(fu:Nat)(pf:aK):Option Bool:=
 so (H7 fu pf) (fun v3=>
 bd (dU fu pf.gName) (fun x11=>
 sw (x11)
 (bd (gU fu pf.gVars 3) (fun x14=>
 sw (x14)
 (bd (AR fu pf.gWhere pf.gVars) (fun x17=>
 sw (x17)
 (bd (gU fu v3 5) (fun x20=>
 sw (x20)
 (bd (oF fu pf.gResult pf.gVars) (fun x23=>
 sw (x23)
 (bd (zS fu pf.gBody v3) (fun x26=>
 some x26))
 (some false)))
 (some false)))
 (some false)))
 (some false)))
 (some false)))
theorem xG(fu:Nat):KR (n5 fu):=by
 intro pf r H
 have H:=eE H
 refine qI func259 (fun C hC=>?_)
 refine qW (q1 (iM (yG pf)) (q1 aE (qN (qW (q1 (uK ([]:LB) b3 lU) (q1 aE (qN ?_)))))))
 refine qS (qS (qR (q1 aE (qN ?_))))
 refine aR.fact (b5 0 3 rfl rfl rfl (aT.trs_len _)) (fun hl4=>?_)
 refine b0 (σ:=(LB)) (fun i1 v3=>⟨[(1,.ptr 0 0),(2,pB false),(3,aS v3 0),(4,pN i1)],⟨[some ⟨148,yG pf⟩],[⟨9,1,aZ (v3),false⟩]⟩⟩) (fun v3=>⟨[(1,.ptr 0 0),(2,pB false),(3,aS v3 0)],⟨[some ⟨148,yG pf⟩],[⟨9,1,aZ (v3),false⟩]⟩⟩) (fK H) ?_ ?_
 ·rintro i1 v3 H
  refine qS (qS (qR (q1 aE (q1 (a5 sJ) (q1 (bD I9) (q1 (dL BW (aT.trs_len _)) (q1 gI (qN ?_))))))))
  refine dG H (fun h5 h5l H=>?_) (fun h5 H=>?_)
  ·have h5n:=a4 h5
   refine aR.skip (qS (aR.block ?_))
   iterate 2 refine qS ?_
   refine bI H fun x7 z6 H=>(dW (dI [1] (a5 sJ) (dD [13] (bD I9) (dI [4] aE (dI [14,15] (kP h5n BW) (dI [16] (lR ajT) (dI [17] (kM (aB.cs ((aW pf.gParams i1).gType)) cU) (dI [1] (a5 LZ) (dD [19] (bD kZ) (dI [18,20] (bG func275 (qF fu ((aW pf.gParams i1).gType) pf.gVars _ z6)) (dI [21] hQ (dN ?_))))))))))))
   refine a8 H (fun h8 H=>?_) (fun h8 H=>?_)
   ·refine qW (q1 aE (qZ ?_))
    obtain rfl:_=r:=(mT (aX H):)
    exact bE
   refine aR.skip (qR (q1 aE (q1 (a5 sJ) (q1 (bD I9) (q1 aE (q1 (kP h5n BW) (q1 (lR ajS) (q1 (kQ eJ) (q1 (j9 ([((aW pf.gParams i1).gName)]:LB) b3 lU) (dK H fun z9 H=>(q1 (nV z9 b3 tR) (q1 aE (qN ?_)))))))))))))
   refine qR (q1 aE (q1 (rA (i1+1)) (q1 aE (qN ?_))))
   exact iI h5l ⟨_,(aX H:),bW⟩
  refine aR.exit ?_;exact jJ ⟨_,H,bW⟩
 rintro v3 H
 refine qW (q1 (a5 GR) (q1 (bD eJ) (bI H fun x11 z10 H=>(q1 (bG func235 (eC fu pf.gName _ z10)) (q1 aE ?_)))))
 refine eF 35 H (fun g12 H=>?_) fun g12 H=>?_
 ·refine qg g12 (a5 LZ) (qg g12 (bD kZ) (bI H fun x14 z13 H=>(qg g12 (bG func236 (hO fu pf.gVars 3 _ z13)) (q1 (bV g12) (q1 aE ?_)))))
  refine eF 40 H (fun g15 H=>?_) fun g15 H=>?_
  ·refine qg g15 (a5 Y7) (qg g15 (bD alK) (qg g15 (a5 LZ) (qg g15 (bD kZ) (bI H fun x17 z16 H=>(qg g15 (bG func276 (ND fu pf.gWhere pf.gVars _ z16)) (q1 (bV g15) (q1 aE ?_)))))))
   refine eF 47 H (fun g18 H=>?_) fun g18 H=>?_
   ·refine qg g18 aE (bI H fun x20 z19 H=>(qg g18 (bG func236 (hO fu v3 5 _ z19)) (q1 (bV g18) (q1 aE ?_))))
    refine eF 51 H (fun g21 H=>?_) fun g21 H=>?_
    ·refine qg g21 (a5 Y8) (qg g21 (cJ [pI pf.gResult.gKind,pS pf.gResult.gName,a7 pf.gResult.gArgs] cU) (qg g21 (a5 LZ) (qg g21 (bD kZ) (bI H fun x23 z22 H=>(qg g21 (bG func275 (qF fu pf.gResult pf.gVars _ z22)) (q1 (bV g21) (q1 aE ?_)))))))
     refine eF 58 H (fun g24 H=>?_) fun g24 H=>?_
     ·refine qg g24 (a5 SZ) (qg g24 (cJ [pI pf.gBody.gKind,pS pf.gBody.gTrait,pS pf.gBody.gName,pI pf.gBody.gN,pI pf.gBody.gType.gKind,pS pf.gBody.gType.gName,a7 pf.gBody.gType.gArgs,eB pf.gBody.gArgs,g0 pf.gBody.gArms] fE) (qg g24 aE (bI H fun x26 z25 H=>(qg g24 (bG func278 (F6 fu pf.gBody v3 _ z25)) (q1 (bV g24) (q1 aE (qZ ?_)))))))
      cases aX H
      exact bE
     iterate 4 refine qk g24 ?_
     refine q1 (b9 g24) (q1 aE (qZ ?_))
     cases aX H
     exact bE
    iterate 5 refine qk g21 ?_
    refine q1 (b9 g21) (q1 aE ?_)
    iterate 4 refine qk rfl ?_
    refine q1 (b9 rfl) (q1 aE (qZ ?_))
    cases aX H
    exact bE
   iterate 2 refine qk g18 ?_
   refine q1 (b9 g18) (q1 aE ?_)
   iterate 5 refine qk rfl ?_
   refine q1 (b9 rfl) (q1 aE ?_)
   iterate 4 refine qk rfl ?_
   refine q1 (b9 rfl) (q1 aE (qZ ?_))
   cases aX H
   exact bE
  iterate 5 refine qk g15 ?_
  refine q1 (b9 g15) (q1 aE ?_)
  iterate 2 refine qk rfl ?_
  refine q1 (b9 rfl) (q1 aE ?_)
  iterate 5 refine qk rfl ?_
  refine q1 (b9 rfl) (q1 aE ?_)
  iterate 4 refine qk rfl ?_
  refine q1 (b9 rfl) (q1 aE (qZ ?_))
  cases aX H
  exact bE
 iterate 3 refine qk g12 ?_
 refine q1 (b9 g12) (q1 aE ?_)
 iterate 5 refine qk rfl ?_
 refine q1 (b9 rfl) (q1 aE ?_)
 iterate 2 refine qk rfl ?_
 refine q1 (b9 rfl) (q1 aE ?_)
 iterate 5 refine qk rfl ?_
 refine q1 (b9 rfl) (q1 aE ?_)
 iterate 4 refine qk rfl ?_
 refine q1 (b9 rfl) (q1 aE (qZ ?_))
 cases aX H
 exact bE
end
end Go.Proofs.YtpioomclpaiomaaGreat.W

namespace Go.Proofs.YtpioomclpaiomaaGreat.W
set_option maxRecDepth 100000
set_option maxHeartbeats 40000000
noncomputable section
open Tryz Go.RowKit Go.Proofs
attribute [local irreducible] lt
def an7(m:aA→Int→Option aA):Prop:= ∀(px:aA) (pi:Int) (r:aA),m px pi=some r→b4 Tryz.prog 219 [(aA.pv px),pI pi] ((aA.pv r):PV)
def dJ(fu:Nat)(px:aA)(pi:Int):Option aA:=
 sw (decide (pi≥(px.gList.length:Int)))
 (some (aA.mk s_ []))
 (gd (0≤pi∧(pi).toNat<(px.gList).length)
 (some (aW px.gList ((pi).toNat))))
theorem cY(fu:Nat):an7 (dJ fu):=by
 intro px pi r H
 have H:=eE H
 refine qI func219 (fun C hC=>?_)
 refine qW (q1 (iM ([pS px.gAtom,bF px.gList])) (q1 (fO cD) (qN ?_)))
 refine qS (qS (qR (q1 aE (q1 (a5 bK) (q1 (bD cX) (q1 (dL bL (aA.trs_len _)) (q1 S8 (qN ?_))))))))
 refine a8 H (fun h1 H=>?_) (fun h1 H=>?_)
 ·refine qW (q1 (gW cD nL) (q1 (bR eO) (qZ ?_)))
  cases aX H
  exact bE (hr:=⟨⟨_,_,_,rfl,rfl,bU,rfl,rfl⟩,trivial⟩)
 refine aR.skip (qW (q1 (a5 bK) (q1 (bD cX) (q1 aE (dK H fun z2 H=>(q1 (rIy z2 bL) (q1 (kM (aA.cs (aW px.gList ((pi).toNat))) bU) (q1 (bR eO) (qZ ?_)))))))))
 cases aX H
 exact bE (hr:=⟨⟨_,_,_,rfl,rfl,bU,rfl,rfl⟩,trivial⟩)
def aeT(m:aA→Option ((LB))):Prop:= ∀(px:aA) (r:(LB)),m px=some r→b4 Tryz.prog 243 [(aA.pv px)] (rS r:PV)
def mP(fu:Nat)(px:aA):Option ((LB)):=
 bd (zW fu px.gList) (fun(x2,x3)=>
 some x2)
theorem oH(fu:Nat):aeT (mP fu):=by
 intro px r H
 have H:=eE H
 refine qI func243 (fun C hC=>?_)
 refine qW (q1 (iM ([pS px.gAtom,bF px.gList])) (q1 aE (qN (qW (q1 (a5 bK) (q1 (bD cX) (fZ H fun x2 x3 z1 H=>(q1 (bG func218 (GH fu px.gList _ z1)) (q1 aE ?_)))))))))
 iterate 2 refine q1 AK ?_
 iterate 2 refine q1 aE ?_
 refine qN (qS (qR ?_))
 iterate 2 refine q1 aE ?_
 refine qN (aR.ret ?_)
 cases aX H
 exact bE
def ahN(m:aA→Int→Option ((List aA))):Prop:= ∀(px:aA) (pi:Int) (r:(List aA)),m px pi=some r→b4 Tryz.prog 244 [(aA.pv px),pI pi] (bF r:PV)
def vC(fu:Nat)(px:aA)(pi:Int):Option ((List aA)):=
 bd (qH fu pi (px.gList.length:Int)) (fun x2=>
 gd ((0:Int)≤x2∧(x2:Int)≤(px.gList.length:Int)∧(px.gList.length:Int)≤(px.gList.length:Int))
 (some (List.drop (x2:Int).toNat (List.take (px.gList.length:Int).toNat px.gList))))
theorem AT(fu:Nat):ahN (vC fu):=by
 intro px pi r H
 have H:=eE H
 refine qI func244 (fun C hC=>?_)
 refine qW (q1 (iM ([pS px.gAtom,bF px.gList])) (q1 aE (qN (qS (bI H fun x2 z1 H=>(dK H fun z3 H=>(dW (dI [2] (a5 bK) (dD [5] (bD cX) (dI [1] aE (dI [2] (a5 bK) (dD [8] (bD cX) ?_))))))))))))
 refine dI [9] (dL bL (aA.trs_len _)) (dI [7,10] (bG func261 (rH fu pi (px.gList.length:Int) _ z1)) ?_)
 refine dI [6,11] (a3.congrP (a3.sliceR (es:=aA.trs (px.gList)) (l:=x2) (k:=(px.gList.length:Int)) rfl rfl rfl rfl rfl (by rw [aA.trs_len];exact rfl) (by rw [aA.trs_len];exact z3) bL) (aA.trs_part _ _ _)) ?_;refine dI [12] aE (dN (aR.ret ?_))
 cases aX H
 exact bE
def alV(m:(List aA)→Option ((List aB))):Prop:= ∀(plist:List aA) (r:(List aB)),m plist=some r→b4 Tryz.prog 245 [bF plist] (a7 r:PV)
def ahO(fu:Nat)(plist:List aA):Nat→((List aB))→Option (LR ((List aB)) ((List aB))):=
 fun i1 v3=>bd (mS fu (aW plist i1)) (fun x7=>
 gd ((v3).length+(([x7]:List aB)).length≤68719476736)
 (some (.next (v3++([x7]:List aB)))))
def ahP(fu:Nat)(plist:List aA):Option (((List aB))⊕((List aB))):=
 loopN (ahO fu plist) (plist.length-0) 0 ([])
def G5(fu:Nat)(plist:List aA):Option ((List aB)):=
 so (ahP fu plist) (fun v3=>
 some v3)
theorem VK(fu:Nat):alV (G5 fu):=by
 intro plist r H
 have H:=eE H
 refine qI func245 (fun C hC=>?_)
 refine qW (q1 aE (qN (qW (q1 (uK ([]:List aB) eU jN) (q1 aE (qN ?_))))))
 refine qS (qS (qR (q1 aE (qN ?_))))
 refine lD 0 (aA.trs_len _) (fun hl4=>?_)
 refine b0 (σ:=(List aB)) (fun i1 v3=>⟨[(0,bF plist),(2,.nil),(3,jA v3 0),(4,pN i1)],⟨[],[⟨35,3,aB.trs (v3),false⟩]⟩⟩) (fun v3=>⟨[(2,.nil),(3,jA v3 0)],⟨[],[⟨35,3,aB.trs (v3),false⟩]⟩⟩) (fK H) ?_ ?_
 ·rintro i1 v3 H
  refine qS (qS (qR ?_))
  iterate 2 refine q1 aE ?_
  refine q1 (dL bL (aA.trs_len _)) (q1 gI (qN ?_))
  refine dG H (fun h5 h5l H=>?_) (fun h5 H=>?_)
  ·have h5n:=a4 h5
   refine aR.skip (qS (aR.block (qR ?_)))
   iterate 3 refine q1 aE ?_
   refine q1 (kP h5n bL) (q1 (kM (aA.cs (aW plist i1)) bU) (bI H fun x7 z6 H=>(q1 (bG func246 (wK fu (aW plist i1) _ z6)) (q1 (j9 ([x7]:List aB) eU jN) (dK H fun z8 H=>(q1 (nV z8 eU aoT) (q1 aE (qN (qR (q1 aE (q1 (rA (i1+1)) (q1 aE (qN ?_)))))))))))))
   exact iI h5l ⟨_,(aX H:),bW⟩
  refine aR.exit ?_;exact jJ ⟨_,H,bW⟩
 rintro v3 H
 refine qS (qR ?_)
 iterate 2 refine q1 aE ?_
 refine qN (aR.ret ?_)
 cases aX H
 exact bE
def aeW(m:(LB)→Option aA):Prop:= ∀(plist:LB) (r:aA),m plist=some r→b4 Tryz.prog 267 [rS plist] ((aA.pv r):PV)
def lO(fu:Nat)(plist:LB):Option aA:=
 bd (EE fu plist) (fun x2=>
 some (aA.mk s_ x2))
theorem mQ(fu:Nat):aeW (lO fu):=by
 intro plist r H
 have H:=eE H
 refine qI func267 (fun C hC=>?_)
 refine qW (q1 (fO cD) (qN (qW (q1 aE (bI H fun x2 z1 H=>(q1 (bG func280 (RH fu plist _ z1)) (q1 (gW cD nL) (q1 (bR eO) (qZ ?_)))))))))
 cases aX H
 exact bE (hr:=⟨⟨_,_,_,rfl,rfl,bU,rfl,rfl⟩,trivial⟩)
def aeU(m:(List aB)→Option ((List aA))):Prop:= ∀(plist:List aB) (r:(List aA)),m plist=some r→b4 Tryz.prog 268 [a7 plist] (bF r:PV)
def aaO(fu:Nat)(plist:List aB):Nat→((List aA))→Option (LR ((List aA)) ((List aA))):=
 fun i1 v3=>bd (mR fu (aW plist i1)) (fun x7=>
 gd ((v3).length+(([x7]:List aA)).length≤68719476736)
 (some (.next (v3++([x7]:List aA)))))
def aaP(fu:Nat)(plist:List aB):Option (((List aA))⊕((List aA))):=
 loopN (aaO fu plist) (plist.length-0) 0 ([])
def AU(fu:Nat)(plist:List aB):Option ((List aA)):=
 so (aaP fu plist) (fun v3=>
 some v3)
theorem NE(fu:Nat):aeU (AU fu):=by
 intro plist r H
 have H:=eE H
 refine qI func268 (fun C hC=>?_)
 refine qW (q1 aE (qN (qW (q1 (uK ([]:List aA) bL cD) (q1 aE (qN ?_))))))
 refine qS (qS (qR (q1 aE (qN ?_))))
 refine lD 0 (aB.trs_len _) (fun hl4=>?_)
 refine b0 (σ:=(List aA)) (fun i1 v3=>⟨[(0,a7 plist),(2,.nil),(3,eH v3 0),(4,pN i1)],⟨[],[⟨237,2,aA.trs (v3),false⟩]⟩⟩) (fun v3=>⟨[(2,.nil),(3,eH v3 0)],⟨[],[⟨237,2,aA.trs (v3),false⟩]⟩⟩) (fK H) ?_ ?_
 ·rintro i1 v3 H
  refine qS (qS (qR ?_))
  iterate 2 refine q1 aE ?_
  refine q1 (dL eU (aB.trs_len _)) (q1 gI (qN ?_))
  refine dG H (fun h5 h5l H=>?_) (fun h5 H=>?_)
  ·have h5n:=a4 h5
   refine aR.skip (qS (aR.block (qR ?_)))
   iterate 3 refine q1 aE ?_
   refine q1 (kP h5n eU) (q1 (kM (aB.cs (aW plist i1)) cU) (bI H fun x7 z6 H=>(q1 (bG func269 (wJ fu (aW plist i1) _ z6)) (q1 (j9 ([x7]:List aA) bL cD) (dK H fun z8 H=>(q1 (nV z8 bL rO) (q1 aE (qN (qR (q1 aE (q1 (rA (i1+1)) (q1 aE (qN ?_)))))))))))))
   exact iI h5l ⟨_,(aX H:),bW⟩
  refine aR.exit ?_;exact jJ ⟨_,H,bW⟩
 rintro v3 H
 refine qS (qR ?_)
 iterate 2 refine q1 aE ?_
 refine qN (aR.ret ?_)
 cases aX H
 exact bE
def an8(m:Bool→aA→Option aA):Prop:= ∀(pok:Bool) (px:aA) (r:aA),m pok px=some r→b4 Tryz.prog 271 [pB pok,(aA.pv px)] ((aA.pv r):PV)
def CR(fu:Nat)(pok:Bool)(px:aA):Option aA:=
 sw (!(pok))
 (some (aA.mk s_ []))
 (bd (iP fu px) (fun x3=>
 sw (!(x3))
 (some (aA.mk s_ []))
 (some px)))
theorem G4(fu:Nat):an8 (CR fu):=by
 intro pok px r H
 have H:=eE H
 refine qI func271 (fun C hC=>?_)
 refine qW (q1 (iM ([pS px.gAtom,bF px.gList])) (q1 (fO cD) (qN ?_)))
 refine qS (qS (qR (q1 aE (q1 hQ (q1 aE ?_)))))
 refine eF 7 H (fun g1 H=>?_) fun g1 H=>?_
 ·refine qk g1 ?_
  iterate 2 refine qk g1 ?_
  refine q1 (bV g1) (qN (eL rfl (qW (q1 (gW cD nL) (q1 (bR eO) (qZ ?_))))))
  cases aX H
  exact bE (hr:=⟨⟨_,_,_,rfl,rfl,bU,rfl,rfl⟩,trivial⟩)
 refine qg g1 (cJ [pS px.gAtom,bF px.gList] bU) (bI H fun x3 z2 H=>(qg g1 (bG func217 (c7 fu px _ z2)) (qg g1 hQ (q1 (b9 g1) (qN ?_)))))
 refine a8 H (fun h4 H=>?_) (fun h4 H=>?_)
 ·refine qW (q1 (gW cD nL) (q1 (bR eO) (qZ ?_)))
  cases aX H
  exact bE (hr:=⟨⟨_,_,_,rfl,rfl,bU,rfl,rfl⟩,trivial⟩)
 refine aR.skip (qW (q1 (cJ [pS px.gAtom,bF px.gList] bU) (q1 (bR eO) (qZ ?_))))
 cases aX H
 exact bE (hr:=⟨⟨_,_,_,rfl,rfl,bU,rfl,rfl⟩,trivial⟩)
def SR(m:aP→Option aA):Prop:= ∀(pa0:aP) (r:aA),m pa0=some r→b4 Tryz.prog 249 [(aP.pv pa0)] ((aA.pv r):PV)
def PU(fu:Nat)(pa0:aP)(x2:Bool):Option (aA⊕((LB))):=
 sw (pa0.gAuto)
 (gd (([]:LB).length+(([zP]:LB)).length≤68719476736)
 (some (.inr (([])++([zP]:LB)))))
 (some (.inr ([])))
def PW(fu:Nat)(pa0:aP)(x2:Bool)(v5:LB):Option (aA⊕((LB))):=
 sw (pa0.gAssoc)
 (gd ((v5).length+(([fX]:LB)).length≤68719476736)
 (some (.inr (v5++([fX]:LB)))))
 (some (.inr v5))
def PX(fu:Nat)(pa0:aP)(x2:Bool)(v5 v9:LB)(x13 x15 x17 x19 x21:aA):Nat→((List aA))→Option (LR ((List aA)) aA):=
 fun i22 v24=>lt (aW pa0.gSignatures i22) (fun y27=>
 bd (cF fu y27.gName) (fun x30=>
 bd (AU fu y27.gParams) (fun x32=>
 bd (mR fu y27.gResult) (fun x34=>
 bd (mE fu ([x30,(aA.mk s_ x32),x34]:List aA)) (fun x36=>
 sw (y27.gHasDefault)
 (bd (lO fu y27.gVars) (fun x39=>
 bd (mO fu y27.gBody) (fun x41=>
 gd ((x36.gList).length+(([x39,x41]:List aA)).length≤68719476736)
 (gd ((v24).length+(([(aA.mk x36.gAtom (x36.gList++([x39,x41]:List aA)))]:List aA)).length≤68719476736)
 (some (.next (v24++([(aA.mk x36.gAtom (x36.gList++([x39,x41]:List aA)))]:List aA))))))))
 (gd ((v24).length+(([(aA.mk x36.gAtom x36.gList)]:List aA)).length≤68719476736)
 (some (.next (v24++([(aA.mk x36.gAtom x36.gList)]:List aA))))))))))
def PY(fu:Nat)(pa0:aP)(x2:Bool)(v5 v9:LB)(x13 x15 x17 x19 x21:aA):Option (aA⊕((List aA))):=
 loopN (PX fu pa0 x2 v5 v9 x13 x15 x17 x19 x21) (pa0.gSignatures.length-0) 0 x21.gList
def w6(fu:Nat)(pa0:aP):Option aA:=
 bd (sP fu pa0) (fun x2=>
 sw (!(x2))
 (some (aA.mk s_ []))
 (so (PU fu pa0 x2) (fun v5=>
 so (PW fu pa0 x2 v5) (fun v9=>
 bd (cF fu G2) (fun x13=>
 bd (cF fu pa0.gName) (fun x15=>
 bd (lO fu pa0.gSupertraits) (fun x17=>
 bd (lO fu v9) (fun x19=>
 bd (mE fu ([x13,x15,x17,x19]:List aA)) (fun x21=>
 so (PY fu pa0 x2 v5 v9 x13 x15 x17 x19 x21) (fun v24=>
 bd (CR fu true (aA.mk x21.gAtom v24)) (fun x46=>
 some x46)))))))))))
theorem PZ(fu:Nat):SR (w6 fu):=by
 intro pa0 r H
 have H:=eE H
 refine qI func249 (fun C hC=>?_)
 refine qW (q1 (iM (nH pa0)) (q1 (fO cD) (qN ?_)))
 refine qS (qS (qR (q1 (cJ [pS pa0.gName,rS pa0.gSupertraits,pB pa0.gAuto,pB pa0.gAssoc,c4 pa0.gSignatures] l9) (bI H fun x2 z1 H=>(q1 (bG func256 (CK fu pa0 _ z1)) (q1 hQ (qN ?_)))))))
 refine a8 H (fun h3 H=>?_) (fun h3 H=>?_)
 ·refine qW (q1 (gW cD nL) (q1 (bR eO) (qZ ?_)))
  cases aX H
  exact bE (hr:=⟨⟨_,_,_,rfl,rfl,bU,rfl,rfl⟩,trivial⟩)
 refine aR.skip (qW (q1 (uK ([]:LB) b3 lU) (q1 aE (qN (qS ?_)))))
 refine rR (σ:=(LB)) (fun v5=>⟨[(1,.ptr 0 0),(2,.ptr 1 0),(3,aS v5 0)],⟨[some ⟨60,nH pa0⟩,some ⟨237,[pS s_,.nil]⟩],[⟨9,1,aZ (v5),false⟩]⟩⟩) (fK H) (fun H=>?_) ?_
 ·refine qW (q1 (a5 agI) (q1 (bD Z3) (qN ?_)))
  refine a8 H (fun h6 H=>?_) (fun h6 H=>?_)
  ·refine qR (q1 aE (q1 (j9 ([zP]:LB) b3 lU) (dK H fun z7 H=>(q1 (nV z7 b3 tR) (q1 aE (qN ?_))))))
   exact dY ⟨_,(aX H:),bW⟩
  refine aR.skip ?_;exact dY ⟨_,(aX H:),bW⟩
 rintro v5 H
 refine qS ?_;refine rR (σ:=(LB)) (fun v9=>⟨[(1,.ptr 0 0),(2,.ptr 1 0),(3,aS v9 0)],⟨[some ⟨60,nH pa0⟩,some ⟨237,[pS s_,.nil]⟩],[⟨9,1,aZ (v9),false⟩]⟩⟩) (fK H) (fun H=>?_) ?_
 ·refine qW (q1 (a5 OG) (q1 (bD Z3) (qN ?_)))
  refine a8 H (fun h10 H=>?_) (fun h10 H=>?_)
  ·refine qR (q1 aE (q1 (j9 ([fX]:LB) b3 lU) (dK H fun z11 H=>(q1 (nV z11 b3 tR) (q1 aE (qN ?_))))))
   exact dY ⟨_,(aX H:),bW⟩
  refine aR.skip ?_;exact dY ⟨_,(aX H:),bW⟩
 rintro v9 H
 refine qS (bI H fun x13 z12 H=>(bI H fun x15 z14 H=>(bI H fun x17 z16 H=>(bI H fun x19 z18 H=>(bI H fun x21 z20 H=>(dWa (dI [] (bG func266 (b8 fu G2 _ z12)) (dI [1] (a5 C8) (dBz [24] 0 0 (wL eJ) (dI [25] (bG func266 (b8 fu pa0.gName _ z14)) (dI [1] (a5 C9) (dBz [27] 0 0 (wL kZ) (dI [28] (bG func267 (mQ fu pa0.gSupertraits _ z16)) ?_)))))))))))))
 refine dI [3] aE (dI [30] (bG func267 (mQ fu v9 _ z18)) (dI [23,26,29,31] (j9 ([x13,x15,x17,x19]:List aA) bL cD) ?_))
 refine dEz [32] (fun _ z=>by cases z<;>exact a3.callOwn (pre:=⟨[],[]⟩) (B:= []) (R:=fun k=> .agg [pS x21.gAtom,eH x21.gList k]) (ps:= [_]) (qs:= [bF ([x13,x15,x17,x19]:List aA)]) [] rfl rfl func265 (by kernel_rfl) rfl rfl rfl (gA.of trivial trivial (by decide) (by decide)) rfl iX rfl rfl rfl (fun k k'=>(.agg (.cons (.free _ rfl) (.cons Mv.acc CU.nil)))) (m8 fu ([x13,x15,x17,x19]:List aA) _ z20)) ?_;refine dA (fun _ st h=>vAl h cD) (dZ 4 [4,33] (bR eO) (dN ?_))
 refine qS (qS (qR (q1 aE (qN ?_))))
 refine aR.fact (b5 0 4 rfl rfl rfl (aC.trs_len _)) (fun hl25=>?_)
 refine b0 (σ:=(List aA)) (fun i22 v24=>⟨[(1,.ptr 0 0),(2,.ptr 1 0),(4,.ptr 2 0),(5,pN i22)],⟨[some ⟨60,nH pa0⟩,some ⟨237,[pS s_,.nil]⟩,some ⟨237,[pS x21.gAtom,eH v24 1]⟩],[⟨9,1,aZ (v9),false⟩,⟨237,2,aA.trs (v24),false⟩]⟩⟩) (fun v24=>⟨[(2,.ptr 1 0),(4,.ptr 2 0)],⟨[some ⟨60,nH pa0⟩,some ⟨237,[pS s_,.nil]⟩,some ⟨237,[pS x21.gAtom,eH v24 1]⟩],[⟨9,1,aZ (v9),false⟩,⟨237,2,aA.trs (v24),false⟩]⟩⟩) (fK H) ?_ ?_
 ·rintro i22 v24 H
  refine qS (qS (qR (q1 aE (q1 (a5 iV) (q1 (bD w9) (q1 (dL pT (aC.trs_len _)) (q1 gI (qN ?_))))))))
  refine dG H (fun h26 h26l H=>?_) (fun h26 H=>?_)
  ·have h26n:=a4 h26
   refine aR.skip (qS (aR.block (qW (q1 (a5 iV) (q1 (bD w9) (q1 aE (fP H fun y27 h28 H=>(q1 (m9 h28 h26n pT) (q1 (kM (aC.cs y27) CP) (q1 (fO sI) (q1 (bR NM) (qN ?_))))))))))))
   refine qS (bI H fun x30 z29 H=>(bI H fun x32 z31 H=>(bI H fun x34 z33 H=>(bI H fun x36 z35 H=>(dWa (dI [6] (a5 L1) (dBz [46] 0 0 (wL eJ) (dI [47] (bG func266 (b8 fu y27.gName _ z29)) (dI [6] (a5 xP) (dBz [49] 0 0 (wL kY) (dI [50] (bG func268 (NE fu y27.gParams _ z31)) (dI [51] (gW cD nL) (dI [6] (a5 GS) ?_)))))))))))))
   refine dBz [53] 0 0 (NU [pI y27.gResult.gKind,pS y27.gResult.gName,a7 y27.gResult.gArgs] cU) (dI [54] (bG func269 (wJ fu y27.gResult _ z33)) (dI [48,52,55] (j9 ([x30,(aA.mk s_ x32),x34]:List aA) bL cD) ?_))
   refine dEz [56] (fun _ z=>by cases z<;>exact a3.callOwn (pre:=⟨[],[]⟩) (B:= []) (R:=fun k=> .agg [pS x36.gAtom,eH x36.gList k]) (ps:= [_]) (qs:= [bF ([x30,(aA.mk s_ x32),x34]:List aA)]) [] rfl rfl func265 (by kernel_rfl) rfl rfl rfl (gA.of trivial trivial (by decide) (by decide)) rfl iX rfl rfl rfl (fun k k'=>(.agg (.cons (.free _ rfl) (.cons Mv.acc CU.nil)))) (m8 fu ([x30,(aA.mk s_ x32),x34]:List aA) _ z35)) ?_;refine dA (fun _ st h=>vAl h cD) (dZ 7 [7,57] (bR eO) (dN ?_))
   refine qS (qS (qR (q1 (a5 L2) (q1 (bD Z3) (qN ?_)))))
   refine a8 H (fun h37 H=>?_) (fun h37 H=>?_)
   ·refine bI H fun x39 z38 H=>(bI H fun x41 z40 H=>(dK H fun z42 H=>(dW (dI [7] (a5 bK) (dD [60] (bD cX) (dI [6] (a5 GT) (dD [62] (bD kZ) (dI [63] (bG func267 (mQ fu y27.gVars _ z38)) (dI [6] (a5 S2) (dD [65] (cJ [pI y27.gBody.gKind,pS y27.gBody.gTrait,pS y27.gBody.gName,pI y27.gBody.gN,pI y27.gBody.gType.gKind,pS y27.gBody.gType.gName,a7 y27.gBody.gType.gArgs,eB y27.gBody.gArgs,g0 y27.gBody.gArms] fE) (dI [66] (bG func270 (P7 fu y27.gBody _ z40)) (dI [64,67] (j9 ([x39,x41]:List aA) bL cD) (dE [61,68] (nV z42 bL rO) ?_)))))))))))))
    refine dI [7] (a5 bK) (lH [70,69] (bR AZ) (dN (qR (q1 (a5 bK) (q1 (bD cX) (q1 (cJ [pS x36.gAtom,eH (x36.gList++([x39,x41]:List aA)) 2] bU) (q1 (j9 ([(aA.mk x36.gAtom (x36.gList++([x39,x41]:List aA)))]:List aA) bL cD) (dK H fun z43 H=>(q1 (nV z43 bL rO) (q1 (a5 bK) (q1 (bR AZ) (qN (qR ?_)))))))))))))
    refine q1 aE (q1 (rA (i22+1)) (q1 aE (qN ?_)))
    exact iI h26l ⟨_,(aX H:),bW⟩
   refine aR.skip (qR (q1 (a5 bK) (q1 (bD cX) (q1 (cJ [pS x36.gAtom,eH x36.gList 2] bU) (q1 (j9 ([(aA.mk x36.gAtom x36.gList)]:List aA) bL cD) (dK H fun z44 H=>(q1 (nV z44 bL rO) (q1 (a5 bK) (q1 (bR AZ) (qN (qR (q1 aE (q1 (rA (i22+1)) ?_)))))))))))))
   refine q1 aE (qN ?_)
   exact iI h26l ⟨_,(aX H:),bW⟩
  refine aR.exit ?_;exact jJ ⟨_,H,bW⟩
 rintro v24 H
 refine qW (q1 (cJ [pS x21.gAtom,eH v24 1] bU) (bI H fun x46 z45 H=>(q1 (bG func271 (G4 fu true (aA.mk x21.gAtom v24) _ z45)) (q1 (bR eO) (qZ ?_)))))
 cases aX H
 exact bE (hr:=⟨⟨_,_,_,rfl,rfl,bU,rfl,rfl⟩,trivial⟩)
def SQ(m:aA→Option (aP×Bool)):Prop:= ∀(pa0:aA) (r:aP×Bool),m pa0=some r→b4 Tryz.prog 230 [(aA.pv pa0)] (.tup [(aP.pv r.1),pB r.2]:PV)
def PQ(fu:Nat)(pa0 x2:aA)(x4:LB)(x6 x8:aA)(x10:LB)(x12 x14:Bool)(x16:List aA):Nat→((List aC))→Option (LR ((List aC)) (aP×Bool)):=
 fun i17 v19=>bd (dJ fu (aW x16 i17) 0) (fun x23=>
 bd (dJ fu (aW x16 i17) 1) (fun x25=>
 bd (G5 fu x25.gList) (fun x27=>
 bd (dJ fu (aW x16 i17) 2) (fun x29=>
 bd (mS fu x29) (fun x31=>
 sw (decide ((((((aW x16 i17).gList).length:Nat):Int):Int)>3))
 (bd (dJ fu (aW x16 i17) 3) (fun x34=>
 bd (mP fu x34) (fun x36=>
 bd (dJ fu (aW x16 i17) 4) (fun x38=>
 bd (iA fu x38) (fun x40=>
 gd ((v19).length+(([(aC.mk x23.gAtom x27 x31 true x36 x40)]:List aC)).length≤68719476736)
 (some (.next (v19++([(aC.mk x23.gAtom x27 x31 true x36 x40)]:List aC)))))))))
 (gd ((v19).length+(([(aC.mk x23.gAtom x27 x31 false [] (aG.mk 0 s_ s_ 0 (aB.mk 0 s_ []) [] []))]:List aC)).length≤68719476736)
 (some (.next (v19++([(aC.mk x23.gAtom x27 x31 false [] (aG.mk 0 s_ s_ 0 (aB.mk 0 s_ []) [] []))]:List aC))))))))))
def PR(fu:Nat)(pa0 x2:aA)(x4:LB)(x6 x8:aA)(x10:LB)(x12 x14:Bool)(x16:List aA):Option ((aP×Bool)⊕((List aC))):=
 loopN (PQ fu pa0 x2 x4 x6 x8 x10 x12 x14 x16) (x16.length-0) 0 ([])
def w5(fu:Nat)(pa0:aA):Option (aP×Bool):=
 bd (dJ fu pa0 3) (fun x2=>
 bd (mP fu x2) (fun x4=>
 bd (dJ fu pa0 1) (fun x6=>
 bd (dJ fu pa0 2) (fun x8=>
 bd (mP fu x8) (fun x10=>
 bd (nQ fu x4 zP) (fun x12=>
 bd (nQ fu x4 fX) (fun x14=>
 bd (vC fu pa0 4) (fun x16=>
 so (PR fu pa0 x2 x4 x6 x8 x10 x12 x14 x16) (fun v19=>
 bd (iP fu pa0) (fun x44=>
 sw (!(x44))
 (some ((aP.mk s_ [] false false []),false))
 (sw (decide ((pa0.gList.length:Int)=0))
 (some ((aP.mk s_ [] false false []),false))
 (bd (w6 fu (aP.mk x6.gAtom x10 x12 x14 v19)) (fun x48=>
 bd (f7 fu x48 pa0) (fun x50=>
 sw (!(x50))
 (some ((aP.mk s_ [] false false []),false))
 (some ((aP.mk x6.gAtom x10 x12 x14 v19),true))))))))))))))))
theorem PT(fu:Nat):SQ (w5 fu):=by
 intro pa0 r H
 have H:=eE H
 refine qI func230 (fun C hC=>?_)
 refine qW (q1 (iM ([pS pa0.gAtom,bF pa0.gList])) (q1 (fO r3) (q1 aE (qN (qW (q1 (cJ [pS pa0.gAtom,bF pa0.gList] bU) (bI H fun x2 z1 H=>(q1 (bG func219 (cY fu pa0 3 _ z1)) (bI H fun x4 z3 H=>(q1 (bG func243 (oH fu x2 _ z3)) (q1 aE ?_)))))))))))
 refine qN (qS (bI H fun x6 z5 H=>(bI H fun x8 z7 H=>(bI H fun x10 z9 H=>(bI H fun x12 z11 H=>(bI H fun x14 z13 H=>(dW (dB [1] 0 1 (NU [pS pa0.gAtom,bF pa0.gList] bU) (dI [12] (bG func219 (cY fu pa0 1 _ z5)) (dI [13] (rF1 tX) (dB [1] 0 1 (NU [pS pa0.gAtom,bF pa0.gList] bU) (dI [15] (bG func219 (cY fu pa0 2 _ z7)) (dI [16] (bG func243 (oH fu x8 _ z9)) ?_)))))))))))))
 refine dI [4] aE (dI [18] (bG func125 (nR fu x4 zP _ z11)) (dI [4] aE (dI [20] (bG func125 (nR fu x4 fX _ z13)) (dI [14,17,19,21] (gW r3 ZS) (dE [] (fO r3) (lH [5,22] (bR pL) (dN (qW (q1 (cJ [pS pa0.gAtom,bF pa0.gList] bU) (bI H fun x16 z15 H=>(q1 (bG func244 (AT fu pa0 4 _ z15)) (q1 aE ?_))))))))))))
 refine qN ?_
 refine qS (qS (qR (q1 aE (qN (aR.wk (Wk.regBox (k:=2) (j:=4) 164 16 (by decide) rfl rfl) ?_)))))
 refine lD 6 (aA.trs_len _) (fun hl20=>?_)
 refine b0 (σ:=(List aC)) (fun i17 v19=>⟨[(1,.ptr 0 0),(2,.ptr 1 0),(3,pB false),(5,.ptr 2 0),(6,bF x16),(7,pN i17)],⟨[some ⟨237,[pS pa0.gAtom,bF pa0.gList]⟩,some ⟨60,[pS s_,.nil,pB false,pB false,.nil]⟩,some ⟨60,[pS x6.gAtom,rS x10,pB x12,pB x14,lV v19 0]⟩],[⟨164,16,aC.trs (v19),false⟩]⟩⟩) (fun v19=>⟨[(1,.ptr 0 0),(2,.ptr 1 0),(3,pB false),(5,.ptr 2 0)],⟨[some ⟨237,[pS pa0.gAtom,bF pa0.gList]⟩,some ⟨60,[pS s_,.nil,pB false,pB false,.nil]⟩,some ⟨60,[pS x6.gAtom,rS x10,pB x12,pB x14,lV v19 0]⟩],[⟨164,16,aC.trs (v19),false⟩]⟩⟩) (fK H) ?_ ?_
 ·rintro i17 v19 H
  refine qS (qS (qR ?_))
  iterate 2 refine q1 aE ?_
  refine q1 (dL bL (aA.trs_len _)) (q1 gI (qN ?_))
  refine dG H (fun h21 h21l H=>?_) (fun h21 H=>?_)
  ·have h21n:=a4 h21
   refine aR.skip (qS (aR.block (qS (bI H fun x23 z22 H=>(bI H fun x25 z24 H=>(bI H fun x27 z26 H=>(bI H fun x29 z28 H=>(bI H fun x31 z30 H=>(dW (dI [6] aE (dI [7] aE (dI [31,32] (kP h21n bL) (dI [33] (kM (aA.cs (aW x16 i17)) bU) ?_)))))))))))))
   refine dI [34] (bG func219 (cY fu (aW x16 i17) 0 _ z22)) (dI [35] (rF1 tX) (dI [6] aE (dI [7] aE (dI [37,38] (kP h21n bL) (dI [39] (kM (aA.cs (aW x16 i17)) bU) (dI [40] (bG func219 (cY fu (aW x16 i17) 1 _ z24)) (dI [41] (rF1 ZC) (dI [42] (bG func245 (VK fu x25.gList _ z26)) (dI [6] aE (dI [7] aE (dI [44,45] (kP h21n bL) (dI [46] (kM (aA.cs (aW x16 i17)) bU) (dI [47] (bG func219 (cY fu (aW x16 i17) 2 _ z28)) ?_)))))))))))))
   refine dI [48] (bG func246 (wK fu x29 _ z30)) (dI [36,43,49] (gW sI YC) (dE [] (fO sI) (lH [8,50] (bR NM) (dN ?_))))
   refine qS (qS (qR ?_))
   iterate 2 refine q1 aE ?_
   refine q1 (kP h21n bL) (q1 (lR bK) (q1 (kQ cX) (q1 (dL bL (aA.trs_len _)) (q1 KL (qN ?_)))))
   refine a8 H (fun h32 H=>?_) (fun h32 H=>?_)
   ·refine qW (q1 (a5 L2) (q1 (bR sz4) (qN (qS (qR ?_)))))
    iterate 2 refine q1 aE ?_
    refine q1 (kP h21n bL) (q1 (kM (aA.cs (aW x16 i17)) bU) (bI H fun x34 z33 H=>(q1 (bG func219 (cY fu (aW x16 i17) 3 _ z33)) (bI H fun x36 z35 H=>(q1 (bG func243 (oH fu x34 _ z35)) (q1 (a5 GT) (q1 (bR SU) (qN (qR ?_)))))))))
    iterate 2 refine q1 aE ?_
    refine q1 (kP h21n bL) (q1 (kM (aA.cs (aW x16 i17)) bU) (bI H fun x38 z37 H=>(q1 (bG func219 (cY fu (aW x16 i17) 4 _ z37)) (bI H fun x40 z39 H=>(q1 (bG func247 (F3 fu x38 _ z39)) (q1 (a5 S2) (q1 (bR nA) (qN (qR (q1 (a5 iV) (q1 (bD w9) (q1 (cJ [pS x23.gAtom,a7 x27,pI x31.gKind,pS x31.gName,a7 x31.gArgs,pB true,rS x36,pI x40.gKind,pS x40.gTrait,pS x40.gName,pI x40.gN,pI x40.gType.gKind,pS x40.gType.gName,a7 x40.gType.gArgs,eB x40.gArgs,g0 x40.gArms] CP) (q1 (j9 ([(aC.mk x23.gAtom x27 x31 true x36 x40)]:List aC) pT sI) ?_)))))))))))))
    refine dK H fun z41 H=>(q1 (nV z41 pT aoU) (q1 (a5 iV) (q1 (bR aoN) (qN (qR (q1 aE (q1 (rA (i17+1)) (q1 aE (qN ?_)))))))))
    exact iI h21l ⟨_,(aX H:),bW⟩
   refine aR.skip (qR (q1 (a5 iV) (q1 (bD w9) (q1 (cJ [pS x23.gAtom,a7 x27,pI x31.gKind,pS x31.gName,a7 x31.gArgs,pB false,.nil,pI 0,pS s_,pS s_,pI 0,pI 0,pS s_,.nil,.nil,.nil] CP) (q1 (j9 ([(aC.mk x23.gAtom x27 x31 false [] (aG.mk 0 s_ s_ 0 (aB.mk 0 s_ []) [] []))]:List aC) pT sI) (dK H fun z42 H=>(q1 (nV z42 pT aoU) (q1 (a5 iV) (q1 (bR aoN) (qN (qR (q1 aE (q1 (rA (i17+1)) ?_)))))))))))))
   refine q1 aE (qN ?_)
   exact iI h21l ⟨_,(aX H:),bW⟩
  refine aR.exit ?_;exact jJ ⟨_,H,bW⟩
 rintro v19 H
 iterate 2 refine qS ?_
 refine bI H fun x44 z43 H=>?_
 rcases mA (!(x44)) with g45|g45
 ·have H:=sE H g45
  refine dW (dD [1] (cJ [pS pa0.gAtom,bF pa0.gList] bU) (dI [79] (bG func217 (c7 fu pa0 _ z43)) (dI [80] hQ (dI [81] aE ?_))))
  iterate 4 refine FE g45 ?_
  refine dI [82] (bV g45) (dI [87] aE ?_)
  iterate 5 refine FE rfl ?_
  refine dI [88] (bV rfl) (dN (eL rfl (qW (q1 (gW r3 ZS) (q1 (bR pL) (q1 aE (qZ ?_)))))))
  cases aX H
  exact tT (hr:=⟨⟨_,_,_,rfl,rfl,l9,rfl,rfl⟩,rfl,trivial⟩)
 have H:=sD H g45
 rcases mA (decide ((pa0.gList.length:Int)=0)) with g46|g46
 ·have H:=sE H g46
  refine dW (dD [1] (cJ [pS pa0.gAtom,bF pa0.gList] bU) (dI [79] (bG func217 (c7 fu pa0 _ z43)) (dI [80] hQ (dI [81] aE (dI (hg:=a6 g45) [1] (a5 bK) (dD (hg:=a6 g45) [83] (bD cX) (dI (hg:=a6 g45) [84] (dL bL (aA.trs_len _)) (dI (hg:=a6 g45) [85] dM (dI [82,86] (b9 g45) (dI [87] aE ?_))))))))))
  iterate 5 refine FE g46 ?_
  refine dI [88] (bV g46) (dN (eL rfl (qW (q1 (gW r3 ZS) (q1 (bR pL) (q1 aE (qZ ?_)))))))
  cases aX H
  exact tT (hr:=⟨⟨_,_,_,rfl,rfl,l9,rfl,rfl⟩,rfl,trivial⟩)
 have H:=sD H g46
 refine bI H fun x48 z47 H=>(bI H fun x50 z49 H=>(dW (dD [1] (cJ [pS pa0.gAtom,bF pa0.gList] bU) (dI [79] (bG func217 (c7 fu pa0 _ z43)) (dI [80] hQ (dI [81] aE (dI (hg:=a6 g45) [1] (a5 bK) (dD (hg:=a6 g45) [83] (bD cX) (dI (hg:=a6 g45) [84] (dL bL (aA.trs_len _)) (dI (hg:=a6 g45) [85] dM (dI [82,86] (b9 g45) (dI [87] aE (dD (hg:=a6 g46) [5] (cJ [pS x6.gAtom,rS x10,pB x12,pB x14,lV v19 0] l9) ?_)))))))))))))
 refine dI (hg:=a6 g46) [89] (bG func249 (PZ fu (aP.mk x6.gAtom x10 x12 x14 v19) _ z47)) (dD (hg:=a6 g46) [1] (cJ [pS pa0.gAtom,bF pa0.gList] bU) (dI (hg:=a6 g46) [90,91] (bG func248 (uC fu x48 pa0 _ z49)) (dI (hg:=a6 g46) [92] hQ (dI [88,93] (b9 g46) (dN ?_)))))
 refine a8 H (fun h51 H=>?_) (fun h51 H=>?_)
 ·refine qW (q1 (gW r3 ZS) (q1 (bR pL) (q1 aE (qZ ?_))))
  cases aX H
  exact tT (hr:=⟨⟨_,_,_,rfl,rfl,l9,rfl,rfl⟩,rfl,trivial⟩)
 refine aR.skip (qW (q1 (cJ [pS x6.gAtom,rS x10,pB x12,pB x14,lV v19 0] l9) (q1 (bR pL) (q1 aE (qZ ?_)))))
 cases aX H
 exact tT (hr:=⟨⟨_,_,_,rfl,rfl,l9,rfl,rfl⟩,rfl,trivial⟩)
def KM(m:aH→Option aA):Prop:= ∀(pd:aH) (r:aA),m pd=some r→b4 Tryz.prog 250 [(aH.pv pd)] ((aA.pv r):PV)
def HS(fu:Nat)(pd:aH)(x2 x4 x6 x8:aA):Nat→((List aA))→Option (LR ((List aA)) aA):=
 fun i9 v11=>bd (cF fu ((aW pd.gConstructors i9).gName)) (fun x15=>
 bd (AU fu ((aW pd.gConstructors i9).gFields)) (fun x17=>
 gd ((([x15]:List aA)).length+(x17).length≤68719476736)
 (gd ((v11).length+(([(aA.mk s_ (([x15]:List aA)++x17))]:List aA)).length≤68719476736)
 (some (.next (v11++([(aA.mk s_ (([x15]:List aA)++x17))]:List aA)))))))
def HT(fu:Nat)(pd:aH)(x2 x4 x6 x8:aA):Option (aA⊕((List aA))):=
 loopN (HS fu pd x2 x4 x6 x8) (pd.gConstructors.length-0) 0 x8.gList
def s5(fu:Nat)(pd:aH):Option aA:=
 bd (cF fu P3) (fun x2=>
 bd (cF fu pd.gName) (fun x4=>
 bd (lO fu pd.gVars) (fun x6=>
 bd (mE fu ([x2,x4,x6]:List aA)) (fun x8=>
 so (HT fu pd x2 x4 x6 x8) (fun v11=>
 bd (n4 fu pd) (fun x21=>
 bd (CR fu x21 (aA.mk x8.gAtom v11)) (fun x23=>
 some x23)))))))
theorem HU(fu:Nat):KM (s5 fu):=by
 intro pd r H
 have H:=eE H
 refine qI func250 (fun C hC=>?_)
 refine qW (q1 (iM (gK pd)) (q1 (fO cD) (qN (qS (bI H fun x2 z1 H=>(bI H fun x4 z3 H=>(bI H fun x6 z5 H=>(bI H fun x8 z7 H=>(dWa (dI [] (bG func266 (b8 fu P3 _ z1)) (dI [1] (a5 C5) (dBz [6] 0 0 (wL eJ) ?_))))))))))))
 refine dI [7] (bG func266 (b8 fu pd.gName _ z3)) (dI [1] (a5 C6) (dBz [9] 0 0 (wL kZ) (dI [10] (bG func267 (mQ fu pd.gVars _ z5)) (dI [5,8,11] (j9 ([x2,x4,x6]:List aA) bL cD) ?_))))
 refine dEz [12] (fun _ z=>by cases z<;>exact a3.callOwn (pre:=⟨[],[]⟩) (B:= []) (R:=fun k=> .agg [pS x8.gAtom,eH x8.gList k]) (ps:= [_]) (qs:= [bF ([x2,x4,x6]:List aA)]) [] rfl rfl func265 (by kernel_rfl) rfl rfl rfl (gA.of trivial trivial (by decide) (by decide)) rfl iX rfl rfl rfl (fun k k'=>(.agg (.cons (.free _ rfl) (.cons Mv.acc CU.nil)))) (m8 fu ([x2,x4,x6]:List aA) _ z7)) ?_;refine dA (fun _ st h=>vAl h cD) (dZ 3 [3,13] (bR eO) (dN ?_))
 refine qS (qS (qR (q1 aE (qN ?_))))
 refine aR.fact (b5 0 2 rfl rfl rfl (aD.trs_len _)) (fun hl12=>?_)
 refine b0 (σ:=(List aA)) (fun i9 v11=>⟨[(1,.ptr 0 0),(2,.ptr 1 0),(3,.ptr 2 0),(4,pN i9)],⟨[some ⟨116,gK pd⟩,some ⟨237,[pS s_,.nil]⟩,some ⟨237,[pS x8.gAtom,eH v11 0]⟩],[⟨237,2,aA.trs (v11),false⟩]⟩⟩) (fun v11=>⟨[(1,.ptr 0 0),(2,.ptr 1 0),(3,.ptr 2 0)],⟨[some ⟨116,gK pd⟩,some ⟨237,[pS s_,.nil]⟩,some ⟨237,[pS x8.gAtom,eH v11 0]⟩],[⟨237,2,aA.trs (v11),false⟩]⟩⟩) (fK H) ?_ ?_
 ·rintro i9 v11 H
  refine qS (qS (qR (q1 aE (q1 (a5 gG) (q1 (bD nN) (q1 (dL lW (aD.trs_len _)) (q1 gI (qN ?_))))))))
  refine dG H (fun h13 h13l H=>?_) (fun h13 H=>?_)
  ·have h13n:=a4 h13
   refine aR.skip (qS (aR.block (bI H fun x15 z14 H=>(bI H fun x17 z16 H=>(dK H fun z18 H=>(dK H fun z19 H=>(dW (dI [3] (a5 bK) (dB [21] 0 2 (wL cX) (dI [1] (a5 gG) (dD [23] (bD nN) (dI [4] aE (dI [24,25] (kP h13n lW) ?_)))))))))))))
   refine dI [26] (lR sK) (dI [27] (kQ eJ) (dI [28] (bG func266 (b8 fu ((aW pd.gConstructors i9).gName) _ z14)) (dE [29] (uK ([x15]:List aA) bL cD) (dI [1] (a5 gG) (dB [31] 0 1 (wL nN) (dI [4] aE (dI [32,33] (kP h13n lW) (dI [34] (lR xQ) (dI [35] (kQ kY) (dI [36] (bG func268 (NE fu ((aW pd.gConstructors i9).gFields) _ z16)) (dE [30,37] (nV z18 bL rO) (dI [38] (gW cD nL) (dI [39] (j9 ([(aA.mk s_ (([x15]:List aA)++x17))]:List aA) bL cD) ?_)))))))))))))
   refine dE [22,40] (nV z19 bL rO) (dI [3] (a5 bK) (lH [42,41] (bR AZ) (dN (qR (q1 aE (q1 (rA (i9+1)) (q1 aE (qN ?_))))))))
   exact iI h13l ⟨_,(aX H:),bW⟩
  refine aR.exit ?_;exact jJ ⟨_,H,bW⟩
 rintro v11 H
 refine qS (bI H fun x21 z20 H=>(bI H fun x23 z22 H=>(dW (dD [1] (cJ [pS pd.gName,rS pd.gVars,bY pd.gConstructors] fI) (dI [43] (bG func257 (xF fu pd _ z20)) (dD [3] (cJ [pS x8.gAtom,eH v11 0] bU) (dI [44,45] (bG func271 (G4 fu x21 (aA.mk x8.gAtom v11) _ z22)) (lH [2,46] (bR eO) (dN (aR.ret ?_))))))))))
 cases aX H
 exact bE (hr:=⟨⟨_,_,_,rfl,rfl,bU,rfl,rfl⟩,trivial⟩)
def KU(m:aA→Option (aH×Bool)):Prop:= ∀(px:aA) (r:aH×Bool),m px=some r→b4 Tryz.prog 231 [(aA.pv px)] (.tup [(aH.pv r.1),pB r.2]:PV)
def IE(fu:Nat)(px x2 x4:aA)(x6:LB)(x8:List aA):Nat→((List aD))→Option (LR ((List aD)) (aH×Bool)):=
 fun i9 v11=>bd (dJ fu (aW x8 i9) 0) (fun x15=>
 bd (vC fu (aW x8 i9) 1) (fun x17=>
 bd (G5 fu x17) (fun x19=>
 gd ((v11).length+(([(aD.mk x15.gAtom x19)]:List aD)).length≤68719476736)
 (some (.next (v11++([(aD.mk x15.gAtom x19)]:List aD)))))))
def IF(fu:Nat)(px x2 x4:aA)(x6:LB)(x8:List aA):Option ((aH×Bool)⊕((List aD))):=
 loopN (IE fu px x2 x4 x6 x8) (x8.length-0) 0 ([])
def s8(fu:Nat)(px:aA):Option (aH×Bool):=
 bd (dJ fu px 1) (fun x2=>
 bd (dJ fu px 2) (fun x4=>
 bd (mP fu x4) (fun x6=>
 bd (vC fu px 3) (fun x8=>
 so (IF fu px x2 x4 x6 x8) (fun v11=>
 bd (iP fu px) (fun x22=>
 sw (!(x22))
 (some ((aH.mk s_ [] []),false))
 (sw (decide ((px.gList.length:Int)=0))
 (some ((aH.mk s_ [] []),false))
 (bd (s5 fu (aH.mk x2.gAtom x6 v11)) (fun x26=>
 bd (f7 fu x26 px) (fun x28=>
 sw (!(x28))
 (some ((aH.mk s_ [] []),false))
 (some ((aH.mk x2.gAtom x6 v11),true))))))))))))
theorem IG(fu:Nat):KU (s8 fu):=by
 intro px r H
 have H:=eE H
 refine qI func231 (fun C hC=>?_)
 refine qW (q1 (iM ([pS px.gAtom,bF px.gList])) (q1 (fO jF) (q1 aE (qN (qS (bI H fun x2 z1 H=>(bI H fun x4 z3 H=>(bI H fun x6 z5 H=>(dW (dB [1] 0 1 (NU [pS px.gAtom,bF px.gList] bU) (dI [7] (bG func219 (cY fu px 1 _ z1)) (dI [8] (rF1 tX) ?_))))))))))))
 refine dB [1] 0 1 (NU [pS px.gAtom,bF px.gList] bU) (dI [10] (bG func219 (cY fu px 2 _ z3)) (dI [11] (bG func243 (oH fu x4 _ z5)) (dI [9,12] (gW jF MX) (dE [] (fO jF) (lH [4,13] (bR iH) (dN (qW (q1 (cJ [pS px.gAtom,bF px.gList] bU) (bI H fun x8 z7 H=>(q1 (bG func244 (AT fu px 3 _ z7)) (q1 aE (qN ?_))))))))))))
 refine qS (qS (qR (q1 aE (qN (aR.wk (Wk.regBox (k:=2) (j:=2) 195 2 (by decide) rfl rfl) ?_)))))
 refine lD 5 (aA.trs_len _) (fun hl12=>?_)
 refine b0 (σ:=(List aD)) (fun i9 v11=>⟨[(1,.ptr 0 0),(2,.ptr 1 0),(3,pB false),(4,.ptr 2 0),(5,bF x8),(6,pN i9)],⟨[some ⟨237,[pS px.gAtom,bF px.gList]⟩,some ⟨116,[pS s_,.nil,.nil]⟩,some ⟨116,[pS x2.gAtom,rS x6,xM v11 0]⟩],[⟨195,2,aD.trs (v11),false⟩]⟩⟩) (fun v11=>⟨[(1,.ptr 0 0),(2,.ptr 1 0),(3,pB false),(4,.ptr 2 0)],⟨[some ⟨237,[pS px.gAtom,bF px.gList]⟩,some ⟨116,[pS s_,.nil,.nil]⟩,some ⟨116,[pS x2.gAtom,rS x6,xM v11 0]⟩],[⟨195,2,aD.trs (v11),false⟩]⟩⟩) (fK H) ?_ ?_
 ·rintro i9 v11 H
  refine qS (qS (qR ?_))
  iterate 2 refine q1 aE ?_
  refine q1 (dL bL (aA.trs_len _)) (q1 gI (qN ?_))
  refine dG H (fun h13 h13l H=>?_) (fun h13 H=>?_)
  ·have h13n:=a4 h13
   refine aR.skip (qS (aR.block (bI H fun x15 z14 H=>(bI H fun x17 z16 H=>(bI H fun x19 z18 H=>(dK H fun z20 H=>(dW (dI [4] (a5 gG) (dD [22] (bD nN) (dI [5] aE (dI [6] aE (dI [24,25] (kP h13n bL) (dI [26] (kM (aA.cs (aW x8 i9)) bU) ?_)))))))))))))
   refine dI [27] (bG func219 (cY fu (aW x8 i9) 0 _ z14)) (dI [28] (rF1 tX) (dI [5] aE (dI [6] aE (dI [30,31] (kP h13n bL) (dI [32] (kM (aA.cs (aW x8 i9)) bU) (dI [33] (bG func244 (AT fu (aW x8 i9) 1 _ z16)) (dI [34] (bG func245 (VK fu x17 _ z18)) (dI [29,35] (gW V9 anS) (dI [36] (j9 ([(aD.mk x15.gAtom x19)]:List aD) lW V9) (dE [23,37] (nV z20 lW asR) (dI [4] (a5 gG) (lH [39,38] (bR aqA) (dN ?_)))))))))))))
   refine qR (q1 aE (q1 (rA (i9+1)) (q1 aE (qN ?_))))
   exact iI h13l ⟨_,(aX H:),bW⟩
  refine aR.exit ?_;exact jJ ⟨_,H,bW⟩
 rintro v11 H
 iterate 2 refine qS ?_
 refine bI H fun x22 z21 H=>?_
 rcases mA (!(x22)) with g23|g23
 ·have H:=sE H g23
  refine dW (dD [1] (cJ [pS px.gAtom,bF px.gList] bU) (dI [40] (bG func217 (c7 fu px _ z21)) (dI [41] hQ (dI [42] aE ?_))))
  iterate 4 refine FE g23 ?_
  refine dI [43] (bV g23) (dI [48] aE ?_)
  iterate 5 refine FE rfl ?_
  refine dI [49] (bV rfl) (dN (eL rfl (qW (q1 (gW jF MX) (q1 (bR iH) (q1 aE (qZ ?_)))))))
  cases aX H
  exact tT (hr:=⟨⟨_,_,_,rfl,rfl,fI,rfl,rfl⟩,rfl,trivial⟩)
 have H:=sD H g23
 rcases mA (decide ((px.gList.length:Int)=0)) with g24|g24
 ·have H:=sE H g24
  refine dW (dD [1] (cJ [pS px.gAtom,bF px.gList] bU) (dI [40] (bG func217 (c7 fu px _ z21)) (dI [41] hQ (dI [42] aE (dI (hg:=a6 g23) [1] (a5 bK) (dD (hg:=a6 g23) [44] (bD cX) (dI (hg:=a6 g23) [45] (dL bL (aA.trs_len _)) (dI (hg:=a6 g23) [46] dM (dI [43,47] (b9 g23) (dI [48] aE ?_))))))))))
  iterate 5 refine FE g24 ?_
  refine dI [49] (bV g24) (dN (eL rfl (qW (q1 (gW jF MX) (q1 (bR iH) (q1 aE (qZ ?_)))))))
  cases aX H
  exact tT (hr:=⟨⟨_,_,_,rfl,rfl,fI,rfl,rfl⟩,rfl,trivial⟩)
 have H:=sD H g24
 refine bI H fun x26 z25 H=>(bI H fun x28 z27 H=>(dW (dD [1] (cJ [pS px.gAtom,bF px.gList] bU) (dI [40] (bG func217 (c7 fu px _ z21)) (dI [41] hQ (dI [42] aE (dI (hg:=a6 g23) [1] (a5 bK) (dD (hg:=a6 g23) [44] (bD cX) (dI (hg:=a6 g23) [45] (dL bL (aA.trs_len _)) (dI (hg:=a6 g23) [46] dM (dI [43,47] (b9 g23) (dI [48] aE (dD (hg:=a6 g24) [4] (cJ [pS x2.gAtom,rS x6,xM v11 0] fI) ?_)))))))))))))
 refine dI (hg:=a6 g24) [50] (bG func250 (HU fu (aH.mk x2.gAtom x6 v11) _ z25)) (dD (hg:=a6 g24) [1] (cJ [pS px.gAtom,bF px.gList] bU) (dI (hg:=a6 g24) [51,52] (bG func248 (uC fu x26 px _ z27)) (dI (hg:=a6 g24) [53] hQ (dI [49,54] (b9 g24) (dN ?_)))))
 refine a8 H (fun h29 H=>?_) (fun h29 H=>?_)
 ·refine qW (q1 (gW jF MX) (q1 (bR iH) (q1 aE (qZ ?_))))
  cases aX H
  exact tT (hr:=⟨⟨_,_,_,rfl,rfl,fI,rfl,rfl⟩,rfl,trivial⟩)
 refine aR.skip (qW (q1 (cJ [pS x2.gAtom,rS x6,xM v11 0] fI) (q1 (bR iH) (q1 aE (qZ ?_)))))
 cases aX H
 exact tT (hr:=⟨⟨_,_,_,rfl,rfl,fI,rfl,rfl⟩,rfl,trivial⟩)
def aaN(m:aA→Option ((List aM))):Prop:= ∀(px:aA) (r:(List aM)),m px=some r→b4 Tryz.prog 251 [(aA.pv px)] (fS r:PV)
def XM(fu:Nat)(px:aA):Nat→((List aM))→Option (LR ((List aM)) ((List aM))):=
 fun i1 v3=>bd (dJ fu (aW px.gList i1) 0) (fun x7=>
 bd (dJ fu (aW px.gList i1) 1) (fun x9=>
 bd (mS fu x9) (fun x11=>
 gd ((v3).length+(([(aM.mk x7.gAtom x11)]:List aM)).length≤68719476736)
 (some (.next (v3++([(aM.mk x7.gAtom x11)]:List aM)))))))
def XN(fu:Nat)(px:aA):Option (((List aM))⊕((List aM))):=
 loopN (XM fu px) (px.gList.length-0) 0 ([])
def yC(fu:Nat)(px:aA):Option ((List aM)):=
 so (XN fu px) (fun v3=>
 some v3)
theorem JB(fu:Nat):aaN (yC fu):=by
 intro px r H
 have H:=eE H
 refine qI func251 (fun C hC=>?_)
 refine qW (q1 (iM ([pS px.gAtom,bF px.gList])) (q1 aE (qN (qW (q1 (uK ([]:List aM) FF QP) (q1 aE (qN ?_)))))))
 refine qS (qS (qR (q1 aE (qN ?_))))
 refine aR.fact (b5 0 1 rfl rfl rfl (aA.trs_len _)) (fun hl4=>?_)
 refine b0 (σ:=(List aM)) (fun i1 v3=>⟨[(1,.ptr 0 0),(2,.nil),(3,amZ v3 0),(4,pN i1)],⟨[some ⟨237,[pS px.gAtom,bF px.gList]⟩],[⟨37,4,aM.trs (v3),false⟩]⟩⟩) (fun v3=>⟨[(2,.nil),(3,amZ v3 0)],⟨[some ⟨237,[pS px.gAtom,bF px.gList]⟩],[⟨37,4,aM.trs (v3),false⟩]⟩⟩) (fK H) ?_ ?_
 ·rintro i1 v3 H
  refine qS (qS (qR (q1 aE (q1 (a5 bK) (q1 (bD cX) (q1 (dL bL (aA.trs_len _)) (q1 gI (qN ?_))))))))
  refine dG H (fun h5 h5l H=>?_) (fun h5 H=>?_)
  ·have h5n:=a4 h5
   refine aR.skip (qS (aR.block (bI H fun x7 z6 H=>(bI H fun x9 z8 H=>(bI H fun x11 z10 H=>(dK H fun z12 H=>(dW (dI [3] aE (dI [1] (a5 bK) (dD [14] (bD cX) (dI [4] aE (dI [15,16] (kP h5n bL) (dI [17] (kM (aA.cs (aW px.gList i1)) bU) ?_)))))))))))))
   refine dI [18] (bG func219 (cY fu (aW px.gList i1) 0 _ z6)) (dI [19] (rF1 tX) (dI [1] (a5 bK) (dD [21] (bD cX) (dI [4] aE (dI [22,23] (kP h5n bL) (dI [24] (kM (aA.cs (aW px.gList i1)) bU) (dI [25] (bG func219 (cY fu (aW px.gList i1) 1 _ z8)) (dI [26] (bG func246 (wK fu x9 _ z10)) (dI [20,27] (gW QP agS) (dI [28] (j9 ([(aM.mk x7.gAtom x11)]:List aM) FF QP) (dE [13,29] (nV z12 FF asU) (dI [30] aE (dN ?_)))))))))))))
   refine qR (q1 aE (q1 (rA (i1+1)) (q1 aE (qN ?_))))
   exact iI h5l ⟨_,(aX H:),bW⟩
  refine aR.exit ?_;exact jJ ⟨_,H,bW⟩
 rintro v3 H
 refine qS (qR ?_)
 iterate 2 refine q1 aE ?_
 refine qN (aR.ret ?_)
 cases aX H
 exact bE
def aeV(m:(List aM)→Option aA):Prop:= ∀(plist:List aM) (r:aA),m plist=some r→b4 Tryz.prog 272 [fS plist] ((aA.pv r):PV)
def aaQ(fu:Nat)(plist:List aM):Nat→((List aA))→Option (LR ((List aA)) aA):=
 fun i1 v3=>bd (cF fu ((aW plist i1).gTrait)) (fun x7=>
 bd (mR fu ((aW plist i1).gType)) (fun x9=>
 bd (mE fu ([x7,x9]:List aA)) (fun x11=>
 gd ((v3).length+(([x11]:List aA)).length≤68719476736)
 (some (.next (v3++([x11]:List aA)))))))
def aaR(fu:Nat)(plist:List aM):Option (aA⊕((List aA))):=
 loopN (aaQ fu plist) (plist.length-0) 0 ([])
def AV(fu:Nat)(plist:List aM):Option aA:=
 so (aaR fu plist) (fun v3=>
 some (aA.mk s_ v3))
theorem NF(fu:Nat):aeV (AV fu):=by
 intro plist r H
 have H:=eE H
 refine qI func272 (fun C hC=>?_)
 refine qW (q1 (fO cD) (qN (qW (q1 (gW cD nL) (q1 (fO cD) (q1 (bR eO) (qN ?_)))))))
 refine qS (qS (qR (q1 aE (qN (aR.wk (Wk.regBox (k:=1) (j:=1) 237 2 (by decide) rfl rfl) ?_)))))
 refine lD 0 (aM.trs_len _) (fun hl4=>?_)
 refine b0 (σ:=(List aA)) (fun i1 v3=>⟨[(0,fS plist),(2,.ptr 0 0),(3,.ptr 1 0),(4,pN i1)],⟨[some ⟨237,[pS s_,.nil]⟩,some ⟨237,[pS s_,eH v3 0]⟩],[⟨237,2,aA.trs (v3),false⟩]⟩⟩) (fun v3=>⟨[(2,.ptr 0 0),(3,.ptr 1 0)],⟨[some ⟨237,[pS s_,.nil]⟩,some ⟨237,[pS s_,eH v3 0]⟩],[⟨237,2,aA.trs (v3),false⟩]⟩⟩) (fK H) ?_ ?_
 ·rintro i1 v3 H
  refine qS (qS (qR ?_))
  iterate 2 refine q1 aE ?_
  refine q1 (dL FF (aM.trs_len _)) (q1 gI (qN ?_))
  refine dG H (fun h5 h5l H=>?_) (fun h5 H=>?_)
  ·have h5n:=a4 h5
   refine aR.skip (qS (aR.block (bI H fun x7 z6 H=>(bI H fun x9 z8 H=>(bI H fun x11 z10 H=>(dK H fun z12 H=>(dW (dI [3] (a5 bK) (dD [12] (bD cX) (dI [0] aE (dI [4] aE (dI [14,15] (kP h5n FF) (dI [16] (lR ZB) ?_)))))))))))))
   refine dI [17] (kQ eJ) (dI [18] (bG func266 (b8 fu ((aW plist i1).gTrait) _ z6)) (dI [0] aE (dI [4] aE (dI [20,21] (kP h5n FF) (dI [22] (lR J2) (dI [23] (kM (aB.cs ((aW plist i1).gType)) cU) (dI [24] (bG func269 (wJ fu ((aW plist i1).gType) _ z8)) (dI [19,25] (j9 ([x7,x9]:List aA) bL cD) (dI [26] (bG func265 (ED (m8 fu) ([x7,x9]:List aA) _ z10)) (dI [27] (j9 ([x11]:List aA) bL cD) (dE [13,28] (nV z12 bL rO) (dI [3] (a5 bK) (lH [30,29] (bR AZ) ?_)))))))))))))
   refine dN (qR (q1 aE (q1 (rA (i1+1)) (q1 aE (qN ?_)))))
   exact iI h5l ⟨_,(aX H:),bW⟩
  refine aR.exit ?_;exact jJ ⟨_,H,bW⟩
 rintro v3 H
 refine qW (q1 (cJ [pS s_,eH v3 0] bU) (q1 (bR eO) (qZ ?_)))
 cases aX H
 exact bE (hr:=⟨⟨_,_,_,rfl,rfl,bU,rfl,rfl⟩,trivial⟩)
def KP(m:aL→Option aA):Prop:= ∀(pa0:aL) (r:aA),m pa0=some r→b4 Tryz.prog 252 [(aL.pv pa0)] ((aA.pv r):PV)
def HZ(fu:Nat)(pa0:aL)(x2:Bool):Option (aA⊕((LB))):=
 sw (pa0.gDefault)
 (gd (([]:LB).length+(([u6]:LB)).length≤68719476736)
 (some (.inr (([])++([u6]:LB)))))
 (some (.inr ([])))
def H0(fu:Nat)(pa0:aL)(x2:Bool)(v5:LB):Option (aA⊕(ByteArray×(List aA))):=
 sw (pa0.gHasAssoc)
 (bd (mR fu pa0.gAssoc) (fun x12=>
 bd (mE fu ([x12]:List aA)) (fun x14=>
 some (.inr (x14.gAtom,x14.gList)))))
 (some (.inr (s_,([]))))
def H1(fu:Nat)(pa0:aL)(x2:Bool)(v5:LB)(v8:ByteArray)(v9:List aA)(x16 x18 x20 x22 x24 x26 x28:aA):Nat→((List aA))→Option (LR ((List aA)) aA):=
 fun i29 v31=>lt (aW pa0.gMethods i29) (fun y34=>
 bd (cF fu y34.gName) (fun x37=>
 bd (lO fu y34.gVars) (fun x39=>
 bd (mO fu y34.gBody) (fun x41=>
 bd (mE fu ([x37,x39,x41]:List aA)) (fun x43=>
 gd ((v31).length+(([(aA.mk x43.gAtom x43.gList)]:List aA)).length≤68719476736)
 (some (.next (v31++([(aA.mk x43.gAtom x43.gList)]:List aA)))))))))
def H2(fu:Nat)(pa0:aL)(x2:Bool)(v5:LB)(v8:ByteArray)(v9:List aA)(x16 x18 x20 x22 x24 x26 x28:aA):Option (aA⊕((List aA))):=
 loopN (H1 fu pa0 x2 v5 v8 v9 x16 x18 x20 x22 x24 x26 x28) (pa0.gMethods.length-0) 0 x28.gList
def s7(fu:Nat)(pa0:aL):Option aA:=
 bd (n6 fu pa0) (fun x2=>
 sw (!(x2))
 (some (aA.mk s_ []))
 (so (HZ fu pa0 x2) (fun v5=>
 so (H0 fu pa0 x2 v5) (fun(v8,v9)=>
 bd (cF fu P4) (fun x16=>
 bd (cF fu pa0.gTrait) (fun x18=>
 bd (lO fu pa0.gVars) (fun x20=>
 bd (mR fu pa0.gHead) (fun x22=>
 bd (AV fu pa0.gWhere) (fun x24=>
 bd (lO fu v5) (fun x26=>
 bd (mE fu ([x16,x18,x20,x22,x24,x26,(aA.mk v8 v9)]:List aA)) (fun x28=>
 so (H2 fu pa0 x2 v5 v8 v9 x16 x18 x20 x22 x24 x26 x28) (fun v31=>
 bd (CR fu true (aA.mk x28.gAtom v31)) (fun x46=>
 some x46)))))))))))))
theorem H3(fu:Nat):KP (s7 fu):=by
 intro pa0 r H
 have H:=eE H
 refine qI func252 (fun C hC=>?_)
 refine qW (q1 (iM (nG pa0)) (q1 (fO cD) (qN ?_)))
 refine qS (qS (qR (q1 (cJ [pS pa0.gTrait,rS pa0.gVars,pI pa0.gHead.gKind,pS pa0.gHead.gName,a7 pa0.gHead.gArgs,fS pa0.gWhere,pB pa0.gDefault,pB pa0.gHasAssoc,pI pa0.gAssoc.gKind,pS pa0.gAssoc.gName,a7 pa0.gAssoc.gArgs,mK pa0.gMethods] zQ) (bI H fun x2 z1 H=>(q1 (bG func258 (xH fu pa0 _ z1)) (q1 hQ (qN ?_)))))))
 refine a8 H (fun h3 H=>?_) (fun h3 H=>?_)
 ·refine qW (q1 (gW cD nL) (q1 (bR eO) (qZ ?_)))
  cases aX H
  exact bE (hr:=⟨⟨_,_,_,rfl,rfl,bU,rfl,rfl⟩,trivial⟩)
 refine aR.skip (qW (q1 (uK ([]:LB) b3 lU) (q1 aE (qN (qS ?_)))))
 refine rR (σ:=(LB)) (fun v5=>⟨[(1,.ptr 0 0),(2,.ptr 1 0),(3,aS v5 0)],⟨[some ⟨55,nG pa0⟩,some ⟨237,[pS s_,.nil]⟩],[⟨9,1,aZ (v5),false⟩]⟩⟩) (fK H) (fun H=>?_) ?_
 ·refine qW (q1 (a5 anB) (q1 (bD Z3) (qN ?_)))
  refine a8 H (fun h6 H=>?_) (fun h6 H=>?_)
  ·refine qR (q1 aE (q1 (j9 ([u6]:LB) b3 lU) (dK H fun z7 H=>(q1 (nV z7 b3 tR) (q1 aE (qN ?_))))))
   exact dY ⟨_,(aX H:),bW⟩
  refine aR.skip ?_;exact dY ⟨_,(aX H:),bW⟩
 rintro v5 H
 refine qW (q1 (gW cD nL) (q1 (fO cD) (q1 (bR eO) (qN (qS (aR.wk (Wk.regBox (k:=2) (j:=1) 237 2 (by decide) rfl rfl) ?_))))))
 refine rR (σ:=ByteArray×(List aA)) (fun(v8,v9)=>⟨[(1,.ptr 0 0),(2,.ptr 1 0),(3,aS v5 0),(4,.ptr 2 0)],⟨[some ⟨55,nG pa0⟩,some ⟨237,[pS s_,.nil]⟩,some ⟨237,[pS v8,bF v9]⟩],[⟨9,1,aZ (v5),false⟩,⟨237,2,aA.trs ([]),false⟩]⟩⟩) (fK H) (fun H=>?_) ?_
 ·refine qW (q1 (a5 OE) (q1 (bD Z3) (qN ?_)))
  refine a8 H (fun h10 H=>?_) (fun h10 H=>?_)
  ·refine qR (q1 (a5 OF) (q1 (cJ [pI pa0.gAssoc.gKind,pS pa0.gAssoc.gName,a7 pa0.gAssoc.gArgs] cU) (bI H fun x12 z11 H=>(q1 (bG func269 (wJ fu pa0.gAssoc _ z11)) (q1 (j9 ([x12]:List aA) bL cD) (bI H fun x14 z13 H=>(q1 (a3.callOwn (pre:=⟨[],[]⟩) (B:= []) (R:=fun k=> .agg [pS x14.gAtom,eH x14.gList k]) (ps:= [_]) (qs:= [bF ([x12]:List aA)]) [] rfl rfl func265 (by kernel_rfl) rfl rfl rfl (gA.of trivial trivial (by decide) (by decide)) rfl iX rfl rfl rfl (fun k k'=>(.agg (.cons (.free _ rfl) (.cons Mv.acc CU.nil)))) (m8 fu ([x12]:List aA) _ z13)) (q1 (bR eO) (qN ?_)))))))))
   exact dY ⟨_,(aX H:),bW⟩
  refine aR.skip ?_;exact dY ⟨_,(aX H:),bW⟩
 rintro⟨v8,v9⟩ H
 refine qS (bI H fun x16 z15 H=>(bI H fun x18 z17 H=>(bI H fun x20 z19 H=>(bI H fun x22 z21 H=>(bI H fun x24 z23 H=>(bI H fun x26 z25 H=>(bI H fun x28 z27 H=>(dWa (dI [] (bG func266 (b8 fu P4 _ z15)) (dI [1] (a5 agH) (dBz [27] 0 0 (wL eJ) (dI [28] (bG func266 (b8 fu pa0.gTrait _ z17)) (dI [1] (a5 uS) ?_)))))))))))))
 refine dBz [30] 0 0 (wL kZ) (dI [31] (bG func267 (mQ fu pa0.gVars _ z19)) (dI [1] (a5 A4) (dBz [33] 0 0 (NU [pI pa0.gHead.gKind,pS pa0.gHead.gName,a7 pa0.gHead.gArgs] cU) (dI [34] (bG func269 (wJ fu pa0.gHead _ z21)) (dI [1] (a5 OD) (dBz [36] 0 0 (wL alK) (dI [37] (bG func272 (NF fu pa0.gWhere _ z23)) (dI [3] aE (dI [39] (bG func267 (mQ fu v5 _ z25)) (dBz [4] 0 0 (NU [pS v8,bF v9] bU) (dI [26,29,32,35,38,40,41] (j9 ([x16,x18,x20,x22,x24,x26,(aA.mk v8 v9)]:List aA) bL cD) ?_)))))))))))
 refine dEz [42] (fun _ z=>by cases z<;>exact a3.callOwn (pre:=⟨[],[]⟩) (B:= []) (R:=fun k=> .agg [pS x28.gAtom,eH x28.gList k]) (ps:= [_]) (qs:= [bF ([x16,x18,x20,x22,x24,x26,(aA.mk v8 v9)]:List aA)]) [] rfl rfl func265 (by kernel_rfl) rfl rfl rfl (gA.of trivial trivial (by decide) (by decide)) rfl iX rfl rfl rfl (fun k k'=>(.agg (.cons (.free _ rfl) (.cons Mv.acc CU.nil)))) (m8 fu ([x16,x18,x20,x22,x24,x26,(aA.mk v8 v9)]:List aA) _ z27)) ?_;refine dA (fun _ st h=>vAl h cD) (dZ 5 [5,43] (bR eO) (dN ?_))
 refine qS (qS (qR (q1 aE (qN ?_))))
 refine aR.fact (b5 0 11 rfl rfl rfl (aO.trs_len _)) (fun hl32=>?_)
 refine b0 (σ:=(List aA)) (fun i29 v31=>⟨[(1,.ptr 0 0),(2,.ptr 1 0),(5,.ptr 3 0),(6,pN i29)],⟨[some ⟨55,nG pa0⟩,some ⟨237,[pS s_,.nil]⟩,some ⟨237,[pS v8,bF v9]⟩,some ⟨237,[pS x28.gAtom,eH v31 2]⟩],[⟨9,1,aZ (v5),false⟩,⟨237,2,aA.trs ([]),false⟩,⟨237,2,aA.trs (v31),false⟩]⟩⟩) (fun v31=>⟨[(2,.ptr 1 0),(5,.ptr 3 0)],⟨[some ⟨55,nG pa0⟩,some ⟨237,[pS s_,.nil]⟩,some ⟨237,[pS v8,bF v9]⟩,some ⟨237,[pS x28.gAtom,eH v31 2]⟩],[⟨9,1,aZ (v5),false⟩,⟨237,2,aA.trs ([]),false⟩,⟨237,2,aA.trs (v31),false⟩]⟩⟩) (fK H) ?_ ?_
 ·rintro i29 v31 H
  refine qS (qS (qR (q1 aE (q1 (a5 FG) (q1 (bD ag0) (q1 (dL Y6 (aO.trs_len _)) (q1 gI (qN ?_))))))))
  refine dG H (fun h33 h33l H=>?_) (fun h33 H=>?_)
  ·have h33n:=a4 h33
   refine aR.skip (qS (aR.block (qW (q1 (a5 FG) (q1 (bD ag0) (q1 aE (fP H fun y34 h35 H=>(q1 (m9 h35 h33n Y6) (q1 (kM (aO.cs y34) ap8) (q1 (fO YL) (q1 (bR aqG) (qN ?_))))))))))))
   refine bI H fun x37 z36 H=>(bI H fun x39 z38 H=>(bI H fun x41 z40 H=>(bI H fun x43 z42 H=>(dK H fun z44 H=>(dW (dI [5] (a5 bK) (dB [56] 0 1 (wL cX) (dI [7] (a5 ajR) (dD [58] (bD eJ) (dI [59] (bG func266 (b8 fu y34.gName _ z36)) (dI [7] (a5 L0) (dD [61] (bD kZ) (dI [62] (bG func267 (mQ fu y34.gVars _ z38)) ?_)))))))))))))
   refine dI [7] (a5 Y9) (dD [64] (cJ [pI y34.gBody.gKind,pS y34.gBody.gTrait,pS y34.gBody.gName,pI y34.gBody.gN,pI y34.gBody.gType.gKind,pS y34.gBody.gType.gName,a7 y34.gBody.gType.gArgs,eB y34.gBody.gArgs,g0 y34.gBody.gArms] fE) (dI [65] (bG func270 (P7 fu y34.gBody _ z40)) (dI [60,63,66] (j9 ([x37,x39,x41]:List aA) bL cD) (dE [67] (a3.callOwn (pre:=⟨[],[]⟩) (B:= []) (R:=fun k=> .agg [pS x43.gAtom,eH x43.gList k]) (ps:= [_]) (qs:= [bF ([x37,x39,x41]:List aA)]) [] rfl rfl func265 (by kernel_rfl) rfl rfl rfl (gA.of trivial trivial (by decide) (by decide)) rfl iX rfl rfl rfl (fun k k'=>(.agg (.cons (.free _ rfl) (.cons Mv.acc CU.nil)))) (m8 fu ([x37,x39,x41]:List aA) _ z42)) (dI [68] (j9 ([(aA.mk x43.gAtom x43.gList)]:List aA) bL cD) (dE [57,69] (nV z44 bL rO) (dI [5] (a5 bK) (lH [71,70] (bR AZ) (dN (qR (q1 aE (q1 (rA (i29+1)) (q1 aE ?_)))))))))))))
   refine qN ?_;exact iI h33l ⟨_,(aX H:),bW⟩
  refine aR.exit ?_;exact jJ ⟨_,H,bW⟩
 rintro v31 H
 refine qW (q1 (cJ [pS x28.gAtom,eH v31 2] bU) (bI H fun x46 z45 H=>(q1 (bG func271 (G4 fu true (aA.mk x28.gAtom v31) _ z45)) (q1 (bR eO) (qZ ?_)))))
 cases aX H
 exact bE (hr:=⟨⟨_,_,_,rfl,rfl,bU,rfl,rfl⟩,trivial⟩)
def KW(m:aA→Option (aL×Bool)):Prop:= ∀(pa0:aA) (r:aL×Bool),m pa0=some r→b4 Tryz.prog 232 [(aA.pv pa0)] (.tup [(aL.pv r.1),pB r.2]:PV)
def IK(fu:Nat)(pa0 x2 x4:aA)(x6:LB)(x8:aA)(x10:aB)(x12:aA)(x14:List aM)(x16 x18:aA):Option ((aL×Bool)⊕((List aB)×Bool×Int×ByteArray)):=
 sw (decide ((x18.gList.length:Int)>0))
 (gd (0<(x18.gList).length)
 (bd (mS fu (aW x18.gList 0)) (fun x26=>
 some (.inr (x26.gArgs,true,x26.gKind,x26.gName)))))
 (some (.inr ([],false,0,s_)))
def IL(fu:Nat)(pa0 x2 x4:aA)(x6:LB)(x8:aA)(x10:aB)(x12:aA)(x14:List aM)(x16 x18:aA)(v22:List aB)(v19:Bool)(v20:Int)(v21:ByteArray)(x28:List aA):Nat→((List aO))→Option (LR ((List aO)) (aL×Bool)):=
 fun i29 v31=>bd (dJ fu (aW x28 i29) 0) (fun x35=>
 bd (dJ fu (aW x28 i29) 1) (fun x37=>
 bd (mP fu x37) (fun x39=>
 bd (dJ fu (aW x28 i29) 2) (fun x41=>
 bd (iA fu x41) (fun x43=>
 gd ((v31).length+(([(aO.mk x35.gAtom x39 x43)]:List aO)).length≤68719476736)
 (some (.next (v31++([(aO.mk x35.gAtom x39 x43)]:List aO)))))))))
def IM(fu:Nat)(pa0 x2 x4:aA)(x6:LB)(x8:aA)(x10:aB)(x12:aA)(x14:List aM)(x16 x18:aA)(v22:List aB)(v19:Bool)(v20:Int)(v21:ByteArray)(x28:List aA):Option ((aL×Bool)⊕((List aO))):=
 loopN (IL fu pa0 x2 x4 x6 x8 x10 x12 x14 x16 x18 v22 v19 v20 v21 x28) (x28.length-0) 0 ([])
def tA(fu:Nat)(pa0:aA):Option (aL×Bool):=
 bd (dJ fu pa0 1) (fun x2=>
 bd (dJ fu pa0 2) (fun x4=>
 bd (mP fu x4) (fun x6=>
 bd (dJ fu pa0 3) (fun x8=>
 bd (mS fu x8) (fun x10=>
 bd (dJ fu pa0 4) (fun x12=>
 bd (yC fu x12) (fun x14=>
 bd (dJ fu pa0 5) (fun x16=>
 bd (dJ fu pa0 6) (fun x18=>
 so (IK fu pa0 x2 x4 x6 x8 x10 x12 x14 x16 x18) (fun(v22,v19,v20,v21)=>
 bd (vC fu pa0 7) (fun x28=>
 so (IM fu pa0 x2 x4 x6 x8 x10 x12 x14 x16 x18 v22 v19 v20 v21 x28) (fun v31=>
 bd (iP fu pa0) (fun x46=>
 sw (!(x46))
 (some ((aL.mk s_ [] (aB.mk 0 s_ []) [] false false (aB.mk 0 s_ []) []),false))
 (sw (decide ((pa0.gList.length:Int)=0))
 (some ((aL.mk s_ [] (aB.mk 0 s_ []) [] false false (aB.mk 0 s_ []) []),false))
 (bd (s7 fu (aL.mk x2.gAtom x6 x10 x14 (decide ((x16.gList.length:Int)>0)) v19 (aB.mk v20 v21 v22) v31)) (fun x50=>
 bd (f7 fu x50 pa0) (fun x52=>
 sw (!(x52))
 (some ((aL.mk s_ [] (aB.mk 0 s_ []) [] false false (aB.mk 0 s_ []) []),false))
 (some ((aL.mk x2.gAtom x6 x10 x14 (decide ((x16.gList.length:Int)>0)) v19 (aB.mk v20 v21 v22) v31),true)))))))))))))))))))
theorem IN(fu:Nat):KW (tA fu):=by
 intro pa0 r H
 have H:=eE H
 refine qI func232 (fun C hC=>?_)
 refine qW (q1 (iM ([pS pa0.gAtom,bF pa0.gList])) (q1 (fO SV) (q1 aE (qN (qS (bI H fun x2 z1 H=>(bI H fun x4 z3 H=>(bI H fun x6 z5 H=>(bI H fun x8 z7 H=>(bI H fun x10 z9 H=>(bI H fun x12 z11 H=>(bI H fun x14 z13 H=>?_))))))))))))
 refine bI H fun x16 z15 H=>(dW (dB [1] 0 1 (NU [pS pa0.gAtom,bF pa0.gList] bU) (dI [8] (bG func219 (cY fu pa0 1 _ z1)) (dI [9] (rF1 tX) (dB [1] 0 1 (NU [pS pa0.gAtom,bF pa0.gList] bU) (dI [11] (bG func219 (cY fu pa0 2 _ z3)) (dI [12] (bG func243 (oH fu x4 _ z5)) (dB [1] 0 1 (NU [pS pa0.gAtom,bF pa0.gList] bU) (dI [14] (bG func219 (cY fu pa0 3 _ z7)) (dI [15] (bG func246 (wK fu x8 _ z9)) (dB [1] 0 1 (NU [pS pa0.gAtom,bF pa0.gList] bU) (dI [17] (bG func219 (cY fu pa0 4 _ z11)) (dI [18] (bG func251 (JB fu x12 _ z13)) ?_)))))))))))))
 refine dB [1] 0 1 (NU [pS pa0.gAtom,bF pa0.gList] bU) (dI [20] (bG func219 (cY fu pa0 5 _ z15)) (dI [21] (rF1 ZC) (dI [22] (dL bL (aA.trs_len _)) (dI [23] KL (dI [10,13,16,19,24] (gW SV anU) (dE [] (fO SV) (lH [4,25] (bR NN) (dN (qW (q1 (cJ [pS pa0.gAtom,bF pa0.gList] bU) (bI H fun x18 z17 H=>(q1 (bG func219 (cY fu pa0 6 _ z17)) ?_))))))))))))
 refine q1 (fO cD) (q1 (bR eO) (qN (qS ?_)))
 refine rR (σ:=(List aB)×Bool×Int×ByteArray) (fun(v22,v19,v20,v21)=>⟨[(1,.ptr 0 0),(2,.ptr 1 0),(3,pB false),(4,.ptr 2 0)],⟨[some ⟨237,[pS pa0.gAtom,bF pa0.gList]⟩,some ⟨55,[pS s_,.nil,pI 0,pS s_,.nil,.nil,pB false,pB false,pI 0,pS s_,.nil,.nil]⟩,some ⟨55,[pS x2.gAtom,rS x6,pI x10.gKind,pS x10.gName,a7 x10.gArgs,fS x14,pB (decide ((x16.gList.length:Int)>0)),pB v19,pI v20,pS v21,a7 v22,.nil]⟩,some ⟨237,[pS x18.gAtom,bF x18.gList]⟩],[]⟩⟩) (fK H) (fun H=>?_) ?_
 ·refine qW (q1 (a5 bK) (q1 (bD cX) (q1 (dL bL (aA.trs_len _)) (q1 KL (qN ?_)))))
  refine a8 H (fun h23 H=>?_) (fun h23 H=>?_)
  ·refine qW (q1 (a5 OE) (q1 (bR sz4) (qN (qR (q1 (a5 bK) (q1 (bD cX) (dK H fun z24 H=>(q1 (kP z24 bL) (q1 (kM (aA.cs (aW x18.gList 0)) bU) (bI H fun x26 z25 H=>(q1 (bG func246 (wK fu (aW x18.gList 0) _ z25)) (q1 (a5 OF) ?_))))))))))))
   refine q1 (bR jE) (qN ?_)
   exact dY ⟨_,(aX H:),bW⟩
  refine aR.skip ?_;exact dY ⟨_,(aX H:),bW⟩
 rintro⟨v22,v19,v20,v21⟩ H
 refine qW (q1 (cJ [pS pa0.gAtom,bF pa0.gList] bU) (bI H fun x28 z27 H=>(q1 (bG func244 (AT fu pa0 7 _ z27)) (q1 aE (qN ?_)))))
 refine qS (qS (qR (q1 aE (qN (aR.wk (Wk.regBox (k:=2) (j:=11) 161 11 (by decide) rfl rfl) ?_)))))
 refine lD 6 (aA.trs_len _) (fun hl32=>?_)
 refine b0 (σ:=(List aO)) (fun i29 v31=>⟨[(1,.ptr 0 0),(2,.ptr 1 0),(3,pB false),(4,.ptr 2 0),(6,bF x28),(7,pN i29)],⟨[some ⟨237,[pS pa0.gAtom,bF pa0.gList]⟩,some ⟨55,[pS s_,.nil,pI 0,pS s_,.nil,.nil,pB false,pB false,pI 0,pS s_,.nil,.nil]⟩,some ⟨55,[pS x2.gAtom,rS x6,pI x10.gKind,pS x10.gName,a7 x10.gArgs,fS x14,pB (decide ((x16.gList.length:Int)>0)),pB v19,pI v20,pS v21,a7 v22,SX v31 0]⟩,some ⟨237,[pS x18.gAtom,bF x18.gList]⟩],[⟨161,11,aO.trs (v31),false⟩]⟩⟩) (fun v31=>⟨[(1,.ptr 0 0),(2,.ptr 1 0),(3,pB false),(4,.ptr 2 0)],⟨[some ⟨237,[pS pa0.gAtom,bF pa0.gList]⟩,some ⟨55,[pS s_,.nil,pI 0,pS s_,.nil,.nil,pB false,pB false,pI 0,pS s_,.nil,.nil]⟩,some ⟨55,[pS x2.gAtom,rS x6,pI x10.gKind,pS x10.gName,a7 x10.gArgs,fS x14,pB (decide ((x16.gList.length:Int)>0)),pB v19,pI v20,pS v21,a7 v22,SX v31 0]⟩,some ⟨237,[pS x18.gAtom,bF x18.gList]⟩],[⟨161,11,aO.trs (v31),false⟩]⟩⟩) (fK H) ?_ ?_
 ·rintro i29 v31 H
  refine qS (qS (qR ?_))
  iterate 2 refine q1 aE ?_
  refine q1 (dL bL (aA.trs_len _)) (q1 gI (qN ?_))
  refine dG H (fun h33 h33l H=>?_) (fun h33 H=>?_)
  ·have h33n:=a4 h33
   refine aR.skip (qS (aR.block (bI H fun x35 z34 H=>(bI H fun x37 z36 H=>(bI H fun x39 z38 H=>(bI H fun x41 z40 H=>(bI H fun x43 z42 H=>(dK H fun z44 H=>(dW (dI [4] (a5 FG) (dD [47] (bD ag0) (dI [6] aE (dI [7] aE ?_)))))))))))))
   refine dI [49,50] (kP h33n bL) (dI [51] (kM (aA.cs (aW x28 i29)) bU) (dI [52] (bG func219 (cY fu (aW x28 i29) 0 _ z34)) (dI [53] (rF1 tX) (dI [6] aE (dI [7] aE (dI [55,56] (kP h33n bL) (dI [57] (kM (aA.cs (aW x28 i29)) bU) (dI [58] (bG func219 (cY fu (aW x28 i29) 1 _ z36)) (dI [59] (bG func243 (oH fu x37 _ z38)) (dI [6] aE (dI [7] aE (dI [61,62] (kP h33n bL) (dI [63] (kM (aA.cs (aW x28 i29)) bU) ?_)))))))))))))
   refine dI [64] (bG func219 (cY fu (aW x28 i29) 2 _ z40)) (dI [65] (bG func247 (F3 fu x41 _ z42)) (dI [54,60,66] (gW YL ap6) (dI [67] (j9 ([(aO.mk x35.gAtom x39 x43)]:List aO) Y6 YL) (dE [48,68] (nV z44 Y6 atA) (dI [4] (a5 FG) (lH [70,69] (bR as7) (dN (qR (q1 aE (q1 (rA (i29+1)) (q1 aE (qN ?_))))))))))))
   exact iI h33l ⟨_,(aX H:),bW⟩
  refine aR.exit ?_;exact jJ ⟨_,H,bW⟩
 rintro v31 H
 iterate 2 refine qS ?_
 refine bI H fun x46 z45 H=>?_
 rcases mA (!(x46)) with g47|g47
 ·have H:=sE H g47
  refine dW (dD [1] (cJ [pS pa0.gAtom,bF pa0.gList] bU) (dI [71] (bG func217 (c7 fu pa0 _ z45)) (dI [72] hQ (dI [73] aE ?_))))
  iterate 4 refine FE g47 ?_
  refine dI [74] (bV g47) (dI [79] aE ?_)
  iterate 5 refine FE rfl ?_
  refine dI [80] (bV rfl) (dN (eL rfl (qW (q1 (gW SV anU) (q1 (bR NN) (q1 aE (qZ ?_)))))))
  cases aX H
  exact tT (hr:=⟨⟨_,_,_,rfl,rfl,zQ,rfl,rfl⟩,rfl,trivial⟩)
 have H:=sD H g47
 rcases mA (decide ((pa0.gList.length:Int)=0)) with g48|g48
 ·have H:=sE H g48
  refine dW (dD [1] (cJ [pS pa0.gAtom,bF pa0.gList] bU) (dI [71] (bG func217 (c7 fu pa0 _ z45)) (dI [72] hQ (dI [73] aE (dI (hg:=a6 g47) [1] (a5 bK) (dD (hg:=a6 g47) [75] (bD cX) (dI (hg:=a6 g47) [76] (dL bL (aA.trs_len _)) (dI (hg:=a6 g47) [77] dM (dI [74,78] (b9 g47) (dI [79] aE ?_))))))))))
  iterate 5 refine FE g48 ?_
  refine dI [80] (bV g48) (dN (eL rfl (qW (q1 (gW SV anU) (q1 (bR NN) (q1 aE (qZ ?_)))))))
  cases aX H
  exact tT (hr:=⟨⟨_,_,_,rfl,rfl,zQ,rfl,rfl⟩,rfl,trivial⟩)
 have H:=sD H g48
 refine bI H fun x50 z49 H=>(bI H fun x52 z51 H=>(dW (dD [1] (cJ [pS pa0.gAtom,bF pa0.gList] bU) (dI [71] (bG func217 (c7 fu pa0 _ z45)) (dI [72] hQ (dI [73] aE (dI (hg:=a6 g47) [1] (a5 bK) (dD (hg:=a6 g47) [75] (bD cX) (dI (hg:=a6 g47) [76] (dL bL (aA.trs_len _)) (dI (hg:=a6 g47) [77] dM (dI [74,78] (b9 g47) (dI [79] aE (dD (hg:=a6 g48) [4] (cJ [pS x2.gAtom,rS x6,pI x10.gKind,pS x10.gName,a7 x10.gArgs,fS x14,pB (decide ((x16.gList.length:Int)>0)),pB v19,pI v20,pS v21,a7 v22,SX v31 0] zQ) ?_)))))))))))))
 refine dI (hg:=a6 g48) [81] (bG func252 (H3 fu (aL.mk x2.gAtom x6 x10 x14 (decide ((x16.gList.length:Int)>0)) v19 (aB.mk v20 v21 v22) v31) _ z49)) (dD (hg:=a6 g48) [1] (cJ [pS pa0.gAtom,bF pa0.gList] bU) (dI (hg:=a6 g48) [82,83] (bG func248 (uC fu x50 pa0 _ z51)) (dI (hg:=a6 g48) [84] hQ (dI [80,85] (b9 g48) (dN ?_)))))
 refine a8 H (fun h53 H=>?_) (fun h53 H=>?_)
 ·refine qW (q1 (gW SV anU) (q1 (bR NN) (q1 aE (qZ ?_))))
  cases aX H
  exact tT (hr:=⟨⟨_,_,_,rfl,rfl,zQ,rfl,rfl⟩,rfl,trivial⟩)
 refine aR.skip (qW (q1 (cJ [pS x2.gAtom,rS x6,pI x10.gKind,pS x10.gName,a7 x10.gArgs,fS x14,pB (decide ((x16.gList.length:Int)>0)),pB v19,pI v20,pS v21,a7 v22,SX v31 0] zQ) (q1 (bR NN) (q1 aE (qZ ?_)))))
 cases aX H
 exact tT (hr:=⟨⟨_,_,_,rfl,rfl,zQ,rfl,rfl⟩,rfl,trivial⟩)
def KN(m:aK→Option aA):Prop:= ∀(pf:aK) (r:aA),m pf=some r→b4 Tryz.prog 253 [(aK.pv pf)] ((aA.pv r):PV)
def HV(fu:Nat)(pf:aK)(x2:Bool):Nat→((List aA))→Option (LR ((List aA)) aA):=
 fun i4 v6=>bd (cF fu ((aW pf.gParams i4).gName)) (fun x10=>
 bd (mR fu ((aW pf.gParams i4).gType)) (fun x12=>
 bd (mE fu ([x10,x12]:List aA)) (fun x14=>
 gd ((v6).length+(([x14]:List aA)).length≤68719476736)
 (some (.next (v6++([x14]:List aA)))))))
def HW(fu:Nat)(pf:aK)(x2:Bool):Option (aA⊕((List aA))):=
 loopN (HV fu pf x2) (pf.gParams.length-0) 0 ([])
def s6(fu:Nat)(pf:aK):Option aA:=
 bd (n5 fu pf) (fun x2=>
 sw (!(x2))
 (some (aA.mk s_ []))
 (so (HW fu pf x2) (fun v6=>
 bd (cF fu alJ) (fun x17=>
 bd (cF fu pf.gName) (fun x19=>
 bd (lO fu pf.gVars) (fun x21=>
 bd (AV fu pf.gWhere) (fun x23=>
 bd (mR fu pf.gResult) (fun x25=>
 bd (mO fu pf.gBody) (fun x27=>
 bd (mE fu ([x17,x19,x21,x23,(aA.mk s_ v6),x25,x27]:List aA)) (fun x29=>
 bd (CR fu true x29) (fun x31=>
 some x31)))))))))))
theorem HX(fu:Nat):KN (s6 fu):=by
 intro pf r H
 have H:=eE H
 refine qI func253 (fun C hC=>?_)
 refine qW (q1 (iM (yG pf)) (q1 (fO cD) (qN ?_)))
 refine qS (qS (qR (q1 (cJ [pS pf.gName,rS pf.gVars,fS pf.gWhere,FW pf.gParams,pI pf.gResult.gKind,pS pf.gResult.gName,a7 pf.gResult.gArgs,pI pf.gBody.gKind,pS pf.gBody.gTrait,pS pf.gBody.gName,pI pf.gBody.gN,pI pf.gBody.gType.gKind,pS pf.gBody.gType.gName,a7 pf.gBody.gType.gArgs,eB pf.gBody.gArgs,g0 pf.gBody.gArms] lN) (bI H fun x2 z1 H=>(q1 (bG func259 (xG fu pf _ z1)) (q1 hQ (qN ?_)))))))
 refine a8 H (fun h3 H=>?_) (fun h3 H=>?_)
 ·refine qW (q1 (gW cD nL) (q1 (bR eO) (qZ ?_)))
  cases aX H
  exact bE (hr:=⟨⟨_,_,_,rfl,rfl,bU,rfl,rfl⟩,trivial⟩)
 refine aR.skip (qW (q1 (gW cD nL) (q1 (fO cD) (q1 (bR eO) (qN ?_)))))
 refine qS (qS (qR (q1 aE (qN (aR.wk (Wk.regBox (k:=2) (j:=1) 237 2 (by decide) rfl rfl) ?_)))))
 refine aR.fact (b5 0 3 rfl rfl rfl (aT.trs_len _)) (fun hl7=>?_)
 refine b0 (σ:=(List aA)) (fun i4 v6=>⟨[(1,.ptr 0 0),(2,.ptr 1 0),(3,.ptr 2 0),(4,pN i4)],⟨[some ⟨148,yG pf⟩,some ⟨237,[pS s_,.nil]⟩,some ⟨237,[pS s_,eH v6 0]⟩],[⟨237,2,aA.trs (v6),false⟩]⟩⟩) (fun v6=>⟨[(1,.ptr 0 0),(2,.ptr 1 0),(3,.ptr 2 0)],⟨[some ⟨148,yG pf⟩,some ⟨237,[pS s_,.nil]⟩,some ⟨237,[pS s_,eH v6 0]⟩],[⟨237,2,aA.trs (v6),false⟩]⟩⟩) (fK H) ?_ ?_
 ·rintro i4 v6 H
  refine qS (qS (qR (q1 aE (q1 (a5 sJ) (q1 (bD I9) (q1 (dL BW (aT.trs_len _)) (q1 gI (qN ?_))))))))
  refine dG H (fun h8 h8l H=>?_) (fun h8 H=>?_)
  ·have h8n:=a4 h8
   refine aR.skip (qS (aR.block (bI H fun x10 z9 H=>(bI H fun x12 z11 H=>(bI H fun x14 z13 H=>(dK H fun z15 H=>(dW (dI [3] (a5 bK) (dD [17] (bD cX) (dI [1] (a5 sJ) (dD [19] (bD I9) (dI [4] aE (dI [20,21] (kP h8n BW) ?_)))))))))))))
   refine dI [22] (lR ajS) (dI [23] (kQ eJ) (dI [24] (bG func266 (b8 fu ((aW pf.gParams i4).gName) _ z9)) (dI [1] (a5 sJ) (dD [26] (bD I9) (dI [4] aE (dI [27,28] (kP h8n BW) (dI [29] (lR ajT) (dI [30] (kM (aB.cs ((aW pf.gParams i4).gType)) cU) (dI [31] (bG func269 (wJ fu ((aW pf.gParams i4).gType) _ z11)) (dI [25,32] (j9 ([x10,x12]:List aA) bL cD) (dI [33] (bG func265 (ED (m8 fu) ([x10,x12]:List aA) _ z13)) (dI [34] (j9 ([x14]:List aA) bL cD) (dE [18,35] (nV z15 bL rO) ?_)))))))))))))
   refine dI [3] (a5 bK) (lH [37,36] (bR AZ) (dN (qR (q1 aE (q1 (rA (i4+1)) (q1 aE (qN ?_)))))))
   exact iI h8l ⟨_,(aX H:),bW⟩
  refine aR.exit ?_;exact jJ ⟨_,H,bW⟩
 rintro v6 H
 refine qS (bI H fun x17 z16 H=>(bI H fun x19 z18 H=>(bI H fun x21 z20 H=>(bI H fun x23 z22 H=>(bI H fun x25 z24 H=>(bI H fun x27 z26 H=>(bI H fun x29 z28 H=>(bI H fun x31 z30 H=>(dW (dI [] (bG func266 (b8 fu alJ _ z16)) (dI [1] (a5 GR) (dD [39] (bD eJ) (dI [40] (bG func266 (b8 fu pf.gName _ z18)) ?_)))))))))))))
 refine dI [1] (a5 LZ) (dD [42] (bD kZ) (dI [43] (bG func267 (mQ fu pf.gVars _ z20)) (dI [1] (a5 Y7) (dD [45] (bD alK) (dI [46] (bG func272 (NF fu pf.gWhere _ z22)) (dD [3] (cJ [pS s_,eH v6 0] bU) (dI [1] (a5 Y8) (dD [49] (cJ [pI pf.gResult.gKind,pS pf.gResult.gName,a7 pf.gResult.gArgs] cU) (dI [50] (bG func269 (wJ fu pf.gResult _ z24)) (dI [1] (a5 SZ) (dD [52] (cJ [pI pf.gBody.gKind,pS pf.gBody.gTrait,pS pf.gBody.gName,pI pf.gBody.gN,pI pf.gBody.gType.gKind,pS pf.gBody.gType.gName,a7 pf.gBody.gType.gArgs,eB pf.gBody.gArgs,g0 pf.gBody.gArms] fE) (dI [53] (bG func270 (P7 fu pf.gBody _ z26)) (dI [38,41,44,47,48,51,54] (j9 ([x17,x19,x21,x23,(aA.mk s_ v6),x25,x27]:List aA) bL cD) ?_)))))))))))))
 refine dI [55] (bG func265 (ED (m8 fu) ([x17,x19,x21,x23,(aA.mk s_ v6),x25,x27]:List aA) _ z28)) (dI [56] (bG func271 (G4 fu true x29 _ z30)) (lH [2,57] (bR eO) (dN (aR.ret ?_))))
 cases aX H
 exact bE (hr:=⟨⟨_,_,_,rfl,rfl,bU,rfl,rfl⟩,trivial⟩)
def KV(m:aA→Option (aK×Bool)):Prop:= ∀(pa0:aA) (r:aK×Bool),m pa0=some r→b4 Tryz.prog 233 [(aA.pv pa0)] (.tup [(aK.pv r.1),pB r.2]:PV)
def IH(fu:Nat)(pa0 x2 x4:aA)(x6:LB)(x8:aA)(x10:List aM)(x12:aA)(x14:aB)(x16:aA)(x18:aG)(x20:aA):Nat→((List aT))→Option (LR ((List aT)) (aK×Bool)):=
 fun i21 v23=>bd (dJ fu (aW x20.gList i21) 0) (fun x27=>
 bd (dJ fu (aW x20.gList i21) 1) (fun x29=>
 bd (mS fu x29) (fun x31=>
 gd ((v23).length+(([(aT.mk x27.gAtom x31)]:List aT)).length≤68719476736)
 (some (.next (v23++([(aT.mk x27.gAtom x31)]:List aT)))))))
def II(fu:Nat)(pa0 x2 x4:aA)(x6:LB)(x8:aA)(x10:List aM)(x12:aA)(x14:aB)(x16:aA)(x18:aG)(x20:aA):Option ((aK×Bool)⊕((List aT))):=
 loopN (IH fu pa0 x2 x4 x6 x8 x10 x12 x14 x16 x18 x20) (x20.gList.length-0) 0 ([])
def s9(fu:Nat)(pa0:aA):Option (aK×Bool):=
 bd (dJ fu pa0 1) (fun x2=>
 bd (dJ fu pa0 2) (fun x4=>
 bd (mP fu x4) (fun x6=>
 bd (dJ fu pa0 3) (fun x8=>
 bd (yC fu x8) (fun x10=>
 bd (dJ fu pa0 5) (fun x12=>
 bd (mS fu x12) (fun x14=>
 bd (dJ fu pa0 6) (fun x16=>
 bd (iA fu x16) (fun x18=>
 bd (dJ fu pa0 4) (fun x20=>
 so (II fu pa0 x2 x4 x6 x8 x10 x12 x14 x16 x18 x20) (fun v23=>
 bd (iP fu pa0) (fun x34=>
 sw (!(x34))
 (some ((aK.mk s_ [] [] [] (aB.mk 0 s_ []) (aG.mk 0 s_ s_ 0 (aB.mk 0 s_ []) [] [])),false))
 (sw (decide ((pa0.gList.length:Int)=0))
 (some ((aK.mk s_ [] [] [] (aB.mk 0 s_ []) (aG.mk 0 s_ s_ 0 (aB.mk 0 s_ []) [] [])),false))
 (bd (s6 fu (aK.mk x2.gAtom x6 x10 v23 x14 x18)) (fun x38=>
 bd (f7 fu x38 pa0) (fun x40=>
 sw (!(x40))
 (some ((aK.mk s_ [] [] [] (aB.mk 0 s_ []) (aG.mk 0 s_ s_ 0 (aB.mk 0 s_ []) [] [])),false))
 (some ((aK.mk x2.gAtom x6 x10 v23 x14 x18),true))))))))))))))))))
theorem IJ(fu:Nat):KV (s9 fu):=by
 intro pa0 r H
 have H:=eE H
 refine qI func233 (fun C hC=>?_)
 refine qW (q1 (iM ([pS pa0.gAtom,bF pa0.gList])) (q1 (fO sH) (q1 aE (qN (qS (bI H fun x2 z1 H=>(bI H fun x4 z3 H=>(bI H fun x6 z5 H=>(bI H fun x8 z7 H=>(bI H fun x10 z9 H=>(bI H fun x12 z11 H=>(bI H fun x14 z13 H=>?_))))))))))))
 refine bI H fun x16 z15 H=>(bI H fun x18 z17 H=>(dW (dB [1] 0 1 (NU [pS pa0.gAtom,bF pa0.gList] bU) (dI [7] (bG func219 (cY fu pa0 1 _ z1)) (dI [8] (rF1 tX) (dB [1] 0 1 (NU [pS pa0.gAtom,bF pa0.gList] bU) (dI [10] (bG func219 (cY fu pa0 2 _ z3)) (dI [11] (bG func243 (oH fu x4 _ z5)) (dB [1] 0 1 (NU [pS pa0.gAtom,bF pa0.gList] bU) (dI [13] (bG func219 (cY fu pa0 3 _ z7)) (dI [14] (bG func251 (JB fu x8 _ z9)) (dB [1] 0 1 (NU [pS pa0.gAtom,bF pa0.gList] bU) (dI [16] (bG func219 (cY fu pa0 5 _ z11)) ?_)))))))))))))
 refine dI [17] (bG func246 (wK fu x12 _ z13)) (dB [1] 0 1 (NU [pS pa0.gAtom,bF pa0.gList] bU) (dI [19] (bG func219 (cY fu pa0 6 _ z15)) (dI [20] (bG func247 (F3 fu x16 _ z17)) (dI [9,12,15,18,21] (gW sH UO) (dE [] (fO sH) (lH [4,22] (bR qK) (dN (qW (q1 (cJ [pS pa0.gAtom,bF pa0.gList] bU) (bI H fun x20 z19 H=>(q1 (bG func219 (cY fu pa0 4 _ z19)) (q1 (fO cD) ?_))))))))))))
 refine q1 (bR eO) (qN ?_)
 refine qS (qS (qR (q1 aE (qN (aR.wk (Wk.regBox (k:=2) (j:=3) 226 4 (by decide) rfl rfl) ?_)))))
 refine aR.fact (b5 3 1 rfl rfl rfl (aA.trs_len _)) (fun hl24=>?_)
 refine b0 (σ:=(List aT)) (fun i21 v23=>⟨[(1,.ptr 0 0),(2,.ptr 1 0),(3,pB false),(4,.ptr 2 0),(5,.ptr 3 0),(6,pN i21)],⟨[some ⟨237,[pS pa0.gAtom,bF pa0.gList]⟩,some ⟨148,[pS s_,.nil,.nil,.nil,pI 0,pS s_,.nil,pI 0,pS s_,pS s_,pI 0,pI 0,pS s_,.nil,.nil,.nil]⟩,some ⟨148,[pS x2.gAtom,rS x6,fS x10,YY v23 0,pI x14.gKind,pS x14.gName,a7 x14.gArgs,pI x18.gKind,pS x18.gTrait,pS x18.gName,pI x18.gN,pI x18.gType.gKind,pS x18.gType.gName,a7 x18.gType.gArgs,eB x18.gArgs,g0 x18.gArms]⟩,some ⟨237,[pS x20.gAtom,bF x20.gList]⟩],[⟨226,4,aT.trs (v23),false⟩]⟩⟩) (fun v23=>⟨[(1,.ptr 0 0),(2,.ptr 1 0),(3,pB false),(4,.ptr 2 0)],⟨[some ⟨237,[pS pa0.gAtom,bF pa0.gList]⟩,some ⟨148,[pS s_,.nil,.nil,.nil,pI 0,pS s_,.nil,pI 0,pS s_,pS s_,pI 0,pI 0,pS s_,.nil,.nil,.nil]⟩,some ⟨148,[pS x2.gAtom,rS x6,fS x10,YY v23 0,pI x14.gKind,pS x14.gName,a7 x14.gArgs,pI x18.gKind,pS x18.gTrait,pS x18.gName,pI x18.gN,pI x18.gType.gKind,pS x18.gType.gName,a7 x18.gType.gArgs,eB x18.gArgs,g0 x18.gArms]⟩,some ⟨237,[pS x20.gAtom,bF x20.gList]⟩],[⟨226,4,aT.trs (v23),false⟩]⟩⟩) (fK H) ?_ ?_
 ·rintro i21 v23 H
  refine qS (qS (qR (q1 aE (q1 (a5 bK) (q1 (bD cX) (q1 (dL bL (aA.trs_len _)) (q1 gI (qN ?_))))))))
  refine dG H (fun h25 h25l H=>?_) (fun h25 H=>?_)
  ·have h25n:=a4 h25
   refine aR.skip (qS (aR.block (bI H fun x27 z26 H=>(bI H fun x29 z28 H=>(bI H fun x31 z30 H=>(dK H fun z32 H=>(dW (dI [4] (a5 sJ) (dD [32] (bD I9) (dI [5] (a5 bK) (dD [34] (bD cX) (dI [6] aE (dI [35,36] (kP h25n bL) ?_)))))))))))))
   refine dI [37] (kM (aA.cs (aW x20.gList i21)) bU) (dI [38] (bG func219 (cY fu (aW x20.gList i21) 0 _ z26)) (dI [39] (rF1 tX) (dI [5] (a5 bK) (dD [41] (bD cX) (dI [6] aE (dI [42,43] (kP h25n bL) (dI [44] (kM (aA.cs (aW x20.gList i21)) bU) (dI [45] (bG func219 (cY fu (aW x20.gList i21) 1 _ z28)) (dI [46] (bG func246 (wK fu x29 _ z30)) (dI [40,47] (gW YM anT) (dI [48] (j9 ([(aT.mk x27.gAtom x31)]:List aT) BW YM) (dE [33,49] (nV z32 BW aqM) (dI [4] (a5 sJ) ?_)))))))))))))
   refine lH [51,50] (bR aqF) (dN (qR (q1 aE (q1 (rA (i21+1)) (q1 aE (qN ?_))))))
   exact iI h25l ⟨_,(aX H:),bW⟩
  refine aR.exit ?_;exact jJ ⟨_,H,bW⟩
 rintro v23 H
 iterate 2 refine qS ?_
 refine bI H fun x34 z33 H=>?_
 rcases mA (!(x34)) with g35|g35
 ·have H:=sE H g35
  refine dW (dD [1] (cJ [pS pa0.gAtom,bF pa0.gList] bU) (dI [52] (bG func217 (c7 fu pa0 _ z33)) (dI [53] hQ (dI [54] aE ?_))))
  iterate 4 refine FE g35 ?_
  refine dI [55] (bV g35) (dI [60] aE ?_)
  iterate 5 refine FE rfl ?_
  refine dI [61] (bV rfl) (dN (eL rfl (qW (q1 (gW sH UO) (q1 (bR qK) (q1 aE (qZ ?_)))))))
  cases aX H
  exact tT (hr:=⟨⟨_,_,_,rfl,rfl,lN,rfl,rfl⟩,rfl,trivial⟩)
 have H:=sD H g35
 rcases mA (decide ((pa0.gList.length:Int)=0)) with g36|g36
 ·have H:=sE H g36
  refine dW (dD [1] (cJ [pS pa0.gAtom,bF pa0.gList] bU) (dI [52] (bG func217 (c7 fu pa0 _ z33)) (dI [53] hQ (dI [54] aE (dI (hg:=a6 g35) [1] (a5 bK) (dD (hg:=a6 g35) [56] (bD cX) (dI (hg:=a6 g35) [57] (dL bL (aA.trs_len _)) (dI (hg:=a6 g35) [58] dM (dI [55,59] (b9 g35) (dI [60] aE ?_))))))))))
  iterate 5 refine FE g36 ?_
  refine dI [61] (bV g36) (dN (eL rfl (qW (q1 (gW sH UO) (q1 (bR qK) (q1 aE (qZ ?_)))))))
  cases aX H
  exact tT (hr:=⟨⟨_,_,_,rfl,rfl,lN,rfl,rfl⟩,rfl,trivial⟩)
 have H:=sD H g36
 refine bI H fun x38 z37 H=>(bI H fun x40 z39 H=>(dW (dD [1] (cJ [pS pa0.gAtom,bF pa0.gList] bU) (dI [52] (bG func217 (c7 fu pa0 _ z33)) (dI [53] hQ (dI [54] aE (dI (hg:=a6 g35) [1] (a5 bK) (dD (hg:=a6 g35) [56] (bD cX) (dI (hg:=a6 g35) [57] (dL bL (aA.trs_len _)) (dI (hg:=a6 g35) [58] dM (dI [55,59] (b9 g35) (dI [60] aE (dD (hg:=a6 g36) [4] (cJ [pS x2.gAtom,rS x6,fS x10,YY v23 0,pI x14.gKind,pS x14.gName,a7 x14.gArgs,pI x18.gKind,pS x18.gTrait,pS x18.gName,pI x18.gN,pI x18.gType.gKind,pS x18.gType.gName,a7 x18.gType.gArgs,eB x18.gArgs,g0 x18.gArms] lN) ?_)))))))))))))
 refine dI (hg:=a6 g36) [62] (bG func253 (HX fu (aK.mk x2.gAtom x6 x10 v23 x14 x18) _ z37)) (dD (hg:=a6 g36) [1] (cJ [pS pa0.gAtom,bF pa0.gList] bU) (dI (hg:=a6 g36) [63,64] (bG func248 (uC fu x38 pa0 _ z39)) (dI (hg:=a6 g36) [65] hQ (dI [61,66] (b9 g36) (dN ?_)))))
 refine a8 H (fun h41 H=>?_) (fun h41 H=>?_)
 ·refine qW (q1 (gW sH UO) (q1 (bR qK) (q1 aE (qZ ?_))))
  cases aX H
  exact tT (hr:=⟨⟨_,_,_,rfl,rfl,lN,rfl,rfl⟩,rfl,trivial⟩)
 refine aR.skip (qW (q1 (cJ [pS x2.gAtom,rS x6,fS x10,YY v23 0,pI x14.gKind,pS x14.gName,a7 x14.gArgs,pI x18.gKind,pS x18.gTrait,pS x18.gName,pI x18.gN,pI x18.gType.gKind,pS x18.gType.gName,a7 x18.gType.gArgs,eB x18.gArgs,g0 x18.gArms] lN) (q1 (bR qK) (q1 aE (qZ ?_)))))
 cases aX H
 exact tT (hr:=⟨⟨_,_,_,rfl,rfl,lN,rfl,rfl⟩,rfl,trivial⟩)
end
end Go.Proofs.YtpioomclpaiomaaGreat.W

namespace Go.Proofs.YtpioomclpaiomaaGreat.W
set_option maxRecDepth 100000
set_option maxHeartbeats 40000000
noncomputable section
open Tryz Go.RowKit Go.Proofs
attribute [local irreducible] lt
def aeX(m:ByteArray→Option Bool):Prop:= ∀(ps:ByteArray) (r:Bool),m ps=some r→b4 Tryz.prog 192 [pS ps] (pB r:PV)
def aaS(fu:Nat)(ps:ByteArray):Nat→Unit→Option (LR Unit Bool):=
 fun i1 _=>gd (i1<(ps).size)
 (sw (!decide ((((C1 ps i1).toNat:Int):Int)=32))
 (some (.ret false))
 (some (.next ())))
def aaT(fu:Nat)(ps:ByteArray):Option (Bool⊕Unit):=
 loopN (aaS fu ps) (ps.size-0) 0 ()
def F8(fu:Nat)(ps:ByteArray):Option Bool:=
 so (aaT fu ps) (fun _=>
 some true)
theorem aaU(fu:Nat):aeX (F8 fu):=by
 intro ps r H
 have H:=eE H
 refine qI func192 (fun C hC=>?_)
 refine qW (q1 aE (qN ?_))
 refine qS (qS (qR (q1 aE (qN ?_))))
 refine szF 0 (fun hl2=>?_)
 refine b0 (σ:=Unit) (fun i1 _=>⟨[(0,pS ps),(2,pB false),(3,pN i1)],⟨[],[]⟩⟩) (fun _=>⟨[(2,pB false)],⟨[],[]⟩⟩) (fK H) ?_ ?_
 ·rintro i1 ⟨⟩ H
  refine qS (qS (qR ?_))
  iterate 2 refine q1 aE ?_
  refine q1 (a3.lenS rfl rfl rfl Tryz.underlying9) (q1 gI (qN ?_))
  refine dG H (fun h3 h3l H=>?_) (fun h3 H=>?_)
  ·have h3n:i1<ps.size:=by have:=of_decide_eq_true h3;omega
   refine aR.skip (qS (aR.block (qS (qR ?_))))
   iterate 2 refine q1 aE ?_
   refine dK H fun z4 H=>(q1 (a3.indexS (k:=i1) rfl rfl rfl rfl z4 Tryz.underlying9) (q1 CI (qN ?_)))
   refine a8 H (fun h5 H=>?_) (fun h5 H=>?_)
   ·refine qW (q1 aE (qZ ?_))
    obtain rfl:_=r:=(mT (aX H):)
    exact bE
   refine aR.skip (qR (q1 aE (q1 (rA (i1+1)) (q1 aE (qN ?_)))))
   exact iI h3l ⟨_,(aX H:),bW⟩
  refine aR.exit ?_;exact jJ ⟨_,H,bW⟩
 rintro⟨⟩ H
 refine qW (q1 aE (qZ ?_))
 cases aX H
 exact bE
def ahV(m:(ByteArray×(LB)×(List aP)×(List aH)×(List aL)×(List aK))→aA→Option (Bool×(ByteArray×(LB)×(List aP)×(List aH)×(List aL)×(List aK)))):Prop:= ∀(pq0:ByteArray×(LB)×(List aP)×(List aH)×(List aL)×(List aK)) (pa1:aA) (r:Bool×(ByteArray×(LB)×(List aP)×(List aH)×(List aL)×(List aK))),m pq0 pa1=some r→c6 Tryz.prog 220 [.ptr 0 0,(aA.pv pa1)] ⟨[some ⟨131,[pS pq0.1,rS pq0.2.1,yU pq0.2.2.1 0,nD pq0.2.2.2.1 1,nF pq0.2.2.2.2.1 2,nE pq0.2.2.2.2.2 3]⟩],[⟨60,5,aP.trs (pq0.2.2.1),false⟩,⟨116,3,aH.trs (pq0.2.2.2.1),false⟩,⟨55,12,aL.trs (pq0.2.2.2.2.1),false⟩,⟨148,16,aK.trs (pq0.2.2.2.2.2),false⟩]⟩ (fun q t=>q=(pB r.1:PV)∧t=⟨[some ⟨131,[pS r.2.1,rS r.2.2.1,yU r.2.2.2.1 0,nD r.2.2.2.2.1 1,nF r.2.2.2.2.2.1 2,nE r.2.2.2.2.2.2 3]⟩],[⟨60,5,aP.trs (r.2.2.2.1),false⟩,⟨116,3,aH.trs (r.2.2.2.2.1),false⟩,⟨55,12,aL.trs (r.2.2.2.2.2.1),false⟩,⟨148,16,aK.trs (r.2.2.2.2.2.2),false⟩]⟩)
def LF(fu:Nat)(pq0:ByteArray×(LB)×(List aP)×(List aH)×(List aL)×(List aK))(pa1:aA):Option (Bool×(ByteArray×(LB)×(List aP)×(List aH)×(List aL)×(List aK))):=
 bd (dJ fu pa1 0) (fun x2=>
 sw (decide (x2.gAtom=G2))
 (bd (w5 fu pa1) (fun(x5,x6)=>
 gd ((pq0.2.2.1).length+(([x5]:List aP)).length≤68719476736)
 (some (x6,(pq0.1,pq0.2.1,pq0.2.2.1++([x5]:List aP),pq0.2.2.2.1,pq0.2.2.2.2.1,pq0.2.2.2.2.2)))))
 (sw (decide (x2.gAtom=P3))
 (bd (s8 fu pa1) (fun(x10,x11)=>
 gd ((pq0.2.2.2.1).length+(([x10]:List aH)).length≤68719476736)
 (some (x11,(pq0.1,pq0.2.1,pq0.2.2.1,pq0.2.2.2.1++([x10]:List aH),pq0.2.2.2.2.1,pq0.2.2.2.2.2)))))
 (sw (decide (x2.gAtom=P4))
 (bd (tA fu pa1) (fun(x15,x16)=>
 gd ((pq0.2.2.2.2.1).length+(([x15]:List aL)).length≤68719476736)
 (some (x16,(pq0.1,pq0.2.1,pq0.2.2.1,pq0.2.2.2.1,pq0.2.2.2.2.1++([x15]:List aL),pq0.2.2.2.2.2)))))
 (sw (decide (x2.gAtom=alJ))
 (bd (s9 fu pa1) (fun(x20,x21)=>
 gd ((pq0.2.2.2.2.2).length+(([x20]:List aK)).length≤68719476736)
 (some (x21,(pq0.1,pq0.2.1,pq0.2.2.1,pq0.2.2.2.1,pq0.2.2.2.2.1,pq0.2.2.2.2.2++([x20]:List aK))))))
 (some (false,pq0))))))
theorem aeZ(fu:Nat):ahV (LF fu):=by
 intro pq0 pa1 r H
 have H:=eE H
 refine qI func220 (fun C hC=>?_)
 refine qW (q1 (iM ([pS pa1.gAtom,bF pa1.gList])) (q1 aE (qN ?_)))
 refine qS (qS (qR (q1 (cJ [pS pa1.gAtom,bF pa1.gList] bU) (bI H fun x2 z1 H=>(q1 (bG func219 (cY fu pa1 0 _ z1)) (q1 (rF1 tX) (qN (aR.block (qW (q1 AM (q1 aE (qN ?_))))))))))))
 refine a8 H (fun h3 H=>?_) (fun h3 H=>?_)
 ·refine qW (q1 (cJ [pS pa1.gAtom,bF pa1.gList] bU) (fZ H fun x5 x6 z4 H=>(q1 (bG func230 (PT fu pa1 _ z4)) (q1 aE ?_))))
  iterate 2 refine q1 AK ?_
  refine q1 (fO r3) (q1 (bR pL) (q1 aE (qN (qS (dK H fun z7 H=>(dW ?_))))))
  iterate 2 refine dI [0] aE ?_
  refine dI [24] q9 (dI [25] (a5 qQ) (dD [26] (bD F0) (dD [5] (cJ [pS x5.gName,rS x5.gSupertraits,pB x5.gAuto,pB x5.gAssoc,c4 x5.gSignatures] l9) (dI [28] (j9 ([x5]:List aP) AF r3) (dE [27,29] (nV z7 AF aqI) (dI [23] q9 (dI [31] (a5 qQ) (lH [32,30] (bR aqB) (dN (qS (qR ?_)))))))))))
  iterate 2 refine q1 aE ?_
  refine qN (aR.ret ?_)
  cases aX H
  exact bE
 refine qW (q1 AM (q1 aE (qN ?_)))
 refine a8 H (fun h8 H=>?_) (fun h8 H=>?_)
 ·refine qW (q1 (cJ [pS pa1.gAtom,bF pa1.gList] bU) (fZ H fun x10 x11 z9 H=>(q1 (bG func231 (IG fu pa1 _ z9)) (q1 aE ?_))))
  iterate 2 refine q1 AK ?_
  refine q1 (fO jF) (q1 (bR iH) (q1 aE (qN (qS (dK H fun z12 H=>(dW ?_))))))
  iterate 2 refine dI [0] aE ?_
  refine dI [42] q9 (dI [43] (a5 l7) (dD [44] (bD xK) (dD [7] (cJ [pS x10.gName,rS x10.gVars,bY x10.gConstructors] fI) (dI [46] (j9 ([x10]:List aH) tE jF) (dE [45,47] (nV z12 tE aqJ) (dI [41] q9 (dI [49] (a5 l7) (lH [50,48] (bR aqC) (dN (qS (qR ?_)))))))))))
  iterate 2 refine q1 aE ?_
  refine qN (aR.ret ?_)
  cases aX H
  exact bE
 refine qW (q1 AM (q1 aE (qN ?_)))
 refine a8 H (fun h13 H=>?_) (fun h13 H=>?_)
 ·refine qW (q1 (cJ [pS pa1.gAtom,bF pa1.gList] bU) (fZ H fun x15 x16 z14 H=>(q1 (bG func232 (IN fu pa1 _ z14)) (q1 aE ?_))))
  iterate 2 refine q1 AK ?_
  refine q1 (fO SV) (q1 (bR NN) (q1 aE (qN (qS (dK H fun z17 H=>(dW ?_))))))
  iterate 2 refine dI [0] aE ?_
  refine dI [60] q9 (dI [61] (a5 AG) (dD [62] (bD YF) (dD [9] (cJ [pS x15.gTrait,rS x15.gVars,pI x15.gHead.gKind,pS x15.gHead.gName,a7 x15.gHead.gArgs,fS x15.gWhere,pB x15.gDefault,pB x15.gHasAssoc,pI x15.gAssoc.gKind,pS x15.gAssoc.gName,a7 x15.gAssoc.gArgs,mK x15.gMethods] zQ) (dI [64] (j9 ([x15]:List aL) QV SV) (dE [63,65] (nV z17 QV aqK) (dI [59] q9 (dI [67] (a5 AG) (lH [68,66] (bR aqD) (dN (qS (qR ?_)))))))))))
  iterate 2 refine q1 aE ?_
  refine qN (aR.ret ?_)
  cases aX H
  exact bE
 refine qW (q1 AM (q1 aE (qN ?_)))
 refine a8 H (fun h18 H=>?_) (fun h18 H=>?_)
 ·refine qW (q1 (cJ [pS pa1.gAtom,bF pa1.gList] bU) (fZ H fun x20 x21 z19 H=>(q1 (bG func233 (IJ fu pa1 _ z19)) (q1 aE ?_))))
  iterate 2 refine q1 AK ?_
  refine q1 (fO sH) (q1 (bR qK) (q1 aE (qN (qS (dK H fun z22 H=>(dW ?_))))))
  iterate 2 refine dI [0] aE ?_
  refine dI [78] q9 (dI [79] (a5 nX) (dD [80] (bD CO) (dD [11] (cJ [pS x20.gName,rS x20.gVars,fS x20.gWhere,FW x20.gParams,pI x20.gResult.gKind,pS x20.gResult.gName,a7 x20.gResult.gArgs,pI x20.gBody.gKind,pS x20.gBody.gTrait,pS x20.gBody.gName,pI x20.gBody.gN,pI x20.gBody.gType.gKind,pS x20.gBody.gType.gName,a7 x20.gBody.gType.gArgs,eB x20.gBody.gArgs,g0 x20.gBody.gArms] lN) (dI [82] (j9 ([x20]:List aK) xB sH) (dE [81,83] (nV z22 xB aqL) (dI [77] q9 (dI [85] (a5 nX) (lH [86,84] (bR aqE) (dN (qS (qR ?_)))))))))))
  iterate 2 refine q1 aE ?_
  refine qN (aR.ret ?_)
  cases aX H
  exact bE
 refine aR.skip (qW (q1 aE (qZ ?_)))
 cases aX H
 exact bE
def ae0(m:aJ→Option ((LB)×(LB)×(LB)×(LB))):Prop:= ∀(pa0:aJ) (r:(LB)×(LB)×(LB)×(LB)),m pa0=some r→b4 Tryz.prog 234 [(aJ.pv pa0)] (.tup [rS r.1,rS r.2.1,rS r.2.2.1,rS r.2.2.2]:PV)
def aaV(fu:Nat)(pa0:aJ):Nat→((LB))→Option (LR ((LB)) ((LB)×(LB)×(LB)×(LB))):=
 fun i1 v3=>gd ((v3).length+(([((aW pa0.gTraits i1).gName)]:LB)).length≤68719476736)
 (some (.next (v3++([((aW pa0.gTraits i1).gName)]:LB))))
def aaZ(fu:Nat)(pa0:aJ):Option (((LB)×(LB)×(LB)×(LB))⊕((LB))):=
 loopN (aaV fu pa0) (pa0.gTraits.length-0) 0 ([])
def aaX(fu:Nat)(pa0:aJ)(v3:LB)(i7:Nat)(v10 v11:LB):Nat→((LB))→Option (LR ((LB)) (LR ((LB)×(LB)) ((LB)×(LB)×(LB)×(LB)))):=
 fun i15 v17=>gd ((v17).length+(([((aW ((aW pa0.gDataTypes i7).gConstructors) i15).gName)]:LB)).length≤68719476736)
 (some (.next (v17++([((aW ((aW pa0.gDataTypes i7).gConstructors) i15).gName)]:LB))))
def aa1(fu:Nat)(pa0:aJ)(v3:LB)(i7:Nat)(v10 v11:LB):Option ((LR ((LB)×(LB)) ((LB)×(LB)×(LB)×(LB)))⊕((LB))):=
 loopN (aaX fu pa0 v3 i7 v10 v11) (((aW pa0.gDataTypes i7).gConstructors).length-0) 0 v11
def aaW(fu:Nat)(pa0:aJ)(v3:LB):Nat→((LB)×(LB))→Option (LR ((LB)×(LB)) ((LB)×(LB)×(LB)×(LB))):=
 fun i7 (v10,v11)=>gd ((v10).length+(([((aW pa0.gDataTypes i7).gName)]:LB)).length≤68719476736)
 (so (aa1 fu pa0 v3 i7 v10 v11) (fun v17=>
 some (.next ((v10++([((aW pa0.gDataTypes i7).gName)]:LB)),v17))))
def aa0(fu:Nat)(pa0:aJ)(v3:LB):Option (((LB)×(LB)×(LB)×(LB))⊕((LB)×(LB))):=
 loopN (aaW fu pa0 v3) (pa0.gDataTypes.length-0) 0 (([]),([]))
def aaY(fu:Nat)(pa0:aJ)(v3 v10 v11:LB):Nat→((LB))→Option (LR ((LB)) ((LB)×(LB)×(LB)×(LB))):=
 fun i21 v23=>lt (aW pa0.gFunctions i21) (fun y26=>
 gd ((v23).length+(([y26.gName]:LB)).length≤68719476736)
 (some (.next (v23++([y26.gName]:LB)))))
def aa2(fu:Nat)(pa0:aJ)(v3 v10 v11:LB):Option (((LB)×(LB)×(LB)×(LB))⊕((LB))):=
 loopN (aaY fu pa0 v3 v10 v11) (pa0.gFunctions.length-0) 0 ([])
def F9(fu:Nat)(pa0:aJ):Option ((LB)×(LB)×(LB)×(LB)):=
 so (aaZ fu pa0) (fun v3=>
 so (aa0 fu pa0 v3) (fun(v10,v11)=>
 so (aa2 fu pa0 v3 v10 v11) (fun v23=>
 some (v3,v10,v11,v23))))
theorem aa3(fu:Nat):ae0 (F9 fu):=by
 intro pa0 r H
 have H:=eE H
 refine qI func234 (fun C hC=>?_)
 refine qW (q1 (iM (dV pa0)) ?_)
 iterate 4 refine q1 aE ?_
 refine qN (qW (q1 (uK ([]:LB) b3 lU) (q1 aE (qN (qW (q1 (uK ([]:LB) b3 lU) (q1 aE (qN (qW (q1 (uK ([]:LB) b3 lU) ?_))))))))))
 refine q1 aE (qN (qW (q1 (uK ([]:LB) b3 lU) (q1 aE (qN ?_)))))
 refine qS (qS (qR (q1 aE (qN ?_))))
 refine aR.fact (b5 0 2 rfl rfl rfl (aP.trs_len _)) (fun hl4=>?_)
 refine b0 (σ:=(LB)) (fun i1 v3=>⟨[(1,.ptr 0 0),(2,.nil),(3,.nil),(4,.nil),(5,.nil),(6,aS v3 0),(7,aS [] 1),(8,aS [] 2),(9,aS [] 3),(10,pN i1)],⟨[some ⟨131,dV pa0⟩],[⟨9,1,aZ (v3),false⟩,⟨9,1,aZ ([]),false⟩,⟨9,1,aZ ([]),false⟩,⟨9,1,aZ ([]),false⟩]⟩⟩) (fun v3=>⟨[(1,.ptr 0 0),(2,.nil),(3,.nil),(4,.nil),(5,.nil),(6,aS v3 0),(7,aS [] 1),(8,aS [] 2),(9,aS [] 3)],⟨[some ⟨131,dV pa0⟩],[⟨9,1,aZ (v3),false⟩,⟨9,1,aZ ([]),false⟩,⟨9,1,aZ ([]),false⟩,⟨9,1,aZ ([]),false⟩]⟩⟩) (fK H) ?_ ?_
 ·rintro i1 v3 H
  refine qS (qS (qR (q1 aE (q1 (a5 qQ) (q1 (bD F0) (q1 (dL AF (aP.trs_len _)) (q1 gI (qN ?_))))))))
  refine dG H (fun h5 h5l H=>?_) (fun h5 H=>?_)
  ·have h5n:=a4 h5
   refine aR.skip (qS (aR.block (qR (q1 aE (q1 (a5 qQ) (q1 (bD F0) (q1 aE (q1 (kP h5n AF) (q1 (lR C8) (q1 (kQ eJ) (q1 (j9 ([((aW pa0.gTraits i1).gName)]:LB) b3 lU) (dK H fun z6 H=>(q1 (nV z6 b3 tR) ?_)))))))))))))
   refine q1 aE (qN (qR (q1 aE (q1 (rA (i1+1)) (q1 aE (qN ?_))))))
   exact iI h5l ⟨_,(aX H:),bW⟩
  refine aR.exit ?_;exact jJ ⟨_,H,bW⟩
 rintro v3 H
 refine qS (qS (qR (q1 aE (qN ?_))))
 refine aR.fact (b5 0 3 rfl rfl rfl (aH.trs_len _)) (fun hl12=>?_)
 refine b0 (σ:=(LB)×(LB)) (fun i7 (v10,v11)=>⟨[(1,.ptr 0 0),(2,.nil),(3,.nil),(4,.nil),(5,.nil),(6,aS v3 0),(7,aS v10 1),(8,aS v11 2),(9,aS [] 3),(11,pN i7)],⟨[some ⟨131,dV pa0⟩],[⟨9,1,aZ (v3),false⟩,⟨9,1,aZ (v10),false⟩,⟨9,1,aZ (v11),false⟩,⟨9,1,aZ ([]),false⟩]⟩⟩) (fun(v10,v11)=>⟨[(1,.ptr 0 0),(2,.nil),(3,.nil),(4,.nil),(5,.nil),(6,aS v3 0),(7,aS v10 1),(8,aS v11 2),(9,aS [] 3)],⟨[some ⟨131,dV pa0⟩],[⟨9,1,aZ (v3),false⟩,⟨9,1,aZ (v10),false⟩,⟨9,1,aZ (v11),false⟩,⟨9,1,aZ ([]),false⟩]⟩⟩) (fK H) ?_ ?_
 ·rintro i7 ⟨v10,v11⟩ H
  refine qS (qS (qR (q1 aE (q1 (a5 l7) (q1 (bD xK) (q1 (dL tE (aH.trs_len _)) (q1 gI (qN ?_))))))))
  refine dG H (fun h13 h13l H=>?_) (fun h13 H=>?_)
  ·have h13n:=a4 h13
   refine aR.skip (qS (aR.block (qW (q1 aE (q1 (a5 l7) (q1 (bD xK) (q1 aE (q1 (kP h13n tE) (q1 (lR C5) (q1 (kQ eJ) (q1 (j9 ([((aW pa0.gDataTypes i7).gName)]:LB) b3 lU) (dK H fun z14 H=>?_))))))))))))
   refine q1 (nV z14 b3 tR) (q1 aE (qN (qW (q1 aE (qN ?_)))))
   refine b0 (σ:=(LB)) (fun i15 v17=>⟨[(1,.ptr 0 0),(2,.nil),(3,.nil),(4,.nil),(5,.nil),(6,aS v3 0),(7,aS (v10++([((aW pa0.gDataTypes i7).gName)]:LB)) 1),(8,aS v17 2),(9,aS [] 3),(11,pN i7),(12,pN i15),(34,pN i7),(35,.ptr 0 3),(36,iJ pa0.gDataTypes),(37,pN pa0.gDataTypes.length),(38,pB (decide ((i7:Int)<(pa0.gDataTypes.length:Int)))),(41,aS v10 1),(42,.ptr 0 3),(43,iJ pa0.gDataTypes),(44,pN i7),(45,.eptr (aH.cs (aW pa0.gDataTypes i7))),(46,.eptr (aH.cs (aW pa0.gDataTypes i7))),(47,pS ((aW pa0.gDataTypes i7).gName)),(48,rS ([((aW pa0.gDataTypes i7).gName)]:LB)),(49,aS (v10++([((aW pa0.gDataTypes i7).gName)]:LB)) 1)],⟨[some ⟨131,dV pa0⟩],[⟨9,1,aZ (v3),false⟩,⟨9,1,aZ (v10++([((aW pa0.gDataTypes i7).gName)]:LB)),false⟩,⟨9,1,aZ (v17),false⟩,⟨9,1,aZ ([]),false⟩]⟩⟩) (fun v17=>⟨[(1,.ptr 0 0),(2,.nil),(3,.nil),(4,.nil),(5,.nil),(6,aS v3 0),(7,aS (v10++([((aW pa0.gDataTypes i7).gName)]:LB)) 1),(8,aS v17 2),(9,aS [] 3),(11,pN i7),(34,pN i7),(35,.ptr 0 3),(36,iJ pa0.gDataTypes),(37,pN pa0.gDataTypes.length),(38,pB (decide ((i7:Int)<(pa0.gDataTypes.length:Int)))),(41,aS v10 1),(42,.ptr 0 3),(43,iJ pa0.gDataTypes),(44,pN i7),(45,.eptr (aH.cs (aW pa0.gDataTypes i7))),(46,.eptr (aH.cs (aW pa0.gDataTypes i7))),(47,pS ((aW pa0.gDataTypes i7).gName)),(48,rS ([((aW pa0.gDataTypes i7).gName)]:LB)),(49,aS (v10++([((aW pa0.gDataTypes i7).gName)]:LB)) 1)],⟨[some ⟨131,dV pa0⟩],[⟨9,1,aZ (v3),false⟩,⟨9,1,aZ (v10++([((aW pa0.gDataTypes i7).gName)]:LB)),false⟩,⟨9,1,aZ (v17),false⟩,⟨9,1,aZ ([]),false⟩]⟩⟩) (fK H) ?_ ?_
   ·rintro i15 v17 H
    refine qS (qS (qR (q1 aE (q1 (a5 l7) (q1 (bD xK) (q1 aE (q1 (kP h13n tE) (q1 (lR gG) (q1 (kQ nN) ?_)))))))))
    refine FS 56 (aD.trs_len _) (fun hl18=>?_)
    refine q1 (dL lW (aD.trs_len _)) (q1 gI (qN ?_))
    refine dG H (fun h19 h19l H=>?_) (fun h19 H=>?_)
    ·have h19n:=a4 h19
     refine aR.skip (qS (aR.block (qR (q1 aE (q1 (a5 l7) (q1 (bD xK) (q1 aE (q1 (kP h13n tE) (q1 (lR gG) (q1 (kQ nN) (q1 aE (q1 (kP h19n lW) (q1 (lR sK) ?_)))))))))))))
     refine q1 (kQ eJ) (q1 (j9 ([((aW ((aW pa0.gDataTypes i7).gConstructors) i15).gName)]:LB) b3 lU) (dK H fun z20 H=>(q1 (nV z20 b3 tR) (q1 aE (qN (qR (q1 aE (q1 (rA (i15+1)) (q1 aE (qN ?_))))))))))
     exact iI h19l ⟨_,(aX H:),bW⟩
    refine aR.exit ?_;exact jJ ⟨_,H,bW⟩
   rintro v17 H
   refine qR (q1 aE (q1 (rA (i7+1)) (q1 aE (qN ?_))))
   exact iI h13l ⟨_,(aX H:),bW⟩
  refine aR.exit ?_;exact jJ ⟨_,H,bW⟩
 rintro⟨v10,v11⟩ H
 refine qS (qS (qR (q1 aE (qN ?_))))
 refine aR.fact (b5 0 5 rfl rfl rfl (aK.trs_len _)) (fun hl24=>?_)
 refine b0 (σ:=(LB)) (fun i21 v23=>⟨[(1,.ptr 0 0),(2,.nil),(3,.nil),(4,.nil),(5,.nil),(6,aS v3 0),(7,aS v10 1),(8,aS v11 2),(9,aS v23 3),(13,pN i21)],⟨[some ⟨131,dV pa0⟩],[⟨9,1,aZ (v3),false⟩,⟨9,1,aZ (v10),false⟩,⟨9,1,aZ (v11),false⟩,⟨9,1,aZ (v23),false⟩]⟩⟩) (fun v23=>⟨[(2,.nil),(3,.nil),(4,.nil),(5,.nil),(6,aS v3 0),(7,aS v10 1),(8,aS v11 2),(9,aS v23 3)],⟨[some ⟨131,dV pa0⟩],[⟨9,1,aZ (v3),false⟩,⟨9,1,aZ (v10),false⟩,⟨9,1,aZ (v11),false⟩,⟨9,1,aZ (v23),false⟩]⟩⟩) (fK H) ?_ ?_
 ·rintro i21 v23 H
  refine qS (qS (qR (q1 aE (q1 (a5 nX) (q1 (bD CO) (q1 (dL xB (aK.trs_len _)) (q1 gI (qN ?_))))))))
  refine dG H (fun h25 h25l H=>?_) (fun h25 H=>?_)
  ·have h25n:=a4 h25
   refine aR.skip (qS (aR.block (qR (q1 aE (q1 (a5 nX) (q1 (bD CO) (q1 aE (fP H fun y26 h27 H=>(q1 (m9 h27 h25n xB) (q1 (lR GR) (q1 (kQ eJ) (q1 (j9 ([y26.gName]:LB) b3 lU) (dK H fun z28 H=>?_)))))))))))))
   refine q1 (nV z28 b3 tR) (q1 aE (qN (qR (q1 aE (q1 (rA (i21+1)) (q1 aE (qN ?_)))))))
   exact iI h25l ⟨_,(aX H:),bW⟩
  refine aR.exit ?_;exact jJ ⟨_,H,bW⟩
 rintro v23 H
 refine qS (qR ?_)
 iterate 8 refine q1 aE ?_
 refine qN (aR.ret ?_)
 cases aX H
 exact qe (ps:= [_,_,_,_]) ⟨rfl,rfl⟩ ⟨rfl,rfl,rfl,rfl,trivial⟩
def ae1(m:aJ→Option Bool):Prop:= ∀(pp:aJ) (r:Bool),m pp=some r→b4 Tryz.prog 238 [(aJ.pv pp)] (pB r:PV)
def aa4(fu:Nat)(pp:aJ):Nat→Unit→Option (LR Unit Bool):=
 fun i1 _=>bd (sP fu (aW pp.gTraits i1)) (fun x5=>
 sw (!(x5))
 (some (.ret false))
 (some (.next ())))
def aa8(fu:Nat)(pp:aJ):Option (Bool⊕Unit):=
 loopN (aa4 fu pp) (pp.gTraits.length-0) 0 ()
def aa5(fu:Nat)(pp:aJ):Nat→Unit→Option (LR Unit Bool):=
 fun i7 _=>bd (n4 fu (aW pp.gDataTypes i7)) (fun x11=>
 sw (!(x11))
 (some (.ret false))
 (some (.next ())))
def aa9(fu:Nat)(pp:aJ):Option (Bool⊕Unit):=
 loopN (aa5 fu pp) (pp.gDataTypes.length-0) 0 ()
def aa6(fu:Nat)(pp:aJ):Nat→Unit→Option (LR Unit Bool):=
 fun i13 _=>lt (aW pp.gInstances i13) (fun y16=>
 bd (n6 fu y16) (fun x19=>
 sw (!(x19))
 (some (.ret false))
 (some (.next ()))))
def abA(fu:Nat)(pp:aJ):Option (Bool⊕Unit):=
 loopN (aa6 fu pp) (pp.gInstances.length-0) 0 ()
def aa7(fu:Nat)(pp:aJ):Nat→Unit→Option (LR Unit Bool):=
 fun i21 _=>lt (aW pp.gFunctions i21) (fun y24=>
 bd (n5 fu y24) (fun x27=>
 sw (!(x27))
 (some (.ret false))
 (some (.next ()))))
def abB(fu:Nat)(pp:aJ):Option (Bool⊕Unit):=
 loopN (aa7 fu pp) (pp.gFunctions.length-0) 0 ()
def GA(fu:Nat)(pp:aJ):Option Bool:=
 so (aa8 fu pp) (fun _=>
 so (aa9 fu pp) (fun _=>
 so (abA fu pp) (fun _=>
 so (abB fu pp) (fun _=>
 some true))))
theorem abC(fu:Nat):ae1 (GA fu):=by
 intro pp r H
 have H:=eE H
 refine qI func238 (fun C hC=>?_)
 refine qW (q1 (iM (dV pp)) (q1 aE (qN ?_)))
 refine qS (qS (qR (q1 aE (qN ?_))))
 refine aR.fact (b5 0 2 rfl rfl rfl (aP.trs_len _)) (fun hl2=>?_)
 refine b0 (σ:=Unit) (fun i1 _=>⟨[(1,.ptr 0 0),(2,pB false),(3,pN i1)],⟨[some ⟨131,dV pp⟩],[]⟩⟩) (fun _=>⟨[(1,.ptr 0 0),(2,pB false)],⟨[some ⟨131,dV pp⟩],[]⟩⟩) (fK H) ?_ ?_
 ·rintro i1 ⟨⟩ H
  refine qS (qS (qR (q1 aE (q1 (a5 qQ) (q1 (bD F0) (q1 (dL AF (aP.trs_len _)) (q1 gI (qN ?_))))))))
  refine dG H (fun h3 h3l H=>?_) (fun h3 H=>?_)
  ·have h3n:=a4 h3
   refine aR.skip (qS (aR.block (qW (q1 (a5 qQ) (q1 (bD F0) (q1 aE (q1 (kP h3n AF) (q1 (kM (aP.cs (aW pp.gTraits i1)) l9) (bI H fun x5 z4 H=>(q1 (bG func256 (CK fu (aW pp.gTraits i1) _ z4)) (q1 hQ (qN ?_))))))))))))
   refine a8 H (fun h6 H=>?_) (fun h6 H=>?_)
   ·refine qW (q1 aE (qZ ?_))
    obtain rfl:_=r:=(mT (aX H):)
    exact bE
   refine aR.skip (qR (q1 aE (q1 (rA (i1+1)) (q1 aE (qN ?_)))))
   exact iI h3l ⟨_,(aX H:),bW⟩
  refine aR.exit ?_;exact jJ ⟨_,H,bW⟩
 rintro⟨⟩ H
 refine qS (qS (qR (q1 aE (qN ?_))))
 refine aR.fact (b5 0 3 rfl rfl rfl (aH.trs_len _)) (fun hl8=>?_)
 refine b0 (σ:=Unit) (fun i7 _=>⟨[(1,.ptr 0 0),(2,pB false),(4,pN i7)],⟨[some ⟨131,dV pp⟩],[]⟩⟩) (fun _=>⟨[(1,.ptr 0 0),(2,pB false)],⟨[some ⟨131,dV pp⟩],[]⟩⟩) (fK H) ?_ ?_
 ·rintro i7 ⟨⟩ H
  refine qS (qS (qR (q1 aE (q1 (a5 l7) (q1 (bD xK) (q1 (dL tE (aH.trs_len _)) (q1 gI (qN ?_))))))))
  refine dG H (fun h9 h9l H=>?_) (fun h9 H=>?_)
  ·have h9n:=a4 h9
   refine aR.skip (qS (aR.block (qW (q1 (a5 l7) (q1 (bD xK) (q1 aE (q1 (kP h9n tE) (q1 (kM (aH.cs (aW pp.gDataTypes i7)) fI) (bI H fun x11 z10 H=>(q1 (bG func257 (xF fu (aW pp.gDataTypes i7) _ z10)) (q1 hQ (qN ?_))))))))))))
   refine a8 H (fun h12 H=>?_) (fun h12 H=>?_)
   ·refine qW (q1 aE (qZ ?_))
    obtain rfl:_=r:=(mT (aX H):)
    exact bE
   refine aR.skip (qR (q1 aE (q1 (rA (i7+1)) (q1 aE (qN ?_)))))
   exact iI h9l ⟨_,(aX H:),bW⟩
  refine aR.exit ?_;exact jJ ⟨_,H,bW⟩
 rintro⟨⟩ H
 refine qS (qS (qR (q1 aE (qN ?_))))
 refine aR.fact (b5 0 4 rfl rfl rfl (aL.trs_len _)) (fun hl14=>?_)
 refine b0 (σ:=Unit) (fun i13 _=>⟨[(1,.ptr 0 0),(2,pB false),(5,pN i13)],⟨[some ⟨131,dV pp⟩],[]⟩⟩) (fun _=>⟨[(1,.ptr 0 0),(2,pB false)],⟨[some ⟨131,dV pp⟩],[]⟩⟩) (fK H) ?_ ?_
 ·rintro i13 ⟨⟩ H
  refine qS (qS (qR (q1 aE (q1 (a5 AG) (q1 (bD YF) (q1 (dL QV (aL.trs_len _)) (q1 gI (qN ?_))))))))
  refine dG H (fun h15 h15l H=>?_) (fun h15 H=>?_)
  ·have h15n:=a4 h15
   refine aR.skip (qS (aR.block (qW (q1 (a5 AG) (q1 (bD YF) (q1 aE (fP H fun y16 h17 H=>(q1 (m9 h17 h15n QV) (q1 (kM (aL.cs y16) zQ) (bI H fun x19 z18 H=>(q1 (bG func258 (xH fu y16 _ z18)) (q1 hQ ?_))))))))))))
   refine qN ?_;refine a8 H (fun h20 H=>?_) (fun h20 H=>?_)
   ·refine qW (q1 aE (qZ ?_))
    obtain rfl:_=r:=(mT (aX H):)
    exact bE
   refine aR.skip (qR (q1 aE (q1 (rA (i13+1)) (q1 aE (qN ?_)))))
   exact iI h15l ⟨_,(aX H:),bW⟩
  refine aR.exit ?_;exact jJ ⟨_,H,bW⟩
 rintro⟨⟩ H
 refine qS (qS (qR (q1 aE (qN ?_))))
 refine aR.fact (b5 0 5 rfl rfl rfl (aK.trs_len _)) (fun hl22=>?_)
 refine b0 (σ:=Unit) (fun i21 _=>⟨[(1,.ptr 0 0),(2,pB false),(6,pN i21)],⟨[some ⟨131,dV pp⟩],[]⟩⟩) (fun _=>⟨[(2,pB false)],⟨[some ⟨131,dV pp⟩],[]⟩⟩) (fK H) ?_ ?_
 ·rintro i21 ⟨⟩ H
  refine qS (qS (qR (q1 aE (q1 (a5 nX) (q1 (bD CO) (q1 (dL xB (aK.trs_len _)) (q1 gI (qN ?_))))))))
  refine dG H (fun h23 h23l H=>?_) (fun h23 H=>?_)
  ·have h23n:=a4 h23
   refine aR.skip (qS (aR.block (qW (q1 (a5 nX) (q1 (bD CO) (q1 aE (fP H fun y24 h25 H=>(q1 (m9 h25 h23n xB) (q1 (kM (aK.cs y24) lN) (bI H fun x27 z26 H=>(q1 (bG func259 (xG fu y24 _ z26)) (q1 hQ ?_))))))))))))
   refine qN ?_;refine a8 H (fun h28 H=>?_) (fun h28 H=>?_)
   ·refine qW (q1 aE (qZ ?_))
    obtain rfl:_=r:=(mT (aX H):)
    exact bE
   refine aR.skip (qR (q1 aE (q1 (rA (i21+1)) (q1 aE (qN ?_)))))
   exact iI h23l ⟨_,(aX H:),bW⟩
  refine aR.exit ?_;exact jJ ⟨_,H,bW⟩
 rintro⟨⟩ H
 refine qW (q1 aE (qZ ?_))
 cases aX H
 exact bE
def M7(m:aJ→Option Bool):Prop:= ∀(pa0:aJ) (r:Bool),m pa0=some r→b4 Tryz.prog 221 [(aJ.pv pa0)] (pB r:PV)
def uE(fu:Nat)(pa0:aJ):Option Bool:=
 bd (F9 fu pa0) (fun(x2,x3,x4,x5)=>
 bd (dU fu pa0.gName) (fun x7=>
 sw (!(x7))
 (some false)
 (bd (gU fu pa0.gDeps 5) (fun x10=>
 sw (!(x10))
 (some false)
 (bd (nQ fu pa0.gDeps pa0.gName) (fun x13=>
 sw (x13)
 (some false)
 (sw (decide ((aQ ((aQ ((aQ ((pa0.gTraits.length:Int)+(pa0.gDataTypes.length:Int)))+(pa0.gInstances.length:Int)))+(pa0.gFunctions.length:Int)):Int)>24))
 (some false)
 (bd (kI fu x2) (fun x17=>
 sw (x17)
 (bd (kI fu x3) (fun x20=>
 sw (x20)
 (bd (kI fu x4) (fun x23=>
 sw (x23)
 (bd (kI fu x5) (fun x26=>
 sw (x26)
 (bd (GA fu pa0) (fun x29=>
 some x29))
 (some false)))
 (some false)))
 (some false)))
 (some false))))))))))
theorem KT(fu:Nat):M7 (uE fu):=by
 intro pa0 r H
 have H:=eE H
 refine qI func221 (fun C hC=>?_)
 refine qW (q1 (iM (dV pa0)) (q1 aE (qN (qW (q1 (cJ [pS pa0.gName,rS pa0.gDeps,O7 pa0.gTraits,iJ pa0.gDataTypes,yL pa0.gInstances,yK pa0.gFunctions] nO) (asZ H fun x2 x3 x4 x5 z1 H=>(q1 (bG func234 (aa3 fu pa0 _ z1)) (q1 aE ?_))))))))
 iterate 4 refine q1 AK ?_
 iterate 4 refine q1 aE ?_
 refine qN ?_
 refine qS (qS (qR (q1 (a5 LX) (q1 (bD eJ) (bI H fun x7 z6 H=>(q1 (bG func235 (eC fu pa0.gName _ z6)) (q1 hQ (q1 aE ?_))))))))
 refine eF 18 H (fun g8 H=>?_) fun g8 H=>?_
 ·refine qk g8 ?_
  iterate 3 refine qk g8 ?_
  refine q1 (bV g8) (q1 aE ?_)
  iterate 5 refine qk rfl ?_
  refine q1 (bV rfl) (q1 aE ?_)
  iterate 16 refine qk rfl ?_
  refine q1 (bV rfl) (qN (eL rfl (qW (q1 aE (qZ ?_)))))
  cases aX H
  exact bE
 refine qg g8 (a5 C7) (qg g8 (bD kZ) (bI H fun x10 z9 H=>(qg g8 (bG func236 (hO fu pa0.gDeps 5 _ z9)) (qg g8 hQ (q1 (b9 g8) (q1 aE ?_))))))
 refine eF 24 H (fun g11 H=>?_) fun g11 H=>?_
 ·refine qk g11 ?_
  iterate 4 refine qk g11 ?_
  refine q1 (bV g11) (q1 aE ?_)
  iterate 16 refine qk rfl ?_
  refine q1 (bV rfl) (qN (eL rfl (qW (q1 aE (qZ ?_)))))
  cases aX H
  exact bE
 refine qg g11 (a5 C7) (qg g11 (bD kZ) (qg g11 (a5 LX) (qg g11 (bD eJ) (bI H fun x13 z12 H=>(qg g11 (bG func125 (nR fu pa0.gDeps pa0.gName _ z12)) (q1 (b9 g11) (q1 aE ?_)))))))
 refine eF 31 H (fun g14 H=>?_) fun g14 H=>?_
 ·refine qk g14 ?_
  iterate 15 refine qk g14 ?_
  refine q1 (bV g14) (qN (eL rfl (qW (q1 aE (qZ ?_)))))
  cases aX H
  exact bE
 refine qg g14 (a5 qQ) (qg g14 (bD F0) (qg g14 (dL AF (aP.trs_len _)) (qg g14 (a5 l7) (qg g14 (bD xK) (qg g14 (dL tE (aH.trs_len _)) (qg g14 MZ (qg g14 (a5 AG) (qg g14 (bD YF) (qg g14 (dL QV (aL.trs_len _)) (qg g14 MZ (qg g14 (a5 nX) (qg g14 (bD CO) (qg g14 (dL xB (aK.trs_len _)) ?_)))))))))))))
 refine qg g14 MZ (qg g14 KL (q1 (b9 g14) (qN ?_)))
 refine a8 H (fun h15 H=>?_) (fun h15 H=>?_)
 ·refine qW (q1 aE (qZ ?_))
  cases aX H
  exact bE
 refine aR.skip (qW (q1 aE (bI H fun x17 z16 H=>(q1 (bG func237 (mC fu x2 _ z16)) (q1 aE ?_)))))
 refine eF 51 H (fun g18 H=>?_) fun g18 H=>?_
 ·refine qg g18 aE (bI H fun x20 z19 H=>(qg g18 (bG func237 (mC fu x3 _ z19)) (q1 (bV g18) (q1 aE ?_))))
  refine eF 55 H (fun g21 H=>?_) fun g21 H=>?_
  ·refine qg g21 aE (bI H fun x23 z22 H=>(qg g21 (bG func237 (mC fu x4 _ z22)) (q1 (bV g21) (q1 aE ?_))))
   refine eF 59 H (fun g24 H=>?_) fun g24 H=>?_
   ·refine qg g24 aE (bI H fun x26 z25 H=>(qg g24 (bG func237 (mC fu x5 _ z25)) (q1 (bV g24) (q1 aE ?_))))
    refine eF 63 H (fun g27 H=>?_) fun g27 H=>?_
    ·refine qg g27 (cJ [pS pa0.gName,rS pa0.gDeps,O7 pa0.gTraits,iJ pa0.gDataTypes,yL pa0.gInstances,yK pa0.gFunctions] nO) (bI H fun x29 z28 H=>(qg g27 (bG func238 (abC fu pa0 _ z28)) (q1 (bV g27) (q1 aE (qZ ?_)))))
     cases aX H
     exact bE
    iterate 2 refine qk g27 ?_
    refine q1 (b9 g27) (q1 aE (qZ ?_))
    cases aX H
    exact bE
   iterate 2 refine qk g24 ?_
   refine q1 (b9 g24) (q1 aE ?_)
   iterate 2 refine qk rfl ?_
   refine q1 (b9 rfl) (q1 aE (qZ ?_))
   cases aX H
   exact bE
  iterate 2 refine qk g21 ?_
  refine q1 (b9 g21) (q1 aE ?_)
  iterate 2 refine qk rfl ?_
  refine q1 (b9 rfl) (q1 aE ?_)
  iterate 2 refine qk rfl ?_
  refine q1 (b9 rfl) (q1 aE (qZ ?_))
  cases aX H
  exact bE
 iterate 2 refine qk g18 ?_
 refine q1 (b9 g18) (q1 aE ?_)
 iterate 2 refine qk rfl ?_
 refine q1 (b9 rfl) (q1 aE ?_)
 iterate 2 refine qk rfl ?_
 refine q1 (b9 rfl) (q1 aE ?_)
 iterate 2 refine qk rfl ?_
 refine q1 (b9 rfl) (q1 aE (qZ ?_))
 cases aX H
 exact bE
def M8(m:aA→Option (aJ×Bool)):Prop:= ∀(pa0:aA) (r:aJ×Bool),m pa0=some r→b4 Tryz.prog 208 [(aA.pv pa0)] (.tup [(aJ.pv r.1),pB r.2]:PV)
def KX(fu:Nat)(pa0 x2:aA)(x4:LB)(x5:Bool)(x7:aA)(x9:Bool):Nat→(ByteArray×(LB)×(List aP)×(List aH)×(List aL)×(List aK))→Option (LR (ByteArray×(LB)×(List aP)×(List aH)×(List aL)×(List aK)) (aJ×Bool)):=
 fun i17 (v18,v19,v24,v25,v26,v27)=>bd (LF fu (v18,v19,v24,v25,v26,v27) (aW pa0.gList i17)) (fun(x31,x32)=>
 sw (!(x31))
 (some (.ret ((aJ.mk s_ [] [] [] [] []),false)))
 (some (.next (x32.1,x32.2.1,x32.2.2.1,x32.2.2.2.1,x32.2.2.2.2.1,x32.2.2.2.2.2))))
def KY(fu:Nat)(pa0 x2:aA)(x4:LB)(x5:Bool)(x7:aA)(x9:Bool):Option ((aJ×Bool)⊕(ByteArray×(LB)×(List aP)×(List aH)×(List aL)×(List aK))):=
 loopN (KX fu pa0 x2 x4 x5 x7 x9) (pa0.gList.length-3) 3 (x7.gAtom,x4,([]),([]),([]),([]))
def uF(fu:Nat)(pa0:aA):Option (aJ×Bool):=
 bd (dJ fu pa0 2) (fun x2=>
 bd (zW fu x2.gList) (fun(x4,x5)=>
 bd (dJ fu pa0 1) (fun x7=>
 bd (iP fu pa0) (fun x9=>
 sw (!(x9))
 (some ((aJ.mk s_ [] [] [] [] []),false))
 (sw (decide ((pa0.gList.length:Int)<3))
 (some ((aJ.mk s_ [] [] [] [] []),false))
 (gd (0<(pa0.gList).length)
 (sw (!decide ((aW pa0.gList 0).gAtom=YD))
 (some ((aJ.mk s_ [] [] [] [] []),false))
 (gd (2<(pa0.gList).length)
 (sw (!decide ((aW pa0.gList 2).gAtom=s_))
 (some ((aJ.mk s_ [] [] [] [] []),false))
 (sw (!(x5))
 (some ((aJ.mk s_ [] [] [] [] []),false))
 (so (KY fu pa0 x2 x4 x5 x7 x9) (fun(v18,v19,v24,v25,v26,v27)=>
 bd (uE fu (aJ.mk v18 v19 v24 v25 v26 v27)) (fun x35=>
 sw (!(x35))
 (some ((aJ.mk s_ [] [] [] [] []),false))
 (some ((aJ.mk v18 v19 v24 v25 v26 v27),true)))))))))))))))
theorem KZ(fu:Nat):M8 (uF fu):=by
 intro pa0 r H
 have H:=eE H
 refine qI func208 (fun C hC=>?_)
 refine qW (q1 (iM ([pS pa0.gAtom,bF pa0.gList])) (q1 (fO qL) (q1 aE (qN (qW (q1 (cJ [pS pa0.gAtom,bF pa0.gList] bU) (bI H fun x2 z1 H=>(q1 (bG func219 (cY fu pa0 2 _ z1)) (q1 (rF1 ZC) (fZ H fun x4 x5 z3 H=>(q1 (bG func218 (GH fu x2.gList _ z3)) ?_)))))))))))
 refine q1 aE ?_
 iterate 2 refine q1 AK ?_
 iterate 2 refine q1 aE ?_
 refine qN (qW (q1 (cJ [pS pa0.gAtom,bF pa0.gList] bU) (bI H fun x7 z6 H=>(q1 (bG func219 (cY fu pa0 1 _ z6)) (q1 (rF1 tX) (q1 aE (q1 (gW qL IZ) (q1 (fO qL) (q1 (bR sF) (qN ?_))))))))))
 refine qS (qS (qR (q1 (cJ [pS pa0.gAtom,bF pa0.gList] bU) (bI H fun x9 z8 H=>(q1 (bG func217 (c7 fu pa0 _ z8)) (q1 hQ (q1 aE ?_)))))))
 refine eF 23 H (fun g10 H=>?_) fun g10 H=>?_
 ·refine qk g10 ?_
  iterate 3 refine qk g10 ?_
  refine q1 (bV g10) (q1 aE ?_)
  iterate 6 refine qk rfl ?_
  refine q1 (bV rfl) (q1 aE ?_)
  iterate 6 refine qk rfl ?_
  refine q1 (bV rfl) (q1 aE ?_)
  iterate 2 refine qk rfl ?_
  refine q1 (bV rfl) (qN (eL rfl (qW (q1 (gW qL IZ) (q1 (bR sF) (q1 aE (qZ ?_)))))))
  cases aX H
  exact tT (hr:=⟨⟨_,_,_,rfl,rfl,nO,rfl,rfl⟩,rfl,trivial⟩)
 refine qg g10 (a5 bK) (qg g10 (bD cX) (qg g10 (dL bL (aA.trs_len _)) (qg g10 gI (q1 (b9 g10) (q1 aE ?_)))))
 refine eF 29 H (fun g11 H=>?_) fun g11 H=>?_
 ·have g11n:pa0.gList.length<3:=by have:=of_decide_eq_true g11;omega
  iterate 6 refine qk g11 ?_
  refine q1 (bV g11) (q1 aE ?_)
  iterate 6 refine qk rfl ?_
  refine q1 (bV rfl) (q1 aE ?_)
  iterate 2 refine qk rfl ?_
  refine q1 (bV rfl) (qN (eL rfl (qW (q1 (gW qL IZ) (q1 (bR sF) (q1 aE (qZ ?_)))))))
  cases aX H
  exact tT (hr:=⟨⟨_,_,_,rfl,rfl,nO,rfl,rfl⟩,rfl,trivial⟩)
 refine qg g11 (a5 bK) (qg g11 (bD cX) (dK H fun z12 H=>(qg g11 (kP z12 bL) (qg g11 (lR fT) (qg g11 (kQ eJ) (qg g11 WA (q1 (b9 g11) (q1 aE ?_))))))))
 refine eF 37 H (fun g13 H=>?_) fun g13 H=>?_
 ·refine qk g13 ?_
  iterate 5 refine qk g13 ?_
  refine q1 (bV g13) (q1 aE ?_)
  iterate 2 refine qk rfl ?_
  refine q1 (bV rfl) (qN (eL rfl (qW (q1 (gW qL IZ) (q1 (bR sF) (q1 aE (qZ ?_)))))))
  cases aX H
  exact tT (hr:=⟨⟨_,_,_,rfl,rfl,nO,rfl,rfl⟩,rfl,trivial⟩)
 refine qg g13 (a5 bK) (qg g13 (bD cX) (dK H fun z14 H=>(qg g13 (kP z14 bL) (qg g13 (lR fT) (qg g13 (kQ eJ) (qg g13 WA (q1 (b9 g13) (q1 aE ?_))))))))
 refine eF 45 H (fun g15 H=>?_) fun g15 H=>?_
 ·refine qk g15 (qk g15 (q1 (bV g15) (qN (eL rfl (qW (q1 (gW qL IZ) (q1 (bR sF) (q1 aE (qZ ?_)))))))))
  cases aX H
  exact tT (hr:=⟨⟨_,_,_,rfl,rfl,nO,rfl,rfl⟩,rfl,trivial⟩)
 refine qg g15 aE (qg g15 hQ (q1 (b9 g15) (qN ?_)))
 refine a8 H (fun h16 H=>?_) (fun h16 H=>?_)
 ·refine qW (q1 (gW qL IZ) (q1 (bR sF) (q1 aE (qZ ?_))))
  cases aX H
  exact tT (hr:=⟨⟨_,_,_,rfl,rfl,nO,rfl,rfl⟩,rfl,trivial⟩)
 refine aR.skip ?_
 refine qS (qS (qR (q1 aE (qN (aR.wk (Wk.regBox (k:=2) (j:=2) 60 5 (by decide) rfl rfl) (aR.wk (Wk.regBox (k:=2) (j:=3) 116 3 (by decide) rfl rfl) (aR.wk (Wk.regBox (k:=2) (j:=4) 55 12 (by decide) rfl rfl) (aR.wk (Wk.regBox (k:=2) (j:=5) 148 16 (by decide) rfl rfl) ?_))))))))
 refine lD 25 (aA.trs_len _) (fun hl28=>?_)
 refine b0 (σ:=ByteArray×(LB)×(List aP)×(List aH)×(List aL)×(List aK)) (fun i17 (v18,v19,v24,v25,v26,v27)=>⟨[(1,.ptr 0 0),(2,.ptr 1 0),(3,pB false),(6,.ptr 2 0),(7,pN i17)],⟨[some ⟨237,[pS pa0.gAtom,bF pa0.gList]⟩,some ⟨131,[pS s_,.nil,.nil,.nil,.nil,.nil]⟩,some ⟨131,[pS v18,rS v19,yU v24 0,nD v25 1,nF v26 2,nE v27 3]⟩],[⟨60,5,aP.trs (v24),false⟩,⟨116,3,aH.trs (v25),false⟩,⟨55,12,aL.trs (v26),false⟩,⟨148,16,aK.trs (v27),false⟩]⟩⟩) (fun(v18,v19,v24,v25,v26,v27)=>⟨[(2,.ptr 1 0),(3,pB false),(6,.ptr 2 0)],⟨[some ⟨237,[pS pa0.gAtom,bF pa0.gList]⟩,some ⟨131,[pS s_,.nil,.nil,.nil,.nil,.nil]⟩,some ⟨131,[pS v18,rS v19,yU v24 0,nD v25 1,nF v26 2,nE v27 3]⟩],[⟨60,5,aP.trs (v24),false⟩,⟨116,3,aH.trs (v25),false⟩,⟨55,12,aL.trs (v26),false⟩,⟨148,16,aK.trs (v27),false⟩]⟩⟩) (fK H) ?_ ?_
 ·rintro i17 ⟨v18,v19,v24,v25,v26,v27⟩ H
  refine qS (qS (qR (q1 aE (q1 (a5 bK) (q1 (bD cX) (q1 (dL bL (aA.trs_len _)) (q1 gI (qN ?_))))))))
  refine dG H (fun h29 h29l H=>?_) (fun h29 H=>?_)
  ·have h29n:=a4 h29
   refine aR.skip (qS (aR.block (qW (q1 (a5 bK) (q1 (bD cX) (q1 aE (q1 (kP h29n bL) (q1 (kM (aA.cs (aW pa0.gList i17)) bU) (fZ H fun x31 x32 z30 H=>(q1 (iF [2] [0,1,2,3] func220 (aeZ fu (v18,v19,v24,v25,v26,v27) (aW pa0.gList i17) _ z30)) (q1 hQ (qN ?_))))))))))))
   refine a8 H (fun h33 H=>?_) (fun h33 H=>?_)
   ·refine qW (q1 (gW qL IZ) (q1 (bR sF) (q1 aE (qZ ?_))))
    obtain rfl:_=r:=(mT (aX H):)
    exact tT (hr:=⟨⟨_,_,_,rfl,rfl,nO,rfl,rfl⟩,rfl,trivial⟩)
   refine aR.skip (qR (q1 aE (q1 (rA (i17+1)) (q1 aE (qN ?_)))))
   exact iI h29l ⟨_,(aX H:),bW⟩
  refine aR.exit ?_;exact jJ ⟨_,H,bW⟩
 rintro⟨v18,v19,v24,v25,v26,v27⟩ H
 refine qS (qS (qR (q1 (cJ [pS v18,rS v19,yU v24 0,nD v25 1,nF v26 2,nE v27 3] nO) (bI H fun x35 z34 H=>(q1 (bG func221 (KT fu (aJ.mk v18 v19 v24 v25 v26 v27) _ z34)) (q1 hQ (qN ?_)))))))
 refine a8 H (fun h36 H=>?_) (fun h36 H=>?_)
 ·refine qW (q1 (gW qL IZ) (q1 (bR sF) (q1 aE (qZ ?_))))
  cases aX H
  exact tT (hr:=⟨⟨_,_,_,rfl,rfl,nO,rfl,rfl⟩,rfl,trivial⟩)
 refine aR.skip (qW (q1 (cJ [pS v18,rS v19,yU v24 0,nD v25 1,nF v26 2,nE v27 3] nO) (q1 (bR sF) (q1 aE (qZ ?_)))))
 cases aX H
 exact tT (hr:=⟨⟨_,_,_,rfl,rfl,nO,rfl,rfl⟩,rfl,trivial⟩)
def SN(m:ByteArray→Option (aJ×Bool)):Prop:= ∀(ps:ByteArray) (r:aJ×Bool),m ps=some r→b4 Tryz.prog 193 [pS ps] (.tup [(aJ.pv r.1),pB r.2]:PV)
def wY(fu:Nat)(ps:ByteArray):Option (aJ×Bool):=
 bd (vP fu ps) (fun(x2,x3)=>
 sw (!(x3))
 (some ((aJ.mk s_ [] [] [] [] []),false))
 (bd (uF fu x2) (fun(x6,x7)=>
 some (x6,x7))))
theorem PK(fu:Nat):SN (wY fu):=by
 intro ps r H
 have H:=eE H
 refine qI func193 (fun C hC=>?_)
 refine qW (q1 (fO qL) (q1 aE (qN (qW (q1 aE (fZ H fun x2 x3 z1 H=>(q1 (bG func207 (U9 fu ps _ z1)) (q1 aE ?_))))))))
 iterate 2 refine q1 AK ?_
 refine q1 (fO cD) (q1 (bR eO) (q1 aE (qN ?_)))
 refine qS (qS (qR (q1 aE (q1 hQ (qN ?_)))))
 refine a8 H (fun h4 H=>?_) (fun h4 H=>?_)
 ·refine qW (q1 (gW qL IZ) (q1 (bR sF) (q1 aE (qZ ?_))))
  cases aX H
  exact tT (hr:=⟨⟨_,_,_,rfl,rfl,nO,rfl,rfl⟩,rfl,trivial⟩)
 refine aR.skip (qW (q1 (cJ [pS x2.gAtom,bF x2.gList] bU) (fZ H fun x6 x7 z5 H=>(q1 (bG func208 (KZ fu x2 _ z5)) ?_))))
 iterate 2 refine q1 AK ?_
 refine q1 (bR sF) (q1 aE (qZ ?_))
 cases aX H
 exact tT (hr:=⟨⟨_,_,_,rfl,rfl,nO,rfl,rfl⟩,rfl,trivial⟩)
def SO(m:ByteArray→Option (aF×Int)):Prop:= ∀(ps:ByteArray) (r:aF×Int),m ps=some r→CV Tryz.prog 165 [pS ps] ⟨[],[]⟩ [] 131 6 (aJ.trs (r.1.gPackages)) (fun k=> .tup [.agg [r4 r.1.gPackages k],pI r.2])
def PM(fu:Nat)(ps:ByteArray)(x2:LB):Nat→((List aJ))→Option (LR ((List aJ)) (aF×Int)):=
 fun i3 v5=>bd (F8 fu (aW x2 i3)) (fun x9=>
 sw (x9)
 (some (.next v5))
 (bd (wY fu (aW x2 i3)) (fun(x12,x13)=>
 sw (!(x13))
 (some (.ret ((aF.mk []),(v5.length:Int))))
 (sw (decide ((v5.length:Int)=5))
 (some (.ret ((aF.mk []),(v5.length:Int))))
 (gd ((v5).length+(([x12]:List aJ)).length≤68719476736)
 (some (.next (v5++([x12]:List aJ)))))))))
def PN(fu:Nat)(ps:ByteArray)(x2:LB):Option ((aF×Int)⊕((List aJ))):=
 loopN (PM fu ps x2) (x2.length-0) 0 ([])
def wZ(fu:Nat)(ps:ByteArray):Option (aF×Int):=
 bd (DY fu ps (10:UInt8)) (fun x2=>
 so (PN fu ps x2) (fun v5=>
 some ((aF.mk v5),(-1))))
theorem PO(fu:Nat):SO (wZ fu):=by
 intro ps r H
 unfold CV
 have H:=eE H
 refine qI func165 (fun C hC=>?_)
 refine qW (q1 (fO NS) (q1 aE (qN (qW (q1 (gW NS arD) (q1 (fO NS) (q1 (bR GJ) (qN (qW (q1 aE ?_))))))))))
 refine bI H fun x2 z1 H=>(q1 (bG func191 (XA fu ps (10:UInt8) _ z1)) (q1 aE (qN ?_)))
 refine qS (qS (qR (q1 aE (qN (aR.wk (Wk.regBox (k:=1) (j:=0) 131 6 (by decide) rfl rfl) ?_)))))
 refine lD 5 (bC _) (fun hl6=>?_)
 refine b0 (σ:=(List aJ)) (fun i3 v5=>⟨[(2,.ptr 0 0),(3,pI 0),(4,.ptr 1 0),(5,rS x2),(6,pN i3)],⟨[some ⟨26,[.nil]⟩,some ⟨26,[r4 v5 0]⟩],[⟨131,6,aJ.trs (v5),false⟩]⟩⟩) (fun v5=>⟨[(2,.ptr 0 0),(3,pI 0),(4,.ptr 1 0)],⟨[some ⟨26,[.nil]⟩,some ⟨26,[r4 v5 0]⟩],[⟨131,6,aJ.trs (v5),false⟩]⟩⟩) (fK H) ?_ ?_
 ·rintro i3 v5 H
  refine qS (qS (qR ?_))
  iterate 2 refine q1 aE ?_
  refine q1 (dL b3 (bC _)) (q1 gI (qN ?_))
  refine dG H (fun h7 h7l H=>?_) (fun h7 H=>?_)
  ·have h7n:=a4 h7
   refine aR.skip (qS (aR.block ?_))
   refine qS (qS (qR ?_))
   iterate 2 refine q1 aE ?_
   refine q1 (kP h7n b3) (q1 (kQ eJ) (bI H fun x9 z8 H=>(q1 (bG func192 (aaU fu (aW x2 i3) _ z8)) (qN ?_))))
   refine a8 H (fun h10 H=>?_) (fun h10 H=>?_)
   ·refine aR.exit (qR (q1 aE (q1 (rA (i3+1)) (q1 aE (qN ?_)))))
    exact iI h7l ⟨_,(aX H:),bW⟩
   refine aR.skip (qS (qR ?_))
   iterate 2 refine q1 aE ?_
   refine q1 (kP h7n b3) (q1 (kQ eJ) (fZ H fun x12 x13 z11 H=>(q1 (bG func193 (PK fu (aW x2 i3) _ z11)) (q1 aE ?_))))
   iterate 2 refine q1 AK ?_
   refine q1 (fO qL) (q1 (bR sF) (q1 aE (qN ?_)))
   refine qS (qS (qR (q1 aE (q1 hQ (q1 aE ?_)))))
   refine eF 33 H (fun g14 H=>?_) fun g14 H=>?_
   ·refine qk g14 ?_
    iterate 3 refine qk g14 ?_
    refine q1 (bV g14) (qN (eL rfl (qS (dW (dI [] (gW NS arD) (dI [4] (a5 fR) (dB [40] 0 1 (wL pP) (dI [41] (dL mG (aJ.trs_len _)) (lH [2,39] (bR GJ) (dI [42] aE (dN (aR.wk (Wk.regBox (k:=0) (j:=0) 131 6 (by decide) rfl rfl) (aR.ret ?_)))))))))))))
    obtain rfl:_=r:=(mT (aX H):)
    exact tT (st':=⟨[],[⟨131,6,aJ.trs (v5),false⟩,⟨131,6,aJ.trs ([]),false⟩]⟩) ⟨1,rfl,rfl,rfl⟩ (hr:=⟨⟨_,_,_,rfl,rfl,hZ,rfl,rfl⟩,rfl,trivial⟩)
   refine qg g14 (a5 fR) (qg g14 (bD pP) (qg g14 (dL mG (aJ.trs_len _)) (qg g14 dM (q1 (b9 g14) (qN ?_)))))
   refine a8 H (fun h15 H=>?_) (fun h15 H=>?_)
   ·refine qS (dW (dI [] (gW NS arD) (dI [4] (a5 fR) (dB [40] 0 1 (wL pP) (dI [41] (dL mG (aJ.trs_len _)) (lH [2,39] (bR GJ) (dI [42] aE (dN (aR.wk (Wk.regBox (k:=0) (j:=0) 131 6 (by decide) rfl rfl) (aR.ret ?_))))))))))
    obtain rfl:_=r:=(mT (aX H):)
    exact tT (st':=⟨[],[⟨131,6,aJ.trs (v5),false⟩,⟨131,6,aJ.trs ([]),false⟩]⟩) ⟨1,rfl,rfl,rfl⟩ (hr:=⟨⟨_,_,_,rfl,rfl,hZ,rfl,rfl⟩,rfl,trivial⟩)
   refine aR.skip (qR (q1 (a5 fR) (q1 (bD pP) (q1 (cJ [pS x12.gName,rS x12.gDeps,O7 x12.gTraits,iJ x12.gDataTypes,yL x12.gInstances,yK x12.gFunctions] nO) (q1 (uK ([x12]:List aJ) mG qL) (dK H fun z16 H=>(q1 (nV z16 mG asT) (q1 (a5 fR) (q1 (bR asK) (qN (qR (q1 aE (q1 (rA (i3+1)) ?_)))))))))))))
   refine q1 aE (qN ?_)
   exact iI h7l ⟨_,(aX H:),bW⟩
  refine aR.exit ?_;exact jJ ⟨_,H,bW⟩
 rintro v5 H
 refine qW (q1 (cJ [r4 v5 0] hZ) (q1 (bR GJ) (q1 aE (qZ ?_))))
 cases aX H
 exact tT (st':=⟨[],[⟨131,6,aJ.trs (v5),false⟩]⟩) ⟨0,rfl,rfl,rfl⟩ (hr:=⟨⟨_,_,_,rfl,rfl,hZ,rfl,rfl⟩,rfl,trivial⟩)
def ahU(m:DS→Option (ByteArray×DS)):Prop:= ∀(pc:DS) (r:ByteArray×DS),m pc=some r→c6 Tryz.prog 194 [.ptr 0 0] ⟨[some ⟨151,dC pc⟩],[]⟩ (fun q t=>q=(pS r.1:PV)∧t=⟨[some ⟨151,dC r.2⟩],[]⟩)
def LE(fu:Nat)(pc:DS):Option (ByteArray×DS):=
 gd ((cQ).size+(cR).size≤1099511627776)
 (gd ((cQ++cR).size+(cW).size≤1099511627776)
 (gd (((cQ++cR)++cW).size+(cZ).size≤1099511627776)
 (lt (pc.after 2) (fun d4=>
 sw (decide (pc.below 2=0))
 (gd ((((cQ++cR)++cW)++cZ).size+(jO).size≤1099511627776)
 (gd (((((cQ++cR)++cW)++cZ)++jO).size+(dX).size≤1099511627776)
 (gd ((((((cQ++cR)++cW)++cZ)++jO)++dX).size+(fB).size≤1099511627776)
 (gd (((((((cQ++cR)++cW)++cZ)++jO)++dX)++fB).size+(gH).size≤1099511627776)
 (gd ((((((((cQ++cR)++cW)++cZ)++jO)++dX)++fB)++gH).size+(iT).size≤1099511627776)
 (gd (((((((((cQ++cR)++cW)++cZ)++jO)++dX)++fB)++gH)++iT).size+(lC).size≤1099511627776)
 (gd ((((((((((cQ++cR)++cW)++cZ)++jO)++dX)++fB)++gH)++iT)++lC).size+(oT).size≤1099511627776)
 (gd (((((((((((cQ++cR)++cW)++cZ)++jO)++dX)++fB)++gH)++iT)++lC)++oT).size+(AB).size≤1099511627776)
 (some ((((((((((((cQ++cR)++cW)++cZ)++jO)++dX)++fB)++gH)++iT)++lC)++oT)++AB),d4))))))))))
 (gd ((((cQ++cR)++cW)++cZ).size+(jP).size≤1099511627776)
 (gd (((((cQ++cR)++cW)++cZ)++jP).size+(dX).size≤1099511627776)
 (gd ((((((cQ++cR)++cW)++cZ)++jP)++dX).size+(fB).size≤1099511627776)
 (gd (((((((cQ++cR)++cW)++cZ)++jP)++dX)++fB).size+(gH).size≤1099511627776)
 (gd ((((((((cQ++cR)++cW)++cZ)++jP)++dX)++fB)++gH).size+(iT).size≤1099511627776)
 (gd (((((((((cQ++cR)++cW)++cZ)++jP)++dX)++fB)++gH)++iT).size+(lC).size≤1099511627776)
 (gd ((((((((((cQ++cR)++cW)++cZ)++jP)++dX)++fB)++gH)++iT)++lC).size+(oT).size≤1099511627776)
 (gd (((((((((((cQ++cR)++cW)++cZ)++jP)++dX)++fB)++gH)++iT)++lC)++oT).size+(AB).size≤1099511627776)
 (some ((((((((((((cQ++cR)++cW)++cZ)++jP)++dX)++fB)++gH)++iT)++lC)++oT)++AB),d4))))))))))))))
theorem aeY(fu:Nat):ahU (LE fu):=by
 intro pc r H
 have H:=eE H
 refine qI func194 (fun C hC=>?_)
 refine qW (q1 aE (qN (qW (q1 aE (qN (qW (q1 aE (dK H fun z1 H=>(q1 (a3.addS rfl rfl rfl rfl (Nat.le_trans z1 (by decide))) (q1 aE ?_))))))))))
 refine qN (qW (q1 aE (dK H fun z2 H=>(q1 (a3.addS rfl rfl rfl rfl (Nat.le_trans z2 (by decide))) (q1 aE (qN (qW (q1 aE (dK H fun z3 H=>(q1 (a3.addS rfl rfl rfl rfl (Nat.le_trans z3 (by decide))) (q1 aE ?_)))))))))))
 refine qN ?_
 refine qS (qS (qR (q1 aE (fP H fun d4 h5 H=>(q1 (iF [0] [] func112 (BG h5 (nB pc 2))) (qN ?_))))))
 refine a8 H (fun h6 H=>?_) (fun h6 H=>?_)
 ·refine qR (q1 aE (dK H fun z7 H=>(q1 (a3.addS rfl rfl rfl rfl (Nat.le_trans z7 (by decide))) (q1 aE (qN (qW (q1 aE (dK H fun z8 H=>(q1 (a3.addS rfl rfl rfl rfl (Nat.le_trans z8 (by decide))) (q1 aE (qN (qS ?_))))))))))))
  refine qR (q1 aE (dK H fun z9 H=>(q1 (a3.addS rfl rfl rfl rfl (Nat.le_trans z9 (by decide))) (q1 aE (qN (qW (q1 aE (dK H fun z10 H=>(q1 (a3.addS rfl rfl rfl rfl (Nat.le_trans z10 (by decide))) (q1 aE (qN (qS ?_))))))))))))
  refine qR (q1 aE (dK H fun z11 H=>(q1 (a3.addS rfl rfl rfl rfl (Nat.le_trans z11 (by decide))) (q1 aE (qN (qW (q1 aE (dK H fun z12 H=>(q1 (a3.addS rfl rfl rfl rfl (Nat.le_trans z12 (by decide))) (q1 aE (qN (qS ?_))))))))))))
  refine qR (q1 aE (dK H fun z13 H=>(q1 (a3.addS rfl rfl rfl rfl (Nat.le_trans z13 (by decide))) (q1 aE (qN (qW (q1 aE (dK H fun z14 H=>(q1 (a3.addS rfl rfl rfl rfl (Nat.le_trans z14 (by decide))) (q1 aE (qZ ?_)))))))))))
  cases aX H
  exact bE
 refine qR (q1 aE (dK H fun z15 H=>(q1 (a3.addS rfl rfl rfl rfl (Nat.le_trans z15 (by decide))) (q1 aE (qN (qW (q1 aE (dK H fun z16 H=>(q1 (a3.addS rfl rfl rfl rfl (Nat.le_trans z16 (by decide))) (q1 aE (qN (qS ?_))))))))))))
 refine qR (q1 aE (dK H fun z17 H=>(q1 (a3.addS rfl rfl rfl rfl (Nat.le_trans z17 (by decide))) (q1 aE (qN (qW (q1 aE (dK H fun z18 H=>(q1 (a3.addS rfl rfl rfl rfl (Nat.le_trans z18 (by decide))) (q1 aE (qN (qS ?_))))))))))))
 refine qR (q1 aE (dK H fun z19 H=>(q1 (a3.addS rfl rfl rfl rfl (Nat.le_trans z19 (by decide))) (q1 aE (qN (qW (q1 aE (dK H fun z20 H=>(q1 (a3.addS rfl rfl rfl rfl (Nat.le_trans z20 (by decide))) (q1 aE (qN (qS ?_))))))))))))
 refine qR (q1 aE (dK H fun z21 H=>(q1 (a3.addS rfl rfl rfl rfl (Nat.le_trans z21 (by decide))) (q1 aE (qN (qW (q1 aE (dK H fun z22 H=>(q1 (a3.addS rfl rfl rfl rfl (Nat.le_trans z22 (by decide))) (q1 aE (qZ ?_)))))))))))
 cases aX H
 exact bE
def alW(m:DS→Option (ByteArray×DS)):Prop:= ∀(pc:DS) (r:ByteArray×DS),m pc=some r→c6 Tryz.prog 195 [.ptr 0 0] ⟨[some ⟨151,dC pc⟩],[]⟩ (fun q t=>q=(pS r.1:PV)∧t=⟨[some ⟨151,dC r.2⟩],[]⟩)
def ahQ(fu:Nat)(pc:DS):Option ((ByteArray×DS)⊕(ByteArray×DS)):=
 lt (pc.after 8) (fun d3=>
 sw (decide ((pc.below 8:Int)=0))
 (gd ((fA).size+(MD).size≤1099511627776)
 (some (.inr ((fA++MD),d3))))
 (sw (decide ((pc.below 8:Int)=1))
 (gd ((fA).size+(MB).size≤1099511627776)
 (some (.inr ((fA++MB),d3))))
 (sw (decide ((pc.below 8:Int)=2))
 (gd ((fA).size+(L5).size≤1099511627776)
 (some (.inr ((fA++L5),d3))))
 (sw (decide ((pc.below 8:Int)=3))
 (gd ((fA).size+(L7).size≤1099511627776)
 (some (.inr ((fA++L7),d3))))
 (sw (decide ((pc.below 8:Int)=4))
 (gd ((fA).size+(L6).size≤1099511627776)
 (some (.inr ((fA++L6),d3))))
 (sw (decide ((pc.below 8:Int)=5))
 (gd ((fA).size+(MA).size≤1099511627776)
 (some (.inr ((fA++MA),d3))))
 (gd ((fA).size+(L8).size≤1099511627776)
 (some (.inr ((fA++L8),d3))))))))))
def ahR(fu:Nat)(pc:DS)(v1:ByteArray)(v2 d19:DS)(y21:ByteArray):Option ((ByteArray×DS)⊕(ByteArray×DS)):=
 lt (d19.after 2) (fun d27=>
 sw (decide (d19.below 2=0))
 (gd ((((v1++oQ)++y21)++AB).size+(L9).size≤1099511627776)
 (some (.inr (((((v1++oQ)++y21)++AB)++L9),d27))))
 (some (.inr ((((v1++oQ)++y21)++AB),d27))))
def ahS(fu:Nat)(pc:DS)(v1:ByteArray)(v2 d19:DS)(y21 v25:ByteArray)(v26:DS):Option ((ByteArray×DS)⊕(ByteArray×DS)):=
 lt (v26.after 3) (fun d33=>
 sw (decide (v26.below 3=0))
 (gd ((v25).size+(MC).size≤1099511627776)
 (some (.inr ((v25++MC),d33))))
 (some (.inr (v25,d33))))
def P9(fu:Nat)(pc:DS):Option (ByteArray×DS):=
 so (ahQ fu pc) (fun(v1,v2)=>
 gd ((v1).size+(oQ).size≤1099511627776)
 (lt (v2.after ([B6,B5,B3,B7,BZ,CA,CB,B8,B9,BY]:LB).length) (fun d19=>
 lt (v2.pick ([B6,B5,B3,B7,BZ,CA,CB,B8,B9,BY]:LB)) (fun y21=>
 gd ((v1++oQ).size+(y21).size≤1099511627776)
 (gd (((v1++oQ)++y21).size+(AB).size≤1099511627776)
 (so (ahR fu pc v1 v2 d19 y21) (fun(v25,v26)=>
 so (ahS fu pc v1 v2 d19 y21 v25 v26) (fun(v31,v32)=>
 lt (v32.after 4) (fun d37=>
 sw (decide (v32.below 4=0))
 (gd ((v31).size+(B4).size≤1099511627776)
 (gd ((v31++B4).size+(AB).size≤1099511627776)
 (some (((v31++B4)++AB),d37))))
 (gd ((v31).size+(AB).size≤1099511627776)
 (some ((v31++AB),d37))))))))))))
theorem ahT(fu:Nat):alW (P9 fu):=by
 intro pc r H
 have H:=eE H
 refine qI func195 (fun C hC=>?_)
 refine qW (q1 aE (qN (qW (q1 aE (qN (qS ?_))))))
 refine rR (σ:=ByteArray×DS) (fun(v1,v2)=>⟨[(0,.ptr 0 0),(2,pS s_),(3,pS v1)],⟨[some ⟨151,dC v2⟩],[]⟩⟩) (fK H) (fun H=>?_) ?_
 ·refine qW (q1 aE (fP H fun d3 h4 H=>(q1 (iF [0] [] func103 (BG h4 (eQ pc 8))) (qN (aR.block (qW (q1 dM (q1 aE (qN ?_)))))))))
  refine a8 H (fun h5 H=>?_) (fun h5 H=>?_)
  ·refine qR (q1 aE (dK H fun z6 H=>(q1 (a3.addS rfl rfl rfl rfl (Nat.le_trans z6 (by decide))) (q1 aE (qN ?_)))))
   exact dY ⟨_,(aX H:),bW⟩
  refine qW (q1 dM (q1 aE (qN ?_)))
  refine a8 H (fun h7 H=>?_) (fun h7 H=>?_)
  ·refine qR (q1 aE (dK H fun z8 H=>(q1 (a3.addS rfl rfl rfl rfl (Nat.le_trans z8 (by decide))) (q1 aE (qN ?_)))))
   exact dY ⟨_,(aX H:),bW⟩
  refine qW (q1 dM (q1 aE (qN ?_)))
  refine a8 H (fun h9 H=>?_) (fun h9 H=>?_)
  ·refine qR (q1 aE (dK H fun z10 H=>(q1 (a3.addS rfl rfl rfl rfl (Nat.le_trans z10 (by decide))) (q1 aE (qN ?_)))))
   exact dY ⟨_,(aX H:),bW⟩
  refine qW (q1 dM (q1 aE (qN ?_)))
  refine a8 H (fun h11 H=>?_) (fun h11 H=>?_)
  ·refine qR (q1 aE (dK H fun z12 H=>(q1 (a3.addS rfl rfl rfl rfl (Nat.le_trans z12 (by decide))) (q1 aE (qN ?_)))))
   exact dY ⟨_,(aX H:),bW⟩
  refine qW (q1 dM (q1 aE (qN ?_)))
  refine a8 H (fun h13 H=>?_) (fun h13 H=>?_)
  ·refine qR (q1 aE (dK H fun z14 H=>(q1 (a3.addS rfl rfl rfl rfl (Nat.le_trans z14 (by decide))) (q1 aE (qN ?_)))))
   exact dY ⟨_,(aX H:),bW⟩
  refine qW (q1 dM (q1 aE (qN ?_)))
  refine a8 H (fun h15 H=>?_) (fun h15 H=>?_)
  ·refine qR (q1 aE (dK H fun z16 H=>(q1 (a3.addS rfl rfl rfl rfl (Nat.le_trans z16 (by decide))) (q1 aE (qN ?_)))))
   exact dY ⟨_,(aX H:),bW⟩
  refine qR (q1 aE (dK H fun z17 H=>(q1 (a3.addS rfl rfl rfl rfl (Nat.le_trans z17 (by decide))) (q1 aE (qN ?_)))))
  exact dY ⟨_,(aX H:),bW⟩
 rintro⟨v1,v2⟩ H
 refine qW (q1 aE (dK H fun z18 H=>(q1 (a3.addS rfl rfl rfl rfl (Nat.le_trans z18 (by decide))) (q1 aE (q1 (j9 ([B6,B5,B3,B7,BZ,CA,CB,B8,B9,BY]:LB) b3 lU) (fP H fun d19 h20 H=>(fP H fun y21 h22 H=>(q1 (iF [0] [] func86 (Q7 h20 h22 (iE v2 ([B6,B5,B3,B7,BZ,CA,CB,B8,B9,BY]:LB) (by decide)))) (dK H fun z23 H=>(q1 (a3.addS rfl rfl rfl rfl (Nat.le_trans z23 (by decide))) (dK H fun z24 H=>(q1 (a3.addS rfl rfl rfl rfl (Nat.le_trans z24 (by decide))) ?_))))))))))))
 refine q1 aE (qN (qS ?_))
 refine rR (σ:=ByteArray×DS) (fun(v25,v26)=>⟨[(0,.ptr 0 0),(2,pS s_),(3,pS v25)],⟨[some ⟨151,dC v26⟩],[]⟩⟩) (fK H) (fun H=>?_) ?_
 ·refine qW (q1 aE (fP H fun d27 h28 H=>(q1 (iF [0] [] func112 (BG h28 (nB d19 2))) (qN ?_))))
  refine a8 H (fun h29 H=>?_) (fun h29 H=>?_)
  ·refine qR (q1 aE (dK H fun z30 H=>(q1 (a3.addS rfl rfl rfl rfl (Nat.le_trans z30 (by decide))) (q1 aE (qN ?_)))))
   exact dY ⟨_,(aX H:),bW⟩
  refine aR.skip ?_;exact dY ⟨_,(aX H:),bW⟩
 rintro⟨v25,v26⟩ H
 refine qS ?_;refine rR (σ:=ByteArray×DS) (fun(v31,v32)=>⟨[(0,.ptr 0 0),(2,pS s_),(3,pS v31)],⟨[some ⟨151,dC v32⟩],[]⟩⟩) (fK H) (fun H=>?_) ?_
 ·refine qW (q1 aE (fP H fun d33 h34 H=>(q1 (iF [0] [] func112 (BG h34 (nB v26 3))) (qN ?_))))
  refine a8 H (fun h35 H=>?_) (fun h35 H=>?_)
  ·refine qR (q1 aE (dK H fun z36 H=>(q1 (a3.addS rfl rfl rfl rfl (Nat.le_trans z36 (by decide))) (q1 aE (qN ?_)))))
   exact dY ⟨_,(aX H:),bW⟩
  refine aR.skip ?_;exact dY ⟨_,(aX H:),bW⟩
 rintro⟨v31,v32⟩ H
 refine qS (qS (qR (q1 aE (fP H fun d37 h38 H=>(q1 (iF [0] [] func112 (BG h38 (nB v32 4))) (qN ?_))))))
 refine a8 H (fun h39 H=>?_) (fun h39 H=>?_)
 ·refine qR (q1 aE (dK H fun z40 H=>(q1 (a3.addS rfl rfl rfl rfl (Nat.le_trans z40 (by decide))) (q1 aE (qN (qW (q1 aE (dK H fun z41 H=>(q1 (a3.addS rfl rfl rfl rfl (Nat.le_trans z41 (by decide))) (q1 aE (qZ ?_)))))))))))
  cases aX H
  exact bE
 refine aR.skip (qW (q1 aE (dK H fun z42 H=>(q1 (a3.addS rfl rfl rfl rfl (Nat.le_trans z42 (by decide))) (q1 aE (qZ ?_))))))
 cases aX H
 exact bE
def ST(m:DS→Option (ByteArray×DS)):Prop:= ∀(pc:DS) (r:ByteArray×DS),m pc=some r→c6 Tryz.prog 166 [.ptr 0 0] ⟨[some ⟨151,dC pc⟩],[]⟩ (fun q t=>q=(pS r.1:PV)∧t=⟨[some ⟨151,dC r.2⟩],[]⟩)
def xA(fu:Nat)(pc:DS):Option (ByteArray×DS):=
 bd (LE fu pc) (fun(x2,x3)=>
 lt (x3.after 5) (fun d4=>
 sw (decide (x3.below 5=0))
 (some (x2,d4))
 (gd ((x2).size+(amP).size≤1099511627776)
 (bd (P9 fu d4) (fun(x9,x10)=>
 gd ((x2++amP).size+(x9).size≤1099511627776)
 (some (((x2++amP)++x9),x10)))))))
theorem QB(fu:Nat):ST (xA fu):=by
 intro pc r H
 have H:=eE H
 refine qI func166 (fun C hC=>?_)
 refine qW (q1 aE (qN (qW (q1 aE (fZ H fun x2 x3 z1 H=>(q1 (iF [0] [] func194 (aeY fu pc _ z1)) (q1 aE (qN ?_))))))))
 refine qS (qS (qR (q1 aE (fP H fun d4 h5 H=>(q1 (iF [0] [] func112 (BG h5 (nB x3 5))) (qN ?_))))))
 refine a8 H (fun h6 H=>?_) (fun h6 H=>?_)
 ·refine qS (qR ?_)
  iterate 2 refine q1 aE ?_
  refine qN (aR.ret ?_)
  cases aX H
  exact bE
 refine aR.skip (qW (q1 aE (dK H fun z7 H=>(q1 (a3.addS rfl rfl rfl rfl (Nat.le_trans z7 (by decide))) (q1 aE (fZ H fun x9 x10 z8 H=>(q1 (iF [0] [] func195 (ahT fu d4 _ z8)) (dK H fun z11 H=>(q1 (a3.addS rfl rfl rfl rfl (Nat.le_trans z11 (by decide))) (q1 aE (qZ ?_)))))))))))
 cases aX H
 exact bE
def ahZ(m:DS→Option (aF×DS)):Prop:= ∀(pc:DS) (r:aF×DS),m pc=some r→CV Tryz.prog 116 [.ptr 0 0] ⟨[some ⟨151,dC pc⟩],[]⟩ [some ⟨151,dC r.2⟩] 131 6 (aJ.trs (r.1.gPackages)) (fun k=> .agg [r4 r.1.gPackages k])
def LG(fu:Nat)(pc:DS):Option (aF×DS):=
 bd (xA fu pc) (fun(x2,x3)=>
 bd (wZ fu x2) (fun(x5,x6)=>
 some ((aF.mk x5.gPackages),x3)))
theorem ae2(fu:Nat):ahZ (LG fu):=by
 intro pc r H
 unfold CV
 have H:=eE H
 refine qI func116 (fun C hC=>?_)
 refine qW (q1 (fO NS) (qN (qW (q1 aE (fZ H fun x2 x3 z1 H=>(q1 (iF [0] [] func166 (QB fu pc _ z1)) (fZ H fun x5 x6 z4 H=>(q1 (a3.callOwn (pre:=⟨[],[]⟩) (B:= []) (R:=fun k=> .tup [.agg [r4 x5.gPackages k],pI x6]) (ps:= [_]) (qs:= [pS x2]) [] rfl rfl func165 (by kernel_rfl) rfl rfl rfl (gA.of trivial trivial (by decide) (by decide)) rfl iX rfl rfl rfl (fun k k'=>(.tup (.cons (.agg (.cons Mv.acc CU.nil)) (.cons (.free _ rfl) CU.nil)))) (PO fu x2 _ z4)) (q1 aE ?_)))))))))
 iterate 2 refine q1 AK ?_
 refine q1 (fO NS) (q1 (bR GJ) (q1 aE (qN (qW (q1 (cJ [r4 x5.gPackages 0] hZ) (q1 (bR GJ) (qZ ?_)))))))
 cases aX H
 exact bE (st':=⟨[some ⟨151,dC x3⟩],[⟨131,6,aJ.trs (x5.gPackages),false⟩]⟩) ⟨0,rfl,rfl,rfl⟩ (hr:=⟨⟨_,_,_,rfl,rfl,hZ,rfl,rfl⟩,trivial⟩)
end
end Go.Proofs.YtpioomclpaiomaaGreat.W
