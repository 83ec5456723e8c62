/- Words, rules and walks of several kinds, laid together: MaP4, MaP5, MaP6. No conditions but those that each theorem states. -/
import Derived.Test.YtpioomclpaiomaaGreatQhc919d32c
import Derived.Test.YtpioomclpaiomaaGreatQh7e1aa739
import Derived.Test.YtpioomclpaiomaaGreatQhfd96fd82
set_option linter.unusedSimpArgs false
set_option linter.unusedVariables false
namespace Go.Proofs.YtpioomclpaiomaaGreat.W
set_option maxRecDepth 100000
set_option maxHeartbeats 40000000
noncomputable section
open Go.RowKit Go.Proofs
set_option linter.unusedSimpArgs false
set_option linter.unusedVariables false
attribute [local irreducible] lt
abbrev nD:=aG→Int→Option Int
def BX(m:nD):Prop:= ∀(pe:aG) (pleft:Int) (r:Int),m pe pleft=some r→b4 Tryz.prog 293 [(aG.pv pe),pI pleft] (pI r:PV)
def abX(fu:Nat)(r_sl11Left:nD)(pe:aG)(pleft:Int):Nat→Int→Option (LR Int Int):=
 fun i1 v2=>sw (decide (v2≥0))
 (lt (aW pe.gArgs i1) (fun y6=>
 bd (r_sl11Left y6 v2) (fun x9=>
 some (.next x9))))
 (some (.brk v2))
def abZ(fu:Nat)(r_sl11Left:nD)(pe:aG)(pleft:Int):Option (Int⊕Int):=
 loopN (abX fu r_sl11Left pe pleft) (pe.gArgs.length-0) 0 (aR (pleft-1))
def abY(fu:Nat)(r_sl11Left:nD)(pe:aG)(pleft v2:Int):Nat→Int→Option (LR Int Int):=
 fun i10 v11=>sw (decide (v11≥0))
 (lt (aW pe.gArms i10) (fun y15=>
 bd (r_sl11Left y15.gBody v11) (fun x18=>
 some (.next x18))))
 (some (.brk v11))
def ab0(fu:Nat)(r_sl11Left:nD)(pe:aG)(pleft v2:Int):Option (Int⊕Int):=
 loopN (abY fu r_sl11Left pe pleft v2) (pe.gArms.length-0) 0 v2
def I4(fu:Nat)(r_sl11Left:nD)(pe:aG)(pleft:Int):Option Int:=
 so (abZ fu r_sl11Left pe pleft) (fun v2=>
 so (ab0 fu r_sl11Left pe pleft v2) (fun v11=>
 some v11))
theorem UP(fu:Nat)(r_sl11Left:nD)(h_sl11Left:BX r_sl11Left):BX (I4 fu r_sl11Left):=by
 intro pe pleft r H
 have H:=eF H
 refine qI Tryz.func293 (fun C hC=>?_)
 refine qS (qR (q1 (jP (hM pe)) (q1 aE (qN (qS (qR (q1 aE (q1 AY (q1 aE (qN ?_))))))))))
 iterate 2 refine qS ?_
 refine qR (q1 aE (qN ?_))
 refine aQ.fact (cE 0 7 rfl rfl rfl (aG.trs_len _)) (fun hl3=>?_)
 refine b9 (σ:=Int) (fun i1 v2=>⟨[(1,pI v2),(2,.ptr 0 0),(4,pI 0),(5,pN i1)],⟨[some ⟨87,hM pe⟩],[]⟩⟩) (fun v2=>⟨[(1,pI v2),(2,.ptr 0 0),(4,pI 0)],⟨[some ⟨87,hM pe⟩],[]⟩⟩) (f8 H) ?_ ?_
 ·rintro i1 v2 H
  iterate 2 refine qS ?_
  refine qR (q1 aE (q1 (a6 iG) (q1 (bD tW) (q1 (eB mA (aG.trs_len _)) (q1 gP (q1 aE ?_))))))
  refine AL.splitB 14 rfl (fun g4=>?_) (fun g4=>?_)
  ·have g4l:=tO g4
   have H:=lnT g4l H
   have g4n:=a8 g4
   refine qg g4 aE (qg g4 TX (q1 (bS g4) (qN ?_)))
   refine bA H (fun h5 H=>?_) (fun h5 H=>?_)
   ·refine aQ.skip (qS (aQ.block (qR (q1 (a6 iG) (q1 (bD tW) (q1 aE (gL H fun y6 h7 H=>(q1 (vT h7 g4n mA) (q1 (jW (aG.cs y6) gY) (q1 aE (bN H fun x9 z8 H=>(q1 (bG Tryz.func293 (h_sl11Left y6 v2 _ z8)) (q1 aE ?_)))))))))))))
    refine qN (qR (q1 aE (q1 (aX.addI rfl rfl rfl rfl (c:=((i1+1:Nat):Int)) (by omega) (by omega)) (q1 aE (qN ?_)))))
    exact iK g4l ⟨_,(aZ H:),b0⟩
   refine aQ.exit ?_;exact lpB ⟨_,(aZ H:),b0⟩
  have H:=lnE (tN g4) H
  iterate 2 refine qk g4 ?_
  refine q1 (b6 g4) (qN (kJ rfl (aQ.exit ?_)))
  exact j0 ⟨_,H,b0⟩
 rintro v2 H
 iterate 2 refine qS ?_
 refine qR (q1 aE (qN ?_))
 refine aQ.fact (cE 0 8 rfl rfl rfl (bK.trs_len _)) (fun hl12=>?_)
 refine b9 (σ:=Int) (fun i10 v11=>⟨[(1,pI v11),(2,.ptr 0 0),(4,pI 0),(6,pN i10)],⟨[some ⟨87,hM pe⟩],[]⟩⟩) (fun v11=>⟨[(1,pI v11),(4,pI 0)],⟨[some ⟨87,hM pe⟩],[]⟩⟩) (f8 H) ?_ ?_
 ·rintro i10 v11 H
  iterate 2 refine qS ?_
  refine qR (q1 aE (q1 (a6 fR) (q1 (bD qG) (q1 (eB nM (bK.trs_len _)) (q1 gP (q1 aE ?_))))))
  refine AL.splitB 32 rfl (fun g13=>?_) (fun g13=>?_)
  ·have g13l:=tO g13
   have H:=lnT g13l H
   have g13n:=a8 g13
   refine qg g13 aE (qg g13 TX (q1 (bS g13) (qN ?_)))
   refine bA H (fun h14 H=>?_) (fun h14 H=>?_)
   ·refine aQ.skip (qS (aQ.block (qR (q1 (a6 fR) (q1 (bD qG) (q1 aE (gL H fun y15 h16 H=>(q1 (vT h16 g13n nM) (q1 (nK HR) (q1 (jW (aG.cs y15.gBody) gY) (q1 aE (bN H fun x18 z17 H=>(q1 (bG Tryz.func293 (h_sl11Left y15.gBody v11 _ z17)) ?_)))))))))))))
    refine q1 aE (qN (qR (q1 aE (q1 (aX.addI rfl rfl rfl rfl (c:=((i10+1:Nat):Int)) (by omega) (by omega)) (q1 aE (qN ?_))))))
    exact iK g13l ⟨_,(aZ H:),b0⟩
   refine aQ.exit ?_;exact lpB ⟨_,(aZ H:),b0⟩
  have H:=lnE (tN g13) H
  iterate 2 refine qk g13 ?_
  refine q1 (b6 g13) (qN (kJ rfl (aQ.exit ?_)))
  exact j0 ⟨_,H,b0⟩
 rintro v11 H
 refine qS (qR ?_)
 iterate 2 refine q1 aE ?_
 refine qN (aQ.ret ?_)
 cases aZ H
 exact bL
def l6:Nat→aG→Int→Option Int
 |0,_,_=>none
 |fu+1,pe,pleft=>I4 fu (l6 fu) pe pleft
theorem XT(fu:Nat):BX (l6 fu):=by
 induction fu with
 |zero=>exact(fun pe pleft r H=>by simp only [l6] at H;cases H)
 |succ fu ih=>exact(fun pe pleft r H=>by simp only [l6] at H;exact UP fu (l6 fu) ih pe pleft r H)
theorem ab2(fu:Nat):BX (l6 fu):=(XT fu)
def ai0(m:Int→Option (Bool×Bool×Bool×Bool×Int×Bool)):Prop:= ∀(pk:Int) (r:Bool×Bool×Bool×Bool×Int×Bool),m pk=some r→b4 Tryz.prog 296 [pI pk] (.tup [pB r.1,pB r.2.1,pB r.2.2.1,pB r.2.2.2.1,pI r.2.2.2.2.1,pB r.2.2.2.2.2]:PV)
def aeY(fu:Nat)(pk:Int):Option ((Bool×Bool×Bool×Bool×Int×Bool)⊕Bool):=
 sw (decide (pk=1))
 (some (.inr (decide (pk=1))))
 (some (.inr (decide (pk=2))))
def aeZ(fu:Nat)(pk:Int)(v1:Bool):Option ((Bool×Bool×Bool×Bool×Int×Bool)⊕Bool):=
 sw (decide (pk=4))
 (some (.inr (decide (pk=4))))
 (some (.inr (decide (pk=6))))
def ae0(fu:Nat)(pk:Int)(v1 v5:Bool):Option ((Bool×Bool×Bool×Bool×Int×Bool)⊕Bool):=
 sw (decide (pk=8))
 (some (.inr (decide (pk=8))))
 (some (.inr (decide (pk=10))))
def M9(fu:Nat)(pk:Int):Option (Bool×Bool×Bool×Bool×Int×Bool):=
 so (aeY fu pk) (fun v1=>
 sw (v1)
 (some (false,false,true,false,0,false))
 (sw (decide (pk=3))
 (some (false,true,false,false,0,false))
 (so (aeZ fu pk v1) (fun v5=>
 sw (v5)
 (some (false,true,false,false,(-1),false))
 (sw (decide (pk=5))
 (some (true,true,false,false,(-1),false))
 (sw (decide (pk=7))
 (some (false,false,false,false,1,true))
 (so (ae0 fu pk v1 v5) (fun v10=>
 sw (v10)
 (some (false,true,false,false,2,false))
 (sw (decide (pk=9))
 (some (false,false,false,false,3,false))
 (sw (decide (pk=11))
 (some (true,false,false,false,1,false))
 (some (false,false,false,true,1,false))))))))))))
theorem ae1(fu:Nat):ai0 (M9 fu):=by
 intro pk r H
 have H:=eF H
 refine qI Tryz.func296 (fun C hC=>?_)
 refine qS (qR ?_)
 iterate 6 refine q1 aE ?_
 refine qN ?_
 iterate 2 refine qS ?_
 refine qR (q1 aE (qN (aQ.block (qS ?_))))
 refine qD (σ:=Bool) (fun v1=>⟨[(2,pB false),(3,pB false),(4,pB false),(5,pB false),(6,pI 0),(7,pB false),(8,pI pk),(9,pB v1)],⟨[],[]⟩⟩) (f8 H) (fun H=>?_) ?_
 ·refine qS (qR (q1 eG (q1 aE (qN ?_))))
  refine bA H (fun h2 H=>?_) (fun h2 H=>?_)
  ·refine aQ.skip ?_;exact dO ⟨_,(aZ H:),b0⟩
  refine qR (q1 eG (q1 aE (qN ?_)))
  exact dO ⟨_,(aZ H:),b0⟩
 rintro v1 H
 refine bA H (fun h3 H=>?_) (fun h3 H=>?_)
 ·refine qS (qR ?_)
  iterate 6 refine q1 aE ?_
  refine qN (aQ.ret ?_)
  cases aZ H
  exact qe (ps:= [_,_,_,_,_,_]) ⟨rfl,rfl⟩ ⟨rfl,rfl,rfl,rfl,rfl,rfl,trivial⟩
 refine qS (qR (q1 eG (q1 aE (qN ?_))))
 refine bA H (fun h4 H=>?_) (fun h4 H=>?_)
 ·refine qS (qR ?_)
  iterate 6 refine q1 aE ?_
  refine qN (aQ.ret ?_)
  cases aZ H
  exact qe (ps:= [_,_,_,_,_,_]) ⟨rfl,rfl⟩ ⟨rfl,rfl,rfl,rfl,rfl,rfl,trivial⟩
 refine qS ?_;refine qD (σ:=Bool) (fun v5=>⟨[(2,pB false),(3,pB false),(4,pB false),(5,pB false),(6,pI 0),(7,pB false),(8,pI pk),(14,pB v5)],⟨[],[]⟩⟩) (f8 H) (fun H=>?_) ?_
 ·refine qS (qR (q1 eG (q1 aE (qN ?_))))
  refine bA H (fun h6 H=>?_) (fun h6 H=>?_)
  ·refine aQ.skip ?_;exact dO ⟨_,(aZ H:),b0⟩
  refine qR (q1 eG (q1 aE (qN ?_)))
  exact dO ⟨_,(aZ H:),b0⟩
 rintro v5 H
 refine bA H (fun h7 H=>?_) (fun h7 H=>?_)
 ·refine qS (qR ?_)
  iterate 6 refine q1 aE ?_
  refine qN (aQ.ret ?_)
  cases aZ H
  exact qe (ps:= [_,_,_,_,_,_]) ⟨rfl,rfl⟩ ⟨rfl,rfl,rfl,rfl,rfl,rfl,trivial⟩
 refine qS (qR (q1 eG (q1 aE (qN ?_))))
 refine bA H (fun h8 H=>?_) (fun h8 H=>?_)
 ·refine qS (qR ?_)
  iterate 6 refine q1 aE ?_
  refine qN (aQ.ret ?_)
  cases aZ H
  exact qe (ps:= [_,_,_,_,_,_]) ⟨rfl,rfl⟩ ⟨rfl,rfl,rfl,rfl,rfl,rfl,trivial⟩
 refine qS (qR (q1 eG (q1 aE (qN ?_))))
 refine bA H (fun h9 H=>?_) (fun h9 H=>?_)
 ·refine qS (qR ?_)
  iterate 6 refine q1 aE ?_
  refine qN (aQ.ret ?_)
  cases aZ H
  exact qe (ps:= [_,_,_,_,_,_]) ⟨rfl,rfl⟩ ⟨rfl,rfl,rfl,rfl,rfl,rfl,trivial⟩
 refine qS ?_;refine qD (σ:=Bool) (fun v10=>⟨[(2,pB false),(3,pB false),(4,pB false),(5,pB false),(6,pI 0),(7,pB false),(8,pI pk),(21,pB v10)],⟨[],[]⟩⟩) (f8 H) (fun H=>?_) ?_
 ·refine qS (qR (q1 eG (q1 aE (qN ?_))))
  refine bA H (fun h11 H=>?_) (fun h11 H=>?_)
  ·refine aQ.skip ?_;exact dO ⟨_,(aZ H:),b0⟩
  refine qR (q1 eG (q1 aE (qN ?_)))
  exact dO ⟨_,(aZ H:),b0⟩
 rintro v10 H
 refine bA H (fun h12 H=>?_) (fun h12 H=>?_)
 ·refine qS (qR ?_)
  iterate 6 refine q1 aE ?_
  refine qN (aQ.ret ?_)
  cases aZ H
  exact qe (ps:= [_,_,_,_,_,_]) ⟨rfl,rfl⟩ ⟨rfl,rfl,rfl,rfl,rfl,rfl,trivial⟩
 refine qS (qR (q1 eG (q1 aE (qN ?_))))
 refine bA H (fun h13 H=>?_) (fun h13 H=>?_)
 ·refine qS (qR ?_)
  iterate 6 refine q1 aE ?_
  refine qN (aQ.ret ?_)
  cases aZ H
  exact qe (ps:= [_,_,_,_,_,_]) ⟨rfl,rfl⟩ ⟨rfl,rfl,rfl,rfl,rfl,rfl,trivial⟩
 refine qS (qR (q1 eG (q1 aE (qN ?_))))
 refine bA H (fun h14 H=>?_) (fun h14 H=>?_)
 ·refine qS (qR ?_)
  iterate 6 refine q1 aE ?_
  refine qN (aQ.ret ?_)
  cases aZ H
  exact qe (ps:= [_,_,_,_,_,_]) ⟨rfl,rfl⟩ ⟨rfl,rfl,rfl,rfl,rfl,rfl,trivial⟩
 refine aQ.skip (qS (qR ?_))
 iterate 6 refine q1 aE ?_
 refine qN (aQ.ret ?_)
 cases aZ H
 exact qe (ps:= [_,_,_,_,_,_]) ⟨rfl,rfl⟩ ⟨rfl,rfl,rfl,rfl,rfl,rfl,trivial⟩
def ae3(m:ByteArray→Option Bool):Prop:= ∀(ps:ByteArray) (r:Bool),m ps=some r→b4 Tryz.prog 297 [pS ps] (pB r:PV)
def I5(fu:Nat)(ps:ByteArray):Option Bool:=
 bd (jZ fu ([yA,CZ,LB,LC,LD]:List ByteArray) ps) (fun x2=>
 some x2)
theorem ab3(fu:Nat):ae3 (I5 fu):=by
 intro ps r H
 have H:=eF H
 refine qI Tryz.func297 (fun C hC=>?_)
 refine qS (qR (q1 aE (qN (qS (qR (q1 (hH ([yA,CZ,LB,LC,LD]:List ByteArray) bU kG) (q1 aE (bN H fun x2 z1 H=>(q1 (bG Tryz.func125 (lA fu ([yA,CZ,LB,LC,LD]:List ByteArray) ps _ z1)) (q1 aE (qN (aQ.ret ?_))))))))))))
 cases aZ H
 exact bL
def ae4(m:aA→Option Bool):Prop:= ∀(pt:aA) (r:Bool),m pt=some r→b4 Tryz.prog 277 [(aA.pv pt)] (pB r:PV)
def rV(fu:Nat)(pt:aA):Option Bool:=
 sw (decide (pt.gKind=0))
 (sw (decide (pt.gName=s_))
 (some (decide ((pt.gArgs.length:Int)=0)))
 (some false))
 (some false)
theorem uV(fu:Nat):ae4 (rV fu):=by
 intro pt r H
 have H:=eF H
 refine qI Tryz.func277 (fun C hC=>?_)
 refine qS (qR (q1 (jP (dU pt)) (q1 aE (qN (qS (qR (q1 (a6 iF) (q1 (bD jN) (q1 eG (q1 aE ?_))))))))))
 refine dY 6 H (fun g1 H=>?_) fun g1 H=>?_
 ·refine qg g1 (a6 gR) (qg g1 (bD eE) (qg g1 E6 (q1 (bS g1) (q1 aE ?_))))
  refine dY 11 H (fun g2 H=>?_) fun g2 H=>?_
  ·refine qg g2 (a6 eZ) (qg g2 (bD kT) (qg g2 (eB c8 (aA.trs_len _)) (qg g2 eG (q1 (bS g2) (q1 aE (qN (aQ.ret ?_)))))))
   cases aZ H
   exact bL
  iterate 4 refine qk g2 ?_
  refine q1 (b6 g2) (q1 aE (qN (aQ.ret ?_)))
  cases aZ H
  exact bL
 iterate 3 refine qk g1 ?_
 refine q1 (b6 g1) (q1 aE ?_)
 iterate 4 refine qk rfl ?_
 refine q1 (b6 rfl) (q1 aE (qN (aQ.ret ?_)))
 cases aZ H
 exact bL
abbrev iT:=aG→Option Bool
def BV(m:iT):Prop:= ∀(pa0:aG) (r:Bool),m pa0=some r→b4 Tryz.prog 294 [(aG.pv pa0)] (pB r:PV)
def abG(fu:Nat)(r_sl11Form:iT)(pa0:aG)(x2 x3 x4 x5:Bool)(x6:Int)(x7:Bool):Option (Bool⊕Unit):=
 bd (lO fu pa0.gKind 1 12) (fun x9=>
 sw (!(x9))
 (some (.inl false))
 (bd (dH fu pa0.gTrait) (fun x12=>
 sw (!decide (x12=x2))
 (some (.inl false))
 (sw (!(x2))
 (sw (!decide (pa0.gTrait=s_))
 (some (.inl false))
 (sw (!(x4))
 (sw (!decide (pa0.gN=0))
 (some (.inl false))
 (sw (!decide ((decide ((pa0.gArms.length:Int)>0):Bool)=x7))
 (some (.inl false))
 (some (.inr ()))))
 (sw (!decide ((decide ((pa0.gArms.length:Int)>0):Bool)=x7))
 (some (.inl false))
 (some (.inr ())))))
 (sw (!(x4))
 (sw (!decide (pa0.gN=0))
 (some (.inl false))
 (sw (!decide ((decide ((pa0.gArms.length:Int)>0):Bool)=x7))
 (some (.inl false))
 (some (.inr ()))))
 (sw (!decide ((decide ((pa0.gArms.length:Int)>0):Bool)=x7))
 (some (.inl false))
 (some (.inr ()))))))))
def abH(fu:Nat)(r_sl11Form:iT)(pa0:aG)(x2 x3 x4 x5:Bool)(x6:Int)(x7:Bool):Option (Bool⊕Unit):=
 sw (decide (pa0.gKind=10))
 (bd (I5 fu pa0.gName) (fun x26=>
 sw (!(x26))
 (some (.inl false))
 (sw (!decide (pa0.gKind=10))
 (bd (dH fu pa0.gName) (fun x30=>
 sw (!decide (x30=x3))
 (some (.inl false))
 (sw (!(x3))
 (sw (!decide (pa0.gName=s_))
 (some (.inl false))
 (some (.inr ())))
 (some (.inr ())))))
 (some (.inr ())))))
 (sw (!decide (pa0.gKind=10))
 (bd (dH fu pa0.gName) (fun x36=>
 sw (!decide (x36=x3))
 (some (.inl false))
 (sw (!(x3))
 (sw (!decide (pa0.gName=s_))
 (some (.inl false))
 (some (.inr ())))
 (some (.inr ())))))
 (some (.inr ())))
def abI(fu:Nat)(r_sl11Form:iT)(pa0:aG)(x2 x3 x4 x5:Bool)(x6:Int)(x7:Bool):Option (Bool⊕Unit):=
 sw (decide (x6≥0))
 (sw (!decide ((pa0.gArgs.length:Int)=x6))
 (some (.inl false))
 (sw (decide (pa0.gKind=5))
 (sw (decide ((pa0.gArgs.length:Int)=0))
 (some (.inl false))
 (sw (x5)
 (bd (jJ fu pa0.gType) (fun x46=>
 sw (!(x46))
 (some (.inl false))
 (some (.inr ()))))
 (bd (rV fu pa0.gType) (fun x49=>
 sw (!(x49))
 (some (.inl false))
 (some (.inr ()))))))
 (sw (x5)
 (bd (jJ fu pa0.gType) (fun x53=>
 sw (!(x53))
 (some (.inl false))
 (some (.inr ()))))
 (bd (rV fu pa0.gType) (fun x56=>
 sw (!(x56))
 (some (.inl false))
 (some (.inr ())))))))
 (sw (decide (pa0.gKind=5))
 (sw (decide ((pa0.gArgs.length:Int)=0))
 (some (.inl false))
 (sw (x5)
 (bd (jJ fu pa0.gType) (fun x62=>
 sw (!(x62))
 (some (.inl false))
 (some (.inr ()))))
 (bd (rV fu pa0.gType) (fun x65=>
 sw (!(x65))
 (some (.inl false))
 (some (.inr ()))))))
 (sw (x5)
 (bd (jJ fu pa0.gType) (fun x69=>
 sw (!(x69))
 (some (.inl false))
 (some (.inr ()))))
 (bd (rV fu pa0.gType) (fun x72=>
 sw (!(x72))
 (some (.inl false))
 (some (.inr ()))))))
def abJ(fu:Nat)(r_sl11Form:iT)(pa0:aG)(x2 x3 x4 x5:Bool)(x6:Int)(x7:Bool):Option (Bool⊕Unit):=
 sw (decide (pa0.gKind=1))
 (bd (lO fu pa0.gN (-999999) 999999) (fun x76=>
 sw (!(x76))
 (some (.inl false))
 (some (.inr ()))))
 (sw (decide (pa0.gKind=2))
 (bd (lO fu pa0.gN 0 1) (fun x80=>
 sw (!(x80))
 (some (.inl false))
 (some (.inr ()))))
 (some (.inr ())))
def abK(fu:Nat)(r_sl11Form:iT)(pa0:aG)(x2 x3 x4 x5:Bool)(x6:Int)(x7:Bool):Nat→Unit→Option (LR Unit Bool):=
 fun i82 _=>lt (aW pa0.gArgs i82) (fun y85=>
 bd (r_sl11Form y85) (fun x88=>
 sw (!(x88))
 (some (.ret false))
 (some (.next ()))))
def abM(fu:Nat)(r_sl11Form:iT)(pa0:aG)(x2 x3 x4 x5:Bool)(x6:Int)(x7:Bool):Option (Bool⊕Unit):=
 loopN (abK fu r_sl11Form pa0 x2 x3 x4 x5 x6 x7) (pa0.gArgs.length-0) 0 ()
def abL(fu:Nat)(r_sl11Form:iT)(pa0:aG)(x2 x3 x4 x5:Bool)(x6:Int)(x7:Bool):Nat→Unit→Option (LR Unit Bool):=
 fun i90 _=>lt (aW pa0.gArms i90) (fun y93=>
 bd (dH fu y93.gConstructor) (fun x96=>
 sw (!(x96))
 (some (.ret false))
 (bd (B6 fu y93.gVars) (fun x99=>
 sw (!(x99))
 (some (.ret false))
 (bd (jH fu y93.gVars) (fun x102=>
 sw (!(x102))
 (some (.ret false))
 (bd (r_sl11Form y93.gBody) (fun x105=>
 sw (!(x105))
 (some (.ret false))
 (some (.next ()))))))))))
def abN(fu:Nat)(r_sl11Form:iT)(pa0:aG)(x2 x3 x4 x5:Bool)(x6:Int)(x7:Bool):Option (Bool⊕Unit):=
 loopN (abL fu r_sl11Form pa0 x2 x3 x4 x5 x6 x7) (pa0.gArms.length-0) 0 ()
def I2(fu:Nat)(r_sl11Form:iT)(pa0:aG):Option Bool:=
 bd (M9 fu pa0.gKind) (fun(x2,x3,x4,x5,x6,x7)=>
 so (abG fu r_sl11Form pa0 x2 x3 x4 x5 x6 x7) (fun _=>
 so (abH fu r_sl11Form pa0 x2 x3 x4 x5 x6 x7) (fun _=>
 so (abI fu r_sl11Form pa0 x2 x3 x4 x5 x6 x7) (fun _=>
 so (abJ fu r_sl11Form pa0 x2 x3 x4 x5 x6 x7) (fun _=>
 so (abM fu r_sl11Form pa0 x2 x3 x4 x5 x6 x7) (fun _=>
 so (abN fu r_sl11Form pa0 x2 x3 x4 x5 x6 x7) (fun _=>
 some true)))))))
theorem UN(fu:Nat)(r_sl11Form:iT)(h_sl11Form:BV r_sl11Form):BV (I2 fu r_sl11Form):=by
 intro pa0 r H
 have H:=eF H
 refine qI Tryz.func294 (fun C hC=>?_)
 refine qS (qR (q1 (jP (hM pa0)) (q1 aE (qN (qS (qR (q1 (a6 rD) (q1 (bD jN) ?_))))))))
 obtain⟨⟨x2,x3,x4,x5,x6,x7⟩,z1,H⟩:=bdI H
 refine q1 (bG Tryz.func296 (ae1 fu pa0.gKind _ z1)) (q1 aE ?_)
 iterate 6 refine q1 uB ?_
 iterate 6 refine q1 aE ?_
 refine qN (qS ?_)
 refine qD (σ:=Unit) (fun _=>⟨[(1,.ptr 0 0),(2,pB false),(4,pB x3),(6,pB x5),(7,pI x6)],⟨[some ⟨87,hM pa0⟩],[]⟩⟩) (f8 H) (fun H=>?_) ?_
 ·refine qS (qR (q1 (a6 rD) (q1 (bD jN) (bN H fun x9 z8 H=>(q1 (bG Tryz.func108 (uZ fu pa0.gKind 1 12 _ z8)) (q1 gW (q1 aE ?_)))))))
  refine dY 26 H (fun g10 H=>?_) fun g10 H=>?_
  ·refine qk g10 ?_
   iterate 4 refine qk g10 ?_
   refine q1 (bS g10) (q1 aE ?_)
   iterate 3 refine qk rfl ?_
   iterate 3 refine KM ?_
   refine qk rfl (q1 (bS rfl) (q1 aE ?_))
   iterate 3 refine qk rfl ?_
   iterate 3 refine KM ?_
   refine qk rfl (q1 (bS rfl) (q1 aE ?_))
   iterate 6 refine qk rfl ?_
   refine q1 (bS rfl) (qN (dM rfl (qS (qR (q1 aE (qN (aQ.ret ?_)))))))
   obtain rfl:_=r:=(CY (aZ H):)
   exact bL
  refine qg g10 (a6 L1) (qg g10 (bD eE) (bN H fun x12 z11 H=>(qg g10 (bG Tryz.func235 (dQ fu pa0.gTrait _ z11)) (qg g10 aE (qg g10 (aX.neqB rfl rfl rfl rfl Tryz.underlying4) (q1 (b6 g10) (q1 aE ?_)))))))
  refine dY 33 H (fun g13 H=>?_) fun g13 H=>?_
  ·refine qk g13 ?_
   iterate 2 refine qk g13 ?_
   iterate 3 refine KM ?_
   refine qk g13 (q1 (bS g13) (q1 aE ?_))
   iterate 3 refine qk rfl ?_
   iterate 3 refine KM ?_
   refine qk rfl (q1 (bS rfl) (q1 aE ?_))
   iterate 6 refine qk rfl ?_
   refine q1 (bS rfl) (qN (dM rfl (qS (qR (q1 aE (qN (aQ.ret ?_)))))))
   obtain rfl:_=r:=(CY (aZ H):)
   exact bL
  refine qg g13 aE (qg g13 gW (qg g13 aE ?_))
  refine dY 36 H (fun g14 H=>?_) fun g14 H=>?_
  ·refine qg g14 (a6 L1) (qg g14 (bD eE) (qg g14 RL (qg g13 (bS g14) (q1 (b6 g13) (q1 aE ?_)))))
   refine dY 42 H (fun g15 H=>?_) fun g15 H=>?_
   ·refine qk g15 ?_
    iterate 2 refine qk g15 ?_
    iterate 3 refine KM ?_
    refine qk g15 (q1 (bS g15) (q1 aE ?_))
    iterate 6 refine qk rfl ?_
    refine q1 (bS rfl) (qN (dM rfl (qS (qR (q1 aE (qN (aQ.ret ?_)))))))
    obtain rfl:_=r:=(CY (aZ H):)
    exact bL
   refine qg g15 aE (qg g15 gW (qg g15 aE ?_))
   refine dY 45 H (fun g16 H=>?_) fun g16 H=>?_
   ·refine qg g16 (a6 DC) (qg g16 (bD jN) (qg g16 P5 (qg g15 (bS g16) (q1 (b6 g15) (q1 aE ?_)))))
    refine dY 51 H (fun g17 H=>?_) fun g17 H=>?_
    ·refine qk g17 ?_
     iterate 5 refine qk g17 ?_
     refine q1 (bS g17) (qN (dM rfl (qS (qR (q1 aE (qN (aQ.ret ?_)))))))
     obtain rfl:_=r:=(CY (aZ H):)
     exact bL
    refine qg g17 (a6 fR) (qg g17 (bD qG) (qg g17 (eB nM (bK.trs_len _)) (qg g17 KN (qg g17 aE (qg g17 (aX.neqB rfl rfl rfl rfl Tryz.underlying4) (q1 (b6 g17) (qN ?_)))))))
    refine bA H (fun h18 H=>?_) (fun h18 H=>?_)
    ·refine qS (qR (q1 aE (qN (aQ.ret ?_))))
     obtain rfl:_=r:=(CY (aZ H):)
     exact bL
    refine aQ.skip ?_;exact dO ⟨_,(aZ H:),b0⟩
   iterate 3 refine qk g16 ?_
   refine qg g15 (b6 g16) (q1 (b6 g15) (q1 aE (qg rfl (a6 fR) (qg rfl (bD qG) (qg rfl (eB nM (bK.trs_len _)) (qg rfl KN (qg rfl aE (qg rfl (aX.neqB rfl rfl rfl rfl Tryz.underlying4) (q1 (b6 rfl) (qN ?_))))))))))
   refine bA H (fun h19 H=>?_) (fun h19 H=>?_)
   ·refine qS (qR (q1 aE (qN (aQ.ret ?_))))
    obtain rfl:_=r:=(CY (aZ H):)
    exact bL
   refine aQ.skip ?_;exact dO ⟨_,(aZ H:),b0⟩
  iterate 3 refine qk g14 ?_
  refine qg g13 (b6 g14) (q1 (b6 g13) (q1 aE (qg rfl aE (qg rfl gW (qg rfl aE ?_)))))
  refine dY 45 H (fun g20 H=>?_) fun g20 H=>?_
  ·refine qg g20 (a6 DC) (qg g20 (bD jN) (qg g20 P5 (qg rfl (bS g20) (q1 (b6 rfl) (q1 aE ?_)))))
   refine dY 51 H (fun g21 H=>?_) fun g21 H=>?_
   ·refine qk g21 ?_
    iterate 5 refine qk g21 ?_
    refine q1 (bS g21) (qN (dM rfl (qS (qR (q1 aE (qN (aQ.ret ?_)))))))
    obtain rfl:_=r:=(CY (aZ H):)
    exact bL
   refine qg g21 (a6 fR) (qg g21 (bD qG) (qg g21 (eB nM (bK.trs_len _)) (qg g21 KN (qg g21 aE (qg g21 (aX.neqB rfl rfl rfl rfl Tryz.underlying4) (q1 (b6 g21) (qN ?_)))))))
   refine bA H (fun h22 H=>?_) (fun h22 H=>?_)
   ·refine qS (qR (q1 aE (qN (aQ.ret ?_))))
    obtain rfl:_=r:=(CY (aZ H):)
    exact bL
   refine aQ.skip ?_;exact dO ⟨_,(aZ H:),b0⟩
  iterate 3 refine qk g20 ?_
  refine qg rfl (b6 g20) (q1 (b6 rfl) (q1 aE (qg rfl (a6 fR) (qg rfl (bD qG) (qg rfl (eB nM (bK.trs_len _)) (qg rfl KN (qg rfl aE (qg rfl (aX.neqB rfl rfl rfl rfl Tryz.underlying4) (q1 (b6 rfl) (qN ?_))))))))))
  refine bA H (fun h23 H=>?_) (fun h23 H=>?_)
  ·refine qS (qR (q1 aE (qN (aQ.ret ?_))))
   obtain rfl:_=r:=(CY (aZ H):)
   exact bL
  refine aQ.skip ?_;exact dO ⟨_,(aZ H:),b0⟩
 rintro⟨⟩ H
 refine qS ?_;refine qD (σ:=Unit) (fun _=>⟨[(1,.ptr 0 0),(2,pB false),(6,pB x5),(7,pI x6)],⟨[some ⟨87,hM pa0⟩],[]⟩⟩) (f8 H) (fun H=>?_) ?_
 ·refine qS (qR (q1 (a6 rD) (q1 (bD jN) (q1 eG (q1 aE ?_)))))
  refine dY 62 H (fun g24 H=>?_) fun g24 H=>?_
  ·refine qg g24 (a6 oV) (qg g24 (bD eE) (bN H fun x26 z25 H=>(qg g24 (bG Tryz.func297 (ab3 fu pa0.gName _ z25)) (qg g24 gW (q1 (bS g24) (q1 aE ?_))))))
   refine dY 68 H (fun g27 H=>?_) fun g27 H=>?_
   ·refine qk g27 ?_
    iterate 3 refine qk g27 ?_
    iterate 14 refine KM ?_
    refine qk g27 (q1 (bS g27) (qN (dM rfl (qS (qR (q1 aE (qN (aQ.ret ?_))))))))
    obtain rfl:_=r:=(CY (aZ H):)
    exact bL
   refine qg g27 (a6 rD) (qg g27 (bD jN) (qg g27 P5 (qg g27 aE ?_)))
   refine dY 72 H (fun g28 H=>?_) fun g28 H=>?_
   ·refine qg g28 (a6 oV) (qg g28 (bD eE) (bN H fun x30 z29 H=>(qg g28 (bG Tryz.func235 (dQ fu pa0.gName _ z29)) (qg g28 aE (qg g28 (aX.neqB rfl rfl rfl rfl Tryz.underlying4) (qg g28 aE ?_))))))
    refine dY 78 H (fun g31 H=>?_) fun g31 H=>?_
    ·refine qk g31 ?_
     iterate 2 refine qk g31 ?_
     iterate 3 refine KM ?_
     refine qk g31 (qg g28 (bS g31) (qg g27 (bS g28) (q1 (b6 g27) (qN (dM rfl (qS (qR (q1 aE (qN (aQ.ret ?_))))))))))
     obtain rfl:_=r:=(CY (aZ H):)
     exact bL
    refine qg g31 aE (qg g31 gW (qg g31 aE ?_))
    refine dY 81 H (fun g32 H=>?_) fun g32 H=>?_
    ·refine qg g32 (a6 oV) (qg g32 (bD eE) (qg g32 RL (qg g31 (bS g32) (qg g28 (b6 g31) (qg g27 (bS g28) (q1 (b6 g27) (qN ?_)))))))
     refine bA H (fun h33 H=>?_) (fun h33 H=>?_)
     ·refine qS (qR (q1 aE (qN (aQ.ret ?_))))
      obtain rfl:_=r:=(CY (aZ H):)
      exact bL
     refine aQ.skip ?_;exact dO ⟨_,(aZ H:),b0⟩
    iterate 3 refine qk g32 ?_
    refine qg g31 (b6 g32) (qg g28 (b6 g31) (qg g27 (bS g28) (q1 (b6 g27) (qN (kJ rfl (aQ.skip ?_))))))
    exact dO ⟨_,(aZ H:),b0⟩
   iterate 6 refine qk g28 ?_
   iterate 7 refine KM ?_
   refine qk g28 (qg g27 (b6 g28) (q1 (b6 g27) (qN (kJ rfl (aQ.skip ?_)))))
   exact dO ⟨_,(aZ H:),b0⟩
  iterate 4 refine qk g24 ?_
  refine q1 (b6 g24) (q1 aE (qg rfl (a6 rD) (qg rfl (bD jN) (qg rfl P5 (qg rfl aE ?_)))))
  refine dY 72 H (fun g34 H=>?_) fun g34 H=>?_
  ·refine qg g34 (a6 oV) (qg g34 (bD eE) (bN H fun x36 z35 H=>(qg g34 (bG Tryz.func235 (dQ fu pa0.gName _ z35)) (qg g34 aE (qg g34 (aX.neqB rfl rfl rfl rfl Tryz.underlying4) (qg g34 aE ?_))))))
   refine dY 78 H (fun g37 H=>?_) fun g37 H=>?_
   ·refine qk g37 ?_
    iterate 2 refine qk g37 ?_
    iterate 3 refine KM ?_
    refine qk g37 (qg g34 (bS g37) (qg rfl (bS g34) (q1 (b6 rfl) (qN (dM rfl (qS (qR (q1 aE (qN (aQ.ret ?_))))))))))
    obtain rfl:_=r:=(CY (aZ H):)
    exact bL
   refine qg g37 aE (qg g37 gW (qg g37 aE ?_))
   refine dY 81 H (fun g38 H=>?_) fun g38 H=>?_
   ·refine qg g38 (a6 oV) (qg g38 (bD eE) (qg g38 RL (qg g37 (bS g38) (qg g34 (b6 g37) (qg rfl (bS g34) (q1 (b6 rfl) (qN ?_)))))))
    refine bA H (fun h39 H=>?_) (fun h39 H=>?_)
    ·refine qS (qR (q1 aE (qN (aQ.ret ?_))))
     obtain rfl:_=r:=(CY (aZ H):)
     exact bL
    refine aQ.skip ?_;exact dO ⟨_,(aZ H:),b0⟩
   iterate 3 refine qk g38 ?_
   refine qg g37 (b6 g38) (qg g34 (b6 g37) (qg rfl (bS g34) (q1 (b6 rfl) (qN (kJ rfl (aQ.skip ?_))))))
   exact dO ⟨_,(aZ H:),b0⟩
  iterate 6 refine qk g34 ?_
  iterate 7 refine KM ?_
  refine qk g34 (qg rfl (b6 g34) (q1 (b6 rfl) (qN (kJ rfl (aQ.skip ?_)))))
  exact dO ⟨_,(aZ H:),b0⟩
 rintro⟨⟩ H
 refine qS ?_;refine qD (σ:=Unit) (fun _=>⟨[(1,.ptr 0 0),(2,pB false)],⟨[some ⟨87,hM pa0⟩],[]⟩⟩) (f8 H) (fun H=>?_) ?_
 ·refine qS (qR (q1 aE (q1 TX (q1 aE ?_))))
  refine dY 91 H (fun g40 H=>?_) fun g40 H=>?_
  ·refine qg g40 (a6 iG) (qg g40 (bD tW) (qg g40 (eB mA (aG.trs_len _)) (qg g40 aE (qg g40 P5 (q1 (bS g40) (q1 aE ?_))))))
   refine dY 98 H (fun g41 H=>?_) fun g41 H=>?_
   ·refine qk g41 ?_
    iterate 3 refine qk g41 ?_
    iterate 4 refine KM ?_
    refine qk g41 (q1 (bS g41) (q1 aE ?_))
    iterate 2 refine qk rfl ?_
    iterate 4 refine KM ?_
    refine qk rfl (q1 (bS rfl) (q1 aE ?_))
    iterate 3 refine qk rfl ?_
    iterate 4 refine KM ?_
    refine qk rfl (q1 (bS rfl) (qN (dM rfl (qS (qR (q1 aE (qN (aQ.ret ?_))))))))
    obtain rfl:_=r:=(CY (aZ H):)
    exact bL
   refine qg g41 (a6 rD) (qg g41 (bD jN) (qg g41 eG (qg g41 aE ?_)))
   refine dY 102 H (fun g42 H=>?_) fun g42 H=>?_
   ·refine qg g42 (a6 iG) (qg g42 (bD tW) (qg g42 (eB mA (aG.trs_len _)) (qg g42 eG (qg g41 (bS g42) (q1 (b6 g41) (q1 aE ?_))))))
    refine dY 109 H (fun g43 H=>?_) fun g43 H=>?_
    ·refine qk g43 (qk g43 ?_)
     iterate 4 refine KM ?_
     refine qk g43 (q1 (bS g43) (q1 aE ?_))
     iterate 3 refine qk rfl ?_
     iterate 4 refine KM ?_
     refine qk rfl (q1 (bS rfl) (qN (dM rfl (qS (qR (q1 aE (qN (aQ.ret ?_))))))))
     obtain rfl:_=r:=(CY (aZ H):)
     exact bL
    iterate 2 refine qg g43 aE ?_
    refine dY 111 H (fun g44 H=>?_) fun g44 H=>?_
    ·refine qg g44 (a6 rE) (qg g44 (cU [pI pa0.gType.gKind,pS pa0.gType.gName,a3 pa0.gType.gArgs] bZ) (bN H fun x46 z45 H=>(qg g44 (bG Tryz.func284 (k9 fu pa0.gType _ z45)) (qg g44 gW (qg g43 (bS g44) (q1 (b6 g43) (q1 aE ?_)))))))
     refine dY 118 H (fun g47 H=>?_) fun g47 H=>?_
     ·refine qk g47 ?_
      iterate 2 refine qk g47 ?_
      iterate 4 refine KM ?_
      refine qk g47 (q1 (bS g47) (qN (dM rfl (qS (qR (q1 aE (qN (aQ.ret ?_))))))))
      obtain rfl:_=r:=(CY (aZ H):)
      exact bL
     refine qg g47 aE (qg g47 gW (qg g47 aE ?_))
     iterate 4 refine qk (congrArg (fun b=> !b) g44) ?_
     refine qg g47 (b6 (congrArg (fun b=> !b) g44)) (q1 (b6 g47) (qN (kJ rfl (aQ.skip ?_))))
     exact dO ⟨_,(aZ H:),b0⟩
    iterate 4 refine qk g44 ?_
    refine qg g43 (b6 g44) (q1 (b6 g43) (q1 aE (qg rfl aE (qg rfl gW (qg rfl aE (qg (congrArg (fun b=> !b) g44) (a6 rE) (qg (congrArg (fun b=> !b) g44) (cU [pI pa0.gType.gKind,pS pa0.gType.gName,a3 pa0.gType.gArgs] bZ) (bN H fun x49 z48 H=>(qg (congrArg (fun b=> !b) g44) (bG Tryz.func277 (uV fu pa0.gType _ z48)) (qg (congrArg (fun b=> !b) g44) gW (qg rfl (bS (congrArg (fun b=> !b) g44)) (q1 (b6 rfl) (qN ?_)))))))))))))
    refine bA H (fun h50 H=>?_) (fun h50 H=>?_)
    ·refine qS (qR (q1 aE (qN (aQ.ret ?_))))
     obtain rfl:_=r:=(CY (aZ H):)
     exact bL
    refine aQ.skip ?_;exact dO ⟨_,(aZ H:),b0⟩
   iterate 4 refine qk g42 ?_
   refine qg g41 (b6 g42) (q1 (b6 g41) (q1 aE ?_))
   iterate 2 refine qg rfl aE ?_
   refine dY 111 H (fun g51 H=>?_) fun g51 H=>?_
   ·refine qg g51 (a6 rE) (qg g51 (cU [pI pa0.gType.gKind,pS pa0.gType.gName,a3 pa0.gType.gArgs] bZ) (bN H fun x53 z52 H=>(qg g51 (bG Tryz.func284 (k9 fu pa0.gType _ z52)) (qg g51 gW (qg rfl (bS g51) (q1 (b6 rfl) (q1 aE ?_)))))))
    refine dY 118 H (fun g54 H=>?_) fun g54 H=>?_
    ·refine qk g54 ?_
     iterate 2 refine qk g54 ?_
     iterate 4 refine KM ?_
     refine qk g54 (q1 (bS g54) (qN (dM rfl (qS (qR (q1 aE (qN (aQ.ret ?_))))))))
     obtain rfl:_=r:=(CY (aZ H):)
     exact bL
    refine qg g54 aE (qg g54 gW (qg g54 aE ?_))
    iterate 4 refine qk (congrArg (fun b=> !b) g51) ?_
    refine qg g54 (b6 (congrArg (fun b=> !b) g51)) (q1 (b6 g54) (qN (kJ rfl (aQ.skip ?_))))
    exact dO ⟨_,(aZ H:),b0⟩
   iterate 4 refine qk g51 ?_
   refine qg rfl (b6 g51) (q1 (b6 rfl) (q1 aE (qg rfl aE (qg rfl gW (qg rfl aE (qg (congrArg (fun b=> !b) g51) (a6 rE) (qg (congrArg (fun b=> !b) g51) (cU [pI pa0.gType.gKind,pS pa0.gType.gName,a3 pa0.gType.gArgs] bZ) (bN H fun x56 z55 H=>(qg (congrArg (fun b=> !b) g51) (bG Tryz.func277 (uV fu pa0.gType _ z55)) (qg (congrArg (fun b=> !b) g51) gW (qg rfl (bS (congrArg (fun b=> !b) g51)) (q1 (b6 rfl) (qN ?_)))))))))))))
   refine bA H (fun h57 H=>?_) (fun h57 H=>?_)
   ·refine qS (qR (q1 aE (qN (aQ.ret ?_))))
    obtain rfl:_=r:=(CY (aZ H):)
    exact bL
   refine aQ.skip ?_;exact dO ⟨_,(aZ H:),b0⟩
  iterate 5 refine qk g40 ?_
  refine q1 (b6 g40) (q1 aE (qg rfl (a6 rD) (qg rfl (bD jN) (qg rfl eG (qg rfl aE ?_)))))
  refine dY 102 H (fun g58 H=>?_) fun g58 H=>?_
  ·refine qg g58 (a6 iG) (qg g58 (bD tW) (qg g58 (eB mA (aG.trs_len _)) (qg g58 eG (qg rfl (bS g58) (q1 (b6 rfl) (q1 aE ?_))))))
   refine dY 109 H (fun g59 H=>?_) fun g59 H=>?_
   ·refine qk g59 (qk g59 ?_)
    iterate 4 refine KM ?_
    refine qk g59 (q1 (bS g59) (q1 aE ?_))
    iterate 3 refine qk rfl ?_
    iterate 4 refine KM ?_
    refine qk rfl (q1 (bS rfl) (qN (dM rfl (qS (qR (q1 aE (qN (aQ.ret ?_))))))))
    obtain rfl:_=r:=(CY (aZ H):)
    exact bL
   iterate 2 refine qg g59 aE ?_
   refine dY 111 H (fun g60 H=>?_) fun g60 H=>?_
   ·refine qg g60 (a6 rE) (qg g60 (cU [pI pa0.gType.gKind,pS pa0.gType.gName,a3 pa0.gType.gArgs] bZ) (bN H fun x62 z61 H=>(qg g60 (bG Tryz.func284 (k9 fu pa0.gType _ z61)) (qg g60 gW (qg g59 (bS g60) (q1 (b6 g59) (q1 aE ?_)))))))
    refine dY 118 H (fun g63 H=>?_) fun g63 H=>?_
    ·refine qk g63 ?_
     iterate 2 refine qk g63 ?_
     iterate 4 refine KM ?_
     refine qk g63 (q1 (bS g63) (qN (dM rfl (qS (qR (q1 aE (qN (aQ.ret ?_))))))))
     obtain rfl:_=r:=(CY (aZ H):)
     exact bL
    refine qg g63 aE (qg g63 gW (qg g63 aE ?_))
    iterate 4 refine qk (congrArg (fun b=> !b) g60) ?_
    refine qg g63 (b6 (congrArg (fun b=> !b) g60)) (q1 (b6 g63) (qN (kJ rfl (aQ.skip ?_))))
    exact dO ⟨_,(aZ H:),b0⟩
   iterate 4 refine qk g60 ?_
   refine qg g59 (b6 g60) (q1 (b6 g59) (q1 aE (qg rfl aE (qg rfl gW (qg rfl aE (qg (congrArg (fun b=> !b) g60) (a6 rE) (qg (congrArg (fun b=> !b) g60) (cU [pI pa0.gType.gKind,pS pa0.gType.gName,a3 pa0.gType.gArgs] bZ) (bN H fun x65 z64 H=>(qg (congrArg (fun b=> !b) g60) (bG Tryz.func277 (uV fu pa0.gType _ z64)) (qg (congrArg (fun b=> !b) g60) gW (qg rfl (bS (congrArg (fun b=> !b) g60)) (q1 (b6 rfl) (qN ?_)))))))))))))
   refine bA H (fun h66 H=>?_) (fun h66 H=>?_)
   ·refine qS (qR (q1 aE (qN (aQ.ret ?_))))
    obtain rfl:_=r:=(CY (aZ H):)
    exact bL
   refine aQ.skip ?_;exact dO ⟨_,(aZ H:),b0⟩
  iterate 4 refine qk g58 ?_
  refine qg rfl (b6 g58) (q1 (b6 rfl) (q1 aE ?_))
  iterate 2 refine qg rfl aE ?_
  refine dY 111 H (fun g67 H=>?_) fun g67 H=>?_
  ·refine qg g67 (a6 rE) (qg g67 (cU [pI pa0.gType.gKind,pS pa0.gType.gName,a3 pa0.gType.gArgs] bZ) (bN H fun x69 z68 H=>(qg g67 (bG Tryz.func284 (k9 fu pa0.gType _ z68)) (qg g67 gW (qg rfl (bS g67) (q1 (b6 rfl) (q1 aE ?_)))))))
   refine dY 118 H (fun g70 H=>?_) fun g70 H=>?_
   ·refine qk g70 ?_
    iterate 2 refine qk g70 ?_
    iterate 4 refine KM ?_
    refine qk g70 (q1 (bS g70) (qN (dM rfl (qS (qR (q1 aE (qN (aQ.ret ?_))))))))
    obtain rfl:_=r:=(CY (aZ H):)
    exact bL
   refine qg g70 aE (qg g70 gW (qg g70 aE ?_))
   iterate 4 refine qk (congrArg (fun b=> !b) g67) ?_
   refine qg g70 (b6 (congrArg (fun b=> !b) g67)) (q1 (b6 g70) (qN (kJ rfl (aQ.skip ?_))))
   exact dO ⟨_,(aZ H:),b0⟩
  iterate 4 refine qk g67 ?_
  refine qg rfl (b6 g67) (q1 (b6 rfl) (q1 aE (qg rfl aE (qg rfl gW (qg rfl aE (qg (congrArg (fun b=> !b) g67) (a6 rE) (qg (congrArg (fun b=> !b) g67) (cU [pI pa0.gType.gKind,pS pa0.gType.gName,a3 pa0.gType.gArgs] bZ) (bN H fun x72 z71 H=>(qg (congrArg (fun b=> !b) g67) (bG Tryz.func277 (uV fu pa0.gType _ z71)) (qg (congrArg (fun b=> !b) g67) gW (qg rfl (bS (congrArg (fun b=> !b) g67)) (q1 (b6 rfl) (qN ?_)))))))))))))
  refine bA H (fun h73 H=>?_) (fun h73 H=>?_)
  ·refine qS (qR (q1 aE (qN (aQ.ret ?_))))
   obtain rfl:_=r:=(CY (aZ H):)
   exact bL
  refine aQ.skip ?_;exact dO ⟨_,(aZ H:),b0⟩
 rintro⟨⟩ H
 refine qS ?_;refine qD (σ:=Unit) (fun _=>⟨[(1,.ptr 0 0),(2,pB false)],⟨[some ⟨87,hM pa0⟩],[]⟩⟩) (f8 H) (fun H=>?_) ?_
 ·refine qS (qR (q1 (a6 rD) (q1 (bD jN) (q1 eG (q1 aE ?_)))))
  refine dY 131 H (fun g74 H=>?_) fun g74 H=>?_
  ·refine qg g74 (a6 DC) (qg g74 (bD jN) (bN H fun x76 z75 H=>(qg g74 (bG Tryz.func108 (uZ fu pa0.gN (-999999) 999999 _ z75)) (qg g74 gW (q1 (bS g74) (q1 aE ?_))))))
   refine dY 137 H (fun g77 H=>?_) fun g77 H=>?_
   ·refine qk g77 ?_
    iterate 3 refine qk g77 ?_
    iterate 4 refine KM ?_
    refine qk g77 (q1 (bS g77) (qN (dM rfl (qS (qR (q1 aE (qN (aQ.ret ?_))))))))
    obtain rfl:_=r:=(CY (aZ H):)
    exact bL
   refine qg g77 (a6 rD) (qg g77 (bD jN) (qg g77 eG (qg g77 aE ?_)))
   iterate 4 refine qk (dne (b:=2) g74 (by decide)) ?_
   refine qg g77 (b6 (dne (b:=2) g74 (by decide))) (q1 (b6 g77) (qN (kJ rfl (aQ.skip ?_))))
   exact dO ⟨_,(aZ H:),b0⟩
  iterate 4 refine qk g74 ?_
  refine q1 (b6 g74) (q1 aE (qg rfl (a6 rD) (qg rfl (bD jN) (qg rfl eG (qg rfl aE ?_)))))
  refine dY 141 H (fun g78 H=>?_) fun g78 H=>?_
  ·refine qg g78 (a6 DC) (qg g78 (bD jN) (bN H fun x80 z79 H=>(qg g78 (bG Tryz.func108 (uZ fu pa0.gN 0 1 _ z79)) (qg g78 gW (qg rfl (bS g78) (q1 (b6 rfl) (qN ?_)))))))
   refine bA H (fun h81 H=>?_) (fun h81 H=>?_)
   ·refine qS (qR (q1 aE (qN (aQ.ret ?_))))
    obtain rfl:_=r:=(CY (aZ H):)
    exact bL
   refine aQ.skip ?_;exact dO ⟨_,(aZ H:),b0⟩
  iterate 4 refine qk g78 ?_
  refine qg rfl (b6 g78) (q1 (b6 rfl) (qN (kJ rfl (aQ.skip ?_))))
  exact dO ⟨_,(aZ H:),b0⟩
 rintro⟨⟩ H
 iterate 2 refine qS ?_
 refine qR (q1 aE (qN ?_))
 refine aQ.fact (cE 0 7 rfl rfl rfl (aG.trs_len _)) (fun hl83=>?_)
 refine b9 (σ:=Unit) (fun i82 _=>⟨[(1,.ptr 0 0),(2,pB false),(9,pN i82)],⟨[some ⟨87,hM pa0⟩],[]⟩⟩) (fun _=>⟨[(1,.ptr 0 0),(2,pB false)],⟨[some ⟨87,hM pa0⟩],[]⟩⟩) (f8 H) ?_ ?_
 ·rintro i82 ⟨⟩ H
  iterate 2 refine qS ?_
  refine qR (q1 aE (q1 (a6 iG) (q1 (bD tW) (q1 (eB mA (aG.trs_len _)) (q1 gP (qN ?_))))))
  refine dT H (fun h84 h84l H=>?_) (fun h84 H=>?_)
  ·have h84n:=a8 h84
   refine aQ.skip (qS (aQ.block (qS (qR (q1 (a6 iG) (q1 (bD tW) (q1 aE (gL H fun y85 h86 H=>(q1 (vT h86 h84n mA) (q1 (jW (aG.cs y85) gY) (bN H fun x88 z87 H=>(q1 (bG Tryz.func294 (h_sl11Form y85 _ z87)) (q1 gW ?_)))))))))))))
   refine qN ?_;refine bA H (fun h89 H=>?_) (fun h89 H=>?_)
   ·refine qS (qR (q1 aE (qN (aQ.ret ?_))))
    obtain rfl:_=r:=(p8 (aZ H):)
    exact bL
   refine aQ.skip (qR (q1 aE (q1 (aX.addI rfl rfl rfl rfl (c:=((i82+1:Nat):Int)) (by omega) (by omega)) (q1 aE (qN ?_)))))
   exact iK h84l ⟨_,(aZ H:),b0⟩
  refine aQ.exit ?_;exact j0 ⟨_,H,b0⟩
 rintro⟨⟩ H
 iterate 2 refine qS ?_
 refine qR (q1 aE (qN ?_))
 refine aQ.fact (cE 0 8 rfl rfl rfl (bK.trs_len _)) (fun hl91=>?_)
 refine b9 (σ:=Unit) (fun i90 _=>⟨[(1,.ptr 0 0),(2,pB false),(10,pN i90)],⟨[some ⟨87,hM pa0⟩],[]⟩⟩) (fun _=>⟨[(2,pB false)],⟨[some ⟨87,hM pa0⟩],[]⟩⟩) (f8 H) ?_ ?_
 ·rintro i90 ⟨⟩ H
  iterate 2 refine qS ?_
  refine qR (q1 aE (q1 (a6 fR) (q1 (bD qG) (q1 (eB nM (bK.trs_len _)) (q1 gP (qN ?_))))))
  refine dT H (fun h92 h92l H=>?_) (fun h92 H=>?_)
  ·have h92n:=a8 h92
   refine aQ.skip (qS (aQ.block (qS (qR (q1 (a6 fR) (q1 (bD qG) (q1 aE (gL H fun y93 h94 H=>(q1 (vT h94 h92n nM) (q1 (jW (bK.cs y93) amJ) (q1 (gM PM) (q1 (bR amT) (qN ?_)))))))))))))
   refine qS (qR (q1 (a6 BA) (q1 (bD eE) (bN H fun x96 z95 H=>(q1 (bG Tryz.func235 (dQ fu y93.gConstructor _ z95)) (q1 gW (q1 aE ?_)))))))
   refine dY 178 H (fun g97 H=>?_) fun g97 H=>?_
   ·refine qk g97 ?_
    iterate 3 refine qk g97 ?_
    refine q1 (bS g97) (q1 aE ?_)
    iterate 4 refine qk rfl ?_
    refine q1 (bS rfl) (q1 aE ?_)
    iterate 4 refine qk rfl ?_
    refine q1 (bS rfl) (qN (dM rfl (qS (qR (q1 aE (qN (aQ.ret ?_)))))))
    obtain rfl:_=r:=(p8 (aZ H):)
    exact bL
   refine qg g97 (a6 BB) (qg g97 (bD jC) (bN H fun x99 z98 H=>(qg g97 (bG Tryz.func255 (OA fu y93.gVars _ z98)) (qg g97 gW (q1 (b6 g97) (q1 aE ?_))))))
   refine dY 184 H (fun g100 H=>?_) fun g100 H=>?_
   ·refine qk g100 ?_
    iterate 3 refine qk g100 ?_
    refine q1 (bS g100) (q1 aE ?_)
    iterate 4 refine qk rfl ?_
    refine q1 (bS rfl) (qN (dM rfl (qS (qR (q1 aE (qN (aQ.ret ?_)))))))
    obtain rfl:_=r:=(p8 (aZ H):)
    exact bL
   refine qg g100 (a6 BB) (qg g100 (bD jC) (bN H fun x102 z101 H=>(qg g100 (bG Tryz.func237 (k8 fu y93.gVars _ z101)) (qg g100 gW (q1 (b6 g100) (q1 aE ?_))))))
   refine dY 190 H (fun g103 H=>?_) fun g103 H=>?_
   ·refine qk g103 ?_
    iterate 3 refine qk g103 ?_
    refine q1 (bS g103) (qN (dM rfl (qS (qR (q1 aE (qN (aQ.ret ?_)))))))
    obtain rfl:_=r:=(p8 (aZ H):)
    exact bL
   refine qg g103 (a6 HR) (qg g103 (cU [pI y93.gBody.gKind,pS y93.gBody.gTrait,pS y93.gBody.gName,pI y93.gBody.gN,pI y93.gBody.gType.gKind,pS y93.gBody.gType.gName,a3 y93.gBody.gType.gArgs,f9 y93.gBody.gArgs,m3 y93.gBody.gArms] gY) (bN H fun x105 z104 H=>(qg g103 (bG Tryz.func294 (h_sl11Form y93.gBody _ z104)) (qg g103 gW (q1 (b6 g103) (qN ?_))))))
   refine bA H (fun h106 H=>?_) (fun h106 H=>?_)
   ·refine qS (qR (q1 aE (qN (aQ.ret ?_))))
    obtain rfl:_=r:=(p8 (aZ H):)
    exact bL
   refine aQ.skip (qR (q1 aE (q1 (aX.addI rfl rfl rfl rfl (c:=((i90+1:Nat):Int)) (by omega) (by omega)) (q1 aE (qN ?_)))))
   exact iK h92l ⟨_,(aZ H:),b0⟩
  refine aQ.exit ?_;exact j0 ⟨_,H,b0⟩
 rintro⟨⟩ H
 refine qS (qR (q1 aE (qN (aQ.ret ?_))))
 cases aZ H
 exact bL
def l3:Nat→aG→Option Bool
 |0,_=>none
 |fu+1,pa0=>I2 fu (l3 fu) pa0
theorem XR(fu:Nat):BV (l3 fu):=by
 induction fu with
 |zero=>exact(fun pa0 r H=>by simp only [l3] at H;cases H)
 |succ fu ih=>exact(fun pa0 r H=>by simp only [l3] at H;exact UN fu (l3 fu) ih pa0 r H)
theorem abP(fu:Nat):BV (l3 fu):=(XR fu)
def R2(m:aG→Option Bool):Prop:= ∀(pe:aG) (r:Bool),m pe=some r→b4 Tryz.prog 287 [(aG.pv pe)] (pB r:PV)
def xN(fu:Nat)(pe:aG):Option Bool:=
 bd (l6 fu pe 300) (fun x2=>
 sw (decide (x2≥0))
 (bd (l3 fu pe) (fun x5=>
 some x5))
 (some false))
theorem O7(fu:Nat):R2 (xN fu):=by
 intro pe r H
 have H:=eF H
 refine qI Tryz.func287 (fun C hC=>?_)
 refine qS (qR (q1 (jP (hM pe)) (q1 aE (qN (qS (qR (q1 (cU [pI pe.gKind,pS pe.gTrait,pS pe.gName,pI pe.gN,pI pe.gType.gKind,pS pe.gType.gName,a3 pe.gType.gArgs,f9 pe.gArgs,m3 pe.gArms] gY) (bN H fun x2 z1 H=>(q1 (bG Tryz.func293 (ab2 fu pe 300 _ z1)) (q1 TX (q1 aE ?_)))))))))))
 refine dY 6 H (fun g3 H=>?_) fun g3 H=>?_
 ·refine qg g3 (cU [pI pe.gKind,pS pe.gTrait,pS pe.gName,pI pe.gN,pI pe.gType.gKind,pS pe.gType.gName,a3 pe.gType.gArgs,f9 pe.gArgs,m3 pe.gArms] gY) (bN H fun x5 z4 H=>(qg g3 (bG Tryz.func294 (abP fu pe _ z4)) (q1 (bS g3) (q1 aE (qN (aQ.ret ?_))))))
  cases aZ H
  exact bL
 iterate 2 refine qk g3 ?_
 refine q1 (b6 g3) (q1 aE (qN (aQ.ret ?_)))
 cases aZ H
 exact bL
def ab4(m:(List ByteArray)→(List ByteArray)→Option Bool):Prop:= ∀(pa:List ByteArray) (pb:List ByteArray) (r:Bool),m pa pb=some r→b4 Tryz.prog 295 [rS pa,rS pb] (pB r:PV)
def XU(fu:Nat)(pa pb:List ByteArray):Nat→Unit→Option (LR Unit Bool):=
 fun i2 _=>gd (i2<(pb).length)
 (sw (!decide (aW pa i2=aW pb i2))
 (some (.ret false))
 (some (.next ())))
def XV(fu:Nat)(pa pb:List ByteArray):Option (Bool⊕Unit):=
 loopN (XU fu pa pb) (pa.length-0) 0 ()
def D2(fu:Nat)(pa pb:List ByteArray):Option Bool:=
 sw (!decide ((pa.length:Int)=(pb.length:Int)))
 (some false)
 (so (XV fu pa pb) (fun _=>
 some true))
theorem K2(fu:Nat):ab4 (D2 fu):=by
 intro pa pb r H
 have H:=eF H
 refine qI Tryz.func295 (fun C hC=>?_)
 refine qS (qR (q1 aE (qN ?_)))
 iterate 2 refine qS ?_
 refine qR (q1 aE (q1 (eB bU (a9 _)) (q1 aE (q1 (eB bU (a9 _)) (q1 P5 (qN ?_))))))
 refine bA H (fun h1 H=>?_) (fun h1 H=>?_)
 ·refine qS (qR (q1 aE (qN (aQ.ret ?_))))
  cases aZ H
  exact bL
 refine aQ.skip ?_
 iterate 2 refine qS ?_
 refine qR (q1 aE (qN ?_))
 refine j8 0 (a9 _) (fun hl3=>?_)
 refine b9 (σ:=Unit) (fun i2 _=>⟨[(0,rS pa),(1,rS pb),(4,pB false),(5,pN i2)],⟨[],[]⟩⟩) (fun _=>⟨[(4,pB false)],⟨[],[]⟩⟩) (f8 H) ?_ ?_
 ·rintro i2 ⟨⟩ H
  iterate 2 refine qS ?_
  refine qR ?_
  iterate 2 refine q1 aE ?_
  refine q1 (eB bU (a9 _)) (q1 gP (qN ?_))
  refine dT H (fun h4 h4l H=>?_) (fun h4 H=>?_)
  ·have h4n:=a8 h4
   refine aQ.skip (qS (aQ.block (qS (cX H fun z5 H=>(dW (dI [0] aE (dI [5] aE (dI [17,18] (gV h4n bU) (dI [19] (mC eE) (dI [1] aE (dI [5] aE (dI [21,22] (gV z5 bU) (dI [23] (mC eE) ?_)))))))))))))
   refine dI [20,24] RL (dN ?_)
   refine bA H (fun h6 H=>?_) (fun h6 H=>?_)
   ·refine qS (qR (q1 aE (qN (aQ.ret ?_))))
    obtain rfl:_=r:=(p8 (aZ H):)
    exact bL
   refine aQ.skip (qR (q1 aE (q1 (aX.addI rfl rfl rfl rfl (c:=((i2+1:Nat):Int)) (by omega) (by omega)) (q1 aE (qN ?_)))))
   exact iK h4l ⟨_,(aZ H:),b0⟩
  refine aQ.exit ?_;exact j0 ⟨_,H,b0⟩
 rintro⟨⟩ H
 refine qS (qR (q1 aE (qN (aQ.ret ?_))))
 cases aZ H
 exact bL
abbrev kA:=aG→aG→Option Bool
def wJ(m:kA):Prop:= ∀(pa0:aG) (pa1:aG) (r:Bool),m pa0 pa1=some r→b4 Tryz.prog 288 [(aG.pv pa0),(aG.pv pa1)] (pB r:PV)
def TY(fu:Nat)(r_sEqualExpr:kA)(pa0 pa1:aG)(x6:Bool):Nat→Unit→Option (LR Unit Bool):=
 fun i10 _=>lt (aW pa0.gArgs i10) (fun y13=>
 gd (i10<(pa1.gArgs).length)
 (lt (aW pa1.gArgs i10) (fun y16=>
 bd (r_sEqualExpr y13 y16) (fun x19=>
 sw (!(x19))
 (some (.ret false))
 (some (.next ()))))))
def T3(fu:Nat)(r_sEqualExpr:kA)(pa0 pa1:aG)(x6:Bool):Option (Bool⊕Unit):=
 loopN (TY fu r_sEqualExpr pa0 pa1 x6) (pa0.gArgs.length-0) 0 ()
def TZ(fu:Nat)(r_sEqualExpr:kA)(pa0 pa1:aG)(x6:Bool):Nat→Unit→Option (LR Unit Bool):=
 fun i21 _=>lt (aW pa0.gArms i21) (fun y24=>
 gd (i21<(pa1.gArms).length)
 (lt (aW pa1.gArms i21) (fun y27=>
 sw (!decide (y24.gConstructor=y27.gConstructor))
 (some (.ret false))
 (bd (D2 fu y24.gVars y27.gVars) (fun x31=>
 sw (!(x31))
 (some (.ret false))
 (bd (r_sEqualExpr y24.gBody y27.gBody) (fun x34=>
 sw (!(x34))
 (some (.ret false))
 (some (.next ())))))))))
def T4(fu:Nat)(r_sEqualExpr:kA)(pa0 pa1:aG)(x6:Bool):Option (Bool⊕Unit):=
 loopN (TZ fu r_sEqualExpr pa0 pa1 x6) (pa0.gArms.length-0) 0 ()
def BP(fu:Nat)(r_sEqualExpr:kA)(pa0 pa1:aG):Option Bool:=
 sw (!decide (pa0.gKind=pa1.gKind))
 (some false)
 (sw (!decide (pa0.gTrait=pa1.gTrait))
 (some false)
 (sw (!decide (pa0.gName=pa1.gName))
 (some false)
 (sw (!decide (pa0.gN=pa1.gN))
 (some false)
 (bd (e8 fu pa0.gType pa1.gType) (fun x6=>
 sw (!(x6))
 (some false)
 (sw (!decide ((pa0.gArgs.length:Int)=(pa1.gArgs.length:Int)))
 (some false)
 (sw (!decide ((pa0.gArms.length:Int)=(pa1.gArms.length:Int)))
 (some false)
 (so (T3 fu r_sEqualExpr pa0 pa1 x6) (fun _=>
 so (T4 fu r_sEqualExpr pa0 pa1 x6) (fun _=>
 some true))))))))))
theorem O0(fu:Nat)(r_sEqualExpr:kA)(h_sEqualExpr:wJ r_sEqualExpr):wJ (BP fu r_sEqualExpr):=by
 intro pa0 pa1 r H
 have H:=eF H
 refine qI Tryz.func288 (fun C hC=>?_)
 refine qS (qR (q1 (jP (hM pa0)) (q1 (jP (hM pa1)) (q1 aE (qN ?_)))))
 iterate 2 refine qS ?_
 refine qR (q1 (a6 rD) (q1 (bD jN) (q1 (a6 rD) (q1 (bD jN) (q1 P5 (q1 aE ?_))))))
 refine dY 12 H (fun g1 H=>?_) fun g1 H=>?_
 ·refine qk g1 ?_
  iterate 4 refine qk g1 ?_
  refine q1 (bS g1) (q1 aE ?_)
  iterate 5 refine qk rfl ?_
  refine q1 (bS rfl) (q1 aE ?_)
  iterate 5 refine qk rfl ?_
  refine q1 (bS rfl) (q1 aE ?_)
  iterate 6 refine qk rfl ?_
  refine q1 (bS rfl) (q1 aE ?_)
  iterate 7 refine qk rfl ?_
  refine q1 (bS rfl) (q1 aE ?_)
  iterate 7 refine qk rfl ?_
  refine q1 (bS rfl) (qN (dM rfl (qS (qR (q1 aE (qN (aQ.ret ?_)))))))
  cases aZ H
  exact bL
 refine qg g1 (a6 L1) (qg g1 (bD eE) (qg g1 (a6 L1) (qg g1 (bD eE) (qg g1 RL (q1 (b6 g1) (q1 aE ?_))))))
 refine dY 19 H (fun g2 H=>?_) fun g2 H=>?_
 ·refine qk g2 ?_
  iterate 4 refine qk g2 ?_
  refine q1 (bS g2) (q1 aE ?_)
  iterate 5 refine qk rfl ?_
  refine q1 (bS rfl) (q1 aE ?_)
  iterate 6 refine qk rfl ?_
  refine q1 (bS rfl) (q1 aE ?_)
  iterate 7 refine qk rfl ?_
  refine q1 (bS rfl) (q1 aE ?_)
  iterate 7 refine qk rfl ?_
  refine q1 (bS rfl) (qN (dM rfl (qS (qR (q1 aE (qN (aQ.ret ?_)))))))
  cases aZ H
  exact bL
 refine qg g2 (a6 oV) (qg g2 (bD eE) (qg g2 (a6 oV) (qg g2 (bD eE) (qg g2 RL (q1 (b6 g2) (q1 aE ?_))))))
 refine dY 26 H (fun g3 H=>?_) fun g3 H=>?_
 ·refine qk g3 ?_
  iterate 4 refine qk g3 ?_
  refine q1 (bS g3) (q1 aE ?_)
  iterate 6 refine qk rfl ?_
  refine q1 (bS rfl) (q1 aE ?_)
  iterate 7 refine qk rfl ?_
  refine q1 (bS rfl) (q1 aE ?_)
  iterate 7 refine qk rfl ?_
  refine q1 (bS rfl) (qN (dM rfl (qS (qR (q1 aE (qN (aQ.ret ?_)))))))
  cases aZ H
  exact bL
 refine qg g3 (a6 DC) (qg g3 (bD jN) (qg g3 (a6 DC) (qg g3 (bD jN) (qg g3 P5 (q1 (b6 g3) (q1 aE ?_))))))
 refine dY 33 H (fun g4 H=>?_) fun g4 H=>?_
 ·refine qk g4 ?_
  iterate 5 refine qk g4 ?_
  refine q1 (bS g4) (q1 aE ?_)
  iterate 7 refine qk rfl ?_
  refine q1 (bS rfl) (q1 aE ?_)
  iterate 7 refine qk rfl ?_
  refine q1 (bS rfl) (qN (dM rfl (qS (qR (q1 aE (qN (aQ.ret ?_)))))))
  cases aZ H
  exact bL
 refine qg g4 (a6 rE) (qg g4 (cU [pI pa0.gType.gKind,pS pa0.gType.gName,a3 pa0.gType.gArgs] bZ) (qg g4 (a6 rE) (qg g4 (cU [pI pa1.gType.gKind,pS pa1.gType.gName,a3 pa1.gType.gArgs] bZ) (bN H fun x6 z5 H=>(qg g4 (bG Tryz.func16 (GW fu pa0.gType pa1.gType _ z5)) (qg g4 gW (q1 (b6 g4) (q1 aE ?_))))))))
 refine dY 41 H (fun g7 H=>?_) fun g7 H=>?_
 ·refine qk g7 ?_
  iterate 6 refine qk g7 ?_
  refine q1 (bS g7) (q1 aE ?_)
  iterate 7 refine qk rfl ?_
  refine q1 (bS rfl) (qN (dM rfl (qS (qR (q1 aE (qN (aQ.ret ?_)))))))
  cases aZ H
  exact bL
 refine qg g7 (a6 iG) (qg g7 (bD tW) (qg g7 (eB mA (aG.trs_len _)) (qg g7 (a6 iG) (qg g7 (bD tW) (qg g7 (eB mA (aG.trs_len _)) (qg g7 P5 (q1 (b6 g7) (q1 aE ?_))))))))
 refine dY 50 H (fun g8 H=>?_) fun g8 H=>?_
 ·refine qk g8 ?_
  iterate 6 refine qk g8 ?_
  refine q1 (bS g8) (qN (dM rfl (qS (qR (q1 aE (qN (aQ.ret ?_)))))))
  cases aZ H
  exact bL
 refine qg g8 (a6 fR) (qg g8 (bD qG) (qg g8 (eB nM (bK.trs_len _)) (qg g8 (a6 fR) (qg g8 (bD qG) (qg g8 (eB nM (bK.trs_len _)) (qg g8 P5 (q1 (b6 g8) (qN ?_))))))))
 refine bA H (fun h9 H=>?_) (fun h9 H=>?_)
 ·refine qS (qR (q1 aE (qN (aQ.ret ?_))))
  cases aZ H
  exact bL
 refine aQ.skip ?_
 iterate 2 refine qS ?_
 refine qR (q1 aE (qN ?_))
 refine j8 43 (aG.trs_len _) (fun hl11=>?_)
 refine b9 (σ:=Unit) (fun i10 _=>⟨[(2,.ptr 0 0),(3,.ptr 1 0),(4,pB false),(5,pN i10)],⟨[some ⟨87,hM pa0⟩,some ⟨87,hM pa1⟩],[]⟩⟩) (fun _=>⟨[(2,.ptr 0 0),(3,.ptr 1 0),(4,pB false)],⟨[some ⟨87,hM pa0⟩,some ⟨87,hM pa1⟩],[]⟩⟩) (f8 H) ?_ ?_
 ·rintro i10 ⟨⟩ H
  iterate 2 refine qS ?_
  refine qR (q1 aE (q1 (a6 iG) (q1 (bD tW) (q1 (eB mA (aG.trs_len _)) (q1 gP (qN ?_))))))
  refine dT H (fun h12 h12l H=>?_) (fun h12 H=>?_)
  ·have h12n:=a8 h12
   refine aQ.skip (qS (aQ.block (qS (gL H fun y13 h14 H=>(cX H fun z15 H=>(gL H fun y16 h17 H=>(bN H fun x19 z18 H=>(dW (dI [2] (a6 iG) (dD [66] (bD tW) (dI [5] aE (dI [67,68] (vT h14 h12n mA) (dI [69] (jW (aG.cs y13) gY) ?_)))))))))))))
   refine dI [3] (a6 iG) (dD [71] (bD tW) (dI [5] aE (dI [72,73] (vT h17 z15 mA) (dI [74] (jW (aG.cs y16) gY) (dI [70,75] (bG Tryz.func288 (h_sEqualExpr y13 y16 _ z18)) (dI [76] gW (dN ?_)))))))
   refine bA H (fun h20 H=>?_) (fun h20 H=>?_)
   ·refine qS (qR (q1 aE (qN (aQ.ret ?_))))
    obtain rfl:_=r:=(p8 (aZ H):)
    exact bL
   refine aQ.skip (qR (q1 aE (q1 (aX.addI rfl rfl rfl rfl (c:=((i10+1:Nat):Int)) (by omega) (by omega)) (q1 aE (qN ?_)))))
   exact iK h12l ⟨_,(aZ H:),b0⟩
  refine aQ.exit ?_;exact j0 ⟨_,H,b0⟩
 rintro⟨⟩ H
 iterate 2 refine qS ?_
 refine qR (q1 aE (qN ?_))
 refine aQ.fact (cE 0 8 rfl rfl rfl (bK.trs_len _)) (fun hl22=>?_)
 refine b9 (σ:=Unit) (fun i21 _=>⟨[(2,.ptr 0 0),(3,.ptr 1 0),(4,pB false),(6,pN i21)],⟨[some ⟨87,hM pa0⟩,some ⟨87,hM pa1⟩],[]⟩⟩) (fun _=>⟨[(4,pB false)],⟨[some ⟨87,hM pa0⟩,some ⟨87,hM pa1⟩],[]⟩⟩) (f8 H) ?_ ?_
 ·rintro i21 ⟨⟩ H
  iterate 2 refine qS ?_
  refine qR (q1 aE (q1 (a6 fR) (q1 (bD qG) (q1 (eB nM (bK.trs_len _)) (q1 gP (qN ?_))))))
  refine dT H (fun h23 h23l H=>?_) (fun h23 H=>?_)
  ·have h23n:=a8 h23
   refine aQ.skip (qS (aQ.block (qS (gL H fun y24 h25 H=>(cX H fun z26 H=>(gL H fun y27 h28 H=>?_))))))
   rcases lC (!decide (y24.gConstructor=y27.gConstructor)) with g29|g29
   ·have H:=oE H g29
    refine dW (dI [2] (a6 fR) (dD [85] (bD qG) (dI [6] aE (dI [86,87] (vT h25 h23n nM) (dI [88] (nK BA) (dI [89] (mC eE) (dI [3] (a6 fR) (dD [91] (bD qG) (dI [6] aE (dI [92,93] (vT h28 z26 nM) (dI [94] (nK BA) (dI [95] (mC eE) (dI [90,96] RL ?_)))))))))))))
    refine dI [97] aE ?_
    iterate 14 refine CQ g29 ?_
    refine dI [98] (bS g29) (dI [113] aE ?_)
    iterate 14 refine CQ rfl ?_
    refine dI [114] (bS rfl) (dN (dM rfl (qS (qR (q1 aE (qN (aQ.ret ?_)))))))
    obtain rfl:_=r:=(p8 (aZ H):)
    exact bL
   have H:=oA H g29
   refine bN H fun x31 z30 H=>?_
   rcases lC (!(x31)) with g32|g32
   ·have H:=oE H g32
    refine dW (dI [2] (a6 fR) (dD [85] (bD qG) (dI [6] aE (dI [86,87] (vT h25 h23n nM) (dI [88] (nK BA) (dI [89] (mC eE) (dI [3] (a6 fR) (dD [91] (bD qG) (dI [6] aE (dI [92,93] (vT h28 z26 nM) (dI [94] (nK BA) (dI [95] (mC eE) (dI [90,96] RL ?_)))))))))))))
    refine dI [97] aE (dI (hg:=a5 g29) [2] (a6 fR) (dD (hg:=a5 g29) [99] (bD qG) (dI (hg:=a5 g29) [6] aE (dI (hg:=a5 g29) [100,101] (vT h25 h23n nM) (dI (hg:=a5 g29) [102] (nK BB) (dI (hg:=a5 g29) [103] (mC jC) (dI (hg:=a5 g29) [3] (a6 fR) (dD (hg:=a5 g29) [105] (bD qG) (dI (hg:=a5 g29) [6] aE (dI (hg:=a5 g29) [106,107] (vT h28 z26 nM) (dI (hg:=a5 g29) [108] (nK BB) (dI (hg:=a5 g29) [109] (mC jC) (dI (hg:=a5 g29) [104,110] (bG Tryz.func295 (K2 fu y24.gVars y27.gVars _ z30)) ?_)))))))))))))
    refine dI (hg:=a5 g29) [111] gW (dI [98,112] (b6 g29) (dI [113] aE ?_))
    iterate 14 refine CQ g32 ?_
    refine dI [114] (bS g32) (dN (dM rfl (qS (qR (q1 aE (qN (aQ.ret ?_)))))))
    obtain rfl:_=r:=(p8 (aZ H):)
    exact bL
   have H:=oA H g32
   refine bN H fun x34 z33 H=>(dW (dI [2] (a6 fR) (dD [85] (bD qG) (dI [6] aE (dI [86,87] (vT h25 h23n nM) (dI [88] (nK BA) (dI [89] (mC eE) (dI [3] (a6 fR) (dD [91] (bD qG) (dI [6] aE (dI [92,93] (vT h28 z26 nM) (dI [94] (nK BA) (dI [95] (mC eE) ?_)))))))))))))
   refine dI [90,96] RL (dI [97] aE (dI (hg:=a5 g29) [2] (a6 fR) (dD (hg:=a5 g29) [99] (bD qG) (dI (hg:=a5 g29) [6] aE (dI (hg:=a5 g29) [100,101] (vT h25 h23n nM) (dI (hg:=a5 g29) [102] (nK BB) (dI (hg:=a5 g29) [103] (mC jC) (dI (hg:=a5 g29) [3] (a6 fR) (dD (hg:=a5 g29) [105] (bD qG) (dI (hg:=a5 g29) [6] aE (dI (hg:=a5 g29) [106,107] (vT h28 z26 nM) (dI (hg:=a5 g29) [108] (nK BB) (dI (hg:=a5 g29) [109] (mC jC) ?_)))))))))))))
   refine dI (hg:=a5 g29) [104,110] (bG Tryz.func295 (K2 fu y24.gVars y27.gVars _ z30)) (dI (hg:=a5 g29) [111] gW (dI [98,112] (b6 g29) (dI [113] aE (dI (hg:=a5 g32) [2] (a6 fR) (dD (hg:=a5 g32) [115] (bD qG) (dI (hg:=a5 g32) [6] aE (dI (hg:=a5 g32) [116,117] (vT h25 h23n nM) (dI (hg:=a5 g32) [118] (nK HR) (dI (hg:=a5 g32) [119] (jW (aG.cs y24.gBody) gY) (dI (hg:=a5 g32) [3] (a6 fR) (dD (hg:=a5 g32) [121] (bD qG) (dI (hg:=a5 g32) [6] aE (dI (hg:=a5 g32) [122,123] (vT h28 z26 nM) ?_)))))))))))))
   refine dI (hg:=a5 g32) [124] (nK HR) (dI (hg:=a5 g32) [125] (jW (aG.cs y27.gBody) gY) (dI (hg:=a5 g32) [120,126] (bG Tryz.func288 (h_sEqualExpr y24.gBody y27.gBody _ z33)) (dI (hg:=a5 g32) [127] gW (dI [114,128] (b6 g32) (dN ?_)))))
   refine bA H (fun h35 H=>?_) (fun h35 H=>?_)
   ·refine qS (qR (q1 aE (qN (aQ.ret ?_))))
    obtain rfl:_=r:=(p8 (aZ H):)
    exact bL
   refine aQ.skip (qR (q1 aE (q1 (aX.addI rfl rfl rfl rfl (c:=((i21+1:Nat):Int)) (by omega) (by omega)) (q1 aE (qN ?_)))))
   exact iK h23l ⟨_,(aZ H:),b0⟩
  refine aQ.exit ?_;exact j0 ⟨_,H,b0⟩
 rintro⟨⟩ H
 refine qS (qR (q1 aE (qN (aQ.ret ?_))))
 cases aZ H
 exact bL
def iZ:Nat→aG→aG→Option Bool
 |0,_,_=>none
 |fu+1,pa0,pa1=>BP fu (iZ fu) pa0 pa1
theorem RT(fu:Nat):wJ (iZ fu):=by
 induction fu with
 |zero=>exact(fun pa0 pa1 r H=>by simp only [iZ] at H;cases H)
 |succ fu ih=>exact(fun pa0 pa1 r H=>by simp only [iZ] at H;exact O0 fu (iZ fu) ih pa0 pa1 r H)
theorem T6(fu:Nat):wJ (iZ fu):=(RT fu)
abbrev l5:=aG→(List ByteArray)→(List ByteArray)→Option ((List ByteArray))
def BW(m:l5):Prop:= ∀(pa0:aG) (pa1:List ByteArray) (pa2:List ByteArray) (r:(List ByteArray)),m pa0 pa1 pa2=some r→cP Tryz.prog 292 [(aG.pv pa0),rS pa1,aS pa2 0] ⟨[],[⟨9,1,a4 (pa2),false⟩]⟩ (fun q t=>q=(aS r 0:PV)∧t=⟨[],[⟨9,1,a4 (r),false⟩]⟩)
def abQ(fu:Nat)(r_sl11Free:l5)(pa0:aG)(pa1 pa2:List ByteArray):Option (((List ByteArray))⊕((List ByteArray))):=
 sw (decide (pa0.gKind=3))
 (bd (jZ fu pa1 pa0.gName) (fun x5=>
 sw (!(x5))
 (bd (jZ fu pa2 pa0.gName) (fun x8=>
 sw (!(x8))
 (gd ((pa2).length+(([pa0.gName]:List ByteArray)).length≤68719476736)
 (some (.inr (pa2++([pa0.gName]:List ByteArray)))))
 (some (.inr pa2))))
 (some (.inr pa2))))
 (some (.inr pa2))
def abR(fu:Nat)(r_sl11Free:l5)(pa0:aG)(pa1 pa2 v2:List ByteArray):Nat→((List ByteArray))→Option (LR ((List ByteArray)) ((List ByteArray))):=
 fun i11 v13=>sw (decide (pa0.gKind=8))
 (sw (decide ((i11:Int)=1))
 (gd (([]:List ByteArray).length+(pa1).length≤68719476736)
 (gd ((([])++pa1).length+(([pa0.gName]:List ByteArray)).length≤68719476736)
 (lt (aW pa0.gArgs i11) (fun y20=>
 bd (r_sl11Free y20 ((([])++pa1)++([pa0.gName]:List ByteArray)) v13) (fun x23=>
 some (.next x23))))))
 (lt (aW pa0.gArgs i11) (fun y24=>
 bd (r_sl11Free y24 pa1 v13) (fun x27=>
 some (.next x27)))))
 (lt (aW pa0.gArgs i11) (fun y28=>
 bd (r_sl11Free y28 pa1 v13) (fun x31=>
 some (.next x31))))
def abT(fu:Nat)(r_sl11Free:l5)(pa0:aG)(pa1 pa2 v2:List ByteArray):Option (((List ByteArray))⊕((List ByteArray))):=
 loopN (abR fu r_sl11Free pa0 pa1 pa2 v2) (pa0.gArgs.length-0) 0 v2
def abS(fu:Nat)(r_sl11Free:l5)(pa0:aG)(pa1 pa2 v2 v13:List ByteArray):Nat→((List ByteArray))→Option (LR ((List ByteArray)) ((List ByteArray))):=
 fun i32 v34=>lt (aW pa0.gArms i32) (fun y37=>
 gd (([]:List ByteArray).length+(pa1).length≤68719476736)
 (gd ((([])++pa1).length+(y37.gVars).length≤68719476736)
 (bd (r_sl11Free y37.gBody ((([])++pa1)++y37.gVars) v34) (fun x42=>
 some (.next x42)))))
def abU(fu:Nat)(r_sl11Free:l5)(pa0:aG)(pa1 pa2 v2 v13:List ByteArray):Option (((List ByteArray))⊕((List ByteArray))):=
 loopN (abS fu r_sl11Free pa0 pa1 pa2 v2 v13) (pa0.gArms.length-0) 0 v13
def I3(fu:Nat)(r_sl11Free:l5)(pa0:aG)(pa1 pa2:List ByteArray):Option ((List ByteArray)):=
 so (abQ fu r_sl11Free pa0 pa1 pa2) (fun v2=>
 so (abT fu r_sl11Free pa0 pa1 pa2 v2) (fun v13=>
 so (abU fu r_sl11Free pa0 pa1 pa2 v2 v13) (fun v34=>
 some v34)))
theorem UO(fu:Nat)(r_sl11Free:l5)(h_sl11Free:BW r_sl11Free):BW (I3 fu r_sl11Free):=by
 intro pa0 pa1 pa2 r H
 have H:=eF H
 refine qI Tryz.func292 (fun C hC=>?_)
 refine qS (qR (q1 (jP (hM pa0)) (q1 aE (qN (qS ?_)))))
 refine qD (σ:=(List ByteArray)) (fun v2=>⟨[(1,rS pa1),(2,aS v2 0),(3,.ptr 0 0),(6,.nil)],⟨[some ⟨87,hM pa0⟩],[⟨9,1,a4 (v2),false⟩]⟩⟩) (f8 H) (fun H=>?_) ?_
 ·refine qS (qR (q1 (a6 rD) (q1 (bD jN) (q1 eG (q1 aE ?_)))))
  refine dY 13 H (fun g3 H=>?_) fun g3 H=>?_
  ·refine qg g3 aE (qg g3 (a6 oV) (qg g3 (bD eE) (bN H fun x5 z4 H=>(qg g3 (bG Tryz.func125 (lA fu pa1 pa0.gName _ z4)) (qg g3 gW (q1 (bS g3) (q1 aE ?_)))))))
   refine dY 20 H (fun g6 H=>?_) fun g6 H=>?_
   ·refine qg g6 aE (qg g6 (a6 oV) (qg g6 (bD eE) (bN H fun x8 z7 H=>(qg g6 (bG Tryz.func125 (lA fu pa2 pa0.gName _ z7)) (qg g6 gW (q1 (bS g6) (qN ?_)))))))
    refine bA H (fun h9 H=>?_) (fun h9 H=>?_)
    ·refine qR (q1 aE (q1 (a6 oV) (q1 (bD eE) (q1 (hH ([pa0.gName]:List ByteArray) bU kG) (cX H fun z10 H=>(q1 (kX z10 bU qH) (q1 aE (qN ?_))))))))
     exact dO ⟨_,(aZ H:),b0⟩
    refine aQ.skip ?_;exact dO ⟨_,(aZ H:),b0⟩
   iterate 5 refine qk g6 ?_
   refine q1 (b6 g6) (qN (kJ rfl (aQ.skip ?_)))
   exact dO ⟨_,(aZ H:),b0⟩
  iterate 5 refine qk g3 ?_
  refine q1 (b6 g3) (q1 aE ?_)
  iterate 5 refine qk rfl ?_
  refine q1 (b6 rfl) (qN (kJ rfl (aQ.skip ?_)))
  exact dO ⟨_,(aZ H:),b0⟩
 rintro v2 H
 iterate 2 refine qS ?_
 refine qR (q1 aE (qN ?_))
 refine aQ.fact (cE 0 7 rfl rfl rfl (aG.trs_len _)) (fun hl14=>?_)
 refine b9 (σ:=(List ByteArray)) (fun i11 v13=>⟨[(1,rS pa1),(2,aS v13 0),(3,.ptr 0 0),(6,.nil),(7,pN i11)],⟨[some ⟨87,hM pa0⟩],[⟨9,1,a4 (v13),false⟩]⟩⟩) (fun v13=>⟨[(1,rS pa1),(2,aS v13 0),(3,.ptr 0 0),(6,.nil)],⟨[some ⟨87,hM pa0⟩],[⟨9,1,a4 (v13),false⟩]⟩⟩) (f8 H) ?_ ?_
 ·rintro i11 v13 H
  iterate 2 refine qS ?_
  refine qR (q1 aE (q1 (a6 iG) (q1 (bD tW) (q1 (eB mA (aG.trs_len _)) (q1 gP (qN ?_))))))
  refine dT H (fun h15 h15l H=>?_) (fun h15 H=>?_)
  ·have h15n:=a8 h15
   refine aQ.skip (qS (aQ.block (qS (qR ?_))))
   iterate 2 refine q1 aE ?_
   refine qN ?_
   iterate 2 refine qS ?_
   refine qR (q1 (a6 rD) (q1 (bD jN) (q1 eG (q1 aE ?_))))
   refine dY 43 H (fun g16 H=>?_) fun g16 H=>?_
   ·refine qg g16 aE (qg g16 eG (q1 (bS g16) (qN ?_)))
    refine bA H (fun h17 H=>?_) (fun h17 H=>?_)
    ·refine cX H fun z18 H=>(cX H fun z19 H=>(dW (dE [] (qZ ([]:List ByteArray) bU kG) (dI [1] aE (dE [47,48] (kX z18 bU qH) (dI [3] (a6 oV) (dB [50] 0 2 (uI eE) (dI [51] (hH ([pa0.gName]:List ByteArray) bU kG) (dE [49,52] (kX z19 bU qH) (dI [53] aE (dN (qR (q1 (a6 iG) ?_)))))))))))))
     refine q1 (bD tW) (q1 aE (gL H fun y20 h21 H=>(q1 (vT h21 h15n mA) (q1 (jW (aG.cs y20) gY) ?_))))
     iterate 2 refine q1 aE ?_
     refine bN H fun x23 z22 H=>(q1 (fM [] [0] Tryz.func292 (h_sl11Free y20 ((([])++pa1)++([pa0.gName]:List ByteArray)) v13 _ z22)) (q1 aE (qN (qR (q1 aE (q1 (aX.addI rfl rfl rfl rfl (c:=((i11+1:Nat):Int)) (by omega) (by omega)) (q1 aE (qN ?_))))))))
     exact iK h15l ⟨_,(aZ H:),b0⟩
    refine aQ.skip (qR (q1 (a6 iG) (q1 (bD tW) (q1 aE (gL H fun y24 h25 H=>(q1 (vT h25 h15n mA) (q1 (jW (aG.cs y24) gY) ?_)))))))
    iterate 2 refine q1 aE ?_
    refine bN H fun x27 z26 H=>(q1 (fM [] [0] Tryz.func292 (h_sl11Free y24 pa1 v13 _ z26)) (q1 aE (qN (qR (q1 aE (q1 (aX.addI rfl rfl rfl rfl (c:=((i11+1:Nat):Int)) (by omega) (by omega)) (q1 aE (qN ?_))))))))
    exact iK h15l ⟨_,(aZ H:),b0⟩
   iterate 2 refine qk g16 ?_
   refine q1 (b6 g16) (qN (kJ rfl (aQ.skip (qR (q1 (a6 iG) (q1 (bD tW) (q1 aE (gL H fun y28 h29 H=>(q1 (vT h29 h15n mA) (q1 (jW (aG.cs y28) gY) ?_))))))))))
   iterate 2 refine q1 aE ?_
   refine bN H fun x31 z30 H=>(q1 (fM [] [0] Tryz.func292 (h_sl11Free y28 pa1 v13 _ z30)) (q1 aE (qN (qR (q1 aE (q1 (aX.addI rfl rfl rfl rfl (c:=((i11+1:Nat):Int)) (by omega) (by omega)) (q1 aE (qN ?_))))))))
   exact iK h15l ⟨_,(aZ H:),b0⟩
  refine aQ.exit ?_;exact j0 ⟨_,H,b0⟩
 rintro v13 H
 iterate 2 refine qS ?_
 refine qR (q1 aE (qN ?_))
 refine aQ.fact (cE 0 8 rfl rfl rfl (bK.trs_len _)) (fun hl35=>?_)
 refine b9 (σ:=(List ByteArray)) (fun i32 v34=>⟨[(1,rS pa1),(2,aS v34 0),(3,.ptr 0 0),(6,.nil),(9,pN i32)],⟨[some ⟨87,hM pa0⟩],[⟨9,1,a4 (v34),false⟩]⟩⟩) (fun v34=>⟨[(2,aS v34 0),(6,.nil)],⟨[some ⟨87,hM pa0⟩],[⟨9,1,a4 (v34),false⟩]⟩⟩) (f8 H) ?_ ?_
 ·rintro i32 v34 H
  iterate 2 refine qS ?_
  refine qR (q1 aE (q1 (a6 fR) (q1 (bD qG) (q1 (eB nM (bK.trs_len _)) (q1 gP (qN ?_))))))
  refine dT H (fun h36 h36l H=>?_) (fun h36 H=>?_)
  ·have h36n:=a8 h36
   refine aQ.skip (qS (aQ.block (gL H fun y37 h38 H=>(cX H fun z39 H=>(cX H fun z40 H=>(bN H fun x42 z41 H=>(dW (dI [3] (a6 fR) (dB [69] 0 3 (uI qG) (dI [9] aE (dI [70,71] (vT h38 h36n nM) (dI [72] (nK HR) (dI [73] (jW (aG.cs y37.gBody) gY) ?_)))))))))))))
   refine dE [] (qZ ([]:List ByteArray) bU kG) (dI [1] aE (dE [75,76] (kX z39 bU qH) (dI [3] (a6 fR) (dB [78] 0 2 (uI qG) (dI [9] aE (dI [79,80] (vT h38 h36n nM) (dI [81] (nK BB) (dI [82] (mC jC) (dE [77,83] (kX z40 bU qH) (dI [2] aE (dE [74,84,85] (fM [] [0] Tryz.func292 (h_sl11Free y37.gBody ((([])++pa1)++y37.gVars) v34 _ z41)) (dI [86] aE (dN ?_)))))))))))))
   refine qR (q1 aE (q1 (aX.addI rfl rfl rfl rfl (c:=((i32+1:Nat):Int)) (by omega) (by omega)) (q1 aE (qN ?_))))
   exact iK h36l ⟨_,(aZ H:),b0⟩
  refine aQ.exit ?_;exact j0 ⟨_,H,b0⟩
 rintro v34 H
 refine qS (qR ?_)
 iterate 2 refine q1 aE ?_
 refine qN (aQ.ret ?_)
 cases aZ H
 exact bL
def l4:Nat→aG→(List ByteArray)→(List ByteArray)→Option ((List ByteArray))
 |0,_,_,_=>none
 |fu+1,pa0,pa1,pa2=>I3 fu (l4 fu) pa0 pa1 pa2
theorem XS(fu:Nat):BW (l4 fu):=by
 induction fu with
 |zero=>exact(fun pa0 pa1 pa2 r H=>by simp only [l4] at H;cases H)
 |succ fu ih=>exact(fun pa0 pa1 pa2 r H=>by simp only [l4] at H;exact UO fu (l4 fu) ih pa0 pa1 pa2 r H)
theorem abW(fu:Nat):BW (l4 fu):=(XS fu)
def MN(m:aG→Option ((List ByteArray))):Prop:= ∀(pe:aG) (r:(List ByteArray)),m pe=some r→b4 Tryz.prog 286 [(aG.pv pe)] (rS r:PV)
def tS(fu:Nat)(pe:aG):Option ((List ByteArray)):=
 bd (l4 fu pe ([]) ([])) (fun x2=>
 some x2)
theorem KS(fu:Nat):MN (tS fu):=by
 intro pe r H
 have H:=eF H
 refine qI Tryz.func286 (fun C hC=>?_)
 refine qS (qR (q1 (jP (hM pe)) (q1 aE (qN (qS (qR (q1 (cU [pI pe.gKind,pS pe.gTrait,pS pe.gName,pI pe.gN,pI pe.gType.gKind,pS pe.gType.gName,a3 pe.gType.gArgs,f9 pe.gArgs,m3 pe.gArms] gY) ?_)))))))
 iterate 2 refine q1 (qZ ([]:List ByteArray) bU kG) ?_
 refine bN H fun x2 z1 H=>(q1 (fM [] [1] Tryz.func292 (abW fu pe ([]) ([]) _ z1)) (q1 aE (qN (aQ.ret ?_))))
 cases aZ H
 exact bL
def afF(m:aA→(List ByteArray)→Option Bool):Prop:= ∀(pt:aA) (pvars:List ByteArray) (r:Bool),m pt pvars=some r→b4 Tryz.prog 275 [(aA.pv pt),rS pvars] (pB r:PV)
def acK(fu:Nat)(pt:aA)(pvars x2:List ByteArray):Nat→Unit→Option (LR Unit Bool):=
 fun i3 _=>bd (jZ fu pvars (aW x2 i3)) (fun x7=>
 sw (!(x7))
 (some (.ret false))
 (some (.next ())))
def acL(fu:Nat)(pt:aA)(pvars x2:List ByteArray):Option (Bool⊕Unit):=
 loopN (acK fu pt pvars x2) (x2.length-0) 0 ()
def nF(fu:Nat)(pt:aA)(pvars:List ByteArray):Option Bool:=
 bd (tU fu pt) (fun x2=>
 so (acL fu pt pvars x2) (fun _=>
 bd (jJ fu pt) (fun x10=>
 some x10)))
theorem pH(fu:Nat):afF (nF fu):=by
 intro pt pvars r H
 have H:=eF H
 refine qI Tryz.func275 (fun C hC=>?_)
 refine qS (qR (q1 (jP (dU pt)) (q1 aE (qN (qS (qR (q1 (cU [pI pt.gKind,pS pt.gName,a3 pt.gArgs] bZ) (bN H fun x2 z1 H=>(q1 (bG Tryz.func138 (KZ fu pt _ z1)) (q1 aE (qN ?_)))))))))))
 iterate 2 refine qS ?_
 refine qR (q1 aE (qN ?_))
 refine j8 5 (a9 _) (fun hl4=>?_)
 refine b9 (σ:=Unit) (fun i3 _=>⟨[(1,rS pvars),(2,.ptr 0 0),(4,pB false),(5,rS x2),(6,pN i3)],⟨[some ⟨35,dU pt⟩],[]⟩⟩) (fun _=>⟨[(2,.ptr 0 0),(4,pB false)],⟨[some ⟨35,dU pt⟩],[]⟩⟩) (f8 H) ?_ ?_
 ·rintro i3 ⟨⟩ H
  iterate 2 refine qS ?_
  refine qR ?_
  iterate 2 refine q1 aE ?_
  refine q1 (eB bU (a9 _)) (q1 gP (qN ?_))
  refine dT H (fun h5 h5l H=>?_) (fun h5 H=>?_)
  ·have h5n:=a8 h5
   refine aQ.skip (qS (aQ.block (qS (qR ?_))))
   iterate 3 refine q1 aE ?_
   refine q1 (gV h5n bU) (q1 (mC eE) (bN H fun x7 z6 H=>(q1 (bG Tryz.func125 (lA fu pvars (aW x2 i3) _ z6)) (q1 gW (qN ?_)))))
   refine bA H (fun h8 H=>?_) (fun h8 H=>?_)
   ·refine qS (qR (q1 aE (qN (aQ.ret ?_))))
    obtain rfl:_=r:=(p8 (aZ H):)
    exact bL
   refine aQ.skip (qR (q1 aE (q1 (aX.addI rfl rfl rfl rfl (c:=((i3+1:Nat):Int)) (by omega) (by omega)) (q1 aE (qN ?_)))))
   exact iK h5l ⟨_,(aZ H:),b0⟩
  refine aQ.exit ?_;exact j0 ⟨_,H,b0⟩
 rintro⟨⟩ H
 refine qS (qR (q1 (cU [pI pt.gKind,pS pt.gName,a3 pt.gArgs] bZ) (bN H fun x10 z9 H=>(q1 (bG Tryz.func284 (k9 fu pt _ z9)) (q1 aE (qN (aQ.ret ?_)))))))
 cases aZ H
 exact bL
def ai6(m:(List aA)→(List ByteArray)→Option Bool):Prop:= ∀(plist:List aA) (pvars:List ByteArray) (r:Bool),m plist pvars=some r→b4 Tryz.prog 274 [a3 plist,rS pvars] (pB r:PV)
def ae8(fu:Nat)(plist:List aA)(pvars:List ByteArray):Nat→Unit→Option (LR Unit Bool):=
 fun i1 _=>bd (nF fu (aW plist i1) pvars) (fun x5=>
 sw (!(x5))
 (some (.ret false))
 (some (.next ())))
def ae9(fu:Nat)(plist:List aA)(pvars:List ByteArray):Option (Bool⊕Unit):=
 loopN (ae8 fu plist pvars) (plist.length-0) 0 ()
def E9(fu:Nat)(plist:List aA)(pvars:List ByteArray):Option Bool:=
 so (ae9 fu plist pvars) (fun _=>
 some true)
theorem SL(fu:Nat):ai6 (E9 fu):=by
 intro plist pvars r H
 have H:=eF H
 refine qI Tryz.func274 (fun C hC=>?_)
 refine qS (qR (q1 aE (qN ?_)))
 iterate 2 refine qS ?_
 refine qR (q1 aE (qN ?_))
 refine j8 0 (aA.trs_len _) (fun hl2=>?_)
 refine b9 (σ:=Unit) (fun i1 _=>⟨[(0,a3 plist),(1,rS pvars),(4,pB false),(5,pN i1)],⟨[],[]⟩⟩) (fun _=>⟨[(4,pB false)],⟨[],[]⟩⟩) (f8 H) ?_ ?_
 ·rintro i1 ⟨⟩ H
  iterate 2 refine qS ?_
  refine qR ?_
  iterate 2 refine q1 aE ?_
  refine q1 (eB c8 (aA.trs_len _)) (q1 gP (qN ?_))
  refine dT H (fun h3 h3l H=>?_) (fun h3 H=>?_)
  ·have h3n:=a8 h3
   refine aQ.skip (qS (aQ.block (qS (qR ?_))))
   iterate 2 refine q1 aE ?_
   refine q1 (gV h3n c8) (q1 (jW (aA.cs (aW plist i1)) bZ) (q1 aE (bN H fun x5 z4 H=>(q1 (bG Tryz.func275 (pH fu (aW plist i1) pvars _ z4)) (q1 gW (qN ?_))))))
   refine bA H (fun h6 H=>?_) (fun h6 H=>?_)
   ·refine qS (qR (q1 aE (qN (aQ.ret ?_))))
    obtain rfl:_=r:=(p8 (aZ H):)
    exact bL
   refine aQ.skip (qR (q1 aE (q1 (aX.addI rfl rfl rfl rfl (c:=((i1+1:Nat):Int)) (by omega) (by omega)) (q1 aE (qN ?_)))))
   exact iK h3l ⟨_,(aZ H:),b0⟩
  refine aQ.exit ?_;exact j0 ⟨_,H,b0⟩
 rintro⟨⟩ H
 refine qS (qR (q1 aE (qN (aQ.ret ?_))))
 cases aZ H
 exact bL
def afD(m:aG→Option Bool):Prop:= ∀(pe:aG) (r:Bool),m pe=some r→b4 Tryz.prog 283 [(aG.pv pe)] (pB r:PV)
def JA(fu:Nat)(pe:aG):Option Bool:=
 bd (iZ fu pe (aG.mk 0 s_ s_ 0 (aA.mk 0 s_ []) [] [])) (fun x2=>
 some x2)
theorem acI(fu:Nat):afD (JA fu):=by
 intro pe r H
 have H:=eF H
 refine qI Tryz.func283 (fun C hC=>?_)
 refine qS (qR (q1 (jP (hM pe)) (q1 aE (qN (qS (qR (q1 (cU [pI pe.gKind,pS pe.gTrait,pS pe.gName,pI pe.gN,pI pe.gType.gKind,pS pe.gType.gName,a3 pe.gType.gArgs,f9 pe.gArgs,m3 pe.gArms] gY) (q1 (eU kB xJ) (bN H fun x2 z1 H=>(q1 (bG Tryz.func288 (T6 fu pe (aG.mk 0 s_ s_ 0 (aA.mk 0 s_ []) [] []) _ z1)) (q1 aE (qN (aQ.ret ?_)))))))))))))
 cases aZ H
 exact bL
def acN(m:(List ByteArray)→Int→Option Bool):Prop:= ∀(plist:List ByteArray) (pmost:Int) (r:Bool),m plist pmost=some r→b4 Tryz.prog 236 [rS plist,pI pmost] (pB r:PV)
def fY(fu:Nat)(plist:List ByteArray)(pmost:Int):Option Bool:=
 sw (decide ((plist.length:Int)≤pmost))
 (bd (B6 fu plist) (fun x3=>
 sw (x3)
 (bd (jH fu plist) (fun x6=>
 some x6))
 (some false)))
 (some false)
theorem gC(fu:Nat):acN (fY fu):=by
 intro plist pmost r H
 have H:=eF H
 refine qI Tryz.func236 (fun C hC=>?_)
 refine qS (qR (q1 aE (qN (qS (qR (q1 aE (q1 (eB bU (a9 _)) (q1 aE (q1 rLe (q1 aE ?_))))))))))
 refine dY 9 H (fun g1 H=>?_) fun g1 H=>?_
 ·refine qg g1 aE (bN H fun x3 z2 H=>(qg g1 (bG Tryz.func255 (OA fu plist _ z2)) (q1 (bS g1) (q1 aE ?_))))
  refine dY 13 H (fun g4 H=>?_) fun g4 H=>?_
  ·refine qg g4 aE (bN H fun x6 z5 H=>(qg g4 (bG Tryz.func237 (k8 fu plist _ z5)) (q1 (bS g4) (q1 aE (qN (aQ.ret ?_))))))
   cases aZ H
   exact bL
  iterate 2 refine qk g4 ?_
  refine q1 (b6 g4) (q1 aE (qN (aQ.ret ?_)))
  cases aZ H
  exact bL
 iterate 2 refine qk g1 ?_
 refine q1 (b6 g1) (q1 aE ?_)
 iterate 2 refine qk rfl ?_
 refine q1 (b6 rfl) (q1 aE (qN (aQ.ret ?_)))
 cases aZ H
 exact bL
def afA(m:aG→(List ByteArray)→Option Bool):Prop:= ∀(pe:aG) (pvars:List ByteArray) (r:Bool),m pe pvars=some r→b4 Tryz.prog 278 [(aG.pv pe),rS pvars] (pB r:PV)
def acC(fu:Nat)(pe:aG)(pvars x2:List ByteArray):Nat→Unit→Option (LR Unit Bool):=
 fun i3 _=>bd (jZ fu pvars (aW x2 i3)) (fun x7=>
 sw (!(x7))
 (some (.ret false))
 (some (.next ())))
def acD(fu:Nat)(pe:aG)(pvars x2:List ByteArray):Option (Bool⊕Unit):=
 loopN (acC fu pe pvars x2) (x2.length-0) 0 ()
def xQ(fu:Nat)(pe:aG)(pvars:List ByteArray):Option Bool:=
 bd (tS fu pe) (fun x2=>
 so (acD fu pe pvars x2) (fun _=>
 bd (xN fu pe) (fun x10=>
 some x10)))
theorem D6(fu:Nat):afA (xQ fu):=by
 intro pe pvars r H
 have H:=eF H
 refine qI Tryz.func278 (fun C hC=>?_)
 refine qS (qR (q1 (jP (hM pe)) (q1 aE (qN (qS (qR (q1 (cU [pI pe.gKind,pS pe.gTrait,pS pe.gName,pI pe.gN,pI pe.gType.gKind,pS pe.gType.gName,a3 pe.gType.gArgs,f9 pe.gArgs,m3 pe.gArms] gY) (bN H fun x2 z1 H=>(q1 (bG Tryz.func286 (KS fu pe _ z1)) (q1 aE (qN ?_)))))))))))
 iterate 2 refine qS ?_
 refine qR (q1 aE (qN ?_))
 refine j8 5 (a9 _) (fun hl4=>?_)
 refine b9 (σ:=Unit) (fun i3 _=>⟨[(1,rS pvars),(2,.ptr 0 0),(4,pB false),(5,rS x2),(6,pN i3)],⟨[some ⟨87,hM pe⟩],[]⟩⟩) (fun _=>⟨[(2,.ptr 0 0),(4,pB false)],⟨[some ⟨87,hM pe⟩],[]⟩⟩) (f8 H) ?_ ?_
 ·rintro i3 ⟨⟩ H
  iterate 2 refine qS ?_
  refine qR ?_
  iterate 2 refine q1 aE ?_
  refine q1 (eB bU (a9 _)) (q1 gP (qN ?_))
  refine dT H (fun h5 h5l H=>?_) (fun h5 H=>?_)
  ·have h5n:=a8 h5
   refine aQ.skip (qS (aQ.block (qS (qR ?_))))
   iterate 3 refine q1 aE ?_
   refine q1 (gV h5n bU) (q1 (mC eE) (bN H fun x7 z6 H=>(q1 (bG Tryz.func125 (lA fu pvars (aW x2 i3) _ z6)) (q1 gW (qN ?_)))))
   refine bA H (fun h8 H=>?_) (fun h8 H=>?_)
   ·refine qS (qR (q1 aE (qN (aQ.ret ?_))))
    obtain rfl:_=r:=(p8 (aZ H):)
    exact bL
   refine aQ.skip (qR (q1 aE (q1 (aX.addI rfl rfl rfl rfl (c:=((i3+1:Nat):Int)) (by omega) (by omega)) (q1 aE (qN ?_)))))
   exact iK h5l ⟨_,(aZ H:),b0⟩
  refine aQ.exit ?_;exact j0 ⟨_,H,b0⟩
 rintro⟨⟩ H
 refine qS (qR (q1 (cU [pI pe.gKind,pS pe.gTrait,pS pe.gName,pI pe.gN,pI pe.gType.gKind,pS pe.gType.gName,a3 pe.gType.gArgs,f9 pe.gArgs,m3 pe.gArms] gY) (bN H fun x10 z9 H=>(q1 (bG Tryz.func287 (O7 fu pe _ z9)) (q1 aE (qN (aQ.ret ?_)))))))
 cases aZ H
 exact bL
def ai8(m:aD→Option Bool):Prop:= ∀(ps:aD) (r:Bool),m ps=some r→b4 Tryz.prog 273 [(aD.pv ps)] (pB r:PV)
def ND(fu:Nat)(ps:aD):Option Bool:=
 bd (dH fu ps.gName) (fun x2=>
 sw (!(x2))
 (some false)
 (sw (decide ((ps.gParams.length:Int)>4))
 (some false)
 (bd (E9 fu ps.gParams ([iS]:List ByteArray)) (fun x6=>
 sw (!(x6))
 (some false)
 (bd (nF fu ps.gResult ([iS]:List ByteArray)) (fun x9=>
 sw (!(x9))
 (some false)
 (sw (!(ps.gHasDefault))
 (sw (decide ((ps.gVars.length:Int)=0))
 (bd (JA fu ps.gBody) (fun x14=>
 some x14))
 (some false))
 (bd (fY fu ps.gVars 5) (fun x16=>
 sw (x16)
 (sw (decide ((ps.gVars.length:Int)=aR ((ps.gParams.length:Int)+1)))
 (bd (xQ fu ps.gBody ps.gVars) (fun x20=>
 some x20))
 (some false))
 (some false))))))))))
theorem afE(fu:Nat):ai8 (ND fu):=by
 intro ps r H
 have H:=eF H
 refine qI Tryz.func273 (fun C hC=>?_)
 refine qS (qR (q1 (jP (ad6 ps)) (q1 aE (qN ?_))))
 iterate 2 refine qS ?_
 refine qR (q1 (a6 WU) (q1 (bD eE) (bN H fun x2 z1 H=>(q1 (bG Tryz.func235 (dQ fu ps.gName _ z1)) (q1 gW (q1 aE ?_))))))
 refine dY 7 H (fun g3 H=>?_) fun g3 H=>?_
 ·refine qk g3 ?_
  iterate 3 refine qk g3 ?_
  refine q1 (bS g3) (q1 aE ?_)
  iterate 5 refine qk rfl ?_
  refine q1 (bS rfl) (q1 aE ?_)
  iterate 5 refine qk rfl ?_
  refine q1 (bS rfl) (qN (dM rfl (qS (qR (q1 aE (qN (aQ.ret ?_)))))))
  cases aZ H
  exact bL
 refine qg g3 (a6 PU) (qg g3 (bD kT) (qg g3 (eB c8 (aA.trs_len _)) (qg g3 KN (q1 (b6 g3) (q1 aE ?_)))))
 refine dY 13 H (fun g4 H=>?_) fun g4 H=>?_
 ·refine qk g4 ?_
  iterate 4 refine qk g4 ?_
  refine q1 (bS g4) (q1 aE ?_)
  iterate 5 refine qk rfl ?_
  refine q1 (bS rfl) (qN (dM rfl (qS (qR (q1 aE (qN (aQ.ret ?_)))))))
  cases aZ H
  exact bL
 refine qg g4 (a6 PU) (qg g4 (bD kT) (qg g4 (hH ([iS]:List ByteArray) bU kG) (bN H fun x6 z5 H=>(qg g4 (bG Tryz.func274 (SL fu ps.gParams ([iS]:List ByteArray) _ z5)) (qg g4 gW (q1 (b6 g4) (q1 aE ?_)))))))
 refine dY 20 H (fun g7 H=>?_) fun g7 H=>?_
 ·refine qk g7 ?_
  iterate 4 refine qk g7 ?_
  refine q1 (bS g7) (qN (dM rfl (qS (qR (q1 aE (qN (aQ.ret ?_)))))))
  cases aZ H
  exact bL
 refine qg g7 (a6 PW) (qg g7 (cU [pI ps.gResult.gKind,pS ps.gResult.gName,a3 ps.gResult.gArgs] bZ) (qg g7 (hH ([iS]:List ByteArray) bU kG) (bN H fun x9 z8 H=>(qg g7 (bG Tryz.func275 (pH fu ps.gResult ([iS]:List ByteArray) _ z8)) (qg g7 gW (q1 (b6 g7) (qN ?_)))))))
 refine bA H (fun h10 H=>?_) (fun h10 H=>?_)
 ·refine qS (qR (q1 aE (qN (aQ.ret ?_))))
  cases aZ H
  exact bL
 refine aQ.skip ?_
 iterate 2 refine qS ?_
 refine qR (q1 (a6 JY) (q1 (bD sh4) (q1 gW (qN ?_))))
 refine bA H (fun h11 H=>?_) (fun h11 H=>?_)
 ·refine qS (qR (q1 (a6 ES) (q1 (bD jC) (q1 (eB bU (a9 _)) (q1 eG (q1 aE ?_))))))
  refine dY 34 H (fun g12 H=>?_) fun g12 H=>?_
  ·refine qg g12 (a6 PX) (qg g12 (cU [pI ps.gBody.gKind,pS ps.gBody.gTrait,pS ps.gBody.gName,pI ps.gBody.gN,pI ps.gBody.gType.gKind,pS ps.gBody.gType.gName,a3 ps.gBody.gType.gArgs,f9 ps.gBody.gArgs,m3 ps.gBody.gArms] gY) (bN H fun x14 z13 H=>(qg g12 (bG Tryz.func283 (acI fu ps.gBody _ z13)) (q1 (bS g12) (q1 aE (qN (aQ.ret ?_)))))))
   cases aZ H
   exact bL
  iterate 3 refine qk g12 ?_
  refine q1 (b6 g12) (q1 aE (qN (aQ.ret ?_)))
  cases aZ H
  exact bL
 refine aQ.skip (qS (qR (q1 (a6 ES) (q1 (bD jC) (bN H fun x16 z15 H=>(q1 (bG Tryz.func236 (gC fu ps.gVars 5 _ z15)) (q1 aE ?_)))))))
 refine dY 42 H (fun g17 H=>?_) fun g17 H=>?_
 ·refine qg g17 (a6 ES) (qg g17 (bD jC) (qg g17 (eB bU (a9 _)) (qg g17 (a6 PU) (qg g17 (bD kT) (qg g17 (eB c8 (aA.trs_len _)) (qg g17 RJ (qg g17 eG (q1 (bS g17) (q1 aE ?_)))))))))
  refine dY 52 H (fun g18 H=>?_) fun g18 H=>?_
  ·refine qg g18 (a6 PX) (qg g18 (cU [pI ps.gBody.gKind,pS ps.gBody.gTrait,pS ps.gBody.gName,pI ps.gBody.gN,pI ps.gBody.gType.gKind,pS ps.gBody.gType.gName,a3 ps.gBody.gType.gArgs,f9 ps.gBody.gArgs,m3 ps.gBody.gArms] gY) (qg g18 (a6 ES) (qg g18 (bD jC) (bN H fun x20 z19 H=>(qg g18 (bG Tryz.func278 (D6 fu ps.gBody ps.gVars _ z19)) (q1 (bS g18) (q1 aE (qN (aQ.ret ?_)))))))))
   cases aZ H
   exact bL
  iterate 5 refine qk g18 ?_
  refine q1 (b6 g18) (q1 aE (qN (aQ.ret ?_)))
  cases aZ H
  exact bL
 iterate 8 refine qk g17 ?_
 refine q1 (b6 g17) (q1 aE ?_)
 iterate 5 refine qk rfl ?_
 refine q1 (b6 rfl) (q1 aE (qN (aQ.ret ?_)))
 cases aZ H
 exact bL
def PC(m:aT→Option Bool):Prop:= ∀(pt:aT) (r:Bool),m pt=some r→b4 Tryz.prog 256 [(aT.pv pt)] (pB r:PV)
def MQ(fu:Nat)(pt:aT):Nat→((List ByteArray))→Option (LR ((List ByteArray)) Bool):=
 fun i1 v3=>lt (aW pt.gSignatures i1) (fun y6=>
 bd (ND fu y6) (fun x9=>
 sw (!(x9))
 (some (.ret false))
 (gd ((v3).length+(([y6.gName]:List ByteArray)).length≤68719476736)
 (some (.next (v3++([y6.gName]:List ByteArray)))))))
def MR(fu:Nat)(pt:aT):Option (Bool⊕((List ByteArray))):=
 loopN (MQ fu pt) (pt.gSignatures.length-0) 0 ([])
def q8(fu:Nat)(pt:aT):Option Bool:=
 so (MR fu pt) (fun v3=>
 sw (pt.gAuto)
 (sw (pt.gAssoc)
 (some false)
 (sw (decide ((pt.gSignatures.length:Int)>0))
 (some false)
 (sw (decide ((pt.gSupertraits.length:Int)>0))
 (some false)
 (bd (dH fu pt.gName) (fun x17=>
 sw (x17)
 (bd (fY fu pt.gSupertraits 4) (fun x20=>
 sw (x20)
 (bd (fY fu v3 6) (fun x23=>
 some x23))
 (some false)))
 (some false))))))
 (bd (dH fu pt.gName) (fun x25=>
 sw (x25)
 (bd (fY fu pt.gSupertraits 4) (fun x28=>
 sw (x28)
 (bd (fY fu v3 6) (fun x31=>
 some x31))
 (some false)))
 (some false))))
theorem AO(fu:Nat):PC (q8 fu):=by
 intro pt r H
 have H:=eF H
 refine qI Tryz.func256 (fun C hC=>?_)
 refine qS (qR (q1 (jP (qC pt)) (q1 aE (qN (qS (qR (q1 (qZ ([]:List ByteArray) bU kG) (q1 aE (qN ?_)))))))))
 iterate 2 refine qS ?_
 refine qR (q1 aE (qN ?_))
 refine aQ.fact (cE 0 4 rfl rfl rfl (aD.trs_len _)) (fun hl4=>?_)
 refine b9 (σ:=(List ByteArray)) (fun i1 v3=>⟨[(1,.ptr 0 0),(2,pB false),(3,aS v3 0),(4,pN i1)],⟨[some ⟨60,qC pt⟩],[⟨9,1,a4 (v3),false⟩]⟩⟩) (fun v3=>⟨[(1,.ptr 0 0),(2,pB false),(3,aS v3 0)],⟨[some ⟨60,qC pt⟩],[⟨9,1,a4 (v3),false⟩]⟩⟩) (f8 H) ?_ ?_
 ·rintro i1 v3 H
  iterate 2 refine qS ?_
  refine qR (q1 aE (q1 (a6 lS) (q1 (bD GO) (q1 (eB wC (aD.trs_len _)) (q1 gP (qN ?_))))))
  refine dT H (fun h5 h5l H=>?_) (fun h5 H=>?_)
  ·have h5n:=a8 h5
   refine aQ.skip (qS (aQ.block ?_))
   iterate 2 refine qS ?_
   refine qR (q1 (a6 lS) (q1 (bD GO) (q1 aE (gL H fun y6 h7 H=>(q1 (vT h7 h5n wC) (q1 (jW (aD.cs y6) aa4) (bN H fun x9 z8 H=>(q1 (bG Tryz.func273 (afE fu y6 _ z8)) (q1 gW (qN ?_))))))))))
   refine bA H (fun h10 H=>?_) (fun h10 H=>?_)
   ·refine qS (qR (q1 aE (qN (aQ.ret ?_))))
    obtain rfl:_=r:=(p8 (aZ H):)
    exact bL
   refine aQ.skip (qR (q1 aE (q1 (a6 lS) (q1 (bD GO) (q1 aE (q1 (vT h7 h5n wC) (q1 (nK WU) (q1 (mC eE) (q1 (hH ([y6.gName]:List ByteArray) bU kG) (cX H fun z11 H=>(q1 (kX z11 bU qH) (q1 aE (qN ?_)))))))))))))
   refine qR (q1 aE (q1 (aX.addI rfl rfl rfl rfl (c:=((i1+1:Nat):Int)) (by omega) (by omega)) (q1 aE (qN ?_))))
   exact iK h5l ⟨_,(aZ H:),b0⟩
  refine aQ.exit ?_;exact j0 ⟨_,H,b0⟩
 rintro v3 H
 iterate 2 refine qS ?_
 refine qR (q1 (a6 aeB) (q1 (bD sh4) (q1 aE ?_)))
 refine dY 31 H (fun g12 H=>?_) fun g12 H=>?_
 ·refine qg g12 (a6 akC) (qg g12 (bD sh4) (qg g12 aE ?_))
  refine dY 34 H (fun g13 H=>?_) fun g13 H=>?_
  ·refine qk g13 ?_
   iterate 3 refine qk g13 ?_
   refine qg g12 (bS g13) (qg g12 aE ?_)
   iterate 4 refine qk rfl ?_
   refine qg g12 (bS rfl) (q1 (bS g12) (qN (dM rfl (qS (qR (q1 aE (qN (aQ.ret ?_))))))))
   cases aZ H
   exact bL
  refine qg g13 (a6 lS) (qg g13 (bD GO) (qg g13 (eB wC (aD.trs_len _)) (qg g13 KN (qg g12 (b6 g13) (qg g12 aE ?_)))))
  refine dY 40 H (fun g14 H=>?_) fun g14 H=>?_
  ·refine qk g14 ?_
   iterate 3 refine qk g14 ?_
   refine qg g12 (bS g14) (q1 (bS g12) (qN (dM rfl (qS (qR (q1 aE (qN (aQ.ret ?_))))))))
   cases aZ H
   exact bL
  refine qg g14 (a6 oU) (qg g14 (bD jC) (qg g14 (eB bU (a9 _)) (qg g14 KN (qg g12 (b6 g14) (q1 (bS g12) (qN ?_))))))
  refine bA H (fun h15 H=>?_) (fun h15 H=>?_)
  ·refine qS (qR (q1 aE (qN (aQ.ret ?_))))
   cases aZ H
   exact bL
  refine aQ.skip (qS (qR (q1 (a6 A9) (q1 (bD eE) (bN H fun x17 z16 H=>(q1 (bG Tryz.func235 (dQ fu pt.gName _ z16)) (q1 aE ?_)))))))
  refine dY 50 H (fun g18 H=>?_) fun g18 H=>?_
  ·refine qg g18 (a6 oU) (qg g18 (bD jC) (bN H fun x20 z19 H=>(qg g18 (bG Tryz.func236 (gC fu pt.gSupertraits 4 _ z19)) (q1 (bS g18) (q1 aE ?_)))))
   refine dY 55 H (fun g21 H=>?_) fun g21 H=>?_
   ·refine qg g21 aE (bN H fun x23 z22 H=>(qg g21 (bG Tryz.func236 (gC fu v3 6 _ z22)) (q1 (bS g21) (q1 aE (qN (aQ.ret ?_))))))
    cases aZ H
    exact bL
   iterate 2 refine qk g21 ?_
   refine q1 (b6 g21) (q1 aE (qN (aQ.ret ?_)))
   cases aZ H
   exact bL
  iterate 3 refine qk g18 ?_
  refine q1 (b6 g18) (q1 aE ?_)
  iterate 2 refine qk rfl ?_
  refine q1 (b6 rfl) (q1 aE (qN (aQ.ret ?_)))
  cases aZ H
  exact bL
 iterate 3 refine qk g12 ?_
 iterate 4 refine KM ?_
 iterate 2 refine qk g12 ?_
 iterate 4 refine KM ?_
 refine qk g12 (q1 (b6 g12) (qN (kJ rfl (aQ.skip (qS (qR (q1 (a6 A9) (q1 (bD eE) (bN H fun x25 z24 H=>(q1 (bG Tryz.func235 (dQ fu pt.gName _ z24)) (q1 aE ?_)))))))))))
 refine dY 50 H (fun g26 H=>?_) fun g26 H=>?_
 ·refine qg g26 (a6 oU) (qg g26 (bD jC) (bN H fun x28 z27 H=>(qg g26 (bG Tryz.func236 (gC fu pt.gSupertraits 4 _ z27)) (q1 (bS g26) (q1 aE ?_)))))
  refine dY 55 H (fun g29 H=>?_) fun g29 H=>?_
  ·refine qg g29 aE (bN H fun x31 z30 H=>(qg g29 (bG Tryz.func236 (gC fu v3 6 _ z30)) (q1 (bS g29) (q1 aE (qN (aQ.ret ?_))))))
   cases aZ H
   exact bL
  iterate 2 refine qk g29 ?_
  refine q1 (b6 g29) (q1 aE (qN (aQ.ret ?_)))
  cases aZ H
  exact bL
 iterate 3 refine qk g26 ?_
 refine q1 (b6 g26) (q1 aE ?_)
 iterate 2 refine qk rfl ?_
 refine q1 (b6 rfl) (q1 aE (qN (aQ.ret ?_)))
 cases aZ H
 exact bL
def IP(m:aN→Option Bool):Prop:= ∀(pd:aN) (r:Bool),m pd=some r→b4 Tryz.prog 257 [(aN.pv pd)] (pB r:PV)
def F5(fu:Nat)(pd:aN):Nat→((List ByteArray))→Option (LR ((List ByteArray)) Bool):=
 fun i1 v3=>sw (decide ((((((aW pd.gConstructors i1).gFields).length:Nat):Int):Int)>4))
 (some (.ret false))
 (bd (E9 fu ((aW pd.gConstructors i1).gFields) pd.gVars) (fun x8=>
 sw (!(x8))
 (some (.ret false))
 (gd ((v3).length+(([((aW pd.gConstructors i1).gName)]:List ByteArray)).length≤68719476736)
 (some (.next (v3++([((aW pd.gConstructors i1).gName)]:List ByteArray)))))))
def F6(fu:Nat)(pd:aN):Option (Bool⊕((List ByteArray))):=
 loopN (F5 fu pd) (pd.gConstructors.length-0) 0 ([])
def m7(fu:Nat)(pd:aN):Option Bool:=
 so (F6 fu pd) (fun v3=>
 bd (dH fu pd.gName) (fun x12=>
 sw (x12)
 (bd (fY fu pd.gVars 3) (fun x15=>
 sw (x15)
 (sw (decide ((v3.length:Int)>0))
 (bd (fY fu v3 5) (fun x19=>
 some x19))
 (some false))
 (some false)))
 (some false)))
theorem vU(fu:Nat):IP (m7 fu):=by
 intro pd r H
 have H:=eF H
 refine qI Tryz.func257 (fun C hC=>?_)
 refine qS (qR (q1 (jP (wR pd)) (q1 aE (qN (qS (qR (q1 (qZ ([]:List ByteArray) bU kG) (q1 aE (qN ?_)))))))))
 iterate 2 refine qS ?_
 refine qR (q1 aE (qN ?_))
 refine aQ.fact (cE 0 2 rfl rfl rfl (aC.trs_len _)) (fun hl4=>?_)
 refine b9 (σ:=(List ByteArray)) (fun i1 v3=>⟨[(1,.ptr 0 0),(2,pB false),(3,aS v3 0),(4,pN i1)],⟨[some ⟨116,wR pd⟩],[⟨9,1,a4 (v3),false⟩]⟩⟩) (fun v3=>⟨[(1,.ptr 0 0),(2,pB false),(3,aS v3 0)],⟨[some ⟨116,wR pd⟩],[⟨9,1,a4 (v3),false⟩]⟩⟩) (f8 H) ?_ ?_
 ·rintro i1 v3 H
  iterate 2 refine qS ?_
  refine qR (q1 aE (q1 (a6 mB) (q1 (bD yP) (q1 (eB vS (aC.trs_len _)) (q1 gP (qN ?_))))))
  refine dT H (fun h5 h5l H=>?_) (fun h5 H=>?_)
  ·have h5n:=a8 h5
   refine aQ.skip (qS (aQ.block ?_))
   iterate 2 refine qS ?_
   rcases lC (decide ((((((aW pd.gConstructors i1).gFields).length:Nat):Int):Int)>4)) with g6|g6
   ·have H:=oE H g6
    refine dW (dI [1] (a6 mB) (dD [13] (bD yP) (dI [4] aE (dI [14,15] (gV h5n vS) (dI [16] (nK JZ) (dI [17] (mC kT) (dI [18] (eB c8 (aA.trs_len _)) (dI [19] KN (dI [20] aE ?_)))))))))
    iterate 10 refine CQ g6 ?_
    refine dI [21] (bS g6) (dN (dM rfl (qS (qR (q1 aE (qN (aQ.ret ?_)))))))
    obtain rfl:_=r:=(p8 (aZ H):)
    exact bL
   have H:=oA H g6
   refine bN H fun x8 z7 H=>(dW (dI [1] (a6 mB) (dD [13] (bD yP) (dI [4] aE (dI [14,15] (gV h5n vS) (dI [16] (nK JZ) (dI [17] (mC kT) (dI [18] (eB c8 (aA.trs_len _)) (dI [19] KN (dI [20] aE (dI (hg:=a5 g6) [1] (a6 mB) (dD (hg:=a5 g6) [22] (bD yP) (dI (hg:=a5 g6) [4] aE ?_)))))))))))))
   refine dI (hg:=a5 g6) [23,24] (gV h5n vS) (dI (hg:=a5 g6) [25] (nK JZ) (dI (hg:=a5 g6) [26] (mC kT) (dI (hg:=a5 g6) [1] (a6 JW) (dD (hg:=a5 g6) [28] (bD jC) (dI (hg:=a5 g6) [27,29] (bG Tryz.func274 (SL fu ((aW pd.gConstructors i1).gFields) pd.gVars _ z7)) (dI (hg:=a5 g6) [30] gW (dI [21,31] (b6 g6) (dN ?_))))))))
   refine bA H (fun h9 H=>?_) (fun h9 H=>?_)
   ·refine qS (qR (q1 aE (qN (aQ.ret ?_))))
    obtain rfl:_=r:=(p8 (aZ H):)
    exact bL
   refine aQ.skip (qR (q1 aE (q1 (a6 mB) (q1 (bD yP) (q1 aE (q1 (gV h5n vS) (q1 (nK PY) (q1 (mC eE) (q1 (hH ([((aW pd.gConstructors i1).gName)]:List ByteArray) bU kG) (cX H fun z10 H=>(q1 (kX z10 bU qH) (q1 aE (qN ?_)))))))))))))
   refine qR (q1 aE (q1 (aX.addI rfl rfl rfl rfl (c:=((i1+1:Nat):Int)) (by omega) (by omega)) (q1 aE (qN ?_))))
   exact iK h5l ⟨_,(aZ H:),b0⟩
  refine aQ.exit ?_;exact j0 ⟨_,H,b0⟩
 rintro v3 H
 refine qS (qR (q1 (a6 WN) (q1 (bD eE) (bN H fun x12 z11 H=>(q1 (bG Tryz.func235 (dQ fu pd.gName _ z11)) (q1 aE ?_))))))
 refine dY 45 H (fun g13 H=>?_) fun g13 H=>?_
 ·refine qg g13 (a6 JW) (qg g13 (bD jC) (bN H fun x15 z14 H=>(qg g13 (bG Tryz.func236 (gC fu pd.gVars 3 _ z14)) (q1 (bS g13) (q1 aE ?_)))))
  refine dY 50 H (fun g16 H=>?_) fun g16 H=>?_
  ·refine qg g16 aE (qg g16 (eB bU (a9 _)) (qg g16 KN (q1 (bS g16) (q1 aE ?_))))
   refine dY 55 H (fun g17 H=>?_) fun g17 H=>?_
   ·refine qg g17 aE (bN H fun x19 z18 H=>(qg g17 (bG Tryz.func236 (gC fu v3 5 _ z18)) (q1 (bS g17) (q1 aE (qN (aQ.ret ?_))))))
    cases aZ H
    exact bL
   iterate 2 refine qk g17 ?_
   refine q1 (b6 g17) (q1 aE (qN (aQ.ret ?_)))
   cases aZ H
   exact bL
  iterate 3 refine qk g16 ?_
  refine q1 (b6 g16) (q1 aE ?_)
  iterate 2 refine qk rfl ?_
  refine q1 (b6 rfl) (q1 aE (qN (aQ.ret ?_)))
  cases aZ H
  exact bL
 iterate 3 refine qk g13 ?_
 refine q1 (b6 g13) (q1 aE ?_)
 iterate 3 refine qk rfl ?_
 refine q1 (b6 rfl) (q1 aE ?_)
 iterate 2 refine qk rfl ?_
 refine q1 (b6 rfl) (q1 aE (qN (aQ.ret ?_)))
 cases aZ H
 exact bL
def O6(m:aF→Option Bool):Prop:= ∀(pb:aF) (r:Bool),m pb=some r→b4 Tryz.prog 285 [(aF.pv pb)] (pB r:PV)
def vI(fu:Nat)(pb:aF):Option Bool:=
 bd (dH fu pb.gTrait) (fun x2=>
 sw (x2)
 (bd (jJ fu pb.gType) (fun x5=>
 some x5))
 (some false))
theorem MP(fu:Nat):O6 (vI fu):=by
 intro pb r H
 have H:=eF H
 refine qI Tryz.func285 (fun C hC=>?_)
 refine qS (qR (q1 (jP (sJ pb)) (q1 aE (qN (qS (qR (q1 (a6 u6) (q1 (bD eE) (bN H fun x2 z1 H=>(q1 (bG Tryz.func235 (dQ fu pb.gTrait _ z1)) (q1 aE ?_)))))))))))
 refine dY 6 H (fun g3 H=>?_) fun g3 H=>?_
 ·refine qg g3 (a6 rA) (qg g3 (cU [pI pb.gType.gKind,pS pb.gType.gName,a3 pb.gType.gArgs] bZ) (bN H fun x5 z4 H=>(qg g3 (bG Tryz.func284 (k9 fu pb.gType _ z4)) (q1 (bS g3) (q1 aE (qN (aQ.ret ?_)))))))
  cases aZ H
  exact bL
 iterate 3 refine qk g3 ?_
 refine q1 (b6 g3) (q1 aE (qN (aQ.ret ?_)))
 cases aZ H
 exact bL
def acM(m:(List aF)→(List ByteArray)→Option Bool):Prop:= ∀(plist:List aF) (pvars:List ByteArray) (r:Bool),m plist pvars=some r→b4 Tryz.prog 276 [cG plist,rS pvars] (pB r:PV)
def X7(fu:Nat)(plist:List aF)(pvars:List ByteArray):Nat→Unit→Option (LR Unit Bool):=
 fun i1 _=>bd (vI fu (aW plist i1)) (fun x5=>
 sw (!(x5))
 (some (.ret false))
 (bd (nF fu ((aW plist i1).gType) pvars) (fun x8=>
 sw (!(x8))
 (some (.ret false))
 (bd (eR fu ((aW plist i1).gType)) (fun x11=>
 sw (x11)
 (some (.ret false))
 (some (.next ())))))))
def X8(fu:Nat)(plist:List aF)(pvars:List ByteArray):Option (Bool⊕Unit):=
 loopN (X7 fu plist pvars) (plist.length-0) 0 ()
def yQ(fu:Nat)(plist:List aF)(pvars:List ByteArray):Option Bool:=
 so (X8 fu plist pvars) (fun _=>
 some (decide ((plist.length:Int)≤4)))
theorem K3(fu:Nat):acM (yQ fu):=by
 intro plist pvars r H
 have H:=eF H
 refine qI Tryz.func276 (fun C hC=>?_)
 refine qS (qR (q1 aE (qN ?_)))
 iterate 2 refine qS ?_
 refine qR (q1 aE (qN ?_))
 refine j8 0 (aF.trs_len _) (fun hl2=>?_)
 refine b9 (σ:=Unit) (fun i1 _=>⟨[(0,cG plist),(1,rS pvars),(4,pB false),(5,pN i1)],⟨[],[]⟩⟩) (fun _=>⟨[(0,cG plist),(4,pB false)],⟨[],[]⟩⟩) (f8 H) ?_ ?_
 ·rintro i1 ⟨⟩ H
  iterate 2 refine qS ?_
  refine qR ?_
  iterate 2 refine q1 aE ?_
  refine q1 (eB mR (aF.trs_len _)) (q1 gP (qN ?_))
  refine dT H (fun h3 h3l H=>?_) (fun h3 H=>?_)
  ·have h3n:=a8 h3
   refine aQ.skip (qS (aQ.block (qS (qR ?_))))
   iterate 2 refine q1 aE ?_
   refine q1 (gV h3n mR) (q1 (jW (aF.cs (aW plist i1)) ak2) (bN H fun x5 z4 H=>(q1 (bG Tryz.func285 (MP fu (aW plist i1) _ z4)) (q1 gW (q1 aE ?_)))))
   refine dY 18 H (fun g6 H=>?_) fun g6 H=>?_
   ·refine qk g6 ?_
    iterate 7 refine qk g6 ?_
    refine q1 (bS g6) (q1 aE ?_)
    iterate 6 refine qk rfl ?_
    refine q1 (bS rfl) (qN (dM rfl (qS (qR (q1 aE (qN (aQ.ret ?_)))))))
    obtain rfl:_=r:=(p8 (aZ H):)
    exact bL
   iterate 2 refine qg g6 aE ?_
   refine qg g6 (gV h3n mR) (qg g6 (nK rA) (qg g6 (jW (aA.cs ((aW plist i1).gType)) bZ) (qg g6 aE (bN H fun x8 z7 H=>(qg g6 (bG Tryz.func275 (pH fu ((aW plist i1).gType) pvars _ z7)) (qg g6 gW (q1 (b6 g6) (q1 aE ?_))))))))
   refine dY 28 H (fun g9 H=>?_) fun g9 H=>?_
   ·refine qk g9 ?_
    iterate 5 refine qk g9 ?_
    refine q1 (bS g9) (qN (dM rfl (qS (qR (q1 aE (qN (aQ.ret ?_)))))))
    obtain rfl:_=r:=(p8 (aZ H):)
    exact bL
   iterate 2 refine qg g9 aE ?_
   refine qg g9 (gV h3n mR) (qg g9 (nK rA) (qg g9 (jW (aA.cs ((aW plist i1).gType)) bZ) (bN H fun x11 z10 H=>(qg g9 (bG Tryz.func139 (yN fu ((aW plist i1).gType) _ z10)) (q1 (b6 g9) (qN ?_))))))
   refine bA H (fun h12 H=>?_) (fun h12 H=>?_)
   ·refine qS (qR (q1 aE (qN (aQ.ret ?_))))
    obtain rfl:_=r:=(p8 (aZ H):)
    exact bL
   refine aQ.skip (qR (q1 aE (q1 (aX.addI rfl rfl rfl rfl (c:=((i1+1:Nat):Int)) (by omega) (by omega)) (q1 aE (qN ?_)))))
   exact iK h3l ⟨_,(aZ H:),b0⟩
  refine aQ.exit ?_;exact j0 ⟨_,H,b0⟩
 rintro⟨⟩ H
 refine qS (qR (q1 aE (q1 (eB mR (aF.trs_len _)) (q1 rLe (q1 aE (qN (aQ.ret ?_)))))))
 cases aZ H
 exact bL
def IR(m:aH→Option Bool):Prop:= ∀(pa0:aH) (r:Bool),m pa0=some r→b4 Tryz.prog 258 [(aH.pv pa0)] (pB r:PV)
def GA(fu:Nat)(pa0:aH)(x2 x5 x8 x11 x15:Bool):Nat→Unit→Option (LR Unit Bool):=
 fun i17 _=>bd (DZ fu (aW pa0.gVars i17) pa0.gHead) (fun x21=>
 sw (!(x21))
 (some (.ret false))
 (some (.next ())))
def GC(fu:Nat)(pa0:aH)(x2 x5 x8 x11 x15:Bool):Option (Bool⊕Unit):=
 loopN (GA fu pa0 x2 x5 x8 x11 x15) (pa0.gVars.length-0) 0 ()
def F9(fu:Nat)(pa0:aH)(x2 x5 x8 x11 x15:Bool):Option (Bool⊕Unit):=
 sw (pa0.gHasAssoc)
 (bd (nF fu pa0.gAssoc pa0.gVars) (fun x25=>
 sw (!(x25))
 (some (.inl false))
 (some (.inr ()))))
 (bd (rV fu pa0.gAssoc) (fun x28=>
 sw (!(x28))
 (some (.inl false))
 (some (.inr ()))))
def GB(fu:Nat)(pa0:aH)(x2 x5 x8 x11 x15:Bool):Nat→((List ByteArray))→Option (LR ((List ByteArray)) Bool):=
 fun i30 v32=>lt (aW pa0.gMethods i30) (fun y35=>
 sw (decide ((y35.gVars.length:Int)=0))
 (some (.ret false))
 (bd (fY fu y35.gVars 5) (fun x39=>
 sw (!(x39))
 (some (.ret false))
 (bd (xQ fu y35.gBody y35.gVars) (fun x42=>
 sw (!(x42))
 (some (.ret false))
 (gd ((v32).length+(([y35.gName]:List ByteArray)).length≤68719476736)
 (some (.next (v32++([y35.gName]:List ByteArray))))))))))
def GD(fu:Nat)(pa0:aH)(x2 x5 x8 x11 x15:Bool):Option (Bool⊕((List ByteArray))):=
 loopN (GB fu pa0 x2 x5 x8 x11 x15) (pa0.gMethods.length-0) 0 ([])
def m9(fu:Nat)(pa0:aH):Option Bool:=
 bd (dH fu pa0.gTrait) (fun x2=>
 sw (!(x2))
 (some false)
 (bd (fY fu pa0.gVars 3) (fun x5=>
 sw (!(x5))
 (some false)
 (bd (nF fu pa0.gHead pa0.gVars) (fun x8=>
 sw (!(x8))
 (some false)
 (bd (eR fu pa0.gHead) (fun x11=>
 sw (x11)
 (some false)
 (sw (decide (pa0.gHead.gKind=4))
 (some false)
 (bd (yQ fu pa0.gWhere pa0.gVars) (fun x15=>
 sw (!(x15))
 (some false)
 (so (GC fu pa0 x2 x5 x8 x11 x15) (fun _=>
 so (F9 fu pa0 x2 x5 x8 x11 x15) (fun _=>
 so (GD fu pa0 x2 x5 x8 x11 x15) (fun v32=>
 bd (fY fu v32 6) (fun x46=>
 some x46)))))))))))))))
theorem vW(fu:Nat):IR (m9 fu):=by
 intro pa0 r H
 have H:=eF H
 refine qI Tryz.func258 (fun C hC=>?_)
 refine qS (qR (q1 (jP (jO pa0)) (q1 aE (qN ?_))))
 iterate 2 refine qS ?_
 refine qR (q1 (a6 aeA) (q1 (bD eE) (bN H fun x2 z1 H=>(q1 (bG Tryz.func235 (dQ fu pa0.gTrait _ z1)) (q1 gW (q1 aE ?_))))))
 refine dY 11 H (fun g3 H=>?_) fun g3 H=>?_
 ·refine qk g3 ?_
  iterate 3 refine qk g3 ?_
  refine q1 (bS g3) (q1 aE ?_)
  iterate 6 refine qk rfl ?_
  refine q1 (bS rfl) (q1 aE ?_)
  iterate 3 refine qk rfl ?_
  refine q1 (bS rfl) (q1 aE ?_)
  iterate 4 refine qk rfl ?_
  refine q1 (bS rfl) (q1 aE ?_)
  iterate 6 refine qk rfl ?_
  refine q1 (bS rfl) (qN (dM rfl (qS (qR (q1 aE (qN (aQ.ret ?_)))))))
  cases aZ H
  exact bL
 refine qg g3 (a6 rB) (qg g3 (bD jC) (bN H fun x5 z4 H=>(qg g3 (bG Tryz.func236 (gC fu pa0.gVars 3 _ z4)) (qg g3 gW (q1 (b6 g3) (q1 aE ?_))))))
 refine dY 17 H (fun g6 H=>?_) fun g6 H=>?_
 ·refine qk g6 ?_
  iterate 5 refine qk g6 ?_
  refine q1 (bS g6) (q1 aE ?_)
  iterate 3 refine qk rfl ?_
  refine q1 (bS rfl) (q1 aE ?_)
  iterate 4 refine qk rfl ?_
  refine q1 (bS rfl) (q1 aE ?_)
  iterate 6 refine qk rfl ?_
  refine q1 (bS rfl) (qN (dM rfl (qS (qR (q1 aE (qN (aQ.ret ?_)))))))
  cases aZ H
  exact bL
 refine qg g6 (a6 rC) (qg g6 (cU [pI pa0.gHead.gKind,pS pa0.gHead.gName,a3 pa0.gHead.gArgs] bZ) (qg g6 (a6 rB) (qg g6 (bD jC) (bN H fun x8 z7 H=>(qg g6 (bG Tryz.func275 (pH fu pa0.gHead pa0.gVars _ z7)) (qg g6 gW (q1 (b6 g6) (q1 aE ?_))))))))
 refine dY 25 H (fun g9 H=>?_) fun g9 H=>?_
 ·refine qk g9 ?_
  iterate 2 refine qk g9 ?_
  refine q1 (bS g9) (q1 aE ?_)
  iterate 4 refine qk rfl ?_
  refine q1 (bS rfl) (q1 aE ?_)
  iterate 6 refine qk rfl ?_
  refine q1 (bS rfl) (qN (dM rfl (qS (qR (q1 aE (qN (aQ.ret ?_)))))))
  cases aZ H
  exact bL
 refine qg g9 (a6 rC) (qg g9 (cU [pI pa0.gHead.gKind,pS pa0.gHead.gName,a3 pa0.gHead.gArgs] bZ) (bN H fun x11 z10 H=>(qg g9 (bG Tryz.func139 (yN fu pa0.gHead _ z10)) (q1 (b6 g9) (q1 aE ?_)))))
 refine dY 30 H (fun g12 H=>?_) fun g12 H=>?_
 ·refine qk g12 ?_
  iterate 3 refine qk g12 ?_
  refine q1 (bS g12) (q1 aE ?_)
  iterate 6 refine qk rfl ?_
  refine q1 (bS rfl) (qN (dM rfl (qS (qR (q1 aE (qN (aQ.ret ?_)))))))
  cases aZ H
  exact bL
 refine qg g12 (a6 rC) (qg g12 (a6 iF) (qg g12 (bD jN) (qg g12 eG (q1 (b6 g12) (q1 aE ?_)))))
 refine dY 36 H (fun g13 H=>?_) fun g13 H=>?_
 ·refine qk g13 ?_
  iterate 5 refine qk g13 ?_
  refine q1 (bS g13) (qN (dM rfl (qS (qR (q1 aE (qN (aQ.ret ?_)))))))
  cases aZ H
  exact bL
 refine qg g13 (a6 DB) (qg g13 (bD aeT) (qg g13 (a6 rB) (qg g13 (bD jC) (bN H fun x15 z14 H=>(qg g13 (bG Tryz.func276 (K3 fu pa0.gWhere pa0.gVars _ z14)) (qg g13 gW (q1 (b6 g13) (qN ?_))))))))
 refine bA H (fun h16 H=>?_) (fun h16 H=>?_)
 ·refine qS (qR (q1 aE (qN (aQ.ret ?_))))
  cases aZ H
  exact bL
 refine aQ.skip ?_
 iterate 2 refine qS ?_
 refine qR (q1 aE (qN ?_))
 refine j8 13 (a9 _) (fun hl18=>?_)
 refine b9 (σ:=Unit) (fun i17 _=>⟨[(1,.ptr 0 0),(2,pB false),(3,pN i17)],⟨[some ⟨55,jO pa0⟩],[]⟩⟩) (fun _=>⟨[(1,.ptr 0 0),(2,pB false)],⟨[some ⟨55,jO pa0⟩],[]⟩⟩) (f8 H) ?_ ?_
 ·rintro i17 ⟨⟩ H
  iterate 2 refine qS ?_
  refine qR (q1 aE (q1 (a6 rB) (q1 (bD jC) (q1 (eB bU (a9 _)) (q1 gP (qN ?_))))))
  refine dT H (fun h19 h19l H=>?_) (fun h19 H=>?_)
  ·have h19n:=a8 h19
   refine aQ.skip (qS (aQ.block (qS (bN H fun x21 z20 H=>(dW (dI [1] (a6 rB) (dD [51] (bD jC) (dI [3] aE (dI [52,53] (gV h19n bU) (dI [54] (mC eE) (dI [1] (a6 rC) (dD [56] (cU [pI pa0.gHead.gKind,pS pa0.gHead.gName,a3 pa0.gHead.gArgs] bZ) (dI [55,57] (bG Tryz.func200 (XI fu (aW pa0.gVars i17) pa0.gHead _ z20)) ?_)))))))))))))
   refine dI [58] gW (dN ?_)
   refine bA H (fun h22 H=>?_) (fun h22 H=>?_)
   ·refine qS (qR (q1 aE (qN (aQ.ret ?_))))
    obtain rfl:_=r:=(p8 (aZ H):)
    exact bL
   refine aQ.skip (qR (q1 aE (q1 (aX.addI rfl rfl rfl rfl (c:=((i17+1:Nat):Int)) (by omega) (by omega)) (q1 aE (qN ?_)))))
   exact iK h19l ⟨_,(aZ H:),b0⟩
  refine aQ.exit ?_;exact j0 ⟨_,H,b0⟩
 rintro⟨⟩ H
 refine qS ?_;refine qD (σ:=Unit) (fun _=>⟨[(1,.ptr 0 0),(2,pB false)],⟨[some ⟨55,jO pa0⟩],[]⟩⟩) (f8 H) (fun H=>?_) ?_
 ·refine qS (qR (q1 (a6 zA) (q1 (bD sh4) (q1 aE ?_))))
  refine dY 62 H (fun g23 H=>?_) fun g23 H=>?_
  ·refine qg g23 (a6 w8) (qg g23 (cU [pI pa0.gAssoc.gKind,pS pa0.gAssoc.gName,a3 pa0.gAssoc.gArgs] bZ) (qg g23 (a6 rB) (qg g23 (bD jC) (bN H fun x25 z24 H=>(qg g23 (bG Tryz.func275 (pH fu pa0.gAssoc pa0.gVars _ z24)) (qg g23 gW (q1 (bS g23) (q1 aE ?_))))))))
   refine dY 70 H (fun g26 H=>?_) fun g26 H=>?_
   ·refine qk g26 ?_
    iterate 3 refine qk g26 ?_
    iterate 4 refine KM ?_
    refine qk g26 (q1 (bS g26) (qN (dM rfl (qS (qR (q1 aE (qN (aQ.ret ?_))))))))
    obtain rfl:_=r:=(CY (aZ H):)
    exact bL
   refine qg g26 (a6 zA) (qg g26 (bD sh4) (qg g26 gW (qg g26 aE ?_)))
   iterate 4 refine qk (congrArg (fun b=> !b) g23) ?_
   refine qg g26 (b6 (congrArg (fun b=> !b) g23)) (q1 (b6 g26) (qN (kJ rfl (aQ.skip ?_))))
   exact dO ⟨_,(aZ H:),b0⟩
  iterate 6 refine qk g23 ?_
  refine q1 (b6 g23) (q1 aE (qg rfl (a6 zA) (qg rfl (bD sh4) (qg rfl gW (qg rfl aE (qg (congrArg (fun b=> !b) g23) (a6 w8) (qg (congrArg (fun b=> !b) g23) (cU [pI pa0.gAssoc.gKind,pS pa0.gAssoc.gName,a3 pa0.gAssoc.gArgs] bZ) (bN H fun x28 z27 H=>(qg (congrArg (fun b=> !b) g23) (bG Tryz.func277 (uV fu pa0.gAssoc _ z27)) (qg (congrArg (fun b=> !b) g23) gW (qg rfl (bS (congrArg (fun b=> !b) g23)) (q1 (b6 rfl) (qN ?_)))))))))))))
  refine bA H (fun h29 H=>?_) (fun h29 H=>?_)
  ·refine qS (qR (q1 aE (qN (aQ.ret ?_))))
   obtain rfl:_=r:=(CY (aZ H):)
   exact bL
  refine aQ.skip ?_;exact dO ⟨_,(aZ H:),b0⟩
 rintro⟨⟩ H
 refine qS (qR (q1 (qZ ([]:List ByteArray) bU kG) (q1 aE (qN ?_))))
 iterate 2 refine qS ?_
 refine qR (q1 aE (qN ?_))
 refine aQ.fact (cE 0 11 rfl rfl rfl (aP.trs_len _)) (fun hl33=>?_)
 refine b9 (σ:=(List ByteArray)) (fun i30 v32=>⟨[(1,.ptr 0 0),(2,pB false),(4,aS v32 0),(5,pN i30)],⟨[some ⟨55,jO pa0⟩],[⟨9,1,a4 (v32),false⟩]⟩⟩) (fun v32=>⟨[(2,pB false),(4,aS v32 0)],⟨[some ⟨55,jO pa0⟩],[⟨9,1,a4 (v32),false⟩]⟩⟩) (f8 H) ?_ ?_
 ·rintro i30 v32 H
  iterate 2 refine qS ?_
  refine qR (q1 aE (q1 (a6 w9) (q1 (bD XO) (q1 (eB JT (aP.trs_len _)) (q1 gP (qN ?_))))))
  refine dT H (fun h34 h34l H=>?_) (fun h34 H=>?_)
  ·have h34n:=a8 h34
   refine aQ.skip (qS (aQ.block (qS (qR (q1 (a6 w9) (q1 (bD XO) (q1 aE (gL H fun y35 h36 H=>(q1 (vT h36 h34n JT) (q1 (jW (aP.cs y35) ak1) (q1 (gM G5) (q1 (bR alP) (qN ?_)))))))))))))
   iterate 2 refine qS ?_
   refine qR (q1 (a6 ER) (q1 (bD jC) (q1 (eB bU (a9 _)) (q1 eG (q1 aE ?_)))))
   refine dY 98 H (fun g37 H=>?_) fun g37 H=>?_
   ·refine qk g37 ?_
    iterate 3 refine qk g37 ?_
    refine q1 (bS g37) (q1 aE ?_)
    iterate 6 refine qk rfl ?_
    refine q1 (bS rfl) (qN (dM rfl (qS (qR (q1 aE (qN (aQ.ret ?_)))))))
    obtain rfl:_=r:=(p8 (aZ H):)
    exact bL
   refine qg g37 (a6 ER) (qg g37 (bD jC) (bN H fun x39 z38 H=>(qg g37 (bG Tryz.func236 (gC fu y35.gVars 5 _ z38)) (qg g37 gW (q1 (b6 g37) (q1 aE ?_))))))
   refine dY 104 H (fun g40 H=>?_) fun g40 H=>?_
   ·refine qk g40 ?_
    iterate 5 refine qk g40 ?_
    refine q1 (bS g40) (qN (dM rfl (qS (qR (q1 aE (qN (aQ.ret ?_)))))))
    obtain rfl:_=r:=(p8 (aZ H):)
    exact bL
   refine qg g40 (a6 PT) (qg g40 (cU [pI y35.gBody.gKind,pS y35.gBody.gTrait,pS y35.gBody.gName,pI y35.gBody.gN,pI y35.gBody.gType.gKind,pS y35.gBody.gType.gName,a3 y35.gBody.gType.gArgs,f9 y35.gBody.gArgs,m3 y35.gBody.gArms] gY) (qg g40 (a6 ER) (qg g40 (bD jC) (bN H fun x42 z41 H=>(qg g40 (bG Tryz.func278 (D6 fu y35.gBody y35.gVars _ z41)) (qg g40 gW (q1 (b6 g40) (qN ?_))))))))
   refine bA H (fun h43 H=>?_) (fun h43 H=>?_)
   ·refine qS (qR (q1 aE (qN (aQ.ret ?_))))
    obtain rfl:_=r:=(p8 (aZ H):)
    exact bL
   refine aQ.skip (qR (q1 aE (q1 (a6 WT) (q1 (bD eE) (q1 (hH ([y35.gName]:List ByteArray) bU kG) (cX H fun z44 H=>(q1 (kX z44 bU qH) (q1 aE (qN (qR (q1 aE (q1 (aX.addI rfl rfl rfl rfl (c:=((i30+1:Nat):Int)) (by omega) (by omega)) (q1 aE ?_)))))))))))))
   refine qN ?_;exact iK h34l ⟨_,(aZ H:),b0⟩
  refine aQ.exit ?_;exact j0 ⟨_,H,b0⟩
 rintro v32 H
 refine qS (qR (q1 aE (bN H fun x46 z45 H=>(q1 (bG Tryz.func236 (gC fu v32 6 _ z45)) (q1 aE (qN (aQ.ret ?_)))))))
 cases aZ H
 exact bL
def IQ(m:aM→Option Bool):Prop:= ∀(pf:aM) (r:Bool),m pf=some r→b4 Tryz.prog 259 [(aM.pv pf)] (pB r:PV)
def F7(fu:Nat)(pf:aM):Nat→((List ByteArray))→Option (LR ((List ByteArray)) Bool):=
 fun i1 v3=>bd (nF fu ((aW pf.gParams i1).gType) pf.gVars) (fun x7=>
 sw (!(x7))
 (some (.ret false))
 (gd ((v3).length+(([((aW pf.gParams i1).gName)]:List ByteArray)).length≤68719476736)
 (some (.next (v3++([((aW pf.gParams i1).gName)]:List ByteArray))))))
def F8(fu:Nat)(pf:aM):Option (Bool⊕((List ByteArray))):=
 loopN (F7 fu pf) (pf.gParams.length-0) 0 ([])
def m8(fu:Nat)(pf:aM):Option Bool:=
 so (F8 fu pf) (fun v3=>
 bd (dH fu pf.gName) (fun x11=>
 sw (x11)
 (bd (fY fu pf.gVars 3) (fun x14=>
 sw (x14)
 (bd (yQ fu pf.gWhere pf.gVars) (fun x17=>
 sw (x17)
 (bd (fY fu v3 5) (fun x20=>
 sw (x20)
 (bd (nF fu pf.gResult pf.gVars) (fun x23=>
 sw (x23)
 (bd (xQ fu pf.gBody v3) (fun x26=>
 some x26))
 (some false)))
 (some false)))
 (some false)))
 (some false)))
 (some false)))
theorem vV(fu:Nat):IQ (m8 fu):=by
 intro pf r H
 have H:=eF H
 refine qI Tryz.func259 (fun C hC=>?_)
 refine qS (qR (q1 (jP (wS pf)) (q1 aE (qN (qS (qR (q1 (qZ ([]:List ByteArray) bU kG) (q1 aE (qN ?_)))))))))
 iterate 2 refine qS ?_
 refine qR (q1 aE (qN ?_))
 refine aQ.fact (cE 0 3 rfl rfl rfl (aU.trs_len _)) (fun hl4=>?_)
 refine b9 (σ:=(List ByteArray)) (fun i1 v3=>⟨[(1,.ptr 0 0),(2,pB false),(3,aS v3 0),(4,pN i1)],⟨[some ⟨148,wS pf⟩],[⟨9,1,a4 (v3),false⟩]⟩⟩) (fun v3=>⟨[(1,.ptr 0 0),(2,pB false),(3,aS v3 0)],⟨[some ⟨148,wS pf⟩],[⟨9,1,a4 (v3),false⟩]⟩⟩) (f8 H) ?_ ?_
 ·rintro i1 v3 H
  iterate 2 refine qS ?_
  refine qR (q1 aE (q1 (a6 uA) (q1 (bD N7) (q1 (eB DA (aU.trs_len _)) (q1 gP (qN ?_))))))
  refine dT H (fun h5 h5l H=>?_) (fun h5 H=>?_)
  ·have h5n:=a8 h5
   refine aQ.skip (qS (aQ.block ?_))
   iterate 2 refine qS ?_
   refine bN H fun x7 z6 H=>(dW (dI [1] (a6 uA) (dD [13] (bD N7) (dI [4] aE (dI [14,15] (gV h5n DA) (dI [16] (nK ag8) (dI [17] (jW (aA.cs ((aW pf.gParams i1).gType)) bZ) (dI [1] (a6 JX) (dD [19] (bD jC) (dI [18,20] (bG Tryz.func275 (pH fu ((aW pf.gParams i1).gType) pf.gVars _ z6)) (dI [21] gW (dN ?_))))))))))))
   refine bA H (fun h8 H=>?_) (fun h8 H=>?_)
   ·refine qS (qR (q1 aE (qN (aQ.ret ?_))))
    obtain rfl:_=r:=(p8 (aZ H):)
    exact bL
   refine aQ.skip (qR (q1 aE (q1 (a6 uA) (q1 (bD N7) (q1 aE (q1 (gV h5n DA) (q1 (nK ag7) (q1 (mC eE) (q1 (hH ([((aW pf.gParams i1).gName)]:List ByteArray) bU kG) (cX H fun z9 H=>(q1 (kX z9 bU qH) (q1 aE (qN ?_)))))))))))))
   refine qR (q1 aE (q1 (aX.addI rfl rfl rfl rfl (c:=((i1+1:Nat):Int)) (by omega) (by omega)) (q1 aE (qN ?_))))
   exact iK h5l ⟨_,(aZ H:),b0⟩
  refine aQ.exit ?_;exact j0 ⟨_,H,b0⟩
 rintro v3 H
 refine qS (qR (q1 (a6 PP) (q1 (bD eE) (bN H fun x11 z10 H=>(q1 (bG Tryz.func235 (dQ fu pf.gName _ z10)) (q1 aE ?_))))))
 refine dY 35 H (fun g12 H=>?_) fun g12 H=>?_
 ·refine qg g12 (a6 JX) (qg g12 (bD jC) (bN H fun x14 z13 H=>(qg g12 (bG Tryz.func236 (gC fu pf.gVars 3 _ z13)) (q1 (bS g12) (q1 aE ?_)))))
  refine dY 40 H (fun g15 H=>?_) fun g15 H=>?_
  ·refine qg g15 (a6 WP) (qg g15 (bD aeT) (qg g15 (a6 JX) (qg g15 (bD jC) (bN H fun x17 z16 H=>(qg g15 (bG Tryz.func276 (K3 fu pf.gWhere pf.gVars _ z16)) (q1 (bS g15) (q1 aE ?_)))))))
   refine dY 47 H (fun g18 H=>?_) fun g18 H=>?_
   ·refine qg g18 aE (bN H fun x20 z19 H=>(qg g18 (bG Tryz.func236 (gC fu v3 5 _ z19)) (q1 (bS g18) (q1 aE ?_))))
    refine dY 51 H (fun g21 H=>?_) fun g21 H=>?_
    ·refine qg g21 (a6 WQ) (qg g21 (cU [pI pf.gResult.gKind,pS pf.gResult.gName,a3 pf.gResult.gArgs] bZ) (qg g21 (a6 JX) (qg g21 (bD jC) (bN H fun x23 z22 H=>(qg g21 (bG Tryz.func275 (pH fu pf.gResult pf.gVars _ z22)) (q1 (bS g21) (q1 aE ?_)))))))
     refine dY 58 H (fun g24 H=>?_) fun g24 H=>?_
     ·refine qg g24 (a6 WR) (qg g24 (cU [pI pf.gBody.gKind,pS pf.gBody.gTrait,pS pf.gBody.gName,pI pf.gBody.gN,pI pf.gBody.gType.gKind,pS pf.gBody.gType.gName,a3 pf.gBody.gType.gArgs,f9 pf.gBody.gArgs,m3 pf.gBody.gArms] gY) (qg g24 aE (bN H fun x26 z25 H=>(qg g24 (bG Tryz.func278 (D6 fu pf.gBody v3 _ z25)) (q1 (bS g24) (q1 aE (qN (aQ.ret ?_))))))))
      cases aZ H
      exact bL
     iterate 4 refine qk g24 ?_
     refine q1 (b6 g24) (q1 aE (qN (aQ.ret ?_)))
     cases aZ H
     exact bL
    iterate 5 refine qk g21 ?_
    refine q1 (b6 g21) (q1 aE ?_)
    iterate 4 refine qk rfl ?_
    refine q1 (b6 rfl) (q1 aE (qN (aQ.ret ?_)))
    cases aZ H
    exact bL
   iterate 2 refine qk g18 ?_
   refine q1 (b6 g18) (q1 aE ?_)
   iterate 5 refine qk rfl ?_
   refine q1 (b6 rfl) (q1 aE ?_)
   iterate 4 refine qk rfl ?_
   refine q1 (b6 rfl) (q1 aE (qN (aQ.ret ?_)))
   cases aZ H
   exact bL
  iterate 5 refine qk g15 ?_
  refine q1 (b6 g15) (q1 aE ?_)
  iterate 2 refine qk rfl ?_
  refine q1 (b6 rfl) (q1 aE ?_)
  iterate 5 refine qk rfl ?_
  refine q1 (b6 rfl) (q1 aE ?_)
  iterate 4 refine qk rfl ?_
  refine q1 (b6 rfl) (q1 aE (qN (aQ.ret ?_)))
  cases aZ H
  exact bL
 iterate 3 refine qk g12 ?_
 refine q1 (b6 g12) (q1 aE ?_)
 iterate 5 refine qk rfl ?_
 refine q1 (b6 rfl) (q1 aE ?_)
 iterate 2 refine qk rfl ?_
 refine q1 (b6 rfl) (q1 aE ?_)
 iterate 5 refine qk rfl ?_
 refine q1 (b6 rfl) (q1 aE ?_)
 iterate 4 refine qk rfl ?_
 refine q1 (b6 rfl) (q1 aE (qN (aQ.ret ?_)))
 cases aZ H
 exact bL
end
end Go.Proofs.YtpioomclpaiomaaGreat.W

namespace Go.Proofs.YtpioomclpaiomaaGreat.W
set_option maxRecDepth 100000
set_option maxHeartbeats 40000000
noncomputable section
open Go.RowKit Go.Proofs
set_option linter.unusedSimpArgs false
set_option linter.unusedVariables false
attribute [local irreducible] lt
def ak7(m:aB→Int→Option aB):Prop:= ∀(px:aB) (pi:Int) (r:aB),m px pi=some r→b4 Tryz.prog 219 [(aB.pv px),pI pi] ((aB.pv r):PV)
def c7(fu:Nat)(px:aB)(pi:Int):Option aB:=
 sw (decide (pi≥(px.gList.length:Int)))
 (some (aB.mk s_ []))
 (gd (0≤pi∧(pi).toNat<(px.gList).length)
 (some (aW px.gList ((pi).toNat))))
theorem cT(fu:Nat):ak7 (c7 fu):=by
 intro px pi r H
 have H:=eF H
 refine qI Tryz.func219 (fun C hC=>?_)
 refine qS (qR (q1 (jP ([pS px.gAtom,bB px.gList])) (q1 (gM b7) (qN ?_))))
 iterate 2 refine qS ?_
 refine qR (q1 aE (q1 (a6 bH) (q1 (bD cR) (q1 (eB bI (aB.trs_len _)) (q1 TX (qN ?_))))))
 refine bA H (fun h1 H=>?_) (fun h1 H=>?_)
 ·refine qS (qR (q1 (eU b7 mK) (q1 (bR eA) (qN (aQ.ret ?_)))))
  cases aZ H
  exact bL (hr:=⟨⟨_,_,_,rfl,rfl,bP,rfl,rfl⟩,trivial⟩)
 refine aQ.skip (qS (qR (q1 (a6 bH) (q1 (bD cR) (q1 aE (cX H fun z2 H=>(q1 (rIy z2 bI) (q1 (jW (aB.cs (aW px.gList ((pi).toNat))) bP) (q1 (bR eA) (qN (aQ.ret ?_)))))))))))
 cases aZ H
 exact bL (hr:=⟨⟨_,_,_,rfl,rfl,bP,rfl,rfl⟩,trivial⟩)
def acO(m:aB→Option ((List ByteArray))):Prop:= ∀(px:aB) (r:(List ByteArray)),m px=some r→b4 Tryz.prog 243 [(aB.pv px)] (rS r:PV)
def lM(fu:Nat)(px:aB):Option ((List ByteArray)):=
 bd (xS fu px.gList) (fun(x2,x3)=>
 some x2)
theorem nG(fu:Nat):acO (lM fu):=by
 intro px r H
 have H:=eF H
 refine qI Tryz.func243 (fun C hC=>?_)
 refine qS (qR (q1 (jP ([pS px.gAtom,bB px.gList])) (q1 aE (qN (qS (qR (q1 (a6 bH) (q1 (bD cR) (eT H fun x2 x3 z1 H=>(q1 (bG Tryz.func218 (EH fu px.gList _ z1)) (q1 aE ?_)))))))))))
 iterate 2 refine q1 uB ?_
 iterate 2 refine q1 aE ?_
 refine qN (qS (qR ?_))
 iterate 2 refine q1 aE ?_
 refine qN (aQ.ret ?_)
 cases aZ H
 exact bL
def afG(m:aB→Int→Option ((List aB))):Prop:= ∀(px:aB) (pi:Int) (r:(List aB)),m px pi=some r→b4 Tryz.prog 244 [(aB.pv px),pI pi] (bB r:PV)
def t1(fu:Nat)(px:aB)(pi:Int):Option ((List aB)):=
 bd (pK fu pi (px.gList.length:Int)) (fun x2=>
 gd ((0:Int)≤x2∧(x2:Int)≤(px.gList.length:Int)∧(px.gList.length:Int)≤(px.gList.length:Int))
 (some (List.drop (x2:Int).toNat (List.take (px.gList.length:Int).toNat px.gList))))
theorem yR(fu:Nat):afG (t1 fu):=by
 intro px pi r H
 have H:=eF H
 refine qI Tryz.func244 (fun C hC=>?_)
 refine qS (qR (q1 (jP ([pS px.gAtom,bB px.gList])) (q1 aE (qN (qS (bN H fun x2 z1 H=>(cX H fun z3 H=>(dW (dI [2] (a6 bH) (dD [5] (bD cR) (dI [1] aE (dI [2] (a6 bH) (dD [8] (bD cR) ?_)))))))))))))
 refine dI [9] (eB bI (aB.trs_len _)) (dI [7,10] (bG Tryz.func261 (pY fu pi (px.gList.length:Int) _ z1)) ?_)
 refine dI [6,11] (aX.congrP (aX.sliceR (es:=aB.trs (px.gList)) (l:=x2) (k:=(px.gList.length:Int)) rfl rfl rfl rfl rfl (by rw [aB.trs_len];exact rfl) (by rw [aB.trs_len];exact z3) bI) (aB.trs_part _ _ _)) ?_;refine dI [12] aE (dN (aQ.ret ?_))
 cases aZ H
 exact bL
def ai9(m:(List aB)→Option ((List aA))):Prop:= ∀(plist:List aB) (r:(List aA)),m plist=some r→b4 Tryz.prog 245 [bB plist] (a3 r:PV)
def afH(fu:Nat)(plist:List aB):Nat→((List aA))→Option (LR ((List aA)) ((List aA))):=
 fun i1 v3=>bd (lR fu (aW plist i1)) (fun x7=>
 gd ((v3).length+(([x7]:List aA)).length≤68719476736)
 (some (.next (v3++([x7]:List aA)))))
def afI(fu:Nat)(plist:List aB):Option (((List aA))⊕((List aA))):=
 loopN (afH fu plist) (plist.length-0) 0 ([])
def FB(fu:Nat)(plist:List aB):Option ((List aA)):=
 so (afI fu plist) (fun v3=>
 some v3)
theorem SN(fu:Nat):ai9 (FB fu):=by
 intro plist r H
 have H:=eF H
 refine qI Tryz.func245 (fun C hC=>?_)
 refine qS (qR (q1 aE (qN (qS (qR (q1 (qZ ([]:List aA) c8 eP) (q1 aE (qN ?_))))))))
 iterate 2 refine qS ?_
 refine qR (q1 aE (qN ?_))
 refine j8 0 (aB.trs_len _) (fun hl4=>?_)
 refine b9 (σ:=(List aA)) (fun i1 v3=>⟨[(0,bB plist),(2,.nil),(3,NU v3 0),(4,pN i1)],⟨[],[⟨35,3,aA.trs (v3),false⟩]⟩⟩) (fun v3=>⟨[(2,.nil),(3,NU v3 0)],⟨[],[⟨35,3,aA.trs (v3),false⟩]⟩⟩) (f8 H) ?_ ?_
 ·rintro i1 v3 H
  iterate 2 refine qS ?_
  refine qR ?_
  iterate 2 refine q1 aE ?_
  refine q1 (eB bI (aB.trs_len _)) (q1 gP (qN ?_))
  refine dT H (fun h5 h5l H=>?_) (fun h5 H=>?_)
  ·have h5n:=a8 h5
   refine aQ.skip (qS (aQ.block (qR ?_)))
   iterate 3 refine q1 aE ?_
   refine q1 (gV h5n bI) (q1 (jW (aB.cs (aW plist i1)) bP) (bN H fun x7 z6 H=>(q1 (bG Tryz.func246 (u3 fu (aW plist i1) _ z6)) (q1 (hH ([x7]:List aA) c8 eP) (cX H fun z8 H=>(q1 (kX z8 c8 agY) (q1 aE (qN (qR (q1 aE (q1 (aX.addI rfl rfl rfl rfl (c:=((i1+1:Nat):Int)) (by omega) (by omega)) (q1 aE (qN ?_)))))))))))))
   exact iK h5l ⟨_,(aZ H:),b0⟩
  refine aQ.exit ?_;exact j0 ⟨_,H,b0⟩
 rintro v3 H
 refine qS (qR ?_)
 iterate 2 refine q1 aE ?_
 refine qN (aQ.ret ?_)
 cases aZ H
 exact bL
def acR(m:(List ByteArray)→Option aB):Prop:= ∀(plist:List ByteArray) (r:aB),m plist=some r→b4 Tryz.prog 267 [rS plist] ((aB.pv r):PV)
def kD(fu:Nat)(plist:List ByteArray):Option aB:=
 bd (B5 fu plist) (fun x2=>
 some (aB.mk s_ x2))
theorem lN(fu:Nat):acR (kD fu):=by
 intro plist r H
 have H:=eF H
 refine qI Tryz.func267 (fun C hC=>?_)
 refine qS (qR (q1 (gM b7) (qN (qS (qR (q1 aE (bN H fun x2 z1 H=>(q1 (bG Tryz.func280 (N9 fu plist _ z1)) (q1 (eU b7 mK) (q1 (bR eA) (qN (aQ.ret ?_))))))))))))
 cases aZ H
 exact bL (hr:=⟨⟨_,_,_,rfl,rfl,bP,rfl,rfl⟩,trivial⟩)
def acP(m:(List aA)→Option ((List aB))):Prop:= ∀(plist:List aA) (r:(List aB)),m plist=some r→b4 Tryz.prog 268 [a3 plist] (bB r:PV)
def YA(fu:Nat)(plist:List aA):Nat→((List aB))→Option (LR ((List aB)) ((List aB))):=
 fun i1 v3=>bd (lQ fu (aW plist i1)) (fun x7=>
 gd ((v3).length+(([x7]:List aB)).length≤68719476736)
 (some (.next (v3++([x7]:List aB)))))
def YB(fu:Nat)(plist:List aA):Option (((List aB))⊕((List aB))):=
 loopN (YA fu plist) (plist.length-0) 0 ([])
def yS(fu:Nat)(plist:List aA):Option ((List aB)):=
 so (YB fu plist) (fun v3=>
 some v3)
theorem K4(fu:Nat):acP (yS fu):=by
 intro plist r H
 have H:=eF H
 refine qI Tryz.func268 (fun C hC=>?_)
 refine qS (qR (q1 aE (qN (qS (qR (q1 (qZ ([]:List aB) bI b7) (q1 aE (qN ?_))))))))
 iterate 2 refine qS ?_
 refine qR (q1 aE (qN ?_))
 refine j8 0 (aA.trs_len _) (fun hl4=>?_)
 refine b9 (σ:=(List aB)) (fun i1 v3=>⟨[(0,a3 plist),(2,.nil),(3,dV v3 0),(4,pN i1)],⟨[],[⟨237,2,aB.trs (v3),false⟩]⟩⟩) (fun v3=>⟨[(2,.nil),(3,dV v3 0)],⟨[],[⟨237,2,aB.trs (v3),false⟩]⟩⟩) (f8 H) ?_ ?_
 ·rintro i1 v3 H
  iterate 2 refine qS ?_
  refine qR ?_
  iterate 2 refine q1 aE ?_
  refine q1 (eB c8 (aA.trs_len _)) (q1 gP (qN ?_))
  refine dT H (fun h5 h5l H=>?_) (fun h5 H=>?_)
  ·have h5n:=a8 h5
   refine aQ.skip (qS (aQ.block (qR ?_)))
   iterate 3 refine q1 aE ?_
   refine q1 (gV h5n c8) (q1 (jW (aA.cs (aW plist i1)) bZ) (bN H fun x7 z6 H=>(q1 (bG Tryz.func269 (u2 fu (aW plist i1) _ z6)) (q1 (hH ([x7]:List aB) bI b7) (cX H fun z8 H=>(q1 (kX z8 bI qA) (q1 aE (qN (qR (q1 aE (q1 (aX.addI rfl rfl rfl rfl (c:=((i1+1:Nat):Int)) (by omega) (by omega)) (q1 aE (qN ?_)))))))))))))
   exact iK h5l ⟨_,(aZ H:),b0⟩
  refine aQ.exit ?_;exact j0 ⟨_,H,b0⟩
 rintro v3 H
 refine qS (qR ?_)
 iterate 2 refine q1 aE ?_
 refine qN (aQ.ret ?_)
 cases aZ H
 exact bL
def ak8(m:Bool→aB→Option aB):Prop:= ∀(pok:Bool) (px:aB) (r:aB),m pok px=some r→b4 Tryz.prog 271 [pB pok,(aB.pv px)] ((aB.pv r):PV)
def AR(fu:Nat)(pok:Bool)(px:aB):Option aB:=
 sw (!(pok))
 (some (aB.mk s_ []))
 (bd (gQ fu px) (fun x3=>
 sw (!(x3))
 (some (aB.mk s_ []))
 (some px)))
theorem FA(fu:Nat):ak8 (AR fu):=by
 intro pok px r H
 have H:=eF H
 refine qI Tryz.func271 (fun C hC=>?_)
 refine qS (qR (q1 (jP ([pS px.gAtom,bB px.gList])) (q1 (gM b7) (qN ?_))))
 iterate 2 refine qS ?_
 refine qR (q1 aE (q1 gW (q1 aE ?_)))
 refine dY 7 H (fun g1 H=>?_) fun g1 H=>?_
 ·refine qk g1 ?_
  iterate 2 refine qk g1 ?_
  refine q1 (bS g1) (qN (dM rfl (qS (qR (q1 (eU b7 mK) (q1 (bR eA) (qN (aQ.ret ?_))))))))
  cases aZ H
  exact bL (hr:=⟨⟨_,_,_,rfl,rfl,bP,rfl,rfl⟩,trivial⟩)
 refine qg g1 (cU [pS px.gAtom,bB px.gList] bP) (bN H fun x3 z2 H=>(qg g1 (bG Tryz.func217 (cZ fu px _ z2)) (qg g1 gW (q1 (b6 g1) (qN ?_)))))
 refine bA H (fun h4 H=>?_) (fun h4 H=>?_)
 ·refine qS (qR (q1 (eU b7 mK) (q1 (bR eA) (qN (aQ.ret ?_)))))
  cases aZ H
  exact bL (hr:=⟨⟨_,_,_,rfl,rfl,bP,rfl,rfl⟩,trivial⟩)
 refine aQ.skip (qS (qR (q1 (cU [pS px.gAtom,bB px.gList] bP) (q1 (bR eA) (qN (aQ.ret ?_))))))
 cases aZ H
 exact bL (hr:=⟨⟨_,_,_,rfl,rfl,bP,rfl,rfl⟩,trivial⟩)
def PH(m:aT→Option aB):Prop:= ∀(pa0:aT) (r:aB),m pa0=some r→b4 Tryz.prog 249 [(aT.pv pa0)] ((aB.pv r):PV)
def M0(fu:Nat)(pa0:aT)(x2:Bool):Option (aB⊕((List ByteArray))):=
 sw (pa0.gAuto)
 (gd (([]:List ByteArray).length+(([xO]:List ByteArray)).length≤68719476736)
 (some (.inr (([])++([xO]:List ByteArray)))))
 (some (.inr ([])))
def M1(fu:Nat)(pa0:aT)(x2:Bool)(v5:List ByteArray):Option (aB⊕((List ByteArray))):=
 sw (pa0.gAssoc)
 (gd ((v5).length+(([iA]:List ByteArray)).length≤68719476736)
 (some (.inr (v5++([iA]:List ByteArray)))))
 (some (.inr v5))
def M2(fu:Nat)(pa0:aT)(x2:Bool)(v5 v9:List ByteArray)(x13 x15 x17 x19 x21:aB):Nat→((List aB))→Option (LR ((List aB)) aB):=
 fun i22 v24=>lt (aW pa0.gSignatures i22) (fun y27=>
 bd (cC fu y27.gName) (fun x30=>
 bd (yS fu y27.gParams) (fun x32=>
 bd (lQ fu y27.gResult) (fun x34=>
 bd (lB fu ([x30,(aB.mk s_ x32),x34]:List aB)) (fun x36=>
 sw (y27.gHasDefault)
 (bd (kD fu y27.gVars) (fun x39=>
 bd (lL fu y27.gBody) (fun x41=>
 gd ((x36.gList).length+(([x39,x41]:List aB)).length≤68719476736)
 (gd ((v24).length+(([(aB.mk x36.gAtom (x36.gList++([x39,x41]:List aB)))]:List aB)).length≤68719476736)
 (some (.next (v24++([(aB.mk x36.gAtom (x36.gList++([x39,x41]:List aB)))]:List aB))))))))
 (gd ((v24).length+(([(aB.mk x36.gAtom x36.gList)]:List aB)).length≤68719476736)
 (some (.next (v24++([(aB.mk x36.gAtom x36.gList)]:List aB))))))))))
def M3(fu:Nat)(pa0:aT)(x2:Bool)(v5 v9:List ByteArray)(x13 x15 x17 x19 x21:aB):Option (aB⊕((List aB))):=
 loopN (M2 fu pa0 x2 v5 v9 x13 x15 x17 x19 x21) (pa0.gSignatures.length-0) 0 x21.gList
def vM(fu:Nat)(pa0:aT):Option aB:=
 bd (q8 fu pa0) (fun x2=>
 sw (!(x2))
 (some (aB.mk s_ []))
 (so (M0 fu pa0 x2) (fun v5=>
 so (M1 fu pa0 x2 v5) (fun v9=>
 bd (cC fu E8) (fun x13=>
 bd (cC fu pa0.gName) (fun x15=>
 bd (kD fu pa0.gSupertraits) (fun x17=>
 bd (kD fu v9) (fun x19=>
 bd (lB fu ([x13,x15,x17,x19]:List aB)) (fun x21=>
 so (M3 fu pa0 x2 v5 v9 x13 x15 x17 x19 x21) (fun v24=>
 bd (AR fu true (aB.mk x21.gAtom v24)) (fun x46=>
 some x46)))))))))))
theorem M4(fu:Nat):PH (vM fu):=by
 intro pa0 r H
 have H:=eF H
 refine qI Tryz.func249 (fun C hC=>?_)
 refine qS (qR (q1 (jP (qC pa0)) (q1 (gM b7) (qN ?_))))
 iterate 2 refine qS ?_
 refine qR (q1 (cU [pS pa0.gName,rS pa0.gSupertraits,pB pa0.gAuto,pB pa0.gAssoc,jU pa0.gSignatures] pX) (bN H fun x2 z1 H=>(q1 (bG Tryz.func256 (AO fu pa0 _ z1)) (q1 gW (qN ?_)))))
 refine bA H (fun h3 H=>?_) (fun h3 H=>?_)
 ·refine qS (qR (q1 (eU b7 mK) (q1 (bR eA) (qN (aQ.ret ?_)))))
  cases aZ H
  exact bL (hr:=⟨⟨_,_,_,rfl,rfl,bP,rfl,rfl⟩,trivial⟩)
 refine aQ.skip (qS (qR (q1 (qZ ([]:List ByteArray) bU kG) (q1 aE (qN (qS ?_))))))
 refine qD (σ:=(List ByteArray)) (fun v5=>⟨[(1,.ptr 0 0),(2,.ptr 1 0),(3,aS v5 0)],⟨[some ⟨60,qC pa0⟩,some ⟨237,[pS s_,.nil]⟩],[⟨9,1,a4 (v5),false⟩]⟩⟩) (f8 H) (fun H=>?_) ?_
 ·refine qS (qR (q1 (a6 aeB) (q1 (bD sh4) (qN ?_))))
  refine bA H (fun h6 H=>?_) (fun h6 H=>?_)
  ·refine qR (q1 aE (q1 (hH ([xO]:List ByteArray) bU kG) (cX H fun z7 H=>(q1 (kX z7 bU qH) (q1 aE (qN ?_))))))
   exact dO ⟨_,(aZ H:),b0⟩
  refine aQ.skip ?_;exact dO ⟨_,(aZ H:),b0⟩
 rintro v5 H
 refine qS ?_;refine qD (σ:=(List ByteArray)) (fun v9=>⟨[(1,.ptr 0 0),(2,.ptr 1 0),(3,aS v9 0)],⟨[some ⟨60,qC pa0⟩,some ⟨237,[pS s_,.nil]⟩],[⟨9,1,a4 (v9),false⟩]⟩⟩) (f8 H) (fun H=>?_) ?_
 ·refine qS (qR (q1 (a6 akC) (q1 (bD sh4) (qN ?_))))
  refine bA H (fun h10 H=>?_) (fun h10 H=>?_)
  ·refine qR (q1 aE (q1 (hH ([iA]:List ByteArray) bU kG) (cX H fun z11 H=>(q1 (kX z11 bU qH) (q1 aE (qN ?_))))))
   exact dO ⟨_,(aZ H:),b0⟩
  refine aQ.skip ?_;exact dO ⟨_,(aZ H:),b0⟩
 rintro v9 H
 refine qS (bN H fun x13 z12 H=>(bN H fun x15 z14 H=>(bN H fun x17 z16 H=>(bN H fun x19 z18 H=>(bN H fun x21 z20 H=>(dWa (dI [] (bG Tryz.func266 (b3 fu E8 _ z12)) (dI [1] (a6 A9) (dBz [24] 0 0 (uI eE) (dI [25] (bG Tryz.func266 (b3 fu pa0.gName _ z14)) (dI [1] (a6 oU) (dBz [27] 0 0 (uI jC) (dI [28] (bG Tryz.func267 (lN fu pa0.gSupertraits _ z16)) ?_)))))))))))))
 refine dI [3] aE (dI [30] (bG Tryz.func267 (lN fu v9 _ z18)) (dI [23,26,29,31] (hH ([x13,x15,x17,x19]:List aB) bI b7) ?_))
 refine dEz [32] (fun _ z=>by cases z<;>exact aX.callOwn (pre:=⟨[],[]⟩) (B:= []) (R:=fun k=> .agg [pS x21.gAtom,dV x21.gList k]) (ps:= [_]) (qs:= [bB ([x13,x15,x17,x19]:List aB)]) [] rfl rfl Tryz.func265 (by kernel_rfl) rfl rfl rfl (mD.of trivial trivial (by decide) (by decide)) rfl kP rfl rfl rfl (fun k k'=>(.agg (.cons (.free _ rfl) (.cons Mv.acc WF.nil)))) (l7 fu ([x13,x15,x17,x19]:List aB) _ z20)) ?_;refine dA (fun _ st h=>vAl h b7) (dZ 4 [4,33] (bR eA) (dN ?_))
 iterate 2 refine qS ?_
 refine qR (q1 aE (qN ?_))
 refine aQ.fact (cE 0 4 rfl rfl rfl (aD.trs_len _)) (fun hl25=>?_)
 refine b9 (σ:=(List aB)) (fun i22 v24=>⟨[(1,.ptr 0 0),(2,.ptr 1 0),(4,.ptr 2 0),(5,pN i22)],⟨[some ⟨60,qC pa0⟩,some ⟨237,[pS s_,.nil]⟩,some ⟨237,[pS x21.gAtom,dV v24 1]⟩],[⟨9,1,a4 (v9),false⟩,⟨237,2,aB.trs (v24),false⟩]⟩⟩) (fun v24=>⟨[(2,.ptr 1 0),(4,.ptr 2 0)],⟨[some ⟨60,qC pa0⟩,some ⟨237,[pS s_,.nil]⟩,some ⟨237,[pS x21.gAtom,dV v24 1]⟩],[⟨9,1,a4 (v9),false⟩,⟨237,2,aB.trs (v24),false⟩]⟩⟩) (f8 H) ?_ ?_
 ·rintro i22 v24 H
  iterate 2 refine qS ?_
  refine qR (q1 aE (q1 (a6 lS) (q1 (bD GO) (q1 (eB wC (aD.trs_len _)) (q1 gP (qN ?_))))))
  refine dT H (fun h26 h26l H=>?_) (fun h26 H=>?_)
  ·have h26n:=a8 h26
   refine aQ.skip (qS (aQ.block (qS (qR (q1 (a6 lS) (q1 (bD GO) (q1 aE (gL H fun y27 h28 H=>(q1 (vT h28 h26n wC) (q1 (jW (aD.cs y27) aa4) (q1 (gM yZ) (q1 (bR anD) (qN ?_)))))))))))))
   refine qS (bN H fun x30 z29 H=>(bN H fun x32 z31 H=>(bN H fun x34 z33 H=>(bN H fun x36 z35 H=>(dWa (dI [6] (a6 WU) (dBz [46] 0 0 (uI eE) (dI [47] (bG Tryz.func266 (b3 fu y27.gName _ z29)) (dI [6] (a6 PU) (dBz [49] 0 0 (uI kT) (dI [50] (bG Tryz.func268 (K4 fu y27.gParams _ z31)) (dI [51] (eU b7 mK) (dI [6] (a6 PW) ?_)))))))))))))
   refine dBz [53] 0 0 (TG [pI y27.gResult.gKind,pS y27.gResult.gName,a3 y27.gResult.gArgs] bZ) (dI [54] (bG Tryz.func269 (u2 fu y27.gResult _ z33)) (dI [48,52,55] (hH ([x30,(aB.mk s_ x32),x34]:List aB) bI b7) ?_))
   refine dEz [56] (fun _ z=>by cases z<;>exact aX.callOwn (pre:=⟨[],[]⟩) (B:= []) (R:=fun k=> .agg [pS x36.gAtom,dV x36.gList k]) (ps:= [_]) (qs:= [bB ([x30,(aB.mk s_ x32),x34]:List aB)]) [] rfl rfl Tryz.func265 (by kernel_rfl) rfl rfl rfl (mD.of trivial trivial (by decide) (by decide)) rfl kP rfl rfl rfl (fun k k'=>(.agg (.cons (.free _ rfl) (.cons Mv.acc WF.nil)))) (l7 fu ([x30,(aB.mk s_ x32),x34]:List aB) _ z35)) ?_;refine dA (fun _ st h=>vAl h b7) (dZ 7 [7,57] (bR eA) (dN ?_))
   iterate 2 refine qS ?_
   refine qR (q1 (a6 JY) (q1 (bD sh4) (qN ?_)))
   refine bA H (fun h37 H=>?_) (fun h37 H=>?_)
   ·refine bN H fun x39 z38 H=>(bN H fun x41 z40 H=>(cX H fun z42 H=>(dW (dI [7] (a6 bH) (dD [60] (bD cR) (dI [6] (a6 ES) (dD [62] (bD jC) (dI [63] (bG Tryz.func267 (lN fu y27.gVars _ z38)) (dI [6] (a6 PX) (dD [65] (cU [pI y27.gBody.gKind,pS y27.gBody.gTrait,pS y27.gBody.gName,pI y27.gBody.gN,pI y27.gBody.gType.gKind,pS y27.gBody.gType.gName,a3 y27.gBody.gType.gArgs,f9 y27.gBody.gArgs,m3 y27.gBody.gArms] gY) (dI [66] (bG Tryz.func270 (NB fu y27.gBody _ z40)) (dI [64,67] (hH ([x39,x41]:List aB) bI b7) (dE [61,68] (kX z42 bI qA) ?_)))))))))))))
    refine dI [7] (a6 bH) (mN [70,69] (bR yY) (dN (qR (q1 (a6 bH) (q1 (bD cR) (q1 (cU [pS x36.gAtom,dV (x36.gList++([x39,x41]:List aB)) 2] bP) (q1 (hH ([(aB.mk x36.gAtom (x36.gList++([x39,x41]:List aB)))]:List aB) bI b7) (cX H fun z43 H=>(q1 (kX z43 bI qA) (q1 (a6 bH) (q1 (bR yY) (qN (qR ?_)))))))))))))
    refine q1 aE (q1 (aX.addI rfl rfl rfl rfl (c:=((i22+1:Nat):Int)) (by omega) (by omega)) (q1 aE (qN ?_)))
    exact iK h26l ⟨_,(aZ H:),b0⟩
   refine aQ.skip (qR (q1 (a6 bH) (q1 (bD cR) (q1 (cU [pS x36.gAtom,dV x36.gList 2] bP) (q1 (hH ([(aB.mk x36.gAtom x36.gList)]:List aB) bI b7) (cX H fun z44 H=>(q1 (kX z44 bI qA) (q1 (a6 bH) (q1 (bR yY) (qN (qR (q1 aE (q1 (aX.addI rfl rfl rfl rfl (c:=((i22+1:Nat):Int)) (by omega) (by omega)) ?_)))))))))))))
   refine q1 aE (qN ?_)
   exact iK h26l ⟨_,(aZ H:),b0⟩
  refine aQ.exit ?_;exact j0 ⟨_,H,b0⟩
 rintro v24 H
 refine qS (qR (q1 (cU [pS x21.gAtom,dV v24 1] bP) (bN H fun x46 z45 H=>(q1 (bG Tryz.func271 (FA fu true (aB.mk x21.gAtom v24) _ z45)) (q1 (bR eA) (qN (aQ.ret ?_)))))))
 cases aZ H
 exact bL (hr:=⟨⟨_,_,_,rfl,rfl,bP,rfl,rfl⟩,trivial⟩)
def PG(m:aB→Option (aT×Bool)):Prop:= ∀(pa0:aB) (r:aT×Bool),m pa0=some r→b4 Tryz.prog 230 [(aB.pv pa0)] (.tup [(aT.pv r.1),pB r.2]:PV)
def MX(fu:Nat)(pa0 x2:aB)(x4:List ByteArray)(x6 x8:aB)(x10:List ByteArray)(x12 x14:Bool)(x16:List aB):Nat→((List aD))→Option (LR ((List aD)) (aT×Bool)):=
 fun i17 v19=>bd (c7 fu (aW x16 i17) 0) (fun x23=>
 bd (c7 fu (aW x16 i17) 1) (fun x25=>
 bd (FB fu x25.gList) (fun x27=>
 bd (c7 fu (aW x16 i17) 2) (fun x29=>
 bd (lR fu x29) (fun x31=>
 sw (decide ((((((aW x16 i17).gList).length:Nat):Int):Int)>3))
 (bd (c7 fu (aW x16 i17) 3) (fun x34=>
 bd (lM fu x34) (fun x36=>
 bd (c7 fu (aW x16 i17) 4) (fun x38=>
 bd (gF fu x38) (fun x40=>
 gd ((v19).length+(([(aD.mk x23.gAtom x27 x31 true x36 x40)]:List aD)).length≤68719476736)
 (some (.next (v19++([(aD.mk x23.gAtom x27 x31 true x36 x40)]:List aD)))))))))
 (gd ((v19).length+(([(aD.mk x23.gAtom x27 x31 false [] (aG.mk 0 s_ s_ 0 (aA.mk 0 s_ []) [] []))]:List aD)).length≤68719476736)
 (some (.next (v19++([(aD.mk x23.gAtom x27 x31 false [] (aG.mk 0 s_ s_ 0 (aA.mk 0 s_ []) [] []))]:List aD))))))))))
def MY(fu:Nat)(pa0 x2:aB)(x4:List ByteArray)(x6 x8:aB)(x10:List ByteArray)(x12 x14:Bool)(x16:List aB):Option ((aT×Bool)⊕((List aD))):=
 loopN (MX fu pa0 x2 x4 x6 x8 x10 x12 x14 x16) (x16.length-0) 0 ([])
def vL(fu:Nat)(pa0:aB):Option (aT×Bool):=
 bd (c7 fu pa0 3) (fun x2=>
 bd (lM fu x2) (fun x4=>
 bd (c7 fu pa0 1) (fun x6=>
 bd (c7 fu pa0 2) (fun x8=>
 bd (lM fu x8) (fun x10=>
 bd (jZ fu x4 xO) (fun x12=>
 bd (jZ fu x4 iA) (fun x14=>
 bd (t1 fu pa0 4) (fun x16=>
 so (MY fu pa0 x2 x4 x6 x8 x10 x12 x14 x16) (fun v19=>
 bd (gQ fu pa0) (fun x44=>
 sw (!(x44))
 (some ((aT.mk s_ [] false false []),false))
 (sw (decide ((pa0.gList.length:Int)=0))
 (some ((aT.mk s_ [] false false []),false))
 (bd (vM fu (aT.mk x6.gAtom x10 x12 x14 v19)) (fun x48=>
 bd (fE fu x48 pa0) (fun x50=>
 sw (!(x50))
 (some ((aT.mk s_ [] false false []),false))
 (some ((aT.mk x6.gAtom x10 x12 x14 v19),true))))))))))))))))
theorem MZ(fu:Nat):PG (vL fu):=by
 intro pa0 r H
 have H:=eF H
 refine qI Tryz.func230 (fun C hC=>?_)
 refine qS (qR (q1 (jP ([pS pa0.gAtom,bB pa0.gList])) (q1 (gM vR) (q1 aE (qN (qS (qR (q1 (cU [pS pa0.gAtom,bB pa0.gList] bP) (bN H fun x2 z1 H=>(q1 (bG Tryz.func219 (cT fu pa0 3 _ z1)) (bN H fun x4 z3 H=>(q1 (bG Tryz.func243 (nG fu x2 _ z3)) (q1 aE ?_)))))))))))))
 refine qN (qS (bN H fun x6 z5 H=>(bN H fun x8 z7 H=>(bN H fun x10 z9 H=>(bN H fun x12 z11 H=>(bN H fun x14 z13 H=>(dW (dB [1] 0 1 (TG [pS pa0.gAtom,bB pa0.gList] bP) (dI [12] (bG Tryz.func219 (cT fu pa0 1 _ z5)) (dI [13] (rF1 sL) (dB [1] 0 1 (TG [pS pa0.gAtom,bB pa0.gList] bP) (dI [15] (bG Tryz.func219 (cT fu pa0 2 _ z7)) (dI [16] (bG Tryz.func243 (nG fu x8 _ z9)) ?_)))))))))))))
 refine dI [4] aE (dI [18] (bG Tryz.func125 (lA fu x4 xO _ z11)) (dI [4] aE (dI [20] (bG Tryz.func125 (lA fu x4 iA _ z13)) (dI [14,17,19,21] (eU vR XA) (dE [] (gM vR) (mN [5,22] (bR t8) (dN (qS (qR (q1 (cU [pS pa0.gAtom,bB pa0.gList] bP) (bN H fun x16 z15 H=>(q1 (bG Tryz.func244 (yR fu pa0 4 _ z15)) (q1 aE ?_)))))))))))))
 refine qN ?_
 iterate 2 refine qS ?_
 refine qR (q1 aE (qN (aQ.wk (Wk.regBox (k:=2) (j:=4) 164 16 (by decide) rfl rfl) ?_)))
 refine j8 6 (aB.trs_len _) (fun hl20=>?_)
 refine b9 (σ:=(List aD)) (fun i17 v19=>⟨[(1,.ptr 0 0),(2,.ptr 1 0),(3,pB false),(5,.ptr 2 0),(6,bB x16),(7,pN i17)],⟨[some ⟨237,[pS pa0.gAtom,bB pa0.gList]⟩,some ⟨60,[pS s_,.nil,pB false,pB false,.nil]⟩,some ⟨60,[pS x6.gAtom,rS x10,pB x12,pB x14,kL v19 0]⟩],[⟨164,16,aD.trs (v19),false⟩]⟩⟩) (fun v19=>⟨[(1,.ptr 0 0),(2,.ptr 1 0),(3,pB false),(5,.ptr 2 0)],⟨[some ⟨237,[pS pa0.gAtom,bB pa0.gList]⟩,some ⟨60,[pS s_,.nil,pB false,pB false,.nil]⟩,some ⟨60,[pS x6.gAtom,rS x10,pB x12,pB x14,kL v19 0]⟩],[⟨164,16,aD.trs (v19),false⟩]⟩⟩) (f8 H) ?_ ?_
 ·rintro i17 v19 H
  iterate 2 refine qS ?_
  refine qR ?_
  iterate 2 refine q1 aE ?_
  refine q1 (eB bI (aB.trs_len _)) (q1 gP (qN ?_))
  refine dT H (fun h21 h21l H=>?_) (fun h21 H=>?_)
  ·have h21n:=a8 h21
   refine aQ.skip (qS (aQ.block (qS (bN H fun x23 z22 H=>(bN H fun x25 z24 H=>(bN H fun x27 z26 H=>(bN H fun x29 z28 H=>(bN H fun x31 z30 H=>(dW (dI [6] aE (dI [7] aE (dI [31,32] (gV h21n bI) (dI [33] (jW (aB.cs (aW x16 i17)) bP) ?_)))))))))))))
   refine dI [34] (bG Tryz.func219 (cT fu (aW x16 i17) 0 _ z22)) (dI [35] (rF1 sL) (dI [6] aE (dI [7] aE (dI [37,38] (gV h21n bI) (dI [39] (jW (aB.cs (aW x16 i17)) bP) (dI [40] (bG Tryz.func219 (cT fu (aW x16 i17) 1 _ z24)) (dI [41] (rF1 WW) (dI [42] (bG Tryz.func245 (SN fu x25.gList _ z26)) (dI [6] aE (dI [7] aE (dI [44,45] (gV h21n bI) (dI [46] (jW (aB.cs (aW x16 i17)) bP) (dI [47] (bG Tryz.func219 (cT fu (aW x16 i17) 2 _ z28)) ?_)))))))))))))
   refine dI [48] (bG Tryz.func246 (u3 fu x29 _ z30)) (dI [36,43,49] (eU yZ ahD) (dE [] (gM yZ) (mN [8,50] (bR anD) (dN ?_))))
   iterate 2 refine qS ?_
   refine qR ?_
   iterate 2 refine q1 aE ?_
   refine q1 (gV h21n bI) (q1 (nK bH) (q1 (mC cR) (q1 (eB bI (aB.trs_len _)) (q1 KN (qN ?_)))))
   refine bA H (fun h32 H=>?_) (fun h32 H=>?_)
   ·refine qS (qR (q1 (a6 JY) (q1 (bR sz4) (qN (qS (qR ?_))))))
    iterate 2 refine q1 aE ?_
    refine q1 (gV h21n bI) (q1 (jW (aB.cs (aW x16 i17)) bP) (bN H fun x34 z33 H=>(q1 (bG Tryz.func219 (cT fu (aW x16 i17) 3 _ z33)) (bN H fun x36 z35 H=>(q1 (bG Tryz.func243 (nG fu x34 _ z35)) (q1 (a6 ES) (q1 (bR NP) (qN (qR ?_)))))))))
    iterate 2 refine q1 aE ?_
    refine q1 (gV h21n bI) (q1 (jW (aB.cs (aW x16 i17)) bP) (bN H fun x38 z37 H=>(q1 (bG Tryz.func219 (cT fu (aW x16 i17) 4 _ z37)) (bN H fun x40 z39 H=>(q1 (bG Tryz.func247 (D3 fu x38 _ z39)) (q1 (a6 PX) (q1 (bR p7) (qN (qR (q1 (a6 lS) (q1 (bD GO) (q1 (cU [pS x23.gAtom,a3 x27,pI x31.gKind,pS x31.gName,a3 x31.gArgs,pB true,rS x36,pI x40.gKind,pS x40.gTrait,pS x40.gName,pI x40.gN,pI x40.gType.gKind,pS x40.gType.gName,a3 x40.gType.gArgs,f9 x40.gArgs,m3 x40.gArms] aa4) (q1 (hH ([(aD.mk x23.gAtom x27 x31 true x36 x40)]:List aD) wC yZ) ?_)))))))))))))
    refine cX H fun z41 H=>(q1 (kX z41 wC alU) (q1 (a6 lS) (q1 (bR alR) (qN (qR (q1 aE (q1 (aX.addI rfl rfl rfl rfl (c:=((i17+1:Nat):Int)) (by omega) (by omega)) (q1 aE (qN ?_)))))))))
    exact iK h21l ⟨_,(aZ H:),b0⟩
   refine aQ.skip (qR (q1 (a6 lS) (q1 (bD GO) (q1 (cU [pS x23.gAtom,a3 x27,pI x31.gKind,pS x31.gName,a3 x31.gArgs,pB false,.nil,pI 0,pS s_,pS s_,pI 0,pI 0,pS s_,.nil,.nil,.nil] aa4) (q1 (hH ([(aD.mk x23.gAtom x27 x31 false [] (aG.mk 0 s_ s_ 0 (aA.mk 0 s_ []) [] []))]:List aD) wC yZ) (cX H fun z42 H=>(q1 (kX z42 wC alU) (q1 (a6 lS) (q1 (bR alR) (qN (qR (q1 aE (q1 (aX.addI rfl rfl rfl rfl (c:=((i17+1:Nat):Int)) (by omega) (by omega)) ?_)))))))))))))
   refine q1 aE (qN ?_)
   exact iK h21l ⟨_,(aZ H:),b0⟩
  refine aQ.exit ?_;exact j0 ⟨_,H,b0⟩
 rintro v19 H
 iterate 2 refine qS ?_
 refine bN H fun x44 z43 H=>?_
 rcases lC (!(x44)) with g45|g45
 ·have H:=oE H g45
  refine dW (dD [1] (cU [pS pa0.gAtom,bB pa0.gList] bP) (dI [79] (bG Tryz.func217 (cZ fu pa0 _ z43)) (dI [80] gW (dI [81] aE ?_))))
  iterate 4 refine CQ g45 ?_
  refine dI [82] (bS g45) (dI [87] aE ?_)
  iterate 5 refine CQ rfl ?_
  refine dI [88] (bS rfl) (dN (dM rfl (qS (qR (q1 (eU vR XA) (q1 (bR t8) (q1 aE (qN (aQ.ret ?_)))))))))
  cases aZ H
  exact jM (hr:=⟨⟨_,_,_,rfl,rfl,pX,rfl,rfl⟩,rfl,trivial⟩)
 have H:=oA H g45
 rcases lC (decide ((pa0.gList.length:Int)=0)) with g46|g46
 ·have H:=oE H g46
  refine dW (dD [1] (cU [pS pa0.gAtom,bB pa0.gList] bP) (dI [79] (bG Tryz.func217 (cZ fu pa0 _ z43)) (dI [80] gW (dI [81] aE (dI (hg:=a5 g45) [1] (a6 bH) (dD (hg:=a5 g45) [83] (bD cR) (dI (hg:=a5 g45) [84] (eB bI (aB.trs_len _)) (dI (hg:=a5 g45) [85] eG (dI [82,86] (b6 g45) (dI [87] aE ?_))))))))))
  iterate 5 refine CQ g46 ?_
  refine dI [88] (bS g46) (dN (dM rfl (qS (qR (q1 (eU vR XA) (q1 (bR t8) (q1 aE (qN (aQ.ret ?_)))))))))
  cases aZ H
  exact jM (hr:=⟨⟨_,_,_,rfl,rfl,pX,rfl,rfl⟩,rfl,trivial⟩)
 have H:=oA H g46
 refine bN H fun x48 z47 H=>(bN H fun x50 z49 H=>(dW (dD [1] (cU [pS pa0.gAtom,bB pa0.gList] bP) (dI [79] (bG Tryz.func217 (cZ fu pa0 _ z43)) (dI [80] gW (dI [81] aE (dI (hg:=a5 g45) [1] (a6 bH) (dD (hg:=a5 g45) [83] (bD cR) (dI (hg:=a5 g45) [84] (eB bI (aB.trs_len _)) (dI (hg:=a5 g45) [85] eG (dI [82,86] (b6 g45) (dI [87] aE (dD (hg:=a5 g46) [5] (cU [pS x6.gAtom,rS x10,pB x12,pB x14,kL v19 0] pX) ?_)))))))))))))
 refine dI (hg:=a5 g46) [89] (bG Tryz.func249 (M4 fu (aT.mk x6.gAtom x10 x12 x14 v19) _ z47)) (dD (hg:=a5 g46) [1] (cU [pS pa0.gAtom,bB pa0.gList] bP) (dI (hg:=a5 g46) [90,91] (bG Tryz.func248 (sV fu x48 pa0 _ z49)) (dI (hg:=a5 g46) [92] gW (dI [88,93] (b6 g46) (dN ?_)))))
 refine bA H (fun h51 H=>?_) (fun h51 H=>?_)
 ·refine qS (qR (q1 (eU vR XA) (q1 (bR t8) (q1 aE (qN (aQ.ret ?_))))))
  cases aZ H
  exact jM (hr:=⟨⟨_,_,_,rfl,rfl,pX,rfl,rfl⟩,rfl,trivial⟩)
 refine aQ.skip (qS (qR (q1 (cU [pS x6.gAtom,rS x10,pB x12,pB x14,kL v19 0] pX) (q1 (bR t8) (q1 aE (qN (aQ.ret ?_)))))))
 cases aZ H
 exact jM (hr:=⟨⟨_,_,_,rfl,rfl,pX,rfl,rfl⟩,rfl,trivial⟩)
def IH(m:aN→Option aB):Prop:= ∀(pd:aN) (r:aB),m pd=some r→b4 Tryz.prog 250 [(aN.pv pd)] ((aB.pv r):PV)
def FR(fu:Nat)(pd:aN)(x2 x4 x6 x8:aB):Nat→((List aB))→Option (LR ((List aB)) aB):=
 fun i9 v11=>bd (cC fu ((aW pd.gConstructors i9).gName)) (fun x15=>
 bd (yS fu ((aW pd.gConstructors i9).gFields)) (fun x17=>
 gd ((([x15]:List aB)).length+(x17).length≤68719476736)
 (gd ((v11).length+(([(aB.mk s_ (([x15]:List aB)++x17))]:List aB)).length≤68719476736)
 (some (.next (v11++([(aB.mk s_ (([x15]:List aB)++x17))]:List aB)))))))
def FS(fu:Nat)(pd:aN)(x2 x4 x6 x8:aB):Option (aB⊕((List aB))):=
 loopN (FR fu pd x2 x4 x6 x8) (pd.gConstructors.length-0) 0 x8.gList
def rM(fu:Nat)(pd:aN):Option aB:=
 bd (cC fu M7) (fun x2=>
 bd (cC fu pd.gName) (fun x4=>
 bd (kD fu pd.gVars) (fun x6=>
 bd (lB fu ([x2,x4,x6]:List aB)) (fun x8=>
 so (FS fu pd x2 x4 x6 x8) (fun v11=>
 bd (m7 fu pd) (fun x21=>
 bd (AR fu x21 (aB.mk x8.gAtom v11)) (fun x23=>
 some x23)))))))
theorem FT(fu:Nat):IH (rM fu):=by
 intro pd r H
 have H:=eF H
 refine qI Tryz.func250 (fun C hC=>?_)
 refine qS (qR (q1 (jP (wR pd)) (q1 (gM b7) (qN (qS (bN H fun x2 z1 H=>(bN H fun x4 z3 H=>(bN H fun x6 z5 H=>(bN H fun x8 z7 H=>(dWa (dI [] (bG Tryz.func266 (b3 fu M7 _ z1)) (dI [1] (a6 WN) (dBz [6] 0 0 (uI eE) ?_)))))))))))))
 refine dI [7] (bG Tryz.func266 (b3 fu pd.gName _ z3)) (dI [1] (a6 JW) (dBz [9] 0 0 (uI jC) (dI [10] (bG Tryz.func267 (lN fu pd.gVars _ z5)) (dI [5,8,11] (hH ([x2,x4,x6]:List aB) bI b7) ?_))))
 refine dEz [12] (fun _ z=>by cases z<;>exact aX.callOwn (pre:=⟨[],[]⟩) (B:= []) (R:=fun k=> .agg [pS x8.gAtom,dV x8.gList k]) (ps:= [_]) (qs:= [bB ([x2,x4,x6]:List aB)]) [] rfl rfl Tryz.func265 (by kernel_rfl) rfl rfl rfl (mD.of trivial trivial (by decide) (by decide)) rfl kP rfl rfl rfl (fun k k'=>(.agg (.cons (.free _ rfl) (.cons Mv.acc WF.nil)))) (l7 fu ([x2,x4,x6]:List aB) _ z7)) ?_;refine dA (fun _ st h=>vAl h b7) (dZ 3 [3,13] (bR eA) (dN ?_))
 iterate 2 refine qS ?_
 refine qR (q1 aE (qN ?_))
 refine aQ.fact (cE 0 2 rfl rfl rfl (aC.trs_len _)) (fun hl12=>?_)
 refine b9 (σ:=(List aB)) (fun i9 v11=>⟨[(1,.ptr 0 0),(2,.ptr 1 0),(3,.ptr 2 0),(4,pN i9)],⟨[some ⟨116,wR pd⟩,some ⟨237,[pS s_,.nil]⟩,some ⟨237,[pS x8.gAtom,dV v11 0]⟩],[⟨237,2,aB.trs (v11),false⟩]⟩⟩) (fun v11=>⟨[(1,.ptr 0 0),(2,.ptr 1 0),(3,.ptr 2 0)],⟨[some ⟨116,wR pd⟩,some ⟨237,[pS s_,.nil]⟩,some ⟨237,[pS x8.gAtom,dV v11 0]⟩],[⟨237,2,aB.trs (v11),false⟩]⟩⟩) (f8 H) ?_ ?_
 ·rintro i9 v11 H
  iterate 2 refine qS ?_
  refine qR (q1 aE (q1 (a6 mB) (q1 (bD yP) (q1 (eB vS (aC.trs_len _)) (q1 gP (qN ?_))))))
  refine dT H (fun h13 h13l H=>?_) (fun h13 H=>?_)
  ·have h13n:=a8 h13
   refine aQ.skip (qS (aQ.block (bN H fun x15 z14 H=>(bN H fun x17 z16 H=>(cX H fun z18 H=>(cX H fun z19 H=>(dW (dI [3] (a6 bH) (dB [21] 0 2 (uI cR) (dI [1] (a6 mB) (dD [23] (bD yP) (dI [4] aE (dI [24,25] (gV h13n vS) ?_)))))))))))))
   refine dI [26] (nK PY) (dI [27] (mC eE) (dI [28] (bG Tryz.func266 (b3 fu ((aW pd.gConstructors i9).gName) _ z14)) (dE [29] (qZ ([x15]:List aB) bI b7) (dI [1] (a6 mB) (dB [31] 0 1 (uI yP) (dI [4] aE (dI [32,33] (gV h13n vS) (dI [34] (nK JZ) (dI [35] (mC kT) (dI [36] (bG Tryz.func268 (K4 fu ((aW pd.gConstructors i9).gFields) _ z16)) (dE [30,37] (kX z18 bI qA) (dI [38] (eU b7 mK) (dI [39] (hH ([(aB.mk s_ (([x15]:List aB)++x17))]:List aB) bI b7) ?_)))))))))))))
   refine dE [22,40] (kX z19 bI qA) (dI [3] (a6 bH) (mN [42,41] (bR yY) (dN (qR (q1 aE (q1 (aX.addI rfl rfl rfl rfl (c:=((i9+1:Nat):Int)) (by omega) (by omega)) (q1 aE (qN ?_))))))))
   exact iK h13l ⟨_,(aZ H:),b0⟩
  refine aQ.exit ?_;exact j0 ⟨_,H,b0⟩
 rintro v11 H
 refine qS (bN H fun x21 z20 H=>(bN H fun x23 z22 H=>(dW (dD [1] (cU [pS pd.gName,rS pd.gVars,e7 pd.gConstructors] s3) (dI [43] (bG Tryz.func257 (vU fu pd _ z20)) (dD [3] (cU [pS x8.gAtom,dV v11 0] bP) (dI [44,45] (bG Tryz.func271 (FA fu x21 (aB.mk x8.gAtom v11) _ z22)) (mN [2,46] (bR eA) (dN (aQ.ret ?_))))))))))
 cases aZ H
 exact bL (hr:=⟨⟨_,_,_,rfl,rfl,bP,rfl,rfl⟩,trivial⟩)
def IT(m:aB→Option (aN×Bool)):Prop:= ∀(px:aB) (r:aN×Bool),m px=some r→b4 Tryz.prog 231 [(aB.pv px)] (.tup [(aN.pv r.1),pB r.2]:PV)
def GE(fu:Nat)(px x2 x4:aB)(x6:List ByteArray)(x8:List aB):Nat→((List aC))→Option (LR ((List aC)) (aN×Bool)):=
 fun i9 v11=>bd (c7 fu (aW x8 i9) 0) (fun x15=>
 bd (t1 fu (aW x8 i9) 1) (fun x17=>
 bd (FB fu x17) (fun x19=>
 gd ((v11).length+(([(aC.mk x15.gAtom x19)]:List aC)).length≤68719476736)
 (some (.next (v11++([(aC.mk x15.gAtom x19)]:List aC)))))))
def GF(fu:Nat)(px x2 x4:aB)(x6:List ByteArray)(x8:List aB):Option ((aN×Bool)⊕((List aC))):=
 loopN (GE fu px x2 x4 x6 x8) (x8.length-0) 0 ([])
def rP(fu:Nat)(px:aB):Option (aN×Bool):=
 bd (c7 fu px 1) (fun x2=>
 bd (c7 fu px 2) (fun x4=>
 bd (lM fu x4) (fun x6=>
 bd (t1 fu px 3) (fun x8=>
 so (GF fu px x2 x4 x6 x8) (fun v11=>
 bd (gQ fu px) (fun x22=>
 sw (!(x22))
 (some ((aN.mk s_ [] []),false))
 (sw (decide ((px.gList.length:Int)=0))
 (some ((aN.mk s_ [] []),false))
 (bd (rM fu (aN.mk x2.gAtom x6 v11)) (fun x26=>
 bd (fE fu x26 px) (fun x28=>
 sw (!(x28))
 (some ((aN.mk s_ [] []),false))
 (some ((aN.mk x2.gAtom x6 v11),true))))))))))))
theorem GG(fu:Nat):IT (rP fu):=by
 intro px r H
 have H:=eF H
 refine qI Tryz.func231 (fun C hC=>?_)
 refine qS (qR (q1 (jP ([pS px.gAtom,bB px.gList])) (q1 (gM CO) (q1 aE (qN (qS (bN H fun x2 z1 H=>(bN H fun x4 z3 H=>(bN H fun x6 z5 H=>(dW (dB [1] 0 1 (TG [pS px.gAtom,bB px.gList] bP) (dI [7] (bG Tryz.func219 (cT fu px 1 _ z1)) (dI [8] (rF1 sL) ?_)))))))))))))
 refine dB [1] 0 1 (TG [pS px.gAtom,bB px.gList] bP) (dI [10] (bG Tryz.func219 (cT fu px 2 _ z3)) (dI [11] (bG Tryz.func243 (nG fu x4 _ z5)) (dI [9,12] (eU CO aaU) (dE [] (gM CO) (mN [4,13] (bR CN) (dN (qS (qR (q1 (cU [pS px.gAtom,bB px.gList] bP) (bN H fun x8 z7 H=>(q1 (bG Tryz.func244 (yR fu px 3 _ z7)) (q1 aE (qN ?_)))))))))))))
 iterate 2 refine qS ?_
 refine qR (q1 aE (qN (aQ.wk (Wk.regBox (k:=2) (j:=2) 195 2 (by decide) rfl rfl) ?_)))
 refine j8 5 (aB.trs_len _) (fun hl12=>?_)
 refine b9 (σ:=(List aC)) (fun i9 v11=>⟨[(1,.ptr 0 0),(2,.ptr 1 0),(3,pB false),(4,.ptr 2 0),(5,bB x8),(6,pN i9)],⟨[some ⟨237,[pS px.gAtom,bB px.gList]⟩,some ⟨116,[pS s_,.nil,.nil]⟩,some ⟨116,[pS x2.gAtom,rS x6,vZ v11 0]⟩],[⟨195,2,aC.trs (v11),false⟩]⟩⟩) (fun v11=>⟨[(1,.ptr 0 0),(2,.ptr 1 0),(3,pB false),(4,.ptr 2 0)],⟨[some ⟨237,[pS px.gAtom,bB px.gList]⟩,some ⟨116,[pS s_,.nil,.nil]⟩,some ⟨116,[pS x2.gAtom,rS x6,vZ v11 0]⟩],[⟨195,2,aC.trs (v11),false⟩]⟩⟩) (f8 H) ?_ ?_
 ·rintro i9 v11 H
  iterate 2 refine qS ?_
  refine qR ?_
  iterate 2 refine q1 aE ?_
  refine q1 (eB bI (aB.trs_len _)) (q1 gP (qN ?_))
  refine dT H (fun h13 h13l H=>?_) (fun h13 H=>?_)
  ·have h13n:=a8 h13
   refine aQ.skip (qS (aQ.block (bN H fun x15 z14 H=>(bN H fun x17 z16 H=>(bN H fun x19 z18 H=>(cX H fun z20 H=>(dW (dI [4] (a6 mB) (dD [22] (bD yP) (dI [5] aE (dI [6] aE (dI [24,25] (gV h13n bI) (dI [26] (jW (aB.cs (aW x8 i9)) bP) ?_)))))))))))))
   refine dI [27] (bG Tryz.func219 (cT fu (aW x8 i9) 0 _ z14)) (dI [28] (rF1 sL) (dI [5] aE (dI [6] aE (dI [30,31] (gV h13n bI) (dI [32] (jW (aB.cs (aW x8 i9)) bP) (dI [33] (bG Tryz.func244 (yR fu (aW x8 i9) 1 _ z16)) (dI [34] (bG Tryz.func245 (SN fu x17 _ z18)) (dI [29,35] (eU adJ akT) (dI [36] (hH ([(aC.mk x15.gAtom x19)]:List aC) vS adJ) (dE [23,37] (kX z20 vS apB) (dI [4] (a6 mB) (mN [39,38] (bR am7) (dN ?_)))))))))))))
   refine qR (q1 aE (q1 (aX.addI rfl rfl rfl rfl (c:=((i9+1:Nat):Int)) (by omega) (by omega)) (q1 aE (qN ?_))))
   exact iK h13l ⟨_,(aZ H:),b0⟩
  refine aQ.exit ?_;exact j0 ⟨_,H,b0⟩
 rintro v11 H
 iterate 2 refine qS ?_
 refine bN H fun x22 z21 H=>?_
 rcases lC (!(x22)) with g23|g23
 ·have H:=oE H g23
  refine dW (dD [1] (cU [pS px.gAtom,bB px.gList] bP) (dI [40] (bG Tryz.func217 (cZ fu px _ z21)) (dI [41] gW (dI [42] aE ?_))))
  iterate 4 refine CQ g23 ?_
  refine dI [43] (bS g23) (dI [48] aE ?_)
  iterate 5 refine CQ rfl ?_
  refine dI [49] (bS rfl) (dN (dM rfl (qS (qR (q1 (eU CO aaU) (q1 (bR CN) (q1 aE (qN (aQ.ret ?_)))))))))
  cases aZ H
  exact jM (hr:=⟨⟨_,_,_,rfl,rfl,s3,rfl,rfl⟩,rfl,trivial⟩)
 have H:=oA H g23
 rcases lC (decide ((px.gList.length:Int)=0)) with g24|g24
 ·have H:=oE H g24
  refine dW (dD [1] (cU [pS px.gAtom,bB px.gList] bP) (dI [40] (bG Tryz.func217 (cZ fu px _ z21)) (dI [41] gW (dI [42] aE (dI (hg:=a5 g23) [1] (a6 bH) (dD (hg:=a5 g23) [44] (bD cR) (dI (hg:=a5 g23) [45] (eB bI (aB.trs_len _)) (dI (hg:=a5 g23) [46] eG (dI [43,47] (b6 g23) (dI [48] aE ?_))))))))))
  iterate 5 refine CQ g24 ?_
  refine dI [49] (bS g24) (dN (dM rfl (qS (qR (q1 (eU CO aaU) (q1 (bR CN) (q1 aE (qN (aQ.ret ?_)))))))))
  cases aZ H
  exact jM (hr:=⟨⟨_,_,_,rfl,rfl,s3,rfl,rfl⟩,rfl,trivial⟩)
 have H:=oA H g24
 refine bN H fun x26 z25 H=>(bN H fun x28 z27 H=>(dW (dD [1] (cU [pS px.gAtom,bB px.gList] bP) (dI [40] (bG Tryz.func217 (cZ fu px _ z21)) (dI [41] gW (dI [42] aE (dI (hg:=a5 g23) [1] (a6 bH) (dD (hg:=a5 g23) [44] (bD cR) (dI (hg:=a5 g23) [45] (eB bI (aB.trs_len _)) (dI (hg:=a5 g23) [46] eG (dI [43,47] (b6 g23) (dI [48] aE (dD (hg:=a5 g24) [4] (cU [pS x2.gAtom,rS x6,vZ v11 0] s3) ?_)))))))))))))
 refine dI (hg:=a5 g24) [50] (bG Tryz.func250 (FT fu (aN.mk x2.gAtom x6 v11) _ z25)) (dD (hg:=a5 g24) [1] (cU [pS px.gAtom,bB px.gList] bP) (dI (hg:=a5 g24) [51,52] (bG Tryz.func248 (sV fu x26 px _ z27)) (dI (hg:=a5 g24) [53] gW (dI [49,54] (b6 g24) (dN ?_)))))
 refine bA H (fun h29 H=>?_) (fun h29 H=>?_)
 ·refine qS (qR (q1 (eU CO aaU) (q1 (bR CN) (q1 aE (qN (aQ.ret ?_))))))
  cases aZ H
  exact jM (hr:=⟨⟨_,_,_,rfl,rfl,s3,rfl,rfl⟩,rfl,trivial⟩)
 refine aQ.skip (qS (qR (q1 (cU [pS x2.gAtom,rS x6,vZ v11 0] s3) (q1 (bR CN) (q1 aE (qN (aQ.ret ?_)))))))
 cases aZ H
 exact jM (hr:=⟨⟨_,_,_,rfl,rfl,s3,rfl,rfl⟩,rfl,trivial⟩)
def X9(m:aB→Option ((List aF))):Prop:= ∀(px:aB) (r:(List aF)),m px=some r→b4 Tryz.prog 251 [(aB.pv px)] (cG r:PV)
def UV(fu:Nat)(px:aB):Nat→((List aF))→Option (LR ((List aF)) ((List aF))):=
 fun i1 v3=>bd (c7 fu (aW px.gList i1) 0) (fun x7=>
 bd (c7 fu (aW px.gList i1) 1) (fun x9=>
 bd (lR fu x9) (fun x11=>
 gd ((v3).length+(([(aF.mk x7.gAtom x11)]:List aF)).length≤68719476736)
 (some (.next (v3++([(aF.mk x7.gAtom x11)]:List aF)))))))
def UW(fu:Nat)(px:aB):Option (((List aF))⊕((List aF))):=
 loopN (UV fu px) (px.gList.length-0) 0 ([])
def wM(fu:Nat)(px:aB):Option ((List aF)):=
 so (UW fu px) (fun v3=>
 some v3)
theorem G1(fu:Nat):X9 (wM fu):=by
 intro px r H
 have H:=eF H
 refine qI Tryz.func251 (fun C hC=>?_)
 refine qS (qR (q1 (jP ([pS px.gAtom,bB px.gList])) (q1 aE (qN (qS (qR (q1 (qZ ([]:List aF) mR xW) (q1 aE (qN ?_)))))))))
 iterate 2 refine qS ?_
 refine qR (q1 aE (qN ?_))
 refine aQ.fact (cE 0 1 rfl rfl rfl (aB.trs_len _)) (fun hl4=>?_)
 refine b9 (σ:=(List aF)) (fun i1 v3=>⟨[(1,.ptr 0 0),(2,.nil),(3,LQ v3 0),(4,pN i1)],⟨[some ⟨237,[pS px.gAtom,bB px.gList]⟩],[⟨37,4,aF.trs (v3),false⟩]⟩⟩) (fun v3=>⟨[(2,.nil),(3,LQ v3 0)],⟨[some ⟨237,[pS px.gAtom,bB px.gList]⟩],[⟨37,4,aF.trs (v3),false⟩]⟩⟩) (f8 H) ?_ ?_
 ·rintro i1 v3 H
  iterate 2 refine qS ?_
  refine qR (q1 aE (q1 (a6 bH) (q1 (bD cR) (q1 (eB bI (aB.trs_len _)) (q1 gP (qN ?_))))))
  refine dT H (fun h5 h5l H=>?_) (fun h5 H=>?_)
  ·have h5n:=a8 h5
   refine aQ.skip (qS (aQ.block (bN H fun x7 z6 H=>(bN H fun x9 z8 H=>(bN H fun x11 z10 H=>(cX H fun z12 H=>(dW (dI [3] aE (dI [1] (a6 bH) (dD [14] (bD cR) (dI [4] aE (dI [15,16] (gV h5n bI) (dI [17] (jW (aB.cs (aW px.gList i1)) bP) ?_)))))))))))))
   refine dI [18] (bG Tryz.func219 (cT fu (aW px.gList i1) 0 _ z6)) (dI [19] (rF1 sL) (dI [1] (a6 bH) (dD [21] (bD cR) (dI [4] aE (dI [22,23] (gV h5n bI) (dI [24] (jW (aB.cs (aW px.gList i1)) bP) (dI [25] (bG Tryz.func219 (cT fu (aW px.gList i1) 1 _ z8)) (dI [26] (bG Tryz.func246 (u3 fu x9 _ z10)) (dI [20,27] (eU xW OV) (dI [28] (hH ([(aF.mk x7.gAtom x11)]:List aF) mR xW) (dE [13,29] (kX z12 mR amV) (dI [30] aE (dN ?_)))))))))))))
   refine qR (q1 aE (q1 (aX.addI rfl rfl rfl rfl (c:=((i1+1:Nat):Int)) (by omega) (by omega)) (q1 aE (qN ?_))))
   exact iK h5l ⟨_,(aZ H:),b0⟩
  refine aQ.exit ?_;exact j0 ⟨_,H,b0⟩
 rintro v3 H
 refine qS (qR ?_)
 iterate 2 refine q1 aE ?_
 refine qN (aQ.ret ?_)
 cases aZ H
 exact bL
def acQ(m:(List aF)→Option aB):Prop:= ∀(plist:List aF) (r:aB),m plist=some r→b4 Tryz.prog 272 [cG plist] ((aB.pv r):PV)
def YC(fu:Nat)(plist:List aF):Nat→((List aB))→Option (LR ((List aB)) aB):=
 fun i1 v3=>bd (cC fu ((aW plist i1).gTrait)) (fun x7=>
 bd (lQ fu ((aW plist i1).gType)) (fun x9=>
 bd (lB fu ([x7,x9]:List aB)) (fun x11=>
 gd ((v3).length+(([x11]:List aB)).length≤68719476736)
 (some (.next (v3++([x11]:List aB)))))))
def YD(fu:Nat)(plist:List aF):Option (aB⊕((List aB))):=
 loopN (YC fu plist) (plist.length-0) 0 ([])
def yU(fu:Nat)(plist:List aF):Option aB:=
 so (YD fu plist) (fun v3=>
 some (aB.mk s_ v3))
theorem K5(fu:Nat):acQ (yU fu):=by
 intro plist r H
 have H:=eF H
 refine qI Tryz.func272 (fun C hC=>?_)
 refine qS (qR (q1 (gM b7) (qN (qS (qR (q1 (eU b7 mK) (q1 (gM b7) (q1 (bR eA) (qN ?_)))))))))
 iterate 2 refine qS ?_
 refine qR (q1 aE (qN (aQ.wk (Wk.regBox (k:=1) (j:=1) 237 2 (by decide) rfl rfl) ?_)))
 refine j8 0 (aF.trs_len _) (fun hl4=>?_)
 refine b9 (σ:=(List aB)) (fun i1 v3=>⟨[(0,cG plist),(2,.ptr 0 0),(3,.ptr 1 0),(4,pN i1)],⟨[some ⟨237,[pS s_,.nil]⟩,some ⟨237,[pS s_,dV v3 0]⟩],[⟨237,2,aB.trs (v3),false⟩]⟩⟩) (fun v3=>⟨[(2,.ptr 0 0),(3,.ptr 1 0)],⟨[some ⟨237,[pS s_,.nil]⟩,some ⟨237,[pS s_,dV v3 0]⟩],[⟨237,2,aB.trs (v3),false⟩]⟩⟩) (f8 H) ?_ ?_
 ·rintro i1 v3 H
  iterate 2 refine qS ?_
  refine qR ?_
  iterate 2 refine q1 aE ?_
  refine q1 (eB mR (aF.trs_len _)) (q1 gP (qN ?_))
  refine dT H (fun h5 h5l H=>?_) (fun h5 H=>?_)
  ·have h5n:=a8 h5
   refine aQ.skip (qS (aQ.block (bN H fun x7 z6 H=>(bN H fun x9 z8 H=>(bN H fun x11 z10 H=>(cX H fun z12 H=>(dW (dI [3] (a6 bH) (dD [12] (bD cR) (dI [0] aE (dI [4] aE (dI [14,15] (gV h5n mR) (dI [16] (nK u6) ?_)))))))))))))
   refine dI [17] (mC eE) (dI [18] (bG Tryz.func266 (b3 fu ((aW plist i1).gTrait) _ z6)) (dI [0] aE (dI [4] aE (dI [20,21] (gV h5n mR) (dI [22] (nK rA) (dI [23] (jW (aA.cs ((aW plist i1).gType)) bZ) (dI [24] (bG Tryz.func269 (u2 fu ((aW plist i1).gType) _ z8)) (dI [19,25] (hH ([x7,x9]:List aB) bI b7) (dI [26] (bG Tryz.func265 (B4 (l7 fu) ([x7,x9]:List aB) _ z10)) (dI [27] (hH ([x11]:List aB) bI b7) (dE [13,28] (kX z12 bI qA) (dI [3] (a6 bH) (mN [30,29] (bR yY) ?_)))))))))))))
   refine dN (qR (q1 aE (q1 (aX.addI rfl rfl rfl rfl (c:=((i1+1:Nat):Int)) (by omega) (by omega)) (q1 aE (qN ?_)))))
   exact iK h5l ⟨_,(aZ H:),b0⟩
  refine aQ.exit ?_;exact j0 ⟨_,H,b0⟩
 rintro v3 H
 refine qS (qR (q1 (cU [pS s_,dV v3 0] bP) (q1 (bR eA) (qN (aQ.ret ?_)))))
 cases aZ H
 exact bL (hr:=⟨⟨_,_,_,rfl,rfl,bP,rfl,rfl⟩,trivial⟩)
def IN(m:aH→Option aB):Prop:= ∀(pa0:aH) (r:aB),m pa0=some r→b4 Tryz.prog 252 [(aH.pv pa0)] ((aB.pv r):PV)
def F0(fu:Nat)(pa0:aH)(x2:Bool):Option (aB⊕((List ByteArray))):=
 sw (pa0.gDefault)
 (gd (([]:List ByteArray).length+(([tV]:List ByteArray)).length≤68719476736)
 (some (.inr (([])++([tV]:List ByteArray)))))
 (some (.inr ([])))
def F1(fu:Nat)(pa0:aH)(x2:Bool)(v5:List ByteArray):Option (aB⊕(ByteArray×(List aB))):=
 sw (pa0.gHasAssoc)
 (bd (lQ fu pa0.gAssoc) (fun x12=>
 bd (lB fu ([x12]:List aB)) (fun x14=>
 some (.inr (x14.gAtom,x14.gList)))))
 (some (.inr (s_,([]))))
def F2(fu:Nat)(pa0:aH)(x2:Bool)(v5:List ByteArray)(v8:ByteArray)(v9:List aB)(x16 x18 x20 x22 x24 x26 x28:aB):Nat→((List aB))→Option (LR ((List aB)) aB):=
 fun i29 v31=>lt (aW pa0.gMethods i29) (fun y34=>
 bd (cC fu y34.gName) (fun x37=>
 bd (kD fu y34.gVars) (fun x39=>
 bd (lL fu y34.gBody) (fun x41=>
 bd (lB fu ([x37,x39,x41]:List aB)) (fun x43=>
 gd ((v31).length+(([(aB.mk x43.gAtom x43.gList)]:List aB)).length≤68719476736)
 (some (.next (v31++([(aB.mk x43.gAtom x43.gList)]:List aB)))))))))
def F3(fu:Nat)(pa0:aH)(x2:Bool)(v5:List ByteArray)(v8:ByteArray)(v9:List aB)(x16 x18 x20 x22 x24 x26 x28:aB):Option (aB⊕((List aB))):=
 loopN (F2 fu pa0 x2 v5 v8 v9 x16 x18 x20 x22 x24 x26 x28) (pa0.gMethods.length-0) 0 x28.gList
def rO(fu:Nat)(pa0:aH):Option aB:=
 bd (m9 fu pa0) (fun x2=>
 sw (!(x2))
 (some (aB.mk s_ []))
 (so (F0 fu pa0 x2) (fun v5=>
 so (F1 fu pa0 x2 v5) (fun(v8,v9)=>
 bd (cC fu M8) (fun x16=>
 bd (cC fu pa0.gTrait) (fun x18=>
 bd (kD fu pa0.gVars) (fun x20=>
 bd (lQ fu pa0.gHead) (fun x22=>
 bd (yU fu pa0.gWhere) (fun x24=>
 bd (kD fu v5) (fun x26=>
 bd (lB fu ([x16,x18,x20,x22,x24,x26,(aB.mk v8 v9)]:List aB)) (fun x28=>
 so (F3 fu pa0 x2 v5 v8 v9 x16 x18 x20 x22 x24 x26 x28) (fun v31=>
 bd (AR fu true (aB.mk x28.gAtom v31)) (fun x46=>
 some x46)))))))))))))
theorem F4(fu:Nat):IN (rO fu):=by
 intro pa0 r H
 have H:=eF H
 refine qI Tryz.func252 (fun C hC=>?_)
 refine qS (qR (q1 (jP (jO pa0)) (q1 (gM b7) (qN ?_))))
 iterate 2 refine qS ?_
 refine qR (q1 (cU [pS pa0.gTrait,rS pa0.gVars,pI pa0.gHead.gKind,pS pa0.gHead.gName,a3 pa0.gHead.gArgs,cG pa0.gWhere,pB pa0.gDefault,pB pa0.gHasAssoc,pI pa0.gAssoc.gKind,pS pa0.gAssoc.gName,a3 pa0.gAssoc.gArgs,kR pa0.gMethods] n9) (bN H fun x2 z1 H=>(q1 (bG Tryz.func258 (vW fu pa0 _ z1)) (q1 gW (qN ?_)))))
 refine bA H (fun h3 H=>?_) (fun h3 H=>?_)
 ·refine qS (qR (q1 (eU b7 mK) (q1 (bR eA) (qN (aQ.ret ?_)))))
  cases aZ H
  exact bL (hr:=⟨⟨_,_,_,rfl,rfl,bP,rfl,rfl⟩,trivial⟩)
 refine aQ.skip (qS (qR (q1 (qZ ([]:List ByteArray) bU kG) (q1 aE (qN (qS ?_))))))
 refine qD (σ:=(List ByteArray)) (fun v5=>⟨[(1,.ptr 0 0),(2,.ptr 1 0),(3,aS v5 0)],⟨[some ⟨55,jO pa0⟩,some ⟨237,[pS s_,.nil]⟩],[⟨9,1,a4 (v5),false⟩]⟩⟩) (f8 H) (fun H=>?_) ?_
 ·refine qS (qR (q1 (a6 akB) (q1 (bD sh4) (qN ?_))))
  refine bA H (fun h6 H=>?_) (fun h6 H=>?_)
  ·refine qR (q1 aE (q1 (hH ([tV]:List ByteArray) bU kG) (cX H fun z7 H=>(q1 (kX z7 bU qH) (q1 aE (qN ?_))))))
   exact dO ⟨_,(aZ H:),b0⟩
  refine aQ.skip ?_;exact dO ⟨_,(aZ H:),b0⟩
 rintro v5 H
 refine qS (qR (q1 (eU b7 mK) (q1 (gM b7) (q1 (bR eA) (qN (qS (aQ.wk (Wk.regBox (k:=2) (j:=1) 237 2 (by decide) rfl rfl) ?_)))))))
 refine qD (σ:=ByteArray×(List aB)) (fun(v8,v9)=>⟨[(1,.ptr 0 0),(2,.ptr 1 0),(3,aS v5 0),(4,.ptr 2 0)],⟨[some ⟨55,jO pa0⟩,some ⟨237,[pS s_,.nil]⟩,some ⟨237,[pS v8,bB v9]⟩],[⟨9,1,a4 (v5),false⟩,⟨237,2,aB.trs ([]),false⟩]⟩⟩) (f8 H) (fun H=>?_) ?_
 ·refine qS (qR (q1 (a6 zA) (q1 (bD sh4) (qN ?_))))
  refine bA H (fun h10 H=>?_) (fun h10 H=>?_)
  ·refine qR (q1 (a6 w8) (q1 (cU [pI pa0.gAssoc.gKind,pS pa0.gAssoc.gName,a3 pa0.gAssoc.gArgs] bZ) (bN H fun x12 z11 H=>(q1 (bG Tryz.func269 (u2 fu pa0.gAssoc _ z11)) (q1 (hH ([x12]:List aB) bI b7) (bN H fun x14 z13 H=>(q1 (aX.callOwn (pre:=⟨[],[]⟩) (B:= []) (R:=fun k=> .agg [pS x14.gAtom,dV x14.gList k]) (ps:= [_]) (qs:= [bB ([x12]:List aB)]) [] rfl rfl Tryz.func265 (by kernel_rfl) rfl rfl rfl (mD.of trivial trivial (by decide) (by decide)) rfl kP rfl rfl rfl (fun k k'=>(.agg (.cons (.free _ rfl) (.cons Mv.acc WF.nil)))) (l7 fu ([x12]:List aB) _ z13)) (q1 (bR eA) (qN ?_)))))))))
   exact dO ⟨_,(aZ H:),b0⟩
  refine aQ.skip ?_;exact dO ⟨_,(aZ H:),b0⟩
 rintro⟨v8,v9⟩ H
 refine qS (bN H fun x16 z15 H=>(bN H fun x18 z17 H=>(bN H fun x20 z19 H=>(bN H fun x22 z21 H=>(bN H fun x24 z23 H=>(bN H fun x26 z25 H=>(bN H fun x28 z27 H=>(dWa (dI [] (bG Tryz.func266 (b3 fu M8 _ z15)) (dI [1] (a6 aeA) (dBz [27] 0 0 (uI eE) (dI [28] (bG Tryz.func266 (b3 fu pa0.gTrait _ z17)) (dI [1] (a6 rB) ?_)))))))))))))
 refine dBz [30] 0 0 (uI jC) (dI [31] (bG Tryz.func267 (lN fu pa0.gVars _ z19)) (dI [1] (a6 rC) (dBz [33] 0 0 (TG [pI pa0.gHead.gKind,pS pa0.gHead.gName,a3 pa0.gHead.gArgs] bZ) (dI [34] (bG Tryz.func269 (u2 fu pa0.gHead _ z21)) (dI [1] (a6 DB) (dBz [36] 0 0 (uI aeT) (dI [37] (bG Tryz.func272 (K5 fu pa0.gWhere _ z23)) (dI [3] aE (dI [39] (bG Tryz.func267 (lN fu v5 _ z25)) (dBz [4] 0 0 (TG [pS v8,bB v9] bP) (dI [26,29,32,35,38,40,41] (hH ([x16,x18,x20,x22,x24,x26,(aB.mk v8 v9)]:List aB) bI b7) ?_)))))))))))
 refine dEz [42] (fun _ z=>by cases z<;>exact aX.callOwn (pre:=⟨[],[]⟩) (B:= []) (R:=fun k=> .agg [pS x28.gAtom,dV x28.gList k]) (ps:= [_]) (qs:= [bB ([x16,x18,x20,x22,x24,x26,(aB.mk v8 v9)]:List aB)]) [] rfl rfl Tryz.func265 (by kernel_rfl) rfl rfl rfl (mD.of trivial trivial (by decide) (by decide)) rfl kP rfl rfl rfl (fun k k'=>(.agg (.cons (.free _ rfl) (.cons Mv.acc WF.nil)))) (l7 fu ([x16,x18,x20,x22,x24,x26,(aB.mk v8 v9)]:List aB) _ z27)) ?_;refine dA (fun _ st h=>vAl h b7) (dZ 5 [5,43] (bR eA) (dN ?_))
 iterate 2 refine qS ?_
 refine qR (q1 aE (qN ?_))
 refine aQ.fact (cE 0 11 rfl rfl rfl (aP.trs_len _)) (fun hl32=>?_)
 refine b9 (σ:=(List aB)) (fun i29 v31=>⟨[(1,.ptr 0 0),(2,.ptr 1 0),(5,.ptr 3 0),(6,pN i29)],⟨[some ⟨55,jO pa0⟩,some ⟨237,[pS s_,.nil]⟩,some ⟨237,[pS v8,bB v9]⟩,some ⟨237,[pS x28.gAtom,dV v31 2]⟩],[⟨9,1,a4 (v5),false⟩,⟨237,2,aB.trs ([]),false⟩,⟨237,2,aB.trs (v31),false⟩]⟩⟩) (fun v31=>⟨[(2,.ptr 1 0),(5,.ptr 3 0)],⟨[some ⟨55,jO pa0⟩,some ⟨237,[pS s_,.nil]⟩,some ⟨237,[pS v8,bB v9]⟩,some ⟨237,[pS x28.gAtom,dV v31 2]⟩],[⟨9,1,a4 (v5),false⟩,⟨237,2,aB.trs ([]),false⟩,⟨237,2,aB.trs (v31),false⟩]⟩⟩) (f8 H) ?_ ?_
 ·rintro i29 v31 H
  iterate 2 refine qS ?_
  refine qR (q1 aE (q1 (a6 w9) (q1 (bD XO) (q1 (eB JT (aP.trs_len _)) (q1 gP (qN ?_))))))
  refine dT H (fun h33 h33l H=>?_) (fun h33 H=>?_)
  ·have h33n:=a8 h33
   refine aQ.skip (qS (aQ.block (qS (qR (q1 (a6 w9) (q1 (bD XO) (q1 aE (gL H fun y34 h35 H=>(q1 (vT h35 h33n JT) (q1 (jW (aP.cs y34) ak1) (q1 (gM G5) (q1 (bR alP) (qN ?_)))))))))))))
   refine bN H fun x37 z36 H=>(bN H fun x39 z38 H=>(bN H fun x41 z40 H=>(bN H fun x43 z42 H=>(cX H fun z44 H=>(dW (dI [5] (a6 bH) (dB [56] 0 1 (uI cR) (dI [7] (a6 WT) (dD [58] (bD eE) (dI [59] (bG Tryz.func266 (b3 fu y34.gName _ z36)) (dI [7] (a6 ER) (dD [61] (bD jC) (dI [62] (bG Tryz.func267 (lN fu y34.gVars _ z38)) ?_)))))))))))))
   refine dI [7] (a6 PT) (dD [64] (cU [pI y34.gBody.gKind,pS y34.gBody.gTrait,pS y34.gBody.gName,pI y34.gBody.gN,pI y34.gBody.gType.gKind,pS y34.gBody.gType.gName,a3 y34.gBody.gType.gArgs,f9 y34.gBody.gArgs,m3 y34.gBody.gArms] gY) (dI [65] (bG Tryz.func270 (NB fu y34.gBody _ z40)) (dI [60,63,66] (hH ([x37,x39,x41]:List aB) bI b7) (dE [67] (aX.callOwn (pre:=⟨[],[]⟩) (B:= []) (R:=fun k=> .agg [pS x43.gAtom,dV x43.gList k]) (ps:= [_]) (qs:= [bB ([x37,x39,x41]:List aB)]) [] rfl rfl Tryz.func265 (by kernel_rfl) rfl rfl rfl (mD.of trivial trivial (by decide) (by decide)) rfl kP rfl rfl rfl (fun k k'=>(.agg (.cons (.free _ rfl) (.cons Mv.acc WF.nil)))) (l7 fu ([x37,x39,x41]:List aB) _ z42)) (dI [68] (hH ([(aB.mk x43.gAtom x43.gList)]:List aB) bI b7) (dE [57,69] (kX z44 bI qA) (dI [5] (a6 bH) (mN [71,70] (bR yY) (dN (qR (q1 aE (q1 (aX.addI rfl rfl rfl rfl (c:=((i29+1:Nat):Int)) (by omega) (by omega)) (q1 aE ?_)))))))))))))
   refine qN ?_;exact iK h33l ⟨_,(aZ H:),b0⟩
  refine aQ.exit ?_;exact j0 ⟨_,H,b0⟩
 rintro v31 H
 refine qS (qR (q1 (cU [pS x28.gAtom,dV v31 2] bP) (bN H fun x46 z45 H=>(q1 (bG Tryz.func271 (FA fu true (aB.mk x28.gAtom v31) _ z45)) (q1 (bR eA) (qN (aQ.ret ?_)))))))
 cases aZ H
 exact bL (hr:=⟨⟨_,_,_,rfl,rfl,bP,rfl,rfl⟩,trivial⟩)
def IV(m:aB→Option (aH×Bool)):Prop:= ∀(pa0:aB) (r:aH×Bool),m pa0=some r→b4 Tryz.prog 232 [(aB.pv pa0)] (.tup [(aH.pv r.1),pB r.2]:PV)
def GK(fu:Nat)(pa0 x2 x4:aB)(x6:List ByteArray)(x8:aB)(x10:aA)(x12:aB)(x14:List aF)(x16 x18:aB):Option ((aH×Bool)⊕((List aA)×Bool×Int×ByteArray)):=
 sw (decide ((x18.gList.length:Int)>0))
 (gd (0<(x18.gList).length)
 (bd (lR fu (aW x18.gList 0)) (fun x26=>
 some (.inr (x26.gArgs,true,x26.gKind,x26.gName)))))
 (some (.inr ([],false,0,s_)))
def GL(fu:Nat)(pa0 x2 x4:aB)(x6:List ByteArray)(x8:aB)(x10:aA)(x12:aB)(x14:List aF)(x16 x18:aB)(v22:List aA)(v19:Bool)(v20:Int)(v21:ByteArray)(x28:List aB):Nat→((List aP))→Option (LR ((List aP)) (aH×Bool)):=
 fun i29 v31=>bd (c7 fu (aW x28 i29) 0) (fun x35=>
 bd (c7 fu (aW x28 i29) 1) (fun x37=>
 bd (lM fu x37) (fun x39=>
 bd (c7 fu (aW x28 i29) 2) (fun x41=>
 bd (gF fu x41) (fun x43=>
 gd ((v31).length+(([(aP.mk x35.gAtom x39 x43)]:List aP)).length≤68719476736)
 (some (.next (v31++([(aP.mk x35.gAtom x39 x43)]:List aP)))))))))
def GM(fu:Nat)(pa0 x2 x4:aB)(x6:List ByteArray)(x8:aB)(x10:aA)(x12:aB)(x14:List aF)(x16 x18:aB)(v22:List aA)(v19:Bool)(v20:Int)(v21:ByteArray)(x28:List aB):Option ((aH×Bool)⊕((List aP))):=
 loopN (GL fu pa0 x2 x4 x6 x8 x10 x12 x14 x16 x18 v22 v19 v20 v21 x28) (x28.length-0) 0 ([])
def rR(fu:Nat)(pa0:aB):Option (aH×Bool):=
 bd (c7 fu pa0 1) (fun x2=>
 bd (c7 fu pa0 2) (fun x4=>
 bd (lM fu x4) (fun x6=>
 bd (c7 fu pa0 3) (fun x8=>
 bd (lR fu x8) (fun x10=>
 bd (c7 fu pa0 4) (fun x12=>
 bd (wM fu x12) (fun x14=>
 bd (c7 fu pa0 5) (fun x16=>
 bd (c7 fu pa0 6) (fun x18=>
 so (GK fu pa0 x2 x4 x6 x8 x10 x12 x14 x16 x18) (fun(v22,v19,v20,v21)=>
 bd (t1 fu pa0 7) (fun x28=>
 so (GM fu pa0 x2 x4 x6 x8 x10 x12 x14 x16 x18 v22 v19 v20 v21 x28) (fun v31=>
 bd (gQ fu pa0) (fun x46=>
 sw (!(x46))
 (some ((aH.mk s_ [] (aA.mk 0 s_ []) [] false false (aA.mk 0 s_ []) []),false))
 (sw (decide ((pa0.gList.length:Int)=0))
 (some ((aH.mk s_ [] (aA.mk 0 s_ []) [] false false (aA.mk 0 s_ []) []),false))
 (bd (rO fu (aH.mk x2.gAtom x6 x10 x14 (decide ((x16.gList.length:Int)>0)) v19 (aA.mk v20 v21 v22) v31)) (fun x50=>
 bd (fE fu x50 pa0) (fun x52=>
 sw (!(x52))
 (some ((aH.mk s_ [] (aA.mk 0 s_ []) [] false false (aA.mk 0 s_ []) []),false))
 (some ((aH.mk x2.gAtom x6 x10 x14 (decide ((x16.gList.length:Int)>0)) v19 (aA.mk v20 v21 v22) v31),true)))))))))))))))))))
theorem GN(fu:Nat):IV (rR fu):=by
 intro pa0 r H
 have H:=eF H
 refine qI Tryz.func232 (fun C hC=>?_)
 refine qS (qR (q1 (jP ([pS pa0.gAtom,bB pa0.gList])) (q1 (gM u4) (q1 aE (qN (qS (bN H fun x2 z1 H=>(bN H fun x4 z3 H=>(bN H fun x6 z5 H=>(bN H fun x8 z7 H=>(bN H fun x10 z9 H=>(bN H fun x12 z11 H=>(bN H fun x14 z13 H=>?_)))))))))))))
 refine bN H fun x16 z15 H=>(dW (dB [1] 0 1 (TG [pS pa0.gAtom,bB pa0.gList] bP) (dI [8] (bG Tryz.func219 (cT fu pa0 1 _ z1)) (dI [9] (rF1 sL) (dB [1] 0 1 (TG [pS pa0.gAtom,bB pa0.gList] bP) (dI [11] (bG Tryz.func219 (cT fu pa0 2 _ z3)) (dI [12] (bG Tryz.func243 (nG fu x4 _ z5)) (dB [1] 0 1 (TG [pS pa0.gAtom,bB pa0.gList] bP) (dI [14] (bG Tryz.func219 (cT fu pa0 3 _ z7)) (dI [15] (bG Tryz.func246 (u3 fu x8 _ z9)) (dB [1] 0 1 (TG [pS pa0.gAtom,bB pa0.gList] bP) (dI [17] (bG Tryz.func219 (cT fu pa0 4 _ z11)) (dI [18] (bG Tryz.func251 (G1 fu x12 _ z13)) ?_)))))))))))))
 refine dB [1] 0 1 (TG [pS pa0.gAtom,bB pa0.gList] bP) (dI [20] (bG Tryz.func219 (cT fu pa0 5 _ z15)) (dI [21] (rF1 WW) (dI [22] (eB bI (aB.trs_len _)) (dI [23] KN (dI [10,13,16,19,24] (eU u4 RI) (dE [] (gM u4) (mN [4,25] (bR s8) (dN (qS (qR (q1 (cU [pS pa0.gAtom,bB pa0.gList] bP) (bN H fun x18 z17 H=>(q1 (bG Tryz.func219 (cT fu pa0 6 _ z17)) ?_)))))))))))))
 refine q1 (gM b7) (q1 (bR eA) (qN (qS ?_)))
 refine qD (σ:=(List aA)×Bool×Int×ByteArray) (fun(v22,v19,v20,v21)=>⟨[(1,.ptr 0 0),(2,.ptr 1 0),(3,pB false),(4,.ptr 2 0)],⟨[some ⟨237,[pS pa0.gAtom,bB pa0.gList]⟩,some ⟨55,[pS s_,.nil,pI 0,pS s_,.nil,.nil,pB false,pB false,pI 0,pS s_,.nil,.nil]⟩,some ⟨55,[pS x2.gAtom,rS x6,pI x10.gKind,pS x10.gName,a3 x10.gArgs,cG x14,pB (decide ((x16.gList.length:Int)>0)),pB v19,pI v20,pS v21,a3 v22,.nil]⟩,some ⟨237,[pS x18.gAtom,bB x18.gList]⟩],[]⟩⟩) (f8 H) (fun H=>?_) ?_
 ·refine qS (qR (q1 (a6 bH) (q1 (bD cR) (q1 (eB bI (aB.trs_len _)) (q1 KN (qN ?_))))))
  refine bA H (fun h23 H=>?_) (fun h23 H=>?_)
  ·refine qS (qR (q1 (a6 zA) (q1 (bR sz4) (qN (qR (q1 (a6 bH) (q1 (bD cR) (cX H fun z24 H=>(q1 (gV z24 bI) (q1 (jW (aB.cs (aW x18.gList 0)) bP) (bN H fun x26 z25 H=>(q1 (bG Tryz.func246 (u3 fu (aW x18.gList 0) _ z25)) (q1 (a6 w8) ?_)))))))))))))
   refine q1 (bR eS) (qN ?_)
   exact dO ⟨_,(aZ H:),b0⟩
  refine aQ.skip ?_;exact dO ⟨_,(aZ H:),b0⟩
 rintro⟨v22,v19,v20,v21⟩ H
 refine qS (qR (q1 (cU [pS pa0.gAtom,bB pa0.gList] bP) (bN H fun x28 z27 H=>(q1 (bG Tryz.func244 (yR fu pa0 7 _ z27)) (q1 aE (qN ?_))))))
 iterate 2 refine qS ?_
 refine qR (q1 aE (qN (aQ.wk (Wk.regBox (k:=2) (j:=11) 161 11 (by decide) rfl rfl) ?_)))
 refine j8 6 (aB.trs_len _) (fun hl32=>?_)
 refine b9 (σ:=(List aP)) (fun i29 v31=>⟨[(1,.ptr 0 0),(2,.ptr 1 0),(3,pB false),(4,.ptr 2 0),(6,bB x28),(7,pN i29)],⟨[some ⟨237,[pS pa0.gAtom,bB pa0.gList]⟩,some ⟨55,[pS s_,.nil,pI 0,pS s_,.nil,.nil,pB false,pB false,pI 0,pS s_,.nil,.nil]⟩,some ⟨55,[pS x2.gAtom,rS x6,pI x10.gKind,pS x10.gName,a3 x10.gArgs,cG x14,pB (decide ((x16.gList.length:Int)>0)),pB v19,pI v20,pS v21,a3 v22,A4 v31 0]⟩,some ⟨237,[pS x18.gAtom,bB x18.gList]⟩],[⟨161,11,aP.trs (v31),false⟩]⟩⟩) (fun v31=>⟨[(1,.ptr 0 0),(2,.ptr 1 0),(3,pB false),(4,.ptr 2 0)],⟨[some ⟨237,[pS pa0.gAtom,bB pa0.gList]⟩,some ⟨55,[pS s_,.nil,pI 0,pS s_,.nil,.nil,pB false,pB false,pI 0,pS s_,.nil,.nil]⟩,some ⟨55,[pS x2.gAtom,rS x6,pI x10.gKind,pS x10.gName,a3 x10.gArgs,cG x14,pB (decide ((x16.gList.length:Int)>0)),pB v19,pI v20,pS v21,a3 v22,A4 v31 0]⟩,some ⟨237,[pS x18.gAtom,bB x18.gList]⟩],[⟨161,11,aP.trs (v31),false⟩]⟩⟩) (f8 H) ?_ ?_
 ·rintro i29 v31 H
  iterate 2 refine qS ?_
  refine qR ?_
  iterate 2 refine q1 aE ?_
  refine q1 (eB bI (aB.trs_len _)) (q1 gP (qN ?_))
  refine dT H (fun h33 h33l H=>?_) (fun h33 H=>?_)
  ·have h33n:=a8 h33
   refine aQ.skip (qS (aQ.block (bN H fun x35 z34 H=>(bN H fun x37 z36 H=>(bN H fun x39 z38 H=>(bN H fun x41 z40 H=>(bN H fun x43 z42 H=>(cX H fun z44 H=>(dW (dI [4] (a6 w9) (dD [47] (bD XO) (dI [6] aE (dI [7] aE ?_)))))))))))))
   refine dI [49,50] (gV h33n bI) (dI [51] (jW (aB.cs (aW x28 i29)) bP) (dI [52] (bG Tryz.func219 (cT fu (aW x28 i29) 0 _ z34)) (dI [53] (rF1 sL) (dI [6] aE (dI [7] aE (dI [55,56] (gV h33n bI) (dI [57] (jW (aB.cs (aW x28 i29)) bP) (dI [58] (bG Tryz.func219 (cT fu (aW x28 i29) 1 _ z36)) (dI [59] (bG Tryz.func243 (nG fu x37 _ z38)) (dI [6] aE (dI [7] aE (dI [61,62] (gV h33n bI) (dI [63] (jW (aB.cs (aW x28 i29)) bP) ?_)))))))))))))
   refine dI [64] (bG Tryz.func219 (cT fu (aW x28 i29) 2 _ z40)) (dI [65] (bG Tryz.func247 (D3 fu x41 _ z42)) (dI [54,60,66] (eU G5 akS) (dI [67] (hH ([(aP.mk x35.gAtom x39 x43)]:List aP) JT G5) (dE [48,68] (kX z44 JT apE) (dI [4] (a6 w9) (mN [70,69] (bR ao6) (dN (qR (q1 aE (q1 (aX.addI rfl rfl rfl rfl (c:=((i29+1:Nat):Int)) (by omega) (by omega)) (q1 aE (qN ?_))))))))))))
   exact iK h33l ⟨_,(aZ H:),b0⟩
  refine aQ.exit ?_;exact j0 ⟨_,H,b0⟩
 rintro v31 H
 iterate 2 refine qS ?_
 refine bN H fun x46 z45 H=>?_
 rcases lC (!(x46)) with g47|g47
 ·have H:=oE H g47
  refine dW (dD [1] (cU [pS pa0.gAtom,bB pa0.gList] bP) (dI [71] (bG Tryz.func217 (cZ fu pa0 _ z45)) (dI [72] gW (dI [73] aE ?_))))
  iterate 4 refine CQ g47 ?_
  refine dI [74] (bS g47) (dI [79] aE ?_)
  iterate 5 refine CQ rfl ?_
  refine dI [80] (bS rfl) (dN (dM rfl (qS (qR (q1 (eU u4 RI) (q1 (bR s8) (q1 aE (qN (aQ.ret ?_)))))))))
  cases aZ H
  exact jM (hr:=⟨⟨_,_,_,rfl,rfl,n9,rfl,rfl⟩,rfl,trivial⟩)
 have H:=oA H g47
 rcases lC (decide ((pa0.gList.length:Int)=0)) with g48|g48
 ·have H:=oE H g48
  refine dW (dD [1] (cU [pS pa0.gAtom,bB pa0.gList] bP) (dI [71] (bG Tryz.func217 (cZ fu pa0 _ z45)) (dI [72] gW (dI [73] aE (dI (hg:=a5 g47) [1] (a6 bH) (dD (hg:=a5 g47) [75] (bD cR) (dI (hg:=a5 g47) [76] (eB bI (aB.trs_len _)) (dI (hg:=a5 g47) [77] eG (dI [74,78] (b6 g47) (dI [79] aE ?_))))))))))
  iterate 5 refine CQ g48 ?_
  refine dI [80] (bS g48) (dN (dM rfl (qS (qR (q1 (eU u4 RI) (q1 (bR s8) (q1 aE (qN (aQ.ret ?_)))))))))
  cases aZ H
  exact jM (hr:=⟨⟨_,_,_,rfl,rfl,n9,rfl,rfl⟩,rfl,trivial⟩)
 have H:=oA H g48
 refine bN H fun x50 z49 H=>(bN H fun x52 z51 H=>(dW (dD [1] (cU [pS pa0.gAtom,bB pa0.gList] bP) (dI [71] (bG Tryz.func217 (cZ fu pa0 _ z45)) (dI [72] gW (dI [73] aE (dI (hg:=a5 g47) [1] (a6 bH) (dD (hg:=a5 g47) [75] (bD cR) (dI (hg:=a5 g47) [76] (eB bI (aB.trs_len _)) (dI (hg:=a5 g47) [77] eG (dI [74,78] (b6 g47) (dI [79] aE (dD (hg:=a5 g48) [4] (cU [pS x2.gAtom,rS x6,pI x10.gKind,pS x10.gName,a3 x10.gArgs,cG x14,pB (decide ((x16.gList.length:Int)>0)),pB v19,pI v20,pS v21,a3 v22,A4 v31 0] n9) ?_)))))))))))))
 refine dI (hg:=a5 g48) [81] (bG Tryz.func252 (F4 fu (aH.mk x2.gAtom x6 x10 x14 (decide ((x16.gList.length:Int)>0)) v19 (aA.mk v20 v21 v22) v31) _ z49)) (dD (hg:=a5 g48) [1] (cU [pS pa0.gAtom,bB pa0.gList] bP) (dI (hg:=a5 g48) [82,83] (bG Tryz.func248 (sV fu x50 pa0 _ z51)) (dI (hg:=a5 g48) [84] gW (dI [80,85] (b6 g48) (dN ?_)))))
 refine bA H (fun h53 H=>?_) (fun h53 H=>?_)
 ·refine qS (qR (q1 (eU u4 RI) (q1 (bR s8) (q1 aE (qN (aQ.ret ?_))))))
  cases aZ H
  exact jM (hr:=⟨⟨_,_,_,rfl,rfl,n9,rfl,rfl⟩,rfl,trivial⟩)
 refine aQ.skip (qS (qR (q1 (cU [pS x2.gAtom,rS x6,pI x10.gKind,pS x10.gName,a3 x10.gArgs,cG x14,pB (decide ((x16.gList.length:Int)>0)),pB v19,pI v20,pS v21,a3 v22,A4 v31 0] n9) (q1 (bR s8) (q1 aE (qN (aQ.ret ?_)))))))
 cases aZ H
 exact jM (hr:=⟨⟨_,_,_,rfl,rfl,n9,rfl,rfl⟩,rfl,trivial⟩)
def IL(m:aM→Option aB):Prop:= ∀(pf:aM) (r:aB),m pf=some r→b4 Tryz.prog 253 [(aM.pv pf)] ((aB.pv r):PV)
def FW(fu:Nat)(pf:aM)(x2:Bool):Nat→((List aB))→Option (LR ((List aB)) aB):=
 fun i4 v6=>bd (cC fu ((aW pf.gParams i4).gName)) (fun x10=>
 bd (lQ fu ((aW pf.gParams i4).gType)) (fun x12=>
 bd (lB fu ([x10,x12]:List aB)) (fun x14=>
 gd ((v6).length+(([x14]:List aB)).length≤68719476736)
 (some (.next (v6++([x14]:List aB)))))))
def FX(fu:Nat)(pf:aM)(x2:Bool):Option (aB⊕((List aB))):=
 loopN (FW fu pf x2) (pf.gParams.length-0) 0 ([])
def rN(fu:Nat)(pf:aM):Option aB:=
 bd (m8 fu pf) (fun x2=>
 sw (!(x2))
 (some (aB.mk s_ []))
 (so (FX fu pf x2) (fun v6=>
 bd (cC fu aiZ) (fun x17=>
 bd (cC fu pf.gName) (fun x19=>
 bd (kD fu pf.gVars) (fun x21=>
 bd (yU fu pf.gWhere) (fun x23=>
 bd (lQ fu pf.gResult) (fun x25=>
 bd (lL fu pf.gBody) (fun x27=>
 bd (lB fu ([x17,x19,x21,x23,(aB.mk s_ v6),x25,x27]:List aB)) (fun x29=>
 bd (AR fu true x29) (fun x31=>
 some x31)))))))))))
theorem FY(fu:Nat):IL (rN fu):=by
 intro pf r H
 have H:=eF H
 refine qI Tryz.func253 (fun C hC=>?_)
 refine qS (qR (q1 (jP (wS pf)) (q1 (gM b7) (qN ?_))))
 iterate 2 refine qS ?_
 refine qR (q1 (cU [pS pf.gName,rS pf.gVars,cG pf.gWhere,RK pf.gParams,pI pf.gResult.gKind,pS pf.gResult.gName,a3 pf.gResult.gArgs,pI pf.gBody.gKind,pS pf.gBody.gTrait,pS pf.gBody.gName,pI pf.gBody.gN,pI pf.gBody.gType.gKind,pS pf.gBody.gType.gName,a3 pf.gBody.gType.gArgs,f9 pf.gBody.gArgs,m3 pf.gBody.gArms] qQ) (bN H fun x2 z1 H=>(q1 (bG Tryz.func259 (vV fu pf _ z1)) (q1 gW (qN ?_)))))
 refine bA H (fun h3 H=>?_) (fun h3 H=>?_)
 ·refine qS (qR (q1 (eU b7 mK) (q1 (bR eA) (qN (aQ.ret ?_)))))
  cases aZ H
  exact bL (hr:=⟨⟨_,_,_,rfl,rfl,bP,rfl,rfl⟩,trivial⟩)
 refine aQ.skip (qS (qR (q1 (eU b7 mK) (q1 (gM b7) (q1 (bR eA) (qN ?_))))))
 iterate 2 refine qS ?_
 refine qR (q1 aE (qN (aQ.wk (Wk.regBox (k:=2) (j:=1) 237 2 (by decide) rfl rfl) ?_)))
 refine aQ.fact (cE 0 3 rfl rfl rfl (aU.trs_len _)) (fun hl7=>?_)
 refine b9 (σ:=(List aB)) (fun i4 v6=>⟨[(1,.ptr 0 0),(2,.ptr 1 0),(3,.ptr 2 0),(4,pN i4)],⟨[some ⟨148,wS pf⟩,some ⟨237,[pS s_,.nil]⟩,some ⟨237,[pS s_,dV v6 0]⟩],[⟨237,2,aB.trs (v6),false⟩]⟩⟩) (fun v6=>⟨[(1,.ptr 0 0),(2,.ptr 1 0),(3,.ptr 2 0)],⟨[some ⟨148,wS pf⟩,some ⟨237,[pS s_,.nil]⟩,some ⟨237,[pS s_,dV v6 0]⟩],[⟨237,2,aB.trs (v6),false⟩]⟩⟩) (f8 H) ?_ ?_
 ·rintro i4 v6 H
  iterate 2 refine qS ?_
  refine qR (q1 aE (q1 (a6 uA) (q1 (bD N7) (q1 (eB DA (aU.trs_len _)) (q1 gP (qN ?_))))))
  refine dT H (fun h8 h8l H=>?_) (fun h8 H=>?_)
  ·have h8n:=a8 h8
   refine aQ.skip (qS (aQ.block (bN H fun x10 z9 H=>(bN H fun x12 z11 H=>(bN H fun x14 z13 H=>(cX H fun z15 H=>(dW (dI [3] (a6 bH) (dD [17] (bD cR) (dI [1] (a6 uA) (dD [19] (bD N7) (dI [4] aE (dI [20,21] (gV h8n DA) ?_)))))))))))))
   refine dI [22] (nK ag7) (dI [23] (mC eE) (dI [24] (bG Tryz.func266 (b3 fu ((aW pf.gParams i4).gName) _ z9)) (dI [1] (a6 uA) (dD [26] (bD N7) (dI [4] aE (dI [27,28] (gV h8n DA) (dI [29] (nK ag8) (dI [30] (jW (aA.cs ((aW pf.gParams i4).gType)) bZ) (dI [31] (bG Tryz.func269 (u2 fu ((aW pf.gParams i4).gType) _ z11)) (dI [25,32] (hH ([x10,x12]:List aB) bI b7) (dI [33] (bG Tryz.func265 (B4 (l7 fu) ([x10,x12]:List aB) _ z13)) (dI [34] (hH ([x14]:List aB) bI b7) (dE [18,35] (kX z15 bI qA) ?_)))))))))))))
   refine dI [3] (a6 bH) (mN [37,36] (bR yY) (dN (qR (q1 aE (q1 (aX.addI rfl rfl rfl rfl (c:=((i4+1:Nat):Int)) (by omega) (by omega)) (q1 aE (qN ?_)))))))
   exact iK h8l ⟨_,(aZ H:),b0⟩
  refine aQ.exit ?_;exact j0 ⟨_,H,b0⟩
 rintro v6 H
 refine qS (bN H fun x17 z16 H=>(bN H fun x19 z18 H=>(bN H fun x21 z20 H=>(bN H fun x23 z22 H=>(bN H fun x25 z24 H=>(bN H fun x27 z26 H=>(bN H fun x29 z28 H=>(bN H fun x31 z30 H=>(dW (dI [] (bG Tryz.func266 (b3 fu aiZ _ z16)) (dI [1] (a6 PP) (dD [39] (bD eE) (dI [40] (bG Tryz.func266 (b3 fu pf.gName _ z18)) ?_)))))))))))))
 refine dI [1] (a6 JX) (dD [42] (bD jC) (dI [43] (bG Tryz.func267 (lN fu pf.gVars _ z20)) (dI [1] (a6 WP) (dD [45] (bD aeT) (dI [46] (bG Tryz.func272 (K5 fu pf.gWhere _ z22)) (dD [3] (cU [pS s_,dV v6 0] bP) (dI [1] (a6 WQ) (dD [49] (cU [pI pf.gResult.gKind,pS pf.gResult.gName,a3 pf.gResult.gArgs] bZ) (dI [50] (bG Tryz.func269 (u2 fu pf.gResult _ z24)) (dI [1] (a6 WR) (dD [52] (cU [pI pf.gBody.gKind,pS pf.gBody.gTrait,pS pf.gBody.gName,pI pf.gBody.gN,pI pf.gBody.gType.gKind,pS pf.gBody.gType.gName,a3 pf.gBody.gType.gArgs,f9 pf.gBody.gArgs,m3 pf.gBody.gArms] gY) (dI [53] (bG Tryz.func270 (NB fu pf.gBody _ z26)) (dI [38,41,44,47,48,51,54] (hH ([x17,x19,x21,x23,(aB.mk s_ v6),x25,x27]:List aB) bI b7) ?_)))))))))))))
 refine dI [55] (bG Tryz.func265 (B4 (l7 fu) ([x17,x19,x21,x23,(aB.mk s_ v6),x25,x27]:List aB) _ z28)) (dI [56] (bG Tryz.func271 (FA fu true x29 _ z30)) (mN [2,57] (bR eA) (dN (aQ.ret ?_))))
 cases aZ H
 exact bL (hr:=⟨⟨_,_,_,rfl,rfl,bP,rfl,rfl⟩,trivial⟩)
def IU(m:aB→Option (aM×Bool)):Prop:= ∀(pa0:aB) (r:aM×Bool),m pa0=some r→b4 Tryz.prog 233 [(aB.pv pa0)] (.tup [(aM.pv r.1),pB r.2]:PV)
def GH(fu:Nat)(pa0 x2 x4:aB)(x6:List ByteArray)(x8:aB)(x10:List aF)(x12:aB)(x14:aA)(x16:aB)(x18:aG)(x20:aB):Nat→((List aU))→Option (LR ((List aU)) (aM×Bool)):=
 fun i21 v23=>bd (c7 fu (aW x20.gList i21) 0) (fun x27=>
 bd (c7 fu (aW x20.gList i21) 1) (fun x29=>
 bd (lR fu x29) (fun x31=>
 gd ((v23).length+(([(aU.mk x27.gAtom x31)]:List aU)).length≤68719476736)
 (some (.next (v23++([(aU.mk x27.gAtom x31)]:List aU)))))))
def GI(fu:Nat)(pa0 x2 x4:aB)(x6:List ByteArray)(x8:aB)(x10:List aF)(x12:aB)(x14:aA)(x16:aB)(x18:aG)(x20:aB):Option ((aM×Bool)⊕((List aU))):=
 loopN (GH fu pa0 x2 x4 x6 x8 x10 x12 x14 x16 x18 x20) (x20.gList.length-0) 0 ([])
def rQ(fu:Nat)(pa0:aB):Option (aM×Bool):=
 bd (c7 fu pa0 1) (fun x2=>
 bd (c7 fu pa0 2) (fun x4=>
 bd (lM fu x4) (fun x6=>
 bd (c7 fu pa0 3) (fun x8=>
 bd (wM fu x8) (fun x10=>
 bd (c7 fu pa0 5) (fun x12=>
 bd (lR fu x12) (fun x14=>
 bd (c7 fu pa0 6) (fun x16=>
 bd (gF fu x16) (fun x18=>
 bd (c7 fu pa0 4) (fun x20=>
 so (GI fu pa0 x2 x4 x6 x8 x10 x12 x14 x16 x18 x20) (fun v23=>
 bd (gQ fu pa0) (fun x34=>
 sw (!(x34))
 (some ((aM.mk s_ [] [] [] (aA.mk 0 s_ []) (aG.mk 0 s_ s_ 0 (aA.mk 0 s_ []) [] [])),false))
 (sw (decide ((pa0.gList.length:Int)=0))
 (some ((aM.mk s_ [] [] [] (aA.mk 0 s_ []) (aG.mk 0 s_ s_ 0 (aA.mk 0 s_ []) [] [])),false))
 (bd (rN fu (aM.mk x2.gAtom x6 x10 v23 x14 x18)) (fun x38=>
 bd (fE fu x38 pa0) (fun x40=>
 sw (!(x40))
 (some ((aM.mk s_ [] [] [] (aA.mk 0 s_ []) (aG.mk 0 s_ s_ 0 (aA.mk 0 s_ []) [] [])),false))
 (some ((aM.mk x2.gAtom x6 x10 v23 x14 x18),true))))))))))))))))))
theorem GJ(fu:Nat):IU (rQ fu):=by
 intro pa0 r H
 have H:=eF H
 refine qI Tryz.func233 (fun C hC=>?_)
 refine qS (qR (q1 (jP ([pS pa0.gAtom,bB pa0.gList])) (q1 (gM CP) (q1 aE (qN (qS (bN H fun x2 z1 H=>(bN H fun x4 z3 H=>(bN H fun x6 z5 H=>(bN H fun x8 z7 H=>(bN H fun x10 z9 H=>(bN H fun x12 z11 H=>(bN H fun x14 z13 H=>?_)))))))))))))
 refine bN H fun x16 z15 H=>(bN H fun x18 z17 H=>(dW (dB [1] 0 1 (TG [pS pa0.gAtom,bB pa0.gList] bP) (dI [7] (bG Tryz.func219 (cT fu pa0 1 _ z1)) (dI [8] (rF1 sL) (dB [1] 0 1 (TG [pS pa0.gAtom,bB pa0.gList] bP) (dI [10] (bG Tryz.func219 (cT fu pa0 2 _ z3)) (dI [11] (bG Tryz.func243 (nG fu x4 _ z5)) (dB [1] 0 1 (TG [pS pa0.gAtom,bB pa0.gList] bP) (dI [13] (bG Tryz.func219 (cT fu pa0 3 _ z7)) (dI [14] (bG Tryz.func251 (G1 fu x8 _ z9)) (dB [1] 0 1 (TG [pS pa0.gAtom,bB pa0.gList] bP) (dI [16] (bG Tryz.func219 (cT fu pa0 5 _ z11)) ?_)))))))))))))
 refine dI [17] (bG Tryz.func246 (u3 fu x12 _ z13)) (dB [1] 0 1 (TG [pS pa0.gAtom,bB pa0.gList] bP) (dI [19] (bG Tryz.func219 (cT fu pa0 6 _ z15)) (dI [20] (bG Tryz.func247 (D3 fu x16 _ z17)) (dI [9,12,15,18,21] (eU CP aaV) (dE [] (gM CP) (mN [4,22] (bR AX) (dN (qS (qR (q1 (cU [pS pa0.gAtom,bB pa0.gList] bP) (bN H fun x20 z19 H=>(q1 (bG Tryz.func219 (cT fu pa0 4 _ z19)) (q1 (gM b7) ?_)))))))))))))
 refine q1 (bR eA) (qN ?_)
 iterate 2 refine qS ?_
 refine qR (q1 aE (qN (aQ.wk (Wk.regBox (k:=2) (j:=3) 226 4 (by decide) rfl rfl) ?_)))
 refine aQ.fact (cE 3 1 rfl rfl rfl (aB.trs_len _)) (fun hl24=>?_)
 refine b9 (σ:=(List aU)) (fun i21 v23=>⟨[(1,.ptr 0 0),(2,.ptr 1 0),(3,pB false),(4,.ptr 2 0),(5,.ptr 3 0),(6,pN i21)],⟨[some ⟨237,[pS pa0.gAtom,bB pa0.gList]⟩,some ⟨148,[pS s_,.nil,.nil,.nil,pI 0,pS s_,.nil,pI 0,pS s_,pS s_,pI 0,pI 0,pS s_,.nil,.nil,.nil]⟩,some ⟨148,[pS x2.gAtom,rS x6,cG x10,WH v23 0,pI x14.gKind,pS x14.gName,a3 x14.gArgs,pI x18.gKind,pS x18.gTrait,pS x18.gName,pI x18.gN,pI x18.gType.gKind,pS x18.gType.gName,a3 x18.gType.gArgs,f9 x18.gArgs,m3 x18.gArms]⟩,some ⟨237,[pS x20.gAtom,bB x20.gList]⟩],[⟨226,4,aU.trs (v23),false⟩]⟩⟩) (fun v23=>⟨[(1,.ptr 0 0),(2,.ptr 1 0),(3,pB false),(4,.ptr 2 0)],⟨[some ⟨237,[pS pa0.gAtom,bB pa0.gList]⟩,some ⟨148,[pS s_,.nil,.nil,.nil,pI 0,pS s_,.nil,pI 0,pS s_,pS s_,pI 0,pI 0,pS s_,.nil,.nil,.nil]⟩,some ⟨148,[pS x2.gAtom,rS x6,cG x10,WH v23 0,pI x14.gKind,pS x14.gName,a3 x14.gArgs,pI x18.gKind,pS x18.gTrait,pS x18.gName,pI x18.gN,pI x18.gType.gKind,pS x18.gType.gName,a3 x18.gType.gArgs,f9 x18.gArgs,m3 x18.gArms]⟩,some ⟨237,[pS x20.gAtom,bB x20.gList]⟩],[⟨226,4,aU.trs (v23),false⟩]⟩⟩) (f8 H) ?_ ?_
 ·rintro i21 v23 H
  iterate 2 refine qS ?_
  refine qR (q1 aE (q1 (a6 bH) (q1 (bD cR) (q1 (eB bI (aB.trs_len _)) (q1 gP (qN ?_))))))
  refine dT H (fun h25 h25l H=>?_) (fun h25 H=>?_)
  ·have h25n:=a8 h25
   refine aQ.skip (qS (aQ.block (bN H fun x27 z26 H=>(bN H fun x29 z28 H=>(bN H fun x31 z30 H=>(cX H fun z32 H=>(dW (dI [4] (a6 uA) (dD [32] (bD N7) (dI [5] (a6 bH) (dD [34] (bD cR) (dI [6] aE (dI [35,36] (gV h25n bI) ?_)))))))))))))
   refine dI [37] (jW (aB.cs (aW x20.gList i21)) bP) (dI [38] (bG Tryz.func219 (cT fu (aW x20.gList i21) 0 _ z26)) (dI [39] (rF1 sL) (dI [5] (a6 bH) (dD [41] (bD cR) (dI [6] aE (dI [42,43] (gV h25n bI) (dI [44] (jW (aB.cs (aW x20.gList i21)) bP) (dI [45] (bG Tryz.func219 (cT fu (aW x20.gList i21) 1 _ z28)) (dI [46] (bG Tryz.func246 (u3 fu x29 _ z30)) (dI [40,47] (eU V1 akU) (dI [48] (hH ([(aU.mk x27.gAtom x31)]:List aU) DA V1) (dE [33,49] (kX z32 DA anI) (dI [4] (a6 uA) ?_)))))))))))))
   refine mN [51,50] (bR anC) (dN (qR (q1 aE (q1 (aX.addI rfl rfl rfl rfl (c:=((i21+1:Nat):Int)) (by omega) (by omega)) (q1 aE (qN ?_))))))
   exact iK h25l ⟨_,(aZ H:),b0⟩
  refine aQ.exit ?_;exact j0 ⟨_,H,b0⟩
 rintro v23 H
 iterate 2 refine qS ?_
 refine bN H fun x34 z33 H=>?_
 rcases lC (!(x34)) with g35|g35
 ·have H:=oE H g35
  refine dW (dD [1] (cU [pS pa0.gAtom,bB pa0.gList] bP) (dI [52] (bG Tryz.func217 (cZ fu pa0 _ z33)) (dI [53] gW (dI [54] aE ?_))))
  iterate 4 refine CQ g35 ?_
  refine dI [55] (bS g35) (dI [60] aE ?_)
  iterate 5 refine CQ rfl ?_
  refine dI [61] (bS rfl) (dN (dM rfl (qS (qR (q1 (eU CP aaV) (q1 (bR AX) (q1 aE (qN (aQ.ret ?_)))))))))
  cases aZ H
  exact jM (hr:=⟨⟨_,_,_,rfl,rfl,qQ,rfl,rfl⟩,rfl,trivial⟩)
 have H:=oA H g35
 rcases lC (decide ((pa0.gList.length:Int)=0)) with g36|g36
 ·have H:=oE H g36
  refine dW (dD [1] (cU [pS pa0.gAtom,bB pa0.gList] bP) (dI [52] (bG Tryz.func217 (cZ fu pa0 _ z33)) (dI [53] gW (dI [54] aE (dI (hg:=a5 g35) [1] (a6 bH) (dD (hg:=a5 g35) [56] (bD cR) (dI (hg:=a5 g35) [57] (eB bI (aB.trs_len _)) (dI (hg:=a5 g35) [58] eG (dI [55,59] (b6 g35) (dI [60] aE ?_))))))))))
  iterate 5 refine CQ g36 ?_
  refine dI [61] (bS g36) (dN (dM rfl (qS (qR (q1 (eU CP aaV) (q1 (bR AX) (q1 aE (qN (aQ.ret ?_)))))))))
  cases aZ H
  exact jM (hr:=⟨⟨_,_,_,rfl,rfl,qQ,rfl,rfl⟩,rfl,trivial⟩)
 have H:=oA H g36
 refine bN H fun x38 z37 H=>(bN H fun x40 z39 H=>(dW (dD [1] (cU [pS pa0.gAtom,bB pa0.gList] bP) (dI [52] (bG Tryz.func217 (cZ fu pa0 _ z33)) (dI [53] gW (dI [54] aE (dI (hg:=a5 g35) [1] (a6 bH) (dD (hg:=a5 g35) [56] (bD cR) (dI (hg:=a5 g35) [57] (eB bI (aB.trs_len _)) (dI (hg:=a5 g35) [58] eG (dI [55,59] (b6 g35) (dI [60] aE (dD (hg:=a5 g36) [4] (cU [pS x2.gAtom,rS x6,cG x10,WH v23 0,pI x14.gKind,pS x14.gName,a3 x14.gArgs,pI x18.gKind,pS x18.gTrait,pS x18.gName,pI x18.gN,pI x18.gType.gKind,pS x18.gType.gName,a3 x18.gType.gArgs,f9 x18.gArgs,m3 x18.gArms] qQ) ?_)))))))))))))
 refine dI (hg:=a5 g36) [62] (bG Tryz.func253 (FY fu (aM.mk x2.gAtom x6 x10 v23 x14 x18) _ z37)) (dD (hg:=a5 g36) [1] (cU [pS pa0.gAtom,bB pa0.gList] bP) (dI (hg:=a5 g36) [63,64] (bG Tryz.func248 (sV fu x38 pa0 _ z39)) (dI (hg:=a5 g36) [65] gW (dI [61,66] (b6 g36) (dN ?_)))))
 refine bA H (fun h41 H=>?_) (fun h41 H=>?_)
 ·refine qS (qR (q1 (eU CP aaV) (q1 (bR AX) (q1 aE (qN (aQ.ret ?_))))))
  cases aZ H
  exact jM (hr:=⟨⟨_,_,_,rfl,rfl,qQ,rfl,rfl⟩,rfl,trivial⟩)
 refine aQ.skip (qS (qR (q1 (cU [pS x2.gAtom,rS x6,cG x10,WH v23 0,pI x14.gKind,pS x14.gName,a3 x14.gArgs,pI x18.gKind,pS x18.gTrait,pS x18.gName,pI x18.gN,pI x18.gType.gKind,pS x18.gType.gName,a3 x18.gType.gArgs,f9 x18.gArgs,m3 x18.gArms] qQ) (q1 (bR AX) (q1 aE (qN (aQ.ret ?_)))))))
 cases aZ H
 exact jM (hr:=⟨⟨_,_,_,rfl,rfl,qQ,rfl,rfl⟩,rfl,trivial⟩)
end
end Go.Proofs.YtpioomclpaiomaaGreat.W

namespace Go.Proofs.YtpioomclpaiomaaGreat.W
set_option maxRecDepth 100000
set_option maxHeartbeats 40000000
noncomputable section
open Go.RowKit Go.Proofs
set_option linter.unusedSimpArgs false
set_option linter.unusedVariables false
attribute [local irreducible] lt
def acS(m:ByteArray→Option Bool):Prop:= ∀(ps:ByteArray) (r:Bool),m ps=some r→b4 Tryz.prog 192 [pS ps] (pB r:PV)
def YE(fu:Nat)(ps:ByteArray):Nat→Unit→Option (LR Unit Bool):=
 fun i1 _=>gd (i1<(ps).size)
 (sw (!decide ((((A5 ps i1).toNat:Int):Int)=32))
 (some (.ret false))
 (some (.next ())))
def YF(fu:Nat)(ps:ByteArray):Option (Bool⊕Unit):=
 loopN (YE fu ps) (ps.size-0) 0 ()
def D8(fu:Nat)(ps:ByteArray):Option Bool:=
 so (YF fu ps) (fun _=>
 some true)
theorem YG(fu:Nat):acS (D8 fu):=by
 intro ps r H
 have H:=eF H
 refine qI Tryz.func192 (fun C hC=>?_)
 refine qS (qR (q1 aE (qN ?_)))
 iterate 2 refine qS ?_
 refine qR (q1 aE (qN ?_))
 refine szF 0 (fun hl2=>?_)
 refine b9 (σ:=Unit) (fun i1 _=>⟨[(0,pS ps),(2,pB false),(3,pN i1)],⟨[],[]⟩⟩) (fun _=>⟨[(2,pB false)],⟨[],[]⟩⟩) (f8 H) ?_ ?_
 ·rintro i1 ⟨⟩ H
  iterate 2 refine qS ?_
  refine qR ?_
  iterate 2 refine q1 aE ?_
  refine q1 (aX.lenS rfl rfl rfl Tryz.underlying9) (q1 gP (qN ?_))
  refine dT H (fun h3 h3l H=>?_) (fun h3 H=>?_)
  ·have h3n:i1<ps.size:=by have:=of_decide_eq_true h3;omega
   refine aQ.skip (qS (aQ.block (qS (qR ?_))))
   iterate 2 refine q1 aE ?_
   refine cX H fun z4 H=>(q1 (aX.indexS (k:=i1) rfl rfl rfl rfl z4 Tryz.underlying9) (q1 P5 (qN ?_)))
   refine bA H (fun h5 H=>?_) (fun h5 H=>?_)
   ·refine qS (qR (q1 aE (qN (aQ.ret ?_))))
    obtain rfl:_=r:=(p8 (aZ H):)
    exact bL
   refine aQ.skip (qR (q1 aE (q1 (aX.addI rfl rfl rfl rfl (c:=((i1+1:Nat):Int)) (by omega) (by omega)) (q1 aE (qN ?_)))))
   exact iK h3l ⟨_,(aZ H:),b0⟩
  refine aQ.exit ?_;exact j0 ⟨_,H,b0⟩
 rintro⟨⟩ H
 refine qS (qR (q1 aE (qN (aQ.ret ?_))))
 cases aZ H
 exact bL
def afO(m:(ByteArray×(List ByteArray)×(List aT)×(List aN)×(List aH)×(List aM))→aB→Option (Bool×(ByteArray×(List ByteArray)×(List aT)×(List aN)×(List aH)×(List aM)))):Prop:= ∀(pq0:ByteArray×(List ByteArray)×(List aT)×(List aN)×(List aH)×(List aM)) (pa1:aB) (r:Bool×(ByteArray×(List ByteArray)×(List aT)×(List aN)×(List aH)×(List aM))),m pq0 pa1=some r→cP Tryz.prog 220 [.ptr 0 0,(aB.pv pa1)] ⟨[some ⟨131,[pS pq0.1,rS pq0.2.1,w5 pq0.2.2.1 0,mE pq0.2.2.2.1 1,mG pq0.2.2.2.2.1 2,mF pq0.2.2.2.2.2 3]⟩],[⟨60,5,aT.trs (pq0.2.2.1),false⟩,⟨116,3,aN.trs (pq0.2.2.2.1),false⟩,⟨55,12,aH.trs (pq0.2.2.2.2.1),false⟩,⟨148,16,aM.trs (pq0.2.2.2.2.2),false⟩]⟩ (fun q t=>q=(pB r.1:PV)∧t=⟨[some ⟨131,[pS r.2.1,rS r.2.2.1,w5 r.2.2.2.1 0,mE r.2.2.2.2.1 1,mG r.2.2.2.2.2.1 2,mF r.2.2.2.2.2.2 3]⟩],[⟨60,5,aT.trs (r.2.2.2.1),false⟩,⟨116,3,aN.trs (r.2.2.2.2.1),false⟩,⟨55,12,aH.trs (r.2.2.2.2.2.1),false⟩,⟨148,16,aM.trs (r.2.2.2.2.2.2),false⟩]⟩)
def JC(fu:Nat)(pq0:ByteArray×(List ByteArray)×(List aT)×(List aN)×(List aH)×(List aM))(pa1:aB):Option (Bool×(ByteArray×(List ByteArray)×(List aT)×(List aN)×(List aH)×(List aM))):=
 bd (c7 fu pa1 0) (fun x2=>
 sw (decide (x2.gAtom=E8))
 (bd (vL fu pa1) (fun(x5,x6)=>
 gd ((pq0.2.2.1).length+(([x5]:List aT)).length≤68719476736)
 (some (x6,(pq0.1,pq0.2.1,pq0.2.2.1++([x5]:List aT),pq0.2.2.2.1,pq0.2.2.2.2.1,pq0.2.2.2.2.2)))))
 (sw (decide (x2.gAtom=M7))
 (bd (rP fu pa1) (fun(x10,x11)=>
 gd ((pq0.2.2.2.1).length+(([x10]:List aN)).length≤68719476736)
 (some (x11,(pq0.1,pq0.2.1,pq0.2.2.1,pq0.2.2.2.1++([x10]:List aN),pq0.2.2.2.2.1,pq0.2.2.2.2.2)))))
 (sw (decide (x2.gAtom=M8))
 (bd (rR fu pa1) (fun(x15,x16)=>
 gd ((pq0.2.2.2.2.1).length+(([x15]:List aH)).length≤68719476736)
 (some (x16,(pq0.1,pq0.2.1,pq0.2.2.1,pq0.2.2.2.1,pq0.2.2.2.2.1++([x15]:List aH),pq0.2.2.2.2.2)))))
 (sw (decide (x2.gAtom=aiZ))
 (bd (rQ fu pa1) (fun(x20,x21)=>
 gd ((pq0.2.2.2.2.2).length+(([x20]:List aM)).length≤68719476736)
 (some (x21,(pq0.1,pq0.2.1,pq0.2.2.1,pq0.2.2.2.1,pq0.2.2.2.2.1,pq0.2.2.2.2.2++([x20]:List aM))))))
 (some (false,pq0))))))
theorem acU(fu:Nat):afO (JC fu):=by
 intro pq0 pa1 r H
 have H:=eF H
 refine qI Tryz.func220 (fun C hC=>?_)
 refine qS (qR (q1 (jP ([pS pa1.gAtom,bB pa1.gList])) (q1 aE (qN ?_))))
 iterate 2 refine qS ?_
 refine qR (q1 (cU [pS pa1.gAtom,bB pa1.gList] bP) (bN H fun x2 z1 H=>(q1 (bG Tryz.func219 (cT fu pa1 0 _ z1)) (q1 (rF1 sL) (qN (aQ.block (qS (qR (q1 E6 (q1 aE (qN ?_)))))))))))
 refine bA H (fun h3 H=>?_) (fun h3 H=>?_)
 ·refine qS (qR (q1 (cU [pS pa1.gAtom,bB pa1.gList] bP) (eT H fun x5 x6 z4 H=>(q1 (bG Tryz.func230 (MZ fu pa1 _ z4)) (q1 aE ?_)))))
  iterate 2 refine q1 uB ?_
  refine q1 (gM vR) (q1 (bR t8) (q1 aE (qN (qS (cX H fun z7 H=>(dW ?_))))))
  iterate 2 refine dI [0] aE ?_
  refine dI [24] pT (dI [25] (a6 pP) (dD [26] (bD D1) (dD [5] (cU [pS x5.gName,rS x5.gSupertraits,pB x5.gAuto,pB x5.gAssoc,jU x5.gSignatures] pX) (dI [28] (hH ([x5]:List aT) yG vR) (dE [27,29] (kX z7 yG anE) (dI [23] pT (dI [31] (a6 pP) (mN [32,30] (bR am8) (dN (qS (qR ?_)))))))))))
  iterate 2 refine q1 aE ?_
  refine qN (aQ.ret ?_)
  cases aZ H
  exact bL
 refine qS (qR (q1 E6 (q1 aE (qN ?_))))
 refine bA H (fun h8 H=>?_) (fun h8 H=>?_)
 ·refine qS (qR (q1 (cU [pS pa1.gAtom,bB pa1.gList] bP) (eT H fun x10 x11 z9 H=>(q1 (bG Tryz.func231 (GG fu pa1 _ z9)) (q1 aE ?_)))))
  iterate 2 refine q1 uB ?_
  refine q1 (gM CO) (q1 (bR CN) (q1 aE (qN (qS (cX H fun z12 H=>(dW ?_))))))
  iterate 2 refine dI [0] aE ?_
  refine dI [42] pT (dI [43] (a6 sK) (dD [44] (bD K0) (dD [7] (cU [pS x10.gName,rS x10.gVars,e7 x10.gConstructors] s3) (dI [46] (hH ([x10]:List aN) C9 CO) (dE [45,47] (kX z12 C9 anF) (dI [41] pT (dI [49] (a6 sK) (mN [50,48] (bR am9) (dN (qS (qR ?_)))))))))))
  iterate 2 refine q1 aE ?_
  refine qN (aQ.ret ?_)
  cases aZ H
  exact bL
 refine qS (qR (q1 E6 (q1 aE (qN ?_))))
 refine bA H (fun h13 H=>?_) (fun h13 H=>?_)
 ·refine qS (qR (q1 (cU [pS pa1.gAtom,bB pa1.gList] bP) (eT H fun x15 x16 z14 H=>(q1 (bG Tryz.func232 (GN fu pa1 _ z14)) (q1 aE ?_)))))
  iterate 2 refine q1 uB ?_
  refine q1 (gM u4) (q1 (bR s8) (q1 aE (qN (qS (cX H fun z17 H=>(dW ?_))))))
  iterate 2 refine dI [0] aE ?_
  refine dI [60] pT (dI [61] (a6 qU) (dD [62] (bD GZ) (dD [9] (cU [pS x15.gTrait,rS x15.gVars,pI x15.gHead.gKind,pS x15.gHead.gName,a3 x15.gHead.gArgs,cG x15.gWhere,pB x15.gDefault,pB x15.gHasAssoc,pI x15.gAssoc.gKind,pS x15.gAssoc.gName,a3 x15.gAssoc.gArgs,kR x15.gMethods] n9) (dI [64] (hH ([x15]:List aH) CC u4) (dE [63,65] (kX z17 CC anG) (dI [59] pT (dI [67] (a6 qU) (mN [68,66] (bR anA) (dN (qS (qR ?_)))))))))))
  iterate 2 refine q1 aE ?_
  refine qN (aQ.ret ?_)
  cases aZ H
  exact bL
 refine qS (qR (q1 E6 (q1 aE (qN ?_))))
 refine bA H (fun h18 H=>?_) (fun h18 H=>?_)
 ·refine qS (qR (q1 (cU [pS pa1.gAtom,bB pa1.gList] bP) (eT H fun x20 x21 z19 H=>(q1 (bG Tryz.func233 (GJ fu pa1 _ z19)) (q1 aE ?_)))))
  iterate 2 refine q1 uB ?_
  refine q1 (gM CP) (q1 (bR AX) (q1 aE (qN (qS (cX H fun z22 H=>(dW ?_))))))
  iterate 2 refine dI [0] aE ?_
  refine dI [78] pT (dI [79] (a6 wD) (dD [80] (bD SH) (dD [11] (cU [pS x20.gName,rS x20.gVars,cG x20.gWhere,RK x20.gParams,pI x20.gResult.gKind,pS x20.gResult.gName,a3 x20.gResult.gArgs,pI x20.gBody.gKind,pS x20.gBody.gTrait,pS x20.gBody.gName,pI x20.gBody.gN,pI x20.gBody.gType.gKind,pS x20.gBody.gType.gName,a3 x20.gBody.gType.gArgs,f9 x20.gBody.gArgs,m3 x20.gBody.gArms] qQ) (dI [82] (hH ([x20]:List aM) JS CP) (dE [81,83] (kX z22 JS anH) (dI [77] pT (dI [85] (a6 wD) (mN [86,84] (bR anB) (dN (qS (qR ?_)))))))))))
  iterate 2 refine q1 aE ?_
  refine qN (aQ.ret ?_)
  cases aZ H
  exact bL
 refine aQ.skip (qS (qR (q1 aE (qN (aQ.ret ?_)))))
 cases aZ H
 exact bL
def acV(m:aL→Option ((List ByteArray)×(List ByteArray)×(List ByteArray)×(List ByteArray))):Prop:= ∀(pa0:aL) (r:(List ByteArray)×(List ByteArray)×(List ByteArray)×(List ByteArray)),m pa0=some r→b4 Tryz.prog 234 [(aL.pv pa0)] (.tup [rS r.1,rS r.2.1,rS r.2.2.1,rS r.2.2.2]:PV)
def YH(fu:Nat)(pa0:aL):Nat→((List ByteArray))→Option (LR ((List ByteArray)) ((List ByteArray)×(List ByteArray)×(List ByteArray)×(List ByteArray))):=
 fun i1 v3=>gd ((v3).length+(([((aW pa0.gTraits i1).gName)]:List ByteArray)).length≤68719476736)
 (some (.next (v3++([((aW pa0.gTraits i1).gName)]:List ByteArray))))
def YL(fu:Nat)(pa0:aL):Option (((List ByteArray)×(List ByteArray)×(List ByteArray)×(List ByteArray))⊕((List ByteArray))):=
 loopN (YH fu pa0) (pa0.gTraits.length-0) 0 ([])
def YJ(fu:Nat)(pa0:aL)(v3:List ByteArray)(i7:Nat)(v10 v11:List ByteArray):Nat→((List ByteArray))→Option (LR ((List ByteArray)) (LR ((List ByteArray)×(List ByteArray)) ((List ByteArray)×(List ByteArray)×(List ByteArray)×(List ByteArray)))):=
 fun i15 v17=>gd ((v17).length+(([((aW ((aW pa0.gDataTypes i7).gConstructors) i15).gName)]:List ByteArray)).length≤68719476736)
 (some (.next (v17++([((aW ((aW pa0.gDataTypes i7).gConstructors) i15).gName)]:List ByteArray))))
def YN(fu:Nat)(pa0:aL)(v3:List ByteArray)(i7:Nat)(v10 v11:List ByteArray):Option ((LR ((List ByteArray)×(List ByteArray)) ((List ByteArray)×(List ByteArray)×(List ByteArray)×(List ByteArray)))⊕((List ByteArray))):=
 loopN (YJ fu pa0 v3 i7 v10 v11) (((aW pa0.gDataTypes i7).gConstructors).length-0) 0 v11
def YI(fu:Nat)(pa0:aL)(v3:List ByteArray):Nat→((List ByteArray)×(List ByteArray))→Option (LR ((List ByteArray)×(List ByteArray)) ((List ByteArray)×(List ByteArray)×(List ByteArray)×(List ByteArray))):=
 fun i7 (v10,v11)=>gd ((v10).length+(([((aW pa0.gDataTypes i7).gName)]:List ByteArray)).length≤68719476736)
 (so (YN fu pa0 v3 i7 v10 v11) (fun v17=>
 some (.next ((v10++([((aW pa0.gDataTypes i7).gName)]:List ByteArray)),v17))))
def YM(fu:Nat)(pa0:aL)(v3:List ByteArray):Option (((List ByteArray)×(List ByteArray)×(List ByteArray)×(List ByteArray))⊕((List ByteArray)×(List ByteArray))):=
 loopN (YI fu pa0 v3) (pa0.gDataTypes.length-0) 0 (([]),([]))
def YK(fu:Nat)(pa0:aL)(v3 v10 v11:List ByteArray):Nat→((List ByteArray))→Option (LR ((List ByteArray)) ((List ByteArray)×(List ByteArray)×(List ByteArray)×(List ByteArray))):=
 fun i21 v23=>lt (aW pa0.gFunctions i21) (fun y26=>
 gd ((v23).length+(([y26.gName]:List ByteArray)).length≤68719476736)
 (some (.next (v23++([y26.gName]:List ByteArray)))))
def YO(fu:Nat)(pa0:aL)(v3 v10 v11:List ByteArray):Option (((List ByteArray)×(List ByteArray)×(List ByteArray)×(List ByteArray))⊕((List ByteArray))):=
 loopN (YK fu pa0 v3 v10 v11) (pa0.gFunctions.length-0) 0 ([])
def D9(fu:Nat)(pa0:aL):Option ((List ByteArray)×(List ByteArray)×(List ByteArray)×(List ByteArray)):=
 so (YL fu pa0) (fun v3=>
 so (YM fu pa0 v3) (fun(v10,v11)=>
 so (YO fu pa0 v3 v10 v11) (fun v23=>
 some (v3,v10,v11,v23))))
theorem YP(fu:Nat):acV (D9 fu):=by
 intro pa0 r H
 have H:=eF H
 refine qI Tryz.func234 (fun C hC=>?_)
 refine qS (qR (q1 (jP (fQ pa0)) ?_))
 iterate 4 refine q1 aE ?_
 refine qN (qS (qR (q1 (qZ ([]:List ByteArray) bU kG) (q1 aE (qN (qS (qR (q1 (qZ ([]:List ByteArray) bU kG) (q1 aE (qN (qS (qR (q1 (qZ ([]:List ByteArray) bU kG) ?_)))))))))))))
 refine q1 aE (qN (qS (qR (q1 (qZ ([]:List ByteArray) bU kG) (q1 aE (qN ?_))))))
 iterate 2 refine qS ?_
 refine qR (q1 aE (qN ?_))
 refine aQ.fact (cE 0 2 rfl rfl rfl (aT.trs_len _)) (fun hl4=>?_)
 refine b9 (σ:=(List ByteArray)) (fun i1 v3=>⟨[(1,.ptr 0 0),(2,.nil),(3,.nil),(4,.nil),(5,.nil),(6,aS v3 0),(7,aS [] 1),(8,aS [] 2),(9,aS [] 3),(10,pN i1)],⟨[some ⟨131,fQ pa0⟩],[⟨9,1,a4 (v3),false⟩,⟨9,1,a4 ([]),false⟩,⟨9,1,a4 ([]),false⟩,⟨9,1,a4 ([]),false⟩]⟩⟩) (fun v3=>⟨[(1,.ptr 0 0),(2,.nil),(3,.nil),(4,.nil),(5,.nil),(6,aS v3 0),(7,aS [] 1),(8,aS [] 2),(9,aS [] 3)],⟨[some ⟨131,fQ pa0⟩],[⟨9,1,a4 (v3),false⟩,⟨9,1,a4 ([]),false⟩,⟨9,1,a4 ([]),false⟩,⟨9,1,a4 ([]),false⟩]⟩⟩) (f8 H) ?_ ?_
 ·rintro i1 v3 H
  iterate 2 refine qS ?_
  refine qR (q1 aE (q1 (a6 pP) (q1 (bD D1) (q1 (eB yG (aT.trs_len _)) (q1 gP (qN ?_))))))
  refine dT H (fun h5 h5l H=>?_) (fun h5 H=>?_)
  ·have h5n:=a8 h5
   refine aQ.skip (qS (aQ.block (qR (q1 aE (q1 (a6 pP) (q1 (bD D1) (q1 aE (q1 (gV h5n yG) (q1 (nK A9) (q1 (mC eE) (q1 (hH ([((aW pa0.gTraits i1).gName)]:List ByteArray) bU kG) (cX H fun z6 H=>(q1 (kX z6 bU qH) ?_)))))))))))))
   refine q1 aE (qN (qR (q1 aE (q1 (aX.addI rfl rfl rfl rfl (c:=((i1+1:Nat):Int)) (by omega) (by omega)) (q1 aE (qN ?_))))))
   exact iK h5l ⟨_,(aZ H:),b0⟩
  refine aQ.exit ?_;exact j0 ⟨_,H,b0⟩
 rintro v3 H
 iterate 2 refine qS ?_
 refine qR (q1 aE (qN ?_))
 refine aQ.fact (cE 0 3 rfl rfl rfl (aN.trs_len _)) (fun hl12=>?_)
 refine b9 (σ:=(List ByteArray)×(List ByteArray)) (fun i7 (v10,v11)=>⟨[(1,.ptr 0 0),(2,.nil),(3,.nil),(4,.nil),(5,.nil),(6,aS v3 0),(7,aS v10 1),(8,aS v11 2),(9,aS [] 3),(11,pN i7)],⟨[some ⟨131,fQ pa0⟩],[⟨9,1,a4 (v3),false⟩,⟨9,1,a4 (v10),false⟩,⟨9,1,a4 (v11),false⟩,⟨9,1,a4 ([]),false⟩]⟩⟩) (fun(v10,v11)=>⟨[(1,.ptr 0 0),(2,.nil),(3,.nil),(4,.nil),(5,.nil),(6,aS v3 0),(7,aS v10 1),(8,aS v11 2),(9,aS [] 3)],⟨[some ⟨131,fQ pa0⟩],[⟨9,1,a4 (v3),false⟩,⟨9,1,a4 (v10),false⟩,⟨9,1,a4 (v11),false⟩,⟨9,1,a4 ([]),false⟩]⟩⟩) (f8 H) ?_ ?_
 ·rintro i7 ⟨v10,v11⟩ H
  iterate 2 refine qS ?_
  refine qR (q1 aE (q1 (a6 sK) (q1 (bD K0) (q1 (eB C9 (aN.trs_len _)) (q1 gP (qN ?_))))))
  refine dT H (fun h13 h13l H=>?_) (fun h13 H=>?_)
  ·have h13n:=a8 h13
   refine aQ.skip (qS (aQ.block (qS (qR (q1 aE (q1 (a6 sK) (q1 (bD K0) (q1 aE (q1 (gV h13n C9) (q1 (nK WN) (q1 (mC eE) (q1 (hH ([((aW pa0.gDataTypes i7).gName)]:List ByteArray) bU kG) (cX H fun z14 H=>?_)))))))))))))
   refine q1 (kX z14 bU qH) (q1 aE (qN (qS (qR (q1 aE (qN ?_))))))
   refine b9 (σ:=(List ByteArray)) (fun i15 v17=>⟨[(1,.ptr 0 0),(2,.nil),(3,.nil),(4,.nil),(5,.nil),(6,aS v3 0),(7,aS (v10++([((aW pa0.gDataTypes i7).gName)]:List ByteArray)) 1),(8,aS v17 2),(9,aS [] 3),(11,pN i7),(12,pN i15),(34,pN i7),(35,.ptr 0 3),(36,r8 pa0.gDataTypes),(37,pN pa0.gDataTypes.length),(38,pB (decide ((i7:Int)<(pa0.gDataTypes.length:Int)))),(41,aS v10 1),(42,.ptr 0 3),(43,r8 pa0.gDataTypes),(44,pN i7),(45,.eptr (aN.cs (aW pa0.gDataTypes i7))),(46,.eptr (aN.cs (aW pa0.gDataTypes i7))),(47,pS ((aW pa0.gDataTypes i7).gName)),(48,rS ([((aW pa0.gDataTypes i7).gName)]:List ByteArray)),(49,aS (v10++([((aW pa0.gDataTypes i7).gName)]:List ByteArray)) 1)],⟨[some ⟨131,fQ pa0⟩],[⟨9,1,a4 (v3),false⟩,⟨9,1,a4 (v10++([((aW pa0.gDataTypes i7).gName)]:List ByteArray)),false⟩,⟨9,1,a4 (v17),false⟩,⟨9,1,a4 ([]),false⟩]⟩⟩) (fun v17=>⟨[(1,.ptr 0 0),(2,.nil),(3,.nil),(4,.nil),(5,.nil),(6,aS v3 0),(7,aS (v10++([((aW pa0.gDataTypes i7).gName)]:List ByteArray)) 1),(8,aS v17 2),(9,aS [] 3),(11,pN i7),(34,pN i7),(35,.ptr 0 3),(36,r8 pa0.gDataTypes),(37,pN pa0.gDataTypes.length),(38,pB (decide ((i7:Int)<(pa0.gDataTypes.length:Int)))),(41,aS v10 1),(42,.ptr 0 3),(43,r8 pa0.gDataTypes),(44,pN i7),(45,.eptr (aN.cs (aW pa0.gDataTypes i7))),(46,.eptr (aN.cs (aW pa0.gDataTypes i7))),(47,pS ((aW pa0.gDataTypes i7).gName)),(48,rS ([((aW pa0.gDataTypes i7).gName)]:List ByteArray)),(49,aS (v10++([((aW pa0.gDataTypes i7).gName)]:List ByteArray)) 1)],⟨[some ⟨131,fQ pa0⟩],[⟨9,1,a4 (v3),false⟩,⟨9,1,a4 (v10++([((aW pa0.gDataTypes i7).gName)]:List ByteArray)),false⟩,⟨9,1,a4 (v17),false⟩,⟨9,1,a4 ([]),false⟩]⟩⟩) (f8 H) ?_ ?_
   ·rintro i15 v17 H
    iterate 2 refine qS ?_
    refine qR (q1 aE (q1 (a6 sK) (q1 (bD K0) (q1 aE (q1 (gV h13n C9) (q1 (nK mB) (q1 (mC yP) ?_)))))))
    refine amA 56 (aC.trs_len _) (fun hl18=>?_)
    refine q1 (eB vS (aC.trs_len _)) (q1 gP (qN ?_))
    refine dT H (fun h19 h19l H=>?_) (fun h19 H=>?_)
    ·have h19n:=a8 h19
     refine aQ.skip (qS (aQ.block (qR (q1 aE (q1 (a6 sK) (q1 (bD K0) (q1 aE (q1 (gV h13n C9) (q1 (nK mB) (q1 (mC yP) (q1 aE (q1 (gV h19n vS) (q1 (nK PY) ?_)))))))))))))
     refine q1 (mC eE) (q1 (hH ([((aW ((aW pa0.gDataTypes i7).gConstructors) i15).gName)]:List ByteArray) bU kG) (cX H fun z20 H=>(q1 (kX z20 bU qH) (q1 aE (qN (qR (q1 aE (q1 (aX.addI rfl rfl rfl rfl (c:=((i15+1:Nat):Int)) (by omega) (by omega)) (q1 aE (qN ?_))))))))))
     exact iK h19l ⟨_,(aZ H:),b0⟩
    refine aQ.exit ?_;exact j0 ⟨_,H,b0⟩
   rintro v17 H
   refine qR (q1 aE (q1 (aX.addI rfl rfl rfl rfl (c:=((i7+1:Nat):Int)) (by omega) (by omega)) (q1 aE (qN ?_))))
   exact iK h13l ⟨_,(aZ H:),b0⟩
  refine aQ.exit ?_;exact j0 ⟨_,H,b0⟩
 rintro⟨v10,v11⟩ H
 iterate 2 refine qS ?_
 refine qR (q1 aE (qN ?_))
 refine aQ.fact (cE 0 5 rfl rfl rfl (aM.trs_len _)) (fun hl24=>?_)
 refine b9 (σ:=(List ByteArray)) (fun i21 v23=>⟨[(1,.ptr 0 0),(2,.nil),(3,.nil),(4,.nil),(5,.nil),(6,aS v3 0),(7,aS v10 1),(8,aS v11 2),(9,aS v23 3),(13,pN i21)],⟨[some ⟨131,fQ pa0⟩],[⟨9,1,a4 (v3),false⟩,⟨9,1,a4 (v10),false⟩,⟨9,1,a4 (v11),false⟩,⟨9,1,a4 (v23),false⟩]⟩⟩) (fun v23=>⟨[(2,.nil),(3,.nil),(4,.nil),(5,.nil),(6,aS v3 0),(7,aS v10 1),(8,aS v11 2),(9,aS v23 3)],⟨[some ⟨131,fQ pa0⟩],[⟨9,1,a4 (v3),false⟩,⟨9,1,a4 (v10),false⟩,⟨9,1,a4 (v11),false⟩,⟨9,1,a4 (v23),false⟩]⟩⟩) (f8 H) ?_ ?_
 ·rintro i21 v23 H
  iterate 2 refine qS ?_
  refine qR (q1 aE (q1 (a6 wD) (q1 (bD SH) (q1 (eB JS (aM.trs_len _)) (q1 gP (qN ?_))))))
  refine dT H (fun h25 h25l H=>?_) (fun h25 H=>?_)
  ·have h25n:=a8 h25
   refine aQ.skip (qS (aQ.block (qR (q1 aE (q1 (a6 wD) (q1 (bD SH) (q1 aE (gL H fun y26 h27 H=>(q1 (vT h27 h25n JS) (q1 (nK PP) (q1 (mC eE) (q1 (hH ([y26.gName]:List ByteArray) bU kG) (cX H fun z28 H=>?_)))))))))))))
   refine q1 (kX z28 bU qH) (q1 aE (qN (qR (q1 aE (q1 (aX.addI rfl rfl rfl rfl (c:=((i21+1:Nat):Int)) (by omega) (by omega)) (q1 aE (qN ?_)))))))
   exact iK h25l ⟨_,(aZ H:),b0⟩
  refine aQ.exit ?_;exact j0 ⟨_,H,b0⟩
 rintro v23 H
 refine qS (qR ?_)
 iterate 8 refine q1 aE ?_
 refine qN (aQ.ret ?_)
 cases aZ H
 exact qe (ps:= [_,_,_,_]) ⟨rfl,rfl⟩ ⟨rfl,rfl,rfl,rfl,trivial⟩
def acW(m:aL→Option Bool):Prop:= ∀(pp:aL) (r:Bool),m pp=some r→b4 Tryz.prog 238 [(aL.pv pp)] (pB r:PV)
def YQ(fu:Nat)(pp:aL):Nat→Unit→Option (LR Unit Bool):=
 fun i1 _=>bd (q8 fu (aW pp.gTraits i1)) (fun x5=>
 sw (!(x5))
 (some (.ret false))
 (some (.next ())))
def YU(fu:Nat)(pp:aL):Option (Bool⊕Unit):=
 loopN (YQ fu pp) (pp.gTraits.length-0) 0 ()
def YR(fu:Nat)(pp:aL):Nat→Unit→Option (LR Unit Bool):=
 fun i7 _=>bd (m7 fu (aW pp.gDataTypes i7)) (fun x11=>
 sw (!(x11))
 (some (.ret false))
 (some (.next ())))
def YV(fu:Nat)(pp:aL):Option (Bool⊕Unit):=
 loopN (YR fu pp) (pp.gDataTypes.length-0) 0 ()
def YS(fu:Nat)(pp:aL):Nat→Unit→Option (LR Unit Bool):=
 fun i13 _=>lt (aW pp.gInstances i13) (fun y16=>
 bd (m9 fu y16) (fun x19=>
 sw (!(x19))
 (some (.ret false))
 (some (.next ()))))
def YW(fu:Nat)(pp:aL):Option (Bool⊕Unit):=
 loopN (YS fu pp) (pp.gInstances.length-0) 0 ()
def YT(fu:Nat)(pp:aL):Nat→Unit→Option (LR Unit Bool):=
 fun i21 _=>lt (aW pp.gFunctions i21) (fun y24=>
 bd (m8 fu y24) (fun x27=>
 sw (!(x27))
 (some (.ret false))
 (some (.next ()))))
def YX(fu:Nat)(pp:aL):Option (Bool⊕Unit):=
 loopN (YT fu pp) (pp.gFunctions.length-0) 0 ()
def EA(fu:Nat)(pp:aL):Option Bool:=
 so (YU fu pp) (fun _=>
 so (YV fu pp) (fun _=>
 so (YW fu pp) (fun _=>
 so (YX fu pp) (fun _=>
 some true))))
theorem YY(fu:Nat):acW (EA fu):=by
 intro pp r H
 have H:=eF H
 refine qI Tryz.func238 (fun C hC=>?_)
 refine qS (qR (q1 (jP (fQ pp)) (q1 aE (qN ?_))))
 iterate 2 refine qS ?_
 refine qR (q1 aE (qN ?_))
 refine aQ.fact (cE 0 2 rfl rfl rfl (aT.trs_len _)) (fun hl2=>?_)
 refine b9 (σ:=Unit) (fun i1 _=>⟨[(1,.ptr 0 0),(2,pB false),(3,pN i1)],⟨[some ⟨131,fQ pp⟩],[]⟩⟩) (fun _=>⟨[(1,.ptr 0 0),(2,pB false)],⟨[some ⟨131,fQ pp⟩],[]⟩⟩) (f8 H) ?_ ?_
 ·rintro i1 ⟨⟩ H
  iterate 2 refine qS ?_
  refine qR (q1 aE (q1 (a6 pP) (q1 (bD D1) (q1 (eB yG (aT.trs_len _)) (q1 gP (qN ?_))))))
  refine dT H (fun h3 h3l H=>?_) (fun h3 H=>?_)
  ·have h3n:=a8 h3
   refine aQ.skip (qS (aQ.block (qS (qR (q1 (a6 pP) (q1 (bD D1) (q1 aE (q1 (gV h3n yG) (q1 (jW (aT.cs (aW pp.gTraits i1)) pX) (bN H fun x5 z4 H=>(q1 (bG Tryz.func256 (AO fu (aW pp.gTraits i1) _ z4)) (q1 gW (qN ?_)))))))))))))
   refine bA H (fun h6 H=>?_) (fun h6 H=>?_)
   ·refine qS (qR (q1 aE (qN (aQ.ret ?_))))
    obtain rfl:_=r:=(p8 (aZ H):)
    exact bL
   refine aQ.skip (qR (q1 aE (q1 (aX.addI rfl rfl rfl rfl (c:=((i1+1:Nat):Int)) (by omega) (by omega)) (q1 aE (qN ?_)))))
   exact iK h3l ⟨_,(aZ H:),b0⟩
  refine aQ.exit ?_;exact j0 ⟨_,H,b0⟩
 rintro⟨⟩ H
 iterate 2 refine qS ?_
 refine qR (q1 aE (qN ?_))
 refine aQ.fact (cE 0 3 rfl rfl rfl (aN.trs_len _)) (fun hl8=>?_)
 refine b9 (σ:=Unit) (fun i7 _=>⟨[(1,.ptr 0 0),(2,pB false),(4,pN i7)],⟨[some ⟨131,fQ pp⟩],[]⟩⟩) (fun _=>⟨[(1,.ptr 0 0),(2,pB false)],⟨[some ⟨131,fQ pp⟩],[]⟩⟩) (f8 H) ?_ ?_
 ·rintro i7 ⟨⟩ H
  iterate 2 refine qS ?_
  refine qR (q1 aE (q1 (a6 sK) (q1 (bD K0) (q1 (eB C9 (aN.trs_len _)) (q1 gP (qN ?_))))))
  refine dT H (fun h9 h9l H=>?_) (fun h9 H=>?_)
  ·have h9n:=a8 h9
   refine aQ.skip (qS (aQ.block (qS (qR (q1 (a6 sK) (q1 (bD K0) (q1 aE (q1 (gV h9n C9) (q1 (jW (aN.cs (aW pp.gDataTypes i7)) s3) (bN H fun x11 z10 H=>(q1 (bG Tryz.func257 (vU fu (aW pp.gDataTypes i7) _ z10)) (q1 gW (qN ?_)))))))))))))
   refine bA H (fun h12 H=>?_) (fun h12 H=>?_)
   ·refine qS (qR (q1 aE (qN (aQ.ret ?_))))
    obtain rfl:_=r:=(p8 (aZ H):)
    exact bL
   refine aQ.skip (qR (q1 aE (q1 (aX.addI rfl rfl rfl rfl (c:=((i7+1:Nat):Int)) (by omega) (by omega)) (q1 aE (qN ?_)))))
   exact iK h9l ⟨_,(aZ H:),b0⟩
  refine aQ.exit ?_;exact j0 ⟨_,H,b0⟩
 rintro⟨⟩ H
 iterate 2 refine qS ?_
 refine qR (q1 aE (qN ?_))
 refine aQ.fact (cE 0 4 rfl rfl rfl (aH.trs_len _)) (fun hl14=>?_)
 refine b9 (σ:=Unit) (fun i13 _=>⟨[(1,.ptr 0 0),(2,pB false),(5,pN i13)],⟨[some ⟨131,fQ pp⟩],[]⟩⟩) (fun _=>⟨[(1,.ptr 0 0),(2,pB false)],⟨[some ⟨131,fQ pp⟩],[]⟩⟩) (f8 H) ?_ ?_
 ·rintro i13 ⟨⟩ H
  iterate 2 refine qS ?_
  refine qR (q1 aE (q1 (a6 qU) (q1 (bD GZ) (q1 (eB CC (aH.trs_len _)) (q1 gP (qN ?_))))))
  refine dT H (fun h15 h15l H=>?_) (fun h15 H=>?_)
  ·have h15n:=a8 h15
   refine aQ.skip (qS (aQ.block (qS (qR (q1 (a6 qU) (q1 (bD GZ) (q1 aE (gL H fun y16 h17 H=>(q1 (vT h17 h15n CC) (q1 (jW (aH.cs y16) n9) (bN H fun x19 z18 H=>(q1 (bG Tryz.func258 (vW fu y16 _ z18)) (q1 gW ?_)))))))))))))
   refine qN ?_;refine bA H (fun h20 H=>?_) (fun h20 H=>?_)
   ·refine qS (qR (q1 aE (qN (aQ.ret ?_))))
    obtain rfl:_=r:=(p8 (aZ H):)
    exact bL
   refine aQ.skip (qR (q1 aE (q1 (aX.addI rfl rfl rfl rfl (c:=((i13+1:Nat):Int)) (by omega) (by omega)) (q1 aE (qN ?_)))))
   exact iK h15l ⟨_,(aZ H:),b0⟩
  refine aQ.exit ?_;exact j0 ⟨_,H,b0⟩
 rintro⟨⟩ H
 iterate 2 refine qS ?_
 refine qR (q1 aE (qN ?_))
 refine aQ.fact (cE 0 5 rfl rfl rfl (aM.trs_len _)) (fun hl22=>?_)
 refine b9 (σ:=Unit) (fun i21 _=>⟨[(1,.ptr 0 0),(2,pB false),(6,pN i21)],⟨[some ⟨131,fQ pp⟩],[]⟩⟩) (fun _=>⟨[(2,pB false)],⟨[some ⟨131,fQ pp⟩],[]⟩⟩) (f8 H) ?_ ?_
 ·rintro i21 ⟨⟩ H
  iterate 2 refine qS ?_
  refine qR (q1 aE (q1 (a6 wD) (q1 (bD SH) (q1 (eB JS (aM.trs_len _)) (q1 gP (qN ?_))))))
  refine dT H (fun h23 h23l H=>?_) (fun h23 H=>?_)
  ·have h23n:=a8 h23
   refine aQ.skip (qS (aQ.block (qS (qR (q1 (a6 wD) (q1 (bD SH) (q1 aE (gL H fun y24 h25 H=>(q1 (vT h25 h23n JS) (q1 (jW (aM.cs y24) qQ) (bN H fun x27 z26 H=>(q1 (bG Tryz.func259 (vV fu y24 _ z26)) (q1 gW ?_)))))))))))))
   refine qN ?_;refine bA H (fun h28 H=>?_) (fun h28 H=>?_)
   ·refine qS (qR (q1 aE (qN (aQ.ret ?_))))
    obtain rfl:_=r:=(p8 (aZ H):)
    exact bL
   refine aQ.skip (qR (q1 aE (q1 (aX.addI rfl rfl rfl rfl (c:=((i21+1:Nat):Int)) (by omega) (by omega)) (q1 aE (qN ?_)))))
   exact iK h23l ⟨_,(aZ H:),b0⟩
  refine aQ.exit ?_;exact j0 ⟨_,H,b0⟩
 rintro⟨⟩ H
 refine qS (qR (q1 aE (qN (aQ.ret ?_))))
 cases aZ H
 exact bL
def KW(m:aL→Option Bool):Prop:= ∀(pa0:aL) (r:Bool),m pa0=some r→b4 Tryz.prog 221 [(aL.pv pa0)] (pB r:PV)
def sY(fu:Nat)(pa0:aL):Option Bool:=
 bd (D9 fu pa0) (fun(x2,x3,x4,x5)=>
 bd (dH fu pa0.gName) (fun x7=>
 sw (!(x7))
 (some false)
 (bd (fY fu pa0.gDeps 5) (fun x10=>
 sw (!(x10))
 (some false)
 (bd (jZ fu pa0.gDeps pa0.gName) (fun x13=>
 sw (x13)
 (some false)
 (sw (decide ((aR ((aR ((aR ((pa0.gTraits.length:Int)+(pa0.gDataTypes.length:Int)))+(pa0.gInstances.length:Int)))+(pa0.gFunctions.length:Int)):Int)>24))
 (some false)
 (bd (jH fu x2) (fun x17=>
 sw (x17)
 (bd (jH fu x3) (fun x20=>
 sw (x20)
 (bd (jH fu x4) (fun x23=>
 sw (x23)
 (bd (jH fu x5) (fun x26=>
 sw (x26)
 (bd (EA fu pa0) (fun x29=>
 some x29))
 (some false)))
 (some false)))
 (some false)))
 (some false))))))))))
theorem IS(fu:Nat):KW (sY fu):=by
 intro pa0 r H
 have H:=eF H
 refine qI Tryz.func221 (fun C hC=>?_)
 refine qS (qR (q1 (jP (fQ pa0)) (q1 aE (qN (qS (qR (q1 (cU [pS pa0.gName,rS pa0.gDeps,MK pa0.gTraits,r8 pa0.gDataTypes,wW pa0.gInstances,E5 pa0.gFunctions] pG) (apN H fun x2 x3 x4 x5 z1 H=>(q1 (bG Tryz.func234 (YP fu pa0 _ z1)) (q1 aE ?_))))))))))
 iterate 4 refine q1 uB ?_
 iterate 4 refine q1 aE ?_
 refine qN ?_
 iterate 2 refine qS ?_
 refine qR (q1 (a6 WO) (q1 (bD eE) (bN H fun x7 z6 H=>(q1 (bG Tryz.func235 (dQ fu pa0.gName _ z6)) (q1 gW (q1 aE ?_))))))
 refine dY 18 H (fun g8 H=>?_) fun g8 H=>?_
 ·refine qk g8 ?_
  iterate 3 refine qk g8 ?_
  refine q1 (bS g8) (q1 aE ?_)
  iterate 5 refine qk rfl ?_
  refine q1 (bS rfl) (q1 aE ?_)
  iterate 16 refine qk rfl ?_
  refine q1 (bS rfl) (qN (dM rfl (qS (qR (q1 aE (qN (aQ.ret ?_)))))))
  cases aZ H
  exact bL
 refine qg g8 (a6 PO) (qg g8 (bD jC) (bN H fun x10 z9 H=>(qg g8 (bG Tryz.func236 (gC fu pa0.gDeps 5 _ z9)) (qg g8 gW (q1 (b6 g8) (q1 aE ?_))))))
 refine dY 24 H (fun g11 H=>?_) fun g11 H=>?_
 ·refine qk g11 ?_
  iterate 4 refine qk g11 ?_
  refine q1 (bS g11) (q1 aE ?_)
  iterate 16 refine qk rfl ?_
  refine q1 (bS rfl) (qN (dM rfl (qS (qR (q1 aE (qN (aQ.ret ?_)))))))
  cases aZ H
  exact bL
 refine qg g11 (a6 PO) (qg g11 (bD jC) (qg g11 (a6 WO) (qg g11 (bD eE) (bN H fun x13 z12 H=>(qg g11 (bG Tryz.func125 (lA fu pa0.gDeps pa0.gName _ z12)) (q1 (b6 g11) (q1 aE ?_)))))))
 refine dY 31 H (fun g14 H=>?_) fun g14 H=>?_
 ·refine qk g14 ?_
  iterate 15 refine qk g14 ?_
  refine q1 (bS g14) (qN (dM rfl (qS (qR (q1 aE (qN (aQ.ret ?_)))))))
  cases aZ H
  exact bL
 refine qg g14 (a6 pP) (qg g14 (bD D1) (qg g14 (eB yG (aT.trs_len _)) (qg g14 (a6 sK) (qg g14 (bD K0) (qg g14 (eB C9 (aN.trs_len _)) (qg g14 RJ (qg g14 (a6 qU) (qg g14 (bD GZ) (qg g14 (eB CC (aH.trs_len _)) (qg g14 RJ (qg g14 (a6 wD) (qg g14 (bD SH) (qg g14 (eB JS (aM.trs_len _)) ?_)))))))))))))
 refine qg g14 RJ (qg g14 KN (q1 (b6 g14) (qN ?_)))
 refine bA H (fun h15 H=>?_) (fun h15 H=>?_)
 ·refine qS (qR (q1 aE (qN (aQ.ret ?_))))
  cases aZ H
  exact bL
 refine aQ.skip (qS (qR (q1 aE (bN H fun x17 z16 H=>(q1 (bG Tryz.func237 (k8 fu x2 _ z16)) (q1 aE ?_))))))
 refine dY 51 H (fun g18 H=>?_) fun g18 H=>?_
 ·refine qg g18 aE (bN H fun x20 z19 H=>(qg g18 (bG Tryz.func237 (k8 fu x3 _ z19)) (q1 (bS g18) (q1 aE ?_))))
  refine dY 55 H (fun g21 H=>?_) fun g21 H=>?_
  ·refine qg g21 aE (bN H fun x23 z22 H=>(qg g21 (bG Tryz.func237 (k8 fu x4 _ z22)) (q1 (bS g21) (q1 aE ?_))))
   refine dY 59 H (fun g24 H=>?_) fun g24 H=>?_
   ·refine qg g24 aE (bN H fun x26 z25 H=>(qg g24 (bG Tryz.func237 (k8 fu x5 _ z25)) (q1 (bS g24) (q1 aE ?_))))
    refine dY 63 H (fun g27 H=>?_) fun g27 H=>?_
    ·refine qg g27 (cU [pS pa0.gName,rS pa0.gDeps,MK pa0.gTraits,r8 pa0.gDataTypes,wW pa0.gInstances,E5 pa0.gFunctions] pG) (bN H fun x29 z28 H=>(qg g27 (bG Tryz.func238 (YY fu pa0 _ z28)) (q1 (bS g27) (q1 aE (qN (aQ.ret ?_))))))
     cases aZ H
     exact bL
    iterate 2 refine qk g27 ?_
    refine q1 (b6 g27) (q1 aE (qN (aQ.ret ?_)))
    cases aZ H
    exact bL
   iterate 2 refine qk g24 ?_
   refine q1 (b6 g24) (q1 aE ?_)
   iterate 2 refine qk rfl ?_
   refine q1 (b6 rfl) (q1 aE (qN (aQ.ret ?_)))
   cases aZ H
   exact bL
  iterate 2 refine qk g21 ?_
  refine q1 (b6 g21) (q1 aE ?_)
  iterate 2 refine qk rfl ?_
  refine q1 (b6 rfl) (q1 aE ?_)
  iterate 2 refine qk rfl ?_
  refine q1 (b6 rfl) (q1 aE (qN (aQ.ret ?_)))
  cases aZ H
  exact bL
 iterate 2 refine qk g18 ?_
 refine q1 (b6 g18) (q1 aE ?_)
 iterate 2 refine qk rfl ?_
 refine q1 (b6 rfl) (q1 aE ?_)
 iterate 2 refine qk rfl ?_
 refine q1 (b6 rfl) (q1 aE ?_)
 iterate 2 refine qk rfl ?_
 refine q1 (b6 rfl) (q1 aE (qN (aQ.ret ?_)))
 cases aZ H
 exact bL
def KX(m:aB→Option (aL×Bool)):Prop:= ∀(pa0:aB) (r:aL×Bool),m pa0=some r→b4 Tryz.prog 208 [(aB.pv pa0)] (.tup [(aL.pv r.1),pB r.2]:PV)
def IW(fu:Nat)(pa0 x2:aB)(x4:List ByteArray)(x5:Bool)(x7:aB)(x9:Bool):Nat→(ByteArray×(List ByteArray)×(List aT)×(List aN)×(List aH)×(List aM))→Option (LR (ByteArray×(List ByteArray)×(List aT)×(List aN)×(List aH)×(List aM)) (aL×Bool)):=
 fun i17 (v18,v19,v24,v25,v26,v27)=>bd (JC fu (v18,v19,v24,v25,v26,v27) (aW pa0.gList i17)) (fun(x31,x32)=>
 sw (!(x31))
 (some (.ret ((aL.mk s_ [] [] [] [] []),false)))
 (some (.next (x32.1,x32.2.1,x32.2.2.1,x32.2.2.2.1,x32.2.2.2.2.1,x32.2.2.2.2.2))))
def IX(fu:Nat)(pa0 x2:aB)(x4:List ByteArray)(x5:Bool)(x7:aB)(x9:Bool):Option ((aL×Bool)⊕(ByteArray×(List ByteArray)×(List aT)×(List aN)×(List aH)×(List aM))):=
 loopN (IW fu pa0 x2 x4 x5 x7 x9) (pa0.gList.length-3) 3 (x7.gAtom,x4,([]),([]),([]),([]))
def sZ(fu:Nat)(pa0:aB):Option (aL×Bool):=
 bd (c7 fu pa0 2) (fun x2=>
 bd (xS fu x2.gList) (fun(x4,x5)=>
 bd (c7 fu pa0 1) (fun x7=>
 bd (gQ fu pa0) (fun x9=>
 sw (!(x9))
 (some ((aL.mk s_ [] [] [] [] []),false))
 (sw (decide ((pa0.gList.length:Int)<3))
 (some ((aL.mk s_ [] [] [] [] []),false))
 (gd (0<(pa0.gList).length)
 (sw (!decide ((aW pa0.gList 0).gAtom=VR))
 (some ((aL.mk s_ [] [] [] [] []),false))
 (gd (2<(pa0.gList).length)
 (sw (!decide ((aW pa0.gList 2).gAtom=s_))
 (some ((aL.mk s_ [] [] [] [] []),false))
 (sw (!(x5))
 (some ((aL.mk s_ [] [] [] [] []),false))
 (so (IX fu pa0 x2 x4 x5 x7 x9) (fun(v18,v19,v24,v25,v26,v27)=>
 bd (sY fu (aL.mk v18 v19 v24 v25 v26 v27)) (fun x35=>
 sw (!(x35))
 (some ((aL.mk s_ [] [] [] [] []),false))
 (some ((aL.mk v18 v19 v24 v25 v26 v27),true)))))))))))))))
theorem IY(fu:Nat):KX (sZ fu):=by
 intro pa0 r H
 have H:=eF H
 refine qI Tryz.func208 (fun C hC=>?_)
 refine qS (qR (q1 (jP ([pS pa0.gAtom,bB pa0.gList])) (q1 (gM sE) (q1 aE (qN (qS (qR (q1 (cU [pS pa0.gAtom,bB pa0.gList] bP) (bN H fun x2 z1 H=>(q1 (bG Tryz.func219 (cT fu pa0 2 _ z1)) (q1 (rF1 WW) (eT H fun x4 x5 z3 H=>(q1 (bG Tryz.func218 (EH fu x2.gList _ z3)) ?_)))))))))))))
 refine q1 aE ?_
 iterate 2 refine q1 uB ?_
 iterate 2 refine q1 aE ?_
 refine qN (qS (qR (q1 (cU [pS pa0.gAtom,bB pa0.gList] bP) (bN H fun x7 z6 H=>(q1 (bG Tryz.func219 (cT fu pa0 1 _ z6)) (q1 (rF1 sL) (q1 aE (q1 (eU sE GV) (q1 (gM sE) (q1 (bR tB) (qN ?_)))))))))))
 iterate 2 refine qS ?_
 refine qR (q1 (cU [pS pa0.gAtom,bB pa0.gList] bP) (bN H fun x9 z8 H=>(q1 (bG Tryz.func217 (cZ fu pa0 _ z8)) (q1 gW (q1 aE ?_)))))
 refine dY 23 H (fun g10 H=>?_) fun g10 H=>?_
 ·refine qk g10 ?_
  iterate 3 refine qk g10 ?_
  refine q1 (bS g10) (q1 aE ?_)
  iterate 6 refine qk rfl ?_
  refine q1 (bS rfl) (q1 aE ?_)
  iterate 6 refine qk rfl ?_
  refine q1 (bS rfl) (q1 aE ?_)
  iterate 2 refine qk rfl ?_
  refine q1 (bS rfl) (qN (dM rfl (qS (qR (q1 (eU sE GV) (q1 (bR tB) (q1 aE (qN (aQ.ret ?_)))))))))
  cases aZ H
  exact jM (hr:=⟨⟨_,_,_,rfl,rfl,pG,rfl,rfl⟩,rfl,trivial⟩)
 refine qg g10 (a6 bH) (qg g10 (bD cR) (qg g10 (eB bI (aB.trs_len _)) (qg g10 gP (q1 (b6 g10) (q1 aE ?_)))))
 refine dY 29 H (fun g11 H=>?_) fun g11 H=>?_
 ·have g11n:pa0.gList.length<3:=by have:=of_decide_eq_true g11;omega
  iterate 6 refine qk g11 ?_
  refine q1 (bS g11) (q1 aE ?_)
  iterate 6 refine qk rfl ?_
  refine q1 (bS rfl) (q1 aE ?_)
  iterate 2 refine qk rfl ?_
  refine q1 (bS rfl) (qN (dM rfl (qS (qR (q1 (eU sE GV) (q1 (bR tB) (q1 aE (qN (aQ.ret ?_)))))))))
  cases aZ H
  exact jM (hr:=⟨⟨_,_,_,rfl,rfl,pG,rfl,rfl⟩,rfl,trivial⟩)
 refine qg g11 (a6 bH) (qg g11 (bD cR) (cX H fun z12 H=>(qg g11 (gV z12 bI) (qg g11 (nK fA) (qg g11 (mC eE) (qg g11 RL (q1 (b6 g11) (q1 aE ?_))))))))
 refine dY 37 H (fun g13 H=>?_) fun g13 H=>?_
 ·refine qk g13 ?_
  iterate 5 refine qk g13 ?_
  refine q1 (bS g13) (q1 aE ?_)
  iterate 2 refine qk rfl ?_
  refine q1 (bS rfl) (qN (dM rfl (qS (qR (q1 (eU sE GV) (q1 (bR tB) (q1 aE (qN (aQ.ret ?_)))))))))
  cases aZ H
  exact jM (hr:=⟨⟨_,_,_,rfl,rfl,pG,rfl,rfl⟩,rfl,trivial⟩)
 refine qg g13 (a6 bH) (qg g13 (bD cR) (cX H fun z14 H=>(qg g13 (gV z14 bI) (qg g13 (nK fA) (qg g13 (mC eE) (qg g13 RL (q1 (b6 g13) (q1 aE ?_))))))))
 refine dY 45 H (fun g15 H=>?_) fun g15 H=>?_
 ·refine qk g15 (qk g15 (q1 (bS g15) (qN (dM rfl (qS (qR (q1 (eU sE GV) (q1 (bR tB) (q1 aE (qN (aQ.ret ?_)))))))))))
  cases aZ H
  exact jM (hr:=⟨⟨_,_,_,rfl,rfl,pG,rfl,rfl⟩,rfl,trivial⟩)
 refine qg g15 aE (qg g15 gW (q1 (b6 g15) (qN ?_)))
 refine bA H (fun h16 H=>?_) (fun h16 H=>?_)
 ·refine qS (qR (q1 (eU sE GV) (q1 (bR tB) (q1 aE (qN (aQ.ret ?_))))))
  cases aZ H
  exact jM (hr:=⟨⟨_,_,_,rfl,rfl,pG,rfl,rfl⟩,rfl,trivial⟩)
 refine aQ.skip ?_
 iterate 2 refine qS ?_
 refine qR (q1 aE (qN (aQ.wk (Wk.regBox (k:=2) (j:=2) 60 5 (by decide) rfl rfl) (aQ.wk (Wk.regBox (k:=2) (j:=3) 116 3 (by decide) rfl rfl) (aQ.wk (Wk.regBox (k:=2) (j:=4) 55 12 (by decide) rfl rfl) (aQ.wk (Wk.regBox (k:=2) (j:=5) 148 16 (by decide) rfl rfl) ?_))))))
 refine j8 25 (aB.trs_len _) (fun hl28=>?_)
 refine b9 (σ:=ByteArray×(List ByteArray)×(List aT)×(List aN)×(List aH)×(List aM)) (fun i17 (v18,v19,v24,v25,v26,v27)=>⟨[(1,.ptr 0 0),(2,.ptr 1 0),(3,pB false),(6,.ptr 2 0),(7,pN i17)],⟨[some ⟨237,[pS pa0.gAtom,bB pa0.gList]⟩,some ⟨131,[pS s_,.nil,.nil,.nil,.nil,.nil]⟩,some ⟨131,[pS v18,rS v19,w5 v24 0,mE v25 1,mG v26 2,mF v27 3]⟩],[⟨60,5,aT.trs (v24),false⟩,⟨116,3,aN.trs (v25),false⟩,⟨55,12,aH.trs (v26),false⟩,⟨148,16,aM.trs (v27),false⟩]⟩⟩) (fun(v18,v19,v24,v25,v26,v27)=>⟨[(2,.ptr 1 0),(3,pB false),(6,.ptr 2 0)],⟨[some ⟨237,[pS pa0.gAtom,bB pa0.gList]⟩,some ⟨131,[pS s_,.nil,.nil,.nil,.nil,.nil]⟩,some ⟨131,[pS v18,rS v19,w5 v24 0,mE v25 1,mG v26 2,mF v27 3]⟩],[⟨60,5,aT.trs (v24),false⟩,⟨116,3,aN.trs (v25),false⟩,⟨55,12,aH.trs (v26),false⟩,⟨148,16,aM.trs (v27),false⟩]⟩⟩) (f8 H) ?_ ?_
 ·rintro i17 ⟨v18,v19,v24,v25,v26,v27⟩ H
  iterate 2 refine qS ?_
  refine qR (q1 aE (q1 (a6 bH) (q1 (bD cR) (q1 (eB bI (aB.trs_len _)) (q1 gP (qN ?_))))))
  refine dT H (fun h29 h29l H=>?_) (fun h29 H=>?_)
  ·have h29n:=a8 h29
   refine aQ.skip (qS (aQ.block (qS (qR (q1 (a6 bH) (q1 (bD cR) (q1 aE (q1 (gV h29n bI) (q1 (jW (aB.cs (aW pa0.gList i17)) bP) (eT H fun x31 x32 z30 H=>(q1 (fM [2] [0,1,2,3] Tryz.func220 (acU fu (v18,v19,v24,v25,v26,v27) (aW pa0.gList i17) _ z30)) (q1 gW (qN ?_)))))))))))))
   refine bA H (fun h33 H=>?_) (fun h33 H=>?_)
   ·refine qS (qR (q1 (eU sE GV) (q1 (bR tB) (q1 aE (qN (aQ.ret ?_))))))
    obtain rfl:_=r:=(p8 (aZ H):)
    exact jM (hr:=⟨⟨_,_,_,rfl,rfl,pG,rfl,rfl⟩,rfl,trivial⟩)
   refine aQ.skip (qR (q1 aE (q1 (aX.addI rfl rfl rfl rfl (c:=((i17+1:Nat):Int)) (by omega) (by omega)) (q1 aE (qN ?_)))))
   exact iK h29l ⟨_,(aZ H:),b0⟩
  refine aQ.exit ?_;exact j0 ⟨_,H,b0⟩
 rintro⟨v18,v19,v24,v25,v26,v27⟩ H
 iterate 2 refine qS ?_
 refine qR (q1 (cU [pS v18,rS v19,w5 v24 0,mE v25 1,mG v26 2,mF v27 3] pG) (bN H fun x35 z34 H=>(q1 (bG Tryz.func221 (IS fu (aL.mk v18 v19 v24 v25 v26 v27) _ z34)) (q1 gW (qN ?_)))))
 refine bA H (fun h36 H=>?_) (fun h36 H=>?_)
 ·refine qS (qR (q1 (eU sE GV) (q1 (bR tB) (q1 aE (qN (aQ.ret ?_))))))
  cases aZ H
  exact jM (hr:=⟨⟨_,_,_,rfl,rfl,pG,rfl,rfl⟩,rfl,trivial⟩)
 refine aQ.skip (qS (qR (q1 (cU [pS v18,rS v19,w5 v24 0,mE v25 1,mG v26 2,mF v27 3] pG) (q1 (bR tB) (q1 aE (qN (aQ.ret ?_)))))))
 cases aZ H
 exact jM (hr:=⟨⟨_,_,_,rfl,rfl,pG,rfl,rfl⟩,rfl,trivial⟩)
def PD(m:ByteArray→Option (aL×Bool)):Prop:= ∀(ps:ByteArray) (r:aL×Bool),m ps=some r→b4 Tryz.prog 193 [pS ps] (.tup [(aL.pv r.1),pB r.2]:PV)
def vJ(fu:Nat)(ps:ByteArray):Option (aL×Bool):=
 bd (uD fu ps) (fun(x2,x3)=>
 sw (!(x3))
 (some ((aL.mk s_ [] [] [] [] []),false))
 (bd (sZ fu x2) (fun(x6,x7)=>
 some (x6,x7))))
theorem MS(fu:Nat):PD (vJ fu):=by
 intro ps r H
 have H:=eF H
 refine qI Tryz.func193 (fun C hC=>?_)
 refine qS (qR (q1 (gM sE) (q1 aE (qN (qS (qR (q1 aE (eT H fun x2 x3 z1 H=>(q1 (bG Tryz.func207 (SA fu ps _ z1)) (q1 aE ?_))))))))))
 iterate 2 refine q1 uB ?_
 refine q1 (gM b7) (q1 (bR eA) (q1 aE (qN ?_)))
 iterate 2 refine qS ?_
 refine qR (q1 aE (q1 gW (qN ?_)))
 refine bA H (fun h4 H=>?_) (fun h4 H=>?_)
 ·refine qS (qR (q1 (eU sE GV) (q1 (bR tB) (q1 aE (qN (aQ.ret ?_))))))
  cases aZ H
  exact jM (hr:=⟨⟨_,_,_,rfl,rfl,pG,rfl,rfl⟩,rfl,trivial⟩)
 refine aQ.skip (qS (qR (q1 (cU [pS x2.gAtom,bB x2.gList] bP) (eT H fun x6 x7 z5 H=>(q1 (bG Tryz.func208 (IY fu x2 _ z5)) ?_)))))
 iterate 2 refine q1 uB ?_
 refine q1 (bR tB) (q1 aE (qN (aQ.ret ?_)))
 cases aZ H
 exact jM (hr:=⟨⟨_,_,_,rfl,rfl,pG,rfl,rfl⟩,rfl,trivial⟩)
def PE(m:ByteArray→Option (aI×Int)):Prop:= ∀(ps:ByteArray) (r:aI×Int),m ps=some r→V2 Tryz.prog 165 [pS ps] ⟨[],[]⟩ [] 131 6 (aL.trs (r.1.gPackages)) (fun k=> .tup [.agg [qK r.1.gPackages k],pI r.2])
def MT(fu:Nat)(ps:ByteArray)(x2:List ByteArray):Nat→((List aL))→Option (LR ((List aL)) (aI×Int)):=
 fun i3 v5=>bd (D8 fu (aW x2 i3)) (fun x9=>
 sw (x9)
 (some (.next v5))
 (bd (vJ fu (aW x2 i3)) (fun(x12,x13)=>
 sw (!(x13))
 (some (.ret ((aI.mk []),(v5.length:Int))))
 (sw (decide ((v5.length:Int)=5))
 (some (.ret ((aI.mk []),(v5.length:Int))))
 (gd ((v5).length+(([x12]:List aL)).length≤68719476736)
 (some (.next (v5++([x12]:List aL)))))))))
def MU(fu:Nat)(ps:ByteArray)(x2:List ByteArray):Option ((aI×Int)⊕((List aL))):=
 loopN (MT fu ps x2) (x2.length-0) 0 ([])
def vK(fu:Nat)(ps:ByteArray):Option (aI×Int):=
 bd (BQ fu ps (10:UInt8)) (fun x2=>
 so (MU fu ps x2) (fun v5=>
 some ((aI.mk v5),(-1))))
theorem MV(fu:Nat):PE (vK fu):=by
 intro ps r H
 unfold V2
 have H:=eF H
 refine qI Tryz.func165 (fun C hC=>?_)
 refine qS (qR (q1 (gM JK) (q1 aE (qN (qS (qR (q1 (eU JK an1) (q1 (gM JK) (q1 (bR JJ) (qN (qS (qR (q1 aE ?_)))))))))))))
 refine bN H fun x2 z1 H=>(q1 (bG Tryz.func191 (UG fu ps (10:UInt8) _ z1)) (q1 aE (qN ?_)))
 iterate 2 refine qS ?_
 refine qR (q1 aE (qN (aQ.wk (Wk.regBox (k:=1) (j:=0) 131 6 (by decide) rfl rfl) ?_)))
 refine j8 5 (a9 _) (fun hl6=>?_)
 refine b9 (σ:=(List aL)) (fun i3 v5=>⟨[(2,.ptr 0 0),(3,pI 0),(4,.ptr 1 0),(5,rS x2),(6,pN i3)],⟨[some ⟨26,[.nil]⟩,some ⟨26,[qK v5 0]⟩],[⟨131,6,aL.trs (v5),false⟩]⟩⟩) (fun v5=>⟨[(2,.ptr 0 0),(3,pI 0),(4,.ptr 1 0)],⟨[some ⟨26,[.nil]⟩,some ⟨26,[qK v5 0]⟩],[⟨131,6,aL.trs (v5),false⟩]⟩⟩) (f8 H) ?_ ?_
 ·rintro i3 v5 H
  iterate 2 refine qS ?_
  refine qR ?_
  iterate 2 refine q1 aE ?_
  refine q1 (eB bU (a9 _)) (q1 gP (qN ?_))
  refine dT H (fun h7 h7l H=>?_) (fun h7 H=>?_)
  ·have h7n:=a8 h7
   refine aQ.skip (qS (aQ.block ?_))
   iterate 2 refine qS ?_
   refine qR ?_
   iterate 2 refine q1 aE ?_
   refine q1 (gV h7n bU) (q1 (mC eE) (bN H fun x9 z8 H=>(q1 (bG Tryz.func192 (YG fu (aW x2 i3) _ z8)) (qN ?_))))
   refine bA H (fun h10 H=>?_) (fun h10 H=>?_)
   ·refine aQ.exit (qR (q1 aE (q1 (aX.addI rfl rfl rfl rfl (c:=((i3+1:Nat):Int)) (by omega) (by omega)) (q1 aE (qN ?_)))))
    exact iK h7l ⟨_,(aZ H:),b0⟩
   refine aQ.skip (qS (qR ?_))
   iterate 2 refine q1 aE ?_
   refine q1 (gV h7n bU) (q1 (mC eE) (eT H fun x12 x13 z11 H=>(q1 (bG Tryz.func193 (MS fu (aW x2 i3) _ z11)) (q1 aE ?_))))
   iterate 2 refine q1 uB ?_
   refine q1 (gM sE) (q1 (bR tB) (q1 aE (qN ?_)))
   iterate 2 refine qS ?_
   refine qR (q1 aE (q1 gW (q1 aE ?_)))
   refine dY 33 H (fun g14 H=>?_) fun g14 H=>?_
   ·refine qk g14 ?_
    iterate 3 refine qk g14 ?_
    refine q1 (bS g14) (qN (dM rfl (qS (dW (dI [] (eU JK an1) (dI [4] (a6 kV) (dB [40] 0 1 (uI AP) (dI [41] (eB wB (aL.trs_len _)) (mN [2,39] (bR JJ) (dI [42] aE (dN (aQ.wk (Wk.regBox (k:=0) (j:=0) 131 6 (by decide) rfl rfl) (aQ.ret ?_)))))))))))))
    obtain rfl:_=r:=(p8 (aZ H):)
    exact jM (st':=⟨[],[⟨131,6,aL.trs (v5),false⟩,⟨131,6,aL.trs ([]),false⟩]⟩) ⟨1,rfl,rfl,rfl⟩ (hr:=⟨⟨_,_,_,rfl,rfl,nB,rfl,rfl⟩,rfl,trivial⟩)
   refine qg g14 (a6 kV) (qg g14 (bD AP) (qg g14 (eB wB (aL.trs_len _)) (qg g14 eG (q1 (b6 g14) (qN ?_)))))
   refine bA H (fun h15 H=>?_) (fun h15 H=>?_)
   ·refine qS (dW (dI [] (eU JK an1) (dI [4] (a6 kV) (dB [40] 0 1 (uI AP) (dI [41] (eB wB (aL.trs_len _)) (mN [2,39] (bR JJ) (dI [42] aE (dN (aQ.wk (Wk.regBox (k:=0) (j:=0) 131 6 (by decide) rfl rfl) (aQ.ret ?_))))))))))
    obtain rfl:_=r:=(p8 (aZ H):)
    exact jM (st':=⟨[],[⟨131,6,aL.trs (v5),false⟩,⟨131,6,aL.trs ([]),false⟩]⟩) ⟨1,rfl,rfl,rfl⟩ (hr:=⟨⟨_,_,_,rfl,rfl,nB,rfl,rfl⟩,rfl,trivial⟩)
   refine aQ.skip (qR (q1 (a6 kV) (q1 (bD AP) (q1 (cU [pS x12.gName,rS x12.gDeps,MK x12.gTraits,r8 x12.gDataTypes,wW x12.gInstances,E5 x12.gFunctions] pG) (q1 (qZ ([x12]:List aL) wB sE) (cX H fun z16 H=>(q1 (kX z16 wB apC) (q1 (a6 kV) (q1 (bR ao4) (qN (qR (q1 aE (q1 (aX.addI rfl rfl rfl rfl (c:=((i3+1:Nat):Int)) (by omega) (by omega)) ?_)))))))))))))
   refine q1 aE (qN ?_)
   exact iK h7l ⟨_,(aZ H:),b0⟩
  refine aQ.exit ?_;exact j0 ⟨_,H,b0⟩
 rintro v5 H
 refine qS (qR (q1 (cU [qK v5 0] nB) (q1 (bR JJ) (q1 aE (qN (aQ.ret ?_))))))
 cases aZ H
 exact jM (st':=⟨[],[⟨131,6,aL.trs (v5),false⟩]⟩) ⟨0,rfl,rfl,rfl⟩ (hr:=⟨⟨_,_,_,rfl,rfl,nB,rfl,rfl⟩,rfl,trivial⟩)
def afN(m:DS→Option (ByteArray×DS)):Prop:= ∀(pc:DS) (r:ByteArray×DS),m pc=some r→cP Tryz.prog 194 [.ptr 0 0] ⟨[some ⟨151,dC pc⟩],[]⟩ (fun q t=>q=(pS r.1:PV)∧t=⟨[some ⟨151,dC r.2⟩],[]⟩)
def JB(fu:Nat)(pc:DS):Option (ByteArray×DS):=
 gd ((cN).size+(cO).size≤1099511627776)
 (gd ((cN++cO).size+(cQ).size≤1099511627776)
 (gd (((cN++cO)++cQ).size+(cV).size≤1099511627776)
 (lt (pc.after 2) (fun d4=>
 sw (decide (pc.below 2=0))
 (gd ((((cN++cO)++cQ)++cV).size+(iI).size≤1099511627776)
 (gd (((((cN++cO)++cQ)++cV)++iI).size+(dK).size≤1099511627776)
 (gd ((((((cN++cO)++cQ)++cV)++iI)++dK).size+(eN).size≤1099511627776)
 (gd (((((((cN++cO)++cQ)++cV)++iI)++dK)++eN).size+(fK).size≤1099511627776)
 (gd ((((((((cN++cO)++cQ)++cV)++iI)++dK)++eN)++fK).size+(gU).size≤1099511627776)
 (gd (((((((((cN++cO)++cQ)++cV)++iI)++dK)++eN)++fK)++gU).size+(jY).size≤1099511627776)
 (gd ((((((((((cN++cO)++cQ)++cV)++iI)++dK)++eN)++fK)++gU)++jY).size+(nO).size≤1099511627776)
 (gd (((((((((((cN++cO)++cQ)++cV)++iI)++dK)++eN)++fK)++gU)++jY)++nO).size+(xZ).size≤1099511627776)
 (some ((((((((((((cN++cO)++cQ)++cV)++iI)++dK)++eN)++fK)++gU)++jY)++nO)++xZ),d4))))))))))
 (gd ((((cN++cO)++cQ)++cV).size+(iJ).size≤1099511627776)
 (gd (((((cN++cO)++cQ)++cV)++iJ).size+(dK).size≤1099511627776)
 (gd ((((((cN++cO)++cQ)++cV)++iJ)++dK).size+(eN).size≤1099511627776)
 (gd (((((((cN++cO)++cQ)++cV)++iJ)++dK)++eN).size+(fK).size≤1099511627776)
 (gd ((((((((cN++cO)++cQ)++cV)++iJ)++dK)++eN)++fK).size+(gU).size≤1099511627776)
 (gd (((((((((cN++cO)++cQ)++cV)++iJ)++dK)++eN)++fK)++gU).size+(jY).size≤1099511627776)
 (gd ((((((((((cN++cO)++cQ)++cV)++iJ)++dK)++eN)++fK)++gU)++jY).size+(nO).size≤1099511627776)
 (gd (((((((((((cN++cO)++cQ)++cV)++iJ)++dK)++eN)++fK)++gU)++jY)++nO).size+(xZ).size≤1099511627776)
 (some ((((((((((((cN++cO)++cQ)++cV)++iJ)++dK)++eN)++fK)++gU)++jY)++nO)++xZ),d4))))))))))))))
theorem acT(fu:Nat):afN (JB fu):=by
 intro pc r H
 have H:=eF H
 refine qI Tryz.func194 (fun C hC=>?_)
 refine qS (qR (q1 aE (qN (qS (qR (q1 aE (qN (qS (qR (q1 aE (cX H fun z1 H=>(q1 (aX.addS rfl rfl rfl rfl (Nat.le_trans z1 (by decide))) (q1 aE ?_)))))))))))))
 refine qN (qS (qR (q1 aE (cX H fun z2 H=>(q1 (aX.addS rfl rfl rfl rfl (Nat.le_trans z2 (by decide))) (q1 aE (qN (qS (qR (q1 aE (cX H fun z3 H=>(q1 (aX.addS rfl rfl rfl rfl (Nat.le_trans z3 (by decide))) (q1 aE ?_)))))))))))))
 refine qN ?_
 iterate 2 refine qS ?_
 refine qR (q1 aE (gL H fun d4 h5 H=>(q1 (fM [0] [] Tryz.func112 (CG h5 (mZ pc 2))) (qN ?_))))
 refine bA H (fun h6 H=>?_) (fun h6 H=>?_)
 ·refine qR (q1 aE (cX H fun z7 H=>(q1 (aX.addS rfl rfl rfl rfl (Nat.le_trans z7 (by decide))) (q1 aE (qN (qS (qR (q1 aE (cX H fun z8 H=>(q1 (aX.addS rfl rfl rfl rfl (Nat.le_trans z8 (by decide))) (q1 aE (qN (qS ?_)))))))))))))
  refine qR (q1 aE (cX H fun z9 H=>(q1 (aX.addS rfl rfl rfl rfl (Nat.le_trans z9 (by decide))) (q1 aE (qN (qS (qR (q1 aE (cX H fun z10 H=>(q1 (aX.addS rfl rfl rfl rfl (Nat.le_trans z10 (by decide))) (q1 aE (qN (qS ?_)))))))))))))
  refine qR (q1 aE (cX H fun z11 H=>(q1 (aX.addS rfl rfl rfl rfl (Nat.le_trans z11 (by decide))) (q1 aE (qN (qS (qR (q1 aE (cX H fun z12 H=>(q1 (aX.addS rfl rfl rfl rfl (Nat.le_trans z12 (by decide))) (q1 aE (qN (qS ?_)))))))))))))
  refine qR (q1 aE (cX H fun z13 H=>(q1 (aX.addS rfl rfl rfl rfl (Nat.le_trans z13 (by decide))) (q1 aE (qN (qS (qR (q1 aE (cX H fun z14 H=>(q1 (aX.addS rfl rfl rfl rfl (Nat.le_trans z14 (by decide))) (q1 aE (qN (aQ.ret ?_)))))))))))))
  cases aZ H
  exact bL
 refine qR (q1 aE (cX H fun z15 H=>(q1 (aX.addS rfl rfl rfl rfl (Nat.le_trans z15 (by decide))) (q1 aE (qN (qS (qR (q1 aE (cX H fun z16 H=>(q1 (aX.addS rfl rfl rfl rfl (Nat.le_trans z16 (by decide))) (q1 aE (qN (qS ?_)))))))))))))
 refine qR (q1 aE (cX H fun z17 H=>(q1 (aX.addS rfl rfl rfl rfl (Nat.le_trans z17 (by decide))) (q1 aE (qN (qS (qR (q1 aE (cX H fun z18 H=>(q1 (aX.addS rfl rfl rfl rfl (Nat.le_trans z18 (by decide))) (q1 aE (qN (qS ?_)))))))))))))
 refine qR (q1 aE (cX H fun z19 H=>(q1 (aX.addS rfl rfl rfl rfl (Nat.le_trans z19 (by decide))) (q1 aE (qN (qS (qR (q1 aE (cX H fun z20 H=>(q1 (aX.addS rfl rfl rfl rfl (Nat.le_trans z20 (by decide))) (q1 aE (qN (qS ?_)))))))))))))
 refine qR (q1 aE (cX H fun z21 H=>(q1 (aX.addS rfl rfl rfl rfl (Nat.le_trans z21 (by decide))) (q1 aE (qN (qS (qR (q1 aE (cX H fun z22 H=>(q1 (aX.addS rfl rfl rfl rfl (Nat.le_trans z22 (by decide))) (q1 aE (qN (aQ.ret ?_)))))))))))))
 cases aZ H
 exact bL
def ajA(m:DS→Option (ByteArray×DS)):Prop:= ∀(pc:DS) (r:ByteArray×DS),m pc=some r→cP Tryz.prog 195 [.ptr 0 0] ⟨[some ⟨151,dC pc⟩],[]⟩ (fun q t=>q=(pS r.1:PV)∧t=⟨[some ⟨151,dC r.2⟩],[]⟩)
def afJ(fu:Nat)(pc:DS):Option ((ByteArray×DS)⊕(ByteArray×DS)):=
 lt (pc.after 8) (fun d3=>
 sw (decide ((pc.below 8:Int)=0))
 (gd ((eM).size+(KA).size≤1099511627776)
 (some (.inr ((eM++KA),d3))))
 (sw (decide ((pc.below 8:Int)=1))
 (gd ((eM).size+(J8).size≤1099511627776)
 (some (.inr ((eM++J8),d3))))
 (sw (decide ((pc.below 8:Int)=2))
 (gd ((eM).size+(J2).size≤1099511627776)
 (some (.inr ((eM++J2),d3))))
 (sw (decide ((pc.below 8:Int)=3))
 (gd ((eM).size+(J4).size≤1099511627776)
 (some (.inr ((eM++J4),d3))))
 (sw (decide ((pc.below 8:Int)=4))
 (gd ((eM).size+(J3).size≤1099511627776)
 (some (.inr ((eM++J3),d3))))
 (sw (decide ((pc.below 8:Int)=5))
 (gd ((eM).size+(J7).size≤1099511627776)
 (some (.inr ((eM++J7),d3))))
 (gd ((eM).size+(J5).size≤1099511627776)
 (some (.inr ((eM++J5),d3))))))))))
def afK(fu:Nat)(pc:DS)(v1:ByteArray)(v2 d19:DS)(y21:ByteArray):Option ((ByteArray×DS)⊕(ByteArray×DS)):=
 lt (d19.after 2) (fun d27=>
 sw (decide (d19.below 2=0))
 (gd ((((v1++nN)++y21)++xZ).size+(J6).size≤1099511627776)
 (some (.inr (((((v1++nN)++y21)++xZ)++J6),d27))))
 (some (.inr ((((v1++nN)++y21)++xZ),d27))))
def afL(fu:Nat)(pc:DS)(v1:ByteArray)(v2 d19:DS)(y21 v25:ByteArray)(v26:DS):Option ((ByteArray×DS)⊕(ByteArray×DS)):=
 lt (v26.after 3) (fun d33=>
 sw (decide (v26.below 3=0))
 (gd ((v25).size+(J9).size≤1099511627776)
 (some (.inr ((v25++J9),d33))))
 (some (.inr (v25,d33))))
def NE(fu:Nat)(pc:DS):Option (ByteArray×DS):=
 so (afJ fu pc) (fun(v1,v2)=>
 gd ((v1).size+(nN).size≤1099511627776)
 (lt (v2.after ([z0,zZ,zX,AA,zW,AD,AE,AB,AC,zV]:List ByteArray).length) (fun d19=>
 lt (v2.pick ([z0,zZ,zX,AA,zW,AD,AE,AB,AC,zV]:List ByteArray)) (fun y21=>
 gd ((v1++nN).size+(y21).size≤1099511627776)
 (gd (((v1++nN)++y21).size+(xZ).size≤1099511627776)
 (so (afK fu pc v1 v2 d19 y21) (fun(v25,v26)=>
 so (afL fu pc v1 v2 d19 y21 v25 v26) (fun(v31,v32)=>
 lt (v32.after 4) (fun d37=>
 sw (decide (v32.below 4=0))
 (gd ((v31).size+(zY).size≤1099511627776)
 (gd ((v31++zY).size+(xZ).size≤1099511627776)
 (some (((v31++zY)++xZ),d37))))
 (gd ((v31).size+(xZ).size≤1099511627776)
 (some ((v31++xZ),d37))))))))))))
theorem afM(fu:Nat):ajA (NE fu):=by
 intro pc r H
 have H:=eF H
 refine qI Tryz.func195 (fun C hC=>?_)
 refine qS (qR (q1 aE (qN (qS (qR (q1 aE (qN (qS ?_))))))))
 refine qD (σ:=ByteArray×DS) (fun(v1,v2)=>⟨[(0,.ptr 0 0),(2,pS s_),(3,pS v1)],⟨[some ⟨151,dC v2⟩],[]⟩⟩) (f8 H) (fun H=>?_) ?_
 ·refine qS (qR (q1 aE (gL H fun d3 h4 H=>(q1 (fM [0] [] Tryz.func103 (CG h4 (e9 pc 8))) (qN (aQ.block (qS (qR (q1 eG (q1 aE (qN ?_)))))))))))
  refine bA H (fun h5 H=>?_) (fun h5 H=>?_)
  ·refine qR (q1 aE (cX H fun z6 H=>(q1 (aX.addS rfl rfl rfl rfl (Nat.le_trans z6 (by decide))) (q1 aE (qN ?_)))))
   exact dO ⟨_,(aZ H:),b0⟩
  refine qS (qR (q1 eG (q1 aE (qN ?_))))
  refine bA H (fun h7 H=>?_) (fun h7 H=>?_)
  ·refine qR (q1 aE (cX H fun z8 H=>(q1 (aX.addS rfl rfl rfl rfl (Nat.le_trans z8 (by decide))) (q1 aE (qN ?_)))))
   exact dO ⟨_,(aZ H:),b0⟩
  refine qS (qR (q1 eG (q1 aE (qN ?_))))
  refine bA H (fun h9 H=>?_) (fun h9 H=>?_)
  ·refine qR (q1 aE (cX H fun z10 H=>(q1 (aX.addS rfl rfl rfl rfl (Nat.le_trans z10 (by decide))) (q1 aE (qN ?_)))))
   exact dO ⟨_,(aZ H:),b0⟩
  refine qS (qR (q1 eG (q1 aE (qN ?_))))
  refine bA H (fun h11 H=>?_) (fun h11 H=>?_)
  ·refine qR (q1 aE (cX H fun z12 H=>(q1 (aX.addS rfl rfl rfl rfl (Nat.le_trans z12 (by decide))) (q1 aE (qN ?_)))))
   exact dO ⟨_,(aZ H:),b0⟩
  refine qS (qR (q1 eG (q1 aE (qN ?_))))
  refine bA H (fun h13 H=>?_) (fun h13 H=>?_)
  ·refine qR (q1 aE (cX H fun z14 H=>(q1 (aX.addS rfl rfl rfl rfl (Nat.le_trans z14 (by decide))) (q1 aE (qN ?_)))))
   exact dO ⟨_,(aZ H:),b0⟩
  refine qS (qR (q1 eG (q1 aE (qN ?_))))
  refine bA H (fun h15 H=>?_) (fun h15 H=>?_)
  ·refine qR (q1 aE (cX H fun z16 H=>(q1 (aX.addS rfl rfl rfl rfl (Nat.le_trans z16 (by decide))) (q1 aE (qN ?_)))))
   exact dO ⟨_,(aZ H:),b0⟩
  refine qR (q1 aE (cX H fun z17 H=>(q1 (aX.addS rfl rfl rfl rfl (Nat.le_trans z17 (by decide))) (q1 aE (qN ?_)))))
  exact dO ⟨_,(aZ H:),b0⟩
 rintro⟨v1,v2⟩ H
 refine qS (qR (q1 aE (cX H fun z18 H=>(q1 (aX.addS rfl rfl rfl rfl (Nat.le_trans z18 (by decide))) (q1 aE (q1 (hH ([z0,zZ,zX,AA,zW,AD,AE,AB,AC,zV]:List ByteArray) bU kG) (gL H fun d19 h20 H=>(gL H fun y21 h22 H=>(q1 (fM [0] [] Tryz.func86 (LF h20 h22 (fO v2 ([z0,zZ,zX,AA,zW,AD,AE,AB,AC,zV]:List ByteArray) (by decide)))) (cX H fun z23 H=>(q1 (aX.addS rfl rfl rfl rfl (Nat.le_trans z23 (by decide))) (cX H fun z24 H=>(q1 (aX.addS rfl rfl rfl rfl (Nat.le_trans z24 (by decide))) ?_)))))))))))))
 refine q1 aE (qN (qS ?_))
 refine qD (σ:=ByteArray×DS) (fun(v25,v26)=>⟨[(0,.ptr 0 0),(2,pS s_),(3,pS v25)],⟨[some ⟨151,dC v26⟩],[]⟩⟩) (f8 H) (fun H=>?_) ?_
 ·refine qS (qR (q1 aE (gL H fun d27 h28 H=>(q1 (fM [0] [] Tryz.func112 (CG h28 (mZ d19 2))) (qN ?_)))))
  refine bA H (fun h29 H=>?_) (fun h29 H=>?_)
  ·refine qR (q1 aE (cX H fun z30 H=>(q1 (aX.addS rfl rfl rfl rfl (Nat.le_trans z30 (by decide))) (q1 aE (qN ?_)))))
   exact dO ⟨_,(aZ H:),b0⟩
  refine aQ.skip ?_;exact dO ⟨_,(aZ H:),b0⟩
 rintro⟨v25,v26⟩ H
 refine qS ?_;refine qD (σ:=ByteArray×DS) (fun(v31,v32)=>⟨[(0,.ptr 0 0),(2,pS s_),(3,pS v31)],⟨[some ⟨151,dC v32⟩],[]⟩⟩) (f8 H) (fun H=>?_) ?_
 ·refine qS (qR (q1 aE (gL H fun d33 h34 H=>(q1 (fM [0] [] Tryz.func112 (CG h34 (mZ v26 3))) (qN ?_)))))
  refine bA H (fun h35 H=>?_) (fun h35 H=>?_)
  ·refine qR (q1 aE (cX H fun z36 H=>(q1 (aX.addS rfl rfl rfl rfl (Nat.le_trans z36 (by decide))) (q1 aE (qN ?_)))))
   exact dO ⟨_,(aZ H:),b0⟩
  refine aQ.skip ?_;exact dO ⟨_,(aZ H:),b0⟩
 rintro⟨v31,v32⟩ H
 iterate 2 refine qS ?_
 refine qR (q1 aE (gL H fun d37 h38 H=>(q1 (fM [0] [] Tryz.func112 (CG h38 (mZ v32 4))) (qN ?_))))
 refine bA H (fun h39 H=>?_) (fun h39 H=>?_)
 ·refine qR (q1 aE (cX H fun z40 H=>(q1 (aX.addS rfl rfl rfl rfl (Nat.le_trans z40 (by decide))) (q1 aE (qN (qS (qR (q1 aE (cX H fun z41 H=>(q1 (aX.addS rfl rfl rfl rfl (Nat.le_trans z41 (by decide))) (q1 aE (qN (aQ.ret ?_)))))))))))))
  cases aZ H
  exact bL
 refine aQ.skip (qS (qR (q1 aE (cX H fun z42 H=>(q1 (aX.addS rfl rfl rfl rfl (Nat.le_trans z42 (by decide))) (q1 aE (qN (aQ.ret ?_))))))))
 cases aZ H
 exact bL
def PJ(m:DS→Option (ByteArray×DS)):Prop:= ∀(pc:DS) (r:ByteArray×DS),m pc=some r→cP Tryz.prog 166 [.ptr 0 0] ⟨[some ⟨151,dC pc⟩],[]⟩ (fun q t=>q=(pS r.1:PV)∧t=⟨[some ⟨151,dC r.2⟩],[]⟩)
def vQ(fu:Nat)(pc:DS):Option (ByteArray×DS):=
 bd (JB fu pc) (fun(x2,x3)=>
 lt (x3.after 5) (fun d4=>
 sw (decide (x3.below 5=0))
 (some (x2,d4))
 (gd ((x2).size+(ajV).size≤1099511627776)
 (bd (NE fu d4) (fun(x9,x10)=>
 gd ((x2++ajV).size+(x9).size≤1099511627776)
 (some (((x2++ajV)++x9),x10)))))))
theorem NG(fu:Nat):PJ (vQ fu):=by
 intro pc r H
 have H:=eF H
 refine qI Tryz.func166 (fun C hC=>?_)
 refine qS (qR (q1 aE (qN (qS (qR (q1 aE (eT H fun x2 x3 z1 H=>(q1 (fM [0] [] Tryz.func194 (acT fu pc _ z1)) (q1 aE (qN ?_))))))))))
 iterate 2 refine qS ?_
 refine qR (q1 aE (gL H fun d4 h5 H=>(q1 (fM [0] [] Tryz.func112 (CG h5 (mZ x3 5))) (qN ?_))))
 refine bA H (fun h6 H=>?_) (fun h6 H=>?_)
 ·refine qS (qR ?_)
  iterate 2 refine q1 aE ?_
  refine qN (aQ.ret ?_)
  cases aZ H
  exact bL
 refine aQ.skip (qS (qR (q1 aE (cX H fun z7 H=>(q1 (aX.addS rfl rfl rfl rfl (Nat.le_trans z7 (by decide))) (q1 aE (eT H fun x9 x10 z8 H=>(q1 (fM [0] [] Tryz.func195 (afM fu d4 _ z8)) (cX H fun z11 H=>(q1 (aX.addS rfl rfl rfl rfl (Nat.le_trans z11 (by decide))) (q1 aE (qN (aQ.ret ?_)))))))))))))
 cases aZ H
 exact bL
def afS(m:DS→Option (aI×DS)):Prop:= ∀(pc:DS) (r:aI×DS),m pc=some r→V2 Tryz.prog 116 [.ptr 0 0] ⟨[some ⟨151,dC pc⟩],[]⟩ [some ⟨151,dC r.2⟩] 131 6 (aL.trs (r.1.gPackages)) (fun k=> .agg [qK r.1.gPackages k])
def JD(fu:Nat)(pc:DS):Option (aI×DS):=
 bd (vQ fu pc) (fun(x2,x3)=>
 bd (vK fu x2) (fun(x5,x6)=>
 some ((aI.mk x5.gPackages),x3)))
theorem acX(fu:Nat):afS (JD fu):=by
 intro pc r H
 unfold V2
 have H:=eF H
 refine qI Tryz.func116 (fun C hC=>?_)
 refine qS (qR (q1 (gM JK) (qN (qS (qR (q1 aE (eT H fun x2 x3 z1 H=>(q1 (fM [0] [] Tryz.func166 (NG fu pc _ z1)) (eT H fun x5 x6 z4 H=>(q1 (aX.callOwn (pre:=⟨[],[]⟩) (B:= []) (R:=fun k=> .tup [.agg [qK x5.gPackages k],pI x6]) (ps:= [_]) (qs:= [pS x2]) [] rfl rfl Tryz.func165 (by kernel_rfl) rfl rfl rfl (mD.of trivial trivial (by decide) (by decide)) rfl kP rfl rfl rfl (fun k k'=>(.tup (.cons (.agg (.cons Mv.acc WF.nil)) (.cons (.free _ rfl) WF.nil)))) (MV fu x2 _ z4)) (q1 aE ?_)))))))))))
 iterate 2 refine q1 uB ?_
 refine q1 (gM JK) (q1 (bR JJ) (q1 aE (qN (qS (qR (q1 (cU [qK x5.gPackages 0] nB) (q1 (bR JJ) (qN (aQ.ret ?_)))))))))
 cases aZ H
 exact bL (st':=⟨[some ⟨151,dC x3⟩],[⟨131,6,aL.trs (x5.gPackages),false⟩]⟩) ⟨0,rfl,rfl,rfl⟩ (hr:=⟨⟨_,_,_,rfl,rfl,nB,rfl,rfl⟩,trivial⟩)
end
end Go.Proofs.YtpioomclpaiomaaGreat.W
