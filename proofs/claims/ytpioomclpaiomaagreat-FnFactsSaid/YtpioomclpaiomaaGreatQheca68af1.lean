/- Words, rules and walks of several kinds, laid together: MaP7, MaP8, MaP9, MaFnd, Bk, PlOk, OkW, OkA1, OkA2, OkH, OkA3. No conditions but those that each theorem states. -/
import Derived.Test.YtpioomclpaiomaaGreatQh4b292d1e
import Derived.Test.YtpioomclpaiomaaGreatQhfd96fd82
import Derived.Test.YtpioomclpaiomaaGreatQhc919d32c
import Derived.Test.YtpioomclpaiomaaGreatQh7e1aa739
set_option linter.unusedSimpArgs false
set_option linter.unusedVariables false
namespace Go.Proofs.YtpioomclpaiomaaGreat.W
set_option maxRecDepth 100000
set_option maxHeartbeats 40000000
noncomputable section
open Go.RowKit Go.Proofs
set_option linter.unusedSimpArgs false
set_option linter.unusedVariables false
attribute [local irreducible] lt
abbrev K8:=DS→(List ByteArray)→Int→Option (aA×DS)
def P6(m:K8):Prop:= ∀(pc:DS) (pvars:List ByteArray) (pdeep:Int) (r:aA×DS),m pc pvars pdeep=some r→cP Tryz.prog 130 [.ptr 0 0,rS pvars,pI pdeep] ⟨[some ⟨151,dC pc⟩],[]⟩ (fun q t=>q=((aA.pv r.1):PV)∧t=⟨[some ⟨151,dC r.2⟩],[]⟩)
def ZE(fu:Nat)(r_sl4Ty:K8)(pc:DS)(pvars:List ByteArray)(pdeep:Int):Option (aA×DS):=
 lt (pc.after 8) (fun d1=>
 sw (decide ((pc.below 8:Int)<3))
 (sw (decide ((pvars.length:Int)>0))
 (lt (d1.after pvars.length) (fun d5=>
 gd (d1.below pvars.length<(pvars).length)
 (bd (lP fu (aW pvars (d1.below pvars.length))) (fun x9=>
 some (x9,d5)))))
 (sw (decide ((pc.below 8:Int)<5))
 (lt (d1.after ([fW,fN,iH]:List ByteArray).length) (fun d11=>
 lt (d1.pick ([fW,fN,iH]:List ByteArray)) (fun y13=>
 bd (jL fu y13 ([])) (fun x16=>
 some (x16,d11)))))
 (sw (decide (pdeep≤0))
 (lt (d1.after ([fW,fN,iH]:List ByteArray).length) (fun d18=>
 lt (d1.pick ([fW,fN,iH]:List ByteArray)) (fun y20=>
 bd (jL fu y20 ([])) (fun x23=>
 some (x23,d18)))))
 (sw (decide ((pc.below 8:Int)=5))
 (bd (r_sl4Ty d1 pvars (aR (pdeep-1))) (fun(x26,x27)=>
 bd (r_sl4Ty x27 pvars (aR (pdeep-1))) (fun(x29,x30)=>
 bd (jL fu vP ([x26,x29]:List aA)) (fun x32=>
 some (x32,x30)))))
 (lt (d1.after ([cH,cH,p9]:List ByteArray).length) (fun d33=>
 lt (d1.pick ([cH,cH,p9]:List ByteArray)) (fun y35=>
 bd (r_sl4Ty d33 pvars (aR (pdeep-1))) (fun(x38,x39)=>
 bd (jL fu y35 ([x38]:List aA)) (fun x41=>
 some (x41,x39))))))))))
 (sw (decide ((pc.below 8:Int)<5))
 (lt (d1.after ([fW,fN,iH]:List ByteArray).length) (fun d43=>
 lt (d1.pick ([fW,fN,iH]:List ByteArray)) (fun y45=>
 bd (jL fu y45 ([])) (fun x48=>
 some (x48,d43)))))
 (sw (decide (pdeep≤0))
 (lt (d1.after ([fW,fN,iH]:List ByteArray).length) (fun d50=>
 lt (d1.pick ([fW,fN,iH]:List ByteArray)) (fun y52=>
 bd (jL fu y52 ([])) (fun x55=>
 some (x55,d50)))))
 (sw (decide ((pc.below 8:Int)=5))
 (bd (r_sl4Ty d1 pvars (aR (pdeep-1))) (fun(x58,x59)=>
 bd (r_sl4Ty x59 pvars (aR (pdeep-1))) (fun(x61,x62)=>
 bd (jL fu vP ([x58,x61]:List aA)) (fun x64=>
 some (x64,x62)))))
 (lt (d1.after ([cH,cH,p9]:List ByteArray).length) (fun d65=>
 lt (d1.pick ([cH,cH,p9]:List ByteArray)) (fun y67=>
 bd (r_sl4Ty d65 pvars (aR (pdeep-1))) (fun(x70,x71)=>
 bd (jL fu y67 ([x70]:List aA)) (fun x73=>
 some (x73,x71))))))))))
theorem agM(fu:Nat)(r_sl4Ty:K8)(h_sl4Ty:P6 r_sl4Ty):P6 (ZE fu r_sl4Ty):=by
 intro pc pvars pdeep r H
 have H:=eF H
 refine qI Tryz.func130 (fun C hC=>?_)
 refine qS (qR (q1 (gM eP) (qN (qS (qR (q1 aE (gL H fun d1 h2 H=>(q1 (fM [0] [] Tryz.func103 (CG h2 (e9 pc 8))) (q1 aE (qN (qS (aQ.block (qS ?_)))))))))))))
 refine qR (q1 aE (q1 gP (q1 aE ?_)))
 refine dY 13 H (fun g3 H=>?_) fun g3 H=>?_
 ·have g3n:pc.below 8<3:=by have:=of_decide_eq_true g3;omega
  refine qg g3 aE (qg g3 (eB bU (a9 _)) (qg g3 KN (q1 (bS g3) (q1 aE (qN ?_)))))
  refine bA H (fun h4 H=>?_) (fun h4 H=>?_)
  ·refine qS (qR ?_)
   iterate 3 refine q1 aE ?_
   refine q1 (eB bU (a9 _)) (gL H fun d5 h6 H=>(q1 (fM [0] [] Tryz.func103 (CG h6 (e9 d1 pvars.length))) (cX H fun z7 H=>(q1 (gV z7 bU) (q1 (mC eE) (bN H fun x9 z8 H=>(q1 (bG Tryz.func118 (iW fu (aW pvars (d1.below pvars.length)) _ z8)) (q1 (bR eS) (qN (aQ.ret ?_))))))))))
   cases aZ H
   exact bL (hr:=⟨⟨_,_,_,rfl,rfl,bZ,rfl,rfl⟩,trivial⟩)
  refine qS (qR (q1 aE (q1 gP (q1 aE ?_))))
  refine dY 29 H (fun g10 H=>?_) fun g10 H=>?_
  ·have g10n:pc.below 8<5:=by have:=of_decide_eq_true g10;omega
   iterate 2 refine qk g10 ?_
   refine q1 (bS g10) (q1 aE (qN (dM rfl (qS (qR (q1 aE (q1 (hH ([fW,fN,iH]:List ByteArray) bU kG) (gL H fun d11 h12 H=>(gL H fun y13 h14 H=>(q1 (fM [0] [] Tryz.func86 (LF h12 h14 (fO d1 ([fW,fN,iH]:List ByteArray) (by decide)))) (bN H fun x16 z15 H=>(q1 (bG Tryz.func85 (iV fu y13 ([]) _ z15)) (q1 (bR eS) ?_)))))))))))))
   refine qN (aQ.ret ?_)
   cases aZ H
   exact bL (hr:=⟨⟨_,_,_,rfl,rfl,bZ,rfl,rfl⟩,trivial⟩)
  refine qg g10 aE (qg g10 rLe (q1 (b6 g10) (q1 aE (qN ?_))))
  refine bA H (fun h17 H=>?_) (fun h17 H=>?_)
  ·refine qS (qR (q1 aE (q1 (hH ([fW,fN,iH]:List ByteArray) bU kG) (gL H fun d18 h19 H=>(gL H fun y20 h21 H=>(q1 (fM [0] [] Tryz.func86 (LF h19 h21 (fO d1 ([fW,fN,iH]:List ByteArray) (by decide)))) (bN H fun x23 z22 H=>(q1 (bG Tryz.func85 (iV fu y20 ([]) _ z22)) (q1 (bR eS) (qN (aQ.ret ?_)))))))))))
   cases aZ H
   exact bL (hr:=⟨⟨_,_,_,rfl,rfl,bZ,rfl,rfl⟩,trivial⟩)
  refine qS (qR (q1 aE (q1 eG (q1 aE (qN ?_)))))
  refine bA H (fun h24 H=>?_) (fun h24 H=>?_)
  ·refine qS (qR ?_)
   iterate 3 refine q1 aE ?_
   refine q1 AY (eT H fun x26 x27 z25 H=>(q1 (fM [0] [] Tryz.func130 (h_sl4Ty d1 pvars (aR (pdeep-1)) _ z25)) ?_))
   iterate 3 refine q1 aE ?_
   refine q1 AY (eT H fun x29 x30 z28 H=>(q1 (fM [0] [] Tryz.func130 (h_sl4Ty x27 pvars (aR (pdeep-1)) _ z28)) (q1 (hH ([x26,x29]:List aA) c8 eP) (bN H fun x32 z31 H=>(q1 (bG Tryz.func85 (iV fu vP ([x26,x29]:List aA) _ z31)) (q1 (bR eS) (qN (aQ.ret ?_))))))))
   cases aZ H
   exact bL (hr:=⟨⟨_,_,_,rfl,rfl,bZ,rfl,rfl⟩,trivial⟩)
  refine aQ.skip (qS (qR (q1 aE (q1 (hH ([cH,cH,p9]:List ByteArray) bU kG) (gL H fun d33 h34 H=>(gL H fun y35 h36 H=>(q1 (fM [0] [] Tryz.func86 (LF h34 h36 (fO d1 ([cH,cH,p9]:List ByteArray) (by decide)))) ?_)))))))
  iterate 3 refine q1 aE ?_
  refine q1 AY (eT H fun x38 x39 z37 H=>(q1 (fM [0] [] Tryz.func130 (h_sl4Ty d33 pvars (aR (pdeep-1)) _ z37)) (q1 (hH ([x38]:List aA) c8 eP) (bN H fun x41 z40 H=>(q1 (bG Tryz.func85 (iV fu y35 ([x38]:List aA) _ z40)) (q1 (bR eS) (qN (aQ.ret ?_))))))))
  cases aZ H
  exact bL (hr:=⟨⟨_,_,_,rfl,rfl,bZ,rfl,rfl⟩,trivial⟩)
 iterate 3 refine qk g3 ?_
 refine q1 (b6 g3) (q1 aE (qN (kJ rfl (qS (qR (q1 aE (q1 gP (q1 aE ?_))))))))
 refine dY 29 H (fun g42 H=>?_) fun g42 H=>?_
 ·have g42n:pc.below 8<5:=by have:=of_decide_eq_true g42;omega
  iterate 2 refine qk g42 ?_
  refine q1 (bS g42) (q1 aE (qN (dM rfl (qS (qR (q1 aE (q1 (hH ([fW,fN,iH]:List ByteArray) bU kG) (gL H fun d43 h44 H=>(gL H fun y45 h46 H=>(q1 (fM [0] [] Tryz.func86 (LF h44 h46 (fO d1 ([fW,fN,iH]:List ByteArray) (by decide)))) (bN H fun x48 z47 H=>(q1 (bG Tryz.func85 (iV fu y45 ([]) _ z47)) (q1 (bR eS) ?_)))))))))))))
  refine qN (aQ.ret ?_)
  cases aZ H
  exact bL (hr:=⟨⟨_,_,_,rfl,rfl,bZ,rfl,rfl⟩,trivial⟩)
 refine qg g42 aE (qg g42 rLe (q1 (b6 g42) (q1 aE (qN ?_))))
 refine bA H (fun h49 H=>?_) (fun h49 H=>?_)
 ·refine qS (qR (q1 aE (q1 (hH ([fW,fN,iH]:List ByteArray) bU kG) (gL H fun d50 h51 H=>(gL H fun y52 h53 H=>(q1 (fM [0] [] Tryz.func86 (LF h51 h53 (fO d1 ([fW,fN,iH]:List ByteArray) (by decide)))) (bN H fun x55 z54 H=>(q1 (bG Tryz.func85 (iV fu y52 ([]) _ z54)) (q1 (bR eS) (qN (aQ.ret ?_)))))))))))
  cases aZ H
  exact bL (hr:=⟨⟨_,_,_,rfl,rfl,bZ,rfl,rfl⟩,trivial⟩)
 refine qS (qR (q1 aE (q1 eG (q1 aE (qN ?_)))))
 refine bA H (fun h56 H=>?_) (fun h56 H=>?_)
 ·refine qS (qR ?_)
  iterate 3 refine q1 aE ?_
  refine q1 AY (eT H fun x58 x59 z57 H=>(q1 (fM [0] [] Tryz.func130 (h_sl4Ty d1 pvars (aR (pdeep-1)) _ z57)) ?_))
  iterate 3 refine q1 aE ?_
  refine q1 AY (eT H fun x61 x62 z60 H=>(q1 (fM [0] [] Tryz.func130 (h_sl4Ty x59 pvars (aR (pdeep-1)) _ z60)) (q1 (hH ([x58,x61]:List aA) c8 eP) (bN H fun x64 z63 H=>(q1 (bG Tryz.func85 (iV fu vP ([x58,x61]:List aA) _ z63)) (q1 (bR eS) (qN (aQ.ret ?_))))))))
  cases aZ H
  exact bL (hr:=⟨⟨_,_,_,rfl,rfl,bZ,rfl,rfl⟩,trivial⟩)
 refine aQ.skip (qS (qR (q1 aE (q1 (hH ([cH,cH,p9]:List ByteArray) bU kG) (gL H fun d65 h66 H=>(gL H fun y67 h68 H=>(q1 (fM [0] [] Tryz.func86 (LF h66 h68 (fO d1 ([cH,cH,p9]:List ByteArray) (by decide)))) ?_)))))))
 iterate 3 refine q1 aE ?_
 refine q1 AY (eT H fun x70 x71 z69 H=>(q1 (fM [0] [] Tryz.func130 (h_sl4Ty d65 pvars (aR (pdeep-1)) _ z69)) (q1 (hH ([x70]:List aA) c8 eP) (bN H fun x73 z72 H=>(q1 (bG Tryz.func85 (iV fu y67 ([x70]:List aA) _ z72)) (q1 (bR eS) (qN (aQ.ret ?_))))))))
 cases aZ H
 exact bL (hr:=⟨⟨_,_,_,rfl,rfl,bZ,rfl,rfl⟩,trivial⟩)
def q9:Nat→DS→(List ByteArray)→Int→Option (aA×DS)
 |0,_,_,_=>none
 |fu+1,pc,pvars,pdeep=>ZE fu (q9 fu) pc pvars pdeep
theorem ajP(fu:Nat):P6 (q9 fu):=by
 induction fu with
 |zero=>exact(fun pc pvars pdeep r H=>by simp only [q9] at H;cases H)
 |succ fu ih=>exact(fun pc pvars pdeep r H=>by simp only [q9] at H;exact agM fu (q9 fu) ih pc pvars pdeep r H)
theorem S6(fu:Nat):P6 (q9 fu):=(ajP fu)
abbrev nY:=aA→Option aA
abbrev kE:=(List aA)→Option ((List aA))
def AU(m:nY):Prop:= ∀(pt:aA) (r:aA),m pt=some r→b4 Tryz.prog 60 [(aA.pv pt)] ((aA.pv r):PV)
def u1(m:kE):Prop:= ∀(plist:List aA) (r:(List aA)),m plist=some r→b4 Tryz.prog 122 [a3 plist] (a3 r:PV)
def AT(fu:Nat)(r_sl4Copy:nY)(r_sl4Copies:kE)(pt:aA):Option aA:=
 bd (r_sl4Copies pt.gArgs) (fun x2=>
 some (aA.mk pt.gKind pt.gName x2))
theorem ZA(fu:Nat)(r_sl4Copy:nY)(r_sl4Copies:kE)(h_sl4Copy:AU r_sl4Copy)(h_sl4Copies:u1 r_sl4Copies):AU (AT fu r_sl4Copy r_sl4Copies):=by
 intro pt r H
 have H:=eF H
 refine qI Tryz.func60 (fun C hC=>?_)
 refine qS (qR (q1 (jP (dU pt)) (q1 (gM eP) (qN (qS (bN H fun x2 z1 H=>(dW (dI [1] (a6 iF) (dD [3] (bD jN) (dI [1] (a6 gR) (dD [5] (bD eE) (dI [1] (a6 eZ) (dD [7] (bD kT) ?_)))))))))))))
 refine dI [8] (bG Tryz.func122 (h_sl4Copies pt.gArgs _ z1)) (dI [4,6,9] (eU eP sF) (mN [2,10] (bR eS) (dN (aQ.ret ?_))))
 cases aZ H
 exact bL (hr:=⟨⟨_,_,_,rfl,rfl,bZ,rfl,rfl⟩,trivial⟩)
def B7(fu:Nat)(r_sl4Copy:nY)(r_sl4Copies:kE)(plist:List aA):Nat→((List aA))→Option (LR ((List aA)) ((List aA))):=
 fun i1 v3=>bd (r_sl4Copy (aW plist i1)) (fun x7=>
 gd ((v3).length+(([x7]:List aA)).length≤68719476736)
 (some (.next (v3++([x7]:List aA)))))
def B8(fu:Nat)(r_sl4Copy:nY)(r_sl4Copies:kE)(plist:List aA):Option (((List aA))⊕((List aA))):=
 loopN (B7 fu r_sl4Copy r_sl4Copies plist) (plist.length-0) 0 ([])
def u0(fu:Nat)(r_sl4Copy:nY)(r_sl4Copies:kE)(plist:List aA):Option ((List aA)):=
 so (B8 fu r_sl4Copy r_sl4Copies plist) (fun v3=>
 some v3)
theorem S4(fu:Nat)(r_sl4Copy:nY)(r_sl4Copies:kE)(h_sl4Copy:AU r_sl4Copy)(h_sl4Copies:u1 r_sl4Copies):u1 (u0 fu r_sl4Copy r_sl4Copies):=by
 intro plist r H
 have H:=eF H
 refine qI Tryz.func122 (fun C hC=>?_)
 refine qS (qR (q1 aE (qN (qS (qR (q1 (qZ ([]:List aA) c8 eP) (q1 aE (qN ?_))))))))
 iterate 2 refine qS ?_
 refine qR (q1 aE (qN ?_))
 refine j8 0 (aA.trs_len _) (fun hl4=>?_)
 refine b9 (σ:=(List aA)) (fun i1 v3=>⟨[(0,a3 plist),(2,.nil),(3,NU v3 0),(4,pN i1)],⟨[],[⟨35,3,aA.trs (v3),false⟩]⟩⟩) (fun v3=>⟨[(2,.nil),(3,NU v3 0)],⟨[],[⟨35,3,aA.trs (v3),false⟩]⟩⟩) (f8 H) ?_ ?_
 ·rintro i1 v3 H
  iterate 2 refine qS ?_
  refine qR ?_
  iterate 2 refine q1 aE ?_
  refine q1 (eB c8 (aA.trs_len _)) (q1 gP (qN ?_))
  refine dT H (fun h5 h5l H=>?_) (fun h5 H=>?_)
  ·have h5n:=a8 h5
   refine aQ.skip (qS (aQ.block (qR ?_)))
   iterate 3 refine q1 aE ?_
   refine q1 (gV h5n c8) (q1 (jW (aA.cs (aW plist i1)) bZ) (bN H fun x7 z6 H=>(q1 (bG Tryz.func60 (h_sl4Copy (aW plist i1) _ z6)) (q1 (hH ([x7]:List aA) c8 eP) (cX H fun z8 H=>(q1 (kX z8 c8 agY) (q1 aE (qN (qR (q1 aE (q1 (aX.addI rfl rfl rfl rfl (c:=((i1+1:Nat):Int)) (by omega) (by omega)) (q1 aE (qN ?_)))))))))))))
   exact iK h5l ⟨_,(aZ H:),b0⟩
  refine aQ.exit ?_;exact j0 ⟨_,H,b0⟩
 rintro v3 H
 refine qS (qR ?_)
 iterate 2 refine q1 aE ?_
 refine qN (aQ.ret ?_)
 cases aZ H
 exact bL
mutual
def fF:Nat→aA→Option aA
 |0,_=>none
 |fu+1,pt=>AT fu (fF fu) (eX fu) pt
def eX:Nat→(List aA)→Option ((List aA))
 |0,_=>none
 |fu+1,plist=>u0 fu (fF fu) (eX fu) plist
end
theorem OC(fu:Nat):AU (fF fu)∧u1 (eX fu):=by
 induction fu with
 |zero=>exact⟨(fun pt r H=>by simp only [fF] at H;cases H),(fun plist r H=>by simp only [eX] at H;cases H)⟩
 |succ fu ih=>exact⟨(fun pt r H=>by simp only [fF] at H;exact ZA fu (fF fu) (eX fu) ih.1 ih.2 pt r H),(fun plist r H=>by simp only [eX] at H;exact S4 fu (fF fu) (eX fu) ih.1 ih.2 plist r H)⟩
theorem xT(fu:Nat):AU (fF fu):=(OC fu).1
theorem Y9(fu:Nat):u1 (eX fu):=(OC fu).2
def ajO(m:ByteArray→aA→Option aA):Prop:= ∀(ptrait:ByteArray) (pt:aA) (r:aA),m ptrait pt=some r→b4 Tryz.prog 131 [pS ptrait,(aA.pv pt)] ((aA.pv r):PV)
def FK(fu:Nat)(ptrait:ByteArray)(pt:aA):Option aA:=
 bd (fF fu pt) (fun x2=>
 some (aA.mk 3 ptrait ([x2]:List aA)))
theorem S5(fu:Nat):ajO (FK fu):=by
 intro ptrait pt r H
 have H:=eF H
 refine qI Tryz.func131 (fun C hC=>?_)
 refine qS (qR (q1 (jP (dU pt)) (q1 (gM eP) (qN (qS (qR (q1 aE (q1 (cU [pI pt.gKind,pS pt.gName,a3 pt.gArgs] bZ) (bN H fun x2 z1 H=>(q1 (bG Tryz.func60 (xT fu pt _ z1)) (q1 (hH ([x2]:List aA) c8 eP) (q1 (eU eP sF) (q1 (bR eS) ?_)))))))))))))
 refine qN (aQ.ret ?_)
 cases aZ H
 exact bL (hr:=⟨⟨_,_,_,rfl,rfl,bZ,rfl,rfl⟩,trivial⟩)
def ajM(m:DS→Int→Option (aA×DS)):Prop:= ∀(pc:DS) (pdeep:Int) (r:aA×DS),m pc pdeep=some r→cP Tryz.prog 87 [.ptr 0 0,pI pdeep] ⟨[some ⟨151,dC pc⟩],[]⟩ (fun q t=>q=((aA.pv r.1):PV)∧t=⟨[some ⟨151,dC r.2⟩],[]⟩)
def sC(fu:Nat)(pc:DS)(pdeep:Int):Option (aA×DS):=
 bd (q9 fu pc ([f7,zL]:List ByteArray) pdeep) (fun(x2,x3)=>
 lt (x3.after 8) (fun d4=>
 sw (decide ((x3.below 8:Int)=0))
 (lt (d4.after ([hQ,bF]:List ByteArray).length) (fun d7=>
 lt (d4.pick ([hQ,bF]:List ByteArray)) (fun y9=>
 bd (FK fu y9 x2) (fun x12=>
 some (x12,d7)))))
 (sw (decide ((x3.below 8:Int)=1))
 (bd (FK fu hQ x2) (fun x15=>
 bd (jL fu cH ([x15]:List aA)) (fun x17=>
 some (x17,d4))))
 (sw (decide ((x3.below 8:Int)=2))
 (some ((aA.mk 4 bF []),d4))
 (some (x2,d4))))))
theorem t4(fu:Nat):ajM (sC fu):=by
 intro pc pdeep r H
 have H:=eF H
 refine qI Tryz.func87 (fun C hC=>?_)
 refine qS (qR (q1 (gM eP) (qN (qS (qR (q1 aE (q1 (hH ([f7,zL]:List ByteArray) bU kG) (q1 aE (eT H fun x2 x3 z1 H=>(q1 (fM [0] [] Tryz.func130 (S6 fu pc ([f7,zL]:List ByteArray) pdeep _ z1)) (q1 (gM eP) (q1 (bR eS) (qN ?_)))))))))))))
 iterate 2 refine qS ?_
 refine qR (q1 aE (gL H fun d4 h5 H=>(q1 (fM [0] [] Tryz.func103 (CG h5 (e9 x3 8))) (qN (aQ.block (qS (qR (q1 eG (q1 aE (qN ?_))))))))))
 refine bA H (fun h6 H=>?_) (fun h6 H=>?_)
 ·refine qS (gL H fun d7 h8 H=>(gL H fun y9 h10 H=>(bN H fun x12 z11 H=>(dW (dI [0] aE (dI [] (hH ([hQ,bF]:List ByteArray) bU kG) (dE [14,15] (fM [0] [] Tryz.func86 (LF h8 h10 (fO d4 ([hQ,bF]:List ByteArray) (by decide)))) (dB [5] 0 1 (TG [pI x2.gKind,pS x2.gName,a3 x2.gArgs] bZ) (dI [16,17] (bG Tryz.func131 (S5 fu y9 x2 _ z11)) (mN [4,18] (bR eS) (dN (aQ.ret ?_))))))))))))
  cases aZ H
  exact bL (hr:=⟨⟨_,_,_,rfl,rfl,bZ,rfl,rfl⟩,trivial⟩)
 refine qS (qR (q1 eG (q1 aE (qN ?_))))
 refine bA H (fun h13 H=>?_) (fun h13 H=>?_)
 ·refine qS (qR (q1 (cU [pI x2.gKind,pS x2.gName,a3 x2.gArgs] bZ) (bN H fun x15 z14 H=>(q1 (bG Tryz.func131 (S5 fu hQ x2 _ z14)) (q1 (hH ([x15]:List aA) c8 eP) (bN H fun x17 z16 H=>(q1 (bG Tryz.func85 (iV fu cH ([x15]:List aA) _ z16)) (q1 (bR eS) (qN (aQ.ret ?_))))))))))
  cases aZ H
  exact bL (hr:=⟨⟨_,_,_,rfl,rfl,bZ,rfl,rfl⟩,trivial⟩)
 refine qS (qR (q1 eG (q1 aE (qN ?_))))
 refine bA H (fun h18 H=>?_) (fun h18 H=>?_)
 ·refine qS (qR (q1 (eU eP sF) (q1 (bR eS) (qN (aQ.ret ?_)))))
  cases aZ H
  exact bL (hr:=⟨⟨_,_,_,rfl,rfl,bZ,rfl,rfl⟩,trivial⟩)
 refine aQ.skip (qS (qR (q1 (cU [pI x2.gKind,pS x2.gName,a3 x2.gArgs] bZ) (q1 (bR eS) (qN (aQ.ret ?_))))))
 cases aZ H
 exact bL (hr:=⟨⟨_,_,_,rfl,rfl,bZ,rfl,rfl⟩,trivial⟩)
def ak4(m:Int→ByteArray→(List aG)→Option aG):Prop:= ∀(pk:Int) (pname:ByteArray) (pargs:List aG) (r:aG),m pk pname pargs=some r→b4 Tryz.prog 158 [pI pk,pS pname,f9 pargs] ((aG.pv r):PV)
def s4(fu:Nat)(pk:Int)(pname:ByteArray)(pargs:List aG):Option aG:=
 gd (([]:List aG).length+(pargs).length≤68719476736)
 (some (aG.mk pk s_ pname 0 (aA.mk 0 s_ []) (([])++pargs) []))
theorem tY(fu:Nat):ak4 (s4 fu):=by
 intro pk pname pargs r H
 have H:=eF H
 refine qI Tryz.func158 (fun C hC=>?_)
 refine qS (qR (q1 (gM kB) (qN (qS (qR ?_)))))
 iterate 2 refine q1 aE ?_
 refine q1 (qZ ([]:List aG) mA kB) (q1 aE (cX H fun z1 H=>(q1 (kX z1 mA an9) (q1 (eU kB xJ) (q1 (bR p7) (qN (aQ.ret ?_)))))))
 cases aZ H
 exact bL (hr:=⟨⟨_,_,_,rfl,rfl,gY,rfl,rfl⟩,trivial⟩)
abbrev rT:=DS→(List ByteArray)→Int→Option (aG×DS)
def BU(m:rT):Prop:= ∀(pq0:DS) (pa1:List ByteArray) (pString:Int) (r:aG×DS),m pq0 pa1 pString=some r→cP Tryz.prog 111 [.ptr 0 0,rS pa1,pI pString] ⟨[some ⟨151,dC pq0⟩],[]⟩ (fun q t=>q=((aG.pv r.1):PV)∧t=⟨[some ⟨151,dC r.2⟩],[]⟩)
def abD(fu:Nat)(r_sl11Expr:rT)(pq0:DS)(pa1:List ByteArray)(pString:Int)(d1:DS):Option ((aG×DS)⊕Int):=
 sw (decide (pString≤0))
 (some (.inr (((pq0.below 13)%3:Nat):Int)))
 (some (.inr (pq0.below 13:Int)))
def abE(fu:Nat)(r_sl11Expr:rT)(pq0:DS)(pa1:List ByteArray)(pString:Int)(d1:DS)(v3:Int):Option ((aG×DS)⊕Bool):=
 sw (decide (v3=2))
 (some (.inr (decide (v3=2))))
 (some (.inr (decide (v3=3))))
def I1(fu:Nat)(r_sl11Expr:rT)(pq0:DS)(pa1:List ByteArray)(pString:Int):Option (aG×DS):=
 lt (pq0.after 13) (fun d1=>
 so (abD fu r_sl11Expr pq0 pa1 pString d1) (fun v3=>
 sw (decide (v3=1))
 (lt (d1.after 2) (fun d6=>
 some ((aG.mk 2 s_ s_ (d1.below 2:Int) (aA.mk 0 s_ []) [] []),d6)))
 (so (abE fu r_sl11Expr pq0 pa1 pString d1 v3) (fun v8=>
 sw (v8)
 (sw (decide ((pa1.length:Int)>0))
 (gd (0<(pa1).length)
 (lt (d1.after pa1.length) (fun d13=>
 lt (d1.pick pa1) (fun y15=>
 bd (tZ fu y15) (fun x18=>
 some (x18,d13))))))
 (lt (d1.after 20) (fun d19=>
 bd (sA fu (aR ((d1.below 20:Int)-5))) (fun x22=>
 some (x22,d19)))))
 (sw (decide (v3=4))
 (lt (d1.after ([s_f,s_g]:List ByteArray).length) (fun d24=>
 lt (d1.pick ([s_f,s_g]:List ByteArray)) (fun y26=>
 bd (r_sl11Expr d24 pa1 (aR (pString-1))) (fun(x29,x30)=>
 bd (s4 fu 4 y26 ([x29]:List aG)) (fun x32=>
 some (x32,x30))))))
 (sw (decide (v3=5))
 (lt (d1.after ([bF,hQ]:List ByteArray).length) (fun d34=>
 lt (d1.pick ([bF,hQ]:List ByteArray)) (fun y36=>
 bd (r_sl11Expr d34 pa1 (aR (pString-1))) (fun(x39,x40)=>
 bd (r_sl11Expr x40 pa1 (aR (pString-1))) (fun(x42,x43)=>
 some ((aG.mk 5 y36 eO 0 (aA.mk 0 s_ []) ([x39,x42]:List aG) []),x43))))))
 (sw (decide (v3=6))
 (bd (r_sl11Expr d1 pa1 (aR (pString-1))) (fun(x46,x47)=>
 bd (r_sl11Expr x47 pa1 (aR (pString-1))) (fun(x49,x50)=>
 bd (s4 fu 6 cF ([x46,x49]:List aG)) (fun x52=>
 some (x52,x50)))))
 (sw (decide (v3=7))
 (gd (([]:List ByteArray).length+(pa1).length≤68719476736)
 (gd ((([])++pa1).length+(([s_h,s_t]:List ByteArray)).length≤68719476736)
 (bd (r_sl11Expr d1 pa1 (aR (pString-1))) (fun(x57,x58)=>
 bd (r_sl11Expr x58 pa1 (aR (pString-1))) (fun(x60,x61)=>
 bd (r_sl11Expr x61 ((([])++pa1)++([s_h,s_t]:List ByteArray)) (aR (pString-1))) (fun(x63,x64)=>
 some ((aG.mk 7 s_ s_ 0 (aA.mk 0 s_ []) ([x57]:List aG) ([(bK.mk fL [] x60),(bK.mk cF ([s_h,s_t]:List ByteArray) x63)]:List bK)),x64)))))))
 (sw (decide (v3=8))
 (bd (r_sl11Expr d1 pa1 (aR (pString-1))) (fun(x67,x68)=>
 gd (([]:List ByteArray).length+(pa1).length≤68719476736)
 (gd ((([])++pa1).length+(([pW]:List ByteArray)).length≤68719476736)
 (bd (r_sl11Expr x68 ((([])++pa1)++([pW]:List ByteArray)) (aR (pString-1))) (fun(x72,x73)=>
 bd (s4 fu 8 pW ([x67,x72]:List aG)) (fun x75=>
 some (x75,x73)))))))
 (sw (decide (v3=9))
 (bd (r_sl11Expr d1 pa1 (aR (pString-1))) (fun(x78,x79)=>
 bd (r_sl11Expr x79 pa1 (aR (pString-1))) (fun(x81,x82)=>
 bd (r_sl11Expr x82 pa1 (aR (pString-1))) (fun(x84,x85)=>
 bd (s4 fu 9 s_ ([x78,x81,x84]:List aG)) (fun x87=>
 some (x87,x85))))))
 (sw (decide (v3=10))
 (lt (d1.after ([yA,CZ,LB,LC,LD]:List ByteArray).length) (fun d89=>
 lt (d1.pick ([yA,CZ,LB,LC,LD]:List ByteArray)) (fun y91=>
 bd (r_sl11Expr d89 pa1 (aR (pString-1))) (fun(x94,x95)=>
 bd (r_sl11Expr x95 pa1 (aR (pString-1))) (fun(x97,x98)=>
 bd (s4 fu 10 y91 ([x94,x97]:List aG)) (fun x100=>
 some (x100,x98)))))))
 (sw (decide (v3=11))
 (bd (r_sl11Expr d1 pa1 (aR (pString-1))) (fun(x103,x104)=>
 some ((aG.mk 11 bF s_ 0 (aA.mk 0 s_ []) ([x103]:List aG) []),x104)))
 (sw (decide (v3=12))
 (bd (q9 fu d1 ([f7]:List ByteArray) 1) (fun(x107,x108)=>
 bd (r_sl11Expr x108 pa1 (aR (pString-1))) (fun(x110,x111)=>
 some ((aG.mk 12 s_ s_ 0 x107 ([x110]:List aG) []),x111))))
 (lt (d1.after 20) (fun d112=>
 bd (sA fu (aR ((d1.below 20:Int)-5))) (fun x115=>
 some (x115,d112)))))))))))))))))
theorem UM(fu:Nat)(r_sl11Expr:rT)(h_sl11Expr:BU r_sl11Expr):BU (I1 fu r_sl11Expr):=by
 intro pq0 pa1 pString r H
 have H:=eF H
 refine qI Tryz.func111 (fun C hC=>?_)
 refine qS (qR (q1 (gM kB) (qN (qS (qR (q1 aE (gL H fun d1 h2 H=>(q1 (fM [0] [] Tryz.func103 (CG h2 (e9 pq0 13))) (q1 aE (qN (qS ?_)))))))))))
 refine qD (σ:=Int) (fun v3=>⟨[(0,.ptr 0 0),(1,rS pa1),(2,pI pString),(6,.ptr 1 0),(7,pI v3)],⟨[some ⟨151,dC d1⟩,some ⟨87,[pI 0,pS s_,pS s_,pI 0,pI 0,pS s_,.nil,.nil,.nil]⟩],[]⟩⟩) (f8 H) (fun H=>?_) ?_
 ·refine qS (qR (q1 aE (q1 rLe (qN ?_))))
  refine bA H (fun h4 H=>?_) (fun h4 H=>?_)
  ·refine qR (q1 aE ?_)
   refine q1 (aX.remN (a:=pq0.below 13) (b:=3) rfl rfl rfl rfl (by have:=DS.below_lt (d:=pq0) (n:=13) (by decide);omega) (by have:=DS.below_lt (d:=pq0) (n:=13) (by decide);omega)) ?_;refine q1 aE (qN ?_)
   exact dO ⟨_,(aZ H:),b0⟩
  refine aQ.skip ?_;exact dO ⟨_,(aZ H:),b0⟩
 rintro v3 H
 iterate 2 refine qS ?_
 refine qR (q1 aE (qN (aQ.block (qS (qR (q1 eG (q1 aE (qN ?_))))))))
 refine bA H (fun h5 H=>?_) (fun h5 H=>?_)
 ·refine qS (qR (q1 aE (gL H fun d6 h7 H=>(q1 (fM [0] [] Tryz.func103 (CG h7 (e9 d1 2))) (q1 (eU kB xJ) (q1 (bR p7) (qN (aQ.ret ?_))))))))
  cases aZ H
  exact bL (hr:=⟨⟨_,_,_,rfl,rfl,gY,rfl,rfl⟩,trivial⟩)
 refine qS ?_;refine qD (σ:=Bool) (fun v8=>⟨[(0,.ptr 0 0),(1,rS pa1),(2,pI pString),(6,.ptr 1 0),(15,pI v3),(21,pB v8)],⟨[some ⟨151,dC d1⟩,some ⟨87,[pI 0,pS s_,pS s_,pI 0,pI 0,pS s_,.nil,.nil,.nil]⟩],[]⟩⟩) (f8 H) (fun H=>?_) ?_
 ·refine qS (qR (q1 eG (q1 aE (qN ?_))))
  refine bA H (fun h9 H=>?_) (fun h9 H=>?_)
  ·refine aQ.skip ?_;exact dO ⟨_,(aZ H:),b0⟩
  refine qR (q1 eG (q1 aE (qN ?_)))
  exact dO ⟨_,(aZ H:),b0⟩
 rintro v8 H
 refine bA H (fun h10 H=>?_) (fun h10 H=>?_)
 ·refine qS (qR (q1 aE (q1 (eB bU (a9 _)) (q1 KN (qN ?_)))))
  refine bA H (fun h11 H=>?_) (fun h11 H=>?_)
  ·refine qS (qR ?_)
   iterate 2 refine q1 aE ?_
   refine cX H fun z12 H=>(gL H fun d13 h14 H=>(gL H fun y15 h16 H=>(q1 (fM [0] [] Tryz.func86 (LF h14 h16 (fO d1 pa1 z12))) (bN H fun x18 z17 H=>(q1 (bG Tryz.func157 (xP fu y15 _ z17)) (q1 (bR p7) (qN (aQ.ret ?_))))))))
   cases aZ H
   exact bL (hr:=⟨⟨_,_,_,rfl,rfl,gY,rfl,rfl⟩,trivial⟩)
  refine aQ.skip (qS (qR (q1 aE (gL H fun d19 h20 H=>(q1 (fM [0] [] Tryz.func103 (CG h20 (e9 d1 20))) (q1 AY (bN H fun x22 z21 H=>(q1 (bG Tryz.func159 (tX fu (aR ((d1.below 20:Int)-5)) _ z21)) (q1 (bR p7) (qN (aQ.ret ?_)))))))))))
  cases aZ H
  exact bL (hr:=⟨⟨_,_,_,rfl,rfl,gY,rfl,rfl⟩,trivial⟩)
 refine qS (qR (q1 eG (q1 aE (qN ?_))))
 refine bA H (fun h23 H=>?_) (fun h23 H=>?_)
 ·refine qS (qR (q1 aE (q1 (hH ([s_f,s_g]:List ByteArray) bU kG) (gL H fun d24 h25 H=>(gL H fun y26 h27 H=>(q1 (fM [0] [] Tryz.func86 (LF h25 h27 (fO d1 ([s_f,s_g]:List ByteArray) (by decide)))) ?_))))))
  iterate 3 refine q1 aE ?_
  refine q1 AY (eT H fun x29 x30 z28 H=>(q1 (fM [0] [] Tryz.func111 (h_sl11Expr d24 pa1 (aR (pString-1)) _ z28)) (q1 (hH ([x29]:List aG) mA kB) (bN H fun x32 z31 H=>(q1 (bG Tryz.func158 (tY fu 4 y26 ([x29]:List aG) _ z31)) (q1 (bR p7) (qN (aQ.ret ?_))))))))
  cases aZ H
  exact bL (hr:=⟨⟨_,_,_,rfl,rfl,gY,rfl,rfl⟩,trivial⟩)
 refine qS (qR (q1 eG (q1 aE (qN ?_))))
 refine bA H (fun h33 H=>?_) (fun h33 H=>?_)
 ·refine qS (qR (q1 aE (q1 (hH ([bF,hQ]:List ByteArray) bU kG) (gL H fun d34 h35 H=>(gL H fun y36 h37 H=>(q1 (fM [0] [] Tryz.func86 (LF h35 h37 (fO d1 ([bF,hQ]:List ByteArray) (by decide)))) ?_))))))
  iterate 3 refine q1 aE ?_
  refine q1 AY (eT H fun x39 x40 z38 H=>(q1 (fM [0] [] Tryz.func111 (h_sl11Expr d34 pa1 (aR (pString-1)) _ z38)) ?_))
  iterate 3 refine q1 aE ?_
  refine q1 AY (eT H fun x42 x43 z41 H=>(q1 (fM [0] [] Tryz.func111 (h_sl11Expr x40 pa1 (aR (pString-1)) _ z41)) (q1 (hH ([x39,x42]:List aG) mA kB) (q1 (eU kB xJ) (q1 (bR p7) (qN (aQ.ret ?_)))))))
  cases aZ H
  exact bL (hr:=⟨⟨_,_,_,rfl,rfl,gY,rfl,rfl⟩,trivial⟩)
 refine qS (qR (q1 eG (q1 aE (qN ?_))))
 refine bA H (fun h44 H=>?_) (fun h44 H=>?_)
 ·refine qS (qR ?_)
  iterate 3 refine q1 aE ?_
  refine q1 AY (eT H fun x46 x47 z45 H=>(q1 (fM [0] [] Tryz.func111 (h_sl11Expr d1 pa1 (aR (pString-1)) _ z45)) ?_))
  iterate 3 refine q1 aE ?_
  refine q1 AY (eT H fun x49 x50 z48 H=>(q1 (fM [0] [] Tryz.func111 (h_sl11Expr x47 pa1 (aR (pString-1)) _ z48)) (q1 (hH ([x46,x49]:List aG) mA kB) (bN H fun x52 z51 H=>(q1 (bG Tryz.func158 (tY fu 6 cF ([x46,x49]:List aG) _ z51)) (q1 (bR p7) (qN (aQ.ret ?_))))))))
  cases aZ H
  exact bL (hr:=⟨⟨_,_,_,rfl,rfl,gY,rfl,rfl⟩,trivial⟩)
 refine qS (qR (q1 eG (q1 aE (qN ?_))))
 refine bA H (fun h53 H=>?_) (fun h53 H=>?_)
 ·refine qS (qR (q1 (qZ ([]:List ByteArray) bU kG) (q1 aE (cX H fun z54 H=>(q1 (kX z54 bU qH) (q1 (hH ([s_h,s_t]:List ByteArray) bU kG) (cX H fun z55 H=>(q1 (kX z55 bU qH) (q1 aE (qN (qS (qR ?_))))))))))))
  iterate 3 refine q1 aE ?_
  refine q1 AY (eT H fun x57 x58 z56 H=>(q1 (fM [0] [] Tryz.func111 (h_sl11Expr d1 pa1 (aR (pString-1)) _ z56)) (q1 (hH ([x57]:List aG) mA kB) ?_)))
  iterate 3 refine q1 aE ?_
  refine q1 AY (eT H fun x60 x61 z59 H=>(q1 (fM [0] [] Tryz.func111 (h_sl11Expr x58 pa1 (aR (pString-1)) _ z59)) (q1 (eU PM akV) (q1 (hH ([s_h,s_t]:List ByteArray) bU kG) ?_))))
  iterate 3 refine q1 aE ?_
  refine q1 AY (eT H fun x63 x64 z62 H=>(q1 (fM [0] [] Tryz.func111 (h_sl11Expr x61 ((([])++pa1)++([s_h,s_t]:List ByteArray)) (aR (pString-1)) _ z62)) (q1 (eU PM akV) (q1 (hH ([(bK.mk fL [] x60),(bK.mk cF ([s_h,s_t]:List ByteArray) x63)]:List bK) nM PM) (q1 (eU kB xJ) (q1 (bR p7) (qN (aQ.ret ?_))))))))
  cases aZ H
  exact bL (hr:=⟨⟨_,_,_,rfl,rfl,gY,rfl,rfl⟩,trivial⟩)
 refine qS (qR (q1 eG (q1 aE (qN ?_))))
 refine bA H (fun h65 H=>?_) (fun h65 H=>?_)
 ·refine qS (qR ?_)
  iterate 3 refine q1 aE ?_
  refine q1 AY (eT H fun x67 x68 z66 H=>(q1 (fM [0] [] Tryz.func111 (h_sl11Expr d1 pa1 (aR (pString-1)) _ z66)) (q1 aE (q1 (qZ ([]:List ByteArray) bU kG) (q1 aE (cX H fun z69 H=>(q1 (kX z69 bU qH) (q1 (hH ([pW]:List ByteArray) bU kG) (cX H fun z70 H=>(q1 (kX z70 bU qH) (q1 aE (q1 AY (eT H fun x72 x73 z71 H=>?_)))))))))))))
  refine q1 (fM [0] [] Tryz.func111 (h_sl11Expr x68 ((([])++pa1)++([pW]:List ByteArray)) (aR (pString-1)) _ z71)) (q1 (hH ([x67,x72]:List aG) mA kB) (bN H fun x75 z74 H=>(q1 (bG Tryz.func158 (tY fu 8 pW ([x67,x72]:List aG) _ z74)) (q1 (bR p7) (qN (aQ.ret ?_))))))
  cases aZ H
  exact bL (hr:=⟨⟨_,_,_,rfl,rfl,gY,rfl,rfl⟩,trivial⟩)
 refine qS (qR (q1 eG (q1 aE (qN ?_))))
 refine bA H (fun h76 H=>?_) (fun h76 H=>?_)
 ·refine qS (qR ?_)
  iterate 3 refine q1 aE ?_
  refine q1 AY (eT H fun x78 x79 z77 H=>(q1 (fM [0] [] Tryz.func111 (h_sl11Expr d1 pa1 (aR (pString-1)) _ z77)) ?_))
  iterate 3 refine q1 aE ?_
  refine q1 AY (eT H fun x81 x82 z80 H=>(q1 (fM [0] [] Tryz.func111 (h_sl11Expr x79 pa1 (aR (pString-1)) _ z80)) ?_))
  iterate 3 refine q1 aE ?_
  refine q1 AY (eT H fun x84 x85 z83 H=>(q1 (fM [0] [] Tryz.func111 (h_sl11Expr x82 pa1 (aR (pString-1)) _ z83)) (q1 (hH ([x78,x81,x84]:List aG) mA kB) (bN H fun x87 z86 H=>(q1 (bG Tryz.func158 (tY fu 9 s_ ([x78,x81,x84]:List aG) _ z86)) (q1 (bR p7) (qN (aQ.ret ?_))))))))
  cases aZ H
  exact bL (hr:=⟨⟨_,_,_,rfl,rfl,gY,rfl,rfl⟩,trivial⟩)
 refine qS (qR (q1 eG (q1 aE (qN ?_))))
 refine bA H (fun h88 H=>?_) (fun h88 H=>?_)
 ·refine qS (qR (q1 aE (q1 (hH ([yA,CZ,LB,LC,LD]:List ByteArray) bU kG) (gL H fun d89 h90 H=>(gL H fun y91 h92 H=>(q1 (fM [0] [] Tryz.func86 (LF h90 h92 (fO d1 ([yA,CZ,LB,LC,LD]:List ByteArray) (by decide)))) ?_))))))
  iterate 3 refine q1 aE ?_
  refine q1 AY (eT H fun x94 x95 z93 H=>(q1 (fM [0] [] Tryz.func111 (h_sl11Expr d89 pa1 (aR (pString-1)) _ z93)) ?_))
  iterate 3 refine q1 aE ?_
  refine q1 AY (eT H fun x97 x98 z96 H=>(q1 (fM [0] [] Tryz.func111 (h_sl11Expr x95 pa1 (aR (pString-1)) _ z96)) (q1 (hH ([x94,x97]:List aG) mA kB) (bN H fun x100 z99 H=>(q1 (bG Tryz.func158 (tY fu 10 y91 ([x94,x97]:List aG) _ z99)) (q1 (bR p7) (qN (aQ.ret ?_))))))))
  cases aZ H
  exact bL (hr:=⟨⟨_,_,_,rfl,rfl,gY,rfl,rfl⟩,trivial⟩)
 refine qS (qR (q1 eG (q1 aE (qN ?_))))
 refine bA H (fun h101 H=>?_) (fun h101 H=>?_)
 ·refine qS (qR ?_)
  iterate 3 refine q1 aE ?_
  refine q1 AY (eT H fun x103 x104 z102 H=>(q1 (fM [0] [] Tryz.func111 (h_sl11Expr d1 pa1 (aR (pString-1)) _ z102)) (q1 (hH ([x103]:List aG) mA kB) (q1 (eU kB xJ) (q1 (bR p7) (qN (aQ.ret ?_)))))))
  cases aZ H
  exact bL (hr:=⟨⟨_,_,_,rfl,rfl,gY,rfl,rfl⟩,trivial⟩)
 refine qS (qR (q1 eG (q1 aE (qN ?_))))
 refine bA H (fun h105 H=>?_) (fun h105 H=>?_)
 ·refine qS (qR (q1 aE (q1 (hH ([f7]:List ByteArray) bU kG) (eT H fun x107 x108 z106 H=>(q1 (fM [0] [] Tryz.func130 (S6 fu d1 ([f7]:List ByteArray) 1 _ z106)) ?_)))))
  iterate 3 refine q1 aE ?_
  refine q1 AY (eT H fun x110 x111 z109 H=>(q1 (fM [0] [] Tryz.func111 (h_sl11Expr x108 pa1 (aR (pString-1)) _ z109)) (q1 (hH ([x110]:List aG) mA kB) (q1 (eU kB xJ) (q1 (bR p7) (qN (aQ.ret ?_)))))))
  cases aZ H
  exact bL (hr:=⟨⟨_,_,_,rfl,rfl,gY,rfl,rfl⟩,trivial⟩)
 refine aQ.skip (qS (qR (q1 aE (gL H fun d112 h113 H=>(q1 (fM [0] [] Tryz.func103 (CG h113 (e9 d1 20))) (q1 AY (bN H fun x115 z114 H=>(q1 (bG Tryz.func159 (tX fu (aR ((d1.below 20:Int)-5)) _ z114)) (q1 (bR p7) (qN (aQ.ret ?_)))))))))))
 cases aZ H
 exact bL (hr:=⟨⟨_,_,_,rfl,rfl,gY,rfl,rfl⟩,trivial⟩)
def kQ:Nat→DS→(List ByteArray)→Int→Option (aG×DS)
 |0,_,_,_=>none
 |fu+1,pq0,pa1,pString=>I1 fu (kQ fu) pq0 pa1 pString
theorem XQ(fu:Nat):BU (kQ fu):=by
 induction fu with
 |zero=>exact(fun pq0 pa1 pString r H=>by simp only [kQ] at H;cases H)
 |succ fu ih=>exact(fun pq0 pa1 pString r H=>by simp only [kQ] at H;exact UM fu (kQ fu) ih pq0 pa1 pString r H)
theorem N8(fu:Nat):BU (kQ fu):=(XQ fu)
def alD(m:Option aA):Prop:= ∀(r:aA),m=some r→b4 Tryz.prog 147 [] ((aA.pv r):PV)
def AV(fu:Nat):Option aA:=
 bd (jL fu fW ([])) (fun x2=>
 some x2)
theorem t5(fu:Nat):alD (AV fu):=by
 intro r H
 have H:=eF H
 refine qI Tryz.func147 (fun C hC=>?_)
 refine qS (qR (q1 (gM eP) (qN (qS (qR (bN H fun x2 z1 H=>(q1 (bG Tryz.func85 (iV fu fW ([]) _ z1)) (q1 (bR eS) (qN (aQ.ret ?_))))))))))
 cases aZ H
 exact bL (hr:=⟨⟨_,_,_,rfl,rfl,bZ,rfl,rfl⟩,trivial⟩)
def afC(m:DS→Option (aH×DS)):Prop:= ∀(pq0:DS) (r:aH×DS),m pq0=some r→cP Tryz.prog 169 [.ptr 0 0] ⟨[some ⟨151,dC pq0⟩],[]⟩ (fun q t=>q=((aH.pv r.1):PV)∧t=⟨[some ⟨151,dC r.2⟩],[]⟩)
def acF(fu:Nat)(pq0 d1:DS)(y3:ByteArray)(d5:DS)(x8:aG):Option ((aH×DS)⊕((List ByteArray)×Int×ByteArray×(List aA)×(List aF)×DS)):=
 lt (d5.after 4) (fun d15=>
 sw (decide ((d5.below 4:Int)=0))
 (bd (AV fu) (fun x19=>
 some (.inr ([],x19.gKind,x19.gName,x19.gArgs,[],d15))))
 (sw (decide ((d5.below 4:Int)=1))
 (bd (lP fu f7) (fun x22=>
 bd (jL fu cH ([x22]:List aA)) (fun x24=>
 some (.inr (([f7]:List ByteArray),x24.gKind,x24.gName,x24.gArgs,([(aF.mk y3 x22)]:List aF),d15)))))
 (sw (decide ((d5.below 4:Int)=2))
 (bd (lP fu f7) (fun x27=>
 bd (lP fu zL) (fun x29=>
 bd (jL fu vP ([x27,x29]:List aA)) (fun x31=>
 some (.inr (([f7,zL]:List ByteArray),x31.gKind,x31.gName,x31.gArgs,[],d15))))))
 (bd (lP fu f7) (fun x33=>
 some (.inr (([f7]:List ByteArray),x33.gKind,x33.gName,x33.gArgs,([(aF.mk iE x33)]:List aF),d15)))))))
def acG(fu:Nat)(pq0 d1:DS)(y3:ByteArray)(d5:DS)(x8:aG)(v9:List ByteArray)(v10:Int)(v11:ByteArray)(v12:List aA)(v13:List aF)(v14:DS):Option ((aH×DS)⊕((List aA)×Bool×Int×ByteArray×DS)):=
 lt (v14.after 3) (fun d39=>
 sw (decide (v14.below 3=0))
 (bd (q9 fu d39 v9 1) (fun(x43,x44)=>
 some (.inr (x43.gArgs,true,x43.gKind,x43.gName,x44))))
 (some (.inr ([],false,0,s_,d39))))
def I9(fu:Nat)(pq0:DS):Option (aH×DS):=
 lt (pq0.after ([bF,uU,hQ]:List ByteArray).length) (fun d1=>
 lt (pq0.pick ([bF,uU,hQ]:List ByteArray)) (fun y3=>
 lt (d1.after 9) (fun d5=>
 bd (sA fu (d1.below 9:Int)) (fun x8=>
 so (acF fu pq0 d1 y3 d5 x8) (fun(v9,v10,v11,v12,v13,v14)=>
 so (acG fu pq0 d1 y3 d5 x8 v9 v10 v11 v12 v13 v14) (fun(v38,v35,v36,v37,v34)=>
 lt (v34.after 4) (fun d45=>
 lt (d45.after 12) (fun d47=>
 sw (decide ((d45.below 12:Int)=0))
 (bd (sC fu d47 2) (fun(x51,x52)=>
 some ((aH.mk y3 v9 x51 v13 (decide (v34.below 4=0)) v35 (aA.mk v36 v37 v38) ([(aP.mk eO ([eK]:List ByteArray) x8)]:List aP)),x52)))
 (sw (decide ((d45.below 12:Int)=1))
 (lt (d47.after ([f7,s_c]:List ByteArray).length) (fun d54=>
 lt (d47.pick ([f7,s_c]:List ByteArray)) (fun y56=>
 gd ((v9).length+(([y56]:List ByteArray)).length≤68719476736)
 (some ((aH.mk y3 (v9++([y56]:List ByteArray)) (aA.mk v10 v11 v12) v13 (decide (v34.below 4=0)) v35 (aA.mk v36 v37 v38) ([(aP.mk eO ([eK]:List ByteArray) x8)]:List aP)),d54)))))
 (sw (decide ((d45.below 12:Int)=2))
 (bd (sC fu d47 1) (fun(x61,x62)=>
 gd ((v13).length+(([(aF.mk uU x61)]:List aF)).length≤68719476736)
 (some ((aH.mk y3 v9 (aA.mk v10 v11 v12) (v13++([(aF.mk uU x61)]:List aF)) (decide (v34.below 4=0)) v35 (aA.mk v36 v37 v38) ([(aP.mk eO ([eK]:List ByteArray) x8)]:List aP)),x62))))
 (sw (decide ((d45.below 12:Int)=3))
 (bd (kQ fu d47 ([eK,pW]:List ByteArray) 2) (fun(x66,x67)=>
 some ((aH.mk y3 v9 (aA.mk v10 v11 v12) v13 (decide (v34.below 4=0)) v35 (aA.mk v36 v37 v38) ([(aP.mk eO ([eK]:List ByteArray) x66)]:List aP)),x67)))
 (sw (decide ((d45.below 12:Int)=4))
 (bd (AV fu) (fun x70=>
 some ((aH.mk y3 v9 (aA.mk v10 v11 v12) v13 (decide (v34.below 4=0)) v35 x70 ([(aP.mk eO ([eK]:List ByteArray) x8)]:List aP)),d47)))
 (sw (decide ((d45.below 12:Int)=5))
 (some ((aH.mk y3 v9 (aA.mk v10 v11 v12) v13 (decide (v34.below 4=0)) v35 (aA.mk v36 v37 v38) ([(aP.mk eO ([]) x8)]:List aP)),d47))
 (some ((aH.mk y3 v9 (aA.mk v10 v11 v12) v13 (decide (v34.below 4=0)) v35 (aA.mk v36 v37 v38) ([(aP.mk eO ([eK]:List ByteArray) x8)]:List aP)),d47)))))))))))))))
theorem acH(fu:Nat):afC (I9 fu):=by
 intro pq0 r H
 have H:=eF H
 refine qI Tryz.func169 (fun C hC=>?_)
 refine qS (qR (q1 (gM u4) (qN (qS (qR (q1 aE (q1 (tA ([bF,uU,hQ]:List ByteArray) bU kG) (gL H fun d1 h2 H=>(gL H fun y3 h4 H=>(q1 (fM [0] [] Tryz.func86 (LF h2 h4 (fO pq0 ([bF,uU,hQ]:List ByteArray) (by decide)))) (q1 (tA ([eK]:List ByteArray) bU kG) (q1 aE (gL H fun d5 h6 H=>?_)))))))))))))
 refine q1 (fM [0] [] Tryz.func103 (CG h6 (e9 d1 9))) (bN H fun x8 z7 H=>(q1 (bG Tryz.func159 (tX fu (d1.below 9:Int) _ z7)) (q1 (eU G5 akS) (q1 (aX.buildSliceB (cs:= [pS eO,.lit 1 (a4 (([eK]:List ByteArray))),pI x8.gKind,pS x8.gTrait,pS x8.gName,pI x8.gN,pI x8.gType.gKind,pS x8.gType.gName,a3 x8.gType.gArgs,f9 x8.gArgs,m3 x8.gArms]) rfl rfl JT G5 rfl rfl rfl (by decide) rfl (by decide)) (q1 (eU u4 RI) (q1 (gM u4) (q1 (bR s8) (qN (qS ?_)))))))))
 refine qD (σ:=(List ByteArray)×Int×ByteArray×(List aA)×(List aF)×DS) (fun(v9,v10,v11,v12,v13,v14)=>⟨[(0,.ptr 0 0),(2,.ptr 1 0),(3,.ptr 3 0)],⟨[some ⟨151,dC v14⟩,some ⟨55,[pS s_,.nil,pI 0,pS s_,.nil,.nil,pB false,pB false,pI 0,pS s_,.nil,.nil]⟩,some ⟨161,[pS eO,.lit 1 (a4 (([eK]:List ByteArray))),pI x8.gKind,pS x8.gTrait,pS x8.gName,pI x8.gN,pI x8.gType.gKind,pS x8.gType.gName,a3 x8.gType.gArgs,f9 x8.gArgs,m3 x8.gArms]⟩,some ⟨55,[pS y3,.lit 1 (a4 (v9)),pI v10,pS v11,a3 v12,.lit 4 (aF.trs (v13)),pB false,pB false,pI 0,pS s_,.nil,.bsl 2 1]⟩],[]⟩⟩) (f8 H) (fun H=>?_) ?_
 ·refine qS (qR (q1 aE (gL H fun d15 h16 H=>(q1 (fM [0] [] Tryz.func103 (CG h16 (e9 d5 4))) (qN (aQ.block (qS (qR (q1 eG (q1 aE (qN ?_)))))))))))
  refine bA H (fun h17 H=>?_) (fun h17 H=>?_)
  ·refine qR (bN H fun x19 z18 H=>(q1 (bG Tryz.func147 (t5 fu _ z18)) (q1 (a6 rC) (q1 (bR eS) (qN ?_)))))
   exact dO ⟨_,(aZ H:),b0⟩
  refine qS (qR (q1 eG (q1 aE (qN ?_))))
  refine bA H (fun h20 H=>?_) (fun h20 H=>?_)
  ·refine qS (qR (q1 (tA ([f7]:List ByteArray) bU kG) (q1 (a6 rB) (q1 (bR NP) (qN (qS (qR (bN H fun x22 z21 H=>(q1 (bG Tryz.func118 (iW fu f7 _ z21)) (q1 (tA ([x22]:List aA) c8 eP) (bN H fun x24 z23 H=>(q1 (bG Tryz.func85 (iV fu cH ([x22]:List aA) _ z23)) (q1 (a6 rC) ?_)))))))))))))
   refine q1 (bR eS) (qN (dW (dI [3] (a6 aeA) (dD [36] (bD eE) (dI [] (bG Tryz.func118 (iW fu f7 _ z21)) (dI [37,38] (eU xW OV) (dI [39] (tA ([(aF.mk y3 x22)]:List aF) mR xW) (dI [3] (a6 DB) (mN [41,40] (bR amR) (dN ?_))))))))))
   exact dO ⟨_,(aZ H:),b0⟩
  refine qS (qR (q1 eG (q1 aE (qN ?_))))
  refine bA H (fun h25 H=>?_) (fun h25 H=>?_)
  ·refine qS (qR (q1 (tA ([f7,zL]:List ByteArray) bU kG) (q1 (a6 rB) (q1 (bR NP) (qN (qR (bN H fun x27 z26 H=>(q1 (bG Tryz.func118 (iW fu f7 _ z26)) (bN H fun x29 z28 H=>(q1 (bG Tryz.func118 (iW fu zL _ z28)) (q1 (tA ([x27,x29]:List aA) c8 eP) (bN H fun x31 z30 H=>(q1 (bG Tryz.func85 (iV fu vP ([x27,x29]:List aA) _ z30)) ?_)))))))))))))
   refine q1 (a6 rC) (q1 (bR eS) (qN ?_))
   exact dO ⟨_,(aZ H:),b0⟩
  refine qS (qR (q1 (tA ([f7]:List ByteArray) bU kG) (q1 (a6 rB) (q1 (bR NP) (qN (qS (qR (bN H fun x33 z32 H=>(q1 (bG Tryz.func118 (iW fu f7 _ z32)) (q1 (a6 rC) (q1 (bR eS) (qN (qR ?_)))))))))))))
  refine q1 (bG Tryz.func118 (iW fu f7 _ z32)) (q1 (eU xW OV) (q1 (tA ([(aF.mk iE x33)]:List aF) mR xW) (q1 (a6 DB) (q1 (bR amR) (qN ?_)))))
  exact dO ⟨_,(aZ H:),b0⟩
 rintro⟨v9,v10,v11,v12,v13,v14⟩ H
 refine qS ?_;refine qD (σ:=(List aA)×Bool×Int×ByteArray×DS) (fun(v38,v35,v36,v37,v34)=>⟨[(0,.ptr 0 0),(2,.ptr 1 0),(3,.ptr 3 0)],⟨[some ⟨151,dC v34⟩,some ⟨55,[pS s_,.nil,pI 0,pS s_,.nil,.nil,pB false,pB false,pI 0,pS s_,.nil,.nil]⟩,some ⟨161,[pS eO,.lit 1 (a4 (([eK]:List ByteArray))),pI x8.gKind,pS x8.gTrait,pS x8.gName,pI x8.gN,pI x8.gType.gKind,pS x8.gType.gName,a3 x8.gType.gArgs,f9 x8.gArgs,m3 x8.gArms]⟩,some ⟨55,[pS y3,.lit 1 (a4 (v9)),pI v10,pS v11,a3 v12,.lit 4 (aF.trs (v13)),pB false,pB v35,pI v36,pS v37,a3 v38,.bsl 2 1]⟩],[]⟩⟩) (f8 H) (fun H=>?_) ?_
 ·refine qS (qR (q1 aE (gL H fun d39 h40 H=>(q1 (fM [0] [] Tryz.func112 (CG h40 (mZ v14 3))) (qN ?_)))))
  refine bA H (fun h41 H=>?_) (fun h41 H=>?_)
  ·refine qS (qR (q1 (a6 zA) (q1 (bR sz4) (qN (qR (q1 aE (q1 (a6 rB) (q1 (bD jC) (eT H fun x43 x44 z42 H=>(q1 (fM [0] [] Tryz.func130 (S6 fu d39 v9 1 _ z42)) (q1 (a6 w8) (q1 (bR eS) (qN ?_)))))))))))))
   exact dO ⟨_,(aZ H:),b0⟩
  refine aQ.skip ?_;exact dO ⟨_,(aZ H:),b0⟩
 rintro⟨v38,v35,v36,v37,v34⟩ H
 refine qS (qR (q1 aE (gL H fun d45 h46 H=>(q1 (fM [0] [] Tryz.func112 (CG h46 (mZ v34 4))) (q1 (a6 akB) (q1 (bR sz4) (qN ?_)))))))
 iterate 2 refine qS ?_
 refine qR (q1 aE (gL H fun d47 h48 H=>(q1 (fM [0] [] Tryz.func103 (CG h48 (e9 d45 12))) (qN (aQ.block (qS (qR (q1 eG (q1 aE (qN ?_))))))))))
 refine bA H (fun h49 H=>?_) (fun h49 H=>?_)
 ·refine qR (q1 aE (eT H fun x51 x52 z50 H=>(q1 (fM [0] [] Tryz.func87 (t4 fu d47 2 _ z50)) (q1 (a6 rC) (q1 (bR eS) (qN (qS (qR ?_))))))))
  refine AL.weak (Wk.freezeE (k:=2) (sz:=11) (es:= [aP.cs (aP.mk eO ([eK]:List ByteArray) x8)]) (es':=aP.trs (([(aP.mk eO ([eK]:List ByteArray) x8)]:List aP))) (s':=⟨[(0,.ptr 0 0),(2,.ptr 1 0),(3,.ptr 3 0),(63,pN (d45.below 12))],⟨[some ⟨151,dC x52⟩,some ⟨55,[pS s_,.nil,pI 0,pS s_,.nil,.nil,pB false,pB false,pI 0,pS s_,.nil,.nil]⟩,none,some ⟨55,[pS y3,.lit 1 (a4 (v9)),pI x51.gKind,pS x51.gName,a3 x51.gArgs,.lit 4 (aF.trs (v13)),pB (decide (v34.below 4=0)),pB v35,pI v36,pS v37,a3 v38,kR ([(aP.mk eO ([eK]:List ByteArray) x8)]:List aP)]⟩],[]⟩⟩) (by simp [aP.trs_map,aP.tr_cs]) rfl kP (by simp [aP.cs]) (Nat.le_of_ble_eq_true rfl) ⟨⟨rfl,dP,rfl⟩,⟨⟨rfl,dP,rfl⟩,⟨⟨rfl,dP,rfl⟩,trivial⟩⟩⟩ rfl rfl (eJ hC (j7 rfl) (Nat.le_of_ble_eq_true rfl)) (by repeat' first|exact trivial|refine⟨⟨_,rfl,dP,rfl⟩,?_⟩)) ?_;refine q1 (cU [pS y3,.lit 1 (a4 (v9)),pI x51.gKind,pS x51.gName,a3 x51.gArgs,.lit 4 (aF.trs (v13)),pB (decide (v34.below 4=0)),pB v35,pI v36,pS v37,a3 v38,kR ([(aP.mk eO ([eK]:List ByteArray) x8)]:List aP)] n9) (q1 (bR s8) (qN (aQ.ret ?_)))
  cases aZ H
  exact bL (hr:=⟨⟨_,_,_,rfl,rfl,n9,rfl,rfl⟩,trivial⟩)
 refine qS (qR (q1 eG (q1 aE (qN ?_))))
 refine bA H (fun h53 H=>?_) (fun h53 H=>?_)
 ·refine gL H fun d54 h55 H=>(gL H fun y56 h57 H=>(cX H fun z58 H=>(dW (dI [3] (a6 rB) (dB [71] 0 1 (uI jC) (dI [0] aE (dI [] (tA ([f7,s_c]:List ByteArray) bU kG) (dE [73,74] (fM [0] [] Tryz.func86 (LF h55 h57 (fO d47 ([f7,s_c]:List ByteArray) (by decide)))) (dI [75] (tA ([y56]:List ByteArray) bU kG) ?_)))))))))
  refine dI [72,76] (aX.appendLit (es1:=a4 (v9)) (es2:=a4 (([y56]:List ByteArray))) (es3:=a4 (v9++([y56]:List ByteArray))) rfl rfl rfl rfl rfl (pL _) (pL _) (by exact List.cons_ne_nil _ _) (by decide) bU qH (by decide) (by rw [a9,a9];exact yL z58 (by decide)) (uF _ _)) ?_;refine dI [3] (a6 rB) (mN [78,77] (bR NP) (dN (qS (qR ?_))))
  refine AL.weak (Wk.freezeE (k:=2) (sz:=11) (es:= [aP.cs (aP.mk eO ([eK]:List ByteArray) x8)]) (es':=aP.trs (([(aP.mk eO ([eK]:List ByteArray) x8)]:List aP))) (s':=⟨[(0,.ptr 0 0),(2,.ptr 1 0),(3,.ptr 3 0),(63,pN (d45.below 12))],⟨[some ⟨151,dC d54⟩,some ⟨55,[pS s_,.nil,pI 0,pS s_,.nil,.nil,pB false,pB false,pI 0,pS s_,.nil,.nil]⟩,none,some ⟨55,[pS y3,rS (v9++([y56]:List ByteArray)),pI v10,pS v11,a3 v12,.lit 4 (aF.trs (v13)),pB (decide (v34.below 4=0)),pB v35,pI v36,pS v37,a3 v38,kR ([(aP.mk eO ([eK]:List ByteArray) x8)]:List aP)]⟩],[]⟩⟩) (by simp [aP.trs_map,aP.tr_cs]) rfl kP (by simp [aP.cs]) (Nat.le_of_ble_eq_true rfl) ⟨⟨rfl,dP,rfl⟩,⟨⟨rfl,dP,rfl⟩,⟨⟨rfl,dP,rfl⟩,trivial⟩⟩⟩ rfl rfl (eJ hC (j7 rfl) (Nat.le_of_ble_eq_true rfl)) (by repeat' first|exact trivial|refine⟨⟨_,rfl,dP,rfl⟩,?_⟩)) ?_;refine q1 (cU [pS y3,rS (v9++([y56]:List ByteArray)),pI v10,pS v11,a3 v12,.lit 4 (aF.trs (v13)),pB (decide (v34.below 4=0)),pB v35,pI v36,pS v37,a3 v38,kR ([(aP.mk eO ([eK]:List ByteArray) x8)]:List aP)] n9) (q1 (bR s8) (qN (aQ.ret ?_)))
  cases aZ H
  exact bL (hr:=⟨⟨_,_,_,rfl,rfl,n9,rfl,rfl⟩,trivial⟩)
 refine qS (qR (q1 eG (q1 aE (qN ?_))))
 refine bA H (fun h59 H=>?_) (fun h59 H=>?_)
 ·refine eT H fun x61 x62 z60 H=>(cX H fun z63 H=>(dW (dI [3] (a6 DB) (dB [81] 0 1 (uI aeT) (dI [0] aE (dE [83] (fM [0] [] Tryz.func87 (t4 fu d47 1 _ z60)) (dI [84] (eU xW OV) (dI [85] (tA ([(aF.mk uU x61)]:List aF) mR xW) ?_))))))))
  refine dI [82,86] (aX.appendLit (es1:=aF.trs (v13)) (es2:=aF.trs (([(aF.mk uU x61)]:List aF))) (es3:=aF.trs (v13++([(aF.mk uU x61)]:List aF))) rfl rfl rfl rfl rfl (fun e he=>by rw [aF.trs_map] at he;obtain⟨x,_,rfl⟩:=List.mem_map.1 he;rw [aF.tr_cs];rfl) (fun e he=>by rw [aF.trs_map] at he;obtain⟨x,_,rfl⟩:=List.mem_map.1 he;rw [aF.tr_cs];rfl) (by rw [aF.trs_map];exact List.cons_ne_nil _ _) (by decide) mR amV (by decide) (by rw [aF.trs_len,aF.trs_len];exact yL z63 (by decide)) (by rw [aF.trs_map,aF.trs_map,aF.trs_map,List.map_append])) ?_;refine dI [3] (a6 DB) (mN [88,87] (bR amR) (dN (qS (qR ?_))))
  refine AL.weak (Wk.freezeE (k:=2) (sz:=11) (es:= [aP.cs (aP.mk eO ([eK]:List ByteArray) x8)]) (es':=aP.trs (([(aP.mk eO ([eK]:List ByteArray) x8)]:List aP))) (s':=⟨[(0,.ptr 0 0),(2,.ptr 1 0),(3,.ptr 3 0),(63,pN (d45.below 12))],⟨[some ⟨151,dC x62⟩,some ⟨55,[pS s_,.nil,pI 0,pS s_,.nil,.nil,pB false,pB false,pI 0,pS s_,.nil,.nil]⟩,none,some ⟨55,[pS y3,.lit 1 (a4 (v9)),pI v10,pS v11,a3 v12,cG (v13++([(aF.mk uU x61)]:List aF)),pB (decide (v34.below 4=0)),pB v35,pI v36,pS v37,a3 v38,kR ([(aP.mk eO ([eK]:List ByteArray) x8)]:List aP)]⟩],[]⟩⟩) (by simp [aP.trs_map,aP.tr_cs]) rfl kP (by simp [aP.cs]) (Nat.le_of_ble_eq_true rfl) ⟨⟨rfl,dP,rfl⟩,⟨⟨rfl,dP,rfl⟩,⟨⟨rfl,dP,rfl⟩,trivial⟩⟩⟩ rfl rfl (eJ hC (j7 rfl) (Nat.le_of_ble_eq_true rfl)) (by repeat' first|exact trivial|refine⟨⟨_,rfl,dP,rfl⟩,?_⟩)) ?_;refine q1 (cU [pS y3,.lit 1 (a4 (v9)),pI v10,pS v11,a3 v12,cG (v13++([(aF.mk uU x61)]:List aF)),pB (decide (v34.below 4=0)),pB v35,pI v36,pS v37,a3 v38,kR ([(aP.mk eO ([eK]:List ByteArray) x8)]:List aP)] n9) (q1 (bR s8) (qN (aQ.ret ?_)))
  cases aZ H
  exact bL (hr:=⟨⟨_,_,_,rfl,rfl,n9,rfl,rfl⟩,trivial⟩)
 refine qS (qR (q1 eG (q1 aE (qN ?_))))
 refine bA H (fun h64 H=>?_) (fun h64 H=>?_)
 ·refine eT H fun x66 x67 z65 H=>(dW (dI [3] (a6 w9) (dB [91] 0 1 (uI XO) (dI [0] aE (dI [] (tA ([eK,pW]:List ByteArray) bU kG) (dE [93,94] (fM [0] [] Tryz.func111 (N8 fu d47 ([eK,pW]:List ByteArray) 2 _ z65)) (dI [92] (aX.indexB (sz:=11) (k:=2) (N:=1) (i:=0) rfl rfl rfl rfl (by decide) JT) (dI [96] (a6 PT) (mN [97,95] (bR p7) (dN (qS (qR ?_))))))))))))
  refine AL.weak (Wk.freezeE (k:=2) (sz:=11) (es:= [aP.cs (aP.mk eO ([eK]:List ByteArray) x66)]) (es':=aP.trs (([(aP.mk eO ([eK]:List ByteArray) x66)]:List aP))) (s':=⟨[(0,.ptr 0 0),(2,.ptr 1 0),(3,.ptr 3 0),(63,pN (d45.below 12))],⟨[some ⟨151,dC x67⟩,some ⟨55,[pS s_,.nil,pI 0,pS s_,.nil,.nil,pB false,pB false,pI 0,pS s_,.nil,.nil]⟩,none,some ⟨55,[pS y3,.lit 1 (a4 (v9)),pI v10,pS v11,a3 v12,.lit 4 (aF.trs (v13)),pB (decide (v34.below 4=0)),pB v35,pI v36,pS v37,a3 v38,kR ([(aP.mk eO ([eK]:List ByteArray) x66)]:List aP)]⟩],[]⟩⟩) (by simp [aP.trs_map,aP.tr_cs]) rfl kP (by simp [aP.cs]) (Nat.le_of_ble_eq_true rfl) ⟨⟨rfl,dP,rfl⟩,⟨⟨rfl,dP,rfl⟩,⟨⟨rfl,dP,rfl⟩,trivial⟩⟩⟩ rfl rfl (eJ hC (j7 rfl) (Nat.le_of_ble_eq_true rfl)) (by repeat' first|exact trivial|refine⟨⟨_,rfl,dP,rfl⟩,?_⟩)) ?_;refine q1 (cU [pS y3,.lit 1 (a4 (v9)),pI v10,pS v11,a3 v12,.lit 4 (aF.trs (v13)),pB (decide (v34.below 4=0)),pB v35,pI v36,pS v37,a3 v38,kR ([(aP.mk eO ([eK]:List ByteArray) x66)]:List aP)] n9) (q1 (bR s8) (qN (aQ.ret ?_)))
  cases aZ H
  exact bL (hr:=⟨⟨_,_,_,rfl,rfl,n9,rfl,rfl⟩,trivial⟩)
 refine qS (qR (q1 eG (q1 aE (qN ?_))))
 refine bA H (fun h68 H=>?_) (fun h68 H=>?_)
 ·refine qR (bN H fun x70 z69 H=>(q1 (bG Tryz.func147 (t5 fu _ z69)) (q1 (a6 w8) (q1 (bR eS) (qN (qS (qR ?_)))))))
  refine AL.weak (Wk.freezeE (k:=2) (sz:=11) (es:= [aP.cs (aP.mk eO ([eK]:List ByteArray) x8)]) (es':=aP.trs (([(aP.mk eO ([eK]:List ByteArray) x8)]:List aP))) (s':=⟨[(0,.ptr 0 0),(2,.ptr 1 0),(3,.ptr 3 0),(63,pN (d45.below 12))],⟨[some ⟨151,dC d47⟩,some ⟨55,[pS s_,.nil,pI 0,pS s_,.nil,.nil,pB false,pB false,pI 0,pS s_,.nil,.nil]⟩,none,some ⟨55,[pS y3,.lit 1 (a4 (v9)),pI v10,pS v11,a3 v12,.lit 4 (aF.trs (v13)),pB (decide (v34.below 4=0)),pB v35,pI x70.gKind,pS x70.gName,a3 x70.gArgs,kR ([(aP.mk eO ([eK]:List ByteArray) x8)]:List aP)]⟩],[]⟩⟩) (by simp [aP.trs_map,aP.tr_cs]) rfl kP (by simp [aP.cs]) (Nat.le_of_ble_eq_true rfl) ⟨⟨rfl,dP,rfl⟩,⟨⟨rfl,dP,rfl⟩,⟨⟨rfl,dP,rfl⟩,trivial⟩⟩⟩ rfl rfl (eJ hC (j7 rfl) (Nat.le_of_ble_eq_true rfl)) (by repeat' first|exact trivial|refine⟨⟨_,rfl,dP,rfl⟩,?_⟩)) ?_;refine q1 (cU [pS y3,.lit 1 (a4 (v9)),pI v10,pS v11,a3 v12,.lit 4 (aF.trs (v13)),pB (decide (v34.below 4=0)),pB v35,pI x70.gKind,pS x70.gName,a3 x70.gArgs,kR ([(aP.mk eO ([eK]:List ByteArray) x8)]:List aP)] n9) (q1 (bR s8) (qN (aQ.ret ?_)))
  cases aZ H
  exact bL (hr:=⟨⟨_,_,_,rfl,rfl,n9,rfl,rfl⟩,trivial⟩)
 refine qS (qR (q1 eG (q1 aE (qN ?_))))
 refine bA H (fun h71 H=>?_) (fun h71 H=>?_)
 ·refine qR (q1 (a6 w9) (q1 (bD XO) (q1 (tA ([]:List ByteArray) bU kG) (q1 (aX.indexB (sz:=11) (k:=2) (N:=1) (i:=0) rfl rfl rfl rfl (by decide) JT) (q1 (a6 ER) (q1 (bR NP) (qN (qS (qR ?_)))))))))
  refine AL.weak (Wk.freezeE (k:=2) (sz:=11) (es:= [aP.cs (aP.mk eO ([]) x8)]) (es':=aP.trs (([(aP.mk eO ([]) x8)]:List aP))) (s':=⟨[(0,.ptr 0 0),(2,.ptr 1 0),(3,.ptr 3 0),(63,pN (d45.below 12))],⟨[some ⟨151,dC d47⟩,some ⟨55,[pS s_,.nil,pI 0,pS s_,.nil,.nil,pB false,pB false,pI 0,pS s_,.nil,.nil]⟩,none,some ⟨55,[pS y3,.lit 1 (a4 (v9)),pI v10,pS v11,a3 v12,.lit 4 (aF.trs (v13)),pB (decide (v34.below 4=0)),pB v35,pI v36,pS v37,a3 v38,kR ([(aP.mk eO ([]) x8)]:List aP)]⟩],[]⟩⟩) (by simp [aP.trs_map,aP.tr_cs]) rfl kP (by simp [aP.cs]) (Nat.le_of_ble_eq_true rfl) ⟨⟨rfl,dP,rfl⟩,⟨⟨rfl,dP,rfl⟩,⟨⟨rfl,dP,rfl⟩,trivial⟩⟩⟩ rfl rfl (eJ hC (j7 rfl) (Nat.le_of_ble_eq_true rfl)) (by repeat' first|exact trivial|refine⟨⟨_,rfl,dP,rfl⟩,?_⟩)) ?_;refine q1 (cU [pS y3,.lit 1 (a4 (v9)),pI v10,pS v11,a3 v12,.lit 4 (aF.trs (v13)),pB (decide (v34.below 4=0)),pB v35,pI v36,pS v37,a3 v38,kR ([(aP.mk eO ([]) x8)]:List aP)] n9) (q1 (bR s8) (qN (aQ.ret ?_)))
  cases aZ H
  exact bL (hr:=⟨⟨_,_,_,rfl,rfl,n9,rfl,rfl⟩,trivial⟩)
 refine aQ.skip (qS (qR ?_))
 refine AL.weak (Wk.freezeE (k:=2) (sz:=11) (es:= [aP.cs (aP.mk eO ([eK]:List ByteArray) x8)]) (es':=aP.trs (([(aP.mk eO ([eK]:List ByteArray) x8)]:List aP))) (s':=⟨[(0,.ptr 0 0),(2,.ptr 1 0),(3,.ptr 3 0),(63,pN (d45.below 12))],⟨[some ⟨151,dC d47⟩,some ⟨55,[pS s_,.nil,pI 0,pS s_,.nil,.nil,pB false,pB false,pI 0,pS s_,.nil,.nil]⟩,none,some ⟨55,[pS y3,.lit 1 (a4 (v9)),pI v10,pS v11,a3 v12,.lit 4 (aF.trs (v13)),pB (decide (v34.below 4=0)),pB v35,pI v36,pS v37,a3 v38,kR ([(aP.mk eO ([eK]:List ByteArray) x8)]:List aP)]⟩],[]⟩⟩) (by simp [aP.trs_map,aP.tr_cs]) rfl kP (by simp [aP.cs]) (Nat.le_of_ble_eq_true rfl) ⟨⟨rfl,dP,rfl⟩,⟨⟨rfl,dP,rfl⟩,⟨⟨rfl,dP,rfl⟩,trivial⟩⟩⟩ rfl rfl (eJ hC (j7 rfl) (Nat.le_of_ble_eq_true rfl)) (by repeat' first|exact trivial|refine⟨⟨_,rfl,dP,rfl⟩,?_⟩)) ?_;refine q1 (cU [pS y3,.lit 1 (a4 (v9)),pI v10,pS v11,a3 v12,.lit 4 (aF.trs (v13)),pB (decide (v34.below 4=0)),pB v35,pI v36,pS v37,a3 v38,kR ([(aP.mk eO ([eK]:List ByteArray) x8)]:List aP)] n9) (q1 (bR s8) (qN (aQ.ret ?_)))
 cases aZ H
 exact bL (hr:=⟨⟨_,_,_,rfl,rfl,n9,rfl,rfl⟩,trivial⟩)
def ak6(m:DS→Option (aM×DS)):Prop:= ∀(pc:DS) (r:aM×DS),m pc=some r→cP Tryz.prog 170 [.ptr 0 0] ⟨[some ⟨151,dC pc⟩],[]⟩ (fun q t=>q=((aM.pv r.1):PV)∧t=⟨[some ⟨151,dC r.2⟩],[]⟩)
def SM(fu:Nat)(pc:DS):Option (aM×DS):=
 lt (pc.after ([s_f,s_g]:List ByteArray).length) (fun d1=>
 lt (pc.pick ([s_f,s_g]:List ByteArray)) (fun y3=>
 bd (lP fu f7) (fun x6=>
 bd (AV fu) (fun x8=>
 bd (tZ fu eK) (fun x10=>
 lt (d1.after 10) (fun d11=>
 sw (decide ((d1.below 10:Int)=0))
 (bd (sC fu d11 2) (fun(x15,x16)=>
 some ((aM.mk y3 ([f7]:List ByteArray) ([(aF.mk bF x6)]:List aF) ([(aU.mk eK x6)]:List aU) x15 (aG.mk 5 bF eO 0 (aA.mk 0 s_ []) ([x10]:List aG) [])),x16)))
 (sw (decide ((d1.below 10:Int)=1))
 (lt (d11.after ([eK,pW]:List ByteArray).length) (fun d18=>
 lt (d11.pick ([eK,pW]:List ByteArray)) (fun y20=>
 gd ((([(aU.mk eK x6)]:List aU)).length+(([(aU.mk y20 x8)]:List aU)).length≤68719476736)
 (some ((aM.mk y3 ([f7]:List ByteArray) ([(aF.mk bF x6)]:List aF) (([(aU.mk eK x6)]:List aU)++([(aU.mk y20 x8)]:List aU)) x8 (aG.mk 5 bF eO 0 (aA.mk 0 s_ []) ([x10]:List aG) [])),d18)))))
 (sw (decide ((d1.below 10:Int)=2))
 (bd (kQ fu d11 ([eK,pW]:List ByteArray) 3) (fun(x25,x26)=>
 some ((aM.mk y3 ([f7]:List ByteArray) ([(aF.mk bF x6)]:List aF) ([(aU.mk eK x6)]:List aU) x8 x25),x26)))
 (sw (decide ((d1.below 10:Int)=3))
 (bd (sC fu d11 1) (fun(x29,x30)=>
 some ((aM.mk y3 ([f7]:List ByteArray) ([(aF.mk bF x29)]:List aF) ([(aU.mk eK x6)]:List aU) x8 (aG.mk 5 bF eO 0 (aA.mk 0 s_ []) ([x10]:List aG) [])),x30)))
 (sw (decide ((d1.below 10:Int)=4))
 (lt (d11.after ([s_,BS]:List ByteArray).length) (fun d32=>
 lt (d11.pick ([s_,BS]:List ByteArray)) (fun y34=>
 some ((aM.mk y34 ([f7]:List ByteArray) ([(aF.mk bF x6)]:List aF) ([(aU.mk eK x6)]:List aU) x8 (aG.mk 5 bF eO 0 (aA.mk 0 s_ []) ([x10]:List aG) [])),d32))))
 (some ((aM.mk y3 ([f7]:List ByteArray) ([(aF.mk bF x6)]:List aF) ([(aU.mk eK x6)]:List aU) x8 (aG.mk 5 bF eO 0 (aA.mk 0 s_ []) ([x10]:List aG) [])),d11))))))))))))
theorem ai7(fu:Nat):ak6 (SM fu):=by
 intro pc r H
 have H:=eF H
 refine qI Tryz.func170 (fun C hC=>?_)
 refine qS (qR (q1 (gM CP) (qN (qS (qR (q1 aE (q1 (tA ([s_f,s_g]:List ByteArray) bU kG) (gL H fun d1 h2 H=>(gL H fun y3 h4 H=>(q1 (fM [0] [] Tryz.func86 (LF h2 h4 (fO pc ([s_f,s_g]:List ByteArray) (by decide)))) (q1 (tA ([f7]:List ByteArray) bU kG) (bN H fun x6 z5 H=>(q1 (bG Tryz.func118 (iW fu f7 _ z5)) ?_)))))))))))))
 refine q1 (eU xW OV) (q1 (aX.buildSliceB (cs:= [pS bF,pI x6.gKind,pS x6.gName,a3 x6.gArgs]) rfl rfl mR xW rfl rfl rfl (by decide) rfl (by decide)) (q1 (bG Tryz.func118 (iW fu f7 _ z5)) (q1 (eU V1 akU) (q1 (tA ([(aU.mk eK x6)]:List aU) DA V1) (bN H fun x8 z7 H=>(q1 (bG Tryz.func147 (t5 fu _ z7)) (bN H fun x10 z9 H=>(q1 (bG Tryz.func157 (xP fu eK _ z9)) (q1 (tA ([x10]:List aG) mA kB) (q1 (eU kB xJ) (q1 (eU CP aaV) (q1 (gM CP) (q1 (bR AX) ?_)))))))))))))
 refine qN ?_
 iterate 2 refine qS ?_
 refine qR (q1 aE (gL H fun d11 h12 H=>(q1 (fM [0] [] Tryz.func103 (CG h12 (e9 d1 10))) (qN (aQ.block (qS (qR (q1 eG (q1 aE (qN ?_))))))))))
 refine bA H (fun h13 H=>?_) (fun h13 H=>?_)
 ·refine qR (q1 aE (eT H fun x15 x16 z14 H=>(q1 (fM [0] [] Tryz.func87 (t4 fu d11 2 _ z14)) (q1 (a6 WQ) (q1 (bR eS) (qN (qS (qR ?_))))))))
  refine AL.weak (Wk.freezeE (k:=2) (sz:=4) (es:= [aF.cs (aF.mk bF x6)]) (es':=aF.trs (([(aF.mk bF x6)]:List aF))) (s':=⟨[(0,.ptr 0 0),(2,.ptr 1 0),(3,.ptr 3 0),(20,pN (d1.below 10))],⟨[some ⟨151,dC x16⟩,some ⟨148,[pS s_,.nil,.nil,.nil,pI 0,pS s_,.nil,pI 0,pS s_,pS s_,pI 0,pI 0,pS s_,.nil,.nil,.nil]⟩,none,some ⟨148,[pS y3,.lit 1 (a4 (([f7]:List ByteArray))),cG ([(aF.mk bF x6)]:List aF),.lit 4 (aU.trs (([(aU.mk eK x6)]:List aU))),pI x15.gKind,pS x15.gName,a3 x15.gArgs,pI 5,pS bF,pS eO,pI 0,pI 0,pS s_,.nil,.lit 9 (aG.trs (([x10]:List aG))),.nil]⟩],[]⟩⟩) (by simp [aF.trs_map,aF.tr_cs]) rfl kP (by simp [aF.cs]) (Nat.le_of_ble_eq_true rfl) ⟨⟨rfl,dP,rfl⟩,⟨⟨rfl,dP,rfl⟩,⟨⟨rfl,dP,rfl⟩,trivial⟩⟩⟩ rfl rfl (eJ hC (j7 rfl) (Nat.le_of_ble_eq_true rfl)) (by repeat' first|exact trivial|refine⟨⟨_,rfl,dP,rfl⟩,?_⟩)) ?_;refine q1 (cU [pS y3,.lit 1 (a4 (([f7]:List ByteArray))),cG ([(aF.mk bF x6)]:List aF),.lit 4 (aU.trs (([(aU.mk eK x6)]:List aU))),pI x15.gKind,pS x15.gName,a3 x15.gArgs,pI 5,pS bF,pS eO,pI 0,pI 0,pS s_,.nil,.lit 9 (aG.trs (([x10]:List aG))),.nil] qQ) (q1 (bR AX) (qN (aQ.ret ?_)))
  cases aZ H
  exact bL (hr:=⟨⟨_,_,_,rfl,rfl,qQ,rfl,rfl⟩,trivial⟩)
 refine qS (qR (q1 eG (q1 aE (qN ?_))))
 refine bA H (fun h17 H=>?_) (fun h17 H=>?_)
 ·refine gL H fun d18 h19 H=>(gL H fun y20 h21 H=>(cX H fun z22 H=>(dW (dI [3] (a6 uA) (dB [28] 0 1 (uI N7) (dI [0] aE (dI [] (tA ([eK,pW]:List ByteArray) bU kG) (dE [30,31] (fM [0] [] Tryz.func86 (LF h19 h21 (fO d11 ([eK,pW]:List ByteArray) (by decide)))) (dI [] (bG Tryz.func147 (t5 fu _ z7)) (dI [32,33] (eU V1 akU) (dI [34] (tA ([(aU.mk y20 x8)]:List aU) DA V1) ?_)))))))))))
  refine dI [29,35] (aX.appendLit (es1:=aU.trs (([(aU.mk eK x6)]:List aU))) (es2:=aU.trs (([(aU.mk y20 x8)]:List aU))) (es3:=aU.trs (([(aU.mk eK x6)]:List aU)++([(aU.mk y20 x8)]:List aU))) rfl rfl rfl rfl rfl (fun e he=>by rw [aU.trs_map] at he;obtain⟨x,_,rfl⟩:=List.mem_map.1 he;rw [aU.tr_cs];rfl) (fun e he=>by rw [aU.trs_map] at he;obtain⟨x,_,rfl⟩:=List.mem_map.1 he;rw [aU.tr_cs];rfl) (by rw [aU.trs_map];exact List.cons_ne_nil _ _) (by decide) DA anI (by decide) (by rw [aU.trs_len,aU.trs_len];exact yL z22 (by decide)) (by rw [aU.trs_map,aU.trs_map,aU.trs_map,List.map_append])) ?_;refine dI [3] (a6 uA) (mN [37,36] (bR anC) (dN (qS (qR ?_))))
  refine AL.weak (Wk.freezeE (k:=2) (sz:=4) (es:= [aF.cs (aF.mk bF x6)]) (es':=aF.trs (([(aF.mk bF x6)]:List aF))) (s':=⟨[(0,.ptr 0 0),(2,.ptr 1 0),(3,.ptr 3 0),(20,pN (d1.below 10))],⟨[some ⟨151,dC d18⟩,some ⟨148,[pS s_,.nil,.nil,.nil,pI 0,pS s_,.nil,pI 0,pS s_,pS s_,pI 0,pI 0,pS s_,.nil,.nil,.nil]⟩,none,some ⟨148,[pS y3,.lit 1 (a4 (([f7]:List ByteArray))),cG ([(aF.mk bF x6)]:List aF),RK (([(aU.mk eK x6)]:List aU)++([(aU.mk y20 x8)]:List aU)),pI x8.gKind,pS x8.gName,a3 x8.gArgs,pI 5,pS bF,pS eO,pI 0,pI 0,pS s_,.nil,.lit 9 (aG.trs (([x10]:List aG))),.nil]⟩],[]⟩⟩) (by simp [aF.trs_map,aF.tr_cs]) rfl kP (by simp [aF.cs]) (Nat.le_of_ble_eq_true rfl) ⟨⟨rfl,dP,rfl⟩,⟨⟨rfl,dP,rfl⟩,⟨⟨rfl,dP,rfl⟩,trivial⟩⟩⟩ rfl rfl (eJ hC (j7 rfl) (Nat.le_of_ble_eq_true rfl)) (by repeat' first|exact trivial|refine⟨⟨_,rfl,dP,rfl⟩,?_⟩)) ?_;refine q1 (cU [pS y3,.lit 1 (a4 (([f7]:List ByteArray))),cG ([(aF.mk bF x6)]:List aF),RK (([(aU.mk eK x6)]:List aU)++([(aU.mk y20 x8)]:List aU)),pI x8.gKind,pS x8.gName,a3 x8.gArgs,pI 5,pS bF,pS eO,pI 0,pI 0,pS s_,.nil,.lit 9 (aG.trs (([x10]:List aG))),.nil] qQ) (q1 (bR AX) (qN (aQ.ret ?_)))
  cases aZ H
  exact bL (hr:=⟨⟨_,_,_,rfl,rfl,qQ,rfl,rfl⟩,trivial⟩)
 refine qS (qR (q1 eG (q1 aE (qN ?_))))
 refine bA H (fun h23 H=>?_) (fun h23 H=>?_)
 ·refine qR (q1 aE (q1 (tA ([eK,pW]:List ByteArray) bU kG) (eT H fun x25 x26 z24 H=>(q1 (fM [0] [] Tryz.func111 (N8 fu d11 ([eK,pW]:List ByteArray) 3 _ z24)) (q1 (a6 WR) (q1 (bR p7) (qN (qS (qR ?_)))))))))
  refine AL.weak (Wk.freezeE (k:=2) (sz:=4) (es:= [aF.cs (aF.mk bF x6)]) (es':=aF.trs (([(aF.mk bF x6)]:List aF))) (s':=⟨[(0,.ptr 0 0),(2,.ptr 1 0),(3,.ptr 3 0),(20,pN (d1.below 10))],⟨[some ⟨151,dC x26⟩,some ⟨148,[pS s_,.nil,.nil,.nil,pI 0,pS s_,.nil,pI 0,pS s_,pS s_,pI 0,pI 0,pS s_,.nil,.nil,.nil]⟩,none,some ⟨148,[pS y3,.lit 1 (a4 (([f7]:List ByteArray))),cG ([(aF.mk bF x6)]:List aF),.lit 4 (aU.trs (([(aU.mk eK x6)]:List aU))),pI x8.gKind,pS x8.gName,a3 x8.gArgs,pI x25.gKind,pS x25.gTrait,pS x25.gName,pI x25.gN,pI x25.gType.gKind,pS x25.gType.gName,a3 x25.gType.gArgs,f9 x25.gArgs,m3 x25.gArms]⟩],[]⟩⟩) (by simp [aF.trs_map,aF.tr_cs]) rfl kP (by simp [aF.cs]) (Nat.le_of_ble_eq_true rfl) ⟨⟨rfl,dP,rfl⟩,⟨⟨rfl,dP,rfl⟩,⟨⟨rfl,dP,rfl⟩,trivial⟩⟩⟩ rfl rfl (eJ hC (j7 rfl) (Nat.le_of_ble_eq_true rfl)) (by repeat' first|exact trivial|refine⟨⟨_,rfl,dP,rfl⟩,?_⟩)) ?_;refine q1 (cU [pS y3,.lit 1 (a4 (([f7]:List ByteArray))),cG ([(aF.mk bF x6)]:List aF),.lit 4 (aU.trs (([(aU.mk eK x6)]:List aU))),pI x8.gKind,pS x8.gName,a3 x8.gArgs,pI x25.gKind,pS x25.gTrait,pS x25.gName,pI x25.gN,pI x25.gType.gKind,pS x25.gType.gName,a3 x25.gType.gArgs,f9 x25.gArgs,m3 x25.gArms] qQ) (q1 (bR AX) (qN (aQ.ret ?_)))
  cases aZ H
  exact bL (hr:=⟨⟨_,_,_,rfl,rfl,qQ,rfl,rfl⟩,trivial⟩)
 refine qS (qR (q1 eG (q1 aE (qN ?_))))
 refine bA H (fun h27 H=>?_) (fun h27 H=>?_)
 ·refine eT H fun x29 x30 z28 H=>(dW (dI [3] (a6 WP) (dB [46] 0 1 (uI aeT) (dI [0] aE (dE [48] (fM [0] [] Tryz.func87 (t4 fu d11 1 _ z28)) (dI [47] (aX.indexB (sz:=4) (k:=2) (N:=1) (i:=0) rfl rfl rfl rfl (by decide) mR) (dI [50] (a6 rA) (mN [51,49] (bR eS) (dN (qS (qR ?_)))))))))))
  refine AL.weak (Wk.freezeE (k:=2) (sz:=4) (es:= [aF.cs (aF.mk bF x29)]) (es':=aF.trs (([(aF.mk bF x29)]:List aF))) (s':=⟨[(0,.ptr 0 0),(2,.ptr 1 0),(3,.ptr 3 0),(20,pN (d1.below 10))],⟨[some ⟨151,dC x30⟩,some ⟨148,[pS s_,.nil,.nil,.nil,pI 0,pS s_,.nil,pI 0,pS s_,pS s_,pI 0,pI 0,pS s_,.nil,.nil,.nil]⟩,none,some ⟨148,[pS y3,.lit 1 (a4 (([f7]:List ByteArray))),cG ([(aF.mk bF x29)]:List aF),.lit 4 (aU.trs (([(aU.mk eK x6)]:List aU))),pI x8.gKind,pS x8.gName,a3 x8.gArgs,pI 5,pS bF,pS eO,pI 0,pI 0,pS s_,.nil,.lit 9 (aG.trs (([x10]:List aG))),.nil]⟩],[]⟩⟩) (by simp [aF.trs_map,aF.tr_cs]) rfl kP (by simp [aF.cs]) (Nat.le_of_ble_eq_true rfl) ⟨⟨rfl,dP,rfl⟩,⟨⟨rfl,dP,rfl⟩,⟨⟨rfl,dP,rfl⟩,trivial⟩⟩⟩ rfl rfl (eJ hC (j7 rfl) (Nat.le_of_ble_eq_true rfl)) (by repeat' first|exact trivial|refine⟨⟨_,rfl,dP,rfl⟩,?_⟩)) ?_;refine q1 (cU [pS y3,.lit 1 (a4 (([f7]:List ByteArray))),cG ([(aF.mk bF x29)]:List aF),.lit 4 (aU.trs (([(aU.mk eK x6)]:List aU))),pI x8.gKind,pS x8.gName,a3 x8.gArgs,pI 5,pS bF,pS eO,pI 0,pI 0,pS s_,.nil,.lit 9 (aG.trs (([x10]:List aG))),.nil] qQ) (q1 (bR AX) (qN (aQ.ret ?_)))
  cases aZ H
  exact bL (hr:=⟨⟨_,_,_,rfl,rfl,qQ,rfl,rfl⟩,trivial⟩)
 refine qS (qR (q1 eG (q1 aE (qN ?_))))
 refine bA H (fun h31 H=>?_) (fun h31 H=>?_)
 ·refine qR (q1 aE (q1 (tA ([s_,BS]:List ByteArray) bU kG) (gL H fun d32 h33 H=>(gL H fun y34 h35 H=>(q1 (fM [0] [] Tryz.func86 (LF h33 h35 (fO d11 ([s_,BS]:List ByteArray) (by decide)))) (q1 (a6 PP) (q1 (bR sz9) (qN (qS (qR ?_))))))))))
  refine AL.weak (Wk.freezeE (k:=2) (sz:=4) (es:= [aF.cs (aF.mk bF x6)]) (es':=aF.trs (([(aF.mk bF x6)]:List aF))) (s':=⟨[(0,.ptr 0 0),(2,.ptr 1 0),(3,.ptr 3 0),(20,pN (d1.below 10))],⟨[some ⟨151,dC d32⟩,some ⟨148,[pS s_,.nil,.nil,.nil,pI 0,pS s_,.nil,pI 0,pS s_,pS s_,pI 0,pI 0,pS s_,.nil,.nil,.nil]⟩,none,some ⟨148,[pS y34,.lit 1 (a4 (([f7]:List ByteArray))),cG ([(aF.mk bF x6)]:List aF),.lit 4 (aU.trs (([(aU.mk eK x6)]:List aU))),pI x8.gKind,pS x8.gName,a3 x8.gArgs,pI 5,pS bF,pS eO,pI 0,pI 0,pS s_,.nil,.lit 9 (aG.trs (([x10]:List aG))),.nil]⟩],[]⟩⟩) (by simp [aF.trs_map,aF.tr_cs]) rfl kP (by simp [aF.cs]) (Nat.le_of_ble_eq_true rfl) ⟨⟨rfl,dP,rfl⟩,⟨⟨rfl,dP,rfl⟩,⟨⟨rfl,dP,rfl⟩,trivial⟩⟩⟩ rfl rfl (eJ hC (j7 rfl) (Nat.le_of_ble_eq_true rfl)) (by repeat' first|exact trivial|refine⟨⟨_,rfl,dP,rfl⟩,?_⟩)) ?_;refine q1 (cU [pS y34,.lit 1 (a4 (([f7]:List ByteArray))),cG ([(aF.mk bF x6)]:List aF),.lit 4 (aU.trs (([(aU.mk eK x6)]:List aU))),pI x8.gKind,pS x8.gName,a3 x8.gArgs,pI 5,pS bF,pS eO,pI 0,pI 0,pS s_,.nil,.lit 9 (aG.trs (([x10]:List aG))),.nil] qQ) (q1 (bR AX) (qN (aQ.ret ?_)))
  cases aZ H
  exact bL (hr:=⟨⟨_,_,_,rfl,rfl,qQ,rfl,rfl⟩,trivial⟩)
 refine aQ.skip (qS (qR ?_))
 refine AL.weak (Wk.freezeE (k:=2) (sz:=4) (es:= [aF.cs (aF.mk bF x6)]) (es':=aF.trs (([(aF.mk bF x6)]:List aF))) (s':=⟨[(0,.ptr 0 0),(2,.ptr 1 0),(3,.ptr 3 0),(20,pN (d1.below 10))],⟨[some ⟨151,dC d11⟩,some ⟨148,[pS s_,.nil,.nil,.nil,pI 0,pS s_,.nil,pI 0,pS s_,pS s_,pI 0,pI 0,pS s_,.nil,.nil,.nil]⟩,none,some ⟨148,[pS y3,.lit 1 (a4 (([f7]:List ByteArray))),cG ([(aF.mk bF x6)]:List aF),.lit 4 (aU.trs (([(aU.mk eK x6)]:List aU))),pI x8.gKind,pS x8.gName,a3 x8.gArgs,pI 5,pS bF,pS eO,pI 0,pI 0,pS s_,.nil,.lit 9 (aG.trs (([x10]:List aG))),.nil]⟩],[]⟩⟩) (by simp [aF.trs_map,aF.tr_cs]) rfl kP (by simp [aF.cs]) (Nat.le_of_ble_eq_true rfl) ⟨⟨rfl,dP,rfl⟩,⟨⟨rfl,dP,rfl⟩,⟨⟨rfl,dP,rfl⟩,trivial⟩⟩⟩ rfl rfl (eJ hC (j7 rfl) (Nat.le_of_ble_eq_true rfl)) (by repeat' first|exact trivial|refine⟨⟨_,rfl,dP,rfl⟩,?_⟩)) ?_;refine q1 (cU [pS y3,.lit 1 (a4 (([f7]:List ByteArray))),cG ([(aF.mk bF x6)]:List aF),.lit 4 (aU.trs (([(aU.mk eK x6)]:List aU))),pI x8.gKind,pS x8.gName,a3 x8.gArgs,pI 5,pS bF,pS eO,pI 0,pI 0,pS s_,.nil,.lit 9 (aG.trs (([x10]:List aG))),.nil] qQ) (q1 (bR AX) (qN (aQ.ret ?_)))
 cases aZ H
 exact bL (hr:=⟨⟨_,_,_,rfl,rfl,qQ,rfl,rfl⟩,trivial⟩)
end
end Go.Proofs.YtpioomclpaiomaaGreat.W

namespace Go.Proofs.YtpioomclpaiomaaGreat.W
set_option maxRecDepth 100000
set_option maxHeartbeats 40000000
noncomputable section
open Go.RowKit Go.Proofs
set_option linter.unusedSimpArgs false
set_option linter.unusedVariables false
attribute [local irreducible] lt
def acJ(m:DS→Option (aT×DS)):Prop:= ∀(pq0:DS) (r:aT×DS),m pq0=some r→cP Tryz.prog 167 [.ptr 0 0] ⟨[some ⟨151,dC pq0⟩],[]⟩ (fun q t=>q=((aT.pv r.1):PV)∧t=⟨[some ⟨151,dC r.2⟩],[]⟩)
def X2(fu:Nat)(pq0:DS)(x2:aA)(d3:DS)(y5:ByteArray)(d7:DS)(x10:aA)(d13:DS)(x17 x19 x21:aG):Option ((aT×DS)⊕((List ByteArray))):=
 lt (d13.after 3) (fun d24=>
 sw (decide (d13.below 3=0))
 (some (.inr ([iE]:List ByteArray)))
 (some (.inr ([]))))
def X3(fu:Nat)(pq0:DS)(x2:aA)(d3:DS)(y5:ByteArray)(d7:DS)(x10:aA)(d37:DS):Option ((aT×DS)⊕((List ByteArray))):=
 lt (d37.after 3) (fun d41=>
 sw (decide (d37.below 3=0))
 (some (.inr ([iE]:List ByteArray)))
 (some (.inr ([]))))
def X4(fu:Nat)(pq0:DS)(x2:aA)(d3:DS)(y5:ByteArray)(d7:DS)(x10:aA):Option ((aT×DS)⊕((List aD))):=
 lt (d7.after 2) (fun d56=>
 sw (decide (d7.below 2=0))
 (bd (tZ fu eK) (fun x61=>
 bd (sA fu 1) (fun x63=>
 bd (s4 fu 10 yA ([(aG.mk 5 y5 eO 0 (aA.mk 0 s_ []) ([x61]:List aG) []),x63]:List aG)) (fun x65=>
 gd ((([(aD.mk eO [] x10 false [] (aG.mk 0 s_ s_ 0 (aA.mk 0 s_ []) [] []))]:List aD)).length+(([(aD.mk fC ([x2]:List aA) x10 true ([eK,pW]:List ByteArray) x65)]:List aD)).length≤68719476736)
 (some (.inr (([(aD.mk eO [] x10 false [] (aG.mk 0 s_ s_ 0 (aA.mk 0 s_ []) [] []))]:List aD)++([(aD.mk fC ([x2]:List aA) x10 true ([eK,pW]:List ByteArray) x65)]:List aD))))))))
 (some (.inr ([(aD.mk eO [] x10 false [] (aG.mk 0 s_ s_ 0 (aA.mk 0 s_ []) [] []))]:List aD))))
def X5(fu:Nat)(pq0:DS)(x2:aA)(d3:DS)(y5:ByteArray)(d7:DS)(x10:aA)(v55:List aD):Option ((aT×DS)⊕((List ByteArray))):=
 lt ((d7.after 2).after 3) (fun d68=>
 sw (decide ((d7.after 2).below 3=0))
 (some (.inr ([iE]:List ByteArray)))
 (some (.inr ([]))))
def D7(fu:Nat)(pq0:DS):Option (aT×DS):=
 bd (lP fu iS) (fun x2=>
 lt (pq0.after ([bF,uU,hQ]:List ByteArray).length) (fun d3=>
 lt (pq0.pick ([bF,uU,hQ]:List ByteArray)) (fun y5=>
 lt (d3.after 3) (fun d7=>
 bd (AV fu) (fun x10=>
 sw (decide ((((((d7.after 2).after 3).below 12:Nat):Int):Int)=2)||decide ((((((d7.after 2).after 3).below 12:Nat):Int):Int)=3))
 (sw (decide (d7.below 2=0))
 (lt (d7.after 2) (fun d13=>
 bd (tZ fu eK) (fun x17=>
 bd (sA fu 1) (fun x19=>
 bd (s4 fu 10 yA ([(aG.mk 5 y5 eO 0 (aA.mk 0 s_ []) ([x17]:List aG) []),x19]:List aG)) (fun x21=>
 gd ((([(aD.mk eO [] x10 false [] (aG.mk 0 s_ s_ 0 (aA.mk 0 s_ []) [] []))]:List aD)).length+(([(aD.mk fC ([x2]:List aA) x10 true ([eK,pW]:List ByteArray) x21)]:List aD)).length≤68719476736)
 (so (X2 fu pq0 x2 d3 y5 d7 x10 d13 x17 x19 x21) (fun v23=>
 lt ((d13.after 3).after 12) (fun d28=>
 sw (decide (((((d13.after 3).below 12:Nat):Int):Int)=2))
 (lt (d28.after ([iS,zL]:List ByteArray).length) (fun d31=>
 lt (d28.pick ([iS,zL]:List ByteArray)) (fun y33=>
 bd (lP fu y33) (fun x36=>
 some ((aT.mk y5 v23 false (decide (d3.below 3=0)) ([(aD.mk eO ([]) x36 false ([]) (aG.mk 0 s_ s_ 0 (aA.mk 0 s_ ([])) ([]) ([]))),(aD.mk fC ([x2]:List aA) x10 true ([eK,pW]:List ByteArray) x21)]:List aD)),d31)))))
 (some ((aT.mk y5 v23 false (decide (d3.below 3=0)) ([(aD.mk eO ([]) x10 true ([]) (aG.mk 0 s_ s_ 0 (aA.mk 0 s_ ([])) ([]) ([]))),(aD.mk fC ([x2]:List aA) x10 true ([eK,pW]:List ByteArray) x21)]:List aD)),d28))))))))))
 (lt (d7.after 2) (fun d37=>
 so (X3 fu pq0 x2 d3 y5 d7 x10 d37) (fun v40=>
 lt ((d37.after 3).after 12) (fun d45=>
 sw (decide (((((d37.after 3).below 12:Nat):Int):Int)=2))
 (lt (d45.after ([iS,zL]:List ByteArray).length) (fun d48=>
 lt (d45.pick ([iS,zL]:List ByteArray)) (fun y50=>
 bd (lP fu y50) (fun x53=>
 some ((aT.mk y5 v40 false (decide (d3.below 3=0)) ([(aD.mk eO [] x53 false [] (aG.mk 0 s_ s_ 0 (aA.mk 0 s_ []) [] []))]:List aD)),d48)))))
 (some ((aT.mk y5 v40 false (decide (d3.below 3=0)) ([(aD.mk eO [] x10 true [] (aG.mk 0 s_ s_ 0 (aA.mk 0 s_ []) [] []))]:List aD)),d45)))))))
 (so (X4 fu pq0 x2 d3 y5 d7 x10) (fun v55=>
 so (X5 fu pq0 x2 d3 y5 d7 x10 v55) (fun v67=>
 lt (((d7.after 2).after 3).after 12) (fun d72=>
 sw (decide ((((((d7.after 2).after 3).below 12:Nat):Int):Int)=0))
 (some ((aT.mk y5 v67 true (decide (d3.below 3=0)) v55),d72))
 (sw (decide ((((((d7.after 2).after 3).below 12:Nat):Int):Int)=1))
 (lt (d72.after ([s_,fW,s_A]:List ByteArray).length) (fun d76=>
 lt (d72.pick ([s_,fW,s_A]:List ByteArray)) (fun y78=>
 some ((aT.mk y78 v67 false (decide (d3.below 3=0)) v55),d76))))
 (sw (decide ((((((d7.after 2).after 3).below 12:Nat):Int):Int)=4))
 (gd ((v67).length+(([iE]:List ByteArray)).length≤68719476736)
 (some ((aT.mk y5 (v67++([iE]:List ByteArray)) false (decide (d3.below 3=0)) v55),d72)))
 (sw (decide ((((((d7.after 2).after 3).below 12:Nat):Int):Int)=5))
 (gd (0<(v55).length)
 (lt (aW v55 0) (fun y84=>
 gd ((v55).length+(([y84]:List aD)).length≤68719476736)
 (some ((aT.mk y5 v67 false (decide (d3.below 3=0)) (v55++([y84]:List aD))),d72)))))
 (some ((aT.mk y5 v67 false (decide (d3.below 3=0)) v55),d72))))))))))))))
theorem X6(fu:Nat):acJ (D7 fu):=by
 intro pq0 r H
 have H:=eF H
 refine qI Tryz.func167 (fun C hC=>?_)
 refine qS (qR (q1 (gM vR) (qN (qS (qR (bN H fun x2 z1 H=>(q1 (bG Tryz.func118 (iW fu iS _ z1)) (q1 (gM eP) (q1 (bR eS) (qN (qS (qR (q1 aE ?_)))))))))))))
 refine q1 (tA ([bF,uU,hQ]:List ByteArray) bU kG) (gL H fun d3 h4 H=>(gL H fun y5 h6 H=>(q1 (fM [0] [] Tryz.func86 (LF h4 h6 (fO pq0 ([bF,uU,hQ]:List ByteArray) (by decide)))) (q1 aE (gL H fun d7 h8 H=>(q1 (fM [0] [] Tryz.func112 (CG h8 (mZ d3 3))) (bN H fun x10 z9 H=>(q1 (bG Tryz.func147 (t5 fu _ z9)) (q1 (eU yZ ahD) ?_)))))))))
 rcases lC (decide ((((((d7.after 2).after 3).below 12:Nat):Int):Int)=2)||decide ((((((d7.after 2).after 3).below 12:Nat):Int):Int)=3)) with g11|g11
 ·have H:=oE H g11
  rcases lC (decide (d7.below 2=0)) with g12|g12
  ·have H:=oE H g12
   refine q1 (aX.buildSliceB (cs:= [pS eO,.nil,pI x10.gKind,pS x10.gName,a3 x10.gArgs,pB false,.nil,pI 0,pS s_,pS s_,pI 0,pI 0,pS s_,.nil,.nil,.nil]) rfl rfl wC yZ rfl rfl rfl (by decide) rfl (by decide)) (q1 (eU vR XA) (q1 (gM vR) (q1 (bR t8) (qN ?_))))
   iterate 2 refine qS ?_
   refine qR (q1 aE (gL H fun d13 h14 H=>?_))
   have g15:=g11
   rw [← h14] at g15
   refine q1 (fM [0] [] Tryz.func112 (CG h14 (mZ d7 2))) (qN (dM g12 (bN H fun x17 z16 H=>(bN H fun x19 z18 H=>(bN H fun x21 z20 H=>?_)))))
   refine aQ.wk (Wk.freezeE (k:=3) (sz:=16) (es:= [aD.cs (aD.mk eO [] x10 false [] (aG.mk 0 s_ s_ 0 (aA.mk 0 s_ []) [] []))]) (es':=aD.trs (([(aD.mk eO [] x10 false [] (aG.mk 0 s_ s_ 0 (aA.mk 0 s_ []) [] []))]:List aD))) (s':=⟨[(0,.ptr 0 0),(2,.ptr 1 0),(3,.ptr 2 0),(4,.ptr 4 0),(5,(aA.pv x2)),(6,.ptr 0 0),(7,.lit 1 (a4 (([bF,uU,hQ]:List ByteArray)))),(8,pS y5),(9,.ptr 0 0),(10,pB (decide (d3.below 3=0))),(11,(aA.pv x10)),(12,.agg [pS eO,.nil,pI x10.gKind,pS x10.gName,a3 x10.gArgs,pB false,.nil,pI 0,pS s_,pS s_,pI 0,pI 0,pS s_,.nil,.nil,.nil]),(13,.lit 16 (aD.trs (([(aD.mk eO [] x10 false [] (aG.mk 0 s_ s_ 0 (aA.mk 0 s_ []) [] []))]:List aD)))),(14,.agg [pS y5,.nil,pB false,pB (decide (d3.below 3=0)),.lit 16 (aD.trs (([(aD.mk eO [] x10 false [] (aG.mk 0 s_ s_ 0 (aA.mk 0 s_ []) [] []))]:List aD)))]),(15,.ptr 0 0),(16,pB (decide (d7.below 2=0)))],⟨[some ⟨151,dC d13⟩,some ⟨60,[pS s_,.nil,pB false,pB false,.nil]⟩,some ⟨35,dU x2⟩,none,some ⟨60,[pS y5,.nil,pB false,pB (decide (d3.below 3=0)),.lit 16 (aD.trs (([(aD.mk eO [] x10 false [] (aG.mk 0 s_ s_ 0 (aA.mk 0 s_ []) [] []))]:List aD)))]⟩],[]⟩⟩) (by simp [aD.trs_map,aD.tr_cs]) rfl kP (by simp [aD.cs]) (Nat.le_of_ble_eq_true rfl) ⟨⟨rfl,dP,rfl⟩,⟨⟨rfl,dP,rfl⟩,⟨⟨rfl,dP,rfl⟩,⟨⟨rfl,dP,rfl⟩,trivial⟩⟩⟩⟩ rfl rfl (eJ hC (j7 rfl) (Nat.le_of_ble_eq_true rfl)) (by repeat' first|exact trivial|refine⟨⟨_,rfl,dP,rfl⟩,?_⟩)) ?_;refine cX H fun z22 H=>(dW (dI [4] (a6 lS) (dD [17] (bD GO) (dD [3] (cU [pI x2.gKind,pS x2.gName,a3 x2.gArgs] bZ) (dI [19] (tA ([x2]:List aA) c8 eP) (dI [] (bG Tryz.func147 (t5 fu _ z9)) (dI [] (tA ([eK,pW]:List ByteArray) bU kG) (dI [4] (a6 A9) (dD [23] (bD eE) (dI [] (bG Tryz.func157 (xP fu eK _ z16)) (dI [25] (tA ([x17]:List aG) mA kB) (dI [24,26] (eU kB xJ) (dI [] (bG Tryz.func159 (tX fu 1 _ z18)) ?_)))))))))))))
   refine dI [27,28] (tA ([(aG.mk 5 y5 eO 0 (aA.mk 0 s_ []) ([x17]:List aG) []),x19]:List aG) mA kB) (dI [29] (bG Tryz.func158 (tY fu 10 yA ([(aG.mk 5 y5 eO 0 (aA.mk 0 s_ []) ([x17]:List aG) []),x19]:List aG) _ z20)) (dI [20,21,22,30] (eU yZ ahD) (dI [31] (tA ([(aD.mk fC ([x2]:List aA) x10 true ([eK,pW]:List ByteArray) x21)]:List aD) wC yZ) ?_)))
   refine dE [18,32] (aX.appendLitBE (es1:=aD.trs (([(aD.mk eO [] x10 false [] (aG.mk 0 s_ s_ 0 (aA.mk 0 s_ []) [] []))]:List aD))) (es2:=aD.trs (([(aD.mk fC ([x2]:List aA) x10 true ([eK,pW]:List ByteArray) x21)]:List aD))) (es3:= [aD.cs (aD.mk eO [] x10 false [] (aG.mk 0 s_ s_ 0 (aA.mk 0 s_ []) [] [])),aD.cs (aD.mk fC ([x2]:List aA) x10 true ([eK,pW]:List ByteArray) x21)]) (cs:= [pS eO,a3 [],pI x10.gKind,pS x10.gName,a3 x10.gArgs,pB false,rS [],pI 0,pS s_,pS s_,pI 0,pI 0,pS s_,a3 [],f9 [],m3 [],pS fC,a3 ([x2]:List aA),pI x10.gKind,pS x10.gName,a3 x10.gArgs,pB true,rS ([eK,pW]:List ByteArray),pI x21.gKind,pS x21.gTrait,pS x21.gName,pI x21.gN,pI x21.gType.gKind,pS x21.gType.gName,a3 x21.gType.gArgs,f9 x21.gArgs,m3 x21.gArms]) rfl rfl rfl rfl rfl (fun e he=>by rw [aD.trs_map] at he;obtain⟨x,_,rfl⟩:=List.mem_map.1 he;rw [aD.tr_cs];rfl) (fun e he=>by rw [aD.trs_map] at he;obtain⟨x,_,rfl⟩:=List.mem_map.1 he;rw [aD.tr_cs];rfl) (by rw [aD.trs_map];exact List.cons_ne_nil _ _) (by decide) wC alU (by decide) (by rw [aD.trs_len,aD.trs_len];exact yL z22 (by decide)) (by simp [aD.trs_map,aD.tr_cs]) rfl rfl) ?_;refine dI [4] (a6 lS) (mN [34,33] (bR alR) (dN (qS ?_)))
   refine qD (σ:=(List ByteArray)) (fun v23=>⟨[(0,.ptr 0 0),(2,.ptr 1 0),(4,.ptr 4 0)],⟨[some ⟨151,dC (d13.after 3)⟩,some ⟨60,[pS s_,.nil,pB false,pB false,.nil]⟩,some ⟨35,dU x2⟩,none,some ⟨60,[pS y5,.lit 1 (a4 (v23)),pB false,pB (decide (d3.below 3=0)),.gsl 5 2]⟩,some ⟨164,[pS eO,a3 [],pI x10.gKind,pS x10.gName,a3 x10.gArgs,pB false,rS [],pI 0,pS s_,pS s_,pI 0,pI 0,pS s_,a3 [],f9 [],m3 [],pS fC,a3 ([x2]:List aA),pI x10.gKind,pS x10.gName,a3 x10.gArgs,pB true,rS ([eK,pW]:List ByteArray),pI x21.gKind,pS x21.gTrait,pS x21.gName,pI x21.gN,pI x21.gType.gKind,pS x21.gType.gName,a3 x21.gType.gArgs,f9 x21.gArgs,m3 x21.gArms]⟩],[]⟩⟩) (f8 H) (fun H=>?_) ?_
   ·refine qS (qR (q1 aE (gL H fun d24 h25 H=>?_)))
    have g26:=g15
    rw [← h25] at g26
    refine q1 (fM [0] [] Tryz.func112 (CG h25 (mZ d13 3))) (qN ?_)
    refine bA H (fun h27 H=>?_) (fun h27 H=>?_)
    ·refine qR (q1 (tA ([iE]:List ByteArray) bU kG) (q1 (a6 oU) (q1 (bR NP) (qN ?_))))
     subst h25
     exact dO ⟨_,(aZ H:),b0⟩
    refine aQ.skip ?_
    subst h25
    exact dO ⟨_,(aZ H:),b0⟩
   rintro v23 H
   iterate 2 refine qS ?_
   refine qR (q1 aE (gL H fun d28 h29 H=>(q1 (fM [0] [] Tryz.func103 (CG h29 (e9 (d13.after 3) 12))) (qN (aQ.block (qS (qR (q1 eG (q1 aE (qN (kJ (ag3 (b:=0) g15 (by decide) (by decide)) (qS (qR ?_)))))))))))))
   refine q1 eG (q1 aE (qN (kJ (ag3 (b:=1) g15 (by decide) (by decide)) (qS (qR (q1 eG (q1 aE (qN ?_))))))))
   refine bA H (fun h30 H=>?_) (fun h30 H=>?_)
   ·refine gL H fun d31 h32 H=>(gL H fun y33 h34 H=>(bN H fun x36 z35 H=>(dW (dI [4] (a6 lS) (dB [52] 0 1 (uI GO) (dI [0] aE (dI [] (tA ([iS,zL]:List ByteArray) bU kG) (dE [54,55] (fM [0] [] Tryz.func86 (LF h32 h34 (fO d28 ([iS,zL]:List ByteArray) (by decide)))) (dI [56] (bG Tryz.func118 (iW fu y33 _ z35)) (dI [53] (aX.indexG (sz:=16) (k:=5) (N:=2) (i:=0) rfl rfl rfl rfl (by decide) wC) (dI [58] (a6 PW) (mN [59,57] (bR eS) (dN ?_)))))))))))))
    refine qS (qR ?_)
    refine AL.weak (Wk.freezeE (k:=5) (sz:=16) (es:= [aD.cs (aD.mk eO ([]) x36 false ([]) (aG.mk 0 s_ s_ 0 (aA.mk 0 s_ ([])) ([]) ([]))),aD.cs (aD.mk fC ([x2]:List aA) x10 true ([eK,pW]:List ByteArray) x21)]) (es':=aD.trs (([(aD.mk eO ([]) x36 false ([]) (aG.mk 0 s_ s_ 0 (aA.mk 0 s_ ([])) ([]) ([]))),(aD.mk fC ([x2]:List aA) x10 true ([eK,pW]:List ByteArray) x21)]:List aD))) (s':=⟨[(0,.ptr 0 0),(2,.ptr 1 0),(4,.ptr 4 0),(40,pN ((d13.after 3).below 12))],⟨[some ⟨151,dC d31⟩,some ⟨60,[pS s_,.nil,pB false,pB false,.nil]⟩,some ⟨35,dU x2⟩,none,some ⟨60,[pS y5,.lit 1 (a4 (v23)),pB false,pB (decide (d3.below 3=0)),jU ([(aD.mk eO ([]) x36 false ([]) (aG.mk 0 s_ s_ 0 (aA.mk 0 s_ ([])) ([]) ([]))),(aD.mk fC ([x2]:List aA) x10 true ([eK,pW]:List ByteArray) x21)]:List aD)]⟩,none],[]⟩⟩) (by simp [aD.trs_map,aD.tr_cs]) rfl kP (by simp [aD.cs]) (Nat.le_of_ble_eq_true rfl) ⟨⟨rfl,dP,rfl⟩,⟨⟨rfl,dP,rfl⟩,⟨⟨rfl,dP,rfl⟩,⟨⟨rfl,dP,rfl⟩,trivial⟩⟩⟩⟩ rfl rfl (eJ hC (j7 rfl) (Nat.le_of_ble_eq_true rfl)) (by repeat' first|exact trivial|refine⟨⟨_,rfl,dP,rfl⟩,?_⟩)) ?_;refine q1 (cU [pS y5,.lit 1 (a4 (v23)),pB false,pB (decide (d3.below 3=0)),jU ([(aD.mk eO ([]) x36 false ([]) (aG.mk 0 s_ s_ 0 (aA.mk 0 s_ ([])) ([]) ([]))),(aD.mk fC ([x2]:List aA) x10 true ([eK,pW]:List ByteArray) x21)]:List aD)] pX) (q1 (bR t8) (qN (aQ.ret ?_)))
    cases aZ H
    exact bL (hr:=⟨⟨_,_,_,rfl,rfl,pX,rfl,rfl⟩,trivial⟩)
   refine qS (qR (q1 eG (q1 aE (qN (dM (am3 g15 h30) (qR (q1 (a6 lS) (q1 (bD GO) (q1 (aX.indexG (sz:=16) (k:=5) (N:=2) (i:=0) rfl rfl rfl rfl (by decide) wC) (q1 (a6 JY) (q1 (bR sz4) (qN (qS ?_)))))))))))))
   refine qR ?_;refine AL.weak (Wk.freezeE (k:=5) (sz:=16) (es:= [aD.cs (aD.mk eO ([]) x10 true ([]) (aG.mk 0 s_ s_ 0 (aA.mk 0 s_ ([])) ([]) ([]))),aD.cs (aD.mk fC ([x2]:List aA) x10 true ([eK,pW]:List ByteArray) x21)]) (es':=aD.trs (([(aD.mk eO ([]) x10 true ([]) (aG.mk 0 s_ s_ 0 (aA.mk 0 s_ ([])) ([]) ([]))),(aD.mk fC ([x2]:List aA) x10 true ([eK,pW]:List ByteArray) x21)]:List aD))) (s':=⟨[(0,.ptr 0 0),(2,.ptr 1 0),(4,.ptr 4 0),(40,pN ((d13.after 3).below 12))],⟨[some ⟨151,dC d28⟩,some ⟨60,[pS s_,.nil,pB false,pB false,.nil]⟩,some ⟨35,dU x2⟩,none,some ⟨60,[pS y5,.lit 1 (a4 (v23)),pB false,pB (decide (d3.below 3=0)),jU ([(aD.mk eO ([]) x10 true ([]) (aG.mk 0 s_ s_ 0 (aA.mk 0 s_ ([])) ([]) ([]))),(aD.mk fC ([x2]:List aA) x10 true ([eK,pW]:List ByteArray) x21)]:List aD)]⟩,none],[]⟩⟩) (by simp [aD.trs_map,aD.tr_cs]) rfl kP (by simp [aD.cs]) (Nat.le_of_ble_eq_true rfl) ⟨⟨rfl,dP,rfl⟩,⟨⟨rfl,dP,rfl⟩,⟨⟨rfl,dP,rfl⟩,⟨⟨rfl,dP,rfl⟩,trivial⟩⟩⟩⟩ rfl rfl (eJ hC (j7 rfl) (Nat.le_of_ble_eq_true rfl)) (by repeat' first|exact trivial|refine⟨⟨_,rfl,dP,rfl⟩,?_⟩)) ?_;refine q1 (cU [pS y5,.lit 1 (a4 (v23)),pB false,pB (decide (d3.below 3=0)),jU ([(aD.mk eO ([]) x10 true ([]) (aG.mk 0 s_ s_ 0 (aA.mk 0 s_ ([])) ([]) ([]))),(aD.mk fC ([x2]:List aA) x10 true ([eK,pW]:List ByteArray) x21)]:List aD)] pX) (q1 (bR t8) (qN (aQ.ret ?_)))
   cases aZ H
   exact bL (hr:=⟨⟨_,_,_,rfl,rfl,pX,rfl,rfl⟩,trivial⟩)
  have H:=oA H g12
  refine q1 (aX.buildSliceB (cs:= [pS eO,.nil,pI x10.gKind,pS x10.gName,a3 x10.gArgs,pB false,.nil,pI 0,pS s_,pS s_,pI 0,pI 0,pS s_,.nil,.nil,.nil]) rfl rfl wC yZ rfl rfl rfl (by decide) rfl (by decide)) (q1 (eU vR XA) (q1 (gM vR) (q1 (bR t8) (qN ?_))))
  iterate 2 refine qS ?_
  refine qR (q1 aE (gL H fun d37 h38 H=>?_))
  have g39:=g11
  rw [← h38] at g39
  refine q1 (fM [0] [] Tryz.func112 (CG h38 (mZ d7 2))) (qN (kJ g12 (aQ.skip (qS ?_))))
  refine qD (σ:=(List ByteArray)) (fun v40=>⟨[(0,.ptr 0 0),(2,.ptr 1 0),(4,.ptr 4 0)],⟨[some ⟨151,dC (d37.after 3)⟩,some ⟨60,[pS s_,.nil,pB false,pB false,.nil]⟩,some ⟨35,dU x2⟩,some ⟨164,[pS eO,.nil,pI x10.gKind,pS x10.gName,a3 x10.gArgs,pB false,.nil,pI 0,pS s_,pS s_,pI 0,pI 0,pS s_,.nil,.nil,.nil]⟩,some ⟨60,[pS y5,.lit 1 (a4 (v40)),pB false,pB (decide (d3.below 3=0)),.bsl 3 1]⟩],[]⟩⟩) (f8 H) (fun H=>?_) ?_
  ·refine qS (qR (q1 aE (gL H fun d41 h42 H=>?_)))
   have g43:=g39
   rw [← h42] at g43
   refine q1 (fM [0] [] Tryz.func112 (CG h42 (mZ d37 3))) (qN ?_)
   refine bA H (fun h44 H=>?_) (fun h44 H=>?_)
   ·refine qR (q1 (tA ([iE]:List ByteArray) bU kG) (q1 (a6 oU) (q1 (bR NP) (qN ?_))))
    subst h42
    exact dO ⟨_,(aZ H:),b0⟩
   refine aQ.skip ?_
   subst h42
   exact dO ⟨_,(aZ H:),b0⟩
  rintro v40 H
  iterate 2 refine qS ?_
  refine qR (q1 aE (gL H fun d45 h46 H=>(q1 (fM [0] [] Tryz.func103 (CG h46 (e9 (d37.after 3) 12))) (qN (aQ.block (qS (qR (q1 eG (q1 aE (qN (kJ (ag3 (b:=0) g39 (by decide) (by decide)) (qS (qR ?_)))))))))))))
  refine q1 eG (q1 aE (qN (kJ (ag3 (b:=1) g39 (by decide) (by decide)) (qS (qR (q1 eG (q1 aE (qN ?_))))))))
  refine bA H (fun h47 H=>?_) (fun h47 H=>?_)
  ·refine gL H fun d48 h49 H=>(gL H fun y50 h51 H=>(bN H fun x53 z52 H=>(dW (dI [4] (a6 lS) (dB [52] 0 1 (uI GO) (dI [0] aE (dI [] (tA ([iS,zL]:List ByteArray) bU kG) (dE [54,55] (fM [0] [] Tryz.func86 (LF h49 h51 (fO d45 ([iS,zL]:List ByteArray) (by decide)))) (dI [56] (bG Tryz.func118 (iW fu y50 _ z52)) (dI [53] (aX.indexB (sz:=16) (k:=3) (N:=1) (i:=0) rfl rfl rfl rfl (by decide) wC) (dI [58] (a6 PW) (mN [59,57] (bR eS) (dN ?_)))))))))))))
   refine qS (qR ?_)
   refine AL.weak (Wk.freezeE (k:=3) (sz:=16) (es:= [aD.cs (aD.mk eO [] x53 false [] (aG.mk 0 s_ s_ 0 (aA.mk 0 s_ []) [] []))]) (es':=aD.trs (([(aD.mk eO [] x53 false [] (aG.mk 0 s_ s_ 0 (aA.mk 0 s_ []) [] []))]:List aD))) (s':=⟨[(0,.ptr 0 0),(2,.ptr 1 0),(4,.ptr 4 0),(40,pN ((d37.after 3).below 12))],⟨[some ⟨151,dC d48⟩,some ⟨60,[pS s_,.nil,pB false,pB false,.nil]⟩,some ⟨35,dU x2⟩,none,some ⟨60,[pS y5,.lit 1 (a4 (v40)),pB false,pB (decide (d3.below 3=0)),jU ([(aD.mk eO [] x53 false [] (aG.mk 0 s_ s_ 0 (aA.mk 0 s_ []) [] []))]:List aD)]⟩],[]⟩⟩) (by simp [aD.trs_map,aD.tr_cs]) rfl kP (by simp [aD.cs]) (Nat.le_of_ble_eq_true rfl) ⟨⟨rfl,dP,rfl⟩,⟨⟨rfl,dP,rfl⟩,⟨⟨rfl,dP,rfl⟩,⟨⟨rfl,dP,rfl⟩,trivial⟩⟩⟩⟩ rfl rfl (eJ hC (j7 rfl) (Nat.le_of_ble_eq_true rfl)) (by repeat' first|exact trivial|refine⟨⟨_,rfl,dP,rfl⟩,?_⟩)) ?_;refine q1 (cU [pS y5,.lit 1 (a4 (v40)),pB false,pB (decide (d3.below 3=0)),jU ([(aD.mk eO [] x53 false [] (aG.mk 0 s_ s_ 0 (aA.mk 0 s_ []) [] []))]:List aD)] pX) (q1 (bR t8) (qN (aQ.ret ?_)))
   cases aZ H
   exact bL (hr:=⟨⟨_,_,_,rfl,rfl,pX,rfl,rfl⟩,trivial⟩)
  refine qS (qR (q1 eG (q1 aE (qN (dM (am3 g39 h47) (qR (q1 (a6 lS) (q1 (bD GO) (q1 (aX.indexB (sz:=16) (k:=3) (N:=1) (i:=0) rfl rfl rfl rfl (by decide) wC) (q1 (a6 JY) (q1 (bR sz4) (qN (qS ?_)))))))))))))
  refine qR ?_;refine AL.weak (Wk.freezeE (k:=3) (sz:=16) (es:= [aD.cs (aD.mk eO [] x10 true [] (aG.mk 0 s_ s_ 0 (aA.mk 0 s_ []) [] []))]) (es':=aD.trs (([(aD.mk eO [] x10 true [] (aG.mk 0 s_ s_ 0 (aA.mk 0 s_ []) [] []))]:List aD))) (s':=⟨[(0,.ptr 0 0),(2,.ptr 1 0),(4,.ptr 4 0),(40,pN ((d37.after 3).below 12))],⟨[some ⟨151,dC d45⟩,some ⟨60,[pS s_,.nil,pB false,pB false,.nil]⟩,some ⟨35,dU x2⟩,none,some ⟨60,[pS y5,.lit 1 (a4 (v40)),pB false,pB (decide (d3.below 3=0)),jU ([(aD.mk eO [] x10 true [] (aG.mk 0 s_ s_ 0 (aA.mk 0 s_ []) [] []))]:List aD)]⟩],[]⟩⟩) (by simp [aD.trs_map,aD.tr_cs]) rfl kP (by simp [aD.cs]) (Nat.le_of_ble_eq_true rfl) ⟨⟨rfl,dP,rfl⟩,⟨⟨rfl,dP,rfl⟩,⟨⟨rfl,dP,rfl⟩,⟨⟨rfl,dP,rfl⟩,trivial⟩⟩⟩⟩ rfl rfl (eJ hC (j7 rfl) (Nat.le_of_ble_eq_true rfl)) (by repeat' first|exact trivial|refine⟨⟨_,rfl,dP,rfl⟩,?_⟩)) ?_;refine q1 (cU [pS y5,.lit 1 (a4 (v40)),pB false,pB (decide (d3.below 3=0)),jU ([(aD.mk eO [] x10 true [] (aG.mk 0 s_ s_ 0 (aA.mk 0 s_ []) [] []))]:List aD)] pX) (q1 (bR t8) (qN (aQ.ret ?_)))
  cases aZ H
  exact bL (hr:=⟨⟨_,_,_,rfl,rfl,pX,rfl,rfl⟩,trivial⟩)
 have H:=oA H g11
 refine q1 (qZ ([(aD.mk eO [] x10 false [] (aG.mk 0 s_ s_ 0 (aA.mk 0 s_ []) [] []))]:List aD) wC yZ) (q1 (eU vR XA) (q1 (gM vR) (q1 (bR t8) (qN (qS ?_)))))
 refine qD (σ:=(List aD)) (fun v55=>⟨[(0,.ptr 0 0),(2,.ptr 1 0),(4,.ptr 3 0)],⟨[some ⟨151,dC (d7.after 2)⟩,some ⟨60,[pS s_,.nil,pB false,pB false,.nil]⟩,some ⟨35,dU x2⟩,some ⟨60,[pS y5,.nil,pB false,pB (decide (d3.below 3=0)),kL v55 0]⟩],[⟨164,16,aD.trs (v55),false⟩]⟩⟩) (f8 H) (fun H=>?_) ?_
 ·refine qS (qR (q1 aE (gL H fun d56 h57 H=>?_)))
  have g58:=g11
  rw [← h57] at g58
  refine q1 (fM [0] [] Tryz.func112 (CG h57 (mZ d7 2))) (qN ?_)
  refine bA H (fun h59 H=>?_) (fun h59 H=>?_)
  ·refine bN H fun x61 z60 H=>(bN H fun x63 z62 H=>(bN H fun x65 z64 H=>(cX H fun z66 H=>(dW (dI [4] (a6 lS) (dD [17] (bD GO) (dD [3] (cU [pI x2.gKind,pS x2.gName,a3 x2.gArgs] bZ) (dI [19] (tA ([x2]:List aA) c8 eP) (dI [] (bG Tryz.func147 (t5 fu _ z9)) (dI [] (tA ([eK,pW]:List ByteArray) bU kG) (dI [4] (a6 A9) (dD [23] (bD eE) (dI [] (bG Tryz.func157 (xP fu eK _ z60)) ?_)))))))))))))
   refine dI [25] (tA ([x61]:List aG) mA kB) (dI [24,26] (eU kB xJ) (dI [] (bG Tryz.func159 (tX fu 1 _ z62)) (dI [27,28] (tA ([(aG.mk 5 y5 eO 0 (aA.mk 0 s_ []) ([x61]:List aG) []),x63]:List aG) mA kB) (dI [29] (bG Tryz.func158 (tY fu 10 yA ([(aG.mk 5 y5 eO 0 (aA.mk 0 s_ []) ([x61]:List aG) []),x63]:List aG) _ z64)) (dI [20,21,22,30] (eU yZ ahD) (dI [31] (tA ([(aD.mk fC ([x2]:List aA) x10 true ([eK,pW]:List ByteArray) x65)]:List aD) wC yZ) (dE [18,32] (kX z66 wC alU) (dI [4] (a6 lS) (mN [34,33] (bR alR) (dN ?_))))))))))
   subst h57
   exact dO ⟨_,(aZ H:),b0⟩
  refine aQ.skip ?_
  subst h57
  exact dO ⟨_,(aZ H:),b0⟩
 rintro v55 H
 refine qS ?_;refine qD (σ:=(List ByteArray)) (fun v67=>⟨[(0,.ptr 0 0),(2,.ptr 1 0),(4,.ptr 3 0)],⟨[some ⟨151,dC ((d7.after 2).after 3)⟩,some ⟨60,[pS s_,.nil,pB false,pB false,.nil]⟩,some ⟨35,dU x2⟩,some ⟨60,[pS y5,.lit 1 (a4 (v67)),pB false,pB (decide (d3.below 3=0)),kL v55 0]⟩],[⟨164,16,aD.trs (v55),false⟩]⟩⟩) (f8 H) (fun H=>?_) ?_
 ·refine qS (qR (q1 aE (gL H fun d68 h69 H=>?_)))
  have g70:=g11
  rw [← h69] at g70
  refine q1 (fM [0] [] Tryz.func112 (CG h69 (mZ (d7.after 2) 3))) (qN ?_)
  refine bA H (fun h71 H=>?_) (fun h71 H=>?_)
  ·refine qR (q1 (tA ([iE]:List ByteArray) bU kG) (q1 (a6 oU) (q1 (bR NP) (qN ?_))))
   subst h69
   exact dO ⟨_,(aZ H:),b0⟩
  refine aQ.skip ?_
  subst h69
  exact dO ⟨_,(aZ H:),b0⟩
 rintro v67 H
 iterate 2 refine qS ?_
 refine qR (q1 aE (gL H fun d72 h73 H=>(q1 (fM [0] [] Tryz.func103 (CG h73 (e9 ((d7.after 2).after 3) 12))) (qN (aQ.block (qS (qR (q1 eG (q1 aE (qN ?_))))))))))
 refine bA H (fun h74 H=>?_) (fun h74 H=>?_)
 ·refine qR (q1 (a6 aeB) (q1 (bR sz4) (qN (qS (qR (q1 (cU [pS y5,.lit 1 (a4 (v67)),pB true,pB (decide (d3.below 3=0)),kL v55 0] pX) (q1 (bR t8) (qN (aQ.ret ?_)))))))))
  cases aZ H
  exact bL (hr:=⟨⟨_,_,_,rfl,rfl,pX,rfl,rfl⟩,trivial⟩)
 refine qS (qR (q1 eG (q1 aE (qN ?_))))
 refine bA H (fun h75 H=>?_) (fun h75 H=>?_)
 ·refine qR (q1 aE (q1 (tA ([s_,fW,s_A]:List ByteArray) bU kG) (gL H fun d76 h77 H=>(gL H fun y78 h79 H=>(q1 (fM [0] [] Tryz.func86 (LF h77 h79 (fO d72 ([s_,fW,s_A]:List ByteArray) (by decide)))) (q1 (a6 A9) (q1 (bR sz9) (qN (qS (qR (q1 (cU [pS y78,.lit 1 (a4 (v67)),pB false,pB (decide (d3.below 3=0)),kL v55 0] pX) (q1 (bR t8) (qN ?_)))))))))))))
  refine aQ.ret ?_
  cases aZ H
  exact bL (hr:=⟨⟨_,_,_,rfl,rfl,pX,rfl,rfl⟩,trivial⟩)
 refine qS (qR (q1 eG (q1 aE (qN (kJ (aoQ g11) (qS (qR (q1 eG (q1 aE (qN (kJ (aoR g11) (qS (qR ?_)))))))))))))
 refine q1 eG (q1 aE (qN ?_))
 refine bA H (fun h80 H=>?_) (fun h80 H=>?_)
 ·refine qR (q1 (a6 oU) (q1 (bD jC) (q1 (tA ([iE]:List ByteArray) bU kG) (cX H fun z81 H=>?_))))
  refine q1 (aX.appendLit (es1:=a4 (v67)) (es2:=a4 (([iE]:List ByteArray))) (es3:=a4 (v67++([iE]:List ByteArray))) rfl rfl rfl rfl rfl (pL _) (pL _) (by exact List.cons_ne_nil _ _) (by decide) bU qH (by decide) (by rw [a9,a9];exact yL z81 (by decide)) (uF _ _)) ?_;refine q1 (a6 oU) (q1 (bR NP) (qN (qS (qR (q1 (cU [pS y5,rS (v67++([iE]:List ByteArray)),pB false,pB (decide (d3.below 3=0)),kL v55 0] pX) (q1 (bR t8) (qN (aQ.ret ?_))))))))
  cases aZ H
  exact bL (hr:=⟨⟨_,_,_,rfl,rfl,pX,rfl,rfl⟩,trivial⟩)
 refine qS (qR (q1 eG (q1 aE (qN ?_))))
 refine bA H (fun h82 H=>?_) (fun h82 H=>?_)
 ·refine cX H fun z83 H=>(gL H fun y84 h85 H=>(cX H fun z86 H=>(dW (dI [4] (a6 lS) (dD [75] (bD GO) (dI [4] (a6 lS) (dD [77] (bD GO) (dI [78] (vT h85 z83 wC) (dI [79] (jW (aD.cs y84) aa4) (dI [80] (tA ([y84]:List aD) wC yZ) (dE [76,81] (kX z86 wC alU) (dI [4] (a6 lS) (mN [83,82] (bR alR) ?_)))))))))))))
  refine dN (qS (qR (q1 (cU [pS y5,.lit 1 (a4 (v67)),pB false,pB (decide (d3.below 3=0)),kL (v55++([y84]:List aD)) 0] pX) (q1 (bR t8) (qN (aQ.ret ?_))))))
  cases aZ H
  exact bL (hr:=⟨⟨_,_,_,rfl,rfl,pX,rfl,rfl⟩,trivial⟩)
 refine aQ.skip (qS (qR (q1 (cU [pS y5,.lit 1 (a4 (v67)),pB false,pB (decide (d3.below 3=0)),kL v55 0] pX) (q1 (bR t8) (qN (aQ.ret ?_))))))
 cases aZ H
 exact bL (hr:=⟨⟨_,_,_,rfl,rfl,pX,rfl,rfl⟩,trivial⟩)
def afB(m:DS→Option (aN×DS)):Prop:= ∀(pc:DS) (r:aN×DS),m pc=some r→cP Tryz.prog 168 [.ptr 0 0] ⟨[some ⟨151,dC pc⟩],[]⟩ (fun q t=>q=((aN.pv r.1):PV)∧t=⟨[some ⟨151,dC r.2⟩],[]⟩)
def I8(fu:Nat)(pc:DS):Option (aN×DS):=
 bd (lP fu f7) (fun x2=>
 bd (jL fu cH ([x2]:List aA)) (fun x4=>
 lt (pc.after 10) (fun d5=>
 sw (decide ((pc.below 10:Int)=0))
 (lt (d5.after ([f7,zL]:List ByteArray).length) (fun d8=>
 lt (d5.pick ([f7,zL]:List ByteArray)) (fun y10=>
 gd ((([f7]:List ByteArray)).length+(([y10]:List ByteArray)).length≤68719476736)
 (some ((aN.mk cH (([f7]:List ByteArray)++([y10]:List ByteArray)) ([(aC.mk fL []),(aC.mk cF ([x2,x4]:List aA))]:List aC)),d8)))))
 (sw (decide ((pc.below 10:Int)=1))
 (lt (d5.after 2) (fun d14=>
 gd ((0:Int)≤0∧(0:Int)≤(d5.below 2:Int)∧(d5.below 2:Int)≤((([(aC.mk fL []),(aC.mk cF ([x2,x4]:List aA))]:List aC).length:Nat):Int))
 (some ((aN.mk cH ([f7]:List ByteArray) (List.drop (0:Int).toNat (List.take (d5.below 2:Int).toNat ([(aC.mk fL []),(aC.mk cF ([x2,x4]:List aA))]:List aC)))),d14))))
 (sw (decide ((pc.below 10:Int)=2))
 (bd (sC fu d5 2) (fun(x19,x20)=>
 some ((aN.mk cH ([f7]:List ByteArray) ([(aC.mk fL ([x19]:List aA)),(aC.mk cF ([x2,x4]:List aA))]:List aC)),x20)))
 (sw (decide ((pc.below 10:Int)=3))
 (lt (d5.after ([cF,s_,SG]:List ByteArray).length) (fun d22=>
 lt (d5.pick ([cF,s_,SG]:List ByteArray)) (fun y24=>
 some ((aN.mk cH ([f7]:List ByteArray) ([(aC.mk y24 []),(aC.mk cF ([x2,x4]:List aA))]:List aC)),d22))))
 (some ((aN.mk cH ([f7]:List ByteArray) ([(aC.mk fL []),(aC.mk cF ([x2,x4]:List aA))]:List aC)),d5))))))))
theorem acE(fu:Nat):afB (I8 fu):=by
 intro pc r H
 have H:=eF H
 refine qI Tryz.func168 (fun C hC=>?_)
 refine qS (qR (q1 (gM CO) (qN (qS (qR (q1 (tA ([f7]:List ByteArray) bU kG) (q1 (eU adJ akT) (bN H fun x2 z1 H=>?_))))))))
 iterate 2 refine q1 (bG Tryz.func118 (iW fu f7 _ z1)) ?_
 refine q1 (tA ([x2]:List aA) c8 eP) (bN H fun x4 z3 H=>(q1 (bG Tryz.func85 (iV fu cH ([x2]:List aA) _ z3)) (q1 (tA ([x2,x4]:List aA) c8 eP) (q1 (eU adJ akT) (q1 (aX.buildSliceB (cs:= [pS fL,.nil,pS cF,.lit 3 (aA.trs (([x2,x4]:List aA)))]) rfl rfl vS adJ rfl rfl rfl (by decide) rfl (by decide)) (q1 (eU CO aaU) (q1 (gM CO) (q1 (bR CN) (qN ?_)))))))))
 iterate 2 refine qS ?_
 refine qR (q1 aE (gL H fun d5 h6 H=>(q1 (fM [0] [] Tryz.func103 (CG h6 (e9 pc 10))) (qN (aQ.block (qS (qR (q1 eG (q1 aE (qN ?_))))))))))
 refine bA H (fun h7 H=>?_) (fun h7 H=>?_)
 ·refine gL H fun d8 h9 H=>(gL H fun y10 h11 H=>(cX H fun z12 H=>(dW (dI [3] (a6 JW) (dB [18] 0 1 (uI jC) (dI [0] aE (dI [] (tA ([f7,zL]:List ByteArray) bU kG) (dE [20,21] (fM [0] [] Tryz.func86 (LF h9 h11 (fO d5 ([f7,zL]:List ByteArray) (by decide)))) (dI [22] (tA ([y10]:List ByteArray) bU kG) ?_)))))))))
  refine dI [19,23] (aX.appendLit (es1:=a4 (([f7]:List ByteArray))) (es2:=a4 (([y10]:List ByteArray))) (es3:=a4 (([f7]:List ByteArray)++([y10]:List ByteArray))) rfl rfl rfl rfl rfl (pL _) (pL _) (by exact List.cons_ne_nil _ _) (by decide) bU qH (by decide) (by rw [a9,a9];exact yL z12 (by decide)) (uF _ _)) ?_;refine dI [3] (a6 JW) (mN [25,24] (bR NP) (dN (qS (qR ?_))))
  refine AL.weak (Wk.freezeE (k:=2) (sz:=2) (es:= [aC.cs (aC.mk fL []),aC.cs (aC.mk cF ([x2,x4]:List aA))]) (es':=aC.trs (([(aC.mk fL []),(aC.mk cF ([x2,x4]:List aA))]:List aC))) (s':=⟨[(0,.ptr 0 0),(2,.ptr 1 0),(3,.ptr 3 0),(15,pN (pc.below 10))],⟨[some ⟨151,dC d8⟩,some ⟨116,[pS s_,.nil,.nil]⟩,none,some ⟨116,[pS cH,rS (([f7]:List ByteArray)++([y10]:List ByteArray)),e7 ([(aC.mk fL []),(aC.mk cF ([x2,x4]:List aA))]:List aC)]⟩],[]⟩⟩) (by simp [aC.trs_map,aC.tr_cs]) rfl kP (by simp [aC.cs]) (Nat.le_of_ble_eq_true rfl) ⟨⟨rfl,dP,rfl⟩,⟨⟨rfl,dP,rfl⟩,⟨⟨rfl,dP,rfl⟩,trivial⟩⟩⟩ rfl rfl (eJ hC (j7 rfl) (Nat.le_of_ble_eq_true rfl)) (by repeat' first|exact trivial|refine⟨⟨_,rfl,dP,rfl⟩,?_⟩)) ?_;refine q1 (cU [pS cH,rS (([f7]:List ByteArray)++([y10]:List ByteArray)),e7 ([(aC.mk fL []),(aC.mk cF ([x2,x4]:List aA))]:List aC)] s3) (q1 (bR CN) (qN (aQ.ret ?_)))
  cases aZ H
  exact bL (hr:=⟨⟨_,_,_,rfl,rfl,s3,rfl,rfl⟩,trivial⟩)
 refine qS (qR (q1 eG (q1 aE (qN ?_))))
 refine bA H (fun h13 H=>?_) (fun h13 H=>?_)
 ·refine gL H fun d14 h15 H=>?_;refine aQ.wk (Wk.freezeE (k:=2) (sz:=2) (es:= [aC.cs (aC.mk fL []),aC.cs (aC.mk cF ([x2,x4]:List aA))]) (es':=aC.trs (([(aC.mk fL []),(aC.mk cF ([x2,x4]:List aA))]:List aC))) (s':=⟨[(0,.ptr 0 0),(2,.ptr 1 0),(3,.ptr 3 0),(4,.lit 1 (a4 (([f7]:List ByteArray)))),(5,.agg [pS fL,.nil]),(6,(aA.pv x2)),(7,(aA.pv x2)),(8,.lit 3 (aA.trs (([x2]:List aA)))),(9,(aA.pv x4)),(10,.lit 3 (aA.trs (([x2,x4]:List aA)))),(11,.agg [pS cF,.lit 3 (aA.trs (([x2,x4]:List aA)))]),(12,e7 ([(aC.mk fL []),(aC.mk cF ([x2,x4]:List aA))]:List aC)),(13,.agg [pS cH,.lit 1 (a4 (([f7]:List ByteArray))),e7 ([(aC.mk fL []),(aC.mk cF ([x2,x4]:List aA))]:List aC)]),(14,.ptr 0 0),(15,pN (pc.below 10)),(16,pB (decide ((pc.below 10:Int)=0))),(17,pB (decide ((pc.below 10:Int)=0))),(26,pB (decide ((pc.below 10:Int)=1))),(27,pB (decide ((pc.below 10:Int)=1)))],⟨[some ⟨151,dC d5⟩,some ⟨116,[pS s_,.nil,.nil]⟩,none,some ⟨116,[pS cH,.lit 1 (a4 (([f7]:List ByteArray))),e7 ([(aC.mk fL []),(aC.mk cF ([x2,x4]:List aA))]:List aC)]⟩],[]⟩⟩) (by simp [aC.trs_map,aC.tr_cs]) rfl kP (by simp [aC.cs]) (Nat.le_of_ble_eq_true rfl) ⟨⟨rfl,dP,rfl⟩,⟨⟨rfl,dP,rfl⟩,⟨⟨rfl,dP,rfl⟩,trivial⟩⟩⟩ rfl rfl (eJ hC (j7 rfl) (Nat.le_of_ble_eq_true rfl)) (by repeat' first|exact trivial|refine⟨⟨_,rfl,dP,rfl⟩,?_⟩)) ?_;refine cX H fun z16 H=>(dW (dI [3] (a6 mB) (dB [28] 0 1 (uI yP) (dI [0] aE (dE [30] (fM [0] [] Tryz.func103 (CG h15 (e9 d5 2))) ?_)))))
  refine dI [29,31] (aX.congrP (aX.sliceR (es:=aC.trs (([(aC.mk fL []),(aC.mk cF ([x2,x4]:List aA))]:List aC))) (l:=0) (k:=(d5.below 2:Int)) rfl rfl rfl rfl rfl (by rw [aC.trs_len];exact rfl) (by rw [aC.trs_len];exact z16) vS) (aC.trs_part _ _ _)) ?_;refine dI [3] (a6 mB) (mN [33,32] (bR am7) (dN (qS (qR (q1 (cU [pS cH,.lit 1 (a4 (([f7]:List ByteArray))),e7 (List.drop (0:Int).toNat (List.take (d5.below 2:Int).toNat ([(aC.mk fL []),(aC.mk cF ([x2,x4]:List aA))]:List aC)))] s3) (q1 (bR CN) (qN (aQ.ret ?_))))))))
  cases aZ H
  exact bL (hr:=⟨⟨_,_,_,rfl,rfl,s3,rfl,rfl⟩,trivial⟩)
 refine qS (qR (q1 eG (q1 aE (qN ?_))))
 refine bA H (fun h17 H=>?_) (fun h17 H=>?_)
 ·refine eT H fun x19 x20 z18 H=>(dW (dI [3] (a6 mB) (dB [36] 0 1 (uI yP) (dI [0] aE (dE [38] (fM [0] [] Tryz.func87 (t4 fu d5 2 _ z18)) (dI [39] (tA ([x19]:List aA) c8 eP) (dI [37] (aX.indexB (sz:=2) (k:=2) (N:=2) (i:=0) rfl rfl rfl rfl (by decide) vS) (dI [41] (a6 JZ) (mN [42,40] (bR ao5) (dN (qS (qR ?_))))))))))))
  refine AL.weak (Wk.freezeE (k:=2) (sz:=2) (es:= [aC.cs (aC.mk fL ([x19]:List aA)),aC.cs (aC.mk cF ([x2,x4]:List aA))]) (es':=aC.trs (([(aC.mk fL ([x19]:List aA)),(aC.mk cF ([x2,x4]:List aA))]:List aC))) (s':=⟨[(0,.ptr 0 0),(2,.ptr 1 0),(3,.ptr 3 0),(15,pN (pc.below 10))],⟨[some ⟨151,dC x20⟩,some ⟨116,[pS s_,.nil,.nil]⟩,none,some ⟨116,[pS cH,.lit 1 (a4 (([f7]:List ByteArray))),e7 ([(aC.mk fL ([x19]:List aA)),(aC.mk cF ([x2,x4]:List aA))]:List aC)]⟩],[]⟩⟩) (by simp [aC.trs_map,aC.tr_cs]) rfl kP (by simp [aC.cs]) (Nat.le_of_ble_eq_true rfl) ⟨⟨rfl,dP,rfl⟩,⟨⟨rfl,dP,rfl⟩,⟨⟨rfl,dP,rfl⟩,trivial⟩⟩⟩ rfl rfl (eJ hC (j7 rfl) (Nat.le_of_ble_eq_true rfl)) (by repeat' first|exact trivial|refine⟨⟨_,rfl,dP,rfl⟩,?_⟩)) ?_;refine q1 (cU [pS cH,.lit 1 (a4 (([f7]:List ByteArray))),e7 ([(aC.mk fL ([x19]:List aA)),(aC.mk cF ([x2,x4]:List aA))]:List aC)] s3) (q1 (bR CN) (qN (aQ.ret ?_)))
  cases aZ H
  exact bL (hr:=⟨⟨_,_,_,rfl,rfl,s3,rfl,rfl⟩,trivial⟩)
 refine qS (qR (q1 eG (q1 aE (qN ?_))))
 refine bA H (fun h21 H=>?_) (fun h21 H=>?_)
 ·refine gL H fun d22 h23 H=>(gL H fun y24 h25 H=>(dW (dI [3] (a6 mB) (dB [45] 0 1 (uI yP) (dI [0] aE (dI [] (tA ([cF,s_,SG]:List ByteArray) bU kG) (dE [47,48] (fM [0] [] Tryz.func86 (LF h23 h25 (fO d5 ([cF,s_,SG]:List ByteArray) (by decide)))) (dI [46] (aX.indexB (sz:=2) (k:=2) (N:=2) (i:=0) rfl rfl rfl rfl (by decide) vS) (dI [50] (a6 PY) (mN [51,49] (bR sz9) (dN (qS (qR ?_)))))))))))))
  refine AL.weak (Wk.freezeE (k:=2) (sz:=2) (es:= [aC.cs (aC.mk y24 []),aC.cs (aC.mk cF ([x2,x4]:List aA))]) (es':=aC.trs (([(aC.mk y24 []),(aC.mk cF ([x2,x4]:List aA))]:List aC))) (s':=⟨[(0,.ptr 0 0),(2,.ptr 1 0),(3,.ptr 3 0),(15,pN (pc.below 10))],⟨[some ⟨151,dC d22⟩,some ⟨116,[pS s_,.nil,.nil]⟩,none,some ⟨116,[pS cH,.lit 1 (a4 (([f7]:List ByteArray))),e7 ([(aC.mk y24 []),(aC.mk cF ([x2,x4]:List aA))]:List aC)]⟩],[]⟩⟩) (by simp [aC.trs_map,aC.tr_cs]) rfl kP (by simp [aC.cs]) (Nat.le_of_ble_eq_true rfl) ⟨⟨rfl,dP,rfl⟩,⟨⟨rfl,dP,rfl⟩,⟨⟨rfl,dP,rfl⟩,trivial⟩⟩⟩ rfl rfl (eJ hC (j7 rfl) (Nat.le_of_ble_eq_true rfl)) (by repeat' first|exact trivial|refine⟨⟨_,rfl,dP,rfl⟩,?_⟩)) ?_;refine q1 (cU [pS cH,.lit 1 (a4 (([f7]:List ByteArray))),e7 ([(aC.mk y24 []),(aC.mk cF ([x2,x4]:List aA))]:List aC)] s3) (q1 (bR CN) (qN (aQ.ret ?_)))
  cases aZ H
  exact bL (hr:=⟨⟨_,_,_,rfl,rfl,s3,rfl,rfl⟩,trivial⟩)
 refine aQ.skip (qS (qR ?_))
 refine AL.weak (Wk.freezeE (k:=2) (sz:=2) (es:= [aC.cs (aC.mk fL []),aC.cs (aC.mk cF ([x2,x4]:List aA))]) (es':=aC.trs (([(aC.mk fL []),(aC.mk cF ([x2,x4]:List aA))]:List aC))) (s':=⟨[(0,.ptr 0 0),(2,.ptr 1 0),(3,.ptr 3 0),(15,pN (pc.below 10))],⟨[some ⟨151,dC d5⟩,some ⟨116,[pS s_,.nil,.nil]⟩,none,some ⟨116,[pS cH,.lit 1 (a4 (([f7]:List ByteArray))),e7 ([(aC.mk fL []),(aC.mk cF ([x2,x4]:List aA))]:List aC)]⟩],[]⟩⟩) (by simp [aC.trs_map,aC.tr_cs]) rfl kP (by simp [aC.cs]) (Nat.le_of_ble_eq_true rfl) ⟨⟨rfl,dP,rfl⟩,⟨⟨rfl,dP,rfl⟩,⟨⟨rfl,dP,rfl⟩,trivial⟩⟩⟩ rfl rfl (eJ hC (j7 rfl) (Nat.le_of_ble_eq_true rfl)) (by repeat' first|exact trivial|refine⟨⟨_,rfl,dP,rfl⟩,?_⟩)) ?_;refine q1 (cU [pS cH,.lit 1 (a4 (([f7]:List ByteArray))),e7 ([(aC.mk fL []),(aC.mk cF ([x2,x4]:List aA))]:List aC)] s3) (q1 (bR CN) (qN (aQ.ret ?_)))
 cases aZ H
 exact bL (hr:=⟨⟨_,_,_,rfl,rfl,s3,rfl,rfl⟩,trivial⟩)
end
end Go.Proofs.YtpioomclpaiomaaGreat.W

namespace Go.Proofs.YtpioomclpaiomaaGreat.W
set_option maxRecDepth 100000
set_option maxHeartbeats 40000000
noncomputable section
open Go.RowKit Go.Proofs
set_option linter.unusedSimpArgs false
set_option linter.unusedVariables false
attribute [local irreducible] lt
def ajB(m:DS→Option (aL×DS)):Prop:= ∀(pq0:DS) (r:aL×DS),m pq0=some r→cP Tryz.prog 117 [.ptr 0 0] ⟨[some ⟨151,dC pq0⟩],[]⟩ (fun q t=>q=((aL.pv r.1):PV)∧t=⟨[some ⟨151,dC r.2⟩],[]⟩)
def afP(fu:Nat)(pq0 d1:DS):Nat→((List aT)×(List aN)×(List aH)×(List aM)×DS)→Option (LR ((List aT)×(List aN)×(List aH)×(List aM)×DS) (aL×DS)):=
 fun i3 (v9,v10,v11,v12,v4)=>lt (v4.after 4) (fun d15=>
 sw (decide ((v4.below 4:Int)=0))
 (bd (D7 fu d15) (fun(x19,x20)=>
 gd ((v9).length+(([x19]:List aT)).length≤68719476736)
 (some (.next ((v9++([x19]:List aT)),v10,v11,v12,x20)))))
 (sw (decide ((v4.below 4:Int)=1))
 (bd (I8 fu d15) (fun(x24,x25)=>
 gd ((v10).length+(([x24]:List aN)).length≤68719476736)
 (some (.next (v9,(v10++([x24]:List aN)),v11,v12,x25)))))
 (sw (decide ((v4.below 4:Int)=2))
 (bd (I9 fu d15) (fun(x29,x30)=>
 gd ((v11).length+(([x29]:List aH)).length≤68719476736)
 (some (.next (v9,v10,(v11++([x29]:List aH)),v12,x30)))))
 (bd (SM fu d15) (fun(x33,x34)=>
 gd ((v12).length+(([x33]:List aM)).length≤68719476736)
 (some (.next (v9,v10,v11,(v12++([x33]:List aM)),x34))))))))
def afQ(fu:Nat)(pq0 d1:DS):Option ((aL×DS)⊕((List aT)×(List aN)×(List aH)×(List aM)×DS)):=
 loopN (afP fu pq0 d1) (pq0.below 5-0) 0 (([]),([]),([]),([]),d1)
def NF(fu:Nat)(pq0:DS):Option (aL×DS):=
 lt (pq0.after 5) (fun d1=>
 so (afQ fu pq0 d1) (fun(v9,v10,v11,v12,v4)=>
 lt (v4.after 10) (fun d36=>
 sw (decide ((v4.below 10:Int)=0))
 (lt (d36.after ([s_,fV]:List ByteArray).length) (fun d39=>
 lt (d36.pick ([s_,fV]:List ByteArray)) (fun y41=>
 some ((aL.mk y41 ([fV]:List ByteArray) v9 v10 v11 v12),d39))))
 (sw (decide ((v4.below 10:Int)=1))
 (lt (d36.after ([fV,s_q,s_p]:List ByteArray).length) (fun d44=>
 lt (d36.pick ([fV,s_q,s_p]:List ByteArray)) (fun y46=>
 gd ((([fV]:List ByteArray)).length+(([y46]:List ByteArray)).length≤68719476736)
 (some ((aL.mk s_p (([fV]:List ByteArray)++([y46]:List ByteArray)) v9 v10 v11 v12),d44)))))
 (some ((aL.mk s_p ([fV]:List ByteArray) v9 v10 v11 v12),d36))))))
theorem afR(fu:Nat):ajB (NF fu):=by
 intro pq0 r H
 have H:=eF H
 refine qI Tryz.func117 (fun C hC=>?_)
 refine qS (qR (q1 (gM sE) (qN (qS (qR (q1 (tA ([fV]:List ByteArray) bU kG) (q1 (eU sE GV) (q1 (gM sE) (q1 (bR tB) (qN (qS (qR (q1 aE ?_)))))))))))))
 refine gL H fun d1 h2 H=>(q1 (fM [0] [] Tryz.func103 (CG h2 (e9 pq0 5))) (q1 aE (qN ?_)))
 iterate 2 refine qS ?_
 refine qR (q1 aE (qN (aQ.wk (Wk.regBox (k:=2) (j:=2) 60 5 (by decide) rfl rfl) (aQ.wk (Wk.regBox (k:=2) (j:=3) 116 3 (by decide) rfl rfl) (aQ.wk (Wk.regBox (k:=2) (j:=4) 55 12 (by decide) rfl rfl) (aQ.wk (Wk.regBox (k:=2) (j:=5) 148 16 (by decide) rfl rfl) ?_))))))
 have hb13:=DS.below_lt (d:=pq0) (n:=5) (by decide)
 refine b9 (σ:=(List aT)×(List aN)×(List aH)×(List aM)×DS) (fun i3 (v9,v10,v11,v12,v4)=>⟨[(0,.ptr 0 0),(2,.ptr 1 0),(3,.ptr 2 0),(4,pN (pq0.below 5)),(5,pN i3)],⟨[some ⟨151,dC v4⟩,some ⟨131,[pS s_,.nil,.nil,.nil,.nil,.nil]⟩,some ⟨131,[pS s_p,.lit 1 (a4 (([fV]:List ByteArray))),w5 v9 0,mE v10 1,mG v11 2,mF v12 3]⟩],[⟨60,5,aT.trs (v9),false⟩,⟨116,3,aN.trs (v10),false⟩,⟨55,12,aH.trs (v11),false⟩,⟨148,16,aM.trs (v12),false⟩]⟩⟩) (fun(v9,v10,v11,v12,v4)=>⟨[(0,.ptr 0 0),(2,.ptr 1 0),(3,.ptr 2 0)],⟨[some ⟨151,dC v4⟩,some ⟨131,[pS s_,.nil,.nil,.nil,.nil,.nil]⟩,some ⟨131,[pS s_p,.lit 1 (a4 (([fV]:List ByteArray))),w5 v9 0,mE v10 1,mG v11 2,mF v12 3]⟩],[⟨60,5,aT.trs (v9),false⟩,⟨116,3,aN.trs (v10),false⟩,⟨55,12,aH.trs (v11),false⟩,⟨148,16,aM.trs (v12),false⟩]⟩⟩) (f8 H) ?_ ?_
 ·rintro i3 ⟨v9,v10,v11,v12,v4⟩ H
  iterate 2 refine qS ?_
  refine qR ?_
  iterate 2 refine q1 aE ?_
  refine q1 gP (qN ?_)
  refine dT H (fun h14 h14l H=>?_) (fun h14 H=>?_)
  ·have h14n:i3<pq0.below 5:=by have:=of_decide_eq_true h14;omega
   refine aQ.skip (qS (aQ.block (qS (qR (q1 aE (gL H fun d15 h16 H=>(q1 (fM [0] [] Tryz.func103 (CG h16 (e9 v4 4))) (qN (aQ.block (qS (qR (q1 eG (q1 aE ?_)))))))))))))
   refine qN ?_;refine bA H (fun h17 H=>?_) (fun h17 H=>?_)
   ·refine eT H fun x19 x20 z18 H=>(cX H fun z21 H=>(dW (dI [3] (a6 pP) (dB [26] 0 1 (uI D1) (dI [0] aE (dE [28] (fM [0] [] Tryz.func167 (X6 fu d15 _ z18)) (dI [29] (tA ([x19]:List aT) yG vR) (dE [27,30] (kX z21 yG anE) (dI [3] (a6 pP) (mN [32,31] (bR am8) (dN (qR (q1 aE ?_)))))))))))))
    refine q1 (aX.addI rfl rfl rfl rfl (c:=((i3+1:Nat):Int)) (by omega) (by omega)) (q1 aE (qN ?_))
    exact iK h14l ⟨_,(aZ H:),b0⟩
   refine qS (qR (q1 eG (q1 aE (qN ?_))))
   refine bA H (fun h22 H=>?_) (fun h22 H=>?_)
   ·refine eT H fun x24 x25 z23 H=>(cX H fun z26 H=>(dW (dI [3] (a6 sK) (dB [35] 0 1 (uI K0) (dI [0] aE (dE [37] (fM [0] [] Tryz.func168 (acE fu d15 _ z23)) (dI [38] (tA ([x24]:List aN) C9 CO) (dE [36,39] (kX z26 C9 anF) (dI [3] (a6 sK) (mN [41,40] (bR am9) (dN (qR (q1 aE ?_)))))))))))))
    refine q1 (aX.addI rfl rfl rfl rfl (c:=((i3+1:Nat):Int)) (by omega) (by omega)) (q1 aE (qN ?_))
    exact iK h14l ⟨_,(aZ H:),b0⟩
   refine qS (qR (q1 eG (q1 aE (qN ?_))))
   refine bA H (fun h27 H=>?_) (fun h27 H=>?_)
   ·refine eT H fun x29 x30 z28 H=>(cX H fun z31 H=>(dW (dI [3] (a6 qU) (dB [44] 0 1 (uI GZ) (dI [0] aE (dE [46] (fM [0] [] Tryz.func169 (acH fu d15 _ z28)) (dI [47] (tA ([x29]:List aH) CC u4) (dE [45,48] (kX z31 CC anG) (dI [3] (a6 qU) (mN [50,49] (bR anA) (dN (qR (q1 aE ?_)))))))))))))
    refine q1 (aX.addI rfl rfl rfl rfl (c:=((i3+1:Nat):Int)) (by omega) (by omega)) (q1 aE (qN ?_))
    exact iK h14l ⟨_,(aZ H:),b0⟩
   refine eT H fun x33 x34 z32 H=>(cX H fun z35 H=>(dW (dI [3] (a6 wD) (dB [17] 0 1 (uI SH) (dI [0] aE (dE [19] (fM [0] [] Tryz.func170 (ai7 fu d15 _ z32)) (dI [20] (tA ([x33]:List aM) JS CP) (dE [18,21] (kX z35 JS anH) (dI [3] (a6 wD) (mN [23,22] (bR anB) (dN (qR (q1 aE ?_)))))))))))))
   refine q1 (aX.addI rfl rfl rfl rfl (c:=((i3+1:Nat):Int)) (by omega) (by omega)) (q1 aE (qN ?_))
   exact iK h14l ⟨_,(aZ H:),b0⟩
  refine aQ.exit ?_;exact j0 ⟨_,H,b0⟩
 rintro⟨v9,v10,v11,v12,v4⟩ H
 iterate 2 refine qS ?_
 refine qR (q1 aE (gL H fun d36 h37 H=>(q1 (fM [0] [] Tryz.func103 (CG h37 (e9 v4 10))) (qN (aQ.block (qS (qR (q1 eG (q1 aE (qN ?_))))))))))
 refine bA H (fun h38 H=>?_) (fun h38 H=>?_)
 ·refine qR (q1 aE (q1 (tA ([s_,fV]:List ByteArray) bU kG) (gL H fun d39 h40 H=>(gL H fun y41 h42 H=>(q1 (fM [0] [] Tryz.func86 (LF h40 h42 (fO d36 ([s_,fV]:List ByteArray) (by decide)))) (q1 (a6 WO) (q1 (bR sz9) (qN (qS (qR (q1 (cU [pS y41,.lit 1 (a4 (([fV]:List ByteArray))),w5 v9 0,mE v10 1,mG v11 2,mF v12 3] pG) (q1 (bR tB) (qN ?_)))))))))))))
  refine aQ.ret ?_
  cases aZ H
  exact bL (hr:=⟨⟨_,_,_,rfl,rfl,pG,rfl,rfl⟩,trivial⟩)
 refine qS (qR (q1 eG (q1 aE (qN ?_))))
 refine bA H (fun h43 H=>?_) (fun h43 H=>?_)
 ·refine gL H fun d44 h45 H=>(gL H fun y46 h47 H=>(cX H fun z48 H=>(dW (dI [3] (a6 PO) (dB [61] 0 1 (uI jC) (dI [0] aE (dI [] (tA ([fV,s_q,s_p]:List ByteArray) bU kG) (dE [63,64] (fM [0] [] Tryz.func86 (LF h45 h47 (fO d36 ([fV,s_q,s_p]:List ByteArray) (by decide)))) (dI [65] (tA ([y46]:List ByteArray) bU kG) ?_)))))))))
  refine dI [62,66] (aX.appendLit (es1:=a4 (([fV]:List ByteArray))) (es2:=a4 (([y46]:List ByteArray))) (es3:=a4 (([fV]:List ByteArray)++([y46]:List ByteArray))) rfl rfl rfl rfl rfl (pL _) (pL _) (by exact List.cons_ne_nil _ _) (by decide) bU qH (by decide) (by rw [a9,a9];exact yL z48 (by decide)) (uF _ _)) ?_;refine dI [3] (a6 PO) (mN [68,67] (bR NP) (dN (qS (qR (q1 (cU [pS s_p,rS (([fV]:List ByteArray)++([y46]:List ByteArray)),w5 v9 0,mE v10 1,mG v11 2,mF v12 3] pG) (q1 (bR tB) (qN (aQ.ret ?_))))))))
  cases aZ H
  exact bL (hr:=⟨⟨_,_,_,rfl,rfl,pG,rfl,rfl⟩,trivial⟩)
 refine aQ.skip (qS (qR (q1 (cU [pS s_p,.lit 1 (a4 (([fV]:List ByteArray))),w5 v9 0,mE v10 1,mG v11 2,mF v12 3] pG) (q1 (bR tB) (qN (aQ.ret ?_))))))
 cases aZ H
 exact bL (hr:=⟨⟨_,_,_,rfl,rfl,pG,rfl,rfl⟩,trivial⟩)
def acZ(m:DS→Option (aI×DS)):Prop:= ∀(pc:DS) (r:aI×DS),m pc=some r→cP Tryz.prog 55 [.ptr 0 0] ⟨[some ⟨151,dC pc⟩],[]⟩ (fun q t=>q=((aI.pv r.1):PV)∧t=⟨[some ⟨151,dC r.2⟩],[]⟩)
def uX(fu:Nat)(pc:DS):Option (aI×DS):=
 bd (JD fu pc) (fun(x2,x3)=>
 lt (x3.after 5) (fun d4=>
 sw (decide (x3.below 5=0))
 (bd (NF fu d4) (fun(x8,x9)=>
 gd ((x2.gPackages).length+(([x8]:List aL)).length≤68719476736)
 (some ((aI.mk (x2.gPackages++([x8]:List aL))),x9))))
 (some ((aI.mk x2.gPackages),d4))))
theorem K6(fu:Nat):acZ (uX fu):=by
 intro pc r H
 have H:=eF H
 refine qI Tryz.func55 (fun C hC=>?_)
 refine qS (qR (q1 (gM JK) (qN (qS (qR (q1 aE (eT H fun x2 x3 z1 H=>(q1 (aX.callOwn (pre:=⟨[some ⟨151,dC pc⟩],[]⟩) (B:= [some ⟨151,dC x3⟩]) (R:=fun k=> .agg [qK x2.gPackages k]) (ps:= [_]) (qs:= [.ptr 0 0]) [0] rfl rfl Tryz.func116 (by kernel_rfl) rfl rfl rfl (mD.of ⟨⟨_,rfl,rfl,kP,rfl⟩,trivial⟩ trivial (by decide) (by decide)) rfl kP rfl rfl rfl (fun k k'=>(.agg (.cons Mv.acc WF.nil))) (acX fu pc _ z1)) (q1 (gM JK) (q1 (bR JJ) (qN ?_)))))))))))
 iterate 2 refine qS ?_
 refine qR (q1 aE (gL H fun d4 h5 H=>(q1 (fM [0] [] Tryz.func112 (CG h5 (mZ x3 5))) (qN ?_))))
 refine bA H (fun h6 H=>?_) (fun h6 H=>?_)
 ·refine eT H fun x8 x9 z7 H=>(cX H fun z10 H=>(dW (dI [3] (a6 kV) (dB [8] 0 1 (uI AP) (dI [0] aE (dE [10] (fM [0] [] Tryz.func117 (afR fu d4 _ z7)) (dI [11] (hH ([x8]:List aL) wB sE) (dE [9,12] (kX z10 wB apC) (dI [3] (a6 kV) (mN [14,13] (bR ao4) (dN (qS (qR ?_)))))))))))))
  refine q1 (cU [qK (x2.gPackages++([x8]:List aL)) 0] nB) (q1 (bR JJ) (qN (aQ.ret ?_)))
  cases aZ H
  exact bL (hr:=⟨⟨_,_,_,rfl,rfl,nB,rfl,rfl⟩,trivial⟩)
 refine aQ.skip (qS (qR (q1 (cU [qK x2.gPackages 0] nB) (q1 (bR JJ) (qN (aQ.ret ?_))))))
 cases aZ H
 exact bL (hr:=⟨⟨_,_,_,rfl,rfl,nB,rfl,rfl⟩,trivial⟩)
end
end Go.Proofs.YtpioomclpaiomaaGreat.W

namespace Go.Proofs.YtpioomclpaiomaaGreat.W
set_option maxRecDepth 100000
set_option maxHeartbeats 40000000
noncomputable section
open Go.RowKit Go.Proofs
set_option linter.unusedSimpArgs false
set_option linter.unusedVariables false
attribute [local irreducible] lt
def OP(m:aI→Option ((List aO))):Prop:= ∀(pw:aI) (r:(List aO)),m pw=some r→b4 Tryz.prog 73 [(aI.pv pw)] (XB r:PV)
def L4(fu:Nat)(pw:aI)(i1:Nat)(v3:List aO)(y6:aL):Nat→((List aO))→Option (LR ((List aO)) (LR ((List aO)) ((List aO)))):=
 fun i9 v11=>gd ((v11).length+(([(aO.mk (i1:Int) (i9:Int))]:List aO)).length≤68719476736)
 (some (.next (v11++([(aO.mk (i1:Int) (i9:Int))]:List aO))))
def L6(fu:Nat)(pw:aI)(i1:Nat)(v3:List aO)(y6:aL):Option ((LR ((List aO)) ((List aO)))⊕((List aO))):=
 loopN (L4 fu pw i1 v3 y6) (y6.gInstances.length-0) 0 v3
def L3(fu:Nat)(pw:aI):Nat→((List aO))→Option (LR ((List aO)) ((List aO))):=
 fun i1 v3=>lt (aW pw.gPackages i1) (fun y6=>
 so (L6 fu pw i1 v3 y6) (fun v11=>
 some (.next v11)))
def L5(fu:Nat)(pw:aI):Option (((List aO))⊕((List aO))):=
 loopN (L3 fu pw) (pw.gPackages.length-0) 0 ([])
def OO(fu:Nat)(pw:aI):Option ((List aO)):=
 so (L5 fu pw) (fun v3=>
 some v3)
theorem aiC(fu:Nat):OP (OO fu):=by
 intro pw r H
 have H:=eF H
 refine qI Tryz.func73 (fun C hC=>?_)
 refine qS (qR (q1 (jP ([bC pw.gPackages])) (q1 aE (qN (qS (qR (q1 (qZ ([]:List aO) anS adK) (q1 aE (qN ?_)))))))))
 iterate 2 refine qS ?_
 refine qR (q1 (a6 kV) (q1 (bD AP) (q1 (eB wB (aL.trs_len _)) (q1 aE (qN ?_)))))
 refine j8 9 (aL.trs_len _) (fun hl4=>?_)
 refine b9 (σ:=(List aO)) (fun i1 v3=>⟨[(2,.nil),(3,wA v3 0),(9,bC pw.gPackages),(10,pN pw.gPackages.length),(11,pN i1)],⟨[some ⟨26,[bC pw.gPackages]⟩],[⟨45,2,aO.trs (v3),false⟩]⟩⟩) (fun v3=>⟨[(2,.nil),(3,wA v3 0)],⟨[some ⟨26,[bC pw.gPackages]⟩],[⟨45,2,aO.trs (v3),false⟩]⟩⟩) (f8 H) ?_ ?_
 ·rintro i1 v3 H
  refine qS (qR (q1 gP (qN (qS ?_))))
  refine dT H (fun h5 h5l H=>?_) (fun h5 H=>?_)
  ·have h5n:=a8 h5
   refine aQ.skip (qS (aQ.block (qS (qR (q1 aE (gL H fun y6 h7 H=>(q1 (vT h7 h5n wB) (q1 (jW (aL.cs y6) pG) (q1 (gM sE) (q1 aE (q1 (bR tB) (qN (qS ?_)))))))))))))
   refine qR (q1 (a6 qU) (q1 (bD GZ) ?_))
   refine amA 17 (aH.trs_len _) (fun hl8=>?_)
   refine q1 (eB CC (aH.trs_len _)) (q1 aE (qN ?_))
   refine b9 (σ:=(List aO)) (fun i9 v11=>⟨[(2,.nil),(3,wA v11 0),(4,pN i1),(5,.ptr 1 0),(9,bC pw.gPackages),(10,pN pw.gPackages.length),(11,pN i1),(12,pB (decide ((i1:Int)<(pw.gPackages.length:Int)))),(13,pN i1),(14,.eptr (aL.cs y6)),(15,(aL.pv y6)),(16,.ptr 1 4),(17,wW y6.gInstances),(18,pN y6.gInstances.length),(19,pN i9)],⟨[some ⟨26,[bC pw.gPackages]⟩,some ⟨131,fQ y6⟩],[⟨45,2,aO.trs (v11),false⟩]⟩⟩) (fun v11=>⟨[(2,.nil),(3,wA v11 0),(4,pN i1),(5,.ptr 1 0),(9,bC pw.gPackages),(10,pN pw.gPackages.length),(11,pN i1),(12,pB (decide ((i1:Int)<(pw.gPackages.length:Int)))),(13,pN i1),(14,.eptr (aL.cs y6)),(15,(aL.pv y6)),(16,.ptr 1 4),(17,wW y6.gInstances),(18,pN y6.gInstances.length)],⟨[some ⟨26,[bC pw.gPackages]⟩,some ⟨131,fQ y6⟩],[⟨45,2,aO.trs (v11),false⟩]⟩⟩) (f8 H) ?_ ?_
   ·rintro i9 v11 H
    refine qS (qR (q1 gP (qN (qS ?_))))
    refine dT H (fun h12 h12l H=>?_) (fun h12 H=>?_)
    ·have h12n:=a8 h12
     refine aQ.skip (qS (aQ.block (qS (qR ?_))))
     iterate 2 refine q1 aE ?_
     refine qN (qR ?_)
     iterate 3 refine q1 aE ?_
     refine q1 (eU adK aoV) (q1 (hH ([(aO.mk (i1:Int) (i9:Int))]:List aO) anS adK) (cX H fun z13 H=>(q1 (kX z13 anS apV) (q1 aE (qN (qR (q1 (aX.addI rfl rfl rfl rfl (c:=((i9+1:Nat):Int)) (by omega) (by omega)) (q1 aE (qN ?_)))))))))
     exact iK h12l ⟨_,(aZ H:),b0⟩
    refine aQ.exit ?_;exact j0 ⟨_,H,b0⟩
   rintro v11 H
   refine qR (q1 (aX.addI rfl rfl rfl rfl (c:=((i1+1:Nat):Int)) (by omega) (by omega)) (q1 aE (qN ?_)))
   exact iK h5l ⟨_,(aZ H:),b0⟩
  refine aQ.exit ?_;exact j0 ⟨_,H,b0⟩
 rintro v3 H
 refine qS (qR ?_)
 iterate 2 refine q1 aE ?_
 refine qN (aQ.ret ?_)
 cases aZ H
 exact bL
def aaH(m:aI→aO→Option (aH×Bool)):Prop:= ∀(pw:aI) (po:aO) (r:aH×Bool),m pw po=some r→b4 Tryz.prog 81 [(aI.pv pw),(aO.pv po)] (.tup [(aH.pv r.1),pB r.2]:PV)
def o5(fu:Nat)(pw:aI)(po:aO):Option (aH×Bool):=
 sw (decide (po.gPackage<0))
 (some ((aH.mk s_ [] (aA.mk 0 s_ []) [] false false (aA.mk 0 s_ []) []),false))
 (sw (decide (po.gPackage≥(pw.gPackages.length:Int)))
 (some ((aH.mk s_ [] (aA.mk 0 s_ []) [] false false (aA.mk 0 s_ []) []),false))
 (sw (decide (po.gAt<0))
 (some ((aH.mk s_ [] (aA.mk 0 s_ []) [] false false (aA.mk 0 s_ []) []),false))
 (gd (0≤po.gPackage∧(po.gPackage).toNat<(pw.gPackages).length)
 (lt (aW pw.gPackages ((po.gPackage).toNat)) (fun y5=>
 sw (decide (po.gAt≥(y5.gInstances.length:Int)))
 (some ((aH.mk s_ [] (aA.mk 0 s_ []) [] false false (aA.mk 0 s_ []) []),false))
 (gd (0≤po.gAt∧(po.gAt).toNat<(y5.gInstances).length)
 (lt (aW y5.gInstances ((po.gAt).toNat)) (fun y9=>
 some (y9,true)))))))))
theorem W4(fu:Nat):aaH (o5 fu):=by
 intro pw po r H
 have H:=eF H
 refine qI Tryz.func81 (fun C hC=>?_)
 refine qS (qR (q1 (jP ([bC pw.gPackages])) (q1 (jP ([pI po.gPackage,pI po.gAt])) (q1 (gM u4) (q1 aE (qN ?_))))))
 iterate 2 refine qS ?_
 rcases lC (decide (po.gPackage<0)) with g1|g1
 ·have H:=oE H g1
  refine dW (dI [3] (a6 tD) (dD [6] (bD jN) (dI [7] gP (dI [8] aE ?_))))
  iterate 6 refine CQ g1 ?_
  refine dI [9] (bS g1) (dI [16] aE ?_)
  iterate 3 refine CQ rfl ?_
  refine dI [17] (bS rfl) (dI [21] aE ?_)
  iterate 11 refine CQ rfl ?_
  refine dI [22] (bS rfl) (dN (dM rfl (qS (qR (q1 (eU u4 RI) (q1 (bR s8) (q1 aE (qN (aQ.ret ?_)))))))))
  cases aZ H
  exact jM (hr:=⟨⟨_,_,_,rfl,rfl,n9,rfl,rfl⟩,rfl,trivial⟩)
 have H:=oA H g1
 rcases lC (decide (po.gPackage≥(pw.gPackages.length:Int))) with g2|g2
 ·have H:=oE H g2
  refine dW (dI [3] (a6 tD) (dD [6] (bD jN) (dI [7] gP (dI [8] aE (dI (hg:=a5 g1) [3] (a6 tD) (dD (hg:=a5 g1) [10] (bD jN) (dI (hg:=a5 g1) [2] (a6 kV) (dD (hg:=a5 g1) [12] (bD AP) (dI (hg:=a5 g1) [13] (eB wB (aL.trs_len _)) (dI (hg:=a5 g1) [11,14] TX (dI [9,15] (b6 g1) (dI [16] aE ?_))))))))))))
  iterate 3 refine CQ g2 ?_
  refine dI [17] (bS g2) (dI [21] aE ?_)
  iterate 11 refine CQ rfl ?_
  refine dI [22] (bS rfl) (dN (dM rfl (qS (qR (q1 (eU u4 RI) (q1 (bR s8) (q1 aE (qN (aQ.ret ?_)))))))))
  cases aZ H
  exact jM (hr:=⟨⟨_,_,_,rfl,rfl,n9,rfl,rfl⟩,rfl,trivial⟩)
 have H:=oA H g2
 rcases lC (decide (po.gAt<0)) with g3|g3
 ·have H:=oE H g3
  refine dW (dI [3] (a6 tD) (dD [6] (bD jN) (dI [7] gP (dI [8] aE (dI (hg:=a5 g1) [3] (a6 tD) (dD (hg:=a5 g1) [10] (bD jN) (dI (hg:=a5 g1) [2] (a6 kV) (dD (hg:=a5 g1) [12] (bD AP) (dI (hg:=a5 g1) [13] (eB wB (aL.trs_len _)) (dI (hg:=a5 g1) [11,14] TX (dI [9,15] (b6 g1) (dI [16] aE (dI (hg:=a5 g2) [3] (a6 L0) ?_)))))))))))))
  refine dD (hg:=a5 g2) [18] (bD jN) (dI (hg:=a5 g2) [19] gP (dI [17,20] (b6 g2) (dI [21] aE ?_)))
  iterate 11 refine CQ g3 ?_
  refine dI [22] (bS g3) (dN (dM rfl (qS (qR (q1 (eU u4 RI) (q1 (bR s8) (q1 aE (qN (aQ.ret ?_)))))))))
  cases aZ H
  exact jM (hr:=⟨⟨_,_,_,rfl,rfl,n9,rfl,rfl⟩,rfl,trivial⟩)
 have H:=oA H g3
 refine cX H fun z4 H=>(gL H fun y5 h6 H=>(dW (dI [3] (a6 tD) (dD [6] (bD jN) (dI [7] gP (dI [8] aE (dI (hg:=a5 g1) [3] (a6 tD) (dD (hg:=a5 g1) [10] (bD jN) (dI (hg:=a5 g1) [2] (a6 kV) (dD (hg:=a5 g1) [12] (bD AP) (dI (hg:=a5 g1) [13] (eB wB (aL.trs_len _)) (dI (hg:=a5 g1) [11,14] TX (dI [9,15] (b6 g1) ?_)))))))))))))
 refine dI [16] aE (dI (hg:=a5 g2) [3] (a6 L0) (dD (hg:=a5 g2) [18] (bD jN) (dI (hg:=a5 g2) [19] gP (dI [17,20] (b6 g2) (dI [21] aE (dI (hg:=a5 g3) [3] (a6 L0) (dD (hg:=a5 g3) [23] (bD jN) (dI (hg:=a5 g3) [2] (a6 kV) (dD (hg:=a5 g3) [25] (bD AP) (dI (hg:=a5 g3) [3] (a6 tD) (dD (hg:=a5 g3) [27] (bD jN) (dI (hg:=a5 g3) [26,28] (rIm h6 z4 wB) (dI (hg:=a5 g3) [29] (nK qU) ?_)))))))))))))
 refine dI (hg:=a5 g3) [30] (mC GZ) (dI (hg:=a5 g3) [31] (eB CC (aH.trs_len _)) (dI (hg:=a5 g3) [24,32] TX (dI [22,33] (b6 g3) (dN ?_))))
 refine bA H (fun h7 H=>?_) (fun h7 H=>?_)
 ·refine qS (qR (q1 (eU u4 RI) (q1 (bR s8) (q1 aE (qN (aQ.ret ?_))))))
  cases aZ H
  exact jM (hr:=⟨⟨_,_,_,rfl,rfl,n9,rfl,rfl⟩,rfl,trivial⟩)
 refine aQ.skip (qS (cX H fun z8 H=>(gL H fun y9 h10 H=>(dW (dI [2] (a6 kV) (dD [36] (bD AP) (dI [3] (a6 tD) (dD [38] (bD jN) (dI [37,39] (rIm h6 z4 wB) (dI [40] (nK qU) (dI [41] (mC GZ) (dI [3] (a6 L0) (dD [43] (bD jN) ?_)))))))))))))
 refine dI [42,44] (rIm h10 z8 CC) (dI [45] (jW (aH.cs y9) n9) (mN [4,46] (bR s8) (dI [] aE (dN (aQ.ret ?_)))))
 cases aZ H
 exact jM (hr:=⟨⟨_,_,_,rfl,rfl,n9,rfl,rfl⟩,rfl,trivial⟩)
def akM(m:aI→ByteArray→Option (aT×Int×Bool)):Prop:= ∀(pw:aI) (pname:ByteArray) (r:aT×Int×Bool),m pw pname=some r→b4 Tryz.prog 82 [(aI.pv pw),pS pname] (.tup [(aT.pv r.1),pI r.2.1,pB r.2.2]:PV)
def L9(fu:Nat)(pw:aI)(pname:ByteArray)(i1:Nat)(y4:aL):Nat→Unit→Option (LR Unit (LR Unit (aT×Int×Bool))):=
 fun i7 _=>sw (decide ((aW y4.gTraits i7).gName=pname))
 (some (.ret (.ret ((aW y4.gTraits i7),(i1:Int),true))))
 (some (.next ()))
def VG(fu:Nat)(pw:aI)(pname:ByteArray)(i1:Nat)(y4:aL):Option ((LR Unit (aT×Int×Bool))⊕Unit):=
 loopN (L9 fu pw pname i1 y4) (y4.gTraits.length-0) 0 ()
def L8(fu:Nat)(pw:aI)(pname:ByteArray):Nat→Unit→Option (LR Unit (aT×Int×Bool)):=
 fun i1 _=>lt (aW pw.gPackages i1) (fun y4=>
 so (VG fu pw pname i1 y4) (fun _=>
 some (.next ())))
def VF(fu:Nat)(pw:aI)(pname:ByteArray):Option ((aT×Int×Bool)⊕Unit):=
 loopN (L8 fu pw pname) (pw.gPackages.length-0) 0 ()
def AI(fu:Nat)(pw:aI)(pname:ByteArray):Option (aT×Int×Bool):=
 so (VF fu pw pname) (fun _=>
 some ((aT.mk s_ [] false false []),0,false))
theorem VI(fu:Nat):akM (AI fu):=by
 intro pw pname r H
 have H:=eF H
 refine qI Tryz.func82 (fun C hC=>?_)
 refine qS (qR (q1 (jP ([bC pw.gPackages])) (q1 (gM vR) ?_)))
 iterate 2 refine q1 aE ?_
 refine qN ?_
 iterate 2 refine qS ?_
 refine qR (q1 (a6 kV) (q1 (bD AP) (q1 (eB wB (aL.trs_len _)) (q1 aE (qN ?_)))))
 refine j8 12 (aL.trs_len _) (fun hl2=>?_)
 refine b9 (σ:=Unit) (fun i1 _=>⟨[(1,pS pname),(4,.ptr 1 0),(5,pI 0),(6,pB false),(12,bC pw.gPackages),(13,pN pw.gPackages.length),(14,pN i1)],⟨[some ⟨26,[bC pw.gPackages]⟩,some ⟨60,[pS s_,.nil,pB false,pB false,.nil]⟩],[]⟩⟩) (fun _=>⟨[(4,.ptr 1 0),(5,pI 0),(6,pB false)],⟨[some ⟨26,[bC pw.gPackages]⟩,some ⟨60,[pS s_,.nil,pB false,pB false,.nil]⟩],[]⟩⟩) (f8 H) ?_ ?_
 ·rintro i1 ⟨⟩ H
  refine qS (qR (q1 gP (qN (qS ?_))))
  refine dT H (fun h3 h3l H=>?_) (fun h3 H=>?_)
  ·have h3n:=a8 h3
   refine aQ.skip (qS (aQ.block (qS (qR (q1 aE (gL H fun y4 h5 H=>(q1 (vT h5 h3n wB) (q1 (jW (aL.cs y4) pG) (q1 (gM sE) (q1 aE (q1 (bR tB) (qN (qS ?_)))))))))))))
   refine qR (q1 (a6 pP) (q1 (bD D1) ?_))
   refine amA 20 (aT.trs_len _) (fun hl6=>?_)
   refine q1 (eB yG (aT.trs_len _)) (q1 aE (qN ?_))
   refine b9 (σ:=Unit) (fun i7 _=>⟨[(1,pS pname),(4,.ptr 1 0),(5,pI 0),(6,pB false),(7,pN i1),(8,.ptr 2 0),(12,bC pw.gPackages),(13,pN pw.gPackages.length),(14,pN i1),(15,pB (decide ((i1:Int)<(pw.gPackages.length:Int)))),(16,pN i1),(17,.eptr (aL.cs y4)),(18,(aL.pv y4)),(19,.ptr 2 2),(20,MK y4.gTraits),(21,pN y4.gTraits.length),(22,pN i7)],⟨[some ⟨26,[bC pw.gPackages]⟩,some ⟨60,[pS s_,.nil,pB false,pB false,.nil]⟩,some ⟨131,fQ y4⟩],[]⟩⟩) (fun _=>⟨[(1,pS pname),(4,.ptr 1 0),(5,pI 0),(6,pB false),(7,pN i1),(8,.ptr 2 0),(12,bC pw.gPackages),(13,pN pw.gPackages.length),(14,pN i1),(15,pB (decide ((i1:Int)<(pw.gPackages.length:Int)))),(16,pN i1),(17,.eptr (aL.cs y4)),(18,(aL.pv y4)),(19,.ptr 2 2),(20,MK y4.gTraits),(21,pN y4.gTraits.length)],⟨[some ⟨26,[bC pw.gPackages]⟩,some ⟨60,[pS s_,.nil,pB false,pB false,.nil]⟩,some ⟨131,fQ y4⟩],[]⟩⟩) (f8 H) ?_ ?_
   ·rintro i7 ⟨⟩ H
    refine qS (qR (q1 gP (qN (qS ?_))))
    refine dT H (fun h8 h8l H=>?_) (fun h8 H=>?_)
    ·have h8n:=a8 h8
     refine aQ.skip (qS (aQ.block (qS (qR (q1 (gV h8n yG) (q1 (jW (aT.cs (aW y4.gTraits i7)) pX) (q1 (gM vR) (q1 (bR t8) (qN (qS (qR (q1 (a6 A9) (q1 (bD eE) ?_)))))))))))))
     refine q1 aE (q1 E6 (qN ?_))
     refine bA H (fun h9 H=>?_) (fun h9 H=>?_)
     ·refine qS (qR (q1 (cU [pS ((aW y4.gTraits i7).gName),rS ((aW y4.gTraits i7).gSupertraits),pB ((aW y4.gTraits i7).gAuto),pB ((aW y4.gTraits i7).gAssoc),jU ((aW y4.gTraits i7).gSignatures)] pX) (q1 aE (q1 (bR t8) ?_))))
      iterate 2 refine q1 aE ?_
      refine qN (aQ.ret ?_)
      obtain rfl:_=r:=(p8 (CY (p8 (aZ H))):)
      exact qe3 (hr:=⟨⟨_,_,_,rfl,rfl,pX,rfl,rfl⟩,rfl,rfl,trivial⟩)
     refine aQ.skip (qR (q1 (aX.addI rfl rfl rfl rfl (c:=((i7+1:Nat):Int)) (by omega) (by omega)) (q1 aE (qN ?_))))
     exact iK h8l ⟨_,(aZ H:),b0⟩
    refine aQ.exit ?_;exact j0 ⟨_,H,b0⟩
   rintro⟨⟩ H
   refine qR (q1 (aX.addI rfl rfl rfl rfl (c:=((i1+1:Nat):Int)) (by omega) (by omega)) (q1 aE (qN ?_)))
   exact iK h3l ⟨_,(aZ H:),b0⟩
  refine aQ.exit ?_;exact j0 ⟨_,H,b0⟩
 rintro⟨⟩ H
 refine qS (qR (q1 (eU vR XA) (q1 (bR t8) ?_)))
 iterate 2 refine q1 aE ?_
 refine qN (aQ.ret ?_)
 cases aZ H
 exact qe3 (hr:=⟨⟨_,_,_,rfl,rfl,pX,rfl,rfl⟩,rfl,rfl,trivial⟩)
def W5(fu:Nat)(pname:ByteArray):Option Bool:=
 sw (decide (pname=fW))
 (some true)
 (some (decide (pname=fN)))
def akH(fu:Nat)(pw:aI)(pname:ByteArray)(i1:Nat)(y4:aL):Nat→Unit→Option (LR Unit (LR Unit (aN×Int×Bool))):=
 fun i7 _=>sw (decide ((aW y4.gDataTypes i7).gName=pname))
 (some (.ret (.ret ((aW y4.gDataTypes i7),(i1:Int),true))))
 (some (.next ()))
def akJ(fu:Nat)(pw:aI)(pname:ByteArray)(i1:Nat)(y4:aL):Option ((LR Unit (aN×Int×Bool))⊕Unit):=
 loopN (akH fu pw pname i1 y4) (y4.gDataTypes.length-0) 0 ()
def akG(fu:Nat)(pw:aI)(pname:ByteArray):Nat→Unit→Option (LR Unit (aN×Int×Bool)):=
 fun i1 _=>lt (aW pw.gPackages i1) (fun y4=>
 so (akJ fu pw pname i1 y4) (fun _=>
 some (.next ())))
def akI(fu:Nat)(pw:aI)(pname:ByteArray):Option ((aN×Int×Bool)⊕Unit):=
 loopN (akG fu pw pname) (pw.gPackages.length-0) 0 ()
def al9(fu:Nat)(pw:aI)(pname:ByteArray):Option (aN×Int×Bool):=
 so (akI fu pw pname) (fun _=>
 some ((aN.mk s_ [] []),0,false))
def DH(fu:Nat)(pw:aI)(pt:aA):Option Int:=
 sw (!decide (pt.gKind=2))
 (some (-1))
 (bd (W5 fu pt.gName) (fun x3=>
 sw (x3)
 (some (-1))
 (bd (al9 fu pw pt.gName) (fun(x6,x7,x8)=>
 sw (!(x8))
 (some (-1))
 (some x7)))))
def W1(fu:Nat)(pw:aI)(po:aO):Option Bool:=
 bd (o5 fu pw po) (fun(x2,x3)=>
 sw (!(x3))
 (some false)
 (bd (AI fu pw x2.gTrait) (fun(x6,x7,x8)=>
 sw (x8)
 (sw (decide (x7=po.gPackage))
 (some true)
 (bd (DH fu pw x2.gHead) (fun x12=>
 some (decide (x12=po.gPackage)))))
 (bd (DH fu pw x2.gHead) (fun x14=>
 some (decide (x14=po.gPackage)))))))
def YZ(m:aI→aO→Option (aH×Bool)):Prop:= ∀(pw:aI) (po:aO) (r:aH×Bool),m pw po=some r→b4 Tryz.prog 77 [(aI.pv pw),(aO.pv po)] (.tup [(aH.pv r.1),pB r.2]:PV)
def nH(fu:Nat)(pw:aI)(po:aO):Option (aH×Bool):=
 bd (lO fu po.gPackage 0 (aR ((pw.gPackages.length:Int)-1))) (fun x2=>
 sw (!(x2))
 (some ((aH.mk s_ [] (aA.mk 0 s_ []) [] false false (aA.mk 0 s_ []) []),false))
 (gd (0≤po.gPackage∧(po.gPackage).toNat<(pw.gPackages).length)
 (lt (aW pw.gPackages ((po.gPackage).toNat)) (fun y5=>
 bd (lO fu po.gAt 0 (aR ((y5.gInstances.length:Int)-1))) (fun x8=>
 sw (!(x8))
 (some ((aH.mk s_ [] (aA.mk 0 s_ []) [] false false (aA.mk 0 s_ []) []),false))
 (gd (0≤po.gAt∧(po.gAt).toNat<(y5.gInstances).length)
 (lt (aW y5.gInstances ((po.gAt).toNat)) (fun y11=>
 some (y11,true)))))))))
theorem G2(fu:Nat):YZ (nH fu):=by
 intro pw po r H
 have H:=eF H
 refine qI Tryz.func77 (fun C hC=>?_)
 refine qS (qR (q1 (jP ([bC pw.gPackages])) (q1 (jP ([pI po.gPackage,pI po.gAt])) (q1 (gM u4) (q1 aE (qN ?_))))))
 iterate 2 refine qS ?_
 refine bN H fun x2 z1 H=>?_
 rcases lC (!(x2)) with g3|g3
 ·have H:=oE H g3
  refine dW (dI [3] (a6 tD) (dD [6] (bD jN) (dI [2] (a6 kV) (dD [8] (bD AP) (dI [9] (eB wB (aL.trs_len _)) (dI [10] AY (dI [7,11] (bG Tryz.func108 (uZ fu po.gPackage 0 (aR ((pw.gPackages.length:Int)-1)) _ z1)) (dI [12] gW (dI [13] aE ?_)))))))))
  iterate 13 refine CQ g3 ?_
  refine dI [14] (bS g3) (dN (dM rfl (qS (qR (q1 (eU u4 RI) (q1 (bR s8) (q1 aE (qN (aQ.ret ?_)))))))))
  cases aZ H
  exact jM (hr:=⟨⟨_,_,_,rfl,rfl,n9,rfl,rfl⟩,rfl,trivial⟩)
 have H:=oA H g3
 refine cX H fun z4 H=>(gL H fun y5 h6 H=>(bN H fun x8 z7 H=>(dW (dI [3] (a6 tD) (dD [6] (bD jN) (dI [2] (a6 kV) (dD [8] (bD AP) (dI [9] (eB wB (aL.trs_len _)) (dI [10] AY (dI [7,11] (bG Tryz.func108 (uZ fu po.gPackage 0 (aR ((pw.gPackages.length:Int)-1)) _ z1)) (dI [12] gW (dI [13] aE (dI (hg:=a5 g3) [3] (a6 L0) ?_)))))))))))))
 refine dD (hg:=a5 g3) [15] (bD jN) (dI (hg:=a5 g3) [2] (a6 kV) (dD (hg:=a5 g3) [17] (bD AP) (dI (hg:=a5 g3) [3] (a6 tD) (dD (hg:=a5 g3) [19] (bD jN) (dI (hg:=a5 g3) [18,20] (rIm h6 z4 wB) (dI (hg:=a5 g3) [21] (nK qU) (dI (hg:=a5 g3) [22] (mC GZ) (dI (hg:=a5 g3) [23] (eB CC (aH.trs_len _)) (dI (hg:=a5 g3) [24] AY (dI (hg:=a5 g3) [16,25] (bG Tryz.func108 (uZ fu po.gAt 0 (aR ((y5.gInstances.length:Int)-1)) _ z7)) (dI (hg:=a5 g3) [26] gW (dI [14,27] (b6 g3) (dN ?_)))))))))))))
 refine bA H (fun h9 H=>?_) (fun h9 H=>?_)
 ·refine qS (qR (q1 (eU u4 RI) (q1 (bR s8) (q1 aE (qN (aQ.ret ?_))))))
  cases aZ H
  exact jM (hr:=⟨⟨_,_,_,rfl,rfl,n9,rfl,rfl⟩,rfl,trivial⟩)
 refine aQ.skip (qS (cX H fun z10 H=>(gL H fun y11 h12 H=>(dW (dI [2] (a6 kV) (dD [30] (bD AP) (dI [3] (a6 tD) (dD [32] (bD jN) (dI [31,33] (rIm h6 z4 wB) (dI [34] (nK qU) (dI [35] (mC GZ) (dI [3] (a6 L0) (dD [37] (bD jN) ?_)))))))))))))
 refine dI [36,38] (rIm h12 z10 CC) (dI [39] (jW (aH.cs y11) n9) (mN [4,40] (bR s8) (dI [] aE (dN (aQ.ret ?_)))))
 cases aZ H
 exact jM (hr:=⟨⟨_,_,_,rfl,rfl,n9,rfl,rfl⟩,rfl,trivial⟩)
def UX(m:aI→ByteArray→Option (aT×Int×Bool)):Prop:= ∀(pw:aI) (pname:ByteArray) (r:aT×Int×Bool),m pw pname=some r→b4 Tryz.prog 79 [(aI.pv pw),pS pname] (.tup [(aT.pv r.1),pI r.2.1,pB r.2.2]:PV)
def s5(fu:Nat)(pw:aI)(pname:ByteArray)(i1:Nat):Int→Option (LR Int (LR Unit (aT×Int×Bool))):=
 fun v4=>lt (aW pw.gPackages i1) (fun y6=>
 sw (decide (v4<(y6.gTraits.length:Int)))
 (gd (0≤v4∧(v4).toNat<(y6.gTraits).length)
 (sw (decide ((aW y6.gTraits ((v4).toNat)).gName=pname))
 (some (.ret (.ret ((aW y6.gTraits ((v4).toNat)),(i1:Int),true))))
 (some (.next (v4+1)))))
 (some (.brk v4)))
def EE(fu:Nat)(pw:aI)(pname:ByteArray)(i1:Nat):Option ((LR Unit (aT×Int×Bool))⊕Int):=
 loopW (s5 fu pw pname i1) fu 0
def xR(fu:Nat)(pw:aI)(pname:ByteArray):Nat→Unit→Option (LR Unit (aT×Int×Bool)):=
 fun i1 _=>so (EE fu pw pname i1) (fun v4=>
 some (.next ()))
def ED(fu:Nat)(pw:aI)(pname:ByteArray):Option ((aT×Int×Bool)⊕Unit):=
 loopN (xR fu pw pname) (pw.gPackages.length-0) 0 ()
def qT(fu:Nat)(pw:aI)(pname:ByteArray):Option (aT×Int×Bool):=
 so (ED fu pw pname) (fun _=>
 some ((aT.mk s_ [] false false []),0,false))
theorem EF(fu:Nat):UX (qT fu):=by
 intro pw pname r H
 have H:=eF H
 refine qI Tryz.func79 (fun C hC=>?_)
 refine qS (qR (q1 (jP ([bC pw.gPackages])) (q1 (gM vR) ?_)))
 iterate 2 refine q1 aE ?_
 refine qN ?_
 iterate 2 refine qS ?_
 refine qR (q1 aE (qN ?_))
 refine aQ.fact (cE 0 0 rfl rfl rfl (aL.trs_len _)) (fun hl2=>?_)
 refine b9 (σ:=Unit) (fun i1 _=>⟨[(1,pS pname),(2,.ptr 0 0),(4,.ptr 1 0),(5,pI 0),(6,pB false),(7,pN i1)],⟨[some ⟨26,[bC pw.gPackages]⟩,some ⟨60,[pS s_,.nil,pB false,pB false,.nil]⟩],[]⟩⟩) (fun _=>⟨[(4,.ptr 1 0),(5,pI 0),(6,pB false)],⟨[some ⟨26,[bC pw.gPackages]⟩,some ⟨60,[pS s_,.nil,pB false,pB false,.nil]⟩],[]⟩⟩) (f8 H) ?_ ?_
 ·rintro i1 ⟨⟩ H
  iterate 2 refine qS ?_
  refine qR (q1 aE (q1 (a6 kV) (q1 (bD AP) (q1 (eB wB (aL.trs_len _)) (q1 gP (qN ?_))))))
  refine dT H (fun h3 h3l H=>?_) (fun h3 H=>?_)
  ·have h3n:=a8 h3
   refine aQ.skip (qS (aQ.block (qS (qR (q1 aE (qN ?_))))))
   refine VM (σ:=Int) (fun v4=>⟨[(1,pS pname),(2,.ptr 0 0),(4,.ptr 1 0),(5,pI 0),(6,pB false),(7,pN i1),(8,pI v4),(9,pN i1),(10,.ptr 0 0),(11,bC pw.gPackages),(12,pN pw.gPackages.length),(13,pB (decide ((i1:Int)<(pw.gPackages.length:Int))))],⟨[some ⟨26,[bC pw.gPackages]⟩,some ⟨60,[pS s_,.nil,pB false,pB false,.nil]⟩],[]⟩⟩) (fun v4=>⟨[(1,pS pname),(2,.ptr 0 0),(4,.ptr 1 0),(5,pI 0),(6,pB false),(7,pN i1),(8,pI v4),(9,pN i1),(10,.ptr 0 0),(11,bC pw.gPackages),(12,pN pw.gPackages.length),(13,pB (decide ((i1:Int)<(pw.gPackages.length:Int))))],⟨[some ⟨26,[bC pw.gPackages]⟩,some ⟨60,[pS s_,.nil,pB false,pB false,.nil]⟩],[]⟩⟩) (f8 H) ?_ ?_
   ·rintro k5 v4 H
    iterate 2 refine qS ?_
    refine qR (q1 aE (q1 (a6 kV) (q1 (bD AP) (q1 aE (gL H fun y6 h7 H=>(q1 (vT h7 h3n wB) (q1 (nK pP) (q1 (mC D1) ?_))))))))
    refine amA 22 (aT.trs_len _) (fun hl8=>?_)
    refine q1 (eB yG (aT.trs_len _)) (q1 gP (qN ?_))
    refine bA H (fun h9 H=>?_) (fun h9 H=>?_)
    ·refine aQ.skip (qS (aQ.block (qS (qR (q1 (a6 kV) (q1 (bD AP) (q1 aE (q1 (vT h7 h3n wB) (q1 (nK pP) (q1 (mC D1) (q1 aE (cX H fun z10 H=>(q1 (rIy z10 yG) ?_)))))))))))))
     refine q1 (nK A9) (q1 (mC eE) (q1 aE (q1 E6 (qN ?_))))
     refine bA H (fun h11 H=>?_) (fun h11 H=>?_)
     ·refine qS (qR (q1 (a6 kV) (q1 (bD AP) (q1 aE (q1 (vT h7 h3n wB) (q1 (nK pP) (q1 (mC D1) (q1 aE (q1 (rIy z10 yG) (q1 (jW (aT.cs (aW y6.gTraits ((v4).toNat))) pX) (q1 aE (q1 (bR t8) ?_))))))))))))
      iterate 2 refine q1 aE ?_
      refine qN (aQ.ret ?_)
      obtain rfl:_=r:=(p8 (CY (lwR (aZ H))):)
      exact qe3 (hr:=⟨⟨_,_,_,rfl,rfl,pX,rfl,rfl⟩,rfl,rfl,trivial⟩)
     refine aQ.skip (qR (q1 aE (q1 (aX.addI rfl rfl rfl rfl (c:=v4+1) (by omega) (by omega)) (q1 aE (qN ?_)))))
     exact lwN ⟨_,(aZ H:),b0⟩
    refine aQ.exit ?_;exact lwB ⟨_,(aZ H:),b0⟩
   rintro v4 H
   refine qR (q1 aE (q1 (aX.addI rfl rfl rfl rfl (c:=((i1+1:Nat):Int)) (by omega) (by omega)) (q1 aE (qN ?_))))
   exact iK h3l ⟨_,(aZ H:),b0⟩
  refine aQ.exit ?_;exact j0 ⟨_,H,b0⟩
 rintro⟨⟩ H
 refine qS (qR (q1 (eU vR XA) (q1 (bR t8) ?_)))
 iterate 2 refine q1 aE ?_
 refine qN (aQ.ret ?_)
 cases aZ H
 exact qe3 (hr:=⟨⟨_,_,_,rfl,rfl,pX,rfl,rfl⟩,rfl,rfl,trivial⟩)
abbrev nC:=aG→Option aG
def BT(m:nC):Prop:= ∀(pa0:aG) (r:aG),m pa0=some r→b4 Tryz.prog 113 [(aG.pv pa0)] ((aG.pv r):PV)
def aa7(fu:Nat)(r_sl11Copy:nC)(pa0:aG)(x2:List aA):Nat→((List aG))→Option (LR ((List aG)) aG):=
 fun i3 v5=>lt (aW pa0.gArgs i3) (fun y8=>
 bd (r_sl11Copy y8) (fun x11=>
 gd ((v5).length+(([x11]:List aG)).length≤68719476736)
 (some (.next (v5++([x11]:List aG))))))
def aa9(fu:Nat)(r_sl11Copy:nC)(pa0:aG)(x2:List aA):Option (aG⊕((List aG))):=
 loopN (aa7 fu r_sl11Copy pa0 x2) (pa0.gArgs.length-0) 0 ([])
def aa8(fu:Nat)(r_sl11Copy:nC)(pa0:aG)(x2:List aA)(v5:List aG):Nat→((List bK))→Option (LR ((List bK)) aG):=
 fun i13 v15=>lt (aW pa0.gArms i13) (fun y18=>
 gd (([]:List ByteArray).length+(y18.gVars).length≤68719476736)
 (bd (r_sl11Copy y18.gBody) (fun x22=>
 gd ((v15).length+(([(bK.mk y18.gConstructor (([])++y18.gVars) x22)]:List bK)).length≤68719476736)
 (some (.next (v15++([(bK.mk y18.gConstructor (([])++y18.gVars) x22)]:List bK)))))))
def abA(fu:Nat)(r_sl11Copy:nC)(pa0:aG)(x2:List aA)(v5:List aG):Option (aG⊕((List bK))):=
 loopN (aa8 fu r_sl11Copy pa0 x2 v5) (pa0.gArms.length-0) 0 ([])
def I0(fu:Nat)(r_sl11Copy:nC)(pa0:aG):Option aG:=
 bd (eX fu pa0.gType.gArgs) (fun x2=>
 so (aa9 fu r_sl11Copy pa0 x2) (fun v5=>
 so (abA fu r_sl11Copy pa0 x2 v5) (fun v15=>
 some (aG.mk pa0.gKind pa0.gTrait pa0.gName pa0.gN (aA.mk pa0.gType.gKind pa0.gType.gName x2) v5 v15))))
theorem UL(fu:Nat)(r_sl11Copy:nC)(h_sl11Copy:BT r_sl11Copy):BT (I0 fu r_sl11Copy):=by
 intro pa0 r H
 have H:=eF H
 refine qI Tryz.func113 (fun C hC=>?_)
 refine qS (qR (q1 (jP (hM pa0)) (q1 (gM kB) (qN (qS (bN H fun x2 z1 H=>(dW (dI [1] (a6 rE) (dI [7] (a6 iF) (dD [8] (bD jN) (dI [1] (a6 rE) (dI [10] (a6 gR) (dD [11] (bD eE) ?_)))))))))))))
 refine dI [1] (a6 rE) (dI [13] (a6 eZ) (dD [14] (bD kT) (dI [15] (bG Tryz.func122 (Y9 fu pa0.gType.gArgs _ z1)) (dI [9,12,16] (eU eP sF) (dI [1] (a6 rE) (mN [18,17] (bR eS) (dN (qS (qR (q1 (qZ ([]:List aG) mA kB) (q1 aE (qN ?_))))))))))))
 iterate 2 refine qS ?_
 refine qR (q1 aE (qN ?_))
 refine aQ.fact (cE 0 7 rfl rfl rfl (aG.trs_len _)) (fun hl6=>?_)
 refine b9 (σ:=(List aG)) (fun i3 v5=>⟨[(1,.ptr 0 0),(2,.ptr 1 0),(3,QM v5 0),(4,pN i3)],⟨[some ⟨87,[pI pa0.gKind,pS pa0.gTrait,pS pa0.gName,pI pa0.gN,pI pa0.gType.gKind,pS pa0.gType.gName,a3 x2,f9 pa0.gArgs,m3 pa0.gArms]⟩,some ⟨87,[pI 0,pS s_,pS s_,pI 0,pI 0,pS s_,.nil,.nil,.nil]⟩],[⟨87,9,aG.trs (v5),false⟩]⟩⟩) (fun v5=>⟨[(1,.ptr 0 0),(2,.ptr 1 0),(3,QM v5 0)],⟨[some ⟨87,[pI pa0.gKind,pS pa0.gTrait,pS pa0.gName,pI pa0.gN,pI pa0.gType.gKind,pS pa0.gType.gName,a3 x2,f9 pa0.gArgs,m3 pa0.gArms]⟩,some ⟨87,[pI 0,pS s_,pS s_,pI 0,pI 0,pS s_,.nil,.nil,.nil]⟩],[⟨87,9,aG.trs (v5),false⟩]⟩⟩) (f8 H) ?_ ?_
 ·rintro i3 v5 H
  iterate 2 refine qS ?_
  refine qR (q1 aE (q1 (a6 iG) (q1 (bD tW) (q1 (eB mA (aG.trs_len _)) (q1 gP (qN ?_))))))
  refine dT H (fun h7 h7l H=>?_) (fun h7 H=>?_)
  ·have h7n:=a8 h7
   refine aQ.skip (qS (aQ.block (qR (q1 aE (q1 (a6 iG) (q1 (bD tW) (q1 aE (gL H fun y8 h9 H=>(q1 (vT h9 h7n mA) (q1 (jW (aG.cs y8) gY) (bN H fun x11 z10 H=>(q1 (bG Tryz.func113 (h_sl11Copy y8 _ z10)) (q1 (hH ([x11]:List aG) mA kB) ?_)))))))))))))
   refine cX H fun z12 H=>(q1 (kX z12 mA an9) (q1 aE (qN (qR (q1 aE (q1 (aX.addI rfl rfl rfl rfl (c:=((i3+1:Nat):Int)) (by omega) (by omega)) (q1 aE (qN ?_))))))))
   exact iK h7l ⟨_,(aZ H:),b0⟩
  refine aQ.exit ?_;exact j0 ⟨_,H,b0⟩
 rintro v5 H
 refine qS (qR (q1 (qZ ([]:List bK) nM PM) (q1 aE (qN ?_))))
 iterate 2 refine qS ?_
 refine qR (q1 aE (qN ?_))
 refine aQ.fact (cE 0 8 rfl rfl rfl (bK.trs_len _)) (fun hl16=>?_)
 refine b9 (σ:=(List bK)) (fun i13 v15=>⟨[(1,.ptr 0 0),(2,.ptr 1 0),(3,QM v5 0),(5,ah5 v15 1),(6,pN i13)],⟨[some ⟨87,[pI pa0.gKind,pS pa0.gTrait,pS pa0.gName,pI pa0.gN,pI pa0.gType.gKind,pS pa0.gType.gName,a3 x2,f9 pa0.gArgs,m3 pa0.gArms]⟩,some ⟨87,[pI 0,pS s_,pS s_,pI 0,pI 0,pS s_,.nil,.nil,.nil]⟩],[⟨87,9,aG.trs (v5),false⟩,⟨92,11,bK.trs (v15),false⟩]⟩⟩) (fun v15=>⟨[(1,.ptr 0 0),(2,.ptr 1 0),(3,QM v5 0),(5,ah5 v15 1)],⟨[some ⟨87,[pI pa0.gKind,pS pa0.gTrait,pS pa0.gName,pI pa0.gN,pI pa0.gType.gKind,pS pa0.gType.gName,a3 x2,f9 pa0.gArgs,m3 pa0.gArms]⟩,some ⟨87,[pI 0,pS s_,pS s_,pI 0,pI 0,pS s_,.nil,.nil,.nil]⟩],[⟨87,9,aG.trs (v5),false⟩,⟨92,11,bK.trs (v15),false⟩]⟩⟩) (f8 H) ?_ ?_
 ·rintro i13 v15 H
  iterate 2 refine qS ?_
  refine qR (q1 aE (q1 (a6 fR) (q1 (bD qG) (q1 (eB nM (bK.trs_len _)) (q1 gP (qN ?_))))))
  refine dT H (fun h17 h17l H=>?_) (fun h17 H=>?_)
  ·have h17n:=a8 h17
   refine aQ.skip (qS (aQ.block (gL H fun y18 h19 H=>(cX H fun z20 H=>(bN H fun x22 z21 H=>(cX H fun z23 H=>(dW (dI [5] aE (dI [1] (a6 fR) (dB [45] 0 2 (uI qG) (dI [6] aE (dI [46,47] (vT h19 h17n nM) (dI [48] (nK BA) ?_)))))))))))))
   refine dI [49] (mC eE) (dE [] (qZ ([]:List ByteArray) bU kG) (dI [1] (a6 fR) (dB [52] 0 1 (uI qG) (dI [6] aE (dI [53,54] (vT h19 h17n nM) (dI [55] (nK BB) (dI [56] (mC jC) (dE [51,57] (kX z20 bU qH) (dI [1] (a6 fR) (dB [59] 0 2 (uI qG) (dI [6] aE (dI [60,61] (vT h19 h17n nM) (dI [62] (nK HR) ?_)))))))))))))
   refine dI [63] (jW (aG.cs y18.gBody) gY) (dI [64] (bG Tryz.func113 (h_sl11Copy y18.gBody _ z21)) (dI [50,58,65] (eU PM akV) (dI [66] (hH ([(bK.mk y18.gConstructor (([])++y18.gVars) x22)]:List bK) nM PM) (dE [44,67] (kX z23 nM apG) (dI [68] aE (dN (qR (q1 aE (q1 (aX.addI rfl rfl rfl rfl (c:=((i13+1:Nat):Int)) (by omega) (by omega)) (q1 aE (qN ?_)))))))))))
   exact iK h17l ⟨_,(aZ H:),b0⟩
  refine aQ.exit ?_;exact j0 ⟨_,H,b0⟩
 rintro v15 H
 refine qS (qR (q1 aE (q1 (a6 iG) (q1 (bR apU) (qN (qS (qR (q1 aE (q1 (a6 fR) (q1 (bR ao7) (qN (qS (qR ?_)))))))))))))
 refine q1 (cU [pI pa0.gKind,pS pa0.gTrait,pS pa0.gName,pI pa0.gN,pI pa0.gType.gKind,pS pa0.gType.gName,a3 x2,QM v5 0,ah5 v15 1] gY) (q1 (bR p7) (qN (aQ.ret ?_)))
 cases aZ H
 exact bL (hr:=⟨⟨_,_,_,rfl,rfl,gY,rfl,rfl⟩,trivial⟩)
def l0:Nat→aG→Option aG
 |0,_=>none
 |fu+1,pa0=>I0 fu (l0 fu) pa0
theorem XP(fu:Nat):BT (l0 fu):=by
 induction fu with
 |zero=>exact(fun pa0 r H=>by simp only [l0] at H;cases H)
 |succ fu ih=>exact(fun pa0 r H=>by simp only [l0] at H;exact UL fu (l0 fu) ih pa0 r H)
theorem abC(fu:Nat):BT (l0 fu):=(XP fu)
def X1(m:(List aF)→Option ((List aF))):Prop:= ∀(plist:List aF) (r:(List aF)),m plist=some r→b4 Tryz.prog 128 [cG plist] (cG r:PV)
def US(fu:Nat)(plist:List aF):Nat→((List aF))→Option (LR ((List aF)) ((List aF))):=
 fun i1 v3=>bd (fF fu ((aW plist i1).gType)) (fun x7=>
 gd ((v3).length+(([(aF.mk ((aW plist i1).gTrait) x7)]:List aF)).length≤68719476736)
 (some (.next (v3++([(aF.mk ((aW plist i1).gTrait) x7)]:List aF)))))
def UT(fu:Nat)(plist:List aF):Option (((List aF))⊕((List aF))):=
 loopN (US fu plist) (plist.length-0) 0 ([])
def BZ(fu:Nat)(plist:List aF):Option ((List aF)):=
 so (UT fu plist) (fun v3=>
 some v3)
theorem UU(fu:Nat):X1 (BZ fu):=by
 intro plist r H
 have H:=eF H
 refine qI Tryz.func128 (fun C hC=>?_)
 refine qS (qR (q1 aE (qN (qS (qR (q1 (qZ ([]:List aF) mR xW) (q1 aE (qN ?_))))))))
 iterate 2 refine qS ?_
 refine qR (q1 aE (qN ?_))
 refine j8 0 (aF.trs_len _) (fun hl4=>?_)
 refine b9 (σ:=(List aF)) (fun i1 v3=>⟨[(0,cG plist),(2,.nil),(3,LQ v3 0),(4,pN i1)],⟨[],[⟨37,4,aF.trs (v3),false⟩]⟩⟩) (fun v3=>⟨[(2,.nil),(3,LQ v3 0)],⟨[],[⟨37,4,aF.trs (v3),false⟩]⟩⟩) (f8 H) ?_ ?_
 ·rintro i1 v3 H
  iterate 2 refine qS ?_
  refine qR ?_
  iterate 2 refine q1 aE ?_
  refine q1 (eB mR (aF.trs_len _)) (q1 gP (qN ?_))
  refine dT H (fun h5 h5l H=>?_) (fun h5 H=>?_)
  ·have h5n:=a8 h5
   refine aQ.skip (qS (aQ.block (bN H fun x7 z6 H=>(cX H fun z8 H=>(dW (dI [3] aE (dI [0] aE (dI [4] aE (dI [13,14] (gV h5n mR) (dI [15] (nK u6) (dI [16] (mC eE) (dI [0] aE (dI [4] aE ?_)))))))))))))
   refine dI [18,19] (gV h5n mR) (dI [20] (nK rA) (dI [21] (jW (aA.cs ((aW plist i1).gType)) bZ) (dI [22] (bG Tryz.func60 (xT fu ((aW plist i1).gType) _ z6)) (dI [17,23] (eU xW OV) (dI [24] (hH ([(aF.mk ((aW plist i1).gTrait) x7)]:List aF) mR xW) (dE [12,25] (kX z8 mR amV) (dI [26] aE (dN (qR (q1 aE (q1 (aX.addI rfl rfl rfl rfl (c:=((i1+1:Nat):Int)) (by omega) (by omega)) (q1 aE (qN ?_)))))))))))))
   exact iK h5l ⟨_,(aZ H:),b0⟩
  refine aQ.exit ?_;exact j0 ⟨_,H,b0⟩
 rintro v3 H
 refine qS (qR ?_)
 iterate 2 refine q1 aE ?_
 refine qN (aQ.ret ?_)
 cases aZ H
 exact bL
def afT(m:aH→Option aH):Prop:= ∀(px:aH) (r:aH),m px=some r→b4 Tryz.prog 78 [(aH.pv px)] ((aH.pv r):PV)
def EB(fu:Nat)(px:aH):Nat→((List aP))→Option (LR ((List aP)) aH):=
 fun i1 v3=>lt (aW px.gMethods i1) (fun y6=>
 gd (([]:List ByteArray).length+(y6.gVars).length≤68719476736)
 (bd (l0 fu y6.gBody) (fun x10=>
 gd ((v3).length+(([(aP.mk y6.gName (([])++y6.gVars) x10)]:List aP)).length≤68719476736)
 (some (.next (v3++([(aP.mk y6.gName (([])++y6.gVars) x10)]:List aP)))))))
def EC(fu:Nat)(px:aH):Option (aH⊕((List aP))):=
 loopN (EB fu px) (px.gMethods.length-0) 0 ([])
def pJ(fu:Nat)(px:aH):Option aH:=
 so (EC fu px) (fun v3=>
 gd (([]:List ByteArray).length+(px.gVars).length≤68719476736)
 (bd (fF fu px.gHead) (fun x14=>
 bd (BZ fu px.gWhere) (fun x16=>
 bd (fF fu px.gAssoc) (fun x18=>
 some (aH.mk px.gTrait (([])++px.gVars) x14 x16 px.gDefault px.gHasAssoc x18 v3))))))
theorem acY(fu:Nat):afT (pJ fu):=by
 intro px r H
 have H:=eF H
 refine qI Tryz.func78 (fun C hC=>?_)
 refine qS (qR (q1 (jP (jO px)) (q1 (gM u4) (qN (qS (qR (q1 (qZ ([]:List aP) JT G5) (q1 aE (qN ?_)))))))))
 iterate 2 refine qS ?_
 refine qR (q1 aE (qN ?_))
 refine aQ.fact (cE 0 11 rfl rfl rfl (aP.trs_len _)) (fun hl4=>?_)
 refine b9 (σ:=(List aP)) (fun i1 v3=>⟨[(1,.ptr 0 0),(2,.ptr 1 0),(3,A4 v3 0),(4,pN i1)],⟨[some ⟨55,jO px⟩,some ⟨55,[pS s_,.nil,pI 0,pS s_,.nil,.nil,pB false,pB false,pI 0,pS s_,.nil,.nil]⟩],[⟨161,11,aP.trs (v3),false⟩]⟩⟩) (fun v3=>⟨[(1,.ptr 0 0),(2,.ptr 1 0),(3,A4 v3 0)],⟨[some ⟨55,jO px⟩,some ⟨55,[pS s_,.nil,pI 0,pS s_,.nil,.nil,pB false,pB false,pI 0,pS s_,.nil,.nil]⟩],[⟨161,11,aP.trs (v3),false⟩]⟩⟩) (f8 H) ?_ ?_
 ·rintro i1 v3 H
  iterate 2 refine qS ?_
  refine qR (q1 aE (q1 (a6 w9) (q1 (bD XO) (q1 (eB JT (aP.trs_len _)) (q1 gP (qN ?_))))))
  refine dT H (fun h5 h5l H=>?_) (fun h5 H=>?_)
  ·have h5n:=a8 h5
   refine aQ.skip (qS (aQ.block (qS (qR (q1 (a6 w9) (q1 (bD XO) (q1 aE (gL H fun y6 h7 H=>(q1 (vT h7 h5n JT) (q1 (jW (aP.cs y6) ak1) (q1 (gM G5) (q1 (bR alP) (qN ?_)))))))))))))
   refine cX H fun z8 H=>(bN H fun x10 z9 H=>(cX H fun z11 H=>(dW (dI [3] aE (dI [5] (a6 WT) (dB [20] 0 2 (uI eE) (dE [] (qZ ([]:List ByteArray) bU kG) (dI [5] (a6 ER) (dB [23] 0 1 (uI jC) (dE [22,24] (kX z8 bU qH) (dI [5] (a6 PT) (dB [26] 0 2 (TG [pI y6.gBody.gKind,pS y6.gBody.gTrait,pS y6.gBody.gName,pI y6.gBody.gN,pI y6.gBody.gType.gKind,pS y6.gBody.gType.gName,a3 y6.gBody.gType.gArgs,f9 y6.gBody.gArgs,m3 y6.gBody.gArms] gY) (dI [27] (bG Tryz.func113 (abC fu y6.gBody _ z9)) ?_)))))))))))))
   refine dI [21,25,28] (eU G5 akS) (dI [29] (hH ([(aP.mk y6.gName (([])++y6.gVars) x10)]:List aP) JT G5) (dE [19,30] (kX z11 JT apE) (dI [31] aE (dN (qR (q1 aE (q1 (aX.addI rfl rfl rfl rfl (c:=((i1+1:Nat):Int)) (by omega) (by omega)) (q1 aE (qN ?_)))))))))
   exact iK h5l ⟨_,(aZ H:),b0⟩
  refine aQ.exit ?_;exact j0 ⟨_,H,b0⟩
 rintro v3 H
 refine qS (qR (q1 aE (q1 (a6 w9) (q1 (bR ao6) (qN (qS (qR (q1 (qZ ([]:List ByteArray) bU kG) (q1 (a6 rB) (q1 (bD jC) (cX H fun z12 H=>(q1 (kX z12 bU qH) (q1 (a6 rB) ?_)))))))))))))
 refine q1 (bR NP) (qN (qS (qR (q1 (a6 rC) (q1 (cU [pI px.gHead.gKind,pS px.gHead.gName,a3 px.gHead.gArgs] bZ) (bN H fun x14 z13 H=>(q1 (bG Tryz.func60 (xT fu px.gHead _ z13)) (q1 (a6 rC) (q1 (bR eS) (qN (qS (qR (q1 (a6 DB) ?_)))))))))))))
 refine q1 (bD aeT) (bN H fun x16 z15 H=>(q1 (bG Tryz.func128 (UU fu px.gWhere _ z15)) (q1 (a6 DB) (q1 (bR amR) (qN (qS (qR (q1 (a6 w8) (q1 (cU [pI px.gAssoc.gKind,pS px.gAssoc.gName,a3 px.gAssoc.gArgs] bZ) (bN H fun x18 z17 H=>(q1 (bG Tryz.func60 (xT fu px.gAssoc _ z17)) (q1 (a6 w8) (q1 (bR eS) ?_)))))))))))))
 refine qN (qS (qR (q1 (cU [pS px.gTrait,aS (([])++px.gVars) 1,pI x14.gKind,pS x14.gName,a3 x14.gArgs,cG x16,pB px.gDefault,pB px.gHasAssoc,pI x18.gKind,pS x18.gName,a3 x18.gArgs,A4 v3 0] n9) (q1 (bR s8) (qN (aQ.ret ?_))))))
 cases aZ H
 exact bL (hr:=⟨⟨_,_,_,rfl,rfl,n9,rfl,rfl⟩,trivial⟩)
def UA(m:aI→aO→Option (aH×Bool)):Prop:= ∀(pw:aI) (po:aO) (r:aH×Bool),m pw po=some r→b4 Tryz.prog 26 [(aI.pv pw),(aO.pv po)] (.tup [(aH.pv r.1),pB r.2]:PV)
def zI(fu:Nat)(pw:aI)(po:aO):Option (aH×Bool):=
 bd (nH fu pw po) (fun(x2,x3)=>
 bd (pJ fu x2) (fun x5=>
 some (x5,x3)))
theorem RZ(fu:Nat):UA (zI fu):=by
 intro pw po r H
 have H:=eF H
 refine qI Tryz.func26 (fun C hC=>?_)
 refine qS (qR (q1 (jP ([bC pw.gPackages])) (q1 (jP ([pI po.gPackage,pI po.gAt])) (q1 (gM u4) (q1 aE (qN (qS (qR (q1 (cU [bC pw.gPackages] nB) (q1 (cU [pI po.gPackage,pI po.gAt] XN) (eT H fun x2 x3 z1 H=>(q1 (bG Tryz.func77 (G2 fu pw po _ z1)) (q1 aE ?_)))))))))))))
 iterate 2 refine q1 uB ?_
 refine q1 (gM u4) (q1 (bR s8) (q1 aE (qN (qS (qR (q1 (cU [pS x2.gTrait,rS x2.gVars,pI x2.gHead.gKind,pS x2.gHead.gName,a3 x2.gHead.gArgs,cG x2.gWhere,pB x2.gDefault,pB x2.gHasAssoc,pI x2.gAssoc.gKind,pS x2.gAssoc.gName,a3 x2.gAssoc.gArgs,kR x2.gMethods] n9) (bN H fun x5 z4 H=>(q1 (bG Tryz.func78 (acY fu x2 _ z4)) (q1 aE (q1 (bR s8) (q1 aE (qN (aQ.ret ?_)))))))))))))
 cases aZ H
 exact jM (hr:=⟨⟨_,_,_,rfl,rfl,n9,rfl,rfl⟩,rfl,trivial⟩)
def anW(m:(List UInt8)→Option Bool):Prop:= ∀(pcode:List UInt8) (r:Bool),m pcode=some r→b4 Tryz.prog 10 [rU pcode] (pB r:PV)
def RB(fu:Nat)(pcode:List UInt8):Option Bool:=
 some (decide ((pcode.length:Int)>1048576))
theorem ahB(fu:Nat):anW (RB fu):=by
 intro pcode r H
 have H:=eF H
 refine qI Tryz.func10 (fun C hC=>?_)
 refine qS (qR (q1 aE (qN (qS (qR (q1 aE (q1 (eB Z9 (gG _)) (q1 KN (q1 aE (qN (aQ.ret ?_)))))))))))
 cases aZ H
 exact bL
end
end Go.Proofs.YtpioomclpaiomaaGreat.W

namespace Go.Proofs.YtpioomclpaiomaaGreat
set_option linter.unusedSimpArgs false
set_option linter.unusedVariables false
open Go.RowKit
theorem iB: ∀(a b:List Tr),Tr.bulkL (a++b)=Tr.bulkL a+Tr.bulkL b
 | [],b=>by simp [Tr.bulkL]
 |t::a,b=>by simp [Tr.bulkL,iB a b,Nat.add_assoc]
theorem amQ:Tr.bulkAll (a4 [])=0:=rfl
theorem alO(a:ByteArray)(l:List ByteArray):Tr.bulkAll (a4 (a::l))=a.size+Tr.bulkAll (a4 l):=by simp [a4,Tr.bulkAll,Tr.bulkL,Tr.bulk]
theorem aA.bk_mk(v0:Int)(v1:ByteArray)(v2:List aA):Tr.bulkL (aA.tr (.mk v0 v1 v2))=v1.size+(v2.length+Tr.bulkAll (aA.trs v2)):=by
 simp only [aA.tr,iB,Tr.bulkL,Tr.bulk,a9,gE,fH,aA.trs_len]
 first|done|omega
theorem aA.bks_nil:Tr.bulkAll (aA.trs [])=0:=by simp [aA.trs_map,Tr.bulkAll]
theorem aA.bks_cons(a:aA)(l:List aA):Tr.bulkAll (aA.trs (a::l))=Tr.bulkL (aA.tr a)+Tr.bulkAll (aA.trs l):=by simp [aA.trs_map,Tr.bulkAll]
theorem aG.bk_mk(v0:Int)(v1:ByteArray)(v2:ByteArray)(v3:Int)(v4:aA)(v5:List aG)(v6:List bK):Tr.bulkL (aG.tr (.mk v0 v1 v2 v3 v4 v5 v6))=v1.size+v2.size+Tr.bulkL (aA.tr v4)+(v5.length+Tr.bulkAll (aG.trs v5))+(v6.length+Tr.bulkAll (bK.trs v6)):=by
 simp only [aG.tr,iB,Tr.bulkL,Tr.bulk,a9,gE,fH,aG.trs_len,bK.trs_len]
 first|done|omega
theorem aG.bks_nil:Tr.bulkAll (aG.trs [])=0:=by simp [aG.trs_map,Tr.bulkAll]
theorem aG.bks_cons(a:aG)(l:List aG):Tr.bulkAll (aG.trs (a::l))=Tr.bulkL (aG.tr a)+Tr.bulkAll (aG.trs l):=by simp [aG.trs_map,Tr.bulkAll]
theorem bK.bk_mk(v0:ByteArray)(v1:List ByteArray)(v2:aG):Tr.bulkL (bK.tr (.mk v0 v1 v2))=v0.size+(v1.length+Tr.bulkAll (a4 v1))+Tr.bulkL (aG.tr v2):=by
 simp only [bK.tr,iB,Tr.bulkL,Tr.bulk,a9,gE,fH]
 first|done|omega
theorem bK.bks_nil:Tr.bulkAll (bK.trs [])=0:=by simp [bK.trs_map,Tr.bulkAll]
theorem bK.bks_cons(a:bK)(l:List bK):Tr.bulkAll (bK.trs (a::l))=Tr.bulkL (bK.tr a)+Tr.bulkAll (bK.trs l):=by simp [bK.trs_map,Tr.bulkAll]
theorem aF.bk_mk(v0:ByteArray)(v1:aA):Tr.bulkL (aF.tr (.mk v0 v1))=v0.size+Tr.bulkL (aA.tr v1):=by
 simp only [aF.tr,iB,Tr.bulkL,Tr.bulk,a9,gE,fH]
 first|done|omega
theorem aF.bks_nil:Tr.bulkAll (aF.trs [])=0:=by simp [aF.trs_map,Tr.bulkAll]
theorem aF.bks_cons(a:aF)(l:List aF):Tr.bulkAll (aF.trs (a::l))=Tr.bulkL (aF.tr a)+Tr.bulkAll (aF.trs l):=by simp [aF.trs_map,Tr.bulkAll]
theorem aU.bk_mk(v0:ByteArray)(v1:aA):Tr.bulkL (aU.tr (.mk v0 v1))=v0.size+Tr.bulkL (aA.tr v1):=by
 simp only [aU.tr,iB,Tr.bulkL,Tr.bulk,a9,gE,fH]
 first|done|omega
theorem aU.bks_nil:Tr.bulkAll (aU.trs [])=0:=by simp [aU.trs_map,Tr.bulkAll]
theorem aU.bks_cons(a:aU)(l:List aU):Tr.bulkAll (aU.trs (a::l))=Tr.bulkL (aU.tr a)+Tr.bulkAll (aU.trs l):=by simp [aU.trs_map,Tr.bulkAll]
theorem aP.bk_mk(v0:ByteArray)(v1:List ByteArray)(v2:aG):Tr.bulkL (aP.tr (.mk v0 v1 v2))=v0.size+(v1.length+Tr.bulkAll (a4 v1))+Tr.bulkL (aG.tr v2):=by
 simp only [aP.tr,iB,Tr.bulkL,Tr.bulk,a9,gE,fH]
 first|done|omega
theorem aP.bks_nil:Tr.bulkAll (aP.trs [])=0:=by simp [aP.trs_map,Tr.bulkAll]
theorem aP.bks_cons(a:aP)(l:List aP):Tr.bulkAll (aP.trs (a::l))=Tr.bulkL (aP.tr a)+Tr.bulkAll (aP.trs l):=by simp [aP.trs_map,Tr.bulkAll]
theorem aC.bk_mk(v0:ByteArray)(v1:List aA):Tr.bulkL (aC.tr (.mk v0 v1))=v0.size+(v1.length+Tr.bulkAll (aA.trs v1)):=by
 simp only [aC.tr,iB,Tr.bulkL,Tr.bulk,a9,gE,fH,aA.trs_len]
 first|done|omega
theorem aC.bks_nil:Tr.bulkAll (aC.trs [])=0:=by simp [aC.trs_map,Tr.bulkAll]
theorem aC.bks_cons(a:aC)(l:List aC):Tr.bulkAll (aC.trs (a::l))=Tr.bulkL (aC.tr a)+Tr.bulkAll (aC.trs l):=by simp [aC.trs_map,Tr.bulkAll]
theorem aD.bk_mk(v0:ByteArray)(v1:List aA)(v2:aA)(v3:Bool)(v4:List ByteArray)(v5:aG):Tr.bulkL (aD.tr (.mk v0 v1 v2 v3 v4 v5))=v0.size+(v1.length+Tr.bulkAll (aA.trs v1))+Tr.bulkL (aA.tr v2)+(v4.length+Tr.bulkAll (a4 v4))+Tr.bulkL (aG.tr v5):=by
 simp only [aD.tr,iB,Tr.bulkL,Tr.bulk,a9,gE,fH,aA.trs_len]
 first|done|omega
theorem aD.bks_nil:Tr.bulkAll (aD.trs [])=0:=by simp [aD.trs_map,Tr.bulkAll]
theorem aD.bks_cons(a:aD)(l:List aD):Tr.bulkAll (aD.trs (a::l))=Tr.bulkL (aD.tr a)+Tr.bulkAll (aD.trs l):=by simp [aD.trs_map,Tr.bulkAll]
theorem aT.bk_mk(v0:ByteArray)(v1:List ByteArray)(v2:Bool)(v3:Bool)(v4:List aD):Tr.bulkL (aT.tr (.mk v0 v1 v2 v3 v4))=v0.size+(v1.length+Tr.bulkAll (a4 v1))+(v4.length+Tr.bulkAll (aD.trs v4)):=by
 simp only [aT.tr,iB,Tr.bulkL,Tr.bulk,a9,gE,fH,aD.trs_len]
 first|done|omega
theorem aT.bks_nil:Tr.bulkAll (aT.trs [])=0:=by simp [aT.trs_map,Tr.bulkAll]
theorem aT.bks_cons(a:aT)(l:List aT):Tr.bulkAll (aT.trs (a::l))=Tr.bulkL (aT.tr a)+Tr.bulkAll (aT.trs l):=by simp [aT.trs_map,Tr.bulkAll]
theorem aN.bk_mk(v0:ByteArray)(v1:List ByteArray)(v2:List aC):Tr.bulkL (aN.tr (.mk v0 v1 v2))=v0.size+(v1.length+Tr.bulkAll (a4 v1))+(v2.length+Tr.bulkAll (aC.trs v2)):=by
 simp only [aN.tr,iB,Tr.bulkL,Tr.bulk,a9,gE,fH,aC.trs_len]
 first|done|omega
theorem aN.bks_nil:Tr.bulkAll (aN.trs [])=0:=by simp [aN.trs_map,Tr.bulkAll]
theorem aN.bks_cons(a:aN)(l:List aN):Tr.bulkAll (aN.trs (a::l))=Tr.bulkL (aN.tr a)+Tr.bulkAll (aN.trs l):=by simp [aN.trs_map,Tr.bulkAll]
theorem aH.bk_mk(v0:ByteArray)(v1:List ByteArray)(v2:aA)(v3:List aF)(v4:Bool)(v5:Bool)(v6:aA)(v7:List aP):Tr.bulkL (aH.tr (.mk v0 v1 v2 v3 v4 v5 v6 v7))=v0.size+(v1.length+Tr.bulkAll (a4 v1))+Tr.bulkL (aA.tr v2)+(v3.length+Tr.bulkAll (aF.trs v3))+Tr.bulkL (aA.tr v6)+(v7.length+Tr.bulkAll (aP.trs v7)):=by
 simp only [aH.tr,iB,Tr.bulkL,Tr.bulk,a9,gE,fH,aF.trs_len,aP.trs_len]
 first|done|omega
theorem aH.bks_nil:Tr.bulkAll (aH.trs [])=0:=by simp [aH.trs_map,Tr.bulkAll]
theorem aH.bks_cons(a:aH)(l:List aH):Tr.bulkAll (aH.trs (a::l))=Tr.bulkL (aH.tr a)+Tr.bulkAll (aH.trs l):=by simp [aH.trs_map,Tr.bulkAll]
theorem aM.bk_mk(v0:ByteArray)(v1:List ByteArray)(v2:List aF)(v3:List aU)(v4:aA)(v5:aG):Tr.bulkL (aM.tr (.mk v0 v1 v2 v3 v4 v5))=v0.size+(v1.length+Tr.bulkAll (a4 v1))+(v2.length+Tr.bulkAll (aF.trs v2))+(v3.length+Tr.bulkAll (aU.trs v3))+Tr.bulkL (aA.tr v4)+Tr.bulkL (aG.tr v5):=by
 simp only [aM.tr,iB,Tr.bulkL,Tr.bulk,a9,gE,fH,aF.trs_len,aU.trs_len]
 first|done|omega
theorem aM.bks_nil:Tr.bulkAll (aM.trs [])=0:=by simp [aM.trs_map,Tr.bulkAll]
theorem aM.bks_cons(a:aM)(l:List aM):Tr.bulkAll (aM.trs (a::l))=Tr.bulkL (aM.tr a)+Tr.bulkAll (aM.trs l):=by simp [aM.trs_map,Tr.bulkAll]
theorem aL.bk_mk(v0:ByteArray)(v1:List ByteArray)(v2:List aT)(v3:List aN)(v4:List aH)(v5:List aM):Tr.bulkL (aL.tr (.mk v0 v1 v2 v3 v4 v5))=v0.size+(v1.length+Tr.bulkAll (a4 v1))+(v2.length+Tr.bulkAll (aT.trs v2))+(v3.length+Tr.bulkAll (aN.trs v3))+(v4.length+Tr.bulkAll (aH.trs v4))+(v5.length+Tr.bulkAll (aM.trs v5)):=by
 simp only [aL.tr,iB,Tr.bulkL,Tr.bulk,a9,gE,fH,aT.trs_len,aN.trs_len,aH.trs_len,aM.trs_len]
 first|done|omega
theorem aL.bks_nil:Tr.bulkAll (aL.trs [])=0:=by simp [aL.trs_map,Tr.bulkAll]
theorem aL.bks_cons(a:aL)(l:List aL):Tr.bulkAll (aL.trs (a::l))=Tr.bulkL (aL.tr a)+Tr.bulkAll (aL.trs l):=by simp [aL.trs_map,Tr.bulkAll]
theorem aI.bk_mk(v0:List aL):Tr.bulkL (aI.tr (.mk v0))=(v0.length+Tr.bulkAll (aL.trs v0)):=by
 simp only [aI.tr,iB,Tr.bulkL,Tr.bulk,a9,gE,fH,aL.trs_len]
 first|done|omega
theorem aB.bk_mk(v0:ByteArray)(v1:List aB):Tr.bulkL (aB.tr (.mk v0 v1))=v0.size+(v1.length+Tr.bulkAll (aB.trs v1)):=by
 simp only [aB.tr,iB,Tr.bulkL,Tr.bulk,a9,gE,fH,aB.trs_len]
 first|done|omega
theorem aB.bks_nil:Tr.bulkAll (aB.trs [])=0:=by simp [aB.trs_map,Tr.bulkAll]
theorem aB.bks_cons(a:aB)(l:List aB):Tr.bulkAll (aB.trs (a::l))=Tr.bulkL (aB.tr a)+Tr.bulkAll (aB.trs l):=by simp [aB.trs_map,Tr.bulkAll]
end Go.Proofs.YtpioomclpaiomaaGreat

namespace Go.Proofs.YtpioomclpaiomaaGreat
set_option linter.unusedSimpArgs false
set_option linter.unusedVariables false
open Go.RowKit Go.WalkArith Go.IntWalk
def Ok{α:Type}(o:Option α)(P:α→Prop):Prop:= ∃a,o=some a∧P a
theorem Ok.some{α:Type}{P:α→Prop}{a:α}(h:P a):Ok (Option.some a) P:=⟨a,rfl,h⟩
theorem Ok.mono{α:Type}{P Q:α→Prop}{o:Option α}(h:Ok o P)(k: ∀a,P a→Q a):Ok o Q:=by
 obtain⟨a,e,h⟩:=h
 exact⟨a,e,k a h⟩
theorem Ok.bd{α β:Type}{o:Option α}{f:α→Option β}{Q:α→Prop}{P:β→Prop}(h:Ok o Q)(k: ∀a,Q a→Ok (f a) P):Ok (bd o f) P:=by
 obtain⟨a,rfl,h⟩:=h
 exact k a h
theorem Ok.sw{α:Type}{c:Bool}{a b:Option α}{P:α→Prop}(ht:c=true→Ok a P)(hf:c=false→Ok b P):Ok (sw c a b) P:=by
 cases c
 ·exact hf rfl
 ·exact ht rfl
theorem Ok.gd{α:Type}{g:Prop}{a:Option α}{P:α→Prop}(h:g)(k:Ok a P):Ok (gd g a) P:=by
 rw [qX h rfl]
 exact k
theorem Ok.so{σ β:Type}{o:Option (β⊕σ)}{f:σ→Option β}{Q:β⊕σ→Prop}{P:β→Prop}(h:Ok o Q)(k1: ∀x,Q (.inl x)→P x)(k2: ∀s,Q (.inr s)→Ok (f s) P):Ok (so o f) P:=by
 obtain⟨a,rfl,h⟩:=h
 cases a with
 |inl x=>exact⟨x,rfl,k1 x h⟩
 |inr s=>exact k2 s h
theorem Ok.lt{α β:Type}{x:α}{f:α→Option β}{P:β→Prop}(k: ∀y,y=x→Ok (f y) P):Ok (lt x f) P:=k x rfl
theorem DS.pick_mem(d:DS){l:List ByteArray}(h:0<l.length):d.pick l∈l:=by
 rw [DS.pick_eq (d.below_lt h)]
 exact List.getElem_mem _
theorem DS.pick_size(d:DS){l:List ByteArray}{k:Nat}(h:0<l.length)(hs: ∀v∈l,v.size≤k):(d.pick l).size≤k:=hs _ (d.pick_mem h)
def PS{σ β:Type}(Q:β→Prop)(E:σ→Prop):β⊕σ→Prop
 | .inl x=>Q x
 | .inr s=>E s
def PL{σ β:Type}(Q:β→Prop)(N E:σ→Prop):LR σ β→Prop
 | .next s=>N s
 | .brk s=>E s
 | .ret x=>Q x
theorem Ok.gdk{α:Type}{g:Prop}{a:Option α}{P:α→Prop}(h:g)(k:g→Ok a P):Ok (Go.Proofs.YtpioomclpaiomaaGreat.gd g a) P:=Ok.gd h (k h)
theorem Ok.sok{σ β:Type}{o:Option (β⊕σ)}{f:σ→Option β}{P:β→Prop}{E:σ→Prop}(h:Ok o (PS P E))(k: ∀s,E s→Ok (f s) P):Ok (Go.Proofs.YtpioomclpaiomaaGreat.so o f) P:=Ok.so h (fun _ hx=>hx) k
theorem Ok.loopN{σ β:Type}{f:Nat→σ→Option (LR σ β)}{n:Nat}{Q:β→Prop}{E:σ→Prop}(I:Nat→σ→Prop)(hE: ∀i s,n≤i→I i s→E s)(hs: ∀i s,i<n→I i s→Ok (f i s) (PL Q (I (i+1)) E)):
 ∀(k i:Nat) (s:σ),n-i=k→I i s→Ok (Go.Proofs.YtpioomclpaiomaaGreat.loopN f (n-i) i s) (PS Q E)
 |0,i,s,hk,hi=>by rw [AM (by omega)];exact Ok.some (hE i s (by omega) hi)
 |k+1,i,s,hk,hi=>by
  have hlt:i<n:=by omega
  obtain⟨r,hr,hp⟩:=hs i s hlt hi
  cases r with
  |next s'=>rw [xH hlt hr];exact Ok.loopN I hE hs k (i+1) s' (by omega) hp
  |brk s'=>rw [aiP hlt hr];exact Ok.some hp
  |ret x=>rw [EZ hlt hr];exact Ok.some hp
theorem Ok.loopN0{σ β:Type}{f:Nat→σ→Option (LR σ β)}{n i:Nat}{s:σ}{Q:β→Prop}{E:σ→Prop}(I:Nat→σ→Prop)(h0:I i s)(hE: ∀i s,n≤i→I i s→E s)(hs: ∀i s,i<n→I i s→Ok (f i s) (PL Q (I (i+1)) E)):Ok (Go.Proofs.YtpioomclpaiomaaGreat.loopN f (n-i) i s) (PS Q E):=
 Ok.loopN I hE hs (n-i) i s rfl h0
theorem Ok.loopW{σ β:Type}{f:σ→Option (LR σ β)}{Q:β→Prop}{E:σ→Prop}(I:σ→Prop)(μ:σ→Nat)(hs: ∀s,I s→Ok (f s) (PL Q (fun s'=>I s'∧μ s'<μ s) E)):
 ∀(k:Nat) (s:σ),μ s<k→I s→Ok (Go.Proofs.YtpioomclpaiomaaGreat.loopW f k s) (PS Q E)
 |0,s,hk,_=>absurd hk (Nat.not_lt_zero _)
 |k+1,s,hk,hi=>by
  obtain⟨r,hr,hp⟩:=hs s hi
  unfold Go.Proofs.YtpioomclpaiomaaGreat.loopW
  rw [hr]
  cases r with
  |next s'=>exact Ok.loopW I μ hs k s' (by have:=hp.2;omega) hp.1
  |brk s'=>exact Ok.some hp
  |ret x=>exact Ok.some hp
theorem bY.ge(k:Nat):bY fun fu=>k≤fu:=⟨k,fun _ h=>h⟩
end Go.Proofs.YtpioomclpaiomaaGreat

namespace Go.Proofs.YtpioomclpaiomaaGreat
set_option linter.unusedSimpArgs false
set_option linter.unusedVariables false
open Go.RowKit Go.WalkArith Go.IntWalk
class Wt (α:Type) where
 wtOf:α→Nat
def wt{α:Type}[Wt α](x:α):Nat:=Wt.wtOf x
def wl{α:Type}[Wt α]:List α→Nat
 | []=>0
 |a::l=>wt a+1+wl l
instance:Wt ByteArray:=⟨ByteArray.size⟩
theorem a7(b:ByteArray):wt b=b.size:=rfl
theorem EL(l:List ByteArray):wl l=l.length+Tr.bulkAll (a4 l):=by
 induction l with
 |nil=>rw [amQ];rfl
 |cons a l ih=>rw [alO];simp only [wl,List.length_cons,a7];omega
section
variable {α:Type} [Wt α]
theorem aV:wl ([]:List α)=0∧([]:List α).length=0:=⟨rfl,rfl⟩
theorem ahN(a:α)(l:List α):wl (a::l)=wt a+1+wl l:=rfl
theorem bV(a b:List α):wl (a++b)=wl a+wl b∧(a++b).length=a.length+b.length:=by
 refine⟨?_,List.length_append⟩
 induction a with
 |nil=>simp [wl]
 |cons x a ih=>simp only [List.cons_append,wl];omega
theorem b8(a:α):wl [a]=wt a+1∧ [a].length=1:=⟨rfl,rfl⟩
theorem jT(a b:α):wl [a,b]=wt a+wt b+2∧ [a,b].length=2:=⟨by simp only [wl];omega,rfl⟩
theorem CR(a b c:α):wl [a,b,c]=wt a+wt b+wt c+3∧ [a,b,c].length=3:=⟨by simp only [wl];omega,rfl⟩
theorem apO(a b c d:α):wl [a,b,c,d]=wt a+wt b+wt c+wt d+4∧ [a,b,c,d].length=4:=⟨by simp only [wl];omega,rfl⟩
theorem aoL(a b c d e:α):wl [a,b,c,d,e]=wt a+wt b+wt c+wt d+wt e+5∧ [a,b,c,d,e].length=5:=⟨by simp only [wl];omega,rfl⟩
theorem aoM(a b c d e f g:α):wl [a,b,c,d,e,f,g]=wt a+wt b+wt c+wt d+wt e+wt f+wt g+7∧ [a,b,c,d,e,f,g].length=7:=⟨by simp only [wl];omega,rfl⟩
theorem aY(l:List α):l.length≤wl l:=by
 induction l with
 |nil=>simp
 |cons a l ih=>simp only [wl,List.length_cons];omega
theorem EK(k:Nat)(l:List α):wl (l.take k)+wl (l.drop k)=wl l:=by
 have:=(bV (l.take k) (l.drop k)).1
 rw [List.take_append_drop] at this
 omega
theorem nI(l:List α)(k:Nat):wl (l.take k)≤wl l:=by have:=EK k l;omega
theorem amU(k:Nat)(l:List α):wl (l.drop k)≤wl l:=by have:=EK k l;omega
theorem QA(a b:Nat)(l:List α):wl (List.drop a (List.take b l))≤wl l∧(List.drop a (List.take b l)).length=min b l.length-a:=by
 have h1:=amU a (l.take b)
 have h2:=nI l b
 exact⟨by omega,by simp⟩
theorem agW{l:List α}{x:α}(h:x∈l):wt x+1≤wl l:=by
 induction l with
 |nil=>simp at h
 |cons a l ih=>
  simp only [wl]
  rcases List.mem_cons.1 h with rfl|h
  ·omega
  ·have:=ih h;omega
theorem ZK(l:List α)(a b:Nat):a≤b→wl (l.take a)≤wl (l.take b):=fun h=>by
 have:=nI (l.take b) a
 rwa [List.take_take,Nat.min_eq_left h] at this
theorem an0(L:List α)(b:Nat):1≤b→wl (List.drop (1:Int).toNat (List.take b L))+wl (List.take 1 L)≤wl (List.take b L):=fun h=>by
 have:=EK 1 (L.take b)
 rw [List.take_take,Nat.min_eq_left h] at this
 show wl (List.drop 1 _)+_≤_
 omega
variable [Inhabited α]
theorem cI(l:List α)(i:Nat):i<l.length→wt (aW l i)+1≤wl l:=fun h=>agW (iX h)
theorem nJ(l:List α)(i:Nat)(h:i<l.length):wl (l.take (i+1))=wl (l.take i)+wt (aW l i)+1:=by
 rw [adH h,(bV _ _).1,(b8 _).1]
 omega
theorem G4(l:List α)(i:Nat):i<l.length→wl (l.take (i+1))=wl (l.take i)+wt (aW l i)+1:=nJ l i
end
theorem eL(E:Int): -9223372036854775808≤E∧E≤9223372036854775807→aR E=E:=fun h=>by
 unfold aR IntKind.wrap
 simp [IntKind.bits,IntKind.signed]
 omega
theorem A6(b:ByteArray)(i j:Nat):(b.extract i j).size=min j b.size-i:=by simp [ByteArray.size_extract]
theorem eQ(a b:ByteArray):(a++b).size=a.size+b.size:=ByteArray.size_append
theorem aj7(l:List UInt8):(bytesStr l).size=l.length:=by simp [bytesStr,ByteArray.size]
theorem C5{b:ByteArray}(h: ¬b=⟨#[]⟩):0<b.size:=by
 rcases Nat.eq_zero_or_pos b.size with h0|h0
 ·refine absurd ?_ h
  obtain⟨a⟩:=b
  have h1:a.size=0:=h0
  rw [Array.eq_empty_of_size_eq_zero h1]
 ·exact h0
theorem bO{p:Prop}(h:p:=by first|omega|(dsimp only;omega)|trivial|(dsimp only;trivial)):p:=h
theorem Ok.next{σ β:Type}{N E:σ→Prop}{Q:β→Prop}{s:σ}(h:N s):Ok (Option.some (LR.next s)) (PL Q N E):=⟨_,rfl,h⟩
theorem Ok.brk{σ β:Type}{N E:σ→Prop}{Q:β→Prop}{s:σ}(h:E s):Ok (Option.some (LR.brk s)) (PL Q N E):=⟨_,rfl,h⟩
theorem Ok.ret{σ β:Type}{N E:σ→Prop}{Q:β→Prop}{x:β}(h:Q x):Ok (Option.some (LR.ret (σ:=σ) x)) (PL Q N E):=⟨_,rfl,h⟩
theorem Ok.inr{σ β:Type}{E:σ→Prop}{Q:β→Prop}{s:σ}(h:E s):Ok (Option.some (Sum.inr (α:=β) s)) (PS Q E):=⟨_,rfl,h⟩
theorem Ok.swd{α:Type}{p:Prop}[Decidable p]{a b:Option α}{P:α→Prop}(ht:p→Ok a P)(hf: ¬p→Ok b P):Ok (Go.Proofs.YtpioomclpaiomaaGreat.sw (decide p) a b) P:=Ok.sw (fun h=>ht (of_decide_eq_true h)) (fun h=>hf (of_decide_eq_false h))
theorem Ok.swn{α:Type}{p:Prop}[Decidable p]{a b:Option α}{P:α→Prop}(ht: ¬p→Ok a P)(hf:p→Ok b P):Ok (Go.Proofs.YtpioomclpaiomaaGreat.sw (!decide p) a b) P:=Ok.sw (fun h=>ht (by simpa using h)) (fun h=>hf (by simpa using h))
theorem Ok.swb{α:Type}{x:Bool}{a b:Option α}{P:α→Prop}(ht:x=false→Ok a P)(hf:x=true→Ok b P):Ok (Go.Proofs.YtpioomclpaiomaaGreat.sw (!x) a b) P:=Ok.sw (fun h=>ht (by simpa using h)) (fun h=>hf (by simpa using h))
theorem Ok.loop0{σ β:Type}{f:Nat→σ→Option (LR σ β)}{n i:Nat}{s:σ}{Q:β→Prop}{E:σ→Prop}(I:Nat→σ→Prop)(h0:I i s)(hE: ∀i s,n≤i→I i s→E s)(hs: ∀i s,i<n→I i s→Ok (f i s) (PL Q (I (i+1)) E)):Ok (Go.Proofs.YtpioomclpaiomaaGreat.loopN f (n-i) i s) (PS Q E):=Ok.loopN0 I h0 hE hs
theorem Ok.loop1{σ β:Type}{f:Nat→σ→Option (LR σ β)}{n i:Nat}{s:σ}{Q:β→Prop}(hs: ∀i s,i<n→Ok (f i s) (PL Q (fun _=>True) (fun _=>True))):Ok (Go.Proofs.YtpioomclpaiomaaGreat.loopN f (n-i) i s) (PS Q (fun _=>True)):=Ok.loopN0 (fun _ _=>True) trivial (fun _ _ _ _=>trivial) (fun i s hi _=>hs i s hi)
theorem oG{α:Type}{g:Prop}{a:Option α}{P:α→Prop}(k:g→Ok a P)(h:g:=by first|omega|trivial):Ok (Go.Proofs.YtpioomclpaiomaaGreat.gd g a) P:=Ok.gdk h k
theorem oD{α:Type}{p:Prop}[Decidable p]{a b:Option α}{P:α→Prop}(ht:p→Ok a P)(hf: ¬p→Ok b P):Ok (Go.Proofs.YtpioomclpaiomaaGreat.sw (decide p) a b) P:=Ok.swd ht hf
theorem oN{α:Type}{p:Prop}[Decidable p]{a b:Option α}{P:α→Prop}(ht: ¬p→Ok a P)(hf:p→Ok b P):Ok (Go.Proofs.YtpioomclpaiomaaGreat.sw (!decide p) a b) P:=Ok.swn ht hf
theorem oW{α:Type}{x:Bool}{a b:Option α}{P:α→Prop}(ht:x=false→Ok a P)(hf:x=true→Ok b P):Ok (Go.Proofs.YtpioomclpaiomaaGreat.sw (!x) a b) P:=Ok.swb ht hf
theorem oC{α:Type}{c:Bool}{a b:Option α}{P:α→Prop}(ht:c=true→Ok a P)(hf:c=false→Ok b P):Ok (Go.Proofs.YtpioomclpaiomaaGreat.sw c a b) P:=Ok.sw ht hf
theorem oB{α β:Type}{o:Option α}{f:α→Option β}{Q:α→Prop}{P:β→Prop}(h:Ok o Q)(k: ∀a,Q a→Ok (f a) P):Ok (Go.Proofs.YtpioomclpaiomaaGreat.bd o f) P:=Ok.bd h k
theorem N6{α β:Type}{o:Option α}{f:α→Option β}{Q1 Q2:α→Prop}{P:β→Prop}(h:Ok o (fun r=>Q1 r∧Q2 r))(k: ∀a,Q1 a→Q2 a→Ok (f a) P):Ok (Go.Proofs.YtpioomclpaiomaaGreat.bd o f) P:=Ok.bd h fun a q=>k a q.1 q.2
theorem tR{A B β:Type}{o:Option (A×B)}{f:A×B→Option β}{Q:A×B→Prop}{P:β→Prop}(h:Ok o Q)(k: ∀a b,Q (a,b)→Ok (f (a,b)) P):Ok (Go.Proofs.YtpioomclpaiomaaGreat.bd o f) P:=Ok.bd h fun _ q=>k _ _ q
theorem oB4{A B C D β:Type}{o:Option (A×B×C×D)}{f:A×B×C×D→Option β}{Q:A×B×C×D→Prop}{P:β→Prop}(h:Ok o Q)(k: ∀a b c d,Q (a,b,c,d)→Ok (f (a,b,c,d)) P):Ok (Go.Proofs.YtpioomclpaiomaaGreat.bd o f) P:=Ok.bd h fun _ q=>k _ _ _ _ q
theorem oB6{A B C D E F β:Type}{o:Option (A×B×C×D×E×F)}{f:A×B×C×D×E×F→Option β}{Q:A×B×C×D×E×F→Prop}{P:β→Prop}(h:Ok o Q)(k: ∀a b c d e g,Q (a,b,c,d,e,g)→Ok (f (a,b,c,d,e,g)) P):Ok (Go.Proofs.YtpioomclpaiomaaGreat.bd o f) P:=Ok.bd h fun _ q=>k _ _ _ _ _ _ q
theorem oS{α:Type}{P:α→Prop}{a:α}(h:P a:=by first|trivial|omega|(dsimp only;omega)):Ok (Option.some a) P:=⟨a,rfl,h⟩
theorem mP{σ β:Type}{N E:σ→Prop}{Q:β→Prop}{s:σ}(h:N s:=by first|trivial|omega|(dsimp only;omega)):Ok (Option.some (LR.next s)) (PL Q N E):=⟨_,rfl,h⟩
theorem oK{σ β:Type}{N E:σ→Prop}{Q:β→Prop}{s:σ}(h:E s:=by first|trivial|omega|(dsimp only;omega)):Ok (Option.some (LR.brk s)) (PL Q N E):=⟨_,rfl,h⟩
theorem oR{σ β:Type}{N E:σ→Prop}{Q:β→Prop}{x:β}(h:Q x:=by first|trivial|omega|(dsimp only;omega)):Ok (Option.some (LR.ret (σ:=σ) x)) (PL Q N E):=⟨_,rfl,h⟩
theorem oL{σ β:Type}{E:σ→Prop}{Q:β→Prop}{x:β}(h:Q x:=by first|trivial|omega|(dsimp only;omega)):Ok (Option.some (Sum.inl (β:=σ) x)) (PS Q E):=⟨_,rfl,h⟩
theorem oI{σ β:Type}{E:σ→Prop}{Q:β→Prop}{s:σ}(h:E s:=by first|trivial|omega|(dsimp only;omega)):Ok (Option.some (Sum.inr (α:=β) s)) (PS Q E):=⟨_,rfl,h⟩
theorem CS{σ β:Type}{o:Option (β⊕σ)}{f:σ→Option β}{P:β→Prop}(h:Ok o (PS P fun _=>True))(k: ∀s,True→Ok (f s) P):Ok (Go.Proofs.YtpioomclpaiomaaGreat.so o f) P:=Ok.sok h k
theorem oEN{σ β:Type}{n i0:Nat}{s0:σ}{F:Nat→σ→Option (LR σ β)}{f:σ→Option β}{P:β→Prop}(hs: ∀i s,i<n→Ok (F i s) (PL P (fun _=>True) (fun _=>True)))(k: ∀s,True→Ok (f s) P):Ok (Go.Proofs.YtpioomclpaiomaaGreat.so (Go.Proofs.YtpioomclpaiomaaGreat.loopN F (n-i0) i0 s0) f) P:=Ok.sok (Ok.loop1 hs) k
theorem IG{A B β:Type}[Wt A][Wt B][Inhabited A]{F:Nat→List B→Option (LR (List B) β)}{f:List B→Option β}{i0:Nat}{v0:List B}{Q:β→Prop}(L:List A)(c:Nat)
 (hs: ∀i v,i<L.length→wl v+c*wl (List.take i0 L)≤wl v0+c*wl (List.take i L)→wl (L.take (i+1))=wl (L.take i)+wt (aW L i)+1→wl (L.take (i+1))≤wl L→
  Ok (F i v) (PL Q (fun v=>wl v+c*wl (List.take i0 L)≤wl v0+c*wl (List.take (i+1) L)) (fun v=>wl v+c*wl (List.take i0 L)≤wl v0+c*wl L)))
 (k: ∀v,wl v+c*wl (List.take i0 L)≤wl v0+c*wl L→Ok (f v) Q):Ok (Go.Proofs.YtpioomclpaiomaaGreat.so (Go.Proofs.YtpioomclpaiomaaGreat.loopN F (L.length-i0) i0 v0) f) Q:=
 Ok.sok (Ok.loopN0 (fun i v=>wl v+c*wl (List.take i0 L)≤wl v0+c*wl (List.take i L)) (Nat.le_refl _) (fun i v _ h=>Nat.le_trans h (Nat.add_le_add_left (Nat.mul_le_mul_left _ (nI L i)) _)) (fun i v hi h=>hs i v hi h (nJ L i hi) (nI L _))) k
theorem amB{A B β:Type}[Wt A][Wt B][Inhabited A]{F:Nat→List B→Option (LR (List B) β)}{f:List B→Option β}{i0:Nat}{Q:β→Prop}{PA:B→Prop}(L:List A)(c:Nat)
 (hs: ∀i v,i<L.length→wl v+c*wl (List.take i0 L)≤wl ([]:List B)+c*wl (List.take i L)→(∀a∈v,PA a)→wl (L.take (i+1))=wl (L.take i)+wt (aW L i)+1→wl (L.take (i+1))≤wl L→
  Ok (F i v) (PL Q (fun v=>wl v+c*wl (List.take i0 L)≤wl ([]:List B)+c*wl (List.take (i+1) L)∧ ∀a∈v,PA a) (fun v=>wl v+c*wl (List.take i0 L)≤wl ([]:List B)+c*wl L∧ ∀a∈v,PA a)))
 (k: ∀v,(wl v+c*wl (List.take i0 L)≤wl ([]:List B)+c*wl L∧ ∀a∈v,PA a)→Ok (f v) Q):Ok (Go.Proofs.YtpioomclpaiomaaGreat.so (Go.Proofs.YtpioomclpaiomaaGreat.loopN F (L.length-i0) i0 []) f) Q:=
 Ok.sok (Ok.loopN0 (fun i v=>wl v+c*wl (List.take i0 L)≤wl ([]:List B)+c*wl (List.take i L)∧ ∀a∈v,PA a) ⟨Nat.le_refl _,by simp⟩ (fun i v _ h=>⟨Nat.le_trans h.1 (Nat.add_le_add_left (Nat.mul_le_mul_left _ (nI L i)) _),h.2⟩) (fun i v hi h=>hs i v hi h.1 h.2 (nJ L i hi) (nI L _))) k
instance:Wt aO:=⟨fun x=>Tr.bulkL (aO.tr x)⟩
instance:Wt aA:=⟨fun x=>Tr.bulkL (aA.tr x)⟩
instance:Wt aG:=⟨fun x=>Tr.bulkL (aG.tr x)⟩
instance:Wt bK:=⟨fun x=>Tr.bulkL (bK.tr x)⟩
instance:Wt aF:=⟨fun x=>Tr.bulkL (aF.tr x)⟩
instance:Wt aU:=⟨fun x=>Tr.bulkL (aU.tr x)⟩
instance:Wt aP:=⟨fun x=>Tr.bulkL (aP.tr x)⟩
instance:Wt aC:=⟨fun x=>Tr.bulkL (aC.tr x)⟩
instance:Wt aD:=⟨fun x=>Tr.bulkL (aD.tr x)⟩
instance:Wt aT:=⟨fun x=>Tr.bulkL (aT.tr x)⟩
instance:Wt aN:=⟨fun x=>Tr.bulkL (aN.tr x)⟩
instance:Wt aH:=⟨fun x=>Tr.bulkL (aH.tr x)⟩
instance:Wt aM:=⟨fun x=>Tr.bulkL (aM.tr x)⟩
instance:Wt aL:=⟨fun x=>Tr.bulkL (aL.tr x)⟩
instance:Wt aI:=⟨fun x=>Tr.bulkL (aI.tr x)⟩
instance:Wt aB:=⟨fun x=>Tr.bulkL (aB.tr x)⟩
instance:Wt aJ:=⟨fun x=>Tr.bulkL (aJ.tr x)⟩
instance:Wt aK:=⟨fun x=>Tr.bulkL (aK.tr x)⟩
theorem aA.wl_bulk(l:List aA):wl l=l.length+Tr.bulkAll (aA.trs l):=by
 induction l with
 |nil=>rw [aA.bks_nil];rfl
 |cons a l ih=>
  rw [aA.bks_cons]
  simp only [wl,List.length_cons,ih]
  show Tr.bulkL (aA.tr a)+1+_=_
  omega
theorem aG.wl_bulk(l:List aG):wl l=l.length+Tr.bulkAll (aG.trs l):=by
 induction l with
 |nil=>rw [aG.bks_nil];rfl
 |cons a l ih=>
  rw [aG.bks_cons]
  simp only [wl,List.length_cons,ih]
  show Tr.bulkL (aG.tr a)+1+_=_
  omega
theorem bK.wl_bulk(l:List bK):wl l=l.length+Tr.bulkAll (bK.trs l):=by
 induction l with
 |nil=>rw [bK.bks_nil];rfl
 |cons a l ih=>
  rw [bK.bks_cons]
  simp only [wl,List.length_cons,ih]
  show Tr.bulkL (bK.tr a)+1+_=_
  omega
theorem aF.wl_bulk(l:List aF):wl l=l.length+Tr.bulkAll (aF.trs l):=by
 induction l with
 |nil=>rw [aF.bks_nil];rfl
 |cons a l ih=>
  rw [aF.bks_cons]
  simp only [wl,List.length_cons,ih]
  show Tr.bulkL (aF.tr a)+1+_=_
  omega
theorem aU.wl_bulk(l:List aU):wl l=l.length+Tr.bulkAll (aU.trs l):=by
 induction l with
 |nil=>rw [aU.bks_nil];rfl
 |cons a l ih=>
  rw [aU.bks_cons]
  simp only [wl,List.length_cons,ih]
  show Tr.bulkL (aU.tr a)+1+_=_
  omega
theorem aP.wl_bulk(l:List aP):wl l=l.length+Tr.bulkAll (aP.trs l):=by
 induction l with
 |nil=>rw [aP.bks_nil];rfl
 |cons a l ih=>
  rw [aP.bks_cons]
  simp only [wl,List.length_cons,ih]
  show Tr.bulkL (aP.tr a)+1+_=_
  omega
theorem aC.wl_bulk(l:List aC):wl l=l.length+Tr.bulkAll (aC.trs l):=by
 induction l with
 |nil=>rw [aC.bks_nil];rfl
 |cons a l ih=>
  rw [aC.bks_cons]
  simp only [wl,List.length_cons,ih]
  show Tr.bulkL (aC.tr a)+1+_=_
  omega
theorem aD.wl_bulk(l:List aD):wl l=l.length+Tr.bulkAll (aD.trs l):=by
 induction l with
 |nil=>rw [aD.bks_nil];rfl
 |cons a l ih=>
  rw [aD.bks_cons]
  simp only [wl,List.length_cons,ih]
  show Tr.bulkL (aD.tr a)+1+_=_
  omega
theorem aT.wl_bulk(l:List aT):wl l=l.length+Tr.bulkAll (aT.trs l):=by
 induction l with
 |nil=>rw [aT.bks_nil];rfl
 |cons a l ih=>
  rw [aT.bks_cons]
  simp only [wl,List.length_cons,ih]
  show Tr.bulkL (aT.tr a)+1+_=_
  omega
theorem aN.wl_bulk(l:List aN):wl l=l.length+Tr.bulkAll (aN.trs l):=by
 induction l with
 |nil=>rw [aN.bks_nil];rfl
 |cons a l ih=>
  rw [aN.bks_cons]
  simp only [wl,List.length_cons,ih]
  show Tr.bulkL (aN.tr a)+1+_=_
  omega
theorem aH.wl_bulk(l:List aH):wl l=l.length+Tr.bulkAll (aH.trs l):=by
 induction l with
 |nil=>rw [aH.bks_nil];rfl
 |cons a l ih=>
  rw [aH.bks_cons]
  simp only [wl,List.length_cons,ih]
  show Tr.bulkL (aH.tr a)+1+_=_
  omega
theorem aM.wl_bulk(l:List aM):wl l=l.length+Tr.bulkAll (aM.trs l):=by
 induction l with
 |nil=>rw [aM.bks_nil];rfl
 |cons a l ih=>
  rw [aM.bks_cons]
  simp only [wl,List.length_cons,ih]
  show Tr.bulkL (aM.tr a)+1+_=_
  omega
theorem aL.wl_bulk(l:List aL):wl l=l.length+Tr.bulkAll (aL.trs l):=by
 induction l with
 |nil=>rw [aL.bks_nil];rfl
 |cons a l ih=>
  rw [aL.bks_cons]
  simp only [wl,List.length_cons,ih]
  show Tr.bulkL (aL.tr a)+1+_=_
  omega
theorem aB.wl_bulk(l:List aB):wl l=l.length+Tr.bulkAll (aB.trs l):=by
 induction l with
 |nil=>rw [aB.bks_nil];rfl
 |cons a l ih=>
  rw [aB.bks_cons]
  simp only [wl,List.length_cons,ih]
  show Tr.bulkL (aB.tr a)+1+_=_
  omega
theorem aA.wt_mk(v0:Int)(v1:ByteArray)(v2:List aA):wt (aA.mk v0 v1 v2)=v1.size+wl v2:=by
 show Tr.bulkL (aA.tr (.mk v0 v1 v2))=_
 rw [aA.bk_mk]
 simp only [aA.wl_bulk]
 try rfl
theorem aA.wt_eq(x:aA):wt x=x.gName.size+wl x.gArgs:=by
 obtain⟨v0,v1,v2⟩:=x
 exact aA.wt_mk v0 v1 v2
theorem aG.wt_mk(v0:Int)(v1:ByteArray)(v2:ByteArray)(v3:Int)(v4:aA)(v5:List aG)(v6:List bK):wt (aG.mk v0 v1 v2 v3 v4 v5 v6)=v1.size+v2.size+wt v4+wl v5+wl v6:=by
 show Tr.bulkL (aG.tr (.mk v0 v1 v2 v3 v4 v5 v6))=_
 rw [aG.bk_mk]
 simp only [aG.wl_bulk,bK.wl_bulk]
 try rfl
theorem aG.wt_eq(x:aG):wt x=x.gTrait.size+x.gName.size+wt x.gType+wl x.gArgs+wl x.gArms:=by
 obtain⟨v0,v1,v2,v3,v4,v5,v6⟩:=x
 exact aG.wt_mk v0 v1 v2 v3 v4 v5 v6
theorem bK.wt_mk(v0:ByteArray)(v1:List ByteArray)(v2:aG):wt (bK.mk v0 v1 v2)=v0.size+wl v1+wt v2:=by
 show Tr.bulkL (bK.tr (.mk v0 v1 v2))=_
 rw [bK.bk_mk]
 simp only [EL]
 try rfl
theorem bK.wt_eq(x:bK):wt x=x.gConstructor.size+wl x.gVars+wt x.gBody:=by
 obtain⟨v0,v1,v2⟩:=x
 exact bK.wt_mk v0 v1 v2
theorem aF.wt_mk(v0:ByteArray)(v1:aA):wt (aF.mk v0 v1)=v0.size+wt v1:=by
 show Tr.bulkL (aF.tr (.mk v0 v1))=_
 rw [aF.bk_mk]
 try rfl
theorem aF.wt_eq(x:aF):wt x=x.gTrait.size+wt x.gType:=by
 obtain⟨v0,v1⟩:=x
 exact aF.wt_mk v0 v1
theorem aU.wt_mk(v0:ByteArray)(v1:aA):wt (aU.mk v0 v1)=v0.size+wt v1:=by
 show Tr.bulkL (aU.tr (.mk v0 v1))=_
 rw [aU.bk_mk]
 try rfl
theorem aU.wt_eq(x:aU):wt x=x.gName.size+wt x.gType:=by
 obtain⟨v0,v1⟩:=x
 exact aU.wt_mk v0 v1
theorem aP.wt_mk(v0:ByteArray)(v1:List ByteArray)(v2:aG):wt (aP.mk v0 v1 v2)=v0.size+wl v1+wt v2:=by
 show Tr.bulkL (aP.tr (.mk v0 v1 v2))=_
 rw [aP.bk_mk]
 simp only [EL]
 try rfl
theorem aP.wt_eq(x:aP):wt x=x.gName.size+wl x.gVars+wt x.gBody:=by
 obtain⟨v0,v1,v2⟩:=x
 exact aP.wt_mk v0 v1 v2
theorem aC.wt_mk(v0:ByteArray)(v1:List aA):wt (aC.mk v0 v1)=v0.size+wl v1:=by
 show Tr.bulkL (aC.tr (.mk v0 v1))=_
 rw [aC.bk_mk]
 simp only [aA.wl_bulk]
 try rfl
theorem aC.wt_eq(x:aC):wt x=x.gName.size+wl x.gFields:=by
 obtain⟨v0,v1⟩:=x
 exact aC.wt_mk v0 v1
theorem aD.wt_mk(v0:ByteArray)(v1:List aA)(v2:aA)(v3:Bool)(v4:List ByteArray)(v5:aG):wt (aD.mk v0 v1 v2 v3 v4 v5)=v0.size+wl v1+wt v2+wl v4+wt v5:=by
 show Tr.bulkL (aD.tr (.mk v0 v1 v2 v3 v4 v5))=_
 rw [aD.bk_mk]
 simp only [aA.wl_bulk,EL]
 try rfl
theorem aD.wt_eq(x:aD):wt x=x.gName.size+wl x.gParams+wt x.gResult+wl x.gVars+wt x.gBody:=by
 obtain⟨v0,v1,v2,v3,v4,v5⟩:=x
 exact aD.wt_mk v0 v1 v2 v3 v4 v5
theorem aT.wt_mk(v0:ByteArray)(v1:List ByteArray)(v2:Bool)(v3:Bool)(v4:List aD):wt (aT.mk v0 v1 v2 v3 v4)=v0.size+wl v1+wl v4:=by
 show Tr.bulkL (aT.tr (.mk v0 v1 v2 v3 v4))=_
 rw [aT.bk_mk]
 simp only [EL,aD.wl_bulk]
 try rfl
theorem aT.wt_eq(x:aT):wt x=x.gName.size+wl x.gSupertraits+wl x.gSignatures:=by
 obtain⟨v0,v1,v2,v3,v4⟩:=x
 exact aT.wt_mk v0 v1 v2 v3 v4
theorem aN.wt_mk(v0:ByteArray)(v1:List ByteArray)(v2:List aC):wt (aN.mk v0 v1 v2)=v0.size+wl v1+wl v2:=by
 show Tr.bulkL (aN.tr (.mk v0 v1 v2))=_
 rw [aN.bk_mk]
 simp only [EL,aC.wl_bulk]
 try rfl
theorem aN.wt_eq(x:aN):wt x=x.gName.size+wl x.gVars+wl x.gConstructors:=by
 obtain⟨v0,v1,v2⟩:=x
 exact aN.wt_mk v0 v1 v2
theorem aH.wt_mk(v0:ByteArray)(v1:List ByteArray)(v2:aA)(v3:List aF)(v4:Bool)(v5:Bool)(v6:aA)(v7:List aP):wt (aH.mk v0 v1 v2 v3 v4 v5 v6 v7)=v0.size+wl v1+wt v2+wl v3+wt v6+wl v7:=by
 show Tr.bulkL (aH.tr (.mk v0 v1 v2 v3 v4 v5 v6 v7))=_
 rw [aH.bk_mk]
 simp only [EL,aF.wl_bulk,aP.wl_bulk]
 try rfl
theorem aH.wt_eq(x:aH):wt x=x.gTrait.size+wl x.gVars+wt x.gHead+wl x.gWhere+wt x.gAssoc+wl x.gMethods:=by
 obtain⟨v0,v1,v2,v3,v4,v5,v6,v7⟩:=x
 exact aH.wt_mk v0 v1 v2 v3 v4 v5 v6 v7
theorem aM.wt_mk(v0:ByteArray)(v1:List ByteArray)(v2:List aF)(v3:List aU)(v4:aA)(v5:aG):wt (aM.mk v0 v1 v2 v3 v4 v5)=v0.size+wl v1+wl v2+wl v3+wt v4+wt v5:=by
 show Tr.bulkL (aM.tr (.mk v0 v1 v2 v3 v4 v5))=_
 rw [aM.bk_mk]
 simp only [EL,aF.wl_bulk,aU.wl_bulk]
 try rfl
theorem aM.wt_eq(x:aM):wt x=x.gName.size+wl x.gVars+wl x.gWhere+wl x.gParams+wt x.gResult+wt x.gBody:=by
 obtain⟨v0,v1,v2,v3,v4,v5⟩:=x
 exact aM.wt_mk v0 v1 v2 v3 v4 v5
theorem aL.wt_mk(v0:ByteArray)(v1:List ByteArray)(v2:List aT)(v3:List aN)(v4:List aH)(v5:List aM):wt (aL.mk v0 v1 v2 v3 v4 v5)=v0.size+wl v1+wl v2+wl v3+wl v4+wl v5:=by
 show Tr.bulkL (aL.tr (.mk v0 v1 v2 v3 v4 v5))=_
 rw [aL.bk_mk]
 simp only [EL,aT.wl_bulk,aN.wl_bulk,aH.wl_bulk,aM.wl_bulk]
 try rfl
theorem aL.wt_eq(x:aL):wt x=x.gName.size+wl x.gDeps+wl x.gTraits+wl x.gDataTypes+wl x.gInstances+wl x.gFunctions:=by
 obtain⟨v0,v1,v2,v3,v4,v5⟩:=x
 exact aL.wt_mk v0 v1 v2 v3 v4 v5
theorem aI.wt_mk(v0:List aL):wt (aI.mk v0)=wl v0:=by
 show Tr.bulkL (aI.tr (.mk v0))=_
 rw [aI.bk_mk]
 simp only [aL.wl_bulk]
 try rfl
theorem aI.wt_eq(x:aI):wt x=wl x.gPackages:=by
 obtain⟨v0⟩:=x
 exact aI.wt_mk v0
theorem aB.wt_mk(v0:ByteArray)(v1:List aB):wt (aB.mk v0 v1)=v0.size+wl v1:=by
 show Tr.bulkL (aB.tr (.mk v0 v1))=_
 rw [aB.bk_mk]
 simp only [aB.wl_bulk]
 try rfl
theorem aB.wt_eq(x:aB):wt x=x.gAtom.size+wl x.gList:=by
 obtain⟨v0,v1⟩:=x
 exact aB.wt_mk v0 v1
end Go.Proofs.YtpioomclpaiomaaGreat

namespace Go.Proofs.YtpioomclpaiomaaGreat.W
set_option linter.unusedSimpArgs false
set_option linter.unusedVariables false
set_option maxRecDepth 20000
set_option maxHeartbeats 4000000
open Go.RowKit Go.WalkArith Go.IntWalk
def U5(fu:Nat):Prop:= ∀(px:UInt8),Ok (FC fu px) (fun _=>True)
theorem EW:bY U5:=(bY.ge 2147483648).imp fun fu hfu px=>by
 refine oD (fun g1=>?_) fun g1=>?_
 ·refine oD (fun _=>oS) fun g2=>?_;refine oD (fun g3=>?_) fun g3=>?_
  ·exact oD (fun _=>oS) fun g4=>oD (fun _=>oS) fun g5=>oD (fun _=>oS) fun g6=>oD (fun _=>oS) fun g7=>oD (fun _=>oS) fun g8=>oD (fun _=>oS) fun g9=>oD (fun _=>oS) fun g10=>oS
  exact oD (fun _=>oS) fun g11=>oD (fun _=>oS) fun g12=>oD (fun _=>oS) fun g13=>oD (fun _=>oS) fun g14=>oD (fun _=>oS) fun g15=>oD (fun _=>oS) fun g16=>oS
 refine oD (fun g17=>?_) fun g17=>?_
 ·exact oD (fun _=>oS) fun g18=>oD (fun _=>oS) fun g19=>oD (fun _=>oS) fun g20=>oD (fun _=>oS) fun g21=>oD (fun _=>oS) fun g22=>oD (fun _=>oS) fun g23=>oD (fun _=>oS) fun g24=>oS
 exact oD (fun _=>oS) fun g25=>oD (fun _=>oS) fun g26=>oD (fun _=>oS) fun g27=>oD (fun _=>oS) fun g28=>oD (fun _=>oS) fun g29=>oD (fun _=>oS) fun g30=>oS
def agZ(fu:Nat):Prop:= ∀(px plo phi:Int),Ok (lO fu px plo phi) (fun _=>True)
theorem pR:bY agZ:=(bY.ge 2147483648).imp fun fu hfu px plo phi=>by
 exact oD (fun _=>oS) fun g1=>oS
def C2(fu:Nat):Prop:= ∀(ps:ByteArray),ps.size≤1073741824→Ok (xM fu ps) (fun _=>True)
theorem o9:bY C2:=(((bY.ge 2147483648).and EW).and pR).imp fun fu ⟨⟨hfu,EW⟩,pR⟩ ps hpre=>by
 refine CS ?_ ?_
 ·refine Ok.loop1 ?_;rintro i1 ⟨⟩ hl2
  exact oG fun z4=>oB (EW (A5 ps i1)) fun x6 _=>oW (fun _=>oR) fun g6=>mP
 rintro⟨⟩-
 exact oB (pR (ps.size:Int) 1 12) fun x9 _=>oS
def ahX(fu:Nat):Prop:= ∀(px:aB) (pleft:Int),wt px≤1073741824→Ok (nX fu px pleft) (fun _=>True)
def LI(n:Nat)(m:t3):Prop:= ∀(px:aB) (pleft:Int),wt px<n→wt px≤1073741824→Ok (m px pleft) (fun _=>True)
theorem af2{n fu:Nat}(hfu:2147483648≤fu){r_sl2Left:t3}(h_sl2Left:LI n r_sl2Left):LI (n+1) (NJ fu r_sl2Left):=by
 intro px pleft hm hpre
 refine oEN (fun i1 v2 hl2=>?_) ?_
 ·have:=aB.wt_eq px
  have:=aY px.gList
  refine oD (fun g4=>?_) fun g4=>?_
  ·have:=cI px.gList i1 hl2
   exact oB (h_sl2Left (aW px.gList i1) v2 bO bO) fun x7 _=>mP
  exact oK
 intro v2 _
 exact oS
theorem ajH(n:Nat):bY fun fu=>LI n (nX fu):=by
 induction n with
 |zero=>exact .all fun fu=>fun _ _ h=>absurd h (Nat.not_lt_zero _)
 |succ n ih=>exact bY.succ ((ih.and (bY.ge 2147483648)).imp fun fu ⟨h,hfu⟩=>fun px pleft=>by rw [nX];exact af2 hfu h px pleft)
theorem ME:bY ahX:=(ajH 8589934592).imp fun fu h px pleft hpre=>h px pleft bO hpre
def ahW(fu:Nat):Prop:= ∀(px:aB),wt px≤1073741824→Ok (nW fu px) (fun _=>True)
def LH(n:Nat)(m:t2):Prop:= ∀(px:aB),wt px<n→wt px≤1073741824→Ok (m px) (fun _=>True)
theorem afY{n fu:Nat}(hfu:2147483648≤fu)(o9:C2 fu){r_sl2Form:t2}(h_sl2Form:LH n r_sl2Form):LH (n+1) (NI fu r_sl2Form):=by
 intro px hm hpre
 have:=aB.wt_eq px
 have:s_.size=0:=rfl
 refine oN (fun g1=>?_) fun g1=>?_
 ·have:=C5 g1
  exact oB (o9 px.gAtom bO) fun x3 _=>oC (fun _=>oS) fun g3=>oS
 refine CS ?_ ?_
 ·refine Ok.loop1 ?_;rintro i5 ⟨⟩ hl5
  have:=aY px.gList
  have:=cI px.gList i5 hl5
  exact oB (h_sl2Form (aW px.gList i5) bO bO) fun x9 _=>oW (fun _=>oR) fun g8=>mP
 rintro⟨⟩-
 exact oS
theorem ajG(n:Nat):bY fun fu=>LH n (nW fu):=by
 induction n with
 |zero=>exact .all fun fu=>fun _ h=>absurd h (Nat.not_lt_zero _)
 |succ n ih=>exact bY.succ ((ih.and ((bY.ge 2147483648).and o9)).imp fun fu ⟨h,⟨hfu,o9⟩⟩=>fun px=>by rw [nW];exact afY hfu o9 h px)
theorem MD:bY ahW:=(ajG 8589934592).imp fun fu h px hpre=>h px bO hpre
def QJ(fu:Nat):Prop:= ∀(pa pb:Int),Ok (K7 fu pa pb) (fun _=>True)
theorem qO:bY QJ:=(bY.ge 2147483648).imp fun fu hfu pa pb=>by
 exact oD (fun _=>oS) fun g1=>oS
def TN(fu:Nat):Prop:= ∀(px:aB),wt px≤1073741824→Ok (hU fu px) (fun _=>True)
def y2(n:Nat)(m:lZ):Prop:= ∀(px:aB),wt px<n→wt px≤1073741824→Ok (m px) (fun _=>True)
theorem SD{n fu:Nat}(hfu:2147483648≤fu)(qO:QJ fu){r_sSExprDepth:lZ}(h_sSExprDepth:y2 n r_sSExprDepth):y2 (n+1) (zK fu r_sSExprDepth):=by
 intro px hm hpre
 have:=aB.wt_eq px
 have:s_.size=0:=rfl
 refine oN (fun _=>oS) fun g1=>?_;refine oEN (fun i2 v3 hl3=>?_) ?_
 ·have:=aY px.gList
  have:=cI px.gList i2 hl3
  exact oB (h_sSExprDepth (aW px.gList i2) bO bO) fun x7 _=>oB (qO v3 x7) fun x9 _=>mP
 intro v3 _
 exact oS
theorem UD(n:Nat):bY fun fu=>y2 n (hU fu):=by
 induction n with
 |zero=>exact .all fun fu=>fun _ h=>absurd h (Nat.not_lt_zero _)
 |succ n ih=>exact bY.succ ((ih.and ((bY.ge 2147483648).and qO)).imp fun fu ⟨h,⟨hfu,qO⟩⟩=>fun px=>by rw [hU];exact SD hfu qO h px)
theorem zF:bY TN:=(UD 8589934592).imp fun fu h px hpre=>h px bO hpre
def OF(fu:Nat):Prop:= ∀(px:aB),wt px≤1073741824→Ok (gQ fu px) (fun _=>True)
theorem cL:bY OF:=((((bY.ge 2147483648).and ME).and MD).and zF).imp fun fu ⟨⟨⟨hfu,ME⟩,MD⟩,zF⟩ px hpre=>by
 refine oB (ME px 900 bO) fun x2 _=>?_;refine oD (fun g2=>?_) fun g2=>?_
 ·refine oB (MD px bO) fun x5 _=>?_;refine oC (fun g4=>?_) fun g4=>?_
  ·exact oB (zF px bO) fun x8 _=>oS
  exact oS
 exact oS
def A3(fu:Nat):Prop:= ∀(plist:List aB),wl plist≤1073741824→Ok (xS fu plist) (fun r=>wl r.1≤wl plist)
theorem gS:bY A3:=(bY.ge 2147483648).imp fun fu hfu plist hpre=>by
 have:=(aV:wl ([]:List ByteArray)=0∧_)
 refine IG plist 1 (fun i1 v3 hl2 hI3 _ _=>?_) ?_
 ·have:=aY plist
  have:=cI plist i1 hl2
  have:=aB.wt_eq (aW plist i1)
  have:s_.size=0:=rfl
  refine oD (fun _=>oR) fun g4=>?_
  have:=C5 g4
  have:=aY (v3)
  have:=b8 ((aW plist i1).gAtom)
  have:=a7 ((aW plist i1).gAtom)
  refine oG fun z5=>?_
  have:=bV v3 ([((aW plist i1).gAtom)]:List ByteArray)
  exact mP
 intro v3 h1
 exact oS
def EO(fu:Nat):Prop:= ∀(ps:ByteArray),Ok (cC fu ps) (fun r=>wt r=ps.size)
theorem bM:bY EO:=(bY.ge 2147483648).imp fun fu hfu ps=>by
 have:=(aV:wl ([]:List aB)=0∧_)
 have:=aB.wt_mk ps []
 exact oS
def HL(fu:Nat):Prop:= ∀(plist:List ByteArray),wl plist≤1073741824→Ok (B5 fu plist) (fun r=>wl r≤wl plist)
theorem lV:bY HL:=((bY.ge 2147483648).and bM).imp fun fu ⟨hfu,bM⟩ plist hpre=>by
 have:=(aV:wl ([]:List aB)=0∧_)
 refine IG plist 1 (fun i1 v3 hl2 hI3 _ _=>?_) ?_
 ·have:=aY plist
  have:=cI plist i1 hl2
  have:=a7 (aW plist i1)
  refine oB (bM (aW plist i1)) fun x7 h4=>?_
  have:=aY (v3)
  have:=b8 x7
  refine oG fun z5=>?_
  have:=bV v3 ([x7]:List aB)
  exact mP
 intro v3 h1
 exact oS
def U6(fu:Nat):Prop:= ∀(plist:List aB),wl plist≤1073741824→Ok (lB fu plist) (fun r=>wt r=wl plist)
theorem eI:bY U6:=(bY.ge 2147483648).imp fun fu hfu plist hpre=>by
 have:=(aV:wl ([]:List aB)=0∧_)
 have:=aY (plist)
 refine oG fun z1=>?_
 have:s_.size=0:=rfl
 have:=bV ([]:List aB) plist
 have:=aB.wt_mk s_ (([])++plist)
 exact oS
def TK(fu:Nat):Prop:= ∀(pa pb:aB),wt pa≤1073741824→Ok (fE fu pa pb) (fun _=>True)
def y1(n:Nat)(m:lX):Prop:= ∀(pa pb:aB),wt pa<n→wt pa≤1073741824→Ok (m pa pb) (fun _=>True)
theorem RX{n fu:Nat}(hfu:2147483648≤fu){r_sEqualSExpr:lX}(h_sEqualSExpr:y1 n r_sEqualSExpr):y1 (n+1) (zG fu r_sEqualSExpr):=by
 intro pa pb hm hpre
 have:=aB.wt_eq pa
 have:=aB.wt_eq pb
 refine oN (fun _=>oS) fun g1=>?_
 have:=aY pa.gList
 have:=aY pb.gList
 refine oN (fun _=>oS) fun g2=>?_;refine CS ?_ ?_
 ·refine Ok.loop1 ?_;rintro i3 ⟨⟩ hl4
  have:=aY (pb.gList)
  refine oG fun z6=>?_
  have:=cI pa.gList i3 hl4
  have:=cI pb.gList i3 z6
  exact oB (h_sEqualSExpr (aW pa.gList i3) (aW pb.gList i3) bO bO) fun x8 _=>oW (fun _=>oR) fun g8=>mP
 rintro⟨⟩-
 exact oS
theorem T7(n:Nat):bY fun fu=>y1 n (fE fu):=by
 induction n with
 |zero=>exact .all fun fu=>fun _ _ h=>absurd h (Nat.not_lt_zero _)
 |succ n ih=>exact bY.succ ((ih.and (bY.ge 2147483648)).imp fun fu ⟨h,hfu⟩=>fun pa pb=>by rw [fE];exact RX hfu h pa pb)
theorem fZ:bY TK:=(T7 8589934592).imp fun fu h pa pb hpre=>h pa pb bO hpre
end Go.Proofs.YtpioomclpaiomaaGreat.W

namespace Go.Proofs.YtpioomclpaiomaaGreat.W
set_option linter.unusedSimpArgs false
set_option linter.unusedVariables false
set_option maxRecDepth 20000
set_option maxHeartbeats 4000000
open Go.RowKit Go.WalkArith Go.IntWalk
def QI(fu:Nat):Prop:= ∀(plist:List ByteArray) (ps:ByteArray),Ok (jZ fu plist ps) (fun _=>True)
theorem dG:bY QI:=(bY.ge 2147483648).imp fun fu hfu plist ps=>by
 refine CS ?_ ?_
 ·refine Ok.loop1 ?_;rintro i1 ⟨⟩ hl2
  have:=aY plist
  exact oD (fun _=>oR) fun g4=>mP
 rintro⟨⟩-
 exact oS
def TL(fu:Nat):Prop:= ∀(ps:ByteArray),Ok (zJ fu ps) (fun _=>True)
theorem zD:bY TL:=((bY.ge 2147483648).and dG).imp fun fu ⟨hfu,dG⟩ ps=>by
 have:fW.size=3:=rfl
 have:fN.size=4:=rfl
 have:iA.size=5:=rfl
 have:vX.size=3:=rfl
 have:BS.size=2:=rfl
 have:CL.size=3:=rfl
 have:vN.size=4:=rfl
 have:CM.size=3:=rfl
 have:nQ.size=6:=rfl
 have:vO.size=4:=rfl
 have:n8.size=4:=rfl
 have:kS.size=5:=rfl
 have:wl ([fW,fN,iA,vX,BS,CL,vN,CM,nQ,vO,n8,kS]:List ByteArray)=58:=rfl
 exact oB (dG ([fW,fN,iA,vX,BS,CL,vN,CM,nQ,vO,n8,kS]:List ByteArray) ps) fun x2 _=>oS
def wZ(fu:Nat):Prop:= ∀(ps:ByteArray),Ok (dH fu ps) (fun _=>True)
theorem bJ:bY wZ:=(((bY.ge 2147483648).and pR).and zD).imp fun fu ⟨⟨hfu,pR⟩,zD⟩ ps=>by
 refine oB (pR (ps.size:Int) 1 8) fun x2 _=>oW (fun _=>oS) fun g2=>oB (zD ps) fun x5 _=>oC (fun _=>oS) fun g4=>?_;refine CS ?_ ?_
 ·refine Ok.loop1 ?_;rintro i7 ⟨⟩ hl6
  refine oG fun z8=>?_;refine oD (fun g9=>?_) fun g9=>?_
  ·refine oW (fun g10=>?_) fun g10=>?_
   ·exact oD (fun _=>oR) fun g11=>oD (fun _=>oR) fun g12=>oD (fun _=>oR) fun g13=>mP
   exact mP
  exact oD (fun _=>oR) fun g14=>oD (fun _=>oR) fun g15=>oD (fun _=>oR) fun g16=>mP
 rintro⟨⟩-
 exact oS
def QK(fu:Nat):Prop:= ∀(plist:List ByteArray),Ok (B6 fu plist) (fun _=>True)
theorem pA:bY QK:=((bY.ge 2147483648).and bJ).imp fun fu ⟨hfu,bJ⟩ plist=>by
 refine CS ?_ ?_
 ·refine Ok.loop1 ?_;rintro i1 ⟨⟩ hl2
  have:=aY plist
  have:=cI plist i1 hl2
  have:=a7 (aW plist i1)
  exact oB (bJ (aW plist i1)) fun x5 _=>oW (fun _=>oR) fun g5=>mP
 rintro⟨⟩-
 exact oS
def C0(fu:Nat):Prop:= ∀(plist:List ByteArray),Ok (jH fu plist) (fun _=>True)
theorem eC:bY C0:=((bY.ge 2147483648).and dG).imp fun fu ⟨hfu,dG⟩ plist=>by
 refine CS ?_ ?_
 ·refine Ok.loop1 ?_;rintro i1 ⟨⟩ hl2
  have:=aY plist
  refine oG fun z4=>?_
  have:=QA (0:Int).toNat (i1:Int).toNat plist
  have:=cI plist i1 hl2
  have:=a7 (aW plist i1)
  exact oB (dG (List.drop (0:Int).toNat (List.take (i1:Int).toNat plist)) (aW plist i1)) fun x6 _=>oC (fun _=>oR) fun g6=>mP
 rintro⟨⟩-
 exact oS
def QL(fu:Nat):Prop:= ∀(ps:ByteArray),Ok (lP fu ps) (fun r=>wt r=ps.size)
theorem dX:bY QL:=(bY.ge 2147483648).imp fun fu hfu ps=>by
 have:=(aV:wl ([]:List aA)=0∧_)
 have:=aA.wt_mk 1 ps []
 exact oS
def JR(fu:Nat):Prop:= ∀(ps:ByteArray) (pargs:List aA),ps.size+wl pargs≤1073741824→Ok (jL fu ps pargs) (fun r=>wt r=ps.size+wl pargs)
theorem dR:bY JR:=(bY.ge 2147483648).imp fun fu hfu ps pargs hpre=>by
 have:=(aV:wl ([]:List aA)=0∧_)
 have:=aY (pargs)
 refine oG fun z1=>?_
 have:=bV ([]:List aA) pargs
 have:=aA.wt_mk 2 ps (([])++pargs)
 exact oS
def WE(fu:Nat):Prop:= ∀(pa0:aA),wt pa0≤67108864→Ok (lQ fu pa0) (fun r=>wt r+1≤8*(wt pa0+1))
def V6(n:Nat)(m:wP):Prop:= ∀(pa0:aA),wt pa0<n→wt pa0≤67108864→Ok (m pa0) (fun r=>wt r+1≤8*(wt pa0+1))
theorem alK{n fu:Nat}(hfu:2147483648≤fu)(bM:EO fu)(eI:U6 fu){r_sl5Sx:wP}(h_sl5Sx:V6 n r_sl5Sx):V6 (n+1) (ZG fu r_sl5Sx):=by
 intro pa0 hm hpre
 refine CS ?_ ?_
 ·have:=aA.wt_eq pa0
  refine oD (fun g2=>?_) fun g2=>?_
  ·have:ajW.size=1:=rfl
   refine oG fun z3=>?_
   have:=eQ ajW pa0.gName
   exact oB (bM (ajW++pa0.gName)) fun x4 h4=>oL
  refine oD (fun g5=>?_) fun g5=>?_
  ·have:vX.size=3:=rfl
   refine oB (bM vX) fun x7 h6=>oB (bM pa0.gName) fun x9 h7=>?_
   have:=jT x7 x9
   exact oB (eI ([x7,x9]:List aB) bO) fun x11 h8=>oL
  refine oD (fun g9=>?_) fun g9=>?_
  ·have:=aY pa0.gArgs
   refine oD (fun g10=>?_) fun g10=>?_
   ·exact oB (bM pa0.gName) fun x15 h11=>oL
   exact oI
  exact oI
 rintro⟨⟩-
 refine Ok.sok (E:=fun v17=>wl v17≤6) ?_ ?_
 ·have:=aA.wt_eq pa0
  refine oD (fun g13=>?_) fun g13=>?_
  ·have:iA.size=5:=rfl
   refine oB (bM iA) fun x20 h14=>?_
   have:=(aV:wl ([]:List aB)=0∧_)
   have:=b8 x20
   refine oG fun z15=>?_
   have:=bV ([]:List aB) ([x20]:List aB)
   exact oI
  have:=(aV:wl ([]:List aB)=0∧_)
  exact oI
 intro v17 h12
 have:=aA.wt_eq pa0
 refine oB (bM pa0.gName) fun x23 h16=>?_
 have:=aY (v17)
 have:=b8 x23
 refine oG fun z17=>?_
 have:=bV v17 ([x23]:List aB)
 refine IG pa0.gArgs 8 (fun i25 v27 hl19 hI20 _ _=>?_) ?_
 ·have:=aY pa0.gArgs
  have:=cI pa0.gArgs i25 hl19
  refine oB (h_sl5Sx (aW pa0.gArgs i25) bO bO) fun x31 h21=>?_
  have:=aY (v27)
  have:=b8 x31
  refine oG fun z22=>?_
  have:=bV v27 ([x31]:List aB)
  exact mP
 intro v27 h18
 have:s_.size=0:=rfl
 have:=aB.wt_mk s_ v27
 exact oS
theorem amN(n:Nat):bY fun fu=>V6 n (lQ fu):=by
 induction n with
 |zero=>exact .all fun fu=>fun _ h=>absurd h (Nat.not_lt_zero _)
 |succ n ih=>exact bY.succ ((ih.and (((bY.ge 2147483648).and bM).and eI)).imp fun fu ⟨h,⟨⟨hfu,bM⟩,eI⟩⟩=>fun pa0=>by rw [lQ];exact alK hfu bM eI h pa0)
theorem g0:bY WE:=(amN 8589934592).imp fun fu h pa0 hpre=>h pa0 bO hpre
def ah0(fu:Nat):Prop:= ∀(pt:aA) (pleft:Int),wt pt≤1073741824→Ok (n0 fu pt pleft) (fun _=>True)
def LL(n:Nat)(m:t6):Prop:= ∀(pt:aA) (pleft:Int),wt pt<n→wt pt≤1073741824→Ok (m pt pleft) (fun _=>True)
theorem agI{n fu:Nat}(hfu:2147483648≤fu){r_sl4Left:t6}(h_sl4Left:LL n r_sl4Left):LL (n+1) (NL fu r_sl4Left):=by
 intro pt pleft hm hpre
 refine oEN (fun i1 v2 hl2=>?_) ?_
 ·have:=aA.wt_eq pt
  have:=aY pt.gArgs
  refine oD (fun g4=>?_) fun g4=>?_
  ·have:=cI pt.gArgs i1 hl2
   exact oB (h_sl4Left (aW pt.gArgs i1) v2 bO bO) fun x7 _=>mP
  exact oK
 intro v2 _
 exact oS
theorem ajN(n:Nat):bY fun fu=>LL n (n0 fu):=by
 induction n with
 |zero=>exact .all fun fu=>fun _ _ h=>absurd h (Nat.not_lt_zero _)
 |succ n ih=>exact bY.succ ((ih.and (bY.ge 2147483648)).imp fun fu ⟨h,hfu⟩=>fun pt pleft=>by rw [n0];exact agI hfu h pt pleft)
theorem MG:bY ah0:=(ajN 8589934592).imp fun fu h pt pleft hpre=>h pt pleft bO hpre
def WA(fu:Nat):Prop:= ∀(pt:aA),wt pt≤1073741824→Ok (jB fu pt) (fun _=>True)
def A0(n:Nat)(m:nA):Prop:= ∀(pt:aA),wt pt<n→wt pt≤1073741824→Ok (m pt) (fun _=>True)
theorem UJ{n fu:Nat}(hfu:2147483648≤fu)(qO:QJ fu){r_sTypeDepth:nA}(h_sTypeDepth:A0 n r_sTypeDepth):A0 (n+1) (BR fu r_sTypeDepth):=by
 intro pt hm hpre
 refine oEN (fun i1 v2 hl2=>?_) ?_
 ·have:=aA.wt_eq pt
  have:=aY pt.gArgs
  have:=cI pt.gArgs i1 hl2
  refine oB (h_sTypeDepth (aW pt.gArgs i1) bO bO) fun x6 _=>?_
  have:=eL (1+x6)
  exact oB (qO v2 (aR (1+x6))) fun x8 _=>mP
 intro v2 _
 exact oS
theorem XM(n:Nat):bY fun fu=>A0 n (jB fu):=by
 induction n with
 |zero=>exact .all fun fu=>fun _ h=>absurd h (Nat.not_lt_zero _)
 |succ n ih=>exact bY.succ ((ih.and ((bY.ge 2147483648).and qO)).imp fun fu ⟨h,⟨hfu,qO⟩⟩=>fun pt=>by rw [jB];exact UJ hfu qO h pt)
theorem BI:bY WA:=(XM 8589934592).imp fun fu h pt hpre=>h pt bO hpre
def U8(fu:Nat):Prop:= ∀(ps:ByteArray),Ok (FH fu ps) (fun _=>True)
theorem wV:bY U8:=(bY.ge 2147483648).imp fun fu hfu ps=>by
 exact oD (fun _=>oS) fun g1=>oS
def ahZ(fu:Nat):Prop:= ∀(pa0:aA),wt pa0≤1073741824→Ok (nZ fu pa0) (fun _=>True)
def LJ(n:Nat)(m:p6):Prop:= ∀(pa0:aA),wt pa0<n→wt pa0≤1073741824→Ok (m pa0) (fun _=>True)
theorem agE{n fu:Nat}(hfu:2147483648≤fu)(bJ:wZ fu)(wV:U8 fu){r_sl4Form:p6}(h_sl4Form:LJ n r_sl4Form):LJ (n+1) (NK fu r_sl4Form):=by
 intro pa0 hm hpre
 have:=aA.wt_eq pa0
 refine oB (bJ pa0.gName) fun x2 _=>?_;refine CS ?_ ?_
 ·refine CS ?_ ?_
  ·exact oD (fun _=>oI) fun g4=>oI
  intro v4 _
  refine oC (fun g5=>?_) fun g5=>?_
  ·exact oC (fun _=>oI) fun g6=>oI
  refine oD (fun g7=>?_) fun g7=>?_
  ·exact oC (fun _=>oI) fun g8=>oI
  refine oD (fun g9=>?_) fun g9=>?_
  ·refine oC (fun g10=>?_) fun g10=>?_
   ·exact oD (fun _=>oI) fun g11=>oB (wV pa0.gName) fun x14 _=>oC (fun _=>oI) fun g13=>oI
   exact oB (wV pa0.gName) fun x17 _=>oC (fun _=>oI) fun g15=>oI
  exact oL
 intro v3 _
 refine oEN (fun i19 v20 hl17=>?_) ?_
 ·have:=aY pa0.gArgs
  refine oC (fun g19=>?_) fun g19=>?_
  ·have:=cI pa0.gArgs i19 hl17
   exact oB (h_sl4Form (aW pa0.gArgs i19) bO bO) fun x25 _=>mP
  exact mP
 intro v20 _
 exact oS
theorem ajL(n:Nat):bY fun fu=>LJ n (nZ fu):=by
 induction n with
 |zero=>exact .all fun fu=>fun _ h=>absurd h (Nat.not_lt_zero _)
 |succ n ih=>exact bY.succ ((ih.and (((bY.ge 2147483648).and bJ).and wV)).imp fun fu ⟨h,⟨⟨hfu,bJ⟩,wV⟩⟩=>fun pa0=>by rw [nZ];exact agE hfu bJ wV h pa0)
theorem MF:bY ahZ:=(ajL 8589934592).imp fun fu h pa0 hpre=>h pa0 bO hpre
def C3(fu:Nat):Prop:= ∀(pt:aA),wt pt≤1073741824→Ok (jJ fu pt) (fun _=>True)
theorem eD:bY C3:=((((bY.ge 2147483648).and MG).and BI).and MF).imp fun fu ⟨⟨⟨hfu,MG⟩,BI⟩,MF⟩ pt hpre=>by
 refine oB (MG pt 60 bO) fun x2 _=>?_;refine oD (fun g2=>?_) fun g2=>?_
 ·refine oB (BI pt bO) fun x5 _=>?_;refine oD (fun g4=>?_) fun g4=>?_
  ·exact oB (MF pt bO) fun x8 _=>oS
  exact oS
 exact oS
def JN(fu:Nat):Prop:= ∀(pa pb:aA),wt pa≤1073741824→Ok (e8 fu pa pb) (fun _=>True)
def vY(n:Nat)(m:jA):Prop:= ∀(pa pb:aA),2*wt pa+1<n→wt pa≤1073741824→Ok (m pa pb) (fun _=>True)
def EN(n:Nat)(m:n3):Prop:= ∀(pa pb:List aA),2*wl pa<n→wl pa≤1073741824→Ok (m pa pb) (fun _=>True)
theorem T9{n fu:Nat}(hfu:2147483648≤fu){r_sEqualType:jA}(h_sEqualType:vY n r_sEqualType){r_sl4Same:n3}(h_sl4Same:EN n r_sl4Same):vY (n+1) (wK fu r_sEqualType r_sl4Same):=by
 intro pa pb hm hpre
 have:=aA.wt_eq pa
 have:=aA.wt_eq pb
 refine oD (fun g1=>?_) fun g1=>?_
 ·refine oD (fun g2=>?_) fun g2=>?_
  ·exact oB (h_sl4Same pa.gArgs pb.gArgs bO bO) fun x4 _=>oS
  exact oS
 exact oS
theorem agL{n fu:Nat}(hfu:2147483648≤fu){r_sEqualType:jA}(h_sEqualType:vY n r_sEqualType){r_sl4Same:n3}(h_sl4Same:EN n r_sl4Same):EN (n+1) (AW fu r_sEqualType r_sl4Same):=by
 intro pa pb hm hpre
 have:=aY pa
 have:=aY pb
 refine oN (fun _=>oS) fun g1=>?_;refine CS ?_ ?_
 ·refine Ok.loop1 ?_;rintro i2 ⟨⟩ hl3
  have:=aY (pb)
  refine oG fun z5=>?_
  have:=cI pa i2 hl3
  have:=cI pb i2 z5
  exact oB (h_sEqualType (aW pa i2) (aW pb i2) bO bO) fun x7 _=>oW (fun _=>oR) fun g7=>mP
 rintro⟨⟩-
 exact oS
theorem XF(n:Nat):bY fun fu=>vY n (e8 fu)∧EN n (jR fu):=by
 induction n with
 |zero=>exact .all fun fu=>⟨fun _ _ h=>absurd h (Nat.not_lt_zero _),fun _ _ h=>absurd h (Nat.not_lt_zero _)⟩
 |succ n ih=>exact bY.succ ((ih.and (bY.ge 2147483648)).imp fun fu ⟨h,hfu⟩=>⟨fun pa pb=>by rw [e8];exact T9 hfu h.1 h.2 pa pb,fun pa pb=>by rw [jR];exact agL hfu h.1 h.2 pa pb⟩)
theorem sQ:bY JN:=(XF 8589934592).imp fun fu h pa pb hpre=>h.1 pa pb bO hpre
def ah2(fu:Nat):Prop:= ∀(pt:aA) (pout:List ByteArray),wt pt+wl pout≤268435456→Ok (n4 fu pt pout) (fun r=>wl r≤wl pout+wt pt+1)
def LM(n:Nat)(m:sD):Prop:= ∀(pt:aA) (pout:List ByteArray),wt pt<n→wt pt+wl pout≤268435456→Ok (m pt pout) (fun r=>wl r≤wl pout+wt pt+1)
theorem agQ{n fu:Nat}(hfu:2147483648≤fu)(dG:QI fu){r_sl4Vars:sD}(h_sl4Vars:LM n r_sl4Vars):LM (n+1) (NM fu r_sl4Vars):=by
 intro pt pout hm hpre
 have:=aA.wt_eq pt
 refine Ok.sok (E:=fun v2=>wl v2+wl pt.gArgs≤wl pout+wt pt+1) ?_ ?_
 ·refine oD (fun g2=>?_) fun g2=>?_
  ·refine oB (dG pout pt.gName) fun x5 _=>?_;refine oW (fun g4=>?_) fun g4=>?_
   ·have:=aY (pout)
    have:=b8 pt.gName
    have:=a7 pt.gName
    refine oG fun z5=>?_
    have:=bV pout ([pt.gName]:List ByteArray)
    exact oI
   exact oI
  exact oI
 intro v2 h1
 refine IG pt.gArgs 1 (fun i8 v10 hl7 hI8 _ _=>?_) ?_
 ·have:=aY pt.gArgs
  have:=cI pt.gArgs i8 hl7
  exact oB (h_sl4Vars (aW pt.gArgs i8) v10 bO bO) fun x14 h9=>mP
 intro v10 h6
 exact oS
theorem ajQ(n:Nat):bY fun fu=>LM n (n4 fu):=by
 induction n with
 |zero=>exact .all fun fu=>fun _ _ h=>absurd h (Nat.not_lt_zero _)
 |succ n ih=>exact bY.succ ((ih.and ((bY.ge 2147483648).and dG)).imp fun fu ⟨h,⟨hfu,dG⟩⟩=>fun pt pout=>by rw [n4];exact agQ hfu dG h pt pout)
theorem MH:bY ah2:=(ajQ 8589934592).imp fun fu h pt pout hpre=>h pt pout bO hpre
def LP(fu:Nat):Prop:= ∀(pt:aA),wt pt≤268435456→Ok (tU fu pt) (fun r=>wl r≤wt pt+1)
theorem tG:bY LP:=((bY.ge 2147483648).and MH).imp fun fu ⟨hfu,MH⟩ pt hpre=>by
 have:=(aV:wl ([]:List ByteArray)=0∧_)
 exact oB (MH pt ([]:List ByteArray) bO) fun x2 h1=>oS
def LO(fu:Nat):Prop:= ∀(pt:aA),wt pt≤1073741824→Ok (eR fu pt) (fun _=>True)
def tC(n:Nat)(m:iR):Prop:= ∀(pt:aA),wt pt<n→wt pt≤1073741824→Ok (m pt) (fun _=>True)
theorem KV{n fu:Nat}(hfu:2147483648≤fu){r_sHasProjection:iR}(h_sHasProjection:tC n r_sHasProjection):tC (n+1) (tT fu r_sHasProjection):=by
 intro pt hm hpre
 refine CS ?_ ?_
 ·refine Ok.loop1 ?_;rintro i1 ⟨⟩ hl2
  have:=aA.wt_eq pt
  have:=aY pt.gArgs
  have:=cI pt.gArgs i1 hl2
  exact oB (h_sHasProjection (aW pt.gArgs i1) bO bO) fun x5 _=>oC (fun _=>oR) fun g5=>mP
 rintro⟨⟩-
 exact oS
theorem MO(n:Nat):bY fun fu=>tC n (eR fu):=by
 induction n with
 |zero=>exact .all fun fu=>fun _ h=>absurd h (Nat.not_lt_zero _)
 |succ n ih=>exact bY.succ ((ih.and (bY.ge 2147483648)).imp fun fu ⟨h,hfu⟩=>fun pt=>by rw [eR];exact KV hfu h pt)
theorem kK:bY LO:=(MO 8589934592).imp fun fu h pt hpre=>h pt bO hpre
def C1(fu:Nat):Prop:= ∀(pt:aA) (pv:ByteArray),wt pt+pv.size≤1073741824→Ok (dL fu pt pv) (fun _=>True)
def oP(n:Nat)(m:eW):Prop:= ∀(pt:aA) (pv:ByteArray),wt pt<n→wt pt+pv.size≤1073741824→Ok (m pt pv) (fun _=>True)
theorem CW{n fu:Nat}(hfu:2147483648≤fu){r_sCountTypeVariable:eW}(h_sCountTypeVariable:oP n r_sCountTypeVariable):oP (n+1) (pF fu r_sCountTypeVariable):=by
 intro pt pv hm hpre
 refine CS ?_ ?_
 ·refine oD (fun g2=>?_) fun g2=>?_
  ·exact oD (fun _=>oI) fun g3=>oI
  exact oI
 intro v1 _
 refine oEN (fun i4 v5 hl5=>?_) ?_
 ·have:=aA.wt_eq pt
  have:=aY pt.gArgs
  have:=cI pt.gArgs i4 hl5
  exact oB (h_sCountTypeVariable (aW pt.gArgs i4) pv bO bO) fun x9 _=>mP
 intro v5 _
 exact oS
theorem DX(n:Nat):bY fun fu=>oP n (dL fu):=by
 induction n with
 |zero=>exact .all fun fu=>fun _ _ h=>absurd h (Nat.not_lt_zero _)
 |succ n ih=>exact bY.succ ((ih.and (bY.ge 2147483648)).imp fun fu ⟨h,hfu⟩=>fun pt pv=>by rw [dL];exact CW hfu h pt pv)
theorem o8:bY C1:=(DX 8589934592).imp fun fu h pt pv hpre=>h pt pv bO hpre
def ZO(fu:Nat):Prop:= ∀(pv:ByteArray) (pt:aA),pv.size+wt pt≤1073741824→Ok (DZ fu pv pt) (fun _=>True)
theorem DJ:bY ZO:=((bY.ge 2147483648).and o8).imp fun fu ⟨hfu,o8⟩ pv pt hpre=>by
 exact oB (o8 pt pv bO) fun x2 _=>oS
end Go.Proofs.YtpioomclpaiomaaGreat.W

namespace Go.Proofs.YtpioomclpaiomaaGreat.W
set_option linter.unusedSimpArgs false
set_option linter.unusedVariables false
open Go.RowKit Go.WalkArith Go.IntWalk
theorem amE(d:DS)(l:List ByteArray):0<l.length→(d.pick l).size+1≤wl l:=fun h=>by
 have:=agW (d.pick_mem h)
 exact this
theorem ah9(d:DS)(n:Nat):0<n→d.below n<n:=fun h=>d.below_lt h
theorem alS(E:Int): -9223372036854775808≤aR E∧aR E≤9223372036854775807:=by
 unfold aR IntKind.wrap
 simp [IntKind.bits,IntKind.signed]
 omega
inductive G6:aG→Prop
 |mk {k:Int} {t n:ByteArray} {i:Int} {ty:aA} {args:List aG} {arms:List bK} (h:(k=2→0≤i∧i≤1)∧(k=1→i.natAbs≤9223372036854775808)) (ha: ∀a∈args,G6 a) (hm: ∀m∈arms,G6 m.gBody):G6 (.mk k t n i ty args arms)
theorem G6.num{e:aG}(h:G6 e):(e.gKind=2→0≤e.gN∧e.gN≤1)∧(e.gKind=1→e.gN.natAbs≤9223372036854775808):=by cases h;assumption
theorem G6.arg{e:aG}(h:G6 e): ∀a∈e.gArgs,G6 a:=by cases h;assumption
theorem G6.arm{e:aG}(h:G6 e): ∀m∈e.gArms,G6 m.gBody:=by cases h;assumption
theorem G6.zero:G6 (aG.mk 0 s_ s_ 0 (aA.mk 0 s_ []) [] []):= .mk ⟨by omega,by omega⟩ (by simp) (by simp)
section
variable {α:Type}
theorem ag1{P:α→Prop}: ∀a∈([]:List α),P a:=by simp
theorem aj4{P:α→Prop}{l:List α}{x:α}(h: ∀a∈l,P a)(hx:P x): ∀a∈l++ [x],P a:=by
 intro a ha
 rcases List.mem_append.1 ha with ha|ha
 ·exact h a ha
 ·obtain rfl:=List.mem_singleton.1 ha
  exact hx
theorem WI [Inhabited α]{P:α→Prop}{l:List α}{i:Nat}(h: ∀a∈l,P a)(hi:i<l.length):P (aW l i):=h _ (iX hi)
variable [Wt α]
theorem ad7(a:List α)(x:α):(a.length=0→wl (List.drop 1 (a++ [x]))=0)∧(0<a.length→wl (List.drop 1 (a++ [x]))=wl (List.drop 1 a)+wt x+1):=by
 cases a with
 |nil=>exact⟨fun _=>rfl,fun h=>by simp at h⟩
 |cons b a=>exact⟨fun h=>by simp at h,fun _=>by simp only [List.cons_append,List.drop_succ_cons,List.drop_zero];rw [(bV _ _).1,(b8 _).1];omega⟩
theorem aoS(v:List α):wl (List.drop (1:Int).toNat (List.take (((v.length:Nat):Int):Int).toNat v))=wl (List.drop 1 v):=by
 have:List.take (((v.length:Nat):Int):Int).toNat v=v:=by simp
 rw [this]
 rfl
theorem wI(L:List α)(x:Int)(k:Nat):(((k:Int)≤((L.length:Nat):Int)∧x=k)∨(((L.length:Nat):Int)≤k∧x=((L.length:Nat):Int)))→wl (List.drop (x:Int).toNat (List.take (((L.length:Nat):Int):Int).toNat L))+wl (List.take k L)≤wl L:=by
 have e:List.take (((L.length:Nat):Int):Int).toNat L=L:=by simp
 rw [e]
 rintro(⟨h,rfl⟩|⟨h,rfl⟩)
 ·have:=EK k L
  simp only [Int.toNat_natCast]
  omega
 ·simp only [Int.toNat_natCast,List.drop_length]
  have:=nI L k
  show 0+_≤_
  omega
theorem amD(L:List α)(x:Int):(((2:Int)≤((L.length:Nat):Int)∧x=2)∨(((L.length:Nat):Int)≤2∧x=((L.length:Nat):Int)))→wl (List.drop (1:Int).toNat (List.take (x:Int).toNat L))+wl (List.take 1 L)≤wl (List.take 2 L):=by
 have key: ∀M:List α,wl (List.drop (1:Int).toNat M)+wl (List.take 1 M)=wl M:=fun M=>by
  have:=EK 1 M
  show wl (List.drop 1 M)+_=_
  omega
 rintro(⟨h,rfl⟩|⟨h,rfl⟩)
 ·have:=key (L.take 2)
  rw [List.take_take] at this
  exact Nat.le_of_eq this
 ·have h2:L.length≤2:=by omega
  have:=key L
  rw [show List.take (((L.length:Nat):Int):Int).toNat L=L by simp,List.take_of_length_le h2]
  exact Nat.le_of_eq this
variable [Inhabited α]
theorem aeP(L:List α)(a b c:α)(k k1:Nat)(hk:k+1=k1):(k<L.length→wt (aW ((([])++L)++([a,b,c]:List α)) k)+1+wl (List.take k L)=wl (List.take k1 L))∧(L.length≤k→k<L.length+3→wt (aW ((([])++L)++([a,b,c]:List α)) k)≤wt a+wt b+wt c∧wl (List.take k L)=wl L∧wl (List.take k1 L)=wl L)∧wl (List.take k1 L)≤wl L:=by
 subst hk
 rw [List.nil_append]
 refine⟨fun h=>?_,fun h h3=>⟨?_,by rw [List.take_of_length_le h],by rw [List.take_of_length_le (by omega)]⟩,nI L _⟩
 ·have h2:=nJ L k h
  have e:aW (L++ [a,b,c]) k=aW L k:=by
   unfold aW
   rw [List.getElem?_append_left h]
  rw [e]
  omega
 ·have e:aW (L++ [a,b,c]) k=aW [a,b,c] (k-L.length):=by
   unfold aW
   rw [List.getElem?_append_right h]
  rw [e]
  have:k-L.length=0∨k-L.length=1∨k-L.length=2:=by omega
  rcases this with h|h|h<;>rw [h]<;>simp [aW]<;>omega
end
theorem oX{α β:Type}[Wt α]{v:List α}{x:α}{PA:α→Prop}{E:List α→Prop}{Q:β→Prop}{m:List α→Prop}(hB: ∀a∈v,PA a)(h:m (v++ [x]):=by first|omega|(dsimp only;omega))(hx:PA x:=by first|assumption|exact G6.zero):Ok (some (LR.next (v++ [x]))) (PL Q (fun v=>m v∧ ∀a∈v,PA a) E):=⟨_,rfl,h,aj4 hB hx⟩
theorem ZN{α:Type}{P1 P2:α→Prop}{a:α}(h:P1 a:=by first|omega|(dsimp only;omega))(k:P2 a:=by first|assumption|exact G6.zero|exact .mk ⟨by omega,by omega⟩ (by first|assumption|exact ag1) (by first|assumption|exact ag1)):Ok (some a) (fun a=>P1 a∧P2 a):=⟨a,rfl,h,k⟩
def aoH(p r:cM):Prop:=r.gs=p.gs∧p.gat≤r.gat∧r.gat≤((p.gs.size:Nat):Int)∧r.gdeep=p.gdeep∧r.gbad=p.gbad
def U7(fu:Nat):Prop:= ∀p:cM,0≤p.gat→p.gat≤((p.gs.size:Nat):Int)→p.gs.size≤1048576→Ok (wX fu p) (aoH p)
theorem VJ:bY U7:=(bY.ge 2147483648).imp fun fu hfu p h0 h1 h2=>by
 unfold wX
 refine Ok.sok (E:=fun v1=>p.gat≤v1∧v1≤((p.gs.size:Nat):Int)) ?_ (fun v1 h=>Ok.some ⟨rfl,h.1,h.2,rfl,rfl⟩)
 unfold S2
 refine Ok.loopW (fun v1=>p.gat≤v1∧v1≤((p.gs.size:Nat):Int)) (fun v1=>(((p.gs.size:Nat):Int)-v1).toNat) ?_ _ _ bO bO
 intro v1 hI
 have:=eL (v1+1)
 unfold S1
 refine Ok.swd (fun g=>?_) (fun g=>Ok.brk hI)
 refine Ok.gdk bO (fun z=>?_)
 refine Ok.swd (fun _=>Ok.next bO) (fun _=>?_)
 refine Ok.swd (fun _=>Ok.next bO) (fun _=>Ok.brk hI)
def Z3(p:cM)(r:aB×cM):Prop:=r.2.gs=p.gs∧p.gat≤r.2.gat∧r.2.gat≤((p.gs.size:Nat):Int)∧(r.2.gbad=false→r.2.gdeep=p.gdeep∧(wt r.1:Int)+1≤2*(r.2.gat-p.gat))
def aj2(n:Nat)(r:cM→Option (aB×cM)):Prop:= ∀p:cM,(14-p.gdeep).toNat<n→0≤p.gat→p.gat≤((p.gs.size:Nat):Int)→p.gs.size≤1048576→0≤p.gdeep→p.gdeep≤14→p.gbad=false→Ok (r p) (Z3 p)
theorem af4(n fu:Nat)(hfu:2147483648≤fu)(k1:U7 fu)(k2:U5 fu)(r:sB)(hr:aj2 n r):aj2 (n+1) (FF fu r):=by
 intro p hn h0 h1 h2 hd hd2 hb
 unfold FF
 refine Ok.bd (k1 p h0 h1 h2) ?_;rintro x ⟨e1,e2,e3,e4,e5⟩
 have e3':x.gat≤((x.gs.size:Nat):Int):=by rw [e1];exact e3
 have bad: ∀v:Int,p.gat≤v→v≤((p.gs.size:Nat):Int)→Ok (some ((aB.mk s_ []),(cM.mk x.gs v x.gdeep (aR (x.gsize+1)) true))) (Z3 p):=fun v hv hv2=>Ok.some ⟨e1,hv,hv2,fun h=>by cases h⟩
 refine Ok.swd (fun _=>bad _ e2 e3) (fun g1=>?_)
 refine Ok.swd (fun _=>bad _ e2 e3) (fun g2=>?_)
 refine Ok.sok (E:=fun v=>x.gat≤v∧v≤((x.gs.size:Nat):Int)) ?_ ?_
 ·unfold SZ
  have hz:x.gs.size≤1048576:=by rw [e1];exact h2
  refine Ok.loopW (fun v1=>x.gat≤v1∧v1≤((x.gs.size:Nat):Int)) (fun v1=>(((x.gs.size:Nat):Int)-v1).toNat) ?_ _ _ bO bO
  intro v1 hI
  have:=eL (v1+1)
  unfold SX
  refine Ok.swd (fun g=>?_) (fun g=>Ok.brk hI)
  refine Ok.gdk bO (fun z=>?_)
  refine Ok.bd (k2 _) ?_;rintro b-
  exact Ok.sw (fun _=>Ok.next bO) (fun _=>Ok.brk hI)
 intro v hv
 refine Ok.swd (fun g3=>?_) (fun g3=>?_)
 ·refine Ok.gdk bO (fun z=>Ok.some ⟨e1,by show _≤v;omega,by show v≤_;rw [← e1];exact hv.2,fun _=>⟨e4,?_⟩⟩)
  show(wt (aB.mk _ []):Int)+1≤2*(v-p.gat)
  rw [aB.wt_mk,A6]
  have:wl ([]:List aB)=0:=rfl
  omega
 ·refine Ok.gdk bO (fun z=>?_)
  have hvp:v≤((p.gs.size:Nat):Int):=by rw [← e1];exact hv.2
  refine Ok.swn (fun _=>bad _ (by omega) hvp) (fun g4=>?_)
  refine Ok.swd (fun _=>bad _ (by omega) hvp) (fun g5=>?_)
  have w1:=eL (v+1)
  have w2:=eL (x.gdeep+1)
  have hz:x.gs.size≤1048576:=by rw [e1];exact h2
  refine Ok.sok (E:=fun(q:ByteArray×Int×Int×Int×Bool×List aB)=>q.1=p.gs∧p.gat≤q.2.1∧q.2.1≤((p.gs.size:Nat):Int)∧q.2.2.2.2.1=true) ?_ ?_
  ·unfold S0
   refine Ok.loopW (fun(q:ByteArray×Int×Int×Int×Bool×List aB)=>q.1=p.gs∧v+1≤q.2.1∧q.2.1≤((p.gs.size:Nat):Int)∧(q.2.2.2.2.1=false→q.2.2.1=p.gdeep+1∧(wl q.2.2.2.2.2:Int)≤2*(q.2.1-(v+1)))) (fun q=>(2*(((p.gs.size:Nat):Int)-q.2.1)).toNat+(if q.2.2.2.2.1 then 0 else 1)) ?_ _ _ ?_ ?_
   ·rintro⟨v17,v18,v19,v20,v21,v23⟩ ⟨i1,i2,i3,i4⟩
    dsimp only at i1 i2 i3 i4
    subst i1
    unfold SY
    refine Ok.swb (fun g6=>?_) (fun g6=>Ok.brk ⟨rfl,by show p.gat≤v18;omega,i3,g6⟩)
    subst g6
    obtain⟨i5,i6⟩:=i4 rfl
    subst i5
    refine Ok.bd (k1 _ (by show 0≤v18;omega) i3 h2) ?_;rintro y ⟨f1,f2,f3,f4,f5⟩
    replace f1:y.gs=p.gs:=f1
    replace f2:v18≤y.gat:=f2
    replace f3:y.gat≤((p.gs.size:Nat):Int):=f3
    replace f4:y.gdeep=p.gdeep+1:=f4
    replace f5:y.gbad=false:=f5
    have hl:=aY v23
    have step: ∀q:aB×cM,Z3 y q→Ok (gd ((v23).length+(([q.1]:List aB)).length≤68719476736) (some (LR.next (q.2.gs,q.2.gat,q.2.gdeep,q.2.gsize,q.2.gbad,(v23++([q.1]:List aB)))))) (PL (Z3 p) (fun s'=>(fun(q:ByteArray×Int×Int×Int×Bool×List aB)=>q.1=p.gs∧v+1≤q.2.1∧q.2.1≤((p.gs.size:Nat):Int)∧(q.2.2.2.2.1=false→q.2.2.1=p.gdeep+1∧(wl q.2.2.2.2.2:Int)≤2*(q.2.1-(v+1)))) s'∧(fun(q:ByteArray×Int×Int×Int×Bool×List aB)=>(2*(((p.gs.size:Nat):Int)-q.2.1)).toNat+(if q.2.2.2.2.1 then 0 else 1)) s'<(fun(q:ByteArray×Int×Int×Int×Bool×List aB)=>(2*(((p.gs.size:Nat):Int)-q.2.1)).toNat+(if q.2.2.2.2.1 then 0 else 1)) (p.gs,v18,p.gdeep+1,v20,false,v23)) (fun(q:ByteArray×Int×Int×Int×Bool×List aB)=>q.1=p.gs∧p.gat≤q.2.1∧q.2.1≤((p.gs.size:Nat):Int)∧q.2.2.2.2.1=true)):=by
     rintro⟨a,b⟩ ⟨j1,j2,j3,j4⟩
     dsimp only at j1 j2 j3 j4
     have j3':b.gat≤((p.gs.size:Nat):Int):=by rw [← f1];exact j3
     have l1:=b8 a
     refine Ok.gdk (by dsimp only;omega) (fun _=>Ok.next ⟨⟨j1.trans f1,by show v+1≤b.gat;omega,j3',fun hb2=>?_⟩,?_⟩)
     ·obtain⟨j5,j6⟩:=j4 hb2
      refine⟨by show b.gdeep=_;rw [j5,f4],?_⟩
      show(wl (v23++ [a]):Int)≤2*(b.gat-(v+1))
      have:=bV v23 [a]
      omega
     ·dsimp only
      cases hbb:b.gbad with
      |true=>simp;omega
      |false=>
       obtain⟨j5,j6⟩:=j4 hbb
       simp
       omega
    have call:Ok (r y) (Z3 y):=hr y (by rw [f4];omega) (by omega) (by rw [f1];exact f3) (by rw [f1];exact h2) (by rw [f4];omega) (by rw [f4];omega) f5
    have w3:=eL (y.gat+1)
    have w4:=eL (y.gdeep-1)
    have hys:y.gs.size=p.gs.size:=by rw [f1]
    refine Ok.swd (fun g7=>?_) (fun g7=>Ok.bd call step)
    refine Ok.gdk (by omega) (fun z2=>?_)
    refine Ok.swd (fun g8=>Ok.ret ⟨f1,by show p.gat≤aR _;omega,by show aR _≤_;omega,fun _=>⟨by show aR _=_;omega,?_⟩⟩) (fun g8=>Ok.bd call step)
    show(wt (aB.mk s_ v23):Int)+1≤2*(aR (y.gat+1)-p.gat)
    rw [aB.wt_mk]
    have:s_.size=0:=rfl
    omega
   ·dsimp only
    have: ∀b:Bool,(if b then 0 else 1)≤1:=by decide
    have:=this x.gbad
    omega
   ·have hxs:x.gs.size=p.gs.size:=by rw [e1]
    refine⟨e1,by dsimp only;omega,by dsimp only;omega,fun _=>⟨by dsimp only;omega,?_⟩⟩
    show((wl ([]:List aB):Nat):Int)≤2*(aR (v+1)-(v+1))
    have:wl ([]:List aB)=0:=rfl
    omega
  ·rintro⟨v17,v18,v19,v20,v21,v23⟩ ⟨i1,i2,i3,i4⟩
   dsimp only at i1 i2 i3 i4
   exact Ok.some ⟨i1,i2,i3,fun h=>by rw [show v21=false from h] at i4;cases i4⟩
theorem ajI(n:Nat):bY fun fu=>aj2 n (pZ fu):=by
 induction n with
 |zero=>exact .all fun fu p h=>absurd h (Nat.not_lt_zero _)
 |succ n ih=>
  refine bY.succ ((ih.and (((bY.ge 2147483648).and VJ).and EW)).imp fun fu h=>?_)
  intro p
  rw [pZ]
  exact af4 n fu h.2.1.1 h.2.1.2 h.2.2 _ h.1 p
def TM(fu:Nat):Prop:= ∀ps:ByteArray,ps.size≤1048576→Ok (uD fu ps) (fun r=>wt r.1≤2*ps.size)
theorem zE:bY TM:=(((ajI 15).and VJ).and cL).imp fun fu hh ps h=>by
 obtain⟨⟨k1,k2⟩,k3⟩:=hh
 have zero: ∀b:Bool,Ok (some ((aB.mk s_ []),b)) (fun r=>wt r.1≤2*ps.size):=fun b=>Ok.some (by
  show wt (aB.mk s_ [])≤_
  rw [aB.wt_mk]
  have:s_.size=0:=rfl
  have:wl ([]:List aB)=0:=rfl
  omega)
 unfold uD
 refine Ok.bd (k1 _ (by show(14-(0:Int)).toNat<15;omega) (Int.le_refl _) (by show(0:Int)≤_;omega) h (Int.le_refl _) (by show(0:Int)≤14;omega) rfl) ?_;rintro⟨x,r⟩ ⟨e1,e2,e3,e4⟩
 dsimp only at e1 e2 e3 e4
 replace e1:r.gs=ps:=e1
 replace e2:0≤r.gat:=e2
 replace e3:r.gat≤((ps.size:Nat):Int):=e3
 refine Ok.bd (k2 r e2 (by rw [e1];exact e3) (by rw [e1];exact h)) ?_;rintro y ⟨f1,f2,f3,f4,f5⟩
 refine Ok.sw (fun _=>zero _) (fun g=>?_)
 obtain⟨-,e5⟩:=e4 (by rw [← f5];exact g)
 replace e5:(wt x:Int)+1≤2*(r.gat-0):=e5
 refine Ok.swn (fun _=>zero _) (fun _=>?_)
 refine Ok.bd (k3 x (by omega)) ?_;rintro b-
 exact Ok.swb (fun _=>zero _) (fun _=>Ok.some (by show wt x≤_;omega))
theorem an8{v:Int}{k:Nat}(h:v.natAbs<10^(k+1)):(v.tdiv 10).natAbs<10^k:=by
 rw [Int.natAbs_tdiv,Nat.pow_succ] at*
 show v.natAbs/10<_
 omega
def A2(fu:Nat):Prop:= ∀pn:Int,pn.natAbs≤9223372036854775808→Ok (m6 fu pn) (fun r=>r.size≤21)
theorem lG:bY A2:=(bY.ge 18446744073709551616).imp fun fu hfu pn h=>by
 unfold m6
 refine Ok.swd (fun _=>Ok.some (by decide)) (fun _=>?_)
 refine Ok.sok (E:=fun q:Int×ByteArray=>q.2.size≤20) ?_ ?_
 ·unfold GY
  refine Ok.loopW (fun q:Int×ByteArray=>q.1.natAbs≤9223372036854775808∧ ∃k,q.2.size+k≤19∧q.1.natAbs<10^k) (fun q=>q.1.natAbs) ?_ _ _ (by dsimp only;omega) ⟨h,19,by show(0:Nat)+19≤19;omega,by dsimp only;omega⟩
  rintro⟨v2,v3⟩ ⟨h1,k,h2,h3⟩
  dsimp only at h1 h2 h3
  unfold GX
  refine Ok.swn (fun g=>?_) (fun _=>Ok.brk (by dsimp only;omega))
  obtain⟨k,rfl⟩: ∃m,k=m+1:=by
   rcases k with _|m
   ·exfalso
    have:(10:Nat)^0=1:=rfl
    omega
   ·exact⟨m,rfl⟩
  have h4:=an8 h3
  have h5:(v2.tdiv 10).natAbs<v2.natAbs:=by
   rw [Int.natAbs_tdiv]
   show v2.natAbs/10<_
   omega
  have w:=eL (v2.tdiv 10)
  have w:aR (v2.tdiv 10)=v2.tdiv 10:=w (by omega)
  have fin: ∀u:UInt8,Ok (gd ((bytesStr ([u]:List UInt8)).size+(v3).size≤1099511627776) (some (LR.next ((aR ((v2).tdiv 10)),((bytesStr ([u]:List UInt8))++v3))))) (PL (fun r:ByteArray=>r.size≤21) (fun s'=>(fun q:Int×ByteArray=>q.1.natAbs≤9223372036854775808∧ ∃k,q.2.size+k≤19∧q.1.natAbs<10^k) s'∧(fun q:Int×ByteArray=>q.1.natAbs) s'<(fun q:Int×ByteArray=>q.1.natAbs) (v2,v3)) (fun q:Int×ByteArray=>q.2.size≤20)):=fun u=>by
   have e1:=aj7 [u]
   have e2: [u].length=1:=rfl
   have e3:=eQ (bytesStr [u]) v3
   refine Ok.gdk (by omega) (fun _=>Ok.next ⟨⟨by dsimp only;rw [w];omega,k,by dsimp only;omega,by dsimp only;rw [w];exact h4⟩,by dsimp only;rw [w];exact h5⟩)
  exact Ok.swd (fun _=>fin _) (fun _=>fin _)
 ·rintro⟨v2,v3⟩ hv
  dsimp only at hv
  have:CZ.size=1:=rfl
  have:=eQ CZ v3
  exact Ok.swd (fun _=>Ok.gdk (by omega) (fun _=>Ok.some bO)) (fun _=>Ok.some bO)
def yD(fu:Nat):Prop:= ∀ps:ByteArray,Ok (yO fu ps) (fun r=>r.1.natAbs≤9223372036854775808)
theorem lH:bY yD:=lG.imp fun fu k ps=>by
 have rng: ∀E:Int,(aR E).natAbs≤9223372036854775808:=fun E=>by have:=alS E;omega
 have fin: ∀v:Int,v.natAbs≤9223372036854775808→Ok (bd (m6 fu v) (fun x18=>sw (!decide (x18=ps)) (some ((0:Int),false)) (some (v,true)))) (fun r=>r.1.natAbs≤9223372036854775808):=fun v hv=>by
  refine Ok.bd (k v hv) ?_;rintro x-
  exact Ok.swn (fun _=>Ok.some (by decide)) (fun _=>Ok.some hv)
 have loop: ∀(f:Nat→Int→Option (LR Int (Int×Bool))) (n:Nat),(∀i s,i<n→Ok (f i s) (PL (fun r:Int×Bool=>r.1.natAbs≤9223372036854775808) (fun v:Int=>v.natAbs≤9223372036854775808) (fun v:Int=>v.natAbs≤9223372036854775808)))→Ok (loopN f (n-0) 0 0) (PS (fun r:Int×Bool=>r.1.natAbs≤9223372036854775808) (fun v:Int=>v.natAbs≤9223372036854775808)):=fun f n hf=>Ok.loop0 (fun _ v=>v.natAbs≤9223372036854775808) (by decide) (fun i s _ h=>h) (fun i s hi _=>hf i s hi)
 unfold yO
 refine Ok.bd (Q:=fun r:Int×Bool=>r.1.natAbs≤9223372036854775808) ?_ (fun r hr=>by obtain⟨a,b⟩:=r;exact Ok.some hr)
 unfold NH
 have hps:((ps.size:Nat):Int)=((ps.size:Nat):Int):=rfl
 refine Ok.swd (fun g=>?_) (fun g=>?_)
 ·refine Ok.gdk (by omega) (fun _=>?_)
  refine Ok.sok (E:=fun _=>True) ?_ ?_
  ·unfold SQ
   exact Ok.swd (fun _=>Ok.gdk (by omega) (fun _=>Ok.inr trivial)) (fun _=>Ok.inr trivial)
  rintro v3-
  refine Ok.swd (fun _=>Ok.some (by decide)) (fun _=>?_)
  refine Ok.swd (fun _=>Ok.some (by decide)) (fun _=>?_)
  refine Ok.sok (E:=fun v:Int=>v.natAbs≤9223372036854775808) ?_ ?_
  ·unfold SU
   refine loop _ _ (fun i s hi=>?_)
   unfold SS
   refine Ok.gdk hi (fun _=>?_)
   exact Ok.swd (fun _=>Ok.ret (by decide)) (fun _=>Ok.swd (fun _=>Ok.ret (by decide)) (fun _=>Ok.next (rng _)))
  intro v9 hv
  refine Ok.sok (E:=fun v:Int=>v.natAbs≤9223372036854775808) ?_ ?_
  ·unfold SR
   exact Ok.swd (fun _=>Ok.inr (rng _)) (fun _=>Ok.inr hv)
  intro v15 hv
  exact fin v15 hv
 ·refine Ok.swd (fun _=>Ok.some (by decide)) (fun _=>?_)
  refine Ok.swd (fun _=>Ok.some (by decide)) (fun _=>?_)
  refine Ok.sok (E:=fun v:Int=>v.natAbs≤9223372036854775808) ?_ (fun v hv=>fin v hv)
  unfold SV
  refine loop _ _ (fun i s hi=>?_)
  unfold ST
  refine Ok.gdk hi (fun _=>?_)
  exact Ok.swd (fun _=>Ok.ret (by decide)) (fun _=>Ok.swd (fun _=>Ok.ret (by decide)) (fun _=>Ok.next (rng _)))
end Go.Proofs.YtpioomclpaiomaaGreat.W

namespace Go.Proofs.YtpioomclpaiomaaGreat.W
set_option linter.unusedSimpArgs false
set_option linter.unusedVariables false
set_option maxRecDepth 20000
set_option maxHeartbeats 4000000
open Go.RowKit Go.WalkArith Go.IntWalk
attribute [local irreducible] wt wl
def PN(fu:Nat):Prop:= ∀(pa0:aB),wt pa0≤268435456→Ok (lR fu pa0) (fun r=>wt r≤2*wt pa0)
def V7(n:Nat)(m:CA):Prop:= ∀(pa0:aB),wt pa0<n→wt pa0≤268435456→Ok (m pa0) (fun r=>wt r≤2*wt pa0)
theorem alN{n fu:Nat}(hfu:2147483648≤fu)(dX:QL fu)(dR:JR fu){r_sl5Ty:CA}(h_sl5Ty:V7 n r_sl5Ty):V7 (n+1) (ZH fu r_sl5Ty):=by
 intro pa0 hm hpre
 have:=aB.wt_eq pa0
 have:s_.size=0:=rfl
 refine oN (fun g1=>?_) fun g1=>?_
 ·have:=C5 g1
  refine oG fun z2=>?_;refine oD (fun g3=>?_) fun g3=>?_
  ·refine oG fun z4=>?_
   have:=A6 pa0.gAtom (1:Int).toNat (pa0.gAtom.size:Int).toNat
   exact oB (dX (pa0.gAtom.extract (1:Int).toNat (pa0.gAtom.size:Int).toNat)) fun x6 h5=>oS
  have:=(aV:wl ([]:List aA)=0∧_)
  exact oB (dR pa0.gAtom ([]:List aA) bO) fun x8 h6=>oS
 have:=aY pa0.gList
 refine oD (fun g7=>?_) fun g7=>?_
 ·have:=(aV:wl ([]:List aA)=0∧_)
  have:=aA.wt_mk 0 s_ []
  exact oS
 have:=aY (pa0.gList)
 refine oG fun z8=>?_
 have:=(aV:wl ([]:List aA)=0∧_)
 refine Ok.sok (E:=fun v13=>wl v13+2*wl (List.take 1 pa0.gList)≤wl ([]:List aA)+2*wl pa0.gList∧(v13.length=0∨wl (List.drop 1 v13)+2*wl (List.take 2 pa0.gList)≤2*wl pa0.gList)) ?_ ?_
 ·refine Ok.loop0 (fun i11 v13=>wl v13+2*wl (List.take 1 pa0.gList)≤wl ([]:List aA)+2*wl (List.take i11 pa0.gList)∧((i11=1∧v13.length=0)∨(2≤i11∧1≤v13.length∧wl (List.drop 1 v13)+2*wl (List.take 2 pa0.gList)≤2*wl (List.take i11 pa0.gList)))) (by exact bO) (by rintro i11 v13-hI;have:=nI pa0.gList i11;(try dsimp only at hI ⊢);omega) ?_;rintro i11 v13 hl10 hI11
  have:=nJ pa0.gList i11 hl10
  have:=nI pa0.gList (i11+1)
  have:=cI pa0.gList i11 hl10
  refine oB (h_sl5Ty (aW pa0.gList i11) bO bO) fun x17 h12=>?_
  have:=aY (v13)
  have:=b8 x17
  refine oG fun z13=>?_
  have:=bV v13 ([x17]:List aA)
  have:=ad7 v13 x17
  have:=ZK pa0.gList 2 (i11+1)
  exact Ok.next bO
 intro v13 h9
 have:=cI pa0.gList 0 z8
 have:wl (List.take 1 pa0.gList)=wl (List.take 0 pa0.gList)+wt (aW pa0.gList 0)+1:=G4 pa0.gList 0 z8
 have:=aB.wt_eq (aW pa0.gList 0)
 have:iA.size=5:=rfl
 refine oD (fun g14=>?_) fun g14=>?_
 ·have:=congrArg ByteArray.size g14
  have:=aY v13
  refine oD (fun g15=>?_) fun g15=>?_
  ·refine oG fun z16=>?_
   have:=cI pa0.gList 1 z16
   have:wl (List.take 2 pa0.gList)=wl (List.take 1 pa0.gList)+wt (aW pa0.gList 1)+1:=G4 pa0.gList 1 z16
   have:=aB.wt_eq (aW pa0.gList 1)
   refine oN (fun g17=>?_) fun g17=>?_
   ·have:=C5 g17
    refine oG fun z18=>?_
    have:=wI v13 1 1
    have:=aoS v13
    have:=aA.wt_mk 3 ((aW pa0.gList 1).gAtom) (List.drop (1:Int).toNat (List.take (v13.length:Int).toNat v13))
    exact oS
   have:vX.size=3:=rfl
   refine oD (fun g19=>?_) fun g19=>?_
   ·have:=congrArg ByteArray.size g19
    have:=aA.wt_mk 2 ((aW pa0.gList 0).gAtom) v13
    exact oS
   have:=aA.wt_mk 2 ((aW pa0.gList 0).gAtom) v13
   exact oS
  have:vX.size=3:=rfl
  refine oD (fun g20=>?_) fun g20=>?_
  ·have:=congrArg ByteArray.size g20
   refine oD (fun g21=>?_) fun g21=>?_
   ·refine oG fun z22=>?_
    have:=cI pa0.gList 1 z22
    have:wl (List.take 2 pa0.gList)=wl (List.take 1 pa0.gList)+wt (aW pa0.gList 1)+1:=G4 pa0.gList 1 z22
    have:=aB.wt_eq (aW pa0.gList 1)
    refine oN (fun g23=>?_) fun g23=>?_
    ·have:=C5 g23
     have:=aA.wt_mk 4 ((aW pa0.gList 1).gAtom) []
     exact oS
    have:=aA.wt_mk 2 ((aW pa0.gList 0).gAtom) v13
    exact oS
   have:=aA.wt_mk 2 ((aW pa0.gList 0).gAtom) v13
   exact oS
  have:=aA.wt_mk 2 ((aW pa0.gList 0).gAtom) v13
  exact oS
 have:vX.size=3:=rfl
 refine oD (fun g24=>?_) fun g24=>?_
 ·have:=congrArg ByteArray.size g24
  have:=aY v13
  refine oD (fun g25=>?_) fun g25=>?_
  ·refine oG fun z26=>?_
   have:=cI pa0.gList 1 z26
   have:wl (List.take 2 pa0.gList)=wl (List.take 1 pa0.gList)+wt (aW pa0.gList 1)+1:=G4 pa0.gList 1 z26
   have:=aB.wt_eq (aW pa0.gList 1)
   refine oN (fun g27=>?_) fun g27=>?_
   ·have:=C5 g27
    have:=aA.wt_mk 4 ((aW pa0.gList 1).gAtom) []
    exact oS
   have:=aA.wt_mk 2 ((aW pa0.gList 0).gAtom) v13
   exact oS
  have:=aA.wt_mk 2 ((aW pa0.gList 0).gAtom) v13
  exact oS
 have:=aA.wt_mk 2 ((aW pa0.gList 0).gAtom) v13
 exact oS
theorem amO(n:Nat):bY fun fu=>V7 n (lR fu):=by
 induction n with
 |zero=>exact .all fun fu=>fun _ h=>absurd h (Nat.not_lt_zero _)
 |succ n ih=>exact bY.succ ((ih.and (((bY.ge 2147483648).and dX).and dR)).imp fun fu ⟨h,⟨⟨hfu,dX⟩,dR⟩⟩=>fun pa0=>by rw [lR];exact alN hfu dX dR h pa0)
theorem gJ:bY PN:=(amO 8589934592).imp fun fu h pa0 hpre=>h pa0 bO hpre
def zO(fu:Nat):Prop:= ∀(pn:Int),pn.natAbs≤9223372036854775808→Ok (sA fu pn) (fun r=>wt r=0∧G6 r)
theorem eY:bY zO:=(bY.ge 2147483648).imp fun fu hfu pn hpre=>by
 have:s_.size=0:=rfl
 have:=(aV:wl ([]:List aA)=0∧_)
 have:=aA.wt_mk 0 s_ []
 have:=(aV:wl ([]:List aG)=0∧_)
 have:=(aV:wl ([]:List bK)=0∧_)
 have:=aG.wt_mk 1 s_ s_ pn (aA.mk 0 s_ []) [] []
 exact ZN
def zP(fu:Nat):Prop:= ∀(ps:ByteArray),Ok (tZ fu ps) (fun r=>wt r=ps.size∧G6 r)
theorem fD:bY zP:=(bY.ge 2147483648).imp fun fu hfu ps=>by
 have:s_.size=0:=rfl
 have:=(aV:wl ([]:List aA)=0∧_)
 have:=aA.wt_mk 0 s_ []
 have:=(aV:wl ([]:List aG)=0∧_)
 have:=(aV:wl ([]:List bK)=0∧_)
 have:=aG.wt_mk 3 s_ ps 0 (aA.mk 0 s_ []) [] []
 exact ZN
def JQ(fu:Nat):Prop:= ∀(pa pb:Int),Ok (pK fu pa pb) (fun r=>(pa≤pb∧r=pa)∨(pb≤pa∧r=pb))
theorem hY:bY JQ:=(bY.ge 2147483648).imp fun fu hfu pa pb=>by
 exact oD (fun _=>oS) fun g1=>oS
def adR(fu:Nat):Prop:= ∀(pa0:aB),wt pa0≤67108864→Ok (gF fu pa0) (fun r=>wt r≤2*wt pa0∧G6 r)
def wY(n:Nat)(m:gT):Prop:= ∀(pa0:aB),2*wt pa0+1<n→wt pa0≤67108864→Ok (m pa0) (fun r=>wt r≤2*wt pa0∧G6 r)
def uK(n:Nat)(m:fX):Prop:= ∀(plist:List aB),2*wl plist<n→wl plist≤67108864→Ok (m plist) (fun r=>wl r≤2*wl plist∧ ∀a∈r,G6 a)
def zN(n:Nat)(m:iU):Prop:= ∀(px:aB),2*wt px+1<n→wt px≤67108864→Ok (m px) (fun r=>wt r≤2*wt px∧G6 r.gBody)
theorem acA{n fu:Nat}(hfu:2147483648≤fu)(lH:yD fu)(eY:zO fu)(fD:zP fu)(hY:JQ fu)(gJ:PN fu)(gS:A3 fu){r_sl12Expr:gT}(h_sl12Expr:wY n r_sl12Expr){r_sl12Exprs:fX}(h_sl12Exprs:uK n r_sl12Exprs){r_sl12Arm:iU}(h_sl12Arm:zN n r_sl12Arm):wY (n+1) (I7 fu r_sl12Expr r_sl12Exprs r_sl12Arm):=by
 intro pa0 hm hpre
 have:=aB.wt_eq pa0
 have:s_.size=0:=rfl
 refine oN (fun g1=>?_) fun g1=>?_
 ·have:=C5 g1
  refine tR (lH pa0.gAtom) fun x3 x4 h2=>?_
  dsimp only at h2
  refine oC (fun g3=>?_) fun g3=>?_
  ·exact N6 (eY x3 bO) fun x7 h4 h4B=>ZN
  have:n8.size=4:=rfl
  refine oD (fun g5=>?_) fun g5=>?_
  ·have:=congrArg ByteArray.size g5
   have:=(aV:wl ([]:List aA)=0∧_)
   have:=aA.wt_mk 0 s_ []
   have:=(aV:wl ([]:List aG)=0∧_)
   have:=(aV:wl ([]:List bK)=0∧_)
   have:=aG.wt_mk 2 s_ s_ 1 (aA.mk 0 s_ []) [] []
   exact ZN
  have:kS.size=5:=rfl
  refine oD (fun g6=>?_) fun g6=>?_
  ·have:=congrArg ByteArray.size g6
   have:=(aV:wl ([]:List aA)=0∧_)
   have:=aA.wt_mk 0 s_ []
   have:=(aV:wl ([]:List aG)=0∧_)
   have:=(aV:wl ([]:List bK)=0∧_)
   have:=aG.wt_mk 2 s_ s_ 0 (aA.mk 0 s_ []) [] []
   exact ZN
  exact N6 (fD pa0.gAtom) fun x11 h7 h7B=>ZN
 have:=(aV:wl ([]:List aB)=0∧_)
 have:=aY (pa0.gList)
 refine oG fun z8=>?_
 have:=bV ([]:List aB) pa0.gList
 have:=aB.wt_mk s_ []
 have:=CR (aB.mk s_ []) (aB.mk s_ []) (aB.mk s_ [])
 refine oG fun z9=>?_
 have:=bV (([])++pa0.gList) ([(aB.mk s_ []),(aB.mk s_ []),(aB.mk s_ [])]:List aB)
 refine oG fun z10=>?_
 have:=aeP pa0.gList (aB.mk s_ []) (aB.mk s_ []) (aB.mk s_ []) 1 2 rfl
 refine Ok.lt fun y15 h11=>?_
 have:=congrArg wt h11
 refine oG fun z12=>?_
 have:=aeP pa0.gList (aB.mk s_ []) (aB.mk s_ []) (aB.mk s_ []) 0 1 rfl
 refine Ok.lt fun y18 h13=>?_
 have:=congrArg wt h13
 have:=aB.wt_eq y18
 have:M6.size=4:=rfl
 refine oD (fun g14=>?_) fun g14=>?_
 ·have:=congrArg ByteArray.size g14
  have:=aY pa0.gList
  refine oB (hY 2 (pa0.gList.length:Int)) fun x22 h15=>oG fun z16=>?_
  have:=wI pa0.gList x22 2
  refine N6 (h_sl12Exprs (List.drop (x22:Int).toNat (List.take (pa0.gList.length:Int).toNat pa0.gList)) bO bO) fun x25 h17 h17B=>?_
  have:=aB.wt_eq y15
  have:=(aV:wl ([]:List aA)=0∧_)
  have:=aA.wt_mk 0 s_ []
  have:=(aV:wl ([]:List bK)=0∧_)
  have:=aG.wt_mk 4 s_ y15.gAtom 0 (aA.mk 0 s_ []) x25 []
  exact ZN
 have:nQ.size=6:=rfl
 refine oD (fun g18=>?_) fun g18=>?_
 ·have:=congrArg ByteArray.size g18
  refine oG fun z19=>?_
  have:=aeP pa0.gList (aB.mk s_ []) (aB.mk s_ []) (aB.mk s_ []) 2 3 rfl
  refine Ok.lt fun y28 h20=>?_
  have:=congrArg wt h20
  have:=aY pa0.gList
  refine oB (hY 3 (pa0.gList.length:Int)) fun x31 h21=>oG fun z22=>?_
  have:=wI pa0.gList x31 3
  refine N6 (h_sl12Exprs (List.drop (x31:Int).toNat (List.take (pa0.gList.length:Int).toNat pa0.gList)) bO bO) fun x34 h23 h23B=>?_
  have:=aB.wt_eq y15
  have:=aB.wt_eq y28
  have:=(aV:wl ([]:List aA)=0∧_)
  have:=aA.wt_mk 0 s_ []
  have:=(aV:wl ([]:List bK)=0∧_)
  have:=aG.wt_mk 5 y15.gAtom y28.gAtom 0 (aA.mk 0 s_ []) x34 []
  exact ZN
 have:CM.size=3:=rfl
 refine oD (fun g24=>?_) fun g24=>?_
 ·have:=congrArg ByteArray.size g24
  have:=aY pa0.gList
  refine oB (hY 2 (pa0.gList.length:Int)) fun x37 h25=>oG fun z26=>?_
  have:=wI pa0.gList x37 2
  refine N6 (h_sl12Exprs (List.drop (x37:Int).toNat (List.take (pa0.gList.length:Int).toNat pa0.gList)) bO bO) fun x40 h27 h27B=>?_
  have:=aB.wt_eq y15
  have:=(aV:wl ([]:List aA)=0∧_)
  have:=aA.wt_mk 0 s_ []
  have:=(aV:wl ([]:List bK)=0∧_)
  have:=aG.wt_mk 6 s_ y15.gAtom 0 (aA.mk 0 s_ []) x40 []
  exact ZN
 have:CL.size=3:=rfl
 refine oD (fun g28=>?_) fun g28=>?_
 ·have:=congrArg ByteArray.size g28
  have:=aY pa0.gList
  refine oB (hY 2 (pa0.gList.length:Int)) fun x43 h29=>oG fun z30=>?_
  have:=wI pa0.gList x43 2
  refine N6 (h_sl12Exprs (List.drop (x43:Int).toNat (List.take (pa0.gList.length:Int).toNat pa0.gList)) bO bO) fun x46 h31 h31B=>?_
  have:=aB.wt_eq y15
  have:=(aV:wl ([]:List aA)=0∧_)
  have:=aA.wt_mk 0 s_ []
  have:=(aV:wl ([]:List bK)=0∧_)
  have:=aG.wt_mk 8 s_ y15.gAtom 0 (aA.mk 0 s_ []) x46 []
  exact ZN
 have:BS.size=2:=rfl
 refine oD (fun g32=>?_) fun g32=>?_
 ·have:=congrArg ByteArray.size g32
  have:=aY pa0.gList
  refine oG fun z33=>?_
  have:=wI pa0.gList 1 1
  refine N6 (h_sl12Exprs (List.drop (1:Int).toNat (List.take (pa0.gList.length:Int).toNat pa0.gList)) bO bO) fun x50 h34 h34B=>?_
  have:=(aV:wl ([]:List aA)=0∧_)
  have:=aA.wt_mk 0 s_ []
  have:=(aV:wl ([]:List bK)=0∧_)
  have:=aG.wt_mk 9 s_ s_ 0 (aA.mk 0 s_ []) x50 []
  exact ZN
 have:vO.size=4:=rfl
 refine oD (fun g35=>?_) fun g35=>?_
 ·have:=congrArg ByteArray.size g35
  have:=aY pa0.gList
  refine oB (hY 2 (pa0.gList.length:Int)) fun x53 h36=>oG fun z37=>?_
  have:=wI pa0.gList x53 2
  refine N6 (h_sl12Exprs (List.drop (x53:Int).toNat (List.take (pa0.gList.length:Int).toNat pa0.gList)) bO bO) fun x56 h38 h38B=>?_
  have:=aB.wt_eq y15
  have:=(aV:wl ([]:List aA)=0∧_)
  have:=aA.wt_mk 0 s_ []
  have:=(aV:wl ([]:List bK)=0∧_)
  have:=aG.wt_mk 11 y15.gAtom s_ 0 (aA.mk 0 s_ []) x56 []
  exact ZN
 have:VS.size=3:=rfl
 refine oD (fun g39=>?_) fun g39=>?_
 ·have:=congrArg ByteArray.size g39
  refine oB (gJ y15 bO) fun x59 h40=>?_
  have:=aY pa0.gList
  refine oB (hY 2 (pa0.gList.length:Int)) fun x61 h41=>oG fun z42=>?_
  have:=wI pa0.gList x61 2
  refine N6 (h_sl12Exprs (List.drop (x61:Int).toNat (List.take (pa0.gList.length:Int).toNat pa0.gList)) bO bO) fun x64 h43 h43B=>?_
  have:=(aV:wl ([]:List bK)=0∧_)
  have:=aG.wt_mk 12 s_ s_ 0 x59 x64 []
  exact ZN
 have:vN.size=4:=rfl
 refine oD (fun g44=>?_) fun g44=>?_
 ·have:=congrArg ByteArray.size g44
  have:=aY pa0.gList
  refine oB (hY 2 (pa0.gList.length:Int)) fun x67 h45=>oG fun z46=>?_
  have:=amD pa0.gList x67
  refine N6 (h_sl12Exprs (List.drop (1:Int).toNat (List.take (x67:Int).toNat pa0.gList)) bO bO) fun x70 h47 h47B=>?_
  have:=(aV:wl ([]:List bK)=0∧_)
  refine amB (PA:=fun a=>G6 a.gBody) pa0.gList 2 (fun i71 v73 hl49 hI50 hI50B _ _=>?_) ?_
  ·have:=cI pa0.gList i71 hl49
   refine N6 (h_sl12Arm (aW pa0.gList i71) bO bO) fun x77 h51 h51B=>?_
   have:=aY (v73)
   have:=b8 x77
   refine oG fun z52=>?_
   have:=bV v73 ([x77]:List bK)
   exact oX hI50B
  rintro v73 ⟨h48,h48B⟩
  have:=(aV:wl ([]:List aA)=0∧_)
  have:=aA.wt_mk 0 s_ []
  have:=aG.wt_mk 7 s_ s_ 0 (aA.mk 0 s_ []) x70 v73
  exact ZN
 have:=aY pa0.gList
 refine oB (hY 1 (pa0.gList.length:Int)) fun x80 h53=>oG fun z54=>?_
 have:=wI pa0.gList x80 1
 refine N6 (h_sl12Exprs (List.drop (x80:Int).toNat (List.take (pa0.gList.length:Int).toNat pa0.gList)) bO bO) fun x83 h55 h55B=>?_
 have:=(aV:wl ([]:List aA)=0∧_)
 have:=aA.wt_mk 0 s_ []
 have:=(aV:wl ([]:List bK)=0∧_)
 have:=aG.wt_mk 10 s_ y18.gAtom 0 (aA.mk 0 s_ []) x83 []
 exact ZN
theorem X0{n fu:Nat}(hfu:2147483648≤fu)(lH:yD fu)(eY:zO fu)(fD:zP fu)(hY:JQ fu)(gJ:PN fu)(gS:A3 fu){r_sl12Expr:gT}(h_sl12Expr:wY n r_sl12Expr){r_sl12Exprs:fX}(h_sl12Exprs:uK n r_sl12Exprs){r_sl12Arm:iU}(h_sl12Arm:zN n r_sl12Arm):uK (n+1) (D4 fu r_sl12Expr r_sl12Exprs r_sl12Arm):=by
 intro plist hm hpre
 have:=(aV:wl ([]:List aG)=0∧_)
 refine amB (PA:=fun a=>G6 a) plist 2 (fun i1 v3 hl2 hI3 hI3B _ _=>?_) ?_
 ·have:=aY plist
  have:=cI plist i1 hl2
  refine N6 (h_sl12Expr (aW plist i1) bO bO) fun x7 h4 h4B=>?_
  have:=aY (v3)
  have:=b8 x7
  refine oG fun z5=>?_
  have:=bV v3 ([x7]:List aG)
  exact oX hI3B
 rintro v3 ⟨h1,h1B⟩
 exact ZN
theorem ae5{n fu:Nat}(hfu:2147483648≤fu)(lH:yD fu)(eY:zO fu)(fD:zP fu)(hY:JQ fu)(gJ:PN fu)(gS:A3 fu){r_sl12Expr:gT}(h_sl12Expr:wY n r_sl12Expr){r_sl12Exprs:fX}(h_sl12Exprs:uK n r_sl12Exprs){r_sl12Arm:iU}(h_sl12Arm:zN n r_sl12Arm):zN (n+1) (NA fu r_sl12Expr r_sl12Exprs r_sl12Arm):=by
 intro px hm hpre
 have:=aB.wt_eq px
 have:=aY px.gList
 refine oD (fun g1=>?_) fun g1=>?_
 ·have:s_.size=0:=rfl
  have:=(aV:wl ([]:List aA)=0∧_)
  have:=aA.wt_mk 0 s_ []
  have:=(aV:wl ([]:List aG)=0∧_)
  have:=(aV:wl ([]:List bK)=0∧_)
  have:=aG.wt_mk 0 s_ s_ 0 (aA.mk 0 s_ []) [] []
  have:=(aV:wl ([]:List ByteArray)=0∧_)
  have:=bK.wt_mk s_ [] (aG.mk 0 s_ s_ 0 (aA.mk 0 s_ []) [] [])
  exact ZN
 have:=eL ((px.gList.length:Int)-1)
 refine oG fun z2=>?_
 have:=QA (1:Int).toNat (aR ((px.gList.length:Int)-1):Int).toNat px.gList
 have:=an0 px.gList (aR ((px.gList.length:Int)-1):Int).toNat
 have:=G4 px.gList (aR ((px.gList.length:Int)-1):Int).toNat
 have:=nI px.gList ((aR ((px.gList.length:Int)-1):Int).toNat+1)
 refine tR (gS (List.drop (1:Int).toNat (List.take (aR ((px.gList.length:Int)-1):Int).toNat px.gList)) bO) fun x4 x5 h3=>?_
 dsimp only at h3
 have:=aY (px.gList)
 refine oG fun z4=>oG fun z5=>?_
 have:=cI px.gList ((aR ((px.gList.length:Int)-1)).toNat) z5.2
 refine Ok.lt fun y8 h6=>?_
 have:=congrArg wt h6
 refine N6 (h_sl12Expr y8 bO bO) fun x11 h7 h7B=>?_
 have:=cI px.gList 0 z4
 have:wl (List.take 1 px.gList)=wl (List.take 0 px.gList)+wt (aW px.gList 0)+1:=G4 px.gList 0 z4
 have:=aB.wt_eq (aW px.gList 0)
 have:=bK.wt_mk ((aW px.gList 0).gAtom) x4 x11
 exact ZN
theorem ae6(n:Nat):bY fun fu=>wY n (gF fu)∧uK n (jK fu)∧zN n (mM fu):=by
 induction n with
 |zero=>exact .all fun fu=>⟨fun _ h=>absurd h (Nat.not_lt_zero _),fun _ h=>absurd h (Nat.not_lt_zero _),fun _ h=>absurd h (Nat.not_lt_zero _)⟩
 |succ n ih=>exact bY.succ ((ih.and (((((((bY.ge 2147483648).and lH).and eY).and fD).and hY).and gJ).and gS)).imp fun fu ⟨h,⟨⟨⟨⟨⟨⟨hfu,lH⟩,eY⟩,fD⟩,hY⟩,gJ⟩,gS⟩⟩=>⟨fun pa0=>by rw [gF];exact acA hfu lH eY fD hY gJ gS h.1 h.2.1 h.2.2 pa0,fun plist=>by rw [jK];exact X0 hfu lH eY fD hY gJ gS h.1 h.2.1 h.2.2 plist,fun px=>by rw [mM];exact ae5 hfu lH eY fD hY gJ gS h.1 h.2.1 h.2.2 px⟩)
theorem mW:bY adR:=(ae6 8589934592).imp fun fu h pa0 hpre=>h.1 pa0 bO hpre
def ajX(fu:Nat):Prop:= ∀(pa0:aG),wt pa0≤2097152→(G6 pa0)→Ok (lL fu pa0) (fun r=>wt r+8≤32*(wt pa0+1))
def JM(n:Nat)(m:nR):Prop:= ∀(pa0:aG),2*wt pa0+1<n→wt pa0≤2097152→(G6 pa0)→Ok (m pa0) (fun r=>wt r+8≤32*(wt pa0+1))
def A1(n:Nat)(m:jV):Prop:= ∀(phead:List aB) (plist:List aG),2*wl plist<n→wl phead≤33554432∧wl plist≤2097152→(∀a∈plist,G6 a)→Ok (m phead plist) (fun r=>wt r≤wl phead+32*wl plist)
theorem ai5{n fu:Nat}(hfu:2147483648≤fu)(lG:A2 fu)(bM:EO fu)(g0:WE fu)(lV:HL fu){r_sl12Sx:nR}(h_sl12Sx:JM n r_sl12Sx){r_sl12Args:jV}(h_sl12Args:A1 n r_sl12Args):JM (n+1) (SJ fu r_sl12Sx r_sl12Args):=by
 intro pa0 hm hpre hB
 have hN:=hB.num
 have:=aG.wt_eq pa0
 refine oD (fun g1=>?_) fun g1=>?_
 ·exact oB (lG pa0.gN bO) fun x3 h2=>oB (bM x3) fun x5 h3=>oS
 refine oD (fun g4=>?_) fun g4=>?_
 ·have:kS.size=5:=rfl
  have:n8.size=4:=rfl
  have:=jT kS n8
  have:=a7 kS
  have:=a7 n8
  refine oG fun z5=>?_
  have:=cI ([kS,n8]:List ByteArray) ((pa0.gN).toNat) z5.2
  have:=a7 (aW ([kS,n8]:List ByteArray) ((pa0.gN).toNat))
  exact oB (bM (aW ([kS,n8]:List ByteArray) ((pa0.gN).toNat))) fun x9 h6=>oS
 refine oD (fun g7=>?_) fun g7=>?_
 ·exact oB (bM pa0.gName) fun x12 h8=>oS
 refine oD (fun g9=>?_) fun g9=>?_
 ·have:M6.size=4:=rfl
  refine oB (bM M6) fun x15 h10=>oB (bM pa0.gName) fun x17 h11=>?_
  have:=jT x15 x17
  refine oB (h_sl12Args ([x15,x17]:List aB) pa0.gArgs bO bO (by exact hB.arg)) fun x19 h12=>?_
  have:=aB.wt_eq x19
  have:=aB.wt_mk x19.gAtom x19.gList
  exact oS
 refine oD (fun g13=>?_) fun g13=>?_
 ·have:nQ.size=6:=rfl
  refine oB (bM nQ) fun x22 h14=>oB (bM pa0.gTrait) fun x24 h15=>oB (bM pa0.gName) fun x26 h16=>?_
  have:=CR x22 x24 x26
  refine oB (h_sl12Args ([x22,x24,x26]:List aB) pa0.gArgs bO bO (by exact hB.arg)) fun x28 h17=>?_
  have:=aB.wt_eq x28
  have:=aB.wt_mk x28.gAtom x28.gList
  exact oS
 refine oD (fun g18=>?_) fun g18=>?_
 ·have:CM.size=3:=rfl
  refine oB (bM CM) fun x31 h19=>oB (bM pa0.gName) fun x33 h20=>?_
  have:=jT x31 x33
  refine oB (h_sl12Args ([x31,x33]:List aB) pa0.gArgs bO bO (by exact hB.arg)) fun x35 h21=>?_
  have:=aB.wt_eq x35
  have:=aB.wt_mk x35.gAtom x35.gList
  exact oS
 refine oD (fun g22=>?_) fun g22=>?_
 ·have:CL.size=3:=rfl
  refine oB (bM CL) fun x38 h23=>oB (bM pa0.gName) fun x40 h24=>?_
  have:=jT x38 x40
  refine oB (h_sl12Args ([x38,x40]:List aB) pa0.gArgs bO bO (by exact hB.arg)) fun x42 h25=>?_
  have:=aB.wt_eq x42
  have:=aB.wt_mk x42.gAtom x42.gList
  exact oS
 refine oD (fun g26=>?_) fun g26=>?_
 ·have:BS.size=2:=rfl
  refine oB (bM BS) fun x45 h27=>?_
  have:=b8 x45
  refine oB (h_sl12Args ([x45]:List aB) pa0.gArgs bO bO (by exact hB.arg)) fun x47 h28=>?_
  have:=aB.wt_eq x47
  have:=aB.wt_mk x47.gAtom x47.gList
  exact oS
 refine oD (fun g29=>?_) fun g29=>?_
 ·refine oB (bM pa0.gName) fun x50 h30=>?_
  have:=b8 x50
  refine oB (h_sl12Args ([x50]:List aB) pa0.gArgs bO bO (by exact hB.arg)) fun x52 h31=>?_
  have:=aB.wt_eq x52
  have:=aB.wt_mk x52.gAtom x52.gList
  exact oS
 refine oD (fun g32=>?_) fun g32=>?_
 ·have:vO.size=4:=rfl
  refine oB (bM vO) fun x55 h33=>oB (bM pa0.gTrait) fun x57 h34=>?_
  have:=jT x55 x57
  refine oB (h_sl12Args ([x55,x57]:List aB) pa0.gArgs bO bO (by exact hB.arg)) fun x59 h35=>?_
  have:=aB.wt_eq x59
  have:=aB.wt_mk x59.gAtom x59.gList
  exact oS
 refine oD (fun g36=>?_) fun g36=>?_
 ·have:VS.size=3:=rfl
  refine oB (bM VS) fun x62 h37=>oB (g0 pa0.gType bO) fun x64 h38=>?_
  have:=jT x62 x64
  refine oB (h_sl12Args ([x62,x64]:List aB) pa0.gArgs bO bO (by exact hB.arg)) fun x66 h39=>?_
  have:=aB.wt_eq x66
  have:=aB.wt_mk x66.gAtom x66.gList
  exact oS
 have:vN.size=4:=rfl
 refine oB (bM vN) fun x68 h40=>?_
 have:=b8 x68
 refine oB (h_sl12Args ([x68]:List aB) pa0.gArgs bO bO (by exact hB.arg)) fun x70 h41=>?_
 have:=aB.wt_eq x70
 refine IG pa0.gArms 32 (fun i71 v73 hl43 hI44 _ _=>?_) ?_
 ·have:=aY pa0.gArms
  have:=cI pa0.gArms i71 hl43
  refine Ok.lt fun y76 h45=>?_
  have:=congrArg wt h45
  have:=bK.wt_eq y76
  refine oB (bM y76.gConstructor) fun x79 h46=>oB (lV y76.gVars bO) fun x81 h47=>?_
  have:=b8 x79
  have:=aY (x81)
  refine oG fun z48=>oB (h_sl12Sx y76.gBody bO bO (by rw [show y76=aW pa0.gArms i71 by assumption];exact WI hB.arm (by assumption))) fun x84 h49=>?_
  have:=bV ([x79]:List aB) x81
  have:=b8 x84
  refine oG fun z50=>?_
  have:=aY (v73)
  have:s_.size=0:=rfl
  have:=bV (([x79]:List aB)++x81) ([x84]:List aB)
  have:=aB.wt_mk s_ ((([x79]:List aB)++x81)++([x84]:List aB))
  have:=b8 (aB.mk s_ ((([x79]:List aB)++x81)++([x84]:List aB)))
  refine oG fun z51=>?_
  have:=bV v73 ([(aB.mk s_ ((([x79]:List aB)++x81)++([x84]:List aB)))]:List aB)
  exact mP
 intro v73 h42
 have:=aB.wt_mk x70.gAtom v73
 exact oS
theorem ab7{n fu:Nat}(hfu:2147483648≤fu)(lG:A2 fu)(bM:EO fu)(g0:WE fu)(lV:HL fu){r_sl12Sx:nR}(h_sl12Sx:JM n r_sl12Sx){r_sl12Args:jV}(h_sl12Args:A1 n r_sl12Args):A1 (n+1) (I6 fu r_sl12Sx r_sl12Args):=by
 intro phead plist hm hpre hB
 refine IG plist 32 (fun i1 v3 hl2 hI3 _ _=>?_) ?_
 ·have:=aY plist
  have:=cI plist i1 hl2
  refine Ok.lt fun y6 h4=>?_
  have:=congrArg wt h4
  refine oB (h_sl12Sx y6 bO bO (by rw [show y6=aW plist i1 by assumption];exact WI hB (by assumption))) fun x9 h5=>?_
  have:=aY (v3)
  have:=b8 x9
  refine oG fun z6=>?_
  have:=bV v3 ([x9]:List aB)
  exact mP
 intro v3 h1
 have:s_.size=0:=rfl
 have:=aB.wt_mk s_ v3
 exact oS
theorem ak5(n:Nat):bY fun fu=>JM n (lL fu)∧A1 n (nE fu):=by
 induction n with
 |zero=>exact .all fun fu=>⟨fun _ h=>absurd h (Nat.not_lt_zero _),fun _ _ h=>absurd h (Nat.not_lt_zero _)⟩
 |succ n ih=>exact bY.succ ((ih.and (((((bY.ge 2147483648).and lG).and bM).and g0).and lV)).imp fun fu ⟨h,⟨⟨⟨⟨hfu,lG⟩,bM⟩,g0⟩,lV⟩⟩=>⟨fun pa0=>by rw [lL];exact ai5 hfu lG bM g0 lV h.1 h.2 pa0,fun phead plist=>by rw [nE];exact ab7 hfu lG bM g0 lV h.1 h.2 phead plist⟩)
theorem sT:bY ajX:=(ak5 8589934592).imp fun fu h pa0 hpre hB=>h.1 pa0 bO hpre hB
end Go.Proofs.YtpioomclpaiomaaGreat.W
