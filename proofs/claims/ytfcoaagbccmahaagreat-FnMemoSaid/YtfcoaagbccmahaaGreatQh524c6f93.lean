/- Words, rules and walks of several kinds, laid together: PmDraw, PmB, PlZ, Bk, Pl, PlOk, PmQ, PgS, OkW, PgD, MaP1, OkA1, MaP2, OkA2, MaP3, OkH, OkA3. No conditions but those that each theorem states. -/
import Derived.Test.YtfcoaagbccmahaaGreatQhfd937320
import Derived.Laws.BytesArg
import Derived.Test.YtfcoaagbccmahaaGreatQhb99b45eb
set_option linter.unusedSimpArgs false
set_option linter.unusedVariables false
namespace Go.Proofs.YtfcoaagbccmahaaGreat
open Go.RowKit Go.Proofs
set_option maxRecDepth 100000
set_option maxHeartbeats 4000000
theorem ao1(d:DS):cB Tryz.prog 130 [.ptr 0 0] (d.box 133) (fun r t=>r=pI d.byte∧t=d.next.box 133):=by
 refine qI Tryz.func130 (fun C hC=>?_)
 refine cO.fact (cK 0 0 rfl rfl rfl (qT d.code)) (fun hl0=>?_)
 refine gQ 11 ?_;refine q1 (bD.mulW rfl rfl rfl rfl) (q1 (bD.addW rfl rfl rfl rfl) ?_)
 refine gQ 5 ?_;refine dW (dI [0] bH (dI [13] uV (dI [14] bZ (dD [15] eB (dI [16] (bD.shrI rfl rfl rfl rfl (by decide) (TY (JY _)).1 (TY (JY _)).2) (dI [0] bH (dI [18] uV (dI [19] bZ (dD [20] eB (dI [21] (bD.shrI rfl rfl rfl rfl (by decide) (TY (JY _)).1 (TY (JY _)).2) (dI [17,22] (bD.xorI rfl rfl rfl rfl) (dI [23] (bD.andI rfl rfl rfl rfl) (dI [24] bH (dN ?_))))))))))))))
 refine gQ 2 ?_;refine dW (dI [0] bH (dI [25] uV (dI [26] bZ (dD [27] eB (dI [0] bH (dI [29] uV (dI [30] bZ (dD [31] eB (dI [32] tLn (dI [28,33] rLt (dN ?_)))))))))))
 refine cO.cond rfl (fun h1=>?_) (fun h1=>?_)
 ·have h1n:d.p<d.code.length:=by have:=of_decide_eq_true h1;omega
  rw [show d.byte=_ from dif_pos h1n,show d.next=⟨d.code,d.p+1,ae6 d.h⟩ by unfold DS.next;rw [if_pos h1n]]
  refine gQ 1 ?_;refine dW (dI [3] bH (dI [0] bH (dI [36] uV (dI [37] bZ (dD [38] eB (dI [0] bH (dI [40] uV (dI [41] bZ (dD [42] eB (dI [39,43] (bD.index (k:=d.p) rfl rfl rfl rfl rfl (AE h1n) arT.h) (dI [44] (bD.loadEptr1 (d:= .leaf (.int .u8 ((d.code[d.p]).toNat:Int))) rfl rfl rfl sh5.h rfl) (dI [45] (bD.convI rfl rfl rfl ⟨_,Tryz.underlying5⟩ Tryz.underlying3 (by omega) (by have:=UInt8.toNat_lt (d.code[d.p]);omega)) (dI [35,46] (bD.addW rfl rfl rfl rfl) (dI [47] (bD.andI rfl rfl rfl rfl) (dI [48] bH (dN ?_))))))))))))))))
  refine gQ 16 ?_;exact cO.ret qf1
 ·have h1n: ¬d.p<d.code.length:=by have:=of_decide_eq_false h1;omega
  rw [show d.byte=_ from dif_neg h1n,show d.next=⟨d.code,d.p,ae6 d.h⟩ by unfold DS.next;rw [if_neg h1n]]
  refine gQ 6 ?_;exact cO.ret qf1
theorem G3(d:DS):cB Tryz.prog 130 [.ptr 0 0] (d.box 133) (fun r t=>r=pN d.byteN∧t=d.next.box 133):=by unfold pN;rw [d.byteN_eq];exact ao1 d
theorem fK(d:DS)(n:Nat):cB Tryz.prog 73 [.ptr 0 0,pN n] (d.box 133) (fun r t=>r=pN (d.below n)∧t=(d.after n).box 133):=by
 refine qI Tryz.func73 (fun C hC=>?_)
 have hb0:=d.byteN_le
 have hb1:=d.next.byteN_le
 have hb2:=d.next.next.byteN_le
 have hb3:=d.next.next.next.byteN_le
 unfold DS.below DS.after
 refine gQ 10 ?_;refine cO.cond rfl (fun h1=>?_) (fun h1=>?_)
 ·obtain rfl:n=0:=by have:=of_decide_eq_true h1;omega
  refine gQ 4 ?_;exact cO.ret qf1
 have h1n: ¬n=0:=by have:=of_decide_eq_false h1;omega
 rw [if_neg h1n,if_neg h1n]
 refine gQ 7 ?_;refine cO.cond rfl (fun h2=>?_) (fun h2=>?_)
 ·have h2n:n≤256:=by have:=of_decide_eq_true h2;omega
  rw [if_pos h2n,if_pos h2n]
  refine gQ 3 ?_;refine q1 (fD [0] [] Tryz.func130 (G3 d)) ?_;refine gQ 1 ?_;refine q1 (bD.remN (a:=d.byteN) (b:=n) rfl rfl rfl rfl (by omega) (by omega)) ?_;refine gQ 2 ?_;exact cO.ret qf1
 have h2n: ¬n≤256:=by have:=of_decide_eq_false h2;omega
 rw [if_neg h2n,if_neg h2n]
 refine gQ 4 ?_;refine q1 (fD [0] [] Tryz.func130 (G3 d)) ?_;refine gQ 5 ?_;refine q1 (fD [0] [] Tryz.func130 (G3 d.next)) ?_;refine gQ 5 ?_;refine q1 (fD [0] [] Tryz.func130 (G3 d.next.next)) ?_;refine gQ 5 ?_;refine q1 (fD [0] [] Tryz.func130 (G3 d.next.next.next)) ?_;refine gQ 5 ?_;refine q1 (bD.mulI rfl rfl rfl rfl (c:=((d.byteN*16777216:Nat):Int)) (by omega) (by omega)) (q1 bH (q1 (bD.mulI rfl rfl rfl rfl (c:=((d.next.byteN*65536:Nat):Int)) (by omega) (by omega)) (q1 (bD.addI rfl rfl rfl rfl (c:=((d.byteN*16777216+d.next.byteN*65536:Nat):Int)) (by omega) (by omega)) (q1 bH (q1 (bD.mulI rfl rfl rfl rfl (c:=((d.next.next.byteN*256:Nat):Int)) (by omega) (by omega)) (q1 (bD.addI rfl rfl rfl rfl (c:=((d.byteN*16777216+d.next.byteN*65536+d.next.next.byteN*256:Nat):Int)) (by omega) (by omega)) (q1 bH (q1 (bD.addI rfl rfl rfl rfl (c:=((d.byteN*16777216+d.next.byteN*65536+d.next.next.byteN*256+d.next.next.next.byteN:Nat):Int)) (by omega) (by omega)) (q1 bH (q1 (bD.remN (b:=n) rfl rfl rfl rfl (by omega) (by omega)) ?_))))))))))
 refine gQ 2 ?_;exact cO.ret qf1
theorem m8(d:DS)(n:Nat):cB Tryz.prog 45 [.ptr 0 0,pN n] (d.box 133) (fun r t=>r=pB (decide (d.below n=0))∧t=(d.after n).box 133):=by
 refine qI Tryz.func45 (fun C hC=>?_)
 rw [show decide (d.below n=0)=decide (((d.below n:Nat):Int)=0) from decide_eq_decide.2 (by omega)]
 refine gQ 8 ?_;refine q1 (fD [0] [] Tryz.func73 (fK d n)) ?_;refine gQ 3 ?_;exact cO.ret qf1
theorem fL(d:DS)(l:LB)(hl:0<l.length):cB Tryz.prog 48 [.ptr 0 0,rS l] (d.box 133) (fun r t=>r=pS (d.pick l)∧t=(d.after l.length).box 133):=by
 refine qI Tryz.func48 (fun C hC=>?_)
 have hx:d.below l.length<l.length:=d.below_lt hl
 rw [DS.pick_eq hx]
 refine gQ 10 ?_;refine q1 (fD [0] [] Tryz.func73 (fK d l.length)) (q1 (bD.index (k:=d.below l.length) rfl rfl rfl rfl rfl (aaE hx) ahX.h) (q1 (bD.loadEptr1 (d:= .leaf (.string (l[d.below l.length]))) rfl rfl rfl sh9.h rfl) ?_))
 refine gQ 2 ?_;exact cO.ret qf1
theorem aqW(code:List UInt8)(hb:code.length≤1048576):am2 Tryz.prog 43 [rU code] 133 (DS.start code).cells:=by
 unfold am2
 refine qI Tryz.func43 (fun C hC=>?_)
 refine cO.fact (abH 0 rfl rfl (qT _)) (fun hl1=>?_)
 refine gQ 2 ?_;refine q1 (bD.moveAny (.inl rfl)) ?_;refine gQ 5 ?_;refine q1 (bD.addI rfl rfl rfl rfl (c:=((28803+code.length:Nat):Int)) (by omega) (by omega)) ?_;refine gQ 8 ?_;refine cO.loopJ (ι:=Nat×Int) (fun⟨i,h⟩=>i≤code.length∧i≤4000∧aqV code=((code.take 4000).drop i).foldl FE h) (fun⟨i,h⟩=>⟨[(0,rU code),(3,pI h),(4,pN i)],⟨[],[]⟩⟩) (fun⟨i,h⟩=>code.length-i) (0,(28803+(code.length:Int))) ⟨Nat.zero_le _,Nat.zero_le _,rfl⟩ ?_ ?_
 ·exact wkA
 rintro⟨i,h⟩ ⟨hi1,hi2,hi3⟩
 have fin:code.length≤i∨4000≤i→aqV code=h:=fun k=>anZ k hi3
 refine gQ 8 ?_;refine AL.splitB 12 rfl (fun g3=>?_) (fun g3=>?_)
 ·have g3n:i<code.length:=by have:=of_decide_eq_true g3;omega
  refine gQ 4 ?_;refine cO.cond rfl (fun h4=>?_) (fun h4=>?_)
  ·have h4n:=of_decide_eq_true h4
   refine gQ 5 ?_;refine q1 (bD.mulW rfl rfl rfl rfl) (q1 bH (q1 bH (q1 (bD.index (k:=i) rfl rfl rfl rfl rfl (AE g3n) arT.h) (q1 (bD.loadEptr1 (d:= .leaf (.int .u8 ((code[i]).toNat:Int))) rfl rfl rfl sh5.h rfl) (q1 (bD.convI rfl rfl rfl ⟨_,Tryz.underlying5⟩ Tryz.underlying3 (by omega) (by have:=UInt8.toNat_lt (code[i]);omega)) (q1 (bD.addW rfl rfl rfl rfl) (q1 (bD.addW rfl rfl rfl rfl) (q1 (bD.andI rfl rfl rfl rfl) ?_))))))))
   refine gQ 7 ?_;exact⟨(i+1,FE h code[i]),⟨by omega,by omega,amA (by omega) (by omega) hi3 rfl⟩,wkA,by dsimp only;omega⟩
  ·obtain rfl:=fin (.inr (by have:=of_decide_eq_false h4;omega))
   refine cO.exit ?_;refine gQ 4 ?_;refine q1 oP (q1 (fE (dC (DS.start code))) ?_)
   refine gQ 2 ?_;exact cO.ret (qf1 (st':=⟨[some ⟨133,dC (DS.start code)⟩],[]⟩) (q:= .ptr 0 0) ⟨0,rfl,rfl,fun i x hx=>(by rcases i with _|i<;>simp at hx<;>simp),rfl⟩)
 ·refine gQ 4 ?_;refine cO.cond rfl (fun h4=>?_) (fun h4=>?_)
  ·exact absurd (h4.symm.trans rfl) (by decide)
  obtain rfl:=fin (.inl (by have:=of_decide_eq_false g3;omega))
  refine cO.exit ?_;refine gQ 4 ?_;refine q1 oP (q1 (fE (dC (DS.start code))) ?_)
  refine gQ 2 ?_;exact cO.ret (qf1 (st':=⟨[some ⟨133,dC (DS.start code)⟩],[]⟩) (q:= .ptr 0 0) ⟨0,rfl,rfl,fun i x hx=>(by rcases i with _|i<;>simp at hx<;>simp),rfl⟩)
end Go.Proofs.YtfcoaagbccmahaaGreat

namespace Go.Proofs.YtfcoaagbccmahaaGreat
open Go.RowKit
theorem anK{w:World}{xs:List Int}{v:Value}(h:J0 w (.row 1 (xs.map fun n=> [Tr.leaf (.int .u8 n)])) v): ∃code:List UInt8,(xs.map fun n=> [Tr.leaf (.int .u8 n)])=lF code:=by
 have hr: ∀x∈xs,0≤x∧x≤255:=by
  intro x hx
  obtain⟨i,hi,rfl⟩:=List.mem_iff_getElem.1 hx
  cases h with
  |row c h1 h2 h3 h4=>
   have:=h4 i [Tr.leaf (.int .u8 xs[i])] (by simp [hi]) 0 _ rfl
   have:=(this.leaf_eq).2
   simpa [sI,Lit.wf,IntKind.min,IntKind.max,IntKind.bits,IntKind.signed] using this
 refine⟨xs.map fun n=>UInt8.ofNat n.toNat,?_⟩
 unfold lF
 rw [List.map_map]
 refine List.map_congr_left fun x hx=>?_
 have:=hr x hx
 have h2:(UInt8.ofNat x.toNat).toNat=x.toNat:=by
  rw [UInt8.toNat_ofNat']
  omega
 simp only [Function.comp,h2]
 rw [Int.toNat_of_nonneg this.1]
end Go.Proofs.YtfcoaagbccmahaaGreat

namespace Go.Proofs.YtfcoaagbccmahaaGreat
open Go.RowKit
theorem GY.nil{w:World}:GY w [] []:=trivial
theorem GY.cons{w:World}{p:PV}{ps:List PV}{v:Value}{vs:List Value}(h:RV0 w p v)(k:GY w ps vs):GY w (p::ps) (v::vs):=⟨h,k⟩
end Go.Proofs.YtfcoaagbccmahaaGreat

namespace Go.Proofs.YtfcoaagbccmahaaGreat
open Go.RowKit
theorem jI: ∀(a b:List Tr),Tr.bulkL (a++b)=Tr.bulkL a+Tr.bulkL b
 | [],b=>by simp [Tr.bulkL]
 |t::a,b=>by simp [Tr.bulkL,jI a b,Nat.add_assoc]
theorem apU:Tr.bulkAll (aY [])=0:=rfl
theorem aoK(a:ByteArray)(l:List ByteArray):Tr.bulkAll (aY (a::l))=a.size+Tr.bulkAll (aY l):=by simp [aY,Tr.bulkAll,Tr.bulkL,Tr.bulk]
theorem aA.bk_mk(v0:Int)(v1:ByteArray)(v2:List aA):Tr.bulkL (aA.tr (.mk v0 v1 v2))=v1.size+(v2.length+Tr.bulkAll (aA.trs v2)):=by
 simp only [aA.tr,jI,Tr.bulkL,Tr.bulk,b0,eG,fQ,aA.trs_len]
 first|done|omega
theorem aA.bks_nil:Tr.bulkAll (aA.trs [])=0:=by simp [aA.trs_map,Tr.bulkAll]
theorem aA.bks_cons(a:aA)(l:List aA):Tr.bulkAll (aA.trs (a::l))=Tr.bulkL (aA.tr a)+Tr.bulkAll (aA.trs l):=by simp [aA.trs_map,Tr.bulkAll]
theorem aM.bk_mk(v0:Int)(v1:ByteArray)(v2:ByteArray)(v3:Int)(v4:aA)(v5:List aM)(v6:List bV):Tr.bulkL (aM.tr (.mk v0 v1 v2 v3 v4 v5 v6))=v1.size+v2.size+Tr.bulkL (aA.tr v4)+(v5.length+Tr.bulkAll (aM.trs v5))+(v6.length+Tr.bulkAll (bV.trs v6)):=by
 simp only [aM.tr,jI,Tr.bulkL,Tr.bulk,b0,eG,fQ,aM.trs_len,bV.trs_len]
 first|done|omega
theorem aM.bks_nil:Tr.bulkAll (aM.trs [])=0:=by simp [aM.trs_map,Tr.bulkAll]
theorem aM.bks_cons(a:aM)(l:List aM):Tr.bulkAll (aM.trs (a::l))=Tr.bulkL (aM.tr a)+Tr.bulkAll (aM.trs l):=by simp [aM.trs_map,Tr.bulkAll]
theorem bV.bk_mk(v0:ByteArray)(v1:List ByteArray)(v2:aM):Tr.bulkL (bV.tr (.mk v0 v1 v2))=v0.size+(v1.length+Tr.bulkAll (aY v1))+Tr.bulkL (aM.tr v2):=by
 simp only [bV.tr,jI,Tr.bulkL,Tr.bulk,b0,eG,fQ]
 first|done|omega
theorem bV.bks_nil:Tr.bulkAll (bV.trs [])=0:=by simp [bV.trs_map,Tr.bulkAll]
theorem bV.bks_cons(a:bV)(l:List bV):Tr.bulkAll (bV.trs (a::l))=Tr.bulkL (bV.tr a)+Tr.bulkAll (bV.trs l):=by simp [bV.trs_map,Tr.bulkAll]
theorem aD.bk_mk(v0:ByteArray)(v1:aA):Tr.bulkL (aD.tr (.mk v0 v1))=v0.size+Tr.bulkL (aA.tr v1):=by
 simp only [aD.tr,jI,Tr.bulkL,Tr.bulk,b0,eG,fQ]
 first|done|omega
theorem aD.bks_nil:Tr.bulkAll (aD.trs [])=0:=by simp [aD.trs_map,Tr.bulkAll]
theorem aD.bks_cons(a:aD)(l:List aD):Tr.bulkAll (aD.trs (a::l))=Tr.bulkL (aD.tr a)+Tr.bulkAll (aD.trs l):=by simp [aD.trs_map,Tr.bulkAll]
theorem aW.bk_mk(v0:ByteArray)(v1:aA):Tr.bulkL (aW.tr (.mk v0 v1))=v0.size+Tr.bulkL (aA.tr v1):=by
 simp only [aW.tr,jI,Tr.bulkL,Tr.bulk,b0,eG,fQ]
 first|done|omega
theorem aW.bks_nil:Tr.bulkAll (aW.trs [])=0:=by simp [aW.trs_map,Tr.bulkAll]
theorem aW.bks_cons(a:aW)(l:List aW):Tr.bulkAll (aW.trs (a::l))=Tr.bulkL (aW.tr a)+Tr.bulkAll (aW.trs l):=by simp [aW.trs_map,Tr.bulkAll]
theorem aQ.bk_mk(v0:ByteArray)(v1:List ByteArray)(v2:aM):Tr.bulkL (aQ.tr (.mk v0 v1 v2))=v0.size+(v1.length+Tr.bulkAll (aY v1))+Tr.bulkL (aM.tr v2):=by
 simp only [aQ.tr,jI,Tr.bulkL,Tr.bulk,b0,eG,fQ]
 first|done|omega
theorem aQ.bks_nil:Tr.bulkAll (aQ.trs [])=0:=by simp [aQ.trs_map,Tr.bulkAll]
theorem aQ.bks_cons(a:aQ)(l:List aQ):Tr.bulkAll (aQ.trs (a::l))=Tr.bulkL (aQ.tr a)+Tr.bulkAll (aQ.trs l):=by simp [aQ.trs_map,Tr.bulkAll]
theorem aE.bk_mk(v0:ByteArray)(v1:List aA):Tr.bulkL (aE.tr (.mk v0 v1))=v0.size+(v1.length+Tr.bulkAll (aA.trs v1)):=by
 simp only [aE.tr,jI,Tr.bulkL,Tr.bulk,b0,eG,fQ,aA.trs_len]
 first|done|omega
theorem aE.bks_nil:Tr.bulkAll (aE.trs [])=0:=by simp [aE.trs_map,Tr.bulkAll]
theorem aE.bks_cons(a:aE)(l:List aE):Tr.bulkAll (aE.trs (a::l))=Tr.bulkL (aE.tr a)+Tr.bulkAll (aE.trs l):=by simp [aE.trs_map,Tr.bulkAll]
theorem aG.bk_mk(v0:ByteArray)(v1:List aA)(v2:aA)(v3:Bool)(v4:List ByteArray)(v5:aM):Tr.bulkL (aG.tr (.mk v0 v1 v2 v3 v4 v5))=v0.size+(v1.length+Tr.bulkAll (aA.trs v1))+Tr.bulkL (aA.tr v2)+(v4.length+Tr.bulkAll (aY v4))+Tr.bulkL (aM.tr v5):=by
 simp only [aG.tr,jI,Tr.bulkL,Tr.bulk,b0,eG,fQ,aA.trs_len]
 first|done|omega
theorem aG.bks_nil:Tr.bulkAll (aG.trs [])=0:=by simp [aG.trs_map,Tr.bulkAll]
theorem aG.bks_cons(a:aG)(l:List aG):Tr.bulkAll (aG.trs (a::l))=Tr.bulkL (aG.tr a)+Tr.bulkAll (aG.trs l):=by simp [aG.trs_map,Tr.bulkAll]
theorem aV.bk_mk(v0:ByteArray)(v1:List ByteArray)(v2:Bool)(v3:Bool)(v4:List aG):Tr.bulkL (aV.tr (.mk v0 v1 v2 v3 v4))=v0.size+(v1.length+Tr.bulkAll (aY v1))+(v4.length+Tr.bulkAll (aG.trs v4)):=by
 simp only [aV.tr,jI,Tr.bulkL,Tr.bulk,b0,eG,fQ,aG.trs_len]
 first|done|omega
theorem aV.bks_nil:Tr.bulkAll (aV.trs [])=0:=by simp [aV.trs_map,Tr.bulkAll]
theorem aV.bks_cons(a:aV)(l:List aV):Tr.bulkAll (aV.trs (a::l))=Tr.bulkL (aV.tr a)+Tr.bulkAll (aV.trs l):=by simp [aV.trs_map,Tr.bulkAll]
theorem aO.bk_mk(v0:ByteArray)(v1:List ByteArray)(v2:List aE):Tr.bulkL (aO.tr (.mk v0 v1 v2))=v0.size+(v1.length+Tr.bulkAll (aY v1))+(v2.length+Tr.bulkAll (aE.trs v2)):=by
 simp only [aO.tr,jI,Tr.bulkL,Tr.bulk,b0,eG,fQ,aE.trs_len]
 first|done|omega
theorem aO.bks_nil:Tr.bulkAll (aO.trs [])=0:=by simp [aO.trs_map,Tr.bulkAll]
theorem aO.bks_cons(a:aO)(l:List aO):Tr.bulkAll (aO.trs (a::l))=Tr.bulkL (aO.tr a)+Tr.bulkAll (aO.trs l):=by simp [aO.trs_map,Tr.bulkAll]
theorem aL.bk_mk(v0:ByteArray)(v1:List ByteArray)(v2:aA)(v3:List aD)(v4:Bool)(v5:Bool)(v6:aA)(v7:List aQ):Tr.bulkL (aL.tr (.mk v0 v1 v2 v3 v4 v5 v6 v7))=v0.size+(v1.length+Tr.bulkAll (aY v1))+Tr.bulkL (aA.tr v2)+(v3.length+Tr.bulkAll (aD.trs v3))+Tr.bulkL (aA.tr v6)+(v7.length+Tr.bulkAll (aQ.trs v7)):=by
 simp only [aL.tr,jI,Tr.bulkL,Tr.bulk,b0,eG,fQ,aD.trs_len,aQ.trs_len]
 first|done|omega
theorem aL.bks_nil:Tr.bulkAll (aL.trs [])=0:=by simp [aL.trs_map,Tr.bulkAll]
theorem aL.bks_cons(a:aL)(l:List aL):Tr.bulkAll (aL.trs (a::l))=Tr.bulkL (aL.tr a)+Tr.bulkAll (aL.trs l):=by simp [aL.trs_map,Tr.bulkAll]
theorem aP.bk_mk(v0:ByteArray)(v1:List ByteArray)(v2:List aD)(v3:List aW)(v4:aA)(v5:aM):Tr.bulkL (aP.tr (.mk v0 v1 v2 v3 v4 v5))=v0.size+(v1.length+Tr.bulkAll (aY v1))+(v2.length+Tr.bulkAll (aD.trs v2))+(v3.length+Tr.bulkAll (aW.trs v3))+Tr.bulkL (aA.tr v4)+Tr.bulkL (aM.tr v5):=by
 simp only [aP.tr,jI,Tr.bulkL,Tr.bulk,b0,eG,fQ,aD.trs_len,aW.trs_len]
 first|done|omega
theorem aP.bks_nil:Tr.bulkAll (aP.trs [])=0:=by simp [aP.trs_map,Tr.bulkAll]
theorem aP.bks_cons(a:aP)(l:List aP):Tr.bulkAll (aP.trs (a::l))=Tr.bulkL (aP.tr a)+Tr.bulkAll (aP.trs l):=by simp [aP.trs_map,Tr.bulkAll]
theorem aN.bk_mk(v0:ByteArray)(v1:List ByteArray)(v2:List aV)(v3:List aO)(v4:List aL)(v5:List aP):Tr.bulkL (aN.tr (.mk v0 v1 v2 v3 v4 v5))=v0.size+(v1.length+Tr.bulkAll (aY v1))+(v2.length+Tr.bulkAll (aV.trs v2))+(v3.length+Tr.bulkAll (aO.trs v3))+(v4.length+Tr.bulkAll (aL.trs v4))+(v5.length+Tr.bulkAll (aP.trs v5)):=by
 simp only [aN.tr,jI,Tr.bulkL,Tr.bulk,b0,eG,fQ,aV.trs_len,aO.trs_len,aL.trs_len,aP.trs_len]
 first|done|omega
theorem aN.bks_nil:Tr.bulkAll (aN.trs [])=0:=by simp [aN.trs_map,Tr.bulkAll]
theorem aN.bks_cons(a:aN)(l:List aN):Tr.bulkAll (aN.trs (a::l))=Tr.bulkL (aN.tr a)+Tr.bulkAll (aN.trs l):=by simp [aN.trs_map,Tr.bulkAll]
theorem aH.bk_mk(v0:List aN):Tr.bulkL (aH.tr (.mk v0))=(v0.length+Tr.bulkAll (aN.trs v0)):=by
 simp only [aH.tr,jI,Tr.bulkL,Tr.bulk,b0,eG,fQ,aN.trs_len]
 first|done|omega
theorem aB.bk_mk(v0:ByteArray)(v1:List aB):Tr.bulkL (aB.tr (.mk v0 v1))=v0.size+(v1.length+Tr.bulkAll (aB.trs v1)):=by
 simp only [aB.tr,jI,Tr.bulkL,Tr.bulk,b0,eG,fQ,aB.trs_len]
 first|done|omega
theorem aB.bks_nil:Tr.bulkAll (aB.trs [])=0:=by simp [aB.trs_map,Tr.bulkAll]
theorem aB.bks_cons(a:aB)(l:List aB):Tr.bulkAll (aB.trs (a::l))=Tr.bulkL (aB.tr a)+Tr.bulkAll (aB.trs l):=by simp [aB.trs_map,Tr.bulkAll]
end Go.Proofs.YtfcoaagbccmahaaGreat

namespace Go.Proofs.YtfcoaagbccmahaaGreat
def bS(P:Nat→Prop):Prop:= ∃N,∀n,N≤n→P n
theorem bS.all{P:Nat→Prop}(h: ∀n,P n):bS P:=⟨0,fun n _=>h n⟩
theorem bS.and{P Q:Nat→Prop}(h:bS P)(k:bS Q):bS fun n=>P n∧Q n:=by
 obtain⟨a,h⟩:=h
 obtain⟨b,k⟩:=k
 exact⟨max a b,fun n hn=>⟨h n (by omega),k n (by omega)⟩⟩
theorem bS.imp{P Q:Nat→Prop}(h:bS P)(k: ∀n,P n→Q n):bS Q:=by
 obtain⟨a,h⟩:=h
 exact⟨a,fun n hn=>k n (h n hn)⟩
theorem bS.imp2{P Q R:Nat→Prop}(h:bS P)(h2:bS Q)(k: ∀n,P n→Q n→R n):bS R:=(h.and h2).imp fun n hn=>k n hn.1 hn.2
theorem bS.succ{P:Nat→Prop}(h:bS fun n=>P (n+1)):bS P:=by
 obtain⟨a,h⟩:=h
 exact⟨a+1,fun n hn=>by
  obtain⟨m,rfl⟩: ∃m,n=m+1:=⟨n-1,by omega⟩
  exact h m (by omega)⟩
theorem bS.list{α:Type}{P:α→Nat→Prop}: ∀ {l:List α},(∀x∈l,bS (P x))→bS fun n=> ∀x∈l,P x n
 | [],_=> .all fun n x hx=>by simp at hx
 |a::l,h=>((h a (by simp)).and (bS.list (l:=l) fun x hx=>h x (List.mem_cons_of_mem _ hx))).imp fun n hn x hx=>by
  rcases List.mem_cons.1 hx with rfl|hx
  ·exact hn.1
  ·exact hn.2 x hx
theorem bS.below{P:Nat→Nat→Prop}: ∀ {k:Nat},(∀i,i<k→bS (P i))→bS fun n=> ∀i,i<k→P i n
 |0,_=> .all fun n i hi=>by omega
 |k+1,h=>((h k (by omega)).and (bS.below (k:=k) fun i hi=>h i (Nat.lt_succ_of_lt hi))).imp fun n hn i hi=>by
  rcases Nat.lt_or_ge i k with h1|h1
  ·exact hn.2 i h1
  ·obtain rfl:i=k:=by omega
   exact hn.1
theorem bS.get{P:Nat→Prop}(h:bS P): ∃n,P n:=by
 obtain⟨a,h⟩:=h
 exact⟨a,h a (Nat.le_refl _)⟩
section
variable {α σ β:Type} [Inhabited α] {f:Nat→σ→Option (LR σ β)}
theorem cE{l:List α}{i:Nat}(h:i<l.length):aT l i∈l:=by rw [iV h];exact List.getElem_mem h
theorem qY{l:List α}{i:Nat}(h:i<l.length):l.drop i=aT l i::l.drop (i+1):=by rw [iV h];exact List.drop_eq_getElem_cons h
theorem XH{l:List α}{i:Nat}(h:i<l.length):l.take (i+1)=l.take i++ [aT l i]:=by rw [iV h];exact List.take_succ_eq_append_getElem h
theorem AT{n i:Nat}{s s':σ}(h:i<n)(e:f i s=some (.next s')):loopN f (n-i) i s=loopN f (n-(i+1)) (i+1) s':=FB h rfl e
theorem JA{n i:Nat}{s:σ}{x:β}(h:i<n)(e:f i s=some (.ret x)):loopN f (n-i) i s=some (.inl x):=al6 h rfl e
theorem al5{n i:Nat}{s s':σ}(h:i<n)(e:f i s=some (.brk s')):loopN f (n-i) i s=some (.inr s'):=al3 h rfl e
theorem D7{n i:Nat}{s:σ}(h:n≤i):loopN f (n-i) i s=some (.inr s):=al4 h rfl
theorem VP{l:List α}{g:σ→α→σ}(P:Nat→σ→Prop)(hs: ∀i s,i<l.length→P i s→f i s=some (.next (g s (aT l i)))∧P (i+1) (g s (aT l i))):
 ∀(k i:Nat) (s:σ),l.length-i=k→P i s→loopN f (l.length-i) i s=some (.inr ((l.drop i).foldl g s))
 |0,i,s,hk,_=>by
  rw [D7 (by omega),List.drop_of_length_le (by omega),List.foldl_nil]
 |k+1,i,s,hk,hp=>by
  have hi:i<l.length:=by omega
  obtain⟨h1,h2⟩:=hs i s hi hp
  rw [AT hi h1,qY hi,List.foldl_cons]
  exact VP P hs k (i+1) _ (by omega) h2
theorem kM{l:List α}{g:σ→α→σ}(P:Nat→σ→Prop)(hs: ∀i s,i<l.length→P i s→f i s=some (.next (g s (aT l i)))∧P (i+1) (g s (aT l i))){s:σ}(h0:P 0 s):loopN f (l.length-0) 0 s=some (.inr (l.foldl g s)):=by
 have:=VP P hs l.length 0 s (by omega) h0
 rwa [List.drop_zero] at this
theorem VO{l:List α}{p:α→Bool}{r:α→β}{s:σ}(hs: ∀i,i<l.length→f i s=if p (aT l i) then some (.ret (r (aT l i))) else some (.next s)):
 ∀(k i:Nat),l.length-i=k→loopN f (l.length-i) i s=some (match(l.drop i).find? p with|some x=> .inl (r x)|none=> .inr s)
 |0,i,hk=>by
  rw [D7 (by omega),List.drop_of_length_le (by omega),List.find?_nil]
 |k+1,i,hk=>by
  have hi:i<l.length:=by omega
  have h1:=hs i hi
  rw [qY hi,List.find?_cons]
  cases hp:p (aT l i)
  ·rw [hp] at h1
   rw [AT hi (by simpa using h1)]
   exact VO hs k (i+1) (by omega)
  ·rw [hp] at h1
   rw [JA hi (by simpa using h1)]
theorem mJ{l:List α}{p:α→Bool}{r:α→β}{s:σ}(hs: ∀i,i<l.length→f i s=if p (aT l i) then some (.ret (r (aT l i))) else some (.next s)):loopN f (l.length-0) 0 s=some (match l.find? p with|some x=> .inl (r x)|none=> .inr s):=by
 have:=VO hs l.length 0 (by omega)
 rwa [List.drop_zero] at this
theorem HX{l:List α}{p:α→Bool}{r:β}{s:σ}(hs: ∀i,i<l.length→f i s=if p (aT l i) then some (.next s) else some (.ret r)):loopN f (l.length-0) 0 s=some (if l.all p then .inr s else .inl r):=by
 rw [mJ (p:=fun x=> !p x) (r:=fun _=>r) (fun i hi=>by rw [hs i hi];cases p (aT l i)<;>rfl)]
 cases h:l.find? (fun x=> !p x) with
 |none=>
  rw [List.find?_eq_none] at h
  rw [if_pos (by rw [List.all_eq_true];intro x hx;have:=h x hx;simpa using this)]
 |some x=>
  have h1:=List.find?_some h
  have h2:=List.mem_of_find?_eq_some h
  rw [if_neg (by rw [List.all_eq_true];intro hc;have:=hc x h2;simp [this] at h1)]
theorem rF{f:Nat→Unit→Option (LR Unit Int)}{l:List α}{p:α→Bool}(hs: ∀i,i<l.length→f i ()=if p (aT l i) then some (.ret ((i:Nat):Int)) else some (.next ())):
 loopN f (l.length-0) 0 ()=some (match l.findIdx? p with|some i=> .inl ((i:Nat):Int)|none=> .inr ()):=by
 have key: ∀(k i:Nat),l.length-i=k→loopN f (l.length-i) i ()=some (match(l.drop i).findIdx? p with|some j=> .inl (((i+j:Nat)):Int)|none=> .inr ()):=by
  intro k
  induction k with
  |zero=>
   intro i hk
   rw [D7 (by omega),List.drop_of_length_le (by omega)]
   rfl
  |succ k ih=>
   intro i hk
   have hi:i<l.length:=by omega
   have h1:=hs i hi
   rw [qY hi,List.findIdx?_cons]
   cases hp:p (aT l i)
   ·rw [hp] at h1
    rw [AT hi (by simpa using h1),ih (i+1) (by omega)]
    cases(l.drop (i+1)).findIdx? p with
    |none=>simp
    |some j=>simp;omega
   ·rw [hp] at h1
    rw [JA hi (by simpa using h1)]
    simp
 have:=key l.length 0 (by omega)
 simpa using this
omit [Inhabited α] in
theorem P8{l:List α}{p:α→Bool}:decide ((match l.findIdx? p with|some i=>((i:Nat):Int)|none=> -1)≥0)=l.any p:=by
 cases h:l.findIdx? p with
 |none=>
  rw [List.findIdx?_eq_none_iff] at h
  have:l.any p=false:=by rw [List.any_eq_false];intro x hx;simp [h x hx]
  rw [this];rfl
 |some i=>
  obtain⟨h1,h2,-⟩:=List.findIdx?_eq_some_iff_getElem.1 h
  have:l.any p=true:=List.any_eq_true.2 ⟨_,List.getElem_mem h1,h2⟩
  rw [this]
  simp
end
end Go.Proofs.YtfcoaagbccmahaaGreat

namespace Go.Proofs.YtfcoaagbccmahaaGreat
open Go.RowKit Go.WalkArith Go.IntWalk
def Ok{α:Type}(o:Option α)(P:α→Prop):Prop:= ∃a,o=some a∧P a
theorem Ok.some{α:Type}{P:α→Prop}{a:α}(h:P a):Ok (Option.some a) P:=⟨a,rfl,h⟩
theorem Ok.mono{α:Type}{P Q:α→Prop}{o:Option α}(h:Ok o P)(k: ∀a,P a→Q a):Ok o Q:=by
 obtain⟨a,e,h⟩:=h
 exact⟨a,e,k a h⟩
theorem Ok.bd{α β:Type}{o:Option α}{f:α→Option β}{Q:α→Prop}{P:β→Prop}(h:Ok o Q)(k: ∀a,Q a→Ok (f a) P):Ok (bd o f) P:=by
 obtain⟨a,rfl,h⟩:=h
 exact k a h
theorem Ok.sw{α:Type}{c:Bool}{a b:Option α}{P:α→Prop}(ht:c=true→Ok a P)(hf:c=false→Ok b P):Ok (sw c a b) P:=by
 cases c
 ·exact hf rfl
 ·exact ht rfl
theorem Ok.gd{α:Type}{g:Prop}{a:Option α}{P:α→Prop}(h:g)(k:Ok a P):Ok (gd g a) P:=by
 rw [fT h rfl]
 exact k
theorem Ok.so{σ β:Type}{o:Option (β⊕σ)}{f:σ→Option β}{Q:β⊕σ→Prop}{P:β→Prop}(h:Ok o Q)(k1: ∀x,Q (.inl x)→P x)(k2: ∀s,Q (.inr s)→Ok (f s) P):Ok (so o f) P:=by
 obtain⟨a,rfl,h⟩:=h
 cases a with
 |inl x=>exact⟨x,rfl,k1 x h⟩
 |inr s=>exact k2 s h
theorem Ok.lt{α β:Type}{x:α}{f:α→Option β}{P:β→Prop}(k: ∀y,y=x→Ok (f y) P):Ok (lt x f) P:=k x rfl
theorem DS.pick_mem(d:DS){l:LB}(h:0<l.length):d.pick l∈l:=by
 rw [DS.pick_eq (d.below_lt h)]
 exact List.getElem_mem _
theorem DS.pick_size(d:DS){l:LB}{k:Nat}(h:0<l.length)(hs: ∀v∈l,v.size≤k):(d.pick l).size≤k:=hs _ (d.pick_mem h)
def PS{σ β:Type}(Q:β→Prop)(E:σ→Prop):β⊕σ→Prop
 | .inl x=>Q x
 | .inr s=>E s
def PL{σ β:Type}(Q:β→Prop)(N E:σ→Prop):LR σ β→Prop
 | .next s=>N s
 | .brk s=>E s
 | .ret x=>Q x
theorem Ok.gdk{α:Type}{g:Prop}{a:Option α}{P:α→Prop}(h:g)(k:g→Ok a P):Ok (Go.Proofs.YtfcoaagbccmahaaGreat.gd g a) P:=Ok.gd h (k h)
theorem Ok.sok{σ β:Type}{o:Option (β⊕σ)}{f:σ→Option β}{P:β→Prop}{E:σ→Prop}(h:Ok o (PS P E))(k: ∀s,E s→Ok (f s) P):Ok (Go.Proofs.YtfcoaagbccmahaaGreat.so o f) P:=Ok.so h (fun _ hx=>hx) k
theorem Ok.loopN{σ β:Type}{f:Nat→σ→Option (LR σ β)}{n:Nat}{Q:β→Prop}{E:σ→Prop}(I:Nat→σ→Prop)(hE: ∀i s,n≤i→I i s→E s)(hs: ∀i s,i<n→I i s→Ok (f i s) (PL Q (I (i+1)) E)):
 ∀(k i:Nat) (s:σ),n-i=k→I i s→Ok (Go.Proofs.YtfcoaagbccmahaaGreat.loopN f (n-i) i s) (PS Q E)
 |0,i,s,hk,hi=>by rw [D7 (by omega)];exact Ok.some (hE i s (by omega) hi)
 |k+1,i,s,hk,hi=>by
  have hlt:i<n:=by omega
  obtain⟨r,hr,hp⟩:=hs i s hlt hi
  cases r with
  |next s'=>rw [AT hlt hr];exact Ok.loopN I hE hs k (i+1) s' (by omega) hp
  |brk s'=>rw [al5 hlt hr];exact Ok.some hp
  |ret x=>rw [JA hlt hr];exact Ok.some hp
theorem Ok.loopN0{σ β:Type}{f:Nat→σ→Option (LR σ β)}{n i:Nat}{s:σ}{Q:β→Prop}{E:σ→Prop}(I:Nat→σ→Prop)(h0:I i s)(hE: ∀i s,n≤i→I i s→E s)(hs: ∀i s,i<n→I i s→Ok (f i s) (PL Q (I (i+1)) E)):Ok (Go.Proofs.YtfcoaagbccmahaaGreat.loopN f (n-i) i s) (PS Q E):=
 Ok.loopN I hE hs (n-i) i s rfl h0
theorem Ok.loopW{σ β:Type}{f:σ→Option (LR σ β)}{Q:β→Prop}{E:σ→Prop}(I:σ→Prop)(μ:σ→Nat)(hs: ∀s,I s→Ok (f s) (PL Q (fun s'=>I s'∧μ s'<μ s) E)):
 ∀(k:Nat) (s:σ),μ s<k→I s→Ok (Go.Proofs.YtfcoaagbccmahaaGreat.loopW f k s) (PS Q E)
 |0,s,hk,_=>absurd hk (Nat.not_lt_zero _)
 |k+1,s,hk,hi=>by
  obtain⟨r,hr,hp⟩:=hs s hi
  unfold Go.Proofs.YtfcoaagbccmahaaGreat.loopW
  rw [hr]
  cases r with
  |next s'=>exact Ok.loopW I μ hs k s' (by have:=hp.2;omega) hp.1
  |brk s'=>exact Ok.some hp
  |ret x=>exact Ok.some hp
theorem bS.ge(k:Nat):bS fun fu=>k≤fu:=⟨k,fun _ h=>h⟩
end Go.Proofs.YtfcoaagbccmahaaGreat

namespace Go.Proofs.YtfcoaagbccmahaaGreat
open Go.RowKit Go.WalkArith Go.IntWalk Go.WideShapes
def IS(a:Int):UInt8:=UInt8.ofNat (a%256).toNat
theorem adH(a:Int):IntKind.wrap .u8 a=((IS a).toNat:Int):=by
 unfold IS IntKind.wrap
 simp [IntKind.bits,IntKind.signed]
 omega
def bytesStr(l:List UInt8):ByteArray:=⟨l.toArray⟩
theorem XU(l:List UInt8):(bytesStr l).size=l.length:=by simp [bytesStr,ByteArray.size]
theorem XT(l:List UInt8):strOfNums (l.map fun b=>(b.toNat:Int))=bytesStr l:=by
 unfold strOfNums bytesStr
 congr 2
 rw [List.map_map]
 conv=>rhs;rw [← List.map_id l]
 apply List.map_congr_left
 intro b _
 simp
section
variable {P:Program} {C:nR} {n:Nat} {s:AS} {o:Oper}
theorem bD.quoI{T yT:TypeId}{x y:Operand}{a b:Int}(ho:o.op= .binOp .quo T x y yT)(hd:bJ o.dst n=true)(hx:s.ev x=some (.t (.leaf (.int .i64 a))))(hy:s.ev y=some (.t (.leaf (.int .i64 b))))(hb:b≠0):
 bD P C n o s (s.putO o.dst (.t (.leaf (.int .i64 (aZ (a.tdiv b)))))):=bD.bin ho hd hx hy (fun w=>by simp [eqGuard,binOp,Op.intDiv,hb,aZ]) (wf_wrap .i64 _)
theorem bD.remI{T yT:TypeId}{x y:Operand}{a b:Int}(ho:o.op= .binOp .rem T x y yT)(hd:bJ o.dst n=true)(hx:s.ev x=some (.t (.leaf (.int .i64 a))))(hy:s.ev y=some (.t (.leaf (.int .i64 b))))(hb:b≠0):
 bD P C n o s (s.putO o.dst (.t (.leaf (.int .i64 (a.tmod b))))):=
 bD.quiet (cQ hd) fun m ac w h=>by
  obtain⟨h1,h3⟩:=cD.leaf_eq (h.eval hx)
  have h2:=(cD.leaf_eq (h.eval hy)).1
  have h4: -9223372036854775808≤a∧a≤9223372036854775807:=by
   have h5:(Lit.int .i64 a).wf=true:=h3
   simpa [Lit.wf,IntKind.min,IntKind.max,IntKind.bits,IntKind.signed] using h5
  have h6:(a.tmod b).natAbs≤a.natAbs:=by rw [Int.natAbs_tmod];exact Nat.mod_le _ _
  have h7:0≤a→0≤a.tmod b:=fun h=>Int.tmod_nonneg b h
  have h8:a≤0→a.tmod b≤0:=fun h=>by have:=Int.tmod_nonneg b (show 0≤ -a by omega);rw [Int.neg_tmod] at this;omega
  refine⟨.int .i64 (a.tmod b),?_,cD.leaf (wf_i64 (by omega))⟩
  unfold execOp
  simp [ho,h1,h2,eqGuard,binOp,Op.intDiv,hb]
theorem bD.convU8{S T:TypeId}{x:Operand}{k:IntKind}{a:Int}(ho:o.op= .convert S T x)(hd:bJ o.dst n=true)(hx:s.ev x=some (.t (.leaf (.int k a))))(hS: ∃k',P.underlying S=some (.int k'))(hT:P.underlying T=some (.int .u8)):
 bD P C n o s (s.putO o.dst (.t (.leaf (.int .u8 ((IS a).toNat:Int))))):=
 bD.quiet (cQ hd) fun m ac w h=>⟨.int .u8 ((IS a).toNat:Int),by
  have h3:=(cD.leaf_eq (h.eval hx)).1
  obtain⟨k',hS⟩:=hS
  unfold execOp
  simp [ho,h3,convert,run_underlying hS,run_underlying hT,Conv.intToInt,adH],cD.leaf (by rw [← adH];exact wf_wrap .u8 a)⟩
theorem bD.subU8{T yT:TypeId}{x y:Operand}{a b:Int}(ho:o.op= .binOp .sub T x y yT)(hd:bJ o.dst n=true)(hx:s.ev x=some (.t (.leaf (.int .u8 a))))(hy:s.ev y=some (.t (.leaf (.int .u8 b)))):
 bD P C n o s (s.putO o.dst (.t (.leaf (.int .u8 ((IS (a-b)).toNat:Int))))):=by
 rw [← adH]
 exact bD.subW ho hd hx hy
theorem bD.bytesStr{S T e:TypeId}{x:Operand}{p:PV}{l:List UInt8}(ho:o.op= .convert S T x)(hd:bJ o.dst n=true)(hx:s.ev x=some p)(hp:lB p=some (1,lF l))(hS:P.underlying S=some (.slice e))(he:P.underlying e=some (.int .u8))(hT:P.underlying T=some .string):
 bD P C n o s (s.putO o.dst (.t (.leaf (.string (bytesStr l))))):=
 bD.quiet (cQ hd) fun m ac w h=>by
  have h1:=sY hp (h.eval hx)
  obtain⟨a0,cap0,hv0,hl0,hm0⟩:=h1.shape
  rw [qT] at hl0
  have hsz:sI (.string (Go.Proofs.YtfcoaagbccmahaaGreat.bytesStr l)):=by show(Go.Proofs.YtfcoaagbccmahaaGreat.bytesStr l).size≤maxLen;rw [XU];omega
  refine⟨.string (Go.Proofs.YtfcoaagbccmahaaGreat.bytesStr l),?_,cD.leaf hsz⟩
  generalize hv:ac.eval x=v at*
  cases h1 with
  |row c q1 q2 q3 q4=>
   have keyAll: ∀(a:Option Addr) (cap:Nat) (q3:lF l≠ []→ ∃b off,a=some ⟨b,off,none⟩∧b<w.heap.size∧ ∀(i:Nat) (e:List Tr),(lF l)[i]?=some e→ ∀(j:Nat) (d:Tr),e[j]?=some d→kJ C.av s.st m b (off+i*1+j)∧w.cell? ⟨b,off+i*1+j,none⟩=some (c i j)),(convert S T (.slice a (lF l).length cap)).run P w= .ok (.string (Go.Proofs.YtfcoaagbccmahaaGreat.bytesStr l)) w:=fun a cap q3=>by
    by_cases hne:l= []
    ·subst hne
     have hlen:(lF []).length=0:=rfl
     rw [hlen]
     cases a with
     |none=>exact run_convert_bytes_nil (P:=P) w S e hS he 0 cap T hT
     |some a=>
      obtain⟨b,off,sp⟩:=a
      have hld:(loadCells ⟨b,off,sp⟩ 0).run P w= .ok (([]:List Int).map (Value.int .u8)).toArray w:=by simp [loadCells,loadCellsFrom]
      rw [run_convert_bytes_string w S T e _ 0 cap hS he hT,run_bytesToString w _ 0 cap [] hld]
      rfl
    ·obtain⟨b,off,ha,hb,hc⟩:=q3 (by intro h0;apply hne;have:=congrArg List.length h0;rw [qT] at this;exact List.eq_nil_of_length_eq_zero this)
     subst ha
     have:=run_convert_bytes_arg (P:=P) w S e hS he b off (lF l).length cap (l.map fun b=>(b.toNat:Int)) (by simp [qT]) (fun i hi=>by
      rw [qT] at hi
      have h4:=(hc i _ (AE hi) 0 (.leaf (.int .u8 ((l[i]).toNat:Int))) rfl).2
      have h5:=(q4 i _ (AE hi) 0 (.leaf (.int .u8 ((l[i]).toNat:Int))) rfl).rep.leaf_eq.1
      rw [Nat.mul_one,Nat.add_zero] at h4
      rw [h4,h5]
      simp [hi]) T hT
     rw [XT] at this
     exact this
   unfold execOp
   simp only [ho,hv]
   rw [Sem.run_bind,keyAll _ _ q3]
   rfl
end
end Go.Proofs.YtfcoaagbccmahaaGreat

namespace Go.Proofs.YtfcoaagbccmahaaGreat
abbrev DJ:ByteArray:=⟨#[40,99,97,108,108,32,98,111,116,104,32,40,99,97,108,108,32,105,100,32,40,99,97,108,108,32,105,100,32,40,110,101,119,32,116,97,103,32,50,41,41,41,41]⟩
abbrev c7:ByteArray:=⟨(List.append [32,40,105,110,115,116,32,115,104,111,119,32,40,41,32,105,110,116,32,40,41,32,40,41,32,40,41,32,40,109,32,40,120,41,32,120,41,41,32,40,105,110,115] [116,32,115,104,111,119,32,40,41,32,98,111,111,108,32,40,41,32,40,41,32,40,41,32,40,109,32,40,120,41,32,40,105,102,32,120,32,49,32,48,41,41,41]).toArray⟩
abbrev DL:ByteArray:=⟨(List.append [40,108,101,116,32,122,32,40,109,101,116,104,111,100,32,97,100,100,32,112,108,117,115,32,40,110,101,119,32,98,111,120,32,49] [41,32,40,110,101,119,32,98,111,120,32,50,41,41,32,40,99,97,115,101,32,122,32,40,98,111,120,32,110,32,110,41,41,41]).toArray⟩
abbrev fW:ByteArray:=⟨(List.append [32,40,105,110,115,116,32,101,113,32,40,97,41,32,40,98,111,120,32,39,97,41,32,40,40,101,113,32,39,97,41,41,32,40,41,32,40,41,32,40,115,97,109,101,32,40,120,32,121,41,32,40,99] [97,115,101,32,120,32,40,98,111,120,32,112,32,40,99,97,115,101,32,121,32,40,98,111,120,32,113,32,40,109,101,116,104,111,100,32,101,113,32,115,97,109,101,32,112,32,113,41,41,41,41,41,41,41]).toArray⟩
abbrev DM:ByteArray:=⟨#[40,99,97,108,108,32,98,111,116,104,32,40,110,101,119,32,112,97,105,114,32,51,32,116,114,117,101,41,41]⟩
abbrev oV:ByteArray:=⟨#[32,40,102,110,32,109,97,105,110,32,40,41,32,40,41,32,40,41,32,105,110,116,32]⟩
abbrev NU:ByteArray:=⟨(List.append [32,40,105,110,115,116,32,115,104,111,119,32,40,41,32,40,108,105,115,116,32,116,97,103,41,32,40,41,32,40,41,32,40,41,32,40,109,32,40,120,41] [32,52,41,41,32,40,105,110,115,116,32,115,104,111,119,32,40,41,32,116,97,103,32,40,41,32,40,41,32,40,41,32,40,109,32,40,120,41,32,53,41,41]).toArray⟩
abbrev DN:ByteArray:=⟨(List.append [32,40,102,110,32,103,114,111,119,32,40,97,41,32,40,40,115,104,111,119,32,39,97,41,41,32,40,40,110,32,105,110,116,41,32,40,120,32,39,97,41,41,32,105,110,116,32,40,105,102,32,40,60,32,110,32] [49,41,32,40,109,101,116,104,111,100,32,115,104,111,119,32,109,32,120,41,32,40,99,97,108,108,32,103,114,111,119,32,40,45,32,110,32,49,41,32,40,110,101,119,32,112,97,105,114,32,120,32,120,41,41,41,41]).toArray⟩
abbrev NV:ByteArray:=⟨(List.append [32,40,105,110,115,116,32,101,113,32,40,41,32,116,97,103,32,40,41,32,40,41,32,40,41,32,40,115,97,109,101,32,40,120,32,121,41,32,116,114,117,101,41,41,32] [40,105,110,115,116,32,111,114,100,32,40,41,32,116,97,103,32,40,41,32,40,41,32,40,41,32,40,108,101,115,115,32,40,120,32,121,41,32,102,97,108,115,101,41,41]).toArray⟩
abbrev DO:ByteArray:=⟨(List.append [40,109,101,116,104,111,100,32,115,104,111,119,32,109,32,40,110,101,119,32,99,111,110,115,32,49,32,40,110,101,119,32,99,111] [110,115,32,50,32,40,116,104,101,32,40,108,105,115,116,32,105,110,116,41,32,40,110,101,119,32,110,105,108,41,41,41,41,41]).toArray⟩
abbrev DP:ByteArray:=⟨#[40,99,97,108,108,32,98,111,116,104,32,53,41]⟩
abbrev DQ:ByteArray:=⟨#[40,43,32,40,99,97,108,108,32,105,100,32,52,41,32,40,109,101,116,104,111,100,32,115,104,111,119,32,109,32,40,110,101,119,32,116,97,103,32,55,41,41,41]⟩
abbrev DR:ByteArray:=⟨#[40,105,102,32,40,109,101,116,104,111,100,32,111,114,100,32,108,101,115,115,32,49,32,50,41,32,40,99,97,108,108,32,98,111,116,104,32,116,114,117,101,41,32,48,41]⟩
abbrev DT:ByteArray:=⟨(List.append [40,109,101,116,104,111,100,32,115,104,111,119,32,109,32,40,110,101,119,32,99,111,110,115,32,40,110,101,119,32,116,97] [103,32,49,41,32,40,116,104,101,32,40,108,105,115,116,32,116,97,103,41,32,40,110,101,119,32,110,105,108,41,41,41,41]).toArray⟩
abbrev NW:ByteArray:=⟨#[32,40,105,110,115,116,32,111,114,100,32,40,41,32,116,97,103,32,40,41,32,40,41,32,40,41,32,40,108,101,115,115,32,40,120,32,121,41,32,116,114,117,101,41,41]⟩
abbrev DU:ByteArray:=⟨#[40,109,101,116,104,111,100,32,115,104,111,119,32,109,32,40,110,101,119,32,110,105,108,41,41]⟩
abbrev cR:ByteArray:=⟨(List.append [40,112,97,99,107,97,103,101,32,99,111,114,101,32,40,41,32,40,116,114,97,105,116,32,115,104,111,119,32,40,41,32,40,41,32,40,109,32,40,41,32,105,110,116,41,32,40,116,119,111,32,40,39,115,101] [108,102,41,32,105,110,116,32,40,120,32,121,41,32,40,43,32,40,109,101,116,104,111,100,32,115,104,111,119,32,109,32,120,41,32,40,109,101,116,104,111,100,32,115,104,111,119,32,109,32,121,41,41,41,41]).toArray⟩
abbrev lA:ByteArray:=⟨(List.append (List.append [32,40,105,110,115,116,32,97,100,100,32,40,97,41,32,40,98,111,120,32,39,97,41,32,40,40,97,100,100,32,39,97,41,41,32] [40,41,32,40,40,98,111,120,32,40,97,115,115,111,99,32,97,100,100,32,39,97,41,41,41,32,40,112,108,117,115,32,40,120,32]) (List.append [121,41,32,40,99,97,115,101,32,120,32,40,98,111,120,32,112,32,40,99,97,115,101,32,121,32,40,98,111,120,32,113,32,40,110] [101,119,32,98,111,120,32,40,109,101,116,104,111,100,32,97,100,100,32,112,108,117,115,32,112,32,113,41,41,41,41,41,41,41,41])).toArray⟩
abbrev dV:ByteArray:=⟨(List.append [32,40,105,110,115,116,32,115,104,111,119,32,40,97,32,98,41,32,40,112,97,105,114,32,39,97,32,39,98,41,32,40,40,115,104,111,119,32,39,97,41,32,40,115,104,111,119,32,39,98,41,41,32,40,41,32,40,41,32,40,109,32,40] [120,41,32,40,99,97,115,101,32,120,32,40,112,97,105,114,32,121,32,122,32,40,45,32,40,109,101,116,104,111,100,32,115,104,111,119,32,109,32,121,41,32,40,109,101,116,104,111,100,32,115,104,111,119,32,109,32,122,41,41,41,41,41,41]).toArray⟩
abbrev DV:ByteArray:=⟨#[40,109,101,116,104,111,100,32,115,104,111,119,32,109,32,40,112,97,99,107,32,115,104,111,119,32,51,41,41]⟩
abbrev jQ:ByteArray:=⟨(List.append [32,40,105,110,115,116,32,115,104,111,119,32,40,97,41,32,40,108,105,115,116,32,39,97,41,32,40,40,115,104,111,119,32,39,97,41,41,32,40,41,32,40,41,32,40,109,32,40,120,41,32,40,99,97,115,101,32,120,32,40] [110,105,108,32,48,41,32,40,99,111,110,115,32,104,32,116,32,40,43,32,40,109,101,116,104,111,100,32,115,104,111,119,32,109,32,104,41,32,40,109,101,116,104,111,100,32,115,104,111,119,32,109,32,116,41,41,41,41,41,41]).toArray⟩
abbrev oY:ByteArray:=⟨(List.append [32,40,102,110,32,105,100,32,40,97,41,32,40,41,32,40,40,120,32,39,97,41,41,32,39,97,32,120,41,32,40,102,110,32,98,111,116,104,32,40,97,41,32,40,40] [115,104,111,119,32,39,97,41,41,32,40,40,120,32,39,97,41,41,32,105,110,116,32,40,109,101,116,104,111,100,32,115,104,111,119,32,116,119,111,32,120,32,120,41,41]).toArray⟩
abbrev NX:ByteArray:=⟨#[32,40,105,110,115,116,32,115,104,111,119,32,40,41,32,116,97,103,32,40,41,32,40,41,32,40,41,32,40,109,32,40,120,41,32,40,99,97,115,101,32,120,32,40,116,97,103,32,110,32,110,41,32,40,110,111,110,101,32,48,41,41,41,41]⟩
abbrev cY:ByteArray:=⟨(List.append [32,40,100,97,116,97,32,108,105,115,116,32,40,97,41,32,40,110,105,108,41,32,40,99,111,110,115,32,39,97,32,40,108,105,115,116,32,39,97,41,41,41,32,40,100,97,116,97,32,112,97,105,114,32,40,97,32,98,41] [32,40,112,97,105,114,32,39,97,32,39,98,41,41,32,40,100,97,116,97,32,98,111,120,32,40,97,41,32,40,98,111,120,32,39,97,41,41,32,40,100,97,116,97,32,117,110,105,116,32,40,41,32,40,117,110,105,116,41,41]).toArray⟩
abbrev NY:ByteArray:=⟨(List.append [32,40,102,110,32,108,101,110,32,40,97,41,32,40,41,32,40,40,120,32,40,108,105,115,116,32,39,97,41,41,41,32,105,110,116,32,40,99,97,115,101] [32,120,32,40,110,105,108,32,48,41,32,40,99,111,110,115,32,104,32,116,32,40,43,32,49,32,40,99,97,108,108,32,108,101,110,32,116,41,41,41,41,41]).toArray⟩
abbrev NZ:ByteArray:=⟨#[32,40,105,110,115,116,32,115,104,111,119,32,40,97,41,32,39,97,32,40,40,101,113,32,39,97,41,41,32,40,41,32,40,41,32,40,109,32,40,120,41,32,49,41,41]⟩
abbrev N0:ByteArray:=⟨#[32,40,105,110,115,116,32,115,104,111,119,32,40,41,32,116,97,103,32,40,41,32,40,41,32,40,41,32,40,109,32,40,120,41,32,40,99,97,115,101,32,120,32,40,110,111,110,101,32,48,41,32,40,116,97,103,32,110,32,110,41,41,41,41]⟩
abbrev iH:ByteArray:=⟨#[32,40,105,110,115,116,32,97,100,100,32,40,41,32,105,110,116,32,40,41,32,40,41,32,40,105,110,116,41,32,40,112,108,117,115,32,40,120,32,121,41,32,40,43,32,120,32,121,41,41,41]⟩
abbrev cS:ByteArray:=⟨(List.append (List.append [32,40,116,114,97,105,116,32,101,113,32,40,41,32,40,41,32,40,115,97,109,101,32,40,39,115,101,108,102,41,32,98,111,111,108,41,41,32,40] [116,114,97,105,116,32,111,114,100,32,40,101,113,41,32,40,41,32,40,108,101,115,115,32,40,39,115,101,108,102,41,32,98,111,111,108,41,41,32]) (List.append [40,116,114,97,105,116,32,97,100,100,32,40,41,32,40,97,115,115,111,99,41,32,40,112,108,117,115,32,40,39,115,101,108,102,41,32,40,97,115] [115,111,99,32,97,100,100,32,39,115,101,108,102,41,41,41,32,40,116,114,97,105,116,32,115,101,110,100,32,40,41,32,40,97,117,116,111,41,41])).toArray⟩
abbrev N1:ByteArray:=⟨(List.append [32,40,102,110,32,115,117,109,32,40,97,41,32,40,40,97,100,100,32,39,97,41,41,32,40,40,120,32,39,97,41,32,40,121,32,39,97,41] [41,32,40,97,115,115,111,99,32,97,100,100,32,39,97,41,32,40,109,101,116,104,111,100,32,97,100,100,32,112,108,117,115,32,120,32,121,41,41]).toArray⟩
abbrev eS:ByteArray:=⟨#[40,112,97,99,107,97,103,101,32,97,112,112,32,40,99,111,114,101,41,32,40,100,97,116,97,32,116,97,103,32,40,41,32,40,116,97,103,32,105,110,116,41,32,40,110,111,110,101,41,41]⟩
abbrev eT:ByteArray:=⟨(List.append [32,40,105,110,115,116,32,101,113,32,40,41,32,105,110,116,32,40,41,32,40,41,32,40,41,32,40,115,97,109,101,32,40,120,32,121,41,32,40,61,32,120,32,121,41,41,41] [32,40,105,110,115,116,32,111,114,100,32,40,41,32,105,110,116,32,40,41,32,40,41,32,40,41,32,40,108,101,115,115,32,40,120,32,121,41,32,40,60,32,120,32,121,41,41,41]).toArray⟩
abbrev jR:ByteArray:=⟨(List.append (List.append [32,40,105,110,115,116,32,115,104,111,119,32,40,97,41,32,40,108,105,115,116,32,39,97,41,32,40,41,32,40,100,101,102,97,117,108] [116,41,32,40,41,32,40,109,32,40,120,41,32,55,41,41,32,40,105,110,115,116,32,115,104,111,119,32,40,41,32,40,108,105,115,116,32]) (List.append [105,110,116,41,32,40,41,32,40,41,32,40,41,32,40,109,32,40,120,41,32,40,99,97,115,101,32,120,32,40,110,105,108,32,48,41,32] [40,99,111,110,115,32,104,32,116,32,40,43,32,104,32,40,109,101,116,104,111,100,32,115,104,111,119,32,109,32,116,41,41,41,41,41,41])).toArray⟩
abbrev N2:ByteArray:=⟨#[32,40,105,110,115,116,32,115,104,111,119,32,40,41,32,105,110,116,32,40,41,32,40,41,32,40,41,32,40,109,32,40,120,41,32,57,41,41]⟩
abbrev s_:ByteArray:=⟨#[]⟩
abbrev s_0:ByteArray:=⟨#[48]⟩
abbrev s_A:ByteArray:=⟨#[65]⟩
abbrev gF:ByteArray:=⟨#[97]⟩
abbrev eC:ByteArray:=⟨#[97,100,100]⟩
abbrev jF:ByteArray:=⟨#[97,115,115,111,99]⟩
abbrev A4:ByteArray:=⟨#[97,117,116,111]⟩
abbrev B5:ByteArray:=⟨#[98]⟩
abbrev eE:ByteArray:=⟨#[98,111,111,108]⟩
abbrev B6:ByteArray:=⟨#[98,111,120]⟩
abbrev s_c:ByteArray:=⟨#[99]⟩
abbrev RF:ByteArray:=⟨#[99,97,108,108]⟩
abbrev yR:ByteArray:=⟨#[99,97,115,101]⟩
abbrev cL:ByteArray:=⟨#[99,111,110,115]⟩
abbrev gG:ByteArray:=⟨#[99,111,114,101]⟩
abbrev RG:ByteArray:=⟨#[100,97,116,97]⟩
abbrev wI:ByteArray:=⟨#[100,101,102,97,117,108,116]⟩
abbrev y1:ByteArray:=⟨#[100,121,110]⟩
abbrev kH:ByteArray:=⟨#[101,113]⟩
abbrev s_f:ByteArray:=⟨#[102]⟩
abbrev l0:ByteArray:=⟨#[102,97,108,115,101]⟩
abbrev amI:ByteArray:=⟨#[102,110]⟩
abbrev s_g:ByteArray:=⟨#[103]⟩
abbrev s_h:ByteArray:=⟨#[104]⟩
abbrev FP:ByteArray:=⟨#[105,102]⟩
abbrev RH:ByteArray:=⟨#[105,110,115,116]⟩
abbrev eU:ByteArray:=⟨#[105,110,116]⟩
abbrev GK:ByteArray:=⟨#[108,101,116]⟩
abbrev cV:ByteArray:=⟨#[108,105,115,116]⟩
abbrev eV:ByteArray:=⟨#[109]⟩
abbrev o5:ByteArray:=⟨#[109,101,116,104,111,100]⟩
abbrev GL:ByteArray:=⟨#[110,101,119]⟩
abbrev fX:ByteArray:=⟨#[110,105,108]⟩
abbrev WM:ByteArray:=⟨#[111,110,101]⟩
abbrev eM:ByteArray:=⟨#[111,114,100]⟩
abbrev s_p:ByteArray:=⟨#[112]⟩
abbrev yS:ByteArray:=⟨#[112,97,99,107]⟩
abbrev Z5:ByteArray:=⟨#[112,97,99,107,97,103,101]⟩
abbrev u9:ByteArray:=⟨#[112,97,105,114]⟩
abbrev s_q:ByteArray:=⟨#[113]⟩
abbrev jZ:ByteArray:=⟨#[115,101,108,102]⟩
abbrev jM:ByteArray:=⟨#[115,101,110,100]⟩
abbrev bE:ByteArray:=⟨#[115,104,111,119]⟩
abbrev s_t:ByteArray:=⟨#[116]⟩
abbrev IA:ByteArray:=⟨#[116,97,103]⟩
abbrev Z6:ByteArray:=⟨#[116,104,101]⟩
abbrev JF:ByteArray:=⟨#[116,114,97,105,116]⟩
abbrev qE:ByteArray:=⟨#[116,114,117,101]⟩
abbrev fM:ByteArray:=⟨#[116,119,105,99,101]⟩
abbrev jN:ByteArray:=⟨#[117,110,105,116]⟩
abbrev eQ:ByteArray:=⟨#[120]⟩
abbrev r7:ByteArray:=⟨#[121]⟩
abbrev vI:ByteArray:=⟨#[122,122]⟩
abbrev am0:ByteArray:=⟨#[10]⟩
abbrev am1:ByteArray:=⟨#[39]⟩
abbrev BE:ByteArray:=⟨#[41]⟩
abbrev PD:ByteArray:=⟨#[42]⟩
abbrev BF:ByteArray:=⟨#[43]⟩
abbrev GT:ByteArray:=⟨#[45]⟩
abbrev PE:ByteArray:=⟨#[60]⟩
abbrev PF:ByteArray:=⟨#[61]⟩
end Go.Proofs.YtfcoaagbccmahaaGreat

namespace Go.Proofs.YtfcoaagbccmahaaGreat
open Go.RowKit Go.WalkArith Go.IntWalk
class Wt (α:Type) where
 wtOf:α→Nat
def wt{α:Type}[Wt α](x:α):Nat:=Wt.wtOf x
def wl{α:Type}[Wt α]:List α→Nat
 | []=>0
 |a::l=>wt a+1+wl l
instance:Wt ByteArray:=⟨ByteArray.size⟩
theorem bA(b:ByteArray):wt b=b.size:=rfl
theorem IU(l:LB):wl l=l.length+Tr.bulkAll (aY l):=by
 induction l with
 |nil=>rw [apU];rfl
 |cons a l ih=>rw [aoK];simp only [wl,List.length_cons,bA];omega
section
variable {α:Type} [Wt α]
theorem aX:wl ([]:List α)=0∧([]:List α).length=0:=⟨rfl,rfl⟩
theorem adF(a:α)(l:List α):wl (a::l)=wt a+1+wl l:=rfl
theorem b8(a b:List α):wl (a++b)=wl a+wl b∧(a++b).length=a.length+b.length:=by
 refine⟨?_,List.length_append⟩
 induction a with
 |nil=>simp [wl]
 |cons x a ih=>simp only [List.cons_append,wl];omega
theorem cG(a:α):wl [a]=wt a+1∧ [a].length=1:=⟨rfl,rfl⟩
theorem k7(a b:α):wl [a,b]=wt a+wt b+2∧ [a,b].length=2:=⟨by simp only [wl];omega,rfl⟩
theorem GM(a b c:α):wl [a,b,c]=wt a+wt b+wt c+3∧ [a,b,c].length=3:=⟨by simp only [wl];omega,rfl⟩
theorem avD(a b c d:α):wl [a,b,c,d]=wt a+wt b+wt c+wt d+4∧ [a,b,c,d].length=4:=⟨by simp only [wl];omega,rfl⟩
theorem ar2(a b c d e:α):wl [a,b,c,d,e]=wt a+wt b+wt c+wt d+wt e+5∧ [a,b,c,d,e].length=5:=⟨by simp only [wl];omega,rfl⟩
theorem al2(a b c d e f g:α):wl [a,b,c,d,e,f,g]=wt a+wt b+wt c+wt d+wt e+wt f+wt g+7∧ [a,b,c,d,e,f,g].length=7:=⟨by simp only [wl];omega,rfl⟩
theorem bB(l:List α):l.length≤wl l:=by
 induction l with
 |nil=>simp
 |cons a l ih=>simp only [wl,List.length_cons];omega
theorem IT(k:Nat)(l:List α):wl (l.take k)+wl (l.drop k)=wl l:=by
 have:=(b8 (l.take k) (l.drop k)).1
 rw [List.take_append_drop] at this
 omega
theorem oQ(l:List α)(k:Nat):wl (l.take k)≤wl l:=by have:=IT k l;omega
theorem apW(k:Nat)(l:List α):wl (l.drop k)≤wl l:=by have:=IT k l;omega
theorem UB(a b:Nat)(l:List α):wl (List.drop a (List.take b l))≤wl l∧(List.drop a (List.take b l)).length=min b l.length-a:=by
 have h1:=apW a (l.take b)
 have h2:=oQ l b
 exact⟨by omega,by simp⟩
theorem C2{l:List α}{x:α}(h:x∈l):wt x+1≤wl l:=by
 induction l with
 |nil=>simp at h
 |cons a l ih=>
  simp only [wl]
  rcases List.mem_cons.1 h with rfl|h
  ·omega
  ·have:=ih h;omega
theorem adG(l:List α)(a b:Nat):a≤b→wl (l.take a)≤wl (l.take b):=fun h=>by
 have:=oQ (l.take b) a
 rwa [List.take_take,Nat.min_eq_left h] at this
theorem aqX(L:List α)(b:Nat):1≤b→wl (List.drop (1:Int).toNat (List.take b L))+wl (List.take 1 L)≤wl (List.take b L):=fun h=>by
 have:=IT 1 (L.take b)
 rw [List.take_take,Nat.min_eq_left h] at this
 show wl (List.drop 1 _)+_≤_
 omega
variable [Inhabited α]
theorem cW(l:List α)(i:Nat):i<l.length→wt (aT l i)+1≤wl l:=fun h=>C2 (cE h)
theorem oT(l:List α)(i:Nat)(h:i<l.length):wl (l.take (i+1))=wl (l.take i)+wt (aT l i)+1:=by
 rw [XH h,(b8 _ _).1,(cG _).1]
 omega
theorem K8(l:List α)(i:Nat):i<l.length→wl (l.take (i+1))=wl (l.take i)+wt (aT l i)+1:=oT l i
end
theorem eR(E:Int): -9223372036854775808≤E∧E≤9223372036854775807→aZ E=E:=fun h=>by
 unfold aZ IntKind.wrap
 simp [IntKind.bits,IntKind.signed]
 omega
theorem EU(b:ByteArray)(i j:Nat):(b.extract i j).size=min j b.size-i:=by simp [ByteArray.size_extract]
theorem eY(a b:ByteArray):(a++b).size=a.size+b.size:=ByteArray.size_append
theorem anI(l:List UInt8):(bytesStr l).size=l.length:=by simp [bytesStr,ByteArray.size]
theorem G2{b:ByteArray}(h: ¬b=⟨#[]⟩):0<b.size:=by
 rcases Nat.eq_zero_or_pos b.size with h0|h0
 ·refine absurd ?_ h
  obtain⟨a⟩:=b
  have h1:a.size=0:=h0
  rw [Array.eq_empty_of_size_eq_zero h1]
 ·exact h0
theorem bR{p:Prop}(h:p:=by first|omega|(dsimp only;omega)|trivial|(dsimp only;trivial)):p:=h
theorem Ok.next{σ β:Type}{N E:σ→Prop}{Q:β→Prop}{s:σ}(h:N s):Ok (Option.some (LR.next s)) (PL Q N E):=⟨_,rfl,h⟩
theorem Ok.brk{σ β:Type}{N E:σ→Prop}{Q:β→Prop}{s:σ}(h:E s):Ok (Option.some (LR.brk s)) (PL Q N E):=⟨_,rfl,h⟩
theorem Ok.ret{σ β:Type}{N E:σ→Prop}{Q:β→Prop}{x:β}(h:Q x):Ok (Option.some (LR.ret (σ:=σ) x)) (PL Q N E):=⟨_,rfl,h⟩
theorem Ok.inr{σ β:Type}{E:σ→Prop}{Q:β→Prop}{s:σ}(h:E s):Ok (Option.some (Sum.inr (α:=β) s)) (PS Q E):=⟨_,rfl,h⟩
theorem Ok.swd{α:Type}{p:Prop}[Decidable p]{a b:Option α}{P:α→Prop}(ht:p→Ok a P)(hf: ¬p→Ok b P):Ok (Go.Proofs.YtfcoaagbccmahaaGreat.sw (decide p) a b) P:=Ok.sw (fun h=>ht (of_decide_eq_true h)) (fun h=>hf (of_decide_eq_false h))
theorem Ok.swn{α:Type}{p:Prop}[Decidable p]{a b:Option α}{P:α→Prop}(ht: ¬p→Ok a P)(hf:p→Ok b P):Ok (Go.Proofs.YtfcoaagbccmahaaGreat.sw (!decide p) a b) P:=Ok.sw (fun h=>ht (by simpa using h)) (fun h=>hf (by simpa using h))
theorem Ok.swb{α:Type}{x:Bool}{a b:Option α}{P:α→Prop}(ht:x=false→Ok a P)(hf:x=true→Ok b P):Ok (Go.Proofs.YtfcoaagbccmahaaGreat.sw (!x) a b) P:=Ok.sw (fun h=>ht (by simpa using h)) (fun h=>hf (by simpa using h))
theorem Ok.loop0{σ β:Type}{f:Nat→σ→Option (LR σ β)}{n i:Nat}{s:σ}{Q:β→Prop}{E:σ→Prop}(I:Nat→σ→Prop)(h0:I i s)(hE: ∀i s,n≤i→I i s→E s)(hs: ∀i s,i<n→I i s→Ok (f i s) (PL Q (I (i+1)) E)):Ok (Go.Proofs.YtfcoaagbccmahaaGreat.loopN f (n-i) i s) (PS Q E):=Ok.loopN0 I h0 hE hs
theorem Ok.loop1{σ β:Type}{f:Nat→σ→Option (LR σ β)}{n i:Nat}{s:σ}{Q:β→Prop}(hs: ∀i s,i<n→Ok (f i s) (PL Q (fun _=>True) (fun _=>True))):Ok (Go.Proofs.YtfcoaagbccmahaaGreat.loopN f (n-i) i s) (PS Q (fun _=>True)):=Ok.loopN0 (fun _ _=>True) trivial (fun _ _ _ _=>trivial) (fun i s hi _=>hs i s hi)
theorem oG{α:Type}{g:Prop}{a:Option α}{P:α→Prop}(k:g→Ok a P)(h:g:=by first|omega|trivial):Ok (Go.Proofs.YtfcoaagbccmahaaGreat.gd g a) P:=Ok.gdk h k
theorem oD{α:Type}{p:Prop}[Decidable p]{a b:Option α}{P:α→Prop}(ht:p→Ok a P)(hf: ¬p→Ok b P):Ok (Go.Proofs.YtfcoaagbccmahaaGreat.sw (decide p) a b) P:=Ok.swd ht hf
theorem oN{α:Type}{p:Prop}[Decidable p]{a b:Option α}{P:α→Prop}(ht: ¬p→Ok a P)(hf:p→Ok b P):Ok (Go.Proofs.YtfcoaagbccmahaaGreat.sw (!decide p) a b) P:=Ok.swn ht hf
theorem oW{α:Type}{x:Bool}{a b:Option α}{P:α→Prop}(ht:x=false→Ok a P)(hf:x=true→Ok b P):Ok (Go.Proofs.YtfcoaagbccmahaaGreat.sw (!x) a b) P:=Ok.swb ht hf
theorem oC{α:Type}{c:Bool}{a b:Option α}{P:α→Prop}(ht:c=true→Ok a P)(hf:c=false→Ok b P):Ok (Go.Proofs.YtfcoaagbccmahaaGreat.sw c a b) P:=Ok.sw ht hf
theorem oB{α β:Type}{o:Option α}{f:α→Option β}{Q:α→Prop}{P:β→Prop}(h:Ok o Q)(k: ∀a,Q a→Ok (f a) P):Ok (Go.Proofs.YtfcoaagbccmahaaGreat.bd o f) P:=Ok.bd h k
theorem SF{α β:Type}{o:Option α}{f:α→Option β}{Q1 Q2:α→Prop}{P:β→Prop}(h:Ok o (fun r=>Q1 r∧Q2 r))(k: ∀a,Q1 a→Q2 a→Ok (f a) P):Ok (Go.Proofs.YtfcoaagbccmahaaGreat.bd o f) P:=Ok.bd h fun a q=>k a q.1 q.2
theorem vH{A B β:Type}{o:Option (A×B)}{f:A×B→Option β}{Q:A×B→Prop}{P:β→Prop}(h:Ok o Q)(k: ∀a b,Q (a,b)→Ok (f (a,b)) P):Ok (Go.Proofs.YtfcoaagbccmahaaGreat.bd o f) P:=Ok.bd h fun _ q=>k _ _ q
theorem oB4{A B C D β:Type}{o:Option (A×B×C×D)}{f:A×B×C×D→Option β}{Q:A×B×C×D→Prop}{P:β→Prop}(h:Ok o Q)(k: ∀a b c d,Q (a,b,c,d)→Ok (f (a,b,c,d)) P):Ok (Go.Proofs.YtfcoaagbccmahaaGreat.bd o f) P:=Ok.bd h fun _ q=>k _ _ _ _ q
theorem oB6{A B C D E F β:Type}{o:Option (A×B×C×D×E×F)}{f:A×B×C×D×E×F→Option β}{Q:A×B×C×D×E×F→Prop}{P:β→Prop}(h:Ok o Q)(k: ∀a b c d e g,Q (a,b,c,d,e,g)→Ok (f (a,b,c,d,e,g)) P):Ok (Go.Proofs.YtfcoaagbccmahaaGreat.bd o f) P:=Ok.bd h fun _ q=>k _ _ _ _ _ _ q
theorem oS{α:Type}{P:α→Prop}{a:α}(h:P a:=by first|trivial|omega|(dsimp only;omega)):Ok (Option.some a) P:=⟨a,rfl,h⟩
theorem qD{σ β:Type}{N E:σ→Prop}{Q:β→Prop}{s:σ}(h:N s:=by first|trivial|omega|(dsimp only;omega)):Ok (Option.some (LR.next s)) (PL Q N E):=⟨_,rfl,h⟩
theorem oK{σ β:Type}{N E:σ→Prop}{Q:β→Prop}{s:σ}(h:E s:=by first|trivial|omega|(dsimp only;omega)):Ok (Option.some (LR.brk s)) (PL Q N E):=⟨_,rfl,h⟩
theorem oR{σ β:Type}{N E:σ→Prop}{Q:β→Prop}{x:β}(h:Q x:=by first|trivial|omega|(dsimp only;omega)):Ok (Option.some (LR.ret (σ:=σ) x)) (PL Q N E):=⟨_,rfl,h⟩
theorem oL{σ β:Type}{E:σ→Prop}{Q:β→Prop}{x:β}(h:Q x:=by first|trivial|omega|(dsimp only;omega)):Ok (Option.some (Sum.inl (β:=σ) x)) (PS Q E):=⟨_,rfl,h⟩
theorem oI{σ β:Type}{E:σ→Prop}{Q:β→Prop}{s:σ}(h:E s:=by first|trivial|omega|(dsimp only;omega)):Ok (Option.some (Sum.inr (α:=β) s)) (PS Q E):=⟨_,rfl,h⟩
theorem GN{σ β:Type}{o:Option (β⊕σ)}{f:σ→Option β}{P:β→Prop}(h:Ok o (PS P fun _=>True))(k: ∀s,True→Ok (f s) P):Ok (Go.Proofs.YtfcoaagbccmahaaGreat.so o f) P:=Ok.sok h k
theorem oEN{σ β:Type}{n i0:Nat}{s0:σ}{F:Nat→σ→Option (LR σ β)}{f:σ→Option β}{P:β→Prop}(hs: ∀i s,i<n→Ok (F i s) (PL P (fun _=>True) (fun _=>True)))(k: ∀s,True→Ok (f s) P):Ok (Go.Proofs.YtfcoaagbccmahaaGreat.so (Go.Proofs.YtfcoaagbccmahaaGreat.loopN F (n-i0) i0 s0) f) P:=Ok.sok (Ok.loop1 hs) k
theorem QP{A B β:Type}[Wt A][Wt B][Inhabited A]{F:Nat→List B→Option (LR (List B) β)}{f:List B→Option β}{i0:Nat}{v0:List B}{Q:β→Prop}(L:List A)(c:Nat)
 (hs: ∀i v,i<L.length→wl v+c*wl (List.take i0 L)≤wl v0+c*wl (List.take i L)→wl (L.take (i+1))=wl (L.take i)+wt (aT L i)+1→wl (L.take (i+1))≤wl L→
  Ok (F i v) (PL Q (fun v=>wl v+c*wl (List.take i0 L)≤wl v0+c*wl (List.take (i+1) L)) (fun v=>wl v+c*wl (List.take i0 L)≤wl v0+c*wl L)))
 (k: ∀v,wl v+c*wl (List.take i0 L)≤wl v0+c*wl L→Ok (f v) Q):Ok (Go.Proofs.YtfcoaagbccmahaaGreat.so (Go.Proofs.YtfcoaagbccmahaaGreat.loopN F (L.length-i0) i0 v0) f) Q:=
 Ok.sok (Ok.loopN0 (fun i v=>wl v+c*wl (List.take i0 L)≤wl v0+c*wl (List.take i L)) (Nat.le_refl _) (fun i v _ h=>Nat.le_trans h (Nat.add_le_add_left (Nat.mul_le_mul_left _ (oQ L i)) _)) (fun i v hi h=>hs i v hi h (oT L i hi) (oQ L _))) k
theorem apC{A B β:Type}[Wt A][Wt B][Inhabited A]{F:Nat→List B→Option (LR (List B) β)}{f:List B→Option β}{i0:Nat}{Q:β→Prop}{PA:B→Prop}(L:List A)(c:Nat)
 (hs: ∀i v,i<L.length→wl v+c*wl (List.take i0 L)≤wl ([]:List B)+c*wl (List.take i L)→(∀a∈v,PA a)→wl (L.take (i+1))=wl (L.take i)+wt (aT L i)+1→wl (L.take (i+1))≤wl L→
  Ok (F i v) (PL Q (fun v=>wl v+c*wl (List.take i0 L)≤wl ([]:List B)+c*wl (List.take (i+1) L)∧ ∀a∈v,PA a) (fun v=>wl v+c*wl (List.take i0 L)≤wl ([]:List B)+c*wl L∧ ∀a∈v,PA a)))
 (k: ∀v,(wl v+c*wl (List.take i0 L)≤wl ([]:List B)+c*wl L∧ ∀a∈v,PA a)→Ok (f v) Q):Ok (Go.Proofs.YtfcoaagbccmahaaGreat.so (Go.Proofs.YtfcoaagbccmahaaGreat.loopN F (L.length-i0) i0 []) f) Q:=
 Ok.sok (Ok.loopN0 (fun i v=>wl v+c*wl (List.take i0 L)≤wl ([]:List B)+c*wl (List.take i L)∧ ∀a∈v,PA a) ⟨Nat.le_refl _,by simp⟩ (fun i v _ h=>⟨Nat.le_trans h.1 (Nat.add_le_add_left (Nat.mul_le_mul_left _ (oQ L i)) _),h.2⟩) (fun i v hi h=>hs i v hi h.1 h.2 (oT L i hi) (oQ L _))) k
instance:Wt aF:=⟨fun x=>Tr.bulkL (aF.tr x)⟩
instance:Wt aA:=⟨fun x=>Tr.bulkL (aA.tr x)⟩
instance:Wt aM:=⟨fun x=>Tr.bulkL (aM.tr x)⟩
instance:Wt bV:=⟨fun x=>Tr.bulkL (bV.tr x)⟩
instance:Wt aD:=⟨fun x=>Tr.bulkL (aD.tr x)⟩
instance:Wt aW:=⟨fun x=>Tr.bulkL (aW.tr x)⟩
instance:Wt aQ:=⟨fun x=>Tr.bulkL (aQ.tr x)⟩
instance:Wt aE:=⟨fun x=>Tr.bulkL (aE.tr x)⟩
instance:Wt aG:=⟨fun x=>Tr.bulkL (aG.tr x)⟩
instance:Wt aV:=⟨fun x=>Tr.bulkL (aV.tr x)⟩
instance:Wt aO:=⟨fun x=>Tr.bulkL (aO.tr x)⟩
instance:Wt aL:=⟨fun x=>Tr.bulkL (aL.tr x)⟩
instance:Wt aP:=⟨fun x=>Tr.bulkL (aP.tr x)⟩
instance:Wt aN:=⟨fun x=>Tr.bulkL (aN.tr x)⟩
instance:Wt aH:=⟨fun x=>Tr.bulkL (aH.tr x)⟩
instance:Wt aB:=⟨fun x=>Tr.bulkL (aB.tr x)⟩
instance:Wt aK:=⟨fun x=>Tr.bulkL (aK.tr x)⟩
instance:Wt aJ:=⟨fun x=>Tr.bulkL (aJ.tr x)⟩
instance:Wt aC:=⟨fun x=>Tr.bulkL (aC.tr x)⟩
instance:Wt bC:=⟨fun x=>Tr.bulkL (bC.tr x)⟩
instance:Wt bP:=⟨fun x=>Tr.bulkL (bP.tr x)⟩
theorem aA.wl_bulk(l:List aA):wl l=l.length+Tr.bulkAll (aA.trs l):=by
 induction l with
 |nil=>rw [aA.bks_nil];rfl
 |cons a l ih=>
  rw [aA.bks_cons]
  simp only [wl,List.length_cons,ih]
  show Tr.bulkL (aA.tr a)+1+_=_
  omega
theorem aM.wl_bulk(l:List aM):wl l=l.length+Tr.bulkAll (aM.trs l):=by
 induction l with
 |nil=>rw [aM.bks_nil];rfl
 |cons a l ih=>
  rw [aM.bks_cons]
  simp only [wl,List.length_cons,ih]
  show Tr.bulkL (aM.tr a)+1+_=_
  omega
theorem bV.wl_bulk(l:List bV):wl l=l.length+Tr.bulkAll (bV.trs l):=by
 induction l with
 |nil=>rw [bV.bks_nil];rfl
 |cons a l ih=>
  rw [bV.bks_cons]
  simp only [wl,List.length_cons,ih]
  show Tr.bulkL (bV.tr a)+1+_=_
  omega
theorem aD.wl_bulk(l:List aD):wl l=l.length+Tr.bulkAll (aD.trs l):=by
 induction l with
 |nil=>rw [aD.bks_nil];rfl
 |cons a l ih=>
  rw [aD.bks_cons]
  simp only [wl,List.length_cons,ih]
  show Tr.bulkL (aD.tr a)+1+_=_
  omega
theorem aW.wl_bulk(l:List aW):wl l=l.length+Tr.bulkAll (aW.trs l):=by
 induction l with
 |nil=>rw [aW.bks_nil];rfl
 |cons a l ih=>
  rw [aW.bks_cons]
  simp only [wl,List.length_cons,ih]
  show Tr.bulkL (aW.tr a)+1+_=_
  omega
theorem aQ.wl_bulk(l:List aQ):wl l=l.length+Tr.bulkAll (aQ.trs l):=by
 induction l with
 |nil=>rw [aQ.bks_nil];rfl
 |cons a l ih=>
  rw [aQ.bks_cons]
  simp only [wl,List.length_cons,ih]
  show Tr.bulkL (aQ.tr a)+1+_=_
  omega
theorem aE.wl_bulk(l:List aE):wl l=l.length+Tr.bulkAll (aE.trs l):=by
 induction l with
 |nil=>rw [aE.bks_nil];rfl
 |cons a l ih=>
  rw [aE.bks_cons]
  simp only [wl,List.length_cons,ih]
  show Tr.bulkL (aE.tr a)+1+_=_
  omega
theorem aG.wl_bulk(l:List aG):wl l=l.length+Tr.bulkAll (aG.trs l):=by
 induction l with
 |nil=>rw [aG.bks_nil];rfl
 |cons a l ih=>
  rw [aG.bks_cons]
  simp only [wl,List.length_cons,ih]
  show Tr.bulkL (aG.tr a)+1+_=_
  omega
theorem aV.wl_bulk(l:List aV):wl l=l.length+Tr.bulkAll (aV.trs l):=by
 induction l with
 |nil=>rw [aV.bks_nil];rfl
 |cons a l ih=>
  rw [aV.bks_cons]
  simp only [wl,List.length_cons,ih]
  show Tr.bulkL (aV.tr a)+1+_=_
  omega
theorem aO.wl_bulk(l:List aO):wl l=l.length+Tr.bulkAll (aO.trs l):=by
 induction l with
 |nil=>rw [aO.bks_nil];rfl
 |cons a l ih=>
  rw [aO.bks_cons]
  simp only [wl,List.length_cons,ih]
  show Tr.bulkL (aO.tr a)+1+_=_
  omega
theorem aL.wl_bulk(l:List aL):wl l=l.length+Tr.bulkAll (aL.trs l):=by
 induction l with
 |nil=>rw [aL.bks_nil];rfl
 |cons a l ih=>
  rw [aL.bks_cons]
  simp only [wl,List.length_cons,ih]
  show Tr.bulkL (aL.tr a)+1+_=_
  omega
theorem aP.wl_bulk(l:List aP):wl l=l.length+Tr.bulkAll (aP.trs l):=by
 induction l with
 |nil=>rw [aP.bks_nil];rfl
 |cons a l ih=>
  rw [aP.bks_cons]
  simp only [wl,List.length_cons,ih]
  show Tr.bulkL (aP.tr a)+1+_=_
  omega
theorem aN.wl_bulk(l:List aN):wl l=l.length+Tr.bulkAll (aN.trs l):=by
 induction l with
 |nil=>rw [aN.bks_nil];rfl
 |cons a l ih=>
  rw [aN.bks_cons]
  simp only [wl,List.length_cons,ih]
  show Tr.bulkL (aN.tr a)+1+_=_
  omega
theorem aB.wl_bulk(l:List aB):wl l=l.length+Tr.bulkAll (aB.trs l):=by
 induction l with
 |nil=>rw [aB.bks_nil];rfl
 |cons a l ih=>
  rw [aB.bks_cons]
  simp only [wl,List.length_cons,ih]
  show Tr.bulkL (aB.tr a)+1+_=_
  omega
theorem aA.wt_mk(v0:Int)(v1:ByteArray)(v2:List aA):wt (aA.mk v0 v1 v2)=v1.size+wl v2:=by
 show Tr.bulkL (aA.tr (.mk v0 v1 v2))=_
 rw [aA.bk_mk]
 simp only [aA.wl_bulk]
 try rfl
theorem aA.wt_eq(x:aA):wt x=x.aBs.size+wl x.aBt:=by
 obtain⟨v0,v1,v2⟩:=x
 exact aA.wt_mk v0 v1 v2
theorem aM.wt_mk(v0:Int)(v1:ByteArray)(v2:ByteArray)(v3:Int)(v4:aA)(v5:List aM)(v6:List bV):wt (aM.mk v0 v1 v2 v3 v4 v5 v6)=v1.size+v2.size+wt v4+wl v5+wl v6:=by
 show Tr.bulkL (aM.tr (.mk v0 v1 v2 v3 v4 v5 v6))=_
 rw [aM.bk_mk]
 simp only [aM.wl_bulk,bV.wl_bulk]
 try rfl
theorem aM.wt_eq(x:aM):wt x=x.aBz.size+x.aBs.size+wt x.aBu+wl x.aBt+wl x.aBN:=by
 obtain⟨v0,v1,v2,v3,v4,v5,v6⟩:=x
 exact aM.wt_mk v0 v1 v2 v3 v4 v5 v6
theorem bV.wt_mk(v0:ByteArray)(v1:LB)(v2:aM):wt (bV.mk v0 v1 v2)=v0.size+wl v1+wt v2:=by
 show Tr.bulkL (bV.tr (.mk v0 v1 v2))=_
 rw [bV.bk_mk]
 simp only [IU]
 try rfl
theorem bV.wt_eq(x:bV):wt x=x.aBU.size+wl x.aBF+wt x.aBC:=by
 obtain⟨v0,v1,v2⟩:=x
 exact bV.wt_mk v0 v1 v2
theorem aD.wt_mk(v0:ByteArray)(v1:aA):wt (aD.mk v0 v1)=v0.size+wt v1:=by
 show Tr.bulkL (aD.tr (.mk v0 v1))=_
 rw [aD.bk_mk]
 try rfl
theorem aD.wt_eq(x:aD):wt x=x.aBz.size+wt x.aBu:=by
 obtain⟨v0,v1⟩:=x
 exact aD.wt_mk v0 v1
theorem aW.wt_mk(v0:ByteArray)(v1:aA):wt (aW.mk v0 v1)=v0.size+wt v1:=by
 show Tr.bulkL (aW.tr (.mk v0 v1))=_
 rw [aW.bk_mk]
 try rfl
theorem aW.wt_eq(x:aW):wt x=x.aBs.size+wt x.aBu:=by
 obtain⟨v0,v1⟩:=x
 exact aW.wt_mk v0 v1
theorem aQ.wt_mk(v0:ByteArray)(v1:LB)(v2:aM):wt (aQ.mk v0 v1 v2)=v0.size+wl v1+wt v2:=by
 show Tr.bulkL (aQ.tr (.mk v0 v1 v2))=_
 rw [aQ.bk_mk]
 simp only [IU]
 try rfl
theorem aQ.wt_eq(x:aQ):wt x=x.aBs.size+wl x.aBF+wt x.aBC:=by
 obtain⟨v0,v1,v2⟩:=x
 exact aQ.wt_mk v0 v1 v2
theorem aE.wt_mk(v0:ByteArray)(v1:List aA):wt (aE.mk v0 v1)=v0.size+wl v1:=by
 show Tr.bulkL (aE.tr (.mk v0 v1))=_
 rw [aE.bk_mk]
 simp only [aA.wl_bulk]
 try rfl
theorem aE.wt_eq(x:aE):wt x=x.aBs.size+wl x.aBM:=by
 obtain⟨v0,v1⟩:=x
 exact aE.wt_mk v0 v1
theorem aG.wt_mk(v0:ByteArray)(v1:List aA)(v2:aA)(v3:Bool)(v4:LB)(v5:aM):wt (aG.mk v0 v1 v2 v3 v4 v5)=v0.size+wl v1+wt v2+wl v4+wt v5:=by
 show Tr.bulkL (aG.tr (.mk v0 v1 v2 v3 v4 v5))=_
 rw [aG.bk_mk]
 simp only [aA.wl_bulk,IU]
 try rfl
theorem aG.wt_eq(x:aG):wt x=x.aBs.size+wl x.aBL+wt x.aBJ+wl x.aBF+wt x.aBC:=by
 obtain⟨v0,v1,v2,v3,v4,v5⟩:=x
 exact aG.wt_mk v0 v1 v2 v3 v4 v5
theorem aV.wt_mk(v0:ByteArray)(v1:LB)(v2:Bool)(v3:Bool)(v4:List aG):wt (aV.mk v0 v1 v2 v3 v4)=v0.size+wl v1+wl v4:=by
 show Tr.bulkL (aV.tr (.mk v0 v1 v2 v3 v4))=_
 rw [aV.bk_mk]
 simp only [IU,aG.wl_bulk]
 try rfl
theorem aV.wt_eq(x:aV):wt x=x.aBs.size+wl x.aBB+wl x.aBP:=by
 obtain⟨v0,v1,v2,v3,v4⟩:=x
 exact aV.wt_mk v0 v1 v2 v3 v4
theorem aO.wt_mk(v0:ByteArray)(v1:LB)(v2:List aE):wt (aO.mk v0 v1 v2)=v0.size+wl v1+wl v2:=by
 show Tr.bulkL (aO.tr (.mk v0 v1 v2))=_
 rw [aO.bk_mk]
 simp only [IU,aE.wl_bulk]
 try rfl
theorem aO.wt_eq(x:aO):wt x=x.aBs.size+wl x.aBF+wl x.aBx:=by
 obtain⟨v0,v1,v2⟩:=x
 exact aO.wt_mk v0 v1 v2
theorem aL.wt_mk(v0:ByteArray)(v1:LB)(v2:aA)(v3:List aD)(v4:Bool)(v5:Bool)(v6:aA)(v7:List aQ):wt (aL.mk v0 v1 v2 v3 v4 v5 v6 v7)=v0.size+wl v1+wt v2+wl v3+wt v6+wl v7:=by
 show Tr.bulkL (aL.tr (.mk v0 v1 v2 v3 v4 v5 v6 v7))=_
 rw [aL.bk_mk]
 simp only [IU,aD.wl_bulk,aQ.wl_bulk]
 try rfl
theorem aL.wt_eq(x:aL):wt x=x.aBz.size+wl x.aBF+wt x.aBH+wl x.aBK+wt x.aBR+wl x.aBW:=by
 obtain⟨v0,v1,v2,v3,v4,v5,v6,v7⟩:=x
 exact aL.wt_mk v0 v1 v2 v3 v4 v5 v6 v7
theorem aP.wt_mk(v0:ByteArray)(v1:LB)(v2:List aD)(v3:List aW)(v4:aA)(v5:aM):wt (aP.mk v0 v1 v2 v3 v4 v5)=v0.size+wl v1+wl v2+wl v3+wt v4+wt v5:=by
 show Tr.bulkL (aP.tr (.mk v0 v1 v2 v3 v4 v5))=_
 rw [aP.bk_mk]
 simp only [IU,aD.wl_bulk,aW.wl_bulk]
 try rfl
theorem aP.wt_eq(x:aP):wt x=x.aBs.size+wl x.aBF+wl x.aBK+wl x.aBL+wt x.aBJ+wt x.aBC:=by
 obtain⟨v0,v1,v2,v3,v4,v5⟩:=x
 exact aP.wt_mk v0 v1 v2 v3 v4 v5
theorem aN.wt_mk(v0:ByteArray)(v1:LB)(v2:List aV)(v3:List aO)(v4:List aL)(v5:List aP):wt (aN.mk v0 v1 v2 v3 v4 v5)=v0.size+wl v1+wl v2+wl v3+wl v4+wl v5:=by
 show Tr.bulkL (aN.tr (.mk v0 v1 v2 v3 v4 v5))=_
 rw [aN.bk_mk]
 simp only [IU,aV.wl_bulk,aO.wl_bulk,aL.wl_bulk,aP.wl_bulk]
 try rfl
theorem aN.wt_eq(x:aN):wt x=x.aBs.size+wl x.aB6+wl x.aBI+wl x.aBA+wl x.aBE+wl x.aBT:=by
 obtain⟨v0,v1,v2,v3,v4,v5⟩:=x
 exact aN.wt_mk v0 v1 v2 v3 v4 v5
theorem aH.wt_mk(v0:List aN):wt (aH.mk v0)=wl v0:=by
 show Tr.bulkL (aH.tr (.mk v0))=_
 rw [aH.bk_mk]
 simp only [aN.wl_bulk]
 try rfl
theorem aH.wt_eq(x:aH):wt x=wl x.aBr:=by
 obtain⟨v0⟩:=x
 exact aH.wt_mk v0
theorem aB.wt_mk(v0:ByteArray)(v1:List aB):wt (aB.mk v0 v1)=v0.size+wl v1:=by
 show Tr.bulkL (aB.tr (.mk v0 v1))=_
 rw [aB.bk_mk]
 simp only [aB.wl_bulk]
 try rfl
theorem aB.wt_eq(x:aB):wt x=x.aBy.size+wl x.aBv:=by
 obtain⟨v0,v1⟩:=x
 exact aB.wt_mk v0 v1
end Go.Proofs.YtfcoaagbccmahaaGreat

namespace Go.Proofs.YtfcoaagbccmahaaGreat
instance:TC aF:=⟨aF.cs,aF.trs,2,aF.trs_at,aF.trs_len,fun l=>by rw [aF.trs_map];exact List.map_congr_left fun x _=>aF.tr_cs x,fun _=>rfl⟩
instance(l:List aF):RL (aF.trs l) aF l:=⟨rfl⟩
abbrev cZ(l:List aF):PV:= .t (.row 2 (aF.trs l))
abbrev fU(l:List aF)(r:Nat):PV:= .acc 2 (aF.trs l) r
instance:TC aA:=⟨aA.cs,aA.trs,3,aA.trs_at,aA.trs_len,fun l=>by rw [aA.trs_map];exact List.map_congr_left fun x _=>aA.tr_cs x,fun _=>rfl⟩
instance(l:List aA):RL (aA.trs l) aA l:=⟨rfl⟩
abbrev aU(l:List aA):PV:= .t (.row 3 (aA.trs l))
abbrev iE(l:List aA)(r:Nat):PV:= .acc 3 (aA.trs l) r
instance:TC aM:=⟨aM.cs,aM.trs,9,aM.trs_at,aM.trs_len,fun l=>by rw [aM.trs_map];exact List.map_congr_left fun x _=>aM.tr_cs x,fun _=>rfl⟩
instance(l:List aM):RL (aM.trs l) aM l:=⟨rfl⟩
abbrev iI(l:List aM):PV:= .t (.row 9 (aM.trs l))
abbrev ap0(l:List aM)(r:Nat):PV:= .acc 9 (aM.trs l) r
instance:TC bV:=⟨bV.cs,bV.trs,11,bV.trs_at,bV.trs_len,fun l=>by rw [bV.trs_map];exact List.map_congr_left fun x _=>bV.tr_cs x,fun _=>rfl⟩
instance(l:List bV):RL (bV.trs l) bV l:=⟨rfl⟩
abbrev rV(l:List bV):PV:= .t (.row 11 (bV.trs l))
abbrev aqF(l:List bV)(r:Nat):PV:= .acc 11 (bV.trs l) r
instance:TC aD:=⟨aD.cs,aD.trs,4,aD.trs_at,aD.trs_len,fun l=>by rw [aD.trs_map];exact List.map_congr_left fun x _=>aD.tr_cs x,fun _=>rfl⟩
instance(l:List aD):RL (aD.trs l) aD l:=⟨rfl⟩
abbrev bW(l:List aD):PV:= .t (.row 4 (aD.trs l))
abbrev nV(l:List aD)(r:Nat):PV:= .acc 4 (aD.trs l) r
instance:TC aW:=⟨aW.cs,aW.trs,4,aW.trs_at,aW.trs_len,fun l=>by rw [aW.trs_map];exact List.map_congr_left fun x _=>aW.tr_cs x,fun _=>rfl⟩
instance(l:List aW):RL (aW.trs l) aW l:=⟨rfl⟩
abbrev VT(l:List aW):PV:= .t (.row 4 (aW.trs l))
abbrev aaU(l:List aW)(r:Nat):PV:= .acc 4 (aW.trs l) r
instance:TC aQ:=⟨aQ.cs,aQ.trs,11,aQ.trs_at,aQ.trs_len,fun l=>by rw [aQ.trs_map];exact List.map_congr_left fun x _=>aQ.tr_cs x,fun _=>rfl⟩
instance(l:List aQ):RL (aQ.trs l) aQ l:=⟨rfl⟩
abbrev mK(l:List aQ):PV:= .t (.row 11 (aQ.trs l))
abbrev TV(l:List aQ)(r:Nat):PV:= .acc 11 (aQ.trs l) r
instance:TC aE:=⟨aE.cs,aE.trs,2,aE.trs_at,aE.trs_len,fun l=>by rw [aE.trs_map];exact List.map_congr_left fun x _=>aE.tr_cs x,fun _=>rfl⟩
instance(l:List aE):RL (aE.trs l) aE l:=⟨rfl⟩
abbrev dF(l:List aE):PV:= .t (.row 2 (aE.trs l))
abbrev zA(l:List aE)(r:Nat):PV:= .acc 2 (aE.trs l) r
instance:TC aG:=⟨aG.cs,aG.trs,16,aG.trs_at,aG.trs_len,fun l=>by rw [aG.trs_map];exact List.map_congr_left fun x _=>aG.tr_cs x,fun _=>rfl⟩
instance(l:List aG):RL (aG.trs l) aG l:=⟨rfl⟩
abbrev gC(l:List aG):PV:= .t (.row 16 (aG.trs l))
abbrev lS(l:List aG)(r:Nat):PV:= .acc 16 (aG.trs l) r
instance:TC aV:=⟨aV.cs,aV.trs,5,aV.trs_at,aV.trs_len,fun l=>by rw [aV.trs_map];exact List.map_congr_left fun x _=>aV.tr_cs x,fun _=>rfl⟩
instance(l:List aV):RL (aV.trs l) aV l:=⟨rfl⟩
abbrev QR(l:List aV):PV:= .t (.row 5 (aV.trs l))
abbrev AC(l:List aV)(r:Nat):PV:= .acc 5 (aV.trs l) r
instance:TC aO:=⟨aO.cs,aO.trs,3,aO.trs_at,aO.trs_len,fun l=>by rw [aO.trs_map];exact List.map_congr_left fun x _=>aO.tr_cs x,fun _=>rfl⟩
instance(l:List aO):RL (aO.trs l) aO l:=⟨rfl⟩
abbrev o9(l:List aO):PV:= .t (.row 3 (aO.trs l))
abbrev nA(l:List aO)(r:Nat):PV:= .acc 3 (aO.trs l) r
instance:TC aL:=⟨aL.cs,aL.trs,12,aL.trs_at,aL.trs_len,fun l=>by rw [aL.trs_map];exact List.map_congr_left fun x _=>aL.tr_cs x,fun _=>rfl⟩
instance(l:List aL):RL (aL.trs l) aL l:=⟨rfl⟩
abbrev nK(l:List aL):PV:= .t (.row 12 (aL.trs l))
abbrev nC(l:List aL)(r:Nat):PV:= .acc 12 (aL.trs l) r
instance:TC aP:=⟨aP.cs,aP.trs,16,aP.trs_at,aP.trs_len,fun l=>by rw [aP.trs_map];exact List.map_congr_left fun x _=>aP.tr_cs x,fun _=>rfl⟩
instance(l:List aP):RL (aP.trs l) aP l:=⟨rfl⟩
abbrev JC(l:List aP):PV:= .t (.row 16 (aP.trs l))
abbrev nB(l:List aP)(r:Nat):PV:= .acc 16 (aP.trs l) r
instance:TC aN:=⟨aN.cs,aN.trs,6,aN.trs_at,aN.trs_len,fun l=>by rw [aN.trs_map];exact List.map_congr_left fun x _=>aN.tr_cs x,fun _=>rfl⟩
instance(l:List aN):RL (aN.trs l) aN l:=⟨rfl⟩
abbrev aR(l:List aN):PV:= .t (.row 6 (aN.trs l))
abbrev sO(l:List aN)(r:Nat):PV:= .acc 6 (aN.trs l) r
instance:TC aH:=⟨aH.cs,aH.trs,1,aH.trs_at,aH.trs_len,fun l=>by rw [aH.trs_map];exact List.map_congr_left fun x _=>aH.tr_cs x,fun _=>rfl⟩
instance(l:List aH):RL (aH.trs l) aH l:=⟨rfl⟩
instance:TC aB:=⟨aB.cs,aB.trs,2,aB.trs_at,aB.trs_len,fun l=>by rw [aB.trs_map];exact List.map_congr_left fun x _=>aB.tr_cs x,fun _=>rfl⟩
instance(l:List aB):RL (aB.trs l) aB l:=⟨rfl⟩
abbrev bK(l:List aB):PV:= .t (.row 2 (aB.trs l))
abbrev eD(l:List aB)(r:Nat):PV:= .acc 2 (aB.trs l) r
instance:TC aK:=⟨aK.cs,aK.trs,6,aK.trs_at,aK.trs_len,fun l=>by rw [aK.trs_map];exact List.map_congr_left fun x _=>aK.tr_cs x,fun _=>rfl⟩
instance(l:List aK):RL (aK.trs l) aK l:=⟨rfl⟩
abbrev bY(l:List aK):PV:= .t (.row 6 (aK.trs l))
abbrev fP(l:List aK)(r:Nat):PV:= .acc 6 (aK.trs l) r
instance:TC aJ:=⟨aJ.cs,aJ.trs,4,aJ.trs_at,aJ.trs_len,fun l=>by rw [aJ.trs_map];exact List.map_congr_left fun x _=>aJ.tr_cs x,fun _=>rfl⟩
instance(l:List aJ):RL (aJ.trs l) aJ l:=⟨rfl⟩
abbrev gB(l:List aJ):PV:= .t (.row 4 (aJ.trs l))
abbrev lR(l:List aJ)(r:Nat):PV:= .acc 4 (aJ.trs l) r
instance:TC aC:=⟨aC.cs,aC.trs,5,aC.trs_at,aC.trs_len,fun l=>by rw [aC.trs_map];exact List.map_congr_left fun x _=>aC.tr_cs x,fun _=>rfl⟩
instance(l:List aC):RL (aC.trs l) aC l:=⟨rfl⟩
abbrev bL(l:List aC):PV:= .t (.row 5 (aC.trs l))
abbrev eX(l:List aC)(r:Nat):PV:= .acc 5 (aC.trs l) r
instance:TC bC:=⟨bC.cs,bC.trs,3,bC.trs_at,bC.trs_len,fun l=>by rw [bC.trs_map];exact List.map_congr_left fun x _=>bC.tr_cs x,fun _=>rfl⟩
instance(l:List bC):RL (bC.trs l) bC l:=⟨rfl⟩
instance:TC bP:=⟨bP.cs,bP.trs,2,bP.trs_at,bP.trs_len,fun l=>by rw [bP.trs_map];exact List.map_congr_left fun x _=>bP.tr_cs x,fun _=>rfl⟩
instance(l:List bP):RL (bP.trs l) bP l:=⟨rfl⟩
abbrev b9(x:aA):List PV:= [pI x.aBw,pS x.aBs,aU x.aBt]
abbrev jC(x:aM):List PV:= [pI x.aBw,pS x.aBz,pS x.aBs,pI x.aCa,pI x.aBu.aBw,pS x.aBu.aBs,aU x.aBu.aBt,iI x.aBt,rV x.aBN]
abbrev cH(x:aD):List PV:= [pS x.aBz,pI x.aBu.aBw,pS x.aBu.aBs,aU x.aBu.aBt]
abbrev ahU(x:aG):List PV:= [pS x.aBs,aU x.aBL,pI x.aBJ.aBw,pS x.aBJ.aBs,aU x.aBJ.aBt,pB x.aB3,rS x.aBF,pI x.aBC.aBw,pS x.aBC.aBz,pS x.aBC.aBs,pI x.aBC.aCa,pI x.aBC.aBu.aBw,pS x.aBC.aBu.aBs,aU x.aBC.aBu.aBt,iI x.aBC.aBt,rV x.aBC.aBN]
abbrev sJ(x:aV):List PV:= [pS x.aBs,rS x.aBB,pB x.aB1,pB x.aBR,gC x.aBP]
abbrev jJ(x:aO):List PV:= [pS x.aBs,rS x.aBF,dF x.aBx]
abbrev dU(x:aL):List PV:= [pS x.aBz,rS x.aBF,pI x.aBH.aBw,pS x.aBH.aBs,aU x.aBH.aBt,bW x.aBK,pB x.aBX,pB x.aB4,pI x.aBR.aBw,pS x.aBR.aBs,aU x.aBR.aBt,mK x.aBW]
abbrev zP(x:aP):List PV:= [pS x.aBs,rS x.aBF,bW x.aBK,VT x.aBL,pI x.aBJ.aBw,pS x.aBJ.aBs,aU x.aBJ.aBt,pI x.aBC.aBw,pS x.aBC.aBz,pS x.aBC.aBs,pI x.aBC.aCa,pI x.aBC.aBu.aBw,pS x.aBC.aBu.aBs,aU x.aBC.aBu.aBt,iI x.aBC.aBt,rV x.aBC.aBN]
abbrev eZ(x:aN):List PV:= [pS x.aBs,rS x.aB6,QR x.aBI,o9 x.aBA,nK x.aBE,JC x.aBT]
abbrev lJ(x:aC):List PV:= [pI x.aBw,pI x.aCa,pI x.aBS.aBD,pI x.aBS.aBS,bL x.aBt]
abbrev AG(x:bC):List PV:= [bW x.aBO,rI x.aBQ,bL x.aBG]
end Go.Proofs.YtfcoaagbccmahaaGreat

namespace Go.Proofs.YtfcoaagbccmahaaGreat.W
set_option maxRecDepth 100000
set_option maxHeartbeats 40000000
noncomputable section
open Tryz Go.RowKit Go.Proofs
attribute [local irreducible] lt
def YH(fu:Nat)(ps:ByteArray)(pE:UInt8):((LB)×Int×Int)→Option (LR ((LB)×Int×Int) ((LB))):=fun(v4,v2,v3)=>sw (decide (v3≤(ps.size:Int))) (sw (decide (v3=(ps.size:Int))) (gd ((0:Int)≤v2∧(v2:Int)≤v3∧(v3:Int)≤(ps.size:Int)) (gd ((v4).length+(([(ps.extract (v2:Int).toNat (v3:Int).toNat)]:LB)).length≤68719476736) (some (.next ((v4++([(ps.extract (v2:Int).toNat (v3:Int).toNat)]:LB)),(aZ (v3+1)),(aZ (v3+1))))))) (gd (0≤v3∧(v3).toNat<(ps).size) (sw (decide ((((ET ps ((v3).toNat)).toNat:Int):Int)=(pE.toNat:Int))) (gd ((0:Int)≤v2∧(v2:Int)≤v3∧(v3:Int)≤(ps.size:Int)) (gd ((v4).length+(([(ps.extract (v2:Int).toNat (v3:Int).toNat)]:LB)).length≤68719476736) (some (.next ((v4++([(ps.extract (v2:Int).toNat (v3:Int).toNat)]:LB)),(aZ (v3+1)),(aZ (v3+1))))))) (some (.next (v4,v2,(aZ (v3+1)))))))) (some (.brk (v4,v2,v3)))
def FM(fu:Nat)(ps:ByteArray)(pE:UInt8):Option ((LB)):=so (loopW (YH fu ps pE) fu (([]),0,0)) fun(v4,v2,v3)=>some v4
theorem YI(fu:Nat)(ps:ByteArray)(pE:UInt8)(r:(LB))(H:FM fu ps pE=some r):bQ Tryz.prog 96 [pS ps,pU pE] (rS r):=by
 refine qJ func96 H (fun C hC H=>?_)
 refine gQ 6 ?_;refine q1 (nU ([]:LB)) ?_;refine gQ 11 ?_;refine fS 5 (b0 _) (fun hl6=>?_)
 refine SC (σ:=(LB)×Int×Int) (fun(v4,v2,v3)=>⟨[(0,pS ps),(1,pU pE),(4,.nil),(5,aS v4 0),(6,pI v2),(7,pI v3)],⟨[],[⟨9,1,aY (v4),false⟩]⟩⟩) (fun(v4,v2,v3)=>⟨[(4,.nil),(5,aS v4 0)],⟨[],[⟨9,1,aY (v4),false⟩]⟩⟩) (eJ H) ?_ ?_
 ·rintro k5 ⟨v4,v2,v3⟩ H
  refine gQ 5 ?_;refine q1 (bD.lenS rfl rfl rfl Tryz.underlying9) ?_;refine gQ 2 ?_;refine bF H (fun h7 H=>?_) (fun h7 H=>?_)
  ·refine gQ 7 ?_;refine q1 (bD.lenS rfl rfl rfl Tryz.underlying9) ?_;refine gQ 2 ?_;refine dL 19 H (fun g8 H=>?_) fun g8 H=>?_
   ·refine gQ 14 ?_;refine cA H fun z9 H=>(q1 (bD.sliceS (l:=v2) (k:=v3) rfl rfl rfl rfl rfl z9 Tryz.underlying9) (q1 (fY ([(ps.extract (v2:Int).toNat (v3:Int).toNat)]:LB)) (cA H fun z10 H=>(q1 (jO z10) ?_))))
    exact gE 12
   refine gQ 2 ?_;refine cA H fun z11 H=>(qg g8 (bD.indexSI (y:=v3) rfl rfl rfl rfl z11.1 z11.2 Tryz.underlying9) ?_)
   refine gQ 4 ?_;refine bF H (fun h12 H=>?_) (fun h12 H=>?_)
   ·refine gQ 6 ?_;refine cA H fun z13 H=>(q1 (bD.sliceS (l:=v2) (k:=v3) rfl rfl rfl rfl rfl z13 Tryz.underlying9) (q1 (fY ([(ps.extract (v2:Int).toNat (v3:Int).toNat)]:LB)) (cA H fun z14 H=>(q1 (jO z14) ?_))))
    exact gE 12
   exact gE 6
  exact gE 0
 rintro⟨v4,v2,v3⟩ H
 exact gE 5
def W4(fu:Nat)(pr:dG):Int→Option (LR Int dG):=fun v1=>sw (decide (v1<(pr.aCb.size:Int))) (gd (0≤v1∧(v1).toNat<(pr.aCb).size) (sw (decide ((((ET pr.aCb ((v1).toNat)).toNat:Int):Int)=32)) (some (.next (aZ (v1+1)))) (sw (decide ((((ET pr.aCb ((v1).toNat)).toNat:Int):Int)=10)) (some (.next (aZ (v1+1)))) (some (.brk v1))))) (some (.brk v1))
def zX(fu:Nat)(pr:dG):Option dG:=so (loopW (W4 fu pr) fu pr.aB2) fun v1=>some (dG.mk pr.aCb v1 pr.aBY pr.aB0 pr.aB5)
theorem M3(fu:Nat)(pr:dG)(r:dG)(H:zX fu pr=some r):cB Tryz.prog 172 [.ptr 0 0] ⟨[some ⟨220,[pS pr.aCb,pI pr.aB2,pI pr.aBY,pI pr.aB0,pB pr.aB5]⟩],[]⟩ (fun q t=>q=(.tup [])∧t=⟨[some ⟨220,[pS r.aCb,pI r.aB2,pI r.aBY,pI r.aB0,pB r.aB5]⟩],[]⟩):=by
 refine qJ func172 H (fun C hC H=>?_)
 refine SC (σ:=Int) (fun v1=>⟨[(0,.ptr 0 0)],⟨[some ⟨220,[pS pr.aCb,pI v1,pI pr.aBY,pI pr.aB0,pB pr.aB5]⟩],[]⟩⟩) (fun v1=>⟨[],⟨[some ⟨220,[pS pr.aCb,pI v1,pI pr.aBY,pI pr.aB0,pB pr.aB5]⟩],[]⟩⟩) (eJ H) ?_ ?_
 ·rintro k2 v1 H
  refine gQ 2 ?_
  rcases nS (decide (v1<(pr.aCb.size:Int))) with g3|g3
  ·have H:=sE H g3
   refine cA H fun z4 H=>?_
   rcases nS (decide ((((ET pr.aCb ((v1).toNat)).toNat:Int):Int)=32)) with g5|g5
   ·have H:=sE H g5
    refine dW (dI [0] bH (dI [2] uV (dI [3] bZ (dD [4] eB (dI [0] bH (dI [6] uV (dI [7] bZ (dD [8] eB (dI [9] (bD.lenS rfl rfl rfl Tryz.underlying9) (dI [5,10] rLt (dI [11] bH (dI (hg:=bG g3) [0] bH (dI (hg:=bG g3) [13] uV ?_)))))))))))))
    refine dI (hg:=bG g3) [14] bZ (dD (hg:=bG g3) [15] eB (dI (hg:=bG g3) [0] bH (dI (hg:=bG g3) [17] uV (dI (hg:=bG g3) [18] bZ (dD (hg:=bG g3) [19] eB (dI (hg:=bG g3) [16,20] (bD.indexSI (y:=v1) rfl rfl rfl rfl z4.1 z4.2 Tryz.underlying9) (dI (hg:=bG g3) [21] rEq (dI (hg:=bG g3) [22] bH ?_))))))))
    iterate 10 refine NB g5 ?_
    refine dI (hg:=bG g3) [23] (C3 g5) (dI [12,34] (C3 g3) (dN ?_))
    exact gE 14
   have H:=sD H g5
   refine dW (dI [0] bH (dI [2] uV (dI [3] bZ (dD [4] eB (dI [0] bH (dI [6] uV (dI [7] bZ (dD [8] eB (dI [9] (bD.lenS rfl rfl rfl Tryz.underlying9) (dI [5,10] rLt (dI [11] bH (dI (hg:=bG g3) [0] bH (dI (hg:=bG g3) [13] uV ?_)))))))))))))
   refine dI (hg:=bG g3) [14] bZ (dD (hg:=bG g3) [15] eB (dI (hg:=bG g3) [0] bH (dI (hg:=bG g3) [17] uV (dI (hg:=bG g3) [18] bZ (dD (hg:=bG g3) [19] eB (dI (hg:=bG g3) [16,20] (bD.indexSI (y:=v1) rfl rfl rfl rfl z4.1 z4.2 Tryz.underlying9) (dI (hg:=bG g3) [21] rEq (dI (hg:=bG g3) [22] bH (dI (hg:=bG g5) [0] bH (dI (hg:=bG g5) [24] uV (dI (hg:=bG g5) [25] bZ (dD (hg:=bG g5) [26] eB (dI (hg:=bG g5) [0] bH ?_)))))))))))))
   refine dI (hg:=bG g5) [28] uV (dI (hg:=bG g5) [29] bZ (dD (hg:=bG g5) [30] eB (dI (hg:=bG g5) [27,31] (bD.indexSI (y:=v1) rfl rfl rfl rfl z4.1 z4.2 Tryz.underlying9) (dI (hg:=bG g5) [32] rEq (dI (hg:=bG g3) [23,33] (FG g5) (dI [12,34] (C3 g3) (dN ?_)))))))
   refine bF H (fun h6 H=>gE 13) fun h6 H=>?_;exact gE 0
  have H:=sD H g3
  refine dW (dI [0] bH (dI [2] uV (dI [3] bZ (dD [4] eB (dI [0] bH (dI [6] uV (dI [7] bZ (dD [8] eB (dI [9] (bD.lenS rfl rfl rfl Tryz.underlying9) (dI [5,10] rLt (dI [11] bH ?_)))))))))))
  iterate 11 refine NB g3 ?_
  iterate 10 refine dSu ?_
  refine NB g3 (dI [12] (FG g3) (dN ?_))
  exact gE 1
 rintro v1 H
 cases s3 H
 exact qe (ps:= []) ⟨rfl,rfl⟩ trivial
def JJ(fu:Nat)(px:UInt8):Option Bool:=sw (decide ((px.toNat:Int)≥97)) (sw (decide ((px.toNat:Int)≤122)) (some true) (sw (decide ((px.toNat:Int)≥48)) (sw (decide ((px.toNat:Int)≤57)) (some true) (sw (decide ((px.toNat:Int)=39)) (some true) (sw (decide ((px.toNat:Int)=45)) (some true) (sw (decide ((px.toNat:Int)=43)) (some true) (sw (decide ((px.toNat:Int)=42)) (some true) (sw (decide ((px.toNat:Int)=60)) (some true) (sw (decide ((px.toNat:Int)=61)) (some true) (some (decide ((px.toNat:Int)=46)))))))))) (sw (decide ((px.toNat:Int)=39)) (some true) (sw (decide ((px.toNat:Int)=45)) (some true) (sw (decide ((px.toNat:Int)=43)) (some true) (sw (decide ((px.toNat:Int)=42)) (some true) (sw (decide ((px.toNat:Int)=60)) (some true) (sw (decide ((px.toNat:Int)=61)) (some true) (some (decide ((px.toNat:Int)=46))))))))))) (sw (decide ((px.toNat:Int)≥48)) (sw (decide ((px.toNat:Int)≤57)) (some true) (sw (decide ((px.toNat:Int)=39)) (some true) (sw (decide ((px.toNat:Int)=45)) (some true) (sw (decide ((px.toNat:Int)=43)) (some true) (sw (decide ((px.toNat:Int)=42)) (some true) (sw (decide ((px.toNat:Int)=60)) (some true) (sw (decide ((px.toNat:Int)=61)) (some true) (some (decide ((px.toNat:Int)=46)))))))))) (sw (decide ((px.toNat:Int)=39)) (some true) (sw (decide ((px.toNat:Int)=45)) (some true) (sw (decide ((px.toNat:Int)=43)) (some true) (sw (decide ((px.toNat:Int)=42)) (some true) (sw (decide ((px.toNat:Int)=60)) (some true) (sw (decide ((px.toNat:Int)=61)) (some true) (some (decide ((px.toNat:Int)=46))))))))))
theorem W1(fu:Nat)(px:UInt8)(r:Bool)(H:JJ fu px=some r):bQ Tryz.prog 196 [pU px] (pB r):=by
 refine qJ func196 H (fun C hC H=>?_)
 refine gQ 9 ?_;refine dL 5 H (fun g1 H=>?_) fun g1 H=>?_
 ·refine gQ 4 ?_;refine dL 9 H (fun g2 H=>gE 37) fun g2 H=>?_;refine gQ 3 ?_;refine dL 12 H (fun g3 H=>?_) fun g3 H=>?_
  ·refine gQ 5 ?_;refine dL 17 H (fun g4 H=>gE 29) fun g4 H=>?_;refine gQ 4 ?_;refine dL 21 H (fun g5 H=>gE 25) fun g5 H=>?_;refine gQ 4 ?_;refine dL 25 H (fun g6 H=>gE 21) fun g6 H=>?_;refine gQ 4 ?_;refine dL 29 H (fun g7 H=>gE 17) fun g7 H=>?_;refine gQ 4 ?_;refine dL 33 H (fun g8 H=>gE 13) fun g8 H=>?_;refine gQ 4 ?_;refine dL 37 H (fun g9 H=>gE 9) fun g9 H=>?_;refine gQ 4 ?_;refine dL 41 H (fun g10 H=>gE 5) fun g10 H=>?_;exact gE 5
  refine gQ 9 ?_;refine dL 21 H (fun g11 H=>gE 25) fun g11 H=>?_;refine gQ 4 ?_;refine dL 25 H (fun g12 H=>gE 21) fun g12 H=>?_;refine gQ 4 ?_;refine dL 29 H (fun g13 H=>gE 17) fun g13 H=>?_;refine gQ 4 ?_;refine dL 33 H (fun g14 H=>gE 13) fun g14 H=>?_;refine gQ 4 ?_;refine dL 37 H (fun g15 H=>gE 9) fun g15 H=>?_;refine gQ 4 ?_;refine dL 41 H (fun g16 H=>gE 5) fun g16 H=>?_;exact gE 5
 refine gQ 7 ?_;refine dL 12 H (fun g17 H=>?_) fun g17 H=>?_
 ·refine gQ 5 ?_;refine dL 17 H (fun g18 H=>gE 29) fun g18 H=>?_;refine gQ 4 ?_;refine dL 21 H (fun g19 H=>gE 25) fun g19 H=>?_;refine gQ 4 ?_;refine dL 25 H (fun g20 H=>gE 21) fun g20 H=>?_;refine gQ 4 ?_;refine dL 29 H (fun g21 H=>gE 17) fun g21 H=>?_;refine gQ 4 ?_;refine dL 33 H (fun g22 H=>gE 13) fun g22 H=>?_;refine gQ 4 ?_;refine dL 37 H (fun g23 H=>gE 9) fun g23 H=>?_;refine gQ 4 ?_;refine dL 41 H (fun g24 H=>gE 5) fun g24 H=>?_;exact gE 5
 refine gQ 9 ?_;refine dL 21 H (fun g25 H=>gE 25) fun g25 H=>?_;refine gQ 4 ?_;refine dL 25 H (fun g26 H=>gE 21) fun g26 H=>?_;refine gQ 4 ?_;refine dL 29 H (fun g27 H=>gE 17) fun g27 H=>?_;refine gQ 4 ?_;refine dL 33 H (fun g28 H=>gE 13) fun g28 H=>?_;refine gQ 4 ?_;refine dL 37 H (fun g29 H=>gE 9) fun g29 H=>?_;refine gQ 4 ?_;refine dL 41 H (fun g30 H=>gE 5) fun g30 H=>?_;exact gE 5
abbrev zW:=dG→Option (aB×dG)
def JN(m:zW):Prop:= ∀(pA:dG) (r:aB×dG),m pA=some r→cB Tryz.prog 171 [.ptr 0 0] ⟨[some ⟨220,[pS pA.aCb,pI pA.aB2,pI pA.aBY,pI pA.aB0,pB pA.aB5]⟩],[]⟩ (fun q t=>q=((aB.pv r.1):PV)∧t=⟨[some ⟨220,[pS r.2.aCb,pI r.2.aB2,pI r.2.aBY,pI r.2.aB0,pB r.2.aB5]⟩],[]⟩)
def W2(fu:Nat)(p3:zW)(pA x2:dG):Int→Option (LR Int (aB×dG)):=fun v5=>sw (decide (v5<(x2.aCb.size:Int))) (gd (0≤v5∧(v5).toNat<(x2.aCb).size) (bd (JJ fu (ET x2.aCb ((v5).toNat))) fun x10=>sw x10 (some (.next (aZ (v5+1)))) (some (.brk v5)))) (some (.brk v5))
def W3(fu:Nat)(p3:zW)(pA x2:dG)(v5:Int):(ByteArray×Int×Int×Int×Bool×(List aB))→Option (LR (ByteArray×Int×Int×Int×Bool×(List aB)) (aB×dG)):=fun(v17,v18,v19,v20,v21,v23)=>sw (!(v21)) (bd (zX fu (dG.mk v17 v18 v19 v20 v21)) fun x27=>sw (decide (x27.aB2<(x27.aCb.size:Int))) (gd (0≤x27.aB2∧(x27.aB2).toNat<(x27.aCb).size) (sw (decide ((((ET x27.aCb ((x27.aB2).toNat)).toNat:Int):Int)=41)) (some (.ret ((aB.mk s_ v23),(dG.mk x27.aCb (aZ (x27.aB2+1)) (aZ (x27.aBY-1)) x27.aB0 x27.aB5)))) (bd (p3 x27) fun(x32,x33)=>gd ((v23).length+(([x32]:List aB)).length≤68719476736) (some (.next (x33.aCb,x33.aB2,x33.aBY,x33.aB0,x33.aB5,(v23++([x32]:List aB)))))))) (bd (p3 x27) fun(x36,x37)=>gd ((v23).length+(([x36]:List aB)).length≤68719476736) (some (.next (x37.aCb,x37.aB2,x37.aBY,x37.aB0,x37.aB5,(v23++([x36]:List aB))))))) (some (.brk (v17,v18,v19,v20,v21,v23)))
def JM(fu:Nat)(p3:zW)(pA:dG):Option (aB×dG):=bd (zX fu pA) fun x2=>sw (decide (x2.aB2≥(x2.aCb.size:Int))) (some ((aB.mk s_ []),(dG.mk x2.aCb x2.aB2 x2.aBY (aZ (x2.aB0+1)) true))) (sw (decide ((aZ (x2.aB0+1):Int)>900)) (some ((aB.mk s_ []),(dG.mk x2.aCb x2.aB2 x2.aBY (aZ (x2.aB0+1)) true))) (so (loopW (W2 fu p3 pA x2) fu x2.aB2) fun v5=>sw (decide (v5>x2.aB2)) (gd ((0:Int)≤x2.aB2∧(x2.aB2:Int)≤v5∧(v5:Int)≤(x2.aCb.size:Int)) (some ((aB.mk (x2.aCb.extract (x2.aB2:Int).toNat (v5:Int).toNat) []),(dG.mk x2.aCb v5 x2.aBY (aZ (x2.aB0+1)) x2.aB5)))) (gd (0≤v5∧(v5).toNat<(x2.aCb).size) (sw (!decide ((((ET x2.aCb ((v5).toNat)).toNat:Int):Int)=40)) (some ((aB.mk s_ []),(dG.mk x2.aCb v5 x2.aBY (aZ (x2.aB0+1)) true))) (sw (decide (x2.aBY=14)) (some ((aB.mk s_ []),(dG.mk x2.aCb v5 x2.aBY (aZ (x2.aB0+1)) true))) (so (loopW (W3 fu p3 pA x2 v5) fu (x2.aCb,(aZ (v5+1)),(aZ (x2.aBY+1)),(aZ (x2.aB0+1)),x2.aB5,([]))) fun(v17,v18,v19,v20,v21,v23)=>some ((aB.mk s_ v23),(dG.mk v17 v18 v19 v20 v21))))))))
theorem ac1(fu:Nat)(p3:zW)(p9:JN p3):JN (JM fu p3):=by
 intro pA r H
 refine qJ func171 H (fun C hC H=>?_)
 refine gQ 7 ?_;refine bM H fun x2 z1 H=>(q1 (fD [0] [] func172 (M3 fu pA _ z1)) ?_)
 refine gQ 15 ?_
 rcases nS (decide (x2.aB2≥(x2.aCb.size:Int))) with g3|g3
 ·have H:=sE H g3
  refine dW (dI [0] bH (dI [15] uV (dI [16] bZ (dD [17] eB (dI [0] bH (dI [19] uV (dI [20] bZ (dD [21] eB (dI [22] (bD.lenS rfl rfl rfl Tryz.underlying9) (dI [18,23] rGe (dI [24] bH ?_)))))))))))
  iterate 5 refine NB g3 ?_
  refine dI [25] (C3 g3) (dN ?_)
  exact gE 13
 have H:=sD H g3
 refine dW (dI [0] bH (dI [15] uV (dI [16] bZ (dD [17] eB (dI [0] bH (dI [19] uV (dI [20] bZ (dD [21] eB (dI [22] (bD.lenS rfl rfl rfl Tryz.underlying9) (dI [18,23] rGe (dI [24] bH (dI (hg:=bG g3) [0] bH (dI (hg:=bG g3) [26] uV ?_)))))))))))))
 refine dI (hg:=bG g3) [27] bZ (dD (hg:=bG g3) [28] eB (dI (hg:=bG g3) [29] rGt (dI [25,30] (FG g3) (dN ?_))))
 refine bF H (fun h4 H=>gE 12) fun h4 H=>?_;refine gQ 10 ?_;refine SC (σ:=Int) (fun v5=>⟨[(0,.ptr 0 0),(2,.ptr 1 0),(3,pI x2.aB2)],⟨[some ⟨220,[pS x2.aCb,pI v5,pI x2.aBY,pI (aZ (x2.aB0+1)),pB x2.aB5]⟩,some ⟨189,[pS s_,.nil]⟩],[]⟩⟩) (fun v5=>⟨[(0,.ptr 0 0),(2,.ptr 1 0),(3,pI x2.aB2)],⟨[some ⟨220,[pS x2.aCb,pI v5,pI x2.aBY,pI (aZ (x2.aB0+1)),pB x2.aB5]⟩,some ⟨189,[pS s_,.nil]⟩],[]⟩⟩) (eJ H) ?_ ?_
 ·rintro k6 v5 H
  refine gQ 2 ?_
  rcases nS (decide (v5<(x2.aCb.size:Int))) with g7|g7
  ·have H:=sE H g7
   refine cA H fun z8 H=>(bM H fun x10 z9 H=>(dW (dI [0] bH (dI [40] uV (dI [41] bZ (dD [42] eB (dI [0] bH (dI [44] uV (dI [45] bZ (dD [46] eB (dI [47] (bD.lenS rfl rfl rfl Tryz.underlying9) (dI [43,48] rLt (dI [49] bH ?_)))))))))))))
   refine dI (hg:=bG g7) [0] bH (dI (hg:=bG g7) [51] uV (dI (hg:=bG g7) [52] bZ (dD (hg:=bG g7) [53] eB (dI (hg:=bG g7) [0] bH (dI (hg:=bG g7) [55] uV (dI (hg:=bG g7) [56] bZ (dD (hg:=bG g7) [57] eB (dI (hg:=bG g7) [54,58] (bD.indexSI (y:=v5) rfl rfl rfl rfl z8.1 z8.2 Tryz.underlying9) (dI (hg:=bG g7) [59] (bI func196 (W1 fu (ET x2.aCb ((v5).toNat)) _ z9)) (dI [50,60] (C3 g7) (dN ?_)))))))))))
   refine bF H (fun h11 H=>gE 13) fun h11 H=>?_;exact gE 0
  have H:=sD H g7
  refine dW (dI [0] bH (dI [40] uV (dI [41] bZ (dD [42] eB (dI [0] bH (dI [44] uV (dI [45] bZ (dD [46] eB (dI [47] (bD.lenS rfl rfl rfl Tryz.underlying9) (dI [43,48] rLt (dI [49] bH ?_)))))))))))
  iterate 10 refine NB g7 ?_
  refine dI [50] (FG g7) (dN ?_)
  exact gE 1
 rintro v5 H
 refine gQ 10 ?_;refine bF H (fun h12 H=>?_) (fun h12 H=>?_)
 ·refine qS (cA H fun z13 H=>(dW (dI [0] bH (dI [76] uV (dI [77] bZ (dD [78] eB (dI [3] bH (dI [0] bH (dI [81] uV (dI [82] bZ (dD [83] eB (dI [79,80,84] (bD.sliceS (l:=x2.aB2) (k:=v5) rfl rfl rfl rfl rfl z13 Tryz.underlying9) (dI [85] oP ?_)))))))))))))
  refine iY [2,86] hM (dN ?_)
  exact gE 0
 refine gQ 3 ?_;refine cA H fun z14 H=>?_
 rcases nS (!decide ((((ET x2.aCb ((v5).toNat)).toNat:Int):Int)=40)) with g15|g15
 ·have H:=sE H g15
  refine dW (dI [0] bH (dI [87] uV (dI [88] bZ (dD [89] eB (dI [0] bH (dI [91] uV (dI [92] bZ (dD [93] eB (dI [90,94] (bD.indexSI (y:=v5) rfl rfl rfl rfl z14.1 z14.2 Tryz.underlying9) (dI [95] rNe (dI [96] bH ?_)))))))))))
  iterate 5 refine NB g15 ?_
  refine dI [97] (C3 g15) (dN ?_)
  exact gE 13
 have H:=sD H g15
 refine dW (dI [0] bH (dI [87] uV (dI [88] bZ (dD [89] eB (dI [0] bH (dI [91] uV (dI [92] bZ (dD [93] eB (dI [90,94] (bD.indexSI (y:=v5) rfl rfl rfl rfl z14.1 z14.2 Tryz.underlying9) (dI [95] rNe (dI [96] bH (dI (hg:=bG g15) [0] bH (dI (hg:=bG g15) [98] uV ?_)))))))))))))
 refine dI (hg:=bG g15) [99] bZ (dD (hg:=bG g15) [100] eB (dI (hg:=bG g15) [101] rEq (dI [97,102] (FG g15) (dN ?_))))
 refine bF H (fun h16 H=>gE 12) fun h16 H=>?_;refine gQ 32 ?_;refine cO.wk (Wk.regBox (k:=2) (j:=1) 189 2 (by decide) rfl rfl) ?_;refine SC (σ:=ByteArray×Int×Int×Int×Bool×(List aB)) (fun(v17,v18,v19,v20,v21,v23)=>⟨[(0,.ptr 0 0),(2,.ptr 1 0),(4,.ptr 2 0)],⟨[some ⟨220,[pS v17,pI v18,pI v19,pI v20,pB v21]⟩,some ⟨189,[pS s_,.nil]⟩,some ⟨189,[pS s_,eD v23 0]⟩],[⟨189,2,aB.trs (v23),false⟩]⟩⟩) (fun(v17,v18,v19,v20,v21,v23)=>⟨[(2,.ptr 1 0),(4,.ptr 2 0)],⟨[some ⟨220,[pS v17,pI v18,pI v19,pI v20,pB v21]⟩,some ⟨189,[pS s_,.nil]⟩,some ⟨189,[pS s_,eD v23 0]⟩],[⟨189,2,aB.trs (v23),false⟩]⟩⟩) (eJ H) ?_ ?_
 ·rintro k24 ⟨v17,v18,v19,v20,v21,v23⟩ H
  refine gQ 9 ?_;refine bF H (fun h25 H=>?_) (fun h25 H=>?_)
  ·refine gQ 5 ?_;refine bM H fun x27 z26 H=>(q1 (fD [0] [] func172 (M3 fu (dG.mk v17 v18 v19 v20 v21) _ z26)) ?_)
   refine gQ 3 ?_
   rcases nS (decide (x27.aB2<(x27.aCb.size:Int))) with g28|g28
   ·have H:=sE H g28
    refine cA H fun z29 H=>(dW (dI [0] bH (dI [132] uV (dI [133] bZ (dD [134] eB (dI [0] bH (dI [136] uV (dI [137] bZ (dD [138] eB (dI [139] (bD.lenS rfl rfl rfl Tryz.underlying9) (dI [135,140] rLt (dI [141] bH (dI (hg:=bG g28) [0] bH ?_)))))))))))))
    refine dI (hg:=bG g28) [143] uV (dI (hg:=bG g28) [144] bZ (dD (hg:=bG g28) [145] eB (dI (hg:=bG g28) [0] bH (dI (hg:=bG g28) [147] uV (dI (hg:=bG g28) [148] bZ (dD (hg:=bG g28) [149] eB (dI (hg:=bG g28) [146,150] (bD.indexSI (y:=x27.aB2) rfl rfl rfl rfl z29.1 z29.2 Tryz.underlying9) (dI (hg:=bG g28) [151] rEq (dI [142,152] (C3 g28) (dN ?_))))))))))
    refine bF H (fun h30 H=>?_) (fun h30 H=>?_)
    ·refine gQ 26 ?_;refine q1 (b6 [pS s_,eD v23 0]) ?_;exact gE 2
    refine cO.skip (eF H fun x32 x33 z31 H=>(cA H fun z34 H=>(dW (dI [4] bZ (dB [171] 0 1 sM (dI [0] bH (dE [173] (fD [0] [] func171 (p9 x27 _ z31)) (dI [174] (fY ([x32]:List aB)) (dE [172,175] (jO z34) (dI [4] bZ (iY [177,176] hM (dN ?_))))))))))))
    exact gE 0
   have H:=sD H g28
   refine dW (dI [0] bH (dI [132] uV (dI [133] bZ (dD [134] eB (dI [0] bH (dI [136] uV (dI [137] bZ (dD [138] eB (dI [139] (bD.lenS rfl rfl rfl Tryz.underlying9) (dI [135,140] rLt (dI [141] bH ?_)))))))))))
   iterate 10 refine NB g28 ?_
   refine dI [142] (FG g28) (dN ?_)
   refine gQ 2 ?_;refine eF H fun x36 x37 z35 H=>(cA H fun z38 H=>(dW (dI [4] bZ (dB [171] 0 1 sM (dI [0] bH (dE [173] (fD [0] [] func171 (p9 x27 _ z35)) (dI [174] (fY ([x36]:List aB)) (dE [172,175] (jO z38) (dI [4] bZ (iY [177,176] hM (dN ?_)))))))))))
   exact gE 0
  exact gE 0
 rintro⟨v17,v18,v19,v20,v21,v23⟩ H
 refine gQ 2 ?_;refine q1 (b6 [pS s_,eD v23 0]) ?_;exact gE 2
def sA:Nat→dG→Option (aB×dG)
 |0,_=>none
 |fu+1,pA=>JM fu (sA fu) pA
theorem agN(fu:Nat):JN (sA fu):=by
 induction fu with
 |zero=>exact(fun pA r H=>by simp only [sA] at H;cases H)
 |succ fu ih=>exact(fun pA r H=>by simp only [sA] at H;exact ac1 fu (sA fu) ih pA r H)
theorem ajI(fu:Nat):JN (sA fu):=(agN fu)
abbrev zV:=aB→Int→Option Int
def JL(m:zV):Prop:= ∀(px:aB) (p6:Int) (r:Int),m px p6=some r→bQ Tryz.prog 197 [(aB.pv px),pI p6] (pI r:PV)
def ajE(fu:Nat)(p4:zV)(px:aB)(p6:Int):Nat→Int→Option (LR Int Int):=fun i1 v2=>sw (decide (v2≥0)) (bd (p4 (aT px.aBv i1) v2) fun x7=>some (.next x7)) (some (.brk v2))
def RS(fu:Nat)(p4:zV)(px:aB)(p6:Int):Option Int:=so (loopN (ajE fu p4 px p6) (px.aBv.length-0) 0 (aZ (p6-1))) fun v2=>some v2
theorem ac0(fu:Nat)(p4:zV)(pC:JL p4):JL (RS fu p4):=by
 intro px p6 r H
 refine qJ func197 H (fun C hC H=>?_)
 refine gQ 2 ?_;refine q1 (fE ([pS px.aBy,bK px.aBv])) ?_;refine gQ 13 ?_;refine cO.fact (cK 0 1 rfl rfl rfl (aB.trs_len _)) (fun hl3=>?_)
 refine bU (σ:=Int) (fun i1 v2=>⟨[(1,pI v2),(2,.ptr 0 0),(4,pI 0),(5,pN i1)],⟨[some ⟨189,[pS px.aBy,bK px.aBv]⟩],[]⟩⟩) (fun v2=>⟨[(1,pI v2),(4,pI 0)],⟨[some ⟨189,[pS px.aBy,bK px.aBv]⟩],[]⟩⟩) (eJ H) ?_ ?_
 ·rintro i1 v2 H
  refine gQ 9 ?_;refine AL.splitB 13 rfl (fun g4=>?_) (fun g4=>?_)
  ·have g4l:=wE g4
   have H:=lnT g4l H
   have g4n:=zT g4
   refine gQ 4 ?_;refine bF H (fun h5 H=>?_) (fun h5 H=>?_)
   ·refine gQ 8 ?_;refine q1 (gS (aB.cs (aT px.aBv i1))) (q1 bH (bM H fun x7 z6 H=>(q1 (bI func197 (pC (aT px.aBv i1) v2 _ z6)) ?_)))
    exact gE 7
   exact gE 0
  have H:=lnE (wD g4) H
  exact gE 5
 rintro v2 H
 exact gE 5
def pZ:Nat→aB→Int→Option Int
 |0,_,_=>none
 |fu+1,px,p6=>RS fu (pZ fu) px p6
theorem agM(fu:Nat):JL (pZ fu):=by
 induction fu with
 |zero=>exact(fun px p6 r H=>by simp only [pZ] at H;cases H)
 |succ fu ih=>exact(fun px p6 r H=>by simp only [pZ] at H;exact ac0 fu (pZ fu) ih px p6 r H)
theorem ajG(fu:Nat):JL (pZ fu):=(agM fu)
def FY(fu:Nat)(px pF pG:Int):Option Bool:=sw (decide (px≥pF)) (some (decide (px≤pG))) (some false)
theorem IM(fu:Nat)(px:Int)(pF:Int)(pG:Int)(r:Bool)(H:FY fu px pF pG=some r):bQ Tryz.prog 64 [pI px,pI pF,pI pG] (pB r):=by
 refine qJ func64 H (fun C hC H=>?_)
 refine gQ 10 ?_;refine dL 10 H (fun g1 H=>gE 6) fun g1 H=>?_;exact gE 6
def TI(fu:Nat)(ps:ByteArray):Nat→Unit→Option (LR Unit Bool):=fun i1 _=>gd (i1<(ps).size) (bd (JJ fu (ET ps i1)) fun x6=>sw (!(x6)) (some (.ret false)) (some (.next ())))
def AY(fu:Nat)(ps:ByteArray):Option Bool:=so (loopN (TI fu ps) (ps.size-0) 0 ()) fun _=>bd (FY fu (ps.size:Int) 1 12) fun x9=>some x9
theorem TJ(fu:Nat)(ps:ByteArray)(r:Bool)(H:AY fu ps=some r):bQ Tryz.prog 214 [pS ps] (pB r):=by
 refine qJ func214 H (fun C hC H=>?_)
 refine gQ 9 ?_;refine szF 0 (fun hl2=>?_)
 refine bU (σ:=Unit) (fun i1 _=>⟨[(0,pS ps),(2,pB false),(3,pN i1)],⟨[],[]⟩⟩) (fun _=>⟨[(0,pS ps),(2,pB false)],⟨[],[]⟩⟩) (eJ H) ?_ ?_
 ·rintro i1 ⟨⟩ H
  refine gQ 5 ?_;refine q1 (bD.lenS rfl rfl rfl Tryz.underlying9) ?_;refine gQ 2 ?_;refine cT H (fun h3 h3l H=>?_) (fun h3 H=>?_)
  ·have h3n:i1<ps.size:=by have:=of_decide_eq_true h3;omega
   refine gQ 7 ?_;refine cA H fun z4 H=>(q1 (bD.indexS (k:=i1) rfl rfl rfl rfl z4 Tryz.underlying9) (bM H fun x6 z5 H=>(q1 (bI func196 (W1 fu (ET ps i1) _ z5)) ?_)))
   refine gQ 2 ?_;refine bF H (fun h7 H=>gE 4) fun h7 H=>?_;exact gE 6
  exact gE 0
 rintro⟨⟩ H
 refine gQ 3 ?_;refine q1 (bD.lenS rfl rfl rfl Tryz.underlying9) (bM H fun x9 z8 H=>(q1 (bI func64 (IM fu (ps.size:Int) 1 12 _ z8)) ?_))
 exact gE 2
abbrev zU:=aB→Option Bool
def JK(m:zU):Prop:= ∀(px:aB) (r:Bool),m px=some r→bQ Tryz.prog 198 [(aB.pv px)] (pB r:PV)
def ajB(fu:Nat)(p5:zU)(px:aB):Nat→Unit→Option (LR Unit Bool):=fun i5 _=>bd (p5 (aT px.aBv i5)) fun x9=>sw (!(x9)) (some (.ret false)) (some (.next ()))
def RR(fu:Nat)(p5:zU)(px:aB):Option Bool:=sw (!decide (px.aBy=s_)) (bd (AY fu px.aBy) fun x3=>sw x3 (some (decide ((px.aBv.length:Int)=0))) (some false)) (so (loopN (ajB fu p5 px) (px.aBv.length-0) 0 ()) fun _=>some true)
theorem acZ(fu:Nat)(p5:zU)(pD:JK p5):JK (RR fu p5):=by
 intro px r H
 refine qJ func198 H (fun C hC H=>?_)
 refine gQ 2 ?_;refine q1 (fE ([pS px.aBy,bK px.aBv])) ?_;refine gQ 9 ?_;refine bF H (fun h1 H=>?_) (fun h1 H=>?_)
 ·refine gQ 4 ?_;refine bM H fun x3 z2 H=>(q1 (bI func214 (TJ fu px.aBy _ z2)) (q1 bH ?_))
  refine dL 10 H (fun g4 H=>gE 7) fun g4 H=>?_;exact gE 7
 refine gQ 6 ?_;refine cO.fact (cK 0 1 rfl rfl rfl (aB.trs_len _)) (fun hl6=>?_)
 refine bU (σ:=Unit) (fun i5 _=>⟨[(1,.ptr 0 0),(2,pB false),(3,pN i5)],⟨[some ⟨189,[pS px.aBy,bK px.aBv]⟩],[]⟩⟩) (fun _=>⟨[(2,pB false)],⟨[some ⟨189,[pS px.aBy,bK px.aBv]⟩],[]⟩⟩) (eJ H) ?_ ?_
 ·rintro i5 ⟨⟩ H
  refine gQ 9 ?_;refine cT H (fun h7 h7l H=>?_) (fun h7 H=>?_)
  ·refine gQ 9 ?_;refine q1 (gS (aB.cs (aT px.aBv i5))) (bM H fun x9 z8 H=>(q1 (bI func198 (pD (aT px.aBv i5) _ z8)) ?_))
   refine gQ 2 ?_;refine bF H (fun h10 H=>gE 4) fun h10 H=>?_;exact gE 6
  exact gE 0
 rintro⟨⟩ H
 exact gE 4
def pY:Nat→aB→Option Bool
 |0,_=>none
 |fu+1,px=>RR fu (pY fu) px
theorem agL(fu:Nat):JK (pY fu):=by
 induction fu with
 |zero=>exact(fun px r H=>by simp only [pY] at H;cases H)
 |succ fu ih=>exact(fun px r H=>by simp only [pY] at H;exact acZ fu (pY fu) ih px r H)
theorem ajD(fu:Nat):JK (pY fu):=(agL fu)
def O2(fu:Nat)(pa pb:Int):Option Int:=sw (decide (pa>pb)) (some pa) (some pb)
theorem Z9(fu:Nat)(pa:Int)(pb:Int)(r:Int)(H:O2 fu pa pb=some r):bQ Tryz.prog 215 [pI pa,pI pb] (pI r):=by
 refine qJ func215 H (fun C hC H=>?_)
 refine gQ 11 ?_;refine bF H (fun h1 H=>gE 5) fun h1 H=>?_;exact gE 6
abbrev pW:=aB→Option Int
def w8(m:pW):Prop:= ∀(px:aB) (r:Int),m px=some r→bQ Tryz.prog 199 [(aB.pv px)] (pI r:PV)
def WG(fu:Nat)(p1:pW)(px:aB):Nat→Int→Option (LR Int Int):=fun i2 v3=>bd (p1 (aT px.aBv i2)) fun x7=>bd (O2 fu v3 x7) fun x9=>some (.next x9)
def CZ(fu:Nat)(p1:pW)(px:aB):Option Int:=sw (!decide (px.aBy=s_)) (some 0) (so (loopN (WG fu p1 px) (px.aBv.length-0) 0 0) fun v3=>some (aZ (v3+1)))
theorem Q7(fu:Nat)(p1:pW)(p7:w8 p1):w8 (CZ fu p1):=by
 intro px r H
 refine qJ func199 H (fun C hC H=>?_)
 refine gQ 2 ?_;refine q1 (fE ([pS px.aBy,bK px.aBv])) ?_;refine gQ 9 ?_;refine bF H (fun h1 H=>gE 4) fun h1 H=>?_;refine gQ 10 ?_;refine cO.fact (cK 0 1 rfl rfl rfl (aB.trs_len _)) (fun hl4=>?_)
 refine bU (σ:=Int) (fun i2 v3=>⟨[(1,.ptr 0 0),(2,pI 0),(3,pI v3),(4,pN i2)],⟨[some ⟨189,[pS px.aBy,bK px.aBv]⟩],[]⟩⟩) (fun v3=>⟨[(2,pI 0),(3,pI v3)],⟨[some ⟨189,[pS px.aBy,bK px.aBv]⟩],[]⟩⟩) (eJ H) ?_ ?_
 ·rintro i2 v3 H
  refine gQ 9 ?_;refine cT H (fun h5 h5l H=>?_) (fun h5 H=>?_)
  ·refine gQ 9 ?_;refine q1 (gS (aB.cs (aT px.aBv i2))) (bM H fun x7 z6 H=>(q1 (bI func199 (p7 (aT px.aBv i2) _ z6)) (bM H fun x9 z8 H=>(q1 (bI func215 (Z9 fu v3 x7 _ z8)) ?_))))
   exact gE 7
  exact gE 0
 rintro v3 H
 exact gE 6
def jB:Nat→aB→Option Int
 |0,_=>none
 |fu+1,px=>CZ fu (jB fu) px
theorem TN(fu:Nat):w8 (jB fu):=by
 induction fu with
 |zero=>exact(fun px r H=>by simp only [jB] at H;cases H)
 |succ fu ih=>exact(fun px r H=>by simp only [jB] at H;exact Q7 fu (jB fu) ih px r H)
theorem WI(fu:Nat):w8 (jB fu):=(TN fu)
def iC(fu:Nat)(px:aB):Option Bool:=bd (pZ fu px 900) fun x2=>sw (decide (x2≥0)) (bd (pY fu px) fun x5=>sw x5 (bd (jB fu px) fun x8=>some (decide (x8≤14))) (some false)) (some false)
theorem c9(fu:Nat)(px:aB)(r:Bool)(H:iC fu px=some r):bQ Tryz.prog 173 [(aB.pv px)] (pB r):=by
 refine qJ func173 H (fun C hC H=>?_)
 refine gQ 2 ?_;refine q1 (fE ([pS px.aBy,bK px.aBv])) ?_;refine gQ 4 ?_;refine q1 (b6 [pS px.aBy,bK px.aBv]) (bM H fun x2 z1 H=>(q1 (bI func197 (ajG fu px 900 _ z1)) ?_))
 refine gQ 2 ?_;refine dL 6 H (fun g3 H=>?_) fun g3 H=>?_
 ·refine qg g3 (b6 [pS px.aBy,bK px.aBv]) (bM H fun x5 z4 H=>(qg g3 (bI func198 (ajD fu px _ z4)) ?_))
  refine gQ 2 ?_;refine dL 10 H (fun g6 H=>?_) fun g6 H=>?_
  ·refine qg g6 (b6 [pS px.aBy,bK px.aBv]) (bM H fun x8 z7 H=>(qg g6 (bI func199 (WI fu px _ z7)) ?_))
   exact gE 4
  exact gE 6
 exact gE 10
def w7(fu:Nat)(ps:ByteArray):Option (aB×Bool):=bd (sA fu (dG.mk ps 0 0 0 false)) fun(x2,x3)=>bd (zX fu x3) fun x5=>sw (x5.aB5) (some ((aB.mk s_ []),false)) (sw (!decide (x5.aB2=(ps.size:Int))) (some ((aB.mk s_ []),false)) (bd (iC fu x2) fun x9=>sw (!(x9)) (some ((aB.mk s_ []),false)) (some (x2,true))))
theorem WF(fu:Nat)(ps:ByteArray)(r:aB×Bool)(H:w7 fu ps=some r):bQ Tryz.prog 145 [pS ps] (.tup [(aB.pv r.1),pB r.2]):=by
 refine qJ func145 H (fun C hC H=>?_)
 refine gQ 9 ?_;refine q1 (fE ([pS ps,pI 0,pI 0,pI 0,pB false])) ?_;refine gQ 5 ?_;refine eF H fun x2 x3 z1 H=>(q1 (fD [1] [] func171 (ajI fu (dG.mk ps 0 0 0 false) _ z1)) ?_)
 refine gQ 6 ?_;refine bM H fun x5 z4 H=>(q1 (fD [1] [] func172 (M3 fu x3 _ z4)) ?_)
 refine gQ 9 ?_;refine dL 17 H (fun g6 H=>gE 21) fun g6 H=>?_;refine qg g6 bH (qg g6 uV ?_)
 refine gQ 3 ?_;refine qg g6 (bD.lenS rfl rfl rfl Tryz.underlying9) ?_;refine gQ 3 ?_;refine dL 26 H (fun g7 H=>gE 12) fun g7 H=>?_;refine qg g7 (b6 [pS x2.aBy,bK x2.aBv]) (bM H fun x9 z8 H=>(qg g7 (bI func173 (c9 fu x2 _ z8)) ?_))
 refine gQ 3 ?_;refine bF H (fun h10 H=>gE 6) fun h10 H=>?_;refine gQ 3 ?_;refine q1 (b6 [pS x2.aBy,bK x2.aBv]) ?_;exact gE 3
def agK(fu:Nat)(p0:List aB):Nat→((LB))→Option (LR ((LB)) ((LB)×Bool)):=fun i1 v3=>sw (decide ((aT p0 i1).aBy=s_)) (some (.ret (([]),false))) (gd ((v3).length+(([((aT p0 i1).aBy)]:LB)).length≤68719476736) (some (.next (v3++([((aT p0 i1).aBy)]:LB)))))
def BB(fu:Nat)(p0:List aB):Option ((LB)×Bool):=so (loopN (agK fu p0) (p0.length-0) 0 ([])) fun v3=>some (v3,true)
theorem IQ(fu:Nat)(p0:List aB)(r:(LB)×Bool)(H:BB fu p0=some r):bQ Tryz.prog 174 [bK p0] (.tup [rS r.1,pB r.2]):=by
 refine qJ func174 H (fun C hC H=>?_)
 refine gQ 7 ?_;refine q1 (nU ([]:LB)) ?_;refine gQ 7 ?_;refine fS 0 (aB.trs_len _) (fun hl4=>?_)
 refine bU (σ:=(LB)) (fun i1 v3=>⟨[(0,bK p0),(2,.nil),(3,pB false),(4,aS v3 0),(5,pN i1)],⟨[],[⟨9,1,aY (v3),false⟩]⟩⟩) (fun v3=>⟨[(2,.nil),(3,pB false),(4,aS v3 0)],⟨[],[⟨9,1,aY (v3),false⟩]⟩⟩) (eJ H) ?_ ?_
 ·rintro i1 v3 H
  refine gQ 8 ?_;refine cT H (fun h5 h5l H=>?_) (fun h5 H=>?_)
  ·refine gQ 13 ?_;refine bF H (fun h6 H=>?_) (fun h6 H=>?_)
   ·refine gQ 2 ?_;refine q1 (nU ([]:LB)) ?_;exact gE 3
   refine gQ 8 ?_;refine q1 (fY ([((aT p0 i1).aBy)]:LB)) (cA H fun z7 H=>(q1 (jO z7) ?_))
   exact gE 7
  exact gE 0
 rintro v3 H
 exact gE 6
def cF(fu:Nat)(ps:ByteArray):Option aB:=some (aB.mk ps [])
theorem b7(fu:Nat)(ps:ByteArray)(r:aB)(H:cF fu ps=some r):bQ Tryz.prog 239 [pS ps] ((aB.pv r)):=by
 refine qJ func239 H (fun C hC H=>?_)
 exact gE 10
def agO(fu:Nat)(p0:LB):Nat→((List aB))→Option (LR ((List aB)) ((List aB))):=fun i1 v3=>bd (cF fu (aT p0 i1)) fun x7=>gd ((v3).length+(([x7]:List aB)).length≤68719476736) (some (.next (v3++([x7]:List aB))))
def F5(fu:Nat)(p0:LB):Option ((List aB)):=so (loopN (agO fu p0) (p0.length-0) 0 ([])) fun v3=>some v3
theorem SS(fu:Nat)(p0:LB)(r:(List aB))(H:F5 fu p0=some r):bQ Tryz.prog 254 [rS p0] (bK r):=by
 refine qJ func254 H (fun C hC H=>?_)
 refine gQ 6 ?_;refine q1 (nU ([]:List aB)) ?_;refine gQ 7 ?_;refine fS 0 (b0 _) (fun hl4=>?_)
 refine bU (σ:=(List aB)) (fun i1 v3=>⟨[(0,rS p0),(2,.nil),(3,eD v3 0),(4,pN i1)],⟨[],[⟨189,2,aB.trs (v3),false⟩]⟩⟩) (fun v3=>⟨[(2,.nil),(3,eD v3 0)],⟨[],[⟨189,2,aB.trs (v3),false⟩]⟩⟩) (eJ H) ?_ ?_
 ·rintro i1 v3 H
  refine gQ 8 ?_;refine cT H (fun h5 h5l H=>?_) (fun h5 H=>?_)
  ·refine gQ 9 ?_;refine bM H fun x7 z6 H=>(q1 (bI func239 (b7 fu (aT p0 i1) _ z6)) (q1 (fY ([x7]:List aB)) (cA H fun z8 H=>(q1 (jO z8) ?_))))
   exact gE 7
  exact gE 0
 rintro v3 H
 exact gE 5
def aaA(m:(List aB)→Option aB):Prop:= ∀(p0:List aB) (r:aB),m p0=some r→vL Tryz.prog 238 [bK p0] ⟨[],[]⟩ [] 189 2 (aB.trs (r.aBv)) (fun k=> .agg [pS r.aBy,eD r.aBv k])
theorem F4{m:(List aB)→Option aB}(h:aaA m)(p0:List aB)(r:aB)(H:m p0=some r):bQ Tryz.prog 238 [bK p0] ((aB.pv r):PV):=(h p0 r H).plain (fun _=>iX) (hp:=abF)
def mC(fu:Nat)(p0:List aB):Option aB:=gd (([]:List aB).length+(p0).length≤68719476736) (some (aB.mk s_ (([])++p0)))
theorem m6(fu:Nat):aaA (mC fu):=by
 intro p0 r H
 unfold vL
 refine qJ func238 H (fun C hC H=>?_)
 refine gQ 6 ?_;refine q1 (nU ([]:List aB)) (q1 bH (cA H fun z1 H=>(q1 (jO z1) ?_)))
 refine gQ 3 ?_;refine cO.ret ?_
 obtain rfl:_=r:=(s3 H:)
 exact PG (st':=⟨[],[⟨189,2,aB.trs (([])++p0),false⟩]⟩) ⟨0,rfl,rfl,rfl⟩ (hr:=⟨⟨_,_,_,rfl,rfl,asE.h,rfl,rfl⟩,trivial⟩)
abbrev pV:=aB→aB→Option Bool
def w6(m:pV):Prop:= ∀(pa:aB) (pb:aB) (r:Bool),m pa pb=some r→bQ Tryz.prog 221 [(aB.pv pa),(aB.pv pb)] (pB r:PV)
def V5(fu:Nat)(p2:pV)(pa pb:aB):Nat→Unit→Option (LR Unit Bool):=fun i3 _=>gd (i3<(pb.aBv).length) (bd (p2 (aT pa.aBv i3) (aT pb.aBv i3)) fun x8=>sw (!(x8)) (some (.ret false)) (some (.next ())))
def CV(fu:Nat)(p2:pV)(pa pb:aB):Option Bool:=sw (!decide (pa.aBy=pb.aBy)) (some false) (sw (!decide ((pa.aBv.length:Int)=(pb.aBv.length:Int))) (some false) (so (loopN (V5 fu p2 pa pb) (pa.aBv.length-0) 0 ()) fun _=>some true))
theorem QV(fu:Nat)(p2:pV)(p8:w6 p2):w6 (CV fu p2):=by
 intro pa pb r H
 refine qJ func221 H (fun C hC H=>?_)
 refine gQ 2 ?_;refine q1 (fE ([pS pa.aBy,bK pa.aBv])) (q1 (fE ([pS pb.aBy,bK pb.aBv])) ?_)
 refine gQ 11 ?_;refine dL 11 H (fun g1 H=>gE 14) fun g1 H=>?_;refine gQ 9 ?_;refine bF H (fun h2 H=>gE 4) fun h2 H=>?_;refine gQ 6 ?_;refine fS 13 (aB.trs_len _) (fun hl4=>?_)
 refine bU (σ:=Unit) (fun i3 _=>⟨[(2,.ptr 0 0),(3,.ptr 1 0),(4,pB false),(5,pN i3)],⟨[some ⟨189,[pS pa.aBy,bK pa.aBv]⟩,some ⟨189,[pS pb.aBy,bK pb.aBv]⟩],[]⟩⟩) (fun _=>⟨[(4,pB false)],⟨[some ⟨189,[pS pa.aBy,bK pa.aBv]⟩,some ⟨189,[pS pb.aBy,bK pb.aBv]⟩],[]⟩⟩) (eJ H) ?_ ?_
 ·rintro i3 ⟨⟩ H
  refine gQ 9 ?_;refine cT H (fun h5 h5l H=>?_) (fun h5 H=>?_)
  ·refine gQ 4 ?_;refine cA H fun z6 H=>(bM H fun x8 z7 H=>(dW (dI [2] bZ (dD [27] eB (dI [5] bH (dI [28,29] m9 (dI [30] (gS (aB.cs (aT pa.aBv i3))) (dI [3] bZ (dD [32] eB (dI [5] bH (dI [33,34] m9 (dI [35] (gS (aB.cs (aT pb.aBv i3))) (dI [31,36] (bI func221 (p8 (aT pa.aBv i3) (aT pb.aBv i3) _ z7)) ?_)))))))))))))
   refine dI [37] J6 (dN ?_)
   refine bF H (fun h9 H=>gE 4) fun h9 H=>?_;exact gE 6
  exact gE 0
 rintro⟨⟩ H
 exact gE 4
def fO:Nat→aB→aB→Option Bool
 |0,_,_=>none
 |fu+1,pa,pb=>CV fu (fO fu) pa pb
theorem TG(fu:Nat):w6 (fO fu):=by
 induction fu with
 |zero=>exact(fun pa pb r H=>by simp only [fO] at H;cases H)
 |succ fu ih=>exact(fun pa pb r H=>by simp only [fO] at H;exact QV fu (fO fu) ih pa pb r H)
theorem uZ(fu:Nat):w6 (fO fu):=(TG fu)
end
end Go.Proofs.YtfcoaagbccmahaaGreat.W

namespace Go.Proofs.YtfcoaagbccmahaaGreat.W
set_option maxRecDepth 20000
set_option maxHeartbeats 4000000
open Go.RowKit Go.WalkArith Go.IntWalk
def Y6(fu:Nat):Prop:= ∀(px:UInt8),Ok (JJ fu px) (fun _=>True)
theorem I7:bS Y6:=(bS.ge 2147483648).imp fun fu hfu px=>by
 refine oD (fun g1=>?_) fun g1=>?_
 ·refine oD (fun _=>oS) fun g2=>?_;refine oD (fun g3=>?_) fun g3=>?_
  ·exact oD (fun _=>oS) fun g4=>oD (fun _=>oS) fun g5=>oD (fun _=>oS) fun g6=>oD (fun _=>oS) fun g7=>oD (fun _=>oS) fun g8=>oD (fun _=>oS) fun g9=>oD (fun _=>oS) fun g10=>oS
  exact oD (fun _=>oS) fun g11=>oD (fun _=>oS) fun g12=>oD (fun _=>oS) fun g13=>oD (fun _=>oS) fun g14=>oD (fun _=>oS) fun g15=>oD (fun _=>oS) fun g16=>oS
 refine oD (fun g17=>?_) fun g17=>?_
 ·exact oD (fun _=>oS) fun g18=>oD (fun _=>oS) fun g19=>oD (fun _=>oS) fun g20=>oD (fun _=>oS) fun g21=>oD (fun _=>oS) fun g22=>oD (fun _=>oS) fun g23=>oD (fun _=>oS) fun g24=>oS
 exact oD (fun _=>oS) fun g25=>oD (fun _=>oS) fun g26=>oD (fun _=>oS) fun g27=>oD (fun _=>oS) fun g28=>oD (fun _=>oS) fun g29=>oD (fun _=>oS) fun g30=>oS
def aj6(fu:Nat):Prop:= ∀(px pC pD:Int),Ok (FY fu px pC pD) (fun _=>True)
theorem rT:bS aj6:=(bS.ge 2147483648).imp fun fu hfu px pC pD=>by
 exact oD (fun _=>oS) fun g1=>oS
def GW(fu:Nat):Prop:= ∀(ps:ByteArray),ps.size≤1073741824→Ok (AY fu ps) (fun _=>True)
theorem rD:bS GW:=(((bS.ge 2147483648).and I7).and rT).imp fun fu ⟨⟨hfu,I7⟩,rT⟩ ps hpre=>by
 refine GN ?_ ?_
 ·refine Ok.loop1 ?_;rintro i1 ⟨⟩ hl2
  exact oG fun z4=>oB (I7 (ET ps i1)) fun x6 _=>oW (fun _=>oR) fun g6=>qD
 rintro⟨⟩-
 exact oB (rT (ps.size:Int) 1 12) fun x9 _=>oS
def ak6(fu:Nat):Prop:= ∀(px:aB) (p3:Int),wt px≤1073741824→Ok (pZ fu px p3) (fun _=>True)
def PJ(n:Nat)(m:zV):Prop:= ∀(px:aB) (p3:Int),wt px<n→wt px≤1073741824→Ok (m px p3) (fun _=>True)
theorem ajF{n fu:Nat}(hfu:2147483648≤fu){p6:zV}(p8:PJ n p6):PJ (n+1) (RS fu p6):=by
 intro px p3 hm hpre
 refine oEN (fun i1 v2 hl2=>?_) ?_
 ·have:=aB.wt_eq px
  have:=bB px.aBv
  refine oD (fun g4=>?_) fun g4=>?_
  ·have:=cW px.aBv i1 hl2
   exact oB (p8 (aT px.aBv i1) v2 bR bR) fun x7 _=>qD
  exact oK
 intro v2 _
 exact oS
theorem amN(n:Nat):bS fun fu=>PJ n (pZ fu):=by
 induction n with
 |zero=>exact .all fun fu=>fun _ _ h=>absurd h (Nat.not_lt_zero _)
 |succ n ih=>exact bS.succ ((ih.and (bS.ge 2147483648)).imp fun fu ⟨h,hfu⟩=>fun px p3=>by rw [pZ];exact ajF hfu h px p3)
theorem QJ:bS ak6:=(amN 8589934592).imp fun fu h px p3 hpre=>h px p3 bR hpre
def ak5(fu:Nat):Prop:= ∀(px:aB),wt px≤1073741824→Ok (pY fu px) (fun _=>True)
def PI(n:Nat)(m:zU):Prop:= ∀(px:aB),wt px<n→wt px≤1073741824→Ok (m px) (fun _=>True)
theorem ajC{n fu:Nat}(hfu:2147483648≤fu)(rD:GW fu){p7:zU}(p9:PI n p7):PI (n+1) (RR fu p7):=by
 intro px hm hpre
 have:=aB.wt_eq px
 have:s_.size=0:=rfl
 refine oN (fun g1=>?_) fun g1=>?_
 ·have:=G2 g1
  exact oB (rD px.aBy bR) fun x3 _=>oC (fun _=>oS) fun g3=>oS
 refine GN ?_ ?_
 ·refine Ok.loop1 ?_;rintro i5 ⟨⟩ hl5
  have:=bB px.aBv
  have:=cW px.aBv i5 hl5
  exact oB (p9 (aT px.aBv i5) bR bR) fun x9 _=>oW (fun _=>oR) fun g8=>qD
 rintro⟨⟩-
 exact oS
theorem amM(n:Nat):bS fun fu=>PI n (pY fu):=by
 induction n with
 |zero=>exact .all fun fu=>fun _ h=>absurd h (Nat.not_lt_zero _)
 |succ n ih=>exact bS.succ ((ih.and ((bS.ge 2147483648).and rD)).imp fun fu ⟨h,⟨hfu,rD⟩⟩=>fun px=>by rw [pY];exact ajC hfu rD h px)
theorem QI:bS ak5:=(amM 8589934592).imp fun fu h px hpre=>h px bR hpre
def UI(fu:Nat):Prop:= ∀(pa pb:Int),Ok (O2 fu pa pb) (fun _=>True)
theorem sU:bS UI:=(bS.ge 2147483648).imp fun fu hfu pa pb=>by
 exact oD (fun _=>oS) fun g1=>oS
def XR(fu:Nat):Prop:= ∀(px:aB),wt px≤1073741824→Ok (jB fu px) (fun _=>True)
def CM(n:Nat)(m:pW):Prop:= ∀(px:aB),wt px<n→wt px≤1073741824→Ok (m px) (fun _=>True)
theorem WH{n fu:Nat}(hfu:2147483648≤fu)(sU:UI fu){p1:pW}(p4:CM n p1):CM (n+1) (CZ fu p1):=by
 intro px hm hpre
 have:=aB.wt_eq px
 have:s_.size=0:=rfl
 refine oN (fun _=>oS) fun g1=>?_;refine oEN (fun i2 v3 hl3=>?_) ?_
 ·have:=bB px.aBv
  have:=cW px.aBv i2 hl3
  exact oB (p4 (aT px.aBv i2) bR bR) fun x7 _=>oB (sU v3 x7) fun x9 _=>qD
 intro v3 _
 exact oS
theorem YG(n:Nat):bS fun fu=>CM n (jB fu):=by
 induction n with
 |zero=>exact .all fun fu=>fun _ h=>absurd h (Nat.not_lt_zero _)
 |succ n ih=>exact bS.succ ((ih.and ((bS.ge 2147483648).and sU)).imp fun fu ⟨h,⟨hfu,sU⟩⟩=>fun px=>by rw [jB];exact WH hfu sU h px)
theorem CS:bS XR:=(YG 8589934592).imp fun fu h px hpre=>h px bR hpre
def SX(fu:Nat):Prop:= ∀(px:aB),wt px≤1073741824→Ok (iC fu px) (fun _=>True)
theorem cP:bS SX:=((((bS.ge 2147483648).and QJ).and QI).and CS).imp fun fu ⟨⟨⟨hfu,QJ⟩,QI⟩,CS⟩ px hpre=>by
 refine oB (QJ px 900 bR) fun x2 _=>?_;refine oD (fun g2=>?_) fun g2=>?_
 ·refine oB (QI px bR) fun x5 _=>?_;refine oC (fun g4=>?_) fun g4=>?_
  ·exact oB (CS px bR) fun x8 _=>oS
  exact oS
 exact oS
def ER(fu:Nat):Prop:= ∀(p0:List aB),wl p0≤1073741824→Ok (BB fu p0) (fun r=>wl r.1≤wl p0)
theorem iF:bS ER:=(bS.ge 2147483648).imp fun fu hfu p0 hpre=>by
 have:=(aX:wl ([]:LB)=0∧_)
 refine QP p0 1 (fun i1 v3 hl2 hI3 _ _=>?_) ?_
 ·have:=bB p0
  have:=cW p0 i1 hl2
  have:=aB.wt_eq (aT p0 i1)
  have:s_.size=0:=rfl
  refine oD (fun _=>oR) fun g4=>?_
  have:=G2 g4
  have:=bB (v3)
  have:=cG ((aT p0 i1).aBy)
  have:=bA ((aT p0 i1).aBy)
  refine oG fun z5=>?_
  have:=b8 v3 ([((aT p0 i1).aBy)]:LB)
  exact qD
 intro v3 h1
 exact oS
def IX(fu:Nat):Prop:= ∀(ps:ByteArray),Ok (cF fu ps) (fun r=>wt r=ps.size)
theorem bO:bS IX:=(bS.ge 2147483648).imp fun fu hfu ps=>by
 have:=(aX:wl ([]:List aB)=0∧_)
 have:=aB.wt_mk ps []
 exact oS
def LP(fu:Nat):Prop:= ∀(p0:LB),wl p0≤1073741824→Ok (F5 fu p0) (fun r=>wl r≤wl p0)
theorem mX:bS LP:=((bS.ge 2147483648).and bO).imp fun fu ⟨hfu,bO⟩ p0 hpre=>by
 have:=(aX:wl ([]:List aB)=0∧_)
 refine QP p0 1 (fun i1 v3 hl2 hI3 _ _=>?_) ?_
 ·have:=bB p0
  have:=cW p0 i1 hl2
  have:=bA (aT p0 i1)
  refine oB (bO (aT p0 i1)) fun x7 h4=>?_
  have:=bB (v3)
  have:=cG x7
  refine oG fun z5=>?_
  have:=b8 v3 ([x7]:List aB)
  exact qD
 intro v3 h1
 exact oS
def Y7(fu:Nat):Prop:= ∀(p0:List aB),wl p0≤1073741824→Ok (mC fu p0) (fun r=>wt r=wl p0)
theorem eO:bS Y7:=(bS.ge 2147483648).imp fun fu hfu p0 hpre=>by
 have:=(aX:wl ([]:List aB)=0∧_)
 have:=bB (p0)
 refine oG fun z1=>?_
 have:s_.size=0:=rfl
 have:=b8 ([]:List aB) p0
 have:=aB.wt_mk s_ (([])++p0)
 exact oS
def XO(fu:Nat):Prop:= ∀(pa pb:aB),wt pa≤1073741824→Ok (fO fu pa pb) (fun _=>True)
def CL(n:Nat)(m:pV):Prop:= ∀(pa pb:aB),wt pa<n→wt pa≤1073741824→Ok (m pa pb) (fun _=>True)
theorem V6{n fu:Nat}(hfu:2147483648≤fu){p2:pV}(p5:CL n p2):CL (n+1) (CV fu p2):=by
 intro pa pb hm hpre
 have:=aB.wt_eq pa
 have:=aB.wt_eq pb
 refine oN (fun _=>oS) fun g1=>?_
 have:=bB pa.aBv
 have:=bB pb.aBv
 refine oN (fun _=>oS) fun g2=>?_;refine GN ?_ ?_
 ·refine Ok.loop1 ?_;rintro i3 ⟨⟩ hl4
  have:=bB (pb.aBv)
  refine oG fun z6=>?_
  have:=cW pa.aBv i3 hl4
  have:=cW pb.aBv i3 z6
  exact oB (p5 (aT pa.aBv i3) (aT pb.aBv i3) bR bR) fun x8 _=>oW (fun _=>oR) fun g8=>qD
 rintro⟨⟩-
 exact oS
theorem YD(n:Nat):bS fun fu=>CL n (fO fu):=by
 induction n with
 |zero=>exact .all fun fu=>fun _ _ h=>absurd h (Nat.not_lt_zero _)
 |succ n ih=>exact bS.succ ((ih.and (bS.ge 2147483648)).imp fun fu ⟨h,hfu⟩=>fun pa pb=>by rw [fO];exact V6 hfu h pa pb)
theorem gI:bS XO:=(YD 8589934592).imp fun fu h pa pb hpre=>h pa pb bR hpre
end Go.Proofs.YtfcoaagbccmahaaGreat.W

namespace Go.Proofs.YtfcoaagbccmahaaGreat.W
set_option maxRecDepth 100000
set_option maxHeartbeats 40000000
noncomputable section
open Tryz Go.RowKit Go.Proofs
attribute [local irreducible] lt
def Z7(fu:Nat)(p3:LB)(ps:ByteArray):Nat→Unit→Option (LR Unit Bool):=fun i1 _=>sw (decide (aT p3 i1=ps)) (some (.ret true)) (some (.next ()))
def lC(fu:Nat)(p3:LB)(ps:ByteArray):Option Bool:=so (loopN (Z7 fu p3 ps) (p3.length-0) 0 ()) fun _=>some false
theorem mB(fu:Nat)(p3:LB)(ps:ByteArray)(r:Bool)(H:lC fu p3 ps=some r):bQ Tryz.prog 153 [rS p3,pS ps] (pB r):=by
 refine qJ func153 H (fun C hC H=>?_)
 refine gQ 9 ?_;refine fS 0 (b0 _) (fun hl2=>?_)
 refine bU (σ:=Unit) (fun i1 _=>⟨[(0,rS p3),(1,pS ps),(4,pB false),(5,pN i1)],⟨[],[]⟩⟩) (fun _=>⟨[(4,pB false)],⟨[],[]⟩⟩) (eJ H) ?_ ?_
 ·rintro i1 ⟨⟩ H
  refine gQ 8 ?_;refine cT H (fun h3 h3l H=>?_) (fun h3 H=>?_)
  ·refine gQ 12 ?_;refine bF H (fun h4 H=>gE 4) fun h4 H=>?_;exact gE 6
  exact gE 0
 rintro⟨⟩ H
 exact gE 4
def CY(fu:Nat)(ps:ByteArray):Option Bool:=bd (lC fu ([eU,eE,jF,y1,FP,GK,yR,GL,o5,yS,qE,l0]:LB) ps) fun x2=>some x2
theorem V8(fu:Nat)(ps:ByteArray)(r:Bool)(H:CY fu ps=some r):bQ Tryz.prog 227 [pS ps] (pB r):=by
 refine qJ func227 H (fun C hC H=>?_)
 refine gQ 6 ?_;refine q1 (fY ([eU,eE,jF,y1,FP,GK,yR,GL,o5,yS,qE,l0]:LB)) (q1 bH (bM H fun x2 z1 H=>(q1 (bI func153 (mB fu ([eU,eE,jF,y1,FP,GK,yR,GL,o5,yS,qE,l0]:LB) ps _ z1)) ?_)))
 exact gE 2
def TL(fu:Nat)(ps:ByteArray)(x2 x5:Bool):Nat→Unit→Option (LR Unit Bool):=fun i7 _=>gd (i7<(ps).size) (sw (decide ((((ET ps i7).toNat:Int):Int)≥97)) (sw (!(decide ((((ET ps i7).toNat:Int):Int)≤122))) (sw (decide ((i7:Int)=0)) (some (.ret false)) (sw (decide ((((ET ps i7).toNat:Int):Int)<48)) (some (.ret false)) (sw (decide ((((ET ps i7).toNat:Int):Int)>57)) (some (.ret false)) (some (.next ()))))) (some (.next ()))) (sw (decide ((i7:Int)=0)) (some (.ret false)) (sw (decide ((((ET ps i7).toNat:Int):Int)<48)) (some (.ret false)) (sw (decide ((((ET ps i7).toNat:Int):Int)>57)) (some (.ret false)) (some (.next ()))))))
def dT(fu:Nat)(ps:ByteArray):Option Bool:=bd (FY fu (ps.size:Int) 1 8) fun x2=>sw (!(x2)) (some false) (bd (CY fu ps) fun x5=>sw x5 (some false) (so (loopN (TL fu ps x2 x5) (ps.size-0) 0 ()) fun _=>some true))
theorem eA(fu:Nat)(ps:ByteArray)(r:Bool)(H:dT fu ps=some r):bQ Tryz.prog 205 [pS ps] (pB r):=by
 refine qJ func205 H (fun C hC H=>?_)
 refine gQ 8 ?_;refine q1 (bD.lenS rfl rfl rfl Tryz.underlying9) (bM H fun x2 z1 H=>(q1 (bI func64 (IM fu (ps.size:Int) 1 8 _ z1)) ?_))
 refine gQ 2 ?_;refine dL 9 H (fun g3 H=>gE 9) fun g3 H=>?_;refine qg g3 bH (bM H fun x5 z4 H=>(qg g3 (bI func227 (V8 fu ps _ z4)) ?_))
 refine gQ 2 ?_;refine bF H (fun h6 H=>gE 4) fun h6 H=>?_;refine gQ 6 ?_;refine szF 0 (fun hl8=>?_)
 refine bU (σ:=Unit) (fun i7 _=>⟨[(0,pS ps),(2,pB false),(3,pN i7)],⟨[],[]⟩⟩) (fun _=>⟨[(2,pB false)],⟨[],[]⟩⟩) (eJ H) ?_ ?_
 ·rintro i7 ⟨⟩ H
  refine gQ 5 ?_;refine q1 (bD.lenS rfl rfl rfl Tryz.underlying9) ?_;refine gQ 2 ?_;refine cT H (fun h9 h9l H=>?_) (fun h9 H=>?_)
  ·have h9n:i7<ps.size:=by have:=of_decide_eq_true h9;omega
   refine gQ 7 ?_;refine cA H fun z10 H=>(q1 (bD.indexS (k:=i7) rfl rfl rfl rfl z10 Tryz.underlying9) ?_)
   refine gQ 2 ?_;refine dL 23 H (fun g11 H=>?_) fun g11 H=>?_
   ·refine gQ 2 ?_;refine qg g11 (bD.indexS (k:=i7) rfl rfl rfl rfl z10 Tryz.underlying9) ?_;refine gQ 9 ?_;refine dL 31 H (fun g12 H=>?_) fun g12 H=>?_
    ·refine gQ 3 ?_;refine dL 34 H (fun g13 H=>gE 18) fun g13 H=>?_;refine gQ 2 ?_;refine qg g13 (bD.indexS (k:=i7) rfl rfl rfl rfl z10 Tryz.underlying9) ?_;refine gQ 3 ?_;refine dL 40 H (fun g14 H=>gE 12) fun g14 H=>?_;refine gQ 2 ?_;refine qg g14 (bD.indexS (k:=i7) rfl rfl rfl rfl z10 Tryz.underlying9) ?_;refine gQ 4 ?_;refine bF H (fun h15 H=>gE 4) fun h15 H=>?_;exact gE 6
    exact gE 23
   refine gQ 12 ?_;refine qg (congrArg (fun b=> !b) (rfl:false=false)) bH (qg (congrArg (fun b=> !b) (rfl:false=false)) rEq (qg (congrArg (fun b=> !b) (rfl:false=false)) bH ?_))
   refine dL 34 H (fun g16 H=>?_) fun g16 H=>?_
   ·refine gQ 4 ?_;refine qg (congrArg (fun b=> !b) (rfl:false=false)) (C3 g16) (qg (congrArg (fun b=> !b) (rfl:false=false)) bH ?_)
    refine gQ 4 ?_;refine qg (congrArg (fun b=> !b) (rfl:false=false)) (C3 rfl) (q1 (C3 (congrArg (fun b=> !b) (rfl:false=false))) ?_)
    exact gE 6
   refine gQ 2 ?_;refine qg g16 (bD.indexS (k:=i7) rfl rfl rfl rfl z10 Tryz.underlying9) (qg g16 rLt (qg (congrArg (fun b=> !b) (rfl:false=false)) (FG g16) (qg (congrArg (fun b=> !b) (rfl:false=false)) bH ?_)))
   refine dL 40 H (fun g17 H=>?_) fun g17 H=>?_
   ·refine gQ 4 ?_;refine qg (congrArg (fun b=> !b) (rfl:false=false)) (C3 g17) (q1 (C3 (congrArg (fun b=> !b) (rfl:false=false))) ?_)
    exact gE 6
   refine gQ 2 ?_;refine qg g17 (bD.indexS (k:=i7) rfl rfl rfl rfl z10 Tryz.underlying9) (qg g17 rGt (qg (congrArg (fun b=> !b) (rfl:false=false)) (FG g17) (q1 (C3 (congrArg (fun b=> !b) (rfl:false=false))) (qN ?_))))
   refine bF H (fun h18 H=>gE 4) fun h18 H=>?_;exact gE 6
  exact gE 0
 rintro⟨⟩ H
 exact gE 4
def agP(fu:Nat)(p3:LB):Nat→Unit→Option (LR Unit Bool):=fun i1 _=>bd (dT fu (aT p3 i1)) fun x5=>sw (!(x5)) (some (.ret false)) (some (.next ()))
def F6(fu:Nat)(p3:LB):Option Bool:=so (loopN (agP fu p3) (p3.length-0) 0 ()) fun _=>some true
theorem ST(fu:Nat)(p3:LB)(r:Bool)(H:F6 fu p3=some r):bQ Tryz.prog 228 [rS p3] (pB r):=by
 refine qJ func228 H (fun C hC H=>?_)
 refine gQ 9 ?_;refine fS 0 (b0 _) (fun hl2=>?_)
 refine bU (σ:=Unit) (fun i1 _=>⟨[(0,rS p3),(2,pB false),(3,pN i1)],⟨[],[]⟩⟩) (fun _=>⟨[(2,pB false)],⟨[],[]⟩⟩) (eJ H) ?_ ?_
 ·rintro i1 ⟨⟩ H
  refine gQ 8 ?_;refine cT H (fun h3 h3l H=>?_) (fun h3 H=>?_)
  ·refine gQ 9 ?_;refine bM H fun x5 z4 H=>(q1 (bI func205 (eA fu (aT p3 i1) _ z4)) ?_)
   refine gQ 2 ?_;refine bF H (fun h6 H=>gE 4) fun h6 H=>?_;exact gE 6
  exact gE 0
 rintro⟨⟩ H
 exact gE 4
def TD(fu:Nat)(p3:LB):Nat→Unit→Option (LR Unit Bool):=fun i1 _=>gd ((0:Int)≤0∧(0:Int)≤(i1:Int)∧(i1:Int)≤(p3.length:Int)) (bd (lC fu (List.drop (0:Int).toNat (List.take (i1:Int).toNat p3)) (aT p3 i1)) fun x6=>sw x6 (some (.ret false)) (some (.next ())))
def kO(fu:Nat)(p3:LB):Option Bool:=so (loopN (TD fu p3) (p3.length-0) 0 ()) fun _=>some true
theorem l9(fu:Nat)(p3:LB)(r:Bool)(H:kO fu p3=some r):bQ Tryz.prog 207 [rS p3] (pB r):=by
 refine qJ func207 H (fun C hC H=>?_)
 refine gQ 9 ?_;refine fS 0 (b0 _) (fun hl2=>?_)
 refine bU (σ:=Unit) (fun i1 _=>⟨[(0,rS p3),(2,pB false),(3,pN i1)],⟨[],[]⟩⟩) (fun _=>⟨[(2,pB false)],⟨[],[]⟩⟩) (eJ H) ?_ ?_
 ·rintro i1 ⟨⟩ H
  refine gQ 8 ?_;refine cT H (fun h3 h3l H=>?_) (fun h3 H=>?_)
  ·refine gQ 4 ?_;refine cA H fun z4 H=>(bM H fun x6 z5 H=>(dW (dI [0] bH (dI [3] bH ?_))))
   refine dI [10,11] (bD.congrP (bD.sliceR (es:=aY (p3)) (l:=0) (k:=(i1:Int)) rfl rfl rfl rfl rfl (by rw [b0];exact rfl) (by rw [b0];exact z4) ahX.h) (ag0 _ _ _)) ?_;refine dI [0] bH (dI [3] bH (dI [13,14] m9 (dI [15] vE (dI [12,16] (bI func153 (mB fu (List.drop (0:Int).toNat (List.take (i1:Int).toNat p3)) (aT p3 i1) _ z5)) (dN ?_)))))
   refine bF H (fun h7 H=>gE 4) fun h7 H=>?_;exact gE 6
  exact gE 0
 rintro⟨⟩ H
 exact gE 4
def agU(m:ByteArray→Option aA):Prop:= ∀(ps:ByteArray) (r:aA),m ps=some r→vL Tryz.prog 137 [pS ps] ⟨[],[]⟩ [] 30 3 (aA.trs (r.aBt)) (fun k=> .agg [pI r.aBw,pS r.aBs,iE r.aBt k])
theorem lP{m:ByteArray→Option aA}(h:agU m)(ps:ByteArray)(r:aA)(H:m ps=some r):bQ Tryz.prog 137 [pS ps] ((aA.pv r):PV):=(h ps r H).plain (fun _=>iX) (hp:=abF)
def nP(fu:Nat)(ps:ByteArray):Option aA:=some (aA.mk 1 ps [])
theorem kZ(fu:Nat):agU (nP fu):=by
 intro ps r H
 unfold vL
 refine qJ func137 H (fun C hC H=>?_)
 refine gQ 10 ?_;refine cO.wk (Wk.regBox (k:=0) (j:=2) 30 3 (by decide) rfl rfl) (cO.ret ?_)
 obtain rfl:_=r:=(s3 H:)
 exact PG (st':=⟨[],[⟨30,3,aA.trs ([]),false⟩]⟩) ⟨0,rfl,rfl,rfl⟩ (hr:=⟨⟨_,_,_,rfl,rfl,KT.h,rfl,rfl⟩,trivial⟩)
def agQ(m:ByteArray→(List aA)→Option aA):Prop:= ∀(ps:ByteArray) (pE:List aA) (r:aA),m ps pE=some r→vL Tryz.prog 47 [pS ps,aU pE] ⟨[],[]⟩ [] 30 3 (aA.trs (r.aBt)) (fun k=> .agg [pI r.aBw,pS r.aBs,iE r.aBt k])
theorem t8{m:ByteArray→(List aA)→Option aA}(h:agQ m)(ps:ByteArray)(pE:List aA)(r:aA)(H:m ps pE=some r):bQ Tryz.prog 47 [pS ps,aU pE] ((aA.pv r):PV):=(h ps pE r H).plain (fun _=>iX) (hp:=abF)
def jH(fu:Nat)(ps:ByteArray)(pE:List aA):Option aA:=gd (([]:List aA).length+(pE).length≤68719476736) (some (aA.mk 2 ps (([])++pE)))
theorem iM(fu:Nat):agQ (jH fu):=by
 intro ps pE r H
 unfold vL
 refine qJ func47 H (fun C hC H=>?_)
 refine gQ 7 ?_;refine q1 (nU ([]:List aA)) (q1 bH (cA H fun z1 H=>(q1 (jO z1) ?_)))
 refine gQ 3 ?_;refine cO.ret ?_
 obtain rfl:_=r:=(s3 H:)
 exact PG (st':=⟨[],[⟨30,3,aA.trs (([])++pE),false⟩]⟩) ⟨0,rfl,rfl,rfl⟩ (hr:=⟨⟨_,_,_,rfl,rfl,KT.h,rfl,rfl⟩,trivial⟩)
abbrev JW:=aB→Option aA
def T9(m:JW):Prop:= ∀(p1:aB) (r:aA),m p1=some r→bQ Tryz.prog 219 [(aB.pv p1)] ((aA.pv r):PV)
def aoF(fu:Nat)(pG:JW)(p1:aB):Nat→((List aA))→Option (LR ((List aA)) aA):=fun i11 v13=>bd (pG (aT p1.aBv i11)) fun x17=>gd ((v13).length+(([x17]:List aA)).length≤68719476736) (some (.next (v13++([x17]:List aA))))
def adB(fu:Nat)(pG:JW)(p1:aB):Option aA:=sw (!decide (p1.aBy=s_)) (gd (0<(p1.aBy).size) (sw (decide ((((ET p1.aBy 0).toNat:Int):Int)=39)) (gd ((0:Int)≤1∧(1:Int)≤(p1.aBy.size:Int)∧(p1.aBy.size:Int)≤(p1.aBy.size:Int)) (bd (nP fu (p1.aBy.extract (1:Int).toNat (p1.aBy.size:Int).toNat)) fun x6=>some x6)) (bd (jH fu p1.aBy ([])) fun x8=>some x8))) (sw (decide ((p1.aBv.length:Int)<2)) (some (aA.mk 0 s_ [])) (gd (0<(p1.aBv).length) (so (loopN (aoF fu pG p1) (p1.aBv.length-1) 1 ([])) fun v13=>sw (decide ((aT p1.aBv 0).aBy=jF)) (sw (decide ((v13.length:Int)=2)) (gd (1<(p1.aBv).length) (sw (!decide ((aT p1.aBv 1).aBy=s_)) (gd ((0:Int)≤1∧(1:Int)≤(v13.length:Int)∧(v13.length:Int)≤(v13.length:Int)) (some (aA.mk 3 ((aT p1.aBv 1).aBy) (List.drop (1:Int).toNat (List.take (v13.length:Int).toNat v13))))) (sw (decide ((aT p1.aBv 0).aBy=y1)) (some (aA.mk 2 ((aT p1.aBv 0).aBy) v13)) (some (aA.mk 2 ((aT p1.aBv 0).aBy) v13))))) (sw (decide ((aT p1.aBv 0).aBy=y1)) (sw (decide ((v13.length:Int)=1)) (gd (1<(p1.aBv).length) (sw (!decide ((aT p1.aBv 1).aBy=s_)) (some (aA.mk 4 ((aT p1.aBv 1).aBy) [])) (some (aA.mk 2 ((aT p1.aBv 0).aBy) v13)))) (some (aA.mk 2 ((aT p1.aBv 0).aBy) v13))) (some (aA.mk 2 ((aT p1.aBv 0).aBy) v13)))) (sw (decide ((aT p1.aBv 0).aBy=y1)) (sw (decide ((v13.length:Int)=1)) (gd (1<(p1.aBv).length) (sw (!decide ((aT p1.aBv 1).aBy=s_)) (some (aA.mk 4 ((aT p1.aBv 1).aBy) [])) (some (aA.mk 2 ((aT p1.aBv 0).aBy) v13)))) (some (aA.mk 2 ((aT p1.aBv 0).aBy) v13))) (some (aA.mk 2 ((aT p1.aBv 0).aBy) v13))))))
theorem aj0(fu:Nat)(pG:JW)(pQ:T9 pG):T9 (adB fu pG):=by
 intro p1 r H
 refine qJ func219 H (fun C hC H=>?_)
 refine gQ 2 ?_;refine q1 (fE ([pS p1.aBy,bK p1.aBv])) ?_;refine gQ 9 ?_;refine bF H (fun h1 H=>?_) (fun h1 H=>?_)
 ·refine gQ 5 ?_;refine cA H fun z2 H=>(q1 (bD.indexS (k:=0) rfl rfl rfl rfl z2 Tryz.underlying9) ?_)
  refine gQ 2 ?_;refine bF H (fun h3 H=>?_) (fun h3 H=>?_)
  ·refine gQ 4 ?_;refine cA H fun z4 H=>(q1 (bD.sliceS (l:=1) (k:=(p1.aBy.size:Int)) rfl rfl rfl rfl rfl z4 Tryz.underlying9) (bM H fun x6 z5 H=>(q1 (bI func137 (lP (kZ fu) (p1.aBy.extract (1:Int).toNat (p1.aBy.size:Int).toNat) _ z5)) ?_)))
   exact gE 2
  refine gQ 5 ?_;refine bM H fun x8 z7 H=>(q1 (bI func47 (t8 (iM fu) p1.aBy ([]) _ z7)) ?_)
  exact gE 2
 refine gQ 9 ?_;refine bF H (fun h9 H=>?_) (fun h9 H=>?_)
 ·have h9n:p1.aBv.length<2:=by have:=of_decide_eq_true h9;omega
  exact gE 5
 refine gQ 5 ?_;refine cA H fun z10 H=>?_;refine gQ 7 ?_;refine q1 (nU ([]:List aA)) ?_;refine gQ 7 ?_;refine fS 21 (aB.trs_len _) (fun hl14=>?_)
 refine bU (σ:=(List aA)) (fun i11 v13=>⟨[(1,.ptr 0 0),(2,.ptr 1 0),(3,pS ((aT p1.aBv 0).aBy)),(4,iE v13 0),(5,pN i11)],⟨[some ⟨189,[pS p1.aBy,bK p1.aBv]⟩,some ⟨30,[pI 0,pS s_,.nil]⟩],[⟨30,3,aA.trs (v13),false⟩]⟩⟩) (fun v13=>⟨[(1,.ptr 0 0),(2,.ptr 1 0),(3,pS ((aT p1.aBv 0).aBy)),(4,iE v13 0)],⟨[some ⟨189,[pS p1.aBy,bK p1.aBv]⟩,some ⟨30,[pI 0,pS s_,.nil]⟩],[⟨30,3,aA.trs (v13),false⟩]⟩⟩) (eJ H) ?_ ?_
 ·rintro i11 v13 H
  refine gQ 9 ?_;refine cT H (fun h15 h15l H=>?_) (fun h15 H=>?_)
  ·refine gQ 9 ?_;refine q1 (gS (aB.cs (aT p1.aBv i11))) (bM H fun x17 z16 H=>(q1 (bI func219 (pQ (aT p1.aBv i11) _ z16)) (q1 (fY ([x17]:List aA)) (cA H fun z18 H=>(q1 (jO z18) ?_)))))
   exact gE 7
  exact gE 0
 rintro v13 H
 refine gQ 7 ?_;refine dL 50 H (fun g19 H=>?_) fun g19 H=>?_
 ·refine gQ 5 ?_;refine dL 55 H (fun g20 H=>?_) fun g20 H=>?_
  ·refine gQ 2 ?_;refine cA H fun z21 H=>?_;refine gQ 7 ?_;refine bF H (fun h22 H=>?_) (fun h22 H=>?_)
   ·refine qS (cA H fun z23 H=>(dW (dI [1] bZ (dD [63] eB (dI [64] m9 (dI [65] wX (dI [66] vE (dI [4] bH ?_))))))))
    refine dI [68] (bD.congrP (bD.sliceR (es:=aA.trs (v13)) (l:=1) (k:=(v13.length:Int)) rfl rfl rfl rfl rfl (by rw [aA.trs_len];exact rfl) (by rw [aA.trs_len];exact z23) anM.h) (aA.trs_part _ _ _)) ?_;refine dI [67,69] oP (iY [2,70] hM (dN ?_))
    exact gE 0
   refine gQ 5 ?_;refine dL 74 H (fun g24 H=>?_) fun g24 H=>?_
   ·refine gQ 5 ?_
    iterate 6 refine qk (dne (b:=1) g20 (by decide)) ?_
    refine q1 (FG (dne (b:=1) g20 (by decide))) ?_;exact gE 11
   exact gE 23
  refine gQ 15 ?_;refine dL 74 H (fun g25 H=>?_) fun g25 H=>?_
  ·refine gQ 5 ?_;refine dL 79 H (fun g26 H=>?_) fun g26 H=>?_
   ·refine gQ 2 ?_;refine cA H fun z27 H=>?_;refine gQ 7 ?_;refine bF H (fun h28 H=>gE 10) fun h28 H=>?_;exact gE 8
   exact gE 18
  exact gE 23
 refine gQ 20 ?_;refine dL 74 H (fun g29 H=>?_) fun g29 H=>?_
 ·refine gQ 5 ?_;refine dL 79 H (fun g30 H=>?_) fun g30 H=>?_
  ·refine gQ 2 ?_;refine cA H fun z31 H=>?_;refine gQ 7 ?_;refine bF H (fun h32 H=>gE 10) fun h32 H=>?_;exact gE 8
  exact gE 18
 exact gE 23
def mV:Nat→aB→Option aA
 |0,_=>none
 |fu+1,p1=>adB fu (mV fu) p1
theorem amW(fu:Nat):T9 (mV fu):=by
 induction fu with
 |zero=>exact(fun p1 r H=>by simp only [mV] at H;cases H)
 |succ fu ih=>exact(fun p1 r H=>by simp only [mV] at H;exact aj0 fu (mV fu) ih p1 r H)
theorem xV(fu:Nat):T9 (mV fu):=(amW fu)
abbrev CI:=aA→Option aB
def T8(m:CI):Prop:= ∀(p1:aA) (r:aB),m p1=some r→bQ Tryz.prog 242 [(aA.pv p1)] ((aB.pv r):PV)
def aoB(fu:Nat)(p9:CI)(p1:aA):Option (aB⊕Unit):=sw (decide (p1.aBw=1)) (gd ((am1).size+(p1.aBs).size≤1099511627776) (bd (cF fu (am1++p1.aBs)) fun x4=>some (.inl x4))) (sw (decide (p1.aBw=4)) (bd (cF fu y1) fun x7=>bd (cF fu p1.aBs) fun x9=>bd (mC fu ([x7,x9]:List aB)) fun x11=>some (.inl x11)) (sw (decide (p1.aBw=2)) (sw (decide ((p1.aBt.length:Int)=0)) (bd (cF fu p1.aBs) fun x15=>some (.inl x15)) (some (.inr ()))) (some (.inr ()))))
def aoC(fu:Nat)(p9:CI)(p1:aA):Option (aB⊕((List aB))):=sw (decide (p1.aBw=3)) (bd (cF fu jF) fun x20=>gd (([]:List aB).length+(([x20]:List aB)).length≤68719476736) (some (.inr (([])++([x20]:List aB))))) (some (.inr ([])))
def aoD(fu:Nat)(p9:CI)(p1:aA)(v17:List aB)(x23:aB):Nat→((List aB))→Option (LR ((List aB)) aB):=fun i25 v27=>bd (p9 (aT p1.aBt i25)) fun x31=>gd ((v27).length+(([x31]:List aB)).length≤68719476736) (some (.next (v27++([x31]:List aB))))
def adA(fu:Nat)(p9:CI)(p1:aA):Option aB:=so (aoB fu p9 p1) fun _=>so (aoC fu p9 p1) fun v17=>bd (cF fu p1.aBs) fun x23=>gd ((v17).length+(([x23]:List aB)).length≤68719476736) (so (loopN (aoD fu p9 p1 v17 x23) (p1.aBt.length-0) 0 (v17++([x23]:List aB))) fun v27=>some (aB.mk s_ v27))
theorem ajZ(fu:Nat)(p9:CI)(pR:T8 p9):T8 (adA fu p9):=by
 intro p1 r H
 refine qJ func242 H (fun C hC H=>?_)
 refine gQ 2 ?_;refine q1 (fE (b9 p1)) ?_;refine gQ 3 ?_;refine nW (σ:=Unit) (fun _=>⟨[(1,.ptr 0 0),(2,.ptr 1 0)],⟨[some ⟨30,b9 p1⟩,some ⟨189,[pS s_,.nil]⟩],[]⟩⟩) (eJ H) (fun H=>?_) ?_
 ·refine gQ 8 ?_;refine bF H (fun h1 H=>?_) (fun h1 H=>?_)
  ·refine gQ 4 ?_;refine cA H fun z2 H=>(q1 (bD.addS rfl rfl rfl rfl (Nat.le_trans z2 (by decide))) (bM H fun x4 z3 H=>(q1 (bI func239 (b7 fu (am1++p1.aBs) _ z3)) ?_)))
   exact gE 2
  refine gQ 7 ?_;refine bF H (fun h5 H=>?_) (fun h5 H=>?_)
  ·refine qS (bM H fun x7 z6 H=>(bM H fun x9 z8 H=>(bM H fun x11 z10 H=>(dW (dI [] (bI func239 (b7 fu y1 _ z6)) (dI [1] bZ (dD [18] eB (dI [19] (bI func239 (b7 fu p1.aBs _ z8)) (dI [17,20] (fY ([x7,x9]:List aB)) (dI [21] (bI func238 (F4 (m6 fu) ([x7,x9]:List aB) _ z10)) (iY [2,22] hM (dN ?_))))))))))))
   exact gE 0
  refine gQ 6 ?_;refine dL 27 H (fun g12 H=>?_) fun g12 H=>?_
  ·refine gQ 7 ?_;refine bF H (fun h13 H=>?_) (fun h13 H=>?_)
   ·refine gQ 4 ?_;refine bM H fun x15 z14 H=>(q1 (bI func239 (b7 fu p1.aBs _ z14)) ?_)
    exact gE 2
   exact gE 1
  exact gE 9
 rintro⟨⟩ H
 refine gQ 7 ?_;refine cO.wk (Wk.regBox (k:=2) (j:=1) 189 2 (by decide) rfl rfl) ?_;refine nW (σ:=(List aB)) (fun v17=>⟨[(1,.ptr 0 0),(2,.ptr 1 0),(3,.ptr 2 0)],⟨[some ⟨30,b9 p1⟩,some ⟨189,[pS s_,.nil]⟩,some ⟨189,[pS s_,eD v17 0]⟩],[⟨189,2,aB.trs (v17),false⟩]⟩⟩) (eJ H) (fun H=>?_) ?_
 ·refine gQ 6 ?_;refine bF H (fun h18 H=>?_) (fun h18 H=>?_)
  ·refine bM H fun x20 z19 H=>(cA H fun z21 H=>(dW (dI [3] bZ (dD [40] eB (dI [] (bI func239 (b7 fu jF _ z19)) (dI [42] (fY ([x20]:List aB)) (dE [41,43] (jO z21) (dI [3] bZ (iY [45,44] hM (dN ?_))))))))))
   exact gE 0
  exact gE 1
 rintro v17 H
 refine qS (bM H fun x23 z22 H=>(cA H fun z24 H=>(dW (dI [3] bZ (dD [46] eB (dI [1] bZ (dD [48] eB (dI [49] (bI func239 (b7 fu p1.aBs _ z22)) (dI [50] (fY ([x23]:List aB)) (dE [47,51] (jO z24) (dI [3] bZ (iY [53,52] hM (dN ?_)))))))))))))
 refine gQ 5 ?_;refine cO.fact (cK 0 2 rfl rfl rfl (aA.trs_len _)) (fun hl28=>?_)
 refine bU (σ:=(List aB)) (fun i25 v27=>⟨[(1,.ptr 0 0),(2,.ptr 1 0),(3,.ptr 2 0),(4,pN i25)],⟨[some ⟨30,b9 p1⟩,some ⟨189,[pS s_,.nil]⟩,some ⟨189,[pS s_,eD v27 0]⟩],[⟨189,2,aB.trs (v27),false⟩]⟩⟩) (fun v27=>⟨[(2,.ptr 1 0),(3,.ptr 2 0)],⟨[some ⟨30,b9 p1⟩,some ⟨189,[pS s_,.nil]⟩,some ⟨189,[pS s_,eD v27 0]⟩],[⟨189,2,aB.trs (v27),false⟩]⟩⟩) (eJ H) ?_ ?_
 ·rintro i25 v27 H
  refine gQ 9 ?_;refine cT H (fun h29 h29l H=>?_) (fun h29 H=>?_)
  ·refine gQ 3 ?_;refine bM H fun x31 z30 H=>(cA H fun z32 H=>(dW (dI [3] bZ (dD [61] eB (dI [1] bZ (dD [63] eB (dI [4] bH (dI [64,65] m9 (dI [66] (gS (aA.cs (aT p1.aBt i25))) (dI [67] (bI func242 (pR (aT p1.aBt i25) _ z30)) (dI [68] (fY ([x31]:List aB)) (dE [62,69] (jO z32) (dI [3] bZ ?_)))))))))))))
   refine iY [71,70] hM (dN ?_)
   exact gE 5
  exact gE 0
 rintro v27 H
 refine gQ 2 ?_;refine q1 (b6 [pS s_,eD v27 0]) ?_;exact gE 2
def mU:Nat→aA→Option aB
 |0,_=>none
 |fu+1,p1=>adA fu (mU fu) p1
theorem amV(fu:Nat):T8 (mU fu):=by
 induction fu with
 |zero=>exact(fun p1 r H=>by simp only [mU] at H;cases H)
 |succ fu ih=>exact(fun p1 r H=>by simp only [mU] at H;exact ajZ fu (mU fu) ih p1 r H)
theorem xU(fu:Nat):T8 (mU fu):=(amV fu)
abbrev zZ:=aA→Int→Option Int
def JQ(m:zZ):Prop:= ∀(pt:aA) (pD:Int) (r:Int),m pt pD=some r→bQ Tryz.prog 264 [(aA.pv pt),pI pD] (pI r:PV)
def ajQ(fu:Nat)(pA:zZ)(pt:aA)(pD:Int):Nat→Int→Option (LR Int Int):=fun i1 v2=>sw (decide (v2≥0)) (bd (pA (aT pt.aBt i1) v2) fun x7=>some (.next x7)) (some (.brk v2))
def RW(fu:Nat)(pA:zZ)(pt:aA)(pD:Int):Option Int:=so (loopN (ajQ fu pA pt pD) (pt.aBt.length-0) 0 (aZ (pD-1))) fun v2=>some v2
theorem ac6(fu:Nat)(pA:zZ)(pM:JQ pA):JQ (RW fu pA):=by
 intro pt pD r H
 refine qJ func264 H (fun C hC H=>?_)
 refine gQ 2 ?_;refine q1 (fE (b9 pt)) ?_;refine gQ 13 ?_;refine cO.fact (cK 0 2 rfl rfl rfl (aA.trs_len _)) (fun hl3=>?_)
 refine bU (σ:=Int) (fun i1 v2=>⟨[(1,pI v2),(2,.ptr 0 0),(4,pI 0),(5,pN i1)],⟨[some ⟨30,b9 pt⟩],[]⟩⟩) (fun v2=>⟨[(1,pI v2),(4,pI 0)],⟨[some ⟨30,b9 pt⟩],[]⟩⟩) (eJ H) ?_ ?_
 ·rintro i1 v2 H
  refine gQ 9 ?_;refine AL.splitB 13 rfl (fun g4=>?_) (fun g4=>?_)
  ·have g4l:=wE g4
   have H:=lnT g4l H
   have g4n:=zT g4
   refine gQ 4 ?_;refine bF H (fun h5 H=>?_) (fun h5 H=>?_)
   ·refine gQ 8 ?_;refine q1 (gS (aA.cs (aT pt.aBt i1))) (q1 bH (bM H fun x7 z6 H=>(q1 (bI func264 (pM (aT pt.aBt i1) v2 _ z6)) ?_)))
    exact gE 7
   exact gE 0
  have H:=lnE (wD g4) H
  exact gE 5
 rintro v2 H
 exact gE 5
def qB:Nat→aA→Int→Option Int
 |0,_,_=>none
 |fu+1,pt,pD=>RW fu (qB fu) pt pD
theorem agT(fu:Nat):JQ (qB fu):=by
 induction fu with
 |zero=>exact(fun pt pD r H=>by simp only [qB] at H;cases H)
 |succ fu ih=>exact(fun pt pD r H=>by simp only [qB] at H;exact ac6 fu (qB fu) ih pt pD r H)
theorem ajS(fu:Nat):JQ (qB fu):=(agT fu)
abbrev rZ:=aA→Option Int
def zH(m:rZ):Prop:= ∀(pt:aA) (r:Int),m pt=some r→bQ Tryz.prog 265 [(aA.pv pt)] (pI r:PV)
def YJ(fu:Nat)(p7:rZ)(pt:aA):Nat→Int→Option (LR Int Int):=fun i1 v2=>bd (p7 (aT pt.aBt i1)) fun x6=>bd (O2 fu v2 (aZ (1+x6))) fun x8=>some (.next x8)
def FN(fu:Nat)(p7:rZ)(pt:aA):Option Int:=so (loopN (YJ fu p7 pt) (pt.aBt.length-0) 0 0) fun v2=>some v2
theorem TO(fu:Nat)(p7:rZ)(pL:zH p7):zH (FN fu p7):=by
 intro pt r H
 refine qJ func265 H (fun C hC H=>?_)
 refine gQ 2 ?_;refine q1 (fE (b9 pt)) ?_;refine gQ 11 ?_;refine cO.fact (cK 0 2 rfl rfl rfl (aA.trs_len _)) (fun hl3=>?_)
 refine bU (σ:=Int) (fun i1 v2=>⟨[(1,.ptr 0 0),(2,pI 0),(3,pI v2),(4,pN i1)],⟨[some ⟨30,b9 pt⟩],[]⟩⟩) (fun v2=>⟨[(2,pI 0),(3,pI v2)],⟨[some ⟨30,b9 pt⟩],[]⟩⟩) (eJ H) ?_ ?_
 ·rintro i1 v2 H
  refine gQ 9 ?_;refine cT H (fun h4 h4l H=>?_) (fun h4 H=>?_)
  ·refine gQ 9 ?_;refine q1 (gS (aA.cs (aT pt.aBt i1))) (bM H fun x6 z5 H=>(q1 (bI func265 (pL (aT pt.aBt i1) _ z5)) (q1 rAw (bM H fun x8 z7 H=>(q1 (bI func215 (Z9 fu v2 (aZ (1+x6)) _ z7)) ?_)))))
   exact gE 7
  exact gE 0
 rintro v2 H
 exact gE 5
def kF:Nat→aA→Option Int
 |0,_=>none
 |fu+1,pt=>FN fu (kF fu) pt
theorem WK(fu:Nat):zH (kF fu):=by
 induction fu with
 |zero=>exact(fun pt r H=>by simp only [kF] at H;cases H)
 |succ fu ih=>exact(fun pt r H=>by simp only [kF] at H;exact TO fu (kF fu) ih pt r H)
theorem YL(fu:Nat):zH (kF fu):=(WK fu)
def zY(fu:Nat)(ps:ByteArray):Option Bool:=sw (decide (ps=eU)) (some true) (some (decide (ps=eE)))
theorem M4(fu:Nat)(ps:ByteArray)(r:Bool)(H:zY fu ps=some r):bQ Tryz.prog 108 [pS ps] (pB r):=by
 refine qJ func108 H (fun C hC H=>?_)
 refine gQ 9 ?_;refine dL 5 H (fun g1 H=>gE 5) fun g1 H=>?_;exact gE 5
abbrev t9:=aA→Option Bool
def JP(m:t9):Prop:= ∀(p1:aA) (r:Bool),m p1=some r→bQ Tryz.prog 266 [(aA.pv p1)] (pB r:PV)
def ajM(fu:Nat)(p6:t9)(p1:aA)(x2:Bool):Option ((Bool⊕Bool)⊕Bool):=sw (decide (p1.aBw=1)) (some (.inr (decide (p1.aBw=1)))) (some (.inr (decide (p1.aBw=4))))
def ajL(fu:Nat)(p6:t9)(p1:aA)(x2:Bool):Option (Bool⊕Bool):=so (ajM fu p6 p1 x2) fun v4=>sw (v4) (sw x2 (some (.inr (decide ((p1.aBt.length:Int)=0)))) (some (.inr false))) (sw (decide (p1.aBw=3)) (sw x2 (some (.inr (decide ((p1.aBt.length:Int)=1)))) (some (.inr false))) (sw (decide (p1.aBw=2)) (sw x2 (sw (decide ((p1.aBt.length:Int)≤3)) (some (.inr true)) (bd (zY fu p1.aBs) fun x14=>sw x14 (some (.inr (decide ((p1.aBt.length:Int)=0)))) (some (.inr false)))) (bd (zY fu p1.aBs) fun x17=>sw x17 (some (.inr (decide ((p1.aBt.length:Int)=0)))) (some (.inr false)))) (some (.inl false))))
def ajN(fu:Nat)(p6:t9)(p1:aA)(x2 v3:Bool):Nat→Bool→Option (LR Bool Bool):=fun i19 v20=>sw (v20) (bd (p6 (aT p1.aBt i19)) fun x25=>some (.next x25)) (some (.next false))
def RT(fu:Nat)(p6:t9)(p1:aA):Option Bool:=bd (dT fu p1.aBs) fun x2=>so (ajL fu p6 p1 x2) fun v3=>so (loopN (ajN fu p6 p1 x2 v3) (p1.aBt.length-0) 0 v3) fun v20=>some v20
theorem ac5(fu:Nat)(p6:t9)(pO:JP p6):JP (RT fu p6):=by
 intro p1 r H
 refine qJ func266 H (fun C hC H=>?_)
 refine gQ 2 ?_;refine q1 (fE (b9 p1)) ?_;refine gQ 6 ?_;refine bM H fun x2 z1 H=>(q1 (bI func205 (eA fu p1.aBs _ z1)) ?_)
 refine gQ 3 ?_;refine nW (σ:=Bool) (fun v3=>⟨[(1,.ptr 0 0),(2,pB false),(3,pB v3)],⟨[some ⟨30,b9 p1⟩],[]⟩⟩) (eJ H) (fun H=>?_) ?_
 ·refine gQ 7 ?_;refine nW (σ:=Bool) (fun v4=>⟨[(1,.ptr 0 0),(2,pB false),(3,pB x2),(9,pI p1.aBw),(10,pB v4)],⟨[some ⟨30,b9 p1⟩],[]⟩⟩) (eJ H) (fun H=>?_) ?_
  ·refine gQ 5 ?_;refine bF H (fun h5 H=>gE 1) fun h5 H=>?_;exact gE 4
  rintro v4 H
  refine bF H (fun h6 H=>?_) (fun h6 H=>?_)
  ·refine gQ 3 ?_;refine dL 14 H (fun g7 H=>gE 7) fun g7 H=>?_;exact gE 7
  refine gQ 5 ?_;refine bF H (fun h8 H=>?_) (fun h8 H=>?_)
  ·refine gQ 3 ?_;refine dL 23 H (fun g9 H=>gE 7) fun g9 H=>?_;exact gE 7
  refine gQ 5 ?_;refine bF H (fun h10 H=>?_) (fun h10 H=>?_)
  ·refine gQ 3 ?_;refine dL 32 H (fun g11 H=>?_) fun g11 H=>?_
   ·refine gQ 6 ?_;refine dL 38 H (fun g12 H=>gE 12) fun g12 H=>?_;refine gQ 2 ?_;refine bM H fun x14 z13 H=>(qg g12 (bI func108 (M4 fu p1.aBs _ z13)) (qg g12 bH ?_))
    refine dL 42 H (fun g15 H=>gE 8) fun g15 H=>?_;exact gE 8
   refine gQ 8 ?_;refine bM H fun x17 z16 H=>(qg rfl (bI func108 (M4 fu p1.aBs _ z16)) (qg rfl bH ?_))
   refine dL 42 H (fun g18 H=>gE 8) fun g18 H=>?_;exact gE 8
  exact gE 4
 rintro v3 H
 refine gQ 5 ?_;refine cO.fact (cK 0 2 rfl rfl rfl (aA.trs_len _)) (fun hl21=>?_)
 refine bU (σ:=Bool) (fun i19 v20=>⟨[(1,.ptr 0 0),(2,pB false),(3,pB v20),(4,pN i19)],⟨[some ⟨30,b9 p1⟩],[]⟩⟩) (fun v20=>⟨[(2,pB false),(3,pB v20)],⟨[some ⟨30,b9 p1⟩],[]⟩⟩) (eJ H) ?_ ?_
 ·rintro i19 v20 H
  refine gQ 9 ?_;refine cT H (fun h22 h22l H=>?_) (fun h22 H=>?_)
  ·refine gQ 6 ?_;refine dL 57 H (fun g23 H=>?_) fun g23 H=>?_
   ·refine gQ 4 ?_;refine qg g23 (gS (aA.cs (aT p1.aBt i19))) (bM H fun x25 z24 H=>(qg g23 (bI func266 (pO (aT p1.aBt i19) _ z24)) ?_))
    exact gE 8
   exact gE 14
  exact gE 0
 rintro v20 H
 exact gE 5
def qA:Nat→aA→Option Bool
 |0,_=>none
 |fu+1,p1=>RT fu (qA fu) p1
theorem agS(fu:Nat):JP (qA fu):=by
 induction fu with
 |zero=>exact(fun p1 r H=>by simp only [qA] at H;cases H)
 |succ fu ih=>exact(fun p1 r H=>by simp only [qA] at H;exact ac5 fu (qA fu) ih p1 r H)
theorem ajP(fu:Nat):JP (qA fu):=(agS fu)
def kP(fu:Nat)(pt:aA):Option Bool:=bd (qB fu pt 60) fun x2=>sw (decide (x2≥0)) (bd (kF fu pt) fun x5=>sw (decide (x5≤6)) (bd (qA fu pt) fun x8=>some x8) (some false)) (some false)
theorem mA(fu:Nat)(pt:aA)(r:Bool)(H:kP fu pt=some r):bQ Tryz.prog 258 [(aA.pv pt)] (pB r):=by
 refine qJ func258 H (fun C hC H=>?_)
 refine gQ 2 ?_;refine q1 (fE (b9 pt)) ?_;refine gQ 4 ?_;refine q1 (b6 [pI pt.aBw,pS pt.aBs,aU pt.aBt]) (bM H fun x2 z1 H=>(q1 (bI func264 (ajS fu pt 60 _ z1)) ?_))
 refine gQ 2 ?_;refine dL 6 H (fun g3 H=>?_) fun g3 H=>?_
 ·refine qg g3 (b6 [pI pt.aBw,pS pt.aBs,aU pt.aBt]) (bM H fun x5 z4 H=>(qg g3 (bI func265 (YL fu pt _ z4)) ?_))
  refine gQ 3 ?_;refine dL 11 H (fun g6 H=>?_) fun g6 H=>?_
  ·refine qg g6 (b6 [pI pt.aBw,pS pt.aBs,aU pt.aBt]) (bM H fun x8 z7 H=>(qg g6 (bI func266 (ajP fu pt _ z7)) ?_))
   exact gE 3
  exact gE 5
 exact gE 10
abbrev kE:=aA→aA→Option Bool
abbrev qC:=(List aA)→(List aA)→Option Bool
def u4(m:kE):Prop:= ∀(pa:aA) (pb:aA) (r:Bool),m pa pb=some r→bQ Tryz.prog 38 [(aA.pv pa),(aA.pv pb)] (pB r:PV)
def JS(m:qC):Prop:= ∀(pa:List aA) (pb:List aA) (r:Bool),m pa pb=some r→bQ Tryz.prog 92 [aU pa,aU pb] (pB r:PV)
def zG(fu:Nat)(p2:kE)(p5:qC)(pa pb:aA):Option Bool:=sw (decide (pa.aBw=pb.aBw)) (sw (decide (pa.aBs=pb.aBs)) (bd (p5 pa.aBt pb.aBt) fun x4=>some x4) (some false)) (some false)
theorem TH(fu:Nat)(p2:kE)(p5:qC)(pH:u4 p2)(pK:JS p5):u4 (zG fu p2 p5):=by
 intro pa pb r H
 refine qJ func38 H (fun C hC H=>?_)
 refine gQ 2 ?_;refine q1 (fE (b9 pa)) (q1 (fE (b9 pb)) ?_)
 refine gQ 10 ?_;refine dL 10 H (fun g1 H=>?_) fun g1 H=>?_
 ·refine gQ 7 ?_;refine dL 17 H (fun g2 H=>?_) fun g2 H=>?_
  ·refine gQ 4 ?_;refine bM H fun x4 z3 H=>(qg g2 (bI func92 (pK pa.aBt pb.aBt _ z3)) ?_)
   exact gE 3
  exact gE 8
 exact gE 15
def M5(fu:Nat)(p2:kE)(p5:qC)(pa pb:List aA):Nat→Unit→Option (LR Unit Bool):=fun i2 _=>gd (i2<(pb).length) (bd (p2 (aT pa i2) (aT pb i2)) fun x7=>sw (!(x7)) (some (.ret false)) (some (.next ())))
def M6(fu:Nat)(p2:kE)(p5:qC)(pa pb:List aA):Option (Bool⊕Unit):=loopN (M5 fu p2 p5 pa pb) (pa.length-0) 0 ()
def EK(fu:Nat)(p2:kE)(p5:qC)(pa pb:List aA):Option Bool:=sw (!decide ((pa.length:Int)=(pb.length:Int))) (some false) (so (M6 fu p2 p5 pa pb) fun _=>some true)
theorem ac7(fu:Nat)(p2:kE)(p5:qC)(pH:u4 p2)(pK:JS p5):JS (EK fu p2 p5):=by
 intro pa pb r H
 refine qJ func92 H (fun C hC H=>?_)
 refine gQ 13 ?_;refine bF H (fun h1 H=>gE 4) fun h1 H=>?_;refine gQ 6 ?_;refine fS 0 (aA.trs_len _) (fun hl3=>?_)
 refine bU (σ:=Unit) (fun i2 _=>⟨[(0,aU pa),(1,aU pb),(4,pB false),(5,pN i2)],⟨[],[]⟩⟩) (fun _=>⟨[(4,pB false)],⟨[],[]⟩⟩) (eJ H) ?_ ?_
 ·rintro i2 ⟨⟩ H
  refine gQ 8 ?_;refine cT H (fun h4 h4l H=>?_) (fun h4 H=>?_)
  ·refine gQ 4 ?_;refine cA H fun z5 H=>(bM H fun x7 z6 H=>(dW (dI [0] bH (dI [5] bH (dI [17,18] m9 (dI [19] (gS (aA.cs (aT pa i2))) (dI [1] bH (dI [5] bH (dI [21,22] m9 (dI [23] (gS (aA.cs (aT pb i2))) (dI [20,24] (bI func38 (pH (aT pa i2) (aT pb i2) _ z6)) (dI [25] J6 (dN ?_)))))))))))))
   refine bF H (fun h8 H=>gE 4) fun h8 H=>?_;exact gE 6
  exact gE 0
 rintro⟨⟩ H
 exact gE 4
mutual
def fJ:Nat→aA→aA→Option Bool
 |0,_,_=>none
 |fu+1,pa,pb=>zG fu (fJ fu) (kY fu) pa pb
def kY:Nat→(List aA)→(List aA)→Option Bool
 |0,_,_=>none
 |fu+1,pa,pb=>EK fu (fJ fu) (kY fu) pa pb
end
theorem V7(fu:Nat):u4 (fJ fu)∧JS (kY fu):=by
 induction fu with
 |zero=>exact⟨(fun pa pb r H=>by simp only [fJ] at H;cases H),(fun pa pb r H=>by simp only [kY] at H;cases H)⟩
 |succ fu ih=>exact⟨(fun pa pb r H=>by simp only [fJ] at H;exact TH fu (fJ fu) (kY fu) ih.1 ih.2 pa pb r H),(fun pa pb r H=>by simp only [kY] at H;exact ac7 fu (fJ fu) (kY fu) ih.1 ih.2 pa pb r H)⟩
theorem K0(fu:Nat):u4 (fJ fu):=(V7 fu).1
abbrev wU:=aA→(LB)→Option ((LB))
def JV(m:wU):Prop:= ∀(pt:aA) (pC:LB) (r:(LB)),m pt pC=some r→cB Tryz.prog 136 [(aA.pv pt),aS pC 0] ⟨[],[⟨9,1,aY (pC),false⟩]⟩ (fun q t=>q=(aS r 0:PV)∧t=⟨[],[⟨9,1,aY (r),false⟩]⟩)
def M7(fu:Nat)(p8:wU)(pt:aA)(pC:LB):Option (((LB))⊕((LB))):=sw (decide (pt.aBw=1)) (bd (lC fu pC pt.aBs) fun x5=>sw (!(x5)) (gd ((pC).length+(([pt.aBs]:LB)).length≤68719476736) (some (.inr (pC++([pt.aBs]:LB))))) (some (.inr pC))) (some (.inr pC))
def W9(fu:Nat)(p8:wU)(pt:aA)(pC v2:LB):Nat→((LB))→Option (LR ((LB)) ((LB))):=fun i8 v10=>bd (p8 (aT pt.aBt i8) v10) fun x14=>some (.next x14)
def JU(fu:Nat)(p8:wU)(pt:aA)(pC:LB):Option ((LB)):=so (M7 fu p8 pt pC) fun v2=>so (loopN (W9 fu p8 pt pC v2) (pt.aBt.length-0) 0 v2) fun v10=>some v10
theorem ac9(fu:Nat)(p8:wU)(pP:JV p8):JV (JU fu p8):=by
 intro pt pC r H
 refine qJ func136 H (fun C hC H=>?_)
 refine gQ 2 ?_;refine q1 (fE (b9 pt)) ?_;refine gQ 3 ?_;refine nW (σ:=(LB)) (fun v2=>⟨[(1,aS v2 0),(2,.ptr 0 0),(4,.nil)],⟨[some ⟨30,b9 pt⟩],[⟨9,1,aY (v2),false⟩]⟩⟩) (eJ H) (fun H=>?_) ?_
 ·refine gQ 6 ?_;refine dL 9 H (fun g3 H=>?_) fun g3 H=>?_
  ·refine gQ 3 ?_;refine bM H fun x5 z4 H=>(qg g3 (bI func153 (mB fu pC pt.aBs _ z4)) ?_)
   refine gQ 3 ?_;refine bF H (fun h6 H=>?_) (fun h6 H=>?_)
   ·refine gQ 4 ?_;refine q1 (fY ([pt.aBs]:LB)) (cA H fun z7 H=>(q1 (jO z7) ?_))
    exact gE 2
   exact gE 1
  exact gE 9
 rintro v2 H
 refine gQ 5 ?_;refine cO.fact (cK 0 2 rfl rfl rfl (aA.trs_len _)) (fun hl11=>?_)
 refine bU (σ:=(LB)) (fun i8 v10=>⟨[(1,aS v10 0),(2,.ptr 0 0),(4,.nil),(5,pN i8)],⟨[some ⟨30,b9 pt⟩],[⟨9,1,aY (v10),false⟩]⟩⟩) (fun v10=>⟨[(1,aS v10 0),(4,.nil)],⟨[some ⟨30,b9 pt⟩],[⟨9,1,aY (v10),false⟩]⟩⟩) (eJ H) ?_ ?_
 ·rintro i8 v10 H
  refine gQ 9 ?_;refine cT H (fun h12 h12l H=>?_) (fun h12 H=>?_)
  ·refine gQ 8 ?_;refine q1 (gS (aA.cs (aT pt.aBt i8))) (q1 bH (bM H fun x14 z13 H=>(q1 (fD [] [0] func136 (pP (aT pt.aBt i8) v10 _ z13)) ?_)))
   exact gE 7
  exact gE 0
 rintro v10 H
 exact gE 5
def lQ:Nat→aA→(LB)→Option ((LB))
 |0,_,_=>none
 |fu+1,pt,pC=>JU fu (lQ fu) pt pC
theorem agV(fu:Nat):JV (lQ fu):=by
 induction fu with
 |zero=>exact(fun pt pC r H=>by simp only [lQ] at H;cases H)
 |succ fu ih=>exact(fun pt pC r H=>by simp only [lQ] at H;exact ac9 fu (lQ fu) ih pt pC r H)
theorem ajY(fu:Nat):JV (lQ fu):=(agV fu)
def nN(fu:Nat)(pt:aA):Option ((LB)):=bd (lQ fu pt ([])) fun x2=>some x2
theorem B4(fu:Nat)(pt:aA)(r:(LB))(H:nN fu pt=some r):bQ Tryz.prog 85 [(aA.pv pt)] (rS r):=by
 refine qJ func85 H (fun C hC H=>?_)
 refine gQ 2 ?_;refine q1 (fE (b9 pt)) ?_;refine gQ 4 ?_;refine q1 (b6 [pI pt.aBw,pS pt.aBs,aU pt.aBt]) (q1 (nU ([]:LB)) (bM H fun x2 z1 H=>(q1 (fD [] [0] func136 (ajY fu pt ([]) _ z1)) ?_)))
 exact gE 2
abbrev lN:=aA→Option Bool
def rY(m:lN):Prop:= ∀(pt:aA) (r:Bool),m pt=some r→bQ Tryz.prog 86 [(aA.pv pt)] (pB r:PV)
def BU(fu:Nat)(p4:lN)(pt:aA):Nat→Unit→Option (LR Unit Bool):=fun i1 _=>bd (p4 (aT pt.aBt i1)) fun x5=>sw x5 (some (.ret true)) (some (.next ()))
def rX(fu:Nat)(p4:lN)(pt:aA):Option Bool:=so (loopN (BU fu p4 pt) (pt.aBt.length-0) 0 ()) fun _=>some (decide (pt.aBw=3))
theorem KC(fu:Nat)(p4:lN)(pJ:rY p4):rY (rX fu p4):=by
 intro pt r H
 refine qJ func86 H (fun C hC H=>?_)
 refine gQ 2 ?_;refine q1 (fE (b9 pt)) ?_;refine gQ 7 ?_;refine cO.fact (cK 0 2 rfl rfl rfl (aA.trs_len _)) (fun hl2=>?_)
 refine bU (σ:=Unit) (fun i1 _=>⟨[(1,.ptr 0 0),(2,pB false),(3,pN i1)],⟨[some ⟨30,b9 pt⟩],[]⟩⟩) (fun _=>⟨[(1,.ptr 0 0),(2,pB false)],⟨[some ⟨30,b9 pt⟩],[]⟩⟩) (eJ H) ?_ ?_
 ·rintro i1 ⟨⟩ H
  refine gQ 9 ?_;refine cT H (fun h3 h3l H=>?_) (fun h3 H=>?_)
  ·refine gQ 9 ?_;refine q1 (gS (aA.cs (aT pt.aBt i1))) (bM H fun x5 z4 H=>(q1 (bI func86 (pJ (aT pt.aBt i1) _ z4)) (qN ?_)))
   refine bF H (fun h6 H=>gE 4) fun h6 H=>?_;exact gE 6
  exact gE 0
 rintro⟨⟩ H
 exact gE 7
def dM:Nat→aA→Option Bool
 |0,_=>none
 |fu+1,pt=>rX fu (dM fu) pt
theorem MI(fu:Nat):rY (dM fu):=by
 induction fu with
 |zero=>exact(fun pt r H=>by simp only [dM] at H;cases H)
 |succ fu ih=>exact(fun pt r H=>by simp only [dM] at H;exact KC fu (dM fu) ih pt r H)
theorem u5(fu:Nat):rY (dM fu):=(MI fu)
abbrev gD:=aA→ByteArray→Option Int
def mN(m:gD):Prop:= ∀(pt:aA) (pv:ByteArray) (r:Int),m pt pv=some r→bQ Tryz.prog 260 [(aA.pv pt),pS pv] (pI r:PV)
def GO(fu:Nat)(p0:gD)(pt:aA)(pv:ByteArray):Option (Int⊕Int):=sw (decide (pt.aBw=1)) (sw (decide (pt.aBs=pv)) (some (.inr 1)) (some (.inr 0))) (some (.inr 0))
def GP(fu:Nat)(p0:gD)(pt:aA)(pv:ByteArray)(v1:Int):Nat→Int→Option (LR Int Int):=fun i4 v5=>bd (p0 (aT pt.aBt i4) pv) fun x9=>some (.next (aZ (v5+x9)))
def rH(fu:Nat)(p0:gD)(pt:aA)(pv:ByteArray):Option Int:=so (GO fu p0 pt pv) fun v1=>so (loopN (GP fu p0 pt pv v1) (pt.aBt.length-0) 0 v1) fun v5=>some v5
theorem EE(fu:Nat)(p0:gD)(pF:mN p0):mN (rH fu p0):=by
 intro pt pv r H
 refine qJ func260 H (fun C hC H=>?_)
 refine gQ 2 ?_;refine q1 (fE (b9 pt)) ?_;refine gQ 7 ?_;refine nW (σ:=Int) (fun v1=>⟨[(1,pS pv),(2,.ptr 0 0),(4,pI 0),(5,pI v1)],⟨[some ⟨30,b9 pt⟩],[]⟩⟩) (eJ H) (fun H=>?_) ?_
 ·refine gQ 6 ?_;refine dL 10 H (fun g2 H=>?_) fun g2 H=>?_
  ·refine gQ 6 ?_;refine bF H (fun h3 H=>gE 3) fun h3 H=>?_;exact gE 1
  exact gE 8
 rintro v1 H
 refine gQ 5 ?_;refine cO.fact (cK 0 2 rfl rfl rfl (aA.trs_len _)) (fun hl6=>?_)
 refine bU (σ:=Int) (fun i4 v5=>⟨[(1,pS pv),(2,.ptr 0 0),(4,pI 0),(5,pI v5),(6,pN i4)],⟨[some ⟨30,b9 pt⟩],[]⟩⟩) (fun v5=>⟨[(4,pI 0),(5,pI v5)],⟨[some ⟨30,b9 pt⟩],[]⟩⟩) (eJ H) ?_ ?_
 ·rintro i4 v5 H
  refine gQ 9 ?_;refine cT H (fun h7 h7l H=>?_) (fun h7 H=>?_)
  ·refine gQ 9 ?_;refine q1 (gS (aA.cs (aT pt.aBt i4))) (q1 bH (bM H fun x9 z8 H=>(q1 (bI func260 (pF (aT pt.aBt i4) pv _ z8)) ?_)))
   exact gE 8
  exact gE 0
 rintro v5 H
 exact gE 5
def dX:Nat→aA→ByteArray→Option Int
 |0,_,_=>none
 |fu+1,pt,pv=>rH fu (dX fu) pt pv
theorem FI(fu:Nat):mN (dX fu):=by
 induction fu with
 |zero=>exact(fun pt pv r H=>by simp only [dX] at H;cases H)
 |succ fu ih=>exact(fun pt pv r H=>by simp only [dX] at H;exact EE fu (dX fu) ih pt pv r H)
theorem GS(fu:Nat):mN (dX fu):=(FI fu)
def H8(fu:Nat)(pv:ByteArray)(pt:aA):Option Bool:=bd (dX fu pt pv) fun x2=>some (decide (x2>0))
theorem abT(fu:Nat)(pv:ByteArray)(pt:aA)(r:Bool)(H:H8 fu pv pt=some r):bQ Tryz.prog 250 [pS pv,(aA.pv pt)] (pB r):=by
 refine qJ func250 H (fun C hC H=>?_)
 refine gQ 2 ?_;refine q1 (fE (b9 pt)) ?_;refine gQ 4 ?_;refine q1 (b6 [pI pt.aBw,pS pt.aBs,aU pt.aBt]) (q1 bH (bM H fun x2 z1 H=>(q1 (bI func260 (GS fu pt pv _ z1)) ?_)))
 exact gE 3
end
end Go.Proofs.YtfcoaagbccmahaaGreat.W

namespace Go.Proofs.YtfcoaagbccmahaaGreat.W
set_option maxRecDepth 20000
set_option maxHeartbeats 4000000
open Go.RowKit Go.WalkArith Go.IntWalk
def UH(fu:Nat):Prop:= ∀(p0:LB) (ps:ByteArray),Ok (lC fu p0 ps) (fun _=>True)
theorem dR:bS UH:=(bS.ge 2147483648).imp fun fu hfu p0 ps=>by
 refine GN ?_ ?_
 ·refine Ok.loop1 ?_;rintro i1 ⟨⟩ hl2
  have:=bB p0
  exact oD (fun _=>oR) fun g4=>qD
 rintro⟨⟩-
 exact oS
def XP(fu:Nat):Prop:= ∀(ps:ByteArray),Ok (CY fu ps) (fun _=>True)
theorem CQ:bS XP:=((bS.ge 2147483648).and dR).imp fun fu ⟨hfu,dR⟩ ps=>by
 have:eU.size=3:=rfl
 have:eE.size=4:=rfl
 have:jF.size=5:=rfl
 have:y1.size=3:=rfl
 have:FP.size=2:=rfl
 have:GK.size=3:=rfl
 have:yR.size=4:=rfl
 have:GL.size=3:=rfl
 have:o5.size=6:=rfl
 have:yS.size=4:=rfl
 have:qE.size=4:=rfl
 have:l0.size=5:=rfl
 have:wl ([eU,eE,jF,y1,FP,GK,yR,GL,o5,yS,qE,l0]:LB)=58:=rfl
 exact oB (dR ([eU,eE,jF,y1,FP,GK,yR,GL,o5,yS,qE,l0]:LB) ps) fun x2 _=>oS
def AA(fu:Nat):Prop:= ∀(ps:ByteArray),Ok (dT fu ps) (fun _=>True)
theorem bN:bS AA:=(((bS.ge 2147483648).and rT).and CQ).imp fun fu ⟨⟨hfu,rT⟩,CQ⟩ ps=>by
 refine oB (rT (ps.size:Int) 1 8) fun x2 _=>oW (fun _=>oS) fun g2=>oB (CQ ps) fun x5 _=>oC (fun _=>oS) fun g4=>?_;refine GN ?_ ?_
 ·refine Ok.loop1 ?_;rintro i7 ⟨⟩ hl6
  refine oG fun z8=>?_;refine oD (fun g9=>?_) fun g9=>?_
  ·refine oW (fun g10=>?_) fun g10=>?_
   ·exact oD (fun _=>oR) fun g11=>oD (fun _=>oR) fun g12=>oD (fun _=>oR) fun g13=>qD
   exact qD
  exact oD (fun _=>oR) fun g14=>oD (fun _=>oR) fun g15=>oD (fun _=>oR) fun g16=>qD
 rintro⟨⟩-
 exact oS
def UJ(fu:Nat):Prop:= ∀(p0:LB),Ok (F6 fu p0) (fun _=>True)
theorem rE:bS UJ:=((bS.ge 2147483648).and bN).imp fun fu ⟨hfu,bN⟩ p0=>by
 refine GN ?_ ?_
 ·refine Ok.loop1 ?_;rintro i1 ⟨⟩ hl2
  have:=bB p0
  have:=cW p0 i1 hl2
  have:=bA (aT p0 i1)
  exact oB (bN (aT p0 i1)) fun x5 _=>oW (fun _=>oR) fun g5=>qD
 rintro⟨⟩-
 exact oS
def GU(fu:Nat):Prop:= ∀(p0:LB),Ok (kO fu p0) (fun _=>True)
theorem eK:bS GU:=((bS.ge 2147483648).and dR).imp fun fu ⟨hfu,dR⟩ p0=>by
 refine GN ?_ ?_
 ·refine Ok.loop1 ?_;rintro i1 ⟨⟩ hl2
  have:=bB p0
  refine oG fun z4=>?_
  have:=UB (0:Int).toNat (i1:Int).toNat p0
  have:=cW p0 i1 hl2
  have:=bA (aT p0 i1)
  exact oB (dR (List.drop (0:Int).toNat (List.take (i1:Int).toNat p0)) (aT p0 i1)) fun x6 _=>oC (fun _=>oR) fun g6=>qD
 rintro⟨⟩-
 exact oS
def UL(fu:Nat):Prop:= ∀(ps:ByteArray),Ok (nP fu ps) (fun r=>wt r=ps.size)
theorem fB:bS UL:=(bS.ge 2147483648).imp fun fu hfu ps=>by
 have:=(aX:wl ([]:List aA)=0∧_)
 have:=aA.wt_mk 1 ps []
 exact oS
def UK(fu:Nat):Prop:= ∀(ps:ByteArray) (pD:List aA),ps.size+wl pD≤1073741824→Ok (jH fu ps pD) (fun r=>wt r=ps.size+wl pD)
theorem dJ:bS UK:=(bS.ge 2147483648).imp fun fu hfu ps pD hpre=>by
 have:=(aX:wl ([]:List aA)=0∧_)
 have:=bB (pD)
 refine oG fun z1=>?_
 have:=b8 ([]:List aA) pD
 have:=aA.wt_mk 2 ps (([])++pD)
 exact oS
def aaT(fu:Nat):Prop:= ∀(p3:aA),wt p3≤67108864→Ok (mU fu p3) (fun r=>wt r+1≤8*(wt p3+1))
def aaN(n:Nat)(m:CI):Prop:= ∀(p3:aA),wt p3<n→wt p3≤67108864→Ok (m p3) (fun r=>wt r+1≤8*(wt p3+1))
theorem aoE{n fu:Nat}(hfu:2147483648≤fu)(bO:IX fu)(eO:Y7 fu){pK:CI}(pP:aaN n pK):aaN (n+1) (adA fu pK):=by
 intro p3 hm hpre
 refine GN ?_ ?_
 ·have:=aA.wt_eq p3
  refine oD (fun g2=>?_) fun g2=>?_
  ·have:am1.size=1:=rfl
   refine oG fun z3=>?_
   have:=eY am1 p3.aBs
   exact oB (bO (am1++p3.aBs)) fun x4 h4=>oL
  refine oD (fun g5=>?_) fun g5=>?_
  ·have:y1.size=3:=rfl
   refine oB (bO y1) fun x7 h6=>oB (bO p3.aBs) fun x9 h7=>?_
   have:=k7 x7 x9
   exact oB (eO ([x7,x9]:List aB) bR) fun x11 h8=>oL
  refine oD (fun g9=>?_) fun g9=>?_
  ·have:=bB p3.aBt
   refine oD (fun g10=>?_) fun g10=>?_
   ·exact oB (bO p3.aBs) fun x15 h11=>oL
   exact oI
  exact oI
 rintro⟨⟩-
 refine Ok.sok (E:=fun v17=>wl v17≤6) ?_ ?_
 ·have:=aA.wt_eq p3
  refine oD (fun g13=>?_) fun g13=>?_
  ·have:jF.size=5:=rfl
   refine oB (bO jF) fun x20 h14=>?_
   have:=(aX:wl ([]:List aB)=0∧_)
   have:=cG x20
   refine oG fun z15=>?_
   have:=b8 ([]:List aB) ([x20]:List aB)
   exact oI
  have:=(aX:wl ([]:List aB)=0∧_)
  exact oI
 intro v17 h12
 have:=aA.wt_eq p3
 refine oB (bO p3.aBs) fun x23 h16=>?_
 have:=bB (v17)
 have:=cG x23
 refine oG fun z17=>?_
 have:=b8 v17 ([x23]:List aB)
 refine QP p3.aBt 8 (fun i25 v27 hl19 hI20 _ _=>?_) ?_
 ·have:=bB p3.aBt
  have:=cW p3.aBt i25 hl19
  refine oB (pP (aT p3.aBt i25) bR bR) fun x31 h21=>?_
  have:=bB (v27)
  have:=cG x31
  refine oG fun z22=>?_
  have:=b8 v27 ([x31]:List aB)
  exact qD
 intro v27 h18
 have:s_.size=0:=rfl
 have:=aB.wt_mk s_ v27
 exact oS
theorem apR(n:Nat):bS fun fu=>aaN n (mU fu):=by
 induction n with
 |zero=>exact .all fun fu=>fun _ h=>absurd h (Nat.not_lt_zero _)
 |succ n ih=>exact bS.succ ((ih.and (((bS.ge 2147483648).and bO).and eO)).imp fun fu ⟨h,⟨⟨hfu,bO⟩,eO⟩⟩=>fun p3=>by rw [mU];exact aoE hfu bO eO h p3)
theorem iT:bS aaT:=(apR 8589934592).imp fun fu h p3 hpre=>h p3 bR hpre
def alA(fu:Nat):Prop:= ∀(pt:aA) (pC:Int),wt pt≤1073741824→Ok (qB fu pt pC) (fun _=>True)
def PM(n:Nat)(m:zZ):Prop:= ∀(pt:aA) (pC:Int),wt pt<n→wt pt≤1073741824→Ok (m pt pC) (fun _=>True)
theorem ajR{n fu:Nat}(hfu:2147483648≤fu){pE:zZ}(pL:PM n pE):PM (n+1) (RW fu pE):=by
 intro pt pC hm hpre
 refine oEN (fun i1 v2 hl2=>?_) ?_
 ·have:=aA.wt_eq pt
  have:=bB pt.aBt
  refine oD (fun g4=>?_) fun g4=>?_
  ·have:=cW pt.aBt i1 hl2
   exact oB (pL (aT pt.aBt i1) v2 bR bR) fun x7 _=>qD
  exact oK
 intro v2 _
 exact oS
theorem amR(n:Nat):bS fun fu=>PM n (qB fu):=by
 induction n with
 |zero=>exact .all fun fu=>fun _ _ h=>absurd h (Nat.not_lt_zero _)
 |succ n ih=>exact bS.succ ((ih.and (bS.ge 2147483648)).imp fun fu ⟨h,hfu⟩=>fun pt pC=>by rw [qB];exact ajR hfu h pt pC)
theorem QM:bS alA:=(amR 8589934592).imp fun fu h pt pC hpre=>h pt pC bR hpre
def aaR(fu:Nat):Prop:= ∀(pt:aA),wt pt≤1073741824→Ok (kF fu pt) (fun _=>True)
def EO(n:Nat)(m:rZ):Prop:= ∀(pt:aA),wt pt<n→wt pt≤1073741824→Ok (m pt) (fun _=>True)
theorem YK{n fu:Nat}(hfu:2147483648≤fu)(sU:UI fu){p8:rZ}(pJ:EO n p8):EO (n+1) (FN fu p8):=by
 intro pt hm hpre
 refine oEN (fun i1 v2 hl2=>?_) ?_
 ·have:=aA.wt_eq pt
  have:=bB pt.aBt
  have:=cW pt.aBt i1 hl2
  refine oB (pJ (aT pt.aBt i1) bR bR) fun x6 _=>?_
  have:=eR (1+x6)
  exact oB (sU v2 (aZ (1+x6))) fun x8 _=>qD
 intro v2 _
 exact oS
theorem abW(n:Nat):bS fun fu=>EO n (kF fu):=by
 induction n with
 |zero=>exact .all fun fu=>fun _ h=>absurd h (Nat.not_lt_zero _)
 |succ n ih=>exact bS.succ ((ih.and ((bS.ge 2147483648).and sU)).imp fun fu ⟨h,⟨hfu,sU⟩⟩=>fun pt=>by rw [kF];exact YK hfu sU h pt)
theorem E9:bS aaR:=(abW 8589934592).imp fun fu h pt hpre=>h pt bR hpre
def Y9(fu:Nat):Prop:= ∀(ps:ByteArray),Ok (zY fu ps) (fun _=>True)
theorem zS:bS Y9:=(bS.ge 2147483648).imp fun fu hfu ps=>by
 exact oD (fun _=>oS) fun g1=>oS
def ak8(fu:Nat):Prop:= ∀(p3:aA),wt p3≤1073741824→Ok (qA fu p3) (fun _=>True)
def PK(n:Nat)(m:t9):Prop:= ∀(p3:aA),wt p3<n→wt p3≤1073741824→Ok (m p3) (fun _=>True)
theorem ajO{n fu:Nat}(hfu:2147483648≤fu)(bN:AA fu)(zS:Y9 fu){pF:t9}(pM:PK n pF):PK (n+1) (RT fu pF):=by
 intro p3 hm hpre
 have:=aA.wt_eq p3
 refine oB (bN p3.aBs) fun x2 _=>?_;refine GN ?_ ?_
 ·refine GN ?_ ?_
  ·exact oD (fun _=>oI) fun g4=>oI
  intro v4 _
  refine oC (fun g5=>?_) fun g5=>?_
  ·exact oC (fun _=>oI) fun g6=>oI
  refine oD (fun g7=>?_) fun g7=>?_
  ·exact oC (fun _=>oI) fun g8=>oI
  refine oD (fun g9=>?_) fun g9=>?_
  ·refine oC (fun g10=>?_) fun g10=>?_
   ·exact oD (fun _=>oI) fun g11=>oB (zS p3.aBs) fun x14 _=>oC (fun _=>oI) fun g13=>oI
   exact oB (zS p3.aBs) fun x17 _=>oC (fun _=>oI) fun g15=>oI
  exact oL
 intro v3 _
 refine oEN (fun i19 v20 hl17=>?_) ?_
 ·have:=bB p3.aBt
  refine oC (fun g19=>?_) fun g19=>?_
  ·have:=cW p3.aBt i19 hl17
   exact oB (pM (aT p3.aBt i19) bR bR) fun x25 _=>qD
  exact qD
 intro v20 _
 exact oS
theorem amQ(n:Nat):bS fun fu=>PK n (qA fu):=by
 induction n with
 |zero=>exact .all fun fu=>fun _ h=>absurd h (Nat.not_lt_zero _)
 |succ n ih=>exact bS.succ ((ih.and (((bS.ge 2147483648).and bN).and zS)).imp fun fu ⟨h,⟨⟨hfu,bN⟩,zS⟩⟩=>fun p3=>by rw [qA];exact ajO hfu bN zS h p3)
theorem QL:bS ak8:=(amQ 8589934592).imp fun fu h p3 hpre=>h p3 bR hpre
def GX(fu:Nat):Prop:= ∀(pt:aA),wt pt≤1073741824→Ok (kP fu pt) (fun _=>True)
theorem eL:bS GX:=((((bS.ge 2147483648).and QM).and E9).and QL).imp fun fu ⟨⟨⟨hfu,QM⟩,E9⟩,QL⟩ pt hpre=>by
 refine oB (QM pt 60 bR) fun x2 _=>?_;refine oD (fun g2=>?_) fun g2=>?_
 ·refine oB (E9 pt bR) fun x5 _=>?_;refine oD (fun g4=>?_) fun g4=>?_
  ·exact oB (QL pt bR) fun x8 _=>oS
  exact oS
 exact oS
def NH(fu:Nat):Prop:= ∀(pa pb:aA),wt pa≤1073741824→Ok (fJ fu pa pb) (fun _=>True)
def y2(n:Nat)(m:kE):Prop:= ∀(pa pb:aA),2*wt pa+1<n→wt pa≤1073741824→Ok (m pa pb) (fun _=>True)
def IW(n:Nat)(m:qC):Prop:= ∀(pa pb:List aA),2*wl pa<n→wl pa≤1073741824→Ok (m pa pb) (fun _=>True)
theorem YF{n fu:Nat}(hfu:2147483648≤fu){p1:kE}(p9:y2 n p1){p4:qC}(pG:IW n p4):y2 (n+1) (zG fu p1 p4):=by
 intro pa pb hm hpre
 have:=aA.wt_eq pa
 have:=aA.wt_eq pb
 refine oD (fun g1=>?_) fun g1=>?_
 ·refine oD (fun g2=>?_) fun g2=>?_
  ·exact oB (pG pa.aBt pb.aBt bR bR) fun x4 _=>oS
  exact oS
 exact oS
theorem ajU{n fu:Nat}(hfu:2147483648≤fu){p1:kE}(p9:y2 n p1){p4:qC}(pG:IW n p4):IW (n+1) (EK fu p1 p4):=by
 intro pa pb hm hpre
 have:=bB pa
 have:=bB pb
 refine oN (fun _=>oS) fun g1=>?_;refine GN ?_ ?_
 ·refine Ok.loop1 ?_;rintro i2 ⟨⟩ hl3
  have:=bB (pb)
  refine oG fun z5=>?_
  have:=cW pa i2 hl3
  have:=cW pb i2 z5
  exact oB (p9 (aT pa i2) (aT pb i2) bR bR) fun x7 _=>oW (fun _=>oR) fun g7=>qD
 rintro⟨⟩-
 exact oS
theorem abQ(n:Nat):bS fun fu=>y2 n (fJ fu)∧IW n (kY fu):=by
 induction n with
 |zero=>exact .all fun fu=>⟨fun _ _ h=>absurd h (Nat.not_lt_zero _),fun _ _ h=>absurd h (Nat.not_lt_zero _)⟩
 |succ n ih=>exact bS.succ ((ih.and (bS.ge 2147483648)).imp fun fu ⟨h,hfu⟩=>⟨fun pa pb=>by rw [fJ];exact YF hfu h.1 h.2 pa pb,fun pa pb=>by rw [kY];exact ajU hfu h.1 h.2 pa pb⟩)
theorem uQ:bS NH:=(abQ 8589934592).imp fun fu h pa pb hpre=>h.1 pa pb bR hpre
def alC(fu:Nat):Prop:= ∀(pt:aA) (p7:LB),wt pt+wl p7≤268435456→Ok (lQ fu pt p7) (fun r=>wl r≤wl p7+wt pt+1)
def PN(n:Nat)(m:wU):Prop:= ∀(pt:aA) (p7:LB),wt pt<n→wt pt+wl p7≤268435456→Ok (m pt p7) (fun r=>wl r≤wl p7+wt pt+1)
theorem ajX{n fu:Nat}(hfu:2147483648≤fu)(dR:UH fu){pH:wU}(pO:PN n pH):PN (n+1) (JU fu pH):=by
 intro pt p7 hm hpre
 have:=aA.wt_eq pt
 refine Ok.sok (E:=fun v2=>wl v2+wl pt.aBt≤wl p7+wt pt+1) ?_ ?_
 ·refine oD (fun g2=>?_) fun g2=>?_
  ·refine oB (dR p7 pt.aBs) fun x5 _=>?_;refine oW (fun g4=>?_) fun g4=>?_
   ·have:=bB (p7)
    have:=cG pt.aBs
    have:=bA pt.aBs
    refine oG fun z5=>?_
    have:=b8 p7 ([pt.aBs]:LB)
    exact oI
   exact oI
  exact oI
 intro v2 h1
 refine QP pt.aBt 1 (fun i8 v10 hl7 hI8 _ _=>?_) ?_
 ·have:=bB pt.aBt
  have:=cW pt.aBt i8 hl7
  exact oB (pO (aT pt.aBt i8) v10 bR bR) fun x14 h9=>qD
 intro v10 h6
 exact oS
theorem amU(n:Nat):bS fun fu=>PN n (lQ fu):=by
 induction n with
 |zero=>exact .all fun fu=>fun _ _ h=>absurd h (Nat.not_lt_zero _)
 |succ n ih=>exact bS.succ ((ih.and ((bS.ge 2147483648).and dR)).imp fun fu ⟨h,⟨hfu,dR⟩⟩=>fun pt p7=>by rw [lQ];exact ajX hfu dR h pt p7)
theorem QN:bS alC:=(amU 8589934592).imp fun fu h pt p7 hpre=>h pt p7 bR hpre
def PQ(fu:Nat):Prop:= ∀(pt:aA),wt pt≤268435456→Ok (nN fu pt) (fun r=>wl r≤wt pt+1)
theorem vY:bS PQ:=((bS.ge 2147483648).and QN).imp fun fu ⟨hfu,QN⟩ pt hpre=>by
 have:=(aX:wl ([]:LB)=0∧_)
 exact oB (QN pt ([]:LB) bR) fun x2 h1=>oS
def PP(fu:Nat):Prop:= ∀(pt:aA),wt pt≤1073741824→Ok (dM fu pt) (fun _=>True)
def vM(n:Nat)(m:lN):Prop:= ∀(pt:aA),wt pt<n→wt pt≤1073741824→Ok (m pt) (fun _=>True)
theorem OS{n fu:Nat}(hfu:2147483648≤fu){p5:lN}(pA:vM n p5):vM (n+1) (rX fu p5):=by
 intro pt hm hpre
 refine GN ?_ ?_
 ·refine Ok.loop1 ?_;rintro i1 ⟨⟩ hl2
  have:=aA.wt_eq pt
  have:=bB pt.aBt
  have:=cW pt.aBt i1 hl2
  exact oB (pA (aT pt.aBt i1) bR bR) fun x5 _=>oC (fun _=>oR) fun g5=>qD
 rintro⟨⟩-
 exact oS
theorem QX(n:Nat):bS fun fu=>vM n (dM fu):=by
 induction n with
 |zero=>exact .all fun fu=>fun _ h=>absurd h (Nat.not_lt_zero _)
 |succ n ih=>exact bS.succ ((ih.and (bS.ge 2147483648)).imp fun fu ⟨h,hfu⟩=>fun pt=>by rw [dM];exact OS hfu h pt)
theorem lL:bS PP:=(QX 8589934592).imp fun fu h pt hpre=>h pt bR hpre
def GV(fu:Nat):Prop:= ∀(pt:aA) (pv:ByteArray),wt pt+pv.size≤1073741824→Ok (dX fu pt pv) (fun _=>True)
def qQ(n:Nat)(m:gD):Prop:= ∀(pt:aA) (pv:ByteArray),wt pt<n→wt pt+pv.size≤1073741824→Ok (m pt pv) (fun _=>True)
theorem GQ{n fu:Nat}(hfu:2147483648≤fu){p2:gD}(p6:qQ n p2):qQ (n+1) (rH fu p2):=by
 intro pt pv hm hpre
 refine GN ?_ ?_
 ·refine oD (fun g2=>?_) fun g2=>?_
  ·exact oD (fun _=>oI) fun g3=>oI
  exact oI
 intro v1 _
 refine oEN (fun i4 v5 hl5=>?_) ?_
 ·have:=aA.wt_eq pt
  have:=bB pt.aBt
  have:=cW pt.aBt i4 hl5
  exact oB (p6 (aT pt.aBt i4) pv bR bR) fun x9 _=>qD
 intro v5 _
 exact oS
theorem H7(n:Nat):bS fun fu=>qQ n (dX fu):=by
 induction n with
 |zero=>exact .all fun fu=>fun _ _ h=>absurd h (Nat.not_lt_zero _)
 |succ n ih=>exact bS.succ ((ih.and (bS.ge 2147483648)).imp fun fu ⟨h,hfu⟩=>fun pt pv=>by rw [dX];exact GQ hfu h pt pv)
theorem rC:bS GV:=(H7 8589934592).imp fun fu h pt pv hpre=>h pt pv bR hpre
def adM(fu:Nat):Prop:= ∀(pv:ByteArray) (pt:aA),pv.size+wt pt≤1073741824→Ok (H8 fu pv pt) (fun _=>True)
theorem HN:bS adM:=((bS.ge 2147483648).and rC).imp fun fu ⟨hfu,rC⟩ pv pt hpre=>by
 exact oB (rC pt pv bR) fun x2 _=>oS
end Go.Proofs.YtfcoaagbccmahaaGreat.W

namespace Go.Proofs.YtfcoaagbccmahaaGreat.W
set_option maxRecDepth 100000
set_option maxHeartbeats 40000000
noncomputable section
open Tryz Go.RowKit Go.Proofs
attribute [local irreducible] lt
def K2(fu:Nat)(pn:Int):(Int×ByteArray)→Option (LR (Int×ByteArray) ByteArray):=fun(v2,v3)=>sw (!decide (v2=0)) (sw (decide (((v2).tmod 10:Int)<0)) (gd ((bytesStr ([(IS (aZ (48+(aZ (0-((v2).tmod 10))))))]:List UInt8)).size+(v3).size≤1099511627776) (some (.next ((aZ ((v2).tdiv 10)),((bytesStr ([(IS (aZ (48+(aZ (0-((v2).tmod 10))))))]:List UInt8))++v3))))) (gd ((bytesStr ([(IS (aZ (48+((v2).tmod 10))))]:List UInt8)).size+(v3).size≤1099511627776) (some (.next ((aZ ((v2).tdiv 10)),((bytesStr ([(IS (aZ (48+((v2).tmod 10))))]:List UInt8))++v3)))))) (some (.brk (v2,v3)))
def n7(fu:Nat)(pn:Int):Option ByteArray:=sw (decide (pn=0)) (some s_0) (so (loopW (K2 fu pn) fu (pn,s_)) fun(v2,v3)=>sw (decide (pn<0)) (gd ((GT).size+(v3).size≤1099511627776) (some (GT++v3))) (some v3))
theorem CX(fu:Nat)(pn:Int)(r:ByteArray)(H:n7 fu pn=some r):bQ Tryz.prog 255 [pI pn] (pS r):=by
 refine qJ func255 H (fun C hC H=>?_)
 refine gQ 10 ?_;refine bF H (fun h1 H=>gE 4) fun h1 H=>?_;refine gQ 12 ?_;refine SC (σ:=Int×ByteArray) (fun(v2,v3)=>⟨[(0,pI v2),(2,pS s_),(3,pB (decide (pn<0))),(4,pS v3)],⟨[],[]⟩⟩) (fun(v2,v3)=>⟨[(2,pS s_),(3,pB (decide (pn<0))),(4,pS v3)],⟨[],[]⟩⟩) (eJ H) ?_ ?_
 ·rintro k4 ⟨v2,v3⟩ H
  refine gQ 6 ?_;refine bF H (fun h5 H=>?_) (fun h5 H=>?_)
  ·refine gQ 5 ?_;refine q1 (bD.remI (a:=v2) (b:=10) rfl rfl rfl rfl (by decide)) ?_;refine gQ 8 ?_;refine bF H (fun h6 H=>?_) (fun h6 H=>?_)
   ·refine gQ 9 ?_;refine q1 (bD.convU8 (a:=aZ (48+(aZ (0-((v2).tmod 10))))) rfl rfl rfl ⟨_,Tryz.underlying3⟩ Tryz.underlying5) (q1 (fY ([(IS (aZ (48+(aZ (0-((v2).tmod 10))))))]:List UInt8)) (q1 (bD.bytesStr rfl rfl rfl rfl Tryz.underlying22 Tryz.underlying5 Tryz.underlying9) (q1 bH (cA H fun z7 H=>(q1 (bD.addS rfl rfl rfl rfl (Nat.le_trans z7 (by decide))) ?_)))))
    refine gQ 4 ?_;refine q1 (bD.quoI (a:=v2) (b:=10) rfl rfl rfl rfl (by decide)) ?_;exact gE 2
   refine gQ 5 ?_;refine q1 (bD.convU8 (a:=aZ (48+((v2).tmod 10))) rfl rfl rfl ⟨_,Tryz.underlying3⟩ Tryz.underlying5) (q1 (fY ([(IS (aZ (48+((v2).tmod 10))))]:List UInt8)) (q1 (bD.bytesStr rfl rfl rfl rfl Tryz.underlying22 Tryz.underlying5 Tryz.underlying9) (q1 bH (cA H fun z8 H=>(q1 (bD.addS rfl rfl rfl rfl (Nat.le_trans z8 (by decide))) ?_)))))
   refine gQ 4 ?_;refine q1 (bD.quoI (a:=v2) (b:=10) rfl rfl rfl rfl (by decide)) ?_;exact gE 2
  exact gE 0
 rintro⟨v2,v3⟩ H
 refine gQ 5 ?_;refine bF H (fun h9 H=>?_) (fun h9 H=>?_)
 ·refine gQ 3 ?_;refine cA H fun z10 H=>(q1 (bD.addS rfl rfl rfl rfl (Nat.le_trans z10 (by decide))) ?_)
  exact gE 2
 exact gE 6
def WW(fu:Nat)(ps:ByteArray)(p9:Int):Option ((Int×Bool)⊕ByteArray):=sw (decide ((((ET ps 0).toNat:Int):Int)=45)) (gd ((0:Int)≤1∧(1:Int)≤(ps.size:Int)∧(ps.size:Int)≤(ps.size:Int)) (some (.inr (ps.extract (1:Int).toNat (ps.size:Int).toNat)))) (some (.inr ps))
def WY(fu:Nat)(ps:ByteArray)(p9:Int)(v3:ByteArray):Nat→Int→Option (LR Int (Int×Bool)):=fun i8 v9=>gd (i8<(v3).size) (sw (decide ((((ET v3 i8).toNat:Int):Int)<48)) (some (.ret (0,false))) (sw (decide ((((ET v3 i8).toNat:Int):Int)>57)) (some (.ret (0,false))) (some (.next (aZ ((aZ (10*v9))+((IS (((ET v3 i8).toNat:Int)-48)).toNat:Int)))))))
def WX(fu:Nat)(ps:ByteArray)(p9:Int)(v3:ByteArray)(v9:Int):Option ((Int×Bool)⊕Int):=sw (decide ((((ET ps 0).toNat:Int):Int)=45)) (some (.inr (aZ (0-v9)))) (some (.inr v9))
def WZ(fu:Nat)(ps:ByteArray)(p9:Int):Nat→Int→Option (LR Int (Int×Bool)):=fun i22 v23=>gd (i22<(ps).size) (sw (decide ((((ET ps i22).toNat:Int):Int)<48)) (some (.ret (0,false))) (sw (decide ((((ET ps i22).toNat:Int):Int)>57)) (some (.ret (0,false))) (some (.next (aZ ((aZ (10*v23))+((IS (((ET ps i22).toNat:Int)-48)).toNat:Int)))))))
def RQ(fu:Nat)(ps:ByteArray)(p9:Int):Option (Int×Bool):=sw (decide ((ps.size:Int)>0)) (gd (0<(ps).size) (so (WW fu ps p9) fun v3=>sw (decide ((v3.size:Int)<1)) (some (0,false)) (sw (decide ((v3.size:Int)>p9)) (some (0,false)) (so (loopN (WY fu ps p9 v3) (v3.size-0) 0 0) fun v9=>so (WX fu ps p9 v3 v9) fun v15=>bd (n7 fu v15) fun x18=>sw (!decide (x18=ps)) (some (0,false)) (some (v15,true)))))) (sw (decide ((ps.size:Int)<1)) (some (0,false)) (sw (decide ((ps.size:Int)>p9)) (some (0,false)) (so (loopN (WZ fu ps p9) (ps.size-0) 0 0) fun v23=>bd (n7 fu v23) fun x30=>sw (!decide (x30=ps)) (some (0,false)) (some (v23,true)))))
theorem ajA(fu:Nat)(ps:ByteArray)(p9:Int)(r:Int×Bool)(H:RQ fu ps p9=some r):bQ Tryz.prog 253 [pS ps,pI p9] (.tup [pI r.1,pB r.2]):=by
 refine qJ func253 H (fun C hC H=>?_)
 refine gQ 8 ?_;refine q1 (bD.lenS rfl rfl rfl Tryz.underlying9) ?_;refine gQ 2 ?_;refine dL 13 H (fun g1 H=>?_) fun g1 H=>?_
 ·refine qg g1 bH (cA H fun z2 H=>(qg g1 (bD.indexS (k:=0) rfl rfl rfl rfl z2 Tryz.underlying9) ?_))
  refine gQ 10 ?_;refine nW (σ:=ByteArray) (fun v3=>⟨[(0,pS ps),(1,pI p9),(4,pI 0),(5,pB false),(6,pB (decide ((((ET ps 0).toNat:Int):Int)=45))),(7,pS v3)],⟨[],[]⟩⟩) (eJ H) (fun H=>?_) ?_
  ·refine gQ 4 ?_;refine bF H (fun h4 H=>?_) (fun h4 H=>?_)
   ·refine gQ 2 ?_;refine cA H fun z5 H=>(q1 (bD.sliceS (l:=1) (k:=(ps.size:Int)) rfl rfl rfl rfl rfl z5 Tryz.underlying9) ?_)
    exact gE 2
   exact gE 1
  rintro v3 H
  refine gQ 4 ?_;refine q1 (bD.lenS rfl rfl rfl Tryz.underlying9) ?_;refine gQ 2 ?_;refine dL 25 H (fun g6 H=>?_) fun g6 H=>?_
  ·have g6n:v3.size<1:=by have:=of_decide_eq_true g6;omega
   exact gE 12
  refine qg g6 bH (qg g6 (bD.lenS rfl rfl rfl Tryz.underlying9) ?_)
  refine gQ 4 ?_;refine bF H (fun h7 H=>gE 5) fun h7 H=>?_;refine gQ 10 ?_;refine szF 7 (fun hl10=>?_)
  refine bU (σ:=Int) (fun i8 v9=>⟨[(0,pS ps),(4,pI 0),(5,pB false),(6,pB (decide ((((ET ps 0).toNat:Int):Int)=45))),(7,pS v3),(8,pI v9),(9,pN i8)],⟨[],[]⟩⟩) (fun v9=>⟨[(0,pS ps),(4,pI 0),(5,pB false),(6,pB (decide ((((ET ps 0).toNat:Int):Int)=45))),(8,pI v9)],⟨[],[]⟩⟩) (eJ H) ?_ ?_
  ·rintro i8 v9 H
   refine gQ 5 ?_;refine q1 (bD.lenS rfl rfl rfl Tryz.underlying9) ?_;refine gQ 2 ?_;refine cT H (fun h11 h11l H=>?_) (fun h11 H=>?_)
   ·have h11n:i8<v3.size:=by have:=of_decide_eq_true h11;omega
    refine gQ 8 ?_;refine cA H fun z12 H=>(q1 (bD.indexS (k:=i8) rfl rfl rfl rfl z12 Tryz.underlying9) ?_)
    refine gQ 2 ?_;refine dL 41 H (fun g13 H=>gE 12) fun g13 H=>?_;refine gQ 2 ?_;refine qg g13 (bD.indexS (k:=i8) rfl rfl rfl rfl z12 Tryz.underlying9) ?_;refine gQ 3 ?_;refine bF H (fun h14 H=>gE 5) fun h14 H=>?_;refine gQ 3 ?_;refine q1 (bD.mulW rfl rfl rfl rfl) ?_;refine gQ 2 ?_;refine q1 (bD.indexS (k:=i8) rfl rfl rfl rfl z12 Tryz.underlying9) (q1 (bD.subU8 rfl rfl rfl rfl) ?_)
    refine q1 (bD.convI rfl rfl rfl ⟨_,Tryz.underlying5⟩ Tryz.underlying3 (by first|omega|(have:=UInt8.toNat_lt (IS (((ET v3 i8).toNat:Int)-48));omega)) (by first|omega|(have:=UInt8.toNat_lt (IS (((ET v3 i8).toNat:Int)-48));omega))) ?_;exact gE 8
   exact gE 0
  rintro v9 H
  refine qS ?_;refine nW (σ:=Int) (fun v15=>⟨[(0,pS ps),(4,pI 0),(5,pB false),(8,pI v15)],⟨[],[]⟩⟩) (eJ H) (fun H=>?_) ?_
  ·refine gQ 4 ?_;refine bF H (fun h16 H=>gE 5) fun h16 H=>?_;exact gE 1
  rintro v15 H
  refine gQ 4 ?_;refine bM H fun x18 z17 H=>(q1 (bI func255 (CX fu v15 _ z17)) ?_)
  refine gQ 3 ?_;refine bF H (fun h19 H=>gE 5) fun h19 H=>?_;exact gE 7
 refine gQ 22 ?_;refine q1 (bD.lenS rfl rfl rfl Tryz.underlying9) ?_;refine gQ 2 ?_;refine dL 25 H (fun g20 H=>?_) fun g20 H=>?_
 ·have g20n:ps.size<1:=by have:=of_decide_eq_true g20;omega
  exact gE 12
 refine qg g20 bH (qg g20 (bD.lenS rfl rfl rfl Tryz.underlying9) ?_)
 refine gQ 4 ?_;refine bF H (fun h21 H=>gE 5) fun h21 H=>?_;refine gQ 10 ?_;refine szF 0 (fun hl24=>?_)
 refine bU (σ:=Int) (fun i22 v23=>⟨[(0,pS ps),(4,pI 0),(5,pB false),(6,pB false),(7,pS ps),(8,pI v23),(9,pN i22)],⟨[],[]⟩⟩) (fun v23=>⟨[(0,pS ps),(4,pI 0),(5,pB false),(6,pB false),(8,pI v23)],⟨[],[]⟩⟩) (eJ H) ?_ ?_
 ·rintro i22 v23 H
  refine gQ 5 ?_;refine q1 (bD.lenS rfl rfl rfl Tryz.underlying9) ?_;refine gQ 2 ?_;refine cT H (fun h25 h25l H=>?_) (fun h25 H=>?_)
  ·have h25n:i22<ps.size:=by have:=of_decide_eq_true h25;omega
   refine gQ 8 ?_;refine cA H fun z26 H=>(q1 (bD.indexS (k:=i22) rfl rfl rfl rfl z26 Tryz.underlying9) ?_)
   refine gQ 2 ?_;refine dL 41 H (fun g27 H=>gE 12) fun g27 H=>?_;refine gQ 2 ?_;refine qg g27 (bD.indexS (k:=i22) rfl rfl rfl rfl z26 Tryz.underlying9) ?_;refine gQ 3 ?_;refine bF H (fun h28 H=>gE 5) fun h28 H=>?_;refine gQ 3 ?_;refine q1 (bD.mulW rfl rfl rfl rfl) ?_;refine gQ 2 ?_;refine q1 (bD.indexS (k:=i22) rfl rfl rfl rfl z26 Tryz.underlying9) (q1 (bD.subU8 rfl rfl rfl rfl) ?_)
   refine q1 (bD.convI rfl rfl rfl ⟨_,Tryz.underlying5⟩ Tryz.underlying3 (by first|omega|(have:=UInt8.toNat_lt (IS (((ET ps i22).toNat:Int)-48));omega)) (by first|omega|(have:=UInt8.toNat_lt (IS (((ET ps i22).toNat:Int)-48));omega))) ?_;exact gE 8
  exact gE 0
 rintro v23 H
 refine gQ 11 ?_;refine bM H fun x30 z29 H=>(q1 (bI func255 (CX fu v23 _ z29)) ?_)
 refine gQ 3 ?_;refine bF H (fun h31 H=>gE 5) fun h31 H=>?_;exact gE 7
def BW(fu:Nat)(ps:ByteArray):Option (Int×Bool):=bd (RQ fu ps 12) fun(x2,x3)=>some (x2,x3)
theorem abU(fu:Nat)(ps:ByteArray)(r:Int×Bool)(H:BW fu ps=some r):bQ Tryz.prog 235 [pS ps] (.tup [pI r.1,pB r.2]):=by
 refine qJ func235 H (fun C hC H=>?_)
 refine gQ 8 ?_;refine eF H fun x2 x3 z1 H=>(q1 (bI func253 (ajA fu ps 12 _ z1)) ?_)
 exact gE 5
def t6(fu:Nat)(pn:Int):Option aM:=some (aM.mk 1 s_ s_ pn (aA.mk 0 s_ []) [] [])
theorem wJ(fu:Nat)(pn:Int)(r:aM)(H:t6 fu pn=some r):bQ Tryz.prog 192 [pI pn] ((aM.pv r)):=by
 refine qJ func192 H (fun C hC H=>?_)
 exact gE 10
def wL(fu:Nat)(ps:ByteArray):Option aM:=some (aM.mk 3 s_ ps 0 (aA.mk 0 s_ []) [] [])
theorem A5(fu:Nat)(ps:ByteArray)(r:aM)(H:wL fu ps=some r):bQ Tryz.prog 191 [pS ps] ((aM.pv r)):=by
 refine qJ func191 H (fun C hC H=>?_)
 exact gE 10
def rL(fu:Nat)(pa pb:Int):Option Int:=sw (decide (pa<pb)) (some pa) (some pb)
theorem r8(fu:Nat)(pa:Int)(pb:Int)(r:Int)(H:rL fu pa pb=some r):bQ Tryz.prog 234 [pI pa,pI pb] (pI r):=by
 refine qJ func234 H (fun C hC H=>?_)
 refine gQ 11 ?_;refine bF H (fun h1 H=>gE 5) fun h1 H=>?_;exact gE 6
abbrev j0:=aB→Option aM
abbrev iJ:=(List aB)→Option ((List aM))
abbrev lO:=aB→Option bV
def wM(m:j0):Prop:= ∀(p1:aB) (r:aM),m p1=some r→bQ Tryz.prog 220 [(aB.pv p1)] ((aM.pv r):PV)
def xR(m:iJ):Prop:= ∀(p6:List aB) (r:(List aM)),m p6=some r→bQ Tryz.prog 236 [bK p6] (iI r:PV)
def EG(m:lO):Prop:= ∀(px:aB) (r:bV),m px=some r→bQ Tryz.prog 237 [(aB.pv px)] ((bV.pv r):PV)
def af6(fu:Nat)(p3:j0)(p0:iJ)(p4:lO)(p1 y15 y18:aB)(x67:Int)(x70:List aM):Nat→((List bV))→Option (LR ((List bV)) aM):=fun i71 v73=>bd (p4 (aT p1.aBv i71)) fun x77=>gd ((v73).length+(([x77]:List bV)).length≤68719476736) (some (.next (v73++([x77]:List bV))))
def MT(fu:Nat)(p3:j0)(p0:iJ)(p4:lO)(p1:aB):Option aM:=sw (!decide (p1.aBy=s_)) (bd (BW fu p1.aBy) fun(x3,x4)=>sw x4 (bd (t6 fu x3) fun x7=>some x7) (sw (decide (p1.aBy=qE)) (some (aM.mk 2 s_ s_ 1 (aA.mk 0 s_ []) [] [])) (sw (decide (p1.aBy=l0)) (some (aM.mk 2 s_ s_ 0 (aA.mk 0 s_ []) [] [])) (bd (wL fu p1.aBy) fun x11=>some x11)))) (gd (([]:List aB).length+(p1.aBv).length≤68719476736) (gd ((([])++p1.aBv).length+(([(aB.mk s_ []),(aB.mk s_ []),(aB.mk s_ [])]:List aB)).length≤68719476736) (gd (1<((([])++p1.aBv)++([(aB.mk s_ []),(aB.mk s_ []),(aB.mk s_ [])]:List aB)).length) (lt (aT ((([])++p1.aBv)++([(aB.mk s_ []),(aB.mk s_ []),(aB.mk s_ [])]:List aB)) 1) fun y15=>gd (0<((([])++p1.aBv)++([(aB.mk s_ []),(aB.mk s_ []),(aB.mk s_ [])]:List aB)).length) (lt (aT ((([])++p1.aBv)++([(aB.mk s_ []),(aB.mk s_ []),(aB.mk s_ [])]:List aB)) 0) fun y18=>sw (decide (y18.aBy=RF)) (bd (rL fu 2 (p1.aBv.length:Int)) fun x22=>gd ((0:Int)≤x22∧(x22:Int)≤(p1.aBv.length:Int)∧(p1.aBv.length:Int)≤(p1.aBv.length:Int)) (bd (p0 (List.drop (x22:Int).toNat (List.take (p1.aBv.length:Int).toNat p1.aBv))) fun x25=>some (aM.mk 4 s_ y15.aBy 0 (aA.mk 0 s_ []) x25 []))) (sw (decide (y18.aBy=o5)) (gd (2<((([])++p1.aBv)++([(aB.mk s_ []),(aB.mk s_ []),(aB.mk s_ [])]:List aB)).length) (lt (aT ((([])++p1.aBv)++([(aB.mk s_ []),(aB.mk s_ []),(aB.mk s_ [])]:List aB)) 2) fun y28=>bd (rL fu 3 (p1.aBv.length:Int)) fun x31=>gd ((0:Int)≤x31∧(x31:Int)≤(p1.aBv.length:Int)∧(p1.aBv.length:Int)≤(p1.aBv.length:Int)) (bd (p0 (List.drop (x31:Int).toNat (List.take (p1.aBv.length:Int).toNat p1.aBv))) fun x34=>some (aM.mk 5 y15.aBy y28.aBy 0 (aA.mk 0 s_ []) x34 [])))) (sw (decide (y18.aBy=GL)) (bd (rL fu 2 (p1.aBv.length:Int)) fun x37=>gd ((0:Int)≤x37∧(x37:Int)≤(p1.aBv.length:Int)∧(p1.aBv.length:Int)≤(p1.aBv.length:Int)) (bd (p0 (List.drop (x37:Int).toNat (List.take (p1.aBv.length:Int).toNat p1.aBv))) fun x40=>some (aM.mk 6 s_ y15.aBy 0 (aA.mk 0 s_ []) x40 []))) (sw (decide (y18.aBy=GK)) (bd (rL fu 2 (p1.aBv.length:Int)) fun x43=>gd ((0:Int)≤x43∧(x43:Int)≤(p1.aBv.length:Int)∧(p1.aBv.length:Int)≤(p1.aBv.length:Int)) (bd (p0 (List.drop (x43:Int).toNat (List.take (p1.aBv.length:Int).toNat p1.aBv))) fun x46=>some (aM.mk 8 s_ y15.aBy 0 (aA.mk 0 s_ []) x46 []))) (sw (decide (y18.aBy=FP)) (gd ((0:Int)≤1∧(1:Int)≤(p1.aBv.length:Int)∧(p1.aBv.length:Int)≤(p1.aBv.length:Int)) (bd (p0 (List.drop (1:Int).toNat (List.take (p1.aBv.length:Int).toNat p1.aBv))) fun x50=>some (aM.mk 9 s_ s_ 0 (aA.mk 0 s_ []) x50 []))) (sw (decide (y18.aBy=yS)) (bd (rL fu 2 (p1.aBv.length:Int)) fun x53=>gd ((0:Int)≤x53∧(x53:Int)≤(p1.aBv.length:Int)∧(p1.aBv.length:Int)≤(p1.aBv.length:Int)) (bd (p0 (List.drop (x53:Int).toNat (List.take (p1.aBv.length:Int).toNat p1.aBv))) fun x56=>some (aM.mk 11 y15.aBy s_ 0 (aA.mk 0 s_ []) x56 []))) (sw (decide (y18.aBy=Z6)) (bd (mV fu y15) fun x59=>bd (rL fu 2 (p1.aBv.length:Int)) fun x61=>gd ((0:Int)≤x61∧(x61:Int)≤(p1.aBv.length:Int)∧(p1.aBv.length:Int)≤(p1.aBv.length:Int)) (bd (p0 (List.drop (x61:Int).toNat (List.take (p1.aBv.length:Int).toNat p1.aBv))) fun x64=>some (aM.mk 12 s_ s_ 0 x59 x64 []))) (sw (decide (y18.aBy=yR)) (bd (rL fu 2 (p1.aBv.length:Int)) fun x67=>gd ((0:Int)≤1∧(1:Int)≤x67∧(x67:Int)≤(p1.aBv.length:Int)) (bd (p0 (List.drop (1:Int).toNat (List.take (x67:Int).toNat p1.aBv))) fun x70=>so (loopN (af6 fu p3 p0 p4 p1 y15 y18 x67 x70) (p1.aBv.length-2) 2 ([])) fun v73=>some (aM.mk 7 s_ s_ 0 (aA.mk 0 s_ []) x70 v73))) (bd (rL fu 1 (p1.aBv.length:Int)) fun x80=>gd ((0:Int)≤x80∧(x80:Int)≤(p1.aBv.length:Int)∧(p1.aBv.length:Int)≤(p1.aBv.length:Int)) (bd (p0 (List.drop (x80:Int).toNat (List.take (p1.aBv.length:Int).toNat p1.aBv))) fun x83=>some (aM.mk 10 s_ y18.aBy 0 (aA.mk 0 s_ []) x83 [])))))))))))))))
theorem YS(fu:Nat)(p3:j0)(p0:iJ)(p4:lO)(pC:wM p3)(p5:xR p0)(pD:EG p4):wM (MT fu p3 p0 p4):=by
 intro p1 r H
 refine qJ func220 H (fun C hC H=>?_)
 refine gQ 2 ?_;refine q1 (fE ([pS p1.aBy,bK p1.aBv])) ?_;refine gQ 9 ?_;refine bF H (fun h1 H=>?_) (fun h1 H=>?_)
 ·refine gQ 4 ?_;refine eF H fun x3 x4 z2 H=>(q1 (bI func235 (abU fu p1.aBy _ z2)) ?_)
  refine gQ 13 ?_;refine bF H (fun h5 H=>?_) (fun h5 H=>?_)
  ·refine gQ 3 ?_;refine bM H fun x7 z6 H=>(q1 (bI func192 (wJ fu x3 _ z6)) ?_)
   exact gE 2
  refine gQ 7 ?_;refine bF H (fun h8 H=>gE 5) fun h8 H=>?_;refine gQ 7 ?_;refine bF H (fun h9 H=>gE 5) fun h9 H=>?_;refine gQ 5 ?_;refine bM H fun x11 z10 H=>(q1 (bI func191 (A5 fu p1.aBy _ z10)) ?_)
  exact gE 2
 refine gQ 3 ?_;refine q1 (nU ([]:List aB)) ?_;refine gQ 2 ?_;refine cA H fun z12 H=>(q1 (jO z12) ?_)
 refine gQ 3 ?_;refine q1 (fY ([(aB.mk s_ []),(aB.mk s_ []),(aB.mk s_ [])]:List aB)) (cA H fun z13 H=>(q1 (jO z13) ?_))
 refine gQ 12 ?_;refine cA H fun z14 H=>(fZ H fun y15 h16 H=>(q1 (xW h16 z14) ?_))
 refine gQ 8 ?_;refine cA H fun z17 H=>(fZ H fun y18 h19 H=>(q1 (xW h19 z17) ?_))
 refine gQ 9 ?_;refine bF H (fun h20 H=>?_) (fun h20 H=>?_)
 ·refine qS (bM H fun x22 z21 H=>(cA H fun z23 H=>(bM H fun x25 z24 H=>(dW (dI [7] bH (dI [1] bZ (dD [59] eB (dI [6] bH (dI [61] (bI func234 (r8 fu 2 (p1.aBv.length:Int) _ z21)) ?_)))))))))
  refine dI [60,62] (bD.congrP (bD.sliceR (es:=aB.trs (p1.aBv)) (l:=x22) (k:=(p1.aBv.length:Int)) rfl rfl rfl rfl rfl (by rw [aB.trs_len];exact rfl) (by rw [aB.trs_len];exact z23) BK.h) (aB.trs_part _ _ _)) ?_;refine dI [63] (bI func236 (p5 (List.drop (x22:Int).toNat (List.take (p1.aBv.length:Int).toNat p1.aBv)) _ z24)) (dI [58,64] oP (iY [2,65] hM (dN ?_)))
  exact gE 0
 refine gQ 5 ?_;refine bF H (fun h26 H=>?_) (fun h26 H=>?_)
 ·refine qS (cA H fun z27 H=>(fZ H fun y28 h29 H=>(bM H fun x31 z30 H=>(cA H fun z32 H=>(bM H fun x34 z33 H=>(dW (dI [7] bH (dI [5] bH (dI [69] (xW h29 z27) (dI [70] wX (dI [71] vE (dI [1] bZ (dD [73] eB ?_)))))))))))))
  refine dI [6] bH (dI [75] (bI func234 (r8 fu 3 (p1.aBv.length:Int) _ z30)) ?_)
  refine dI [74,76] (bD.congrP (bD.sliceR (es:=aB.trs (p1.aBv)) (l:=x31) (k:=(p1.aBv.length:Int)) rfl rfl rfl rfl rfl (by rw [aB.trs_len];exact rfl) (by rw [aB.trs_len];exact z32) BK.h) (aB.trs_part _ _ _)) ?_;refine dI [77] (bI func236 (p5 (List.drop (x31:Int).toNat (List.take (p1.aBv.length:Int).toNat p1.aBv)) _ z33)) (dI [68,72,78] oP (iY [2,79] hM (dN ?_)))
  exact gE 0
 refine gQ 5 ?_;refine bF H (fun h35 H=>?_) (fun h35 H=>?_)
 ·refine qS (bM H fun x37 z36 H=>(cA H fun z38 H=>(bM H fun x40 z39 H=>(dW (dI [7] bH (dI [1] bZ (dD [83] eB (dI [6] bH (dI [85] (bI func234 (r8 fu 2 (p1.aBv.length:Int) _ z36)) ?_)))))))))
  refine dI [84,86] (bD.congrP (bD.sliceR (es:=aB.trs (p1.aBv)) (l:=x37) (k:=(p1.aBv.length:Int)) rfl rfl rfl rfl rfl (by rw [aB.trs_len];exact rfl) (by rw [aB.trs_len];exact z38) BK.h) (aB.trs_part _ _ _)) ?_;refine dI [87] (bI func236 (p5 (List.drop (x37:Int).toNat (List.take (p1.aBv.length:Int).toNat p1.aBv)) _ z39)) (dI [82,88] oP (iY [2,89] hM (dN ?_)))
  exact gE 0
 refine gQ 5 ?_;refine bF H (fun h41 H=>?_) (fun h41 H=>?_)
 ·refine qS (bM H fun x43 z42 H=>(cA H fun z44 H=>(bM H fun x46 z45 H=>(dW (dI [7] bH (dI [1] bZ (dD [93] eB (dI [6] bH (dI [95] (bI func234 (r8 fu 2 (p1.aBv.length:Int) _ z42)) ?_)))))))))
  refine dI [94,96] (bD.congrP (bD.sliceR (es:=aB.trs (p1.aBv)) (l:=x43) (k:=(p1.aBv.length:Int)) rfl rfl rfl rfl rfl (by rw [aB.trs_len];exact rfl) (by rw [aB.trs_len];exact z44) BK.h) (aB.trs_part _ _ _)) ?_;refine dI [97] (bI func236 (p5 (List.drop (x43:Int).toNat (List.take (p1.aBv.length:Int).toNat p1.aBv)) _ z45)) (dI [92,98] oP (iY [2,99] hM (dN ?_)))
  exact gE 0
 refine gQ 5 ?_;refine bF H (fun h47 H=>?_) (fun h47 H=>?_)
 ·refine gQ 4 ?_;refine cA H fun z48 H=>?_;refine q1 (bD.congrP (bD.sliceR (es:=aB.trs (p1.aBv)) (l:=1) (k:=(p1.aBv.length:Int)) rfl rfl rfl rfl rfl (by rw [aB.trs_len];exact rfl) (by rw [aB.trs_len];exact z48) BK.h) (aB.trs_part _ _ _)) ?_;refine bM H fun x50 z49 H=>(q1 (bI func236 (p5 (List.drop (1:Int).toNat (List.take (p1.aBv.length:Int).toNat p1.aBv)) _ z49)) ?_)
  exact gE 3
 refine gQ 5 ?_;refine bF H (fun h51 H=>?_) (fun h51 H=>?_)
 ·refine qS (bM H fun x53 z52 H=>(cA H fun z54 H=>(bM H fun x56 z55 H=>(dW (dI [7] bH (dI [1] bZ (dD [110] eB (dI [6] bH (dI [112] (bI func234 (r8 fu 2 (p1.aBv.length:Int) _ z52)) ?_)))))))))
  refine dI [111,113] (bD.congrP (bD.sliceR (es:=aB.trs (p1.aBv)) (l:=x53) (k:=(p1.aBv.length:Int)) rfl rfl rfl rfl rfl (by rw [aB.trs_len];exact rfl) (by rw [aB.trs_len];exact z54) BK.h) (aB.trs_part _ _ _)) ?_;refine dI [114] (bI func236 (p5 (List.drop (x53:Int).toNat (List.take (p1.aBv.length:Int).toNat p1.aBv)) _ z55)) (dI [109,115] oP (iY [2,116] hM (dN ?_)))
  exact gE 0
 refine gQ 5 ?_;refine bF H (fun h57 H=>?_) (fun h57 H=>?_)
 ·refine qS (bM H fun x59 z58 H=>(bM H fun x61 z60 H=>(cA H fun z62 H=>(bM H fun x64 z63 H=>(dW (dI [5] bH (dI [119] (xW h16 z14) (dI [120] (gS (aB.cs y15)) (dI [121] (bI func219 (xV fu y15 _ z58)) (dI [1] bZ (dD [123] eB (dI [6] bH (dI [125] (bI func234 (r8 fu 2 (p1.aBv.length:Int) _ z60)) ?_)))))))))))))
  refine dI [124,126] (bD.congrP (bD.sliceR (es:=aB.trs (p1.aBv)) (l:=x61) (k:=(p1.aBv.length:Int)) rfl rfl rfl rfl rfl (by rw [aB.trs_len];exact rfl) (by rw [aB.trs_len];exact z62) BK.h) (aB.trs_part _ _ _)) ?_;refine dI [127] (bI func236 (p5 (List.drop (x61:Int).toNat (List.take (p1.aBv.length:Int).toNat p1.aBv)) _ z63)) (dI [122,128] oP (iY [2,129] hM (dN ?_)))
  exact gE 0
 refine gQ 5 ?_;refine bF H (fun h65 H=>?_) (fun h65 H=>?_)
 ·refine qS (bM H fun x67 z66 H=>(cA H fun z68 H=>(bM H fun x70 z69 H=>(dW (dI [1] bZ (dB [132] 0 1 sM (dI [6] bH (dI [134] (bI func234 (r8 fu 2 (p1.aBv.length:Int) _ z66)) ?_))))))))
  refine dI [133,135] (bD.congrP (bD.sliceR (es:=aB.trs (p1.aBv)) (l:=1) (k:=x67) rfl rfl rfl rfl rfl (by rw [aB.trs_len];exact rfl) (by rw [aB.trs_len];exact z68) BK.h) (aB.trs_part _ _ _)) ?_;refine dI [136] (bI func236 (p5 (List.drop (1:Int).toNat (List.take (x67:Int).toNat p1.aBv)) _ z69)) (dI [137] oP (dE [] tAl (iY [8,138] hM (dN ?_))))
  refine gQ 5 ?_;refine cO.wk (Wk.regBox (k:=2) (j:=8) 262 11 (by decide) rfl rfl) ?_;refine fS 38 (aB.trs_len _) (fun hl74=>?_)
  refine bU (σ:=(List bV)) (fun i71 v73=>⟨[(1,.ptr 0 0),(2,.ptr 1 0),(5,eD ((([])++p1.aBv)++([(aB.mk s_ []),(aB.mk s_ []),(aB.mk s_ [])]:List aB)) 0),(6,pN p1.aBv.length),(8,.ptr 2 0),(9,pN i71)],⟨[some ⟨189,[pS p1.aBy,bK p1.aBv]⟩,some ⟨211,[pI 0,pS s_,pS s_,pI 0,pI 0,pS s_,.nil,.nil,.nil]⟩,some ⟨211,[pI 7,pS s_,pS s_,pI 0,pI 0,pS s_,.nil,iI x70,aqF v73 1]⟩],[⟨189,2,aB.trs ((([])++p1.aBv)++([(aB.mk s_ []),(aB.mk s_ []),(aB.mk s_ [])]:List aB)),false⟩,⟨262,11,bV.trs (v73),false⟩]⟩⟩) (fun v73=>⟨[(1,.ptr 0 0),(2,.ptr 1 0),(5,eD ((([])++p1.aBv)++([(aB.mk s_ []),(aB.mk s_ []),(aB.mk s_ [])]:List aB)) 0),(6,pN p1.aBv.length),(8,.ptr 2 0)],⟨[some ⟨189,[pS p1.aBy,bK p1.aBv]⟩,some ⟨211,[pI 0,pS s_,pS s_,pI 0,pI 0,pS s_,.nil,.nil,.nil]⟩,some ⟨211,[pI 7,pS s_,pS s_,pI 0,pI 0,pS s_,.nil,iI x70,aqF v73 1]⟩],[⟨189,2,aB.trs ((([])++p1.aBv)++([(aB.mk s_ []),(aB.mk s_ []),(aB.mk s_ [])]:List aB)),false⟩,⟨262,11,bV.trs (v73),false⟩]⟩⟩) (eJ H) ?_ ?_
  ·rintro i71 v73 H
   refine gQ 7 ?_;refine cT H (fun h75 h75l H=>?_) (fun h75 H=>?_)
   ·refine gQ 3 ?_;refine bM H fun x77 z76 H=>(cA H fun z78 H=>(dW (dI [8] bZ (dD [144] eB (dI [1] bZ (dD [146] eB (dI [9] bH (dI [147,148] m9 (dI [149] (gS (aB.cs (aT p1.aBv i71))) (dI [150] (bI func237 (pD (aT p1.aBv i71) _ z76)) (dI [151] (fY ([x77]:List bV)) (dE [145,152] (jO z78) (dI [8] bZ ?_)))))))))))))
    refine iY [154,153] hM (dN ?_)
    exact gE 5
   exact gE 0
  rintro v73 H
  refine gQ 2 ?_;refine q1 (b6 [pI 7,pS s_,pS s_,pI 0,pI 0,pS s_,.nil,iI x70,aqF v73 1]) ?_;exact gE 2
 refine gQ 2 ?_;refine bM H fun x80 z79 H=>(cA H fun z81 H=>(bM H fun x83 z82 H=>(dW (dI [5] bH (dI [156] (xW h19 z17) (dI [157] wX (dI [158] vE (dI [1] bZ (dD [160] eB (dI [6] bH (dI [162] (bI func234 (r8 fu 1 (p1.aBv.length:Int) _ z79)) ?_)))))))))))
 refine dI [161,163] (bD.congrP (bD.sliceR (es:=aB.trs (p1.aBv)) (l:=x80) (k:=(p1.aBv.length:Int)) rfl rfl rfl rfl rfl (by rw [aB.trs_len];exact rfl) (by rw [aB.trs_len];exact z81) BK.h) (aB.trs_part _ _ _)) ?_;refine dI [164] (bI func236 (p5 (List.drop (x80:Int).toNat (List.take (p1.aBv.length:Int).toNat p1.aBv)) _ z82)) (dI [159,165] oP (iY [2,166] hM (dN ?_)))
 exact gE 0
def ab7(fu:Nat)(p3:j0)(p0:iJ)(p4:lO)(p6:List aB):Nat→((List aM))→Option (LR ((List aM)) ((List aM))):=fun i1 v3=>bd (p3 (aT p6 i1)) fun x7=>gd ((v3).length+(([x7]:List aM)).length≤68719476736) (some (.next (v3++([x7]:List aM))))
def IE(fu:Nat)(p3:j0)(p0:iJ)(p4:lO)(p6:List aB):Option ((List aM)):=so (loopN (ab7 fu p3 p0 p4 p6) (p6.length-0) 0 ([])) fun v3=>some v3
theorem WN(fu:Nat)(p3:j0)(p0:iJ)(p4:lO)(pC:wM p3)(p5:xR p0)(pD:EG p4):xR (IE fu p3 p0 p4):=by
 intro p6 r H
 refine qJ func236 H (fun C hC H=>?_)
 refine gQ 6 ?_;refine q1 (nU ([]:List aM)) ?_;refine gQ 7 ?_;refine fS 0 (aB.trs_len _) (fun hl4=>?_)
 refine bU (σ:=(List aM)) (fun i1 v3=>⟨[(0,bK p6),(2,.nil),(3,ap0 v3 0),(4,pN i1)],⟨[],[⟨211,9,aM.trs (v3),false⟩]⟩⟩) (fun v3=>⟨[(2,.nil),(3,ap0 v3 0)],⟨[],[⟨211,9,aM.trs (v3),false⟩]⟩⟩) (eJ H) ?_ ?_
 ·rintro i1 v3 H
  refine gQ 8 ?_;refine cT H (fun h5 h5l H=>?_) (fun h5 H=>?_)
  ·refine gQ 8 ?_;refine q1 (gS (aB.cs (aT p6 i1))) (bM H fun x7 z6 H=>(q1 (bI func220 (pC (aT p6 i1) _ z6)) (q1 (fY ([x7]:List aM)) (cA H fun z8 H=>(q1 (jO z8) ?_)))))
   exact gE 7
  exact gE 0
 rintro v3 H
 exact gE 5
def RJ(fu:Nat)(p3:j0)(p0:iJ)(p4:lO)(px:aB):Option bV:=sw (decide ((px.aBv.length:Int)<2)) (some (bV.mk s_ [] (aM.mk 0 s_ s_ 0 (aA.mk 0 s_ []) [] []))) (gd ((0:Int)≤1∧(1:Int)≤aZ ((px.aBv.length:Int)-1)∧(aZ ((px.aBv.length:Int)-1):Int)≤(px.aBv.length:Int)) (bd (BB fu (List.drop (1:Int).toNat (List.take (aZ ((px.aBv.length:Int)-1):Int).toNat px.aBv))) fun(x4,x5)=>gd (0<(px.aBv).length) (gd (0≤aZ ((px.aBv.length:Int)-1)∧(aZ ((px.aBv.length:Int)-1)).toNat<(px.aBv).length) (lt (aT px.aBv ((aZ ((px.aBv.length:Int)-1)).toNat)) fun y8=>bd (p3 y8) fun x11=>some (bV.mk ((aT px.aBv 0).aBy) x4 x11)))))
theorem ab5(fu:Nat)(p3:j0)(p0:iJ)(p4:lO)(pC:wM p3)(p5:xR p0)(pD:EG p4):EG (RJ fu p3 p0 p4):=by
 intro px r H
 refine qJ func237 H (fun C hC H=>?_)
 refine gQ 2 ?_;refine q1 (fE ([pS px.aBy,bK px.aBv])) ?_;refine gQ 15 ?_;refine bF H (fun h1 H=>?_) (fun h1 H=>?_)
 ·have h1n:px.aBv.length<2:=by have:=of_decide_eq_true h1;omega
  exact gE 5
 refine gQ 7 ?_;refine cA H fun z2 H=>?_;refine q1 (bD.congrP (bD.sliceR (es:=aB.trs (px.aBv)) (l:=1) (k:=aZ ((px.aBv.length:Int)-1)) rfl rfl rfl rfl rfl (by rw [aB.trs_len];exact rfl) (by rw [aB.trs_len];exact z2) BK.h) (aB.trs_part _ _ _)) ?_;refine eF H fun x4 x5 z3 H=>(q1 (bI func174 (IQ fu (List.drop (1:Int).toNat (List.take (aZ ((px.aBv.length:Int)-1):Int).toNat px.aBv)) _ z3)) ?_)
 refine gQ 7 ?_;refine cA H fun z6 H=>(cA H fun z7 H=>(fZ H fun y8 h9 H=>(bM H fun x11 z10 H=>(dW (dI [1] bZ (dD [21] eB (dI [22] m9 (dI [23] wX (dI [24] vE (dI [4] bH (dI [1] bZ (dD [27] eB (dI [3] bH ?_)))))))))))))
 refine dI [29] rSw (dI [28,30] (rIm h9 z7 BK.h) (dI [31] (gS (aB.cs y8)) (dI [32] (bI func220 (pC y8 _ z10)) (dI [25,26,33] oP (iY [2,34] hM (dN ?_))))))
 exact gE 0
mutual
def gU:Nat→aB→Option aM
 |0,_=>none
 |fu+1,p1=>MT fu (gU fu) (kQ fu) (nO fu) p1
def kQ:Nat→(List aB)→Option ((List aM))
 |0,_=>none
 |fu+1,p6=>IE fu (gU fu) (kQ fu) (nO fu) p6
def nO:Nat→aB→Option bV
 |0,_=>none
 |fu+1,px=>RJ fu (gU fu) (kQ fu) (nO fu) px
end
theorem ab6(fu:Nat):wM (gU fu)∧xR (kQ fu)∧EG (nO fu):=by
 induction fu with
 |zero=>exact⟨(fun p1 r H=>by simp only [gU] at H;cases H),(fun p6 r H=>by simp only [kQ] at H;cases H),(fun px r H=>by simp only [nO] at H;cases H)⟩
 |succ fu ih=>exact⟨(fun p1 r H=>by simp only [gU] at H;exact YS fu (gU fu) (kQ fu) (nO fu) ih.1 ih.2.1 ih.2.2 p1 r H),(fun p6 r H=>by simp only [kQ] at H;exact WN fu (gU fu) (kQ fu) (nO fu) ih.1 ih.2.1 ih.2.2 p6 r H),(fun px r H=>by simp only [nO] at H;exact ab5 fu (gU fu) (kQ fu) (nO fu) ih.1 ih.2.1 ih.2.2 px r H)⟩
theorem IC(fu:Nat):wM (gU fu):=(ab6 fu).1
abbrev sZ:=aM→Option aB
abbrev m4:=(List aB)→(List aM)→Option aB
def IF(m:sZ):Prop:= ∀(p1:aM) (r:aB),m p1=some r→bQ Tryz.prog 243 [(aM.pv p1)] ((aB.pv r):PV)
def FV(m:m4):Prop:= ∀(pA:List aB) (p6:List aM) (r:aB),m pA p6=some r→cB Tryz.prog 256 [eD pA 0,iI p6] ⟨[],[⟨189,2,aB.trs (pA),false⟩]⟩ (fun q t=>q=(.agg [pS r.aBy,eD r.aBv 0]:PV)∧t=⟨[],[⟨189,2,aB.trs (r.aBv),false⟩]⟩)
def amJ(fu:Nat)(p8:sZ)(p2:m4)(p1:aM)(x68 x70:aB):Nat→((List aB))→Option (LR ((List aB)) aB):=fun i71 v73=>lt (aT p1.aBN i71) fun y76=>bd (cF fu y76.aBU) fun x79=>bd (F5 fu y76.aBF) fun x81=>gd ((([x79]:List aB)).length+x81.length≤68719476736) (bd (p8 y76.aBC) fun x84=>gd ((([x79]:List aB)++x81).length+(([x84]:List aB)).length≤68719476736) (gd ((v73).length+(([(aB.mk s_ ((([x79]:List aB)++x81)++([x84]:List aB)))]:List aB)).length≤68719476736) (some (.next (v73++([(aB.mk s_ ((([x79]:List aB)++x81)++([x84]:List aB)))]:List aB))))))
def WO(fu:Nat)(p8:sZ)(p2:m4)(p1:aM):Option aB:=sw (decide (p1.aBw=1)) (bd (n7 fu p1.aCa) fun x3=>bd (cF fu x3) fun x5=>some x5) (sw (decide (p1.aBw=2)) (gd (0≤p1.aCa∧(p1.aCa).toNat<(([l0,qE]:LB)).length) (bd (cF fu (aT ([l0,qE]:LB) ((p1.aCa).toNat))) fun x9=>some x9)) (sw (decide (p1.aBw=3)) (bd (cF fu p1.aBs) fun x12=>some x12) (sw (decide (p1.aBw=4)) (bd (cF fu RF) fun x15=>bd (cF fu p1.aBs) fun x17=>bd (p2 ([x15,x17]:List aB) p1.aBt) fun x19=>some (aB.mk x19.aBy x19.aBv)) (sw (decide (p1.aBw=5)) (bd (cF fu o5) fun x22=>bd (cF fu p1.aBz) fun x24=>bd (cF fu p1.aBs) fun x26=>bd (p2 ([x22,x24,x26]:List aB) p1.aBt) fun x28=>some (aB.mk x28.aBy x28.aBv)) (sw (decide (p1.aBw=6)) (bd (cF fu GL) fun x31=>bd (cF fu p1.aBs) fun x33=>bd (p2 ([x31,x33]:List aB) p1.aBt) fun x35=>some (aB.mk x35.aBy x35.aBv)) (sw (decide (p1.aBw=8)) (bd (cF fu GK) fun x38=>bd (cF fu p1.aBs) fun x40=>bd (p2 ([x38,x40]:List aB) p1.aBt) fun x42=>some (aB.mk x42.aBy x42.aBv)) (sw (decide (p1.aBw=9)) (bd (cF fu FP) fun x45=>bd (p2 ([x45]:List aB) p1.aBt) fun x47=>some (aB.mk x47.aBy x47.aBv)) (sw (decide (p1.aBw=10)) (bd (cF fu p1.aBs) fun x50=>bd (p2 ([x50]:List aB) p1.aBt) fun x52=>some (aB.mk x52.aBy x52.aBv)) (sw (decide (p1.aBw=11)) (bd (cF fu yS) fun x55=>bd (cF fu p1.aBz) fun x57=>bd (p2 ([x55,x57]:List aB) p1.aBt) fun x59=>some (aB.mk x59.aBy x59.aBv)) (sw (decide (p1.aBw=12)) (bd (cF fu Z6) fun x62=>bd (mU fu p1.aBu) fun x64=>bd (p2 ([x62,x64]:List aB) p1.aBt) fun x66=>some (aB.mk x66.aBy x66.aBv)) (bd (cF fu yR) fun x68=>bd (p2 ([x68]:List aB) p1.aBt) fun x70=>so (loopN (amJ fu p8 p2 p1 x68 x70) (p1.aBN.length-0) 0 x70.aBv) fun v73=>some (aB.mk x70.aBy v73))))))))))))
theorem af8(fu:Nat)(p8:sZ)(p2:m4)(pE:IF p8)(p7:FV p2):IF (WO fu p8 p2):=by
 intro p1 r H
 refine qJ func243 H (fun C hC H=>?_)
 refine gQ 2 ?_;refine q1 (fE (jC p1)) ?_;refine gQ 14 ?_;refine bF H (fun h1 H=>?_) (fun h1 H=>?_)
 ·refine gQ 4 ?_;refine bM H fun x3 z2 H=>(q1 (bI func255 (CX fu p1.aCa _ z2)) (bM H fun x5 z4 H=>(q1 (bI func239 (b7 fu x3 _ z4)) ?_)))
  exact gE 2
 refine gQ 5 ?_;refine bF H (fun h6 H=>?_) (fun h6 H=>?_)
 ·refine gQ 2 ?_;refine q1 (fY ([l0,qE]:LB)) ?_;refine gQ 2 ?_;refine cA H fun z7 H=>(q1 (rIy z7 ahX.h) (q1 vE (bM H fun x9 z8 H=>(q1 (bI func239 (b7 fu (aT ([l0,qE]:LB) ((p1.aCa).toNat)) _ z8)) ?_))))
  exact gE 2
 refine gQ 5 ?_;refine bF H (fun h10 H=>?_) (fun h10 H=>?_)
 ·refine gQ 4 ?_;refine bM H fun x12 z11 H=>(q1 (bI func239 (b7 fu p1.aBs _ z11)) ?_)
  exact gE 2
 refine gQ 5 ?_;refine bF H (fun h13 H=>?_) (fun h13 H=>?_)
 ·refine qS (bM H fun x15 z14 H=>(bM H fun x17 z16 H=>(bM H fun x19 z18 H=>(dW (dI [] (bI func239 (b7 fu RF _ z14)) (dI [1] bZ (dD [31] eB (dI [32] (bI func239 (b7 fu p1.aBs _ z16)) (dE [30,33] (nU ([x15,x17]:List aB)) (dI [1] bZ (dB [35] 0 1 sM (dE [34,36] (fD [] [0] func256 (p7 ([x15,x17]:List aB) p1.aBt _ z18)) (iY [2,37] hM ?_)))))))))))))
  refine dN ?_;exact gE 0
 refine gQ 5 ?_;refine bF H (fun h20 H=>?_) (fun h20 H=>?_)
 ·refine qS (bM H fun x22 z21 H=>(bM H fun x24 z23 H=>(bM H fun x26 z25 H=>(bM H fun x28 z27 H=>(dW (dI [] (bI func239 (b7 fu o5 _ z21)) (dI [1] bZ (dD [41] eB (dI [42] (bI func239 (b7 fu p1.aBz _ z23)) (dI [1] bZ (dD [44] eB (dI [45] (bI func239 (b7 fu p1.aBs _ z25)) (dE [40,43,46] (nU ([x22,x24,x26]:List aB)) ?_)))))))))))))
  refine dI [1] bZ (dB [48] 0 1 sM (dE [47,49] (fD [] [0] func256 (p7 ([x22,x24,x26]:List aB) p1.aBt _ z27)) (iY [2,50] hM (dN ?_))))
  exact gE 0
 refine gQ 5 ?_;refine bF H (fun h29 H=>?_) (fun h29 H=>?_)
 ·refine qS (bM H fun x31 z30 H=>(bM H fun x33 z32 H=>(bM H fun x35 z34 H=>(dW (dI [] (bI func239 (b7 fu GL _ z30)) (dI [1] bZ (dD [54] eB (dI [55] (bI func239 (b7 fu p1.aBs _ z32)) (dE [53,56] (nU ([x31,x33]:List aB)) (dI [1] bZ (dB [58] 0 1 sM (dE [57,59] (fD [] [0] func256 (p7 ([x31,x33]:List aB) p1.aBt _ z34)) (iY [2,60] hM ?_)))))))))))))
  refine dN ?_;exact gE 0
 refine gQ 5 ?_;refine bF H (fun h36 H=>?_) (fun h36 H=>?_)
 ·refine qS (bM H fun x38 z37 H=>(bM H fun x40 z39 H=>(bM H fun x42 z41 H=>(dW (dI [] (bI func239 (b7 fu GK _ z37)) (dI [1] bZ (dD [64] eB (dI [65] (bI func239 (b7 fu p1.aBs _ z39)) (dE [63,66] (nU ([x38,x40]:List aB)) (dI [1] bZ (dB [68] 0 1 sM (dE [67,69] (fD [] [0] func256 (p7 ([x38,x40]:List aB) p1.aBt _ z41)) (iY [2,70] hM ?_)))))))))))))
  refine dN ?_;exact gE 0
 refine gQ 5 ?_;refine bF H (fun h43 H=>?_) (fun h43 H=>?_)
 ·refine qS (bM H fun x45 z44 H=>(bM H fun x47 z46 H=>(dW (dI [] (bI func239 (b7 fu FP _ z44)) (dE [73] (nU ([x45]:List aB)) (dI [1] bZ (dB [75] 0 1 sM (dE [74,76] (fD [] [0] func256 (p7 ([x45]:List aB) p1.aBt _ z46)) (iY [2,77] hM (dN ?_))))))))))
  exact gE 0
 refine gQ 5 ?_;refine bF H (fun h48 H=>?_) (fun h48 H=>?_)
 ·refine qS (bM H fun x50 z49 H=>(bM H fun x52 z51 H=>(dW (dI [1] bZ (dD [80] eB (dI [81] (bI func239 (b7 fu p1.aBs _ z49)) (dE [82] (nU ([x50]:List aB)) (dI [1] bZ (dB [84] 0 1 sM (dE [83,85] (fD [] [0] func256 (p7 ([x50]:List aB) p1.aBt _ z51)) (iY [2,86] hM (dN ?_))))))))))))
  exact gE 0
 refine gQ 5 ?_;refine bF H (fun h53 H=>?_) (fun h53 H=>?_)
 ·refine qS (bM H fun x55 z54 H=>(bM H fun x57 z56 H=>(bM H fun x59 z58 H=>(dW (dI [] (bI func239 (b7 fu yS _ z54)) (dI [1] bZ (dD [90] eB (dI [91] (bI func239 (b7 fu p1.aBz _ z56)) (dE [89,92] (nU ([x55,x57]:List aB)) (dI [1] bZ (dB [94] 0 1 sM (dE [93,95] (fD [] [0] func256 (p7 ([x55,x57]:List aB) p1.aBt _ z58)) (iY [2,96] hM ?_)))))))))))))
  refine dN ?_;exact gE 0
 refine gQ 5 ?_;refine bF H (fun h60 H=>?_) (fun h60 H=>?_)
 ·refine qS (bM H fun x62 z61 H=>(bM H fun x64 z63 H=>(bM H fun x66 z65 H=>(dW (dI [] (bI func239 (b7 fu Z6 _ z61)) (dI [1] bZ (dD [100] (b6 [pI p1.aBu.aBw,pS p1.aBu.aBs,aU p1.aBu.aBt]) (dI [101] (bI func242 (xU fu p1.aBu _ z63)) (dE [99,102] (nU ([x62,x64]:List aB)) (dI [1] bZ (dB [104] 0 1 sM (dE [103,105] (fD [] [0] func256 (p7 ([x62,x64]:List aB) p1.aBt _ z65)) (iY [2,106] hM ?_)))))))))))))
  refine dN ?_;exact gE 0
 refine gQ 2 ?_;refine bM H fun x68 z67 H=>(bM H fun x70 z69 H=>(dWa (dI [] (bI func239 (b7 fu yR _ z67)) ?_)))
 refine dEz [107] (fun _ z=>by cases z<;>exact rBa ([x68]:List aB) BK.h aaJ.h) ?_;refine dI [1] bZ (XL [109] 0 1 sM ?_)
 refine dEz [108,110] (fun _ z=>by cases z<;>exact fD [] [0] func256 (p7 ([x68]:List aB) p1.aBt _ z69)) ?_;refine dA (fun _ st h=>vAl h aaJ.h) (dZ 3 [3,111] hM (dN ?_))
 refine gQ 5 ?_;refine cO.fact (cK 0 8 rfl rfl rfl (bV.trs_len _)) (fun hl74=>?_)
 refine bU (σ:=(List aB)) (fun i71 v73=>⟨[(1,.ptr 0 0),(2,.ptr 1 0),(3,.ptr 2 0),(4,pN i71)],⟨[some ⟨211,jC p1⟩,some ⟨189,[pS s_,.nil]⟩,some ⟨189,[pS x70.aBy,eD v73 0]⟩],[⟨189,2,aB.trs (v73),false⟩]⟩⟩) (fun v73=>⟨[(2,.ptr 1 0),(3,.ptr 2 0)],⟨[some ⟨211,jC p1⟩,some ⟨189,[pS s_,.nil]⟩,some ⟨189,[pS x70.aBy,eD v73 0]⟩],[⟨189,2,aB.trs (v73),false⟩]⟩⟩) (eJ H) ?_ ?_
 ·rintro i71 v73 H
  refine gQ 9 ?_;refine cT H (fun h75 h75l H=>?_) (fun h75 H=>?_)
  ·refine gQ 8 ?_;refine fZ H fun y76 h77 H=>(q1 (xW h77 h75l) (q1 (gS (bV.cs y76)) ?_))
   refine gQ 4 ?_;refine bM H fun x79 z78 H=>(bM H fun x81 z80 H=>(cA H fun z82 H=>(dW (dI [5] bZ (dD [124] eB (dI [125] (bI func239 (b7 fu y76.aBU _ z78)) (dE [126] (nU ([x79]:List aB)) (dI [5] bZ (dB [128] 0 1 sM (dI [129] (bI func254 (SS fu y76.aBF _ z80)) (dE [127,130] (jO z82) (dI [131] bH (dN ?_)))))))))))))
   refine bM H fun x84 z83 H=>(cA H fun z85 H=>(cA H fun z86 H=>(dW (dI [3] bZ (dB [132] 0 1 sM (dI [6] bH (dI [5] bZ (dD [135] (b6 [pI y76.aBC.aBw,pS y76.aBC.aBz,pS y76.aBC.aBs,pI y76.aBC.aCa,pI y76.aBC.aBu.aBw,pS y76.aBC.aBu.aBs,aU y76.aBC.aBu.aBt,iI y76.aBC.aBt,rV y76.aBC.aBN]) (dI [136] (bI func243 (pE y76.aBC _ z83)) (dI [137] (fY ([x84]:List aB)) (dE [134,138] (jO z85) (dI [139] oP (dI [140] (fY ([(aB.mk s_ ((([x79]:List aB)++x81)++([x84]:List aB)))]:List aB)) ?_)))))))))))))
   refine dE [133,141] (jO z86) (dI [3] bZ (iY [143,142] hM (dN ?_)))
   exact gE 5
  exact gE 0
 rintro v73 H
 refine gQ 2 ?_;refine q1 (b6 [pS x70.aBy,eD v73 0]) ?_;exact gE 2
def af4(fu:Nat)(p8:sZ)(p2:m4)(pA:List aB)(p6:List aM):Nat→((List aB))→Option (LR ((List aB)) aB):=fun i1 v3=>lt (aT p6 i1) fun y6=>bd (p8 y6) fun x9=>gd ((v3).length+(([x9]:List aB)).length≤68719476736) (some (.next (v3++([x9]:List aB))))
def MS(fu:Nat)(p8:sZ)(p2:m4)(pA:List aB)(p6:List aM):Option aB:=so (loopN (af4 fu p8 p2 pA p6) (p6.length-0) 0 pA) fun v3=>some (aB.mk s_ v3)
theorem YR(fu:Nat)(p8:sZ)(p2:m4)(pE:IF p8)(p7:FV p2):FV (MS fu p8 p2):=by
 intro pA p6 r H
 refine qJ func256 H (fun C hC H=>?_)
 refine gQ 16 ?_;refine fS 1 (aM.trs_len _) (fun hl4=>?_)
 refine bU (σ:=(List aB)) (fun i1 v3=>⟨[(1,iI p6),(4,.ptr 0 0),(5,.ptr 1 0),(6,pN i1)],⟨[some ⟨189,[pS s_,.nil]⟩,some ⟨189,[pS s_,eD v3 0]⟩],[⟨189,2,aB.trs (v3),false⟩]⟩⟩) (fun v3=>⟨[(4,.ptr 0 0),(5,.ptr 1 0)],⟨[some ⟨189,[pS s_,.nil]⟩,some ⟨189,[pS s_,eD v3 0]⟩],[⟨189,2,aB.trs (v3),false⟩]⟩⟩) (eJ H) ?_ ?_
 ·rintro i1 v3 H
  refine gQ 8 ?_;refine cT H (fun h5 h5l H=>?_) (fun h5 H=>?_)
  ·refine gQ 3 ?_;refine fZ H fun y6 h7 H=>(bM H fun x9 z8 H=>(cA H fun z10 H=>(dW (dI [5] bZ (dD [15] eB (dI [1] bH (dI [6] bH (dI [17,18] (xW h7 h5l) (dI [19] (gS (aM.cs y6)) (dI [20] (bI func243 (pE y6 _ z8)) (dI [21] (fY ([x9]:List aB)) (dE [16,22] (jO z10) (dI [5] bZ ?_)))))))))))))
   refine iY [24,23] hM (dN ?_)
   exact gE 5
  exact gE 0
 rintro v3 H
 refine gQ 2 ?_;refine q1 (b6 [pS s_,eD v3 0]) ?_;exact gE 2
mutual
def mQ:Nat→aM→Option aB
 |0,_=>none
 |fu+1,p1=>WO fu (mQ fu) (oE fu) p1
def oE:Nat→(List aB)→(List aM)→Option aB
 |0,_,_=>none
 |fu+1,pA,p6=>MS fu (mQ fu) (oE fu) pA p6
end
theorem aiZ(fu:Nat):IF (mQ fu)∧FV (oE fu):=by
 induction fu with
 |zero=>exact⟨(fun p1 r H=>by simp only [mQ] at H;cases H),(fun pA p6 r H=>by simp only [oE] at H;cases H)⟩
 |succ fu ih=>exact⟨(fun p1 r H=>by simp only [mQ] at H;exact af8 fu (mQ fu) (oE fu) ih.1 ih.2 p1 r H),(fun pA p6 r H=>by simp only [oE] at H;exact YR fu (mQ fu) (oE fu) ih.1 ih.2 pA p6 r H)⟩
theorem RK(fu:Nat):IF (mQ fu):=(aiZ fu).1
end
end Go.Proofs.YtfcoaagbccmahaaGreat.W

namespace Go.Proofs.YtfcoaagbccmahaaGreat.W
open Go.RowKit Go.WalkArith Go.IntWalk
theorem apE(d:DS)(l:LB):0<l.length→(d.pick l).size+1≤wl l:=fun h=>by
 have:=C2 (d.pick_mem h)
 exact this
theorem alH(d:DS)(n:Nat):0<n→d.below n<n:=fun h=>d.below_lt h
theorem aoR(E:Int): -9223372036854775808≤aZ E∧aZ E≤9223372036854775807:=by
 unfold aZ IntKind.wrap
 simp [IntKind.bits,IntKind.signed]
 omega
inductive K9:aM→Prop
 |mk {k:Int} {t n:ByteArray} {i:Int} {ty:aA} {args:List aM} {arms:List bV} (h:(k=2→0≤i∧i≤1)∧(k=1→i.natAbs≤9223372036854775808)) (ha: ∀a∈args,K9 a) (hm: ∀m∈arms,K9 m.aBC):K9 (.mk k t n i ty args arms)
theorem K9.num{e:aM}(h:K9 e):(e.aBw=2→0≤e.aCa∧e.aCa≤1)∧(e.aBw=1→e.aCa.natAbs≤9223372036854775808):=by cases h;assumption
theorem K9.arg{e:aM}(h:K9 e): ∀a∈e.aBt,K9 a:=by cases h;assumption
theorem K9.arm{e:aM}(h:K9 e): ∀m∈e.aBN,K9 m.aBC:=by cases h;assumption
theorem K9.zero:K9 (aM.mk 0 s_ s_ 0 (aA.mk 0 s_ []) [] []):= .mk ⟨by omega,by omega⟩ (by simp) (by simp)
section
variable {α:Type}
theorem aj8{P:α→Prop}: ∀a∈([]:List α),P a:=by simp
theorem anF{P:α→Prop}{l:List α}{x:α}(h: ∀a∈l,P a)(hx:P x): ∀a∈l++ [x],P a:=by
 intro a ha
 rcases List.mem_append.1 ha with ha|ha
 ·exact h a ha
 ·obtain rfl:=List.mem_singleton.1 ha
  exact hx
theorem aaV [Inhabited α]{P:α→Prop}{l:List α}{i:Nat}(h: ∀a∈l,P a)(hi:i<l.length):P (aT l i):=h _ (cE hi)
variable [Wt α]
theorem ahW(a:List α)(x:α):(a.length=0→wl (List.drop 1 (a++ [x]))=0)∧(0<a.length→wl (List.drop 1 (a++ [x]))=wl (List.drop 1 a)+wt x+1):=by
 cases a with
 |nil=>exact⟨fun _=>rfl,fun h=>by simp at h⟩
 |cons b a=>exact⟨fun h=>by simp at h,fun _=>by simp only [List.cons_append,List.drop_succ_cons,List.drop_zero];rw [(b8 _ _).1,(cG _).1];omega⟩
theorem ar7(v:List α):wl (List.drop (1:Int).toNat (List.take (((v.length:Nat):Int):Int).toNat v))=wl (List.drop 1 v):=by
 have:List.take (((v.length:Nat):Int):Int).toNat v=v:=by simp
 rw [this]
 rfl
theorem zE(L:List α)(x:Int)(k:Nat):(((k:Int)≤((L.length:Nat):Int)∧x=k)∨(((L.length:Nat):Int)≤k∧x=((L.length:Nat):Int)))→wl (List.drop (x:Int).toNat (List.take (((L.length:Nat):Int):Int).toNat L))+wl (List.take k L)≤wl L:=by
 have e:List.take (((L.length:Nat):Int):Int).toNat L=L:=by simp
 rw [e]
 rintro(⟨h,rfl⟩|⟨h,rfl⟩)
 ·have:=IT k L
  simp only [Int.toNat_natCast]
  omega
 ·simp only [Int.toNat_natCast,List.drop_length]
  have:=oQ L k
  show 0+_≤_
  omega
theorem apD(L:List α)(x:Int):(((2:Int)≤((L.length:Nat):Int)∧x=2)∨(((L.length:Nat):Int)≤2∧x=((L.length:Nat):Int)))→wl (List.drop (1:Int).toNat (List.take (x:Int).toNat L))+wl (List.take 1 L)≤wl (List.take 2 L):=by
 have key: ∀M:List α,wl (List.drop (1:Int).toNat M)+wl (List.take 1 M)=wl M:=fun M=>by
  have:=IT 1 M
  show wl (List.drop 1 M)+_=_
  omega
 rintro(⟨h,rfl⟩|⟨h,rfl⟩)
 ·have:=key (L.take 2)
  rw [List.take_take] at this
  exact Nat.le_of_eq this
 ·have h2:L.length≤2:=by omega
  have:=key L
  rw [show List.take (((L.length:Nat):Int):Int).toNat L=L by simp,List.take_of_length_le h2]
  exact Nat.le_of_eq this
variable [Inhabited α]
theorem aiF(L:List α)(a b c:α)(k k1:Nat)(hk:k+1=k1):(k<L.length→wt (aT ((([])++L)++([a,b,c]:List α)) k)+1+wl (List.take k L)=wl (List.take k1 L))∧(L.length≤k→k<L.length+3→wt (aT ((([])++L)++([a,b,c]:List α)) k)≤wt a+wt b+wt c∧wl (List.take k L)=wl L∧wl (List.take k1 L)=wl L)∧wl (List.take k1 L)≤wl L:=by
 subst hk
 rw [List.nil_append]
 refine⟨fun h=>?_,fun h h3=>⟨?_,by rw [List.take_of_length_le h],by rw [List.take_of_length_le (by omega)]⟩,oQ L _⟩
 ·have h2:=oT L k h
  have e:aT (L++ [a,b,c]) k=aT L k:=by
   unfold aT
   rw [List.getElem?_append_left h]
  rw [e]
  omega
 ·have e:aT (L++ [a,b,c]) k=aT [a,b,c] (k-L.length):=by
   unfold aT
   rw [List.getElem?_append_right h]
  rw [e]
  have:k-L.length=0∨k-L.length=1∨k-L.length=2:=by omega
  rcases this with h|h|h<;>rw [h]<;>simp [aT]<;>omega
end
theorem oX{α β:Type}[Wt α]{v:List α}{x:α}{PA:α→Prop}{E:List α→Prop}{Q:β→Prop}{m:List α→Prop}(hB: ∀a∈v,PA a)(h:m (v++ [x]):=by first|omega|(dsimp only;omega))(hx:PA x:=by first|assumption|exact K9.zero):Ok (some (LR.next (v++ [x]))) (PL Q (fun v=>m v∧ ∀a∈v,PA a) E):=⟨_,rfl,h,anF hB hx⟩
theorem oS2{α:Type}{P1 P2:α→Prop}{a:α}(h:P1 a:=by first|omega|(dsimp only;omega))(k:P2 a:=by first|assumption|exact K9.zero|exact .mk ⟨by omega,by omega⟩ (by first|assumption|exact aj8) (by first|assumption|exact aj8)):Ok (some a) (fun a=>P1 a∧P2 a):=⟨a,rfl,h,k⟩
def arP(p r:dG):Prop:=r.aCb=p.aCb∧p.aB2≤r.aB2∧r.aB2≤((p.aCb.size:Nat):Int)∧r.aBY=p.aBY∧r.aB5=p.aB5
def Y8(fu:Nat):Prop:= ∀p:dG,0≤p.aB2→p.aB2≤((p.aCb.size:Nat):Int)→p.aCb.size≤1048576→Ok (zX fu p) (arP p)
theorem ZP:bS Y8:=(bS.ge 2147483648).imp fun fu hfu p h0 h1 h2=>by
 unfold zX
 refine Ok.sok (E:=fun v1=>p.aB2≤v1∧v1≤((p.aCb.size:Nat):Int)) ?_ (fun v1 h=>Ok.some ⟨rfl,h.1,h.2,rfl,rfl⟩)
 refine Ok.loopW (fun v1=>p.aB2≤v1∧v1≤((p.aCb.size:Nat):Int)) (fun v1=>(((p.aCb.size:Nat):Int)-v1).toNat) ?_ _ _ bR bR
 intro v1 hI
 have:=eR (v1+1)
 unfold W4
 refine Ok.swd (fun g=>?_) (fun g=>Ok.brk hI)
 refine Ok.gdk bR (fun z=>?_)
 refine Ok.swd (fun _=>Ok.next bR) (fun _=>?_)
 refine Ok.swd (fun _=>Ok.next bR) (fun _=>Ok.brk hI)
def ad1(p:dG)(r:aB×dG):Prop:=r.2.aCb=p.aCb∧p.aB2≤r.2.aB2∧r.2.aB2≤((p.aCb.size:Nat):Int)∧(r.2.aB5=false→r.2.aBY=p.aBY∧(wt r.1:Int)+1≤2*(r.2.aB2-p.aB2))
def anC(n:Nat)(r:dG→Option (aB×dG)):Prop:= ∀p:dG,(14-p.aBY).toNat<n→0≤p.aB2→p.aB2≤((p.aCb.size:Nat):Int)→p.aCb.size≤1048576→0≤p.aBY→p.aBY≤14→p.aB5=false→Ok (r p) (ad1 p)
theorem ajH(n fu:Nat)(hfu:2147483648≤fu)(k1:Y8 fu)(k2:Y6 fu)(r:zW)(hr:anC n r):anC (n+1) (JM fu r):=by
 intro p hn h0 h1 h2 hd hd2 hb
 unfold JM
 refine Ok.bd (k1 p h0 h1 h2) ?_;rintro x ⟨e1,e2,e3,e4,e5⟩
 have e3':x.aB2≤((x.aCb.size:Nat):Int):=by rw [e1];exact e3
 have bad: ∀v:Int,p.aB2≤v→v≤((p.aCb.size:Nat):Int)→Ok (some ((aB.mk s_ []),(dG.mk x.aCb v x.aBY (aZ (x.aB0+1)) true))) (ad1 p):=fun v hv hv2=>Ok.some ⟨e1,hv,hv2,fun h=>by cases h⟩
 refine Ok.swd (fun _=>bad _ e2 e3) (fun g1=>?_)
 refine Ok.swd (fun _=>bad _ e2 e3) (fun g2=>?_)
 refine Ok.sok (E:=fun v=>x.aB2≤v∧v≤((x.aCb.size:Nat):Int)) ?_ ?_
 ·have hz:x.aCb.size≤1048576:=by rw [e1];exact h2
  refine Ok.loopW (fun v1=>x.aB2≤v1∧v1≤((x.aCb.size:Nat):Int)) (fun v1=>(((x.aCb.size:Nat):Int)-v1).toNat) ?_ _ _ bR bR
  intro v1 hI
  have:=eR (v1+1)
  unfold W2
  refine Ok.swd (fun g=>?_) (fun g=>Ok.brk hI)
  refine Ok.gdk bR (fun z=>?_)
  refine Ok.bd (k2 _) ?_;rintro b-
  exact Ok.sw (fun _=>Ok.next bR) (fun _=>Ok.brk hI)
 intro v hv
 refine Ok.swd (fun g3=>?_) (fun g3=>?_)
 ·refine Ok.gdk bR (fun z=>Ok.some ⟨e1,by show _≤v;omega,by show v≤_;rw [← e1];exact hv.2,fun _=>⟨e4,?_⟩⟩)
  show(wt (aB.mk _ []):Int)+1≤2*(v-p.aB2)
  rw [aB.wt_mk,EU]
  have:wl ([]:List aB)=0:=rfl
  omega
 ·refine Ok.gdk bR (fun z=>?_)
  have hvp:v≤((p.aCb.size:Nat):Int):=by rw [← e1];exact hv.2
  refine Ok.swn (fun _=>bad _ (by omega) hvp) (fun g4=>?_)
  refine Ok.swd (fun _=>bad _ (by omega) hvp) (fun g5=>?_)
  have w1:=eR (v+1)
  have w2:=eR (x.aBY+1)
  have hz:x.aCb.size≤1048576:=by rw [e1];exact h2
  refine Ok.sok (E:=fun(q:ByteArray×Int×Int×Int×Bool×List aB)=>q.1=p.aCb∧p.aB2≤q.2.1∧q.2.1≤((p.aCb.size:Nat):Int)∧q.2.2.2.2.1=true) ?_ ?_
  ·refine Ok.loopW (fun(q:ByteArray×Int×Int×Int×Bool×List aB)=>q.1=p.aCb∧v+1≤q.2.1∧q.2.1≤((p.aCb.size:Nat):Int)∧(q.2.2.2.2.1=false→q.2.2.1=p.aBY+1∧(wl q.2.2.2.2.2:Int)≤2*(q.2.1-(v+1)))) (fun q=>(2*(((p.aCb.size:Nat):Int)-q.2.1)).toNat+(if q.2.2.2.2.1 then 0 else 1)) ?_ _ _ ?_ ?_
   ·rintro⟨v17,v18,v19,v20,v21,v23⟩ ⟨i1,i2,i3,i4⟩
    dsimp only at i1 i2 i3 i4
    subst i1
    unfold W3
    refine Ok.swb (fun g6=>?_) (fun g6=>Ok.brk ⟨rfl,by show p.aB2≤v18;omega,i3,g6⟩)
    subst g6
    obtain⟨i5,i6⟩:=i4 rfl
    subst i5
    refine Ok.bd (k1 _ (by show 0≤v18;omega) i3 h2) ?_;rintro y ⟨f1,f2,f3,f4,f5⟩
    replace f1:y.aCb=p.aCb:=f1
    replace f2:v18≤y.aB2:=f2
    replace f3:y.aB2≤((p.aCb.size:Nat):Int):=f3
    replace f4:y.aBY=p.aBY+1:=f4
    replace f5:y.aB5=false:=f5
    have hl:=bB v23
    have step: ∀q:aB×dG,ad1 y q→Ok (gd ((v23).length+(([q.1]:List aB)).length≤68719476736) (some (LR.next (q.2.aCb,q.2.aB2,q.2.aBY,q.2.aB0,q.2.aB5,(v23++([q.1]:List aB)))))) (PL (ad1 p) (fun s'=>(fun(q:ByteArray×Int×Int×Int×Bool×List aB)=>q.1=p.aCb∧v+1≤q.2.1∧q.2.1≤((p.aCb.size:Nat):Int)∧(q.2.2.2.2.1=false→q.2.2.1=p.aBY+1∧(wl q.2.2.2.2.2:Int)≤2*(q.2.1-(v+1)))) s'∧(fun(q:ByteArray×Int×Int×Int×Bool×List aB)=>(2*(((p.aCb.size:Nat):Int)-q.2.1)).toNat+(if q.2.2.2.2.1 then 0 else 1)) s'<(fun(q:ByteArray×Int×Int×Int×Bool×List aB)=>(2*(((p.aCb.size:Nat):Int)-q.2.1)).toNat+(if q.2.2.2.2.1 then 0 else 1)) (p.aCb,v18,p.aBY+1,v20,false,v23)) (fun(q:ByteArray×Int×Int×Int×Bool×List aB)=>q.1=p.aCb∧p.aB2≤q.2.1∧q.2.1≤((p.aCb.size:Nat):Int)∧q.2.2.2.2.1=true)):=by
     rintro⟨a,b⟩ ⟨j1,j2,j3,j4⟩
     dsimp only at j1 j2 j3 j4
     have j3':b.aB2≤((p.aCb.size:Nat):Int):=by rw [← f1];exact j3
     have l1:=cG a
     refine Ok.gdk (by dsimp only;omega) (fun _=>Ok.next ⟨⟨j1.trans f1,by show v+1≤b.aB2;omega,j3',fun hb2=>?_⟩,?_⟩)
     ·obtain⟨j5,j6⟩:=j4 hb2
      refine⟨by show b.aBY=_;rw [j5,f4],?_⟩
      show(wl (v23++ [a]):Int)≤2*(b.aB2-(v+1))
      have:=b8 v23 [a]
      omega
     ·dsimp only
      cases hbb:b.aB5 with
      |true=>rw [if_pos rfl,if_neg Bool.false_ne_true];omega
      |false=>
       obtain⟨j5,j6⟩:=j4 hbb
       rw [if_neg Bool.false_ne_true]
       omega
    have call:Ok (r y) (ad1 y):=hr y (by rw [f4];omega) (by omega) (by rw [f1];exact f3) (by rw [f1];exact h2) (by rw [f4];omega) (by rw [f4];omega) f5
    have w3:=eR (y.aB2+1)
    have w4:=eR (y.aBY-1)
    have hys:y.aCb.size=p.aCb.size:=by rw [f1]
    refine Ok.swd (fun g7=>?_) (fun g7=>Ok.bd call step)
    refine Ok.gdk (by omega) (fun z2=>?_)
    refine Ok.swd (fun g8=>Ok.ret ⟨f1,by show p.aB2≤aZ _;omega,by show aZ _≤_;omega,fun _=>⟨by show aZ _=_;omega,?_⟩⟩) (fun g8=>Ok.bd call step)
    show(wt (aB.mk s_ v23):Int)+1≤2*(aZ (y.aB2+1)-p.aB2)
    rw [aB.wt_mk]
    have:s_.size=0:=rfl
    omega
   ·dsimp only
    have: ∀b:Bool,(if b then 0 else 1)≤1:=by decide
    have:=this x.aB5
    omega
   ·have hxs:x.aCb.size=p.aCb.size:=by rw [e1]
    refine⟨e1,by dsimp only;omega,by dsimp only;omega,fun _=>⟨by dsimp only;omega,?_⟩⟩
    show((wl ([]:List aB):Nat):Int)≤2*(aZ (v+1)-(v+1))
    have:wl ([]:List aB)=0:=rfl
    omega
  ·rintro⟨v17,v18,v19,v20,v21,v23⟩ ⟨i1,i2,i3,i4⟩
   dsimp only at i1 i2 i3 i4
   exact Ok.some ⟨i1,i2,i3,fun h=>by rw [show v21=false from h] at i4;cases i4⟩
theorem amO(n:Nat):bS fun fu=>anC n (sA fu):=by
 induction n with
 |zero=>exact .all fun fu p h=>absurd h (Nat.not_lt_zero _)
 |succ n ih=>
  refine bS.succ ((ih.and (((bS.ge 2147483648).and ZP).and I7)).imp fun fu h=>?_)
  intro p
  rw [sA]
  exact ajH n fu h.2.1.1 h.2.1.2 h.2.2 _ h.1 p
def XQ(fu:Nat):Prop:= ∀ps:ByteArray,ps.size≤1048576→Ok (w7 fu ps) (fun r=>wt r.1≤2*ps.size)
theorem CR:bS XQ:=(((amO 15).and ZP).and cP).imp fun fu hh ps h=>by
 obtain⟨⟨k1,k2⟩,k3⟩:=hh
 have zero: ∀b:Bool,Ok (some ((aB.mk s_ []),b)) (fun r=>wt r.1≤2*ps.size):=fun b=>Ok.some (by
  show wt (aB.mk s_ [])≤_
  rw [aB.wt_mk]
  have:s_.size=0:=rfl
  have:wl ([]:List aB)=0:=rfl
  omega)
 unfold w7
 refine Ok.bd (k1 _ (by show(14-(0:Int)).toNat<15;omega) (Int.le_refl _) (by show(0:Int)≤_;omega) h (Int.le_refl _) (by show(0:Int)≤14;omega) rfl) ?_;rintro⟨x,r⟩ ⟨e1,e2,e3,e4⟩
 dsimp only at e1 e2 e3 e4
 replace e1:r.aCb=ps:=e1
 replace e2:0≤r.aB2:=e2
 replace e3:r.aB2≤((ps.size:Nat):Int):=e3
 refine Ok.bd (k2 r e2 (by rw [e1];exact e3) (by rw [e1];exact h)) ?_;rintro y ⟨f1,f2,f3,f4,f5⟩
 refine Ok.sw (fun _=>zero _) (fun g=>?_)
 obtain⟨-,e5⟩:=e4 (by rw [← f5];exact g)
 replace e5:(wt x:Int)+1≤2*(r.aB2-0):=e5
 refine Ok.swn (fun _=>zero _) (fun _=>?_)
 refine Ok.bd (k3 x (by omega)) ?_;rintro b-
 exact Ok.swb (fun _=>zero _) (fun _=>Ok.some (by show wt x≤_;omega))
theorem arA{v:Int}{k:Nat}(h:v.natAbs<10^(k+1)):(v.tdiv 10).natAbs<10^k:=by
 rw [Int.natAbs_tdiv,Nat.pow_succ] at*
 show v.natAbs/10<_
 omega
def EQ(fu:Nat):Prop:= ∀pn:Int,pn.natAbs≤9223372036854775808→Ok (n7 fu pn) (fun r=>r.size≤21)
theorem mH:bS EQ:=(bS.ge 18446744073709551616).imp fun fu hfu pn h=>by
 unfold n7
 refine Ok.swd (fun _=>Ok.some (by decide)) (fun _=>?_)
 refine Ok.sok (E:=fun q:Int×ByteArray=>q.2.size≤20) ?_ ?_
 ·refine Ok.loopW (fun q:Int×ByteArray=>q.1.natAbs≤9223372036854775808∧ ∃k,q.2.size+k≤19∧q.1.natAbs<10^k) (fun q=>q.1.natAbs) ?_ _ _ (by dsimp only;omega) ⟨h,19,by show(0:Nat)+19≤19;omega,by dsimp only;omega⟩
  rintro⟨v2,v3⟩ ⟨h1,k,h2,h3⟩
  dsimp only at h1 h2 h3
  unfold K2
  refine Ok.swn (fun g=>?_) (fun _=>Ok.brk (by dsimp only;omega))
  obtain⟨k,rfl⟩: ∃m,k=m+1:=by
   rcases k with _|m
   ·exfalso
    have:(10:Nat)^0=1:=rfl
    omega
   ·exact⟨m,rfl⟩
  have h4:=arA h3
  have h5:(v2.tdiv 10).natAbs<v2.natAbs:=by
   rw [Int.natAbs_tdiv]
   show v2.natAbs/10<_
   omega
  have w:=eR (v2.tdiv 10)
  have w:aZ (v2.tdiv 10)=v2.tdiv 10:=w (by omega)
  have fin: ∀u:UInt8,Ok (gd ((bytesStr ([u]:List UInt8)).size+(v3).size≤1099511627776) (some (LR.next ((aZ ((v2).tdiv 10)),((bytesStr ([u]:List UInt8))++v3))))) (PL (fun r:ByteArray=>r.size≤21) (fun s'=>(fun q:Int×ByteArray=>q.1.natAbs≤9223372036854775808∧ ∃k,q.2.size+k≤19∧q.1.natAbs<10^k) s'∧(fun q:Int×ByteArray=>q.1.natAbs) s'<(fun q:Int×ByteArray=>q.1.natAbs) (v2,v3)) (fun q:Int×ByteArray=>q.2.size≤20)):=fun u=>by
   have e1:=anI [u]
   have e2: [u].length=1:=rfl
   have e3:=eY (bytesStr [u]) v3
   refine Ok.gdk (by omega) (fun _=>Ok.next ⟨⟨by dsimp only;rw [w];omega,k,by dsimp only;omega,by dsimp only;rw [w];exact h4⟩,by dsimp only;rw [w];exact h5⟩)
  exact Ok.swd (fun _=>fin _) (fun _=>fin _)
 ·rintro⟨v2,v3⟩ hv
  dsimp only at hv
  have:GT.size=1:=rfl
  have:=eY GT v3
  exact Ok.swd (fun _=>Ok.gdk (by omega) (fun _=>Ok.some bR)) (fun _=>Ok.some bR)
def BI(fu:Nat):Prop:= ∀ps:ByteArray,Ok (BW fu ps) (fun r=>r.1.natAbs≤9223372036854775808)
theorem mI:bS BI:=mH.imp fun fu k ps=>by
 have rng: ∀E:Int,(aZ E).natAbs≤9223372036854775808:=fun E=>by have:=aoR E;omega
 have fin: ∀v:Int,v.natAbs≤9223372036854775808→Ok (bd (n7 fu v) (fun x18=>sw (!decide (x18=ps)) (some ((0:Int),false)) (some (v,true)))) (fun r=>r.1.natAbs≤9223372036854775808):=fun v hv=>by
  refine Ok.bd (k v hv) ?_;rintro x-
  exact Ok.swn (fun _=>Ok.some (by decide)) (fun _=>Ok.some hv)
 have loop: ∀(f:Nat→Int→Option (LR Int (Int×Bool))) (n:Nat),(∀i s,i<n→Ok (f i s) (PL (fun r:Int×Bool=>r.1.natAbs≤9223372036854775808) (fun v:Int=>v.natAbs≤9223372036854775808) (fun v:Int=>v.natAbs≤9223372036854775808)))→Ok (loopN f (n-0) 0 0) (PS (fun r:Int×Bool=>r.1.natAbs≤9223372036854775808) (fun v:Int=>v.natAbs≤9223372036854775808)):=fun f n hf=>Ok.loop0 (fun _ v=>v.natAbs≤9223372036854775808) (by decide) (fun i s _ h=>h) (fun i s hi _=>hf i s hi)
 unfold BW
 refine Ok.bd (Q:=fun r:Int×Bool=>r.1.natAbs≤9223372036854775808) ?_ (fun r hr=>by obtain⟨a,b⟩:=r;exact Ok.some hr)
 unfold RQ
 have hps:((ps.size:Nat):Int)=((ps.size:Nat):Int):=rfl
 refine Ok.swd (fun g=>?_) (fun g=>?_)
 ·refine Ok.gdk (by omega) (fun _=>?_)
  refine Ok.sok (E:=fun _=>True) ?_ ?_
  ·unfold WW
   exact Ok.swd (fun _=>Ok.gdk (by omega) (fun _=>Ok.inr trivial)) (fun _=>Ok.inr trivial)
  rintro v3-
  refine Ok.swd (fun _=>Ok.some (by decide)) (fun _=>?_)
  refine Ok.swd (fun _=>Ok.some (by decide)) (fun _=>?_)
  refine Ok.sok (E:=fun v:Int=>v.natAbs≤9223372036854775808) ?_ ?_
  ·refine loop _ _ (fun i s hi=>?_)
   unfold WY
   refine Ok.gdk hi (fun _=>?_)
   exact Ok.swd (fun _=>Ok.ret (by decide)) (fun _=>Ok.swd (fun _=>Ok.ret (by decide)) (fun _=>Ok.next (rng _)))
  intro v9 hv
  refine Ok.sok (E:=fun v:Int=>v.natAbs≤9223372036854775808) ?_ ?_
  ·unfold WX
   exact Ok.swd (fun _=>Ok.inr (rng _)) (fun _=>Ok.inr hv)
  intro v15 hv
  exact fin v15 hv
 ·refine Ok.swd (fun _=>Ok.some (by decide)) (fun _=>?_)
  refine Ok.swd (fun _=>Ok.some (by decide)) (fun _=>?_)
  refine Ok.sok (E:=fun v:Int=>v.natAbs≤9223372036854775808) ?_ (fun v hv=>fin v hv)
  refine loop _ _ (fun i s hi=>?_)
  unfold WZ
  refine Ok.gdk hi (fun _=>?_)
  exact Ok.swd (fun _=>Ok.ret (by decide)) (fun _=>Ok.swd (fun _=>Ok.ret (by decide)) (fun _=>Ok.next (rng _)))
end Go.Proofs.YtfcoaagbccmahaaGreat.W

namespace Go.Proofs.YtfcoaagbccmahaaGreat.W
set_option maxRecDepth 20000
set_option maxHeartbeats 4000000
open Go.RowKit Go.WalkArith Go.IntWalk
attribute [local irreducible] wt wl
def TT(fu:Nat):Prop:= ∀(p0:aB),wt p0≤268435456→Ok (mV fu p0) (fun r=>wt r≤2*wt p0)
def aaO(n:Nat)(m:JW):Prop:= ∀(p0:aB),wt p0<n→wt p0≤268435456→Ok (m p0) (fun r=>wt r≤2*wt p0)
theorem aoG{n fu:Nat}(hfu:2147483648≤fu)(fB:UL fu)(dJ:UK fu){pE:JW}(pF:aaO n pE):aaO (n+1) (adB fu pE):=by
 intro p0 hm hpre
 have:=aB.wt_eq p0
 have:s_.size=0:=rfl
 refine oN (fun g1=>?_) fun g1=>?_
 ·have:=G2 g1
  refine oG fun z2=>?_;refine oD (fun g3=>?_) fun g3=>?_
  ·refine oG fun z4=>?_
   have:=EU p0.aBy (1:Int).toNat (p0.aBy.size:Int).toNat
   exact oB (fB (p0.aBy.extract (1:Int).toNat (p0.aBy.size:Int).toNat)) fun x6 h5=>oS
  have:=(aX:wl ([]:List aA)=0∧_)
  exact oB (dJ p0.aBy ([]:List aA) bR) fun x8 h6=>oS
 have:=bB p0.aBv
 refine oD (fun g7=>?_) fun g7=>?_
 ·have:=(aX:wl ([]:List aA)=0∧_)
  have:=aA.wt_mk 0 s_ []
  exact oS
 have:=bB (p0.aBv)
 refine oG fun z8=>?_
 have:=(aX:wl ([]:List aA)=0∧_)
 refine Ok.sok (E:=fun v13=>wl v13+2*wl (List.take 1 p0.aBv)≤wl ([]:List aA)+2*wl p0.aBv∧(v13.length=0∨wl (List.drop 1 v13)+2*wl (List.take 2 p0.aBv)≤2*wl p0.aBv)) ?_ ?_
 ·refine Ok.loop0 (fun i11 v13=>wl v13+2*wl (List.take 1 p0.aBv)≤wl ([]:List aA)+2*wl (List.take i11 p0.aBv)∧((i11=1∧v13.length=0)∨(2≤i11∧1≤v13.length∧wl (List.drop 1 v13)+2*wl (List.take 2 p0.aBv)≤2*wl (List.take i11 p0.aBv)))) (by exact bR) (by rintro i11 v13-hI;have:=oQ p0.aBv i11;(try dsimp only at hI ⊢);omega) ?_;rintro i11 v13 hl10 hI11
  have:=oT p0.aBv i11 hl10
  have:=oQ p0.aBv (i11+1)
  have:=cW p0.aBv i11 hl10
  refine oB (pF (aT p0.aBv i11) bR bR) fun x17 h12=>?_
  have:=bB (v13)
  have:=cG x17
  refine oG fun z13=>?_
  have:=b8 v13 ([x17]:List aA)
  have:=ahW v13 x17
  have:=adG p0.aBv 2 (i11+1)
  exact Ok.next bR
 intro v13 h9
 have:=cW p0.aBv 0 z8
 have:wl (List.take 1 p0.aBv)=wl (List.take 0 p0.aBv)+wt (aT p0.aBv 0)+1:=K8 p0.aBv 0 z8
 have:=aB.wt_eq (aT p0.aBv 0)
 have:jF.size=5:=rfl
 refine oD (fun g14=>?_) fun g14=>?_
 ·have:=congrArg ByteArray.size g14
  have:=bB v13
  refine oD (fun g15=>?_) fun g15=>?_
  ·refine oG fun z16=>?_
   have:=cW p0.aBv 1 z16
   have:wl (List.take 2 p0.aBv)=wl (List.take 1 p0.aBv)+wt (aT p0.aBv 1)+1:=K8 p0.aBv 1 z16
   have:=aB.wt_eq (aT p0.aBv 1)
   refine oN (fun g17=>?_) fun g17=>?_
   ·have:=G2 g17
    refine oG fun z18=>?_
    have:=zE v13 1 1
    have:=ar7 v13
    have:=aA.wt_mk 3 ((aT p0.aBv 1).aBy) (List.drop (1:Int).toNat (List.take (v13.length:Int).toNat v13))
    exact oS
   have:y1.size=3:=rfl
   refine oD (fun g19=>?_) fun g19=>?_
   ·have:=congrArg ByteArray.size g19
    have:=aA.wt_mk 2 ((aT p0.aBv 0).aBy) v13
    exact oS
   have:=aA.wt_mk 2 ((aT p0.aBv 0).aBy) v13
   exact oS
  have:y1.size=3:=rfl
  refine oD (fun g20=>?_) fun g20=>?_
  ·have:=congrArg ByteArray.size g20
   refine oD (fun g21=>?_) fun g21=>?_
   ·refine oG fun z22=>?_
    have:=cW p0.aBv 1 z22
    have:wl (List.take 2 p0.aBv)=wl (List.take 1 p0.aBv)+wt (aT p0.aBv 1)+1:=K8 p0.aBv 1 z22
    have:=aB.wt_eq (aT p0.aBv 1)
    refine oN (fun g23=>?_) fun g23=>?_
    ·have:=G2 g23
     have:=aA.wt_mk 4 ((aT p0.aBv 1).aBy) []
     exact oS
    have:=aA.wt_mk 2 ((aT p0.aBv 0).aBy) v13
    exact oS
   have:=aA.wt_mk 2 ((aT p0.aBv 0).aBy) v13
   exact oS
  have:=aA.wt_mk 2 ((aT p0.aBv 0).aBy) v13
  exact oS
 have:y1.size=3:=rfl
 refine oD (fun g24=>?_) fun g24=>?_
 ·have:=congrArg ByteArray.size g24
  have:=bB v13
  refine oD (fun g25=>?_) fun g25=>?_
  ·refine oG fun z26=>?_
   have:=cW p0.aBv 1 z26
   have:wl (List.take 2 p0.aBv)=wl (List.take 1 p0.aBv)+wt (aT p0.aBv 1)+1:=K8 p0.aBv 1 z26
   have:=aB.wt_eq (aT p0.aBv 1)
   refine oN (fun g27=>?_) fun g27=>?_
   ·have:=G2 g27
    have:=aA.wt_mk 4 ((aT p0.aBv 1).aBy) []
    exact oS
   have:=aA.wt_mk 2 ((aT p0.aBv 0).aBy) v13
   exact oS
  have:=aA.wt_mk 2 ((aT p0.aBv 0).aBy) v13
  exact oS
 have:=aA.wt_mk 2 ((aT p0.aBv 0).aBy) v13
 exact oS
theorem apS(n:Nat):bS fun fu=>aaO n (mV fu):=by
 induction n with
 |zero=>exact .all fun fu=>fun _ h=>absurd h (Nat.not_lt_zero _)
 |succ n ih=>exact bS.succ ((ih.and (((bS.ge 2147483648).and fB).and dJ)).imp fun fu ⟨h,⟨⟨hfu,fB⟩,dJ⟩⟩=>fun p0=>by rw [mV];exact aoG hfu fB dJ h p0)
theorem g0:bS TT:=(apS 8589934592).imp fun fu h p0 hpre=>h p0 bR hpre
def C5(fu:Nat):Prop:= ∀(pn:Int),pn.natAbs≤9223372036854775808→Ok (t6 fu pn) (fun r=>wt r=0∧K9 r)
theorem fG:bS C5:=(bS.ge 2147483648).imp fun fu hfu pn hpre=>by
 have:s_.size=0:=rfl
 have:=(aX:wl ([]:List aA)=0∧_)
 have:=aA.wt_mk 0 s_ []
 have:=(aX:wl ([]:List aM)=0∧_)
 have:=(aX:wl ([]:List bV)=0∧_)
 have:=aM.wt_mk 1 s_ s_ pn (aA.mk 0 s_ []) [] []
 exact oS2
def C6(fu:Nat):Prop:= ∀(ps:ByteArray),Ok (wL fu ps) (fun r=>wt r=ps.size∧K9 r)
theorem fN:bS C6:=(bS.ge 2147483648).imp fun fu hfu ps=>by
 have:s_.size=0:=rfl
 have:=(aX:wl ([]:List aA)=0∧_)
 have:=aA.wt_mk 0 s_ []
 have:=(aX:wl ([]:List aM)=0∧_)
 have:=(aX:wl ([]:List bV)=0∧_)
 have:=aM.wt_mk 3 s_ ps 0 (aA.mk 0 s_ []) [] []
 exact oS2
def NK(fu:Nat):Prop:= ∀(pa pb:Int),Ok (rL fu pa pb) (fun r=>(pa≤pb∧r=pa)∨(pb≤pa∧r=pb))
theorem jD:bS NK:=(bS.ge 2147483648).imp fun fu hfu pa pb=>by
 exact oD (fun _=>oS) fun g1=>oS
def ahF(fu:Nat):Prop:= ∀(p0:aB),wt p0≤67108864→Ok (gU fu p0) (fun r=>wt r≤2*wt p0∧K9 r)
def z0(n:Nat)(m:j0):Prop:= ∀(p0:aB),2*wt p0+1<n→wt p0≤67108864→Ok (m p0) (fun r=>wt r≤2*wt p0∧K9 r)
def xE(n:Nat)(m:iJ):Prop:= ∀(p4:List aB),2*wl p4<n→wl p4≤67108864→Ok (m p4) (fun r=>wl r≤2*wl p4∧ ∀a∈r,K9 a)
def C4(n:Nat)(m:lO):Prop:= ∀(px:aB),2*wt px+1<n→wt px≤67108864→Ok (m px) (fun r=>wt r≤2*wt px∧K9 r.aBC)
theorem af7{n fu:Nat}(hfu:2147483648≤fu)(mI:BI fu)(fG:C5 fu)(fN:C6 fu)(jD:NK fu)(g0:TT fu)(iF:ER fu){p5:j0}(p8:z0 n p5){p3:iJ}(p1:xE n p3){p6:lO}(pA:C4 n p6):z0 (n+1) (MT fu p5 p3 p6):=by
 intro p0 hm hpre
 have:=aB.wt_eq p0
 have:s_.size=0:=rfl
 refine oN (fun g1=>?_) fun g1=>?_
 ·have:=G2 g1
  refine vH (mI p0.aBy) fun x3 x4 h2=>?_
  dsimp only at h2
  refine oC (fun g3=>?_) fun g3=>?_
  ·exact SF (fG x3 bR) fun x7 h4 h4B=>oS2
  have:qE.size=4:=rfl
  refine oD (fun g5=>?_) fun g5=>?_
  ·have:=congrArg ByteArray.size g5
   have:=(aX:wl ([]:List aA)=0∧_)
   have:=aA.wt_mk 0 s_ []
   have:=(aX:wl ([]:List aM)=0∧_)
   have:=(aX:wl ([]:List bV)=0∧_)
   have:=aM.wt_mk 2 s_ s_ 1 (aA.mk 0 s_ []) [] []
   exact oS2
  have:l0.size=5:=rfl
  refine oD (fun g6=>?_) fun g6=>?_
  ·have:=congrArg ByteArray.size g6
   have:=(aX:wl ([]:List aA)=0∧_)
   have:=aA.wt_mk 0 s_ []
   have:=(aX:wl ([]:List aM)=0∧_)
   have:=(aX:wl ([]:List bV)=0∧_)
   have:=aM.wt_mk 2 s_ s_ 0 (aA.mk 0 s_ []) [] []
   exact oS2
  exact SF (fN p0.aBy) fun x11 h7 h7B=>oS2
 have:=(aX:wl ([]:List aB)=0∧_)
 have:=bB (p0.aBv)
 refine oG fun z8=>?_
 have:=b8 ([]:List aB) p0.aBv
 have:=aB.wt_mk s_ []
 have:=GM (aB.mk s_ []) (aB.mk s_ []) (aB.mk s_ [])
 refine oG fun z9=>?_
 have:=b8 (([])++p0.aBv) ([(aB.mk s_ []),(aB.mk s_ []),(aB.mk s_ [])]:List aB)
 refine oG fun z10=>?_
 have:=aiF p0.aBv (aB.mk s_ []) (aB.mk s_ []) (aB.mk s_ []) 1 2 rfl
 refine Ok.lt fun y15 h11=>?_
 have:=congrArg wt h11
 refine oG fun z12=>?_
 have:=aiF p0.aBv (aB.mk s_ []) (aB.mk s_ []) (aB.mk s_ []) 0 1 rfl
 refine Ok.lt fun y18 h13=>?_
 have:=congrArg wt h13
 have:=aB.wt_eq y18
 have:RF.size=4:=rfl
 refine oD (fun g14=>?_) fun g14=>?_
 ·have:=congrArg ByteArray.size g14
  have:=bB p0.aBv
  refine oB (jD 2 (p0.aBv.length:Int)) fun x22 h15=>oG fun z16=>?_
  have:=zE p0.aBv x22 2
  refine SF (p1 (List.drop (x22:Int).toNat (List.take (p0.aBv.length:Int).toNat p0.aBv)) bR bR) fun x25 h17 h17B=>?_
  have:=aB.wt_eq y15
  have:=(aX:wl ([]:List aA)=0∧_)
  have:=aA.wt_mk 0 s_ []
  have:=(aX:wl ([]:List bV)=0∧_)
  have:=aM.wt_mk 4 s_ y15.aBy 0 (aA.mk 0 s_ []) x25 []
  exact oS2
 have:o5.size=6:=rfl
 refine oD (fun g18=>?_) fun g18=>?_
 ·have:=congrArg ByteArray.size g18
  refine oG fun z19=>?_
  have:=aiF p0.aBv (aB.mk s_ []) (aB.mk s_ []) (aB.mk s_ []) 2 3 rfl
  refine Ok.lt fun y28 h20=>?_
  have:=congrArg wt h20
  have:=bB p0.aBv
  refine oB (jD 3 (p0.aBv.length:Int)) fun x31 h21=>oG fun z22=>?_
  have:=zE p0.aBv x31 3
  refine SF (p1 (List.drop (x31:Int).toNat (List.take (p0.aBv.length:Int).toNat p0.aBv)) bR bR) fun x34 h23 h23B=>?_
  have:=aB.wt_eq y15
  have:=aB.wt_eq y28
  have:=(aX:wl ([]:List aA)=0∧_)
  have:=aA.wt_mk 0 s_ []
  have:=(aX:wl ([]:List bV)=0∧_)
  have:=aM.wt_mk 5 y15.aBy y28.aBy 0 (aA.mk 0 s_ []) x34 []
  exact oS2
 have:GL.size=3:=rfl
 refine oD (fun g24=>?_) fun g24=>?_
 ·have:=congrArg ByteArray.size g24
  have:=bB p0.aBv
  refine oB (jD 2 (p0.aBv.length:Int)) fun x37 h25=>oG fun z26=>?_
  have:=zE p0.aBv x37 2
  refine SF (p1 (List.drop (x37:Int).toNat (List.take (p0.aBv.length:Int).toNat p0.aBv)) bR bR) fun x40 h27 h27B=>?_
  have:=aB.wt_eq y15
  have:=(aX:wl ([]:List aA)=0∧_)
  have:=aA.wt_mk 0 s_ []
  have:=(aX:wl ([]:List bV)=0∧_)
  have:=aM.wt_mk 6 s_ y15.aBy 0 (aA.mk 0 s_ []) x40 []
  exact oS2
 have:GK.size=3:=rfl
 refine oD (fun g28=>?_) fun g28=>?_
 ·have:=congrArg ByteArray.size g28
  have:=bB p0.aBv
  refine oB (jD 2 (p0.aBv.length:Int)) fun x43 h29=>oG fun z30=>?_
  have:=zE p0.aBv x43 2
  refine SF (p1 (List.drop (x43:Int).toNat (List.take (p0.aBv.length:Int).toNat p0.aBv)) bR bR) fun x46 h31 h31B=>?_
  have:=aB.wt_eq y15
  have:=(aX:wl ([]:List aA)=0∧_)
  have:=aA.wt_mk 0 s_ []
  have:=(aX:wl ([]:List bV)=0∧_)
  have:=aM.wt_mk 8 s_ y15.aBy 0 (aA.mk 0 s_ []) x46 []
  exact oS2
 have:FP.size=2:=rfl
 refine oD (fun g32=>?_) fun g32=>?_
 ·have:=congrArg ByteArray.size g32
  have:=bB p0.aBv
  refine oG fun z33=>?_
  have:=zE p0.aBv 1 1
  refine SF (p1 (List.drop (1:Int).toNat (List.take (p0.aBv.length:Int).toNat p0.aBv)) bR bR) fun x50 h34 h34B=>?_
  have:=(aX:wl ([]:List aA)=0∧_)
  have:=aA.wt_mk 0 s_ []
  have:=(aX:wl ([]:List bV)=0∧_)
  have:=aM.wt_mk 9 s_ s_ 0 (aA.mk 0 s_ []) x50 []
  exact oS2
 have:yS.size=4:=rfl
 refine oD (fun g35=>?_) fun g35=>?_
 ·have:=congrArg ByteArray.size g35
  have:=bB p0.aBv
  refine oB (jD 2 (p0.aBv.length:Int)) fun x53 h36=>oG fun z37=>?_
  have:=zE p0.aBv x53 2
  refine SF (p1 (List.drop (x53:Int).toNat (List.take (p0.aBv.length:Int).toNat p0.aBv)) bR bR) fun x56 h38 h38B=>?_
  have:=aB.wt_eq y15
  have:=(aX:wl ([]:List aA)=0∧_)
  have:=aA.wt_mk 0 s_ []
  have:=(aX:wl ([]:List bV)=0∧_)
  have:=aM.wt_mk 11 y15.aBy s_ 0 (aA.mk 0 s_ []) x56 []
  exact oS2
 have:Z6.size=3:=rfl
 refine oD (fun g39=>?_) fun g39=>?_
 ·have:=congrArg ByteArray.size g39
  refine oB (g0 y15 bR) fun x59 h40=>?_
  have:=bB p0.aBv
  refine oB (jD 2 (p0.aBv.length:Int)) fun x61 h41=>oG fun z42=>?_
  have:=zE p0.aBv x61 2
  refine SF (p1 (List.drop (x61:Int).toNat (List.take (p0.aBv.length:Int).toNat p0.aBv)) bR bR) fun x64 h43 h43B=>?_
  have:=(aX:wl ([]:List bV)=0∧_)
  have:=aM.wt_mk 12 s_ s_ 0 x59 x64 []
  exact oS2
 have:yR.size=4:=rfl
 refine oD (fun g44=>?_) fun g44=>?_
 ·have:=congrArg ByteArray.size g44
  have:=bB p0.aBv
  refine oB (jD 2 (p0.aBv.length:Int)) fun x67 h45=>oG fun z46=>?_
  have:=apD p0.aBv x67
  refine SF (p1 (List.drop (1:Int).toNat (List.take (x67:Int).toNat p0.aBv)) bR bR) fun x70 h47 h47B=>?_
  have:=(aX:wl ([]:List bV)=0∧_)
  refine apC (PA:=fun a=>K9 a.aBC) p0.aBv 2 (fun i71 v73 hl49 hI50 hI50B _ _=>?_) ?_
  ·have:=cW p0.aBv i71 hl49
   refine SF (pA (aT p0.aBv i71) bR bR) fun x77 h51 h51B=>?_
   have:=bB (v73)
   have:=cG x77
   refine oG fun z52=>?_
   have:=b8 v73 ([x77]:List bV)
   exact oX hI50B
  rintro v73 ⟨h48,h48B⟩
  have:=(aX:wl ([]:List aA)=0∧_)
  have:=aA.wt_mk 0 s_ []
  have:=aM.wt_mk 7 s_ s_ 0 (aA.mk 0 s_ []) x70 v73
  exact oS2
 have:=bB p0.aBv
 refine oB (jD 1 (p0.aBv.length:Int)) fun x80 h53=>oG fun z54=>?_
 have:=zE p0.aBv x80 1
 refine SF (p1 (List.drop (x80:Int).toNat (List.take (p0.aBv.length:Int).toNat p0.aBv)) bR bR) fun x83 h55 h55B=>?_
 have:=(aX:wl ([]:List aA)=0∧_)
 have:=aA.wt_mk 0 s_ []
 have:=(aX:wl ([]:List bV)=0∧_)
 have:=aM.wt_mk 10 s_ y18.aBy 0 (aA.mk 0 s_ []) x83 []
 exact oS2
theorem ab8{n fu:Nat}(hfu:2147483648≤fu)(mI:BI fu)(fG:C5 fu)(fN:C6 fu)(jD:NK fu)(g0:TT fu)(iF:ER fu){p5:j0}(p8:z0 n p5){p3:iJ}(p1:xE n p3){p6:lO}(pA:C4 n p6):xE (n+1) (IE fu p5 p3 p6):=by
 intro p4 hm hpre
 have:=(aX:wl ([]:List aM)=0∧_)
 refine apC (PA:=fun a=>K9 a) p4 2 (fun i1 v3 hl2 hI3 hI3B _ _=>?_) ?_
 ·have:=bB p4
  have:=cW p4 i1 hl2
  refine SF (p8 (aT p4 i1) bR bR) fun x7 h4 h4B=>?_
  have:=bB (v3)
  have:=cG x7
  refine oG fun z5=>?_
  have:=b8 v3 ([x7]:List aM)
  exact oX hI3B
 rintro v3 ⟨h1,h1B⟩
 exact oS2
theorem aiX{n fu:Nat}(hfu:2147483648≤fu)(mI:BI fu)(fG:C5 fu)(fN:C6 fu)(jD:NK fu)(g0:TT fu)(iF:ER fu){p5:j0}(p8:z0 n p5){p3:iJ}(p1:xE n p3){p6:lO}(pA:C4 n p6):C4 (n+1) (RJ fu p5 p3 p6):=by
 intro px hm hpre
 have:=aB.wt_eq px
 have:=bB px.aBv
 refine oD (fun g1=>?_) fun g1=>?_
 ·have:s_.size=0:=rfl
  have:=(aX:wl ([]:List aA)=0∧_)
  have:=aA.wt_mk 0 s_ []
  have:=(aX:wl ([]:List aM)=0∧_)
  have:=(aX:wl ([]:List bV)=0∧_)
  have:=aM.wt_mk 0 s_ s_ 0 (aA.mk 0 s_ []) [] []
  have:=(aX:wl ([]:LB)=0∧_)
  have:=bV.wt_mk s_ [] (aM.mk 0 s_ s_ 0 (aA.mk 0 s_ []) [] [])
  exact oS2
 have:=eR ((px.aBv.length:Int)-1)
 refine oG fun z2=>?_
 have:=UB (1:Int).toNat (aZ ((px.aBv.length:Int)-1):Int).toNat px.aBv
 have:=aqX px.aBv (aZ ((px.aBv.length:Int)-1):Int).toNat
 have:=K8 px.aBv (aZ ((px.aBv.length:Int)-1):Int).toNat
 have:=oQ px.aBv ((aZ ((px.aBv.length:Int)-1):Int).toNat+1)
 refine vH (iF (List.drop (1:Int).toNat (List.take (aZ ((px.aBv.length:Int)-1):Int).toNat px.aBv)) bR) fun x4 x5 h3=>?_
 dsimp only at h3
 have:=bB (px.aBv)
 refine oG fun z4=>oG fun z5=>?_
 have:=cW px.aBv ((aZ ((px.aBv.length:Int)-1)).toNat) z5.2
 refine Ok.lt fun y8 h6=>?_
 have:=congrArg wt h6
 refine SF (p8 y8 bR bR) fun x11 h7 h7B=>?_
 have:=cW px.aBv 0 z4
 have:wl (List.take 1 px.aBv)=wl (List.take 0 px.aBv)+wt (aT px.aBv 0)+1:=K8 px.aBv 0 z4
 have:=aB.wt_eq (aT px.aBv 0)
 have:=bV.wt_mk ((aT px.aBv 0).aBy) x4 x11
 exact oS2
theorem aiY(n:Nat):bS fun fu=>z0 n (gU fu)∧xE n (kQ fu)∧C4 n (nO fu):=by
 induction n with
 |zero=>exact .all fun fu=>⟨fun _ h=>absurd h (Nat.not_lt_zero _),fun _ h=>absurd h (Nat.not_lt_zero _),fun _ h=>absurd h (Nat.not_lt_zero _)⟩
 |succ n ih=>exact bS.succ ((ih.and (((((((bS.ge 2147483648).and mI).and fG).and fN).and jD).and g0).and iF)).imp fun fu ⟨h,⟨⟨⟨⟨⟨⟨hfu,mI⟩,fG⟩,fN⟩,jD⟩,g0⟩,iF⟩⟩=>⟨fun p0=>by rw [gU];exact af7 hfu mI fG fN jD g0 iF h.1 h.2.1 h.2.2 p0,fun p4=>by rw [kQ];exact ab8 hfu mI fG fN jD g0 iF h.1 h.2.1 h.2.2 p4,fun px=>by rw [nO];exact aiX hfu mI fG fN jD g0 iF h.1 h.2.1 h.2.2 px⟩)
theorem n0:bS ahF:=(aiY 8589934592).imp fun fu h p0 hpre=>h.1 p0 bR hpre
def am6(fu:Nat):Prop:= ∀(p0:aM),wt p0≤2097152→(K9 p0)→Ok (mQ fu p0) (fun r=>wt r+8≤32*(wt p0+1))
def NG(n:Nat)(m:sZ):Prop:= ∀(p0:aM),2*wt p0+1<n→wt p0≤2097152→(K9 p0)→Ok (m p0) (fun r=>wt r+8≤32*(wt p0+1))
def EP(n:Nat)(m:m4):Prop:= ∀(pD:List aB) (p4:List aM),2*wl p4<n→wl pD≤33554432∧wl p4≤2097152→(∀a∈p4,K9 a)→Ok (m pD p4) (fun r=>wt r≤wl pD+32*wl p4)
theorem amK{n fu:Nat}(hfu:2147483648≤fu)(mH:EQ fu)(bO:IX fu)(iT:aaT fu)(mX:LP fu){p9:sZ}(pC:NG n p9){p7:m4}(p2:EP n p7):NG (n+1) (WO fu p9 p7):=by
 intro p0 hm hpre hB
 have hN:=hB.num
 have:=aM.wt_eq p0
 refine oD (fun g1=>?_) fun g1=>?_
 ·exact oB (mH p0.aCa bR) fun x3 h2=>oB (bO x3) fun x5 h3=>oS
 refine oD (fun g4=>?_) fun g4=>?_
 ·have:l0.size=5:=rfl
  have:qE.size=4:=rfl
  have:=k7 l0 qE
  have:=bA l0
  have:=bA qE
  refine oG fun z5=>?_
  have:=cW ([l0,qE]:LB) ((p0.aCa).toNat) z5.2
  have:=bA (aT ([l0,qE]:LB) ((p0.aCa).toNat))
  exact oB (bO (aT ([l0,qE]:LB) ((p0.aCa).toNat))) fun x9 h6=>oS
 refine oD (fun g7=>?_) fun g7=>?_
 ·exact oB (bO p0.aBs) fun x12 h8=>oS
 refine oD (fun g9=>?_) fun g9=>?_
 ·have:RF.size=4:=rfl
  refine oB (bO RF) fun x15 h10=>oB (bO p0.aBs) fun x17 h11=>?_
  have:=k7 x15 x17
  refine oB (p2 ([x15,x17]:List aB) p0.aBt bR bR (by exact hB.arg)) fun x19 h12=>?_
  have:=aB.wt_eq x19
  have:=aB.wt_mk x19.aBy x19.aBv
  exact oS
 refine oD (fun g13=>?_) fun g13=>?_
 ·have:o5.size=6:=rfl
  refine oB (bO o5) fun x22 h14=>oB (bO p0.aBz) fun x24 h15=>oB (bO p0.aBs) fun x26 h16=>?_
  have:=GM x22 x24 x26
  refine oB (p2 ([x22,x24,x26]:List aB) p0.aBt bR bR (by exact hB.arg)) fun x28 h17=>?_
  have:=aB.wt_eq x28
  have:=aB.wt_mk x28.aBy x28.aBv
  exact oS
 refine oD (fun g18=>?_) fun g18=>?_
 ·have:GL.size=3:=rfl
  refine oB (bO GL) fun x31 h19=>oB (bO p0.aBs) fun x33 h20=>?_
  have:=k7 x31 x33
  refine oB (p2 ([x31,x33]:List aB) p0.aBt bR bR (by exact hB.arg)) fun x35 h21=>?_
  have:=aB.wt_eq x35
  have:=aB.wt_mk x35.aBy x35.aBv
  exact oS
 refine oD (fun g22=>?_) fun g22=>?_
 ·have:GK.size=3:=rfl
  refine oB (bO GK) fun x38 h23=>oB (bO p0.aBs) fun x40 h24=>?_
  have:=k7 x38 x40
  refine oB (p2 ([x38,x40]:List aB) p0.aBt bR bR (by exact hB.arg)) fun x42 h25=>?_
  have:=aB.wt_eq x42
  have:=aB.wt_mk x42.aBy x42.aBv
  exact oS
 refine oD (fun g26=>?_) fun g26=>?_
 ·have:FP.size=2:=rfl
  refine oB (bO FP) fun x45 h27=>?_
  have:=cG x45
  refine oB (p2 ([x45]:List aB) p0.aBt bR bR (by exact hB.arg)) fun x47 h28=>?_
  have:=aB.wt_eq x47
  have:=aB.wt_mk x47.aBy x47.aBv
  exact oS
 refine oD (fun g29=>?_) fun g29=>?_
 ·refine oB (bO p0.aBs) fun x50 h30=>?_
  have:=cG x50
  refine oB (p2 ([x50]:List aB) p0.aBt bR bR (by exact hB.arg)) fun x52 h31=>?_
  have:=aB.wt_eq x52
  have:=aB.wt_mk x52.aBy x52.aBv
  exact oS
 refine oD (fun g32=>?_) fun g32=>?_
 ·have:yS.size=4:=rfl
  refine oB (bO yS) fun x55 h33=>oB (bO p0.aBz) fun x57 h34=>?_
  have:=k7 x55 x57
  refine oB (p2 ([x55,x57]:List aB) p0.aBt bR bR (by exact hB.arg)) fun x59 h35=>?_
  have:=aB.wt_eq x59
  have:=aB.wt_mk x59.aBy x59.aBv
  exact oS
 refine oD (fun g36=>?_) fun g36=>?_
 ·have:Z6.size=3:=rfl
  refine oB (bO Z6) fun x62 h37=>oB (iT p0.aBu bR) fun x64 h38=>?_
  have:=k7 x62 x64
  refine oB (p2 ([x62,x64]:List aB) p0.aBt bR bR (by exact hB.arg)) fun x66 h39=>?_
  have:=aB.wt_eq x66
  have:=aB.wt_mk x66.aBy x66.aBv
  exact oS
 have:yR.size=4:=rfl
 refine oB (bO yR) fun x68 h40=>?_
 have:=cG x68
 refine oB (p2 ([x68]:List aB) p0.aBt bR bR (by exact hB.arg)) fun x70 h41=>?_
 have:=aB.wt_eq x70
 refine QP p0.aBN 32 (fun i71 v73 hl43 hI44 _ _=>?_) ?_
 ·have:=bB p0.aBN
  have:=cW p0.aBN i71 hl43
  refine Ok.lt fun y76 h45=>?_
  have:=congrArg wt h45
  have:=bV.wt_eq y76
  refine oB (bO y76.aBU) fun x79 h46=>oB (mX y76.aBF bR) fun x81 h47=>?_
  have:=cG x79
  have:=bB (x81)
  refine oG fun z48=>oB (pC y76.aBC bR bR (by rw [show y76=aT p0.aBN i71 by assumption];exact aaV hB.arm (by assumption))) fun x84 h49=>?_
  have:=b8 ([x79]:List aB) x81
  have:=cG x84
  refine oG fun z50=>?_
  have:=bB (v73)
  have:s_.size=0:=rfl
  have:=b8 (([x79]:List aB)++x81) ([x84]:List aB)
  have:=aB.wt_mk s_ ((([x79]:List aB)++x81)++([x84]:List aB))
  have:=cG (aB.mk s_ ((([x79]:List aB)++x81)++([x84]:List aB)))
  refine oG fun z51=>?_
  have:=b8 v73 ([(aB.mk s_ ((([x79]:List aB)++x81)++([x84]:List aB)))]:List aB)
  exact qD
 intro v73 h42
 have:=aB.wt_mk x70.aBy v73
 exact oS
theorem af5{n fu:Nat}(hfu:2147483648≤fu)(mH:EQ fu)(bO:IX fu)(iT:aaT fu)(mX:LP fu){p9:sZ}(pC:NG n p9){p7:m4}(p2:EP n p7):EP (n+1) (MS fu p9 p7):=by
 intro pD p4 hm hpre hB
 refine QP p4 32 (fun i1 v3 hl2 hI3 _ _=>?_) ?_
 ·have:=bB p4
  have:=cW p4 i1 hl2
  refine Ok.lt fun y6 h4=>?_
  have:=congrArg wt h4
  refine oB (pC y6 bR bR (by rw [show y6=aT p4 i1 by assumption];exact aaV hB (by assumption))) fun x9 h5=>?_
  have:=bB (v3)
  have:=cG x9
  refine oG fun z6=>?_
  have:=b8 v3 ([x9]:List aB)
  exact qD
 intro v3 h1
 have:s_.size=0:=rfl
 have:=aB.wt_mk s_ v3
 exact oS
theorem an9(n:Nat):bS fun fu=>NG n (mQ fu)∧EP n (oE fu):=by
 induction n with
 |zero=>exact .all fun fu=>⟨fun _ h=>absurd h (Nat.not_lt_zero _),fun _ _ h=>absurd h (Nat.not_lt_zero _)⟩
 |succ n ih=>exact bS.succ ((ih.and (((((bS.ge 2147483648).and mH).and bO).and iT).and mX)).imp fun fu ⟨h,⟨⟨⟨⟨hfu,mH⟩,bO⟩,iT⟩,mX⟩⟩=>⟨fun p0=>by rw [mQ];exact amK hfu mH bO iT mX h.1 h.2 p0,fun pD p4=>by rw [oE];exact af5 hfu mH bO iT mX h.1 h.2 pD p4⟩)
theorem uT:bS am6:=(an9 8589934592).imp fun fu h p0 hpre hB=>h.1 p0 bR hpre hB
end Go.Proofs.YtfcoaagbccmahaaGreat.W
