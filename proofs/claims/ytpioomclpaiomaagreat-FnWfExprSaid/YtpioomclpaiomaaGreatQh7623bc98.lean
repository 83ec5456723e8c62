/- Words, rules and walks of several kinds, laid together: Dist, WDist, MaWfX, MaLWfExpr, WWfX, OkF1, WLWfExpr. No conditions but those that each theorem states. -/
import Derived.Test.YtpioomclpaiomaaGreatQh7b7fa178
import Derived.Test.YtpioomclpaiomaaGreatProg
import Derived.SliceStrings
import Derived.Maps.OwnSet
import Derived.Maps.Views
import Derived.Test.YtpioomclpaiomaaGreatQh73782e98
import Derived.Test.YtpioomclpaiomaaGreatQh2d3bfa3c
import Derived.Test.YtpioomclpaiomaaGreatQhdfb59f61
import Derived.Test.YtpioomclpaiomaaGreatQhcea472ae
import Derived.Test.YtpioomclpaiomaaGreatQh270167b8
import Derived.Test.YtpioomclpaiomaaGreatQh38b1491e
set_option linter.unusedSimpArgs false
set_option linter.unusedVariables false
namespace Go.Proofs.YtpioomclpaiomaaGreat
open Go.RowKit Go.Maps Go.Proofs Go.WideMaps
theorem KK{P:Program}{e:TypeId}(he:P.underlying e=some .bool){v:Value}{z:DataW Unit×List MemPlace}(h:plainElem P e v=some z): ∃x,v= .bool x∧z=(.lit (.bool x),[]):=by
 unfold plainElem at h
 rw [he] at h
 cases v<;>simp at h
 exact⟨_,rfl,h.symm⟩
theorem EI{P:Program}(w:World){ops:Array Oper}{rest:List Oper}{o:Oper}{a:Act}{Q:Exit→Act→World→Prop}
 (hg:o.guard=none) (m x:Operand) (t:TypeId) (hop:o.op=Op.lookup t m x false)
 (k e:TypeId) (K:Keyed P k) (ht:P.underlying t=some (.map k e)) (he:P.underlying e=some .bool) (hz:(zeroValue e).run P w= .ok (.bool false) w) (b n:Nat) (D:DataW Unit)
 (hm:a.eval m= .map (some b)) (hown:w.ownsMap P k (plainElem P e) b n D) (key:Value) (kl:Lit) (hx:a.eval x=key) (hkey:keyOf P k key=some kl)
 (hK: ∀c:Bool,D.atKey kl (.lit (.bool false))= .lit (.bool c)→wpList P ops Q rest (a.put o.dst (.bool c)) w):
 wpList P ops Q (o::rest) a w:=by
 refine wpList_plain hg fun K' hK'=>?_
 obtain⟨v,ps,hrun,hv⟩:=hown.lookup K ht hz (plainElem_bool he false) hkey
 obtain⟨c,rfl,hc⟩:=KK he hv
 simp only [Prod.mk.injEq] at hc
 unfold Oper.wp
 simp [execOp,hop,hm,hx,hrun,Result.andThen]
 exact hK' _ _ (hK c hc.1)
theorem ajE{a b:ByteArray}(h:Lit.string a.data.toList=Lit.string b.data.toList):a=b:=by
 obtain⟨⟨x⟩⟩:=a
 obtain⟨⟨y⟩⟩:=b
 injection h with h
 have h:x=y:=h
 rw [h]
theorem anO:Keyed Tryz.prog 9:=string_keyed Tryz.underlying9
theorem aoV(w:World):(zeroValue 4).run Tryz.prog w= .ok (.bool false) w:=by kernel_rfl
def Met(D:DataW Unit)(l:List ByteArray):Prop:= ∀s:ByteArray,D.atKey (.string s.data.toList) (.lit (.bool false))= .lit (.bool (l.any fun x=>decide (x=s)))
theorem Met.nil:Met (.map []) []:=fun s=>rfl
theorem Met.put{D:DataW Unit}{l:List ByteArray}{x:ByteArray}(h:Met D l)(hm:IsMap D):Met (D.put (.string x.data.toList) (.lit (.bool true))) (l++ [x]):=fun s=>by
 by_cases hs:s=x
 ·subst hs
  rw [atKey_put_same (k:= .string s.data.toList) hm trivial,List.any_append]
  simp only [List.any_cons,decide_true,Bool.true_or,Bool.or_true]
 ·rw [atKey_put_other (fun e=>hs (ajE e)),h s,List.any_append]
  have: ¬x=s:=fun e=>hs e.symm
  simp only [List.any_cons,List.any_nil,decide_eq_false this,Bool.or_false]
theorem agQ{l:List ByteArray}{k:Nat}(h:k<l.length)(hn:(l.take k).Nodup)(hx: ¬l[k]∈l.take k):(l.take (k+1)).Nodup:=by
 rw [List.take_succ_eq_append_getElem h,List.nodup_append]
 refine⟨hn,by simp,fun a ha b hb=>?_⟩
 have:b=l[k]:=by simpa using hb
 subst this
 rintro rfl
 exact hx ha
theorem alH{l:List ByteArray}{k:Nat}(h:k<l.length)(hx:l[k]∈l.take k): ¬l.Nodup:=fun hn=>by
 have h1:(l.take (k+1)).Nodup:=hn.sublist (List.take_sublist _ _)
 rw [List.take_succ_eq_append_getElem h,List.nodup_append] at h1
 exact h1.2.2 _ hx _ (by simp) rfl
set_option maxRecDepth 100000 in
set_option maxHeartbeats 2000000 in
theorem LQ(l:List ByteArray)(v:Value)(w:World)(hr:IS w (.row 1 (aZ l)) v):Calls Tryz.prog 206 #[v] w fun e w'=>e= .returned (.bool (decide l.Nodup))∧IR w w':=by
 have hmm:= @run_makeMap Tryz.prog
 obtain⟨a,cap,rfl,hl,hmx⟩:=hr.shape
 rw [bC] at*
 have HR:=Lib.hid hr
 have hmx':l.length≤9223372036854775807:=by unfold maxLen at hmx;omega
 clear hr hmx
 go_enter Tryz.func206,Tryz.ntmps206
 go_wp2
 go_loopw [9] (fun i wr=> ∃(k:Nat) (D:DataW Unit),k≤l.length∧i= .int .i64 k∧Hid (wr.ownsMap Tryz.prog 9 (plainElem Tryz.prog 4) w.heap.size k D)∧Hid (Met D (l.take k))∧Hid (l.take k).Nodup∧Hid (Below w.heap.size w wr)) (fun i _=>l.length-(intOf i).toNat)
 case atStart=>exact⟨0,.map [],Nat.zero_le _,rfl,World.ownsMap_made _ _ _ _,Met.nil,by show List.Nodup _;simp,(Below.refl _ _).alloc (Nat.le_refl _) _⟩
 case round=>
  obtain⟨k,D,hk,rfl,HO,HM,HN,HB⟩:=hrel
  by_cases hlt:k<l.length
  ·obtain⟨b,off,cs,rfl,hb,hcs,hc⟩:=(HR.out.ext HB.out).at2 (k:=k) (V7 hlt)
   obtain⟨x0,rfl⟩:=apZ hcs.length.symm
   obtain⟨rfl,hlf⟩:=hcs.1.leaf_eq
   have hlf:l[k].size≤maxLen:=hlf
   have hcx:wr.cell? ⟨b,off+k,none⟩=some (.string l[k]):=by simpa using hc 0 _ rfl
   have hkey:keyOf Tryz.prog 9 (.string l[k])=some (.string l[k].data.toList):=keyOf_string_mk Tryz.underlying9 hlf
   have ki:(k:Int)<(l.length:Int):=by omega
   have k0:(0:Int)≤(k:Int):=by omega
   have hMk:=HM.out l[k]
   have HMK:=Lib.hid hMk
   have HLF:=Lib.hid hlf
   have hkm:k<maxLen:=by unfold maxLen;omega
   clear hcs hc hMk hlf
   go_wp2_with (first
    |(at_lookup;refine EI _ rfl _ _ 247 rfl 9 4 anO Tryz.underlying247 Tryz.underlying4 (aoV _) w.heap.size k D rfl HO.out _ _ rfl hkey ?_;intro c hat;rw [HMK.out] at hat;injection hat with hat;injection hat with hat;subst hat)
    |(at_mapUpdate;refine wpList_mapUpdate_own _ rfl _ _ _ 247 rfl 9 4 anO Tryz.underlying247 (plainElem Tryz.prog 4) w.heap.size k D rfl HO.out hkm _ _ _ rfl rfl hkey (.lit (.bool true)) [] (plainElem_bool Tryz.underlying4 true) ?_;intro w1 hown1 hgrow1)
    |go_in)
   ·
    have hany:((l.take k).any fun x=>decide (x=l[k]))=true:=by assumption
    go_ret
    have hmem:l[k]∈l.take k:=by
     obtain⟨y,hy,he⟩:=List.any_eq_true.1 hany
     have:y=l[k]:=by simpa using he
     exact this ▸ hy
    exact⟨by rw [decide_eq_false (alH hlt hmem)];rfl,HB.out⟩
   ·have hany:((l.take k).any fun x=>decide (x=l[k]))=false:=by assumption
    go_roundw
    case rel=>
     refine⟨k+1,_,by omega,by go_num,hown1,?_,?_,HB.out.grown hgrow1 HB.out.size (fun j hj=>by cases hj;exact Nat.le_refl _)⟩
     ·show Met _ _
      rw [List.take_succ_eq_append_getElem hlt]
      exact HM.out.put HO.out.isMap
     ·refine agQ hlt HN.out fun hm=>?_
      have:((l.take k).any fun x=>decide (x=l[k]))=true:=List.any_eq_true.2 ⟨_,hm,by simp⟩
      rw [hany] at this
      cases this
    case measure=>simp [intOf];omega
  ·have hkl:k=l.length:=by omega
   go_wp2
   go_ret
   have h1:=HN.out
   rw [hkl,List.take_length] at h1
   exact⟨by rw [decide_eq_true h1];rfl,HB.out⟩
end Go.Proofs.YtpioomclpaiomaaGreat

namespace Go.Proofs.YtpioomclpaiomaaGreat.W
open Go.RowKit
theorem TP(l:LB):b4 Tryz.prog 206 [rS l] (.t (.leaf (.bool (decide l.Nodup)))):=fun av m w vals hst hv=>by
 match vals,hv with
 | [v],hv=>
  refine(LQ l v w (cL.rep hv.1)).mono fun e w'=>?_;rintro⟨rfl,hx⟩
  exact⟨_,_,m,_,rfl,⟨rfl,rfl⟩,hst.later hx,Ev.later hx,cL.leaf trivial⟩
end Go.Proofs.YtpioomclpaiomaaGreat.W

namespace Go.Proofs.YtpioomclpaiomaaGreat.W
set_option maxRecDepth 100000
set_option maxHeartbeats 40000000
noncomputable section
open Tryz Go.RowKit Go.Proofs
attribute [local irreducible] lt
def ah0(m:aF→ByteArray→Option (aK×Int×Bool)):Prop:= ∀(pw:aF) (pname:ByteArray) (r:aK×Int×Bool),m pw pname=some r→b4 Tryz.prog 161 [(aF.pv pw),pS pname] (.tup [(aK.pv r.1),pI r.2.1,pB r.2.2]:PV)
def AW(fu:Nat)(pw:aF)(pname:ByteArray)(i1:Nat):Int→Option (LR Int (LR Unit (aK×Int×Bool))):=
 fun v4=>lt (aW pw.gPackages i1) (fun y6=>
 sw (decide (v4<(y6.gFunctions.length:Int)))
 (gd (0≤v4∧(v4).toNat<(y6.gFunctions).length)
 (lt (aW y6.gFunctions ((v4).toNat)) (fun y11=>
 sw (decide (y11.gName=pname))
 (some (.ret (.ret (y11,(i1:Int),true))))
 (some (.next (v4+1))))))
 (some (.brk v4)))
def RC(fu:Nat)(pw:aF)(pname:ByteArray)(i1:Nat):Option ((LR Unit (aK×Int×Bool))⊕Int):=
 loopW (AW fu pw pname i1) fu 0
def GB(fu:Nat)(pw:aF)(pname:ByteArray):Nat→Unit→Option (LR Unit (aK×Int×Bool)):=
 fun i1 _=>so (RC fu pw pname i1) (fun v4=>
 some (.next ()))
def RB(fu:Nat)(pw:aF)(pname:ByteArray):Option ((aK×Int×Bool)⊕Unit):=
 loopN (GB fu pw pname) (pw.gPackages.length-0) 0 ()
def D8(fu:Nat)(pw:aF)(pname:ByteArray):Option (aK×Int×Bool):=
 so (RB fu pw pname) (fun _=>
 some ((aK.mk s_ [] [] [] (aB.mk 0 s_ []) (aG.mk 0 s_ s_ 0 (aB.mk 0 s_ []) [] [])),0,false))
theorem ae3(fu:Nat):ah0 (D8 fu):=by
 intro pw pname r H
 have H:=eE H
 refine qI func161 (fun C hC=>?_)
 refine qW (q1 (iM ([aN pw.gPackages])) (q1 (fO sH) ?_))
 iterate 2 refine q1 aE ?_
 refine qN ?_
 refine qS (qS (qR (q1 aE (qN ?_))))
 refine aR.fact (b5 0 0 rfl rfl rfl (aJ.trs_len _)) (fun hl2=>?_)
 refine b0 (σ:=Unit) (fun i1 _=>⟨[(1,pS pname),(2,.ptr 0 0),(4,.ptr 1 0),(5,pI 0),(6,pB false),(7,pN i1)],⟨[some ⟨26,[aN pw.gPackages]⟩,some ⟨148,[pS s_,.nil,.nil,.nil,pI 0,pS s_,.nil,pI 0,pS s_,pS s_,pI 0,pI 0,pS s_,.nil,.nil,.nil]⟩],[]⟩⟩) (fun _=>⟨[(4,.ptr 1 0),(5,pI 0),(6,pB false)],⟨[some ⟨26,[aN pw.gPackages]⟩,some ⟨148,[pS s_,.nil,.nil,.nil,pI 0,pS s_,.nil,pI 0,pS s_,pS s_,pI 0,pI 0,pS s_,.nil,.nil,.nil]⟩],[]⟩⟩) (fK H) ?_ ?_
 ·rintro i1 ⟨⟩ H
  refine qS (qS (qR (q1 aE (q1 (a5 fR) (q1 (bD pP) (q1 (dL mG (aJ.trs_len _)) (q1 gI (qN ?_))))))))
  refine dG H (fun h3 h3l H=>?_) (fun h3 H=>?_)
  ·have h3n:=a4 h3
   refine aR.skip (qS (aR.block (qW (q1 aE (qN ?_)))))
   refine EN (σ:=Int) (fun v4=>⟨[(1,pS pname),(2,.ptr 0 0),(4,.ptr 1 0),(5,pI 0),(6,pB false),(7,pN i1),(8,pI v4),(9,pN i1),(10,.ptr 0 0),(11,aN pw.gPackages),(12,pN pw.gPackages.length),(13,pB (decide ((i1:Int)<(pw.gPackages.length:Int))))],⟨[some ⟨26,[aN pw.gPackages]⟩,some ⟨148,[pS s_,.nil,.nil,.nil,pI 0,pS s_,.nil,pI 0,pS s_,pS s_,pI 0,pI 0,pS s_,.nil,.nil,.nil]⟩],[]⟩⟩) (fun v4=>⟨[(1,pS pname),(2,.ptr 0 0),(4,.ptr 1 0),(5,pI 0),(6,pB false),(7,pN i1),(8,pI v4),(9,pN i1),(10,.ptr 0 0),(11,aN pw.gPackages),(12,pN pw.gPackages.length),(13,pB (decide ((i1:Int)<(pw.gPackages.length:Int))))],⟨[some ⟨26,[aN pw.gPackages]⟩,some ⟨148,[pS s_,.nil,.nil,.nil,pI 0,pS s_,.nil,pI 0,pS s_,pS s_,pI 0,pI 0,pS s_,.nil,.nil,.nil]⟩],[]⟩⟩) (fK H) ?_ ?_
   ·rintro k5 v4 H
    refine qS (qS (qR (q1 aE (q1 (a5 fR) (q1 (bD pP) (q1 aE (fP H fun y6 h7 H=>(q1 (m9 h7 h3n mG) (q1 (lR nX) (q1 (kQ CO) ?_))))))))))
    refine FS 22 (aK.trs_len _) (fun hl8=>?_)
    refine q1 (dL xB (aK.trs_len _)) (q1 gI (qN ?_))
    refine a8 H (fun h9 H=>?_) (fun h9 H=>?_)
    ·refine aR.skip (qS (aR.block (qW (q1 (a5 fR) (q1 (bD pP) (q1 aE (q1 (m9 h7 h3n mG) (q1 (lR nX) (q1 (kQ CO) (q1 aE (dK H fun z10 H=>(fP H fun y11 h12 H=>?_))))))))))))
     refine q1 (rIm h12 z10 xB) (q1 (lR GR) (q1 (kQ eJ) (q1 aE (q1 AM (qN ?_)))))
     refine a8 H (fun h13 H=>?_) (fun h13 H=>?_)
     ·refine qW (q1 (a5 fR) (q1 (bD pP) (q1 aE (q1 (m9 h7 h3n mG) (q1 (lR nX) (q1 (kQ CO) (q1 aE (q1 (rIm h12 z10 xB) (q1 (kM (aK.cs y11) lN) (q1 aE (q1 (bR qK) ?_)))))))))))
      iterate 2 refine q1 aE ?_
      refine qN (aR.ret ?_)
      obtain rfl:_=r:=(mT (AA (lwR (aX H))):)
      exact NT (hr:=⟨⟨_,_,_,rfl,rfl,lN,rfl,rfl⟩,rfl,rfl,trivial⟩)
     refine aR.skip (qR (q1 aE (q1 (a3.addI rfl rfl rfl rfl (c:=v4+1) (by omega) (by omega)) (q1 aE (qN ?_)))))
     exact X9 ⟨_,(aX H:),bW⟩
    refine aR.exit ?_;exact lwB ⟨_,(aX H:),bW⟩
   rintro v4 H
   refine qR (q1 aE (q1 (rA (i1+1)) (q1 aE (qN ?_))))
   exact iI h3l ⟨_,(aX H:),bW⟩
  refine aR.exit ?_;exact jJ ⟨_,H,bW⟩
 rintro⟨⟩ H
 refine qW (q1 (gW sH UO) (q1 (bR qK) ?_))
 iterate 2 refine q1 aE ?_
 refine qN (aR.ret ?_)
 cases aX H
 exact NT (hr:=⟨⟨_,_,_,rfl,rfl,lN,rfl,rfl⟩,rfl,rfl,trivial⟩)
def al0(m:aP→ByteArray→Option (aC×Bool)):Prop:= ∀(pt:aP) (pname:ByteArray) (r:aC×Bool),m pt pname=some r→b4 Tryz.prog 162 [(aP.pv pt),pS pname] (.tup [(aC.pv r.1),pB r.2]:PV)
def LH(fu:Nat)(pt:aP)(pname:ByteArray):Nat→Unit→Option (LR Unit (aC×Bool)):=
 fun i1 _=>lt (aW pt.gSignatures i1) (fun y4=>
 sw (decide (y4.gName=pname))
 (some (.ret (y4,true)))
 (some (.next ())))
def VN(fu:Nat)(pt:aP)(pname:ByteArray):Option ((aC×Bool)⊕Unit):=
 loopN (LH fu pt pname) (pt.gSignatures.length-0) 0 ()
def G6(fu:Nat)(pt:aP)(pname:ByteArray):Option (aC×Bool):=
 so (VN fu pt pname) (fun _=>
 some ((aC.mk s_ [] (aB.mk 0 s_ []) false [] (aG.mk 0 s_ s_ 0 (aB.mk 0 s_ []) [] [])),false))
theorem ah6(fu:Nat):al0 (G6 fu):=by
 intro pt pname r H
 have H:=eE H
 refine qI func162 (fun C hC=>?_)
 refine qW (q1 (iM (nH pt)) (q1 (fO sI) (q1 aE (qN ?_))))
 refine qS (qS (qR (q1 aE (qN ?_))))
 refine aR.fact (b5 0 4 rfl rfl rfl (aC.trs_len _)) (fun hl2=>?_)
 refine b0 (σ:=Unit) (fun i1 _=>⟨[(1,pS pname),(2,.ptr 0 0),(4,.ptr 1 0),(5,pB false),(6,pN i1)],⟨[some ⟨60,nH pt⟩,some ⟨164,[pS s_,.nil,pI 0,pS s_,.nil,pB false,.nil,pI 0,pS s_,pS s_,pI 0,pI 0,pS s_,.nil,.nil,.nil]⟩],[]⟩⟩) (fun _=>⟨[(4,.ptr 1 0),(5,pB false)],⟨[some ⟨60,nH pt⟩,some ⟨164,[pS s_,.nil,pI 0,pS s_,.nil,pB false,.nil,pI 0,pS s_,pS s_,pI 0,pI 0,pS s_,.nil,.nil,.nil]⟩],[]⟩⟩) (fK H) ?_ ?_
 ·rintro i1 ⟨⟩ H
  refine qS (qS (qR (q1 aE (q1 (a5 iV) (q1 (bD w9) (q1 (dL pT (aC.trs_len _)) (q1 gI (qN ?_))))))))
  refine dG H (fun h3 h3l H=>?_) (fun h3 H=>?_)
  ·have h3n:=a4 h3
   refine aR.skip (qS (aR.block (qW (q1 (a5 iV) (q1 (bD w9) (q1 aE (fP H fun y4 h5 H=>(q1 (m9 h5 h3n pT) (q1 (lR L1) (q1 (kQ eJ) (q1 aE (q1 AM ?_))))))))))))
   refine qN ?_;refine a8 H (fun h6 H=>?_) (fun h6 H=>?_)
   ·refine qW (q1 (a5 iV) (q1 (bD w9) (q1 aE (q1 (m9 h5 h3n pT) (q1 (kM (aC.cs y4) CP) (q1 (bR NM) (q1 aE (qZ ?_))))))))
    obtain rfl:_=r:=(mT (aX H):)
    exact tT (hr:=⟨⟨_,_,_,rfl,rfl,CP,rfl,rfl⟩,rfl,trivial⟩)
   refine aR.skip (qR (q1 aE (q1 (rA (i1+1)) (q1 aE (qN ?_)))))
   exact iI h3l ⟨_,(aX H:),bW⟩
  refine aR.exit ?_;exact jJ ⟨_,H,bW⟩
 rintro⟨⟩ H
 refine qW (q1 (gW sI YC) (q1 (bR NM) (q1 aE (qZ ?_))))
 cases aX H
 exact tT (hr:=⟨⟨_,_,_,rfl,rfl,CP,rfl,rfl⟩,rfl,trivial⟩)
def abD(m:aF→ByteArray→Option (aH×Int×Bool)):Prop:= ∀(pw:aF) (pname:ByteArray) (r:aH×Int×Bool),m pw pname=some r→b4 Tryz.prog 190 [(aF.pv pw),pS pname] (.tup [(aH.pv r.1),pI r.2.1,pB r.2.2]:PV)
def BO(fu:Nat)(pw:aF)(pname:ByteArray)(i1:Nat)(v4:Int)(y6:aJ):Nat→Unit→Option (LR Unit (LR Int (LR Unit (aH×Int×Bool)))):=
 fun i11 _=>lt (aW ((aW y6.gDataTypes ((v4).toNat)).gConstructors) i11) (fun y14=>
 sw (decide (y14.gName=pname))
 (some (.ret (.ret (.ret ((aW y6.gDataTypes ((v4).toNat)),(i11:Int),true)))))
 (some (.next ())))
def JE(fu:Nat)(pw:aF)(pname:ByteArray)(i1:Nat)(v4:Int)(y6:aJ):Option ((LR Int (LR Unit (aH×Int×Bool)))⊕Unit):=
 loopN (BO fu pw pname i1 v4 y6) (((aW y6.gDataTypes ((v4).toNat)).gConstructors).length-0) 0 ()
def vR(fu:Nat)(pw:aF)(pname:ByteArray)(i1:Nat):Int→Option (LR Int (LR Unit (aH×Int×Bool))):=
 fun v4=>lt (aW pw.gPackages i1) (fun y6=>
 sw (decide (v4<(y6.gDataTypes.length:Int)))
 (gd (0≤v4∧(v4).toNat<(y6.gDataTypes).length)
 (so (JE fu pw pname i1 v4 y6) (fun _=>
 some (.next (v4+1)))))
 (some (.brk v4)))
def JD(fu:Nat)(pw:aF)(pname:ByteArray)(i1:Nat):Option ((LR Unit (aH×Int×Bool))⊕Int):=
 loopW (vR fu pw pname i1) fu 0
def BN(fu:Nat)(pw:aF)(pname:ByteArray):Nat→Unit→Option (LR Unit (aH×Int×Bool)):=
 fun i1 _=>so (JD fu pw pname i1) (fun v4=>
 some (.next ()))
def JC(fu:Nat)(pw:aF)(pname:ByteArray):Option ((aH×Int×Bool)⊕Unit):=
 loopN (BN fu pw pname) (pw.gPackages.length-0) 0 ()
def yD(fu:Nat)(pw:aF)(pname:ByteArray):Option (aH×Int×Bool):=
 so (JC fu pw pname) (fun _=>
 some ((aH.mk s_ [] []),0,false))
theorem XO(fu:Nat):abD (yD fu):=by
 intro pw pname r H
 have H:=eE H
 refine qI func190 (fun C hC=>?_)
 refine qW (q1 (iM ([aN pw.gPackages])) (q1 (fO jF) ?_))
 iterate 2 refine q1 aE ?_
 refine qN ?_
 refine qS (qS (qR (q1 aE (qN ?_))))
 refine aR.fact (b5 0 0 rfl rfl rfl (aJ.trs_len _)) (fun hl2=>?_)
 refine b0 (σ:=Unit) (fun i1 _=>⟨[(1,pS pname),(2,.ptr 0 0),(4,.ptr 1 0),(5,pI 0),(6,pB false),(7,pN i1)],⟨[some ⟨26,[aN pw.gPackages]⟩,some ⟨116,[pS s_,.nil,.nil]⟩],[]⟩⟩) (fun _=>⟨[(4,.ptr 1 0),(5,pI 0),(6,pB false)],⟨[some ⟨26,[aN pw.gPackages]⟩,some ⟨116,[pS s_,.nil,.nil]⟩],[]⟩⟩) (fK H) ?_ ?_
 ·rintro i1 ⟨⟩ H
  refine qS (qS (qR (q1 aE (q1 (a5 fR) (q1 (bD pP) (q1 (dL mG (aJ.trs_len _)) (q1 gI (qN ?_))))))))
  refine dG H (fun h3 h3l H=>?_) (fun h3 H=>?_)
  ·have h3n:=a4 h3
   refine aR.skip (qS (aR.block (qW (q1 aE (qN ?_)))))
   refine EN (σ:=Int) (fun v4=>⟨[(1,pS pname),(2,.ptr 0 0),(4,.ptr 1 0),(5,pI 0),(6,pB false),(7,pN i1),(8,pI v4),(11,pN i1),(12,.ptr 0 0),(13,aN pw.gPackages),(14,pN pw.gPackages.length),(15,pB (decide ((i1:Int)<(pw.gPackages.length:Int))))],⟨[some ⟨26,[aN pw.gPackages]⟩,some ⟨116,[pS s_,.nil,.nil]⟩],[]⟩⟩) (fun v4=>⟨[(1,pS pname),(2,.ptr 0 0),(4,.ptr 1 0),(5,pI 0),(6,pB false),(7,pN i1),(8,pI v4),(11,pN i1),(12,.ptr 0 0),(13,aN pw.gPackages),(14,pN pw.gPackages.length),(15,pB (decide ((i1:Int)<(pw.gPackages.length:Int))))],⟨[some ⟨26,[aN pw.gPackages]⟩,some ⟨116,[pS s_,.nil,.nil]⟩],[]⟩⟩) (fK H) ?_ ?_
   ·rintro k5 v4 H
    refine qS (qS (qR (q1 aE (q1 (a5 fR) (q1 (bD pP) (q1 aE (fP H fun y6 h7 H=>(q1 (m9 h7 h3n mG) (q1 (lR l7) (q1 (kQ xK) ?_))))))))))
    refine FS 24 (aH.trs_len _) (fun hl8=>?_)
    refine q1 (dL tE (aH.trs_len _)) (q1 gI (qN ?_))
    refine a8 H (fun h9 H=>?_) (fun h9 H=>?_)
    ·refine aR.skip (qS (aR.block (qW (q1 (a5 fR) (q1 (bD pP) (q1 aE (q1 (m9 h7 h3n mG) (q1 (lR l7) (q1 (kQ xK) (q1 aE (dK H fun z10 H=>(q1 (rIy z10 tE) ?_))))))))))))
     refine q1 (kM (aH.cs (aW y6.gDataTypes ((v4).toNat))) fI) (q1 (fO jF) (q1 (bR iH) (qN (qW (q1 aE (qN ?_))))))
     refine aR.fact (b5 2 2 rfl rfl rfl (aD.trs_len _)) (fun hl12=>?_)
     refine b0 (σ:=Unit) (fun i11 _=>⟨[(1,pS pname),(2,.ptr 0 0),(4,.ptr 1 0),(5,pI 0),(6,pB false),(7,pN i1),(8,pI v4),(9,.ptr 2 0),(10,pN i11),(11,pN i1),(12,.ptr 0 0),(13,aN pw.gPackages),(14,pN pw.gPackages.length),(15,pB (decide ((i1:Int)<(pw.gPackages.length:Int)))),(18,pI v4),(19,.ptr 0 0),(20,aN pw.gPackages),(21,pN i1),(22,.eptr (aJ.cs y6)),(23,.eptr ((aJ.cs y6).drop 3)),(24,iJ y6.gDataTypes),(25,pN y6.gDataTypes.length),(26,pB (decide (v4<(y6.gDataTypes.length:Int)))),(29,.ptr 0 0),(30,aN pw.gPackages),(31,pN i1),(32,.eptr (aJ.cs y6)),(33,.eptr ((aJ.cs y6).drop 3)),(34,iJ y6.gDataTypes),(35,pI v4),(36,.eptr (aH.cs (aW y6.gDataTypes ((v4).toNat)))),(37,(aH.pv (aW y6.gDataTypes ((v4).toNat))))],⟨[some ⟨26,[aN pw.gPackages]⟩,some ⟨116,[pS s_,.nil,.nil]⟩,some ⟨116,gK (aW y6.gDataTypes ((v4).toNat))⟩],[]⟩⟩) (fun _=>⟨[(1,pS pname),(2,.ptr 0 0),(4,.ptr 1 0),(5,pI 0),(6,pB false),(7,pN i1),(8,pI v4),(9,.ptr 2 0),(11,pN i1),(12,.ptr 0 0),(13,aN pw.gPackages),(14,pN pw.gPackages.length),(15,pB (decide ((i1:Int)<(pw.gPackages.length:Int)))),(18,pI v4),(19,.ptr 0 0),(20,aN pw.gPackages),(21,pN i1),(22,.eptr (aJ.cs y6)),(23,.eptr ((aJ.cs y6).drop 3)),(24,iJ y6.gDataTypes),(25,pN y6.gDataTypes.length),(26,pB (decide (v4<(y6.gDataTypes.length:Int)))),(29,.ptr 0 0),(30,aN pw.gPackages),(31,pN i1),(32,.eptr (aJ.cs y6)),(33,.eptr ((aJ.cs y6).drop 3)),(34,iJ y6.gDataTypes),(35,pI v4),(36,.eptr (aH.cs (aW y6.gDataTypes ((v4).toNat)))),(37,(aH.pv (aW y6.gDataTypes ((v4).toNat))))],⟨[some ⟨26,[aN pw.gPackages]⟩,some ⟨116,[pS s_,.nil,.nil]⟩,some ⟨116,gK (aW y6.gDataTypes ((v4).toNat))⟩],[]⟩⟩) (fK H) ?_ ?_
     ·rintro i11 ⟨⟩ H
      refine qS (qS (qR (q1 aE (q1 (a5 gG) (q1 (bD nN) (q1 (dL lW (aD.trs_len _)) (q1 gI (qN ?_))))))))
      refine dG H (fun h13 h13l H=>?_) (fun h13 H=>?_)
      ·have h13n:=a4 h13
       refine aR.skip (qS (aR.block (qW (q1 (a5 gG) (q1 (bD nN) (q1 aE (fP H fun y14 h15 H=>(q1 (m9 h15 h13n lW) (q1 (lR sK) (q1 (kQ eJ) (q1 aE (q1 AM ?_))))))))))))
       refine qN ?_;refine a8 H (fun h16 H=>?_) (fun h16 H=>?_)
       ·refine qW (q1 (cJ [pS ((aW y6.gDataTypes ((v4).toNat)).gName),rS ((aW y6.gDataTypes ((v4).toNat)).gVars),bY ((aW y6.gDataTypes ((v4).toNat)).gConstructors)] fI) (q1 aE (q1 (bR iH) ?_)))
        iterate 2 refine q1 aE ?_
        refine qN (aR.ret ?_)
        obtain rfl:_=r:=(mT (AA (lwR (AA (mT (aX H))))):)
        exact NT (hr:=⟨⟨_,_,_,rfl,rfl,fI,rfl,rfl⟩,rfl,rfl,trivial⟩)
       refine aR.skip (qR (q1 aE (q1 (rA (i11+1)) (q1 aE (qN ?_)))))
       exact iI h13l ⟨_,(aX H:),bW⟩
      refine aR.exit ?_;exact jJ ⟨_,H,bW⟩
     rintro⟨⟩ H
     refine qR (q1 aE (q1 (a3.addI rfl rfl rfl rfl (c:=v4+1) (by omega) (by omega)) (q1 aE (qN ?_))))
     exact X9 ⟨_,(aX H:),bW⟩
    refine aR.exit ?_;exact lwB ⟨_,(aX H:),bW⟩
   rintro v4 H
   refine qR (q1 aE (q1 (rA (i1+1)) (q1 aE (qN ?_))))
   exact iI h3l ⟨_,(aX H:),bW⟩
  refine aR.exit ?_;exact jJ ⟨_,H,bW⟩
 rintro⟨⟩ H
 refine qW (q1 (gW jF MX) (q1 (bR iH) ?_))
 iterate 2 refine q1 aE ?_
 refine qN (aR.ret ?_)
 cases aX H
 exact NT (hr:=⟨⟨_,_,_,rfl,rfl,fI,rfl,rfl⟩,rfl,rfl,trivial⟩)
def ah2(m:aF→Int→ByteArray→Option (aH×Int×Bool)):Prop:= ∀(pw:aF) (pi:Int) (pname:ByteArray) (r:aH×Int×Bool),m pw pi pname=some r→b4 Tryz.prog 163 [(aF.pv pw),pI pi,pS pname] (.tup [(aH.pv r.1),pI r.2.1,pB r.2.2]:PV)
def zU(fu:Nat)(pw:aF)(pi:Int)(pname:ByteArray):Option (aH×Int×Bool):=
 bd (yD fu pw pname) (fun(x2,x3,x4)=>
 sw (!(x4))
 (some (x2,x3,false))
 (bd (uI fu pw x2.gName) (fun(x7,x8,x9)=>
 bd (n7 fu pw pi x8) (fun x11=>
 some (x2,x3,x11)))))
theorem RG(fu:Nat):ah2 (zU fu):=by
 intro pw pi pname r H
 have H:=eE H
 refine qI func163 (fun C hC=>?_)
 refine qW (q1 (iM ([aN pw.gPackages])) (q1 (fO jF) ?_))
 iterate 2 refine q1 aE ?_
 refine qN (qW (q1 (cJ [aN pw.gPackages] hZ) (q1 aE (FA H fun x2 x3 x4 z1 H=>(q1 (bG func190 (XO fu pw pname _ z1)) (q1 aE ?_))))))
 iterate 3 refine q1 AK ?_
 refine q1 (fO jF) (q1 (bR iH) ?_)
 iterate 2 refine q1 aE ?_
 refine qN ?_
 refine qS (qS (qR (q1 aE (q1 hQ (qN ?_)))))
 refine a8 H (fun h5 H=>?_) (fun h5 H=>?_)
 ·refine qW (q1 (cJ [pS x2.gName,rS x2.gVars,bY x2.gConstructors] fI) (q1 aE (q1 (bR iH) ?_)))
  iterate 2 refine q1 aE ?_
  refine qN (aR.ret ?_)
  cases aX H
  exact NT (hr:=⟨⟨_,_,_,rfl,rfl,fI,rfl,rfl⟩,rfl,rfl,trivial⟩)
 refine aR.skip (qW (q1 (cJ [aN pw.gPackages] hZ) (q1 (a5 C5) (q1 (bD eJ) (FA H fun x7 x8 x9 z6 H=>(q1 (bG func173 (JH fu pw x2.gName _ z6)) (q1 aE ?_)))))))
 iterate 3 refine q1 AK ?_
 refine q1 (fO jF) (q1 (bR iH) ?_)
 iterate 2 refine q1 aE ?_
 refine qN (qS (bI H fun x11 z10 H=>(dW (dD [9] (cJ [pS x2.gName,rS x2.gVars,bY x2.gConstructors] fI) (dI [10] aE (dD [3] (cJ [aN pw.gPackages] hZ) (dI [1] aE (dI [13] aE (dI [36,37,38] (bG func156 (vO fu pw pi x8 _ z10)) (lH [6,34] (bR iH) (dI [35] aE (dI [39] aE (dN ?_)))))))))))))
 refine aR.ret ?_
 cases aX H
 exact NT (hr:=⟨⟨_,_,_,rfl,rfl,fI,rfl,rfl⟩,rfl,rfl,trivial⟩)
def ah1(m:aH→(List bA)→Option Bool):Prop:= ∀(pa0:aH) (pa1:List bA) (r:Bool),m pa0 pa1=some r→b4 Tryz.prog 164 [(aH.pv pa0),g0 pa1] (pB r:PV)
def RD(fu:Nat)(pa0:aH)(pa1:List bA)(i2:Nat):Nat→Int→Option (LR Int (LR Unit Bool)):=
 fun i5 v6=>lt (aW pa1 i5) (fun y9=>
 sw (decide (y9.gConstructor=(aW pa0.gConstructors i2).gName))
 (sw (decide ((y9.gVars.length:Int)=((((aW pa0.gConstructors i2).gFields).length:Nat):Int)))
 (some (.next (aQ (v6+1))))
 (some (.next v6)))
 (some (.next v6)))
def GG(fu:Nat)(pa0:aH)(pa1:List bA)(i2:Nat):Option ((LR Unit Bool)⊕Int):=
 loopN (RD fu pa0 pa1 i2) (pa1.length-0) 0 0
def GF(fu:Nat)(pa0:aH)(pa1:List bA)(i2:Nat)(v6:Int):Nat→Unit→Option (LR Unit (LR Unit Bool)):=
 fun i13 _=>gd (i13<(pa0.gConstructors).length)
 (sw (decide ((aW pa0.gConstructors i13).gName=(aW pa0.gConstructors i2).gName))
 (some (.ret (.ret false)))
 (some (.next ())))
def RF(fu:Nat)(pa0:aH)(pa1:List bA)(i2:Nat)(v6:Int):Option ((LR Unit Bool)⊕Unit):=
 loopN (GF fu pa0 pa1 i2 v6) (i2-0) 0 ()
def GE(fu:Nat)(pa0:aH)(pa1:List bA):Nat→Unit→Option (LR Unit Bool):=
 fun i2 _=>so (GG fu pa0 pa1 i2) (fun v6=>
 so (RF fu pa0 pa1 i2 v6) (fun _=>
 sw (!decide (v6=1))
 (some (.ret false))
 (some (.next ()))))
def RE(fu:Nat)(pa0:aH)(pa1:List bA):Option (Bool⊕Unit):=
 loopN (GE fu pa0 pa1) (pa0.gConstructors.length-0) 0 ()
def D9(fu:Nat)(pa0:aH)(pa1:List bA):Option Bool:=
 sw (!decide ((pa1.length:Int)=(pa0.gConstructors.length:Int)))
 (some false)
 (so (RE fu pa0 pa1) (fun _=>
 some true))
theorem ae5(fu:Nat):ah1 (D9 fu):=by
 intro pa0 pa1 r H
 have H:=eE H
 refine qI func164 (fun C hC=>?_)
 refine qW (q1 (iM (gK pa0)) (q1 aE (qN ?_)))
 refine qS (qS (qR (q1 aE (q1 (dL jL (bA.trs_len _)) (q1 (a5 gG) (q1 (bD nN) (q1 (dL lW (aD.trs_len _)) (q1 CI (qN ?_)))))))))
 refine a8 H (fun h1 H=>?_) (fun h1 H=>?_)
 ·refine qW (q1 aE (qZ ?_))
  cases aX H
  exact bE
 refine aR.skip ?_
 refine qS (qS (qR (q1 aE (qN ?_))))
 refine lD 12 (aD.trs_len _) (fun hl3=>?_)
 refine b0 (σ:=Unit) (fun i2 _=>⟨[(1,g0 pa1),(2,.ptr 0 0),(4,pB false),(5,pN i2)],⟨[some ⟨116,gK pa0⟩],[]⟩⟩) (fun _=>⟨[(4,pB false)],⟨[some ⟨116,gK pa0⟩],[]⟩⟩) (fK H) ?_ ?_
 ·rintro i2 ⟨⟩ H
  refine qS (qS (qR (q1 aE (q1 (a5 gG) (q1 (bD nN) (q1 (dL lW (aD.trs_len _)) (q1 gI (qN ?_))))))))
  refine dG H (fun h4 h4l H=>?_) (fun h4 H=>?_)
  ·have h4n:=a4 h4
   refine aR.skip (qS (aR.block (qW (q1 aE (qN ?_)))))
   refine qS (qS (qR (q1 aE (qN ?_))))
   refine lD 1 (bA.trs_len _) (fun hl7=>?_)
   refine b0 (σ:=Int) (fun i5 v6=>⟨[(1,g0 pa1),(2,.ptr 0 0),(4,pB false),(5,pN i2),(6,pI v6),(7,pN i5),(15,pN i2),(16,.ptr 0 2),(17,bY pa0.gConstructors),(18,pN pa0.gConstructors.length),(19,pB (decide ((i2:Int)<(pa0.gConstructors.length:Int))))],⟨[some ⟨116,gK pa0⟩],[]⟩⟩) (fun v6=>⟨[(1,g0 pa1),(2,.ptr 0 0),(4,pB false),(5,pN i2),(6,pI v6),(15,pN i2),(16,.ptr 0 2),(17,bY pa0.gConstructors),(18,pN pa0.gConstructors.length),(19,pB (decide ((i2:Int)<(pa0.gConstructors.length:Int))))],⟨[some ⟨116,gK pa0⟩],[]⟩⟩) (fK H) ?_ ?_
   ·rintro i5 v6 H
    refine qS (qS (qR ?_))
    iterate 2 refine q1 aE ?_
    refine q1 (dL jL (bA.trs_len _)) (q1 gI (qN ?_))
    refine dG H (fun h8 h8l H=>?_) (fun h8 H=>?_)
    ·have h8n:=a4 h8
     refine aR.skip (qS (aR.block (qS (fP H fun y9 h10 H=>?_))))
     rcases mA (decide (y9.gConstructor=(aW pa0.gConstructors i2).gName)) with g11|g11
     ·have H:=sE H g11
      refine dW (dI [1] aE (dI [7] aE (dI [28,29] (m9 h10 h8n jL) (dI [30] (lR tW) (dI [31] (kQ eJ) (dI [2] (a5 gG) (dD [33] (bD nN) (dI [5] aE (dI [34,35] (kP h4n lW) (dI [36] (lR sK) (dI [37] (kQ eJ) (dI [32,38] AM (dI [39] aE ?_)))))))))))))
      refine dI (hg:=a6 g11) [1] aE (dI (hg:=a6 g11) [7] aE (dI (hg:=a6 g11) [41,42] (m9 h10 h8n jL) (dI (hg:=a6 g11) [43] (lR yY) (dI (hg:=a6 g11) [44] (kQ kZ) (dI (hg:=a6 g11) [45] (dL b3 (bC _)) (dI (hg:=a6 g11) [2] (a5 gG) (dD (hg:=a6 g11) [47] (bD nN) (dI (hg:=a6 g11) [5] aE (dI (hg:=a6 g11) [48,49] (kP h4n lW) (dI (hg:=a6 g11) [50] (lR xQ) (dI (hg:=a6 g11) [51] (kQ kY) (dI (hg:=a6 g11) [52] (dL eU (aB.trs_len _)) (dI (hg:=a6 g11) [46,53] dM ?_)))))))))))))
      refine dI [40,54] (bV g11) (dN ?_)
      refine a8 H (fun h12 H=>?_) (fun h12 H=>?_)
      ·refine qR (q1 aE (q1 MZ (q1 aE (qN (qR (q1 aE (q1 (rA (i5+1)) (q1 aE (qN ?_)))))))))
       exact iI h8l ⟨_,(aX H:),bW⟩
      refine aR.skip (qR (q1 aE (q1 (rA (i5+1)) (q1 aE (qN ?_)))))
      exact iI h8l ⟨_,(aX H:),bW⟩
     have H:=sD H g11
     refine dW (dI [1] aE (dI [7] aE (dI [28,29] (m9 h10 h8n jL) (dI [30] (lR tW) (dI [31] (kQ eJ) (dI [2] (a5 gG) (dD [33] (bD nN) (dI [5] aE (dI [34,35] (kP h4n lW) (dI [36] (lR sK) (dI [37] (kQ eJ) (dI [32,38] AM (dI [39] aE ?_)))))))))))))
     iterate 14 refine FE g11 ?_
     refine dI [40] (b9 g11) (dN (jR rfl (aR.skip (qR (q1 aE (q1 (rA (i5+1)) (q1 aE (qN ?_))))))))
     exact iI h8l ⟨_,(aX H:),bW⟩
    refine aR.exit ?_;exact jJ ⟨_,H,bW⟩
   rintro v6 H
   refine qS (qS (qR (q1 aE (qN ?_))))
   refine b0 (σ:=Unit) (fun i13 _=>⟨[(1,g0 pa1),(2,.ptr 0 0),(4,pB false),(5,pN i2),(6,pI v6),(8,pN i13),(15,pN i2),(16,.ptr 0 2),(17,bY pa0.gConstructors),(18,pN pa0.gConstructors.length),(19,pB (decide ((i2:Int)<(pa0.gConstructors.length:Int))))],⟨[some ⟨116,gK pa0⟩],[]⟩⟩) (fun _=>⟨[(1,g0 pa1),(2,.ptr 0 0),(4,pB false),(5,pN i2),(6,pI v6),(15,pN i2),(16,.ptr 0 2),(17,bY pa0.gConstructors),(18,pN pa0.gConstructors.length),(19,pB (decide ((i2:Int)<(pa0.gConstructors.length:Int))))],⟨[some ⟨116,gK pa0⟩],[]⟩⟩) (fK H) ?_ ?_
   ·rintro i13 ⟨⟩ H
    refine qS (qS (qR ?_))
    iterate 2 refine q1 aE ?_
    refine q1 gI (qN ?_)
    refine dG H (fun h14 h14l H=>?_) (fun h14 H=>?_)
    ·have h14n:i13<i2:=by have:=of_decide_eq_true h14;omega
     refine aR.skip (qS (aR.block (qS (dK H fun z15 H=>(dW (dI [2] (a5 gG) (dD [63] (bD nN) (dI [8] aE (dI [64,65] (kP z15 lW) (dI [66] (lR sK) (dI [67] (kQ eJ) (dI [2] (a5 gG) (dD [69] (bD nN) ?_)))))))))))))
     refine dI [5] aE (dI [70,71] (kP h4n lW) (dI [72] (lR sK) (dI [73] (kQ eJ) (dI [68,74] AM (dN ?_)))))
     refine a8 H (fun h16 H=>?_) (fun h16 H=>?_)
     ·refine qW (q1 aE (qZ ?_))
      obtain rfl:_=r:=(mT (AA (mT (aX H))):)
      exact bE
     refine aR.skip (qR (q1 aE (q1 (rA (i13+1)) (q1 aE (qN ?_)))))
     exact iI h14l ⟨_,(aX H:),bW⟩
    refine aR.exit ?_;exact jJ ⟨_,H,bW⟩
   rintro⟨⟩ H
   refine qW (q1 aE (q1 CI (qN ?_)))
   refine a8 H (fun h17 H=>?_) (fun h17 H=>?_)
   ·refine qW (q1 aE (qZ ?_))
    obtain rfl:_=r:=(mT (aX H):)
    exact bE
   refine aR.skip (qR (q1 aE (q1 (rA (i2+1)) (q1 aE (qN ?_)))))
   exact iI h4l ⟨_,(aX H:),bW⟩
  refine aR.exit ?_;exact jJ ⟨_,H,bW⟩
 rintro⟨⟩ H
 refine qW (q1 aE (qZ ?_))
 cases aX H
 exact bE
def ah4(m:aF→Int→aG→Option Int):Prop:= ∀(pa0:aF) (pa1:Int) (pString:aG) (r:Int),m pa0 pa1 pString=some r→b4 Tryz.prog 115 [(aF.pv pa0),pI pa1,(aG.pv pString)] (pI r:PV)
def EB(fu:Nat)(pa0:aF)(pa1:Int)(pString:aG):Option Int:=
 sw (decide (pString.gKind=4))
 (bd (D8 fu pa0 pString.gName) (fun(x3,x4,x5)=>
 sw (!(x5))
 (some 9)
 (bd (n7 fu pa0 pa1 x4) (fun x8=>
 sw (!(x8))
 (some 9)
 (sw (!decide ((x3.gParams.length:Int)=(pString.gArgs.length:Int)))
 (some 9)
 (some 0))))))
 (sw (decide (pString.gKind=5))
 (bd (qG fu pa0 pa1 pString.gTrait) (fun(x13,x14)=>
 sw (!(x14))
 (some 3)
 (bd (G6 fu x13 pString.gName) (fun(x17,x18)=>
 sw (!(x18))
 (some 6)
 (sw (!decide ((aQ ((x17.gParams.length:Int)+1):Int)=(pString.gArgs.length:Int)))
 (some 6)
 (some 0))))))
 (sw (decide (pString.gKind=6))
 (bd (zU fu pa0 pa1 pString.gName) (fun(x23,x24,x25)=>
 sw (!(x25))
 (some 1)
 (gd (0≤x24∧(x24).toNat<(x23.gConstructors).length)
 (sw (!decide ((((((aW x23.gConstructors ((x24).toNat)).gFields).length:Nat):Int):Int)=(pString.gArgs.length:Int)))
 (some 2)
 (some 0)))))
 (sw (decide (pString.gKind=7))
 (sw (decide ((pString.gArms.length:Int)=0))
 (some 1)
 (gd (0<(pString.gArms).length)
 (lt (aW pString.gArms 0) (fun y32=>
 bd (zU fu pa0 pa1 y32.gConstructor) (fun(x35,x36,x37)=>
 sw (!(x37))
 (some 1)
 (bd (D9 fu x35 pString.gArms) (fun x40=>
 sw (!(x40))
 (some 2)
 (some 0))))))))
 (sw (decide (pString.gKind=11))
 (bd (CS fu pa0 pa1 pString.gTrait) (fun x44=>
 some x44))
 (sw (decide (pString.gKind=12))
 (bd (hL fu pa0 pa1 pString.gType) (fun x47=>
 some x47))
 (some 0))))))
theorem ae7(fu:Nat):ah4 (EB fu):=by
 intro pa0 pa1 pString r H
 have H:=eE H
 refine qI func115 (fun C hC=>?_)
 refine qW (q1 (iM ([aN pa0.gPackages])) (q1 (iM (eN pString)) (q1 aE (qN ?_))))
 refine qS (qS (qR (q1 (a5 pW) (q1 (bD nT) (qN (aR.block (qW (q1 dM (q1 aE (qN ?_))))))))))
 refine a8 H (fun h1 H=>?_) (fun h1 H=>?_)
 ·refine qW (q1 (cJ [aN pa0.gPackages] hZ) (q1 (a5 lX) (q1 (bD eJ) (FA H fun x3 x4 x5 z2 H=>(q1 (bG func161 (ae3 fu pa0 pString.gName _ z2)) (q1 aE ?_))))))
  iterate 3 refine q1 AK ?_
  refine q1 (fO sH) (q1 (bR qK) ?_)
  iterate 2 refine q1 aE ?_
  refine qN (qW (q1 aE (q1 hQ (q1 aE ?_))))
  refine eF 34 H (fun g6 H=>?_) fun g6 H=>?_
  ·refine qk g6 ?_
   iterate 4 refine qk g6 ?_
   refine q1 (bV g6) (q1 aE ?_)
   iterate 7 refine qk rfl ?_
   refine q1 (bV rfl) (qN (eL rfl (qW (q1 aE (qZ ?_)))))
   cases aX H
   exact bE
  refine qg g6 (cJ [aN pa0.gPackages] hZ) ?_
  iterate 2 refine qg g6 aE ?_
  refine bI H fun x8 z7 H=>(qg g6 (bG func156 (vO fu pa0 pa1 x4 _ z7)) (qg g6 hQ (q1 (b9 g6) (q1 aE ?_))))
  refine eF 41 H (fun g9 H=>?_) fun g9 H=>?_
  ·refine qk g9 ?_
   iterate 6 refine qk g9 ?_
   refine q1 (bV g9) (qN (eL rfl (qW (q1 aE (qZ ?_)))))
   cases aX H
   exact bE
  refine qg g9 (a5 sJ) (qg g9 (bD I9) (qg g9 (dL BW (aT.trs_len _)) (qg g9 (a5 fM) (qg g9 (bD oZ) (qg g9 (dL jZ (aG.trs_len _)) (qg g9 CI (q1 (b9 g9) (qN ?_))))))))
  refine a8 H (fun h10 H=>?_) (fun h10 H=>?_)
  ·refine qW (q1 aE (qZ ?_))
   cases aX H
   exact bE
  refine aR.skip (qW (q1 aE (qZ ?_)))
  cases aX H
  exact bE
 refine qW (q1 dM (q1 aE (qN ?_)))
 refine a8 H (fun h11 H=>?_) (fun h11 H=>?_)
 ·refine qW (q1 (cJ [aN pa0.gPackages] hZ) (q1 aE (q1 (a5 A5) (q1 (bD eJ) (fZ H fun x13 x14 z12 H=>(q1 (bG func110 (yE fu pa0 pa1 pString.gTrait _ z12)) (q1 aE ?_)))))))
  iterate 2 refine q1 AK ?_
  refine q1 (fO r3) (q1 (bR pL) (q1 aE (qN ?_)))
  refine qS (qS (qR (q1 aE (q1 hQ (qN ?_)))))
  refine a8 H (fun h15 H=>?_) (fun h15 H=>?_)
  ·refine qW (q1 aE (qZ ?_))
   cases aX H
   exact bE
  refine aR.skip (qW (q1 (cJ [pS x13.gName,rS x13.gSupertraits,pB x13.gAuto,pB x13.gAssoc,c4 x13.gSignatures] l9) (q1 (a5 lX) (q1 (bD eJ) (fZ H fun x17 x18 z16 H=>(q1 (bG func162 (ah6 fu x13 pString.gName _ z16)) (q1 aE ?_)))))))
  iterate 2 refine q1 AK ?_
  refine q1 (fO sI) (q1 (bR NM) (q1 aE (qN (qW (q1 aE (q1 hQ (q1 aE ?_)))))))
  refine eF 71 H (fun g19 H=>?_) fun g19 H=>?_
  ·refine qk g19 ?_
   iterate 7 refine qk g19 ?_
   refine q1 (bV g19) (qN (eL rfl (qW (q1 aE (qZ ?_)))))
   cases aX H
   exact bE
  refine qg g19 (a5 xP) (qg g19 (bD kY) (qg g19 (dL eU (aB.trs_len _)) (qg g19 MZ (qg g19 (a5 fM) (qg g19 (bD oZ) (qg g19 (dL jZ (aG.trs_len _)) (qg g19 CI (q1 (b9 g19) (qN ?_)))))))))
  refine a8 H (fun h20 H=>?_) (fun h20 H=>?_)
  ·refine qW (q1 aE (qZ ?_))
   cases aX H
   exact bE
  refine aR.skip (qW (q1 aE (qZ ?_)))
  cases aX H
  exact bE
 refine qW (q1 dM (q1 aE (qN ?_)))
 refine a8 H (fun h21 H=>?_) (fun h21 H=>?_)
 ·refine qW (q1 (cJ [aN pa0.gPackages] hZ) (q1 aE (q1 (a5 lX) (q1 (bD eJ) (FA H fun x23 x24 x25 z22 H=>(q1 (bG func163 (RG fu pa0 pa1 pString.gName _ z22)) (q1 aE ?_)))))))
  iterate 3 refine q1 AK ?_
  refine q1 (fO jF) (q1 (bR iH) ?_)
  iterate 2 refine q1 aE ?_
  refine qN ?_
  refine qS (qS (qR (q1 aE (q1 hQ (qN ?_)))))
  refine a8 H (fun h26 H=>?_) (fun h26 H=>?_)
  ·refine qW (q1 aE (qZ ?_))
   cases aX H
   exact bE
  refine aR.skip (qS (dK H fun z27 H=>(dW (dI [14] (a5 gG) (dD [94] (bD nN) (dI [15] aE (dI [95,96] (rIy z27 lW) (dI [97] (lR xQ) (dI [98] (kQ kY) (dI [99] (dL eU (aB.trs_len _)) (dI [5] (a5 fM) (dD [101] (bD oZ) (dI [102] (dL jZ (aG.trs_len _)) ?_)))))))))))))
  refine dI [100,103] CI (dN ?_)
  refine a8 H (fun h28 H=>?_) (fun h28 H=>?_)
  ·refine qW (q1 aE (qZ ?_))
   cases aX H
   exact bE
  refine aR.skip (qW (q1 aE (qZ ?_)))
  cases aX H
  exact bE
 refine qW (q1 dM (q1 aE (qN ?_)))
 refine a8 H (fun h29 H=>?_) (fun h29 H=>?_)
 ·refine qS (qW (q1 (a5 eI) (q1 (bD mN) (q1 (dL jL (bA.trs_len _)) (q1 dM (qN ?_))))))
  refine a8 H (fun h30 H=>?_) (fun h30 H=>?_)
  ·refine qW (q1 aE (qZ ?_))
   cases aX H
   exact bE
  refine aR.skip (qS (dK H fun z31 H=>(fP H fun y32 h33 H=>(FA H fun x35 x36 x37 z34 H=>(dW (dB [3] 0 1 (NU [aN pa0.gPackages] hZ) (dI [1] aE (dI [5] (a5 eI) (dB [114] 0 1 (wL mN) (dI [115] (m9 h33 z31 jL) (dI [116] (lR tW) (dI [117] (kQ eJ) (dI [112,113,118] (bG func163 (RG fu pa0 pa1 y32.gConstructor _ z34)) ?_)))))))))))))
  refine dI [119] aE ?_
  iterate 3 refine dI [111] AK ?_
  refine dE [] (fO jF) (lH [17,120] (bR iH) (dI [121] aE (dI [122] aE (dN ?_))))
  refine qS (qS (qR (q1 aE (q1 hQ (qN ?_)))))
  refine a8 H (fun h38 H=>?_) (fun h38 H=>?_)
  ·refine qW (q1 aE (qZ ?_))
   cases aX H
   exact bE
  refine aR.skip (qW (q1 (cJ [pS x35.gName,rS x35.gVars,bY x35.gConstructors] fI) (q1 (a5 eI) (q1 (bD mN) (bI H fun x40 z39 H=>(q1 (bG func164 (ae5 fu x35 pString.gArms _ z39)) (q1 hQ (qN ?_))))))))
  refine a8 H (fun h41 H=>?_) (fun h41 H=>?_)
  ·refine qW (q1 aE (qZ ?_))
   cases aX H
   exact bE
  refine aR.skip (qW (q1 aE (qZ ?_)))
  cases aX H
  exact bE
 refine qW (q1 dM (q1 aE (qN ?_)))
 refine a8 H (fun h42 H=>?_) (fun h42 H=>?_)
 ·refine qW (q1 (cJ [aN pa0.gPackages] hZ) (q1 aE (q1 (a5 A5) (q1 (bD eJ) (bI H fun x44 z43 H=>(q1 (bG func152 (VM fu pa0 pa1 pString.gTrait _ z43)) (q1 aE (qZ ?_))))))))
  cases aX H
  exact bE
 refine qW (q1 dM (q1 aE (qN ?_)))
 refine a8 H (fun h45 H=>?_) (fun h45 H=>?_)
 ·refine qW (q1 (cJ [aN pa0.gPackages] hZ) (q1 aE (q1 (a5 pX) (q1 (cJ [pI pString.gType.gKind,pS pString.gType.gName,a7 pString.gType.gArgs] cU) (bI H fun x47 z46 H=>(q1 (bG func46 (BI fu pa0 pa1 pString.gType _ z46)) (q1 aE (qZ ?_))))))))
  cases aX H
  exact bE
 refine aR.skip (qW (q1 aE (qZ ?_)))
 cases aX H
 exact bE
abbrev n0:=aF→Int→aG→Option Int
def xX(m:n0):Prop:= ∀(pw:aF) (pi:Int) (pe:aG) (r:Int),m pw pi pe=some r→b4 Tryz.prog 53 [(aF.pv pw),pI pi,(aG.pv pe)] (pI r:PV)
def vM(fu:Nat)(r_sCheckExpr:n0)(pw:aF)(pi:Int)(pe:aG)(x2:Int):Nat→Int→Option (LR Int Int):=
 fun i3 v4=>sw (decide (v4=0))
 (lt (aW pe.gArgs i3) (fun y8=>
 bd (r_sCheckExpr pw pi y8) (fun x11=>
 some (.next x11))))
 (some (.brk v4))
def I0(fu:Nat)(r_sCheckExpr:n0)(pw:aF)(pi:Int)(pe:aG)(x2:Int):Option (Int⊕Int):=
 loopN (vM fu r_sCheckExpr pw pi pe x2) (pe.gArgs.length-0) 0 x2
def sB(fu:Nat)(r_sCheckExpr:n0)(pw:aF)(pi:Int)(pe:aG)(x2 v4:Int):Nat→Int→Option (LR Int Int):=
 fun i12 v13=>sw (decide (v13=0))
 (lt (aW pe.gArms i12) (fun y17=>
 bd (r_sCheckExpr pw pi y17.gBody) (fun x20=>
 some (.next x20))))
 (some (.brk v13))
def I1(fu:Nat)(r_sCheckExpr:n0)(pw:aF)(pi:Int)(pe:aG)(x2 v4:Int):Option (Int⊕Int):=
 loopN (sB fu r_sCheckExpr pw pi pe x2 v4) (pe.gArms.length-0) 0 v4
def DQ(fu:Nat)(r_sCheckExpr:n0)(pw:aF)(pi:Int)(pe:aG):Option Int:=
 bd (EB fu pw pi pe) (fun x2=>
 so (I0 fu r_sCheckExpr pw pi pe x2) (fun v4=>
 so (I1 fu r_sCheckExpr pw pi pe x2 v4) (fun v13=>
 some v13)))
theorem R7(fu:Nat)(r_sCheckExpr:n0)(h_sCheckExpr:xX r_sCheckExpr):xX (DQ fu r_sCheckExpr):=by
 intro pw pi pe r H
 have H:=eE H
 refine qI func53 (fun C hC=>?_)
 refine qW (q1 (iM ([aN pw.gPackages])) (q1 (iM (eN pe)) (q1 aE (qN (qW (q1 (cJ [aN pw.gPackages] hZ) (q1 aE (q1 (cJ [pI pe.gKind,pS pe.gTrait,pS pe.gName,pI pe.gN,pI pe.gType.gKind,pS pe.gType.gName,a7 pe.gType.gArgs,eB pe.gArgs,g0 pe.gArms] fE) (bI H fun x2 z1 H=>(q1 (bG func115 (ae7 fu pw pi pe _ z1)) (q1 aE ?_)))))))))))
 refine qN ?_
 refine qS (qS (qR (q1 aE (qN ?_))))
 refine aR.fact (b5 1 7 rfl rfl rfl (aG.trs_len _)) (fun hl5=>?_)
 refine b0 (σ:=Int) (fun i3 v4=>⟨[(1,pI pi),(3,.ptr 0 0),(5,.ptr 1 0),(6,pI 0),(7,pI v4),(8,pN i3)],⟨[some ⟨26,[aN pw.gPackages]⟩,some ⟨87,eN pe⟩],[]⟩⟩) (fun v4=>⟨[(1,pI pi),(3,.ptr 0 0),(5,.ptr 1 0),(6,pI 0),(7,pI v4)],⟨[some ⟨26,[aN pw.gPackages]⟩,some ⟨87,eN pe⟩],[]⟩⟩) (fK H) ?_ ?_
 ·rintro i3 v4 H
  refine qS (qS (qR (q1 aE (q1 (a5 fM) (q1 (bD oZ) (q1 (dL jZ (aG.trs_len _)) (q1 gI (q1 aE ?_))))))))
  refine AL.splitB 19 rfl (fun g6=>?_) (fun g6=>?_)
  ·have g6l:=qA g6
   have H:=lnT g6l H
   have g6n:=a4 g6
   refine qg g6 aE (qg g6 dM (q1 (bV g6) (qN ?_)))
   refine a8 H (fun h7 H=>?_) (fun h7 H=>?_)
   ·refine aR.skip (qS (aR.block (fP H fun y8 h9 H=>(bI H fun x11 z10 H=>(dW (dD [3] (cJ [aN pw.gPackages] hZ) (dI [1] aE (dI [5] (a5 fM) (dD [27] (bD oZ) (dI [8] aE (dI [28,29] (m9 h9 g6n jZ) (dI [30] (kM (aG.cs y8) fE) (dI [25,26,31] (bG func53 (h_sCheckExpr pw pi y8 _ z10)) ?_)))))))))))))
    refine dI [32] aE (dN (qR (q1 aE (q1 (rA (i3+1)) (q1 aE (qN ?_))))))
    exact iI g6l ⟨_,(aX H:),bW⟩
   refine aR.exit ?_;exact lpB ⟨_,(aX H:),bW⟩
  have H:=lnE (p9 g6) H
  iterate 2 refine qk g6 ?_
  refine q1 (b9 g6) (qN (jR rfl (aR.exit ?_)))
  exact jJ ⟨_,H,bW⟩
 rintro v4 H
 refine qS (qS (qR (q1 aE (qN ?_))))
 refine aR.fact (b5 1 8 rfl rfl rfl (bA.trs_len _)) (fun hl14=>?_)
 refine b0 (σ:=Int) (fun i12 v13=>⟨[(1,pI pi),(3,.ptr 0 0),(5,.ptr 1 0),(6,pI 0),(7,pI v13),(9,pN i12)],⟨[some ⟨26,[aN pw.gPackages]⟩,some ⟨87,eN pe⟩],[]⟩⟩) (fun v13=>⟨[(6,pI 0),(7,pI v13)],⟨[some ⟨26,[aN pw.gPackages]⟩,some ⟨87,eN pe⟩],[]⟩⟩) (fK H) ?_ ?_
 ·rintro i12 v13 H
  refine qS (qS (qR (q1 aE (q1 (a5 eI) (q1 (bD mN) (q1 (dL jL (bA.trs_len _)) (q1 gI (q1 aE ?_))))))))
  refine AL.splitB 38 rfl (fun g15=>?_) (fun g15=>?_)
  ·have g15l:=qA g15
   have H:=lnT g15l H
   have g15n:=a4 g15
   refine qg g15 aE (qg g15 dM (q1 (bV g15) (qN ?_)))
   refine a8 H (fun h16 H=>?_) (fun h16 H=>?_)
   ·refine aR.skip (qS (aR.block (fP H fun y17 h18 H=>(bI H fun x20 z19 H=>(dW (dD [3] (cJ [aN pw.gPackages] hZ) (dI [1] aE (dI [5] (a5 eI) (dD [46] (bD mN) (dI [9] aE (dI [47,48] (m9 h18 g15n jL) (dI [49] (lR A6) (dI [50] (kM (aG.cs y17.gBody) fE) ?_)))))))))))))
    refine dI [44,45,51] (bG func53 (h_sCheckExpr pw pi y17.gBody _ z19)) (dI [52] aE (dN (qR (q1 aE (q1 (rA (i12+1)) (q1 aE (qN ?_)))))))
    exact iI g15l ⟨_,(aX H:),bW⟩
   refine aR.exit ?_;exact lpB ⟨_,(aX H:),bW⟩
  have H:=lnE (p9 g15) H
  iterate 2 refine qk g15 ?_
  refine q1 (b9 g15) (qN (jR rfl (aR.exit ?_)))
  exact jJ ⟨_,H,bW⟩
 rintro v13 H
 refine qS (qR ?_)
 iterate 2 refine q1 aE ?_
 refine qN (aR.ret ?_)
 cases aX H
 exact bE
def lJ:Nat→aF→Int→aG→Option Int
 |0,_,_,_=>none
 |fu+1,pw,pi,pe=>DQ fu (lJ fu) pw pi pe
theorem UT(fu:Nat):xX (lJ fu):=by
 induction fu with
 |zero=>exact(fun pw pi pe r H=>by simp only [lJ] at H;cases H)
 |succ fu ih=>exact(fun pw pi pe r H=>by simp only [lJ] at H;exact R7 fu (lJ fu) ih pw pi pe r H)
theorem BH(fu:Nat):xX (lJ fu):=(UT fu)
def acY(m:aF→ByteArray→Option (aK×Int×Bool)):Prop:= ∀(pw:aF) (pname:ByteArray) (r:aK×Int×Bool),m pw pname=some r→b4 Tryz.prog 203 [(aF.pv pw),pS pname] (.tup [(aK.pv r.1),pI r.2.1,pB r.2.2]:PV)
def DG(fu:Nat)(pw:aF)(pname:ByteArray)(i1:Nat)(y4:aJ):Nat→Unit→Option (LR Unit (LR Unit (aK×Int×Bool))):=
 fun i7 _=>lt (aW y4.gFunctions i7) (fun y9=>
 sw (decide (y9.gName=pname))
 (some (.ret (.ret (y9,(i1:Int),true))))
 (some (.next ())))
def ML(fu:Nat)(pw:aF)(pname:ByteArray)(i1:Nat)(y4:aJ):Option ((LR Unit (aK×Int×Bool))⊕Unit):=
 loopN (DG fu pw pname i1 y4) (y4.gFunctions.length-0) 0 ()
def DF(fu:Nat)(pw:aF)(pname:ByteArray):Nat→Unit→Option (LR Unit (aK×Int×Bool)):=
 fun i1 _=>lt (aW pw.gPackages i1) (fun y4=>
 so (ML fu pw pname i1 y4) (fun _=>
 some (.next ())))
def MK(fu:Nat)(pw:aF)(pname:ByteArray):Option ((aK×Int×Bool)⊕Unit):=
 loopN (DF fu pw pname) (pw.gPackages.length-0) 0 ()
def AI(fu:Nat)(pw:aF)(pname:ByteArray):Option (aK×Int×Bool):=
 so (MK fu pw pname) (fun _=>
 some ((aK.mk s_ [] [] [] (aB.mk 0 s_ []) (aG.mk 0 s_ s_ 0 (aB.mk 0 s_ []) [] [])),0,false))
theorem ZI(fu:Nat):acY (AI fu):=by
 intro pw pname r H
 have H:=eE H
 refine qI func203 (fun C hC=>?_)
 refine qW (q1 (iM ([aN pw.gPackages])) (q1 (fO sH) ?_))
 iterate 2 refine q1 aE ?_
 refine qN ?_
 refine qS (qS (qR (q1 (a5 fR) (q1 (bD pP) (q1 (dL mG (aJ.trs_len _)) (q1 aE (qN ?_)))))))
 refine lD 12 (aJ.trs_len _) (fun hl2=>?_)
 refine b0 (σ:=Unit) (fun i1 _=>⟨[(1,pS pname),(4,.ptr 1 0),(5,pI 0),(6,pB false),(12,aN pw.gPackages),(13,pN pw.gPackages.length),(14,pN i1)],⟨[some ⟨26,[aN pw.gPackages]⟩,some ⟨148,[pS s_,.nil,.nil,.nil,pI 0,pS s_,.nil,pI 0,pS s_,pS s_,pI 0,pI 0,pS s_,.nil,.nil,.nil]⟩],[]⟩⟩) (fun _=>⟨[(4,.ptr 1 0),(5,pI 0),(6,pB false)],⟨[some ⟨26,[aN pw.gPackages]⟩,some ⟨148,[pS s_,.nil,.nil,.nil,pI 0,pS s_,.nil,pI 0,pS s_,pS s_,pI 0,pI 0,pS s_,.nil,.nil,.nil]⟩],[]⟩⟩) (fK H) ?_ ?_
 ·rintro i1 ⟨⟩ H
  refine qW (q1 gI (qN (qS ?_)))
  refine dG H (fun h3 h3l H=>?_) (fun h3 H=>?_)
  ·have h3n:=a4 h3
   refine aR.skip (qS (aR.block (qW (q1 aE (fP H fun y4 h5 H=>(q1 (m9 h5 h3n mG) (q1 (kM (aJ.cs y4) nO) (q1 (fO qL) (q1 aE (q1 (bR sF) (qN (qS ?_))))))))))))
   refine qR (q1 (a5 nX) (q1 (bD CO) ?_))
   refine FS 20 (aK.trs_len _) (fun hl6=>?_)
   refine q1 (dL xB (aK.trs_len _)) (q1 aE (qN ?_))
   refine b0 (σ:=Unit) (fun i7 _=>⟨[(1,pS pname),(4,.ptr 1 0),(5,pI 0),(6,pB false),(7,pN i1),(8,.ptr 2 0),(12,aN pw.gPackages),(13,pN pw.gPackages.length),(14,pN i1),(15,pB (decide ((i1:Int)<(pw.gPackages.length:Int)))),(16,pN i1),(17,.eptr (aJ.cs y4)),(18,(aJ.pv y4)),(19,.ptr 2 5),(20,yK y4.gFunctions),(21,pN y4.gFunctions.length),(22,pN i7)],⟨[some ⟨26,[aN pw.gPackages]⟩,some ⟨148,[pS s_,.nil,.nil,.nil,pI 0,pS s_,.nil,pI 0,pS s_,pS s_,pI 0,pI 0,pS s_,.nil,.nil,.nil]⟩,some ⟨131,dV y4⟩],[]⟩⟩) (fun _=>⟨[(1,pS pname),(4,.ptr 1 0),(5,pI 0),(6,pB false),(7,pN i1),(8,.ptr 2 0),(12,aN pw.gPackages),(13,pN pw.gPackages.length),(14,pN i1),(15,pB (decide ((i1:Int)<(pw.gPackages.length:Int)))),(16,pN i1),(17,.eptr (aJ.cs y4)),(18,(aJ.pv y4)),(19,.ptr 2 5),(20,yK y4.gFunctions),(21,pN y4.gFunctions.length)],⟨[some ⟨26,[aN pw.gPackages]⟩,some ⟨148,[pS s_,.nil,.nil,.nil,pI 0,pS s_,.nil,pI 0,pS s_,pS s_,pI 0,pI 0,pS s_,.nil,.nil,.nil]⟩,some ⟨131,dV y4⟩],[]⟩⟩) (fK H) ?_ ?_
   ·rintro i7 ⟨⟩ H
    refine qW (q1 gI (qN (qS ?_)))
    refine dG H (fun h8 h8l H=>?_) (fun h8 H=>?_)
    ·have h8n:=a4 h8
     refine aR.skip (qS (aR.block (qW (fP H fun y9 h10 H=>(q1 (m9 h10 h8n xB) (q1 (kM (aK.cs y9) lN) (q1 (fO sH) (q1 (bR qK) (qN (qW (q1 (a5 GR) ?_)))))))))))
     refine q1 (bD eJ) (q1 aE (q1 AM (qN ?_)))
     refine a8 H (fun h11 H=>?_) (fun h11 H=>?_)
     ·refine qW (q1 (cJ [pS y9.gName,rS y9.gVars,fS y9.gWhere,FW y9.gParams,pI y9.gResult.gKind,pS y9.gResult.gName,a7 y9.gResult.gArgs,pI y9.gBody.gKind,pS y9.gBody.gTrait,pS y9.gBody.gName,pI y9.gBody.gN,pI y9.gBody.gType.gKind,pS y9.gBody.gType.gName,a7 y9.gBody.gType.gArgs,eB y9.gBody.gArgs,g0 y9.gBody.gArms] lN) (q1 aE (q1 (bR qK) ?_)))
      iterate 2 refine q1 aE ?_
      refine qN (aR.ret ?_)
      obtain rfl:_=r:=(mT (AA (mT (aX H))):)
      exact NT (hr:=⟨⟨_,_,_,rfl,rfl,lN,rfl,rfl⟩,rfl,rfl,trivial⟩)
     refine aR.skip (qR (q1 (rA (i7+1)) (q1 aE (qN ?_))))
     exact iI h8l ⟨_,(aX H:),bW⟩
    refine aR.exit ?_;exact jJ ⟨_,H,bW⟩
   rintro⟨⟩ H
   refine qR (q1 (rA (i1+1)) (q1 aE (qN ?_)))
   exact iI h3l ⟨_,(aX H:),bW⟩
  refine aR.exit ?_;exact jJ ⟨_,H,bW⟩
 rintro⟨⟩ H
 refine qW (q1 (gW sH UO) (q1 (bR qK) ?_))
 iterate 2 refine q1 aE ?_
 refine qN (aR.ret ?_)
 cases aX H
 exact NT (hr:=⟨⟨_,_,_,rfl,rfl,lN,rfl,rfl⟩,rfl,rfl,trivial⟩)
def ZN(m:bS→ByteArray→Option (aK×Bool)):Prop:= ∀(pv:bS) (pname:ByteArray) (r:aK×Bool),m pv pname=some r→b4 Tryz.prog 186 [(bS.pv pv),pS pname] (.tup [(aK.pv r.1),pB r.2]:PV)
def xV(fu:Nat)(pv:bS)(pname:ByteArray):Option (aK×Bool):=
 bd (AI fu pv.gw pname) (fun(x2,x3,x4)=>
 sw (x4)
 (bd (zG fu pv x3) (fun x7=>
 some (x2,x7)))
 (some (x2,false)))
theorem WR(fu:Nat):ZN (xV fu):=by
 intro pv pname r H
 have H:=eE H
 refine qI func186 (fun C hC=>?_)
 refine qW (q1 (iM ([aN pv.gw.gPackages,rI pv.gvisible])) (q1 (fO sH) (q1 aE (qN (qW (q1 (a5 LY) (q1 (cJ [aN pv.gw.gPackages] hZ) (q1 aE (FA H fun x2 x3 x4 z1 H=>(q1 (bG func203 (ZI fu pv.gw pname _ z1)) (q1 aE ?_)))))))))))
 iterate 3 refine q1 AK ?_
 refine q1 (fO sH) (q1 (bR qK) ?_)
 iterate 2 refine q1 aE ?_
 refine qN (qS ?_)
 rcases mA (x4) with g5|g5
 ·have H:=sE H g5
  refine bI H fun x7 z6 H=>(dW (dD [6] (cJ [pS x2.gName,rS x2.gVars,fS x2.gWhere,FW x2.gParams,pI x2.gResult.gKind,pS x2.gResult.gName,a7 x2.gResult.gArgs,pI x2.gBody.gKind,pS x2.gBody.gTrait,pS x2.gBody.gName,pI x2.gBody.gN,pI x2.gBody.gType.gKind,pS x2.gBody.gType.gName,a7 x2.gBody.gType.gArgs,eB x2.gBody.gArgs,g0 x2.gBody.gArms] lN) (dI [8] aE (dI [18] aE (dD (hg:=a6 g5) [2] (cJ [aN pv.gw.gPackages,rI pv.gvisible] qE) (dI (hg:=a6 g5) [7] aE (dI (hg:=a6 g5) [20,21] (bG func183 (GV fu pv x3 _ z6)) (dI [19,22] (bV g5) (lH [4,17] (bR qK) (dI [23] aE (dN (aR.ret ?_))))))))))))
  cases aX H
  exact tT (hr:=⟨⟨_,_,_,rfl,rfl,lN,rfl,rfl⟩,rfl,trivial⟩)
 have H:=sD H g5
 refine dW (dD [6] (cJ [pS x2.gName,rS x2.gVars,fS x2.gWhere,FW x2.gParams,pI x2.gResult.gKind,pS x2.gResult.gName,a7 x2.gResult.gArgs,pI x2.gBody.gKind,pS x2.gBody.gTrait,pS x2.gBody.gName,pI x2.gBody.gN,pI x2.gBody.gType.gKind,pS x2.gBody.gType.gName,a7 x2.gBody.gType.gArgs,eB x2.gBody.gArgs,g0 x2.gBody.gArms] lN) (dI [8] aE (dI [18] aE ?_)))
 iterate 3 refine FE g5 ?_
 refine dI [19] (b9 g5) (lH [4,17] (bR qK) (dI [23] aE (dN (aR.ret ?_))))
 cases aX H
 exact tT (hr:=⟨⟨_,_,_,rfl,rfl,lN,rfl,rfl⟩,rfl,trivial⟩)
def ZK(m:aP→ByteArray→Option (aC×Int×Bool)):Prop:= ∀(pt:aP) (pname:ByteArray) (r:aC×Int×Bool),m pt pname=some r→b4 Tryz.prog 187 [(aP.pv pt),pS pname] (.tup [(aC.pv r.1),pI r.2.1,pB r.2.2]:PV)
def BA(fu:Nat)(pt:aP)(pname:ByteArray):Nat→Unit→Option (LR Unit (aC×Int×Bool)):=
 fun i1 _=>lt (aW pt.gSignatures i1) (fun y4=>
 sw (decide (y4.gName=pname))
 (some (.ret (y4,(i1:Int),true)))
 (some (.next ())))
def IX(fu:Nat)(pt:aP)(pname:ByteArray):Option ((aC×Int×Bool)⊕Unit):=
 loopN (BA fu pt pname) (pt.gSignatures.length-0) 0 ()
def xT(fu:Nat)(pt:aP)(pname:ByteArray):Option (aC×Int×Bool):=
 so (IX fu pt pname) (fun _=>
 some ((aC.mk s_ [] (aB.mk 0 s_ []) false [] (aG.mk 0 s_ s_ 0 (aB.mk 0 s_ []) [] [])),0,false))
theorem WO(fu:Nat):ZK (xT fu):=by
 intro pt pname r H
 have H:=eE H
 refine qI func187 (fun C hC=>?_)
 refine qW (q1 (iM (nH pt)) (q1 (fO sI) ?_))
 iterate 2 refine q1 aE ?_
 refine qN ?_
 refine qS (qS (qR (q1 (a5 iV) (q1 (bD w9) (q1 (dL pT (aC.trs_len _)) (q1 aE (qN ?_)))))))
 refine lD 10 (aC.trs_len _) (fun hl2=>?_)
 refine b0 (σ:=Unit) (fun i1 _=>⟨[(1,pS pname),(4,.ptr 1 0),(5,pI 0),(6,pB false),(10,c4 pt.gSignatures),(11,pN pt.gSignatures.length),(12,pN i1)],⟨[some ⟨60,nH pt⟩,some ⟨164,[pS s_,.nil,pI 0,pS s_,.nil,pB false,.nil,pI 0,pS s_,pS s_,pI 0,pI 0,pS s_,.nil,.nil,.nil]⟩],[]⟩⟩) (fun _=>⟨[(4,.ptr 1 0),(5,pI 0),(6,pB false)],⟨[some ⟨60,nH pt⟩,some ⟨164,[pS s_,.nil,pI 0,pS s_,.nil,pB false,.nil,pI 0,pS s_,pS s_,pI 0,pI 0,pS s_,.nil,.nil,.nil]⟩],[]⟩⟩) (fK H) ?_ ?_
 ·rintro i1 ⟨⟩ H
  refine qW (q1 gI (qN (qS ?_)))
  refine dG H (fun h3 h3l H=>?_) (fun h3 H=>?_)
  ·have h3n:=a4 h3
   refine aR.skip (qS (aR.block (qW (q1 aE (fP H fun y4 h5 H=>(q1 (m9 h5 h3n pT) (q1 (kM (aC.cs y4) CP) (q1 (fO sI) (q1 aE (q1 (bR NM) (qN (qS ?_))))))))))))
   refine qR (q1 (a5 L1) (q1 (bD eJ) (q1 aE (q1 AM (qN ?_)))))
   refine a8 H (fun h6 H=>?_) (fun h6 H=>?_)
   ·refine qW (q1 (cJ [pS y4.gName,a7 y4.gParams,pI y4.gResult.gKind,pS y4.gResult.gName,a7 y4.gResult.gArgs,pB y4.gHasDefault,rS y4.gVars,pI y4.gBody.gKind,pS y4.gBody.gTrait,pS y4.gBody.gName,pI y4.gBody.gN,pI y4.gBody.gType.gKind,pS y4.gBody.gType.gName,a7 y4.gBody.gType.gArgs,eB y4.gBody.gArgs,g0 y4.gBody.gArms] CP) (q1 aE (q1 (bR NM) ?_)))
    iterate 2 refine q1 aE ?_
    refine qN (aR.ret ?_)
    obtain rfl:_=r:=(mT (aX H):)
    exact NT (hr:=⟨⟨_,_,_,rfl,rfl,CP,rfl,rfl⟩,rfl,rfl,trivial⟩)
   refine aR.skip (qR (q1 (rA (i1+1)) (q1 aE (qN ?_))))
   exact iI h3l ⟨_,(aX H:),bW⟩
  refine aR.exit ?_;exact jJ ⟨_,H,bW⟩
 rintro⟨⟩ H
 refine qW (q1 (gW sI YC) (q1 (bR NM) ?_))
 iterate 2 refine q1 aE ?_
 refine qN (aR.ret ?_)
 cases aX H
 exact NT (hr:=⟨⟨_,_,_,rfl,rfl,CP,rfl,rfl⟩,rfl,rfl,trivial⟩)
def T7(m:aF→ByteArray→Option (aH×Int×Bool)):Prop:= ∀(pw:aF) (pname:ByteArray) (r:aH×Int×Bool),m pw pname=some r→b4 Tryz.prog 204 [(aF.pv pw),pS pname] (.tup [(aH.pv r.1),pI r.2.1,pB r.2.2]:PV)
def wP(fu:Nat)(pw:aF)(pname:ByteArray)(i1:Nat)(y4:aJ)(i7:Nat):Nat→Unit→Option (LR Unit (LR Unit (LR Unit (aH×Int×Bool)))):=
 fun i10 _=>sw (decide ((aW ((aW y4.gDataTypes i7).gConstructors) i10).gName=pname))
 (some (.ret (.ret (.ret ((aW y4.gDataTypes i7),(i10:Int),true)))))
 (some (.next ()))
def EL(fu:Nat)(pw:aF)(pname:ByteArray)(i1:Nat)(y4:aJ)(i7:Nat):Option ((LR Unit (LR Unit (aH×Int×Bool)))⊕Unit):=
 loopN (wP fu pw pname i1 y4 i7) (((aW y4.gDataTypes i7).gConstructors).length-0) 0 ()
def wO(fu:Nat)(pw:aF)(pname:ByteArray)(i1:Nat)(y4:aJ):Nat→Unit→Option (LR Unit (LR Unit (aH×Int×Bool))):=
 fun i7 _=>so (EL fu pw pname i1 y4 i7) (fun _=>
 some (.next ()))
def EK(fu:Nat)(pw:aF)(pname:ByteArray)(i1:Nat)(y4:aJ):Option ((LR Unit (aH×Int×Bool))⊕Unit):=
 loopN (wO fu pw pname i1 y4) (y4.gDataTypes.length-0) 0 ()
def wN(fu:Nat)(pw:aF)(pname:ByteArray):Nat→Unit→Option (LR Unit (aH×Int×Bool)):=
 fun i1 _=>lt (aW pw.gPackages i1) (fun y4=>
 so (EK fu pw pname i1 y4) (fun _=>
 some (.next ())))
def EJ(fu:Nat)(pw:aF)(pname:ByteArray):Option ((aH×Int×Bool)⊕Unit):=
 loopN (wN fu pw pname) (pw.gPackages.length-0) 0 ()
def t1(fu:Nat)(pw:aF)(pname:ByteArray):Option (aH×Int×Bool):=
 so (EJ fu pw pname) (fun _=>
 some ((aH.mk s_ [] []),0,false))
theorem RY(fu:Nat):T7 (t1 fu):=by
 intro pw pname r H
 have H:=eE H
 refine qI func204 (fun C hC=>?_)
 refine qW (q1 (iM ([aN pw.gPackages])) (q1 (fO jF) ?_))
 iterate 2 refine q1 aE ?_
 refine qN ?_
 refine qS (qS (qR (q1 (a5 fR) (q1 (bD pP) (q1 (dL mG (aJ.trs_len _)) (q1 aE (qN ?_)))))))
 refine lD 14 (aJ.trs_len _) (fun hl2=>?_)
 refine b0 (σ:=Unit) (fun i1 _=>⟨[(1,pS pname),(4,.ptr 1 0),(5,pI 0),(6,pB false),(14,aN pw.gPackages),(15,pN pw.gPackages.length),(16,pN i1)],⟨[some ⟨26,[aN pw.gPackages]⟩,some ⟨116,[pS s_,.nil,.nil]⟩],[]⟩⟩) (fun _=>⟨[(4,.ptr 1 0),(5,pI 0),(6,pB false)],⟨[some ⟨26,[aN pw.gPackages]⟩,some ⟨116,[pS s_,.nil,.nil]⟩],[]⟩⟩) (fK H) ?_ ?_
 ·rintro i1 ⟨⟩ H
  refine qW (q1 gI (qN (qS ?_)))
  refine dG H (fun h3 h3l H=>?_) (fun h3 H=>?_)
  ·have h3n:=a4 h3
   refine aR.skip (qS (aR.block (qW (fP H fun y4 h5 H=>(q1 (m9 h5 h3n mG) (q1 (kM (aJ.cs y4) nO) (q1 (fO qL) (q1 (bR sF) (qN (qW (q1 (a5 l7) ?_)))))))))))
   refine q1 (bD xK) ?_;refine FS 21 (aH.trs_len _) (fun hl6=>?_)
   refine q1 (dL tE (aH.trs_len _)) (q1 aE (qN ?_))
   refine b0 (σ:=Unit) (fun i7 _=>⟨[(1,pS pname),(4,.ptr 1 0),(5,pI 0),(6,pB false),(8,.ptr 2 0),(14,aN pw.gPackages),(15,pN pw.gPackages.length),(16,pN i1),(17,pB (decide ((i1:Int)<(pw.gPackages.length:Int)))),(18,.eptr (aJ.cs y4)),(19,(aJ.pv y4)),(20,.ptr 2 3),(21,iJ y4.gDataTypes),(22,pN y4.gDataTypes.length),(23,pN i7)],⟨[some ⟨26,[aN pw.gPackages]⟩,some ⟨116,[pS s_,.nil,.nil]⟩,some ⟨131,dV y4⟩],[]⟩⟩) (fun _=>⟨[(1,pS pname),(4,.ptr 1 0),(5,pI 0),(6,pB false),(8,.ptr 2 0),(14,aN pw.gPackages),(15,pN pw.gPackages.length),(16,pN i1),(17,pB (decide ((i1:Int)<(pw.gPackages.length:Int)))),(18,.eptr (aJ.cs y4)),(19,(aJ.pv y4)),(20,.ptr 2 3),(21,iJ y4.gDataTypes),(22,pN y4.gDataTypes.length)],⟨[some ⟨26,[aN pw.gPackages]⟩,some ⟨116,[pS s_,.nil,.nil]⟩,some ⟨131,dV y4⟩],[]⟩⟩) (fK H) ?_ ?_
   ·rintro i7 ⟨⟩ H
    refine qW (q1 gI (qN (qS ?_)))
    refine dG H (fun h8 h8l H=>?_) (fun h8 H=>?_)
    ·have h8n:=a4 h8
     refine aR.skip (qS (aR.block (qW (q1 (kP h8n tE) (q1 (kM (aH.cs (aW y4.gDataTypes i7)) fI) (q1 (fO jF) (q1 (bR iH) (qN (qW (q1 (a5 gG) (q1 (bD nN) ?_)))))))))))
     refine FS 28 (aD.trs_len _) (fun hl9=>?_)
     refine q1 (dL lW (aD.trs_len _)) (q1 aE (qN ?_))
     refine b0 (σ:=Unit) (fun i10 _=>⟨[(1,pS pname),(4,.ptr 1 0),(5,pI 0),(6,pB false),(8,.ptr 2 0),(10,.ptr 3 0),(14,aN pw.gPackages),(15,pN pw.gPackages.length),(16,pN i1),(17,pB (decide ((i1:Int)<(pw.gPackages.length:Int)))),(18,.eptr (aJ.cs y4)),(19,(aJ.pv y4)),(20,.ptr 2 3),(21,iJ y4.gDataTypes),(22,pN y4.gDataTypes.length),(23,pN i7),(24,pB (decide ((i7:Int)<(y4.gDataTypes.length:Int)))),(25,.eptr (aH.cs (aW y4.gDataTypes i7))),(26,(aH.pv (aW y4.gDataTypes i7))),(27,.ptr 3 2),(28,bY ((aW y4.gDataTypes i7).gConstructors)),(29,pN (((aW y4.gDataTypes i7).gConstructors).length)),(30,pN i10)],⟨[some ⟨26,[aN pw.gPackages]⟩,some ⟨116,[pS s_,.nil,.nil]⟩,some ⟨131,dV y4⟩,some ⟨116,gK (aW y4.gDataTypes i7)⟩],[]⟩⟩) (fun _=>⟨[(1,pS pname),(4,.ptr 1 0),(5,pI 0),(6,pB false),(8,.ptr 2 0),(10,.ptr 3 0),(14,aN pw.gPackages),(15,pN pw.gPackages.length),(16,pN i1),(17,pB (decide ((i1:Int)<(pw.gPackages.length:Int)))),(18,.eptr (aJ.cs y4)),(19,(aJ.pv y4)),(20,.ptr 2 3),(21,iJ y4.gDataTypes),(22,pN y4.gDataTypes.length),(23,pN i7),(24,pB (decide ((i7:Int)<(y4.gDataTypes.length:Int)))),(25,.eptr (aH.cs (aW y4.gDataTypes i7))),(26,(aH.pv (aW y4.gDataTypes i7))),(27,.ptr 3 2),(28,bY ((aW y4.gDataTypes i7).gConstructors)),(29,pN (((aW y4.gDataTypes i7).gConstructors).length))],⟨[some ⟨26,[aN pw.gPackages]⟩,some ⟨116,[pS s_,.nil,.nil]⟩,some ⟨131,dV y4⟩,some ⟨116,gK (aW y4.gDataTypes i7)⟩],[]⟩⟩) (fK H) ?_ ?_
     ·rintro i10 ⟨⟩ H
      refine qW (q1 gI (qN (qS ?_)))
      refine dG H (fun h11 h11l H=>?_) (fun h11 H=>?_)
      ·have h11n:=a4 h11
       refine aR.skip (qS (aR.block (qW (q1 aE (q1 (kP h11n lW) (q1 (kM (aD.cs (aW ((aW y4.gDataTypes i7).gConstructors) i10)) ap9) (q1 (fO V9) (q1 aE (q1 (bR aqH) (qN (qS (qR ?_))))))))))))
       refine q1 (a5 sK) (q1 (bD eJ) (q1 aE (q1 AM (qN ?_))))
       refine a8 H (fun h12 H=>?_) (fun h12 H=>?_)
       ·refine qW (q1 (cJ [pS ((aW y4.gDataTypes i7).gName),rS ((aW y4.gDataTypes i7).gVars),bY ((aW y4.gDataTypes i7).gConstructors)] fI) (q1 aE (q1 (bR iH) ?_)))
        iterate 2 refine q1 aE ?_
        refine qN (aR.ret ?_)
        obtain rfl:_=r:=(mT (AA (mT (AA (mT (aX H))))):)
        exact NT (hr:=⟨⟨_,_,_,rfl,rfl,fI,rfl,rfl⟩,rfl,rfl,trivial⟩)
       refine aR.skip (qR (q1 (rA (i10+1)) (q1 aE (qN ?_))))
       exact iI h11l ⟨_,(aX H:),bW⟩
      refine aR.exit ?_;exact jJ ⟨_,H,bW⟩
     rintro⟨⟩ H
     refine qR (q1 (rA (i7+1)) (q1 aE (qN ?_)))
     exact iI h8l ⟨_,(aX H:),bW⟩
    refine aR.exit ?_;exact jJ ⟨_,H,bW⟩
   rintro⟨⟩ H
   refine qR (q1 (rA (i1+1)) (q1 aE (qN ?_)))
   exact iI h3l ⟨_,(aX H:),bW⟩
  refine aR.exit ?_;exact jJ ⟨_,H,bW⟩
 rintro⟨⟩ H
 refine qW (q1 (gW jF MX) (q1 (bR iH) ?_))
 iterate 2 refine q1 aE ?_
 refine qN (aR.ret ?_)
 cases aX H
 exact NT (hr:=⟨⟨_,_,_,rfl,rfl,fI,rfl,rfl⟩,rfl,rfl,trivial⟩)
def R3(m:bS→ByteArray→Option (aH×Int×Bool)):Prop:= ∀(pv:bS) (pname:ByteArray) (r:aH×Int×Bool),m pv pname=some r→b4 Tryz.prog 188 [(bS.pv pv),pS pname] (.tup [(aH.pv r.1),pI r.2.1,pB r.2.2]:PV)
def oU(fu:Nat)(pv:bS)(pname:ByteArray):Option (aH×Int×Bool):=
 bd (t1 fu pv.gw pname) (fun(x2,x3,x4)=>
 bd (MJ fu pv.gw x2.gName) (fun(x6,x7,x8)=>
 sw (x4)
 (sw (x8)
 (bd (zG fu pv x7) (fun x12=>
 some (x2,x3,x12)))
 (some (x2,x3,false)))
 (some (x2,x3,false))))
theorem CD(fu:Nat):R3 (oU fu):=by
 intro pv pname r H
 have H:=eE H
 refine qI func188 (fun C hC=>?_)
 refine qW (q1 (iM ([aN pv.gw.gPackages,rI pv.gvisible])) (q1 (fO jF) ?_))
 iterate 2 refine q1 aE ?_
 refine qN (qW (q1 (a5 LY) (q1 (cJ [aN pv.gw.gPackages] hZ) (q1 aE (FA H fun x2 x3 x4 z1 H=>(q1 (bG func204 (RY fu pv.gw pname _ z1)) (q1 aE ?_)))))))
 iterate 3 refine q1 AK ?_
 refine q1 (fO jF) (q1 (bR iH) ?_)
 iterate 2 refine q1 aE ?_
 refine qN (qW (q1 (a5 LY) (q1 (cJ [aN pv.gw.gPackages] hZ) (q1 (a5 C5) (q1 (bD eJ) (FA H fun x6 x7 x8 z5 H=>(q1 (bG func84 (acW fu pv.gw x2.gName _ z5)) (q1 aE ?_))))))))
 iterate 3 refine q1 AK ?_
 refine q1 (fO jF) (q1 (bR iH) ?_)
 iterate 2 refine q1 aE ?_
 refine qN (qS ?_)
 rcases mA (x4) with g9|g9
 ·have H:=sE H g9
  rcases mA (x8) with g10|g10
  ·have H:=sE H g10
   refine bI H fun x12 z11 H=>(dW (dD [7] (cJ [pS x2.gName,rS x2.gVars,bY x2.gConstructors] fI) (dI [8] aE (dI [9] aE (dI [32] aE (dI (hg:=a6 g9) [12] aE (dI [33,34] (bV g9) (dI [35] aE (dD (hg:=a6 g10) [2] (cJ [aN pv.gw.gPackages,rI pv.gvisible] qE) (dI (hg:=a6 g10) [11] aE (dI (hg:=a6 g10) [37,38] (bG func183 (GV fu pv x7 _ z11)) (dI [36,39] (bV g10) (lH [4,30] (bR iH) ?_)))))))))))))
   refine dI [31] aE (dI [40] aE (dN (aR.ret ?_)))
   cases aX H
   exact NT (hr:=⟨⟨_,_,_,rfl,rfl,fI,rfl,rfl⟩,rfl,rfl,trivial⟩)
  have H:=sD H g10
  refine dW (dD [7] (cJ [pS x2.gName,rS x2.gVars,bY x2.gConstructors] fI) (dI [8] aE (dI [9] aE (dI [32] aE (dI (hg:=a6 g9) [12] aE (dI [33,34] (bV g9) (dI [35] aE ?_)))))))
  iterate 3 refine FE g10 ?_
  refine dI [36] (b9 g10) (lH [4,30] (bR iH) (dI [31] aE (dI [40] aE (dN (aR.ret ?_)))))
  cases aX H
  exact NT (hr:=⟨⟨_,_,_,rfl,rfl,fI,rfl,rfl⟩,rfl,rfl,trivial⟩)
 have H:=sD H g9
 refine dW (dD [7] (cJ [pS x2.gName,rS x2.gVars,bY x2.gConstructors] fI) (dI [8] aE (dI [9] aE (dI [32] aE (FE g9 (dI [33] (b9 g9) (dI [35] aE ?_)))))))
 iterate 3 refine FE rfl ?_
 refine dI [36] (b9 rfl) (lH [4,30] (bR iH) (dI [31] aE (dI [40] aE (dN (aR.ret ?_)))))
 cases aX H
 exact NT (hr:=⟨⟨_,_,_,rfl,rfl,fI,rfl,rfl⟩,rfl,rfl,trivial⟩)
def agJ(m:bA→ByteArray→Option Bool):Prop:= ∀(parm:bA) (c1:ByteArray) (r:Bool),m parm c1=some r→c6 Tryz.prog 214 [(bA.pv parm),.ptr 0 0] ⟨[some ⟨9,[pS c1]⟩],[]⟩ (fun q t=>q=(pB r:PV)∧t=⟨[some ⟨9,[pS c1]⟩],[]⟩)
def J5(fu:Nat)(parm:bA)(c1:ByteArray):Option Bool:=
 some (decide (parm.gConstructor=c1))
theorem acS(fu:Nat):agJ (J5 fu):=by
 intro parm c1 r H
 have H:=eE H
 refine qI func214 (fun C hC=>?_)
 refine qW (q1 (iM (as0 parm)) (q1 aE (qN (qW (q1 (a5 tW) ?_)))))
 iterate 2 refine q1 (bD eJ) ?_
 refine q1 AM (q1 aE (qZ ?_))
 cases aX H
 exact bE
def yZ(m:(List bA)→ByteArray→Option Int):Prop:= ∀(ps:List bA) (c1_0:ByteArray) (r:Int),m ps c1_0=some r→c6 Tryz.prog 213 [g0 ps,.fn 214 [.ptr 0 0]] ⟨[some ⟨9,[pS c1_0]⟩],[]⟩ (fun q t=>q=(pI r:PV)∧t=⟨[some ⟨9,[pS c1_0]⟩],[]⟩)
def pM(fu:Nat)(ps:List bA)(c1_0:ByteArray):Nat→Unit→Option (LR Unit Int):=
 fun i1 _=>lt (aW ps i1) (fun y4=>
 bd (J5 fu y4 c1_0) (fun x7=>
 sw (x7)
 (some (.ret (i1:Int)))
 (some (.next ()))))
def pO(fu:Nat)(ps:List bA)(c1_0:ByteArray):Option (Int⊕Unit):=
 loopN (pM fu ps c1_0) (ps.length-0) 0 ()
def lY(fu:Nat)(ps:List bA)(c1_0:ByteArray):Option Int:=
 so (pO fu ps c1_0) (fun _=>
 some (-1))
theorem xR(fu:Nat):yZ (lY fu):=by
 intro ps c1_0 r H
 have H:=eE H
 refine qI func213 (fun C hC=>?_)
 refine qW (q1 aE (qN ?_))
 refine qS (qS (qR (q1 aE (q1 (dL jL (bA.trs_len _)) (q1 aE (qN ?_))))))
 refine lD 0 (bA.trs_len _) (fun hl2=>?_)
 refine b0 (σ:=Unit) (fun i1 _=>⟨[(0,g0 ps),(1,.fn 214 [.ptr 0 0]),(4,pI 0),(7,pN ps.length),(8,pN i1)],⟨[some ⟨9,[pS c1_0]⟩],[]⟩⟩) (fun _=>⟨[(4,pI 0)],⟨[some ⟨9,[pS c1_0]⟩],[]⟩⟩) (fK H) ?_ ?_
 ·rintro i1 ⟨⟩ H
  refine qW (q1 gI (qN (qS ?_)))
  refine dG H (fun h3 h3l H=>?_) (fun h3 H=>?_)
  ·have h3n:=a4 h3
   refine aR.skip (qS (aR.block (qS (qR ?_))))
   iterate 2 refine q1 aE ?_
   refine qN (qS (qR ?_))
   iterate 3 refine q1 aE ?_
   refine fP H fun y4 h5 H=>(q1 (m9 h5 h3n jL) (q1 (kM (bA.cs y4) alL) (bI H fun x7 z6 H=>(q1 (a3.callVPE (pre:=⟨[some ⟨9,[pS c1_0]⟩],[]⟩) (st':=⟨[some ⟨9,[pS c1_0]⟩],[]⟩) (ps:= [_]) (cs:= [.ptr 0 0]) (qs:= [(bA.pv y4),.ptr 0 0]) [0] [] rfl rfl rfl func214 (by kernel_rfl) rfl rfl rfl (gA.of ⟨⟨_,rfl,rfl,iX,rfl⟩,trivial⟩ trivial (by decide) (by decide)) iX rfl rfl rfl (acS fu y4 c1_0 _ z6)) (qN ?_)))))
   refine a8 H (fun h8 H=>?_) (fun h8 H=>?_)
   ·refine qS (qR ?_)
    iterate 2 refine q1 aE ?_
    refine qN (aR.ret ?_)
    obtain rfl:_=r:=(mT (aX H):)
    exact bE
   refine aR.skip (qR (q1 (rA (i1+1)) (q1 aE (qN ?_))))
   exact iI h3l ⟨_,(aX H:),bW⟩
  refine aR.exit ?_;exact jJ ⟨_,H,bW⟩
 rintro⟨⟩ H
 refine qW (q1 aE (qZ ?_))
 cases aX H
 exact bE
def anJ(m:(List bA)→ByteArray→Option Int):Prop:= ∀(parms:List bA) (pname:ByteArray) (r:Int),m parms pname=some r→b4 Tryz.prog 205 [g0 parms,pS pname] (pI r:PV)
def MI(fu:Nat)(parms:List bA)(pname:ByteArray):Option Int:=
 bd (lY fu parms pname) (fun x2=>
 some x2)
theorem ak1(fu:Nat):anJ (MI fu):=by
 intro parms pname r H
 have H:=eE H
 refine qI func205 (fun C hC=>?_)
 refine qW (q1 (iM ([pS pname])) (q1 aE (qN (qW (q1 aE (q1 rMf (bI H fun x2 z1 H=>(q1 (iF [0] [] func213 (xR fu parms pname _ z1)) (q1 aE (qZ ?_))))))))))
 cases aX H
 exact bE
def agK(m:aH→(List bA)→Option Bool):Prop:= ∀(pd:aH) (parms:List bA) (r:Bool),m pd parms=some r→b4 Tryz.prog 189 [(aH.pv pd),g0 parms] (pB r:PV)
def AH(fu:Nat)(pd:aH)(parms:List bA):Nat→((LB))→Option (LR ((LB)) Bool):=
 fun i1 v3=>gd ((v3).length+(([((aW pd.gConstructors i1).gName)]:LB)).length≤68719476736)
 (bd (MI fu parms ((aW pd.gConstructors i1).gName)) (fun x8=>
 sw (decide (x8<0))
 (some (.ret false))
 (gd (0≤x8∧(x8).toNat<(parms).length)
 (lt (aW parms ((x8).toNat)) (fun y11=>
 sw (!decide ((y11.gVars.length:Int)=((((aW pd.gConstructors i1).gFields).length:Nat):Int)))
 (some (.ret false))
 (some (.next (v3++([((aW pd.gConstructors i1).gName)]:LB)))))))))
def QZ(fu:Nat)(pd:aH)(parms:List bA):Option (Bool⊕((LB))):=
 loopN (AH fu pd parms) (pd.gConstructors.length-0) 0 ([])
def DE(fu:Nat)(pd:aH)(parms:List bA):Option Bool:=
 so (QZ fu pd parms) (fun v3=>
 sw (decide (List.Nodup v3))
 (some (decide ((parms.length:Int)=(v3.length:Int))))
 (some false))
theorem acX(fu:Nat):agK (DE fu):=by
 intro pd parms r H
 have H:=eE H
 refine qI func189 (fun C hC=>?_)
 refine qW (q1 (iM (gK pd)) (q1 aE (qN (qW (q1 (uK ([]:LB) b3 lU) (q1 aE (qN ?_)))))))
 refine qS (qS (qR (q1 (a5 gG) (q1 (bD nN) (q1 (dL lW (aD.trs_len _)) (q1 aE (qN ?_)))))))
 refine lD 11 (aD.trs_len _) (fun hl4=>?_)
 refine b0 (σ:=(LB)) (fun i1 v3=>⟨[(1,g0 parms),(4,pB false),(5,aS v3 0),(11,bY pd.gConstructors),(12,pN pd.gConstructors.length),(13,pN i1)],⟨[some ⟨116,gK pd⟩],[⟨9,1,aZ (v3),false⟩]⟩⟩) (fun v3=>⟨[(1,g0 parms),(4,pB false),(5,aS v3 0)],⟨[some ⟨116,gK pd⟩],[⟨9,1,aZ (v3),false⟩]⟩⟩) (fK H) ?_ ?_
 ·rintro i1 v3 H
  refine qW (q1 gI (qN (qS ?_)))
  refine dG H (fun h5 h5l H=>?_) (fun h5 H=>?_)
  ·have h5n:=a4 h5
   refine aR.skip (qS (aR.block (qW (q1 (kP h5n lW) (q1 (kM (aD.cs (aW pd.gConstructors i1)) ap9) (q1 (fO V9) (q1 (bR aqH) (qN (qW (q1 aE (q1 (a5 sK) ?_)))))))))))
   refine q1 (bD eJ) (q1 (j9 ([((aW pd.gConstructors i1).gName)]:LB) b3 lU) (dK H fun z6 H=>(q1 (nV z6 b3 tR) (q1 aE (qN (qW (q1 aE (q1 (a5 sK) (q1 (bD eJ) (bI H fun x8 z7 H=>(q1 (bG func205 (ak1 fu parms ((aW pd.gConstructors i1).gName) _ z7)) (q1 aE ?_))))))))))))
   refine qN (qS ?_)
   rcases mA (decide (x8<0)) with g9|g9
   ·have H:=sE H g9
    refine dW (dI [8] aE (dI [26] gI (dI [27] aE ?_)))
    iterate 10 refine FE g9 ?_
    refine dI [28] (bV g9) (dN (eL rfl (qW (q1 aE (qZ ?_)))))
    obtain rfl:_=r:=(mT (aX H):)
    exact bE
   have H:=sD H g9
   refine dK H fun z10 H=>(fP H fun y11 h12 H=>(dW (dI [8] aE (dI [26] gI (dI [27] aE (dI (hg:=a6 g9) [1] aE (dI (hg:=a6 g9) [8] aE (dI (hg:=a6 g9) [29,30] (rIm h12 z10 jL) (dI (hg:=a6 g9) [31] (lR yY) (dI (hg:=a6 g9) [32] (kQ kZ) (dI (hg:=a6 g9) [33] (dL b3 (bC _)) (dI (hg:=a6 g9) [7] (a5 xQ) (dD (hg:=a6 g9) [35] (bD kY) ?_)))))))))))))
   refine dI (hg:=a6 g9) [36] (dL eU (aB.trs_len _)) (dI (hg:=a6 g9) [34,37] CI (dI [28,38] (b9 g9) (dN ?_)))
   refine a8 H (fun h13 H=>?_) (fun h13 H=>?_)
   ·refine qW (q1 aE (qZ ?_))
    obtain rfl:_=r:=(mT (aX H):)
    exact bE
   refine aR.skip (qR (q1 (rA (i1+1)) (q1 aE (qN ?_))))
   exact iI h5l ⟨_,(aX H:),bW⟩
  refine aR.exit ?_;exact jJ ⟨_,H,bW⟩
 rintro v3 H
 refine qW (q1 aE (q1 (bG func206 (TP v3)) (q1 aE ?_)))
 refine eF 43 H (fun g14 H=>?_) fun g14 H=>?_
 ·refine qg g14 aE (qg g14 (dL jL (bA.trs_len _)) (qg g14 aE (qg g14 (dL b3 (bC _)) (qg g14 dM (q1 (bV g14) (q1 aE (qZ ?_)))))))
  cases aX H
  exact bE
 iterate 5 refine qk g14 ?_
 refine q1 (b9 g14) (q1 aE (qZ ?_))
 cases aX H
 exact bE
def WP(m:bS→aG→Option Int):Prop:= ∀(pa0:bS) (pa1:aG) (r:Int),m pa0 pa1=some r→b4 Tryz.prog 160 [(bS.pv pa0),(aG.pv pa1)] (pI r:PV)
def vK(fu:Nat)(pa0:bS)(pa1:aG):Option Int:=
 sw (decide (pa1.gKind=4))
 (bd (xV fu pa0 pa1.gName) (fun(x3,x4)=>
 sw (!(x4))
 (some 9)
 (sw (!decide ((x3.gParams.length:Int)=(pa1.gArgs.length:Int)))
 (some 9)
 (some 0))))
 (sw (decide (pa1.gKind=5))
 (bd (uV fu pa0 pa1.gTrait) (fun(x9,x10)=>
 sw (!(x10))
 (some 3)
 (bd (xT fu x9 pa1.gName) (fun(x13,x14,x15)=>
 sw (!(x15))
 (some 6)
 (sw (!decide ((pa1.gArgs.length:Int)=aQ ((x13.gParams.length:Int)+1)))
 (some 6)
 (some 0))))))
 (sw (decide (pa1.gKind=6))
 (bd (oU fu pa0 pa1.gName) (fun(x20,x21,x22)=>
 sw (!(x22))
 (some 1)
 (gd (0≤x21∧(x21).toNat<(x20.gConstructors).length)
 (sw (!decide ((pa1.gArgs.length:Int)=((((aW x20.gConstructors ((x21).toNat)).gFields).length:Nat):Int)))
 (some 2)
 (some 0)))))
 (sw (decide (pa1.gKind=7))
 (sw (decide ((pa1.gArms.length:Int)=0))
 (some 1)
 (gd (0<(pa1.gArms).length)
 (lt (aW pa1.gArms 0) (fun y29=>
 bd (oU fu pa0 y29.gConstructor) (fun(x32,x33,x34)=>
 sw (!(x34))
 (some 1)
 (bd (DE fu x32 pa1.gArms) (fun x37=>
 sw (!(x37))
 (some 2)
 (some 0))))))))
 (sw (decide (pa1.gKind=11))
 (bd (t4 fu pa0 pa1.gTrait) (fun x41=>
 some x41))
 (sw (decide (pa1.gKind=12))
 (bd (eW fu pa0 pa1.gType) (fun x44=>
 some x44))
 (some 0))))))
theorem UD(fu:Nat):WP (vK fu):=by
 intro pa0 pa1 r H
 have H:=eE H
 refine qI func160 (fun C hC=>?_)
 refine qW (q1 (iM ([aN pa0.gw.gPackages,rI pa0.gvisible])) (q1 (iM (eN pa1)) (q1 aE (qN ?_))))
 refine qS (qS (qR (q1 (a5 pW) (q1 (bD nT) (qN (aR.block (qW (q1 dM (q1 aE (qN ?_))))))))))
 refine a8 H (fun h1 H=>?_) (fun h1 H=>?_)
 ·refine qW (q1 (cJ [aN pa0.gw.gPackages,rI pa0.gvisible] qE) (q1 (a5 lX) (q1 (bD eJ) (fZ H fun x3 x4 z2 H=>(q1 (bG func186 (WR fu pa0 pa1.gName _ z2)) (q1 aE ?_))))))
  iterate 2 refine q1 AK ?_
  refine q1 (fO sH) (q1 (bR qK) (q1 aE (qN (qW (q1 aE (q1 hQ (q1 aE ?_)))))))
  refine eF 31 H (fun g5 H=>?_) fun g5 H=>?_
  ·refine qk g5 ?_
   iterate 6 refine qk g5 ?_
   refine q1 (bV g5) (qN (eL rfl (qW (q1 aE (qZ ?_)))))
   cases aX H
   exact bE
  refine qg g5 (a5 sJ) (qg g5 (bD I9) (qg g5 (dL BW (aT.trs_len _)) (qg g5 (a5 fM) (qg g5 (bD oZ) (qg g5 (dL jZ (aG.trs_len _)) (qg g5 CI (q1 (b9 g5) (qN ?_))))))))
  refine a8 H (fun h6 H=>?_) (fun h6 H=>?_)
  ·refine qW (q1 aE (qZ ?_))
   cases aX H
   exact bE
  refine aR.skip (qW (q1 aE (qZ ?_)))
  cases aX H
  exact bE
 refine qW (q1 dM (q1 aE (qN ?_)))
 refine a8 H (fun h7 H=>?_) (fun h7 H=>?_)
 ·refine qW (q1 (cJ [aN pa0.gw.gPackages,rI pa0.gvisible] qE) (q1 (a5 A5) (q1 (bD eJ) (fZ H fun x9 x10 z8 H=>(q1 (bG func155 (DI fu pa0 pa1.gTrait _ z8)) (q1 aE ?_))))))
  iterate 2 refine q1 AK ?_
  refine q1 (fO r3) (q1 (bR pL) (q1 aE (qN ?_)))
  refine qS (qS (qR (q1 aE (q1 hQ (qN ?_)))))
  refine a8 H (fun h11 H=>?_) (fun h11 H=>?_)
  ·refine qW (q1 aE (qZ ?_))
   cases aX H
   exact bE
  refine aR.skip (qW (q1 (cJ [pS x9.gName,rS x9.gSupertraits,pB x9.gAuto,pB x9.gAssoc,c4 x9.gSignatures] l9) (q1 (a5 lX) (q1 (bD eJ) (FA H fun x13 x14 x15 z12 H=>(q1 (bG func187 (WO fu x9 pa1.gName _ z12)) (q1 aE ?_)))))))
  iterate 3 refine q1 AK ?_
  refine q1 (fO sI) (q1 (bR NM) ?_)
  iterate 2 refine q1 aE ?_
  refine qN (qW (q1 aE (q1 hQ (q1 aE ?_))))
  refine eF 61 H (fun g16 H=>?_) fun g16 H=>?_
  ·refine qk g16 ?_
   iterate 7 refine qk g16 ?_
   refine q1 (bV g16) (qN (eL rfl (qW (q1 aE (qZ ?_)))))
   cases aX H
   exact bE
  refine qg g16 (a5 fM) (qg g16 (bD oZ) (qg g16 (dL jZ (aG.trs_len _)) (qg g16 (a5 xP) (qg g16 (bD kY) (qg g16 (dL eU (aB.trs_len _)) (qg g16 MZ (qg g16 CI (q1 (b9 g16) (qN ?_)))))))))
  refine a8 H (fun h17 H=>?_) (fun h17 H=>?_)
  ·refine qW (q1 aE (qZ ?_))
   cases aX H
   exact bE
  refine aR.skip (qW (q1 aE (qZ ?_)))
  cases aX H
  exact bE
 refine qW (q1 dM (q1 aE (qN ?_)))
 refine a8 H (fun h18 H=>?_) (fun h18 H=>?_)
 ·refine qW (q1 (cJ [aN pa0.gw.gPackages,rI pa0.gvisible] qE) (q1 (a5 lX) (q1 (bD eJ) (FA H fun x20 x21 x22 z19 H=>(q1 (bG func188 (CD fu pa0 pa1.gName _ z19)) (q1 aE ?_))))))
  iterate 3 refine q1 AK ?_
  refine q1 (fO jF) (q1 (bR iH) ?_)
  iterate 2 refine q1 aE ?_
  refine qN ?_
  refine qS (qS (qR (q1 aE (q1 hQ (qN ?_)))))
  refine a8 H (fun h23 H=>?_) (fun h23 H=>?_)
  ·refine qW (q1 aE (qZ ?_))
   cases aX H
   exact bE
  refine aR.skip (qS (dK H fun z24 H=>(dW (dI [3] (a5 fM) (dD [83] (bD oZ) (dI [84] (dL jZ (aG.trs_len _)) (dI [12] (a5 gG) (dD [86] (bD nN) (dI [13] aE (dI [87,88] (rIy z24 lW) (dI [89] (lR xQ) (dI [90] (kQ kY) (dI [91] (dL eU (aB.trs_len _)) ?_)))))))))))))
  refine dI [85,92] CI (dN ?_)
  refine a8 H (fun h25 H=>?_) (fun h25 H=>?_)
  ·refine qW (q1 aE (qZ ?_))
   cases aX H
   exact bE
  refine aR.skip (qW (q1 aE (qZ ?_)))
  cases aX H
  exact bE
 refine qW (q1 dM (q1 aE (qN ?_)))
 refine a8 H (fun h26 H=>?_) (fun h26 H=>?_)
 ·refine qS (qW (q1 (a5 eI) (q1 (bD mN) (q1 (dL jL (bA.trs_len _)) (q1 dM (qN ?_))))))
  refine a8 H (fun h27 H=>?_) (fun h27 H=>?_)
  ·refine qW (q1 aE (qZ ?_))
   cases aX H
   exact bE
  refine aR.skip (qS (dK H fun z28 H=>(fP H fun y29 h30 H=>(FA H fun x32 x33 x34 z31 H=>(dW (dB [2] 0 1 (NU [aN pa0.gw.gPackages,rI pa0.gvisible] qE) (dI [3] (a5 eI) (dB [102] 0 1 (wL mN) (dI [103] (m9 h30 z28 jL) (dI [104] (lR tW) (dI [105] (kQ eJ) (dI [101,106] (bG func188 (CD fu pa0 y29.gConstructor _ z31)) (dI [107] aE ?_)))))))))))))
  iterate 3 refine dI [100] AK ?_
  refine dE [] (fO jF) (lH [15,108] (bR iH) (dI [109] aE (dI [110] aE (dN ?_))))
  refine qS (qS (qR (q1 aE (q1 hQ (qN ?_)))))
  refine a8 H (fun h35 H=>?_) (fun h35 H=>?_)
  ·refine qW (q1 aE (qZ ?_))
   cases aX H
   exact bE
  refine aR.skip (qW (q1 (cJ [pS x32.gName,rS x32.gVars,bY x32.gConstructors] fI) (q1 (a5 eI) (q1 (bD mN) (bI H fun x37 z36 H=>(q1 (bG func189 (acX fu x32 pa1.gArms _ z36)) (q1 hQ (qN ?_))))))))
  refine a8 H (fun h38 H=>?_) (fun h38 H=>?_)
  ·refine qW (q1 aE (qZ ?_))
   cases aX H
   exact bE
  refine aR.skip (qW (q1 aE (qZ ?_)))
  cases aX H
  exact bE
 refine qW (q1 dM (q1 aE (qN ?_)))
 refine a8 H (fun h39 H=>?_) (fun h39 H=>?_)
 ·refine qW (q1 (cJ [aN pa0.gw.gPackages,rI pa0.gvisible] qE) (q1 (a5 A5) (q1 (bD eJ) (bI H fun x41 z40 H=>(q1 (bG func181 (IY fu pa0 pa1.gTrait _ z40)) (q1 aE (qZ ?_)))))))
  cases aX H
  exact bE
 refine qW (q1 dM (q1 aE (qN ?_)))
 refine a8 H (fun h42 H=>?_) (fun h42 H=>?_)
 ·refine qW (q1 (cJ [aN pa0.gw.gPackages,rI pa0.gvisible] qE) (q1 (a5 pX) (q1 (cJ [pI pa1.gType.gKind,pS pa1.gType.gName,a7 pa1.gType.gArgs] cU) (bI H fun x44 z43 H=>(q1 (bG func106 (zE fu pa0 pa1.gType _ z43)) (q1 aE (qZ ?_)))))))
  cases aX H
  exact bE
 refine aR.skip (qW (q1 aE (qZ ?_)))
 cases aX H
 exact bE
abbrev mU:=bS→aG→Option Int
def vJ(m:mU):Prop:= ∀(pv:bS) (pe:aG) (r:Int),m pv pe=some r→b4 Tryz.prog 114 [(bS.pv pv),(aG.pv pe)] (pI r:PV)
def zC(fu:Nat)(r_ivcheckExpr:mU)(pv:bS)(pe:aG)(x2:Int):Nat→Unit→Option (LR Unit Int):=
 fun i4 _=>lt (aW pe.gArgs i4) (fun y7=>
 bd (r_ivcheckExpr pv y7) (fun x10=>
 sw (!decide (x10=0))
 (some (.ret x10))
 (some (.next ()))))
def FK(fu:Nat)(r_ivcheckExpr:mU)(pv:bS)(pe:aG)(x2:Int):Option (Int⊕Unit):=
 loopN (zC fu r_ivcheckExpr pv pe x2) (pe.gArgs.length-0) 0 ()
def zD(fu:Nat)(r_ivcheckExpr:mU)(pv:bS)(pe:aG)(x2:Int):Nat→Unit→Option (LR Unit Int):=
 fun i12 _=>lt (aW pe.gArms i12) (fun y15=>
 bd (r_ivcheckExpr pv y15.gBody) (fun x18=>
 sw (!decide (x18=0))
 (some (.ret x18))
 (some (.next ()))))
def FL(fu:Nat)(r_ivcheckExpr:mU)(pv:bS)(pe:aG)(x2:Int):Option (Int⊕Unit):=
 loopN (zD fu r_ivcheckExpr pv pe x2) (pe.gArms.length-0) 0 ()
def BB(fu:Nat)(r_ivcheckExpr:mU)(pv:bS)(pe:aG):Option Int:=
 bd (vK fu pv pe) (fun x2=>
 sw (!decide (x2=0))
 (some x2)
 (so (FK fu r_ivcheckExpr pv pe x2) (fun _=>
 so (FL fu r_ivcheckExpr pv pe x2) (fun _=>
 some 0))))
theorem OS(fu:Nat)(r_ivcheckExpr:mU)(h_ivcheckExpr:vJ r_ivcheckExpr):vJ (BB fu r_ivcheckExpr):=by
 intro pv pe r H
 have H:=eE H
 refine qI func114 (fun C hC=>?_)
 refine qW (q1 (iM ([aN pv.gw.gPackages,rI pv.gvisible])) (q1 (iM (eN pe)) (q1 aE (qN ?_))))
 refine qS (qS (qR (q1 (cJ [aN pv.gw.gPackages,rI pv.gvisible] qE) (q1 (cJ [pI pe.gKind,pS pe.gTrait,pS pe.gName,pI pe.gN,pI pe.gType.gKind,pS pe.gType.gName,a7 pe.gType.gArgs,eB pe.gArgs,g0 pe.gArms] fE) (bI H fun x2 z1 H=>(q1 (bG func160 (UD fu pv pe _ z1)) (q1 aE (qN (qW (q1 aE (q1 CI (qN ?_))))))))))))
 refine a8 H (fun h3 H=>?_) (fun h3 H=>?_)
 ·refine qS (qR ?_)
  iterate 2 refine q1 aE ?_
  refine qN (aR.ret ?_)
  cases aX H
  exact bE
 refine aR.skip ?_
 refine qS (qS (qR (q1 (a5 fM) (q1 (bD oZ) (q1 (dL jZ (aG.trs_len _)) (q1 aE (qN ?_)))))))
 refine lD 19 (aG.trs_len _) (fun hl5=>?_)
 refine b0 (σ:=Unit) (fun i4 _=>⟨[(2,.ptr 0 0),(3,.ptr 1 0),(4,pI 0),(19,eB pe.gArgs),(20,pN pe.gArgs.length),(21,pN i4)],⟨[some ⟨136,[aN pv.gw.gPackages,rI pv.gvisible]⟩,some ⟨87,eN pe⟩],[]⟩⟩) (fun _=>⟨[(2,.ptr 0 0),(3,.ptr 1 0),(4,pI 0)],⟨[some ⟨136,[aN pv.gw.gPackages,rI pv.gvisible]⟩,some ⟨87,eN pe⟩],[]⟩⟩) (fK H) ?_ ?_
 ·rintro i4 ⟨⟩ H
  refine qW (q1 gI (qN (qS ?_)))
  refine dG H (fun h6 h6l H=>?_) (fun h6 H=>?_)
  ·have h6n:=a4 h6
   refine aR.skip (qS (aR.block (qW (fP H fun y7 h8 H=>(q1 (m9 h8 h6n jZ) (q1 (kM (aG.cs y7) fE) (q1 (fO kL) (q1 (bR nA) (qN (qW (q1 (cJ [aN pv.gw.gPackages,rI pv.gvisible] qE) ?_)))))))))))
   refine q1 (cJ [pI y7.gKind,pS y7.gTrait,pS y7.gName,pI y7.gN,pI y7.gType.gKind,pS y7.gType.gName,a7 y7.gType.gArgs,eB y7.gArgs,g0 y7.gArms] fE) (bI H fun x10 z9 H=>(q1 (bG func114 (h_ivcheckExpr pv y7 _ z9)) (q1 aE (qN (qW (q1 aE (q1 CI (qN ?_))))))))
   refine a8 H (fun h11 H=>?_) (fun h11 H=>?_)
   ·refine qS (qR ?_)
    iterate 2 refine q1 aE ?_
    refine qN (aR.ret ?_)
    obtain rfl:_=r:=(mT (aX H):)
    exact bE
   refine aR.skip (qR (q1 (rA (i4+1)) (q1 aE (qN ?_))))
   exact iI h6l ⟨_,(aX H:),bW⟩
  refine aR.exit ?_;exact jJ ⟨_,H,bW⟩
 rintro⟨⟩ H
 refine qS (qS (qR (q1 (a5 eI) (q1 (bD mN) (q1 (dL jL (bA.trs_len _)) (q1 aE (qN ?_)))))))
 refine lD 33 (bA.trs_len _) (fun hl13=>?_)
 refine b0 (σ:=Unit) (fun i12 _=>⟨[(2,.ptr 0 0),(4,pI 0),(33,g0 pe.gArms),(34,pN pe.gArms.length),(35,pN i12)],⟨[some ⟨136,[aN pv.gw.gPackages,rI pv.gvisible]⟩,some ⟨87,eN pe⟩],[]⟩⟩) (fun _=>⟨[(4,pI 0)],⟨[some ⟨136,[aN pv.gw.gPackages,rI pv.gvisible]⟩,some ⟨87,eN pe⟩],[]⟩⟩) (fK H) ?_ ?_
 ·rintro i12 ⟨⟩ H
  refine qW (q1 gI (qN (qS ?_)))
  refine dG H (fun h14 h14l H=>?_) (fun h14 H=>?_)
  ·have h14n:=a4 h14
   refine aR.skip (qS (aR.block (qW (fP H fun y15 h16 H=>(q1 (m9 h16 h14n jL) (q1 (kM (bA.cs y15) alL) (q1 (fO QQ) (q1 (bR aoO) (qN (qW (q1 (cJ [aN pv.gw.gPackages,rI pv.gvisible] qE) ?_)))))))))))
   refine q1 (a5 A6) (q1 (cJ [pI y15.gBody.gKind,pS y15.gBody.gTrait,pS y15.gBody.gName,pI y15.gBody.gN,pI y15.gBody.gType.gKind,pS y15.gBody.gType.gName,a7 y15.gBody.gType.gArgs,eB y15.gBody.gArgs,g0 y15.gBody.gArms] fE) (bI H fun x18 z17 H=>(q1 (bG func114 (h_ivcheckExpr pv y15.gBody _ z17)) (q1 aE (qN (qW (q1 aE (q1 CI (qN ?_)))))))))
   refine a8 H (fun h19 H=>?_) (fun h19 H=>?_)
   ·refine qS (qR ?_)
    iterate 2 refine q1 aE ?_
    refine qN (aR.ret ?_)
    obtain rfl:_=r:=(mT (aX H):)
    exact bE
   refine aR.skip (qR (q1 (rA (i12+1)) (q1 aE (qN ?_))))
   exact iI h14l ⟨_,(aX H:),bW⟩
  refine aR.exit ?_;exact jJ ⟨_,H,bW⟩
 rintro⟨⟩ H
 refine qW (q1 aE (qZ ?_))
 cases aX H
 exact bE
def iL:Nat→bS→aG→Option Int
 |0,_,_=>none
 |fu+1,pv,pe=>BB fu (iL fu) pv pe
theorem R1(fu:Nat):vJ (iL fu):=by
 induction fu with
 |zero=>exact(fun pv pe r H=>by simp only [iL] at H;cases H)
 |succ fu ih=>exact(fun pv pe r H=>by simp only [iL] at H;exact OS fu (iL fu) ih pv pe r H)
theorem UC(fu:Nat):vJ (iL fu):=(R1 fu)
def ZE(m:aF→Int→aG→Option Int):Prop:= ∀(pw:aF) (pi:Int) (pe:aG) (r:Int),m pw pi pe=some r→b4 Tryz.prog 52 [(aF.pv pw),pI pi,(aG.pv pe)] (pI r:PV)
def qX(fu:Nat)(pw:aF)(pi:Int)(pe:aG):Option Int:=
 bd (uU fu pw pi) (fun x2=>
 bd (iL fu x2 pe) (fun x4=>
 some x4))
theorem A9(fu:Nat):ZE (qX fu):=by
 intro pw pi pe r H
 have H:=eE H
 refine qI func52 (fun C hC=>?_)
 refine qW (q1 (iM ([aN pw.gPackages])) (q1 (iM (eN pe)) (q1 aE (qN (qS (bI H fun x2 z1 H=>(bI H fun x4 z3 H=>(dW (dD [3] (cJ [aN pw.gPackages] hZ) (dI [1] aE (dI [7,8] (bG func105 (J7 fu pw pi _ z1)) (dD [5] (cJ [pI pe.gKind,pS pe.gTrait,pS pe.gName,pI pe.gN,pI pe.gType.gKind,pS pe.gType.gName,a7 pe.gType.gArgs,eB pe.gArgs,g0 pe.gArms] fE) ?_))))))))))))
 refine dI [9,10] (bG func114 (UC fu x2 pe _ z3)) (dI [11] aE (dN (aR.ret ?_)))
 cases aX H
 exact bE
end
end Go.Proofs.YtpioomclpaiomaaGreat.W

namespace Go.Proofs.YtpioomclpaiomaaGreat.W
set_option maxRecDepth 100000
set_option maxHeartbeats 40000000
noncomputable section
open Tryz Go.RowKit Go.Proofs
attribute [local irreducible] lt
def O9(m:(List UInt8)→Option (aF×Int×aG)):Prop:= ∀(pcode:List UInt8) (r:aF×Int×aG),m pcode=some r→b4 Tryz.prog 51 [rU pcode] (.tup [(aF.pv r.1),pI r.2.1,(aG.pv r.2.2)]:PV)
def rB(fu:Nat)(pcode:List UInt8):Option (aF×Int×aG):=
 gd ((pcode).length≤1048576)
 (bd (AX fu (DS.start pcode)) (fun(x3,x4)=>
 bd (k9 fu x4 ([eP]:LB) 3) (fun(x6,x7)=>
 sw (decide ((x3.gPackages.length:Int)>1))
 (gd (1<(x3.gPackages).length)
 (lt (aW x3.gPackages 1) (fun y10=>
 sw (decide ((y10.gFunctions.length:Int)>0))
 (lt (x7.after 2) (fun d13=>
 sw (decide (x7.below 2=0))
 (gd (0<(y10.gFunctions).length)
 (lt (aW y10.gFunctions 0) (fun y17=>
 bd (m3 fu y17.gBody) (fun x20=>
 lt (d13.after 3) (fun d21=>
 some (x3,(d13.below 3:Int),x20))))))
 (lt (d13.after 3) (fun d23=>
 some (x3,(d13.below 3:Int),x6)))))
 (lt (x7.after 3) (fun d25=>
 some (x3,(x7.below 3:Int),x6))))))
 (lt (x7.after 3) (fun d27=>
 some (x3,(x7.below 3:Int),x6))))))
theorem M0(fu:Nat):O9 (rB fu):=by
 intro pcode r H
 have H:=eE H
 refine qI func51 (fun C hC=>?_)
 refine qW (q1 (fO NS) (q1 aE (q1 (fO kL) (qN (qW (q1 aE (dK H fun z1 H=>(q1 (a3.callNew (ps:= [_]) rfl rfl func54 (by kernel_rfl) rfl rfl iX rfl rfl (anP pcode z1)) (q1 aE (qN (qS ?_)))))))))))
 refine qR (q1 aE (fZ H fun x3 x4 z2 H=>(q1 (iF [2] [] func55 (NG fu (DS.start pcode) _ z2)) (q1 (fO NS) (q1 (bR GJ) (qN (qW (q1 aE (q1 (j9 ([eP]:LB) b3 lU) (fZ H fun x6 x7 z5 H=>(q1 (iF [2] [] func111 (F1 fu x4 ([eP]:LB) 3 _ z5)) (q1 (fO kL) ?_))))))))))))
 refine q1 (bR nA) (qN ?_)
 refine qS (qS (qR (q1 (a5 fR) (q1 (bD pP) (q1 (dL mG (aJ.trs_len _)) (q1 KL (q1 aE ?_)))))))
 refine AL.weak (s':=⟨[(2,.ptr 0 0),(3,pI 0),(4,.ptr 1 0),(5,.ptr 2 0),(6,.ptr 3 0),(7,.ptr 4 0),(19,pB (decide ((x3.gPackages.length:Int)>1)))],⟨[some ⟨26,[.nil]⟩,some ⟨87,[pI 0,pS s_,pS s_,pI 0,pI 0,pS s_,.nil,.nil,.nil]⟩,some ⟨151,dC x7⟩,some ⟨26,[aN x3.gPackages]⟩,some ⟨87,eN x6⟩],[]⟩⟩) bW ?_;refine eF 19 H (fun g8 H=>?_) fun g8 H=>?_
 ·refine qg g8 (a5 fR) (qg g8 (bD pP) (dK H fun z9 H=>(fP H fun y10 h11 H=>(qg g8 (m9 h11 z9 mG) (qg g8 (lR nX) (qg g8 (kQ CO) (qg g8 (dL xB (aK.trs_len _)) (qg g8 KL (q1 (bV g8) (q1 aE ?_))))))))))
  refine AL.weak (s':=⟨[(2,.ptr 0 0),(3,pI 0),(4,.ptr 1 0),(5,.ptr 2 0),(6,.ptr 3 0),(7,.ptr 4 0),(28,pB (decide ((y10.gFunctions.length:Int)>0)))],⟨[some ⟨26,[.nil]⟩,some ⟨87,[pI 0,pS s_,pS s_,pI 0,pI 0,pS s_,.nil,.nil,.nil]⟩,some ⟨151,dC x7⟩,some ⟨26,[aN x3.gPackages]⟩,some ⟨87,eN x6⟩],[]⟩⟩) bW ?_;refine eF 28 H (fun g12 H=>?_) fun g12 H=>?_
  ·refine qg g12 aE (fP H fun d13 h14 H=>(qg g12 (iF [2] [] func112 (BG h14 (nB x7 2))) (q1 (bV g12) (qN ?_))))
   refine a8 H (fun h15 H=>?_) (fun h15 H=>?_)
   ·refine qR (q1 (a5 fR) (q1 (bD pP) (q1 (m9 h11 z9 mG) (q1 (lR nX) (q1 (kQ CO) (dK H fun z16 H=>(fP H fun y17 h18 H=>(q1 (m9 h18 z16 xB) (q1 (lR SZ) (q1 (kM (aG.cs y17.gBody) fE) (bI H fun x20 z19 H=>(q1 (bG func113 (adG fu y17.gBody _ z19)) (q1 (bR nA) ?_)))))))))))))
    refine qN (qS (fP H fun d21 h22 H=>(dW (dB [6] 0 1 (NU [aN x3.gPackages] hZ) (dI [5] aE (dE [42] (iF [2] [] func103 (BG h22 (eQ d13 3))) (dB [7] 0 2 (NU [pI x20.gKind,pS x20.gTrait,pS x20.gName,pI x20.gN,pI x20.gType.gKind,pS x20.gType.gName,a7 x20.gType.gArgs,eB x20.gArgs,g0 x20.gArms] fE) (lH [2,41] (bR GJ) (dI [43] aE (lH [4,44] (bR nA) (dN (aR.ret ?_))))))))))))
    cases aX H
    dsimp only
    exact NT (hr:=⟨⟨_,_,_,rfl,rfl,hZ,rfl,rfl⟩,rfl,⟨_,_,_,rfl,rfl,fE,rfl,rfl⟩,trivial⟩)
   refine aR.skip (qS (fP H fun d23 h24 H=>(dW (dB [6] 0 1 (NU [aN x3.gPackages] hZ) (dI [5] aE (dE [42] (iF [2] [] func103 (BG h24 (eQ d13 3))) (dB [7] 0 2 (NU [pI x6.gKind,pS x6.gTrait,pS x6.gName,pI x6.gN,pI x6.gType.gKind,pS x6.gType.gName,a7 x6.gType.gArgs,eB x6.gArgs,g0 x6.gArms] fE) (lH [2,41] (bR GJ) (dI [43] aE (lH [4,44] (bR nA) (dN (aR.ret ?_))))))))))))
   cases aX H
   dsimp only
   exact NT (hr:=⟨⟨_,_,_,rfl,rfl,hZ,rfl,rfl⟩,rfl,⟨_,_,_,rfl,rfl,fE,rfl,rfl⟩,trivial⟩)
  iterate 2 refine qk g12 ?_
  refine q1 (b9 g12) (qN (jR rfl (aR.skip (qS (fP H fun d25 h26 H=>(dW (dB [6] 0 1 (NU [aN x3.gPackages] hZ) (dI [5] aE (dE [42] (iF [2] [] func103 (BG h26 (eQ x7 3))) (dB [7] 0 2 (NU [pI x6.gKind,pS x6.gTrait,pS x6.gName,pI x6.gN,pI x6.gType.gKind,pS x6.gType.gName,a7 x6.gType.gArgs,eB x6.gArgs,g0 x6.gArms] fE) (lH [2,41] (bR GJ) (dI [43] aE (lH [4,44] (bR nA) ?_)))))))))))))
  refine dN (aR.ret ?_)
  cases aX H
  dsimp only
  exact NT (hr:=⟨⟨_,_,_,rfl,rfl,hZ,rfl,rfl⟩,rfl,⟨_,_,_,rfl,rfl,fE,rfl,rfl⟩,trivial⟩)
 iterate 7 refine qk g8 ?_
 refine q1 (b9 g8) (q1 aE ?_)
 iterate 2 refine qk rfl ?_
 refine q1 (b9 rfl) (qN (jR rfl (aR.skip (qS (fP H fun d27 h28 H=>(dW (dB [6] 0 1 (NU [aN x3.gPackages] hZ) (dI [5] aE (dE [42] (iF [2] [] func103 (BG h28 (eQ x7 3))) (dB [7] 0 2 (NU [pI x6.gKind,pS x6.gTrait,pS x6.gName,pI x6.gN,pI x6.gType.gKind,pS x6.gType.gName,a7 x6.gType.gArgs,eB x6.gArgs,g0 x6.gArms] fE) (lH [2,41] (bR GJ) (dI [43] aE (lH [4,44] (bR nA) ?_)))))))))))))
 refine dN (aR.ret ?_)
 cases aX H
 dsimp only
 exact NT (hr:=⟨⟨_,_,_,rfl,rfl,hZ,rfl,rfl⟩,rfl,⟨_,_,_,rfl,rfl,fE,rfl,rfl⟩,trivial⟩)
def acZ(m:(List UInt8)→Option Bool):Prop:= ∀(pa0:List UInt8) (r:Bool),m pa0=some r→b4 Tryz.prog 9 [rU pa0] (pB r:PV)
def MQ(fu:Nat)(pa0:List UInt8)(x2:Bool)(x5:aF)(x6:Int)(x7:aG)(x9 x11:Int):Nat→Unit→Option (LR Unit Bool):=
 fun i14 _=>lt (aW x7.gArgs i14) (fun y17=>
 bd (qX fu x5 x6 y17) (fun x20=>
 sw (!decide (x20=0))
 (some (.ret false))
 (some (.next ()))))
def MS(fu:Nat)(pa0:List UInt8)(x2:Bool)(x5:aF)(x6:Int)(x7:aG)(x9 x11:Int):Option (Bool⊕Unit):=
 loopN (MQ fu pa0 x2 x5 x6 x7 x9 x11) (x7.gArgs.length-0) 0 ()
def MR(fu:Nat)(pa0:List UInt8)(x2:Bool)(x5:aF)(x6:Int)(x7:aG)(x9 x11:Int):Nat→Unit→Option (LR Unit Bool):=
 fun i22 _=>lt (aW x7.gArms i22) (fun y25=>
 bd (qX fu x5 x6 y25.gBody) (fun x28=>
 sw (!decide (x28=0))
 (some (.ret false))
 (some (.next ()))))
def MT(fu:Nat)(pa0:List UInt8)(x2:Bool)(x5:aF)(x6:Int)(x7:aG)(x9 x11:Int):Option (Bool⊕Unit):=
 loopN (MR fu pa0 x2 x5 x6 x7 x9 x11) (x7.gArms.length-0) 0 ()
def FR(fu:Nat)(pa0:List UInt8):Option Bool:=
 bd (UH fu pa0) (fun x2=>
 sw (x2)
 (some true)
 (bd (rB fu pa0) (fun(x5,x6,x7)=>
 bd (qX fu x5 x6 x7) (fun x9=>
 bd (lJ fu x5 x6 x7) (fun x11=>
 sw (!decide (x9=x11))
 (some (decide (x9=x11)))
 (sw (!decide (x9=0))
 (some (decide (x9=x11)))
 (so (MS fu pa0 x2 x5 x6 x7 x9 x11) (fun _=>
 so (MT fu pa0 x2 x5 x6 x7 x9 x11) (fun _=>
 some true)))))))))
theorem ZO(fu:Nat):acZ (FR fu):=by
 intro pa0 r H
 have H:=eE H
 refine qI func9 (fun C hC=>?_)
 refine qW (q1 aE (qN ?_))
 refine qS (qS (qR (q1 aE (bI H fun x2 z1 H=>(q1 (bG func10 (ajX fu pa0 _ z1)) (qN ?_))))))
 refine a8 H (fun h3 H=>?_) (fun h3 H=>?_)
 ·refine qW (q1 aE (qZ ?_))
  cases aX H
  exact bE
 refine aR.skip (qW (q1 aE (FA H fun x5 x6 x7 z4 H=>(q1 (bG func51 (M0 fu pa0 _ z4)) (q1 aE ?_)))))
 iterate 3 refine q1 AK ?_
 refine q1 (fO NS) (q1 (fO kL) (q1 (bR GJ) (q1 aE (q1 (bR nA) (qN (qW (q1 (cJ [aN x5.gPackages] hZ) (q1 aE (q1 (cJ [pI x7.gKind,pS x7.gTrait,pS x7.gName,pI x7.gN,pI x7.gType.gKind,pS x7.gType.gName,a7 x7.gType.gArgs,eB x7.gArgs,g0 x7.gArms] fE) (bI H fun x9 z8 H=>(q1 (bG func52 (A9 fu x5 x6 x7 _ z8)) (q1 aE ?_))))))))))))
 refine qN ?_
 refine qS (qS (qR (q1 aE (q1 (cJ [aN x5.gPackages] hZ) (q1 aE (q1 (cJ [pI x7.gKind,pS x7.gTrait,pS x7.gName,pI x7.gN,pI x7.gType.gKind,pS x7.gType.gName,a7 x7.gType.gArgs,eB x7.gArgs,g0 x7.gArms] fE) (bI H fun x11 z10 H=>(q1 (bG func53 (BH fu x5 x6 x7 _ z10)) (q1 CI (q1 aE ?_))))))))))
 refine AL.weak (s':=⟨[(2,pB false),(3,.ptr 0 0),(4,pI x6),(5,.ptr 1 0),(6,pI x9),(27,pB (!decide (x9=x11)))],⟨[some ⟨26,[aN x5.gPackages]⟩,some ⟨87,eN x7⟩],[]⟩⟩) bW ?_;refine eF 27 H (fun g12 H=>?_) fun g12 H=>?_
 ·refine qk g12 (qk g12 (q1 (bV g12) (qN (eL rfl (qW (q1 aE (q1 (cJ [aN x5.gPackages] hZ) (q1 aE (q1 (cJ [pI x7.gKind,pS x7.gTrait,pS x7.gName,pI x7.gN,pI x7.gType.gKind,pS x7.gType.gName,a7 x7.gType.gArgs,eB x7.gArgs,g0 x7.gArms] fE) (q1 (bG func53 (BH fu x5 x6 x7 _ z10)) (q1 dM (q1 aE ?_))))))))))))
  refine qN (aR.ret ?_)
  cases aX H
  exact bE
 refine qg g12 aE (qg g12 CI (q1 (b9 g12) (qN ?_)))
 refine a8 H (fun h13 H=>?_) (fun h13 H=>?_)
 ·refine qW (q1 aE (q1 (cJ [aN x5.gPackages] hZ) (q1 aE (q1 (cJ [pI x7.gKind,pS x7.gTrait,pS x7.gName,pI x7.gN,pI x7.gType.gKind,pS x7.gType.gName,a7 x7.gType.gArgs,eB x7.gArgs,g0 x7.gArms] fE) (q1 (bG func53 (BH fu x5 x6 x7 _ z10)) (q1 dM (q1 aE (qZ ?_))))))))
  cases aX H
  exact bE
 refine aR.skip ?_
 refine qS (qS (qR (q1 aE (qN ?_))))
 refine aR.fact (b5 1 7 rfl rfl rfl (aG.trs_len _)) (fun hl15=>?_)
 try dsimp only at hl15
 refine b0 (σ:=Unit) (fun i14 _=>⟨[(2,pB false),(3,.ptr 0 0),(4,pI x6),(5,.ptr 1 0),(7,pN i14)],⟨[some ⟨26,[aN x5.gPackages]⟩,some ⟨87,eN x7⟩],[]⟩⟩) (fun _=>⟨[(2,pB false),(3,.ptr 0 0),(4,pI x6),(5,.ptr 1 0)],⟨[some ⟨26,[aN x5.gPackages]⟩,some ⟨87,eN x7⟩],[]⟩⟩) (fK H) ?_ ?_
 ·rintro i14 ⟨⟩ H
  refine qS (qS (qR (q1 aE (q1 (a5 fM) (q1 (bD oZ) (q1 (dL jZ (aG.trs_len _)) (q1 gI (qN ?_))))))))
  refine dG H (fun h16 h16l H=>?_) (fun h16 H=>?_)
  ·have h16n:=a4 h16
   refine aR.skip (qS (aR.block (qS (fP H fun y17 h18 H=>(bI H fun x20 z19 H=>(dW (dD [3] (cJ [aN x5.gPackages] hZ) (dI [4] aE (dI [5] (a5 fM) (dD [46] (bD oZ) (dI [7] aE (dI [47,48] (m9 h18 h16n jZ) (dI [49] (kM (aG.cs y17) fE) ?_)))))))))))))
   refine dI [44,45,50] (bG func52 (A9 fu x5 x6 y17 _ z19)) (dI [51] CI (dN ?_))
   refine a8 H (fun h21 H=>?_) (fun h21 H=>?_)
   ·refine qW (q1 aE (qZ ?_))
    obtain rfl:_=r:=(mT (aX H):)
    exact bE
   refine aR.skip (qR (q1 aE (q1 (rA (i14+1)) (q1 aE (qN ?_)))))
   exact iI h16l ⟨_,(aX H:),bW⟩
  refine aR.exit ?_;exact jJ ⟨_,H,bW⟩
 rintro⟨⟩ H
 refine qS (qS (qR (q1 aE (qN ?_))))
 refine aR.fact (b5 1 8 rfl rfl rfl (bA.trs_len _)) (fun hl23=>?_)
 try dsimp only at hl23
 refine b0 (σ:=Unit) (fun i22 _=>⟨[(2,pB false),(3,.ptr 0 0),(4,pI x6),(5,.ptr 1 0),(8,pN i22)],⟨[some ⟨26,[aN x5.gPackages]⟩,some ⟨87,eN x7⟩],[]⟩⟩) (fun _=>⟨[(2,pB false)],⟨[some ⟨26,[aN x5.gPackages]⟩,some ⟨87,eN x7⟩],[]⟩⟩) (fK H) ?_ ?_
 ·rintro i22 ⟨⟩ H
  refine qS (qS (qR (q1 aE (q1 (a5 eI) (q1 (bD mN) (q1 (dL jL (bA.trs_len _)) (q1 gI (qN ?_))))))))
  refine dG H (fun h24 h24l H=>?_) (fun h24 H=>?_)
  ·have h24n:=a4 h24
   refine aR.skip (qS (aR.block (qS (fP H fun y25 h26 H=>(bI H fun x28 z27 H=>(dW (dD [3] (cJ [aN x5.gPackages] hZ) (dI [4] aE (dI [5] (a5 eI) (dD [62] (bD mN) (dI [8] aE (dI [63,64] (m9 h26 h24n jL) (dI [65] (lR A6) ?_)))))))))))))
   refine dI [66] (kM (aG.cs y25.gBody) fE) (dI [60,61,67] (bG func52 (A9 fu x5 x6 y25.gBody _ z27)) (dI [68] CI (dN ?_)))
   refine a8 H (fun h29 H=>?_) (fun h29 H=>?_)
   ·refine qW (q1 aE (qZ ?_))
    obtain rfl:_=r:=(mT (aX H):)
    exact bE
   refine aR.skip (qR (q1 aE (q1 (rA (i22+1)) (q1 aE (qN ?_)))))
   exact iI h24l ⟨_,(aX H:),bW⟩
  refine aR.exit ?_;exact jJ ⟨_,H,bW⟩
 rintro⟨⟩ H
 refine qW (q1 aE (qZ ?_))
 cases aX H
 exact bE
end
end Go.Proofs.YtpioomclpaiomaaGreat.W

namespace Go.Proofs.YtpioomclpaiomaaGreat.W
open Go.RowKit Go.Proofs
attribute [local irreducible] lt
def fQ(w:aF)(s:ByteArray)(i:Nat):Option (aK×Int×Bool):=(List.range' 0 (aW w.gPackages i).gFunctions.length).findSome? fun k=>if(aW (aW w.gPackages i).gFunctions k).gName=s then some (aW (aW w.gPackages i).gFunctions k,(i:Int),true) else none
def fOf(w:aF)(s:ByteArray):aK×Int×Bool:=((List.range' 0 w.gPackages.length).findSome? (fQ w s)).getD (aK.mk s_ [] [] [] (aB.mk 0 s_ []) (aG.mk 0 s_ s_ 0 (aB.mk 0 s_ []) [] []),0,false)
theorem aq5(fu:Nat)(w:aF)(s:ByteArray):AI fu w s=some (fOf w s):=by
 have h:=gR (f:=DF fu w s) (q:=fQ w s) (fun r=>r) (s:=()) (n:=w.gPackages.length) (fun i hi=>by
  have h2:=gR (f:=DG fu w s i (aW w.gPackages i)) (q:=fun k=>if(aW (aW w.gPackages i).gFunctions k).gName=s then some (aW (aW w.gPackages i).gFunctions k,(i:Int),true) else none) (fun r=>LR.ret r) (s:=()) (n:=(aW w.gPackages i).gFunctions.length) (fun k hk=>by
   unfold DG
   refine zZ rfl ?_
   by_cases hs:(aW (aW w.gPackages i).gFunctions k).gName=s
   ·rw [if_pos hs];exact iG (decide_eq_true hs) rfl
   ·rw [if_neg hs];exact hY (decide_eq_false hs) rfl) _ 0 rfl
  unfold DF ML
  refine zZ rfl ?_;refine(congrArg (fun o=>so o _) h2).trans ?_
  unfold fQ
  simp only [Nat.sub_zero]
  cases(List.range' 0 (aW w.gPackages i).gFunctions.length).findSome? _<;>rfl) _ 0 rfl
 unfold AI MK fOf
 rw [h]
 cases(List.range' 0 w.gPackages.length).findSome? (fQ w s)<;>rfl
section
variable {w:aF} (hw:wt w≤13000000) {fu:Nat} (hf:13000000<fu)
include hw hf
theorem an1(s:ByteArray):D8 fu w s=some (fOf w s):=by
 have h:=gR (f:=GB fu w s) (q:=fQ w s) (fun r=>r) (s:=()) (n:=w.gPackages.length) (fun i hi=>by
  have hN:(aW w.gPackages i).gFunctions.length<fu:=by
   have:=aF.wt_eq w
   have:=b7 w.gPackages i hi
   have:=aJ.wt_eq (aW w.gPackages i)
   have:=aY (aW w.gPackages i).gFunctions
   omega
  have h2:=zJ (f:=AW fu w s i) (q:=fun k=>if(aW (aW w.gPackages i).gFunctions k).gName=s then some (aW (aW w.gPackages i).gFunctions k,(i:Int),true) else none) (fun r=>LR.ret r) (n:=(aW w.gPackages i).gFunctions.length) (fun k hk=>by
   unfold AW
   refine zZ rfl (iG (decide_eq_true (by omega)) (xC (by omega) (zZ rfl ?_)))
   rw [Int.toNat_natCast]
   by_cases hs:(aW (aW w.gPackages i).gFunctions k).gName=s
   ·rw [if_pos hs];exact iG (decide_eq_true hs) rfl
   ·rw [if_neg hs];exact hY (decide_eq_false hs) rfl) (by
   unfold AW
   exact zZ rfl (hY (decide_eq_false (by omega)) rfl)) _ 0 fu rfl (Nat.zero_le _) hN
  unfold GB RC
  refine(congrArg (fun o=>so o _) h2).trans ?_
  unfold fQ
  simp only [Nat.sub_zero]
  cases(List.range' 0 (aW w.gPackages i).gFunctions.length).findSome? _<;>rfl) _ 0 rfl
 unfold D8 RB fOf
 rw [h]
 cases(List.range' 0 w.gPackages.length).findSome? (fQ w s)<;>rfl
end
def gOf(t:aP)(s:ByteArray):aC×Int×Bool:=((List.range' 0 t.gSignatures.length).findSome? fun k=>if(aW t.gSignatures k).gName=s then some (aW t.gSignatures k,((k:Nat):Int),true) else none).getD (aC.mk s_ [] (aB.mk 0 s_ []) false [] (aG.mk 0 s_ s_ 0 (aB.mk 0 s_ []) [] []),0,false)
theorem ao9(fu:Nat)(t:aP)(s:ByteArray):xT fu t s=some (gOf t s):=by
 have h:=gR (f:=BA fu t s) (q:=fun k=>if(aW t.gSignatures k).gName=s then some (aW t.gSignatures k,((k:Nat):Int),true) else none) (fun r=>r) (s:=()) (n:=t.gSignatures.length) (fun k hk=>by
  unfold BA
  refine zZ rfl ?_
  by_cases hs:(aW t.gSignatures k).gName=s
  ·rw [if_pos hs];exact iG (decide_eq_true hs) rfl
  ·rw [if_neg hs];exact hY (decide_eq_false hs) rfl) _ 0 rfl
 unfold xT IX gOf
 rw [h]
 cases(List.range' 0 t.gSignatures.length).findSome? _<;>rfl
theorem apK(fu:Nat)(t:aP)(s:ByteArray):G6 fu t s=some ((gOf t s).1,(gOf t s).2.2):=by
 have h:=gR (f:=LH fu t s) (q:=fun k=>if(aW t.gSignatures k).gName=s then some (aW t.gSignatures k,((k:Nat):Int),true) else none) (fun r=>(r.1,r.2.2)) (s:=()) (n:=t.gSignatures.length) (fun k hk=>by
  unfold LH
  refine zZ rfl ?_
  by_cases hs:(aW t.gSignatures k).gName=s
  ·rw [if_pos hs];exact iG (decide_eq_true hs) rfl
  ·rw [if_neg hs];exact hY (decide_eq_false hs) rfl) _ 0 rfl
 unfold G6 VN gOf
 rw [h]
 cases(List.range' 0 t.gSignatures.length).findSome? _<;>rfl
def cQ3(d:aH)(s:ByteArray):Option (aH×Int×Bool):=(List.range' 0 d.gConstructors.length).findSome? fun k=>if(aW d.gConstructors k).gName=s then some (d,((k:Nat):Int),true) else none
def cQ2(w:aF)(s:ByteArray)(i:Nat):Option (aH×Int×Bool):=(List.range' 0 (aW w.gPackages i).gDataTypes.length).findSome? fun k=>cQ3 (aW (aW w.gPackages i).gDataTypes k) s
def XY(w:aF)(s:ByteArray):aH×Int×Bool:=((List.range' 0 w.gPackages.length).findSome? (cQ2 w s)).getD (aH.mk s_ [] [],0,false)
theorem anF(fu:Nat)(w:aF)(s:ByteArray):t1 fu w s=some (XY w s):=by
 have h:=gR (f:=wN fu w s) (q:=cQ2 w s) (fun r=>r) (s:=()) (n:=w.gPackages.length) (fun i hi=>by
  have h2:=gR (f:=wO fu w s i (aW w.gPackages i)) (q:=fun k=>cQ3 (aW (aW w.gPackages i).gDataTypes k) s) (fun r=>LR.ret r) (s:=()) (n:=(aW w.gPackages i).gDataTypes.length) (fun k hk=>by
   have h3:=gR (f:=wP fu w s i (aW w.gPackages i) k) (q:=fun j=>if(aW (aW (aW w.gPackages i).gDataTypes k).gConstructors j).gName=s then some (aW (aW w.gPackages i).gDataTypes k,((j:Nat):Int),true) else none) (fun r=>LR.ret (LR.ret r)) (s:=()) (n:=(aW (aW w.gPackages i).gDataTypes k).gConstructors.length) (fun j hj=>by
    unfold wP
    by_cases hs:(aW (aW (aW w.gPackages i).gDataTypes k).gConstructors j).gName=s
    ·rw [if_pos hs];exact iG (decide_eq_true hs) rfl
    ·rw [if_neg hs];exact hY (decide_eq_false hs) rfl) _ 0 rfl
   unfold wO EL
   refine(congrArg (fun o=>so o _) h3).trans ?_
   unfold cQ3
   simp only [Nat.sub_zero]
   cases(List.range' 0 (aW (aW w.gPackages i).gDataTypes k).gConstructors.length).findSome? _<;>rfl) _ 0 rfl
  unfold wN EK
  refine zZ rfl ?_;refine(congrArg (fun o=>so o _) h2).trans ?_
  unfold cQ2
  simp only [Nat.sub_zero]
  cases(List.range' 0 (aW w.gPackages i).gDataTypes.length).findSome? _<;>rfl) _ 0 rfl
 unfold t1 EJ XY
 rw [h]
 cases(List.range' 0 w.gPackages.length).findSome? (cQ2 w s)<;>rfl
section
variable {w:aF} (hw:wt w≤13000000) {fu:Nat} (hf:13000000<fu)
include hw hf
theorem agW(s:ByteArray):yD fu w s=some (XY w s):=by
 have h:=gR (f:=BN fu w s) (q:=cQ2 w s) (fun r=>r) (s:=()) (n:=w.gPackages.length) (fun i hi=>by
  have hN:=(aF.small_wt hw hf i hi).2.1
  have h2:=zJ (f:=vR fu w s i) (q:=fun k=>cQ3 (aW (aW w.gPackages i).gDataTypes k) s) (fun r=>LR.ret r) (n:=(aW w.gPackages i).gDataTypes.length) (fun k hk=>by
   have h3:=gR (f:=BO fu w s i ((k:Nat):Int) (aW w.gPackages i)) (q:=fun j=>if(aW (aW (aW w.gPackages i).gDataTypes k).gConstructors j).gName=s then some (aW (aW w.gPackages i).gDataTypes k,((j:Nat):Int),true) else none) (fun r=>LR.ret (LR.ret r)) (s:=()) (n:=(aW (aW w.gPackages i).gDataTypes k).gConstructors.length) (fun j hj=>by
    unfold BO
    rw [Int.toNat_natCast]
    refine zZ rfl ?_
    by_cases hs:(aW (aW (aW w.gPackages i).gDataTypes k).gConstructors j).gName=s
    ·rw [if_pos hs];exact iG (decide_eq_true hs) rfl
    ·rw [if_neg hs];exact hY (decide_eq_false hs) rfl) _ 0 rfl
   unfold vR
   refine zZ rfl (iG (decide_eq_true (by omega)) (xC (by omega) ?_))
   unfold JE
   rw [Int.toNat_natCast]
   refine(congrArg (fun o=>so o _) h3).trans ?_
   unfold cQ3
   simp only [Nat.sub_zero]
   cases(List.range' 0 (aW (aW w.gPackages i).gDataTypes k).gConstructors.length).findSome? _<;>rfl) (by
   unfold vR
   exact zZ rfl (hY (decide_eq_false (by omega)) rfl)) _ 0 fu rfl (Nat.zero_le _) hN
  unfold BN JD
  refine(congrArg (fun o=>so o _) h2).trans ?_
  unfold cQ2
  simp only [Nat.sub_zero]
  cases(List.range' 0 (aW w.gPackages i).gDataTypes.length).findSome? _<;>rfl) _ 0 rfl
 unfold yD JC XY
 rw [h]
 cases(List.range' 0 w.gPackages.length).findSome? (cQ2 w s)<;>rfl
end
theorem A3{α β:Type}{f:α→Option β}: ∀ {l:List α},l.findSome? f=none→ ∀x∈l,f x=none
 |y::r,h,x,hx=>by
  rw [List.findSome?_cons] at h
  cases hy:f y with
  |some v=>rw [hy] at h;simp at h
  |none=>
   rw [hy] at h
   rcases List.mem_cons.1 hx with rfl|hx
   ·exact hy
   ·exact A3 h x hx
theorem iY{α β:Type}{f:α→Option β}{v:β}: ∀ {l:List α},l.findSome? f=some v→ ∃x∈l,f x=some v
 |y::r,h=>by
  rw [List.findSome?_cons] at h
  cases hy:f y with
  |some u=>
   rw [hy] at h
   exact⟨y,by simp,by rw [hy];exact h⟩
  |none=>
   rw [hy] at h
   obtain⟨x,hx,h2⟩:=iY h
   exact⟨x,List.mem_cons_of_mem _ hx,h2⟩
theorem XZ{w:aF}{s:ByteArray}(h:(XY w s).2.2=true):(Y5 w (XY w s).1.gName).2.2=true∧0≤(XY w s).2.1∧(XY w s).2.1.toNat<(XY w s).1.gConstructors.length:=by
 unfold XY at h ⊢
 cases e:(List.range' 0 w.gPackages.length).findSome? (cQ2 w s) with
 |none=>rw [e] at h;cases h
 |some v=>
  rw [e] at h
  obtain⟨i,hi,h1⟩:=iY e
  unfold cQ2 at h1
  obtain⟨k,hk,h2⟩:=iY h1
  unfold cQ3 at h2
  obtain⟨j,hj,h3⟩:=iY h2
  rw [List.mem_range'_1] at hi hk hj
  by_cases hn:(aW (aW (aW w.gPackages i).gDataTypes k).gConstructors j).gName=s
  ·rw [if_pos hn] at h3
   cases h3
   refine⟨?_,Int.natCast_nonneg j,by show j<(aW (aW w.gPackages i).gDataTypes k).gConstructors.length;omega⟩
   show(Y5 w (aW (aW w.gPackages i).gDataTypes k).gName).2.2=true
   unfold Y5
   cases e2:(List.range' 0 w.gPackages.length).findSome? (dQ w (aW (aW w.gPackages i).gDataTypes k).gName) with
   |none=>
    have h4:=A3 e2 i (by rw [List.mem_range'_1];omega)
    unfold dQ at h4
    have h5:=A3 h4 k (by rw [List.mem_range'_1];omega)
    rw [if_pos rfl] at h5
    cases h5
   |some u=>
    obtain⟨i2,hi2,h4⟩:=iY e2
    unfold dQ at h4
    obtain⟨k2,hk2,h5⟩:=iY h4
    by_cases hn2:(aW (aW w.gPackages i2).gDataTypes k2).gName=(aW (aW w.gPackages i).gDataTypes k).gName
    ·rw [if_pos hn2] at h5
     cases h5
     rfl
    ·rw [if_neg hn2] at h5
     cases h5
  ·rw [if_neg hn] at h3
   cases h3
def fV(w:aF)(i:Int)(s:ByteArray):aK×Bool:=((fOf w s).1,(fOf w s).2.2&&CN w i (fOf w s).2.1)
def cV(w:aF)(i:Int)(s:ByteArray):aH×Int×Bool:=((XY w s).1,(XY w s).2.1,(XY w s).2.2&&CN w i (Y5 w (XY w s).1.gName).2.1)
theorem am6{w:aF}{i:Int}{s:ByteArray}(h:(cV w i s).2.2=true):0≤(cV w i s).2.1∧(cV w i s).2.1.toNat<(cV w i s).1.gConstructors.length:=by
 have h2:((XY w s).2.2&&CN w i (Y5 w (XY w s).1.gName).2.1)=true:=h
 rw [Bool.and_eq_true] at h2
 exact(XZ h2.1).2
theorem ao7(fu:Nat)(w:aF)(i:Int)(s:ByteArray):xV fu (bS.mk w (sG w i)) s=some (fV w i s):=by
 unfold xV fV
 refine jB (aq5 fu w s) ?_
 obtain⟨t,k,b⟩:=fOf w s
 cases b with
 |true=>exact iG rfl (jB (MH fu w i k) rfl)
 |false=>exact hY rfl rfl
theorem ajV(fu:Nat)(w:aF)(i:Int)(s:ByteArray):oU fu (bS.mk w (sG w i)) s=some (cV w i s):=by
 have hd:= @XZ w s
 unfold oU cV
 refine jB (anF fu w s) ?_
 generalize XY w s=q at hd ⊢
 obtain⟨t,k,b⟩:=q
 have h2:=acV fu w t.gName
 have h3:b=true→(Y5 w t.gName).2.2=true:=fun h=>(hd h).1
 show _=some (t,k,b&&CN w i (Y5 w t.gName).2.1)
 generalize Y5 w t.gName=z at h2 h3 ⊢
 obtain⟨d,k2,b2⟩:=z
 refine jB h2 ?_
 cases b with
 |true=>
  have h4:b2=true:=h3 rfl
  subst h4
  exact iG rfl (iG rfl (jB (MH fu w i k2) rfl))
 |false=>exact hY rfl rfl
section
variable {w:aF} (hw:wt w≤13000000) {fu:Nat} (hf:13000000<fu) (i:Int) (s:ByteArray)
include hw hf
theorem aj4:zU fu w i s=some (cV w i s):=by
 unfold zU cV
 refine jB (agW hw hf s) ?_
 obtain⟨t,k,b⟩:=XY w s
 cases b with
 |true=>
  refine hY rfl (jB (UX fu w t.gName (aF.small_wt hw hf)) ?_)
  show _=some (t,k,true&&CN w i (Y5 w t.gName).2.1)
  obtain⟨d,k2,b2⟩:=Y5 w t.gName
  exact jB (M9 hw i k2) rfl
 |false=>exact iG rfl rfl
end
theorem Q9{α:Type}[DecidableEq α]: ∀ {N A:List α},N.Nodup→(∀x∈N,x∈A)→A.length=N.length→A.Perm N
 | [],A,_,_,hl=>by
  rw [List.length_nil,List.length_eq_zero_iff] at hl
  rw [hl]
 |x::r,A,hn,hs,hl=>by
  have hx:=hs x (by simp)
  rw [List.nodup_cons] at hn
  refine(List.perm_cons_erase hx).trans (List.Perm.cons x (Q9 hn.2 (fun y hy=>?_) ?_))
  ·exact(List.mem_erase_of_ne (fun h=>hn.1 (by rw [← h];exact hy))).2 (hs y (List.mem_cons_of_mem _ hy))
  ·rw [List.length_erase_of_mem hx,hl]
   simp
theorem O6{α β:Type}{f:α→β}: ∀ {l:List α},(l.map f).Nodup→ ∀a∈l,∀b∈l,f a=f b→a=b
 |x::r,h,a,ha,b,hb,e=>by
  rw [List.map_cons,List.nodup_cons] at h
  rcases List.mem_cons.1 ha with rfl|ha
  ·rcases List.mem_cons.1 hb with rfl|hb
   ·rfl
   ·exact absurd (List.mem_map.2 ⟨b,hb,e.symm⟩) h.1
  ·rcases List.mem_cons.1 hb with e2|hb
   ·exact absurd (List.mem_map.2 ⟨a,ha,e.trans (congrArg f e2)⟩) h.1
   ·exact O6 h.2 a ha b hb e
theorem TW{α:Type}{p:α→Bool}: ∀ {l:List α} {a:α},a∈l→p a=true→l.Nodup→(∀b∈l,p b=true→b=a)→l.countP p=1
 |x::r,a,ha,hp,hn,hu=>by
  rw [List.nodup_cons] at hn
  by_cases hx:p x=true
  ·rw [List.countP_cons_of_pos hx]
   have:r.countP p=0:=by
    rw [List.countP_eq_zero]
    intro b hb hpb
    have h1:=hu b (List.mem_cons_of_mem _ hb) hpb
    have h2:=hu x (by simp) hx
    rw [h1,← h2] at hb
    exact hn.1 hb
   rw [this]
  ·rw [List.countP_cons_of_neg hx]
   rcases List.mem_cons.1 ha with rfl|ha
   ·exact absurd hp hx
   ·exact TW ha hp hn.2 fun b hb=>hu b (List.mem_cons_of_mem _ hb)
theorem ZR{α β:Type}{f:α→β}{l:List α}(h:(l.map f).Nodup):l.Nodup:=by
 rw [List.Nodup,List.pairwise_map] at h
 exact h.imp fun hab e=>hab (congrArg f e)
def HL(c:aD)(a:bA):Bool:=decide (a.gConstructor=c.gName)&&decide (a.gVars.length=c.gFields.length)
theorem vY{c:aD}{a:bA}:HL c a=true↔a.gConstructor=c.gName∧a.gVars.length=c.gFields.length:=by
 unfold HL
 rw [Bool.and_eq_true,decide_eq_true_eq,decide_eq_true_eq]
def TY(d:aH)(l:List bA):Bool:=decide (l.length=d.gConstructors.length)&&(decide (d.gConstructors.map (·.gName)).Nodup&&d.gConstructors.all fun c=>match l.find? (fun a=>decide (a.gConstructor=c.gName)) with|some a=>decide (a.gVars.length=c.gFields.length)|none=>false)
theorem X4{c:aD}{l:List bA}:(match l.find? (fun a=>decide (a.gConstructor=c.gName)) with|some a=>decide (a.gVars.length=c.gFields.length)|none=>false)=true↔ ∃a,l.find? (fun a=>decide (a.gConstructor=c.gName))=some a∧HL c a=true:=by
 cases e:l.find? fun a=>decide (a.gConstructor=c.gName) with
 |none=>simp
 |some a=>
  have h:=List.find?_some e
  rw [decide_eq_true_eq] at h
  show decide (a.gVars.length=c.gFields.length)=true↔_
  rw [decide_eq_true_eq]
  constructor
  ·exact fun h2=>⟨a,rfl,vY.2 ⟨h,h2⟩⟩
  ·rintro⟨b,hb,h2⟩
   cases hb
   exact(vY.1 h2).2
theorem ajP{d:aH}{l:List bA}(hl:l.length=d.gConstructors.length)(hn:(d.gConstructors.map (·.gName)).Nodup):(∀c∈d.gConstructors,∃a,l.find? (fun a=>decide (a.gConstructor=c.gName))=some a∧HL c a=true)↔ ∀c∈d.gConstructors,l.countP (HL c)=1:=by
 have key:(∀c∈d.gConstructors,∃a∈l,a.gConstructor=c.gName)→(l.map (·.gConstructor)).Nodup:=fun h=>by
  have hp:(l.map (·.gConstructor)).Perm (d.gConstructors.map (·.gName)):=Q9 hn (fun x hx=>by
   obtain⟨c,hc,rfl⟩:=List.mem_map.1 hx
   obtain⟨a,ha,e⟩:=h c hc
   exact List.mem_map.2 ⟨a,ha,e⟩) (by rw [List.length_map,List.length_map,hl])
  exact hp.nodup_iff.2 hn
 constructor
 ·intro h c hc
  have hN:=key fun c hc=>by
   obtain⟨a,ha,h2⟩:=h c hc
   exact⟨a,List.mem_of_find?_eq_some ha,(vY.1 h2).1⟩
  obtain⟨a,ha,h2⟩:=h c hc
  exact TW (List.mem_of_find?_eq_some ha) h2 (ZR hN) fun b hb h3=>O6 hN b hb a (List.mem_of_find?_eq_some ha) (by show b.gConstructor=a.gConstructor;rw [(vY.1 h3).1,(vY.1 h2).1])
 ·intro h c hc
  have ex: ∀c∈d.gConstructors,∃a∈l,HL c a=true:=fun c hc=>by
   have:0<l.countP (HL c):=by rw [h c hc];omega
   exact List.countP_pos_iff.1 this
  have hN:=key fun c hc=>by
   obtain⟨a,ha,h2⟩:=ex c hc
   exact⟨a,ha,(vY.1 h2).1⟩
  obtain⟨a,ha,h2⟩:=ex c hc
  cases e:l.find? fun a=>decide (a.gConstructor=c.gName) with
  |none=>
   rw [List.find?_eq_none] at e
   exact absurd (decide_eq_true (vY.1 h2).1) (e a ha)
  |some b=>
   have h3:=List.find?_some e
   rw [decide_eq_true_eq] at h3
   have:b=a:=O6 hN b (List.mem_of_find?_eq_some e) a ha (by show b.gConstructor=a.gConstructor;rw [h3,(vY.1 h2).1])
   exact⟨b,rfl,this ▸ h2⟩
theorem KI{β:Type}{F:Nat→Unit→Option (LR Unit β)}{p:Nat→Bool}{r:β}{n:Nat}(hs: ∀i,i<n→F i ()=some (bif p i then .next () else .ret r)): ∀k j,n-j=k→loopN F k j ()=some (bif (List.range' j k).all p then .inr () else .inl r)
 |0,j,hk=>by rw [loopN];rfl
 |k+1,j,hk=>by
  rw [loopN,hs j (by omega),List.range'_succ,List.all_cons]
  cases hp:p j with
  |true=>exact KI hs k (j+1) (by omega)
  |false=>rfl
theorem TU{β:Type}{F:Nat→Int→Option (LR Int β)}{l:List bA}{p:bA→Bool}(hl:l.length≤1000000000)(hs: ∀i (v:Int),i<l.length→0≤v→v≤1000000000→F i v=some (.next (bif p (aW l i) then v+1 else v))): ∀k i (v:Int),l.length-i=k→0≤v→v+(k:Int)≤1000000000→loopN F k i v=some (.inr (v+(((l.drop i).countP p:Nat):Int)))
 |0,i,v,hk,_,_=>by rw [loopN,List.drop_of_length_le (by omega)];simp
 |k+1,i,v,hk,h0,h1=>by
  have hi:i<l.length:=by omega
  rw [loopN,hs i v hi h0 (by omega),pR hi]
  show loopN F k (i+1) _=_
  cases hp:p (aW l i) with
  |true=>
   rw [List.countP_cons_of_pos hp]
   show loopN F k (i+1) (v+1)=_
   rw [TU hl hs k (i+1) (v+1) (by omega) (by omega) (by omega)]
   congr 2
   omega
  |false=>
   rw [List.countP_cons_of_neg (by rw [hp];simp)]
   exact TU hl hs k (i+1) v (by omega) (by omega) (by omega)
theorem MV{α β:Type}[Inhabited α][DecidableEq β]{f:α→β}{l:List α}:(l.map f).Nodup↔ ∀i,i<l.length→ ∀j,j<i→f (aW l j)≠f (aW l i):=by
 rw [List.Nodup,List.pairwise_map,List.pairwise_iff_getElem]
 constructor
 ·intro h i hi j hj
  rw [gE hi,gE (by omega:j<l.length)]
  exact h j i (by omega) hi hj
 ·intro h j i hj hi hji
  have:=h i hi j hji
  rwa [gE hi,gE hj] at this
section
variable {d:aH} {l:List bA} (hl:l.length≤13000000)
include hl
theorem anZ(fu:Nat):D9 fu d l=some (TY d l):=by
 unfold D9 TY
 by_cases h1:l.length=d.gConstructors.length
 ·refine hY (by rw [decide_eq_true (by omega)];rfl) ?_
  have hF: ∀i,i<d.gConstructors.length→GE fu d l i ()=some (bif ((List.range' 0 i).all fun j=> !decide ((aW d.gConstructors j).gName=(aW d.gConstructors i).gName))&&decide (l.countP (HL (aW d.gConstructors i))=1) then .next () else .ret false):=fun i hi=>by
   have h2:GG fu d l i=some (.inr (0+(((l.drop 0).countP (HL (aW d.gConstructors i)):Nat):Int))):=by
    unfold GG
    refine TU (by omega) (fun k v hk h0 hv=>?_) _ 0 0 rfl (by omega) (by omega)
    unfold RD HL
    refine zZ rfl ?_
    by_cases e1:(aW l k).gConstructor=(aW d.gConstructors i).gName
    ·refine iG (decide_eq_true e1) ?_
     rw [decide_eq_true e1]
     by_cases e2:(aW l k).gVars.length=(aW d.gConstructors i).gFields.length
     ·rw [decide_eq_true e2]
      exact iG (decide_eq_true (by omega)) (by rw [rN (by omega) (by omega)];rfl)
     ·rw [decide_eq_false e2]
      exact hY (decide_eq_false (by omega)) rfl
    ·rw [decide_eq_false e1]
     exact hY rfl rfl
   have h3:=KI (F:=GF fu d l i (0+(((l.drop 0).countP (HL (aW d.gConstructors i)):Nat):Int))) (p:=fun j=> !decide ((aW d.gConstructors j).gName=(aW d.gConstructors i).gName)) (r:= .ret false) (n:=i) (fun j hj=>by
    unfold GF
    refine xC (by omega) ?_
    by_cases e:(aW d.gConstructors j).gName=(aW d.gConstructors i).gName
    ·rw [decide_eq_true e];exact iG rfl rfl
    ·rw [decide_eq_false e];exact hY rfl rfl) _ 0 rfl
   unfold GE
   refine soR h2 ?_
   unfold RF
   refine(congrArg (fun o=>so o _) h3).trans ?_
   rw [List.drop_zero]
   simp only [Nat.sub_zero]
   cases(List.range' 0 i).all fun j=> !decide ((aW d.gConstructors j).gName=(aW d.gConstructors i).gName) with
   |false=>rfl
   |true=>
    show sw _ _ _=_
    by_cases e:l.countP (HL (aW d.gConstructors i))=1
    ·rw [decide_eq_true e]
     exact hY (by rw [decide_eq_true (by omega)];rfl) rfl
    ·rw [decide_eq_false e]
     exact iG (by rw [decide_eq_false (by omega)];rfl) rfl
  have h4:=KI hF _ 0 rfl
  unfold RE
  refine(congrArg (fun o=>so o _) h4).trans ?_
  rw [decide_eq_true h1,Bool.true_and]
  have h5:(List.range' 0 (d.gConstructors.length-0)).all (fun i=>((List.range' 0 i).all fun j=> !decide ((aW d.gConstructors j).gName=(aW d.gConstructors i).gName))&&decide (l.countP (HL (aW d.gConstructors i))=1))=(decide (d.gConstructors.map (·.gName)).Nodup&&d.gConstructors.all fun c=>match l.find? (fun a=>decide (a.gConstructor=c.gName)) with|some a=>decide (a.gVars.length=c.gFields.length)|none=>false):=by
   rw [Bool.eq_iff_iff,Bool.and_eq_true,decide_eq_true_eq,List.all_eq_true,List.all_eq_true]
   have e6:(∀c∈d.gConstructors,l.countP (HL c)=1)↔ ∀i,i<d.gConstructors.length→l.countP (HL (aW d.gConstructors i))=1:=by
    constructor
    ·exact fun h i hi=>h _ (GQ hi)
    ·intro h c hc
     obtain⟨i,hi,rfl⟩:=List.getElem_of_mem hc
     have:=h i hi
     rwa [gE hi] at this
   constructor
   ·intro h
    have h7: ∀i,i<d.gConstructors.length→(∀j,j<i→(aW d.gConstructors j).gName≠(aW d.gConstructors i).gName)∧l.countP (HL (aW d.gConstructors i))=1:=fun i hi=>by
     have h8:=h i (by rw [List.mem_range'_1];omega)
     rw [Bool.and_eq_true,decide_eq_true_eq,List.all_eq_true] at h8
     refine⟨fun j hj e=>?_,h8.2⟩
     have h9:=h8.1 j (by rw [List.mem_range'_1];omega)
     rw [decide_eq_true e] at h9
     cases h9
    have hn:(d.gConstructors.map (·.gName)).Nodup:=MV.2 fun i hi j hj=>(h7 i hi).1 j hj
    exact⟨hn,fun c hc=>X4.2 ((ajP h1 hn).2 (e6.2 fun i hi=>(h7 i hi).2) c hc)⟩
   ·rintro⟨hn,h⟩ i hi
    rw [List.mem_range'_1] at hi
    rw [Bool.and_eq_true,decide_eq_true_eq,List.all_eq_true]
    refine⟨fun j hj=>?_,e6.1 ((ajP h1 hn).1 fun c hc=>X4.1 (h c hc)) i (by omega)⟩
    rw [List.mem_range'_1] at hj
    rw [decide_eq_false (MV.1 hn i (by omega) j (by omega))]
    rfl
  rw [h5]
  cases(decide (d.gConstructors.map (·.gName)).Nodup&&d.gConstructors.all fun c=>match l.find? (fun a=>decide (a.gConstructor=c.gName)) with|some a=>decide (a.gVars.length=c.gFields.length)|none=>false)<;>rfl
 ·rw [decide_eq_false h1]
  exact iG (by rw [decide_eq_false (by omega)];rfl) rfl
end
theorem akZ(fu:Nat)(l:List bA)(s:ByteArray):MI fu l s=some (match l.findIdx? (fun a=>decide (a.gConstructor=s)) with|some i=>((i:Nat):Int)|none=> -1):=by
 unfold MI lY pO
 rw [tK (p:=fun a:bA=>decide (a.gConstructor=s)) (fun i hi=>by
  unfold pM J5
  refine zZ rfl ?_
  cases h:decide ((aW l i).gConstructor=s)<;>simp [bd,h,sw])]
 cases l.findIdx? fun a=>decide (a.gConstructor=s)<;>rfl
def OC(l:List bA)(c:aD):Bool:=match l.find? (fun a=>decide (a.gConstructor=c.gName)) with|some a=>decide (a.gVars.length=c.gFields.length)|none=>false
theorem acL{α:Type}[Inhabited α]{p:α→Bool}: ∀ {l:List α},l.find? p=(l.findIdx? p).map (aW l)∧ ∀i,l.findIdx? p=some i→i<l.length
 | []=>⟨rfl,fun i h=>by cases h⟩
 |x::r=>by
  obtain⟨h1,h2⟩:= @acL α _ p r
  rw [List.find?_cons,List.findIdx?_cons]
  cases p x with
  |true=>exact⟨rfl,fun i h=>by cases h;simp⟩
  |false=>
   refine⟨?_,fun i h=>?_⟩
   ·rw [h1]
    cases r.findIdx? p<;>rfl
   ·cases e:r.findIdx? p with
    |none=>simp [e] at h
    |some j=>
     have:=h2 j e
     simp [e] at h
     simp
     omega
theorem anD(fu:Nat)(d:aH)(l:List bA)(hd:d.gConstructors.length≤13000000):DE fu d l=some (TY d l):=by
 have key: ∀k j (v:LB),d.gConstructors.length-j=k→v.length=j→loopN (AH fu d l) k j v=some (bif (d.gConstructors.drop j).all (OC l) then .inr (v++(d.gConstructors.drop j).map (·.gName)) else .inl false):=by
  intro k
  induction k with
  |zero=>
   intro j v hk hv
   rw [loopN,List.drop_of_length_le (by omega)]
   simp
  |succ k ih=>
   intro j v hk hv
   have hj:j<d.gConstructors.length:=by omega
   have e:AH fu d l j v=some (bif OC l (aW d.gConstructors j) then .next (v++ [(aW d.gConstructors j).gName]) else .ret false):=by
    unfold AH OC
    obtain⟨h1,h2⟩:= @acL bA _ (fun a=>decide (a.gConstructor=(aW d.gConstructors j).gName)) l
    refine xC (by simp;omega) (jB (akZ fu l _) ?_)
    rw [h1]
    cases e:l.findIdx? fun a=>decide (a.gConstructor=(aW d.gConstructors j).gName) with
    |none=>exact iG rfl rfl
    |some i=>
     have hi:=h2 i e
     refine hY (decide_eq_false (by show ¬(((i:Nat):Int)<0);omega)) (xC (by show 0≤((i:Nat):Int)∧((i:Nat):Int).toNat<l.length;omega) (zZ rfl ?_))
     show sw (!decide (((((aW l i).gVars.length:Nat):Int):Int)=(((aW d.gConstructors j).gFields.length:Nat):Int))) _ _=some (bif decide ((aW l i).gVars.length=(aW d.gConstructors j).gFields.length) then _ else _)
     by_cases hv:(aW l i).gVars.length=(aW d.gConstructors j).gFields.length
     ·rw [decide_eq_true hv]
      exact hY (by rw [decide_eq_true (by omega)];rfl) rfl
     ·rw [decide_eq_false hv]
      exact iG (by rw [decide_eq_false (by omega)];rfl) rfl
   rw [loopN,e,pR hj,List.all_cons]
   cases OC l (aW d.gConstructors j) with
   |true=>
    refine(ih (j+1) _ (by omega) (by simp;omega)).trans ?_
    simp
   |false=>rfl
 have h:=key _ 0 [] rfl rfl
 rw [List.drop_zero,List.nil_append] at h
 unfold DE QZ TY
 refine(congrArg (fun o=>so o _) h).trans ?_
 show _=some (decide _&&(decide _&&d.gConstructors.all (OC l)))
 cases d.gConstructors.all (OC l) with
 |false=>rw [Bool.and_false,Bool.and_false];rfl
 |true=>
  rw [Bool.and_true]
  show sw _ _ _=_
  by_cases hn:(d.gConstructors.map (·.gName)).Nodup
  ·rw [decide_eq_true hn,Bool.and_true]
   refine iG rfl ?_
   rw [List.length_map]
   congr 1
   exact decide_eq_decide.2 (by omega)
  ·rw [decide_eq_false hn,Bool.and_false]
   exact hY rfl rfl
def QY(w:aF)(i:Int)(e:aG):Int:=
 if e.gKind=4 then(if(fV w i e.gName).2=true then(if(fV w i e.gName).1.gParams.length=e.gArgs.length then 0 else 9) else 9)
 else if e.gKind=5 then(if(TB w i e.gTrait).2=true then(if(gOf (TB w i e.gTrait).1 e.gName).2.2=true then(if(gOf (TB w i e.gTrait).1 e.gName).1.gParams.length+1=e.gArgs.length then 0 else 6) else 6) else 3)
 else if e.gKind=6 then(if(cV w i e.gName).2.2=true then(if(aW (cV w i e.gName).1.gConstructors (cV w i e.gName).2.1.toNat).gFields.length=e.gArgs.length then 0 else 2) else 1)
 else if e.gKind=7 then(if e.gArms.length=0 then 1 else if(cV w i (aW e.gArms 0).gConstructor).2.2=true then(if TY (cV w i (aW e.gArms 0).gConstructor).1 e.gArms=true then 0 else 2) else 1)
 else if e.gKind=11 then akX w i e.gTrait
 else if e.gKind=12 then yX w i e.gType
 else 0
theorem ac0{e:aG}{k:Nat}(h:wt e≤k):e.gArgs.length≤k∧e.gArms.length≤k∧wt e.gType≤k:=by
 have:=aG.wt_eq e
 have:=aY e.gArgs
 have:=aY e.gArms
 omega
theorem am8{w:aF}(hw:wt w≤13000000)(s:ByteArray):(XY w s).1.gConstructors.length≤13000000:=by
 unfold XY
 cases e:(List.range' 0 w.gPackages.length).findSome? (cQ2 w s) with
 |none=>exact Nat.zero_le _
 |some v=>
  obtain⟨i,hi,h1⟩:=iY e
  unfold cQ2 at h1
  obtain⟨k,hk,h2⟩:=iY h1
  unfold cQ3 at h2
  obtain⟨j,hj,h3⟩:=iY h2
  rw [List.mem_range'_1] at hi hk hj
  by_cases hn:(aW (aW (aW w.gPackages i).gDataTypes k).gConstructors j).gName=s
  ·rw [if_pos hn] at h3
   cases h3
   show(aW (aW w.gPackages i).gDataTypes k).gConstructors.length≤13000000
   have:=aF.wt_eq w
   have:=b7 w.gPackages i (by omega)
   have:=aJ.wt_eq (aW w.gPackages i)
   have:=b7 (aW w.gPackages i).gDataTypes k (by omega)
   have:=aH.wt_eq (aW (aW w.gPackages i).gDataTypes k)
   have:=aY (aW (aW w.gPackages i).gDataTypes k).gConstructors
   omega
  ·rw [if_neg hn] at h3
   cases h3
theorem ajZ{w:aF}(hw:wt w≤13000000)(t s:ByteArray):(gOf (tOf w t).1 s).1.gParams.length≤13000000:=by
 have ht:wt (tOf w t).1≤13000000:=ajF hw
 generalize(tOf w t).1=x at ht ⊢
 unfold gOf
 cases e:(List.range' 0 x.gSignatures.length).findSome? fun k=>if(aW x.gSignatures k).gName=s then some (aW x.gSignatures k,((k:Nat):Int),true) else none with
 |none=>exact Nat.zero_le _
 |some v=>
  obtain⟨k,hk,h2⟩:=iY e
  rw [List.mem_range'_1] at hk
  by_cases hn:(aW x.gSignatures k).gName=s
  ·rw [if_pos hn] at h2
   cases h2
   show(aW x.gSignatures k).gParams.length≤13000000
   have:=aP.wt_eq x
   have:=b7 x.gSignatures k (by omega)
   have:=aC.wt_eq (aW x.gSignatures k)
   have:=aY (aW x.gSignatures k).gParams
   omega
  ·rw [if_neg hn] at h2
   cases h2
section
variable {fu:Nat} {w:aF} (hw:wt w≤13000000) (i:Int)
include hw
theorem alI{e:aG}(he:wt e≤13000000)(hf:270000000≤fu):EB fu w i e=some (QY w i e):=by
 have hE:=ac0 he
 unfold EB QY
 by_cases h4:e.gKind=4
 ·rw [if_pos h4]
  refine iG (decide_eq_true h4) (jB (an1 hw (by omega) e.gName) ?_)
  unfold fV
  obtain⟨f,k,b⟩:=fOf w e.gName
  cases b with
  |false=>exact iG rfl rfl
  |true=>
   refine hY rfl (jB (M9 hw i k) ?_)
   show sw (!CN w i k) _ _=some (if(true&&CN w i k)=true then(if f.gParams.length=e.gArgs.length then 0 else 9) else 9)
   cases CN w i k with
   |false=>rfl
   |true=>
    by_cases hl:f.gParams.length=e.gArgs.length
    ·rw [if_pos hl];exact hY rfl (hY (by rw [decide_eq_true (by omega)];rfl) rfl)
    ·rw [if_neg hl];exact hY rfl (iG (by rw [decide_eq_false (by omega)];rfl) rfl)
 rw [if_neg h4]
 refine hY (decide_eq_false h4) ?_
 by_cases h5:e.gKind=5
 ·rw [if_pos h5]
  have hp:=ajZ hw e.gTrait e.gName
  have hx:(TB w i e.gTrait).1=(tOf w e.gTrait).1:=rfl
  rw [← hx] at hp
  refine iG (decide_eq_true h5) (jB (Z1 hw (by omega) i e.gTrait) ?_)
  generalize TB w i e.gTrait=q at hp ⊢
  obtain⟨t,b⟩:=q
  cases b with
  |false=>exact iG rfl rfl
  |true=>
   refine hY rfl (jB (apK fu t e.gName) ?_)
   rw [if_pos rfl]
   change(gOf t e.gName).1.gParams.length≤13000000 at hp
   show sw (!(gOf t e.gName).2.2) _ _=some (if(gOf t e.gName).2.2=true then(if(gOf t e.gName).1.gParams.length+1=e.gArgs.length then 0 else 6) else 6)
   generalize gOf t e.gName=g at hp ⊢
   obtain⟨g,k,b⟩:=g
   change g.gParams.length≤13000000 at hp
   cases b with
   |false=>exact iG rfl rfl
   |true=>
    refine hY rfl ?_
    rw [if_pos rfl]
    show sw (!decide (aQ (((g.gParams.length:Nat):Int)+1)=((e.gArgs.length:Nat):Int))) _ _=some (if g.gParams.length+1=e.gArgs.length then 0 else 6)
    rw [rN (by omega) (by omega)]
    by_cases hl:g.gParams.length+1=e.gArgs.length
    ·rw [if_pos hl];exact hY (by rw [decide_eq_true (by omega)];rfl) rfl
    ·rw [if_neg hl];exact iG (by rw [decide_eq_false (by omega)];rfl) rfl
 rw [if_neg h5]
 refine hY (decide_eq_false h5) ?_
 by_cases h6:e.gKind=6
 ·rw [if_pos h6]
  have hc:= @am6 w i e.gName
  refine iG (decide_eq_true h6) (jB (aj4 hw (by omega) i e.gName) ?_)
  generalize cV w i e.gName=q at hc ⊢
  obtain⟨d,k,b⟩:=q
  cases b with
  |false=>exact iG rfl rfl
  |true=>
   refine hY rfl (xC (hc rfl) ?_)
   rw [if_pos rfl]
   show _=some (if(aW d.gConstructors k.toNat).gFields.length=e.gArgs.length then 0 else 2)
   by_cases hl:(aW d.gConstructors k.toNat).gFields.length=e.gArgs.length
   ·rw [if_pos hl];exact hY (by rw [decide_eq_true (by omega)];rfl) rfl
   ·rw [if_neg hl];exact iG (by rw [decide_eq_false (by omega)];rfl) rfl
 rw [if_neg h6]
 refine hY (decide_eq_false h6) ?_
 by_cases h7:e.gKind=7
 ·rw [if_pos h7]
  refine iG (decide_eq_true h7) ?_
  by_cases h0:e.gArms.length=0
  ·rw [if_pos h0];exact iG (decide_eq_true (by omega)) rfl
  rw [if_neg h0]
  refine hY (decide_eq_false (by omega)) (xC (by omega) (zZ rfl (jB (aj4 hw (by omega) i _) ?_)))
  obtain⟨d,k,b⟩:=cV w i (aW e.gArms 0).gConstructor
  cases b with
  |false=>exact iG rfl rfl
  |true=>
   refine hY rfl (jB (anZ (by omega) fu) ?_)
   rw [if_pos rfl]
   show sw (!TY d e.gArms) _ _=some (if TY d e.gArms=true then 0 else 2)
   cases TY d e.gArms<;>rfl
 rw [if_neg h7]
 refine hY (decide_eq_false h7) ?_
 by_cases h11:e.gKind=11
 ·rw [if_pos h11];exact iG (decide_eq_true h11) (jB (ac7 hw (by omega) i e.gTrait) rfl)
 rw [if_neg h11]
 refine hY (decide_eq_false h11) ?_
 by_cases h12:e.gKind=12
 ·rw [if_pos h12];exact iG (decide_eq_true h12) (jB (UW hw hf i (by omega)) rfl)
 rw [if_neg h12]
 exact hY (decide_eq_false h12) rfl
theorem ak0{e:aG}(he:wt e≤13000000)(hf:270000000≤fu):vK fu (bS.mk w (sG w i)) e=some (QY w i e):=by
 have hE:=ac0 he
 unfold vK QY
 by_cases h4:e.gKind=4
 ·rw [if_pos h4]
  refine iG (decide_eq_true h4) (jB (ao7 fu w i e.gName) ?_)
  obtain⟨f,b⟩:=fV w i e.gName
  cases b with
  |false=>exact iG rfl rfl
  |true=>
   refine hY rfl ?_
   rw [if_pos rfl]
   show _=some (if f.gParams.length=e.gArgs.length then 0 else 9)
   by_cases hl:f.gParams.length=e.gArgs.length
   ·rw [if_pos hl];exact hY (by rw [decide_eq_true (by omega)];rfl) rfl
   ·rw [if_neg hl];exact iG (by rw [decide_eq_false (by omega)];rfl) rfl
 rw [if_neg h4]
 refine hY (decide_eq_false h4) ?_
 by_cases h5:e.gKind=5
 ·rw [if_pos h5]
  have hp:=ajZ hw e.gTrait e.gName
  have hx:(TB w i e.gTrait).1=(tOf w e.gTrait).1:=rfl
  rw [← hx] at hp
  refine iG (decide_eq_true h5) (jB (ZH fu w i e.gTrait) ?_)
  generalize TB w i e.gTrait=q at hp ⊢
  obtain⟨t,b⟩:=q
  cases b with
  |false=>exact iG rfl rfl
  |true=>
   have hS:=ao9 fu t e.gName
   rw [if_pos rfl]
   change(gOf t e.gName).1.gParams.length≤13000000 at hp
   show _=some (if(gOf t e.gName).2.2=true then(if(gOf t e.gName).1.gParams.length+1=e.gArgs.length then 0 else 6) else 6)
   generalize gOf t e.gName=g at hp hS ⊢
   obtain⟨g,k,b⟩:=g
   refine hY rfl (jB hS ?_)
   change g.gParams.length≤13000000 at hp
   cases b with
   |false=>exact iG rfl rfl
   |true=>
    refine hY rfl ?_
    rw [if_pos rfl]
    show sw (!decide (((e.gArgs.length:Nat):Int)=aQ (((g.gParams.length:Nat):Int)+1))) _ _=some (if g.gParams.length+1=e.gArgs.length then 0 else 6)
    rw [rN (by omega) (by omega)]
    by_cases hl:g.gParams.length+1=e.gArgs.length
    ·rw [if_pos hl];exact hY (by rw [decide_eq_true (by omega)];rfl) rfl
    ·rw [if_neg hl];exact iG (by rw [decide_eq_false (by omega)];rfl) rfl
 rw [if_neg h5]
 refine hY (decide_eq_false h5) ?_
 by_cases h6:e.gKind=6
 ·rw [if_pos h6]
  have hc:= @am6 w i e.gName
  refine iG (decide_eq_true h6) (jB (ajV fu w i e.gName) ?_)
  generalize cV w i e.gName=q at hc ⊢
  obtain⟨d,k,b⟩:=q
  cases b with
  |false=>exact iG rfl rfl
  |true=>
   refine hY rfl (xC (hc rfl) ?_)
   rw [if_pos rfl]
   show _=some (if(aW d.gConstructors k.toNat).gFields.length=e.gArgs.length then 0 else 2)
   by_cases hl:(aW d.gConstructors k.toNat).gFields.length=e.gArgs.length
   ·rw [if_pos hl];exact hY (by rw [decide_eq_true (by omega)];rfl) rfl
   ·rw [if_neg hl];exact iG (by rw [decide_eq_false (by omega)];rfl) rfl
 rw [if_neg h6]
 refine hY (decide_eq_false h6) ?_
 by_cases h7:e.gKind=7
 ·rw [if_pos h7]
  refine iG (decide_eq_true h7) ?_
  by_cases h0:e.gArms.length=0
  ·rw [if_pos h0];exact iG (decide_eq_true (by omega)) rfl
  rw [if_neg h0]
  have hd:(cV w i (aW e.gArms 0).gConstructor).1.gConstructors.length≤13000000:=am8 hw _
  refine hY (decide_eq_false (by omega)) (xC (by omega) (zZ rfl (jB (ajV fu w i _) ?_)))
  generalize cV w i (aW e.gArms 0).gConstructor=q at hd ⊢
  obtain⟨d,k,b⟩:=q
  cases b with
  |false=>exact iG rfl rfl
  |true=>
   refine hY rfl (jB (anD fu d _ hd) ?_)
   rw [if_pos rfl]
   show sw (!TY d e.gArms) _ _=some (if TY d e.gArms=true then 0 else 2)
   cases TY d e.gArms<;>rfl
 rw [if_neg h7]
 refine hY (decide_eq_false h7) ?_
 by_cases h11:e.gKind=11
 ·rw [if_pos h11];exact iG (decide_eq_true h11) (jB (acQ hw (by omega) i e.gTrait) rfl)
 rw [if_neg h11]
 refine hY (decide_eq_false h11) ?_
 by_cases h12:e.gKind=12
 ·rw [if_pos h12];exact iG (decide_eq_true h12) (jB ((S3 hw i fu).1 e.gType (by omega)) rfl)
 rw [if_neg h12]
 exact hY (decide_eq_false h12) rfl
end
mutual
def xO(w:aF)(i:Int):aG→Int
 | .mk k t n x ty ps qs=>if QY w i (.mk k t n x ty ps qs)=0 then(if BV w i ps=0 then FC w i qs else BV w i ps) else QY w i (.mk k t n x ty ps qs)
def BV(w:aF)(i:Int):List aG→Int
 | []=>0
 |x::r=>if xO w i x=0 then BV w i r else xO w i x
def FC(w:aF)(i:Int):List bA→Int
 | []=>0
 |x::r=>if ao3 w i x=0 then FC w i r else ao3 w i x
def ao3(w:aF)(i:Int):bA→Int
 | .mk _ _ b=>xO w i b
end
theorem Y3(w:aF)(i:Int)(a:bA):ao3 w i a=xO w i a.gBody:=by
 obtain⟨c,v,b⟩:=a
 rw [ao3]
 rfl
theorem TS{w:aF}{i:Int}: ∀ {xs:List aG},BV w i xs=0→ ∀x∈xs,xO w i x=0
 |y::r,h,x,hx=>by
  rw [BV] at h
  by_cases hy:xO w i y=0
  ·rw [if_pos hy] at h
   rcases List.mem_cons.1 hx with rfl|hx
   ·exact hy
   ·exact TS h x hx
  ·rw [if_neg hy] at h
   exact absurd h hy
theorem TR{w:aF}{i:Int}: ∀ {xs:List bA},FC w i xs=0→ ∀x∈xs,xO w i x.gBody=0
 |y::r,h,x,hx=>by
  rw [FC,Y3] at h
  by_cases hy:xO w i y.gBody=0
  ·rw [if_pos hy] at h
   rcases List.mem_cons.1 hx with rfl|hx
   ·exact hy
   ·exact TR h x hx
  ·rw [if_neg hy] at h
   exact absurd h hy
theorem agE{w:aF}{i:Int}{e:aG}(h:xO w i e=0):(∀x∈e.gArgs,xO w i x=0)∧ ∀a∈e.gArms,xO w i a.gBody=0:=by
 obtain⟨k,t,n,x,ty,ps,qs⟩:=e
 rw [xO] at h
 split at h
 ·split at h
  ·rename_i h2
   exact⟨TS h2,TR h⟩
  ·rename_i h2
   exact absurd h h2
 ·rename_i h2
  exact absurd h h2
theorem KJ{β:Type}{F:Nat→Int→Option (LR Int β)}{n:Nat}{c:Int}(hb: ∀i,i<n→F i c=some (.brk c)): ∀k i,n-i=k→loopN F k i c=some (.inr c)
 |0,i,hk=>by rw [loopN]
 |k+1,i,hk=>by rw [loopN,hb i (by omega)]
theorem FT{α:Type}[Inhabited α]{F:Nat→Unit→Option (LR Unit Int)}{l:List α}{g:α→Int}{gl:List α→Int}(h0:gl []=0)(hc: ∀x r,gl (x::r)=if g x=0 then gl r else g x)(hs: ∀i,i<l.length→F i ()=some (if g (aW l i)=0 then .next () else .ret (g (aW l i)))):
 ∀k i,l.length-i=k→loopN F k i ()=some (if gl (l.drop i)=0 then .inr () else .inl (gl (l.drop i)))
 |0,i,hk=>by rw [loopN,List.drop_of_length_le (by omega),h0,if_pos rfl]
 |k+1,i,hk=>by
  have hi:i<l.length:=by omega
  rw [loopN,hs i hi,pR hi,hc]
  by_cases hz:g (aW l i)=0
  ·rw [if_pos hz,if_pos hz]
   exact FT h0 hc hs k (i+1) (by omega)
  ·rw [if_neg hz,if_neg hz,if_neg hz]
section
variable {w:aF} (hw:wt w≤13000000) (i:Int)
include hw
theorem UV: ∀(n:Nat) (e:aG),wt e≤13000000→270000000+wt e<n→lJ n w i e=some (xO w i e)
 |0,e,_,h=>by omega
 |n+1,.mk k t m x ty ps qs,hb,h=>by
  have h2:=aG.wt_mk k t m x ty ps qs
  rw [lJ,xO]
  unfold DQ
  refine jB (alI hw i hb (by omega)) ?_
  generalize hH:QY w i (.mk k t m x ty ps qs)=c
  unfold I0 I1
  simp only [aG.gArgs_mk,aG.gArms_mk]
  by_cases hc:c=0
  ·subst hc
   rw [if_pos rfl]
   refine soR ((DN (l:=ps) (g:=xO w i) (gl:=BV w i) (by rw [BV]) (fun x r=>by rw [BV]) (fun j hj=>by
    have hx:=b7 ps j hj
    unfold vM
    simp only [aG.gArgs_mk]
    exact iG rfl (zZ rfl (jB (UV n (aW ps j) (by omega) (by omega)) rfl))) (fun j c hj hc=>by
    unfold vM
    exact hY (decide_eq_false hc) rfl) _ 0 rfl).trans (by rw [List.drop_zero])) ?_
   generalize hE:BV w i ps=c2
   by_cases hc2:c2=0
   ·subst hc2
    rw [if_pos rfl]
    refine soR ((DN (l:=qs) (g:=fun a=>xO w i a.gBody) (gl:=FC w i) (by rw [FC]) (fun x r=>by rw [FC,Y3]) (fun j hj=>by
     have hx:=b7 qs j hj
     have:=bA.wt_eq (aW qs j)
     unfold sB
     simp only [aG.gArms_mk]
     exact iG rfl (zZ rfl (jB (UV n (aW qs j).gBody (by omega) (by omega)) rfl))) (fun j c hj hc=>by
     unfold sB
     exact hY (decide_eq_false hc) rfl) _ 0 rfl).trans (by rw [List.drop_zero])) rfl
   ·rw [if_neg hc2]
    exact soR (KJ (n:=qs.length) (fun j hj=>by
     unfold sB
     exact hY (decide_eq_false hc2) rfl) _ 0 rfl) rfl
  ·rw [if_neg hc]
   exact soR (KJ (n:=ps.length) (fun j hj=>by
    unfold vM
    exact hY (decide_eq_false hc) rfl) _ 0 rfl) (soR (KJ (n:=qs.length) (fun j hj=>by
    unfold sB
    exact hY (decide_eq_false hc) rfl) _ 0 rfl) rfl)
theorem T4: ∀(n:Nat) (e:aG),wt e≤13000000→270000000+wt e<n→iL n (bS.mk w (sG w i)) e=some (xO w i e)
 |0,e,_,h=>by omega
 |n+1,.mk k t m x ty ps qs,hb,h=>by
  have h2:=aG.wt_mk k t m x ty ps qs
  rw [iL,xO]
  unfold BB
  refine jB (ak0 hw i hb (by omega)) ?_
  generalize hH:QY w i (.mk k t m x ty ps qs)=c
  by_cases hc:c=0
  ·rw [if_pos hc]
   have r1:=FT (F:=zC n (iL n) (bS.mk w (sG w i)) (.mk k t m x ty ps qs) c) (l:=ps) (g:=xO w i) (gl:=BV w i) (by rw [BV]) (fun x r=>by rw [BV]) (fun j hj=>by
    have hx:=b7 ps j hj
    unfold zC
    simp only [aG.gArgs_mk]
    refine zZ rfl (jB (T4 n (aW ps j) (by omega) (by omega)) ?_)
    by_cases hz:xO w i (aW ps j)=0
    ·rw [if_pos hz];exact hY (by rw [decide_eq_true hz];rfl) rfl
    ·rw [if_neg hz];exact iG (by rw [decide_eq_false hz];rfl) rfl) _ 0 rfl
   have r2:=FT (F:=zD n (iL n) (bS.mk w (sG w i)) (.mk k t m x ty ps qs) c) (l:=qs) (g:=fun a=>xO w i a.gBody) (gl:=FC w i) (by rw [FC]) (fun x r=>by rw [FC,Y3]) (fun j hj=>by
    have hx:=b7 qs j hj
    have:=bA.wt_eq (aW qs j)
    unfold zD
    simp only [aG.gArms_mk]
    refine zZ rfl (jB (T4 n (aW qs j).gBody (by omega) (by omega)) ?_)
    by_cases hz:xO w i (aW qs j).gBody=0
    ·rw [if_pos hz];exact hY (by rw [decide_eq_true hz];rfl) rfl
    ·rw [if_neg hz];exact iG (by rw [decide_eq_false hz];rfl) rfl) _ 0 rfl
   rw [List.drop_zero] at r1 r2
   refine hY (by rw [decide_eq_true hc];rfl) ?_
   unfold FK FL
   simp only [aG.gArgs_mk,aG.gArms_mk]
   refine(congrArg (fun o=>so o _) r1).trans ?_
   by_cases h3:BV w i ps=0
   ·rw [if_pos h3,if_pos h3]
    refine soR rfl ?_;refine(congrArg (fun o=>so o _) r2).trans ?_
    by_cases h4:FC w i qs=0
    ·rw [if_pos h4,h4];rfl
    ·rw [if_neg h4];rfl
   ·rw [if_neg h3,if_neg h3];rfl
  ·rw [if_neg hc]
   exact iG (by rw [decide_eq_false hc];rfl) rfl
theorem T5{fu:Nat}(hf:290000000≤fu){e:aG}(he:wt e≤13000000):qX fu w i e=some (xO w i e):=by
 unfold qX uU
 exact jB (xC hw rfl) (jB (T4 hw i fu e he (by omega)) rfl)
end
end Go.Proofs.YtpioomclpaiomaaGreat.W

namespace Go.Proofs.YtpioomclpaiomaaGreat.W
set_option maxRecDepth 20000
set_option maxHeartbeats 4000000
open Go.RowKit Go.WalkArith Go.IntWalk
attribute [local irreducible] wt wl
def afW(fu:Nat):Prop:= ∀(pa0:aG),wt pa0≤268435456→Ok (m3 fu pa0) (fun r=>wt r≤wt pa0)
def JK(n:Nat)(m:n9):Prop:= ∀(pa0:aG),wt pa0<n→wt pa0≤268435456→Ok (m pa0) (fun r=>wt r≤wt pa0)
theorem adF{n fu:Nat}(hfu:2147483648≤fu)(wB:QT fu){r_sl11Copy:n9}(h_sl11Copy:JK n r_sl11Copy):JK (n+1) (K2 fu r_sl11Copy):=by
 intro pa0 hm hpre
 have:=aG.wt_eq pa0
 have:=aB.wt_eq pa0.gType
 refine oB (wB pa0.gType.gArgs bQ) fun x2 h1=>?_
 have:=(aV:wl ([]:List aG)=0∧_)
 refine MW pa0.gArgs 1 (fun i3 v5 hl3 hI4 _ _=>?_) ?_
 ·have:=aY pa0.gArgs
  have:=b7 pa0.gArgs i3 hl3
  refine Ok.lt fun y8 h5=>?_
  have:=congrArg wt h5
  refine oB (h_sl11Copy y8 bQ bQ) fun x11 h6=>?_
  have:=aY (v5)
  have:=cE x11
  refine oG fun z7=>?_
  have:=b6 v5 ([x11]:List aG)
  exact oO
 intro v5 h2
 have:=(aV:wl ([]:List bA)=0∧_)
 refine MW pa0.gArms 1 (fun i13 v15 hl9 hI10 _ _=>?_) ?_
 ·have:=aY pa0.gArms
  have:=b7 pa0.gArms i13 hl9
  refine Ok.lt fun y18 h11=>?_
  have:=congrArg wt h11
  have:=(aV:wl ([]:LB)=0∧_)
  have:=bA.wt_eq y18
  have:=aY (y18.gVars)
  refine oG fun z12=>oB (h_sl11Copy y18.gBody bQ bQ) fun x22 h13=>?_
  have:=aY (v15)
  have:=b6 ([]:LB) y18.gVars
  have:=bA.wt_mk y18.gConstructor (([])++y18.gVars) x22
  have:=cE (bA.mk y18.gConstructor (([])++y18.gVars) x22)
  refine oG fun z14=>?_
  have:=b6 v15 ([(bA.mk y18.gConstructor (([])++y18.gVars) x22)]:List bA)
  exact oO
 intro v15 h8
 have:=aB.wt_mk pa0.gType.gKind pa0.gType.gName x2
 have:=aG.wt_mk pa0.gKind pa0.gTrait pa0.gName pa0.gN (aB.mk pa0.gType.gKind pa0.gType.gName x2) v5 v15
 exact oS
theorem ag1(n:Nat):cH fun fu=>JK n (m3 fu):=by
 induction n with
 |zero=>exact .all fun fu=>fun _ h=>absurd h (Nat.not_lt_zero _)
 |succ n ih=>exact cH.succ ((ih.and ((cH.ge 2147483648).and wB)).imp fun fu ⟨h,⟨hfu,wB⟩⟩=>fun pa0=>by rw [m3];exact adF hfu wB h pa0)
theorem agL:cH afW:=(ag1 8589934592).imp fun fu h pa0 hpre=>h pa0 bQ hpre
end Go.Proofs.YtpioomclpaiomaaGreat.W

namespace Go.Proofs.YtpioomclpaiomaaGreat.W
open Go.RowKit Go.Proofs
attribute [local irreducible] lt wl
theorem anA:cH fun fu=> ∀code:List UInt8,code.length≤1048576→ ∃w i e,rB fu code=some (w,i,e)∧wt w≤13000000∧wt e≤13000000:=
 ((((cH.ge 2147483648).and Q0).and s4).and agL).imp fun fu ⟨⟨⟨hfu,kW⟩,kX⟩,kC⟩ code hb=>by
  obtain⟨⟨w,d⟩,hr,hw⟩:=kW (DS.start code)
  replace hw:wt w≤13000000:=hw
  obtain⟨⟨e,d2⟩,he,he2⟩:=kX d ([eP]:LB) 3 (by
   have:eP.size=1:=rfl
   have:=cE eP
   have:=a9 eP
   omega)
  replace he2:wt e≤bX 3:=he2
  have he3:wt e≤13000000:=Nat.le_trans he2 (by decide)
  unfold rB
  by_cases h1:w.gPackages.length>1
  ·by_cases h2:(aW w.gPackages 1).gFunctions.length>0
   ·by_cases h3:d2.below 2=0
    ·have hB:wt (aW (aW w.gPackages 1).gFunctions 0).gBody≤13000000:=by
      have:=aF.wt_eq w
      have:=b7 w.gPackages 1 (by omega)
      have:=aJ.wt_eq (aW w.gPackages 1)
      have:=b7 (aW w.gPackages 1).gFunctions 0 (by omega)
      have:=aK.wt_eq (aW (aW w.gPackages 1).gFunctions 0)
      omega
     obtain⟨c,hc,hc2⟩:=kC (aW (aW w.gPackages 1).gFunctions 0).gBody (by omega)
     exact⟨_,_,c,xC hb (jB hr (jB he (iG (decide_eq_true (by omega)) (xC (by omega) (zZ rfl (iG (decide_eq_true (by omega)) (zZ rfl (iG (decide_eq_true h3) (xC (by omega) (zZ rfl (jB hc (zZ rfl rfl)))))))))))),hw,Nat.le_trans hc2 hB⟩
    ·exact⟨_,_,e,xC hb (jB hr (jB he (iG (decide_eq_true (by omega)) (xC (by omega) (zZ rfl (iG (decide_eq_true (by omega)) (zZ rfl (hY (decide_eq_false h3) (zZ rfl rfl))))))))),hw,he3⟩
   ·exact⟨_,_,e,xC hb (jB hr (jB he (iG (decide_eq_true (by omega)) (xC (by omega) (zZ rfl (hY (decide_eq_false (by omega)) (zZ rfl rfl))))))),hw,he3⟩
  ·exact⟨_,_,e,xC hb (jB hr (jB he (hY (decide_eq_false (by omega)) (zZ rfl rfl)))),hw,he3⟩
theorem ajG(code:List UInt8): ∃fu,FR fu code=some true:=by
 obtain⟨fu,hfu,kD⟩:=((cH.ge 2147483648).and anA).get
 refine⟨fu,?_⟩
 unfold FR UH
 by_cases hb:code.length≤1048576
 ·refine hY (decide_eq_false (by omega)) ?_
  obtain⟨w,i,e,hd,hw,he⟩:=kD code hb
  refine jB hd (jB (T5 hw i (by omega) he) (jB (UV hw i fu e he (by omega)) (hY (by simp) ?_)))
  by_cases hz:xO w i e=0
  ·have hT:=aG.wt_eq e
   obtain⟨hA,hM⟩:=agE hz
   refine hY (by rw [hz];rfl) ?_
   unfold MS MT
   refine(congrArg (fun x=>so x _) (u1 (n:=e.gArgs.length) (s:=()) (fun k hk=>?_) _ 0 rfl)).trans ?_
   ·have hx:=b7 e.gArgs k hk
    unfold MQ
    refine zZ rfl (jB (T5 hw i (by omega) (by omega)) (hY ?_ rfl))
    rw [hA _ (GQ hk)]
    rfl
   ·refine soR rfl ?_;refine(congrArg (fun x=>so x _) (u1 (n:=e.gArms.length) (s:=()) (fun k hk=>?_) _ 0 rfl)).trans ?_
    ·have hx:=b7 e.gArms k hk
     have:=bA.wt_eq (aW e.gArms k)
     unfold MR
     refine zZ rfl (jB (T5 hw i (by omega) (by omega)) (hY ?_ rfl))
     rw [hM _ (GQ hk)]
     rfl
    ·exact soR rfl rfl
  ·exact iG (by rw [decide_eq_false hz];rfl) (by rw [decide_eq_true rfl])
 ·exact iG (decide_eq_true (by omega)) rfl
theorem amO(code:List UInt8):b4 Tryz.prog 9 [rU code] (pB true):=let⟨fu,h⟩:=ajG code;ZO fu code true h
end Go.Proofs.YtpioomclpaiomaaGreat.W
