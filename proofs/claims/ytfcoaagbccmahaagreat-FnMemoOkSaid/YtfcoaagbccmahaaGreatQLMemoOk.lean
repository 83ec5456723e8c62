/- FnMemoOk returns true for every input, and leaves what was there as it was. No conditions. -/
import Derived.Test.YtfcoaagbccmahaaGreatQh54a11698
import Derived.Test.YtfcoaagbccmahaaGreatRows
import Derived.OpenShut
import Derived.ShutString
import Derived.ChangeOld
import Derived.Test.YtfcoaagbccmahaaGreatQJMemoOk
set_option linter.unusedSimpArgs false
set_option linter.unusedVariables false
namespace Go.Proofs.YtfcoaagbccmahaaGreat.fnMemoOkDone
open Go.Proofs Go.Proofs.YtfcoaagbccmahaaGreat Go.ChangeShapes Go.WideShapes Go.ChangeAt Go.RowKit
open Go.ChangeMaps (open_string shut_string)
def plainBytes:List TypeId:= [5,22]
theorem plainBytesClosed:VM Tryz.prog plainBytes=true:=by kernel_rfl
theorem cellsOf5:Tryz.prog.cellsOf 5=1:=by kernel_rfl
theorem law_FnMemoOk(w:World)(x0:List UInt8)(s0:Value)(hr0:M1 w (.row 1 (l6 x0)) s0):Calls Tryz.prog 6 #[s0] w fun e w'=>e= .returned (.bool true)∧Below w.heap.size w w':=
 (W.arE x0).plain (.cons (RV0.t hr0) .nil)
set_option linter.unusedVariables false
theorem own:ownKnob Tryz.prog.godebug=none:=by kernel_rfl
theorem laidOut:laidOutB Tryz.prog=true:=by kernel_rfl
set_option maxRecDepth 100000 in
theorem lifted(os:Os)(started:os.Started)(H:Type)(enc:TypeId×Value→H):
 ReturnsInHanded {} Tryz.checked os 6 .any (Rows.fnMemoOkSpec.pre6 enc Tryz.prog Tryz.f6 Rows.fnMemoOkRow.domain false) (Rows.fnMemoOkSpec.post enc Tryz.prog Tryz.f6 false true false false):=by
 refine returnsInHanded_of_change (C:=Tryz.checked) own started (by kernel_rfl) Tryz.func6
  (ChangeSpec.witness6 (enc:=enc) (C:=Tryz.checked) false ⟨#[],#[.slice none 0 0],[]⟩ 8 (by kernel_rfl) (by kernel_rfl) (by kernel_rfl) (by kernel_rfl)) ?_
 intro W base args ds gs before hval0 hW hcnd _
 have hval: ∀(j:Nat) t v,Tryz.f6.params[j]?=some t→args[j]?=some v→Value.okWide Tryz.prog W .any base t v:=hval0
 have hW':=hW
 obtain⟨p,q,hA0,hV,rfl,hfz,hnd⟩:=hW
 have hA:DataW.TrodAll enc Tryz.prog W 0 (fun _=>true) true Tryz.f6.params.toList args.toList ds p:=hA0
 rw [Tryz.params6] at hA hval
 obtain⟨v0,vs0,d0,ds0,p0,q0,hargs,rfl,rfl,h0,r0⟩:=trodAll_cons hA
 obtain⟨rfl,rfl,rfl⟩:=trodAll_nil r0
 obtain rfl:args= #[v0]:=by cases args;simp_all
 obtain⟨rfl,rfl⟩:=trodVars_none hV
 have k0:=h0
 have lt0: ∀x∈p0,x.block<W.heap.size:=by obtain⟨m,hm⟩:=k0;exact DataW.trod_lt m _ _ _ hm
 obtain⟨a0,len0,cap0,rfl⟩:=okWide_slice Tryz.underlying22 (hval 0 22 v0 rfl rfl)
 obtain⟨fu0,hf0⟩:=h0
 obtain⟨ts0,ty0,rp0,-⟩:=ahT plainBytesClosed fu0 22 _ _ (by decide) hf0
 obtain⟨es0,rfl,me0⟩:=ty0.slice_inv Tryz.underlying22
 obtain⟨y0,rfl⟩:=apH (tr:=fun s=> [Tr.leaf (.int .u8 s)]) (es:=es0) fun e he=>(me0 e he).int_inv Tryz.underlying5
 rw [cellsOf5] at rp0
 obtain⟨x0,hx0⟩:=as9 rp0.1
 rw [hx0] at rp0
 clear hA0 hval0
 refine(law_FnMemoOk W x0 _ rp0.1).mono fun e W' ⟨he,bel⟩=>?_
 subst he
 exact⟨_,rfl,_,_,_,[],_,[],hW',trodAll_mk1 (shut_bool Tryz.underlying4 _),(trodAll_cons_mk (Below.trod laidOut (by kernel_rfl) (of_decide_eq_true (by kernel_rfl)) k0 bel lt0) trodAll_mk0),rfl,bel.frame _,fun h=>by cases h⟩
theorem over:Rows.fnMemoOkRow.holds Tryz.pinned (OpenSpec.ofChange Rows.fnMemoOkSpec):=
 OpenClaim.holds_of_wide 6 Tryz.f6 rfl rfl rfl rfl rfl rfl rfl ⟨rfl,rfl,rfl,rfl,rfl⟩ rfl rfl rfl rfl rfl fnNamed Tryz.func6 factsJoin (of_decide_eq_true (by kernel_rfl)) wrapper
  (fun os started H enc _=>lifted os started H enc)
theorem proved:Rows.FnMemoOkSaid:=over
#print axioms proved
end Go.Proofs.YtfcoaagbccmahaaGreat.fnMemoOkDone
