/- TypeVariables and BoundIsSmaller, on both sides. Conditions: sizes below 2^40. -/
import Derived.Test.YtoifjkggpanceaaVars
import Derived.Test.YtoifjkggpanceaaReg
namespace Go.Proofs.Ytoifjkggpanceaa
open Go.RowKit Go.Proofs

theorem GType.trs_one (x : GType) : GType.trs [x] = [x.tr] := by rw [GType.trs_map]; rfl
/-- A slice of one struct that has just been made. -/
theorem Rep.single {w : World} {e : List Tr} {cs : List Value} {B : Nat} {E : TypeId} {sz cap : Nat} (h : RepL w e cs) (hB : OB w B E ⟨cs⟩) (hc : 1 ≤ cap) (hm : cap ≤ maxLen) : Rep w (.row sz [e]) (.slice (some ⟨B, 0, none⟩) 1 cap) := by
  refine Rep.row (es := [e]) (fun _ j => (cs[j]?).getD undef) hc hm ?_ ?_
  · intro _
    refine ⟨B, 0, rfl, hB.lt, ?_⟩
    intro i e' he j d hd
    cases i with
    | zero =>
      simp at he; subst he
      obtain ⟨v, hv, -⟩ := h.get hd
      rw [hB.cell]
      simp [hv]
    | succ i => simp at he
  · intro i e' he j d hd
    cases i with
    | zero =>
      simp at he; subst he
      obtain ⟨v, hv, hr⟩ := h.get hd
      simpa [hv] using hr
    | succ i => simp at he

set_option maxRecDepth 100000 in
set_option maxHeartbeats 1000000 in
theorem typeVars_impl (x : GType) (cs : List Value) (w : World) (hr : RepL w x.tr cs) (hsz : GType.size x ≤ 1099511627776) :
    Calls Try.prog 86 #[.agg ⟨cs⟩] w fun e w' => ∃ u, e = .returned u ∧ Ext w w' ∧ Own w' (.row 1 (strTrs x.vars)) u (Between w w') := by
  obtain ⟨c0, c1, c2, rfl⟩ := list3 (hr.length.symm.trans (GType.tr_len x))
  have HR := Lib.hid hr
  clear hr
  go_enter Try.func86, Try.ntmps86
  go_wp2_with (refine wpList_load_rep rfl 32 (.tmp 1) rfl w.heap.size 0 rfl [c0, c1, c2] _ Try.underlying32 isz32 (OB.cells0 (OB.new w _ _)) ?_)
  have h2 := Two.new w 32 32 #[c0, c1, c2] #[c0, c1, c2]
  refine (variablesOf_impl [x] _ _ (by rw [GType.trs_one]; exact Rep.single (HR.out.ext (.alloc (.alloc (.refl _) _) _)) h2.o1 (Nat.le_refl _) (by unfold maxLen; omega)) (by simp only [GType.sizes]; omega)).mono ?_
  rintro e w1 ⟨u, rfl, hw1, ho⟩
  have HW1 := Lib.hid hw1
  have HO := Lib.hid ho
  clear hw1 ho h2
  obtain ⟨ua, uc, rfl, -, -⟩ := HO.out.rep.shape
  go_wp2_with fail
  go_ret
  have hv : (GType.pres [x]).foldl varStep [] = x.vars := by simp [GType.pres, GType.vars]
  have ho := HO.out
  rw [hv] at ho
  refine ⟨_, rfl, .trans (.alloc (.alloc (.refl _) _) _) HW1.out, ?_⟩
  rw [hv]
  exact ho.mono fun b hb => ⟨by have := hb.1; simp only [World.size_alloc] at this; omega, hb.2⟩

set_option maxRecDepth 100000 in
set_option maxHeartbeats 1000000 in
theorem vars_spec (w0 : World) (base : Nat) (h0 : w0.heap.size ≤ base) : ∀ (x : GType) (out : List ByteArray) (v : Value) (U : Nat → Prop) (l : List GType) (cs : List Value) (w : World), RepL w0 x.tr cs → Ext w0 w → Acc 9 base 1 w (strTrs out) v U → base ≤ w.heap.size → OkV out (x.pre ++ l) →
    Calls Try.prog 160 #[.agg ⟨cs⟩, v] w fun e w' => ∃ v', e = .returned v' ∧ AccRun 9 base 1 w v w' (strTrs (x.pre.foldl varStep out)) v' ∧ OkV (x.pre.foldl varStep out) l := by
  refine GType.ind fun v0 v1 xs ih => ?_
  intro out v U l cs w hr hw hacc hbw ho
  obtain ⟨a, c, rfl, -, hn, h3⟩ := GType.opened hr
  obtain ⟨hl, hm, -⟩ := h3.lens
  obtain ⟨va, vc, rfl, -, -⟩ := hacc.shape
  rw [strTrs_len] at *
  have HS := Lib.hid h3
  have IH := Lib.hid ih
  have HA := Lib.hid hacc
  have HW := Lib.hid hw
  have HN := Lib.hid hn
  have ho1 : OkV out (.mk v0 v1 xs :: (GType.pres xs ++ l)) := by simpa only [GType.pre, List.cons_append] using ho
  have HO := Lib.hid ho1
  have hol : out.length ≤ 1099511627776 := by unfold OkV at ho1; omega
  clear hr h3 ih hacc hw hn ho ho1
  simp only [List.cons_append, List.nil_append] at *
  go_enter Try.func160, Try.ntmps160
  go_upto_region 3 with (first
    | (go_at_call 104; refine (l1Has_spec out v1 _ _ (HA.out.ext (.alloc (.refl w) _)).rep).mono ?_; rintro e w' ⟨rfl, rfl⟩)
    | (refine wpList_append_acc rfl (.tmp 16) (.tmp 19) 66 rfl 9 1 16 Try.underlying66 iszc9 (by omega) (by omega) base (strTrs out) out.length (strTrs_len out) (.slice va out.length vc) U rfl ((HA.out.ext (.alloc (.refl w) _)).ext (.alloc (.refl _) _)) [.leaf (.string v1)] [.string v1] (fun _ => False) rfl (OwnL.cons_leaf HN.out (OwnL.nil _ _)) (fun _ _ h => h) (fun _ h => h.elim) (fun _ _ h => h) (w.heap.size + 1) 1 _ rfl (Two.new w _ _ _ _).o1 hol (by simp only [World.size_alloc]; omega) ?_; intro g gc wb hacc hgb hgg hgl; rw [strTrs_snoc] at hacc; have HACC := Lib.hid hacc; have HGB := Lib.hid hgb; have HGG := Lib.hid hgg; clear hacc hgb hgg))
  all_goals first
    | (have hacc := HACC.out; rename_i h1 h2 K1 hK1 K2 hK2; subst h1
       have hz : hasS out v1 = false := by simpa using h2
       have hrun : AccRun 9 base 1 w (.slice va out.length vc) wb (strTrs (out ++ [v1])) (.slice (some ⟨g, 0, none⟩) (out.length + 1) gc) := AccRun.extL (.alloc (.alloc (.refl w) _) _) (fun b hb => (HA.out.blk hb).2) (AccRun.snoc rfl HACC.out HGB.out HGG.out)
       have hne : (Value.slice va out.length vc).ownBlock ≠ some w.heap.size := fun h => by have := (HA.out.blk h).2; omega
       have hbx : OB wb w.heap.size 32 #[.int .i64 1, .string v1, .slice a xs.length c] := ((OB.new w 32 #[.int .i64 1, .string v1, .slice a xs.length c]).ext (.alloc (.refl _) (.cells #[.string v1] 9))).grown_own HGB.out hne
       have hnb : (Value.slice (some ⟨g, 0, none⟩) (out.length + 1) gc).ownBlock ≠ some w.heap.size := by
         intro h
         simp only [Value.ownBlock, Option.some.injEq] at h
         rcases HGG.out with h2 | h2
         · rw [h] at h2; exact hne h2
         · simp only [World.size_alloc] at h2; omega
       have hlen : out.length + 1 = (out ++ [v1]).length := by simp
       have HF : Hid ((GType.pre (.mk 1 v1 xs)).foldl varStep out = (GType.pres xs).foldl varStep (out ++ [v1])) := by show _ = _; rw [GType.pre, List.foldl_cons, varStep_yes hz]
       have HOK : Hid (OkV (out ++ [v1]) (GType.pres xs ++ l)) := by have := OkV.step _ _ _ HO.out; rw [varStep_yes hz] at this; exact this
       rw [hlen] at hrun hnb ⊢
       clear hlen hacc
       generalize out ++ [v1] = o1 at *
       have HJ : Hid (∃ arr, OB wb w.heap.size 32 arr ∧ arr[2]? = some (.slice a xs.length c)) := ⟨_, hbx, rfl⟩
       have HRUN := Lib.hid hrun
       have HNB := Lib.hid hnb
       have hc2 := hbx.cell 2
       clear hrun hbx hnb hz h2 HACC HGB HGG hne hgl)
    | (rename_i h1 h2 K1 hK1 K2 hK2; subst h1
       have hz : hasS out v1 = true := by simpa using h2
       have hrun : AccRun 9 base 1 w (.slice va out.length vc) (w.alloc (.cells #[.int .i64 1, .string v1, .slice a xs.length c] 32)) (strTrs out) (.slice va out.length vc) := (AccRun.refl HA.out).ext (.alloc (.refl w) _)
       have hnb : (Value.slice va out.length vc).ownBlock ≠ some w.heap.size := fun h => by have := (HA.out.blk h).2; omega
       have HF : Hid ((GType.pre (.mk 1 v1 xs)).foldl varStep out = (GType.pres xs).foldl varStep out) := by show _ = _; rw [GType.pre, List.foldl_cons, varStep_no hz]
       have HOK : Hid (OkV out (GType.pres xs ++ l)) := by have := OkV.step _ _ _ HO.out; rw [varStep_no hz] at this; exact this
       have HJ : Hid (∃ arr, OB (w.alloc (.cells #[.int .i64 1, .string v1, .slice a xs.length c] 32)) w.heap.size 32 arr ∧ arr[2]? = some (.slice a xs.length c)) := ⟨_, OB.new w _ _, rfl⟩
       have HRUN := Lib.hid hrun
       have HNB := Lib.hid hnb
       clear hrun hnb hz h2)
    | (rename_i h1 K1 hK1 K2 hK2
       have hrun : AccRun 9 base 1 w (.slice va out.length vc) (w.alloc (.cells #[.int .i64 v0, .string v1, .slice a xs.length c] 32)) (strTrs out) (.slice va out.length vc) := (AccRun.refl HA.out).ext (.alloc (.refl w) _)
       have hnb : (Value.slice va out.length vc).ownBlock ≠ some w.heap.size := fun h => by have := (HA.out.blk h).2; omega
       have HF : Hid ((GType.pre (.mk v0 v1 xs)).foldl varStep out = (GType.pres xs).foldl varStep out) := by show _ = _; rw [GType.pre, List.foldl_cons, varStep_kind h1]
       have HOK : Hid (OkV out (GType.pres xs ++ l)) := by have := OkV.step _ _ _ HO.out; rw [varStep_kind h1] at this; exact this
       have HJ : Hid (∃ arr, OB (w.alloc (.cells #[.int .i64 v0, .string v1, .slice a xs.length c] 32)) w.heap.size 32 arr ∧ arr[2]? = some (.slice a xs.length c)) := ⟨_, OB.new w _ _, rfl⟩
       have HRUN := Lib.hid hrun
       have HNB := Lib.hid hnb
       clear hrun hnb h1)
  all_goals
    have HVB : Hid (∀ b, (Value.slice va out.length vc).ownBlock = some b → w0.heap.size ≤ b) := fun b hb => by have := (HA.out.blk hb).1; omega
    go_wp2_with fail
    go_loopw [1, 5] (fun v i wr => ∃ (k : Nat) (o : List ByteArray) (a' : Option Addr) (c' : Nat), k ≤ xs.length ∧ i = .int .i64 k ∧ v = .slice a' o.length c' ∧ Hid (AccRun 9 base 1 w (.slice va out.length vc) wr (strTrs o) (.slice a' o.length c')) ∧ Hid (∃ arr, OB wr w.heap.size 32 arr ∧ arr[2]? = some (.slice a xs.length c)) ∧ Hid ((Value.slice a' o.length c').ownBlock ≠ some w.heap.size) ∧ Hid ((GType.pres (xs.drop k)).foldl varStep o = (GType.pre (.mk _ v1 xs)).foldl varStep out) ∧ Hid (OkV o (GType.pres (xs.drop k) ++ l))) (fun _ i _ => xs.length - (intOf i).toNat)
    case atStart => exact ⟨0, _, _, _, Nat.zero_le _, rfl, rfl, HRUN.out, HJ.out, HNB.out, HF.out.symm, HOK.out⟩
    case round =>
      obtain ⟨k, o, a', c', hk, rfl, rfl, HR1, HJ1, HN1, HF1, HO1⟩ := hrel
      obtain ⟨arr, hob, harr⟩ := HJ1.out
      have hce := (hob.cell 2).trans harr
      have HOB := Lib.hid hob
      have hwr : Ext w0 wr := HR1.out.old HW.out HVB.out
      clear hob
      by_cases hlt : k < xs.length
      · obtain ⟨b, off, cs, rfl, hb, hcs, hc⟩ := HS.out.at2 (k := k) (GType.trs_get hlt)
        have HM := Lib.hid (List.getElem_mem hlt)
        have HCS := Lib.hid hcs
        have HC := Lib.hid (cells_ext hwr hb hc)
        have HI : Hid ((Try.prog.info? 32).map (·.size) = some cs.length) := by rw [← hcs.length, GType.tr_len]; exact isz32
        have HCL : Hid (cs.length = 3) := by rw [← hcs.length, GType.tr_len]; rfl
        clear hcs hc
        have HPS := Lib.hid (GType.pres_step hlt)
        have HWR := Lib.hid hwr
        obtain ⟨U1, hu1⟩ := HR1.out.acc
        have HU1 := Lib.hid hu1
        clear hwr hu1
        go_wp2_with (refine wpList_load_rep rfl 32 (.tmp 31) rfl b (off + k * 3) rfl cs _ Try.underlying32 HI.out HC.out ?_)
        refine (IH.out _ HM.out o _ U1 (GType.pres (xs.drop (k + 1)) ++ l) cs wr HCS.out HWR.out HU1.out (Nat.le_trans hbw HR1.out.chg.size) (by have := HO1.out; rw [HPS.out, List.append_assoc] at this; exact this)).mono ?_
        rintro e w1 ⟨v', rfl, hrun', hok'⟩
        obtain ⟨hob', hnb'⟩ := hrun'.ob HOB.out HN1.out
        obtain ⟨U2, hu2⟩ := hrun'.acc
        obtain ⟨a2, c2, rfl, -, -⟩ := hu2.shape
        have HR2 := Lib.hid (HR1.out.trans hrun')
        have HOB2 := Lib.hid hob'
        have HNB2 := Lib.hid hnb'
        have HOK2 := Lib.hid hok'
        clear hrun' hok' hob' hnb' hu2
        rw [strTrs_len] at *
        go_wp2_with fail
        go_roundw
        case rel => exact ⟨k + 1, _, _, _, by omega, by go_num, rfl, HR2.out, ⟨arr, HOB2.out, harr⟩, HNB2.out, by have := HF1.out; rw [HPS.out, List.foldl_append] at this; exact this, HOK2.out⟩
        case measure => simp [intOf]; omega
      · have hkl : k = xs.length := by omega
        go_wp2_with fail
        go_ret
        have h5 := HF1.out
        have h6 := HO1.out
        rw [hkl, List.drop_length] at h5 h6
        simp only [GType.pres, List.foldl_nil, List.nil_append] at h5 h6
        rw [← h5]
        exact ⟨_, rfl, HR1.out, h6⟩

set_option maxRecDepth 100000 in
set_option maxHeartbeats 1000000 in
theorem typeVars_spec (x : GType) (cs : List Value) (w : World) (hr : RepL w x.tr cs) (hsz : GType.size x ≤ 1099511627776) :
    Calls Try.prog 82 #[.agg ⟨cs⟩] w fun e w' => ∃ u, e = .returned u ∧ Ext w w' ∧ Own w' (.row 1 (strTrs x.vars)) u (Between w w') := by
  have HR := Lib.hid hr
  have HL : Hid (cs.length = 3) := by rw [← hr.length, GType.tr_len]; rfl
  have HI : Hid ((Try.prog.info? 32).map (·.size) = some cs.length) := by rw [HL.out]; exact isz32
  clear hr
  go_enter Try.func82, Try.ntmps82
  go_wp2_with (refine wpList_load_rep rfl 32 (.tmp 1) rfl w.heap.size 0 rfl cs _ Try.underlying32 HI.out (OB.cells0 (OB.new w _ _)) ?_)
  have hacc : Acc 9 w.heap.size 1 ((w.alloc (.cells ⟨cs⟩ 32)).alloc (.cells #[] 9)) (strTrs []) (.slice (some ⟨w.heap.size + 1, 0, none⟩) 0 0) (fun _ => False) := Acc.empty (by omega) (Two.new w 32 9 ⟨cs⟩ #[]).o1 (by unfold maxLen; omega) rfl
  have hok : OkV [] (x.pre ++ []) := by unfold OkV; rw [List.append_nil, GType.pre_length]; simpa using hsz
  refine (vars_spec w w.heap.size (Nat.le_refl _) x [] _ _ [] cs _ HR.out (.alloc (.alloc (.refl w) _) _) hacc (by simp only [World.size_alloc]; omega) hok).mono ?_
  rintro e w1 ⟨v', rfl, hrun, -⟩
  obtain ⟨U, hu⟩ := hrun.acc
  obtain ⟨a2, c2, rfl, -, -⟩ := hu.shape
  have HX := Lib.hid (hrun.old (.alloc (.alloc (.refl w) _) _) (fun b hb => (hacc.blk hb).1))
  have HU := Lib.hid hu
  clear hrun hu hacc hok
  go_wp2_with fail
  go_ret
  exact ⟨_, rfl, HX.out, HU.out.wide.own⟩

end Go.Proofs.Ytoifjkggpanceaa
