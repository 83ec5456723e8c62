/- Words, rules and walks of several kinds, laid together: AssumP, MaInst, PlInst, PlAssum, AssumB, MarksT, MarksA. No conditions but those that each theorem states. -/
import Derived.Test.YtnakkelglbcecaaGreatQh11c4fea4
import Derived.Test.YtnakkelglbcecaaGreatQh3fedf622
import Derived.Test.YtnakkelglbcecaaGreatQhed7a0d23
import Derived.Test.YtnakkelglbcecaaGreatQh38f16fd3
import Derived.Test.YtnakkelglbcecaaGreatQh2288c63d
import Derived.WalkArith
set_option linter.unusedSimpArgs false
set_option linter.unusedVariables false
namespace Go.Proofs.YtnakkelglbcecaaGreat
open Go.RowKit Go.Proofs

def asmOf (w : GProgram) (b : GBound) (i : Nat) : List GAssumption := .mk (.mk b.gTrait b.gType) (i : Int) [] :: (w.supers b.gTrait).map fun s => .mk (.mk s b.gType) (i : Int) (oPath (pathF w 8 b.gTrait s))
def GProgram.asms (w : GProgram) (l : List GBound) (k : Nat) : List GAssumption := (List.range' 0 k).flatMap fun i => asmOf w (atD l i) i
theorem GProgram.asms_succ (w : GProgram) (l : List GBound) (k : Nat) : w.asms l (k + 1) = w.asms l k ++ asmOf w (atD l k) k := by
  unfold GProgram.asms
  rw [List.range'_1_concat, List.flatMap_append, Nat.zero_add]
  simp
theorem asmOf_len (w : GProgram) (b : GBound) (i : Nat) : (asmOf w b i).length ≤ 1 + w.allSup.length := by
  have := supers_len w b.gTrait
  simp only [asmOf, List.length_cons, List.length_map]
  omega
theorem GProgram.asms_len (w : GProgram) (l : List GBound) : ∀ k, (w.asms l k).length ≤ k * (1 + w.allSup.length)
  | 0 => by simp [GProgram.asms]
  | k + 1 => by
    rw [w.asms_succ, List.length_append, Nat.add_mul]
    have h1 := w.asms_len l k
    have h2 := asmOf_len w (atD l k) k
    omega
theorem asmOf_next (w : GProgram) (b : GBound) (i j : Nat) (h : j < (w.supers b.gTrait).length) : (asmOf w b i).take (j + 1) ++ [.mk (.mk (w.supers b.gTrait)[j] b.gType) (i : Int) (oPath (pathF w 8 b.gTrait (w.supers b.gTrait)[j]))] = (asmOf w b i).take (j + 1 + 1) := by
  unfold asmOf
  rw [List.take_succ_cons, List.take_succ_cons, List.cons_append, ← List.map_take, ← List.map_take, List.take_succ_eq_append_getElem h, List.map_append]
  rfl
theorem asmOf_all (w : GProgram) (b : GBound) (i : Nat) : (asmOf w b i).take ((w.supers b.gTrait).length + 1) = asmOf w b i := by
  refine List.take_of_length_le ?_
  simp [asmOf]
theorem GAssumption.snoc (l : List GAssumption) (x : GAssumption) : GAssumption.trs l ++ [x.tr] = GAssumption.trs (l ++ [x]) := by rw [GAssumption.trs_map, GAssumption.trs_map, List.map_append]; rfl
theorem GAssumption.tr_own {w : World} {s : ByteArray} {ty : GType} {i : Int} {p : List Int} {q0 q1 q2 v : Value} {S1 S2 T : Nat → Prop} (hs : s.size ≤ maxLen) (hi : (Lit.int .i64 i).wf = true) (h1 : OwnL w ty.tr [q0, q1, q2] S1) (h2 : Own w (.row 1 (intTrs p)) v S2) (hd : ∀ x, S1 x → S2 x → False) (hT1 : ∀ x, S1 x → T x) (hT2 : ∀ x, S2 x → T x) :
    OwnL w (GAssumption.mk (.mk s ty) i p).tr [.string s, q0, q1, q2, .int .i64 i, v] T := by
  have h3 := OwnL.cons_leaf (v := .string s) hs (OwnL.append h1 (OwnL.cons_leaf (v := .int .i64 i) hi (OwnL.one h2)) hd)
  have h4 := h3.mono (S' := T) fun x hx => hx.elim (hT1 x) (hT2 x)
  simpa [GAssumption.tr, GBound.tr] using h4

theorem Own.nilInt (w : World) : Own w (.row 1 (intTrs [])) (.slice none 0 0) (fun _ => False) := Own.row (es := []) (fun _ _ => undef) (fun _ _ _ => False) (by simp) (by unfold maxLen; omega) (by simp) (by simp) (by simp) (by simp)
theorem asmOf_lenS (w : GProgram) (b : GBound) (i : Nat) : (asmOf w b i).length = (w.supers b.gTrait).length + 1 := by simp [asmOf]
set_option maxRecDepth 100000 in
set_option maxHeartbeats 4000000 in
theorem assumP_impl (x0 : GProgram) (l : List GBound) (w : World) (c0 : List Value) (s : Value) (h0 : RepL w x0.tr c0) (hs : Rep w (.row 4 (GBound.trs l)) s) (hb0 : x0.allSup.length ≤ 1099511627776) (hl0 : l.length ≤ 1099511627776) (hlen : l.length * (1 + x0.allSup.length) ≤ 1099511627776) (hbk : ∀ b ∈ l, Tr.bulkL b.gType.tr ≤ 68719476736) :
    Calls Tryz.prog 53 #[.agg ⟨c0⟩, s] w fun e w' => ∃ v, e = .returned v ∧ Ext w w' ∧ Own w' (.row 6 (GAssumption.trs (x0.asms l l.length))) v (Between w w') := by
  obtain ⟨a, cap, rfl, hl, hm⟩ := hs.shape
  rw [GBound.trs_len] at *
  unfold maxLen at hm
  have HI0 : Hid ((Tryz.prog.info? 31).map (·.size) = some c0.length) := by rw [← h0.length, GProgram.tr_len]; exact isz31
  have H0 := Lib.hid h0
  have HS := Lib.hid hs
  have HBK := Lib.hid hbk
  have HB0 := Lib.hid hb0
  have HLN : Hid (∀ k, k ≤ l.length → (x0.asms l k).length ≤ 1099511627776) := fun k hk => Nat.le_trans (x0.asms_len l k) (Nat.le_trans (Nat.mul_le_mul_right _ hk) hlen)
  clear h0 hs hb0 hlen hbk
  go_enter Tryz.func53, Tryz.ntmps53
  go_wp2_with fail
  have hob0 := (OB.new w 31 ⟨c0⟩).ext (Ext.alloc (.refl _) (.cells #[] 147))
  have ha0 : Acc 147 (w.heap.size + 1) 6 ((w.alloc (.cells ⟨c0⟩ 31)).alloc (.cells #[] 147)) (GAssumption.trs (x0.asms l 0)) (.slice (some ⟨w.heap.size + 1, 0, none⟩) 0 0) (fun _ => False) := by
    have h1 := OB.new (w.alloc (.cells ⟨c0⟩ 31)) 147 #[]
    simp only [World.size_alloc] at h1
    exact Acc.empty (Nat.le_refl _) h1 (by unfold maxLen; omega) rfl
  have HOB0 := Lib.hid hob0
  have HA0 := Lib.hid ha0
  clear hob0 ha0
  go_loopw [5, 15] (fun v i wr => ∃ (k : Nat) (a' : Option Addr) (c' : Nat), k ≤ l.length ∧ i = .int .i64 k ∧ v = .slice a' (x0.asms l k).length c' ∧ Hid (Ext w wr) ∧ w.heap.size + 1 < wr.heap.size ∧ Hid (OB wr w.heap.size 31 ⟨c0⟩) ∧ Hid (∃ U, Acc 147 (w.heap.size + 1) 6 wr (GAssumption.trs (x0.asms l k)) (.slice a' (x0.asms l k).length c') U)) (fun _ i _ => l.length - (intOf i).toNat)
  case atStart => exact ⟨0, _, _, Nat.zero_le _, rfl, rfl, .alloc (.alloc (.refl _) _) _, by simp only [World.size_alloc]; omega, HOB0.out, ⟨_, HA0.out⟩⟩
  case round =>
    obtain ⟨k, a', c', hk, rfl, rfl, HW, hwz, HOB, HA⟩ := hrel
    obtain ⟨wo, hwo⟩ : ∃ x, x = wr := ⟨_, rfl⟩
    subst hwo
    have hw := HW.out
    by_cases hlt : k < l.length
    · obtain ⟨b, off, cs, rfl, hb, hcs, hc⟩ := HS.out.at2 (k := k) (GBound.trs_get hlt)
      have HM := Lib.hid (List.getElem_mem hlt)
      have HCS := Lib.hid hcs
      have HC := Lib.hid (cells_ext hw hb hc)
      have HI : Hid ((Tryz.prog.info? 49).map (·.size) = some cs.length) := by rw [← hcs.length, GBound.tr_len]; exact isz49
      have HCL : Hid (cs.length = 4) := by rw [← hcs.length, GBound.tr_len]; rfl
      clear hcs hc
      have HBX : Hid (Tr.bulkL (l[k]).gType.tr ≤ 68719476736) := HBK.out _ HM.out
      have HSU : Hid (x0.asms l (k + 1) = x0.asms l k ++ asmOf x0 l[k] k) := by show _ = _; rw [x0.asms_succ, atD_eq hlt]
      have HL1 : Hid ((x0.asms l k ++ asmOf x0 l[k] k).length ≤ 1099511627776) := by show _ ≤ _; rw [← HSU.out]; exact HLN.out (k + 1) hlt
      have hk0 : (0 : Int) ≤ (k : Int) := by omega
      have HKW : Hid ((Lit.int .i64 (k : Int)).wf = true) := WalkArith.wf_i64 (by omega)
      clear HM
      generalize l[k] = x at *
      obtain ⟨tn, ty⟩ := x
      simp only [GBound.gType_mk, GBound.gTrait_mk] at *
      obtain ⟨U, hu⟩ := HA.out
      have HU := Lib.hid hu
      clear hu HA
      go_wp2_with (first
        | (refine wpList_load_rep rfl 49 (.tmp 18) rfl b (off + k * 4) rfl cs _ Tryz.underlying49 HI.out HC.out ?_)
        | (refine wpList_store_rep rfl 49 (.tmp 7) (.tmp 19) rfl wo.heap.size 0 rfl cs rfl 49 _ (OB.new wo _ _) HI.out (by rw [HCL.out]; exact Nat.le_refl _) HCS.out.one ?_; intro wb hob hgb hzb; rw [splice_whole (by rw [HCL.out]; rfl)] at hob; obtain ⟨y1, rfl, k0, h1⟩ := GBound.opened HCS.out; have HX1 := Lib.hid h1; have HTN := Lib.hid k0; obtain ⟨d0, d1, d2, rfl⟩ := list3 (h1.length.symm.trans (GType.tr_len ty)); clear h1 k0; simp only [List.cons_append, List.nil_append] at hob; have HOBV := Lib.hid hob; have HXB := Lib.hid (grown_ext (.alloc (.refl wo) _) hgb (Nat.le_refl _)); have hzw : wo.heap.size < wb.heap.size := hob.lt; clear hob hgb hzb))
      have HXW := Lib.hid (HW.out.trans HXB.out)
      have HTL : Hid ((GAssumption.trs (x0.asms l k)).length = (x0.asms l k).length) := GAssumption.trs_len _
      have HN1 : Hid ((x0.asms l k).length + (asmOf x0 (.mk tn ty) k).length ≤ 1099511627776) := by have := HL1.out; rwa [List.length_append] at this
      have hn0 : (x0.asms l k).length ≤ 1099511627776 := by have := HN1.out; omega
      have HXW5 : Hid (Ext w wb.drew) := HXW.out.trans (.drew (.refl _))
      have HVW5 : Hid (OB wb.drew wo.heap.size 49 ⟨[.string tn, d0, d1, d2]⟩) := HOBV.out.ext (.drew (.refl _))
      have HPW5 : Hid (OB wb.drew w.heap.size 31 ⟨c0⟩) := HOB.out.ext (HXB.out.trans (.drew (.refl _)))
      refine wp_region_held_drew (S := fun W => Ext w W ∧ OB W wo.heap.size 49 ⟨[.string tn, d0, d1, d2]⟩ ∧ OB W w.heap.size 31 ⟨c0⟩) (by kernel_rfl) ?_ (fun hHeld => ?_)
      · exact ⟨HXW5.out, HVW5.out, HPW5.out⟩
      refine wpAnyH_take (i := 0) rfl (by kernel_rfl) (by kernel_rfl) (by kernel_rfl) (fun _ _ _ h => h) (.inl ⟨rfl, fun _ _ => rfl⟩) (by assumption) ?_
      simp only [Act.put, List.getElem_toArray, List.getElem_cons_zero, List.setIfInBounds_toArray, List.set_cons_zero, List.set_cons_succ]
      refine wpAnyH_take (i := 1) rfl (by kernel_rfl) (by kernel_rfl) (by kernel_rfl) (fun _ _ _ h => h) (.inl ⟨rfl, fun _ _ => rfl⟩) (by assumption) ?_
      simp only [Act.put, List.getElem_toArray, List.getElem_cons_zero, List.getElem_cons_succ, List.setIfInBounds_toArray, List.set_cons_zero, List.set_cons_succ]
      refine wpAnyH_cell (i := 2) rfl (by kernel_rfl) (by kernel_rfl) (by kernel_rfl) rfl 9 (.tmp 21) rfl (wo.heap.size) (0) rfl (.string tn) _ Tryz.underlying9 rfl (fun W hW => by rw [hW.2.1.cell]; rfl) (by assumption) (fun _ _ _ _ h => h) ?_
      simp only [Act.put, List.getElem_toArray, List.getElem_cons_zero, List.getElem_cons_succ, List.setIfInBounds_toArray, List.set_cons_zero, List.set_cons_succ]
      refine wpAnyH_take (i := 3) rfl (by kernel_rfl) (by kernel_rfl) (by kernel_rfl) (fun _ _ _ h => h) (.inl ⟨rfl, fun _ _ => rfl⟩) (by assumption) ?_
      simp only [Act.put, List.getElem_toArray, List.getElem_cons_zero, List.getElem_cons_succ, List.setIfInBounds_toArray, List.set_cons_zero, List.set_cons_succ]
      refine wpAnyH_load_rep (i := 4) rfl (by kernel_rfl) (by kernel_rfl) (by kernel_rfl) (fun _ _ _ h => h) rfl 47 (.tmp 23) rfl (wo.heap.size) (1) rfl [d0, d1, d2] _ Tryz.underlying47 isz47 (fun W hW j u hu => by rw [hW.2.1.cell]; rcases j with _ | _ | _ | j <;> first | (simp at hu; done) | simpa using hu) (by assumption) (fun _ _ _ _ h => h) ?_
      simp only [Act.put, List.getElem_toArray, List.getElem_cons_zero, List.getElem_cons_succ, List.setIfInBounds_toArray, List.set_cons_zero, List.set_cons_succ]
      refine wpAnyH_take (i := 7) rfl (by kernel_rfl) (by kernel_rfl) (by kernel_rfl) (fun _ _ _ h => h) (.inl ⟨rfl, fun _ _ => rfl⟩) (by assumption) ?_
      simp only [Act.put, List.getElem_toArray, List.getElem_cons_zero, List.getElem_cons_succ, List.setIfInBounds_toArray, List.set_cons_zero, List.set_cons_succ]
      refine wpAnyH_call (i := 5) (by kernel_rfl) rfl rfl (run_call_func rfl rfl #[.agg ⟨[d0, d1, d2]⟩] (by simp only [List.map_toArray, List.map_cons, List.map_nil, Act.eval]; rfl) Tryz.func111 (by kernel_rfl) (by kernel_rfl) _) (copyType_impl ty _ _ (HX1.out.ext HXW5.out) HBX.out) ?_; rintro e w4 ⟨ct, rfl, hwt, hot⟩
      have hs1 := (⟨hHeld.1.trans hwt, hHeld.2.1.ext hwt, hHeld.2.2.ext hwt⟩ : Ext w w4 ∧ OB w4 wo.heap.size 49 ⟨[.string tn, d0, d1, d2]⟩ ∧ OB w4 w.heap.size 31 ⟨c0⟩)
      refine ⟨_, rfl, hs1, ?_⟩
      obtain ⟨q0, q1, q2, rfl⟩ := list3 (hot.1.trans (GType.tr_len ty))
      have HWw4 := Lib.hid hwt
      have HOw4 := Lib.hid hot
      have hzw4 : wb.heap.size ≤ w4.heap.size := hwt.size
      clear hwt hot
      simp only [Act.put, List.getElem_toArray, List.getElem_cons_zero, List.getElem_cons_succ, List.setIfInBounds_toArray, List.set_cons_zero, List.set_cons_succ]
      refine wpAnyH_take (i := 6) (v := .agg ⟨[.string tn, q0, q1, q2]⟩) rfl (by kernel_rfl) (by kernel_rfl) (by kernel_rfl) (fun _ _ _ h => h) (.inl ⟨rfl, fun _ _ => by simp [execOp, go_sem]⟩) (by assumption) ?_
      simp only [Act.put, List.getElem_toArray, List.getElem_cons_zero, List.getElem_cons_succ, List.setIfInBounds_toArray, List.set_cons_zero, List.set_cons_succ]
      refine wpAnyH_take (i := 8) (v := .agg ⟨[.string tn, q0, q1, q2, .int .i64 k, .slice none 0 0]⟩) rfl (by kernel_rfl) (by kernel_rfl) (by kernel_rfl) (fun _ _ _ h => h) (.inl ⟨rfl, fun _ _ => by simp [execOp, go_sem]⟩) (by assumption) ?_
      simp only [Act.put, List.getElem_toArray, List.getElem_cons_zero, List.getElem_cons_succ, List.setIfInBounds_toArray, List.set_cons_zero, List.set_cons_succ]
      have hs2 := (⟨hs1.1.trans (.alloc (.refl _) _), hs1.2.1.ext (.alloc (.refl _) _), hs1.2.2.ext (.alloc (.refl _) _)⟩ : Ext w (w4.alloc (.cells #[.string tn, q0, q1, q2, .int .i64 k, .slice none 0 0] 147)) ∧ OB (w4.alloc (.cells #[.string tn, q0, q1, q2, .int .i64 k, .slice none 0 0] 147)) wo.heap.size 49 ⟨[.string tn, d0, d1, d2]⟩ ∧ OB (w4.alloc (.cells #[.string tn, q0, q1, q2, .int .i64 k, .slice none 0 0] 147)) w.heap.size 31 ⟨c0⟩)
      refine wpAnyH_run (i := 9) (v := .slice (some ⟨w4.heap.size, 0, none⟩) 1 1) (w' := (w4.alloc (.cells #[.string tn, q0, q1, q2, .int .i64 k, .slice none 0 0] 147))) (by kernel_rfl) rfl rfl (by simp [execOp, go_sem]) hs2 ?_
      simp only [Act.put, List.getElem_toArray, List.getElem_cons_zero, List.getElem_cons_succ, List.setIfInBounds_toArray, List.set_cons_zero, List.set_cons_succ]
      refine wpAnyH_append_acc (i := 10) (by kernel_rfl) rfl rfl (.tmp 20) (.tmp 29) 80 rfl 147 6 96 Tryz.underlying80 iszc147 (by omega) (by omega) (w.heap.size + 1) (GAssumption.trs (x0.asms l k)) ((x0.asms l k).length) HTL.out (.slice a' (x0.asms l k).length c') U rfl (Acc.ext (HU.out.ext (HXB.out.trans (Ext.trans (.drew (.refl _)) HWw4.out))) (.alloc (.refl _) _)) (GAssumption.mk (.mk tn ty) k []).tr [.string tn, q0, q1, q2, .int .i64 k, .slice none 0 0] (fun b => wo.heap.size ≤ b ∧ b < w4.heap.size) (GAssumption.tr_len _) (OwnL.ext (GAssumption.tr_own HTN.out HKW.out HOw4.out (Own.nilInt _) (fun _ _ h => h) (fun x hx => ⟨Nat.le_trans (Nat.le_of_lt hzw) hx.1, hx.2⟩) (fun _ h => h.elim)) (.alloc (.refl _) _)) (fun b h1 h2 => by have := (HU.out.lt b h1).2; have := h2.1; omega) (fun b h => by have h1 := h.1; have h2 := h.2; simp only [World.size_alloc]; exact ⟨by omega, by omega⟩) (fun b h1 h2 => by have := (HU.out.blk h1).2; have := h2.1; omega) w4.heap.size 1 147 rfl (OB.new w4 _ _) (by omega) (by simp only [World.size_alloc]; omega) ?_; intro gw5 gcw5 w5 hacc hgb hgg hgl
      have hs3 := (⟨grown_ext_own hs2.1 hgb (fun b hb => by have := (HU.out.blk hb).1; omega), OB.grown_own hs2.2.1 hgb (fun h => by have := (HU.out.blk h).2; omega), OB.grown_own hs2.2.2 hgb (fun h => by have := (HU.out.blk h).1; omega)⟩ : Ext w w5 ∧ OB w5 wo.heap.size 49 ⟨[.string tn, d0, d1, d2]⟩ ∧ OB w5 w.heap.size 31 ⟨c0⟩)
      refine ⟨hs3, ?_⟩
      have HXX5 := Lib.hid hs3.1
      have HVV5 := Lib.hid hs3.2.1
      have HPP5 := Lib.hid hs3.2.2
      have HACC5 := Lib.hid hacc
      have HGB5 := Lib.hid hgb
      have HGG5 := Lib.hid hgg
      have hgl5 := hgl
      have hzz5 : w4.heap.size < w5.heap.size := (by have h1 := hgb.size; simp only [World.size_alloc] at h1; omega)
      clear hacc hgb hgg hgl
      simp only [Act.put, List.getElem_toArray, List.getElem_cons_zero, List.getElem_cons_succ, List.setIfInBounds_toArray, List.set_cons_zero, List.set_cons_succ]
      refine wpAnyH_take (i := 11) rfl (by kernel_rfl) (by kernel_rfl) (by kernel_rfl) (fun _ _ _ h => h) (.inl ⟨rfl, fun _ _ => rfl⟩) (by assumption) ?_
      simp only [Act.put, List.getElem_toArray, List.getElem_cons_zero, List.getElem_cons_succ, List.setIfInBounds_toArray, List.set_cons_zero, List.set_cons_succ]
      refine wpAnyH_done (by kernel_rfl) ?_ _
      clear hHeld hs1 hs2
      have HA5 : Hid (∃ U, Acc 147 (w.heap.size + 1) 6 w5 (GAssumption.trs (x0.asms l k ++ (asmOf x0 (.mk tn ty) k).take (0 + 1))) (.slice (some ⟨gw5, 0, none⟩) ((x0.asms l k).length + (0 + 1)) gcw5) U) := ⟨_, by have h1 := HACC5.out; rw [GAssumption.snoc] at h1; exact h1⟩
      have hbl5 : gw5 < w5.heap.size := hgl5
      have hcv5 : w5.cell? ⟨wo.heap.size, 0, none⟩ = some (.string tn) := by rw [HVV5.out.cell]; rfl
      go_wp2_with (refine wpList_load_rep rfl 31 (.tmp 2) rfl w.heap.size 0 rfl c0 _ Tryz.underlying31 HI0.out (OB.cells0 HPP5.out) ?_)
      refine (allSupP_impl x0 tn _ c0 (H0.out.ext HXX5.out) HTN.out HB0.out).mono ?_; rintro e wS ⟨sv, rfl, hwS, hoS⟩
      obtain ⟨sa, sc, rfl, hsl, hsm⟩ := hoS.rep.shape
      rw [strTrs_len] at *
      have HOS0 := Lib.hid hoS
      have HXS := Lib.hid (HXX5.out.trans hwS)
      have HVS := Lib.hid (HVV5.out.ext hwS)
      have HPS := Lib.hid (HPP5.out.ext hwS)
      have HAS : Hid (∃ U, Acc 147 (w.heap.size + 1) 6 wS (GAssumption.trs (x0.asms l k ++ (asmOf x0 (.mk tn ty) k).take (0 + 1))) (.slice (some ⟨gw5, 0, none⟩) ((x0.asms l k).length + (0 + 1)) gcw5) U) := (by obtain ⟨U5, hu5⟩ := HA5.out; exact ⟨U5, hu5.ext hwS⟩)
      have hzS : w5.heap.size ≤ wS.heap.size := hwS.size
      clear hwS hoS
      unfold maxLen at hsm
      have hsl0 : ((x0.supers tn).length : Int) ≤ 9223372036854775807 := by omega
      have HBL0 : Hid (∀ b, (Value.slice (some ⟨gw5, 0, none⟩) ((x0.asms l k).length + (0 + 1)) gcw5).ownBlock = some b → (b < w5.heap.size ∧ b ≠ wo.heap.size) ∨ wS.heap.size ≤ b) := fun b hb => by
        have hb : gw5 = b := by simpa [Value.ownBlock] using hb
        subst hb
        refine .inl ⟨hbl5, ?_⟩
        rcases HGG5.out with h | h
        · have := (HU.out.blk h).2; omega
        · simp only [World.size_alloc] at h; omega
      go_wp2_with fail
      go_loopw [5, 36] (fun v i wi => ∃ (j : Nat) (a2 : Option Addr) (c2 : Nat), j ≤ (x0.supers tn).length ∧ i = .int .i64 j ∧ v = .slice a2 ((x0.asms l k).length + (j + 1)) c2 ∧ wS.heap.size ≤ wi.heap.size ∧ Hid (Ext w wi) ∧ Hid (∃ U, Acc 147 (w.heap.size + 1) 6 wi (GAssumption.trs (x0.asms l k ++ (asmOf x0 (.mk tn ty) k).take (j + 1))) (.slice a2 ((x0.asms l k).length + (j + 1)) c2) U) ∧ Hid (OB wi wo.heap.size 49 ⟨[.string tn, d0, d1, d2]⟩) ∧ Hid (OB wi w.heap.size 31 ⟨c0⟩) ∧ Hid (Own wi (.row 1 (strTrs (x0.supers tn))) (.slice sa (x0.supers tn).length sc) (Between w5 wS)) ∧ Hid (∀ b, (Value.slice a2 ((x0.asms l k).length + (j + 1)) c2).ownBlock = some b → (b < w5.heap.size ∧ b ≠ wo.heap.size) ∨ wS.heap.size ≤ b)) (fun _ i _ => (x0.supers tn).length - (intOf i).toNat)
      case atStart => exact ⟨0, _, _, Nat.zero_le _, rfl, rfl, Nat.le_refl _, HXS.out, HAS.out, HVS.out, HPS.out, HOS0.out, HBL0.out⟩
      case round =>
        obtain ⟨j, a2, c2, hj, rfl, rfl, hSi, HXI, HAI, HV, HP, HOS, HBL⟩ := hrel
        by_cases hjl : j < (x0.supers tn).length
        · obtain ⟨U2, hu2⟩ := HAI.out
          have HU2 := Lib.hid hu2
          clear hu2 HAI
          obtain ⟨b2, off2, rfl, hb2, hsz, hcell⟩ := HOS.out.rep.str hjl
          have HNX := Lib.hid (asmOf_next x0 (.mk tn ty) k j hjl)
          have HTJ : Hid ((GAssumption.trs (x0.asms l k ++ (asmOf x0 (.mk tn ty) k).take (j + 1))).length = (x0.asms l k).length + (j + 1)) := by
            show _ = _
            rw [GAssumption.trs_len, List.length_append, List.length_take, asmOf_lenS]
            show _ + min (j + 1) ((x0.supers tn).length + 1) = _
            omega
          have hn2 : (x0.asms l k).length + (j + 1) ≤ 1099511627776 := by have h1 := HN1.out; rw [asmOf_lenS] at h1; have h2 : (x0.asms l k).length + ((x0.supers tn).length + 1) ≤ 1099511627776 := h1; omega
          have HSN := Lib.hid hsz
          simp only [GBound.gTrait_mk, GBound.gType_mk] at *
          generalize (x0.supers tn)[j] = sn at *
          clear hsz
          have hcv : wr.cell? ⟨wo.heap.size, 0, none⟩ = some (.string tn) := by rw [HV.out.cell]; rfl
          have ki : (j : Int) < ((x0.supers tn).length : Int) := by omega
          go_wp2_with (refine wpList_load_rep rfl 31 (.tmp 2) rfl w.heap.size 0 rfl c0 _ Tryz.underlying31 HI0.out (OB.cells0 HP.out) ?_)
          refine (pathP_impl x0 tn sn _ c0 (H0.out.ext HXI.out) HTN.out HSN.out).mono ?_; rintro e wp ⟨pv, rfl, hwp, hop⟩
          obtain ⟨pa, pc, rfl, -, -⟩ := hop.rep.shape
          rw [intTrs_len] at *
          have HWP := Lib.hid hwp
          have HXP := Lib.hid (HXI.out.trans hwp)
          have HOP := Lib.hid hop
          have hzp : wr.heap.size ≤ wp.heap.size := hwp.size
          clear hwp hop
          go_wp2_with (refine wpList_load_rep rfl 47 (.tmp 50) rfl wo.heap.size 1 rfl [d0, d1, d2] _ Tryz.underlying47 isz47 (fun q u hu => by rw [(HV.out.ext HWP.out).cell]; rcases q with _ | _ | _ | q <;> first | (simp at hu; done) | simpa using hu) ?_)
          refine (copyType_impl ty _ _ (HX1.out.ext HXP.out) HBX.out).mono ?_; rintro e w6 ⟨ct, rfl, hwt, hot⟩
          obtain ⟨q0, q1, q2, rfl⟩ := list3 (hot.1.trans (GType.tr_len ty))
          have HW6 := Lib.hid hwt
          have HO6 := Lib.hid hot
          have hz6 : wp.heap.size ≤ w6.heap.size := hwt.size
          clear hwt hot
          go_wp2_with (refine wpList_append_acc rfl (.tmp 48) (.tmp 57) 80 rfl 147 6 96 Tryz.underlying80 iszc147 (by omega) (by omega) (w.heap.size + 1) (GAssumption.trs (x0.asms l k ++ (asmOf x0 (.mk tn ty) k).take (j + 1))) ((x0.asms l k).length + (j + 1)) HTJ.out (.slice a2 ((x0.asms l k).length + (j + 1)) c2) U2 rfl (Acc.ext (HU2.out.ext (HWP.out.trans HW6.out)) (.alloc (.refl _) _)) (GAssumption.mk (.mk sn ty) k (oPath (pathF x0 8 tn sn))).tr [.string sn, q0, q1, q2, .int .i64 k, .slice pa (oPath (pathF x0 8 tn sn)).length pc] (fun b => wr.heap.size ≤ b ∧ b < w6.heap.size) (GAssumption.tr_len _) (OwnL.ext (GAssumption.tr_own HSN.out HKW.out HO6.out (HOP.out.ext HW6.out) (fun x h1 h2 => by have h3 := h1.1; have h4 := h2.2; omega) (fun x hx => ⟨Nat.le_trans hzp hx.1, hx.2⟩) (fun x hx => ⟨hx.1, by have h3 := hx.2; omega⟩)) (.alloc (.refl _) _)) (fun b h1 h2 => by have := (HU2.out.lt b h1).2; have := h2.1; omega) (fun b h => by have h1 := h.1; have h2 := h.2; simp only [World.size_alloc]; exact ⟨by omega, by omega⟩) (fun b h1 h2 => by have := (HU2.out.blk h1).2; have := h2.1; omega) w6.heap.size 1 147 rfl (OB.new w6 _ _) (by omega) (by simp only [World.size_alloc]; omega) ?_; intro gw7 gcw7 w7 hacc hgb hgg hgl; have HACC10 := Lib.hid hacc; have HGB10 := Lib.hid hgb; have HGG10 := Lib.hid hgg; have hgl10 := hgl; have hzz10 : w6.heap.size < w7.heap.size := (by have h1 := hgb.size; simp only [World.size_alloc] at h1; omega); clear hacc hgb hgg hgl)
          have HE6 : Hid (Ext wr (w6.alloc (.cells #[.string sn, q0, q1, q2, .int .i64 k, .slice pa (oPath (pathF x0 8 tn sn)).length pc] 147))) := (HWP.out.trans HW6.out).trans (.alloc (.refl _) _)
          have HXX10 : Hid (Ext w w7) := grown_ext_own (HXI.out.trans HE6.out) HGB10.out (fun b hb => by have := (HU2.out.blk hb).1; omega)
          have HVV10 : Hid (OB w7 wo.heap.size 49 ⟨[.string tn, d0, d1, d2]⟩) := OB.grown_own (HV.out.ext HE6.out) HGB10.out (fun h => by have h1 := HBL.out _ h; omega)
          have HPP10 : Hid (OB w7 w.heap.size 31 ⟨c0⟩) := OB.grown_own (HP.out.ext HE6.out) HGB10.out (fun h => by have := (HU2.out.blk h).1; omega)
          have HA7 : Hid (∃ U, Acc 147 (w.heap.size + 1) 6 w7 (GAssumption.trs (x0.asms l k ++ (asmOf x0 (.mk tn ty) k).take (j + 1 + 1))) (.slice (some ⟨gw7, 0, none⟩) ((x0.asms l k).length + (j + 1 + 1)) gcw7) U) := ⟨_, by have h1 := HACC10.out; rw [GAssumption.snoc, List.append_assoc, HNX.out] at h1; exact h1⟩
          have HOS7 : Hid (Own w7 (.row 1 (strTrs (x0.supers tn))) (.slice (some ⟨b2, off2, none⟩) (x0.supers tn).length sc) (Between w5 wS)) := (HOS.out.ext HE6.out).keep fun b hb hbl => HGB10.out.block b hbl (fun h => by have h1 := HBL.out b h.symm; have h2 : w5.heap.size ≤ b := hb.1; have h3 : b < wS.heap.size := hb.2; omega)
          have HBL7 : Hid (∀ b, (Value.slice (some ⟨gw7, 0, none⟩) ((x0.asms l k).length + (j + 1 + 1)) gcw7).ownBlock = some b → (b < w5.heap.size ∧ b ≠ wo.heap.size) ∨ wS.heap.size ≤ b) := fun b hb => by
            have hb : gw7 = b := by simpa [Value.ownBlock] using hb
            subst hb
            rcases HGG10.out with h | h
            · exact HBL.out _ h
            · simp only [World.size_alloc] at h; exact .inr (by omega)
          go_wp2_with fail
          go_roundw
          case rel => exact ⟨j + 1, _, _, by omega, by go_num, rfl, by omega, HXX10.out, HA7.out, HVV10.out, HPP10.out, HOS7.out, HBL7.out⟩
          case measure => simp [intOf]; omega
        · have hje : j = (x0.supers tn).length := by omega
          subst hje
          have HLE : Hid ((x0.asms l (k + 1)).length = (x0.asms l k).length + ((x0.supers tn).length + 1)) := by show _ = _; rw [HSU.out, List.length_append, asmOf_lenS]; rfl
          have HAE : Hid (∃ U, Acc 147 (w.heap.size + 1) 6 wr (GAssumption.trs (x0.asms l (k + 1))) (.slice a2 (x0.asms l (k + 1)).length c2) U) := by
            have h1 := HAI.out
            have h2 := asmOf_all x0 (.mk tn ty) k
            have h2 : (asmOf x0 (.mk tn ty) k).take ((x0.supers tn).length + 1) = asmOf x0 (.mk tn ty) k := h2
            rw [h2, ← HSU.out] at h1
            show ∃ U, _
            rw [HLE.out]
            exact h1
          go_wp2_with fail
          go_roundw
          case rel => exact ⟨k + 1, a2, c2, by omega, by go_num, by rw [HLE.out], HXI.out, by omega, HP.out, HAE.out⟩
          case measure => simp [intOf]; omega
    · have hkl : k = l.length := by omega
      subst hkl
      obtain ⟨U, hu⟩ := HA.out
      have HU := Lib.hid hu
      clear hu
      go_wp2_with fail
      go_ret
      exact ⟨_, rfl, HW.out, HU.out.own.mono fun b hb => ⟨by have := (HU.out.lt b hb).1; omega, (HU.out.lt b hb).2⟩⟩
end Go.Proofs.YtnakkelglbcecaaGreat

namespace Go.Proofs.YtnakkelglbcecaaGreat
open Go.RowKit Go.Proofs
set_option linter.unusedSimpArgs false
set_option linter.unusedVariables false

attribute [local irreducible] lt

end Go.Proofs.YtnakkelglbcecaaGreat

namespace Go.Proofs.YtnakkelglbcecaaGreat
set_option linter.unusedSimpArgs false
set_option linter.unusedVariables false
open Go.RowKit Go.WalkArith
attribute [local irreducible] lt

section
variable {α β : Type} {g : Nat → List α} {M : Nat}
theorem loopN_app {F : Nat → List α → Option (LR (List α) β)} {n : Nat} (hs : ∀ j v, j < n → v.length + (g j).length ≤ M → F j v = some (.next (v ++ g j))) :
    ∀ (k j : Nat) (v : List α), n - j = k → v.length + ((List.range' j k).flatMap g).length ≤ M → loopN F (n - j) j v = some (.inr (v ++ (List.range' j k).flatMap g))
  | 0, j, v, hk, _ => by rw [loopN_all (by omega)]; simp
  | k + 1, j, v, hk, hl => by
    have hj : j < n := by omega
    rw [List.range'_succ, List.flatMap_cons, List.length_append] at hl
    rw [loopN_step hj (hs j v hj (by omega)), loopN_app hs k (j + 1) (v ++ g j) (by omega) (by rw [List.length_append]; omega), List.range'_succ, List.flatMap_cons, List.append_assoc]
theorem loopN_app0 {F : Nat → List α → Option (LR (List α) β)} {n : Nat} (hs : ∀ j v, j < n → v.length + (g j).length ≤ M → F j v = some (.next (v ++ g j))) {v : List α} (hl : v.length + ((List.range' 0 n).flatMap g).length ≤ M) : loopN F (n - 0) 0 v = some (.inr (v ++ (List.range' 0 n).flatMap g)) := loopN_app hs n 0 v rfl hl
theorem flat_one {h : Nat → α} : ∀ l : List Nat, (l.flatMap fun k => [h k]).length = l.length
  | [] => by simp
  | a :: l => by
    have h1 := flat_one (h := h) l
    rw [List.flatMap_cons, List.length_append, List.length_cons, h1]
    simp
    omega
end
end Go.Proofs.YtnakkelglbcecaaGreat

namespace Go.Proofs.YtnakkelglbcecaaGreat
set_option linter.unusedSimpArgs false
set_option linter.unusedVariables false
attribute [local irreducible] lt
open Go.RowKit Go.WalkArith

theorem flat_one' {α : Type} {f : Nat → α} : ∀ l : List Nat, (l.flatMap fun k => [f k]) = l.map f
  | [] => rfl
  | a :: l => by rw [List.flatMap_cons, flat_one' l, List.map_cons]; rfl
theorem map_range_atD {α β : Type} [Inhabited α] (f : α → β) : ∀ (l : List α) (k j : Nat), l.length - j = k → j ≤ l.length → (List.range' j k).map (fun i => f (atD l i)) = (l.drop j).map f
  | l, 0, j, hk, hj => by rw [List.drop_of_length_le (by omega)]; rfl
  | l, k + 1, j, hk, hj => by
    have h : j < l.length := by omega
    rw [List.range'_succ, List.map_cons, map_range_atD f l k (j + 1) (by omega) (by omega), drop_atD h, List.map_cons]
theorem sAssum_fn (fu : Nat) (w : GProgram) (l : List GBound) (hb0 : w.allSup.length ≤ 1099511627776) (hlen : l.length * (1 + w.allSup.length) ≤ 1099511627776) (hbk : ∀ b ∈ l, Tr.bulkL b.gType.tr ≤ 68719476735) : sAssumptions_M fu w l = some (w.asms l l.length) := by
  unfold sAssumptions_M
  have hall := w.asms_len l l.length
  have h := loopN_app0 (F := sAssumptions_F1 fu w l) (n := l.length) (g := fun i => asmOf w (atD l i) i) (M := 1099511627776) (v := []) (fun i v hi hv => by
    have hx := asmOf_lenS w (atD l i) i
    unfold sAssumptions_F1
    refine gdT (hbk _ (atD_mem hi)) (gdT (by simp only [List.length_cons, List.length_nil]; omega) (gdT hb0 ?_))
    refine soR (s := v ++ asmOf w (atD l i) i) ?_ rfl
    unfold sAssumptions_R2
    have hf : ∀ j, ((List.range' j ((w.supers (atD l i).gTrait).length - j)).flatMap fun q => [GAssumption.mk (.mk (atD (w.supers (atD l i).gTrait) q) (atD l i).gType) ((i : Nat) : Int) (oPath (pathF w 8 (atD l i).gTrait (atD (w.supers (atD l i).gTrait) q)))]).length = (w.supers (atD l i).gTrait).length - j := fun j => by
      rw [flat_one (h := fun q => GAssumption.mk (.mk (atD (w.supers (atD l i).gTrait) q) (atD l i).gType) ((i : Nat) : Int) (oPath (pathF w 8 (atD l i).gTrait (atD (w.supers (atD l i).gTrait) q))))]
      simp
    have h2 := loopN_app0 (F := sAssumptions_F2 fu w l i v) (n := (w.supers (atD l i).gTrait).length) (g := fun q => [GAssumption.mk (.mk (atD (w.supers (atD l i).gTrait) q) (atD l i).gType) ((i : Nat) : Int) (oPath (pathF w 8 (atD l i).gTrait (atD (w.supers (atD l i).gTrait) q)))]) (M := 1099511627776) (v := v ++ [GAssumption.mk (.mk (atD l i).gTrait (atD l i).gType) ((i : Nat) : Int) []]) (fun q u hq hu => by
      unfold sAssumptions_F2
      refine gdT ?_ rfl
      simp only [List.length_cons, List.length_nil] at hu ⊢
      omega) (by
      have h0 := hf 0
      rw [Nat.sub_zero] at h0
      rw [h0]
      simp only [List.length_append, List.length_cons, List.length_nil]
      omega)
    rw [h2]
    congr 2
    rw [flat_one' (f := fun q => GAssumption.mk (.mk (atD (w.supers (atD l i).gTrait) q) (atD l i).gType) ((i : Nat) : Int) (oPath (pathF w 8 (atD l i).gTrait (atD (w.supers (atD l i).gTrait) q)))),
      map_range_atD (fun s => GAssumption.mk (.mk s (atD l i).gType) ((i : Nat) : Int) (oPath (pathF w 8 (atD l i).gTrait s))) (w.supers (atD l i).gTrait) (w.supers (atD l i).gTrait).length 0 (by omega) (Nat.zero_le _), List.drop_zero, List.append_assoc]
    rfl) (by
    show ([] : List GAssumption).length + (w.asms l l.length).length ≤ _
    rw [List.length_nil]
    omega)
  exact soR h rfl
theorem assumP_spec (x0 : GProgram) (l : List GBound) (w : World) (c0 : List Value) (s : Value) (h0 : RepL w x0.tr c0) (hs : Rep w (.row 4 (GBound.trs l)) s) (hb0 : x0.allSup.length ≤ 1099511627776) (hlen : l.length * (1 + x0.allSup.length) ≤ 1099511627776) (hbk : ∀ b ∈ l, Tr.bulkL b.gType.tr ≤ 68719476735) :
    Calls Tryz.prog 51 #[.agg ⟨c0⟩, s] w fun e w' => ∃ v, e = .returned v ∧ Ext w w' ∧ Rep w' (.row 6 (GAssumption.trs (x0.asms l l.length))) v := by
  rw [GProgram.tr_cs] at h0
  exact (sAssumptions_ok 0 x0 l _ (sAssum_fn 0 x0 l hb0 hlen hbk)).plainR (RVL0.cons (RV0.agg h0) (RVL0.cons (RV0.t hs) RVL0.nil))
end Go.Proofs.YtnakkelglbcecaaGreat

namespace Go.Proofs.YtnakkelglbcecaaGreat
set_option linter.unusedSimpArgs false
open Go.RowKit Go.WalkArith

theorem mul_of_sum {a b : Nat} (h : a + b ≤ 1048576) : a * (1 + b) ≤ 1099511627776 := by
  rcases Nat.eq_zero_or_pos a with rfl | h0
  · simp
  · have := Nat.mul_le_mul (show a ≤ 1048576 by omega) (show 1 + b ≤ 1048576 by omega)
    omega
theorem GBound.ty_le (g : GBound) : Tr.bulkL g.gType.tr ≤ Tr.bulkL g.tr := by
  obtain ⟨v0, t⟩ := g
  simp only [GBound.tr, Tr.bulkL_cat, Tr.bulkL, Tr.bulk, GBound.gType_mk]
  omega
theorem GBound.ty_all (l : List GBound) : ∀ b ∈ l, Tr.bulkL b.gType.tr ≤ Tr.bulkAll (GBound.trs l) := by
  induction l with
  | nil => intro b hb; simp at hb
  | cons a l ih =>
    intro b hb
    rw [GBound.trs_map, List.map_cons, Tr.bulkAll, ← GBound.trs_map]
    rcases List.mem_cons.1 hb with rfl | hb
    · have := b.ty_le; omega
    · have := ih b hb; omega
theorem Tr.cntE_append : ∀ a b : List (List Tr), Tr.cntE (a ++ b) = Tr.cntE a + Tr.cntE b
  | [], b => by simp [Tr.cntE]
  | x :: a, b => by rw [List.cons_append, Tr.cntE, Tr.cntE, Tr.cntE_append a b]; omega
theorem Tr.cntL_app : ∀ a b : List Tr, Tr.cntL (a ++ b) = Tr.cntL a + Tr.cntL b
  | [], b => by simp [Tr.cntL]
  | x :: a, b => by rw [List.cons_append, Tr.cntL, Tr.cntL, Tr.cntL_app a b]; omega
theorem GAssumption.cnt_le (s : ByteArray) (ty : GType) (i : Int) (p : List Int) : Tr.cntL (GAssumption.mk (.mk s ty) i p).tr ≤ 5 + 20 * Tr.bulkL ty.tr + p.length := by
  have h1 := GType.cnt_le ty
  simp only [GAssumption.tr, GBound.tr, List.cons_append, List.nil_append, Tr.cntL, Tr.cntL_app, Tr.cnt, intCnt]
  omega
theorem maps_cnt (w : GProgram) (b : GBound) (i : Nat) : ∀ ss : List ByteArray, Tr.cntE (GAssumption.trs (ss.map fun s => GAssumption.mk (.mk s b.gType) (i : Int) (oPath (pathF w 8 b.gTrait s)))) ≤ ss.length * (13 + 20 * Tr.bulkL b.gType.tr)
  | [] => by simp [GAssumption.trs, Tr.cntE]
  | s :: ss => by
    have h1 := maps_cnt w b i ss
    have h2 := GAssumption.cnt_le s b.gType (i : Int) (oPath (pathF w 8 b.gTrait s))
    have h3 := pathF_len w 8 b.gTrait s
    rw [GAssumption.trs_map] at h1 ⊢
    rw [List.map_cons, List.map_cons, Tr.cntE, List.length_cons, Nat.add_mul]
    omega
theorem asmOf_cnt (w : GProgram) (b : GBound) (i : Nat) : Tr.cntE (GAssumption.trs (asmOf w b i)) ≤ (1 + w.allSup.length) * (13 + 20 * Tr.bulkL b.gType.tr) := by
  have h1 := maps_cnt w b i (w.supers b.gTrait)
  have h2 := supers_len w b.gTrait
  have h3 := Nat.mul_le_mul_right (13 + 20 * Tr.bulkL b.gType.tr) h2
  have h4 := GAssumption.cnt_le b.gTrait b.gType (i : Int) []
  unfold asmOf
  rw [GAssumption.trs_map] at h1 ⊢
  rw [List.map_cons, Tr.cntE, Nat.add_mul, Nat.one_mul]
  simp only [List.length_nil] at h4
  omega
theorem GProgram.asms_cntk (w : GProgram) (l : List GBound) : ∀ k, k ≤ l.length → Tr.cntE (GAssumption.trs (w.asms l k)) ≤ (1 + w.allSup.length) * (13 * k + 20 * Tr.bulkAll (GBound.trs (l.take k)))
  | 0, _ => by simp [GProgram.asms, GAssumption.trs, Tr.cntE]
  | k + 1, hk => by
    have h1 := w.asms_cntk l k (by omega)
    have h2 := asmOf_cnt w (atD l k) k
    have h3 := (atD l k).ty_le
    have h4 : Tr.bulkAll (GBound.trs (l.take (k + 1))) = Tr.bulkAll (GBound.trs (l.take k)) + Tr.bulkL (atD l k).tr := by
      have hk' : k < (l.map GBound.tr).length := by rw [List.length_map]; omega
      have h5 := Tr.bulkAll_take (l.map GBound.tr) k hk'
      rw [GBound.trs_map, GBound.trs_map, List.map_take, List.map_take, h5, List.getElem_map, atD_eq (show k < l.length by omega)]
    rw [w.asms_succ, GAssumption.trs_map, List.map_append, Tr.cntE_append, ← GAssumption.trs_map, ← GAssumption.trs_map, h4]
    have h6 : (1 + w.allSup.length) * (13 * (k + 1) + 20 * (Tr.bulkAll (GBound.trs (l.take k)) + Tr.bulkL (atD l k).tr)) = (1 + w.allSup.length) * (13 * k + 20 * Tr.bulkAll (GBound.trs (l.take k))) + (1 + w.allSup.length) * (13 + 20 * Tr.bulkL (atD l k).tr) := by rw [← Nat.mul_add]; congr 1; omega
    have h7 := Nat.mul_le_mul_left (1 + w.allSup.length) (show 13 + 20 * Tr.bulkL (atD l k).gType.tr ≤ 13 + 20 * Tr.bulkL (atD l k).tr by omega)
    omega
theorem GProgram.asms_cnt (w : GProgram) (l : List GBound) (hs : w.allSup.length ≤ 1048576) (hl : l.length + Tr.bulkAll (GBound.trs l) ≤ 1048576) : 1 + Tr.cntE (GAssumption.trs (w.asms l l.length)) ≤ 1152921504606846976 := by
  have h1 := w.asms_cntk l l.length (Nat.le_refl _)
  rw [List.take_length] at h1
  have h2 := Nat.mul_le_mul (show 1 + w.allSup.length ≤ 1048577 by omega) (show 13 * l.length + 20 * Tr.bulkAll (GBound.trs l) ≤ 20971520 by omega)
  have h3 := Nat.le_trans h1 h2
  omega
end Go.Proofs.YtnakkelglbcecaaGreat

namespace Go.Proofs.YtnakkelglbcecaaGreat
open Go.RowKit Go.Proofs

set_option maxRecDepth 100000 in
set_option maxHeartbeats 2000000 in
theorem heldTypeS_of (l : List GType) (H2 : ∀ x ∈ l, HeldSC 109 3 (GType.trs x.gArgs)) : HeldSC 109 3 (GType.trs l) := by
  intro s kz k w hz hrep0 hbd
  subst hz
  obtain ⟨a, cap, rfl, hl, hm⟩ := hrep0.shape
  rw [Tr.markE_length, GType.trs_len] at *
  unfold maxLen at hm
  have HO := Lib.hid hrep0
  have HH2 := Lib.hid H2
  clear H2
  clear hrep0
  go_enter Tryz.func109, Tryz.ntmps109
  go_wp2_with fail
  go_loopw [1, 5] (fun kv i wr => ∃ j m : Nat, j ≤ l.length ∧ i = .int .i64 j ∧ kv = .int .i64 (m : Int) ∧ Hid (m = k + Tr.cntE ((GType.trs l).take j)) ∧ Ext w wr) (fun _ i _ => l.length - (intOf i).toNat)
  case atStart => exact ⟨0, k, Nat.zero_le _, rfl, rfl, by show _ = _; simp [Tr.cntE], .refl _⟩
  case round =>
    obtain ⟨j, m, hj, rfl, rfl, HM1, hw⟩ := hrel
    by_cases hlt : j < l.length
    · have hlt2 : j < (GType.trs l).length := by rw [GType.trs_len]; exact hlt
      have hge : (GType.trs l)[j] = (l[j]).tr := by have h1 := GType.trs_get hlt; rw [List.getElem?_eq_getElem hlt2] at h1; exact Option.some.inj h1
      have hcl := Tr.cntE_le hlt2
      have hmg := Tr.markE_get (GType.trs l) k j hlt2
      have htk : Tr.cntE ((GType.trs l).take (j + 1)) = Tr.cntE ((GType.trs l).take j) + Tr.cntL (GType.trs l)[j] := Tr.cntE_take _ j hlt2
      rw [hge] at hcl hmg htk
      have hm1 := HM1.out
      rw [← hm1] at hmg
      have HM2 := Lib.hid (HH2.out _ (List.getElem_mem hlt))
      generalize l[j] = x at *
      obtain ⟨v0, v1, v2⟩ := x
      have HM2 : Hid (HeldSC 109 3 (GType.trs v2)) := HM2
      have htr : GType.tr (.mk v0 v1 v2) = [.leaf (.int .i64 v0), .leaf (.string v1), .row 3 (GType.trs v2)] := by simp [GType.tr]
      rw [htr] at hcl hmg htk
      have hcw : Tr.cntL [.leaf (.int .i64 v0), .leaf (.string v1), .row 3 (GType.trs v2)] = 1 + 1 + Tr.cntE (GType.trs v2) := by simp only [Tr.cntL, Tr.cnt] <;> omega
      obtain ⟨b, off, cs0, rfl, hb, hrep, hc⟩ := (HO.out.ext hw).at2 hmg
      obtain ⟨d0, d1, d2, rfl⟩ := list3 hrep.length.symm
      obtain ⟨rfl, -⟩ := (hrep.1).leaf_eq
      obtain ⟨rfl, -⟩ := (hrep.2.1).leaf_eq
      have HR2 := Lib.hid (hrep.2.2.1)
      obtain ⟨sa2, sc2, hd2, -, -⟩ := HR2.out.shape
      rw [Tr.markE_length] at hd2
      subst hd2
      have hmb : m + (1 + 1 + Tr.cntE (GType.trs v2)) ≤ 1152921504606846976 := by rw [← hcw]; omega
      rw [hcw] at htk
      have HTK := Lib.hid htk
      have HC := Lib.hid hc
      have HB := Lib.hid hb
      have hki := hlt
      simp only [markLeaf, Tr.cnt] at *
      have hcell0 : wr.cell? ⟨b, off + j * 3, none⟩ = some _ := HC.out 0 _ rfl
      have hcell1 : wr.cell? ⟨b, off + j * 3 + 1, none⟩ = some _ := HC.out 1 _ rfl
      have hcell2 : wr.cell? ⟨b, off + j * 3 + 2, none⟩ = some _ := HC.out 2 _ rfl
      clear hrep hc hmg htk hge hcl hcw hm1 htr hb
      go_wp2_with fail
      have HX0 := Lib.hid (Ext.refl wr)
      refine wp_region_held_drew (S := Ext wr) (by kernel_rfl) ?_ (fun hHeld => ?_)
      · exact .drew (.refl _)
      refine wpAnyH_take (i := 0) rfl (by kernel_rfl) (by kernel_rfl) (by kernel_rfl) (fun _ _ _ h => h) (.inl ⟨rfl, fun _ _ => rfl⟩) (by assumption) ?_
      simp only [Act.put, List.getElem_toArray, List.getElem_cons_zero, List.setIfInBounds_toArray, List.set_cons_zero, List.set_cons_succ]
      refine wpAnyH_take (i := 1) rfl (by kernel_rfl) (by kernel_rfl) (by kernel_rfl) (fun _ _ _ h => h) (.inl ⟨rfl, fun _ _ => rfl⟩) (by assumption) ?_
      simp only [Act.put, List.getElem_toArray, List.getElem_cons_zero, List.getElem_cons_succ, List.setIfInBounds_toArray, List.set_cons_zero, List.set_cons_succ]
      refine wpAnyH_index (i := 2) rfl (by kernel_rfl) (by kernel_rfl) (by kernel_rfl) rfl 45 (.tmp 21) (.tmp 22) rfl (b) (off) (l.length) (cap) (j) (3) rfl rfl (hki) Tryz.underlying45 (by kernel_rfl) (by assumption) (fun _ _ _ _ h => h) ?_
      simp only [Act.put, List.getElem_toArray, List.getElem_cons_zero, List.getElem_cons_succ, List.setIfInBounds_toArray, List.set_cons_zero, List.set_cons_succ]
      refine wpAnyH_take (i := 3) rfl (by kernel_rfl) (by kernel_rfl) (by kernel_rfl) (fun _ _ _ h => h) (.inl ⟨rfl, fun _ _ => rfl⟩) (by assumption) ?_
      simp only [Act.put, List.getElem_toArray, List.getElem_cons_zero, List.getElem_cons_succ, List.setIfInBounds_toArray, List.set_cons_zero, List.set_cons_succ]
      refine wpAnyH_cell (i := 4) rfl (by kernel_rfl) (by kernel_rfl) (by kernel_rfl) rfl 9 (.tmp 24) rfl (b) (off + j * 3 + 1) rfl (.string (mtext (m + 1))) _ Tryz.underlying9 rfl (fun W hW => (hW.cell (p := ⟨b, off + j * 3 + 1, none⟩) (Nat.lt_of_lt_of_le HB.out (HX0.out).size)).trans hcell1) (by assumption) (fun _ _ _ _ h => h) ?_
      simp only [Act.put, List.getElem_toArray, List.getElem_cons_zero, List.getElem_cons_succ, List.setIfInBounds_toArray, List.set_cons_zero, List.set_cons_succ]
      refine wpAnyH_take (i := 5) rfl (by kernel_rfl) (by kernel_rfl) (by kernel_rfl) (fun _ _ _ h => h) (.inl ⟨rfl, fun _ _ => rfl⟩) (by assumption) ?_
      simp only [Act.put, List.getElem_toArray, List.getElem_cons_zero, List.getElem_cons_succ, List.setIfInBounds_toArray, List.set_cons_zero, List.set_cons_succ]
      refine wpAnyH_call (i := 6) (by kernel_rfl) rfl rfl (run_call_func rfl rfl #[.int .i64 _] (by simp only [List.map_toArray, List.map_cons, List.map_nil, Act.eval]; rfl) Tryz.func94 (by kernel_rfl) (by kernel_rfl) _) (markText_any _ (m + 1) _ (by omega) (by omega)) ?_; rintro e wh1 ⟨rfl, hv1⟩
      have hs1 := Ext.trans hHeld hv1
      refine ⟨_, rfl, hs1, ?_⟩
      simp only [Act.put, List.getElem_toArray, List.getElem_cons_zero, List.getElem_cons_succ, List.setIfInBounds_toArray, List.set_cons_zero, List.set_cons_succ]
      refine wpAnyH_take (i := 7) rfl (by kernel_rfl) (by kernel_rfl) (by kernel_rfl) (fun _ _ _ h => h) (.inl ⟨rfl, fun _ _ => rfl⟩) (by assumption) ?_
      simp only [Act.put, List.getElem_toArray, List.getElem_cons_zero, List.getElem_cons_succ, List.setIfInBounds_toArray, List.set_cons_zero, List.set_cons_succ]
      refine wpAnyH_done (by kernel_rfl) ?_ _
      clear hHeld
      have HX1 := Lib.hid (Ext.trans HX0.out hs1)
      have hcell2 := (hs1.cell (p := ⟨b, off + j * 3 + 2, none⟩) (Nat.lt_of_lt_of_le HB.out HX0.out.size)).trans hcell2
      clear hs1 hv1
      simp only [beq_self_eq_true, Bool.not_true]
      go_wp2_with fail
      refine (HM2.out _ _ ((m + 1) + 1) _ (by omega) (HR2.out.ext HX1.out) (by omega)).mono ?_; rintro e wh2 ⟨rfl, hv2⟩
      have HX2 := Lib.hid (Ext.trans HX1.out hv2)
      clear hv2
      have hng : ¬ (((((m + 1) + 1) + Tr.cntE (GType.trs v2)) : Nat) : Int) < 0 := by omega
      go_wp2_with fail
      go_roundw
      case rel => exact ⟨j + 1, (((m + 1) + 1) + Tr.cntE (GType.trs v2)), by omega, by go_num, by first | rfl | go_num, by have h1 := HTK.out; have h2 := HM1.out; show _ = _; omega, hw.trans HX2.out⟩
      case measure => simp [intOf]; omega
    · have hkl : j = (GType.trs l).length := by rw [GType.trs_len]; omega
      go_wp2_with fail
      go_ret
      have hm1 := HM1.out
      rw [hkl, List.take_length] at hm1
      subst hm1
      exact ⟨rfl, hw⟩
theorem heldTypeS_in : ∀ x : GType, HeldSC 109 3 (GType.trs x.gArgs) :=
  GType.ind fun v0 v1 v2 ih => heldTypeS_of v2 ih
theorem heldTypeS_all (l : List GType) : HeldSC 109 3 (GType.trs l) := heldTypeS_of l fun x _ => heldTypeS_in x

end Go.Proofs.YtnakkelglbcecaaGreat

namespace Go.Proofs.YtnakkelglbcecaaGreat
open Go.RowKit Go.Proofs

set_option maxRecDepth 100000 in
set_option maxHeartbeats 2000000 in
theorem markAssumptionS_of (l : List GAssumption)  : MarkSC 57 6 (GAssumption.trs l) := by
  intro s kz k S w hz hown hS hbd
  subst hz
  obtain ⟨a, cap, rfl, hl, hm⟩ := hown.rep.shape
  rw [GAssumption.trs_len] at *
  unfold maxLen at hm
  have HO := Lib.hid hown
  have HSS := Lib.hid hS
  clear hown hS
  go_enter Tryz.func57, Tryz.ntmps57
  go_wp2_with fail
  go_loopw [1, 5] (fun kv i wr => ∃ j m : Nat, j ≤ l.length ∧ i = .int .i64 j ∧ kv = .int .i64 (m : Int) ∧ Hid (m = k + Tr.cntE ((GAssumption.trs l).take j)) ∧ Hid (Own wr (.row 6 (Tr.mid (GAssumption.trs l) k j)) (.slice a l.length cap) S) ∧ Hid (Chg S w wr)) (fun _ i _ => l.length - (intOf i).toNat)
  case atStart => exact ⟨0, k, Nat.zero_le _, rfl, rfl, by show _ = _; simp [Tr.cntE], by show Own _ _ _ _; rw [Tr.mid_zero]; exact HO.out, Chg.refl _ _⟩
  case round =>
    obtain ⟨j, m, hj, rfl, rfl, HM1, HO1, HC1⟩ := hrel
    by_cases hlt : j < l.length
    · have hlt2 : j < (GAssumption.trs l).length := by rw [GAssumption.trs_len]; exact hlt
      have hge : (GAssumption.trs l)[j] = (l[j]).tr := by have h1 := GAssumption.trs_get hlt; rw [List.getElem?_eq_getElem hlt2] at h1; exact Option.some.inj h1
      have hcl := Tr.cntE_le hlt2
      have hms := Tr.mid_set (k := k) hlt2
      have hmg := Tr.mid_get (k := k) hlt2
      have htk : Tr.cntE ((GAssumption.trs l).take (j + 1)) = Tr.cntE ((GAssumption.trs l).take j) + Tr.cntL (GAssumption.trs l)[j] := Tr.cntE_take _ j hlt2
      rw [hge] at hcl hms hmg htk
      have hm1 := HM1.out
      rw [← hm1] at hms
      generalize l[j] = x at *
      obtain ⟨⟨v0_0, ⟨v0_1_0, v0_1_1, v0_1_2⟩⟩, v1, v2⟩ := x
      have htr : GAssumption.tr (.mk (.mk v0_0 (.mk v0_1_0 v0_1_1 v0_1_2)) v1 v2) = [.leaf (.string v0_0), .leaf (.int .i64 v0_1_0), .leaf (.string v0_1_1), .row 3 (GType.trs v0_1_2), .leaf (.int .i64 v1), .row 1 (intTrs v2)] := by simp [GAssumption.tr, GBound.tr, GType.tr]
      rw [htr] at hcl hms hmg htk
      have hcw : Tr.cntL [.leaf (.string v0_0), .leaf (.int .i64 v0_1_0), .leaf (.string v0_1_1), .row 3 (GType.trs v0_1_2), .leaf (.int .i64 v1), .row 1 (intTrs v2)] = 1 + 1 + 1 + Tr.cntE (GType.trs v0_1_2) + 1 + Tr.cntE (intTrs v2) := by simp only [Tr.cntL, Tr.cnt] <;> omega
      obtain ⟨b, off, E0, arr0, cs0, T, rfl, hfoc, hrep, hback⟩ := HO1.out.take hmg (Tr.mid_sz (GAssumption.sz l)) (by omega) (fun x hx => Nat.lt_of_lt_of_le (HSS.out x hx) HC1.out.size)
      obtain ⟨d0, d1, d2, d3, d4, d5, rfl⟩ := list6 hfoc.len
      obtain ⟨rfl, -⟩ := (hrep.1).leaf_eq
      obtain ⟨rfl, -⟩ := (hrep.2.1).leaf_eq
      obtain ⟨rfl, -⟩ := (hrep.2.2.1).leaf_eq
      obtain ⟨sa3, sc3, rfl, -, -⟩ := (hrep.2.2.2.1).shape
      obtain ⟨rfl, -⟩ := (hrep.2.2.2.2.1).leaf_eq
      obtain ⟨sa5, sc5, rfl, -, -⟩ := (hrep.2.2.2.2.2.1).shape
      have HF0 := Lib.hid hfoc
      have HBK := Lib.hid hback
      obtain ⟨arr1, hob1, hsz1, -, -⟩ := hfoc.arr
      have HOB0 := Lib.hid hob1
      have HFIT : Hid (off + j * 6 + 6 ≤ arr1.size) := by show _ ≤ _; rw [hsz1]; exact hfoc.fit
      have hmb : m + (1 + 1 + 1 + Tr.cntE (GType.trs v0_1_2) + 1 + Tr.cntE (intTrs v2)) ≤ 1152921504606846976 := by rw [← hcw]; omega
      rw [hcw] at htk
      have HMS := Lib.hid hms
      have HTK := Lib.hid htk
      have hlo : (0 : Int) ≤ (j : Int) := by omega
      clear hfoc hrep hback hob1 hsz1 hms hmg htk hge hcl hcw hm1 htr
      go_wp2_with fail
      refine (markText_any _ m _ (by omega) (by omega)).mono ?_; rintro e w1 ⟨rfl, hw⟩
      have HF1 := Lib.hid (HF0.out.ext hw)
      obtain ⟨ar1, ho, hzz, -, -⟩ := HF1.out.arr
      have HOB1 := Lib.hid ho
      have HFT1 : Hid (off + j * 6 + 6 ≤ ar1.size) := by show _ ≤ _; rw [hzz]; exact HF1.out.fit
      clear hw ho hzz
      go_wp2_with (first
        | (refine wpList_store_cell rfl 9 (.tmp 18) (.tmp 15) rfl b (off + j * 6 + 0) rfl (.string (mtext m)) rfl rfl E0 ar1 HOB1.out isz9 (by have := HFT1.out; omega) rfl ?_; intro w2 hob hg hq; have HF2 := Lib.hid (HF1.out.leaf (j := 0) rfl (v := .string (mtext m)) (by have := mtext_size m (by omega); show _ ≤ maxLen; unfold maxLen; omega) HOB1.out hob hg); obtain ⟨ar2, ho, hzz, -, -⟩ := HF2.out.arr; have HOB2 := Lib.hid ho; have HFT2 : Hid (off + j * 6 + 6 ≤ ar2.size) := (by show _ ≤ _; rw [hzz]; exact HF2.out.fit); clear hob hg hq ho hzz)
        | (refine wpList_store_cell rfl 3 (.tmp 27) (.tmp 23) rfl b (off + j * 6 + 1) rfl (.int .i64 (((m + 1) : Nat) : Int)) (by first | rfl | (simp only [Nat.cast_add, Nat.cast_one] <;> rfl)) rfl E0 ar2 HOB2.out isz3 (by have := HFT2.out; omega) rfl ?_; intro w3 hob hg hq; have HF3 := Lib.hid (HF2.out.leaf (j := 1) rfl (v := .int .i64 (((m + 1) : Nat) : Int)) (WalkArith.wf_i64 (by omega)) HOB2.out hob hg); obtain ⟨ar3, ho, hzz, -, -⟩ := HF3.out.arr; have HOB3 := Lib.hid ho; have HFT3 : Hid (off + j * 6 + 6 ≤ ar3.size) := (by show _ ≤ _; rw [hzz]; exact HF3.out.fit); clear hob hg hq ho hzz))
      refine (markText_any _ ((m + 1) + 1) _ (by omega) (by omega)).mono ?_; rintro e w4 ⟨rfl, hw⟩
      have HF4 := Lib.hid (HF3.out.ext hw)
      obtain ⟨ar4, ho, hzz, -, -⟩ := HF4.out.arr
      have HOB4 := Lib.hid ho
      have HFT4 : Hid (off + j * 6 + 6 ≤ ar4.size) := by show _ ≤ _; rw [hzz]; exact HF4.out.fit
      clear hw ho hzz
      go_wp2_with (first
        | (refine wpList_store_cell rfl 9 (.tmp 37) (.tmp 33) rfl b (off + j * 6 + 2) rfl (.string (mtext ((m + 1) + 1))) rfl rfl E0 ar4 HOB4.out isz9 (by have := HFT4.out; omega) rfl ?_; intro w5 hob hg hq; have HF5 := Lib.hid (HF4.out.leaf (j := 2) rfl (v := .string (mtext ((m + 1) + 1))) (by have := mtext_size ((m + 1) + 1) (by omega); show _ ≤ maxLen; unfold maxLen; omega) HOB4.out hob hg); obtain ⟨ar5, ho, hzz, -, -⟩ := HF5.out.arr; have HOB5 := Lib.hid ho; have HFT5 : Hid (off + j * 6 + 6 ≤ ar5.size) := (by show _ ≤ _; rw [hzz]; exact HF5.out.fit); clear hob hg hq ho hzz; have hcell3 := HF5.out.cell (j := 3) rfl))
      obtain ⟨U3, hu1, hu2, hu3⟩ := HF5.out.row (j := 3) rfl rfl
      refine ((markTypeS_all v0_1_2) _ _ (((m + 1) + 1) + 1) U3 _ (by omega) hu1 hu2 (by omega)).mono ?_; rintro e w6 ⟨rfl, how, hch⟩
      have HF6 := Lib.hid (hu3 w6 _ how hch)
      clear how hch hu1 hu2 hu3 hcell3
      obtain ⟨ar6, ho, hzz, -, -⟩ := HF6.out.arr
      have HOB6 := Lib.hid ho
      have HFT6 : Hid (off + j * 6 + 6 ≤ ar6.size) := by show _ ≤ _; rw [hzz]; exact HF6.out.fit
      clear ho hzz
      go_wp2_with (first
        | (refine wpList_store_cell rfl 3 (.tmp 53) (.tmp 51) rfl b (off + j * 6 + 4) rfl (.int .i64 ((((((m + 1) + 1) + 1) + Tr.cntE (GType.trs v0_1_2)) : Nat) : Int)) (by first | rfl | (simp only [Nat.cast_add, Nat.cast_one] <;> rfl)) rfl E0 ar6 HOB6.out isz3 (by have := HFT6.out; omega) rfl ?_; intro w7 hob hg hq; have HF7 := Lib.hid (HF6.out.leaf (j := 4) rfl (v := .int .i64 ((((((m + 1) + 1) + 1) + Tr.cntE (GType.trs v0_1_2)) : Nat) : Int)) (WalkArith.wf_i64 (by omega)) HOB6.out hob hg); obtain ⟨ar7, ho, hzz, -, -⟩ := HF7.out.arr; have HOB7 := Lib.hid ho; have HFT7 : Hid (off + j * 6 + 6 ≤ ar7.size) := (by show _ ≤ _; rw [hzz]; exact HF7.out.fit); clear hob hg hq ho hzz; have hcell5 := HF7.out.cell (j := 5) rfl))
      obtain ⟨U5, hu1, hu2, hu3⟩ := HF7.out.row (j := 5) rfl rfl
      refine ((markIntS_all v2) _ _ (((((m + 1) + 1) + 1) + Tr.cntE (GType.trs v0_1_2)) + 1) U5 _ (by omega) hu1 hu2 (by omega)).mono ?_; rintro e w8 ⟨rfl, how, hch⟩
      have HF8 := Lib.hid (hu3 w8 _ how hch)
      clear how hch hu1 hu2 hu3 hcell5
      go_wp2_with fail
      go_roundw
      case rel =>
        obtain ⟨hown2, hchg2⟩ := HBK.out _ _ _ rfl HF8.out
        refine ⟨j + 1, ((((((m + 1) + 1) + 1) + Tr.cntE (GType.trs v0_1_2)) + 1) + Tr.cntE (intTrs v2)), by omega, by go_num, by first | rfl | go_num, by have h1 := HTK.out; have h2 := HM1.out; show _ = _; omega, ?_, HC1.out.trans hchg2⟩
        show Own _ _ _ _
        rw [← HMS.out]
        exact hown2
      case measure => simp [intOf]; omega
    · have hkl : j = (GAssumption.trs l).length := by rw [GAssumption.trs_len]; omega
      go_wp2_with fail
      go_ret
      have ho := HO1.out
      rw [hkl, Tr.mid_end] at ho
      have hm1 := HM1.out
      rw [hkl, List.take_length] at hm1
      subst hm1
      exact ⟨rfl, ho, HC1.out⟩
theorem markAssumptionS_all (l : List GAssumption) : MarkSC 57 6 (GAssumption.trs l) := markAssumptionS_of l

set_option maxRecDepth 100000 in
set_option maxHeartbeats 2000000 in
theorem heldAssumptionS_of (l : List GAssumption)  : HeldSC 58 6 (GAssumption.trs l) := by
  intro s kz k w hz hrep0 hbd
  subst hz
  obtain ⟨a, cap, rfl, hl, hm⟩ := hrep0.shape
  rw [Tr.markE_length, GAssumption.trs_len] at *
  unfold maxLen at hm
  have HO := Lib.hid hrep0
  clear hrep0
  go_enter Tryz.func58, Tryz.ntmps58
  go_wp2_with fail
  go_loopw [1, 5] (fun kv i wr => ∃ j m : Nat, j ≤ l.length ∧ i = .int .i64 j ∧ kv = .int .i64 (m : Int) ∧ Hid (m = k + Tr.cntE ((GAssumption.trs l).take j)) ∧ Ext w wr) (fun _ i _ => l.length - (intOf i).toNat)
  case atStart => exact ⟨0, k, Nat.zero_le _, rfl, rfl, by show _ = _; simp [Tr.cntE], .refl _⟩
  case round =>
    obtain ⟨j, m, hj, rfl, rfl, HM1, hw⟩ := hrel
    by_cases hlt : j < l.length
    · have hlt2 : j < (GAssumption.trs l).length := by rw [GAssumption.trs_len]; exact hlt
      have hge : (GAssumption.trs l)[j] = (l[j]).tr := by have h1 := GAssumption.trs_get hlt; rw [List.getElem?_eq_getElem hlt2] at h1; exact Option.some.inj h1
      have hcl := Tr.cntE_le hlt2
      have hmg := Tr.markE_get (GAssumption.trs l) k j hlt2
      have htk : Tr.cntE ((GAssumption.trs l).take (j + 1)) = Tr.cntE ((GAssumption.trs l).take j) + Tr.cntL (GAssumption.trs l)[j] := Tr.cntE_take _ j hlt2
      rw [hge] at hcl hmg htk
      have hm1 := HM1.out
      rw [← hm1] at hmg
      generalize l[j] = x at *
      obtain ⟨⟨v0_0, ⟨v0_1_0, v0_1_1, v0_1_2⟩⟩, v1, v2⟩ := x
      have htr : GAssumption.tr (.mk (.mk v0_0 (.mk v0_1_0 v0_1_1 v0_1_2)) v1 v2) = [.leaf (.string v0_0), .leaf (.int .i64 v0_1_0), .leaf (.string v0_1_1), .row 3 (GType.trs v0_1_2), .leaf (.int .i64 v1), .row 1 (intTrs v2)] := by simp [GAssumption.tr, GBound.tr, GType.tr]
      rw [htr] at hcl hmg htk
      have hcw : Tr.cntL [.leaf (.string v0_0), .leaf (.int .i64 v0_1_0), .leaf (.string v0_1_1), .row 3 (GType.trs v0_1_2), .leaf (.int .i64 v1), .row 1 (intTrs v2)] = 1 + 1 + 1 + Tr.cntE (GType.trs v0_1_2) + 1 + Tr.cntE (intTrs v2) := by simp only [Tr.cntL, Tr.cnt] <;> omega
      obtain ⟨b, off, cs0, rfl, hb, hrep, hc⟩ := (HO.out.ext hw).at2 hmg
      obtain ⟨d0, d1, d2, d3, d4, d5, rfl⟩ := list6 hrep.length.symm
      obtain ⟨rfl, -⟩ := (hrep.1).leaf_eq
      obtain ⟨rfl, -⟩ := (hrep.2.1).leaf_eq
      obtain ⟨rfl, -⟩ := (hrep.2.2.1).leaf_eq
      have HR3 := Lib.hid (hrep.2.2.2.1)
      obtain ⟨sa3, sc3, hd3, -, -⟩ := HR3.out.shape
      rw [Tr.markE_length] at hd3
      subst hd3
      obtain ⟨rfl, -⟩ := (hrep.2.2.2.2.1).leaf_eq
      have HR5 := Lib.hid (hrep.2.2.2.2.2.1)
      obtain ⟨sa5, sc5, hd5, -, -⟩ := HR5.out.shape
      rw [Tr.markE_length] at hd5
      subst hd5
      have hmb : m + (1 + 1 + 1 + Tr.cntE (GType.trs v0_1_2) + 1 + Tr.cntE (intTrs v2)) ≤ 1152921504606846976 := by rw [← hcw]; omega
      rw [hcw] at htk
      have HTK := Lib.hid htk
      have HC := Lib.hid hc
      have HB := Lib.hid hb
      have hki := hlt
      simp only [markLeaf, Tr.cnt] at *
      have hcell0 : wr.cell? ⟨b, off + j * 6, none⟩ = some _ := HC.out 0 _ rfl
      have hcell1 : wr.cell? ⟨b, off + j * 6 + 1, none⟩ = some _ := HC.out 1 _ rfl
      have hcell2 : wr.cell? ⟨b, off + j * 6 + 2, none⟩ = some _ := HC.out 2 _ rfl
      have hcell3 : wr.cell? ⟨b, off + j * 6 + 3, none⟩ = some _ := HC.out 3 _ rfl
      have hcell4 : wr.cell? ⟨b, off + j * 6 + 4, none⟩ = some _ := HC.out 4 _ rfl
      have hcell5 : wr.cell? ⟨b, off + j * 6 + 5, none⟩ = some _ := HC.out 5 _ rfl
      clear hrep hc hmg htk hge hcl hcw hm1 htr hb
      go_wp2_with fail
      have HX0 := Lib.hid (Ext.refl wr)
      refine wp_region_held_drew (S := Ext wr) (by kernel_rfl) ?_ (fun hHeld => ?_)
      · exact .drew (.refl _)
      refine wpAnyH_take (i := 0) rfl (by kernel_rfl) (by kernel_rfl) (by kernel_rfl) (fun _ _ _ h => h) (.inl ⟨rfl, fun _ _ => rfl⟩) (by assumption) ?_
      simp only [Act.put, List.getElem_toArray, List.getElem_cons_zero, List.setIfInBounds_toArray, List.set_cons_zero, List.set_cons_succ]
      refine wpAnyH_take (i := 1) rfl (by kernel_rfl) (by kernel_rfl) (by kernel_rfl) (fun _ _ _ h => h) (.inl ⟨rfl, fun _ _ => rfl⟩) (by assumption) ?_
      simp only [Act.put, List.getElem_toArray, List.getElem_cons_zero, List.getElem_cons_succ, List.setIfInBounds_toArray, List.set_cons_zero, List.set_cons_succ]
      refine wpAnyH_index (i := 2) rfl (by kernel_rfl) (by kernel_rfl) (by kernel_rfl) rfl 80 (.tmp 12) (.tmp 13) rfl (b) (off) (l.length) (cap) (j) (6) rfl rfl (hki) Tryz.underlying80 (by kernel_rfl) (by assumption) (fun _ _ _ _ h => h) ?_
      simp only [Act.put, List.getElem_toArray, List.getElem_cons_zero, List.getElem_cons_succ, List.setIfInBounds_toArray, List.set_cons_zero, List.set_cons_succ]
      refine wpAnyH_take (i := 3) rfl (by kernel_rfl) (by kernel_rfl) (by kernel_rfl) (fun _ _ _ h => h) (.inl ⟨rfl, fun _ _ => rfl⟩) (by assumption) ?_
      simp only [Act.put, List.getElem_toArray, List.getElem_cons_zero, List.getElem_cons_succ, List.setIfInBounds_toArray, List.set_cons_zero, List.set_cons_succ]
      refine wpAnyH_take (i := 4) rfl (by kernel_rfl) (by kernel_rfl) (by kernel_rfl) (fun _ _ _ h => h) (.inl ⟨rfl, fun _ _ => rfl⟩) (by assumption) ?_
      simp only [Act.put, List.getElem_toArray, List.getElem_cons_zero, List.getElem_cons_succ, List.setIfInBounds_toArray, List.set_cons_zero, List.set_cons_succ]
      refine wpAnyH_cell (i := 5) rfl (by kernel_rfl) (by kernel_rfl) (by kernel_rfl) rfl 9 (.tmp 16) rfl (b) (off + j * 6) rfl (.string (mtext m)) _ Tryz.underlying9 rfl (fun W hW => (hW.cell (p := ⟨b, off + j * 6, none⟩) (Nat.lt_of_lt_of_le HB.out (HX0.out).size)).trans hcell0) (by assumption) (fun _ _ _ _ h => h) ?_
      simp only [Act.put, List.getElem_toArray, List.getElem_cons_zero, List.getElem_cons_succ, List.setIfInBounds_toArray, List.set_cons_zero, List.set_cons_succ]
      refine wpAnyH_take (i := 6) rfl (by kernel_rfl) (by kernel_rfl) (by kernel_rfl) (fun _ _ _ h => h) (.inl ⟨rfl, fun _ _ => rfl⟩) (by assumption) ?_
      simp only [Act.put, List.getElem_toArray, List.getElem_cons_zero, List.getElem_cons_succ, List.setIfInBounds_toArray, List.set_cons_zero, List.set_cons_succ]
      refine wpAnyH_call (i := 7) (by kernel_rfl) rfl rfl (run_call_func rfl rfl #[.int .i64 _] (by simp only [List.map_toArray, List.map_cons, List.map_nil, Act.eval]; rfl) Tryz.func94 (by kernel_rfl) (by kernel_rfl) _) (markText_any _ m _ (by omega) (by omega)) ?_; rintro e wh1 ⟨rfl, hv1⟩
      have hs1 := Ext.trans hHeld hv1
      refine ⟨_, rfl, hs1, ?_⟩
      simp only [Act.put, List.getElem_toArray, List.getElem_cons_zero, List.getElem_cons_succ, List.setIfInBounds_toArray, List.set_cons_zero, List.set_cons_succ]
      refine wpAnyH_take (i := 8) rfl (by kernel_rfl) (by kernel_rfl) (by kernel_rfl) (fun _ _ _ h => h) (.inl ⟨rfl, fun _ _ => rfl⟩) (by assumption) ?_
      simp only [Act.put, List.getElem_toArray, List.getElem_cons_zero, List.getElem_cons_succ, List.setIfInBounds_toArray, List.set_cons_zero, List.set_cons_succ]
      refine wpAnyH_done (by kernel_rfl) ?_ _
      clear hHeld
      have HX1 := Lib.hid (Ext.trans HX0.out hs1)
      have hcell1 := (hs1.cell (p := ⟨b, off + j * 6 + 1, none⟩) (Nat.lt_of_lt_of_le HB.out HX0.out.size)).trans hcell1
      have hcell2 := (hs1.cell (p := ⟨b, off + j * 6 + 2, none⟩) (Nat.lt_of_lt_of_le HB.out HX0.out.size)).trans hcell2
      have hcell3 := (hs1.cell (p := ⟨b, off + j * 6 + 3, none⟩) (Nat.lt_of_lt_of_le HB.out HX0.out.size)).trans hcell3
      have hcell4 := (hs1.cell (p := ⟨b, off + j * 6 + 4, none⟩) (Nat.lt_of_lt_of_le HB.out HX0.out.size)).trans hcell4
      have hcell5 := (hs1.cell (p := ⟨b, off + j * 6 + 5, none⟩) (Nat.lt_of_lt_of_le HB.out HX0.out.size)).trans hcell5
      clear hs1 hv1
      simp only [beq_self_eq_true, Bool.not_true]
      go_wp2_with fail
      refine wp_region_held_drew (S := Ext wh1) (by kernel_rfl) ?_ (fun hHeld => ?_)
      · exact .drew (.refl _)
      refine wpAnyH_take (i := 0) rfl (by kernel_rfl) (by kernel_rfl) (by kernel_rfl) (fun _ _ _ h => h) (.inl ⟨rfl, fun _ _ => rfl⟩) (by assumption) ?_
      simp only [Act.put, List.getElem_toArray, List.getElem_cons_zero, List.setIfInBounds_toArray, List.set_cons_zero, List.set_cons_succ]
      refine wpAnyH_take (i := 1) rfl (by kernel_rfl) (by kernel_rfl) (by kernel_rfl) (fun _ _ _ h => h) (.inl ⟨rfl, fun _ _ => rfl⟩) (by assumption) ?_
      simp only [Act.put, List.getElem_toArray, List.getElem_cons_zero, List.getElem_cons_succ, List.setIfInBounds_toArray, List.set_cons_zero, List.set_cons_succ]
      refine wpAnyH_index (i := 2) rfl (by kernel_rfl) (by kernel_rfl) (by kernel_rfl) rfl 80 (.tmp 34) (.tmp 35) rfl (b) (off) (l.length) (cap) (j) (6) rfl rfl (hki) Tryz.underlying80 (by kernel_rfl) (by assumption) (fun _ _ _ _ h => h) ?_
      simp only [Act.put, List.getElem_toArray, List.getElem_cons_zero, List.getElem_cons_succ, List.setIfInBounds_toArray, List.set_cons_zero, List.set_cons_succ]
      refine wpAnyH_take (i := 3) rfl (by kernel_rfl) (by kernel_rfl) (by kernel_rfl) (fun _ _ _ h => h) (.inl ⟨rfl, fun _ _ => rfl⟩) (by assumption) ?_
      simp only [Act.put, List.getElem_toArray, List.getElem_cons_zero, List.getElem_cons_succ, List.setIfInBounds_toArray, List.set_cons_zero, List.set_cons_succ]
      refine wpAnyH_take (i := 4) rfl (by kernel_rfl) (by kernel_rfl) (by kernel_rfl) (fun _ _ _ h => h) (.inl ⟨rfl, fun _ _ => rfl⟩) (by assumption) ?_
      simp only [Act.put, List.getElem_toArray, List.getElem_cons_zero, List.getElem_cons_succ, List.setIfInBounds_toArray, List.set_cons_zero, List.set_cons_succ]
      refine wpAnyH_take (i := 5) rfl (by kernel_rfl) (by kernel_rfl) (by kernel_rfl) (fun _ _ _ h => h) (.inl ⟨rfl, fun _ _ => rfl⟩) (by assumption) ?_
      simp only [Act.put, List.getElem_toArray, List.getElem_cons_zero, List.getElem_cons_succ, List.setIfInBounds_toArray, List.set_cons_zero, List.set_cons_succ]
      refine wpAnyH_cell (i := 6) rfl (by kernel_rfl) (by kernel_rfl) (by kernel_rfl) rfl 9 (.tmp 39) rfl (b) (off + j * 6 + 2) rfl (.string (mtext ((m + 1) + 1))) _ Tryz.underlying9 rfl (fun W hW => (hW.cell (p := ⟨b, off + j * 6 + 2, none⟩) (Nat.lt_of_lt_of_le HB.out (HX1.out).size)).trans hcell2) (by assumption) (fun _ _ _ _ h => h) ?_
      simp only [Act.put, List.getElem_toArray, List.getElem_cons_zero, List.getElem_cons_succ, List.setIfInBounds_toArray, List.set_cons_zero, List.set_cons_succ]
      refine wpAnyH_take (i := 7) rfl (by kernel_rfl) (by kernel_rfl) (by kernel_rfl) (fun _ _ _ h => h) (.inl ⟨rfl, fun _ _ => rfl⟩) (by assumption) ?_
      simp only [Act.put, List.getElem_toArray, List.getElem_cons_zero, List.getElem_cons_succ, List.setIfInBounds_toArray, List.set_cons_zero, List.set_cons_succ]
      refine wpAnyH_call (i := 8) (by kernel_rfl) rfl rfl (run_call_func rfl rfl #[.int .i64 _] (by simp only [List.map_toArray, List.map_cons, List.map_nil, Act.eval]; rfl) Tryz.func94 (by kernel_rfl) (by kernel_rfl) _) (markText_any _ ((m + 1) + 1) _ (by omega) (by omega)) ?_; rintro e wh2 ⟨rfl, hv2⟩
      have hs1 := Ext.trans hHeld hv2
      refine ⟨_, rfl, hs1, ?_⟩
      simp only [Act.put, List.getElem_toArray, List.getElem_cons_zero, List.getElem_cons_succ, List.setIfInBounds_toArray, List.set_cons_zero, List.set_cons_succ]
      refine wpAnyH_take (i := 9) rfl (by kernel_rfl) (by kernel_rfl) (by kernel_rfl) (fun _ _ _ h => h) (.inl ⟨rfl, fun _ _ => rfl⟩) (by assumption) ?_
      simp only [Act.put, List.getElem_toArray, List.getElem_cons_zero, List.getElem_cons_succ, List.setIfInBounds_toArray, List.set_cons_zero, List.set_cons_succ]
      refine wpAnyH_done (by kernel_rfl) ?_ _
      clear hHeld
      have HX2 := Lib.hid (Ext.trans HX1.out hs1)
      have hcell3 := (hs1.cell (p := ⟨b, off + j * 6 + 3, none⟩) (Nat.lt_of_lt_of_le HB.out HX1.out.size)).trans hcell3
      have hcell4 := (hs1.cell (p := ⟨b, off + j * 6 + 4, none⟩) (Nat.lt_of_lt_of_le HB.out HX1.out.size)).trans hcell4
      have hcell5 := (hs1.cell (p := ⟨b, off + j * 6 + 5, none⟩) (Nat.lt_of_lt_of_le HB.out HX1.out.size)).trans hcell5
      clear hs1 hv2
      simp only [beq_self_eq_true, Bool.not_true]
      go_wp2_with fail
      refine ((heldTypeS_all v0_1_2) _ _ (((m + 1) + 1) + 1) _ (by omega) (HR3.out.ext HX2.out) (by omega)).mono ?_; rintro e wh3 ⟨rfl, hv3⟩
      have HX3 := Lib.hid (Ext.trans HX2.out hv3)
      have hcell4 := (hv3.cell (p := ⟨b, off + j * 6 + 4, none⟩) (Nat.lt_of_lt_of_le HB.out HX2.out.size)).trans hcell4
      have hcell5 := (hv3.cell (p := ⟨b, off + j * 6 + 5, none⟩) (Nat.lt_of_lt_of_le HB.out HX2.out.size)).trans hcell5
      clear hv3
      have hng : ¬ ((((((m + 1) + 1) + 1) + Tr.cntE (GType.trs v0_1_2)) : Nat) : Int) < 0 := by omega
      go_wp2_with fail
      refine ((heldIntS_all v2) _ _ (((((m + 1) + 1) + 1) + Tr.cntE (GType.trs v0_1_2)) + 1) _ (by omega) (HR5.out.ext HX3.out) (by omega)).mono ?_; rintro e wh4 ⟨rfl, hv4⟩
      have HX4 := Lib.hid (Ext.trans HX3.out hv4)
      clear hv4
      have hng : ¬ ((((((((m + 1) + 1) + 1) + Tr.cntE (GType.trs v0_1_2)) + 1) + Tr.cntE (intTrs v2)) : Nat) : Int) < 0 := by omega
      go_wp2_with fail
      go_roundw
      case rel => exact ⟨j + 1, ((((((m + 1) + 1) + 1) + Tr.cntE (GType.trs v0_1_2)) + 1) + Tr.cntE (intTrs v2)), by omega, by go_num, by first | rfl | go_num, by have h1 := HTK.out; have h2 := HM1.out; show _ = _; omega, hw.trans HX4.out⟩
      case measure => simp [intOf]; omega
    · have hkl : j = (GAssumption.trs l).length := by rw [GAssumption.trs_len]; omega
      go_wp2_with fail
      go_ret
      have hm1 := HM1.out
      rw [hkl, List.take_length] at hm1
      subst hm1
      exact ⟨rfl, hw⟩
theorem heldAssumptionS_all (l : List GAssumption) : HeldSC 58 6 (GAssumption.trs l) := heldAssumptionS_of l

end Go.Proofs.YtnakkelglbcecaaGreat
