/- Words, rules and walks of several kinds, laid together: OkIn, EndOk. No conditions but those that each theorem states. -/
import Derived.Test.YtmpepccpnnldoaaQh09fef464
import Derived.Test.YtmpepccpnnldoaaQh8478a53f
import Derived.Test.YtmpepccpnnldoaaQh806d8a02
import Derived.Test.YtmpepccpnnldoaaQh6152063c
set_option linter.unusedSimpArgs false
set_option linter.unusedVariables false
namespace Go.Proofs.Ytmpepccpnnldoaa
set_option linter.unusedSimpArgs false
set_option linter.unusedVariables false
open Go.RowKit Go.WalkArith Go.IntWalk

structure InstOk (B : Nat) (x : GInstance) : Prop where
  bulk : Tr.bulkL x.tr ≤ B
  head : TyG 500 x.gHead
  assoc : TyG 500 x.gAssoc
  whl : x.gWhere.length ≤ 2
  wh : ∀ b ∈ x.gWhere, TyG 500 b.gType
theorem inst_mk {a0 : ByteArray} {a1 : List ByteArray} {a2 : GType} {a3 : List GBound} {a4 a5 : Bool} {a6 : GType} {m : ByteArray} {mv : List ByteArray} {e : GExpr} (h0 : a0.size ≤ 8) (h1 : a1.length ≤ 3 ∧ Tr.bulkAll (strTrs a1) ≤ 24) (h2 : TyG 500 a2) (h3 : a3.length ≤ 2) (h3b : Tr.bulkAll (GBound.trs a3) ≤ 1000) (h3c : ∀ b ∈ a3, TyG 500 b.gType) (h6 : TyG 500 a6)
    (hm : m.size ≤ 8) (hmv : mv.length + Tr.bulkAll (strTrs mv) ≤ 20) (he : Tr.bulkL e.tr ≤ 5000) : InstOk 8000 (.mk a0 a1 a2 a3 a4 a5 a6 [.mk m mv e]) := by
  refine ⟨?_, h2, h6, h3, h3c⟩
  rw [GInstance.bk_mk, GMethod.bks_cons, GMethod.bks_nil, GMethod.bk_mk]
  have := h2.1
  have := h6.1
  simp only [List.length_cons, List.length_nil]
  omega
def TInst (fu : Nat) : Prop := ∀ d, Ok (sl13Inst_M fu d) (fun q => InstOk 8000 q.1)
theorem tInst : Evt TInst := (tFree.and (tTy.and tExpr)).imp fun fu ⟨hF, hT, hE⟩ d => by
  unfold sl13Inst_M
  try simp only [ltE2, ty_eta, s_, s_A, s_a, s_abcdefghi, s_add, s_assoc, s_b, s_bool, s_box, s_c, s_case, s_cons, s_dyn, s_eq, s_f, s_false, s_g, s_h, s_if, s_int, s_let, s_list, s_m, s_m0, s_method, s_new, s_nil, s_ord, s_pack, s_pair, s_show, s_t, s_true, s_unit, s_x, s_y, x_20, x_27, x_272d2b2a3c3d2e, x_28, x_29, x_2a, x_2b, x_2d, x_3c, x_3d]
  have p1 := DS.pick_size d (l := [⟨#[115, 104, 111, 119]⟩, ⟨#[101, 113]⟩, ⟨#[97, 100, 100]⟩]) (k := 8) (by simp) (names3 (by decide) (by decide) (by decide))
  refine Ok.bd (int11_ok fu _) fun e he => ?_; refine Ok.sok (E := fun ⟨v5, v6, v7, v8, v9, _⟩ => v5.length ≤ 2 ∧ (∀ v ∈ v5, v.size ≤ 8) ∧ Tr.bulkAll (strTrs v5) ≤ 16 ∧ TyG 100 (.mk v6 v7 v8) ∧ v9.length ≤ 1 ∧ Tr.bulkAll (GBound.trs v9) ≤ 200 ∧ ∀ b ∈ v9, TyG 100 b.gType) ?_ ?_
  · unfold sl13Inst_C1
    try simp only [ltE2, ty_eta, s_, s_A, s_a, s_abcdefghi, s_add, s_assoc, s_b, s_bool, s_box, s_c, s_case, s_cons, s_dyn, s_eq, s_f, s_false, s_g, s_h, s_if, s_int, s_let, s_list, s_m, s_m0, s_method, s_new, s_nil, s_ord, s_pack, s_pair, s_show, s_t, s_true, s_unit, s_x, s_y, x_20, x_27, x_272d2b2a3c3d2e, x_28, x_29, x_2a, x_2b, x_2d, x_3c, x_3d]
    have va : ∀ n : ByteArray, n.size ≤ 8 → TyG 20 (.mk 1 n []) := fun n hn => tyG0 (by decide) (by omega)
    refine Ok.sw (fun _ => Ok.bd (int_ok fu) ?_) fun _ => Ok.sw (fun _ => Ok.bd (var_ok fu _) ?_) fun _ => Ok.sw (fun _ => Ok.bd (var_ok fu _) ?_) fun _ => Ok.bd (var_ok fu _) ?_
    · rintro t rfl
      refine Ok.some ?_
      dsimp only [PS, GType.gKind_mk, GType.gName_mk, GType.gArgs_mk]
      exact ⟨by simp, by simp, by rw [str_nil]; omega, tyG0 (by decide) (by decide), by simp, by rw [GBound.bks_nil]; omega, by simp⟩
    · rintro t rfl
      refine Ok.bd (con_ok fu _ _ (by simp)) ?_; rintro t rfl
      refine Ok.some ?_
      dsimp only [PS, GType.gKind_mk, GType.gName_mk, GType.gArgs_mk]
      refine ⟨by simp, by intro v hv; obtain rfl := List.mem_singleton.1 hv; decide, by rw [str_cons, str_nil]; decide, tyG1 (va ⟨#[97]⟩ (by decide)) (by decide) (by decide) (fun _ => by decide), by simp, ?_, ?_⟩
      · rw [GBound.bks_cons, GBound.bks_nil, GBound.bk_mk]; have := (va ⟨#[97]⟩ (by decide)).1; omega
      · intro b hb; obtain rfl := List.mem_singleton.1 hb; exact (va ⟨#[97]⟩ (by decide)).mono (by omega)
    · rintro t rfl
      refine Ok.bd (var_ok fu _) ?_; rintro t rfl
      refine Ok.bd (con_ok fu _ _ (by simp)) ?_; rintro t rfl
      refine Ok.some ?_
      dsimp only [PS, GType.gKind_mk, GType.gName_mk, GType.gArgs_mk]
      exact ⟨by simp, names2 (by decide) (by decide), by rw [str_cons, str_cons, str_nil]; decide, tyG2 (va ⟨#[97]⟩ (by decide)) (va ⟨#[98]⟩ (by decide)) (by decide) (by decide) (fun _ => by decide), by simp, by rw [GBound.bks_nil]; omega, by simp⟩
    · rintro t rfl
      refine Ok.some ?_
      dsimp only [PS, GType.gKind_mk, GType.gName_mk, GType.gArgs_mk]
      refine ⟨by simp, by intro v hv; obtain rfl := List.mem_singleton.1 hv; decide, by rw [str_cons, str_nil]; decide, (va ⟨#[97]⟩ (by decide)).mono (by omega), by simp, ?_, ?_⟩
      · rw [GBound.bks_cons, GBound.bks_nil, GBound.bk_mk]; have := (va ⟨#[97]⟩ (by decide)).1; have h3 : (⟨#[111, 114, 100]⟩ : ByteArray).size = 3 := rfl; omega
      · intro b hb; obtain rfl := List.mem_singleton.1 hb; exact (va ⟨#[97]⟩ (by decide)).mono (by omega)
  rintro ⟨v5, v6, v7, v8, v9, vD⟩ ⟨hl, hn, hb, ht, hwl, hwb, hw⟩
  refine Ok.sok (E := fun ⟨a, b, k, n, D⟩ => TyG 100 (.mk k n a)) ?_ ?_
  · unfold sl13Inst_C2
    try simp only [ltE2, ty_eta, s_, s_A, s_a, s_abcdefghi, s_add, s_assoc, s_b, s_bool, s_box, s_c, s_case, s_cons, s_dyn, s_eq, s_f, s_false, s_g, s_h, s_if, s_int, s_let, s_list, s_m, s_m0, s_method, s_new, s_nil, s_ord, s_pack, s_pair, s_show, s_t, s_true, s_unit, s_x, s_y, x_20, x_27, x_272d2b2a3c3d2e, x_28, x_29, x_2a, x_2b, x_2d, x_3c, x_3d]
    refine Ok.sw (fun _ => Ok.bd (hT 1 (by omega) _ _ hn) ?_) fun _ => Ok.some (show TyG 100 (.mk 0 ⟨#[]⟩ []) from tyG0 (by decide) (by decide))
    rintro ⟨t, D⟩ ht
    exact Ok.some (ht.eta.mono (by decide))
  rintro ⟨a, b, k, n, D⟩ ha
  have ht5 := ht.mono (show 100 ≤ 500 by omega)
  have ha5 := ha.mono (show 100 ≤ 500 by omega)
  have hw5 : ∀ b ∈ v9, TyG 500 b.gType := fun b hb => (hw b hb).mono (by omega)
  have hx1 : ([⟨#[120]⟩] : List ByteArray).length + Tr.bulkAll (strTrs [⟨#[120]⟩]) ≤ 20 := by rw [str_cons, str_nil]; decide
  have hx0 : ([] : List ByteArray).length + Tr.bulkAll (strTrs []) ≤ 20 := by rw [str_nil]; decide
  dsimp only
  refine Ok.sw (fun _ => ?_) fun _ => Ok.sw (fun _ => ?_) fun _ => Ok.sw (fun _ => ?_) fun _ => Ok.sw (fun _ => ?_) fun _ => Ok.sw (fun _ => ?_) fun _ => Ok.sw (fun _ => ?_) fun _ => ?_
  · refine Ok.bd (hF 2 (by omega) (by decide) _) ?_; rintro ⟨t, D2⟩ ht2
    dsimp only
    exact Ok.some (inst_mk p1 ⟨by omega, by omega⟩ (ht2.mono (by decide)) (by omega) (by omega) hw5 ha5 (by decide) hx1 (by omega))
  · have p2 := DS.pick_size ((D.after 4).after 12) (l := [⟨#[97]⟩, ⟨#[99]⟩]) (k := 8) (by simp) (names2 (by decide) (by decide))
    refine Ok.gd (by simp only [List.length_cons, List.length_nil]; omega) (Ok.some (inst_mk p1 ⟨by simp; omega, by rw [str_app, str_cons, str_nil]; omega⟩ ht5 (by omega) (by omega) hw5 ha5 (by decide) hx1 (by omega)))
  · refine Ok.bd (hF 1 (by omega) (by decide) _) ?_; rintro ⟨t, D2⟩ ht2
    dsimp only
    have ht2 : TyG (bty 1 + 20) t := ht2
    refine Ok.gd (by simp only [List.length_cons, List.length_nil]; omega) (Ok.some (inst_mk p1 ⟨by omega, by omega⟩ ht5 (by simp; omega) ?_ ?_ ha5 (by decide) hx1 (by omega)))
    · have := ht2.1
      rw [GBound.bks_app, GBound.bks_cons, GBound.bks_nil, GBound.bk_mk]
      have h2 : (⟨#[101, 113]⟩ : ByteArray).size = 2 := rfl
      simp only [bty] at this
      omega
    · intro b hb
      rcases List.mem_append.1 hb with hb | hb
      · exact hw5 b hb
      · obtain rfl := List.mem_singleton.1 hb
        exact ht2.mono (by decide)
  · refine Ok.bd (hE 2 (by omega) _ _ (by simp) (names2 (by decide) (by decide))) ?_; rintro ⟨e2, D2⟩ he2
    dsimp only
    have he2 : Tr.bulkL e2.tr ≤ bex 2 := he2
    exact Ok.some (inst_mk p1 ⟨by omega, by omega⟩ ht5 (by omega) (by omega) hw5 ha5 (by decide) hx1 (by simp only [bex] at he2; omega))
  · refine Ok.bd (int_ok fu) ?_; rintro t rfl
    exact Ok.some (inst_mk p1 ⟨by omega, by omega⟩ ht5 (by omega) (by omega) hw5 (tyG0 (by decide) (by decide)) (by decide) hx1 (by omega))
  · exact Ok.some (inst_mk p1 ⟨by omega, by omega⟩ ht5 (by omega) (by omega) hw5 ha5 (by decide) hx0 (by omega))
  · exact Ok.some (inst_mk p1 ⟨by omega, by omega⟩ ht5 (by omega) (by omega) hw5 ha5 (by decide) hx1 (by omega))
end Go.Proofs.Ytmpepccpnnldoaa

namespace Go.Proofs.Ytmpepccpnnldoaa
set_option linter.unusedSimpArgs false
set_option linter.unusedVariables false
open Go.RowKit Go.WalkArith Go.IntWalk

theorem names5 {a b c d e : ByteArray} {k : Nat} (ha : a.size ≤ k) (hb : b.size ≤ k) (hc : c.size ≤ k) (hd : d.size ≤ k) (he : e.size ≤ k) : ∀ v ∈ [a, b, c, d, e], v.size ≤ k := by
  intro v hv
  simp only [List.mem_cons, List.not_mem_nil, or_false] at hv
  rcases hv with rfl | rfl | rfl | rfl | rfl <;> assumption
/-- A type that may be bent. -/
def TBent (fu : Nat) : Prop := ∀ d, Ok (sl4Bent_M fu d) (fun q => Tr.bulkL q.1.tr ≤ 1000)
theorem tBent : Evt TBent := tFree.imp fun fu hF d => by
  unfold sl4Bent_M
  refine Ok.bd (hF 3 (by omega) (by decide) d) ?_; rintro ⟨⟨k, n, xs⟩, D⟩ ht
  have hb : Tr.bulkL (GType.mk k n xs).tr ≤ 320 := ht.1
  rw [ty_bulk] at hb
  dsimp only [ltE2, GType.gKind_mk, GType.gName_mk, GType.gArgs_mk]
  refine Ok.sw (fun _ => Ok.some ?_) (fun _ => ?_)
  · rw [ty_bulk]; omega
  refine Ok.sw (fun _ => Ok.some ?_) (fun _ => ?_)
  · have hp := DS.pick_size (D.after 12) (l := [s_, s_int, s_A, s_assoc, s_abcdefghi]) (k := 9) (by simp) (names5 (by decide) (by decide) (by decide) (by decide) (by decide))
    rw [ty_bulk]; omega
  refine Ok.sw (fun _ => ?_) (fun _ => ?_)
  · refine Ok.bd (int_ok fu) ?_; rintro u rfl
    refine Ok.bd (Q := fun u => u = .mk 2 s_bool []) (by unfold sl4Bool_M; refine Ok.bd (con_ok fu _ _ (by simp)) ?_; rintro t rfl; exact Ok.some rfl) ?_; rintro u rfl
    refine Ok.gd (by simp only [List.length_cons, List.length_nil]; omega) (Ok.some ?_)
    rw [ty_bulk, GType.bks_app, GType.bks_cons, GType.bks_cons, GType.bks_cons, GType.bks_nil, ty_bulk, ty_bulk, GType.bks_nil]
    have h1 : (⟨#[105, 110, 116]⟩ : ByteArray).size = 3 := rfl
    have h2 : s_bool.size = 4 := rfl
    simp only [List.length_append, List.length_cons, List.length_nil]
    omega
  refine Ok.sw (fun _ => ?_) (fun _ => Ok.some (by rw [ty_bulk]; omega))
  refine Ok.sok (E := fun q : Int × ByteArray × List GType => Tr.bulkL (GType.mk q.1 q.2.1 q.2.2).tr ≤ 1000) ?_ ?_
  · unfold sl4Bent_R1
    refine Ok.loopN0 (fun i (q : Int × ByteArray × List GType) => i ≤ 6 ∧ Tr.bulkL (GType.mk q.1 q.2.1 q.2.2).tr ≤ 320 + 5 * i) ⟨by omega, by dsimp only [GType.gKind_mk, GType.gName_mk, GType.gArgs_mk]; rw [ty_bulk]; omega⟩ ?_ ?_
    · rintro i q hi ⟨h1, h2⟩
      omega
    · rintro i ⟨a, b, c⟩ hi ⟨h1, h2⟩
      dsimp only at h2
      unfold sl4Bent_F1
      refine Ok.bd (con_ok fu _ _ (by simp)) ?_; rintro t rfl
      refine Ok.some ⟨by omega, ?_⟩
      dsimp only [GType.gKind_mk, GType.gName_mk, GType.gArgs_mk]
      rw [ty_bulk, GType.bks_cons, GType.bks_nil]
      have h3 : s_list.size = 4 := rfl
      simp only [List.length_cons, List.length_nil]
      omega
  · rintro ⟨a, b, c⟩ h
    exact Ok.some h
/-- The types that are bound are small. -/
def BdA (l : List GBinding) : Prop := ∀ b ∈ l, Tr.bulkL (GType.tr b.gType) ≤ 1000
theorem look_ok (fu : Nat) (l : List GBinding) (v : ByteArray) (hf : 3000 ≤ fu) (hl : BdA l) : Ok (sLookup_M fu l v) (fun _ => True) := by
  unfold sLookup_M
  refine Ok.so (Q := fun _ => True) ?_ (fun _ _ => trivial) (fun _ _ => Ok.some trivial)
  unfold sLookup_R1
  refine (Ok.loopN0 (Q := fun _ => True) (E := fun _ => True) (fun _ _ => True) trivial (fun _ _ _ _ => trivial) ?_).mono (fun _ _ => trivial)
  rintro i s hi -
  have hi : i < l.length := by omega
  unfold sLookup_F1
  refine Ok.sw (fun _ => ?_) (fun _ => Ok.some trivial)
  rw [atD_eq hi]
  have hb := hl _ (List.getElem_mem hi)
  have hz := GType.size_bulk (l[i]).gType
  refine Ok.bd (copy_ok _ fu (by omega) (by omega)) ?_; rintro u rfl
  exact Ok.some trivial
theorem BdA.snoc {l : List GBinding} {v : ByteArray} {t : GType} (h : BdA l) (ht : Tr.bulkL t.tr ≤ 1000) : BdA (l ++ [GBinding.mk v t]) := by
  intro b hb
  rcases List.mem_append.1 hb with hb | hb
  · exact h b hb
  · obtain rfl := List.mem_singleton.1 hb
    exact ht
theorem step_ok (fu : Nat) (hF : TFree fu) (hf : 3000 ≤ fu) (s : List GBinding × DS) (h : BdA s.1) : Ok (stepB fu s) (fun q => BdA q.1) := by
  unfold stepB
  refine Ok.bd (hF 2 (by omega) (by decide) _) ?_; rintro ⟨t, D⟩ ht
  have hb : Tr.bulkL t.tr ≤ 1000 := Nat.le_trans ht.1 (by decide)
  refine Ok.bd (look_ok fu _ _ hf h) ?_; rintro ⟨u, b⟩ -
  split
  · split
    · exact Ok.some (h.snoc hb)
    · exact Ok.some h
  · exact Ok.some (h.snoc hb)
theorem run_ok (fu : Nat) (hF : TFree fu) (hf : 3000 ≤ fu) : ∀ (k : Nat) (s : List GBinding × DS), BdA s.1 → Ok (runB fu k s) (fun q => BdA q.1)
  | 0, s, h => Ok.some h
  | k + 1, s, h => Ok.bd (step_ok fu hF hf s h) fun q hq => run_ok fu hF hf k q hq
theorem binds_ok (fu : Nat) (hF : TFree fu) (hB : TBent fu) (hf : 3000 ≤ fu) (d : DS) : Ok (sl6Binds_M fu d) (fun q => BdA q.1) := by
  unfold sl6Binds_M
  refine Ok.bd (run_ok fu hF hf _ _ (by intro b hb; simp at hb)) ?_; rintro ⟨l, D⟩ hl
  have hl : BdA l := hl
  unfold endB
  split
  · split
    · refine Ok.bd (hB _) ?_; rintro ⟨t, D'⟩ ht
      have ht : Tr.bulkL t.tr ≤ 1000 := ht
      refine Ok.some ?_
      match l, hl with
      | [], _ => intro b hb; simp [setHd] at hb
      | a :: l, hl =>
        intro b hb
        rcases List.mem_cons.1 hb with rfl | hb
        · exact ht
        · exact hl b (by simp [hb])
    · exact Ok.some hl
  · exact Ok.some hl
theorem applyL_bulk {l : List GBinding} : ∀ {xs : List GType}, (∀ x ∈ xs, Tr.bulkL (applyT l x).tr ≤ Tr.bulkL x.tr + 1000 * GType.size x) → Tr.bulkAll (GType.trs (applyL l xs)) ≤ Tr.bulkAll (GType.trs xs) + 1000 * GType.sizes xs
  | [], _ => by simp [applyL]
  | x :: r, h => by
    have h1 := h x (by simp)
    have h2 := applyL_bulk (xs := r) fun y hy => h y (by simp [hy])
    simp only [applyL, GType.trs, Tr.bulkAll, GType.sizes] at *
    omega
theorem apply_bulk {l : List GBinding} (hl : BdA l) : ∀ t : GType, Tr.bulkL (applyT l t).tr ≤ Tr.bulkL t.tr + 1000 * GType.size t := by
  refine GType.ind fun k n xs ih => ?_
  have hx := applyL_bulk ih
  have node : Tr.bulkL (GType.mk k n (applyL l xs)).tr ≤ Tr.bulkL (GType.mk k n xs).tr + 1000 * GType.size (.mk k n xs) := by
    rw [ty_bulk, ty_bulk, applyL_len]
    simp only [GType.size]
    omega
  rw [applyT]
  split
  · split
    · rename_i b hb
      have h1 := hl b (List.mem_of_find?_eq_some hb)
      simp only [GType.size]
      omega
    · exact node
  · exact node
theorem ends_ok (code : List UInt8) : ∃ fu, lFnEnds_M fu code = some true := by
  obtain ⟨fu, ⟨hI, hF, hB⟩, hf⟩ := ((tInst.and (tFree.and tBent)).and (Evt.ge 3000)).get
  refine ⟨fu, ?_⟩
  suffices h : Ok (lFnEnds_M fu code) (fun r => r = true) by
    obtain ⟨r, h1, h2⟩ := h
    rw [h1, h2]
  unfold lFnEnds_M lbig_M
  refine Ok.bd (Ok.some rfl) ?_; rintro x rfl
  refine Ok.sw (fun _ => Ok.some rfl) (fun hc => ?_)
  have hlen : code.length ≤ 1048576 := by simp only [decide_eq_false_iff_not] at hc; omega
  refine Ok.bd (Q := fun x => InstOk 8000 x) (by unfold sDrawSatisfiesTermination_M; refine Ok.gd hlen (Ok.bd (hI _) ?_); rintro ⟨x, d⟩ hx; exact Ok.some hx) ?_; intro x hx
  have sz : ∀ t : GType, Tr.bulkL t.tr ≤ 500 → GType.size t ≤ 501 := fun t ht => by have := GType.size_bulk t; omega
  have hsm : GInstance.small x := ⟨by have := sz _ hx.head.1; omega, fun b hb => by have := sz _ (hx.wh b hb).1; omega⟩
  refine Ok.gd hsm (Ok.sw (fun h => by simp at h) (fun _ => Ok.sw (fun _ => Ok.some (by simp)) (fun ht => ?_)))
  have hterm : GInstance.term x = true := by simpa using ht
  refine Ok.bd (Q := fun l => l.length ≤ 1048576) ?_ ?_
  · unfold ltail_M
    refine Ok.sw (fun _ => Ok.some hlen) (fun hc => ?_)
    have hne : code.length ≠ 0 := by simp only [decide_eq_false_iff_not] at hc; omega
    refine Ok.gd (by omega) (Ok.some ?_)
    simp only [List.length_drop, List.length_take]
    omega
  intro tl htl
  refine Ok.bd (Q := fun q => BdA q.1) (by unfold sDrawApply_M; refine Ok.gd htl (Ok.bd (binds_ok fu hF hB hf _) ?_); rintro ⟨l, d⟩ hl; refine Ok.bd (hB _) ?_; rintro ⟨t, d'⟩ ht; exact Ok.some hl) ?_; rintro ⟨l, t⟩ hl
  have hl : BdA l := hl
  refine Ok.sw (fun _ => Ok.some rfl) (fun _ => ?_)
  refine Ok.sok (E := fun _ => True) ?_ (fun _ _ => Ok.some rfl)
  unfold lFnEnds_R1
  refine Ok.loopN0 (fun _ _ => True) trivial (fun _ _ _ _ => trivial) ?_; rintro i s hi -
  have hi : i < x.gWhere.length := by omega
  unfold lFnEnds_F1
  rw [atD_eq hi]
  have hw := (hx.wh _ (List.getElem_mem hi)).1
  have hh := hx.head.1
  have a1 := apply_bulk hl (x.gWhere[i]).gType
  have a2 := apply_bulk hl x.gHead
  have s1 := sz _ hw
  have s2 := sz _ hh
  refine Ok.gd (fun b hb => Nat.le_trans (hl b hb) (by decide)) (Ok.gd (by omega) (Ok.gd (by omega) (Ok.gd (by omega) (Ok.gd (by omega) ?_))))
  have hlt : GType.size (applyT l (x.gWhere[i]).gType) < GType.size (applyT l x.gHead) := by
    refine smaller_apply (b := x.gWhere[i]) ?_ (fun u hu => (hx.head.2 u hu).2.1) l
    unfold GInstance.term at hterm
    exact List.all_eq_true.1 hterm _ (List.getElem_mem hi)
  refine Ok.sw (fun h => ?_) (fun _ => Ok.some trivial)
  simp only [ge_iff_le, decide_eq_true_eq] at h
  omega
theorem ends_fn (code : List UInt8) : AFun Try.prog 3 [rU code] (pB true) := by
  obtain ⟨fu, e⟩ := ends_ok code
  exact lFnEnds_ok fu code true e
end Go.Proofs.Ytmpepccpnnldoaa
