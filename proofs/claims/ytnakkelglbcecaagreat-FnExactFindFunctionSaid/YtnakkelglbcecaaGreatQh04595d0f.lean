/- Words, rules and walks of several kinds, laid together: MarksE, MarksH, MarksI. No conditions but those that each theorem states. -/
import Derived.Test.YtnakkelglbcecaaGreatQh811198d3
import Derived.Test.YtnakkelglbcecaaGreatQhd8db69fa
import Derived.Test.YtnakkelglbcecaaGreatQh040be154
import Derived.WalkArith
import Derived.Test.YtnakkelglbcecaaGreatQh1e02a046
import Derived.Test.YtnakkelglbcecaaGreatQh53efcb64
set_option linter.unusedSimpArgs false
set_option linter.unusedVariables false
namespace Go.Proofs.YtnakkelglbcecaaGreat
open Go.RowKit Go.Proofs

set_option maxRecDepth 100000 in
set_option maxHeartbeats 2000000 in
theorem heldTypeS_of (l : List GType) (H2 : ∀ x ∈ l, HeldSC 109 3 (GType.trs x.gArgs)) : HeldSC 109 3 (GType.trs l) := by
  intro s kz k w hz hrep0 hbd
  subst hz
  obtain ⟨a, cap, rfl, hl, hm⟩ := hrep0.shape
  rw [Tr.markE_length, GType.trs_len] at *
  unfold maxLen at hm
  have HO := Lib.hid hrep0
  have HH2 := Lib.hid H2
  clear H2
  clear hrep0
  go_enter Tryz.func109, Tryz.ntmps109
  go_wp2_with fail
  go_loopw [1, 5] (fun kv i wr => ∃ j m : Nat, j ≤ l.length ∧ i = .int .i64 j ∧ kv = .int .i64 (m : Int) ∧ Hid (m = k + Tr.cntE ((GType.trs l).take j)) ∧ Ext w wr) (fun _ i _ => l.length - (intOf i).toNat)
  case atStart => exact ⟨0, k, Nat.zero_le _, rfl, rfl, by show _ = _; simp [Tr.cntE], .refl _⟩
  case round =>
    obtain ⟨j, m, hj, rfl, rfl, HM1, hw⟩ := hrel
    by_cases hlt : j < l.length
    · have hlt2 : j < (GType.trs l).length := by rw [GType.trs_len]; exact hlt
      have hge : (GType.trs l)[j] = (l[j]).tr := by have h1 := GType.trs_get hlt; rw [List.getElem?_eq_getElem hlt2] at h1; exact Option.some.inj h1
      have hcl := Tr.cntE_le hlt2
      have hmg := Tr.markE_get (GType.trs l) k j hlt2
      have htk : Tr.cntE ((GType.trs l).take (j + 1)) = Tr.cntE ((GType.trs l).take j) + Tr.cntL (GType.trs l)[j] := Tr.cntE_take _ j hlt2
      rw [hge] at hcl hmg htk
      have hm1 := HM1.out
      rw [← hm1] at hmg
      have HM2 := Lib.hid (HH2.out _ (List.getElem_mem hlt))
      generalize l[j] = x at *
      obtain ⟨v0, v1, v2⟩ := x
      have HM2 : Hid (HeldSC 109 3 (GType.trs v2)) := HM2
      have htr : GType.tr (.mk v0 v1 v2) = [.leaf (.int .i64 v0), .leaf (.string v1), .row 3 (GType.trs v2)] := by simp [GType.tr]
      rw [htr] at hcl hmg htk
      have hcw : Tr.cntL [.leaf (.int .i64 v0), .leaf (.string v1), .row 3 (GType.trs v2)] = 1 + 1 + Tr.cntE (GType.trs v2) := by simp only [Tr.cntL, Tr.cnt] <;> omega
      obtain ⟨b, off, cs0, rfl, hb, hrep, hc⟩ := (HO.out.ext hw).at2 hmg
      obtain ⟨d0, d1, d2, rfl⟩ := list3 hrep.length.symm
      obtain ⟨rfl, -⟩ := (hrep.1).leaf_eq
      obtain ⟨rfl, -⟩ := (hrep.2.1).leaf_eq
      have HR2 := Lib.hid (hrep.2.2.1)
      obtain ⟨sa2, sc2, hd2, -, -⟩ := HR2.out.shape
      rw [Tr.markE_length] at hd2
      subst hd2
      have hmb : m + (1 + 1 + Tr.cntE (GType.trs v2)) ≤ 1152921504606846976 := by rw [← hcw]; omega
      rw [hcw] at htk
      have HTK := Lib.hid htk
      have HC := Lib.hid hc
      have HB := Lib.hid hb
      have hki := hlt
      simp only [markLeaf, Tr.cnt] at *
      have hcell0 : wr.cell? ⟨b, off + j * 3, none⟩ = some _ := HC.out 0 _ rfl
      have hcell1 : wr.cell? ⟨b, off + j * 3 + 1, none⟩ = some _ := HC.out 1 _ rfl
      have hcell2 : wr.cell? ⟨b, off + j * 3 + 2, none⟩ = some _ := HC.out 2 _ rfl
      clear hrep hc hmg htk hge hcl hcw hm1 htr hb
      go_wp2_with fail
      have HX0 := Lib.hid (Ext.refl wr)
      refine wp_region_held_drew (S := Ext wr) (by kernel_rfl) ?_ (fun hHeld => ?_)
      · exact .drew (.refl _)
      refine wpAnyH_take (i := 0) rfl (by kernel_rfl) (by kernel_rfl) (by kernel_rfl) (fun _ _ _ h => h) (.inl ⟨rfl, fun _ _ => rfl⟩) (by assumption) ?_
      simp only [Act.put, List.getElem_toArray, List.getElem_cons_zero, List.setIfInBounds_toArray, List.set_cons_zero, List.set_cons_succ]
      refine wpAnyH_take (i := 1) rfl (by kernel_rfl) (by kernel_rfl) (by kernel_rfl) (fun _ _ _ h => h) (.inl ⟨rfl, fun _ _ => rfl⟩) (by assumption) ?_
      simp only [Act.put, List.getElem_toArray, List.getElem_cons_zero, List.getElem_cons_succ, List.setIfInBounds_toArray, List.set_cons_zero, List.set_cons_succ]
      refine wpAnyH_index (i := 2) rfl (by kernel_rfl) (by kernel_rfl) (by kernel_rfl) rfl 45 (.tmp 21) (.tmp 22) rfl (b) (off) (l.length) (cap) (j) (3) rfl rfl (hki) Tryz.underlying45 (by kernel_rfl) (by assumption) (fun _ _ _ _ h => h) ?_
      simp only [Act.put, List.getElem_toArray, List.getElem_cons_zero, List.getElem_cons_succ, List.setIfInBounds_toArray, List.set_cons_zero, List.set_cons_succ]
      refine wpAnyH_take (i := 3) rfl (by kernel_rfl) (by kernel_rfl) (by kernel_rfl) (fun _ _ _ h => h) (.inl ⟨rfl, fun _ _ => rfl⟩) (by assumption) ?_
      simp only [Act.put, List.getElem_toArray, List.getElem_cons_zero, List.getElem_cons_succ, List.setIfInBounds_toArray, List.set_cons_zero, List.set_cons_succ]
      refine wpAnyH_cell (i := 4) rfl (by kernel_rfl) (by kernel_rfl) (by kernel_rfl) rfl 9 (.tmp 24) rfl (b) (off + j * 3 + 1) rfl (.string (mtext (m + 1))) _ Tryz.underlying9 rfl (fun W hW => (hW.cell (p := ⟨b, off + j * 3 + 1, none⟩) (Nat.lt_of_lt_of_le HB.out (HX0.out).size)).trans hcell1) (by assumption) (fun _ _ _ _ h => h) ?_
      simp only [Act.put, List.getElem_toArray, List.getElem_cons_zero, List.getElem_cons_succ, List.setIfInBounds_toArray, List.set_cons_zero, List.set_cons_succ]
      refine wpAnyH_take (i := 5) rfl (by kernel_rfl) (by kernel_rfl) (by kernel_rfl) (fun _ _ _ h => h) (.inl ⟨rfl, fun _ _ => rfl⟩) (by assumption) ?_
      simp only [Act.put, List.getElem_toArray, List.getElem_cons_zero, List.getElem_cons_succ, List.setIfInBounds_toArray, List.set_cons_zero, List.set_cons_succ]
      refine wpAnyH_call (i := 6) (by kernel_rfl) rfl rfl (run_call_func rfl rfl #[.int .i64 _] (by simp only [List.map_toArray, List.map_cons, List.map_nil, Act.eval]; rfl) Tryz.func94 (by kernel_rfl) (by kernel_rfl) _) (markText_any _ (m + 1) _ (by omega) (by omega)) ?_; rintro e wh1 ⟨rfl, hv1⟩
      have hs1 := Ext.trans hHeld hv1
      refine ⟨_, rfl, hs1, ?_⟩
      simp only [Act.put, List.getElem_toArray, List.getElem_cons_zero, List.getElem_cons_succ, List.setIfInBounds_toArray, List.set_cons_zero, List.set_cons_succ]
      refine wpAnyH_take (i := 7) rfl (by kernel_rfl) (by kernel_rfl) (by kernel_rfl) (fun _ _ _ h => h) (.inl ⟨rfl, fun _ _ => rfl⟩) (by assumption) ?_
      simp only [Act.put, List.getElem_toArray, List.getElem_cons_zero, List.getElem_cons_succ, List.setIfInBounds_toArray, List.set_cons_zero, List.set_cons_succ]
      refine wpAnyH_done (by kernel_rfl) ?_ _
      clear hHeld
      have HX1 := Lib.hid (Ext.trans HX0.out hs1)
      have hcell2 := (hs1.cell (p := ⟨b, off + j * 3 + 2, none⟩) (Nat.lt_of_lt_of_le HB.out HX0.out.size)).trans hcell2
      clear hs1 hv1
      simp only [beq_self_eq_true, Bool.not_true]
      go_wp2_with fail
      refine (HM2.out _ _ ((m + 1) + 1) _ (by omega) (HR2.out.ext HX1.out) (by omega)).mono ?_; rintro e wh2 ⟨rfl, hv2⟩
      have HX2 := Lib.hid (Ext.trans HX1.out hv2)
      clear hv2
      have hng : ¬ (((((m + 1) + 1) + Tr.cntE (GType.trs v2)) : Nat) : Int) < 0 := by omega
      go_wp2_with fail
      go_roundw
      case rel => exact ⟨j + 1, (((m + 1) + 1) + Tr.cntE (GType.trs v2)), by omega, by go_num, by first | rfl | go_num, by have h1 := HTK.out; have h2 := HM1.out; show _ = _; omega, hw.trans HX2.out⟩
      case measure => simp [intOf]; omega
    · have hkl : j = (GType.trs l).length := by rw [GType.trs_len]; omega
      go_wp2_with fail
      go_ret
      have hm1 := HM1.out
      rw [hkl, List.take_length] at hm1
      subst hm1
      exact ⟨rfl, hw⟩
theorem heldTypeS_in : ∀ x : GType, HeldSC 109 3 (GType.trs x.gArgs) :=
  GType.ind fun v0 v1 v2 ih => heldTypeS_of v2 ih
theorem heldTypeS_all (l : List GType) : HeldSC 109 3 (GType.trs l) := heldTypeS_of l fun x _ => heldTypeS_in x

set_option maxRecDepth 100000 in
set_option maxHeartbeats 2000000 in
theorem heldExprS_of (l : List GExpr) (H7 : ∀ x ∈ l, HeldSC 170 9 (GExpr.trs x.gArgs)) (H8 : ∀ x ∈ l, HeldSC 171 11 (GArm.trs x.gArms)) : HeldSC 170 9 (GExpr.trs l) := by
  intro s kz k w hz hrep0 hbd
  subst hz
  obtain ⟨a, cap, rfl, hl, hm⟩ := hrep0.shape
  rw [Tr.markE_length, GExpr.trs_len] at *
  unfold maxLen at hm
  have HO := Lib.hid hrep0
  have HH7 := Lib.hid H7
  clear H7
  have HH8 := Lib.hid H8
  clear H8
  clear hrep0
  go_enter Tryz.func170, Tryz.ntmps170
  go_wp2_with fail
  go_loopw [1, 5] (fun kv i wr => ∃ j m : Nat, j ≤ l.length ∧ i = .int .i64 j ∧ kv = .int .i64 (m : Int) ∧ Hid (m = k + Tr.cntE ((GExpr.trs l).take j)) ∧ Ext w wr) (fun _ i _ => l.length - (intOf i).toNat)
  case atStart => exact ⟨0, k, Nat.zero_le _, rfl, rfl, by show _ = _; simp [Tr.cntE], .refl _⟩
  case round =>
    obtain ⟨j, m, hj, rfl, rfl, HM1, hw⟩ := hrel
    by_cases hlt : j < l.length
    · have hlt2 : j < (GExpr.trs l).length := by rw [GExpr.trs_len]; exact hlt
      have hge : (GExpr.trs l)[j] = (l[j]).tr := by have h1 := GExpr.trs_get hlt; rw [List.getElem?_eq_getElem hlt2] at h1; exact Option.some.inj h1
      have hcl := Tr.cntE_le hlt2
      have hmg := Tr.markE_get (GExpr.trs l) k j hlt2
      have htk : Tr.cntE ((GExpr.trs l).take (j + 1)) = Tr.cntE ((GExpr.trs l).take j) + Tr.cntL (GExpr.trs l)[j] := Tr.cntE_take _ j hlt2
      rw [hge] at hcl hmg htk
      have hm1 := HM1.out
      rw [← hm1] at hmg
      have HM7 := Lib.hid (HH7.out _ (List.getElem_mem hlt))
      have HM8 := Lib.hid (HH8.out _ (List.getElem_mem hlt))
      generalize l[j] = x at *
      obtain ⟨v0, v1, v2, v3, ⟨v4_0, v4_1, v4_2⟩, v5, v6⟩ := x
      have HM7 : Hid (HeldSC 170 9 (GExpr.trs v5)) := HM7
      have HM8 : Hid (HeldSC 171 11 (GArm.trs v6)) := HM8
      have htr : GExpr.tr (.mk v0 v1 v2 v3 (.mk v4_0 v4_1 v4_2) v5 v6) = [.leaf (.int .i64 v0), .leaf (.string v1), .leaf (.string v2), .leaf (.int .i64 v3), .leaf (.int .i64 v4_0), .leaf (.string v4_1), .row 3 (GType.trs v4_2), .row 9 (GExpr.trs v5), .row 11 (GArm.trs v6)] := by simp [GExpr.tr, GType.tr]
      rw [htr] at hcl hmg htk
      have hcw : Tr.cntL [.leaf (.int .i64 v0), .leaf (.string v1), .leaf (.string v2), .leaf (.int .i64 v3), .leaf (.int .i64 v4_0), .leaf (.string v4_1), .row 3 (GType.trs v4_2), .row 9 (GExpr.trs v5), .row 11 (GArm.trs v6)] = 1 + 1 + 1 + 1 + 1 + 1 + Tr.cntE (GType.trs v4_2) + Tr.cntE (GExpr.trs v5) + Tr.cntE (GArm.trs v6) := by simp only [Tr.cntL, Tr.cnt] <;> omega
      obtain ⟨b, off, cs0, rfl, hb, hrep, hc⟩ := (HO.out.ext hw).at2 hmg
      obtain ⟨d0, d1, d2, d3, d4, d5, d6, d7, d8, rfl⟩ := list9 hrep.length.symm
      obtain ⟨rfl, -⟩ := (hrep.1).leaf_eq
      obtain ⟨rfl, -⟩ := (hrep.2.1).leaf_eq
      obtain ⟨rfl, -⟩ := (hrep.2.2.1).leaf_eq
      obtain ⟨rfl, -⟩ := (hrep.2.2.2.1).leaf_eq
      obtain ⟨rfl, -⟩ := (hrep.2.2.2.2.1).leaf_eq
      obtain ⟨rfl, -⟩ := (hrep.2.2.2.2.2.1).leaf_eq
      have HR6 := Lib.hid (hrep.2.2.2.2.2.2.1)
      obtain ⟨sa6, sc6, hd6, -, -⟩ := HR6.out.shape
      rw [Tr.markE_length] at hd6
      subst hd6
      have HR7 := Lib.hid (hrep.2.2.2.2.2.2.2.1)
      obtain ⟨sa7, sc7, hd7, -, -⟩ := HR7.out.shape
      rw [Tr.markE_length] at hd7
      subst hd7
      have HR8 := Lib.hid (hrep.2.2.2.2.2.2.2.2.1)
      obtain ⟨sa8, sc8, hd8, -, -⟩ := HR8.out.shape
      rw [Tr.markE_length] at hd8
      subst hd8
      have hmb : m + (1 + 1 + 1 + 1 + 1 + 1 + Tr.cntE (GType.trs v4_2) + Tr.cntE (GExpr.trs v5) + Tr.cntE (GArm.trs v6)) ≤ 1152921504606846976 := by rw [← hcw]; omega
      rw [hcw] at htk
      have HTK := Lib.hid htk
      have HC := Lib.hid hc
      have HB := Lib.hid hb
      have hki := hlt
      simp only [markLeaf, Tr.cnt] at *
      have hcell0 : wr.cell? ⟨b, off + j * 9, none⟩ = some _ := HC.out 0 _ rfl
      have hcell1 : wr.cell? ⟨b, off + j * 9 + 1, none⟩ = some _ := HC.out 1 _ rfl
      have hcell2 : wr.cell? ⟨b, off + j * 9 + 2, none⟩ = some _ := HC.out 2 _ rfl
      have hcell3 : wr.cell? ⟨b, off + j * 9 + 3, none⟩ = some _ := HC.out 3 _ rfl
      have hcell4 : wr.cell? ⟨b, off + j * 9 + 4, none⟩ = some _ := HC.out 4 _ rfl
      have hcell5 : wr.cell? ⟨b, off + j * 9 + 5, none⟩ = some _ := HC.out 5 _ rfl
      have hcell6 : wr.cell? ⟨b, off + j * 9 + 6, none⟩ = some _ := HC.out 6 _ rfl
      have hcell7 : wr.cell? ⟨b, off + j * 9 + 7, none⟩ = some _ := HC.out 7 _ rfl
      have hcell8 : wr.cell? ⟨b, off + j * 9 + 8, none⟩ = some _ := HC.out 8 _ rfl
      clear hrep hc hmg htk hge hcl hcw hm1 htr hb
      go_wp2_with fail
      have HX0 := Lib.hid (Ext.refl wr)
      refine wp_region_held_drew (S := Ext wr) (by kernel_rfl) ?_ (fun hHeld => ?_)
      · exact .drew (.refl _)
      refine wpAnyH_take (i := 0) rfl (by kernel_rfl) (by kernel_rfl) (by kernel_rfl) (fun _ _ _ h => h) (.inl ⟨rfl, fun _ _ => rfl⟩) (by assumption) ?_
      simp only [Act.put, List.getElem_toArray, List.getElem_cons_zero, List.setIfInBounds_toArray, List.set_cons_zero, List.set_cons_succ]
      refine wpAnyH_take (i := 1) rfl (by kernel_rfl) (by kernel_rfl) (by kernel_rfl) (fun _ _ _ h => h) (.inl ⟨rfl, fun _ _ => rfl⟩) (by assumption) ?_
      simp only [Act.put, List.getElem_toArray, List.getElem_cons_zero, List.getElem_cons_succ, List.setIfInBounds_toArray, List.set_cons_zero, List.set_cons_succ]
      refine wpAnyH_index (i := 2) rfl (by kernel_rfl) (by kernel_rfl) (by kernel_rfl) rfl 100 (.tmp 21) (.tmp 22) rfl (b) (off) (l.length) (cap) (j) (9) rfl rfl (hki) Tryz.underlying100 (by kernel_rfl) (by assumption) (fun _ _ _ _ h => h) ?_
      simp only [Act.put, List.getElem_toArray, List.getElem_cons_zero, List.getElem_cons_succ, List.setIfInBounds_toArray, List.set_cons_zero, List.set_cons_succ]
      refine wpAnyH_take (i := 3) rfl (by kernel_rfl) (by kernel_rfl) (by kernel_rfl) (fun _ _ _ h => h) (.inl ⟨rfl, fun _ _ => rfl⟩) (by assumption) ?_
      simp only [Act.put, List.getElem_toArray, List.getElem_cons_zero, List.getElem_cons_succ, List.setIfInBounds_toArray, List.set_cons_zero, List.set_cons_succ]
      refine wpAnyH_cell (i := 4) rfl (by kernel_rfl) (by kernel_rfl) (by kernel_rfl) rfl 9 (.tmp 24) rfl (b) (off + j * 9 + 1) rfl (.string (mtext (m + 1))) _ Tryz.underlying9 rfl (fun W hW => (hW.cell (p := ⟨b, off + j * 9 + 1, none⟩) (Nat.lt_of_lt_of_le HB.out (HX0.out).size)).trans hcell1) (by assumption) (fun _ _ _ _ h => h) ?_
      simp only [Act.put, List.getElem_toArray, List.getElem_cons_zero, List.getElem_cons_succ, List.setIfInBounds_toArray, List.set_cons_zero, List.set_cons_succ]
      refine wpAnyH_take (i := 5) rfl (by kernel_rfl) (by kernel_rfl) (by kernel_rfl) (fun _ _ _ h => h) (.inl ⟨rfl, fun _ _ => rfl⟩) (by assumption) ?_
      simp only [Act.put, List.getElem_toArray, List.getElem_cons_zero, List.getElem_cons_succ, List.setIfInBounds_toArray, List.set_cons_zero, List.set_cons_succ]
      refine wpAnyH_call (i := 6) (by kernel_rfl) rfl rfl (run_call_func rfl rfl #[.int .i64 _] (by simp only [List.map_toArray, List.map_cons, List.map_nil, Act.eval]; rfl) Tryz.func94 (by kernel_rfl) (by kernel_rfl) _) (markText_any _ (m + 1) _ (by omega) (by omega)) ?_; rintro e wh1 ⟨rfl, hv1⟩
      have hs1 := Ext.trans hHeld hv1
      refine ⟨_, rfl, hs1, ?_⟩
      simp only [Act.put, List.getElem_toArray, List.getElem_cons_zero, List.getElem_cons_succ, List.setIfInBounds_toArray, List.set_cons_zero, List.set_cons_succ]
      refine wpAnyH_take (i := 7) rfl (by kernel_rfl) (by kernel_rfl) (by kernel_rfl) (fun _ _ _ h => h) (.inl ⟨rfl, fun _ _ => rfl⟩) (by assumption) ?_
      simp only [Act.put, List.getElem_toArray, List.getElem_cons_zero, List.getElem_cons_succ, List.setIfInBounds_toArray, List.set_cons_zero, List.set_cons_succ]
      refine wpAnyH_done (by kernel_rfl) ?_ _
      clear hHeld
      have HX1 := Lib.hid (Ext.trans HX0.out hs1)
      have hcell2 := (hs1.cell (p := ⟨b, off + j * 9 + 2, none⟩) (Nat.lt_of_lt_of_le HB.out HX0.out.size)).trans hcell2
      have hcell3 := (hs1.cell (p := ⟨b, off + j * 9 + 3, none⟩) (Nat.lt_of_lt_of_le HB.out HX0.out.size)).trans hcell3
      have hcell4 := (hs1.cell (p := ⟨b, off + j * 9 + 4, none⟩) (Nat.lt_of_lt_of_le HB.out HX0.out.size)).trans hcell4
      have hcell5 := (hs1.cell (p := ⟨b, off + j * 9 + 5, none⟩) (Nat.lt_of_lt_of_le HB.out HX0.out.size)).trans hcell5
      have hcell6 := (hs1.cell (p := ⟨b, off + j * 9 + 6, none⟩) (Nat.lt_of_lt_of_le HB.out HX0.out.size)).trans hcell6
      have hcell7 := (hs1.cell (p := ⟨b, off + j * 9 + 7, none⟩) (Nat.lt_of_lt_of_le HB.out HX0.out.size)).trans hcell7
      have hcell8 := (hs1.cell (p := ⟨b, off + j * 9 + 8, none⟩) (Nat.lt_of_lt_of_le HB.out HX0.out.size)).trans hcell8
      clear hs1 hv1
      simp only [beq_self_eq_true, Bool.not_true]
      go_wp2_with fail
      refine wp_region_held_drew (S := Ext wh1) (by kernel_rfl) ?_ (fun hHeld => ?_)
      · exact .drew (.refl _)
      refine wpAnyH_take (i := 0) rfl (by kernel_rfl) (by kernel_rfl) (by kernel_rfl) (fun _ _ _ h => h) (.inl ⟨rfl, fun _ _ => rfl⟩) (by assumption) ?_
      simp only [Act.put, List.getElem_toArray, List.getElem_cons_zero, List.setIfInBounds_toArray, List.set_cons_zero, List.set_cons_succ]
      refine wpAnyH_take (i := 1) rfl (by kernel_rfl) (by kernel_rfl) (by kernel_rfl) (fun _ _ _ h => h) (.inl ⟨rfl, fun _ _ => rfl⟩) (by assumption) ?_
      simp only [Act.put, List.getElem_toArray, List.getElem_cons_zero, List.getElem_cons_succ, List.setIfInBounds_toArray, List.set_cons_zero, List.set_cons_succ]
      refine wpAnyH_index (i := 2) rfl (by kernel_rfl) (by kernel_rfl) (by kernel_rfl) rfl 100 (.tmp 31) (.tmp 32) rfl (b) (off) (l.length) (cap) (j) (9) rfl rfl (hki) Tryz.underlying100 (by kernel_rfl) (by assumption) (fun _ _ _ _ h => h) ?_
      simp only [Act.put, List.getElem_toArray, List.getElem_cons_zero, List.getElem_cons_succ, List.setIfInBounds_toArray, List.set_cons_zero, List.set_cons_succ]
      refine wpAnyH_take (i := 3) rfl (by kernel_rfl) (by kernel_rfl) (by kernel_rfl) (fun _ _ _ h => h) (.inl ⟨rfl, fun _ _ => rfl⟩) (by assumption) ?_
      simp only [Act.put, List.getElem_toArray, List.getElem_cons_zero, List.getElem_cons_succ, List.setIfInBounds_toArray, List.set_cons_zero, List.set_cons_succ]
      refine wpAnyH_cell (i := 4) rfl (by kernel_rfl) (by kernel_rfl) (by kernel_rfl) rfl 9 (.tmp 34) rfl (b) (off + j * 9 + 2) rfl (.string (mtext ((m + 1) + 1))) _ Tryz.underlying9 rfl (fun W hW => (hW.cell (p := ⟨b, off + j * 9 + 2, none⟩) (Nat.lt_of_lt_of_le HB.out (HX1.out).size)).trans hcell2) (by assumption) (fun _ _ _ _ h => h) ?_
      simp only [Act.put, List.getElem_toArray, List.getElem_cons_zero, List.getElem_cons_succ, List.setIfInBounds_toArray, List.set_cons_zero, List.set_cons_succ]
      refine wpAnyH_take (i := 5) rfl (by kernel_rfl) (by kernel_rfl) (by kernel_rfl) (fun _ _ _ h => h) (.inl ⟨rfl, fun _ _ => rfl⟩) (by assumption) ?_
      simp only [Act.put, List.getElem_toArray, List.getElem_cons_zero, List.getElem_cons_succ, List.setIfInBounds_toArray, List.set_cons_zero, List.set_cons_succ]
      refine wpAnyH_call (i := 6) (by kernel_rfl) rfl rfl (run_call_func rfl rfl #[.int .i64 _] (by simp only [List.map_toArray, List.map_cons, List.map_nil, Act.eval]; rfl) Tryz.func94 (by kernel_rfl) (by kernel_rfl) _) (markText_any _ ((m + 1) + 1) _ (by omega) (by omega)) ?_; rintro e wh2 ⟨rfl, hv2⟩
      have hs1 := Ext.trans hHeld hv2
      refine ⟨_, rfl, hs1, ?_⟩
      simp only [Act.put, List.getElem_toArray, List.getElem_cons_zero, List.getElem_cons_succ, List.setIfInBounds_toArray, List.set_cons_zero, List.set_cons_succ]
      refine wpAnyH_take (i := 7) rfl (by kernel_rfl) (by kernel_rfl) (by kernel_rfl) (fun _ _ _ h => h) (.inl ⟨rfl, fun _ _ => rfl⟩) (by assumption) ?_
      simp only [Act.put, List.getElem_toArray, List.getElem_cons_zero, List.getElem_cons_succ, List.setIfInBounds_toArray, List.set_cons_zero, List.set_cons_succ]
      refine wpAnyH_done (by kernel_rfl) ?_ _
      clear hHeld
      have HX2 := Lib.hid (Ext.trans HX1.out hs1)
      have hcell3 := (hs1.cell (p := ⟨b, off + j * 9 + 3, none⟩) (Nat.lt_of_lt_of_le HB.out HX1.out.size)).trans hcell3
      have hcell4 := (hs1.cell (p := ⟨b, off + j * 9 + 4, none⟩) (Nat.lt_of_lt_of_le HB.out HX1.out.size)).trans hcell4
      have hcell5 := (hs1.cell (p := ⟨b, off + j * 9 + 5, none⟩) (Nat.lt_of_lt_of_le HB.out HX1.out.size)).trans hcell5
      have hcell6 := (hs1.cell (p := ⟨b, off + j * 9 + 6, none⟩) (Nat.lt_of_lt_of_le HB.out HX1.out.size)).trans hcell6
      have hcell7 := (hs1.cell (p := ⟨b, off + j * 9 + 7, none⟩) (Nat.lt_of_lt_of_le HB.out HX1.out.size)).trans hcell7
      have hcell8 := (hs1.cell (p := ⟨b, off + j * 9 + 8, none⟩) (Nat.lt_of_lt_of_le HB.out HX1.out.size)).trans hcell8
      clear hs1 hv2
      simp only [beq_self_eq_true, Bool.not_true]
      go_wp2_with fail
      refine wp_region_held_drew (S := Ext wh2) (by kernel_rfl) ?_ (fun hHeld => ?_)
      · exact .drew (.refl _)
      refine wpAnyH_take (i := 0) rfl (by kernel_rfl) (by kernel_rfl) (by kernel_rfl) (fun _ _ _ h => h) (.inl ⟨rfl, fun _ _ => rfl⟩) (by assumption) ?_
      simp only [Act.put, List.getElem_toArray, List.getElem_cons_zero, List.setIfInBounds_toArray, List.set_cons_zero, List.set_cons_succ]
      refine wpAnyH_take (i := 1) rfl (by kernel_rfl) (by kernel_rfl) (by kernel_rfl) (fun _ _ _ h => h) (.inl ⟨rfl, fun _ _ => rfl⟩) (by assumption) ?_
      simp only [Act.put, List.getElem_toArray, List.getElem_cons_zero, List.getElem_cons_succ, List.setIfInBounds_toArray, List.set_cons_zero, List.set_cons_succ]
      refine wpAnyH_index (i := 2) rfl (by kernel_rfl) (by kernel_rfl) (by kernel_rfl) rfl 100 (.tmp 60) (.tmp 61) rfl (b) (off) (l.length) (cap) (j) (9) rfl rfl (hki) Tryz.underlying100 (by kernel_rfl) (by assumption) (fun _ _ _ _ h => h) ?_
      simp only [Act.put, List.getElem_toArray, List.getElem_cons_zero, List.getElem_cons_succ, List.setIfInBounds_toArray, List.set_cons_zero, List.set_cons_succ]
      refine wpAnyH_take (i := 3) rfl (by kernel_rfl) (by kernel_rfl) (by kernel_rfl) (fun _ _ _ h => h) (.inl ⟨rfl, fun _ _ => rfl⟩) (by assumption) ?_
      simp only [Act.put, List.getElem_toArray, List.getElem_cons_zero, List.getElem_cons_succ, List.setIfInBounds_toArray, List.set_cons_zero, List.set_cons_succ]
      refine wpAnyH_take (i := 4) rfl (by kernel_rfl) (by kernel_rfl) (by kernel_rfl) (fun _ _ _ h => h) (.inl ⟨rfl, fun _ _ => rfl⟩) (by assumption) ?_
      simp only [Act.put, List.getElem_toArray, List.getElem_cons_zero, List.getElem_cons_succ, List.setIfInBounds_toArray, List.set_cons_zero, List.set_cons_succ]
      refine wpAnyH_cell (i := 5) rfl (by kernel_rfl) (by kernel_rfl) (by kernel_rfl) rfl 9 (.tmp 64) rfl (b) (off + j * 9 + 5) rfl (.string (mtext (((((m + 1) + 1) + 1) + 1) + 1))) _ Tryz.underlying9 rfl (fun W hW => (hW.cell (p := ⟨b, off + j * 9 + 5, none⟩) (Nat.lt_of_lt_of_le HB.out (HX2.out).size)).trans hcell5) (by assumption) (fun _ _ _ _ h => h) ?_
      simp only [Act.put, List.getElem_toArray, List.getElem_cons_zero, List.getElem_cons_succ, List.setIfInBounds_toArray, List.set_cons_zero, List.set_cons_succ]
      refine wpAnyH_take (i := 6) rfl (by kernel_rfl) (by kernel_rfl) (by kernel_rfl) (fun _ _ _ h => h) (.inl ⟨rfl, fun _ _ => rfl⟩) (by assumption) ?_
      simp only [Act.put, List.getElem_toArray, List.getElem_cons_zero, List.getElem_cons_succ, List.setIfInBounds_toArray, List.set_cons_zero, List.set_cons_succ]
      refine wpAnyH_call (i := 7) (by kernel_rfl) rfl rfl (run_call_func rfl rfl #[.int .i64 _] (by simp only [List.map_toArray, List.map_cons, List.map_nil, Act.eval]; rfl) Tryz.func94 (by kernel_rfl) (by kernel_rfl) _) (markText_any _ (((((m + 1) + 1) + 1) + 1) + 1) _ (by omega) (by omega)) ?_; rintro e wh3 ⟨rfl, hv3⟩
      have hs1 := Ext.trans hHeld hv3
      refine ⟨_, rfl, hs1, ?_⟩
      simp only [Act.put, List.getElem_toArray, List.getElem_cons_zero, List.getElem_cons_succ, List.setIfInBounds_toArray, List.set_cons_zero, List.set_cons_succ]
      refine wpAnyH_take (i := 8) rfl (by kernel_rfl) (by kernel_rfl) (by kernel_rfl) (fun _ _ _ h => h) (.inl ⟨rfl, fun _ _ => rfl⟩) (by assumption) ?_
      simp only [Act.put, List.getElem_toArray, List.getElem_cons_zero, List.getElem_cons_succ, List.setIfInBounds_toArray, List.set_cons_zero, List.set_cons_succ]
      refine wpAnyH_done (by kernel_rfl) ?_ _
      clear hHeld
      have HX3 := Lib.hid (Ext.trans HX2.out hs1)
      have hcell6 := (hs1.cell (p := ⟨b, off + j * 9 + 6, none⟩) (Nat.lt_of_lt_of_le HB.out HX2.out.size)).trans hcell6
      have hcell7 := (hs1.cell (p := ⟨b, off + j * 9 + 7, none⟩) (Nat.lt_of_lt_of_le HB.out HX2.out.size)).trans hcell7
      have hcell8 := (hs1.cell (p := ⟨b, off + j * 9 + 8, none⟩) (Nat.lt_of_lt_of_le HB.out HX2.out.size)).trans hcell8
      clear hs1 hv3
      simp only [beq_self_eq_true, Bool.not_true]
      go_wp2_with fail
      refine ((heldTypeS_all v4_2) _ _ ((((((m + 1) + 1) + 1) + 1) + 1) + 1) _ (by omega) (HR6.out.ext HX3.out) (by omega)).mono ?_; rintro e wh4 ⟨rfl, hv4⟩
      have HX4 := Lib.hid (Ext.trans HX3.out hv4)
      have hcell7 := (hv4.cell (p := ⟨b, off + j * 9 + 7, none⟩) (Nat.lt_of_lt_of_le HB.out HX3.out.size)).trans hcell7
      have hcell8 := (hv4.cell (p := ⟨b, off + j * 9 + 8, none⟩) (Nat.lt_of_lt_of_le HB.out HX3.out.size)).trans hcell8
      clear hv4
      have hng : ¬ (((((((((m + 1) + 1) + 1) + 1) + 1) + 1) + Tr.cntE (GType.trs v4_2)) : Nat) : Int) < 0 := by omega
      go_wp2_with fail
      refine (HM7.out _ _ (((((((m + 1) + 1) + 1) + 1) + 1) + 1) + Tr.cntE (GType.trs v4_2)) _ (by omega) (HR7.out.ext HX4.out) (by omega)).mono ?_; rintro e wh5 ⟨rfl, hv5⟩
      have HX5 := Lib.hid (Ext.trans HX4.out hv5)
      have hcell8 := (hv5.cell (p := ⟨b, off + j * 9 + 8, none⟩) (Nat.lt_of_lt_of_le HB.out HX4.out.size)).trans hcell8
      clear hv5
      have hng : ¬ ((((((((((m + 1) + 1) + 1) + 1) + 1) + 1) + Tr.cntE (GType.trs v4_2)) + Tr.cntE (GExpr.trs v5)) : Nat) : Int) < 0 := by omega
      go_wp2_with fail
      refine (HM8.out _ _ ((((((((m + 1) + 1) + 1) + 1) + 1) + 1) + Tr.cntE (GType.trs v4_2)) + Tr.cntE (GExpr.trs v5)) _ (by omega) (HR8.out.ext HX5.out) (by omega)).mono ?_; rintro e wh6 ⟨rfl, hv6⟩
      have HX6 := Lib.hid (Ext.trans HX5.out hv6)
      clear hv6
      have hng : ¬ (((((((((((m + 1) + 1) + 1) + 1) + 1) + 1) + Tr.cntE (GType.trs v4_2)) + Tr.cntE (GExpr.trs v5)) + Tr.cntE (GArm.trs v6)) : Nat) : Int) < 0 := by omega
      go_wp2_with fail
      go_roundw
      case rel => exact ⟨j + 1, (((((((((m + 1) + 1) + 1) + 1) + 1) + 1) + Tr.cntE (GType.trs v4_2)) + Tr.cntE (GExpr.trs v5)) + Tr.cntE (GArm.trs v6)), by omega, by go_num, by first | rfl | go_num, by have h1 := HTK.out; have h2 := HM1.out; show _ = _; omega, hw.trans HX6.out⟩
      case measure => simp [intOf]; omega
    · have hkl : j = (GExpr.trs l).length := by rw [GExpr.trs_len]; omega
      go_wp2_with fail
      go_ret
      have hm1 := HM1.out
      rw [hkl, List.take_length] at hm1
      subst hm1
      exact ⟨rfl, hw⟩

set_option maxRecDepth 100000 in
set_option maxHeartbeats 2000000 in
theorem heldArmS_of (l : List GArm) (H9 : ∀ x ∈ l, HeldSC 170 9 (GExpr.trs x.gBody.gArgs)) (H10 : ∀ x ∈ l, HeldSC 171 11 (GArm.trs x.gBody.gArms)) : HeldSC 171 11 (GArm.trs l) := by
  intro s kz k w hz hrep0 hbd
  subst hz
  obtain ⟨a, cap, rfl, hl, hm⟩ := hrep0.shape
  rw [Tr.markE_length, GArm.trs_len] at *
  unfold maxLen at hm
  have HO := Lib.hid hrep0
  have HH9 := Lib.hid H9
  clear H9
  have HH10 := Lib.hid H10
  clear H10
  clear hrep0
  go_enter Tryz.func171, Tryz.ntmps171
  go_wp2_with fail
  go_loopw [1, 5] (fun kv i wr => ∃ j m : Nat, j ≤ l.length ∧ i = .int .i64 j ∧ kv = .int .i64 (m : Int) ∧ Hid (m = k + Tr.cntE ((GArm.trs l).take j)) ∧ Ext w wr) (fun _ i _ => l.length - (intOf i).toNat)
  case atStart => exact ⟨0, k, Nat.zero_le _, rfl, rfl, by show _ = _; simp [Tr.cntE], .refl _⟩
  case round =>
    obtain ⟨j, m, hj, rfl, rfl, HM1, hw⟩ := hrel
    by_cases hlt : j < l.length
    · have hlt2 : j < (GArm.trs l).length := by rw [GArm.trs_len]; exact hlt
      have hge : (GArm.trs l)[j] = (l[j]).tr := by have h1 := GArm.trs_get hlt; rw [List.getElem?_eq_getElem hlt2] at h1; exact Option.some.inj h1
      have hcl := Tr.cntE_le hlt2
      have hmg := Tr.markE_get (GArm.trs l) k j hlt2
      have htk : Tr.cntE ((GArm.trs l).take (j + 1)) = Tr.cntE ((GArm.trs l).take j) + Tr.cntL (GArm.trs l)[j] := Tr.cntE_take _ j hlt2
      rw [hge] at hcl hmg htk
      have hm1 := HM1.out
      rw [← hm1] at hmg
      have HM9 := Lib.hid (HH9.out _ (List.getElem_mem hlt))
      have HM10 := Lib.hid (HH10.out _ (List.getElem_mem hlt))
      generalize l[j] = x at *
      obtain ⟨v0, v1, ⟨v2_0, v2_1, v2_2, v2_3, ⟨v2_4_0, v2_4_1, v2_4_2⟩, v2_5, v2_6⟩⟩ := x
      have HM9 : Hid (HeldSC 170 9 (GExpr.trs v2_5)) := HM9
      have HM10 : Hid (HeldSC 171 11 (GArm.trs v2_6)) := HM10
      have htr : GArm.tr (.mk v0 v1 (.mk v2_0 v2_1 v2_2 v2_3 (.mk v2_4_0 v2_4_1 v2_4_2) v2_5 v2_6)) = [.leaf (.string v0), .row 1 (strTrs v1), .leaf (.int .i64 v2_0), .leaf (.string v2_1), .leaf (.string v2_2), .leaf (.int .i64 v2_3), .leaf (.int .i64 v2_4_0), .leaf (.string v2_4_1), .row 3 (GType.trs v2_4_2), .row 9 (GExpr.trs v2_5), .row 11 (GArm.trs v2_6)] := by simp [GArm.tr, GExpr.tr, GType.tr]
      rw [htr] at hcl hmg htk
      have hcw : Tr.cntL [.leaf (.string v0), .row 1 (strTrs v1), .leaf (.int .i64 v2_0), .leaf (.string v2_1), .leaf (.string v2_2), .leaf (.int .i64 v2_3), .leaf (.int .i64 v2_4_0), .leaf (.string v2_4_1), .row 3 (GType.trs v2_4_2), .row 9 (GExpr.trs v2_5), .row 11 (GArm.trs v2_6)] = 1 + Tr.cntE (strTrs v1) + 1 + 1 + 1 + 1 + 1 + 1 + Tr.cntE (GType.trs v2_4_2) + Tr.cntE (GExpr.trs v2_5) + Tr.cntE (GArm.trs v2_6) := by simp only [Tr.cntL, Tr.cnt] <;> omega
      obtain ⟨b, off, cs0, rfl, hb, hrep, hc⟩ := (HO.out.ext hw).at2 hmg
      obtain ⟨d0, d1, d2, d3, d4, d5, d6, d7, d8, d9, d10, rfl⟩ := list11 hrep.length.symm
      obtain ⟨rfl, -⟩ := (hrep.1).leaf_eq
      have HR1 := Lib.hid (hrep.2.1)
      obtain ⟨sa1, sc1, hd1, -, -⟩ := HR1.out.shape
      rw [Tr.markE_length] at hd1
      subst hd1
      obtain ⟨rfl, -⟩ := (hrep.2.2.1).leaf_eq
      obtain ⟨rfl, -⟩ := (hrep.2.2.2.1).leaf_eq
      obtain ⟨rfl, -⟩ := (hrep.2.2.2.2.1).leaf_eq
      obtain ⟨rfl, -⟩ := (hrep.2.2.2.2.2.1).leaf_eq
      obtain ⟨rfl, -⟩ := (hrep.2.2.2.2.2.2.1).leaf_eq
      obtain ⟨rfl, -⟩ := (hrep.2.2.2.2.2.2.2.1).leaf_eq
      have HR8 := Lib.hid (hrep.2.2.2.2.2.2.2.2.1)
      obtain ⟨sa8, sc8, hd8, -, -⟩ := HR8.out.shape
      rw [Tr.markE_length] at hd8
      subst hd8
      have HR9 := Lib.hid (hrep.2.2.2.2.2.2.2.2.2.1)
      obtain ⟨sa9, sc9, hd9, -, -⟩ := HR9.out.shape
      rw [Tr.markE_length] at hd9
      subst hd9
      have HR10 := Lib.hid (hrep.2.2.2.2.2.2.2.2.2.2.1)
      obtain ⟨sa10, sc10, hd10, -, -⟩ := HR10.out.shape
      rw [Tr.markE_length] at hd10
      subst hd10
      have hmb : m + (1 + Tr.cntE (strTrs v1) + 1 + 1 + 1 + 1 + 1 + 1 + Tr.cntE (GType.trs v2_4_2) + Tr.cntE (GExpr.trs v2_5) + Tr.cntE (GArm.trs v2_6)) ≤ 1152921504606846976 := by rw [← hcw]; omega
      rw [hcw] at htk
      have HTK := Lib.hid htk
      have HC := Lib.hid hc
      have HB := Lib.hid hb
      have hki := hlt
      simp only [markLeaf, Tr.cnt] at *
      have hcell0 : wr.cell? ⟨b, off + j * 11, none⟩ = some _ := HC.out 0 _ rfl
      have hcell1 : wr.cell? ⟨b, off + j * 11 + 1, none⟩ = some _ := HC.out 1 _ rfl
      have hcell2 : wr.cell? ⟨b, off + j * 11 + 2, none⟩ = some _ := HC.out 2 _ rfl
      have hcell3 : wr.cell? ⟨b, off + j * 11 + 3, none⟩ = some _ := HC.out 3 _ rfl
      have hcell4 : wr.cell? ⟨b, off + j * 11 + 4, none⟩ = some _ := HC.out 4 _ rfl
      have hcell5 : wr.cell? ⟨b, off + j * 11 + 5, none⟩ = some _ := HC.out 5 _ rfl
      have hcell6 : wr.cell? ⟨b, off + j * 11 + 6, none⟩ = some _ := HC.out 6 _ rfl
      have hcell7 : wr.cell? ⟨b, off + j * 11 + 7, none⟩ = some _ := HC.out 7 _ rfl
      have hcell8 : wr.cell? ⟨b, off + j * 11 + 8, none⟩ = some _ := HC.out 8 _ rfl
      have hcell9 : wr.cell? ⟨b, off + j * 11 + 9, none⟩ = some _ := HC.out 9 _ rfl
      have hcell10 : wr.cell? ⟨b, off + j * 11 + 10, none⟩ = some _ := HC.out 10 _ rfl
      clear hrep hc hmg htk hge hcl hcw hm1 htr hb
      go_wp2_with fail
      have HX0 := Lib.hid (Ext.refl wr)
      refine wp_region_held_drew (S := Ext wr) (by kernel_rfl) ?_ (fun hHeld => ?_)
      · exact .drew (.refl _)
      refine wpAnyH_take (i := 0) rfl (by kernel_rfl) (by kernel_rfl) (by kernel_rfl) (fun _ _ _ h => h) (.inl ⟨rfl, fun _ _ => rfl⟩) (by assumption) ?_
      simp only [Act.put, List.getElem_toArray, List.getElem_cons_zero, List.setIfInBounds_toArray, List.set_cons_zero, List.set_cons_succ]
      refine wpAnyH_take (i := 1) rfl (by kernel_rfl) (by kernel_rfl) (by kernel_rfl) (fun _ _ _ h => h) (.inl ⟨rfl, fun _ _ => rfl⟩) (by assumption) ?_
      simp only [Act.put, List.getElem_toArray, List.getElem_cons_zero, List.getElem_cons_succ, List.setIfInBounds_toArray, List.set_cons_zero, List.set_cons_succ]
      refine wpAnyH_index (i := 2) rfl (by kernel_rfl) (by kernel_rfl) (by kernel_rfl) rfl 101 (.tmp 12) (.tmp 13) rfl (b) (off) (l.length) (cap) (j) (11) rfl rfl (hki) Tryz.underlying101 (by kernel_rfl) (by assumption) (fun _ _ _ _ h => h) ?_
      simp only [Act.put, List.getElem_toArray, List.getElem_cons_zero, List.getElem_cons_succ, List.setIfInBounds_toArray, List.set_cons_zero, List.set_cons_succ]
      refine wpAnyH_take (i := 3) rfl (by kernel_rfl) (by kernel_rfl) (by kernel_rfl) (fun _ _ _ h => h) (.inl ⟨rfl, fun _ _ => rfl⟩) (by assumption) ?_
      simp only [Act.put, List.getElem_toArray, List.getElem_cons_zero, List.getElem_cons_succ, List.setIfInBounds_toArray, List.set_cons_zero, List.set_cons_succ]
      refine wpAnyH_cell (i := 4) rfl (by kernel_rfl) (by kernel_rfl) (by kernel_rfl) rfl 9 (.tmp 15) rfl (b) (off + j * 11) rfl (.string (mtext m)) _ Tryz.underlying9 rfl (fun W hW => (hW.cell (p := ⟨b, off + j * 11, none⟩) (Nat.lt_of_lt_of_le HB.out (HX0.out).size)).trans hcell0) (by assumption) (fun _ _ _ _ h => h) ?_
      simp only [Act.put, List.getElem_toArray, List.getElem_cons_zero, List.getElem_cons_succ, List.setIfInBounds_toArray, List.set_cons_zero, List.set_cons_succ]
      refine wpAnyH_take (i := 5) rfl (by kernel_rfl) (by kernel_rfl) (by kernel_rfl) (fun _ _ _ h => h) (.inl ⟨rfl, fun _ _ => rfl⟩) (by assumption) ?_
      simp only [Act.put, List.getElem_toArray, List.getElem_cons_zero, List.getElem_cons_succ, List.setIfInBounds_toArray, List.set_cons_zero, List.set_cons_succ]
      refine wpAnyH_call (i := 6) (by kernel_rfl) rfl rfl (run_call_func rfl rfl #[.int .i64 _] (by simp only [List.map_toArray, List.map_cons, List.map_nil, Act.eval]; rfl) Tryz.func94 (by kernel_rfl) (by kernel_rfl) _) (markText_any _ m _ (by omega) (by omega)) ?_; rintro e wh1 ⟨rfl, hv1⟩
      have hs1 := Ext.trans hHeld hv1
      refine ⟨_, rfl, hs1, ?_⟩
      simp only [Act.put, List.getElem_toArray, List.getElem_cons_zero, List.getElem_cons_succ, List.setIfInBounds_toArray, List.set_cons_zero, List.set_cons_succ]
      refine wpAnyH_take (i := 7) rfl (by kernel_rfl) (by kernel_rfl) (by kernel_rfl) (fun _ _ _ h => h) (.inl ⟨rfl, fun _ _ => rfl⟩) (by assumption) ?_
      simp only [Act.put, List.getElem_toArray, List.getElem_cons_zero, List.getElem_cons_succ, List.setIfInBounds_toArray, List.set_cons_zero, List.set_cons_succ]
      refine wpAnyH_done (by kernel_rfl) ?_ _
      clear hHeld
      have HX1 := Lib.hid (Ext.trans HX0.out hs1)
      have hcell1 := (hs1.cell (p := ⟨b, off + j * 11 + 1, none⟩) (Nat.lt_of_lt_of_le HB.out HX0.out.size)).trans hcell1
      have hcell2 := (hs1.cell (p := ⟨b, off + j * 11 + 2, none⟩) (Nat.lt_of_lt_of_le HB.out HX0.out.size)).trans hcell2
      have hcell3 := (hs1.cell (p := ⟨b, off + j * 11 + 3, none⟩) (Nat.lt_of_lt_of_le HB.out HX0.out.size)).trans hcell3
      have hcell4 := (hs1.cell (p := ⟨b, off + j * 11 + 4, none⟩) (Nat.lt_of_lt_of_le HB.out HX0.out.size)).trans hcell4
      have hcell5 := (hs1.cell (p := ⟨b, off + j * 11 + 5, none⟩) (Nat.lt_of_lt_of_le HB.out HX0.out.size)).trans hcell5
      have hcell6 := (hs1.cell (p := ⟨b, off + j * 11 + 6, none⟩) (Nat.lt_of_lt_of_le HB.out HX0.out.size)).trans hcell6
      have hcell7 := (hs1.cell (p := ⟨b, off + j * 11 + 7, none⟩) (Nat.lt_of_lt_of_le HB.out HX0.out.size)).trans hcell7
      have hcell8 := (hs1.cell (p := ⟨b, off + j * 11 + 8, none⟩) (Nat.lt_of_lt_of_le HB.out HX0.out.size)).trans hcell8
      have hcell9 := (hs1.cell (p := ⟨b, off + j * 11 + 9, none⟩) (Nat.lt_of_lt_of_le HB.out HX0.out.size)).trans hcell9
      have hcell10 := (hs1.cell (p := ⟨b, off + j * 11 + 10, none⟩) (Nat.lt_of_lt_of_le HB.out HX0.out.size)).trans hcell10
      clear hs1 hv1
      simp only [beq_self_eq_true, Bool.not_true]
      go_wp2_with fail
      refine ((heldStringS_all v1) _ _ (m + 1) _ (by omega) (HR1.out.ext HX1.out) (by omega)).mono ?_; rintro e wh2 ⟨rfl, hv2⟩
      have HX2 := Lib.hid (Ext.trans HX1.out hv2)
      have hcell2 := (hv2.cell (p := ⟨b, off + j * 11 + 2, none⟩) (Nat.lt_of_lt_of_le HB.out HX1.out.size)).trans hcell2
      have hcell3 := (hv2.cell (p := ⟨b, off + j * 11 + 3, none⟩) (Nat.lt_of_lt_of_le HB.out HX1.out.size)).trans hcell3
      have hcell4 := (hv2.cell (p := ⟨b, off + j * 11 + 4, none⟩) (Nat.lt_of_lt_of_le HB.out HX1.out.size)).trans hcell4
      have hcell5 := (hv2.cell (p := ⟨b, off + j * 11 + 5, none⟩) (Nat.lt_of_lt_of_le HB.out HX1.out.size)).trans hcell5
      have hcell6 := (hv2.cell (p := ⟨b, off + j * 11 + 6, none⟩) (Nat.lt_of_lt_of_le HB.out HX1.out.size)).trans hcell6
      have hcell7 := (hv2.cell (p := ⟨b, off + j * 11 + 7, none⟩) (Nat.lt_of_lt_of_le HB.out HX1.out.size)).trans hcell7
      have hcell8 := (hv2.cell (p := ⟨b, off + j * 11 + 8, none⟩) (Nat.lt_of_lt_of_le HB.out HX1.out.size)).trans hcell8
      have hcell9 := (hv2.cell (p := ⟨b, off + j * 11 + 9, none⟩) (Nat.lt_of_lt_of_le HB.out HX1.out.size)).trans hcell9
      have hcell10 := (hv2.cell (p := ⟨b, off + j * 11 + 10, none⟩) (Nat.lt_of_lt_of_le HB.out HX1.out.size)).trans hcell10
      clear hv2
      have hng : ¬ ((((m + 1) + Tr.cntE (strTrs v1)) : Nat) : Int) < 0 := by omega
      go_wp2_with fail
      refine wp_region_held_drew (S := Ext wh2) (by kernel_rfl) ?_ (fun hHeld => ?_)
      · exact .drew (.refl _)
      refine wpAnyH_take (i := 0) rfl (by kernel_rfl) (by kernel_rfl) (by kernel_rfl) (fun _ _ _ h => h) (.inl ⟨rfl, fun _ _ => rfl⟩) (by assumption) ?_
      simp only [Act.put, List.getElem_toArray, List.getElem_cons_zero, List.setIfInBounds_toArray, List.set_cons_zero, List.set_cons_succ]
      refine wpAnyH_take (i := 1) rfl (by kernel_rfl) (by kernel_rfl) (by kernel_rfl) (fun _ _ _ h => h) (.inl ⟨rfl, fun _ _ => rfl⟩) (by assumption) ?_
      simp only [Act.put, List.getElem_toArray, List.getElem_cons_zero, List.getElem_cons_succ, List.setIfInBounds_toArray, List.set_cons_zero, List.set_cons_succ]
      refine wpAnyH_index (i := 2) rfl (by kernel_rfl) (by kernel_rfl) (by kernel_rfl) rfl 101 (.tmp 41) (.tmp 42) rfl (b) (off) (l.length) (cap) (j) (11) rfl rfl (hki) Tryz.underlying101 (by kernel_rfl) (by assumption) (fun _ _ _ _ h => h) ?_
      simp only [Act.put, List.getElem_toArray, List.getElem_cons_zero, List.getElem_cons_succ, List.setIfInBounds_toArray, List.set_cons_zero, List.set_cons_succ]
      refine wpAnyH_take (i := 3) rfl (by kernel_rfl) (by kernel_rfl) (by kernel_rfl) (fun _ _ _ h => h) (.inl ⟨rfl, fun _ _ => rfl⟩) (by assumption) ?_
      simp only [Act.put, List.getElem_toArray, List.getElem_cons_zero, List.getElem_cons_succ, List.setIfInBounds_toArray, List.set_cons_zero, List.set_cons_succ]
      refine wpAnyH_take (i := 4) rfl (by kernel_rfl) (by kernel_rfl) (by kernel_rfl) (fun _ _ _ h => h) (.inl ⟨rfl, fun _ _ => rfl⟩) (by assumption) ?_
      simp only [Act.put, List.getElem_toArray, List.getElem_cons_zero, List.getElem_cons_succ, List.setIfInBounds_toArray, List.set_cons_zero, List.set_cons_succ]
      refine wpAnyH_cell (i := 5) rfl (by kernel_rfl) (by kernel_rfl) (by kernel_rfl) rfl 9 (.tmp 45) rfl (b) (off + j * 11 + 3) rfl (.string (mtext (((m + 1) + Tr.cntE (strTrs v1)) + 1))) _ Tryz.underlying9 rfl (fun W hW => (hW.cell (p := ⟨b, off + j * 11 + 3, none⟩) (Nat.lt_of_lt_of_le HB.out (HX2.out).size)).trans hcell3) (by assumption) (fun _ _ _ _ h => h) ?_
      simp only [Act.put, List.getElem_toArray, List.getElem_cons_zero, List.getElem_cons_succ, List.setIfInBounds_toArray, List.set_cons_zero, List.set_cons_succ]
      refine wpAnyH_take (i := 6) rfl (by kernel_rfl) (by kernel_rfl) (by kernel_rfl) (fun _ _ _ h => h) (.inl ⟨rfl, fun _ _ => rfl⟩) (by assumption) ?_
      simp only [Act.put, List.getElem_toArray, List.getElem_cons_zero, List.getElem_cons_succ, List.setIfInBounds_toArray, List.set_cons_zero, List.set_cons_succ]
      refine wpAnyH_call (i := 7) (by kernel_rfl) rfl rfl (run_call_func rfl rfl #[.int .i64 _] (by simp only [List.map_toArray, List.map_cons, List.map_nil, Act.eval]; rfl) Tryz.func94 (by kernel_rfl) (by kernel_rfl) _) (markText_any _ (((m + 1) + Tr.cntE (strTrs v1)) + 1) _ (by omega) (by omega)) ?_; rintro e wh3 ⟨rfl, hv3⟩
      have hs1 := Ext.trans hHeld hv3
      refine ⟨_, rfl, hs1, ?_⟩
      simp only [Act.put, List.getElem_toArray, List.getElem_cons_zero, List.getElem_cons_succ, List.setIfInBounds_toArray, List.set_cons_zero, List.set_cons_succ]
      refine wpAnyH_take (i := 8) rfl (by kernel_rfl) (by kernel_rfl) (by kernel_rfl) (fun _ _ _ h => h) (.inl ⟨rfl, fun _ _ => rfl⟩) (by assumption) ?_
      simp only [Act.put, List.getElem_toArray, List.getElem_cons_zero, List.getElem_cons_succ, List.setIfInBounds_toArray, List.set_cons_zero, List.set_cons_succ]
      refine wpAnyH_done (by kernel_rfl) ?_ _
      clear hHeld
      have HX3 := Lib.hid (Ext.trans HX2.out hs1)
      have hcell4 := (hs1.cell (p := ⟨b, off + j * 11 + 4, none⟩) (Nat.lt_of_lt_of_le HB.out HX2.out.size)).trans hcell4
      have hcell5 := (hs1.cell (p := ⟨b, off + j * 11 + 5, none⟩) (Nat.lt_of_lt_of_le HB.out HX2.out.size)).trans hcell5
      have hcell6 := (hs1.cell (p := ⟨b, off + j * 11 + 6, none⟩) (Nat.lt_of_lt_of_le HB.out HX2.out.size)).trans hcell6
      have hcell7 := (hs1.cell (p := ⟨b, off + j * 11 + 7, none⟩) (Nat.lt_of_lt_of_le HB.out HX2.out.size)).trans hcell7
      have hcell8 := (hs1.cell (p := ⟨b, off + j * 11 + 8, none⟩) (Nat.lt_of_lt_of_le HB.out HX2.out.size)).trans hcell8
      have hcell9 := (hs1.cell (p := ⟨b, off + j * 11 + 9, none⟩) (Nat.lt_of_lt_of_le HB.out HX2.out.size)).trans hcell9
      have hcell10 := (hs1.cell (p := ⟨b, off + j * 11 + 10, none⟩) (Nat.lt_of_lt_of_le HB.out HX2.out.size)).trans hcell10
      clear hs1 hv3
      simp only [beq_self_eq_true, Bool.not_true]
      go_wp2_with fail
      refine wp_region_held_drew (S := Ext wh3) (by kernel_rfl) ?_ (fun hHeld => ?_)
      · exact .drew (.refl _)
      refine wpAnyH_take (i := 0) rfl (by kernel_rfl) (by kernel_rfl) (by kernel_rfl) (fun _ _ _ h => h) (.inl ⟨rfl, fun _ _ => rfl⟩) (by assumption) ?_
      simp only [Act.put, List.getElem_toArray, List.getElem_cons_zero, List.setIfInBounds_toArray, List.set_cons_zero, List.set_cons_succ]
      refine wpAnyH_take (i := 1) rfl (by kernel_rfl) (by kernel_rfl) (by kernel_rfl) (fun _ _ _ h => h) (.inl ⟨rfl, fun _ _ => rfl⟩) (by assumption) ?_
      simp only [Act.put, List.getElem_toArray, List.getElem_cons_zero, List.getElem_cons_succ, List.setIfInBounds_toArray, List.set_cons_zero, List.set_cons_succ]
      refine wpAnyH_index (i := 2) rfl (by kernel_rfl) (by kernel_rfl) (by kernel_rfl) rfl 101 (.tmp 52) (.tmp 53) rfl (b) (off) (l.length) (cap) (j) (11) rfl rfl (hki) Tryz.underlying101 (by kernel_rfl) (by assumption) (fun _ _ _ _ h => h) ?_
      simp only [Act.put, List.getElem_toArray, List.getElem_cons_zero, List.getElem_cons_succ, List.setIfInBounds_toArray, List.set_cons_zero, List.set_cons_succ]
      refine wpAnyH_take (i := 3) rfl (by kernel_rfl) (by kernel_rfl) (by kernel_rfl) (fun _ _ _ h => h) (.inl ⟨rfl, fun _ _ => rfl⟩) (by assumption) ?_
      simp only [Act.put, List.getElem_toArray, List.getElem_cons_zero, List.getElem_cons_succ, List.setIfInBounds_toArray, List.set_cons_zero, List.set_cons_succ]
      refine wpAnyH_take (i := 4) rfl (by kernel_rfl) (by kernel_rfl) (by kernel_rfl) (fun _ _ _ h => h) (.inl ⟨rfl, fun _ _ => rfl⟩) (by assumption) ?_
      simp only [Act.put, List.getElem_toArray, List.getElem_cons_zero, List.getElem_cons_succ, List.setIfInBounds_toArray, List.set_cons_zero, List.set_cons_succ]
      refine wpAnyH_cell (i := 5) rfl (by kernel_rfl) (by kernel_rfl) (by kernel_rfl) rfl 9 (.tmp 56) rfl (b) (off + j * 11 + 4) rfl (.string (mtext ((((m + 1) + Tr.cntE (strTrs v1)) + 1) + 1))) _ Tryz.underlying9 rfl (fun W hW => (hW.cell (p := ⟨b, off + j * 11 + 4, none⟩) (Nat.lt_of_lt_of_le HB.out (HX3.out).size)).trans hcell4) (by assumption) (fun _ _ _ _ h => h) ?_
      simp only [Act.put, List.getElem_toArray, List.getElem_cons_zero, List.getElem_cons_succ, List.setIfInBounds_toArray, List.set_cons_zero, List.set_cons_succ]
      refine wpAnyH_take (i := 6) rfl (by kernel_rfl) (by kernel_rfl) (by kernel_rfl) (fun _ _ _ h => h) (.inl ⟨rfl, fun _ _ => rfl⟩) (by assumption) ?_
      simp only [Act.put, List.getElem_toArray, List.getElem_cons_zero, List.getElem_cons_succ, List.setIfInBounds_toArray, List.set_cons_zero, List.set_cons_succ]
      refine wpAnyH_call (i := 7) (by kernel_rfl) rfl rfl (run_call_func rfl rfl #[.int .i64 _] (by simp only [List.map_toArray, List.map_cons, List.map_nil, Act.eval]; rfl) Tryz.func94 (by kernel_rfl) (by kernel_rfl) _) (markText_any _ ((((m + 1) + Tr.cntE (strTrs v1)) + 1) + 1) _ (by omega) (by omega)) ?_; rintro e wh4 ⟨rfl, hv4⟩
      have hs1 := Ext.trans hHeld hv4
      refine ⟨_, rfl, hs1, ?_⟩
      simp only [Act.put, List.getElem_toArray, List.getElem_cons_zero, List.getElem_cons_succ, List.setIfInBounds_toArray, List.set_cons_zero, List.set_cons_succ]
      refine wpAnyH_take (i := 8) rfl (by kernel_rfl) (by kernel_rfl) (by kernel_rfl) (fun _ _ _ h => h) (.inl ⟨rfl, fun _ _ => rfl⟩) (by assumption) ?_
      simp only [Act.put, List.getElem_toArray, List.getElem_cons_zero, List.getElem_cons_succ, List.setIfInBounds_toArray, List.set_cons_zero, List.set_cons_succ]
      refine wpAnyH_done (by kernel_rfl) ?_ _
      clear hHeld
      have HX4 := Lib.hid (Ext.trans HX3.out hs1)
      have hcell5 := (hs1.cell (p := ⟨b, off + j * 11 + 5, none⟩) (Nat.lt_of_lt_of_le HB.out HX3.out.size)).trans hcell5
      have hcell6 := (hs1.cell (p := ⟨b, off + j * 11 + 6, none⟩) (Nat.lt_of_lt_of_le HB.out HX3.out.size)).trans hcell6
      have hcell7 := (hs1.cell (p := ⟨b, off + j * 11 + 7, none⟩) (Nat.lt_of_lt_of_le HB.out HX3.out.size)).trans hcell7
      have hcell8 := (hs1.cell (p := ⟨b, off + j * 11 + 8, none⟩) (Nat.lt_of_lt_of_le HB.out HX3.out.size)).trans hcell8
      have hcell9 := (hs1.cell (p := ⟨b, off + j * 11 + 9, none⟩) (Nat.lt_of_lt_of_le HB.out HX3.out.size)).trans hcell9
      have hcell10 := (hs1.cell (p := ⟨b, off + j * 11 + 10, none⟩) (Nat.lt_of_lt_of_le HB.out HX3.out.size)).trans hcell10
      clear hs1 hv4
      simp only [beq_self_eq_true, Bool.not_true]
      go_wp2_with fail
      refine wp_region_held_drew (S := Ext wh4) (by kernel_rfl) ?_ (fun hHeld => ?_)
      · exact .drew (.refl _)
      refine wpAnyH_take (i := 0) rfl (by kernel_rfl) (by kernel_rfl) (by kernel_rfl) (fun _ _ _ h => h) (.inl ⟨rfl, fun _ _ => rfl⟩) (by assumption) ?_
      simp only [Act.put, List.getElem_toArray, List.getElem_cons_zero, List.setIfInBounds_toArray, List.set_cons_zero, List.set_cons_succ]
      refine wpAnyH_take (i := 1) rfl (by kernel_rfl) (by kernel_rfl) (by kernel_rfl) (fun _ _ _ h => h) (.inl ⟨rfl, fun _ _ => rfl⟩) (by assumption) ?_
      simp only [Act.put, List.getElem_toArray, List.getElem_cons_zero, List.getElem_cons_succ, List.setIfInBounds_toArray, List.set_cons_zero, List.set_cons_succ]
      refine wpAnyH_index (i := 2) rfl (by kernel_rfl) (by kernel_rfl) (by kernel_rfl) rfl 101 (.tmp 84) (.tmp 85) rfl (b) (off) (l.length) (cap) (j) (11) rfl rfl (hki) Tryz.underlying101 (by kernel_rfl) (by assumption) (fun _ _ _ _ h => h) ?_
      simp only [Act.put, List.getElem_toArray, List.getElem_cons_zero, List.getElem_cons_succ, List.setIfInBounds_toArray, List.set_cons_zero, List.set_cons_succ]
      refine wpAnyH_take (i := 3) rfl (by kernel_rfl) (by kernel_rfl) (by kernel_rfl) (fun _ _ _ h => h) (.inl ⟨rfl, fun _ _ => rfl⟩) (by assumption) ?_
      simp only [Act.put, List.getElem_toArray, List.getElem_cons_zero, List.getElem_cons_succ, List.setIfInBounds_toArray, List.set_cons_zero, List.set_cons_succ]
      refine wpAnyH_take (i := 4) rfl (by kernel_rfl) (by kernel_rfl) (by kernel_rfl) (fun _ _ _ h => h) (.inl ⟨rfl, fun _ _ => rfl⟩) (by assumption) ?_
      simp only [Act.put, List.getElem_toArray, List.getElem_cons_zero, List.getElem_cons_succ, List.setIfInBounds_toArray, List.set_cons_zero, List.set_cons_succ]
      refine wpAnyH_take (i := 5) rfl (by kernel_rfl) (by kernel_rfl) (by kernel_rfl) (fun _ _ _ h => h) (.inl ⟨rfl, fun _ _ => rfl⟩) (by assumption) ?_
      simp only [Act.put, List.getElem_toArray, List.getElem_cons_zero, List.getElem_cons_succ, List.setIfInBounds_toArray, List.set_cons_zero, List.set_cons_succ]
      refine wpAnyH_cell (i := 6) rfl (by kernel_rfl) (by kernel_rfl) (by kernel_rfl) rfl 9 (.tmp 89) rfl (b) (off + j * 11 + 7) rfl (.string (mtext (((((((m + 1) + Tr.cntE (strTrs v1)) + 1) + 1) + 1) + 1) + 1))) _ Tryz.underlying9 rfl (fun W hW => (hW.cell (p := ⟨b, off + j * 11 + 7, none⟩) (Nat.lt_of_lt_of_le HB.out (HX4.out).size)).trans hcell7) (by assumption) (fun _ _ _ _ h => h) ?_
      simp only [Act.put, List.getElem_toArray, List.getElem_cons_zero, List.getElem_cons_succ, List.setIfInBounds_toArray, List.set_cons_zero, List.set_cons_succ]
      refine wpAnyH_take (i := 7) rfl (by kernel_rfl) (by kernel_rfl) (by kernel_rfl) (fun _ _ _ h => h) (.inl ⟨rfl, fun _ _ => rfl⟩) (by assumption) ?_
      simp only [Act.put, List.getElem_toArray, List.getElem_cons_zero, List.getElem_cons_succ, List.setIfInBounds_toArray, List.set_cons_zero, List.set_cons_succ]
      refine wpAnyH_call (i := 8) (by kernel_rfl) rfl rfl (run_call_func rfl rfl #[.int .i64 _] (by simp only [List.map_toArray, List.map_cons, List.map_nil, Act.eval]; rfl) Tryz.func94 (by kernel_rfl) (by kernel_rfl) _) (markText_any _ (((((((m + 1) + Tr.cntE (strTrs v1)) + 1) + 1) + 1) + 1) + 1) _ (by omega) (by omega)) ?_; rintro e wh5 ⟨rfl, hv5⟩
      have hs1 := Ext.trans hHeld hv5
      refine ⟨_, rfl, hs1, ?_⟩
      simp only [Act.put, List.getElem_toArray, List.getElem_cons_zero, List.getElem_cons_succ, List.setIfInBounds_toArray, List.set_cons_zero, List.set_cons_succ]
      refine wpAnyH_take (i := 9) rfl (by kernel_rfl) (by kernel_rfl) (by kernel_rfl) (fun _ _ _ h => h) (.inl ⟨rfl, fun _ _ => rfl⟩) (by assumption) ?_
      simp only [Act.put, List.getElem_toArray, List.getElem_cons_zero, List.getElem_cons_succ, List.setIfInBounds_toArray, List.set_cons_zero, List.set_cons_succ]
      refine wpAnyH_done (by kernel_rfl) ?_ _
      clear hHeld
      have HX5 := Lib.hid (Ext.trans HX4.out hs1)
      have hcell8 := (hs1.cell (p := ⟨b, off + j * 11 + 8, none⟩) (Nat.lt_of_lt_of_le HB.out HX4.out.size)).trans hcell8
      have hcell9 := (hs1.cell (p := ⟨b, off + j * 11 + 9, none⟩) (Nat.lt_of_lt_of_le HB.out HX4.out.size)).trans hcell9
      have hcell10 := (hs1.cell (p := ⟨b, off + j * 11 + 10, none⟩) (Nat.lt_of_lt_of_le HB.out HX4.out.size)).trans hcell10
      clear hs1 hv5
      simp only [beq_self_eq_true, Bool.not_true]
      go_wp2_with fail
      refine ((heldTypeS_all v2_4_2) _ _ ((((((((m + 1) + Tr.cntE (strTrs v1)) + 1) + 1) + 1) + 1) + 1) + 1) _ (by omega) (HR8.out.ext HX5.out) (by omega)).mono ?_; rintro e wh6 ⟨rfl, hv6⟩
      have HX6 := Lib.hid (Ext.trans HX5.out hv6)
      have hcell9 := (hv6.cell (p := ⟨b, off + j * 11 + 9, none⟩) (Nat.lt_of_lt_of_le HB.out HX5.out.size)).trans hcell9
      have hcell10 := (hv6.cell (p := ⟨b, off + j * 11 + 10, none⟩) (Nat.lt_of_lt_of_le HB.out HX5.out.size)).trans hcell10
      clear hv6
      have hng : ¬ (((((((((((m + 1) + Tr.cntE (strTrs v1)) + 1) + 1) + 1) + 1) + 1) + 1) + Tr.cntE (GType.trs v2_4_2)) : Nat) : Int) < 0 := by omega
      go_wp2_with fail
      refine (HM9.out _ _ (((((((((m + 1) + Tr.cntE (strTrs v1)) + 1) + 1) + 1) + 1) + 1) + 1) + Tr.cntE (GType.trs v2_4_2)) _ (by omega) (HR9.out.ext HX6.out) (by omega)).mono ?_; rintro e wh7 ⟨rfl, hv7⟩
      have HX7 := Lib.hid (Ext.trans HX6.out hv7)
      have hcell10 := (hv7.cell (p := ⟨b, off + j * 11 + 10, none⟩) (Nat.lt_of_lt_of_le HB.out HX6.out.size)).trans hcell10
      clear hv7
      have hng : ¬ ((((((((((((m + 1) + Tr.cntE (strTrs v1)) + 1) + 1) + 1) + 1) + 1) + 1) + Tr.cntE (GType.trs v2_4_2)) + Tr.cntE (GExpr.trs v2_5)) : Nat) : Int) < 0 := by omega
      go_wp2_with fail
      refine (HM10.out _ _ ((((((((((m + 1) + Tr.cntE (strTrs v1)) + 1) + 1) + 1) + 1) + 1) + 1) + Tr.cntE (GType.trs v2_4_2)) + Tr.cntE (GExpr.trs v2_5)) _ (by omega) (HR10.out.ext HX7.out) (by omega)).mono ?_; rintro e wh8 ⟨rfl, hv8⟩
      have HX8 := Lib.hid (Ext.trans HX7.out hv8)
      clear hv8
      have hng : ¬ (((((((((((((m + 1) + Tr.cntE (strTrs v1)) + 1) + 1) + 1) + 1) + 1) + 1) + Tr.cntE (GType.trs v2_4_2)) + Tr.cntE (GExpr.trs v2_5)) + Tr.cntE (GArm.trs v2_6)) : Nat) : Int) < 0 := by omega
      go_wp2_with fail
      go_roundw
      case rel => exact ⟨j + 1, (((((((((((m + 1) + Tr.cntE (strTrs v1)) + 1) + 1) + 1) + 1) + 1) + 1) + Tr.cntE (GType.trs v2_4_2)) + Tr.cntE (GExpr.trs v2_5)) + Tr.cntE (GArm.trs v2_6)), by omega, by go_num, by first | rfl | go_num, by have h1 := HTK.out; have h2 := HM1.out; show _ = _; omega, hw.trans HX8.out⟩
      case measure => simp [intOf]; omega
    · have hkl : j = (GArm.trs l).length := by rw [GArm.trs_len]; omega
      go_wp2_with fail
      go_ret
      have hm1 := HM1.out
      rw [hkl, List.take_length] at hm1
      subst hm1
      exact ⟨rfl, hw⟩
theorem heldExpr_in : ∀ x : GExpr, HeldSC 170 9 (GExpr.trs x.gArgs) ∧ HeldSC 171 11 (GArm.trs x.gArms) :=
  GExpr.ind fun v0 v1 v2 v3 v4 v5 v6 ih5 ih6 => ⟨heldExprS_of v5 (fun x hx => (ih5 x hx).1) (fun x hx => (ih5 x hx).2), heldArmS_of v6 (fun x hx => (ih6 x hx).1) (fun x hx => (ih6 x hx).2)⟩
theorem heldExprS_all (l : List GExpr) : HeldSC 170 9 (GExpr.trs l) := heldExprS_of l (fun x _ => (heldExpr_in x).1) (fun x _ => (heldExpr_in x).2)
theorem heldArmS_all (l : List GArm) : HeldSC 171 11 (GArm.trs l) := heldArmS_of l (fun x _ => (heldExpr_in x.gBody).1) (fun x _ => (heldExpr_in x.gBody).2)

set_option maxRecDepth 100000 in
set_option maxHeartbeats 2000000 in
theorem heldType_all (x : GType) : HeldC 49 x.tr := by
  obtain ⟨v0, v1, v2⟩ := x
  have htr : GType.tr (.mk v0 v1 v2) = [.leaf (.int .i64 v0), .leaf (.string v1), .row 3 (GType.trs v2)] := by simp [GType.tr]
  rw [htr]
  clear htr
  intro cs kz k w hz hr hbd
  subst hz
  simp only [Tr.topN, Tr.topL, Nat.add_zero] at *
  obtain ⟨d0, d1, d2, rfl⟩ := list3 hr.length.symm
  obtain ⟨rfl, -⟩ := (hr.1).leaf_eq
  obtain ⟨rfl, -⟩ := (hr.2.1).leaf_eq
  have HR := Lib.hid (hr.2.2.1)
  obtain ⟨sa, sc, hd, -, -⟩ := HR.out.shape
  rw [Tr.markE_length] at hd
  rw [GType.trs_len] at hd
  subst hd
  clear hr
  go_enter Tryz.func49, Tryz.ntmps49
  go_wp2_with fail
  refine (heldTypeS_all v2 _ _ k _ (by rfl) (HR.out.ext (.alloc (.refl _) _)) (by omega)).mono ?_; rintro e w1 ⟨rfl, hw1⟩
  have HW1 := Lib.hid (Ext.trans (.alloc (.refl _) _) hw1)
  clear hw1
  have hng : ¬ ((k + Tr.cntE (GType.trs v2) : Nat) : Int) < 0 := by omega
  go_wp2_with fail
  go_ret
  exact ⟨rfl, HW1.out⟩
-- heldExpr: not served

end Go.Proofs.YtnakkelglbcecaaGreat

namespace Go.Proofs.YtnakkelglbcecaaGreat
open Go.RowKit Go.Proofs

set_option maxRecDepth 100000 in
set_option maxHeartbeats 2000000 in
theorem heldBoundS_of (l : List GBound)  : HeldSC 133 4 (GBound.trs l) := by
  intro s kz k w hz hrep0 hbd
  subst hz
  obtain ⟨a, cap, rfl, hl, hm⟩ := hrep0.shape
  rw [Tr.markE_length, GBound.trs_len] at *
  unfold maxLen at hm
  have HO := Lib.hid hrep0
  clear hrep0
  go_enter Tryz.func133, Tryz.ntmps133
  go_wp2_with fail
  go_loopw [1, 5] (fun kv i wr => ∃ j m : Nat, j ≤ l.length ∧ i = .int .i64 j ∧ kv = .int .i64 (m : Int) ∧ Hid (m = k + Tr.cntE ((GBound.trs l).take j)) ∧ Ext w wr) (fun _ i _ => l.length - (intOf i).toNat)
  case atStart => exact ⟨0, k, Nat.zero_le _, rfl, rfl, by show _ = _; simp [Tr.cntE], .refl _⟩
  case round =>
    obtain ⟨j, m, hj, rfl, rfl, HM1, hw⟩ := hrel
    by_cases hlt : j < l.length
    · have hlt2 : j < (GBound.trs l).length := by rw [GBound.trs_len]; exact hlt
      have hge : (GBound.trs l)[j] = (l[j]).tr := by have h1 := GBound.trs_get hlt; rw [List.getElem?_eq_getElem hlt2] at h1; exact Option.some.inj h1
      have hcl := Tr.cntE_le hlt2
      have hmg := Tr.markE_get (GBound.trs l) k j hlt2
      have htk : Tr.cntE ((GBound.trs l).take (j + 1)) = Tr.cntE ((GBound.trs l).take j) + Tr.cntL (GBound.trs l)[j] := Tr.cntE_take _ j hlt2
      rw [hge] at hcl hmg htk
      have hm1 := HM1.out
      rw [← hm1] at hmg
      generalize l[j] = x at *
      obtain ⟨v0, ⟨v1_0, v1_1, v1_2⟩⟩ := x
      have htr : GBound.tr (.mk v0 (.mk v1_0 v1_1 v1_2)) = [.leaf (.string v0), .leaf (.int .i64 v1_0), .leaf (.string v1_1), .row 3 (GType.trs v1_2)] := by simp [GBound.tr, GType.tr]
      rw [htr] at hcl hmg htk
      have hcw : Tr.cntL [.leaf (.string v0), .leaf (.int .i64 v1_0), .leaf (.string v1_1), .row 3 (GType.trs v1_2)] = 1 + 1 + 1 + Tr.cntE (GType.trs v1_2) := by simp only [Tr.cntL, Tr.cnt] <;> omega
      obtain ⟨b, off, cs0, rfl, hb, hrep, hc⟩ := (HO.out.ext hw).at2 hmg
      obtain ⟨d0, d1, d2, d3, rfl⟩ := list4 hrep.length.symm
      obtain ⟨rfl, -⟩ := (hrep.1).leaf_eq
      obtain ⟨rfl, -⟩ := (hrep.2.1).leaf_eq
      obtain ⟨rfl, -⟩ := (hrep.2.2.1).leaf_eq
      have HR3 := Lib.hid (hrep.2.2.2.1)
      obtain ⟨sa3, sc3, hd3, -, -⟩ := HR3.out.shape
      rw [Tr.markE_length] at hd3
      subst hd3
      have hmb : m + (1 + 1 + 1 + Tr.cntE (GType.trs v1_2)) ≤ 1152921504606846976 := by rw [← hcw]; omega
      rw [hcw] at htk
      have HTK := Lib.hid htk
      have HC := Lib.hid hc
      have HB := Lib.hid hb
      have hki := hlt
      simp only [markLeaf, Tr.cnt] at *
      have hcell0 : wr.cell? ⟨b, off + j * 4, none⟩ = some _ := HC.out 0 _ rfl
      have hcell1 : wr.cell? ⟨b, off + j * 4 + 1, none⟩ = some _ := HC.out 1 _ rfl
      have hcell2 : wr.cell? ⟨b, off + j * 4 + 2, none⟩ = some _ := HC.out 2 _ rfl
      have hcell3 : wr.cell? ⟨b, off + j * 4 + 3, none⟩ = some _ := HC.out 3 _ rfl
      clear hrep hc hmg htk hge hcl hcw hm1 htr hb
      go_wp2_with fail
      have HX0 := Lib.hid (Ext.refl wr)
      refine wp_region_held_drew (S := Ext wr) (by kernel_rfl) ?_ (fun hHeld => ?_)
      · exact .drew (.refl _)
      refine wpAnyH_take (i := 0) rfl (by kernel_rfl) (by kernel_rfl) (by kernel_rfl) (fun _ _ _ h => h) (.inl ⟨rfl, fun _ _ => rfl⟩) (by assumption) ?_
      simp only [Act.put, List.getElem_toArray, List.getElem_cons_zero, List.setIfInBounds_toArray, List.set_cons_zero, List.set_cons_succ]
      refine wpAnyH_take (i := 1) rfl (by kernel_rfl) (by kernel_rfl) (by kernel_rfl) (fun _ _ _ h => h) (.inl ⟨rfl, fun _ _ => rfl⟩) (by assumption) ?_
      simp only [Act.put, List.getElem_toArray, List.getElem_cons_zero, List.getElem_cons_succ, List.setIfInBounds_toArray, List.set_cons_zero, List.set_cons_succ]
      refine wpAnyH_index (i := 2) rfl (by kernel_rfl) (by kernel_rfl) (by kernel_rfl) rfl 82 (.tmp 12) (.tmp 13) rfl (b) (off) (l.length) (cap) (j) (4) rfl rfl (hki) Tryz.underlying82 (by kernel_rfl) (by assumption) (fun _ _ _ _ h => h) ?_
      simp only [Act.put, List.getElem_toArray, List.getElem_cons_zero, List.getElem_cons_succ, List.setIfInBounds_toArray, List.set_cons_zero, List.set_cons_succ]
      refine wpAnyH_take (i := 3) rfl (by kernel_rfl) (by kernel_rfl) (by kernel_rfl) (fun _ _ _ h => h) (.inl ⟨rfl, fun _ _ => rfl⟩) (by assumption) ?_
      simp only [Act.put, List.getElem_toArray, List.getElem_cons_zero, List.getElem_cons_succ, List.setIfInBounds_toArray, List.set_cons_zero, List.set_cons_succ]
      refine wpAnyH_cell (i := 4) rfl (by kernel_rfl) (by kernel_rfl) (by kernel_rfl) rfl 9 (.tmp 15) rfl (b) (off + j * 4) rfl (.string (mtext m)) _ Tryz.underlying9 rfl (fun W hW => (hW.cell (p := ⟨b, off + j * 4, none⟩) (Nat.lt_of_lt_of_le HB.out (HX0.out).size)).trans hcell0) (by assumption) (fun _ _ _ _ h => h) ?_
      simp only [Act.put, List.getElem_toArray, List.getElem_cons_zero, List.getElem_cons_succ, List.setIfInBounds_toArray, List.set_cons_zero, List.set_cons_succ]
      refine wpAnyH_take (i := 5) rfl (by kernel_rfl) (by kernel_rfl) (by kernel_rfl) (fun _ _ _ h => h) (.inl ⟨rfl, fun _ _ => rfl⟩) (by assumption) ?_
      simp only [Act.put, List.getElem_toArray, List.getElem_cons_zero, List.getElem_cons_succ, List.setIfInBounds_toArray, List.set_cons_zero, List.set_cons_succ]
      refine wpAnyH_call (i := 6) (by kernel_rfl) rfl rfl (run_call_func rfl rfl #[.int .i64 _] (by simp only [List.map_toArray, List.map_cons, List.map_nil, Act.eval]; rfl) Tryz.func94 (by kernel_rfl) (by kernel_rfl) _) (markText_any _ m _ (by omega) (by omega)) ?_; rintro e wh1 ⟨rfl, hv1⟩
      have hs1 := Ext.trans hHeld hv1
      refine ⟨_, rfl, hs1, ?_⟩
      simp only [Act.put, List.getElem_toArray, List.getElem_cons_zero, List.getElem_cons_succ, List.setIfInBounds_toArray, List.set_cons_zero, List.set_cons_succ]
      refine wpAnyH_take (i := 7) rfl (by kernel_rfl) (by kernel_rfl) (by kernel_rfl) (fun _ _ _ h => h) (.inl ⟨rfl, fun _ _ => rfl⟩) (by assumption) ?_
      simp only [Act.put, List.getElem_toArray, List.getElem_cons_zero, List.getElem_cons_succ, List.setIfInBounds_toArray, List.set_cons_zero, List.set_cons_succ]
      refine wpAnyH_done (by kernel_rfl) ?_ _
      clear hHeld
      have HX1 := Lib.hid (Ext.trans HX0.out hs1)
      replace hcell1 := (hs1.cell (p := ⟨b, off + j * 4 + 1, none⟩) (Nat.lt_of_lt_of_le HB.out HX0.out.size)).trans hcell1
      replace hcell2 := (hs1.cell (p := ⟨b, off + j * 4 + 2, none⟩) (Nat.lt_of_lt_of_le HB.out HX0.out.size)).trans hcell2
      replace hcell3 := (hs1.cell (p := ⟨b, off + j * 4 + 3, none⟩) (Nat.lt_of_lt_of_le HB.out HX0.out.size)).trans hcell3
      clear hs1 hv1
      simp only [beq_self_eq_true, Bool.not_true]
      go_wp2_with fail
      refine wp_region_held_drew (S := Ext wh1) (by kernel_rfl) ?_ (fun hHeld => ?_)
      · exact .drew (.refl _)
      refine wpAnyH_take (i := 0) rfl (by kernel_rfl) (by kernel_rfl) (by kernel_rfl) (fun _ _ _ h => h) (.inl ⟨rfl, fun _ _ => rfl⟩) (by assumption) ?_
      simp only [Act.put, List.getElem_toArray, List.getElem_cons_zero, List.setIfInBounds_toArray, List.set_cons_zero, List.set_cons_succ]
      refine wpAnyH_take (i := 1) rfl (by kernel_rfl) (by kernel_rfl) (by kernel_rfl) (fun _ _ _ h => h) (.inl ⟨rfl, fun _ _ => rfl⟩) (by assumption) ?_
      simp only [Act.put, List.getElem_toArray, List.getElem_cons_zero, List.getElem_cons_succ, List.setIfInBounds_toArray, List.set_cons_zero, List.set_cons_succ]
      refine wpAnyH_index (i := 2) rfl (by kernel_rfl) (by kernel_rfl) (by kernel_rfl) rfl 82 (.tmp 32) (.tmp 33) rfl (b) (off) (l.length) (cap) (j) (4) rfl rfl (hki) Tryz.underlying82 (by kernel_rfl) (by assumption) (fun _ _ _ _ h => h) ?_
      simp only [Act.put, List.getElem_toArray, List.getElem_cons_zero, List.getElem_cons_succ, List.setIfInBounds_toArray, List.set_cons_zero, List.set_cons_succ]
      refine wpAnyH_take (i := 3) rfl (by kernel_rfl) (by kernel_rfl) (by kernel_rfl) (fun _ _ _ h => h) (.inl ⟨rfl, fun _ _ => rfl⟩) (by assumption) ?_
      simp only [Act.put, List.getElem_toArray, List.getElem_cons_zero, List.getElem_cons_succ, List.setIfInBounds_toArray, List.set_cons_zero, List.set_cons_succ]
      refine wpAnyH_take (i := 4) rfl (by kernel_rfl) (by kernel_rfl) (by kernel_rfl) (fun _ _ _ h => h) (.inl ⟨rfl, fun _ _ => rfl⟩) (by assumption) ?_
      simp only [Act.put, List.getElem_toArray, List.getElem_cons_zero, List.getElem_cons_succ, List.setIfInBounds_toArray, List.set_cons_zero, List.set_cons_succ]
      refine wpAnyH_cell (i := 5) rfl (by kernel_rfl) (by kernel_rfl) (by kernel_rfl) rfl 9 (.tmp 36) rfl (b) (off + j * 4 + 2) rfl (.string (mtext ((m + 1) + 1))) _ Tryz.underlying9 rfl (fun W hW => (hW.cell (p := ⟨b, off + j * 4 + 2, none⟩) (Nat.lt_of_lt_of_le HB.out (HX1.out).size)).trans hcell2) (by assumption) (fun _ _ _ _ h => h) ?_
      simp only [Act.put, List.getElem_toArray, List.getElem_cons_zero, List.getElem_cons_succ, List.setIfInBounds_toArray, List.set_cons_zero, List.set_cons_succ]
      refine wpAnyH_take (i := 6) rfl (by kernel_rfl) (by kernel_rfl) (by kernel_rfl) (fun _ _ _ h => h) (.inl ⟨rfl, fun _ _ => rfl⟩) (by assumption) ?_
      simp only [Act.put, List.getElem_toArray, List.getElem_cons_zero, List.getElem_cons_succ, List.setIfInBounds_toArray, List.set_cons_zero, List.set_cons_succ]
      refine wpAnyH_call (i := 7) (by kernel_rfl) rfl rfl (run_call_func rfl rfl #[.int .i64 _] (by simp only [List.map_toArray, List.map_cons, List.map_nil, Act.eval]; rfl) Tryz.func94 (by kernel_rfl) (by kernel_rfl) _) (markText_any _ ((m + 1) + 1) _ (by omega) (by omega)) ?_; rintro e wh2 ⟨rfl, hv2⟩
      have hs1 := Ext.trans hHeld hv2
      refine ⟨_, rfl, hs1, ?_⟩
      simp only [Act.put, List.getElem_toArray, List.getElem_cons_zero, List.getElem_cons_succ, List.setIfInBounds_toArray, List.set_cons_zero, List.set_cons_succ]
      refine wpAnyH_take (i := 8) rfl (by kernel_rfl) (by kernel_rfl) (by kernel_rfl) (fun _ _ _ h => h) (.inl ⟨rfl, fun _ _ => rfl⟩) (by assumption) ?_
      simp only [Act.put, List.getElem_toArray, List.getElem_cons_zero, List.getElem_cons_succ, List.setIfInBounds_toArray, List.set_cons_zero, List.set_cons_succ]
      refine wpAnyH_done (by kernel_rfl) ?_ _
      clear hHeld
      have HX2 := Lib.hid (Ext.trans HX1.out hs1)
      replace hcell3 := (hs1.cell (p := ⟨b, off + j * 4 + 3, none⟩) (Nat.lt_of_lt_of_le HB.out HX1.out.size)).trans hcell3
      clear hs1 hv2
      simp only [beq_self_eq_true, Bool.not_true]
      go_wp2_with fail
      refine ((heldTypeS_all v1_2) _ _ (((m + 1) + 1) + 1) _ (by omega) (HR3.out.ext HX2.out) (by omega)).mono ?_; rintro e wh3 ⟨rfl, hv3⟩
      have HX3 := Lib.hid (Ext.trans HX2.out hv3)
      clear hv3
      have hng : ¬ ((((((m + 1) + 1) + 1) + Tr.cntE (GType.trs v1_2)) : Nat) : Int) < 0 := by omega
      go_wp2_with fail
      go_roundw
      case rel => exact ⟨j + 1, ((((m + 1) + 1) + 1) + Tr.cntE (GType.trs v1_2)), by omega, by go_num, by first | rfl | go_num, by have h1 := HTK.out; have h2 := HM1.out; show _ = _; omega, hw.trans HX3.out⟩
      case measure => simp [intOf]; omega
    · have hkl : j = (GBound.trs l).length := by rw [GBound.trs_len]; omega
      go_wp2_with fail
      go_ret
      have hm1 := HM1.out
      rw [hkl, List.take_length] at hm1
      subst hm1
      exact ⟨rfl, hw⟩
theorem heldBoundS_all (l : List GBound) : HeldSC 133 4 (GBound.trs l) := heldBoundS_of l

set_option maxRecDepth 100000 in
set_option maxHeartbeats 2000000 in
theorem heldParamS_of (l : List GParam)  : HeldSC 134 4 (GParam.trs l) := by
  intro s kz k w hz hrep0 hbd
  subst hz
  obtain ⟨a, cap, rfl, hl, hm⟩ := hrep0.shape
  rw [Tr.markE_length, GParam.trs_len] at *
  unfold maxLen at hm
  have HO := Lib.hid hrep0
  clear hrep0
  go_enter Tryz.func134, Tryz.ntmps134
  go_wp2_with fail
  go_loopw [1, 5] (fun kv i wr => ∃ j m : Nat, j ≤ l.length ∧ i = .int .i64 j ∧ kv = .int .i64 (m : Int) ∧ Hid (m = k + Tr.cntE ((GParam.trs l).take j)) ∧ Ext w wr) (fun _ i _ => l.length - (intOf i).toNat)
  case atStart => exact ⟨0, k, Nat.zero_le _, rfl, rfl, by show _ = _; simp [Tr.cntE], .refl _⟩
  case round =>
    obtain ⟨j, m, hj, rfl, rfl, HM1, hw⟩ := hrel
    by_cases hlt : j < l.length
    · have hlt2 : j < (GParam.trs l).length := by rw [GParam.trs_len]; exact hlt
      have hge : (GParam.trs l)[j] = (l[j]).tr := by have h1 := GParam.trs_get hlt; rw [List.getElem?_eq_getElem hlt2] at h1; exact Option.some.inj h1
      have hcl := Tr.cntE_le hlt2
      have hmg := Tr.markE_get (GParam.trs l) k j hlt2
      have htk : Tr.cntE ((GParam.trs l).take (j + 1)) = Tr.cntE ((GParam.trs l).take j) + Tr.cntL (GParam.trs l)[j] := Tr.cntE_take _ j hlt2
      rw [hge] at hcl hmg htk
      have hm1 := HM1.out
      rw [← hm1] at hmg
      generalize l[j] = x at *
      obtain ⟨v0, ⟨v1_0, v1_1, v1_2⟩⟩ := x
      have htr : GParam.tr (.mk v0 (.mk v1_0 v1_1 v1_2)) = [.leaf (.string v0), .leaf (.int .i64 v1_0), .leaf (.string v1_1), .row 3 (GType.trs v1_2)] := by simp [GParam.tr, GType.tr]
      rw [htr] at hcl hmg htk
      have hcw : Tr.cntL [.leaf (.string v0), .leaf (.int .i64 v1_0), .leaf (.string v1_1), .row 3 (GType.trs v1_2)] = 1 + 1 + 1 + Tr.cntE (GType.trs v1_2) := by simp only [Tr.cntL, Tr.cnt] <;> omega
      obtain ⟨b, off, cs0, rfl, hb, hrep, hc⟩ := (HO.out.ext hw).at2 hmg
      obtain ⟨d0, d1, d2, d3, rfl⟩ := list4 hrep.length.symm
      obtain ⟨rfl, -⟩ := (hrep.1).leaf_eq
      obtain ⟨rfl, -⟩ := (hrep.2.1).leaf_eq
      obtain ⟨rfl, -⟩ := (hrep.2.2.1).leaf_eq
      have HR3 := Lib.hid (hrep.2.2.2.1)
      obtain ⟨sa3, sc3, hd3, -, -⟩ := HR3.out.shape
      rw [Tr.markE_length] at hd3
      subst hd3
      have hmb : m + (1 + 1 + 1 + Tr.cntE (GType.trs v1_2)) ≤ 1152921504606846976 := by rw [← hcw]; omega
      rw [hcw] at htk
      have HTK := Lib.hid htk
      have HC := Lib.hid hc
      have HB := Lib.hid hb
      have hki := hlt
      simp only [markLeaf, Tr.cnt] at *
      have hcell0 : wr.cell? ⟨b, off + j * 4, none⟩ = some _ := HC.out 0 _ rfl
      have hcell1 : wr.cell? ⟨b, off + j * 4 + 1, none⟩ = some _ := HC.out 1 _ rfl
      have hcell2 : wr.cell? ⟨b, off + j * 4 + 2, none⟩ = some _ := HC.out 2 _ rfl
      have hcell3 : wr.cell? ⟨b, off + j * 4 + 3, none⟩ = some _ := HC.out 3 _ rfl
      clear hrep hc hmg htk hge hcl hcw hm1 htr hb
      go_wp2_with fail
      have HX0 := Lib.hid (Ext.refl wr)
      refine wp_region_held_drew (S := Ext wr) (by kernel_rfl) ?_ (fun hHeld => ?_)
      · exact .drew (.refl _)
      refine wpAnyH_take (i := 0) rfl (by kernel_rfl) (by kernel_rfl) (by kernel_rfl) (fun _ _ _ h => h) (.inl ⟨rfl, fun _ _ => rfl⟩) (by assumption) ?_
      simp only [Act.put, List.getElem_toArray, List.getElem_cons_zero, List.setIfInBounds_toArray, List.set_cons_zero, List.set_cons_succ]
      refine wpAnyH_take (i := 1) rfl (by kernel_rfl) (by kernel_rfl) (by kernel_rfl) (fun _ _ _ h => h) (.inl ⟨rfl, fun _ _ => rfl⟩) (by assumption) ?_
      simp only [Act.put, List.getElem_toArray, List.getElem_cons_zero, List.getElem_cons_succ, List.setIfInBounds_toArray, List.set_cons_zero, List.set_cons_succ]
      refine wpAnyH_index (i := 2) rfl (by kernel_rfl) (by kernel_rfl) (by kernel_rfl) rfl 99 (.tmp 12) (.tmp 13) rfl (b) (off) (l.length) (cap) (j) (4) rfl rfl (hki) Tryz.underlying99 (by kernel_rfl) (by assumption) (fun _ _ _ _ h => h) ?_
      simp only [Act.put, List.getElem_toArray, List.getElem_cons_zero, List.getElem_cons_succ, List.setIfInBounds_toArray, List.set_cons_zero, List.set_cons_succ]
      refine wpAnyH_take (i := 3) rfl (by kernel_rfl) (by kernel_rfl) (by kernel_rfl) (fun _ _ _ h => h) (.inl ⟨rfl, fun _ _ => rfl⟩) (by assumption) ?_
      simp only [Act.put, List.getElem_toArray, List.getElem_cons_zero, List.getElem_cons_succ, List.setIfInBounds_toArray, List.set_cons_zero, List.set_cons_succ]
      refine wpAnyH_cell (i := 4) rfl (by kernel_rfl) (by kernel_rfl) (by kernel_rfl) rfl 9 (.tmp 15) rfl (b) (off + j * 4) rfl (.string (mtext m)) _ Tryz.underlying9 rfl (fun W hW => (hW.cell (p := ⟨b, off + j * 4, none⟩) (Nat.lt_of_lt_of_le HB.out (HX0.out).size)).trans hcell0) (by assumption) (fun _ _ _ _ h => h) ?_
      simp only [Act.put, List.getElem_toArray, List.getElem_cons_zero, List.getElem_cons_succ, List.setIfInBounds_toArray, List.set_cons_zero, List.set_cons_succ]
      refine wpAnyH_take (i := 5) rfl (by kernel_rfl) (by kernel_rfl) (by kernel_rfl) (fun _ _ _ h => h) (.inl ⟨rfl, fun _ _ => rfl⟩) (by assumption) ?_
      simp only [Act.put, List.getElem_toArray, List.getElem_cons_zero, List.getElem_cons_succ, List.setIfInBounds_toArray, List.set_cons_zero, List.set_cons_succ]
      refine wpAnyH_call (i := 6) (by kernel_rfl) rfl rfl (run_call_func rfl rfl #[.int .i64 _] (by simp only [List.map_toArray, List.map_cons, List.map_nil, Act.eval]; rfl) Tryz.func94 (by kernel_rfl) (by kernel_rfl) _) (markText_any _ m _ (by omega) (by omega)) ?_; rintro e wh1 ⟨rfl, hv1⟩
      have hs1 := Ext.trans hHeld hv1
      refine ⟨_, rfl, hs1, ?_⟩
      simp only [Act.put, List.getElem_toArray, List.getElem_cons_zero, List.getElem_cons_succ, List.setIfInBounds_toArray, List.set_cons_zero, List.set_cons_succ]
      refine wpAnyH_take (i := 7) rfl (by kernel_rfl) (by kernel_rfl) (by kernel_rfl) (fun _ _ _ h => h) (.inl ⟨rfl, fun _ _ => rfl⟩) (by assumption) ?_
      simp only [Act.put, List.getElem_toArray, List.getElem_cons_zero, List.getElem_cons_succ, List.setIfInBounds_toArray, List.set_cons_zero, List.set_cons_succ]
      refine wpAnyH_done (by kernel_rfl) ?_ _
      clear hHeld
      have HX1 := Lib.hid (Ext.trans HX0.out hs1)
      replace hcell1 := (hs1.cell (p := ⟨b, off + j * 4 + 1, none⟩) (Nat.lt_of_lt_of_le HB.out HX0.out.size)).trans hcell1
      replace hcell2 := (hs1.cell (p := ⟨b, off + j * 4 + 2, none⟩) (Nat.lt_of_lt_of_le HB.out HX0.out.size)).trans hcell2
      replace hcell3 := (hs1.cell (p := ⟨b, off + j * 4 + 3, none⟩) (Nat.lt_of_lt_of_le HB.out HX0.out.size)).trans hcell3
      clear hs1 hv1
      simp only [beq_self_eq_true, Bool.not_true]
      go_wp2_with fail
      refine wp_region_held_drew (S := Ext wh1) (by kernel_rfl) ?_ (fun hHeld => ?_)
      · exact .drew (.refl _)
      refine wpAnyH_take (i := 0) rfl (by kernel_rfl) (by kernel_rfl) (by kernel_rfl) (fun _ _ _ h => h) (.inl ⟨rfl, fun _ _ => rfl⟩) (by assumption) ?_
      simp only [Act.put, List.getElem_toArray, List.getElem_cons_zero, List.setIfInBounds_toArray, List.set_cons_zero, List.set_cons_succ]
      refine wpAnyH_take (i := 1) rfl (by kernel_rfl) (by kernel_rfl) (by kernel_rfl) (fun _ _ _ h => h) (.inl ⟨rfl, fun _ _ => rfl⟩) (by assumption) ?_
      simp only [Act.put, List.getElem_toArray, List.getElem_cons_zero, List.getElem_cons_succ, List.setIfInBounds_toArray, List.set_cons_zero, List.set_cons_succ]
      refine wpAnyH_index (i := 2) rfl (by kernel_rfl) (by kernel_rfl) (by kernel_rfl) rfl 99 (.tmp 32) (.tmp 33) rfl (b) (off) (l.length) (cap) (j) (4) rfl rfl (hki) Tryz.underlying99 (by kernel_rfl) (by assumption) (fun _ _ _ _ h => h) ?_
      simp only [Act.put, List.getElem_toArray, List.getElem_cons_zero, List.getElem_cons_succ, List.setIfInBounds_toArray, List.set_cons_zero, List.set_cons_succ]
      refine wpAnyH_take (i := 3) rfl (by kernel_rfl) (by kernel_rfl) (by kernel_rfl) (fun _ _ _ h => h) (.inl ⟨rfl, fun _ _ => rfl⟩) (by assumption) ?_
      simp only [Act.put, List.getElem_toArray, List.getElem_cons_zero, List.getElem_cons_succ, List.setIfInBounds_toArray, List.set_cons_zero, List.set_cons_succ]
      refine wpAnyH_take (i := 4) rfl (by kernel_rfl) (by kernel_rfl) (by kernel_rfl) (fun _ _ _ h => h) (.inl ⟨rfl, fun _ _ => rfl⟩) (by assumption) ?_
      simp only [Act.put, List.getElem_toArray, List.getElem_cons_zero, List.getElem_cons_succ, List.setIfInBounds_toArray, List.set_cons_zero, List.set_cons_succ]
      refine wpAnyH_cell (i := 5) rfl (by kernel_rfl) (by kernel_rfl) (by kernel_rfl) rfl 9 (.tmp 36) rfl (b) (off + j * 4 + 2) rfl (.string (mtext ((m + 1) + 1))) _ Tryz.underlying9 rfl (fun W hW => (hW.cell (p := ⟨b, off + j * 4 + 2, none⟩) (Nat.lt_of_lt_of_le HB.out (HX1.out).size)).trans hcell2) (by assumption) (fun _ _ _ _ h => h) ?_
      simp only [Act.put, List.getElem_toArray, List.getElem_cons_zero, List.getElem_cons_succ, List.setIfInBounds_toArray, List.set_cons_zero, List.set_cons_succ]
      refine wpAnyH_take (i := 6) rfl (by kernel_rfl) (by kernel_rfl) (by kernel_rfl) (fun _ _ _ h => h) (.inl ⟨rfl, fun _ _ => rfl⟩) (by assumption) ?_
      simp only [Act.put, List.getElem_toArray, List.getElem_cons_zero, List.getElem_cons_succ, List.setIfInBounds_toArray, List.set_cons_zero, List.set_cons_succ]
      refine wpAnyH_call (i := 7) (by kernel_rfl) rfl rfl (run_call_func rfl rfl #[.int .i64 _] (by simp only [List.map_toArray, List.map_cons, List.map_nil, Act.eval]; rfl) Tryz.func94 (by kernel_rfl) (by kernel_rfl) _) (markText_any _ ((m + 1) + 1) _ (by omega) (by omega)) ?_; rintro e wh2 ⟨rfl, hv2⟩
      have hs1 := Ext.trans hHeld hv2
      refine ⟨_, rfl, hs1, ?_⟩
      simp only [Act.put, List.getElem_toArray, List.getElem_cons_zero, List.getElem_cons_succ, List.setIfInBounds_toArray, List.set_cons_zero, List.set_cons_succ]
      refine wpAnyH_take (i := 8) rfl (by kernel_rfl) (by kernel_rfl) (by kernel_rfl) (fun _ _ _ h => h) (.inl ⟨rfl, fun _ _ => rfl⟩) (by assumption) ?_
      simp only [Act.put, List.getElem_toArray, List.getElem_cons_zero, List.getElem_cons_succ, List.setIfInBounds_toArray, List.set_cons_zero, List.set_cons_succ]
      refine wpAnyH_done (by kernel_rfl) ?_ _
      clear hHeld
      have HX2 := Lib.hid (Ext.trans HX1.out hs1)
      replace hcell3 := (hs1.cell (p := ⟨b, off + j * 4 + 3, none⟩) (Nat.lt_of_lt_of_le HB.out HX1.out.size)).trans hcell3
      clear hs1 hv2
      simp only [beq_self_eq_true, Bool.not_true]
      go_wp2_with fail
      refine ((heldTypeS_all v1_2) _ _ (((m + 1) + 1) + 1) _ (by omega) (HR3.out.ext HX2.out) (by omega)).mono ?_; rintro e wh3 ⟨rfl, hv3⟩
      have HX3 := Lib.hid (Ext.trans HX2.out hv3)
      clear hv3
      have hng : ¬ ((((((m + 1) + 1) + 1) + Tr.cntE (GType.trs v1_2)) : Nat) : Int) < 0 := by omega
      go_wp2_with fail
      go_roundw
      case rel => exact ⟨j + 1, ((((m + 1) + 1) + 1) + Tr.cntE (GType.trs v1_2)), by omega, by go_num, by first | rfl | go_num, by have h1 := HTK.out; have h2 := HM1.out; show _ = _; omega, hw.trans HX3.out⟩
      case measure => simp [intOf]; omega
    · have hkl : j = (GParam.trs l).length := by rw [GParam.trs_len]; omega
      go_wp2_with fail
      go_ret
      have hm1 := HM1.out
      rw [hkl, List.take_length] at hm1
      subst hm1
      exact ⟨rfl, hw⟩
theorem heldParamS_all (l : List GParam) : HeldSC 134 4 (GParam.trs l) := heldParamS_of l

end Go.Proofs.YtnakkelglbcecaaGreat

namespace Go.Proofs.YtnakkelglbcecaaGreat
open Go.RowKit Go.Proofs

set_option maxRecDepth 100000 in
set_option maxHeartbeats 2000000 in
theorem markExpr_all (x : GExpr) : MarkC 132 x.tr := by
  obtain ⟨v0, v1, v2, v3, ⟨v4_0, v4_1, v4_2⟩, v5, v6⟩ := x
  have HM4 : Hid (MarkC 48 [.leaf (.int .i64 v4_0), .leaf (.string v4_1), .row 3 (GType.trs v4_2)]) := by have h1 := markType_all (.mk v4_0 v4_1 v4_2); rw [show GType.tr (.mk v4_0 v4_1 v4_2) = [.leaf (.int .i64 v4_0), .leaf (.string v4_1), .row 3 (GType.trs v4_2)] from by simp [GType.tr]] at h1; exact h1
  have htr : GExpr.tr (.mk v0 v1 v2 v3 (.mk v4_0 v4_1 v4_2) v5 v6) = [.leaf (.int .i64 v0), .leaf (.string v1), .leaf (.string v2), .leaf (.int .i64 v3), .leaf (.int .i64 v4_0), .leaf (.string v4_1), .row 3 (GType.trs v4_2), .row 9 (GExpr.trs v5), .row 11 (GArm.trs v6)] := by simp [GExpr.tr, GType.tr]
  rw [htr]
  clear htr
  intro cs kz k S w hz ho hS hbd
  subst hz
  simp only [Tr.topN, Tr.topL, Nat.add_zero] at *
  have hr := ho.rep
  obtain ⟨d0, d1, d2, d3, d4, d5, d6, d7, d8, rfl⟩ := list9 hr.length.symm
  have HR0 := Lib.hid (hr.1)
  obtain ⟨rfl, -⟩ := HR0.out.leaf_eq
  have HR1 := Lib.hid (hr.2.1)
  obtain ⟨rfl, -⟩ := HR1.out.leaf_eq
  have HR2 := Lib.hid (hr.2.2.1)
  obtain ⟨rfl, -⟩ := HR2.out.leaf_eq
  have HR3 := Lib.hid (hr.2.2.2.1)
  obtain ⟨rfl, -⟩ := HR3.out.leaf_eq
  have HR4 := Lib.hid (hr.2.2.2.2.1)
  obtain ⟨rfl, -⟩ := HR4.out.leaf_eq
  have HR5 := Lib.hid (hr.2.2.2.2.2.1)
  obtain ⟨rfl, -⟩ := HR5.out.leaf_eq
  have HR6 := Lib.hid (hr.2.2.2.2.2.2.1)
  obtain ⟨sa6, sc6, hd6, -, -⟩ := HR6.out.shape
  rw [GType.trs_len] at hd6
  subst hd6
  have HR7 := Lib.hid (hr.2.2.2.2.2.2.2.1)
  obtain ⟨sa7, sc7, hd7, -, -⟩ := HR7.out.shape
  rw [GExpr.trs_len] at hd7
  subst hd7
  have HR8 := Lib.hid (hr.2.2.2.2.2.2.2.2.1)
  obtain ⟨sa8, sc8, hd8, -, -⟩ := HR8.out.shape
  rw [GArm.trs_len] at hd8
  subst hd8
  have HO0 := Lib.hid (ho.ext (.alloc (.refl w) (.cells #[.int .i64 v0, .string v1, .string v2, .int .i64 v3, .int .i64 v4_0, .string v4_1, .slice sa6 (v4_2).length sc6, .slice sa7 (v5).length sc7, .slice sa8 (v6).length sc8] 103)))
  have HSS := Lib.hid hS
  clear ho hS hr
  go_enter Tryz.func132, Tryz.ntmps132
  go_wp2_with (refine wpList_load_rep rfl 47 _ rfl w.heap.size 4 rfl [_, _, .slice sa6 _ sc6] _ Tryz.underlying47 isz47 (fun j v hv => by rw [(OB.new w 103 #[.int .i64 v0, .string v1, .string v2, .int .i64 v3, .int .i64 v4_0, .string v4_1, .slice sa6 (v4_2).length sc6, .slice sa7 (v5).length sc7, .slice sa8 (v6).length sc8]).cell]; rcases j with _ | _ | _ | j <;> first | (simp at hv; done) | simpa using hv) ?_)
  obtain ⟨U1, hu1, hu2, hu3⟩ := OwnL.focus (a := [.leaf (.int .i64 v0), .leaf (.string v1), .leaf (.string v2), .leaf (.int .i64 v3)]) (b := [.leaf (.int .i64 v4_0), .leaf (.string v4_1), .row 3 (GType.trs v4_2)]) (c := [.row 9 (GExpr.trs v5), .row 11 (GArm.trs v6)]) (x := [_, _, _, _]) (y := [_, _, _]) (z := [_, _]) HO0.out rfl rfl
  have HU1_1 := Lib.hid hu1
  have HU2_1 := Lib.hid hu2
  have HU3_1 := Lib.hid hu3
  clear hu1 hu2 hu3
  refine (HM4.out _ _ (k) U1 _ (by rfl) HU1_1.out (fun x hx => by have h1 := HSS.out x (HU2_1.out x hx); simp only [World.size_alloc]; omega) (by simp only [Tr.topN]; omega)).mono ?_; rintro e w1 ⟨rfl, how, hch⟩
  have HO1 := Lib.hid (HU3_1.out w1 [.leaf (.int .i64 v4_0), .leaf (.string v4_1), .row 3 (Tr.markE (GType.trs v4_2) (k))] how rfl (fun x hx _ hn => hch.block x hx hn))
  have HC1 := Lib.hid (Chg.trans (Chg.of_ext (.alloc (.refl w) (.cells #[.int .i64 v0, .string v1, .string v2, .int .i64 v3, .int .i64 v4_0, .string v4_1, .slice sa6 (v4_2).length sc6, .slice sa7 (v5).length sc7, .slice sa8 (v6).length sc8] 103))) (hch.mono HU2_1.out))
  have HOB1 := Lib.hid (OB.chg (OB.new w 103 #[.int .i64 v0, .string v1, .string v2, .int .i64 v3, .int .i64 v4_0, .string v4_1, .slice sa6 (v4_2).length sc6, .slice sa7 (v5).length sc7, .slice sa8 (v6).length sc8]) hch (fun h => by have h1 := HSS.out _ (HU2_1.out _ h); omega))
  clear how hch
  try simp only [Tr.topN, Nat.add_zero]
  try simp only [← Nat.add_assoc]
  have hcell7 : w1.cell? ⟨w.heap.size, 7, none⟩ = some (.slice sa7 (v5).length sc7) := by rw [HOB1.out.cell]; rfl
  go_wp2_with fail
  obtain ⟨U2, hu1, hu2, hu3⟩ := OwnL.focus (a := [.leaf (.int .i64 v0), .leaf (.string v1), .leaf (.string v2), .leaf (.int .i64 v3), .leaf (.int .i64 v4_0), .leaf (.string v4_1), .row 3 (Tr.markE (GType.trs v4_2) (k))]) (b := [.row 9 (GExpr.trs v5)]) (c := [.row 11 (GArm.trs v6)]) (x := [_, _, _, _, _, _, _]) (y := [_]) (z := [_]) HO1.out rfl rfl
  have HU1_2 := Lib.hid hu1
  have HU2_2 := Lib.hid hu2
  have HU3_2 := Lib.hid hu3
  clear hu1 hu2 hu3
  refine (markExprS_all v5 _ _ (k + Tr.cntE (GType.trs v4_2)) U2 _ (by rfl) HU1_2.out.oneInv (fun x hx => by have h1 := HSS.out x (HU2_2.out x hx); have h2 := HC1.out.size; omega) (by omega)).mono ?_; rintro e w2 ⟨rfl, how, hch⟩
  have HO2 := Lib.hid (HU3_2.out w2 [.row 9 (Tr.markE (GExpr.trs v5) (k + Tr.cntE (GType.trs v4_2)))] (OwnL.one how) rfl (fun x hx _ hn => hch.block x hx hn))
  have HC2 := Lib.hid (HC1.out.trans (hch.mono HU2_2.out))
  have HOB2 := Lib.hid (OB.chg HOB1.out hch (fun h => by have h1 := HSS.out _ (HU2_2.out _ h); omega))
  clear how hch
  try simp only [Tr.topN, Nat.add_zero]
  try simp only [← Nat.add_assoc]
  have hcell8 : w2.cell? ⟨w.heap.size, 8, none⟩ = some (.slice sa8 (v6).length sc8) := by rw [HOB2.out.cell]; rfl
  go_wp2_with fail
  obtain ⟨U3, hu1, hu2, hu3⟩ := OwnL.focus (a := [.leaf (.int .i64 v0), .leaf (.string v1), .leaf (.string v2), .leaf (.int .i64 v3), .leaf (.int .i64 v4_0), .leaf (.string v4_1), .row 3 (Tr.markE (GType.trs v4_2) (k)), .row 9 (Tr.markE (GExpr.trs v5) (k + Tr.cntE (GType.trs v4_2)))]) (b := [.row 11 (GArm.trs v6)]) (c := []) (x := [_, _, _, _, _, _, _, _]) (y := [_]) (z := []) HO2.out rfl rfl
  have HU1_3 := Lib.hid hu1
  have HU2_3 := Lib.hid hu2
  have HU3_3 := Lib.hid hu3
  clear hu1 hu2 hu3
  refine (markArmS_all v6 _ _ (k + Tr.cntE (GType.trs v4_2) + Tr.cntE (GExpr.trs v5)) U3 _ (by rfl) HU1_3.out.oneInv (fun x hx => by have h1 := HSS.out x (HU2_3.out x hx); have h2 := HC2.out.size; omega) (by omega)).mono ?_; rintro e w3 ⟨rfl, how, hch⟩
  have HO3 := Lib.hid (HU3_3.out w3 [.row 11 (Tr.markE (GArm.trs v6) (k + Tr.cntE (GType.trs v4_2) + Tr.cntE (GExpr.trs v5)))] (OwnL.one how) rfl (fun x hx _ hn => hch.block x hx hn))
  have HC3 := Lib.hid (HC2.out.trans (hch.mono HU2_3.out))
  have HOB3 := Lib.hid (OB.chg HOB2.out hch (fun h => by have h1 := HSS.out _ (HU2_3.out _ h); omega))
  clear how hch
  try simp only [Tr.topN, Nat.add_zero]
  try simp only [← Nat.add_assoc]
  go_wp2_with fail
  go_ret
  exact ⟨by first | rfl | (show Ending.returned (Value.int .i64 _) = _; congr 2; omega), HO3.out, HC3.out⟩

set_option maxRecDepth 100000 in
set_option maxHeartbeats 2000000 in
theorem heldExpr_all (x : GExpr) : HeldC 135 x.tr := by
  obtain ⟨v0, v1, v2, v3, ⟨v4_0, v4_1, v4_2⟩, v5, v6⟩ := x
  have HM4 : Hid (HeldC 49 [.leaf (.int .i64 v4_0), .leaf (.string v4_1), .row 3 (GType.trs v4_2)]) := by have h1 := heldType_all (.mk v4_0 v4_1 v4_2); rw [show GType.tr (.mk v4_0 v4_1 v4_2) = [.leaf (.int .i64 v4_0), .leaf (.string v4_1), .row 3 (GType.trs v4_2)] from by simp [GType.tr]] at h1; exact h1
  have htr : GExpr.tr (.mk v0 v1 v2 v3 (.mk v4_0 v4_1 v4_2) v5 v6) = [.leaf (.int .i64 v0), .leaf (.string v1), .leaf (.string v2), .leaf (.int .i64 v3), .leaf (.int .i64 v4_0), .leaf (.string v4_1), .row 3 (GType.trs v4_2), .row 9 (GExpr.trs v5), .row 11 (GArm.trs v6)] := by simp [GExpr.tr, GType.tr]
  rw [htr]
  clear htr
  intro cs kz k w hz hr hbd
  subst hz
  simp only [Tr.topN, Tr.topL, Nat.add_zero] at *
  obtain ⟨d0, d1, d2, d3, d4, d5, d6, d7, d8, rfl⟩ := list9 hr.length.symm
  have HR0 := Lib.hid (hr.1)
  obtain ⟨rfl, -⟩ := HR0.out.leaf_eq
  have HR1 := Lib.hid (hr.2.1)
  obtain ⟨rfl, -⟩ := HR1.out.leaf_eq
  have HR2 := Lib.hid (hr.2.2.1)
  obtain ⟨rfl, -⟩ := HR2.out.leaf_eq
  have HR3 := Lib.hid (hr.2.2.2.1)
  obtain ⟨rfl, -⟩ := HR3.out.leaf_eq
  have HR4 := Lib.hid (hr.2.2.2.2.1)
  obtain ⟨rfl, -⟩ := HR4.out.leaf_eq
  have HR5 := Lib.hid (hr.2.2.2.2.2.1)
  obtain ⟨rfl, -⟩ := HR5.out.leaf_eq
  have HR6 := Lib.hid (hr.2.2.2.2.2.2.1)
  obtain ⟨sa6, sc6, hd6, -, -⟩ := HR6.out.shape
  rw [Tr.markE_length] at hd6
  rw [GType.trs_len] at hd6
  subst hd6
  have HR7 := Lib.hid (hr.2.2.2.2.2.2.2.1)
  obtain ⟨sa7, sc7, hd7, -, -⟩ := HR7.out.shape
  rw [Tr.markE_length] at hd7
  rw [GExpr.trs_len] at hd7
  subst hd7
  have HR8 := Lib.hid (hr.2.2.2.2.2.2.2.2.1)
  obtain ⟨sa8, sc8, hd8, -, -⟩ := HR8.out.shape
  rw [Tr.markE_length] at hd8
  rw [GArm.trs_len] at hd8
  subst hd8
  clear hr
  go_enter Tryz.func135, Tryz.ntmps135
  go_wp2_with (refine wpList_load_rep rfl 47 _ rfl w.heap.size 4 rfl [_, _, .slice sa6 _ sc6] _ Tryz.underlying47 isz47 (fun j v hv => by rw [(OB.new w 103 #[.int .i64 v0, .string v1, .string v2, .int .i64 v3, .int .i64 v4_0, .string v4_1, .slice sa6 (v4_2).length sc6, .slice sa7 (v5).length sc7, .slice sa8 (v6).length sc8]).cell]; rcases j with _ | _ | _ | j <;> first | (simp at hv; done) | simpa using hv) ?_)
  refine (HM4.out _ _ (k) _ (by rfl) (RepL.ext (show RepL w [.leaf (.int .i64 v4_0), .leaf (.string v4_1), .row 3 (Tr.markE (GType.trs v4_2) (k))] [.int .i64 v4_0, .string v4_1, .slice sa6 (v4_2).length sc6] from ⟨HR4.out, HR5.out, HR6.out, trivial⟩) (.alloc (.refl _) _)) (by simp only [Tr.topN]; omega)).mono ?_; rintro e w1 ⟨rfl, hw1⟩
  have HW1 := Lib.hid (Ext.trans (.alloc (.refl w) (.cells #[.int .i64 v0, .string v1, .string v2, .int .i64 v3, .int .i64 v4_0, .string v4_1, .slice sa6 (v4_2).length sc6, .slice sa7 (v5).length sc7, .slice sa8 (v6).length sc8] 103)) hw1)
  have HOB1 := Lib.hid (OB.ext (OB.new w 103 #[.int .i64 v0, .string v1, .string v2, .int .i64 v3, .int .i64 v4_0, .string v4_1, .slice sa6 (v4_2).length sc6, .slice sa7 (v5).length sc7, .slice sa8 (v6).length sc8]) hw1)
  clear hw1
  try simp only [Tr.topN, Nat.add_zero]
  try simp only [← Nat.add_assoc]
  have hng1 : ¬ ((k + Tr.cntE (GType.trs v4_2) : Nat) : Int) < 0 := by omega
  have hcell7 : w1.cell? ⟨w.heap.size, 7, none⟩ = some (.slice sa7 (v5).length sc7) := by rw [HOB1.out.cell]; rfl
  go_wp2_with fail
  refine (heldExprS_all v5 _ _ (k + Tr.cntE (GType.trs v4_2)) _ (by rfl) (HR7.out.ext HW1.out) (by omega)).mono ?_; rintro e w2 ⟨rfl, hw2⟩
  have HW2 := Lib.hid (Ext.trans HW1.out hw2)
  have HOB2 := Lib.hid (OB.ext HOB1.out hw2)
  clear hw2
  try simp only [Tr.topN, Nat.add_zero]
  try simp only [← Nat.add_assoc]
  have hng2 : ¬ ((k + Tr.cntE (GType.trs v4_2) + Tr.cntE (GExpr.trs v5) : Nat) : Int) < 0 := by omega
  have hcell8 : w2.cell? ⟨w.heap.size, 8, none⟩ = some (.slice sa8 (v6).length sc8) := by rw [HOB2.out.cell]; rfl
  go_wp2_with fail
  refine (heldArmS_all v6 _ _ (k + Tr.cntE (GType.trs v4_2) + Tr.cntE (GExpr.trs v5)) _ (by rfl) (HR8.out.ext HW2.out) (by omega)).mono ?_; rintro e w3 ⟨rfl, hw3⟩
  have HW3 := Lib.hid (Ext.trans HW2.out hw3)
  have HOB3 := Lib.hid (OB.ext HOB2.out hw3)
  clear hw3
  try simp only [Tr.topN, Nat.add_zero]
  try simp only [← Nat.add_assoc]
  have hng3 : ¬ ((k + Tr.cntE (GType.trs v4_2) + Tr.cntE (GExpr.trs v5) + Tr.cntE (GArm.trs v6) : Nat) : Int) < 0 := by omega
  go_wp2_with fail
  go_ret
  exact ⟨by show Ending.returned (Value.int .i64 _) = _; congr 2; omega, HW3.out⟩

set_option maxRecDepth 100000 in
set_option maxHeartbeats 2000000 in
theorem markFunction_all (x : GFunction) : MarkC 74 x.tr := by
  obtain ⟨v0, v1, v2, v3, ⟨v4_0, v4_1, v4_2⟩, ⟨v5_0, v5_1, v5_2, v5_3, ⟨v5_4_0, v5_4_1, v5_4_2⟩, v5_5, v5_6⟩⟩ := x
  have HM4 : Hid (MarkC 48 [.leaf (.int .i64 v4_0), .leaf (.string v4_1), .row 3 (GType.trs v4_2)]) := by have h1 := markType_all (.mk v4_0 v4_1 v4_2); rw [show GType.tr (.mk v4_0 v4_1 v4_2) = [.leaf (.int .i64 v4_0), .leaf (.string v4_1), .row 3 (GType.trs v4_2)] from by simp [GType.tr]] at h1; exact h1
  have HM5 : Hid (MarkC 132 [.leaf (.int .i64 v5_0), .leaf (.string v5_1), .leaf (.string v5_2), .leaf (.int .i64 v5_3), .leaf (.int .i64 v5_4_0), .leaf (.string v5_4_1), .row 3 (GType.trs v5_4_2), .row 9 (GExpr.trs v5_5), .row 11 (GArm.trs v5_6)]) := by have h1 := markExpr_all (.mk v5_0 v5_1 v5_2 v5_3 (.mk v5_4_0 v5_4_1 v5_4_2) v5_5 v5_6); rw [show GExpr.tr (.mk v5_0 v5_1 v5_2 v5_3 (.mk v5_4_0 v5_4_1 v5_4_2) v5_5 v5_6) = [.leaf (.int .i64 v5_0), .leaf (.string v5_1), .leaf (.string v5_2), .leaf (.int .i64 v5_3), .leaf (.int .i64 v5_4_0), .leaf (.string v5_4_1), .row 3 (GType.trs v5_4_2), .row 9 (GExpr.trs v5_5), .row 11 (GArm.trs v5_6)] from by simp [GExpr.tr, GType.tr]] at h1; exact h1
  have htr : GFunction.tr (.mk v0 v1 v2 v3 (.mk v4_0 v4_1 v4_2) (.mk v5_0 v5_1 v5_2 v5_3 (.mk v5_4_0 v5_4_1 v5_4_2) v5_5 v5_6)) = [.leaf (.string v0), .row 1 (strTrs v1), .row 4 (GBound.trs v2), .row 4 (GParam.trs v3), .leaf (.int .i64 v4_0), .leaf (.string v4_1), .row 3 (GType.trs v4_2), .leaf (.int .i64 v5_0), .leaf (.string v5_1), .leaf (.string v5_2), .leaf (.int .i64 v5_3), .leaf (.int .i64 v5_4_0), .leaf (.string v5_4_1), .row 3 (GType.trs v5_4_2), .row 9 (GExpr.trs v5_5), .row 11 (GArm.trs v5_6)] := by simp [GFunction.tr, GType.tr, GExpr.tr, GType.tr]
  rw [htr]
  clear htr
  intro cs kz k S w hz ho hS hbd
  subst hz
  simp only [Tr.topN, Tr.topL, Nat.add_zero] at *
  have hr := ho.rep
  obtain ⟨d0, d1, d2, d3, d4, d5, d6, d7, d8, d9, d10, d11, d12, d13, d14, d15, rfl⟩ := list16 hr.length.symm
  have HR0 := Lib.hid (hr.1)
  obtain ⟨rfl, -⟩ := HR0.out.leaf_eq
  have HR1 := Lib.hid (hr.2.1)
  obtain ⟨sa1, sc1, hd1, -, -⟩ := HR1.out.shape
  rw [strTrs_len] at hd1
  subst hd1
  have HR2 := Lib.hid (hr.2.2.1)
  obtain ⟨sa2, sc2, hd2, -, -⟩ := HR2.out.shape
  rw [GBound.trs_len] at hd2
  subst hd2
  have HR3 := Lib.hid (hr.2.2.2.1)
  obtain ⟨sa3, sc3, hd3, -, -⟩ := HR3.out.shape
  rw [GParam.trs_len] at hd3
  subst hd3
  have HR4 := Lib.hid (hr.2.2.2.2.1)
  obtain ⟨rfl, -⟩ := HR4.out.leaf_eq
  have HR5 := Lib.hid (hr.2.2.2.2.2.1)
  obtain ⟨rfl, -⟩ := HR5.out.leaf_eq
  have HR6 := Lib.hid (hr.2.2.2.2.2.2.1)
  obtain ⟨sa6, sc6, hd6, -, -⟩ := HR6.out.shape
  rw [GType.trs_len] at hd6
  subst hd6
  have HR7 := Lib.hid (hr.2.2.2.2.2.2.2.1)
  obtain ⟨rfl, -⟩ := HR7.out.leaf_eq
  have HR8 := Lib.hid (hr.2.2.2.2.2.2.2.2.1)
  obtain ⟨rfl, -⟩ := HR8.out.leaf_eq
  have HR9 := Lib.hid (hr.2.2.2.2.2.2.2.2.2.1)
  obtain ⟨rfl, -⟩ := HR9.out.leaf_eq
  have HR10 := Lib.hid (hr.2.2.2.2.2.2.2.2.2.2.1)
  obtain ⟨rfl, -⟩ := HR10.out.leaf_eq
  have HR11 := Lib.hid (hr.2.2.2.2.2.2.2.2.2.2.2.1)
  obtain ⟨rfl, -⟩ := HR11.out.leaf_eq
  have HR12 := Lib.hid (hr.2.2.2.2.2.2.2.2.2.2.2.2.1)
  obtain ⟨rfl, -⟩ := HR12.out.leaf_eq
  have HR13 := Lib.hid (hr.2.2.2.2.2.2.2.2.2.2.2.2.2.1)
  obtain ⟨sa13, sc13, hd13, -, -⟩ := HR13.out.shape
  rw [GType.trs_len] at hd13
  subst hd13
  have HR14 := Lib.hid (hr.2.2.2.2.2.2.2.2.2.2.2.2.2.2.1)
  obtain ⟨sa14, sc14, hd14, -, -⟩ := HR14.out.shape
  rw [GExpr.trs_len] at hd14
  subst hd14
  have HR15 := Lib.hid (hr.2.2.2.2.2.2.2.2.2.2.2.2.2.2.2.1)
  obtain ⟨sa15, sc15, hd15, -, -⟩ := HR15.out.shape
  rw [GArm.trs_len] at hd15
  subst hd15
  have HO0 := Lib.hid (ho.ext (.alloc (.refl w) (.cells #[.string v0, .slice sa1 (v1).length sc1, .slice sa2 (v2).length sc2, .slice sa3 (v3).length sc3, .int .i64 v4_0, .string v4_1, .slice sa6 (v4_2).length sc6, .int .i64 v5_0, .string v5_1, .string v5_2, .int .i64 v5_3, .int .i64 v5_4_0, .string v5_4_1, .slice sa13 (v5_4_2).length sc13, .slice sa14 (v5_5).length sc14, .slice sa15 (v5_6).length sc15] 105)))
  have HSS := Lib.hid hS
  clear ho hS hr
  go_enter Tryz.func74, Tryz.ntmps74
  go_wp2_with fail
  obtain ⟨U1, hu1, hu2, hu3⟩ := OwnL.focus (a := [.leaf (.string v0)]) (b := [.row 1 (strTrs v1)]) (c := [.row 4 (GBound.trs v2), .row 4 (GParam.trs v3), .leaf (.int .i64 v4_0), .leaf (.string v4_1), .row 3 (GType.trs v4_2), .leaf (.int .i64 v5_0), .leaf (.string v5_1), .leaf (.string v5_2), .leaf (.int .i64 v5_3), .leaf (.int .i64 v5_4_0), .leaf (.string v5_4_1), .row 3 (GType.trs v5_4_2), .row 9 (GExpr.trs v5_5), .row 11 (GArm.trs v5_6)]) (x := [_]) (y := [_]) (z := [_, _, _, _, _, _, _, _, _, _, _, _, _, _]) HO0.out rfl rfl
  have HU1_1 := Lib.hid hu1
  have HU2_1 := Lib.hid hu2
  have HU3_1 := Lib.hid hu3
  clear hu1 hu2 hu3
  refine (markStringS_all v1 _ _ (k) U1 _ (by rfl) HU1_1.out.oneInv (fun x hx => by have h1 := HSS.out x (HU2_1.out x hx); simp only [World.size_alloc]; omega) (by omega)).mono ?_; rintro e w1 ⟨rfl, how, hch⟩
  have HO1 := Lib.hid (HU3_1.out w1 [.row 1 (Tr.markE (strTrs v1) (k))] (OwnL.one how) rfl (fun x hx _ hn => hch.block x hx hn))
  have HC1 := Lib.hid (Chg.trans (Chg.of_ext (.alloc (.refl w) (.cells #[.string v0, .slice sa1 (v1).length sc1, .slice sa2 (v2).length sc2, .slice sa3 (v3).length sc3, .int .i64 v4_0, .string v4_1, .slice sa6 (v4_2).length sc6, .int .i64 v5_0, .string v5_1, .string v5_2, .int .i64 v5_3, .int .i64 v5_4_0, .string v5_4_1, .slice sa13 (v5_4_2).length sc13, .slice sa14 (v5_5).length sc14, .slice sa15 (v5_6).length sc15] 105))) (hch.mono HU2_1.out))
  have HOB1 := Lib.hid (OB.chg (OB.new w 105 #[.string v0, .slice sa1 (v1).length sc1, .slice sa2 (v2).length sc2, .slice sa3 (v3).length sc3, .int .i64 v4_0, .string v4_1, .slice sa6 (v4_2).length sc6, .int .i64 v5_0, .string v5_1, .string v5_2, .int .i64 v5_3, .int .i64 v5_4_0, .string v5_4_1, .slice sa13 (v5_4_2).length sc13, .slice sa14 (v5_5).length sc14, .slice sa15 (v5_6).length sc15]) hch (fun h => by have h1 := HSS.out _ (HU2_1.out _ h); omega))
  clear how hch
  try simp only [Tr.topN, Nat.add_zero]
  try simp only [← Nat.add_assoc]
  have hcell2 : w1.cell? ⟨w.heap.size, 2, none⟩ = some (.slice sa2 (v2).length sc2) := by rw [HOB1.out.cell]; rfl
  go_wp2_with fail
  obtain ⟨U2, hu1, hu2, hu3⟩ := OwnL.focus (a := [.leaf (.string v0), .row 1 (Tr.markE (strTrs v1) (k))]) (b := [.row 4 (GBound.trs v2)]) (c := [.row 4 (GParam.trs v3), .leaf (.int .i64 v4_0), .leaf (.string v4_1), .row 3 (GType.trs v4_2), .leaf (.int .i64 v5_0), .leaf (.string v5_1), .leaf (.string v5_2), .leaf (.int .i64 v5_3), .leaf (.int .i64 v5_4_0), .leaf (.string v5_4_1), .row 3 (GType.trs v5_4_2), .row 9 (GExpr.trs v5_5), .row 11 (GArm.trs v5_6)]) (x := [_, _]) (y := [_]) (z := [_, _, _, _, _, _, _, _, _, _, _, _, _]) HO1.out rfl rfl
  have HU1_2 := Lib.hid hu1
  have HU2_2 := Lib.hid hu2
  have HU3_2 := Lib.hid hu3
  clear hu1 hu2 hu3
  refine (markBoundS_all v2 _ _ (k + Tr.cntE (strTrs v1)) U2 _ (by rfl) HU1_2.out.oneInv (fun x hx => by have h1 := HSS.out x (HU2_2.out x hx); have h2 := HC1.out.size; omega) (by omega)).mono ?_; rintro e w2 ⟨rfl, how, hch⟩
  have HO2 := Lib.hid (HU3_2.out w2 [.row 4 (Tr.markE (GBound.trs v2) (k + Tr.cntE (strTrs v1)))] (OwnL.one how) rfl (fun x hx _ hn => hch.block x hx hn))
  have HC2 := Lib.hid (HC1.out.trans (hch.mono HU2_2.out))
  have HOB2 := Lib.hid (OB.chg HOB1.out hch (fun h => by have h1 := HSS.out _ (HU2_2.out _ h); omega))
  clear how hch
  try simp only [Tr.topN, Nat.add_zero]
  try simp only [← Nat.add_assoc]
  have hcell3 : w2.cell? ⟨w.heap.size, 3, none⟩ = some (.slice sa3 (v3).length sc3) := by rw [HOB2.out.cell]; rfl
  go_wp2_with fail
  obtain ⟨U3, hu1, hu2, hu3⟩ := OwnL.focus (a := [.leaf (.string v0), .row 1 (Tr.markE (strTrs v1) (k)), .row 4 (Tr.markE (GBound.trs v2) (k + Tr.cntE (strTrs v1)))]) (b := [.row 4 (GParam.trs v3)]) (c := [.leaf (.int .i64 v4_0), .leaf (.string v4_1), .row 3 (GType.trs v4_2), .leaf (.int .i64 v5_0), .leaf (.string v5_1), .leaf (.string v5_2), .leaf (.int .i64 v5_3), .leaf (.int .i64 v5_4_0), .leaf (.string v5_4_1), .row 3 (GType.trs v5_4_2), .row 9 (GExpr.trs v5_5), .row 11 (GArm.trs v5_6)]) (x := [_, _, _]) (y := [_]) (z := [_, _, _, _, _, _, _, _, _, _, _, _]) HO2.out rfl rfl
  have HU1_3 := Lib.hid hu1
  have HU2_3 := Lib.hid hu2
  have HU3_3 := Lib.hid hu3
  clear hu1 hu2 hu3
  refine (markParamS_all v3 _ _ (k + Tr.cntE (strTrs v1) + Tr.cntE (GBound.trs v2)) U3 _ (by rfl) HU1_3.out.oneInv (fun x hx => by have h1 := HSS.out x (HU2_3.out x hx); have h2 := HC2.out.size; omega) (by omega)).mono ?_; rintro e w3 ⟨rfl, how, hch⟩
  have HO3 := Lib.hid (HU3_3.out w3 [.row 4 (Tr.markE (GParam.trs v3) (k + Tr.cntE (strTrs v1) + Tr.cntE (GBound.trs v2)))] (OwnL.one how) rfl (fun x hx _ hn => hch.block x hx hn))
  have HC3 := Lib.hid (HC2.out.trans (hch.mono HU2_3.out))
  have HOB3 := Lib.hid (OB.chg HOB2.out hch (fun h => by have h1 := HSS.out _ (HU2_3.out _ h); omega))
  clear how hch
  try simp only [Tr.topN, Nat.add_zero]
  try simp only [← Nat.add_assoc]
  go_wp2_with (refine wpList_load_rep rfl 47 _ rfl w.heap.size 4 rfl [_, _, .slice sa6 _ sc6] _ Tryz.underlying47 isz47 (fun j v hv => by rw [HOB3.out.cell]; rcases j with _ | _ | _ | j <;> first | (simp at hv; done) | simpa using hv) ?_)
  obtain ⟨U4, hu1, hu2, hu3⟩ := OwnL.focus (a := [.leaf (.string v0), .row 1 (Tr.markE (strTrs v1) (k)), .row 4 (Tr.markE (GBound.trs v2) (k + Tr.cntE (strTrs v1))), .row 4 (Tr.markE (GParam.trs v3) (k + Tr.cntE (strTrs v1) + Tr.cntE (GBound.trs v2)))]) (b := [.leaf (.int .i64 v4_0), .leaf (.string v4_1), .row 3 (GType.trs v4_2)]) (c := [.leaf (.int .i64 v5_0), .leaf (.string v5_1), .leaf (.string v5_2), .leaf (.int .i64 v5_3), .leaf (.int .i64 v5_4_0), .leaf (.string v5_4_1), .row 3 (GType.trs v5_4_2), .row 9 (GExpr.trs v5_5), .row 11 (GArm.trs v5_6)]) (x := [_, _, _, _]) (y := [_, _, _]) (z := [_, _, _, _, _, _, _, _, _]) HO3.out rfl rfl
  have HU1_4 := Lib.hid hu1
  have HU2_4 := Lib.hid hu2
  have HU3_4 := Lib.hid hu3
  clear hu1 hu2 hu3
  refine (HM4.out _ _ (k + Tr.cntE (strTrs v1) + Tr.cntE (GBound.trs v2) + Tr.cntE (GParam.trs v3)) U4 _ (by rfl) HU1_4.out (fun x hx => by have h1 := HSS.out x (HU2_4.out x hx); have h2 := HC3.out.size; omega) (by simp only [Tr.topN]; omega)).mono ?_; rintro e w4 ⟨rfl, how, hch⟩
  have HO4 := Lib.hid (HU3_4.out w4 [.leaf (.int .i64 v4_0), .leaf (.string v4_1), .row 3 (Tr.markE (GType.trs v4_2) (k + Tr.cntE (strTrs v1) + Tr.cntE (GBound.trs v2) + Tr.cntE (GParam.trs v3)))] how rfl (fun x hx _ hn => hch.block x hx hn))
  have HC4 := Lib.hid (HC3.out.trans (hch.mono HU2_4.out))
  have HOB4 := Lib.hid (OB.chg HOB3.out hch (fun h => by have h1 := HSS.out _ (HU2_4.out _ h); omega))
  clear how hch
  try simp only [Tr.topN, Nat.add_zero]
  try simp only [← Nat.add_assoc]
  go_wp2_with (refine wpList_load_rep rfl 103 _ rfl w.heap.size 7 rfl [_, _, _, _, _, _, .slice sa13 _ sc13, .slice sa14 _ sc14, .slice sa15 _ sc15] _ Tryz.underlying103 isz103 (fun j v hv => by rw [HOB4.out.cell]; rcases j with _ | _ | _ | _ | _ | _ | _ | _ | _ | j <;> first | (simp at hv; done) | simpa using hv) ?_)
  obtain ⟨U5, hu1, hu2, hu3⟩ := OwnL.focus (a := [.leaf (.string v0), .row 1 (Tr.markE (strTrs v1) (k)), .row 4 (Tr.markE (GBound.trs v2) (k + Tr.cntE (strTrs v1))), .row 4 (Tr.markE (GParam.trs v3) (k + Tr.cntE (strTrs v1) + Tr.cntE (GBound.trs v2))), .leaf (.int .i64 v4_0), .leaf (.string v4_1), .row 3 (Tr.markE (GType.trs v4_2) (k + Tr.cntE (strTrs v1) + Tr.cntE (GBound.trs v2) + Tr.cntE (GParam.trs v3)))]) (b := [.leaf (.int .i64 v5_0), .leaf (.string v5_1), .leaf (.string v5_2), .leaf (.int .i64 v5_3), .leaf (.int .i64 v5_4_0), .leaf (.string v5_4_1), .row 3 (GType.trs v5_4_2), .row 9 (GExpr.trs v5_5), .row 11 (GArm.trs v5_6)]) (c := []) (x := [_, _, _, _, _, _, _]) (y := [_, _, _, _, _, _, _, _, _]) (z := []) HO4.out rfl rfl
  have HU1_5 := Lib.hid hu1
  have HU2_5 := Lib.hid hu2
  have HU3_5 := Lib.hid hu3
  clear hu1 hu2 hu3
  refine (HM5.out _ _ (k + Tr.cntE (strTrs v1) + Tr.cntE (GBound.trs v2) + Tr.cntE (GParam.trs v3) + Tr.cntE (GType.trs v4_2)) U5 _ (by rfl) HU1_5.out (fun x hx => by have h1 := HSS.out x (HU2_5.out x hx); have h2 := HC4.out.size; omega) (by simp only [Tr.topN]; omega)).mono ?_; rintro e w5 ⟨rfl, how, hch⟩
  have HO5 := Lib.hid (HU3_5.out w5 [.leaf (.int .i64 v5_0), .leaf (.string v5_1), .leaf (.string v5_2), .leaf (.int .i64 v5_3), .leaf (.int .i64 v5_4_0), .leaf (.string v5_4_1), .row 3 (Tr.markE (GType.trs v5_4_2) (k + Tr.cntE (strTrs v1) + Tr.cntE (GBound.trs v2) + Tr.cntE (GParam.trs v3) + Tr.cntE (GType.trs v4_2))), .row 9 (Tr.markE (GExpr.trs v5_5) (k + Tr.cntE (strTrs v1) + Tr.cntE (GBound.trs v2) + Tr.cntE (GParam.trs v3) + Tr.cntE (GType.trs v4_2) + Tr.cntE (GType.trs v5_4_2))), .row 11 (Tr.markE (GArm.trs v5_6) (k + Tr.cntE (strTrs v1) + Tr.cntE (GBound.trs v2) + Tr.cntE (GParam.trs v3) + Tr.cntE (GType.trs v4_2) + Tr.cntE (GType.trs v5_4_2) + Tr.cntE (GExpr.trs v5_5)))] how rfl (fun x hx _ hn => hch.block x hx hn))
  have HC5 := Lib.hid (HC4.out.trans (hch.mono HU2_5.out))
  have HOB5 := Lib.hid (OB.chg HOB4.out hch (fun h => by have h1 := HSS.out _ (HU2_5.out _ h); omega))
  clear how hch
  try simp only [Tr.topN, Nat.add_zero]
  try simp only [← Nat.add_assoc]
  go_wp2_with fail
  go_ret
  exact ⟨by first | rfl | (show Ending.returned (Value.int .i64 _) = _; congr 2; omega), HO5.out, HC5.out⟩

set_option maxRecDepth 100000 in
set_option maxHeartbeats 2000000 in
theorem heldFunction_all (x : GFunction) : HeldC 75 x.tr := by
  obtain ⟨v0, v1, v2, v3, ⟨v4_0, v4_1, v4_2⟩, ⟨v5_0, v5_1, v5_2, v5_3, ⟨v5_4_0, v5_4_1, v5_4_2⟩, v5_5, v5_6⟩⟩ := x
  have HM4 : Hid (HeldC 49 [.leaf (.int .i64 v4_0), .leaf (.string v4_1), .row 3 (GType.trs v4_2)]) := by have h1 := heldType_all (.mk v4_0 v4_1 v4_2); rw [show GType.tr (.mk v4_0 v4_1 v4_2) = [.leaf (.int .i64 v4_0), .leaf (.string v4_1), .row 3 (GType.trs v4_2)] from by simp [GType.tr]] at h1; exact h1
  have HM5 : Hid (HeldC 135 [.leaf (.int .i64 v5_0), .leaf (.string v5_1), .leaf (.string v5_2), .leaf (.int .i64 v5_3), .leaf (.int .i64 v5_4_0), .leaf (.string v5_4_1), .row 3 (GType.trs v5_4_2), .row 9 (GExpr.trs v5_5), .row 11 (GArm.trs v5_6)]) := by have h1 := heldExpr_all (.mk v5_0 v5_1 v5_2 v5_3 (.mk v5_4_0 v5_4_1 v5_4_2) v5_5 v5_6); rw [show GExpr.tr (.mk v5_0 v5_1 v5_2 v5_3 (.mk v5_4_0 v5_4_1 v5_4_2) v5_5 v5_6) = [.leaf (.int .i64 v5_0), .leaf (.string v5_1), .leaf (.string v5_2), .leaf (.int .i64 v5_3), .leaf (.int .i64 v5_4_0), .leaf (.string v5_4_1), .row 3 (GType.trs v5_4_2), .row 9 (GExpr.trs v5_5), .row 11 (GArm.trs v5_6)] from by simp [GExpr.tr, GType.tr]] at h1; exact h1
  have htr : GFunction.tr (.mk v0 v1 v2 v3 (.mk v4_0 v4_1 v4_2) (.mk v5_0 v5_1 v5_2 v5_3 (.mk v5_4_0 v5_4_1 v5_4_2) v5_5 v5_6)) = [.leaf (.string v0), .row 1 (strTrs v1), .row 4 (GBound.trs v2), .row 4 (GParam.trs v3), .leaf (.int .i64 v4_0), .leaf (.string v4_1), .row 3 (GType.trs v4_2), .leaf (.int .i64 v5_0), .leaf (.string v5_1), .leaf (.string v5_2), .leaf (.int .i64 v5_3), .leaf (.int .i64 v5_4_0), .leaf (.string v5_4_1), .row 3 (GType.trs v5_4_2), .row 9 (GExpr.trs v5_5), .row 11 (GArm.trs v5_6)] := by simp [GFunction.tr, GType.tr, GExpr.tr, GType.tr]
  rw [htr]
  clear htr
  intro cs kz k w hz hr hbd
  subst hz
  simp only [Tr.topN, Tr.topL, Nat.add_zero] at *
  obtain ⟨d0, d1, d2, d3, d4, d5, d6, d7, d8, d9, d10, d11, d12, d13, d14, d15, rfl⟩ := list16 hr.length.symm
  have HR0 := Lib.hid (hr.1)
  obtain ⟨rfl, -⟩ := HR0.out.leaf_eq
  have HR1 := Lib.hid (hr.2.1)
  obtain ⟨sa1, sc1, hd1, -, -⟩ := HR1.out.shape
  rw [Tr.markE_length] at hd1
  rw [strTrs_len] at hd1
  subst hd1
  have HR2 := Lib.hid (hr.2.2.1)
  obtain ⟨sa2, sc2, hd2, -, -⟩ := HR2.out.shape
  rw [Tr.markE_length] at hd2
  rw [GBound.trs_len] at hd2
  subst hd2
  have HR3 := Lib.hid (hr.2.2.2.1)
  obtain ⟨sa3, sc3, hd3, -, -⟩ := HR3.out.shape
  rw [Tr.markE_length] at hd3
  rw [GParam.trs_len] at hd3
  subst hd3
  have HR4 := Lib.hid (hr.2.2.2.2.1)
  obtain ⟨rfl, -⟩ := HR4.out.leaf_eq
  have HR5 := Lib.hid (hr.2.2.2.2.2.1)
  obtain ⟨rfl, -⟩ := HR5.out.leaf_eq
  have HR6 := Lib.hid (hr.2.2.2.2.2.2.1)
  obtain ⟨sa6, sc6, hd6, -, -⟩ := HR6.out.shape
  rw [Tr.markE_length] at hd6
  rw [GType.trs_len] at hd6
  subst hd6
  have HR7 := Lib.hid (hr.2.2.2.2.2.2.2.1)
  obtain ⟨rfl, -⟩ := HR7.out.leaf_eq
  have HR8 := Lib.hid (hr.2.2.2.2.2.2.2.2.1)
  obtain ⟨rfl, -⟩ := HR8.out.leaf_eq
  have HR9 := Lib.hid (hr.2.2.2.2.2.2.2.2.2.1)
  obtain ⟨rfl, -⟩ := HR9.out.leaf_eq
  have HR10 := Lib.hid (hr.2.2.2.2.2.2.2.2.2.2.1)
  obtain ⟨rfl, -⟩ := HR10.out.leaf_eq
  have HR11 := Lib.hid (hr.2.2.2.2.2.2.2.2.2.2.2.1)
  obtain ⟨rfl, -⟩ := HR11.out.leaf_eq
  have HR12 := Lib.hid (hr.2.2.2.2.2.2.2.2.2.2.2.2.1)
  obtain ⟨rfl, -⟩ := HR12.out.leaf_eq
  have HR13 := Lib.hid (hr.2.2.2.2.2.2.2.2.2.2.2.2.2.1)
  obtain ⟨sa13, sc13, hd13, -, -⟩ := HR13.out.shape
  rw [Tr.markE_length] at hd13
  rw [GType.trs_len] at hd13
  subst hd13
  have HR14 := Lib.hid (hr.2.2.2.2.2.2.2.2.2.2.2.2.2.2.1)
  obtain ⟨sa14, sc14, hd14, -, -⟩ := HR14.out.shape
  rw [Tr.markE_length] at hd14
  rw [GExpr.trs_len] at hd14
  subst hd14
  have HR15 := Lib.hid (hr.2.2.2.2.2.2.2.2.2.2.2.2.2.2.2.1)
  obtain ⟨sa15, sc15, hd15, -, -⟩ := HR15.out.shape
  rw [Tr.markE_length] at hd15
  rw [GArm.trs_len] at hd15
  subst hd15
  clear hr
  go_enter Tryz.func75, Tryz.ntmps75
  go_wp2_with fail
  refine (heldStringS_all v1 _ _ (k) _ (by rfl) (HR1.out.ext (.alloc (.refl _) _)) (by omega)).mono ?_; rintro e w1 ⟨rfl, hw1⟩
  have HW1 := Lib.hid (Ext.trans (.alloc (.refl w) (.cells #[.string v0, .slice sa1 (v1).length sc1, .slice sa2 (v2).length sc2, .slice sa3 (v3).length sc3, .int .i64 v4_0, .string v4_1, .slice sa6 (v4_2).length sc6, .int .i64 v5_0, .string v5_1, .string v5_2, .int .i64 v5_3, .int .i64 v5_4_0, .string v5_4_1, .slice sa13 (v5_4_2).length sc13, .slice sa14 (v5_5).length sc14, .slice sa15 (v5_6).length sc15] 105)) hw1)
  have HOB1 := Lib.hid (OB.ext (OB.new w 105 #[.string v0, .slice sa1 (v1).length sc1, .slice sa2 (v2).length sc2, .slice sa3 (v3).length sc3, .int .i64 v4_0, .string v4_1, .slice sa6 (v4_2).length sc6, .int .i64 v5_0, .string v5_1, .string v5_2, .int .i64 v5_3, .int .i64 v5_4_0, .string v5_4_1, .slice sa13 (v5_4_2).length sc13, .slice sa14 (v5_5).length sc14, .slice sa15 (v5_6).length sc15]) hw1)
  clear hw1
  try simp only [Tr.topN, Nat.add_zero]
  try simp only [← Nat.add_assoc]
  have hng1 : ¬ ((k + Tr.cntE (strTrs v1) : Nat) : Int) < 0 := by omega
  have hcell2 : w1.cell? ⟨w.heap.size, 2, none⟩ = some (.slice sa2 (v2).length sc2) := by rw [HOB1.out.cell]; rfl
  go_wp2_with fail
  refine (heldBoundS_all v2 _ _ (k + Tr.cntE (strTrs v1)) _ (by rfl) (HR2.out.ext HW1.out) (by omega)).mono ?_; rintro e w2 ⟨rfl, hw2⟩
  have HW2 := Lib.hid (Ext.trans HW1.out hw2)
  have HOB2 := Lib.hid (OB.ext HOB1.out hw2)
  clear hw2
  try simp only [Tr.topN, Nat.add_zero]
  try simp only [← Nat.add_assoc]
  have hng2 : ¬ ((k + Tr.cntE (strTrs v1) + Tr.cntE (GBound.trs v2) : Nat) : Int) < 0 := by omega
  have hcell3 : w2.cell? ⟨w.heap.size, 3, none⟩ = some (.slice sa3 (v3).length sc3) := by rw [HOB2.out.cell]; rfl
  go_wp2_with fail
  refine (heldParamS_all v3 _ _ (k + Tr.cntE (strTrs v1) + Tr.cntE (GBound.trs v2)) _ (by rfl) (HR3.out.ext HW2.out) (by omega)).mono ?_; rintro e w3 ⟨rfl, hw3⟩
  have HW3 := Lib.hid (Ext.trans HW2.out hw3)
  have HOB3 := Lib.hid (OB.ext HOB2.out hw3)
  clear hw3
  try simp only [Tr.topN, Nat.add_zero]
  try simp only [← Nat.add_assoc]
  have hng3 : ¬ ((k + Tr.cntE (strTrs v1) + Tr.cntE (GBound.trs v2) + Tr.cntE (GParam.trs v3) : Nat) : Int) < 0 := by omega
  go_wp2_with (refine wpList_load_rep rfl 47 _ rfl w.heap.size 4 rfl [_, _, .slice sa6 _ sc6] _ Tryz.underlying47 isz47 (fun j v hv => by rw [HOB3.out.cell]; rcases j with _ | _ | _ | j <;> first | (simp at hv; done) | simpa using hv) ?_)
  refine (HM4.out _ _ (k + Tr.cntE (strTrs v1) + Tr.cntE (GBound.trs v2) + Tr.cntE (GParam.trs v3)) _ (by rfl) (RepL.ext (show RepL w [.leaf (.int .i64 v4_0), .leaf (.string v4_1), .row 3 (Tr.markE (GType.trs v4_2) (k + Tr.cntE (strTrs v1) + Tr.cntE (GBound.trs v2) + Tr.cntE (GParam.trs v3)))] [.int .i64 v4_0, .string v4_1, .slice sa6 (v4_2).length sc6] from ⟨HR4.out, HR5.out, HR6.out, trivial⟩) HW3.out) (by simp only [Tr.topN]; omega)).mono ?_; rintro e w4 ⟨rfl, hw4⟩
  have HW4 := Lib.hid (Ext.trans HW3.out hw4)
  have HOB4 := Lib.hid (OB.ext HOB3.out hw4)
  clear hw4
  try simp only [Tr.topN, Nat.add_zero]
  try simp only [← Nat.add_assoc]
  have hng4 : ¬ ((k + Tr.cntE (strTrs v1) + Tr.cntE (GBound.trs v2) + Tr.cntE (GParam.trs v3) + Tr.cntE (GType.trs v4_2) : Nat) : Int) < 0 := by omega
  go_wp2_with (refine wpList_load_rep rfl 103 _ rfl w.heap.size 7 rfl [_, _, _, _, _, _, .slice sa13 _ sc13, .slice sa14 _ sc14, .slice sa15 _ sc15] _ Tryz.underlying103 isz103 (fun j v hv => by rw [HOB4.out.cell]; rcases j with _ | _ | _ | _ | _ | _ | _ | _ | _ | j <;> first | (simp at hv; done) | simpa using hv) ?_)
  refine (HM5.out _ _ (k + Tr.cntE (strTrs v1) + Tr.cntE (GBound.trs v2) + Tr.cntE (GParam.trs v3) + Tr.cntE (GType.trs v4_2)) _ (by rfl) (RepL.ext (show RepL w [.leaf (.int .i64 v5_0), .leaf (.string v5_1), .leaf (.string v5_2), .leaf (.int .i64 v5_3), .leaf (.int .i64 v5_4_0), .leaf (.string v5_4_1), .row 3 (Tr.markE (GType.trs v5_4_2) (k + Tr.cntE (strTrs v1) + Tr.cntE (GBound.trs v2) + Tr.cntE (GParam.trs v3) + Tr.cntE (GType.trs v4_2))), .row 9 (Tr.markE (GExpr.trs v5_5) (k + Tr.cntE (strTrs v1) + Tr.cntE (GBound.trs v2) + Tr.cntE (GParam.trs v3) + Tr.cntE (GType.trs v4_2) + Tr.cntE (GType.trs v5_4_2))), .row 11 (Tr.markE (GArm.trs v5_6) (k + Tr.cntE (strTrs v1) + Tr.cntE (GBound.trs v2) + Tr.cntE (GParam.trs v3) + Tr.cntE (GType.trs v4_2) + Tr.cntE (GType.trs v5_4_2) + Tr.cntE (GExpr.trs v5_5)))] [.int .i64 v5_0, .string v5_1, .string v5_2, .int .i64 v5_3, .int .i64 v5_4_0, .string v5_4_1, .slice sa13 (v5_4_2).length sc13, .slice sa14 (v5_5).length sc14, .slice sa15 (v5_6).length sc15] from ⟨HR7.out, HR8.out, HR9.out, HR10.out, HR11.out, HR12.out, HR13.out, HR14.out, HR15.out, trivial⟩) HW4.out) (by simp only [Tr.topN]; omega)).mono ?_; rintro e w5 ⟨rfl, hw5⟩
  have HW5 := Lib.hid (Ext.trans HW4.out hw5)
  have HOB5 := Lib.hid (OB.ext HOB4.out hw5)
  clear hw5
  try simp only [Tr.topN, Nat.add_zero]
  try simp only [← Nat.add_assoc]
  have hng5 : ¬ ((k + Tr.cntE (strTrs v1) + Tr.cntE (GBound.trs v2) + Tr.cntE (GParam.trs v3) + Tr.cntE (GType.trs v4_2) + Tr.cntE (GType.trs v5_4_2) + Tr.cntE (GExpr.trs v5_5) + Tr.cntE (GArm.trs v5_6) : Nat) : Int) < 0 := by omega
  go_wp2_with fail
  go_ret
  exact ⟨by show Ending.returned (Value.int .i64 _) = _; congr 2; omega, HW5.out⟩

end Go.Proofs.YtnakkelglbcecaaGreat
