/- SupertraitsAcyclic, on both sides. No conditions. -/
import Derived.Test.YtnakkelglbcecaaPmSup
namespace Go.Proofs.Ytnakkelglbcecaa
open Go.RowKit Go.Proofs
set_option linter.unusedSimpArgs false
set_option linter.unusedVariables false


def GProgram.acyclic (w : GProgram) : Bool := w.gPackages.all fun p => p.gTraits.all fun t => !decide (t.gName ∈ w.supers t.gName)
theorem all_false {α : Type} {F : α → Bool} {l : List α} {i : Nat} {r : Bool} (h : i < l.length) (hr : r = (l.drop i).all F) (hf : F l[i] = false) : r = false := by
  rw [hr, List.drop_eq_getElem_cons h, List.all_cons, hf, Bool.false_and]
theorem all_next {α : Type} {F : α → Bool} {l : List α} {i : Nat} {r : Bool} (h : i < l.length) (hr : r = (l.drop i).all F) (hf : F l[i] = true) : r = (l.drop (i + 1)).all F := by
  rw [hr, List.drop_eq_getElem_cons h, List.all_cons, hf, Bool.true_and]
theorem all_end {α : Type} {F : α → Bool} {l : List α} {i : Nat} {r : Bool} (h : l.length ≤ i) (hr : r = (l.drop i).all F) : r = true := by
  rw [hr, List.drop_eq_nil_of_le h, List.all_nil]

set_option maxRecDepth 100000 in
theorem acyclic_impl (w : GProgram) (hb : w.allSup.length ≤ 1099511627776) : AFun Try.prog 14 [(GProgram.pv w)] (.t (.leaf (.bool (GProgram.acyclic w)))) := by
  refine ACalls.intro Try.func14 rfl (by first | decide | (simp; done) | (simp; decide)) ?_
  intro C hC
  refine AWP.seq ?_
  refine AWP.region_lit ?_
  refine AL.cons rfl (AOp.box (cs := [.t (.row 6 (GPackage.trs (w.gPackages)))]) rfl rfl rfl rfl rfl) ?_
  refine AL.cons rfl (AOp.move (.inr rfl) rfl rfl) ?_
  refine AL.nil ?_
  refine AWP.seq ?_
  refine AWP.seq ?_
  refine AWP.region_lit ?_
  refine AL.cons rfl (AOp.fieldPtr (k := 0) (d := 0) (e := 0) rfl rfl rfl fo33_0) ?_
  refine AL.cons rfl (AOp.loadPtr1 rfl rfl rfl rfl sh31 rfl) ?_
  refine AL.fact (lk_lenN 8 rfl rfl (GPackage.trs_len _)) (fun hl1 => ?_)
  refine AL.cons rfl (AOp.lenN rfl rfl rfl rfl el31 (GPackage.trs_len _)) ?_
  refine AL.cons rfl (AOp.move (.inl rfl) rfl rfl) ?_
  refine AL.nil ?_
  refine AWP.block ?_
  refine AWP.loopJ (ι := Nat) (fun i => i ≤ w.gPackages.length ∧ w.acyclic = (w.gPackages.drop i).all (fun p => p.gTraits.all (fun t => !decide (t.gName ∈ w.supers t.gName)))) (fun i => ⟨[(0, (GProgram.pv w)), (1, .ptr 0 0), (8, .t (.row 6 (GPackage.trs (w.gPackages)))), (9, .t (.leaf (.int .i64 (((w.gPackages.length : Nat) : Int))))), (10, .t (.leaf (.int .i64 (((i : Nat) : Int)))))], ⟨[some ⟨33, [.t (.row 6 (GPackage.trs (w.gPackages)))]⟩], []⟩⟩) (fun i => w.gPackages.length - i) 0 ?_ ?_ ?_
  · exact ⟨Nat.zero_le _, rfl⟩
  · skip
    exact Wk.mk (StLe.mk' ⟨⟨rfl, by (repeat' (first | exact PV.Le.refl _ | exact LeL.nil | exact PV.Le.nil _ | exact PV.Le.acc _ _ _ | apply LeL.cons | apply PV.Le.agg | apply PV.Le.tup)), rfl⟩, trivial⟩ rfl) (keeps_nil hC) ⟨⟨_, rfl, .refl _, rfl⟩, ⟨⟨_, rfl, .refl _, rfl⟩, ⟨⟨_, rfl, .refl _, rfl⟩, ⟨⟨_, rfl, .refl _, rfl⟩, ⟨⟨_, rfl, by (repeat' (first | exact PV.Le.refl _ | exact LeL.nil | exact PV.Le.nil _ | exact PV.Le.acc _ _ _ | apply LeL.cons | apply PV.Le.agg | apply PV.Le.tup)), rfl⟩, trivial⟩⟩⟩⟩⟩
  rintro i hJ2
  obtain ⟨hi1, hi2⟩ := hJ2
  refine AWP.seq ?_
  refine AWP.region_lit ?_
  refine AL.cons rfl (AOp.lss rfl rfl rfl rfl) ?_
  refine AL.nil ?_
  refine AWP.seq ?_
  refine AWP.cond rfl (fun h3 => ?_) (fun h3 => ?_)
  · skip
    have h3b := h3
    try simp only [decide_eq_true_eq, decide_eq_false_iff_not, Bool.not_eq_true', Bool.not_eq_false', Bool.not_eq_eq_eq_not, Bool.not_true, Bool.not_false, ge_iff_le, gt_iff_lt, Int.not_lt, Int.not_le] at h3b
    have h3n : i < w.gPackages.length := by omega
    refine AWP.skip ?_
    refine AWP.seq ?_
    refine AWP.block ?_
    refine AWP.seq ?_
    refine AWP.region_lit ?_
    refine AL.cons rfl (AOp.index (k := i) rfl rfl rfl rfl rfl (GPackage.trs_cs h3n) el31) ?_
    refine AL.cons rfl (AOp.loadEptr (ds := [.leaf (.string ((w.gPackages[i]).gName)), .row 1 (strTrs ((w.gPackages[i]).gDeps)), .row 5 (GTrait.trs ((w.gPackages[i]).gTraits)), .row 3 (GDataType.trs ((w.gPackages[i]).gDataTypes)), .row 12 (GInstance.trs ((w.gPackages[i]).gInstances)), .row 16 (GFunction.trs ((w.gPackages[i]).gFunctions))]) rfl rfl rfl sh63 rfl rfl) ?_
    refine AL.cons rfl (AOp.alloc rfl rfl zr63) ?_
    refine AL.cons rfl (AOp.storePtr (cs := [.t (.leaf (.string ((w.gPackages[i]).gName))), .t (.row 1 (strTrs ((w.gPackages[i]).gDeps))), .t (.row 5 (GTrait.trs ((w.gPackages[i]).gTraits))), .t (.row 3 (GDataType.trs ((w.gPackages[i]).gDataTypes))), .t (.row 12 (GInstance.trs ((w.gPackages[i]).gInstances))), .t (.row 16 (GFunction.trs ((w.gPackages[i]).gFunctions)))]) (ds := [.t (.leaf (.string ((w.gPackages[i]).gName))), .t (.row 1 (strTrs ((w.gPackages[i]).gDeps))), .t (.row 5 (GTrait.trs ((w.gPackages[i]).gTraits))), .t (.row 3 (GDataType.trs ((w.gPackages[i]).gDataTypes))), .t (.row 12 (GInstance.trs ((w.gPackages[i]).gInstances))), .t (.row 16 (GFunction.trs ((w.gPackages[i]).gFunctions)))]) rfl rfl rfl rfl rfl rfl rfl sz63 (Nat.le_of_ble_eq_true rfl) rfl) ?_
    refine AL.nil ?_
    refine AWP.seq ?_
    refine AWP.region_lit ?_
    refine AL.cons rfl (AOp.fieldPtr (k := 1) (d := 0) (e := 2) rfl rfl rfl fo63_2) ?_
    refine AL.cons rfl (AOp.loadPtr1 rfl rfl rfl rfl sh58 rfl) ?_
    refine AL.fact (lk_lenN 15 rfl rfl (GTrait.trs_len _)) (fun hl4 => ?_)
    refine AL.cons rfl (AOp.lenN rfl rfl rfl rfl el58 (GTrait.trs_len _)) ?_
    refine AL.cons rfl (AOp.move (.inl rfl) rfl rfl) ?_
    refine AL.nil ?_
    refine AWP.block ?_
    refine AWP.loopJ (ι := Nat) (fun k => k ≤ (w.gPackages[i]).gTraits.length ∧ (w.gPackages[i]).gTraits.all (fun t => !decide (t.gName ∈ w.supers t.gName)) = ((w.gPackages[i]).gTraits.drop k).all (fun t => !decide (t.gName ∈ w.supers t.gName))) (fun k => ⟨[(0, (GProgram.pv w)), (1, .ptr 0 0), (4, .ptr 1 0), (8, .t (.row 6 (GPackage.trs (w.gPackages)))), (9, .t (.leaf (.int .i64 (((w.gPackages.length : Nat) : Int))))), (10, .t (.leaf (.int .i64 (((i : Nat) : Int))))), (15, .t (.row 5 (GTrait.trs ((w.gPackages[i]).gTraits)))), (16, .t (.leaf (.int .i64 (((((w.gPackages[i]).gTraits).length : Nat) : Int))))), (17, .t (.leaf (.int .i64 (((k : Nat) : Int)))))], ⟨[some ⟨33, [.t (.row 6 (GPackage.trs (w.gPackages)))]⟩, some ⟨63, [.t (.leaf (.string ((w.gPackages[i]).gName))), .t (.row 1 (strTrs ((w.gPackages[i]).gDeps))), .t (.row 5 (GTrait.trs ((w.gPackages[i]).gTraits))), .t (.row 3 (GDataType.trs ((w.gPackages[i]).gDataTypes))), .t (.row 12 (GInstance.trs ((w.gPackages[i]).gInstances))), .t (.row 16 (GFunction.trs ((w.gPackages[i]).gFunctions)))]⟩], []⟩⟩) (fun k => (w.gPackages[i]).gTraits.length - k) 0 ?_ ?_ ?_
    · exact ⟨Nat.zero_le _, rfl⟩
    · skip
      exact Wk.mk (StLe.mk' ⟨⟨rfl, by (repeat' (first | exact PV.Le.refl _ | exact LeL.nil | exact PV.Le.nil _ | exact PV.Le.acc _ _ _ | apply LeL.cons | apply PV.Le.agg | apply PV.Le.tup)), rfl⟩, ⟨⟨rfl, by (repeat' (first | exact PV.Le.refl _ | exact LeL.nil | exact PV.Le.nil _ | exact PV.Le.acc _ _ _ | apply LeL.cons | apply PV.Le.agg | apply PV.Le.tup)), rfl⟩, trivial⟩⟩ rfl) (keeps_nil hC) ⟨⟨_, rfl, .refl _, rfl⟩, ⟨⟨_, rfl, .refl _, rfl⟩, ⟨⟨_, rfl, .refl _, rfl⟩, ⟨⟨_, rfl, .refl _, rfl⟩, ⟨⟨_, rfl, .refl _, rfl⟩, ⟨⟨_, rfl, .refl _, rfl⟩, ⟨⟨_, rfl, .refl _, rfl⟩, ⟨⟨_, rfl, .refl _, rfl⟩, ⟨⟨_, rfl, by (repeat' (first | exact PV.Le.refl _ | exact LeL.nil | exact PV.Le.nil _ | exact PV.Le.acc _ _ _ | apply LeL.cons | apply PV.Le.agg | apply PV.Le.tup)), rfl⟩, trivial⟩⟩⟩⟩⟩⟩⟩⟩⟩
    rintro k hJ5
    obtain ⟨hk1, hk2⟩ := hJ5
    refine AWP.seq ?_
    refine AWP.region_lit ?_
    refine AL.cons rfl (AOp.lss rfl rfl rfl rfl) ?_
    refine AL.nil ?_
    refine AWP.seq ?_
    refine AWP.cond rfl (fun h6 => ?_) (fun h6 => ?_)
    · skip
      have h6b := h6
      try simp only [decide_eq_true_eq, decide_eq_false_iff_not, Bool.not_eq_true', Bool.not_eq_false', Bool.not_eq_eq_eq_not, Bool.not_true, Bool.not_false, ge_iff_le, gt_iff_lt, Int.not_lt, Int.not_le] at h6b
      have h6n : k < ((w.gPackages[i]).gTraits).length := by omega
      refine AWP.skip ?_
      refine AWP.seq ?_
      refine AWP.block ?_
      refine AWP.seq ?_
      refine AWP.region_lit ?_
      refine AL.cons rfl (AOp.index (k := k) rfl rfl rfl rfl rfl (GTrait.trs_cs h6n) el58) ?_
      refine AL.cons rfl (AOp.loadEptr (ds := [.leaf (.string ((((w.gPackages[i]).gTraits)[k]).gName)), .row 1 (strTrs ((((w.gPackages[i]).gTraits)[k]).gSupertraits)), .leaf (.bool ((((w.gPackages[i]).gTraits)[k]).gAuto)), .leaf (.bool ((((w.gPackages[i]).gTraits)[k]).gAssoc)), .row 16 (GSignature.trs ((((w.gPackages[i]).gTraits)[k]).gSignatures))]) rfl rfl rfl sh68 rfl rfl) ?_
      refine AL.cons rfl (AOp.alloc rfl rfl zr68) ?_
      refine AL.cons rfl (AOp.storePtr (cs := [.t (.leaf (.string ((((w.gPackages[i]).gTraits)[k]).gName))), .t (.row 1 (strTrs ((((w.gPackages[i]).gTraits)[k]).gSupertraits))), .t (.leaf (.bool ((((w.gPackages[i]).gTraits)[k]).gAuto))), .t (.leaf (.bool ((((w.gPackages[i]).gTraits)[k]).gAssoc))), .t (.row 16 (GSignature.trs ((((w.gPackages[i]).gTraits)[k]).gSignatures)))]) (ds := [.t (.leaf (.string ((((w.gPackages[i]).gTraits)[k]).gName))), .t (.row 1 (strTrs ((((w.gPackages[i]).gTraits)[k]).gSupertraits))), .t (.leaf (.bool ((((w.gPackages[i]).gTraits)[k]).gAuto))), .t (.leaf (.bool ((((w.gPackages[i]).gTraits)[k]).gAssoc))), .t (.row 16 (GSignature.trs ((((w.gPackages[i]).gTraits)[k]).gSignatures)))]) rfl rfl rfl rfl rfl rfl rfl sz68 (Nat.le_of_ble_eq_true rfl) rfl) ?_
      refine AL.nil ?_
      refine AWP.seq ?_
      refine AWP.drawnL ⟨_, _, fun _ _ => (⟨[some ⟨33, [.t (.row 6 (GPackage.trs (w.gPackages)))]⟩, some ⟨63, [.t (.leaf (.string ((w.gPackages[i]).gName))), .t (.row 1 (strTrs ((w.gPackages[i]).gDeps))), .t (.row 5 (GTrait.trs ((w.gPackages[i]).gTraits))), .t (.row 3 (GDataType.trs ((w.gPackages[i]).gDataTypes))), .t (.row 12 (GInstance.trs ((w.gPackages[i]).gInstances))), .t (.row 16 (GFunction.trs ((w.gPackages[i]).gFunctions)))]⟩, some ⟨68, [.t (.leaf (.string ((((w.gPackages[i]).gTraits)[k]).gName))), .t (.row 1 (strTrs ((((w.gPackages[i]).gTraits)[k]).gSupertraits))), .t (.leaf (.bool ((((w.gPackages[i]).gTraits)[k]).gAuto))), .t (.leaf (.bool ((((w.gPackages[i]).gTraits)[k]).gAssoc))), .t (.row 16 (GSignature.trs ((((w.gPackages[i]).gTraits)[k]).gSignatures)))]⟩], []⟩ : Sto), fun q' => ([some ((GProgram.pv w)), some (.ptr 2 0), some (.t (.leaf (.string ((((w.gPackages[i]).gTraits)[k]).gName)))), some (.t (.row 1 (strTrs (GProgram.supers w (((((w.gPackages[i]).gTraits)[k]).gName)))))), some (.ptr 2 0), some (.t (.leaf (.string ((((w.gPackages[i]).gTraits)[k]).gName)))), some (.t (.leaf (.bool (decide (((((w.gPackages[i]).gTraits)[k]).gName) ∈ (GProgram.supers w (((((w.gPackages[i]).gTraits)[k]).gName))))))))] : List (Option PV)).getD q' none, fun q' => ([.q 0 0, .q 0 0, .q 0 0, .q 0 0, .q 0 0, .q 0 0, .q 0 0] : List DK).getD q' (.q 0 0), [], none, fun q' => ([[(1, none)], [(6, none)], [(22, some 1)], [(23, some 2), (21, some 0)], [(6, none)], [(25, some 4)], [(26, some 5), (24, some 3)]] : List (List (Nat × Option Nat))).getD q' []⟩ rfl mixed (by kernel_rfl) rfl rfl ⟨?_, ?_, ?_, ?_, ?_, ?_, ?_, trivial⟩ rfl ?_
      · refine .inl ⟨rfl, fun s' j b (h1 : 0 ≤ j) (h2 : j ≤ 0) hs hl => ?_⟩
        obtain rfl : j = 0 := by omega
        exact ⟨_, rfl, AOp.loadPtr (cs := [.t (.row 6 (GPackage.trs (w.gPackages)))]) rfl rfl (hl 1 none _ (.head _) rfl) (by rw [hs]; rfl) sh33 rfl rfl⟩
      · refine .inl ⟨rfl, fun s' j b (h1 : 0 ≤ j) (h2 : j ≤ 0) hs hl => ?_⟩
        obtain rfl : j = 0 := by omega
        exact ⟨_, rfl, AOp.fieldPtr (k := 2) (d := 0) (e := 0) rfl rfl (hl 6 none _ (.head _) rfl) fo68_0⟩
      · refine .inl ⟨rfl, fun s' j b (h1 : 0 ≤ j) (h2 : j ≤ 0) hs hl => ?_⟩
        obtain rfl : j = 0 := by omega
        exact ⟨_, rfl, AOp.loadPtr1 rfl rfl (hl 22 (some 1) _ (.head _) rfl) (by rw [hs]; rfl) sh9 rfl⟩
      · refine .inl ⟨rfl, fun s' j b (h1 : 0 ≤ j) (h2 : j ≤ 0) hs hl => ?_⟩
        obtain rfl : j = 0 := by omega
        exact ⟨_, rfl, AOp.callF (ps := [_, _]) rfl rfl Try.func28 (by kernel_rfl) rfl (evs_cons (hl 21 (some 0) _ (.tail _ (.head _)) rfl) (evs_cons (hl 23 (some 2) _ (.head _) rfl) rfl)) (by (repeat' (first | exact PV.Le.refl _ | exact LeL.nil | exact PV.Le.nil _ | exact PV.Le.acc _ _ _ | apply LeL.cons | apply PV.Le.agg | apply PV.Le.tup))) rfl rfl (allSup_impl w ((((w.gPackages[i]).gTraits)[k]).gName) (by assumption))⟩
      · refine .inl ⟨rfl, fun s' j b (h1 : 0 ≤ j) (h2 : j ≤ 0) hs hl => ?_⟩
        obtain rfl : j = 0 := by omega
        exact ⟨_, rfl, AOp.fieldPtr (k := 2) (d := 0) (e := 0) rfl rfl (hl 6 none _ (.head _) rfl) fo68_0⟩
      · refine .inl ⟨rfl, fun s' j b (h1 : 0 ≤ j) (h2 : j ≤ 0) hs hl => ?_⟩
        obtain rfl : j = 0 := by omega
        exact ⟨_, rfl, AOp.loadPtr1 rfl rfl (hl 25 (some 4) _ (.head _) rfl) (by rw [hs]; rfl) sh9 rfl⟩
      · refine .inl ⟨rfl, fun s' j b (h1 : 0 ≤ j) (h2 : j ≤ 0) hs hl => ?_⟩
        obtain rfl : j = 0 := by omega
        exact ⟨_, rfl, AOp.callF (ps := [_, _]) rfl rfl Try.func27 (by kernel_rfl) rfl (evs_cons (hl 24 (some 3) _ (.tail _ (.head _)) rfl) (evs_cons (hl 26 (some 5) _ (.head _) rfl) rfl)) (by (repeat' (first | exact PV.Le.refl _ | exact LeL.nil | exact PV.Le.nil _ | exact PV.Le.acc _ _ _ | apply LeL.cons | apply PV.Le.agg | apply PV.Le.tup))) rfl rfl (contS_ok (GProgram.supers w (((((w.gPackages[i]).gTraits)[k]).gName))) ((((w.gPackages[i]).gTraits)[k]).gName))⟩
      refine AWP.cond rfl (fun h7 => ?_) (fun h7 => ?_)
      · skip
        have h7b := h7
        try simp only [decide_eq_true_eq, decide_eq_false_iff_not, Bool.not_eq_true', Bool.not_eq_false', Bool.not_eq_eq_eq_not, Bool.not_true, Bool.not_false, ge_iff_le, gt_iff_lt, Int.not_lt, Int.not_le] at h7b
        refine AWP.seq ?_
        refine AWP.region_lit ?_
        refine AL.cons rfl (AOp.move (.inr rfl) rfl rfl) ?_
        refine AL.nil ?_
        refine AWP.ret ?_
        exact Ends.mk (ps := [_]) (.inr rfl) ⟨rfl, trivial⟩ rfl (StLe.mk' (st' := ⟨[], []⟩) trivial rfl) (keeps_nil hC) (q := (.t (.leaf (.bool (false))) : PV)) (by (repeat' (first | exact PV.Le.refl _ | exact LeL.nil | exact PV.Le.nil _ | exact PV.Le.acc _ _ _ | apply LeL.cons | apply PV.Le.agg | apply PV.Le.tup))) rfl ⟨by rw [all_false (by omega) hi2 (all_false (by omega) hk2 (by simpa using ‹_›))], rfl⟩
      · skip
        have h7b := h7
        try simp only [decide_eq_true_eq, decide_eq_false_iff_not, Bool.not_eq_true', Bool.not_eq_false', Bool.not_eq_eq_eq_not, Bool.not_true, Bool.not_false, ge_iff_le, gt_iff_lt, Int.not_lt, Int.not_le] at h7b
        refine AWP.skip ?_
        refine AWP.region_lit ?_
        refine AL.cons rfl (AOp.addI rfl rfl rfl rfl (c := ((k + 1 : Nat) : Int)) (by omega) (by omega)) ?_
        refine AL.cons rfl (AOp.move (.inl rfl) rfl rfl) ?_
        refine AL.nil ?_
        refine ⟨k + 1, ?_, ?_, ?_⟩
        · exact ⟨by omega, all_next (by omega) hk2 (by simpa using ‹_›)⟩
        · skip
          exact Wk.mk (StLe.mk' ⟨⟨rfl, by (repeat' (first | exact PV.Le.refl _ | exact LeL.nil | exact PV.Le.nil _ | exact PV.Le.acc _ _ _ | apply LeL.cons | apply PV.Le.agg | apply PV.Le.tup)), rfl⟩, ⟨⟨rfl, by (repeat' (first | exact PV.Le.refl _ | exact LeL.nil | exact PV.Le.nil _ | exact PV.Le.acc _ _ _ | apply LeL.cons | apply PV.Le.agg | apply PV.Le.tup)), rfl⟩, trivial⟩⟩ rfl) (keeps_nil hC) ⟨⟨_, rfl, .refl _, rfl⟩, ⟨⟨_, rfl, .refl _, rfl⟩, ⟨⟨_, rfl, .refl _, rfl⟩, ⟨⟨_, rfl, .refl _, rfl⟩, ⟨⟨_, rfl, .refl _, rfl⟩, ⟨⟨_, rfl, .refl _, rfl⟩, ⟨⟨_, rfl, .refl _, rfl⟩, ⟨⟨_, rfl, .refl _, rfl⟩, ⟨⟨_, rfl, by (repeat' (first | exact PV.Le.refl _ | exact LeL.nil | exact PV.Le.nil _ | exact PV.Le.acc _ _ _ | apply LeL.cons | apply PV.Le.agg | apply PV.Le.tup)), rfl⟩, trivial⟩⟩⟩⟩⟩⟩⟩⟩⟩
        · omega
    · skip
      have h6b := h6
      try simp only [decide_eq_true_eq, decide_eq_false_iff_not, Bool.not_eq_true', Bool.not_eq_false', Bool.not_eq_eq_eq_not, Bool.not_true, Bool.not_false, ge_iff_le, gt_iff_lt, Int.not_lt, Int.not_le] at h6b
      have h6n : k ≥ ((w.gPackages[i]).gTraits).length := by omega
      refine AWP.exit ?_
      refine AWP.region_lit ?_
      refine AL.cons rfl (AOp.addI rfl rfl rfl rfl (c := ((i + 1 : Nat) : Int)) (by omega) (by omega)) ?_
      refine AL.cons rfl (AOp.move (.inl rfl) rfl rfl) ?_
      refine AL.nil ?_
      refine ⟨i + 1, ?_, ?_, ?_⟩
      · exact ⟨by omega, all_next (by omega) hi2 (all_end (by omega) hk2)⟩
      · skip
        exact Wk.mk (StLe.mk' ⟨⟨rfl, by (repeat' (first | exact PV.Le.refl _ | exact LeL.nil | exact PV.Le.nil _ | exact PV.Le.acc _ _ _ | apply LeL.cons | apply PV.Le.agg | apply PV.Le.tup)), rfl⟩, trivial⟩ rfl) (keeps_nil hC) ⟨⟨_, rfl, .refl _, rfl⟩, ⟨⟨_, rfl, .refl _, rfl⟩, ⟨⟨_, rfl, .refl _, rfl⟩, ⟨⟨_, rfl, .refl _, rfl⟩, ⟨⟨_, rfl, by (repeat' (first | exact PV.Le.refl _ | exact LeL.nil | exact PV.Le.nil _ | exact PV.Le.acc _ _ _ | apply LeL.cons | apply PV.Le.agg | apply PV.Le.tup)), rfl⟩, trivial⟩⟩⟩⟩⟩
      · omega
  · skip
    have h3b := h3
    try simp only [decide_eq_true_eq, decide_eq_false_iff_not, Bool.not_eq_true', Bool.not_eq_false', Bool.not_eq_eq_eq_not, Bool.not_true, Bool.not_false, ge_iff_le, gt_iff_lt, Int.not_lt, Int.not_le] at h3b
    have h3n : i ≥ w.gPackages.length := by omega
    refine AWP.exit ?_
    refine AWP.seq ?_
    refine AWP.region_lit ?_
    refine AL.cons rfl (AOp.move (.inr rfl) rfl rfl) ?_
    refine AL.nil ?_
    refine AWP.ret ?_
    exact Ends.mk (ps := [_]) (.inr rfl) ⟨rfl, trivial⟩ rfl (StLe.mk' (st' := ⟨[], []⟩) trivial rfl) (keeps_nil hC) (q := (.t (.leaf (.bool (true))) : PV)) (by (repeat' (first | exact PV.Le.refl _ | exact LeL.nil | exact PV.Le.nil _ | exact PV.Le.acc _ _ _ | apply LeL.cons | apply PV.Le.agg | apply PV.Le.tup))) rfl ⟨by rw [all_end (by omega) hi2], rfl⟩

set_option maxRecDepth 100000 in
theorem acyclic_spec (w : GProgram) (hb : w.allSup.length ≤ 1099511627776) : AFun Try.prog 13 [(GProgram.pv w)] (.t (.leaf (.bool (GProgram.acyclic w)))) := by
  refine ACalls.intro Try.func13 rfl (by first | decide | (simp; done) | (simp; decide)) ?_
  intro C hC
  refine AWP.seq ?_
  refine AWP.region_lit ?_
  refine AL.cons rfl (AOp.box (cs := [.t (.row 6 (GPackage.trs (w.gPackages)))]) rfl rfl rfl rfl rfl) ?_
  refine AL.cons rfl (AOp.move (.inr rfl) rfl rfl) ?_
  refine AL.nil ?_
  refine AWP.seq ?_
  refine AWP.seq ?_
  refine AWP.region_lit ?_
  refine AL.cons rfl (AOp.move (.inr rfl) rfl rfl) ?_
  refine AL.nil ?_
  refine AWP.block ?_
  refine AWP.loopJ (ι := Nat) (fun i => i ≤ w.gPackages.length ∧ w.acyclic = (w.gPackages.drop i).all (fun p => p.gTraits.all (fun t => !decide (t.gName ∈ w.supers t.gName)))) (fun i => ⟨[(0, (GProgram.pv w)), (1, .ptr 0 0), (3, .t (.leaf (.int .i64 (((i : Nat) : Int)))))], ⟨[some ⟨33, [.t (.row 6 (GPackage.trs (w.gPackages)))]⟩], []⟩⟩) (fun i => w.gPackages.length - i) 0 ?_ ?_ ?_
  · exact ⟨Nat.zero_le _, rfl⟩
  · skip
    exact Wk.mk (StLe.mk' ⟨⟨rfl, by (repeat' (first | exact PV.Le.refl _ | exact LeL.nil | exact PV.Le.nil _ | exact PV.Le.acc _ _ _ | apply LeL.cons | apply PV.Le.agg | apply PV.Le.tup)), rfl⟩, trivial⟩ rfl) (keeps_nil hC) ⟨⟨_, rfl, .refl _, rfl⟩, ⟨⟨_, rfl, .refl _, rfl⟩, ⟨⟨_, rfl, by (repeat' (first | exact PV.Le.refl _ | exact LeL.nil | exact PV.Le.nil _ | exact PV.Le.acc _ _ _ | apply LeL.cons | apply PV.Le.agg | apply PV.Le.tup)), rfl⟩, trivial⟩⟩⟩
  rintro i hJ1
  obtain ⟨hi1, hi2⟩ := hJ1
  refine AWP.seq ?_
  refine AWP.seq ?_
  refine AWP.region_lit ?_
  refine AL.cons rfl (AOp.move (.inl rfl) rfl rfl) ?_
  refine AL.cons rfl (AOp.fieldPtr (k := 0) (d := 0) (e := 0) rfl rfl rfl fo33_0) ?_
  refine AL.cons rfl (AOp.loadPtr1 rfl rfl rfl rfl sh31 rfl) ?_
  refine AL.fact (lk_lenN 7 rfl rfl (GPackage.trs_len _)) (fun hl2 => ?_)
  refine AL.cons rfl (AOp.lenN rfl rfl rfl rfl el31 (GPackage.trs_len _)) ?_
  refine AL.cons rfl (AOp.lss rfl rfl rfl rfl) ?_
  refine AL.nil ?_
  refine AWP.cond rfl (fun h3 => ?_) (fun h3 => ?_)
  · skip
    have h3b := h3
    try simp only [decide_eq_true_eq, decide_eq_false_iff_not, Bool.not_eq_true', Bool.not_eq_false', Bool.not_eq_eq_eq_not, Bool.not_true, Bool.not_false, ge_iff_le, gt_iff_lt, Int.not_lt, Int.not_le] at h3b
    have h3n : i < w.gPackages.length := by omega
    refine AWP.skip ?_
    refine AWP.seq ?_
    refine AWP.block ?_
    refine AWP.seq ?_
    refine AWP.region_lit ?_
    refine AL.cons rfl (AOp.move (.inr rfl) rfl rfl) ?_
    refine AL.nil ?_
    refine AWP.block ?_
    refine AWP.loopJ (ι := Nat) (fun k => k ≤ (w.gPackages[i]).gTraits.length ∧ (w.gPackages[i]).gTraits.all (fun t => !decide (t.gName ∈ w.supers t.gName)) = ((w.gPackages[i]).gTraits.drop k).all (fun t => !decide (t.gName ∈ w.supers t.gName))) (fun k => ⟨[(0, (GProgram.pv w)), (1, .ptr 0 0), (3, .t (.leaf (.int .i64 (((i : Nat) : Int))))), (4, .t (.leaf (.int .i64 (((k : Nat) : Int)))))], ⟨[some ⟨33, [.t (.row 6 (GPackage.trs (w.gPackages)))]⟩], []⟩⟩) (fun k => (w.gPackages[i]).gTraits.length - k) 0 ?_ ?_ ?_
    · exact ⟨Nat.zero_le _, rfl⟩
    · skip
      exact Wk.mk (StLe.mk' ⟨⟨rfl, by (repeat' (first | exact PV.Le.refl _ | exact LeL.nil | exact PV.Le.nil _ | exact PV.Le.acc _ _ _ | apply LeL.cons | apply PV.Le.agg | apply PV.Le.tup)), rfl⟩, trivial⟩ rfl) (keeps_nil hC) ⟨⟨_, rfl, .refl _, rfl⟩, ⟨⟨_, rfl, .refl _, rfl⟩, ⟨⟨_, rfl, .refl _, rfl⟩, ⟨⟨_, rfl, by (repeat' (first | exact PV.Le.refl _ | exact LeL.nil | exact PV.Le.nil _ | exact PV.Le.acc _ _ _ | apply LeL.cons | apply PV.Le.agg | apply PV.Le.tup)), rfl⟩, trivial⟩⟩⟩⟩
    rintro k hJ4
    obtain ⟨hk1, hk2⟩ := hJ4
    refine AWP.seq ?_
    refine AWP.seq ?_
    refine AWP.region_lit ?_
    refine AL.cons rfl (AOp.move (.inl rfl) rfl rfl) ?_
    refine AL.cons rfl (AOp.fieldPtr (k := 0) (d := 0) (e := 0) rfl rfl rfl fo33_0) ?_
    refine AL.cons rfl (AOp.loadPtr1 rfl rfl rfl rfl sh31 rfl) ?_
    refine AL.cons rfl (AOp.move (.inl rfl) rfl rfl) ?_
    refine AL.cons rfl (AOp.index (k := i) rfl rfl rfl rfl rfl (GPackage.trs_cs h3n) el31) ?_
    refine AL.cons rfl (AOp.fieldEptr (cs := (GPackage.cs (w.gPackages[i]))) (e := 2) rfl rfl rfl fo63_2) ?_
    refine AL.cons rfl (AOp.loadEptr1 (d := .row 5 (GTrait.trs ((w.gPackages[i]).gTraits))) rfl rfl rfl sh58 rfl) ?_
    refine AL.fact (lk_lenN 18 rfl rfl (GTrait.trs_len _)) (fun hl5 => ?_)
    refine AL.cons rfl (AOp.lenN rfl rfl rfl rfl el58 (GTrait.trs_len _)) ?_
    refine AL.cons rfl (AOp.lss rfl rfl rfl rfl) ?_
    refine AL.nil ?_
    refine AWP.cond rfl (fun h6 => ?_) (fun h6 => ?_)
    · skip
      have h6b := h6
      try simp only [decide_eq_true_eq, decide_eq_false_iff_not, Bool.not_eq_true', Bool.not_eq_false', Bool.not_eq_eq_eq_not, Bool.not_true, Bool.not_false, ge_iff_le, gt_iff_lt, Int.not_lt, Int.not_le] at h6b
      have h6n : k < ((w.gPackages[i]).gTraits).length := by omega
      refine AWP.skip ?_
      refine AWP.seq ?_
      refine AWP.block ?_
      refine AWP.seq ?_
      refine AWP.drawnL ⟨_, _, fun _ _ => (⟨[some ⟨33, [.t (.row 6 (GPackage.trs (w.gPackages)))]⟩], []⟩ : Sto), fun q' => ([some ((GProgram.pv w)), some (.ptr 0 0), some (.t (.row 6 (GPackage.trs (w.gPackages)))), some (.t (.leaf (.int .i64 (((i : Nat) : Int))))), some (.eptr (GPackage.cs (w.gPackages[i]))), some (.eptr ((GPackage.cs (w.gPackages[i])).drop 2)), some (.t (.row 5 (GTrait.trs ((w.gPackages[i]).gTraits)))), some (.t (.leaf (.int .i64 (((k : Nat) : Int))))), some (.eptr (GTrait.cs (((w.gPackages[i]).gTraits)[k]))), some (.eptr (GTrait.cs (((w.gPackages[i]).gTraits)[k]))), some (.t (.leaf (.string ((((w.gPackages[i]).gTraits)[k]).gName)))), some (.t (.row 1 (strTrs (GProgram.supers w (((((w.gPackages[i]).gTraits)[k]).gName)))))), some (.ptr 0 0), some (.t (.row 6 (GPackage.trs (w.gPackages)))), some (.t (.leaf (.int .i64 (((i : Nat) : Int))))), some (.eptr (GPackage.cs (w.gPackages[i]))), some (.eptr ((GPackage.cs (w.gPackages[i])).drop 2)), some (.t (.row 5 (GTrait.trs ((w.gPackages[i]).gTraits)))), some (.t (.leaf (.int .i64 (((k : Nat) : Int))))), some (.eptr (GTrait.cs (((w.gPackages[i]).gTraits)[k]))), some (.eptr (GTrait.cs (((w.gPackages[i]).gTraits)[k]))), some (.t (.leaf (.string ((((w.gPackages[i]).gTraits)[k]).gName)))), some (.t (.leaf (.bool (decide (((((w.gPackages[i]).gTraits)[k]).gName) ∈ (GProgram.supers w (((((w.gPackages[i]).gTraits)[k]).gName))))))))] : List (Option PV)).getD q' none, fun q' => ([.q 0 0, .q 0 0, .q 0 0, .q 0 0, .q 0 0, .q 0 0, .q 0 0, .q 0 0, .q 0 0, .q 0 0, .q 0 0, .q 0 0, .q 0 0, .q 0 0, .q 0 0, .q 0 0, .q 0 0, .q 0 0, .q 0 0, .q 0 0, .q 0 0, .q 0 0, .q 0 0] : List DK).getD q' (.q 0 0), [], none, fun q' => ([[(1, none)], [(1, none)], [(24, some 1)], [(3, none)], [(25, some 2), (26, some 3)], [(27, some 4)], [(28, some 5)], [(4, none)], [(29, some 6), (30, some 7)], [(31, some 8)], [(32, some 9)], [(33, some 10), (23, some 0)], [(1, none)], [(35, some 12)], [(3, none)], [(36, some 13), (37, some 14)], [(38, some 15)], [(39, some 16)], [(4, none)], [(40, some 17), (41, some 18)], [(42, some 19)], [(43, some 20)], [(44, some 21), (34, some 11)]] : List (List (Nat × Option Nat))).getD q' []⟩ rfl mixed (by kernel_rfl) rfl rfl ⟨?_, ?_, ?_, ?_, ?_, ?_, ?_, ?_, ?_, ?_, ?_, ?_, ?_, ?_, ?_, ?_, ?_, ?_, ?_, ?_, ?_, ?_, ?_, trivial⟩ rfl ?_
      · refine .inl ⟨rfl, fun s' j b (h1 : 0 ≤ j) (h2 : j ≤ 0) hs hl => ?_⟩
        obtain rfl : j = 0 := by omega
        exact ⟨_, rfl, AOp.loadPtr (cs := [.t (.row 6 (GPackage.trs (w.gPackages)))]) rfl rfl (hl 1 none _ (.head _) rfl) (by rw [hs]; rfl) sh33 rfl rfl⟩
      · refine .inl ⟨rfl, fun s' j b (h1 : 0 ≤ j) (h2 : j ≤ 0) hs hl => ?_⟩
        obtain rfl : j = 0 := by omega
        exact ⟨_, rfl, AOp.fieldPtr (k := 0) (d := 0) (e := 0) rfl rfl (hl 1 none _ (.head _) rfl) fo33_0⟩
      · refine .inl ⟨rfl, fun s' j b (h1 : 0 ≤ j) (h2 : j ≤ 0) hs hl => ?_⟩
        obtain rfl : j = 0 := by omega
        exact ⟨_, rfl, AOp.loadPtr1 rfl rfl (hl 24 (some 1) _ (.head _) rfl) (by rw [hs]; rfl) sh31 rfl⟩
      · refine .inl ⟨rfl, fun s' j b (h1 : 0 ≤ j) (h2 : j ≤ 0) hs hl => ?_⟩
        obtain rfl : j = 0 := by omega
        exact ⟨_, rfl, AOp.move (.inl rfl) rfl (hl 3 none _ (.head _) rfl)⟩
      · refine .inl ⟨rfl, fun s' j b (h1 : 0 ≤ j) (h2 : j ≤ 0) hs hl => ?_⟩
        obtain rfl : j = 0 := by omega
        exact ⟨_, rfl, AOp.index (k := i) rfl rfl (hl 25 (some 2) _ (.head _) rfl) rfl (hl 26 (some 3) _ (.tail _ (.head _)) rfl) (GPackage.trs_cs h3n) el31⟩
      · refine .inl ⟨rfl, fun s' j b (h1 : 0 ≤ j) (h2 : j ≤ 0) hs hl => ?_⟩
        obtain rfl : j = 0 := by omega
        exact ⟨_, rfl, AOp.fieldEptr (cs := (GPackage.cs (w.gPackages[i]))) (e := 2) rfl rfl (hl 27 (some 4) _ (.head _) rfl) fo63_2⟩
      · refine .inl ⟨rfl, fun s' j b (h1 : 0 ≤ j) (h2 : j ≤ 0) hs hl => ?_⟩
        obtain rfl : j = 0 := by omega
        exact ⟨_, rfl, AOp.loadEptr1 (d := .row 5 (GTrait.trs ((w.gPackages[i]).gTraits))) rfl rfl (hl 28 (some 5) _ (.head _) rfl) sh58 rfl⟩
      · refine .inl ⟨rfl, fun s' j b (h1 : 0 ≤ j) (h2 : j ≤ 0) hs hl => ?_⟩
        obtain rfl : j = 0 := by omega
        exact ⟨_, rfl, AOp.move (.inl rfl) rfl (hl 4 none _ (.head _) rfl)⟩
      · refine .inl ⟨rfl, fun s' j b (h1 : 0 ≤ j) (h2 : j ≤ 0) hs hl => ?_⟩
        obtain rfl : j = 0 := by omega
        exact ⟨_, rfl, AOp.index (k := k) rfl rfl (hl 29 (some 6) _ (.head _) rfl) rfl (hl 30 (some 7) _ (.tail _ (.head _)) rfl) (GTrait.trs_cs h6n) el58⟩
      · refine .inl ⟨rfl, fun s' j b (h1 : 0 ≤ j) (h2 : j ≤ 0) hs hl => ?_⟩
        obtain rfl : j = 0 := by omega
        exact ⟨_, rfl, AOp.fieldEptr (cs := (GTrait.cs (((w.gPackages[i]).gTraits)[k]))) (e := 0) rfl rfl (hl 31 (some 8) _ (.head _) rfl) fo68_0⟩
      · refine .inl ⟨rfl, fun s' j b (h1 : 0 ≤ j) (h2 : j ≤ 0) hs hl => ?_⟩
        obtain rfl : j = 0 := by omega
        exact ⟨_, rfl, AOp.loadEptr1 (d := .leaf (.string ((((w.gPackages[i]).gTraits)[k]).gName))) rfl rfl (hl 32 (some 9) _ (.head _) rfl) sh9 rfl⟩
      · refine .inl ⟨rfl, fun s' j b (h1 : 0 ≤ j) (h2 : j ≤ 0) hs hl => ?_⟩
        obtain rfl : j = 0 := by omega
        exact ⟨_, rfl, AOp.callF (ps := [_, _]) rfl rfl Try.func26 (by kernel_rfl) rfl (evs_cons (hl 23 (some 0) _ (.tail _ (.head _)) rfl) (evs_cons (hl 33 (some 10) _ (.head _) rfl) rfl)) (by (repeat' (first | exact PV.Le.refl _ | exact LeL.nil | exact PV.Le.nil _ | exact PV.Le.acc _ _ _ | apply LeL.cons | apply PV.Le.agg | apply PV.Le.tup))) rfl rfl (allSup_spec w ((((w.gPackages[i]).gTraits)[k]).gName) (by assumption))⟩
      · refine .inl ⟨rfl, fun s' j b (h1 : 0 ≤ j) (h2 : j ≤ 0) hs hl => ?_⟩
        obtain rfl : j = 0 := by omega
        exact ⟨_, rfl, AOp.fieldPtr (k := 0) (d := 0) (e := 0) rfl rfl (hl 1 none _ (.head _) rfl) fo33_0⟩
      · refine .inl ⟨rfl, fun s' j b (h1 : 0 ≤ j) (h2 : j ≤ 0) hs hl => ?_⟩
        obtain rfl : j = 0 := by omega
        exact ⟨_, rfl, AOp.loadPtr1 rfl rfl (hl 35 (some 12) _ (.head _) rfl) (by rw [hs]; rfl) sh31 rfl⟩
      · refine .inl ⟨rfl, fun s' j b (h1 : 0 ≤ j) (h2 : j ≤ 0) hs hl => ?_⟩
        obtain rfl : j = 0 := by omega
        exact ⟨_, rfl, AOp.move (.inl rfl) rfl (hl 3 none _ (.head _) rfl)⟩
      · refine .inl ⟨rfl, fun s' j b (h1 : 0 ≤ j) (h2 : j ≤ 0) hs hl => ?_⟩
        obtain rfl : j = 0 := by omega
        exact ⟨_, rfl, AOp.index (k := i) rfl rfl (hl 36 (some 13) _ (.head _) rfl) rfl (hl 37 (some 14) _ (.tail _ (.head _)) rfl) (GPackage.trs_cs h3n) el31⟩
      · refine .inl ⟨rfl, fun s' j b (h1 : 0 ≤ j) (h2 : j ≤ 0) hs hl => ?_⟩
        obtain rfl : j = 0 := by omega
        exact ⟨_, rfl, AOp.fieldEptr (cs := (GPackage.cs (w.gPackages[i]))) (e := 2) rfl rfl (hl 38 (some 15) _ (.head _) rfl) fo63_2⟩
      · refine .inl ⟨rfl, fun s' j b (h1 : 0 ≤ j) (h2 : j ≤ 0) hs hl => ?_⟩
        obtain rfl : j = 0 := by omega
        exact ⟨_, rfl, AOp.loadEptr1 (d := .row 5 (GTrait.trs ((w.gPackages[i]).gTraits))) rfl rfl (hl 39 (some 16) _ (.head _) rfl) sh58 rfl⟩
      · refine .inl ⟨rfl, fun s' j b (h1 : 0 ≤ j) (h2 : j ≤ 0) hs hl => ?_⟩
        obtain rfl : j = 0 := by omega
        exact ⟨_, rfl, AOp.move (.inl rfl) rfl (hl 4 none _ (.head _) rfl)⟩
      · refine .inl ⟨rfl, fun s' j b (h1 : 0 ≤ j) (h2 : j ≤ 0) hs hl => ?_⟩
        obtain rfl : j = 0 := by omega
        exact ⟨_, rfl, AOp.index (k := k) rfl rfl (hl 40 (some 17) _ (.head _) rfl) rfl (hl 41 (some 18) _ (.tail _ (.head _)) rfl) (GTrait.trs_cs h6n) el58⟩
      · refine .inl ⟨rfl, fun s' j b (h1 : 0 ≤ j) (h2 : j ≤ 0) hs hl => ?_⟩
        obtain rfl : j = 0 := by omega
        exact ⟨_, rfl, AOp.fieldEptr (cs := (GTrait.cs (((w.gPackages[i]).gTraits)[k]))) (e := 0) rfl rfl (hl 42 (some 19) _ (.head _) rfl) fo68_0⟩
      · refine .inl ⟨rfl, fun s' j b (h1 : 0 ≤ j) (h2 : j ≤ 0) hs hl => ?_⟩
        obtain rfl : j = 0 := by omega
        exact ⟨_, rfl, AOp.loadEptr1 (d := .leaf (.string ((((w.gPackages[i]).gTraits)[k]).gName))) rfl rfl (hl 43 (some 20) _ (.head _) rfl) sh9 rfl⟩
      · refine .inl ⟨rfl, fun s' j b (h1 : 0 ≤ j) (h2 : j ≤ 0) hs hl => ?_⟩
        obtain rfl : j = 0 := by omega
        exact ⟨_, rfl, AOp.callF (ps := [_, _]) rfl rfl Try.func25 (by kernel_rfl) rfl (evs_cons (hl 34 (some 11) _ (.tail _ (.head _)) rfl) (evs_cons (hl 44 (some 21) _ (.head _) rfl) rfl)) (by (repeat' (first | exact PV.Le.refl _ | exact LeL.nil | exact PV.Le.nil _ | exact PV.Le.acc _ _ _ | apply LeL.cons | apply PV.Le.agg | apply PV.Le.tup))) rfl rfl (has_spec (GProgram.supers w (((((w.gPackages[i]).gTraits)[k]).gName))) ((((w.gPackages[i]).gTraits)[k]).gName))⟩
      refine AWP.cond rfl (fun h7 => ?_) (fun h7 => ?_)
      · skip
        have h7b := h7
        try simp only [decide_eq_true_eq, decide_eq_false_iff_not, Bool.not_eq_true', Bool.not_eq_false', Bool.not_eq_eq_eq_not, Bool.not_true, Bool.not_false, ge_iff_le, gt_iff_lt, Int.not_lt, Int.not_le] at h7b
        refine AWP.seq ?_
        refine AWP.region_lit ?_
        refine AL.cons rfl (AOp.move (.inr rfl) rfl rfl) ?_
        refine AL.nil ?_
        refine AWP.ret ?_
        exact Ends.mk (ps := [_]) (.inr rfl) ⟨rfl, trivial⟩ rfl (StLe.mk' (st' := ⟨[], []⟩) trivial rfl) (keeps_nil hC) (q := (.t (.leaf (.bool (false))) : PV)) (by (repeat' (first | exact PV.Le.refl _ | exact LeL.nil | exact PV.Le.nil _ | exact PV.Le.acc _ _ _ | apply LeL.cons | apply PV.Le.agg | apply PV.Le.tup))) rfl ⟨by rw [all_false (by omega) hi2 (all_false (by omega) hk2 (by simpa using ‹_›))], rfl⟩
      · skip
        have h7b := h7
        try simp only [decide_eq_true_eq, decide_eq_false_iff_not, Bool.not_eq_true', Bool.not_eq_false', Bool.not_eq_eq_eq_not, Bool.not_true, Bool.not_false, ge_iff_le, gt_iff_lt, Int.not_lt, Int.not_le] at h7b
        refine AWP.skip ?_
        refine AWP.region_lit ?_
        refine AL.cons rfl (AOp.move (.inl rfl) rfl rfl) ?_
        refine AL.cons rfl (AOp.addI rfl rfl rfl rfl (c := ((k + 1 : Nat) : Int)) (by omega) (by omega)) ?_
        refine AL.cons rfl (AOp.move (.inr rfl) rfl rfl) ?_
        refine AL.nil ?_
        refine ⟨k + 1, ?_, ?_, ?_⟩
        · exact ⟨by omega, all_next (by omega) hk2 (by simpa using ‹_›)⟩
        · skip
          exact Wk.mk (StLe.mk' ⟨⟨rfl, by (repeat' (first | exact PV.Le.refl _ | exact LeL.nil | exact PV.Le.nil _ | exact PV.Le.acc _ _ _ | apply LeL.cons | apply PV.Le.agg | apply PV.Le.tup)), rfl⟩, trivial⟩ rfl) (keeps_nil hC) ⟨⟨_, rfl, .refl _, rfl⟩, ⟨⟨_, rfl, .refl _, rfl⟩, ⟨⟨_, rfl, .refl _, rfl⟩, ⟨⟨_, rfl, by (repeat' (first | exact PV.Le.refl _ | exact LeL.nil | exact PV.Le.nil _ | exact PV.Le.acc _ _ _ | apply LeL.cons | apply PV.Le.agg | apply PV.Le.tup)), rfl⟩, trivial⟩⟩⟩⟩
        · omega
    · skip
      have h6b := h6
      try simp only [decide_eq_true_eq, decide_eq_false_iff_not, Bool.not_eq_true', Bool.not_eq_false', Bool.not_eq_eq_eq_not, Bool.not_true, Bool.not_false, ge_iff_le, gt_iff_lt, Int.not_lt, Int.not_le] at h6b
      have h6n : k ≥ ((w.gPackages[i]).gTraits).length := by omega
      refine AWP.exit ?_
      refine AWP.region_lit ?_
      refine AL.cons rfl (AOp.move (.inl rfl) rfl rfl) ?_
      refine AL.cons rfl (AOp.addI rfl rfl rfl rfl (c := ((i + 1 : Nat) : Int)) (by omega) (by omega)) ?_
      refine AL.cons rfl (AOp.move (.inr rfl) rfl rfl) ?_
      refine AL.nil ?_
      refine ⟨i + 1, ?_, ?_, ?_⟩
      · exact ⟨by omega, all_next (by omega) hi2 (all_end (by omega) hk2)⟩
      · skip
        exact Wk.mk (StLe.mk' ⟨⟨rfl, by (repeat' (first | exact PV.Le.refl _ | exact LeL.nil | exact PV.Le.nil _ | exact PV.Le.acc _ _ _ | apply LeL.cons | apply PV.Le.agg | apply PV.Le.tup)), rfl⟩, trivial⟩ rfl) (keeps_nil hC) ⟨⟨_, rfl, .refl _, rfl⟩, ⟨⟨_, rfl, .refl _, rfl⟩, ⟨⟨_, rfl, by (repeat' (first | exact PV.Le.refl _ | exact LeL.nil | exact PV.Le.nil _ | exact PV.Le.acc _ _ _ | apply LeL.cons | apply PV.Le.agg | apply PV.Le.tup)), rfl⟩, trivial⟩⟩⟩
      · omega
  · skip
    have h3b := h3
    try simp only [decide_eq_true_eq, decide_eq_false_iff_not, Bool.not_eq_true', Bool.not_eq_false', Bool.not_eq_eq_eq_not, Bool.not_true, Bool.not_false, ge_iff_le, gt_iff_lt, Int.not_lt, Int.not_le] at h3b
    have h3n : i ≥ w.gPackages.length := by omega
    refine AWP.exit ?_
    refine AWP.seq ?_
    refine AWP.region_lit ?_
    refine AL.cons rfl (AOp.move (.inr rfl) rfl rfl) ?_
    refine AL.nil ?_
    refine AWP.ret ?_
    exact Ends.mk (ps := [_]) (.inr rfl) ⟨rfl, trivial⟩ rfl (StLe.mk' (st' := ⟨[], []⟩) trivial rfl) (keeps_nil hC) (q := (.t (.leaf (.bool (true))) : PV)) (by (repeat' (first | exact PV.Le.refl _ | exact LeL.nil | exact PV.Le.nil _ | exact PV.Le.acc _ _ _ | apply LeL.cons | apply PV.Le.agg | apply PV.Le.tup))) rfl ⟨by rw [all_end (by omega) hi2], rfl⟩

end Go.Proofs.Ytnakkelglbcecaa
