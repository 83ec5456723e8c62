/- Words, rules and walks of several kinds, laid together: PmDraw, PmB, PlZ, PmFind, PmSup, PmStrs, PmFindT, PmSupL, PmSupW, PmR. No conditions but those that each theorem states. -/
import Derived.Test.YtoifjkggpanceaaQ2LSupers
import Derived.Test.YtoifjkggpanceaaQ1LSupers
set_option linter.unusedSimpArgs false
set_option linter.unusedVariables false
namespace Go.Proofs.Ytoifjkggpanceaa
open Go.RowKit Go.Proofs
set_option linter.unusedSimpArgs false
set_option linter.unusedVariables false

set_option maxRecDepth 100000 in
set_option maxHeartbeats 4000000 in
theorem byte_ok (d : DS) : ACalls Try.prog 203 [.ptr 0 0] (d.box 206) (fun r t => r = .t (.leaf (.int .i64 d.byte)) ∧ t = d.next.box 206) := by
  refine ACalls.intro Try.func203 rfl (by first | decide | (simp; done) | (simp; decide)) ?_
  intro C hC
  refine AWP.fact (box_lenN 0 0 rfl rfl rfl (byteTrs_len d.code)) (fun hl0 => ?_)
  refine AWP.seq ?_
  refine AWP.region_lit ?_
  refine AL.cons rfl (AOp.move (.inr rfl) rfl rfl) ?_
  refine AL.nil ?_
  refine AWP.seq ?_
  refine AWP.region_lit ?_
  refine AL.cons rfl (AOp.move (.inl rfl) rfl rfl) ?_
  refine AL.cons rfl (AOp.move (.inl rfl) rfl rfl) ?_
  refine AL.cons rfl (AOp.nilPtr rfl rfl rfl) ?_
  refine AL.cons rfl (AOp.fieldPtr (k := 0) (d := 0) (e := 2) rfl rfl rfl fo206_2) ?_
  refine AL.cons rfl (AOp.loadPtr1 rfl rfl rfl rfl sh3 rfl) ?_
  refine AL.cons rfl (AOp.mulW rfl rfl rfl rfl) ?_
  refine AL.cons rfl (AOp.addW rfl rfl rfl rfl) ?_
  refine AL.cons rfl (AOp.nilPtr rfl rfl rfl) ?_
  refine AL.cons rfl (AOp.fieldPtr (k := 0) (d := 0) (e := 2) rfl rfl rfl fo206_2) ?_
  refine AL.cons rfl (AOp.storePtr (cs := [.t (.leaf (.int .i64 (wrap64 ((wrap64 (d.h * 6364136223846793005)) + 1442695040888963407))))]) (ds := [.t (.row 1 (byteTrs (d.code))), .t (.leaf (.int .i64 (((d.p : Nat) : Int)))), .t (.leaf (.int .i64 (wrap64 ((wrap64 (d.h * 6364136223846793005)) + 1442695040888963407))))]) rfl rfl rfl rfl rfl rfl rfl sz3 (Nat.le_of_ble_eq_true rfl) rfl) ?_
  refine AL.nil ?_
  refine AWP.seq ?_
  refine AWP.drawnL ⟨_, _, fun _ _ => (⟨[some ⟨206, [.t (.row 1 (byteTrs (d.code))), .t (.leaf (.int .i64 (((d.p : Nat) : Int)))), .t (.leaf (.int .i64 (wrap64 ((wrap64 (d.h * 6364136223846793005)) + 1442695040888963407))))]⟩], []⟩ : Sto), fun q' => ([some (.ptr 0 0), some (.ptr 0 0), some (.ptr 0 2), some (.t (.leaf (.int .i64 (wrap64 ((wrap64 (d.h * 6364136223846793005)) + 1442695040888963407))))), some (.t (.leaf (.int .i64 (iShr (wrap64 ((wrap64 (d.h * 6364136223846793005)) + 1442695040888963407)) 33)))), some (.ptr 0 0), some (.ptr 0 0), some (.ptr 0 2), some (.t (.leaf (.int .i64 (wrap64 ((wrap64 (d.h * 6364136223846793005)) + 1442695040888963407))))), some (.t (.leaf (.int .i64 (iShr (wrap64 ((wrap64 (d.h * 6364136223846793005)) + 1442695040888963407)) 45)))), some (.t (.leaf (.int .i64 (iXor (iShr (wrap64 ((wrap64 (d.h * 6364136223846793005)) + 1442695040888963407)) 33) (iShr (wrap64 ((wrap64 (d.h * 6364136223846793005)) + 1442695040888963407)) 45))))), some (.t (.leaf (.int .i64 (iAnd (iXor (iShr (wrap64 ((wrap64 (d.h * 6364136223846793005)) + 1442695040888963407)) 33) (iShr (wrap64 ((wrap64 (d.h * 6364136223846793005)) + 1442695040888963407)) 45)) 255)))), some (.t (.leaf (.int .i64 (iAnd (iXor (iShr (wrap64 ((wrap64 (d.h * 6364136223846793005)) + 1442695040888963407)) 33) (iShr (wrap64 ((wrap64 (d.h * 6364136223846793005)) + 1442695040888963407)) 45)) 255))))] : List (Option PV)).getD q' none, fun q' => ([.q 0 0, .q 0 0, .q 0 0, .q 0 0, .q 0 0, .q 0 0, .q 0 0, .q 0 0, .q 0 0, .q 0 0, .q 0 0, .q 0 0, .q 0 0] : List DK).getD q' (.q 0 0), [], none, fun q' => ([[(0, none)], [(13, some 0)], [(14, some 1)], [(15, some 2)], [(16, some 3)], [(0, none)], [(18, some 5)], [(19, some 6)], [(20, some 7)], [(21, some 8)], [(17, some 4), (22, some 9)], [(23, some 10)], [(24, some 11)]] : List (List (Nat × Option Nat))).getD q' []⟩ rfl mixed (by kernel_rfl) rfl rfl ⟨?_, ?_, ?_, ?_, ?_, ?_, ?_, ?_, ?_, ?_, ?_, ?_, ?_, trivial⟩ rfl ?_
  · refine .inl ⟨rfl, fun s' jj bb (h1 : 0 ≤ jj) (h2 : jj ≤ 0) hs hl => ?_⟩
    obtain rfl : jj = 0 := by omega
    exact ⟨_, rfl, AOp.move (.inl rfl) rfl (hl 0 none _ (.head _) rfl)⟩
  · refine .inl ⟨rfl, fun s' jj bb (h1 : 0 ≤ jj) (h2 : jj ≤ 0) hs hl => ?_⟩
    obtain rfl : jj = 0 := by omega
    exact ⟨_, rfl, AOp.nilPtr rfl rfl (hl 13 (some 0) _ (.head _) rfl)⟩
  · refine .inl ⟨rfl, fun s' jj bb (h1 : 0 ≤ jj) (h2 : jj ≤ 0) hs hl => ?_⟩
    obtain rfl : jj = 0 := by omega
    exact ⟨_, rfl, AOp.fieldPtr (k := 0) (d := 0) (e := 2) rfl rfl (hl 14 (some 1) _ (.head _) rfl) fo206_2⟩
  · refine .inl ⟨rfl, fun s' jj bb (h1 : 0 ≤ jj) (h2 : jj ≤ 0) hs hl => ?_⟩
    obtain rfl : jj = 0 := by omega
    exact ⟨_, rfl, AOp.loadPtr1 rfl rfl (hl 15 (some 2) _ (.head _) rfl) (by rw [hs]; rfl) sh3 rfl⟩
  · refine .inl ⟨rfl, fun s' jj bb (h1 : 0 ≤ jj) (h2 : jj ≤ 0) hs hl => ?_⟩
    obtain rfl : jj = 0 := by omega
    exact ⟨_, rfl, AOp.shrI (a := wrap64 ((wrap64 (d.h * 6364136223846793005)) + 1442695040888963407)) (b := 33) rfl rfl (hl 16 (some 3) _ (.head _) rfl) rfl (by decide) (iShr_in (wrap64_in _)).1 (iShr_in (wrap64_in _)).2⟩
  · refine .inl ⟨rfl, fun s' jj bb (h1 : 0 ≤ jj) (h2 : jj ≤ 0) hs hl => ?_⟩
    obtain rfl : jj = 0 := by omega
    exact ⟨_, rfl, AOp.move (.inl rfl) rfl (hl 0 none _ (.head _) rfl)⟩
  · refine .inl ⟨rfl, fun s' jj bb (h1 : 0 ≤ jj) (h2 : jj ≤ 0) hs hl => ?_⟩
    obtain rfl : jj = 0 := by omega
    exact ⟨_, rfl, AOp.nilPtr rfl rfl (hl 18 (some 5) _ (.head _) rfl)⟩
  · refine .inl ⟨rfl, fun s' jj bb (h1 : 0 ≤ jj) (h2 : jj ≤ 0) hs hl => ?_⟩
    obtain rfl : jj = 0 := by omega
    exact ⟨_, rfl, AOp.fieldPtr (k := 0) (d := 0) (e := 2) rfl rfl (hl 19 (some 6) _ (.head _) rfl) fo206_2⟩
  · refine .inl ⟨rfl, fun s' jj bb (h1 : 0 ≤ jj) (h2 : jj ≤ 0) hs hl => ?_⟩
    obtain rfl : jj = 0 := by omega
    exact ⟨_, rfl, AOp.loadPtr1 rfl rfl (hl 20 (some 7) _ (.head _) rfl) (by rw [hs]; rfl) sh3 rfl⟩
  · refine .inl ⟨rfl, fun s' jj bb (h1 : 0 ≤ jj) (h2 : jj ≤ 0) hs hl => ?_⟩
    obtain rfl : jj = 0 := by omega
    exact ⟨_, rfl, AOp.shrI (a := wrap64 ((wrap64 (d.h * 6364136223846793005)) + 1442695040888963407)) (b := 45) rfl rfl (hl 21 (some 8) _ (.head _) rfl) rfl (by decide) (iShr_in (wrap64_in _)).1 (iShr_in (wrap64_in _)).2⟩
  · refine .inl ⟨rfl, fun s' jj bb (h1 : 0 ≤ jj) (h2 : jj ≤ 0) hs hl => ?_⟩
    obtain rfl : jj = 0 := by omega
    exact ⟨_, rfl, AOp.xorI rfl rfl (hl 17 (some 4) _ (.head _) rfl) (hl 22 (some 9) _ (.tail _ (.head _)) rfl)⟩
  · refine .inl ⟨rfl, fun s' jj bb (h1 : 0 ≤ jj) (h2 : jj ≤ 0) hs hl => ?_⟩
    obtain rfl : jj = 0 := by omega
    exact ⟨_, rfl, AOp.andI rfl rfl (hl 23 (some 10) _ (.head _) rfl) rfl⟩
  · refine .inl ⟨rfl, fun s' jj bb (h1 : 0 ≤ jj) (h2 : jj ≤ 0) hs hl => ?_⟩
    obtain rfl : jj = 0 := by omega
    exact ⟨_, rfl, AOp.move (.inr rfl) rfl (hl 24 (some 11) _ (.head _) rfl)⟩
  refine AWP.seq ?_
  refine AWP.seq ?_
  refine AWP.drawnL ⟨_, _, fun _ _ => (⟨[some ⟨206, [.t (.row 1 (byteTrs (d.code))), .t (.leaf (.int .i64 (((d.p : Nat) : Int)))), .t (.leaf (.int .i64 (wrap64 ((wrap64 (d.h * 6364136223846793005)) + 1442695040888963407))))]⟩], []⟩ : Sto), fun q' => ([some (.ptr 0 0), some (.ptr 0 0), some (.ptr 0 1), some (.t (.leaf (.int .i64 (((d.p : Nat) : Int))))), some (.ptr 0 0), some (.ptr 0 0), some (.ptr 0 0), some (.t (.row 1 (byteTrs (d.code)))), some (.t (.leaf (.int .i64 (((d.code.length : Nat) : Int))))), some (.t (.leaf (.bool (decide ((((d.p : Nat) : Int) : Int) < ((d.code.length : Nat) : Int))))))] : List (Option PV)).getD q' none, fun q' => ([.q 0 0, .q 0 0, .q 0 0, .q 0 0, .q 0 0, .q 0 0, .q 0 0, .q 0 0, .q 0 0, .q 0 0] : List DK).getD q' (.q 0 0), [], none, fun q' => ([[(0, none)], [(25, some 0)], [(26, some 1)], [(27, some 2)], [(0, none)], [(29, some 4)], [(30, some 5)], [(31, some 6)], [(32, some 7)], [(28, some 3), (33, some 8)]] : List (List (Nat × Option Nat))).getD q' []⟩ rfl mixed (by kernel_rfl) rfl rfl ⟨?_, ?_, ?_, ?_, ?_, ?_, ?_, ?_, ?_, ?_, trivial⟩ rfl ?_
  · refine .inl ⟨rfl, fun s' jj bb (h1 : 0 ≤ jj) (h2 : jj ≤ 0) hs hl => ?_⟩
    obtain rfl : jj = 0 := by omega
    exact ⟨_, rfl, AOp.move (.inl rfl) rfl (hl 0 none _ (.head _) rfl)⟩
  · refine .inl ⟨rfl, fun s' jj bb (h1 : 0 ≤ jj) (h2 : jj ≤ 0) hs hl => ?_⟩
    obtain rfl : jj = 0 := by omega
    exact ⟨_, rfl, AOp.nilPtr rfl rfl (hl 25 (some 0) _ (.head _) rfl)⟩
  · refine .inl ⟨rfl, fun s' jj bb (h1 : 0 ≤ jj) (h2 : jj ≤ 0) hs hl => ?_⟩
    obtain rfl : jj = 0 := by omega
    exact ⟨_, rfl, AOp.fieldPtr (k := 0) (d := 0) (e := 1) rfl rfl (hl 26 (some 1) _ (.head _) rfl) fo206_1⟩
  · refine .inl ⟨rfl, fun s' jj bb (h1 : 0 ≤ jj) (h2 : jj ≤ 0) hs hl => ?_⟩
    obtain rfl : jj = 0 := by omega
    exact ⟨_, rfl, AOp.loadPtr1 rfl rfl (hl 27 (some 2) _ (.head _) rfl) (by rw [hs]; rfl) sh3 rfl⟩
  · refine .inl ⟨rfl, fun s' jj bb (h1 : 0 ≤ jj) (h2 : jj ≤ 0) hs hl => ?_⟩
    obtain rfl : jj = 0 := by omega
    exact ⟨_, rfl, AOp.move (.inl rfl) rfl (hl 0 none _ (.head _) rfl)⟩
  · refine .inl ⟨rfl, fun s' jj bb (h1 : 0 ≤ jj) (h2 : jj ≤ 0) hs hl => ?_⟩
    obtain rfl : jj = 0 := by omega
    exact ⟨_, rfl, AOp.nilPtr rfl rfl (hl 29 (some 4) _ (.head _) rfl)⟩
  · refine .inl ⟨rfl, fun s' jj bb (h1 : 0 ≤ jj) (h2 : jj ≤ 0) hs hl => ?_⟩
    obtain rfl : jj = 0 := by omega
    exact ⟨_, rfl, AOp.fieldPtr (k := 0) (d := 0) (e := 0) rfl rfl (hl 30 (some 5) _ (.head _) rfl) fo206_0⟩
  · refine .inl ⟨rfl, fun s' jj bb (h1 : 0 ≤ jj) (h2 : jj ≤ 0) hs hl => ?_⟩
    obtain rfl : jj = 0 := by omega
    exact ⟨_, rfl, AOp.loadPtr1 rfl rfl (hl 31 (some 6) _ (.head _) rfl) (by rw [hs]; rfl) sh59 rfl⟩
  · refine .inl ⟨rfl, fun s' jj bb (h1 : 0 ≤ jj) (h2 : jj ≤ 0) hs hl => ?_⟩
    obtain rfl : jj = 0 := by omega
    exact ⟨_, rfl, AOp.lenN rfl rfl (hl 32 (some 7) _ (.head _) rfl) rfl el59 (byteTrs_len _)⟩
  · refine .inl ⟨rfl, fun s' jj bb (h1 : 0 ≤ jj) (h2 : jj ≤ 0) hs hl => ?_⟩
    obtain rfl : jj = 0 := by omega
    exact ⟨_, rfl, AOp.lss rfl rfl (hl 28 (some 3) _ (.head _) rfl) (hl 33 (some 8) _ (.tail _ (.head _)) rfl)⟩
  refine AWP.cond rfl (fun h1 => ?_) (fun h1 => ?_)
  · skip
    have h1b := h1
    try simp only [Bool.and_eq_true, Bool.or_eq_true, Bool.and_eq_false_iff, Bool.or_eq_false_iff, decide_eq_true_eq, decide_eq_false_iff_not, Bool.not_eq_true', Bool.not_eq_false', Bool.not_eq_eq_eq_not, Bool.not_true, Bool.not_false, ge_iff_le, gt_iff_lt, Int.not_lt, Int.not_le] at h1b
    have h1n : d.p < d.code.length := by omega
    refine AWP.seq ?_
    refine AWP.drawnL ⟨_, _, fun _ _ => (⟨[some ⟨206, [.t (.row 1 (byteTrs (d.code))), .t (.leaf (.int .i64 (((d.p : Nat) : Int)))), .t (.leaf (.int .i64 (wrap64 ((wrap64 (d.h * 6364136223846793005)) + 1442695040888963407))))]⟩], []⟩ : Sto), fun q' => ([some (.t (.leaf (.int .i64 (iAnd (iXor (iShr (wrap64 ((wrap64 (d.h * 6364136223846793005)) + 1442695040888963407)) 33) (iShr (wrap64 ((wrap64 (d.h * 6364136223846793005)) + 1442695040888963407)) 45)) 255)))), some (.ptr 0 0), some (.ptr 0 0), some (.ptr 0 0), some (.t (.row 1 (byteTrs (d.code)))), some (.ptr 0 0), some (.ptr 0 0), some (.ptr 0 1), some (.t (.leaf (.int .i64 (((d.p : Nat) : Int))))), some (.eptr ([.leaf (.int .u8 ((d.code[d.p]).toNat : Int))])), some (.t (.leaf (.int .u8 (((d.code[d.p]).toNat : Int))))), some (.t (.leaf (.int .i64 (((d.code[d.p]).toNat : Int))))), some (.t (.leaf (.int .i64 (wrap64 ((iAnd (iXor (iShr (wrap64 ((wrap64 (d.h * 6364136223846793005)) + 1442695040888963407)) 33) (iShr (wrap64 ((wrap64 (d.h * 6364136223846793005)) + 1442695040888963407)) 45)) 255) + ((d.code[d.p]).toNat : Int)))))), some (.t (.leaf (.int .i64 (iAnd (wrap64 ((iAnd (iXor (iShr (wrap64 ((wrap64 (d.h * 6364136223846793005)) + 1442695040888963407)) 33) (iShr (wrap64 ((wrap64 (d.h * 6364136223846793005)) + 1442695040888963407)) 45)) 255) + ((d.code[d.p]).toNat : Int))) 255)))), some (.t (.leaf (.int .i64 (iAnd (wrap64 ((iAnd (iXor (iShr (wrap64 ((wrap64 (d.h * 6364136223846793005)) + 1442695040888963407)) 33) (iShr (wrap64 ((wrap64 (d.h * 6364136223846793005)) + 1442695040888963407)) 45)) 255) + ((d.code[d.p]).toNat : Int))) 255))))] : List (Option PV)).getD q' none, fun q' => ([.q 0 0, .q 0 0, .q 0 0, .q 0 0, .q 0 0, .q 0 0, .q 0 0, .q 0 0, .q 0 0, .q 0 0, .q 0 0, .q 0 0, .q 0 0, .q 0 0, .q 0 0] : List DK).getD q' (.q 0 0), [], none, fun q' => ([[(3, none)], [(0, none)], [(36, some 1)], [(37, some 2)], [(38, some 3)], [(0, none)], [(40, some 5)], [(41, some 6)], [(42, some 7)], [(39, some 4), (43, some 8)], [(44, some 9)], [(45, some 10)], [(35, some 0), (46, some 11)], [(47, some 12)], [(48, some 13)]] : List (List (Nat × Option Nat))).getD q' []⟩ rfl mixed (by kernel_rfl) rfl rfl ⟨?_, ?_, ?_, ?_, ?_, ?_, ?_, ?_, ?_, ?_, ?_, ?_, ?_, ?_, ?_, trivial⟩ rfl ?_
    · refine .inl ⟨rfl, fun s' jj bb (h1 : 0 ≤ jj) (h2 : jj ≤ 0) hs hl => ?_⟩
      obtain rfl : jj = 0 := by omega
      exact ⟨_, rfl, AOp.move (.inl rfl) rfl (hl 3 none _ (.head _) rfl)⟩
    · refine .inl ⟨rfl, fun s' jj bb (h1 : 0 ≤ jj) (h2 : jj ≤ 0) hs hl => ?_⟩
      obtain rfl : jj = 0 := by omega
      exact ⟨_, rfl, AOp.move (.inl rfl) rfl (hl 0 none _ (.head _) rfl)⟩
    · refine .inl ⟨rfl, fun s' jj bb (h1 : 0 ≤ jj) (h2 : jj ≤ 0) hs hl => ?_⟩
      obtain rfl : jj = 0 := by omega
      exact ⟨_, rfl, AOp.nilPtr rfl rfl (hl 36 (some 1) _ (.head _) rfl)⟩
    · refine .inl ⟨rfl, fun s' jj bb (h1 : 0 ≤ jj) (h2 : jj ≤ 0) hs hl => ?_⟩
      obtain rfl : jj = 0 := by omega
      exact ⟨_, rfl, AOp.fieldPtr (k := 0) (d := 0) (e := 0) rfl rfl (hl 37 (some 2) _ (.head _) rfl) fo206_0⟩
    · refine .inl ⟨rfl, fun s' jj bb (h1 : 0 ≤ jj) (h2 : jj ≤ 0) hs hl => ?_⟩
      obtain rfl : jj = 0 := by omega
      exact ⟨_, rfl, AOp.loadPtr1 rfl rfl (hl 38 (some 3) _ (.head _) rfl) (by rw [hs]; rfl) sh59 rfl⟩
    · refine .inl ⟨rfl, fun s' jj bb (h1 : 0 ≤ jj) (h2 : jj ≤ 0) hs hl => ?_⟩
      obtain rfl : jj = 0 := by omega
      exact ⟨_, rfl, AOp.move (.inl rfl) rfl (hl 0 none _ (.head _) rfl)⟩
    · refine .inl ⟨rfl, fun s' jj bb (h1 : 0 ≤ jj) (h2 : jj ≤ 0) hs hl => ?_⟩
      obtain rfl : jj = 0 := by omega
      exact ⟨_, rfl, AOp.nilPtr rfl rfl (hl 40 (some 5) _ (.head _) rfl)⟩
    · refine .inl ⟨rfl, fun s' jj bb (h1 : 0 ≤ jj) (h2 : jj ≤ 0) hs hl => ?_⟩
      obtain rfl : jj = 0 := by omega
      exact ⟨_, rfl, AOp.fieldPtr (k := 0) (d := 0) (e := 1) rfl rfl (hl 41 (some 6) _ (.head _) rfl) fo206_1⟩
    · refine .inl ⟨rfl, fun s' jj bb (h1 : 0 ≤ jj) (h2 : jj ≤ 0) hs hl => ?_⟩
      obtain rfl : jj = 0 := by omega
      exact ⟨_, rfl, AOp.loadPtr1 rfl rfl (hl 42 (some 7) _ (.head _) rfl) (by rw [hs]; rfl) sh3 rfl⟩
    · refine .inl ⟨rfl, fun s' jj bb (h1 : 0 ≤ jj) (h2 : jj ≤ 0) hs hl => ?_⟩
      obtain rfl : jj = 0 := by omega
      exact ⟨_, rfl, AOp.index (k := d.p) rfl rfl (hl 39 (some 4) _ (.head _) rfl) rfl (hl 43 (some 8) _ (.tail _ (.head _)) rfl) (byteTrs_cs h1n) el59⟩
    · refine .inl ⟨rfl, fun s' jj bb (h1 : 0 ≤ jj) (h2 : jj ≤ 0) hs hl => ?_⟩
      obtain rfl : jj = 0 := by omega
      exact ⟨_, rfl, AOp.loadEptr1 (d := .leaf (.int .u8 (((d.code[d.p]).toNat : Int)))) rfl rfl (hl 44 (some 9) _ (.head _) rfl) sh5 rfl⟩
    · refine .inl ⟨rfl, fun s' jj bb (h1 : 0 ≤ jj) (h2 : jj ≤ 0) hs hl => ?_⟩
      obtain rfl : jj = 0 := by omega
      exact ⟨_, rfl, AOp.convI rfl rfl (hl 45 (some 10) _ (.head _) rfl) ⟨_, Try.underlying5⟩ Try.underlying3 (by first | omega | (have := UInt8.toNat_lt (d.code[d.p]); omega)) (by first | omega | (have := UInt8.toNat_lt (d.code[d.p]); omega))⟩
    · refine .inl ⟨rfl, fun s' jj bb (h1 : 0 ≤ jj) (h2 : jj ≤ 0) hs hl => ?_⟩
      obtain rfl : jj = 0 := by omega
      exact ⟨_, rfl, AOp.addW rfl rfl (hl 35 (some 0) _ (.head _) rfl) (hl 46 (some 11) _ (.tail _ (.head _)) rfl)⟩
    · refine .inl ⟨rfl, fun s' jj bb (h1 : 0 ≤ jj) (h2 : jj ≤ 0) hs hl => ?_⟩
      obtain rfl : jj = 0 := by omega
      exact ⟨_, rfl, AOp.andI rfl rfl (hl 47 (some 12) _ (.head _) rfl) rfl⟩
    · refine .inl ⟨rfl, fun s' jj bb (h1 : 0 ≤ jj) (h2 : jj ≤ 0) hs hl => ?_⟩
      obtain rfl : jj = 0 := by omega
      exact ⟨_, rfl, AOp.move (.inr rfl) rfl (hl 48 (some 13) _ (.head _) rfl)⟩
    refine AWP.region_lit ?_
    refine AL.cons rfl (AOp.move (.inl rfl) rfl rfl) ?_
    refine AL.cons rfl (AOp.move (.inl rfl) rfl rfl) ?_
    refine AL.cons rfl (AOp.nilPtr rfl rfl rfl) ?_
    refine AL.cons rfl (AOp.fieldPtr (k := 0) (d := 0) (e := 1) rfl rfl rfl fo206_1) ?_
    refine AL.cons rfl (AOp.loadPtr1 rfl rfl rfl rfl sh3 rfl) ?_
    refine AL.cons rfl (AOp.addI rfl rfl rfl rfl (c := ((d.p + 1 : Nat) : Int)) (by omega) (by omega)) ?_
    refine AL.cons rfl (AOp.nilPtr rfl rfl rfl) ?_
    refine AL.cons rfl (AOp.fieldPtr (k := 0) (d := 0) (e := 1) rfl rfl rfl fo206_1) ?_
    refine AL.cons rfl (AOp.storePtr (cs := [.t (.leaf (.int .i64 (((d.p + 1 : Nat) : Int))))]) (ds := [.t (.row 1 (byteTrs (d.code))), .t (.leaf (.int .i64 (((d.p + 1 : Nat) : Int)))), .t (.leaf (.int .i64 (wrap64 ((wrap64 (d.h * 6364136223846793005)) + 1442695040888963407))))]) rfl rfl rfl rfl rfl rfl rfl sz3 (Nat.le_of_ble_eq_true rfl) rfl) ?_
    refine AL.nil ?_
    refine AWP.seq ?_
    refine AWP.region_lit ?_
    refine AL.cons rfl (AOp.move (.inl rfl) rfl rfl) ?_
    refine AL.cons rfl (AOp.move (.inr rfl) rfl rfl) ?_
    refine AL.nil ?_
    refine AWP.ret ?_
    exact Ends.mk (ps := [_]) (.inr rfl) ⟨rfl, trivial⟩ rfl (StLe.mk' (st' := ⟨[some ⟨206, [.t (.row 1 (byteTrs (d.code))), .t (.leaf (.int .i64 (((d.p + 1 : Nat) : Int)))), .t (.leaf (.int .i64 (wrap64 ((wrap64 (d.h * 6364136223846793005)) + 1442695040888963407))))]⟩], []⟩) ⟨⟨rfl, by (repeat' (first | exact PV.Le.refl _ | exact LeL.nil | exact PV.Le.nil _ | exact PV.Le.acc _ _ _ | apply LeL.cons | apply PV.Le.agg | apply PV.Le.tup)), rfl⟩, trivial⟩ rfl) (keeps_box hC ⟨_, rfl⟩) (q := .t (.leaf (.int .i64 (iAnd (wrap64 ((iAnd (iXor (iShr (wrap64 ((wrap64 (d.h * 6364136223846793005)) + 1442695040888963407)) 33) (iShr (wrap64 ((wrap64 (d.h * 6364136223846793005)) + 1442695040888963407)) 45)) 255) + ((d.code[d.p]).toNat : Int))) 255)))) (.refl _) rfl ⟨by first | (simp_all [DS.byte, nextH]; done) | (have hq : ¬ d.p < d.code.length := (by omega); simp [DS.byte, nextH, hq]), by first | (simp_all [DS.box, DS.cells, DS.next, nextH]; done) | (have hq : ¬ d.p < d.code.length := (by omega); simp [DS.box, DS.cells, DS.next, nextH, hq])⟩
  · skip
    have h1b := h1
    try simp only [Bool.and_eq_true, Bool.or_eq_true, Bool.and_eq_false_iff, Bool.or_eq_false_iff, decide_eq_true_eq, decide_eq_false_iff_not, Bool.not_eq_true', Bool.not_eq_false', Bool.not_eq_eq_eq_not, Bool.not_true, Bool.not_false, ge_iff_le, gt_iff_lt, Int.not_lt, Int.not_le] at h1b
    have h1n : d.p ≥ d.code.length := by omega
    refine AWP.skip ?_
    refine AWP.seq ?_
    refine AWP.region_lit ?_
    refine AL.cons rfl (AOp.move (.inl rfl) rfl rfl) ?_
    refine AL.cons rfl (AOp.move (.inr rfl) rfl rfl) ?_
    refine AL.nil ?_
    refine AWP.ret ?_
    exact Ends.mk (ps := [_]) (.inr rfl) ⟨rfl, trivial⟩ rfl (StLe.mk' (st' := ⟨[some ⟨206, [.t (.row 1 (byteTrs (d.code))), .t (.leaf (.int .i64 (((d.p : Nat) : Int)))), .t (.leaf (.int .i64 (wrap64 ((wrap64 (d.h * 6364136223846793005)) + 1442695040888963407))))]⟩], []⟩) ⟨⟨rfl, by (repeat' (first | exact PV.Le.refl _ | exact LeL.nil | exact PV.Le.nil _ | exact PV.Le.acc _ _ _ | apply LeL.cons | apply PV.Le.agg | apply PV.Le.tup)), rfl⟩, trivial⟩ rfl) (keeps_box hC ⟨_, rfl⟩) (q := .t (.leaf (.int .i64 (iAnd (iXor (iShr (wrap64 ((wrap64 (d.h * 6364136223846793005)) + 1442695040888963407)) 33) (iShr (wrap64 ((wrap64 (d.h * 6364136223846793005)) + 1442695040888963407)) 45)) 255)))) (.refl _) rfl ⟨by first | (simp_all [DS.byte, nextH]; done) | (have hq : ¬ d.p < d.code.length := (by omega); simp [DS.byte, nextH, hq]), by first | (simp_all [DS.box, DS.cells, DS.next, nextH]; done) | (have hq : ¬ d.p < d.code.length := (by omega); simp [DS.box, DS.cells, DS.next, nextH, hq])⟩

theorem byteN_ok (d : DS) : ACalls Try.prog 203 [.ptr 0 0] (d.box 206) (fun r t => r = .t (.leaf (.int .i64 ((d.byteN : Nat) : Int))) ∧ t = d.next.box 206) := by rw [d.byteN_eq]; exact byte_ok d
set_option maxRecDepth 100000 in
set_option maxHeartbeats 4000000 in
theorem below_ok (d : DS) (n : Nat)  : ACalls Try.prog 165 [.ptr 0 0, .t (.leaf (.int .i64 (((n : Nat) : Int))))] (d.box 206) (fun r t => r = .t (.leaf (.int .i64 (((d.below n : Nat) : Int)))) ∧ t = (d.after n).box 206) := by
  refine ACalls.intro Try.func165 rfl (by first | decide | (simp; done) | (simp; decide)) ?_
  intro C hC
  refine AWP.fact (box_lenN 0 0 rfl rfl rfl (byteTrs_len d.code)) (fun hl0 => ?_)
  have hb0 := d.byteN_le
  have hb1 := d.next.byteN_le
  have hb2 := d.next.next.byteN_le
  have hb3 := d.next.next.next.byteN_le
  refine AWP.seq ?_
  refine AWP.region_lit ?_
  refine AL.cons rfl (AOp.move (.inr rfl) rfl rfl) ?_
  refine AL.nil ?_
  refine AWP.seq ?_
  refine AWP.seq ?_
  refine AWP.region_lit ?_
  refine AL.cons rfl (AOp.move (.inl rfl) rfl rfl) ?_
  refine AL.cons rfl (AOp.leq rfl rfl rfl rfl) ?_
  refine AL.nil ?_
  refine AWP.cond rfl (fun h1 => ?_) (fun h1 => ?_)
  · skip
    have h1b := h1
    try simp only [Bool.and_eq_true, Bool.or_eq_true, Bool.and_eq_false_iff, Bool.or_eq_false_iff, decide_eq_true_eq, decide_eq_false_iff_not, Bool.not_eq_true', Bool.not_eq_false', Bool.not_eq_eq_eq_not, Bool.not_true, Bool.not_false, ge_iff_le, gt_iff_lt, Int.not_lt, Int.not_le] at h1b
    refine AWP.seq ?_
    refine AWP.region_lit ?_
    refine AL.cons rfl (AOp.move (.inr rfl) rfl rfl) ?_
    refine AL.nil ?_
    refine AWP.ret ?_
    exact Ends.mk (ps := [_]) (.inr rfl) ⟨rfl, trivial⟩ rfl (StLe.mk' (st' := ⟨[some ⟨206, [.t (.row 1 (byteTrs (d.code))), .t (.leaf (.int .i64 (((d.p : Nat) : Int)))), .t (.leaf (.int .i64 (d.h)))]⟩], []⟩) ⟨⟨rfl, by (repeat' (first | exact PV.Le.refl _ | exact LeL.nil | exact PV.Le.nil _ | exact PV.Le.acc _ _ _ | apply LeL.cons | apply PV.Le.agg | apply PV.Le.tup)), rfl⟩, trivial⟩ rfl) (keeps_box hC ⟨_, rfl⟩) (q := .t (.leaf (.int .i64 (0)))) (by (repeat' (first | exact PV.Le.refl _ | exact LeL.nil | exact PV.Le.nil _ | exact PV.Le.acc _ _ _ | apply LeL.cons | apply PV.Le.agg | apply PV.Le.tup))) rfl ⟨by first | (have hq : n = 0 := (by omega); simp [DS.below, hq]; done) | (have hq : ¬ n = 0 := (by omega); have hr : n ≤ 256 := (by omega); simp [DS.below, hq, hr]; done) | (have hq : ¬ n = 0 := (by omega); have hr : ¬ n ≤ 256 := (by omega); simp [DS.below, hq, hr]), by first | (have hq : n = 0 := (by omega); simp [DS.after, DS.box, DS.cells, hq]; done) | (have hq : ¬ n = 0 := (by omega); have hr : n ≤ 256 := (by omega); simp [DS.after, DS.box, DS.cells, hq, hr]; done) | (have hq : ¬ n = 0 := (by omega); have hr : ¬ n ≤ 256 := (by omega); simp [DS.after, DS.box, DS.cells, hq, hr])⟩
  · skip
    have h1b := h1
    try simp only [Bool.and_eq_true, Bool.or_eq_true, Bool.and_eq_false_iff, Bool.or_eq_false_iff, decide_eq_true_eq, decide_eq_false_iff_not, Bool.not_eq_true', Bool.not_eq_false', Bool.not_eq_eq_eq_not, Bool.not_true, Bool.not_false, ge_iff_le, gt_iff_lt, Int.not_lt, Int.not_le] at h1b
    refine AWP.skip ?_
    refine AWP.seq ?_
    refine AWP.seq ?_
    refine AWP.region_lit ?_
    refine AL.cons rfl (AOp.move (.inl rfl) rfl rfl) ?_
    refine AL.cons rfl (AOp.leq rfl rfl rfl rfl) ?_
    refine AL.nil ?_
    refine AWP.cond rfl (fun h2 => ?_) (fun h2 => ?_)
    · skip
      have h2b := h2
      try simp only [Bool.and_eq_true, Bool.or_eq_true, Bool.and_eq_false_iff, Bool.or_eq_false_iff, decide_eq_true_eq, decide_eq_false_iff_not, Bool.not_eq_true', Bool.not_eq_false', Bool.not_eq_eq_eq_not, Bool.not_true, Bool.not_false, ge_iff_le, gt_iff_lt, Int.not_lt, Int.not_le] at h2b
      refine AWP.seq ?_
      refine AWP.region_lit ?_
      refine AL.cons rfl (AOp.move (.inl rfl) rfl rfl) ?_
      refine AL.cons rfl (AOp.callPE (pre := ⟨[some ⟨206, [.t (.row 1 (byteTrs (d.code))), .t (.leaf (.int .i64 (((d.p : Nat) : Int)))), .t (.leaf (.int .i64 (d.h)))]⟩], []⟩) (st' := ⟨[some ⟨206, [.t (.row 1 (byteTrs (d.next.code))), .t (.leaf (.int .i64 (((d.next.p : Nat) : Int)))), .t (.leaf (.int .i64 (d.next.h)))]⟩], []⟩) (ps := [_]) (qs := [.ptr 0 0]) [0] [] rfl rfl Try.func203 (by kernel_rfl) rfl rfl rfl (by (try rw [hs]); exact ⟨rfl, rfl, by decide, by decide, fun k h => by rcases k with _ | k <;> simp at h; exact ⟨_, rfl⟩, fun k x h => by rcases k with _ | k <;> simp at h; subst h; exact ⟨_, rfl, rfl, by (repeat' (first | exact PV.Le.refl _ | exact LeL.nil | exact PV.Le.nil _ | exact PV.Le.acc _ _ _ | apply LeL.cons | apply PV.Le.agg | apply PV.Le.tup)), rfl⟩, fun r row h => by simp at h⟩) (by (repeat' (first | exact PV.Le.refl _ | exact LeL.nil | exact PV.Le.nil _ | exact PV.Le.acc _ _ _ | apply LeL.cons | apply PV.Le.agg | apply PV.Le.tup))) rfl rfl rfl (byteN_ok d )) ?_
      refine AL.cons rfl (AOp.move (.inl rfl) rfl rfl) ?_
      refine AL.cons rfl (AOp.remN (a := d.byteN) (b := n) rfl rfl rfl rfl (by omega) (by omega)) ?_
      refine AL.cons rfl (AOp.move (.inr rfl) rfl rfl) ?_
      refine AL.nil ?_
      refine AWP.ret ?_
      exact Ends.mk (ps := [_]) (.inr rfl) ⟨rfl, trivial⟩ rfl (StLe.mk' (st' := ⟨[some ⟨206, [.t (.row 1 (byteTrs (d.next.code))), .t (.leaf (.int .i64 (((d.next.p : Nat) : Int)))), .t (.leaf (.int .i64 (d.next.h)))]⟩], []⟩) ⟨⟨rfl, by (repeat' (first | exact PV.Le.refl _ | exact LeL.nil | exact PV.Le.nil _ | exact PV.Le.acc _ _ _ | apply LeL.cons | apply PV.Le.agg | apply PV.Le.tup)), rfl⟩, trivial⟩ rfl) (keeps_box hC ⟨_, rfl⟩) (q := .t (.leaf (.int .i64 (((d.byteN % n : Nat) : Int))))) (by (repeat' (first | exact PV.Le.refl _ | exact LeL.nil | exact PV.Le.nil _ | exact PV.Le.acc _ _ _ | apply LeL.cons | apply PV.Le.agg | apply PV.Le.tup))) rfl ⟨by first | (have hq : n = 0 := (by omega); simp [DS.below, hq]; done) | (have hq : ¬ n = 0 := (by omega); have hr : n ≤ 256 := (by omega); simp [DS.below, hq, hr]; done) | (have hq : ¬ n = 0 := (by omega); have hr : ¬ n ≤ 256 := (by omega); simp [DS.below, hq, hr]), by first | (have hq : n = 0 := (by omega); simp [DS.after, DS.box, DS.cells, hq]; done) | (have hq : ¬ n = 0 := (by omega); have hr : n ≤ 256 := (by omega); simp [DS.after, DS.box, DS.cells, hq, hr]; done) | (have hq : ¬ n = 0 := (by omega); have hr : ¬ n ≤ 256 := (by omega); simp [DS.after, DS.box, DS.cells, hq, hr])⟩
    · skip
      have h2b := h2
      try simp only [Bool.and_eq_true, Bool.or_eq_true, Bool.and_eq_false_iff, Bool.or_eq_false_iff, decide_eq_true_eq, decide_eq_false_iff_not, Bool.not_eq_true', Bool.not_eq_false', Bool.not_eq_eq_eq_not, Bool.not_true, Bool.not_false, ge_iff_le, gt_iff_lt, Int.not_lt, Int.not_le] at h2b
      refine AWP.skip ?_
      refine AWP.seq ?_
      refine AWP.region_lit ?_
      refine AL.cons rfl (AOp.move (.inl rfl) rfl rfl) ?_
      refine AL.cons rfl (AOp.callPE (pre := ⟨[some ⟨206, [.t (.row 1 (byteTrs (d.code))), .t (.leaf (.int .i64 (((d.p : Nat) : Int)))), .t (.leaf (.int .i64 (d.h)))]⟩], []⟩) (st' := ⟨[some ⟨206, [.t (.row 1 (byteTrs (d.next.code))), .t (.leaf (.int .i64 (((d.next.p : Nat) : Int)))), .t (.leaf (.int .i64 (d.next.h)))]⟩], []⟩) (ps := [_]) (qs := [.ptr 0 0]) [0] [] rfl rfl Try.func203 (by kernel_rfl) rfl rfl rfl (by (try rw [hs]); exact ⟨rfl, rfl, by decide, by decide, fun k h => by rcases k with _ | k <;> simp at h; exact ⟨_, rfl⟩, fun k x h => by rcases k with _ | k <;> simp at h; subst h; exact ⟨_, rfl, rfl, by (repeat' (first | exact PV.Le.refl _ | exact LeL.nil | exact PV.Le.nil _ | exact PV.Le.acc _ _ _ | apply LeL.cons | apply PV.Le.agg | apply PV.Le.tup)), rfl⟩, fun r row h => by simp at h⟩) (by (repeat' (first | exact PV.Le.refl _ | exact LeL.nil | exact PV.Le.nil _ | exact PV.Le.acc _ _ _ | apply LeL.cons | apply PV.Le.agg | apply PV.Le.tup))) rfl rfl rfl (byteN_ok d )) ?_
      refine AL.cons rfl (AOp.move (.inr rfl) rfl rfl) ?_
      refine AL.nil ?_
      refine AWP.seq ?_
      refine AWP.region_lit ?_
      refine AL.cons rfl (AOp.move (.inl rfl) rfl rfl) ?_
      refine AL.cons rfl (AOp.callPE (pre := ⟨[some ⟨206, [.t (.row 1 (byteTrs (d.next.code))), .t (.leaf (.int .i64 (((d.next.p : Nat) : Int)))), .t (.leaf (.int .i64 (d.next.h)))]⟩], []⟩) (st' := ⟨[some ⟨206, [.t (.row 1 (byteTrs (d.next.next.code))), .t (.leaf (.int .i64 (((d.next.next.p : Nat) : Int)))), .t (.leaf (.int .i64 (d.next.next.h)))]⟩], []⟩) (ps := [_]) (qs := [.ptr 0 0]) [0] [] rfl rfl Try.func203 (by kernel_rfl) rfl rfl rfl (by (try rw [hs]); exact ⟨rfl, rfl, by decide, by decide, fun k h => by rcases k with _ | k <;> simp at h; exact ⟨_, rfl⟩, fun k x h => by rcases k with _ | k <;> simp at h; subst h; exact ⟨_, rfl, rfl, by (repeat' (first | exact PV.Le.refl _ | exact LeL.nil | exact PV.Le.nil _ | exact PV.Le.acc _ _ _ | apply LeL.cons | apply PV.Le.agg | apply PV.Le.tup)), rfl⟩, fun r row h => by simp at h⟩) (by (repeat' (first | exact PV.Le.refl _ | exact LeL.nil | exact PV.Le.nil _ | exact PV.Le.acc _ _ _ | apply LeL.cons | apply PV.Le.agg | apply PV.Le.tup))) rfl rfl rfl (byteN_ok d.next )) ?_
      refine AL.cons rfl (AOp.move (.inr rfl) rfl rfl) ?_
      refine AL.nil ?_
      refine AWP.seq ?_
      refine AWP.region_lit ?_
      refine AL.cons rfl (AOp.move (.inl rfl) rfl rfl) ?_
      refine AL.cons rfl (AOp.callPE (pre := ⟨[some ⟨206, [.t (.row 1 (byteTrs (d.next.next.code))), .t (.leaf (.int .i64 (((d.next.next.p : Nat) : Int)))), .t (.leaf (.int .i64 (d.next.next.h)))]⟩], []⟩) (st' := ⟨[some ⟨206, [.t (.row 1 (byteTrs (d.next.next.next.code))), .t (.leaf (.int .i64 (((d.next.next.next.p : Nat) : Int)))), .t (.leaf (.int .i64 (d.next.next.next.h)))]⟩], []⟩) (ps := [_]) (qs := [.ptr 0 0]) [0] [] rfl rfl Try.func203 (by kernel_rfl) rfl rfl rfl (by (try rw [hs]); exact ⟨rfl, rfl, by decide, by decide, fun k h => by rcases k with _ | k <;> simp at h; exact ⟨_, rfl⟩, fun k x h => by rcases k with _ | k <;> simp at h; subst h; exact ⟨_, rfl, rfl, by (repeat' (first | exact PV.Le.refl _ | exact LeL.nil | exact PV.Le.nil _ | exact PV.Le.acc _ _ _ | apply LeL.cons | apply PV.Le.agg | apply PV.Le.tup)), rfl⟩, fun r row h => by simp at h⟩) (by (repeat' (first | exact PV.Le.refl _ | exact LeL.nil | exact PV.Le.nil _ | exact PV.Le.acc _ _ _ | apply LeL.cons | apply PV.Le.agg | apply PV.Le.tup))) rfl rfl rfl (byteN_ok d.next.next )) ?_
      refine AL.cons rfl (AOp.move (.inr rfl) rfl rfl) ?_
      refine AL.nil ?_
      refine AWP.seq ?_
      refine AWP.region_lit ?_
      refine AL.cons rfl (AOp.move (.inl rfl) rfl rfl) ?_
      refine AL.cons rfl (AOp.callPE (pre := ⟨[some ⟨206, [.t (.row 1 (byteTrs (d.next.next.next.code))), .t (.leaf (.int .i64 (((d.next.next.next.p : Nat) : Int)))), .t (.leaf (.int .i64 (d.next.next.next.h)))]⟩], []⟩) (st' := ⟨[some ⟨206, [.t (.row 1 (byteTrs (d.next.next.next.next.code))), .t (.leaf (.int .i64 (((d.next.next.next.next.p : Nat) : Int)))), .t (.leaf (.int .i64 (d.next.next.next.next.h)))]⟩], []⟩) (ps := [_]) (qs := [.ptr 0 0]) [0] [] rfl rfl Try.func203 (by kernel_rfl) rfl rfl rfl (by (try rw [hs]); exact ⟨rfl, rfl, by decide, by decide, fun k h => by rcases k with _ | k <;> simp at h; exact ⟨_, rfl⟩, fun k x h => by rcases k with _ | k <;> simp at h; subst h; exact ⟨_, rfl, rfl, by (repeat' (first | exact PV.Le.refl _ | exact LeL.nil | exact PV.Le.nil _ | exact PV.Le.acc _ _ _ | apply LeL.cons | apply PV.Le.agg | apply PV.Le.tup)), rfl⟩, fun r row h => by simp at h⟩) (by (repeat' (first | exact PV.Le.refl _ | exact LeL.nil | exact PV.Le.nil _ | exact PV.Le.acc _ _ _ | apply LeL.cons | apply PV.Le.agg | apply PV.Le.tup))) rfl rfl rfl (byteN_ok d.next.next.next )) ?_
      refine AL.cons rfl (AOp.move (.inr rfl) rfl rfl) ?_
      refine AL.nil ?_
      refine AWP.seq ?_
      refine AWP.region_lit ?_
      refine AL.cons rfl (AOp.move (.inl rfl) rfl rfl) ?_
      refine AL.cons rfl (AOp.mulI rfl rfl rfl rfl (c := ((d.byteN * 16777216 : Nat) : Int)) (by omega) (by omega)) ?_
      refine AL.cons rfl (AOp.move (.inl rfl) rfl rfl) ?_
      refine AL.cons rfl (AOp.mulI rfl rfl rfl rfl (c := ((d.next.byteN * 65536 : Nat) : Int)) (by omega) (by omega)) ?_
      refine AL.cons rfl (AOp.addI rfl rfl rfl rfl (c := (((d.byteN * 16777216) + (d.next.byteN * 65536) : Nat) : Int)) (by omega) (by omega)) ?_
      refine AL.cons rfl (AOp.move (.inl rfl) rfl rfl) ?_
      refine AL.cons rfl (AOp.mulI rfl rfl rfl rfl (c := ((d.next.next.byteN * 256 : Nat) : Int)) (by omega) (by omega)) ?_
      refine AL.cons rfl (AOp.addI rfl rfl rfl rfl (c := ((((d.byteN * 16777216) + (d.next.byteN * 65536)) + (d.next.next.byteN * 256) : Nat) : Int)) (by omega) (by omega)) ?_
      refine AL.cons rfl (AOp.move (.inl rfl) rfl rfl) ?_
      refine AL.cons rfl (AOp.addI rfl rfl rfl rfl (c := (((((d.byteN * 16777216) + (d.next.byteN * 65536)) + (d.next.next.byteN * 256)) + d.next.next.next.byteN : Nat) : Int)) (by omega) (by omega)) ?_
      refine AL.cons rfl (AOp.move (.inl rfl) rfl rfl) ?_
      refine AL.cons rfl (AOp.remN (a := (((d.byteN * 16777216) + (d.next.byteN * 65536)) + (d.next.next.byteN * 256)) + d.next.next.next.byteN) (b := n) rfl rfl rfl rfl (by omega) (by omega)) ?_
      refine AL.cons rfl (AOp.move (.inr rfl) rfl rfl) ?_
      refine AL.nil ?_
      refine AWP.ret ?_
      exact Ends.mk (ps := [_]) (.inr rfl) ⟨rfl, trivial⟩ rfl (StLe.mk' (st' := ⟨[some ⟨206, [.t (.row 1 (byteTrs (d.next.next.next.next.code))), .t (.leaf (.int .i64 (((d.next.next.next.next.p : Nat) : Int)))), .t (.leaf (.int .i64 (d.next.next.next.next.h)))]⟩], []⟩) ⟨⟨rfl, by (repeat' (first | exact PV.Le.refl _ | exact LeL.nil | exact PV.Le.nil _ | exact PV.Le.acc _ _ _ | apply LeL.cons | apply PV.Le.agg | apply PV.Le.tup)), rfl⟩, trivial⟩ rfl) (keeps_box hC ⟨_, rfl⟩) (q := .t (.leaf (.int .i64 (((((((d.byteN * 16777216) + (d.next.byteN * 65536)) + (d.next.next.byteN * 256)) + d.next.next.next.byteN) % n : Nat) : Int))))) (by (repeat' (first | exact PV.Le.refl _ | exact LeL.nil | exact PV.Le.nil _ | exact PV.Le.acc _ _ _ | apply LeL.cons | apply PV.Le.agg | apply PV.Le.tup))) rfl ⟨by first | (have hq : n = 0 := (by omega); simp [DS.below, hq]; done) | (have hq : ¬ n = 0 := (by omega); have hr : n ≤ 256 := (by omega); simp [DS.below, hq, hr]; done) | (have hq : ¬ n = 0 := (by omega); have hr : ¬ n ≤ 256 := (by omega); simp [DS.below, hq, hr]), by first | (have hq : n = 0 := (by omega); simp [DS.after, DS.box, DS.cells, hq]; done) | (have hq : ¬ n = 0 := (by omega); have hr : n ≤ 256 := (by omega); simp [DS.after, DS.box, DS.cells, hq, hr]; done) | (have hq : ¬ n = 0 := (by omega); have hr : ¬ n ≤ 256 := (by omega); simp [DS.after, DS.box, DS.cells, hq, hr])⟩

set_option maxRecDepth 100000 in
set_option maxHeartbeats 4000000 in
theorem once_ok (d : DS) (n : Nat)  : ACalls Try.prog 124 [.ptr 0 0, .t (.leaf (.int .i64 (((n : Nat) : Int))))] (d.box 206) (fun r t => r = .t (.leaf (.bool (decide (d.below n = 0)))) ∧ t = (d.after n).box 206) := by
  refine ACalls.intro Try.func124 rfl (by first | decide | (simp; done) | (simp; decide)) ?_
  intro C hC
  refine AWP.fact (box_lenN 0 0 rfl rfl rfl (byteTrs_len d.code)) (fun hl0 => ?_)
  refine AWP.seq ?_
  refine AWP.region_lit ?_
  refine AL.cons rfl (AOp.move (.inr rfl) rfl rfl) ?_
  refine AL.nil ?_
  refine AWP.seq ?_
  refine AWP.region_lit ?_
  refine AL.cons rfl (AOp.move (.inl rfl) rfl rfl) ?_
  refine AL.cons rfl (AOp.move (.inl rfl) rfl rfl) ?_
  refine AL.cons rfl (AOp.callPE (pre := ⟨[some ⟨206, [.t (.row 1 (byteTrs (d.code))), .t (.leaf (.int .i64 (((d.p : Nat) : Int)))), .t (.leaf (.int .i64 (d.h)))]⟩], []⟩) (st' := ⟨[some ⟨206, [.t (.row 1 (byteTrs ((d.after n).code))), .t (.leaf (.int .i64 ((((d.after n).p : Nat) : Int)))), .t (.leaf (.int .i64 ((d.after n).h)))]⟩], []⟩) (ps := [_, _]) (qs := [.ptr 0 0, .t (.leaf (.int .i64 (((n : Nat) : Int))))]) [0] [] rfl rfl Try.func165 (by kernel_rfl) rfl rfl rfl (by (try rw [hs]); exact ⟨rfl, rfl, by decide, by decide, fun k h => by rcases k with _ | k <;> simp at h; exact ⟨_, rfl⟩, fun k x h => by rcases k with _ | k <;> simp at h; subst h; exact ⟨_, rfl, rfl, by (repeat' (first | exact PV.Le.refl _ | exact LeL.nil | exact PV.Le.nil _ | exact PV.Le.acc _ _ _ | apply LeL.cons | apply PV.Le.agg | apply PV.Le.tup)), rfl⟩, fun r row h => by simp at h⟩) (by (repeat' (first | exact PV.Le.refl _ | exact LeL.nil | exact PV.Le.nil _ | exact PV.Le.acc _ _ _ | apply LeL.cons | apply PV.Le.agg | apply PV.Le.tup))) rfl rfl rfl (below_ok d n)) ?_
  refine AL.cons rfl (AOp.eqlI rfl rfl rfl rfl) ?_
  refine AL.cons rfl (AOp.move (.inr rfl) rfl rfl) ?_
  refine AL.nil ?_
  refine AWP.ret ?_
  exact Ends.mk (ps := [_]) (.inr rfl) ⟨rfl, trivial⟩ rfl (StLe.mk' (st' := ⟨[some ⟨206, [.t (.row 1 (byteTrs ((d.after n).code))), .t (.leaf (.int .i64 ((((d.after n).p : Nat) : Int)))), .t (.leaf (.int .i64 ((d.after n).h)))]⟩], []⟩) ⟨⟨rfl, by (repeat' (first | exact PV.Le.refl _ | exact LeL.nil | exact PV.Le.nil _ | exact PV.Le.acc _ _ _ | apply LeL.cons | apply PV.Le.agg | apply PV.Le.tup)), rfl⟩, trivial⟩ rfl) (keeps_box hC ⟨_, rfl⟩) (q := .t (.leaf (.bool (decide ((((d.below n : Nat) : Int) : Int) = 0))))) (by (repeat' (first | exact PV.Le.refl _ | exact LeL.nil | exact PV.Le.nil _ | exact PV.Le.acc _ _ _ | apply LeL.cons | apply PV.Le.agg | apply PV.Le.tup))) rfl ⟨by first | rfl | (congr 4; simp), by rfl⟩

set_option maxRecDepth 100000 in
set_option maxHeartbeats 4000000 in
theorem pick_ok (d : DS) (l : List ByteArray) (hl : 0 < l.length) : ACalls Try.prog 100 [.ptr 0 0, .t (.row 1 (strTrs (l)))] (d.box 206) (fun r t => r = .t (.leaf (.string (d.pick l))) ∧ t = (d.after l.length).box 206) := by
  refine ACalls.intro Try.func100 rfl (by first | decide | (simp; done) | (simp; decide)) ?_
  intro C hC
  refine AWP.fact (box_lenN 0 0 rfl rfl rfl (byteTrs_len d.code)) (fun hl0 => ?_)
  refine AWP.fact (lk_lenN 1 rfl rfl (strTrs_len _)) (fun hl1 => ?_)
  have hx : d.below l.length < l.length := d.below_lt hl
  refine AWP.seq ?_
  refine AWP.region_lit ?_
  refine AL.cons rfl (AOp.move (.inr rfl) rfl rfl) ?_
  refine AL.nil ?_
  refine AWP.seq ?_
  refine AWP.region_lit ?_
  refine AL.cons rfl (AOp.move (.inl rfl) rfl rfl) ?_
  refine AL.cons rfl (AOp.move (.inl rfl) rfl rfl) ?_
  refine AL.cons rfl (AOp.move (.inl rfl) rfl rfl) ?_
  refine AL.cons rfl (AOp.lenN rfl rfl rfl rfl el66 (strTrs_len _)) ?_
  refine AL.cons rfl (AOp.callPE (pre := ⟨[some ⟨206, [.t (.row 1 (byteTrs (d.code))), .t (.leaf (.int .i64 (((d.p : Nat) : Int)))), .t (.leaf (.int .i64 (d.h)))]⟩], []⟩) (st' := ⟨[some ⟨206, [.t (.row 1 (byteTrs ((d.after l.length).code))), .t (.leaf (.int .i64 ((((d.after l.length).p : Nat) : Int)))), .t (.leaf (.int .i64 ((d.after l.length).h)))]⟩], []⟩) (ps := [_, _]) (qs := [.ptr 0 0, .t (.leaf (.int .i64 (((l.length : Nat) : Int))))]) [0] [] rfl rfl Try.func165 (by kernel_rfl) rfl rfl rfl (by (try rw [hs]); exact ⟨rfl, rfl, by decide, by decide, fun k h => by rcases k with _ | k <;> simp at h; exact ⟨_, rfl⟩, fun k x h => by rcases k with _ | k <;> simp at h; subst h; exact ⟨_, rfl, rfl, by (repeat' (first | exact PV.Le.refl _ | exact LeL.nil | exact PV.Le.nil _ | exact PV.Le.acc _ _ _ | apply LeL.cons | apply PV.Le.agg | apply PV.Le.tup)), rfl⟩, fun r row h => by simp at h⟩) (by (repeat' (first | exact PV.Le.refl _ | exact LeL.nil | exact PV.Le.nil _ | exact PV.Le.acc _ _ _ | apply LeL.cons | apply PV.Le.agg | apply PV.Le.tup))) rfl rfl rfl (below_ok d l.length)) ?_
  refine AL.cons rfl (AOp.index (k := d.below l.length) rfl rfl rfl rfl rfl (strTrs_cs hx) el66) ?_
  refine AL.cons rfl (AOp.loadEptr1 (d := .leaf (.string (l[d.below l.length]))) rfl rfl rfl sh9 rfl) ?_
  refine AL.cons rfl (AOp.move (.inr rfl) rfl rfl) ?_
  refine AL.nil ?_
  refine AWP.ret ?_
  exact Ends.mk (ps := [_]) (.inr rfl) ⟨rfl, trivial⟩ rfl (StLe.mk' (st' := ⟨[some ⟨206, [.t (.row 1 (byteTrs ((d.after l.length).code))), .t (.leaf (.int .i64 ((((d.after l.length).p : Nat) : Int)))), .t (.leaf (.int .i64 ((d.after l.length).h)))]⟩], []⟩) ⟨⟨rfl, by (repeat' (first | exact PV.Le.refl _ | exact LeL.nil | exact PV.Le.nil _ | exact PV.Le.acc _ _ _ | apply LeL.cons | apply PV.Le.agg | apply PV.Le.tup)), rfl⟩, trivial⟩ rfl) (keeps_box hC ⟨_, rfl⟩) (q := .t (.leaf (.string (l[d.below l.length])))) (by (repeat' (first | exact PV.Le.refl _ | exact LeL.nil | exact PV.Le.nil _ | exact PV.Le.acc _ _ _ | apply LeL.cons | apply PV.Le.agg | apply PV.Le.tup))) rfl ⟨by rw [DS.pick_eq hx], by rfl⟩

set_option maxRecDepth 100000 in
set_option maxHeartbeats 4000000 in
theorem new_ok (code : List UInt8) (hb : code.length ≤ 1048576) : ANew Try.prog 98 [.t (.row 1 (byteTrs code))] 206 (DS.start code).cells := by
  refine ACalls.intro Try.func98 rfl (by first | decide | (simp; done) | (simp; decide)) ?_
  intro C hC
  refine AWP.fact (lk_lenN 0 rfl rfl (byteTrs_len _)) (fun hl1 => ?_)
  refine AWP.seq ?_
  refine AWP.region_lit ?_
  refine AL.cons rfl (AOp.moveAny (.inl rfl)) ?_
  refine AL.nil ?_
  refine AWP.seq ?_
  refine AWP.region_lit ?_
  refine AL.cons rfl (AOp.move (.inl rfl) rfl rfl) ?_
  refine AL.cons rfl (AOp.lenN rfl rfl rfl rfl el59 (byteTrs_len _)) ?_
  refine AL.cons rfl (AOp.addI rfl rfl rfl rfl (c := ((28803 + code.length : Nat) : Int)) (by omega) (by omega)) ?_
  refine AL.cons rfl (AOp.move (.inr rfl) rfl rfl) ?_
  refine AL.nil ?_
  refine AWP.seq ?_
  refine AWP.seq ?_
  refine AWP.region_lit ?_
  refine AL.cons rfl (AOp.move (.inr rfl) rfl rfl) ?_
  refine AL.nil ?_
  refine AWP.block ?_
  refine AWP.loopJ (ι := Nat × Int) (fun ⟨i, h⟩ => i ≤ code.length ∧ i ≤ 4000 ∧ newH code = ((code.take 4000).drop i).foldl newStep h) (fun ⟨i, h⟩ => ⟨[(0, .t (.row 1 (byteTrs (code)))), (3, .t (.leaf (.int .i64 (h)))), (4, .t (.leaf (.int .i64 (((i : Nat) : Int)))))], ⟨[], []⟩⟩) (fun ⟨i, h⟩ => code.length - i) (0, (28803 + (code.length : Int))) ?_ ?_ ?_
  · exact ⟨Nat.zero_le _, Nat.zero_le _, rfl⟩
  · skip
    exact Wk.mk (StLe.mk' trivial rfl) (keeps_nil hC) ⟨⟨_, rfl, .refl _, rfl⟩, ⟨⟨_, rfl, by (repeat' (first | exact PV.Le.refl _ | exact LeL.nil | exact PV.Le.nil _ | exact PV.Le.acc _ _ _ | apply LeL.cons | apply PV.Le.agg | apply PV.Le.tup)), rfl⟩, ⟨⟨_, rfl, by (repeat' (first | exact PV.Le.refl _ | exact LeL.nil | exact PV.Le.nil _ | exact PV.Le.acc _ _ _ | apply LeL.cons | apply PV.Le.agg | apply PV.Le.tup)), rfl⟩, trivial⟩⟩⟩
  rintro ⟨i, h⟩ hJ2
  obtain ⟨hi1, hi2, hi3⟩ := hJ2
  refine AWP.seq ?_
  refine AWP.seq ?_
  refine AWP.region_lit ?_
  refine AL.cons rfl (AOp.move (.inl rfl) rfl rfl) ?_
  refine AL.cons rfl (AOp.move (.inl rfl) rfl rfl) ?_
  refine AL.cons rfl (AOp.lenN rfl rfl rfl rfl el59 (byteTrs_len _)) ?_
  refine AL.cons rfl (AOp.lss rfl rfl rfl rfl) ?_
  refine AL.cons rfl (AOp.move (.inl rfl) rfl rfl) ?_
  refine AL.splitB 12 rfl (fun g3 => ?_) (fun g3 => ?_)
  · skip
    have g3b := g3
    try simp only [Bool.and_eq_true, Bool.or_eq_true, Bool.and_eq_false_iff, Bool.or_eq_false_iff, decide_eq_true_eq, decide_eq_false_iff_not, Bool.not_eq_true', Bool.not_eq_false', Bool.not_eq_eq_eq_not, Bool.not_true, Bool.not_false, ge_iff_le, gt_iff_lt, Int.not_lt, Int.not_le] at g3b
    have g3n : i < code.length := by omega
    refine AL.cons_gv rfl rfl rfl g3 (AOp.move (.inl rfl) rfl rfl) ?_
    refine AL.cons_gv rfl rfl rfl g3 (AOp.lss rfl rfl rfl rfl) ?_
    refine AL.cons rfl (AOp.pickT rfl rfl rfl g3 rfl) ?_
    refine AL.nil ?_
    refine AWP.cond rfl (fun h4 => ?_) (fun h4 => ?_)
    · skip
      have h4b := h4
      try simp only [Bool.and_eq_true, Bool.or_eq_true, Bool.and_eq_false_iff, Bool.or_eq_false_iff, decide_eq_true_eq, decide_eq_false_iff_not, Bool.not_eq_true', Bool.not_eq_false', Bool.not_eq_eq_eq_not, Bool.not_true, Bool.not_false, ge_iff_le, gt_iff_lt, Int.not_lt, Int.not_le] at h4b
      refine AWP.skip ?_
      refine AWP.seq ?_
      refine AWP.block ?_
      refine AWP.region_lit ?_
      refine AL.cons rfl (AOp.move (.inl rfl) rfl rfl) ?_
      refine AL.cons rfl (AOp.mulW rfl rfl rfl rfl) ?_
      refine AL.cons rfl (AOp.move (.inl rfl) rfl rfl) ?_
      refine AL.cons rfl (AOp.move (.inl rfl) rfl rfl) ?_
      refine AL.cons rfl (AOp.index (k := i) rfl rfl rfl rfl rfl (byteTrs_cs g3n) el59) ?_
      refine AL.cons rfl (AOp.loadEptr1 (d := .leaf (.int .u8 (((code[i]).toNat : Int)))) rfl rfl rfl sh5 rfl) ?_
      refine AL.cons rfl (AOp.convI rfl rfl rfl ⟨_, Try.underlying5⟩ Try.underlying3 (by first | omega | (have := UInt8.toNat_lt (code[i]); omega)) (by first | omega | (have := UInt8.toNat_lt (code[i]); omega))) ?_
      refine AL.cons rfl (AOp.addW rfl rfl rfl rfl) ?_
      refine AL.cons rfl (AOp.addW rfl rfl rfl rfl) ?_
      refine AL.cons rfl (AOp.andI rfl rfl rfl rfl) ?_
      refine AL.cons rfl (AOp.move (.inr rfl) rfl rfl) ?_
      refine AL.nil ?_
      refine AWP.region_lit ?_
      refine AL.cons rfl (AOp.move (.inl rfl) rfl rfl) ?_
      refine AL.cons rfl (AOp.addI rfl rfl rfl rfl (c := ((i + 1 : Nat) : Int)) (by omega) (by omega)) ?_
      refine AL.cons rfl (AOp.move (.inr rfl) rfl rfl) ?_
      refine AL.nil ?_
      refine ⟨(i + 1, iAnd (wrap64 ((wrap64 ((wrap64 (h * 131)) + ((code[i]).toNat : Int))) + 7)) 1073741823), ?_, ?_, ?_⟩
      · exact ⟨by omega, by omega, newH_next (by omega) (by omega) hi3 rfl⟩
      · skip
        exact Wk.mk (StLe.mk' trivial rfl) (keeps_nil hC) ⟨⟨_, rfl, .refl _, rfl⟩, ⟨⟨_, rfl, by (repeat' (first | exact PV.Le.refl _ | exact LeL.nil | exact PV.Le.nil _ | exact PV.Le.acc _ _ _ | apply LeL.cons | apply PV.Le.agg | apply PV.Le.tup)), rfl⟩, ⟨⟨_, rfl, by (repeat' (first | exact PV.Le.refl _ | exact LeL.nil | exact PV.Le.nil _ | exact PV.Le.acc _ _ _ | apply LeL.cons | apply PV.Le.agg | apply PV.Le.tup)), rfl⟩, trivial⟩⟩⟩
      · dsimp only; omega
    · skip
      have h4b := h4
      try simp only [Bool.and_eq_true, Bool.or_eq_true, Bool.and_eq_false_iff, Bool.or_eq_false_iff, decide_eq_true_eq, decide_eq_false_iff_not, Bool.not_eq_true', Bool.not_eq_false', Bool.not_eq_eq_eq_not, Bool.not_true, Bool.not_false, ge_iff_le, gt_iff_lt, Int.not_lt, Int.not_le] at h4b
      refine AWP.exit ?_
      refine AWP.seq ?_
      refine AWP.region_lit ?_
      refine AL.cons rfl (AOp.move (.inl rfl) rfl rfl) ?_
      refine AL.cons rfl (AOp.move (.inl rfl) rfl rfl) ?_
      refine AL.cons rfl (AOp.build rfl rfl zr206 pl206 rfl rfl) ?_
      refine AL.cons rfl (AOp.box (cs := [.t (.row 1 (byteTrs (code))), .t (.leaf (.int .i64 (0))), .t (.leaf (.int .i64 (h)))]) rfl rfl rfl rfl rfl) ?_
      refine AL.cons rfl (AOp.move (.inr rfl) rfl rfl) ?_
      refine AL.nil ?_
      refine AWP.ret ?_
      obtain rfl := newH_end (by omega) hi3
      exact Ends.mk (ps := [_]) (.inr rfl) ⟨rfl, trivial⟩ rfl (StLe.mk' (st' := ⟨[some ⟨206, (DS.start code).cells⟩], []⟩) ⟨⟨rfl, by (repeat' (first | exact PV.Le.refl _ | exact LeL.nil | exact PV.Le.nil _ | exact PV.Le.acc _ _ _ | apply LeL.cons | apply PV.Le.agg | apply PV.Le.tup)), rfl⟩, trivial⟩ rfl) (keeps_nil hC) (q := .ptr 0 0) (.refl _) rfl ⟨0, rfl, rfl, fun i x hx => by rcases i with _ | i <;> simp at hx <;> simp, rfl⟩
  · skip
    have g3b := g3
    try simp only [Bool.and_eq_true, Bool.or_eq_true, Bool.and_eq_false_iff, Bool.or_eq_false_iff, decide_eq_true_eq, decide_eq_false_iff_not, Bool.not_eq_true', Bool.not_eq_false', Bool.not_eq_eq_eq_not, Bool.not_true, Bool.not_false, ge_iff_le, gt_iff_lt, Int.not_lt, Int.not_le] at g3b
    have g3n : i ≥ code.length := by omega
    refine AL.skip_v rfl rfl rfl g3 rfl ?_
    refine AL.skip_v rfl rfl rfl g3 rfl ?_
    refine AL.cons rfl (AOp.pickF rfl rfl rfl g3 rfl) ?_
    refine AL.nil ?_
    refine AWP.cond rfl (fun h5 => ?_) (fun h5 => ?_)
    · skip
      exact absurd (h5.symm.trans rfl) (by decide)
    · skip
      have h5b := h5
      try simp only [Bool.and_eq_true, Bool.or_eq_true, Bool.and_eq_false_iff, Bool.or_eq_false_iff, decide_eq_true_eq, decide_eq_false_iff_not, Bool.not_eq_true', Bool.not_eq_false', Bool.not_eq_eq_eq_not, Bool.not_true, Bool.not_false, ge_iff_le, gt_iff_lt, Int.not_lt, Int.not_le] at h5b
      refine AWP.exit ?_
      refine AWP.seq ?_
      refine AWP.region_lit ?_
      refine AL.cons rfl (AOp.move (.inl rfl) rfl rfl) ?_
      refine AL.cons rfl (AOp.move (.inl rfl) rfl rfl) ?_
      refine AL.cons rfl (AOp.build rfl rfl zr206 pl206 rfl rfl) ?_
      refine AL.cons rfl (AOp.box (cs := [.t (.row 1 (byteTrs (code))), .t (.leaf (.int .i64 (0))), .t (.leaf (.int .i64 (h)))]) rfl rfl rfl rfl rfl) ?_
      refine AL.cons rfl (AOp.move (.inr rfl) rfl rfl) ?_
      refine AL.nil ?_
      refine AWP.ret ?_
      obtain rfl := newH_end (by omega) hi3
      exact Ends.mk (ps := [_]) (.inr rfl) ⟨rfl, trivial⟩ rfl (StLe.mk' (st' := ⟨[some ⟨206, (DS.start code).cells⟩], []⟩) ⟨⟨rfl, by (repeat' (first | exact PV.Le.refl _ | exact LeL.nil | exact PV.Le.nil _ | exact PV.Le.acc _ _ _ | apply LeL.cons | apply PV.Le.agg | apply PV.Le.tup)), rfl⟩, trivial⟩ rfl) (keeps_nil hC) (q := .ptr 0 0) (.refl _) rfl ⟨0, rfl, rfl, fun i x hx => by rcases i with _ | i <;> simp at hx <;> simp, rfl⟩

end Go.Proofs.Ytoifjkggpanceaa

namespace Go.Proofs.Ytoifjkggpanceaa
open Go.RowKit

theorem bytes_of {w : World} {xs : List Int} {v : Value} (h : Rep w (.row 1 (xs.map fun n => [Tr.leaf (.int .u8 n)])) v) : ∃ code : List UInt8, (xs.map fun n => [Tr.leaf (.int .u8 n)]) = byteTrs code := by
  have hr : ∀ x ∈ xs, 0 ≤ x ∧ x ≤ 255 := by
    intro x hx
    obtain ⟨i, hi, rfl⟩ := List.mem_iff_getElem.1 hx
    cases h with
    | row c h1 h2 h3 h4 =>
      have := h4 i [Tr.leaf (.int .u8 xs[i])] (by simp [hi]) 0 _ rfl
      have := (this.leaf_eq).2
      simpa [LeafOk, Lit.wf, IntKind.min, IntKind.max, IntKind.bits, IntKind.signed] using this
  refine ⟨xs.map fun n => UInt8.ofNat n.toNat, ?_⟩
  unfold byteTrs
  rw [List.map_map]
  refine List.map_congr_left fun x hx => ?_
  have := hr x hx
  have h2 : (UInt8.ofNat x.toNat).toNat = x.toNat := by
    rw [UInt8.toNat_ofNat']
    omega
  simp only [Function.comp, h2]
  rw [Int.toNat_of_nonneg this.1]
end Go.Proofs.Ytoifjkggpanceaa

namespace Go.Proofs.Ytoifjkggpanceaa
open Go.RowKit
theorem AFun.plainR {P : Program} {f : FuncId} {args : List PV} {t : Tr} (h : AFun P f args (.t t)) {w : World} {vals : List Value} (hv : RVL0 w args vals) : Calls P f ⟨vals⟩ w fun e w' => ∃ u, e = .returned u ∧ Ext w w' ∧ Rep w' t u :=
  (h av0 lay0 w vals (sto0 w) hv).mono fun e w' => by
    rintro ⟨res, st', m', v, rfl, ⟨rfl, rfl⟩, -, he, hr⟩
    exact ⟨v, rfl, he.ext, RepM.rep hr⟩
theorem AFun.plainA {P : Program} {f : FuncId} {args : List PV} {ts : List Tr} (h : AFun P f args (.agg (ts.map PV.t))) {w : World} {vals : List Value} (hv : RVL0 w args vals) : Calls P f ⟨vals⟩ w fun e w' => ∃ cs, e = .returned (.agg ⟨cs⟩) ∧ Ext w w' ∧ RepL w' ts cs :=
  (h av0 lay0 w vals (sto0 w) hv).mono fun e w' => by
    rintro ⟨res, st', m', v, rfl, ⟨rfl, rfl⟩, -, he, cs, rfl, hr⟩
    exact ⟨cs, rfl, he.ext, RVL.ofTr hr⟩
theorem RVL0.nil {w : World} : RVL0 w [] [] := trivial
theorem RVL0.cons {w : World} {p : PV} {ps : List PV} {v : Value} {vs : List Value} (h : RV0 w p v) (k : RVL0 w ps vs) : RVL0 w (p :: ps) (v :: vs) := ⟨h, k⟩
end Go.Proofs.Ytoifjkggpanceaa

namespace Go.Proofs.Ytoifjkggpanceaa
open Go.RowKit Go.Proofs
set_option linter.unusedSimpArgs false
set_option linter.unusedVariables false

/-- The first item of a name in a list of packages, and its package's number. -/
def findP {α : Type} (key : α → ByteArray) (items : GPackage → List α) (s : ByteArray) : Nat → List GPackage → Option (α × Nat)
  | _, [] => none
  | i, p :: ps => match (items p).find? (fun x => decide (key x = s)) with
    | some x => some (x, i)
    | none => findP key items s (i + 1) ps
theorem findP_hit {α : Type} {key : α → ByteArray} {items : GPackage → List α} {s : ByteArray} {ps : List GPackage} {i k : Nat} (hi : i < ps.length) (hk : k < (items ps[i]).length) (h1 : findP key items s 0 ps = findP key items s i (ps.drop i)) (h2 : (items ps[i]).find? (fun x => decide (key x = s)) = ((items ps[i]).drop k).find? (fun x => decide (key x = s)))
    (h : key (items ps[i])[k] = s) : findP key items s 0 ps = some ((items ps[i])[k], i) := by
  rw [h1, List.drop_eq_getElem_cons hi, findP, h2, List.drop_eq_getElem_cons hk, List.find?_cons_of_pos (by simpa using h)]
theorem findP_next {α : Type} {key : α → ByteArray} {items : GPackage → List α} {s : ByteArray} {p : GPackage} {k : Nat} (hk : k < (items p).length) (h2 : (items p).find? (fun x => decide (key x = s)) = ((items p).drop k).find? (fun x => decide (key x = s)))
    (h : ¬ key (items p)[k] = s) : (items p).find? (fun x => decide (key x = s)) = ((items p).drop (k + 1)).find? (fun x => decide (key x = s)) := by
  rw [h2, List.drop_eq_getElem_cons hk, List.find?_cons_of_neg (by simpa using h)]
theorem findP_miss {α : Type} {key : α → ByteArray} {items : GPackage → List α} {s : ByteArray} {ps : List GPackage} {i k : Nat} (hi : i < ps.length) (h1 : findP key items s 0 ps = findP key items s i (ps.drop i)) (h2 : (items ps[i]).find? (fun x => decide (key x = s)) = ((items ps[i]).drop k).find? (fun x => decide (key x = s)))
    (hk : (items ps[i]).length ≤ k) : findP key items s 0 ps = findP key items s (i + 1) (ps.drop (i + 1)) := by
  rw [h1, List.drop_eq_getElem_cons hi, findP, h2, List.drop_eq_nil_of_le hk]
  rfl
theorem findP_end {α : Type} {key : α → ByteArray} {items : GPackage → List α} {s : ByteArray} {ps : List GPackage} {i : Nat} (h1 : findP key items s 0 ps = findP key items s i (ps.drop i)) (hi : ps.length ≤ i) : findP key items s 0 ps = none := by
  rw [h1, List.drop_eq_nil_of_le hi, findP]
def oInt {α : Type} (o : Option (α × Nat)) : Int := match o with | some (_, i) => (i : Int) | none => 0

def GProgram.traitAt (w : GProgram) (s : ByteArray) : Option (GTrait × Nat) := findP GTrait.gName GPackage.gTraits s 0 w.gPackages
def GTrait.zero : GTrait := .mk ⟨#[]⟩ [] false false []
def oTrait (o : Option (GTrait × Nat)) : GTrait := match o with | some (x, _) => x | none => GTrait.zero
abbrev optTrait (o : Option (GTrait × Nat)) : PV := .tup [GTrait.pv (oTrait o), .t (.leaf (.int .i64 (oInt o))), .t (.leaf (.bool o.isSome))]
theorem optTrait_some {o : Option (GTrait × Nat)} {x : GTrait} {i : Nat} (h : o = some (x, i)) : PV.tup [GTrait.pv x, .t (.leaf (.int .i64 (i : Int))), .t (.leaf (.bool true))] = optTrait o := by rw [h]; rfl
theorem optTrait_none {o : Option (GTrait × Nat)} (h : o = none) : PV.tup [GTrait.pv GTrait.zero, .t (.leaf (.int .i64 0)), .t (.leaf (.bool false))] = optTrait o := by rw [h]; rfl

set_option maxRecDepth 100000 in
set_option maxHeartbeats 4000000 in
theorem trait_impl (w : GProgram) (s : ByteArray) : AFun Try.prog 166 [(GProgram.pv w), .t (.leaf (.string (s)))] (.tup [(GTrait.pv (oTrait (w.traitAt s))), .t (.leaf (.int .i64 (oInt (w.traitAt s)))), .t (.leaf (.bool ((w.traitAt s).isSome)))]) := by
  refine ACalls.intro Try.func166 rfl (by first | decide | (simp; done) | (simp; decide)) ?_
  intro C hC
  refine AWP.seq ?_
  refine AWP.region_lit ?_
  refine AL.cons rfl (AOp.box (cs := [.t (.row 6 (GPackage.trs (w.gPackages)))]) rfl rfl rfl rfl rfl) ?_
  refine AL.cons rfl (AOp.alloc rfl rfl zr75) ?_
  refine AL.cons rfl (AOp.move (.inr rfl) rfl rfl) ?_
  refine AL.cons rfl (AOp.move (.inr rfl) rfl rfl) ?_
  refine AL.nil ?_
  refine AWP.seq ?_
  refine AWP.seq ?_
  refine AWP.region_lit ?_
  refine AL.cons rfl (AOp.fieldPtr (k := 0) (d := 0) (e := 0) rfl rfl rfl fo63_0) ?_
  refine AL.cons rfl (AOp.loadPtr1 rfl rfl rfl rfl sh61 rfl) ?_
  refine AL.fact (lk_lenN 12 rfl rfl (GPackage.trs_len _)) (fun hl1 => ?_)
  refine AL.cons rfl (AOp.lenN rfl rfl rfl rfl el61 (GPackage.trs_len _)) ?_
  refine AL.cons rfl (AOp.move (.inl rfl) rfl rfl) ?_
  refine AL.nil ?_
  refine AWP.block ?_
  refine AWP.loopJ (ι := Nat) (fun i => i ≤ w.gPackages.length ∧ findP GTrait.gName GPackage.gTraits s 0 w.gPackages = findP GTrait.gName GPackage.gTraits s i (w.gPackages.drop i)) (fun i => ⟨[(0, (GProgram.pv w)), (1, .t (.leaf (.string (s)))), (2, .ptr 0 0), (4, .ptr 1 0), (12, .t (.row 6 (GPackage.trs (w.gPackages)))), (13, .t (.leaf (.int .i64 (((w.gPackages.length : Nat) : Int))))), (14, .t (.leaf (.int .i64 (((i : Nat) : Int)))))], ⟨[some ⟨63, [.t (.row 6 (GPackage.trs (w.gPackages)))]⟩, some ⟨75, [.t (.leaf (.string (⟨#[]⟩))), .nil, .t (.leaf (.bool (false))), .t (.leaf (.bool (false))), .nil]⟩], []⟩⟩) (fun i => w.gPackages.length - i) 0 ?_ ?_ ?_
  · exact ⟨Nat.zero_le _, rfl⟩
  · skip
    exact Wk.mk (StLe.mk' ⟨⟨rfl, by (repeat' (first | exact PV.Le.refl _ | exact LeL.nil | exact PV.Le.nil _ | exact PV.Le.acc _ _ _ | apply LeL.cons | apply PV.Le.agg | apply PV.Le.tup)), rfl⟩, ⟨⟨rfl, by (repeat' (first | exact PV.Le.refl _ | exact LeL.nil | exact PV.Le.nil _ | exact PV.Le.acc _ _ _ | apply LeL.cons | apply PV.Le.agg | apply PV.Le.tup)), rfl⟩, trivial⟩⟩ rfl) (keeps_nil hC) ⟨⟨_, rfl, .refl _, rfl⟩, ⟨⟨_, rfl, .refl _, rfl⟩, ⟨⟨_, rfl, .refl _, rfl⟩, ⟨⟨_, rfl, .refl _, rfl⟩, ⟨⟨_, rfl, .refl _, rfl⟩, ⟨⟨_, rfl, .refl _, rfl⟩, ⟨⟨_, rfl, by (repeat' (first | exact PV.Le.refl _ | exact LeL.nil | exact PV.Le.nil _ | exact PV.Le.acc _ _ _ | apply LeL.cons | apply PV.Le.agg | apply PV.Le.tup)), rfl⟩, trivial⟩⟩⟩⟩⟩⟩⟩
  rintro i hJ2
  obtain ⟨hi1, hi2⟩ := hJ2
  refine AWP.seq ?_
  refine AWP.region_lit ?_
  refine AL.cons rfl (AOp.lss rfl rfl rfl rfl) ?_
  refine AL.nil ?_
  refine AWP.seq ?_
  refine AWP.cond rfl (fun h3 => ?_) (fun h3 => ?_)
  · skip
    have h3b := h3
    try simp only [Bool.and_eq_true, Bool.or_eq_true, Bool.and_eq_false_iff, Bool.or_eq_false_iff, decide_eq_true_eq, decide_eq_false_iff_not, Bool.not_eq_true', Bool.not_eq_false', Bool.not_eq_eq_eq_not, Bool.not_true, Bool.not_false, ge_iff_le, gt_iff_lt, Int.not_lt, Int.not_le] at h3b
    have h3n : i < w.gPackages.length := by omega
    refine AWP.skip ?_
    refine AWP.seq ?_
    refine AWP.block ?_
    refine AWP.seq ?_
    refine AWP.region_lit ?_
    refine AL.cons rfl (AOp.move (.inl rfl) rfl rfl) ?_
    refine AL.cons rfl (AOp.index (k := i) rfl rfl rfl rfl rfl (GPackage.trs_cs h3n) el61) ?_
    refine AL.cons rfl (AOp.loadEptr (ds := [.leaf (.string ((w.gPackages[i]).gName)), .row 1 (strTrs ((w.gPackages[i]).gDeps)), .row 5 (GTrait.trs ((w.gPackages[i]).gTraits)), .row 3 (GDataType.trs ((w.gPackages[i]).gDataTypes)), .row 12 (GInstance.trs ((w.gPackages[i]).gInstances)), .row 16 (GFunction.trs ((w.gPackages[i]).gFunctions))]) rfl rfl rfl sh151 rfl rfl) ?_
    refine AL.cons rfl (AOp.alloc rfl rfl zr151) ?_
    refine AL.cons rfl (AOp.move (.inr rfl) rfl rfl) ?_
    refine AL.cons rfl (AOp.storePtr (cs := [.t (.leaf (.string ((w.gPackages[i]).gName))), .t (.row 1 (strTrs ((w.gPackages[i]).gDeps))), .t (.row 5 (GTrait.trs ((w.gPackages[i]).gTraits))), .t (.row 3 (GDataType.trs ((w.gPackages[i]).gDataTypes))), .t (.row 12 (GInstance.trs ((w.gPackages[i]).gInstances))), .t (.row 16 (GFunction.trs ((w.gPackages[i]).gFunctions)))]) (ds := [.t (.leaf (.string ((w.gPackages[i]).gName))), .t (.row 1 (strTrs ((w.gPackages[i]).gDeps))), .t (.row 5 (GTrait.trs ((w.gPackages[i]).gTraits))), .t (.row 3 (GDataType.trs ((w.gPackages[i]).gDataTypes))), .t (.row 12 (GInstance.trs ((w.gPackages[i]).gInstances))), .t (.row 16 (GFunction.trs ((w.gPackages[i]).gFunctions)))]) rfl rfl rfl rfl rfl rfl rfl sz151 (Nat.le_of_ble_eq_true rfl) rfl) ?_
    refine AL.nil ?_
    refine AWP.seq ?_
    refine AWP.region_lit ?_
    refine AL.cons rfl (AOp.fieldPtr (k := 2) (d := 0) (e := 2) rfl rfl rfl fo151_2) ?_
    refine AL.cons rfl (AOp.loadPtr1 rfl rfl rfl rfl sh146 rfl) ?_
    refine AL.fact (lk_lenN 20 rfl rfl (GTrait.trs_len _)) (fun hl4 => ?_)
    refine AL.cons rfl (AOp.lenN rfl rfl rfl rfl el146 (GTrait.trs_len _)) ?_
    refine AL.cons rfl (AOp.move (.inl rfl) rfl rfl) ?_
    refine AL.nil ?_
    refine AWP.block ?_
    refine AWP.loopJ (ι := Nat) (fun k => k ≤ (w.gPackages[i]).gTraits.length ∧ (w.gPackages[i]).gTraits.find? (fun x => decide (GTrait.gName x = s)) = ((w.gPackages[i]).gTraits.drop k).find? (fun x => decide (GTrait.gName x = s))) (fun k => ⟨[(0, (GProgram.pv w)), (1, .t (.leaf (.string (s)))), (2, .ptr 0 0), (4, .ptr 1 0), (7, .t (.leaf (.int .i64 (((i : Nat) : Int))))), (8, .ptr 2 0), (12, .t (.row 6 (GPackage.trs (w.gPackages)))), (13, .t (.leaf (.int .i64 (((w.gPackages.length : Nat) : Int))))), (14, .t (.leaf (.int .i64 (((i : Nat) : Int))))), (20, .t (.row 5 (GTrait.trs ((w.gPackages[i]).gTraits)))), (21, .t (.leaf (.int .i64 (((((w.gPackages[i]).gTraits).length : Nat) : Int))))), (22, .t (.leaf (.int .i64 (((k : Nat) : Int)))))], ⟨[some ⟨63, [.t (.row 6 (GPackage.trs (w.gPackages)))]⟩, some ⟨75, [.t (.leaf (.string (⟨#[]⟩))), .nil, .t (.leaf (.bool (false))), .t (.leaf (.bool (false))), .nil]⟩, some ⟨151, [.t (.leaf (.string ((w.gPackages[i]).gName))), .t (.row 1 (strTrs ((w.gPackages[i]).gDeps))), .t (.row 5 (GTrait.trs ((w.gPackages[i]).gTraits))), .t (.row 3 (GDataType.trs ((w.gPackages[i]).gDataTypes))), .t (.row 12 (GInstance.trs ((w.gPackages[i]).gInstances))), .t (.row 16 (GFunction.trs ((w.gPackages[i]).gFunctions)))]⟩], []⟩⟩) (fun k => (w.gPackages[i]).gTraits.length - k) 0 ?_ ?_ ?_
    · exact ⟨Nat.zero_le _, rfl⟩
    · skip
      exact Wk.mk (StLe.mk' ⟨⟨rfl, by (repeat' (first | exact PV.Le.refl _ | exact LeL.nil | exact PV.Le.nil _ | exact PV.Le.acc _ _ _ | apply LeL.cons | apply PV.Le.agg | apply PV.Le.tup)), rfl⟩, ⟨⟨rfl, by (repeat' (first | exact PV.Le.refl _ | exact LeL.nil | exact PV.Le.nil _ | exact PV.Le.acc _ _ _ | apply LeL.cons | apply PV.Le.agg | apply PV.Le.tup)), rfl⟩, ⟨⟨rfl, by (repeat' (first | exact PV.Le.refl _ | exact LeL.nil | exact PV.Le.nil _ | exact PV.Le.acc _ _ _ | apply LeL.cons | apply PV.Le.agg | apply PV.Le.tup)), rfl⟩, trivial⟩⟩⟩ rfl) (keeps_nil hC) ⟨⟨_, rfl, .refl _, rfl⟩, ⟨⟨_, rfl, .refl _, rfl⟩, ⟨⟨_, rfl, .refl _, rfl⟩, ⟨⟨_, rfl, .refl _, rfl⟩, ⟨⟨_, rfl, .refl _, rfl⟩, ⟨⟨_, rfl, .refl _, rfl⟩, ⟨⟨_, rfl, .refl _, rfl⟩, ⟨⟨_, rfl, .refl _, rfl⟩, ⟨⟨_, rfl, .refl _, rfl⟩, ⟨⟨_, rfl, .refl _, rfl⟩, ⟨⟨_, rfl, .refl _, rfl⟩, ⟨⟨_, rfl, by (repeat' (first | exact PV.Le.refl _ | exact LeL.nil | exact PV.Le.nil _ | exact PV.Le.acc _ _ _ | apply LeL.cons | apply PV.Le.agg | apply PV.Le.tup)), rfl⟩, trivial⟩⟩⟩⟩⟩⟩⟩⟩⟩⟩⟩⟩
    rintro k hJ5
    obtain ⟨hk1, hk2⟩ := hJ5
    refine AWP.seq ?_
    refine AWP.region_lit ?_
    refine AL.cons rfl (AOp.lss rfl rfl rfl rfl) ?_
    refine AL.nil ?_
    refine AWP.seq ?_
    refine AWP.cond rfl (fun h6 => ?_) (fun h6 => ?_)
    · skip
      have h6b := h6
      try simp only [Bool.and_eq_true, Bool.or_eq_true, Bool.and_eq_false_iff, Bool.or_eq_false_iff, decide_eq_true_eq, decide_eq_false_iff_not, Bool.not_eq_true', Bool.not_eq_false', Bool.not_eq_eq_eq_not, Bool.not_true, Bool.not_false, ge_iff_le, gt_iff_lt, Int.not_lt, Int.not_le] at h6b
      have h6n : k < ((w.gPackages[i]).gTraits).length := by omega
      refine AWP.skip ?_
      refine AWP.seq ?_
      refine AWP.block ?_
      refine AWP.seq ?_
      refine AWP.region_lit ?_
      refine AL.cons rfl (AOp.index (k := k) rfl rfl rfl rfl rfl (GTrait.trs_cs h6n) el146) ?_
      refine AL.cons rfl (AOp.loadEptr (ds := [.leaf (.string ((((w.gPackages[i]).gTraits)[k]).gName)), .row 1 (strTrs ((((w.gPackages[i]).gTraits)[k]).gSupertraits)), .leaf (.bool ((((w.gPackages[i]).gTraits)[k]).gAuto)), .leaf (.bool ((((w.gPackages[i]).gTraits)[k]).gAssoc)), .row 16 (GSignature.trs ((((w.gPackages[i]).gTraits)[k]).gSignatures))]) rfl rfl rfl sh75 rfl rfl) ?_
      refine AL.cons rfl (AOp.alloc rfl rfl zr75) ?_
      refine AL.cons rfl (AOp.storePtr (cs := [.t (.leaf (.string ((((w.gPackages[i]).gTraits)[k]).gName))), .t (.row 1 (strTrs ((((w.gPackages[i]).gTraits)[k]).gSupertraits))), .t (.leaf (.bool ((((w.gPackages[i]).gTraits)[k]).gAuto))), .t (.leaf (.bool ((((w.gPackages[i]).gTraits)[k]).gAssoc))), .t (.row 16 (GSignature.trs ((((w.gPackages[i]).gTraits)[k]).gSignatures)))]) (ds := [.t (.leaf (.string ((((w.gPackages[i]).gTraits)[k]).gName))), .t (.row 1 (strTrs ((((w.gPackages[i]).gTraits)[k]).gSupertraits))), .t (.leaf (.bool ((((w.gPackages[i]).gTraits)[k]).gAuto))), .t (.leaf (.bool ((((w.gPackages[i]).gTraits)[k]).gAssoc))), .t (.row 16 (GSignature.trs ((((w.gPackages[i]).gTraits)[k]).gSignatures)))]) rfl rfl rfl rfl rfl rfl rfl sz75 (Nat.le_of_ble_eq_true rfl) rfl) ?_
      refine AL.nil ?_
      refine AWP.seq ?_
      refine AWP.region_lit ?_
      refine AL.cons rfl (AOp.fieldPtr (k := 3) (d := 0) (e := 0) rfl rfl rfl fo75_0) ?_
      refine AL.cons rfl (AOp.loadPtr1 rfl rfl rfl rfl sh9 rfl) ?_
      refine AL.cons rfl (AOp.move (.inl rfl) rfl rfl) ?_
      refine AL.cons rfl (AOp.eqlS rfl rfl rfl rfl) ?_
      refine AL.nil ?_
      refine AWP.cond rfl (fun h7 => ?_) (fun h7 => ?_)
      · skip
        have h7b := h7
        try simp only [Bool.and_eq_true, Bool.or_eq_true, Bool.and_eq_false_iff, Bool.or_eq_false_iff, decide_eq_true_eq, decide_eq_false_iff_not, Bool.not_eq_true', Bool.not_eq_false', Bool.not_eq_eq_eq_not, Bool.not_true, Bool.not_false, ge_iff_le, gt_iff_lt, Int.not_lt, Int.not_le] at h7b
        refine AWP.seq ?_
        refine AWP.region_lit ?_
        refine AL.cons rfl (AOp.loadPtr (cs := [.t (.leaf (.string ((((w.gPackages[i]).gTraits)[k]).gName))), .t (.row 1 (strTrs ((((w.gPackages[i]).gTraits)[k]).gSupertraits))), .t (.leaf (.bool ((((w.gPackages[i]).gTraits)[k]).gAuto))), .t (.leaf (.bool ((((w.gPackages[i]).gTraits)[k]).gAssoc))), .t (.row 16 (GSignature.trs ((((w.gPackages[i]).gTraits)[k]).gSignatures)))]) rfl rfl rfl rfl sh75 rfl rfl) ?_
        refine AL.cons rfl (AOp.move (.inl rfl) rfl rfl) ?_
        refine AL.cons rfl (AOp.storePtr (cs := [.t (.leaf (.string ((((w.gPackages[i]).gTraits)[k]).gName))), .t (.row 1 (strTrs ((((w.gPackages[i]).gTraits)[k]).gSupertraits))), .t (.leaf (.bool ((((w.gPackages[i]).gTraits)[k]).gAuto))), .t (.leaf (.bool ((((w.gPackages[i]).gTraits)[k]).gAssoc))), .t (.row 16 (GSignature.trs ((((w.gPackages[i]).gTraits)[k]).gSignatures)))]) (ds := [.t (.leaf (.string ((((w.gPackages[i]).gTraits)[k]).gName))), .t (.row 1 (strTrs ((((w.gPackages[i]).gTraits)[k]).gSupertraits))), .t (.leaf (.bool ((((w.gPackages[i]).gTraits)[k]).gAuto))), .t (.leaf (.bool ((((w.gPackages[i]).gTraits)[k]).gAssoc))), .t (.row 16 (GSignature.trs ((((w.gPackages[i]).gTraits)[k]).gSignatures)))]) rfl rfl rfl rfl rfl rfl rfl sz75 (Nat.le_of_ble_eq_true rfl) rfl) ?_
        refine AL.cons rfl (AOp.move (.inr rfl) rfl rfl) ?_
        refine AL.cons rfl (AOp.move (.inr rfl) rfl rfl) ?_
        refine AL.nil ?_
        refine AWP.ret ?_
        exact Ends.mk (ps := [_, _, _]) (.inr rfl) ⟨⟨_, _, _, rfl, rfl, sh75, rfl, rfl⟩, rfl, rfl, trivial⟩ rfl (StLe.mk' (st' := ⟨[], []⟩) trivial rfl) (keeps_nil hC) (q := (.tup [(GTrait.pv (((w.gPackages[i]).gTraits)[k])), .t (.leaf (.int .i64 (((i : Nat) : Int)))), .t (.leaf (.bool (true)))] : PV)) (by (repeat' (first | exact PV.Le.refl _ | exact LeL.nil | exact PV.Le.nil _ | exact PV.Le.acc _ _ _ | apply LeL.cons | apply PV.Le.agg | apply PV.Le.tup))) rfl ⟨by exact optTrait_some (findP_hit (by omega) (by omega) hi2 hk2 (by assumption)), rfl⟩
      · skip
        have h7b := h7
        try simp only [Bool.and_eq_true, Bool.or_eq_true, Bool.and_eq_false_iff, Bool.or_eq_false_iff, decide_eq_true_eq, decide_eq_false_iff_not, Bool.not_eq_true', Bool.not_eq_false', Bool.not_eq_eq_eq_not, Bool.not_true, Bool.not_false, ge_iff_le, gt_iff_lt, Int.not_lt, Int.not_le] at h7b
        refine AWP.skip ?_
        refine AWP.region_lit ?_
        refine AL.cons rfl (AOp.addI rfl rfl rfl rfl (c := ((k + 1 : Nat) : Int)) (by omega) (by omega)) ?_
        refine AL.cons rfl (AOp.move (.inl rfl) rfl rfl) ?_
        refine AL.nil ?_
        refine ⟨k + 1, ?_, ?_, ?_⟩
        · exact ⟨by omega, findP_next (by omega) hk2 (by assumption)⟩
        · skip
          exact Wk.mk (StLe.mk' ⟨⟨rfl, by (repeat' (first | exact PV.Le.refl _ | exact LeL.nil | exact PV.Le.nil _ | exact PV.Le.acc _ _ _ | apply LeL.cons | apply PV.Le.agg | apply PV.Le.tup)), rfl⟩, ⟨⟨rfl, by (repeat' (first | exact PV.Le.refl _ | exact LeL.nil | exact PV.Le.nil _ | exact PV.Le.acc _ _ _ | apply LeL.cons | apply PV.Le.agg | apply PV.Le.tup)), rfl⟩, ⟨⟨rfl, by (repeat' (first | exact PV.Le.refl _ | exact LeL.nil | exact PV.Le.nil _ | exact PV.Le.acc _ _ _ | apply LeL.cons | apply PV.Le.agg | apply PV.Le.tup)), rfl⟩, trivial⟩⟩⟩ rfl) (keeps_nil hC) ⟨⟨_, rfl, .refl _, rfl⟩, ⟨⟨_, rfl, .refl _, rfl⟩, ⟨⟨_, rfl, .refl _, rfl⟩, ⟨⟨_, rfl, .refl _, rfl⟩, ⟨⟨_, rfl, .refl _, rfl⟩, ⟨⟨_, rfl, .refl _, rfl⟩, ⟨⟨_, rfl, .refl _, rfl⟩, ⟨⟨_, rfl, .refl _, rfl⟩, ⟨⟨_, rfl, .refl _, rfl⟩, ⟨⟨_, rfl, .refl _, rfl⟩, ⟨⟨_, rfl, .refl _, rfl⟩, ⟨⟨_, rfl, by (repeat' (first | exact PV.Le.refl _ | exact LeL.nil | exact PV.Le.nil _ | exact PV.Le.acc _ _ _ | apply LeL.cons | apply PV.Le.agg | apply PV.Le.tup)), rfl⟩, trivial⟩⟩⟩⟩⟩⟩⟩⟩⟩⟩⟩⟩
        · omega
    · skip
      have h6b := h6
      try simp only [Bool.and_eq_true, Bool.or_eq_true, Bool.and_eq_false_iff, Bool.or_eq_false_iff, decide_eq_true_eq, decide_eq_false_iff_not, Bool.not_eq_true', Bool.not_eq_false', Bool.not_eq_eq_eq_not, Bool.not_true, Bool.not_false, ge_iff_le, gt_iff_lt, Int.not_lt, Int.not_le] at h6b
      have h6n : k ≥ ((w.gPackages[i]).gTraits).length := by omega
      refine AWP.exit ?_
      refine AWP.region_lit ?_
      refine AL.cons rfl (AOp.addI rfl rfl rfl rfl (c := ((i + 1 : Nat) : Int)) (by omega) (by omega)) ?_
      refine AL.cons rfl (AOp.move (.inl rfl) rfl rfl) ?_
      refine AL.nil ?_
      refine ⟨i + 1, ?_, ?_, ?_⟩
      · exact ⟨by omega, findP_miss (by omega) hi2 hk2 (by omega)⟩
      · skip
        exact Wk.mk (StLe.mk' ⟨⟨rfl, by (repeat' (first | exact PV.Le.refl _ | exact LeL.nil | exact PV.Le.nil _ | exact PV.Le.acc _ _ _ | apply LeL.cons | apply PV.Le.agg | apply PV.Le.tup)), rfl⟩, ⟨⟨rfl, by (repeat' (first | exact PV.Le.refl _ | exact LeL.nil | exact PV.Le.nil _ | exact PV.Le.acc _ _ _ | apply LeL.cons | apply PV.Le.agg | apply PV.Le.tup)), rfl⟩, trivial⟩⟩ rfl) (keeps_nil hC) ⟨⟨_, rfl, .refl _, rfl⟩, ⟨⟨_, rfl, .refl _, rfl⟩, ⟨⟨_, rfl, .refl _, rfl⟩, ⟨⟨_, rfl, .refl _, rfl⟩, ⟨⟨_, rfl, .refl _, rfl⟩, ⟨⟨_, rfl, .refl _, rfl⟩, ⟨⟨_, rfl, by (repeat' (first | exact PV.Le.refl _ | exact LeL.nil | exact PV.Le.nil _ | exact PV.Le.acc _ _ _ | apply LeL.cons | apply PV.Le.agg | apply PV.Le.tup)), rfl⟩, trivial⟩⟩⟩⟩⟩⟩⟩
      · omega
  · skip
    have h3b := h3
    try simp only [Bool.and_eq_true, Bool.or_eq_true, Bool.and_eq_false_iff, Bool.or_eq_false_iff, decide_eq_true_eq, decide_eq_false_iff_not, Bool.not_eq_true', Bool.not_eq_false', Bool.not_eq_eq_eq_not, Bool.not_true, Bool.not_false, ge_iff_le, gt_iff_lt, Int.not_lt, Int.not_le] at h3b
    have h3n : i ≥ w.gPackages.length := by omega
    refine AWP.exit ?_
    refine AWP.seq ?_
    refine AWP.region_lit ?_
    refine AL.cons rfl (AOp.build rfl rfl zr75 pl75 rfl rfl) ?_
    refine AL.cons rfl (AOp.storePtr (cs := [.t (.leaf (.string (⟨#[]⟩))), .nil, .t (.leaf (.bool (false))), .t (.leaf (.bool (false))), .nil]) (ds := [.t (.leaf (.string (⟨#[]⟩))), .nil, .t (.leaf (.bool (false))), .t (.leaf (.bool (false))), .nil]) rfl rfl rfl rfl rfl rfl rfl sz75 (Nat.le_of_ble_eq_true rfl) rfl) ?_
    refine AL.cons rfl (AOp.move (.inr rfl) rfl rfl) ?_
    refine AL.cons rfl (AOp.move (.inr rfl) rfl rfl) ?_
    refine AL.nil ?_
    refine AWP.ret ?_
    exact Ends.mk (ps := [_, _, _]) (.inr rfl) ⟨⟨_, _, _, rfl, rfl, sh75, rfl, rfl⟩, rfl, rfl, trivial⟩ rfl (StLe.mk' (st' := ⟨[], []⟩) trivial rfl) (keeps_nil hC) (q := PV.tup [GTrait.pv GTrait.zero, .t (.leaf (.int .i64 (0))), .t (.leaf (.bool (false)))]) (by (repeat' (first | exact PV.Le.refl _ | exact LeL.nil | exact PV.Le.nil _ | exact PV.Le.acc _ _ _ | apply LeL.cons | apply PV.Le.agg | apply PV.Le.tup))) rfl ⟨by exact optTrait_none (findP_end hi2 (by omega)), rfl⟩

set_option maxRecDepth 100000 in
set_option maxHeartbeats 4000000 in
theorem trait_spec (w : GProgram) (s : ByteArray) : AFun Try.prog 106 [(GProgram.pv w), .t (.leaf (.string (s)))] (.tup [(GTrait.pv (oTrait (w.traitAt s))), .t (.leaf (.int .i64 (oInt (w.traitAt s)))), .t (.leaf (.bool ((w.traitAt s).isSome)))]) := by
  refine ACalls.intro Try.func106 rfl (by first | decide | (simp; done) | (simp; decide)) ?_
  intro C hC
  refine AWP.seq ?_
  refine AWP.region_lit ?_
  refine AL.cons rfl (AOp.box (cs := [.t (.row 6 (GPackage.trs (w.gPackages)))]) rfl rfl rfl rfl rfl) ?_
  refine AL.cons rfl (AOp.alloc rfl rfl zr75) ?_
  refine AL.cons rfl (AOp.move (.inr rfl) rfl rfl) ?_
  refine AL.cons rfl (AOp.move (.inr rfl) rfl rfl) ?_
  refine AL.nil ?_
  refine AWP.seq ?_
  refine AWP.seq ?_
  refine AWP.region_lit ?_
  refine AL.cons rfl (AOp.move (.inr rfl) rfl rfl) ?_
  refine AL.nil ?_
  refine AWP.block ?_
  refine AWP.loopJ (ι := Nat) (fun i => i ≤ w.gPackages.length ∧ findP GTrait.gName GPackage.gTraits s 0 w.gPackages = findP GTrait.gName GPackage.gTraits s i (w.gPackages.drop i)) (fun i => ⟨[(0, (GProgram.pv w)), (1, .t (.leaf (.string (s)))), (2, .ptr 0 0), (4, .ptr 1 0), (7, .t (.leaf (.int .i64 (((i : Nat) : Int)))))], ⟨[some ⟨63, [.t (.row 6 (GPackage.trs (w.gPackages)))]⟩, some ⟨75, [.t (.leaf (.string (⟨#[]⟩))), .nil, .t (.leaf (.bool (false))), .t (.leaf (.bool (false))), .nil]⟩], []⟩⟩) (fun i => w.gPackages.length - i) 0 ?_ ?_ ?_
  · exact ⟨Nat.zero_le _, rfl⟩
  · skip
    exact Wk.mk (StLe.mk' ⟨⟨rfl, by (repeat' (first | exact PV.Le.refl _ | exact LeL.nil | exact PV.Le.nil _ | exact PV.Le.acc _ _ _ | apply LeL.cons | apply PV.Le.agg | apply PV.Le.tup)), rfl⟩, ⟨⟨rfl, by (repeat' (first | exact PV.Le.refl _ | exact LeL.nil | exact PV.Le.nil _ | exact PV.Le.acc _ _ _ | apply LeL.cons | apply PV.Le.agg | apply PV.Le.tup)), rfl⟩, trivial⟩⟩ rfl) (keeps_nil hC) ⟨⟨_, rfl, .refl _, rfl⟩, ⟨⟨_, rfl, .refl _, rfl⟩, ⟨⟨_, rfl, .refl _, rfl⟩, ⟨⟨_, rfl, .refl _, rfl⟩, ⟨⟨_, rfl, by (repeat' (first | exact PV.Le.refl _ | exact LeL.nil | exact PV.Le.nil _ | exact PV.Le.acc _ _ _ | apply LeL.cons | apply PV.Le.agg | apply PV.Le.tup)), rfl⟩, trivial⟩⟩⟩⟩⟩
  rintro i hJ1
  obtain ⟨hi1, hi2⟩ := hJ1
  refine AWP.seq ?_
  refine AWP.seq ?_
  refine AWP.region_lit ?_
  refine AL.cons rfl (AOp.move (.inl rfl) rfl rfl) ?_
  refine AL.cons rfl (AOp.fieldPtr (k := 0) (d := 0) (e := 0) rfl rfl rfl fo63_0) ?_
  refine AL.cons rfl (AOp.loadPtr1 rfl rfl rfl rfl sh61 rfl) ?_
  refine AL.fact (lk_lenN 11 rfl rfl (GPackage.trs_len _)) (fun hl2 => ?_)
  refine AL.cons rfl (AOp.lenN rfl rfl rfl rfl el61 (GPackage.trs_len _)) ?_
  refine AL.cons rfl (AOp.lss rfl rfl rfl rfl) ?_
  refine AL.nil ?_
  refine AWP.cond rfl (fun h3 => ?_) (fun h3 => ?_)
  · skip
    have h3b := h3
    try simp only [Bool.and_eq_true, Bool.or_eq_true, Bool.and_eq_false_iff, Bool.or_eq_false_iff, decide_eq_true_eq, decide_eq_false_iff_not, Bool.not_eq_true', Bool.not_eq_false', Bool.not_eq_eq_eq_not, Bool.not_true, Bool.not_false, ge_iff_le, gt_iff_lt, Int.not_lt, Int.not_le] at h3b
    have h3n : i < w.gPackages.length := by omega
    refine AWP.skip ?_
    refine AWP.seq ?_
    refine AWP.block ?_
    refine AWP.seq ?_
    refine AWP.region_lit ?_
    refine AL.cons rfl (AOp.move (.inr rfl) rfl rfl) ?_
    refine AL.nil ?_
    refine AWP.block ?_
    refine AWP.loopJ (ι := Nat) (fun k => k ≤ (w.gPackages[i]).gTraits.length ∧ (w.gPackages[i]).gTraits.find? (fun x => decide (GTrait.gName x = s)) = ((w.gPackages[i]).gTraits.drop k).find? (fun x => decide (GTrait.gName x = s))) (fun k => ⟨[(0, (GProgram.pv w)), (1, .t (.leaf (.string (s)))), (2, .ptr 0 0), (4, .ptr 1 0), (7, .t (.leaf (.int .i64 (((i : Nat) : Int))))), (8, .t (.leaf (.int .i64 (((k : Nat) : Int)))))], ⟨[some ⟨63, [.t (.row 6 (GPackage.trs (w.gPackages)))]⟩, some ⟨75, [.t (.leaf (.string (⟨#[]⟩))), .nil, .t (.leaf (.bool (false))), .t (.leaf (.bool (false))), .nil]⟩], []⟩⟩) (fun k => (w.gPackages[i]).gTraits.length - k) 0 ?_ ?_ ?_
    · exact ⟨Nat.zero_le _, rfl⟩
    · skip
      exact Wk.mk (StLe.mk' ⟨⟨rfl, by (repeat' (first | exact PV.Le.refl _ | exact LeL.nil | exact PV.Le.nil _ | exact PV.Le.acc _ _ _ | apply LeL.cons | apply PV.Le.agg | apply PV.Le.tup)), rfl⟩, ⟨⟨rfl, by (repeat' (first | exact PV.Le.refl _ | exact LeL.nil | exact PV.Le.nil _ | exact PV.Le.acc _ _ _ | apply LeL.cons | apply PV.Le.agg | apply PV.Le.tup)), rfl⟩, trivial⟩⟩ rfl) (keeps_nil hC) ⟨⟨_, rfl, .refl _, rfl⟩, ⟨⟨_, rfl, .refl _, rfl⟩, ⟨⟨_, rfl, .refl _, rfl⟩, ⟨⟨_, rfl, .refl _, rfl⟩, ⟨⟨_, rfl, .refl _, rfl⟩, ⟨⟨_, rfl, by (repeat' (first | exact PV.Le.refl _ | exact LeL.nil | exact PV.Le.nil _ | exact PV.Le.acc _ _ _ | apply LeL.cons | apply PV.Le.agg | apply PV.Le.tup)), rfl⟩, trivial⟩⟩⟩⟩⟩⟩
    rintro k hJ4
    obtain ⟨hk1, hk2⟩ := hJ4
    refine AWP.seq ?_
    refine AWP.seq ?_
    refine AWP.region_lit ?_
    refine AL.cons rfl (AOp.move (.inl rfl) rfl rfl) ?_
    refine AL.cons rfl (AOp.fieldPtr (k := 0) (d := 0) (e := 0) rfl rfl rfl fo63_0) ?_
    refine AL.cons rfl (AOp.loadPtr1 rfl rfl rfl rfl sh61 rfl) ?_
    refine AL.cons rfl (AOp.move (.inl rfl) rfl rfl) ?_
    refine AL.cons rfl (AOp.index (k := i) rfl rfl rfl rfl rfl (GPackage.trs_cs h3n) el61) ?_
    refine AL.cons rfl (AOp.fieldEptr (cs := (GPackage.cs (w.gPackages[i]))) (e := 2) rfl rfl rfl fo151_2) ?_
    refine AL.cons rfl (AOp.loadEptr1 (d := .row 5 (GTrait.trs ((w.gPackages[i]).gTraits))) rfl rfl rfl sh146 rfl) ?_
    refine AL.fact (lk_lenN 22 rfl rfl (GTrait.trs_len _)) (fun hl5 => ?_)
    refine AL.cons rfl (AOp.lenN rfl rfl rfl rfl el146 (GTrait.trs_len _)) ?_
    refine AL.cons rfl (AOp.lss rfl rfl rfl rfl) ?_
    refine AL.nil ?_
    refine AWP.cond rfl (fun h6 => ?_) (fun h6 => ?_)
    · skip
      have h6b := h6
      try simp only [Bool.and_eq_true, Bool.or_eq_true, Bool.and_eq_false_iff, Bool.or_eq_false_iff, decide_eq_true_eq, decide_eq_false_iff_not, Bool.not_eq_true', Bool.not_eq_false', Bool.not_eq_eq_eq_not, Bool.not_true, Bool.not_false, ge_iff_le, gt_iff_lt, Int.not_lt, Int.not_le] at h6b
      have h6n : k < ((w.gPackages[i]).gTraits).length := by omega
      refine AWP.skip ?_
      refine AWP.seq ?_
      refine AWP.block ?_
      refine AWP.seq ?_
      refine AWP.region_lit ?_
      refine AL.cons rfl (AOp.fieldPtr (k := 0) (d := 0) (e := 0) rfl rfl rfl fo63_0) ?_
      refine AL.cons rfl (AOp.loadPtr1 rfl rfl rfl rfl sh61 rfl) ?_
      refine AL.cons rfl (AOp.move (.inl rfl) rfl rfl) ?_
      refine AL.cons rfl (AOp.index (k := i) rfl rfl rfl rfl rfl (GPackage.trs_cs h3n) el61) ?_
      refine AL.cons rfl (AOp.fieldEptr (cs := (GPackage.cs (w.gPackages[i]))) (e := 2) rfl rfl rfl fo151_2) ?_
      refine AL.cons rfl (AOp.loadEptr1 (d := .row 5 (GTrait.trs ((w.gPackages[i]).gTraits))) rfl rfl rfl sh146 rfl) ?_
      refine AL.cons rfl (AOp.move (.inl rfl) rfl rfl) ?_
      refine AL.cons rfl (AOp.index (k := k) rfl rfl rfl rfl rfl (GTrait.trs_cs h6n) el146) ?_
      refine AL.cons rfl (AOp.fieldEptr (cs := (GTrait.cs (((w.gPackages[i]).gTraits)[k]))) (e := 0) rfl rfl rfl fo75_0) ?_
      refine AL.cons rfl (AOp.loadEptr1 (d := .leaf (.string ((((w.gPackages[i]).gTraits)[k]).gName))) rfl rfl rfl sh9 rfl) ?_
      refine AL.cons rfl (AOp.move (.inl rfl) rfl rfl) ?_
      refine AL.cons rfl (AOp.eqlS rfl rfl rfl rfl) ?_
      refine AL.nil ?_
      refine AWP.cond rfl (fun h7 => ?_) (fun h7 => ?_)
      · skip
        have h7b := h7
        try simp only [Bool.and_eq_true, Bool.or_eq_true, Bool.and_eq_false_iff, Bool.or_eq_false_iff, decide_eq_true_eq, decide_eq_false_iff_not, Bool.not_eq_true', Bool.not_eq_false', Bool.not_eq_eq_eq_not, Bool.not_true, Bool.not_false, ge_iff_le, gt_iff_lt, Int.not_lt, Int.not_le] at h7b
        refine AWP.seq ?_
        refine AWP.region_lit ?_
        refine AL.cons rfl (AOp.fieldPtr (k := 0) (d := 0) (e := 0) rfl rfl rfl fo63_0) ?_
        refine AL.cons rfl (AOp.loadPtr1 rfl rfl rfl rfl sh61 rfl) ?_
        refine AL.cons rfl (AOp.move (.inl rfl) rfl rfl) ?_
        refine AL.cons rfl (AOp.index (k := i) rfl rfl rfl rfl rfl (GPackage.trs_cs h3n) el61) ?_
        refine AL.cons rfl (AOp.fieldEptr (cs := (GPackage.cs (w.gPackages[i]))) (e := 2) rfl rfl rfl fo151_2) ?_
        refine AL.cons rfl (AOp.loadEptr1 (d := .row 5 (GTrait.trs ((w.gPackages[i]).gTraits))) rfl rfl rfl sh146 rfl) ?_
        refine AL.cons rfl (AOp.move (.inl rfl) rfl rfl) ?_
        refine AL.cons rfl (AOp.index (k := k) rfl rfl rfl rfl rfl (GTrait.trs_cs h6n) el146) ?_
        refine AL.cons rfl (AOp.loadEptr (ds := [.leaf (.string ((((w.gPackages[i]).gTraits)[k]).gName)), .row 1 (strTrs ((((w.gPackages[i]).gTraits)[k]).gSupertraits)), .leaf (.bool ((((w.gPackages[i]).gTraits)[k]).gAuto)), .leaf (.bool ((((w.gPackages[i]).gTraits)[k]).gAssoc)), .row 16 (GSignature.trs ((((w.gPackages[i]).gTraits)[k]).gSignatures))]) rfl rfl rfl sh75 rfl rfl) ?_
        refine AL.cons rfl (AOp.move (.inl rfl) rfl rfl) ?_
        refine AL.cons rfl (AOp.storePtr (cs := [.t (.leaf (.string ((((w.gPackages[i]).gTraits)[k]).gName))), .t (.row 1 (strTrs ((((w.gPackages[i]).gTraits)[k]).gSupertraits))), .t (.leaf (.bool ((((w.gPackages[i]).gTraits)[k]).gAuto))), .t (.leaf (.bool ((((w.gPackages[i]).gTraits)[k]).gAssoc))), .t (.row 16 (GSignature.trs ((((w.gPackages[i]).gTraits)[k]).gSignatures)))]) (ds := [.t (.leaf (.string ((((w.gPackages[i]).gTraits)[k]).gName))), .t (.row 1 (strTrs ((((w.gPackages[i]).gTraits)[k]).gSupertraits))), .t (.leaf (.bool ((((w.gPackages[i]).gTraits)[k]).gAuto))), .t (.leaf (.bool ((((w.gPackages[i]).gTraits)[k]).gAssoc))), .t (.row 16 (GSignature.trs ((((w.gPackages[i]).gTraits)[k]).gSignatures)))]) rfl rfl rfl rfl rfl rfl rfl sz75 (Nat.le_of_ble_eq_true rfl) rfl) ?_
        refine AL.cons rfl (AOp.move (.inr rfl) rfl rfl) ?_
        refine AL.cons rfl (AOp.move (.inr rfl) rfl rfl) ?_
        refine AL.nil ?_
        refine AWP.ret ?_
        exact Ends.mk (ps := [_, _, _]) (.inr rfl) ⟨⟨_, _, _, rfl, rfl, sh75, rfl, rfl⟩, rfl, rfl, trivial⟩ rfl (StLe.mk' (st' := ⟨[], []⟩) trivial rfl) (keeps_nil hC) (q := (.tup [(GTrait.pv (((w.gPackages[i]).gTraits)[k])), .t (.leaf (.int .i64 (((i : Nat) : Int)))), .t (.leaf (.bool (true)))] : PV)) (by (repeat' (first | exact PV.Le.refl _ | exact LeL.nil | exact PV.Le.nil _ | exact PV.Le.acc _ _ _ | apply LeL.cons | apply PV.Le.agg | apply PV.Le.tup))) rfl ⟨by exact optTrait_some (findP_hit (by omega) (by omega) hi2 hk2 (by assumption)), rfl⟩
      · skip
        have h7b := h7
        try simp only [Bool.and_eq_true, Bool.or_eq_true, Bool.and_eq_false_iff, Bool.or_eq_false_iff, decide_eq_true_eq, decide_eq_false_iff_not, Bool.not_eq_true', Bool.not_eq_false', Bool.not_eq_eq_eq_not, Bool.not_true, Bool.not_false, ge_iff_le, gt_iff_lt, Int.not_lt, Int.not_le] at h7b
        refine AWP.skip ?_
        refine AWP.region_lit ?_
        refine AL.cons rfl (AOp.move (.inl rfl) rfl rfl) ?_
        refine AL.cons rfl (AOp.addI rfl rfl rfl rfl (c := ((k + 1 : Nat) : Int)) (by omega) (by omega)) ?_
        refine AL.cons rfl (AOp.move (.inr rfl) rfl rfl) ?_
        refine AL.nil ?_
        refine ⟨k + 1, ?_, ?_, ?_⟩
        · exact ⟨by omega, findP_next (by omega) hk2 (by assumption)⟩
        · skip
          exact Wk.mk (StLe.mk' ⟨⟨rfl, by (repeat' (first | exact PV.Le.refl _ | exact LeL.nil | exact PV.Le.nil _ | exact PV.Le.acc _ _ _ | apply LeL.cons | apply PV.Le.agg | apply PV.Le.tup)), rfl⟩, ⟨⟨rfl, by (repeat' (first | exact PV.Le.refl _ | exact LeL.nil | exact PV.Le.nil _ | exact PV.Le.acc _ _ _ | apply LeL.cons | apply PV.Le.agg | apply PV.Le.tup)), rfl⟩, trivial⟩⟩ rfl) (keeps_nil hC) ⟨⟨_, rfl, .refl _, rfl⟩, ⟨⟨_, rfl, .refl _, rfl⟩, ⟨⟨_, rfl, .refl _, rfl⟩, ⟨⟨_, rfl, .refl _, rfl⟩, ⟨⟨_, rfl, .refl _, rfl⟩, ⟨⟨_, rfl, by (repeat' (first | exact PV.Le.refl _ | exact LeL.nil | exact PV.Le.nil _ | exact PV.Le.acc _ _ _ | apply LeL.cons | apply PV.Le.agg | apply PV.Le.tup)), rfl⟩, trivial⟩⟩⟩⟩⟩⟩
        · omega
    · skip
      have h6b := h6
      try simp only [Bool.and_eq_true, Bool.or_eq_true, Bool.and_eq_false_iff, Bool.or_eq_false_iff, decide_eq_true_eq, decide_eq_false_iff_not, Bool.not_eq_true', Bool.not_eq_false', Bool.not_eq_eq_eq_not, Bool.not_true, Bool.not_false, ge_iff_le, gt_iff_lt, Int.not_lt, Int.not_le] at h6b
      have h6n : k ≥ ((w.gPackages[i]).gTraits).length := by omega
      refine AWP.exit ?_
      refine AWP.region_lit ?_
      refine AL.cons rfl (AOp.move (.inl rfl) rfl rfl) ?_
      refine AL.cons rfl (AOp.addI rfl rfl rfl rfl (c := ((i + 1 : Nat) : Int)) (by omega) (by omega)) ?_
      refine AL.cons rfl (AOp.move (.inr rfl) rfl rfl) ?_
      refine AL.nil ?_
      refine ⟨i + 1, ?_, ?_, ?_⟩
      · exact ⟨by omega, findP_miss (by omega) hi2 hk2 (by omega)⟩
      · skip
        exact Wk.mk (StLe.mk' ⟨⟨rfl, by (repeat' (first | exact PV.Le.refl _ | exact LeL.nil | exact PV.Le.nil _ | exact PV.Le.acc _ _ _ | apply LeL.cons | apply PV.Le.agg | apply PV.Le.tup)), rfl⟩, ⟨⟨rfl, by (repeat' (first | exact PV.Le.refl _ | exact LeL.nil | exact PV.Le.nil _ | exact PV.Le.acc _ _ _ | apply LeL.cons | apply PV.Le.agg | apply PV.Le.tup)), rfl⟩, trivial⟩⟩ rfl) (keeps_nil hC) ⟨⟨_, rfl, .refl _, rfl⟩, ⟨⟨_, rfl, .refl _, rfl⟩, ⟨⟨_, rfl, .refl _, rfl⟩, ⟨⟨_, rfl, .refl _, rfl⟩, ⟨⟨_, rfl, by (repeat' (first | exact PV.Le.refl _ | exact LeL.nil | exact PV.Le.nil _ | exact PV.Le.acc _ _ _ | apply LeL.cons | apply PV.Le.agg | apply PV.Le.tup)), rfl⟩, trivial⟩⟩⟩⟩⟩
      · omega
  · skip
    have h3b := h3
    try simp only [Bool.and_eq_true, Bool.or_eq_true, Bool.and_eq_false_iff, Bool.or_eq_false_iff, decide_eq_true_eq, decide_eq_false_iff_not, Bool.not_eq_true', Bool.not_eq_false', Bool.not_eq_eq_eq_not, Bool.not_true, Bool.not_false, ge_iff_le, gt_iff_lt, Int.not_lt, Int.not_le] at h3b
    have h3n : i ≥ w.gPackages.length := by omega
    refine AWP.exit ?_
    refine AWP.seq ?_
    refine AWP.region_lit ?_
    refine AL.cons rfl (AOp.build rfl rfl zr75 pl75 rfl rfl) ?_
    refine AL.cons rfl (AOp.storePtr (cs := [.t (.leaf (.string (⟨#[]⟩))), .nil, .t (.leaf (.bool (false))), .t (.leaf (.bool (false))), .nil]) (ds := [.t (.leaf (.string (⟨#[]⟩))), .nil, .t (.leaf (.bool (false))), .t (.leaf (.bool (false))), .nil]) rfl rfl rfl rfl rfl rfl rfl sz75 (Nat.le_of_ble_eq_true rfl) rfl) ?_
    refine AL.cons rfl (AOp.move (.inr rfl) rfl rfl) ?_
    refine AL.cons rfl (AOp.move (.inr rfl) rfl rfl) ?_
    refine AL.nil ?_
    refine AWP.ret ?_
    exact Ends.mk (ps := [_, _, _]) (.inr rfl) ⟨⟨_, _, _, rfl, rfl, sh75, rfl, rfl⟩, rfl, rfl, trivial⟩ rfl (StLe.mk' (st' := ⟨[], []⟩) trivial rfl) (keeps_nil hC) (q := PV.tup [GTrait.pv GTrait.zero, .t (.leaf (.int .i64 (0))), .t (.leaf (.bool (false)))]) (by (repeat' (first | exact PV.Le.refl _ | exact LeL.nil | exact PV.Le.nil _ | exact PV.Le.acc _ _ _ | apply LeL.cons | apply PV.Le.agg | apply PV.Le.tup))) rfl ⟨by exact optTrait_none (findP_end hi2 (by omega)), rfl⟩

def GProgram.dataAt (w : GProgram) (s : ByteArray) : Option (GDataType × Nat) := findP GDataType.gName GPackage.gDataTypes s 0 w.gPackages
def GDataType.zero : GDataType := .mk ⟨#[]⟩ [] []
def oDataType (o : Option (GDataType × Nat)) : GDataType := match o with | some (x, _) => x | none => GDataType.zero
abbrev optDataType (o : Option (GDataType × Nat)) : PV := .tup [GDataType.pv (oDataType o), .t (.leaf (.int .i64 (oInt o))), .t (.leaf (.bool o.isSome))]
theorem optDataType_some {o : Option (GDataType × Nat)} {x : GDataType} {i : Nat} (h : o = some (x, i)) : PV.tup [GDataType.pv x, .t (.leaf (.int .i64 (i : Int))), .t (.leaf (.bool true))] = optDataType o := by rw [h]; rfl
theorem optDataType_none {o : Option (GDataType × Nat)} (h : o = none) : PV.tup [GDataType.pv GDataType.zero, .t (.leaf (.int .i64 0)), .t (.leaf (.bool false))] = optDataType o := by rw [h]; rfl

def GProgram.functionAt (w : GProgram) (s : ByteArray) : Option (GFunction × Nat) := findP GFunction.gName GPackage.gFunctions s 0 w.gPackages
def GFunction.zero : GFunction := .mk ⟨#[]⟩ [] [] [] (.mk 0 ⟨#[]⟩ []) (.mk 0 ⟨#[]⟩ ⟨#[]⟩ 0 (.mk 0 ⟨#[]⟩ []) [] [])
def oFunction (o : Option (GFunction × Nat)) : GFunction := match o with | some (x, _) => x | none => GFunction.zero
abbrev optFunction (o : Option (GFunction × Nat)) : PV := .tup [GFunction.pv (oFunction o), .t (.leaf (.int .i64 (oInt o))), .t (.leaf (.bool o.isSome))]
theorem optFunction_some {o : Option (GFunction × Nat)} {x : GFunction} {i : Nat} (h : o = some (x, i)) : PV.tup [GFunction.pv x, .t (.leaf (.int .i64 (i : Int))), .t (.leaf (.bool true))] = optFunction o := by rw [h]; rfl
theorem optFunction_none {o : Option (GFunction × Nat)} (h : o = none) : PV.tup [GFunction.pv GFunction.zero, .t (.leaf (.int .i64 0)), .t (.leaf (.bool false))] = optFunction o := by rw [h]; rfl

end Go.Proofs.Ytoifjkggpanceaa

namespace Go.Proofs.Ytoifjkggpanceaa
open Go.RowKit Go.Proofs
set_option linter.unusedSimpArgs false
set_option linter.unusedVariables false


instance memDec (s : ByteArray) (l : List ByteArray) : Decidable (s ∈ l) := decidable_of_iff (l.any (fun x => decide (x = s)) = true) (by simp)
def idxS (l : List ByteArray) (s : ByteArray) : Int := match l.findIdx? (fun x => decide (x = s)) with | some i => (i : Int) | none => -1
theorem idxS_hit {l : List ByteArray} {s : ByteArray} {i : Nat} (h : i < l.length) (hm : ∀ (j : Nat) (hj : j < l.length), j < i → ¬ l[j] = s) (he : l[i] = s) : idxS l s = (i : Int) := by
  have : l.findIdx? (fun x => decide (x = s)) = some i := by
    rw [List.findIdx?_eq_some_iff_getElem]
    exact ⟨h, by simpa using he, fun j hj => by simpa using hm j (by omega) hj⟩
  simp [idxS, this]
theorem idxS_miss {l : List ByteArray} {s : ByteArray} (hm : ∀ (j : Nat) (hj : j < l.length), ¬ l[j] = s) : idxS l s = -1 := by
  have : l.findIdx? (fun x => decide (x = s)) = none := by
    rw [List.findIdx?_eq_none_iff]
    intro x hx
    obtain ⟨j, hj, rfl⟩ := List.mem_iff_getElem.1 hx
    simpa using hm j hj
  simp [idxS, this]
theorem idxS_mem (l : List ByteArray) (s : ByteArray) : decide (idxS l s ≥ 0) = decide (s ∈ l) := by
  by_cases h : s ∈ l
  · cases hq : l.findIdx? (fun x => decide (x = s)) with
    | none =>
      rw [List.findIdx?_eq_none_iff] at hq
      have := hq s h
      simp at this
    | some i => simp [idxS, hq, h]
  · have : l.findIdx? (fun x => decide (x = s)) = none := by
      rw [List.findIdx?_eq_none_iff]
      intro x hx
      simp only [decide_eq_false_iff_not]
      rintro rfl
      exact h hx
    simp [idxS, this, h]
theorem mem_hit {l : List ByteArray} {s : ByteArray} {i : Nat} (h : i < l.length) (he : l[i] = s) : decide (s ∈ l) = true := by
  subst he
  simp
theorem mem_miss {l : List ByteArray} {s : ByteArray} (hm : ∀ (j : Nat) (hj : j < l.length), ¬ l[j] = s) : decide (s ∈ l) = false := by
  simp only [decide_eq_false_iff_not]
  intro h
  obtain ⟨j, hj, he⟩ := List.mem_iff_getElem.1 h
  exact hm j hj he
theorem miss_next {l : List ByteArray} {s : ByteArray} {i : Nat} (hm : ∀ (j : Nat) (hj : j < l.length), j < i → ¬ l[j] = s) (h : i < l.length) (he : ¬ l[i] = s) : ∀ (j : Nat) (hj : j < l.length), j < i + 1 → ¬ l[j] = s := fun j hj hji => by
  rcases Nat.lt_or_ge j i with h1 | h1
  · exact hm j hj h1
  · have : j = i := by omega
    subst this
    exact he

theorem findP_mem {α : Type} {key : α → ByteArray} {items : GPackage → List α} {s : ByteArray} {x : α × Nat} : ∀ {ps : List GPackage} {i : Nat}, findP key items s i ps = some x → ∃ p ∈ ps, x.1 ∈ items p
  | [], _, h => by simp [findP] at h
  | p :: ps, i, h => by
    rw [findP] at h
    split at h
    · rename_i y hy
      cases h
      exact ⟨p, by simp, List.mem_of_find?_eq_some hy⟩
    · obtain ⟨q, hq, hx⟩ := findP_mem h
      exact ⟨q, by simp [hq], hx⟩
theorem traitAt_mem {w : GProgram} {s : ByteArray} {x : GTrait × Nat} (h : w.traitAt s = some x) : ∃ p ∈ w.gPackages, x.1 ∈ p.gTraits := findP_mem h

def GProgram.allSup (w : GProgram) : List ByteArray := (w.gPackages.flatMap (fun p => p.gTraits)).flatMap (fun t => t.gSupertraits)
def supM (w : GProgram) (out : List ByteArray) : Nat := w.allSup.countP (fun s => decide (¬ s ∈ out))
def supF (w : GProgram) : Nat → ByteArray → List ByteArray → List ByteArray
  | 0, _, out => out
  | n + 1, name, out => ((oTrait (w.traitAt name)).gSupertraits).foldl (fun o s => if s ∈ o then o else supF w n s (o ++ [s])) out
def GProgram.supers (w : GProgram) (name : ByteArray) : List ByteArray := supF w (supM w [] + 1) name []
theorem sup_mem {w : GProgram} {name s : ByteArray} (h : s ∈ (oTrait (w.traitAt name)).gSupertraits) : s ∈ w.allSup := by
  cases hq : w.traitAt name with
  | none =>
    rw [hq] at h
    simp [oTrait, GTrait.zero] at h
  | some x =>
    rw [hq] at h
    have h : s ∈ x.1.gSupertraits := h
    have hm : ∃ p ∈ w.gPackages, x.1 ∈ p.gTraits := traitAt_mem hq
    obtain ⟨p, hp, hx⟩ := hm
    exact List.mem_flatMap.2 ⟨x.1, List.mem_flatMap.2 ⟨p, hp, hx⟩, h⟩
theorem countP_lt {α : Type} {p q : α → Bool} {l : List α} (h : ∀ x, q x = true → p x = true) {a : α} (ha : a ∈ l) (hp : p a = true) (hq : q a = false) : l.countP q + 1 ≤ l.countP p := by
  induction l with
  | nil => cases ha
  | cons b l ih =>
    rw [List.countP_cons, List.countP_cons]
    have hle : l.countP q ≤ l.countP p := List.countP_mono_left fun x _ => h x
    rcases List.mem_cons.1 ha with rfl | ha
    · simp [hp, hq]; omega
    · have := ih ha
      have : (if q b = true then 1 else 0) ≤ (if p b = true then 1 else 0) := by
        split
        · rw [if_pos (h b (by assumption))]; omega
        · omega
      omega
theorem sup_step {w : GProgram} {name : ByteArray} {o : List ByteArray} {s : ByteArray} (hs : s ∈ (oTrait (w.traitAt name)).gSupertraits) (hn : ¬ s ∈ o) : supM w (o ++ [s]) + 1 ≤ supM w o := by
  unfold supM
  refine countP_lt (fun x hx => ?_) (sup_mem hs) (by simpa using hn) (by simp)
  simp only [decide_eq_true_eq, List.mem_append, not_or] at hx ⊢
  exact hx.1
theorem supM_le {w : GProgram} (h : w.allSup.length ≤ 1099511627776) : ([] : List ByteArray).length + supM w [] ≤ 1099511627776 := by
  have := List.countP_le_length (p := fun s => decide (¬ s ∈ ([] : List ByteArray))) (l := w.allSup)
  unfold supM
  simp only [List.length_nil]
  omega
/-- What the run has put in stays within what there is. -/
theorem supF_inv (w : GProgram) : ∀ (n : Nat) (name : ByteArray) (out : List ByteArray), supM w (supF w n name out) ≤ supM w out ∧ (supF w n name out).length + supM w (supF w n name out) ≤ out.length + supM w out
  | 0, name, out => ⟨Nat.le_refl _, Nat.le_refl _⟩
  | n + 1, name, out => by
    rw [supF]
    have key : ∀ (l : List ByteArray) (o : List ByteArray), (∀ s ∈ l, s ∈ (oTrait (w.traitAt name)).gSupertraits) → supM w (l.foldl (fun o s => if s ∈ o then o else supF w n s (o ++ [s])) o) ≤ supM w o ∧ (l.foldl (fun o s => if s ∈ o then o else supF w n s (o ++ [s])) o).length + supM w (l.foldl (fun o s => if s ∈ o then o else supF w n s (o ++ [s])) o) ≤ o.length + supM w o := by
      intro l
      induction l with
      | nil => intro o _; exact ⟨Nat.le_refl _, Nat.le_refl _⟩
      | cons s l ih =>
        intro o hl
        rw [List.foldl_cons]
        have h1 := ih (if s ∈ o then o else supF w n s (o ++ [s])) (fun x hx => hl x (by simp [hx]))
        split at h1
        · rename_i hso
          rw [if_pos hso]
          exact h1
        · rename_i hso
          rw [if_neg hso]
          have h2 := supF_inv w n s (o ++ [s])
          have h3 := sup_step (w := w) (name := name) (hl s (by simp)) hso
          have h4 : (o ++ [s]).length = o.length + 1 := by simp
          omega
    exact key _ _ fun s hs => hs
theorem fold_next {α β : Type} {f : β → α → β} {o o' r : β} {l : List α} {i : Nat} (h : i < l.length) (hr : r = (l.drop i).foldl f o) (hs : f o l[i] = o') : r = (l.drop (i + 1)).foldl f o' := by
  rw [hr, List.drop_eq_getElem_cons h, List.foldl_cons, hs]
theorem fold_end {α β : Type} {f : β → α → β} {o r : β} {l : List α} {i : Nat} (h : l.length ≤ i) (hr : r = (l.drop i).foldl f o) : r = o := by
  rw [hr, List.drop_of_length_le h, List.foldl_nil]
theorem supJ_has {w : GProgram} {n : Nat} {name : ByteArray} {out o r : List ByteArray} {i : Nat} (h : i < (oTrait (w.traitAt name)).gSupertraits.length) (h2 : r = (((oTrait (w.traitAt name)).gSupertraits).drop i).foldl (fun o s => if s ∈ o then o else supF w n s (o ++ [s])) o)
    (h3 : supM w o ≤ supM w out) (h4 : o.length + supM w o ≤ out.length + supM w out) (hm : (oTrait (w.traitAt name)).gSupertraits[i] ∈ o) :
    i + 1 ≤ (oTrait (w.traitAt name)).gSupertraits.length ∧ r = (((oTrait (w.traitAt name)).gSupertraits).drop (i + 1)).foldl (fun o s => if s ∈ o then o else supF w n s (o ++ [s])) o ∧ supM w o ≤ supM w out ∧ o.length + supM w o ≤ out.length + supM w out :=
  ⟨h, fold_next h h2 (by simp [hm]), h3, h4⟩
theorem supJ_new {w : GProgram} {n : Nat} {name : ByteArray} {out o r : List ByteArray} {i : Nat} (h : i < (oTrait (w.traitAt name)).gSupertraits.length) (h2 : r = (((oTrait (w.traitAt name)).gSupertraits).drop i).foldl (fun o s => if s ∈ o then o else supF w n s (o ++ [s])) o)
    (h3 : supM w o ≤ supM w out) (h4 : o.length + supM w o ≤ out.length + supM w out) (hm : ¬ (oTrait (w.traitAt name)).gSupertraits[i] ∈ o) {o' : List ByteArray} (ho : supF w n (oTrait (w.traitAt name)).gSupertraits[i] (o ++ [(oTrait (w.traitAt name)).gSupertraits[i]]) = o') :
    i + 1 ≤ (oTrait (w.traitAt name)).gSupertraits.length ∧ r = (((oTrait (w.traitAt name)).gSupertraits).drop (i + 1)).foldl (fun o s => if s ∈ o then o else supF w n s (o ++ [s])) o' ∧ supM w o' ≤ supM w out ∧ o'.length + supM w o' ≤ out.length + supM w out := by
  have h5 := supF_inv w n (oTrait (w.traitAt name)).gSupertraits[i] (o ++ [(oTrait (w.traitAt name)).gSupertraits[i]])
  have h6 := sup_step (w := w) (name := name) (o := o) (List.getElem_mem h) hm
  have h7 : (o ++ [(oTrait (w.traitAt name)).gSupertraits[i]]).length = o.length + 1 := by simp
  subst ho
  exact ⟨h, fold_next h h2 (by simp [hm]), by omega, by omega⟩
theorem keeps_rows {C : Ctx} {r : PRow} {S : Sto} (h : C.st = ⟨[], [r]⟩) (hl : 1 ≤ S.rows.length) : Keeps0 C.st S := by
  rw [h]
  exact ⟨fun k x hx => by simp at hx, fun k row hk => by
    rcases k with _ | k
    · exact ⟨S.rows[0], List.getElem?_eq_getElem hl⟩
    · simp at hk⟩

set_option maxRecDepth 100000 in
set_option maxHeartbeats 4000000 in
theorem idxS_ok (l : List ByteArray) (s : ByteArray) : AFun Try.prog 167 [.t (.row 1 (strTrs (l))), .t (.leaf (.string (s)))] (.t (.leaf (.int .i64 (idxS l s)))) := by
  refine ACalls.intro Try.func167 rfl (by first | decide | (simp; done) | (simp; decide)) ?_
  intro C hC
  refine AWP.fact (lk_lenN 0 rfl rfl (strTrs_len _)) (fun hl1 => ?_)
  refine AWP.seq ?_
  refine AWP.region_lit ?_
  refine AL.cons rfl (AOp.move (.inr rfl) rfl rfl) ?_
  refine AL.nil ?_
  refine AWP.seq ?_
  refine AWP.seq ?_
  refine AWP.region_lit ?_
  refine AL.cons rfl (AOp.move (.inl rfl) rfl rfl) ?_
  refine AL.cons rfl (AOp.lenN rfl rfl rfl rfl el66 (strTrs_len _)) ?_
  refine AL.cons rfl (AOp.move (.inl rfl) rfl rfl) ?_
  refine AL.nil ?_
  refine AWP.block ?_
  refine AWP.loopJ (ι := Nat) (fun i => i ≤ l.length ∧ ∀ (j : Nat) (hj : j < l.length), j < i → ¬ l[j] = s) (fun i => ⟨[(0, .t (.row 1 (strTrs (l)))), (1, .t (.leaf (.string (s)))), (7, .t (.leaf (.int .i64 (((l.length : Nat) : Int))))), (8, .t (.leaf (.int .i64 (((i : Nat) : Int)))))], ⟨[], []⟩⟩) (fun i => l.length - i) 0 ?_ ?_ ?_
  · exact ⟨Nat.zero_le _, fun j hj h => absurd h (Nat.not_lt_zero _)⟩
  · skip
    exact Wk.mk (StLe.mk' trivial rfl) (keeps_nil hC) ⟨⟨_, rfl, .refl _, rfl⟩, ⟨⟨_, rfl, .refl _, rfl⟩, ⟨⟨_, rfl, .refl _, rfl⟩, ⟨⟨_, rfl, by (repeat' (first | exact PV.Le.refl _ | exact LeL.nil | exact PV.Le.nil _ | exact PV.Le.acc _ _ _ | apply LeL.cons | apply PV.Le.agg | apply PV.Le.tup)), rfl⟩, trivial⟩⟩⟩⟩
  rintro i hJ2
  obtain ⟨hi1, hi2⟩ := hJ2
  refine AWP.seq ?_
  refine AWP.region_lit ?_
  refine AL.cons rfl (AOp.lss rfl rfl rfl rfl) ?_
  refine AL.nil ?_
  refine AWP.seq ?_
  refine AWP.cond rfl (fun h3 => ?_) (fun h3 => ?_)
  · skip
    have h3b := h3
    try simp only [Bool.and_eq_true, Bool.or_eq_true, Bool.and_eq_false_iff, Bool.or_eq_false_iff, decide_eq_true_eq, decide_eq_false_iff_not, Bool.not_eq_true', Bool.not_eq_false', Bool.not_eq_eq_eq_not, Bool.not_true, Bool.not_false, ge_iff_le, gt_iff_lt, Int.not_lt, Int.not_le] at h3b
    have h3n : i < l.length := by omega
    refine AWP.skip ?_
    refine AWP.seq ?_
    refine AWP.block ?_
    refine AWP.seq ?_
    refine AWP.region_lit ?_
    refine AL.cons rfl (AOp.move (.inl rfl) rfl rfl) ?_
    refine AL.cons rfl (AOp.move (.inr rfl) rfl rfl) ?_
    refine AL.nil ?_
    refine AWP.seq ?_
    refine AWP.region_lit ?_
    refine AL.cons rfl (AOp.move (.inl rfl) rfl rfl) ?_
    refine AL.cons rfl (AOp.move (.inl rfl) rfl rfl) ?_
    refine AL.cons rfl (AOp.move (.inl rfl) rfl rfl) ?_
    refine AL.cons rfl (AOp.index (k := i) rfl rfl rfl rfl rfl (strTrs_cs h3n) el66) ?_
    refine AL.cons rfl (AOp.loadEptr1 (d := .leaf (.string (l[i]))) rfl rfl rfl sh9 rfl) ?_
    refine AL.cons rfl (AOp.eqlS rfl rfl rfl rfl) ?_
    refine AL.nil ?_
    refine AWP.cond rfl (fun h4 => ?_) (fun h4 => ?_)
    · skip
      have h4b := h4
      try simp only [Bool.and_eq_true, Bool.or_eq_true, Bool.and_eq_false_iff, Bool.or_eq_false_iff, decide_eq_true_eq, decide_eq_false_iff_not, Bool.not_eq_true', Bool.not_eq_false', Bool.not_eq_eq_eq_not, Bool.not_true, Bool.not_false, ge_iff_le, gt_iff_lt, Int.not_lt, Int.not_le] at h4b
      refine AWP.seq ?_
      refine AWP.region_lit ?_
      refine AL.cons rfl (AOp.move (.inl rfl) rfl rfl) ?_
      refine AL.cons rfl (AOp.move (.inr rfl) rfl rfl) ?_
      refine AL.nil ?_
      refine AWP.ret ?_
      exact Ends.mk (ps := [_]) (.inr rfl) ⟨rfl, trivial⟩ rfl (StLe.mk' (st' := ⟨[], []⟩) trivial rfl) (keeps_nil hC) (q := (.t (.leaf (.int .i64 (((i : Nat) : Int)))) : PV)) (by (repeat' (first | exact PV.Le.refl _ | exact LeL.nil | exact PV.Le.nil _ | exact PV.Le.acc _ _ _ | apply LeL.cons | apply PV.Le.agg | apply PV.Le.tup))) rfl ⟨by rw [idxS_hit (by omega) hi2 (by first | assumption | (apply Eq.symm; assumption))], rfl⟩
    · skip
      have h4b := h4
      try simp only [Bool.and_eq_true, Bool.or_eq_true, Bool.and_eq_false_iff, Bool.or_eq_false_iff, decide_eq_true_eq, decide_eq_false_iff_not, Bool.not_eq_true', Bool.not_eq_false', Bool.not_eq_eq_eq_not, Bool.not_true, Bool.not_false, ge_iff_le, gt_iff_lt, Int.not_lt, Int.not_le] at h4b
      refine AWP.skip ?_
      refine AWP.region_lit ?_
      refine AL.cons rfl (AOp.addI rfl rfl rfl rfl (c := ((i + 1 : Nat) : Int)) (by omega) (by omega)) ?_
      refine AL.cons rfl (AOp.move (.inl rfl) rfl rfl) ?_
      refine AL.nil ?_
      refine ⟨i + 1, ?_, ?_, ?_⟩
      · exact ⟨by omega, miss_next hi2 (by omega) (by first | assumption | (intro hx; exact absurd hx.symm (by assumption)))⟩
      · skip
        exact Wk.mk (StLe.mk' trivial rfl) (keeps_nil hC) ⟨⟨_, rfl, .refl _, rfl⟩, ⟨⟨_, rfl, .refl _, rfl⟩, ⟨⟨_, rfl, .refl _, rfl⟩, ⟨⟨_, rfl, by (repeat' (first | exact PV.Le.refl _ | exact LeL.nil | exact PV.Le.nil _ | exact PV.Le.acc _ _ _ | apply LeL.cons | apply PV.Le.agg | apply PV.Le.tup)), rfl⟩, trivial⟩⟩⟩⟩
      · omega
  · skip
    have h3b := h3
    try simp only [Bool.and_eq_true, Bool.or_eq_true, Bool.and_eq_false_iff, Bool.or_eq_false_iff, decide_eq_true_eq, decide_eq_false_iff_not, Bool.not_eq_true', Bool.not_eq_false', Bool.not_eq_eq_eq_not, Bool.not_true, Bool.not_false, ge_iff_le, gt_iff_lt, Int.not_lt, Int.not_le] at h3b
    have h3n : i ≥ l.length := by omega
    refine AWP.exit ?_
    refine AWP.seq ?_
    refine AWP.region_lit ?_
    refine AL.cons rfl (AOp.move (.inr rfl) rfl rfl) ?_
    refine AL.nil ?_
    refine AWP.ret ?_
    exact Ends.mk (ps := [_]) (.inr rfl) ⟨rfl, trivial⟩ rfl (StLe.mk' (st' := ⟨[], []⟩) trivial rfl) (keeps_nil hC) (q := (.t (.leaf (.int .i64 (-1))) : PV)) (by (repeat' (first | exact PV.Le.refl _ | exact LeL.nil | exact PV.Le.nil _ | exact PV.Le.acc _ _ _ | apply LeL.cons | apply PV.Le.agg | apply PV.Le.tup))) rfl ⟨by rw [idxS_miss (fun j hj => hi2 j hj (by omega))], rfl⟩

set_option maxRecDepth 100000 in
set_option maxHeartbeats 4000000 in
theorem has_spec (l : List ByteArray) (s : ByteArray) : AFun Try.prog 104 [.t (.row 1 (strTrs (l))), .t (.leaf (.string (s)))] (.t (.leaf (.bool (decide (s ∈ l))))) := by
  refine ACalls.intro Try.func104 rfl (by first | decide | (simp; done) | (simp; decide)) ?_
  intro C hC
  refine AWP.fact (lk_lenN 0 rfl rfl (strTrs_len _)) (fun hl1 => ?_)
  refine AWP.seq ?_
  refine AWP.region_lit ?_
  refine AL.cons rfl (AOp.move (.inr rfl) rfl rfl) ?_
  refine AL.nil ?_
  refine AWP.seq ?_
  refine AWP.seq ?_
  refine AWP.region_lit ?_
  refine AL.cons rfl (AOp.move (.inr rfl) rfl rfl) ?_
  refine AL.nil ?_
  refine AWP.block ?_
  refine AWP.loopJ (ι := Nat) (fun i => i ≤ l.length ∧ ∀ (j : Nat) (hj : j < l.length), j < i → ¬ l[j] = s) (fun i => ⟨[(0, .t (.row 1 (strTrs (l)))), (1, .t (.leaf (.string (s)))), (5, .t (.leaf (.int .i64 (((i : Nat) : Int)))))], ⟨[], []⟩⟩) (fun i => l.length - i) 0 ?_ ?_ ?_
  · exact ⟨Nat.zero_le _, fun j hj h => absurd h (Nat.not_lt_zero _)⟩
  · skip
    exact Wk.mk (StLe.mk' trivial rfl) (keeps_nil hC) ⟨⟨_, rfl, .refl _, rfl⟩, ⟨⟨_, rfl, .refl _, rfl⟩, ⟨⟨_, rfl, by (repeat' (first | exact PV.Le.refl _ | exact LeL.nil | exact PV.Le.nil _ | exact PV.Le.acc _ _ _ | apply LeL.cons | apply PV.Le.agg | apply PV.Le.tup)), rfl⟩, trivial⟩⟩⟩
  rintro i hJ2
  obtain ⟨hi1, hi2⟩ := hJ2
  refine AWP.seq ?_
  refine AWP.seq ?_
  refine AWP.region_lit ?_
  refine AL.cons rfl (AOp.move (.inl rfl) rfl rfl) ?_
  refine AL.cons rfl (AOp.move (.inl rfl) rfl rfl) ?_
  refine AL.cons rfl (AOp.lenN rfl rfl rfl rfl el66 (strTrs_len _)) ?_
  refine AL.cons rfl (AOp.lss rfl rfl rfl rfl) ?_
  refine AL.nil ?_
  refine AWP.cond rfl (fun h3 => ?_) (fun h3 => ?_)
  · skip
    have h3b := h3
    try simp only [Bool.and_eq_true, Bool.or_eq_true, Bool.and_eq_false_iff, Bool.or_eq_false_iff, decide_eq_true_eq, decide_eq_false_iff_not, Bool.not_eq_true', Bool.not_eq_false', Bool.not_eq_eq_eq_not, Bool.not_true, Bool.not_false, ge_iff_le, gt_iff_lt, Int.not_lt, Int.not_le] at h3b
    have h3n : i < l.length := by omega
    refine AWP.skip ?_
    refine AWP.seq ?_
    refine AWP.block ?_
    refine AWP.seq ?_
    refine AWP.region_lit ?_
    refine AL.cons rfl (AOp.move (.inl rfl) rfl rfl) ?_
    refine AL.cons rfl (AOp.move (.inl rfl) rfl rfl) ?_
    refine AL.cons rfl (AOp.index (k := i) rfl rfl rfl rfl rfl (strTrs_cs h3n) el66) ?_
    refine AL.cons rfl (AOp.loadEptr1 (d := .leaf (.string (l[i]))) rfl rfl rfl sh9 rfl) ?_
    refine AL.cons rfl (AOp.move (.inl rfl) rfl rfl) ?_
    refine AL.cons rfl (AOp.eqlS rfl rfl rfl rfl) ?_
    refine AL.nil ?_
    refine AWP.cond rfl (fun h4 => ?_) (fun h4 => ?_)
    · skip
      have h4b := h4
      try simp only [Bool.and_eq_true, Bool.or_eq_true, Bool.and_eq_false_iff, Bool.or_eq_false_iff, decide_eq_true_eq, decide_eq_false_iff_not, Bool.not_eq_true', Bool.not_eq_false', Bool.not_eq_eq_eq_not, Bool.not_true, Bool.not_false, ge_iff_le, gt_iff_lt, Int.not_lt, Int.not_le] at h4b
      refine AWP.seq ?_
      refine AWP.region_lit ?_
      refine AL.cons rfl (AOp.move (.inr rfl) rfl rfl) ?_
      refine AL.nil ?_
      refine AWP.ret ?_
      exact Ends.mk (ps := [_]) (.inr rfl) ⟨rfl, trivial⟩ rfl (StLe.mk' (st' := ⟨[], []⟩) trivial rfl) (keeps_nil hC) (q := (.t (.leaf (.bool (true))) : PV)) (by (repeat' (first | exact PV.Le.refl _ | exact LeL.nil | exact PV.Le.nil _ | exact PV.Le.acc _ _ _ | apply LeL.cons | apply PV.Le.agg | apply PV.Le.tup))) rfl ⟨by rw [mem_hit (by omega) (by first | assumption | (apply Eq.symm; assumption))], rfl⟩
    · skip
      have h4b := h4
      try simp only [Bool.and_eq_true, Bool.or_eq_true, Bool.and_eq_false_iff, Bool.or_eq_false_iff, decide_eq_true_eq, decide_eq_false_iff_not, Bool.not_eq_true', Bool.not_eq_false', Bool.not_eq_eq_eq_not, Bool.not_true, Bool.not_false, ge_iff_le, gt_iff_lt, Int.not_lt, Int.not_le] at h4b
      refine AWP.skip ?_
      refine AWP.region_lit ?_
      refine AL.cons rfl (AOp.move (.inl rfl) rfl rfl) ?_
      refine AL.cons rfl (AOp.addI rfl rfl rfl rfl (c := ((i + 1 : Nat) : Int)) (by omega) (by omega)) ?_
      refine AL.cons rfl (AOp.move (.inr rfl) rfl rfl) ?_
      refine AL.nil ?_
      refine ⟨i + 1, ?_, ?_, ?_⟩
      · exact ⟨by omega, miss_next hi2 (by omega) (by first | assumption | (intro hx; exact absurd hx.symm (by assumption)))⟩
      · skip
        exact Wk.mk (StLe.mk' trivial rfl) (keeps_nil hC) ⟨⟨_, rfl, .refl _, rfl⟩, ⟨⟨_, rfl, .refl _, rfl⟩, ⟨⟨_, rfl, by (repeat' (first | exact PV.Le.refl _ | exact LeL.nil | exact PV.Le.nil _ | exact PV.Le.acc _ _ _ | apply LeL.cons | apply PV.Le.agg | apply PV.Le.tup)), rfl⟩, trivial⟩⟩⟩
      · omega
  · skip
    have h3b := h3
    try simp only [Bool.and_eq_true, Bool.or_eq_true, Bool.and_eq_false_iff, Bool.or_eq_false_iff, decide_eq_true_eq, decide_eq_false_iff_not, Bool.not_eq_true', Bool.not_eq_false', Bool.not_eq_eq_eq_not, Bool.not_true, Bool.not_false, ge_iff_le, gt_iff_lt, Int.not_lt, Int.not_le] at h3b
    have h3n : i ≥ l.length := by omega
    refine AWP.exit ?_
    refine AWP.seq ?_
    refine AWP.region_lit ?_
    refine AL.cons rfl (AOp.move (.inr rfl) rfl rfl) ?_
    refine AL.nil ?_
    refine AWP.ret ?_
    exact Ends.mk (ps := [_]) (.inr rfl) ⟨rfl, trivial⟩ rfl (StLe.mk' (st' := ⟨[], []⟩) trivial rfl) (keeps_nil hC) (q := (.t (.leaf (.bool (false))) : PV)) (by (repeat' (first | exact PV.Le.refl _ | exact LeL.nil | exact PV.Le.nil _ | exact PV.Le.acc _ _ _ | apply LeL.cons | apply PV.Le.agg | apply PV.Le.tup))) rfl ⟨by rw [mem_miss (fun j hj => hi2 j hj (by omega))], rfl⟩

set_option maxRecDepth 100000 in
set_option maxHeartbeats 4000000 in
theorem indexOf_ok (l : List ByteArray) (s : ByteArray) : AFun Try.prog 108 [.t (.row 1 (strTrs (l))), .t (.leaf (.string (s)))] (.t (.leaf (.int .i64 (idxS l s)))) := by
  refine ACalls.intro Try.func108 rfl (by first | decide | (simp; done) | (simp; decide)) ?_
  intro C hC
  refine AWP.fact (lk_lenN 0 rfl rfl (strTrs_len _)) (fun hl1 => ?_)
  refine AWP.seq ?_
  refine AWP.region_lit ?_
  refine AL.cons rfl (AOp.move (.inr rfl) rfl rfl) ?_
  refine AL.nil ?_
  refine AWP.seq ?_
  refine AWP.seq ?_
  refine AWP.region_lit ?_
  refine AL.cons rfl (AOp.move (.inr rfl) rfl rfl) ?_
  refine AL.nil ?_
  refine AWP.block ?_
  refine AWP.loopJ (ι := Nat) (fun i => i ≤ l.length ∧ ∀ (j : Nat) (hj : j < l.length), j < i → ¬ l[j] = s) (fun i => ⟨[(0, .t (.row 1 (strTrs (l)))), (1, .t (.leaf (.string (s)))), (5, .t (.leaf (.int .i64 (((i : Nat) : Int)))))], ⟨[], []⟩⟩) (fun i => l.length - i) 0 ?_ ?_ ?_
  · exact ⟨Nat.zero_le _, fun j hj h => absurd h (Nat.not_lt_zero _)⟩
  · skip
    exact Wk.mk (StLe.mk' trivial rfl) (keeps_nil hC) ⟨⟨_, rfl, .refl _, rfl⟩, ⟨⟨_, rfl, .refl _, rfl⟩, ⟨⟨_, rfl, by (repeat' (first | exact PV.Le.refl _ | exact LeL.nil | exact PV.Le.nil _ | exact PV.Le.acc _ _ _ | apply LeL.cons | apply PV.Le.agg | apply PV.Le.tup)), rfl⟩, trivial⟩⟩⟩
  rintro i hJ2
  obtain ⟨hi1, hi2⟩ := hJ2
  refine AWP.seq ?_
  refine AWP.seq ?_
  refine AWP.region_lit ?_
  refine AL.cons rfl (AOp.move (.inl rfl) rfl rfl) ?_
  refine AL.cons rfl (AOp.move (.inl rfl) rfl rfl) ?_
  refine AL.cons rfl (AOp.lenN rfl rfl rfl rfl el66 (strTrs_len _)) ?_
  refine AL.cons rfl (AOp.lss rfl rfl rfl rfl) ?_
  refine AL.nil ?_
  refine AWP.cond rfl (fun h3 => ?_) (fun h3 => ?_)
  · skip
    have h3b := h3
    try simp only [Bool.and_eq_true, Bool.or_eq_true, Bool.and_eq_false_iff, Bool.or_eq_false_iff, decide_eq_true_eq, decide_eq_false_iff_not, Bool.not_eq_true', Bool.not_eq_false', Bool.not_eq_eq_eq_not, Bool.not_true, Bool.not_false, ge_iff_le, gt_iff_lt, Int.not_lt, Int.not_le] at h3b
    have h3n : i < l.length := by omega
    refine AWP.skip ?_
    refine AWP.seq ?_
    refine AWP.block ?_
    refine AWP.seq ?_
    refine AWP.region_lit ?_
    refine AL.cons rfl (AOp.move (.inl rfl) rfl rfl) ?_
    refine AL.cons rfl (AOp.move (.inl rfl) rfl rfl) ?_
    refine AL.cons rfl (AOp.index (k := i) rfl rfl rfl rfl rfl (strTrs_cs h3n) el66) ?_
    refine AL.cons rfl (AOp.loadEptr1 (d := .leaf (.string (l[i]))) rfl rfl rfl sh9 rfl) ?_
    refine AL.cons rfl (AOp.move (.inl rfl) rfl rfl) ?_
    refine AL.cons rfl (AOp.eqlS rfl rfl rfl rfl) ?_
    refine AL.nil ?_
    refine AWP.cond rfl (fun h4 => ?_) (fun h4 => ?_)
    · skip
      have h4b := h4
      try simp only [Bool.and_eq_true, Bool.or_eq_true, Bool.and_eq_false_iff, Bool.or_eq_false_iff, decide_eq_true_eq, decide_eq_false_iff_not, Bool.not_eq_true', Bool.not_eq_false', Bool.not_eq_eq_eq_not, Bool.not_true, Bool.not_false, ge_iff_le, gt_iff_lt, Int.not_lt, Int.not_le] at h4b
      refine AWP.seq ?_
      refine AWP.region_lit ?_
      refine AL.cons rfl (AOp.move (.inl rfl) rfl rfl) ?_
      refine AL.cons rfl (AOp.move (.inr rfl) rfl rfl) ?_
      refine AL.nil ?_
      refine AWP.ret ?_
      exact Ends.mk (ps := [_]) (.inr rfl) ⟨rfl, trivial⟩ rfl (StLe.mk' (st' := ⟨[], []⟩) trivial rfl) (keeps_nil hC) (q := (.t (.leaf (.int .i64 (((i : Nat) : Int)))) : PV)) (by (repeat' (first | exact PV.Le.refl _ | exact LeL.nil | exact PV.Le.nil _ | exact PV.Le.acc _ _ _ | apply LeL.cons | apply PV.Le.agg | apply PV.Le.tup))) rfl ⟨by rw [idxS_hit (by omega) hi2 (by first | assumption | (apply Eq.symm; assumption))], rfl⟩
    · skip
      have h4b := h4
      try simp only [Bool.and_eq_true, Bool.or_eq_true, Bool.and_eq_false_iff, Bool.or_eq_false_iff, decide_eq_true_eq, decide_eq_false_iff_not, Bool.not_eq_true', Bool.not_eq_false', Bool.not_eq_eq_eq_not, Bool.not_true, Bool.not_false, ge_iff_le, gt_iff_lt, Int.not_lt, Int.not_le] at h4b
      refine AWP.skip ?_
      refine AWP.region_lit ?_
      refine AL.cons rfl (AOp.move (.inl rfl) rfl rfl) ?_
      refine AL.cons rfl (AOp.addI rfl rfl rfl rfl (c := ((i + 1 : Nat) : Int)) (by omega) (by omega)) ?_
      refine AL.cons rfl (AOp.move (.inr rfl) rfl rfl) ?_
      refine AL.nil ?_
      refine ⟨i + 1, ?_, ?_, ?_⟩
      · exact ⟨by omega, miss_next hi2 (by omega) (by first | assumption | (intro hx; exact absurd hx.symm (by assumption)))⟩
      · skip
        exact Wk.mk (StLe.mk' trivial rfl) (keeps_nil hC) ⟨⟨_, rfl, .refl _, rfl⟩, ⟨⟨_, rfl, .refl _, rfl⟩, ⟨⟨_, rfl, by (repeat' (first | exact PV.Le.refl _ | exact LeL.nil | exact PV.Le.nil _ | exact PV.Le.acc _ _ _ | apply LeL.cons | apply PV.Le.agg | apply PV.Le.tup)), rfl⟩, trivial⟩⟩⟩
      · omega
  · skip
    have h3b := h3
    try simp only [Bool.and_eq_true, Bool.or_eq_true, Bool.and_eq_false_iff, Bool.or_eq_false_iff, decide_eq_true_eq, decide_eq_false_iff_not, Bool.not_eq_true', Bool.not_eq_false', Bool.not_eq_eq_eq_not, Bool.not_true, Bool.not_false, ge_iff_le, gt_iff_lt, Int.not_lt, Int.not_le] at h3b
    have h3n : i ≥ l.length := by omega
    refine AWP.exit ?_
    refine AWP.seq ?_
    refine AWP.region_lit ?_
    refine AL.cons rfl (AOp.move (.inr rfl) rfl rfl) ?_
    refine AL.nil ?_
    refine AWP.ret ?_
    exact Ends.mk (ps := [_]) (.inr rfl) ⟨rfl, trivial⟩ rfl (StLe.mk' (st' := ⟨[], []⟩) trivial rfl) (keeps_nil hC) (q := (.t (.leaf (.int .i64 (-1))) : PV)) (by (repeat' (first | exact PV.Le.refl _ | exact LeL.nil | exact PV.Le.nil _ | exact PV.Le.acc _ _ _ | apply LeL.cons | apply PV.Le.agg | apply PV.Le.tup))) rfl ⟨by rw [idxS_miss (fun j hj => hi2 j hj (by omega))], rfl⟩

set_option maxRecDepth 100000 in
set_option maxHeartbeats 4000000 in
theorem contS_ok (l : List ByteArray) (s : ByteArray) : AFun Try.prog 103 [.t (.row 1 (strTrs (l))), .t (.leaf (.string (s)))] (.t (.leaf (.bool (decide (s ∈ l))))) := by
  refine ACalls.intro Try.func103 rfl (by first | decide | (simp; done) | (simp; decide)) ?_
  intro C hC
  refine AWP.fact (lk_lenN 0 rfl rfl (strTrs_len _)) (fun hl1 => ?_)
  refine AWP.seq ?_
  refine AWP.region_lit ?_
  refine AL.cons rfl (AOp.move (.inr rfl) rfl rfl) ?_
  refine AL.nil ?_
  refine AWP.seq ?_
  refine AWP.region_lit ?_
  refine AL.cons rfl (AOp.move (.inl rfl) rfl rfl) ?_
  refine AL.cons rfl (AOp.move (.inl rfl) rfl rfl) ?_
  refine AL.cons rfl (AOp.callF (ps := [_, _]) rfl rfl Try.func167 (by kernel_rfl) rfl rfl (by (repeat' (first | exact PV.Le.refl _ | exact LeL.nil | exact PV.Le.nil _ | exact PV.Le.acc _ _ _ | apply LeL.cons | apply PV.Le.agg | apply PV.Le.tup))) rfl rfl (idxS_ok l s)) ?_
  refine AL.cons rfl (AOp.geq rfl rfl rfl rfl) ?_
  refine AL.cons rfl (AOp.move (.inr rfl) rfl rfl) ?_
  refine AL.nil ?_
  refine AWP.ret ?_
  exact Ends.mk (ps := [_]) (.inr rfl) ⟨rfl, trivial⟩ rfl (StLe.mk' (st' := ⟨[], []⟩) trivial rfl) (keeps_nil hC) (q := (.t (.leaf (.bool (decide ((idxS l s : Int) ≥ 0)))) : PV)) (by (repeat' (first | exact PV.Le.refl _ | exact LeL.nil | exact PV.Le.nil _ | exact PV.Le.acc _ _ _ | apply LeL.cons | apply PV.Le.agg | apply PV.Le.tup))) rfl ⟨by rw [← idxS_mem], rfl⟩

set_option maxRecDepth 100000 in
set_option maxHeartbeats 4000000 in
theorem supers_impl (w : GProgram) : ∀ (n : Nat) (name : ByteArray) (out : List ByteArray), supM w out < n → out.length + supM w out ≤ 1099511627776 → ACalls Try.prog 101 [(GProgram.pv w), .acc 1 (strTrs (out)) 0, .t (.leaf (.string (name)))] ⟨[], [⟨9, 1, strTrs (out), false⟩]⟩ (fun r t => r = .acc 1 (strTrs (supF w n name out)) 0 ∧ t = ⟨[], [⟨9, 1, strTrs (supF w n name out), false⟩]⟩) := by
  intro n
  induction n with
  | zero => intro name out h; exact absurd h (Nat.not_lt_zero _)
  | succ n ih =>
  intro name out hm hbd
  refine ACalls.intro Try.func101 rfl (by first | decide | (simp; done) | (simp; decide)) ?_
  intro C hC
  refine AWP.fact (lk_lenN 1 rfl rfl (strTrs_len _)) (fun hl1 => ?_)
  refine AWP.seq ?_
  refine AWP.region_lit ?_
  refine AL.cons rfl (AOp.box (cs := [.t (.row 6 (GPackage.trs (w.gPackages)))]) rfl rfl rfl rfl rfl) ?_
  refine AL.cons rfl (AOp.move (.inr rfl) rfl rfl) ?_
  refine AL.nil ?_
  refine AWP.seq ?_
  refine AWP.region_lit ?_
  refine AL.cons rfl (AOp.loadPtr (cs := [.t (.row 6 (GPackage.trs (w.gPackages)))]) rfl rfl rfl rfl sh63 rfl rfl) ?_
  refine AL.cons rfl (AOp.move (.inl rfl) rfl rfl) ?_
  refine AL.cons rfl (AOp.callF (ps := [_, _]) rfl rfl Try.func166 (by kernel_rfl) rfl rfl (by (repeat' (first | exact PV.Le.refl _ | exact LeL.nil | exact PV.Le.nil _ | exact PV.Le.acc _ _ _ | apply LeL.cons | apply PV.Le.agg | apply PV.Le.tup))) rfl rfl (trait_impl w name)) ?_
  refine AL.cons rfl (AOp.move (.inl rfl) rfl rfl) ?_
  refine AL.cons rfl (AOp.extract rfl rfl rfl rfl) ?_
  refine AL.cons rfl (AOp.extract rfl rfl rfl rfl) ?_
  refine AL.cons rfl (AOp.extract rfl rfl rfl rfl) ?_
  refine AL.cons rfl (AOp.alloc rfl rfl zr75) ?_
  refine AL.cons rfl (AOp.storePtr (cs := [.t (.leaf (.string ((oTrait (w.traitAt name)).gName))), .t (.row 1 (strTrs ((oTrait (w.traitAt name)).gSupertraits))), .t (.leaf (.bool ((oTrait (w.traitAt name)).gAuto))), .t (.leaf (.bool ((oTrait (w.traitAt name)).gAssoc))), .t (.row 16 (GSignature.trs ((oTrait (w.traitAt name)).gSignatures)))]) (ds := [.t (.leaf (.string ((oTrait (w.traitAt name)).gName))), .t (.row 1 (strTrs ((oTrait (w.traitAt name)).gSupertraits))), .t (.leaf (.bool ((oTrait (w.traitAt name)).gAuto))), .t (.leaf (.bool ((oTrait (w.traitAt name)).gAssoc))), .t (.row 16 (GSignature.trs ((oTrait (w.traitAt name)).gSignatures)))]) rfl rfl rfl rfl rfl rfl rfl sz75 (Nat.le_of_ble_eq_true rfl) rfl) ?_
  refine AL.cons rfl (AOp.move (.inr rfl) rfl rfl) ?_
  refine AL.cons rfl (AOp.move (.inr rfl) rfl rfl) ?_
  refine AL.nil ?_
  refine AWP.seq ?_
  refine AWP.seq ?_
  refine AWP.region_lit ?_
  refine AL.cons rfl (AOp.fieldPtr (k := 1) (d := 0) (e := 1) rfl rfl rfl fo75_1) ?_
  refine AL.cons rfl (AOp.loadPtr1 rfl rfl rfl rfl sh66 rfl) ?_
  refine AL.fact (lk_lenN 20 rfl rfl (strTrs_len _)) (fun hl2 => ?_)
  refine AL.cons rfl (AOp.lenN rfl rfl rfl rfl el66 (strTrs_len _)) ?_
  refine AL.cons rfl (AOp.move (.inl rfl) rfl rfl) ?_
  refine AL.nil ?_
  refine AWP.block ?_
  refine AWP.loopJ (ι := Nat × List ByteArray) (fun ⟨i, o⟩ => i ≤ (oTrait (w.traitAt name)).gSupertraits.length ∧ supF w (n + 1) name out = ((oTrait (w.traitAt name)).gSupertraits.drop i).foldl (fun o s => if s ∈ o then o else supF w n s (o ++ [s])) o ∧ supM w o ≤ supM w out ∧ o.length + supM w o ≤ out.length + supM w out) (fun ⟨i, o⟩ => ⟨[(0, (GProgram.pv w)), (1, .acc 1 (strTrs (o)) 0), (2, .t (.leaf (.string (name)))), (3, .ptr 0 0), (6, .nil), (7, .ptr 1 0), (8, .t (.leaf (.int .i64 (oInt (w.traitAt name))))), (9, .t (.leaf (.bool ((w.traitAt name).isSome)))), (20, .t (.row 1 (strTrs ((oTrait (w.traitAt name)).gSupertraits)))), (21, .t (.leaf (.int .i64 (((((oTrait (w.traitAt name)).gSupertraits).length : Nat) : Int))))), (22, .t (.leaf (.int .i64 (((i : Nat) : Int)))))], ⟨[some ⟨63, [.t (.row 6 (GPackage.trs (w.gPackages)))]⟩, some ⟨75, [.t (.leaf (.string ((oTrait (w.traitAt name)).gName))), .t (.row 1 (strTrs ((oTrait (w.traitAt name)).gSupertraits))), .t (.leaf (.bool ((oTrait (w.traitAt name)).gAuto))), .t (.leaf (.bool ((oTrait (w.traitAt name)).gAssoc))), .t (.row 16 (GSignature.trs ((oTrait (w.traitAt name)).gSignatures)))]⟩], [⟨9, 1, strTrs (o), false⟩]⟩⟩) (fun ⟨i, o⟩ => (oTrait (w.traitAt name)).gSupertraits.length - i) (0, out) ?_ ?_ ?_
  · exact ⟨Nat.zero_le _, rfl, Nat.le_refl _, Nat.le_refl _⟩
  · skip
    exact Wk.mk (StLe.mk' ⟨⟨rfl, by (repeat' (first | exact PV.Le.refl _ | exact LeL.nil | exact PV.Le.nil _ | exact PV.Le.acc _ _ _ | apply LeL.cons | apply PV.Le.agg | apply PV.Le.tup)), rfl⟩, ⟨⟨rfl, by (repeat' (first | exact PV.Le.refl _ | exact LeL.nil | exact PV.Le.nil _ | exact PV.Le.acc _ _ _ | apply LeL.cons | apply PV.Le.agg | apply PV.Le.tup)), rfl⟩, trivial⟩⟩ (by first | rfl | simp)) (keeps_rows hC (Nat.le_of_ble_eq_true rfl)) ⟨⟨_, rfl, .refl _, rfl⟩, ⟨⟨_, rfl, by (repeat' (first | exact PV.Le.refl _ | exact LeL.nil | exact PV.Le.nil _ | exact PV.Le.acc _ _ _ | apply LeL.cons | apply PV.Le.agg | apply PV.Le.tup)), rfl⟩, ⟨⟨_, rfl, .refl _, rfl⟩, ⟨⟨_, rfl, .refl _, rfl⟩, ⟨⟨_, rfl, .refl _, rfl⟩, ⟨⟨_, rfl, .refl _, rfl⟩, ⟨⟨_, rfl, .refl _, rfl⟩, ⟨⟨_, rfl, .refl _, rfl⟩, ⟨⟨_, rfl, .refl _, rfl⟩, ⟨⟨_, rfl, .refl _, rfl⟩, ⟨⟨_, rfl, by (repeat' (first | exact PV.Le.refl _ | exact LeL.nil | exact PV.Le.nil _ | exact PV.Le.acc _ _ _ | apply LeL.cons | apply PV.Le.agg | apply PV.Le.tup)), rfl⟩, trivial⟩⟩⟩⟩⟩⟩⟩⟩⟩⟩⟩
  rintro ⟨i, o⟩ hJ3
  obtain ⟨hi1, hi2, hi3, hi4⟩ := hJ3
  refine AWP.seq ?_
  refine AWP.region_lit ?_
  refine AL.cons rfl (AOp.lss rfl rfl rfl rfl) ?_
  refine AL.nil ?_
  refine AWP.seq ?_
  refine AWP.cond rfl (fun h4 => ?_) (fun h4 => ?_)
  · skip
    have h4b := h4
    try simp only [Bool.and_eq_true, Bool.or_eq_true, Bool.and_eq_false_iff, Bool.or_eq_false_iff, decide_eq_true_eq, decide_eq_false_iff_not, Bool.not_eq_true', Bool.not_eq_false', Bool.not_eq_eq_eq_not, Bool.not_true, Bool.not_false, ge_iff_le, gt_iff_lt, Int.not_lt, Int.not_le] at h4b
    have h4n : i < ((oTrait (w.traitAt name)).gSupertraits).length := by omega
    refine AWP.skip ?_
    refine AWP.seq ?_
    refine AWP.block ?_
    refine AWP.seq ?_
    refine AWP.region_lit ?_
    refine AL.cons rfl (AOp.index (k := i) rfl rfl rfl rfl rfl (strTrs_cs h4n) el66) ?_
    refine AL.cons rfl (AOp.loadEptr1 (d := .leaf (.string (((oTrait (w.traitAt name)).gSupertraits)[i]))) rfl rfl rfl sh9 rfl) ?_
    refine AL.cons rfl (AOp.move (.inr rfl) rfl rfl) ?_
    refine AL.nil ?_
    refine AWP.seq ?_
    refine AWP.region_lit ?_
    refine AL.cons rfl (AOp.move (.inl rfl) rfl rfl) ?_
    refine AL.cons rfl (AOp.move (.inl rfl) rfl rfl) ?_
    refine AL.cons rfl (AOp.callF (ps := [_, _]) rfl rfl Try.func103 (by kernel_rfl) rfl rfl (by (repeat' (first | exact PV.Le.refl _ | exact LeL.nil | exact PV.Le.nil _ | exact PV.Le.acc _ _ _ | apply LeL.cons | apply PV.Le.agg | apply PV.Le.tup))) rfl rfl (contS_ok o (((oTrait (w.traitAt name)).gSupertraits)[i]))) ?_
    refine AL.cons rfl (AOp.notB rfl rfl rfl) ?_
    refine AL.nil ?_
    refine AWP.cond rfl (fun h5 => ?_) (fun h5 => ?_)
    · skip
      have h5b := h5
      try simp only [Bool.and_eq_true, Bool.or_eq_true, Bool.and_eq_false_iff, Bool.or_eq_false_iff, decide_eq_true_eq, decide_eq_false_iff_not, Bool.not_eq_true', Bool.not_eq_false', Bool.not_eq_eq_eq_not, Bool.not_true, Bool.not_false, ge_iff_le, gt_iff_lt, Int.not_lt, Int.not_le] at h5b
      refine AWP.drawnL ⟨_, _, fun j' _ => ([(⟨[some ⟨63, [.t (.row 6 (GPackage.trs (w.gPackages)))]⟩, some ⟨75, [.t (.leaf (.string ((oTrait (w.traitAt name)).gName))), .t (.row 1 (strTrs ((oTrait (w.traitAt name)).gSupertraits))), .t (.leaf (.bool ((oTrait (w.traitAt name)).gAuto))), .t (.leaf (.bool ((oTrait (w.traitAt name)).gAssoc))), .t (.row 16 (GSignature.trs ((oTrait (w.traitAt name)).gSignatures)))]⟩], [⟨9, 1, strTrs (o), false⟩]⟩ : Sto), (⟨[some ⟨63, [.t (.row 6 (GPackage.trs (w.gPackages)))]⟩, some ⟨75, [.t (.leaf (.string ((oTrait (w.traitAt name)).gName))), .t (.row 1 (strTrs ((oTrait (w.traitAt name)).gSupertraits))), .t (.leaf (.bool ((oTrait (w.traitAt name)).gAuto))), .t (.leaf (.bool ((oTrait (w.traitAt name)).gAssoc))), .t (.row 16 (GSignature.trs ((oTrait (w.traitAt name)).gSignatures)))]⟩], [⟨9, 1, strTrs (o ++ [(((oTrait (w.traitAt name)).gSupertraits)[i])]), false⟩]⟩ : Sto), (⟨[some ⟨63, [.t (.row 6 (GPackage.trs (w.gPackages)))]⟩, some ⟨75, [.t (.leaf (.string ((oTrait (w.traitAt name)).gName))), .t (.row 1 (strTrs ((oTrait (w.traitAt name)).gSupertraits))), .t (.leaf (.bool ((oTrait (w.traitAt name)).gAuto))), .t (.leaf (.bool ((oTrait (w.traitAt name)).gAssoc))), .t (.row 16 (GSignature.trs ((oTrait (w.traitAt name)).gSignatures)))]⟩], [⟨9, 1, strTrs (supF w n (((oTrait (w.traitAt name)).gSupertraits)[i]) (o ++ [(((oTrait (w.traitAt name)).gSupertraits)[i])])), false⟩]⟩ : Sto)] : List Sto).getD j' (⟨[some ⟨63, [.t (.row 6 (GPackage.trs (w.gPackages)))]⟩, some ⟨75, [.t (.leaf (.string ((oTrait (w.traitAt name)).gName))), .t (.row 1 (strTrs ((oTrait (w.traitAt name)).gSupertraits))), .t (.leaf (.bool ((oTrait (w.traitAt name)).gAuto))), .t (.leaf (.bool ((oTrait (w.traitAt name)).gAssoc))), .t (.row 16 (GSignature.trs ((oTrait (w.traitAt name)).gSignatures)))]⟩], [⟨9, 1, strTrs (supF w n (((oTrait (w.traitAt name)).gSupertraits)[i]) (o ++ [(((oTrait (w.traitAt name)).gSupertraits)[i])])), false⟩]⟩ : Sto), fun q' => ([some ((GProgram.pv w)), some (.acc 1 (strTrs (o)) 0), some (.t (.leaf (.string (((oTrait (w.traitAt name)).gSupertraits)[i])))), some (.t (.row 1 (strTrs ([(((oTrait (w.traitAt name)).gSupertraits)[i])])))), some (.acc 1 (strTrs (o ++ [(((oTrait (w.traitAt name)).gSupertraits)[i])])) 0), some (.t (.leaf (.string (((oTrait (w.traitAt name)).gSupertraits)[i])))), some (.acc 1 (strTrs (supF w n (((oTrait (w.traitAt name)).gSupertraits)[i]) (o ++ [(((oTrait (w.traitAt name)).gSupertraits)[i])]))) 0), some (.acc 1 (strTrs (supF w n (((oTrait (w.traitAt name)).gSupertraits)[i]) (o ++ [(((oTrait (w.traitAt name)).gSupertraits)[i])]))) 0)] : List (Option PV)).getD q' none, fun q' => ([.q 0 1, .q 0 0, .q 0 0, .q 0 0, .ef 0, .q 0 1, .ef 1, .q 2 2] : List DK).getD q' (.q 0 0), [4, 6], none, fun q' => ([[(3, none)], [(1, none)], [(11, none)], [(32, some 2)], [(31, some 1), (33, some 3)], [(11, none)], [(35, some 5), (34, some 4), (30, some 0)], [(36, some 6)]] : List (List (Nat × Option Nat))).getD q' []⟩ rfl mixed (by kernel_rfl) rfl rfl ⟨?_, ?_, ?_, ?_, ?_, ?_, ?_, ?_, trivial⟩ rfl ?_
      · refine .inl ⟨rfl, fun s' jj bb (h1 : 0 ≤ jj) (h2 : jj ≤ 1) hs hl => ?_⟩
        rcases (by omega : jj = 0 ∨ jj = 1) with rfl | rfl <;> exact ⟨_, rfl, AOp.loadPtr (cs := [.t (.row 6 (GPackage.trs (w.gPackages)))]) rfl rfl (hl 3 none _ (.head _) rfl) (by rw [hs]; rfl) sh63 rfl rfl⟩
      · refine .inl ⟨rfl, fun s' jj bb (h1 : 0 ≤ jj) (h2 : jj ≤ 0) hs hl => ?_⟩
        obtain rfl : jj = 0 := by omega
        exact ⟨_, rfl, AOp.move (.inl rfl) rfl (hl 1 none _ (.head _) rfl)⟩
      · refine .inl ⟨rfl, fun s' jj bb (h1 : 0 ≤ jj) (h2 : jj ≤ 0) hs hl => ?_⟩
        obtain rfl : jj = 0 := by omega
        exact ⟨_, rfl, AOp.move (.inl rfl) rfl (hl 11 none _ (.head _) rfl)⟩
      · refine .inl ⟨rfl, fun s' jj bb (h1 : 0 ≤ jj) (h2 : jj ≤ 0) hs hl => ?_⟩
        obtain rfl : jj = 0 := by omega
        exact ⟨_, rfl, AOp.buildSliceQ (es := strTrs ([(((oTrait (w.traitAt name)).gSupertraits)[i])])) (cs := [.t (.leaf (.string (((oTrait (w.traitAt name)).gSupertraits)[i])))]) rfl rfl el66 zr9 (parts_cons (hl 32 (some 2) _ (.head _) rfl) rfl rfl rfl) rfl (by (repeat' (first | exact PV.Le.refl _ | exact LeL.nil | exact PV.Le.nil _ | exact PV.Le.acc _ _ _ | apply LeL.cons | apply PV.Le.agg | apply PV.Le.tup))) rfl (by simp [strTrs]) (by decide) rfl (by decide)⟩
      · refine .inl ⟨rfl, fun s' bb hs hl => ?_⟩
        refine .inl ⟨_, rfl, AOp.congr (AOp.appendE (es3 := strTrs (o ++ [(((oTrait (w.traitAt name)).gSupertraits)[i])])) rfl rfl (hl 31 (some 1) _ (.head _) rfl) (by rw [hs]; rfl) rfl rfl rfl (hl 33 (some 3) _ (.tail _ (.head _)) rfl) rfl (strTrs_all _) el66 ze66 (by decide) (by rw [strTrs_len, strTrs_len]; simp; omega) (strTrs_append _ _)) ?_⟩
        first | (rw [hs]; rfl) | rfl
      · refine .inl ⟨rfl, fun s' jj bb (h1 : 0 ≤ jj) (h2 : jj ≤ 1) hs hl => ?_⟩
        rcases (by omega : jj = 0 ∨ jj = 1) with rfl | rfl <;> exact ⟨_, rfl, AOp.move (.inl rfl) rfl (hl 11 none _ (.head _) rfl)⟩
      · refine .inl ⟨rfl, fun s' bb hs hl => ?_⟩
        refine .inl ⟨_, rfl, AOp.congr (AOp.callPE (pre := ⟨[], [⟨9, 1, strTrs (o ++ [(((oTrait (w.traitAt name)).gSupertraits)[i])]), false⟩]⟩) (st' := ⟨[], [⟨9, 1, strTrs (supF w n (((oTrait (w.traitAt name)).gSupertraits)[i]) (o ++ [(((oTrait (w.traitAt name)).gSupertraits)[i])])), false⟩]⟩) (ps := [_, _, _]) (qs := [(GProgram.pv w), .acc 1 (strTrs (o ++ [(((oTrait (w.traitAt name)).gSupertraits)[i])])) 0, .t (.leaf (.string (((oTrait (w.traitAt name)).gSupertraits)[i])))]) [] [0] rfl rfl Try.func101 (by kernel_rfl) rfl (evs_cons (hl 30 (some 0) _ (.tail _ (.tail _ (.head _))) rfl) (evs_cons (hl 34 (some 4) _ (.tail _ (.head _)) rfl) (evs_cons (hl 35 (some 5) _ (.head _) rfl) rfl))) hs (by (try rw [hs]); exact ⟨rfl, rfl, by decide, by decide, fun k h => absurd h (Nat.not_lt_zero _), fun k x h => by simp at h, fun r row h => by rcases r with _ | r <;> simp at h; subst h; rfl⟩) (by (repeat' (first | exact PV.Le.refl _ | exact LeL.nil | exact PV.Le.nil _ | exact PV.Le.acc _ _ _ | apply LeL.cons | apply PV.Le.agg | apply PV.Le.tup))) rfl rfl rfl (ih _ _ (by have := sup_step (w := w) (name := name) (o := o) (List.getElem_mem (show i < (oTrait (w.traitAt name)).gSupertraits.length by omega)) (by assumption); omega) (by have := sup_step (w := w) (name := name) (o := o) (List.getElem_mem (show i < (oTrait (w.traitAt name)).gSupertraits.length by omega)) (by assumption); have h4 : (o ++ [((oTrait (w.traitAt name)).gSupertraits)[i]]).length = o.length + 1 := (by simp); omega))) ?_⟩
        first | (rw [hs]; rfl) | rfl
      · refine .inl ⟨rfl, fun s' jj bb (h1 : 2 ≤ jj) (h2 : jj ≤ 2) hs hl => ?_⟩
        obtain rfl : jj = 2 := by omega
        exact ⟨_, rfl, AOp.move (.inr rfl) rfl (hl 36 (some 6) _ (.head _) rfl)⟩
      refine AWP.region_lit ?_
      refine AL.cons rfl (AOp.addI rfl rfl rfl rfl (c := ((i + 1 : Nat) : Int)) (by omega) (by omega)) ?_
      refine AL.cons rfl (AOp.move (.inl rfl) rfl rfl) ?_
      refine AL.nil ?_
      refine ⟨(i + 1, supF w n (((oTrait (w.traitAt name)).gSupertraits)[i]) (o ++ [(((oTrait (w.traitAt name)).gSupertraits)[i])])), ?_, ?_, ?_⟩
      · first | exact supJ_has (by omega) hi2 hi3 hi4 (by assumption) | exact supJ_new (by omega) hi2 hi3 hi4 (by assumption) rfl
      · skip
        exact Wk.mk (StLe.mk' ⟨⟨rfl, by (repeat' (first | exact PV.Le.refl _ | exact LeL.nil | exact PV.Le.nil _ | exact PV.Le.acc _ _ _ | apply LeL.cons | apply PV.Le.agg | apply PV.Le.tup)), rfl⟩, ⟨⟨rfl, by (repeat' (first | exact PV.Le.refl _ | exact LeL.nil | exact PV.Le.nil _ | exact PV.Le.acc _ _ _ | apply LeL.cons | apply PV.Le.agg | apply PV.Le.tup)), rfl⟩, trivial⟩⟩ (by first | rfl | simp)) (keeps_rows hC (Nat.le_of_ble_eq_true rfl)) ⟨⟨_, rfl, .refl _, rfl⟩, ⟨⟨_, rfl, by (repeat' (first | exact PV.Le.refl _ | exact LeL.nil | exact PV.Le.nil _ | exact PV.Le.acc _ _ _ | apply LeL.cons | apply PV.Le.agg | apply PV.Le.tup)), rfl⟩, ⟨⟨_, rfl, .refl _, rfl⟩, ⟨⟨_, rfl, .refl _, rfl⟩, ⟨⟨_, rfl, .refl _, rfl⟩, ⟨⟨_, rfl, .refl _, rfl⟩, ⟨⟨_, rfl, .refl _, rfl⟩, ⟨⟨_, rfl, .refl _, rfl⟩, ⟨⟨_, rfl, .refl _, rfl⟩, ⟨⟨_, rfl, .refl _, rfl⟩, ⟨⟨_, rfl, by (repeat' (first | exact PV.Le.refl _ | exact LeL.nil | exact PV.Le.nil _ | exact PV.Le.acc _ _ _ | apply LeL.cons | apply PV.Le.agg | apply PV.Le.tup)), rfl⟩, trivial⟩⟩⟩⟩⟩⟩⟩⟩⟩⟩⟩
      · dsimp only; omega
    · skip
      have h5b := h5
      try simp only [Bool.and_eq_true, Bool.or_eq_true, Bool.and_eq_false_iff, Bool.or_eq_false_iff, decide_eq_true_eq, decide_eq_false_iff_not, Bool.not_eq_true', Bool.not_eq_false', Bool.not_eq_eq_eq_not, Bool.not_true, Bool.not_false, ge_iff_le, gt_iff_lt, Int.not_lt, Int.not_le] at h5b
      refine AWP.skip ?_
      refine AWP.region_lit ?_
      refine AL.cons rfl (AOp.addI rfl rfl rfl rfl (c := ((i + 1 : Nat) : Int)) (by omega) (by omega)) ?_
      refine AL.cons rfl (AOp.move (.inl rfl) rfl rfl) ?_
      refine AL.nil ?_
      refine ⟨(i + 1, o), ?_, ?_, ?_⟩
      · first | exact supJ_has (by omega) hi2 hi3 hi4 (by assumption) | exact supJ_new (by omega) hi2 hi3 hi4 (by assumption) rfl
      · skip
        exact Wk.mk (StLe.mk' ⟨⟨rfl, by (repeat' (first | exact PV.Le.refl _ | exact LeL.nil | exact PV.Le.nil _ | exact PV.Le.acc _ _ _ | apply LeL.cons | apply PV.Le.agg | apply PV.Le.tup)), rfl⟩, ⟨⟨rfl, by (repeat' (first | exact PV.Le.refl _ | exact LeL.nil | exact PV.Le.nil _ | exact PV.Le.acc _ _ _ | apply LeL.cons | apply PV.Le.agg | apply PV.Le.tup)), rfl⟩, trivial⟩⟩ (by first | rfl | simp)) (keeps_rows hC (Nat.le_of_ble_eq_true rfl)) ⟨⟨_, rfl, .refl _, rfl⟩, ⟨⟨_, rfl, .refl _, rfl⟩, ⟨⟨_, rfl, .refl _, rfl⟩, ⟨⟨_, rfl, .refl _, rfl⟩, ⟨⟨_, rfl, .refl _, rfl⟩, ⟨⟨_, rfl, .refl _, rfl⟩, ⟨⟨_, rfl, .refl _, rfl⟩, ⟨⟨_, rfl, .refl _, rfl⟩, ⟨⟨_, rfl, .refl _, rfl⟩, ⟨⟨_, rfl, .refl _, rfl⟩, ⟨⟨_, rfl, by (repeat' (first | exact PV.Le.refl _ | exact LeL.nil | exact PV.Le.nil _ | exact PV.Le.acc _ _ _ | apply LeL.cons | apply PV.Le.agg | apply PV.Le.tup)), rfl⟩, trivial⟩⟩⟩⟩⟩⟩⟩⟩⟩⟩⟩
      · dsimp only; omega
  · skip
    have h4b := h4
    try simp only [Bool.and_eq_true, Bool.or_eq_true, Bool.and_eq_false_iff, Bool.or_eq_false_iff, decide_eq_true_eq, decide_eq_false_iff_not, Bool.not_eq_true', Bool.not_eq_false', Bool.not_eq_eq_eq_not, Bool.not_true, Bool.not_false, ge_iff_le, gt_iff_lt, Int.not_lt, Int.not_le] at h4b
    have h4n : i ≥ ((oTrait (w.traitAt name)).gSupertraits).length := by omega
    refine AWP.exit ?_
    refine AWP.seq ?_
    refine AWP.region_lit ?_
    refine AL.cons rfl (AOp.move (.inl rfl) rfl rfl) ?_
    refine AL.cons rfl (AOp.move (.inr rfl) rfl rfl) ?_
    refine AL.nil ?_
    refine AWP.ret ?_
    obtain rfl := fold_end (by omega) hi2
    exact Ends.mk (ps := [_]) (.inr rfl) ⟨rfl, trivial⟩ rfl (StLe.mk' (st' := ⟨[], [⟨9, 1, strTrs (supF w (n + 1) name out), false⟩]⟩) trivial rfl) (keeps_rows hC (Nat.le_of_ble_eq_true rfl)) (q := .acc 1 (strTrs (supF w (n + 1) name out)) 0) (.refl _) rfl ⟨rfl, rfl⟩

theorem supersNil_impl (w : GProgram) (name : ByteArray) (hb : w.allSup.length ≤ 1099511627776) : AFun Try.prog 101 [(GProgram.pv w), .nil, .t (.leaf (.string name))] (.t (.row 1 (strTrs (w.supers name)))) :=
  ACalls.regNil (l1 := [GProgram.pv w]) (l2 := [.t (.leaf (.string name))]) (E := 9) (sz := 1) (by decide) (supers_impl w (supM w [] + 1) name [] (Nat.lt_succ_self _) (supM_le hb)) (.acc 1 _ 0) rfl
set_option maxRecDepth 100000 in
set_option maxHeartbeats 4000000 in
theorem supers_spec (w : GProgram) : ∀ (n : Nat) (name : ByteArray) (out : List ByteArray), supM w out < n → out.length + supM w out ≤ 1099511627776 → ACalls Try.prog 102 [(GProgram.pv w), .t (.leaf (.string (name))), .acc 1 (strTrs (out)) 0] ⟨[], [⟨9, 1, strTrs (out), false⟩]⟩ (fun r t => r = .acc 1 (strTrs (supF w n name out)) 0 ∧ t = ⟨[], [⟨9, 1, strTrs (supF w n name out), false⟩]⟩) := by
  intro n
  induction n with
  | zero => intro name out h; exact absurd h (Nat.not_lt_zero _)
  | succ n ih =>
  intro name out hm hbd
  refine ACalls.intro Try.func102 rfl (by first | decide | (simp; done) | (simp; decide)) ?_
  intro C hC
  refine AWP.fact (lk_lenN 2 rfl rfl (strTrs_len _)) (fun hl1 => ?_)
  refine AWP.seq ?_
  refine AWP.region_lit ?_
  refine AL.cons rfl (AOp.box (cs := [.t (.row 6 (GPackage.trs (w.gPackages)))]) rfl rfl rfl rfl rfl) ?_
  refine AL.cons rfl (AOp.move (.inr rfl) rfl rfl) ?_
  refine AL.nil ?_
  refine AWP.seq ?_
  refine AWP.region_lit ?_
  refine AL.cons rfl (AOp.loadPtr (cs := [.t (.row 6 (GPackage.trs (w.gPackages)))]) rfl rfl rfl rfl sh63 rfl rfl) ?_
  refine AL.cons rfl (AOp.move (.inl rfl) rfl rfl) ?_
  refine AL.cons rfl (AOp.callF (ps := [_, _]) rfl rfl Try.func106 (by kernel_rfl) rfl rfl (by (repeat' (first | exact PV.Le.refl _ | exact LeL.nil | exact PV.Le.nil _ | exact PV.Le.acc _ _ _ | apply LeL.cons | apply PV.Le.agg | apply PV.Le.tup))) rfl rfl (trait_spec w name)) ?_
  refine AL.cons rfl (AOp.move (.inl rfl) rfl rfl) ?_
  refine AL.cons rfl (AOp.extract rfl rfl rfl rfl) ?_
  refine AL.cons rfl (AOp.extract rfl rfl rfl rfl) ?_
  refine AL.cons rfl (AOp.extract rfl rfl rfl rfl) ?_
  refine AL.cons rfl (AOp.alloc rfl rfl zr75) ?_
  refine AL.cons rfl (AOp.storePtr (cs := [.t (.leaf (.string ((oTrait (w.traitAt name)).gName))), .t (.row 1 (strTrs ((oTrait (w.traitAt name)).gSupertraits))), .t (.leaf (.bool ((oTrait (w.traitAt name)).gAuto))), .t (.leaf (.bool ((oTrait (w.traitAt name)).gAssoc))), .t (.row 16 (GSignature.trs ((oTrait (w.traitAt name)).gSignatures)))]) (ds := [.t (.leaf (.string ((oTrait (w.traitAt name)).gName))), .t (.row 1 (strTrs ((oTrait (w.traitAt name)).gSupertraits))), .t (.leaf (.bool ((oTrait (w.traitAt name)).gAuto))), .t (.leaf (.bool ((oTrait (w.traitAt name)).gAssoc))), .t (.row 16 (GSignature.trs ((oTrait (w.traitAt name)).gSignatures)))]) rfl rfl rfl rfl rfl rfl rfl sz75 (Nat.le_of_ble_eq_true rfl) rfl) ?_
  refine AL.cons rfl (AOp.move (.inr rfl) rfl rfl) ?_
  refine AL.cons rfl (AOp.move (.inr rfl) rfl rfl) ?_
  refine AL.nil ?_
  refine AWP.seq ?_
  refine AWP.seq ?_
  refine AWP.region_lit ?_
  refine AL.cons rfl (AOp.move (.inr rfl) rfl rfl) ?_
  refine AL.nil ?_
  refine AWP.block ?_
  refine AWP.loopJ (ι := Nat × List ByteArray) (fun ⟨i, o⟩ => i ≤ (oTrait (w.traitAt name)).gSupertraits.length ∧ supF w (n + 1) name out = ((oTrait (w.traitAt name)).gSupertraits.drop i).foldl (fun o s => if s ∈ o then o else supF w n s (o ++ [s])) o ∧ supM w o ≤ supM w out ∧ o.length + supM w o ≤ out.length + supM w out) (fun ⟨i, o⟩ => ⟨[(0, (GProgram.pv w)), (1, .t (.leaf (.string (name)))), (2, .acc 1 (strTrs (o)) 0), (3, .ptr 0 0), (6, .nil), (7, .ptr 1 0), (8, .t (.leaf (.int .i64 (oInt (w.traitAt name))))), (9, .t (.leaf (.bool ((w.traitAt name).isSome)))), (10, .t (.leaf (.int .i64 (((i : Nat) : Int)))))], ⟨[some ⟨63, [.t (.row 6 (GPackage.trs (w.gPackages)))]⟩, some ⟨75, [.t (.leaf (.string ((oTrait (w.traitAt name)).gName))), .t (.row 1 (strTrs ((oTrait (w.traitAt name)).gSupertraits))), .t (.leaf (.bool ((oTrait (w.traitAt name)).gAuto))), .t (.leaf (.bool ((oTrait (w.traitAt name)).gAssoc))), .t (.row 16 (GSignature.trs ((oTrait (w.traitAt name)).gSignatures)))]⟩], [⟨9, 1, strTrs (o), false⟩]⟩⟩) (fun ⟨i, o⟩ => (oTrait (w.traitAt name)).gSupertraits.length - i) (0, out) ?_ ?_ ?_
  · exact ⟨Nat.zero_le _, rfl, Nat.le_refl _, Nat.le_refl _⟩
  · skip
    exact Wk.mk (StLe.mk' ⟨⟨rfl, by (repeat' (first | exact PV.Le.refl _ | exact LeL.nil | exact PV.Le.nil _ | exact PV.Le.acc _ _ _ | apply LeL.cons | apply PV.Le.agg | apply PV.Le.tup)), rfl⟩, ⟨⟨rfl, by (repeat' (first | exact PV.Le.refl _ | exact LeL.nil | exact PV.Le.nil _ | exact PV.Le.acc _ _ _ | apply LeL.cons | apply PV.Le.agg | apply PV.Le.tup)), rfl⟩, trivial⟩⟩ (by first | rfl | simp)) (keeps_rows hC (Nat.le_of_ble_eq_true rfl)) ⟨⟨_, rfl, .refl _, rfl⟩, ⟨⟨_, rfl, .refl _, rfl⟩, ⟨⟨_, rfl, by (repeat' (first | exact PV.Le.refl _ | exact LeL.nil | exact PV.Le.nil _ | exact PV.Le.acc _ _ _ | apply LeL.cons | apply PV.Le.agg | apply PV.Le.tup)), rfl⟩, ⟨⟨_, rfl, .refl _, rfl⟩, ⟨⟨_, rfl, .refl _, rfl⟩, ⟨⟨_, rfl, .refl _, rfl⟩, ⟨⟨_, rfl, .refl _, rfl⟩, ⟨⟨_, rfl, .refl _, rfl⟩, ⟨⟨_, rfl, by (repeat' (first | exact PV.Le.refl _ | exact LeL.nil | exact PV.Le.nil _ | exact PV.Le.acc _ _ _ | apply LeL.cons | apply PV.Le.agg | apply PV.Le.tup)), rfl⟩, trivial⟩⟩⟩⟩⟩⟩⟩⟩⟩
  rintro ⟨i, o⟩ hJ2
  obtain ⟨hi1, hi2, hi3, hi4⟩ := hJ2
  refine AWP.seq ?_
  refine AWP.seq ?_
  refine AWP.region_lit ?_
  refine AL.cons rfl (AOp.move (.inl rfl) rfl rfl) ?_
  refine AL.cons rfl (AOp.fieldPtr (k := 1) (d := 0) (e := 1) rfl rfl rfl fo75_1) ?_
  refine AL.cons rfl (AOp.loadPtr1 rfl rfl rfl rfl sh66 rfl) ?_
  refine AL.fact (lk_lenN 20 rfl rfl (strTrs_len _)) (fun hl3 => ?_)
  refine AL.cons rfl (AOp.lenN rfl rfl rfl rfl el66 (strTrs_len _)) ?_
  refine AL.cons rfl (AOp.lss rfl rfl rfl rfl) ?_
  refine AL.nil ?_
  refine AWP.cond rfl (fun h4 => ?_) (fun h4 => ?_)
  · skip
    have h4b := h4
    try simp only [Bool.and_eq_true, Bool.or_eq_true, Bool.and_eq_false_iff, Bool.or_eq_false_iff, decide_eq_true_eq, decide_eq_false_iff_not, Bool.not_eq_true', Bool.not_eq_false', Bool.not_eq_eq_eq_not, Bool.not_true, Bool.not_false, ge_iff_le, gt_iff_lt, Int.not_lt, Int.not_le] at h4b
    have h4n : i < ((oTrait (w.traitAt name)).gSupertraits).length := by omega
    refine AWP.skip ?_
    refine AWP.seq ?_
    refine AWP.block ?_
    refine AWP.seq ?_
    refine AWP.region_lit ?_
    refine AL.cons rfl (AOp.move (.inl rfl) rfl rfl) ?_
    refine AL.cons rfl (AOp.fieldPtr (k := 1) (d := 0) (e := 1) rfl rfl rfl fo75_1) ?_
    refine AL.cons rfl (AOp.loadPtr1 rfl rfl rfl rfl sh66 rfl) ?_
    refine AL.cons rfl (AOp.move (.inl rfl) rfl rfl) ?_
    refine AL.cons rfl (AOp.index (k := i) rfl rfl rfl rfl rfl (strTrs_cs h4n) el66) ?_
    refine AL.cons rfl (AOp.loadEptr1 (d := .leaf (.string (((oTrait (w.traitAt name)).gSupertraits)[i]))) rfl rfl rfl sh9 rfl) ?_
    refine AL.cons rfl (AOp.callF (ps := [_, _]) rfl rfl Try.func104 (by kernel_rfl) rfl rfl (by (repeat' (first | exact PV.Le.refl _ | exact LeL.nil | exact PV.Le.nil _ | exact PV.Le.acc _ _ _ | apply LeL.cons | apply PV.Le.agg | apply PV.Le.tup))) rfl rfl (has_spec o (((oTrait (w.traitAt name)).gSupertraits)[i]))) ?_
    refine AL.cons rfl (AOp.notB rfl rfl rfl) ?_
    refine AL.nil ?_
    refine AWP.cond rfl (fun h5 => ?_) (fun h5 => ?_)
    · skip
      have h5b := h5
      try simp only [Bool.and_eq_true, Bool.or_eq_true, Bool.and_eq_false_iff, Bool.or_eq_false_iff, decide_eq_true_eq, decide_eq_false_iff_not, Bool.not_eq_true', Bool.not_eq_false', Bool.not_eq_eq_eq_not, Bool.not_true, Bool.not_false, ge_iff_le, gt_iff_lt, Int.not_lt, Int.not_le] at h5b
      refine AWP.drawnL ⟨_, _, fun j' _ => ([(⟨[some ⟨63, [.t (.row 6 (GPackage.trs (w.gPackages)))]⟩, some ⟨75, [.t (.leaf (.string ((oTrait (w.traitAt name)).gName))), .t (.row 1 (strTrs ((oTrait (w.traitAt name)).gSupertraits))), .t (.leaf (.bool ((oTrait (w.traitAt name)).gAuto))), .t (.leaf (.bool ((oTrait (w.traitAt name)).gAssoc))), .t (.row 16 (GSignature.trs ((oTrait (w.traitAt name)).gSignatures)))]⟩], [⟨9, 1, strTrs (o), false⟩]⟩ : Sto), (⟨[some ⟨63, [.t (.row 6 (GPackage.trs (w.gPackages)))]⟩, some ⟨75, [.t (.leaf (.string ((oTrait (w.traitAt name)).gName))), .t (.row 1 (strTrs ((oTrait (w.traitAt name)).gSupertraits))), .t (.leaf (.bool ((oTrait (w.traitAt name)).gAuto))), .t (.leaf (.bool ((oTrait (w.traitAt name)).gAssoc))), .t (.row 16 (GSignature.trs ((oTrait (w.traitAt name)).gSignatures)))]⟩], [⟨9, 1, strTrs (o ++ [(((oTrait (w.traitAt name)).gSupertraits)[i])]), false⟩]⟩ : Sto), (⟨[some ⟨63, [.t (.row 6 (GPackage.trs (w.gPackages)))]⟩, some ⟨75, [.t (.leaf (.string ((oTrait (w.traitAt name)).gName))), .t (.row 1 (strTrs ((oTrait (w.traitAt name)).gSupertraits))), .t (.leaf (.bool ((oTrait (w.traitAt name)).gAuto))), .t (.leaf (.bool ((oTrait (w.traitAt name)).gAssoc))), .t (.row 16 (GSignature.trs ((oTrait (w.traitAt name)).gSignatures)))]⟩], [⟨9, 1, strTrs (supF w n (((oTrait (w.traitAt name)).gSupertraits)[i]) (o ++ [(((oTrait (w.traitAt name)).gSupertraits)[i])])), false⟩]⟩ : Sto)] : List Sto).getD j' (⟨[some ⟨63, [.t (.row 6 (GPackage.trs (w.gPackages)))]⟩, some ⟨75, [.t (.leaf (.string ((oTrait (w.traitAt name)).gName))), .t (.row 1 (strTrs ((oTrait (w.traitAt name)).gSupertraits))), .t (.leaf (.bool ((oTrait (w.traitAt name)).gAuto))), .t (.leaf (.bool ((oTrait (w.traitAt name)).gAssoc))), .t (.row 16 (GSignature.trs ((oTrait (w.traitAt name)).gSignatures)))]⟩], [⟨9, 1, strTrs (supF w n (((oTrait (w.traitAt name)).gSupertraits)[i]) (o ++ [(((oTrait (w.traitAt name)).gSupertraits)[i])])), false⟩]⟩ : Sto), fun q' => ([some ((GProgram.pv w)), some (.ptr 1 1), some (.t (.row 1 (strTrs ((oTrait (w.traitAt name)).gSupertraits)))), some (.t (.leaf (.int .i64 (((i : Nat) : Int))))), some (.eptr ([.leaf (.string (((oTrait (w.traitAt name)).gSupertraits)[i]))])), some (.t (.leaf (.string (((oTrait (w.traitAt name)).gSupertraits)[i])))), some (.acc 1 (strTrs (o)) 0), some (.ptr 1 1), some (.t (.row 1 (strTrs ((oTrait (w.traitAt name)).gSupertraits)))), some (.t (.leaf (.int .i64 (((i : Nat) : Int))))), some (.eptr ([.leaf (.string (((oTrait (w.traitAt name)).gSupertraits)[i]))])), some (.t (.leaf (.string (((oTrait (w.traitAt name)).gSupertraits)[i])))), some (.t (.row 1 (strTrs ([(((oTrait (w.traitAt name)).gSupertraits)[i])])))), some (.acc 1 (strTrs (o ++ [(((oTrait (w.traitAt name)).gSupertraits)[i])])) 0), some (.acc 1 (strTrs (supF w n (((oTrait (w.traitAt name)).gSupertraits)[i]) (o ++ [(((oTrait (w.traitAt name)).gSupertraits)[i])]))) 0), some (.acc 1 (strTrs (supF w n (((oTrait (w.traitAt name)).gSupertraits)[i]) (o ++ [(((oTrait (w.traitAt name)).gSupertraits)[i])]))) 0)] : List (Option PV)).getD q' none, fun q' => ([.q 0 1, .q 0 1, .q 0 1, .q 0 1, .q 0 1, .q 0 1, .q 0 0, .q 0 0, .q 0 0, .q 0 0, .q 0 0, .q 0 0, .q 0 0, .ef 0, .ef 1, .q 2 2] : List DK).getD q' (.q 0 0), [13, 14], none, fun q' => ([[(3, none)], [(7, none)], [(34, some 1)], [(10, none)], [(35, some 2), (36, some 3)], [(37, some 4)], [(2, none)], [(7, none)], [(40, some 7)], [(10, none)], [(41, some 8), (42, some 9)], [(43, some 10)], [(44, some 11)], [(39, some 6), (45, some 12)], [(46, some 13), (38, some 5), (33, some 0)], [(47, some 14)]] : List (List (Nat × Option Nat))).getD q' []⟩ rfl mixed (by kernel_rfl) rfl rfl ⟨?_, ?_, ?_, ?_, ?_, ?_, ?_, ?_, ?_, ?_, ?_, ?_, ?_, ?_, ?_, ?_, trivial⟩ rfl ?_
      · refine .inl ⟨rfl, fun s' jj bb (h1 : 0 ≤ jj) (h2 : jj ≤ 1) hs hl => ?_⟩
        rcases (by omega : jj = 0 ∨ jj = 1) with rfl | rfl <;> exact ⟨_, rfl, AOp.loadPtr (cs := [.t (.row 6 (GPackage.trs (w.gPackages)))]) rfl rfl (hl 3 none _ (.head _) rfl) (by rw [hs]; rfl) sh63 rfl rfl⟩
      · refine .inl ⟨rfl, fun s' jj bb (h1 : 0 ≤ jj) (h2 : jj ≤ 1) hs hl => ?_⟩
        rcases (by omega : jj = 0 ∨ jj = 1) with rfl | rfl <;> exact ⟨_, rfl, AOp.fieldPtr (k := 1) (d := 0) (e := 1) rfl rfl (hl 7 none _ (.head _) rfl) fo75_1⟩
      · refine .inl ⟨rfl, fun s' jj bb (h1 : 0 ≤ jj) (h2 : jj ≤ 1) hs hl => ?_⟩
        rcases (by omega : jj = 0 ∨ jj = 1) with rfl | rfl <;> exact ⟨_, rfl, AOp.loadPtr1 rfl rfl (hl 34 (some 1) _ (.head _) rfl) (by rw [hs]; rfl) sh66 rfl⟩
      · refine .inl ⟨rfl, fun s' jj bb (h1 : 0 ≤ jj) (h2 : jj ≤ 1) hs hl => ?_⟩
        rcases (by omega : jj = 0 ∨ jj = 1) with rfl | rfl <;> exact ⟨_, rfl, AOp.move (.inl rfl) rfl (hl 10 none _ (.head _) rfl)⟩
      · refine .inl ⟨rfl, fun s' jj bb (h1 : 0 ≤ jj) (h2 : jj ≤ 1) hs hl => ?_⟩
        rcases (by omega : jj = 0 ∨ jj = 1) with rfl | rfl <;> exact ⟨_, rfl, AOp.index (k := i) rfl rfl (hl 35 (some 2) _ (.head _) rfl) rfl (hl 36 (some 3) _ (.tail _ (.head _)) rfl) (strTrs_cs h4n) el66⟩
      · refine .inl ⟨rfl, fun s' jj bb (h1 : 0 ≤ jj) (h2 : jj ≤ 1) hs hl => ?_⟩
        rcases (by omega : jj = 0 ∨ jj = 1) with rfl | rfl <;> exact ⟨_, rfl, AOp.loadEptr1 (d := .leaf (.string (((oTrait (w.traitAt name)).gSupertraits)[i]))) rfl rfl (hl 37 (some 4) _ (.head _) rfl) sh9 rfl⟩
      · refine .inl ⟨rfl, fun s' jj bb (h1 : 0 ≤ jj) (h2 : jj ≤ 0) hs hl => ?_⟩
        obtain rfl : jj = 0 := by omega
        exact ⟨_, rfl, AOp.move (.inl rfl) rfl (hl 2 none _ (.head _) rfl)⟩
      · refine .inl ⟨rfl, fun s' jj bb (h1 : 0 ≤ jj) (h2 : jj ≤ 0) hs hl => ?_⟩
        obtain rfl : jj = 0 := by omega
        exact ⟨_, rfl, AOp.fieldPtr (k := 1) (d := 0) (e := 1) rfl rfl (hl 7 none _ (.head _) rfl) fo75_1⟩
      · refine .inl ⟨rfl, fun s' jj bb (h1 : 0 ≤ jj) (h2 : jj ≤ 0) hs hl => ?_⟩
        obtain rfl : jj = 0 := by omega
        exact ⟨_, rfl, AOp.loadPtr1 rfl rfl (hl 40 (some 7) _ (.head _) rfl) (by rw [hs]; rfl) sh66 rfl⟩
      · refine .inl ⟨rfl, fun s' jj bb (h1 : 0 ≤ jj) (h2 : jj ≤ 0) hs hl => ?_⟩
        obtain rfl : jj = 0 := by omega
        exact ⟨_, rfl, AOp.move (.inl rfl) rfl (hl 10 none _ (.head _) rfl)⟩
      · refine .inl ⟨rfl, fun s' jj bb (h1 : 0 ≤ jj) (h2 : jj ≤ 0) hs hl => ?_⟩
        obtain rfl : jj = 0 := by omega
        exact ⟨_, rfl, AOp.index (k := i) rfl rfl (hl 41 (some 8) _ (.head _) rfl) rfl (hl 42 (some 9) _ (.tail _ (.head _)) rfl) (strTrs_cs h4n) el66⟩
      · refine .inl ⟨rfl, fun s' jj bb (h1 : 0 ≤ jj) (h2 : jj ≤ 0) hs hl => ?_⟩
        obtain rfl : jj = 0 := by omega
        exact ⟨_, rfl, AOp.loadEptr1 (d := .leaf (.string (((oTrait (w.traitAt name)).gSupertraits)[i]))) rfl rfl (hl 43 (some 10) _ (.head _) rfl) sh9 rfl⟩
      · refine .inl ⟨rfl, fun s' jj bb (h1 : 0 ≤ jj) (h2 : jj ≤ 0) hs hl => ?_⟩
        obtain rfl : jj = 0 := by omega
        exact ⟨_, rfl, AOp.buildSliceQ (es := strTrs ([(((oTrait (w.traitAt name)).gSupertraits)[i])])) (cs := [.t (.leaf (.string (((oTrait (w.traitAt name)).gSupertraits)[i])))]) rfl rfl el66 zr9 (parts_cons (hl 44 (some 11) _ (.head _) rfl) rfl rfl rfl) rfl (by (repeat' (first | exact PV.Le.refl _ | exact LeL.nil | exact PV.Le.nil _ | exact PV.Le.acc _ _ _ | apply LeL.cons | apply PV.Le.agg | apply PV.Le.tup))) rfl (by simp [strTrs]) (by decide) rfl (by decide)⟩
      · refine .inl ⟨rfl, fun s' bb hs hl => ?_⟩
        refine .inl ⟨_, rfl, AOp.congr (AOp.appendE (es3 := strTrs (o ++ [(((oTrait (w.traitAt name)).gSupertraits)[i])])) rfl rfl (hl 39 (some 6) _ (.head _) rfl) (by rw [hs]; rfl) rfl rfl rfl (hl 45 (some 12) _ (.tail _ (.head _)) rfl) rfl (strTrs_all _) el66 ze66 (by decide) (by rw [strTrs_len, strTrs_len]; simp; omega) (strTrs_append _ _)) ?_⟩
        first | (rw [hs]; rfl) | rfl
      · refine .inl ⟨rfl, fun s' bb hs hl => ?_⟩
        refine .inl ⟨_, rfl, AOp.congr (AOp.callPE (pre := ⟨[], [⟨9, 1, strTrs (o ++ [(((oTrait (w.traitAt name)).gSupertraits)[i])]), false⟩]⟩) (st' := ⟨[], [⟨9, 1, strTrs (supF w n (((oTrait (w.traitAt name)).gSupertraits)[i]) (o ++ [(((oTrait (w.traitAt name)).gSupertraits)[i])])), false⟩]⟩) (ps := [_, _, _]) (qs := [(GProgram.pv w), .t (.leaf (.string (((oTrait (w.traitAt name)).gSupertraits)[i]))), .acc 1 (strTrs (o ++ [(((oTrait (w.traitAt name)).gSupertraits)[i])])) 0]) [] [0] rfl rfl Try.func102 (by kernel_rfl) rfl (evs_cons (hl 33 (some 0) _ (.tail _ (.tail _ (.head _))) rfl) (evs_cons (hl 38 (some 5) _ (.tail _ (.head _)) rfl) (evs_cons (hl 46 (some 13) _ (.head _) rfl) rfl))) hs (by (try rw [hs]); exact ⟨rfl, rfl, by decide, by decide, fun k h => absurd h (Nat.not_lt_zero _), fun k x h => by simp at h, fun r row h => by rcases r with _ | r <;> simp at h; subst h; rfl⟩) (by (repeat' (first | exact PV.Le.refl _ | exact LeL.nil | exact PV.Le.nil _ | exact PV.Le.acc _ _ _ | apply LeL.cons | apply PV.Le.agg | apply PV.Le.tup))) rfl rfl rfl (ih _ _ (by have := sup_step (w := w) (name := name) (o := o) (List.getElem_mem (show i < (oTrait (w.traitAt name)).gSupertraits.length by omega)) (by assumption); omega) (by have := sup_step (w := w) (name := name) (o := o) (List.getElem_mem (show i < (oTrait (w.traitAt name)).gSupertraits.length by omega)) (by assumption); have h4 : (o ++ [((oTrait (w.traitAt name)).gSupertraits)[i]]).length = o.length + 1 := (by simp); omega))) ?_⟩
        first | (rw [hs]; rfl) | rfl
      · refine .inl ⟨rfl, fun s' jj bb (h1 : 2 ≤ jj) (h2 : jj ≤ 2) hs hl => ?_⟩
        obtain rfl : jj = 2 := by omega
        exact ⟨_, rfl, AOp.move (.inr rfl) rfl (hl 47 (some 14) _ (.head _) rfl)⟩
      refine AWP.region_lit ?_
      refine AL.cons rfl (AOp.move (.inl rfl) rfl rfl) ?_
      refine AL.cons rfl (AOp.addI rfl rfl rfl rfl (c := ((i + 1 : Nat) : Int)) (by omega) (by omega)) ?_
      refine AL.cons rfl (AOp.move (.inr rfl) rfl rfl) ?_
      refine AL.nil ?_
      refine ⟨(i + 1, supF w n (((oTrait (w.traitAt name)).gSupertraits)[i]) (o ++ [(((oTrait (w.traitAt name)).gSupertraits)[i])])), ?_, ?_, ?_⟩
      · first | exact supJ_has (by omega) hi2 hi3 hi4 (by assumption) | exact supJ_new (by omega) hi2 hi3 hi4 (by assumption) rfl
      · skip
        exact Wk.mk (StLe.mk' ⟨⟨rfl, by (repeat' (first | exact PV.Le.refl _ | exact LeL.nil | exact PV.Le.nil _ | exact PV.Le.acc _ _ _ | apply LeL.cons | apply PV.Le.agg | apply PV.Le.tup)), rfl⟩, ⟨⟨rfl, by (repeat' (first | exact PV.Le.refl _ | exact LeL.nil | exact PV.Le.nil _ | exact PV.Le.acc _ _ _ | apply LeL.cons | apply PV.Le.agg | apply PV.Le.tup)), rfl⟩, trivial⟩⟩ (by first | rfl | simp)) (keeps_rows hC (Nat.le_of_ble_eq_true rfl)) ⟨⟨_, rfl, .refl _, rfl⟩, ⟨⟨_, rfl, .refl _, rfl⟩, ⟨⟨_, rfl, by (repeat' (first | exact PV.Le.refl _ | exact LeL.nil | exact PV.Le.nil _ | exact PV.Le.acc _ _ _ | apply LeL.cons | apply PV.Le.agg | apply PV.Le.tup)), rfl⟩, ⟨⟨_, rfl, .refl _, rfl⟩, ⟨⟨_, rfl, .refl _, rfl⟩, ⟨⟨_, rfl, .refl _, rfl⟩, ⟨⟨_, rfl, .refl _, rfl⟩, ⟨⟨_, rfl, .refl _, rfl⟩, ⟨⟨_, rfl, by (repeat' (first | exact PV.Le.refl _ | exact LeL.nil | exact PV.Le.nil _ | exact PV.Le.acc _ _ _ | apply LeL.cons | apply PV.Le.agg | apply PV.Le.tup)), rfl⟩, trivial⟩⟩⟩⟩⟩⟩⟩⟩⟩
      · dsimp only; omega
    · skip
      have h5b := h5
      try simp only [Bool.and_eq_true, Bool.or_eq_true, Bool.and_eq_false_iff, Bool.or_eq_false_iff, decide_eq_true_eq, decide_eq_false_iff_not, Bool.not_eq_true', Bool.not_eq_false', Bool.not_eq_eq_eq_not, Bool.not_true, Bool.not_false, ge_iff_le, gt_iff_lt, Int.not_lt, Int.not_le] at h5b
      refine AWP.skip ?_
      refine AWP.region_lit ?_
      refine AL.cons rfl (AOp.move (.inl rfl) rfl rfl) ?_
      refine AL.cons rfl (AOp.addI rfl rfl rfl rfl (c := ((i + 1 : Nat) : Int)) (by omega) (by omega)) ?_
      refine AL.cons rfl (AOp.move (.inr rfl) rfl rfl) ?_
      refine AL.nil ?_
      refine ⟨(i + 1, o), ?_, ?_, ?_⟩
      · first | exact supJ_has (by omega) hi2 hi3 hi4 (by assumption) | exact supJ_new (by omega) hi2 hi3 hi4 (by assumption) rfl
      · skip
        exact Wk.mk (StLe.mk' ⟨⟨rfl, by (repeat' (first | exact PV.Le.refl _ | exact LeL.nil | exact PV.Le.nil _ | exact PV.Le.acc _ _ _ | apply LeL.cons | apply PV.Le.agg | apply PV.Le.tup)), rfl⟩, ⟨⟨rfl, by (repeat' (first | exact PV.Le.refl _ | exact LeL.nil | exact PV.Le.nil _ | exact PV.Le.acc _ _ _ | apply LeL.cons | apply PV.Le.agg | apply PV.Le.tup)), rfl⟩, trivial⟩⟩ (by first | rfl | simp)) (keeps_rows hC (Nat.le_of_ble_eq_true rfl)) ⟨⟨_, rfl, .refl _, rfl⟩, ⟨⟨_, rfl, .refl _, rfl⟩, ⟨⟨_, rfl, .refl _, rfl⟩, ⟨⟨_, rfl, .refl _, rfl⟩, ⟨⟨_, rfl, .refl _, rfl⟩, ⟨⟨_, rfl, .refl _, rfl⟩, ⟨⟨_, rfl, .refl _, rfl⟩, ⟨⟨_, rfl, .refl _, rfl⟩, ⟨⟨_, rfl, by (repeat' (first | exact PV.Le.refl _ | exact LeL.nil | exact PV.Le.nil _ | exact PV.Le.acc _ _ _ | apply LeL.cons | apply PV.Le.agg | apply PV.Le.tup)), rfl⟩, trivial⟩⟩⟩⟩⟩⟩⟩⟩⟩
      · dsimp only; omega
  · skip
    have h4b := h4
    try simp only [Bool.and_eq_true, Bool.or_eq_true, Bool.and_eq_false_iff, Bool.or_eq_false_iff, decide_eq_true_eq, decide_eq_false_iff_not, Bool.not_eq_true', Bool.not_eq_false', Bool.not_eq_eq_eq_not, Bool.not_true, Bool.not_false, ge_iff_le, gt_iff_lt, Int.not_lt, Int.not_le] at h4b
    have h4n : i ≥ ((oTrait (w.traitAt name)).gSupertraits).length := by omega
    refine AWP.exit ?_
    refine AWP.seq ?_
    refine AWP.region_lit ?_
    refine AL.cons rfl (AOp.move (.inl rfl) rfl rfl) ?_
    refine AL.cons rfl (AOp.move (.inr rfl) rfl rfl) ?_
    refine AL.nil ?_
    refine AWP.ret ?_
    obtain rfl := fold_end (by omega) hi2
    exact Ends.mk (ps := [_]) (.inr rfl) ⟨rfl, trivial⟩ rfl (StLe.mk' (st' := ⟨[], [⟨9, 1, strTrs (supF w (n + 1) name out), false⟩]⟩) trivial rfl) (keeps_rows hC (Nat.le_of_ble_eq_true rfl)) (q := .acc 1 (strTrs (supF w (n + 1) name out)) 0) (.refl _) rfl ⟨rfl, rfl⟩

set_option maxRecDepth 100000 in
set_option maxHeartbeats 4000000 in
theorem allSup_impl (w : GProgram) (name : ByteArray) (hb : w.allSup.length ≤ 1099511627776) : AFun Try.prog 35 [(GProgram.pv w), .t (.leaf (.string (name)))] (.t (.row 1 (strTrs (GProgram.supers w name)))) := by
  refine ACalls.intro Try.func35 rfl (by first | decide | (simp; done) | (simp; decide)) ?_
  intro C hC
  refine AWP.seq ?_
  refine AWP.region_lit ?_
  refine AL.cons rfl (AOp.box (cs := [.t (.row 6 (GPackage.trs (w.gPackages)))]) rfl rfl rfl rfl rfl) ?_
  refine AL.cons rfl (AOp.move (.inr rfl) rfl rfl) ?_
  refine AL.nil ?_
  refine AWP.seq ?_
  refine AWP.region_lit ?_
  refine AL.cons rfl (AOp.loadPtr (cs := [.t (.row 6 (GPackage.trs (w.gPackages)))]) rfl rfl rfl rfl sh63 rfl rfl) ?_
  refine AL.cons rfl (AOp.move (.inl rfl) rfl rfl) ?_
  refine AL.cons rfl (AOp.callF (ps := [_, _, _]) rfl rfl Try.func101 (by kernel_rfl) rfl rfl (by (repeat' (first | exact PV.Le.refl _ | exact LeL.nil | exact PV.Le.nil _ | exact PV.Le.acc _ _ _ | apply LeL.cons | apply PV.Le.agg | apply PV.Le.tup))) rfl rfl (supersNil_impl w name (by assumption))) ?_
  refine AL.cons rfl (AOp.move (.inr rfl) rfl rfl) ?_
  refine AL.nil ?_
  refine AWP.ret ?_
  exact Ends.mk (ps := [_]) (.inr rfl) ⟨rfl, trivial⟩ rfl (StLe.mk' (st' := ⟨[], []⟩) trivial rfl) (keeps_nil hC) (q := (.t (.row 1 (strTrs (GProgram.supers w name))) : PV)) (by (repeat' (first | exact PV.Le.refl _ | exact LeL.nil | exact PV.Le.nil _ | exact PV.Le.acc _ _ _ | apply LeL.cons | apply PV.Le.agg | apply PV.Le.tup))) rfl ⟨by rfl, rfl⟩

set_option maxRecDepth 100000 in
set_option maxHeartbeats 4000000 in
theorem allSup_spec (w : GProgram) (name : ByteArray) (hb : w.allSup.length ≤ 1099511627776) : AFun Try.prog 37 [(GProgram.pv w), .t (.leaf (.string (name)))] (.t (.row 1 (strTrs (GProgram.supers w name)))) := by
  refine ACalls.intro Try.func37 rfl (by first | decide | (simp; done) | (simp; decide)) ?_
  intro C hC
  refine AWP.seq ?_
  refine AWP.region_lit ?_
  refine AL.cons rfl (AOp.box (cs := [.t (.row 6 (GPackage.trs (w.gPackages)))]) rfl rfl rfl rfl rfl) ?_
  refine AL.cons rfl (AOp.move (.inr rfl) rfl rfl) ?_
  refine AL.nil ?_
  refine AWP.seq ?_
  refine AWP.region_lit ?_
  refine AL.cons rfl (AOp.loadPtr (cs := [.t (.row 6 (GPackage.trs (w.gPackages)))]) rfl rfl rfl rfl sh63 rfl rfl) ?_
  refine AL.cons rfl (AOp.move (.inl rfl) rfl rfl) ?_
  refine AL.cons rfl (AOp.buildSlice (es := strTrs ([])) (cs := []) rfl rfl el66 zr9 rfl rfl (by (repeat' (first | exact PV.Le.refl _ | exact LeL.nil | exact PV.Le.nil _ | exact PV.Le.acc _ _ _ | apply LeL.cons | apply PV.Le.agg | apply PV.Le.tup))) rfl (by simp [strTrs]) (by decide) rfl (by decide)) ?_
  refine AL.cons rfl (AOp.callPE (pre := ⟨[], [⟨9, 1, strTrs ([]), false⟩]⟩) (st' := ⟨[], [⟨9, 1, strTrs (GProgram.supers w name), false⟩]⟩) (ps := [_, _, _]) (qs := [(GProgram.pv w), .t (.leaf (.string (name))), .acc 1 (strTrs ([])) 0]) [] [0] rfl rfl Try.func102 (by kernel_rfl) rfl rfl rfl (by (try rw [hs]); exact ⟨rfl, rfl, by decide, by decide, fun k h => absurd h (Nat.not_lt_zero _), fun k x h => by simp at h, fun r row h => by rcases r with _ | r <;> simp at h; subst h; rfl⟩) (by (repeat' (first | exact PV.Le.refl _ | exact LeL.nil | exact PV.Le.nil _ | exact PV.Le.acc _ _ _ | apply LeL.cons | apply PV.Le.agg | apply PV.Le.tup))) rfl rfl rfl (supers_spec w (supM w [] + 1) name [] (Nat.lt_succ_self _) (supM_le (by assumption)))) ?_
  refine AL.cons rfl (AOp.move (.inr rfl) rfl rfl) ?_
  refine AL.nil ?_
  refine AWP.ret ?_
  exact Ends.mk (ps := [_]) (.inr rfl) ⟨rfl, trivial⟩ rfl (StLe.mk' (st' := ⟨[], []⟩) trivial rfl) (keeps_nil hC) (q := (.t (.row 1 (strTrs (GProgram.supers w name))) : PV)) (by (repeat' (first | exact PV.Le.refl _ | exact LeL.nil | exact PV.Le.nil _ | exact PV.Le.acc _ _ _ | apply LeL.cons | apply PV.Le.agg | apply PV.Le.tup))) rfl ⟨by rfl, rfl⟩

end Go.Proofs.Ytoifjkggpanceaa

namespace Go.Proofs.Ytoifjkggpanceaa
open Go.RowKit Go.Proofs
set_option linter.unusedSimpArgs false
set_option linter.unusedVariables false


theorem eqS_miss {a b : List ByteArray} {i : Nat} (h : i < a.length) (hl : a.length = b.length) (hn : ¬ a[i] = b[i]) : decide (a = b) = false := by
  rw [decide_eq_false_iff_not]
  rintro rfl
  exact hn rfl
theorem eqS_hit {a b : List ByteArray} (hl : a.length = b.length) (h : ∀ (j : Nat) (h1 : j < a.length), a[j] = b[j]) : decide (a = b) = true := by
  rw [decide_eq_true_eq]
  exact List.ext_getElem hl fun i h1 _ => h i h1
theorem eqS_next {a b : List ByteArray} {i : Nat} (hl : a.length = b.length) (h : ∀ (j : Nat) (h1 : j < a.length), j < i → a[j] = b[j]) (h1 : i < a.length) (he : a[i] = b[i]) : ∀ (j : Nat) (h1 : j < a.length), j < i + 1 → a[j] = b[j] := fun j hj hi => by
  rcases Nat.lt_or_ge j i with h2 | h2
  · exact h j hj h2
  · have : j = i := by omega
    subst this
    exact he
/-- The way from one trait to another along supertraits: the first one found, depth first, of at most n steps. -/
def pathF (w : GProgram) : Nat → ByteArray → ByteArray → Option (List Int)
  | 0, s, d => if s = d then some [] else none
  | n + 1, s, d => if s = d then some [] else pathL (pathF w n) d 0 (oTrait (w.traitAt s)).gSupertraits
where
  pathL (f : ByteArray → ByteArray → Option (List Int)) (d : ByteArray) : Nat → List ByteArray → Option (List Int)
  | _, [] => none
  | i, x :: l => match f x d with
    | some r => some ((i : Int) :: r)
    | none => pathL f d (i + 1) l
def oPath (o : Option (List Int)) : List Int := o.getD []
theorem pathL_next {f : ByteArray → ByteArray → Option (List Int)} {d : ByteArray} {l : List ByteArray} {i : Nat} {r : Option (List Int)} (h : i < l.length) (hr : r = pathF.pathL f d i (l.drop i)) (hn : (f l[i] d).isSome = false) : r = pathF.pathL f d (i + 1) (l.drop (i + 1)) := by
  rw [hr, List.drop_eq_getElem_cons h, pathF.pathL]
  cases hq : f l[i] d with
  | none => rfl
  | some x => rw [hq] at hn; cases hn
theorem pathL_hit {f : ByteArray → ByteArray → Option (List Int)} {d : ByteArray} {l : List ByteArray} {i : Nat} {r : Option (List Int)} (h : i < l.length) (hr : r = pathF.pathL f d i (l.drop i)) (hn : (f l[i] d).isSome = true) : r = some ([(i : Int)] ++ oPath (f l[i] d)) := by
  rw [hr, List.drop_eq_getElem_cons h, pathF.pathL]
  cases hq : f l[i] d with
  | none => rw [hq] at hn; cases hn
  | some x => rfl
theorem pathL_end {f : ByteArray → ByteArray → Option (List Int)} {d : ByteArray} {l : List ByteArray} {i : Nat} {r : Option (List Int)} (h : l.length ≤ i) (hr : r = pathF.pathL f d i (l.drop i)) : r = none := by
  rw [hr, List.drop_of_length_le h, pathF.pathL]
theorem pathF_len (w : GProgram) : ∀ (n : Nat) (s d : ByteArray), (oPath (pathF w n s d)).length ≤ n
  | 0, s, d => by rw [pathF]; split <;> simp [oPath]
  | n + 1, s, d => by
    rw [pathF]
    split
    · simp [oPath]
    · have key : ∀ (l : List ByteArray) (i : Nat), (oPath (pathF.pathL (pathF w n) d i l)).length ≤ n + 1 := by
        intro l
        induction l with
        | nil => intro i; simp [pathF.pathL, oPath]
        | cons x l ih =>
          intro i
          rw [pathF.pathL]
          have h := pathF_len w n x d
          cases hq : pathF w n x d with
          | none => exact ih (i + 1)
          | some r =>
            rw [hq] at h
            simp only [oPath, Option.getD_some, List.length_cons] at h ⊢
            omega
      exact key _ _
def pathV (o : Option (List Int)) : PV := .tup [.t (.row 1 (intTrs (oPath o))), .t (.leaf (.bool o.isSome))]

set_option maxRecDepth 100000 in
set_option maxHeartbeats 4000000 in
theorem contains_ok (l : List ByteArray) (s : ByteArray) : AFun Try.prog 43 [.t (.row 1 (strTrs (l))), .t (.leaf (.string (s)))] (.t (.leaf (.bool (decide (s ∈ l))))) := by
  refine ACalls.intro Try.func43 rfl (by first | decide | (simp; done) | (simp; decide)) ?_
  intro C hC
  refine AWP.fact (lk_lenN 0 rfl rfl (strTrs_len _)) (fun hl1 => ?_)
  refine AWP.seq ?_
  refine AWP.region_lit ?_
  refine AL.cons rfl (AOp.move (.inr rfl) rfl rfl) ?_
  refine AL.nil ?_
  refine AWP.seq ?_
  refine AWP.region_lit ?_
  refine AL.cons rfl (AOp.move (.inl rfl) rfl rfl) ?_
  refine AL.cons rfl (AOp.move (.inl rfl) rfl rfl) ?_
  refine AL.cons rfl (AOp.callF (ps := [_, _]) rfl rfl Try.func108 (by kernel_rfl) rfl rfl (by (repeat' (first | exact PV.Le.refl _ | exact LeL.nil | exact PV.Le.nil _ | exact PV.Le.acc _ _ _ | apply LeL.cons | apply PV.Le.agg | apply PV.Le.tup))) rfl rfl (indexOf_ok l s)) ?_
  refine AL.cons rfl (AOp.geq rfl rfl rfl rfl) ?_
  refine AL.cons rfl (AOp.move (.inr rfl) rfl rfl) ?_
  refine AL.nil ?_
  refine AWP.ret ?_
  exact Ends.mk (ps := [_]) (.inr rfl) ⟨rfl, trivial⟩ rfl (StLe.mk' (st' := ⟨[], []⟩) trivial rfl) (keeps_nil hC) (q := (.t (.leaf (.bool (decide ((idxS l s : Int) ≥ 0)))) : PV)) (by (repeat' (first | exact PV.Le.refl _ | exact LeL.nil | exact PV.Le.nil _ | exact PV.Le.acc _ _ _ | apply LeL.cons | apply PV.Le.agg | apply PV.Le.tup))) rfl ⟨by rw [← idxS_mem], rfl⟩

set_option maxRecDepth 100000 in
set_option maxHeartbeats 4000000 in
theorem equalS_ok (a : List ByteArray) (b : List ByteArray) : AFun Try.prog 36 [.t (.row 1 (strTrs (a))), .t (.row 1 (strTrs (b)))] (.t (.leaf (.bool (decide (a = b))))) := by
  refine ACalls.intro Try.func36 rfl (by first | decide | (simp; done) | (simp; decide)) ?_
  intro C hC
  refine AWP.fact (lk_lenN 0 rfl rfl (strTrs_len _)) (fun hl1 => ?_)
  refine AWP.fact (lk_lenN 1 rfl rfl (strTrs_len _)) (fun hl2 => ?_)
  refine AWP.seq ?_
  refine AWP.region_lit ?_
  refine AL.cons rfl (AOp.move (.inr rfl) rfl rfl) ?_
  refine AL.nil ?_
  refine AWP.seq ?_
  refine AWP.seq ?_
  refine AWP.region_lit ?_
  refine AL.cons rfl (AOp.move (.inl rfl) rfl rfl) ?_
  refine AL.cons rfl (AOp.lenN rfl rfl rfl rfl el66 (strTrs_len _)) ?_
  refine AL.cons rfl (AOp.move (.inl rfl) rfl rfl) ?_
  refine AL.cons rfl (AOp.lenN rfl rfl rfl rfl el66 (strTrs_len _)) ?_
  refine AL.cons rfl (AOp.neqI rfl rfl rfl rfl) ?_
  refine AL.nil ?_
  refine AWP.cond rfl (fun h3 => ?_) (fun h3 => ?_)
  · skip
    have h3b := h3
    try simp only [Bool.and_eq_true, Bool.or_eq_true, Bool.and_eq_false_iff, Bool.or_eq_false_iff, decide_eq_true_eq, decide_eq_false_iff_not, Bool.not_eq_true', Bool.not_eq_false', Bool.not_eq_eq_eq_not, Bool.not_true, Bool.not_false, ge_iff_le, gt_iff_lt, Int.not_lt, Int.not_le] at h3b
    refine AWP.seq ?_
    refine AWP.region_lit ?_
    refine AL.cons rfl (AOp.move (.inr rfl) rfl rfl) ?_
    refine AL.nil ?_
    refine AWP.ret ?_
    exact Ends.mk (ps := [_]) (.inr rfl) ⟨rfl, trivial⟩ rfl (StLe.mk' (st' := ⟨[], []⟩) trivial rfl) (keeps_nil hC) (q := (.t (.leaf (.bool (false))) : PV)) (by (repeat' (first | exact PV.Le.refl _ | exact LeL.nil | exact PV.Le.nil _ | exact PV.Le.acc _ _ _ | apply LeL.cons | apply PV.Le.agg | apply PV.Le.tup))) rfl ⟨by first | rw [eqS_miss (by omega) hi2 (by first | assumption | simp_all)] | (rw [show decide (a = b) = false by rw [decide_eq_false_iff_not]; rintro rfl; omega]), rfl⟩
  · skip
    have h3b := h3
    try simp only [Bool.and_eq_true, Bool.or_eq_true, Bool.and_eq_false_iff, Bool.or_eq_false_iff, decide_eq_true_eq, decide_eq_false_iff_not, Bool.not_eq_true', Bool.not_eq_false', Bool.not_eq_eq_eq_not, Bool.not_true, Bool.not_false, ge_iff_le, gt_iff_lt, Int.not_lt, Int.not_le] at h3b
    refine AWP.skip ?_
    refine AWP.seq ?_
    refine AWP.seq ?_
    refine AWP.region_lit ?_
    refine AL.cons rfl (AOp.move (.inr rfl) rfl rfl) ?_
    refine AL.nil ?_
    refine AWP.block ?_
    refine AWP.loopJ (ι := Nat) (fun i => i ≤ a.length ∧ a.length = b.length ∧ ∀ (j : Nat) (h1 : j < a.length), j < i → a[j] = b[j]) (fun i => ⟨[(0, .t (.row 1 (strTrs (a)))), (1, .t (.row 1 (strTrs (b)))), (5, .t (.leaf (.int .i64 (((i : Nat) : Int)))))], ⟨[], []⟩⟩) (fun i => a.length - i) 0 ?_ ?_ ?_
    · exact ⟨Nat.zero_le _, by omega, fun j hj h => absurd h (Nat.not_lt_zero _)⟩
    · skip
      exact Wk.mk (StLe.mk' trivial rfl) (keeps_nil hC) ⟨⟨_, rfl, .refl _, rfl⟩, ⟨⟨_, rfl, .refl _, rfl⟩, ⟨⟨_, rfl, by (repeat' (first | exact PV.Le.refl _ | exact LeL.nil | exact PV.Le.nil _ | exact PV.Le.acc _ _ _ | apply LeL.cons | apply PV.Le.agg | apply PV.Le.tup)), rfl⟩, trivial⟩⟩⟩
    rintro i hJ4
    obtain ⟨hi1, hi2, hi3⟩ := hJ4
    refine AWP.seq ?_
    refine AWP.seq ?_
    refine AWP.region_lit ?_
    refine AL.cons rfl (AOp.move (.inl rfl) rfl rfl) ?_
    refine AL.cons rfl (AOp.move (.inl rfl) rfl rfl) ?_
    refine AL.cons rfl (AOp.lenN rfl rfl rfl rfl el66 (strTrs_len _)) ?_
    refine AL.cons rfl (AOp.lss rfl rfl rfl rfl) ?_
    refine AL.nil ?_
    refine AWP.cond rfl (fun h5 => ?_) (fun h5 => ?_)
    · skip
      have h5b := h5
      try simp only [Bool.and_eq_true, Bool.or_eq_true, Bool.and_eq_false_iff, Bool.or_eq_false_iff, decide_eq_true_eq, decide_eq_false_iff_not, Bool.not_eq_true', Bool.not_eq_false', Bool.not_eq_eq_eq_not, Bool.not_true, Bool.not_false, ge_iff_le, gt_iff_lt, Int.not_lt, Int.not_le] at h5b
      have h5n : i < a.length := by omega
      refine AWP.skip ?_
      refine AWP.seq ?_
      refine AWP.block ?_
      refine AWP.seq ?_
      have hn6 : i < List.length b := by first | omega | (simp; omega) | (simp [*]; omega)
      refine AWP.drawnL ⟨_, _, fun _ _ => (⟨[], []⟩ : Sto), fun q' => ([some (.t (.row 1 (strTrs (a)))), some (.t (.leaf (.int .i64 (((i : Nat) : Int))))), some (.eptr ([.leaf (.string (a[i]))])), some (.t (.leaf (.string (a[i])))), some (.t (.row 1 (strTrs (b)))), some (.t (.leaf (.int .i64 (((i : Nat) : Int))))), some (.eptr ([.leaf (.string (b[i]))])), some (.t (.leaf (.string (b[i])))), some (.t (.leaf (.bool (!decide (a[i] = b[i])))))] : List (Option PV)).getD q' none, fun q' => ([.q 0 0, .q 0 0, .q 0 0, .q 0 0, .q 0 0, .q 0 0, .q 0 0, .q 0 0, .q 0 0] : List DK).getD q' (.q 0 0), [], none, fun q' => ([[(0, none)], [(5, none)], [(17, some 0), (18, some 1)], [(19, some 2)], [(1, none)], [(5, none)], [(21, some 4), (22, some 5)], [(23, some 6)], [(20, some 3), (24, some 7)]] : List (List (Nat × Option Nat))).getD q' []⟩ rfl mixed (by kernel_rfl) rfl rfl ⟨?_, ?_, ?_, ?_, ?_, ?_, ?_, ?_, ?_, trivial⟩ rfl ?_
      · refine .inl ⟨rfl, fun s' jj bb (h1 : 0 ≤ jj) (h2 : jj ≤ 0) hs hl => ?_⟩
        obtain rfl : jj = 0 := by omega
        exact ⟨_, rfl, AOp.move (.inl rfl) rfl (hl 0 none _ (.head _) rfl)⟩
      · refine .inl ⟨rfl, fun s' jj bb (h1 : 0 ≤ jj) (h2 : jj ≤ 0) hs hl => ?_⟩
        obtain rfl : jj = 0 := by omega
        exact ⟨_, rfl, AOp.move (.inl rfl) rfl (hl 5 none _ (.head _) rfl)⟩
      · refine .inl ⟨rfl, fun s' jj bb (h1 : 0 ≤ jj) (h2 : jj ≤ 0) hs hl => ?_⟩
        obtain rfl : jj = 0 := by omega
        exact ⟨_, rfl, AOp.index (k := i) rfl rfl (hl 17 (some 0) _ (.head _) rfl) rfl (hl 18 (some 1) _ (.tail _ (.head _)) rfl) (strTrs_cs h5n) el66⟩
      · refine .inl ⟨rfl, fun s' jj bb (h1 : 0 ≤ jj) (h2 : jj ≤ 0) hs hl => ?_⟩
        obtain rfl : jj = 0 := by omega
        exact ⟨_, rfl, AOp.loadEptr1 (d := .leaf (.string (a[i]))) rfl rfl (hl 19 (some 2) _ (.head _) rfl) sh9 rfl⟩
      · refine .inl ⟨rfl, fun s' jj bb (h1 : 0 ≤ jj) (h2 : jj ≤ 0) hs hl => ?_⟩
        obtain rfl : jj = 0 := by omega
        exact ⟨_, rfl, AOp.move (.inl rfl) rfl (hl 1 none _ (.head _) rfl)⟩
      · refine .inl ⟨rfl, fun s' jj bb (h1 : 0 ≤ jj) (h2 : jj ≤ 0) hs hl => ?_⟩
        obtain rfl : jj = 0 := by omega
        exact ⟨_, rfl, AOp.move (.inl rfl) rfl (hl 5 none _ (.head _) rfl)⟩
      · refine .inl ⟨rfl, fun s' jj bb (h1 : 0 ≤ jj) (h2 : jj ≤ 0) hs hl => ?_⟩
        obtain rfl : jj = 0 := by omega
        exact ⟨_, rfl, AOp.index (k := i) rfl rfl (hl 21 (some 4) _ (.head _) rfl) rfl (hl 22 (some 5) _ (.tail _ (.head _)) rfl) (strTrs_cs hn6) el66⟩
      · refine .inl ⟨rfl, fun s' jj bb (h1 : 0 ≤ jj) (h2 : jj ≤ 0) hs hl => ?_⟩
        obtain rfl : jj = 0 := by omega
        exact ⟨_, rfl, AOp.loadEptr1 (d := .leaf (.string (b[i]))) rfl rfl (hl 23 (some 6) _ (.head _) rfl) sh9 rfl⟩
      · refine .inl ⟨rfl, fun s' jj bb (h1 : 0 ≤ jj) (h2 : jj ≤ 0) hs hl => ?_⟩
        obtain rfl : jj = 0 := by omega
        exact ⟨_, rfl, AOp.neqS rfl rfl (hl 20 (some 3) _ (.head _) rfl) (hl 24 (some 7) _ (.tail _ (.head _)) rfl)⟩
      refine AWP.cond rfl (fun h7 => ?_) (fun h7 => ?_)
      · skip
        have h7b := h7
        try simp only [Bool.and_eq_true, Bool.or_eq_true, Bool.and_eq_false_iff, Bool.or_eq_false_iff, decide_eq_true_eq, decide_eq_false_iff_not, Bool.not_eq_true', Bool.not_eq_false', Bool.not_eq_eq_eq_not, Bool.not_true, Bool.not_false, ge_iff_le, gt_iff_lt, Int.not_lt, Int.not_le] at h7b
        refine AWP.seq ?_
        refine AWP.region_lit ?_
        refine AL.cons rfl (AOp.move (.inr rfl) rfl rfl) ?_
        refine AL.nil ?_
        refine AWP.ret ?_
        exact Ends.mk (ps := [_]) (.inr rfl) ⟨rfl, trivial⟩ rfl (StLe.mk' (st' := ⟨[], []⟩) trivial rfl) (keeps_nil hC) (q := (.t (.leaf (.bool (false))) : PV)) (by (repeat' (first | exact PV.Le.refl _ | exact LeL.nil | exact PV.Le.nil _ | exact PV.Le.acc _ _ _ | apply LeL.cons | apply PV.Le.agg | apply PV.Le.tup))) rfl ⟨by first | rw [eqS_miss (by omega) hi2 (by first | assumption | simp_all)] | (rw [show decide (a = b) = false by rw [decide_eq_false_iff_not]; rintro rfl; omega]), rfl⟩
      · skip
        have h7b := h7
        try simp only [Bool.and_eq_true, Bool.or_eq_true, Bool.and_eq_false_iff, Bool.or_eq_false_iff, decide_eq_true_eq, decide_eq_false_iff_not, Bool.not_eq_true', Bool.not_eq_false', Bool.not_eq_eq_eq_not, Bool.not_true, Bool.not_false, ge_iff_le, gt_iff_lt, Int.not_lt, Int.not_le] at h7b
        refine AWP.skip ?_
        refine AWP.region_lit ?_
        refine AL.cons rfl (AOp.move (.inl rfl) rfl rfl) ?_
        refine AL.cons rfl (AOp.addI rfl rfl rfl rfl (c := ((i + 1 : Nat) : Int)) (by omega) (by omega)) ?_
        refine AL.cons rfl (AOp.move (.inr rfl) rfl rfl) ?_
        refine AL.nil ?_
        refine ⟨i + 1, ?_, ?_, ?_⟩
        · exact ⟨by omega, hi2, eqS_next hi2 hi3 (by omega) (by first | assumption | simp_all)⟩
        · skip
          exact Wk.mk (StLe.mk' trivial rfl) (keeps_nil hC) ⟨⟨_, rfl, .refl _, rfl⟩, ⟨⟨_, rfl, .refl _, rfl⟩, ⟨⟨_, rfl, by (repeat' (first | exact PV.Le.refl _ | exact LeL.nil | exact PV.Le.nil _ | exact PV.Le.acc _ _ _ | apply LeL.cons | apply PV.Le.agg | apply PV.Le.tup)), rfl⟩, trivial⟩⟩⟩
        · omega
    · skip
      have h5b := h5
      try simp only [Bool.and_eq_true, Bool.or_eq_true, Bool.and_eq_false_iff, Bool.or_eq_false_iff, decide_eq_true_eq, decide_eq_false_iff_not, Bool.not_eq_true', Bool.not_eq_false', Bool.not_eq_eq_eq_not, Bool.not_true, Bool.not_false, ge_iff_le, gt_iff_lt, Int.not_lt, Int.not_le] at h5b
      have h5n : i ≥ a.length := by omega
      refine AWP.exit ?_
      refine AWP.seq ?_
      refine AWP.region_lit ?_
      refine AL.cons rfl (AOp.move (.inr rfl) rfl rfl) ?_
      refine AL.nil ?_
      refine AWP.ret ?_
      exact Ends.mk (ps := [_]) (.inr rfl) ⟨rfl, trivial⟩ rfl (StLe.mk' (st' := ⟨[], []⟩) trivial rfl) (keeps_nil hC) (q := (.t (.leaf (.bool (true))) : PV)) (by (repeat' (first | exact PV.Le.refl _ | exact LeL.nil | exact PV.Le.nil _ | exact PV.Le.acc _ _ _ | apply LeL.cons | apply PV.Le.agg | apply PV.Le.tup))) rfl ⟨by rw [eqS_hit hi2 (fun j hj => hi3 j hj (by omega))], rfl⟩

set_option maxRecDepth 100000 in
set_option maxHeartbeats 4000000 in
theorem pathTo_ok (w : GProgram) : ∀ (n : Nat) (s d : ByteArray), n ≤ 1000 → AFun Try.prog 105 [(GProgram.pv w), .t (.leaf (.string s)), .t (.leaf (.string d)), .t (.leaf (.int .i64 ((n : Nat) : Int)))] (pathV (pathF w n s d)) := by
  intro n
  induction n with
  | zero =>
  intro s d hn
  refine ACalls.intro Try.func105 rfl (by first | decide | (simp; done) | (simp; decide)) ?_
  intro C hC
  refine AWP.seq ?_
  refine AWP.region_lit ?_
  refine AL.cons rfl (AOp.box (cs := [.t (.row 6 (GPackage.trs (w.gPackages)))]) rfl rfl rfl rfl rfl) ?_
  refine AL.cons rfl (AOp.move (.inr rfl) rfl rfl) ?_
  refine AL.cons rfl (AOp.move (.inr rfl) rfl rfl) ?_
  refine AL.nil ?_
  refine AWP.seq ?_
  refine AWP.seq ?_
  refine AWP.region_lit ?_
  refine AL.cons rfl (AOp.move (.inl rfl) rfl rfl) ?_
  refine AL.cons rfl (AOp.move (.inl rfl) rfl rfl) ?_
  refine AL.cons rfl (AOp.eqlS rfl rfl rfl rfl) ?_
  refine AL.nil ?_
  refine AWP.cond rfl (fun h1 => ?_) (fun h1 => ?_)
  · skip
    have h1b := h1
    try simp only [Bool.and_eq_true, Bool.or_eq_true, Bool.and_eq_false_iff, Bool.or_eq_false_iff, decide_eq_true_eq, decide_eq_false_iff_not, Bool.not_eq_true', Bool.not_eq_false', Bool.not_eq_eq_eq_not, Bool.not_true, Bool.not_false, ge_iff_le, gt_iff_lt, Int.not_lt, Int.not_le] at h1b
    refine AWP.seq ?_
    refine AWP.region_lit ?_
    refine AL.cons rfl (AOp.buildSlice (es := intTrs ([])) (cs := []) rfl rfl el45 zr3 rfl rfl (by (repeat' (first | exact PV.Le.refl _ | exact LeL.nil | exact PV.Le.nil _ | exact PV.Le.acc _ _ _ | apply LeL.cons | apply PV.Le.agg | apply PV.Le.tup))) rfl (by simp [intTrs]) (by decide) rfl (by decide)) ?_
    refine AL.cons rfl (AOp.move (.inr rfl) rfl rfl) ?_
    refine AL.cons rfl (AOp.move (.inr rfl) rfl rfl) ?_
    refine AL.nil ?_
    refine AWP.ret ?_
    have hq : pathF w (0) s d = some [] := by rw [pathF, if_pos (by assumption)]
    exact Ends.mk (ps := [_, _]) (.inr rfl) ⟨rfl, rfl, trivial⟩ rfl (StLe.mk' (st' := ⟨[], []⟩) trivial rfl) (keeps_nil hC) (q := .tup [.t (.row 1 (intTrs [])), .t (.leaf (.bool true))]) (by (repeat' (first | exact PV.Le.refl _ | exact LeL.nil | exact PV.Le.nil _ | exact PV.Le.acc _ _ _ | apply LeL.cons | apply PV.Le.agg | apply PV.Le.tup))) rfl ⟨by rw [hq]; rfl, rfl⟩
  · skip
    have h1b := h1
    try simp only [Bool.and_eq_true, Bool.or_eq_true, Bool.and_eq_false_iff, Bool.or_eq_false_iff, decide_eq_true_eq, decide_eq_false_iff_not, Bool.not_eq_true', Bool.not_eq_false', Bool.not_eq_eq_eq_not, Bool.not_true, Bool.not_false, ge_iff_le, gt_iff_lt, Int.not_lt, Int.not_le] at h1b
    refine AWP.skip ?_
    refine AWP.seq ?_
    refine AWP.seq ?_
    refine AWP.region_lit ?_
    refine AL.cons rfl (AOp.move (.inl rfl) rfl rfl) ?_
    refine AL.cons rfl (AOp.eqlI rfl rfl rfl rfl) ?_
    refine AL.nil ?_
    refine AWP.cond rfl (fun h2 => ?_) (fun h2 => ?_)
    · skip
      have h2b := h2
      try simp only [Bool.and_eq_true, Bool.or_eq_true, Bool.and_eq_false_iff, Bool.or_eq_false_iff, decide_eq_true_eq, decide_eq_false_iff_not, Bool.not_eq_true', Bool.not_eq_false', Bool.not_eq_eq_eq_not, Bool.not_true, Bool.not_false, ge_iff_le, gt_iff_lt, Int.not_lt, Int.not_le] at h2b
      refine AWP.seq ?_
      refine AWP.region_lit ?_
      refine AL.cons rfl (AOp.move (.inr rfl) rfl rfl) ?_
      refine AL.cons rfl (AOp.move (.inr rfl) rfl rfl) ?_
      refine AL.nil ?_
      refine AWP.ret ?_
      have hq : pathF w (0) s d = none := by first | exact pathL_end (by omega) hi2 | (rw [pathF, if_neg (by assumption)])
      exact Ends.mk (ps := [_, _]) (.inr rfl) ⟨rfl, rfl, trivial⟩ rfl (StLe.mk' (st' := ⟨[], []⟩) trivial rfl) (keeps_nil hC) (q := .tup [.t (.row 1 (intTrs [])), .t (.leaf (.bool false))]) (by (repeat' (first | exact PV.Le.refl _ | exact LeL.nil | exact PV.Le.nil _ | exact PV.Le.acc _ _ _ | apply LeL.cons | apply PV.Le.agg | apply PV.Le.tup))) rfl ⟨by rw [hq]; rfl, rfl⟩
    · skip
      exact absurd (h2.symm.trans rfl) (by decide)
  | succ n ih =>
  intro s d hn
  refine ACalls.intro Try.func105 rfl (by first | decide | (simp; done) | (simp; decide)) ?_
  intro C hC
  have hsucc : decide ((((n + 1 : Nat) : Int) : Int) = 0) = false := by rw [decide_eq_false_iff_not]; omega
  refine AWP.seq ?_
  refine AWP.region_lit ?_
  refine AL.cons rfl (AOp.box (cs := [.t (.row 6 (GPackage.trs (w.gPackages)))]) rfl rfl rfl rfl rfl) ?_
  refine AL.cons rfl (AOp.move (.inr rfl) rfl rfl) ?_
  refine AL.cons rfl (AOp.move (.inr rfl) rfl rfl) ?_
  refine AL.nil ?_
  refine AWP.seq ?_
  refine AWP.seq ?_
  refine AWP.region_lit ?_
  refine AL.cons rfl (AOp.move (.inl rfl) rfl rfl) ?_
  refine AL.cons rfl (AOp.move (.inl rfl) rfl rfl) ?_
  refine AL.cons rfl (AOp.eqlS rfl rfl rfl rfl) ?_
  refine AL.nil ?_
  refine AWP.cond rfl (fun h1 => ?_) (fun h1 => ?_)
  · skip
    have h1b := h1
    try simp only [Bool.and_eq_true, Bool.or_eq_true, Bool.and_eq_false_iff, Bool.or_eq_false_iff, decide_eq_true_eq, decide_eq_false_iff_not, Bool.not_eq_true', Bool.not_eq_false', Bool.not_eq_eq_eq_not, Bool.not_true, Bool.not_false, ge_iff_le, gt_iff_lt, Int.not_lt, Int.not_le] at h1b
    refine AWP.seq ?_
    refine AWP.region_lit ?_
    refine AL.cons rfl (AOp.buildSlice (es := intTrs ([])) (cs := []) rfl rfl el45 zr3 rfl rfl (by (repeat' (first | exact PV.Le.refl _ | exact LeL.nil | exact PV.Le.nil _ | exact PV.Le.acc _ _ _ | apply LeL.cons | apply PV.Le.agg | apply PV.Le.tup))) rfl (by simp [intTrs]) (by decide) rfl (by decide)) ?_
    refine AL.cons rfl (AOp.move (.inr rfl) rfl rfl) ?_
    refine AL.cons rfl (AOp.move (.inr rfl) rfl rfl) ?_
    refine AL.nil ?_
    refine AWP.ret ?_
    have hq : pathF w (n + 1) s d = some [] := by rw [pathF, if_pos (by assumption)]
    exact Ends.mk (ps := [_, _]) (.inr rfl) ⟨rfl, rfl, trivial⟩ rfl (StLe.mk' (st' := ⟨[], []⟩) trivial rfl) (keeps_nil hC) (q := .tup [.t (.row 1 (intTrs [])), .t (.leaf (.bool true))]) (by (repeat' (first | exact PV.Le.refl _ | exact LeL.nil | exact PV.Le.nil _ | exact PV.Le.acc _ _ _ | apply LeL.cons | apply PV.Le.agg | apply PV.Le.tup))) rfl ⟨by rw [hq]; rfl, rfl⟩
  · skip
    have h1b := h1
    try simp only [Bool.and_eq_true, Bool.or_eq_true, Bool.and_eq_false_iff, Bool.or_eq_false_iff, decide_eq_true_eq, decide_eq_false_iff_not, Bool.not_eq_true', Bool.not_eq_false', Bool.not_eq_eq_eq_not, Bool.not_true, Bool.not_false, ge_iff_le, gt_iff_lt, Int.not_lt, Int.not_le] at h1b
    refine AWP.skip ?_
    refine AWP.seq ?_
    refine AWP.seq ?_
    refine AWP.region_lit ?_
    refine AL.cons rfl (AOp.move (.inl rfl) rfl rfl) ?_
    refine AL.cons rfl (AOp.eqlI rfl rfl rfl rfl) ?_
    refine AL.nil ?_
    refine AWP.cond rfl (fun h2 => ?_) (fun h2 => ?_)
    · skip
      exact absurd (h2.symm.trans hsucc) (by decide)
    · skip
      have h2b := h2
      try simp only [Bool.and_eq_true, Bool.or_eq_true, Bool.and_eq_false_iff, Bool.or_eq_false_iff, decide_eq_true_eq, decide_eq_false_iff_not, Bool.not_eq_true', Bool.not_eq_false', Bool.not_eq_eq_eq_not, Bool.not_true, Bool.not_false, ge_iff_le, gt_iff_lt, Int.not_lt, Int.not_le] at h2b
      refine AWP.skip ?_
      refine AWP.seq ?_
      refine AWP.region_lit ?_
      refine AL.cons rfl (AOp.loadPtr (cs := [.t (.row 6 (GPackage.trs (w.gPackages)))]) rfl rfl rfl rfl sh63 rfl rfl) ?_
      refine AL.cons rfl (AOp.move (.inl rfl) rfl rfl) ?_
      refine AL.cons rfl (AOp.callF (ps := [_, _]) rfl rfl Try.func166 (by kernel_rfl) rfl rfl (by (repeat' (first | exact PV.Le.refl _ | exact LeL.nil | exact PV.Le.nil _ | exact PV.Le.acc _ _ _ | apply LeL.cons | apply PV.Le.agg | apply PV.Le.tup))) rfl rfl (trait_impl w s)) ?_
      refine AL.cons rfl (AOp.move (.inl rfl) rfl rfl) ?_
      refine AL.cons rfl (AOp.extract rfl rfl rfl rfl) ?_
      refine AL.cons rfl (AOp.extract rfl rfl rfl rfl) ?_
      refine AL.cons rfl (AOp.extract rfl rfl rfl rfl) ?_
      refine AL.cons rfl (AOp.alloc rfl rfl zr75) ?_
      refine AL.cons rfl (AOp.storePtr (cs := [.t (.leaf (.string ((oTrait (w.traitAt s)).gName))), .t (.row 1 (strTrs ((oTrait (w.traitAt s)).gSupertraits))), .t (.leaf (.bool ((oTrait (w.traitAt s)).gAuto))), .t (.leaf (.bool ((oTrait (w.traitAt s)).gAssoc))), .t (.row 16 (GSignature.trs ((oTrait (w.traitAt s)).gSignatures)))]) (ds := [.t (.leaf (.string ((oTrait (w.traitAt s)).gName))), .t (.row 1 (strTrs ((oTrait (w.traitAt s)).gSupertraits))), .t (.leaf (.bool ((oTrait (w.traitAt s)).gAuto))), .t (.leaf (.bool ((oTrait (w.traitAt s)).gAssoc))), .t (.row 16 (GSignature.trs ((oTrait (w.traitAt s)).gSignatures)))]) rfl rfl rfl rfl rfl rfl rfl sz75 (Nat.le_of_ble_eq_true rfl) rfl) ?_
      refine AL.cons rfl (AOp.move (.inr rfl) rfl rfl) ?_
      refine AL.cons rfl (AOp.move (.inr rfl) rfl rfl) ?_
      refine AL.nil ?_
      refine AWP.seq ?_
      refine AWP.seq ?_
      refine AWP.region_lit ?_
      refine AL.cons rfl (AOp.fieldPtr (k := 1) (d := 0) (e := 1) rfl rfl rfl fo75_1) ?_
      refine AL.cons rfl (AOp.loadPtr1 rfl rfl rfl rfl sh66 rfl) ?_
      refine AL.fact (lk_lenN 31 rfl rfl (strTrs_len _)) (fun hl3 => ?_)
      refine AL.cons rfl (AOp.lenN rfl rfl rfl rfl el66 (strTrs_len _)) ?_
      refine AL.cons rfl (AOp.move (.inl rfl) rfl rfl) ?_
      refine AL.nil ?_
      refine AWP.block ?_
      refine AWP.loopJ (ι := Nat) (fun i => i ≤ (oTrait (w.traitAt s)).gSupertraits.length ∧ pathF w (n + 1) s d = pathF.pathL (pathF w n) d i ((oTrait (w.traitAt s)).gSupertraits.drop i)) (fun i => ⟨[(0, (GProgram.pv w)), (1, .t (.leaf (.string (s)))), (2, .t (.leaf (.string (d)))), (3, .t (.leaf (.int .i64 (((n + 1 : Nat) : Int))))), (4, .ptr 0 0), (10, .ptr 1 0), (11, .t (.leaf (.int .i64 (oInt (w.traitAt s))))), (12, .t (.leaf (.bool ((w.traitAt s).isSome)))), (31, .t (.row 1 (strTrs ((oTrait (w.traitAt s)).gSupertraits)))), (32, .t (.leaf (.int .i64 (((((oTrait (w.traitAt s)).gSupertraits).length : Nat) : Int))))), (33, .t (.leaf (.int .i64 (((i : Nat) : Int)))))], ⟨[some ⟨63, [.t (.row 6 (GPackage.trs (w.gPackages)))]⟩, some ⟨75, [.t (.leaf (.string ((oTrait (w.traitAt s)).gName))), .t (.row 1 (strTrs ((oTrait (w.traitAt s)).gSupertraits))), .t (.leaf (.bool ((oTrait (w.traitAt s)).gAuto))), .t (.leaf (.bool ((oTrait (w.traitAt s)).gAssoc))), .t (.row 16 (GSignature.trs ((oTrait (w.traitAt s)).gSignatures)))]⟩], []⟩⟩) (fun i => (oTrait (w.traitAt s)).gSupertraits.length - i) 0 ?_ ?_ ?_
      · exact ⟨Nat.zero_le _, by rw [pathF, if_neg (by assumption)]; rfl⟩
      · skip
        exact Wk.mk (StLe.mk' ⟨⟨rfl, by (repeat' (first | exact PV.Le.refl _ | exact LeL.nil | exact PV.Le.nil _ | exact PV.Le.acc _ _ _ | apply LeL.cons | apply PV.Le.agg | apply PV.Le.tup)), rfl⟩, ⟨⟨rfl, by (repeat' (first | exact PV.Le.refl _ | exact LeL.nil | exact PV.Le.nil _ | exact PV.Le.acc _ _ _ | apply LeL.cons | apply PV.Le.agg | apply PV.Le.tup)), rfl⟩, trivial⟩⟩ rfl) (keeps_nil hC) ⟨⟨_, rfl, .refl _, rfl⟩, ⟨⟨_, rfl, .refl _, rfl⟩, ⟨⟨_, rfl, .refl _, rfl⟩, ⟨⟨_, rfl, .refl _, rfl⟩, ⟨⟨_, rfl, .refl _, rfl⟩, ⟨⟨_, rfl, .refl _, rfl⟩, ⟨⟨_, rfl, .refl _, rfl⟩, ⟨⟨_, rfl, .refl _, rfl⟩, ⟨⟨_, rfl, .refl _, rfl⟩, ⟨⟨_, rfl, .refl _, rfl⟩, ⟨⟨_, rfl, by (repeat' (first | exact PV.Le.refl _ | exact LeL.nil | exact PV.Le.nil _ | exact PV.Le.acc _ _ _ | apply LeL.cons | apply PV.Le.agg | apply PV.Le.tup)), rfl⟩, trivial⟩⟩⟩⟩⟩⟩⟩⟩⟩⟩⟩
      rintro i hJ4
      obtain ⟨hi1, hi2⟩ := hJ4
      refine AWP.seq ?_
      refine AWP.region_lit ?_
      refine AL.cons rfl (AOp.lss rfl rfl rfl rfl) ?_
      refine AL.nil ?_
      refine AWP.seq ?_
      refine AWP.cond rfl (fun h5 => ?_) (fun h5 => ?_)
      · skip
        have h5b := h5
        try simp only [Bool.and_eq_true, Bool.or_eq_true, Bool.and_eq_false_iff, Bool.or_eq_false_iff, decide_eq_true_eq, decide_eq_false_iff_not, Bool.not_eq_true', Bool.not_eq_false', Bool.not_eq_eq_eq_not, Bool.not_true, Bool.not_false, ge_iff_le, gt_iff_lt, Int.not_lt, Int.not_le] at h5b
        have h5n : i < ((oTrait (w.traitAt s)).gSupertraits).length := by omega
        refine AWP.skip ?_
        refine AWP.seq ?_
        refine AWP.block ?_
        refine AWP.seq ?_
        refine AWP.region_lit ?_
        refine AL.cons rfl (AOp.move (.inl rfl) rfl rfl) ?_
        refine AL.cons rfl (AOp.index (k := i) rfl rfl rfl rfl rfl (strTrs_cs h5n) el66) ?_
        refine AL.cons rfl (AOp.loadEptr1 (d := .leaf (.string (((oTrait (w.traitAt s)).gSupertraits)[i]))) rfl rfl rfl sh9 rfl) ?_
        refine AL.cons rfl (AOp.move (.inr rfl) rfl rfl) ?_
        refine AL.cons rfl (AOp.move (.inr rfl) rfl rfl) ?_
        refine AL.nil ?_
        refine AWP.seq ?_
        refine AWP.region_lit ?_
        refine AL.cons rfl (AOp.loadPtr (cs := [.t (.row 6 (GPackage.trs (w.gPackages)))]) rfl rfl rfl rfl sh63 rfl rfl) ?_
        refine AL.cons rfl (AOp.move (.inl rfl) rfl rfl) ?_
        refine AL.cons rfl (AOp.move (.inl rfl) rfl rfl) ?_
        refine AL.cons rfl (AOp.move (.inl rfl) rfl rfl) ?_
        refine AL.cons rfl (AOp.subI rfl rfl rfl rfl (c := ((n : Nat) : Int)) (by omega) (by omega)) ?_
        refine AL.cons rfl (AOp.callF (ps := [_, _, _, _]) rfl rfl Try.func105 (by kernel_rfl) rfl rfl (by (repeat' (first | exact PV.Le.refl _ | exact LeL.nil | exact PV.Le.nil _ | exact PV.Le.acc _ _ _ | apply LeL.cons | apply PV.Le.agg | apply PV.Le.tup))) rfl rfl (ih (((oTrait (w.traitAt s)).gSupertraits)[i]) d (by omega))) ?_
        refine AL.cons rfl (AOp.move (.inl rfl) rfl rfl) ?_
        refine AL.cons rfl (AOp.extract rfl rfl rfl rfl) ?_
        refine AL.cons rfl (AOp.extract rfl rfl rfl rfl) ?_
        refine AL.cons rfl (AOp.move (.inr rfl) rfl rfl) ?_
        refine AL.cons rfl (AOp.move (.inr rfl) rfl rfl) ?_
        refine AL.nil ?_
        refine AWP.seq ?_
        refine AWP.region_lit ?_
        refine AL.cons rfl (AOp.move (.inl rfl) rfl rfl) ?_
        refine AL.nil ?_
        refine AWP.cond rfl (fun h6 => ?_) (fun h6 => ?_)
        · skip
          have h6b := h6
          try simp only [Bool.and_eq_true, Bool.or_eq_true, Bool.and_eq_false_iff, Bool.or_eq_false_iff, decide_eq_true_eq, decide_eq_false_iff_not, Bool.not_eq_true', Bool.not_eq_false', Bool.not_eq_eq_eq_not, Bool.not_true, Bool.not_false, ge_iff_le, gt_iff_lt, Int.not_lt, Int.not_le] at h6b
          refine AWP.seq ?_
          refine AWP.region_lit ?_
          refine AL.cons rfl (AOp.move (.inl rfl) rfl rfl) ?_
          refine AL.cons rfl (AOp.buildSlice (es := intTrs ([((i : Nat) : Int)])) (cs := [.t (.leaf (.int .i64 (((i : Nat) : Int))))]) rfl rfl el45 zr3 rfl rfl (by (repeat' (first | exact PV.Le.refl _ | exact LeL.nil | exact PV.Le.nil _ | exact PV.Le.acc _ _ _ | apply LeL.cons | apply PV.Le.agg | apply PV.Le.tup))) rfl (by simp [intTrs]) (by decide) rfl (by decide)) ?_
          refine AL.cons rfl (AOp.move (.inl rfl) rfl rfl) ?_
          refine AL.cons rfl (AOp.appendE (es3 := intTrs (([((i : Nat) : Int)]) ++ (oPath (pathF w (n) (((oTrait (w.traitAt s)).gSupertraits)[i]) d)))) rfl rfl rfl rfl rfl rfl rfl rfl rfl (intTrs_all _) el45 ze45 (by decide) (by have := pathF_len w n (oTrait (w.traitAt s)).gSupertraits[i] d; rw [intTrs_len, intTrs_len]; simp; omega) (intTrs_append _ _)) ?_
          refine AL.cons rfl (AOp.move (.inr rfl) rfl rfl) ?_
          refine AL.cons rfl (AOp.move (.inr rfl) rfl rfl) ?_
          refine AL.nil ?_
          refine AWP.ret ?_
          have hq := pathL_hit (by omega) hi2 (by assumption)
          exact Ends.mk (ps := [_, _]) (.inr rfl) ⟨rfl, rfl, trivial⟩ rfl (StLe.mk' (st' := ⟨[], []⟩) trivial rfl) (keeps_nil hC) (q := .tup [.t (.row 1 (intTrs (([((i : Nat) : Int)]) ++ (oPath (pathF w (n) (((oTrait (w.traitAt s)).gSupertraits)[i]) d))))), .t (.leaf (.bool true))]) (by (repeat' (first | exact PV.Le.refl _ | exact LeL.nil | exact PV.Le.nil _ | exact PV.Le.acc _ _ _ | apply LeL.cons | apply PV.Le.agg | apply PV.Le.tup))) rfl ⟨by rw [hq]; rfl, rfl⟩
        · skip
          have h6b := h6
          try simp only [Bool.and_eq_true, Bool.or_eq_true, Bool.and_eq_false_iff, Bool.or_eq_false_iff, decide_eq_true_eq, decide_eq_false_iff_not, Bool.not_eq_true', Bool.not_eq_false', Bool.not_eq_eq_eq_not, Bool.not_true, Bool.not_false, ge_iff_le, gt_iff_lt, Int.not_lt, Int.not_le] at h6b
          refine AWP.skip ?_
          refine AWP.region_lit ?_
          refine AL.cons rfl (AOp.addI rfl rfl rfl rfl (c := ((i + 1 : Nat) : Int)) (by omega) (by omega)) ?_
          refine AL.cons rfl (AOp.move (.inl rfl) rfl rfl) ?_
          refine AL.nil ?_
          refine ⟨i + 1, ?_, ?_, ?_⟩
          · exact ⟨by omega, pathL_next (by omega) hi2 (by assumption)⟩
          · skip
            exact Wk.mk (StLe.mk' ⟨⟨rfl, by (repeat' (first | exact PV.Le.refl _ | exact LeL.nil | exact PV.Le.nil _ | exact PV.Le.acc _ _ _ | apply LeL.cons | apply PV.Le.agg | apply PV.Le.tup)), rfl⟩, ⟨⟨rfl, by (repeat' (first | exact PV.Le.refl _ | exact LeL.nil | exact PV.Le.nil _ | exact PV.Le.acc _ _ _ | apply LeL.cons | apply PV.Le.agg | apply PV.Le.tup)), rfl⟩, trivial⟩⟩ rfl) (keeps_nil hC) ⟨⟨_, rfl, .refl _, rfl⟩, ⟨⟨_, rfl, .refl _, rfl⟩, ⟨⟨_, rfl, .refl _, rfl⟩, ⟨⟨_, rfl, .refl _, rfl⟩, ⟨⟨_, rfl, .refl _, rfl⟩, ⟨⟨_, rfl, .refl _, rfl⟩, ⟨⟨_, rfl, .refl _, rfl⟩, ⟨⟨_, rfl, .refl _, rfl⟩, ⟨⟨_, rfl, .refl _, rfl⟩, ⟨⟨_, rfl, .refl _, rfl⟩, ⟨⟨_, rfl, by (repeat' (first | exact PV.Le.refl _ | exact LeL.nil | exact PV.Le.nil _ | exact PV.Le.acc _ _ _ | apply LeL.cons | apply PV.Le.agg | apply PV.Le.tup)), rfl⟩, trivial⟩⟩⟩⟩⟩⟩⟩⟩⟩⟩⟩
          · omega
      · skip
        have h5b := h5
        try simp only [Bool.and_eq_true, Bool.or_eq_true, Bool.and_eq_false_iff, Bool.or_eq_false_iff, decide_eq_true_eq, decide_eq_false_iff_not, Bool.not_eq_true', Bool.not_eq_false', Bool.not_eq_eq_eq_not, Bool.not_true, Bool.not_false, ge_iff_le, gt_iff_lt, Int.not_lt, Int.not_le] at h5b
        have h5n : i ≥ ((oTrait (w.traitAt s)).gSupertraits).length := by omega
        refine AWP.exit ?_
        refine AWP.seq ?_
        refine AWP.region_lit ?_
        refine AL.cons rfl (AOp.move (.inr rfl) rfl rfl) ?_
        refine AL.cons rfl (AOp.move (.inr rfl) rfl rfl) ?_
        refine AL.nil ?_
        refine AWP.ret ?_
        have hq : pathF w (n + 1) s d = none := by first | exact pathL_end (by omega) hi2 | (rw [pathF, if_neg (by assumption)])
        exact Ends.mk (ps := [_, _]) (.inr rfl) ⟨rfl, rfl, trivial⟩ rfl (StLe.mk' (st' := ⟨[], []⟩) trivial rfl) (keeps_nil hC) (q := .tup [.t (.row 1 (intTrs [])), .t (.leaf (.bool false))]) (by (repeat' (first | exact PV.Le.refl _ | exact LeL.nil | exact PV.Le.nil _ | exact PV.Le.acc _ _ _ | apply LeL.cons | apply PV.Le.agg | apply PV.Le.tup))) rfl ⟨by rw [hq]; rfl, rfl⟩

set_option maxRecDepth 100000 in
set_option maxHeartbeats 4000000 in
theorem path_impl (w : GProgram) (s : ByteArray) (d : ByteArray) : AFun Try.prog 41 [(GProgram.pv w), .t (.leaf (.string (s))), .t (.leaf (.string (d)))] (.tup [.t (.row 1 (intTrs (oPath (pathF w 8 s d)))), .t (.leaf (.bool ((pathF w 8 s d).isSome)))]) := by
  refine ACalls.intro Try.func41 rfl (by first | decide | (simp; done) | (simp; decide)) ?_
  intro C hC
  refine AWP.seq ?_
  refine AWP.region_lit ?_
  refine AL.cons rfl (AOp.box (cs := [.t (.row 6 (GPackage.trs (w.gPackages)))]) rfl rfl rfl rfl rfl) ?_
  refine AL.cons rfl (AOp.move (.inr rfl) rfl rfl) ?_
  refine AL.cons rfl (AOp.move (.inr rfl) rfl rfl) ?_
  refine AL.nil ?_
  refine AWP.seq ?_
  refine AWP.region_lit ?_
  refine AL.cons rfl (AOp.loadPtr (cs := [.t (.row 6 (GPackage.trs (w.gPackages)))]) rfl rfl rfl rfl sh63 rfl rfl) ?_
  refine AL.cons rfl (AOp.move (.inl rfl) rfl rfl) ?_
  refine AL.cons rfl (AOp.move (.inl rfl) rfl rfl) ?_
  refine AL.cons rfl (AOp.callF (ps := [_, _, _, _]) rfl rfl Try.func105 (by kernel_rfl) rfl rfl (by (repeat' (first | exact PV.Le.refl _ | exact LeL.nil | exact PV.Le.nil _ | exact PV.Le.acc _ _ _ | apply LeL.cons | apply PV.Le.agg | apply PV.Le.tup))) rfl rfl (pathTo_ok w 8 s d (by decide))) ?_
  refine AL.cons rfl (AOp.extract rfl rfl rfl rfl) ?_
  refine AL.cons rfl (AOp.extract rfl rfl rfl rfl) ?_
  refine AL.cons rfl (AOp.move (.inr rfl) rfl rfl) ?_
  refine AL.cons rfl (AOp.move (.inr rfl) rfl rfl) ?_
  refine AL.nil ?_
  refine AWP.ret ?_
  exact Ends.mk (ps := [_, _]) (.inr rfl) ⟨rfl, rfl, trivial⟩ rfl (StLe.mk' (st' := ⟨[], []⟩) trivial rfl) (keeps_nil hC) (q := (.tup [.t (.row 1 (intTrs (oPath (pathF w 8 s d)))), .t (.leaf (.bool ((pathF w 8 s d).isSome)))] : PV)) (by (repeat' (first | exact PV.Le.refl _ | exact LeL.nil | exact PV.Le.nil _ | exact PV.Le.acc _ _ _ | apply LeL.cons | apply PV.Le.agg | apply PV.Le.tup))) rfl ⟨by rfl, rfl⟩

end Go.Proofs.Ytoifjkggpanceaa

namespace Go.Proofs.Ytoifjkggpanceaa
open Go.RowKit Go.Proofs
set_option linter.unusedSimpArgs false
set_option linter.unusedVariables false

set_option maxRecDepth 100000 in
set_option maxHeartbeats 4000000 in
theorem copyTrait_ok (t : GTrait) (hs : t.gSignatures = []) (hl : t.gSupertraits.length ≤ 1000) : AFun Try.prog 107 [(GTrait.pv t)] ((GTrait.pv t)) := by
  refine ACalls.intro Try.func107 rfl (by first | decide | (simp; done) | (simp; decide)) ?_
  intro C hC
  refine AWP.seq ?_
  refine AWP.region_lit ?_
  refine AL.cons rfl (AOp.box (cs := [.t (.leaf (.string (t.gName))), .t (.row 1 (strTrs (t.gSupertraits))), .t (.leaf (.bool (t.gAuto))), .t (.leaf (.bool (t.gAssoc))), .t (.row 16 (GSignature.trs (t.gSignatures)))]) rfl rfl rfl rfl rfl) ?_
  refine AL.cons rfl (AOp.alloc rfl rfl zr75) ?_
  refine AL.nil ?_
  refine AWP.seq ?_
  refine AWP.region_lit ?_
  refine AL.cons rfl (AOp.buildSlice (es := GSignature.trs ([])) (cs := []) rfl rfl el73 zr214 rfl rfl (by (repeat' (first | exact PV.Le.refl _ | exact LeL.nil | exact PV.Le.nil _ | exact PV.Le.acc _ _ _ | apply LeL.cons | apply PV.Le.agg | apply PV.Le.tup))) rfl (by simp [GSignature.trs]) (by decide) rfl (by decide)) ?_
  refine AL.cons rfl (AOp.move (.inr rfl) rfl rfl) ?_
  refine AL.nil ?_
  refine AWP.seq ?_
  refine AWP.seq ?_
  refine AWP.region_lit ?_
  refine AL.cons rfl (AOp.move (.inr rfl) rfl rfl) ?_
  refine AL.nil ?_
  refine AWP.block ?_
  refine AWP.loopJ (ι := Nat) (fun i => i = 0) (fun i => ⟨[(0, (GTrait.pv t)), (1, .ptr 0 0), (2, .ptr 1 0), (3, .acc 16 (GSignature.trs ([])) 0), (4, .t (.leaf (.int .i64 (((i : Nat) : Int)))))], ⟨[some ⟨75, [.t (.leaf (.string (t.gName))), .t (.row 1 (strTrs (t.gSupertraits))), .t (.leaf (.bool (t.gAuto))), .t (.leaf (.bool (t.gAssoc))), .t (.row 16 (GSignature.trs (t.gSignatures)))]⟩, some ⟨75, [.t (.leaf (.string (⟨#[]⟩))), .nil, .t (.leaf (.bool (false))), .t (.leaf (.bool (false))), .nil]⟩], [⟨214, 16, GSignature.trs ([]), false⟩]⟩⟩) (fun i => i) 0 ?_ ?_ ?_
  · rfl
  · skip
    exact Wk.mk (StLe.mk' ⟨⟨rfl, by (repeat' (first | exact PV.Le.refl _ | exact LeL.nil | exact PV.Le.nil _ | exact PV.Le.acc _ _ _ | apply LeL.cons | apply PV.Le.agg | apply PV.Le.tup)), rfl⟩, ⟨⟨rfl, by (repeat' (first | exact PV.Le.refl _ | exact LeL.nil | exact PV.Le.nil _ | exact PV.Le.acc _ _ _ | apply LeL.cons | apply PV.Le.agg | apply PV.Le.tup)), rfl⟩, trivial⟩⟩ (by first | rfl | simp)) (keeps_nil hC) ⟨⟨_, rfl, .refl _, rfl⟩, ⟨⟨_, rfl, .refl _, rfl⟩, ⟨⟨_, rfl, .refl _, rfl⟩, ⟨⟨_, rfl, .refl _, rfl⟩, ⟨⟨_, rfl, by (repeat' (first | exact PV.Le.refl _ | exact LeL.nil | exact PV.Le.nil _ | exact PV.Le.acc _ _ _ | apply LeL.cons | apply PV.Le.agg | apply PV.Le.tup)), rfl⟩, trivial⟩⟩⟩⟩⟩
  rintro i hJ1
  refine AWP.seq ?_
  refine AWP.seq ?_
  refine AWP.region_lit ?_
  refine AL.cons rfl (AOp.move (.inl rfl) rfl rfl) ?_
  refine AL.cons rfl (AOp.fieldPtr (k := 0) (d := 0) (e := 4) rfl rfl rfl fo75_4) ?_
  refine AL.cons rfl (AOp.loadPtr1 rfl rfl rfl rfl sh73 rfl) ?_
  refine AL.fact (lk_lenN 8 rfl rfl (GSignature.trs_len _)) (fun hl2 => ?_)
  refine AL.cons rfl (AOp.lenN rfl rfl rfl rfl el73 (GSignature.trs_len _)) ?_
  refine AL.cons rfl (AOp.lss rfl rfl rfl rfl) ?_
  refine AL.nil ?_
  refine AWP.cond rfl (fun h3 => ?_) (fun h3 => ?_)
  · skip
    have h3b := h3
    try simp only [Bool.and_eq_true, Bool.or_eq_true, Bool.and_eq_false_iff, Bool.or_eq_false_iff, decide_eq_true_eq, decide_eq_false_iff_not, Bool.not_eq_true', Bool.not_eq_false', Bool.not_eq_eq_eq_not, Bool.not_true, Bool.not_false, ge_iff_le, gt_iff_lt, Int.not_lt, Int.not_le] at h3b
    have h3n : i < t.gSignatures.length := by omega
    exfalso; rw [hs] at h3n; exact absurd h3n (Nat.not_lt_zero _)
  · skip
    have h3b := h3
    try simp only [Bool.and_eq_true, Bool.or_eq_true, Bool.and_eq_false_iff, Bool.or_eq_false_iff, decide_eq_true_eq, decide_eq_false_iff_not, Bool.not_eq_true', Bool.not_eq_false', Bool.not_eq_eq_eq_not, Bool.not_true, Bool.not_false, ge_iff_le, gt_iff_lt, Int.not_lt, Int.not_le] at h3b
    have h3n : i ≥ t.gSignatures.length := by omega
    refine AWP.exit ?_
    refine AWP.seq ?_
    refine AWP.region_lit ?_
    refine AL.cons rfl (AOp.move (.inl rfl) rfl rfl) ?_
    refine AL.cons rfl (AOp.fieldPtr (k := 0) (d := 0) (e := 4) rfl rfl rfl fo75_4) ?_
    refine AL.cons rfl (AOp.storePtr (cs := [.acc 16 (GSignature.trs ([])) 0]) (ds := [.t (.leaf (.string (t.gName))), .t (.row 1 (strTrs (t.gSupertraits))), .t (.leaf (.bool (t.gAuto))), .t (.leaf (.bool (t.gAssoc))), .acc 16 (GSignature.trs ([])) 0]) rfl rfl rfl rfl rfl rfl rfl sz73 (Nat.le_of_ble_eq_true rfl) rfl) ?_
    refine AL.nil ?_
    refine AWP.seq ?_
    refine AWP.region_lit ?_
    refine AL.cons rfl (AOp.buildSlice (es := strTrs ([])) (cs := []) rfl rfl el66 zr9 rfl rfl (by (repeat' (first | exact PV.Le.refl _ | exact LeL.nil | exact PV.Le.nil _ | exact PV.Le.acc _ _ _ | apply LeL.cons | apply PV.Le.agg | apply PV.Le.tup))) rfl (by simp [strTrs]) (by decide) rfl (by decide)) ?_
    refine AL.cons rfl (AOp.fieldPtr (k := 0) (d := 0) (e := 1) rfl rfl rfl fo75_1) ?_
    refine AL.cons rfl (AOp.loadPtr1 rfl rfl rfl rfl sh66 rfl) ?_
    refine AL.fact (lk_lenN 26 rfl rfl (strTrs_len _)) (fun hl4 => ?_)
    refine AL.cons rfl (AOp.appendE (es3 := strTrs (([]) ++ t.gSupertraits)) rfl rfl rfl rfl rfl rfl rfl rfl rfl (strTrs_all _) el66 ze66 (by decide) (by simp [strTrs_len]; omega) (strTrs_append _ _)) ?_
    refine AL.cons rfl (AOp.fieldPtr (k := 0) (d := 0) (e := 1) rfl rfl rfl fo75_1) ?_
    refine AL.cons rfl (AOp.storePtr (cs := [.acc 1 (strTrs (([]) ++ t.gSupertraits)) 1]) (ds := [.t (.leaf (.string (t.gName))), .acc 1 (strTrs (([]) ++ t.gSupertraits)) 1, .t (.leaf (.bool (t.gAuto))), .t (.leaf (.bool (t.gAssoc))), .acc 16 (GSignature.trs ([])) 0]) rfl rfl rfl rfl rfl rfl rfl sz66 (Nat.le_of_ble_eq_true rfl) rfl) ?_
    refine AL.nil ?_
    refine AWP.seq ?_
    refine AWP.region_lit ?_
    refine AL.cons rfl (AOp.loadPtr (cs := [.t (.leaf (.string (t.gName))), .acc 1 (strTrs (([]) ++ t.gSupertraits)) 1, .t (.leaf (.bool (t.gAuto))), .t (.leaf (.bool (t.gAssoc))), .acc 16 (GSignature.trs ([])) 0]) rfl rfl rfl rfl sh75 rfl rfl) ?_
    refine AL.cons rfl (AOp.storePtr (cs := [.t (.leaf (.string (t.gName))), .acc 1 (strTrs (([]) ++ t.gSupertraits)) 1, .t (.leaf (.bool (t.gAuto))), .t (.leaf (.bool (t.gAssoc))), .acc 16 (GSignature.trs ([])) 0]) (ds := [.t (.leaf (.string (t.gName))), .acc 1 (strTrs (([]) ++ t.gSupertraits)) 1, .t (.leaf (.bool (t.gAuto))), .t (.leaf (.bool (t.gAssoc))), .acc 16 (GSignature.trs ([])) 0]) rfl rfl rfl rfl rfl rfl rfl sz75 (Nat.le_of_ble_eq_true rfl) rfl) ?_
    refine AL.nil ?_
    refine AWP.ret ?_
    exact Ends.mk (ps := [_]) (.inr rfl) ⟨⟨_, _, _, rfl, rfl, sh75, rfl, rfl⟩, trivial⟩ rfl (StLe.mk' (st' := ⟨[], []⟩) trivial rfl) (keeps_nil hC) (q := (.agg [.t (.leaf (.string (t.gName))), .t (.row 1 (strTrs (([]) ++ t.gSupertraits))), .t (.leaf (.bool (t.gAuto))), .t (.leaf (.bool (t.gAssoc))), .t (.row 16 (GSignature.trs ([])))] : PV)) (by (repeat' (first | exact PV.Le.refl _ | exact LeL.nil | exact PV.Le.nil _ | exact PV.Le.acc _ _ _ | apply LeL.cons | apply PV.Le.agg | apply PV.Le.tup))) rfl ⟨by simp [GTrait.pv, hs], rfl⟩

set_option maxRecDepth 100000 in
set_option maxHeartbeats 4000000 in
theorem findTrait_ok (w : GProgram) (s : ByteArray) (hs : (oTrait (w.traitAt s)).gSignatures = []) (hl : (oTrait (w.traitAt s)).gSupertraits.length ≤ 1000) : AFun Try.prog 42 [(GProgram.pv w), .t (.leaf (.string (s)))] (.tup [(GTrait.pv (oTrait (w.traitAt s))), .t (.leaf (.int .i64 (oInt (w.traitAt s)))), .t (.leaf (.bool ((w.traitAt s).isSome)))]) := by
  refine ACalls.intro Try.func42 rfl (by first | decide | (simp; done) | (simp; decide)) ?_
  intro C hC
  refine AWP.seq ?_
  refine AWP.region_lit ?_
  refine AL.cons rfl (AOp.box (cs := [.t (.row 6 (GPackage.trs (w.gPackages)))]) rfl rfl rfl rfl rfl) ?_
  refine AL.cons rfl (AOp.alloc rfl rfl zr75) ?_
  refine AL.cons rfl (AOp.move (.inr rfl) rfl rfl) ?_
  refine AL.cons rfl (AOp.move (.inr rfl) rfl rfl) ?_
  refine AL.nil ?_
  refine AWP.seq ?_
  refine AWP.region_lit ?_
  refine AL.cons rfl (AOp.loadPtr (cs := [.t (.row 6 (GPackage.trs (w.gPackages)))]) rfl rfl rfl rfl sh63 rfl rfl) ?_
  refine AL.cons rfl (AOp.move (.inl rfl) rfl rfl) ?_
  refine AL.cons rfl (AOp.callF (ps := [_, _]) rfl rfl Try.func106 (by kernel_rfl) rfl rfl (by (repeat' (first | exact PV.Le.refl _ | exact LeL.nil | exact PV.Le.nil _ | exact PV.Le.acc _ _ _ | apply LeL.cons | apply PV.Le.agg | apply PV.Le.tup))) rfl rfl (trait_spec w s)) ?_
  refine AL.cons rfl (AOp.move (.inl rfl) rfl rfl) ?_
  refine AL.cons rfl (AOp.extract rfl rfl rfl rfl) ?_
  refine AL.cons rfl (AOp.extract rfl rfl rfl rfl) ?_
  refine AL.cons rfl (AOp.extract rfl rfl rfl rfl) ?_
  refine AL.cons rfl (AOp.alloc rfl rfl zr75) ?_
  refine AL.cons rfl (AOp.storePtr (cs := [.t (.leaf (.string ((oTrait (w.traitAt s)).gName))), .t (.row 1 (strTrs ((oTrait (w.traitAt s)).gSupertraits))), .t (.leaf (.bool ((oTrait (w.traitAt s)).gAuto))), .t (.leaf (.bool ((oTrait (w.traitAt s)).gAssoc))), .t (.row 16 (GSignature.trs ((oTrait (w.traitAt s)).gSignatures)))]) (ds := [.t (.leaf (.string ((oTrait (w.traitAt s)).gName))), .t (.row 1 (strTrs ((oTrait (w.traitAt s)).gSupertraits))), .t (.leaf (.bool ((oTrait (w.traitAt s)).gAuto))), .t (.leaf (.bool ((oTrait (w.traitAt s)).gAssoc))), .t (.row 16 (GSignature.trs ((oTrait (w.traitAt s)).gSignatures)))]) rfl rfl rfl rfl rfl rfl rfl sz75 (Nat.le_of_ble_eq_true rfl) rfl) ?_
  refine AL.cons rfl (AOp.move (.inr rfl) rfl rfl) ?_
  refine AL.cons rfl (AOp.move (.inr rfl) rfl rfl) ?_
  refine AL.nil ?_
  refine AWP.seq ?_
  refine AWP.region_lit ?_
  refine AL.cons rfl (AOp.loadPtr (cs := [.t (.leaf (.string ((oTrait (w.traitAt s)).gName))), .t (.row 1 (strTrs ((oTrait (w.traitAt s)).gSupertraits))), .t (.leaf (.bool ((oTrait (w.traitAt s)).gAuto))), .t (.leaf (.bool ((oTrait (w.traitAt s)).gAssoc))), .t (.row 16 (GSignature.trs ((oTrait (w.traitAt s)).gSignatures)))]) rfl rfl rfl rfl sh75 rfl rfl) ?_
  refine AL.cons rfl (AOp.callF (ps := [_]) rfl rfl Try.func107 (by kernel_rfl) rfl rfl (by (repeat' (first | exact PV.Le.refl _ | exact LeL.nil | exact PV.Le.nil _ | exact PV.Le.acc _ _ _ | apply LeL.cons | apply PV.Le.agg | apply PV.Le.tup))) rfl rfl (copyTrait_ok (oTrait (w.traitAt s)) (by assumption) (by assumption))) ?_
  refine AL.cons rfl (AOp.move (.inl rfl) rfl rfl) ?_
  refine AL.cons rfl (AOp.move (.inl rfl) rfl rfl) ?_
  refine AL.cons rfl (AOp.storePtr (cs := [.t (.leaf (.string ((oTrait (w.traitAt s)).gName))), .t (.row 1 (strTrs ((oTrait (w.traitAt s)).gSupertraits))), .t (.leaf (.bool ((oTrait (w.traitAt s)).gAuto))), .t (.leaf (.bool ((oTrait (w.traitAt s)).gAssoc))), .t (.row 16 (GSignature.trs ((oTrait (w.traitAt s)).gSignatures)))]) (ds := [.t (.leaf (.string ((oTrait (w.traitAt s)).gName))), .t (.row 1 (strTrs ((oTrait (w.traitAt s)).gSupertraits))), .t (.leaf (.bool ((oTrait (w.traitAt s)).gAuto))), .t (.leaf (.bool ((oTrait (w.traitAt s)).gAssoc))), .t (.row 16 (GSignature.trs ((oTrait (w.traitAt s)).gSignatures)))]) rfl rfl rfl rfl rfl rfl rfl sz75 (Nat.le_of_ble_eq_true rfl) rfl) ?_
  refine AL.cons rfl (AOp.move (.inr rfl) rfl rfl) ?_
  refine AL.cons rfl (AOp.move (.inr rfl) rfl rfl) ?_
  refine AL.nil ?_
  refine AWP.ret ?_
  exact Ends.mk (ps := [_, _, _]) (.inr rfl) ⟨⟨_, _, _, rfl, rfl, sh75, rfl, rfl⟩, rfl, rfl, trivial⟩ rfl (StLe.mk' (st' := ⟨[], []⟩) trivial rfl) (keeps_nil hC) (q := (.tup [(GTrait.pv (oTrait (w.traitAt s))), .t (.leaf (.int .i64 (oInt (w.traitAt s)))), .t (.leaf (.bool ((w.traitAt s).isSome)))] : PV)) (by (repeat' (first | exact PV.Le.refl _ | exact LeL.nil | exact PV.Le.nil _ | exact PV.Le.acc _ _ _ | apply LeL.cons | apply PV.Le.agg | apply PV.Le.tup))) rfl ⟨by rfl, rfl⟩

end Go.Proofs.Ytoifjkggpanceaa

namespace Go.Proofs.Ytoifjkggpanceaa

abbrev supsF (w : GProgram) (s : ByteArray) : List ByteArray := (oTrait (w.traitAt s)).gSupertraits
theorem supF_succ (w : GProgram) (n : Nat) (s : ByteArray) (o : List ByteArray) : supF w (n + 1) s o = (supsF w s).foldl (fun o s => if s ∈ o then o else supF w n s (o ++ [s])) o := rfl

/-- Folding: an invariant of the steps. -/
theorem foldl_inv {α β : Type} {f : β → α → β} (I : β → Prop) : ∀ (l : List α) (o : β), I o → (∀ o x, x ∈ l → I o → I (f o x)) → I (l.foldl f o)
  | [], o, h, _ => h
  | x :: l, o, h, hs => foldl_inv I l (f o x) (hs o x (by simp) h) fun o y hy => hs o y (by simp [hy])
/-- The run keeps what was there. -/
theorem supF_sub (w : GProgram) : ∀ (n : Nat) (s : ByteArray) (o : List ByteArray) (x : ByteArray), x ∈ o → x ∈ supF w n s o
  | 0, _, _, _, h => h
  | n + 1, s, o, x, h => by
    rw [supF_succ]
    refine foldl_inv (fun o => x ∈ o) _ _ h fun o y _ ho => ?_
    split
    · exact ho
    · exact supF_sub w n y _ x (by simp [ho])
/-- A set that is closed under supertraits. -/
def Closed (w : GProgram) (S : ByteArray → Prop) : Prop := ∀ s, S s → ∀ x ∈ supsF w s, S x
/-- The run stays within a closed set. -/
theorem supF_within {w : GProgram} {S : ByteArray → Prop} (hS : Closed w S) : ∀ (n : Nat) (s : ByteArray) (o : List ByteArray), (∀ x ∈ supsF w s, S x) → (∀ x ∈ o, S x) → ∀ x ∈ supF w n s o, S x
  | 0, _, _, _, h => h
  | n + 1, s, o, hs, h => by
    rw [supF_succ]
    refine foldl_inv (fun o => ∀ x ∈ o, S x) _ _ h fun o y hy ho => ?_
    split
    · exact ho
    · refine supF_within hS n y _ (hS y (hs y hy)) fun x hx => ?_
      rcases List.mem_append.1 hx with hx | hx
      · exact ho x hx
      · rw [List.mem_singleton.1 hx]; exact hs y hy
/-- No name comes twice. -/
theorem supF_nodup (w : GProgram) : ∀ (n : Nat) (s : ByteArray) (o : List ByteArray), o.Nodup → (supF w n s o).Nodup
  | 0, _, _, h => h
  | n + 1, s, o, h => by
    rw [supF_succ]
    refine foldl_inv (fun o : List ByteArray => o.Nodup) _ _ h fun o y _ ho => ?_
    split
    · exact ho
    · rename_i hn
      refine supF_nodup w n y _ (List.nodup_append.2 ⟨ho, by simp, fun a ha b hb => ?_⟩)
      rw [List.mem_singleton.1 hb]
      rintro rfl
      exact hn ha
/-- With enough fuel: the supertraits of the start, and of all that is new, are in. -/
theorem supF_closed (w : GProgram) : ∀ (n : Nat) (s : ByteArray) (o : List ByteArray), supM w o < n → (∀ x ∈ supsF w s, x ∈ supF w n s o) ∧ ∀ y ∈ supF w n s o, y ∈ o ∨ ∀ x ∈ supsF w y, x ∈ supF w n s o
  | 0, _, _, h => absurd h (Nat.not_lt_zero _)
  | n + 1, s, o, h => by
    rw [supF_succ]
    have key : ∀ (l : List ByteArray) (o1 : List ByteArray), (∀ x ∈ l, x ∈ supsF w s) → supM w o1 ≤ supM w o → (∀ x ∈ o, x ∈ o1) →
        (∀ x ∈ l, x ∈ l.foldl (fun o s => if s ∈ o then o else supF w n s (o ++ [s])) o1) ∧
        ∀ y ∈ l.foldl (fun o s => if s ∈ o then o else supF w n s (o ++ [s])) o1, y ∈ o1 ∨ ∀ x ∈ supsF w y, x ∈ l.foldl (fun o s => if s ∈ o then o else supF w n s (o ++ [s])) o1 := by
      intro l
      induction l with
      | nil => intro o1 _ _ _; exact ⟨fun x hx => (by cases hx), fun y hy => .inl hy⟩
      | cons z l ih =>
        intro o1 hl hm ho
        rw [List.foldl_cons]
        have hgrow : ∀ (l : List ByteArray) (o2 : List ByteArray) (x : ByteArray), x ∈ o2 → x ∈ l.foldl (fun o s => if s ∈ o then o else supF w n s (o ++ [s])) o2 := fun l o2 x hx =>
          foldl_inv (fun o => x ∈ o) l o2 hx fun o y _ ho => by
            split
            · exact ho
            · exact supF_sub w n y _ x (by simp [ho])
        by_cases hz : z ∈ o1
        · rw [if_pos hz]
          have h1 := ih o1 (fun x hx => hl x (by simp [hx])) hm ho
          refine ⟨fun x hx => ?_, h1.2⟩
          rcases List.mem_cons.1 hx with rfl | hx
          · exact hgrow _ _ _ hz
          · exact h1.1 x hx
        · rw [if_neg hz]
          have hst := sup_step (w := w) (name := s) (o := o1) (hl z (by simp)) hz
          have hinv := supF_inv w n z (o1 ++ [z])
          have h2 := supF_closed w n z (o1 ++ [z]) (by omega)
          have h1 := ih (supF w n z (o1 ++ [z])) (fun x hx => hl x (by simp [hx])) (by omega) (fun x hx => supF_sub w n z _ x (by simp [ho x hx]))
          refine ⟨fun x hx => ?_, fun y hy => ?_⟩
          · rcases List.mem_cons.1 hx with rfl | hx
            · exact hgrow _ _ _ (supF_sub w n _ _ _ (by simp))
            · exact h1.1 x hx
          · rcases h1.2 y hy with h3 | h3
            · rcases h2.2 y h3 with h4 | h4
              · rcases List.mem_append.1 h4 with h5 | h5
                · exact .inl h5
                · rw [List.mem_singleton.1 h5]
                  exact .inr fun x hx => hgrow _ _ _ (h2.1 x hx)
              · exact .inr fun x hx => hgrow _ _ _ (h4 x hx)
            · exact .inr h3
    exact key _ o (fun x hx => hx) (Nat.le_refl _) (fun x hx => hx)
theorem supers_closed (w : GProgram) (name : ByteArray) : Closed w (· ∈ w.supers name) := fun s hs x hx => by
  rcases (supF_closed w (supM w [] + 1) name [] (Nat.lt_succ_self _)).2 s hs with h | h
  · cases h
  · exact h x hx
theorem supers_sups (w : GProgram) (name : ByteArray) : ∀ x ∈ supsF w name, x ∈ w.supers name := (supF_closed w (supM w [] + 1) name [] (Nat.lt_succ_self _)).1
/-- All supertraits of a supertrait are supertraits. -/
theorem supers_trans {w : GProgram} {name s x : ByteArray} (hs : s ∈ w.supers name) (hx : x ∈ w.supers s) : x ∈ w.supers name :=
  supF_within (S := (· ∈ w.supers name)) (supers_closed w name) _ s [] (fun y hy => supers_closed w name s hs y hy) (fun y hy => by cases hy) x hx
theorem supers_nodup (w : GProgram) (name : ByteArray) : (w.supers name).Nodup := supF_nodup w _ name [] List.nodup_nil
end Go.Proofs.Ytoifjkggpanceaa

namespace Go.Proofs.Ytoifjkggpanceaa

theorem pathL_some {f : ByteArray → ByteArray → Option (List Int)} {d : ByteArray} : ∀ {l : List ByteArray} {i : Nat} {x : ByteArray}, x ∈ l → (f x d).isSome = true → (pathF.pathL f d i l).isSome = true
  | y :: l, i, x, hx, h => by
    rw [pathF.pathL]
    cases hq : f y d with
    | some r => rfl
    | none =>
      rcases List.mem_cons.1 hx with rfl | hx
      · rw [hq] at h; cases h
      · exact pathL_some hx h
theorem path_self (w : GProgram) : ∀ (n : Nat) (s : ByteArray), (pathF w n s s).isSome = true
  | 0, s => by rw [pathF, if_pos rfl]; rfl
  | n + 1, s => by rw [pathF, if_pos rfl]; rfl
theorem path_step {w : GProgram} {n : Nat} {s x d : ByteArray} (hx : x ∈ supsF w s) (h : (pathF w n x d).isSome = true) : (pathF w (n + 1) s d).isSome = true := by
  rw [pathF]
  split
  · rfl
  · exact pathL_some hx h
theorem pathL_isSome {f : ByteArray → ByteArray → Option (List Int)} {d : ByteArray} : ∀ {l : List ByteArray} {i : Nat}, (pathF.pathL f d i l).isSome = true → ∃ x ∈ l, (f x d).isSome = true
  | [], _, h => by simp [pathF.pathL] at h
  | y :: l, i, h => by
    rw [pathF.pathL] at h
    cases hq : f y d with
    | some r => exact ⟨y, by simp, by rw [hq]; rfl⟩
    | none =>
      rw [hq] at h
      obtain ⟨x, hx, h1⟩ := pathL_isSome h
      exact ⟨x, by simp [hx], h1⟩
theorem path_mono (w : GProgram) : ∀ (n : Nat) (s d : ByteArray), (pathF w n s d).isSome = true → (pathF w (n + 1) s d).isSome = true
  | 0, s, d, h => by
    by_cases he : s = d
    · rw [he]
      exact path_self w _ _
    · rw [pathF, if_neg he] at h
      cases h
  | n + 1, s, d, h => by
    rw [pathF] at h
    split at h
    · rename_i he
      rw [he]
      exact path_self w _ _
    · obtain ⟨x, hx, h1⟩ := pathL_isSome h
      exact path_step hx (path_mono w n x d h1)
theorem path_le {w : GProgram} {n m : Nat} {s d : ByteArray} (hnm : n ≤ m) (h : (pathF w n s d).isSome = true) : (pathF w m s d).isSome = true := by
  induction hnm with
  | refl => exact h
  | step _ ih => exact path_mono w _ s d ih
/-- What the run puts in has a way to it. -/
theorem supF_path (w : GProgram) : ∀ (n : Nat) (s : ByteArray) (o : List ByteArray), ∀ x ∈ supF w n s o, x ∈ o ∨ (pathF w n s x).isSome = true
  | 0, s, o, x, h => .inl h
  | n + 1, s, o, x, h => by
    rw [supF_succ] at h
    revert x
    refine foldl_inv (fun o1 => ∀ x ∈ o1, x ∈ o ∨ (pathF w (n + 1) s x).isSome = true) _ _ (fun x hx => .inl hx) fun o1 z hz ho x hx => ?_
    split at hx
    · exact ho x hx
    · rcases supF_path w n z (o1 ++ [z]) x hx with h1 | h1
      · rcases List.mem_append.1 h1 with h2 | h2
        · exact ho x h2
        · rw [List.mem_singleton.1 h2]
          exact .inr (path_step hz (path_self w n z))
      · exact .inr (path_step hz h1)
/-- Enough fuel is enough. -/
theorem supF_meas {w : GProgram} {M : List ByteArray → Nat} (hM : ∀ name o s, s ∈ supsF w name → ¬ s ∈ o → M (o ++ [s]) + 1 ≤ M o) : ∀ (n : Nat) (s : ByteArray) (o : List ByteArray), M (supF w n s o) ≤ M o
  | 0, _, _ => Nat.le_refl _
  | n + 1, s, o => by
    rw [supF_succ]
    refine foldl_inv (fun o1 => M o1 ≤ M o) _ _ (Nat.le_refl _) fun o1 z hz ho => ?_
    split
    · exact ho
    · rename_i hn
      have h1 := hM s o1 z hz hn
      have h2 := supF_meas hM n z (o1 ++ [z])
      omega
theorem foldl_same {α β : Type} {f g : β → α → β} (I : β → Prop) : ∀ (l : List α) (o : β), I o → (∀ o x, x ∈ l → I o → f o x = g o x ∧ I (f o x)) → l.foldl f o = l.foldl g o
  | [], _, _, _ => rfl
  | x :: l, o, h, hs => by
    rw [List.foldl_cons, List.foldl_cons, ← (hs o x (by simp) h).1]
    exact foldl_same I l _ (hs o x (by simp) h).2 fun o y hy => hs o y (by simp [hy])
theorem supF_fuel {w : GProgram} {M : List ByteArray → Nat} (hM : ∀ name o s, s ∈ supsF w name → ¬ s ∈ o → M (o ++ [s]) + 1 ≤ M o) : ∀ (n m : Nat) (s : ByteArray) (o : List ByteArray), M o < n → M o < m → supF w n s o = supF w m s o
  | 0, _, _, _, h, _ => absurd h (Nat.not_lt_zero _)
  | _ + 1, 0, _, _, _, h => absurd h (Nat.not_lt_zero _)
  | n + 1, m + 1, s, o, h, h' => by
    rw [supF_succ, supF_succ]
    refine foldl_same (fun o1 => M o1 ≤ M o) _ _ (Nat.le_refl _) fun o1 z hz ho => ?_
    by_cases hz1 : z ∈ o1
    · rw [if_pos hz1, if_pos hz1]
      exact ⟨rfl, ho⟩
    · rw [if_neg hz1, if_neg hz1]
      have h1 := hM s o1 z hz hz1
      have h2 := supF_meas hM n z (o1 ++ [z])
      exact ⟨supF_fuel hM n m z _ (by omega) (by omega), by omega⟩
/-- Where all supertraits are among k names, k + 1 steps are enough. -/
theorem supers_path {w : GProgram} {names : List ByteArray} (hw : ∀ name, ∀ x ∈ supsF w name, x ∈ names) {name s : ByteArray} (hs : s ∈ w.supers name) : (pathF w (names.length + 1) name s).isSome = true := by
  have hN : ∀ name o s, s ∈ supsF w name → ¬ s ∈ o → names.countP (fun x => decide (¬ x ∈ o ++ [s])) + 1 ≤ names.countP (fun x => decide (¬ x ∈ o)) := fun name o s h1 h2 =>
    countP_lt (fun x hx => by
      simp only [decide_eq_true_eq, List.mem_append, not_or] at hx ⊢
      exact hx.1) (hw name s h1) (by simpa using h2) (by simp)
  have hM : ∀ name o s, s ∈ supsF w name → ¬ s ∈ o → min (supM w (o ++ [s])) (names.countP (fun x => decide (¬ x ∈ o ++ [s]))) + 1 ≤ min (supM w o) (names.countP (fun x => decide (¬ x ∈ o))) := fun name o s h1 h2 => by
    have a := hN name o s h1 h2
    have b := sup_step (w := w) (name := name) h1 h2
    omega
  have hlen : names.countP (fun x => decide (¬ x ∈ ([] : List ByteArray))) ≤ names.length := List.countP_le_length
  have he : w.supers name = supF w (names.length + 1) name [] := supF_fuel (M := fun o => min (supM w o) (names.countP (fun x => decide (¬ x ∈ o)))) hM _ _ name [] (by omega) (by omega)
  rw [he] at hs
  rcases supF_path w _ name [] s hs with h | h
  · cases h
  · exact h
end Go.Proofs.Ytoifjkggpanceaa

namespace Go.Proofs.Ytoifjkggpanceaa
set_option linter.unusedSimpArgs false
set_option linter.unusedVariables false
open Go.RowKit Go.WalkArith Go.IntWalk Go.WideShapes

theorem RVL.set {ok : Nat → Nat → Prop} {st : Sto} {m : Lay} {w : World} {q : PV} : ∀ {ps : List PV} {vs : List Value} {j : Nat}, RVL ok st m w ps vs → (∀ v, vs[j]? = some v → RV ok st m w q v) → RVL ok st m w (ps.set j q) vs
  | [], [], j, _, _ => by simp [RVL]
  | p :: ps, v :: vs, 0, h, k => ⟨k v rfl, h.2⟩
  | p :: ps, v :: vs, j + 1, h, k => ⟨h.1, RVL.set h.2 fun u hu => k u (by simpa using hu)⟩
  | [], _ :: _, _, h, _ => h.elim
  | _ :: _, [], _, h, _ => h.elim
section
variable {P : Program} {C : Ctx} {n : Nat} {s : AS}
theorem Wk.regBox {k j : Nat} {bx : PBox} (E sz : Nat) (hsz : 0 < sz) (hb : s.st.boxes[k]? = some (some bx)) (hj : bx.cells[j]? = some .nil) :
    Wk C n s ⟨s.env, (s.st.addRow ⟨E, sz, [], false⟩).setBox k ⟨bx.ty, bx.cells.set j (.acc sz [] s.st.rows.length)⟩⟩ := fun m a w h => by
  have hE := ev_addRow (row := ⟨E, sz, [], false⟩) h.sto
  have hS := sto_addRow (row := ⟨E, sz, [], false⟩) h.sto hsz rfl
  have h1 := h.step hE hS
  have hb1 : (s.st.addRow ⟨E, sz, [], false⟩).boxes[k]? = some (some bx) := hb
  obtain ⟨vs, hob, hcs⟩ := hS.box k bx hb1
  have hc : RVL (okA C.av (s.st.addRow ⟨E, sz, [], false⟩) ⟨m.ρ, upd m.γ s.st.rows.length none⟩) (s.st.addRow ⟨E, sz, [], false⟩) ⟨m.ρ, upd m.γ s.st.rows.length none⟩ w (bx.cells.set j (.acc sz [] s.st.rows.length)) vs := by
    refine RVL.set hcs fun v hv => ?_
    obtain ⟨u, hu, hr⟩ := hcs.get hj
    rw [hv] at hu
    cases hu
    obtain rfl := (show v = _ from hr)
    exact ⟨⟨E, sz, [], false⟩, by show (s.st.rows ++ [_])[s.st.rows.length]? = _; simp, rfl, Nat.le_refl _, RepM.nilRow _ _ _ _ (by unfold maxLen; omega), fun _ => by simp [upd_same, rowVal]⟩
  exact ⟨_, h1.step (ev_setBox hS hb1 rfl rfl rfl rfl fun _ _ => rfl) (sto_setBox hS hb1 rfl rfl rfl rfl (fun _ _ => rfl) hob hc)⟩
end
end Go.Proofs.Ytoifjkggpanceaa
