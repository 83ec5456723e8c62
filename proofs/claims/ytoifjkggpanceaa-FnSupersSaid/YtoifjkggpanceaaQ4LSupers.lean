/- Words, rules and walks of several kinds, laid together: PmWorld, PmSupD, PmWorldL, PmSupP, PmAcyc, PmBool, Dist, PmSupers. No conditions but those that each theorem states. -/
import Derived.Test.YtoifjkggpanceaaQ3LSupers
import Derived.Test.YtoifjkggpanceaaQ1LSupers
import Derived.Test.YtoifjkggpanceaaQ2LSupers
import Derived.Test.YtoifjkggpanceaaProg
import Derived.SliceStrings
import Derived.Maps.OwnSet
import Derived.Maps.Views
set_option linter.unusedSimpArgs false
set_option linter.unusedVariables false
namespace Go.Proofs.Ytoifjkggpanceaa
open Go.RowKit Go.Proofs
set_option linter.unusedSimpArgs false
set_option linter.unusedVariables false


def names5 : List ByteArray := [⟨#[97]⟩, ⟨#[98]⟩, ⟨#[99]⟩, ⟨#[100]⟩, ⟨#[101]⟩]
theorem names5_get {k : Nat} (h : k < ([⟨#[97]⟩, ⟨#[98]⟩, ⟨#[99]⟩, ⟨#[100]⟩, ⟨#[101]⟩] : List ByteArray).length) : (names5[k]?).getD ⟨#[]⟩ = ([⟨#[97]⟩, ⟨#[98]⟩, ⟨#[99]⟩, ⟨#[100]⟩, ⟨#[101]⟩] : List ByteArray)[k] := by
  unfold names5
  rw [List.getElem?_eq_getElem h]
  rfl
def supStep (i : Nat) (x : DS × List ByteArray) (k : Nat) : DS × List ByteArray :=
  let d1 := if k < i then x.1.after 3 else x.1
  let b1 := decide (k < i) && decide (x.1.below 3 = 0)
  let d2 := if b1 then d1 else d1.after 30
  let b2 := b1 || decide (d1.below 30 = 0)
  (d2, if b2 then x.2 ++ [(names5[k]?).getD ⟨#[]⟩] else x.2)
theorem supStep_a {i k : Nat} {d : DS} {l : List ByteArray} (h : k < ([⟨#[97]⟩, ⟨#[98]⟩, ⟨#[99]⟩, ⟨#[100]⟩, ⟨#[101]⟩] : List ByteArray).length) (h1 : k < i) (h2 : d.below 3 = 0) : supStep i (d, l) k = (d.after 3, l ++ [([⟨#[97]⟩, ⟨#[98]⟩, ⟨#[99]⟩, ⟨#[100]⟩, ⟨#[101]⟩] : List ByteArray)[k]]) := by
  unfold supStep; rw [names5_get h]; simp only [if_pos h1, decide_eq_true h1, decide_eq_true h2, Bool.and_self, Bool.true_or, if_true]
theorem supStep_b {i k : Nat} {d : DS} {l : List ByteArray} (h : k < ([⟨#[97]⟩, ⟨#[98]⟩, ⟨#[99]⟩, ⟨#[100]⟩, ⟨#[101]⟩] : List ByteArray).length) (h1 : k < i) (h2 : ¬ d.below 3 = 0) (h3 : (d.after 3).below 30 = 0) : supStep i (d, l) k = ((d.after 3).after 30, l ++ [([⟨#[97]⟩, ⟨#[98]⟩, ⟨#[99]⟩, ⟨#[100]⟩, ⟨#[101]⟩] : List ByteArray)[k]]) := by
  unfold supStep; rw [names5_get h]; simp [if_pos h1, h1, h2, h3]
theorem supStep_c {i k : Nat} {d : DS} {l : List ByteArray} (h1 : k < i) (h2 : ¬ d.below 3 = 0) (h3 : ¬ (d.after 3).below 30 = 0) : supStep i (d, l) k = ((d.after 3).after 30, l) := by
  unfold supStep; simp [if_pos h1, h1, h2, h3]
theorem supStep_d {i k : Nat} {d : DS} {l : List ByteArray} (h : k < ([⟨#[97]⟩, ⟨#[98]⟩, ⟨#[99]⟩, ⟨#[100]⟩, ⟨#[101]⟩] : List ByteArray).length) (h1 : ¬ k < i) (h3 : d.below 30 = 0) : supStep i (d, l) k = (d.after 30, l ++ [([⟨#[97]⟩, ⟨#[98]⟩, ⟨#[99]⟩, ⟨#[100]⟩, ⟨#[101]⟩] : List ByteArray)[k]]) := by
  unfold supStep; rw [names5_get h]; simp only [if_neg h1, decide_eq_false h1, decide_eq_true h3, Bool.false_and, Bool.or_true, if_true]; simp
theorem supStep_e {i k : Nat} {d : DS} {l : List ByteArray} (h1 : ¬ k < i) (h3 : ¬ d.below 30 = 0) : supStep i (d, l) k = (d.after 30, l) := by
  unfold supStep; simp only [if_neg h1, decide_eq_false h1, decide_eq_false h3, Bool.false_and, Bool.or_false]; simp
def supsOf (d : DS) (n i : Nat) : DS × List ByteArray := (List.range n).foldl (supStep i) (d, [])
def traitStep (n : Nat) (x : DS × List GTrait) (i : Nat) : DS × List GTrait := ((supsOf x.1 n i).1, x.2 ++ [GTrait.mk ((names5[i]?).getD ⟨#[]⟩) (supsOf x.1 n i).2 false false []])
theorem traitStep_eq {n i : Nat} {x y : DS} {ts : List GTrait} {l : List ByteArray} (h : i < ([⟨#[97]⟩, ⟨#[98]⟩, ⟨#[99]⟩, ⟨#[100]⟩, ⟨#[101]⟩] : List ByteArray).length) (hq : supsOf x n i = (y, l)) : traitStep n (x, ts) i = (y, ts ++ [GTrait.mk ([⟨#[97]⟩, ⟨#[98]⟩, ⟨#[99]⟩, ⟨#[100]⟩, ⟨#[101]⟩] : List ByteArray)[i] l false false []]) := by
  show ((supsOf x n i).1, ts ++ [GTrait.mk ((names5[i]?).getD ⟨#[]⟩) (supsOf x n i).2 false false []]) = _
  rw [hq, names5_get h]
def traitsOf (d : DS) (n : Nat) : DS × List GTrait := (List.range n).foldl (traitStep n) (d, [])
def worldOf (d : DS) : GProgram := .mk [.mk ⟨#[112]⟩ [] (traitsOf (d.after 5) (1 + d.below 5)).2 [] [] []]
def worldD (d : DS) : DS := (traitsOf (d.after 5) (1 + d.below 5)).1
theorem range_next {β : Type} {f : β → Nat → β} {o o' r : β} {n i : Nat} (h : i < n) (hr : r = ((List.range n).drop i).foldl f o) (hs : f o i = o') : r = ((List.range n).drop (i + 1)).foldl f o' := by
  have hl : i < (List.range n).length := by simpa using h
  rw [hr, List.drop_eq_getElem_cons hl, List.foldl_cons, List.getElem_range, hs]
theorem range_end {β : Type} {f : β → Nat → β} {o r : β} {n i : Nat} (h : n ≤ i) (hr : r = ((List.range n).drop i).foldl f o) : r = o := by
  rw [hr, List.drop_of_length_le (by simpa using h), List.foldl_nil]

set_option maxRecDepth 100000 in
set_option maxHeartbeats 4000000 in
theorem world_ok (d : DS)   : ACalls Try.prog 99 [.ptr 0 0] (d.box 206) (fun r t => r = (GProgram.pv (worldOf d)) ∧ t = (worldD d).box 206) := by
  refine ACalls.intro Try.func99 rfl (by first | decide | (simp; done) | (simp; decide)) ?_
  intro C hC
  refine AWP.fact (box_lenN 0 0 rfl rfl rfl (byteTrs_len d.code)) (fun hl0 => ?_)
  have h5 := d.below_lt (n := 5) (by decide)
  refine AWP.seq ?_
  refine AWP.region_lit ?_
  refine AL.cons rfl (AOp.alloc rfl rfl zr63) ?_
  refine AL.nil ?_
  refine AWP.seq ?_
  refine AWP.region_lit ?_
  refine AL.cons rfl (AOp.build rfl rfl zr151 pl151 rfl rfl) ?_
  refine AL.cons rfl (AOp.alloc rfl rfl zr151) ?_
  refine AL.cons rfl (AOp.storePtr (cs := [.t (.leaf (.string (⟨#[112]⟩))), .nil, .nil, .nil, .nil, .nil]) (ds := [.t (.leaf (.string (⟨#[112]⟩))), .nil, .nil, .nil, .nil, .nil]) rfl rfl rfl rfl rfl rfl rfl sz151 (Nat.le_of_ble_eq_true rfl) rfl) ?_
  refine AL.nil ?_
  refine AWP.seq ?_
  refine AWP.region_lit ?_
  refine AL.cons rfl (AOp.buildSliceQ (es := strTrs (([(⟨#[97]⟩), (⟨#[98]⟩), (⟨#[99]⟩), (⟨#[100]⟩), (⟨#[101]⟩)] : List ByteArray))) (cs := [.t (.leaf (.string (⟨#[97]⟩))), .t (.leaf (.string (⟨#[98]⟩))), .t (.leaf (.string (⟨#[99]⟩))), .t (.leaf (.string (⟨#[100]⟩))), .t (.leaf (.string (⟨#[101]⟩)))]) rfl rfl el66 zr9 rfl rfl (by (repeat' (first | exact PV.Le.refl _ | exact LeL.nil | exact PV.Le.nil _ | exact PV.Le.acc _ _ _ | apply LeL.cons | apply PV.Le.agg | apply PV.Le.tup))) rfl (by simp [strTrs]) (by decide) rfl (by decide)) ?_
  refine AL.cons rfl (AOp.move (.inr rfl) rfl rfl) ?_
  refine AL.nil ?_
  refine AWP.seq ?_
  refine AWP.region_lit ?_
  refine AL.cons rfl (AOp.move (.inl rfl) rfl rfl) ?_
  refine AL.cons rfl (AOp.callPE (pre := ⟨[some ⟨206, [.t (.row 1 (byteTrs (d.code))), .t (.leaf (.int .i64 (((d.p : Nat) : Int)))), .t (.leaf (.int .i64 (d.h)))]⟩], []⟩) (st' := ⟨[some ⟨206, [.t (.row 1 (byteTrs ((d.after 5).code))), .t (.leaf (.int .i64 ((((d.after 5).p : Nat) : Int)))), .t (.leaf (.int .i64 ((d.after 5).h)))]⟩], []⟩) (ps := [_, _]) (qs := [.ptr 0 0, .t (.leaf (.int .i64 (((5 : Nat) : Int))))]) [0] [] rfl rfl Try.func165 (by kernel_rfl) rfl rfl rfl (by (try rw [hs]); exact ⟨rfl, rfl, by decide, by decide, fun k h => by rcases k with _ | k <;> simp at h; exact ⟨_, rfl⟩, fun k x h => by rcases k with _ | k <;> simp at h; subst h; exact ⟨_, rfl, rfl, by (repeat' (first | exact PV.Le.refl _ | exact LeL.nil | exact PV.Le.nil _ | exact PV.Le.acc _ _ _ | apply LeL.cons | apply PV.Le.agg | apply PV.Le.tup)), rfl⟩, fun r row h => by simp at h⟩) (by (repeat' (first | exact PV.Le.refl _ | exact LeL.nil | exact PV.Le.nil _ | exact PV.Le.acc _ _ _ | apply LeL.cons | apply PV.Le.agg | apply PV.Le.tup))) rfl rfl rfl (below_ok d 5)) ?_
  refine AL.cons rfl (AOp.addI rfl rfl rfl rfl (c := ((1 + (d.below 5) : Nat) : Int)) (by omega) (by omega)) ?_
  refine AL.cons rfl (AOp.move (.inr rfl) rfl rfl) ?_
  refine AL.nil ?_
  refine AWP.seq ?_
  refine AWP.seq ?_
  refine AWP.region_lit ?_
  refine AL.cons rfl (AOp.move (.inr rfl) rfl rfl) ?_
  refine AL.nil ?_
  refine AWP.block ?_
  refine AWP.wk (Wk.regBox (k := 2) (j := 2) 75 5 (by decide) rfl rfl) ?_
  refine AWP.loopJ (ι := Nat × DS × List GTrait) (fun ⟨i, x, ts⟩ => i ≤ 1 + d.below 5 ∧ ts.length ≤ i ∧ traitsOf (d.after 5) (1 + d.below 5) = ((List.range (1 + d.below 5)).drop i).foldl (traitStep (1 + d.below 5)) (x, ts)) (fun ⟨i, x, ts⟩ => ⟨[(0, .ptr 0 0), (2, .ptr 1 0), (3, .ptr 2 0), (4, .t (.row 1 (strTrs (([(⟨#[97]⟩), (⟨#[98]⟩), (⟨#[99]⟩), (⟨#[100]⟩), (⟨#[101]⟩)] : List ByteArray))))), (5, .t (.leaf (.int .i64 (((1 + (d.below 5) : Nat) : Int))))), (6, .t (.leaf (.int .i64 (((i : Nat) : Int)))))], ⟨[some ⟨206, [.t (.row 1 (byteTrs (x.code))), .t (.leaf (.int .i64 (((x.p : Nat) : Int)))), .t (.leaf (.int .i64 (x.h)))]⟩, some ⟨63, [.nil]⟩, some ⟨151, [.t (.leaf (.string (⟨#[112]⟩))), .nil, .acc 5 (GTrait.trs (ts)) 0, .nil, .nil, .nil]⟩], [⟨75, 5, GTrait.trs (ts), false⟩]⟩⟩) (fun ⟨i, x, ts⟩ => 1 + d.below 5 - i) (0, d.after 5, []) ?_ ?_ ?_
  · exact ⟨Nat.zero_le _, Nat.le_refl _, rfl⟩
  · skip
    exact Wk.mk (StLe.mk' ⟨⟨rfl, by (repeat' (first | exact PV.Le.refl _ | exact LeL.nil | exact PV.Le.nil _ | exact PV.Le.acc _ _ _ | apply LeL.cons | apply PV.Le.agg | apply PV.Le.tup)), rfl⟩, ⟨⟨rfl, by (repeat' (first | exact PV.Le.refl _ | exact LeL.nil | exact PV.Le.nil _ | exact PV.Le.acc _ _ _ | apply LeL.cons | apply PV.Le.agg | apply PV.Le.tup)), rfl⟩, ⟨⟨rfl, by (repeat' (first | exact PV.Le.refl _ | exact LeL.nil | exact PV.Le.nil _ | exact PV.Le.acc _ _ _ | apply LeL.cons | apply PV.Le.agg | apply PV.Le.tup)), rfl⟩, trivial⟩⟩⟩ (by first | rfl | simp)) (keeps_box hC ⟨_, rfl⟩) ⟨⟨_, rfl, .refl _, rfl⟩, ⟨⟨_, rfl, .refl _, rfl⟩, ⟨⟨_, rfl, .refl _, rfl⟩, ⟨⟨_, rfl, .refl _, rfl⟩, ⟨⟨_, rfl, .refl _, rfl⟩, ⟨⟨_, rfl, by (repeat' (first | exact PV.Le.refl _ | exact LeL.nil | exact PV.Le.nil _ | exact PV.Le.acc _ _ _ | apply LeL.cons | apply PV.Le.agg | apply PV.Le.tup)), rfl⟩, trivial⟩⟩⟩⟩⟩⟩
  rintro ⟨i, x, ts⟩ hJ1
  obtain ⟨hi1, hi2, hi3⟩ := hJ1
  refine AWP.seq ?_
  refine AWP.seq ?_
  refine AWP.region_lit ?_
  refine AL.cons rfl (AOp.move (.inl rfl) rfl rfl) ?_
  refine AL.cons rfl (AOp.move (.inl rfl) rfl rfl) ?_
  refine AL.cons rfl (AOp.lss rfl rfl rfl rfl) ?_
  refine AL.nil ?_
  refine AWP.cond rfl (fun h2 => ?_) (fun h2 => ?_)
  · skip
    have h2b := h2
    try simp only [Bool.and_eq_true, Bool.or_eq_true, Bool.and_eq_false_iff, Bool.or_eq_false_iff, decide_eq_true_eq, decide_eq_false_iff_not, Bool.not_eq_true', Bool.not_eq_false', Bool.not_eq_eq_eq_not, Bool.not_true, Bool.not_false, ge_iff_le, gt_iff_lt, Int.not_lt, Int.not_le] at h2b
    refine AWP.skip ?_
    refine AWP.seq ?_
    refine AWP.block ?_
    refine AWP.seq ?_
    refine AWP.region_lit ?_
    refine AL.cons rfl (AOp.move (.inl rfl) rfl rfl) ?_
    refine AL.cons rfl (AOp.move (.inl rfl) rfl rfl) ?_
    have hn3 : i < List.length ([(⟨#[97]⟩), (⟨#[98]⟩), (⟨#[99]⟩), (⟨#[100]⟩), (⟨#[101]⟩)] : List ByteArray) := by first | omega | (simp; omega) | (simp [*]; omega)
    refine AL.cons rfl (AOp.index (k := i) rfl rfl rfl rfl rfl (strTrs_cs hn3) el66) ?_
    refine AL.cons rfl (AOp.loadEptr1 (d := .leaf (.string (([(⟨#[97]⟩), (⟨#[98]⟩), (⟨#[99]⟩), (⟨#[100]⟩), (⟨#[101]⟩)] : List ByteArray)[i]))) rfl rfl rfl sh9 rfl) ?_
    refine AL.cons rfl (AOp.build rfl rfl zr75 pl75 rfl rfl) ?_
    refine AL.cons rfl (AOp.alloc rfl rfl zr75) ?_
    refine AL.cons rfl (AOp.storePtr (cs := [.t (.leaf (.string (([(⟨#[97]⟩), (⟨#[98]⟩), (⟨#[99]⟩), (⟨#[100]⟩), (⟨#[101]⟩)] : List ByteArray)[i]))), .nil, .t (.leaf (.bool (false))), .t (.leaf (.bool (false))), .nil]) (ds := [.t (.leaf (.string (([(⟨#[97]⟩), (⟨#[98]⟩), (⟨#[99]⟩), (⟨#[100]⟩), (⟨#[101]⟩)] : List ByteArray)[i]))), .nil, .t (.leaf (.bool (false))), .t (.leaf (.bool (false))), .nil]) rfl rfl rfl rfl rfl rfl rfl sz75 (Nat.le_of_ble_eq_true rfl) rfl) ?_
    refine AL.nil ?_
    refine AWP.seq ?_
    refine AWP.seq ?_
    refine AWP.region_lit ?_
    refine AL.cons rfl (AOp.move (.inr rfl) rfl rfl) ?_
    refine AL.nil ?_
    refine AWP.block ?_
    refine AWP.wk (Wk.regBox (k := 3) (j := 1) 9 1 (by decide) rfl rfl) ?_
    refine AWP.loopJ (ι := Nat × DS × List ByteArray) (fun ⟨k, y, l⟩ => k ≤ 1 + d.below 5 ∧ l.length ≤ k ∧ supsOf x (1 + d.below 5) i = ((List.range (1 + d.below 5)).drop k).foldl (supStep i) (y, l)) (fun ⟨k, y, l⟩ => ⟨[(0, .ptr 0 0), (2, .ptr 1 0), (3, .ptr 2 0), (4, .t (.row 1 (strTrs (([(⟨#[97]⟩), (⟨#[98]⟩), (⟨#[99]⟩), (⟨#[100]⟩), (⟨#[101]⟩)] : List ByteArray))))), (5, .t (.leaf (.int .i64 (((1 + (d.below 5) : Nat) : Int))))), (6, .t (.leaf (.int .i64 (((i : Nat) : Int))))), (7, .ptr 3 0), (8, .t (.leaf (.int .i64 (((k : Nat) : Int)))))], ⟨[some ⟨206, [.t (.row 1 (byteTrs (y.code))), .t (.leaf (.int .i64 (((y.p : Nat) : Int)))), .t (.leaf (.int .i64 (y.h)))]⟩, some ⟨63, [.nil]⟩, some ⟨151, [.t (.leaf (.string (⟨#[112]⟩))), .nil, .acc 5 (GTrait.trs (ts)) 0, .nil, .nil, .nil]⟩, some ⟨75, [.t (.leaf (.string (([(⟨#[97]⟩), (⟨#[98]⟩), (⟨#[99]⟩), (⟨#[100]⟩), (⟨#[101]⟩)] : List ByteArray)[i]))), .acc 1 (strTrs (l)) 1, .t (.leaf (.bool (false))), .t (.leaf (.bool (false))), .nil]⟩], [⟨75, 5, GTrait.trs (ts), false⟩, ⟨9, 1, strTrs (l), false⟩]⟩⟩) (fun ⟨k, y, l⟩ => 1 + d.below 5 - k) (0, x, []) ?_ ?_ ?_
    · exact ⟨Nat.zero_le _, Nat.le_refl _, rfl⟩
    · skip
      exact Wk.mk (StLe.mk' ⟨⟨rfl, by (repeat' (first | exact PV.Le.refl _ | exact LeL.nil | exact PV.Le.nil _ | exact PV.Le.acc _ _ _ | apply LeL.cons | apply PV.Le.agg | apply PV.Le.tup)), rfl⟩, ⟨⟨rfl, by (repeat' (first | exact PV.Le.refl _ | exact LeL.nil | exact PV.Le.nil _ | exact PV.Le.acc _ _ _ | apply LeL.cons | apply PV.Le.agg | apply PV.Le.tup)), rfl⟩, ⟨⟨rfl, by (repeat' (first | exact PV.Le.refl _ | exact LeL.nil | exact PV.Le.nil _ | exact PV.Le.acc _ _ _ | apply LeL.cons | apply PV.Le.agg | apply PV.Le.tup)), rfl⟩, ⟨⟨rfl, by (repeat' (first | exact PV.Le.refl _ | exact LeL.nil | exact PV.Le.nil _ | exact PV.Le.acc _ _ _ | apply LeL.cons | apply PV.Le.agg | apply PV.Le.tup)), rfl⟩, trivial⟩⟩⟩⟩ (by first | rfl | simp)) (keeps_box hC ⟨_, rfl⟩) ⟨⟨_, rfl, .refl _, rfl⟩, ⟨⟨_, rfl, .refl _, rfl⟩, ⟨⟨_, rfl, .refl _, rfl⟩, ⟨⟨_, rfl, .refl _, rfl⟩, ⟨⟨_, rfl, .refl _, rfl⟩, ⟨⟨_, rfl, .refl _, rfl⟩, ⟨⟨_, rfl, .refl _, rfl⟩, ⟨⟨_, rfl, by (repeat' (first | exact PV.Le.refl _ | exact LeL.nil | exact PV.Le.nil _ | exact PV.Le.acc _ _ _ | apply LeL.cons | apply PV.Le.agg | apply PV.Le.tup)), rfl⟩, trivial⟩⟩⟩⟩⟩⟩⟩⟩
    rintro ⟨k, y, l⟩ hJ4
    obtain ⟨hk1, hk2, hk3⟩ := hJ4
    refine AWP.seq ?_
    refine AWP.seq ?_
    refine AWP.region_lit ?_
    refine AL.cons rfl (AOp.move (.inl rfl) rfl rfl) ?_
    refine AL.cons rfl (AOp.move (.inl rfl) rfl rfl) ?_
    refine AL.cons rfl (AOp.lss rfl rfl rfl rfl) ?_
    refine AL.nil ?_
    refine AWP.cond rfl (fun h5 => ?_) (fun h5 => ?_)
    · skip
      have h5b := h5
      try simp only [Bool.and_eq_true, Bool.or_eq_true, Bool.and_eq_false_iff, Bool.or_eq_false_iff, decide_eq_true_eq, decide_eq_false_iff_not, Bool.not_eq_true', Bool.not_eq_false', Bool.not_eq_eq_eq_not, Bool.not_true, Bool.not_false, ge_iff_le, gt_iff_lt, Int.not_lt, Int.not_le] at h5b
      refine AWP.skip ?_
      refine AWP.seq ?_
      refine AWP.block ?_
      refine AWP.seq ?_
      refine AWP.region_lit ?_
      refine AL.cons rfl (AOp.move (.inl rfl) rfl rfl) ?_
      refine AL.cons rfl (AOp.move (.inl rfl) rfl rfl) ?_
      refine AL.cons rfl (AOp.lss rfl rfl rfl rfl) ?_
      refine AL.cons rfl (AOp.move (.inl rfl) rfl rfl) ?_
      refine AL.splitB 32 rfl (fun g6 => ?_) (fun g6 => ?_)
      · skip
        have g6b := g6
        try simp only [Bool.and_eq_true, Bool.or_eq_true, Bool.and_eq_false_iff, Bool.or_eq_false_iff, decide_eq_true_eq, decide_eq_false_iff_not, Bool.not_eq_true', Bool.not_eq_false', Bool.not_eq_eq_eq_not, Bool.not_true, Bool.not_false, ge_iff_le, gt_iff_lt, Int.not_lt, Int.not_le] at g6b
        refine AL.cons_gv rfl rfl rfl g6 (AOp.move (.inl rfl) rfl rfl) ?_
        refine AL.cons_gv rfl rfl rfl g6 (AOp.callPE (pre := ⟨[some ⟨206, [.t (.row 1 (byteTrs (y.code))), .t (.leaf (.int .i64 (((y.p : Nat) : Int)))), .t (.leaf (.int .i64 (y.h)))]⟩], []⟩) (st' := ⟨[some ⟨206, [.t (.row 1 (byteTrs ((y.after 3).code))), .t (.leaf (.int .i64 ((((y.after 3).p : Nat) : Int)))), .t (.leaf (.int .i64 ((y.after 3).h)))]⟩], []⟩) (ps := [_, _]) (qs := [.ptr 0 0, .t (.leaf (.int .i64 (((3 : Nat) : Int))))]) [0] [] rfl rfl Try.func124 (by kernel_rfl) rfl rfl rfl (by (try rw [hs]); exact ⟨rfl, rfl, by decide, by decide, fun k h => by rcases k with _ | k <;> simp at h; exact ⟨_, rfl⟩, fun k x h => by rcases k with _ | k <;> simp at h; subst h; exact ⟨_, rfl, rfl, by (repeat' (first | exact PV.Le.refl _ | exact LeL.nil | exact PV.Le.nil _ | exact PV.Le.acc _ _ _ | apply LeL.cons | apply PV.Le.agg | apply PV.Le.tup)), rfl⟩, fun r row h => by simp at h⟩) (by (repeat' (first | exact PV.Le.refl _ | exact LeL.nil | exact PV.Le.nil _ | exact PV.Le.acc _ _ _ | apply LeL.cons | apply PV.Le.agg | apply PV.Le.tup))) rfl rfl rfl (once_ok y 3)) ?_
        refine AL.cons rfl (AOp.pickT rfl rfl rfl g6 rfl) ?_
        refine AL.cons rfl (AOp.move (.inl rfl) rfl rfl) ?_
        refine AL.splitB 36 rfl (fun g7 => ?_) (fun g7 => ?_)
        · skip
          have g7b := g7
          try simp only [Bool.and_eq_true, Bool.or_eq_true, Bool.and_eq_false_iff, Bool.or_eq_false_iff, decide_eq_true_eq, decide_eq_false_iff_not, Bool.not_eq_true', Bool.not_eq_false', Bool.not_eq_eq_eq_not, Bool.not_true, Bool.not_false, ge_iff_le, gt_iff_lt, Int.not_lt, Int.not_le] at g7b
          refine AL.skip_v rfl rfl rfl g7 rfl ?_
          refine AL.skip_v rfl rfl rfl g7 rfl ?_
          refine AL.cons rfl (AOp.pickT rfl rfl rfl g7 rfl) ?_
          refine AL.nil ?_
          refine AWP.cond rfl (fun h8 => ?_) (fun h8 => ?_)
          · skip
            have h8b := h8
            try simp only [Bool.and_eq_true, Bool.or_eq_true, Bool.and_eq_false_iff, Bool.or_eq_false_iff, decide_eq_true_eq, decide_eq_false_iff_not, Bool.not_eq_true', Bool.not_eq_false', Bool.not_eq_eq_eq_not, Bool.not_true, Bool.not_false, ge_iff_le, gt_iff_lt, Int.not_lt, Int.not_le] at h8b
            have hn9 : k < List.length ([(⟨#[97]⟩), (⟨#[98]⟩), (⟨#[99]⟩), (⟨#[100]⟩), (⟨#[101]⟩)] : List ByteArray) := by first | omega | (simp; omega) | (simp [*]; omega)
            refine AWP.drawnL ⟨_, _, fun j' _ => ([(⟨[some ⟨206, [.t (.row 1 (byteTrs ((y.after 3).code))), .t (.leaf (.int .i64 ((((y.after 3).p : Nat) : Int)))), .t (.leaf (.int .i64 ((y.after 3).h)))]⟩, some ⟨63, [.nil]⟩, some ⟨151, [.t (.leaf (.string (⟨#[112]⟩))), .nil, .acc 5 (GTrait.trs (ts)) 0, .nil, .nil, .nil]⟩, some ⟨75, [.t (.leaf (.string (([(⟨#[97]⟩), (⟨#[98]⟩), (⟨#[99]⟩), (⟨#[100]⟩), (⟨#[101]⟩)] : List ByteArray)[i]))), .acc 1 (strTrs (l)) 1, .t (.leaf (.bool (false))), .t (.leaf (.bool (false))), .nil]⟩], [⟨75, 5, GTrait.trs (ts), false⟩, ⟨9, 1, strTrs (l), false⟩]⟩ : Sto), (⟨[some ⟨206, [.t (.row 1 (byteTrs ((y.after 3).code))), .t (.leaf (.int .i64 ((((y.after 3).p : Nat) : Int)))), .t (.leaf (.int .i64 ((y.after 3).h)))]⟩, some ⟨63, [.nil]⟩, some ⟨151, [.t (.leaf (.string (⟨#[112]⟩))), .nil, .acc 5 (GTrait.trs (ts)) 0, .nil, .nil, .nil]⟩, some ⟨75, [.t (.leaf (.string (([(⟨#[97]⟩), (⟨#[98]⟩), (⟨#[99]⟩), (⟨#[100]⟩), (⟨#[101]⟩)] : List ByteArray)[i]))), .acc 1 (strTrs (l)) 1, .t (.leaf (.bool (false))), .t (.leaf (.bool (false))), .nil]⟩], [⟨75, 5, GTrait.trs (ts), false⟩, ⟨9, 1, strTrs (l ++ [(([(⟨#[97]⟩), (⟨#[98]⟩), (⟨#[99]⟩), (⟨#[100]⟩), (⟨#[101]⟩)] : List ByteArray)[k])]), false⟩]⟩ : Sto), (⟨[some ⟨206, [.t (.row 1 (byteTrs ((y.after 3).code))), .t (.leaf (.int .i64 ((((y.after 3).p : Nat) : Int)))), .t (.leaf (.int .i64 ((y.after 3).h)))]⟩, some ⟨63, [.nil]⟩, some ⟨151, [.t (.leaf (.string (⟨#[112]⟩))), .nil, .acc 5 (GTrait.trs (ts)) 0, .nil, .nil, .nil]⟩, some ⟨75, [.t (.leaf (.string (([(⟨#[97]⟩), (⟨#[98]⟩), (⟨#[99]⟩), (⟨#[100]⟩), (⟨#[101]⟩)] : List ByteArray)[i]))), .acc 1 (strTrs (l ++ [(([(⟨#[97]⟩), (⟨#[98]⟩), (⟨#[99]⟩), (⟨#[100]⟩), (⟨#[101]⟩)] : List ByteArray)[k])])) 1, .t (.leaf (.bool (false))), .t (.leaf (.bool (false))), .nil]⟩], [⟨75, 5, GTrait.trs (ts), false⟩, ⟨9, 1, strTrs (l ++ [(([(⟨#[97]⟩), (⟨#[98]⟩), (⟨#[99]⟩), (⟨#[100]⟩), (⟨#[101]⟩)] : List ByteArray)[k])]), false⟩]⟩ : Sto)] : List Sto).getD j' (⟨[some ⟨206, [.t (.row 1 (byteTrs ((y.after 3).code))), .t (.leaf (.int .i64 ((((y.after 3).p : Nat) : Int)))), .t (.leaf (.int .i64 ((y.after 3).h)))]⟩, some ⟨63, [.nil]⟩, some ⟨151, [.t (.leaf (.string (⟨#[112]⟩))), .nil, .acc 5 (GTrait.trs (ts)) 0, .nil, .nil, .nil]⟩, some ⟨75, [.t (.leaf (.string (([(⟨#[97]⟩), (⟨#[98]⟩), (⟨#[99]⟩), (⟨#[100]⟩), (⟨#[101]⟩)] : List ByteArray)[i]))), .acc 1 (strTrs (l ++ [(([(⟨#[97]⟩), (⟨#[98]⟩), (⟨#[99]⟩), (⟨#[100]⟩), (⟨#[101]⟩)] : List ByteArray)[k])])) 1, .t (.leaf (.bool (false))), .t (.leaf (.bool (false))), .nil]⟩], [⟨75, 5, GTrait.trs (ts), false⟩, ⟨9, 1, strTrs (l ++ [(([(⟨#[97]⟩), (⟨#[98]⟩), (⟨#[99]⟩), (⟨#[100]⟩), (⟨#[101]⟩)] : List ByteArray)[k])]), false⟩]⟩ : Sto), fun q' => ([some (.ptr 3 1), some (.acc 1 (strTrs (l)) 1), some (.t (.row 1 (strTrs (([(⟨#[97]⟩), (⟨#[98]⟩), (⟨#[99]⟩), (⟨#[100]⟩), (⟨#[101]⟩)] : List ByteArray))))), some (.t (.leaf (.int .i64 (((k : Nat) : Int))))), some (.eptr ([.leaf (.string (([(⟨#[97]⟩), (⟨#[98]⟩), (⟨#[99]⟩), (⟨#[100]⟩), (⟨#[101]⟩)] : List ByteArray)[k]))])), some (.t (.leaf (.string (([(⟨#[97]⟩), (⟨#[98]⟩), (⟨#[99]⟩), (⟨#[100]⟩), (⟨#[101]⟩)] : List ByteArray)[k])))), some (.t (.row 1 (strTrs ([(([(⟨#[97]⟩), (⟨#[98]⟩), (⟨#[99]⟩), (⟨#[100]⟩), (⟨#[101]⟩)] : List ByteArray)[k])])))), some (.acc 1 (strTrs (l ++ [(([(⟨#[97]⟩), (⟨#[98]⟩), (⟨#[99]⟩), (⟨#[100]⟩), (⟨#[101]⟩)] : List ByteArray)[k])])) 1), some (.ptr 3 1), none] : List (Option PV)).getD q' none, fun q' => ([.q 0 0, .q 0 0, .q 0 0, .q 0 0, .q 0 0, .q 0 0, .q 0 0, .ef 0, .q 1 1, .ef 1] : List DK).getD q' (.q 0 0), [7, 9], none, fun q' => ([[(7, none)], [(40, some 0)], [(4, none)], [(8, none)], [(42, some 2), (43, some 3)], [(44, some 4)], [(45, some 5)], [(41, some 1), (46, some 6)], [(7, none)], [(48, some 8), (47, some 7)]] : List (List (Nat × Option Nat))).getD q' []⟩ rfl mixed (by kernel_rfl) rfl rfl ⟨?_, ?_, ?_, ?_, ?_, ?_, ?_, ?_, ?_, ?_, trivial⟩ rfl ?_
            · refine .inl ⟨rfl, fun s' jj bb (h1 : 0 ≤ jj) (h2 : jj ≤ 0) hs hl => ?_⟩
              obtain rfl : jj = 0 := by omega
              exact ⟨_, rfl, AOp.fieldPtr (k := 3) (d := 0) (e := 1) rfl rfl (hl 7 none _ (.head _) rfl) fo75_1⟩
            · refine .inl ⟨rfl, fun s' jj bb (h1 : 0 ≤ jj) (h2 : jj ≤ 0) hs hl => ?_⟩
              obtain rfl : jj = 0 := by omega
              exact ⟨_, rfl, AOp.loadPtr1 rfl rfl (hl 40 (some 0) _ (.head _) rfl) (by rw [hs]; rfl) sh66 rfl⟩
            · refine .inl ⟨rfl, fun s' jj bb (h1 : 0 ≤ jj) (h2 : jj ≤ 0) hs hl => ?_⟩
              obtain rfl : jj = 0 := by omega
              exact ⟨_, rfl, AOp.move (.inl rfl) rfl (hl 4 none _ (.head _) rfl)⟩
            · refine .inl ⟨rfl, fun s' jj bb (h1 : 0 ≤ jj) (h2 : jj ≤ 0) hs hl => ?_⟩
              obtain rfl : jj = 0 := by omega
              exact ⟨_, rfl, AOp.move (.inl rfl) rfl (hl 8 none _ (.head _) rfl)⟩
            · refine .inl ⟨rfl, fun s' jj bb (h1 : 0 ≤ jj) (h2 : jj ≤ 0) hs hl => ?_⟩
              obtain rfl : jj = 0 := by omega
              exact ⟨_, rfl, AOp.index (k := k) rfl rfl (hl 42 (some 2) _ (.head _) rfl) rfl (hl 43 (some 3) _ (.tail _ (.head _)) rfl) (strTrs_cs hn9) el66⟩
            · refine .inl ⟨rfl, fun s' jj bb (h1 : 0 ≤ jj) (h2 : jj ≤ 0) hs hl => ?_⟩
              obtain rfl : jj = 0 := by omega
              exact ⟨_, rfl, AOp.loadEptr1 (d := .leaf (.string (([(⟨#[97]⟩), (⟨#[98]⟩), (⟨#[99]⟩), (⟨#[100]⟩), (⟨#[101]⟩)] : List ByteArray)[k]))) rfl rfl (hl 44 (some 4) _ (.head _) rfl) sh9 rfl⟩
            · refine .inl ⟨rfl, fun s' jj bb (h1 : 0 ≤ jj) (h2 : jj ≤ 0) hs hl => ?_⟩
              obtain rfl : jj = 0 := by omega
              exact ⟨_, rfl, AOp.buildSliceQ (es := strTrs ([(([(⟨#[97]⟩), (⟨#[98]⟩), (⟨#[99]⟩), (⟨#[100]⟩), (⟨#[101]⟩)] : List ByteArray)[k])])) (cs := [.t (.leaf (.string (([(⟨#[97]⟩), (⟨#[98]⟩), (⟨#[99]⟩), (⟨#[100]⟩), (⟨#[101]⟩)] : List ByteArray)[k])))]) rfl rfl el66 zr9 (parts_cons (hl 45 (some 5) _ (.head _) rfl) rfl rfl rfl) rfl (by (repeat' (first | exact PV.Le.refl _ | exact LeL.nil | exact PV.Le.nil _ | exact PV.Le.acc _ _ _ | apply LeL.cons | apply PV.Le.agg | apply PV.Le.tup))) rfl (by simp [strTrs]) (by decide) rfl (by decide)⟩
            · refine .inl ⟨rfl, fun s' bb hs hl => ?_⟩
              refine .inl ⟨_, rfl, AOp.congr (AOp.appendE (es3 := strTrs (l ++ [(([(⟨#[97]⟩), (⟨#[98]⟩), (⟨#[99]⟩), (⟨#[100]⟩), (⟨#[101]⟩)] : List ByteArray)[k])])) rfl rfl (hl 41 (some 1) _ (.head _) rfl) (by rw [hs]; rfl) rfl rfl rfl (hl 46 (some 6) _ (.tail _ (.head _)) rfl) rfl (strTrs_all _) el66 ze66 (by decide) (by simp [strTrs_len, GTrait.trs_len]; omega) (strTrs_append _ _)) ?_⟩
              first | (rw [hs]; rfl) | rfl
            · refine .inl ⟨rfl, fun s' jj bb (h1 : 1 ≤ jj) (h2 : jj ≤ 1) hs hl => ?_⟩
              obtain rfl : jj = 1 := by omega
              exact ⟨_, rfl, AOp.fieldPtr (k := 3) (d := 0) (e := 1) rfl rfl (hl 7 none _ (.head _) rfl) fo75_1⟩
            · refine .inl ⟨rfl, fun s' bb hs hl => ?_⟩
              refine .inr ⟨rfl, AOp.congr (AOp.storePtr (cs := [.acc 1 (strTrs (l ++ [(([(⟨#[97]⟩), (⟨#[98]⟩), (⟨#[99]⟩), (⟨#[100]⟩), (⟨#[101]⟩)] : List ByteArray)[k])])) 1]) (ds := [.t (.leaf (.string (([(⟨#[97]⟩), (⟨#[98]⟩), (⟨#[99]⟩), (⟨#[100]⟩), (⟨#[101]⟩)] : List ByteArray)[i]))), .acc 1 (strTrs (l ++ [(([(⟨#[97]⟩), (⟨#[98]⟩), (⟨#[99]⟩), (⟨#[100]⟩), (⟨#[101]⟩)] : List ByteArray)[k])])) 1, .t (.leaf (.bool (false))), .t (.leaf (.bool (false))), .nil]) rfl (hl 48 (some 8) _ (.head _) rfl) (by rw [hs]; rfl) (hl 47 (some 7) _ (.tail _ (.head _)) rfl) rfl rfl rfl sz66 (Nat.le_of_ble_eq_true rfl) rfl) ?_⟩
              first | (rw [hs]; rfl) | rfl
            refine AWP.region_lit ?_
            refine AL.cons rfl (AOp.move (.inl rfl) rfl rfl) ?_
            refine AL.cons rfl (AOp.addI rfl rfl rfl rfl (c := ((k + 1 : Nat) : Int)) (by omega) (by omega)) ?_
            refine AL.cons rfl (AOp.move (.inr rfl) rfl rfl) ?_
            refine AL.nil ?_
            refine ⟨(k + 1, y.after 3, l ++ [(([(⟨#[97]⟩), (⟨#[98]⟩), (⟨#[99]⟩), (⟨#[100]⟩), (⟨#[101]⟩)] : List ByteArray)[k])]), ?_, ?_, ?_⟩
            · exact ⟨by omega, by first | omega | (simp; omega), range_next (by omega) hk3 (by first | exact supStep_a (by assumption) (by omega) (by omega) | exact supStep_b (by assumption) (by omega) (by omega) (by omega) | exact supStep_c (by omega) (by omega) (by omega) | exact supStep_d (by assumption) (by omega) (by omega) | exact supStep_e (by omega) (by omega))⟩
            · skip
              exact Wk.mk (StLe.mk' ⟨⟨rfl, by (repeat' (first | exact PV.Le.refl _ | exact LeL.nil | exact PV.Le.nil _ | exact PV.Le.acc _ _ _ | apply LeL.cons | apply PV.Le.agg | apply PV.Le.tup)), rfl⟩, ⟨⟨rfl, by (repeat' (first | exact PV.Le.refl _ | exact LeL.nil | exact PV.Le.nil _ | exact PV.Le.acc _ _ _ | apply LeL.cons | apply PV.Le.agg | apply PV.Le.tup)), rfl⟩, ⟨⟨rfl, by (repeat' (first | exact PV.Le.refl _ | exact LeL.nil | exact PV.Le.nil _ | exact PV.Le.acc _ _ _ | apply LeL.cons | apply PV.Le.agg | apply PV.Le.tup)), rfl⟩, ⟨⟨rfl, by (repeat' (first | exact PV.Le.refl _ | exact LeL.nil | exact PV.Le.nil _ | exact PV.Le.acc _ _ _ | apply LeL.cons | apply PV.Le.agg | apply PV.Le.tup)), rfl⟩, trivial⟩⟩⟩⟩ (by first | rfl | simp)) (keeps_box hC ⟨_, rfl⟩) ⟨⟨_, rfl, .refl _, rfl⟩, ⟨⟨_, rfl, .refl _, rfl⟩, ⟨⟨_, rfl, .refl _, rfl⟩, ⟨⟨_, rfl, .refl _, rfl⟩, ⟨⟨_, rfl, .refl _, rfl⟩, ⟨⟨_, rfl, .refl _, rfl⟩, ⟨⟨_, rfl, .refl _, rfl⟩, ⟨⟨_, rfl, by (repeat' (first | exact PV.Le.refl _ | exact LeL.nil | exact PV.Le.nil _ | exact PV.Le.acc _ _ _ | apply LeL.cons | apply PV.Le.agg | apply PV.Le.tup)), rfl⟩, trivial⟩⟩⟩⟩⟩⟩⟩⟩
            · dsimp only; omega
          · skip
            exact absurd (h8.symm.trans rfl) (by decide)
        · skip
          have g7b := g7
          try simp only [Bool.and_eq_true, Bool.or_eq_true, Bool.and_eq_false_iff, Bool.or_eq_false_iff, decide_eq_true_eq, decide_eq_false_iff_not, Bool.not_eq_true', Bool.not_eq_false', Bool.not_eq_eq_eq_not, Bool.not_true, Bool.not_false, ge_iff_le, gt_iff_lt, Int.not_lt, Int.not_le] at g7b
          refine AL.cons_gv rfl rfl rfl g7 (AOp.move (.inl rfl) rfl rfl) ?_
          refine AL.cons_gv rfl rfl rfl g7 (AOp.callPE (pre := ⟨[some ⟨206, [.t (.row 1 (byteTrs ((y.after 3).code))), .t (.leaf (.int .i64 ((((y.after 3).p : Nat) : Int)))), .t (.leaf (.int .i64 ((y.after 3).h)))]⟩], []⟩) (st' := ⟨[some ⟨206, [.t (.row 1 (byteTrs (((y.after 3).after 30).code))), .t (.leaf (.int .i64 (((((y.after 3).after 30).p : Nat) : Int)))), .t (.leaf (.int .i64 (((y.after 3).after 30).h)))]⟩], []⟩) (ps := [_, _]) (qs := [.ptr 0 0, .t (.leaf (.int .i64 (((30 : Nat) : Int))))]) [0] [] rfl rfl Try.func124 (by kernel_rfl) rfl rfl rfl (by (try rw [hs]); exact ⟨rfl, rfl, by decide, by decide, fun k h => by rcases k with _ | k <;> simp at h; exact ⟨_, rfl⟩, fun k x h => by rcases k with _ | k <;> simp at h; subst h; exact ⟨_, rfl, rfl, by (repeat' (first | exact PV.Le.refl _ | exact LeL.nil | exact PV.Le.nil _ | exact PV.Le.acc _ _ _ | apply LeL.cons | apply PV.Le.agg | apply PV.Le.tup)), rfl⟩, fun r row h => by simp at h⟩) (by (repeat' (first | exact PV.Le.refl _ | exact LeL.nil | exact PV.Le.nil _ | exact PV.Le.acc _ _ _ | apply LeL.cons | apply PV.Le.agg | apply PV.Le.tup))) rfl rfl rfl (once_ok (y.after 3) 30)) ?_
          refine AL.cons rfl (AOp.pickF rfl rfl rfl g7 rfl) ?_
          refine AL.nil ?_
          refine AWP.cond rfl (fun h10 => ?_) (fun h10 => ?_)
          · skip
            have h10b := h10
            try simp only [Bool.and_eq_true, Bool.or_eq_true, Bool.and_eq_false_iff, Bool.or_eq_false_iff, decide_eq_true_eq, decide_eq_false_iff_not, Bool.not_eq_true', Bool.not_eq_false', Bool.not_eq_eq_eq_not, Bool.not_true, Bool.not_false, ge_iff_le, gt_iff_lt, Int.not_lt, Int.not_le] at h10b
            have hn11 : k < List.length ([(⟨#[97]⟩), (⟨#[98]⟩), (⟨#[99]⟩), (⟨#[100]⟩), (⟨#[101]⟩)] : List ByteArray) := by first | omega | (simp; omega) | (simp [*]; omega)
            refine AWP.drawnL ⟨_, _, fun j' _ => ([(⟨[some ⟨206, [.t (.row 1 (byteTrs (((y.after 3).after 30).code))), .t (.leaf (.int .i64 (((((y.after 3).after 30).p : Nat) : Int)))), .t (.leaf (.int .i64 (((y.after 3).after 30).h)))]⟩, some ⟨63, [.nil]⟩, some ⟨151, [.t (.leaf (.string (⟨#[112]⟩))), .nil, .acc 5 (GTrait.trs (ts)) 0, .nil, .nil, .nil]⟩, some ⟨75, [.t (.leaf (.string (([(⟨#[97]⟩), (⟨#[98]⟩), (⟨#[99]⟩), (⟨#[100]⟩), (⟨#[101]⟩)] : List ByteArray)[i]))), .acc 1 (strTrs (l)) 1, .t (.leaf (.bool (false))), .t (.leaf (.bool (false))), .nil]⟩], [⟨75, 5, GTrait.trs (ts), false⟩, ⟨9, 1, strTrs (l), false⟩]⟩ : Sto), (⟨[some ⟨206, [.t (.row 1 (byteTrs (((y.after 3).after 30).code))), .t (.leaf (.int .i64 (((((y.after 3).after 30).p : Nat) : Int)))), .t (.leaf (.int .i64 (((y.after 3).after 30).h)))]⟩, some ⟨63, [.nil]⟩, some ⟨151, [.t (.leaf (.string (⟨#[112]⟩))), .nil, .acc 5 (GTrait.trs (ts)) 0, .nil, .nil, .nil]⟩, some ⟨75, [.t (.leaf (.string (([(⟨#[97]⟩), (⟨#[98]⟩), (⟨#[99]⟩), (⟨#[100]⟩), (⟨#[101]⟩)] : List ByteArray)[i]))), .acc 1 (strTrs (l)) 1, .t (.leaf (.bool (false))), .t (.leaf (.bool (false))), .nil]⟩], [⟨75, 5, GTrait.trs (ts), false⟩, ⟨9, 1, strTrs (l ++ [(([(⟨#[97]⟩), (⟨#[98]⟩), (⟨#[99]⟩), (⟨#[100]⟩), (⟨#[101]⟩)] : List ByteArray)[k])]), false⟩]⟩ : Sto), (⟨[some ⟨206, [.t (.row 1 (byteTrs (((y.after 3).after 30).code))), .t (.leaf (.int .i64 (((((y.after 3).after 30).p : Nat) : Int)))), .t (.leaf (.int .i64 (((y.after 3).after 30).h)))]⟩, some ⟨63, [.nil]⟩, some ⟨151, [.t (.leaf (.string (⟨#[112]⟩))), .nil, .acc 5 (GTrait.trs (ts)) 0, .nil, .nil, .nil]⟩, some ⟨75, [.t (.leaf (.string (([(⟨#[97]⟩), (⟨#[98]⟩), (⟨#[99]⟩), (⟨#[100]⟩), (⟨#[101]⟩)] : List ByteArray)[i]))), .acc 1 (strTrs (l ++ [(([(⟨#[97]⟩), (⟨#[98]⟩), (⟨#[99]⟩), (⟨#[100]⟩), (⟨#[101]⟩)] : List ByteArray)[k])])) 1, .t (.leaf (.bool (false))), .t (.leaf (.bool (false))), .nil]⟩], [⟨75, 5, GTrait.trs (ts), false⟩, ⟨9, 1, strTrs (l ++ [(([(⟨#[97]⟩), (⟨#[98]⟩), (⟨#[99]⟩), (⟨#[100]⟩), (⟨#[101]⟩)] : List ByteArray)[k])]), false⟩]⟩ : Sto)] : List Sto).getD j' (⟨[some ⟨206, [.t (.row 1 (byteTrs (((y.after 3).after 30).code))), .t (.leaf (.int .i64 (((((y.after 3).after 30).p : Nat) : Int)))), .t (.leaf (.int .i64 (((y.after 3).after 30).h)))]⟩, some ⟨63, [.nil]⟩, some ⟨151, [.t (.leaf (.string (⟨#[112]⟩))), .nil, .acc 5 (GTrait.trs (ts)) 0, .nil, .nil, .nil]⟩, some ⟨75, [.t (.leaf (.string (([(⟨#[97]⟩), (⟨#[98]⟩), (⟨#[99]⟩), (⟨#[100]⟩), (⟨#[101]⟩)] : List ByteArray)[i]))), .acc 1 (strTrs (l ++ [(([(⟨#[97]⟩), (⟨#[98]⟩), (⟨#[99]⟩), (⟨#[100]⟩), (⟨#[101]⟩)] : List ByteArray)[k])])) 1, .t (.leaf (.bool (false))), .t (.leaf (.bool (false))), .nil]⟩], [⟨75, 5, GTrait.trs (ts), false⟩, ⟨9, 1, strTrs (l ++ [(([(⟨#[97]⟩), (⟨#[98]⟩), (⟨#[99]⟩), (⟨#[100]⟩), (⟨#[101]⟩)] : List ByteArray)[k])]), false⟩]⟩ : Sto), fun q' => ([some (.ptr 3 1), some (.acc 1 (strTrs (l)) 1), some (.t (.row 1 (strTrs (([(⟨#[97]⟩), (⟨#[98]⟩), (⟨#[99]⟩), (⟨#[100]⟩), (⟨#[101]⟩)] : List ByteArray))))), some (.t (.leaf (.int .i64 (((k : Nat) : Int))))), some (.eptr ([.leaf (.string (([(⟨#[97]⟩), (⟨#[98]⟩), (⟨#[99]⟩), (⟨#[100]⟩), (⟨#[101]⟩)] : List ByteArray)[k]))])), some (.t (.leaf (.string (([(⟨#[97]⟩), (⟨#[98]⟩), (⟨#[99]⟩), (⟨#[100]⟩), (⟨#[101]⟩)] : List ByteArray)[k])))), some (.t (.row 1 (strTrs ([(([(⟨#[97]⟩), (⟨#[98]⟩), (⟨#[99]⟩), (⟨#[100]⟩), (⟨#[101]⟩)] : List ByteArray)[k])])))), some (.acc 1 (strTrs (l ++ [(([(⟨#[97]⟩), (⟨#[98]⟩), (⟨#[99]⟩), (⟨#[100]⟩), (⟨#[101]⟩)] : List ByteArray)[k])])) 1), some (.ptr 3 1), none] : List (Option PV)).getD q' none, fun q' => ([.q 0 0, .q 0 0, .q 0 0, .q 0 0, .q 0 0, .q 0 0, .q 0 0, .ef 0, .q 1 1, .ef 1] : List DK).getD q' (.q 0 0), [7, 9], none, fun q' => ([[(7, none)], [(40, some 0)], [(4, none)], [(8, none)], [(42, some 2), (43, some 3)], [(44, some 4)], [(45, some 5)], [(41, some 1), (46, some 6)], [(7, none)], [(48, some 8), (47, some 7)]] : List (List (Nat × Option Nat))).getD q' []⟩ rfl mixed (by kernel_rfl) rfl rfl ⟨?_, ?_, ?_, ?_, ?_, ?_, ?_, ?_, ?_, ?_, trivial⟩ rfl ?_
            · refine .inl ⟨rfl, fun s' jj bb (h1 : 0 ≤ jj) (h2 : jj ≤ 0) hs hl => ?_⟩
              obtain rfl : jj = 0 := by omega
              exact ⟨_, rfl, AOp.fieldPtr (k := 3) (d := 0) (e := 1) rfl rfl (hl 7 none _ (.head _) rfl) fo75_1⟩
            · refine .inl ⟨rfl, fun s' jj bb (h1 : 0 ≤ jj) (h2 : jj ≤ 0) hs hl => ?_⟩
              obtain rfl : jj = 0 := by omega
              exact ⟨_, rfl, AOp.loadPtr1 rfl rfl (hl 40 (some 0) _ (.head _) rfl) (by rw [hs]; rfl) sh66 rfl⟩
            · refine .inl ⟨rfl, fun s' jj bb (h1 : 0 ≤ jj) (h2 : jj ≤ 0) hs hl => ?_⟩
              obtain rfl : jj = 0 := by omega
              exact ⟨_, rfl, AOp.move (.inl rfl) rfl (hl 4 none _ (.head _) rfl)⟩
            · refine .inl ⟨rfl, fun s' jj bb (h1 : 0 ≤ jj) (h2 : jj ≤ 0) hs hl => ?_⟩
              obtain rfl : jj = 0 := by omega
              exact ⟨_, rfl, AOp.move (.inl rfl) rfl (hl 8 none _ (.head _) rfl)⟩
            · refine .inl ⟨rfl, fun s' jj bb (h1 : 0 ≤ jj) (h2 : jj ≤ 0) hs hl => ?_⟩
              obtain rfl : jj = 0 := by omega
              exact ⟨_, rfl, AOp.index (k := k) rfl rfl (hl 42 (some 2) _ (.head _) rfl) rfl (hl 43 (some 3) _ (.tail _ (.head _)) rfl) (strTrs_cs hn11) el66⟩
            · refine .inl ⟨rfl, fun s' jj bb (h1 : 0 ≤ jj) (h2 : jj ≤ 0) hs hl => ?_⟩
              obtain rfl : jj = 0 := by omega
              exact ⟨_, rfl, AOp.loadEptr1 (d := .leaf (.string (([(⟨#[97]⟩), (⟨#[98]⟩), (⟨#[99]⟩), (⟨#[100]⟩), (⟨#[101]⟩)] : List ByteArray)[k]))) rfl rfl (hl 44 (some 4) _ (.head _) rfl) sh9 rfl⟩
            · refine .inl ⟨rfl, fun s' jj bb (h1 : 0 ≤ jj) (h2 : jj ≤ 0) hs hl => ?_⟩
              obtain rfl : jj = 0 := by omega
              exact ⟨_, rfl, AOp.buildSliceQ (es := strTrs ([(([(⟨#[97]⟩), (⟨#[98]⟩), (⟨#[99]⟩), (⟨#[100]⟩), (⟨#[101]⟩)] : List ByteArray)[k])])) (cs := [.t (.leaf (.string (([(⟨#[97]⟩), (⟨#[98]⟩), (⟨#[99]⟩), (⟨#[100]⟩), (⟨#[101]⟩)] : List ByteArray)[k])))]) rfl rfl el66 zr9 (parts_cons (hl 45 (some 5) _ (.head _) rfl) rfl rfl rfl) rfl (by (repeat' (first | exact PV.Le.refl _ | exact LeL.nil | exact PV.Le.nil _ | exact PV.Le.acc _ _ _ | apply LeL.cons | apply PV.Le.agg | apply PV.Le.tup))) rfl (by simp [strTrs]) (by decide) rfl (by decide)⟩
            · refine .inl ⟨rfl, fun s' bb hs hl => ?_⟩
              refine .inl ⟨_, rfl, AOp.congr (AOp.appendE (es3 := strTrs (l ++ [(([(⟨#[97]⟩), (⟨#[98]⟩), (⟨#[99]⟩), (⟨#[100]⟩), (⟨#[101]⟩)] : List ByteArray)[k])])) rfl rfl (hl 41 (some 1) _ (.head _) rfl) (by rw [hs]; rfl) rfl rfl rfl (hl 46 (some 6) _ (.tail _ (.head _)) rfl) rfl (strTrs_all _) el66 ze66 (by decide) (by simp [strTrs_len, GTrait.trs_len]; omega) (strTrs_append _ _)) ?_⟩
              first | (rw [hs]; rfl) | rfl
            · refine .inl ⟨rfl, fun s' jj bb (h1 : 1 ≤ jj) (h2 : jj ≤ 1) hs hl => ?_⟩
              obtain rfl : jj = 1 := by omega
              exact ⟨_, rfl, AOp.fieldPtr (k := 3) (d := 0) (e := 1) rfl rfl (hl 7 none _ (.head _) rfl) fo75_1⟩
            · refine .inl ⟨rfl, fun s' bb hs hl => ?_⟩
              refine .inr ⟨rfl, AOp.congr (AOp.storePtr (cs := [.acc 1 (strTrs (l ++ [(([(⟨#[97]⟩), (⟨#[98]⟩), (⟨#[99]⟩), (⟨#[100]⟩), (⟨#[101]⟩)] : List ByteArray)[k])])) 1]) (ds := [.t (.leaf (.string (([(⟨#[97]⟩), (⟨#[98]⟩), (⟨#[99]⟩), (⟨#[100]⟩), (⟨#[101]⟩)] : List ByteArray)[i]))), .acc 1 (strTrs (l ++ [(([(⟨#[97]⟩), (⟨#[98]⟩), (⟨#[99]⟩), (⟨#[100]⟩), (⟨#[101]⟩)] : List ByteArray)[k])])) 1, .t (.leaf (.bool (false))), .t (.leaf (.bool (false))), .nil]) rfl (hl 48 (some 8) _ (.head _) rfl) (by rw [hs]; rfl) (hl 47 (some 7) _ (.tail _ (.head _)) rfl) rfl rfl rfl sz66 (Nat.le_of_ble_eq_true rfl) rfl) ?_⟩
              first | (rw [hs]; rfl) | rfl
            refine AWP.region_lit ?_
            refine AL.cons rfl (AOp.move (.inl rfl) rfl rfl) ?_
            refine AL.cons rfl (AOp.addI rfl rfl rfl rfl (c := ((k + 1 : Nat) : Int)) (by omega) (by omega)) ?_
            refine AL.cons rfl (AOp.move (.inr rfl) rfl rfl) ?_
            refine AL.nil ?_
            refine ⟨(k + 1, (y.after 3).after 30, l ++ [(([(⟨#[97]⟩), (⟨#[98]⟩), (⟨#[99]⟩), (⟨#[100]⟩), (⟨#[101]⟩)] : List ByteArray)[k])]), ?_, ?_, ?_⟩
            · exact ⟨by omega, by first | omega | (simp; omega), range_next (by omega) hk3 (by first | exact supStep_a (by assumption) (by omega) (by omega) | exact supStep_b (by assumption) (by omega) (by omega) (by omega) | exact supStep_c (by omega) (by omega) (by omega) | exact supStep_d (by assumption) (by omega) (by omega) | exact supStep_e (by omega) (by omega))⟩
            · skip
              exact Wk.mk (StLe.mk' ⟨⟨rfl, by (repeat' (first | exact PV.Le.refl _ | exact LeL.nil | exact PV.Le.nil _ | exact PV.Le.acc _ _ _ | apply LeL.cons | apply PV.Le.agg | apply PV.Le.tup)), rfl⟩, ⟨⟨rfl, by (repeat' (first | exact PV.Le.refl _ | exact LeL.nil | exact PV.Le.nil _ | exact PV.Le.acc _ _ _ | apply LeL.cons | apply PV.Le.agg | apply PV.Le.tup)), rfl⟩, ⟨⟨rfl, by (repeat' (first | exact PV.Le.refl _ | exact LeL.nil | exact PV.Le.nil _ | exact PV.Le.acc _ _ _ | apply LeL.cons | apply PV.Le.agg | apply PV.Le.tup)), rfl⟩, ⟨⟨rfl, by (repeat' (first | exact PV.Le.refl _ | exact LeL.nil | exact PV.Le.nil _ | exact PV.Le.acc _ _ _ | apply LeL.cons | apply PV.Le.agg | apply PV.Le.tup)), rfl⟩, trivial⟩⟩⟩⟩ (by first | rfl | simp)) (keeps_box hC ⟨_, rfl⟩) ⟨⟨_, rfl, .refl _, rfl⟩, ⟨⟨_, rfl, .refl _, rfl⟩, ⟨⟨_, rfl, .refl _, rfl⟩, ⟨⟨_, rfl, .refl _, rfl⟩, ⟨⟨_, rfl, .refl _, rfl⟩, ⟨⟨_, rfl, .refl _, rfl⟩, ⟨⟨_, rfl, .refl _, rfl⟩, ⟨⟨_, rfl, by (repeat' (first | exact PV.Le.refl _ | exact LeL.nil | exact PV.Le.nil _ | exact PV.Le.acc _ _ _ | apply LeL.cons | apply PV.Le.agg | apply PV.Le.tup)), rfl⟩, trivial⟩⟩⟩⟩⟩⟩⟩⟩
            · dsimp only; omega
          · skip
            have h10b := h10
            try simp only [Bool.and_eq_true, Bool.or_eq_true, Bool.and_eq_false_iff, Bool.or_eq_false_iff, decide_eq_true_eq, decide_eq_false_iff_not, Bool.not_eq_true', Bool.not_eq_false', Bool.not_eq_eq_eq_not, Bool.not_true, Bool.not_false, ge_iff_le, gt_iff_lt, Int.not_lt, Int.not_le] at h10b
            refine AWP.skip ?_
            refine AWP.region_lit ?_
            refine AL.cons rfl (AOp.move (.inl rfl) rfl rfl) ?_
            refine AL.cons rfl (AOp.addI rfl rfl rfl rfl (c := ((k + 1 : Nat) : Int)) (by omega) (by omega)) ?_
            refine AL.cons rfl (AOp.move (.inr rfl) rfl rfl) ?_
            refine AL.nil ?_
            refine ⟨(k + 1, (y.after 3).after 30, l), ?_, ?_, ?_⟩
            · exact ⟨by omega, by first | omega | (simp; omega), range_next (by omega) hk3 (by first | exact supStep_a (by assumption) (by omega) (by omega) | exact supStep_b (by assumption) (by omega) (by omega) (by omega) | exact supStep_c (by omega) (by omega) (by omega) | exact supStep_d (by assumption) (by omega) (by omega) | exact supStep_e (by omega) (by omega))⟩
            · skip
              exact Wk.mk (StLe.mk' ⟨⟨rfl, by (repeat' (first | exact PV.Le.refl _ | exact LeL.nil | exact PV.Le.nil _ | exact PV.Le.acc _ _ _ | apply LeL.cons | apply PV.Le.agg | apply PV.Le.tup)), rfl⟩, ⟨⟨rfl, by (repeat' (first | exact PV.Le.refl _ | exact LeL.nil | exact PV.Le.nil _ | exact PV.Le.acc _ _ _ | apply LeL.cons | apply PV.Le.agg | apply PV.Le.tup)), rfl⟩, ⟨⟨rfl, by (repeat' (first | exact PV.Le.refl _ | exact LeL.nil | exact PV.Le.nil _ | exact PV.Le.acc _ _ _ | apply LeL.cons | apply PV.Le.agg | apply PV.Le.tup)), rfl⟩, ⟨⟨rfl, by (repeat' (first | exact PV.Le.refl _ | exact LeL.nil | exact PV.Le.nil _ | exact PV.Le.acc _ _ _ | apply LeL.cons | apply PV.Le.agg | apply PV.Le.tup)), rfl⟩, trivial⟩⟩⟩⟩ (by first | rfl | simp)) (keeps_box hC ⟨_, rfl⟩) ⟨⟨_, rfl, .refl _, rfl⟩, ⟨⟨_, rfl, .refl _, rfl⟩, ⟨⟨_, rfl, .refl _, rfl⟩, ⟨⟨_, rfl, .refl _, rfl⟩, ⟨⟨_, rfl, .refl _, rfl⟩, ⟨⟨_, rfl, .refl _, rfl⟩, ⟨⟨_, rfl, .refl _, rfl⟩, ⟨⟨_, rfl, by (repeat' (first | exact PV.Le.refl _ | exact LeL.nil | exact PV.Le.nil _ | exact PV.Le.acc _ _ _ | apply LeL.cons | apply PV.Le.agg | apply PV.Le.tup)), rfl⟩, trivial⟩⟩⟩⟩⟩⟩⟩⟩
            · dsimp only; omega
      · skip
        have g6b := g6
        try simp only [Bool.and_eq_true, Bool.or_eq_true, Bool.and_eq_false_iff, Bool.or_eq_false_iff, decide_eq_true_eq, decide_eq_false_iff_not, Bool.not_eq_true', Bool.not_eq_false', Bool.not_eq_eq_eq_not, Bool.not_true, Bool.not_false, ge_iff_le, gt_iff_lt, Int.not_lt, Int.not_le] at g6b
        refine AL.skip_v rfl rfl rfl g6 rfl ?_
        refine AL.skip_v rfl rfl rfl g6 rfl ?_
        refine AL.cons rfl (AOp.pickF rfl rfl rfl g6 rfl) ?_
        refine AL.cons rfl (AOp.move (.inl rfl) rfl rfl) ?_
        refine AL.cons_gv rfl rfl rfl rfl (AOp.move (.inl rfl) rfl rfl) ?_
        refine AL.cons_gv rfl rfl rfl rfl (AOp.callPE (pre := ⟨[some ⟨206, [.t (.row 1 (byteTrs (y.code))), .t (.leaf (.int .i64 (((y.p : Nat) : Int)))), .t (.leaf (.int .i64 (y.h)))]⟩], []⟩) (st' := ⟨[some ⟨206, [.t (.row 1 (byteTrs ((y.after 30).code))), .t (.leaf (.int .i64 ((((y.after 30).p : Nat) : Int)))), .t (.leaf (.int .i64 ((y.after 30).h)))]⟩], []⟩) (ps := [_, _]) (qs := [.ptr 0 0, .t (.leaf (.int .i64 (((30 : Nat) : Int))))]) [0] [] rfl rfl Try.func124 (by kernel_rfl) rfl rfl rfl (by (try rw [hs]); exact ⟨rfl, rfl, by decide, by decide, fun k h => by rcases k with _ | k <;> simp at h; exact ⟨_, rfl⟩, fun k x h => by rcases k with _ | k <;> simp at h; subst h; exact ⟨_, rfl, rfl, by (repeat' (first | exact PV.Le.refl _ | exact LeL.nil | exact PV.Le.nil _ | exact PV.Le.acc _ _ _ | apply LeL.cons | apply PV.Le.agg | apply PV.Le.tup)), rfl⟩, fun r row h => by simp at h⟩) (by (repeat' (first | exact PV.Le.refl _ | exact LeL.nil | exact PV.Le.nil _ | exact PV.Le.acc _ _ _ | apply LeL.cons | apply PV.Le.agg | apply PV.Le.tup))) rfl rfl rfl (once_ok y 30)) ?_
        refine AL.cons rfl (AOp.pickF rfl rfl rfl rfl rfl) ?_
        refine AL.nil ?_
        refine AWP.cond rfl (fun h12 => ?_) (fun h12 => ?_)
        · skip
          have h12b := h12
          try simp only [Bool.and_eq_true, Bool.or_eq_true, Bool.and_eq_false_iff, Bool.or_eq_false_iff, decide_eq_true_eq, decide_eq_false_iff_not, Bool.not_eq_true', Bool.not_eq_false', Bool.not_eq_eq_eq_not, Bool.not_true, Bool.not_false, ge_iff_le, gt_iff_lt, Int.not_lt, Int.not_le] at h12b
          have hn13 : k < List.length ([(⟨#[97]⟩), (⟨#[98]⟩), (⟨#[99]⟩), (⟨#[100]⟩), (⟨#[101]⟩)] : List ByteArray) := by first | omega | (simp; omega) | (simp [*]; omega)
          refine AWP.drawnL ⟨_, _, fun j' _ => ([(⟨[some ⟨206, [.t (.row 1 (byteTrs ((y.after 30).code))), .t (.leaf (.int .i64 ((((y.after 30).p : Nat) : Int)))), .t (.leaf (.int .i64 ((y.after 30).h)))]⟩, some ⟨63, [.nil]⟩, some ⟨151, [.t (.leaf (.string (⟨#[112]⟩))), .nil, .acc 5 (GTrait.trs (ts)) 0, .nil, .nil, .nil]⟩, some ⟨75, [.t (.leaf (.string (([(⟨#[97]⟩), (⟨#[98]⟩), (⟨#[99]⟩), (⟨#[100]⟩), (⟨#[101]⟩)] : List ByteArray)[i]))), .acc 1 (strTrs (l)) 1, .t (.leaf (.bool (false))), .t (.leaf (.bool (false))), .nil]⟩], [⟨75, 5, GTrait.trs (ts), false⟩, ⟨9, 1, strTrs (l), false⟩]⟩ : Sto), (⟨[some ⟨206, [.t (.row 1 (byteTrs ((y.after 30).code))), .t (.leaf (.int .i64 ((((y.after 30).p : Nat) : Int)))), .t (.leaf (.int .i64 ((y.after 30).h)))]⟩, some ⟨63, [.nil]⟩, some ⟨151, [.t (.leaf (.string (⟨#[112]⟩))), .nil, .acc 5 (GTrait.trs (ts)) 0, .nil, .nil, .nil]⟩, some ⟨75, [.t (.leaf (.string (([(⟨#[97]⟩), (⟨#[98]⟩), (⟨#[99]⟩), (⟨#[100]⟩), (⟨#[101]⟩)] : List ByteArray)[i]))), .acc 1 (strTrs (l)) 1, .t (.leaf (.bool (false))), .t (.leaf (.bool (false))), .nil]⟩], [⟨75, 5, GTrait.trs (ts), false⟩, ⟨9, 1, strTrs (l ++ [(([(⟨#[97]⟩), (⟨#[98]⟩), (⟨#[99]⟩), (⟨#[100]⟩), (⟨#[101]⟩)] : List ByteArray)[k])]), false⟩]⟩ : Sto), (⟨[some ⟨206, [.t (.row 1 (byteTrs ((y.after 30).code))), .t (.leaf (.int .i64 ((((y.after 30).p : Nat) : Int)))), .t (.leaf (.int .i64 ((y.after 30).h)))]⟩, some ⟨63, [.nil]⟩, some ⟨151, [.t (.leaf (.string (⟨#[112]⟩))), .nil, .acc 5 (GTrait.trs (ts)) 0, .nil, .nil, .nil]⟩, some ⟨75, [.t (.leaf (.string (([(⟨#[97]⟩), (⟨#[98]⟩), (⟨#[99]⟩), (⟨#[100]⟩), (⟨#[101]⟩)] : List ByteArray)[i]))), .acc 1 (strTrs (l ++ [(([(⟨#[97]⟩), (⟨#[98]⟩), (⟨#[99]⟩), (⟨#[100]⟩), (⟨#[101]⟩)] : List ByteArray)[k])])) 1, .t (.leaf (.bool (false))), .t (.leaf (.bool (false))), .nil]⟩], [⟨75, 5, GTrait.trs (ts), false⟩, ⟨9, 1, strTrs (l ++ [(([(⟨#[97]⟩), (⟨#[98]⟩), (⟨#[99]⟩), (⟨#[100]⟩), (⟨#[101]⟩)] : List ByteArray)[k])]), false⟩]⟩ : Sto)] : List Sto).getD j' (⟨[some ⟨206, [.t (.row 1 (byteTrs ((y.after 30).code))), .t (.leaf (.int .i64 ((((y.after 30).p : Nat) : Int)))), .t (.leaf (.int .i64 ((y.after 30).h)))]⟩, some ⟨63, [.nil]⟩, some ⟨151, [.t (.leaf (.string (⟨#[112]⟩))), .nil, .acc 5 (GTrait.trs (ts)) 0, .nil, .nil, .nil]⟩, some ⟨75, [.t (.leaf (.string (([(⟨#[97]⟩), (⟨#[98]⟩), (⟨#[99]⟩), (⟨#[100]⟩), (⟨#[101]⟩)] : List ByteArray)[i]))), .acc 1 (strTrs (l ++ [(([(⟨#[97]⟩), (⟨#[98]⟩), (⟨#[99]⟩), (⟨#[100]⟩), (⟨#[101]⟩)] : List ByteArray)[k])])) 1, .t (.leaf (.bool (false))), .t (.leaf (.bool (false))), .nil]⟩], [⟨75, 5, GTrait.trs (ts), false⟩, ⟨9, 1, strTrs (l ++ [(([(⟨#[97]⟩), (⟨#[98]⟩), (⟨#[99]⟩), (⟨#[100]⟩), (⟨#[101]⟩)] : List ByteArray)[k])]), false⟩]⟩ : Sto), fun q' => ([some (.ptr 3 1), some (.acc 1 (strTrs (l)) 1), some (.t (.row 1 (strTrs (([(⟨#[97]⟩), (⟨#[98]⟩), (⟨#[99]⟩), (⟨#[100]⟩), (⟨#[101]⟩)] : List ByteArray))))), some (.t (.leaf (.int .i64 (((k : Nat) : Int))))), some (.eptr ([.leaf (.string (([(⟨#[97]⟩), (⟨#[98]⟩), (⟨#[99]⟩), (⟨#[100]⟩), (⟨#[101]⟩)] : List ByteArray)[k]))])), some (.t (.leaf (.string (([(⟨#[97]⟩), (⟨#[98]⟩), (⟨#[99]⟩), (⟨#[100]⟩), (⟨#[101]⟩)] : List ByteArray)[k])))), some (.t (.row 1 (strTrs ([(([(⟨#[97]⟩), (⟨#[98]⟩), (⟨#[99]⟩), (⟨#[100]⟩), (⟨#[101]⟩)] : List ByteArray)[k])])))), some (.acc 1 (strTrs (l ++ [(([(⟨#[97]⟩), (⟨#[98]⟩), (⟨#[99]⟩), (⟨#[100]⟩), (⟨#[101]⟩)] : List ByteArray)[k])])) 1), some (.ptr 3 1), none] : List (Option PV)).getD q' none, fun q' => ([.q 0 0, .q 0 0, .q 0 0, .q 0 0, .q 0 0, .q 0 0, .q 0 0, .ef 0, .q 1 1, .ef 1] : List DK).getD q' (.q 0 0), [7, 9], none, fun q' => ([[(7, none)], [(40, some 0)], [(4, none)], [(8, none)], [(42, some 2), (43, some 3)], [(44, some 4)], [(45, some 5)], [(41, some 1), (46, some 6)], [(7, none)], [(48, some 8), (47, some 7)]] : List (List (Nat × Option Nat))).getD q' []⟩ rfl mixed (by kernel_rfl) rfl rfl ⟨?_, ?_, ?_, ?_, ?_, ?_, ?_, ?_, ?_, ?_, trivial⟩ rfl ?_
          · refine .inl ⟨rfl, fun s' jj bb (h1 : 0 ≤ jj) (h2 : jj ≤ 0) hs hl => ?_⟩
            obtain rfl : jj = 0 := by omega
            exact ⟨_, rfl, AOp.fieldPtr (k := 3) (d := 0) (e := 1) rfl rfl (hl 7 none _ (.head _) rfl) fo75_1⟩
          · refine .inl ⟨rfl, fun s' jj bb (h1 : 0 ≤ jj) (h2 : jj ≤ 0) hs hl => ?_⟩
            obtain rfl : jj = 0 := by omega
            exact ⟨_, rfl, AOp.loadPtr1 rfl rfl (hl 40 (some 0) _ (.head _) rfl) (by rw [hs]; rfl) sh66 rfl⟩
          · refine .inl ⟨rfl, fun s' jj bb (h1 : 0 ≤ jj) (h2 : jj ≤ 0) hs hl => ?_⟩
            obtain rfl : jj = 0 := by omega
            exact ⟨_, rfl, AOp.move (.inl rfl) rfl (hl 4 none _ (.head _) rfl)⟩
          · refine .inl ⟨rfl, fun s' jj bb (h1 : 0 ≤ jj) (h2 : jj ≤ 0) hs hl => ?_⟩
            obtain rfl : jj = 0 := by omega
            exact ⟨_, rfl, AOp.move (.inl rfl) rfl (hl 8 none _ (.head _) rfl)⟩
          · refine .inl ⟨rfl, fun s' jj bb (h1 : 0 ≤ jj) (h2 : jj ≤ 0) hs hl => ?_⟩
            obtain rfl : jj = 0 := by omega
            exact ⟨_, rfl, AOp.index (k := k) rfl rfl (hl 42 (some 2) _ (.head _) rfl) rfl (hl 43 (some 3) _ (.tail _ (.head _)) rfl) (strTrs_cs hn13) el66⟩
          · refine .inl ⟨rfl, fun s' jj bb (h1 : 0 ≤ jj) (h2 : jj ≤ 0) hs hl => ?_⟩
            obtain rfl : jj = 0 := by omega
            exact ⟨_, rfl, AOp.loadEptr1 (d := .leaf (.string (([(⟨#[97]⟩), (⟨#[98]⟩), (⟨#[99]⟩), (⟨#[100]⟩), (⟨#[101]⟩)] : List ByteArray)[k]))) rfl rfl (hl 44 (some 4) _ (.head _) rfl) sh9 rfl⟩
          · refine .inl ⟨rfl, fun s' jj bb (h1 : 0 ≤ jj) (h2 : jj ≤ 0) hs hl => ?_⟩
            obtain rfl : jj = 0 := by omega
            exact ⟨_, rfl, AOp.buildSliceQ (es := strTrs ([(([(⟨#[97]⟩), (⟨#[98]⟩), (⟨#[99]⟩), (⟨#[100]⟩), (⟨#[101]⟩)] : List ByteArray)[k])])) (cs := [.t (.leaf (.string (([(⟨#[97]⟩), (⟨#[98]⟩), (⟨#[99]⟩), (⟨#[100]⟩), (⟨#[101]⟩)] : List ByteArray)[k])))]) rfl rfl el66 zr9 (parts_cons (hl 45 (some 5) _ (.head _) rfl) rfl rfl rfl) rfl (by (repeat' (first | exact PV.Le.refl _ | exact LeL.nil | exact PV.Le.nil _ | exact PV.Le.acc _ _ _ | apply LeL.cons | apply PV.Le.agg | apply PV.Le.tup))) rfl (by simp [strTrs]) (by decide) rfl (by decide)⟩
          · refine .inl ⟨rfl, fun s' bb hs hl => ?_⟩
            refine .inl ⟨_, rfl, AOp.congr (AOp.appendE (es3 := strTrs (l ++ [(([(⟨#[97]⟩), (⟨#[98]⟩), (⟨#[99]⟩), (⟨#[100]⟩), (⟨#[101]⟩)] : List ByteArray)[k])])) rfl rfl (hl 41 (some 1) _ (.head _) rfl) (by rw [hs]; rfl) rfl rfl rfl (hl 46 (some 6) _ (.tail _ (.head _)) rfl) rfl (strTrs_all _) el66 ze66 (by decide) (by simp [strTrs_len, GTrait.trs_len]; omega) (strTrs_append _ _)) ?_⟩
            first | (rw [hs]; rfl) | rfl
          · refine .inl ⟨rfl, fun s' jj bb (h1 : 1 ≤ jj) (h2 : jj ≤ 1) hs hl => ?_⟩
            obtain rfl : jj = 1 := by omega
            exact ⟨_, rfl, AOp.fieldPtr (k := 3) (d := 0) (e := 1) rfl rfl (hl 7 none _ (.head _) rfl) fo75_1⟩
          · refine .inl ⟨rfl, fun s' bb hs hl => ?_⟩
            refine .inr ⟨rfl, AOp.congr (AOp.storePtr (cs := [.acc 1 (strTrs (l ++ [(([(⟨#[97]⟩), (⟨#[98]⟩), (⟨#[99]⟩), (⟨#[100]⟩), (⟨#[101]⟩)] : List ByteArray)[k])])) 1]) (ds := [.t (.leaf (.string (([(⟨#[97]⟩), (⟨#[98]⟩), (⟨#[99]⟩), (⟨#[100]⟩), (⟨#[101]⟩)] : List ByteArray)[i]))), .acc 1 (strTrs (l ++ [(([(⟨#[97]⟩), (⟨#[98]⟩), (⟨#[99]⟩), (⟨#[100]⟩), (⟨#[101]⟩)] : List ByteArray)[k])])) 1, .t (.leaf (.bool (false))), .t (.leaf (.bool (false))), .nil]) rfl (hl 48 (some 8) _ (.head _) rfl) (by rw [hs]; rfl) (hl 47 (some 7) _ (.tail _ (.head _)) rfl) rfl rfl rfl sz66 (Nat.le_of_ble_eq_true rfl) rfl) ?_⟩
            first | (rw [hs]; rfl) | rfl
          refine AWP.region_lit ?_
          refine AL.cons rfl (AOp.move (.inl rfl) rfl rfl) ?_
          refine AL.cons rfl (AOp.addI rfl rfl rfl rfl (c := ((k + 1 : Nat) : Int)) (by omega) (by omega)) ?_
          refine AL.cons rfl (AOp.move (.inr rfl) rfl rfl) ?_
          refine AL.nil ?_
          refine ⟨(k + 1, y.after 30, l ++ [(([(⟨#[97]⟩), (⟨#[98]⟩), (⟨#[99]⟩), (⟨#[100]⟩), (⟨#[101]⟩)] : List ByteArray)[k])]), ?_, ?_, ?_⟩
          · exact ⟨by omega, by first | omega | (simp; omega), range_next (by omega) hk3 (by first | exact supStep_a (by assumption) (by omega) (by omega) | exact supStep_b (by assumption) (by omega) (by omega) (by omega) | exact supStep_c (by omega) (by omega) (by omega) | exact supStep_d (by assumption) (by omega) (by omega) | exact supStep_e (by omega) (by omega))⟩
          · skip
            exact Wk.mk (StLe.mk' ⟨⟨rfl, by (repeat' (first | exact PV.Le.refl _ | exact LeL.nil | exact PV.Le.nil _ | exact PV.Le.acc _ _ _ | apply LeL.cons | apply PV.Le.agg | apply PV.Le.tup)), rfl⟩, ⟨⟨rfl, by (repeat' (first | exact PV.Le.refl _ | exact LeL.nil | exact PV.Le.nil _ | exact PV.Le.acc _ _ _ | apply LeL.cons | apply PV.Le.agg | apply PV.Le.tup)), rfl⟩, ⟨⟨rfl, by (repeat' (first | exact PV.Le.refl _ | exact LeL.nil | exact PV.Le.nil _ | exact PV.Le.acc _ _ _ | apply LeL.cons | apply PV.Le.agg | apply PV.Le.tup)), rfl⟩, ⟨⟨rfl, by (repeat' (first | exact PV.Le.refl _ | exact LeL.nil | exact PV.Le.nil _ | exact PV.Le.acc _ _ _ | apply LeL.cons | apply PV.Le.agg | apply PV.Le.tup)), rfl⟩, trivial⟩⟩⟩⟩ (by first | rfl | simp)) (keeps_box hC ⟨_, rfl⟩) ⟨⟨_, rfl, .refl _, rfl⟩, ⟨⟨_, rfl, .refl _, rfl⟩, ⟨⟨_, rfl, .refl _, rfl⟩, ⟨⟨_, rfl, .refl _, rfl⟩, ⟨⟨_, rfl, .refl _, rfl⟩, ⟨⟨_, rfl, .refl _, rfl⟩, ⟨⟨_, rfl, .refl _, rfl⟩, ⟨⟨_, rfl, by (repeat' (first | exact PV.Le.refl _ | exact LeL.nil | exact PV.Le.nil _ | exact PV.Le.acc _ _ _ | apply LeL.cons | apply PV.Le.agg | apply PV.Le.tup)), rfl⟩, trivial⟩⟩⟩⟩⟩⟩⟩⟩
          · dsimp only; omega
        · skip
          have h12b := h12
          try simp only [Bool.and_eq_true, Bool.or_eq_true, Bool.and_eq_false_iff, Bool.or_eq_false_iff, decide_eq_true_eq, decide_eq_false_iff_not, Bool.not_eq_true', Bool.not_eq_false', Bool.not_eq_eq_eq_not, Bool.not_true, Bool.not_false, ge_iff_le, gt_iff_lt, Int.not_lt, Int.not_le] at h12b
          refine AWP.skip ?_
          refine AWP.region_lit ?_
          refine AL.cons rfl (AOp.move (.inl rfl) rfl rfl) ?_
          refine AL.cons rfl (AOp.addI rfl rfl rfl rfl (c := ((k + 1 : Nat) : Int)) (by omega) (by omega)) ?_
          refine AL.cons rfl (AOp.move (.inr rfl) rfl rfl) ?_
          refine AL.nil ?_
          refine ⟨(k + 1, y.after 30, l), ?_, ?_, ?_⟩
          · exact ⟨by omega, by first | omega | (simp; omega), range_next (by omega) hk3 (by first | exact supStep_a (by assumption) (by omega) (by omega) | exact supStep_b (by assumption) (by omega) (by omega) (by omega) | exact supStep_c (by omega) (by omega) (by omega) | exact supStep_d (by assumption) (by omega) (by omega) | exact supStep_e (by omega) (by omega))⟩
          · skip
            exact Wk.mk (StLe.mk' ⟨⟨rfl, by (repeat' (first | exact PV.Le.refl _ | exact LeL.nil | exact PV.Le.nil _ | exact PV.Le.acc _ _ _ | apply LeL.cons | apply PV.Le.agg | apply PV.Le.tup)), rfl⟩, ⟨⟨rfl, by (repeat' (first | exact PV.Le.refl _ | exact LeL.nil | exact PV.Le.nil _ | exact PV.Le.acc _ _ _ | apply LeL.cons | apply PV.Le.agg | apply PV.Le.tup)), rfl⟩, ⟨⟨rfl, by (repeat' (first | exact PV.Le.refl _ | exact LeL.nil | exact PV.Le.nil _ | exact PV.Le.acc _ _ _ | apply LeL.cons | apply PV.Le.agg | apply PV.Le.tup)), rfl⟩, ⟨⟨rfl, by (repeat' (first | exact PV.Le.refl _ | exact LeL.nil | exact PV.Le.nil _ | exact PV.Le.acc _ _ _ | apply LeL.cons | apply PV.Le.agg | apply PV.Le.tup)), rfl⟩, trivial⟩⟩⟩⟩ (by first | rfl | simp)) (keeps_box hC ⟨_, rfl⟩) ⟨⟨_, rfl, .refl _, rfl⟩, ⟨⟨_, rfl, .refl _, rfl⟩, ⟨⟨_, rfl, .refl _, rfl⟩, ⟨⟨_, rfl, .refl _, rfl⟩, ⟨⟨_, rfl, .refl _, rfl⟩, ⟨⟨_, rfl, .refl _, rfl⟩, ⟨⟨_, rfl, .refl _, rfl⟩, ⟨⟨_, rfl, by (repeat' (first | exact PV.Le.refl _ | exact LeL.nil | exact PV.Le.nil _ | exact PV.Le.acc _ _ _ | apply LeL.cons | apply PV.Le.agg | apply PV.Le.tup)), rfl⟩, trivial⟩⟩⟩⟩⟩⟩⟩⟩
          · dsimp only; omega
    · skip
      have h5b := h5
      try simp only [Bool.and_eq_true, Bool.or_eq_true, Bool.and_eq_false_iff, Bool.or_eq_false_iff, decide_eq_true_eq, decide_eq_false_iff_not, Bool.not_eq_true', Bool.not_eq_false', Bool.not_eq_eq_eq_not, Bool.not_true, Bool.not_false, ge_iff_le, gt_iff_lt, Int.not_lt, Int.not_le] at h5b
      refine AWP.exit ?_
      refine AWP.region_lit ?_
      refine AL.cons rfl (AOp.fieldPtr (k := 2) (d := 0) (e := 2) rfl rfl rfl fo151_2) ?_
      refine AL.cons rfl (AOp.loadPtr1 rfl rfl rfl rfl sh146 rfl) ?_
      refine AL.cons rfl (AOp.loadPtr (cs := [.t (.leaf (.string (([(⟨#[97]⟩), (⟨#[98]⟩), (⟨#[99]⟩), (⟨#[100]⟩), (⟨#[101]⟩)] : List ByteArray)[i]))), .acc 1 (strTrs (l)) 1, .t (.leaf (.bool (false))), .t (.leaf (.bool (false))), .nil]) rfl rfl rfl rfl sh75 rfl rfl) ?_
      refine AL.cons rfl (AOp.buildSliceQ (es := GTrait.trs ([(GTrait.mk (([(⟨#[97]⟩), (⟨#[98]⟩), (⟨#[99]⟩), (⟨#[100]⟩), (⟨#[101]⟩)] : List ByteArray)[i]) l false false [])])) (cs := [.t (.leaf (.string (([(⟨#[97]⟩), (⟨#[98]⟩), (⟨#[99]⟩), (⟨#[100]⟩), (⟨#[101]⟩)] : List ByteArray)[i]))), .acc 1 (strTrs (l)) 1, .t (.leaf (.bool (false))), .t (.leaf (.bool (false))), .nil]) rfl rfl el146 zr75 rfl rfl (by (repeat' (first | exact PV.Le.refl _ | exact LeL.nil | exact PV.Le.nil _ | exact PV.Le.acc _ _ _ | apply LeL.cons | apply PV.Le.agg | apply PV.Le.tup))) rfl (by simp [GTrait.trs_map, GTrait.tr_cs, GTrait.cs]) (by decide) rfl (by decide)) ?_
      refine AL.cons rfl (AOp.appendE (es3 := GTrait.trs (ts ++ [(GTrait.mk (([(⟨#[97]⟩), (⟨#[98]⟩), (⟨#[99]⟩), (⟨#[100]⟩), (⟨#[101]⟩)] : List ByteArray)[i]) l false false [])])) rfl rfl rfl rfl rfl rfl rfl rfl rfl (fun e he => by rw [GTrait.trs_map] at he; obtain ⟨x, _, rfl⟩ := List.mem_map.1 he; rw [GTrait.tr_cs]; rfl) el146 ze146 (by decide) (by simp [strTrs_len, GTrait.trs_len]; omega) (by rw [GTrait.trs_map, GTrait.trs_map, GTrait.trs_map, List.map_append])) ?_
      refine AL.cons rfl (AOp.fieldPtr (k := 2) (d := 0) (e := 2) rfl rfl rfl fo151_2) ?_
      refine AL.cons rfl (AOp.storePtr (cs := [.acc 5 (GTrait.trs (ts ++ [(GTrait.mk (([(⟨#[97]⟩), (⟨#[98]⟩), (⟨#[99]⟩), (⟨#[100]⟩), (⟨#[101]⟩)] : List ByteArray)[i]) l false false [])])) 0]) (ds := [.t (.leaf (.string (⟨#[112]⟩))), .nil, .acc 5 (GTrait.trs (ts ++ [(GTrait.mk (([(⟨#[97]⟩), (⟨#[98]⟩), (⟨#[99]⟩), (⟨#[100]⟩), (⟨#[101]⟩)] : List ByteArray)[i]) l false false [])])) 0, .nil, .nil, .nil]) rfl rfl rfl rfl rfl rfl rfl sz146 (Nat.le_of_ble_eq_true rfl) rfl) ?_
      refine AL.nil ?_
      refine AWP.region_lit ?_
      refine AL.cons rfl (AOp.move (.inl rfl) rfl rfl) ?_
      refine AL.cons rfl (AOp.addI rfl rfl rfl rfl (c := ((i + 1 : Nat) : Int)) (by omega) (by omega)) ?_
      refine AL.cons rfl (AOp.move (.inr rfl) rfl rfl) ?_
      refine AL.nil ?_
      refine ⟨(i + 1, y, ts ++ [(GTrait.mk (([(⟨#[97]⟩), (⟨#[98]⟩), (⟨#[99]⟩), (⟨#[100]⟩), (⟨#[101]⟩)] : List ByteArray)[i]) l false false [])]), ?_, ?_, ?_⟩
      · exact ⟨by omega, by simp; omega, range_next (by omega) hi3 (traitStep_eq (by assumption) (range_end (by omega) hk3))⟩
      · skip
        exact Wk.mk (StLe.mk' ⟨⟨rfl, by (repeat' (first | exact PV.Le.refl _ | exact LeL.nil | exact PV.Le.nil _ | exact PV.Le.acc _ _ _ | apply LeL.cons | apply PV.Le.agg | apply PV.Le.tup)), rfl⟩, ⟨⟨rfl, by (repeat' (first | exact PV.Le.refl _ | exact LeL.nil | exact PV.Le.nil _ | exact PV.Le.acc _ _ _ | apply LeL.cons | apply PV.Le.agg | apply PV.Le.tup)), rfl⟩, ⟨⟨rfl, by (repeat' (first | exact PV.Le.refl _ | exact LeL.nil | exact PV.Le.nil _ | exact PV.Le.acc _ _ _ | apply LeL.cons | apply PV.Le.agg | apply PV.Le.tup)), rfl⟩, trivial⟩⟩⟩ (by first | rfl | simp)) (keeps_box hC ⟨_, rfl⟩) ⟨⟨_, rfl, .refl _, rfl⟩, ⟨⟨_, rfl, .refl _, rfl⟩, ⟨⟨_, rfl, .refl _, rfl⟩, ⟨⟨_, rfl, .refl _, rfl⟩, ⟨⟨_, rfl, .refl _, rfl⟩, ⟨⟨_, rfl, by (repeat' (first | exact PV.Le.refl _ | exact LeL.nil | exact PV.Le.nil _ | exact PV.Le.acc _ _ _ | apply LeL.cons | apply PV.Le.agg | apply PV.Le.tup)), rfl⟩, trivial⟩⟩⟩⟩⟩⟩
      · dsimp only; omega
  · skip
    have h2b := h2
    try simp only [Bool.and_eq_true, Bool.or_eq_true, Bool.and_eq_false_iff, Bool.or_eq_false_iff, decide_eq_true_eq, decide_eq_false_iff_not, Bool.not_eq_true', Bool.not_eq_false', Bool.not_eq_eq_eq_not, Bool.not_true, Bool.not_false, ge_iff_le, gt_iff_lt, Int.not_lt, Int.not_le] at h2b
    refine AWP.exit ?_
    refine AWP.seq ?_
    refine AWP.region_lit ?_
    refine AL.cons rfl (AOp.loadPtr (cs := [.t (.leaf (.string (⟨#[112]⟩))), .nil, .acc 5 (GTrait.trs (ts)) 0, .nil, .nil, .nil]) rfl rfl rfl rfl sh151 rfl rfl) ?_
    refine AL.cons rfl (AOp.buildSliceQ (es := GPackage.trs ([(GPackage.mk (⟨#[112]⟩) [] ts [] [] [])])) (cs := [.t (.leaf (.string (⟨#[112]⟩))), .nil, .acc 5 (GTrait.trs (ts)) 0, .nil, .nil, .nil]) rfl rfl el61 zr151 rfl rfl (by (repeat' (first | exact PV.Le.refl _ | exact LeL.nil | exact PV.Le.nil _ | exact PV.Le.acc _ _ _ | apply LeL.cons | apply PV.Le.agg | apply PV.Le.tup))) rfl (by simp [GPackage.trs_map, GPackage.tr_cs, GPackage.cs]) (by decide) rfl (by decide)) ?_
    refine AL.cons rfl (AOp.build rfl rfl zr63 pl63 rfl rfl) ?_
    refine AL.cons rfl (AOp.storePtr (cs := [.t (.row 6 (GPackage.trs ([(GPackage.mk (⟨#[112]⟩) [] ts [] [] [])])))]) (ds := [.t (.row 6 (GPackage.trs ([(GPackage.mk (⟨#[112]⟩) [] ts [] [] [])])))]) rfl rfl rfl rfl rfl rfl rfl sz63 (Nat.le_of_ble_eq_true rfl) rfl) ?_
    refine AL.nil ?_
    refine AWP.ret ?_
    exact Ends.mk (ps := [_]) (.inr rfl) ⟨⟨_, _, _, rfl, rfl, sh63, rfl, rfl⟩, trivial⟩ rfl (StLe.mk' (st' := ⟨[some ⟨206, [.t (.row 1 (byteTrs (x.code))), .t (.leaf (.int .i64 (((x.p : Nat) : Int)))), .t (.leaf (.int .i64 (x.h)))]⟩], []⟩) ⟨⟨rfl, by (repeat' (first | exact PV.Le.refl _ | exact LeL.nil | exact PV.Le.nil _ | exact PV.Le.acc _ _ _ | apply LeL.cons | apply PV.Le.agg | apply PV.Le.tup)), rfl⟩, trivial⟩ rfl) (keeps_box hC ⟨_, rfl⟩) (q := .agg [.t (.row 6 (GPackage.trs ([(GPackage.mk (⟨#[112]⟩) [] ts [] [] [])])))]) (by (repeat' (first | exact PV.Le.refl _ | exact LeL.nil | exact PV.Le.nil _ | exact PV.Le.acc _ _ _ | apply LeL.cons | apply PV.Le.agg | apply PV.Le.tup))) rfl ⟨by (have hq := range_end (by omega) hi3; unfold worldOf; rw [hq]; rfl), by (have hq := range_end (by omega) hi3; unfold worldD; rw [hq]; rfl)⟩

end Go.Proofs.Ytoifjkggpanceaa

namespace Go.Proofs.Ytoifjkggpanceaa
open Go.RowKit Go.Proofs
set_option linter.unusedSimpArgs false
set_option linter.unusedVariables false


def supW (code : List UInt8) : GProgram := worldOf (DS.start code)
def supName (code : List UInt8) : ByteArray := (worldD (DS.start code)).pick [⟨#[97]⟩, ⟨#[99]⟩, ⟨#[100]⟩, ⟨#[101]⟩, ⟨#[122, 122]⟩]

set_option maxRecDepth 100000 in
set_option maxHeartbeats 4000000 in
theorem big_ok (code : List UInt8) : AFun Try.prog 33 [.t (.row 1 (byteTrs (code)))] (.t (.leaf (.bool (decide (((code.length : Nat) : Int) > 1048576))))) := by
  refine ACalls.intro Try.func33 rfl (by first | decide | (simp; done) | (simp; decide)) ?_
  intro C hC
  refine AWP.fact (lk_lenN 0 rfl rfl (byteTrs_len _)) (fun hl1 => ?_)
  refine AWP.seq ?_
  refine AWP.region_lit ?_
  refine AL.cons rfl (AOp.move (.inr rfl) rfl rfl) ?_
  refine AL.nil ?_
  refine AWP.seq ?_
  refine AWP.region_lit ?_
  refine AL.cons rfl (AOp.move (.inl rfl) rfl rfl) ?_
  refine AL.cons rfl (AOp.lenN rfl rfl rfl rfl el59 (byteTrs_len _)) ?_
  refine AL.cons rfl (AOp.gtr rfl rfl rfl rfl) ?_
  refine AL.cons rfl (AOp.move (.inr rfl) rfl rfl) ?_
  refine AL.nil ?_
  refine AWP.ret ?_
  exact Ends.mk (ps := [_]) (.inr rfl) ⟨rfl, trivial⟩ rfl (StLe.mk' (st' := ⟨[], []⟩) trivial rfl) (keeps_nil hC) (q := (.t (.leaf (.bool (decide ((((code.length : Nat) : Int) : Int) > 1048576)))) : PV)) (by (repeat' (first | exact PV.Le.refl _ | exact LeL.nil | exact PV.Le.nil _ | exact PV.Le.acc _ _ _ | apply LeL.cons | apply PV.Le.agg | apply PV.Le.tup))) rfl ⟨by rfl, rfl⟩

set_option maxRecDepth 100000 in
set_option maxHeartbeats 4000000 in
theorem supDraw_ok (code : List UInt8) (hb : code.length ≤ 1048576) : AFun Try.prog 34 [.t (.row 1 (byteTrs (code)))] (.tup [(GProgram.pv (supW code)), .t (.leaf (.string (supName code)))]) := by
  refine ACalls.intro Try.func34 rfl (by first | decide | (simp; done) | (simp; decide)) ?_
  intro C hC
  refine AWP.fact (lk_lenN 0 rfl rfl (byteTrs_len _)) (fun hl1 => ?_)
  refine AWP.seq ?_
  refine AWP.region_lit ?_
  refine AL.cons rfl (AOp.alloc rfl rfl zr63) ?_
  refine AL.cons rfl (AOp.move (.inr rfl) rfl rfl) ?_
  refine AL.nil ?_
  refine AWP.seq ?_
  refine AWP.region_lit ?_
  refine AL.cons rfl (AOp.move (.inl rfl) rfl rfl) ?_
  refine AL.cons rfl (AOp.callNew (ps := [_]) rfl rfl Try.func98 (by kernel_rfl) rfl rfl (by (repeat' (first | exact PV.Le.refl _ | exact LeL.nil | exact PV.Le.nil _ | exact PV.Le.acc _ _ _ | apply LeL.cons | apply PV.Le.agg | apply PV.Le.tup))) rfl rfl (new_ok code (by assumption))) ?_
  refine AL.cons rfl (AOp.move (.inr rfl) rfl rfl) ?_
  refine AL.nil ?_
  refine AWP.seq ?_
  refine AWP.region_lit ?_
  refine AL.cons rfl (AOp.move (.inl rfl) rfl rfl) ?_
  refine AL.cons rfl (AOp.callPE (pre := ⟨[some ⟨206, [.t (.row 1 (byteTrs ((DS.start code).code))), .t (.leaf (.int .i64 ((((DS.start code).p : Nat) : Int)))), .t (.leaf (.int .i64 ((DS.start code).h)))]⟩], []⟩) (st' := ⟨[some ⟨206, [.t (.row 1 (byteTrs ((worldD (DS.start code)).code))), .t (.leaf (.int .i64 ((((worldD (DS.start code)).p : Nat) : Int)))), .t (.leaf (.int .i64 ((worldD (DS.start code)).h)))]⟩], []⟩) (ps := [_]) (qs := [.ptr 0 0]) [1] [] rfl rfl Try.func99 (by kernel_rfl) rfl rfl rfl (by (try rw [hs]); exact ⟨rfl, rfl, by decide, by decide, fun k h => by rcases k with _ | k <;> simp at h; exact ⟨_, rfl⟩, fun k x h => by rcases k with _ | k <;> simp at h; subst h; exact ⟨_, rfl, rfl, by (repeat' (first | exact PV.Le.refl _ | exact LeL.nil | exact PV.Le.nil _ | exact PV.Le.acc _ _ _ | apply LeL.cons | apply PV.Le.agg | apply PV.Le.tup)), rfl⟩, fun r row h => by simp at h⟩) (by (repeat' (first | exact PV.Le.refl _ | exact LeL.nil | exact PV.Le.nil _ | exact PV.Le.acc _ _ _ | apply LeL.cons | apply PV.Le.agg | apply PV.Le.tup))) rfl rfl rfl (world_ok (DS.start code) )) ?_
  refine AL.cons rfl (AOp.move (.inl rfl) rfl rfl) ?_
  refine AL.cons rfl (AOp.buildSliceQ (es := strTrs (([(⟨#[97]⟩), (⟨#[99]⟩), (⟨#[100]⟩), (⟨#[101]⟩), (⟨#[122, 122]⟩)] : List ByteArray))) (cs := [.t (.leaf (.string (⟨#[97]⟩))), .t (.leaf (.string (⟨#[99]⟩))), .t (.leaf (.string (⟨#[100]⟩))), .t (.leaf (.string (⟨#[101]⟩))), .t (.leaf (.string (⟨#[122, 122]⟩)))]) rfl rfl el66 zr9 rfl rfl (by (repeat' (first | exact PV.Le.refl _ | exact LeL.nil | exact PV.Le.nil _ | exact PV.Le.acc _ _ _ | apply LeL.cons | apply PV.Le.agg | apply PV.Le.tup))) rfl (by simp [strTrs]) (by decide) rfl (by decide)) ?_
  refine AL.cons rfl (AOp.callPE (pre := ⟨[some ⟨206, [.t (.row 1 (byteTrs ((worldD (DS.start code)).code))), .t (.leaf (.int .i64 ((((worldD (DS.start code)).p : Nat) : Int)))), .t (.leaf (.int .i64 ((worldD (DS.start code)).h)))]⟩], []⟩) (st' := ⟨[some ⟨206, [.t (.row 1 (byteTrs (((worldD (DS.start code)).after ([(⟨#[97]⟩), (⟨#[99]⟩), (⟨#[100]⟩), (⟨#[101]⟩), (⟨#[122, 122]⟩)] : List ByteArray).length).code))), .t (.leaf (.int .i64 (((((worldD (DS.start code)).after ([(⟨#[97]⟩), (⟨#[99]⟩), (⟨#[100]⟩), (⟨#[101]⟩), (⟨#[122, 122]⟩)] : List ByteArray).length).p : Nat) : Int)))), .t (.leaf (.int .i64 (((worldD (DS.start code)).after ([(⟨#[97]⟩), (⟨#[99]⟩), (⟨#[100]⟩), (⟨#[101]⟩), (⟨#[122, 122]⟩)] : List ByteArray).length).h)))]⟩], []⟩) (ps := [_, _]) (qs := [.ptr 0 0, .t (.row 1 (strTrs (([(⟨#[97]⟩), (⟨#[99]⟩), (⟨#[100]⟩), (⟨#[101]⟩), (⟨#[122, 122]⟩)] : List ByteArray))))]) [1] [] rfl rfl Try.func100 (by kernel_rfl) rfl rfl rfl (by (try rw [hs]); exact ⟨rfl, rfl, by decide, by decide, fun k h => by rcases k with _ | k <;> simp at h; exact ⟨_, rfl⟩, fun k x h => by rcases k with _ | k <;> simp at h; subst h; exact ⟨_, rfl, rfl, by (repeat' (first | exact PV.Le.refl _ | exact LeL.nil | exact PV.Le.nil _ | exact PV.Le.acc _ _ _ | apply LeL.cons | apply PV.Le.agg | apply PV.Le.tup)), rfl⟩, fun r row h => by simp at h⟩) (by (repeat' (first | exact PV.Le.refl _ | exact LeL.nil | exact PV.Le.nil _ | exact PV.Le.acc _ _ _ | apply LeL.cons | apply PV.Le.agg | apply PV.Le.tup))) rfl rfl rfl (pick_ok (worldD (DS.start code)) ([(⟨#[97]⟩), (⟨#[99]⟩), (⟨#[100]⟩), (⟨#[101]⟩), (⟨#[122, 122]⟩)] : List ByteArray) (by decide))) ?_
  refine AL.cons rfl (AOp.storePtr (cs := [.t (.row 6 (GPackage.trs ((worldOf (DS.start code)).gPackages)))]) (ds := [.t (.row 6 (GPackage.trs ((worldOf (DS.start code)).gPackages)))]) rfl rfl rfl rfl rfl rfl rfl sz63 (Nat.le_of_ble_eq_true rfl) rfl) ?_
  refine AL.cons rfl (AOp.move (.inr rfl) rfl rfl) ?_
  refine AL.nil ?_
  refine AWP.ret ?_
  exact Ends.mk (ps := [_, _]) (.inr rfl) ⟨⟨_, _, _, rfl, rfl, sh63, rfl, rfl⟩, rfl, trivial⟩ rfl (StLe.mk' (st' := ⟨[], []⟩) trivial rfl) (keeps_nil hC) (q := (.tup [(GProgram.pv (worldOf (DS.start code))), .t (.leaf (.string ((worldD (DS.start code)).pick ([(⟨#[97]⟩), (⟨#[99]⟩), (⟨#[100]⟩), (⟨#[101]⟩), (⟨#[122, 122]⟩)] : List ByteArray))))] : PV)) (by (repeat' (first | exact PV.Le.refl _ | exact LeL.nil | exact PV.Le.nil _ | exact PV.Le.acc _ _ _ | apply LeL.cons | apply PV.Le.agg | apply PV.Le.tup))) rfl ⟨by rfl, rfl⟩

end Go.Proofs.Ytoifjkggpanceaa

namespace Go.Proofs.Ytoifjkggpanceaa

theorem foldl_len {α β : Type} {f : β → α → β} (len : β → Nat) (h : ∀ o x, len (f o x) ≤ len o + 1) : ∀ (l : List α) (o : β), len (l.foldl f o) ≤ len o + l.length
  | [], o => by simp
  | x :: l, o => by
    have h1 := foldl_len len h l (f o x)
    have h2 := h o x
    rw [List.foldl_cons, List.length_cons]
    omega
theorem names5_mem {k : Nat} (h : k < 5) : (names5[k]?).getD ⟨#[]⟩ ∈ names5 := by
  have hl : k < names5.length := h
  rw [List.getElem?_eq_getElem hl]
  exact List.getElem_mem hl
theorem supStep_two (i : Nat) (x : DS × List ByteArray) (k : Nat) : (supStep i x k).2 = x.2 ∨ (supStep i x k).2 = x.2 ++ [(names5[k]?).getD ⟨#[]⟩] := by
  have key : ∀ (b : Bool) (u v : List ByteArray), (if b = true then u else v) = v ∨ (if b = true then u else v) = u := by
    intro b u v
    cases b <;> simp
  exact key _ _ _
theorem supsOf_in {d : DS} {n i : Nat} (hn : n ≤ 5) : ∀ x ∈ (supsOf d n i).2, x ∈ names5 := by
  unfold supsOf
  refine foldl_inv (fun p : DS × List ByteArray => ∀ x ∈ p.2, x ∈ names5) _ _ (fun x hx => by cases hx) fun o k hk ho => ?_
  have hk : k < n := by simpa using hk
  rcases supStep_two i o k with h | h <;> rw [h]
  · exact ho
  · intro x hx
    rcases List.mem_append.1 hx with hx | hx
    · exact ho x hx
    · rw [List.mem_singleton.1 hx]
      exact names5_mem (by omega)
theorem supsOf_len (d : DS) (n i : Nat) : (supsOf d n i).2.length ≤ n := by
  have := foldl_len (f := supStep i) (fun p : DS × List ByteArray => p.2.length) (fun o k => by
    rcases supStep_two i o k with h | h <;> simp [h]) (List.range n) (d, [])
  unfold supsOf
  simpa using this
theorem traitsOf_all {d : DS} {n : Nat} (hn : n ≤ 5) : ∀ t ∈ (traitsOf d n).2, (∀ x ∈ t.gSupertraits, x ∈ names5) ∧ t.gSupertraits.length ≤ 5 ∧ t.gSignatures = [] := by
  unfold traitsOf
  refine foldl_inv (fun p : DS × List GTrait => ∀ t ∈ p.2, (∀ x ∈ t.gSupertraits, x ∈ names5) ∧ t.gSupertraits.length ≤ 5 ∧ t.gSignatures = []) _ _ (fun x hx => by cases hx) fun o k hk ho => ?_
  intro t ht
  rcases List.mem_append.1 (show t ∈ o.2 ++ [_] from ht) with ht | ht
  · exact ho t ht
  · rw [List.mem_singleton.1 ht]
    exact ⟨supsOf_in hn, Nat.le_trans (supsOf_len _ _ _) hn, rfl⟩
theorem traitsOf_len (d : DS) (n : Nat) : (traitsOf d n).2.length ≤ n := by
  have := foldl_len (f := traitStep n) (fun p : DS × List GTrait => p.2.length) (fun o k => by
    show (o.2 ++ [_]).length ≤ _
    simp) (List.range n) (d, [])
  unfold traitsOf
  simpa using this
theorem world_n (d : DS) : 1 + d.below 5 ≤ 5 := by have := d.below_lt (n := 5) (by decide); omega
/-- Of every trait of the drawn world, found or not. -/
theorem worldOf_trait (d : DS) (s : ByteArray) : (∀ x ∈ supsF (worldOf d) s, x ∈ names5) ∧ (supsF (worldOf d) s).length ≤ 5 ∧ (oTrait ((worldOf d).traitAt s)).gSignatures = [] := by
  unfold supsF
  cases hq : (worldOf d).traitAt s with
  | none => exact ⟨fun x hx => by simp [oTrait, GTrait.zero] at hx, by simp [oTrait, GTrait.zero], rfl⟩
  | some x =>
    obtain ⟨p, hp, hx⟩ := traitAt_mem hq
    have hp : p = .mk ⟨#[112]⟩ [] (traitsOf (d.after 5) (1 + d.below 5)).2 [] [] [] := by simpa [worldOf] using hp
    subst hp
    exact traitsOf_all (world_n d) x.1 hx
theorem worldOf_allSup (d : DS) : (worldOf d).allSup.length ≤ 1099511627776 := by
  have h1 : ∀ l : List GTrait, (∀ t ∈ l, t.gSupertraits.length ≤ 5) → (l.flatMap (fun t => t.gSupertraits)).length ≤ 5 * l.length := by
    intro l
    induction l with
    | nil => intro _; simp
    | cons t l ih =>
      intro h
      have a := h t (by simp)
      have b := ih fun x hx => h x (by simp [hx])
      rw [List.flatMap_cons, List.length_append, List.length_cons]
      omega
  have h2 := h1 (traitsOf (d.after 5) (1 + d.below 5)).2 fun t ht => (traitsOf_all (world_n d) t ht).2.1
  have h3 := traitsOf_len (d.after 5) (1 + d.below 5)
  have h4 := world_n d
  have h5 : (worldOf d).allSup = ((traitsOf (d.after 5) (1 + d.below 5)).2).flatMap (fun t => t.gSupertraits) := by
    show ([_].flatMap _).flatMap _ = _
    simp [List.flatMap_cons]
  rw [h5]
  omega
/-- Every supertrait of a drawn world is reached in eight steps. -/
theorem worldOf_path {d : DS} {name s : ByteArray} (hs : s ∈ (worldOf d).supers name) : (pathF (worldOf d) 8 name s).isSome = true :=
  path_le (by decide) (supers_path (names := names5) (fun n => (worldOf_trait d n).1) hs)
end Go.Proofs.Ytoifjkggpanceaa

namespace Go.Proofs.Ytoifjkggpanceaa

theorem pathL_cons {f : ByteArray → ByteArray → Option (List Int)} {d : ByteArray} {v : Int} {rest : List Int} : ∀ {l : List ByteArray} {i : Nat}, pathF.pathL f d i l = some (v :: rest) → ∃ (k : Nat) (h : k < l.length), v = ((i + k : Nat) : Int) ∧ f l[k] d = some rest
  | [], _, h => by simp [pathF.pathL] at h
  | y :: l, i, h => by
    rw [pathF.pathL] at h
    cases hq : f y d with
    | some r =>
      rw [hq] at h
      cases h
      exact ⟨0, by simp, by simp, hq⟩
    | none =>
      rw [hq] at h
      obtain ⟨k, hk, h1, h2⟩ := pathL_cons (l := l) (i := i + 1) h
      exact ⟨k + 1, by simpa using hk, by rw [h1]; congr 1; omega, h2⟩
theorem pathL_nil {f : ByteArray → ByteArray → Option (List Int)} {d : ByteArray} : ∀ {l : List ByteArray} {i : Nat}, pathF.pathL f d i l ≠ some []
  | [], _ => by simp [pathF.pathL]
  | y :: l, i => by
    rw [pathF.pathL]
    cases hq : f y d with
    | some r => simp
    | none => exact pathL_nil
theorem path_nil {w : GProgram} {n : Nat} {s d : ByteArray} (h : pathF w n s d = some []) : s = d := by
  cases n with
  | zero =>
    rw [pathF] at h
    split at h
    · assumption
    · cases h
  | succ n =>
    rw [pathF] at h
    split at h
    · assumption
    · exact absurd h pathL_nil
/-- The first step of a way. -/
theorem path_cons {w : GProgram} {n : Nat} {s d : ByteArray} {v : Int} {rest : List Int} (h : pathF w n s d = some (v :: rest)) : (w.traitAt s).isSome = true ∧ 0 ≤ v ∧ ∃ (hk : v.toNat < (supsF w s).length) (m : Nat), pathF w m (supsF w s)[v.toNat] d = some rest := by
  cases n with
  | zero =>
    rw [pathF] at h
    split at h <;> cases h
  | succ n =>
    rw [pathF] at h
    split at h
    · cases h
    · obtain ⟨k, hk, h1, h2⟩ := pathL_cons h
      have hv : v.toNat = k := by rw [h1]; omega
      refine ⟨?_, by omega, by rw [hv]; exact hk, n, by simp only [hv]; exact h2⟩
      cases hq : w.traitAt s with
      | some x => rfl
      | none =>
        have : (oTrait (w.traitAt s)).gSupertraits.length = 0 := by rw [hq]; rfl
        omega
end Go.Proofs.Ytoifjkggpanceaa

namespace Go.Proofs.Ytoifjkggpanceaa
open Go.RowKit Go.Proofs
set_option linter.unusedSimpArgs false
set_option linter.unusedVariables false


def GProgram.acyclic (w : GProgram) : Bool := w.gPackages.all fun p => p.gTraits.all fun t => !decide (t.gName ∈ w.supers t.gName)
theorem all_false {α : Type} {F : α → Bool} {l : List α} {i : Nat} {r : Bool} (h : i < l.length) (hr : r = (l.drop i).all F) (hf : F l[i] = false) : r = false := by
  rw [hr, List.drop_eq_getElem_cons h, List.all_cons, hf, Bool.false_and]
theorem all_next {α : Type} {F : α → Bool} {l : List α} {i : Nat} {r : Bool} (h : i < l.length) (hr : r = (l.drop i).all F) (hf : F l[i] = true) : r = (l.drop (i + 1)).all F := by
  rw [hr, List.drop_eq_getElem_cons h, List.all_cons, hf, Bool.true_and]
theorem all_end {α : Type} {F : α → Bool} {l : List α} {i : Nat} {r : Bool} (h : l.length ≤ i) (hr : r = (l.drop i).all F) : r = true := by
  rw [hr, List.drop_eq_nil_of_le h, List.all_nil]

set_option maxRecDepth 100000 in
set_option maxHeartbeats 4000000 in
theorem acyclic_impl (w : GProgram) (hb : w.allSup.length ≤ 1099511627776) : AFun Try.prog 39 [(GProgram.pv w)] (.t (.leaf (.bool (GProgram.acyclic w)))) := by
  refine ACalls.intro Try.func39 rfl (by first | decide | (simp; done) | (simp; decide)) ?_
  intro C hC
  refine AWP.seq ?_
  refine AWP.region_lit ?_
  refine AL.cons rfl (AOp.box (cs := [.t (.row 6 (GPackage.trs (w.gPackages)))]) rfl rfl rfl rfl rfl) ?_
  refine AL.cons rfl (AOp.move (.inr rfl) rfl rfl) ?_
  refine AL.nil ?_
  refine AWP.seq ?_
  refine AWP.seq ?_
  refine AWP.region_lit ?_
  refine AL.cons rfl (AOp.fieldPtr (k := 0) (d := 0) (e := 0) rfl rfl rfl fo63_0) ?_
  refine AL.cons rfl (AOp.loadPtr1 rfl rfl rfl rfl sh61 rfl) ?_
  refine AL.fact (lk_lenN 8 rfl rfl (GPackage.trs_len _)) (fun hl1 => ?_)
  refine AL.cons rfl (AOp.lenN rfl rfl rfl rfl el61 (GPackage.trs_len _)) ?_
  refine AL.cons rfl (AOp.move (.inl rfl) rfl rfl) ?_
  refine AL.nil ?_
  refine AWP.block ?_
  refine AWP.loopJ (ι := Nat) (fun i => i ≤ w.gPackages.length ∧ w.acyclic = (w.gPackages.drop i).all (fun p => p.gTraits.all (fun t => !decide (t.gName ∈ w.supers t.gName)))) (fun i => ⟨[(0, (GProgram.pv w)), (1, .ptr 0 0), (8, .t (.row 6 (GPackage.trs (w.gPackages)))), (9, .t (.leaf (.int .i64 (((w.gPackages.length : Nat) : Int))))), (10, .t (.leaf (.int .i64 (((i : Nat) : Int)))))], ⟨[some ⟨63, [.t (.row 6 (GPackage.trs (w.gPackages)))]⟩], []⟩⟩) (fun i => w.gPackages.length - i) 0 ?_ ?_ ?_
  · exact ⟨Nat.zero_le _, rfl⟩
  · skip
    exact Wk.mk (StLe.mk' ⟨⟨rfl, by (repeat' (first | exact PV.Le.refl _ | exact LeL.nil | exact PV.Le.nil _ | exact PV.Le.acc _ _ _ | apply LeL.cons | apply PV.Le.agg | apply PV.Le.tup)), rfl⟩, trivial⟩ rfl) (keeps_nil hC) ⟨⟨_, rfl, .refl _, rfl⟩, ⟨⟨_, rfl, .refl _, rfl⟩, ⟨⟨_, rfl, .refl _, rfl⟩, ⟨⟨_, rfl, .refl _, rfl⟩, ⟨⟨_, rfl, by (repeat' (first | exact PV.Le.refl _ | exact LeL.nil | exact PV.Le.nil _ | exact PV.Le.acc _ _ _ | apply LeL.cons | apply PV.Le.agg | apply PV.Le.tup)), rfl⟩, trivial⟩⟩⟩⟩⟩
  rintro i hJ2
  obtain ⟨hi1, hi2⟩ := hJ2
  refine AWP.seq ?_
  refine AWP.region_lit ?_
  refine AL.cons rfl (AOp.lss rfl rfl rfl rfl) ?_
  refine AL.nil ?_
  refine AWP.seq ?_
  refine AWP.cond rfl (fun h3 => ?_) (fun h3 => ?_)
  · skip
    have h3b := h3
    try simp only [Bool.and_eq_true, Bool.or_eq_true, Bool.and_eq_false_iff, Bool.or_eq_false_iff, decide_eq_true_eq, decide_eq_false_iff_not, Bool.not_eq_true', Bool.not_eq_false', Bool.not_eq_eq_eq_not, Bool.not_true, Bool.not_false, ge_iff_le, gt_iff_lt, Int.not_lt, Int.not_le] at h3b
    have h3n : i < w.gPackages.length := by omega
    refine AWP.skip ?_
    refine AWP.seq ?_
    refine AWP.block ?_
    refine AWP.seq ?_
    refine AWP.region_lit ?_
    refine AL.cons rfl (AOp.index (k := i) rfl rfl rfl rfl rfl (GPackage.trs_cs h3n) el61) ?_
    refine AL.cons rfl (AOp.loadEptr (ds := [.leaf (.string ((w.gPackages[i]).gName)), .row 1 (strTrs ((w.gPackages[i]).gDeps)), .row 5 (GTrait.trs ((w.gPackages[i]).gTraits)), .row 3 (GDataType.trs ((w.gPackages[i]).gDataTypes)), .row 12 (GInstance.trs ((w.gPackages[i]).gInstances)), .row 16 (GFunction.trs ((w.gPackages[i]).gFunctions))]) rfl rfl rfl sh151 rfl rfl) ?_
    refine AL.cons rfl (AOp.alloc rfl rfl zr151) ?_
    refine AL.cons rfl (AOp.storePtr (cs := [.t (.leaf (.string ((w.gPackages[i]).gName))), .t (.row 1 (strTrs ((w.gPackages[i]).gDeps))), .t (.row 5 (GTrait.trs ((w.gPackages[i]).gTraits))), .t (.row 3 (GDataType.trs ((w.gPackages[i]).gDataTypes))), .t (.row 12 (GInstance.trs ((w.gPackages[i]).gInstances))), .t (.row 16 (GFunction.trs ((w.gPackages[i]).gFunctions)))]) (ds := [.t (.leaf (.string ((w.gPackages[i]).gName))), .t (.row 1 (strTrs ((w.gPackages[i]).gDeps))), .t (.row 5 (GTrait.trs ((w.gPackages[i]).gTraits))), .t (.row 3 (GDataType.trs ((w.gPackages[i]).gDataTypes))), .t (.row 12 (GInstance.trs ((w.gPackages[i]).gInstances))), .t (.row 16 (GFunction.trs ((w.gPackages[i]).gFunctions)))]) rfl rfl rfl rfl rfl rfl rfl sz151 (Nat.le_of_ble_eq_true rfl) rfl) ?_
    refine AL.nil ?_
    refine AWP.seq ?_
    refine AWP.region_lit ?_
    refine AL.cons rfl (AOp.fieldPtr (k := 1) (d := 0) (e := 2) rfl rfl rfl fo151_2) ?_
    refine AL.cons rfl (AOp.loadPtr1 rfl rfl rfl rfl sh146 rfl) ?_
    refine AL.fact (lk_lenN 15 rfl rfl (GTrait.trs_len _)) (fun hl4 => ?_)
    refine AL.cons rfl (AOp.lenN rfl rfl rfl rfl el146 (GTrait.trs_len _)) ?_
    refine AL.cons rfl (AOp.move (.inl rfl) rfl rfl) ?_
    refine AL.nil ?_
    refine AWP.block ?_
    refine AWP.loopJ (ι := Nat) (fun k => k ≤ (w.gPackages[i]).gTraits.length ∧ (w.gPackages[i]).gTraits.all (fun t => !decide (t.gName ∈ w.supers t.gName)) = ((w.gPackages[i]).gTraits.drop k).all (fun t => !decide (t.gName ∈ w.supers t.gName))) (fun k => ⟨[(0, (GProgram.pv w)), (1, .ptr 0 0), (4, .ptr 1 0), (8, .t (.row 6 (GPackage.trs (w.gPackages)))), (9, .t (.leaf (.int .i64 (((w.gPackages.length : Nat) : Int))))), (10, .t (.leaf (.int .i64 (((i : Nat) : Int))))), (15, .t (.row 5 (GTrait.trs ((w.gPackages[i]).gTraits)))), (16, .t (.leaf (.int .i64 (((((w.gPackages[i]).gTraits).length : Nat) : Int))))), (17, .t (.leaf (.int .i64 (((k : Nat) : Int)))))], ⟨[some ⟨63, [.t (.row 6 (GPackage.trs (w.gPackages)))]⟩, some ⟨151, [.t (.leaf (.string ((w.gPackages[i]).gName))), .t (.row 1 (strTrs ((w.gPackages[i]).gDeps))), .t (.row 5 (GTrait.trs ((w.gPackages[i]).gTraits))), .t (.row 3 (GDataType.trs ((w.gPackages[i]).gDataTypes))), .t (.row 12 (GInstance.trs ((w.gPackages[i]).gInstances))), .t (.row 16 (GFunction.trs ((w.gPackages[i]).gFunctions)))]⟩], []⟩⟩) (fun k => (w.gPackages[i]).gTraits.length - k) 0 ?_ ?_ ?_
    · exact ⟨Nat.zero_le _, rfl⟩
    · skip
      exact Wk.mk (StLe.mk' ⟨⟨rfl, by (repeat' (first | exact PV.Le.refl _ | exact LeL.nil | exact PV.Le.nil _ | exact PV.Le.acc _ _ _ | apply LeL.cons | apply PV.Le.agg | apply PV.Le.tup)), rfl⟩, ⟨⟨rfl, by (repeat' (first | exact PV.Le.refl _ | exact LeL.nil | exact PV.Le.nil _ | exact PV.Le.acc _ _ _ | apply LeL.cons | apply PV.Le.agg | apply PV.Le.tup)), rfl⟩, trivial⟩⟩ rfl) (keeps_nil hC) ⟨⟨_, rfl, .refl _, rfl⟩, ⟨⟨_, rfl, .refl _, rfl⟩, ⟨⟨_, rfl, .refl _, rfl⟩, ⟨⟨_, rfl, .refl _, rfl⟩, ⟨⟨_, rfl, .refl _, rfl⟩, ⟨⟨_, rfl, .refl _, rfl⟩, ⟨⟨_, rfl, .refl _, rfl⟩, ⟨⟨_, rfl, .refl _, rfl⟩, ⟨⟨_, rfl, by (repeat' (first | exact PV.Le.refl _ | exact LeL.nil | exact PV.Le.nil _ | exact PV.Le.acc _ _ _ | apply LeL.cons | apply PV.Le.agg | apply PV.Le.tup)), rfl⟩, trivial⟩⟩⟩⟩⟩⟩⟩⟩⟩
    rintro k hJ5
    obtain ⟨hk1, hk2⟩ := hJ5
    refine AWP.seq ?_
    refine AWP.region_lit ?_
    refine AL.cons rfl (AOp.lss rfl rfl rfl rfl) ?_
    refine AL.nil ?_
    refine AWP.seq ?_
    refine AWP.cond rfl (fun h6 => ?_) (fun h6 => ?_)
    · skip
      have h6b := h6
      try simp only [Bool.and_eq_true, Bool.or_eq_true, Bool.and_eq_false_iff, Bool.or_eq_false_iff, decide_eq_true_eq, decide_eq_false_iff_not, Bool.not_eq_true', Bool.not_eq_false', Bool.not_eq_eq_eq_not, Bool.not_true, Bool.not_false, ge_iff_le, gt_iff_lt, Int.not_lt, Int.not_le] at h6b
      have h6n : k < ((w.gPackages[i]).gTraits).length := by omega
      refine AWP.skip ?_
      refine AWP.seq ?_
      refine AWP.block ?_
      refine AWP.seq ?_
      refine AWP.region_lit ?_
      refine AL.cons rfl (AOp.index (k := k) rfl rfl rfl rfl rfl (GTrait.trs_cs h6n) el146) ?_
      refine AL.cons rfl (AOp.loadEptr (ds := [.leaf (.string ((((w.gPackages[i]).gTraits)[k]).gName)), .row 1 (strTrs ((((w.gPackages[i]).gTraits)[k]).gSupertraits)), .leaf (.bool ((((w.gPackages[i]).gTraits)[k]).gAuto)), .leaf (.bool ((((w.gPackages[i]).gTraits)[k]).gAssoc)), .row 16 (GSignature.trs ((((w.gPackages[i]).gTraits)[k]).gSignatures))]) rfl rfl rfl sh75 rfl rfl) ?_
      refine AL.cons rfl (AOp.alloc rfl rfl zr75) ?_
      refine AL.cons rfl (AOp.storePtr (cs := [.t (.leaf (.string ((((w.gPackages[i]).gTraits)[k]).gName))), .t (.row 1 (strTrs ((((w.gPackages[i]).gTraits)[k]).gSupertraits))), .t (.leaf (.bool ((((w.gPackages[i]).gTraits)[k]).gAuto))), .t (.leaf (.bool ((((w.gPackages[i]).gTraits)[k]).gAssoc))), .t (.row 16 (GSignature.trs ((((w.gPackages[i]).gTraits)[k]).gSignatures)))]) (ds := [.t (.leaf (.string ((((w.gPackages[i]).gTraits)[k]).gName))), .t (.row 1 (strTrs ((((w.gPackages[i]).gTraits)[k]).gSupertraits))), .t (.leaf (.bool ((((w.gPackages[i]).gTraits)[k]).gAuto))), .t (.leaf (.bool ((((w.gPackages[i]).gTraits)[k]).gAssoc))), .t (.row 16 (GSignature.trs ((((w.gPackages[i]).gTraits)[k]).gSignatures)))]) rfl rfl rfl rfl rfl rfl rfl sz75 (Nat.le_of_ble_eq_true rfl) rfl) ?_
      refine AL.nil ?_
      refine AWP.seq ?_
      refine AWP.drawnL ⟨_, _, fun _ _ => (⟨[some ⟨63, [.t (.row 6 (GPackage.trs (w.gPackages)))]⟩, some ⟨151, [.t (.leaf (.string ((w.gPackages[i]).gName))), .t (.row 1 (strTrs ((w.gPackages[i]).gDeps))), .t (.row 5 (GTrait.trs ((w.gPackages[i]).gTraits))), .t (.row 3 (GDataType.trs ((w.gPackages[i]).gDataTypes))), .t (.row 12 (GInstance.trs ((w.gPackages[i]).gInstances))), .t (.row 16 (GFunction.trs ((w.gPackages[i]).gFunctions)))]⟩, some ⟨75, [.t (.leaf (.string ((((w.gPackages[i]).gTraits)[k]).gName))), .t (.row 1 (strTrs ((((w.gPackages[i]).gTraits)[k]).gSupertraits))), .t (.leaf (.bool ((((w.gPackages[i]).gTraits)[k]).gAuto))), .t (.leaf (.bool ((((w.gPackages[i]).gTraits)[k]).gAssoc))), .t (.row 16 (GSignature.trs ((((w.gPackages[i]).gTraits)[k]).gSignatures)))]⟩], []⟩ : Sto), fun q' => ([some ((GProgram.pv w)), some (.ptr 2 0), some (.t (.leaf (.string ((((w.gPackages[i]).gTraits)[k]).gName)))), some (.t (.row 1 (strTrs (GProgram.supers w ((((w.gPackages[i]).gTraits)[k]).gName))))), some (.ptr 2 0), some (.t (.leaf (.string ((((w.gPackages[i]).gTraits)[k]).gName)))), some (.t (.leaf (.bool (decide (((((w.gPackages[i]).gTraits)[k]).gName) ∈ (GProgram.supers w ((((w.gPackages[i]).gTraits)[k]).gName)))))))] : List (Option PV)).getD q' none, fun q' => ([.q 0 0, .q 0 0, .q 0 0, .q 0 0, .q 0 0, .q 0 0, .q 0 0] : List DK).getD q' (.q 0 0), [], none, fun q' => ([[(1, none)], [(6, none)], [(22, some 1)], [(23, some 2), (21, some 0)], [(6, none)], [(25, some 4)], [(26, some 5), (24, some 3)]] : List (List (Nat × Option Nat))).getD q' []⟩ rfl mixed (by kernel_rfl) rfl rfl ⟨?_, ?_, ?_, ?_, ?_, ?_, ?_, trivial⟩ rfl ?_
      · refine .inl ⟨rfl, fun s' jj bb (h1 : 0 ≤ jj) (h2 : jj ≤ 0) hs hl => ?_⟩
        obtain rfl : jj = 0 := by omega
        exact ⟨_, rfl, AOp.loadPtr (cs := [.t (.row 6 (GPackage.trs (w.gPackages)))]) rfl rfl (hl 1 none _ (.head _) rfl) (by rw [hs]; rfl) sh63 rfl rfl⟩
      · refine .inl ⟨rfl, fun s' jj bb (h1 : 0 ≤ jj) (h2 : jj ≤ 0) hs hl => ?_⟩
        obtain rfl : jj = 0 := by omega
        exact ⟨_, rfl, AOp.fieldPtr (k := 2) (d := 0) (e := 0) rfl rfl (hl 6 none _ (.head _) rfl) fo75_0⟩
      · refine .inl ⟨rfl, fun s' jj bb (h1 : 0 ≤ jj) (h2 : jj ≤ 0) hs hl => ?_⟩
        obtain rfl : jj = 0 := by omega
        exact ⟨_, rfl, AOp.loadPtr1 rfl rfl (hl 22 (some 1) _ (.head _) rfl) (by rw [hs]; rfl) sh9 rfl⟩
      · refine .inl ⟨rfl, fun s' jj bb (h1 : 0 ≤ jj) (h2 : jj ≤ 0) hs hl => ?_⟩
        obtain rfl : jj = 0 := by omega
        exact ⟨_, rfl, AOp.callF (ps := [_, _]) rfl rfl Try.func35 (by kernel_rfl) rfl (evs_cons (hl 21 (some 0) _ (.tail _ (.head _)) rfl) (evs_cons (hl 23 (some 2) _ (.head _) rfl) rfl)) (by (repeat' (first | exact PV.Le.refl _ | exact LeL.nil | exact PV.Le.nil _ | exact PV.Le.acc _ _ _ | apply LeL.cons | apply PV.Le.agg | apply PV.Le.tup))) rfl rfl (allSup_impl w ((((w.gPackages[i]).gTraits)[k]).gName) (by assumption))⟩
      · refine .inl ⟨rfl, fun s' jj bb (h1 : 0 ≤ jj) (h2 : jj ≤ 0) hs hl => ?_⟩
        obtain rfl : jj = 0 := by omega
        exact ⟨_, rfl, AOp.fieldPtr (k := 2) (d := 0) (e := 0) rfl rfl (hl 6 none _ (.head _) rfl) fo75_0⟩
      · refine .inl ⟨rfl, fun s' jj bb (h1 : 0 ≤ jj) (h2 : jj ≤ 0) hs hl => ?_⟩
        obtain rfl : jj = 0 := by omega
        exact ⟨_, rfl, AOp.loadPtr1 rfl rfl (hl 25 (some 4) _ (.head _) rfl) (by rw [hs]; rfl) sh9 rfl⟩
      · refine .inl ⟨rfl, fun s' jj bb (h1 : 0 ≤ jj) (h2 : jj ≤ 0) hs hl => ?_⟩
        obtain rfl : jj = 0 := by omega
        exact ⟨_, rfl, AOp.callF (ps := [_, _]) rfl rfl Try.func103 (by kernel_rfl) rfl (evs_cons (hl 24 (some 3) _ (.tail _ (.head _)) rfl) (evs_cons (hl 26 (some 5) _ (.head _) rfl) rfl)) (by (repeat' (first | exact PV.Le.refl _ | exact LeL.nil | exact PV.Le.nil _ | exact PV.Le.acc _ _ _ | apply LeL.cons | apply PV.Le.agg | apply PV.Le.tup))) rfl rfl (contS_ok (GProgram.supers w ((((w.gPackages[i]).gTraits)[k]).gName)) ((((w.gPackages[i]).gTraits)[k]).gName))⟩
      refine AWP.cond rfl (fun h7 => ?_) (fun h7 => ?_)
      · skip
        have h7b := h7
        try simp only [Bool.and_eq_true, Bool.or_eq_true, Bool.and_eq_false_iff, Bool.or_eq_false_iff, decide_eq_true_eq, decide_eq_false_iff_not, Bool.not_eq_true', Bool.not_eq_false', Bool.not_eq_eq_eq_not, Bool.not_true, Bool.not_false, ge_iff_le, gt_iff_lt, Int.not_lt, Int.not_le] at h7b
        refine AWP.seq ?_
        refine AWP.region_lit ?_
        refine AL.cons rfl (AOp.move (.inr rfl) rfl rfl) ?_
        refine AL.nil ?_
        refine AWP.ret ?_
        exact Ends.mk (ps := [_]) (.inr rfl) ⟨rfl, trivial⟩ rfl (StLe.mk' (st' := ⟨[], []⟩) trivial rfl) (keeps_nil hC) (q := (.t (.leaf (.bool (false))) : PV)) (by (repeat' (first | exact PV.Le.refl _ | exact LeL.nil | exact PV.Le.nil _ | exact PV.Le.acc _ _ _ | apply LeL.cons | apply PV.Le.agg | apply PV.Le.tup))) rfl ⟨by rw [all_false (by omega) hi2 (all_false (by omega) hk2 (by simpa using ‹_›))], rfl⟩
      · skip
        have h7b := h7
        try simp only [Bool.and_eq_true, Bool.or_eq_true, Bool.and_eq_false_iff, Bool.or_eq_false_iff, decide_eq_true_eq, decide_eq_false_iff_not, Bool.not_eq_true', Bool.not_eq_false', Bool.not_eq_eq_eq_not, Bool.not_true, Bool.not_false, ge_iff_le, gt_iff_lt, Int.not_lt, Int.not_le] at h7b
        refine AWP.skip ?_
        refine AWP.region_lit ?_
        refine AL.cons rfl (AOp.addI rfl rfl rfl rfl (c := ((k + 1 : Nat) : Int)) (by omega) (by omega)) ?_
        refine AL.cons rfl (AOp.move (.inl rfl) rfl rfl) ?_
        refine AL.nil ?_
        refine ⟨k + 1, ?_, ?_, ?_⟩
        · exact ⟨by omega, all_next (by omega) hk2 (by simpa using ‹_›)⟩
        · skip
          exact Wk.mk (StLe.mk' ⟨⟨rfl, by (repeat' (first | exact PV.Le.refl _ | exact LeL.nil | exact PV.Le.nil _ | exact PV.Le.acc _ _ _ | apply LeL.cons | apply PV.Le.agg | apply PV.Le.tup)), rfl⟩, ⟨⟨rfl, by (repeat' (first | exact PV.Le.refl _ | exact LeL.nil | exact PV.Le.nil _ | exact PV.Le.acc _ _ _ | apply LeL.cons | apply PV.Le.agg | apply PV.Le.tup)), rfl⟩, trivial⟩⟩ rfl) (keeps_nil hC) ⟨⟨_, rfl, .refl _, rfl⟩, ⟨⟨_, rfl, .refl _, rfl⟩, ⟨⟨_, rfl, .refl _, rfl⟩, ⟨⟨_, rfl, .refl _, rfl⟩, ⟨⟨_, rfl, .refl _, rfl⟩, ⟨⟨_, rfl, .refl _, rfl⟩, ⟨⟨_, rfl, .refl _, rfl⟩, ⟨⟨_, rfl, .refl _, rfl⟩, ⟨⟨_, rfl, by (repeat' (first | exact PV.Le.refl _ | exact LeL.nil | exact PV.Le.nil _ | exact PV.Le.acc _ _ _ | apply LeL.cons | apply PV.Le.agg | apply PV.Le.tup)), rfl⟩, trivial⟩⟩⟩⟩⟩⟩⟩⟩⟩
        · omega
    · skip
      have h6b := h6
      try simp only [Bool.and_eq_true, Bool.or_eq_true, Bool.and_eq_false_iff, Bool.or_eq_false_iff, decide_eq_true_eq, decide_eq_false_iff_not, Bool.not_eq_true', Bool.not_eq_false', Bool.not_eq_eq_eq_not, Bool.not_true, Bool.not_false, ge_iff_le, gt_iff_lt, Int.not_lt, Int.not_le] at h6b
      have h6n : k ≥ ((w.gPackages[i]).gTraits).length := by omega
      refine AWP.exit ?_
      refine AWP.region_lit ?_
      refine AL.cons rfl (AOp.addI rfl rfl rfl rfl (c := ((i + 1 : Nat) : Int)) (by omega) (by omega)) ?_
      refine AL.cons rfl (AOp.move (.inl rfl) rfl rfl) ?_
      refine AL.nil ?_
      refine ⟨i + 1, ?_, ?_, ?_⟩
      · exact ⟨by omega, all_next (by omega) hi2 (all_end (by omega) hk2)⟩
      · skip
        exact Wk.mk (StLe.mk' ⟨⟨rfl, by (repeat' (first | exact PV.Le.refl _ | exact LeL.nil | exact PV.Le.nil _ | exact PV.Le.acc _ _ _ | apply LeL.cons | apply PV.Le.agg | apply PV.Le.tup)), rfl⟩, trivial⟩ rfl) (keeps_nil hC) ⟨⟨_, rfl, .refl _, rfl⟩, ⟨⟨_, rfl, .refl _, rfl⟩, ⟨⟨_, rfl, .refl _, rfl⟩, ⟨⟨_, rfl, .refl _, rfl⟩, ⟨⟨_, rfl, by (repeat' (first | exact PV.Le.refl _ | exact LeL.nil | exact PV.Le.nil _ | exact PV.Le.acc _ _ _ | apply LeL.cons | apply PV.Le.agg | apply PV.Le.tup)), rfl⟩, trivial⟩⟩⟩⟩⟩
      · omega
  · skip
    have h3b := h3
    try simp only [Bool.and_eq_true, Bool.or_eq_true, Bool.and_eq_false_iff, Bool.or_eq_false_iff, decide_eq_true_eq, decide_eq_false_iff_not, Bool.not_eq_true', Bool.not_eq_false', Bool.not_eq_eq_eq_not, Bool.not_true, Bool.not_false, ge_iff_le, gt_iff_lt, Int.not_lt, Int.not_le] at h3b
    have h3n : i ≥ w.gPackages.length := by omega
    refine AWP.exit ?_
    refine AWP.seq ?_
    refine AWP.region_lit ?_
    refine AL.cons rfl (AOp.move (.inr rfl) rfl rfl) ?_
    refine AL.nil ?_
    refine AWP.ret ?_
    exact Ends.mk (ps := [_]) (.inr rfl) ⟨rfl, trivial⟩ rfl (StLe.mk' (st' := ⟨[], []⟩) trivial rfl) (keeps_nil hC) (q := (.t (.leaf (.bool (true))) : PV)) (by (repeat' (first | exact PV.Le.refl _ | exact LeL.nil | exact PV.Le.nil _ | exact PV.Le.acc _ _ _ | apply LeL.cons | apply PV.Le.agg | apply PV.Le.tup))) rfl ⟨by rw [all_end (by omega) hi2], rfl⟩

set_option maxRecDepth 100000 in
set_option maxHeartbeats 4000000 in
theorem acyclic_spec (w : GProgram) (hb : w.allSup.length ≤ 1099511627776) : AFun Try.prog 40 [(GProgram.pv w)] (.t (.leaf (.bool (GProgram.acyclic w)))) := by
  refine ACalls.intro Try.func40 rfl (by first | decide | (simp; done) | (simp; decide)) ?_
  intro C hC
  refine AWP.seq ?_
  refine AWP.region_lit ?_
  refine AL.cons rfl (AOp.box (cs := [.t (.row 6 (GPackage.trs (w.gPackages)))]) rfl rfl rfl rfl rfl) ?_
  refine AL.cons rfl (AOp.move (.inr rfl) rfl rfl) ?_
  refine AL.nil ?_
  refine AWP.seq ?_
  refine AWP.seq ?_
  refine AWP.region_lit ?_
  refine AL.cons rfl (AOp.move (.inr rfl) rfl rfl) ?_
  refine AL.nil ?_
  refine AWP.block ?_
  refine AWP.loopJ (ι := Nat) (fun i => i ≤ w.gPackages.length ∧ w.acyclic = (w.gPackages.drop i).all (fun p => p.gTraits.all (fun t => !decide (t.gName ∈ w.supers t.gName)))) (fun i => ⟨[(0, (GProgram.pv w)), (1, .ptr 0 0), (3, .t (.leaf (.int .i64 (((i : Nat) : Int)))))], ⟨[some ⟨63, [.t (.row 6 (GPackage.trs (w.gPackages)))]⟩], []⟩⟩) (fun i => w.gPackages.length - i) 0 ?_ ?_ ?_
  · exact ⟨Nat.zero_le _, rfl⟩
  · skip
    exact Wk.mk (StLe.mk' ⟨⟨rfl, by (repeat' (first | exact PV.Le.refl _ | exact LeL.nil | exact PV.Le.nil _ | exact PV.Le.acc _ _ _ | apply LeL.cons | apply PV.Le.agg | apply PV.Le.tup)), rfl⟩, trivial⟩ rfl) (keeps_nil hC) ⟨⟨_, rfl, .refl _, rfl⟩, ⟨⟨_, rfl, .refl _, rfl⟩, ⟨⟨_, rfl, by (repeat' (first | exact PV.Le.refl _ | exact LeL.nil | exact PV.Le.nil _ | exact PV.Le.acc _ _ _ | apply LeL.cons | apply PV.Le.agg | apply PV.Le.tup)), rfl⟩, trivial⟩⟩⟩
  rintro i hJ1
  obtain ⟨hi1, hi2⟩ := hJ1
  refine AWP.seq ?_
  refine AWP.seq ?_
  refine AWP.region_lit ?_
  refine AL.cons rfl (AOp.move (.inl rfl) rfl rfl) ?_
  refine AL.cons rfl (AOp.fieldPtr (k := 0) (d := 0) (e := 0) rfl rfl rfl fo63_0) ?_
  refine AL.cons rfl (AOp.loadPtr1 rfl rfl rfl rfl sh61 rfl) ?_
  refine AL.fact (lk_lenN 7 rfl rfl (GPackage.trs_len _)) (fun hl2 => ?_)
  refine AL.cons rfl (AOp.lenN rfl rfl rfl rfl el61 (GPackage.trs_len _)) ?_
  refine AL.cons rfl (AOp.lss rfl rfl rfl rfl) ?_
  refine AL.nil ?_
  refine AWP.cond rfl (fun h3 => ?_) (fun h3 => ?_)
  · skip
    have h3b := h3
    try simp only [Bool.and_eq_true, Bool.or_eq_true, Bool.and_eq_false_iff, Bool.or_eq_false_iff, decide_eq_true_eq, decide_eq_false_iff_not, Bool.not_eq_true', Bool.not_eq_false', Bool.not_eq_eq_eq_not, Bool.not_true, Bool.not_false, ge_iff_le, gt_iff_lt, Int.not_lt, Int.not_le] at h3b
    have h3n : i < w.gPackages.length := by omega
    refine AWP.skip ?_
    refine AWP.seq ?_
    refine AWP.block ?_
    refine AWP.seq ?_
    refine AWP.region_lit ?_
    refine AL.cons rfl (AOp.move (.inr rfl) rfl rfl) ?_
    refine AL.nil ?_
    refine AWP.block ?_
    refine AWP.loopJ (ι := Nat) (fun k => k ≤ (w.gPackages[i]).gTraits.length ∧ (w.gPackages[i]).gTraits.all (fun t => !decide (t.gName ∈ w.supers t.gName)) = ((w.gPackages[i]).gTraits.drop k).all (fun t => !decide (t.gName ∈ w.supers t.gName))) (fun k => ⟨[(0, (GProgram.pv w)), (1, .ptr 0 0), (3, .t (.leaf (.int .i64 (((i : Nat) : Int))))), (4, .t (.leaf (.int .i64 (((k : Nat) : Int)))))], ⟨[some ⟨63, [.t (.row 6 (GPackage.trs (w.gPackages)))]⟩], []⟩⟩) (fun k => (w.gPackages[i]).gTraits.length - k) 0 ?_ ?_ ?_
    · exact ⟨Nat.zero_le _, rfl⟩
    · skip
      exact Wk.mk (StLe.mk' ⟨⟨rfl, by (repeat' (first | exact PV.Le.refl _ | exact LeL.nil | exact PV.Le.nil _ | exact PV.Le.acc _ _ _ | apply LeL.cons | apply PV.Le.agg | apply PV.Le.tup)), rfl⟩, trivial⟩ rfl) (keeps_nil hC) ⟨⟨_, rfl, .refl _, rfl⟩, ⟨⟨_, rfl, .refl _, rfl⟩, ⟨⟨_, rfl, .refl _, rfl⟩, ⟨⟨_, rfl, by (repeat' (first | exact PV.Le.refl _ | exact LeL.nil | exact PV.Le.nil _ | exact PV.Le.acc _ _ _ | apply LeL.cons | apply PV.Le.agg | apply PV.Le.tup)), rfl⟩, trivial⟩⟩⟩⟩
    rintro k hJ4
    obtain ⟨hk1, hk2⟩ := hJ4
    refine AWP.seq ?_
    refine AWP.seq ?_
    refine AWP.region_lit ?_
    refine AL.cons rfl (AOp.move (.inl rfl) rfl rfl) ?_
    refine AL.cons rfl (AOp.fieldPtr (k := 0) (d := 0) (e := 0) rfl rfl rfl fo63_0) ?_
    refine AL.cons rfl (AOp.loadPtr1 rfl rfl rfl rfl sh61 rfl) ?_
    refine AL.cons rfl (AOp.move (.inl rfl) rfl rfl) ?_
    refine AL.cons rfl (AOp.index (k := i) rfl rfl rfl rfl rfl (GPackage.trs_cs h3n) el61) ?_
    refine AL.cons rfl (AOp.fieldEptr (cs := (GPackage.cs (w.gPackages[i]))) (e := 2) rfl rfl rfl fo151_2) ?_
    refine AL.cons rfl (AOp.loadEptr1 (d := .row 5 (GTrait.trs ((w.gPackages[i]).gTraits))) rfl rfl rfl sh146 rfl) ?_
    refine AL.fact (lk_lenN 18 rfl rfl (GTrait.trs_len _)) (fun hl5 => ?_)
    refine AL.cons rfl (AOp.lenN rfl rfl rfl rfl el146 (GTrait.trs_len _)) ?_
    refine AL.cons rfl (AOp.lss rfl rfl rfl rfl) ?_
    refine AL.nil ?_
    refine AWP.cond rfl (fun h6 => ?_) (fun h6 => ?_)
    · skip
      have h6b := h6
      try simp only [Bool.and_eq_true, Bool.or_eq_true, Bool.and_eq_false_iff, Bool.or_eq_false_iff, decide_eq_true_eq, decide_eq_false_iff_not, Bool.not_eq_true', Bool.not_eq_false', Bool.not_eq_eq_eq_not, Bool.not_true, Bool.not_false, ge_iff_le, gt_iff_lt, Int.not_lt, Int.not_le] at h6b
      have h6n : k < ((w.gPackages[i]).gTraits).length := by omega
      refine AWP.skip ?_
      refine AWP.seq ?_
      refine AWP.block ?_
      refine AWP.seq ?_
      refine AWP.drawnL ⟨_, _, fun _ _ => (⟨[some ⟨63, [.t (.row 6 (GPackage.trs (w.gPackages)))]⟩], []⟩ : Sto), fun q' => ([some ((GProgram.pv w)), some (.ptr 0 0), some (.t (.row 6 (GPackage.trs (w.gPackages)))), some (.t (.leaf (.int .i64 (((i : Nat) : Int))))), some (.eptr (GPackage.cs (w.gPackages[i]))), some (.eptr ((GPackage.cs (w.gPackages[i])).drop 2)), some (.t (.row 5 (GTrait.trs ((w.gPackages[i]).gTraits)))), some (.t (.leaf (.int .i64 (((k : Nat) : Int))))), some (.eptr (GTrait.cs (((w.gPackages[i]).gTraits)[k]))), some (.eptr (GTrait.cs (((w.gPackages[i]).gTraits)[k]))), some (.t (.leaf (.string ((((w.gPackages[i]).gTraits)[k]).gName)))), some (.t (.row 1 (strTrs (GProgram.supers w ((((w.gPackages[i]).gTraits)[k]).gName))))), some (.ptr 0 0), some (.t (.row 6 (GPackage.trs (w.gPackages)))), some (.t (.leaf (.int .i64 (((i : Nat) : Int))))), some (.eptr (GPackage.cs (w.gPackages[i]))), some (.eptr ((GPackage.cs (w.gPackages[i])).drop 2)), some (.t (.row 5 (GTrait.trs ((w.gPackages[i]).gTraits)))), some (.t (.leaf (.int .i64 (((k : Nat) : Int))))), some (.eptr (GTrait.cs (((w.gPackages[i]).gTraits)[k]))), some (.eptr (GTrait.cs (((w.gPackages[i]).gTraits)[k]))), some (.t (.leaf (.string ((((w.gPackages[i]).gTraits)[k]).gName)))), some (.t (.leaf (.bool (decide (((((w.gPackages[i]).gTraits)[k]).gName) ∈ (GProgram.supers w ((((w.gPackages[i]).gTraits)[k]).gName)))))))] : List (Option PV)).getD q' none, fun q' => ([.q 0 0, .q 0 0, .q 0 0, .q 0 0, .q 0 0, .q 0 0, .q 0 0, .q 0 0, .q 0 0, .q 0 0, .q 0 0, .q 0 0, .q 0 0, .q 0 0, .q 0 0, .q 0 0, .q 0 0, .q 0 0, .q 0 0, .q 0 0, .q 0 0, .q 0 0, .q 0 0] : List DK).getD q' (.q 0 0), [], none, fun q' => ([[(1, none)], [(1, none)], [(24, some 1)], [(3, none)], [(25, some 2), (26, some 3)], [(27, some 4)], [(28, some 5)], [(4, none)], [(29, some 6), (30, some 7)], [(31, some 8)], [(32, some 9)], [(33, some 10), (23, some 0)], [(1, none)], [(35, some 12)], [(3, none)], [(36, some 13), (37, some 14)], [(38, some 15)], [(39, some 16)], [(4, none)], [(40, some 17), (41, some 18)], [(42, some 19)], [(43, some 20)], [(44, some 21), (34, some 11)]] : List (List (Nat × Option Nat))).getD q' []⟩ rfl mixed (by kernel_rfl) rfl rfl ⟨?_, ?_, ?_, ?_, ?_, ?_, ?_, ?_, ?_, ?_, ?_, ?_, ?_, ?_, ?_, ?_, ?_, ?_, ?_, ?_, ?_, ?_, ?_, trivial⟩ rfl ?_
      · refine .inl ⟨rfl, fun s' jj bb (h1 : 0 ≤ jj) (h2 : jj ≤ 0) hs hl => ?_⟩
        obtain rfl : jj = 0 := by omega
        exact ⟨_, rfl, AOp.loadPtr (cs := [.t (.row 6 (GPackage.trs (w.gPackages)))]) rfl rfl (hl 1 none _ (.head _) rfl) (by rw [hs]; rfl) sh63 rfl rfl⟩
      · refine .inl ⟨rfl, fun s' jj bb (h1 : 0 ≤ jj) (h2 : jj ≤ 0) hs hl => ?_⟩
        obtain rfl : jj = 0 := by omega
        exact ⟨_, rfl, AOp.fieldPtr (k := 0) (d := 0) (e := 0) rfl rfl (hl 1 none _ (.head _) rfl) fo63_0⟩
      · refine .inl ⟨rfl, fun s' jj bb (h1 : 0 ≤ jj) (h2 : jj ≤ 0) hs hl => ?_⟩
        obtain rfl : jj = 0 := by omega
        exact ⟨_, rfl, AOp.loadPtr1 rfl rfl (hl 24 (some 1) _ (.head _) rfl) (by rw [hs]; rfl) sh61 rfl⟩
      · refine .inl ⟨rfl, fun s' jj bb (h1 : 0 ≤ jj) (h2 : jj ≤ 0) hs hl => ?_⟩
        obtain rfl : jj = 0 := by omega
        exact ⟨_, rfl, AOp.move (.inl rfl) rfl (hl 3 none _ (.head _) rfl)⟩
      · refine .inl ⟨rfl, fun s' jj bb (h1 : 0 ≤ jj) (h2 : jj ≤ 0) hs hl => ?_⟩
        obtain rfl : jj = 0 := by omega
        exact ⟨_, rfl, AOp.index (k := i) rfl rfl (hl 25 (some 2) _ (.head _) rfl) rfl (hl 26 (some 3) _ (.tail _ (.head _)) rfl) (GPackage.trs_cs h3n) el61⟩
      · refine .inl ⟨rfl, fun s' jj bb (h1 : 0 ≤ jj) (h2 : jj ≤ 0) hs hl => ?_⟩
        obtain rfl : jj = 0 := by omega
        exact ⟨_, rfl, AOp.fieldEptr (cs := (GPackage.cs (w.gPackages[i]))) (e := 2) rfl rfl (hl 27 (some 4) _ (.head _) rfl) fo151_2⟩
      · refine .inl ⟨rfl, fun s' jj bb (h1 : 0 ≤ jj) (h2 : jj ≤ 0) hs hl => ?_⟩
        obtain rfl : jj = 0 := by omega
        exact ⟨_, rfl, AOp.loadEptr1 (d := .row 5 (GTrait.trs ((w.gPackages[i]).gTraits))) rfl rfl (hl 28 (some 5) _ (.head _) rfl) sh146 rfl⟩
      · refine .inl ⟨rfl, fun s' jj bb (h1 : 0 ≤ jj) (h2 : jj ≤ 0) hs hl => ?_⟩
        obtain rfl : jj = 0 := by omega
        exact ⟨_, rfl, AOp.move (.inl rfl) rfl (hl 4 none _ (.head _) rfl)⟩
      · refine .inl ⟨rfl, fun s' jj bb (h1 : 0 ≤ jj) (h2 : jj ≤ 0) hs hl => ?_⟩
        obtain rfl : jj = 0 := by omega
        exact ⟨_, rfl, AOp.index (k := k) rfl rfl (hl 29 (some 6) _ (.head _) rfl) rfl (hl 30 (some 7) _ (.tail _ (.head _)) rfl) (GTrait.trs_cs h6n) el146⟩
      · refine .inl ⟨rfl, fun s' jj bb (h1 : 0 ≤ jj) (h2 : jj ≤ 0) hs hl => ?_⟩
        obtain rfl : jj = 0 := by omega
        exact ⟨_, rfl, AOp.fieldEptr (cs := (GTrait.cs (((w.gPackages[i]).gTraits)[k]))) (e := 0) rfl rfl (hl 31 (some 8) _ (.head _) rfl) fo75_0⟩
      · refine .inl ⟨rfl, fun s' jj bb (h1 : 0 ≤ jj) (h2 : jj ≤ 0) hs hl => ?_⟩
        obtain rfl : jj = 0 := by omega
        exact ⟨_, rfl, AOp.loadEptr1 (d := .leaf (.string ((((w.gPackages[i]).gTraits)[k]).gName))) rfl rfl (hl 32 (some 9) _ (.head _) rfl) sh9 rfl⟩
      · refine .inl ⟨rfl, fun s' jj bb (h1 : 0 ≤ jj) (h2 : jj ≤ 0) hs hl => ?_⟩
        obtain rfl : jj = 0 := by omega
        exact ⟨_, rfl, AOp.callF (ps := [_, _]) rfl rfl Try.func37 (by kernel_rfl) rfl (evs_cons (hl 23 (some 0) _ (.tail _ (.head _)) rfl) (evs_cons (hl 33 (some 10) _ (.head _) rfl) rfl)) (by (repeat' (first | exact PV.Le.refl _ | exact LeL.nil | exact PV.Le.nil _ | exact PV.Le.acc _ _ _ | apply LeL.cons | apply PV.Le.agg | apply PV.Le.tup))) rfl rfl (allSup_spec w ((((w.gPackages[i]).gTraits)[k]).gName) (by assumption))⟩
      · refine .inl ⟨rfl, fun s' jj bb (h1 : 0 ≤ jj) (h2 : jj ≤ 0) hs hl => ?_⟩
        obtain rfl : jj = 0 := by omega
        exact ⟨_, rfl, AOp.fieldPtr (k := 0) (d := 0) (e := 0) rfl rfl (hl 1 none _ (.head _) rfl) fo63_0⟩
      · refine .inl ⟨rfl, fun s' jj bb (h1 : 0 ≤ jj) (h2 : jj ≤ 0) hs hl => ?_⟩
        obtain rfl : jj = 0 := by omega
        exact ⟨_, rfl, AOp.loadPtr1 rfl rfl (hl 35 (some 12) _ (.head _) rfl) (by rw [hs]; rfl) sh61 rfl⟩
      · refine .inl ⟨rfl, fun s' jj bb (h1 : 0 ≤ jj) (h2 : jj ≤ 0) hs hl => ?_⟩
        obtain rfl : jj = 0 := by omega
        exact ⟨_, rfl, AOp.move (.inl rfl) rfl (hl 3 none _ (.head _) rfl)⟩
      · refine .inl ⟨rfl, fun s' jj bb (h1 : 0 ≤ jj) (h2 : jj ≤ 0) hs hl => ?_⟩
        obtain rfl : jj = 0 := by omega
        exact ⟨_, rfl, AOp.index (k := i) rfl rfl (hl 36 (some 13) _ (.head _) rfl) rfl (hl 37 (some 14) _ (.tail _ (.head _)) rfl) (GPackage.trs_cs h3n) el61⟩
      · refine .inl ⟨rfl, fun s' jj bb (h1 : 0 ≤ jj) (h2 : jj ≤ 0) hs hl => ?_⟩
        obtain rfl : jj = 0 := by omega
        exact ⟨_, rfl, AOp.fieldEptr (cs := (GPackage.cs (w.gPackages[i]))) (e := 2) rfl rfl (hl 38 (some 15) _ (.head _) rfl) fo151_2⟩
      · refine .inl ⟨rfl, fun s' jj bb (h1 : 0 ≤ jj) (h2 : jj ≤ 0) hs hl => ?_⟩
        obtain rfl : jj = 0 := by omega
        exact ⟨_, rfl, AOp.loadEptr1 (d := .row 5 (GTrait.trs ((w.gPackages[i]).gTraits))) rfl rfl (hl 39 (some 16) _ (.head _) rfl) sh146 rfl⟩
      · refine .inl ⟨rfl, fun s' jj bb (h1 : 0 ≤ jj) (h2 : jj ≤ 0) hs hl => ?_⟩
        obtain rfl : jj = 0 := by omega
        exact ⟨_, rfl, AOp.move (.inl rfl) rfl (hl 4 none _ (.head _) rfl)⟩
      · refine .inl ⟨rfl, fun s' jj bb (h1 : 0 ≤ jj) (h2 : jj ≤ 0) hs hl => ?_⟩
        obtain rfl : jj = 0 := by omega
        exact ⟨_, rfl, AOp.index (k := k) rfl rfl (hl 40 (some 17) _ (.head _) rfl) rfl (hl 41 (some 18) _ (.tail _ (.head _)) rfl) (GTrait.trs_cs h6n) el146⟩
      · refine .inl ⟨rfl, fun s' jj bb (h1 : 0 ≤ jj) (h2 : jj ≤ 0) hs hl => ?_⟩
        obtain rfl : jj = 0 := by omega
        exact ⟨_, rfl, AOp.fieldEptr (cs := (GTrait.cs (((w.gPackages[i]).gTraits)[k]))) (e := 0) rfl rfl (hl 42 (some 19) _ (.head _) rfl) fo75_0⟩
      · refine .inl ⟨rfl, fun s' jj bb (h1 : 0 ≤ jj) (h2 : jj ≤ 0) hs hl => ?_⟩
        obtain rfl : jj = 0 := by omega
        exact ⟨_, rfl, AOp.loadEptr1 (d := .leaf (.string ((((w.gPackages[i]).gTraits)[k]).gName))) rfl rfl (hl 43 (some 20) _ (.head _) rfl) sh9 rfl⟩
      · refine .inl ⟨rfl, fun s' jj bb (h1 : 0 ≤ jj) (h2 : jj ≤ 0) hs hl => ?_⟩
        obtain rfl : jj = 0 := by omega
        exact ⟨_, rfl, AOp.callF (ps := [_, _]) rfl rfl Try.func104 (by kernel_rfl) rfl (evs_cons (hl 34 (some 11) _ (.tail _ (.head _)) rfl) (evs_cons (hl 44 (some 21) _ (.head _) rfl) rfl)) (by (repeat' (first | exact PV.Le.refl _ | exact LeL.nil | exact PV.Le.nil _ | exact PV.Le.acc _ _ _ | apply LeL.cons | apply PV.Le.agg | apply PV.Le.tup))) rfl rfl (has_spec (GProgram.supers w ((((w.gPackages[i]).gTraits)[k]).gName)) ((((w.gPackages[i]).gTraits)[k]).gName))⟩
      refine AWP.cond rfl (fun h7 => ?_) (fun h7 => ?_)
      · skip
        have h7b := h7
        try simp only [Bool.and_eq_true, Bool.or_eq_true, Bool.and_eq_false_iff, Bool.or_eq_false_iff, decide_eq_true_eq, decide_eq_false_iff_not, Bool.not_eq_true', Bool.not_eq_false', Bool.not_eq_eq_eq_not, Bool.not_true, Bool.not_false, ge_iff_le, gt_iff_lt, Int.not_lt, Int.not_le] at h7b
        refine AWP.seq ?_
        refine AWP.region_lit ?_
        refine AL.cons rfl (AOp.move (.inr rfl) rfl rfl) ?_
        refine AL.nil ?_
        refine AWP.ret ?_
        exact Ends.mk (ps := [_]) (.inr rfl) ⟨rfl, trivial⟩ rfl (StLe.mk' (st' := ⟨[], []⟩) trivial rfl) (keeps_nil hC) (q := (.t (.leaf (.bool (false))) : PV)) (by (repeat' (first | exact PV.Le.refl _ | exact LeL.nil | exact PV.Le.nil _ | exact PV.Le.acc _ _ _ | apply LeL.cons | apply PV.Le.agg | apply PV.Le.tup))) rfl ⟨by rw [all_false (by omega) hi2 (all_false (by omega) hk2 (by simpa using ‹_›))], rfl⟩
      · skip
        have h7b := h7
        try simp only [Bool.and_eq_true, Bool.or_eq_true, Bool.and_eq_false_iff, Bool.or_eq_false_iff, decide_eq_true_eq, decide_eq_false_iff_not, Bool.not_eq_true', Bool.not_eq_false', Bool.not_eq_eq_eq_not, Bool.not_true, Bool.not_false, ge_iff_le, gt_iff_lt, Int.not_lt, Int.not_le] at h7b
        refine AWP.skip ?_
        refine AWP.region_lit ?_
        refine AL.cons rfl (AOp.move (.inl rfl) rfl rfl) ?_
        refine AL.cons rfl (AOp.addI rfl rfl rfl rfl (c := ((k + 1 : Nat) : Int)) (by omega) (by omega)) ?_
        refine AL.cons rfl (AOp.move (.inr rfl) rfl rfl) ?_
        refine AL.nil ?_
        refine ⟨k + 1, ?_, ?_, ?_⟩
        · exact ⟨by omega, all_next (by omega) hk2 (by simpa using ‹_›)⟩
        · skip
          exact Wk.mk (StLe.mk' ⟨⟨rfl, by (repeat' (first | exact PV.Le.refl _ | exact LeL.nil | exact PV.Le.nil _ | exact PV.Le.acc _ _ _ | apply LeL.cons | apply PV.Le.agg | apply PV.Le.tup)), rfl⟩, trivial⟩ rfl) (keeps_nil hC) ⟨⟨_, rfl, .refl _, rfl⟩, ⟨⟨_, rfl, .refl _, rfl⟩, ⟨⟨_, rfl, .refl _, rfl⟩, ⟨⟨_, rfl, by (repeat' (first | exact PV.Le.refl _ | exact LeL.nil | exact PV.Le.nil _ | exact PV.Le.acc _ _ _ | apply LeL.cons | apply PV.Le.agg | apply PV.Le.tup)), rfl⟩, trivial⟩⟩⟩⟩
        · omega
    · skip
      have h6b := h6
      try simp only [Bool.and_eq_true, Bool.or_eq_true, Bool.and_eq_false_iff, Bool.or_eq_false_iff, decide_eq_true_eq, decide_eq_false_iff_not, Bool.not_eq_true', Bool.not_eq_false', Bool.not_eq_eq_eq_not, Bool.not_true, Bool.not_false, ge_iff_le, gt_iff_lt, Int.not_lt, Int.not_le] at h6b
      have h6n : k ≥ ((w.gPackages[i]).gTraits).length := by omega
      refine AWP.exit ?_
      refine AWP.region_lit ?_
      refine AL.cons rfl (AOp.move (.inl rfl) rfl rfl) ?_
      refine AL.cons rfl (AOp.addI rfl rfl rfl rfl (c := ((i + 1 : Nat) : Int)) (by omega) (by omega)) ?_
      refine AL.cons rfl (AOp.move (.inr rfl) rfl rfl) ?_
      refine AL.nil ?_
      refine ⟨i + 1, ?_, ?_, ?_⟩
      · exact ⟨by omega, all_next (by omega) hi2 (all_end (by omega) hk2)⟩
      · skip
        exact Wk.mk (StLe.mk' ⟨⟨rfl, by (repeat' (first | exact PV.Le.refl _ | exact LeL.nil | exact PV.Le.nil _ | exact PV.Le.acc _ _ _ | apply LeL.cons | apply PV.Le.agg | apply PV.Le.tup)), rfl⟩, trivial⟩ rfl) (keeps_nil hC) ⟨⟨_, rfl, .refl _, rfl⟩, ⟨⟨_, rfl, .refl _, rfl⟩, ⟨⟨_, rfl, by (repeat' (first | exact PV.Le.refl _ | exact LeL.nil | exact PV.Le.nil _ | exact PV.Le.acc _ _ _ | apply LeL.cons | apply PV.Le.agg | apply PV.Le.tup)), rfl⟩, trivial⟩⟩⟩
      · omega
  · skip
    have h3b := h3
    try simp only [Bool.and_eq_true, Bool.or_eq_true, Bool.and_eq_false_iff, Bool.or_eq_false_iff, decide_eq_true_eq, decide_eq_false_iff_not, Bool.not_eq_true', Bool.not_eq_false', Bool.not_eq_eq_eq_not, Bool.not_true, Bool.not_false, ge_iff_le, gt_iff_lt, Int.not_lt, Int.not_le] at h3b
    have h3n : i ≥ w.gPackages.length := by omega
    refine AWP.exit ?_
    refine AWP.seq ?_
    refine AWP.region_lit ?_
    refine AL.cons rfl (AOp.move (.inr rfl) rfl rfl) ?_
    refine AL.nil ?_
    refine AWP.ret ?_
    exact Ends.mk (ps := [_]) (.inr rfl) ⟨rfl, trivial⟩ rfl (StLe.mk' (st' := ⟨[], []⟩) trivial rfl) (keeps_nil hC) (q := (.t (.leaf (.bool (true))) : PV)) (by (repeat' (first | exact PV.Le.refl _ | exact LeL.nil | exact PV.Le.nil _ | exact PV.Le.acc _ _ _ | apply LeL.cons | apply PV.Le.agg | apply PV.Le.tup))) rfl ⟨by rw [all_end (by omega) hi2], rfl⟩

end Go.Proofs.Ytoifjkggpanceaa

namespace Go.Proofs.Ytoifjkggpanceaa
open Go.RowKit Go.WalkArith Go.IntWalk Go.WideShapes
section
variable {P : Program} {C : Ctx} {n : Nat} {s : AS} {o : Oper}
theorem run_eqB {T : TypeId} (hT : P.underlying T = some .bool) (a b : Bool) (w : World) : (Op.equalIn Op.maxDepth T (.bool a) (.bool b)).run P w = .ok (a == b) w := by
  unfold Op.maxDepth Op.equalIn
  simp [run_underlying hT]
theorem AOp.eqlB {T yT : TypeId} {x y : Operand} {a b : Bool} (ho : o.op = .binOp .eql T x y yT) (hd : dstOk o.dst n = true) (hx : s.ev x = some (.t (.leaf (.bool a)))) (hy : s.ev y = some (.t (.leaf (.bool b)))) (hT : P.underlying T = some .bool) :
    AOp P C n o s (s.putO o.dst (.t (.leaf (.bool (decide (a = b)))))) := AOp.bin ho hd hx hy (fun w => by
      simp [eqGuard, binOp, Op.equal, run_eqB hT]
      cases a <;> cases b <;> rfl) trivial
theorem AOp.neqB {T yT : TypeId} {x y : Operand} {a b : Bool} (ho : o.op = .binOp .neq T x y yT) (hd : dstOk o.dst n = true) (hx : s.ev x = some (.t (.leaf (.bool a)))) (hy : s.ev y = some (.t (.leaf (.bool b)))) (hT : P.underlying T = some .bool) :
    AOp P C n o s (s.putO o.dst (.t (.leaf (.bool (!decide (a = b)))))) := AOp.bin ho hd hx hy (fun w => by
      simp [eqGuard, binOp, Op.equal, run_eqB hT]
      cases a <;> cases b <;> rfl) trivial
end
end Go.Proofs.Ytoifjkggpanceaa

namespace Go.Proofs.Ytoifjkggpanceaa
set_option linter.unusedSimpArgs false
set_option linter.unusedVariables false
open Go.RowKit Go.Maps Go.Proofs Go.WideMaps

theorem plainElem_bool_inv {P : Program} {e : TypeId} (he : P.underlying e = some .bool) {v : Value} {z : DataW Unit × List MemPlace} (h : plainElem P e v = some z) : ∃ x, v = .bool x ∧ z = (.lit (.bool x), []) := by
  unfold plainElem at h
  rw [he] at h
  cases v <;> simp at h
  exact ⟨_, rfl, h.symm⟩
theorem wpList_lookup_own_bool {P : Program} (w : World) {ops : Array Oper} {rest : List Oper} {o : Oper} {a : Act} {Q : Exit → Act → World → Prop}
    (hg : o.guard = none) (m x : Operand) (t : TypeId) (hop : o.op = Op.lookup t m x false)
    (k e : TypeId) (K : Keyed P k) (ht : P.underlying t = some (.map k e)) (he : P.underlying e = some .bool) (hz : (zeroValue e).run P w = .ok (.bool false) w) (b n : Nat) (D : DataW Unit)
    (hm : a.eval m = .map (some b)) (hown : w.ownsMap P k (plainElem P e) b n D) (key : Value) (kl : Lit) (hx : a.eval x = key) (hkey : keyOf P k key = some kl)
    (hK : ∀ c : Bool, D.atKey kl (.lit (.bool false)) = .lit (.bool c) → wpList P ops Q rest (a.put o.dst (.bool c)) w) :
    wpList P ops Q (o :: rest) a w := by
  refine wpList_plain hg fun K' hK' => ?_
  obtain ⟨v, ps, hrun, hv⟩ := hown.lookup K ht hz (plainElem_bool he false) hkey
  obtain ⟨c, rfl, hc⟩ := plainElem_bool_inv he hv
  simp only [Prod.mk.injEq] at hc
  unfold Oper.wp
  simp [execOp, hop, hm, hx, hrun, Result.andThen]
  exact hK' _ _ (hK c hc.1)
theorem strKey_inj {a b : ByteArray} (h : Lit.string a.data.toList = Lit.string b.data.toList) : a = b := by
  obtain ⟨⟨x⟩⟩ := a
  obtain ⟨⟨y⟩⟩ := b
  injection h with h
  have h : x = y := h
  rw [h]
theorem keyLaw : Keyed Try.prog 9 := string_keyed Try.underlying9
theorem zeroBool (w : World) : (zeroValue 4).run Try.prog w = .ok (.bool false) w := by kernel_rfl
/-- The map holds just the strings met so far. -/
def Met (D : DataW Unit) (l : List ByteArray) : Prop := ∀ s : ByteArray, D.atKey (.string s.data.toList) (.lit (.bool false)) = .lit (.bool (l.any fun x => decide (x = s)))
theorem Met.nil : Met (.map []) [] := fun s => rfl
theorem Met.put {D : DataW Unit} {l : List ByteArray} {x : ByteArray} (h : Met D l) (hm : IsMap D) : Met (D.put (.string x.data.toList) (.lit (.bool true))) (l ++ [x]) := fun s => by
  by_cases hs : s = x
  · subst hs
    rw [atKey_put_same (k := .string s.data.toList) hm trivial, List.any_append]
    simp only [List.any_cons, decide_true, Bool.true_or, Bool.or_true]
  · rw [atKey_put_other (fun e => hs (strKey_inj e)), h s, List.any_append]
    have : ¬ x = s := fun e => hs e.symm
    simp only [List.any_cons, List.any_nil, decide_eq_false this, Bool.or_false]
theorem nodup_take {l : List ByteArray} {k : Nat} (h : k < l.length) (hn : (l.take k).Nodup) (hx : ¬ l[k] ∈ l.take k) : (l.take (k + 1)).Nodup := by
  rw [List.take_succ_eq_append_getElem h, List.nodup_append]
  refine ⟨hn, by simp, fun a ha b hb => ?_⟩
  have : b = l[k] := by simpa using hb
  subst this
  rintro rfl
  exact hx ha
theorem nodup_not {l : List ByteArray} {k : Nat} (h : k < l.length) (hx : l[k] ∈ l.take k) : ¬ l.Nodup := fun hn => by
  have h1 : (l.take (k + 1)).Nodup := hn.sublist (List.take_sublist _ _)
  rw [List.take_succ_eq_append_getElem h, List.nodup_append] at h1
  exact h1.2.2 _ hx _ (by simp) rfl

set_option maxRecDepth 100000 in
set_option maxHeartbeats 2000000 in
theorem allDistinct_calls (l : List ByteArray) (v : Value) (w : World) (hr : Rep w (.row 1 (strTrs l)) v) : Calls Try.prog 38 #[v] w fun e w' => e = .returned (.bool (decide l.Nodup)) ∧ Ext w w' := by
  have hmm := @run_makeMap Try.prog
  obtain ⟨a, cap, rfl, hl, hmx⟩ := hr.shape
  rw [strTrs_len] at *
  have HR := Lib.hid hr
  have hmx' : l.length ≤ 9223372036854775807 := by unfold maxLen at hmx; omega
  clear hr hmx
  go_enter Try.func38, Try.ntmps38
  go_wp2
  go_loopw [9] (fun i wr => ∃ (k : Nat) (D : DataW Unit), k ≤ l.length ∧ i = .int .i64 k ∧ Hid (wr.ownsMap Try.prog 9 (plainElem Try.prog 4) w.heap.size k D) ∧ Hid (Met D (l.take k)) ∧ Hid (l.take k).Nodup ∧ Hid (Below w.heap.size w wr)) (fun i _ => l.length - (intOf i).toNat)
  case atStart => exact ⟨0, .map [], Nat.zero_le _, rfl, World.ownsMap_made _ _ _ _, Met.nil, by show List.Nodup _; simp, (Below.refl _ _).alloc (Nat.le_refl _) _⟩
  case round =>
    obtain ⟨k, D, hk, rfl, HO, HM, HN, HB⟩ := hrel
    by_cases hlt : k < l.length
    · obtain ⟨b, off, cs, rfl, hb, hcs, hc⟩ := (HR.out.ext HB.out).at2 (k := k) (strTrs_get hlt)
      obtain ⟨x0, rfl⟩ := list1 hcs.length.symm
      obtain ⟨rfl, hlf⟩ := hcs.1.leaf_eq
      have hlf : l[k].size ≤ maxLen := hlf
      have hcx : wr.cell? ⟨b, off + k, none⟩ = some (.string l[k]) := by simpa using hc 0 _ rfl
      have hkey : keyOf Try.prog 9 (.string l[k]) = some (.string l[k].data.toList) := keyOf_string_mk Try.underlying9 hlf
      have ki : (k : Int) < (l.length : Int) := by omega
      have k0 : (0 : Int) ≤ (k : Int) := by omega
      have hMk := HM.out l[k]
      have HMK := Lib.hid hMk
      have HLF := Lib.hid hlf
      have hkm : k < maxLen := by unfold maxLen; omega
      clear hcs hc hMk hlf
      go_wp2_with (first
        | (at_lookup; refine wpList_lookup_own_bool _ rfl _ _ 145 rfl 9 4 keyLaw Try.underlying145 Try.underlying4 (zeroBool _) w.heap.size k D rfl HO.out _ _ rfl hkey ?_; intro c hat; rw [HMK.out] at hat; injection hat with hat; injection hat with hat; subst hat)
        | (at_mapUpdate; refine wpList_mapUpdate_own _ rfl _ _ _ 145 rfl 9 4 keyLaw Try.underlying145 (plainElem Try.prog 4) w.heap.size k D rfl HO.out hkm _ _ _ rfl rfl hkey (.lit (.bool true)) [] (plainElem_bool Try.underlying4 true) ?_; intro w1 hown1 hgrow1)
        | go_in)
      · -- the string was met
        have hany : ((l.take k).any fun x => decide (x = l[k])) = true := by assumption
        go_ret
        have hmem : l[k] ∈ l.take k := by
          obtain ⟨y, hy, he⟩ := List.any_eq_true.1 hany
          have : y = l[k] := by simpa using he
          exact this ▸ hy
        exact ⟨by rw [decide_eq_false (nodup_not hlt hmem)]; rfl, HB.out⟩
      · have hany : ((l.take k).any fun x => decide (x = l[k])) = false := by assumption
        go_roundw
        case rel =>
          refine ⟨k + 1, _, by omega, by go_num, hown1, ?_, ?_, HB.out.grown hgrow1 HB.out.size (fun j hj => by cases hj; exact Nat.le_refl _)⟩
          · show Met _ _
            rw [List.take_succ_eq_append_getElem hlt]
            exact HM.out.put HO.out.isMap
          · refine nodup_take hlt HN.out fun hm => ?_
            have : ((l.take k).any fun x => decide (x = l[k])) = true := List.any_eq_true.2 ⟨_, hm, by simp⟩
            rw [hany] at this
            cases this
        case measure => simp [intOf]; omega
    · have hkl : k = l.length := by omega
      go_wp2
      go_ret
      have h1 := HN.out
      rw [hkl, List.take_length] at h1
      exact ⟨by rw [decide_eq_true h1]; rfl, HB.out⟩
end Go.Proofs.Ytoifjkggpanceaa

namespace Go.Proofs.Ytoifjkggpanceaa
open Go.RowKit Go.Proofs
set_option linter.unusedSimpArgs false
set_option linter.unusedVariables false

theorem allDistinct_ok (l : List ByteArray) : AFun Try.prog 38 [.t (.row 1 (strTrs l))] (.t (.leaf (.bool (decide l.Nodup)))) := fun av m w vals hst hv => by
  match vals, hv with
  | [v], hv =>
    refine (allDistinct_calls l v w (RepM.rep hv.1)).mono fun e w' => ?_
    rintro ⟨rfl, hx⟩
    exact ⟨_, _, m, _, rfl, ⟨rfl, rfl⟩, hst.later hx, Ev.later hx, RepM.leaf trivial⟩
theorem supW_sig (code : List UInt8) (s : ByteArray) : (oTrait ((supW code).traitAt s)).gSignatures = [] := (worldOf_trait _ _).2.2
theorem supW_len (code : List UInt8) (s : ByteArray) : (oTrait ((supW code).traitAt s)).gSupertraits.length ≤ 1000 := Nat.le_trans (worldOf_trait _ _).2.1 (by decide)
theorem supW_path {code : List UInt8} {name s : ByteArray} (h : s ∈ (supW code).supers name) : (pathF (supW code) 8 name s).isSome = true := worldOf_path h
theorem oPath_some {o : Option (List Int)} (h : o.isSome = true) : o = some (oPath o) := by cases o <;> simp_all [oPath]
set_option maxRecDepth 100000 in
set_option maxHeartbeats 4000000 in
theorem fnSupers_ok (code : List UInt8) : AFun Try.prog 5 [.t (.row 1 (byteTrs (code)))] (.t (.leaf (.bool (true)))) := by
  have hA : (supW code).allSup.length ≤ 1099511627776 := worldOf_allSup _
  refine ACalls.intro Try.func5 rfl (by first | decide | (simp; done) | (simp; decide)) ?_
  intro C hC
  refine AWP.fact (lk_lenN 0 rfl rfl (byteTrs_len _)) (fun hl1 => ?_)
  refine AWP.seq ?_
  refine AWP.region_lit ?_
  refine AL.cons rfl (AOp.move (.inr rfl) rfl rfl) ?_
  refine AL.nil ?_
  refine AWP.seq ?_
  refine AWP.seq ?_
  refine AWP.region_lit ?_
  refine AL.cons rfl (AOp.move (.inl rfl) rfl rfl) ?_
  refine AL.cons rfl (AOp.callF (ps := [_]) rfl rfl Try.func33 (by kernel_rfl) rfl rfl (by (repeat' (first | exact PV.Le.refl _ | exact LeL.nil | exact PV.Le.nil _ | exact PV.Le.acc _ _ _ | apply LeL.cons | apply PV.Le.agg | apply PV.Le.tup))) rfl rfl (big_ok code)) ?_
  refine AL.nil ?_
  refine AWP.cond rfl (fun h2 => ?_) (fun h2 => ?_)
  · skip
    have h2b := h2
    try simp only [Bool.and_eq_true, Bool.or_eq_true, Bool.and_eq_false_iff, Bool.or_eq_false_iff, decide_eq_true_eq, decide_eq_false_iff_not, Bool.not_eq_true', Bool.not_eq_false', Bool.not_eq_eq_eq_not, Bool.not_true, Bool.not_false, ge_iff_le, gt_iff_lt, Int.not_lt, Int.not_le] at h2b
    refine AWP.seq ?_
    refine AWP.region_lit ?_
    refine AL.cons rfl (AOp.move (.inr rfl) rfl rfl) ?_
    refine AL.nil ?_
    refine AWP.ret ?_
    exact Ends.mk (ps := [_]) (.inr rfl) ⟨rfl, trivial⟩ rfl (StLe.mk' (st' := ⟨[], []⟩) trivial rfl) (keeps_nil hC) (q := (.t (.leaf (.bool (true))) : PV)) (by (repeat' (first | exact PV.Le.refl _ | exact LeL.nil | exact PV.Le.nil _ | exact PV.Le.acc _ _ _ | apply LeL.cons | apply PV.Le.agg | apply PV.Le.tup))) rfl ⟨by rfl, rfl⟩
  · skip
    have h2b := h2
    try simp only [Bool.and_eq_true, Bool.or_eq_true, Bool.and_eq_false_iff, Bool.or_eq_false_iff, decide_eq_true_eq, decide_eq_false_iff_not, Bool.not_eq_true', Bool.not_eq_false', Bool.not_eq_eq_eq_not, Bool.not_true, Bool.not_false, ge_iff_le, gt_iff_lt, Int.not_lt, Int.not_le] at h2b
    have hb : code.length ≤ 1048576 := by omega
    refine AWP.skip ?_
    refine AWP.seq ?_
    refine AWP.region_lit ?_
    refine AL.cons rfl (AOp.move (.inl rfl) rfl rfl) ?_
    refine AL.cons rfl (AOp.callF (ps := [_]) rfl rfl Try.func34 (by kernel_rfl) rfl rfl (by (repeat' (first | exact PV.Le.refl _ | exact LeL.nil | exact PV.Le.nil _ | exact PV.Le.acc _ _ _ | apply LeL.cons | apply PV.Le.agg | apply PV.Le.tup))) rfl rfl (supDraw_ok code (by omega))) ?_
    refine AL.cons rfl (AOp.move (.inl rfl) rfl rfl) ?_
    refine AL.cons rfl (AOp.extract rfl rfl rfl rfl) ?_
    refine AL.cons rfl (AOp.extract rfl rfl rfl rfl) ?_
    refine AL.cons rfl (AOp.alloc rfl rfl zr63) ?_
    refine AL.cons rfl (AOp.storePtr (cs := [.t (.row 6 (GPackage.trs ((supW code).gPackages)))]) (ds := [.t (.row 6 (GPackage.trs ((supW code).gPackages)))]) rfl rfl rfl rfl rfl rfl rfl sz63 (Nat.le_of_ble_eq_true rfl) rfl) ?_
    refine AL.cons rfl (AOp.move (.inr rfl) rfl rfl) ?_
    refine AL.nil ?_
    refine AWP.seq ?_
    refine AWP.region_lit ?_
    refine AL.cons rfl (AOp.loadPtr (cs := [.t (.row 6 (GPackage.trs ((supW code).gPackages)))]) rfl rfl rfl rfl sh63 rfl rfl) ?_
    refine AL.cons rfl (AOp.move (.inl rfl) rfl rfl) ?_
    refine AL.cons rfl (AOp.callF (ps := [_, _]) rfl rfl Try.func35 (by kernel_rfl) rfl rfl (by (repeat' (first | exact PV.Le.refl _ | exact LeL.nil | exact PV.Le.nil _ | exact PV.Le.acc _ _ _ | apply LeL.cons | apply PV.Le.agg | apply PV.Le.tup))) rfl rfl (allSup_impl (supW code) (supName code) (by assumption))) ?_
    refine AL.cons rfl (AOp.move (.inr rfl) rfl rfl) ?_
    refine AL.nil ?_
    refine AWP.seq ?_
    refine AWP.seq ?_
    rcases bool2 (!(decide ((GProgram.supers (supW code) (supName code)) = (GProgram.supers (supW code) (supName code))))) with g3 | g3
    · skip
      have g3b := g3
      try simp only [Bool.and_eq_true, Bool.or_eq_true, Bool.and_eq_false_iff, Bool.or_eq_false_iff, decide_eq_true_eq, decide_eq_false_iff_not, Bool.not_eq_true', Bool.not_eq_false', Bool.not_eq_eq_eq_not, Bool.not_true, Bool.not_false, ge_iff_le, gt_iff_lt, Int.not_lt, Int.not_le] at g3b
      simp at g3
    · skip
      have g3b := g3
      try simp only [Bool.and_eq_true, Bool.or_eq_true, Bool.and_eq_false_iff, Bool.or_eq_false_iff, decide_eq_true_eq, decide_eq_false_iff_not, Bool.not_eq_true', Bool.not_eq_false', Bool.not_eq_eq_eq_not, Bool.not_true, Bool.not_false, ge_iff_le, gt_iff_lt, Int.not_lt, Int.not_le] at g3b
      rcases bool2 (!(decide (List.Nodup (GProgram.supers (supW code) (supName code))))) with g4 | g4
      · skip
        have g4b := g4
        try simp only [Bool.and_eq_true, Bool.or_eq_true, Bool.and_eq_false_iff, Bool.or_eq_false_iff, decide_eq_true_eq, decide_eq_false_iff_not, Bool.not_eq_true', Bool.not_eq_false', Bool.not_eq_eq_eq_not, Bool.not_true, Bool.not_false, ge_iff_le, gt_iff_lt, Int.not_lt, Int.not_le] at g4b
        exact absurd (supers_nodup _ _) g4b
      · skip
        have g4b := g4
        try simp only [Bool.and_eq_true, Bool.or_eq_true, Bool.and_eq_false_iff, Bool.or_eq_false_iff, decide_eq_true_eq, decide_eq_false_iff_not, Bool.not_eq_true', Bool.not_eq_false', Bool.not_eq_eq_eq_not, Bool.not_true, Bool.not_false, ge_iff_le, gt_iff_lt, Int.not_lt, Int.not_le] at g4b
        refine AWP.drawnL ⟨_, _, fun _ _ => (⟨[some ⟨63, [.t (.row 6 (GPackage.trs ((supW code).gPackages)))]⟩], []⟩ : Sto), fun q' => ([some (.t (.row 1 (strTrs (GProgram.supers (supW code) (supName code))))), some ((GProgram.pv (supW code))), some (.t (.leaf (.string (supName code)))), some (.t (.row 1 (strTrs (GProgram.supers (supW code) (supName code))))), some (.t (.leaf (.bool (decide ((GProgram.supers (supW code) (supName code)) = (GProgram.supers (supW code) (supName code))))))), some (.t (.leaf (.bool (!(decide ((GProgram.supers (supW code) (supName code)) = (GProgram.supers (supW code) (supName code)))))))), some (.t (.leaf (.bool (!(decide ((GProgram.supers (supW code) (supName code)) = (GProgram.supers (supW code) (supName code)))))))), some (.t (.row 1 (strTrs (GProgram.supers (supW code) (supName code))))), some (.t (.leaf (.bool (decide (List.Nodup (GProgram.supers (supW code) (supName code))))))), some (.t (.leaf (.bool (!(decide (List.Nodup (GProgram.supers (supW code) (supName code)))))))), some (.t (.leaf (.bool (!(decide (List.Nodup (GProgram.supers (supW code) (supName code)))))))), some (.t (.leaf (.bool (!(decide (List.Nodup (GProgram.supers (supW code) (supName code)))))))), some ((GProgram.pv (supW code))), some (.t (.leaf (.bool (GProgram.acyclic (supW code))))), some ((GProgram.pv (supW code))), some (.t (.leaf (.bool (GProgram.acyclic (supW code))))), some (.t (.leaf (.bool (!decide ((GProgram.acyclic (supW code) : Bool) = (GProgram.acyclic (supW code))))))), some (.t (.leaf (.bool (!decide ((GProgram.acyclic (supW code) : Bool) = (GProgram.acyclic (supW code)))))))] : List (Option PV)).getD q' none, fun q' => ([.q 0 0, .q 0 0, .q 0 0, .q 0 0, .q 0 0, .q 0 0, .q 0 0, .q 0 0, .q 0 0, .q 0 0, .q 0 0, .q 0 0, .q 0 0, .q 0 0, .q 0 0, .q 0 0, .q 0 0, .q 0 0] : List DK).getD q' (.q 0 0), [], none, fun q' => ([[(5, none)], [(3, none)], [(4, none)], [(28, some 2), (27, some 1)], [(29, some 3), (26, some 0)], [(30, some 4)], [(31, some 5)], [(5, none)], [(33, some 7)], [(34, some 8)], [(32, some 6), (35, some 9)], [(36, some 10)], [(3, none)], [(38, some 12)], [(3, none)], [(40, some 14)], [(39, some 13), (41, some 15)], [(37, some 11), (42, some 16)]] : List (List (Nat × Option Nat))).getD q' []⟩ rfl mixed (by kernel_rfl) rfl rfl ⟨?_, ?_, ?_, ?_, ?_, ?_, ?_, ?_, ?_, ?_, ?_, ?_, ?_, ?_, ?_, ?_, ?_, ?_, trivial⟩ rfl ?_
        · refine .inl ⟨rfl, fun s' jj bb (h1 : 0 ≤ jj) (h2 : jj ≤ 0) hs hl => ?_⟩
          obtain rfl : jj = 0 := by omega
          exact ⟨_, rfl, AOp.move (.inl rfl) rfl (hl 5 none _ (.head _) rfl)⟩
        · refine .inl ⟨rfl, fun s' jj bb (h1 : 0 ≤ jj) (h2 : jj ≤ 0) hs hl => ?_⟩
          obtain rfl : jj = 0 := by omega
          exact ⟨_, rfl, AOp.loadPtr (cs := [.t (.row 6 (GPackage.trs ((supW code).gPackages)))]) rfl rfl (hl 3 none _ (.head _) rfl) (by rw [hs]; rfl) sh63 rfl rfl⟩
        · refine .inl ⟨rfl, fun s' jj bb (h1 : 0 ≤ jj) (h2 : jj ≤ 0) hs hl => ?_⟩
          obtain rfl : jj = 0 := by omega
          exact ⟨_, rfl, AOp.move (.inl rfl) rfl (hl 4 none _ (.head _) rfl)⟩
        · refine .inl ⟨rfl, fun s' jj bb (h1 : 0 ≤ jj) (h2 : jj ≤ 0) hs hl => ?_⟩
          obtain rfl : jj = 0 := by omega
          exact ⟨_, rfl, AOp.callF (ps := [_, _]) rfl rfl Try.func37 (by kernel_rfl) rfl (evs_cons (hl 27 (some 1) _ (.tail _ (.head _)) rfl) (evs_cons (hl 28 (some 2) _ (.head _) rfl) rfl)) (by (repeat' (first | exact PV.Le.refl _ | exact LeL.nil | exact PV.Le.nil _ | exact PV.Le.acc _ _ _ | apply LeL.cons | apply PV.Le.agg | apply PV.Le.tup))) rfl rfl (allSup_spec (supW code) (supName code) (by assumption))⟩
        · refine .inl ⟨rfl, fun s' jj bb (h1 : 0 ≤ jj) (h2 : jj ≤ 0) hs hl => ?_⟩
          obtain rfl : jj = 0 := by omega
          exact ⟨_, rfl, AOp.callF (ps := [_, _]) rfl rfl Try.func36 (by kernel_rfl) rfl (evs_cons (hl 26 (some 0) _ (.tail _ (.head _)) rfl) (evs_cons (hl 29 (some 3) _ (.head _) rfl) rfl)) (by (repeat' (first | exact PV.Le.refl _ | exact LeL.nil | exact PV.Le.nil _ | exact PV.Le.acc _ _ _ | apply LeL.cons | apply PV.Le.agg | apply PV.Le.tup))) rfl rfl (equalS_ok (GProgram.supers (supW code) (supName code)) (GProgram.supers (supW code) (supName code)))⟩
        · refine .inl ⟨rfl, fun s' jj bb (h1 : 0 ≤ jj) (h2 : jj ≤ 0) hs hl => ?_⟩
          obtain rfl : jj = 0 := by omega
          exact ⟨_, rfl, AOp.notB rfl rfl (hl 30 (some 4) _ (.head _) rfl)⟩
        · refine .inl ⟨rfl, fun s' jj bb (h1 : 0 ≤ jj) (h2 : jj ≤ 0) hs hl => ?_⟩
          obtain rfl : jj = 0 := by omega
          exact ⟨_, rfl, AOp.move (.inl rfl) rfl (hl 31 (some 5) _ (.head _) rfl)⟩
        · refine .inl ⟨(congrArg (fun b => some (b == false)) g3), fun s' jj bb (h1 : 0 ≤ jj) (h2 : jj ≤ 0) hs hl => ?_⟩
          obtain rfl : jj = 0 := by omega
          exact ⟨_, rfl, AOp.move (.inl rfl) rfl (hl 5 none _ (.head _) rfl)⟩
        · refine .inl ⟨(congrArg (fun b => some (b == false)) g3), fun s' jj bb (h1 : 0 ≤ jj) (h2 : jj ≤ 0) hs hl => ?_⟩
          obtain rfl : jj = 0 := by omega
          exact ⟨_, rfl, AOp.callF (ps := [_]) rfl rfl Try.func38 (by kernel_rfl) rfl (evs_cons (hl 33 (some 7) _ (.head _) rfl) rfl) (by (repeat' (first | exact PV.Le.refl _ | exact LeL.nil | exact PV.Le.nil _ | exact PV.Le.acc _ _ _ | apply LeL.cons | apply PV.Le.agg | apply PV.Le.tup))) rfl rfl (allDistinct_ok (GProgram.supers (supW code) (supName code)))⟩
        · refine .inl ⟨(congrArg (fun b => some (b == false)) g3), fun s' jj bb (h1 : 0 ≤ jj) (h2 : jj ≤ 0) hs hl => ?_⟩
          obtain rfl : jj = 0 := by omega
          exact ⟨_, rfl, AOp.notB rfl rfl (hl 34 (some 8) _ (.head _) rfl)⟩
        · refine .inl ⟨rfl, fun s' jj bb (h1 : 0 ≤ jj) (h2 : jj ≤ 0) hs hl => ?_⟩
          obtain rfl : jj = 0 := by omega
          exact ⟨_, rfl, AOp.pickF rfl rfl (hl 32 (some 6) _ (.head _) rfl) g3 (hl 35 (some 9) _ (.tail _ (.head _)) rfl)⟩
        · refine .inl ⟨rfl, fun s' jj bb (h1 : 0 ≤ jj) (h2 : jj ≤ 0) hs hl => ?_⟩
          obtain rfl : jj = 0 := by omega
          exact ⟨_, rfl, AOp.move (.inl rfl) rfl (hl 36 (some 10) _ (.head _) rfl)⟩
        · refine .inl ⟨(congrArg (fun b => some (b == false)) g4), fun s' jj bb (h1 : 0 ≤ jj) (h2 : jj ≤ 0) hs hl => ?_⟩
          obtain rfl : jj = 0 := by omega
          exact ⟨_, rfl, AOp.loadPtr (cs := [.t (.row 6 (GPackage.trs ((supW code).gPackages)))]) rfl rfl (hl 3 none _ (.head _) rfl) (by rw [hs]; rfl) sh63 rfl rfl⟩
        · refine .inl ⟨(congrArg (fun b => some (b == false)) g4), fun s' jj bb (h1 : 0 ≤ jj) (h2 : jj ≤ 0) hs hl => ?_⟩
          obtain rfl : jj = 0 := by omega
          exact ⟨_, rfl, AOp.callF (ps := [_]) rfl rfl Try.func39 (by kernel_rfl) rfl (evs_cons (hl 38 (some 12) _ (.head _) rfl) rfl) (by (repeat' (first | exact PV.Le.refl _ | exact LeL.nil | exact PV.Le.nil _ | exact PV.Le.acc _ _ _ | apply LeL.cons | apply PV.Le.agg | apply PV.Le.tup))) rfl rfl (acyclic_impl (supW code) (by assumption))⟩
        · refine .inl ⟨(congrArg (fun b => some (b == false)) g4), fun s' jj bb (h1 : 0 ≤ jj) (h2 : jj ≤ 0) hs hl => ?_⟩
          obtain rfl : jj = 0 := by omega
          exact ⟨_, rfl, AOp.loadPtr (cs := [.t (.row 6 (GPackage.trs ((supW code).gPackages)))]) rfl rfl (hl 3 none _ (.head _) rfl) (by rw [hs]; rfl) sh63 rfl rfl⟩
        · refine .inl ⟨(congrArg (fun b => some (b == false)) g4), fun s' jj bb (h1 : 0 ≤ jj) (h2 : jj ≤ 0) hs hl => ?_⟩
          obtain rfl : jj = 0 := by omega
          exact ⟨_, rfl, AOp.callF (ps := [_]) rfl rfl Try.func40 (by kernel_rfl) rfl (evs_cons (hl 40 (some 14) _ (.head _) rfl) rfl) (by (repeat' (first | exact PV.Le.refl _ | exact LeL.nil | exact PV.Le.nil _ | exact PV.Le.acc _ _ _ | apply LeL.cons | apply PV.Le.agg | apply PV.Le.tup))) rfl rfl (acyclic_spec (supW code) (by assumption))⟩
        · refine .inl ⟨(congrArg (fun b => some (b == false)) g4), fun s' jj bb (h1 : 0 ≤ jj) (h2 : jj ≤ 0) hs hl => ?_⟩
          obtain rfl : jj = 0 := by omega
          exact ⟨_, rfl, AOp.neqB rfl rfl (hl 39 (some 13) _ (.head _) rfl) (hl 41 (some 15) _ (.tail _ (.head _)) rfl) Try.underlying4⟩
        · refine .inl ⟨rfl, fun s' jj bb (h1 : 0 ≤ jj) (h2 : jj ≤ 0) hs hl => ?_⟩
          obtain rfl : jj = 0 := by omega
          exact ⟨_, rfl, AOp.pickF rfl rfl (hl 37 (some 11) _ (.head _) rfl) g4 (hl 42 (some 16) _ (.tail _ (.head _)) rfl)⟩
        refine AWP.cond rfl (fun h5 => ?_) (fun h5 => ?_)
        · skip
          have h5b := h5
          try simp only [Bool.and_eq_true, Bool.or_eq_true, Bool.and_eq_false_iff, Bool.or_eq_false_iff, decide_eq_true_eq, decide_eq_false_iff_not, Bool.not_eq_true', Bool.not_eq_false', Bool.not_eq_eq_eq_not, Bool.not_true, Bool.not_false, ge_iff_le, gt_iff_lt, Int.not_lt, Int.not_le] at h5b
          simp at h5
        · skip
          have h5b := h5
          try simp only [Bool.and_eq_true, Bool.or_eq_true, Bool.and_eq_false_iff, Bool.or_eq_false_iff, decide_eq_true_eq, decide_eq_false_iff_not, Bool.not_eq_true', Bool.not_eq_false', Bool.not_eq_eq_eq_not, Bool.not_true, Bool.not_false, ge_iff_le, gt_iff_lt, Int.not_lt, Int.not_le] at h5b
          refine AWP.skip ?_
          refine AWP.seq ?_
          refine AWP.seq ?_
          refine AWP.region_lit ?_
          refine AL.cons rfl (AOp.move (.inr rfl) rfl rfl) ?_
          refine AL.nil ?_
          refine AWP.block ?_
          refine AWP.fact (lk_lenN 5 rfl rfl (strTrs_len _)) (fun hl6 => ?_)
          refine AWP.loopJ (ι := Nat) (fun i => i ≤ (GProgram.supers (supW code) (supName code)).length) (fun i => ⟨[(0, .t (.row 1 (byteTrs (code)))), (3, .ptr 0 0), (4, .t (.leaf (.string (supName code)))), (5, .t (.row 1 (strTrs (GProgram.supers (supW code) (supName code))))), (6, .t (.leaf (.int .i64 (((i : Nat) : Int)))))], ⟨[some ⟨63, [.t (.row 6 (GPackage.trs ((supW code).gPackages)))]⟩], []⟩⟩) (fun i => (GProgram.supers (supW code) (supName code)).length - i) 0 ?_ ?_ ?_
          · exact Nat.zero_le _
          · skip
            exact Wk.mk (StLe.mk' ⟨⟨rfl, by (repeat' (first | exact PV.Le.refl _ | exact LeL.nil | exact PV.Le.nil _ | exact PV.Le.acc _ _ _ | apply LeL.cons | apply PV.Le.agg | apply PV.Le.tup)), rfl⟩, trivial⟩ rfl) (keeps_nil hC) ⟨⟨_, rfl, .refl _, rfl⟩, ⟨⟨_, rfl, .refl _, rfl⟩, ⟨⟨_, rfl, .refl _, rfl⟩, ⟨⟨_, rfl, .refl _, rfl⟩, ⟨⟨_, rfl, by (repeat' (first | exact PV.Le.refl _ | exact LeL.nil | exact PV.Le.nil _ | exact PV.Le.acc _ _ _ | apply LeL.cons | apply PV.Le.agg | apply PV.Le.tup)), rfl⟩, trivial⟩⟩⟩⟩⟩
          rintro i hJ7
          have hi1 := hJ7
          refine AWP.seq ?_
          refine AWP.seq ?_
          refine AWP.region_lit ?_
          refine AL.cons rfl (AOp.move (.inl rfl) rfl rfl) ?_
          refine AL.cons rfl (AOp.move (.inl rfl) rfl rfl) ?_
          refine AL.cons rfl (AOp.lenN rfl rfl rfl rfl el66 (strTrs_len _)) ?_
          refine AL.cons rfl (AOp.lss rfl rfl rfl rfl) ?_
          refine AL.nil ?_
          refine AWP.cond rfl (fun h8 => ?_) (fun h8 => ?_)
          · skip
            have h8b := h8
            try simp only [Bool.and_eq_true, Bool.or_eq_true, Bool.and_eq_false_iff, Bool.or_eq_false_iff, decide_eq_true_eq, decide_eq_false_iff_not, Bool.not_eq_true', Bool.not_eq_false', Bool.not_eq_eq_eq_not, Bool.not_true, Bool.not_false, ge_iff_le, gt_iff_lt, Int.not_lt, Int.not_le] at h8b
            have h8n : i < (GProgram.supers (supW code) (supName code)).length := by omega
            refine AWP.skip ?_
            refine AWP.seq ?_
            refine AWP.block ?_
            refine AWP.seq ?_
            refine AWP.drawnL ⟨_, _, fun _ _ => (⟨[some ⟨63, [.t (.row 6 (GPackage.trs ((supW code).gPackages)))]⟩], []⟩ : Sto), fun q' => ([some ((GProgram.pv (supW code))), some (.t (.leaf (.string (supName code)))), some (.t (.row 1 (strTrs (GProgram.supers (supW code) (supName code))))), some (.t (.leaf (.int .i64 (((i : Nat) : Int))))), some (.eptr ([.leaf (.string ((GProgram.supers (supW code) (supName code))[i]))])), some (.t (.leaf (.string ((GProgram.supers (supW code) (supName code))[i])))), some (.tup [.t (.row 1 (intTrs (oPath (pathF (supW code) 8 (supName code) ((GProgram.supers (supW code) (supName code))[i]))))), .t (.leaf (.bool ((pathF (supW code) 8 (supName code) ((GProgram.supers (supW code) (supName code))[i])).isSome)))]), some (.tup [.t (.row 1 (intTrs (oPath (pathF (supW code) 8 (supName code) ((GProgram.supers (supW code) (supName code))[i]))))), .t (.leaf (.bool ((pathF (supW code) 8 (supName code) ((GProgram.supers (supW code) (supName code))[i])).isSome)))]), some (.t (.row 1 (intTrs (oPath (pathF (supW code) 8 (supName code) ((GProgram.supers (supW code) (supName code))[i])))))), some (.t (.leaf (.bool ((pathF (supW code) 8 (supName code) ((GProgram.supers (supW code) (supName code))[i])).isSome)))), some (.t (.row 1 (intTrs (oPath (pathF (supW code) 8 (supName code) ((GProgram.supers (supW code) (supName code))[i])))))), some (.t (.leaf (.bool ((pathF (supW code) 8 (supName code) ((GProgram.supers (supW code) (supName code))[i])).isSome))))] : List (Option PV)).getD q' none, fun q' => ([.q 0 0, .q 0 0, .q 0 0, .q 0 0, .q 0 0, .q 0 0, .q 0 0, .q 0 0, .q 0 0, .q 0 0, .q 0 0, .q 0 0] : List DK).getD q' (.q 0 0), [], none, fun q' => ([[(3, none)], [(4, none)], [(5, none)], [(6, none)], [(53, some 2), (54, some 3)], [(55, some 4)], [(56, some 5), (52, some 1), (51, some 0)], [(57, some 6)], [(50, some 7)], [(50, some 7)], [(58, some 8)], [(59, some 9)]] : List (List (Nat × Option Nat))).getD q' []⟩ rfl mixed (by kernel_rfl) rfl rfl ⟨?_, ?_, ?_, ?_, ?_, ?_, ?_, ?_, ?_, ?_, ?_, ?_, trivial⟩ rfl ?_
            · refine .inl ⟨rfl, fun s' jj bb (h1 : 0 ≤ jj) (h2 : jj ≤ 0) hs hl => ?_⟩
              obtain rfl : jj = 0 := by omega
              exact ⟨_, rfl, AOp.loadPtr (cs := [.t (.row 6 (GPackage.trs ((supW code).gPackages)))]) rfl rfl (hl 3 none _ (.head _) rfl) (by rw [hs]; rfl) sh63 rfl rfl⟩
            · refine .inl ⟨rfl, fun s' jj bb (h1 : 0 ≤ jj) (h2 : jj ≤ 0) hs hl => ?_⟩
              obtain rfl : jj = 0 := by omega
              exact ⟨_, rfl, AOp.move (.inl rfl) rfl (hl 4 none _ (.head _) rfl)⟩
            · refine .inl ⟨rfl, fun s' jj bb (h1 : 0 ≤ jj) (h2 : jj ≤ 0) hs hl => ?_⟩
              obtain rfl : jj = 0 := by omega
              exact ⟨_, rfl, AOp.move (.inl rfl) rfl (hl 5 none _ (.head _) rfl)⟩
            · refine .inl ⟨rfl, fun s' jj bb (h1 : 0 ≤ jj) (h2 : jj ≤ 0) hs hl => ?_⟩
              obtain rfl : jj = 0 := by omega
              exact ⟨_, rfl, AOp.move (.inl rfl) rfl (hl 6 none _ (.head _) rfl)⟩
            · refine .inl ⟨rfl, fun s' jj bb (h1 : 0 ≤ jj) (h2 : jj ≤ 0) hs hl => ?_⟩
              obtain rfl : jj = 0 := by omega
              exact ⟨_, rfl, AOp.index (k := i) rfl rfl (hl 53 (some 2) _ (.head _) rfl) rfl (hl 54 (some 3) _ (.tail _ (.head _)) rfl) (strTrs_cs h8n) el66⟩
            · refine .inl ⟨rfl, fun s' jj bb (h1 : 0 ≤ jj) (h2 : jj ≤ 0) hs hl => ?_⟩
              obtain rfl : jj = 0 := by omega
              exact ⟨_, rfl, AOp.loadEptr1 (d := .leaf (.string ((GProgram.supers (supW code) (supName code))[i]))) rfl rfl (hl 55 (some 4) _ (.head _) rfl) sh9 rfl⟩
            · refine .inl ⟨rfl, fun s' jj bb (h1 : 0 ≤ jj) (h2 : jj ≤ 0) hs hl => ?_⟩
              obtain rfl : jj = 0 := by omega
              exact ⟨_, rfl, AOp.callF (ps := [_, _, _]) rfl rfl Try.func41 (by kernel_rfl) rfl (evs_cons (hl 51 (some 0) _ (.tail _ (.tail _ (.head _))) rfl) (evs_cons (hl 52 (some 1) _ (.tail _ (.head _)) rfl) (evs_cons (hl 56 (some 5) _ (.head _) rfl) rfl))) (by (repeat' (first | exact PV.Le.refl _ | exact LeL.nil | exact PV.Le.nil _ | exact PV.Le.acc _ _ _ | apply LeL.cons | apply PV.Le.agg | apply PV.Le.tup))) rfl rfl (path_impl (supW code) (supName code) ((GProgram.supers (supW code) (supName code))[i]))⟩
            · refine .inl ⟨rfl, fun s' jj bb (h1 : 0 ≤ jj) (h2 : jj ≤ 0) hs hl => ?_⟩
              obtain rfl : jj = 0 := by omega
              exact ⟨_, rfl, AOp.move (.inl rfl) rfl (hl 57 (some 6) _ (.head _) rfl)⟩
            · refine .inl ⟨rfl, fun s' jj bb (h1 : 0 ≤ jj) (h2 : jj ≤ 0) hs hl => ?_⟩
              obtain rfl : jj = 0 := by omega
              exact ⟨_, rfl, AOp.extract rfl rfl (hl 50 (some 7) _ (.head _) rfl) rfl⟩
            · refine .inl ⟨rfl, fun s' jj bb (h1 : 0 ≤ jj) (h2 : jj ≤ 0) hs hl => ?_⟩
              obtain rfl : jj = 0 := by omega
              exact ⟨_, rfl, AOp.extract rfl rfl (hl 50 (some 7) _ (.head _) rfl) rfl⟩
            · refine .inl ⟨rfl, fun s' jj bb (h1 : 0 ≤ jj) (h2 : jj ≤ 0) hs hl => ?_⟩
              obtain rfl : jj = 0 := by omega
              exact ⟨_, rfl, AOp.move (.inr rfl) rfl (hl 58 (some 8) _ (.head _) rfl)⟩
            · refine .inl ⟨rfl, fun s' jj bb (h1 : 0 ≤ jj) (h2 : jj ≤ 0) hs hl => ?_⟩
              obtain rfl : jj = 0 := by omega
              exact ⟨_, rfl, AOp.move (.inr rfl) rfl (hl 59 (some 9) _ (.head _) rfl)⟩
            refine AWP.seq ?_
            refine AWP.region_lit ?_
            refine AL.cons rfl (AOp.move (.inl rfl) rfl rfl) ?_
            refine AL.cons rfl (AOp.move (.inr rfl) rfl rfl) ?_
            refine AL.nil ?_
            refine AWP.seq ?_
            refine AWP.seq ?_
            refine AWP.region_lit ?_
            refine AL.cons rfl (AOp.move (.inr rfl) rfl rfl) ?_
            refine AL.nil ?_
            refine AWP.block ?_
            refine AWP.fact (lk_lenN 7 rfl rfl (intTrs_len _)) (fun hl9 => ?_)
            refine AWP.loopJ (ι := Nat × ByteArray) (fun ⟨k, a⟩ => k ≤ (oPath (pathF (supW code) 8 (supName code) ((GProgram.supers (supW code) (supName code))[i]))).length ∧ ∃ m, pathF (supW code) m a ((GProgram.supers (supW code) (supName code))[i]) = some ((oPath (pathF (supW code) 8 (supName code) ((GProgram.supers (supW code) (supName code))[i]))).drop k)) (fun ⟨k, a⟩ => ⟨[(0, .t (.row 1 (byteTrs (code)))), (3, .ptr 0 0), (4, .t (.leaf (.string (supName code)))), (5, .t (.row 1 (strTrs (GProgram.supers (supW code) (supName code))))), (6, .t (.leaf (.int .i64 (((i : Nat) : Int))))), (7, .t (.row 1 (intTrs (oPath (pathF (supW code) 8 (supName code) ((GProgram.supers (supW code) (supName code))[i])))))), (8, .t (.leaf (.bool ((pathF (supW code) 8 (supName code) ((GProgram.supers (supW code) (supName code))[i])).isSome)))), (9, .t (.leaf (.string (a)))), (10, .t (.leaf (.int .i64 (((k : Nat) : Int)))))], ⟨[some ⟨63, [.t (.row 6 (GPackage.trs ((supW code).gPackages)))]⟩], []⟩⟩) (fun ⟨k, a⟩ => (oPath (pathF (supW code) 8 (supName code) ((GProgram.supers (supW code) (supName code))[i]))).length - k) (0, supName code) ?_ ?_ ?_
            · exact ⟨Nat.zero_le _, 8, oPath_some (worldOf_path (List.getElem_mem _))⟩
            · skip
              exact Wk.mk (StLe.mk' ⟨⟨rfl, by (repeat' (first | exact PV.Le.refl _ | exact LeL.nil | exact PV.Le.nil _ | exact PV.Le.acc _ _ _ | apply LeL.cons | apply PV.Le.agg | apply PV.Le.tup)), rfl⟩, trivial⟩ rfl) (keeps_nil hC) ⟨⟨_, rfl, .refl _, rfl⟩, ⟨⟨_, rfl, .refl _, rfl⟩, ⟨⟨_, rfl, .refl _, rfl⟩, ⟨⟨_, rfl, .refl _, rfl⟩, ⟨⟨_, rfl, .refl _, rfl⟩, ⟨⟨_, rfl, .refl _, rfl⟩, ⟨⟨_, rfl, .refl _, rfl⟩, ⟨⟨_, rfl, by (repeat' (first | exact PV.Le.refl _ | exact LeL.nil | exact PV.Le.nil _ | exact PV.Le.acc _ _ _ | apply LeL.cons | apply PV.Le.agg | apply PV.Le.tup)), rfl⟩, ⟨⟨_, rfl, by (repeat' (first | exact PV.Le.refl _ | exact LeL.nil | exact PV.Le.nil _ | exact PV.Le.acc _ _ _ | apply LeL.cons | apply PV.Le.agg | apply PV.Le.tup)), rfl⟩, trivial⟩⟩⟩⟩⟩⟩⟩⟩⟩
            rintro ⟨k, a⟩ hJ10
            obtain ⟨hk1, m, hk2⟩ := hJ10
            refine AWP.seq ?_
            refine AWP.seq ?_
            refine AWP.region_lit ?_
            refine AL.cons rfl (AOp.move (.inl rfl) rfl rfl) ?_
            refine AL.cons rfl (AOp.move (.inl rfl) rfl rfl) ?_
            refine AL.cons rfl (AOp.lenN rfl rfl rfl rfl el45 (intTrs_len _)) ?_
            refine AL.cons rfl (AOp.lss rfl rfl rfl rfl) ?_
            refine AL.nil ?_
            refine AWP.cond rfl (fun h11 => ?_) (fun h11 => ?_)
            · skip
              have h11b := h11
              try simp only [Bool.and_eq_true, Bool.or_eq_true, Bool.and_eq_false_iff, Bool.or_eq_false_iff, decide_eq_true_eq, decide_eq_false_iff_not, Bool.not_eq_true', Bool.not_eq_false', Bool.not_eq_eq_eq_not, Bool.not_true, Bool.not_false, ge_iff_le, gt_iff_lt, Int.not_lt, Int.not_le] at h11b
              have h11n : k < (oPath (pathF (supW code) 8 (supName code) ((GProgram.supers (supW code) (supName code))[i]))).length := by omega
              have hq2 := hk2
              rw [List.drop_eq_getElem_cons h11n] at hq2
              obtain ⟨hp1, hp2, hp3, m2, hp4⟩ := path_cons hq2
              have hp3b : ((oPath (pathF (supW code) 8 (supName code) ((GProgram.supers (supW code) (supName code))[i])))[k]).toNat < (oTrait ((supW code).traitAt a)).gSupertraits.length := hp3
              refine AWP.skip ?_
              refine AWP.seq ?_
              refine AWP.block ?_
              refine AWP.seq ?_
              refine AWP.region_lit ?_
              refine AL.cons rfl (AOp.loadPtr (cs := [.t (.row 6 (GPackage.trs ((supW code).gPackages)))]) rfl rfl rfl rfl sh63 rfl rfl) ?_
              refine AL.cons rfl (AOp.move (.inl rfl) rfl rfl) ?_
              refine AL.cons rfl (AOp.callF (ps := [_, _]) rfl rfl Try.func42 (by kernel_rfl) rfl rfl (by (repeat' (first | exact PV.Le.refl _ | exact LeL.nil | exact PV.Le.nil _ | exact PV.Le.acc _ _ _ | apply LeL.cons | apply PV.Le.agg | apply PV.Le.tup))) rfl rfl (findTrait_ok (supW code) a (supW_sig _ _) (supW_len _ _))) ?_
              refine AL.cons rfl (AOp.move (.inl rfl) rfl rfl) ?_
              refine AL.cons rfl (AOp.extract rfl rfl rfl rfl) ?_
              refine AL.cons rfl (AOp.extract rfl rfl rfl rfl) ?_
              refine AL.cons rfl (AOp.extract rfl rfl rfl rfl) ?_
              refine AL.cons rfl (AOp.alloc rfl rfl zr75) ?_
              refine AL.cons rfl (AOp.storePtr (cs := [.t (.leaf (.string ((oTrait ((supW code).traitAt a)).gName))), .t (.row 1 (strTrs ((oTrait ((supW code).traitAt a)).gSupertraits))), .t (.leaf (.bool ((oTrait ((supW code).traitAt a)).gAuto))), .t (.leaf (.bool ((oTrait ((supW code).traitAt a)).gAssoc))), .t (.row 16 (GSignature.trs ((oTrait ((supW code).traitAt a)).gSignatures)))]) (ds := [.t (.leaf (.string ((oTrait ((supW code).traitAt a)).gName))), .t (.row 1 (strTrs ((oTrait ((supW code).traitAt a)).gSupertraits))), .t (.leaf (.bool ((oTrait ((supW code).traitAt a)).gAuto))), .t (.leaf (.bool ((oTrait ((supW code).traitAt a)).gAssoc))), .t (.row 16 (GSignature.trs ((oTrait ((supW code).traitAt a)).gSignatures)))]) rfl rfl rfl rfl rfl rfl rfl sz75 (Nat.le_of_ble_eq_true rfl) rfl) ?_
              refine AL.cons rfl (AOp.move (.inr rfl) rfl rfl) ?_
              refine AL.cons rfl (AOp.move (.inr rfl) rfl rfl) ?_
              refine AL.nil ?_
              refine AWP.seq ?_
              refine AWP.seq ?_
              rcases bool2 (!(((supW code).traitAt a).isSome)) with g12 | g12
              · skip
                have g12b := g12
                try simp only [Bool.and_eq_true, Bool.or_eq_true, Bool.and_eq_false_iff, Bool.or_eq_false_iff, decide_eq_true_eq, decide_eq_false_iff_not, Bool.not_eq_true', Bool.not_eq_false', Bool.not_eq_eq_eq_not, Bool.not_true, Bool.not_false, ge_iff_le, gt_iff_lt, Int.not_lt, Int.not_le] at g12b
                simp [hp1] at g12
              · skip
                have g12b := g12
                try simp only [Bool.and_eq_true, Bool.or_eq_true, Bool.and_eq_false_iff, Bool.or_eq_false_iff, decide_eq_true_eq, decide_eq_false_iff_not, Bool.not_eq_true', Bool.not_eq_false', Bool.not_eq_eq_eq_not, Bool.not_true, Bool.not_false, ge_iff_le, gt_iff_lt, Int.not_lt, Int.not_le] at g12b
                rcases bool2 (decide (((oPath (pathF (supW code) 8 (supName code) ((GProgram.supers (supW code) (supName code))[i])))[k] : Int) < 0)) with g13 | g13
                · skip
                  have g13b := g13
                  try simp only [Bool.and_eq_true, Bool.or_eq_true, Bool.and_eq_false_iff, Bool.or_eq_false_iff, decide_eq_true_eq, decide_eq_false_iff_not, Bool.not_eq_true', Bool.not_eq_false', Bool.not_eq_eq_eq_not, Bool.not_true, Bool.not_false, ge_iff_le, gt_iff_lt, Int.not_lt, Int.not_le] at g13b
                  exfalso; omega
                · skip
                  have g13b := g13
                  try simp only [Bool.and_eq_true, Bool.or_eq_true, Bool.and_eq_false_iff, Bool.or_eq_false_iff, decide_eq_true_eq, decide_eq_false_iff_not, Bool.not_eq_true', Bool.not_eq_false', Bool.not_eq_eq_eq_not, Bool.not_true, Bool.not_false, ge_iff_le, gt_iff_lt, Int.not_lt, Int.not_le] at g13b
                  refine AWP.drawnL ⟨_, _, fun _ _ => (⟨[some ⟨63, [.t (.row 6 (GPackage.trs ((supW code).gPackages)))]⟩, some ⟨75, [.t (.leaf (.string ((oTrait ((supW code).traitAt a)).gName))), .t (.row 1 (strTrs ((oTrait ((supW code).traitAt a)).gSupertraits))), .t (.leaf (.bool ((oTrait ((supW code).traitAt a)).gAuto))), .t (.leaf (.bool ((oTrait ((supW code).traitAt a)).gAssoc))), .t (.row 16 (GSignature.trs ((oTrait ((supW code).traitAt a)).gSignatures)))]⟩], []⟩ : Sto), fun q' => ([some (.t (.leaf (.bool (((supW code).traitAt a).isSome)))), some (.t (.leaf (.bool (!(((supW code).traitAt a).isSome))))), some (.t (.leaf (.bool (!(((supW code).traitAt a).isSome))))), some (.t (.row 1 (intTrs (oPath (pathF (supW code) 8 (supName code) ((GProgram.supers (supW code) (supName code))[i])))))), some (.t (.leaf (.int .i64 (((k : Nat) : Int))))), some (.eptr ([.leaf (.int .i64 ((oPath (pathF (supW code) 8 (supName code) ((GProgram.supers (supW code) (supName code))[i])))[k]))])), some (.t (.leaf (.int .i64 ((oPath (pathF (supW code) 8 (supName code) ((GProgram.supers (supW code) (supName code))[i])))[k])))), some (.t (.leaf (.bool (decide (((oPath (pathF (supW code) 8 (supName code) ((GProgram.supers (supW code) (supName code))[i])))[k] : Int) < 0))))), some (.t (.leaf (.bool (decide (((oPath (pathF (supW code) 8 (supName code) ((GProgram.supers (supW code) (supName code))[i])))[k] : Int) < 0))))), some (.t (.leaf (.bool (decide (((oPath (pathF (supW code) 8 (supName code) ((GProgram.supers (supW code) (supName code))[i])))[k] : Int) < 0))))), some (.t (.row 1 (intTrs (oPath (pathF (supW code) 8 (supName code) ((GProgram.supers (supW code) (supName code))[i])))))), some (.t (.leaf (.int .i64 (((k : Nat) : Int))))), some (.eptr ([.leaf (.int .i64 ((oPath (pathF (supW code) 8 (supName code) ((GProgram.supers (supW code) (supName code))[i])))[k]))])), some (.t (.leaf (.int .i64 ((oPath (pathF (supW code) 8 (supName code) ((GProgram.supers (supW code) (supName code))[i])))[k])))), some (.ptr 1 1), some (.t (.row 1 (strTrs ((oTrait ((supW code).traitAt a)).gSupertraits)))), some (.t (.leaf (.int .i64 (((((oTrait ((supW code).traitAt a)).gSupertraits).length : Nat) : Int))))), some (.t (.leaf (.bool (decide (((oPath (pathF (supW code) 8 (supName code) ((GProgram.supers (supW code) (supName code))[i])))[k] : Int) ≥ ((((oTrait ((supW code).traitAt a)).gSupertraits).length : Nat) : Int)))))), some (.t (.leaf (.bool (decide (((oPath (pathF (supW code) 8 (supName code) ((GProgram.supers (supW code) (supName code))[i])))[k] : Int) ≥ ((((oTrait ((supW code).traitAt a)).gSupertraits).length : Nat) : Int))))))] : List (Option PV)).getD q' none, fun q' => ([.q 0 0, .q 0 0, .q 0 0, .q 0 0, .q 0 0, .q 0 0, .q 0 0, .q 0 0, .q 0 0, .q 0 0, .q 0 0, .q 0 0, .q 0 0, .q 0 0, .q 0 0, .q 0 0, .q 0 0, .q 0 0, .q 0 0] : List DK).getD q' (.q 0 0), [], none, fun q' => ([[(13, none)], [(74, some 0)], [(75, some 1)], [(7, none)], [(10, none)], [(77, some 3), (78, some 4)], [(79, some 5)], [(80, some 6)], [(76, some 2), (81, some 7)], [(82, some 8)], [(7, none)], [(10, none)], [(84, some 10), (85, some 11)], [(86, some 12)], [(11, none)], [(88, some 14)], [(89, some 15)], [(87, some 13), (90, some 16)], [(83, some 9), (91, some 17)]] : List (List (Nat × Option Nat))).getD q' []⟩ rfl mixed (by kernel_rfl) rfl rfl ⟨?_, ?_, ?_, ?_, ?_, ?_, ?_, ?_, ?_, ?_, ?_, ?_, ?_, ?_, ?_, ?_, ?_, ?_, ?_, trivial⟩ rfl ?_
                  · refine .inl ⟨rfl, fun s' jj bb (h1 : 0 ≤ jj) (h2 : jj ≤ 0) hs hl => ?_⟩
                    obtain rfl : jj = 0 := by omega
                    exact ⟨_, rfl, AOp.move (.inl rfl) rfl (hl 13 none _ (.head _) rfl)⟩
                  · refine .inl ⟨rfl, fun s' jj bb (h1 : 0 ≤ jj) (h2 : jj ≤ 0) hs hl => ?_⟩
                    obtain rfl : jj = 0 := by omega
                    exact ⟨_, rfl, AOp.notB rfl rfl (hl 74 (some 0) _ (.head _) rfl)⟩
                  · refine .inl ⟨rfl, fun s' jj bb (h1 : 0 ≤ jj) (h2 : jj ≤ 0) hs hl => ?_⟩
                    obtain rfl : jj = 0 := by omega
                    exact ⟨_, rfl, AOp.move (.inl rfl) rfl (hl 75 (some 1) _ (.head _) rfl)⟩
                  · refine .inl ⟨(congrArg (fun b => some (b == false)) g12), fun s' jj bb (h1 : 0 ≤ jj) (h2 : jj ≤ 0) hs hl => ?_⟩
                    obtain rfl : jj = 0 := by omega
                    exact ⟨_, rfl, AOp.move (.inl rfl) rfl (hl 7 none _ (.head _) rfl)⟩
                  · refine .inl ⟨(congrArg (fun b => some (b == false)) g12), fun s' jj bb (h1 : 0 ≤ jj) (h2 : jj ≤ 0) hs hl => ?_⟩
                    obtain rfl : jj = 0 := by omega
                    exact ⟨_, rfl, AOp.move (.inl rfl) rfl (hl 10 none _ (.head _) rfl)⟩
                  · refine .inl ⟨(congrArg (fun b => some (b == false)) g12), fun s' jj bb (h1 : 0 ≤ jj) (h2 : jj ≤ 0) hs hl => ?_⟩
                    obtain rfl : jj = 0 := by omega
                    exact ⟨_, rfl, AOp.index (k := k) rfl rfl (hl 77 (some 3) _ (.head _) rfl) rfl (hl 78 (some 4) _ (.tail _ (.head _)) rfl) (intTrs_cs h11n) el45⟩
                  · refine .inl ⟨(congrArg (fun b => some (b == false)) g12), fun s' jj bb (h1 : 0 ≤ jj) (h2 : jj ≤ 0) hs hl => ?_⟩
                    obtain rfl : jj = 0 := by omega
                    exact ⟨_, rfl, AOp.loadEptr1 (d := .leaf (.int .i64 ((oPath (pathF (supW code) 8 (supName code) ((GProgram.supers (supW code) (supName code))[i])))[k]))) rfl rfl (hl 79 (some 5) _ (.head _) rfl) sh3 rfl⟩
                  · refine .inl ⟨(congrArg (fun b => some (b == false)) g12), fun s' jj bb (h1 : 0 ≤ jj) (h2 : jj ≤ 0) hs hl => ?_⟩
                    obtain rfl : jj = 0 := by omega
                    exact ⟨_, rfl, AOp.lss rfl rfl (hl 80 (some 6) _ (.head _) rfl) rfl⟩
                  · refine .inl ⟨rfl, fun s' jj bb (h1 : 0 ≤ jj) (h2 : jj ≤ 0) hs hl => ?_⟩
                    obtain rfl : jj = 0 := by omega
                    exact ⟨_, rfl, AOp.pickF rfl rfl (hl 76 (some 2) _ (.head _) rfl) g12 (hl 81 (some 7) _ (.tail _ (.head _)) rfl)⟩
                  · refine .inl ⟨rfl, fun s' jj bb (h1 : 0 ≤ jj) (h2 : jj ≤ 0) hs hl => ?_⟩
                    obtain rfl : jj = 0 := by omega
                    exact ⟨_, rfl, AOp.move (.inl rfl) rfl (hl 82 (some 8) _ (.head _) rfl)⟩
                  · refine .inl ⟨(congrArg (fun b => some (b == false)) g13), fun s' jj bb (h1 : 0 ≤ jj) (h2 : jj ≤ 0) hs hl => ?_⟩
                    obtain rfl : jj = 0 := by omega
                    exact ⟨_, rfl, AOp.move (.inl rfl) rfl (hl 7 none _ (.head _) rfl)⟩
                  · refine .inl ⟨(congrArg (fun b => some (b == false)) g13), fun s' jj bb (h1 : 0 ≤ jj) (h2 : jj ≤ 0) hs hl => ?_⟩
                    obtain rfl : jj = 0 := by omega
                    exact ⟨_, rfl, AOp.move (.inl rfl) rfl (hl 10 none _ (.head _) rfl)⟩
                  · refine .inl ⟨(congrArg (fun b => some (b == false)) g13), fun s' jj bb (h1 : 0 ≤ jj) (h2 : jj ≤ 0) hs hl => ?_⟩
                    obtain rfl : jj = 0 := by omega
                    exact ⟨_, rfl, AOp.index (k := k) rfl rfl (hl 84 (some 10) _ (.head _) rfl) rfl (hl 85 (some 11) _ (.tail _ (.head _)) rfl) (intTrs_cs h11n) el45⟩
                  · refine .inl ⟨(congrArg (fun b => some (b == false)) g13), fun s' jj bb (h1 : 0 ≤ jj) (h2 : jj ≤ 0) hs hl => ?_⟩
                    obtain rfl : jj = 0 := by omega
                    exact ⟨_, rfl, AOp.loadEptr1 (d := .leaf (.int .i64 ((oPath (pathF (supW code) 8 (supName code) ((GProgram.supers (supW code) (supName code))[i])))[k]))) rfl rfl (hl 86 (some 12) _ (.head _) rfl) sh3 rfl⟩
                  · refine .inl ⟨(congrArg (fun b => some (b == false)) g13), fun s' jj bb (h1 : 0 ≤ jj) (h2 : jj ≤ 0) hs hl => ?_⟩
                    obtain rfl : jj = 0 := by omega
                    exact ⟨_, rfl, AOp.fieldPtr (k := 1) (d := 0) (e := 1) rfl rfl (hl 11 none _ (.head _) rfl) fo75_1⟩
                  · refine .inl ⟨(congrArg (fun b => some (b == false)) g13), fun s' jj bb (h1 : 0 ≤ jj) (h2 : jj ≤ 0) hs hl => ?_⟩
                    obtain rfl : jj = 0 := by omega
                    exact ⟨_, rfl, AOp.loadPtr1 rfl rfl (hl 88 (some 14) _ (.head _) rfl) (by rw [hs]; rfl) sh66 rfl⟩
                  · refine .inl ⟨(congrArg (fun b => some (b == false)) g13), fun s' jj bb (h1 : 0 ≤ jj) (h2 : jj ≤ 0) hs hl => ?_⟩
                    obtain rfl : jj = 0 := by omega
                    exact ⟨_, rfl, AOp.lenN rfl rfl (hl 89 (some 15) _ (.head _) rfl) rfl el66 (strTrs_len _)⟩
                  · refine .inl ⟨(congrArg (fun b => some (b == false)) g13), fun s' jj bb (h1 : 0 ≤ jj) (h2 : jj ≤ 0) hs hl => ?_⟩
                    obtain rfl : jj = 0 := by omega
                    exact ⟨_, rfl, AOp.geq rfl rfl (hl 87 (some 13) _ (.head _) rfl) (hl 90 (some 16) _ (.tail _ (.head _)) rfl)⟩
                  · refine .inl ⟨rfl, fun s' jj bb (h1 : 0 ≤ jj) (h2 : jj ≤ 0) hs hl => ?_⟩
                    obtain rfl : jj = 0 := by omega
                    exact ⟨_, rfl, AOp.pickF rfl rfl (hl 83 (some 9) _ (.head _) rfl) g13 (hl 91 (some 17) _ (.tail _ (.head _)) rfl)⟩
                  refine AWP.cond rfl (fun h14 => ?_) (fun h14 => ?_)
                  · skip
                    have h14b := h14
                    try simp only [Bool.and_eq_true, Bool.or_eq_true, Bool.and_eq_false_iff, Bool.or_eq_false_iff, decide_eq_true_eq, decide_eq_false_iff_not, Bool.not_eq_true', Bool.not_eq_false', Bool.not_eq_eq_eq_not, Bool.not_true, Bool.not_false, ge_iff_le, gt_iff_lt, Int.not_lt, Int.not_le] at h14b
                    exfalso; omega
                  · skip
                    have h14b := h14
                    try simp only [Bool.and_eq_true, Bool.or_eq_true, Bool.and_eq_false_iff, Bool.or_eq_false_iff, decide_eq_true_eq, decide_eq_false_iff_not, Bool.not_eq_true', Bool.not_eq_false', Bool.not_eq_eq_eq_not, Bool.not_true, Bool.not_false, ge_iff_le, gt_iff_lt, Int.not_lt, Int.not_le] at h14b
                    refine AWP.skip ?_
                    have hn15 : ((oPath (pathF (supW code) 8 (supName code) ((GProgram.supers (supW code) (supName code))[i])))[k]).toNat < ((oTrait ((supW code).traitAt a)).gSupertraits).length := by omega
                    refine AWP.drawnL ⟨_, _, fun _ _ => (⟨[some ⟨63, [.t (.row 6 (GPackage.trs ((supW code).gPackages)))]⟩, some ⟨75, [.t (.leaf (.string ((oTrait ((supW code).traitAt a)).gName))), .t (.row 1 (strTrs ((oTrait ((supW code).traitAt a)).gSupertraits))), .t (.leaf (.bool ((oTrait ((supW code).traitAt a)).gAuto))), .t (.leaf (.bool ((oTrait ((supW code).traitAt a)).gAssoc))), .t (.row 16 (GSignature.trs ((oTrait ((supW code).traitAt a)).gSignatures)))]⟩], []⟩ : Sto), fun q' => ([some (.ptr 1 1), some (.t (.row 1 (strTrs ((oTrait ((supW code).traitAt a)).gSupertraits)))), some (.t (.row 1 (intTrs (oPath (pathF (supW code) 8 (supName code) ((GProgram.supers (supW code) (supName code))[i])))))), some (.t (.leaf (.int .i64 (((k : Nat) : Int))))), some (.eptr ([.leaf (.int .i64 ((oPath (pathF (supW code) 8 (supName code) ((GProgram.supers (supW code) (supName code))[i])))[k]))])), some (.t (.leaf (.int .i64 ((oPath (pathF (supW code) 8 (supName code) ((GProgram.supers (supW code) (supName code))[i])))[k])))), some (.eptr ([.leaf (.string (((oTrait ((supW code).traitAt a)).gSupertraits)[((oPath (pathF (supW code) 8 (supName code) ((GProgram.supers (supW code) (supName code))[i])))[k]).toNat]))])), some (.t (.leaf (.string (((oTrait ((supW code).traitAt a)).gSupertraits)[((oPath (pathF (supW code) 8 (supName code) ((GProgram.supers (supW code) (supName code))[i])))[k]).toNat])))), some (.t (.leaf (.string (((oTrait ((supW code).traitAt a)).gSupertraits)[((oPath (pathF (supW code) 8 (supName code) ((GProgram.supers (supW code) (supName code))[i])))[k]).toNat]))))] : List (Option PV)).getD q' none, fun q' => ([.q 0 0, .q 0 0, .q 0 0, .q 0 0, .q 0 0, .q 0 0, .q 0 0, .q 0 0, .q 0 0] : List DK).getD q' (.q 0 0), [], none, fun q' => ([[(11, none)], [(93, some 0)], [(7, none)], [(10, none)], [(95, some 2), (96, some 3)], [(97, some 4)], [(94, some 1), (98, some 5)], [(99, some 6)], [(100, some 7)]] : List (List (Nat × Option Nat))).getD q' []⟩ rfl mixed (by kernel_rfl) rfl rfl ⟨?_, ?_, ?_, ?_, ?_, ?_, ?_, ?_, ?_, trivial⟩ rfl ?_
                    · refine .inl ⟨rfl, fun s' jj bb (h1 : 0 ≤ jj) (h2 : jj ≤ 0) hs hl => ?_⟩
                      obtain rfl : jj = 0 := by omega
                      exact ⟨_, rfl, AOp.fieldPtr (k := 1) (d := 0) (e := 1) rfl rfl (hl 11 none _ (.head _) rfl) fo75_1⟩
                    · refine .inl ⟨rfl, fun s' jj bb (h1 : 0 ≤ jj) (h2 : jj ≤ 0) hs hl => ?_⟩
                      obtain rfl : jj = 0 := by omega
                      exact ⟨_, rfl, AOp.loadPtr1 rfl rfl (hl 93 (some 0) _ (.head _) rfl) (by rw [hs]; rfl) sh66 rfl⟩
                    · refine .inl ⟨rfl, fun s' jj bb (h1 : 0 ≤ jj) (h2 : jj ≤ 0) hs hl => ?_⟩
                      obtain rfl : jj = 0 := by omega
                      exact ⟨_, rfl, AOp.move (.inl rfl) rfl (hl 7 none _ (.head _) rfl)⟩
                    · refine .inl ⟨rfl, fun s' jj bb (h1 : 0 ≤ jj) (h2 : jj ≤ 0) hs hl => ?_⟩
                      obtain rfl : jj = 0 := by omega
                      exact ⟨_, rfl, AOp.move (.inl rfl) rfl (hl 10 none _ (.head _) rfl)⟩
                    · refine .inl ⟨rfl, fun s' jj bb (h1 : 0 ≤ jj) (h2 : jj ≤ 0) hs hl => ?_⟩
                      obtain rfl : jj = 0 := by omega
                      exact ⟨_, rfl, AOp.index (k := k) rfl rfl (hl 95 (some 2) _ (.head _) rfl) rfl (hl 96 (some 3) _ (.tail _ (.head _)) rfl) (intTrs_cs h11n) el45⟩
                    · refine .inl ⟨rfl, fun s' jj bb (h1 : 0 ≤ jj) (h2 : jj ≤ 0) hs hl => ?_⟩
                      obtain rfl : jj = 0 := by omega
                      exact ⟨_, rfl, AOp.loadEptr1 (d := .leaf (.int .i64 ((oPath (pathF (supW code) 8 (supName code) ((GProgram.supers (supW code) (supName code))[i])))[k]))) rfl rfl (hl 97 (some 4) _ (.head _) rfl) sh3 rfl⟩
                    · refine .inl ⟨rfl, fun s' jj bb (h1 : 0 ≤ jj) (h2 : jj ≤ 0) hs hl => ?_⟩
                      obtain rfl : jj = 0 := by omega
                      exact ⟨_, rfl, AOp.indexI (y := (oPath (pathF (supW code) 8 (supName code) ((GProgram.supers (supW code) (supName code))[i])))[k]) rfl rfl (hl 94 (some 1) _ (.head _) rfl) rfl (hl 98 (some 5) _ (.tail _ (.head _)) rfl) (by omega) (strTrs_cs hn15) el66⟩
                    · refine .inl ⟨rfl, fun s' jj bb (h1 : 0 ≤ jj) (h2 : jj ≤ 0) hs hl => ?_⟩
                      obtain rfl : jj = 0 := by omega
                      exact ⟨_, rfl, AOp.loadEptr1 (d := .leaf (.string (((oTrait ((supW code).traitAt a)).gSupertraits)[((oPath (pathF (supW code) 8 (supName code) ((GProgram.supers (supW code) (supName code))[i])))[k]).toNat]))) rfl rfl (hl 99 (some 6) _ (.head _) rfl) sh9 rfl⟩
                    · refine .inl ⟨rfl, fun s' jj bb (h1 : 0 ≤ jj) (h2 : jj ≤ 0) hs hl => ?_⟩
                      obtain rfl : jj = 0 := by omega
                      exact ⟨_, rfl, AOp.move (.inr rfl) rfl (hl 100 (some 7) _ (.head _) rfl)⟩
                    refine AWP.region_lit ?_
                    refine AL.cons rfl (AOp.move (.inl rfl) rfl rfl) ?_
                    refine AL.cons rfl (AOp.addI rfl rfl rfl rfl (c := ((k + 1 : Nat) : Int)) (by omega) (by omega)) ?_
                    refine AL.cons rfl (AOp.move (.inr rfl) rfl rfl) ?_
                    refine AL.nil ?_
                    refine ⟨(k + 1, ((oTrait ((supW code).traitAt a)).gSupertraits)[((oPath (pathF (supW code) 8 (supName code) ((GProgram.supers (supW code) (supName code))[i])))[k]).toNat]), ?_, ?_, ?_⟩
                    · exact ⟨by omega, m2, hp4⟩
                    · skip
                      exact Wk.mk (StLe.mk' ⟨⟨rfl, by (repeat' (first | exact PV.Le.refl _ | exact LeL.nil | exact PV.Le.nil _ | exact PV.Le.acc _ _ _ | apply LeL.cons | apply PV.Le.agg | apply PV.Le.tup)), rfl⟩, trivial⟩ rfl) (keeps_nil hC) ⟨⟨_, rfl, .refl _, rfl⟩, ⟨⟨_, rfl, .refl _, rfl⟩, ⟨⟨_, rfl, .refl _, rfl⟩, ⟨⟨_, rfl, .refl _, rfl⟩, ⟨⟨_, rfl, .refl _, rfl⟩, ⟨⟨_, rfl, .refl _, rfl⟩, ⟨⟨_, rfl, .refl _, rfl⟩, ⟨⟨_, rfl, by (repeat' (first | exact PV.Le.refl _ | exact LeL.nil | exact PV.Le.nil _ | exact PV.Le.acc _ _ _ | apply LeL.cons | apply PV.Le.agg | apply PV.Le.tup)), rfl⟩, ⟨⟨_, rfl, by (repeat' (first | exact PV.Le.refl _ | exact LeL.nil | exact PV.Le.nil _ | exact PV.Le.acc _ _ _ | apply LeL.cons | apply PV.Le.agg | apply PV.Le.tup)), rfl⟩, trivial⟩⟩⟩⟩⟩⟩⟩⟩⟩
                    · dsimp only; omega
            · skip
              have h11b := h11
              try simp only [Bool.and_eq_true, Bool.or_eq_true, Bool.and_eq_false_iff, Bool.or_eq_false_iff, decide_eq_true_eq, decide_eq_false_iff_not, Bool.not_eq_true', Bool.not_eq_false', Bool.not_eq_eq_eq_not, Bool.not_true, Bool.not_false, ge_iff_le, gt_iff_lt, Int.not_lt, Int.not_le] at h11b
              have h11n : k ≥ (oPath (pathF (supW code) 8 (supName code) ((GProgram.supers (supW code) (supName code))[i]))).length := by omega
              refine AWP.exit ?_
              refine AWP.seq ?_
              refine AWP.drawnL ⟨_, _, fun _ _ => (⟨[some ⟨63, [.t (.row 6 (GPackage.trs ((supW code).gPackages)))]⟩], []⟩ : Sto), fun q' => ([some ((GProgram.pv (supW code))), some (.t (.row 1 (strTrs (GProgram.supers (supW code) (supName code))))), some (.t (.leaf (.int .i64 (((i : Nat) : Int))))), some (.eptr ([.leaf (.string ((GProgram.supers (supW code) (supName code))[i]))])), some (.t (.leaf (.string ((GProgram.supers (supW code) (supName code))[i])))), some (.t (.row 1 (strTrs (GProgram.supers (supW code) ((GProgram.supers (supW code) (supName code))[i]))))), some (.t (.row 1 (strTrs (GProgram.supers (supW code) ((GProgram.supers (supW code) (supName code))[i])))))] : List (Option PV)).getD q' none, fun q' => ([.q 0 0, .q 0 0, .q 0 0, .q 0 0, .q 0 0, .q 0 0, .q 0 0] : List DK).getD q' (.q 0 0), [], none, fun q' => ([[(3, none)], [(5, none)], [(6, none)], [(102, some 1), (103, some 2)], [(104, some 3)], [(105, some 4), (101, some 0)], [(106, some 5)]] : List (List (Nat × Option Nat))).getD q' []⟩ rfl mixed (by kernel_rfl) rfl rfl ⟨?_, ?_, ?_, ?_, ?_, ?_, ?_, trivial⟩ rfl ?_
              · refine .inl ⟨rfl, fun s' jj bb (h1 : 0 ≤ jj) (h2 : jj ≤ 0) hs hl => ?_⟩
                obtain rfl : jj = 0 := by omega
                exact ⟨_, rfl, AOp.loadPtr (cs := [.t (.row 6 (GPackage.trs ((supW code).gPackages)))]) rfl rfl (hl 3 none _ (.head _) rfl) (by rw [hs]; rfl) sh63 rfl rfl⟩
              · refine .inl ⟨rfl, fun s' jj bb (h1 : 0 ≤ jj) (h2 : jj ≤ 0) hs hl => ?_⟩
                obtain rfl : jj = 0 := by omega
                exact ⟨_, rfl, AOp.move (.inl rfl) rfl (hl 5 none _ (.head _) rfl)⟩
              · refine .inl ⟨rfl, fun s' jj bb (h1 : 0 ≤ jj) (h2 : jj ≤ 0) hs hl => ?_⟩
                obtain rfl : jj = 0 := by omega
                exact ⟨_, rfl, AOp.move (.inl rfl) rfl (hl 6 none _ (.head _) rfl)⟩
              · refine .inl ⟨rfl, fun s' jj bb (h1 : 0 ≤ jj) (h2 : jj ≤ 0) hs hl => ?_⟩
                obtain rfl : jj = 0 := by omega
                exact ⟨_, rfl, AOp.index (k := i) rfl rfl (hl 102 (some 1) _ (.head _) rfl) rfl (hl 103 (some 2) _ (.tail _ (.head _)) rfl) (strTrs_cs h8n) el66⟩
              · refine .inl ⟨rfl, fun s' jj bb (h1 : 0 ≤ jj) (h2 : jj ≤ 0) hs hl => ?_⟩
                obtain rfl : jj = 0 := by omega
                exact ⟨_, rfl, AOp.loadEptr1 (d := .leaf (.string ((GProgram.supers (supW code) (supName code))[i]))) rfl rfl (hl 104 (some 3) _ (.head _) rfl) sh9 rfl⟩
              · refine .inl ⟨rfl, fun s' jj bb (h1 : 0 ≤ jj) (h2 : jj ≤ 0) hs hl => ?_⟩
                obtain rfl : jj = 0 := by omega
                exact ⟨_, rfl, AOp.callF (ps := [_, _]) rfl rfl Try.func35 (by kernel_rfl) rfl (evs_cons (hl 101 (some 0) _ (.tail _ (.head _)) rfl) (evs_cons (hl 105 (some 4) _ (.head _) rfl) rfl)) (by (repeat' (first | exact PV.Le.refl _ | exact LeL.nil | exact PV.Le.nil _ | exact PV.Le.acc _ _ _ | apply LeL.cons | apply PV.Le.agg | apply PV.Le.tup))) rfl rfl (allSup_impl (supW code) ((GProgram.supers (supW code) (supName code))[i]) (by assumption))⟩
              · refine .inl ⟨rfl, fun s' jj bb (h1 : 0 ≤ jj) (h2 : jj ≤ 0) hs hl => ?_⟩
                obtain rfl : jj = 0 := by omega
                exact ⟨_, rfl, AOp.move (.inr rfl) rfl (hl 106 (some 5) _ (.head _) rfl)⟩
              refine AWP.seq ?_
              refine AWP.seq ?_
              refine AWP.region_lit ?_
              refine AL.cons rfl (AOp.move (.inr rfl) rfl rfl) ?_
              refine AL.nil ?_
              refine AWP.block ?_
              refine AWP.fact (lk_lenN 14 rfl rfl (strTrs_len _)) (fun hl16 => ?_)
              refine AWP.loopJ (ι := Nat) (fun j => j ≤ (GProgram.supers (supW code) ((GProgram.supers (supW code) (supName code))[i])).length) (fun j => ⟨[(0, .t (.row 1 (byteTrs (code)))), (3, .ptr 0 0), (4, .t (.leaf (.string (supName code)))), (5, .t (.row 1 (strTrs (GProgram.supers (supW code) (supName code))))), (6, .t (.leaf (.int .i64 (((i : Nat) : Int))))), (7, .t (.row 1 (intTrs (oPath (pathF (supW code) 8 (supName code) ((GProgram.supers (supW code) (supName code))[i])))))), (8, .t (.leaf (.bool ((pathF (supW code) 8 (supName code) ((GProgram.supers (supW code) (supName code))[i])).isSome)))), (9, .t (.leaf (.string (a)))), (10, .t (.leaf (.int .i64 (((k : Nat) : Int))))), (14, .t (.row 1 (strTrs (GProgram.supers (supW code) ((GProgram.supers (supW code) (supName code))[i]))))), (15, .t (.leaf (.int .i64 (((j : Nat) : Int)))))], ⟨[some ⟨63, [.t (.row 6 (GPackage.trs ((supW code).gPackages)))]⟩], []⟩⟩) (fun j => (GProgram.supers (supW code) ((GProgram.supers (supW code) (supName code))[i])).length - j) 0 ?_ ?_ ?_
              · exact Nat.zero_le _
              · skip
                exact Wk.mk (StLe.mk' ⟨⟨rfl, by (repeat' (first | exact PV.Le.refl _ | exact LeL.nil | exact PV.Le.nil _ | exact PV.Le.acc _ _ _ | apply LeL.cons | apply PV.Le.agg | apply PV.Le.tup)), rfl⟩, trivial⟩ rfl) (keeps_nil hC) ⟨⟨_, rfl, .refl _, rfl⟩, ⟨⟨_, rfl, .refl _, rfl⟩, ⟨⟨_, rfl, .refl _, rfl⟩, ⟨⟨_, rfl, .refl _, rfl⟩, ⟨⟨_, rfl, .refl _, rfl⟩, ⟨⟨_, rfl, .refl _, rfl⟩, ⟨⟨_, rfl, .refl _, rfl⟩, ⟨⟨_, rfl, .refl _, rfl⟩, ⟨⟨_, rfl, .refl _, rfl⟩, ⟨⟨_, rfl, .refl _, rfl⟩, ⟨⟨_, rfl, by (repeat' (first | exact PV.Le.refl _ | exact LeL.nil | exact PV.Le.nil _ | exact PV.Le.acc _ _ _ | apply LeL.cons | apply PV.Le.agg | apply PV.Le.tup)), rfl⟩, trivial⟩⟩⟩⟩⟩⟩⟩⟩⟩⟩⟩
              rintro j hJ17
              have hj1 := hJ17
              refine AWP.seq ?_
              refine AWP.seq ?_
              refine AWP.region_lit ?_
              refine AL.cons rfl (AOp.move (.inl rfl) rfl rfl) ?_
              refine AL.cons rfl (AOp.move (.inl rfl) rfl rfl) ?_
              refine AL.cons rfl (AOp.lenN rfl rfl rfl rfl el66 (strTrs_len _)) ?_
              refine AL.cons rfl (AOp.lss rfl rfl rfl rfl) ?_
              refine AL.nil ?_
              refine AWP.cond rfl (fun h18 => ?_) (fun h18 => ?_)
              · skip
                have h18b := h18
                try simp only [Bool.and_eq_true, Bool.or_eq_true, Bool.and_eq_false_iff, Bool.or_eq_false_iff, decide_eq_true_eq, decide_eq_false_iff_not, Bool.not_eq_true', Bool.not_eq_false', Bool.not_eq_eq_eq_not, Bool.not_true, Bool.not_false, ge_iff_le, gt_iff_lt, Int.not_lt, Int.not_le] at h18b
                have h18n : j < (GProgram.supers (supW code) ((GProgram.supers (supW code) (supName code))[i])).length := by omega
                refine AWP.skip ?_
                refine AWP.seq ?_
                refine AWP.block ?_
                refine AWP.seq ?_
                refine AWP.region_lit ?_
                refine AL.cons rfl (AOp.move (.inl rfl) rfl rfl) ?_
                refine AL.cons rfl (AOp.move (.inl rfl) rfl rfl) ?_
                refine AL.cons rfl (AOp.move (.inl rfl) rfl rfl) ?_
                refine AL.cons rfl (AOp.index (k := j) rfl rfl rfl rfl rfl (strTrs_cs h18n) el66) ?_
                refine AL.cons rfl (AOp.loadEptr1 (d := .leaf (.string ((GProgram.supers (supW code) ((GProgram.supers (supW code) (supName code))[i]))[j]))) rfl rfl rfl sh9 rfl) ?_
                refine AL.cons rfl (AOp.callF (ps := [_, _]) rfl rfl Try.func43 (by kernel_rfl) rfl rfl (by (repeat' (first | exact PV.Le.refl _ | exact LeL.nil | exact PV.Le.nil _ | exact PV.Le.acc _ _ _ | apply LeL.cons | apply PV.Le.agg | apply PV.Le.tup))) rfl rfl (contains_ok (GProgram.supers (supW code) (supName code)) ((GProgram.supers (supW code) ((GProgram.supers (supW code) (supName code))[i]))[j]))) ?_
                refine AL.cons rfl (AOp.notB rfl rfl rfl) ?_
                refine AL.nil ?_
                refine AWP.cond rfl (fun h19 => ?_) (fun h19 => ?_)
                · skip
                  have h19b := h19
                  try simp only [Bool.and_eq_true, Bool.or_eq_true, Bool.and_eq_false_iff, Bool.or_eq_false_iff, decide_eq_true_eq, decide_eq_false_iff_not, Bool.not_eq_true', Bool.not_eq_false', Bool.not_eq_eq_eq_not, Bool.not_true, Bool.not_false, ge_iff_le, gt_iff_lt, Int.not_lt, Int.not_le] at h19b
                  exact absurd (supers_trans (List.getElem_mem (show i < (GProgram.supers (supW code) (supName code)).length by omega)) (List.getElem_mem (by assumption))) h19b
                · skip
                  have h19b := h19
                  try simp only [Bool.and_eq_true, Bool.or_eq_true, Bool.and_eq_false_iff, Bool.or_eq_false_iff, decide_eq_true_eq, decide_eq_false_iff_not, Bool.not_eq_true', Bool.not_eq_false', Bool.not_eq_eq_eq_not, Bool.not_true, Bool.not_false, ge_iff_le, gt_iff_lt, Int.not_lt, Int.not_le] at h19b
                  refine AWP.skip ?_
                  refine AWP.region_lit ?_
                  refine AL.cons rfl (AOp.move (.inl rfl) rfl rfl) ?_
                  refine AL.cons rfl (AOp.addI rfl rfl rfl rfl (c := ((j + 1 : Nat) : Int)) (by omega) (by omega)) ?_
                  refine AL.cons rfl (AOp.move (.inr rfl) rfl rfl) ?_
                  refine AL.nil ?_
                  refine ⟨j + 1, ?_, ?_, ?_⟩
                  · omega
                  · skip
                    exact Wk.mk (StLe.mk' ⟨⟨rfl, by (repeat' (first | exact PV.Le.refl _ | exact LeL.nil | exact PV.Le.nil _ | exact PV.Le.acc _ _ _ | apply LeL.cons | apply PV.Le.agg | apply PV.Le.tup)), rfl⟩, trivial⟩ rfl) (keeps_nil hC) ⟨⟨_, rfl, .refl _, rfl⟩, ⟨⟨_, rfl, .refl _, rfl⟩, ⟨⟨_, rfl, .refl _, rfl⟩, ⟨⟨_, rfl, .refl _, rfl⟩, ⟨⟨_, rfl, .refl _, rfl⟩, ⟨⟨_, rfl, .refl _, rfl⟩, ⟨⟨_, rfl, .refl _, rfl⟩, ⟨⟨_, rfl, .refl _, rfl⟩, ⟨⟨_, rfl, .refl _, rfl⟩, ⟨⟨_, rfl, .refl _, rfl⟩, ⟨⟨_, rfl, by (repeat' (first | exact PV.Le.refl _ | exact LeL.nil | exact PV.Le.nil _ | exact PV.Le.acc _ _ _ | apply LeL.cons | apply PV.Le.agg | apply PV.Le.tup)), rfl⟩, trivial⟩⟩⟩⟩⟩⟩⟩⟩⟩⟩⟩
                  · omega
              · skip
                have h18b := h18
                try simp only [Bool.and_eq_true, Bool.or_eq_true, Bool.and_eq_false_iff, Bool.or_eq_false_iff, decide_eq_true_eq, decide_eq_false_iff_not, Bool.not_eq_true', Bool.not_eq_false', Bool.not_eq_eq_eq_not, Bool.not_true, Bool.not_false, ge_iff_le, gt_iff_lt, Int.not_lt, Int.not_le] at h18b
                have h18n : j ≥ (GProgram.supers (supW code) ((GProgram.supers (supW code) (supName code))[i])).length := by omega
                refine AWP.exit ?_
                refine AWP.seq ?_
                refine AWP.region_lit ?_
                refine AL.cons rfl (AOp.move (.inl rfl) rfl rfl) ?_
                refine AL.cons rfl (AOp.notB rfl rfl rfl) ?_
                refine AL.cons rfl (AOp.move (.inl rfl) rfl rfl) ?_
                refine AL.splitB 122 rfl (fun g20 => ?_) (fun g20 => ?_)
                · skip
                  have g20b := g20
                  try simp only [Bool.and_eq_true, Bool.or_eq_true, Bool.and_eq_false_iff, Bool.or_eq_false_iff, decide_eq_true_eq, decide_eq_false_iff_not, Bool.not_eq_true', Bool.not_eq_false', Bool.not_eq_eq_eq_not, Bool.not_true, Bool.not_false, ge_iff_le, gt_iff_lt, Int.not_lt, Int.not_le] at g20b
                  have hz := supW_path (List.getElem_mem (show i < (GProgram.supers (supW code) (supName code)).length by omega))
                  simp [hz] at g20
                · skip
                  have g20b := g20
                  try simp only [Bool.and_eq_true, Bool.or_eq_true, Bool.and_eq_false_iff, Bool.or_eq_false_iff, decide_eq_true_eq, decide_eq_false_iff_not, Bool.not_eq_true', Bool.not_eq_false', Bool.not_eq_eq_eq_not, Bool.not_true, Bool.not_false, ge_iff_le, gt_iff_lt, Int.not_lt, Int.not_le] at g20b
                  refine AL.cons_gv rfl rfl rfl g20 (AOp.move (.inl rfl) rfl rfl) ?_
                  refine AL.cons_gv rfl rfl rfl g20 (AOp.move (.inl rfl) rfl rfl) ?_
                  refine AL.cons_gv rfl rfl rfl g20 (AOp.move (.inl rfl) rfl rfl) ?_
                  refine AL.cons_gv rfl rfl rfl g20 (AOp.index (k := i) rfl rfl rfl rfl rfl (strTrs_cs h8n) el66) ?_
                  refine AL.cons_gv rfl rfl rfl g20 (AOp.loadEptr1 (d := .leaf (.string ((GProgram.supers (supW code) (supName code))[i]))) rfl rfl rfl sh9 rfl) ?_
                  refine AL.cons_gv rfl rfl rfl g20 (AOp.neqS rfl rfl rfl rfl) ?_
                  refine AL.cons rfl (AOp.pickF rfl rfl rfl g20 rfl) ?_
                  refine AL.nil ?_
                  refine AWP.cond rfl (fun h21 => ?_) (fun h21 => ?_)
                  · skip
                    have h21b := h21
                    try simp only [Bool.and_eq_true, Bool.or_eq_true, Bool.and_eq_false_iff, Bool.or_eq_false_iff, decide_eq_true_eq, decide_eq_false_iff_not, Bool.not_eq_true', Bool.not_eq_false', Bool.not_eq_eq_eq_not, Bool.not_true, Bool.not_false, ge_iff_le, gt_iff_lt, Int.not_lt, Int.not_le] at h21b
                    exact absurd (path_nil (by rw [hk2, List.drop_of_length_le (by omega)])) h21b
                  · skip
                    have h21b := h21
                    try simp only [Bool.and_eq_true, Bool.or_eq_true, Bool.and_eq_false_iff, Bool.or_eq_false_iff, decide_eq_true_eq, decide_eq_false_iff_not, Bool.not_eq_true', Bool.not_eq_false', Bool.not_eq_eq_eq_not, Bool.not_true, Bool.not_false, ge_iff_le, gt_iff_lt, Int.not_lt, Int.not_le] at h21b
                    refine AWP.skip ?_
                    refine AWP.region_lit ?_
                    refine AL.cons rfl (AOp.move (.inl rfl) rfl rfl) ?_
                    refine AL.cons rfl (AOp.addI rfl rfl rfl rfl (c := ((i + 1 : Nat) : Int)) (by omega) (by omega)) ?_
                    refine AL.cons rfl (AOp.move (.inr rfl) rfl rfl) ?_
                    refine AL.nil ?_
                    refine ⟨i + 1, ?_, ?_, ?_⟩
                    · omega
                    · skip
                      exact Wk.mk (StLe.mk' ⟨⟨rfl, by (repeat' (first | exact PV.Le.refl _ | exact LeL.nil | exact PV.Le.nil _ | exact PV.Le.acc _ _ _ | apply LeL.cons | apply PV.Le.agg | apply PV.Le.tup)), rfl⟩, trivial⟩ rfl) (keeps_nil hC) ⟨⟨_, rfl, .refl _, rfl⟩, ⟨⟨_, rfl, .refl _, rfl⟩, ⟨⟨_, rfl, .refl _, rfl⟩, ⟨⟨_, rfl, .refl _, rfl⟩, ⟨⟨_, rfl, by (repeat' (first | exact PV.Le.refl _ | exact LeL.nil | exact PV.Le.nil _ | exact PV.Le.acc _ _ _ | apply LeL.cons | apply PV.Le.agg | apply PV.Le.tup)), rfl⟩, trivial⟩⟩⟩⟩⟩
                    · omega
          · skip
            have h8b := h8
            try simp only [Bool.and_eq_true, Bool.or_eq_true, Bool.and_eq_false_iff, Bool.or_eq_false_iff, decide_eq_true_eq, decide_eq_false_iff_not, Bool.not_eq_true', Bool.not_eq_false', Bool.not_eq_eq_eq_not, Bool.not_true, Bool.not_false, ge_iff_le, gt_iff_lt, Int.not_lt, Int.not_le] at h8b
            have h8n : i ≥ (GProgram.supers (supW code) (supName code)).length := by omega
            refine AWP.exit ?_
            refine AWP.seq ?_
            refine AWP.region_lit ?_
            refine AL.cons rfl (AOp.move (.inr rfl) rfl rfl) ?_
            refine AL.nil ?_
            refine AWP.ret ?_
            exact Ends.mk (ps := [_]) (.inr rfl) ⟨rfl, trivial⟩ rfl (StLe.mk' (st' := ⟨[], []⟩) trivial rfl) (keeps_nil hC) (q := (.t (.leaf (.bool (true))) : PV)) (by (repeat' (first | exact PV.Le.refl _ | exact LeL.nil | exact PV.Le.nil _ | exact PV.Le.acc _ _ _ | apply LeL.cons | apply PV.Le.agg | apply PV.Le.tup))) rfl ⟨by rfl, rfl⟩

end Go.Proofs.Ytoifjkggpanceaa
