/- Words, rules and walks of several kinds, laid together: PmDraw, PmF, PmaB, Pl, MaTy, Plain, SL, TyEq, PlTy. No conditions but those that each theorem states. -/
import Derived.Test.YtoifjkggpanceaaQ3LExactAssocTypeIsCovered
import Derived.Laws.MakeOwn
import Derived.Test.YtoifjkggpanceaaQ1LExactAssocTypeIsCovered
import Derived.Test.YtoifjkggpanceaaQ2LExactAssocTypeIsCovered
set_option linter.unusedSimpArgs false
set_option linter.unusedVariables false
namespace Go.Proofs.Ytoifjkggpanceaa
open Go.RowKit Go.Proofs
set_option linter.unusedSimpArgs false
set_option linter.unusedVariables false


def byteTrs (l : List UInt8) : List (List Tr) := l.map fun b => [.leaf (.int .u8 (b.toNat : Int))]
theorem byteTrs_len (l : List UInt8) : (byteTrs l).length = l.length := by simp [byteTrs]
theorem byteTrs_cs {l : List UInt8} {k : Nat} (h : k < l.length) : (byteTrs l)[k]? = some [.leaf (.int .u8 ((l[k]).toNat : Int))] := by simp [byteTrs, h]
/-- The state of the source: the bytes, the place, the number. -/
structure DS where
  code : List UInt8
  p : Nat
  h : Int
def DS.cells (d : DS) : List PV := [.t (.row 1 (byteTrs d.code)), .t (.leaf (.int .i64 (d.p : Int))), .t (.leaf (.int .i64 d.h))]
abbrev DS.box (T : TypeId) (d : DS) : Sto := ⟨[some ⟨T, d.cells⟩], []⟩
def nextH (h : Int) : Int := wrap64 (wrap64 (h * 6364136223846793005) + 1442695040888963407)
theorem wrap64_in (x : Int) : -9223372036854775808 ≤ wrap64 x ∧ wrap64 x ≤ 9223372036854775807 := by
  unfold wrap64 IntKind.wrap
  simp [IntKind.bits, IntKind.signed]
  omega
theorem iShr_in {x y : Int} (h : -9223372036854775808 ≤ x ∧ x ≤ 9223372036854775807) : -9223372036854775808 ≤ iShr x y ∧ iShr x y ≤ 9223372036854775807 := by
  unfold iShr
  generalize min y.toNat 64 = k
  have hp : (1 : Int) ≤ 2 ^ k := by
    have := Nat.one_le_two_pow (n := k)
    exact_mod_cast this
  generalize (2 : Int) ^ k = d at hp
  rw [Int.fdiv_eq_ediv_of_nonneg _ (by omega)]
  have h1 : x / d ≤ 9223372036854775807 := by
    have : x / d ≤ 9223372036854775807 / d := Int.ediv_le_ediv (by omega) h.2
    have : (9223372036854775807 : Int) / d ≤ 9223372036854775807 := Int.ediv_le_self _ (by omega)
    omega
  have h2 : -9223372036854775808 ≤ x / d := by
    rw [Int.le_ediv_iff_mul_le (by omega)]
    omega
  exact ⟨h2, h1⟩
def DS.byte (d : DS) : Int := let x := iAnd (iXor (iShr (nextH d.h) 33) (iShr (nextH d.h) 45)) 255; if h : d.p < d.code.length then iAnd (wrap64 (x + (d.code[d.p].toNat : Int))) 255 else x
def DS.next (d : DS) : DS := ⟨d.code, if d.p < d.code.length then d.p + 1 else d.p, nextH d.h⟩
theorem iAnd_255 (x : Int) : 0 ≤ iAnd x 255 ∧ iAnd x 255 ≤ 255 := by
  unfold iAnd
  have h : (BitVec.ofInt 64 x &&& BitVec.ofInt 64 255).toNat ≤ 255 := by
    rw [BitVec.toNat_and]
    exact Nat.le_trans Nat.and_le_right (by decide)
  generalize (BitVec.ofInt 64 x &&& BitVec.ofInt 64 255).toNat = k at h
  unfold IntKind.wrap
  simp [IntKind.bits, IntKind.signed]
  omega
theorem DS.byte_in (d : DS) : 0 ≤ d.byte ∧ d.byte ≤ 255 := by
  unfold DS.byte
  split
  · exact iAnd_255 _
  · exact iAnd_255 _
def DS.byteN (d : DS) : Nat := d.byte.toNat
theorem DS.byteN_le (d : DS) : d.byteN ≤ 255 := by have := d.byte_in; unfold DS.byteN; omega
theorem DS.byteN_eq (d : DS) : ((d.byteN : Nat) : Int) = d.byte := by have := d.byte_in; unfold DS.byteN; omega
def DS.below (d : DS) (n : Nat) : Nat := if n = 0 then 0 else if n ≤ 256 then d.byteN % n else (d.byteN * 16777216 + d.next.byteN * 65536 + d.next.next.byteN * 256 + d.next.next.next.byteN) % n
def DS.after (d : DS) (n : Nat) : DS := if n = 0 then d else if n ≤ 256 then d.next else d.next.next.next.next
theorem DS.below_lt (d : DS) {n : Nat} (h : 0 < n) : d.below n < n := by
  unfold DS.below
  rw [if_neg (by omega)]
  split
  · exact Nat.mod_lt _ h
  · exact Nat.mod_lt _ h
def DS.pick (d : DS) (l : List ByteArray) : ByteArray := (l[d.below l.length]?).getD ⟨#[]⟩
theorem DS.pick_eq {d : DS} {l : List ByteArray} (h : d.below l.length < l.length) : d.pick l = l[d.below l.length] := by simp [DS.pick, h]
def newStep (h : Int) (b : UInt8) : Int := iAnd (wrap64 (wrap64 (wrap64 (h * 131) + (b.toNat : Int)) + 7)) 1073741823
def newH (code : List UInt8) : Int := (code.take 4000).foldl newStep (28803 + (code.length : Int))
def DS.start (code : List UInt8) : DS := ⟨code, 0, newH code⟩
theorem newH_next {code : List UInt8} {i : Nat} {h h' r : Int} (h1 : i < code.length) (h2 : i < 4000) (hr : r = ((code.take 4000).drop i).foldl newStep h) (hs : newStep h code[i] = h') : r = ((code.take 4000).drop (i + 1)).foldl newStep h' := by
  have hl : i < (code.take 4000).length := by simp; omega
  rw [hr, List.drop_eq_getElem_cons hl, List.foldl_cons, List.getElem_take, hs]
theorem newH_end {code : List UInt8} {i : Nat} {h r : Int} (h1 : code.length ≤ i ∨ 4000 ≤ i) (hr : r = ((code.take 4000).drop i).foldl newStep h) : r = h := by
  rw [hr, List.drop_of_length_le (by simp; omega), List.foldl_nil]
theorem keeps_box {C : Ctx} {x : PBox} {S : Sto} (h : C.st = ⟨[some x], []⟩) (hs : ∃ y, S.boxes[0]? = some (some y)) : Keeps0 C.st S := by
  rw [h]
  exact ⟨fun k z hz => by
    rcases k with _ | k
    · exact hs
    · simp at hz, fun r row hr => by simp at hr⟩

set_option maxRecDepth 100000 in
set_option maxHeartbeats 4000000 in
theorem byte_ok (d : DS) : ACalls Try.prog 203 [.ptr 0 0] (d.box 206) (fun r t => r = .t (.leaf (.int .i64 d.byte)) ∧ t = d.next.box 206) := by
  refine ACalls.intro Try.func203 rfl (by first | decide | (simp; done) | (simp; decide)) ?_
  intro C hC
  refine AWP.fact (box_lenN 0 0 rfl rfl rfl (byteTrs_len d.code)) (fun hl0 => ?_)
  refine AWP.seq ?_
  refine AWP.region_lit ?_
  refine AL.cons rfl (AOp.move (.inr rfl) rfl rfl) ?_
  refine AL.nil ?_
  refine AWP.seq ?_
  refine AWP.region_lit ?_
  refine AL.cons rfl (AOp.move (.inl rfl) rfl rfl) ?_
  refine AL.cons rfl (AOp.move (.inl rfl) rfl rfl) ?_
  refine AL.cons rfl (AOp.nilPtr rfl rfl rfl) ?_
  refine AL.cons rfl (AOp.fieldPtr (k := 0) (d := 0) (e := 2) rfl rfl rfl fo206_2) ?_
  refine AL.cons rfl (AOp.loadPtr1 rfl rfl rfl rfl sh3 rfl) ?_
  refine AL.cons rfl (AOp.mulW rfl rfl rfl rfl) ?_
  refine AL.cons rfl (AOp.addW rfl rfl rfl rfl) ?_
  refine AL.cons rfl (AOp.nilPtr rfl rfl rfl) ?_
  refine AL.cons rfl (AOp.fieldPtr (k := 0) (d := 0) (e := 2) rfl rfl rfl fo206_2) ?_
  refine AL.cons rfl (AOp.storePtr (cs := [.t (.leaf (.int .i64 (wrap64 ((wrap64 (d.h * 6364136223846793005)) + 1442695040888963407))))]) (ds := [.t (.row 1 (byteTrs (d.code))), .t (.leaf (.int .i64 (((d.p : Nat) : Int)))), .t (.leaf (.int .i64 (wrap64 ((wrap64 (d.h * 6364136223846793005)) + 1442695040888963407))))]) rfl rfl rfl rfl rfl rfl rfl sz3 (Nat.le_of_ble_eq_true rfl) rfl) ?_
  refine AL.nil ?_
  refine AWP.seq ?_
  refine AWP.drawnL ⟨_, _, fun _ _ => (⟨[some ⟨206, [.t (.row 1 (byteTrs (d.code))), .t (.leaf (.int .i64 (((d.p : Nat) : Int)))), .t (.leaf (.int .i64 (wrap64 ((wrap64 (d.h * 6364136223846793005)) + 1442695040888963407))))]⟩], []⟩ : Sto), fun q' => ([some (.ptr 0 0), some (.ptr 0 0), some (.ptr 0 2), some (.t (.leaf (.int .i64 (wrap64 ((wrap64 (d.h * 6364136223846793005)) + 1442695040888963407))))), some (.t (.leaf (.int .i64 (iShr (wrap64 ((wrap64 (d.h * 6364136223846793005)) + 1442695040888963407)) 33)))), some (.ptr 0 0), some (.ptr 0 0), some (.ptr 0 2), some (.t (.leaf (.int .i64 (wrap64 ((wrap64 (d.h * 6364136223846793005)) + 1442695040888963407))))), some (.t (.leaf (.int .i64 (iShr (wrap64 ((wrap64 (d.h * 6364136223846793005)) + 1442695040888963407)) 45)))), some (.t (.leaf (.int .i64 (iXor (iShr (wrap64 ((wrap64 (d.h * 6364136223846793005)) + 1442695040888963407)) 33) (iShr (wrap64 ((wrap64 (d.h * 6364136223846793005)) + 1442695040888963407)) 45))))), some (.t (.leaf (.int .i64 (iAnd (iXor (iShr (wrap64 ((wrap64 (d.h * 6364136223846793005)) + 1442695040888963407)) 33) (iShr (wrap64 ((wrap64 (d.h * 6364136223846793005)) + 1442695040888963407)) 45)) 255)))), some (.t (.leaf (.int .i64 (iAnd (iXor (iShr (wrap64 ((wrap64 (d.h * 6364136223846793005)) + 1442695040888963407)) 33) (iShr (wrap64 ((wrap64 (d.h * 6364136223846793005)) + 1442695040888963407)) 45)) 255))))] : List (Option PV)).getD q' none, fun q' => ([.q 0 0, .q 0 0, .q 0 0, .q 0 0, .q 0 0, .q 0 0, .q 0 0, .q 0 0, .q 0 0, .q 0 0, .q 0 0, .q 0 0, .q 0 0] : List DK).getD q' (.q 0 0), [], none, fun q' => ([[(0, none)], [(13, some 0)], [(14, some 1)], [(15, some 2)], [(16, some 3)], [(0, none)], [(18, some 5)], [(19, some 6)], [(20, some 7)], [(21, some 8)], [(17, some 4), (22, some 9)], [(23, some 10)], [(24, some 11)]] : List (List (Nat × Option Nat))).getD q' []⟩ rfl mixed (by kernel_rfl) rfl rfl ⟨?_, ?_, ?_, ?_, ?_, ?_, ?_, ?_, ?_, ?_, ?_, ?_, ?_, trivial⟩ rfl ?_
  · refine .inl ⟨rfl, fun s' jj bb (h1 : 0 ≤ jj) (h2 : jj ≤ 0) hs hl => ?_⟩
    obtain rfl : jj = 0 := by omega
    exact ⟨_, rfl, AOp.move (.inl rfl) rfl (hl 0 none _ (.head _) rfl)⟩
  · refine .inl ⟨rfl, fun s' jj bb (h1 : 0 ≤ jj) (h2 : jj ≤ 0) hs hl => ?_⟩
    obtain rfl : jj = 0 := by omega
    exact ⟨_, rfl, AOp.nilPtr rfl rfl (hl 13 (some 0) _ (.head _) rfl)⟩
  · refine .inl ⟨rfl, fun s' jj bb (h1 : 0 ≤ jj) (h2 : jj ≤ 0) hs hl => ?_⟩
    obtain rfl : jj = 0 := by omega
    exact ⟨_, rfl, AOp.fieldPtr (k := 0) (d := 0) (e := 2) rfl rfl (hl 14 (some 1) _ (.head _) rfl) fo206_2⟩
  · refine .inl ⟨rfl, fun s' jj bb (h1 : 0 ≤ jj) (h2 : jj ≤ 0) hs hl => ?_⟩
    obtain rfl : jj = 0 := by omega
    exact ⟨_, rfl, AOp.loadPtr1 rfl rfl (hl 15 (some 2) _ (.head _) rfl) (by rw [hs]; rfl) sh3 rfl⟩
  · refine .inl ⟨rfl, fun s' jj bb (h1 : 0 ≤ jj) (h2 : jj ≤ 0) hs hl => ?_⟩
    obtain rfl : jj = 0 := by omega
    exact ⟨_, rfl, AOp.shrI (a := wrap64 ((wrap64 (d.h * 6364136223846793005)) + 1442695040888963407)) (b := 33) rfl rfl (hl 16 (some 3) _ (.head _) rfl) rfl (by decide) (iShr_in (wrap64_in _)).1 (iShr_in (wrap64_in _)).2⟩
  · refine .inl ⟨rfl, fun s' jj bb (h1 : 0 ≤ jj) (h2 : jj ≤ 0) hs hl => ?_⟩
    obtain rfl : jj = 0 := by omega
    exact ⟨_, rfl, AOp.move (.inl rfl) rfl (hl 0 none _ (.head _) rfl)⟩
  · refine .inl ⟨rfl, fun s' jj bb (h1 : 0 ≤ jj) (h2 : jj ≤ 0) hs hl => ?_⟩
    obtain rfl : jj = 0 := by omega
    exact ⟨_, rfl, AOp.nilPtr rfl rfl (hl 18 (some 5) _ (.head _) rfl)⟩
  · refine .inl ⟨rfl, fun s' jj bb (h1 : 0 ≤ jj) (h2 : jj ≤ 0) hs hl => ?_⟩
    obtain rfl : jj = 0 := by omega
    exact ⟨_, rfl, AOp.fieldPtr (k := 0) (d := 0) (e := 2) rfl rfl (hl 19 (some 6) _ (.head _) rfl) fo206_2⟩
  · refine .inl ⟨rfl, fun s' jj bb (h1 : 0 ≤ jj) (h2 : jj ≤ 0) hs hl => ?_⟩
    obtain rfl : jj = 0 := by omega
    exact ⟨_, rfl, AOp.loadPtr1 rfl rfl (hl 20 (some 7) _ (.head _) rfl) (by rw [hs]; rfl) sh3 rfl⟩
  · refine .inl ⟨rfl, fun s' jj bb (h1 : 0 ≤ jj) (h2 : jj ≤ 0) hs hl => ?_⟩
    obtain rfl : jj = 0 := by omega
    exact ⟨_, rfl, AOp.shrI (a := wrap64 ((wrap64 (d.h * 6364136223846793005)) + 1442695040888963407)) (b := 45) rfl rfl (hl 21 (some 8) _ (.head _) rfl) rfl (by decide) (iShr_in (wrap64_in _)).1 (iShr_in (wrap64_in _)).2⟩
  · refine .inl ⟨rfl, fun s' jj bb (h1 : 0 ≤ jj) (h2 : jj ≤ 0) hs hl => ?_⟩
    obtain rfl : jj = 0 := by omega
    exact ⟨_, rfl, AOp.xorI rfl rfl (hl 17 (some 4) _ (.head _) rfl) (hl 22 (some 9) _ (.tail _ (.head _)) rfl)⟩
  · refine .inl ⟨rfl, fun s' jj bb (h1 : 0 ≤ jj) (h2 : jj ≤ 0) hs hl => ?_⟩
    obtain rfl : jj = 0 := by omega
    exact ⟨_, rfl, AOp.andI rfl rfl (hl 23 (some 10) _ (.head _) rfl) rfl⟩
  · refine .inl ⟨rfl, fun s' jj bb (h1 : 0 ≤ jj) (h2 : jj ≤ 0) hs hl => ?_⟩
    obtain rfl : jj = 0 := by omega
    exact ⟨_, rfl, AOp.move (.inr rfl) rfl (hl 24 (some 11) _ (.head _) rfl)⟩
  refine AWP.seq ?_
  refine AWP.seq ?_
  refine AWP.drawnL ⟨_, _, fun _ _ => (⟨[some ⟨206, [.t (.row 1 (byteTrs (d.code))), .t (.leaf (.int .i64 (((d.p : Nat) : Int)))), .t (.leaf (.int .i64 (wrap64 ((wrap64 (d.h * 6364136223846793005)) + 1442695040888963407))))]⟩], []⟩ : Sto), fun q' => ([some (.ptr 0 0), some (.ptr 0 0), some (.ptr 0 1), some (.t (.leaf (.int .i64 (((d.p : Nat) : Int))))), some (.ptr 0 0), some (.ptr 0 0), some (.ptr 0 0), some (.t (.row 1 (byteTrs (d.code)))), some (.t (.leaf (.int .i64 (((d.code.length : Nat) : Int))))), some (.t (.leaf (.bool (decide ((((d.p : Nat) : Int) : Int) < ((d.code.length : Nat) : Int))))))] : List (Option PV)).getD q' none, fun q' => ([.q 0 0, .q 0 0, .q 0 0, .q 0 0, .q 0 0, .q 0 0, .q 0 0, .q 0 0, .q 0 0, .q 0 0] : List DK).getD q' (.q 0 0), [], none, fun q' => ([[(0, none)], [(25, some 0)], [(26, some 1)], [(27, some 2)], [(0, none)], [(29, some 4)], [(30, some 5)], [(31, some 6)], [(32, some 7)], [(28, some 3), (33, some 8)]] : List (List (Nat × Option Nat))).getD q' []⟩ rfl mixed (by kernel_rfl) rfl rfl ⟨?_, ?_, ?_, ?_, ?_, ?_, ?_, ?_, ?_, ?_, trivial⟩ rfl ?_
  · refine .inl ⟨rfl, fun s' jj bb (h1 : 0 ≤ jj) (h2 : jj ≤ 0) hs hl => ?_⟩
    obtain rfl : jj = 0 := by omega
    exact ⟨_, rfl, AOp.move (.inl rfl) rfl (hl 0 none _ (.head _) rfl)⟩
  · refine .inl ⟨rfl, fun s' jj bb (h1 : 0 ≤ jj) (h2 : jj ≤ 0) hs hl => ?_⟩
    obtain rfl : jj = 0 := by omega
    exact ⟨_, rfl, AOp.nilPtr rfl rfl (hl 25 (some 0) _ (.head _) rfl)⟩
  · refine .inl ⟨rfl, fun s' jj bb (h1 : 0 ≤ jj) (h2 : jj ≤ 0) hs hl => ?_⟩
    obtain rfl : jj = 0 := by omega
    exact ⟨_, rfl, AOp.fieldPtr (k := 0) (d := 0) (e := 1) rfl rfl (hl 26 (some 1) _ (.head _) rfl) fo206_1⟩
  · refine .inl ⟨rfl, fun s' jj bb (h1 : 0 ≤ jj) (h2 : jj ≤ 0) hs hl => ?_⟩
    obtain rfl : jj = 0 := by omega
    exact ⟨_, rfl, AOp.loadPtr1 rfl rfl (hl 27 (some 2) _ (.head _) rfl) (by rw [hs]; rfl) sh3 rfl⟩
  · refine .inl ⟨rfl, fun s' jj bb (h1 : 0 ≤ jj) (h2 : jj ≤ 0) hs hl => ?_⟩
    obtain rfl : jj = 0 := by omega
    exact ⟨_, rfl, AOp.move (.inl rfl) rfl (hl 0 none _ (.head _) rfl)⟩
  · refine .inl ⟨rfl, fun s' jj bb (h1 : 0 ≤ jj) (h2 : jj ≤ 0) hs hl => ?_⟩
    obtain rfl : jj = 0 := by omega
    exact ⟨_, rfl, AOp.nilPtr rfl rfl (hl 29 (some 4) _ (.head _) rfl)⟩
  · refine .inl ⟨rfl, fun s' jj bb (h1 : 0 ≤ jj) (h2 : jj ≤ 0) hs hl => ?_⟩
    obtain rfl : jj = 0 := by omega
    exact ⟨_, rfl, AOp.fieldPtr (k := 0) (d := 0) (e := 0) rfl rfl (hl 30 (some 5) _ (.head _) rfl) fo206_0⟩
  · refine .inl ⟨rfl, fun s' jj bb (h1 : 0 ≤ jj) (h2 : jj ≤ 0) hs hl => ?_⟩
    obtain rfl : jj = 0 := by omega
    exact ⟨_, rfl, AOp.loadPtr1 rfl rfl (hl 31 (some 6) _ (.head _) rfl) (by rw [hs]; rfl) sh59 rfl⟩
  · refine .inl ⟨rfl, fun s' jj bb (h1 : 0 ≤ jj) (h2 : jj ≤ 0) hs hl => ?_⟩
    obtain rfl : jj = 0 := by omega
    exact ⟨_, rfl, AOp.lenN rfl rfl (hl 32 (some 7) _ (.head _) rfl) rfl el59 (byteTrs_len _)⟩
  · refine .inl ⟨rfl, fun s' jj bb (h1 : 0 ≤ jj) (h2 : jj ≤ 0) hs hl => ?_⟩
    obtain rfl : jj = 0 := by omega
    exact ⟨_, rfl, AOp.lss rfl rfl (hl 28 (some 3) _ (.head _) rfl) (hl 33 (some 8) _ (.tail _ (.head _)) rfl)⟩
  refine AWP.cond rfl (fun h1 => ?_) (fun h1 => ?_)
  · skip
    have h1b := h1
    try simp only [Bool.and_eq_true, Bool.or_eq_true, Bool.and_eq_false_iff, Bool.or_eq_false_iff, decide_eq_true_eq, decide_eq_false_iff_not, Bool.not_eq_true', Bool.not_eq_false', Bool.not_eq_eq_eq_not, Bool.not_true, Bool.not_false, ge_iff_le, gt_iff_lt, Int.not_lt, Int.not_le] at h1b
    have h1n : d.p < d.code.length := by omega
    refine AWP.seq ?_
    refine AWP.drawnL ⟨_, _, fun _ _ => (⟨[some ⟨206, [.t (.row 1 (byteTrs (d.code))), .t (.leaf (.int .i64 (((d.p : Nat) : Int)))), .t (.leaf (.int .i64 (wrap64 ((wrap64 (d.h * 6364136223846793005)) + 1442695040888963407))))]⟩], []⟩ : Sto), fun q' => ([some (.t (.leaf (.int .i64 (iAnd (iXor (iShr (wrap64 ((wrap64 (d.h * 6364136223846793005)) + 1442695040888963407)) 33) (iShr (wrap64 ((wrap64 (d.h * 6364136223846793005)) + 1442695040888963407)) 45)) 255)))), some (.ptr 0 0), some (.ptr 0 0), some (.ptr 0 0), some (.t (.row 1 (byteTrs (d.code)))), some (.ptr 0 0), some (.ptr 0 0), some (.ptr 0 1), some (.t (.leaf (.int .i64 (((d.p : Nat) : Int))))), some (.eptr ([.leaf (.int .u8 ((d.code[d.p]).toNat : Int))])), some (.t (.leaf (.int .u8 (((d.code[d.p]).toNat : Int))))), some (.t (.leaf (.int .i64 (((d.code[d.p]).toNat : Int))))), some (.t (.leaf (.int .i64 (wrap64 ((iAnd (iXor (iShr (wrap64 ((wrap64 (d.h * 6364136223846793005)) + 1442695040888963407)) 33) (iShr (wrap64 ((wrap64 (d.h * 6364136223846793005)) + 1442695040888963407)) 45)) 255) + ((d.code[d.p]).toNat : Int)))))), some (.t (.leaf (.int .i64 (iAnd (wrap64 ((iAnd (iXor (iShr (wrap64 ((wrap64 (d.h * 6364136223846793005)) + 1442695040888963407)) 33) (iShr (wrap64 ((wrap64 (d.h * 6364136223846793005)) + 1442695040888963407)) 45)) 255) + ((d.code[d.p]).toNat : Int))) 255)))), some (.t (.leaf (.int .i64 (iAnd (wrap64 ((iAnd (iXor (iShr (wrap64 ((wrap64 (d.h * 6364136223846793005)) + 1442695040888963407)) 33) (iShr (wrap64 ((wrap64 (d.h * 6364136223846793005)) + 1442695040888963407)) 45)) 255) + ((d.code[d.p]).toNat : Int))) 255))))] : List (Option PV)).getD q' none, fun q' => ([.q 0 0, .q 0 0, .q 0 0, .q 0 0, .q 0 0, .q 0 0, .q 0 0, .q 0 0, .q 0 0, .q 0 0, .q 0 0, .q 0 0, .q 0 0, .q 0 0, .q 0 0] : List DK).getD q' (.q 0 0), [], none, fun q' => ([[(3, none)], [(0, none)], [(36, some 1)], [(37, some 2)], [(38, some 3)], [(0, none)], [(40, some 5)], [(41, some 6)], [(42, some 7)], [(39, some 4), (43, some 8)], [(44, some 9)], [(45, some 10)], [(35, some 0), (46, some 11)], [(47, some 12)], [(48, some 13)]] : List (List (Nat × Option Nat))).getD q' []⟩ rfl mixed (by kernel_rfl) rfl rfl ⟨?_, ?_, ?_, ?_, ?_, ?_, ?_, ?_, ?_, ?_, ?_, ?_, ?_, ?_, ?_, trivial⟩ rfl ?_
    · refine .inl ⟨rfl, fun s' jj bb (h1 : 0 ≤ jj) (h2 : jj ≤ 0) hs hl => ?_⟩
      obtain rfl : jj = 0 := by omega
      exact ⟨_, rfl, AOp.move (.inl rfl) rfl (hl 3 none _ (.head _) rfl)⟩
    · refine .inl ⟨rfl, fun s' jj bb (h1 : 0 ≤ jj) (h2 : jj ≤ 0) hs hl => ?_⟩
      obtain rfl : jj = 0 := by omega
      exact ⟨_, rfl, AOp.move (.inl rfl) rfl (hl 0 none _ (.head _) rfl)⟩
    · refine .inl ⟨rfl, fun s' jj bb (h1 : 0 ≤ jj) (h2 : jj ≤ 0) hs hl => ?_⟩
      obtain rfl : jj = 0 := by omega
      exact ⟨_, rfl, AOp.nilPtr rfl rfl (hl 36 (some 1) _ (.head _) rfl)⟩
    · refine .inl ⟨rfl, fun s' jj bb (h1 : 0 ≤ jj) (h2 : jj ≤ 0) hs hl => ?_⟩
      obtain rfl : jj = 0 := by omega
      exact ⟨_, rfl, AOp.fieldPtr (k := 0) (d := 0) (e := 0) rfl rfl (hl 37 (some 2) _ (.head _) rfl) fo206_0⟩
    · refine .inl ⟨rfl, fun s' jj bb (h1 : 0 ≤ jj) (h2 : jj ≤ 0) hs hl => ?_⟩
      obtain rfl : jj = 0 := by omega
      exact ⟨_, rfl, AOp.loadPtr1 rfl rfl (hl 38 (some 3) _ (.head _) rfl) (by rw [hs]; rfl) sh59 rfl⟩
    · refine .inl ⟨rfl, fun s' jj bb (h1 : 0 ≤ jj) (h2 : jj ≤ 0) hs hl => ?_⟩
      obtain rfl : jj = 0 := by omega
      exact ⟨_, rfl, AOp.move (.inl rfl) rfl (hl 0 none _ (.head _) rfl)⟩
    · refine .inl ⟨rfl, fun s' jj bb (h1 : 0 ≤ jj) (h2 : jj ≤ 0) hs hl => ?_⟩
      obtain rfl : jj = 0 := by omega
      exact ⟨_, rfl, AOp.nilPtr rfl rfl (hl 40 (some 5) _ (.head _) rfl)⟩
    · refine .inl ⟨rfl, fun s' jj bb (h1 : 0 ≤ jj) (h2 : jj ≤ 0) hs hl => ?_⟩
      obtain rfl : jj = 0 := by omega
      exact ⟨_, rfl, AOp.fieldPtr (k := 0) (d := 0) (e := 1) rfl rfl (hl 41 (some 6) _ (.head _) rfl) fo206_1⟩
    · refine .inl ⟨rfl, fun s' jj bb (h1 : 0 ≤ jj) (h2 : jj ≤ 0) hs hl => ?_⟩
      obtain rfl : jj = 0 := by omega
      exact ⟨_, rfl, AOp.loadPtr1 rfl rfl (hl 42 (some 7) _ (.head _) rfl) (by rw [hs]; rfl) sh3 rfl⟩
    · refine .inl ⟨rfl, fun s' jj bb (h1 : 0 ≤ jj) (h2 : jj ≤ 0) hs hl => ?_⟩
      obtain rfl : jj = 0 := by omega
      exact ⟨_, rfl, AOp.index (k := d.p) rfl rfl (hl 39 (some 4) _ (.head _) rfl) rfl (hl 43 (some 8) _ (.tail _ (.head _)) rfl) (byteTrs_cs h1n) el59⟩
    · refine .inl ⟨rfl, fun s' jj bb (h1 : 0 ≤ jj) (h2 : jj ≤ 0) hs hl => ?_⟩
      obtain rfl : jj = 0 := by omega
      exact ⟨_, rfl, AOp.loadEptr1 (d := .leaf (.int .u8 (((d.code[d.p]).toNat : Int)))) rfl rfl (hl 44 (some 9) _ (.head _) rfl) sh5 rfl⟩
    · refine .inl ⟨rfl, fun s' jj bb (h1 : 0 ≤ jj) (h2 : jj ≤ 0) hs hl => ?_⟩
      obtain rfl : jj = 0 := by omega
      exact ⟨_, rfl, AOp.convI rfl rfl (hl 45 (some 10) _ (.head _) rfl) ⟨_, Try.underlying5⟩ Try.underlying3 (by first | omega | (have := UInt8.toNat_lt (d.code[d.p]); omega)) (by first | omega | (have := UInt8.toNat_lt (d.code[d.p]); omega))⟩
    · refine .inl ⟨rfl, fun s' jj bb (h1 : 0 ≤ jj) (h2 : jj ≤ 0) hs hl => ?_⟩
      obtain rfl : jj = 0 := by omega
      exact ⟨_, rfl, AOp.addW rfl rfl (hl 35 (some 0) _ (.head _) rfl) (hl 46 (some 11) _ (.tail _ (.head _)) rfl)⟩
    · refine .inl ⟨rfl, fun s' jj bb (h1 : 0 ≤ jj) (h2 : jj ≤ 0) hs hl => ?_⟩
      obtain rfl : jj = 0 := by omega
      exact ⟨_, rfl, AOp.andI rfl rfl (hl 47 (some 12) _ (.head _) rfl) rfl⟩
    · refine .inl ⟨rfl, fun s' jj bb (h1 : 0 ≤ jj) (h2 : jj ≤ 0) hs hl => ?_⟩
      obtain rfl : jj = 0 := by omega
      exact ⟨_, rfl, AOp.move (.inr rfl) rfl (hl 48 (some 13) _ (.head _) rfl)⟩
    refine AWP.region_lit ?_
    refine AL.cons rfl (AOp.move (.inl rfl) rfl rfl) ?_
    refine AL.cons rfl (AOp.move (.inl rfl) rfl rfl) ?_
    refine AL.cons rfl (AOp.nilPtr rfl rfl rfl) ?_
    refine AL.cons rfl (AOp.fieldPtr (k := 0) (d := 0) (e := 1) rfl rfl rfl fo206_1) ?_
    refine AL.cons rfl (AOp.loadPtr1 rfl rfl rfl rfl sh3 rfl) ?_
    refine AL.cons rfl (AOp.addI rfl rfl rfl rfl (c := ((d.p + 1 : Nat) : Int)) (by omega) (by omega)) ?_
    refine AL.cons rfl (AOp.nilPtr rfl rfl rfl) ?_
    refine AL.cons rfl (AOp.fieldPtr (k := 0) (d := 0) (e := 1) rfl rfl rfl fo206_1) ?_
    refine AL.cons rfl (AOp.storePtr (cs := [.t (.leaf (.int .i64 (((d.p + 1 : Nat) : Int))))]) (ds := [.t (.row 1 (byteTrs (d.code))), .t (.leaf (.int .i64 (((d.p + 1 : Nat) : Int)))), .t (.leaf (.int .i64 (wrap64 ((wrap64 (d.h * 6364136223846793005)) + 1442695040888963407))))]) rfl rfl rfl rfl rfl rfl rfl sz3 (Nat.le_of_ble_eq_true rfl) rfl) ?_
    refine AL.nil ?_
    refine AWP.seq ?_
    refine AWP.region_lit ?_
    refine AL.cons rfl (AOp.move (.inl rfl) rfl rfl) ?_
    refine AL.cons rfl (AOp.move (.inr rfl) rfl rfl) ?_
    refine AL.nil ?_
    refine AWP.ret ?_
    exact Ends.mk (ps := [_]) (.inr rfl) ⟨rfl, trivial⟩ rfl (StLe.mk' (st' := ⟨[some ⟨206, [.t (.row 1 (byteTrs (d.code))), .t (.leaf (.int .i64 (((d.p + 1 : Nat) : Int)))), .t (.leaf (.int .i64 (wrap64 ((wrap64 (d.h * 6364136223846793005)) + 1442695040888963407))))]⟩], []⟩) ⟨⟨rfl, by (repeat' (first | exact PV.Le.refl _ | exact LeL.nil | exact PV.Le.nil _ | exact PV.Le.acc _ _ _ | apply LeL.cons | apply PV.Le.agg | apply PV.Le.tup)), rfl⟩, trivial⟩ rfl) (keeps_box hC ⟨_, rfl⟩) (q := .t (.leaf (.int .i64 (iAnd (wrap64 ((iAnd (iXor (iShr (wrap64 ((wrap64 (d.h * 6364136223846793005)) + 1442695040888963407)) 33) (iShr (wrap64 ((wrap64 (d.h * 6364136223846793005)) + 1442695040888963407)) 45)) 255) + ((d.code[d.p]).toNat : Int))) 255)))) (.refl _) rfl ⟨by first | (simp_all [DS.byte, nextH]; done) | (have hq : ¬ d.p < d.code.length := (by omega); simp [DS.byte, nextH, hq]), by first | (simp_all [DS.box, DS.cells, DS.next, nextH]; done) | (have hq : ¬ d.p < d.code.length := (by omega); simp [DS.box, DS.cells, DS.next, nextH, hq])⟩
  · skip
    have h1b := h1
    try simp only [Bool.and_eq_true, Bool.or_eq_true, Bool.and_eq_false_iff, Bool.or_eq_false_iff, decide_eq_true_eq, decide_eq_false_iff_not, Bool.not_eq_true', Bool.not_eq_false', Bool.not_eq_eq_eq_not, Bool.not_true, Bool.not_false, ge_iff_le, gt_iff_lt, Int.not_lt, Int.not_le] at h1b
    have h1n : d.p ≥ d.code.length := by omega
    refine AWP.skip ?_
    refine AWP.seq ?_
    refine AWP.region_lit ?_
    refine AL.cons rfl (AOp.move (.inl rfl) rfl rfl) ?_
    refine AL.cons rfl (AOp.move (.inr rfl) rfl rfl) ?_
    refine AL.nil ?_
    refine AWP.ret ?_
    exact Ends.mk (ps := [_]) (.inr rfl) ⟨rfl, trivial⟩ rfl (StLe.mk' (st' := ⟨[some ⟨206, [.t (.row 1 (byteTrs (d.code))), .t (.leaf (.int .i64 (((d.p : Nat) : Int)))), .t (.leaf (.int .i64 (wrap64 ((wrap64 (d.h * 6364136223846793005)) + 1442695040888963407))))]⟩], []⟩) ⟨⟨rfl, by (repeat' (first | exact PV.Le.refl _ | exact LeL.nil | exact PV.Le.nil _ | exact PV.Le.acc _ _ _ | apply LeL.cons | apply PV.Le.agg | apply PV.Le.tup)), rfl⟩, trivial⟩ rfl) (keeps_box hC ⟨_, rfl⟩) (q := .t (.leaf (.int .i64 (iAnd (iXor (iShr (wrap64 ((wrap64 (d.h * 6364136223846793005)) + 1442695040888963407)) 33) (iShr (wrap64 ((wrap64 (d.h * 6364136223846793005)) + 1442695040888963407)) 45)) 255)))) (.refl _) rfl ⟨by first | (simp_all [DS.byte, nextH]; done) | (have hq : ¬ d.p < d.code.length := (by omega); simp [DS.byte, nextH, hq]), by first | (simp_all [DS.box, DS.cells, DS.next, nextH]; done) | (have hq : ¬ d.p < d.code.length := (by omega); simp [DS.box, DS.cells, DS.next, nextH, hq])⟩

theorem byteN_ok (d : DS) : ACalls Try.prog 203 [.ptr 0 0] (d.box 206) (fun r t => r = .t (.leaf (.int .i64 ((d.byteN : Nat) : Int))) ∧ t = d.next.box 206) := by rw [d.byteN_eq]; exact byte_ok d
set_option maxRecDepth 100000 in
set_option maxHeartbeats 4000000 in
theorem below_ok (d : DS) (n : Nat)  : ACalls Try.prog 165 [.ptr 0 0, .t (.leaf (.int .i64 (((n : Nat) : Int))))] (d.box 206) (fun r t => r = .t (.leaf (.int .i64 (((d.below n : Nat) : Int)))) ∧ t = (d.after n).box 206) := by
  refine ACalls.intro Try.func165 rfl (by first | decide | (simp; done) | (simp; decide)) ?_
  intro C hC
  refine AWP.fact (box_lenN 0 0 rfl rfl rfl (byteTrs_len d.code)) (fun hl0 => ?_)
  have hb0 := d.byteN_le
  have hb1 := d.next.byteN_le
  have hb2 := d.next.next.byteN_le
  have hb3 := d.next.next.next.byteN_le
  refine AWP.seq ?_
  refine AWP.region_lit ?_
  refine AL.cons rfl (AOp.move (.inr rfl) rfl rfl) ?_
  refine AL.nil ?_
  refine AWP.seq ?_
  refine AWP.seq ?_
  refine AWP.region_lit ?_
  refine AL.cons rfl (AOp.move (.inl rfl) rfl rfl) ?_
  refine AL.cons rfl (AOp.leq rfl rfl rfl rfl) ?_
  refine AL.nil ?_
  refine AWP.cond rfl (fun h1 => ?_) (fun h1 => ?_)
  · skip
    have h1b := h1
    try simp only [Bool.and_eq_true, Bool.or_eq_true, Bool.and_eq_false_iff, Bool.or_eq_false_iff, decide_eq_true_eq, decide_eq_false_iff_not, Bool.not_eq_true', Bool.not_eq_false', Bool.not_eq_eq_eq_not, Bool.not_true, Bool.not_false, ge_iff_le, gt_iff_lt, Int.not_lt, Int.not_le] at h1b
    refine AWP.seq ?_
    refine AWP.region_lit ?_
    refine AL.cons rfl (AOp.move (.inr rfl) rfl rfl) ?_
    refine AL.nil ?_
    refine AWP.ret ?_
    exact Ends.mk (ps := [_]) (.inr rfl) ⟨rfl, trivial⟩ rfl (StLe.mk' (st' := ⟨[some ⟨206, [.t (.row 1 (byteTrs (d.code))), .t (.leaf (.int .i64 (((d.p : Nat) : Int)))), .t (.leaf (.int .i64 (d.h)))]⟩], []⟩) ⟨⟨rfl, by (repeat' (first | exact PV.Le.refl _ | exact LeL.nil | exact PV.Le.nil _ | exact PV.Le.acc _ _ _ | apply LeL.cons | apply PV.Le.agg | apply PV.Le.tup)), rfl⟩, trivial⟩ rfl) (keeps_box hC ⟨_, rfl⟩) (q := .t (.leaf (.int .i64 (0)))) (by (repeat' (first | exact PV.Le.refl _ | exact LeL.nil | exact PV.Le.nil _ | exact PV.Le.acc _ _ _ | apply LeL.cons | apply PV.Le.agg | apply PV.Le.tup))) rfl ⟨by first | (have hq : n = 0 := (by omega); simp [DS.below, hq]; done) | (have hq : ¬ n = 0 := (by omega); have hr : n ≤ 256 := (by omega); simp [DS.below, hq, hr]; done) | (have hq : ¬ n = 0 := (by omega); have hr : ¬ n ≤ 256 := (by omega); simp [DS.below, hq, hr]), by first | (have hq : n = 0 := (by omega); simp [DS.after, DS.box, DS.cells, hq]; done) | (have hq : ¬ n = 0 := (by omega); have hr : n ≤ 256 := (by omega); simp [DS.after, DS.box, DS.cells, hq, hr]; done) | (have hq : ¬ n = 0 := (by omega); have hr : ¬ n ≤ 256 := (by omega); simp [DS.after, DS.box, DS.cells, hq, hr])⟩
  · skip
    have h1b := h1
    try simp only [Bool.and_eq_true, Bool.or_eq_true, Bool.and_eq_false_iff, Bool.or_eq_false_iff, decide_eq_true_eq, decide_eq_false_iff_not, Bool.not_eq_true', Bool.not_eq_false', Bool.not_eq_eq_eq_not, Bool.not_true, Bool.not_false, ge_iff_le, gt_iff_lt, Int.not_lt, Int.not_le] at h1b
    refine AWP.skip ?_
    refine AWP.seq ?_
    refine AWP.seq ?_
    refine AWP.region_lit ?_
    refine AL.cons rfl (AOp.move (.inl rfl) rfl rfl) ?_
    refine AL.cons rfl (AOp.leq rfl rfl rfl rfl) ?_
    refine AL.nil ?_
    refine AWP.cond rfl (fun h2 => ?_) (fun h2 => ?_)
    · skip
      have h2b := h2
      try simp only [Bool.and_eq_true, Bool.or_eq_true, Bool.and_eq_false_iff, Bool.or_eq_false_iff, decide_eq_true_eq, decide_eq_false_iff_not, Bool.not_eq_true', Bool.not_eq_false', Bool.not_eq_eq_eq_not, Bool.not_true, Bool.not_false, ge_iff_le, gt_iff_lt, Int.not_lt, Int.not_le] at h2b
      refine AWP.seq ?_
      refine AWP.region_lit ?_
      refine AL.cons rfl (AOp.move (.inl rfl) rfl rfl) ?_
      refine AL.cons rfl (AOp.callPE (pre := ⟨[some ⟨206, [.t (.row 1 (byteTrs (d.code))), .t (.leaf (.int .i64 (((d.p : Nat) : Int)))), .t (.leaf (.int .i64 (d.h)))]⟩], []⟩) (st' := ⟨[some ⟨206, [.t (.row 1 (byteTrs (d.next.code))), .t (.leaf (.int .i64 (((d.next.p : Nat) : Int)))), .t (.leaf (.int .i64 (d.next.h)))]⟩], []⟩) (ps := [_]) (qs := [.ptr 0 0]) [0] [] rfl rfl Try.func203 (by kernel_rfl) rfl rfl rfl (by (try rw [hs]); exact ⟨rfl, rfl, by decide, by decide, fun k h => by rcases k with _ | k <;> simp at h; exact ⟨_, rfl⟩, fun k x h => by rcases k with _ | k <;> simp at h; subst h; exact ⟨_, rfl, rfl, by (repeat' (first | exact PV.Le.refl _ | exact LeL.nil | exact PV.Le.nil _ | exact PV.Le.acc _ _ _ | apply LeL.cons | apply PV.Le.agg | apply PV.Le.tup)), rfl⟩, fun r row h => by simp at h⟩) (by (repeat' (first | exact PV.Le.refl _ | exact LeL.nil | exact PV.Le.nil _ | exact PV.Le.acc _ _ _ | apply LeL.cons | apply PV.Le.agg | apply PV.Le.tup))) rfl rfl rfl (byteN_ok d )) ?_
      refine AL.cons rfl (AOp.move (.inl rfl) rfl rfl) ?_
      refine AL.cons rfl (AOp.remN (a := d.byteN) (b := n) rfl rfl rfl rfl (by omega) (by omega)) ?_
      refine AL.cons rfl (AOp.move (.inr rfl) rfl rfl) ?_
      refine AL.nil ?_
      refine AWP.ret ?_
      exact Ends.mk (ps := [_]) (.inr rfl) ⟨rfl, trivial⟩ rfl (StLe.mk' (st' := ⟨[some ⟨206, [.t (.row 1 (byteTrs (d.next.code))), .t (.leaf (.int .i64 (((d.next.p : Nat) : Int)))), .t (.leaf (.int .i64 (d.next.h)))]⟩], []⟩) ⟨⟨rfl, by (repeat' (first | exact PV.Le.refl _ | exact LeL.nil | exact PV.Le.nil _ | exact PV.Le.acc _ _ _ | apply LeL.cons | apply PV.Le.agg | apply PV.Le.tup)), rfl⟩, trivial⟩ rfl) (keeps_box hC ⟨_, rfl⟩) (q := .t (.leaf (.int .i64 (((d.byteN % n : Nat) : Int))))) (by (repeat' (first | exact PV.Le.refl _ | exact LeL.nil | exact PV.Le.nil _ | exact PV.Le.acc _ _ _ | apply LeL.cons | apply PV.Le.agg | apply PV.Le.tup))) rfl ⟨by first | (have hq : n = 0 := (by omega); simp [DS.below, hq]; done) | (have hq : ¬ n = 0 := (by omega); have hr : n ≤ 256 := (by omega); simp [DS.below, hq, hr]; done) | (have hq : ¬ n = 0 := (by omega); have hr : ¬ n ≤ 256 := (by omega); simp [DS.below, hq, hr]), by first | (have hq : n = 0 := (by omega); simp [DS.after, DS.box, DS.cells, hq]; done) | (have hq : ¬ n = 0 := (by omega); have hr : n ≤ 256 := (by omega); simp [DS.after, DS.box, DS.cells, hq, hr]; done) | (have hq : ¬ n = 0 := (by omega); have hr : ¬ n ≤ 256 := (by omega); simp [DS.after, DS.box, DS.cells, hq, hr])⟩
    · skip
      have h2b := h2
      try simp only [Bool.and_eq_true, Bool.or_eq_true, Bool.and_eq_false_iff, Bool.or_eq_false_iff, decide_eq_true_eq, decide_eq_false_iff_not, Bool.not_eq_true', Bool.not_eq_false', Bool.not_eq_eq_eq_not, Bool.not_true, Bool.not_false, ge_iff_le, gt_iff_lt, Int.not_lt, Int.not_le] at h2b
      refine AWP.skip ?_
      refine AWP.seq ?_
      refine AWP.region_lit ?_
      refine AL.cons rfl (AOp.move (.inl rfl) rfl rfl) ?_
      refine AL.cons rfl (AOp.callPE (pre := ⟨[some ⟨206, [.t (.row 1 (byteTrs (d.code))), .t (.leaf (.int .i64 (((d.p : Nat) : Int)))), .t (.leaf (.int .i64 (d.h)))]⟩], []⟩) (st' := ⟨[some ⟨206, [.t (.row 1 (byteTrs (d.next.code))), .t (.leaf (.int .i64 (((d.next.p : Nat) : Int)))), .t (.leaf (.int .i64 (d.next.h)))]⟩], []⟩) (ps := [_]) (qs := [.ptr 0 0]) [0] [] rfl rfl Try.func203 (by kernel_rfl) rfl rfl rfl (by (try rw [hs]); exact ⟨rfl, rfl, by decide, by decide, fun k h => by rcases k with _ | k <;> simp at h; exact ⟨_, rfl⟩, fun k x h => by rcases k with _ | k <;> simp at h; subst h; exact ⟨_, rfl, rfl, by (repeat' (first | exact PV.Le.refl _ | exact LeL.nil | exact PV.Le.nil _ | exact PV.Le.acc _ _ _ | apply LeL.cons | apply PV.Le.agg | apply PV.Le.tup)), rfl⟩, fun r row h => by simp at h⟩) (by (repeat' (first | exact PV.Le.refl _ | exact LeL.nil | exact PV.Le.nil _ | exact PV.Le.acc _ _ _ | apply LeL.cons | apply PV.Le.agg | apply PV.Le.tup))) rfl rfl rfl (byteN_ok d )) ?_
      refine AL.cons rfl (AOp.move (.inr rfl) rfl rfl) ?_
      refine AL.nil ?_
      refine AWP.seq ?_
      refine AWP.region_lit ?_
      refine AL.cons rfl (AOp.move (.inl rfl) rfl rfl) ?_
      refine AL.cons rfl (AOp.callPE (pre := ⟨[some ⟨206, [.t (.row 1 (byteTrs (d.next.code))), .t (.leaf (.int .i64 (((d.next.p : Nat) : Int)))), .t (.leaf (.int .i64 (d.next.h)))]⟩], []⟩) (st' := ⟨[some ⟨206, [.t (.row 1 (byteTrs (d.next.next.code))), .t (.leaf (.int .i64 (((d.next.next.p : Nat) : Int)))), .t (.leaf (.int .i64 (d.next.next.h)))]⟩], []⟩) (ps := [_]) (qs := [.ptr 0 0]) [0] [] rfl rfl Try.func203 (by kernel_rfl) rfl rfl rfl (by (try rw [hs]); exact ⟨rfl, rfl, by decide, by decide, fun k h => by rcases k with _ | k <;> simp at h; exact ⟨_, rfl⟩, fun k x h => by rcases k with _ | k <;> simp at h; subst h; exact ⟨_, rfl, rfl, by (repeat' (first | exact PV.Le.refl _ | exact LeL.nil | exact PV.Le.nil _ | exact PV.Le.acc _ _ _ | apply LeL.cons | apply PV.Le.agg | apply PV.Le.tup)), rfl⟩, fun r row h => by simp at h⟩) (by (repeat' (first | exact PV.Le.refl _ | exact LeL.nil | exact PV.Le.nil _ | exact PV.Le.acc _ _ _ | apply LeL.cons | apply PV.Le.agg | apply PV.Le.tup))) rfl rfl rfl (byteN_ok d.next )) ?_
      refine AL.cons rfl (AOp.move (.inr rfl) rfl rfl) ?_
      refine AL.nil ?_
      refine AWP.seq ?_
      refine AWP.region_lit ?_
      refine AL.cons rfl (AOp.move (.inl rfl) rfl rfl) ?_
      refine AL.cons rfl (AOp.callPE (pre := ⟨[some ⟨206, [.t (.row 1 (byteTrs (d.next.next.code))), .t (.leaf (.int .i64 (((d.next.next.p : Nat) : Int)))), .t (.leaf (.int .i64 (d.next.next.h)))]⟩], []⟩) (st' := ⟨[some ⟨206, [.t (.row 1 (byteTrs (d.next.next.next.code))), .t (.leaf (.int .i64 (((d.next.next.next.p : Nat) : Int)))), .t (.leaf (.int .i64 (d.next.next.next.h)))]⟩], []⟩) (ps := [_]) (qs := [.ptr 0 0]) [0] [] rfl rfl Try.func203 (by kernel_rfl) rfl rfl rfl (by (try rw [hs]); exact ⟨rfl, rfl, by decide, by decide, fun k h => by rcases k with _ | k <;> simp at h; exact ⟨_, rfl⟩, fun k x h => by rcases k with _ | k <;> simp at h; subst h; exact ⟨_, rfl, rfl, by (repeat' (first | exact PV.Le.refl _ | exact LeL.nil | exact PV.Le.nil _ | exact PV.Le.acc _ _ _ | apply LeL.cons | apply PV.Le.agg | apply PV.Le.tup)), rfl⟩, fun r row h => by simp at h⟩) (by (repeat' (first | exact PV.Le.refl _ | exact LeL.nil | exact PV.Le.nil _ | exact PV.Le.acc _ _ _ | apply LeL.cons | apply PV.Le.agg | apply PV.Le.tup))) rfl rfl rfl (byteN_ok d.next.next )) ?_
      refine AL.cons rfl (AOp.move (.inr rfl) rfl rfl) ?_
      refine AL.nil ?_
      refine AWP.seq ?_
      refine AWP.region_lit ?_
      refine AL.cons rfl (AOp.move (.inl rfl) rfl rfl) ?_
      refine AL.cons rfl (AOp.callPE (pre := ⟨[some ⟨206, [.t (.row 1 (byteTrs (d.next.next.next.code))), .t (.leaf (.int .i64 (((d.next.next.next.p : Nat) : Int)))), .t (.leaf (.int .i64 (d.next.next.next.h)))]⟩], []⟩) (st' := ⟨[some ⟨206, [.t (.row 1 (byteTrs (d.next.next.next.next.code))), .t (.leaf (.int .i64 (((d.next.next.next.next.p : Nat) : Int)))), .t (.leaf (.int .i64 (d.next.next.next.next.h)))]⟩], []⟩) (ps := [_]) (qs := [.ptr 0 0]) [0] [] rfl rfl Try.func203 (by kernel_rfl) rfl rfl rfl (by (try rw [hs]); exact ⟨rfl, rfl, by decide, by decide, fun k h => by rcases k with _ | k <;> simp at h; exact ⟨_, rfl⟩, fun k x h => by rcases k with _ | k <;> simp at h; subst h; exact ⟨_, rfl, rfl, by (repeat' (first | exact PV.Le.refl _ | exact LeL.nil | exact PV.Le.nil _ | exact PV.Le.acc _ _ _ | apply LeL.cons | apply PV.Le.agg | apply PV.Le.tup)), rfl⟩, fun r row h => by simp at h⟩) (by (repeat' (first | exact PV.Le.refl _ | exact LeL.nil | exact PV.Le.nil _ | exact PV.Le.acc _ _ _ | apply LeL.cons | apply PV.Le.agg | apply PV.Le.tup))) rfl rfl rfl (byteN_ok d.next.next.next )) ?_
      refine AL.cons rfl (AOp.move (.inr rfl) rfl rfl) ?_
      refine AL.nil ?_
      refine AWP.seq ?_
      refine AWP.region_lit ?_
      refine AL.cons rfl (AOp.move (.inl rfl) rfl rfl) ?_
      refine AL.cons rfl (AOp.mulI rfl rfl rfl rfl (c := ((d.byteN * 16777216 : Nat) : Int)) (by omega) (by omega)) ?_
      refine AL.cons rfl (AOp.move (.inl rfl) rfl rfl) ?_
      refine AL.cons rfl (AOp.mulI rfl rfl rfl rfl (c := ((d.next.byteN * 65536 : Nat) : Int)) (by omega) (by omega)) ?_
      refine AL.cons rfl (AOp.addI rfl rfl rfl rfl (c := (((d.byteN * 16777216) + (d.next.byteN * 65536) : Nat) : Int)) (by omega) (by omega)) ?_
      refine AL.cons rfl (AOp.move (.inl rfl) rfl rfl) ?_
      refine AL.cons rfl (AOp.mulI rfl rfl rfl rfl (c := ((d.next.next.byteN * 256 : Nat) : Int)) (by omega) (by omega)) ?_
      refine AL.cons rfl (AOp.addI rfl rfl rfl rfl (c := ((((d.byteN * 16777216) + (d.next.byteN * 65536)) + (d.next.next.byteN * 256) : Nat) : Int)) (by omega) (by omega)) ?_
      refine AL.cons rfl (AOp.move (.inl rfl) rfl rfl) ?_
      refine AL.cons rfl (AOp.addI rfl rfl rfl rfl (c := (((((d.byteN * 16777216) + (d.next.byteN * 65536)) + (d.next.next.byteN * 256)) + d.next.next.next.byteN : Nat) : Int)) (by omega) (by omega)) ?_
      refine AL.cons rfl (AOp.move (.inl rfl) rfl rfl) ?_
      refine AL.cons rfl (AOp.remN (a := (((d.byteN * 16777216) + (d.next.byteN * 65536)) + (d.next.next.byteN * 256)) + d.next.next.next.byteN) (b := n) rfl rfl rfl rfl (by omega) (by omega)) ?_
      refine AL.cons rfl (AOp.move (.inr rfl) rfl rfl) ?_
      refine AL.nil ?_
      refine AWP.ret ?_
      exact Ends.mk (ps := [_]) (.inr rfl) ⟨rfl, trivial⟩ rfl (StLe.mk' (st' := ⟨[some ⟨206, [.t (.row 1 (byteTrs (d.next.next.next.next.code))), .t (.leaf (.int .i64 (((d.next.next.next.next.p : Nat) : Int)))), .t (.leaf (.int .i64 (d.next.next.next.next.h)))]⟩], []⟩) ⟨⟨rfl, by (repeat' (first | exact PV.Le.refl _ | exact LeL.nil | exact PV.Le.nil _ | exact PV.Le.acc _ _ _ | apply LeL.cons | apply PV.Le.agg | apply PV.Le.tup)), rfl⟩, trivial⟩ rfl) (keeps_box hC ⟨_, rfl⟩) (q := .t (.leaf (.int .i64 (((((((d.byteN * 16777216) + (d.next.byteN * 65536)) + (d.next.next.byteN * 256)) + d.next.next.next.byteN) % n : Nat) : Int))))) (by (repeat' (first | exact PV.Le.refl _ | exact LeL.nil | exact PV.Le.nil _ | exact PV.Le.acc _ _ _ | apply LeL.cons | apply PV.Le.agg | apply PV.Le.tup))) rfl ⟨by first | (have hq : n = 0 := (by omega); simp [DS.below, hq]; done) | (have hq : ¬ n = 0 := (by omega); have hr : n ≤ 256 := (by omega); simp [DS.below, hq, hr]; done) | (have hq : ¬ n = 0 := (by omega); have hr : ¬ n ≤ 256 := (by omega); simp [DS.below, hq, hr]), by first | (have hq : n = 0 := (by omega); simp [DS.after, DS.box, DS.cells, hq]; done) | (have hq : ¬ n = 0 := (by omega); have hr : n ≤ 256 := (by omega); simp [DS.after, DS.box, DS.cells, hq, hr]; done) | (have hq : ¬ n = 0 := (by omega); have hr : ¬ n ≤ 256 := (by omega); simp [DS.after, DS.box, DS.cells, hq, hr])⟩

set_option maxRecDepth 100000 in
set_option maxHeartbeats 4000000 in
theorem once_ok (d : DS) (n : Nat)  : ACalls Try.prog 124 [.ptr 0 0, .t (.leaf (.int .i64 (((n : Nat) : Int))))] (d.box 206) (fun r t => r = .t (.leaf (.bool (decide (d.below n = 0)))) ∧ t = (d.after n).box 206) := by
  refine ACalls.intro Try.func124 rfl (by first | decide | (simp; done) | (simp; decide)) ?_
  intro C hC
  refine AWP.fact (box_lenN 0 0 rfl rfl rfl (byteTrs_len d.code)) (fun hl0 => ?_)
  refine AWP.seq ?_
  refine AWP.region_lit ?_
  refine AL.cons rfl (AOp.move (.inr rfl) rfl rfl) ?_
  refine AL.nil ?_
  refine AWP.seq ?_
  refine AWP.region_lit ?_
  refine AL.cons rfl (AOp.move (.inl rfl) rfl rfl) ?_
  refine AL.cons rfl (AOp.move (.inl rfl) rfl rfl) ?_
  refine AL.cons rfl (AOp.callPE (pre := ⟨[some ⟨206, [.t (.row 1 (byteTrs (d.code))), .t (.leaf (.int .i64 (((d.p : Nat) : Int)))), .t (.leaf (.int .i64 (d.h)))]⟩], []⟩) (st' := ⟨[some ⟨206, [.t (.row 1 (byteTrs ((d.after n).code))), .t (.leaf (.int .i64 ((((d.after n).p : Nat) : Int)))), .t (.leaf (.int .i64 ((d.after n).h)))]⟩], []⟩) (ps := [_, _]) (qs := [.ptr 0 0, .t (.leaf (.int .i64 (((n : Nat) : Int))))]) [0] [] rfl rfl Try.func165 (by kernel_rfl) rfl rfl rfl (by (try rw [hs]); exact ⟨rfl, rfl, by decide, by decide, fun k h => by rcases k with _ | k <;> simp at h; exact ⟨_, rfl⟩, fun k x h => by rcases k with _ | k <;> simp at h; subst h; exact ⟨_, rfl, rfl, by (repeat' (first | exact PV.Le.refl _ | exact LeL.nil | exact PV.Le.nil _ | exact PV.Le.acc _ _ _ | apply LeL.cons | apply PV.Le.agg | apply PV.Le.tup)), rfl⟩, fun r row h => by simp at h⟩) (by (repeat' (first | exact PV.Le.refl _ | exact LeL.nil | exact PV.Le.nil _ | exact PV.Le.acc _ _ _ | apply LeL.cons | apply PV.Le.agg | apply PV.Le.tup))) rfl rfl rfl (below_ok d n)) ?_
  refine AL.cons rfl (AOp.eqlI rfl rfl rfl rfl) ?_
  refine AL.cons rfl (AOp.move (.inr rfl) rfl rfl) ?_
  refine AL.nil ?_
  refine AWP.ret ?_
  exact Ends.mk (ps := [_]) (.inr rfl) ⟨rfl, trivial⟩ rfl (StLe.mk' (st' := ⟨[some ⟨206, [.t (.row 1 (byteTrs ((d.after n).code))), .t (.leaf (.int .i64 ((((d.after n).p : Nat) : Int)))), .t (.leaf (.int .i64 ((d.after n).h)))]⟩], []⟩) ⟨⟨rfl, by (repeat' (first | exact PV.Le.refl _ | exact LeL.nil | exact PV.Le.nil _ | exact PV.Le.acc _ _ _ | apply LeL.cons | apply PV.Le.agg | apply PV.Le.tup)), rfl⟩, trivial⟩ rfl) (keeps_box hC ⟨_, rfl⟩) (q := .t (.leaf (.bool (decide ((((d.below n : Nat) : Int) : Int) = 0))))) (by (repeat' (first | exact PV.Le.refl _ | exact LeL.nil | exact PV.Le.nil _ | exact PV.Le.acc _ _ _ | apply LeL.cons | apply PV.Le.agg | apply PV.Le.tup))) rfl ⟨by first | rfl | (congr 4; simp), by rfl⟩

set_option maxRecDepth 100000 in
set_option maxHeartbeats 4000000 in
theorem pick_ok (d : DS) (l : List ByteArray) (hl : 0 < l.length) : ACalls Try.prog 100 [.ptr 0 0, .t (.row 1 (strTrs (l)))] (d.box 206) (fun r t => r = .t (.leaf (.string (d.pick l))) ∧ t = (d.after l.length).box 206) := by
  refine ACalls.intro Try.func100 rfl (by first | decide | (simp; done) | (simp; decide)) ?_
  intro C hC
  refine AWP.fact (box_lenN 0 0 rfl rfl rfl (byteTrs_len d.code)) (fun hl0 => ?_)
  refine AWP.fact (lk_lenN 1 rfl rfl (strTrs_len _)) (fun hl1 => ?_)
  have hx : d.below l.length < l.length := d.below_lt hl
  refine AWP.seq ?_
  refine AWP.region_lit ?_
  refine AL.cons rfl (AOp.move (.inr rfl) rfl rfl) ?_
  refine AL.nil ?_
  refine AWP.seq ?_
  refine AWP.region_lit ?_
  refine AL.cons rfl (AOp.move (.inl rfl) rfl rfl) ?_
  refine AL.cons rfl (AOp.move (.inl rfl) rfl rfl) ?_
  refine AL.cons rfl (AOp.move (.inl rfl) rfl rfl) ?_
  refine AL.cons rfl (AOp.lenN rfl rfl rfl rfl el66 (strTrs_len _)) ?_
  refine AL.cons rfl (AOp.callPE (pre := ⟨[some ⟨206, [.t (.row 1 (byteTrs (d.code))), .t (.leaf (.int .i64 (((d.p : Nat) : Int)))), .t (.leaf (.int .i64 (d.h)))]⟩], []⟩) (st' := ⟨[some ⟨206, [.t (.row 1 (byteTrs ((d.after l.length).code))), .t (.leaf (.int .i64 ((((d.after l.length).p : Nat) : Int)))), .t (.leaf (.int .i64 ((d.after l.length).h)))]⟩], []⟩) (ps := [_, _]) (qs := [.ptr 0 0, .t (.leaf (.int .i64 (((l.length : Nat) : Int))))]) [0] [] rfl rfl Try.func165 (by kernel_rfl) rfl rfl rfl (by (try rw [hs]); exact ⟨rfl, rfl, by decide, by decide, fun k h => by rcases k with _ | k <;> simp at h; exact ⟨_, rfl⟩, fun k x h => by rcases k with _ | k <;> simp at h; subst h; exact ⟨_, rfl, rfl, by (repeat' (first | exact PV.Le.refl _ | exact LeL.nil | exact PV.Le.nil _ | exact PV.Le.acc _ _ _ | apply LeL.cons | apply PV.Le.agg | apply PV.Le.tup)), rfl⟩, fun r row h => by simp at h⟩) (by (repeat' (first | exact PV.Le.refl _ | exact LeL.nil | exact PV.Le.nil _ | exact PV.Le.acc _ _ _ | apply LeL.cons | apply PV.Le.agg | apply PV.Le.tup))) rfl rfl rfl (below_ok d l.length)) ?_
  refine AL.cons rfl (AOp.index (k := d.below l.length) rfl rfl rfl rfl rfl (strTrs_cs hx) el66) ?_
  refine AL.cons rfl (AOp.loadEptr1 (d := .leaf (.string (l[d.below l.length]))) rfl rfl rfl sh9 rfl) ?_
  refine AL.cons rfl (AOp.move (.inr rfl) rfl rfl) ?_
  refine AL.nil ?_
  refine AWP.ret ?_
  exact Ends.mk (ps := [_]) (.inr rfl) ⟨rfl, trivial⟩ rfl (StLe.mk' (st' := ⟨[some ⟨206, [.t (.row 1 (byteTrs ((d.after l.length).code))), .t (.leaf (.int .i64 ((((d.after l.length).p : Nat) : Int)))), .t (.leaf (.int .i64 ((d.after l.length).h)))]⟩], []⟩) ⟨⟨rfl, by (repeat' (first | exact PV.Le.refl _ | exact LeL.nil | exact PV.Le.nil _ | exact PV.Le.acc _ _ _ | apply LeL.cons | apply PV.Le.agg | apply PV.Le.tup)), rfl⟩, trivial⟩ rfl) (keeps_box hC ⟨_, rfl⟩) (q := .t (.leaf (.string (l[d.below l.length])))) (by (repeat' (first | exact PV.Le.refl _ | exact LeL.nil | exact PV.Le.nil _ | exact PV.Le.acc _ _ _ | apply LeL.cons | apply PV.Le.agg | apply PV.Le.tup))) rfl ⟨by rw [DS.pick_eq hx], by rfl⟩

set_option maxRecDepth 100000 in
set_option maxHeartbeats 4000000 in
theorem new_ok (code : List UInt8) (hb : code.length ≤ 1048576) : ANew Try.prog 98 [.t (.row 1 (byteTrs code))] 206 (DS.start code).cells := by
  refine ACalls.intro Try.func98 rfl (by first | decide | (simp; done) | (simp; decide)) ?_
  intro C hC
  refine AWP.fact (lk_lenN 0 rfl rfl (byteTrs_len _)) (fun hl1 => ?_)
  refine AWP.seq ?_
  refine AWP.region_lit ?_
  refine AL.cons rfl (AOp.moveAny (.inl rfl)) ?_
  refine AL.nil ?_
  refine AWP.seq ?_
  refine AWP.region_lit ?_
  refine AL.cons rfl (AOp.move (.inl rfl) rfl rfl) ?_
  refine AL.cons rfl (AOp.lenN rfl rfl rfl rfl el59 (byteTrs_len _)) ?_
  refine AL.cons rfl (AOp.addI rfl rfl rfl rfl (c := ((28803 + code.length : Nat) : Int)) (by omega) (by omega)) ?_
  refine AL.cons rfl (AOp.move (.inr rfl) rfl rfl) ?_
  refine AL.nil ?_
  refine AWP.seq ?_
  refine AWP.seq ?_
  refine AWP.region_lit ?_
  refine AL.cons rfl (AOp.move (.inr rfl) rfl rfl) ?_
  refine AL.nil ?_
  refine AWP.block ?_
  refine AWP.loopJ (ι := Nat × Int) (fun ⟨i, h⟩ => i ≤ code.length ∧ i ≤ 4000 ∧ newH code = ((code.take 4000).drop i).foldl newStep h) (fun ⟨i, h⟩ => ⟨[(0, .t (.row 1 (byteTrs (code)))), (3, .t (.leaf (.int .i64 (h)))), (4, .t (.leaf (.int .i64 (((i : Nat) : Int)))))], ⟨[], []⟩⟩) (fun ⟨i, h⟩ => code.length - i) (0, (28803 + (code.length : Int))) ?_ ?_ ?_
  · exact ⟨Nat.zero_le _, Nat.zero_le _, rfl⟩
  · skip
    exact Wk.mk (StLe.mk' trivial rfl) (keeps_nil hC) ⟨⟨_, rfl, .refl _, rfl⟩, ⟨⟨_, rfl, by (repeat' (first | exact PV.Le.refl _ | exact LeL.nil | exact PV.Le.nil _ | exact PV.Le.acc _ _ _ | apply LeL.cons | apply PV.Le.agg | apply PV.Le.tup)), rfl⟩, ⟨⟨_, rfl, by (repeat' (first | exact PV.Le.refl _ | exact LeL.nil | exact PV.Le.nil _ | exact PV.Le.acc _ _ _ | apply LeL.cons | apply PV.Le.agg | apply PV.Le.tup)), rfl⟩, trivial⟩⟩⟩
  rintro ⟨i, h⟩ hJ2
  obtain ⟨hi1, hi2, hi3⟩ := hJ2
  refine AWP.seq ?_
  refine AWP.seq ?_
  refine AWP.region_lit ?_
  refine AL.cons rfl (AOp.move (.inl rfl) rfl rfl) ?_
  refine AL.cons rfl (AOp.move (.inl rfl) rfl rfl) ?_
  refine AL.cons rfl (AOp.lenN rfl rfl rfl rfl el59 (byteTrs_len _)) ?_
  refine AL.cons rfl (AOp.lss rfl rfl rfl rfl) ?_
  refine AL.cons rfl (AOp.move (.inl rfl) rfl rfl) ?_
  refine AL.splitB 12 rfl (fun g3 => ?_) (fun g3 => ?_)
  · skip
    have g3b := g3
    try simp only [Bool.and_eq_true, Bool.or_eq_true, Bool.and_eq_false_iff, Bool.or_eq_false_iff, decide_eq_true_eq, decide_eq_false_iff_not, Bool.not_eq_true', Bool.not_eq_false', Bool.not_eq_eq_eq_not, Bool.not_true, Bool.not_false, ge_iff_le, gt_iff_lt, Int.not_lt, Int.not_le] at g3b
    have g3n : i < code.length := by omega
    refine AL.cons_gv rfl rfl rfl g3 (AOp.move (.inl rfl) rfl rfl) ?_
    refine AL.cons_gv rfl rfl rfl g3 (AOp.lss rfl rfl rfl rfl) ?_
    refine AL.cons rfl (AOp.pickT rfl rfl rfl g3 rfl) ?_
    refine AL.nil ?_
    refine AWP.cond rfl (fun h4 => ?_) (fun h4 => ?_)
    · skip
      have h4b := h4
      try simp only [Bool.and_eq_true, Bool.or_eq_true, Bool.and_eq_false_iff, Bool.or_eq_false_iff, decide_eq_true_eq, decide_eq_false_iff_not, Bool.not_eq_true', Bool.not_eq_false', Bool.not_eq_eq_eq_not, Bool.not_true, Bool.not_false, ge_iff_le, gt_iff_lt, Int.not_lt, Int.not_le] at h4b
      refine AWP.skip ?_
      refine AWP.seq ?_
      refine AWP.block ?_
      refine AWP.region_lit ?_
      refine AL.cons rfl (AOp.move (.inl rfl) rfl rfl) ?_
      refine AL.cons rfl (AOp.mulW rfl rfl rfl rfl) ?_
      refine AL.cons rfl (AOp.move (.inl rfl) rfl rfl) ?_
      refine AL.cons rfl (AOp.move (.inl rfl) rfl rfl) ?_
      refine AL.cons rfl (AOp.index (k := i) rfl rfl rfl rfl rfl (byteTrs_cs g3n) el59) ?_
      refine AL.cons rfl (AOp.loadEptr1 (d := .leaf (.int .u8 (((code[i]).toNat : Int)))) rfl rfl rfl sh5 rfl) ?_
      refine AL.cons rfl (AOp.convI rfl rfl rfl ⟨_, Try.underlying5⟩ Try.underlying3 (by first | omega | (have := UInt8.toNat_lt (code[i]); omega)) (by first | omega | (have := UInt8.toNat_lt (code[i]); omega))) ?_
      refine AL.cons rfl (AOp.addW rfl rfl rfl rfl) ?_
      refine AL.cons rfl (AOp.addW rfl rfl rfl rfl) ?_
      refine AL.cons rfl (AOp.andI rfl rfl rfl rfl) ?_
      refine AL.cons rfl (AOp.move (.inr rfl) rfl rfl) ?_
      refine AL.nil ?_
      refine AWP.region_lit ?_
      refine AL.cons rfl (AOp.move (.inl rfl) rfl rfl) ?_
      refine AL.cons rfl (AOp.addI rfl rfl rfl rfl (c := ((i + 1 : Nat) : Int)) (by omega) (by omega)) ?_
      refine AL.cons rfl (AOp.move (.inr rfl) rfl rfl) ?_
      refine AL.nil ?_
      refine ⟨(i + 1, iAnd (wrap64 ((wrap64 ((wrap64 (h * 131)) + ((code[i]).toNat : Int))) + 7)) 1073741823), ?_, ?_, ?_⟩
      · exact ⟨by omega, by omega, newH_next (by omega) (by omega) hi3 rfl⟩
      · skip
        exact Wk.mk (StLe.mk' trivial rfl) (keeps_nil hC) ⟨⟨_, rfl, .refl _, rfl⟩, ⟨⟨_, rfl, by (repeat' (first | exact PV.Le.refl _ | exact LeL.nil | exact PV.Le.nil _ | exact PV.Le.acc _ _ _ | apply LeL.cons | apply PV.Le.agg | apply PV.Le.tup)), rfl⟩, ⟨⟨_, rfl, by (repeat' (first | exact PV.Le.refl _ | exact LeL.nil | exact PV.Le.nil _ | exact PV.Le.acc _ _ _ | apply LeL.cons | apply PV.Le.agg | apply PV.Le.tup)), rfl⟩, trivial⟩⟩⟩
      · dsimp only; omega
    · skip
      have h4b := h4
      try simp only [Bool.and_eq_true, Bool.or_eq_true, Bool.and_eq_false_iff, Bool.or_eq_false_iff, decide_eq_true_eq, decide_eq_false_iff_not, Bool.not_eq_true', Bool.not_eq_false', Bool.not_eq_eq_eq_not, Bool.not_true, Bool.not_false, ge_iff_le, gt_iff_lt, Int.not_lt, Int.not_le] at h4b
      refine AWP.exit ?_
      refine AWP.seq ?_
      refine AWP.region_lit ?_
      refine AL.cons rfl (AOp.move (.inl rfl) rfl rfl) ?_
      refine AL.cons rfl (AOp.move (.inl rfl) rfl rfl) ?_
      refine AL.cons rfl (AOp.build rfl rfl zr206 pl206 rfl rfl) ?_
      refine AL.cons rfl (AOp.box (cs := [.t (.row 1 (byteTrs (code))), .t (.leaf (.int .i64 (0))), .t (.leaf (.int .i64 (h)))]) rfl rfl rfl rfl rfl) ?_
      refine AL.cons rfl (AOp.move (.inr rfl) rfl rfl) ?_
      refine AL.nil ?_
      refine AWP.ret ?_
      obtain rfl := newH_end (by omega) hi3
      exact Ends.mk (ps := [_]) (.inr rfl) ⟨rfl, trivial⟩ rfl (StLe.mk' (st' := ⟨[some ⟨206, (DS.start code).cells⟩], []⟩) ⟨⟨rfl, by (repeat' (first | exact PV.Le.refl _ | exact LeL.nil | exact PV.Le.nil _ | exact PV.Le.acc _ _ _ | apply LeL.cons | apply PV.Le.agg | apply PV.Le.tup)), rfl⟩, trivial⟩ rfl) (keeps_nil hC) (q := .ptr 0 0) (.refl _) rfl ⟨0, rfl, rfl, fun i x hx => by rcases i with _ | i <;> simp at hx <;> simp, rfl⟩
  · skip
    have g3b := g3
    try simp only [Bool.and_eq_true, Bool.or_eq_true, Bool.and_eq_false_iff, Bool.or_eq_false_iff, decide_eq_true_eq, decide_eq_false_iff_not, Bool.not_eq_true', Bool.not_eq_false', Bool.not_eq_eq_eq_not, Bool.not_true, Bool.not_false, ge_iff_le, gt_iff_lt, Int.not_lt, Int.not_le] at g3b
    have g3n : i ≥ code.length := by omega
    refine AL.skip_v rfl rfl rfl g3 rfl ?_
    refine AL.skip_v rfl rfl rfl g3 rfl ?_
    refine AL.cons rfl (AOp.pickF rfl rfl rfl g3 rfl) ?_
    refine AL.nil ?_
    refine AWP.cond rfl (fun h5 => ?_) (fun h5 => ?_)
    · skip
      exact absurd (h5.symm.trans rfl) (by decide)
    · skip
      have h5b := h5
      try simp only [Bool.and_eq_true, Bool.or_eq_true, Bool.and_eq_false_iff, Bool.or_eq_false_iff, decide_eq_true_eq, decide_eq_false_iff_not, Bool.not_eq_true', Bool.not_eq_false', Bool.not_eq_eq_eq_not, Bool.not_true, Bool.not_false, ge_iff_le, gt_iff_lt, Int.not_lt, Int.not_le] at h5b
      refine AWP.exit ?_
      refine AWP.seq ?_
      refine AWP.region_lit ?_
      refine AL.cons rfl (AOp.move (.inl rfl) rfl rfl) ?_
      refine AL.cons rfl (AOp.move (.inl rfl) rfl rfl) ?_
      refine AL.cons rfl (AOp.build rfl rfl zr206 pl206 rfl rfl) ?_
      refine AL.cons rfl (AOp.box (cs := [.t (.row 1 (byteTrs (code))), .t (.leaf (.int .i64 (0))), .t (.leaf (.int .i64 (h)))]) rfl rfl rfl rfl rfl) ?_
      refine AL.cons rfl (AOp.move (.inr rfl) rfl rfl) ?_
      refine AL.nil ?_
      refine AWP.ret ?_
      obtain rfl := newH_end (by omega) hi3
      exact Ends.mk (ps := [_]) (.inr rfl) ⟨rfl, trivial⟩ rfl (StLe.mk' (st' := ⟨[some ⟨206, (DS.start code).cells⟩], []⟩) ⟨⟨rfl, by (repeat' (first | exact PV.Le.refl _ | exact LeL.nil | exact PV.Le.nil _ | exact PV.Le.acc _ _ _ | apply LeL.cons | apply PV.Le.agg | apply PV.Le.tup)), rfl⟩, trivial⟩ rfl) (keeps_nil hC) (q := .ptr 0 0) (.refl _) rfl ⟨0, rfl, rfl, fun i x hx => by rcases i with _ | i <;> simp at hx <;> simp, rfl⟩

end Go.Proofs.Ytoifjkggpanceaa

namespace Go.Proofs.Ytoifjkggpanceaa
set_option linter.unusedSimpArgs false
set_option linter.unusedVariables false
open Go.RowKit Go.WalkArith Go.IntWalk Go.WideShapes

section
variable {P : Program} {C : Ctx} {n : Nat} {s : AS} {o : Oper}
theorem AOp.makeSlice {T E sz by_ N : Nat} {x y : Operand} (ho : o.op = .makeSlice T x y) (hd : dstOk o.dst n = true) (hx : s.ev x = some (.t (.leaf (.int .i64 (N : Int))))) (hy : s.ev y = some (.t (.leaf (.int .i64 (N : Int)))))
    (hT : elemOf? P T = some (E, sz, by_)) (hz : (P.info? E).bind (fun i => i.zero.map (fun z => z.cells.size)) = some sz) (hsz : 0 < sz) (hb : by_ * N ≤ 281474976710656) (hN : N ≤ 9223372036854775807) :
    AOp P C n o s ((⟨s.env, s.st.addRow ⟨E, sz, [], true⟩⟩ : AS).putO o.dst (.full sz N s.st.rows.length)) :=
  AOp.run hd (s1 := ⟨s.env, s.st.addRow ⟨E, sz, [], true⟩⟩) (fun m a w h => by
    obtain ⟨i, hu, hi, hs, hby⟩ := elemOf?.spec hT
    have h1 := (RepM.leaf_eq (h.eval hx)).1
    have h2 := (RepM.leaf_eq (h.eval hy)).1
    cases hzz : i.zero with
    | none => simp [hi, hzz] at hz
    | some z =>
      have hb' : (i.bytes : Int) * (N : Int) ≤ 281474976710656 := by
        rw [hby]
        have : ((by_ * N : Nat) : Int) ≤ 281474976710656 := by omega
        rwa [Int.natCast_mul] at this
      have hr := run_make (P := P) w T E i z hu hi hzz .i64 .i64 N N (by omega) (Int.le_refl _) hb' (by omega)
      simp only [Int.toNat_natCast] at hr
      refine ⟨.slice (some ⟨w.heap.size, 0, none⟩) N N, ⟨m.ρ, upd m.γ s.st.rows.length (some (w.heap.size, N))⟩, _, ?_, ev_newRow (row := ⟨E, sz, [], true⟩) (c := N) (cur := madeCells z.cells (N * i.size)) h.sto, sto_newRow (row := ⟨E, sz, [], true⟩) h.sto hsz rfl (by rw [size_madeCells, hs]) (by unfold maxLen; omega), ?_⟩
      · unfold execOp
        simp only [ho, h1, h2, Sem.run_bind, hr, Result.andThen_ok]
        rfl
      · exact ⟨⟨E, sz, [], true⟩, w.heap.size, by show (s.st.rows ++ [_])[s.st.rows.length]? = _; simp, rfl, rfl, upd_same _ _ _, rfl⟩) rfl
theorem AOp.indexFull {T E sz by_ N r k : Nat} {x i : Operand} (ho : o.op = .indexAddr T x i) (hd : dstOk o.dst n = true) (hx : s.ev x = some (.full sz N r)) (hi : s.ev i = some (.t (.leaf (.int .i64 (k : Int))))) (hk : k < N) (hT : elemOf? P T = some (E, sz, by_)) :
    AOp P C n o s (s.putO o.dst (.rptr r k)) :=
  AOp.quiet (dstOk_lt hd) fun m a w h => by
    obtain ⟨row, g, h1, h2, h3, h4, h5⟩ := h.eval hx
    have h6 := (RepM.leaf_eq (h.eval hi)).1
    refine ⟨.pointer (some ⟨g, 0 + k * sz, none⟩), ?_, row, g, N, h1, h3, h4, by rw [h2, Nat.zero_add]⟩
    unfold execOp
    simp only [ho, h5, h6, Sem.run_bind, run_indexAt' hT hk, Result.andThen_ok]
    rfl
/-- The next element is stored. -/
theorem AOp.storeRptr {T sz N r k : Nat} {x y : Operand} {row : PRow} {p : PV} {e : List Tr} {es2 : List (List Tr)} (j : Nat) (ho : o.op = .store T x y) (hx : s.ev x = some (.rptr r k)) (hf : s.lk j = some (.full sz N r)) (hrow : s.st.rows[r]? = some row) (hy : s.ev y = some p) (ht : notTup p = true)
    (hle : LeL (cellsP p) (e.map PV.t)) (hel : e.length = sz) (hflat : flatP (e.map PV.t) = true) (hT : (P.info? T).map (·.size) = some sz) (hk : k = row.es.length) (hkN : k < N) (he2 : row.es ++ [e] = es2) :
    AOp P C n o s ((⟨s.env, s.st.setRow r { row with es := es2 }⟩ : AS).delO o.dst) :=
  AOp.runU (s1 := ⟨s.env, s.st.setRow r { row with es := es2 }⟩) (fun m a w h => by
    subst he2 hk
    obtain ⟨vf, -, row0, g, q1, q2, q3, q4, q5⟩ := h.env j _ hf
    rw [hrow] at q1
    cases q1
    subst q2
    obtain ⟨row1, g1, n1, p1, p3, p4, p5⟩ := h.eval hx
    rw [hrow] at p1
    cases p1
    rw [q4] at p4
    injection p4 with p4
    injection p4 with e1 e2
    subst e1 e2
    have hr := LeL.rv hle (cellsP_rv (h.eval hy) (notTup.ne ht))
    have hl : (a.eval y).cells.toList.length = row.sz := by have := hr.length; rw [List.length_map, hel] at this; exact this.symm
    obtain ⟨hpos, hlens, hplace⟩ := h.sto.row r row hrow
    rcases hplace with ⟨z1, -⟩ | ⟨g', c', cur, z1, hob, hcs, hfit, hmax, hrep⟩
    · rw [q4] at z1; cases z1
    rw [q4] at z1
    injection z1 with z1
    injection z1 with e1 e2
    subst e1 e2
    have hfitc : row.es.length * row.sz + row.sz ≤ cur.size := by
      rw [hcs]
      have := Nat.mul_le_mul_right row.sz (Nat.succ_le_of_lt hkN)
      rwa [Nat.succ_mul] at this
    have hrun := run_storeVar_ob (P := P) (T := T) (d := row.es.length * row.sz) (v := a.eval y) hob (by rw [hT, ← hl]; simp) (by have hq : (a.eval y).cells.size = row.sz := (by simpa using hl); omega) (flatP.one hflat hr)
    have hsp : ∀ q : Nat, q < row.es.length * row.sz → (splice cur (row.es.length * row.sz) (a.eval y).cells.toList)[q]? = cur[q]? := fun q hq => by
      unfold Go.Proofs.Ytoifjkggpanceaa.splice
      rw [List.getElem?_toArray, List.append_assoc, List.getElem?_append_left (by simp; omega), List.getElem?_take, if_pos hq, Array.getElem?_toList]
    have hG : Grow C.av s.st m w r row [e] g N (splice cur (row.es.length * row.sz) (a.eval y).cells.toList) (w.setRow g (splice cur (row.es.length * row.sz) (a.eval y).cells.toList)) := by
      refine ⟨hrow, rfl, rfl, rfl, by simp, fun b hb hne => setRow_other w g b _ hne, setRow_heap w g cur _ _ _ hob, ?_, by simp only [List.length_singleton]; omega, hmax, fun e' he' => ?_, fun i e' hi j' d hd => ?_, fun i e' hi j' d hd => ?_, .inl ⟨N, cur, q4, hob, fun o ho => hsp o ho⟩, fun _ => q4⟩
      · unfold Go.Proofs.Ytoifjkggpanceaa.splice
        simp only [List.size_toArray, List.length_append, List.length_take, List.length_drop, Array.length_toList, hl]
        omega
      · have : e' = e := by simpa using he'
        rw [this]; exact hel
      · cases hrep with
        | row cf r1 r2 r3 r4 =>
          obtain ⟨b', off', hbo, hb', r5⟩ := r3 (by rintro e0; rw [e0] at hi; simp at hi)
          injection hbo with hbo
          injection hbo with e1 e2 e3
          subst e1 e2
          have hc := (r5 i e' hi j' d hd).2
          rw [hob.cell, Nat.zero_add] at hc
          refine ⟨cf i j', ?_, r4 i e' hi j' d hd⟩
          have hi1 := get_lt hi
          have hj1 : j' < row.sz := by rw [← hlens e' (List.mem_of_getElem? hi)]; exact get_lt hd
          have hlt : i * row.sz + j' < row.es.length * row.sz := by
            have : (i + 1) * row.sz ≤ row.es.length * row.sz := Nat.mul_le_mul_right _ hi1
            rw [Nat.succ_mul] at this
            omega
          rw [hsp _ hlt]; exact hc
      · obtain ⟨rfl, rfl⟩ : i = 0 ∧ e' = e := by
          rcases i with _ | i
          · simp at hi; exact ⟨rfl, hi.symm⟩
          · simp at hi
        obtain ⟨v, hv, hrv⟩ := hr.get (j := j') (p := .t d) (by rw [List.getElem?_map, hd]; rfl)
        refine ⟨v, ?_, hrv⟩
        have hjl := get_lt hv
        unfold Go.Proofs.Ytoifjkggpanceaa.splice
        have htl : (cur.toList.take (row.es.length * row.sz)).length = row.es.length * row.sz := by simp; omega
        rw [List.getElem?_toArray, Nat.add_zero, List.append_assoc, List.getElem?_append_right (by rw [htl]; omega), htl, Nat.add_sub_cancel_left, List.getElem?_append_left hjl, hv]
    have hgm : upd m.γ r (some (g, N)) = m.γ := by
      funext q
      by_cases hqr : q = r
      · subst hqr; rw [upd_same, q4]
      · rw [upd_ne hqr]
    refine ⟨_, _, ?_, hG.ev h.sto, hG.sto h.sto⟩
    unfold execOp
    simp only [ho, p5, Instr.storeAt, Instr.sureAddr, Sem.run_bind, Sem.run_pure, Result.andThen_ok, hrun]) rfl
/-- What has been filled to its end is plain data. -/
theorem Wk.full {i E sz N r : Nat} {es : List (List Tr)} {b : Bool} (hx : s.lk i = some (.full sz N r)) (hrow : s.st.rows[r]? = some ⟨E, sz, es, b⟩) (hl : es.length = N) : Wk C n s (s.put i (.t (.row sz es))) := fun m a w h => by
  refine ⟨m, h.dfr, h.tsz, h.sto, fun j q hq => ?_, h.ev⟩
  rw [AS.lk_put] at hq
  split at hq
  · rename_i e
    subst e
    cases hq
    obtain ⟨v, hv, row, g, q1, q2, q3, q4, q5⟩ := h.env j _ hx
    refine ⟨v, hv, ?_⟩
    rw [hrow] at q1
    cases q1
    obtain ⟨-, -, hplace⟩ := h.sto.row r _ hrow
    rcases hplace with ⟨z1, -⟩ | ⟨g', c', cur, z1, hob, hcs, hfit, hmax, hrep⟩
    · rw [q4] at z1; cases z1
    rw [q4] at z1
    injection z1 with z1
    injection z1 with e1 e2
    subst e1 e2
    subst q5
    show RepM _ _ (.row sz es) _
    have : RepM (okA C.av s.st m) w (.row sz es) (.slice (some ⟨g, 0, none⟩) es.length N) := hrep
    rw [hl] at this
    exact this
  · exact h.env j q hq
end
end Go.Proofs.Ytoifjkggpanceaa

namespace Go.Proofs.Ytoifjkggpanceaa
set_option linter.unusedSimpArgs false
set_option linter.unusedVariables false
open Go.RowKit Go.WalkArith Go.IntWalk Go.WideShapes

instance : Inhabited ByteArray := ⟨⟨#[]⟩⟩
def atD {α : Type} [Inhabited α] (l : List α) (k : Nat) : α := (l[k]?).getD default
theorem atD_eq {α : Type} [Inhabited α] {l : List α} {k : Nat} (h : k < l.length) : atD l k = l[k] := by simp [atD, h]
theorem strTrs_at {l : List ByteArray} {k : Nat} (h : k < l.length) : (strTrs l)[k]? = some [.leaf (.string (atD l k))] := by rw [atD_eq h]; exact strTrs_cs h
theorem intTrs_at {l : List Int} {k : Nat} (h : k < l.length) : (intTrs l)[k]? = some [.leaf (.int .i64 (atD l k))] := by rw [atD_eq h]; exact intTrs_cs h
theorem byteTrs_at {l : List UInt8} {k : Nat} (h : k < l.length) : (byteTrs l)[k]? = some [.leaf (.int .u8 ((atD l k).toNat : Int))] := by rw [atD_eq h]; exact byteTrs_cs h
theorem trs0 : True := trivial
theorem room_le {a b c : Nat} (h : a + b ≤ 68719476736) (hc : c ≤ 2048) : (a + b) * c ≤ 140737488355328 := by
  have := Nat.mul_le_mul h hc
  omega
theorem nat_lt_of2 {a b : Nat} (h : decide ((a : Int) < (b : Int)) = true) : a < b := nat_lt_of h
theorem nat_ge_of2 {a b : Nat} (h : decide ((a : Int) < (b : Int)) = false) : b ≤ a := nat_ge_of h
theorem nat_lt_of3 {a : Nat} {b : Int} (h : decide ((a : Int) < b) = true) : a < b.toNat := by have := of_decide_eq_true h; omega
theorem nat_ge_of3 {a : Nat} {b : Int} (h : decide ((a : Int) < b) = false) : b.toNat ≤ a := by have := of_decide_eq_false h; omega
/-- Box by box, row by row: what is handed over. -/
def PartBoxes (s : Sto) (fb0 fr0 : List Nat) (pre : Sto) : List Nat → List (Option PBox) → Prop
  | [], [] => True
  | k :: fb, some x :: bs => (∃ y, s.boxes[k]? = some (some y) ∧ y.ty = x.ty ∧ LeL y.cells (renL fb0 fr0 x.cells) ∧ okInL pre x.cells = true) ∧ PartBoxes s fb0 fr0 pre fb bs
  | _, _ => False
def PartRows (s : Sto) : List Nat → List PRow → Prop
  | [], [] => True
  | r :: fr, row :: rs => s.rows[r]? = some row ∧ PartRows s fr rs
  | _, _ => False
theorem PartBoxes.len {s pre : Sto} {fb0 fr0 : List Nat} : ∀ {fb : List Nat} {bs : List (Option PBox)}, PartBoxes s fb0 fr0 pre fb bs → fb.length = bs.length
  | [], [], _ => rfl
  | _ :: _, some _ :: _, h => by simp [PartBoxes.len h.2]
  | _ :: _, none :: _, h => h.elim
  | [], _ :: _, h => h.elim
  | _ :: _, [], h => h.elim
theorem PartBoxes.get {s pre : Sto} {fb0 fr0 : List Nat} : ∀ {fb : List Nat} {bs : List (Option PBox)}, PartBoxes s fb0 fr0 pre fb bs → ∀ k, k < bs.length → ∃ x, bs[k]? = some (some x) ∧ ∃ y, s.boxes[fb.getD k 0]? = some (some y) ∧ y.ty = x.ty ∧ LeL y.cells (renL fb0 fr0 x.cells) ∧ okInL pre x.cells = true
  | [], [], _, k, h => by simp at h
  | _ :: _, some x :: _, h, 0, _ => ⟨x, rfl, h.1⟩
  | _ :: _, some _ :: _, h, k + 1, hk => by simpa using PartBoxes.get h.2 k (by simpa using hk)
  | _ :: _, none :: _, h, _, _ => h.elim
  | [], _ :: _, h, _, _ => h.elim
  | _ :: _, [], h, _, _ => h.elim
theorem PartRows.len {s : Sto} : ∀ {fr : List Nat} {rs : List PRow}, PartRows s fr rs → fr.length = rs.length
  | [], [], _ => rfl
  | _ :: _, _ :: _, h => by simp [PartRows.len h.2]
  | [], _ :: _, h => h.elim
  | _ :: _, [], h => h.elim
theorem PartRows.get {s : Sto} : ∀ {fr : List Nat} {rs : List PRow}, PartRows s fr rs → ∀ k row, rs[k]? = some row → s.rows[fr.getD k 0]? = some row
  | [], [], _, k, _, h => by simp at h
  | _ :: _, _ :: _, h, 0, row, hr => by simp at hr; subst hr; exact h.1
  | _ :: _, _ :: _, h, k + 1, row, hr => by simpa using PartRows.get h.2 k row (by simpa using hr)
  | [], _ :: _, h, _, _, _ => h.elim
  | _ :: _, [], h, _, _, _ => h.elim
theorem Part0.of {s pre : Sto} {fb fr : List Nat} (hb : PartBoxes s fb fr pre fb pre.boxes) (hr : PartRows s fr pre.rows) (n1 : fb.Nodup) (n2 : fr.Nodup) : Part0 s pre fb fr where
  fbl := hb.len
  frl := hr.len
  fbn := n1
  frn := n2
  all := fun k hk => by
    obtain ⟨x, hx, -⟩ := hb.get k hk
    exact ⟨x, hx⟩
  box := fun k x hx => by
    obtain ⟨x', hx', h⟩ := hb.get k (List.getElem?_eq_some_iff.1 hx).1
    rw [hx] at hx'
    cases hx'
    exact h
  row := hr.get
section
variable {P : Program} {C : Ctx} {n : Nat} {s : AS} {o : Oper}
theorem AOp.callVPE {y : Operand} {f : FuncId} {fn : Func} {xs : List Operand} {ts : Array TypeId} {ps cs qs : List PV} {res : PV} {pre st' S : Sto} (fb fr : List Nat) (ho : o.op = .call { callee := .value y, args := ⟨xs⟩, argTypes := ts }) (hd : dstOk o.dst n = true) (hy : s.ev y = some (.fn f cs)) (hf : P.funcs[f]? = some fn) (hnm : (fn.name == "runtime.NumGoroutine") = false) (hb : fn.body.isNone = false)
    (hx : xs.map s.ev = ps.map some) (hS : s.st = S) (hp : Part0 S pre fb fr) (hle : LeL (ps ++ cs) (renL fb fr qs)) (hok : okInL pre qs = true) (hbl : st'.boxes.length = pre.boxes.length) (hrl : st'.rows.length = pre.rows.length) (hc : ACalls P f qs pre (fun r t => r = res ∧ t = st')) :
    AOp P C n o s ((⟨s.env, S.over st' fb fr⟩ : AS).putO o.dst (PV.ren fb fr res)) := by
  subst hS
  exact AOp.enterP fb fr hd (fun m a w h => by
    obtain ⟨vs, h1, h2⟩ := h.eval hy
    refine ⟨xs.map a.eval ++ vs, ?_, RVL.append (evL h hx) h2⟩
    have hcf := run_callFunc_body (P := P) hf hnm hb
    unfold execOp
    simp only [ho]
    simp [resolve, invoke, Deferred.ofValue, h1, hcf]) hp hle hok hbl hrl hc
theorem AOp.buildSliceE {T E sz by_ len : Nat} {parts : Array (Nat × Operand)} {ps : List (Nat × List PV)} {zs cs : List PV} {es es' : List (List Tr)} (ho : o.op = .buildSlice T len parts) (hd : dstOk o.dst n = true) (hT : elemOf? P T = some (E, sz, by_)) (hz : zerosOf P E = some zs) (hp : partsP s parts.toList = some ps)
    (hc : fillP (fun i => some (i * sz, sz)) (List.replicate len zs).flatten ps = some cs) (hle : LeL cs (es.flatten.map PV.t)) (hel : es.length = len) (hes : ∀ e ∈ es, e.length = sz) (hsz : 0 < sz) (hzl : zs.length = sz) (hsm : len * sz ≤ 16777216) (he : es = es') :
    AOp P C n o s (s.putO o.dst (.t (.row sz es'))) := he ▸ AOp.buildSliceQ ho hd hT hz hp hc hle hel hes hsz hzl hsm
theorem AOp.buildSliceA {T E sz by_ len : Nat} {parts : Array (Nat × Operand)} {ps : List (Nat × List PV)} {zs cs : List PV} {es es' : List (List Tr)} (ho : o.op = .buildSlice T len parts) (hd : dstOk o.dst n = true) (hT : elemOf? P T = some (E, sz, by_)) (hz : zerosOf P E = some zs) (hp : partsP s parts.toList = some ps)
    (hc : fillP (fun i => some (i * sz, sz)) (List.replicate len zs).flatten ps = some cs) (hle : LeL cs (es.flatten.map PV.t)) (hel : es.length = len) (hes : ∀ e ∈ es, e.length = sz) (hsz : 0 < sz) (hzl : zs.length = sz) (hsm : len * sz ≤ 16777216) (he : es = es') :
    AOp P C n o s ((⟨s.env, s.st.addRow ⟨E, sz, es', false⟩⟩ : AS).putO o.dst (.acc sz es' s.st.rows.length)) := he ▸ AOp.buildSlice ho hd hT hz hp hc hle hel hes hsz hzl hsm
end
theorem keeps_all {C : Ctx} {bs : List (Option PBox)} {rs : List PRow} {S : Sto} (h : C.st = ⟨bs, rs⟩) (hb : ∀ k, k < bs.length → ∃ y, S.boxes[k]? = some (some y)) (hl : rs.length ≤ S.rows.length) : Keeps0 C.st S := by
  rw [h]
  exact ⟨fun k x hx => hb k (List.getElem?_eq_some_iff.1 hx).1, fun k row hk => ⟨S.rows[k]'(Nat.lt_of_lt_of_le (List.getElem?_eq_some_iff.1 hk).1 hl), List.getElem?_eq_getElem _⟩⟩
theorem boxes1 {S : Sto} {x : PBox} {bs : List (Option PBox)} (h : S.boxes = some x :: bs) : ∀ k, k < 1 → ∃ y, S.boxes[k]? = some (some y) := fun k hk => by
  obtain rfl : k = 0 := by omega
  exact ⟨x, by rw [h]; rfl⟩
theorem boxes2 {S : Sto} {x y : PBox} {bs : List (Option PBox)} (h : S.boxes = some x :: some y :: bs) : ∀ k, k < 2 → ∃ y, S.boxes[k]? = some (some y) := fun k hk => by
  rcases (by omega : k = 0 ∨ k = 1) with rfl | rfl
  · exact ⟨x, by rw [h]; rfl⟩
  · exact ⟨y, by rw [h]; rfl⟩
theorem boxes3 {S : Sto} {x y z : PBox} {bs : List (Option PBox)} (h : S.boxes = some x :: some y :: some z :: bs) : ∀ k, k < 3 → ∃ y, S.boxes[k]? = some (some y) := fun k hk => by
  rcases (by omega : k = 0 ∨ k = 1 ∨ k = 2) with rfl | rfl | rfl
  · exact ⟨x, by rw [h]; rfl⟩
  · exact ⟨y, by rw [h]; rfl⟩
  · exact ⟨z, by rw [h]; rfl⟩
theorem boxes0 {S : Sto} : ∀ k, k < 0 → ∃ y, S.boxes[k]? = some (some y) := fun k hk => absurd hk (Nat.not_lt_zero _)
theorem keeps_rowsN {C : Ctx} {rs : List PRow} {S : Sto} (h : C.st = ⟨[], rs⟩) (hl : rs.length ≤ S.rows.length) : Keeps0 C.st S := by
  rw [h]
  exact ⟨fun k x hx => by simp at hx, fun k row hk => ⟨S.rows[k]'(Nat.lt_of_lt_of_le (List.getElem?_eq_some_iff.1 hk).1 hl), List.getElem?_eq_getElem _⟩⟩

instance : Inhabited GInstanceRef := ⟨.mk 0 0⟩
theorem GInstanceRef.trs_at {l : List GInstanceRef} {k : Nat} (h : k < l.length) : (GInstanceRef.trs l)[k]? = some (atD l k).cs := by rw [atD_eq h]; exact GInstanceRef.trs_cs h
instance : Inhabited GSExpr := ⟨.mk ⟨#[]⟩ []⟩
theorem GSExpr.trs_at {l : List GSExpr} {k : Nat} (h : k < l.length) : (GSExpr.trs l)[k]? = some (atD l k).cs := by rw [atD_eq h]; exact GSExpr.trs_cs h
instance : Inhabited GType := ⟨.mk 0 ⟨#[]⟩ []⟩
theorem GType.trs_at {l : List GType} {k : Nat} (h : k < l.length) : (GType.trs l)[k]? = some (atD l k).cs := by rw [atD_eq h]; exact GType.trs_cs h
instance : Inhabited GBinding := ⟨.mk ⟨#[]⟩ default⟩
theorem GBinding.trs_at {l : List GBinding} {k : Nat} (h : k < l.length) : (GBinding.trs l)[k]? = some (atD l k).cs := by rw [atD_eq h]; exact GBinding.trs_cs h
instance : Inhabited GExpr := ⟨.mk 0 ⟨#[]⟩ ⟨#[]⟩ 0 default [] []⟩
theorem GExpr.trs_at {l : List GExpr} {k : Nat} (h : k < l.length) : (GExpr.trs l)[k]? = some (atD l k).cs := by rw [atD_eq h]; exact GExpr.trs_cs h
instance : Inhabited GArm := ⟨.mk ⟨#[]⟩ [] default⟩
theorem GArm.trs_at {l : List GArm} {k : Nat} (h : k < l.length) : (GArm.trs l)[k]? = some (atD l k).cs := by rw [atD_eq h]; exact GArm.trs_cs h
instance : Inhabited GSignature := ⟨.mk ⟨#[]⟩ [] default false [] default⟩
theorem GSignature.trs_at {l : List GSignature} {k : Nat} (h : k < l.length) : (GSignature.trs l)[k]? = some (atD l k).cs := by rw [atD_eq h]; exact GSignature.trs_cs h
instance : Inhabited GTrait := ⟨.mk ⟨#[]⟩ [] false false []⟩
theorem GTrait.trs_at {l : List GTrait} {k : Nat} (h : k < l.length) : (GTrait.trs l)[k]? = some (atD l k).cs := by rw [atD_eq h]; exact GTrait.trs_cs h
instance : Inhabited GConstructor := ⟨.mk ⟨#[]⟩ []⟩
theorem GConstructor.trs_at {l : List GConstructor} {k : Nat} (h : k < l.length) : (GConstructor.trs l)[k]? = some (atD l k).cs := by rw [atD_eq h]; exact GConstructor.trs_cs h
instance : Inhabited GDataType := ⟨.mk ⟨#[]⟩ [] []⟩
theorem GDataType.trs_at {l : List GDataType} {k : Nat} (h : k < l.length) : (GDataType.trs l)[k]? = some (atD l k).cs := by rw [atD_eq h]; exact GDataType.trs_cs h
instance : Inhabited GBound := ⟨.mk ⟨#[]⟩ default⟩
theorem GBound.trs_at {l : List GBound} {k : Nat} (h : k < l.length) : (GBound.trs l)[k]? = some (atD l k).cs := by rw [atD_eq h]; exact GBound.trs_cs h
instance : Inhabited GMethod := ⟨.mk ⟨#[]⟩ [] default⟩
theorem GMethod.trs_at {l : List GMethod} {k : Nat} (h : k < l.length) : (GMethod.trs l)[k]? = some (atD l k).cs := by rw [atD_eq h]; exact GMethod.trs_cs h
instance : Inhabited GInstance := ⟨.mk ⟨#[]⟩ [] default [] false false default []⟩
theorem GInstance.trs_at {l : List GInstance} {k : Nat} (h : k < l.length) : (GInstance.trs l)[k]? = some (atD l k).cs := by rw [atD_eq h]; exact GInstance.trs_cs h
instance : Inhabited GParam := ⟨.mk ⟨#[]⟩ default⟩
theorem GParam.trs_at {l : List GParam} {k : Nat} (h : k < l.length) : (GParam.trs l)[k]? = some (atD l k).cs := by rw [atD_eq h]; exact GParam.trs_cs h
instance : Inhabited GFunction := ⟨.mk ⟨#[]⟩ [] [] [] default default⟩
theorem GFunction.trs_at {l : List GFunction} {k : Nat} (h : k < l.length) : (GFunction.trs l)[k]? = some (atD l k).cs := by rw [atD_eq h]; exact GFunction.trs_cs h
instance : Inhabited GPackage := ⟨.mk ⟨#[]⟩ [] [] [] [] []⟩
theorem GPackage.trs_at {l : List GPackage} {k : Nat} (h : k < l.length) : (GPackage.trs l)[k]? = some (atD l k).cs := by rw [atD_eq h]; exact GPackage.trs_cs h
instance : Inhabited GProgram := ⟨.mk []⟩
theorem GProgram.trs_at {l : List GProgram} {k : Nat} (h : k < l.length) : (GProgram.trs l)[k]? = some (atD l k).cs := by rw [atD_eq h]; exact GProgram.trs_cs h
instance : Inhabited GEvidence := ⟨.mk 0 0 default []⟩
theorem GEvidence.trs_at {l : List GEvidence} {k : Nat} (h : k < l.length) : (GEvidence.trs l)[k]? = some (atD l k).cs := by rw [atD_eq h]; exact GEvidence.trs_cs h
instance : Inhabited GAssumption := ⟨.mk default 0 []⟩
theorem GAssumption.trs_at {l : List GAssumption} {k : Nat} (h : k < l.length) : (GAssumption.trs l)[k]? = some (atD l k).cs := by rw [atD_eq h]; exact GAssumption.trs_cs h
instance : Inhabited GCache := ⟨.mk [] [] []⟩
theorem GCache.trs_at {l : List GCache} {k : Nat} (h : k < l.length) : (GCache.trs l)[k]? = some (atD l k).cs := by rw [atD_eq h]; exact GCache.trs_cs h
end Go.Proofs.Ytoifjkggpanceaa

namespace Go.Proofs.Ytoifjkggpanceaa
set_option linter.unusedSimpArgs false
set_option linter.unusedVariables false

/-- It holds of all great enough numbers. -/
def Evt (P : Nat → Prop) : Prop := ∃ N, ∀ n, N ≤ n → P n
theorem Evt.all {P : Nat → Prop} (h : ∀ n, P n) : Evt P := ⟨0, fun n _ => h n⟩
theorem Evt.and {P Q : Nat → Prop} (h : Evt P) (k : Evt Q) : Evt fun n => P n ∧ Q n := by
  obtain ⟨a, h⟩ := h
  obtain ⟨b, k⟩ := k
  exact ⟨max a b, fun n hn => ⟨h n (by omega), k n (by omega)⟩⟩
theorem Evt.imp {P Q : Nat → Prop} (h : Evt P) (k : ∀ n, P n → Q n) : Evt Q := by
  obtain ⟨a, h⟩ := h
  exact ⟨a, fun n hn => k n (h n hn)⟩
theorem Evt.imp2 {P Q R : Nat → Prop} (h : Evt P) (h2 : Evt Q) (k : ∀ n, P n → Q n → R n) : Evt R := (h.and h2).imp fun n hn => k n hn.1 hn.2
theorem Evt.succ {P : Nat → Prop} (h : Evt fun n => P (n + 1)) : Evt P := by
  obtain ⟨a, h⟩ := h
  exact ⟨a + 1, fun n hn => by
    obtain ⟨m, rfl⟩ : ∃ m, n = m + 1 := ⟨n - 1, by omega⟩
    exact h m (by omega)⟩
theorem Evt.list {α : Type} {P : α → Nat → Prop} : ∀ {l : List α}, (∀ x ∈ l, Evt (P x)) → Evt fun n => ∀ x ∈ l, P x n
  | [], _ => .all fun n x hx => by simp at hx
  | a :: l, h => ((h a (by simp)).and (Evt.list (l := l) fun x hx => h x (List.mem_cons_of_mem _ hx))).imp fun n hn x hx => by
    rcases List.mem_cons.1 hx with rfl | hx
    · exact hn.1
    · exact hn.2 x hx
/-- .. of each index below n. -/
theorem Evt.below {P : Nat → Nat → Prop} : ∀ {k : Nat}, (∀ i, i < k → Evt (P i)) → Evt fun n => ∀ i, i < k → P i n
  | 0, _ => .all fun n i hi => by omega
  | k + 1, h => ((h k (by omega)).and (Evt.below (k := k) fun i hi => h i (Nat.lt_succ_of_lt hi))).imp fun n hn i hi => by
    rcases Nat.lt_or_ge i k with h1 | h1
    · exact hn.2 i h1
    · obtain rfl : i = k := by omega
      exact hn.1
theorem Evt.get {P : Nat → Prop} (h : Evt P) : ∃ n, P n := by
  obtain ⟨a, h⟩ := h
  exact ⟨a, h a (Nat.le_refl _)⟩

section
variable {α σ β : Type} [Inhabited α] {f : Nat → σ → Option (LR σ β)}
theorem atD_mem {l : List α} {i : Nat} (h : i < l.length) : atD l i ∈ l := by rw [atD_eq h]; exact List.getElem_mem h
theorem drop_atD {l : List α} {i : Nat} (h : i < l.length) : l.drop i = atD l i :: l.drop (i + 1) := by rw [atD_eq h]; exact List.drop_eq_getElem_cons h
theorem take_atD {l : List α} {i : Nat} (h : i < l.length) : l.take (i + 1) = l.take i ++ [atD l i] := by rw [atD_eq h]; exact List.take_succ_eq_append_getElem h
/-- One round that goes on. -/
theorem loopN_step {n i : Nat} {s s' : σ} (h : i < n) (e : f i s = some (.next s')) : loopN f (n - i) i s = loopN f (n - (i + 1)) (i + 1) s' := loopN_next h rfl e
theorem loopN_out {n i : Nat} {s : σ} {x : β} (h : i < n) (e : f i s = some (.ret x)) : loopN f (n - i) i s = some (.inl x) := loopN_ret h rfl e
theorem loopN_off {n i : Nat} {s s' : σ} (h : i < n) (e : f i s = some (.brk s')) : loopN f (n - i) i s = some (.inr s') := loopN_brk h rfl e
theorem loopN_all {n i : Nat} {s : σ} (h : n ≤ i) : loopN f (n - i) i s = some (.inr s) := loopN_end h rfl
/-- A loop over a list, as a fold; P: what holds at the head of each round. -/
theorem loopN_fold {l : List α} {g : σ → α → σ} (P : Nat → σ → Prop) (hs : ∀ i s, i < l.length → P i s → f i s = some (.next (g s (atD l i))) ∧ P (i + 1) (g s (atD l i))) :
    ∀ (k i : Nat) (s : σ), l.length - i = k → P i s → loopN f (l.length - i) i s = some (.inr ((l.drop i).foldl g s))
  | 0, i, s, hk, _ => by
    rw [loopN_all (by omega), List.drop_of_length_le (by omega), List.foldl_nil]
  | k + 1, i, s, hk, hp => by
    have hi : i < l.length := by omega
    obtain ⟨h1, h2⟩ := hs i s hi hp
    rw [loopN_step hi h1, drop_atD hi, List.foldl_cons]
    exact loopN_fold P hs k (i + 1) _ (by omega) h2
theorem loopN_fold0 {l : List α} {g : σ → α → σ} (P : Nat → σ → Prop) (hs : ∀ i s, i < l.length → P i s → f i s = some (.next (g s (atD l i))) ∧ P (i + 1) (g s (atD l i))) {s : σ} (h0 : P 0 s) : loopN f (l.length - 0) 0 s = some (.inr (l.foldl g s)) := by
  have := loopN_fold P hs l.length 0 s (by omega) h0
  rwa [List.drop_zero] at this
/-- A loop over a list that leaves at the first element of a kind. -/
theorem loopN_find {l : List α} {p : α → Bool} {r : α → β} {s : σ} (hs : ∀ i, i < l.length → f i s = if p (atD l i) then some (.ret (r (atD l i))) else some (.next s)) :
    ∀ (k i : Nat), l.length - i = k → loopN f (l.length - i) i s = some (match (l.drop i).find? p with | some x => .inl (r x) | none => .inr s)
  | 0, i, hk => by
    rw [loopN_all (by omega), List.drop_of_length_le (by omega), List.find?_nil]
  | k + 1, i, hk => by
    have hi : i < l.length := by omega
    have h1 := hs i hi
    rw [drop_atD hi, List.find?_cons]
    cases hp : p (atD l i)
    · rw [hp] at h1
      rw [loopN_step hi (by simpa using h1)]
      exact loopN_find hs k (i + 1) (by omega)
    · rw [hp] at h1
      rw [loopN_out hi (by simpa using h1)]
theorem loopN_find0 {l : List α} {p : α → Bool} {r : α → β} {s : σ} (hs : ∀ i, i < l.length → f i s = if p (atD l i) then some (.ret (r (atD l i))) else some (.next s)) : loopN f (l.length - 0) 0 s = some (match l.find? p with | some x => .inl (r x) | none => .inr s) := by
  have := loopN_find hs l.length 0 (by omega)
  rwa [List.drop_zero] at this
/-- A loop over a list whose every element must pass; what is returned where one does not hangs on nothing. -/
theorem loopN_every {l : List α} {p : α → Bool} {r : β} {s : σ} (hs : ∀ i, i < l.length → f i s = if p (atD l i) then some (.next s) else some (.ret r)) : loopN f (l.length - 0) 0 s = some (if l.all p then .inr s else .inl r) := by
  rw [loopN_find0 (p := fun x => !p x) (r := fun _ => r) (fun i hi => by rw [hs i hi]; cases p (atD l i) <;> rfl)]
  cases h : l.find? (fun x => !p x) with
  | none =>
    rw [List.find?_eq_none] at h
    rw [if_pos (by rw [List.all_eq_true]; intro x hx; have := h x hx; simpa using this)]
  | some x =>
    have h1 := List.find?_some h
    have h2 := List.mem_of_find?_eq_some h
    rw [if_neg (by rw [List.all_eq_true]; intro hc; have := hc x h2; simp [this] at h1)]
/-- A loop that returns the place of the first element of a kind. -/
theorem loopN_index {f : Nat → Unit → Option (LR Unit Int)} {l : List α} {p : α → Bool} (hs : ∀ i, i < l.length → f i () = if p (atD l i) then some (.ret ((i : Nat) : Int)) else some (.next ())) :
    loopN f (l.length - 0) 0 () = some (match l.findIdx? p with | some i => .inl ((i : Nat) : Int) | none => .inr ()) := by
  have key : ∀ (k i : Nat), l.length - i = k → loopN f (l.length - i) i () = some (match (l.drop i).findIdx? p with | some j => .inl (((i + j : Nat)) : Int) | none => .inr ()) := by
    intro k
    induction k with
    | zero =>
      intro i hk
      rw [loopN_all (by omega), List.drop_of_length_le (by omega)]
      rfl
    | succ k ih =>
      intro i hk
      have hi : i < l.length := by omega
      have h1 := hs i hi
      rw [drop_atD hi, List.findIdx?_cons]
      cases hp : p (atD l i)
      · rw [hp] at h1
        rw [loopN_step hi (by simpa using h1), ih (i + 1) (by omega)]
        cases (l.drop (i + 1)).findIdx? p with
        | none => simp
        | some j => simp; omega
      · rw [hp] at h1
        rw [loopN_out hi (by simpa using h1)]
        simp
  have := key l.length 0 (by omega)
  simpa using this
omit [Inhabited α] in
theorem index_any {l : List α} {p : α → Bool} : decide ((match l.findIdx? p with | some i => ((i : Nat) : Int) | none => -1) ≥ 0) = l.any p := by
  cases h : l.findIdx? p with
  | none =>
    rw [List.findIdx?_eq_none_iff] at h
    have : l.any p = false := by rw [List.any_eq_false]; intro x hx; simp [h x hx]
    rw [this]; rfl
  | some i =>
    obtain ⟨h1, h2, -⟩ := List.findIdx?_eq_some_iff_getElem.1 h
    have : l.any p = true := List.any_eq_true.2 ⟨_, List.getElem_mem h1, h2⟩
    rw [this]
    simp
end
end Go.Proofs.Ytoifjkggpanceaa

namespace Go.Proofs.Ytoifjkggpanceaa
open Go.RowKit Go.Proofs
set_option linter.unusedSimpArgs false
set_option linter.unusedVariables false

noncomputable def sEqualType_G (fu : Nat) (r_sEqualType : GType → GType → Option Bool) (r_sl4Same : (List GType) → (List GType) → Option Bool) (pa : GType) (pb : GType) : Option Bool :=
 sw (decide ((pa.gKind : Int) = pb.gKind))
 (sw (decide (pa.gName = pb.gName))
 (bd (r_sl4Same pa.gArgs pb.gArgs) (fun x6 =>
 some x6))
 (some false))
 (some false)
set_option maxRecDepth 100000 in
set_option maxHeartbeats 4000000 in
theorem sEqualType_step (r_sEqualType : GType → GType → Option Bool) (r_sl4Same : (List GType) → (List GType) → Option Bool) (fu : Nat) (h_sEqualType : ∀ (pa : GType) (pb : GType) (r : Bool), r_sEqualType pa pb = some r → AFun Try.prog 169 [(GType.pv pa), (GType.pv pb)] (.t (.leaf (.bool (r))) : PV)) (h_sl4Same : ∀ (pa : List GType) (pb : List GType) (r : Bool), r_sl4Same pa pb = some r → AFun Try.prog 206 [.t (.row 3 (GType.trs (pa))), .t (.row 3 (GType.trs (pb)))] (.t (.leaf (.bool (r))) : PV)) (pa : GType) (pb : GType) (r : Bool) (H : sEqualType_G fu r_sEqualType r_sl4Same pa pb = some r) : AFun Try.prog 169 [(GType.pv pa), (GType.pv pb)] (.t (.leaf (.bool (r))) : PV) := by
  refine ACalls.intro Try.func169 rfl (by first | decide | (simp; done) | (simp; decide)) ?_
  intro C hC
  refine AWP.seq ?_
  refine AWP.region_lit ?_
  refine AL.cons rfl (AOp.box (cs := [.t (.leaf (.int .i64 (pa.gKind))), .t (.leaf (.string (pa.gName))), .t (.row 3 (GType.trs (pa.gArgs)))]) rfl rfl rfl rfl rfl) ?_
  refine AL.cons rfl (AOp.box (cs := [.t (.leaf (.int .i64 (pb.gKind))), .t (.leaf (.string (pb.gName))), .t (.row 3 (GType.trs (pb.gArgs)))]) rfl rfl rfl rfl rfl) ?_
  refine AL.cons rfl (AOp.move (.inr rfl) rfl rfl) ?_
  refine AL.nil ?_
  refine AWP.seq ?_
  refine AWP.region_lit ?_
  refine AL.cons rfl (AOp.fieldPtr (k := 0) (d := 0) (e := 0) rfl rfl rfl fo32_0) ?_
  refine AL.cons rfl (AOp.loadPtr1 rfl rfl rfl rfl sh3 rfl) ?_
  refine AL.cons rfl (AOp.fieldPtr (k := 1) (d := 0) (e := 0) rfl rfl rfl fo32_0) ?_
  refine AL.cons rfl (AOp.loadPtr1 rfl rfl rfl rfl sh3 rfl) ?_
  refine AL.cons rfl (AOp.eqlI rfl rfl rfl rfl) ?_
  refine AL.cons rfl (AOp.move (.inl rfl) rfl rfl) ?_
  refine AL.splitB 10 rfl (fun g1 => ?_) (fun g1 => ?_)
  · skip
    refine AL.cons_gv rfl rfl rfl g1 (AOp.fieldPtr (k := 0) (d := 0) (e := 1) rfl rfl rfl fo32_1) ?_
    refine AL.cons_gv rfl rfl rfl g1 (AOp.loadPtr1 rfl rfl rfl rfl sh9 rfl) ?_
    refine AL.cons_gv rfl rfl rfl g1 (AOp.fieldPtr (k := 1) (d := 0) (e := 1) rfl rfl rfl fo32_1) ?_
    refine AL.cons_gv rfl rfl rfl g1 (AOp.loadPtr1 rfl rfl rfl rfl sh9 rfl) ?_
    refine AL.cons_gv rfl rfl rfl g1 (AOp.eqlS rfl rfl rfl rfl) ?_
    refine AL.cons rfl (AOp.pickT rfl rfl rfl g1 rfl) ?_
    refine AL.cons rfl (AOp.move (.inl rfl) rfl rfl) ?_
    refine AL.splitB 17 rfl (fun g2 => ?_) (fun g2 => ?_)
    · skip
      refine AL.cons_gv rfl rfl rfl g2 (AOp.fieldPtr (k := 0) (d := 0) (e := 2) rfl rfl rfl fo32_2) ?_
      refine AL.cons_gv rfl rfl rfl g2 (AOp.loadPtr1 rfl rfl rfl rfl sh30 rfl) ?_
      refine AL.fact (lk_lenN 19 rfl rfl (GType.trs_len _)) (fun hl3 => ?_)
      refine AL.cons_gv rfl rfl rfl g2 (AOp.fieldPtr (k := 1) (d := 0) (e := 2) rfl rfl rfl fo32_2) ?_
      refine AL.cons_gv rfl rfl rfl g2 (AOp.loadPtr1 rfl rfl rfl rfl sh30 rfl) ?_
      refine AL.fact (lk_lenN 21 rfl rfl (GType.trs_len _)) (fun hl4 => ?_)
      rcases hq5 : r_sl4Same pa.gArgs pb.gArgs with _ | x6
      · skip
        have e7 : sEqualType_G fu r_sEqualType r_sl4Same pa pb = none := swT g1 (swT g2 (bdN hq5))
        exact none_some H e7
      · skip
        refine AL.cons_gv rfl rfl rfl g2 (AOp.callF (res := .t (.leaf (.bool (x6)))) (ps := [_, _]) rfl rfl Try.func206 (by kernel_rfl) rfl rfl (by (repeat' (first | exact PV.Le.refl _ | exact LeL.nil | exact PV.Le.nil _ | exact PV.Le.acc _ _ _ | apply LeL.cons | apply PV.Le.agg | apply PV.Le.tup))) rfl rfl (h_sl4Same pa.gArgs pb.gArgs _ hq5)) ?_
        refine AL.cons rfl (AOp.pickT rfl rfl rfl g2 rfl) ?_
        refine AL.cons rfl (AOp.move (.inr rfl) rfl rfl) ?_
        refine AL.nil ?_
        refine AWP.ret ?_
        have e8 : sEqualType_G fu r_sEqualType r_sl4Same pa pb = some x6 := swT g1 (swT g2 (bdS hq5 (rfl)))
        have hz : x6 = r := Option.some.inj (e8.symm.trans H)
        subst hz
        exact Ends.mk (ps := [_]) (by first | exact .inr rfl | exact .inl rfl) ⟨rfl, trivial⟩ rfl (StLe.mk' (st' := ⟨[], []⟩) trivial rfl) (keeps_nil hC) (q := (.t (.leaf (.bool (x6))) : PV)) (by (repeat' (first | exact PV.Le.refl _ | exact LeL.nil | exact PV.Le.nil _ | exact PV.Le.acc _ _ _ | apply LeL.cons | apply PV.Le.agg | apply PV.Le.tup))) rfl ⟨rfl, rfl⟩
    · skip
      refine AL.skip_v rfl rfl rfl g2 rfl ?_
      refine AL.skip_v rfl rfl rfl g2 rfl ?_
      refine AL.skip_v rfl rfl rfl g2 rfl ?_
      refine AL.skip_v rfl rfl rfl g2 rfl ?_
      refine AL.skip_v rfl rfl rfl g2 rfl ?_
      refine AL.cons rfl (AOp.pickF rfl rfl rfl g2 rfl) ?_
      refine AL.cons rfl (AOp.move (.inr rfl) rfl rfl) ?_
      refine AL.nil ?_
      refine AWP.ret ?_
      have e9 : sEqualType_G fu r_sEqualType r_sl4Same pa pb = some false := swT g1 (swF g2 (rfl))
      have hz : false = r := Option.some.inj (e9.symm.trans H)
      subst hz
      exact Ends.mk (ps := [_]) (by first | exact .inr rfl | exact .inl rfl) ⟨rfl, trivial⟩ rfl (StLe.mk' (st' := ⟨[], []⟩) trivial rfl) (keeps_nil hC) (q := (.t (.leaf (.bool (false))) : PV)) (by (repeat' (first | exact PV.Le.refl _ | exact LeL.nil | exact PV.Le.nil _ | exact PV.Le.acc _ _ _ | apply LeL.cons | apply PV.Le.agg | apply PV.Le.tup))) rfl ⟨rfl, rfl⟩
  · skip
    refine AL.skip_v rfl rfl rfl g1 rfl ?_
    refine AL.skip_v rfl rfl rfl g1 rfl ?_
    refine AL.skip_v rfl rfl rfl g1 rfl ?_
    refine AL.skip_v rfl rfl rfl g1 rfl ?_
    refine AL.skip_v rfl rfl rfl g1 rfl ?_
    refine AL.cons rfl (AOp.pickF rfl rfl rfl g1 rfl) ?_
    refine AL.cons rfl (AOp.move (.inl rfl) rfl rfl) ?_
    refine AL.skip_v rfl rfl rfl rfl rfl ?_
    refine AL.skip_v rfl rfl rfl rfl rfl ?_
    refine AL.skip_v rfl rfl rfl rfl rfl ?_
    refine AL.skip_v rfl rfl rfl rfl rfl ?_
    refine AL.skip_v rfl rfl rfl rfl rfl ?_
    refine AL.cons rfl (AOp.pickF rfl rfl rfl rfl rfl) ?_
    refine AL.cons rfl (AOp.move (.inr rfl) rfl rfl) ?_
    refine AL.nil ?_
    refine AWP.ret ?_
    have e10 : sEqualType_G fu r_sEqualType r_sl4Same pa pb = some false := swF g1 (rfl)
    have hz : false = r := Option.some.inj (e10.symm.trans H)
    subst hz
    exact Ends.mk (ps := [_]) (by first | exact .inr rfl | exact .inl rfl) ⟨rfl, trivial⟩ rfl (StLe.mk' (st' := ⟨[], []⟩) trivial rfl) (keeps_nil hC) (q := (.t (.leaf (.bool (false))) : PV)) (by (repeat' (first | exact PV.Le.refl _ | exact LeL.nil | exact PV.Le.nil _ | exact PV.Le.acc _ _ _ | apply LeL.cons | apply PV.Le.agg | apply PV.Le.tup))) rfl ⟨rfl, rfl⟩
noncomputable def sl4Same_F1 (fu : Nat) (r_sEqualType : GType → GType → Option Bool) (r_sl4Same : (List GType) → (List GType) → Option Bool) (pa : List GType) (pb : List GType) : Nat → Unit → Option (LR Unit Bool) :=
 fun i5 _ => gd (i5 < (pb).length)
 (bd (r_sEqualType (atD pa i5) (atD pb i5)) (fun x10 =>
 sw (!(x10))
 (some (.ret false))
 (some (.next ()))))
noncomputable def sl4Same_R1 (fu : Nat) (r_sEqualType : GType → GType → Option Bool) (r_sl4Same : (List GType) → (List GType) → Option Bool) (pa : List GType) (pb : List GType) : Option (Bool ⊕ Unit) :=
 loopN (sl4Same_F1 fu r_sEqualType r_sl4Same pa pb) (pa.length - 0) 0 ()
noncomputable def sl4Same_G (fu : Nat) (r_sEqualType : GType → GType → Option Bool) (r_sl4Same : (List GType) → (List GType) → Option Bool) (pa : List GType) (pb : List GType) : Option Bool :=
 sw (!decide ((((pa.length : Nat) : Int) : Int) = ((pb.length : Nat) : Int)))
 (some false)
 (so (sl4Same_R1 fu r_sEqualType r_sl4Same pa pb) (fun _ =>
 some true))
set_option maxRecDepth 100000 in
set_option maxHeartbeats 4000000 in
theorem sl4Same_step (r_sEqualType : GType → GType → Option Bool) (r_sl4Same : (List GType) → (List GType) → Option Bool) (fu : Nat) (h_sEqualType : ∀ (pa : GType) (pb : GType) (r : Bool), r_sEqualType pa pb = some r → AFun Try.prog 169 [(GType.pv pa), (GType.pv pb)] (.t (.leaf (.bool (r))) : PV)) (h_sl4Same : ∀ (pa : List GType) (pb : List GType) (r : Bool), r_sl4Same pa pb = some r → AFun Try.prog 206 [.t (.row 3 (GType.trs (pa))), .t (.row 3 (GType.trs (pb)))] (.t (.leaf (.bool (r))) : PV)) (pa : List GType) (pb : List GType) (r : Bool) (H : sl4Same_G fu r_sEqualType r_sl4Same pa pb = some r) : AFun Try.prog 206 [.t (.row 3 (GType.trs (pa))), .t (.row 3 (GType.trs (pb)))] (.t (.leaf (.bool (r))) : PV) := by
  refine ACalls.intro Try.func206 rfl (by first | decide | (simp; done) | (simp; decide)) ?_
  intro C hC
  refine AWP.fact (lk_lenN 0 rfl rfl (GType.trs_len _)) (fun hl1 => ?_)
  refine AWP.fact (lk_lenN 1 rfl rfl (GType.trs_len _)) (fun hl2 => ?_)
  refine AWP.seq ?_
  refine AWP.region_lit ?_
  refine AL.cons rfl (AOp.move (.inr rfl) rfl rfl) ?_
  refine AL.nil ?_
  refine AWP.seq ?_
  refine AWP.seq ?_
  refine AWP.region_lit ?_
  refine AL.cons rfl (AOp.move (.inl rfl) rfl rfl) ?_
  refine AL.cons rfl (AOp.lenN rfl rfl rfl rfl el30 (GType.trs_len _)) ?_
  refine AL.cons rfl (AOp.move (.inl rfl) rfl rfl) ?_
  refine AL.cons rfl (AOp.lenN rfl rfl rfl rfl el30 (GType.trs_len _)) ?_
  refine AL.cons rfl (AOp.neqI rfl rfl rfl rfl) ?_
  refine AL.nil ?_
  refine AWP.cond rfl (fun h3 => ?_) (fun h3 => ?_)
  · skip
    refine AWP.seq ?_
    refine AWP.region_lit ?_
    refine AL.cons rfl (AOp.move (.inr rfl) rfl rfl) ?_
    refine AL.nil ?_
    refine AWP.ret ?_
    have e4 : sl4Same_G fu r_sEqualType r_sl4Same pa pb = some false := swT h3 (rfl)
    have hz : false = r := Option.some.inj (e4.symm.trans H)
    subst hz
    exact Ends.mk (ps := [_]) (by first | exact .inr rfl | exact .inl rfl) ⟨rfl, trivial⟩ rfl (StLe.mk' (st' := ⟨[], []⟩) trivial rfl) (keeps_nil hC) (q := (.t (.leaf (.bool (false))) : PV)) (by (repeat' (first | exact PV.Le.refl _ | exact LeL.nil | exact PV.Le.nil _ | exact PV.Le.acc _ _ _ | apply LeL.cons | apply PV.Le.agg | apply PV.Le.tup))) rfl ⟨rfl, rfl⟩
  · skip
    refine AWP.skip ?_
    refine AWP.seq ?_
    refine AWP.seq ?_
    refine AWP.region_lit ?_
    refine AL.cons rfl (AOp.move (.inr rfl) rfl rfl) ?_
    refine AL.nil ?_
    refine AWP.cut (ι := Unit) (fun _ => sl4Same_R1 fu r_sEqualType r_sl4Same pa pb = some (.inr ())) (fun _ => ⟨[(4, .t (.leaf (.bool (false))))], ⟨[], []⟩⟩) (by repeat' (first | exact qcEnds | exact ncAWP | exact ncRound | exact ncEx | apply qcThen | apply qcBlock | apply qcCut)) ?_ ?_
    · skip
      refine AWP.block ?_
      refine AWP.loopR (ι := Nat × Unit) (fun (i5, _) => sl4Same_R1 fu r_sEqualType r_sl4Same pa pb = loopN (sl4Same_F1 fu r_sEqualType r_sl4Same pa pb) (pa.length - i5) i5 ()) (fun (i5, _) => ⟨[(0, .t (.row 3 (GType.trs (pa)))), (1, .t (.row 3 (GType.trs (pb)))), (4, .t (.leaf (.bool (false)))), (5, .t (.leaf (.int .i64 (((i5 : Nat) : Int)))))], ⟨[], []⟩⟩) (fun (i5, _) => pa.length - i5) (0, ()) ?_ ?_ ?_
      · exact rfl
      · skip
        exact Wk.mk (StLe.mk' trivial rfl) (keeps_nil hC) ⟨⟨_, rfl, .refl _, rfl⟩, ⟨⟨_, rfl, .refl _, rfl⟩, ⟨⟨_, rfl, .refl _, rfl⟩, ⟨⟨_, rfl, by (repeat' (first | exact PV.Le.refl _ | exact LeL.nil | exact PV.Le.nil _ | exact PV.Le.acc _ _ _ | apply LeL.cons | apply PV.Le.agg | apply PV.Le.tup)), rfl⟩, trivial⟩⟩⟩⟩
      · rintro ⟨i5, ⟨⟩⟩ hJ6
        refine AWP.seq ?_
        refine AWP.seq ?_
        refine AWP.region_lit ?_
        refine AL.cons rfl (AOp.move (.inl rfl) rfl rfl) ?_
        refine AL.cons rfl (AOp.move (.inl rfl) rfl rfl) ?_
        refine AL.cons rfl (AOp.lenN rfl rfl rfl rfl el30 (GType.trs_len _)) ?_
        refine AL.cons rfl (AOp.lss rfl rfl rfl rfl) ?_
        refine AL.nil ?_
        refine AWP.cond rfl (fun h7 => ?_) (fun h7 => ?_)
        · skip
          have h7l : i5 < pa.length := nat_lt_of2 h7
          have h7n := nat_lt_of h7
          refine AWP.skip ?_
          refine AWP.seq ?_
          refine AWP.block ?_
          refine AWP.seq ?_
          rcases Classical.em (i5 < (pb).length) with hg8 | hg8
          · skip
            rcases hq9 : r_sEqualType (atD pa i5) (atD pb i5) with _ | x10
            · skip
              have e11 : (sl4Same_F1 fu r_sEqualType r_sl4Same pa pb) i5 () = none := gdT hg8 (bdN hq9)
              have e12 : sl4Same_R1 fu r_sEqualType r_sl4Same pa pb = none := loopN_non h7l hJ6 e11
              have e13 : sl4Same_G fu r_sEqualType r_sl4Same pa pb = none := swF h3 (soN e12)
              exact none_some H e13
            · skip
              refine AWP.drawnL ⟨_, _, fun _ _ => (⟨[], []⟩ : Sto), fun q' => ([some (.t (.row 3 (GType.trs (pa)))), some (.t (.leaf (.int .i64 (((i5 : Nat) : Int))))), some (.eptr (GType.cs (atD pa i5))), some ((GType.pv (atD pa i5))), some (.t (.row 3 (GType.trs (pb)))), some (.t (.leaf (.int .i64 (((i5 : Nat) : Int))))), some (.eptr (GType.cs (atD pb i5))), some ((GType.pv (atD pb i5))), some (.t (.leaf (.bool (x10)))), some (.t (.leaf (.bool (!(x10)))))] : List (Option PV)).getD q' none, fun q' => ([.q 0 0, .q 0 0, .q 0 0, .q 0 0, .q 0 0, .q 0 0, .q 0 0, .q 0 0, .q 0 0, .q 0 0] : List DK).getD q' (.q 0 0), [], none, fun q' => ([[(0, none)], [(5, none)], [(17, some 0), (18, some 1)], [(19, some 2)], [(1, none)], [(5, none)], [(21, some 4), (22, some 5)], [(23, some 6)], [(24, some 7), (20, some 3)], [(25, some 8)]] : List (List (Nat × Option Nat))).getD q' []⟩ rfl mixed (by kernel_rfl) rfl rfl ⟨?_, ?_, ?_, ?_, ?_, ?_, ?_, ?_, ?_, ?_, trivial⟩ rfl ?_
              · refine .inl ⟨rfl, fun s' jj bb (h1 : 0 ≤ jj) (h2 : jj ≤ 0) hs hl => ?_⟩
                obtain rfl : jj = 0 := by omega
                exact ⟨_, rfl, AOp.move (.inl rfl) rfl (hl 0 none _ (.head _) rfl)⟩
              · refine .inl ⟨rfl, fun s' jj bb (h1 : 0 ≤ jj) (h2 : jj ≤ 0) hs hl => ?_⟩
                obtain rfl : jj = 0 := by omega
                exact ⟨_, rfl, AOp.move (.inl rfl) rfl (hl 5 none _ (.head _) rfl)⟩
              · refine .inl ⟨rfl, fun s' jj bb (h1 : 0 ≤ jj) (h2 : jj ≤ 0) hs hl => ?_⟩
                obtain rfl : jj = 0 := by omega
                exact ⟨_, rfl, AOp.index (k := i5) rfl rfl (hl 17 (some 0) _ (.head _) rfl) rfl (hl 18 (some 1) _ (.tail _ (.head _)) rfl) (GType.trs_at h7n) el30⟩
              · refine .inl ⟨rfl, fun s' jj bb (h1 : 0 ≤ jj) (h2 : jj ≤ 0) hs hl => ?_⟩
                obtain rfl : jj = 0 := by omega
                exact ⟨_, rfl, AOp.loadEptr (ds := [.leaf (.int .i64 ((atD pa i5).gKind)), .leaf (.string ((atD pa i5).gName)), .row 3 (GType.trs ((atD pa i5).gArgs))]) rfl rfl (hl 19 (some 2) _ (.head _) rfl) sh32 rfl rfl⟩
              · refine .inl ⟨rfl, fun s' jj bb (h1 : 0 ≤ jj) (h2 : jj ≤ 0) hs hl => ?_⟩
                obtain rfl : jj = 0 := by omega
                exact ⟨_, rfl, AOp.move (.inl rfl) rfl (hl 1 none _ (.head _) rfl)⟩
              · refine .inl ⟨rfl, fun s' jj bb (h1 : 0 ≤ jj) (h2 : jj ≤ 0) hs hl => ?_⟩
                obtain rfl : jj = 0 := by omega
                exact ⟨_, rfl, AOp.move (.inl rfl) rfl (hl 5 none _ (.head _) rfl)⟩
              · refine .inl ⟨rfl, fun s' jj bb (h1 : 0 ≤ jj) (h2 : jj ≤ 0) hs hl => ?_⟩
                obtain rfl : jj = 0 := by omega
                exact ⟨_, rfl, AOp.index (k := i5) rfl rfl (hl 21 (some 4) _ (.head _) rfl) rfl (hl 22 (some 5) _ (.tail _ (.head _)) rfl) (GType.trs_at hg8) el30⟩
              · refine .inl ⟨rfl, fun s' jj bb (h1 : 0 ≤ jj) (h2 : jj ≤ 0) hs hl => ?_⟩
                obtain rfl : jj = 0 := by omega
                exact ⟨_, rfl, AOp.loadEptr (ds := [.leaf (.int .i64 ((atD pb i5).gKind)), .leaf (.string ((atD pb i5).gName)), .row 3 (GType.trs ((atD pb i5).gArgs))]) rfl rfl (hl 23 (some 6) _ (.head _) rfl) sh32 rfl rfl⟩
              · refine .inl ⟨rfl, fun s' jj bb (h1 : 0 ≤ jj) (h2 : jj ≤ 0) hs hl => ?_⟩
                obtain rfl : jj = 0 := by omega
                exact ⟨_, rfl, AOp.callF (res := .t (.leaf (.bool (x10)))) (ps := [_, _]) rfl rfl Try.func169 (by kernel_rfl) rfl (evs_cons (hl 20 (some 3) _ (.tail _ (.head _)) rfl) (evs_cons (hl 24 (some 7) _ (.head _) rfl) rfl)) (by (repeat' (first | exact PV.Le.refl _ | exact LeL.nil | exact PV.Le.nil _ | exact PV.Le.acc _ _ _ | apply LeL.cons | apply PV.Le.agg | apply PV.Le.tup))) rfl rfl (h_sEqualType (atD pa i5) (atD pb i5) _ hq9)⟩
              · refine .inl ⟨rfl, fun s' jj bb (h1 : 0 ≤ jj) (h2 : jj ≤ 0) hs hl => ?_⟩
                obtain rfl : jj = 0 := by omega
                exact ⟨_, rfl, AOp.notB rfl rfl (hl 25 (some 8) _ (.head _) rfl)⟩
              refine AWP.cond rfl (fun h14 => ?_) (fun h14 => ?_)
              · skip
                refine AWP.seq ?_
                refine AWP.region_lit ?_
                refine AL.cons rfl (AOp.move (.inr rfl) rfl rfl) ?_
                refine AL.nil ?_
                refine AWP.ret ?_
                have e15 : (sl4Same_F1 fu r_sEqualType r_sl4Same pa pb) i5 () = some (.ret false) := gdT hg8 (bdS hq9 (swT h14 (rfl)))
                have e16 : sl4Same_R1 fu r_sEqualType r_sl4Same pa pb = some (.inl false) := loopN_ret h7l hJ6 e15
                have e17 : sl4Same_G fu r_sEqualType r_sl4Same pa pb = some false := swF h3 (soL e16)
                have hz : false = r := Option.some.inj (e17.symm.trans H)
                subst hz
                exact Ends.mk (ps := [_]) (by first | exact .inr rfl | exact .inl rfl) ⟨rfl, trivial⟩ rfl (StLe.mk' (st' := ⟨[], []⟩) trivial rfl) (keeps_nil hC) (q := (.t (.leaf (.bool (false))) : PV)) (by (repeat' (first | exact PV.Le.refl _ | exact LeL.nil | exact PV.Le.nil _ | exact PV.Le.acc _ _ _ | apply LeL.cons | apply PV.Le.agg | apply PV.Le.tup))) rfl ⟨rfl, rfl⟩
              · skip
                refine AWP.skip ?_
                refine AWP.region_lit ?_
                refine AL.cons rfl (AOp.move (.inl rfl) rfl rfl) ?_
                refine AL.cons rfl (AOp.addI rfl rfl rfl rfl (c := ((i5 + 1 : Nat) : Int)) (by omega) (by omega)) ?_
                refine AL.cons rfl (AOp.move (.inr rfl) rfl rfl) ?_
                refine AL.nil ?_
                have e18 : (sl4Same_F1 fu r_sEqualType r_sl4Same pa pb) i5 () = some (.next ()) := gdT hg8 (bdS hq9 (swF h14 (rfl)))
                refine ⟨(i5 + 1, ()), loopN_next h7l hJ6 e18, ?_, ?_⟩
                · skip
                  exact Wk.mk (StLe.mk' trivial rfl) (keeps_nil hC) ⟨⟨_, rfl, .refl _, rfl⟩, ⟨⟨_, rfl, .refl _, rfl⟩, ⟨⟨_, rfl, .refl _, rfl⟩, ⟨⟨_, rfl, by (repeat' (first | exact PV.Le.refl _ | exact LeL.nil | exact PV.Le.nil _ | exact PV.Le.acc _ _ _ | apply LeL.cons | apply PV.Le.agg | apply PV.Le.tup)), rfl⟩, trivial⟩⟩⟩⟩
                · dsimp only; omega
          · skip
            have e19 : (sl4Same_F1 fu r_sEqualType r_sl4Same pa pb) i5 () = none := gdF hg8
            have e20 : sl4Same_R1 fu r_sEqualType r_sl4Same pa pb = none := loopN_non h7l hJ6 e19
            have e21 : sl4Same_G fu r_sEqualType r_sl4Same pa pb = none := swF h3 (soN e20)
            exact none_some H e21
        · skip
          have h7l : pa.length ≤ i5 := nat_ge_of2 h7
          refine AWP.exit ?_
          refine ⟨(), loopN_end h7l hJ6, ?_⟩
          exact Wk.mk (StLe.mk' trivial rfl) (keeps_nil hC) ⟨⟨_, rfl, .refl _, rfl⟩, trivial⟩
    · rintro ⟨⟩ hR22
      refine AWP.seq ?_
      refine AWP.region_lit ?_
      refine AL.cons rfl (AOp.move (.inr rfl) rfl rfl) ?_
      refine AL.nil ?_
      refine AWP.ret ?_
      have e23 : sl4Same_G fu r_sEqualType r_sl4Same pa pb = some true := swF h3 (soR hR22 (rfl))
      have hz : true = r := Option.some.inj (e23.symm.trans H)
      subst hz
      exact Ends.mk (ps := [_]) (by first | exact .inr rfl | exact .inl rfl) ⟨rfl, trivial⟩ rfl (StLe.mk' (st' := ⟨[], []⟩) trivial rfl) (keeps_nil hC) (q := (.t (.leaf (.bool (true))) : PV)) (by (repeat' (first | exact PV.Le.refl _ | exact LeL.nil | exact PV.Le.nil _ | exact PV.Le.acc _ _ _ | apply LeL.cons | apply PV.Le.agg | apply PV.Le.tup))) rfl ⟨rfl, rfl⟩
mutual
noncomputable def sEqualType_M : Nat → GType → GType → Option Bool
  | 0, _, _ => none
  | fu + 1, pa, pb => sEqualType_G fu (sEqualType_M fu) (sl4Same_M fu) pa pb
noncomputable def sl4Same_M : Nat → (List GType) → (List GType) → Option Bool
  | 0, _, _ => none
  | fu + 1, pa, pb => sl4Same_G fu (sEqualType_M fu) (sl4Same_M fu) pa pb
end
theorem sEqualType_all (fu : Nat) : (∀ (pa : GType) (pb : GType) (r : Bool), sEqualType_M fu pa pb = some r → AFun Try.prog 169 [(GType.pv pa), (GType.pv pb)] (.t (.leaf (.bool (r))) : PV)) ∧ (∀ (pa : List GType) (pb : List GType) (r : Bool), sl4Same_M fu pa pb = some r → AFun Try.prog 206 [.t (.row 3 (GType.trs (pa))), .t (.row 3 (GType.trs (pb)))] (.t (.leaf (.bool (r))) : PV)) := by
  induction fu with
  | zero => exact ⟨(fun pa pb r H => by simp only [sEqualType_M] at H; cases H), (fun pa pb r H => by simp only [sl4Same_M] at H; cases H)⟩
  | succ fu ih => exact ⟨(fun pa pb r H => by simp only [sEqualType_M] at H; exact sEqualType_step (sEqualType_M fu) (sl4Same_M fu) fu ih.1 ih.2 pa pb r H), (fun pa pb r H => by simp only [sl4Same_M] at H; exact sl4Same_step (sEqualType_M fu) (sl4Same_M fu) fu ih.1 ih.2 pa pb r H)⟩
theorem sEqualType_ok (fu : Nat) (pa : GType) (pb : GType) (r : Bool) (H : sEqualType_M fu pa pb = some r) : AFun Try.prog 169 [(GType.pv pa), (GType.pv pb)] (.t (.leaf (.bool (r))) : PV) := (sEqualType_all fu).1 pa pb r H
theorem sl4Same_ok (fu : Nat) (pa : List GType) (pb : List GType) (r : Bool) (H : sl4Same_M fu pa pb = some r) : AFun Try.prog 206 [.t (.row 3 (GType.trs (pa))), .t (.row 3 (GType.trs (pb)))] (.t (.leaf (.bool (r))) : PV) := (sEqualType_all fu).2 pa pb r H

noncomputable def sl4Copy_G (fu : Nat) (r_sl4Copy : GType → Option GType) (r_sl4Copies : (List GType) → Option ((List GType))) (pt : GType) : Option GType :=
 bd (r_sl4Copies pt.gArgs) (fun x2 =>
 some (GType.mk pt.gKind pt.gName x2))
set_option maxRecDepth 100000 in
set_option maxHeartbeats 4000000 in
theorem sl4Copy_step (r_sl4Copy : GType → Option GType) (r_sl4Copies : (List GType) → Option ((List GType))) (fu : Nat) (h_sl4Copy : ∀ (pt : GType) (r : GType), r_sl4Copy pt = some r → AFun Try.prog 170 [(GType.pv pt)] ((GType.pv r) : PV)) (h_sl4Copies : ∀ (plist : List GType) (r : (List GType)), r_sl4Copies plist = some r → AFun Try.prog 204 [.t (.row 3 (GType.trs (plist)))] (.t (.row 3 (GType.trs (r))) : PV)) (pt : GType) (r : GType) (H : sl4Copy_G fu r_sl4Copy r_sl4Copies pt = some r) : AFun Try.prog 170 [(GType.pv pt)] ((GType.pv r) : PV) := by
  refine ACalls.intro Try.func170 rfl (by first | decide | (simp; done) | (simp; decide)) ?_
  intro C hC
  refine AWP.seq ?_
  refine AWP.region_lit ?_
  refine AL.cons rfl (AOp.box (cs := [.t (.leaf (.int .i64 (pt.gKind))), .t (.leaf (.string (pt.gName))), .t (.row 3 (GType.trs (pt.gArgs)))]) rfl rfl rfl rfl rfl) ?_
  refine AL.cons rfl (AOp.alloc rfl rfl zr32) ?_
  refine AL.nil ?_
  refine AWP.seq ?_
  rcases hq1 : r_sl4Copies pt.gArgs with _ | x2
  · skip
    have e3 : sl4Copy_G fu r_sl4Copy r_sl4Copies pt = none := bdN hq1
    exact none_some H e3
  · skip
    refine AWP.drawnL ⟨_, _, fun j' _ => ([(⟨[some ⟨32, [.t (.leaf (.int .i64 (pt.gKind))), .t (.leaf (.string (pt.gName))), .t (.row 3 (GType.trs (pt.gArgs)))]⟩, some ⟨32, [.t (.leaf (.int .i64 (0))), .t (.leaf (.string (⟨#[]⟩))), .nil]⟩], []⟩ : Sto), (⟨[some ⟨32, [.t (.leaf (.int .i64 (pt.gKind))), .t (.leaf (.string (pt.gName))), .t (.row 3 (GType.trs (pt.gArgs)))]⟩, some ⟨32, [.t (.leaf (.int .i64 (pt.gKind))), .t (.leaf (.string (pt.gName))), .t (.row 3 (GType.trs (x2)))]⟩], []⟩ : Sto)] : List Sto).getD j' (⟨[some ⟨32, [.t (.leaf (.int .i64 (pt.gKind))), .t (.leaf (.string (pt.gName))), .t (.row 3 (GType.trs (pt.gArgs)))]⟩, some ⟨32, [.t (.leaf (.int .i64 (pt.gKind))), .t (.leaf (.string (pt.gName))), .t (.row 3 (GType.trs (x2)))]⟩], []⟩ : Sto), fun q' => ([some (.ptr 0 0), some (.t (.leaf (.int .i64 (pt.gKind)))), some (.ptr 0 1), some (.t (.leaf (.string (pt.gName)))), some (.ptr 0 2), some (.t (.row 3 (GType.trs (pt.gArgs)))), some (.t (.row 3 (GType.trs (x2)))), some (.agg [.t (.leaf (.int .i64 (pt.gKind))), .t (.leaf (.string (pt.gName))), .t (.row 3 (GType.trs (x2)))]), none] : List (Option PV)).getD q' none, fun q' => ([.q 0 0, .q 0 0, .q 0 0, .q 0 0, .q 0 0, .q 0 0, .q 0 0, .q 0 0, .ef 0] : List DK).getD q' (.q 0 0), [8], none, fun q' => ([[(1, none)], [(3, some 0)], [(1, none)], [(5, some 2)], [(1, none)], [(7, some 4)], [(8, some 5)], [(9, some 6), (6, some 3), (4, some 1)], [(2, none), (10, some 7)]] : List (List (Nat × Option Nat))).getD q' []⟩ rfl mixed (by kernel_rfl) rfl rfl ⟨?_, ?_, ?_, ?_, ?_, ?_, ?_, ?_, ?_, trivial⟩ rfl ?_
    · refine .inl ⟨rfl, fun s' jj bb (h1 : 0 ≤ jj) (h2 : jj ≤ 0) hs hl => ?_⟩
      obtain rfl : jj = 0 := by omega
      exact ⟨_, rfl, AOp.fieldPtr (k := 0) (d := 0) (e := 0) rfl rfl (hl 1 none _ (.head _) rfl) fo32_0⟩
    · refine .inl ⟨rfl, fun s' jj bb (h1 : 0 ≤ jj) (h2 : jj ≤ 0) hs hl => ?_⟩
      obtain rfl : jj = 0 := by omega
      exact ⟨_, rfl, AOp.loadPtr1 rfl rfl (hl 3 (some 0) _ (.head _) rfl) (by rw [hs]; rfl) sh3 rfl⟩
    · refine .inl ⟨rfl, fun s' jj bb (h1 : 0 ≤ jj) (h2 : jj ≤ 0) hs hl => ?_⟩
      obtain rfl : jj = 0 := by omega
      exact ⟨_, rfl, AOp.fieldPtr (k := 0) (d := 0) (e := 1) rfl rfl (hl 1 none _ (.head _) rfl) fo32_1⟩
    · refine .inl ⟨rfl, fun s' jj bb (h1 : 0 ≤ jj) (h2 : jj ≤ 0) hs hl => ?_⟩
      obtain rfl : jj = 0 := by omega
      exact ⟨_, rfl, AOp.loadPtr1 rfl rfl (hl 5 (some 2) _ (.head _) rfl) (by rw [hs]; rfl) sh9 rfl⟩
    · refine .inl ⟨rfl, fun s' jj bb (h1 : 0 ≤ jj) (h2 : jj ≤ 0) hs hl => ?_⟩
      obtain rfl : jj = 0 := by omega
      exact ⟨_, rfl, AOp.fieldPtr (k := 0) (d := 0) (e := 2) rfl rfl (hl 1 none _ (.head _) rfl) fo32_2⟩
    · refine .inl ⟨rfl, fun s' jj bb (h1 : 0 ≤ jj) (h2 : jj ≤ 0) hs hl => ?_⟩
      obtain rfl : jj = 0 := by omega
      exact ⟨_, rfl, AOp.loadPtr1 rfl rfl (hl 7 (some 4) _ (.head _) rfl) (by rw [hs]; rfl) sh30 rfl⟩
    · refine .inl ⟨rfl, fun s' jj bb (h1 : 0 ≤ jj) (h2 : jj ≤ 0) hs hl => ?_⟩
      obtain rfl : jj = 0 := by omega
      exact ⟨_, rfl, AOp.callF (res := .t (.row 3 (GType.trs (x2)))) (ps := [_]) rfl rfl Try.func204 (by kernel_rfl) rfl (evs_cons (hl 8 (some 5) _ (.head _) rfl) rfl) (by (repeat' (first | exact PV.Le.refl _ | exact LeL.nil | exact PV.Le.nil _ | exact PV.Le.acc _ _ _ | apply LeL.cons | apply PV.Le.agg | apply PV.Le.tup))) rfl rfl (h_sl4Copies pt.gArgs _ hq1)⟩
    · refine .inl ⟨rfl, fun s' jj bb (h1 : 0 ≤ jj) (h2 : jj ≤ 0) hs hl => ?_⟩
      obtain rfl : jj = 0 := by omega
      exact ⟨_, rfl, AOp.build rfl rfl zr32 pl32 (parts_cons (hl 4 (some 1) _ (.tail _ (.tail _ (.head _))) rfl) rfl rfl (parts_cons (hl 6 (some 3) _ (.tail _ (.head _)) rfl) rfl rfl (parts_cons (hl 9 (some 6) _ (.head _) rfl) rfl rfl rfl))) rfl⟩
    · refine .inl ⟨rfl, fun s' bb hs hl => ?_⟩
      refine .inr ⟨rfl, AOp.congr (AOp.storePtr (cs := [.t (.leaf (.int .i64 (pt.gKind))), .t (.leaf (.string (pt.gName))), .t (.row 3 (GType.trs (x2)))]) (ds := [.t (.leaf (.int .i64 (pt.gKind))), .t (.leaf (.string (pt.gName))), .t (.row 3 (GType.trs (x2)))]) rfl (hl 2 none _ (.head _) rfl) (by rw [hs]; rfl) (hl 10 (some 7) _ (.tail _ (.head _)) rfl) rfl rfl rfl sz32 (Nat.le_of_ble_eq_true rfl) rfl) ?_⟩
      first | (rw [hs]; rfl) | rfl
    refine AWP.ret ?_
    have e4 : sl4Copy_G fu r_sl4Copy r_sl4Copies pt = some (GType.mk pt.gKind pt.gName x2) := bdS hq1 (rfl)
    have hz : (GType.mk pt.gKind pt.gName x2) = r := Option.some.inj (e4.symm.trans H)
    subst hz
    exact Ends.mk (ps := [_]) (by first | exact .inr rfl | exact .inl rfl) ⟨⟨_, _, _, rfl, rfl, sh32, rfl, rfl⟩, trivial⟩ rfl (StLe.mk' (st' := ⟨[], []⟩) trivial rfl) (keeps_nil hC) (q := ((GType.pv (GType.mk pt.gKind pt.gName x2)) : PV)) (by (repeat' (first | exact PV.Le.refl _ | exact LeL.nil | exact PV.Le.nil _ | exact PV.Le.acc _ _ _ | apply LeL.cons | apply PV.Le.agg | apply PV.Le.tup))) rfl ⟨rfl, rfl⟩
noncomputable def sl4Copies_F1 (fu : Nat) (r_sl4Copy : GType → Option GType) (r_sl4Copies : (List GType) → Option ((List GType))) (plist : List GType) : Nat → ((List GType)) → Option (LR ((List GType)) ((List GType))) :=
 fun i2 v4 => bd (r_sl4Copy (atD plist i2)) (fun x9 =>
 gd ((v4).length + (([x9] : List GType)).length ≤ 68719476736)
 (some (.next (v4 ++ ([x9] : List GType)))))
noncomputable def sl4Copies_R1 (fu : Nat) (r_sl4Copy : GType → Option GType) (r_sl4Copies : (List GType) → Option ((List GType))) (plist : List GType) : Option (((List GType)) ⊕ ((List GType))) :=
 loopN (sl4Copies_F1 fu r_sl4Copy r_sl4Copies plist) (plist.length - 0) 0 ([])
noncomputable def sl4Copies_G (fu : Nat) (r_sl4Copy : GType → Option GType) (r_sl4Copies : (List GType) → Option ((List GType))) (plist : List GType) : Option ((List GType)) :=
 so (sl4Copies_R1 fu r_sl4Copy r_sl4Copies plist) (fun v4 =>
 some v4)
set_option maxRecDepth 100000 in
set_option maxHeartbeats 4000000 in
theorem sl4Copies_step (r_sl4Copy : GType → Option GType) (r_sl4Copies : (List GType) → Option ((List GType))) (fu : Nat) (h_sl4Copy : ∀ (pt : GType) (r : GType), r_sl4Copy pt = some r → AFun Try.prog 170 [(GType.pv pt)] ((GType.pv r) : PV)) (h_sl4Copies : ∀ (plist : List GType) (r : (List GType)), r_sl4Copies plist = some r → AFun Try.prog 204 [.t (.row 3 (GType.trs (plist)))] (.t (.row 3 (GType.trs (r))) : PV)) (plist : List GType) (r : (List GType)) (H : sl4Copies_G fu r_sl4Copy r_sl4Copies plist = some r) : AFun Try.prog 204 [.t (.row 3 (GType.trs (plist)))] (.t (.row 3 (GType.trs (r))) : PV) := by
  refine ACalls.intro Try.func204 rfl (by first | decide | (simp; done) | (simp; decide)) ?_
  intro C hC
  refine AWP.fact (lk_lenN 0 rfl rfl (GType.trs_len _)) (fun hl1 => ?_)
  refine AWP.seq ?_
  refine AWP.region_lit ?_
  refine AL.cons rfl (AOp.move (.inr rfl) rfl rfl) ?_
  refine AL.nil ?_
  refine AWP.seq ?_
  refine AWP.region_lit ?_
  refine AL.cons rfl (AOp.buildSliceA (es := []) (es' := GType.trs ([])) (cs := []) rfl rfl el30 zr32 rfl rfl (by (repeat' (first | exact PV.Le.refl _ | exact LeL.nil | exact PV.Le.nil _ | exact PV.Le.acc _ _ _ | apply LeL.cons | apply PV.Le.agg | apply PV.Le.tup))) rfl (by simp [GType.cs]) (by decide) rfl (by decide) (by simp [GType.trs_map, GType.tr_cs])) ?_
  refine AL.cons rfl (AOp.move (.inr rfl) rfl rfl) ?_
  refine AL.nil ?_
  refine AWP.seq ?_
  refine AWP.seq ?_
  refine AWP.region_lit ?_
  refine AL.cons rfl (AOp.move (.inr rfl) rfl rfl) ?_
  refine AL.nil ?_
  refine AWP.fact (lk_lenN 3 rfl rfl (GType.trs_len _)) (fun hl5 => ?_)
  refine AWP.cut (ι := (List GType)) (fun v4 => sl4Copies_R1 fu r_sl4Copy r_sl4Copies plist = some (.inr v4)) (fun v4 => ⟨[(2, .nil), (3, .acc 3 (GType.trs (v4)) 0)], ⟨[], [⟨32, 3, GType.trs (v4), false⟩]⟩⟩) (by repeat' (first | exact qcEnds | exact ncAWP | exact ncRound | exact ncEx | apply qcThen | apply qcBlock | apply qcCut)) ?_ ?_
  · skip
    refine AWP.block ?_
    refine AWP.loopR (ι := Nat × ((List GType))) (fun (i2, v4) => sl4Copies_R1 fu r_sl4Copy r_sl4Copies plist = loopN (sl4Copies_F1 fu r_sl4Copy r_sl4Copies plist) (plist.length - i2) i2 v4) (fun (i2, v4) => ⟨[(0, .t (.row 3 (GType.trs (plist)))), (2, .nil), (3, .acc 3 (GType.trs (v4)) 0), (4, .t (.leaf (.int .i64 (((i2 : Nat) : Int)))))], ⟨[], [⟨32, 3, GType.trs (v4), false⟩]⟩⟩) (fun (i2, v4) => plist.length - i2) (0, ([])) ?_ ?_ ?_
    · exact rfl
    · skip
      exact Wk.mk (StLe.mk' trivial (by first | rfl | simp)) (keeps_nil hC) ⟨⟨_, rfl, .refl _, rfl⟩, ⟨⟨_, rfl, .refl _, rfl⟩, ⟨⟨_, rfl, by (repeat' (first | exact PV.Le.refl _ | exact LeL.nil | exact PV.Le.nil _ | exact PV.Le.acc _ _ _ | apply LeL.cons | apply PV.Le.agg | apply PV.Le.tup)), rfl⟩, ⟨⟨_, rfl, by (repeat' (first | exact PV.Le.refl _ | exact LeL.nil | exact PV.Le.nil _ | exact PV.Le.acc _ _ _ | apply LeL.cons | apply PV.Le.agg | apply PV.Le.tup)), rfl⟩, trivial⟩⟩⟩⟩
    · rintro ⟨i2, v4⟩ hJ6
      refine AWP.seq ?_
      refine AWP.seq ?_
      refine AWP.region_lit ?_
      refine AL.cons rfl (AOp.move (.inl rfl) rfl rfl) ?_
      refine AL.cons rfl (AOp.move (.inl rfl) rfl rfl) ?_
      refine AL.cons rfl (AOp.lenN rfl rfl rfl rfl el30 (GType.trs_len _)) ?_
      refine AL.cons rfl (AOp.lss rfl rfl rfl rfl) ?_
      refine AL.nil ?_
      refine AWP.cond rfl (fun h7 => ?_) (fun h7 => ?_)
      · skip
        have h7l : i2 < plist.length := nat_lt_of2 h7
        have h7n := nat_lt_of h7
        refine AWP.skip ?_
        refine AWP.seq ?_
        refine AWP.block ?_
        refine AWP.region_lit ?_
        refine AL.cons rfl (AOp.move (.inl rfl) rfl rfl) ?_
        refine AL.cons rfl (AOp.move (.inl rfl) rfl rfl) ?_
        refine AL.cons rfl (AOp.move (.inl rfl) rfl rfl) ?_
        refine AL.cons rfl (AOp.index (k := i2) rfl rfl rfl rfl rfl (GType.trs_at h7n) el30) ?_
        refine AL.cons rfl (AOp.loadEptr (ds := [.leaf (.int .i64 ((atD plist i2).gKind)), .leaf (.string ((atD plist i2).gName)), .row 3 (GType.trs ((atD plist i2).gArgs))]) rfl rfl rfl sh32 rfl rfl) ?_
        rcases hq8 : r_sl4Copy (atD plist i2) with _ | x9
        · skip
          have e10 : (sl4Copies_F1 fu r_sl4Copy r_sl4Copies plist) i2 v4 = none := bdN hq8
          have e11 : sl4Copies_R1 fu r_sl4Copy r_sl4Copies plist = none := loopN_non h7l hJ6 e10
          have e12 : sl4Copies_G fu r_sl4Copy r_sl4Copies plist = none := soN e11
          exact none_some H e12
        · skip
          refine AL.cons rfl (AOp.callF (res := (GType.pv x9)) (ps := [_]) rfl rfl Try.func170 (by kernel_rfl) rfl rfl (by (repeat' (first | exact PV.Le.refl _ | exact LeL.nil | exact PV.Le.nil _ | exact PV.Le.acc _ _ _ | apply LeL.cons | apply PV.Le.agg | apply PV.Le.tup))) rfl rfl (h_sl4Copy (atD plist i2) _ hq8)) ?_
          refine AL.cons rfl (AOp.buildSliceE (es := [GType.cs x9]) (es' := GType.trs (([x9] : List GType))) (cs := [.t (.leaf (.int .i64 (x9.gKind))), .t (.leaf (.string (x9.gName))), .t (.row 3 (GType.trs (x9.gArgs)))]) rfl rfl el30 zr32 rfl rfl (by (repeat' (first | exact PV.Le.refl _ | exact LeL.nil | exact PV.Le.nil _ | exact PV.Le.acc _ _ _ | apply LeL.cons | apply PV.Le.agg | apply PV.Le.tup))) rfl (by simp [GType.cs]) (by decide) rfl (by decide) (by simp [GType.trs_map, GType.tr_cs])) ?_
          rcases Classical.em ((v4).length + (([x9] : List GType)).length ≤ 68719476736) with hg13 | hg13
          · skip
            refine AL.cons rfl (AOp.appendE (es3 := GType.trs (v4 ++ ([x9] : List GType))) rfl rfl rfl rfl rfl rfl rfl rfl rfl (fun e he => by rw [GType.trs_map] at he; obtain ⟨x, _, rfl⟩ := List.mem_map.1 he; rw [GType.tr_cs]; rfl) el30 ze30 (by decide) (by rw [GType.trs_len, GType.trs_len]; exact room_le hg13 (by decide)) (by rw [GType.trs_map, GType.trs_map, GType.trs_map, List.map_append])) ?_
            refine AL.cons rfl (AOp.move (.inr rfl) rfl rfl) ?_
            refine AL.nil ?_
            refine AWP.region_lit ?_
            refine AL.cons rfl (AOp.move (.inl rfl) rfl rfl) ?_
            refine AL.cons rfl (AOp.addI rfl rfl rfl rfl (c := ((i2 + 1 : Nat) : Int)) (by omega) (by omega)) ?_
            refine AL.cons rfl (AOp.move (.inr rfl) rfl rfl) ?_
            refine AL.nil ?_
            have e14 : (sl4Copies_F1 fu r_sl4Copy r_sl4Copies plist) i2 v4 = some (.next (v4 ++ ([x9] : List GType))) := bdS hq8 (gdT hg13 (rfl))
            refine ⟨(i2 + 1, (v4 ++ ([x9] : List GType))), loopN_next h7l hJ6 e14, ?_, ?_⟩
            · skip
              exact Wk.mk (StLe.mk' trivial (by first | rfl | simp)) (keeps_nil hC) ⟨⟨_, rfl, .refl _, rfl⟩, ⟨⟨_, rfl, .refl _, rfl⟩, ⟨⟨_, rfl, by (repeat' (first | exact PV.Le.refl _ | exact LeL.nil | exact PV.Le.nil _ | exact PV.Le.acc _ _ _ | apply LeL.cons | apply PV.Le.agg | apply PV.Le.tup)), rfl⟩, ⟨⟨_, rfl, by (repeat' (first | exact PV.Le.refl _ | exact LeL.nil | exact PV.Le.nil _ | exact PV.Le.acc _ _ _ | apply LeL.cons | apply PV.Le.agg | apply PV.Le.tup)), rfl⟩, trivial⟩⟩⟩⟩
            · dsimp only; omega
          · skip
            have e15 : (sl4Copies_F1 fu r_sl4Copy r_sl4Copies plist) i2 v4 = none := bdS hq8 (gdF hg13)
            have e16 : sl4Copies_R1 fu r_sl4Copy r_sl4Copies plist = none := loopN_non h7l hJ6 e15
            have e17 : sl4Copies_G fu r_sl4Copy r_sl4Copies plist = none := soN e16
            exact none_some H e17
      · skip
        have h7l : plist.length ≤ i2 := nat_ge_of2 h7
        refine AWP.exit ?_
        refine ⟨v4, loopN_end h7l hJ6, ?_⟩
        exact Wk.mk (StLe.mk' trivial (by first | rfl | simp)) (keeps_nil hC) ⟨⟨_, rfl, .refl _, rfl⟩, ⟨⟨_, rfl, .refl _, rfl⟩, trivial⟩⟩
  · rintro v4 hR18
    refine AWP.seq ?_
    refine AWP.region_lit ?_
    refine AL.cons rfl (AOp.move (.inl rfl) rfl rfl) ?_
    refine AL.cons rfl (AOp.move (.inr rfl) rfl rfl) ?_
    refine AL.nil ?_
    refine AWP.ret ?_
    have e19 : sl4Copies_G fu r_sl4Copy r_sl4Copies plist = some v4 := soR hR18 (rfl)
    have hz : v4 = r := Option.some.inj (e19.symm.trans H)
    subst hz
    exact Ends.mk (ps := [_]) (by first | exact .inr rfl | exact .inl rfl) ⟨rfl, trivial⟩ rfl (StLe.mk' (st' := ⟨[], []⟩) trivial rfl) (keeps_nil hC) (q := (.t (.row 3 (GType.trs (v4))) : PV)) (by (repeat' (first | exact PV.Le.refl _ | exact LeL.nil | exact PV.Le.nil _ | exact PV.Le.acc _ _ _ | apply LeL.cons | apply PV.Le.agg | apply PV.Le.tup))) rfl ⟨rfl, rfl⟩
mutual
noncomputable def sl4Copy_M : Nat → GType → Option GType
  | 0, _ => none
  | fu + 1, pt => sl4Copy_G fu (sl4Copy_M fu) (sl4Copies_M fu) pt
noncomputable def sl4Copies_M : Nat → (List GType) → Option ((List GType))
  | 0, _ => none
  | fu + 1, plist => sl4Copies_G fu (sl4Copy_M fu) (sl4Copies_M fu) plist
end
theorem sl4Copy_all (fu : Nat) : (∀ (pt : GType) (r : GType), sl4Copy_M fu pt = some r → AFun Try.prog 170 [(GType.pv pt)] ((GType.pv r) : PV)) ∧ (∀ (plist : List GType) (r : (List GType)), sl4Copies_M fu plist = some r → AFun Try.prog 204 [.t (.row 3 (GType.trs (plist)))] (.t (.row 3 (GType.trs (r))) : PV)) := by
  induction fu with
  | zero => exact ⟨(fun pt r H => by simp only [sl4Copy_M] at H; cases H), (fun plist r H => by simp only [sl4Copies_M] at H; cases H)⟩
  | succ fu ih => exact ⟨(fun pt r H => by simp only [sl4Copy_M] at H; exact sl4Copy_step (sl4Copy_M fu) (sl4Copies_M fu) fu ih.1 ih.2 pt r H), (fun plist r H => by simp only [sl4Copies_M] at H; exact sl4Copies_step (sl4Copy_M fu) (sl4Copies_M fu) fu ih.1 ih.2 plist r H)⟩
theorem sl4Copy_ok (fu : Nat) (pt : GType) (r : GType) (H : sl4Copy_M fu pt = some r) : AFun Try.prog 170 [(GType.pv pt)] ((GType.pv r) : PV) := (sl4Copy_all fu).1 pt r H
theorem sl4Copies_ok (fu : Nat) (plist : List GType) (r : (List GType)) (H : sl4Copies_M fu plist = some r) : AFun Try.prog 204 [.t (.row 3 (GType.trs (plist)))] (.t (.row 3 (GType.trs (r))) : PV) := (sl4Copy_all fu).2 plist r H

noncomputable def iEqualType_G (fu : Nat) (r_iEqualType : GType → GType → Option Bool) (r_gEqualFunc_Type__iEqualType : (List GType) → (List GType) → Option Bool) (pa : GType) (pb : GType) : Option Bool :=
 sw (decide ((pa.gKind : Int) = pb.gKind))
 (sw (decide (pa.gName = pb.gName))
 (bd (r_gEqualFunc_Type__iEqualType pa.gArgs pb.gArgs) (fun x6 =>
 some x6))
 (some false))
 (some false)
set_option maxRecDepth 100000 in
set_option maxHeartbeats 4000000 in
theorem iEqualType_step (r_iEqualType : GType → GType → Option Bool) (r_gEqualFunc_Type__iEqualType : (List GType) → (List GType) → Option Bool) (fu : Nat) (h_iEqualType : ∀ (pa : GType) (pb : GType) (r : Bool), r_iEqualType pa pb = some r → AFun Try.prog 130 [(GType.pv pa), (GType.pv pb)] (.t (.leaf (.bool (r))) : PV)) (h_gEqualFunc_Type__iEqualType : ∀ (ps1 : List GType) (ps2 : List GType) (r : Bool), r_gEqualFunc_Type__iEqualType ps1 ps2 = some r → AFun Try.prog 178 [.t (.row 3 (GType.trs (ps1))), .t (.row 3 (GType.trs (ps2))), .fn 130 []] (.t (.leaf (.bool (r))) : PV)) (pa : GType) (pb : GType) (r : Bool) (H : iEqualType_G fu r_iEqualType r_gEqualFunc_Type__iEqualType pa pb = some r) : AFun Try.prog 130 [(GType.pv pa), (GType.pv pb)] (.t (.leaf (.bool (r))) : PV) := by
  refine ACalls.intro Try.func130 rfl (by first | decide | (simp; done) | (simp; decide)) ?_
  intro C hC
  refine AWP.seq ?_
  refine AWP.region_lit ?_
  refine AL.cons rfl (AOp.box (cs := [.t (.leaf (.int .i64 (pa.gKind))), .t (.leaf (.string (pa.gName))), .t (.row 3 (GType.trs (pa.gArgs)))]) rfl rfl rfl rfl rfl) ?_
  refine AL.cons rfl (AOp.box (cs := [.t (.leaf (.int .i64 (pb.gKind))), .t (.leaf (.string (pb.gName))), .t (.row 3 (GType.trs (pb.gArgs)))]) rfl rfl rfl rfl rfl) ?_
  refine AL.cons rfl (AOp.move (.inr rfl) rfl rfl) ?_
  refine AL.nil ?_
  refine AWP.seq ?_
  refine AWP.region_lit ?_
  refine AL.cons rfl (AOp.fieldPtr (k := 0) (d := 0) (e := 0) rfl rfl rfl fo32_0) ?_
  refine AL.cons rfl (AOp.loadPtr1 rfl rfl rfl rfl sh3 rfl) ?_
  refine AL.cons rfl (AOp.fieldPtr (k := 1) (d := 0) (e := 0) rfl rfl rfl fo32_0) ?_
  refine AL.cons rfl (AOp.loadPtr1 rfl rfl rfl rfl sh3 rfl) ?_
  refine AL.cons rfl (AOp.eqlI rfl rfl rfl rfl) ?_
  refine AL.cons rfl (AOp.move (.inl rfl) rfl rfl) ?_
  refine AL.splitB 10 rfl (fun g1 => ?_) (fun g1 => ?_)
  · skip
    refine AL.cons_gv rfl rfl rfl g1 (AOp.fieldPtr (k := 0) (d := 0) (e := 1) rfl rfl rfl fo32_1) ?_
    refine AL.cons_gv rfl rfl rfl g1 (AOp.loadPtr1 rfl rfl rfl rfl sh9 rfl) ?_
    refine AL.cons_gv rfl rfl rfl g1 (AOp.fieldPtr (k := 1) (d := 0) (e := 1) rfl rfl rfl fo32_1) ?_
    refine AL.cons_gv rfl rfl rfl g1 (AOp.loadPtr1 rfl rfl rfl rfl sh9 rfl) ?_
    refine AL.cons_gv rfl rfl rfl g1 (AOp.eqlS rfl rfl rfl rfl) ?_
    refine AL.cons rfl (AOp.pickT rfl rfl rfl g1 rfl) ?_
    refine AL.cons rfl (AOp.move (.inl rfl) rfl rfl) ?_
    refine AL.splitB 17 rfl (fun g2 => ?_) (fun g2 => ?_)
    · skip
      refine AL.cons_gv rfl rfl rfl g2 (AOp.fieldPtr (k := 0) (d := 0) (e := 2) rfl rfl rfl fo32_2) ?_
      refine AL.cons_gv rfl rfl rfl g2 (AOp.loadPtr1 rfl rfl rfl rfl sh30 rfl) ?_
      refine AL.fact (lk_lenN 19 rfl rfl (GType.trs_len _)) (fun hl3 => ?_)
      refine AL.cons_gv rfl rfl rfl g2 (AOp.fieldPtr (k := 1) (d := 0) (e := 2) rfl rfl rfl fo32_2) ?_
      refine AL.cons_gv rfl rfl rfl g2 (AOp.loadPtr1 rfl rfl rfl rfl sh30 rfl) ?_
      refine AL.fact (lk_lenN 21 rfl rfl (GType.trs_len _)) (fun hl4 => ?_)
      rcases hq5 : r_gEqualFunc_Type__iEqualType pa.gArgs pb.gArgs with _ | x6
      · skip
        have e7 : iEqualType_G fu r_iEqualType r_gEqualFunc_Type__iEqualType pa pb = none := swT g1 (swT g2 (bdN hq5))
        exact none_some H e7
      · skip
        refine AL.cons_gv rfl rfl rfl g2 (AOp.callF (res := .t (.leaf (.bool (x6)))) (ps := [_, _, _]) rfl rfl Try.func178 (by kernel_rfl) rfl rfl (by (repeat' (first | exact PV.Le.refl _ | exact LeL.nil | exact PV.Le.nil _ | exact PV.Le.acc _ _ _ | apply LeL.cons | apply PV.Le.agg | apply PV.Le.tup))) rfl rfl (h_gEqualFunc_Type__iEqualType pa.gArgs pb.gArgs _ hq5)) ?_
        refine AL.cons rfl (AOp.pickT rfl rfl rfl g2 rfl) ?_
        refine AL.cons rfl (AOp.move (.inr rfl) rfl rfl) ?_
        refine AL.nil ?_
        refine AWP.ret ?_
        have e8 : iEqualType_G fu r_iEqualType r_gEqualFunc_Type__iEqualType pa pb = some x6 := swT g1 (swT g2 (bdS hq5 (rfl)))
        have hz : x6 = r := Option.some.inj (e8.symm.trans H)
        subst hz
        exact Ends.mk (ps := [_]) (by first | exact .inr rfl | exact .inl rfl) ⟨rfl, trivial⟩ rfl (StLe.mk' (st' := ⟨[], []⟩) trivial rfl) (keeps_nil hC) (q := (.t (.leaf (.bool (x6))) : PV)) (by (repeat' (first | exact PV.Le.refl _ | exact LeL.nil | exact PV.Le.nil _ | exact PV.Le.acc _ _ _ | apply LeL.cons | apply PV.Le.agg | apply PV.Le.tup))) rfl ⟨rfl, rfl⟩
    · skip
      refine AL.skip_v rfl rfl rfl g2 rfl ?_
      refine AL.skip_v rfl rfl rfl g2 rfl ?_
      refine AL.skip_v rfl rfl rfl g2 rfl ?_
      refine AL.skip_v rfl rfl rfl g2 rfl ?_
      refine AL.skip_v rfl rfl rfl g2 rfl ?_
      refine AL.cons rfl (AOp.pickF rfl rfl rfl g2 rfl) ?_
      refine AL.cons rfl (AOp.move (.inr rfl) rfl rfl) ?_
      refine AL.nil ?_
      refine AWP.ret ?_
      have e9 : iEqualType_G fu r_iEqualType r_gEqualFunc_Type__iEqualType pa pb = some false := swT g1 (swF g2 (rfl))
      have hz : false = r := Option.some.inj (e9.symm.trans H)
      subst hz
      exact Ends.mk (ps := [_]) (by first | exact .inr rfl | exact .inl rfl) ⟨rfl, trivial⟩ rfl (StLe.mk' (st' := ⟨[], []⟩) trivial rfl) (keeps_nil hC) (q := (.t (.leaf (.bool (false))) : PV)) (by (repeat' (first | exact PV.Le.refl _ | exact LeL.nil | exact PV.Le.nil _ | exact PV.Le.acc _ _ _ | apply LeL.cons | apply PV.Le.agg | apply PV.Le.tup))) rfl ⟨rfl, rfl⟩
  · skip
    refine AL.skip_v rfl rfl rfl g1 rfl ?_
    refine AL.skip_v rfl rfl rfl g1 rfl ?_
    refine AL.skip_v rfl rfl rfl g1 rfl ?_
    refine AL.skip_v rfl rfl rfl g1 rfl ?_
    refine AL.skip_v rfl rfl rfl g1 rfl ?_
    refine AL.cons rfl (AOp.pickF rfl rfl rfl g1 rfl) ?_
    refine AL.cons rfl (AOp.move (.inl rfl) rfl rfl) ?_
    refine AL.skip_v rfl rfl rfl rfl rfl ?_
    refine AL.skip_v rfl rfl rfl rfl rfl ?_
    refine AL.skip_v rfl rfl rfl rfl rfl ?_
    refine AL.skip_v rfl rfl rfl rfl rfl ?_
    refine AL.skip_v rfl rfl rfl rfl rfl ?_
    refine AL.cons rfl (AOp.pickF rfl rfl rfl rfl rfl) ?_
    refine AL.cons rfl (AOp.move (.inr rfl) rfl rfl) ?_
    refine AL.nil ?_
    refine AWP.ret ?_
    have e10 : iEqualType_G fu r_iEqualType r_gEqualFunc_Type__iEqualType pa pb = some false := swF g1 (rfl)
    have hz : false = r := Option.some.inj (e10.symm.trans H)
    subst hz
    exact Ends.mk (ps := [_]) (by first | exact .inr rfl | exact .inl rfl) ⟨rfl, trivial⟩ rfl (StLe.mk' (st' := ⟨[], []⟩) trivial rfl) (keeps_nil hC) (q := (.t (.leaf (.bool (false))) : PV)) (by (repeat' (first | exact PV.Le.refl _ | exact LeL.nil | exact PV.Le.nil _ | exact PV.Le.acc _ _ _ | apply LeL.cons | apply PV.Le.agg | apply PV.Le.tup))) rfl ⟨rfl, rfl⟩
noncomputable def gEqualFunc_Type__iEqualType_F1 (fu : Nat) (r_iEqualType : GType → GType → Option Bool) (r_gEqualFunc_Type__iEqualType : (List GType) → (List GType) → Option Bool) (ps1 : List GType) (ps2 : List GType) : Nat → Unit → Option (LR Unit Bool) :=
 fun i5 _ => gd (i5 < (ps2).length)
 (bd (r_iEqualType (atD ps1 i5) (atD ps2 i5)) (fun x10 =>
 sw (!(x10))
 (some (.ret false))
 (some (.next ()))))
noncomputable def gEqualFunc_Type__iEqualType_R1 (fu : Nat) (r_iEqualType : GType → GType → Option Bool) (r_gEqualFunc_Type__iEqualType : (List GType) → (List GType) → Option Bool) (ps1 : List GType) (ps2 : List GType) : Option (Bool ⊕ Unit) :=
 loopN (gEqualFunc_Type__iEqualType_F1 fu r_iEqualType r_gEqualFunc_Type__iEqualType ps1 ps2) (ps1.length - 0) 0 ()
noncomputable def gEqualFunc_Type__iEqualType_G (fu : Nat) (r_iEqualType : GType → GType → Option Bool) (r_gEqualFunc_Type__iEqualType : (List GType) → (List GType) → Option Bool) (ps1 : List GType) (ps2 : List GType) : Option Bool :=
 sw (!decide ((((ps1.length : Nat) : Int) : Int) = ((ps2.length : Nat) : Int)))
 (some false)
 (so (gEqualFunc_Type__iEqualType_R1 fu r_iEqualType r_gEqualFunc_Type__iEqualType ps1 ps2) (fun _ =>
 some true))
set_option maxRecDepth 100000 in
set_option maxHeartbeats 4000000 in
theorem gEqualFunc_Type__iEqualType_step (r_iEqualType : GType → GType → Option Bool) (r_gEqualFunc_Type__iEqualType : (List GType) → (List GType) → Option Bool) (fu : Nat) (h_iEqualType : ∀ (pa : GType) (pb : GType) (r : Bool), r_iEqualType pa pb = some r → AFun Try.prog 130 [(GType.pv pa), (GType.pv pb)] (.t (.leaf (.bool (r))) : PV)) (h_gEqualFunc_Type__iEqualType : ∀ (ps1 : List GType) (ps2 : List GType) (r : Bool), r_gEqualFunc_Type__iEqualType ps1 ps2 = some r → AFun Try.prog 178 [.t (.row 3 (GType.trs (ps1))), .t (.row 3 (GType.trs (ps2))), .fn 130 []] (.t (.leaf (.bool (r))) : PV)) (ps1 : List GType) (ps2 : List GType) (r : Bool) (H : gEqualFunc_Type__iEqualType_G fu r_iEqualType r_gEqualFunc_Type__iEqualType ps1 ps2 = some r) : AFun Try.prog 178 [.t (.row 3 (GType.trs (ps1))), .t (.row 3 (GType.trs (ps2))), .fn 130 []] (.t (.leaf (.bool (r))) : PV) := by
  refine ACalls.intro Try.func178 rfl (by first | decide | (simp; done) | (simp; decide)) ?_
  intro C hC
  refine AWP.fact (lk_lenN 0 rfl rfl (GType.trs_len _)) (fun hl1 => ?_)
  refine AWP.fact (lk_lenN 1 rfl rfl (GType.trs_len _)) (fun hl2 => ?_)
  refine AWP.seq ?_
  refine AWP.region_lit ?_
  refine AL.cons rfl (AOp.move (.inr rfl) rfl rfl) ?_
  refine AL.nil ?_
  refine AWP.seq ?_
  refine AWP.seq ?_
  refine AWP.region_lit ?_
  refine AL.cons rfl (AOp.move (.inl rfl) rfl rfl) ?_
  refine AL.cons rfl (AOp.lenN rfl rfl rfl rfl el30 (GType.trs_len _)) ?_
  refine AL.cons rfl (AOp.move (.inl rfl) rfl rfl) ?_
  refine AL.cons rfl (AOp.lenN rfl rfl rfl rfl el30 (GType.trs_len _)) ?_
  refine AL.cons rfl (AOp.neqI rfl rfl rfl rfl) ?_
  refine AL.nil ?_
  refine AWP.cond rfl (fun h3 => ?_) (fun h3 => ?_)
  · skip
    refine AWP.seq ?_
    refine AWP.region_lit ?_
    refine AL.cons rfl (AOp.move (.inr rfl) rfl rfl) ?_
    refine AL.nil ?_
    refine AWP.ret ?_
    have e4 : gEqualFunc_Type__iEqualType_G fu r_iEqualType r_gEqualFunc_Type__iEqualType ps1 ps2 = some false := swT h3 (rfl)
    have hz : false = r := Option.some.inj (e4.symm.trans H)
    subst hz
    exact Ends.mk (ps := [_]) (by first | exact .inr rfl | exact .inl rfl) ⟨rfl, trivial⟩ rfl (StLe.mk' (st' := ⟨[], []⟩) trivial rfl) (keeps_nil hC) (q := (.t (.leaf (.bool (false))) : PV)) (by (repeat' (first | exact PV.Le.refl _ | exact LeL.nil | exact PV.Le.nil _ | exact PV.Le.acc _ _ _ | apply LeL.cons | apply PV.Le.agg | apply PV.Le.tup))) rfl ⟨rfl, rfl⟩
  · skip
    refine AWP.skip ?_
    refine AWP.seq ?_
    refine AWP.seq ?_
    refine AWP.region_lit ?_
    refine AL.cons rfl (AOp.move (.inl rfl) rfl rfl) ?_
    refine AL.cons rfl (AOp.lenN rfl rfl rfl rfl el30 (GType.trs_len _)) ?_
    refine AL.cons rfl (AOp.move (.inl rfl) rfl rfl) ?_
    refine AL.nil ?_
    refine AWP.cut (ι := Unit) (fun _ => gEqualFunc_Type__iEqualType_R1 fu r_iEqualType r_gEqualFunc_Type__iEqualType ps1 ps2 = some (.inr ())) (fun _ => ⟨[(6, .t (.leaf (.bool (false))))], ⟨[], []⟩⟩) (by repeat' (first | exact qcEnds | exact ncAWP | exact ncRound | exact ncEx | apply qcThen | apply qcBlock | apply qcCut)) ?_ ?_
    · skip
      refine AWP.block ?_
      refine AWP.loopR (ι := Nat × Unit) (fun (i5, _) => gEqualFunc_Type__iEqualType_R1 fu r_iEqualType r_gEqualFunc_Type__iEqualType ps1 ps2 = loopN (gEqualFunc_Type__iEqualType_F1 fu r_iEqualType r_gEqualFunc_Type__iEqualType ps1 ps2) (ps1.length - i5) i5 ()) (fun (i5, _) => ⟨[(1, .t (.row 3 (GType.trs (ps2)))), (2, .fn 130 []), (6, .t (.leaf (.bool (false)))), (15, .t (.row 3 (GType.trs (ps1)))), (16, .t (.leaf (.int .i64 (((ps1.length : Nat) : Int))))), (17, .t (.leaf (.int .i64 (((i5 : Nat) : Int)))))], ⟨[], []⟩⟩) (fun (i5, _) => ps1.length - i5) (0, ()) ?_ ?_ ?_
      · exact rfl
      · skip
        exact Wk.mk (StLe.mk' trivial rfl) (keeps_nil hC) ⟨⟨_, rfl, .refl _, rfl⟩, ⟨⟨_, rfl, .refl _, rfl⟩, ⟨⟨_, rfl, .refl _, rfl⟩, ⟨⟨_, rfl, .refl _, rfl⟩, ⟨⟨_, rfl, .refl _, rfl⟩, ⟨⟨_, rfl, by (repeat' (first | exact PV.Le.refl _ | exact LeL.nil | exact PV.Le.nil _ | exact PV.Le.acc _ _ _ | apply LeL.cons | apply PV.Le.agg | apply PV.Le.tup)), rfl⟩, trivial⟩⟩⟩⟩⟩⟩
      · rintro ⟨i5, ⟨⟩⟩ hJ6
        refine AWP.seq ?_
        refine AWP.region_lit ?_
        refine AL.cons rfl (AOp.lss rfl rfl rfl rfl) ?_
        refine AL.nil ?_
        refine AWP.seq ?_
        refine AWP.cond rfl (fun h7 => ?_) (fun h7 => ?_)
        · skip
          have h7l : i5 < ps1.length := nat_lt_of2 h7
          have h7n := nat_lt_of h7
          refine AWP.skip ?_
          refine AWP.seq ?_
          refine AWP.block ?_
          refine AWP.seq ?_
          refine AWP.region_lit ?_
          refine AL.cons rfl (AOp.move (.inl rfl) rfl rfl) ?_
          refine AL.cons rfl (AOp.index (k := i5) rfl rfl rfl rfl rfl (GType.trs_at h7n) el30) ?_
          refine AL.cons rfl (AOp.loadEptr (ds := [.leaf (.int .i64 ((atD ps1 i5).gKind)), .leaf (.string ((atD ps1 i5).gName)), .row 3 (GType.trs ((atD ps1 i5).gArgs))]) rfl rfl rfl sh32 rfl rfl) ?_
          refine AL.cons rfl (AOp.alloc rfl rfl zr32) ?_
          refine AL.cons rfl (AOp.move (.inr rfl) rfl rfl) ?_
          refine AL.cons rfl (AOp.storePtr (cs := [.t (.leaf (.int .i64 ((atD ps1 i5).gKind))), .t (.leaf (.string ((atD ps1 i5).gName))), .t (.row 3 (GType.trs ((atD ps1 i5).gArgs)))]) (ds := [.t (.leaf (.int .i64 ((atD ps1 i5).gKind))), .t (.leaf (.string ((atD ps1 i5).gName))), .t (.row 3 (GType.trs ((atD ps1 i5).gArgs)))]) rfl rfl rfl rfl rfl rfl rfl sz32 (Nat.le_of_ble_eq_true rfl) rfl) ?_
          refine AL.nil ?_
          refine AWP.seq ?_
          refine AWP.region_lit ?_
          refine AL.cons rfl (AOp.move (.inl rfl) rfl rfl) ?_
          refine AL.cons rfl (AOp.move (.inl rfl) rfl rfl) ?_
          rcases Classical.em (i5 < (ps2).length) with hg8 | hg8
          · skip
            refine AL.cons rfl (AOp.index (k := i5) rfl rfl rfl rfl rfl (GType.trs_at hg8) el30) ?_
            refine AL.cons rfl (AOp.loadEptr (ds := [.leaf (.int .i64 ((atD ps2 i5).gKind)), .leaf (.string ((atD ps2 i5).gName)), .row 3 (GType.trs ((atD ps2 i5).gArgs))]) rfl rfl rfl sh32 rfl rfl) ?_
            refine AL.cons rfl (AOp.alloc rfl rfl zr32) ?_
            refine AL.cons rfl (AOp.storePtr (cs := [.t (.leaf (.int .i64 ((atD ps2 i5).gKind))), .t (.leaf (.string ((atD ps2 i5).gName))), .t (.row 3 (GType.trs ((atD ps2 i5).gArgs)))]) (ds := [.t (.leaf (.int .i64 ((atD ps2 i5).gKind))), .t (.leaf (.string ((atD ps2 i5).gName))), .t (.row 3 (GType.trs ((atD ps2 i5).gArgs)))]) rfl rfl rfl rfl rfl rfl rfl sz32 (Nat.le_of_ble_eq_true rfl) rfl) ?_
            refine AL.nil ?_
            refine AWP.seq ?_
            refine AWP.region_lit ?_
            refine AL.cons rfl (AOp.move (.inl rfl) rfl rfl) ?_
            refine AL.cons rfl (AOp.loadPtr (cs := [.t (.leaf (.int .i64 ((atD ps1 i5).gKind))), .t (.leaf (.string ((atD ps1 i5).gName))), .t (.row 3 (GType.trs ((atD ps1 i5).gArgs)))]) rfl rfl rfl rfl sh32 rfl rfl) ?_
            refine AL.cons rfl (AOp.loadPtr (cs := [.t (.leaf (.int .i64 ((atD ps2 i5).gKind))), .t (.leaf (.string ((atD ps2 i5).gName))), .t (.row 3 (GType.trs ((atD ps2 i5).gArgs)))]) rfl rfl rfl rfl sh32 rfl rfl) ?_
            rcases hq9 : r_iEqualType (atD ps1 i5) (atD ps2 i5) with _ | x10
            · skip
              have e11 : (gEqualFunc_Type__iEqualType_F1 fu r_iEqualType r_gEqualFunc_Type__iEqualType ps1 ps2) i5 () = none := gdT hg8 (bdN hq9)
              have e12 : gEqualFunc_Type__iEqualType_R1 fu r_iEqualType r_gEqualFunc_Type__iEqualType ps1 ps2 = none := loopN_non h7l hJ6 e11
              have e13 : gEqualFunc_Type__iEqualType_G fu r_iEqualType r_gEqualFunc_Type__iEqualType ps1 ps2 = none := swF h3 (soN e12)
              exact none_some H e13
            · skip
              refine AL.cons rfl (AOp.callV (res := .t (.leaf (.bool (x10)))) (ps := [_, _]) (cs := []) rfl rfl rfl Try.func130 (by kernel_rfl) rfl rfl (by (repeat' (first | exact PV.Le.refl _ | exact LeL.nil | exact PV.Le.nil _ | exact PV.Le.acc _ _ _ | apply LeL.cons | apply PV.Le.agg | apply PV.Le.tup))) rfl rfl (h_iEqualType (atD ps1 i5) (atD ps2 i5) _ hq9)) ?_
              refine AL.cons rfl (AOp.notB rfl rfl rfl) ?_
              refine AL.nil ?_
              refine AWP.cond rfl (fun h14 => ?_) (fun h14 => ?_)
              · skip
                refine AWP.seq ?_
                refine AWP.region_lit ?_
                refine AL.cons rfl (AOp.move (.inr rfl) rfl rfl) ?_
                refine AL.nil ?_
                refine AWP.ret ?_
                have e15 : (gEqualFunc_Type__iEqualType_F1 fu r_iEqualType r_gEqualFunc_Type__iEqualType ps1 ps2) i5 () = some (.ret false) := gdT hg8 (bdS hq9 (swT h14 (rfl)))
                have e16 : gEqualFunc_Type__iEqualType_R1 fu r_iEqualType r_gEqualFunc_Type__iEqualType ps1 ps2 = some (.inl false) := loopN_ret h7l hJ6 e15
                have e17 : gEqualFunc_Type__iEqualType_G fu r_iEqualType r_gEqualFunc_Type__iEqualType ps1 ps2 = some false := swF h3 (soL e16)
                have hz : false = r := Option.some.inj (e17.symm.trans H)
                subst hz
                exact Ends.mk (ps := [_]) (by first | exact .inr rfl | exact .inl rfl) ⟨rfl, trivial⟩ rfl (StLe.mk' (st' := ⟨[], []⟩) trivial rfl) (keeps_nil hC) (q := (.t (.leaf (.bool (false))) : PV)) (by (repeat' (first | exact PV.Le.refl _ | exact LeL.nil | exact PV.Le.nil _ | exact PV.Le.acc _ _ _ | apply LeL.cons | apply PV.Le.agg | apply PV.Le.tup))) rfl ⟨rfl, rfl⟩
              · skip
                refine AWP.skip ?_
                refine AWP.region_lit ?_
                refine AL.cons rfl (AOp.addI rfl rfl rfl rfl (c := ((i5 + 1 : Nat) : Int)) (by omega) (by omega)) ?_
                refine AL.cons rfl (AOp.move (.inl rfl) rfl rfl) ?_
                refine AL.nil ?_
                have e18 : (gEqualFunc_Type__iEqualType_F1 fu r_iEqualType r_gEqualFunc_Type__iEqualType ps1 ps2) i5 () = some (.next ()) := gdT hg8 (bdS hq9 (swF h14 (rfl)))
                refine ⟨(i5 + 1, ()), loopN_next h7l hJ6 e18, ?_, ?_⟩
                · skip
                  exact Wk.mk (StLe.mk' trivial rfl) (keeps_nil hC) ⟨⟨_, rfl, .refl _, rfl⟩, ⟨⟨_, rfl, .refl _, rfl⟩, ⟨⟨_, rfl, .refl _, rfl⟩, ⟨⟨_, rfl, .refl _, rfl⟩, ⟨⟨_, rfl, .refl _, rfl⟩, ⟨⟨_, rfl, by (repeat' (first | exact PV.Le.refl _ | exact LeL.nil | exact PV.Le.nil _ | exact PV.Le.acc _ _ _ | apply LeL.cons | apply PV.Le.agg | apply PV.Le.tup)), rfl⟩, trivial⟩⟩⟩⟩⟩⟩
                · dsimp only; omega
          · skip
            have e19 : (gEqualFunc_Type__iEqualType_F1 fu r_iEqualType r_gEqualFunc_Type__iEqualType ps1 ps2) i5 () = none := gdF hg8
            have e20 : gEqualFunc_Type__iEqualType_R1 fu r_iEqualType r_gEqualFunc_Type__iEqualType ps1 ps2 = none := loopN_non h7l hJ6 e19
            have e21 : gEqualFunc_Type__iEqualType_G fu r_iEqualType r_gEqualFunc_Type__iEqualType ps1 ps2 = none := swF h3 (soN e20)
            exact none_some H e21
        · skip
          have h7l : ps1.length ≤ i5 := nat_ge_of2 h7
          refine AWP.exit ?_
          refine ⟨(), loopN_end h7l hJ6, ?_⟩
          exact Wk.mk (StLe.mk' trivial rfl) (keeps_nil hC) ⟨⟨_, rfl, .refl _, rfl⟩, trivial⟩
    · rintro ⟨⟩ hR22
      refine AWP.seq ?_
      refine AWP.region_lit ?_
      refine AL.cons rfl (AOp.move (.inr rfl) rfl rfl) ?_
      refine AL.nil ?_
      refine AWP.ret ?_
      have e23 : gEqualFunc_Type__iEqualType_G fu r_iEqualType r_gEqualFunc_Type__iEqualType ps1 ps2 = some true := swF h3 (soR hR22 (rfl))
      have hz : true = r := Option.some.inj (e23.symm.trans H)
      subst hz
      exact Ends.mk (ps := [_]) (by first | exact .inr rfl | exact .inl rfl) ⟨rfl, trivial⟩ rfl (StLe.mk' (st' := ⟨[], []⟩) trivial rfl) (keeps_nil hC) (q := (.t (.leaf (.bool (true))) : PV)) (by (repeat' (first | exact PV.Le.refl _ | exact LeL.nil | exact PV.Le.nil _ | exact PV.Le.acc _ _ _ | apply LeL.cons | apply PV.Le.agg | apply PV.Le.tup))) rfl ⟨rfl, rfl⟩
mutual
noncomputable def iEqualType_M : Nat → GType → GType → Option Bool
  | 0, _, _ => none
  | fu + 1, pa, pb => iEqualType_G fu (iEqualType_M fu) (gEqualFunc_Type__iEqualType_M fu) pa pb
noncomputable def gEqualFunc_Type__iEqualType_M : Nat → (List GType) → (List GType) → Option Bool
  | 0, _, _ => none
  | fu + 1, ps1, ps2 => gEqualFunc_Type__iEqualType_G fu (iEqualType_M fu) (gEqualFunc_Type__iEqualType_M fu) ps1 ps2
end
theorem iEqualType_all (fu : Nat) : (∀ (pa : GType) (pb : GType) (r : Bool), iEqualType_M fu pa pb = some r → AFun Try.prog 130 [(GType.pv pa), (GType.pv pb)] (.t (.leaf (.bool (r))) : PV)) ∧ (∀ (ps1 : List GType) (ps2 : List GType) (r : Bool), gEqualFunc_Type__iEqualType_M fu ps1 ps2 = some r → AFun Try.prog 178 [.t (.row 3 (GType.trs (ps1))), .t (.row 3 (GType.trs (ps2))), .fn 130 []] (.t (.leaf (.bool (r))) : PV)) := by
  induction fu with
  | zero => exact ⟨(fun pa pb r H => by simp only [iEqualType_M] at H; cases H), (fun ps1 ps2 r H => by simp only [gEqualFunc_Type__iEqualType_M] at H; cases H)⟩
  | succ fu ih => exact ⟨(fun pa pb r H => by simp only [iEqualType_M] at H; exact iEqualType_step (iEqualType_M fu) (gEqualFunc_Type__iEqualType_M fu) fu ih.1 ih.2 pa pb r H), (fun ps1 ps2 r H => by simp only [gEqualFunc_Type__iEqualType_M] at H; exact gEqualFunc_Type__iEqualType_step (iEqualType_M fu) (gEqualFunc_Type__iEqualType_M fu) fu ih.1 ih.2 ps1 ps2 r H)⟩
theorem iEqualType_ok (fu : Nat) (pa : GType) (pb : GType) (r : Bool) (H : iEqualType_M fu pa pb = some r) : AFun Try.prog 130 [(GType.pv pa), (GType.pv pb)] (.t (.leaf (.bool (r))) : PV) := (iEqualType_all fu).1 pa pb r H
theorem gEqualFunc_Type__iEqualType_ok (fu : Nat) (ps1 : List GType) (ps2 : List GType) (r : Bool) (H : gEqualFunc_Type__iEqualType_M fu ps1 ps2 = some r) : AFun Try.prog 178 [.t (.row 3 (GType.trs (ps1))), .t (.row 3 (GType.trs (ps2))), .fn 130 []] (.t (.leaf (.bool (r))) : PV) := (iEqualType_all fu).2 ps1 ps2 r H

noncomputable def icopyType_G (fu : Nat) (r_icopyType : GType → Option GType) (r_icopyTypes : (List GType) → Option ((List GType))) (pt : GType) : Option GType :=
 bd (r_icopyTypes pt.gArgs) (fun x3 =>
 some (GType.mk pt.gKind pt.gName x3))
set_option maxRecDepth 100000 in
set_option maxHeartbeats 4000000 in
theorem icopyType_step (r_icopyType : GType → Option GType) (r_icopyTypes : (List GType) → Option ((List GType))) (fu : Nat) (h_icopyType : ∀ (pt : GType) (r : GType), r_icopyType pt = some r → AFun Try.prog 118 [(GType.pv pt)] ((GType.pv r) : PV)) (h_icopyTypes : ∀ (pl : List GType) (r : (List GType)), r_icopyTypes pl = some r → AFun Try.prog 171 [.t (.row 3 (GType.trs (pl)))] (.t (.row 3 (GType.trs (r))) : PV)) (pt : GType) (r : GType) (H : icopyType_G fu r_icopyType r_icopyTypes pt = some r) : AFun Try.prog 118 [(GType.pv pt)] ((GType.pv r) : PV) := by
  refine ACalls.intro Try.func118 rfl (by first | decide | (simp; done) | (simp; decide)) ?_
  intro C hC
  refine AWP.seq ?_
  refine AWP.region_lit ?_
  refine AL.cons rfl (AOp.box (cs := [.t (.leaf (.int .i64 (pt.gKind))), .t (.leaf (.string (pt.gName))), .t (.row 3 (GType.trs (pt.gArgs)))]) rfl rfl rfl rfl rfl) ?_
  refine AL.cons rfl (AOp.alloc rfl rfl zr32) ?_
  refine AL.nil ?_
  refine AWP.seq ?_
  refine AWP.region_lit ?_
  refine AL.cons rfl (AOp.fieldPtr (k := 0) (d := 0) (e := 2) rfl rfl rfl fo32_2) ?_
  refine AL.cons rfl (AOp.loadPtr1 rfl rfl rfl rfl sh30 rfl) ?_
  refine AL.fact (lk_lenN 4 rfl rfl (GType.trs_len _)) (fun hl1 => ?_)
  rcases hq2 : r_icopyTypes pt.gArgs with _ | x3
  · skip
    have e4 : icopyType_G fu r_icopyType r_icopyTypes pt = none := bdN hq2
    exact none_some H e4
  · skip
    refine AL.cons rfl (AOp.callF (res := .t (.row 3 (GType.trs (x3)))) (ps := [_]) rfl rfl Try.func171 (by kernel_rfl) rfl rfl (by (repeat' (first | exact PV.Le.refl _ | exact LeL.nil | exact PV.Le.nil _ | exact PV.Le.acc _ _ _ | apply LeL.cons | apply PV.Le.agg | apply PV.Le.tup))) rfl rfl (h_icopyTypes pt.gArgs _ hq2)) ?_
    refine AL.cons rfl (AOp.fieldPtr (k := 0) (d := 0) (e := 2) rfl rfl rfl fo32_2) ?_
    refine AL.cons rfl (AOp.storePtr (cs := [.t (.row 3 (GType.trs (x3)))]) (ds := [.t (.leaf (.int .i64 (pt.gKind))), .t (.leaf (.string (pt.gName))), .t (.row 3 (GType.trs (x3)))]) rfl rfl rfl rfl rfl rfl rfl sz30 (Nat.le_of_ble_eq_true rfl) rfl) ?_
    refine AL.nil ?_
    refine AWP.seq ?_
    refine AWP.region_lit ?_
    refine AL.cons rfl (AOp.loadPtr (cs := [.t (.leaf (.int .i64 (pt.gKind))), .t (.leaf (.string (pt.gName))), .t (.row 3 (GType.trs (x3)))]) rfl rfl rfl rfl sh32 rfl rfl) ?_
    refine AL.cons rfl (AOp.storePtr (cs := [.t (.leaf (.int .i64 (pt.gKind))), .t (.leaf (.string (pt.gName))), .t (.row 3 (GType.trs (x3)))]) (ds := [.t (.leaf (.int .i64 (pt.gKind))), .t (.leaf (.string (pt.gName))), .t (.row 3 (GType.trs (x3)))]) rfl rfl rfl rfl rfl rfl rfl sz32 (Nat.le_of_ble_eq_true rfl) rfl) ?_
    refine AL.nil ?_
    refine AWP.ret ?_
    have e5 : icopyType_G fu r_icopyType r_icopyTypes pt = some (GType.mk pt.gKind pt.gName x3) := bdS hq2 (rfl)
    have hz : (GType.mk pt.gKind pt.gName x3) = r := Option.some.inj (e5.symm.trans H)
    subst hz
    exact Ends.mk (ps := [_]) (by first | exact .inr rfl | exact .inl rfl) ⟨⟨_, _, _, rfl, rfl, sh32, rfl, rfl⟩, trivial⟩ rfl (StLe.mk' (st' := ⟨[], []⟩) trivial rfl) (keeps_nil hC) (q := ((GType.pv (GType.mk pt.gKind pt.gName x3)) : PV)) (by (repeat' (first | exact PV.Le.refl _ | exact LeL.nil | exact PV.Le.nil _ | exact PV.Le.acc _ _ _ | apply LeL.cons | apply PV.Le.agg | apply PV.Le.tup))) rfl ⟨rfl, rfl⟩
noncomputable def icopyTypes_F1 (fu : Nat) (r_icopyType : GType → Option GType) (r_icopyTypes : (List GType) → Option ((List GType))) (pl : List GType) : Nat → ((List GType)) → Option (LR ((List GType)) ((List GType))) :=
 fun i3 v4 => bd (r_icopyType (atD pl i3)) (fun x8 =>
 gd (i3 = (v4).length)
 (some (.next (v4 ++ ([x8] : List GType)))))
noncomputable def icopyTypes_R1 (fu : Nat) (r_icopyType : GType → Option GType) (r_icopyTypes : (List GType) → Option ((List GType))) (pl : List GType) : Option (((List GType)) ⊕ ((List GType))) :=
 loopN (icopyTypes_F1 fu r_icopyType r_icopyTypes pl) (pl.length - 0) 0 ([])
noncomputable def icopyTypes_G (fu : Nat) (r_icopyType : GType → Option GType) (r_icopyTypes : (List GType) → Option ((List GType))) (pl : List GType) : Option ((List GType)) :=
 gd (pl.length ≤ 68719476736)
 (so (icopyTypes_R1 fu r_icopyType r_icopyTypes pl) (fun v4 =>
 gd ((v4).length = pl.length)
 (some v4)))
set_option maxRecDepth 100000 in
set_option maxHeartbeats 4000000 in
theorem icopyTypes_step (r_icopyType : GType → Option GType) (r_icopyTypes : (List GType) → Option ((List GType))) (fu : Nat) (h_icopyType : ∀ (pt : GType) (r : GType), r_icopyType pt = some r → AFun Try.prog 118 [(GType.pv pt)] ((GType.pv r) : PV)) (h_icopyTypes : ∀ (pl : List GType) (r : (List GType)), r_icopyTypes pl = some r → AFun Try.prog 171 [.t (.row 3 (GType.trs (pl)))] (.t (.row 3 (GType.trs (r))) : PV)) (pl : List GType) (r : (List GType)) (H : icopyTypes_G fu r_icopyType r_icopyTypes pl = some r) : AFun Try.prog 171 [.t (.row 3 (GType.trs (pl)))] (.t (.row 3 (GType.trs (r))) : PV) := by
  refine ACalls.intro Try.func171 rfl (by first | decide | (simp; done) | (simp; decide)) ?_
  intro C hC
  refine AWP.fact (lk_lenN 0 rfl rfl (GType.trs_len _)) (fun hl1 => ?_)
  refine AWP.seq ?_
  refine AWP.region_lit ?_
  refine AL.cons rfl (AOp.move (.inr rfl) rfl rfl) ?_
  refine AL.nil ?_
  refine AWP.seq ?_
  refine AWP.region_lit ?_
  refine AL.cons rfl (AOp.move (.inl rfl) rfl rfl) ?_
  refine AL.cons rfl (AOp.lenN rfl rfl rfl rfl el30 (GType.trs_len _)) ?_
  rcases Classical.em (pl.length ≤ 68719476736) with hg2 | hg2
  · skip
    refine AL.cons rfl (AOp.makeSlice (N := pl.length) rfl rfl rfl rfl el30 ze30 (by decide) (Nat.le_trans (Nat.mul_le_mul_left _ hg2) (by decide)) (Nat.le_trans hg2 (by decide))) ?_
    refine AL.cons rfl (AOp.move (.inr rfl) rfl rfl) ?_
    refine AL.nil ?_
    refine AWP.seq ?_
    refine AWP.seq ?_
    refine AWP.region_lit ?_
    refine AL.cons rfl (AOp.move (.inl rfl) rfl rfl) ?_
    refine AL.cons rfl (AOp.lenN rfl rfl rfl rfl el30 (GType.trs_len _)) ?_
    refine AL.cons rfl (AOp.move (.inl rfl) rfl rfl) ?_
    refine AL.nil ?_
    refine AWP.cut (ι := (List GType)) (fun v4 => icopyTypes_R1 fu r_icopyType r_icopyTypes pl = some (.inr v4)) (fun v4 => ⟨[(2, .nil), (3, .full 3 (pl.length) 0)], ⟨[], [⟨32, 3, GType.trs (v4), true⟩]⟩⟩) (by repeat' (first | exact qcEnds | exact ncAWP | exact ncRound | exact ncEx | apply qcThen | apply qcBlock | apply qcCut)) ?_ ?_
    · skip
      refine AWP.block ?_
      refine AWP.loopR (ι := Nat × ((List GType))) (fun (i3, v4) => icopyTypes_R1 fu r_icopyType r_icopyTypes pl = loopN (icopyTypes_F1 fu r_icopyType r_icopyTypes pl) (pl.length - i3) i3 v4) (fun (i3, v4) => ⟨[(2, .nil), (3, .full 3 (pl.length) 0), (9, .t (.row 3 (GType.trs (pl)))), (10, .t (.leaf (.int .i64 (((pl.length : Nat) : Int))))), (11, .t (.leaf (.int .i64 (((i3 : Nat) : Int)))))], ⟨[], [⟨32, 3, GType.trs (v4), true⟩]⟩⟩) (fun (i3, v4) => pl.length - i3) (0, ([])) ?_ ?_ ?_
      · exact rfl
      · skip
        exact Wk.mk (StLe.mk' trivial (by first | rfl | simp)) (keeps_nil hC) ⟨⟨_, rfl, .refl _, rfl⟩, ⟨⟨_, rfl, .refl _, rfl⟩, ⟨⟨_, rfl, .refl _, rfl⟩, ⟨⟨_, rfl, .refl _, rfl⟩, ⟨⟨_, rfl, by (repeat' (first | exact PV.Le.refl _ | exact LeL.nil | exact PV.Le.nil _ | exact PV.Le.acc _ _ _ | apply LeL.cons | apply PV.Le.agg | apply PV.Le.tup)), rfl⟩, trivial⟩⟩⟩⟩⟩
      · rintro ⟨i3, v4⟩ hJ5
        refine AWP.seq ?_
        refine AWP.region_lit ?_
        refine AL.cons rfl (AOp.lss rfl rfl rfl rfl) ?_
        refine AL.nil ?_
        refine AWP.seq ?_
        refine AWP.cond rfl (fun h6 => ?_) (fun h6 => ?_)
        · skip
          have h6l : i3 < pl.length := nat_lt_of2 h6
          have h6n := nat_lt_of h6
          refine AWP.skip ?_
          refine AWP.seq ?_
          refine AWP.block ?_
          refine AWP.seq ?_
          refine AWP.region_lit ?_
          refine AL.cons rfl (AOp.move (.inl rfl) rfl rfl) ?_
          refine AL.cons rfl (AOp.index (k := i3) rfl rfl rfl rfl rfl (GType.trs_at h6n) el30) ?_
          refine AL.cons rfl (AOp.loadEptr (ds := [.leaf (.int .i64 ((atD pl i3).gKind)), .leaf (.string ((atD pl i3).gName)), .row 3 (GType.trs ((atD pl i3).gArgs))]) rfl rfl rfl sh32 rfl rfl) ?_
          refine AL.cons rfl (AOp.alloc rfl rfl zr32) ?_
          refine AL.cons rfl (AOp.move (.inr rfl) rfl rfl) ?_
          refine AL.cons rfl (AOp.storePtr (cs := [.t (.leaf (.int .i64 ((atD pl i3).gKind))), .t (.leaf (.string ((atD pl i3).gName))), .t (.row 3 (GType.trs ((atD pl i3).gArgs)))]) (ds := [.t (.leaf (.int .i64 ((atD pl i3).gKind))), .t (.leaf (.string ((atD pl i3).gName))), .t (.row 3 (GType.trs ((atD pl i3).gArgs)))]) rfl rfl rfl rfl rfl rfl rfl sz32 (Nat.le_of_ble_eq_true rfl) rfl) ?_
          refine AL.nil ?_
          refine AWP.region_lit ?_
          refine AL.cons rfl (AOp.move (.inl rfl) rfl rfl) ?_
          refine AL.cons rfl (AOp.move (.inl rfl) rfl rfl) ?_
          refine AL.cons rfl (AOp.loadPtr (cs := [.t (.leaf (.int .i64 ((atD pl i3).gKind))), .t (.leaf (.string ((atD pl i3).gName))), .t (.row 3 (GType.trs ((atD pl i3).gArgs)))]) rfl rfl rfl rfl sh32 rfl rfl) ?_
          rcases hq7 : r_icopyType (atD pl i3) with _ | x8
          · skip
            have e9 : (icopyTypes_F1 fu r_icopyType r_icopyTypes pl) i3 v4 = none := bdN hq7
            have e10 : icopyTypes_R1 fu r_icopyType r_icopyTypes pl = none := loopN_non h6l hJ5 e9
            have e11 : icopyTypes_G fu r_icopyType r_icopyTypes pl = none := gdT hg2 (soN e10)
            exact none_some H e11
          · skip
            refine AL.cons rfl (AOp.callF (res := (GType.pv x8)) (ps := [_]) rfl rfl Try.func118 (by kernel_rfl) rfl rfl (by (repeat' (first | exact PV.Le.refl _ | exact LeL.nil | exact PV.Le.nil _ | exact PV.Le.acc _ _ _ | apply LeL.cons | apply PV.Le.agg | apply PV.Le.tup))) rfl rfl (h_icopyType (atD pl i3) _ hq7)) ?_
            refine AL.cons rfl (AOp.indexFull (k := i3) rfl rfl rfl rfl h6n el30) ?_
            rcases Classical.em (i3 = (v4).length) with hg12 | hg12
            · skip
              refine AL.cons rfl (AOp.storeRptr (e := GType.cs x8) (es2 := GType.trs (v4 ++ ([x8] : List GType))) 16 rfl rfl rfl rfl rfl rfl (by (repeat' (first | exact PV.Le.refl _ | exact LeL.nil | exact PV.Le.nil _ | exact PV.Le.acc _ _ _ | apply LeL.cons | apply PV.Le.agg | apply PV.Le.tup))) rfl rfl sz32 (by rw [GType.trs_len]; exact hg12) h6n (by rw [GType.trs_map, GType.trs_map, List.map_append]; simp [GType.tr_cs])) ?_
              refine AL.nil ?_
              refine AWP.region_lit ?_
              refine AL.cons rfl (AOp.addI rfl rfl rfl rfl (c := ((i3 + 1 : Nat) : Int)) (by omega) (by omega)) ?_
              refine AL.cons rfl (AOp.move (.inl rfl) rfl rfl) ?_
              refine AL.nil ?_
              have e13 : (icopyTypes_F1 fu r_icopyType r_icopyTypes pl) i3 v4 = some (.next (v4 ++ ([x8] : List GType))) := bdS hq7 (gdT hg12 (rfl))
              refine ⟨(i3 + 1, (v4 ++ ([x8] : List GType))), loopN_next h6l hJ5 e13, ?_, ?_⟩
              · skip
                exact Wk.mk (StLe.mk' trivial (by first | rfl | simp)) (keeps_nil hC) ⟨⟨_, rfl, .refl _, rfl⟩, ⟨⟨_, rfl, .refl _, rfl⟩, ⟨⟨_, rfl, .refl _, rfl⟩, ⟨⟨_, rfl, .refl _, rfl⟩, ⟨⟨_, rfl, by (repeat' (first | exact PV.Le.refl _ | exact LeL.nil | exact PV.Le.nil _ | exact PV.Le.acc _ _ _ | apply LeL.cons | apply PV.Le.agg | apply PV.Le.tup)), rfl⟩, trivial⟩⟩⟩⟩⟩
              · dsimp only; omega
            · skip
              have e14 : (icopyTypes_F1 fu r_icopyType r_icopyTypes pl) i3 v4 = none := bdS hq7 (gdF hg12)
              have e15 : icopyTypes_R1 fu r_icopyType r_icopyTypes pl = none := loopN_non h6l hJ5 e14
              have e16 : icopyTypes_G fu r_icopyType r_icopyTypes pl = none := gdT hg2 (soN e15)
              exact none_some H e16
        · skip
          have h6l : pl.length ≤ i3 := nat_ge_of2 h6
          refine AWP.exit ?_
          refine ⟨v4, loopN_end h6l hJ5, ?_⟩
          exact Wk.mk (StLe.mk' trivial (by first | rfl | simp)) (keeps_nil hC) ⟨⟨_, rfl, .refl _, rfl⟩, ⟨⟨_, rfl, .refl _, rfl⟩, trivial⟩⟩
    · rintro v4 hR17
      refine AWP.seq ?_
      refine AWP.region_lit ?_
      refine AL.cons rfl (AOp.move (.inl rfl) rfl rfl) ?_
      rcases Classical.em ((v4).length = pl.length) with hg18 | hg18
      · skip
        refine AL.weak (Wk.full (i := 22) rfl rfl (by rw [GType.trs_len]; exact hg18)) ?_
        refine AL.cons rfl (AOp.move (.inr rfl) rfl rfl) ?_
        refine AL.nil ?_
        refine AWP.ret ?_
        have e19 : icopyTypes_G fu r_icopyType r_icopyTypes pl = some v4 := gdT hg2 (soR hR17 (gdT hg18 (rfl)))
        have hz : v4 = r := Option.some.inj (e19.symm.trans H)
        subst hz
        exact Ends.mk (ps := [_]) (by first | exact .inr rfl | exact .inl rfl) ⟨rfl, trivial⟩ rfl (StLe.mk' (st' := ⟨[], []⟩) trivial rfl) (keeps_nil hC) (q := (.t (.row 3 (GType.trs (v4))) : PV)) (by (repeat' (first | exact PV.Le.refl _ | exact LeL.nil | exact PV.Le.nil _ | exact PV.Le.acc _ _ _ | apply LeL.cons | apply PV.Le.agg | apply PV.Le.tup))) rfl ⟨rfl, rfl⟩
      · skip
        have e20 : icopyTypes_G fu r_icopyType r_icopyTypes pl = none := gdT hg2 (soR hR17 (gdF hg18))
        exact none_some H e20
  · skip
    have e21 : icopyTypes_G fu r_icopyType r_icopyTypes pl = none := gdF hg2
    exact none_some H e21
mutual
noncomputable def icopyType_M : Nat → GType → Option GType
  | 0, _ => none
  | fu + 1, pt => icopyType_G fu (icopyType_M fu) (icopyTypes_M fu) pt
noncomputable def icopyTypes_M : Nat → (List GType) → Option ((List GType))
  | 0, _ => none
  | fu + 1, pl => icopyTypes_G fu (icopyType_M fu) (icopyTypes_M fu) pl
end
theorem icopyType_all (fu : Nat) : (∀ (pt : GType) (r : GType), icopyType_M fu pt = some r → AFun Try.prog 118 [(GType.pv pt)] ((GType.pv r) : PV)) ∧ (∀ (pl : List GType) (r : (List GType)), icopyTypes_M fu pl = some r → AFun Try.prog 171 [.t (.row 3 (GType.trs (pl)))] (.t (.row 3 (GType.trs (r))) : PV)) := by
  induction fu with
  | zero => exact ⟨(fun pt r H => by simp only [icopyType_M] at H; cases H), (fun pl r H => by simp only [icopyTypes_M] at H; cases H)⟩
  | succ fu ih => exact ⟨(fun pt r H => by simp only [icopyType_M] at H; exact icopyType_step (icopyType_M fu) (icopyTypes_M fu) fu ih.1 ih.2 pt r H), (fun pl r H => by simp only [icopyTypes_M] at H; exact icopyTypes_step (icopyType_M fu) (icopyTypes_M fu) fu ih.1 ih.2 pl r H)⟩
theorem icopyType_ok (fu : Nat) (pt : GType) (r : GType) (H : icopyType_M fu pt = some r) : AFun Try.prog 118 [(GType.pv pt)] ((GType.pv r) : PV) := (icopyType_all fu).1 pt r H
theorem icopyTypes_ok (fu : Nat) (pl : List GType) (r : (List GType)) (H : icopyTypes_M fu pl = some r) : AFun Try.prog 171 [.t (.row 3 (GType.trs (pl)))] (.t (.row 3 (GType.trs (r))) : PV) := (icopyType_all fu).2 pl r H

end Go.Proofs.Ytoifjkggpanceaa

namespace Go.Proofs.Ytoifjkggpanceaa

def eqL {α : Type} (p : α → α → Bool) : List α → List α → Bool
  | [], [] => true
  | a :: l, b :: r => p a b && eqL p l r
  | _, _ => false
theorem eqL_len {α : Type} {p : α → α → Bool} : ∀ {l r : List α}, l.length ≠ r.length → eqL p l r = false
  | [], [], h => absurd rfl h
  | [], _ :: _, _ => rfl
  | _ :: _, [], _ => rfl
  | a :: l, b :: r, h => by simp [eqL, eqL_len (l := l) (r := r) (by simpa using h)]
theorem eqL_step {α : Type} {p : α → α → Bool} {l r : List α} {k : Nat} (h : k < l.length) (h' : k < r.length) : eqL p (l.drop k) (r.drop k) = (p l[k] r[k] && eqL p (l.drop (k + 1)) (r.drop (k + 1))) := by
  rw [List.drop_eq_getElem_cons h, List.drop_eq_getElem_cons h', eqL]
theorem eqL_end {α : Type} {p : α → α → Bool} {l r : List α} (h : l.length = r.length) : eqL p (l.drop l.length) (r.drop l.length) = true := by
  rw [List.drop_length, h, List.drop_length, eqL]

/-- The index of the first element that meets p, counted from i; -1 if there is none. -/
def idxL {α : Type} (p : α → Bool) : List α → Nat → Int
  | [], _ => -1
  | a :: l, i => if p a then i else idxL p l (i + 1)
theorem idxL_step {α : Type} {p : α → Bool} {l : List α} {k : Nat} (h : k < l.length) : idxL p (l.drop k) k = if p l[k] then (k : Int) else idxL p (l.drop (k + 1)) (k + 1) := by
  rw [List.drop_eq_getElem_cons h, idxL]
theorem idxL_any {α : Type} {p : α → Bool} : ∀ (l : List α) (i : Nat), decide (0 ≤ idxL p l i) = l.any p
  | [], i => by simp [idxL]
  | a :: l, i => by
    unfold idxL
    by_cases h : p a
    · simp [h]
    · simp [h, idxL_any l (i + 1)]
theorem idxL_le {α : Type} {p : α → Bool} : ∀ (l : List α) (i : Nat), -1 ≤ idxL p l i ∧ idxL p l i < i + l.length
  | [], i => by simp [idxL]; omega
  | a :: l, i => by
    unfold idxL
    have := idxL_le (p := p) l (i + 1)
    simp only [List.length_cons]
    split <;> omega
end Go.Proofs.Ytoifjkggpanceaa

namespace Go.Proofs.Ytoifjkggpanceaa
open Go.RowKit Go.Proofs


set_option maxRecDepth 100000 in
set_option maxHeartbeats 1000000 in
theorem same_206 {α : Type} (tr : α → List Tr) (p : α → α → Bool) (xs ys : List α) (hl : ∀ x, (tr x).length = 3)
    (H : ∀ x ∈ xs, ∀ y ∈ ys, ∀ cs ds w, RepL w (tr x) cs → RepL w (tr y) ds → Calls Try.prog 169 #[.agg ⟨cs⟩, .agg ⟨ds⟩] w fun e w' => e = .returned (.bool (p x y)) ∧ Ext w w')
    (s u : Value) (w : World) (hs : Rep w (.row 3 (xs.map tr)) s) (hu : Rep w (.row 3 (ys.map tr)) u) :
    Calls Try.prog 206 #[s, u] w fun e w' => e = .returned (.bool (eqL p xs ys)) ∧ Ext w w' := by
  obtain ⟨a, cap, rfl, hlc, hm⟩ := hs.shape
  obtain ⟨a', cap', rfl, hlc', hm'⟩ := hu.shape
  unfold maxLen at hm hm'
  rw [List.length_map] at hlc hlc' ⊢
  rw [List.length_map] at *
  by_cases hlen : xs.length = ys.length
  · have HS := Lib.hid hs
    have HU := Lib.hid hu
    have HH := Lib.hid H
    have HL := Lib.hid hl
    rw [← hlen] at hlc' ⊢
    have HLEN := Lib.hid hlen
    clear hs hu H hl hlen
    go_enter Try.func206, Try.ntmps206
    go_wp2_with fail
    go_loopw [5] (fun i wr => ∃ k : Nat, k ≤ xs.length ∧ i = .int .i64 k ∧ Ext w wr ∧ Hid (eqL p xs ys = eqL p (xs.drop k) (ys.drop k))) (fun i _ => xs.length - (intOf i).toNat)
    case atStart => exact ⟨0, Nat.zero_le _, rfl, .refl _, rfl⟩
    case round =>
      obtain ⟨k, hk, rfl, hw, HE⟩ := hrel
      by_cases hlt : k < xs.length
      · have hlt' : k < ys.length := HLEN.out ▸ hlt
        obtain ⟨b, off, cs, rfl, hb, hcs, hc⟩ := (HS.out.ext hw).at2 (k := k) (e := tr xs[k]) (by rw [List.getElem?_map, List.getElem?_eq_getElem hlt]; rfl)
        obtain ⟨b', off', ds, rfl, hb', hds, hd⟩ := (HU.out.ext hw).at2 (k := k) (e := tr ys[k]) (by rw [List.getElem?_map, List.getElem?_eq_getElem hlt']; rfl)
        have HST := Lib.hid (eqL_step (p := p) hlt hlt')
        have HM := Lib.hid (List.getElem_mem hlt)
        have HM' := Lib.hid (List.getElem_mem hlt')
        have HCS := Lib.hid hcs
        have HDS := Lib.hid hds
        have HC := Lib.hid hc
        have HD := Lib.hid hd
        have HI : Hid ((Try.prog.info? 32).map (·.size) = some cs.length) := by rw [← hcs.length, HL.out]; exact isz32
        have HJ : Hid ((Try.prog.info? 32).map (·.size) = some ds.length) := by rw [← hds.length, HL.out]; exact isz32
        clear hcs hds hc hd
        go_wp2_with fail
        have ki : (k : Int) < (xs.length : Int) := by omega
        have k0 : (0 : Int) ≤ (k : Int) := by omega
        refine wp_region_still_tail 8 (by kernel_rfl) (by kernel_rfl) ?_
        simp only [List.take_succ_cons, List.take_zero, List.drop_succ_cons, List.drop_zero]
        change wpStill _ _ wr.drew _ _ _
        repeat (first
          | (refine wpStill_load_rep rfl 32 (.tmp 19) rfl b (off + k * 3) rfl cs _ Try.underlying32 HI.out HC.out ?_; simp only [Act.put])
          | (refine wpStill_load_rep rfl 32 (.tmp 23) rfl b' (off' + k * 3) rfl ds _ Try.underlying32 HJ.out HD.out ?_; simp only [Act.put])
          | still_step)
        refine wpStill_nil ?_
        change wpList _ _ _ _ _ wr.drew
        go_wp2_with fail
        refine (HH.out _ HM.out _ HM'.out _ _ _ (HCS.out.ext (.drew (.refl _))) (HDS.out.ext (.drew (.refl _)))).mono ?_
        rintro e w1 ⟨rfl, hw1⟩
        have HW1 := Lib.hid (hw.trans (.trans (.drew (.refl _)) hw1))
        clear hw1
        cases hp : p xs[k] ys[k]
        · have HP := Lib.hid hp
          clear hp
          go_wp2_with fail
          go_ret
          exact ⟨ret_bool (by rw [HE.out, HST.out, HP.out]; rfl), HW1.out⟩
        · have HP := Lib.hid hp
          clear hp
          go_wp2_with fail
          go_roundw
          case rel => exact ⟨k + 1, by omega, by go_num, HW1.out, by rw [HE.out, HST.out, HP.out]; rfl⟩
          case measure => simp [intOf]; omega
      · have hkl : k = xs.length := by omega
        go_wp2_with fail
        go_ret
        exact ⟨ret_bool (by rw [HE.out, hkl]; exact (eqL_end HLEN.out).symm), hw⟩
  · have hne : ((xs.length : Int) == (ys.length : Int)) = false := by simp; omega
    have hr := Lib.hid (eqL_len (p := p) hlen)
    clear hlen
    go_enter Try.func206, Try.ntmps206
    go_wp2_with fail
    go_ret
    exact ⟨ret_bool hr.out.symm, .refl _⟩


set_option maxRecDepth 100000 in
set_option maxHeartbeats 1000000 in
theorem equalFunc_178 {α : Type} (tr : α → List Tr) (p : α → α → Bool) (xs ys : List α) (g : FuncId) (hg : ∀ (args : Array Value) (w : World), (callFunc g args).run Try.prog w = .ok (.enter g args) w) (hl : ∀ x, (tr x).length = 3)
    (H : ∀ x ∈ xs, ∀ y ∈ ys, ∀ cs ds w, RepL w (tr x) cs → RepL w (tr y) ds → Calls Try.prog g #[.agg ⟨cs⟩, .agg ⟨ds⟩] w fun e w' => e = .returned (.bool (p x y)) ∧ Ext w w')
    (s u : Value) (w : World) (hs : Rep w (.row 3 (xs.map tr)) s) (hu : Rep w (.row 3 (ys.map tr)) u) :
    Calls Try.prog 178 #[s, u, .func (.func g) #[] #[]] w fun e w' => e = .returned (.bool (eqL p xs ys)) ∧ Ext w w' := by
  obtain ⟨a, cap, rfl, hlc, hm⟩ := hs.shape
  obtain ⟨a', cap', rfl, hlc', hm'⟩ := hu.shape
  unfold maxLen at hm hm'
  rw [List.length_map] at hlc hlc' ⊢
  rw [List.length_map] at *
  by_cases hlen : xs.length = ys.length
  · have HS := Lib.hid hs
    have HU := Lib.hid hu
    have HH := Lib.hid H
    have HL := Lib.hid hl
    rw [← hlen] at hlc' ⊢
    have HLEN := Lib.hid hlen
    clear hs hu H hl hlen
    go_enter Try.func178, Try.ntmps178
    go_wp2_with fail
    go_loopw [7, 17] (fun _ i wr => ∃ k : Nat, k ≤ xs.length ∧ i = .int .i64 k ∧ Ext w wr ∧ Hid (eqL p xs ys = eqL p (xs.drop k) (ys.drop k))) (fun _ i _ => xs.length - (intOf i).toNat)
    case atStart => exact ⟨0, Nat.zero_le _, rfl, .refl _, rfl⟩
    case round =>
      obtain ⟨k, hk, rfl, hw, HE⟩ := hrel
      by_cases hlt : k < xs.length
      · have hlt' : k < ys.length := HLEN.out ▸ hlt
        obtain ⟨b, off, cs, rfl, hb, hcs, hc⟩ := (HS.out.ext hw).at2 (k := k) (e := tr xs[k]) (by rw [List.getElem?_map, List.getElem?_eq_getElem hlt]; rfl)
        obtain ⟨b', off', ds, rfl, hb', hds, hd⟩ := (HU.out.ext hw).at2 (k := k) (e := tr ys[k]) (by rw [List.getElem?_map, List.getElem?_eq_getElem hlt']; rfl)
        have HST := Lib.hid (eqL_step (p := p) hlt hlt')
        have HM := Lib.hid (List.getElem_mem hlt)
        have HM' := Lib.hid (List.getElem_mem hlt')
        have HCS := Lib.hid hcs
        have HDS := Lib.hid hds
        have HC := Lib.hid hc
        have HD := Lib.hid hd
        have HCL : Hid (cs.length = 3) := by rw [← hcs.length, HL.out]; rfl
        have HDL : Hid (ds.length = 3) := by rw [← hds.length, HL.out]; rfl
        have HI : Hid ((Try.prog.info? 32).map (·.size) = some cs.length) := by rw [HCL.out]; exact isz32
        have HJ : Hid ((Try.prog.info? 32).map (·.size) = some ds.length) := by rw [HDL.out]; exact isz32
        clear hcs hds hc hd
        go_wp2_with (first
          | (refine wpList_load_rep rfl 32 (.tmp 20) rfl b (off + k * 3) rfl cs _ Try.underlying32 HI.out HC.out ?_)
          | (refine wpList_store_rep rfl 32 (.tmp 8) (.tmp 21) rfl wr.heap.size 0 rfl cs rfl 32 _ (OB.new wr _ _) HI.out (by rw [HCL.out]; exact Nat.le_refl _) HCS.out.one ?_; intro wb hob hgb hzb; rw [splice_whole (by rw [HCL.out]; rfl)] at hob; have HOB := Lib.hid hob; have HXB := Lib.hid (grown_ext (.alloc (.refl wr) _) hgb (Nat.le_refl _)); have HZB : Hid (wr.heap.size < wb.heap.size) := hob.lt; clear hob hgb hzb)
          | (refine wpList_load_rep rfl 32 (.tmp 24) rfl b' (off' + k * 3) rfl ds _ Try.underlying32 HJ.out (cells_ext HXB.out hb' HD.out) ?_)
          | (refine wpList_store_rep rfl 32 (.tmp 9) (.tmp 25) rfl wb.heap.size 0 rfl ds rfl 32 _ (OB.new wb _ _) HJ.out (by rw [HDL.out]; exact Nat.le_refl _) HDS.out.one ?_; intro wc hoc hgc hzc; rw [splice_whole (by rw [HDL.out]; rfl)] at hoc; have HOC := Lib.hid hoc; have HXC := Lib.hid (HXB.out.trans (grown_ext (.alloc (.refl wb) _) hgc (Nat.le_refl _))); have HOD := Lib.hid (HOB.out.ext (grown_ext (.alloc (.refl wb) _) hgc (Nat.le_refl _))); clear hoc hgc hzc)
          | (refine wpList_load_rep rfl 32 (.tmp 8) rfl wr.heap.size 0 rfl cs _ Try.underlying32 HI.out HOD.out.cells0 ?_)
          | (refine wpList_load_rep rfl 32 (.tmp 9) rfl wb.heap.size 0 rfl ds _ Try.underlying32 HJ.out HOC.out.cells0 ?_))
        refine (HH.out _ HM.out _ HM'.out _ _ _ (HCS.out.ext HXC.out) (HDS.out.ext HXC.out)).mono ?_
        rintro e w1 ⟨rfl, hw1⟩
        have HW1 := Lib.hid (hw.trans (HXC.out.trans hw1))
        clear hw1
        cases hp : p xs[k] ys[k]
        · have HP := Lib.hid hp
          clear hp
          go_wp2_with fail
          go_ret
          exact ⟨ret_bool (by rw [HE.out, HST.out, HP.out]; rfl), HW1.out⟩
        · have HP := Lib.hid hp
          clear hp
          go_wp2_with fail
          go_roundw
          case rel => exact ⟨k + 1, by omega, by go_num, HW1.out, by rw [HE.out, HST.out, HP.out]; rfl⟩
          case measure => simp [intOf]; omega
      · have hkl : k = xs.length := by omega
        go_wp2_with fail
        go_ret
        exact ⟨ret_bool (by rw [HE.out, hkl]; exact (eqL_end HLEN.out).symm), hw⟩
  · have hne : ((xs.length : Int) == (ys.length : Int)) = false := by simp; omega
    have hr := Lib.hid (eqL_len (p := p) hlen)
    clear hlen
    go_enter Try.func178, Try.ntmps178
    go_wp2_with fail
    go_ret
    exact ⟨ret_bool hr.out.symm, .refl _⟩


set_option maxRecDepth 100000 in
set_option maxHeartbeats 1000000 in
theorem indexFunc_112 {α : Type} (tr : α → List Tr) (p : α → Bool) (xs : List α) (g : FuncId) (caps : Array Value) (hg : ∀ (args : Array Value) (w : World), (callFunc g args).run Try.prog w = .ok (.enter g args) w) (hl : ∀ x, (tr x).length = 6) (s : Value) (w : World)
    (H : ∀ x ∈ xs, ∀ cs w', Ext w w' → RepL w' (tr x) cs → Calls Try.prog g (#[.agg ⟨cs⟩] ++ caps) w' fun e w'' => e = .returned (.bool (p x)) ∧ Ext w' w'')
    (hs : Rep w (.row 6 (xs.map tr)) s) :
    Calls Try.prog 112 #[s, .func (.func g) #[] caps] w fun e w' => e = .returned (.int .i64 (idxL p xs 0)) ∧ Ext w w' := by
  obtain ⟨a, cap, rfl, hlc, hm⟩ := hs.shape
  unfold maxLen at hm
  rw [List.length_map] at hlc ⊢
  rw [List.length_map] at hs
  have HS := Lib.hid hs
  have HH := Lib.hid H
  have HL := Lib.hid hl
  clear hs H hl
  go_enter Try.func112, Try.ntmps112
  go_wp2_with fail
  go_loopw [5, 8] (fun _ i wr => ∃ k : Nat, k ≤ xs.length ∧ i = .int .i64 k ∧ Ext w wr ∧ Hid (idxL p xs 0 = idxL p (xs.drop k) k)) (fun _ i _ => xs.length - (intOf i).toNat)
  case atStart => exact ⟨0, Nat.zero_le _, rfl, .refl _, rfl⟩
  case round =>
    obtain ⟨k, hk, rfl, hw, HE⟩ := hrel
    by_cases hlt : k < xs.length
    · obtain ⟨b, off, cs, rfl, hb, hcs, hc⟩ := (HS.out.ext hw).at2 (k := k) (e := tr xs[k]) (by rw [List.getElem?_map, List.getElem?_eq_getElem hlt]; rfl)
      have HST := Lib.hid (idxL_step (p := p) hlt)
      have HM := Lib.hid (List.getElem_mem hlt)
      have HCS := Lib.hid hcs
      have HC := Lib.hid hc
      have HI : Hid ((Try.prog.info? 159).map (·.size) = some cs.length) := by rw [← hcs.length, HL.out]; exact isz159
      clear hcs hc
      go_wp2_with (refine wpList_load_rep rfl 159 (.tmp 14) rfl b (off + k * 6) rfl cs _ Try.underlying159 HI.out HC.out ?_)
      refine (HH.out _ HM.out _ _ hw HCS.out).mono ?_
      rintro e w1 ⟨rfl, hw1⟩
      have HW1 := Lib.hid (hw.trans hw1)
      clear hw1
      cases hp : p xs[k]
      · have HP := Lib.hid hp
        clear hp
        go_wp2_with fail
        go_roundw
        case rel => exact ⟨k + 1, by omega, by go_num, HW1.out, by rw [HE.out, HST.out, HP.out]; rfl⟩
        case measure => simp [intOf]; omega
      · have HP := Lib.hid hp
        clear hp
        go_wp2_with fail
        go_ret
        exact ⟨ret_int (by rw [HE.out, HST.out, HP.out]; rfl), HW1.out⟩
    · have hkl : k = xs.length := by omega
      go_wp2_with fail
      go_ret
      exact ⟨ret_int (by rw [HE.out, hkl, List.drop_length]; rfl), hw⟩


set_option maxRecDepth 100000 in
set_option maxHeartbeats 1000000 in
theorem indexFunc_135 {α : Type} (tr : α → List Tr) (p : α → Bool) (xs : List α) (g : FuncId) (caps : Array Value) (hg : ∀ (args : Array Value) (w : World), (callFunc g args).run Try.prog w = .ok (.enter g args) w) (hl : ∀ x, (tr x).length = 4) (s : Value) (w : World)
    (H : ∀ x ∈ xs, ∀ cs w', Ext w w' → RepL w' (tr x) cs → Calls Try.prog g (#[.agg ⟨cs⟩] ++ caps) w' fun e w'' => e = .returned (.bool (p x)) ∧ Ext w' w'')
    (hs : Rep w (.row 4 (xs.map tr)) s) :
    Calls Try.prog 135 #[s, .func (.func g) #[] caps] w fun e w' => e = .returned (.int .i64 (idxL p xs 0)) ∧ Ext w w' := by
  obtain ⟨a, cap, rfl, hlc, hm⟩ := hs.shape
  unfold maxLen at hm
  rw [List.length_map] at hlc ⊢
  rw [List.length_map] at hs
  have HS := Lib.hid hs
  have HH := Lib.hid H
  have HL := Lib.hid hl
  clear hs H hl
  go_enter Try.func135, Try.ntmps135
  go_wp2_with fail
  go_loopw [5, 8] (fun _ i wr => ∃ k : Nat, k ≤ xs.length ∧ i = .int .i64 k ∧ Ext w wr ∧ Hid (idxL p xs 0 = idxL p (xs.drop k) k)) (fun _ i _ => xs.length - (intOf i).toNat)
  case atStart => exact ⟨0, Nat.zero_le _, rfl, .refl _, rfl⟩
  case round =>
    obtain ⟨k, hk, rfl, hw, HE⟩ := hrel
    by_cases hlt : k < xs.length
    · obtain ⟨b, off, cs, rfl, hb, hcs, hc⟩ := (HS.out.ext hw).at2 (k := k) (e := tr xs[k]) (by rw [List.getElem?_map, List.getElem?_eq_getElem hlt]; rfl)
      have HST := Lib.hid (idxL_step (p := p) hlt)
      have HM := Lib.hid (List.getElem_mem hlt)
      have HCS := Lib.hid hcs
      have HC := Lib.hid hc
      have HI : Hid ((Try.prog.info? 34).map (·.size) = some cs.length) := by rw [← hcs.length, HL.out]; exact isz34
      clear hcs hc
      go_wp2_with (refine wpList_load_rep rfl 34 (.tmp 14) rfl b (off + k * 4) rfl cs _ Try.underlying34 HI.out HC.out ?_)
      refine (HH.out _ HM.out _ _ hw HCS.out).mono ?_
      rintro e w1 ⟨rfl, hw1⟩
      have HW1 := Lib.hid (hw.trans hw1)
      clear hw1
      cases hp : p xs[k]
      · have HP := Lib.hid hp
        clear hp
        go_wp2_with fail
        go_roundw
        case rel => exact ⟨k + 1, by omega, by go_num, HW1.out, by rw [HE.out, HST.out, HP.out]; rfl⟩
        case measure => simp [intOf]; omega
      · have HP := Lib.hid hp
        clear hp
        go_wp2_with fail
        go_ret
        exact ⟨ret_int (by rw [HE.out, HST.out, HP.out]; rfl), HW1.out⟩
    · have hkl : k = xs.length := by omega
      go_wp2_with fail
      go_ret
      exact ⟨ret_int (by rw [HE.out, hkl, List.drop_length]; rfl), hw⟩


set_option maxRecDepth 100000 in
set_option maxHeartbeats 1000000 in
theorem containsFunc_128 {α : Type} (tr : α → List Tr) (p : α → Bool) (xs : List α) (g : FuncId) (caps : Array Value) (hg : ∀ (args : Array Value) (w : World), (callFunc g args).run Try.prog w = .ok (.enter g args) w) (hl : ∀ x, (tr x).length = 4) (s : Value) (w : World)
    (H : ∀ x ∈ xs, ∀ cs w', Ext w w' → RepL w' (tr x) cs → Calls Try.prog g (#[.agg ⟨cs⟩] ++ caps) w' fun e w'' => e = .returned (.bool (p x)) ∧ Ext w' w'')
    (hs : Rep w (.row 4 (xs.map tr)) s) :
    Calls Try.prog 128 #[s, .func (.func g) #[] caps] w fun e w' => e = .returned (.bool (xs.any p)) ∧ Ext w w' := by
  have hc := Lib.hid (indexFunc_135 tr p xs g caps hg hl s w H hs)
  have hb := Lib.hid (idxL_any (p := p) xs 0)
  clear H hs hl hg
  go_enter Try.func128, Try.ntmps128
  go_wp2_with fail
  refine hc.out.mono ?_
  rintro e w1 ⟨rfl, hw1⟩
  have HW1 := Lib.hid hw1
  clear hw1
  generalize idxL p xs 0 = q at *
  go_wp2_with fail
  go_ret
  exact ⟨ret_bool hb.out, HW1.out⟩


set_option maxRecDepth 100000 in
set_option maxHeartbeats 1000000 in
theorem indexFunc_255 {α : Type} (tr : α → List Tr) (p : α → Bool) (xs : List α) (g : FuncId) (caps : Array Value) (hg : ∀ (args : Array Value) (w : World), (callFunc g args).run Try.prog w = .ok (.enter g args) w) (hl : ∀ x, (tr x).length = 3) (s : Value) (w : World)
    (H : ∀ x ∈ xs, ∀ cs w', Ext w w' → RepL w' (tr x) cs → Calls Try.prog g (#[.agg ⟨cs⟩] ++ caps) w' fun e w'' => e = .returned (.bool (p x)) ∧ Ext w' w'')
    (hs : Rep w (.row 3 (xs.map tr)) s) :
    Calls Try.prog 255 #[s, .func (.func g) #[] caps] w fun e w' => e = .returned (.int .i64 (idxL p xs 0)) ∧ Ext w w' := by
  obtain ⟨a, cap, rfl, hlc, hm⟩ := hs.shape
  unfold maxLen at hm
  rw [List.length_map] at hlc ⊢
  rw [List.length_map] at hs
  have HS := Lib.hid hs
  have HH := Lib.hid H
  have HL := Lib.hid hl
  clear hs H hl
  go_enter Try.func255, Try.ntmps255
  go_wp2_with fail
  go_loopw [5, 8] (fun _ i wr => ∃ k : Nat, k ≤ xs.length ∧ i = .int .i64 k ∧ Ext w wr ∧ Hid (idxL p xs 0 = idxL p (xs.drop k) k)) (fun _ i _ => xs.length - (intOf i).toNat)
  case atStart => exact ⟨0, Nat.zero_le _, rfl, .refl _, rfl⟩
  case round =>
    obtain ⟨k, hk, rfl, hw, HE⟩ := hrel
    by_cases hlt : k < xs.length
    · obtain ⟨b, off, cs, rfl, hb, hcs, hc⟩ := (HS.out.ext hw).at2 (k := k) (e := tr xs[k]) (by rw [List.getElem?_map, List.getElem?_eq_getElem hlt]; rfl)
      have HST := Lib.hid (idxL_step (p := p) hlt)
      have HM := Lib.hid (List.getElem_mem hlt)
      have HCS := Lib.hid hcs
      have HC := Lib.hid hc
      have HI : Hid ((Try.prog.info? 32).map (·.size) = some cs.length) := by rw [← hcs.length, HL.out]; exact isz32
      clear hcs hc
      go_wp2_with (refine wpList_load_rep rfl 32 (.tmp 14) rfl b (off + k * 3) rfl cs _ Try.underlying32 HI.out HC.out ?_)
      refine (HH.out _ HM.out _ _ hw HCS.out).mono ?_
      rintro e w1 ⟨rfl, hw1⟩
      have HW1 := Lib.hid (hw.trans hw1)
      clear hw1
      cases hp : p xs[k]
      · have HP := Lib.hid hp
        clear hp
        go_wp2_with fail
        go_roundw
        case rel => exact ⟨k + 1, by omega, by go_num, HW1.out, by rw [HE.out, HST.out, HP.out]; rfl⟩
        case measure => simp [intOf]; omega
      · have HP := Lib.hid hp
        clear hp
        go_wp2_with fail
        go_ret
        exact ⟨ret_int (by rw [HE.out, HST.out, HP.out]; rfl), HW1.out⟩
    · have hkl : k = xs.length := by omega
      go_wp2_with fail
      go_ret
      exact ⟨ret_int (by rw [HE.out, hkl, List.drop_length]; rfl), hw⟩


set_option maxRecDepth 100000 in
set_option maxHeartbeats 1000000 in
theorem containsFunc_240 {α : Type} (tr : α → List Tr) (p : α → Bool) (xs : List α) (g : FuncId) (caps : Array Value) (hg : ∀ (args : Array Value) (w : World), (callFunc g args).run Try.prog w = .ok (.enter g args) w) (hl : ∀ x, (tr x).length = 3) (s : Value) (w : World)
    (H : ∀ x ∈ xs, ∀ cs w', Ext w w' → RepL w' (tr x) cs → Calls Try.prog g (#[.agg ⟨cs⟩] ++ caps) w' fun e w'' => e = .returned (.bool (p x)) ∧ Ext w' w'')
    (hs : Rep w (.row 3 (xs.map tr)) s) :
    Calls Try.prog 240 #[s, .func (.func g) #[] caps] w fun e w' => e = .returned (.bool (xs.any p)) ∧ Ext w w' := by
  have hc := Lib.hid (indexFunc_255 tr p xs g caps hg hl s w H hs)
  have hb := Lib.hid (idxL_any (p := p) xs 0)
  clear H hs hl hg
  go_enter Try.func240, Try.ntmps240
  go_wp2_with fail
  refine hc.out.mono ?_
  rintro e w1 ⟨rfl, hw1⟩
  have HW1 := Lib.hid hw1
  clear hw1
  generalize idxL p xs 0 = q at *
  go_wp2_with fail
  go_ret
  exact ⟨ret_bool hb.out, HW1.out⟩

end Go.Proofs.Ytoifjkggpanceaa

namespace Go.Proofs.Ytoifjkggpanceaa
open Go.RowKit Go.Proofs

theorem bytes_beq_self (a : ByteArray) : (a == a) = true := by
  obtain ⟨x⟩ := a
  show (x == x) = true
  simp
theorem bytes_inj {a b : ByteArray} (h : a.toList = b.toList) : a = b := by
  rw [ByteArray.toList_eq, ByteArray.toList_eq] at h
  obtain ⟨⟨x⟩⟩ := a
  obtain ⟨⟨y⟩⟩ := b
  have h : x = y := h
  rw [h]
theorem bytes_beq_ne {a b : ByteArray} (h : ¬ a = b) : (a == b) = false := by
  obtain ⟨x⟩ := a
  obtain ⟨y⟩ := b
  show (x == y) = false
  simp only [beq_eq_false_iff_ne, ne_eq]
  rintro rfl
  exact h rfl

mutual
def GType.eq : GType → GType → Bool
  | .mk k n xs, .mk l m ys => k == l && (n == m && GType.eqs xs ys)
def GType.eqs : List GType → List GType → Bool
  | [], [] => true
  | a :: l, b :: r => GType.eq a b && GType.eqs l r
  | _, _ => false
end
theorem GType.eqs_eqL : ∀ (l r : List GType), GType.eqs l r = eqL GType.eq l r
  | [], [] => rfl
  | [], _ :: _ => rfl
  | _ :: _, [] => rfl
  | a :: l, b :: r => by rw [GType.eqs, eqL, GType.eqs_eqL l r]
def GBound.eq : GBound → GBound → Bool
  | .mk n x, .mk m y => n == m && GType.eq x y

def EqTyC (f : FuncId) (x y : GType) : Prop := ∀ (cs ds : List Value) (w : World), RepL w x.tr cs → RepL w y.tr ds →
  Calls Try.prog f #[.agg ⟨cs⟩, .agg ⟨ds⟩] w fun e w' => e = .returned (.bool (GType.eq x y)) ∧ Ext w w'

set_option maxHeartbeats 2000000 in
theorem eqTy_spec_of (k : Int) (n : ByteArray) (xs : List GType) (H : ∀ x ∈ xs, ∀ y, EqTyC 169 x y) : ∀ y, EqTyC 169 (.mk k n xs) y := by
  intro y cs ds w hr hs
  obtain ⟨l, m, ys⟩ := y
  obtain ⟨a, c, rfl, -, -, h3⟩ := GType.opened hr
  obtain ⟨a', c', rfl, -, -, h3'⟩ := GType.opened hs
  rw [GType.trs_map] at h3 h3'
  have hcall := Lib.hid (fun w' hx => same_206 GType.tr GType.eq xs ys GType.tr_len (fun x hx y _ cs ds w h1 h2 => H x hx y cs ds w h1 h2) _ _ w' (h3.ext hx) (h3'.ext hx))
  clear H hr hs h3 h3'
  simp only [GType.eq, GType.eqs_eqL, List.cons_append, List.nil_append]
  by_cases h1 : k = l
  · subst h1
    by_cases h2 : n = m
    · subst h2
      go_enter Try.func169, Try.ntmps169
      go_wp2_with fail
      refine (hcall.out _ (.alloc (.alloc (.refl _) _) _)).mono ?_
      rintro e w1 ⟨rfl, hw1⟩
      have HW1 := Lib.hid hw1
      clear hw1
      generalize hz : eqL GType.eq xs ys = z at *
      have HZ := Lib.hid hz
      clear hz
      go_wp2_with fail
      go_ret
      exact ⟨ret_bool (by simp [HZ.out, bytes_beq_self]), .trans (.alloc (.alloc (.refl _) _) _) HW1.out⟩
    · have e2 : ¬ n.toList = m.toList := fun h => h2 (bytes_inj h)
      go_enter Try.func169, Try.ntmps169
      go_wp2_with fail
      go_ret
      exact ⟨ret_bool (by simp [bytes_beq_ne h2]), .alloc (.alloc (.refl _) _) _⟩
  · have e1 : (k == l) = false := by simpa using h1
    have E1 := Lib.hid e1
    go_enter Try.func169, Try.ntmps169
    go_wp2_with fail
    go_ret
    exact ⟨ret_bool (by rw [E1.out]; simp), .alloc (.alloc (.refl _) _) _⟩
theorem eqTy_spec : ∀ x y, EqTyC 169 x y := by
  refine GType.ind fun v0 v1 xs ih => ?_
  exact eqTy_spec_of v0 v1 xs ih

set_option maxHeartbeats 2000000 in
theorem eqGoal_spec (x y : GBound) (cs ds : List Value) (w : World) (hr : RepL w x.tr cs) (hs : RepL w y.tr ds) :
    Calls Try.prog 110 #[.agg ⟨cs⟩, .agg ⟨ds⟩] w fun e w' => e = .returned (.bool (GBound.eq x y)) ∧ Ext w w' := by
  obtain ⟨n, ⟨k, s, xs⟩⟩ := x
  obtain ⟨m, ⟨l, u, ys⟩⟩ := y
  obtain ⟨x1, rfl, -, h1⟩ := GBound.opened hr
  obtain ⟨y1, rfl, -, h1'⟩ := GBound.opened hs
  have hcall := Lib.hid (fun w' hx => eqTy_spec _ _ _ _ w' (h1.ext hx) (h1'.ext hx))
  obtain ⟨a, c, rfl, -, -, -⟩ := GType.opened h1
  obtain ⟨a', c', rfl, -, -, -⟩ := GType.opened h1'
  clear hr hs h1 h1'
  simp only [GBound.eq, List.cons_append, List.nil_append] at *
  by_cases h2 : n = m
  · subst h2
    go_enter Try.func110, Try.ntmps110
    go_wp2_with fail
    refine (hcall.out _ (.alloc (.alloc (.refl _) _) _)).mono ?_
    rintro e w1 ⟨rfl, hw1⟩
    have HW1 := Lib.hid hw1
    clear hw1
    generalize hz : GType.eq (.mk k s xs) (.mk l u ys) = z at *
    have HZ := Lib.hid hz
    clear hz
    go_wp2_with fail
    go_ret
    exact ⟨ret_bool (by simp [HZ.out, bytes_beq_self]), .trans (.alloc (.alloc (.refl _) _) _) HW1.out⟩
  · have e2 : ¬ n.toList = m.toList := fun h => h2 (bytes_inj h)
    go_enter Try.func110, Try.ntmps110
    go_wp2_with fail
    go_ret
    exact ⟨ret_bool (by simp [bytes_beq_ne h2]), .alloc (.alloc (.refl _) _) _⟩

set_option maxHeartbeats 2000000 in
theorem eqTy_impl_of (k : Int) (n : ByteArray) (xs : List GType) (H : ∀ x ∈ xs, ∀ y, EqTyC 130 x y) : ∀ y, EqTyC 130 (.mk k n xs) y := by
  intro y cs ds w hr hs
  obtain ⟨l, m, ys⟩ := y
  obtain ⟨a, c, rfl, -, -, h3⟩ := GType.opened hr
  obtain ⟨a', c', rfl, -, -, h3'⟩ := GType.opened hs
  rw [GType.trs_map] at h3 h3'
  have hcall := Lib.hid (fun w' hx => equalFunc_178 GType.tr GType.eq xs ys 130 (run_callFunc_body Try.func130 (by kernel_rfl) (by kernel_rfl)) GType.tr_len (fun x hx y _ cs ds w h1 h2 => H x hx y cs ds w h1 h2) _ _ w' (h3.ext hx) (h3'.ext hx))
  clear H hr hs h3 h3'
  simp only [GType.eq, GType.eqs_eqL, List.cons_append, List.nil_append]
  by_cases h1 : k = l
  · subst h1
    by_cases h2 : n = m
    · subst h2
      go_enter Try.func130, Try.ntmps130
      go_wp2_with fail
      refine (hcall.out _ (.alloc (.alloc (.refl _) _) _)).mono ?_
      rintro e w1 ⟨rfl, hw1⟩
      have HW1 := Lib.hid hw1
      clear hw1
      generalize hz : eqL GType.eq xs ys = z at *
      have HZ := Lib.hid hz
      clear hz
      go_wp2_with fail
      go_ret
      exact ⟨ret_bool (by simp [HZ.out, bytes_beq_self]), .trans (.alloc (.alloc (.refl _) _) _) HW1.out⟩
    · have e2 : ¬ n.toList = m.toList := fun h => h2 (bytes_inj h)
      go_enter Try.func130, Try.ntmps130
      go_wp2_with fail
      go_ret
      exact ⟨ret_bool (by simp [bytes_beq_ne h2]), .alloc (.alloc (.refl _) _) _⟩
  · have e1 : (k == l) = false := by simpa using h1
    have E1 := Lib.hid e1
    go_enter Try.func130, Try.ntmps130
    go_wp2_with fail
    go_ret
    exact ⟨ret_bool (by rw [E1.out]; simp), .alloc (.alloc (.refl _) _) _⟩
theorem eqTy_impl : ∀ x y, EqTyC 130 x y := by
  refine GType.ind fun v0 v1 xs ih => ?_
  exact eqTy_impl_of v0 v1 xs ih

set_option maxHeartbeats 2000000 in
theorem eqGoal_impl (x y : GBound) (cs ds : List Value) (w : World) (hr : RepL w x.tr cs) (hs : RepL w y.tr ds) :
    Calls Try.prog 58 #[.agg ⟨cs⟩, .agg ⟨ds⟩] w fun e w' => e = .returned (.bool (GBound.eq x y)) ∧ Ext w w' := by
  obtain ⟨n, ⟨k, s, xs⟩⟩ := x
  obtain ⟨m, ⟨l, u, ys⟩⟩ := y
  obtain ⟨x1, rfl, -, h1⟩ := GBound.opened hr
  obtain ⟨y1, rfl, -, h1'⟩ := GBound.opened hs
  have hcall := Lib.hid (fun w' hx => eqTy_impl _ _ _ _ w' (h1.ext hx) (h1'.ext hx))
  obtain ⟨a, c, rfl, -, -, -⟩ := GType.opened h1
  obtain ⟨a', c', rfl, -, -, -⟩ := GType.opened h1'
  clear hr hs h1 h1'
  simp only [GBound.eq, List.cons_append, List.nil_append] at *
  by_cases h2 : n = m
  · subst h2
    go_enter Try.func58, Try.ntmps58
    go_wp2_with fail
    refine (hcall.out _ (.alloc (.alloc (.refl _) _) _)).mono ?_
    rintro e w1 ⟨rfl, hw1⟩
    have HW1 := Lib.hid hw1
    clear hw1
    generalize hz : GType.eq (.mk k s xs) (.mk l u ys) = z at *
    have HZ := Lib.hid hz
    clear hz
    go_wp2_with fail
    go_ret
    exact ⟨ret_bool (by simp [HZ.out, bytes_beq_self]), .trans (.alloc (.alloc (.refl _) _) _) HW1.out⟩
  · have e2 : ¬ n.toList = m.toList := fun h => h2 (bytes_inj h)
    go_enter Try.func58, Try.ntmps58
    go_wp2_with fail
    go_ret
    exact ⟨ret_bool (by simp [bytes_beq_ne h2]), .alloc (.alloc (.refl _) _) _⟩

end Go.Proofs.Ytoifjkggpanceaa

namespace Go.Proofs.Ytoifjkggpanceaa
set_option linter.unusedSimpArgs false
set_option linter.unusedVariables false
open Go.RowKit Go.Proofs

theorem atD_range {n i : Nat} (h : i < n) : atD (List.range n) i = i := by rw [atD_eq (by simpa using h)]; simp
theorem eqs_len : ∀ {l r : List GType}, GType.eqs l r = true → l.length = r.length
  | [], [], _ => rfl
  | [], _ :: _, h => by simp [GType.eqs] at h
  | _ :: _, [], h => by simp [GType.eqs] at h
  | a :: l, b :: r, h => by
    simp only [GType.eqs, Bool.and_eq_true] at h
    simp [eqs_len h.2]
theorem eqs_range : ∀ {l r : List GType}, l.length = r.length → GType.eqs l r = (List.range l.length).all fun i => GType.eq (atD l i) (atD r i)
  | [], [], _ => rfl
  | [], _ :: _, h => by simp at h
  | _ :: _, [], h => by simp at h
  | a :: l, b :: r, h => by
    rw [GType.eqs, List.length_cons, List.range_succ_eq_map, List.all_cons, List.all_map, eqs_range (l := l) (r := r) (by simpa using h)]
    rfl
theorem sl4Same_ev {xs ys : List GType} (h : ∀ i, i < xs.length → i < ys.length → Evt fun fu => sEqualType_M fu (atD xs i) (atD ys i) = some (GType.eq (atD xs i) (atD ys i))) : Evt fun fu => sl4Same_M fu xs ys = some (GType.eqs xs ys) := by
  refine Evt.succ ?_
  by_cases hl : xs.length = ys.length
  · refine (Evt.below (k := xs.length) fun i hi => h i hi (by omega)).imp fun fu hf => ?_
    simp only [sl4Same_M, sl4Same_G]
    have hd : (!decide ((((xs.length : Nat) : Int) : Int) = ((ys.length : Nat) : Int))) = false := by simp [hl]
    rw [hd]
    have hr : ∀ fu', ∀ (r1 : GType → GType → Option Bool), (∀ i, i < xs.length → r1 (atD xs i) (atD ys i) = some (GType.eq (atD xs i) (atD ys i))) → sl4Same_R1 fu' r1 (sl4Same_M fu) xs ys = some (if (List.range xs.length).all (fun i => GType.eq (atD xs i) (atD ys i)) then .inr () else .inl false) := by
      intro fu' r1 h1
      unfold sl4Same_R1
      have := loopN_every (l := List.range xs.length) (f := sl4Same_F1 fu' r1 (sl4Same_M fu) xs ys) (p := fun i => GType.eq (atD xs i) (atD ys i)) (r := false) (s := ()) fun i hi => by
        have hi' : i < xs.length := by simpa using hi
        rw [atD_range hi', sl4Same_F1]
        rw [gdT (by omega) rfl, bdS (h1 i hi') rfl]
        cases GType.eq (atD xs i) (atD ys i) <;> rfl
      rwa [List.length_range] at this
    rw [hr fu _ hf, eqs_range hl]
    cases (List.range xs.length).all fun i => GType.eq (atD xs i) (atD ys i) <;> rfl
  · refine .all fun fu => ?_
    simp only [sl4Same_M, sl4Same_G]
    have hd : (!decide ((((xs.length : Nat) : Int) : Int) = ((ys.length : Nat) : Int))) = true := by simp; omega
    rw [hd]
    cases hq : GType.eqs xs ys
    · rfl
    · exact absurd (eqs_len hq) hl
theorem sEqualType_ev : ∀ a b : GType, Evt fun fu => sEqualType_M fu a b = some (GType.eq a b) := by
  refine GType.ind fun k n xs ih => ?_
  rintro ⟨l, m, ys⟩
  refine Evt.succ ((sl4Same_ev (xs := xs) (ys := ys) fun i hi hj => ih _ (atD_mem hi) _).imp fun fu hf => ?_)
  simp only [sEqualType_M, sEqualType_G, GType.gKind_mk, GType.gName_mk, GType.gArgs_mk, hf, GType.eq]
  by_cases h1 : k = l
  · subst h1
    by_cases h2 : n = m
    · subst h2
      simp [sw, bd, bytes_beq_self]
    · simp [sw, h2, bytes_beq_ne]
  · have : (k == l) = false := by simpa using h1
    simp [sw, h1, this]
theorem sEqualType_fn (a b : GType) : AFun Try.prog 169 [(GType.pv a), (GType.pv b)] (.t (.leaf (.bool (GType.eq a b)))) := by
  obtain ⟨fu, h⟩ := (sEqualType_ev a b).get
  exact sEqualType_ok fu a b _ h
theorem sl4Same_fn (a b : List GType) : AFun Try.prog 206 [.t (.row 3 (GType.trs a)), .t (.row 3 (GType.trs b))] (.t (.leaf (.bool (GType.eqs a b)))) := by
  obtain ⟨fu, h⟩ := (sl4Same_ev (xs := a) (ys := b) fun i hi hj => sEqualType_ev _ _).get
  exact sl4Same_ok fu a b _ h
theorem iEqualFunc_ev {xs ys : List GType} (h : ∀ i, i < xs.length → i < ys.length → Evt fun fu => iEqualType_M fu (atD xs i) (atD ys i) = some (GType.eq (atD xs i) (atD ys i))) : Evt fun fu => gEqualFunc_Type__iEqualType_M fu xs ys = some (GType.eqs xs ys) := by
  refine Evt.succ ?_
  by_cases hl : xs.length = ys.length
  · refine (Evt.below (k := xs.length) fun i hi => h i hi (by omega)).imp fun fu hf => ?_
    simp only [gEqualFunc_Type__iEqualType_M, gEqualFunc_Type__iEqualType_G]
    have hd : (!decide ((((xs.length : Nat) : Int) : Int) = ((ys.length : Nat) : Int))) = false := by simp [hl]
    rw [hd]
    have hr : gEqualFunc_Type__iEqualType_R1 fu (iEqualType_M fu) (gEqualFunc_Type__iEqualType_M fu) xs ys = some (if (List.range xs.length).all (fun i => GType.eq (atD xs i) (atD ys i)) then .inr () else .inl false) := by
      unfold gEqualFunc_Type__iEqualType_R1
      have := loopN_every (l := List.range xs.length) (f := gEqualFunc_Type__iEqualType_F1 fu (iEqualType_M fu) (gEqualFunc_Type__iEqualType_M fu) xs ys) (p := fun i => GType.eq (atD xs i) (atD ys i)) (r := false) (s := ()) fun i hi => by
        have hi' : i < xs.length := by simpa using hi
        rw [atD_range hi', gEqualFunc_Type__iEqualType_F1]
        rw [gdT (by omega) rfl, bdS (hf i hi') rfl]
        cases GType.eq (atD xs i) (atD ys i) <;> rfl
      rwa [List.length_range] at this
    rw [hr, eqs_range hl]
    cases (List.range xs.length).all fun i => GType.eq (atD xs i) (atD ys i) <;> rfl
  · refine .all fun fu => ?_
    simp only [gEqualFunc_Type__iEqualType_M, gEqualFunc_Type__iEqualType_G]
    have hd : (!decide ((((xs.length : Nat) : Int) : Int) = ((ys.length : Nat) : Int))) = true := by simp; omega
    rw [hd]
    cases hq : GType.eqs xs ys
    · rfl
    · exact absurd (eqs_len hq) hl
theorem iEqualType_ev : ∀ a b : GType, Evt fun fu => iEqualType_M fu a b = some (GType.eq a b) := by
  refine GType.ind fun k n xs ih => ?_
  rintro ⟨l, m, ys⟩
  refine Evt.succ ((iEqualFunc_ev (xs := xs) (ys := ys) fun i hi hj => ih _ (atD_mem hi) _).imp fun fu hf => ?_)
  simp only [iEqualType_M, iEqualType_G, GType.gKind_mk, GType.gName_mk, GType.gArgs_mk, hf, GType.eq]
  by_cases h1 : k = l
  · subst h1
    by_cases h2 : n = m
    · subst h2
      simp [sw, bd, bytes_beq_self]
    · simp [sw, h2, bytes_beq_ne]
  · have : (k == l) = false := by simpa using h1
    simp [sw, h1, this]
theorem iEqualType_fn (a b : GType) : AFun Try.prog 130 [(GType.pv a), (GType.pv b)] (.t (.leaf (.bool (GType.eq a b)))) := by
  obtain ⟨fu, h⟩ := (iEqualType_ev a b).get
  exact iEqualType_ok fu a b _ h
theorem foldl_snoc {α : Type} : ∀ (l a : List α), l.foldl (fun s x => s ++ [x]) a = a ++ l
  | [], a => by simp
  | x :: l, a => by rw [List.foldl_cons, foldl_snoc l]; simp
theorem bulk_mem {xs : List GType} : ∀ {x : GType}, x ∈ xs → Tr.bulkL x.tr ≤ Tr.bulkAll (GType.trs xs) := by
  induction xs with
  | nil => intro x hx; simp at hx
  | cons a l ih =>
    intro x hx
    simp only [GType.trs, Tr.bulkAll]
    rcases List.mem_cons.1 hx with rfl | hx
    · omega
    · have := ih hx; omega
theorem bulk_args (k : Int) (n : ByteArray) (xs : List GType) : xs.length + Tr.bulkAll (GType.trs xs) ≤ Tr.bulkL (GType.mk k n xs).tr := by
  simp only [GType.tr, Tr.bulkL_append, Tr.bulkL, Tr.bulk, GType.trs_len]
  omega
theorem sl4Copies_ev {xs : List GType} (hb : xs.length ≤ 68719476735) (h : ∀ x ∈ xs, Evt fun fu => sl4Copy_M fu x = some x) : Evt fun fu => sl4Copies_M fu xs = some xs := by
  refine Evt.succ ((Evt.list h).imp fun fu hf => ?_)
  simp only [sl4Copies_M, sl4Copies_G, sl4Copies_R1]
  rw [loopN_fold0 (l := xs) (g := fun s x => s ++ [x]) (fun i s => s.length = i) (fun i s hi hp => ⟨?_, by simp [hp]⟩) rfl, foldl_snoc]
  · rfl
  · rw [sl4Copies_F1, bdS (hf _ (atD_mem hi)) rfl, gdT (by simp; omega) rfl]
theorem sl4Copy_ev : ∀ t : GType, Tr.bulkL t.tr ≤ 68719476735 → Evt fun fu => sl4Copy_M fu t = some t := by
  refine GType.ind fun k n xs ih hb => ?_
  have h1 := bulk_args k n xs
  refine Evt.succ ((sl4Copies_ev (xs := xs) (by omega) fun x hx => ih x hx (by have := bulk_mem hx; omega)).imp fun fu hf => ?_)
  simp only [sl4Copy_M, sl4Copy_G, GType.gKind_mk, GType.gName_mk, GType.gArgs_mk, hf, bd]
theorem sl4Copy_fn (t : GType) (hb : Tr.bulkL t.tr ≤ 68719476735) : AFun Try.prog 170 [(GType.pv t)] (GType.pv t) := by
  obtain ⟨fu, h⟩ := (sl4Copy_ev t hb).get
  exact sl4Copy_ok fu t _ h
theorem sl4Copies_fn (l : List GType) (hb : l.length + Tr.bulkAll (GType.trs l) ≤ 68719476735) : AFun Try.prog 204 [.t (.row 3 (GType.trs l))] (.t (.row 3 (GType.trs l))) := by
  obtain ⟨fu, h⟩ := (sl4Copies_ev (xs := l) (by omega) fun x hx => sl4Copy_ev x (by have := bulk_mem hx; omega)).get
  exact sl4Copies_ok fu l _ h
/-- A slice filled in order. -/
theorem loopN_fill {α β : Type} [Inhabited α] {f : Nat → List α → Option (LR (List α) β)} {l : List α} {g : α → α} (hs : ∀ i s, i < l.length → s.length = i → f i s = some (.next (s ++ [g (atD l i)]))) : loopN f (l.length - 0) 0 [] = some (.inr (l.map g)) := by
  rw [loopN_fold0 (l := l) (g := fun s x => s ++ [g x]) (fun i s => s.length = i) (fun i s hi hp => ⟨hs i s hi hp, by simp [hp]⟩) rfl]
  have key : ∀ (l a : List α), l.foldl (fun s x => s ++ [g x]) a = a ++ l.map g := by
    intro l
    induction l with
    | nil => intro a; simp
    | cons x l ih => intro a; rw [List.foldl_cons, ih]; simp
  rw [key, List.nil_append]
theorem icopyTypes_ev {xs : List GType} (hb : xs.length ≤ 68719476735) (h : ∀ x ∈ xs, Evt fun fu => icopyType_M fu x = some x) : Evt fun fu => icopyTypes_M fu xs = some xs := by
  refine Evt.succ ((Evt.list h).imp fun fu hf => ?_)
  simp only [icopyTypes_M, icopyTypes_G]
  rw [gdT (by omega) rfl]
  have hR : icopyTypes_R1 fu (icopyType_M fu) (icopyTypes_M fu) xs = some (.inr xs) := by
    unfold icopyTypes_R1
    rw [loopN_fill (l := xs) (g := id) fun i s hi hp => ?_, List.map_id]
    rw [icopyTypes_F1, bdS (hf _ (atD_mem hi)) rfl, gdT (by omega) rfl]
    rfl
  rw [soR hR rfl, gdT rfl rfl]
theorem icopyType_ev : ∀ t : GType, Tr.bulkL t.tr ≤ 68719476735 → Evt fun fu => icopyType_M fu t = some t := by
  refine GType.ind fun k n xs ih hb => ?_
  have h1 := bulk_args k n xs
  refine Evt.succ ((icopyTypes_ev (xs := xs) (by omega) fun x hx => ih x hx (by have := bulk_mem hx; omega)).imp fun fu hf => ?_)
  simp only [icopyType_M, icopyType_G, GType.gKind_mk, GType.gName_mk, GType.gArgs_mk, hf, bd]
theorem icopyType_fn (t : GType) (hb : Tr.bulkL t.tr ≤ 68719476735) : AFun Try.prog 118 [(GType.pv t)] (GType.pv t) := by
  obtain ⟨fu, h⟩ := (icopyType_ev t hb).get
  exact icopyType_ok fu t _ h
theorem icopyTypes_fn (l : List GType) (hb : l.length + Tr.bulkAll (GType.trs l) ≤ 68719476735) : AFun Try.prog 171 [.t (.row 3 (GType.trs l))] (.t (.row 3 (GType.trs l))) := by
  obtain ⟨fu, h⟩ := (icopyTypes_ev (xs := l) (by omega) fun x hx => icopyType_ev x (by have := bulk_mem hx; omega)).get
  exact icopyTypes_ok fu l _ h
end Go.Proofs.Ytoifjkggpanceaa
