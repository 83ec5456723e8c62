/- Words, rules and walks of several kinds, laid together: MaFmtI, PmQ2, MaFmtS, Pl, PlOk, FgN, FgT, FgE, FgV, FgX, FgZ. No conditions but those that each theorem states. -/
import Derived.Test.YtmpepccpnnldoaaGreatQh26493c2d
import Derived.Test.YtmpepccpnnldoaaGreatQhb90f6f50
import Derived.Lib.AppendStr
import Derived.Test.YtmpepccpnnldoaaGreatQhc4eb6a9a
set_option linter.unusedSimpArgs false
set_option linter.unusedVariables false
namespace Go.Proofs.YtmpepccpnnldoaaGreat
set_option maxRecDepth 100000
set_option maxHeartbeats 40000000
noncomputable section
open Go.RowKit Go.Proofs
set_option linter.unusedSimpArgs false
set_option linter.unusedVariables false

attribute [local irreducible] lt

def gIndex_string_T (m : (List ByteArray) → ByteArray → Option Int) : Prop := ∀ (ps : List ByteArray) (pv : ByteArray) (r : Int), m ps pv = some r → AFun Tryz.prog 98 [rS ps, pS pv] (pI r : PV)
def gIndex_string_F1 (fu : Nat) (ps : List ByteArray) (pv : ByteArray) : Nat → Unit → Option (LR Unit Int) :=
 fun i1 _ => sw (decide (pv = atD ps i1))
 (some (.ret ((i1 : Nat) : Int)))
 (some (.next ()))
def gIndex_string_R1 (fu : Nat) (ps : List ByteArray) (pv : ByteArray) : Option (Int ⊕ Unit) :=
 loopN (gIndex_string_F1 fu ps pv) (ps.length - 0) 0 ()
def gIndex_string_M (fu : Nat) (ps : List ByteArray) (pv : ByteArray) : Option Int :=
 so (gIndex_string_R1 fu ps pv) (fun _ =>
 some (-1))
theorem gIndex_string_ok (fu : Nat)   : gIndex_string_T (gIndex_string_M fu) := by
  intro ps pv r H
  have H := hd0 H
  refine qI Tryz.func98 (fun C hC => ?_)
  refine qS (qR (q1 rMv (qN ?_)))
  iterate 2 refine qS ?_
  refine qR (q1 rMv (q1 (rLn el39 (strTrs_len _)) (q1 rMv (qN ?_))))
  refine lenF 0 (strTrs_len _) (fun hl2 => ?_)
  refine loopB (σ := Unit) (fun i1 _ => ⟨[(0, rS ps), (1, pS pv), (4, pI 0), (7, pN ps.length), (8, pN i1)], ⟨[], []⟩⟩) (fun _ => ⟨[(4, pI 0)], ⟨[], []⟩⟩) (soI H) ?_ ?_
  · rintro i1 ⟨⟩ H
    refine qS (qR (q1 rLt (qN (qS ?_))))
    refine cndL H (fun h3 h3l H => ?_) (fun h3 H => ?_)
    · have h3n := nat_lt_of h3
      refine AWP.skip (qS (AWP.block (qS (qR ?_))))
      iterate 2 refine q1 rMv ?_
      refine qN (qS (qR ?_))
      iterate 3 refine q1 rMv ?_
      refine q1 (rIx h3n el39) (q1 (rK1 sh9) (q1 rSe (qN ?_)))
      refine cndB H (fun h4 H => ?_) (fun h4 H => ?_)
      · refine qS (qR ?_)
        iterate 2 refine q1 rMv ?_
        refine qN (AWP.ret ?_)
        obtain rfl : _ = r := (lkR (smI H) :)
        exact qe1
      refine AWP.skip (qR (q1 (AOp.addI rfl rfl rfl rfl (c := ((i1 + 1 : Nat) : Int)) (by omega) (by omega)) (q1 rMv (qN ?_))))
      exact lpN h3l ⟨_, (smI H :), wkA⟩
    refine AWP.exit ?_; exact lpX ⟨_, H, wkA⟩
  rintro ⟨⟩ H
  refine qS (qR (q1 rMv (qN (AWP.ret ?_))))
  obtain rfl : _ = r := (smI H :)
  exact qe1

def gContains_string_T (m : (List ByteArray) → ByteArray → Option Bool) : Prop := ∀ (ps : List ByteArray) (pv : ByteArray) (r : Bool), m ps pv = some r → AFun Tryz.prog 85 [rS ps, pS pv] (pB r : PV)
def gContains_string_M (fu : Nat) (ps : List ByteArray) (pv : ByteArray) : Option Bool :=
 bd (gIndex_string_M fu ps pv) (fun x2 =>
 some (decide ((x2 : Int) ≥ 0)))
theorem gContains_string_ok (fu : Nat)   : gContains_string_T (gContains_string_M fu) := by
  intro ps pv r H
  have H := hd0 H
  refine qI Tryz.func85 (fun C hC => ?_)
  refine qS (qR (q1 rMv (qN (qS (qR ?_)))))
  iterate 2 refine q1 rMv ?_
  refine bdE H fun x2 z1 H => (q1 (rCf Tryz.func98 (gIndex_string_ok fu ps pv _ z1)) (q1 rGe (q1 rMv (qN (AWP.ret ?_)))))
  obtain rfl : _ = r := (smI H :)
  exact qe1

def iIsReserved_T (m : ByteArray → Option Bool) : Prop := ∀ (ps : ByteArray) (r : Bool), m ps = some r → AFun Tryz.prog 60 [pS ps] (pB r : PV)
def iIsReserved_M (fu : Nat) (ps : ByteArray) : Option Bool :=
 bd (gContains_string_M fu ([s_int, s_bool, s_assoc, s_dyn, s_if, s_let, s_case, s_new, s_method, s_pack, s_true, s_false] : List ByteArray) ps) (fun x2 =>
 some x2)
theorem iIsReserved_ok (fu : Nat)   : iIsReserved_T (iIsReserved_M fu) := by
  intro ps r H
  have H := hd0 H
  refine qI Tryz.func60 (fun C hC => ?_)
  refine qS (qR (q1 rMv (qN (qS (qR (q1 (rBs ([s_int, s_bool, s_assoc, s_dyn, s_if, s_let, s_case, s_new, s_method, s_pack, s_true, s_false] : List ByteArray) el39 zr9) (q1 rMv (bdE H fun x2 z1 H => (q1 (rCf Tryz.func85 (gContains_string_ok fu ([s_int, s_bool, s_assoc, s_dyn, s_if, s_let, s_case, s_new, s_method, s_pack, s_true, s_false] : List ByteArray) ps _ z1)) (q1 rMv (qN (AWP.ret ?_))))))))))))
  obtain rfl : _ = r := (smI H :)
  exact qe1

def iIsValidName_T (m : ByteArray → Option Bool) : Prop := ∀ (ps : ByteArray) (r : Bool), m ps = some r → AFun Tryz.prog 30 [pS ps] (pB r : PV)
def iIsValidName_F1 (fu : Nat) (ps : ByteArray) : Nat → Unit → Option (LR Unit Bool) :=
 fun i1 _ => gd (i1 < (ps).size)
 (bd (iisLower_M fu (bAt ps i1)) (fun x6 =>
 sw (!(x6))
 (sw (decide ((((i1 : Nat) : Int) : Int) = 0))
 (some (.ret false))
 (bd (iisDigit_M fu (bAt ps i1)) (fun x10 =>
 sw (!(x10))
 (some (.ret false))
 (some (.next ())))))
 (some (.next ()))))
def iIsValidName_R1 (fu : Nat) (ps : ByteArray) : Option (Bool ⊕ Unit) :=
 loopN (iIsValidName_F1 fu ps) (ps.size - 0) 0 ()
def iIsValidName_M (fu : Nat) (ps : ByteArray) : Option Bool :=
 so (iIsValidName_R1 fu ps) (fun _ =>
 sw (decide ((((ps.size : Nat) : Int) : Int) ≥ 1))
 (sw (decide ((((ps.size : Nat) : Int) : Int) ≤ 8))
 (bd (iIsReserved_M fu ps) (fun x15 =>
 some (!(x15))))
 (some false))
 (some false))
theorem iIsValidName_ok (fu : Nat)   : iIsValidName_T (iIsValidName_M fu) := by
  intro ps r H
  have H := hd0 H
  refine qI Tryz.func30 (fun C hC => ?_)
  refine qS (qR (q1 rMv (qN ?_)))
  iterate 2 refine qS ?_
  refine qR (q1 rMv (q1 (AOp.lenS rfl rfl rfl Tryz.underlying9) (q1 rMv (qN ?_))))
  refine szF 0 (fun hl2 => ?_)
  refine loopB (σ := Unit) (fun i1 _ => ⟨[(0, pS ps), (2, pB false), (5, pN ps.size), (6, pN i1)], ⟨[], []⟩⟩) (fun _ => ⟨[(0, pS ps), (2, pB false)], ⟨[], []⟩⟩) (soI H) ?_ ?_
  · rintro i1 ⟨⟩ H
    refine qS (qR (q1 rLt (qN (qS ?_))))
    refine cndL H (fun h3 h3l H => ?_) (fun h3 H => ?_)
    · have h3n : i1 < ps.size := by have := of_decide_eq_true h3; omega
      refine AWP.skip (qS (AWP.block (qS (qR ?_))))
      iterate 2 refine q1 rMv ?_
      refine qN (qS (qR ?_))
      iterate 2 refine q1 rMv ?_
      refine gdE H fun z4 H => (q1 (AOp.indexS (k := i1) rfl rfl rfl rfl z4 Tryz.underlying9) (bdE H fun x6 z5 H => (q1 (rCf Tryz.func58 (iisLower_ok fu (bAt ps i1) _ z5)) (q1 rNo (q1 rMv ?_)))))
      refine spB 14 H (fun g7 H => ?_) fun g7 H => ?_
      · refine qg g7 rMv (qg g7 rEq (qg g7 rMv ?_))
        refine spB 17 H (fun g8 H => ?_) fun g8 H => ?_
        · refine qk g8 ?_
          iterate 4 refine qk g8 ?_
          refine qg g7 (rPt g8) (q1 (rPt g7) (qN (cndT rfl (qS (qR (q1 rMv (qN (AWP.ret ?_))))))))
          obtain rfl : _ = r := (lkR (smI H) :)
          exact qe1
        iterate 2 refine qg g8 rMv ?_
        refine qg g8 (AOp.indexS (k := i1) rfl rfl rfl rfl z4 Tryz.underlying9) (bdE H fun x10 z9 H => (qg g8 (rCf Tryz.func59 (iisDigit_ok fu (bAt ps i1) _ z9)) (qg g8 rNo (qg g7 (rPf g8) (q1 (rPt g7) (qN ?_))))))
        refine cndB H (fun h11 H => ?_) (fun h11 H => ?_)
        · refine qS (qR (q1 rMv (qN (AWP.ret ?_))))
          obtain rfl : _ = r := (lkR (smI H) :)
          exact qe1
        refine AWP.skip (qR (q1 (AOp.addI rfl rfl rfl rfl (c := ((i1 + 1 : Nat) : Int)) (by omega) (by omega)) (q1 rMv (qN ?_))))
        exact lpN h3l ⟨_, (smI H :), wkA⟩
      iterate 3 refine qk g7 ?_
      iterate 5 refine qku ?_
      refine qk g7 (q1 (rPf g7) (qN (cndF rfl (AWP.skip (qR (q1 (AOp.addI rfl rfl rfl rfl (c := ((i1 + 1 : Nat) : Int)) (by omega) (by omega)) (q1 rMv (qN ?_))))))))
      exact lpN h3l ⟨_, (smI H :), wkA⟩
    refine AWP.exit ?_; exact lpX ⟨_, H, wkA⟩
  rintro ⟨⟩ H
  refine qS (qR (q1 rMv (q1 (AOp.lenS rfl rfl rfl Tryz.underlying9) (q1 rGe (q1 rMv ?_)))))
  refine spB 29 H (fun g12 H => ?_) fun g12 H => ?_
  · refine qg g12 rMv (qg g12 (AOp.lenS rfl rfl rfl Tryz.underlying9) (qg g12 rLe (q1 (rPt g12) (q1 rMv ?_))))
    refine spB 34 H (fun g13 H => ?_) fun g13 H => ?_
    · refine qg g13 rMv (bdE H fun x15 z14 H => (qg g13 (rCf Tryz.func60 (iIsReserved_ok fu ps _ z14)) (qg g13 rNo (q1 (rPt g13) (q1 rMv (qN (AWP.ret ?_)))))))
      obtain rfl : _ = r := (smI H :)
      exact qe1
    iterate 3 refine qk g13 ?_
    refine q1 (rPf g13) (q1 rMv (qN (AWP.ret ?_)))
    obtain rfl : _ = r := (smI H :)
    exact qe1
  iterate 3 refine qk g12 ?_
  refine q1 (rPf g12) (q1 rMv ?_)
  iterate 3 refine qk rfl ?_
  refine q1 (rPf rfl) (q1 rMv (qN (AWP.ret ?_)))
  obtain rfl : _ = r := (smI H :)
  exact qe1

def iisBuiltIn_T (m : ByteArray → Option Bool) : Prop := ∀ (pname : ByteArray) (r : Bool), m pname = some r → AFun Tryz.prog 86 [pS pname] (pB r : PV)
def iisBuiltIn_M (fu : Nat) (pname : ByteArray) : Option Bool :=
 sw (decide (pname = s_int))
 (some true)
 (some (decide (pname = s_bool)))
theorem iisBuiltIn_ok (fu : Nat)   : iisBuiltIn_T (iisBuiltIn_M fu) := by
  intro pname r H
  have H := hd0 H
  refine qI Tryz.func86 (fun C hC => ?_)
  refine qS (qR (q1 rMv (qN (qS (qR (q1 rMv (q1 rSe (q1 rMv ?_))))))))
  refine spB 5 H (fun g1 H => ?_) fun g1 H => ?_
  · refine qk g1 (qk g1 (q1 (rPt g1) (q1 rMv (qN (AWP.ret ?_)))))
    obtain rfl : _ = r := (smI H :)
    exact qe1
  refine qg g1 rMv (qg g1 rSe (q1 (rPf g1) (q1 rMv (qN (AWP.ret ?_)))))
  obtain rfl : _ = r := (smI H :)
  exact qe1

abbrev iisFormed_Y := GType → Option Bool
abbrev iisFormed_1_Y := GType → Option Bool
abbrev gContainsFunc_Type__iisFormed_1_Y := (List GType) → Option Bool
abbrev gIndexFunc_Type__iisFormed_1_Y := (List GType) → Option Int
def iisFormed_T (m : iisFormed_Y) : Prop := ∀ (pt : GType) (r : Bool), m pt = some r → AFun Tryz.prog 61 [(GType.pv pt)] (pB r : PV)
def iisFormed_1_T (m : iisFormed_1_Y) : Prop := ∀ (pa : GType) (r : Bool), m pa = some r → AFun Tryz.prog 88 [(GType.pv pa)] (pB r : PV)
def gContainsFunc_Type__iisFormed_1_T (m : gContainsFunc_Type__iisFormed_1_Y) : Prop := ∀ (ps : List GType) (r : Bool), m ps = some r → AFun Tryz.prog 87 [rType ps, .fn 88 []] (pB r : PV)
def gIndexFunc_Type__iisFormed_1_T (m : gIndexFunc_Type__iisFormed_1_Y) : Prop := ∀ (ps : List GType) (r : Int), m ps = some r → AFun Tryz.prog 99 [rType ps, .fn 88 []] (pI r : PV)
def iisFormed_C1 (fu : Nat) (r_iisFormed : iisFormed_Y) (r_iisFormed_1 : iisFormed_1_Y) (r_gContainsFunc_Type__iisFormed_1 : gContainsFunc_Type__iisFormed_1_Y) (r_gIndexFunc_Type__iisFormed_1 : gIndexFunc_Type__iisFormed_1_Y) (pt : GType) : Option (Bool ⊕ Bool) :=
 sw (decide ((pt.gKind : Int) = 1))
 (some (.inr (decide ((pt.gKind : Int) = 1))))
 (some (.inr (decide ((pt.gKind : Int) = 4))))
def iisFormed_G (fu : Nat) (r_iisFormed : iisFormed_Y) (r_iisFormed_1 : iisFormed_1_Y) (r_gContainsFunc_Type__iisFormed_1 : gContainsFunc_Type__iisFormed_1_Y) (r_gIndexFunc_Type__iisFormed_1 : gIndexFunc_Type__iisFormed_1_Y) (pt : GType) : Option Bool :=
 so (iisFormed_C1 fu r_iisFormed r_iisFormed_1 r_gContainsFunc_Type__iisFormed_1 r_gIndexFunc_Type__iisFormed_1 pt) (fun v1 =>
 sw (v1)
 (bd (iIsValidName_M fu pt.gName) (fun x5 =>
 sw (x5)
 (sw (decide ((((pt.gArgs.length : Nat) : Int) : Int) = 0))
 (bd (r_gContainsFunc_Type__iisFormed_1 pt.gArgs) (fun x9 =>
 some (!(x9))))
 (some false))
 (some false)))
 (sw (decide ((pt.gKind : Int) = 3))
 (bd (iIsValidName_M fu pt.gName) (fun x12 =>
 sw (x12)
 (sw (decide ((((pt.gArgs.length : Nat) : Int) : Int) = 1))
 (bd (r_gContainsFunc_Type__iisFormed_1 pt.gArgs) (fun x16 =>
 some (!(x16))))
 (some false))
 (some false)))
 (sw (decide ((pt.gKind : Int) = 2))
 (bd (iIsValidName_M fu pt.gName) (fun x19 =>
 sw (x19)
 (sw (decide ((((pt.gArgs.length : Nat) : Int) : Int) ≤ 3))
 (bd (r_gContainsFunc_Type__iisFormed_1 pt.gArgs) (fun x23 =>
 some (!(x23))))
 (bd (iisBuiltIn_M fu pt.gName) (fun x25 =>
 sw (x25)
 (sw (decide ((((pt.gArgs.length : Nat) : Int) : Int) = 0))
 (bd (r_gContainsFunc_Type__iisFormed_1 pt.gArgs) (fun x29 =>
 some (!(x29))))
 (some false))
 (some false))))
 (bd (iisBuiltIn_M fu pt.gName) (fun x31 =>
 sw (x31)
 (sw (decide ((((pt.gArgs.length : Nat) : Int) : Int) = 0))
 (bd (r_gContainsFunc_Type__iisFormed_1 pt.gArgs) (fun x35 =>
 some (!(x35))))
 (some false))
 (some false)))))
 (some false))))
theorem iisFormed_step (fu : Nat) (r_iisFormed : iisFormed_Y) (r_iisFormed_1 : iisFormed_1_Y) (r_gContainsFunc_Type__iisFormed_1 : gContainsFunc_Type__iisFormed_1_Y) (r_gIndexFunc_Type__iisFormed_1 : gIndexFunc_Type__iisFormed_1_Y) (h_iisFormed : iisFormed_T r_iisFormed) (h_iisFormed_1 : iisFormed_1_T r_iisFormed_1) (h_gContainsFunc_Type__iisFormed_1 : gContainsFunc_Type__iisFormed_1_T r_gContainsFunc_Type__iisFormed_1) (h_gIndexFunc_Type__iisFormed_1 : gIndexFunc_Type__iisFormed_1_T r_gIndexFunc_Type__iisFormed_1) : iisFormed_T (iisFormed_G fu r_iisFormed r_iisFormed_1 r_gContainsFunc_Type__iisFormed_1 r_gIndexFunc_Type__iisFormed_1) := by
  intro pt r H
  have H := hd0 H
  refine qI Tryz.func61 (fun C hC => ?_)
  refine qS (qR (q1 (rBx (cType pt)) (q1 rMv (qN (qS (qR (q1 rMv (qN ?_))))))))
  iterate 2 refine qS ?_
  refine qR (q1 (rFp fo26_0) (q1 (rL1 sh3) (qN (AWP.block (qS ?_)))))
  refine cutB (σ := Bool) (fun v1 => ⟨[(1, .ptr 0 0), (2, pB false), (3, pB false), (5, pI pt.gKind), (6, pB v1)], ⟨[some ⟨26, cType pt⟩], []⟩⟩) (soI H) (fun H => ?_) ?_
  · refine qS (qR (q1 rEq (q1 rMv (qN ?_))))
    refine cndB H (fun h2 H => ?_) (fun h2 H => ?_)
    · refine AWP.skip ?_; exact cutX ⟨_, (smI H :), wkA⟩
    refine qR (q1 rEq (q1 rMv (qN ?_)))
    exact cutX ⟨_, (smI H :), wkA⟩
  rintro v1 H
  refine cndB H (fun h3 H => ?_) (fun h3 H => ?_)
  · refine qR (q1 (rFp fo26_1) (q1 (rL1 sh9) (bdE H fun x5 z4 H => (q1 (rCf Tryz.func30 (iIsValidName_ok fu pt.gName _ z4)) (q1 rMv ?_)))))
    refine spB 12 H (fun g6 H => ?_) fun g6 H => ?_
    · refine qg g6 (rFp fo26_2) (qg g6 (rL1 sh24) (qg g6 (rLn el24 (GType.trs_len _)) (qg g6 rEq (q1 (rPt g6) (q1 rMv (qN (qS (qR ?_))))))))
      iterate 2 refine q1 rMv ?_
      refine spB 52 H (fun g7 H => ?_) fun g7 H => ?_
      · refine qg g7 (rFp fo26_2) (qg g7 (rL1 sh24) (bdE H fun x9 z8 H => (qg g7 (rCf Tryz.func87 (h_gContainsFunc_Type__iisFormed_1 pt.gArgs _ z8)) (qg g7 rNo (q1 (rPt g7) (q1 rMv (qN (AWP.ret ?_))))))))
        obtain rfl : _ = r := (smI H :)
        exact qe1
      iterate 4 refine qk g7 ?_
      refine q1 (rPf g7) (q1 rMv (qN (AWP.ret ?_)))
      obtain rfl : _ = r := (smI H :)
      exact qe1
    iterate 4 refine qk g6 ?_
    refine q1 (rPf g6) (q1 rMv (qN (qS (qR ?_))))
    iterate 2 refine q1 rMv ?_
    iterate 4 refine qk rfl ?_
    refine q1 (rPf rfl) (q1 rMv (qN (AWP.ret ?_)))
    obtain rfl : _ = r := (smI H :)
    exact qe1
  refine qS (qR (q1 rEq (q1 rMv (qN ?_))))
  refine cndB H (fun h10 H => ?_) (fun h10 H => ?_)
  · refine qR (q1 (rFp fo26_1) (q1 (rL1 sh9) (bdE H fun x12 z11 H => (q1 (rCf Tryz.func30 (iIsValidName_ok fu pt.gName _ z11)) (q1 rMv ?_)))))
    refine spB 23 H (fun g13 H => ?_) fun g13 H => ?_
    · refine qg g13 (rFp fo26_2) (qg g13 (rL1 sh24) (qg g13 (rLn el24 (GType.trs_len _)) (qg g13 rEq (q1 (rPt g13) (q1 rMv (qN (qS (qR ?_))))))))
      iterate 2 refine q1 rMv ?_
      refine spB 52 H (fun g14 H => ?_) fun g14 H => ?_
      · refine qg g14 (rFp fo26_2) (qg g14 (rL1 sh24) (bdE H fun x16 z15 H => (qg g14 (rCf Tryz.func87 (h_gContainsFunc_Type__iisFormed_1 pt.gArgs _ z15)) (qg g14 rNo (q1 (rPt g14) (q1 rMv (qN (AWP.ret ?_))))))))
        obtain rfl : _ = r := (smI H :)
        exact qe1
      iterate 4 refine qk g14 ?_
      refine q1 (rPf g14) (q1 rMv (qN (AWP.ret ?_)))
      obtain rfl : _ = r := (smI H :)
      exact qe1
    iterate 4 refine qk g13 ?_
    refine q1 (rPf g13) (q1 rMv (qN (qS (qR ?_))))
    iterate 2 refine q1 rMv ?_
    iterate 4 refine qk rfl ?_
    refine q1 (rPf rfl) (q1 rMv (qN (AWP.ret ?_)))
    obtain rfl : _ = r := (smI H :)
    exact qe1
  refine qS (qR (q1 rEq (q1 rMv (qN ?_))))
  refine cndB H (fun h17 H => ?_) (fun h17 H => ?_)
  · refine qR (q1 (rFp fo26_1) (q1 (rL1 sh9) (bdE H fun x19 z18 H => (q1 (rCf Tryz.func30 (iIsValidName_ok fu pt.gName _ z18)) (q1 rMv ?_)))))
    refine spB 34 H (fun g20 H => ?_) fun g20 H => ?_
    · refine qg g20 (rFp fo26_2) (qg g20 (rL1 sh24) (qg g20 (rLn el24 (GType.trs_len _)) (qg g20 rLe (q1 (rPt g20) (q1 rMv ?_)))))
      refine spB 40 H (fun g21 H => ?_) fun g21 H => ?_
      · refine qk g21 ?_
        iterate 3 refine qk g21 ?_
        iterate 4 refine qku ?_
        refine qk g21 (q1 (rPt g21) (q1 rMv (qN (qS (qR ?_)))))
        iterate 2 refine q1 rMv ?_
        refine qg rfl (rFp fo26_2) (qg rfl (rL1 sh24) (bdE H fun x23 z22 H => (qg rfl (rCf Tryz.func87 (h_gContainsFunc_Type__iisFormed_1 pt.gArgs _ z22)) (qg rfl rNo (q1 (rPt rfl) (q1 rMv (qN (AWP.ret ?_))))))))
        obtain rfl : _ = r := (smI H :)
        exact qe1
      refine qg g21 (rFp fo26_1) (qg g21 (rL1 sh9) (bdE H fun x25 z24 H => (qg g21 (rCf Tryz.func86 (iisBuiltIn_ok fu pt.gName _ z24)) (qg g21 rMv ?_))))
      refine spB 44 H (fun g26 H => ?_) fun g26 H => ?_
      · refine qg g26 (rFp fo26_2) (qg g26 (rL1 sh24) (qg g26 (rLn el24 (GType.trs_len _)) (qg g26 rEq (qg g21 (rPt g26) (q1 (rPf g21) (q1 rMv (qN (qS (qR ?_)))))))))
        iterate 2 refine q1 rMv ?_
        refine spB 52 H (fun g27 H => ?_) fun g27 H => ?_
        · refine qg g27 (rFp fo26_2) (qg g27 (rL1 sh24) (bdE H fun x29 z28 H => (qg g27 (rCf Tryz.func87 (h_gContainsFunc_Type__iisFormed_1 pt.gArgs _ z28)) (qg g27 rNo (q1 (rPt g27) (q1 rMv (qN (AWP.ret ?_))))))))
          obtain rfl : _ = r := (smI H :)
          exact qe1
        iterate 4 refine qk g27 ?_
        refine q1 (rPf g27) (q1 rMv (qN (AWP.ret ?_)))
        obtain rfl : _ = r := (smI H :)
        exact qe1
      iterate 4 refine qk g26 ?_
      refine qg g21 (rPf g26) (q1 (rPf g21) (q1 rMv (qN (qS (qR ?_)))))
      iterate 2 refine q1 rMv ?_
      iterate 4 refine qk rfl ?_
      refine q1 (rPf rfl) (q1 rMv (qN (AWP.ret ?_)))
      obtain rfl : _ = r := (smI H :)
      exact qe1
    iterate 4 refine qk g20 ?_
    refine q1 (rPf g20) (q1 rMv (qg rfl (rFp fo26_1) (qg rfl (rL1 sh9) (bdE H fun x31 z30 H => (qg rfl (rCf Tryz.func86 (iisBuiltIn_ok fu pt.gName _ z30)) (qg rfl rMv ?_))))))
    refine spB 44 H (fun g32 H => ?_) fun g32 H => ?_
    · refine qg g32 (rFp fo26_2) (qg g32 (rL1 sh24) (qg g32 (rLn el24 (GType.trs_len _)) (qg g32 rEq (qg rfl (rPt g32) (q1 (rPf rfl) (q1 rMv (qN (qS (qR ?_)))))))))
      iterate 2 refine q1 rMv ?_
      refine spB 52 H (fun g33 H => ?_) fun g33 H => ?_
      · refine qg g33 (rFp fo26_2) (qg g33 (rL1 sh24) (bdE H fun x35 z34 H => (qg g33 (rCf Tryz.func87 (h_gContainsFunc_Type__iisFormed_1 pt.gArgs _ z34)) (qg g33 rNo (q1 (rPt g33) (q1 rMv (qN (AWP.ret ?_))))))))
        obtain rfl : _ = r := (smI H :)
        exact qe1
      iterate 4 refine qk g33 ?_
      refine q1 (rPf g33) (q1 rMv (qN (AWP.ret ?_)))
      obtain rfl : _ = r := (smI H :)
      exact qe1
    iterate 4 refine qk g32 ?_
    refine qg rfl (rPf g32) (q1 (rPf rfl) (q1 rMv (qN (qS (qR ?_)))))
    iterate 2 refine q1 rMv ?_
    iterate 4 refine qk rfl ?_
    refine q1 (rPf rfl) (q1 rMv (qN (AWP.ret ?_)))
    obtain rfl : _ = r := (smI H :)
    exact qe1
  refine AWP.skip (qS (qR ?_))
  iterate 2 refine q1 rMv ?_
  iterate 4 refine qk rfl ?_
  refine q1 (rPf rfl) (q1 rMv (qN (AWP.ret ?_)))
  obtain rfl : _ = r := (smI H :)
  exact qe1
def iisFormed_1_G (fu : Nat) (r_iisFormed : iisFormed_Y) (r_iisFormed_1 : iisFormed_1_Y) (r_gContainsFunc_Type__iisFormed_1 : gContainsFunc_Type__iisFormed_1_Y) (r_gIndexFunc_Type__iisFormed_1 : gIndexFunc_Type__iisFormed_1_Y) (pa : GType) : Option Bool :=
 bd (r_iisFormed pa) (fun x2 =>
 some (!(x2)))
theorem iisFormed_1_step (fu : Nat) (r_iisFormed : iisFormed_Y) (r_iisFormed_1 : iisFormed_1_Y) (r_gContainsFunc_Type__iisFormed_1 : gContainsFunc_Type__iisFormed_1_Y) (r_gIndexFunc_Type__iisFormed_1 : gIndexFunc_Type__iisFormed_1_Y) (h_iisFormed : iisFormed_T r_iisFormed) (h_iisFormed_1 : iisFormed_1_T r_iisFormed_1) (h_gContainsFunc_Type__iisFormed_1 : gContainsFunc_Type__iisFormed_1_T r_gContainsFunc_Type__iisFormed_1) (h_gIndexFunc_Type__iisFormed_1 : gIndexFunc_Type__iisFormed_1_T r_gIndexFunc_Type__iisFormed_1) : iisFormed_1_T (iisFormed_1_G fu r_iisFormed r_iisFormed_1 r_gContainsFunc_Type__iisFormed_1 r_gIndexFunc_Type__iisFormed_1) := by
  intro pa r H
  have H := hd0 H
  refine qI Tryz.func88 (fun C hC => ?_)
  refine qS (qR (q1 (rBx (cType pa)) (q1 rMv (qN (qS (qR (q1 (rLp [pI pa.gKind, pS pa.gName, rType pa.gArgs] sh26) (bdE H fun x2 z1 H => (q1 (rCf Tryz.func61 (h_iisFormed pa _ z1)) (q1 rNo (q1 rMv (qN (AWP.ret ?_)))))))))))))
  obtain rfl : _ = r := (smI H :)
  exact qe1
def gContainsFunc_Type__iisFormed_1_G (fu : Nat) (r_iisFormed : iisFormed_Y) (r_iisFormed_1 : iisFormed_1_Y) (r_gContainsFunc_Type__iisFormed_1 : gContainsFunc_Type__iisFormed_1_Y) (r_gIndexFunc_Type__iisFormed_1 : gIndexFunc_Type__iisFormed_1_Y) (ps : List GType) : Option Bool :=
 bd (r_gIndexFunc_Type__iisFormed_1 ps) (fun x2 =>
 some (decide ((x2 : Int) ≥ 0)))
theorem gContainsFunc_Type__iisFormed_1_step (fu : Nat) (r_iisFormed : iisFormed_Y) (r_iisFormed_1 : iisFormed_1_Y) (r_gContainsFunc_Type__iisFormed_1 : gContainsFunc_Type__iisFormed_1_Y) (r_gIndexFunc_Type__iisFormed_1 : gIndexFunc_Type__iisFormed_1_Y) (h_iisFormed : iisFormed_T r_iisFormed) (h_iisFormed_1 : iisFormed_1_T r_iisFormed_1) (h_gContainsFunc_Type__iisFormed_1 : gContainsFunc_Type__iisFormed_1_T r_gContainsFunc_Type__iisFormed_1) (h_gIndexFunc_Type__iisFormed_1 : gIndexFunc_Type__iisFormed_1_T r_gIndexFunc_Type__iisFormed_1) : gContainsFunc_Type__iisFormed_1_T (gContainsFunc_Type__iisFormed_1_G fu r_iisFormed r_iisFormed_1 r_gContainsFunc_Type__iisFormed_1 r_gIndexFunc_Type__iisFormed_1) := by
  intro ps r H
  have H := hd0 H
  refine qI Tryz.func87 (fun C hC => ?_)
  refine qS (qR (q1 rMv (qN (qS (qR ?_)))))
  iterate 2 refine q1 rMv ?_
  refine bdE H fun x2 z1 H => (q1 (rCf Tryz.func99 (h_gIndexFunc_Type__iisFormed_1 ps _ z1)) (q1 rGe (q1 rMv (qN (AWP.ret ?_)))))
  obtain rfl : _ = r := (smI H :)
  exact qe1
def gIndexFunc_Type__iisFormed_1_F1 (fu : Nat) (r_iisFormed : iisFormed_Y) (r_iisFormed_1 : iisFormed_1_Y) (r_gContainsFunc_Type__iisFormed_1 : gContainsFunc_Type__iisFormed_1_Y) (r_gIndexFunc_Type__iisFormed_1 : gIndexFunc_Type__iisFormed_1_Y) (ps : List GType) : Nat → Unit → Option (LR Unit Int) :=
 fun i1 _ => bd (r_iisFormed_1 (atD ps i1)) (fun x5 =>
 sw (x5)
 (some (.ret ((i1 : Nat) : Int)))
 (some (.next ())))
def gIndexFunc_Type__iisFormed_1_R1 (fu : Nat) (r_iisFormed : iisFormed_Y) (r_iisFormed_1 : iisFormed_1_Y) (r_gContainsFunc_Type__iisFormed_1 : gContainsFunc_Type__iisFormed_1_Y) (r_gIndexFunc_Type__iisFormed_1 : gIndexFunc_Type__iisFormed_1_Y) (ps : List GType) : Option (Int ⊕ Unit) :=
 loopN (gIndexFunc_Type__iisFormed_1_F1 fu r_iisFormed r_iisFormed_1 r_gContainsFunc_Type__iisFormed_1 r_gIndexFunc_Type__iisFormed_1 ps) (ps.length - 0) 0 ()
def gIndexFunc_Type__iisFormed_1_G (fu : Nat) (r_iisFormed : iisFormed_Y) (r_iisFormed_1 : iisFormed_1_Y) (r_gContainsFunc_Type__iisFormed_1 : gContainsFunc_Type__iisFormed_1_Y) (r_gIndexFunc_Type__iisFormed_1 : gIndexFunc_Type__iisFormed_1_Y) (ps : List GType) : Option Int :=
 so (gIndexFunc_Type__iisFormed_1_R1 fu r_iisFormed r_iisFormed_1 r_gContainsFunc_Type__iisFormed_1 r_gIndexFunc_Type__iisFormed_1 ps) (fun _ =>
 some (-1))
theorem gIndexFunc_Type__iisFormed_1_step (fu : Nat) (r_iisFormed : iisFormed_Y) (r_iisFormed_1 : iisFormed_1_Y) (r_gContainsFunc_Type__iisFormed_1 : gContainsFunc_Type__iisFormed_1_Y) (r_gIndexFunc_Type__iisFormed_1 : gIndexFunc_Type__iisFormed_1_Y) (h_iisFormed : iisFormed_T r_iisFormed) (h_iisFormed_1 : iisFormed_1_T r_iisFormed_1) (h_gContainsFunc_Type__iisFormed_1 : gContainsFunc_Type__iisFormed_1_T r_gContainsFunc_Type__iisFormed_1) (h_gIndexFunc_Type__iisFormed_1 : gIndexFunc_Type__iisFormed_1_T r_gIndexFunc_Type__iisFormed_1) : gIndexFunc_Type__iisFormed_1_T (gIndexFunc_Type__iisFormed_1_G fu r_iisFormed r_iisFormed_1 r_gContainsFunc_Type__iisFormed_1 r_gIndexFunc_Type__iisFormed_1) := by
  intro ps r H
  have H := hd0 H
  refine qI Tryz.func99 (fun C hC => ?_)
  refine qS (qR (q1 rMv (qN ?_)))
  iterate 2 refine qS ?_
  refine qR (q1 rMv (q1 (rLn el24 (GType.trs_len _)) (q1 rMv (qN ?_))))
  refine lenF 0 (GType.trs_len _) (fun hl2 => ?_)
  refine loopB (σ := Unit) (fun i1 _ => ⟨[(0, rType ps), (1, .fn 88 []), (4, pI 0), (7, pN ps.length), (8, pN i1)], ⟨[], []⟩⟩) (fun _ => ⟨[(4, pI 0)], ⟨[], []⟩⟩) (soI H) ?_ ?_
  · rintro i1 ⟨⟩ H
    refine qS (qR (q1 rLt (qN (qS ?_))))
    refine cndL H (fun h3 h3l H => ?_) (fun h3 H => ?_)
    · have h3n := nat_lt_of h3
      refine AWP.skip (qS (AWP.block (qS (qR ?_))))
      iterate 2 refine q1 rMv ?_
      refine qN (qS (qR ?_))
      iterate 3 refine q1 rMv ?_
      refine q1 (rIx h3n el24) (q1 (rKe (GType.cs (atD ps i1)) sh26) (bdE H fun x5 z4 H => (q1 (rCv Tryz.func88 (h_iisFormed_1 (atD ps i1) _ z4)) (qN ?_))))
      refine cndB H (fun h6 H => ?_) (fun h6 H => ?_)
      · refine qS (qR ?_)
        iterate 2 refine q1 rMv ?_
        refine qN (AWP.ret ?_)
        obtain rfl : _ = r := (lkR (smI H) :)
        exact qe1
      refine AWP.skip (qR (q1 (AOp.addI rfl rfl rfl rfl (c := ((i1 + 1 : Nat) : Int)) (by omega) (by omega)) (q1 rMv (qN ?_))))
      exact lpN h3l ⟨_, (smI H :), wkA⟩
    refine AWP.exit ?_; exact lpX ⟨_, H, wkA⟩
  rintro ⟨⟩ H
  refine qS (qR (q1 rMv (qN (AWP.ret ?_))))
  obtain rfl : _ = r := (smI H :)
  exact qe1
mutual
def iisFormed_M : Nat → GType → Option Bool
  | 0, _ => none
  | fu + 1, pt => iisFormed_G fu (iisFormed_M fu) (iisFormed_1_M fu) (gContainsFunc_Type__iisFormed_1_M fu) (gIndexFunc_Type__iisFormed_1_M fu) pt
def iisFormed_1_M : Nat → GType → Option Bool
  | 0, _ => none
  | fu + 1, pa => iisFormed_1_G fu (iisFormed_M fu) (iisFormed_1_M fu) (gContainsFunc_Type__iisFormed_1_M fu) (gIndexFunc_Type__iisFormed_1_M fu) pa
def gContainsFunc_Type__iisFormed_1_M : Nat → (List GType) → Option Bool
  | 0, _ => none
  | fu + 1, ps => gContainsFunc_Type__iisFormed_1_G fu (iisFormed_M fu) (iisFormed_1_M fu) (gContainsFunc_Type__iisFormed_1_M fu) (gIndexFunc_Type__iisFormed_1_M fu) ps
def gIndexFunc_Type__iisFormed_1_M : Nat → (List GType) → Option Int
  | 0, _ => none
  | fu + 1, ps => gIndexFunc_Type__iisFormed_1_G fu (iisFormed_M fu) (iisFormed_1_M fu) (gContainsFunc_Type__iisFormed_1_M fu) (gIndexFunc_Type__iisFormed_1_M fu) ps
end
theorem iisFormed_all (fu : Nat) : iisFormed_T (iisFormed_M fu) ∧ iisFormed_1_T (iisFormed_1_M fu) ∧ gContainsFunc_Type__iisFormed_1_T (gContainsFunc_Type__iisFormed_1_M fu) ∧ gIndexFunc_Type__iisFormed_1_T (gIndexFunc_Type__iisFormed_1_M fu) := by
  induction fu with
  | zero => exact ⟨(fun pt r H => by simp only [iisFormed_M] at H; cases H), (fun pa r H => by simp only [iisFormed_1_M] at H; cases H), (fun ps r H => by simp only [gContainsFunc_Type__iisFormed_1_M] at H; cases H), (fun ps r H => by simp only [gIndexFunc_Type__iisFormed_1_M] at H; cases H)⟩
  | succ fu ih => exact ⟨(fun pt r H => by simp only [iisFormed_M] at H; exact iisFormed_step fu (iisFormed_M fu) (iisFormed_1_M fu) (gContainsFunc_Type__iisFormed_1_M fu) (gIndexFunc_Type__iisFormed_1_M fu) ih.1 ih.2.1 ih.2.2.1 ih.2.2.2 pt r H), (fun pa r H => by simp only [iisFormed_1_M] at H; exact iisFormed_1_step fu (iisFormed_M fu) (iisFormed_1_M fu) (gContainsFunc_Type__iisFormed_1_M fu) (gIndexFunc_Type__iisFormed_1_M fu) ih.1 ih.2.1 ih.2.2.1 ih.2.2.2 pa r H), (fun ps r H => by simp only [gContainsFunc_Type__iisFormed_1_M] at H; exact gContainsFunc_Type__iisFormed_1_step fu (iisFormed_M fu) (iisFormed_1_M fu) (gContainsFunc_Type__iisFormed_1_M fu) (gIndexFunc_Type__iisFormed_1_M fu) ih.1 ih.2.1 ih.2.2.1 ih.2.2.2 ps r H), (fun ps r H => by simp only [gIndexFunc_Type__iisFormed_1_M] at H; exact gIndexFunc_Type__iisFormed_1_step fu (iisFormed_M fu) (iisFormed_1_M fu) (gContainsFunc_Type__iisFormed_1_M fu) (gIndexFunc_Type__iisFormed_1_M fu) ih.1 ih.2.1 ih.2.2.1 ih.2.2.2 ps r H)⟩
theorem iisFormed_ok (fu : Nat) : iisFormed_T (iisFormed_M fu) := (iisFormed_all fu).1
abbrev iTypeDepth_Y := GType → Option Int
def iTypeDepth_T (m : iTypeDepth_Y) : Prop := ∀ (pt : GType) (r : Int), m pt = some r → AFun Tryz.prog 62 [(GType.pv pt)] (pI r : PV)
def iTypeDepth_F1 (fu : Nat) (r_iTypeDepth : iTypeDepth_Y) (pt : GType) : Nat → Int → Option (LR Int Int) :=
 fun i1 v2 => bd (r_iTypeDepth (atD pt.gArgs i1)) (fun x6 =>
 some (.next (max v2 (wrap64 (x6 + 1)))))
def iTypeDepth_R1 (fu : Nat) (r_iTypeDepth : iTypeDepth_Y) (pt : GType) : Option (Int ⊕ Int) :=
 loopN (iTypeDepth_F1 fu r_iTypeDepth pt) (pt.gArgs.length - 0) 0 0
def iTypeDepth_G (fu : Nat) (r_iTypeDepth : iTypeDepth_Y) (pt : GType) : Option Int :=
 so (iTypeDepth_R1 fu r_iTypeDepth pt) (fun v2 =>
 some v2)
theorem iTypeDepth_step (fu : Nat) (r_iTypeDepth : iTypeDepth_Y) (h_iTypeDepth : iTypeDepth_T r_iTypeDepth) : iTypeDepth_T (iTypeDepth_G fu r_iTypeDepth) := by
  intro pt r H
  have H := hd0 H
  refine qI Tryz.func62 (fun C hC => ?_)
  refine qS (qR (q1 (rBx (cType pt)) (q1 rMv (qN (qS (qR (q1 rMv (qN ?_))))))))
  iterate 2 refine qS ?_
  refine qR (q1 (rFp fo26_2) (q1 (rL1 sh24) (q1 (rLn el24 (GType.trs_len _)) (q1 rMv (qN ?_)))))
  refine lenF 7 (GType.trs_len _) (fun hl3 => ?_)
  refine loopB (σ := Int) (fun i1 v2 => ⟨[(2, pI 0), (3, pI v2), (7, rType pt.gArgs), (8, pN pt.gArgs.length), (9, pN i1)], ⟨[some ⟨26, cType pt⟩], []⟩⟩) (fun v2 => ⟨[(2, pI 0), (3, pI v2)], ⟨[some ⟨26, cType pt⟩], []⟩⟩) (soI H) ?_ ?_
  · rintro i1 v2 H
    refine qS (qR (q1 rLt (qN (qS ?_))))
    refine cndL H (fun h4 h4l H => ?_) (fun h4 H => ?_)
    · have h4n := nat_lt_of h4
      refine AWP.skip (qS (AWP.block (qS (qR (q1 (rIx h4n el24) (q1 (rKe (GType.cs (atD pt.gArgs i1)) sh26) (q1 (rAl zr26) (q1 (rSu sz26) (qN (qR (q1 rMv (q1 (rLp [pI ((atD pt.gArgs i1).gKind), pS ((atD pt.gArgs i1).gName), rType ((atD pt.gArgs i1).gArgs)] sh26) (bdE H fun x6 z5 H => ?_)))))))))))))
      refine q1 (rCf Tryz.func62 (h_iTypeDepth (atD pt.gArgs i1) _ z5)) (q1 rAw (q1 (AOp.maxI rfl rfl rfl rfl) (q1 rMv (qN (qR (q1 (AOp.addI rfl rfl rfl rfl (c := ((i1 + 1 : Nat) : Int)) (by omega) (by omega)) (q1 rMv (qN ?_))))))))
      exact lpN h4l ⟨_, (smI H :), wkA⟩
    refine AWP.exit ?_; exact lpX ⟨_, H, wkA⟩
  rintro v2 H
  refine qS (qR ?_)
  iterate 2 refine q1 rMv ?_
  refine qN (AWP.ret ?_)
  obtain rfl : _ = r := (smI H :)
  exact qe1
def iTypeDepth_M : Nat → GType → Option Int
  | 0, _ => none
  | fu + 1, pt => iTypeDepth_G fu (iTypeDepth_M fu) pt
theorem iTypeDepth_all (fu : Nat) : iTypeDepth_T (iTypeDepth_M fu) := by
  induction fu with
  | zero => exact (fun pt r H => by simp only [iTypeDepth_M] at H; cases H)
  | succ fu ih => exact (fun pt r H => by simp only [iTypeDepth_M] at H; exact iTypeDepth_step fu (iTypeDepth_M fu) ih pt r H)
theorem iTypeDepth_ok (fu : Nat) : iTypeDepth_T (iTypeDepth_M fu) := (iTypeDepth_all fu)

abbrev iTypeSize_Y := GType → Option Int
def iTypeSize_T (m : iTypeSize_Y) : Prop := ∀ (pt : GType) (r : Int), m pt = some r → AFun Tryz.prog 63 [(GType.pv pt)] (pI r : PV)
def iTypeSize_F1 (fu : Nat) (r_iTypeSize : iTypeSize_Y) (pt : GType) : Nat → Int → Option (LR Int Int) :=
 fun i1 v2 => bd (r_iTypeSize (atD pt.gArgs i1)) (fun x6 =>
 some (.next (wrap64 (v2 + x6))))
def iTypeSize_R1 (fu : Nat) (r_iTypeSize : iTypeSize_Y) (pt : GType) : Option (Int ⊕ Int) :=
 loopN (iTypeSize_F1 fu r_iTypeSize pt) (pt.gArgs.length - 0) 0 1
def iTypeSize_G (fu : Nat) (r_iTypeSize : iTypeSize_Y) (pt : GType) : Option Int :=
 so (iTypeSize_R1 fu r_iTypeSize pt) (fun v2 =>
 some v2)
theorem iTypeSize_step (fu : Nat) (r_iTypeSize : iTypeSize_Y) (h_iTypeSize : iTypeSize_T r_iTypeSize) : iTypeSize_T (iTypeSize_G fu r_iTypeSize) := by
  intro pt r H
  have H := hd0 H
  refine qI Tryz.func63 (fun C hC => ?_)
  refine qS (qR (q1 (rBx (cType pt)) (q1 rMv (qN (qS (qR (q1 rMv (qN ?_))))))))
  iterate 2 refine qS ?_
  refine qR (q1 (rFp fo26_2) (q1 (rL1 sh24) (q1 (rLn el24 (GType.trs_len _)) (q1 rMv (qN ?_)))))
  refine lenF 7 (GType.trs_len _) (fun hl3 => ?_)
  refine loopB (σ := Int) (fun i1 v2 => ⟨[(2, pI 0), (3, pI v2), (7, rType pt.gArgs), (8, pN pt.gArgs.length), (9, pN i1)], ⟨[some ⟨26, cType pt⟩], []⟩⟩) (fun v2 => ⟨[(2, pI 0), (3, pI v2)], ⟨[some ⟨26, cType pt⟩], []⟩⟩) (soI H) ?_ ?_
  · rintro i1 v2 H
    refine qS (qR (q1 rLt (qN (qS ?_))))
    refine cndL H (fun h4 h4l H => ?_) (fun h4 H => ?_)
    · have h4n := nat_lt_of h4
      refine AWP.skip (qS (AWP.block (qS (qR (q1 (rIx h4n el24) (q1 (rKe (GType.cs (atD pt.gArgs i1)) sh26) (q1 (rAl zr26) (q1 (rSu sz26) (qN (qR (q1 rMv (q1 (rLp [pI ((atD pt.gArgs i1).gKind), pS ((atD pt.gArgs i1).gName), rType ((atD pt.gArgs i1).gArgs)] sh26) (bdE H fun x6 z5 H => ?_)))))))))))))
      refine q1 (rCf Tryz.func63 (h_iTypeSize (atD pt.gArgs i1) _ z5)) (q1 rAw (q1 rMv (qN (qR (q1 (AOp.addI rfl rfl rfl rfl (c := ((i1 + 1 : Nat) : Int)) (by omega) (by omega)) (q1 rMv (qN ?_)))))))
      exact lpN h4l ⟨_, (smI H :), wkA⟩
    refine AWP.exit ?_; exact lpX ⟨_, H, wkA⟩
  rintro v2 H
  refine qS (qR ?_)
  iterate 2 refine q1 rMv ?_
  refine qN (AWP.ret ?_)
  obtain rfl : _ = r := (smI H :)
  exact qe1
def iTypeSize_M : Nat → GType → Option Int
  | 0, _ => none
  | fu + 1, pt => iTypeSize_G fu (iTypeSize_M fu) pt
theorem iTypeSize_all (fu : Nat) : iTypeSize_T (iTypeSize_M fu) := by
  induction fu with
  | zero => exact (fun pt r H => by simp only [iTypeSize_M] at H; cases H)
  | succ fu ih => exact (fun pt r H => by simp only [iTypeSize_M] at H; exact iTypeSize_step fu (iTypeSize_M fu) ih pt r H)
theorem iTypeSize_ok (fu : Nat) : iTypeSize_T (iTypeSize_M fu) := (iTypeSize_all fu)

def iIsValidType_T (m : GType → Option Bool) : Prop := ∀ (pt : GType) (r : Bool), m pt = some r → AFun Tryz.prog 31 [(GType.pv pt)] (pB r : PV)
def iIsValidType_M (fu : Nat) (pt : GType) : Option Bool :=
 bd (iisFormed_M fu pt) (fun x2 =>
 sw (x2)
 (bd (iTypeDepth_M fu pt) (fun x5 =>
 sw (decide ((x5 : Int) ≤ 6))
 (bd (iTypeSize_M fu pt) (fun x8 =>
 some (decide ((x8 : Int) ≤ 60))))
 (some false)))
 (some false))
theorem iIsValidType_ok (fu : Nat)   : iIsValidType_T (iIsValidType_M fu) := by
  intro pt r H
  have H := hd0 H
  refine qI Tryz.func31 (fun C hC => ?_)
  refine qS (qR (q1 (rBx (cType pt)) (q1 rMv (qN (qS (qR (q1 (rLp [pI pt.gKind, pS pt.gName, rType pt.gArgs] sh26) (bdE H fun x2 z1 H => (q1 (rCf Tryz.func61 (iisFormed_ok fu pt _ z1)) (q1 rMv ?_))))))))))
  refine spB 5 H (fun g3 H => ?_) fun g3 H => ?_
  · refine qg g3 (rLp [pI pt.gKind, pS pt.gName, rType pt.gArgs] sh26) (bdE H fun x5 z4 H => (qg g3 (rCf Tryz.func62 (iTypeDepth_ok fu pt _ z4)) (qg g3 rLe (q1 (rPt g3) (q1 rMv ?_)))))
    refine spB 10 H (fun g6 H => ?_) fun g6 H => ?_
    · refine qg g6 (rLp [pI pt.gKind, pS pt.gName, rType pt.gArgs] sh26) (bdE H fun x8 z7 H => (qg g6 (rCf Tryz.func63 (iTypeSize_ok fu pt _ z7)) (qg g6 rLe (q1 (rPt g6) (q1 rMv (qN (AWP.ret ?_)))))))
      obtain rfl : _ = r := (smI H :)
      exact qe1
    iterate 3 refine qk g6 ?_
    refine q1 (rPf g6) (q1 rMv (qN (AWP.ret ?_)))
    obtain rfl : _ = r := (smI H :)
    exact qe1
  iterate 3 refine qk g3 ?_
  refine q1 (rPf g3) (q1 rMv ?_)
  iterate 3 refine qk rfl ?_
  refine q1 (rPf rfl) (q1 rMv (qN (AWP.ret ?_)))
  obtain rfl : _ = r := (smI H :)
  exact qe1

def iIsValidBound_T (m : GBound → Option Bool) : Prop := ∀ (pb : GBound) (r : Bool), m pb = some r → AFun Tryz.prog 12 [(GBound.pv pb)] (pB r : PV)
def iIsValidBound_M (fu : Nat) (pb : GBound) : Option Bool :=
 bd (iIsValidName_M fu pb.gTrait) (fun x2 =>
 sw (x2)
 (bd (iIsValidType_M fu pb.gType) (fun x5 =>
 some x5))
 (some false))
theorem iIsValidBound_ok (fu : Nat)   : iIsValidBound_T (iIsValidBound_M fu) := by
  intro pb r H
  have H := hd0 H
  refine qI Tryz.func12 (fun C hC => ?_)
  refine qS (qR (q1 (rBx (cBound pb)) (q1 rMv (qN (qS (qR (q1 (rFp fo28_0) (q1 (rL1 sh9) (bdE H fun x2 z1 H => (q1 (rCf Tryz.func30 (iIsValidName_ok fu pb.gTrait _ z1)) (q1 rMv ?_)))))))))))
  refine spB 6 H (fun g3 H => ?_) fun g3 H => ?_
  · refine qg g3 (rFp fo28_1) (qg g3 (rLp [pI pb.gType.gKind, pS pb.gType.gName, rType pb.gType.gArgs] sh26) (bdE H fun x5 z4 H => (qg g3 (rCf Tryz.func31 (iIsValidType_ok fu pb.gType _ z4)) (q1 (rPt g3) (q1 rMv (qN (AWP.ret ?_)))))))
    obtain rfl : _ = r := (smI H :)
    exact qe1
  iterate 3 refine qk g3 ?_
  refine q1 (rPf g3) (q1 rMv (qN (AWP.ret ?_)))
  obtain rfl : _ = r := (smI H :)
  exact qe1

def iatom_T (m : ByteArray → Option GSExpr) : Prop := ∀ (ps : ByteArray) (r : GSExpr), m ps = some r → AFun Tryz.prog 19 [pS ps] ((GSExpr.pv r) : PV)
def iatom_M (fu : Nat) (ps : ByteArray) : Option GSExpr :=
 some (GSExpr.mk ps [])
theorem iatom_ok (fu : Nat)   : iatom_T (iatom_M fu) := by
  intro ps r H
  have H := hd0 H
  refine qI Tryz.func19 (fun C hC => ?_)
  refine qS (qR (q1 (rAl zr44) (qN (qS (qR (q1 rMv (q1 (rBd zr44 pl44) (q1 (rSu sz44) (qN (AWP.ret ?_))))))))))
  obtain rfl : _ = r := (smI H :)
  exact qe1 (hr := ⟨⟨_, _, _, rfl, rfl, sh44, rfl, rfl⟩, trivial⟩)

def ilist_T (m : (List GSExpr) → Option GSExpr) : Prop := ∀ (pelements : List GSExpr) (r : GSExpr), m pelements = some r → AFun Tryz.prog 18 [rSExpr pelements] ((GSExpr.pv r) : PV)
def ilist_M (fu : Nat) (pelements : List GSExpr) : Option GSExpr :=
 some (GSExpr.mk s_ pelements)
theorem ilist_ok (fu : Nat)   : ilist_T (ilist_M fu) := by
  intro pelements r H
  have H := hd0 H
  refine qI Tryz.func18 (fun C hC => ?_)
  refine qS (qR (q1 (rAl zr44) (qN (qS (qR (q1 rMv (q1 (rBd zr44 pl44) (q1 (rSu sz44) (qN (AWP.ret ?_))))))))))
  obtain rfl : _ = r := (smI H :)
  exact qe1 (hr := ⟨⟨_, _, _, rfl, rfl, sh44, rfl, rfl⟩, trivial⟩)

abbrev iencodeType_Y := GType → Option GSExpr
abbrev iencodeTypes_Y := (List GType) → Option ((List GSExpr))
def iencodeType_T (m : iencodeType_Y) : Prop := ∀ (pt : GType) (r : GSExpr), m pt = some r → AFun Tryz.prog 20 [(GType.pv pt)] ((GSExpr.pv r) : PV)
def iencodeTypes_T (m : iencodeTypes_Y) : Prop := ∀ (pl : List GType) (r : (List GSExpr)), m pl = some r → AFun Tryz.prog 41 [rType pl] (rSExpr r : PV)
def iencodeType_G (fu : Nat) (r_iencodeType : iencodeType_Y) (r_iencodeTypes : iencodeTypes_Y) (pt : GType) : Option GSExpr :=
 sw (decide ((pt.gKind : Int) = 1))
 (gd ((x_27).size + (pt.gName).size ≤ 1099511627776)
 (bd (iatom_M fu (x_27 ++ pt.gName)) (fun x4 =>
 some x4)))
 (sw (decide ((pt.gKind : Int) = 4))
 (bd (iatom_M fu s_dyn) (fun x7 =>
 bd (iatom_M fu pt.gName) (fun x9 =>
 bd (ilist_M fu ([x7, x9] : List GSExpr)) (fun x11 =>
 some x11))))
 (sw (decide ((pt.gKind : Int) = 3))
 (bd (iatom_M fu s_assoc) (fun x14 =>
 bd (iatom_M fu pt.gName) (fun x16 =>
 gd (0 < (pt.gArgs).length)
 (bd (r_iencodeType (atD pt.gArgs 0)) (fun x19 =>
 bd (ilist_M fu ([x14, x16, x19] : List GSExpr)) (fun x21 =>
 some x21))))))
 (sw (decide ((((pt.gArgs.length : Nat) : Int) : Int) = 0))
 (bd (iatom_M fu pt.gName) (fun x24 =>
 some x24))
 (bd (iatom_M fu pt.gName) (fun x26 =>
 bd (r_iencodeTypes pt.gArgs) (fun x28 =>
 gd ((([x26] : List GSExpr)).length + (x28).length ≤ 68719476736)
 (bd (ilist_M fu (([x26] : List GSExpr) ++ x28)) (fun x31 =>
 some x31))))))))
theorem iencodeType_step (fu : Nat) (r_iencodeType : iencodeType_Y) (r_iencodeTypes : iencodeTypes_Y) (h_iencodeType : iencodeType_T r_iencodeType) (h_iencodeTypes : iencodeTypes_T r_iencodeTypes) : iencodeType_T (iencodeType_G fu r_iencodeType r_iencodeTypes) := by
  intro pt r H
  have H := hd0 H
  refine qI Tryz.func20 (fun C hC => ?_)
  refine qS (qR (q1 (rBx (cType pt)) (q1 (rAl zr44) (qN ?_))))
  iterate 2 refine qS ?_
  refine qR (q1 (rFp fo26_0) (q1 (rL1 sh3) (qN (AWP.block (qS (qR (q1 rEq (q1 rMv (qN ?_)))))))))
  refine cndB H (fun h1 H => ?_) (fun h1 H => ?_)
  · refine qS (qR (q1 (rFp fo26_1) (q1 (rL1 sh9) (gdE H fun z2 H => (q1 (AOp.addS rfl rfl rfl rfl (Nat.le_trans z2 (by decide))) (bdE H fun x4 z3 H => (q1 (rCf Tryz.func19 (iatom_ok fu (x_27 ++ pt.gName) _ z3)) (q1 (rSu sz44) (qN (AWP.ret ?_))))))))))
    obtain rfl : _ = r := (smI H :)
    exact qe1 (hr := ⟨⟨_, _, _, rfl, rfl, sh44, rfl, rfl⟩, trivial⟩)
  refine qS (qR (q1 rEq (q1 rMv (qN ?_))))
  refine cndB H (fun h5 H => ?_) (fun h5 H => ?_)
  · refine qS (bdE H fun x7 z6 H => (bdE H fun x9 z8 H => (bdE H fun x11 z10 H => (dW (dI [] (rCf Tryz.func19 (iatom_ok fu s_dyn _ z6)) (dI [1] (rFp fo26_1) (dD [14] (rL1 sh9) (dI [15] (rCf Tryz.func19 (iatom_ok fu pt.gName _ z8)) (dI [13, 16] (rBs ([x7, x9] : List GSExpr) el42 zr44) (dI [17] (rCf Tryz.func18 (ilist_ok fu ([x7, x9] : List GSExpr) _ z10)) (dE0 [2, 18] (rSu sz44) (dN (AWP.ret ?_)))))))))))))
    obtain rfl : _ = r := (smI H :)
    exact qe1 (hr := ⟨⟨_, _, _, rfl, rfl, sh44, rfl, rfl⟩, trivial⟩)
  refine qS (qR (q1 rEq (q1 rMv (qN ?_))))
  refine cndB H (fun h12 H => ?_) (fun h12 H => ?_)
  · refine qS (bdE H fun x14 z13 H => (bdE H fun x16 z15 H => (gdE H fun z17 H => (bdE H fun x19 z18 H => (bdE H fun x21 z20 H => (dW (dI [] (rCf Tryz.func19 (iatom_ok fu s_assoc _ z13)) (dI [1] (rFp fo26_1) (dD [22] (rL1 sh9) (dI [23] (rCf Tryz.func19 (iatom_ok fu pt.gName _ z15)) (dI [1] (rFp fo26_2) (dD [25] (rL1 sh24) (dI [26] (rIx z17 el24) ?_)))))))))))))
    refine dI [27] (rKe (GType.cs (atD pt.gArgs 0)) sh26) (dI [28] (rCf Tryz.func20 (h_iencodeType (atD pt.gArgs 0) _ z18)) (dI [21, 24, 29] (rBs ([x14, x16, x19] : List GSExpr) el42 zr44) (dI [30] (rCf Tryz.func18 (ilist_ok fu ([x14, x16, x19] : List GSExpr) _ z20)) (dE0 [2, 31] (rSu sz44) (dN (AWP.ret ?_))))))
    obtain rfl : _ = r := (smI H :)
    exact qe1 (hr := ⟨⟨_, _, _, rfl, rfl, sh44, rfl, rfl⟩, trivial⟩)
  refine AWP.skip ?_
  iterate 2 refine qS ?_
  refine qR (q1 (rFp fo26_2) (q1 (rL1 sh24) (q1 (rLn el24 (GType.trs_len _)) (q1 rEq (qN ?_)))))
  refine cndB H (fun h22 H => ?_) (fun h22 H => ?_)
  · refine qS (qR (q1 (rFp fo26_1) (q1 (rL1 sh9) (bdE H fun x24 z23 H => (q1 (rCf Tryz.func19 (iatom_ok fu pt.gName _ z23)) (q1 (rSu sz44) (qN (AWP.ret ?_))))))))
    obtain rfl : _ = r := (smI H :)
    exact qe1 (hr := ⟨⟨_, _, _, rfl, rfl, sh44, rfl, rfl⟩, trivial⟩)
  refine AWP.skip (qS (bdE H fun x26 z25 H => (bdE H fun x28 z27 H => (gdE H fun z29 H => (bdE H fun x31 z30 H => (dW (dI [1] (rFp fo26_1) (dD [39] (rL1 sh9) (dI [40] (rCf Tryz.func19 (iatom_ok fu pt.gName _ z25)) (dE [41] (rBa ([x26] : List GSExpr) el42 zr44) (dI [1] (rFp fo26_2) (dB [43] 0 1 (vL1 sh24) (dI [44] (rCf Tryz.func41 (h_iencodeTypes pt.gArgs _ z27)) ?_)))))))))))))
  refine dE [42, 45] (rAp z29 el42 ze42) (dI [46] (rCf Tryz.func18 (ilist_ok fu (([x26] : List GSExpr) ++ x28) _ z30)) (dE0 [2, 47] (rSu sz44) (dN (AWP.ret ?_))))
  obtain rfl : _ = r := (smI H :)
  exact qe1 (hr := ⟨⟨_, _, _, rfl, rfl, sh44, rfl, rfl⟩, trivial⟩)
def iencodeTypes_F1 (fu : Nat) (r_iencodeType : iencodeType_Y) (r_iencodeTypes : iencodeTypes_Y) (pl : List GType) : Nat → ((List GSExpr)) → Option (LR ((List GSExpr)) ((List GSExpr))) :=
 fun i1 v3 => bd (r_iencodeType (atD pl i1)) (fun x7 =>
 gd ((v3).length + (([x7] : List GSExpr)).length ≤ 68719476736)
 (some (.next (v3 ++ ([x7] : List GSExpr)))))
def iencodeTypes_R1 (fu : Nat) (r_iencodeType : iencodeType_Y) (r_iencodeTypes : iencodeTypes_Y) (pl : List GType) : Option (((List GSExpr)) ⊕ ((List GSExpr))) :=
 loopN (iencodeTypes_F1 fu r_iencodeType r_iencodeTypes pl) (pl.length - 0) 0 ([])
def iencodeTypes_G (fu : Nat) (r_iencodeType : iencodeType_Y) (r_iencodeTypes : iencodeTypes_Y) (pl : List GType) : Option ((List GSExpr)) :=
 so (iencodeTypes_R1 fu r_iencodeType r_iencodeTypes pl) (fun v3 =>
 some v3)
theorem iencodeTypes_step (fu : Nat) (r_iencodeType : iencodeType_Y) (r_iencodeTypes : iencodeTypes_Y) (h_iencodeType : iencodeType_T r_iencodeType) (h_iencodeTypes : iencodeTypes_T r_iencodeTypes) : iencodeTypes_T (iencodeTypes_G fu r_iencodeType r_iencodeTypes) := by
  intro pl r H
  have H := hd0 H
  refine qI Tryz.func41 (fun C hC => ?_)
  refine qS (qR (q1 rMv (qN (qS (qR (q1 (rBa ([] : List GSExpr) el42 zr44) (q1 rMv (qN ?_))))))))
  iterate 2 refine qS ?_
  refine qR (q1 rMv (q1 (rLn el24 (GType.trs_len _)) (q1 rMv (qN ?_))))
  refine lenF 0 (GType.trs_len _) (fun hl4 => ?_)
  refine loopB (σ := (List GSExpr)) (fun i1 v3 => ⟨[(2, .nil), (3, aSExpr v3 0), (7, rType pl), (8, pN pl.length), (9, pN i1)], ⟨[], [⟨44, 2, GSExpr.trs (v3), false⟩]⟩⟩) (fun v3 => ⟨[(2, .nil), (3, aSExpr v3 0)], ⟨[], [⟨44, 2, GSExpr.trs (v3), false⟩]⟩⟩) (soI H) ?_ ?_
  · rintro i1 v3 H
    refine qS (qR (q1 rLt (qN (qS ?_))))
    refine cndL H (fun h5 h5l H => ?_) (fun h5 H => ?_)
    · have h5n := nat_lt_of h5
      refine AWP.skip (qS (AWP.block (qS (qR (q1 (rIx h5n el24) (q1 (rKe (GType.cs (atD pl i1)) sh26) (q1 (rAl zr26) (q1 (rSu sz26) (qN (qR (q1 rMv (q1 (rLp [pI ((atD pl i1).gKind), pS ((atD pl i1).gName), rType ((atD pl i1).gArgs)] sh26) (bdE H fun x7 z6 H => ?_)))))))))))))
      refine q1 (rCf Tryz.func20 (h_iencodeType (atD pl i1) _ z6)) (q1 (rBs ([x7] : List GSExpr) el42 zr44) (gdE H fun z8 H => (q1 (rAp z8 el42 ze42) (q1 rMv (qN (qR (q1 (AOp.addI rfl rfl rfl rfl (c := ((i1 + 1 : Nat) : Int)) (by omega) (by omega)) (q1 rMv (qN ?_)))))))))
      exact lpN h5l ⟨_, (smI H :), wkA⟩
    refine AWP.exit ?_; exact lpX ⟨_, H, wkA⟩
  rintro v3 H
  refine qS (qR ?_)
  iterate 2 refine q1 rMv ?_
  refine qN (AWP.ret ?_)
  obtain rfl : _ = r := (smI H :)
  exact qe1
mutual
def iencodeType_M : Nat → GType → Option GSExpr
  | 0, _ => none
  | fu + 1, pt => iencodeType_G fu (iencodeType_M fu) (iencodeTypes_M fu) pt
def iencodeTypes_M : Nat → (List GType) → Option ((List GSExpr))
  | 0, _ => none
  | fu + 1, pl => iencodeTypes_G fu (iencodeType_M fu) (iencodeTypes_M fu) pl
end
theorem iencodeType_all (fu : Nat) : iencodeType_T (iencodeType_M fu) ∧ iencodeTypes_T (iencodeTypes_M fu) := by
  induction fu with
  | zero => exact ⟨(fun pt r H => by simp only [iencodeType_M] at H; cases H), (fun pl r H => by simp only [iencodeTypes_M] at H; cases H)⟩
  | succ fu ih => exact ⟨(fun pt r H => by simp only [iencodeType_M] at H; exact iencodeType_step fu (iencodeType_M fu) (iencodeTypes_M fu) ih.1 ih.2 pt r H), (fun pl r H => by simp only [iencodeTypes_M] at H; exact iencodeTypes_step fu (iencodeType_M fu) (iencodeTypes_M fu) ih.1 ih.2 pl r H)⟩
theorem iencodeType_ok (fu : Nat) : iencodeType_T (iencodeType_M fu) := (iencodeType_all fu).1
def iFormatGoal_T (m : GBound → Option ByteArray) : Prop := ∀ (pb : GBound) (r : ByteArray), m pb = some r → AFun Tryz.prog 6 [(GBound.pv pb)] (pS r : PV)
def iFormatGoal_M (fu : Nat) (pb : GBound) : Option ByteArray :=
 bd (iIsValidBound_M fu pb) (fun x2 =>
 sw (!(x2))
 (some s_)
 (bd (iatom_M fu pb.gTrait) (fun x5 =>
 bd (iencodeType_M fu pb.gType) (fun x7 =>
 bd (ilist_M fu ([x5, x7] : List GSExpr)) (fun x9 =>
 bd (iFormatSExpr_M fu x9) (fun x11 =>
 some x11))))))
theorem iFormatGoal_ok (fu : Nat)   : iFormatGoal_T (iFormatGoal_M fu) := by
  intro pb r H
  have H := hd0 H
  refine qI Tryz.func6 (fun C hC => ?_)
  refine qS (qR (q1 (rBx (cBound pb)) (q1 rMv (qN ?_))))
  iterate 2 refine qS ?_
  refine qR (q1 (rLp [pS pb.gTrait, pI pb.gType.gKind, pS pb.gType.gName, rType pb.gType.gArgs] sh28) (bdE H fun x2 z1 H => (q1 (rCf Tryz.func12 (iIsValidBound_ok fu pb _ z1)) (q1 rNo (qN ?_)))))
  refine cndB H (fun h3 H => ?_) (fun h3 H => ?_)
  · refine qS (qR (q1 rMv (qN (AWP.ret ?_))))
    obtain rfl : _ = r := (smI H :)
    exact qe1
  refine AWP.skip (qS (bdE H fun x5 z4 H => (bdE H fun x7 z6 H => (bdE H fun x9 z8 H => (bdE H fun x11 z10 H => (dW (dI [1] (rFp fo28_0) (dD [6] (rL1 sh9) (dI [7] (rCf Tryz.func19 (iatom_ok fu pb.gTrait _ z4)) (dI [1] (rFp fo28_1) (dD [9] (rLp [pI pb.gType.gKind, pS pb.gType.gName, rType pb.gType.gArgs] sh26) (dI [10] (rCf Tryz.func20 (iencodeType_ok fu pb.gType _ z6)) (dI [8, 11] (rBs ([x5, x7] : List GSExpr) el42 zr44) ?_)))))))))))))
  refine dI [12] (rCf Tryz.func18 (ilist_ok fu ([x5, x7] : List GSExpr) _ z8)) (dI [13] (rCf Tryz.func17 (iFormatSExpr_ok fu x9 _ z10)) (dI [14] rMv (dN (AWP.ret ?_))))
  obtain rfl : _ = r := (smI H :)
  exact qe1

end
end Go.Proofs.YtmpepccpnnldoaaGreat

namespace Go.Proofs.YtmpepccpnnldoaaGreat
set_option linter.unusedSimpArgs false
set_option linter.unusedVariables false
open Go.RowKit Go.WalkArith Go.IntWalk Go.WideShapes
section
variable {P : Program} {C : Ctx} {n : Nat} {s : AS} {o : Oper}
/-- What appending a string does at one state. -/
theorem appendStr_at {T U E by_ : Nat} {x y : Operand} {l : List UInt8} {es : List (List Tr)} {r : Nat} {row : PRow} {m : Lay} {a : Act} {w : World} {v : ByteArray} (ho : o.op = .call { callee := .builtin .append, args := #[x, y], argTypes := #[T, U] })
    (h : RA C n s m a w) (hx' : RV (okA C.av s.st m) s.st m w (.acc 1 es r) (a.eval x)) (hrow : s.st.rows[r]? = some row) (hes : row.es = es) (hE : row.E = E) (hw : row.whole = false) (hy : s.ev y = some (.t (.leaf (.string v)))) (hl : v.data.toList = l)
    (hT : elemOf? P T = some (E, 1, by_)) (hU : P.underlying U = some .string) (hz : (P.info? E).bind (fun i => i.zero.map (fun z => z.cells.size)) = some 1) (hb : 0 < by_) (hlen : (es.length + l.length) * by_ ≤ 140737488355328) :
    ∃ v m1 w1, (execOp a.eval o).run P w = .ok (.value v) w1 ∧ Ev s.st m w (s.st.setRow r { row with es := es ++ byteTrs l }) m1 w1 ∧ StoOk C.av (s.st.setRow r { row with es := es ++ byteTrs l }) m1 w1 ∧ RV (okA C.av (s.st.setRow r { row with es := es ++ byteTrs l }) m1) (s.st.setRow r { row with es := es ++ byteTrs l }) m1 w1 (.acc 1 (es ++ byteTrs l) r) v := by
    subst hes hE hl
    obtain ⟨i, hu, hi, hs, hby⟩ := elemOf?.spec hT
    obtain ⟨row', k1, k2, k3, k4, k5⟩ := hx'
    rw [hrow] at k1
    cases k1
    have k5 := k5 rfl
    have hyv : a.eval y = .string v := (RepM.leaf_eq (h.eval hy)).1
    have hvl : (byteTrs v.data.toList).length = v.size := by rw [byteTrs_len]; rfl
    have hvl' : v.data.toList.length = v.size := rfl
    rw [hvl'] at hlen
    obtain ⟨hpos, hlens, hplace⟩ := h.sto.row r row hrow
    by_cases hne : v.size = 0
    · have hnil : byteTrs v.data.toList = [] := List.eq_nil_of_length_eq_zero (by rw [hvl, hne])
      rw [hnil]
      have hst : s.st.setRow r { row with es := row.es ++ [] } = s.st := by
        have e1 : ({ row with es := row.es ++ [] } : PRow) = row := by simp
        rw [e1]
        unfold Sto.setRow
        have e2 : s.st.rows.set r row = s.st.rows := by
          apply List.ext_getElem?
          intro j
          rw [List.getElem?_set]
          split
          · rename_i e; subst e; rw [if_pos (get_lt hrow), hrow]
          · rfl
        rw [e2]
      obtain ⟨ad, cap, hv, hlc, hcm⟩ := k4.shape
      refine ⟨a.eval x, m, w, ?_, by rw [hst]; exact Ev.refl _ _ _, by rw [hst]; exact h.sto, ?_⟩
      · unfold execOp
        simp only [ho, resolve, invoke, builtin, Sem.run_bind, Sem.run_pure, Result.andThen_ok, List.map_toArray, List.map_cons, List.map_nil, hv, hyv]
        have hfc : (Builtin.firstCells i.size v.size (.string v)).run P w = .ok #[] w := by
          rw [Lib.run_firstCells_string]
          have : Lib.strCells v = [] := List.eq_nil_of_length_eq_zero (by rw [Lib.strCells_length, hne])
          rw [this]
        have hlc' : row.es.length ≤ cap := by omega
        rw [hne] at hfc
        cases ad with
        | none => simp [Builtin.append_, run_underlying hu, run_underlying hU, Go.sizeOf, typeInfo, hi, Builtin.lenOf, hlc', hfc, hne]
        | some q => simp [Builtin.append_, run_underlying hu, run_underlying hU, Go.sizeOf, typeInfo, hi, Builtin.lenOf, hlc', hfc, storeCells, hne]
      · rw [hst, List.append_nil]
        exact ⟨row, hrow, k2, Nat.le_refl _, k4, fun _ => k5⟩
    · have hnews : Lib.strCells v = v.data.toList.map fun b => Value.int .u8 (b.toNat : Int) := rfl
      have hnl : (Lib.strCells v).length = v.size := Lib.strCells_length v
      have hpos2 : 0 < v.size := by omega
      have hlen : (row.es.length + v.size) * i.bytes ≤ 140737488355328 := by rw [hby]; exact hlen
      have h63 : row.es.length + v.size ≤ 140737488355328 := Nat.le_trans (Nat.le_mul_of_pos_right _ (by omega)) hlen
      cases hzz : i.zero with
      | none => simp [hi, hzz] at hz
      | some z =>
        have hzs : z.cells.size = row.sz := by rw [k2]; simpa [hi, hzz] using hz
        have hrun : ∀ u w1, (Builtin.append_ #[T, U] o.type #[a.eval x, a.eval y]).run P w = .ok u w1 → (execOp a.eval o).run P w = .ok (.value u) w1 := fun u w1 hr => by
          unfold execOp
          simp only [ho, resolve, invoke, builtin, Sem.run_bind, Sem.run_pure, Result.andThen_ok, List.map_toArray, List.map_cons, List.map_nil, hr]
        have hnew : ∀ (cur : Array Value) (pre post : List Value), cur.toList = pre ++ (Lib.strCells v ++ post) → pre.length = row.es.length * row.sz → ∀ q e, (byteTrs v.data.toList)[q]? = some e → ∀ j d, e[j]? = some d → ∃ u, cur[(row.es.length + q) * row.sz + j]? = some u ∧ RepM (okA C.av s.st m) w d u := fun cur pre post hcur hpl q e hq j d hd => by
          have hq1 : q < v.data.toList.length := by have := get_lt hq; rwa [byteTrs_len] at this
          rw [byteTrs_cs hq1] at hq
          cases hq
          cases j with
          | succ j => simp at hd
          | zero =>
            simp at hd
            subst hd
            refine ⟨.int .u8 ((v.data.toList[q]).toNat : Int), ?_, RepM.leaf (_root_.Go.Proofs.YtmpepccpnnldoaaGreat.wf_u8 _)⟩
            rw [← Array.getElem?_toList, hcur, Nat.add_mul, Nat.add_assoc, ← hpl, List.getElem?_append_right (by omega), Nat.add_sub_cancel_left, k2, List.getElem?_append_left (by rw [hnl, ← hvl']; omega), hnews, List.getElem?_map, Nat.mul_one, Nat.add_zero, List.getElem?_eq_getElem hq1]
            rfl
        have hall : ∀ e ∈ byteTrs v.data.toList, e.length = row.sz := by rw [k2]; exact byteTrs_all _
        rcases hplace with ⟨hg0, he0⟩ | ⟨g, c, cur, hg, hob, hcs, hfit, hmax, hrep⟩
        · have hx0 : a.eval x = .slice none 0 0 := by rw [k5, hg0]; rfl
          have hl0 : row.es.length = 0 := by rw [he0]; rfl
          have happ := run_append_nil_string (P := P) w T U o.type row.E i z hu hU hi hzz v hpos2 (by omega) (by rw [hl0, Nat.zero_add] at hlen; omega)
          rw [show v.data.map (fun b => Value.int .u8 b.toNat) = (Lib.strCells v).toArray from (by apply Array.ext'; simp [Lib.strCells])] at happ
          rw [← hyv, ← hx0] at happ
          have hG : Grow C.av s.st m w r row (byteTrs v.data.toList) w.heap.size (grownCap w v.size 0 row.E) ((Lib.strCells v).toArray ++ Builtin.zeroCells z.cells (grownCap w v.size 0 row.E - v.size)) (w.drew.alloc (.cells ((Lib.strCells v).toArray ++ Builtin.zeroCells z.cells (grownCap w v.size 0 row.E - v.size)) row.E)) := by
            have hge := grownCap_ge w v.size 0 row.E
            refine ⟨hrow, rfl, rfl, rfl, by simp, fun b hb _ => Below.heap_alloc w.drew _ b hb, heap_alloc_new w.drew _, ?_, by rw [hvl]; omega, grownCap_le_maxLen w _ _ _ (by unfold maxLen; omega), hall, fun q e hq => by rw [he0] at hq; simp at hq, hnew _ [] (Builtin.zeroCells z.cells (grownCap w v.size 0 row.E - v.size)).toList (by simp) (by rw [hl0]; simp), .inr (Nat.le_refl _), fun hc => ?_⟩
            · rw [Array.size_append, size_zeroCells, hzs]
              simp only [List.size_toArray, hnl]
              rw [k2]
              omega
            · rcases hc with hc | hc
              · rw [hw] at hc; cases hc
              · exact absurd (hvl.symm.trans (congrArg List.length hc)) hne
          refine ⟨_, _, _, hrun _ _ happ, hG.ev h.sto, hG.sto h.sto, ?_⟩
          have := hG.acc h.sto
          rw [hl0, Nat.zero_add, hvl] at this
          have e1 : PV.acc 1 (row.es ++ byteTrs v.data.toList) r = PV.acc row.sz (row.es ++ byteTrs v.data.toList) r := by rw [k2]
          rw [e1]
          exact this
        · have hx0 : a.eval x = .slice (some ⟨g, 0, none⟩) row.es.length c := by rw [k5, hg]; rfl
          have hold : ∀ q e, row.es[q]? = some e → ∀ j d, e[j]? = some d → ∃ v, cur[q * row.sz + j]? = some v ∧ RepM (okA C.av s.st m) w d v := fun q e hq j d hd => by
            cases hrep with
            | row cf q1 q2 q3 q4 =>
              obtain ⟨b', off', hbo, hb', q5⟩ := q3 (by rintro e0; rw [e0] at hq; simp at hq)
              injection hbo with hbo
              injection hbo with e1 e2 e3
              subst e1 e2
              have := (q5 q e hq j d hd).2
              rw [hob.cell, Nat.zero_add] at this
              exact ⟨cf q j, this, q4 q e hq j d hd⟩
          have hfitc : row.es.length * row.sz ≤ cur.size := by rw [hcs]; exact Nat.mul_le_mul_right _ hfit
          have hcl : (cur.toList.take (row.es.length * row.sz)).length = row.es.length * row.sz := by simp; omega
          have hsz1 : row.es.length * row.sz = row.es.length := by rw [k2, Nat.mul_one]
          by_cases hroom : row.es.length + v.size ≤ c
          · have hcap : row.es.length + v.size ≤ cur.size := by rw [hcs, k2, Nat.mul_one]; exact hroom
            have happ := Lib.run_append_room_string (P := P) w T U o.type row.E i hu hU hi hs g row.es.length c cur hob v hroom hcap
            rw [← hyv, ← hx0] at happ
            have hG : Grow C.av s.st m w r row (byteTrs v.data.toList) g c (cur.toList.take row.es.length ++ Lib.strCells v ++ cur.toList.drop (row.es.length + v.size)).toArray (w.setRow g (cur.toList.take row.es.length ++ Lib.strCells v ++ cur.toList.drop (row.es.length + v.size)).toArray) := by
              rw [hsz1] at hcl
              refine ⟨hrow, rfl, rfl, rfl, by simp, fun b hb hne => setRow_other w g b _ hne, setRow_heap w g cur _ _ _ hob, ?_, by rw [hvl]; exact hroom, hmax, hall, fun q e hq j d hd => ?_, hnew _ _ _ (by simp [List.append_assoc]; rfl) (by rw [hsz1]; exact hcl), .inl ⟨c, cur, hg, hob, fun o ho => ?_⟩, fun _ => hg⟩
              · simp only [List.size_toArray, List.length_append, hcl, List.length_drop, Array.length_toList, hnl]
                rw [k2, Nat.mul_one] at hcs
                rw [k2, Nat.mul_one]
                omega
              · obtain ⟨u, hv, hr⟩ := hold q e hq j d hd
                refine ⟨u, ?_, hr⟩
                have hq1 := get_lt hq
                have hj1 : j < row.sz := by rw [← hlens e (List.mem_of_getElem? hq)]; exact get_lt hd
                have hlt : q * row.sz + j < row.es.length := by rw [k2] at hj1 ⊢; omega
                rw [List.getElem?_toArray, List.append_assoc, List.getElem?_append_left (by rw [hcl]; exact hlt), List.getElem?_take, if_pos hlt, Array.getElem?_toList, hv]
              · rw [hsz1] at ho
                rw [List.getElem?_toArray, List.append_assoc, List.getElem?_append_left (by rw [hcl]; exact ho), List.getElem?_take, if_pos ho, Array.getElem?_toList]
            have hgm : upd m.γ r (some (g, c)) = m.γ := by
              funext q
              by_cases hqr : q = r
              · subst hqr; rw [upd_same, hg]
              · rw [upd_ne hqr]
            refine ⟨_, _, _, hrun _ _ happ, hG.ev h.sto, hG.sto h.sto, ?_⟩
            have := hG.acc h.sto
            rw [hvl] at this
            have e1 : PV.acc 1 (row.es ++ byteTrs v.data.toList) r = PV.acc row.sz (row.es ++ byteTrs v.data.toList) r := by rw [k2]
            rw [e1]
            exact this
          · have happ := Lib.run_append_grow_string (P := P) w T U o.type row.E i z hu hU hi hzz ⟨g, 0, none⟩ row.es.length c (cur.toList.take (row.es.length * row.sz)) (by rw [hs, k2]; simp; rw [k2] at hfitc; omega) (fun j v hj => by
              have hjl := get_lt hj
              rw [List.getElem?_take] at hj
              split at hj
              · rename_i hjl2
                have hadd : (⟨g, 0, none⟩ : Addr).add j = ⟨g, j, none⟩ := by unfold Addr.add; split <;> simp_all
                rw [hadd, hob.cell]
                simpa using hj
              · cases hj) v (by omega) (by omega) (growslice_fits (by omega) hlen)
            rw [← hyv, ← hx0] at happ
            have hG : Grow C.av s.st m w r row (byteTrs v.data.toList) w.heap.size (grownCap w (row.es.length + v.size) c row.E) ((cur.toList.take (row.es.length * row.sz)).toArray ++ (Lib.strCells v).toArray ++ Builtin.zeroCells z.cells (grownCap w (row.es.length + v.size) c row.E - (row.es.length + v.size))) (w.drew.alloc (.cells ((cur.toList.take (row.es.length * row.sz)).toArray ++ (Lib.strCells v).toArray ++ Builtin.zeroCells z.cells (grownCap w (row.es.length + v.size) c row.E - (row.es.length + v.size))) row.E)) := by
              have hge := grownCap_ge w (row.es.length + v.size) c row.E
              refine ⟨hrow, rfl, rfl, rfl, by simp, fun b hb _ => Below.heap_alloc w.drew _ b hb, heap_alloc_new w.drew _, ?_, by rw [hvl]; exact hge, grownCap_le_maxLen w _ _ _ (by unfold maxLen; omega), hall, fun q e hq j d hd => ?_, hnew _ _ _ (by simp [List.append_assoc]; rfl) hcl, .inr (Nat.le_refl _), fun hc => ?_⟩
              · rw [Array.size_append, Array.size_append, size_zeroCells, hzs]
                simp only [List.size_toArray, hcl, hnl]
                rw [k2]
                omega
              · obtain ⟨u, hv, hr⟩ := hold q e hq j d hd
                refine ⟨u, ?_, hr⟩
                have hq1 := get_lt hq
                have hj1 : j < row.sz := by rw [← hlens e (List.mem_of_getElem? hq)]; exact get_lt hd
                have hlt : q * row.sz + j < row.es.length * row.sz := by
                  have : (q + 1) * row.sz ≤ row.es.length * row.sz := Nat.mul_le_mul_right _ hq1
                  rw [Nat.succ_mul] at this
                  omega
                rw [Array.append_assoc, Array.getElem?_append_left (by rw [List.size_toArray, hcl]; exact hlt), List.getElem?_toArray, List.getElem?_take, if_pos hlt, Array.getElem?_toList, hv]
              · rcases hc with hc | hc
                · rw [hw] at hc; cases hc
                · exact absurd (hvl.symm.trans (congrArg List.length hc)) hne
            refine ⟨_, _, _, hrun _ _ happ, hG.ev h.sto, hG.sto h.sto, ?_⟩
            have := hG.acc h.sto
            rw [hvl] at this
            have e1 : PV.acc 1 (row.es ++ byteTrs v.data.toList) r = PV.acc row.sz (row.es ++ byteTrs v.data.toList) r := by rw [k2]
            rw [e1]
            exact this
theorem AOp.appendStr {T U E by_ : Nat} {x y : Operand} {l : List UInt8} {es es3 : List (List Tr)} {r : Nat} {row : PRow} {v : ByteArray} (ho : o.op = .call { callee := .builtin .append, args := #[x, y], argTypes := #[T, U] }) (hd : dstOk o.dst n = true)
    (hx : s.ev x = some (.acc 1 es r)) (hrow : s.st.rows[r]? = some row) (hes : row.es = es) (hE : row.E = E) (hw : row.whole = false) (hy : s.ev y = some (.t (.leaf (.string v)))) (hl : v.data.toList = l)
    (hT : elemOf? P T = some (E, 1, by_)) (hU : P.underlying U = some .string) (hz : (P.info? E).bind (fun i => i.zero.map (fun z => z.cells.size)) = some 1) (hb : 0 < by_) (hlen : (es.length + l.length) * by_ ≤ 140737488355328) (h3 : es ++ byteTrs l = es3) :
    AOp P C n o s ((⟨s.env, s.st.setRow r { row with es := es3 }⟩ : AS).putO o.dst (.acc 1 es3 r)) := by
  subst h3
  exact AOp.run hd (s1 := ⟨s.env, s.st.setRow r { row with es := es ++ byteTrs l }⟩) (fun m a w h => appendStr_at ho h (h.eval hx) hrow hes hE hw hy hl hT hU hz hb hlen) rfl
end
end Go.Proofs.YtmpepccpnnldoaaGreat

namespace Go.Proofs.YtmpepccpnnldoaaGreat
set_option maxRecDepth 100000
set_option maxHeartbeats 40000000
noncomputable section
open Go.RowKit Go.Proofs
set_option linter.unusedSimpArgs false
set_option linter.unusedVariables false

attribute [local irreducible] lt

def sl1In_T (m : Int → Int → Int → Option Bool) : Prop := ∀ (px : Int) (plo : Int) (phi : Int) (r : Bool), m px plo phi = some r → AFun Tryz.prog 53 [pI px, pI plo, pI phi] (pB r : PV)
def sl1In_M (fu : Nat) (px plo phi : Int) : Option Bool :=
 sw (decide ((px : Int) ≥ plo))
 (some (decide ((px : Int) ≤ phi)))
 (some false)
theorem sl1In_ok (fu : Nat)   : sl1In_T (sl1In_M fu) := by
  intro px plo phi r H
  have H := hd0 H
  refine qI Tryz.func53 (fun C hC => ?_)
  refine qS (qR (q1 rMv (qN (qS (qR ?_)))))
  iterate 2 refine q1 rMv ?_
  refine q1 rGe (q1 rMv ?_)
  refine spB 10 H (fun g1 H => ?_) fun g1 H => ?_
  · refine qg g1 rMv (qg g1 rMv (qg g1 rLe (q1 (rPt g1) (q1 rMv (qN (AWP.ret ?_))))))
    obtain rfl : _ = r := (smI H :)
    exact qe1
  iterate 3 refine qk g1 ?_
  refine q1 (rPf g1) (q1 rMv (qN (AWP.ret ?_)))
  obtain rfl : _ = r := (smI H :)
  exact qe1

def sl1Has_T (m : (List ByteArray) → ByteArray → Option Bool) : Prop := ∀ (plist : List ByteArray) (ps : ByteArray) (r : Bool), m plist ps = some r → AFun Tryz.prog 82 [rS plist, pS ps] (pB r : PV)
def sl1Has_F1 (fu : Nat) (plist : List ByteArray) (ps : ByteArray) : Nat → Unit → Option (LR Unit Bool) :=
 fun i1 _ => sw (decide (atD plist i1 = ps))
 (some (.ret true))
 (some (.next ()))
def sl1Has_R1 (fu : Nat) (plist : List ByteArray) (ps : ByteArray) : Option (Bool ⊕ Unit) :=
 loopN (sl1Has_F1 fu plist ps) (plist.length - 0) 0 ()
def sl1Has_M (fu : Nat) (plist : List ByteArray) (ps : ByteArray) : Option Bool :=
 so (sl1Has_R1 fu plist ps) (fun _ =>
 some false)
theorem sl1Has_ok (fu : Nat)   : sl1Has_T (sl1Has_M fu) := by
  intro plist ps r H
  have H := hd0 H
  refine qI Tryz.func82 (fun C hC => ?_)
  refine qS (qR (q1 rMv (qN ?_)))
  iterate 2 refine qS ?_
  refine qR (q1 rMv (qN ?_))
  refine lenF 0 (strTrs_len _) (fun hl2 => ?_)
  refine loopB (σ := Unit) (fun i1 _ => ⟨[(0, rS plist), (1, pS ps), (4, pB false), (5, pN i1)], ⟨[], []⟩⟩) (fun _ => ⟨[(4, pB false)], ⟨[], []⟩⟩) (soI H) ?_ ?_
  · rintro i1 ⟨⟩ H
    iterate 2 refine qS ?_
    refine qR ?_
    iterate 2 refine q1 rMv ?_
    refine q1 (rLn el39 (strTrs_len _)) (q1 rLt (qN ?_))
    refine cndL H (fun h3 h3l H => ?_) (fun h3 H => ?_)
    · have h3n := nat_lt_of h3
      refine AWP.skip (qS (AWP.block (qS (qR ?_))))
      iterate 2 refine q1 rMv ?_
      refine q1 (rIx h3n el39) (q1 (rK1 sh9) (q1 rMv (q1 rSe (qN ?_))))
      refine cndB H (fun h4 H => ?_) (fun h4 H => ?_)
      · refine qS (qR (q1 rMv (qN (AWP.ret ?_))))
        obtain rfl : _ = r := (lkR (smI H) :)
        exact qe1
      refine AWP.skip (qR (q1 rMv (q1 (AOp.addI rfl rfl rfl rfl (c := ((i1 + 1 : Nat) : Int)) (by omega) (by omega)) (q1 rMv (qN ?_)))))
      exact lpN h3l ⟨_, (smI H :), wkA⟩
    refine AWP.exit ?_; exact lpX ⟨_, H, wkA⟩
  rintro ⟨⟩ H
  refine qS (qR (q1 rMv (qN (AWP.ret ?_))))
  obtain rfl : _ = r := (smI H :)
  exact qe1

def sIsReserved_T (m : ByteArray → Option Bool) : Prop := ∀ (ps : ByteArray) (r : Bool), m ps = some r → AFun Tryz.prog 54 [pS ps] (pB r : PV)
def sIsReserved_M (fu : Nat) (ps : ByteArray) : Option Bool :=
 bd (sl1Has_M fu ([s_int, s_bool, s_assoc, s_dyn, s_if, s_let, s_case, s_new, s_method, s_pack, s_true, s_false] : List ByteArray) ps) (fun x2 =>
 some x2)
theorem sIsReserved_ok (fu : Nat)   : sIsReserved_T (sIsReserved_M fu) := by
  intro ps r H
  have H := hd0 H
  refine qI Tryz.func54 (fun C hC => ?_)
  refine qS (qR (q1 rMv (qN (qS (qR (q1 (rBs ([s_int, s_bool, s_assoc, s_dyn, s_if, s_let, s_case, s_new, s_method, s_pack, s_true, s_false] : List ByteArray) el39 zr9) (q1 rMv (bdE H fun x2 z1 H => (q1 (rCf Tryz.func82 (sl1Has_ok fu ([s_int, s_bool, s_assoc, s_dyn, s_if, s_let, s_case, s_new, s_method, s_pack, s_true, s_false] : List ByteArray) ps _ z1)) (q1 rMv (qN (AWP.ret ?_))))))))))))
  obtain rfl : _ = r := (smI H :)
  exact qe1

def sIsValidName_T (m : ByteArray → Option Bool) : Prop := ∀ (ps : ByteArray) (r : Bool), m ps = some r → AFun Tryz.prog 28 [pS ps] (pB r : PV)
def sIsValidName_F1 (fu : Nat) (ps : ByteArray) (x2 x5 : Bool) : Nat → Unit → Option (LR Unit Bool) :=
 fun i7 _ => gd (i7 < (ps).size)
 (sw (decide ((((bAt ps i7).toNat : Int) : Int) ≥ 97))
 (sw (!(decide ((((bAt ps i7).toNat : Int) : Int) ≤ 122)))
 (sw (decide ((((i7 : Nat) : Int) : Int) = 0))
 (some (.ret false))
 (sw (decide ((((bAt ps i7).toNat : Int) : Int) < 48))
 (some (.ret false))
 (sw (decide ((((bAt ps i7).toNat : Int) : Int) > 57))
 (some (.ret false))
 (some (.next ())))))
 (some (.next ())))
 (sw (decide ((((i7 : Nat) : Int) : Int) = 0))
 (some (.ret false))
 (sw (decide ((((bAt ps i7).toNat : Int) : Int) < 48))
 (some (.ret false))
 (sw (decide ((((bAt ps i7).toNat : Int) : Int) > 57))
 (some (.ret false))
 (some (.next ()))))))
def sIsValidName_R1 (fu : Nat) (ps : ByteArray) (x2 x5 : Bool) : Option (Bool ⊕ Unit) :=
 loopN (sIsValidName_F1 fu ps x2 x5) (ps.size - 0) 0 ()
def sIsValidName_M (fu : Nat) (ps : ByteArray) : Option Bool :=
 bd (sl1In_M fu ((ps.size : Nat) : Int) 1 8) (fun x2 =>
 sw (!(x2))
 (some false)
 (bd (sIsReserved_M fu ps) (fun x5 =>
 sw (x5)
 (some false)
 (so (sIsValidName_R1 fu ps x2 x5) (fun _ =>
 some true)))))
theorem sIsValidName_ok (fu : Nat)   : sIsValidName_T (sIsValidName_M fu) := by
  intro ps r H
  have H := hd0 H
  refine qI Tryz.func28 (fun C hC => ?_)
  refine qS (qR (q1 rMv (qN ?_)))
  iterate 2 refine qS ?_
  refine qR (q1 rMv (q1 (AOp.lenS rfl rfl rfl Tryz.underlying9) (bdE H fun x2 z1 H => (q1 (rCf Tryz.func53 (sl1In_ok fu ((ps.size : Nat) : Int) 1 8 _ z1)) (q1 rNo (q1 rMv ?_))))))
  refine spB 9 H (fun g3 H => ?_) fun g3 H => ?_
  · refine qk g3 (qk g3 (q1 (rPt g3) (qN (cndT rfl (qS (qR (q1 rMv (qN (AWP.ret ?_)))))))))
    obtain rfl : _ = r := (smI H :)
    exact qe1
  refine qg g3 rMv (bdE H fun x5 z4 H => (qg g3 (rCf Tryz.func54 (sIsReserved_ok fu ps _ z4)) (q1 (rPf g3) (qN ?_))))
  refine cndB H (fun h6 H => ?_) (fun h6 H => ?_)
  · refine qS (qR (q1 rMv (qN (AWP.ret ?_))))
    obtain rfl : _ = r := (smI H :)
    exact qe1
  refine AWP.skip ?_
  iterate 2 refine qS ?_
  refine qR (q1 rMv (qN ?_))
  refine szF 0 (fun hl8 => ?_)
  refine loopB (σ := Unit) (fun i7 _ => ⟨[(0, pS ps), (2, pB false), (3, pN i7)], ⟨[], []⟩⟩) (fun _ => ⟨[(2, pB false)], ⟨[], []⟩⟩) (soI H) ?_ ?_
  · rintro i7 ⟨⟩ H
    iterate 2 refine qS ?_
    refine qR ?_
    iterate 2 refine q1 rMv ?_
    refine q1 (AOp.lenS rfl rfl rfl Tryz.underlying9) (q1 rLt (qN ?_))
    refine cndL H (fun h9 h9l H => ?_) (fun h9 H => ?_)
    · have h9n : i7 < ps.size := by have := of_decide_eq_true h9; omega
      refine AWP.skip (qS (AWP.block (qS (qR ?_))))
      iterate 2 refine q1 rMv ?_
      refine gdE H fun z10 H => (q1 (AOp.indexS (k := i7) rfl rfl rfl rfl z10 Tryz.underlying9) (q1 rGe (q1 rMv ?_)))
      refine spB 23 H (fun g11 H => ?_) fun g11 H => ?_
      · refine qg g11 rMv (qg g11 rMv (qg g11 (AOp.indexS (k := i7) rfl rfl rfl rfl z10 Tryz.underlying9) (qg g11 rLe (q1 (rPt g11) (q1 rMv (qN (qS (qR (q1 rMv (q1 rNo (q1 rMv ?_)))))))))))
        refine spB 31 H (fun g12 H => ?_) fun g12 H => ?_
        · refine qg g12 rMv (qg g12 rEq (qg g12 rMv ?_))
          refine spB 34 H (fun g13 H => ?_) fun g13 H => ?_
          · refine qk g13 ?_
            iterate 3 refine qk g13 ?_
            refine qg g12 (rPt g13) (qg g12 rMv ?_)
            iterate 4 refine qk rfl ?_
            refine qg g12 (rPt rfl) (q1 (rPt g12) (qN (cndT rfl (qS (qR (q1 rMv (qN (AWP.ret ?_))))))))
            obtain rfl : _ = r := (lkR (smI H) :)
            exact qe1
          iterate 2 refine qg g13 rMv ?_
          refine qg g13 (AOp.indexS (k := i7) rfl rfl rfl rfl z10 Tryz.underlying9) (qg g13 rLt (qg g12 (rPf g13) (qg g12 rMv ?_)))
          refine spB 40 H (fun g14 H => ?_) fun g14 H => ?_
          · refine qk g14 ?_
            iterate 3 refine qk g14 ?_
            refine qg g12 (rPt g14) (q1 (rPt g12) (qN (cndT rfl (qS (qR (q1 rMv (qN (AWP.ret ?_))))))))
            obtain rfl : _ = r := (lkR (smI H) :)
            exact qe1
          iterate 2 refine qg g14 rMv ?_
          refine qg g14 (AOp.indexS (k := i7) rfl rfl rfl rfl z10 Tryz.underlying9) (qg g14 rGt (qg g12 (rPf g14) (q1 (rPt g12) (qN ?_))))
          refine cndB H (fun h15 H => ?_) (fun h15 H => ?_)
          · refine qS (qR (q1 rMv (qN (AWP.ret ?_))))
            obtain rfl : _ = r := (lkR (smI H) :)
            exact qe1
          refine AWP.skip (qR (q1 rMv (q1 (AOp.addI rfl rfl rfl rfl (c := ((i7 + 1 : Nat) : Int)) (by omega) (by omega)) (q1 rMv (qN ?_)))))
          exact lpN h9l ⟨_, (smI H :), wkA⟩
        iterate 3 refine qk g12 ?_
        iterate 4 refine qku ?_
        iterate 2 refine qk g12 ?_
        iterate 4 refine qku ?_
        refine qk g12 (q1 (rPf g12) (qN (cndF rfl (AWP.skip (qR (q1 rMv (q1 (AOp.addI rfl rfl rfl rfl (c := ((i7 + 1 : Nat) : Int)) (by omega) (by omega)) (q1 rMv (qN ?_)))))))))
        exact lpN h9l ⟨_, (smI H :), wkA⟩
      iterate 4 refine qk g11 ?_
      refine q1 (rPf g11) (q1 rMv (qN (qS (qR (q1 rMv (q1 rNo (q1 rMv (qg (congrArg (fun b => !b) (rfl : false = false)) rMv (qg (congrArg (fun b => !b) (rfl : false = false)) rEq (qg (congrArg (fun b => !b) (rfl : false = false)) rMv ?_))))))))))
      refine spB 34 H (fun g16 H => ?_) fun g16 H => ?_
      · refine qk g16 ?_
        iterate 3 refine qk g16 ?_
        refine qg (congrArg (fun b => !b) (rfl : false = false)) (rPt g16) (qg (congrArg (fun b => !b) (rfl : false = false)) rMv ?_)
        iterate 4 refine qk rfl ?_
        refine qg (congrArg (fun b => !b) (rfl : false = false)) (rPt rfl) (q1 (rPt (congrArg (fun b => !b) (rfl : false = false))) (qN (cndT rfl (qS (qR (q1 rMv (qN (AWP.ret ?_))))))))
        obtain rfl : _ = r := (lkR (smI H) :)
        exact qe1
      iterate 2 refine qg g16 rMv ?_
      refine qg g16 (AOp.indexS (k := i7) rfl rfl rfl rfl z10 Tryz.underlying9) (qg g16 rLt (qg (congrArg (fun b => !b) (rfl : false = false)) (rPf g16) (qg (congrArg (fun b => !b) (rfl : false = false)) rMv ?_)))
      refine spB 40 H (fun g17 H => ?_) fun g17 H => ?_
      · refine qk g17 ?_
        iterate 3 refine qk g17 ?_
        refine qg (congrArg (fun b => !b) (rfl : false = false)) (rPt g17) (q1 (rPt (congrArg (fun b => !b) (rfl : false = false))) (qN (cndT rfl (qS (qR (q1 rMv (qN (AWP.ret ?_))))))))
        obtain rfl : _ = r := (lkR (smI H) :)
        exact qe1
      iterate 2 refine qg g17 rMv ?_
      refine qg g17 (AOp.indexS (k := i7) rfl rfl rfl rfl z10 Tryz.underlying9) (qg g17 rGt (qg (congrArg (fun b => !b) (rfl : false = false)) (rPf g17) (q1 (rPt (congrArg (fun b => !b) (rfl : false = false))) (qN ?_))))
      refine cndB H (fun h18 H => ?_) (fun h18 H => ?_)
      · refine qS (qR (q1 rMv (qN (AWP.ret ?_))))
        obtain rfl : _ = r := (lkR (smI H) :)
        exact qe1
      refine AWP.skip (qR (q1 rMv (q1 (AOp.addI rfl rfl rfl rfl (c := ((i7 + 1 : Nat) : Int)) (by omega) (by omega)) (q1 rMv (qN ?_)))))
      exact lpN h9l ⟨_, (smI H :), wkA⟩
    refine AWP.exit ?_; exact lpX ⟨_, H, wkA⟩
  rintro ⟨⟩ H
  refine qS (qR (q1 rMv (qN (AWP.ret ?_))))
  obtain rfl : _ = r := (smI H :)
  exact qe1

abbrev sl4Left_Y := GType → Int → Option Int
def sl4Left_T (m : sl4Left_Y) : Prop := ∀ (pt : GType) (pleft : Int) (r : Int), m pt pleft = some r → AFun Tryz.prog 55 [(GType.pv pt), pI pleft] (pI r : PV)
def sl4Left_F1 (fu : Nat) (r_sl4Left : sl4Left_Y) (pt : GType) (pleft : Int) : Nat → Int → Option (LR Int Int) :=
 fun i1 v2 => sw (decide ((v2 : Int) ≥ 0))
 (bd (r_sl4Left (atD pt.gArgs i1) v2) (fun x7 =>
 some (.next x7)))
 (some (.brk v2))
def sl4Left_R1 (fu : Nat) (r_sl4Left : sl4Left_Y) (pt : GType) (pleft : Int) : Option (Int ⊕ Int) :=
 loopN (sl4Left_F1 fu r_sl4Left pt pleft) (pt.gArgs.length - 0) 0 (wrap64 (pleft - 1))
def sl4Left_G (fu : Nat) (r_sl4Left : sl4Left_Y) (pt : GType) (pleft : Int) : Option Int :=
 so (sl4Left_R1 fu r_sl4Left pt pleft) (fun v2 =>
 some v2)
theorem sl4Left_step (fu : Nat) (r_sl4Left : sl4Left_Y) (h_sl4Left : sl4Left_T r_sl4Left) : sl4Left_T (sl4Left_G fu r_sl4Left) := by
  intro pt pleft r H
  have H := hd0 H
  refine qI Tryz.func55 (fun C hC => ?_)
  refine qS (qR (q1 (rBx (cType pt)) (q1 rMv (qN (qS (qR (q1 rMv (q1 rSw (q1 rMv (qN ?_))))))))))
  iterate 2 refine qS ?_
  refine qR (q1 rMv (qN ?_))
  refine AWP.fact (box_lenN 0 2 rfl rfl rfl (GType.trs_len _)) (fun hl3 => ?_)
  refine loopB (σ := Int) (fun i1 v2 => ⟨[(1, pI v2), (2, .ptr 0 0), (4, pI 0), (5, pN i1)], ⟨[some ⟨26, cType pt⟩], []⟩⟩) (fun v2 => ⟨[(1, pI v2), (4, pI 0)], ⟨[some ⟨26, cType pt⟩], []⟩⟩) (soI H) ?_ ?_
  · rintro i1 v2 H
    iterate 2 refine qS ?_
    refine qR (q1 rMv (q1 (rFp fo26_2) (q1 (rL1 sh24) (q1 (rLn el24 (GType.trs_len _)) (q1 rLt (q1 rMv ?_))))))
    refine AL.splitB 13 rfl (fun g4 => ?_) (fun g4 => ?_)
    · have g4l := nat_lt_of2 g4
      have H := lnT g4l H
      have g4n := nat_lt_of g4
      refine qg g4 rMv (qg g4 rGe (q1 (rPt g4) (qN ?_)))
      refine cndB H (fun h5 H => ?_) (fun h5 H => ?_)
      · refine AWP.skip (qS (AWP.block (qR (q1 (rFp fo26_2) (q1 (rL1 sh24) (q1 rMv (q1 (rIx g4n el24) (q1 (rKe (GType.cs (atD pt.gArgs i1)) sh26) (q1 rMv (bdE H fun x7 z6 H => (q1 (rCf Tryz.func55 (h_sl4Left (atD pt.gArgs i1) v2 _ z6)) (q1 rMv (qN ?_)))))))))))))
        refine qR (q1 rMv (q1 (AOp.addI rfl rfl rfl rfl (c := ((i1 + 1 : Nat) : Int)) (by omega) (by omega)) (q1 rMv (qN ?_))))
        exact lpN g4l ⟨_, (smI H :), wkA⟩
      refine AWP.exit ?_; exact lpB ⟨_, (smI H :), wkA⟩
    have H := lnE (nat_ge_of2 g4) H
    iterate 2 refine qk g4 ?_
    refine q1 (rPf g4) (qN (cndF rfl (AWP.exit ?_)))
    exact lpX ⟨_, H, wkA⟩
  rintro v2 H
  refine qS (qR ?_)
  iterate 2 refine q1 rMv ?_
  refine qN (AWP.ret ?_)
  obtain rfl : _ = r := (smI H :)
  exact qe1
def sl4Left_M : Nat → GType → Int → Option Int
  | 0, _, _ => none
  | fu + 1, pt, pleft => sl4Left_G fu (sl4Left_M fu) pt pleft
theorem sl4Left_all (fu : Nat) : sl4Left_T (sl4Left_M fu) := by
  induction fu with
  | zero => exact (fun pt pleft r H => by simp only [sl4Left_M] at H; cases H)
  | succ fu ih => exact (fun pt pleft r H => by simp only [sl4Left_M] at H; exact sl4Left_step fu (sl4Left_M fu) ih pt pleft r H)
theorem sl4Left_ok (fu : Nat) : sl4Left_T (sl4Left_M fu) := (sl4Left_all fu)

def sl1Max_T (m : Int → Int → Option Int) : Prop := ∀ (pa : Int) (pb : Int) (r : Int), m pa pb = some r → AFun Tryz.prog 83 [pI pa, pI pb] (pI r : PV)
def sl1Max_M (fu : Nat) (pa pb : Int) : Option Int :=
 sw (decide ((pa : Int) > pb))
 (some pa)
 (some pb)
theorem sl1Max_ok (fu : Nat)   : sl1Max_T (sl1Max_M fu) := by
  intro pa pb r H
  have H := hd0 H
  refine qI Tryz.func83 (fun C hC => ?_)
  refine qS (qR (q1 rMv (qN ?_)))
  iterate 2 refine qS ?_
  refine qR ?_
  iterate 2 refine q1 rMv ?_
  refine q1 rGt (qN ?_)
  refine cndB H (fun h1 H => ?_) (fun h1 H => ?_)
  · refine qS (qR ?_)
    iterate 2 refine q1 rMv ?_
    refine qN (AWP.ret ?_)
    obtain rfl : _ = r := (smI H :)
    exact qe1
  refine AWP.skip (qS (qR ?_))
  iterate 2 refine q1 rMv ?_
  refine qN (AWP.ret ?_)
  obtain rfl : _ = r := (smI H :)
  exact qe1

abbrev sTypeDepth_Y := GType → Option Int
def sTypeDepth_T (m : sTypeDepth_Y) : Prop := ∀ (pt : GType) (r : Int), m pt = some r → AFun Tryz.prog 56 [(GType.pv pt)] (pI r : PV)
def sTypeDepth_F1 (fu : Nat) (r_sTypeDepth : sTypeDepth_Y) (pt : GType) : Nat → Int → Option (LR Int Int) :=
 fun i1 v2 => bd (r_sTypeDepth (atD pt.gArgs i1)) (fun x6 =>
 bd (sl1Max_M fu v2 (wrap64 (1 + x6))) (fun x8 =>
 some (.next x8)))
def sTypeDepth_R1 (fu : Nat) (r_sTypeDepth : sTypeDepth_Y) (pt : GType) : Option (Int ⊕ Int) :=
 loopN (sTypeDepth_F1 fu r_sTypeDepth pt) (pt.gArgs.length - 0) 0 0
def sTypeDepth_G (fu : Nat) (r_sTypeDepth : sTypeDepth_Y) (pt : GType) : Option Int :=
 so (sTypeDepth_R1 fu r_sTypeDepth pt) (fun v2 =>
 some v2)
theorem sTypeDepth_step (fu : Nat) (r_sTypeDepth : sTypeDepth_Y) (h_sTypeDepth : sTypeDepth_T r_sTypeDepth) : sTypeDepth_T (sTypeDepth_G fu r_sTypeDepth) := by
  intro pt r H
  have H := hd0 H
  refine qI Tryz.func56 (fun C hC => ?_)
  refine qS (qR (q1 (rBx (cType pt)) (q1 rMv (qN (qS (qR (q1 rMv (qN ?_))))))))
  iterate 2 refine qS ?_
  refine qR (q1 rMv (qN ?_))
  refine AWP.fact (box_lenN 0 2 rfl rfl rfl (GType.trs_len _)) (fun hl3 => ?_)
  refine loopB (σ := Int) (fun i1 v2 => ⟨[(1, .ptr 0 0), (2, pI 0), (3, pI v2), (4, pN i1)], ⟨[some ⟨26, cType pt⟩], []⟩⟩) (fun v2 => ⟨[(2, pI 0), (3, pI v2)], ⟨[some ⟨26, cType pt⟩], []⟩⟩) (soI H) ?_ ?_
  · rintro i1 v2 H
    iterate 2 refine qS ?_
    refine qR (q1 rMv (q1 (rFp fo26_2) (q1 (rL1 sh24) (q1 (rLn el24 (GType.trs_len _)) (q1 rLt (qN ?_))))))
    refine cndL H (fun h4 h4l H => ?_) (fun h4 H => ?_)
    · have h4n := nat_lt_of h4
      refine AWP.skip (qS (AWP.block (qR (q1 rMv (q1 (rFp fo26_2) (q1 (rL1 sh24) (q1 rMv (q1 (rIx h4n el24) (q1 (rKe (GType.cs (atD pt.gArgs i1)) sh26) (bdE H fun x6 z5 H => (q1 (rCf Tryz.func56 (h_sTypeDepth (atD pt.gArgs i1) _ z5)) (q1 rAw (bdE H fun x8 z7 H => ?_)))))))))))))
      refine q1 (rCf Tryz.func83 (sl1Max_ok fu v2 (wrap64 (1 + x6)) _ z7)) (q1 rMv (qN (qR (q1 rMv (q1 (AOp.addI rfl rfl rfl rfl (c := ((i1 + 1 : Nat) : Int)) (by omega) (by omega)) (q1 rMv (qN ?_)))))))
      exact lpN h4l ⟨_, (smI H :), wkA⟩
    refine AWP.exit ?_; exact lpX ⟨_, H, wkA⟩
  rintro v2 H
  refine qS (qR ?_)
  iterate 2 refine q1 rMv ?_
  refine qN (AWP.ret ?_)
  obtain rfl : _ = r := (smI H :)
  exact qe1
def sTypeDepth_M : Nat → GType → Option Int
  | 0, _ => none
  | fu + 1, pt => sTypeDepth_G fu (sTypeDepth_M fu) pt
theorem sTypeDepth_all (fu : Nat) : sTypeDepth_T (sTypeDepth_M fu) := by
  induction fu with
  | zero => exact (fun pt r H => by simp only [sTypeDepth_M] at H; cases H)
  | succ fu ih => exact (fun pt r H => by simp only [sTypeDepth_M] at H; exact sTypeDepth_step fu (sTypeDepth_M fu) ih pt r H)
theorem sTypeDepth_ok (fu : Nat) : sTypeDepth_T (sTypeDepth_M fu) := (sTypeDepth_all fu)

def sl4Base_T (m : ByteArray → Option Bool) : Prop := ∀ (ps : ByteArray) (r : Bool), m ps = some r → AFun Tryz.prog 84 [pS ps] (pB r : PV)
def sl4Base_M (fu : Nat) (ps : ByteArray) : Option Bool :=
 sw (decide (ps = s_int))
 (some true)
 (some (decide (ps = s_bool)))
theorem sl4Base_ok (fu : Nat)   : sl4Base_T (sl4Base_M fu) := by
  intro ps r H
  have H := hd0 H
  refine qI Tryz.func84 (fun C hC => ?_)
  refine qS (qR (q1 rMv (qN (qS (qR (q1 rMv (q1 rSe (q1 rMv ?_))))))))
  refine spB 5 H (fun g1 H => ?_) fun g1 H => ?_
  · refine qk g1 (qk g1 (q1 (rPt g1) (q1 rMv (qN (AWP.ret ?_)))))
    obtain rfl : _ = r := (smI H :)
    exact qe1
  refine qg g1 rMv (qg g1 rSe (q1 (rPf g1) (q1 rMv (qN (AWP.ret ?_)))))
  obtain rfl : _ = r := (smI H :)
  exact qe1

abbrev sl4Form_Y := GType → Option Bool
def sl4Form_T (m : sl4Form_Y) : Prop := ∀ (pa0 : GType) (r : Bool), m pa0 = some r → AFun Tryz.prog 57 [(GType.pv pa0)] (pB r : PV)
def sl4Form_C2 (fu : Nat) (r_sl4Form : sl4Form_Y) (pa0 : GType) (x2 : Bool) : Option ((Bool ⊕ Bool) ⊕ Bool) :=
 sw (decide ((pa0.gKind : Int) = 1))
 (some (.inr (decide ((pa0.gKind : Int) = 1))))
 (some (.inr (decide ((pa0.gKind : Int) = 4))))
def sl4Form_C1 (fu : Nat) (r_sl4Form : sl4Form_Y) (pa0 : GType) (x2 : Bool) : Option (Bool ⊕ Bool) :=
 so (sl4Form_C2 fu r_sl4Form pa0 x2) (fun v4 =>
 sw (v4)
 (sw (x2)
 (some (.inr (decide ((((pa0.gArgs.length : Nat) : Int) : Int) = 0))))
 (some (.inr false)))
 (sw (decide ((pa0.gKind : Int) = 3))
 (sw (x2)
 (some (.inr (decide ((((pa0.gArgs.length : Nat) : Int) : Int) = 1))))
 (some (.inr false)))
 (sw (decide ((pa0.gKind : Int) = 2))
 (sw (x2)
 (sw (decide ((((pa0.gArgs.length : Nat) : Int) : Int) ≤ 3))
 (some (.inr true))
 (bd (sl4Base_M fu pa0.gName) (fun x14 =>
 sw (x14)
 (some (.inr (decide ((((pa0.gArgs.length : Nat) : Int) : Int) = 0))))
 (some (.inr false)))))
 (bd (sl4Base_M fu pa0.gName) (fun x17 =>
 sw (x17)
 (some (.inr (decide ((((pa0.gArgs.length : Nat) : Int) : Int) = 0))))
 (some (.inr false)))))
 (some (.inl false)))))
def sl4Form_F3 (fu : Nat) (r_sl4Form : sl4Form_Y) (pa0 : GType) (x2 v3 : Bool) : Nat → Bool → Option (LR Bool Bool) :=
 fun i19 v20 => sw (v20)
 (bd (r_sl4Form (atD pa0.gArgs i19)) (fun x25 =>
 some (.next x25)))
 (some (.next false))
def sl4Form_R3 (fu : Nat) (r_sl4Form : sl4Form_Y) (pa0 : GType) (x2 v3 : Bool) : Option (Bool ⊕ Bool) :=
 loopN (sl4Form_F3 fu r_sl4Form pa0 x2 v3) (pa0.gArgs.length - 0) 0 v3
def sl4Form_G (fu : Nat) (r_sl4Form : sl4Form_Y) (pa0 : GType) : Option Bool :=
 bd (sIsValidName_M fu pa0.gName) (fun x2 =>
 so (sl4Form_C1 fu r_sl4Form pa0 x2) (fun v3 =>
 so (sl4Form_R3 fu r_sl4Form pa0 x2 v3) (fun v20 =>
 some v20)))
theorem sl4Form_step (fu : Nat) (r_sl4Form : sl4Form_Y) (h_sl4Form : sl4Form_T r_sl4Form) : sl4Form_T (sl4Form_G fu r_sl4Form) := by
  intro pa0 r H
  have H := hd0 H
  refine qI Tryz.func57 (fun C hC => ?_)
  refine qS (qR (q1 (rBx (cType pa0)) (q1 rMv (qN (qS (qR (q1 (rFp fo26_1) (q1 (rL1 sh9) (bdE H fun x2 z1 H => (q1 (rCf Tryz.func28 (sIsValidName_ok fu pa0.gName _ z1)) (q1 rMv (qN (qS ?_)))))))))))))
  refine cutB (σ := Bool) (fun v3 => ⟨[(1, .ptr 0 0), (2, pB false), (3, pB v3)], ⟨[some ⟨26, cType pa0⟩], []⟩⟩) (soI H) (fun H => ?_) ?_
  · refine qS (qR (q1 (rFp fo26_0) (q1 (rL1 sh3) (qN (AWP.block (qS ?_))))))
    refine cutB (σ := Bool) (fun v4 => ⟨[(1, .ptr 0 0), (2, pB false), (3, pB x2), (9, pI pa0.gKind), (10, pB v4)], ⟨[some ⟨26, cType pa0⟩], []⟩⟩) (soI H) (fun H => ?_) ?_
    · refine qS (qR (q1 rEq (q1 rMv (qN ?_))))
      refine cndB H (fun h5 H => ?_) (fun h5 H => ?_)
      · refine AWP.skip ?_; exact cutX ⟨_, (smI H :), wkA⟩
      refine qR (q1 rEq (q1 rMv (qN ?_)))
      exact cutX ⟨_, (smI H :), wkA⟩
    rintro v4 H
    refine cndB H (fun h6 H => ?_) (fun h6 H => ?_)
    · refine qR ?_
      iterate 2 refine q1 rMv ?_
      refine spB 14 H (fun g7 H => ?_) fun g7 H => ?_
      · refine qg g7 (rFp fo26_2) (qg g7 (rL1 sh24) (qg g7 (rLn el24 (GType.trs_len _)) (qg g7 rEq (q1 (rPt g7) (q1 rMv (qN ?_))))))
        exact cutX ⟨_, (smI H :), wkA⟩
      iterate 4 refine qk g7 ?_
      refine q1 (rPf g7) (q1 rMv (qN ?_))
      exact cutX ⟨_, (smI H :), wkA⟩
    refine qS (qR (q1 rEq (q1 rMv (qN ?_))))
    refine cndB H (fun h8 H => ?_) (fun h8 H => ?_)
    · refine qR ?_
      iterate 2 refine q1 rMv ?_
      refine spB 23 H (fun g9 H => ?_) fun g9 H => ?_
      · refine qg g9 (rFp fo26_2) (qg g9 (rL1 sh24) (qg g9 (rLn el24 (GType.trs_len _)) (qg g9 rEq (q1 (rPt g9) (q1 rMv (qN ?_))))))
        exact cutX ⟨_, (smI H :), wkA⟩
      iterate 4 refine qk g9 ?_
      refine q1 (rPf g9) (q1 rMv (qN ?_))
      exact cutX ⟨_, (smI H :), wkA⟩
    refine qS (qR (q1 rEq (q1 rMv (qN ?_))))
    refine cndB H (fun h10 H => ?_) (fun h10 H => ?_)
    · refine qR ?_
      iterate 2 refine q1 rMv ?_
      refine spB 32 H (fun g11 H => ?_) fun g11 H => ?_
      · refine qg g11 (rFp fo26_2) (qg g11 (rL1 sh24) (qg g11 (rLn el24 (GType.trs_len _)) (qg g11 rLe (q1 (rPt g11) (q1 rMv ?_)))))
        refine spB 38 H (fun g12 H => ?_) fun g12 H => ?_
        · refine qk g12 ?_
          iterate 3 refine qk g12 ?_
          iterate 4 refine qku ?_
          refine qk g12 (q1 (rPt g12) (q1 rMv (qN ?_)))
          exact cutX ⟨_, (smI H :), wkA⟩
        refine qg g12 (rFp fo26_1) (qg g12 (rL1 sh9) (bdE H fun x14 z13 H => (qg g12 (rCf Tryz.func84 (sl4Base_ok fu pa0.gName _ z13)) (qg g12 rMv ?_))))
        refine spB 42 H (fun g15 H => ?_) fun g15 H => ?_
        · refine qg g15 (rFp fo26_2) (qg g15 (rL1 sh24) (qg g15 (rLn el24 (GType.trs_len _)) (qg g15 rEq (qg g12 (rPt g15) (q1 (rPf g12) (q1 rMv (qN ?_)))))))
          exact cutX ⟨_, (smI H :), wkA⟩
        iterate 4 refine qk g15 ?_
        refine qg g12 (rPf g15) (q1 (rPf g12) (q1 rMv (qN ?_)))
        exact cutX ⟨_, (smI H :), wkA⟩
      iterate 4 refine qk g11 ?_
      refine q1 (rPf g11) (q1 rMv (qg rfl (rFp fo26_1) (qg rfl (rL1 sh9) (bdE H fun x17 z16 H => (qg rfl (rCf Tryz.func84 (sl4Base_ok fu pa0.gName _ z16)) (qg rfl rMv ?_))))))
      refine spB 42 H (fun g18 H => ?_) fun g18 H => ?_
      · refine qg g18 (rFp fo26_2) (qg g18 (rL1 sh24) (qg g18 (rLn el24 (GType.trs_len _)) (qg g18 rEq (qg rfl (rPt g18) (q1 (rPf rfl) (q1 rMv (qN ?_)))))))
        exact cutX ⟨_, (smI H :), wkA⟩
      iterate 4 refine qk g18 ?_
      refine qg rfl (rPf g18) (q1 (rPf rfl) (q1 rMv (qN ?_)))
      exact cutX ⟨_, (smI H :), wkA⟩
    refine qS (qR (q1 rMv (qN (AWP.ret ?_))))
    obtain rfl : _ = r := (skL (smI H) :)
    exact qe1
  rintro v3 H
  iterate 2 refine qS ?_
  refine qR (q1 rMv (qN ?_))
  refine AWP.fact (box_lenN 0 2 rfl rfl rfl (GType.trs_len _)) (fun hl21 => ?_)
  refine loopB (σ := Bool) (fun i19 v20 => ⟨[(1, .ptr 0 0), (2, pB false), (3, pB v20), (4, pN i19)], ⟨[some ⟨26, cType pa0⟩], []⟩⟩) (fun v20 => ⟨[(2, pB false), (3, pB v20)], ⟨[some ⟨26, cType pa0⟩], []⟩⟩) (soI H) ?_ ?_
  · rintro i19 v20 H
    iterate 2 refine qS ?_
    refine qR (q1 rMv (q1 (rFp fo26_2) (q1 (rL1 sh24) (q1 (rLn el24 (GType.trs_len _)) (q1 rLt (qN ?_))))))
    refine cndL H (fun h22 h22l H => ?_) (fun h22 H => ?_)
    · have h22n := nat_lt_of h22
      refine AWP.skip (qS (AWP.block (qR ?_)))
      iterate 2 refine q1 rMv ?_
      refine spB 57 H (fun g23 H => ?_) fun g23 H => ?_
      · refine qg g23 (rFp fo26_2) (qg g23 (rL1 sh24) (qg g23 rMv (qg g23 (rIx h22n el24) (qg g23 (rKe (GType.cs (atD pa0.gArgs i19)) sh26) (bdE H fun x25 z24 H => (qg g23 (rCf Tryz.func57 (h_sl4Form (atD pa0.gArgs i19) _ z24)) (q1 (rPt g23) (q1 rMv (qN (qR (q1 rMv (q1 (AOp.addI rfl rfl rfl rfl (c := ((i19 + 1 : Nat) : Int)) (by omega) (by omega)) (q1 rMv ?_)))))))))))))
        refine qN ?_; exact lpN h22l ⟨_, (smI H :), wkA⟩
      iterate 6 refine qk g23 ?_
      refine q1 (rPf g23) (q1 rMv (qN (qR (q1 rMv (q1 (AOp.addI rfl rfl rfl rfl (c := ((i19 + 1 : Nat) : Int)) (by omega) (by omega)) (q1 rMv (qN ?_)))))))
      exact lpN h22l ⟨_, (smI H :), wkA⟩
    refine AWP.exit ?_; exact lpX ⟨_, H, wkA⟩
  rintro v20 H
  refine qS (qR ?_)
  iterate 2 refine q1 rMv ?_
  refine qN (AWP.ret ?_)
  obtain rfl : _ = r := (smI H :)
  exact qe1
def sl4Form_M : Nat → GType → Option Bool
  | 0, _ => none
  | fu + 1, pa0 => sl4Form_G fu (sl4Form_M fu) pa0
theorem sl4Form_all (fu : Nat) : sl4Form_T (sl4Form_M fu) := by
  induction fu with
  | zero => exact (fun pa0 r H => by simp only [sl4Form_M] at H; cases H)
  | succ fu ih => exact (fun pa0 r H => by simp only [sl4Form_M] at H; exact sl4Form_step fu (sl4Form_M fu) ih pa0 r H)
theorem sl4Form_ok (fu : Nat) : sl4Form_T (sl4Form_M fu) := (sl4Form_all fu)

def sIsValidType_T (m : GType → Option Bool) : Prop := ∀ (pt : GType) (r : Bool), m pt = some r → AFun Tryz.prog 29 [(GType.pv pt)] (pB r : PV)
def sIsValidType_M (fu : Nat) (pt : GType) : Option Bool :=
 bd (sl4Left_M fu pt 60) (fun x2 =>
 sw (decide ((x2 : Int) ≥ 0))
 (bd (sTypeDepth_M fu pt) (fun x5 =>
 sw (decide ((x5 : Int) ≤ 6))
 (bd (sl4Form_M fu pt) (fun x8 =>
 some x8))
 (some false)))
 (some false))
theorem sIsValidType_ok (fu : Nat)   : sIsValidType_T (sIsValidType_M fu) := by
  intro pt r H
  have H := hd0 H
  refine qI Tryz.func29 (fun C hC => ?_)
  refine qS (qR (q1 (rBx (cType pt)) (q1 rMv (qN (qS (qR (q1 (rLp [pI pt.gKind, pS pt.gName, rType pt.gArgs] sh26) (bdE H fun x2 z1 H => (q1 (rCf Tryz.func55 (sl4Left_ok fu pt 60 _ z1)) (q1 rGe (q1 rMv ?_)))))))))))
  refine spB 6 H (fun g3 H => ?_) fun g3 H => ?_
  · refine qg g3 (rLp [pI pt.gKind, pS pt.gName, rType pt.gArgs] sh26) (bdE H fun x5 z4 H => (qg g3 (rCf Tryz.func56 (sTypeDepth_ok fu pt _ z4)) (qg g3 rLe (q1 (rPt g3) (q1 rMv ?_)))))
    refine spB 11 H (fun g6 H => ?_) fun g6 H => ?_
    · refine qg g6 (rLp [pI pt.gKind, pS pt.gName, rType pt.gArgs] sh26) (bdE H fun x8 z7 H => (qg g6 (rCf Tryz.func57 (sl4Form_ok fu pt _ z7)) (q1 (rPt g6) (q1 rMv (qN (AWP.ret ?_))))))
      obtain rfl : _ = r := (smI H :)
      exact qe1
    iterate 2 refine qk g6 ?_
    refine q1 (rPf g6) (q1 rMv (qN (AWP.ret ?_)))
    obtain rfl : _ = r := (smI H :)
    exact qe1
  iterate 3 refine qk g3 ?_
  refine q1 (rPf g3) (q1 rMv ?_)
  iterate 2 refine qk rfl ?_
  refine q1 (rPf rfl) (q1 rMv (qN (AWP.ret ?_)))
  obtain rfl : _ = r := (smI H :)
  exact qe1

def sIsValidBound_T (m : GBound → Option Bool) : Prop := ∀ (pb : GBound) (r : Bool), m pb = some r → AFun Tryz.prog 11 [(GBound.pv pb)] (pB r : PV)
def sIsValidBound_M (fu : Nat) (pb : GBound) : Option Bool :=
 bd (sIsValidName_M fu pb.gTrait) (fun x2 =>
 sw (x2)
 (bd (sIsValidType_M fu pb.gType) (fun x5 =>
 some x5))
 (some false))
theorem sIsValidBound_ok (fu : Nat)   : sIsValidBound_T (sIsValidBound_M fu) := by
  intro pb r H
  have H := hd0 H
  refine qI Tryz.func11 (fun C hC => ?_)
  refine qS (qR (q1 (rBx (cBound pb)) (q1 rMv (qN (qS (qR (q1 (rFp fo28_0) (q1 (rL1 sh9) (bdE H fun x2 z1 H => (q1 (rCf Tryz.func28 (sIsValidName_ok fu pb.gTrait _ z1)) (q1 rMv ?_)))))))))))
  refine spB 6 H (fun g3 H => ?_) fun g3 H => ?_
  · refine qg g3 (rFp fo28_1) (qg g3 (rLp [pI pb.gType.gKind, pS pb.gType.gName, rType pb.gType.gArgs] sh26) (bdE H fun x5 z4 H => (qg g3 (rCf Tryz.func29 (sIsValidType_ok fu pb.gType _ z4)) (q1 (rPt g3) (q1 rMv (qN (AWP.ret ?_)))))))
    obtain rfl : _ = r := (smI H :)
    exact qe1
  iterate 3 refine qk g3 ?_
  refine q1 (rPf g3) (q1 rMv (qN (AWP.ret ?_)))
  obtain rfl : _ = r := (smI H :)
  exact qe1

def sl2Atom_T (m : ByteArray → Option GSExpr) : Prop := ∀ (ps : ByteArray) (r : GSExpr), m ps = some r → AFun Tryz.prog 80 [pS ps] ((GSExpr.pv r) : PV)
def sl2Atom_M (fu : Nat) (ps : ByteArray) : Option GSExpr :=
 some (GSExpr.mk ps [])
theorem sl2Atom_ok (fu : Nat)   : sl2Atom_T (sl2Atom_M fu) := by
  intro ps r H
  have H := hd0 H
  refine qI Tryz.func80 (fun C hC => ?_)
  refine qS (qR (q1 (rAl zr44) (qN (qS (qR (q1 rMv (q1 (rBd zr44 pl44) (q1 (rSu sz44) (qN (AWP.ret ?_))))))))))
  obtain rfl : _ = r := (smI H :)
  exact qe1 (hr := ⟨⟨_, _, _, rfl, rfl, sh44, rfl, rfl⟩, trivial⟩)

def sl2List_T (m : (List GSExpr) → Option GSExpr) : Prop := ∀ (plist : List GSExpr) (r : GSExpr), m plist = some r → AOwn Tryz.prog 81 [rSExpr plist] ⟨[], []⟩ [] 44 2 (GSExpr.trs (r.gList)) (fun k => .agg [pS r.gAtom, aSExpr r.gList k])
theorem sl2List_pl {m : (List GSExpr) → Option GSExpr} (h : sl2List_T m) (plist : List GSExpr) (r : GSExpr) (H : m plist = some r) : AFun Tryz.prog 81 [rSExpr plist] ((GSExpr.pv r) : PV) := (h plist r H).plain (fun _ => leA) (hp := keep0n)
def sl2List_M (fu : Nat) (plist : List GSExpr) : Option GSExpr :=
 gd (([] : List GSExpr).length + (plist).length ≤ 68719476736)
 (some (GSExpr.mk s_ (([]) ++ plist)))
theorem sl2List_ok (fu : Nat)   : sl2List_T (sl2List_M fu) := by
  intro plist r H
  unfold AOwn
  have H := hd0 H
  refine qI Tryz.func81 (fun C hC => ?_)
  refine qS (qR (q1 (rAl zr44) (qN (qS (qR (q1 (rBa ([] : List GSExpr) el42 zr44) (q1 rMv (gdE H fun z1 H => (q1 (rAp z1 el42 ze42) (q1 (rBd zr44 pl44) (q1 (rSu sz44) (qN (AWP.ret ?_)))))))))))))
  obtain rfl : _ = r := (smI H :)
  exact qe1 (st' := ⟨[], [⟨44, 2, GSExpr.trs (([]) ++ plist), false⟩]⟩) ⟨0, rfl, rfl, rfl⟩ (hr := ⟨⟨_, _, _, rfl, rfl, sh44, rfl, rfl⟩, trivial⟩)

abbrev sl5Sx_Y := GType → Option GSExpr
def sl5Sx_T (m : sl5Sx_Y) : Prop := ∀ (pa0 : GType) (r : GSExpr), m pa0 = some r → AFun Tryz.prog 52 [(GType.pv pa0)] ((GSExpr.pv r) : PV)
def sl5Sx_C1 (fu : Nat) (r_sl5Sx : sl5Sx_Y) (pa0 : GType) : Option (GSExpr ⊕ Unit) :=
 sw (decide ((pa0.gKind : Int) = 1))
 (gd ((x_27).size + (pa0.gName).size ≤ 1099511627776)
 (bd (sl2Atom_M fu (x_27 ++ pa0.gName)) (fun x4 =>
 some (.inl x4))))
 (sw (decide ((pa0.gKind : Int) = 4))
 (bd (sl2Atom_M fu s_dyn) (fun x7 =>
 bd (sl2Atom_M fu pa0.gName) (fun x9 =>
 bd (sl2List_M fu ([x7, x9] : List GSExpr)) (fun x11 =>
 some (.inl x11)))))
 (sw (decide ((pa0.gKind : Int) = 2))
 (sw (decide ((((pa0.gArgs.length : Nat) : Int) : Int) = 0))
 (bd (sl2Atom_M fu pa0.gName) (fun x15 =>
 some (.inl x15)))
 (some (.inr ())))
 (some (.inr ()))))
def sl5Sx_C2 (fu : Nat) (r_sl5Sx : sl5Sx_Y) (pa0 : GType) : Option (GSExpr ⊕ ((List GSExpr))) :=
 sw (decide ((pa0.gKind : Int) = 3))
 (bd (sl2Atom_M fu s_assoc) (fun x20 =>
 gd (([] : List GSExpr).length + (([x20] : List GSExpr)).length ≤ 68719476736)
 (some (.inr (([]) ++ ([x20] : List GSExpr))))))
 (some (.inr ([])))
def sl5Sx_F3 (fu : Nat) (r_sl5Sx : sl5Sx_Y) (pa0 : GType) (v17 : List GSExpr) (x23 : GSExpr) : Nat → ((List GSExpr)) → Option (LR ((List GSExpr)) GSExpr) :=
 fun i25 v27 => bd (r_sl5Sx (atD pa0.gArgs i25)) (fun x31 =>
 gd ((v27).length + (([x31] : List GSExpr)).length ≤ 68719476736)
 (some (.next (v27 ++ ([x31] : List GSExpr)))))
def sl5Sx_R3 (fu : Nat) (r_sl5Sx : sl5Sx_Y) (pa0 : GType) (v17 : List GSExpr) (x23 : GSExpr) : Option (GSExpr ⊕ ((List GSExpr))) :=
 loopN (sl5Sx_F3 fu r_sl5Sx pa0 v17 x23) (pa0.gArgs.length - 0) 0 (v17 ++ ([x23] : List GSExpr))
def sl5Sx_G (fu : Nat) (r_sl5Sx : sl5Sx_Y) (pa0 : GType) : Option GSExpr :=
 so (sl5Sx_C1 fu r_sl5Sx pa0) (fun _ =>
 so (sl5Sx_C2 fu r_sl5Sx pa0) (fun v17 =>
 bd (sl2Atom_M fu pa0.gName) (fun x23 =>
 gd ((v17).length + (([x23] : List GSExpr)).length ≤ 68719476736)
 (so (sl5Sx_R3 fu r_sl5Sx pa0 v17 x23) (fun v27 =>
 some (GSExpr.mk s_ v27))))))
theorem sl5Sx_step (fu : Nat) (r_sl5Sx : sl5Sx_Y) (h_sl5Sx : sl5Sx_T r_sl5Sx) : sl5Sx_T (sl5Sx_G fu r_sl5Sx) := by
  intro pa0 r H
  have H := hd0 H
  refine qI Tryz.func52 (fun C hC => ?_)
  refine qS (qR (q1 (rBx (cType pa0)) (q1 (rAl zr44) (qN (qS ?_)))))
  refine cutB (σ := Unit) (fun _ => ⟨[(1, .ptr 0 0), (2, .ptr 1 0)], ⟨[some ⟨26, cType pa0⟩, some ⟨44, [pS s_, .nil]⟩], []⟩⟩) (soI H) (fun H => ?_) ?_
  · refine AWP.block (qS (qR (q1 (rFp fo26_0) (q1 (rL1 sh3) (q1 rEq (q1 rMv (qN ?_)))))))
    refine cndB H (fun h1 H => ?_) (fun h1 H => ?_)
    · refine qS (qR (q1 (rFp fo26_1) (q1 (rL1 sh9) (gdE H fun z2 H => (q1 (AOp.addS rfl rfl rfl rfl (Nat.le_trans z2 (by decide))) (bdE H fun x4 z3 H => (q1 (rCf Tryz.func80 (sl2Atom_ok fu (x_27 ++ pa0.gName) _ z3)) (q1 (rSu sz44) (qN (AWP.ret ?_))))))))))
      obtain rfl : _ = r := (skL (smI H) :)
      exact qe1 (hr := ⟨⟨_, _, _, rfl, rfl, sh44, rfl, rfl⟩, trivial⟩)
    refine qS (qR (q1 (rFp fo26_0) (q1 (rL1 sh3) (q1 rEq (q1 rMv (qN ?_))))))
    refine cndB H (fun h5 H => ?_) (fun h5 H => ?_)
    · refine qS (bdE H fun x7 z6 H => (bdE H fun x9 z8 H => (bdE H fun x11 z10 H => (dW (dI [] (rCf Tryz.func80 (sl2Atom_ok fu s_dyn _ z6)) (dI [1] (rFp fo26_1) (dD [18] (rL1 sh9) (dI [19] (rCf Tryz.func80 (sl2Atom_ok fu pa0.gName _ z8)) (dI [17, 20] (rBs ([x7, x9] : List GSExpr) el42 zr44) (dI [21] (rCf Tryz.func81 (sl2List_pl (sl2List_ok fu) ([x7, x9] : List GSExpr) _ z10)) (dE0 [2, 22] (rSu sz44) (dN (AWP.ret ?_)))))))))))))
      obtain rfl : _ = r := (skL (smI H) :)
      exact qe1 (hr := ⟨⟨_, _, _, rfl, rfl, sh44, rfl, rfl⟩, trivial⟩)
    refine qS (qR (q1 (rFp fo26_0) (q1 (rL1 sh3) (q1 rEq (q1 rMv ?_)))))
    refine spB 27 H (fun g12 H => ?_) fun g12 H => ?_
    · refine qg g12 (rFp fo26_2) (qg g12 (rL1 sh24) (qg g12 (rLn el24 (GType.trs_len _)) (qg g12 rEq (q1 (rPt g12) (q1 rMv (qN ?_))))))
      refine cndB H (fun h13 H => ?_) (fun h13 H => ?_)
      · refine qS (qR (q1 (rFp fo26_1) (q1 (rL1 sh9) (bdE H fun x15 z14 H => (q1 (rCf Tryz.func80 (sl2Atom_ok fu pa0.gName _ z14)) (q1 (rSu sz44) (qN (AWP.ret ?_))))))))
        obtain rfl : _ = r := (skL (smI H) :)
        exact qe1 (hr := ⟨⟨_, _, _, rfl, rfl, sh44, rfl, rfl⟩, trivial⟩)
      refine AWP.skip ?_; exact cutX ⟨_, (smI H :), wkA⟩
    iterate 4 refine qk g12 ?_
    refine q1 (rPf g12) (q1 rMv (qN (cndF rfl (AWP.skip ?_))))
    exact cutX ⟨_, (smI H :), wkA⟩
  rintro ⟨⟩ H
  refine qS (qR (q1 (rBd zr44 pl44) (q1 (rAl zr44) (q1 (rSu sz44) (qN (qS (AWP.wk (Wk.regBox (k := 2) (j := 1) 44 2 (by decide) rfl rfl) ?_)))))))
  refine cutB (σ := (List GSExpr)) (fun v17 => ⟨[(1, .ptr 0 0), (2, .ptr 1 0), (3, .ptr 2 0)], ⟨[some ⟨26, cType pa0⟩, some ⟨44, [pS s_, .nil]⟩, some ⟨44, [pS s_, aSExpr v17 0]⟩], [⟨44, 2, GSExpr.trs (v17), false⟩]⟩⟩) (soI H) (fun H => ?_) ?_
  · refine qS (qR (q1 (rFp fo26_0) (q1 (rL1 sh3) (q1 rEq (qN ?_)))))
    refine cndB H (fun h18 H => ?_) (fun h18 H => ?_)
    · refine bdE H fun x20 z19 H => (gdE H fun z21 H => (dW (dI [3] (rFp fo44_1) (dD [40] (rL1 sh42) (dI [] (rCf Tryz.func80 (sl2Atom_ok fu s_assoc _ z19)) (dI [42] (rBs ([x20] : List GSExpr) el42 zr44) (dE [41, 43] (rAp z21 el42 ze42) (dI [3] (rFp fo44_1) (dE0 [45, 44] (rSu sz42) (dN ?_))))))))))
      exact cutX ⟨_, (smI H :), wkA⟩
    refine AWP.skip ?_; exact cutX ⟨_, (smI H :), wkA⟩
  rintro v17 H
  refine qS (bdE H fun x23 z22 H => (gdE H fun z24 H => (dW (dI [3] (rFp fo44_1) (dD [46] (rL1 sh42) (dI [1] (rFp fo26_1) (dD [48] (rL1 sh9) (dI [49] (rCf Tryz.func80 (sl2Atom_ok fu pa0.gName _ z22)) (dI [50] (rBs ([x23] : List GSExpr) el42 zr44) (dE [47, 51] (rAp z24 el42 ze42) (dI [3] (rFp fo44_1) (dE0 [53, 52] (rSu sz42) (dN ?_)))))))))))))
  iterate 2 refine qS ?_
  refine qR (q1 rMv (qN ?_))
  refine AWP.fact (box_lenN 0 2 rfl rfl rfl (GType.trs_len _)) (fun hl28 => ?_)
  refine loopB (σ := (List GSExpr)) (fun i25 v27 => ⟨[(1, .ptr 0 0), (2, .ptr 1 0), (3, .ptr 2 0), (4, pN i25)], ⟨[some ⟨26, cType pa0⟩, some ⟨44, [pS s_, .nil]⟩, some ⟨44, [pS s_, aSExpr v27 0]⟩], [⟨44, 2, GSExpr.trs (v27), false⟩]⟩⟩) (fun v27 => ⟨[(2, .ptr 1 0), (3, .ptr 2 0)], ⟨[some ⟨26, cType pa0⟩, some ⟨44, [pS s_, .nil]⟩, some ⟨44, [pS s_, aSExpr v27 0]⟩], [⟨44, 2, GSExpr.trs (v27), false⟩]⟩⟩) (soI H) ?_ ?_
  · rintro i25 v27 H
    iterate 2 refine qS ?_
    refine qR (q1 rMv (q1 (rFp fo26_2) (q1 (rL1 sh24) (q1 (rLn el24 (GType.trs_len _)) (q1 rLt (qN ?_))))))
    refine cndL H (fun h29 h29l H => ?_) (fun h29 H => ?_)
    · have h29n := nat_lt_of h29
      refine AWP.skip (qS (AWP.block (bdE H fun x31 z30 H => (gdE H fun z32 H => (dW (dI [3] (rFp fo44_1) (dD [61] (rL1 sh42) (dI [1] (rFp fo26_2) (dD [63] (rL1 sh24) (dI [4] rMv (dI [64, 65] (rIx h29n el24) (dI [66] (rKe (GType.cs (atD pa0.gArgs i25)) sh26) (dI [67] (rCf Tryz.func52 (h_sl5Sx (atD pa0.gArgs i25) _ z30)) ?_)))))))))))))
      refine dI [68] (rBs ([x31] : List GSExpr) el42 zr44) (dE [62, 69] (rAp z32 el42 ze42) (dI [3] (rFp fo44_1) (dE0 [71, 70] (rSu sz42) (dN (qR (q1 rMv (q1 (AOp.addI rfl rfl rfl rfl (c := ((i25 + 1 : Nat) : Int)) (by omega) (by omega)) (q1 rMv (qN ?_)))))))))
      exact lpN h29l ⟨_, (smI H :), wkA⟩
    refine AWP.exit ?_; exact lpX ⟨_, H, wkA⟩
  rintro v27 H
  refine qS (qR (q1 (rLp [pS s_, aSExpr v27 0] sh44) (q1 (rSu sz44) (qN (AWP.ret ?_)))))
  obtain rfl : _ = r := (smI H :)
  exact qe1 (hr := ⟨⟨_, _, _, rfl, rfl, sh44, rfl, rfl⟩, trivial⟩)
def sl5Sx_M : Nat → GType → Option GSExpr
  | 0, _ => none
  | fu + 1, pa0 => sl5Sx_G fu (sl5Sx_M fu) pa0
theorem sl5Sx_all (fu : Nat) : sl5Sx_T (sl5Sx_M fu) := by
  induction fu with
  | zero => exact (fun pa0 r H => by simp only [sl5Sx_M] at H; cases H)
  | succ fu ih => exact (fun pa0 r H => by simp only [sl5Sx_M] at H; exact sl5Sx_step fu (sl5Sx_M fu) ih pa0 r H)
theorem sl5Sx_ok (fu : Nat) : sl5Sx_T (sl5Sx_M fu) := (sl5Sx_all fu)

abbrev sl2Left_Y := GSExpr → Int → Option Int
def sl2Left_T (m : sl2Left_Y) : Prop := ∀ (px : GSExpr) (pleft : Int) (r : Int), m px pleft = some r → AFun Tryz.prog 76 [(GSExpr.pv px), pI pleft] (pI r : PV)
def sl2Left_F1 (fu : Nat) (r_sl2Left : sl2Left_Y) (px : GSExpr) (pleft : Int) : Nat → Int → Option (LR Int Int) :=
 fun i1 v2 => sw (decide ((v2 : Int) ≥ 0))
 (bd (r_sl2Left (atD px.gList i1) v2) (fun x7 =>
 some (.next x7)))
 (some (.brk v2))
def sl2Left_R1 (fu : Nat) (r_sl2Left : sl2Left_Y) (px : GSExpr) (pleft : Int) : Option (Int ⊕ Int) :=
 loopN (sl2Left_F1 fu r_sl2Left px pleft) (px.gList.length - 0) 0 (wrap64 (pleft - 1))
def sl2Left_G (fu : Nat) (r_sl2Left : sl2Left_Y) (px : GSExpr) (pleft : Int) : Option Int :=
 so (sl2Left_R1 fu r_sl2Left px pleft) (fun v2 =>
 some v2)
theorem sl2Left_step (fu : Nat) (r_sl2Left : sl2Left_Y) (h_sl2Left : sl2Left_T r_sl2Left) : sl2Left_T (sl2Left_G fu r_sl2Left) := by
  intro px pleft r H
  have H := hd0 H
  refine qI Tryz.func76 (fun C hC => ?_)
  refine qS (qR (q1 (rBx ([pS px.gAtom, rSExpr px.gList])) (q1 rMv (qN (qS (qR (q1 rMv (q1 rSw (q1 rMv (qN ?_))))))))))
  iterate 2 refine qS ?_
  refine qR (q1 rMv (qN ?_))
  refine AWP.fact (box_lenN 0 1 rfl rfl rfl (GSExpr.trs_len _)) (fun hl3 => ?_)
  refine loopB (σ := Int) (fun i1 v2 => ⟨[(1, pI v2), (2, .ptr 0 0), (4, pI 0), (5, pN i1)], ⟨[some ⟨44, [pS px.gAtom, rSExpr px.gList]⟩], []⟩⟩) (fun v2 => ⟨[(1, pI v2), (4, pI 0)], ⟨[some ⟨44, [pS px.gAtom, rSExpr px.gList]⟩], []⟩⟩) (soI H) ?_ ?_
  · rintro i1 v2 H
    iterate 2 refine qS ?_
    refine qR (q1 rMv (q1 (rFp fo44_1) (q1 (rL1 sh42) (q1 (rLn el42 (GSExpr.trs_len _)) (q1 rLt (q1 rMv ?_))))))
    refine AL.splitB 13 rfl (fun g4 => ?_) (fun g4 => ?_)
    · have g4l := nat_lt_of2 g4
      have H := lnT g4l H
      have g4n := nat_lt_of g4
      refine qg g4 rMv (qg g4 rGe (q1 (rPt g4) (qN ?_)))
      refine cndB H (fun h5 H => ?_) (fun h5 H => ?_)
      · refine AWP.skip (qS (AWP.block (qR (q1 (rFp fo44_1) (q1 (rL1 sh42) (q1 rMv (q1 (rIx g4n el42) (q1 (rKe (GSExpr.cs (atD px.gList i1)) sh44) (q1 rMv (bdE H fun x7 z6 H => (q1 (rCf Tryz.func76 (h_sl2Left (atD px.gList i1) v2 _ z6)) (q1 rMv (qN ?_)))))))))))))
        refine qR (q1 rMv (q1 (AOp.addI rfl rfl rfl rfl (c := ((i1 + 1 : Nat) : Int)) (by omega) (by omega)) (q1 rMv (qN ?_))))
        exact lpN g4l ⟨_, (smI H :), wkA⟩
      refine AWP.exit ?_; exact lpB ⟨_, (smI H :), wkA⟩
    have H := lnE (nat_ge_of2 g4) H
    iterate 2 refine qk g4 ?_
    refine q1 (rPf g4) (qN (cndF rfl (AWP.exit ?_)))
    exact lpX ⟨_, H, wkA⟩
  rintro v2 H
  refine qS (qR ?_)
  iterate 2 refine q1 rMv ?_
  refine qN (AWP.ret ?_)
  obtain rfl : _ = r := (smI H :)
  exact qe1
def sl2Left_M : Nat → GSExpr → Int → Option Int
  | 0, _, _ => none
  | fu + 1, px, pleft => sl2Left_G fu (sl2Left_M fu) px pleft
theorem sl2Left_all (fu : Nat) : sl2Left_T (sl2Left_M fu) := by
  induction fu with
  | zero => exact (fun px pleft r H => by simp only [sl2Left_M] at H; cases H)
  | succ fu ih => exact (fun px pleft r H => by simp only [sl2Left_M] at H; exact sl2Left_step fu (sl2Left_M fu) ih px pleft r H)
theorem sl2Left_ok (fu : Nat) : sl2Left_T (sl2Left_M fu) := (sl2Left_all fu)

def sl2Byte_T (m : UInt8 → Option Bool) : Prop := ∀ (px : UInt8) (r : Bool), m px = some r → AFun Tryz.prog 75 [pU px] (pB r : PV)
def sl2Byte_M (fu : Nat) (px : UInt8) : Option Bool :=
 sw (decide (((px.toNat : Int) : Int) ≥ 97))
 (sw (decide (((px.toNat : Int) : Int) ≤ 122))
 (some true)
 (sw (decide (((px.toNat : Int) : Int) ≥ 48))
 (sw (decide (((px.toNat : Int) : Int) ≤ 57))
 (some true)
 (sw (decide (((px.toNat : Int) : Int) = 39))
 (some true)
 (sw (decide (((px.toNat : Int) : Int) = 45))
 (some true)
 (sw (decide (((px.toNat : Int) : Int) = 43))
 (some true)
 (sw (decide (((px.toNat : Int) : Int) = 42))
 (some true)
 (sw (decide (((px.toNat : Int) : Int) = 60))
 (some true)
 (sw (decide (((px.toNat : Int) : Int) = 61))
 (some true)
 (some (decide (((px.toNat : Int) : Int) = 46))))))))))
 (sw (decide (((px.toNat : Int) : Int) = 39))
 (some true)
 (sw (decide (((px.toNat : Int) : Int) = 45))
 (some true)
 (sw (decide (((px.toNat : Int) : Int) = 43))
 (some true)
 (sw (decide (((px.toNat : Int) : Int) = 42))
 (some true)
 (sw (decide (((px.toNat : Int) : Int) = 60))
 (some true)
 (sw (decide (((px.toNat : Int) : Int) = 61))
 (some true)
 (some (decide (((px.toNat : Int) : Int) = 46)))))))))))
 (sw (decide (((px.toNat : Int) : Int) ≥ 48))
 (sw (decide (((px.toNat : Int) : Int) ≤ 57))
 (some true)
 (sw (decide (((px.toNat : Int) : Int) = 39))
 (some true)
 (sw (decide (((px.toNat : Int) : Int) = 45))
 (some true)
 (sw (decide (((px.toNat : Int) : Int) = 43))
 (some true)
 (sw (decide (((px.toNat : Int) : Int) = 42))
 (some true)
 (sw (decide (((px.toNat : Int) : Int) = 60))
 (some true)
 (sw (decide (((px.toNat : Int) : Int) = 61))
 (some true)
 (some (decide (((px.toNat : Int) : Int) = 46))))))))))
 (sw (decide (((px.toNat : Int) : Int) = 39))
 (some true)
 (sw (decide (((px.toNat : Int) : Int) = 45))
 (some true)
 (sw (decide (((px.toNat : Int) : Int) = 43))
 (some true)
 (sw (decide (((px.toNat : Int) : Int) = 42))
 (some true)
 (sw (decide (((px.toNat : Int) : Int) = 60))
 (some true)
 (sw (decide (((px.toNat : Int) : Int) = 61))
 (some true)
 (some (decide (((px.toNat : Int) : Int) = 46))))))))))
theorem sl2Byte_ok (fu : Nat)   : sl2Byte_T (sl2Byte_M fu) := by
  intro px r H
  have H := hd0 H
  refine qI Tryz.func75 (fun C hC => ?_)
  refine qS (qR (q1 rMv (qN (qS (qR (q1 rMv (q1 rGe (q1 rMv ?_))))))))
  refine spB 5 H (fun g1 H => ?_) fun g1 H => ?_
  · refine qg g1 rMv (qg g1 rLe (q1 (rPt g1) (q1 rMv ?_)))
    refine spB 9 H (fun g2 H => ?_) fun g2 H => ?_
    · refine qk g2 ?_
      iterate 2 refine qk g2 ?_
      iterate 2 refine qku ?_
      refine qk g2 (q1 (rPt g2) (q1 rMv ?_))
      iterate 2 refine qk rfl ?_
      refine q1 (rPt rfl) (q1 rMv ?_)
      iterate 2 refine qk rfl ?_
      refine q1 (rPt rfl) (q1 rMv ?_)
      iterate 2 refine qk rfl ?_
      refine q1 (rPt rfl) (q1 rMv ?_)
      iterate 2 refine qk rfl ?_
      refine q1 (rPt rfl) (q1 rMv ?_)
      iterate 2 refine qk rfl ?_
      refine q1 (rPt rfl) (q1 rMv ?_)
      iterate 2 refine qk rfl ?_
      refine q1 (rPt rfl) (q1 rMv ?_)
      iterate 2 refine qk rfl ?_
      refine q1 (rPt rfl) (q1 rMv (qN (AWP.ret ?_)))
      obtain rfl : _ = r := (smI H :)
      exact qe1
    refine qg g2 rMv (qg g2 rGe (qg g2 rMv ?_))
    refine spB 12 H (fun g3 H => ?_) fun g3 H => ?_
    · refine qg g3 rMv (qg g3 rLe (qg g2 (rPt g3) (q1 (rPf g2) (q1 rMv ?_))))
      refine spB 17 H (fun g4 H => ?_) fun g4 H => ?_
      · refine qk g4 (qk g4 (q1 (rPt g4) (q1 rMv ?_)))
        iterate 2 refine qk rfl ?_
        refine q1 (rPt rfl) (q1 rMv ?_)
        iterate 2 refine qk rfl ?_
        refine q1 (rPt rfl) (q1 rMv ?_)
        iterate 2 refine qk rfl ?_
        refine q1 (rPt rfl) (q1 rMv ?_)
        iterate 2 refine qk rfl ?_
        refine q1 (rPt rfl) (q1 rMv ?_)
        iterate 2 refine qk rfl ?_
        refine q1 (rPt rfl) (q1 rMv ?_)
        iterate 2 refine qk rfl ?_
        refine q1 (rPt rfl) (q1 rMv (qN (AWP.ret ?_)))
        obtain rfl : _ = r := (smI H :)
        exact qe1
      refine qg g4 rMv (qg g4 rEq (q1 (rPf g4) (q1 rMv ?_)))
      refine spB 21 H (fun g5 H => ?_) fun g5 H => ?_
      · refine qk g5 (qk g5 (q1 (rPt g5) (q1 rMv ?_)))
        iterate 2 refine qk rfl ?_
        refine q1 (rPt rfl) (q1 rMv ?_)
        iterate 2 refine qk rfl ?_
        refine q1 (rPt rfl) (q1 rMv ?_)
        iterate 2 refine qk rfl ?_
        refine q1 (rPt rfl) (q1 rMv ?_)
        iterate 2 refine qk rfl ?_
        refine q1 (rPt rfl) (q1 rMv ?_)
        iterate 2 refine qk rfl ?_
        refine q1 (rPt rfl) (q1 rMv (qN (AWP.ret ?_)))
        obtain rfl : _ = r := (smI H :)
        exact qe1
      refine qg g5 rMv (qg g5 rEq (q1 (rPf g5) (q1 rMv ?_)))
      refine spB 25 H (fun g6 H => ?_) fun g6 H => ?_
      · refine qk g6 (qk g6 (q1 (rPt g6) (q1 rMv ?_)))
        iterate 2 refine qk rfl ?_
        refine q1 (rPt rfl) (q1 rMv ?_)
        iterate 2 refine qk rfl ?_
        refine q1 (rPt rfl) (q1 rMv ?_)
        iterate 2 refine qk rfl ?_
        refine q1 (rPt rfl) (q1 rMv ?_)
        iterate 2 refine qk rfl ?_
        refine q1 (rPt rfl) (q1 rMv (qN (AWP.ret ?_)))
        obtain rfl : _ = r := (smI H :)
        exact qe1
      refine qg g6 rMv (qg g6 rEq (q1 (rPf g6) (q1 rMv ?_)))
      refine spB 29 H (fun g7 H => ?_) fun g7 H => ?_
      · refine qk g7 (qk g7 (q1 (rPt g7) (q1 rMv ?_)))
        iterate 2 refine qk rfl ?_
        refine q1 (rPt rfl) (q1 rMv ?_)
        iterate 2 refine qk rfl ?_
        refine q1 (rPt rfl) (q1 rMv ?_)
        iterate 2 refine qk rfl ?_
        refine q1 (rPt rfl) (q1 rMv (qN (AWP.ret ?_)))
        obtain rfl : _ = r := (smI H :)
        exact qe1
      refine qg g7 rMv (qg g7 rEq (q1 (rPf g7) (q1 rMv ?_)))
      refine spB 33 H (fun g8 H => ?_) fun g8 H => ?_
      · refine qk g8 (qk g8 (q1 (rPt g8) (q1 rMv ?_)))
        iterate 2 refine qk rfl ?_
        refine q1 (rPt rfl) (q1 rMv ?_)
        iterate 2 refine qk rfl ?_
        refine q1 (rPt rfl) (q1 rMv (qN (AWP.ret ?_)))
        obtain rfl : _ = r := (smI H :)
        exact qe1
      refine qg g8 rMv (qg g8 rEq (q1 (rPf g8) (q1 rMv ?_)))
      refine spB 37 H (fun g9 H => ?_) fun g9 H => ?_
      · refine qk g9 (qk g9 (q1 (rPt g9) (q1 rMv ?_)))
        iterate 2 refine qk rfl ?_
        refine q1 (rPt rfl) (q1 rMv (qN (AWP.ret ?_)))
        obtain rfl : _ = r := (smI H :)
        exact qe1
      refine qg g9 rMv (qg g9 rEq (q1 (rPf g9) (q1 rMv ?_)))
      refine spB 41 H (fun g10 H => ?_) fun g10 H => ?_
      · refine qk g10 (qk g10 (q1 (rPt g10) (q1 rMv (qN (AWP.ret ?_)))))
        obtain rfl : _ = r := (smI H :)
        exact qe1
      refine qg g10 rMv (qg g10 rEq (q1 (rPf g10) (q1 rMv (qN (AWP.ret ?_)))))
      obtain rfl : _ = r := (smI H :)
      exact qe1
    iterate 2 refine qk g3 ?_
    refine qg g2 (rPf g3) (q1 (rPf g2) (q1 rMv (qg rfl rMv (qg rfl rEq (q1 (rPf rfl) (q1 rMv ?_))))))
    refine spB 21 H (fun g11 H => ?_) fun g11 H => ?_
    · refine qk g11 (qk g11 (q1 (rPt g11) (q1 rMv ?_)))
      iterate 2 refine qk rfl ?_
      refine q1 (rPt rfl) (q1 rMv ?_)
      iterate 2 refine qk rfl ?_
      refine q1 (rPt rfl) (q1 rMv ?_)
      iterate 2 refine qk rfl ?_
      refine q1 (rPt rfl) (q1 rMv ?_)
      iterate 2 refine qk rfl ?_
      refine q1 (rPt rfl) (q1 rMv ?_)
      iterate 2 refine qk rfl ?_
      refine q1 (rPt rfl) (q1 rMv (qN (AWP.ret ?_)))
      obtain rfl : _ = r := (smI H :)
      exact qe1
    refine qg g11 rMv (qg g11 rEq (q1 (rPf g11) (q1 rMv ?_)))
    refine spB 25 H (fun g12 H => ?_) fun g12 H => ?_
    · refine qk g12 (qk g12 (q1 (rPt g12) (q1 rMv ?_)))
      iterate 2 refine qk rfl ?_
      refine q1 (rPt rfl) (q1 rMv ?_)
      iterate 2 refine qk rfl ?_
      refine q1 (rPt rfl) (q1 rMv ?_)
      iterate 2 refine qk rfl ?_
      refine q1 (rPt rfl) (q1 rMv ?_)
      iterate 2 refine qk rfl ?_
      refine q1 (rPt rfl) (q1 rMv (qN (AWP.ret ?_)))
      obtain rfl : _ = r := (smI H :)
      exact qe1
    refine qg g12 rMv (qg g12 rEq (q1 (rPf g12) (q1 rMv ?_)))
    refine spB 29 H (fun g13 H => ?_) fun g13 H => ?_
    · refine qk g13 (qk g13 (q1 (rPt g13) (q1 rMv ?_)))
      iterate 2 refine qk rfl ?_
      refine q1 (rPt rfl) (q1 rMv ?_)
      iterate 2 refine qk rfl ?_
      refine q1 (rPt rfl) (q1 rMv ?_)
      iterate 2 refine qk rfl ?_
      refine q1 (rPt rfl) (q1 rMv (qN (AWP.ret ?_)))
      obtain rfl : _ = r := (smI H :)
      exact qe1
    refine qg g13 rMv (qg g13 rEq (q1 (rPf g13) (q1 rMv ?_)))
    refine spB 33 H (fun g14 H => ?_) fun g14 H => ?_
    · refine qk g14 (qk g14 (q1 (rPt g14) (q1 rMv ?_)))
      iterate 2 refine qk rfl ?_
      refine q1 (rPt rfl) (q1 rMv ?_)
      iterate 2 refine qk rfl ?_
      refine q1 (rPt rfl) (q1 rMv (qN (AWP.ret ?_)))
      obtain rfl : _ = r := (smI H :)
      exact qe1
    refine qg g14 rMv (qg g14 rEq (q1 (rPf g14) (q1 rMv ?_)))
    refine spB 37 H (fun g15 H => ?_) fun g15 H => ?_
    · refine qk g15 (qk g15 (q1 (rPt g15) (q1 rMv ?_)))
      iterate 2 refine qk rfl ?_
      refine q1 (rPt rfl) (q1 rMv (qN (AWP.ret ?_)))
      obtain rfl : _ = r := (smI H :)
      exact qe1
    refine qg g15 rMv (qg g15 rEq (q1 (rPf g15) (q1 rMv ?_)))
    refine spB 41 H (fun g16 H => ?_) fun g16 H => ?_
    · refine qk g16 (qk g16 (q1 (rPt g16) (q1 rMv (qN (AWP.ret ?_)))))
      obtain rfl : _ = r := (smI H :)
      exact qe1
    refine qg g16 rMv (qg g16 rEq (q1 (rPf g16) (q1 rMv (qN (AWP.ret ?_)))))
    obtain rfl : _ = r := (smI H :)
    exact qe1
  iterate 2 refine qk g1 ?_
  refine q1 (rPf g1) (q1 rMv (qg rfl rMv (qg rfl rGe (qg rfl rMv ?_))))
  refine spB 12 H (fun g17 H => ?_) fun g17 H => ?_
  · refine qg g17 rMv (qg g17 rLe (qg rfl (rPt g17) (q1 (rPf rfl) (q1 rMv ?_))))
    refine spB 17 H (fun g18 H => ?_) fun g18 H => ?_
    · refine qk g18 (qk g18 (q1 (rPt g18) (q1 rMv ?_)))
      iterate 2 refine qk rfl ?_
      refine q1 (rPt rfl) (q1 rMv ?_)
      iterate 2 refine qk rfl ?_
      refine q1 (rPt rfl) (q1 rMv ?_)
      iterate 2 refine qk rfl ?_
      refine q1 (rPt rfl) (q1 rMv ?_)
      iterate 2 refine qk rfl ?_
      refine q1 (rPt rfl) (q1 rMv ?_)
      iterate 2 refine qk rfl ?_
      refine q1 (rPt rfl) (q1 rMv ?_)
      iterate 2 refine qk rfl ?_
      refine q1 (rPt rfl) (q1 rMv (qN (AWP.ret ?_)))
      obtain rfl : _ = r := (smI H :)
      exact qe1
    refine qg g18 rMv (qg g18 rEq (q1 (rPf g18) (q1 rMv ?_)))
    refine spB 21 H (fun g19 H => ?_) fun g19 H => ?_
    · refine qk g19 (qk g19 (q1 (rPt g19) (q1 rMv ?_)))
      iterate 2 refine qk rfl ?_
      refine q1 (rPt rfl) (q1 rMv ?_)
      iterate 2 refine qk rfl ?_
      refine q1 (rPt rfl) (q1 rMv ?_)
      iterate 2 refine qk rfl ?_
      refine q1 (rPt rfl) (q1 rMv ?_)
      iterate 2 refine qk rfl ?_
      refine q1 (rPt rfl) (q1 rMv ?_)
      iterate 2 refine qk rfl ?_
      refine q1 (rPt rfl) (q1 rMv (qN (AWP.ret ?_)))
      obtain rfl : _ = r := (smI H :)
      exact qe1
    refine qg g19 rMv (qg g19 rEq (q1 (rPf g19) (q1 rMv ?_)))
    refine spB 25 H (fun g20 H => ?_) fun g20 H => ?_
    · refine qk g20 (qk g20 (q1 (rPt g20) (q1 rMv ?_)))
      iterate 2 refine qk rfl ?_
      refine q1 (rPt rfl) (q1 rMv ?_)
      iterate 2 refine qk rfl ?_
      refine q1 (rPt rfl) (q1 rMv ?_)
      iterate 2 refine qk rfl ?_
      refine q1 (rPt rfl) (q1 rMv ?_)
      iterate 2 refine qk rfl ?_
      refine q1 (rPt rfl) (q1 rMv (qN (AWP.ret ?_)))
      obtain rfl : _ = r := (smI H :)
      exact qe1
    refine qg g20 rMv (qg g20 rEq (q1 (rPf g20) (q1 rMv ?_)))
    refine spB 29 H (fun g21 H => ?_) fun g21 H => ?_
    · refine qk g21 (qk g21 (q1 (rPt g21) (q1 rMv ?_)))
      iterate 2 refine qk rfl ?_
      refine q1 (rPt rfl) (q1 rMv ?_)
      iterate 2 refine qk rfl ?_
      refine q1 (rPt rfl) (q1 rMv ?_)
      iterate 2 refine qk rfl ?_
      refine q1 (rPt rfl) (q1 rMv (qN (AWP.ret ?_)))
      obtain rfl : _ = r := (smI H :)
      exact qe1
    refine qg g21 rMv (qg g21 rEq (q1 (rPf g21) (q1 rMv ?_)))
    refine spB 33 H (fun g22 H => ?_) fun g22 H => ?_
    · refine qk g22 (qk g22 (q1 (rPt g22) (q1 rMv ?_)))
      iterate 2 refine qk rfl ?_
      refine q1 (rPt rfl) (q1 rMv ?_)
      iterate 2 refine qk rfl ?_
      refine q1 (rPt rfl) (q1 rMv (qN (AWP.ret ?_)))
      obtain rfl : _ = r := (smI H :)
      exact qe1
    refine qg g22 rMv (qg g22 rEq (q1 (rPf g22) (q1 rMv ?_)))
    refine spB 37 H (fun g23 H => ?_) fun g23 H => ?_
    · refine qk g23 (qk g23 (q1 (rPt g23) (q1 rMv ?_)))
      iterate 2 refine qk rfl ?_
      refine q1 (rPt rfl) (q1 rMv (qN (AWP.ret ?_)))
      obtain rfl : _ = r := (smI H :)
      exact qe1
    refine qg g23 rMv (qg g23 rEq (q1 (rPf g23) (q1 rMv ?_)))
    refine spB 41 H (fun g24 H => ?_) fun g24 H => ?_
    · refine qk g24 (qk g24 (q1 (rPt g24) (q1 rMv (qN (AWP.ret ?_)))))
      obtain rfl : _ = r := (smI H :)
      exact qe1
    refine qg g24 rMv (qg g24 rEq (q1 (rPf g24) (q1 rMv (qN (AWP.ret ?_)))))
    obtain rfl : _ = r := (smI H :)
    exact qe1
  iterate 2 refine qk g17 ?_
  refine qg rfl (rPf g17) (q1 (rPf rfl) (q1 rMv (qg rfl rMv (qg rfl rEq (q1 (rPf rfl) (q1 rMv ?_))))))
  refine spB 21 H (fun g25 H => ?_) fun g25 H => ?_
  · refine qk g25 (qk g25 (q1 (rPt g25) (q1 rMv ?_)))
    iterate 2 refine qk rfl ?_
    refine q1 (rPt rfl) (q1 rMv ?_)
    iterate 2 refine qk rfl ?_
    refine q1 (rPt rfl) (q1 rMv ?_)
    iterate 2 refine qk rfl ?_
    refine q1 (rPt rfl) (q1 rMv ?_)
    iterate 2 refine qk rfl ?_
    refine q1 (rPt rfl) (q1 rMv ?_)
    iterate 2 refine qk rfl ?_
    refine q1 (rPt rfl) (q1 rMv (qN (AWP.ret ?_)))
    obtain rfl : _ = r := (smI H :)
    exact qe1
  refine qg g25 rMv (qg g25 rEq (q1 (rPf g25) (q1 rMv ?_)))
  refine spB 25 H (fun g26 H => ?_) fun g26 H => ?_
  · refine qk g26 (qk g26 (q1 (rPt g26) (q1 rMv ?_)))
    iterate 2 refine qk rfl ?_
    refine q1 (rPt rfl) (q1 rMv ?_)
    iterate 2 refine qk rfl ?_
    refine q1 (rPt rfl) (q1 rMv ?_)
    iterate 2 refine qk rfl ?_
    refine q1 (rPt rfl) (q1 rMv ?_)
    iterate 2 refine qk rfl ?_
    refine q1 (rPt rfl) (q1 rMv (qN (AWP.ret ?_)))
    obtain rfl : _ = r := (smI H :)
    exact qe1
  refine qg g26 rMv (qg g26 rEq (q1 (rPf g26) (q1 rMv ?_)))
  refine spB 29 H (fun g27 H => ?_) fun g27 H => ?_
  · refine qk g27 (qk g27 (q1 (rPt g27) (q1 rMv ?_)))
    iterate 2 refine qk rfl ?_
    refine q1 (rPt rfl) (q1 rMv ?_)
    iterate 2 refine qk rfl ?_
    refine q1 (rPt rfl) (q1 rMv ?_)
    iterate 2 refine qk rfl ?_
    refine q1 (rPt rfl) (q1 rMv (qN (AWP.ret ?_)))
    obtain rfl : _ = r := (smI H :)
    exact qe1
  refine qg g27 rMv (qg g27 rEq (q1 (rPf g27) (q1 rMv ?_)))
  refine spB 33 H (fun g28 H => ?_) fun g28 H => ?_
  · refine qk g28 (qk g28 (q1 (rPt g28) (q1 rMv ?_)))
    iterate 2 refine qk rfl ?_
    refine q1 (rPt rfl) (q1 rMv ?_)
    iterate 2 refine qk rfl ?_
    refine q1 (rPt rfl) (q1 rMv (qN (AWP.ret ?_)))
    obtain rfl : _ = r := (smI H :)
    exact qe1
  refine qg g28 rMv (qg g28 rEq (q1 (rPf g28) (q1 rMv ?_)))
  refine spB 37 H (fun g29 H => ?_) fun g29 H => ?_
  · refine qk g29 (qk g29 (q1 (rPt g29) (q1 rMv ?_)))
    iterate 2 refine qk rfl ?_
    refine q1 (rPt rfl) (q1 rMv (qN (AWP.ret ?_)))
    obtain rfl : _ = r := (smI H :)
    exact qe1
  refine qg g29 rMv (qg g29 rEq (q1 (rPf g29) (q1 rMv ?_)))
  refine spB 41 H (fun g30 H => ?_) fun g30 H => ?_
  · refine qk g30 (qk g30 (q1 (rPt g30) (q1 rMv (qN (AWP.ret ?_)))))
    obtain rfl : _ = r := (smI H :)
    exact qe1
  refine qg g30 rMv (qg g30 rEq (q1 (rPf g30) (q1 rMv (qN (AWP.ret ?_)))))
  obtain rfl : _ = r := (smI H :)
  exact qe1

def sIsValidAtom_T (m : ByteArray → Option Bool) : Prop := ∀ (ps : ByteArray) (r : Bool), m ps = some r → AFun Tryz.prog 96 [pS ps] (pB r : PV)
def sIsValidAtom_F1 (fu : Nat) (ps : ByteArray) : Nat → Unit → Option (LR Unit Bool) :=
 fun i1 _ => gd (i1 < (ps).size)
 (bd (sl2Byte_M fu (bAt ps i1)) (fun x6 =>
 sw (!(x6))
 (some (.ret false))
 (some (.next ()))))
def sIsValidAtom_R1 (fu : Nat) (ps : ByteArray) : Option (Bool ⊕ Unit) :=
 loopN (sIsValidAtom_F1 fu ps) (ps.size - 0) 0 ()
def sIsValidAtom_M (fu : Nat) (ps : ByteArray) : Option Bool :=
 so (sIsValidAtom_R1 fu ps) (fun _ =>
 bd (sl1In_M fu ((ps.size : Nat) : Int) 1 12) (fun x9 =>
 some x9))
theorem sIsValidAtom_ok (fu : Nat)   : sIsValidAtom_T (sIsValidAtom_M fu) := by
  intro ps r H
  have H := hd0 H
  refine qI Tryz.func96 (fun C hC => ?_)
  refine qS (qR (q1 rMv (qN ?_)))
  iterate 2 refine qS ?_
  refine qR (q1 rMv (qN ?_))
  refine szF 0 (fun hl2 => ?_)
  refine loopB (σ := Unit) (fun i1 _ => ⟨[(0, pS ps), (2, pB false), (3, pN i1)], ⟨[], []⟩⟩) (fun _ => ⟨[(0, pS ps), (2, pB false)], ⟨[], []⟩⟩) (soI H) ?_ ?_
  · rintro i1 ⟨⟩ H
    iterate 2 refine qS ?_
    refine qR ?_
    iterate 2 refine q1 rMv ?_
    refine q1 (AOp.lenS rfl rfl rfl Tryz.underlying9) (q1 rLt (qN ?_))
    refine cndL H (fun h3 h3l H => ?_) (fun h3 H => ?_)
    · have h3n : i1 < ps.size := by have := of_decide_eq_true h3; omega
      refine AWP.skip (qS (AWP.block (qS (qR ?_))))
      iterate 2 refine q1 rMv ?_
      refine gdE H fun z4 H => (q1 (AOp.indexS (k := i1) rfl rfl rfl rfl z4 Tryz.underlying9) (bdE H fun x6 z5 H => (q1 (rCf Tryz.func75 (sl2Byte_ok fu (bAt ps i1) _ z5)) (q1 rNo (qN ?_)))))
      refine cndB H (fun h7 H => ?_) (fun h7 H => ?_)
      · refine qS (qR (q1 rMv (qN (AWP.ret ?_))))
        obtain rfl : _ = r := (lkR (smI H) :)
        exact qe1
      refine AWP.skip (qR (q1 rMv (q1 (AOp.addI rfl rfl rfl rfl (c := ((i1 + 1 : Nat) : Int)) (by omega) (by omega)) (q1 rMv (qN ?_)))))
      exact lpN h3l ⟨_, (smI H :), wkA⟩
    refine AWP.exit ?_; exact lpX ⟨_, H, wkA⟩
  rintro ⟨⟩ H
  refine qS (qR (q1 rMv (q1 (AOp.lenS rfl rfl rfl Tryz.underlying9) (bdE H fun x9 z8 H => (q1 (rCf Tryz.func53 (sl1In_ok fu ((ps.size : Nat) : Int) 1 12 _ z8)) (q1 rMv (qN (AWP.ret ?_))))))))
  obtain rfl : _ = r := (smI H :)
  exact qe1

abbrev sl2Form_Y := GSExpr → Option Bool
def sl2Form_T (m : sl2Form_Y) : Prop := ∀ (px : GSExpr) (r : Bool), m px = some r → AFun Tryz.prog 77 [(GSExpr.pv px)] (pB r : PV)
def sl2Form_F1 (fu : Nat) (r_sl2Form : sl2Form_Y) (px : GSExpr) : Nat → Unit → Option (LR Unit Bool) :=
 fun i5 _ => bd (r_sl2Form (atD px.gList i5)) (fun x9 =>
 sw (!(x9))
 (some (.ret false))
 (some (.next ())))
def sl2Form_R1 (fu : Nat) (r_sl2Form : sl2Form_Y) (px : GSExpr) : Option (Bool ⊕ Unit) :=
 loopN (sl2Form_F1 fu r_sl2Form px) (px.gList.length - 0) 0 ()
def sl2Form_G (fu : Nat) (r_sl2Form : sl2Form_Y) (px : GSExpr) : Option Bool :=
 sw (!decide (px.gAtom = s_))
 (bd (sIsValidAtom_M fu px.gAtom) (fun x3 =>
 sw (x3)
 (some (decide ((((px.gList.length : Nat) : Int) : Int) = 0)))
 (some false)))
 (so (sl2Form_R1 fu r_sl2Form px) (fun _ =>
 some true))
theorem sl2Form_step (fu : Nat) (r_sl2Form : sl2Form_Y) (h_sl2Form : sl2Form_T r_sl2Form) : sl2Form_T (sl2Form_G fu r_sl2Form) := by
  intro px r H
  have H := hd0 H
  refine qI Tryz.func77 (fun C hC => ?_)
  refine qS (qR (q1 (rBx ([pS px.gAtom, rSExpr px.gList])) (q1 rMv (qN ?_))))
  iterate 2 refine qS ?_
  refine qR (q1 (rFp fo44_0) (q1 (rL1 sh9) (q1 rSn (qN ?_))))
  refine cndB H (fun h1 H => ?_) (fun h1 H => ?_)
  · refine qS (qR (q1 (rFp fo44_0) (q1 (rL1 sh9) (bdE H fun x3 z2 H => (q1 (rCf Tryz.func96 (sIsValidAtom_ok fu px.gAtom _ z2)) (q1 rMv ?_))))))
    refine spB 10 H (fun g4 H => ?_) fun g4 H => ?_
    · refine qg g4 (rFp fo44_1) (qg g4 (rL1 sh42) (qg g4 (rLn el42 (GSExpr.trs_len _)) (qg g4 rEq (q1 (rPt g4) (q1 rMv (qN (AWP.ret ?_)))))))
      obtain rfl : _ = r := (smI H :)
      exact qe1
    iterate 4 refine qk g4 ?_
    refine q1 (rPf g4) (q1 rMv (qN (AWP.ret ?_)))
    obtain rfl : _ = r := (smI H :)
    exact qe1
  refine AWP.skip ?_
  iterate 2 refine qS ?_
  refine qR (q1 rMv (qN ?_))
  refine AWP.fact (box_lenN 0 1 rfl rfl rfl (GSExpr.trs_len _)) (fun hl6 => ?_)
  refine loopB (σ := Unit) (fun i5 _ => ⟨[(1, .ptr 0 0), (2, pB false), (3, pN i5)], ⟨[some ⟨44, [pS px.gAtom, rSExpr px.gList]⟩], []⟩⟩) (fun _ => ⟨[(2, pB false)], ⟨[some ⟨44, [pS px.gAtom, rSExpr px.gList]⟩], []⟩⟩) (soI H) ?_ ?_
  · rintro i5 ⟨⟩ H
    iterate 2 refine qS ?_
    refine qR (q1 rMv (q1 (rFp fo44_1) (q1 (rL1 sh42) (q1 (rLn el42 (GSExpr.trs_len _)) (q1 rLt (qN ?_))))))
    refine cndL H (fun h7 h7l H => ?_) (fun h7 H => ?_)
    · have h7n := nat_lt_of h7
      refine AWP.skip (qS (AWP.block (qS (qR (q1 (rFp fo44_1) (q1 (rL1 sh42) (q1 rMv (q1 (rIx h7n el42) (q1 (rKe (GSExpr.cs (atD px.gList i5)) sh44) (bdE H fun x9 z8 H => (q1 (rCf Tryz.func77 (h_sl2Form (atD px.gList i5) _ z8)) (q1 rNo (qN ?_)))))))))))))
      refine cndB H (fun h10 H => ?_) (fun h10 H => ?_)
      · refine qS (qR (q1 rMv (qN (AWP.ret ?_))))
        obtain rfl : _ = r := (lkR (smI H) :)
        exact qe1
      refine AWP.skip (qR (q1 rMv (q1 (AOp.addI rfl rfl rfl rfl (c := ((i5 + 1 : Nat) : Int)) (by omega) (by omega)) (q1 rMv (qN ?_)))))
      exact lpN h7l ⟨_, (smI H :), wkA⟩
    refine AWP.exit ?_; exact lpX ⟨_, H, wkA⟩
  rintro ⟨⟩ H
  refine qS (qR (q1 rMv (qN (AWP.ret ?_))))
  obtain rfl : _ = r := (smI H :)
  exact qe1
def sl2Form_M : Nat → GSExpr → Option Bool
  | 0, _ => none
  | fu + 1, px => sl2Form_G fu (sl2Form_M fu) px
theorem sl2Form_all (fu : Nat) : sl2Form_T (sl2Form_M fu) := by
  induction fu with
  | zero => exact (fun px r H => by simp only [sl2Form_M] at H; cases H)
  | succ fu ih => exact (fun px r H => by simp only [sl2Form_M] at H; exact sl2Form_step fu (sl2Form_M fu) ih px r H)
theorem sl2Form_ok (fu : Nat) : sl2Form_T (sl2Form_M fu) := (sl2Form_all fu)

abbrev sSExprDepth_Y := GSExpr → Option Int
def sSExprDepth_T (m : sSExprDepth_Y) : Prop := ∀ (px : GSExpr) (r : Int), m px = some r → AFun Tryz.prog 78 [(GSExpr.pv px)] (pI r : PV)
def sSExprDepth_F1 (fu : Nat) (r_sSExprDepth : sSExprDepth_Y) (px : GSExpr) : Nat → Int → Option (LR Int Int) :=
 fun i2 v3 => bd (r_sSExprDepth (atD px.gList i2)) (fun x7 =>
 bd (sl1Max_M fu v3 x7) (fun x9 =>
 some (.next x9)))
def sSExprDepth_R1 (fu : Nat) (r_sSExprDepth : sSExprDepth_Y) (px : GSExpr) : Option (Int ⊕ Int) :=
 loopN (sSExprDepth_F1 fu r_sSExprDepth px) (px.gList.length - 0) 0 0
def sSExprDepth_G (fu : Nat) (r_sSExprDepth : sSExprDepth_Y) (px : GSExpr) : Option Int :=
 sw (!decide (px.gAtom = s_))
 (some 0)
 (so (sSExprDepth_R1 fu r_sSExprDepth px) (fun v3 =>
 some (wrap64 (v3 + 1))))
theorem sSExprDepth_step (fu : Nat) (r_sSExprDepth : sSExprDepth_Y) (h_sSExprDepth : sSExprDepth_T r_sSExprDepth) : sSExprDepth_T (sSExprDepth_G fu r_sSExprDepth) := by
  intro px r H
  have H := hd0 H
  refine qI Tryz.func78 (fun C hC => ?_)
  refine qS (qR (q1 (rBx ([pS px.gAtom, rSExpr px.gList])) (q1 rMv (qN ?_))))
  iterate 2 refine qS ?_
  refine qR (q1 (rFp fo44_0) (q1 (rL1 sh9) (q1 rSn (qN ?_))))
  refine cndB H (fun h1 H => ?_) (fun h1 H => ?_)
  · refine qS (qR (q1 rMv (qN (AWP.ret ?_))))
    obtain rfl : _ = r := (smI H :)
    exact qe1
  refine AWP.skip (qS (qR (q1 rMv (qN ?_))))
  iterate 2 refine qS ?_
  refine qR (q1 rMv (qN ?_))
  refine AWP.fact (box_lenN 0 1 rfl rfl rfl (GSExpr.trs_len _)) (fun hl4 => ?_)
  refine loopB (σ := Int) (fun i2 v3 => ⟨[(1, .ptr 0 0), (2, pI 0), (3, pI v3), (4, pN i2)], ⟨[some ⟨44, [pS px.gAtom, rSExpr px.gList]⟩], []⟩⟩) (fun v3 => ⟨[(2, pI 0), (3, pI v3)], ⟨[some ⟨44, [pS px.gAtom, rSExpr px.gList]⟩], []⟩⟩) (soI H) ?_ ?_
  · rintro i2 v3 H
    iterate 2 refine qS ?_
    refine qR (q1 rMv (q1 (rFp fo44_1) (q1 (rL1 sh42) (q1 (rLn el42 (GSExpr.trs_len _)) (q1 rLt (qN ?_))))))
    refine cndL H (fun h5 h5l H => ?_) (fun h5 H => ?_)
    · have h5n := nat_lt_of h5
      refine AWP.skip (qS (AWP.block (qR (q1 rMv (q1 (rFp fo44_1) (q1 (rL1 sh42) (q1 rMv (q1 (rIx h5n el42) (q1 (rKe (GSExpr.cs (atD px.gList i2)) sh44) (bdE H fun x7 z6 H => (q1 (rCf Tryz.func78 (h_sSExprDepth (atD px.gList i2) _ z6)) (bdE H fun x9 z8 H => (q1 (rCf Tryz.func83 (sl1Max_ok fu v3 x7 _ z8)) ?_)))))))))))))
      refine q1 rMv (qN (qR (q1 rMv (q1 (AOp.addI rfl rfl rfl rfl (c := ((i2 + 1 : Nat) : Int)) (by omega) (by omega)) (q1 rMv (qN ?_))))))
      exact lpN h5l ⟨_, (smI H :), wkA⟩
    refine AWP.exit ?_; exact lpX ⟨_, H, wkA⟩
  rintro v3 H
  refine qS (qR (q1 rMv (q1 rAw (q1 rMv (qN (AWP.ret ?_))))))
  obtain rfl : _ = r := (smI H :)
  exact qe1
def sSExprDepth_M : Nat → GSExpr → Option Int
  | 0, _ => none
  | fu + 1, px => sSExprDepth_G fu (sSExprDepth_M fu) px
theorem sSExprDepth_all (fu : Nat) : sSExprDepth_T (sSExprDepth_M fu) := by
  induction fu with
  | zero => exact (fun px r H => by simp only [sSExprDepth_M] at H; cases H)
  | succ fu ih => exact (fun px r H => by simp only [sSExprDepth_M] at H; exact sSExprDepth_step fu (sSExprDepth_M fu) ih px r H)
theorem sSExprDepth_ok (fu : Nat) : sSExprDepth_T (sSExprDepth_M fu) := (sSExprDepth_all fu)

def sIsValidSExpr_T (m : GSExpr → Option Bool) : Prop := ∀ (px : GSExpr) (r : Bool), m px = some r → AFun Tryz.prog 49 [(GSExpr.pv px)] (pB r : PV)
def sIsValidSExpr_M (fu : Nat) (px : GSExpr) : Option Bool :=
 bd (sl2Left_M fu px 900) (fun x2 =>
 sw (decide ((x2 : Int) ≥ 0))
 (bd (sl2Form_M fu px) (fun x5 =>
 sw (x5)
 (bd (sSExprDepth_M fu px) (fun x8 =>
 some (decide ((x8 : Int) ≤ 14))))
 (some false)))
 (some false))
theorem sIsValidSExpr_ok (fu : Nat)   : sIsValidSExpr_T (sIsValidSExpr_M fu) := by
  intro px r H
  have H := hd0 H
  refine qI Tryz.func49 (fun C hC => ?_)
  refine qS (qR (q1 (rBx ([pS px.gAtom, rSExpr px.gList])) (q1 rMv (qN (qS (qR (q1 (rLp [pS px.gAtom, rSExpr px.gList] sh44) (bdE H fun x2 z1 H => (q1 (rCf Tryz.func76 (sl2Left_ok fu px 900 _ z1)) (q1 rGe (q1 rMv ?_)))))))))))
  refine spB 6 H (fun g3 H => ?_) fun g3 H => ?_
  · refine qg g3 (rLp [pS px.gAtom, rSExpr px.gList] sh44) (bdE H fun x5 z4 H => (qg g3 (rCf Tryz.func77 (sl2Form_ok fu px _ z4)) (q1 (rPt g3) (q1 rMv ?_))))
    refine spB 10 H (fun g6 H => ?_) fun g6 H => ?_
    · refine qg g6 (rLp [pS px.gAtom, rSExpr px.gList] sh44) (bdE H fun x8 z7 H => (qg g6 (rCf Tryz.func78 (sSExprDepth_ok fu px _ z7)) (qg g6 rLe (q1 (rPt g6) (q1 rMv (qN (AWP.ret ?_)))))))
      obtain rfl : _ = r := (smI H :)
      exact qe1
    iterate 3 refine qk g6 ?_
    refine q1 (rPf g6) (q1 rMv (qN (AWP.ret ?_)))
    obtain rfl : _ = r := (smI H :)
    exact qe1
  iterate 2 refine qk g3 ?_
  refine q1 (rPf g3) (q1 rMv ?_)
  iterate 3 refine qk rfl ?_
  refine q1 (rPf rfl) (q1 rMv (qN (AWP.ret ?_)))
  obtain rfl : _ = r := (smI H :)
  exact qe1

def sJoin_T (m : (List ByteArray) → ByteArray → Option ByteArray) : Prop := ∀ (plist : List ByteArray) (pby : ByteArray) (r : ByteArray), m plist pby = some r → AFun Tryz.prog 97 [rS plist, pS pby] (pS r : PV)
def sJoin_F1 (fu : Nat) (plist : List ByteArray) (pby : ByteArray) : Nat → ((List UInt8)) → Option (LR ((List UInt8)) ByteArray) :=
 fun i1 v3 => sw (decide ((((i1 : Nat) : Int) : Int) > 0))
 (gd ((v3).length + (pby.data.toList).length ≤ 68719476736)
 (gd ((v3 ++ pby.data.toList).length + ((atD plist i1).data.toList).length ≤ 68719476736)
 (some (.next ((v3 ++ pby.data.toList) ++ ((atD plist i1).data.toList))))))
 (gd ((v3).length + ((atD plist i1).data.toList).length ≤ 68719476736)
 (some (.next (v3 ++ ((atD plist i1).data.toList)))))
def sJoin_R1 (fu : Nat) (plist : List ByteArray) (pby : ByteArray) : Option (ByteArray ⊕ ((List UInt8))) :=
 loopN (sJoin_F1 fu plist pby) (plist.length - 0) 0 ([])
def sJoin_M (fu : Nat) (plist : List ByteArray) (pby : ByteArray) : Option ByteArray :=
 so (sJoin_R1 fu plist pby) (fun v3 =>
 some (bytesStr v3))
theorem sJoin_ok (fu : Nat)   : sJoin_T (sJoin_M fu) := by
  intro plist pby r H
  have H := hd0 H
  refine qI Tryz.func97 (fun C hC => ?_)
  refine qS (qR (q1 rMv (qN (qS (qR (q1 (rBa ([] : List UInt8) el22 zr5) (q1 rMv (qN ?_))))))))
  iterate 2 refine qS ?_
  refine qR (q1 rMv (qN ?_))
  refine lenF 0 (strTrs_len _) (fun hl4 => ?_)
  refine loopB (σ := (List UInt8)) (fun i1 v3 => ⟨[(0, rS plist), (1, pS pby), (4, pS s_), (5, aU v3 0), (6, pN i1)], ⟨[], [⟨5, 1, byteTrs (v3), false⟩]⟩⟩) (fun v3 => ⟨[(4, pS s_), (5, aU v3 0)], ⟨[], [⟨5, 1, byteTrs (v3), false⟩]⟩⟩) (soI H) ?_ ?_
  · rintro i1 v3 H
    iterate 2 refine qS ?_
    refine qR ?_
    iterate 2 refine q1 rMv ?_
    refine q1 (rLn el39 (strTrs_len _)) (q1 rLt (qN ?_))
    refine cndL H (fun h5 h5l H => ?_) (fun h5 H => ?_)
    · have h5n := nat_lt_of h5
      refine AWP.skip (qS (AWP.block ?_))
      iterate 2 refine qS ?_
      refine qR (q1 rMv (q1 rGt (qN ?_)))
      refine cndB H (fun h6 H => ?_) (fun h6 H => ?_)
      · refine qR ?_
        iterate 2 refine q1 rMv ?_
        refine gdE H fun z7 H => ?_; refine q1 (AOp.appendStr (es3 := byteTrs (v3 ++ pby.data.toList)) rfl rfl rfl rfl rfl rfl rfl rfl rfl el22 Tryz.underlying9 ze22 (by decide) (by rw [byteTrs_len]; exact room_le z7 (by decide)) (byteTrs_append _ _)) ?_; refine q1 rMv (qN (qR ?_))
        iterate 3 refine q1 rMv ?_
        refine q1 (rIx h5n el39) (q1 (rK1 sh9) (gdE H fun z8 H => ?_))
        refine q1 (AOp.appendStr (es3 := byteTrs ((v3 ++ pby.data.toList) ++ ((atD plist i1).data.toList))) rfl rfl rfl rfl rfl rfl rfl rfl rfl el22 Tryz.underlying9 ze22 (by decide) (by rw [byteTrs_len]; exact room_le z8 (by decide)) (byteTrs_append _ _)) ?_; refine q1 rMv (qN (qR (q1 rMv (q1 (AOp.addI rfl rfl rfl rfl (c := ((i1 + 1 : Nat) : Int)) (by omega) (by omega)) (q1 rMv (qN ?_))))))
        exact lpN h5l ⟨_, (smI H :), wkA⟩
      refine AWP.skip (qR ?_)
      iterate 3 refine q1 rMv ?_
      refine q1 (rIx h5n el39) (q1 (rK1 sh9) (gdE H fun z9 H => ?_))
      refine q1 (AOp.appendStr (es3 := byteTrs (v3 ++ ((atD plist i1).data.toList))) rfl rfl rfl rfl rfl rfl rfl rfl rfl el22 Tryz.underlying9 ze22 (by decide) (by rw [byteTrs_len]; exact room_le z9 (by decide)) (byteTrs_append _ _)) ?_; refine q1 rMv (qN (qR (q1 rMv (q1 (AOp.addI rfl rfl rfl rfl (c := ((i1 + 1 : Nat) : Int)) (by omega) (by omega)) (q1 rMv (qN ?_))))))
      exact lpN h5l ⟨_, (smI H :), wkA⟩
    refine AWP.exit ?_; exact lpX ⟨_, H, wkA⟩
  rintro v3 H
  refine qS (qR (q1 rMv (q1 (AOp.bytesStr rfl rfl rfl rfl Tryz.underlying22 Tryz.underlying5 Tryz.underlying9) (q1 rMv (qN (AWP.ret ?_))))))
  obtain rfl : _ = r := (smI H :)
  exact qe1

abbrev sl2Text_Y := GSExpr → Option ByteArray
def sl2Text_T (m : sl2Text_Y) : Prop := ∀ (px : GSExpr) (r : ByteArray), m px = some r → AFun Tryz.prog 79 [(GSExpr.pv px)] (pS r : PV)
def sl2Text_F1 (fu : Nat) (r_sl2Text : sl2Text_Y) (px : GSExpr) : Nat → ((List ByteArray)) → Option (LR ((List ByteArray)) ByteArray) :=
 fun i2 v4 => bd (r_sl2Text (atD px.gList i2)) (fun x8 =>
 gd ((v4).length + (([x8] : List ByteArray)).length ≤ 68719476736)
 (some (.next (v4 ++ ([x8] : List ByteArray)))))
def sl2Text_R1 (fu : Nat) (r_sl2Text : sl2Text_Y) (px : GSExpr) : Option (ByteArray ⊕ ((List ByteArray))) :=
 loopN (sl2Text_F1 fu r_sl2Text px) (px.gList.length - 0) 0 ([])
def sl2Text_G (fu : Nat) (r_sl2Text : sl2Text_Y) (px : GSExpr) : Option ByteArray :=
 sw (!decide (px.gAtom = s_))
 (some px.gAtom)
 (so (sl2Text_R1 fu r_sl2Text px) (fun v4 =>
 bd (sJoin_M fu v4 x_20) (fun x11 =>
 gd ((x_28).size + (x11).size ≤ 1099511627776)
 (gd ((x_28 ++ x11).size + (x_29).size ≤ 1099511627776)
 (some ((x_28 ++ x11) ++ x_29))))))
theorem sl2Text_step (fu : Nat) (r_sl2Text : sl2Text_Y) (h_sl2Text : sl2Text_T r_sl2Text) : sl2Text_T (sl2Text_G fu r_sl2Text) := by
  intro px r H
  have H := hd0 H
  refine qI Tryz.func79 (fun C hC => ?_)
  refine qS (qR (q1 (rBx ([pS px.gAtom, rSExpr px.gList])) (q1 rMv (qN ?_))))
  iterate 2 refine qS ?_
  refine qR (q1 (rFp fo44_0) (q1 (rL1 sh9) (q1 rSn (qN ?_))))
  refine cndB H (fun h1 H => ?_) (fun h1 H => ?_)
  · refine qS (qR (q1 (rFp fo44_0) (q1 (rL1 sh9) (q1 rMv (qN (AWP.ret ?_))))))
    obtain rfl : _ = r := (smI H :)
    exact qe1
  refine AWP.skip (qS (qR (q1 (rBa ([] : List ByteArray) el39 zr9) (q1 rMv (qN ?_)))))
  iterate 2 refine qS ?_
  refine qR (q1 rMv (qN ?_))
  refine AWP.fact (box_lenN 0 1 rfl rfl rfl (GSExpr.trs_len _)) (fun hl5 => ?_)
  refine loopB (σ := (List ByteArray)) (fun i2 v4 => ⟨[(1, .ptr 0 0), (2, pS s_), (3, aS v4 0), (4, pN i2)], ⟨[some ⟨44, [pS px.gAtom, rSExpr px.gList]⟩], [⟨9, 1, strTrs (v4), false⟩]⟩⟩) (fun v4 => ⟨[(2, pS s_), (3, aS v4 0)], ⟨[some ⟨44, [pS px.gAtom, rSExpr px.gList]⟩], [⟨9, 1, strTrs (v4), false⟩]⟩⟩) (soI H) ?_ ?_
  · rintro i2 v4 H
    iterate 2 refine qS ?_
    refine qR (q1 rMv (q1 (rFp fo44_1) (q1 (rL1 sh42) (q1 (rLn el42 (GSExpr.trs_len _)) (q1 rLt (qN ?_))))))
    refine cndL H (fun h6 h6l H => ?_) (fun h6 H => ?_)
    · have h6n := nat_lt_of h6
      refine AWP.skip (qS (AWP.block (qR (q1 rMv (q1 (rFp fo44_1) (q1 (rL1 sh42) (q1 rMv (q1 (rIx h6n el42) (q1 (rKe (GSExpr.cs (atD px.gList i2)) sh44) (bdE H fun x8 z7 H => (q1 (rCf Tryz.func79 (h_sl2Text (atD px.gList i2) _ z7)) (q1 (rBs ([x8] : List ByteArray) el39 zr9) (gdE H fun z9 H => ?_)))))))))))))
      refine q1 (rAp z9 el39 ze39) (q1 rMv (qN (qR (q1 rMv (q1 (AOp.addI rfl rfl rfl rfl (c := ((i2 + 1 : Nat) : Int)) (by omega) (by omega)) (q1 rMv (qN ?_)))))))
      exact lpN h6l ⟨_, (smI H :), wkA⟩
    refine AWP.exit ?_; exact lpX ⟨_, H, wkA⟩
  rintro v4 H
  refine qS (qR (q1 rMv (bdE H fun x11 z10 H => (q1 (rCf Tryz.func97 (sJoin_ok fu v4 x_20 _ z10)) (gdE H fun z12 H => (q1 (AOp.addS rfl rfl rfl rfl (Nat.le_trans z12 (by decide))) (gdE H fun z13 H => (q1 (AOp.addS rfl rfl rfl rfl (Nat.le_trans z13 (by decide))) (q1 rMv (qN (AWP.ret ?_)))))))))))
  obtain rfl : _ = r := (smI H :)
  exact qe1
def sl2Text_M : Nat → GSExpr → Option ByteArray
  | 0, _ => none
  | fu + 1, px => sl2Text_G fu (sl2Text_M fu) px
theorem sl2Text_all (fu : Nat) : sl2Text_T (sl2Text_M fu) := by
  induction fu with
  | zero => exact (fun px r H => by simp only [sl2Text_M] at H; cases H)
  | succ fu ih => exact (fun px r H => by simp only [sl2Text_M] at H; exact sl2Text_step fu (sl2Text_M fu) ih px r H)
theorem sl2Text_ok (fu : Nat) : sl2Text_T (sl2Text_M fu) := (sl2Text_all fu)

def sFormatSExpr_T (m : GSExpr → Option ByteArray) : Prop := ∀ (px : GSExpr) (r : ByteArray), m px = some r → AFun Tryz.prog 51 [(GSExpr.pv px)] (pS r : PV)
def sFormatSExpr_M (fu : Nat) (px : GSExpr) : Option ByteArray :=
 bd (sIsValidSExpr_M fu px) (fun x2 =>
 sw (!(x2))
 (some s_)
 (bd (sl2Text_M fu px) (fun x5 =>
 some x5)))
theorem sFormatSExpr_ok (fu : Nat)   : sFormatSExpr_T (sFormatSExpr_M fu) := by
  intro px r H
  have H := hd0 H
  refine qI Tryz.func51 (fun C hC => ?_)
  refine qS (qR (q1 (rBx ([pS px.gAtom, rSExpr px.gList])) (q1 rMv (qN ?_))))
  iterate 2 refine qS ?_
  refine qR (q1 (rLp [pS px.gAtom, rSExpr px.gList] sh44) (bdE H fun x2 z1 H => (q1 (rCf Tryz.func49 (sIsValidSExpr_ok fu px _ z1)) (q1 rNo (qN ?_)))))
  refine cndB H (fun h3 H => ?_) (fun h3 H => ?_)
  · refine qS (qR (q1 rMv (qN (AWP.ret ?_))))
    obtain rfl : _ = r := (smI H :)
    exact qe1
  refine AWP.skip (qS (qR (q1 (rLp [pS px.gAtom, rSExpr px.gList] sh44) (bdE H fun x5 z4 H => (q1 (rCf Tryz.func79 (sl2Text_ok fu px _ z4)) (q1 rMv (qN (AWP.ret ?_))))))))
  obtain rfl : _ = r := (smI H :)
  exact qe1

def sFormatType_T (m : GType → Option ByteArray) : Prop := ∀ (pt : GType) (r : ByteArray), m pt = some r → AFun Tryz.prog 27 [(GType.pv pt)] (pS r : PV)
def sFormatType_M (fu : Nat) (pt : GType) : Option ByteArray :=
 bd (sIsValidType_M fu pt) (fun x2 =>
 sw (!(x2))
 (some s_)
 (bd (sl5Sx_M fu pt) (fun x5 =>
 bd (sFormatSExpr_M fu x5) (fun x7 =>
 some x7))))
theorem sFormatType_ok (fu : Nat)   : sFormatType_T (sFormatType_M fu) := by
  intro pt r H
  have H := hd0 H
  refine qI Tryz.func27 (fun C hC => ?_)
  refine qS (qR (q1 (rBx (cType pt)) (q1 rMv (qN ?_))))
  iterate 2 refine qS ?_
  refine qR (q1 (rLp [pI pt.gKind, pS pt.gName, rType pt.gArgs] sh26) (bdE H fun x2 z1 H => (q1 (rCf Tryz.func29 (sIsValidType_ok fu pt _ z1)) (q1 rNo (qN ?_)))))
  refine cndB H (fun h3 H => ?_) (fun h3 H => ?_)
  · refine qS (qR (q1 rMv (qN (AWP.ret ?_))))
    obtain rfl : _ = r := (smI H :)
    exact qe1
  refine AWP.skip (qS (qR (q1 (rLp [pI pt.gKind, pS pt.gName, rType pt.gArgs] sh26) (bdE H fun x5 z4 H => (q1 (rCf Tryz.func52 (sl5Sx_ok fu pt _ z4)) (bdE H fun x7 z6 H => (q1 (rCf Tryz.func51 (sFormatSExpr_ok fu x5 _ z6)) (q1 rMv (qN (AWP.ret ?_))))))))))
  obtain rfl : _ = r := (smI H :)
  exact qe1

def sFormatGoal_T (m : GBound → Option ByteArray) : Prop := ∀ (pb : GBound) (r : ByteArray), m pb = some r → AFun Tryz.prog 10 [(GBound.pv pb)] (pS r : PV)
def sFormatGoal_M (fu : Nat) (pb : GBound) : Option ByteArray :=
 bd (sIsValidBound_M fu pb) (fun x2 =>
 sw (!(x2))
 (some s_)
 (gd ((x_28).size + (pb.gTrait).size ≤ 1099511627776)
 (gd ((x_28 ++ pb.gTrait).size + (x_20).size ≤ 1099511627776)
 (bd (sFormatType_M fu pb.gType) (fun x7 =>
 gd (((x_28 ++ pb.gTrait) ++ x_20).size + (x7).size ≤ 1099511627776)
 (gd ((((x_28 ++ pb.gTrait) ++ x_20) ++ x7).size + (x_29).size ≤ 1099511627776)
 (some ((((x_28 ++ pb.gTrait) ++ x_20) ++ x7) ++ x_29))))))))
theorem sFormatGoal_ok (fu : Nat)   : sFormatGoal_T (sFormatGoal_M fu) := by
  intro pb r H
  have H := hd0 H
  refine qI Tryz.func10 (fun C hC => ?_)
  refine qS (qR (q1 (rBx (cBound pb)) (q1 rMv (qN ?_))))
  iterate 2 refine qS ?_
  refine qR (q1 (rLp [pS pb.gTrait, pI pb.gType.gKind, pS pb.gType.gName, rType pb.gType.gArgs] sh28) (bdE H fun x2 z1 H => (q1 (rCf Tryz.func11 (sIsValidBound_ok fu pb _ z1)) (q1 rNo (qN ?_)))))
  refine cndB H (fun h3 H => ?_) (fun h3 H => ?_)
  · refine qS (qR (q1 rMv (qN (AWP.ret ?_))))
    obtain rfl : _ = r := (smI H :)
    exact qe1
  refine AWP.skip (qS (gdE H fun z4 H => (gdE H fun z5 H => (bdE H fun x7 z6 H => (gdE H fun z8 H => (gdE H fun z9 H => (dW (dI [1] (rFp fo28_0) (dD [6] (rL1 sh9) (dI [7] (AOp.addS rfl rfl rfl rfl (Nat.le_trans z4 (by decide))) (dI [8] (AOp.addS rfl rfl rfl rfl (Nat.le_trans z5 (by decide))) (dI [1] (rFp fo28_1) (dD [10] (rLp [pI pb.gType.gKind, pS pb.gType.gName, rType pb.gType.gArgs] sh26) ?_)))))))))))))
  refine dI [11] (rCf Tryz.func27 (sFormatType_ok fu pb.gType _ z6)) (dI [9, 12] (AOp.addS rfl rfl rfl rfl (Nat.le_trans z8 (by decide))) (dI [13] (AOp.addS rfl rfl rfl rfl (Nat.le_trans z9 (by decide))) (dI [14] rMv (dN (AWP.ret ?_)))))
  obtain rfl : _ = r := (smI H :)
  exact qe1

end
end Go.Proofs.YtmpepccpnnldoaaGreat

namespace Go.Proofs.YtmpepccpnnldoaaGreat
set_option linter.unusedSimpArgs false
set_option linter.unusedVariables false

/-- It holds of all great enough numbers. -/
def Evt (P : Nat → Prop) : Prop := ∃ N, ∀ n, N ≤ n → P n
theorem Evt.all {P : Nat → Prop} (h : ∀ n, P n) : Evt P := ⟨0, fun n _ => h n⟩
theorem Evt.and {P Q : Nat → Prop} (h : Evt P) (k : Evt Q) : Evt fun n => P n ∧ Q n := by
  obtain ⟨a, h⟩ := h
  obtain ⟨b, k⟩ := k
  exact ⟨max a b, fun n hn => ⟨h n (by omega), k n (by omega)⟩⟩
theorem Evt.imp {P Q : Nat → Prop} (h : Evt P) (k : ∀ n, P n → Q n) : Evt Q := by
  obtain ⟨a, h⟩ := h
  exact ⟨a, fun n hn => k n (h n hn)⟩
theorem Evt.succ {P : Nat → Prop} (h : Evt fun n => P (n + 1)) : Evt P := by
  obtain ⟨a, h⟩ := h
  exact ⟨a + 1, fun n hn => by
    obtain ⟨m, rfl⟩ : ∃ m, n = m + 1 := ⟨n - 1, by omega⟩
    exact h m (by omega)⟩
theorem Evt.list {α : Type} {P : α → Nat → Prop} : ∀ {l : List α}, (∀ x ∈ l, Evt (P x)) → Evt fun n => ∀ x ∈ l, P x n
  | [], _ => .all fun n x hx => by simp at hx
  | a :: l, h => ((h a (by simp)).and (Evt.list (l := l) fun x hx => h x (List.mem_cons_of_mem _ hx))).imp fun n hn x hx => by
    rcases List.mem_cons.1 hx with rfl | hx
    · exact hn.1
    · exact hn.2 x hx
/-- .. of each index below n. -/
theorem Evt.below {P : Nat → Nat → Prop} : ∀ {k : Nat}, (∀ i, i < k → Evt (P i)) → Evt fun n => ∀ i, i < k → P i n
  | 0, _ => .all fun n i hi => by omega
  | k + 1, h => ((h k (by omega)).and (Evt.below (k := k) fun i hi => h i (Nat.lt_succ_of_lt hi))).imp fun n hn i hi => by
    rcases Nat.lt_or_ge i k with h1 | h1
    · exact hn.2 i h1
    · obtain rfl : i = k := by omega
      exact hn.1
theorem Evt.get {P : Nat → Prop} (h : Evt P) : ∃ n, P n := by
  obtain ⟨a, h⟩ := h
  exact ⟨a, h a (Nat.le_refl _)⟩

section
variable {α σ β : Type} [Inhabited α] {f : Nat → σ → Option (LR σ β)}
theorem atD_mem {l : List α} {i : Nat} (h : i < l.length) : atD l i ∈ l := by rw [atD_eq h]; exact List.getElem_mem h
theorem drop_atD {l : List α} {i : Nat} (h : i < l.length) : l.drop i = atD l i :: l.drop (i + 1) := by rw [atD_eq h]; exact List.drop_eq_getElem_cons h
theorem take_atD {l : List α} {i : Nat} (h : i < l.length) : l.take (i + 1) = l.take i ++ [atD l i] := by rw [atD_eq h]; exact List.take_succ_eq_append_getElem h
/-- One round that goes on. -/
theorem loopN_step {n i : Nat} {s s' : σ} (h : i < n) (e : f i s = some (.next s')) : loopN f (n - i) i s = loopN f (n - (i + 1)) (i + 1) s' := loopN_next h rfl e
theorem loopN_out {n i : Nat} {s : σ} {x : β} (h : i < n) (e : f i s = some (.ret x)) : loopN f (n - i) i s = some (.inl x) := loopN_ret h rfl e
theorem loopN_off {n i : Nat} {s s' : σ} (h : i < n) (e : f i s = some (.brk s')) : loopN f (n - i) i s = some (.inr s') := loopN_brk h rfl e
theorem loopN_all {n i : Nat} {s : σ} (h : n ≤ i) : loopN f (n - i) i s = some (.inr s) := loopN_end h rfl
/-- A loop over a list that leaves at the first element of a kind. -/
theorem loopN_find {l : List α} {p : α → Bool} {r : α → β} {s : σ} (hs : ∀ i, i < l.length → f i s = if p (atD l i) then some (.ret (r (atD l i))) else some (.next s)) :
    ∀ (k i : Nat), l.length - i = k → loopN f (l.length - i) i s = some (match (l.drop i).find? p with | some x => .inl (r x) | none => .inr s)
  | 0, i, hk => by
    rw [loopN_all (by omega), List.drop_of_length_le (by omega), List.find?_nil]
  | k + 1, i, hk => by
    have hi : i < l.length := by omega
    have h1 := hs i hi
    rw [drop_atD hi, List.find?_cons]
    cases hp : p (atD l i)
    · rw [hp] at h1
      rw [loopN_step hi (by simpa using h1)]
      exact loopN_find hs k (i + 1) (by omega)
    · rw [hp] at h1
      rw [loopN_out hi (by simpa using h1)]
theorem loopN_find0 {l : List α} {p : α → Bool} {r : α → β} {s : σ} (hs : ∀ i, i < l.length → f i s = if p (atD l i) then some (.ret (r (atD l i))) else some (.next s)) : loopN f (l.length - 0) 0 s = some (match l.find? p with | some x => .inl (r x) | none => .inr s) := by
  have := loopN_find hs l.length 0 (by omega)
  rwa [List.drop_zero] at this
/-- A loop over a list whose every element must pass; what is returned where one does not hangs on nothing. -/
theorem loopN_every {l : List α} {p : α → Bool} {r : β} {s : σ} (hs : ∀ i, i < l.length → f i s = if p (atD l i) then some (.next s) else some (.ret r)) : loopN f (l.length - 0) 0 s = some (if l.all p then .inr s else .inl r) := by
  rw [loopN_find0 (p := fun x => !p x) (r := fun _ => r) (fun i hi => by rw [hs i hi]; cases p (atD l i) <;> rfl)]
  cases h : l.find? (fun x => !p x) with
  | none =>
    rw [List.find?_eq_none] at h
    rw [if_pos (by rw [List.all_eq_true]; intro x hx; have := h x hx; simpa using this)]
  | some x =>
    have h1 := List.find?_some h
    have h2 := List.mem_of_find?_eq_some h
    rw [if_neg (by rw [List.all_eq_true]; intro hc; have := hc x h2; simp [this] at h1)]
/-- A loop that returns the place of the first element of a kind. -/
theorem loopN_index {f : Nat → Unit → Option (LR Unit Int)} {l : List α} {p : α → Bool} (hs : ∀ i, i < l.length → f i () = if p (atD l i) then some (.ret ((i : Nat) : Int)) else some (.next ())) :
    loopN f (l.length - 0) 0 () = some (match l.findIdx? p with | some i => .inl ((i : Nat) : Int) | none => .inr ()) := by
  have key : ∀ (k i : Nat), l.length - i = k → loopN f (l.length - i) i () = some (match (l.drop i).findIdx? p with | some j => .inl (((i + j : Nat)) : Int) | none => .inr ()) := by
    intro k
    induction k with
    | zero =>
      intro i hk
      rw [loopN_all (by omega), List.drop_of_length_le (by omega)]
      rfl
    | succ k ih =>
      intro i hk
      have hi : i < l.length := by omega
      have h1 := hs i hi
      rw [drop_atD hi, List.findIdx?_cons]
      cases hp : p (atD l i)
      · rw [hp] at h1
        rw [loopN_step hi (by simpa using h1), ih (i + 1) (by omega)]
        cases (l.drop (i + 1)).findIdx? p with
        | none => simp
        | some j => simp; omega
      · rw [hp] at h1
        rw [loopN_out hi (by simpa using h1)]
        simp
  have := key l.length 0 (by omega)
  simpa using this
omit [Inhabited α] in
theorem index_any {l : List α} {p : α → Bool} : decide ((match l.findIdx? p with | some i => ((i : Nat) : Int) | none => -1) ≥ 0) = l.any p := by
  cases h : l.findIdx? p with
  | none =>
    rw [List.findIdx?_eq_none_iff] at h
    have : l.any p = false := by rw [List.any_eq_false]; intro x hx; simp [h x hx]
    rw [this]; rfl
  | some i =>
    obtain ⟨h1, h2, -⟩ := List.findIdx?_eq_some_iff_getElem.1 h
    have : l.any p = true := List.any_eq_true.2 ⟨_, List.getElem_mem h1, h2⟩
    rw [this]
    simp
end
end Go.Proofs.YtmpepccpnnldoaaGreat

namespace Go.Proofs.YtmpepccpnnldoaaGreat
set_option linter.unusedSimpArgs false
set_option linter.unusedVariables false
open Go.RowKit Go.WalkArith Go.IntWalk

def Ok {α : Type} (o : Option α) (P : α → Prop) : Prop := ∃ a, o = some a ∧ P a
theorem Ok.some {α : Type} {P : α → Prop} {a : α} (h : P a) : Ok (Option.some a) P := ⟨a, rfl, h⟩
theorem Ok.mono {α : Type} {P Q : α → Prop} {o : Option α} (h : Ok o P) (k : ∀ a, P a → Q a) : Ok o Q := by
  obtain ⟨a, e, h⟩ := h
  exact ⟨a, e, k a h⟩
theorem Ok.bd {α β : Type} {o : Option α} {f : α → Option β} {Q : α → Prop} {P : β → Prop} (h : Ok o Q) (k : ∀ a, Q a → Ok (f a) P) : Ok (bd o f) P := by
  obtain ⟨a, rfl, h⟩ := h
  exact k a h
theorem Ok.sw {α : Type} {c : Bool} {a b : Option α} {P : α → Prop} (ht : c = true → Ok a P) (hf : c = false → Ok b P) : Ok (sw c a b) P := by
  cases c
  · exact hf rfl
  · exact ht rfl
theorem Ok.gd {α : Type} {g : Prop} {a : Option α} {P : α → Prop} (h : g) (k : Ok a P) : Ok (gd g a) P := by
  rw [gdT h rfl]
  exact k
theorem Ok.so {σ β : Type} {o : Option (β ⊕ σ)} {f : σ → Option β} {Q : β ⊕ σ → Prop} {P : β → Prop} (h : Ok o Q) (k1 : ∀ x, Q (.inl x) → P x) (k2 : ∀ s, Q (.inr s) → Ok (f s) P) : Ok (so o f) P := by
  obtain ⟨a, rfl, h⟩ := h
  cases a with
  | inl x => exact ⟨x, rfl, k1 x h⟩
  | inr s => exact k2 s h
theorem Ok.lt {α β : Type} {x : α} {f : α → Option β} {P : β → Prop} (k : ∀ y, y = x → Ok (f y) P) : Ok (lt x f) P := k x rfl
theorem DS.pick_mem (d : DS) {l : List ByteArray} (h : 0 < l.length) : d.pick l ∈ l := by
  rw [DS.pick_eq (d.below_lt h)]
  exact List.getElem_mem _
theorem DS.pick_size (d : DS) {l : List ByteArray} {k : Nat} (h : 0 < l.length) (hs : ∀ v ∈ l, v.size ≤ k) : (d.pick l).size ≤ k := hs _ (d.pick_mem h)
theorem wrap_pred {n : Nat} (h : n ≤ 1000) : wrap64 (((n + 1 : Nat) : Int) - 1) = (n : Int) := by
  unfold wrap64 IntKind.wrap
  simp [IntKind.bits, IntKind.signed]
  omega
def PS {σ β : Type} (Q : β → Prop) (E : σ → Prop) : β ⊕ σ → Prop
  | .inl x => Q x
  | .inr s => E s
def PL {σ β : Type} (Q : β → Prop) (N E : σ → Prop) : LR σ β → Prop
  | .next s => N s
  | .brk s => E s
  | .ret x => Q x
theorem Ok.gdk {α : Type} {g : Prop} {a : Option α} {P : α → Prop} (h : g) (k : g → Ok a P) : Ok (Go.Proofs.YtmpepccpnnldoaaGreat.gd g a) P := Ok.gd h (k h)
theorem Ok.sok {σ β : Type} {o : Option (β ⊕ σ)} {f : σ → Option β} {P : β → Prop} {E : σ → Prop} (h : Ok o (PS P E)) (k : ∀ s, E s → Ok (f s) P) : Ok (Go.Proofs.YtmpepccpnnldoaaGreat.so o f) P := Ok.so h (fun _ hx => hx) k
theorem Ok.loopN {σ β : Type} {f : Nat → σ → Option (LR σ β)} {n : Nat} {Q : β → Prop} {E : σ → Prop} (I : Nat → σ → Prop) (hE : ∀ i s, n ≤ i → I i s → E s) (hs : ∀ i s, i < n → I i s → Ok (f i s) (PL Q (I (i + 1)) E)) :
    ∀ (k i : Nat) (s : σ), n - i = k → I i s → Ok (Go.Proofs.YtmpepccpnnldoaaGreat.loopN f (n - i) i s) (PS Q E)
  | 0, i, s, hk, hi => by rw [loopN_all (by omega)]; exact Ok.some (hE i s (by omega) hi)
  | k + 1, i, s, hk, hi => by
    have hlt : i < n := by omega
    obtain ⟨r, hr, hp⟩ := hs i s hlt hi
    cases r with
    | next s' => rw [loopN_step hlt hr]; exact Ok.loopN I hE hs k (i + 1) s' (by omega) hp
    | brk s' => rw [loopN_off hlt hr]; exact Ok.some hp
    | ret x => rw [loopN_out hlt hr]; exact Ok.some hp
theorem Ok.loopN0 {σ β : Type} {f : Nat → σ → Option (LR σ β)} {n i : Nat} {s : σ} {Q : β → Prop} {E : σ → Prop} (I : Nat → σ → Prop) (h0 : I i s) (hE : ∀ i s, n ≤ i → I i s → E s) (hs : ∀ i s, i < n → I i s → Ok (f i s) (PL Q (I (i + 1)) E)) : Ok (Go.Proofs.YtmpepccpnnldoaaGreat.loopN f (n - i) i s) (PS Q E) :=
  Ok.loopN I hE hs (n - i) i s rfl h0
theorem Ok.loopW {σ β : Type} {f : σ → Option (LR σ β)} {Q : β → Prop} {E : σ → Prop} (I : σ → Prop) (μ : σ → Nat) (hs : ∀ s, I s → Ok (f s) (PL Q (fun s' => I s' ∧ μ s' < μ s) E)) :
    ∀ (k : Nat) (s : σ), μ s < k → I s → Ok (Go.Proofs.YtmpepccpnnldoaaGreat.loopW f k s) (PS Q E)
  | 0, s, hk, _ => absurd hk (Nat.not_lt_zero _)
  | k + 1, s, hk, hi => by
    obtain ⟨r, hr, hp⟩ := hs s hi
    unfold Go.Proofs.YtmpepccpnnldoaaGreat.loopW
    rw [hr]
    cases r with
    | next s' => exact Ok.loopW I μ hs k s' (by have := hp.2; omega) hp.1
    | brk s' => exact Ok.some hp
    | ret x => exact Ok.some hp
theorem Evt.ge (k : Nat) : Evt fun fu => k ≤ fu := ⟨k, fun _ h => h⟩
end Go.Proofs.YtmpepccpnnldoaaGreat

namespace Go.Proofs.YtmpepccpnnldoaaGreat
set_option linter.unusedSimpArgs false
set_option linter.unusedVariables false
open Go.RowKit Go.Proofs

theorem sw_if {α : Type} (b : Bool) (x y : α) : sw b x y = if b = true then x else y := by cases b <;> rfl
theorem loopN_inv {σ β : Type} {f : Nat → σ → Option (LR σ β)} {n : Nat} (g : Nat → σ) (hs : ∀ i, i < n → f i (g i) = some (.next (g (i + 1)))) : loopN f (n - 0) 0 (g 0) = some (.inr (g n)) := by
  have key : ∀ (k i : Nat), n - i = k → i ≤ n → loopN f (n - i) i (g i) = some (.inr (g n)) := by
    intro k
    induction k with
    | zero =>
      intro i hk hi
      obtain rfl : i = n := by omega
      rw [loopN_all (Nat.le_refl _)]
    | succ k ih =>
      intro i hk hi
      rw [loopN_step (by omega) (hs i (by omega))]
      exact ih (i + 1) (by omega) (by omega)
  exact key n 0 rfl (Nat.zero_le _)
theorem atD_range {n i : Nat} (h : i < n) : atD (List.range n) i = i := by rw [atD_eq (by simpa using h)]; simp
theorem loopN_rng {σ β : Type} {f : Nat → σ → Option (LR σ β)} {n : Nat} {p : Nat → Bool} {r : β} {s : σ} (hs : ∀ i, i < n → f i s = if p i then some (.next s) else some (.ret r)) :
    loopN f (n - 0) 0 s = some (if (List.range n).all p then .inr s else .inl r) := by
  have := loopN_every (f := f) (l := List.range n) (p := p) (r := r) (s := s) (fun i hi => by
    have hi : i < n := by simpa using hi
    rw [atD_range hi]
    exact hs i hi)
  rw [List.length_range] at this
  exact this

def lowC (c : UInt8) : Bool := decide ((c.toNat : Int) ≥ 97) && decide ((c.toNat : Int) ≤ 122)
def digC (c : UInt8) : Bool := decide ((c.toNat : Int) ≥ 48) && decide ((c.toNat : Int) ≤ 57)
theorem lt_ge (a b : Int) : decide (a < b) = !decide (a ≥ b) := by by_cases h : a < b <;> simp [h] <;> omega
theorem gt_le (a b : Int) : decide (a > b) = !decide (a ≤ b) := by by_cases h : a ≤ b <;> simp [h] <;> omega
def nmAt (s : ByteArray) (i : Nat) : Bool := lowC (bAt s i) || (!decide ((i : Int) = 0) && digC (bAt s i))
def resW : List ByteArray := [s_int, s_bool, s_assoc, s_dyn, s_if, s_let, s_case, s_new, s_method, s_pack, s_true, s_false]
def nmB (s : ByteArray) : Bool := (List.range s.size).all (nmAt s) && (decide ((s.size : Int) ≥ 1) && (decide ((s.size : Int) ≤ 8) && !(resW.any fun x => decide (x = s))))
theorem low_i (fu : Nat) (c : UInt8) : iisLower_M fu c = some (lowC c) := by
  unfold iisLower_M lowC
  cases h1 : decide ((c.toNat : Int) ≥ 97) <;> rfl
theorem dig_i (fu : Nat) (c : UInt8) : iisDigit_M fu c = some (digC c) := by
  unfold iisDigit_M digC
  cases h1 : decide ((c.toNat : Int) ≥ 48) <;> rfl
theorem res_i (fu : Nat) (s : ByteArray) : iIsReserved_M fu s = some (resW.any fun x => decide (x = s)) := by
  unfold iIsReserved_M gContains_string_M gIndex_string_M gIndex_string_R1
  rw [loopN_index (p := fun x => decide (x = s)) (fun i hi => by
    unfold gIndex_string_F1
    rw [sw_if]
    by_cases h : s = atD [s_int, s_bool, s_assoc, s_dyn, s_if, s_let, s_case, s_new, s_method, s_pack, s_true, s_false] i
    · rw [if_pos (by simpa using h), if_pos (by simpa using h.symm)]
    · rw [if_neg (by simpa using h), if_neg (by simpa using fun e => h (Eq.symm e))])]
  show bd (bd (so (some _) _) _) _ = _
  have h := index_any (l := resW) (p := fun x => decide (x = s))
  cases hh : resW.findIdx? (fun x => decide (x = s)) with
  | none =>
    have hh' : List.findIdx? (fun x => decide (x = s)) [s_int, s_bool, s_assoc, s_dyn, s_if, s_let, s_case, s_new, s_method, s_pack, s_true, s_false] = none := hh
    rw [hh] at h
    rw [hh', ← h]
    rfl
  | some i =>
    have hh' : List.findIdx? (fun x => decide (x = s)) [s_int, s_bool, s_assoc, s_dyn, s_if, s_let, s_case, s_new, s_method, s_pack, s_true, s_false] = some i := hh
    rw [hh] at h
    rw [hh', ← h]
    rfl
theorem name_i (fu : Nat) (s : ByteArray) : iIsValidName_M fu s = some (nmB s) := by
  unfold iIsValidName_M iIsValidName_R1
  rw [loopN_rng (p := nmAt s) (r := false) (fun i hi => by
    unfold iIsValidName_F1 nmAt
    rw [gdT hi rfl, low_i, dig_i]
    cases hl : lowC (bAt s i) <;> cases hd : digC (bAt s i) <;> cases h0 : decide ((i : Int) = 0) <;> rfl)]
  unfold nmB
  cases ha : (List.range s.size).all (nmAt s)
  · rfl
  · cases h1 : decide ((s.size : Int) ≥ 1)
    · rfl
    · cases h8 : decide ((s.size : Int) ≤ 8)
      · rfl
      · show bd (iIsReserved_M fu s) _ = _
        rw [res_i]
        rfl
theorem res_s (fu : Nat) (s : ByteArray) : sIsReserved_M fu s = some (resW.any fun x => decide (x = s)) := by
  unfold sIsReserved_M sl1Has_M sl1Has_R1
  rw [loopN_find0 (p := fun x => decide (x = s)) (r := fun _ => true) (fun i hi => by
    unfold sl1Has_F1
    rw [sw_if])]
  show bd (so (some _) _) _ = _
  cases hh : resW.find? (fun x => decide (x = s)) with
  | none =>
    have hh' : List.find? (fun x => decide (x = s)) [s_int, s_bool, s_assoc, s_dyn, s_if, s_let, s_case, s_new, s_method, s_pack, s_true, s_false] = none := hh
    rw [hh']
    have : (resW.any fun x => decide (x = s)) = false := by
      rw [List.find?_eq_none] at hh
      rw [List.any_eq_false]
      exact hh
    rw [this]
    rfl
  | some i =>
    have hh' : List.find? (fun x => decide (x = s)) [s_int, s_bool, s_assoc, s_dyn, s_if, s_let, s_case, s_new, s_method, s_pack, s_true, s_false] = some i := hh
    rw [hh']
    have : (resW.any fun x => decide (x = s)) = true := List.any_eq_true.2 ⟨i, List.mem_of_find?_eq_some hh, by simpa using List.find?_some hh⟩
    rw [this]
    rfl
theorem in_s (fu : Nat) (a b c : Int) : sl1In_M fu a b c = some (decide (a ≥ b) && decide (a ≤ c)) := by
  unfold sl1In_M
  cases h : decide (a ≥ b) <;> rfl
theorem name_s (fu : Nat) (s : ByteArray) : sIsValidName_M fu s = some (nmB s) := by
  unfold sIsValidName_M sIsValidName_R1
  rw [in_s, res_s]
  have hl : ∀ x2 x5, loopN (sIsValidName_F1 fu s x2 x5) (s.size - 0) 0 () = some (if (List.range s.size).all (nmAt s) then .inr () else .inl false) := fun x2 x5 => loopN_rng (p := nmAt s) (r := false) (fun i hi => by
    unfold sIsValidName_F1 nmAt lowC digC
    rw [gdT hi rfl]
    rw [lt_ge, gt_le]
    cases h1 : decide (((bAt s i).toNat : Int) ≥ 97) <;> cases h2 : decide (((bAt s i).toNat : Int) ≤ 122) <;> cases h3 : decide ((i : Int) = 0) <;> cases h4 : decide (((bAt s i).toNat : Int) ≥ 48) <;> cases h5 : decide (((bAt s i).toNat : Int) ≤ 57) <;> rfl)
  unfold nmB
  cases h1 : decide ((s.size : Int) ≥ 1) <;> cases h8 : decide ((s.size : Int) ≤ 8) <;> cases hr : (resW.any fun x => decide (x = s)) <;> cases ha : (List.range s.size).all (nmAt s) <;> first | rfl | (show so (loopN _ _ _ _) _ = _; rw [hl, ha]; rfl)
end Go.Proofs.YtmpepccpnnldoaaGreat

namespace Go.Proofs.YtmpepccpnnldoaaGreat
set_option linter.unusedSimpArgs false
set_option linter.unusedVariables false
open Go.RowKit Go.Proofs

def baseB (n : ByteArray) : Bool := decide (n = s_int) || decide (n = s_bool)
def fineB (k : Int) (n : ByteArray) (len : Nat) : Bool :=
  if k = 1 ∨ k = 4 then nmB n && decide ((len : Int) = 0) else if k = 3 then nmB n && decide ((len : Int) = 1) else if k = 2 then (nmB n && decide ((len : Int) ≤ 3)) || (baseB n && decide ((len : Int) = 0)) else false
mutual
def GType.formB : GType → Bool
  | .mk k n xs => fineB k n xs.length && GType.formBs xs
def GType.formBs : List GType → Bool
  | [] => true
  | x :: r => GType.formB x && GType.formBs r
end
mutual
def GType.dep : GType → Nat
  | .mk _ _ xs => GType.deps xs
def GType.deps : List GType → Nat
  | [] => 0
  | x :: r => max (GType.dep x + 1) (GType.deps r)
end
theorem GType.formBs_all : ∀ xs : List GType, GType.formBs xs = xs.all GType.formB
  | [] => rfl
  | x :: r => by rw [GType.formBs, List.all_cons, GType.formBs_all r]
theorem GType.sizes_app : ∀ a b : List GType, GType.sizes (a ++ b) = GType.sizes a + GType.sizes b
  | [], b => by simp [GType.sizes]
  | x :: r, b => by rw [List.cons_append, GType.sizes, GType.sizes, GType.sizes_app r b]; omega
theorem GType.deps_app : ∀ a b : List GType, GType.deps (a ++ b) = max (GType.deps a) (GType.deps b)
  | [], b => by simp [GType.deps]
  | x :: r, b => by rw [List.cons_append, GType.deps, GType.deps, GType.deps_app r b]; omega
theorem GType.sizes_le {xs : List GType} {x : GType} (h : x ∈ xs) : GType.size x ≤ GType.sizes xs := by
  induction xs with
  | nil => simp at h
  | cons a r ih =>
    rw [GType.sizes]
    rcases List.mem_cons.1 h with rfl | h
    · omega
    · have := ih h; omega
theorem GType.dep_size : ∀ t : GType, GType.dep t + 1 ≤ GType.size t := by
  refine GType.ind fun k n xs ih => ?_
  rw [GType.dep, GType.size]
  have : ∀ l : List GType, (∀ x ∈ l, GType.dep x + 1 ≤ GType.size x) → GType.deps l ≤ GType.sizes l := by
    intro l
    induction l with
    | nil => intro _; simp [GType.deps]
    | cons a l ihl =>
      intro h
      have h1 := h a (by simp)
      have h2 := ihl fun x hx => h x (by simp [hx])
      rw [GType.deps, GType.sizes]
      omega
  have := this xs ih
  omega
theorem wrap_in {x : Int} (h0 : -1000 ≤ x) (h1 : x ≤ 1099511627776) : wrap64 x = x := by
  unfold wrap64 IntKind.wrap
  simp [IntKind.bits, IntKind.signed]
  omega

/-! ### depth and size -/
theorem dep_i : ∀ t : GType, GType.size t ≤ 4294967296 → Evt fun fu => iTypeDepth_M fu t = some (GType.dep t : Int) := by
  refine GType.ind fun k n xs ih hz => ?_
  rw [GType.size] at hz
  refine Evt.succ ((Evt.list (l := xs) fun x hx => ih x hx (by have := GType.sizes_le hx; omega)).imp fun fu h => ?_)
  show iTypeDepth_G fu (iTypeDepth_M fu) _ = _
  unfold iTypeDepth_G iTypeDepth_R1
  refine soR (loopN_inv (fun i => ((GType.deps (xs.take i) : Nat) : Int)) (n := xs.length) fun i hi => ?_) ?_
  · unfold iTypeDepth_F1
    have hm := atD_mem hi
    rw [GType.gArgs_mk, h _ hm]
    have h1 := GType.dep_size (atD xs i)
    have h2 := GType.sizes_le hm
    show some (LR.next (max _ (wrap64 _))) = _
    rw [wrap_in (by omega) (by omega), take_atD hi, GType.deps_app]
    simp only [GType.deps]
    congr 2
    omega
  · rw [List.take_length, GType.dep]
theorem size_i : ∀ t : GType, GType.size t ≤ 4294967296 → Evt fun fu => iTypeSize_M fu t = some (GType.size t : Int) := by
  refine GType.ind fun k n xs ih hz => ?_
  rw [GType.size] at hz
  refine Evt.succ ((Evt.list (l := xs) fun x hx => ih x hx (by have := GType.sizes_le hx; omega)).imp fun fu h => ?_)
  show iTypeSize_G fu (iTypeSize_M fu) _ = _
  unfold iTypeSize_G iTypeSize_R1
  refine soR (loopN_inv (fun i => ((1 + GType.sizes (xs.take i) : Nat) : Int)) (n := xs.length) fun i hi => ?_) ?_
  · unfold iTypeSize_F1
    have hm := atD_mem hi
    rw [GType.gArgs_mk, h _ hm]
    have h3 := congrArg GType.sizes (List.take_append_drop (i + 1) xs)
    rw [GType.sizes_app, take_atD hi, GType.sizes_app] at h3
    simp only [GType.sizes] at h3
    show some (LR.next (wrap64 _)) = _
    rw [wrap_in (by omega) (by omega), take_atD hi, GType.sizes_app]
    simp only [GType.sizes]
    congr 2
    omega
  · rw [List.take_length, GType.size]
theorem max_s (fu : Nat) (a b : Int) : sl1Max_M fu a b = some (max a b) := by
  unfold sl1Max_M
  rw [sw_if]
  by_cases h : a > b
  · rw [if_pos (by simpa using h)]; congr 1; omega
  · rw [if_neg (by simpa using h)]; congr 1; omega
theorem dep_s : ∀ t : GType, GType.size t ≤ 4294967296 → Evt fun fu => sTypeDepth_M fu t = some (GType.dep t : Int) := by
  refine GType.ind fun k n xs ih hz => ?_
  rw [GType.size] at hz
  refine Evt.succ ((Evt.list (l := xs) fun x hx => ih x hx (by have := GType.sizes_le hx; omega)).imp fun fu h => ?_)
  show sTypeDepth_G fu (sTypeDepth_M fu) _ = _
  unfold sTypeDepth_G sTypeDepth_R1
  refine soR (loopN_inv (fun i => ((GType.deps (xs.take i) : Nat) : Int)) (n := xs.length) fun i hi => ?_) ?_
  · unfold sTypeDepth_F1
    have hm := atD_mem hi
    rw [GType.gArgs_mk, h _ hm]
    have h1 := GType.dep_size (atD xs i)
    have h2 := GType.sizes_le hm
    show bd (sl1Max_M _ _ (wrap64 _)) _ = _
    rw [wrap_in (by omega) (by omega), max_s, take_atD hi, GType.deps_app]
    simp only [GType.deps]
    show some (LR.next _) = _
    congr 2
    omega
  · rw [List.take_length, GType.dep]
theorem left_s : ∀ t : GType, Evt fun fu => ∀ L : Int, 0 ≤ L → L ≤ 1000 → Ok (sl4Left_M fu t L) (fun r => ((GType.size t : Int) ≤ L ∧ r = L - GType.size t) ∨ (L < GType.size t ∧ r < 0)) := by
  refine GType.ind fun k n xs ih => ?_; refine Evt.succ ((Evt.list (l := xs) fun x hx => ih x hx).imp fun fu h L h0 h1 => ?_)
  show Ok (sl4Left_G fu (sl4Left_M fu) _ L) _
  unfold sl4Left_G sl4Left_R1
  rw [wrap_in (by omega) (by omega), GType.size]
  refine Ok.so (Q := PS (fun _ => False) fun v => ((1 + GType.sizes xs : Nat) : Int) ≤ L ∧ v = L - (1 + GType.sizes xs : Nat) ∨ L < ((1 + GType.sizes xs : Nat) : Int) ∧ v < 0) ?_ (fun x hx => by cases hx) (fun v hv => Ok.some hv)
  refine Ok.loopN0 (fun i v => i ≤ xs.length ∧ (((1 + GType.sizes (xs.take i) : Nat) : Int) ≤ L ∧ v = L - (1 + GType.sizes (xs.take i) : Nat) ∨ L < ((1 + GType.sizes (xs.take i) : Nat) : Int) ∧ v < 0)) ⟨Nat.zero_le _, ?_⟩ ?_ ?_
  · simp only [List.take_zero, GType.sizes]
    omega
  · rintro i v hi ⟨hi2, hv⟩
    obtain rfl : i = xs.length := by rw [GType.gArgs_mk] at hi; omega
    rwa [List.take_length] at hv
  · rintro i v hi ⟨hi2, hv⟩
    rw [GType.gArgs_mk] at hi
    have h3 := congrArg GType.sizes (List.take_append_drop i xs)
    rw [GType.sizes_app] at h3
    unfold sl4Left_F1
    refine Ok.sw (fun hc => ?_) (fun hc => ?_)
    · have hc : v ≥ 0 := by simpa using hc
      rw [GType.gArgs_mk]
      refine Ok.bd (h _ (atD_mem hi) v hc (by omega)) fun r hr => Ok.some ⟨hi, ?_⟩
      rw [take_atD hi, GType.sizes_app]
      simp only [GType.sizes]
      omega
    · have hc : ¬ v ≥ 0 := by simpa using hc
      refine Ok.some ?_
      show _ ∨ _
      omega

/-! ### the form -/
theorem base_i (fu : Nat) (n : ByteArray) : iisBuiltIn_M fu n = some (baseB n) := by
  unfold iisBuiltIn_M baseB
  cases h : decide (n = s_int) <;> rfl
theorem base_s (fu : Nat) (n : ByteArray) : sl4Base_M fu n = some (baseB n) := by
  unfold sl4Base_M baseB
  cases h : decide (n = s_int) <;> rfl
theorem cont_i {fu : Nat} {xs : List GType} (h : ∀ x ∈ xs, iisFormed_M fu x = some (GType.formB x)) : gContainsFunc_Type__iisFormed_1_M (fu + 3) xs = some (!(GType.formBs xs)) := by
  show bd (so (loopN _ _ _ _) _) _ = _
  rw [loopN_index (p := fun x => !(GType.formB x)) (fun i hi => by
    unfold gIndexFunc_Type__iisFormed_1_F1
    show bd (bd (iisFormed_M fu _) _) _ = _
    rw [h _ (atD_mem hi)]
    cases GType.formB (atD xs i) <;> rfl)]
  have h2 := index_any (l := xs) (p := fun x => !(GType.formB x))
  have h3 : (!(GType.formBs xs)) = xs.any fun x => !(GType.formB x) := by rw [GType.formBs_all, List.any_eq_not_all_not]; simp
  rw [h3, ← h2]
  cases List.findIdx? (fun x => !(GType.formB x)) xs <;> rfl
theorem form_i : ∀ t : GType, Evt fun fu => iisFormed_M fu t = some (GType.formB t) := by
  refine GType.ind fun k n xs ih => ?_
  have hh : Evt fun fu => ∀ x ∈ xs, iisFormed_M fu x = some (GType.formB x) := Evt.list (l := xs) fun x hx => ih x hx
  refine Evt.succ (Evt.succ (Evt.succ (Evt.succ (hh.imp fun fu h => ?_))))
  have hc := cont_i h
  show iisFormed_G (fu + 3) _ _ _ _ _ = _
  unfold iisFormed_G iisFormed_C1
  rw [GType.gKind_mk, GType.gName_mk, GType.gArgs_mk, hc, name_i, base_i, GType.formB]
  unfold fineB
  by_cases h1 : k = 1
  · subst h1
    cases nmB n <;> cases decide (((xs.length : Nat) : Int) = 0) <;> cases GType.formBs xs <;> rfl
  · by_cases h4 : k = 4
    · subst h4
      cases nmB n <;> cases decide (((xs.length : Nat) : Int) = 0) <;> cases GType.formBs xs <;> rfl
    · rw [if_neg (by omega), decide_eq_false h1, decide_eq_false h4]
      by_cases h3 : k = 3
      · subst h3
        cases nmB n <;> cases decide (((xs.length : Nat) : Int) = 1) <;> cases GType.formBs xs <;> rfl
      · rw [if_neg h3, decide_eq_false h3]
        by_cases h2 : k = 2
        · subst h2
          cases nmB n <;> cases baseB n <;> cases decide (((xs.length : Nat) : Int) = 0) <;> cases decide (((xs.length : Nat) : Int) ≤ 3) <;> cases GType.formBs xs <;> rfl
        · rw [if_neg h2, decide_eq_false h2]
          rfl
theorem form_s : ∀ t : GType, Evt fun fu => sl4Form_M fu t = some (GType.formB t) := by
  refine GType.ind fun k n xs ih => ?_
  have hh : Evt fun fu => ∀ x ∈ xs, sl4Form_M fu x = some (GType.formB x) := Evt.list (l := xs) fun x hx => ih x hx
  refine Evt.succ (hh.imp fun fu h => ?_)
  have hl : ∀ x2 v3, sl4Form_R3 fu (sl4Form_M fu) (.mk k n xs) x2 v3 = some (.inr (v3 && GType.formBs xs)) := by
    intro x2 v3
    unfold sl4Form_R3
    rw [GType.gArgs_mk]
    have := loopN_inv (f := sl4Form_F3 fu (sl4Form_M fu) (.mk k n xs) x2 v3) (fun i => v3 && GType.formBs (xs.take i)) (n := xs.length) fun i hi => by
      unfold sl4Form_F3
      rw [GType.gArgs_mk, h _ (atD_mem hi), take_atD hi, GType.formBs_all, GType.formBs_all, List.all_append]
      cases v3 <;> cases (xs.take i).all GType.formB <;> simp [sw, bd]
    rw [List.take_length] at this
    simpa [GType.formBs] using this
  show sl4Form_G fu (sl4Form_M fu) _ = _
  unfold sl4Form_G sl4Form_C1 sl4Form_C2
  rw [GType.gKind_mk, GType.gName_mk, GType.gArgs_mk, name_s, base_s, GType.formB]
  show so _ _ = _
  simp only [hl]
  unfold fineB
  by_cases h1 : k = 1
  · subst h1
    cases nmB n <;> cases decide (((xs.length : Nat) : Int) = 0) <;> cases GType.formBs xs <;> rfl
  · by_cases h4 : k = 4
    · subst h4
      cases nmB n <;> cases decide (((xs.length : Nat) : Int) = 0) <;> cases GType.formBs xs <;> rfl
    · rw [if_neg (by omega), decide_eq_false h1, decide_eq_false h4]
      by_cases h3 : k = 3
      · subst h3
        cases nmB n <;> cases decide (((xs.length : Nat) : Int) = 1) <;> cases GType.formBs xs <;> rfl
      · rw [if_neg h3, decide_eq_false h3]
        by_cases h2 : k = 2
        · subst h2
          cases nmB n <;> cases baseB n <;> cases decide (((xs.length : Nat) : Int) = 0) <;> cases decide (((xs.length : Nat) : Int) ≤ 3) <;> cases GType.formBs xs <;> rfl
        · rw [if_neg h2, decide_eq_false h2]
          rfl
/-! ### valid bounds -/
theorem bd_some {α β : Type} (a : α) (f : α → Option β) : bd (some a) f = f a := rfl
def vldT (t : GType) : Bool := GType.formB t && (decide ((GType.dep t : Int) ≤ 6) && decide ((GType.size t : Int) ≤ 60))
def vldBd (b : GBound) : Bool := nmB b.gTrait && vldT b.gType
theorem vldT_i (t : GType) (h : GType.size t ≤ 4294967296) : Evt fun fu => iIsValidType_M fu t = some (vldT t) := by
  refine ((form_i t).and ((dep_i t h).and (size_i t h))).imp fun fu ⟨h1, h2, h3⟩ => ?_
  unfold iIsValidType_M vldT
  rw [h1, h2, h3]
  simp only [bd_some]
  cases GType.formB t <;> cases decide ((GType.dep t : Int) ≤ 6) <;> cases decide ((GType.size t : Int) ≤ 60) <;> rfl
theorem vldT_s (t : GType) (h : GType.size t ≤ 4294967296) : Evt fun fu => sIsValidType_M fu t = some (vldT t) := by
  refine ((form_s t).and ((dep_s t h).and (left_s t))).imp fun fu ⟨h1, h2, h3⟩ => ?_
  obtain ⟨r, hr, hp⟩ := h3 60 (by decide) (by decide)
  unfold sIsValidType_M vldT
  rw [hr]
  have : decide (r ≥ 0) = decide ((GType.size t : Int) ≤ 60) := by
    by_cases hs : (GType.size t : Int) ≤ 60
    · rw [decide_eq_true hs]; exact decide_eq_true (by omega)
    · rw [decide_eq_false hs]; exact decide_eq_false (by omega)
  show sw (decide (r ≥ 0)) _ _ = _
  rw [this, h1, h2]
  simp only [bd_some]
  cases GType.formB t <;> cases decide ((GType.dep t : Int) ≤ 6) <;> cases decide ((GType.size t : Int) ≤ 60) <;> rfl
theorem vldBd_i (b : GBound) (h : GType.size b.gType ≤ 4294967296) : Evt fun fu => iIsValidBound_M fu b = some (vldBd b) := by
  refine (vldT_i b.gType h).imp fun fu h1 => ?_
  unfold iIsValidBound_M vldBd
  rw [name_i, h1]
  cases nmB b.gTrait <;> rfl
theorem vldBd_s (b : GBound) (h : GType.size b.gType ≤ 4294967296) : Evt fun fu => sIsValidBound_M fu b = some (vldBd b) := by
  refine (vldT_s b.gType h).imp fun fu h1 => ?_
  unfold sIsValidBound_M vldBd
  rw [name_s, h1]
  cases nmB b.gTrait <;> rfl
end Go.Proofs.YtmpepccpnnldoaaGreat

namespace Go.Proofs.YtmpepccpnnldoaaGreat
set_option linter.unusedSimpArgs false
set_option linter.unusedVariables false
open Go.RowKit Go.Proofs

theorem dataApp (a b : ByteArray) : (a ++ b).data.toList = a.data.toList ++ b.data.toList := by
  obtain ⟨a⟩ := a
  obtain ⟨b⟩ := b
  rw [ByteArray.mk_append_mk]
theorem dataLen (a : ByteArray) : a.data.toList.length = a.size := by rw [Array.length_toList]; rfl
theorem dataInj {a b : ByteArray} (h : a.data.toList = b.data.toList) : a = b := by
  obtain ⟨a⟩ := a
  obtain ⟨b⟩ := b
  have : a = b := Array.ext' h
  rw [this]
theorem bAt_data {v : ByteArray} {k : Nat} (h : k < v.size) : bAt v k = v.data.toList[k]'(by rw [dataLen]; exact h) := by
  unfold bAt
  rw [getElem?_pos v k h]
  rfl
theorem bAt_mem {v : ByteArray} {k : Nat} (h : k < v.size) : bAt v k ∈ v.data.toList := by rw [bAt_data h]; exact List.getElem_mem _

mutual
def GType.enc : GType → GSExpr
  | .mk k n xs => if k = 1 then .mk (x_27 ++ n) [] else if k = 4 then .mk s_ [.mk s_dyn [], .mk n []] else if k = 3 then .mk s_ (.mk s_assoc [] :: .mk n [] :: GType.encs xs) else if xs.length = 0 then .mk n [] else .mk s_ (.mk n [] :: GType.encs xs)
def GType.encs : List GType → List GSExpr
  | [] => []
  | x :: r => GType.enc x :: GType.encs r
end
theorem GType.encs_map : ∀ xs : List GType, GType.encs xs = xs.map GType.enc
  | [] => rfl
  | x :: r => by rw [GType.encs, List.map_cons, GType.encs_map r]

theorem nm_size {n : ByteArray} (h : nmB n = true) : 1 ≤ n.size ∧ n.size ≤ 8 := by
  unfold nmB at h
  simp only [Bool.and_eq_true, decide_eq_true_eq] at h
  omega
theorem form_inv {k : Int} {n : ByteArray} {xs : List GType} (h : GType.formB (.mk k n xs) = true) :
    (k = 1 ∨ k = 4 ∨ k = 3 ∨ k = 2) ∧ (nmB n = true ∨ (k = 2 ∧ (n = s_int ∨ n = s_bool))) ∧ (k = 1 ∨ k = 4 → xs = []) ∧ (k = 3 → xs.length = 1) ∧ xs.length ≤ 3 ∧ ∀ x ∈ xs, GType.formB x = true := by
  rw [GType.formB, GType.formBs_all, Bool.and_eq_true] at h
  obtain ⟨hf, ha⟩ := h
  have ha : ∀ x ∈ xs, GType.formB x = true := by simpa using ha
  unfold fineB at hf
  split at hf
  · rename_i hk
    simp only [Bool.and_eq_true, decide_eq_true_eq] at hf
    have h0 : xs = [] := List.eq_nil_of_length_eq_zero (by omega)
    subst h0
    exact ⟨by omega, .inl hf.1, fun _ => rfl, fun h3 => by omega, by simp, ha⟩
  · rename_i hk
    split at hf
    · rename_i hk3
      simp only [Bool.and_eq_true, decide_eq_true_eq] at hf
      exact ⟨by omega, .inl hf.1, fun h => absurd h hk, fun _ => by omega, by omega, ha⟩
    · rename_i hk3
      split at hf
      · rename_i hk2
        simp only [Bool.and_eq_true, Bool.or_eq_true, decide_eq_true_eq, baseB] at hf
        rcases hf with hf | hf
        · exact ⟨by omega, .inl hf.1, fun h => absurd h hk, fun h => absurd h hk3, by omega, ha⟩
        · exact ⟨by omega, .inr ⟨hk2, hf.1⟩, fun h => absurd h hk, fun h => absurd h hk3, by omega, ha⟩
      · cases hf
theorem form_size {k : Int} {n : ByteArray} {xs : List GType} (h : GType.formB (.mk k n xs) = true) : 1 ≤ n.size ∧ n.size ≤ 8 := by
  rcases (form_inv h).2.1 with h | ⟨-, rfl | rfl⟩
  · exact nm_size h
  · decide
  · decide

theorem enc_i : ∀ t : GType, GType.formB t = true → Evt fun fu => iencodeType_M fu t = some (GType.enc t) := by
  refine GType.ind fun k n xs ih hf => ?_
  have hz := form_size hf
  obtain ⟨hk, -, h14, h3, hl, hx⟩ := form_inv hf
  have hh : Evt fun fu => ∀ x ∈ xs, iencodeType_M fu x = some (GType.enc x) := Evt.list (l := xs) fun x hm => ih x hm (hx x hm)
  have hes : Evt fun fu => iencodeTypes_M fu xs = some (GType.encs xs) := by
    refine Evt.succ (hh.imp fun fu h => ?_)
    show iencodeTypes_G fu _ _ xs = _
    unfold iencodeTypes_G iencodeTypes_R1
    refine soR (loopN_inv (fun i => (xs.take i).map GType.enc) (n := xs.length) fun i hi => ?_) ?_
    · unfold iencodeTypes_F1
      rw [h _ (atD_mem hi), bd_some, gdT (by simp; omega) rfl, take_atD hi, List.map_append]
      rfl
    · rw [List.take_length, GType.encs_map]
  refine Evt.succ ((hh.and hes).imp fun fu ⟨h, he⟩ => ?_)
  show iencodeType_G fu _ _ _ = _
  unfold iencodeType_G
  rw [GType.gKind_mk, GType.gName_mk, GType.gArgs_mk, GType.enc]
  have hz1 : (x_27 : ByteArray).size = 1 := rfl
  by_cases h1 : k = 1
  · rw [if_pos h1, decide_eq_true h1]
    show gd _ _ = _
    rw [gdT (by omega) rfl]
    rfl
  · rw [if_neg h1, decide_eq_false h1]
    by_cases h4 : k = 4
    · rw [if_pos h4, decide_eq_true h4]
      rfl
    · rw [if_neg h4, decide_eq_false h4]
      by_cases h3' : k = 3
      · have hl1 := h3 h3'
        rw [if_pos h3', decide_eq_true h3']
        show gd _ _ = _
        rw [gdT (by omega) rfl, h _ (atD_mem (by omega))]
        match xs, hl1 with
        | [x], _ => rfl
      · rw [if_neg h3', decide_eq_false h3']
        by_cases h0 : xs.length = 0
        · rw [if_pos h0, decide_eq_true (by omega)]
          rfl
        · rw [if_neg h0, decide_eq_false (by omega)]
          show bd (iencodeTypes_M fu xs) _ = _
          rw [he, bd_some, gdT (by rw [GType.encs_map]; simp; omega) rfl]
          rfl
theorem enc_s : ∀ t : GType, GType.formB t = true → Evt fun fu => sl5Sx_M fu t = some (GType.enc t) := by
  refine GType.ind fun k n xs ih hf => ?_
  have hz := form_size hf
  obtain ⟨hk, -, h14, h3, hl, hx⟩ := form_inv hf
  have hh : Evt fun fu => ∀ x ∈ xs, sl5Sx_M fu x = some (GType.enc x) := Evt.list (l := xs) fun x hm => ih x hm (hx x hm)
  refine Evt.succ (hh.imp fun fu h => ?_)
  have hr : ∀ v x, v.length ≤ 1 → sl5Sx_R3 fu (sl5Sx_M fu) (.mk k n xs) v x = some (.inr (v ++ [x] ++ GType.encs xs)) := by
    intro v x hv
    unfold sl5Sx_R3
    rw [GType.gArgs_mk]
    have := loopN_inv (f := sl5Sx_F3 fu (sl5Sx_M fu) (.mk k n xs) v x) (fun i => v ++ [x] ++ (xs.take i).map GType.enc) (n := xs.length) fun i hi => by
      unfold sl5Sx_F3
      rw [GType.gArgs_mk, h _ (atD_mem hi), bd_some, gdT (by simp; omega) rfl, take_atD hi, List.map_append, List.append_assoc _ _ (List.map _ _), List.append_assoc]
      simp
    simp only [List.take_length, List.take_zero, List.map_nil, List.append_nil] at this
    rw [GType.encs_map]
    exact this
  show sl5Sx_G fu (sl5Sx_M fu) _ = _
  unfold sl5Sx_G sl5Sx_C1 sl5Sx_C2
  rw [GType.gKind_mk, GType.gName_mk, GType.gArgs_mk, GType.enc]
  have hz1 : (x_27 : ByteArray).size = 1 := rfl
  by_cases h1 : k = 1
  · rw [if_pos h1, decide_eq_true h1]
    show so (gd _ _) _ = _
    rw [gdT (by omega) rfl]
    rfl
  · rw [if_neg h1, decide_eq_false h1]
    by_cases h4 : k = 4
    · rw [if_pos h4, decide_eq_true h4]
      show so (bd (gd _ _) _) _ = _
      rw [gdT (by simp) rfl]
      rfl
    · rw [if_neg h4, decide_eq_false h4]
      by_cases h3' : k = 3
      · rw [if_pos h3', decide_eq_false (by omega : ¬ k = 2), decide_eq_true h3']
        show so (gd _ _) _ = _
        rw [gdT (by simp) rfl]
        show gd _ _ = _
        rw [gdT (by simp) rfl]
        show so (sl5Sx_R3 fu (sl5Sx_M fu) (.mk k n xs) _ _) _ = _
        rw [hr _ _ (by simp)]
        rfl
      · have h2 : k = 2 := by omega
        rw [if_neg h3', decide_eq_true h2, decide_eq_false h3']
        by_cases h0 : xs.length = 0
        · rw [if_pos h0, decide_eq_true (by omega)]
          rfl
        · rw [if_neg h0, decide_eq_false (by omega)]
          show gd _ _ = _
          rw [gdT (by simp) rfl]
          show so (sl5Sx_R3 fu (sl5Sx_M fu) (.mk k n xs) _ _) _ = _
          rw [hr _ _ (by simp)]
          rfl
end Go.Proofs.YtmpepccpnnldoaaGreat

namespace Go.Proofs.YtmpepccpnnldoaaGreat
set_option linter.unusedSimpArgs false
set_option linter.unusedVariables false
open Go.RowKit Go.Proofs

def okC39 (c : UInt8) : Bool := lowC c || (digC c || decide ((c.toNat : Int) = 39))
/-- A valid atom, and no other byte than a name has and 39. -/
structure AtomG (a : ByteArray) : Prop where
  low : 1 ≤ a.size
  up : a.size ≤ 12
  all : ∀ c ∈ a.data.toList, okC39 c = true
mutual
def GSExpr.okF : GSExpr → Prop
  | .mk a l => (AtomG a ∧ l = []) ∨ (a = s_ ∧ GSExpr.okFs l)
def GSExpr.okFs : List GSExpr → Prop
  | [] => True
  | x :: r => GSExpr.okF x ∧ GSExpr.okFs r
end
mutual
def GSExpr.cnt : GSExpr → Nat
  | .mk _ l => 1 + GSExpr.cnts l
def GSExpr.cnts : List GSExpr → Nat
  | [] => 0
  | x :: r => GSExpr.cnt x + GSExpr.cnts r
end
mutual
def GSExpr.dp : GSExpr → Nat
  | .mk a l => if a = s_ then GSExpr.dps l + 1 else 0
def GSExpr.dps : List GSExpr → Nat
  | [] => 0
  | x :: r => max (GSExpr.dp x) (GSExpr.dps r)
end
theorem GSExpr.okFs_all : ∀ {l : List GSExpr}, GSExpr.okFs l → ∀ x ∈ l, GSExpr.okF x
  | [], _, x, h => by simp at h
  | a :: l, ⟨h1, h2⟩, x, h => by
    rcases List.mem_cons.1 h with rfl | h
    · exact h1
    · exact GSExpr.okFs_all h2 x h
theorem GSExpr.cnts_app : ∀ a b : List GSExpr, GSExpr.cnts (a ++ b) = GSExpr.cnts a + GSExpr.cnts b
  | [], b => by simp [GSExpr.cnts]
  | x :: r, b => by rw [List.cons_append, GSExpr.cnts, GSExpr.cnts, GSExpr.cnts_app r b]; omega
theorem GSExpr.dps_app : ∀ a b : List GSExpr, GSExpr.dps (a ++ b) = max (GSExpr.dps a) (GSExpr.dps b)
  | [], b => by simp [GSExpr.dps]
  | x :: r, b => by rw [List.cons_append, GSExpr.dps, GSExpr.dps, GSExpr.dps_app r b]; omega
theorem GSExpr.cnts_le {xs : List GSExpr} {x : GSExpr} (h : x ∈ xs) : GSExpr.cnt x ≤ GSExpr.cnts xs := by
  induction xs with
  | nil => simp at h
  | cons a r ih =>
    rw [GSExpr.cnts]
    rcases List.mem_cons.1 h with rfl | h
    · omega
    · have := ih h; omega
theorem GSExpr.dp_sz : ∀ t : GSExpr, GSExpr.dp t ≤ GSExpr.cnt t := by
  refine GSExpr.ind fun a xs ih => ?_
  rw [GSExpr.dp, GSExpr.cnt]
  have : ∀ l : List GSExpr, (∀ x ∈ l, GSExpr.dp x ≤ GSExpr.cnt x) → GSExpr.dps l ≤ GSExpr.cnts l := by
    intro l
    induction l with
    | nil => intro _; simp [GSExpr.dps]
    | cons a l ihl =>
      intro h
      have h1 := h a (by simp)
      have h2 := ihl fun x hx => h x (by simp [hx])
      rw [GSExpr.dps, GSExpr.cnts]
      omega
  have := this xs ih
  split <;> omega

/-! ### atoms -/
theorem abyte_i (fu : Nat) {c : UInt8} (h : okC39 c = true) : iisAtomByte_M fu c = some true := by
  unfold iisAtomByte_M
  rw [low_i, dig_i, bd_some]
  unfold okC39 at h
  cases hl : lowC c
  · cases hd : digC c
    · rw [hl, hd] at h
      have h : (c.toNat : Int) = 39 := by simpa using h
      have hc : c = 39 := by
        apply UInt8.toNat_inj.1
        have : (39 : UInt8).toNat = 39 := rfl
        omega
      subst hc
      show gd _ _ = _
      exact gdT (by decide) (by decide)
    · rfl
  · rfl
theorem abyte_s (fu : Nat) {c : UInt8} (h : okC39 c = true) : sl2Byte_M fu c = some true := by
  unfold sl2Byte_M
  unfold okC39 lowC digC at h
  cases h1 : decide ((c.toNat : Int) ≥ 97) <;> cases h2 : decide ((c.toNat : Int) ≤ 122) <;> cases h3 : decide ((c.toNat : Int) ≥ 48) <;> cases h4 : decide ((c.toNat : Int) ≤ 57) <;> cases h5 : decide ((c.toNat : Int) = 39) <;> rw [h1, h2, h3, h4, h5] at h <;> first | rfl | cases h
theorem all_range {n : Nat} {p : Nat → Bool} (h : ∀ i, i < n → p i = true) : (List.range n).all p = true := by
  rw [List.all_eq_true]
  intro i hi
  exact h i (by simpa using hi)
theorem atom_i (fu : Nat) {a : ByteArray} (h : AtomG a) : iIsValidAtom_M fu a = some true := by
  unfold iIsValidAtom_M iIsValidAtom_R1
  rw [loopN_rng (p := fun _ => true) (r := false) (fun i hi => by
    unfold iIsValidAtom_F1
    rw [gdT hi rfl, abyte_i fu (h.all _ (bAt_mem hi))]
    rfl), all_range (fun _ _ => rfl)]
  have h1 := h.low
  have h2 := h.up
  show sw _ _ _ = _
  rw [decide_eq_true (by omega), decide_eq_true (by omega)]
  rfl
theorem atom_s (fu : Nat) {a : ByteArray} (h : AtomG a) : sIsValidAtom_M fu a = some true := by
  unfold sIsValidAtom_M sIsValidAtom_R1
  rw [loopN_rng (p := fun _ => true) (r := false) (fun i hi => by
    unfold sIsValidAtom_F1
    rw [gdT hi rfl, abyte_s fu (h.all _ (bAt_mem hi))]
    rfl), all_range (fun _ _ => rfl)]
  have h1 := h.low
  have h2 := h.up
  show bd (sl1In_M _ _ _ _) _ = _
  rw [in_s, decide_eq_true (by omega), decide_eq_true (by omega)]
  rfl
theorem AtomG.ne {a : ByteArray} (h : AtomG a) : ¬ a = s_ := fun e => by have := h.low; rw [e] at this; exact absurd this (by decide)

/-! ### the form -/
theorem form2_i : ∀ x : GSExpr, GSExpr.okF x → Evt fun fu => iareAtoms_M fu x = some true := by
  refine GSExpr.ind fun a xs ih hf => ?_
  rw [GSExpr.okF] at hf
  rcases hf with ⟨ha, rfl⟩ | ⟨rfl, hl⟩
  · refine Evt.succ (Evt.all fun fu => ?_)
    show iareAtoms_G fu _ _ _ _ _ = _
    unfold iareAtoms_G
    rw [GSExpr.gAtom_mk, GSExpr.gList_mk, atom_i fu ha, decide_eq_false ha.ne]
    rfl
  · have hh : Evt fun fu => ∀ x ∈ xs, iareAtoms_M fu x = some true := Evt.list (l := xs) fun x hm => ih x hm (GSExpr.okFs_all hl x hm)
    refine Evt.succ (Evt.succ (Evt.succ (Evt.succ (hh.imp fun fu h => ?_))))
    have hc : gContainsFunc_SExpr__iareAtoms_1_M (fu + 3) xs = some false := by
      show bd (so (loopN _ _ _ _) _) _ = _
      rw [loopN_index (p := fun _ => false) (fun i hi => by
        unfold gIndexFunc_SExpr__iareAtoms_1_F1
        show bd (bd (iareAtoms_M fu _) _) _ = _
        rw [h _ (atD_mem hi)]
        rfl)]
      have h2 := index_any (l := xs) (p := fun _ => false)
      have h3 : (xs.any fun _ => false) = false := by simp
      rw [h3] at h2
      cases hf : List.findIdx? (fun _ => false) xs with
      | none => rfl
      | some i =>
        rw [hf] at h2
        exact congrArg some h2
    show iareAtoms_G (fu + 3) _ _ _ _ _ = _
    unfold iareAtoms_G
    rw [GSExpr.gAtom_mk, GSExpr.gList_mk, hc, decide_eq_true rfl]
    rfl
theorem form2_s : ∀ x : GSExpr, GSExpr.okF x → Evt fun fu => sl2Form_M fu x = some true := by
  refine GSExpr.ind fun a xs ih hf => ?_
  rw [GSExpr.okF] at hf
  rcases hf with ⟨ha, rfl⟩ | ⟨rfl, hl⟩
  · refine Evt.succ (Evt.all fun fu => ?_)
    show sl2Form_G fu _ _ = _
    unfold sl2Form_G
    rw [GSExpr.gAtom_mk, GSExpr.gList_mk, atom_s fu ha, decide_eq_false ha.ne]
    rfl
  · have hh : Evt fun fu => ∀ x ∈ xs, sl2Form_M fu x = some true := Evt.list (l := xs) fun x hm => ih x hm (GSExpr.okFs_all hl x hm)
    refine Evt.succ (hh.imp fun fu h => ?_)
    show sl2Form_G fu _ _ = _
    unfold sl2Form_G sl2Form_R1
    rw [GSExpr.gAtom_mk, GSExpr.gList_mk, decide_eq_true rfl]
    show so (loopN _ _ _ _) _ = _
    rw [loopN_every (p := fun _ => true) (r := false) (fun i hi => by
      unfold sl2Form_F1
      rw [GSExpr.gList_mk, h _ (atD_mem hi)]
      rfl)]
    rw [if_pos (by simp)]
    rfl
/-! ### depth and size -/
theorem dp_i : ∀ t : GSExpr, GSExpr.cnt t ≤ 4294967296 → Evt fun fu => iSExprDepth_M fu t = some (GSExpr.dp t : Int) := by
  refine GSExpr.ind fun a xs ih hz => ?_
  rw [GSExpr.cnt] at hz
  refine Evt.succ ((Evt.list (l := xs) fun x hx => ih x hx (by have := GSExpr.cnts_le hx; omega)).imp fun fu h => ?_)
  show iSExprDepth_G fu (iSExprDepth_M fu) _ = _
  unfold iSExprDepth_G iSExprDepth_R1
  rw [GSExpr.gAtom_mk, GSExpr.gList_mk, GSExpr.dp]
  by_cases ha : a = s_
  · rw [if_pos ha, decide_eq_true ha]
    have hd : GSExpr.dps xs ≤ GSExpr.cnts xs := by
      have : ∀ l : List GSExpr, GSExpr.dps l ≤ GSExpr.cnts l := by
        intro l
        induction l with
        | nil => simp [GSExpr.dps]
        | cons a l ihl =>
          have h1 := GSExpr.dp_sz a
          rw [GSExpr.dps, GSExpr.cnts]
          omega
      exact this xs
    refine soR (loopN_inv (fun i => ((GSExpr.dps (xs.take i) : Nat) : Int)) (n := xs.length) fun i hi => ?_) ?_
    · unfold iSExprDepth_F1
      have hm := atD_mem hi
      rw [GSExpr.gList_mk, h _ hm, take_atD hi, GSExpr.dps_app]
      show some (LR.next (max _ _)) = _
      simp only [GSExpr.dps]
      congr 2
      omega
    · rw [List.take_length, wrap_in (by omega) (by omega)]
      congr 1
  · rw [if_neg ha, decide_eq_false ha]
    rfl
theorem dp_s : ∀ t : GSExpr, GSExpr.cnt t ≤ 4294967296 → Evt fun fu => sSExprDepth_M fu t = some (GSExpr.dp t : Int) := by
  refine GSExpr.ind fun a xs ih hz => ?_
  rw [GSExpr.cnt] at hz
  refine Evt.succ ((Evt.list (l := xs) fun x hx => ih x hx (by have := GSExpr.cnts_le hx; omega)).imp fun fu h => ?_)
  show sSExprDepth_G fu (sSExprDepth_M fu) _ = _
  unfold sSExprDepth_G sSExprDepth_R1
  rw [GSExpr.gAtom_mk, GSExpr.gList_mk, GSExpr.dp]
  by_cases ha : a = s_
  · rw [if_pos ha, decide_eq_true ha]
    have hd : GSExpr.dps xs ≤ GSExpr.cnts xs := by
      have : ∀ l : List GSExpr, GSExpr.dps l ≤ GSExpr.cnts l := by
        intro l
        induction l with
        | nil => simp [GSExpr.dps]
        | cons a l ihl =>
          have h1 := GSExpr.dp_sz a
          rw [GSExpr.dps, GSExpr.cnts]
          omega
      exact this xs
    refine soR (loopN_inv (fun i => ((GSExpr.dps (xs.take i) : Nat) : Int)) (n := xs.length) fun i hi => ?_) ?_
    · unfold sSExprDepth_F1
      have hm := atD_mem hi
      rw [GSExpr.gList_mk, h _ hm, take_atD hi, GSExpr.dps_app]
      show bd (sl1Max_M _ _ _) _ = _
      rw [max_s]
      show some (LR.next _) = _
      simp only [GSExpr.dps]
      congr 2
      omega
    · rw [List.take_length, wrap_in (by omega) (by omega)]
      congr 1
  · rw [if_neg ha, decide_eq_false ha]
    rfl
theorem sz_i : ∀ t : GSExpr, GSExpr.cnt t ≤ 4294967296 → Evt fun fu => iSExprSize_M fu t = some (GSExpr.cnt t : Int) := by
  refine GSExpr.ind fun a xs ih hz => ?_
  rw [GSExpr.cnt] at hz
  refine Evt.succ ((Evt.list (l := xs) fun x hx => ih x hx (by have := GSExpr.cnts_le hx; omega)).imp fun fu h => ?_)
  show iSExprSize_G fu (iSExprSize_M fu) _ = _
  unfold iSExprSize_G iSExprSize_R1
  refine soR (loopN_inv (fun i => ((1 + GSExpr.cnts (xs.take i) : Nat) : Int)) (n := xs.length) fun i hi => ?_) ?_
  · unfold iSExprSize_F1
    have hm := atD_mem hi
    rw [GSExpr.gList_mk, h _ hm]
    have h3 := congrArg GSExpr.cnts (List.take_append_drop (i + 1) xs)
    rw [GSExpr.cnts_app, take_atD hi, GSExpr.cnts_app] at h3
    simp only [GSExpr.cnts] at h3
    show some (LR.next (wrap64 _)) = _
    rw [wrap_in (by omega) (by omega), take_atD hi, GSExpr.cnts_app]
    simp only [GSExpr.cnts]
    congr 2
    omega
  · rw [List.take_length, GSExpr.cnt]
theorem left2_s : ∀ t : GSExpr, Evt fun fu => ∀ L : Int, 0 ≤ L → L ≤ 1000 → Ok (sl2Left_M fu t L) (fun r => ((GSExpr.cnt t : Int) ≤ L ∧ r = L - GSExpr.cnt t) ∨ (L < GSExpr.cnt t ∧ r < 0)) := by
  refine GSExpr.ind fun a xs ih => ?_; refine Evt.succ ((Evt.list (l := xs) fun x hx => ih x hx).imp fun fu h L h0 h1 => ?_)
  show Ok (sl2Left_G fu (sl2Left_M fu) _ L) _
  unfold sl2Left_G sl2Left_R1
  rw [wrap_in (by omega) (by omega), GSExpr.cnt]
  refine Ok.so (Q := PS (fun _ => False) fun v => ((1 + GSExpr.cnts xs : Nat) : Int) ≤ L ∧ v = L - (1 + GSExpr.cnts xs : Nat) ∨ L < ((1 + GSExpr.cnts xs : Nat) : Int) ∧ v < 0) ?_ (fun x hx => by cases hx) (fun v hv => Ok.some hv)
  refine Ok.loopN0 (fun i v => i ≤ xs.length ∧ (((1 + GSExpr.cnts (xs.take i) : Nat) : Int) ≤ L ∧ v = L - (1 + GSExpr.cnts (xs.take i) : Nat) ∨ L < ((1 + GSExpr.cnts (xs.take i) : Nat) : Int) ∧ v < 0)) ⟨Nat.zero_le _, ?_⟩ ?_ ?_
  · simp only [List.take_zero, GSExpr.cnts]
    omega
  · rintro i v hi ⟨hi2, hv⟩
    obtain rfl : i = xs.length := by rw [GSExpr.gList_mk] at hi; omega
    rwa [List.take_length] at hv
  · rintro i v hi ⟨hi2, hv⟩
    rw [GSExpr.gList_mk] at hi
    have h3 := congrArg GSExpr.cnts (List.take_append_drop i xs)
    rw [GSExpr.cnts_app] at h3
    unfold sl2Left_F1
    refine Ok.sw (fun hc => ?_) (fun hc => ?_)
    · have hc : v ≥ 0 := by simpa using hc
      rw [GSExpr.gList_mk]
      refine Ok.bd (h _ (atD_mem hi) v hc (by omega)) fun r hr => Ok.some ⟨hi, ?_⟩
      rw [take_atD hi, GSExpr.cnts_app]
      simp only [GSExpr.cnts]
      omega
    · have hc : ¬ v ≥ 0 := by simpa using hc
      refine Ok.some ?_
      show _ ∨ _
      omega
theorem vldX_i {x : GSExpr} (h1 : GSExpr.okF x) (h2 : GSExpr.cnt x ≤ 900) (h3 : GSExpr.dp x ≤ 14) : Evt fun fu => iIsValidSExpr_M fu x = some true := by
  refine ((form2_i x h1).and ((dp_i x (by omega)).and (sz_i x (by omega)))).imp fun fu ⟨e1, e2, e3⟩ => ?_
  unfold iIsValidSExpr_M
  rw [e1, e2, e3]
  simp only [bd_some]
  rw [decide_eq_true (by omega), decide_eq_true (by omega)]
  rfl
theorem vldX_s {x : GSExpr} (h1 : GSExpr.okF x) (h2 : GSExpr.cnt x ≤ 900) (h3 : GSExpr.dp x ≤ 14) : Evt fun fu => sIsValidSExpr_M fu x = some true := by
  refine ((form2_s x h1).and ((dp_s x (by omega)).and (left2_s x))).imp fun fu ⟨e1, e2, e3⟩ => ?_
  obtain ⟨r, hr, hp⟩ := e3 900 (by decide) (by decide)
  unfold sIsValidSExpr_M
  rw [hr, e1, e2]
  simp only [bd_some]
  rw [decide_eq_true (by omega), decide_eq_true (by omega)]
  rfl
end Go.Proofs.YtmpepccpnnldoaaGreat

namespace Go.Proofs.YtmpepccpnnldoaaGreat
set_option linter.unusedSimpArgs false
set_option linter.unusedVariables false
open Go.RowKit Go.Proofs

theorem atom_chars {n : ByteArray} (h : ∀ i, i < n.size → okC39 (bAt n i) = true) : ∀ c ∈ n.data.toList, okC39 c = true := by
  intro c hc
  obtain ⟨i, hi, rfl⟩ := List.getElem_of_mem hc
  have hi2 : i < n.size := by rwa [dataLen] at hi
  rw [← bAt_data hi2]
  exact h i hi2
theorem atom_nm {n : ByteArray} (h : nmB n = true) : AtomG n := by
  have hz := nm_size h
  refine ⟨hz.1, by omega, atom_chars fun i hi => ?_⟩
  unfold nmB at h
  rw [Bool.and_eq_true, List.all_eq_true] at h
  have h1 := h.1 i (by simpa using hi)
  unfold nmAt at h1
  unfold okC39
  cases hl : lowC (bAt n i)
  · rw [hl] at h1
    cases hd : digC (bAt n i)
    · rw [hd] at h1; simp at h1
    · rfl
  · rfl
theorem atom_int : AtomG s_int := ⟨by decide, by decide, by decide⟩
theorem atom_bool : AtomG s_bool := ⟨by decide, by decide, by decide⟩
theorem atom_dyn : AtomG s_dyn := ⟨by decide, by decide, by decide⟩
theorem atom_assoc : AtomG s_assoc := ⟨by decide, by decide, by decide⟩
theorem atom_var {n : ByteArray} (h : nmB n = true) : AtomG (x_27 ++ n) := by
  have hz := nm_size h
  have ha := atom_nm h
  have e : (x_27 ++ n).size = 1 + n.size := by rw [← dataLen, dataApp, List.length_append, dataLen, dataLen]; rfl
  refine ⟨by omega, by omega, fun c hc => ?_⟩
  rw [dataApp, List.mem_append] at hc
  rcases hc with hc | hc
  · have : c = 39 := by simpa using hc
    subst this
    decide
  · exact ha.all c hc
theorem atom_form {k : Int} {n : ByteArray} {xs : List GType} (h : GType.formB (.mk k n xs) = true) : AtomG n := by
  rcases (form_inv h).2.1 with h | ⟨-, rfl | rfl⟩
  · exact atom_nm h
  · exact atom_int
  · exact atom_bool
theorem AtomG.okF {a : ByteArray} (h : AtomG a) : GSExpr.okF (.mk a []) := by rw [GSExpr.okF]; exact .inl ⟨h, rfl⟩
theorem AtomG.dp {a : ByteArray} (h : AtomG a) : GSExpr.dp (.mk a []) = 0 := by rw [GSExpr.dp, if_neg h.ne]
theorem cnt_atom (a : ByteArray) : GSExpr.cnt (.mk a []) = 1 := by rw [GSExpr.cnt, GSExpr.cnts]
theorem enc_ok : ∀ t : GType, GType.formB t = true → GSExpr.okF (GType.enc t) ∧ GSExpr.cnt (GType.enc t) ≤ 3 * GType.size t ∧ GSExpr.dp (GType.enc t) ≤ GType.dep t + 1 := by
  refine GType.ind fun k n xs ih hf => ?_
  have ha := atom_form hf
  obtain ⟨hk, hn, h14, h3, hl, hx⟩ := form_inv hf
  have hE : ∀ l : List GType, (∀ x ∈ l, GSExpr.okF (GType.enc x) ∧ GSExpr.cnt (GType.enc x) ≤ 3 * GType.size x ∧ GSExpr.dp (GType.enc x) ≤ GType.dep x + 1) →
      GSExpr.okFs (GType.encs l) ∧ GSExpr.cnts (GType.encs l) ≤ 3 * GType.sizes l ∧ GSExpr.dps (GType.encs l) ≤ GType.deps l := by
    intro l
    induction l with
    | nil => intro _; exact ⟨trivial, by simp [GType.encs, GSExpr.cnts], by simp [GType.encs, GSExpr.dps]⟩
    | cons a l ihl =>
      intro h
      obtain ⟨a1, a2, a3⟩ := h a (by simp)
      obtain ⟨b1, b2, b3⟩ := ihl fun x hx => h x (by simp [hx])
      rw [GType.encs, GSExpr.cnts, GSExpr.dps, GType.sizes, GType.deps]
      exact ⟨⟨a1, b1⟩, by omega, by omega⟩
  obtain ⟨e1, e2, e3⟩ := hE xs fun x hm => ih x hm (hx x hm)
  have hatt : ∀ a l, AtomG a → GSExpr.okFs l → GSExpr.okFs (.mk a [] :: l) := fun a l h1 h2 => ⟨h1.okF, h2⟩
  rw [GType.enc, GType.size, GType.dep]
  by_cases h1 : k = 1
  · have hv : nmB n = true := hn.resolve_right fun h => by omega
    rw [if_pos h1, cnt_atom, (atom_var hv).dp]
    exact ⟨(atom_var hv).okF, by omega, by omega⟩
  · rw [if_neg h1]
    by_cases h4 : k = 4
    · rw [if_pos h4, GSExpr.cnt, GSExpr.cnts, GSExpr.cnts, GSExpr.cnts, cnt_atom, cnt_atom, GSExpr.dp, if_pos rfl, GSExpr.dps, GSExpr.dps, GSExpr.dps, atom_dyn.dp, ha.dp, GSExpr.okF]
      exact ⟨.inr ⟨rfl, hatt _ _ atom_dyn (hatt _ _ ha trivial)⟩, by omega, by omega⟩
    · rw [if_neg h4]
      by_cases h3' : k = 3
      · rw [if_pos h3', GSExpr.cnt, GSExpr.cnts, GSExpr.cnts, cnt_atom, cnt_atom, GSExpr.dp, if_pos rfl, GSExpr.dps, GSExpr.dps, atom_assoc.dp, ha.dp, GSExpr.okF]
        exact ⟨.inr ⟨rfl, hatt _ _ atom_assoc (hatt _ _ ha e1)⟩, by omega, by omega⟩
      · rw [if_neg h3']
        by_cases h0 : xs.length = 0
        · rw [if_pos h0, cnt_atom, ha.dp]
          exact ⟨ha.okF, by omega, by omega⟩
        · rw [if_neg h0, GSExpr.cnt, GSExpr.cnts, cnt_atom, GSExpr.dp, if_pos rfl, GSExpr.dps, ha.dp, GSExpr.okF]
          exact ⟨.inr ⟨rfl, hatt _ _ ha e1⟩, by omega, by omega⟩

/-! ### the text -/
theorem GSExpr.txts_app : ∀ (z : Bool) (a b : List GSExpr), GSExpr.txts z (a ++ b) = GSExpr.txts z a ++ GSExpr.txts (z && a.isEmpty) b
  | z, [], b => by simp [GSExpr.txts]
  | z, x :: r, b => by
    rw [List.cons_append, GSExpr.txts, GSExpr.txts, GSExpr.txts_app false r b]
    simp
theorem GSExpr.cnts_len : ∀ l : List GSExpr, l.length ≤ GSExpr.cnts l
  | [] => by simp
  | .mk a xs :: r => by
    have := GSExpr.cnts_len r
    rw [GSExpr.cnts, GSExpr.cnt, List.length_cons]
    omega
theorem txts_len : ∀ {l : List GSExpr}, (∀ x ∈ l, (GSExpr.txt x).length + 1 ≤ 16 * GSExpr.cnt x) → ∀ z, (GSExpr.txts z l).length ≤ 16 * GSExpr.cnts l
  | [], _, z => by simp [GSExpr.txts]
  | x :: r, h, z => by
    have h1 := h x (by simp)
    have h2 := txts_len (l := r) (fun y hy => h y (by simp [hy])) false
    have h3 : (if z = true then [] else [32] : List UInt8).length ≤ 1 := by split <;> simp
    rw [GSExpr.txts, GSExpr.cnts, List.length_append, List.length_append]
    omega
theorem txt_len : ∀ x : GSExpr, GSExpr.okF x → (GSExpr.txt x).length + 1 ≤ 16 * GSExpr.cnt x := by
  refine GSExpr.ind fun a xs ih hf => ?_
  rw [GSExpr.okF] at hf
  rw [GSExpr.txt, GSExpr.cnt]
  rcases hf with ⟨ha, rfl⟩ | ⟨rfl, hl⟩
  · rw [if_neg ha.ne, dataLen]
    have := ha.up
    omega
  · have := txts_len (l := xs) (fun x hx => ih x hx (GSExpr.okFs_all hl x hx)) true
    rw [if_pos rfl]
    simp only [List.length_cons, List.length_append, List.length_nil]
    omega
theorem atD_map {α β : Type} [Inhabited α] [Inhabited β] {f : α → β} {l : List α} {i : Nat} (h : i < l.length) : atD (l.map f) i = f (atD l i) := by
  rw [atD_eq (by simpa using h), atD_eq h, List.getElem_map]
theorem bytesStr_data (l : List UInt8) : (bytesStr l).data.toList = l := by unfold bytesStr; simp
theorem join_s (fu : Nat) (xs : List GSExpr) (h : (GSExpr.txts true xs).length ≤ 68719476736) : sJoin_M fu (xs.map fun y => bytesStr (GSExpr.txt y)) x_20 = some (bytesStr (GSExpr.txts true xs)) := by
  unfold sJoin_M sJoin_R1
  have hw : ∀ i, i < xs.length → GSExpr.txts true xs = GSExpr.txts true (xs.take i) ++ ((if (i == 0) then [] else [32]) ++ (GSExpr.txt (atD xs i) ++ GSExpr.txts false (xs.drop (i + 1)))) := by
    intro i hi
    have h1 := GSExpr.txts_app true (xs.take i) (xs.drop i)
    rw [List.take_append_drop] at h1
    have h2 : (true && (xs.take i).isEmpty) = (i == 0) := by
      cases i with
      | zero => simp
      | succ i =>
        have : xs ≠ [] := by intro e; subst e; simp at hi
        simp [this]
    rw [h1, h2, GSExpr.txts_step _ hi, atD_eq hi]
  have hs : ∀ i, i < xs.length → GSExpr.txts true (xs.take (i + 1)) = GSExpr.txts true (xs.take i) ++ ((if (i == 0) then [] else [32]) ++ GSExpr.txt (atD xs i)) := by
    intro i hi
    have h2 : (true && (xs.take i).isEmpty) = (i == 0) := by
      cases i with
      | zero => simp
      | succ i =>
        have : xs ≠ [] := by intro e; subst e; simp at hi
        simp [this]
    rw [take_atD hi, GSExpr.txts_app, h2, GSExpr.txts, GSExpr.txts, List.append_nil]
  have hl : loopN (sJoin_F1 fu (xs.map fun y => bytesStr (GSExpr.txt y)) x_20) (xs.length - 0) 0 [] = some (.inr (GSExpr.txts true xs)) := by
    have := loopN_inv (f := sJoin_F1 fu (xs.map fun y => bytesStr (GSExpr.txt y)) x_20) (fun i => GSExpr.txts true (xs.take i)) (n := xs.length) fun i hi => by
      have e1 := congrArg List.length (hw i hi)
      unfold sJoin_F1
      rw [atD_map hi, bytesStr_data, hs i hi]
      by_cases h0 : i = 0
      · subst h0
        have hb : ((0 : Nat) == 0) = true := rfl
        rw [hb] at e1 ⊢
        simp only [if_true, List.nil_append, List.length_append] at e1 ⊢
        show gd _ _ = _
        exact gdT (by omega) rfl
      · have hb : (i == 0) = false := by simpa using h0
        rw [hb] at e1 ⊢
        rw [decide_eq_true (by omega)]
        simp only [Bool.false_eq_true, if_false, List.length_append, List.length_cons, List.length_nil] at e1 ⊢
        show gd _ (gd _ _) = _
        rw [gdT (by simp; omega) rfl, gdT (by simp; omega) rfl, List.append_assoc]
    rw [List.take_length, List.take_zero, GSExpr.txts] at this
    exact this
  rw [List.length_map, hl]
  rfl
theorem sizeApp (a b : ByteArray) : (a ++ b).size = a.size + b.size := by rw [← dataLen, dataApp, List.length_append, dataLen, dataLen]
theorem text_s : ∀ x : GSExpr, GSExpr.okF x → GSExpr.cnt x ≤ 900 → Evt fun fu => sl2Text_M fu x = some (bytesStr (GSExpr.txt x)) := by
  refine GSExpr.ind fun a xs ih hf hz => ?_
  have hlen := txt_len _ hf
  rw [GSExpr.okF] at hf
  rw [GSExpr.txt] at hlen ⊢
  rcases hf with ⟨ha, rfl⟩ | ⟨rfl, hl⟩
  · refine Evt.succ (Evt.all fun fu => ?_)
    show sl2Text_G fu _ _ = _
    unfold sl2Text_G
    rw [GSExpr.gAtom_mk, decide_eq_false ha.ne, if_neg ha.ne]
    show some a = _
    exact congrArg some (dataInj (bytesStr_data _).symm)
  · rw [GSExpr.cnt] at hz hlen
    rw [if_pos rfl] at hlen ⊢
    have hcl := GSExpr.cnts_len xs
    have hh : Evt fun fu => ∀ x ∈ xs, sl2Text_M fu x = some (bytesStr (GSExpr.txt x)) := Evt.list (l := xs) fun x hm => ih x hm (GSExpr.okFs_all hl x hm) (by have := GSExpr.cnts_le hm; omega)
    refine Evt.succ (hh.imp fun fu h => ?_)
    simp only [List.length_cons, List.length_append, List.length_nil] at hlen
    show sl2Text_G fu _ _ = _
    unfold sl2Text_G sl2Text_R1
    rw [GSExpr.gAtom_mk, GSExpr.gList_mk, decide_eq_true rfl]
    show so (loopN _ _ _ _) _ = _
    refine soR (loopN_inv (fun i => (xs.take i).map fun y => bytesStr (GSExpr.txt y)) (n := xs.length) fun i hi => ?_) ?_
    · unfold sl2Text_F1
      rw [GSExpr.gList_mk, h _ (atD_mem hi), bd_some, gdT (by simp; omega) rfl, take_atD hi, List.map_append]
      rfl
    · rw [List.take_length, join_s fu xs (by omega), bd_some]
      have h28 : (x_28 : ByteArray).size = 1 := rfl
      have h29 : (x_29 : ByteArray).size = 1 := rfl
      rw [gdT (by rw [bytesStr_size]; omega) rfl, gdT (by rw [sizeApp, bytesStr_size]; omega) rfl]
      congr 1
/-! ### the goal -/
def goalX (b : GBound) : GSExpr := .mk s_ [.mk b.gTrait [], GType.enc b.gType]
def goalTxt (b : GBound) : ByteArray := if vldBd b = true then bytesStr (GSExpr.txt (goalX b)) else s_
theorem goal_ok {b : GBound} (h : vldBd b = true) : AtomG b.gTrait ∧ GType.formB b.gType = true ∧ GSExpr.okF (GType.enc b.gType) ∧ GSExpr.cnt (GType.enc b.gType) ≤ 180 ∧ GSExpr.dp (GType.enc b.gType) ≤ 7 := by
  unfold vldBd vldT at h
  simp only [Bool.and_eq_true, decide_eq_true_eq] at h
  obtain ⟨h1, h2, h3, h4⟩ := h
  obtain ⟨e1, e2, e3⟩ := enc_ok _ h2
  exact ⟨atom_nm h1, h2, e1, by omega, by omega⟩
theorem goalX_ok {b : GBound} (h : vldBd b = true) : GSExpr.okF (goalX b) ∧ GSExpr.cnt (goalX b) ≤ 182 ∧ GSExpr.dp (goalX b) ≤ 8 := by
  obtain ⟨h1, h2, h3, h4, h5⟩ := goal_ok h
  unfold goalX
  rw [GSExpr.okF, GSExpr.cnt, GSExpr.cnts, GSExpr.cnts, GSExpr.cnts, cnt_atom, GSExpr.dp, if_pos rfl, GSExpr.dps, GSExpr.dps, GSExpr.dps, h1.dp]
  exact ⟨.inr ⟨rfl, h1.okF, h3, trivial⟩, by omega, by omega⟩
theorem fmt_i (b : GBound) (h : GType.size b.gType ≤ 4294967296) : Evt fun fu => iFormatGoal_M fu b = some (goalTxt b) := by
  cases hv : vldBd b
  · refine (vldBd_i b h).imp fun fu e => ?_
    unfold iFormatGoal_M goalTxt
    rw [e, hv]
    rfl
  · obtain ⟨h1, h2, h3, h4, h5⟩ := goal_ok hv
    obtain ⟨g1, g2, g3⟩ := goalX_ok hv
    have gl := txt_len _ g1
    refine ((vldBd_i b h).and ((enc_i _ h2).and (vldX_i g1 (by omega) (by omega)))).imp fun fu ⟨e1, e2, e3⟩ => ?_
    unfold iFormatGoal_M goalTxt
    rw [e1, e2, hv, if_pos rfl]
    show bd (iFormatSExpr_M fu (goalX b)) _ = _
    unfold iFormatSExpr_M
    rw [e3, bd_some, if_pos rfl, if_pos (by omega)]
    rfl
theorem fmt_s (b : GBound) (h : GType.size b.gType ≤ 4294967296) : Evt fun fu => sFormatGoal_M fu b = some (goalTxt b) := by
  cases hv : vldBd b
  · refine (vldBd_s b h).imp fun fu e => ?_
    unfold sFormatGoal_M goalTxt
    rw [e, hv]
    rfl
  · obtain ⟨h1, h2, h3, h4, h5⟩ := goal_ok hv
    have hl := txt_len _ h3
    have hvt : vldT b.gType = true := by unfold vldBd at hv; simp only [Bool.and_eq_true] at hv; exact hv.2
    refine ((vldBd_s b h).and ((vldT_s _ h).and ((enc_s _ h2).and ((vldX_s h3 (by omega) (by omega)).and (text_s _ h3 (by omega)))))).imp fun fu ⟨e1, e2, e3, e4, e5⟩ => ?_
    have hz := h1.up
    have h28 : (x_28 : ByteArray).size = 1 := rfl
    have h29 : (x_29 : ByteArray).size = 1 := rfl
    have h20 : (x_20 : ByteArray).size = 1 := rfl
    have ht : sFormatType_M fu b.gType = some (bytesStr (GSExpr.txt (GType.enc b.gType))) := by
      unfold sFormatType_M
      rw [e2, e3, hvt]
      show bd (sFormatSExpr_M fu _) _ = _
      unfold sFormatSExpr_M
      rw [e4, e5]
      rfl
    unfold sFormatGoal_M goalTxt
    rw [e1, hv, if_pos rfl, ht]
    show gd _ _ = _
    rw [gdT (by omega) rfl, gdT (by rw [sizeApp]; omega) rfl, bd_some, gdT (by rw [sizeApp, sizeApp, bytesStr_size]; omega) rfl, gdT (by rw [sizeApp, sizeApp, sizeApp, bytesStr_size]; omega) rfl]
    congr 1
    refine dataInj ?_
    rw [dataApp, dataApp, dataApp, dataApp, bytesStr_data, bytesStr_data, goalX, GSExpr.txt, if_pos rfl, GSExpr.txts, GSExpr.txts, GSExpr.txts, GSExpr.txt, if_neg h1.ne]
    simp
end Go.Proofs.YtmpepccpnnldoaaGreat

namespace Go.Proofs.YtmpepccpnnldoaaGreat
open Go.RowKit Go.Proofs

end Go.Proofs.YtmpepccpnnldoaaGreat
